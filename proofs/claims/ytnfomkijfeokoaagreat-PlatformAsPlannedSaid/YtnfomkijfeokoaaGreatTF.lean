/- Part of a proof. No conditions of their own. -/
import Derived.Test.YtnfomkijfeokoaaGreatTE
import Derived.Test.YtnfomkijfeokoaaGreatTD
import Derived.Test.YtnfomkijfeokoaaGreatTB
set_option linter.unusedVariables false
set_option linter.unusedSimpArgs false
set_option linter.unusedSectionVars false
noncomputable section
abbrev QpD:=@List.getElem?_cons_zero
abbrev QpE:=@cond_false
abbrev QpF:=@Int.toNat_natCast
abbrev QpG:=@cond_true
abbrev QpH:=@List.mem_of_getElem?
abbrev QpI:=@List.getElem?_cons_succ
abbrev QpJ:=@List.getElem?_eq_getElem
abbrev QpK:=@List.length_map
abbrev QpL:=@List.getD_eq_getElem?_getD
abbrev QpM:=@decide_eq_false
abbrev QpN:=@List.map_append
abbrev QpO:=@List.append_assoc
abbrev QpP:=@List.mem_append
abbrev QpQ:=@List.mem_cons_self
abbrev QpR:=@List.getElem?_map
abbrev QpS:=@List.mem_cons_of_mem
abbrev QpT:=@Bool.not_true
abbrev QpU:=@List.mem_singleton
abbrev QpV:=@List.getElem?_eq_some_iff
abbrev QpW:=@Nat.le_refl
abbrev QpX:=@List.take_length
abbrev QpY:=@decide_eq_true
abbrev QpZ:=@Int.emod_lt_of_pos
abbrev Qq0:=@Int.emod_nonneg
abbrev Qq1:=@List.pairwise_cons
abbrev Qq2:=@List.length_append
abbrev Qq3:=@List.append_nil
abbrev Qq4:=@List.mem_append_left
abbrev Qq5:=@List.set_cons_zero
abbrev Qq6:=@Bool.and_eq_true
abbrev Qq7:=@List.length_cons
abbrev Qq8:=@List.mem_append_right
abbrev Qq9:=@Bool.not_false
abbrev Qqa:=@List.pairwise_append
abbrev Qqb:=@List.all_eq_true
abbrev Qqc:=@List.length_set
abbrev Qqd:=@if_neg
abbrev Qqe:=@List.mem_of_find?_eq_some
abbrev Qqf:=@if_pos
abbrev Qqg:=@Int.eq_ofNat_of_zero_le
abbrev Qqh:=@Int.le_refl
abbrev Qqi:=@List.filter_nil
abbrev Qqj:=@List.foldl_cons
abbrev Qqk:=@List.length_filter_le
abbrev Qql:=@List.mem_map
abbrev Qqm:=@Nat.le_of_ble_eq_true
abbrev Qqn:=@Int.emod_eq_of_lt
namespace Go.Vx
theorem Qj0 {R:Type} {n:Nat} {a b:Int} (K:Int->oP R):Ju n a b K=K (if a<b then -1 else if b<a then 1 else 0):=by
 unfold Ju;have hn:∀ x:Int,Kb n x (some:Bool->oP Bool)=some false:=fun x=>by
  grind [Kb]
 rw [hn,hn,Qh,Qh,Qr (by rfl),Qr (by rfl)]
 grind
def Asc (l:List Sp2):Prop:=l.Pairwise fun a b=>a.1<=b.1
theorem QbL (q:Sp2):(Yw q)[0]? = some (Ql q.1):=rfl
theorem Qbf (q:Sp2):(Yw q)[1]? = some (Ql q.2):=rfl
theorem Qhm (z q:Sp2):((Yw z).set 0 (Ql q.1)).set 1 (Ql q.2)=Yw q:=rfl
theorem QiJ (q:Sp2) (v:Int):(Yw q).set 1 (D.int .i64 v)=Yw (q.1,v):=rfl
section
variable {R:Type} {n:Nat}
theorem QgB {A B:LL} {x:List D} {i:Nat} (h:A.length=i):(A++x::B)[i]? = some x:=by
 simp_all
theorem QgQ {A B:LL} {x y:List D} {i:Nat} (h:A.length=i):(A++x::B).set i y=A++y::B:=by
 simp_all
theorem Qcp {K:LL->oP R} {k0:Int->Bool->LL->oP R} (hk:∀ a b w,k0 a b w=K w):∀ (c m:Nat) (A:List Sp2) (x:Sp2) (B C:List Sp2),A.length=c->c<m->(A++x::B++C).length<=100->Asc (A++B)->(∀ b∈B,x.1<=b.1) ->
  ∃ L:List Sp2,Qy n 0 k0 m (c:Int) ((A++x::B++C).map Yw)=K ((L++C).map Yw)/\Asc L/\L.Perm (A++x::B)
 |0,m+1,A,x,B,C,hA,_,_,hs,hx=>by
  obtain rfl:=List.eq_nil_of_length_eq_zero hA;refine ⟨x::B,?_,Qq1.2 ⟨hx,hs⟩,List.Perm.refl _⟩;unfold Qy;rw [show decide (((0:Nat):Int)>0)=false from rfl];simp -implicitDefEqProofs only [gbF,QpE,hk,List.nil_append]
 |c+1,m+1,A,x,B,C,hA,hm,hl,hs,hx=>by
  obtain ⟨A',y,rfl⟩:∃ A' y,A=A'++[y]:=⟨A.dropLast,A.getLast (by intro h;rw [h] at hA;simp at hA),(List.dropLast_concat_getLast _).symm⟩;have ac:A'.length=c:=by simpa using hA
  have ak:c+1<((A'++[y]++x::B++C).map Yw).length:=by simp;omega
  have hc:c<=100:=by simp at hl;omega
  have e1:((A'++[y]++x::B++C).map Yw)=(A'.map Yw++[Yw y])++Yw x::(B++C).map Yw:=by simp
  have e2:((A'++[y]++x::B++C).map Yw)=A'.map Yw++Yw y::(Yw x::(B++C).map Yw):=by simp
  have g1:((A'++[y]++x::B++C).map Yw)[c+1]? = some (Yw x):=by rw [e1];exact QgB (by simp [ac])
  have d:((A'++[y]++x::B++C).map Yw)[c]? = some (Yw y):=by rw [e2];exact QgB (by simp [ac])
  have s1:((A'++[y]++x::B++C).map Yw).set (c+1) (Yw y)=A'.map Yw++Yw y::(Yw y::(B++C).map Yw):=by rw [e1,QgQ (by simp [ac])];simp
  have e:(A'.map Yw++Yw y::(Yw y::(B++C).map Yw))[c]? = some (Yw y):=QgB (by simp [ac]);have s2:(A'.map Yw++Yw y::(Yw y::(B++C).map Yw)).set c (Yw x)=((A'++x::(y::B)++C).map Yw):=by rw [QgQ (by simp [ac])];simp
  have f:inB ((A'++[y]++x::B++C).map Yw).length ((c+1:Nat):Int)=some ():=Yh Q0 Q0;have g:inB ((A'++[y]++x::B++C).map Yw).length (c:Int)=some ():=Yh Q0 Q0;have i:inB (A'.map Yw++Yw y::(Yw y::(B++C).map Yw)).length (c:Int)=some ():=Yh Q0 Q3;unfold Qy;rw [Q6 (((c+1:Nat):Int)>0),JP (show c+1<=1000 by omega) Q0,Nat.add_sub_cancel];unfold Vm;simp -implicitDefEqProofs only [f,g,Qh,QpF,g1,d,Qj0];simp -implicitDefEqProofs only [QbL,Qbf,Qhm,Qh,Qj,QpG];by_cases aj:x.1<y.1
  ·rw [Qqf aj];simp -implicitDefEqProofs only [show decide ((-1:Int)<0)=true from rfl,QpG,g1,QbL,Qbf,Qhm,Qh,s1];simp -implicitDefEqProofs only [i,e,Qh,Qhm,s2];obtain ⟨L,j,h2,k⟩:=Qcp hk c m A' x (y::B) C ac Q0 (by simp at hl ⊢;omega) (by simpa using hs) (fun b hb=>by
    cases hb with
    |head=>omega
    |tail _ hb=>exact hx b hb)
   refine ⟨L,j,h2,k.trans ?_⟩;rw [QpO];exact List.Perm.append_left _ (List.Perm.swap ..)
  ·refine ⟨A'++[y]++x::B,?_,?_,List.Perm.refl _⟩
   ·rw [Qqd aj,show decide ((if y.1<x.1 then (1:Int) else 0)<0)=false from QpM (by split <;> omega),QpE,hk]
   ·unfold Asc at hs ⊢;rw [Qqa] at hs ⊢;refine ⟨hs.1,Qq1.2 ⟨hx,hs.2.1⟩,fun a ha b hb=>?_⟩;cases hb with
    |head=>
     rcases QpP.1 ha with h | h
     ·have:=(Qqa.1 hs.1).2.2 a h y (QpU.2 rfl);omega
     ·obtain rfl:=QpU.1 h;omega
    |tail _ hb=>exact hs.2.2 a ha b hb
theorem Qco {K:LL->oP R} {k0:Int->Bool->LL->oP R} (hk:∀ a b w,k0 a b w=K w):∀ (ac P:List Sp2) (m:Nat),ac.length<m->(P++ac).length<=100->Asc P ->
  ∃ L:List Sp2,Qo 400 0 (((P++ac).length:Nat):Int) k0 m (P.length:Int) ((P++ac).map Yw)=K (L.map Yw)/\Asc L/\L.Perm (P++ac)
 |[],P,m+1,_,_,hs=>by
  refine ⟨P,?_,hs,by simp⟩;rw [Qo,Qq3,Qz,QpE,hk]
 |x::ac,P,m+1,hm,hl,hs=>by
  rw [Qo,Qp Q2,QpG,QC (by simp at hl;omega)];obtain ⟨L,d,h2,c⟩:=Qcp (n:=400) (K:=fun w=>Qo 400 0 (((P++x::ac).length:Nat):Int) k0 m ((P.length+1:Nat):Int) w) (k0:=fun _ _ w=>Qo 400 0 (((P++x::ac).length:Nat):Int) k0 m ((P.length+1:Nat):Int) w) (fun _ _ _=>rfl) P.length 400 P x [] ac rfl (by simp at hl;omega) (by simp at hl ⊢;omega) (by simpa using hs) (fun b hb=>nomatch hb);rw [show (P++x::ac)=P++[x]++ac by simp] at *
  rw [d];have hL:L.length=P.length+1:=by rw [c.length_eq];simp
  obtain ⟨L',g1,e,f⟩:=Qco hk ac L m (by simpa using hm) (by simp [hL] at hl ⊢;omega) h2;rw [show (((P++[x]++ac).length:Nat):Int)=(((L++ac).length:Nat):Int) by simp [hL];omega,show ((P.length+1:Nat):Int)=(L.length:Int) by rw [hL]];exact ⟨L',g1,e,f.trans (c.append_right _)⟩
theorem Qjf:((List.range 13).all fun k=>(To 400 (IntKind.wrap .u64 (k:Int)) (some:Int->oP Int)).isSome)=true:=by kernel_rfl
theorem Qic {l:List Sp2} (hl:l.length<=12):∃ L:List Sp2,QM 400 (l.map Yw) (some:LL->oP LL)=some (L.map Yw)/\Asc L/\L.Perm l:=by
 obtain ⟨b,hb⟩:=Option.isSome_iff_exists.1 (Qqb.1 Qjf l.length (List.mem_range.2 Q0));unfold QM;rw [QpK,hb,Qh];unfold Y6 XW;rw [Qn (x:=(l.length:Int)-0) Q0 Q0,Xh (QpY Q0)];unfold XE;have aj:∀ L:List Sp2,L.length=l.length->(gb true (gb true (some (L.map Yw)) [] fun a=>gb true (Tv a (List.length (l.map Yw))) () fun f=>some a) [] fun c=>gb true (Tv c l.length) () fun u3=>(some c:oP LL))=some (L.map Yw):=fun L h=>by
  grind [Qh,MR]
 rw [show wJ ((0:Int)+1)=((1:Nat):Int) from rfl];cases l with
 |nil=>
  refine ⟨[],?_,List.Pairwise.nil,List.Perm.refl _⟩;rfl
 |cons x ac=>
  obtain ⟨L,e,h2,d⟩:=Qco (K:=(some:LL->oP LL)) (k0:=fun _ _ w=>some w) (fun _ _ _=>rfl) ac [x] 400 (by grind) (by simp at hl ⊢;omega) (List.pairwise_singleton ..);refine ⟨L,?_,h2,d⟩;rw [show (x::ac)=[x]++ac from rfl,show ((1:Nat):Int)=(([x].length:Nat):Int) from rfl,e];exact aj L d.length_eq
def mgS:Int->Int->List Sp2->List Sp2
 |a,b,[]=>[(a,b)]
 |a,b,(c,d)::r=>if c<=b then mgS a (if b<d then d else b) r else (a,b)::mgS c d r
theorem Q60:∀ {a b:Int} {r:List Sp2},(mgS a b r).length<=r.length+1
 |_,_,[]=>QpW _
 |a,b,(c,d)::r=>by
  rw [mgS];split
  ·have:=Q60 (a:=a) (b:=if b<d then d else b) (r:=r);simp only [Qq7];omega
  ·have:=Q60 (a:=c) (b:=d) (r:=r);simp only [Qq7];omega
theorem Q9V {t:Int}:∀ {l a b:Int} {r:List Sp2},l<a->a<b->b<=t->Asc ((a,b)::r)->(∀ q∈r,q.1<q.2/\q.2<=t)->VS t l (mgS a b r)
 |l,a,b,[],e,h2,f,_,_=>⟨e,h2,f,trivial⟩
 |l,a,b,(c,d)::r,e,h2,f,h,g=>by
  have hs:=Qq1.1 h;have hc:a<=c:=hs.1 (c,d) (.head _);have hd:=g (c,d) (.head _);rw [mgS];split
  ·refine Q9V e (by split <;> omega) (by split <;> simp_all) (Qq1.2 ⟨fun q hq=>hs.1 q (.tail _ hq),(Qq1.1 hs.2).2⟩) (fun q hq=>g q (.tail _ hq))
  ·exact ⟨e,h2,f,Q9V Q0 hd.1 hd.2 hs.2 (fun q hq=>g q (.tail _ hq))⟩
theorem Q9J {y:Int}:∀ {a b:Int} {r:List Sp2},Asc ((a,b)::r)->a<b->(∀ q∈r,q.1<q.2)->(InS y (mgS a b r)↔(a<=y/\y<b)\/InS y r)
 |a,b,[],_,_,_=>by rw [mgS,TY]
 |a,b,(c,d)::r,f,h2,e=>by
  have hs:=Qq1.1 f;have hc:a<=c:=hs.1 (c,d) (.head _);have hd:=e (c,d) (.head _);rw [mgS,TY];split
  ·rw [Q9J (a:=a) (b:=if b<d then d else b) (Qq1.2 ⟨fun q hq=>hs.1 q (.tail _ hq),(Qq1.1 hs.2).2⟩) (by split <;> omega) (fun q hq=>e q (.tail _ hq))];dsimp only at hc hd ⊢;rw [<- or_assoc];refine or_congr_left ?_;split <;> omega
  ·rw [TY,Q9J hs.2 hd (fun q hq=>e q (.tail _ hq))]
theorem Q3c {K:LL->oP R} {k0:Int->Bool->LL->oP R} (hk:∀ a b w,k0 a b w=K w) {l:List Sp2} (hl:l.length<=100):∀ (ac:List Sp2) (i m:Nat) (A:List Sp2) (a b:Int),l.drop i=ac->ac.length<m->A.length+ac.length<=100 ->
  Xp n (l.length:Int) (l.map Yw) k0 m (i:Int) ((A++[(a,b)]).map Yw)=K ((A++mgS a b ac).map Yw)
 |[],i,m+1,A,a,b,hd,_,_=>by
  have:=Ul hd;rw [Xp,show decide ((i:Int)<(l.length:Int))=false by simp_all,QpE,hk,mgS]
 |(c,d)::ac,i,m+1,A,a,b,hd,hm,hA=>by
  obtain ⟨e,ao,hi⟩:=Ys hd;have ar:A.length<=100:=Q0
  have f:(l.map Yw)[i]? = some (Yw (c,d)):=by rw [QpR,e];rfl
  have e1:(A++[(a,b)]).map Yw=A.map Yw++Yw (a,b)::[]:=by simp
  have ak:((A++[(a,b)]).map Yw).length=A.length+1:=by simp
  have g:((A++[(a,b)]).map Yw)[A.length]? = some (Yw (a,b)):=by rw [e1];exact QgB Q2
  have an:∀ v,((A++[(a,b)]).map Yw).set A.length (Yw (a,v))=(A++[(a,v)]).map Yw:=fun v=>by rw [e1,QgQ Q2];simp
  rw [Xp,Qp hi,QpG,ak,JP (show A.length+1<=1000 by omega) Q0,Nat.add_sub_cancel,QpK,Yh Q0 Q0,Yh Q0 Q0,Q6 ((A.length:Int)>=0)];simp -implicitDefEqProofs only [Qh,QpF,f,g,QC (show i<=1000 by omega)];simp -implicitDefEqProofs only [QbL,Qbf,QiJ,Qh,Qj,QpG];rw [mgS];by_cases aj:c<=b
  ·rw [show decide (c<=b)=true from QpY aj,QpG,Qqf aj];rw [an];exact Q3c hk hl ac (i+1) m A a _ ao (by simpa using hm) (by simp at hA;omega)
  ·rw [show decide (c<=b)=false from QpM aj,QpE,Qqd aj,XJ Q3,Qh];have:=Q3c hk hl ac (i+1) m (A++[(a,b)]) c d ao (by simpa using hm) (by simp at hA ⊢;omega);rw [show A++(a,b)::mgS c d ac=A++[(a,b)]++mgS c d ac by simp,<- this,QpN (l₂:=[(c,d)])];rfl
theorem t2a {x y:List D}:decide ((0:Int)<(([x,y].length:Nat):Int))=true:=rfl
theorem t2b {x y:List D}:decide ((1:Int)<(([x,y].length:Nat):Int))=true:=rfl
theorem t2c {x y:List D}:decide ((2:Int)<(([x,y].length:Nat):Int))=false:=rfl
theorem t2d:wJ ((0:Int)+1)=1:=rfl
theorem t2e:wJ ((1:Int)+1)=2:=rfl
theorem t2f {x y:List D}:Qi [x,y] 0=some x:=rfl
theorem t2g {x y:List D}:Qi [x,y] 1=some y:=rfl
theorem Qeq {a b:List Sp2} (h:a.length+b.length<=100):QZ 400 [[D.sl 2 (a.map Yw)],[D.sl 2 (b.map Yw)]] (some:LL->oP LL)=some ((a++b).map Yw):=by
 have hg:∀ k:Nat,k<=100->QS 400 (k:Int) (some:LL->oP LL)=some []:=fun k hk=>by
  unfold QS;rw [Qr (QpM Q0),show wJ ((0:Int)-0)=0 from rfl,Qn (x:=(k:Int)-0) Q0 Q0];by_cases c:k=0
  ·subst c;rfl
  ·rw [Xh (QpY Q0),show slB 0 none (some (0:Int))=some (0,0) from rfl,Qh,Xh (QpY Q0),Qh,XJ Q0,Qh]
 unfold QZ;rw [Qw];simp -implicitDefEqProofs only [t2a,t2b,t2c,t2d,t2e,t2f,t2g,QpG,QpE,Qh,QpD,QN,QpK,Qn (x:=0+(a.length:Int)) Q0 Q0,Qn (x:=0+(a.length:Int)+(b.length:Int)) Q0 Q0,Q5 (0+(a.length:Int)<0),Q5 (0+(a.length:Int)+(b.length:Int)<0),show 0+(a.length:Int)+(b.length:Int)=((a.length+b.length:Nat):Int) by omega,Qn (x:=((a.length+b.length:Nat):Int)) Q0 Q0,Q5 (((a.length+b.length:Nat):Int)<0),hg _ h];rw [Qw];simp -implicitDefEqProofs only [t2a,t2b,t2c,t2d,t2e,t2f,t2g,QpG,QpE,Qh,QpD,QN,QpK,Qn (x:=0+(a.length:Int)) Q0 Q0,Qn (x:=0+(a.length:Int)+(b.length:Int)) Q0 Q0,Q5 (0+(a.length:Int)<0),Q5 (0+(a.length:Int)+(b.length:Int)<0),show 0+(a.length:Int)+(b.length:Int)=((a.length+b.length:Nat):Int) by omega,Qn (x:=((a.length+b.length:Nat):Int)) Q0 Q0,Q5 (((a.length+b.length:Nat):Int)<0),hg _ h];rw [Qw];simp -implicitDefEqProofs only [t2a,t2b,t2c,t2d,t2e,t2f,t2g,QpG,QpE,Qh,QpD,QN,QpK,Qn (x:=0+(a.length:Int)) Q0 Q0,Qn (x:=0+(a.length:Int)+(b.length:Int)) Q0 Q0,Q5 (0+(a.length:Int)<0),Q5 (0+(a.length:Int)+(b.length:Int)<0),show 0+(a.length:Int)+(b.length:Int)=((a.length+b.length:Nat):Int) by omega,Qn (x:=((a.length+b.length:Nat):Int)) Q0 Q0,Q5 (((a.length+b.length:Nat):Int)<0),hg _ h];rw [Qx];simp -implicitDefEqProofs only [t2a,t2b,t2c,t2d,t2e,t2f,t2g,QpG,QpE,Qh,QpD,QN,QpK,List.nil_append,List.length_nil,XJ (show (0+a.length)*16<=100000 by omega),XJ (show (a.length+b.length)*16<=100000 by omega),QpN];rw [Qx];simp -implicitDefEqProofs only [t2a,t2b,t2c,t2d,t2e,t2f,t2g,QpG,QpE,Qh,QpD,QN,QpK,List.nil_append,List.length_nil,XJ (show (0+a.length)*16<=100000 by omega),XJ (show (a.length+b.length)*16<=100000 by omega),QpN];rw [Qx];simp -implicitDefEqProofs only [t2a,t2b,t2c,t2d,t2e,t2f,t2g,QpG,QpE,Qh,QpD,QN,QpK,List.nil_append,List.length_nil,XJ (show (0+a.length)*16<=100000 by omega),XJ (show (a.length+b.length)*16<=100000 by omega),QpN]
theorem Qf4 {l:List Sp2}:Eh [l.map Yw]=some ():=by
 unfold Eh;rw [show ([l.map Yw].all Ak)=true by simp [Ak,Yw,Q5Z]];rfl
theorem Qf1 {t:Int} {a b:List Sp2} (c:1<=t) (d:t<=7200) (ha:VS t (-1) a) (hb:VS t (-1) b) (hl:a.length<=300) (ac:b.length<=300):TC 400 t [[D.sl 2 (a.map Yw)],[D.sl 2 (b.map Yw)]] (some:Int->oP Int)=some 0:=by
 unfold TC;rw [Q2z c d,Qh,Qr (by rfl)];rw [Uw];simp -implicitDefEqProofs only [t2a,t2b,t2c,t2d,t2e,t2f,t2g,QpG,QpE,Qh,QpD,QN,Q0a c d hl ha,Q0a c d ac hb,QpT];rw [Uw];simp -implicitDefEqProofs only [t2a,t2b,t2c,t2d,t2e,t2f,t2g,QpG,QpE,Qh,QpD,QN,Q0a c d hl ha,Q0a c d ac hb,QpT];rw [Uw];simp -implicitDefEqProofs only [t2a,t2b,t2c,t2d,t2e,t2f,t2g,QpG,QpE,Qh,QpD,QN,Q0a c d hl ha,Q0a c d ac hb,QpT]
theorem Qgi {t:Int} {a b:List Sp2} (e:1<=t) (f:t<=7200) (ha:VS t (-1) a) (hb:VS t (-1) b) (hl:a.length+b.length<=12):∃ c:List Sp2,TM 400 t (a.map Yw) (b.map Yw) Tu2=some (c.map Yw,(0:Int))/\VS t (-1) c/\c.length<=a.length+b.length/\∀ y,InS y c↔InS y a\/InS y b:=by
 obtain ⟨L,s1,s2,d⟩:=Qic (l:=a++b) Q3;have hr:∀ q∈L,-1<q.1/\q.1<q.2/\q.2<=t:=fun q hq=>by
  rcases QpP.1 (d.mem_iff.1 hq) with h | h
  ·exact ha.rng q h
  ·exact hb.rng q h
 have ac:L.length=a.length+b.length:=by rw [d.length_eq];simp
 unfold TM;rw [Qf1 e f ha hb Q0 Q0,Qh,Qr (by rfl),Qeq Q0,Qh,Qf4,Qh];unfold Tb;rw [s1,Qh,MR (by simp [ac]),Qh,QpK];cases L with
 |nil=>
  refine ⟨[],?_,trivial,by simp,fun y=>?_⟩
  ·rw [QpK,<- d.length_eq,Xp,show decide ((0:Int)<((([]:List Sp2).length:Nat):Int))=false from rfl,QpE];rfl
  ·rw [<- Qah,<- Q79 d]
 |cons q L=>
  obtain ⟨x,z⟩:=q;have hq:=hr (x,z) (.head _);have aj:L.length+1<=12:=by simp at ac;omega
  have hm:=Q3c (n:=400) (K:=fun w=>(some (w,((x,z)::L).map Yw):oP (LL×LL))) (k0:=fun _ _ w=>some (w,((x,z)::L).map Yw)) (fun _ _ _=>rfl) (l:=(x,z)::L) Q3 L 1 399 [] x z rfl Q0 Q3;have ak:∀ k0:Int->Bool->LL->oP (LL×LL),Xp 400 ((((x,z)::L).length:Nat):Int) (((x,z)::L).map Yw) k0 400 0 []=Xp 400 ((((x,z)::L).length:Nat):Int) (((x,z)::L).map Yw) k0 399 ((1:Nat):Int) (([]++[(x,z)]).map Yw):=fun k0=>by
   rw [Xp,show decide ((0:Int)<((((x,z)::L).length:Nat):Int))=true from QpY Q2,QpG,Yh Q0 Q2,show (((x,z)::L).map Yw)[Int.toNat 0]? = some (Yw (x,z)) from rfl,show decide (wJ (((([]:LL).length:Nat):Int)-1)>=0)=false from rfl];simp -implicitDefEqProofs only [Qh,QbL,Qbf,gbF,QpE,t2d];rw [XJ Q2,Qh];rfl
  refine ⟨mgS x z L,?_,Q9V hq.1 hq.2.1 hq.2.2 s2 (fun q h=>(hr q (.tail _ h)).2),?_,fun y=>?_⟩
  ·rw [ak,hm,Qh,MR (by simp at ac ⊢;omega),Qh];rfl
  ·have:=Q60 (a:=x) (b:=z) (r:=L);simp at ac;omega
  ·rw [Q9J s2 hq.2.1 (fun q h=>(hr q (.tail _ h)).2.1),<- Qah,<- Q79 d,TY]
end
def FB (t:Int) (A B:List Occ) (y:Int):Prop:=∃ x a b c d,(x,a,b)∈A/\(x,c,d)∈B/\(y-(a-d+1)) % t<b-a+d-c-1
theorem QbA {t:Int} {q:Occ} {A B:List Occ} {y:Int} (h:∀ p∈B,p.1≠q.1):FB t (q::A) B y↔FB t A B y:=by
 constructor
 ·rintro ⟨x,a,b,c,d,e,h2,f⟩;cases e with
  |head=>grind
  |tail _ e=>exact ⟨x,a,b,c,d,e,h2,f⟩
 ·rintro ⟨x,a,b,c,d,e,h2,f⟩;exact ⟨x,a,b,c,d,.tail _ e,h2,f⟩
theorem QbM {t:Int} {q:Occ} {A B:List Occ} {y:Int} (h:∀ p∈A,p.1≠q.1):FB t A (q::B) y↔FB t A B y:=by
 constructor
 ·rintro ⟨x,a,b,c,d,e,h2,f⟩;cases h2 with
  |head=>grind
  |tail _ h2=>exact ⟨x,a,b,c,d,e,h2,f⟩
 ·rintro ⟨x,a,b,c,d,e,h2,f⟩;exact ⟨x,a,b,c,d,e,.tail _ h2,f⟩
theorem Qeo {t x a b c d:Int} {A B:List Occ} {y:Int} (hA:∀ p∈A,p.1≠x) (hB:∀ p∈B,p.1≠x):FB t ((x,a,b)::A) ((x,c,d)::B) y↔(y-(a-d+1)) % t<b-a+d-c-1\/FB t A B y:=by
 constructor
 ·rintro ⟨x',a',b',c',d',e,h2,f⟩;cases e with
  |head=>
   grind
  |tail _ e=>
   cases h2 with
   |head=>exact (hA (x,a',b') e rfl).elim
   |tail _ h2=>exact .inr ⟨x',a',b',c',d',e,h2,f⟩
 ·rintro (h | ⟨x',a',b',c',d',e,h2,f⟩)
  ·exact ⟨x,a,b,c,d,.head _,.head _,h⟩
  ·exact ⟨x',a',b',c',d',.tail _ e,.tail _ h2,f⟩
theorem QgC (y f t:Int):(y-f % t) % t=(y-f) % t:=by
 rw [Int.sub_emod,Int.emod_emod,<- Int.sub_emod]
section
variable {R:Type} {n:Nat} {t:Int}
theorem NG (q:Occ):(enc q)[0]? = some (Ql q.1):=rfl
theorem Lh (q:Occ):(enc q)[1]? = some (Ql q.2.1):=rfl
theorem F0 (q:Occ):(enc q)[2]? = some (Ql q.2.2):=rfl
theorem Q4d {O:List Occ} (hl:O.length<=1000) {k0:oP R} {k1:Int->Int->Bool->oP R} {E:oP R} (hk:∀ a b c,k1 a b c=E):∀ (ac:List Occ) (i m:Nat) (last:Int),O.drop i=ac->ac.length<m->OL last ac->UA n (O.map enc) (O.length:Int) k0 k1 m last (i:Int)=E
 |[],i,m+1,last,hd,_,_=>by
  have:=Ul hd;rw [UA,show decide ((i:Int)<(O.length:Int))=false by simpa using this,QpE,hk]
 |(x,a,b)::ac,i,m+1,last,hd,hm,⟨f,h2,g,h,j,d⟩=>by
  obtain ⟨e,aj,hi⟩:=Ys hd;rw [UA,Qp hi,QpG,X0 e];simp -implicitDefEqProofs only [Qh,NG,Lh,F0,Qj,Q5 (x<=last),Q5 (a>=b),Q5 (a < -65536),Q5 (b>65536),QpE,QC (show i<=1000 by omega)];exact Q4d hl hk ac (i+1) m x aj (by simpa using hm) d
theorem Q5i {O:List Occ} (hl:O.length<=300) (h:OL (-1) O):JK 400 (O.map enc) (some:Bool->oP Bool)=some true:=by
 unfold JK;rw [QpK];exact Q4d Q0 (fun _ _ _=>rfl) O 0 400 (-1) rfl Q0 h
theorem Qiz {α:Type} (q:α) (l:List α):slB (q::l).length (some (1:Int)) none=some (1,l.length+1)/\cut (q::l) (1,l.length+1)=l:=by
 grind [slB,cut]
theorem Fw (e:1<=t) (j:t<=7200) {K:LL->oP R} {k0:LL->LL->Bool->LL->oP R} (hk:∀ a b c w,k0 a b c w=K w):∀ (m:Nat) (A B:List Occ) (acc:List Sp2) (lA lB:Int),A.length+B.length<m->OL lA A->OL lB B->VS t (-1) acc->acc.length+2*A.length<=12 ->
  ∃ ac:List Sp2,QI 400 t k0 m (A.map enc) (B.map enc) (acc.map Yw)=K (ac.map Yw)/\VS t (-1) ac/\ac.length<=12/\∀ y,0<=y->y<t->(InS y ac↔InS y acc\/FB t A B y)
 |m+1,[],B,acc,lA,lB,_,_,_,hv,hl=>by
  refine ⟨acc,?_,hv,Q0,fun y _ _=>⟨.inl,?_⟩⟩
  ·rw [QI,show decide (((([]:List Occ).map enc).length:Int)>0)=false from rfl,QpE,QpE,hk]
  ·rintro (h | ⟨x,a,b,c,d,h,_⟩)
   all_goals grind
 |m+1,q::A,[],acc,lA,lB,_,_,_,hv,hl=>by
  refine ⟨acc,?_,hv,by simp at hl;omega,fun y _ _=>⟨.inl,?_⟩⟩
  ·rw [QI,show decide (((([]:List Occ).map enc).length:Int)>0)=false from rfl,show decide ((((q::A).map enc).length:Int)>0)=true from QpY Q2,QpG,QpE,hk]
  ·rintro (h | ⟨x,a,b,c,d,_,h,_⟩)
   ·exact h
   ·nomatch h
 |m+1,(x,a,b)::A,(x',c,d)::B,acc,lA,lB,hm,hA,hB,hv,hl=>by
  obtain ⟨a1,a2,a3,a4,a5,v⟩:=id hA;obtain ⟨b1,b2,b3,b4,b5,z⟩:=id hB;have ax:A.length+B.length+2<m+1:=by simp at hm;omega
  have a8:acc.length+2*A.length+2<=12:=by simp at hl;omega
  have cA:=Qiz (enc (x,a,b)) (A.map enc);have cB:=Qiz (enc (x',c,d)) (B.map enc);have an:∀ p∈A,x<p.1:=fun p hp=>(v.mem p hp).1
  have ak:∀ p∈B,x'<p.1:=fun p hp=>(z.mem p hp).1
  rw [QI];simp -implicitDefEqProofs only [List.map_cons,show decide ((((enc (x,a,b)::A.map enc).length:Nat):Int)>0)=true from QpY Q2,show decide ((((enc (x',c,d)::B.map enc).length:Nat):Int)>0)=true from QpY Q2,QpG,show ∀ (r:List D) (l:LL),Qi (r::l) 0=some r from fun _ _=>rfl,Qh,NG,Lh,F0,Qj,cA,cB];rcases Int.lt_trichotomy x x' with hx | hx | hx
  ·rw [show (x == x')=false by simp;omega,Q6 (x<=x'),Q5 (x>=x')];simp -implicitDefEqProofs only [QpG,QpE];obtain ⟨ac,g1,n,o,s⟩:=Fw e j hk m A ((x',c,d)::B) acc x lB Q3 v hB hv Q0;refine ⟨ac,g1,n,o,fun y g i=>?_⟩;rw [s y g i,QbA (fun p hp=>?_)];cases hp with
   |head=>dsimp only;omega
   |tail _ hp=>have:=ak p hp;dsimp only;omega
  ·subst hx;have f0:wJ (wJ (a-d)+1)=a-d+1:=by rw [Qn (x:=a-d) Q0 Q0,Qn Q0 Q0]
   have f1:wJ (wJ (wJ (wJ (b-c)-1)-(a-d+1))+1)=b-a+d-c-1:=by
    rw [Qn (x:=b-c) Q0 Q0,Qn (x:=b-c-1) Q0 Q0,Qn (x:=b-c-1-(a-d+1)) Q0 Q0,Qn Q0 Q0];omega
   have e0:=Qq0 (a-d+1) (show t≠0 by omega);have e1:=QpZ (a-d+1) (show 0<t by omega);have aq:=Qhg (t:=t) (f:=a-d+1) (k:=b-a+d-c-1) e j Q0 Q0 Q0 Q0;have a9:=Q9F (t:=t) (x:=(a-d+1) % t) (k:=b-a+d-c-1);obtain ⟨u,u1,u2,u3,u4⟩:=Qgi e j hv (QbB (k:=b-a+d-c-1) e e0 e1) Q0;rw [show (x == x)=true by simp,Q6 (x<=x)];simp -implicitDefEqProofs only [QpG];unfold Zt;rw [f0,f1,aq,Qh,u1,Qh,Qf4,Qh];obtain ⟨ac,g1,n,o,s⟩:=Fw e j hk m A B u x x Q0 v z u2 Q0;refine ⟨ac,g1,n,o,fun y g i=>?_⟩;rw [s y g i,u4,Qc8 e0 e1 g i,QgC,Qeo (fun p hp=>by have:=an p hp;omega) (fun p hp=>by have:=ak p hp;omega),or_assoc]
  ·rw [show (x == x')=false by simp;omega,Q5 (x<=x'),Q6 (x>=x')];simp -implicitDefEqProofs only [QpG,QpE];obtain ⟨ac,g1,n,o,s⟩:=Fw e j hk m ((x,a,b)::A) B acc lA x' Q3 hA z hv hl;refine ⟨ac,g1,n,o,fun y g i=>?_⟩;rw [s y g i,QbM (fun p hp=>?_)];cases hp with
   |head=>dsimp only;omega
   |tail _ hp=>have:=an p hp;dsimp only;omega
theorem Qhi {A B:List Occ} (a:1<=t) (b:t<=7200) (hA:OL (-1) A) (hB:OL (-1) B) (lA:A.length<=6) (lB:B.length<=6):∃ F:List Sp2,JI 400 t (A.map enc) (B.map enc) Tu2=some (F.map Yw,(0:Int))/\VS t (-1) F/\F.length<=12/\∀ y,0<=y->y<t->(InS y F↔FB t A B y):=by
 obtain ⟨F,g1,e,f,g⟩:=Fw a b (K:=fun w=>(some w:oP LL)) (k0:=fun _ _ _ w=>some w) (fun _ _ _ _=>rfl) 400 A B [] (-1) (-1) Q0 hA hB trivial Q3;refine ⟨F,?_,e,f,fun y i j=>?_⟩
 ·unfold JI;dsimp only [jn];rw [Q5i Q0 hA,Q5i Q0 hB,Q5 (t<1),Q5 (t>7200)];simp -implicitDefEqProofs only [QpE,Qh,QpT];unfold Hg;rw [show QI 400 t (fun l m n k=>(some k:oP LL)) 400 (A.map enc) (B.map enc) []=_ from g1,Qh]
 ·rw [g y i j];exact ⟨fun h=>h.elim (fun h=>absurd h Fb) id,.inr⟩
def Bk (t:Int) (q:Sp2):Sp2:=(q.2,q.1+t-1)
theorem Qcw (c:t<=7200) (d:1<=t) {K:LL->oP R} {k0:Int->Bool->LL->oP R} (hk:∀ a b w,k0 a b w=K w) {l:List Sp2} (hl:l.length<=1000):∀ (ac:List Sp2) (i m:Nat),l.drop i=ac->ac.length<m->(∀ q∈l,-1<q.1/\q.1<=t)->ZS n t (l.map Yw) (l.length:Int) k0 m (i:Int) (((l.take i).map (Bk t)).map Yw)=K ((l.map (Bk t)).map Yw)
 |[],i,m+1,hd,_,_=>by
  have:=Ul hd;rw [ZS,show decide ((i:Int)<(l.length:Int))=false by simpa using this,QpE,hk,List.take_of_length_le this]
 |(a,b)::ac,i,m+1,hd,hm,hr=>by
  obtain ⟨e,aj,hi⟩:=Ys hd;have ha:=hr (a,b) (QpH e);rw [ZS,Qp hi,QpG,X0 e];simp -implicitDefEqProofs only [Qh,QbL,Qbf,Qj,QC (show i<=1000 by omega),Qn (x:=a+t) Q0 Q0,Qn (x:=a+t-1) Q0 Q0,XJ (show ((((l.take i).map (Bk t)).map Yw).length+[[D.int .i64 b,D.int .i64 (a+t-1)]].length)*16<=100000 by simp;omega)];have:=Qcw c d hk hl ac (i+1) m aj (by simpa using hm) hr;rw [YE e,QpN,QpN] at this;exact this
theorem Qcl (c:t<=7200) (d:1<=t) {K:LL->oP R} {k0:Int->Bool->LL->oP R} (hk:∀ a b w,k0 a b w=K w) {l:List Sp2} (hl:l.length<=1000):∀ (ac:List Sp2) (i m:Nat),l.drop i=ac->ac.length<m->(∀ q∈l,-1<q.1/\q.1<=t)->Z1 n t (l.length:Int) (l.map Yw) k0 m (i:Int) (((l.take i).map (Bk t)).map Yw)=K ((l.map (Bk t)).map Yw)
 |[],i,m+1,hd,_,_=>by
  have:=Ul hd;rw [Z1,show decide ((i:Int)<(l.length:Int))=false by simp_all,QpE,hk,List.take_of_length_le this]
 |(a,b)::ac,i,m+1,hd,hm,hr=>by
  obtain ⟨e,aj,hi⟩:=Ys hd;have ha:=hr (a,b) (QpH e);have f:(l.map Yw)[i]? = some (Yw (a,b)):=by rw [QpR,e];rfl
  rw [Z1,Qp hi,QpG,QpK,Yh Q0 Q0,QpF,f];simp -implicitDefEqProofs only [Qh,QbL,Qbf,Qj,QC (show i<=1000 by omega),Qn (x:=a+t) Q0 Q0,Qn (x:=a+t-1) Q0 Q0,XJ (show ((((l.take i).map (Bk t)).map Yw).length+[[D.int .i64 b,D.int .i64 (a+t-1)]].length)*16<=100000 by simp;omega)];have:=Qcl c d hk hl ac (i+1) m aj (by simpa using hm) hr;rw [YE e,QpN,QpN] at this;exact this
def WR (t:Int) (F G:List Sp2):Prop:=(G=F/\∀ b M c,F≠(0,b)::(M++[(c,t)]))\/∃ b M c,F=(0,b)::(M++[(c,t)])/\G=M++[(c,t+b)]
theorem Q7h {A B:List Occ} (r:2<=t) (f:t<=7200) (hA:OL (-1) A) (hB:OL (-1) B) (lA:A.length<=6) (lB:B.length<=6):∃ F G:List Sp2,VS t (-1) F/\F.length<=12/\(∀ y,0<=y->y<t->(InS y F↔FB t A B y))/\WR t F G /\
  Uc 400 t (A.map enc) (B.map enc) Tu2=some (if cnt F=t then ([],(13:Int)) else ((G.map (Bk t)).map Yw,(0:Int))):=by
 obtain ⟨F,g1,j,k,m⟩:=Qhi (t:=t) Q0 f hA hB lA lB;have hr:=j.rng;suffices h:∃ G,WR t F G/\Uc 400 t (A.map enc) (B.map enc) Tu2=some (if cnt F=t then ([],(13:Int)) else ((G.map (Bk t)).map Yw,(0:Int))) by
  obtain ⟨G,h⟩:=h;exact ⟨F,G,j,k,m,h⟩
 unfold Uc;rw [g1,Qh,Qr (by rfl)];dsimp only;rw [QgJ Q0 f Q0 j,Qh];have ac:Z1 400 t (F.length:Int) (F.map Yw) (fun s u o=>(some (o,(0:Int)):oP (LL×Int))) 400 0 []=some ((F.map (Bk t)).map Yw,(0:Int)):=Qcl f Q0 (K:=fun w=>some (w,(0:Int))) (k0:=fun _ _ w=>some (w,(0:Int))) (fun _ _ _=>rfl) Q0 F 0 400 rfl Q0 (fun q hq=>by have:=hr q hq;omega);by_cases aj:cnt F=t
 ·simp only [Qqf aj];rw [Xh (by simpa using aj)];by_cases hw:∃ b M c,F=(0,b)::(M++[(c,t)])
  ·obtain ⟨b,M,c,e⟩:=hw;exact ⟨_,.inr ⟨b,M,c,e,rfl⟩,rfl⟩
  ·exact ⟨F,.inl ⟨rfl,fun b M c e=>hw ⟨b,M,c,e⟩⟩,rfl⟩
 simp only [Qqd aj];rw [Qr (by simpa using aj),QpK];rcases F with _ | ⟨⟨a,b⟩,F⟩
 ·refine ⟨[],.inl ⟨rfl,fun b M c e=>(nomatch e)⟩,?_⟩;rw [show decide (((([]:List Sp2).length:Nat):Int)>1)=false from rfl];simp -implicitDefEqProofs only [gbF,QpE];exact ac
 rcases List.eq_nil_or_concat F with rfl | ⟨M,⟨c,d⟩,rfl⟩
 ·refine ⟨[(a,b)],.inl ⟨rfl,fun b M c e=>by have:=congrArg List.length e;simp at this⟩,?_⟩;rw [show decide ((((([(a,b)]:List Sp2)).length:Nat):Int)>1)=false from rfl];simp -implicitDefEqProofs only [gbF,QpE];exact ac
 have hM:M.length<=10:=by simp at k;omega
 have ak:((a,b)::(M++[(c,d)])).length=M.length+1+1:=by simp
 have ay:=hr (c,d) Q2;have aq:=hr (a,b) Q2;have e1:((a,b)::(M++[(c,d)])).map Yw=(Yw (a,b)::M.map Yw)++Yw (c,d)::[]:=by simp
 have gl:(((a,b)::(M++[(c,d)])).map Yw)[M.length+1]? = some (Yw (c,d)):=by rw [e1];exact QgB Q2
 have sl:∀ v,(((a,b)::(M++[(c,d)])).map Yw).set (M.length+1) (Yw (c,v))=((a,b)::(M++[(c,v)])).map Yw:=fun v=>by rw [e1,QgQ Q2];simp
 rw [List.concat_eq_append] at *
 rw [ak,Q6 (((M.length+1+1:Nat):Int)>1),JP (show M.length+1+1<=1000 by omega) Q0,Nat.add_sub_cancel,Yh Q0 Q0,Yh Q0 Q0];simp -implicitDefEqProofs only [Qh,QpF,gl,QpG,show (((a,b)::(M++[(c,d)])).map Yw)[Int.toNat 0]? = some (Yw (a,b)) from rfl,QbL,Qbf,Qj,QiJ];by_cases ao:a=0/\d=t
 ·obtain ⟨rfl,rfl⟩:=ao;refine ⟨M++[(c,d+b)],.inr ⟨b,M,c,rfl,rfl⟩,?_⟩;rw [show ((0:Int) == 0)=true from rfl,show (d == d)=true by simp,QpG,QpG,Qn (x:=d+b) Q0 Q0,sl];have an:=Qiz (Yw (0,b)) ((M++[(c,d+b)]).map Yw);rw [List.map_cons,an.1,Qh,an.2,QpK];exact Qcw (n:=400) f Q0 (K:=fun w=>(some (w,(0:Int)):oP (LL×Int))) (k0:=fun _ _ w=>some (w,(0:Int))) (fun _ _ _=>rfl) (l:=M++[(c,d+b)]) Q3 (M++[(c,d+b)]) 0 400 rfl Q3 (fun q hq=>by
   rcases QpP.1 hq with h | h
   ·have:=hr q (.tail _ (Qq4 _ h));omega
   ·obtain rfl:=QpU.1 h;dsimp only at *
    omega)
 ·have hz:(bif (a == (0:Int)) then (d == t) else false)=false:=by
   by_cases ha:a=0
   ·rw [ha,show ((0:Int) == 0)=true from rfl,QpG];simp only [beq_eq_false_iff_ne];exact fun h=>ao ⟨ha,h⟩
   ·rw [show (a == (0:Int))=false by simpa using ha,QpE]
  refine ⟨_,.inl ⟨rfl,fun b' M' c' e=>ao ?_⟩,?_⟩
  ·have e2:=List.cons.inj e;have p:=List.append_inj_right' e2.2 rfl;have:=(Prod.mk.inj e2.1).1;have:=(Prod.mk.inj (List.cons.inj p).1).2;exact ⟨Q0,Q0⟩
  rw [hz,QpE];rw [ak] at ac;exact ac
end
theorem P9 {α β:Type} {r:Nat->Int->β} {l:List α} {p:α->Bool} {E0 E1:β} (a:∀ m i q,l[i]? = some q->i<l.length->r (m+1) (i:Int)=bif p q then r m ((i+1:Nat):Int) else E0) (b:∀ m,r (m+1) (l.length:Int)=E1) {fuel:Nat} (hf:l.length<fuel):r fuel 0=bif l.all p then E1 else E0:=by
 have go:∀ (ac:List α) (i m:Nat),l.drop i=ac->ac.length<m->i<=l.length->r m (i:Int)=bif ac.all p then E1 else E0:=by
  intro ac;induction ac with
  |nil=>
   intro i m hd hm hi;obtain ⟨m,rfl⟩:∃ k,m=k+1:=⟨m-1,Q0⟩
   grind
  |cons q ac ih=>
   intro i m hd hm hi;obtain ⟨m,rfl⟩:∃ k,m=k+1:=⟨m-1,Q0⟩
   grind [Ys]
 exact go l 0 fuel rfl hf (Nat.zero_le _)
theorem FM {α β S:Type} {r:Nat->Int->S->β} {l:List α} {f:S->α->S} {E:S->β} (a:∀ m i q s,l[i]? = some q->i<l.length->r (m+1) (i:Int) s=r m ((i+1:Nat):Int) (f s q)) (b:∀ m s,r (m+1) (l.length:Int) s=E s) {fuel:Nat} (hf:l.length<fuel) (s:S):r fuel 0 s=E (l.foldl f s):=by
 have go:∀ (ac:List α) (i m:Nat) (s:S),l.drop i=ac->ac.length<m->i<=l.length->r m (i:Int) s=E (ac.foldl f s):=by
  intro ac;induction ac with
  |nil=>
   intro i m s hd hm hi;obtain ⟨m,rfl⟩:∃ k,m=k+1:=⟨m-1,Q0⟩
   grind
  |cons q ac ih=>
   intro i m s hd hm hi;obtain ⟨m,rfl⟩:∃ k,m=k+1:=⟨m-1,Q0⟩;obtain ⟨e,ak,aj⟩:=Ys hd;rw [a m i q s e aj,Qqj,ih (i+1) m _ ak Q4 aj]
 exact go l 0 fuel s rfl hf (Nat.zero_le _)
theorem Ee {α:Type} {p:α->Bool}:∀ {l:List α} {c:Bool},l.foldl (fun c q=>c||p q) c=(c||l.any p)
 |[],c=>(Bool.or_false c).symm
 |q::l,c=>by rw [Qqj,Ee,List.any_cons,Bool.or_assoc]
def SJ (t:Int) (q:Occ):Bool:=!decide (q.2.2-q.2.1>t)
theorem QiE {l:Int} {O:List Occ} (hO:OL l O) {q:Occ} (hq:q∈O):wJ (q.2.2-q.2.1)=q.2.2-q.2.1:=by
 have:=hO.mem q hq
 grind [Qn]
theorem Qg9 {t:Int} {O:List Occ} (a:1<=t) (b:t<=7200) (hO:OL (-1) O) (hl:O.length<=300):Tx 400 t (O.map enc) (some:Bool->oP Bool)=some (O.all (SJ t)):=by
 unfold Tx;rw [Q5 (t<1),Q5 (t>7200),Q5i hl hO];simp -implicitDefEqProofs only [QpE,Qh,QpT,Qq9,QpK];refine (P9 (r:=fun m i=>UF 400 t (O.map enc) (O.length:Int) (some false) (fun _ _=>some true) m i) (l:=O) (p:=SJ t) (E0:=some false) (E1:=some true) (fun m i q e hi=>?_) (fun m=>?_) Q0).trans (by cases O.all (SJ t) <;> rfl)
 ·rw [UF,Qp hi,QpG,X0 e];simp -implicitDefEqProofs only [Qh,NG,Lh,F0,Qj,QC (show i<=1000 by omega),QiE hO (QpH e)];unfold SJ;cases decide (q.2.2-q.2.1>t) <;> rfl
 ·rw [UF,Qz,QpE]
def tie (la:Int) (x y:Occ):Bool:=bif x.1 == y.1 then decide (la+y.2.1<=x.2.2) else false
def BA (per la mo:Int) (x y:Occ):Bool:=decide ((if x.2.2<mo+y.2.2 then mo+y.2.2 else x.2.2)-(if la+y.2.1<x.2.1 then la+y.2.1 else x.2.1)>per)
def Q8D (per la mo:Int) (A B:List Occ):Bool:=A.any fun x=>B.any fun y=>bif tie la x y then BA per la mo x y else false
def Q1x (la:Int) (A B:List Occ) (r:Int):Bool:=A.any fun x=>B.any fun y=>bif tie la x y then x.1 == r else false
namespace Cx
variable {R:Type} {n:Nat} {X:Cx}
theorem Qhn {per la mo:Int} {O:List Occ} (hO:OL (-1) O) (hl:O.length<=300) {x:Occ} (hx : -1000<=x.2.1/\x.2.1<x.2.2/\x.2.2<=20000) (d:0<=la) (f:la<=20000) (h2:0<=mo) (g:mo<=20000) {k0:Int->Bool->Bool->oP R} {Kc:Bool->oP R} (hk:∀ a b c,k0 a b c=Kc c) (c:Bool) :
  QY n (O.map enc) (O.length:Int) la (Ql x.1) (Ql x.2.1) (Ql x.2.2) per la mo k0 400 0 c=Kc (c||O.any fun y=>bif tie la x y then BA per la mo x y else false):=by
 rw [<- Ee];refine FM (r:=fun m i c=>QY n (O.map enc) (O.length:Int) la (Ql x.1) (Ql x.2.1) (Ql x.2.2) per la mo k0 m i c) (E:=Kc) (fun m i q c e hi=>?_) (fun m c=>?_) Q0 c
 ·have:=hO.mem q (QpH e);rw [QY,Qp hi,QpG,X0 e];simp -implicitDefEqProofs only [Qh,NG,Lh,F0,Qj,QC (show i<=1000 by omega),Qn (x:=la+q.2.1) Q0 Q0];unfold Yr;simp -implicitDefEqProofs only [Qh,Qn (x:=la+q.2.1) Q0 Q0,Qn (x:=mo+q.2.2) Q0 Q0];rw [Qn (x:=(if x.2.2<mo+q.2.2 then mo+q.2.2 else x.2.2)-(if la+q.2.1<x.2.1 then la+q.2.1 else x.2.1)) (by split <;> split <;> omega) (by split <;> split <;> omega)];show (bif tie la x q then QY n (O.map enc) (O.length:Int) la (Ql x.1) (Ql x.2.1) (Ql x.2.2) per la mo k0 m ((i+1:Nat):Int) (bif c then true else BA per la mo x q) else _)=_;cases tie la x q <;> cases c <;> rfl
 ·rw [QY,Qz,QpE,hk]
theorem map1 {la:Int} {O:List Occ} (hO:OL (-1) O) (hl:O.length<=300) {x:Occ} (d:0<=la) (f:la<=20000) {k0:Int->Bool->(Int->Bool)->oP R} {Kc:(Int->Bool)->oP R} (hk:∀ a b c,k0 a b c=Kc c) (c:Int->Bool) :
  Xe n (O.map enc) (O.length:Int) la (Ql x.1) (Ql x.2.1) (Ql x.2.2) k0 400 0 c=Kc (O.foldl (fun c y=>bif tie la x y then Q7O c x.1 true else c) c):=by
 refine FM (r:=fun m i c=>Xe n (O.map enc) (O.length:Int) la (Ql x.1) (Ql x.2.1) (Ql x.2.2) k0 m i c) (E:=Kc) (fun m i q c e hi=>?_) (fun m c=>?_) Q0 c
 ·have:=hO.mem q (QpH e);rw [Xe,Qp hi,QpG,X0 e];simp -implicitDefEqProofs only [Qh,NG,Lh,F0,Qj,QC (show i<=1000 by omega),Qn (x:=la+q.2.1) Q0 Q0];unfold XN;simp -implicitDefEqProofs only [Qh];show (bif tie la x q then _ else _)=_;cases tie la x q <;> rfl
 ·rw [Xe,Qz,QpE,hk]
theorem QfC {q:Int->Bool} {x r:Int}:Q7O q x true r=(q r||(x == r)):=by
 grind [Q7O]
theorem QfL {la:Int} {x:Occ} {r:Int}:∀ {O:List Occ} {c:Int->Bool},O.foldl (fun c y=>bif tie la x y then Q7O c x.1 true else c) c r=(c r||O.any fun y=>bif tie la x y then x.1 == r else false)
 |[],c=>(Bool.or_false _).symm
 |y::O,c=>by
  rw [Qqj,QfL,List.any_cons];cases tie la x y
  ·rfl
  ·rw [QpG,QpG,QfC,Bool.or_assoc]
def occN (X:Cx) (a:Nat):List Occ:=(X.occs X.L).getD a []
def N (X:Cx):Nat:=base X.nr X.L
variable (h:X.OK)
include h
theorem JQ {a:Nat} (ha:a<X.N):Qi (Kv (X.occs X.L)) (a:Int)=some [D.sl 3 ((X.occN a).map enc)]/\OL (-1) (X.occN a)/\(X.occN a).length<=6:=by
 obtain ⟨i,k,b,h2,rfl⟩:=Q7i ha;have e:X.occN (base X.nr i+k)=X.occ i k:=by
  unfold occN;rw [QpL,show (X.occs X.L)[base X.nr i+k]? = some (X.occ i k) from LK h2 b];rfl
 rw [e];exact ⟨QfN b h2,Q72 h b h2⟩
theorem Qe1:X.jns.length<=30:=by
 have:=Qen h (i:=X.L) (QpW _);have:=h.tl
 grind [jns,List.length_append,List.length_map]
structure JOK (X:Cx) (J:List Tup):Prop where
 at':∀ t∈J,t.1<X.N/\t.2.1<X.N/\0<=t.2.2.1/\t.2.2.1<=20000/\0<=t.2.2.2/\t.2.2.2<=20000
 len:J.length<=30
theorem Qi4 {J:List Tup} (hJ:X.JOK J) {per:Int} {t:Tup} (ht:t∈J) (K:Bool->oP R):Wr 400 per (Kv (X.occs X.L)) (t.1:Int) (t.2.1:Int) t.2.2.1 t.2.2.1 t.2.2.2 false K=K (Q8D per t.2.2.1 t.2.2.2 (X.occN t.1) (X.occN t.2.1)):=by
 have hj:=hJ.at' t ht;have oa:=JQ h hj.1;have ob:=JQ h hj.2.1;unfold Wr Q8D;rw [oa.1];simp -implicitDefEqProofs only [Qh,QpD,QN,QpK];rw [<- Bool.false_or (List.any _ _),<- Ee];refine FM (r:=fun m i c=>XA 400 ((X.occN t.1).map enc) (((X.occN t.1).length:Nat):Int) (t.2.1:Int) t.2.2.1 per (Kv (X.occs X.L)) t.2.2.1 t.2.2.2 (fun b d a=>K a) m i c) (E:=K) (fun m i q c e hi=>?_) (fun m c=>?_) Q0 false
 ·have hq:=oa.2.1.mem q (QpH e);rw [XA,Qp hi,QpG,X0 e,ob.1];simp -implicitDefEqProofs only [Qh,NG,Lh,F0,QpD,QN,QpK,QC (show i<=1000 by omega)];exact Qhn (per:=per) ob.2.1 Q0 ⟨hq.2.1,hq.2.2.1,hq.2.2.2.1⟩ hj.2.2.1 hj.2.2.2.1 hj.2.2.2.2.1 hj.2.2.2.2.2 (Kc:=fun c=>XA 400 ((X.occN t.1).map enc) (((X.occN t.1).length:Nat):Int) (t.2.1:Int) t.2.2.1 per (Kv (X.occs X.L)) t.2.2.1 t.2.2.2 (fun b d a=>K a) m ((i+1:Nat):Int) c) (fun _ _ _=>rfl) c
 ·rw [XA,Qz,QpE]
theorem Qjg {J:List Tup} (hJ:X.JOK J) {t:Tup} (ht:t∈J) (q:Int->Bool):∃ q',(∀ K:(Int->Bool)->oP R,Wt 400 (Kv (X.occs X.L)) (t.1:Int) (t.2.1:Int) t.2.2.1 q K=K q')/\∀ r,q' r=(q r||Q1x t.2.2.1 (X.occN t.1) (X.occN t.2.1) r):=by
 have hj:=hJ.at' t ht;have oa:=JQ h hj.1;have ob:=JQ h hj.2.1;refine ⟨(X.occN t.1).foldl (fun q x=>(X.occN t.2.1).foldl (fun c y=>bif tie t.2.2.1 x y then Q7O c x.1 true else c) q) q,fun K=>?_,fun r=>?_⟩
 ·unfold Wt;rw [oa.1];simp -implicitDefEqProofs only [Qh,QpD,QN,QpK];refine FM (r:=fun m i c=>XB 400 ((X.occN t.1).map enc) (((X.occN t.1).length:Nat):Int) (t.2.1:Int) t.2.2.1 (Kv (X.occs X.L)) (fun b d a=>K a) m i c) (E:=K) (fun m i q c e hi=>?_) (fun m c=>?_) Q0 q
  ·rw [XB,Qp hi,QpG,X0 e,ob.1];simp -implicitDefEqProofs only [Qh,NG,Lh,F0,QpD,QN,QpK,QC (show i<=1000 by omega)];exact map1 ob.2.1 Q0 hj.2.2.1 hj.2.2.2.1 (Kc:=fun c=>XB 400 ((X.occN t.1).map enc) (((X.occN t.1).length:Nat):Int) (t.2.1:Int) t.2.2.1 (Kv (X.occs X.L)) (fun b d a=>K a) m ((i+1:Nat):Int) c) (fun _ _ _=>rfl) c
  ·rw [XB,Qz,QpE]
 ·unfold Q1x;generalize X.occN t.1=A;induction A generalizing q with
  |nil=>exact (Bool.or_false _).symm
  |cons x A ih=>rw [Qqj,ih,QfL,List.any_cons,Bool.or_assoc]
def jab (a b:Nat) (t:Tup):Bool:=bif (bif (t.1:Int) == (a:Int) then (t.2.1:Int) == (b:Int) else false) then true else bif (t.1:Int) == (b:Int) then (t.2.1:Int) == (a:Int) else false
def TRb (X:Cx) (J:List Tup) (a b:Nat) (r:Int):Bool:=J.any fun t=>bif jab a b t then Q1x t.2.2.1 (X.occN t.1) (X.occN t.2.1) r else false
theorem Qi7 {J:List Tup} (hJ:X.JOK J) {a b:Nat}:∃ q,(Yk 400 (Kv (X.occs X.L)) (J.map tuR) (a:Int) (b:Int) some:oP (Int->Bool))=some q/\∀ r,q r=X.TRb J a b r:=by
 have hl:=hJ.len;unfold Yk;rw [QpK];have go:∀ (ac:List Tup) (i m:Nat) (q:Int->Bool),J.drop i=ac->ac.length<m->∃ q',(QL 400 (a:Int) (b:Int) (J.map tuR) (J.length:Int) (Kv (X.occs X.L)) (fun n o j=>some j) m (i:Int) q:oP (Int->Bool))=some q'/\∀ r,q' r=(q r||X.TRb ac a b r):=by
  intro ac;induction ac with
  |nil=>
   intro i m q hd hm;obtain ⟨m,rfl⟩:∃ k,m=k+1:=⟨m-1,by simp at hm;omega⟩;have:=Ul hd;exact ⟨q,by rw [QL,show decide ((i:Int)<(J.length:Int))=false by simpa using this,QpE],fun r=>(Bool.or_false _).symm⟩
  |cons t ac ih=>
   intro i m q hd hm;obtain ⟨m,rfl⟩:∃ k,m=k+1:=⟨m-1,by simp at hm;omega⟩;obtain ⟨e,ak,hi⟩:=Ys hd;obtain ⟨l,c,h2⟩:=Qjg (R:=Int->Bool) h hJ (QpH e) q;rw [QL,Qp hi,QpG,X0 e];simp -implicitDefEqProofs only [Qh,tuR,QpD,QpI,Qj,QC (show i<=1000 by omega),c];show ∃ q',(bif jab a b t then _ else _)=some q'/\_;cases aj:jab a b t with
   |false=>
    obtain ⟨d,f,g⟩:=ih (i+1) m q ak (by simpa using hm);refine ⟨d,f,fun r=>?_⟩;rw [g,TRb,TRb,List.any_cons,aj,QpE,Bool.false_or]
   |true=>
    obtain ⟨d,f,g⟩:=ih (i+1) m l ak (by simpa using hm);refine ⟨d,f,fun r=>?_⟩;rw [g,h2,TRb,TRb,List.any_cons,aj,QpG,Bool.or_assoc]
 obtain ⟨q,c,h2⟩:=go J 0 400 (fun _=>false) rfl Q0;exact ⟨q,c,fun r=>by rw [h2,Bool.false_or]⟩
theorem Qaz:∀ o∈X.occs X.L,OL (-1) o/\o.length<=6:=by
 intro o ho;obtain ⟨a,ha⟩:=List.getElem?_of_mem ho;have ac:=(QpV.1 ha).1;rw [show (X.occs X.L).length=X.N from ZV] at ac;obtain ⟨b,h2⟩:=(JQ h ac).2
 simp_all [occN,QpL]
def aloneJ (X:Cx) (per:Int) (J:List Tup):Bool:=bif (X.occs X.L).all (fun o=>o.all (SJ per)) then J.all fun t=>!Q8D per t.2.2.1 t.2.2.2 (X.occN t.1) (X.occN t.2.1) else false
theorem Qf5 {per:Int} (p0:1<=per) (p1:per<=300) {J:List Tup} (hJ:X.JOK J) (K:Bool->oP R):Wd 400 per (Kv (X.occs X.L)) (J.map tuR) K=K (X.aloneJ per J):=by
 have hN:(X.occs X.L).length<=6:=by rw [show (X.occs X.L).length=base X.nr X.L from ZV];exact base_le h
 have hl:=hJ.len;have hO:=Qaz h;unfold Wd;rw [JE,QpK];refine (P9 (r:=fun m i=>XU 400 (Kv (X.occs X.L)) (((X.occs X.L).length:Nat):Int) per (K false) (fun c d=>Xr 400 (J.map tuR) (J.length:Int) per (Kv (X.occs X.L)) (K false) (fun a b=>K true) 400 0) m i) (l:=X.occs X.L) (p:=fun o=>o.all (SJ per)) (E0:=K false) (E1:=bif J.all (fun t=>!Q8D per t.2.2.1 t.2.2.2 (X.occN t.1) (X.occN t.2.1)) then K true else K false) (fun m i o e hi=>?_) (fun m=>?_) Q0).trans ?_
 ·have ho:=hO o (QpH e);have ac:Qi (Kv (X.occs X.L)) (i:Int)=some [D.sl 3 (o.map enc)]:=X0 e;rw [XU,Qp hi,QpG,ac];simp -implicitDefEqProofs only [Qh,QpD,QN,Qg9 p0 (show per<=7200 by omega) ho.1 (show o.length<=300 by omega),QC (show i<=1000 by omega)];cases o.all (SJ per) <;> rfl
 ·rw [XU,Qz,QpE];refine P9 (r:=fun m i=>Xr 400 (J.map tuR) (J.length:Int) per (Kv (X.occs X.L)) (K false) (fun a b=>K true) m i) (fun m i t e hi=>?_) (fun m=>?_) Q0
  ·rw [Xr,Qp hi,QpG,X0 e];simp -implicitDefEqProofs only [Qh,tuR,QpD,QpI,Qj,QC (show i<=1000 by omega),Qi4 h hJ (QpH e)];cases Q8D per t.2.2.1 t.2.2.2 (X.occN t.1) (X.occN t.2.1) <;> rfl
  ·rw [Xr,Qz,QpE]
 ·unfold aloneJ;cases (X.occs X.L).all (fun o=>o.all (SJ per)) <;> cases J.all (fun t=>!Q8D per t.2.2.1 t.2.2.2 (X.occN t.1) (X.occN t.2.1)) <;> rfl
end Cx
namespace Cx
def aR (X:Cx) (i k:Nat):List D:=[Ql 1,Ql ((2*(base X.nr i+k):Nat):Int),Ql ((2*(base X.nr i+k)+1:Nat):Int),Ql (X.run i k),Ql (X.run i k+X.ex i k),Ql (X.w i)]
def aD (X:Cx) (i k:Nat):List D:=[Ql 2,Ql ((2*(base X.nr i+k)+1:Nat):Int),Ql ((2*(base X.nr i+k+1):Nat):Int),Ql (X.mn i k),Ql (X.mx i k),Ql (X.w i)]
def pl (X:Cx) (i:Nat):Nat->LL
 |0=>[]
 |k+1=>pl X i k++[X.aR i k]++(if k<X.nr i-1 then [X.aD i k] else [])
def pls (X:Cx):Nat->LL
 |0=>[]
 |i+1=>pls X i++X.pl i (X.nr i)
def chE (X:Cx) (row:List D):List D:=match row with
 |[.int _ f,.int _ fr,.int _ t,.int _ tr,mn,mx,w]=>[Ql 3,Ql ((2*(base X.nr f.toNat+fr.toNat)+1:Nat):Int),Ql ((2*(base X.nr t.toNat+tr.toNat):Nat):Int),mn,mx,w]
 |_=>[]
def tuE (X:Cx) (t:Tup):List D:=[Ql 4,Ql ((2*(base X.nr t.1+(X.nr t.1-1))+1:Nat):Int),Ql ((2*(base X.nr t.2.1+0):Nat):Int),Ql t.2.2.1,Ql t.2.2.2,Ql 1]
def syE (X:Cx) (row:List D):List D:=match row with
 |[_,_,_,_,o]=>[Ql 5,Ql ((2*(base X.nr 0+0):Nat):Int),Ql ((2*(base X.nr 1+0):Nat):Int),o,o,Ql 0]
 |_=>[]
def planned (X:Cx) (Ch Sy:LL):LL:=X.pls X.L++Ch.map X.chE++X.T.map X.tuE++Sy.map X.syE
variable {R:Type} {n:Nat} {X:Cx}
theorem Q7K {i:Nat}:∀ {k:Nat},(X.pl i k).length<=2*k
 |0=>QpW _
 |k+1=>by
  have:=Q7K (i:=i) (k:=k);rw [pl,Qq2,Qq2];split <;> simp <;> omega
theorem Q02:∀ {i:Nat},(X.pls i).length<=2*base X.nr i
 |0=>QpW _
 |i+1=>by
  have:=Q02 (i:=i);have:=Q7K (X:=X) (i:=i) (k:=X.nr i);rw [pls,Qq2,base];omega
structure LsOK (X:Cx) (per:Int) (Ch Sy:LL):Prop where
 ch:∀ row∈Ch,∃ (f fr t tr:Nat) (mn mx w:Int),row=[Ql f,Ql fr,Ql t,Ql tr,Ql mn,Ql mx,Ql w]/\f<X.Ls.length/\fr<X.nr f/\t<X.Ls.length/\tr<X.nr t/\(0<=mn/\mn<20/\mn<=mx/\mx<mn+per)/\0<=w/\w<3
 chl:Ch.length<=2
 sy:∀ row∈Sy,∃ o:Int,row=[Ql 0,Ql 0,Ql 1,Ql 0,Ql o]/\0<=o/\o<per/\2<=X.Ls.length
 syl:Sy.length<=1
variable (h:X.OK) {per:Int} {Ch Sy De:LL} (hl:X.LsOK per Ch Sy)
theorem QeG {A:LL} (hA:A.length<=1000) {a1 a2 a b c d:Int} (K:LL->oP R):Xu n A a1 a2 a b c d K=K (A++[[Ql a1,Ql a2,Ql a,Ql b,Ql c,Ql d]]):=by
 grind [Xu,XJ,Qh]
include h
theorem Qhx {i:Nat} (hi:i<X.Ls.length) {k0:Int->Bool->LL->oP R}:QK 400 (i:Int) (GI X.Ls i) ((X.nr i:Nat):Int) (Ql (X.w i)) (D.sl 4 (GI X.Ls i)) (X.fst X.L) (encI (X.runs X.L)) k0 400 0 (X.pls i)=k0 ((X.nr i:Nat):Int) false (X.pls i++X.pl i (X.nr i)):=by
 have hn:=(JM h hi).2.1;have hb:=Ya h (i:=i) Q0;have hp:=Q02 (X:=X) (i:=i);have hw:wJ (((List.length (GI X.Ls i):Nat):Int)-1)=((X.nr i-1:Nat):Int):=JP (k:=X.nr i) Q0 Q0;refine QD (r:=fun m k=>QK 400 (i:Int) (GI X.Ls i) ((X.nr i:Nat):Int) (Ql (X.w i)) (D.sl 4 (GI X.Ls i)) (X.fst X.L) (encI (X.runs X.L)) k0 m k (X.pls i++X.pl i k.toNat)) (N:=X.nr i) (fun m k hk=>?_) (fun m=>?_) (X.nr i) 400 0 Q0 Q0 |> Eq.trans (by simp [pl])
 ·simp only [QpF];have r:=rd h hi hk;have b:=r.ex0;have e1:=r.ex1;have hr:=S7 h hi hk;have ac:Qi (GI X.Ls i) (k:Int)=some [Ql (rF X.Ls i k 0),Ql (X.ex i k),Ql (X.mn i k),Ql (X.mx i k)]:=by rw [Qq,r.row]
  have ak:=Q7K (X:=X) (i:=i) (k:=k);have aj:=Q6N (X:=X) hi hk;rw [QK,Qp hk,QpG,ac];simp -implicitDefEqProofs only [Qh,QpD,QpI,Qj,QN,hw,Q1j (n:=400) h hi (show k<=10 by omega),aj,QC (show k<=1000 by omega),QcV (n:=400) (show base X.nr i+k<=1000 by omega),Qhs (n:=400) (show base X.nr i+k<=1000 by omega),QC (show base X.nr i+k<=1000 by omega),QcV (n:=400) (show base X.nr i+k+1<=1000 by omega),Qn (x:=X.run i k+X.ex i k) Q0 Q0,QeG (n:=400) (A:=X.pls i++X.pl i k) Q3,QeG (n:=400) (A:=X.pls i++X.pl i k++[[Ql 1,Ql ((2*(base X.nr i+k):Nat):Int),Ql ((2*(base X.nr i+k)+1:Nat):Int),Ql (X.run i k),Ql (X.run i k+X.ex i k),Ql (X.w i)]]) Q3];by_cases a:k<X.nr i-1
  ·rw [Qp a,QpG,pl,Qqf a,<- QpO,<- QpO];rfl
  ·rw [Q5 ((k:Int)<((X.nr i-1:Nat):Int)),QpE,pl,Qqd a,Qq3,<- QpO];rfl
 ·simp only [QpF];rw [QK,Qz,QpE]
include hl
theorem Qbl (K:LL->oP R):YJ 400 X.Ls Ch (X.T.map tuR) Sy (X.fst X.L) (encI (X.runs X.L)) [] K=K (X.planned Ch Sy):=by
 have l1:=h.l1;have tl:=h.tl;have hp:=Q02 (X:=X) (i:=X.L);have hb:=base_le h;have chl:=hl.chl;have syl:=hl.syl;unfold YJ;have s2:∀ k0:Int->Bool->LL->oP R,QT 400 X.Ls (X.Ls.length:Int) (X.fst X.L) (encI (X.runs X.L)) k0 400 0 []=k0 (X.Ls.length:Int) false (X.pls X.L):=by
  intro k0;refine QD (r:=fun m i=>QT 400 X.Ls (X.Ls.length:Int) (X.fst X.L) (encI (X.runs X.L)) k0 m i (X.pls i.toNat)) (N:=X.Ls.length) (fun m i hi=>?_) (fun m=>?_) X.Ls.length 400 0 Q0 Q0
  ·simp only [QpF];rw [QT,Qp hi,QpG,Qq,(JM h hi).1];simp -implicitDefEqProofs only [Qh,QpD,QpI,QN,QC (show i<=1000 by omega)];exact Qhx h hi
  ·simp only [QpF];rw [QT,Qz,QpE];rfl
 have k:∀ k0:Int->Bool->LL->oP R,QV 400 Ch (Ch.length:Int) (X.fst X.L) k0 400 0 (X.pls X.L)=k0 (Ch.length:Int) false (X.pls X.L++Ch.map X.chE):=by
  intro k0;refine QD (r:=fun m j=>QV 400 Ch (Ch.length:Int) (X.fst X.L) k0 m j (X.pls X.L++(Ch.take j.toNat).map X.chE)) (N:=Ch.length) (fun m j hj=>?_) (fun m=>?_) Ch.length 400 0 Q0 Q0 |> Eq.trans Q2
  ·simp only [QpF];obtain ⟨row,e⟩:∃ q,Ch[j]? = some q:=⟨Ch[j],QpJ hj⟩;obtain ⟨f,fr,t,tr,mn,mx,w,rfl,g1,l,c,v,x,y⟩:=hl.ch row (QpH e);have nf:=(JM h g1).2.1;have nt:=(JM h c).2.1;have bf:=Ya h (i:=f) Q0;have bt:=Ya h (i:=t) Q0;rw [QV,Qp hj,QpG,Qq,e,YE e,QpN,<- QpO];simp -implicitDefEqProofs only [Qh,QpD,QpI,Qj,Q1j (n:=400) h g1 (show fr<=10 by omega),Q1j (n:=400) h c (show tr<=10 by omega),QC (show j<=1000 by omega),Qhs (n:=400) (show base X.nr f+fr<=1000 by omega),QcV (n:=400) (show base X.nr t+tr<=1000 by omega),QeG (n:=400) (A:=X.pls X.L++(Ch.take j).map X.chE) Q3];rfl
  ·simp only [QpF];rw [QV,Qz,QpE,QpX]
 have p:∀ k0:Int->Bool->LL->oP R,QU 400 (X.T.map tuR) (X.T.length:Int) (X.fst X.L) X.Ls k0 400 0 (X.pls X.L++Ch.map X.chE)=k0 (X.T.length:Int) false (X.pls X.L++Ch.map X.chE++X.T.map X.tuE):=by
  intro k0;refine QD (r:=fun m j=>QU 400 (X.T.map tuR) (X.T.length:Int) (X.fst X.L) X.Ls k0 m j (X.pls X.L++Ch.map X.chE++(X.T.take j.toNat).map X.tuE)) (N:=X.T.length) (fun m j hj=>?_) (fun m=>?_) X.T.length 400 0 Q0 Q0 |> Eq.trans Q2
  ·simp only [QpF];obtain ⟨⟨a,b,lo,hi⟩,e⟩:∃ q,X.T[j]? = some q:=⟨X.T[j],QpJ hj⟩;have ht:=h.tr _ (QpH e);have g1:a<X.Ls.length:=ht.1;have c:b<X.Ls.length:=ht.2.1;have nf:=(JM h g1).2.1;have bf:=Ya h (i:=a) Q0;have bt:=Ya h (i:=b) Q0;have ac:Qi (X.T.map tuR) (j:Int)=some [Ql a,Ql b,Ql lo,Ql hi]:=X0 e;have s:X.pls X.L++Ch.map X.chE++(X.T.take (j+1)).map X.tuE=X.pls X.L++Ch.map X.chE++(X.T.take j).map X.tuE++[X.tuE (a,b,lo,hi)]:=by rw [YE e,QpN,<- QpO];rfl
   have d:=Q1j (R:=Int) (n:=400) h c (Nat.zero_le 10) some;rw [show ((0:Nat):Int)=0 from rfl] at d;rw [QU,Qp hj,QpG,ac,s];simp -implicitDefEqProofs only [Qh,QpD,QpI,Qj,Qfl (n:=400) h g1,d,QC (show j<=1000 by omega),Qhs (n:=400) (show base X.nr a+(X.nr a-1)<=1000 by omega),QcV (n:=400) (show base X.nr b+0<=1000 by omega),QeG (n:=400) (A:=X.pls X.L++Ch.map X.chE++(X.T.take j).map X.tuE) Q3];rfl
  ·simp only [QpF];rw [QU,Qz,QpE,QpX]
 have u:∀ k0:Int->Bool->LL->oP R,QW 400 Sy (Sy.length:Int) (X.fst X.L) k0 400 0 (X.pls X.L++Ch.map X.chE++X.T.map X.tuE)=k0 (Sy.length:Int) false (X.planned Ch Sy):=by
  intro k0;refine QD (r:=fun m j=>QW 400 Sy (Sy.length:Int) (X.fst X.L) k0 m j (X.pls X.L++Ch.map X.chE++X.T.map X.tuE++(Sy.take j.toNat).map X.syE)) (N:=Sy.length) (fun m j hj=>?_) (fun m=>?_) Sy.length 400 0 Q0 Q0 |> Eq.trans Q2
  ·simp only [QpF];obtain ⟨row,e⟩:∃ q,Sy[j]? = some q:=⟨Sy[j],QpJ hj⟩;obtain ⟨o,rfl,g1,l,c⟩:=hl.sy row (QpH e);have bt:=Ya h (i:=1) Q0;have d:=Q1j (R:=Int) (n:=400) h (show 0<X.Ls.length by omega) (Nat.zero_le 10) some;have g:=Q1j (R:=Int) (n:=400) h (show 1<X.Ls.length by omega) (Nat.zero_le 10) some;simp only [show ((0:Nat):Int)=0 from rfl,show ((1:Nat):Int)=1 from rfl] at d g;rw [QW,Qp hj,QpG,Qq,e,YE e,QpN,<- QpO];simp -implicitDefEqProofs only [Qh,QpD,QpI,Qj,d,g,QC (show j<=1000 by omega),QcV (n:=400) (show base X.nr 0+0<=1000 by simp [base]),QcV (n:=400) (show base X.nr 1+0<=1000 by omega),QeG (n:=400) (A:=X.pls X.L++Ch.map X.chE++X.T.map X.tuE++(Sy.take j).map X.syE) Q3];rfl
  ·simp only [QpF];rw [QW,Qz,QpE,QpX];rfl
 rw [s2,k,QpK,p,u]
end Cx
theorem OL.uniq:∀ {l:Int} {O:List Occ},OL l O->∀ {p q:Occ},p∈O->q∈O->p.1=q.1->p=q
 |_,[],_,_,_,h,_,_=>nomatch h
 |l,(x,a,b)::r,⟨d,h2,f,g,i,c⟩,p,q,hp,hq,e=>by
  cases hp with
  |head=>
   cases hq with
   |head=>rfl
   |tail _ hq=>have:=(c.mem q hq).1;dsimp only at e;omega
  |tail _ hp=>
   cases hq with
   |head=>have:=(c.mem p hp).1;dsimp only at e;omega
   |tail _ hq=>exact c.uniq hp hq e
theorem Qd0 {t:Int} {A A' B:List Occ} {y:Int}:FB t (A++A') B y↔FB t A B y\/FB t A' B y:=by
 constructor
 ·rintro ⟨x,a,b,c,d,e,h2,f⟩;rcases QpP.1 e with e | e
  ·exact .inl ⟨x,a,b,c,d,e,h2,f⟩
  ·exact .inr ⟨x,a,b,c,d,e,h2,f⟩
 ·rintro (⟨x,a,b,c,d,e,h2,f⟩ | ⟨x,a,b,c,d,e,h2,f⟩)
  ·exact ⟨x,a,b,c,d,Qq4 _ e,h2,f⟩
  ·exact ⟨x,a,b,c,d,Qq8 _ e,h2,f⟩
def ER (f:Nat->Bool) (n:Nat):LL:=(List.range n).map fun i=>[D.bool (f i)]
theorem Q7o {f:Nat->Bool} {n:Nat}:(ER f n).length=n:=by simp [ER]
theorem DQ {f:Nat->Bool} {n i:Nat} (h:i<n):(ER f n)[i]? = some [D.bool (f i)]:=by simp [ER,h]
theorem QbF {f g:Nat->Bool} {n i:Nat} (h:∀ y,y<n->g y=if y=i then true else f y):(ER f n).set i [D.bool true]=ER g n:=by
 apply List.ext_getElem?;intro j
 grind [DQ,List.getElem?_eq_none,Q7o]
section
variable {R:Type} {n:Nat} {t:Int}
theorem Q6F {O:List Occ} (hl:O.length<=1000) {k0:oP R} {k1:Int->Bool->oP R} {E:oP R} (hk:∀ b c,k1 b c=E):∀ (ac:List Occ) (i m:Nat) (last:Int),O.drop i=ac->ac.length<m -> -1<=last->OL last ac->(0<i->∃ a b,O[i-1]? = some (last,a,b))->Zl n (O.map enc) k0 k1 m (i:Int)=E
 |[],i,m+1,last,hd,_,_,_,_=>by
  have:=Ul hd;rw [Zl,QpK,show decide ((i:Int)<(O.length:Int))=false by simpa using this,QpE,hk]
 |(x,a,b)::ac,i,m+1,last,hd,hm,an,⟨g,h2,h,j,k,d⟩,hp=>by
  obtain ⟨e,aj,hi⟩:=Ys hd;have ih:=Q6F (k0:=k0) hl hk ac (i+1) m x aj (by simpa using hm) Q0 d (fun _=>⟨a,b,e⟩);rw [Zl,QpK,Qp hi,QpG,X0 e];simp -implicitDefEqProofs only [Qh,NG,Lh,F0,Qj,Q5 (x<0),Qq9,Bool.true_and,QpE,QC (show i<=1000 by omega)];have rest:∀ z:Bool,z=false->(bif bif bif bif z then true else decide (a<(-65536:Int)) then true else decide (b>(65536:Int)) then true else decide (a>=b) then k0 else Zl n (O.map enc) k0 k1 m ((i+1:Nat):Int))=E:=fun z hz=>by
   rw [hz,Q5 (a < -65536),Q5 (b>65536),Q5 (a>=b)];exact ih
  by_cases f:i=0
  ·subst f;simp -implicitDefEqProofs only [show decide (((0:Nat):Int)>0)=false from rfl,gbF,QpE];exact rest false rfl
  ·obtain ⟨a',b',e'⟩:=hp Q0;rw [JP (show i<=1000 by omega) Q0,X0 e'];simp -implicitDefEqProofs only [Qh,NG,Qj,Q6 ((i:Int)>0),QpG];exact rest _ (QpM Q0)
theorem Qa3 {O:List Occ} (hl:O.length<=300) (h:OL (-1) O):G6 400 (O.map enc) (some:Bool->oP Bool)=some true:=by
 exact Q6F Q0 (fun _ _=>rfl) O 0 400 (-1) rfl Q0 Q0 h (fun h=>by omega)
theorem Q9o {O:List Occ} (hl:O.length<=1000) {x:Int} {K:D->D->D->Bool->oP R} {k0:D->D->D->oP R} {k1:Int->Bool->oP R} (g:∀ a b c,k0 a b c=K a b c true) (h:∀ a b,k1 a b=K (Ql 0) (Ql 0) (Ql 0) false):∀ (ac:List Occ) (i m:Nat),O.drop i=ac->ac.length<m->(∃ c d,(x,c,d)∈ac/\UT n (O.map enc) x k0 k1 m (i:Int)=K (Ql x) (Ql c) (Ql d) true)\/((∀ p∈ac,p.1≠x)/\UT n (O.map enc) x k0 k1 m (i:Int)=K (Ql 0) (Ql 0) (Ql 0) false)
 |[],i,m+1,hd,_=>by
  have:=Ul hd;refine .inr ⟨fun p hp=>(nomatch hp),?_⟩;rw [UT,QpK,show decide ((i:Int)<(O.length:Int))=false by simpa using this,QpE,h]
 |(x',a,b)::ac,i,m+1,hd,hm=>by
  obtain ⟨e,aj,hi⟩:=Ys hd;rw [UT,QpK,Qp hi,QpG,X0 e];simp -implicitDefEqProofs only [Qh,NG,Lh,F0,Qj,QC (show i<=1000 by omega),g];by_cases hx:x'=x
  ·subst hx;exact .inl ⟨a,b,.head _,by rw [show (x' == x')=true by simp,QpG]⟩
  ·rw [show (x' == x)=false by simpa using hx,QpE];rcases Q9o hl g h ac (i+1) m aj (by simpa using hm) with ⟨c,d,f,h2⟩ | ⟨f,h2⟩
   ·exact .inl ⟨c,d,.tail _ f,h2⟩
   ·refine .inr ⟨fun p hp=>?_,h2⟩;cases hp with
    |head=>exact hx
    |tail _ hp=>exact f p hp
theorem QfK {f k y:Int} (a:1<=t) (hy:0<=y) (ac:y<t) (hk:0<=k) (aj:k<t):y=(f+k) % t↔(y-f) % t=k:=by
 constructor
 ·intro h;rw [h,Int.sub_emod,Int.emod_emod,<- Int.sub_emod,show f+k-f=k by omega];exact Qqn hk aj
 ·intro h;rw [<- h,Int.add_emod,Int.emod_emod,<- Int.add_emod,show f+(y-f)=y by omega];exact (Qqn hy ac).symm
theorem Qeu (c:1<=t) (o:t<=300) {K:LL->oP R} {k0:Int->Bool->LL->oP R} (hk:∀ a b w,k0 a b w=K w) {A:List Occ} {i:Nat} {x a b d nn:Int} (e:A[i]? = some (x,a,b)) (ha : -1000<=a) (ar:a<=20000) (hd : -1000<=d) (aq:d<=20000) {f:Nat->Bool} :
  ∃ g:Nat->Bool,Zv n t (A.map enc) (i:Int) nn (Ql d) k0 400 0 (ER f t.toNat)=K (ER g t.toNat)/\∀ y,y<t.toNat->(g y=true↔f y=true\/((y:Int)-(a-d+1)) % t<nn):=by
 let N:Nat:=(if nn<t then nn else t).toNat;have hN:(N:Int)=if nn<0 then 0 else if nn<t then nn else t:=by
  show (((if nn<t then nn else t).toNat:Nat):Int)=_;split <;> split <;> omega
 have aj:(N:Int)<=t:=by rw [hN];split <;> (try split) <;> omega
 have ao:(N:Int)<=nn\/N=0:=by
  by_cases h:nn<0
  ·rw [Qqf h] at hN;right;omega
  ·rw [Qqd h] at hN;left;rw [hN];split <;> omega
 refine ⟨fun y=>f y||decide (((y:Int)-(a-d+1)) % t<(N:Int)),?_,fun y hy=>?_⟩
 ·have j:ER f t.toNat=ER (fun y=>f y||decide (((y:Int)-(a-d+1)) % t<((0:Nat):Int))) t.toNat:=by
   unfold ER;apply List.map_congr_left;intro y _;have:=Qq0 ((y:Int)-(a-d+1)) (show t≠0 by omega);show [D.bool (f y)]=[D.bool (f y||decide (((y:Int)-(a-d+1)) % t<((0:Nat):Int)))];rw [Q5 (((y:Int)-(a-d+1)) % t<((0:Nat):Int)),Bool.or_false]
  rw [j];refine QD (r:=fun m k=>Zv n t (A.map enc) (i:Int) nn (Ql d) k0 m k (ER (fun y=>f y||decide (((y:Int)-(a-d+1)) % t<k)) t.toNat)) (N:=N) (fun m k ak=>?_) (fun m=>?_) N 400 0 Q0 Q0
  ·have l:=Qq0 (a-d+1+(k:Int)) (show t≠0 by omega);have p:=QpZ (a-d+1+(k:Int)) (show 0<t by omega);rw [Zv,Q6 ((k:Int)<nn),Q6 ((k:Int)<t),QpG,QpG,X0 e];simp -implicitDefEqProofs only [Qh,Lh,Qj,Qn (x:=a-d) Q0 Q0,Qn (x:=a-d+1) Q0 Q0,Qn (x:=a-d+1+(k:Int)) Q0 Q0,QgR (n:=n) (x:=a-d+1+(k:Int)) c (show t<=7200 by omega) Q0 Q0,Q7o,Yh (len:=t.toNat) l Q0,DQ (f:=fun y=>f y||decide (((y:Int)-(a-d+1)) % t<(k:Int))) (n:=t.toNat) (i:=((a-d+1+(k:Int)) % t).toNat) Q0,Qq5];rw [QbF (g:=fun y=>f y||decide (((y:Int)-(a-d+1)) % t<((k+1:Nat):Int))) (fun y hy=>?_),Qn Q0 Q0]
   ·rfl
   ·have hd:=QfK (t:=t) (f:=a-d+1) (k:=k) (y:=y) c Q0 Q0 Q0 Q0;by_cases ac:y=((a-d+1+(k:Int)) % t).toNat
    ·rw [Qqf ac,show decide (((y:Int)-(a-d+1)) % t<((k+1:Nat):Int))=true from QpY (by have:=hd.1 Q0;omega),Bool.or_true]
    ·rw [Qqd ac];congr 1;rw [decide_eq_decide];have:¬ ((y:Int)-(a-d+1)) % t=(k:Int):=fun h=>ac (by have:=hd.2 h;omega)
     omega
  ·rw [Zv];rw [show (bif decide ((N:Int)<nn) then decide ((N:Int)<t) else false)=false by
    by_cases h:(N:Int)<nn
    ·rw [QpY h,QpG];exact QpM (by rw [hN];split <;> (try split) <;> omega)
    ·rw [QpM h,QpE],QpE,hk]
 ·have q:=Qq0 ((y:Int)-(a-d+1)) (show t≠0 by omega);have s:=QpZ ((y:Int)-(a-d+1)) (show 0<t by omega);rw [Bool.or_eq_true,decide_eq_true_eq];refine or_congr_right ?_;rw [hN];split <;> (try split) <;> omega
theorem Q2d (o:1<=t) (p:t<=300) {K:LL->oP R} {k0:Int->Bool->LL->oP R} (hk:∀ a b w,k0 a b w=K w) {A B:List Occ} (hA:OL (-1) A) (hB:OL (-1) B) (lA:A.length<=100) (lB:B.length<=300):∀ (ac P:List Occ) (m:Nat) (f:Nat->Bool),A=P++ac->ac.length<m->(∀ y,y<t.toNat->(f y=true↔FB t P B y)) ->
  ∃ g:Nat->Bool,Yq 400 t (A.map enc) (B.map enc) k0 m (P.length:Int) (ER f t.toNat)=K (ER g t.toNat)/\∀ y,y<t.toNat->(g y=true↔FB t A B y)
 |[],P,m+1,f,hP,_,hf=>by
  rw [Qq3] at hP;subst hP;refine ⟨f,?_,hf⟩;rw [Yq,QpK,Qz,QpE,hk]
 |(x,a,b)::ac,P,m+1,f,hP,hm,hf=>by
  have e:A[P.length]? = some (x,a,b):=by rw [hP,List.getElem?_append_right (QpW _),Nat.sub_self];rfl
  have hi:P.length<A.length:=by rw [hP];simp
  have hq:=hA.mem (x,a,b) (QpH e);dsimp only at hq;have ak:A=(P++[(x,a,b)])++ac:=by rw [hP];simp
  have aj:=Q9o (n:=400) (O:=B) (x:=x) (K:=fun i j k z=>(some (i,j,k,z):oP (D×D×D×Bool))) (k0:=fun i j k=>some (i,j,k,true)) (k1:=fun _ _=>some (Ql 0,Ql 0,Ql 0,false)) Q0 (fun _ _ _=>rfl) (fun _ _=>rfl) B 0 400 rfl Q0;rw [Yq,QpK,Qp hi,QpG,X0 e];simp -implicitDefEqProofs only [Qh,NG,Lh,F0,Qj];unfold AC;have nx:wJ ((P.length:Int)+1)=(((P++[(x,a,b)]).length:Nat):Int):=by rw [Qn Q0 Q0];simp
  rw [nx];rcases aj with ⟨c,d,g1,q⟩ | ⟨g1,q⟩
  ·have u:=hB.mem (x,c,d) g1;dsimp only at u;rw [show UT 400 (B.map enc) x (fun i j k=>(some (i,j,k,true):oP (D×D×D×Bool))) (fun v aa=>some (D.int .i64 (0:Int),D.int .i64 (0:Int),D.int .i64 (0:Int),false)) 400 0=some (Ql x,Ql c,Ql d,true) from q];simp -implicitDefEqProofs only [Qh,QpT,QpE,Qj];have aq:wJ (wJ (wJ (wJ (b-a)+d)-c)-1)=b-a+d-c-1:=by
    rw [Qn (x:=b-a) Q0 Q0,Qn (x:=b-a+d) Q0 Q0,Qn (x:=b-a+d-c) Q0 Q0,Qn Q0 Q0]
   rw [aq];obtain ⟨g,k1,k2⟩:=Qeu (n:=400) (nn:=b-a+d-c-1) o p (K:=fun w=>Yq 400 t (A.map enc) (B.map enc) k0 m (((P++[(x,a,b)]).length:Nat):Int) w) (k0:=fun _ _ w=>Yq 400 t (A.map enc) (B.map enc) k0 m (((P++[(x,a,b)]).length:Nat):Int) w) (fun _ _ _=>rfl) (f:=f) e (d:=d) Q0 Q0 Q0 Q0;rw [k1];refine Q2d o p hk hA hB lA lB ac _ m g ak (by simpa using hm) (fun y hy=>?_);rw [k2 y hy,Qd0,hf y hy];refine or_congr_right ⟨fun h=>⟨x,a,b,c,d,.head _,g1,h⟩,?_⟩;rintro ⟨x',a',b',c',d',l,r,s⟩;cases l with
   |head=>
    cases hB.uniq r g1 rfl;exact s
   |tail _ l=>nomatch l
  ·rw [show UT 400 (B.map enc) x (fun i j k=>(some (i,j,k,true):oP (D×D×D×Bool))) (fun v aa=>some (D.int .i64 (0:Int),D.int .i64 (0:Int),D.int .i64 (0:Int),false)) 400 0=some (Ql 0,Ql 0,Ql 0,false) from q];simp -implicitDefEqProofs only [Qh,Qq9,QpG];refine Q2d o p hk hA hB lA lB ac _ m f ak (by simpa using hm) (fun y hy=>?_);rw [Qd0,hf y hy];refine ⟨.inl,fun h=>h.elim id ?_⟩;rintro ⟨x',a',b',c',d',l,r,s⟩;cases l with
   |head=>exact (g1 _ r rfl).elim
   |tail _ l=>nomatch l
theorem VS.lastlt {t c d:Int}:∀ {l:Int} {M:List Sp2},VS t l (M++[(c,d)])->(∀ q∈M,q.2<c)/\c<d/\d<=t
 |l,[],⟨g,h2,f,_⟩=>⟨fun q hq=>(nomatch hq),h2,f⟩
 |l,(a,b)::M,⟨g,h2,f,e⟩=>by
  have ih:=e.lastlt;refine ⟨fun q hq=>?_,ih.2⟩;cases hq with
  |head=>
   cases M with
   |nil=>exact e.1
   |cons p M=>have:=ih.1 p (.head _);have:=e.1;have:=e.2.1;dsimp only at *;omega
  |tail _ hq=>exact ih.1 q hq
theorem VS.pw {t:Int}:∀ {l:Int} {F:List Sp2},VS t l F->F.Pairwise fun p q=>p.2<q.1
 |_,[],_=>.nil
 |l,(a,b)::r,⟨d,h2,e,c⟩=>.cons (fun q hq=>(c.rng q hq).1) c.pw
theorem VS.sep {t:Int}:∀ {l:Int} {F:List Sp2},VS t l F->∀ p∈F,∀ q∈F,p=q\/p.2<q.1\/q.2<p.1
 |_,[],_,p,hp,_,_=>nomatch hp
 |l,(a,b)::r,⟨d,h2,e,c⟩,p,hp,q,hq=>by
  have hr:=c.rng;cases hp with
  |head=>
   cases hq with
   |head=>exact .inl rfl
   |tail _ hq=>exact .inr (.inl (hr q hq).1)
  |tail _ hp=>
   cases hq with
   |head=>exact .inr (.inr (hr p hp).1)
   |tail _ hq=>exact c.sep p hp q hq
structure GP (t:Int) (F G:List Sp2):Prop where
 asc:G.Pairwise fun p q=>p.1<q.1
 rng:∀ q∈G,0<=q.1/\q.1<t/\q.1<q.2/\q.2<q.1+t
 ins:∀ q∈G,∀ z,q.1<=z->z<q.2->InS (z % t) F
 out:∀ q∈G,¬ InS (q.2 % t) F
 st:∀ x,0<=x->x<t->((InS x F/\¬ InS ((x-1) % t) F)↔∃ q∈G,q.1=x)
theorem Qb5 {z t:Int} (a:0<=z) (b:z<t):z % t=z:=Qqn a b
theorem QiS {z t:Int} (a:t<=z) (b:z<t+t):z % t=z-t:=by
 rw [<- Qqn (show 0<=z-t by omega) (show z-t<t by omega),Int.sub_emod_right]
theorem QiG {t:Int} (h:1<=t):(-1:Int) % t=t-1:=by
 rw [<- Qqn (show 0<=t-1 by omega) (show t-1<t by omega),show t-1 = -1+t by omega,Int.add_emod_right]
theorem WR.gp {t:Int} {F G:List Sp2} (l:1<=t) (hv:VS t (-1) F) (hc:cnt F≠t) (hw:WR t F G):GP t F G:=by
 have hr:=hv.rng;have hs:=hv.sep;have a2:=hv.cnt Q0;have az:=QaO hv Q0;have gap:∀ q∈F,¬ InS q.2 F:=fun q hq ⟨p,hp,h⟩=>by
  grind
 have aj:∀ q∈F,¬ InS (q.1-1) F:=fun q hq ⟨p,hp,h⟩=>by
  grind
 have ac:∀ q∈F,q.2-q.1<t:=fun q hq=>by
  have:=az q hq;have:=a2.2.2 (List.length_pos_of_mem hq);omega
 have ak:∀ x,0<=x->x<t->InS x F->¬ InS ((x-1) % t) F->∃ q∈F,q.1=x:=fun x i j ⟨q,hq,h⟩ hn=>by
  have:=hr q hq;by_cases hx:q.1=x
  ·exact ⟨q,hq,hx⟩
  ·exact (hn ⟨q,hq,by rw [Qb5 Q0 Q0];omega,by rw [Qb5 Q0 Q0];omega⟩).elim
 rcases hw with ⟨rfl,hw⟩ | ⟨b,M,c,rfl,rfl⟩
 ·have ar:∀ p∈G,∀ q∈G,p.1=0->q.2=t->False:=fun p hp q hq o h2=>by
   have ax:p≠q:=fun e=>by have:=ac p hp;rw [<- e] at h2;omega
   rcases G with _ | ⟨⟨a,b⟩,G⟩
   ·nomatch hp
   obtain ⟨r,s,u,f⟩:=id hv;have an:=f.rng;have a3:p=(a,b):=by
    cases hp with
    |head=>rfl
    |tail _ hp=>have:=an p hp;omega
   subst a3;obtain rfl:a=0:=o;rcases List.eq_nil_or_concat G with rfl | ⟨M,⟨c,d⟩,rfl⟩
   ·cases hq with
    |head=>exact ax rfl
    |tail _ hq=>nomatch hq
   ·rw [List.concat_eq_append] at *
    have hl:=f.lastlt;cases hq with
    |head=>exact ax rfl
    |tail _ hq=>
     rcases QpP.1 hq with hq | hq
     ·have:=hl.1 q hq;omega
     ·obtain rfl:=QpU.1 hq;obtain rfl:d=t:=h2;exact hw b M c rfl
  refine ⟨hv.pw.imp_of_mem fun {p q} hp hq h=>by have:=hr p hp;omega,fun q hq=>by have:=hr q hq;have:=ac q hq;omega,fun q hq z g k=>?_,fun q hq=>?_,fun x i j=>⟨fun h=>ak x i j h.1 h.2,?_⟩⟩
  ·have:=hr q hq;rw [Qb5 Q0 Q0];exact ⟨q,hq,g,k⟩
  ·have:=hr q hq;by_cases m:q.2=t
   ·rw [m,Int.emod_self];rintro ⟨p,hp,h⟩;have:=hr p hp;exact ar p hp q hq Q0 m
   ·rw [Qb5 Q0 Q0];exact gap q hq
  ·rintro ⟨q,hq,rfl⟩;have:=hr q hq;refine ⟨⟨q,hq,Qqh _,this.2.1⟩,?_⟩;by_cases n:q.1=0
   ·rw [n,show (0:Int)-1 = -1 by omega,QiG l];rintro ⟨p,hp,h⟩;have:=hr p hp;exact ar q hq p hp n Q0
   ·rw [Qb5 Q0 Q0];exact aj q hq
 ·obtain ⟨r,s,u,f⟩:=id hv;have hl:=f.lastlt;have an:=f.rng;have hM:∀ q∈M,b<q.1/\q.1<q.2/\q.2<c:=fun q hq=>by
   have:=an q (Qq4 _ hq);have:=hl.1 q hq;omega
  have aq:∀ q∈M,q∈(0,b)::(M++[(c,t)]):=fun q hq=>.tail _ (Qq4 _ hq)
  have ao:(c,t)∈(0,b)::(M++[(c,t)]):=.tail _ (Qq8 _ (.head _));have ay:(0,b)∈(0,b)::(M++[(c,t)]):=.head _;have a5:b<c:=(an (c,t) (Qq8 _ (.head _))).1;refine ⟨?_,fun q hq=>?_,fun q hq z g k=>?_,fun q hq=>?_,fun x i j=>⟨fun h=>?_,?_⟩⟩
  ·refine Qqa.2 ⟨(Qqa.1 f.pw).1.imp_of_mem fun {p q} hp hq h=>by have:=hM p hp;omega,List.pairwise_singleton _ _,fun p hp q hq=>?_⟩;obtain rfl:=QpU.1 hq;have:=hM p hp;dsimp only;omega
  ·rcases QpP.1 hq with h | h
   ·have:=hM q h;omega
   ·obtain rfl:=QpU.1 h;dsimp only;omega
  ·rcases QpP.1 hq with h | h
   ·have:=hM q h;rw [Qb5 Q0 Q0];exact ⟨q,aq q h,g,k⟩
   ·obtain rfl:=QpU.1 h;dsimp only at g k;by_cases hz:z<t
    ·rw [Qb5 Q0 hz];exact ⟨_,ao,g,hz⟩
    ·rw [QiS Q0 Q0];exact ⟨_,ay,by dsimp only;omega,by dsimp only;omega⟩
  ·rcases QpP.1 hq with h | h
   ·have:=hM q h;rw [Qb5 Q0 Q0];exact gap q (aq q h)
   ·obtain rfl:=QpU.1 h;dsimp only;rw [QiS Q0 Q0,show t+b-t=b by omega];exact gap _ ay
  ·obtain ⟨q,hq,rfl⟩:=ak x i j h.1 h.2;cases hq with
   |head=>
    refine (h.2 ?_).elim;dsimp only;rw [show (0:Int)-1 = -1 by omega,QiG l];exact ⟨_,ao,by dsimp only;omega,by dsimp only;omega⟩
   |tail _ hq=>
    rcases QpP.1 hq with hq | hq
    ·exact ⟨q,Qq4 _ hq,rfl⟩
    ·obtain rfl:=QpU.1 hq;exact ⟨(c,t+b),Qq8 _ (.head _),rfl⟩
  ·rintro ⟨q,hq,rfl⟩;rcases QpP.1 hq with h | h
   ·have:=hM q h;refine ⟨⟨q,aq q h,Qqh _,this.2.1⟩,?_⟩;rw [Qb5 Q0 Q0];exact aj q (aq q h)
   ·obtain rfl:=QpU.1 h;dsimp only;refine ⟨⟨_,ao,Qqh _,hl.2.1⟩,?_⟩;rw [Qb5 Q0 Q0];exact aj _ ao
theorem Qbq {t:Int} {F:List Sp2} (i:1<=t) (hv:VS t (-1) F):cnt F=t↔∀ y,0<=y->y<t->InS y F:=by
 rcases F with _ | ⟨⟨a,b⟩,r⟩
 ·exact ⟨fun h=>by grind [cnt],fun h=>absurd (h 0 Q0 Q0) Fb⟩
 obtain ⟨j,k,f,e⟩:=hv;have hc:=e.cnt f;rcases r with _ | ⟨⟨c,d⟩,r⟩
 ·simp only [cnt,TY];constructor
  ·omega
  ·intro h;have g:=(h 0 Q0 Q0).resolve_right Fb;have h2:=(h (t-1) Q0 Q0).resolve_right Fb;omega
 ·have:=hc.2.2 Q2;have w:=e.1;constructor
  ·grind [cnt]
  ·intro h;have ac:=e.rng;have:=ac (c,d) (.head _);dsimp only at this;obtain ⟨p,hp,g,h2⟩:=h b Q0 Q0
   grind
theorem Q61 (d:t<=300) {f:Nat->Bool} {k0:Int->Int->Bool->oP R} {K:Int->oP R} (hk:∀ a b c,k0 a b c=K a):∀ (c m x:Nat) (w:Int),(x:Int)+c=t->c<m->0<=w->w<=x->(w=x↔∀ y:Nat,y<x->f y=true)->∃ w',U4 n t (ER f t.toNat) k0 m w (x:Int)=K w'/\(w'=t↔∀ y:Nat,(y:Int)<t->f y=true)
 |0,m+1,x,w,hx,_,_,_,hw=>⟨w,by rw [U4,Q5 ((x:Int)<t),QpE,hk],by
  grind⟩
 |c+1,m+1,x,w,hx,hm,w0,e,hw=>by
  have ac:Qi (ER f t.toNat) (x:Int)=some [D.bool (f x)]:=by grind [Qq,DQ]
  rw [U4,Q6 ((x:Int)<t),QpG,ac];simp -implicitDefEqProofs only [Qh,QpD,S6,QC (show x<=1000 by omega)];cases aj:f x with
  |false=>
   refine Q61 d hk c m (x+1) w Q0 Q0 w0 Q0 ⟨fun h=>by omega,fun h=>?_⟩
   simp_all
  |true=>
   rw [QpG,Qn Q0 Q0];refine Q61 d hk c m (x+1) (w+1) Q0 Q0 Q0 Q0 ⟨fun h y hy=>?_,fun h=>?_⟩
   all_goals grind
theorem QfT (b:1<=t) (c:t<=300) {f:Nat->Bool} {k0:Int->Bool->oP R} {a:Int} {L:Nat} (a0:0<=a) (a1:a<t) (hL:(L:Int)<t) (aj:∀ k:Nat,k<L->f ((a+k) % t).toNat=true) (ac:f ((a+L) % t).toNat=false):Ue n t (ER f t.toNat) a k0 400 0=k0 (L:Int) false:=by
 have step:∀ k:Nat,k<=L->Qi (ER f t.toNat) (Int.tmod (wJ (a+k)) t)=some [D.bool (f ((a+k) % t).toNat)]:=fun k hk=>by
  have d:=Qq0 (a+(k:Int)) (show t≠0 by omega);have e:=QpZ (a+(k:Int)) (show 0<t by omega);rw [Qn Q0 Q0,Int.tmod_eq_emod_of_nonneg Q0];obtain ⟨z,hz⟩:∃ z:Nat,(a+(k:Int)) % t=z:=⟨((a+(k:Int)) % t).toNat,Q0⟩;rw [hz,Qq,QpF];exact DQ Q0
 refine QD (r:=fun m k=>Ue n t (ER f t.toNat) a k0 m k) (N:=L) (fun m k hk=>?_) (fun m=>?_) L 400 0 Q0 Q0
 ·rw [Ue,EC Q0,step k Q0];simp -implicitDefEqProofs only [Qh,QpD,S6,aj k hk,QpG,QC (show k<=1000 by omega)]
 ·rw [Ue,EC Q0,step L (QpW _)];simp -implicitDefEqProofs only [Qh,QpD,S6,ac,QpE]
theorem Q5T (g:1<=t) (i:t<=300) {f:Nat->Bool} {F G:List Sp2} (hf:∀ y:Nat,(y:Int)<t->(f y=true↔InS y F)) (hG:GP t F G) {K:LL->oP R} {k0:Int->Bool->LL->oP R} (hk:∀ a b w,k0 a b w=K w):∀ (c m x:Nat) (P S:List Sp2),(x:Int)+c=t->c<m->G=P++S->P.length<=x->(∀ q∈P,q.1<x)->(∀ q∈S,(x:Int)<=q.1)->YD 400 t (ER f t.toNat) k0 m (x:Int) ((P.map (Bk t)).map Yw)=K ((G.map (Bk t)).map Yw)
 |0,m+1,x,P,S,hx,_,ac,_,_,hS=>by
  have:S=[]:=by
   cases S with
   |nil=>rfl
   |cons q S=>have:=hS q (.head _);have:=hG.rng q Q4;omega
  rw [YD,Q5 ((x:Int)<t),QpE,hk,ac,this,Qq3]
 |c+1,m+1,x,P,S,hx,hm,ac,hl,hP,hS=>by
  have fi:∀ z:Int,f (z % t).toNat=true↔InS (z % t) F:=fun z=>by
   have l:=Qq0 z (show t≠0 by omega);have o:=QpZ z (show 0<t by omega);have:=hf (z % t).toNat Q0;rw [show (((z % t).toNat:Nat):Int)=z % t by omega] at this;exact this
  have ar:Qi (ER f t.toNat) (x:Int)=some [D.bool (f x)]:=by rw [Qq];exact DQ Q0
  have l:=Qq0 ((x:Int)-1) (show t≠0 by omega);have o:=QpZ ((x:Int)-1) (show 0<t by omega);have an:Qi (ER f t.toNat) (((x:Int)-1) % t)=some [D.bool (f (((x:Int)-1) % t).toNat)]:=by
   obtain ⟨z,hz⟩:∃ z:Nat,((x:Int)-1) % t=z:=⟨(((x:Int)-1) % t).toNat,Q0⟩;rw [hz,Qq,QpF];exact DQ Q0
  rw [YD,Q6 ((x:Int)<t),QpG,ar];simp -implicitDefEqProofs only [Qh,QpD,S6,QC (show x<=1000 by omega),Qn (x:=(x:Int)-1) Q0 Q0,QgR (n:=400) (x:=(x:Int)-1) g (show t<=7200 by omega) Q0 Q0,an];have ak:=hG.st x Q0 Q0;have ao:=hf x Q0;have au:=fi ((x:Int)-1);have a4:∀ (R':Type) (p:Bool) (d:R') (v:R') (k:R'->oP R),gb p (some v) d k=gb p (some v) d k:=fun _ _ _ _ _=>rfl
  have skip:(∀ q∈G,q.1≠x)->YD 400 t (ER f t.toNat) k0 m ((x+1:Nat):Int) ((P.map (Bk t)).map Yw)=K ((G.map (Bk t)).map Yw):=fun aw=>by
   refine Q5T g i hf hG hk c m (x+1) P S Q0 Q0 ac Q0 (fun q hq=>by have:=hP q hq;omega) (fun q hq=>?_);have:=hS q hq;have:=aw q (by rw [ac];exact Qq8 _ hq);omega
  cases hb:f x with
  |false=>
   simp -implicitDefEqProofs only [Qq9,QpT,gbF,QpG];refine skip fun q hq e=>?_
   have:=(ak.2 ⟨q,hq,e⟩).1;rw [<- ao,hb] at this;cases this
  |true=>
   simp -implicitDefEqProofs only [Qq9,QpT,Qh,QpE];cases j:f (((x:Int)-1) % t).toNat with
   |true=>
    rw [QpG];refine skip fun q hq e=>?_
    exact (ak.2 ⟨q,hq,e⟩).2 (au.1 j)
   |false=>
    rw [QpE];obtain ⟨q,hq,ax⟩:=ak.1 ⟨ao.1 hb,fun h=>by rw [<- au,j] at h;cases h⟩;obtain ⟨S',az⟩:∃ S',S=q::S':=by
     rw [ac] at hq;rcases QpP.1 hq with h | h
     ·have:=hP q h;omega
     cases S with
     |nil=>nomatch h
     |cons p S=>
      cases h with
      |head=>exact ⟨S,rfl⟩
      |tail _ h=>
       have ha:=hG.asc;rw [ac] at ha;have:=(Qq1.1 (Qqa.1 ha).2.1).1 q h;have:=hS p (.head _);omega
    subst az;have hr:=hG.rng q hq;obtain ⟨L,hL⟩:∃ L:Nat,q.2=x+L:=⟨(q.2-q.1).toNat,Q0⟩;have ay:=hG.ins q hq;have aq:=hG.out q hq;rw [QfT (n:=400) (k0:=_) (a:=(x:Int)) (L:=L) g i Q0 Q0 Q0 (fun k hk=>(fi _).2 (ay _ Q0 Q0)) (by
     cases h:f (((x:Int)+L) % t).toNat with
     |false=>rfl
     |true=>rw [<- hL] at h;exact (aq ((fi _).1 h)).elim)]
    have hw:[Ql ((x:Int)+L),Ql ((x:Int)+t-1)]=Yw (Bk t q):=by rw [<- hL,<- ax];rfl
    rw [Qn (x:=(x:Int)+L) Q0 Q0,Qn (x:=(x:Int)+t) Q0 Q0,Qn (x:=(x:Int)+t-1) Q0 Q0,XJ Q3,Qh];have:=Q5T g i hf hG hk c m (x+1) (P++[q]) S' Q0 Q0 (by rw [ac];simp) Q3 (fun p hp=>by
     rcases QpP.1 hp with h | h
     ·have:=hP p h;omega
     ·obtain rfl:=QpU.1 h;omega) (fun p hp=>by
     have ha:=hG.asc;rw [ac] at ha;have:=(Qq1.1 (Qqa.1 ha).2.1).1 p hp;omega)
    rw [QpN,QpN,List.map_singleton,List.map_singleton,<- hw] at this;exact this
theorem QbT {A B:List Occ} (p:2<=t) (a:t<=300) (hA:OL (-1) A) (hB:OL (-1) B) (lA:A.length<=6) (lB:B.length<=6) {F G:List Sp2} (hv:VS t (-1) F) (hF:∀ y,0<=y->y<t->(InS y F↔FB t A B y)) (hw:WR t F G) :
  HB 400 t (A.map enc) (B.map enc) Tu2=some (if cnt F=t then ([],(13:Int)) else ((G.map (Bk t)).map Yw,(0:Int))):=by
 obtain ⟨f,i,j⟩:=Q2d Q0 a (K:=fun w=>(some (w,(0:Int)):oP (LL×Int))) (k0:=fun _ _ w=>some (w,(0:Int))) (fun _ _ _=>rfl) hA hB Q0 Q0 A [] 400 (fun _=>false) rfl Q0 (fun y _=>⟨fun h=>(nomatch h),fun ⟨_,_,_,_,_,h,_⟩=>(nomatch h)⟩);have hf:∀ y:Nat,(y:Int)<t->(f y=true↔InS y F):=fun y hy=>by rw [j y Q0,hF y Q0 hy]
 have hm:Hn 400 t (A.map enc) (B.map enc) Tu2=some (ER f t.toNat,(0:Int)):=by
  unfold Hn;rw [Q58 Q0 (show t<=7200 by omega),Qa3 Q0 hA,Qa3 Q0 hB];simp -implicitDefEqProofs only [Qh,QpT,Qq9,QpE];rw [show (bif decide ((0:Int)<=t)&&decide (t<=t) then some () else none)=some () by rw [Xh Q3],Qh,XJ Q0,Qh];have e:List.replicate t.toNat [D.bool false]=ER (fun _=>false) t.toNat:=by unfold ER;rw [List.map_const',List.length_range]
  rw [e];exact i
 unfold HB;rw [hm,Qh,Qr (by rfl)];obtain ⟨w,k,l⟩:=Q61 (n:=400) a (f:=f) (K:=fun d=>bif (d == t) then (some ([],(13:Int)):oP (LL×Int)) else YD 400 t (ER f t.toNat) (fun m o g=>some (g,(0:Int))) 400 (0:Int) []) (k0:=fun d r s=>bif (d == t) then (some ([],(13:Int)):oP (LL×Int)) else YD 400 t (ER f t.toNat) (fun m o g=>some (g,(0:Int))) 400 (0:Int) []) (fun _ _ _=>rfl) t.toNat 400 0 0 Q0 Q0 Q0 Q0 ⟨fun _ y hy=>by omega,fun _=>rfl⟩;refine k.trans ?_;have hc:w=t↔cnt F=t:=by
  rw [l,Qbq Q0 hv];constructor
  ·intro h y u v;have:=(hf y.toNat Q0).1 (h y.toNat Q0);rw [show (y.toNat:Int)=y by omega] at this;exact this
  ·exact fun h y hy=>(hf y hy).2 (h y Q0 hy)
 by_cases ac:cnt F=t
 ·rw [Qqf ac,Xh (by simpa using hc.2 ac)]
 ·rw [Qqd ac,Qr (by simpa using fun h=>ac (hc.1 h))];exact Q5T Q0 a hf (hw.gp Q0 hv ac) (K:=fun w=>some (w,(0:Int))) (k0:=fun _ _ w=>some (w,(0:Int))) (fun _ _ _=>rfl) t.toNat 400 0 [] G Q0 Q0 rfl Q2 (fun q hq=>nomatch hq) (fun q hq=>((hw.gp Q0 hv ac).rng q hq).1)
end
theorem Dp {R:Type} {n:Nat} {O:List Occ} (hl:O.length<=1000) {q:Int->Bool} {K:LL->oP R} {k0:Int->Bool->LL->oP R} (hk:∀ a b w,k0 a b w=K w):∀ (ac P:List Occ) (j m:Nat),O.drop j=ac->ac.length<m->P.length<=j->Ym n (O.map enc) (O.length:Int) q k0 m (j:Int) (P.map enc)=K ((P++ac.filter fun o=>!q o.1).map enc)
 |[],P,j,m+1,hd,_,_=>by
  have:=Ul hd;rw [Ym,show decide ((j:Int)<(O.length:Int))=false by simpa using this,QpE,hk,Qqi,Qq3]
 |o::ac,P,j,m+1,hd,hm,hP=>by
  obtain ⟨e,aj,hj⟩:=Ys hd;rw [Ym,Qp hj,QpG,X0 e];simp -implicitDefEqProofs only [Qh,NG,Lh,F0,Qj,QC (show j<=1000 by omega),XJ (show ((P.map enc).length+[[Ql o.1,Ql o.2.1,Ql o.2.2]].length)*24<=100000 by simp;omega)];rw [List.filter_cons];cases hq:q o.1 with
  |true=>
   rw [QpT,QpE,Qqd Q2];exact Dp hl hk ac P (j+1) m aj (by simpa using hm) Q0
  |false=>
   rw [Qq9,QpG,Qqf rfl];have:=Dp (n:=n) (q:=q) hl hk ac (P++[o]) (j+1) m aj (by simpa using hm) Q3;rw [QpN,QpO] at this;exact this
theorem Q7e {R:Type} {O:List Occ} (hl:O.length<=300) {q:Int->Bool} (K:LL->(Int->Bool)->oP R):UP 400 (O.map enc) q K=K ((O.filter fun o=>!q o.1).map enc) q:=by
 unfold UP;rw [QpK];exact Dp Q0 (K:=fun w=>K w q) (fun _ _ _=>rfl) O [] 0 400 rfl Q0 Q2
namespace Cx
def Q67 (a b:Nat) (w:Sp2):List D:=[Ql 6,Ql ((2*a:Nat):Int),Ql ((2*b:Nat):Int),Ql w.1,Ql w.2,Ql 0]
def fil (X:Cx) (J:List Tup) (a b:Nat):List Occ:=(X.occN a).filter fun o=>!X.TRb J a b o.1
def WV (X:Cx) (per:Int) (J:List Tup) (a b:Nat):oP (List Sp2):=match Uc 400 per ((X.fil J a b).map enc) ((X.fil J b a).map enc) Tu2 with
 |some (w,e)=>if e=0 then some (w.map fun r=>match r with | [.int _ x,.int _ y]=>(x,y) | _=>(0,0)) else none
 |none=>none
def QgK:oP (List Sp2)->LL×Int
 |none=>([],13)
 |some W=>(W.map Yw,0)
def hdw (X:Cx) (per:Int) (J:List Tup) (a:Nat):Nat->Nat->oP LL
 |0,_=>some []
 |c+1,b=>match X.WV per J a b with
  |none=>none
  |some W=>(hdw X per J a c (b+1)).map fun H=>W.map (Q67 a b)++H
def hdws (X:Cx) (per:Int) (J:List Tup):Nat->Nat->oP LL
 |0,_=>some []
 |c+1,a=>match X.hdw per J a c (a+1) with
  |none=>none
  |some H=>(hdws X per J c (a+1)).map fun H'=>H++H'
variable {R:Type} {n:Nat} {X:Cx} (h:X.OK) {per:Int}
theorem Q6H {J:List Tup} {a b:Nat} {r:Int}:X.TRb J a b r=X.TRb J b a r:=by
 grind [TRb,jab]
include h
theorem Q7D {J:List Tup} {a b:Nat} (ha:a<X.N):OL (-1) (X.fil J a b)/\(X.fil J a b).length<=6:=by
 have o:=(JQ h ha).2;exact ⟨o.1.filter,Nat.le_trans (Qqk ..) o.2⟩
theorem Q2P (p0:2<=per) (p1:per<=300) {J:List Tup} {a b:Nat} (ha:a<X.N) (hb:b<X.N):Uc 400 per ((X.fil J a b).map enc) ((X.fil J b a).map enc) Tu2=some (QgK (X.WV per J a b))/\HB 400 per ((X.fil J a b).map enc) ((X.fil J b a).map enc) Tu2=some (QgK (X.WV per J a b))/\∀ W,X.WV per J a b=some W->W.length<=12:=by
 have oa:=Q7D h (J:=J) (b:=b) ha;have ob:=Q7D h (J:=J) (b:=a) hb;obtain ⟨F,G,g1,g,j,i,k⟩:=Q7h p0 (show per<=7200 by omega) oa.1 ob.1 oa.2 ob.2;have l:=QbT p0 p1 oa.1 ob.1 oa.2 ob.2 g1 j i;have hG:G.length<=12:=by
  rcases i with ⟨rfl,_⟩ | ⟨b,M,c,rfl,rfl⟩
  ·exact g
  ·simp at g ⊢;omega
 have e:X.WV per J a b=if cnt F=per then none else some (G.map (Bk per)):=by
  unfold WV;rw [k];by_cases hc:cnt F=per
  ·rw [Qqf hc,Qqf hc];rfl
  ·rw [Qqd hc,Qqd hc];dsimp only;rw [Qqf rfl,List.map_map];congr 1;refine (List.map_congr_left fun q _=>?_).trans (List.map_id _);rfl
 grind [QgK,cnt,Bk,Yw]
omit h in
theorem Qhw {a b:Nat} (ha:a<=100) (hb:b<=100) {W:List Sp2} (hW:W.length<=12) {k0:Int->Bool->LL->oP R} {A:LL} (hA:A.length<=900):QQ 400 (a:Int) (b:Int) (W.map Yw) (W.length:Int) k0 400 0 A=k0 (W.length:Int) false (A++W.map (Q67 a b)):=by
 refine QD (r:=fun m j=>QQ 400 (a:Int) (b:Int) (W.map Yw) (W.length:Int) k0 m j (A++(W.take j.toNat).map (Q67 a b))) (N:=W.length) (fun m j hj=>?_) (fun m=>?_) W.length 400 0 Q0 Q0 |> Eq.trans Q2
 ·simp only [QpF];obtain ⟨w,e⟩:∃ q,W[j]? = some q:=⟨W[j],QpJ hj⟩;rw [QQ,Qp hj,QpG,X0 e,YE e,QpN,<- QpO];simp -implicitDefEqProofs only [Qh,QbL,Qbf,Qj,QC (show j<=1000 by omega),QcV (n:=400) (show a<=1000 by omega),QcV (n:=400) (show b<=1000 by omega),QeG (n:=400) (A:=A++(W.take j).map (Q67 a b)) Q3];rfl
 ·simp only [QpF];rw [QQ,Qz,QpE,QpX]
theorem Q2o (p0:2<=per) (p1:per<=300) {J:List Tup} {a:Nat} (ha:a<X.N):∀ {c b:Nat} {H:LL},b+c<=X.N->X.hdw per J a c b=some H->H.length<=12*c
 |0,b,H,_,e=>by cases e;exact QpW _
 |c+1,b,H,hb,e=>by
  rw [hdw] at e;have hw:=(Q2P h p0 p1 (J:=J) ha (show b<X.N by omega)).2.2;cases ew:X.WV per J a b with
  |none=>rw [ew] at e;cases e
  |some W=>
   rw [ew] at e;cases eh:X.hdw per J a c (b+1) with
   |none=>simp only [eh] at e;cases e
   |some H'=>
    simp only [eh] at e;cases e;have:=hw W ew;have:=Q2o p0 p1 ha Q0 eh;simp;omega
theorem QfX (p0:2<=per) (p1:per<=300) {J:List Tup} (hJ:X.JOK J) {a:Nat} (ha:a<X.N) {k0:Int->LL->oP R} {k1:Int->Bool->LL->oP R} {Ke K1:LL->oP R} (d:∀ A,k0 13 A=Ke A) (e:∀ u v A,k1 u v A=K1 A):∀ (c m b:Nat) (A:LL),b+c=X.N->c<m->A.length+12*c<=900->∃ A',
  X7 400 (a:Int) per (Kv (X.occs X.L)) (J.map tuR) k0 k1 m (b:Int) A=match X.hdw per J a c b with | none=>Ke A' | some H=>K1 (A++H)
 |0,m+1,b,A,hb,_,_=>by
  have ac:(Kv (X.occs X.L)).length=X.N:=by rw [JE];exact ZV
  refine ⟨A,?_⟩;rw [X7,ac,Q5 ((b:Int)<(X.N:Int)),QpE,e,hdw]
  simp_all
 |c+1,m+1,b,A,hb,hm,hA=>by
  have ac:(Kv (X.occs X.L)).length=X.N:=by rw [JE];exact ZV
  have hN:X.N<=6:=base_le h;have oa:=JQ h ha;have ob:=JQ h (show b<X.N by omega);obtain ⟨q,g,f⟩:=Qi7 h hJ (a:=a) (b:=b);have aj:(X.occN a).filter (fun o=>!q o.1)=X.fil J a b:=List.filter_congr fun o _=>by rw [f]
  have ak:(X.occN b).filter (fun o=>!q o.1)=X.fil J b a:=List.filter_congr fun o _=>by rw [f,Q6H]
  have hw:=Q2P h p0 p1 (J:=J) ha (show b<X.N by omega);rw [X7,ac,Q6 ((b:Int)<(X.N:Int)),QpG,g,oa.1,ob.1];simp -implicitDefEqProofs only [Qh,QpD,QN,QC (show b<=1000 by omega),Q7e (show (X.occN a).length<=300 by omega),Q7e (show (X.occN b).length<=300 by omega),aj,ak,hw.1,hdw];cases ew:X.WV per J a b with
  |none=>exact ⟨A,d A⟩
  |some W=>
   have hl:=hw.2.2 W ew;obtain ⟨A',ih⟩:=QfX p0 p1 hJ ha d e c m (b+1) (A++W.map (Q67 a b)) Q0 Q0 Q3;refine ⟨A',?_⟩;simp -implicitDefEqProofs only [QgK];rw [Qr (by rfl),QpK,Qhw Q0 Q0 hl Q0,ih]
   grind
theorem Qg5 (p0:2<=per) (p1:per<=300) {J:List Tup} (hJ:X.JOK J) {k0:Int->LL->oP R} {k1:Int->Bool->LL->oP R} {Ke K1:LL->oP R} (d:∀ A,k0 13 A=Ke A) (e:∀ u v A,k1 u v A=K1 A):∀ (c m a:Nat) (A:LL),a+c=X.N->c<m->A.length+72*c<=900->∃ A',
  QJ 400 (X.N:Int) per (Kv (X.occs X.L)) (J.map tuR) k0 k1 m (a:Int) A=match X.hdws per J c a with | none=>Ke A' | some H=>K1 (A++H)
 |0,m+1,a,A,ha,_,_=>by
  refine ⟨A,?_⟩;rw [QJ,Q5 ((a:Int)<(X.N:Int)),QpE,e,hdws];simp only [Qq3]
 |c+1,m+1,a,A,ha,hm,hA=>by
  have hN:X.N<=6:=base_le h;obtain ⟨A1,f⟩:=QfX h p0 p1 hJ (show a<X.N by omega) (Ke:=Ke) (K1:=fun A=>QJ 400 (X.N:Int) per (Kv (X.occs X.L)) (J.map tuR) k0 k1 m ((a+1:Nat):Int) A) (k0:=fun g i=>k0 g i) (k1:=fun k l j=>QJ 400 (X.N:Int) per (Kv (X.occs X.L)) (J.map tuR) k0 k1 m ((a+1:Nat):Int) j) (fun A=>d A) (fun u v A=>rfl) c 400 (a+1) A Q0 Q0 Q0;rw [QJ,Q6 ((a:Int)<(X.N:Int)),QpG,QC (show a<=1000 by omega),f,hdws];cases eh:X.hdw per J a c (a+1) with
  |none=>exact ⟨A1,rfl⟩
  |some H=>
   have:=Q2o h p0 p1 (J:=J) (show a<X.N by omega) (c:=c) (b:=a+1) Q0 eh;obtain ⟨A2,h2⟩:=Qg5 p0 p1 hJ d e c m (a+1) (A++H) Q0 Q0 Q3;refine ⟨A2,?_⟩;dsimp only;rw [h2];cases X.hdws per J c (a+1) with
   |none=>rfl
   |some H'=>simp -implicitDefEqProofs only [Option.map_some,QpO]
theorem hdws_len (p0:2<=per) (p1:per<=300) {J:List Tup}:∀ {c a:Nat} {H:LL},a+c=X.N->X.hdws per J c a=some H->H.length<=60*c
 |0,a,H,_,e=>by cases e;exact QpW _
 |c+1,a,H,ha,e=>by
  have hN:X.N<=6:=base_le h;rw [hdws] at e;cases eh:X.hdw per J a c (a+1) with
  |none=>rw [eh] at e;cases e
  |some H1=>
   have:=Q2o h p0 p1 (J:=J) (show a<X.N by omega) (c:=c) (b:=a+1) Q0 eh;rw [eh] at e;cases e2:X.hdws per J c (a+1) with
   |none=>simp only [e2] at e;cases e
   |some H2=>
    have:=hdws_len p0 p1 Q0 e2;simp only [e2] at e;cases e;simp;omega
theorem Qgs (p0:2<=per) (p1:per<=300) {J:List Tup} (hJ:X.JOK J) {A:LL} (hA:A.length<=100):∃ A',YB 400 per (Kv (X.occs X.L)) (J.map tuR) A Tu2=some (match X.hdws per J X.N 0 with | none=>((13:Int),A') | some H=>(0,A++H)):=by
 have hN:X.N<=6:=base_le h;have ac:(Kv (X.occs X.L)).length=X.N:=by rw [JE];exact ZV
 unfold YB;rw [ac];obtain ⟨A',e⟩:=Qg5 h p0 p1 hJ (k0:=fun c d=>some (c,d)) (k1:=fun g i f=>some ((0:Int),f)) (Ke:=fun A=>some (13,A)) (K1:=fun A=>some (0,A)) (fun _=>rfl) (fun _ _ _=>rfl) X.N 400 0 A Q0 Q0 Q0;refine ⟨A',e.trans ?_⟩
 grind
end Cx
namespace Cx
def netV (X:Cx) (per:Int) (J:List Tup) (Ch Sy:LL):Int×LL×LL×Int:=bif X.aloneJ per J then (match X.hdws per J X.N 0 with
 |none=>(0,[],[],13)
 |some H=>(per,X.evs X.L,X.planned Ch Sy++H,0)) else (0,[],[],13)
variable {X:Cx} (h:X.OK) {per:Int} {Ch Sy De:LL} (hl:X.LsOK per Ch Sy)
theorem Q7x {α:Type} {nr:Nat->Nat} {f:Nat->Nat->α} {x:α}:∀ {L:Nat},x∈Qb3 nr f L↔∃ i k,i<L/\k<nr i/\x=f i k
 |0=>⟨fun h=>(nomatch h),fun ⟨_,_,h,_⟩=>by omega⟩
 |L+1=>by
  rw [Qb3,QpP,Q7x,Qql];constructor
  ·rintro (⟨i,k,b,h2,a⟩ | ⟨k,hk,rfl⟩)
   ·exact ⟨i,k,Q0,h2,a⟩
   ·exact ⟨L,k,Q0,List.mem_range.1 hk,rfl⟩
  ·rintro ⟨i,k,b,h2,a⟩;by_cases hi:i=L
   ·subst hi;exact .inr ⟨k,List.mem_range.2 h2,a.symm⟩
   ·exact .inl ⟨i,k,Q0,h2,a⟩
theorem Q5H {t:Tup}:t∈X.jns↔(∃ i k,i<X.L/\k<X.nr i-1/\t=X.j1 i k)\/∃ u∈X.T,X.jT u=t:=by
 unfold jns jL;rw [QpP,Q7x,Qql]
include h
theorem QcU {i k:Nat} (hi:i<X.Ls.length) (hk:k<X.nr i):base X.nr i+k<X.N:=by
 have:=SN (nr:=X.nr) (i:=i) (j:=X.L) hi;unfold N;omega
theorem Qet:X.JOK X.jns:=by
 refine ⟨fun t ht=>?_,Qe1 h⟩;rcases Q5H.1 ht with ⟨i,k,a,h2,rfl⟩ | ⟨u,hu,rfl⟩
 ·have r:=rd h a (show k<X.nr i by omega);have q:=S7 h a (show k<X.nr i by omega);have:=r.ex0;have:=r.ex1;have:=r.mn0;have:=r.mn1;have:=r.mn2;have:=r.mn3;refine ⟨QcU h a Q0,QcU h a Q0,?_,?_,?_,?_⟩ <;> simp only [j1] <;> omega
 ·have ht:=h.tr _ hu;have ha:u.1<X.Ls.length:=ht.1;have hb:u.2.1<X.Ls.length:=ht.2.1;have na:=(JM h ha).2.1;have nb:=(JM h hb).2.1;have t1:=ht.2.2.1;have t2:=ht.2.2.2.1;have b:=ht.2.2.2.2.1;have c:=ht.2.2.2.2.2.1;have r:=rd h ha (show X.nr u.1-1<X.nr u.1 by omega);have q:=S7 h ha (show X.nr u.1-1<X.nr u.1 by omega);have:=r.ex0;have:=r.ex1;refine ⟨QcU h ha Q0,QcU h hb Q0,?_,?_,?_,?_⟩ <;> simp only [jT] <;> omega
include hl
theorem planned_len:(X.planned Ch Sy).length<=35:=by
 have hN:base X.nr X.L<=6:=base_le h;have:=Q02 (X:=X) (i:=X.L);have:=hl.chl;have:=hl.syl;have:=h.tl;unfold planned;simp only [Qq2,QpK];omega
theorem buildP (p0:2<=per) (p1:per<=300) (hc:Vu 400 X.G.St X.G.Pt X.G.Se X.G.Li per X.skR X.Ro X.Ls Ch (X.T.map tuR) Sy De (some:Int->oP Int)=some 0) :
  Kw 400 X.G.St X.G.Pt X.G.Se X.G.Li per X.skR X.Ro X.Ls Ch (X.T.map tuR) Sy De Tu4=some (X.netV per X.jns Ch Sy):=by
 have hN:base X.nr X.L<=6:=base_le h;have aj:=planned_len h hl;unfold Kw netV;rw [hc,Qh,Qr (by rfl),QdA h,Qh];dsimp only;rw [evs_len,Qr (QpM Q0),Qgc h hc,Qh];dsimp only;rw [Qr (by rfl),QeU h,Qh];rw [Qf5 h Q0 p1 (Qet h),Qh];cases X.aloneJ per X.jns
 ·rfl
 rw [Qr (by rfl),Qbl h hl,Qh];obtain ⟨A',e⟩:=Qgs h p0 p1 (Qet h) (A:=X.planned Ch Sy) Q0;rw [e,Qh,QpG];cases eh:X.hdws per X.jns X.N 0 with
 |none=>rfl
 |some H=>
  have:=hdws_len h p0 p1 Q0 eh;have ac:X.N<=6:=hN;dsimp only;rw [Qr (by rfl),Qr (QpM (by rw [Qq2];omega))]
end Cx
theorem Q7R {α β:Type} {r:Nat->Int->β} {l:List α} {p:α->Bool} {F:α->β} {E:β} (a:∀ m i q,l[i]? = some q->i<l.length->r (m+1) (i:Int)=bif p q then F q else r m ((i+1:Nat):Int)) (b:∀ m,r (m+1) (l.length:Int)=E) {fuel:Nat} (hf:l.length<fuel):r fuel 0=match l.find? p with | some q=>F q | none=>E:=by
 have go:∀ (ac:List α) (i m:Nat),l.drop i=ac->ac.length<m->i<=l.length->r m (i:Int)=match ac.find? p with | some q=>F q | none=>E:=by
  intro ac;induction ac with
  |nil=>
   intro i m hd hm hi;obtain ⟨m,rfl⟩:∃ k,m=k+1:=⟨m-1,Q0⟩
   grind
  |cons q ac ih=>
   intro i m hd hm hi;obtain ⟨m,rfl⟩:∃ k,m=k+1:=⟨m-1,by simp at hm;omega⟩
   grind [Ys]
 exact go l 0 fuel rfl hf (Nat.zero_le _)
theorem Qfy {t:Int} {O:List Occ} (a:1<=t) (b:t<=7200) (hO:OL (-1) O) (hl:O.length<=300):L6 400 t (O.map enc) (some:Bool->oP Bool)=some (O.all (SJ t)):=by
 unfold L6;rw [Q58 a b,Qa3 hl hO];simp -implicitDefEqProofs only [QpE,Qh,QpT,Qq9];refine (P9 (r:=fun m i=>JJ 400 t (O.map enc) (some false) (fun _ _=>some true) m i) (l:=O) (p:=SJ t) (E0:=some false) (E1:=some true) (fun m i q e hi=>?_) (fun m=>?_) Q0).trans (by cases O.all (SJ t) <;> rfl)
 ·rw [JJ,QpK,Qp hi,QpG,X0 e];simp -implicitDefEqProofs only [Qh,NG,Lh,F0,Qj,QC (show i<=1000 by omega),QiE hO (QpH e)];unfold SJ;cases decide (q.2.2-q.2.1>t) <;> rfl
 ·rw [JJ,QpK,Qz,QpE]
def Q8x (O:List Occ) (r:Int):Bool:=(O.find? fun q=>q.1 == r).isSome
def fnd (O:List Occ) (r:Int):Occ:=(O.find? fun q=>q.1 == r).getD (0,0,0)
theorem Bh {p:Occ->Bool} {r:Int} (hp:∀ q,q.1≠r->p q=false):∀ {l:Int} {O:List Occ},OL l O->O.any p=(bif Q8x O r then p (fnd O r) else false)
 |_,[],_=>rfl
 |l,(x,a,b)::O,⟨d,h2,e,f,g,c⟩=>by
  have ih:=Bh hp c;unfold Q8x fnd at ih ⊢;by_cases hx:x=r
  ·subst hx;have:O.any p=false:=by
    rw [List.any_eq_false];intro q hq;have:=(c.mem q hq).1
    grind
   simp_all
  grind
theorem Q5C {O:List Occ} {r:Int} (h:Q8x O r=true):(fnd O r).1=r:=by
 unfold Q8x at h;unfold fnd;cases e:O.find? fun q=>q.1 == r with
 |none=>simp_all
 |some q=>grind
theorem Q6q {l:Int} {O:List Occ} (hO:OL l O) {x:Occ} (hx:x∈O):Q8x O x.1=true/\fnd O x.1=x:=by
 unfold Q8x fnd;cases e:O.find? fun q=>q.1 == x.1 with
 |none=>grind
 |some q=>exact ⟨rfl,hO.uniq (Qqe e) hx (by grind)⟩
def okR (la:Int) (A B:List Occ) (r:Int):Bool:=bif (bif Q8x A r then Q8x B r else false) then decide (la+(fnd B r).2.1<=(fnd A r).2.2) else false
theorem Qcq {la:Int} {x y:Occ} (h:y.1≠x.1):tie la x y=false:=by
 grind [tie]
theorem QfR {la r:Int} {A B:List Occ} (hA:OL (-1) A) (hB:OL (-1) B):okR la A B r=Q1x la A B r:=by
 unfold Q1x okR;rw [Bh (r:=r) (fun q hq=>by
  simp_all) hA]
 cases ha:Q8x A r with
 |false=>rfl
 |true=>
  have ea:=Q5C ha;rw [QpG,QpG,Bh (r:=r) (fun y hy=>by grind [Qcq]) hB];cases hb:Q8x B r with
  |false=>rfl
  |true=>
   have eb:=Q5C hb
   simp_all [tie,QpG,decide,fnd]
theorem Qd8 {per la mo:Int} {A B:List Occ} (hA:OL (-1) A) (hB:OL (-1) B) {x:Occ} (hx:x∈A):(B.any fun y=>bif tie la x y then BA per la mo x y else false)=bif okR la A B x.1 then BA per la mo (fnd A x.1) (fnd B x.1) else false:=by
 have ha:=Q6q hA hx;unfold okR;rw [Bh (r:=x.1) (fun y hy=>by grind [Qcq]) hB,ha.1,ha.2,QpG];cases hb:Q8x B x.1 with
 |false=>rfl
 |true=>
  simp_all [Q5C,tie,QpG]
theorem Q68 {l:Int} {O:List Occ} (hO:OL l O) {r:Int} : -1000<=(fnd O r).2.1/\(fnd O r).2.1<=20000 /\ -1000<=(fnd O r).2.2/\(fnd O r).2.2<=20000:=by
 unfold fnd;cases e:O.find? fun q=>q.1 == r with
 |none=>simp
 |some q=>
  have:=hO.mem q (Qqe e)
  grind
theorem Qfj {R:Type} {O:List Occ} (hl:O.length<=300) {r:Int} (K:D->D->D->Bool->oP R):J0 400 (O.map enc) r K=K (Ql (fnd O r).1) (Ql (fnd O r).2.1) (Ql (fnd O r).2.2) (Q8x O r):=by
 unfold J0 fnd Q8x;refine (Q7R (r:=fun m i=>Zk 400 (O.map enc) r (fun a b c=>K a b c true) (fun d f=>K (Ql 0) (Ql 0) (Ql 0) false) m i) (l:=O) (p:=fun q=>q.1 == r) (F:=fun q=>K (Ql q.1) (Ql q.2.1) (Ql q.2.2) true) (E:=K (Ql 0) (Ql 0) (Ql 0) false) (fun m i q e hi=>?_) (fun m=>?_) Q0).trans ?_
 ·rw [Zk,QpK,Qp hi,QpG,X0 e];simp -implicitDefEqProofs only [Qh,NG,Lh,F0,Qj,QC (show i<=1000 by omega)]
 ·rw [Zk,QpK,Qz,QpE]
 ·cases O.find? fun q=>q.1 == r <;> rfl
namespace Cx
variable {R:Type} {X:Cx} (h:X.OK)
include h
theorem QeZ {J:List Tup} (hJ:X.JOK J) {t:Tup} (ht:t∈J) {r:Int} (K:D->D->D->D->D->D->Bool->oP R):So 400 (Kv (X.occs X.L)) (t.1:Int) (t.2.1:Int) t.2.2.1 r K=K (Ql (fnd (X.occN t.1) r).1) (Ql (fnd (X.occN t.1) r).2.1) (Ql (fnd (X.occN t.1) r).2.2) (Ql (fnd (X.occN t.2.1) r).1) (Ql (fnd (X.occN t.2.1) r).2.1) (Ql (fnd (X.occN t.2.1) r).2.2) (okR t.2.2.1 (X.occN t.1) (X.occN t.2.1) r):=by
 have hj:=hJ.at' t ht;have oa:=JQ h hj.1;have ob:=JQ h hj.2.1;have rb:=Q68 ob.2.1 (r:=r);unfold So okR;rw [oa.1,ob.1];simp -implicitDefEqProofs only [Qh,QpD,QN,Qfj (show (X.occN t.1).length<=300 by omega),Qfj (show (X.occN t.2.1).length<=300 by omega),Qj,Qn (x:=t.2.2.1+(fnd (X.occN t.2.1) r).2.1) Q0 Q0]
theorem QfZ {J:List Tup} (hJ:X.JOK J) {t:Tup} (ht:t∈J) {per:Int} (K:Bool->oP R):N1 400 (Kv (X.occs X.L)) (t.1:Int) (t.2.1:Int) t.2.2.1 t.2.2.2 per K=K (!Q8D per t.2.2.1 t.2.2.2 (X.occN t.1) (X.occN t.2.1)):=by
 have hj:=hJ.at' t ht;have oa:=JQ h hj.1;have ob:=JQ h hj.2.1;unfold N1 Q8D;refine (P9 (r:=fun m i=>V7 400 (Kv (X.occs X.L)) per (t.1:Int) (t.2.1:Int) t.2.2.1 t.2.2.2 (K false) (fun a b=>K true) m i) (l:=X.occN t.1) (p:=fun x=>!((X.occN t.2.1).any fun y=>bif tie t.2.2.1 x y then BA per t.2.2.1 t.2.2.2 x y else false)) (E0:=K false) (E1:=K true) (fun m i x e hi=>?_) (fun m=>?_) Q0).trans ?_
 ·have ra:=Q68 oa.2.1 (r:=x.1);have rb:=Q68 ob.2.1 (r:=x.1);rw [V7,oa.1,Qd8 oa.2.1 ob.2.1 (QpH e)];simp -implicitDefEqProofs only [Qh,QpD,QN,QpK,Qp hi,QpG,X0 e,NG,Qj,QeZ h hJ ht,QC (show i<=1000 by omega)];generalize fnd (X.occN t.1) x.1=u at ra ⊢;generalize fnd (X.occN t.2.1) x.1=v at rb ⊢;cases okR t.2.2.1 (X.occN t.1) (X.occN t.2.1) x.1 with
  |false=>rfl
  |true=>
   rw [QpG,QpG,Qn (x:=t.2.2.1+v.2.1) Q0 Q0,Qn (x:=t.2.2.2+v.2.2) Q0 Q0,Qn (x:=(if u.2.2<t.2.2.2+v.2.2 then t.2.2.2+v.2.2 else u.2.2)-(if t.2.2.1+v.2.1<u.2.1 then t.2.2.1+v.2.1 else u.2.1)) (by split <;> split <;> omega) (by split <;> split <;> omega)];unfold BA;cases decide ((if u.2.2<t.2.2.2+v.2.2 then t.2.2.2+v.2.2 else u.2.2)-(if t.2.2.1+v.2.1<u.2.1 then t.2.2.1+v.2.1 else u.2.1)>per) <;> rfl
 ·rw [V7,oa.1];simp -implicitDefEqProofs only [Qh,QpD,QN,QpK,Qz,QpE]
 ·rw [<- List.not_any_eq_all_not];cases (X.occN t.1).any fun x=>(X.occN t.2.1).any fun y=>bif tie t.2.2.1 x y then BA per t.2.2.1 t.2.2.2 x y else false <;> rfl
theorem Qa2 {J:List Tup} (hJ:X.JOK J) {a b i:Nat} (ha:a<X.N) {x:Occ} (e:(X.occN a)[i]? = some x) (k0:Bool->Int->Bool->oP R):Zf 400 (Kv (X.occs X.L)) (J.map tuR) (a:Int) (b:Int) (i:Int) k0 400 false 0=k0 (X.TRb J a b x.1) (J.length:Int) false:=by
 have oa:=JQ h ha;have hl:=hJ.len;unfold TRb;rw [<- Bool.false_or (List.any _ _),<- Ee];refine FM (r:=fun m j c=>Zf 400 (Kv (X.occs X.L)) (J.map tuR) (a:Int) (b:Int) (i:Int) k0 m c j) (E:=fun c=>k0 c (J.length:Int) false) (fun m j t c e' hi=>?_) (fun m c=>?_) Q0 false
 ·have hj:=hJ.at' t (QpH e');have d:=JQ h hj.1;have f:=JQ h hj.2.1;have ac:Qi (J.map tuR) (j:Int)=some [Ql t.1,Ql t.2.1,Ql t.2.2.1,Ql t.2.2.2]:=X0 e';rw [Zf,QpK,Qp hi,QpG,ac];simp -implicitDefEqProofs only [Qh,QpD,QpI,Qj,QN,oa.1,X0 e,NG,QeZ h hJ (QpH e'),QC (show j<=1000 by omega),QfR d.2.1 f.2.1];show (bif jab a b t then _ else _)=_;cases jab a b t <;> cases c <;> rfl
 ·rw [Zf,QpK,Qz,QpE]
theorem Q6x {J:List Tup} (hJ:X.JOK J) {a b:Nat} (ha:a<X.N) (K:LL->oP R):K4 400 (Kv (X.occs X.L)) (J.map tuR) (a:Int) (b:Int) K=K ((X.fil J a b).map enc):=by
 have oa:=JQ h ha;unfold K4 fil;refine QD (r:=fun m i=>Wi 400 (Kv (X.occs X.L)) (J.map tuR) (a:Int) (b:Int) (fun d f c=>K c) m i ((((X.occN a).take i.toNat).filter fun o=>!X.TRb J a b o.1).map enc)) (N:=(X.occN a).length) (fun m i hi=>?_) (fun m=>?_) (X.occN a).length 400 0 Q0 Q0
 ·simp only [QpF];obtain ⟨x,e⟩:∃ q,(X.occN a)[i]? = some q:=⟨(X.occN a)[i],QpJ hi⟩;have aj:(((X.occN a).take i).filter fun o=>!X.TRb J a b o.1).length<=i:=Nat.le_trans (Qqk ..) Q3;rw [Wi,oa.1];simp -implicitDefEqProofs only [Qh,QpD,QN,QpK,Qp hi,QpG,Qa2 h hJ ha e,X0 e,NG,Lh,F0,QC (show i<=1000 by omega),XJ (show ((((X.occN a).take i).filter fun o=>!X.TRb J a b o.1).length+[[Ql x.1,Ql x.2.1,Ql x.2.2]].length)*24<=100000 by simp;omega)];rw [YE e,List.filter_append,QpN];simp only [List.filter_cons,Qqi];cases X.TRb J a b x.1 with
  |false=>rfl
  |true=>
   rw [QpT,QpE,Qqd Bool.false_ne_true,List.map_nil,Qq3]
 ·simp only [QpF];rw [Wi,oa.1];simp -implicitDefEqProofs only [Qh,QpD,QN,QpK,Qz,QpE,QpX]
end Cx
theorem Q9A {a b:Nat} (h:a+b<=100000):wJ ((a:Int)+(b:Int))=((a+b:Nat):Int):=Qn Q0 Q0
theorem Q9T {a:Nat} (h:a<=100000):wJ ((a:Int)+1)=((a+1:Nat):Int):=Qn Q0 Q0
theorem QfO {a:Nat} (h:a<=100000):wJ ((a:Int)+2)=((a+2:Nat):Int):=Qn Q0 Q0
theorem Sx {a:Nat} (h:a<=100000):wJ (2*(a:Int))=((2*a:Nat):Int):=Qn Q0 Q0
namespace Cx
def jR (X:Cx) (i:Nat):List Tup:=(List.range (X.nr i-1)).map (X.j1 i)++(match X.tn i with | some t=>[X.jT t] | none=>[])
def jnsR (X:Cx):Nat->List Tup
 |0=>[]
 |i+1=>jnsR X i++X.jR i
variable {R:Type} {n:Nat} {X:Cx} (h:X.OK)
theorem Q7B {t:Tup}:∀ {L:Nat},t∈X.jnsR L↔∃ i,i<L/\t∈X.jR i
 |0=>⟨fun h=>(nomatch h),fun ⟨_,h,_⟩=>by omega⟩
 |L+1=>by
  rw [jnsR,QpP,Q7B];constructor
  ·rintro (⟨i,a,h2⟩ | h2)
   ·exact ⟨i,Q0,h2⟩
   ·exact ⟨L,Q0,h2⟩
  ·rintro ⟨i,a,h2⟩;by_cases hi:i=L
   ·subst hi;exact .inr h2
   ·exact .inl ⟨i,Q0,h2⟩
theorem C5 {i:Nat} {t:Tup} (ht:X.tn i=some t):t∈X.T/\t.1=i:=⟨Qqe ht,by simpa using List.find?_some ht⟩
theorem Q2V {α β:Type} {f:α->β}:∀ {l:List α},(l.map f).Nodup->∀ {x y},x∈l->y∈l->f x=f y->x=y
 |[],_,_,_,h,_,_=>nomatch h
 |a::l,hn,x,y,hx,hy,e=>by
  rw [List.map_cons,List.nodup_cons] at hn;cases hx with
  |head=>
   cases hy with
   |head=>rfl
   |tail _ hy=>exact (hn.1 (Qql.2 ⟨y,hy,e.symm⟩)).elim
  |tail _ hx=>
   cases hy with
   |head=>exact (hn.1 (Qql.2 ⟨x,hx,e⟩)).elim
   |tail _ hy=>exact Q2V hn.2 hx hy e
include h
theorem Qe3 {t:Tup} (ht:t∈X.T):X.tn t.1=some t:=by
 cases e:X.tn t.1 with
 |none=>exact absurd (List.find?_eq_none.1 e t ht) Q2
 |some u=>
  have hu:=C5 e;rw [Q2V h.fd hu.1 ht hu.2]
theorem Q3m {t:Tup}:t∈X.jnsR X.L↔t∈X.jns:=by
 rw [Q7B,Q5H];constructor
 ·rintro ⟨i,hi,ht⟩;rcases QpP.1 ht with ht | ht
  ·grind
  ·cases e:X.tn i with
   |none=>simp_all
   |some u=>
    rw [e] at ht;obtain rfl:=QpU.1 ht;exact .inr ⟨u,(C5 e).1,rfl⟩
 ·rintro (⟨i,k,hi,hk,rfl⟩ | ⟨u,hu,rfl⟩)
  ·exact ⟨i,hi,Qq4 _ (List.mem_map_of_mem (List.mem_range.2 hk))⟩
  ·refine ⟨u.1,(h.tr _ hu).1,Qq8 _ ?_⟩
   grind [Qe3]
theorem Q7H {i:Nat} (hi:i<=X.Ls.length):(X.jnsR i).length<=base X.nr i:=by
 induction i with
 |zero=>exact QpW _
 |succ i ih=>
  have hl:=(JM h (i:=i) Q0).2.1
  grind [jnsR,jR,List.length_append,List.length_map,List.length_range,base]
theorem Qfq:X.JOK (X.jnsR X.L):=⟨fun t ht=>(Qet h).at' t ((Q3m h).1 ht),by have:=Q7H h (i:=X.L) (QpW _);have:=base_le h;omega⟩
theorem Df {i:Nat} (hi:i<=X.Ls.length) (K:Int->oP R):Z7 400 X.Ls (i:Int) K=K ((base X.nr i:Nat):Int):=by
 have hb:=Ya h hi;have l1:=h.l1;unfold Z7;refine QD (r:=fun m k=>JN 400 (i:Int) X.Ls (fun c d e=>K c) m ((base X.nr k.toNat:Nat):Int) k) (N:=i) (fun m k hk=>?_) (fun m=>?_) i 400 0 Q0 Q0
 ·simp only [QpF];have ac:=Ya h (i:=k+1) Q0;rw [base] at ac;have ha:wJ (((base X.nr k:Nat):Int)+(((GI X.Ls k).length:Nat):Int))=((base X.nr (k+1):Nat):Int):=Q9A (a:=base X.nr k) (b:=X.nr k) Q0;rw [JN,Qp hk,QpG,Qq,(JM h Q0).1];simp -implicitDefEqProofs only [Qh,QpD,QpI,QN,QC (show k<=1000 by omega),ha]
 ·simp only [QpF];rw [JN,Qz,QpE]
theorem Qgu (K:LL->oP R):Rl 400 X.Ls (X.T.map tuR) (encI (X.runs X.L)) K=K ((X.jnsR X.L).map tuR):=by
 have l1:=h.l1;unfold Rl;refine QD (r:=fun m i=>UW 400 (encI (X.runs X.L)) X.Ls (X.T.map tuR) (fun f g c=>K c) m i ((X.jnsR i.toNat).map tuR)) (N:=X.Ls.length) (fun m i hi=>?_) (fun m=>?_) X.Ls.length 400 0 Q0 Q0
 ·simp only [QpF];have hl:=(JM h hi).2.1;have hb:=Ya h (i:=i) Q0;have hw:wJ (((List.length (GI X.Ls i):Nat):Int)-1)=((X.nr i-1:Nat):Int):=JP (k:=X.nr i) Q0 Q0;have hJ:=Q7H h (i:=i) Q0;rw [UW,Qp hi,QpG,Qq,(JM h hi).1];simp -implicitDefEqProofs only [Qh,QpD,QpI,QC (show i<=1000 by omega)];refine QD (r:=fun m' k=>WD 400 (encI (X.runs X.L)) (i:Int) X.Ls (X.T.map tuR) (D.sl 4 (GI X.Ls i)) (fun _ _ w=>UW 400 (encI (X.runs X.L)) X.Ls (X.T.map tuR) (fun f g c=>K c) m ((i+1:Nat):Int) w) m' k ((if k.toNat<=X.nr i-1 then X.jnsR i++(List.range k.toNat).map (X.j1 i) else X.jnsR (i+1)).map tuR)) (N:=X.nr i) (fun m' k hk=>?_) (fun m'=>?_) (X.nr i) 400 0 Q0 Q0 |> Eq.trans Q2
  ·simp only [QpF];have r:=rd h hi hk;have hr:=S7 h hi hk;have ac:Qi (GI X.Ls i) (k:Int)=some [Ql (rF X.Ls i k 0),Ql (X.ex i k),Ql (X.mn i k),Ql (X.mx i k)]:=by rw [Qq,r.row]
   have l:=r.ex0;have e1:=r.ex1;have e2:=r.mn0;have n:=r.mn1;have o:=r.mn2;have p:=r.mn3;rw [WD,QN,Qh,show (((GI X.Ls i).length:Nat):Int)=((X.nr i:Nat):Int) from rfl,Qp hk,QpG,Qqf (show k<=X.nr i-1 by omega)];simp -implicitDefEqProofs only [Qh,Df h (show i<=X.Ls.length by omega),ac,QpD,QpI,Qj,QN,hw,Q9A (a:=base X.nr i) (b:=k) Q0,Q6N hi hk,QC (show k<=1000 by omega),Qn (x:=X.run i k+X.mn i k) Q0 Q0,Qn (x:=X.run i k+X.ex i k) Q0 Q0,Qn (x:=X.run i k+X.ex i k+X.mx i k) Q0 Q0,Q9T (a:=base X.nr i+k) Q0];by_cases j:k<X.nr i-1
   ·rw [Qp j,QpG,Qqf (show k+1<=X.nr i-1 by omega),XJ Q3,Qh,<- ZR,QpN (l₁:=X.jnsR i++(List.range k).map (X.j1 i))];rfl
   ·rw [Q5 ((k:Int)<((X.nr i-1:Nat):Int)),QpE,Qqd (show ¬ k+1<=X.nr i-1 by omega),QbC h];have d:k=X.nr i-1:=Q0
    cases ht:X.tn i with
    |none=>
     simp -implicitDefEqProofs only [Qh,QpE,jnsR,jR,ht,Qq3,d]
    |some t=>
     obtain ⟨t1,t2⟩:=C5 ht;have an:=(h.tr _ t1).2.1;have q:=(h.tr _ t1).2.2.1;have s:=(h.tr _ t1).2.2.2.1;have u:=(h.tr _ t1).2.2.2.2.1;have v:=(h.tr _ t1).2.2.2.2.2.1;simp -implicitDefEqProofs only [Qh,QpG,Qj,Df h (show t.2.1<=X.Ls.length by omega),Qn (x:=X.run i k+t.2.2.1) Q0 Q0,Qn (x:=X.run i k+X.ex i k+t.2.2.2) Q0 Q0,jnsR,jR,ht];have e:[Ql ((base X.nr i+k:Nat):Int),Ql ((base X.nr t.2.1:Nat):Int),Ql (X.run i k+t.2.2.1),Ql (X.run i k+X.ex i k+t.2.2.2)]=tuR (X.jT t):=by
      unfold tuR jT;rw [t2,d];rfl
     rw [XJ Q3,Qh,e,d,<- QpO,QpN (l₁:=X.jnsR i++_)];rfl
  ·simp only [QpF];rw [WD,QN,Qh,show (((GI X.Ls i).length:Nat):Int)=((X.nr i:Nat):Int) from rfl,Qz,QpE,Qqd Q0]
 ·simp only [QpF];rw [UW,Qz,QpE];rfl
theorem QdD (k0:LL->oP R):WF 400 X.Ls (fun _ _ w=>k0 w) 400 0 []=k0 (X.evs X.L):=by
 have l1:=h.l1;refine QD (r:=fun m i=>WF 400 X.Ls (fun _ _ w=>k0 w) m i (X.evs i.toNat)) (N:=X.Ls.length) (fun m i hi=>?_) (fun m=>?_) X.Ls.length 400 0 Q0 Q0
 ·simp only [QpF];have hl:=(JM h hi).2.1;have hb:=Ya h (i:=i) Q0;rw [WF,Qp hi,QpG,QC (show i<=1000 by omega)];refine QD (r:=fun m' k=>J8 400 (i:Int) X.Ls (fun _ _ w=>WF 400 X.Ls (fun _ _ w=>k0 w) m ((i+1:Nat):Int) w) m' k (X.evs i++evl i k.toNat)) (N:=X.nr i) (fun m' k hk=>?_) (fun m'=>?_) (X.nr i) 400 0 Q0 Q0 |> Eq.trans (by simp [evl])
  ·simp only [QpF];rw [J8,Qq,(JM h hi).1];simp -implicitDefEqProofs only [Qh,QpD,QpI,QN];rw [show (((GI X.Ls i).length:Nat):Int)=((X.nr i:Nat):Int) from rfl,Qp hk,QpG,XJ (by simp [evs_len,Q2R];omega),Qh,QC Q0,QpO];rfl
  ·simp only [QpF];rw [J8,Qq,(JM h hi).1];simp -implicitDefEqProofs only [Qh,QpD,QpI,QN];rw [show (((GI X.Ls i).length:Nat):Int)=((X.nr i:Nat):Int) from rfl,Qz,QpE];rfl
 ·simp only [QpF];rw [WF,Qz,QpE];rfl
theorem QfB (K:LL->oP R):Rh 400 X.Ls (encI (X.runs X.L)) K=K (X.pls X.L):=by
 have l1:=h.l1;unfold Rh;refine QD (r:=fun m i=>V0 400 (encI (X.runs X.L)) X.Ls (fun e f c=>K c) m i (X.pls i.toNat)) (N:=X.Ls.length) (fun m i hi=>?_) (fun m=>?_) X.Ls.length 400 0 Q0 Q0
 ·simp only [QpF];have hl:=(JM h hi).2.1;have hb:=Ya h (i:=i) Q0;have hp:=Q02 (X:=X) (i:=i);have hw:wJ (((List.length (GI X.Ls i):Nat):Int)-1)=((X.nr i-1:Nat):Int):=JP (k:=X.nr i) Q0 Q0;rw [V0,Qp hi,QpG,Qq,(JM h hi).1];simp -implicitDefEqProofs only [Qh,QpD,QpI,QC (show i<=1000 by omega)];refine QD (r:=fun m' k=>V3 400 (encI (X.runs X.L)) (i:Int) X.Ls (Ql (X.w i)) (D.sl 4 (GI X.Ls i)) (fun _ _ w=>V0 400 (encI (X.runs X.L)) X.Ls (fun e f c=>K c) m ((i+1:Nat):Int) w) m' k (X.pls i++X.pl i k.toNat)) (N:=X.nr i) (fun m' k hk=>?_) (fun m'=>?_) (X.nr i) 400 0 Q0 Q0 |> Eq.trans (by simp [pl])
  ·simp only [QpF];have r:=rd h hi hk;have hr:=S7 h hi hk;have ac:Qi (GI X.Ls i) (k:Int)=some [Ql (rF X.Ls i k 0),Ql (X.ex i k),Ql (X.mn i k),Ql (X.mx i k)]:=by rw [Qq,r.row]
   have g:=r.ex0;have e1:=r.ex1;have ak:=Q7K (X:=X) (i:=i) (k:=k);rw [V3,QN,Qh,show (((GI X.Ls i).length:Nat):Int)=((X.nr i:Nat):Int) from rfl,Qp hk,QpG];simp -implicitDefEqProofs only [Qh,Df h (show i<=X.Ls.length by omega),ac,QpD,QpI,Qj,QN,hw,Q9A (a:=base X.nr i) (b:=k) Q0,Q6N hi hk,QC (show k<=1000 by omega),Qn (x:=X.run i k+X.ex i k) Q0 Q0,Sx (a:=base X.nr i+k) Q0,Q9T (a:=2*(base X.nr i+k)) Q0,QfO (a:=2*(base X.nr i+k)) Q0];rw [XJ Q3,Qh];by_cases d:k<X.nr i-1
   ·rw [Qp d,QpG,XJ Q3,Qh,pl,Qqf d,<- QpO,<- QpO];rfl
   ·rw [Q5 ((k:Int)<((X.nr i-1:Nat):Int)),QpE,pl,Qqd d,Qq3,<- QpO];rfl
  ·simp only [QpF];rw [V3,QN,Qh,show (((GI X.Ls i).length:Nat):Int)=((X.nr i:Nat):Int) from rfl,Qz,QpE];rfl
 ·simp only [QpF];rw [V0,Qz,QpE];rfl
theorem QgI {per:Int} {Ch Sy:LL} (hl:X.LsOK per Ch Sy) (K:LL->oP R):RZ 400 X.Ls Ch (X.T.map tuR) Sy K=K (Ch.map X.chE++X.T.map X.tuE++Sy.map X.syE):=by
 have l1:=h.l1;have tl:=h.tl;have chl:=hl.chl;have syl:=hl.syl;unfold RZ;have s1:∀ k0:LL->oP R,V1 400 X.Ls Ch (fun _ _ w=>k0 w) 400 0 []=k0 (Ch.map X.chE):=by
  intro k0;refine QD (r:=fun m j=>V1 400 X.Ls Ch (fun _ _ w=>k0 w) m j ((Ch.take j.toNat).map X.chE)) (N:=Ch.length) (fun m j hj=>?_) (fun m=>?_) Ch.length 400 0 Q0 Q0
  ·simp only [QpF];obtain ⟨row,e⟩:∃ q,Ch[j]? = some q:=⟨Ch[j],QpJ hj⟩;obtain ⟨f,fr,t,tr,mn,mx,w,rfl,g1,n,c,y,z,g6⟩:=hl.ch row (QpH e);have nf:=(JM h g1).2.1;have nt:=(JM h c).2.1;have bf:=Ya h (i:=f) Q0;have bt:=Ya h (i:=t) Q0;rw [V1,Qp hj,QpG,Qq,e,YE e,QpN];simp -implicitDefEqProofs only [Qh,QpD,QpI,Qj,Df h (show f<=X.Ls.length by omega),Df h (show t<=X.Ls.length by omega),QC (show j<=1000 by omega),Q9A (a:=base X.nr f) (b:=fr) Q0,Q9A (a:=base X.nr t) (b:=tr) Q0,Sx (a:=base X.nr f+fr) Q0,Sx (a:=base X.nr t+tr) Q0,Q9T (a:=2*(base X.nr f+fr)) Q0];rw [XJ Q3,Qh];rfl
  ·simp only [QpF];rw [V1,Qz,QpE,QpX]
 have s2:∀ k0:LL->oP R,WB 400 X.Ls (X.T.map tuR) (fun _ _ w=>k0 w) 400 0 (Ch.map X.chE)=k0 (Ch.map X.chE++X.T.map X.tuE):=by
  intro k0;refine QD (r:=fun m j=>WB 400 X.Ls (X.T.map tuR) (fun _ _ w=>k0 w) m j (Ch.map X.chE++(X.T.take j.toNat).map X.tuE)) (N:=X.T.length) (fun m j hj=>?_) (fun m=>?_) X.T.length 400 0 Q0 Q0 |> Eq.trans Q2
  ·simp only [QpF];obtain ⟨⟨a,b,lo,hi⟩,e⟩:∃ q,X.T[j]? = some q:=⟨X.T[j],QpJ hj⟩;have ht:=h.tr _ (QpH e);have g1:a<X.Ls.length:=ht.1;have c:b<X.Ls.length:=ht.2.1;have nf:=(JM h g1).2.1;have bf:=Ya h (i:=a) Q0;have bt:=Ya h (i:=b) Q0;have aj:Qi (X.T.map tuR) (j:Int)=some [Ql a,Ql b,Ql lo,Ql hi]:=X0 e;have p:Ch.map X.chE++(X.T.take (j+1)).map X.tuE=Ch.map X.chE++(X.T.take j).map X.tuE++[X.tuE (a,b,lo,hi)]:=by rw [YE e,QpN,<- QpO];rfl
   have hw:wJ (((2*(base X.nr a+X.nr a):Nat):Int)-1)=((2*(base X.nr a+(X.nr a-1))+1:Nat):Int):=by rw [Qn Q0 Q0];omega
   have ha:wJ (((base X.nr a:Nat):Int)+(((GI X.Ls a).length:Nat):Int))=((base X.nr a+X.nr a:Nat):Int):=Q9A (a:=base X.nr a) (b:=X.nr a) Q0;rw [WB,QpK,Qp hj,QpG,aj,p];simp -implicitDefEqProofs only [Qh,QpD,QpI,Qj,QN,Df h (show a<=X.Ls.length by omega),Df h (show b<=X.Ls.length by omega),Qq,(JM h g1).1,QC (show j<=1000 by omega),ha,Sx (a:=base X.nr a+X.nr a) Q0,Sx (a:=base X.nr b) Q0,hw];rw [XJ Q3,Qh];rfl
  ·simp only [QpF];rw [WB,QpK,Qz,QpE,QpX]
 have s:∀ k0:LL->oP R,ZB 400 X.Ls Sy (fun _ _ w=>k0 w) 400 0 (Ch.map X.chE++X.T.map X.tuE)=k0 (Ch.map X.chE++X.T.map X.tuE++Sy.map X.syE):=by
  intro k0;refine QD (r:=fun m j=>ZB 400 X.Ls Sy (fun _ _ w=>k0 w) m j (Ch.map X.chE++X.T.map X.tuE++(Sy.take j.toNat).map X.syE)) (N:=Sy.length) (fun m j hj=>?_) (fun m=>?_) Sy.length 400 0 Q0 Q0 |> Eq.trans Q2
  ·simp only [QpF];obtain ⟨row,e⟩:∃ q,Sy[j]? = some q:=⟨Sy[j],QpJ hj⟩;obtain ⟨o,rfl,g1,n,c⟩:=hl.sy row (QpH e);have bt:=Ya h (i:=1) Q0;have k:=Df (R:=Int) h (show 0<=X.Ls.length by omega) some;have l:=Df (R:=Int) h (show 1<=X.Ls.length by omega) some;have a0:=Q9A (a:=base X.nr 0) (b:=0) (by simp [base]);have a1:=Q9A (a:=base X.nr 1) (b:=0) Q0;simp only [show ((0:Nat):Int)=0 from rfl,show ((1:Nat):Int)=1 from rfl] at k l a0 a1;rw [ZB,Qp hj,QpG,Qq,e,YE e,QpN,<- QpO];simp -implicitDefEqProofs only [Qh,QpD,QpI,Qj,k,l,a0,a1,QC (show j<=1000 by omega),Sx (a:=base X.nr 0+0) (by simp [base]),Sx (a:=base X.nr 1+0) Q0];rw [XJ Q3,Qh];rfl
  ·simp only [QpF];rw [ZB,Qz,QpE,QpX]
 rw [s1 (fun u=>WB 400 X.Ls (X.T.map tuR) (fun ab ac d=>ZB 400 X.Ls Sy (fun v x g=>K g) 400 0 d) 400 0 u),s2 (fun d=>ZB 400 X.Ls Sy (fun v x g=>K g) 400 0 d),s]
end Cx
theorem Qgx {α:Type} {J J':List α} (hJ:∀ t,t∈J↔t∈J') (p:α->Bool):J.any p=J'.any p:=by
 rw [Bool.eq_iff_iff,List.any_eq_true,List.any_eq_true];exact ⟨fun ⟨t,a,h2⟩=>⟨t,(hJ t).1 a,h2⟩,fun ⟨t,a,h2⟩=>⟨t,(hJ t).2 a,h2⟩⟩
theorem Qf0 {α:Type} {J J':List α} (hJ:∀ t,t∈J↔t∈J') (p:α->Bool):J.all p=J'.all p:=by
 rw [Bool.eq_iff_iff,Qqb,Qqb];exact ⟨fun h t ht=>h t ((hJ t).2 ht),fun h t ht=>h t ((hJ t).1 ht)⟩
namespace Cx
variable {R:Type} {X:Cx} {per:Int} {Ch Sy De:LL}
theorem Q87 {J J':List Tup} (hJ:∀ t,t∈J↔t∈J'):X.netV per J Ch Sy=X.netV per J' Ch Sy:=by
 have e1:∀ a b,X.fil J a b=X.fil J' a b:=fun a b=>List.filter_congr fun o _=>by
  unfold TRb;rw [Qgx hJ]
 have e2:∀ a b,X.WV per J a b=X.WV per J' a b:=fun a b=>by
  unfold WV;rw [e1,e1]
 have d:∀ a c b,X.hdw per J a c b=X.hdw per J' a c b:=fun a c=>by
  induction c with
  |zero=>exact fun _=>rfl
  |succ c ih=>intro b;rw [hdw,hdw,e2,ih]
 have e:∀ c a,X.hdws per J c a=X.hdws per J' c a:=fun c=>by
  induction c with
  |zero=>exact fun _=>rfl
  |succ c ih=>intro a;rw [hdws,hdws,d,ih]
 unfold netV aloneJ;rw [e,Qf0 hJ]
variable (h:X.OK)
theorem Qgz {a b:Nat} (ha:a<=100) (hb:b<=100) {W:List Sp2} (hW:W.length<=12) {k0:LL->oP R} {A:LL} (hA:A.length<=900):V8 400 (a:Int) (b:Int) (W.map Yw) (fun _ _ w=>k0 w) 400 0 A=k0 (A++W.map (Q67 a b)):=by
 refine QD (r:=fun m j=>V8 400 (a:Int) (b:Int) (W.map Yw) (fun _ _ w=>k0 w) m j (A++(W.take j.toNat).map (Q67 a b))) (N:=W.length) (fun m j hj=>?_) (fun m=>?_) W.length 400 0 Q0 Q0 |> Eq.trans Q2
 ·simp only [QpF];obtain ⟨w,e⟩:∃ q,W[j]? = some q:=⟨W[j],QpJ hj⟩;rw [V8,QpK,Qp hj,QpG,X0 e,YE e,QpN,<- QpO];simp -implicitDefEqProofs only [Qh,QbL,Qbf,Qj,QC (show j<=1000 by omega),Sx (a:=a) Q0,Sx (a:=b) Q0];rw [XJ Q3,Qh];rfl
 ·simp only [QpF];rw [V8,QpK,Qz,QpE,QpX]
include h
theorem QcJ (p0:2<=per) (p1:per<=300) {J:List Tup} (hJ:X.JOK J) {a:Nat} (ha:a<X.N) {Ke:oP R} {K1:LL->oP R}:∀ (c m b:Nat) (A:LL),b+c=X.N->c<m->A.length+12*c<=900 ->
  J5 400 (Kv (X.occs X.L)) (J.map tuR) (a:Int) per Ke (fun _ _ w=>K1 w) m (b:Int) A=match X.hdw per J a c b with | none=>Ke | some H=>K1 (A++H)
 |0,m+1,b,A,hb,_,_=>by
  have ac:(Kv (X.occs X.L)).length=X.N:=by rw [JE];exact ZV
  rw [J5,ac,Q5 ((b:Int)<(X.N:Int)),QpE,hdw];simp only [Qq3]
 |c+1,m+1,b,A,hb,hm,hA=>by
  have ac:(Kv (X.occs X.L)).length=X.N:=by rw [JE];exact ZV
  have hN:X.N<=6:=base_le h;have hw:=Q2P h p0 p1 (J:=J) ha (show b<X.N by omega);rw [J5,ac,Q6 ((b:Int)<(X.N:Int)),QpG,Q6x h hJ ha,Q6x h hJ (show b<X.N by omega)];simp -implicitDefEqProofs only [Qh,hw.2.1,QC (show b<=1000 by omega),hdw];cases ew:X.WV per J a b with
  |none=>rfl
  |some W=>
   have hl:=hw.2.2 W ew;simp -implicitDefEqProofs only [QgK];rw [Qr (by rfl),Qgz Q0 Q0 hl Q0,QcJ p0 p1 hJ ha c m (b+1) _ Q0 Q0 Q3];cases X.hdw per J a c (b+1) with
   |none=>rfl
   |some H=>simp -implicitDefEqProofs only [Option.map_some,QpO]
theorem QcH (p0:2<=per) (p1:per<=300) {J:List Tup} (hJ:X.JOK J) {Ke:oP R} {K1:LL->oP R}:∀ (c m a:Nat) (A:LL),a+c=X.N->c<m->A.length+72*c<=900 ->
  V4 400 (Kv (X.occs X.L)) (J.map tuR) per Ke (fun _ _ w=>K1 w) m (a:Int) A=match X.hdws per J c a with | none=>Ke | some H=>K1 (A++H)
 |0,m+1,a,A,ha,_,_=>by
  have ac:(Kv (X.occs X.L)).length=X.N:=by rw [JE];exact ZV
  rw [V4,ac,Q5 ((a:Int)<(X.N:Int)),QpE,hdws];simp only [Qq3]
 |c+1,m+1,a,A,ha,hm,hA=>by
  have ac:(Kv (X.occs X.L)).length=X.N:=by rw [JE];exact ZV
  have hN:X.N<=6:=base_le h;rw [V4,ac,Q6 ((a:Int)<(X.N:Int)),QpG,QC (show a<=1000 by omega),QcJ h p0 p1 hJ (show a<X.N by omega) (Ke:=Ke) (K1:=fun A=>V4 400 (Kv (X.occs X.L)) (J.map tuR) per Ke (fun _ _ w=>K1 w) m ((a+1:Nat):Int) A) c 400 (a+1) A Q0 Q0 Q0,hdws];cases eh:X.hdw per J a c (a+1) with
  |none=>rfl
  |some H=>
   have:=Q2o h p0 p1 (J:=J) (show a<X.N by omega) (c:=c) (b:=a+1) Q0 eh;dsimp only;rw [QcH p0 p1 hJ c m (a+1) (A++H) Q0 Q0 Q3];cases X.hdws per J c (a+1) with
   |none=>rfl
   |some H'=>simp -implicitDefEqProofs only [Option.map_some,QpO]
theorem Qdf (p0:2<=per) (p1:per<=300) {k0 E:oP R} {k1:Int->Bool->oP R} (hk:∀ a b,k1 a b=E):Vc 400 (Kv (X.occs X.L)) per k0 k1 400 0=bif (X.occs X.L).all (fun o=>o.all (SJ per)) then E else k0:=by
 have hN:X.N<=6:=base_le h;have aj:(X.occs X.L).length=X.N:=ZV;refine P9 (r:=fun m i=>Vc 400 (Kv (X.occs X.L)) per k0 k1 m i) (fun m i o e hi=>?_) (fun m=>?_) Q0
 ·have ho:=Qaz h o (QpH e);have ac:Qi (Kv (X.occs X.L)) (i:Int)=some [D.sl 3 (o.map enc)]:=X0 e;rw [Vc,JE,Qp hi,QpG,ac];simp -implicitDefEqProofs only [Qh,QpD,QN,Qfy (show 1<=per by omega) (show per<=7200 by omega) ho.1 (show o.length<=300 by omega),QC (show i<=1000 by omega)];cases o.all (SJ per) <;> rfl
 ·rw [Vc,JE,Qz,QpE,hk]
theorem Qe5 {J:List Tup} (hJ:X.JOK J) {k0 E:oP R} {k1:Int->Bool->oP R} (hk:∀ a b,k1 a b=E):Vd 400 (Kv (X.occs X.L)) (J.map tuR) per k0 k1 400 0=bif J.all (fun t=>!Q8D per t.2.2.1 t.2.2.2 (X.occN t.1) (X.occN t.2.1)) then E else k0:=by
 have aj:=hJ.len;refine P9 (r:=fun m i=>Vd 400 (Kv (X.occs X.L)) (J.map tuR) per k0 k1 m i) (fun m i t e hi=>?_) (fun m=>?_) Q0
 ·rw [Vd,QpK,Qp hi,QpG,X0 e];simp -implicitDefEqProofs only [Qh,tuR,QpD,QpI,Qj,QC (show i<=1000 by omega),QfZ h hJ (QpH e)];cases Q8D per t.2.2.1 t.2.2.2 (X.occN t.1) (X.occN t.2.1) <;> rfl
 ·rw [Vd,QpK,Qz,QpE,hk]
theorem buildR (hl:X.LsOK per Ch Sy) (p0:2<=per) (p1:per<=300) (hc:UU 400 X.G.St X.G.Pt X.G.Se X.G.Li per X.skR X.Ro X.Ls Ch (X.T.map tuR) Sy De (some:Int->oP Int)=some 0) :
  Gg 400 X.G.St X.G.Pt X.G.Se X.G.Li per X.skR X.Ro X.Ls Ch (X.T.map tuR) Sy De Tu4=some (X.netV per X.jns Ch Sy):=by
 have hN:X.N<=6:=base_le h;have aj:(X.occs X.L).length=X.N:=ZV;have an:=planned_len h hl;have hJ:=Qfq h;have ac:(X.pls X.L++(Ch.map X.chE++X.T.map X.tuE++Sy.map X.syE))=X.planned Ch Sy:=by unfold planned;simp only [QpO]
 rw [<- Q87 fun t=>Q3m h (t:=t)];unfold Gg netV;rw [Qg2 h hc,Qh,Qr (by rfl)];dsimp only;rw [JE,aj,Sx Q0,Qr (QpM Q0),Qdf h p0 p1 (fun _ _=>rfl)];unfold aloneJ;cases (X.occs X.L).all (fun o=>o.all (SJ per))
 ·rfl
 rw [QpG,QpG,Qgu h,Qh,Qe5 h hJ (fun _ _=>rfl)];cases (X.jnsR X.L).all (fun t=>!Q8D per t.2.2.1 t.2.2.2 (X.occN t.1) (X.occN t.2.1))
 ·rfl
 rw [QpG,QpG];refine (QdD h _).trans ?_;rw [QfB h,QgI h hl,Qh,Qh,XJ (by rw [<- Qq2,ac];omega),Qh,ac];refine (QcH h p0 p1 hJ (Ke:=some ((0:Int),([]:LL),([]:LL),(13:Int))) (K1:=fun a=>bif decide (((List.length a:Nat):Int)>512) then some (0,[],[],7) else some (per,X.evs X.L,a,0)) X.N 400 0 (X.planned Ch Sy) Q0 Q0 Q0).trans ?_;cases eh:X.hdws per (X.jnsR X.L) X.N 0 with
 |none=>rfl
 |some H=>
  have:=hdws_len h p0 p1 Q0 eh;dsimp only;rw [Qr (QpM (by rw [Qq2];omega))]
end Cx
def R6 (row:List D):Prop:=∃ kd f t mn mx w:Int,row=[Ql kd,Ql f,Ql t,Ql mn,Ql mx,Ql w]
def chk (per:Int) (e:Nat):List D->Bool
 |[_,.int _ f,.int _ t,.int _ mn,.int _ mx,.int _ w]=>!(bif bif !(bif decide (f>=0) then decide (f<(e:Int)) else false) then true else !(bif decide (t>=0) then decide (t<(e:Int)) else false) then true else f == t)&&(!(bif bif bif decide (mn < -65536) then true else decide (mn>mx) then true else decide (mx>65536) then true else decide (wJ (mx-mn)>=per))&&!(bif decide (w<0) then true else decide (w>1048576)))
 |_=>false
theorem Q2w {per:Int} {e:Nat} {kd f t mn mx w:Int} (h:chk per e [Ql kd,Ql f,Ql t,Ql mn,Ql mx,Ql w]=true):0<=f/\f<e/\0<=t/\t<e /\ -65536<=mn/\mn<=mx/\mx<=65536:=by
 simp only [chk,Bool.cond_true_left,Bool.cond_false_right,Qq6,Bool.not_eq_true',Bool.or_eq_false_iff,Bool.not_eq_false',decide_eq_true_eq,decide_eq_false_iff_not,beq_eq_false_iff_ne] at h;omega
section
variable {per:Int} {E A:LL} (p0:2<=per) (p1:per<=300) (hE:E.length<=48) (hA:A.length<=512) (hr:∀ r∈A,R6 r)
include p0 p1 hE hA hr
theorem Qft (hl:A.length<400):TX 400 per E A some=some (A.all (chk per E.length)):=by
 unfold TX;rw [Q5 (per<2),Q5 (per>7200),Q5 ((E.length:Int)>48),Q5 ((A.length:Int)>512)];simp -implicitDefEqProofs only [QpE];refine (P9 (r:=fun m i=>UC 400 A (A.length:Int) per E A (some false) (fun _ _=>some true) m i) (l:=A) (p:=chk per E.length) (E0:=some false) (E1:=some true) (fun m i q e hi=>?_) (fun m=>?_) (fuel:=400) Q0).trans (by cases A.all (chk per E.length) <;> rfl)
 ·obtain ⟨kd,f,t,mn,mx,w,rfl⟩:=hr q (QpH e);rw [UC,Qp hi,QpG,Qq,e];unfold GO;simp -implicitDefEqProofs only [Qh,QpD,QpI,Qj,QC (show i<=1000 by omega)];dsimp only [chk];cases (bif bif !(bif decide (f>=0) then decide (f<(E.length:Int)) else false) then true else !(bif decide (t>=0) then decide (t<(E.length:Int)) else false) then true else f == t)
  ·cases (bif bif bif decide (mn < -65536) then true else decide (mn>mx) then true else decide (mx>65536) then true else decide (wJ (mx-mn)>=per))
   ·cases (bif decide (w<0) then true else decide (w>1048576)) <;> rfl
   ·rfl
  ·rfl
 ·rw [UC,Qz,QpE]
theorem QcM (hl:A.length<400):UX 400 per E A some=some (A.all (chk per E.length)):=by
 unfold UX TK;rw [Q6 (per>=2),Q6 (per<=7200),Q5 ((E.length:Int)>48),Q5 ((A.length:Int)>512)];simp -implicitDefEqProofs only [QpE,QpG,Qh,QpT];refine (P9 (r:=fun m i=>J6 400 per E A (some false) (fun _ _=>some true) m i) (l:=A) (p:=chk per E.length) (E0:=some false) (E1:=some true) (fun m i q e hi=>?_) (fun m=>?_) (fuel:=400) Q0).trans (by cases A.all (chk per E.length) <;> rfl)
 ·obtain ⟨kd,f,t,mn,mx,w,rfl⟩:=hr q (QpH e);rw [J6,Qp hi,QpG,Qq,e];unfold TK;simp -implicitDefEqProofs only [Qh,QpD,QpI,Qj,QC (show i<=1000 by omega),Qn (x:=(E.length:Int)-1) Q0 Q0];have sw:∀ (c d:Bool) (x y:oP Bool),c = !d->(bif c then x else y)=bif d then y else x:=fun c d x y h=>by rw [h];cases d <;> rfl
  refine sw _ _ _ _ ?_;rw [Bool.eq_iff_iff];simp only [chk,Bool.cond_true_left,Bool.cond_false_right,Qq6,Bool.or_eq_true,Bool.not_eq_true',Bool.and_eq_false_iff,Bool.or_eq_false_iff,Bool.not_eq_false',decide_eq_true_eq,decide_eq_false_iff_not,beq_eq_false_iff_ne,beq_iff_eq];omega
 ·rw [J6,Qz,QpE]
def Q7Z (per:Int) (E A:LL) (tl:List Int):Bool:=bif (bif !(A.all (chk per E.length)) then true else (tl.length:Int) != (E.length:Int)) then false else tl.all fun x=>!(bif decide (x<0) then true else decide (x>=per))
theorem QfW (hl:A.length<400) {tl:List Int}:Gy 400 per E A (encI tl) some=some (Q7Z per E A tl)/\KS 400 per E A (encI tl) some=some (Q7Z per E A tl):=by
 have ca:=Qft p0 p1 hE hA hr hl;have cb:=QcM p0 p1 hE hA hr hl;have ac:(encI tl).length=tl.length:=X4 tl;unfold Gy KS Q7Z;rw [ca,cb,Qh,Qh,ac];cases hc:(bif !(A.all (chk per E.length)) then true else (tl.length:Int) != (E.length:Int)) with
 |true=>exact ⟨rfl,rfl⟩
 |false=>
  have aj:tl.length=E.length:=by
   cases a : !(A.all (chk per E.length)) with
   |true=>rw [a] at hc;cases hc
   |false=>
    rw [a,QpE] at hc;have:(tl.length:Int)=(E.length:Int):=by simpa using hc
    omega
  rw [QpE,QpE,QpE];constructor
  ·refine (P9 (r:=fun m i=>VA 400 (encI tl) (tl.length:Int) per (some false) (fun _ _=>some true) m i) (l:=tl) (p:=fun x=>!(bif decide (x<0) then true else decide (x>=per))) (E0:=some false) (E1:=some true) (fun m i q e hi=>?_) (fun m=>?_) (fuel:=400) Q0).trans (by cases tl.all _ <;> rfl)
   ·rw [VA,Qp hi,QpG,JD e];simp -implicitDefEqProofs only [Qh,QpD,Qj,QC (show i<=1000 by omega)];cases (bif decide (q<0) then true else decide (q>=per)) <;> rfl
   ·rw [VA,Qz,QpE]
  ·refine (P9 (r:=fun m i=>JH 400 (encI tl) per (some false) (fun _ _=>some true) m i) (l:=tl) (p:=fun x=>!(bif decide (x<0) then true else decide (x>=per))) (E0:=some false) (E1:=some true) (fun m i q e hi=>?_) (fun m=>?_) (fuel:=400) Q0).trans (by cases tl.all _ <;> rfl)
   ·rw [JH,ac,Qp hi,QpG,JD e];unfold TK;simp -implicitDefEqProofs only [Qh,QpD,Qj,QC (show i<=1000 by omega),Qn (x:=per-1) Q0 Q0];by_cases a:q<0
    ·rw [Q5 (q>=0),show decide (q<0)=true from QpY a];rfl
    ·rw [Q6 (q>=0),show decide (q<0)=false from QpM a];by_cases h2:q>=per
     ·rw [Q5 (q<=per-1),show decide (q>=per)=true from QpY h2];rfl
     ·rw [Q6 (q<=per-1),show decide (q>=per)=false from QpM h2];rfl
   ·rw [JH,ac,Qz,QpE]
end
theorem L3 {w:List Int} {i:Nat} {v:Int}:(encI w).set i [Ql v]=encI (w.set i v):=by
 unfold encI;rw [List.map_set]
def ES (l:List Nat):LL:=l.map fun i:Nat=>[Ql (i:Int)]
def Q3h (rs:List (List Nat×Bool)):LL:=rs.map fun r=>[D.sl 1 (ES r.1),D.bool r.2]
def Qj8 (l:LL):List Nat:=l.map fun r=>match r with | [.int _ x]=>x.toNat | _=>0
def QdL (a:LL):List (List Nat×Bool):=a.map fun r=>match r with | [.sl _ l,.bool c]=>(Qj8 l,c) | _=>([],false)
def eqI:LL->LL->Bool
 |[],[]=>true
 |[.int .i64 x]::a,[.int .i64 y]::b=>decide (x=y)&&eqI a b
 |_,_=>false
def eqR:LL->LL->Bool
 |[],[]=>true
 |[.sl 1 l,.bool c]::a,[.sl 1 l',.bool c']::b=>eqI l l'&&(c == c'&&eqR a b)
 |_,_=>false
theorem QcA:∀ {a b:LL},eqI a b=true->a=b:=by
 intro a b;induction a,b using eqI.induct with
 |case1=>exact fun _=>rfl
 |case2 x a y b ih=>
  intro h;rw [eqI,Qq6,decide_eq_true_eq] at h;rw [h.1,ih h.2]
 |case3 a b c h2=>intro h;rw [eqI] at h <;> first | cases h | assumption
theorem Qcs:∀ {a b:LL},eqR a b=true->a=b:=by
 intro a b;induction a,b using eqR.induct with
 |case1=>exact fun _=>rfl
 |case2 l c a l' c' b ih=>
  intro h;rw [eqR,Qq6,Qq6,beq_iff_eq] at h;rw [QcA h.1,h.2.1,ih h.2.2]
 |case3 a b d h2=>intro h;rw [eqR] at h <;> first | cases h | assumption
def tix (T:List Tup) (i:Nat):Int:=match T.findIdx? fun t=>t.1 == i with
 |some j=>(j:Int)
 |none => -1
def Q3j:List (List Nat×Bool)->Nat
 |[]=>0
 |r::rs=>r.1.length+Q3j rs
def nx (r:List Nat×Bool) (x:Nat):oP Nat:=bif Nat.blt (x+1) r.1.length then r.1[x+1]? else bif r.2 then r.1[0]? else none
def Qia (rs:List (List Nat×Bool)) (i:Nat):Nat×Nat:=(rs.findIdx fun r=>r.1.any (Nat.beq i),(rs.getD (rs.findIdx fun r=>r.1.any (Nat.beq i)) ([],false)).1.findIdx (Nat.beq i))
def eqO:oP Nat->Nat->Bool
 |some a,b=>Nat.beq a b
 |none,_=>false
def QbS (T:List Tup) (rs:List (List Nat×Bool)):Bool:=
 ((List.range rs.length).all fun j=>(List.range (rs.getD j ([],false)).1.length).all fun x=>Nat.beq (Qia rs ((rs.getD j ([],false)).1.getD x 0)).1 j&&Nat.beq (Qia rs ((rs.getD j ([],false)).1.getD x 0)).2 x) &&
 ((T.all fun t=>rs.any fun r=>(List.range r.1.length).any fun x=>eqO (r.1[x]?) t.1&&eqO (nx r x) t.2.1) &&
 rs.all fun r=>(List.range r.1.length).all fun x=>match nx r x with
  |some b=>T.any fun t=>eqO (r.1[x]?) t.1&&Nat.beq t.2.1 b
  |none=>true)
def NO (Ls:LL) (T:List Tup):Bool:=match Xq 400 Ls (T.map tuR) some,Js 400 Ls (T.map tuR) some,ZL 400 Ls (T.map tuR) some with
 |some a,some b,some t=>eqR a (Q3h (QdL a))&&(eqR b (Q3h (QdL a))&&(eqI t (encI ((List.range Ls.length).map (tix T)))&&((QdL a).all (fun r=>Nat.blt 0 r.1.length&&r.1.all fun i=>Nat.blt i Ls.length)&&(Nat.ble (Q3j (QdL a)) Ls.length&&(Nat.blt 0 (QdL a).length&&QbS T (QdL a))))))
 |_,_,_=>false
section
variable (x y z:List D) (lo hi lo' hi' lo'' hi'':Int)
theorem Qi3:NO [x] []=true/\NO [x,y] []=true/\NO [x,y,z] []=true:=⟨by kernel_rfl,by kernel_rfl,by kernel_rfl⟩
theorem QhA:NO [x] [(0,0,lo,hi)]=true:=by kernel_rfl
def u2:List Nat:=[0,1]
def u3:List Nat:=[0,1,2]
theorem QhS:(u2.all fun a=>u2.all fun b=>NO [x,y] [(a,b,lo,hi)])=true:=by kernel_rfl
theorem QhQ:(u3.all fun a=>u3.all fun b=>NO [x,y,z] [(a,b,lo,hi)])=true:=by kernel_rfl
theorem Qi9:(u2.all fun a=>u2.all fun b=>u2.all fun a'=>u2.all fun b'=>(Nat.beq a a'||Nat.beq b b')||NO [x,y] [(a,b,lo,hi),(a',b',lo',hi')])=true:=by kernel_rfl
theorem Qig:(u3.all fun a=>u3.all fun b=>u3.all fun a'=>u3.all fun b'=>(Nat.beq a a'||Nat.beq b b')||NO [x,y,z] [(a,b,lo,hi),(a',b',lo',hi')])=true:=by kernel_rfl
theorem Qhq:(u3.all fun a=>u3.all fun b=>u3.all fun a'=>u3.all fun b'=>(Nat.beq a a'||Nat.beq b b')||u3.all fun aj=>u3.all fun ac=>(Nat.beq a aj||Nat.beq b ac||Nat.beq a' aj||Nat.beq b' ac)||NO [x,y,z] [(a,b,lo,hi),(a',b',lo',hi'),(aj,ac,lo'',hi'')])=true:=by kernel_rfl
end
theorem Qbv {l:List Nat} {f:Nat->Nat->Bool} (h:(l.all fun a=>l.all fun b=>f a b)=true) {a b:Nat} (ha:a∈l) (hb:b∈l):f a b=true:=Qqb.1 (Qqb.1 h a ha) b hb
theorem QeM {a:Nat} (h:a<2):a∈u2:=by
 obtain rfl | rfl:a=0\/a=1:=Q0
 all_goals decide
theorem Q8F {a:Nat} (h:a<3):a∈u3:=by
 obtain rfl | rfl | rfl:a=0\/a=1\/a=2:=Q0
 all_goals decide
theorem Q8o {a b:Nat} (h:a≠b):Nat.beq a b=false:=Bool.eq_false_iff.2 fun e=>h (Nat.eq_of_beq_eq_true e)
theorem ne2 {a b a' b':Nat} {x:Bool} (h:(Nat.beq a a'||Nat.beq b b'||x)=true) (c:a≠a') (h2:b≠b'):x=true:=by
 simpa [Q8o c,Q8o h2] using h
theorem ne4 {a b a' b' c d c' d':Nat} {x:Bool} (h:(Nat.beq a a'||Nat.beq b b'||Nat.beq c c'||Nat.beq d d'||x)=true) (e:a≠a') (h2:b≠b') (f:c≠c') (g:d≠d'):x=true:=by
 simpa [Q8o e,Q8o h2,Q8o f,Q8o g] using h
theorem Qjh {Ls:LL} {T:List Tup} (l0:1<=Ls.length) (l1:Ls.length<=3) (hb:∀ t∈T,t.1<Ls.length/\t.2.1<Ls.length) (c:(T.map (·.1)).Nodup) (d:(T.map (·.2.1)).Nodup):NO Ls T=true:=by
 rcases Ls with _ | ⟨x,_ | ⟨y,_ | ⟨z,_ | ⟨w,r⟩⟩⟩⟩
 ·simp at l0
 ·rcases T with _ | ⟨⟨a,b,lo,hi⟩,_ | ⟨⟨a',b',lo',hi'⟩,T⟩⟩
  ·exact (Qi3 x x x).1
  ·obtain ⟨ha,e⟩:=hb _ (QpQ ..);obtain rfl:a=0:=by simpa using ha
   obtain rfl:b=0:=by simpa using e
   exact QhA x lo hi
  ·have f:=(hb _ (QpQ ..)).1;have h2:=(hb _ (QpS _ (QpQ ..))).1;simp at f h2 c;omega
 ·rcases T with _ | ⟨⟨a,b,lo,hi⟩,_ | ⟨⟨a',b',lo',hi'⟩,_ | ⟨⟨aq,ao,lo'',hi''⟩,T⟩⟩⟩
  ·exact (Qi3 x y x).2.1
  ·obtain ⟨ha,hb⟩:=hb _ (QpQ ..);exact Qbv (QhS x y lo hi) (QeM ha) (QeM hb)
  ·obtain ⟨ha,e⟩:=hb _ (QpQ ..);obtain ⟨aj,ac⟩:=hb _ (QpS _ (QpQ ..));simp at c d;exact ne2 (Qbv (Qbv (Qi9 x y lo hi lo' hi') (QeM ha) (QeM e)) (QeM aj) (QeM ac)) c d
  ·have f:=(hb _ (QpQ ..)).1;have h2:=(hb _ (QpS _ (QpQ ..))).1;have g:=(hb _ (QpS _ (QpS _ (QpQ ..)))).1;simp at f h2 g c;omega
 ·rcases T with _ | ⟨⟨a,b,lo,hi⟩,_ | ⟨⟨a',b',lo',hi'⟩,_ | ⟨⟨aq,ao,lo'',hi''⟩,_ | ⟨⟨i,j,k,l⟩,T⟩⟩⟩⟩
  ·exact (Qi3 x y z).2.2
  ·obtain ⟨ha,hb⟩:=hb _ (QpQ ..);exact Qbv (QhQ x y z lo hi) (Q8F ha) (Q8F hb)
  ·obtain ⟨ha,e⟩:=hb _ (QpQ ..);obtain ⟨aj,ac⟩:=hb _ (QpS _ (QpQ ..));simp at c d;exact ne2 (Qbv (Qbv (Qig x y z lo hi lo' hi') (Q8F ha) (Q8F e)) (Q8F aj) (Q8F ac)) c d
  ·obtain ⟨ha,e⟩:=hb _ (QpQ ..);obtain ⟨aj,ac⟩:=hb _ (QpS _ (QpQ ..));obtain ⟨an,ak⟩:=hb _ (QpS _ (QpS _ (QpQ ..)));simp at c d;have f:=ne2 (Qbv (Qbv (Qhq x y z lo hi lo' hi' lo'' hi'') (Q8F ha) (Q8F e)) (Q8F aj) (Q8F ac)) c.1.1 d.1.1;exact ne4 (Qbv f (Q8F an) (Q8F ak)) c.1.2 d.1.2 c.2 d.2
  ·have f:=(hb _ (QpQ ..)).1;have h2:=(hb _ (QpS _ (QpQ ..))).1;have g:=(hb _ (QpS _ (QpS _ (QpQ ..)))).1;have h:=(hb _ (QpS _ (QpS _ (QpS _ (QpQ ..))))).1;simp at f h2 g h c;omega
 ·simp at l1
theorem Q6D {α:Type} {p:α->Bool}:∀ {l:List α},(l.find? p=none/\l.findIdx? p=none)\/∃ t j,l.find? p=some t/\l.findIdx? p=some j/\l[j]? = some t
 |[]=>.inl ⟨rfl,rfl⟩
 |a::l=>by
  rw [List.find?_cons,List.findIdx?_cons];cases ha:p a with
  |true=>exact .inr ⟨a,0,rfl,rfl,rfl⟩
  |false=>
   rcases Q6D (p:=p) (l:=l) with ⟨b,h2⟩ | ⟨t,j,b,h2,c⟩
   ·exact .inl ⟨b,by simp [h2]⟩
   ·exact .inr ⟨t,j+1,b,by simp [h2],c⟩
namespace Cx
variable {X:Cx} (h:X.OK)
include h
theorem rotsP:∃ rs:List (List Nat×Bool),Xq 400 X.Ls (X.T.map tuR) some=some (Q3h rs)/\Js 400 X.Ls (X.T.map tuR) some=some (Q3h rs)/\ZL 400 X.Ls (X.T.map tuR) some=some (encI ((List.range X.L).map (tix X.T)))/\(∀ r∈rs,1<=r.1.length/\∀ i∈r.1,i<X.Ls.length)/\Q3j rs<=3/\1<=rs.length/\QbS X.T rs=true:=by
 have hc:=Qjh h.l0 h.l1 (fun t ht=>⟨(h.tr t ht).1,(h.tr t ht).2.1⟩) h.fd h.td;have l1:=h.l1;unfold NO at hc;cases e1:Xq 400 X.Ls (X.T.map tuR) some with
 |none=>rw [e1] at hc;cases hc
 |some a=>
  cases e2:Js 400 X.Ls (X.T.map tuR) some with
  |none=>rw [e1,e2] at hc;cases hc
  |some b=>
   cases c:ZL 400 X.Ls (X.T.map tuR) some with
   |none=>rw [e1,e2,c] at hc;cases hc
   |some t=>
    rw [e1,e2,c] at hc;simp only [Qq6] at hc;obtain ⟨c1,d,e,f,g,j,k⟩:=hc;refine ⟨QdL a,by rw [<- Qcs c1],by rw [Qcs d],by rw [QcA e];rfl,fun r hr=>?_,?_,Qqm j,k⟩
    ·have:=Qqb.1 f r hr;rw [Qq6] at this;exact ⟨Qqm this.1,fun i hi=>Qqm (Qqb.1 this.2 i hi)⟩
    ·have:=Qqm g;omega
end Cx
def tat (tl:List Int) (i:Int):Int:=tl.getD i.toNat 0
def dur (tl:List Int) (per f t mn:Int):Int:=mn+(tat tl t-tat tl f-mn) % per
def VK (tl:List Int) (per:Int):List D->Int
 |[_,.int _ f,.int _ t,.int _ mn,_,_]=>dur tl per f t mn
 |_=>0
namespace Cx
variable {X:Cx}
structure Gd (X:Cx) (per:Int) (Ch Sy A:LL) (tl:List Int):Prop where
 ok:X.OK
 ls:X.LsOK per Ch Sy
 p0:2<=per
 p1:per<=300
 act:∃ H,A=X.planned Ch Sy++H/\∀ r∈H,∃ a b w,r=Q67 a b w
 len:A.length<400
 tlen:tl.length=2*X.N
 tr:∀ x∈tl,0<=x/\x<per
 ck:∀ r∈A,chk per (2*X.N) r=true
theorem Q7c {per:Int} {J:List Tup} {a:Nat}:∀ {c b:Nat} {H:LL},X.hdw per J a c b=some H->∀ r∈H,∃ a b w,r=Q67 a b w
 |0,b,H,e=>by cases e;exact fun r hr=>nomatch hr
 |c+1,b,H,e=>by
  rw [hdw] at e;cases ew:X.WV per J a b with
  |none=>rw [ew] at e;cases e
  |some W=>
   rw [ew] at e;cases eh:X.hdw per J a c (b+1) with
   |none=>simp only [eh] at e;cases e
   |some H'=>
    simp only [eh] at e;cases e;intro r hr;rcases QpP.1 hr with hr | hr
    ·obtain ⟨w,_,rfl⟩:=Qql.1 hr;exact ⟨_,_,_,rfl⟩
    ·exact Q7c eh r hr
theorem hdws_rows {per:Int} {J:List Tup}:∀ {c a:Nat} {H:LL},X.hdws per J c a=some H->∀ r∈H,∃ a b w,r=Q67 a b w
 |0,b,H,e=>by cases e;exact fun r hr=>nomatch hr
 |c+1,a,H,e=>by
  rw [hdws] at e;cases ew:X.hdw per J a c (a+1) with
  |none=>rw [ew] at e;cases e
  |some W=>
   rw [ew] at e;cases eh:X.hdws per J c (a+1) with
   |none=>simp only [eh] at e;cases e
   |some H'=>
    simp only [eh] at e;cases e;intro r hr;rcases QpP.1 hr with hr | hr
    ·exact Q7c ew r hr
    ·exact hdws_rows eh r hr
theorem Qd1 {i:Nat} {r:List D}:∀ {K:Nat},r∈X.pl i K->∃ k,k<K/\(r=X.aR i k\/k<X.nr i-1/\r=X.aD i k)
 |0,h=>nomatch h
 |K+1,h=>by
  rw [pl] at h;rcases QpP.1 h with h | h
  ·rcases QpP.1 h with h | h
   ·obtain ⟨k,hk,h⟩:=Qd1 h;exact ⟨k,Q0,h⟩
   ·exact ⟨K,Q0,.inl (QpU.1 h)⟩
  ·split at h
   ·exact ⟨K,Q0,.inr ⟨by assumption,QpU.1 h⟩⟩
   ·nomatch h
theorem Qaa {r:List D}:∀ {L:Nat},r∈X.pls L->∃ i k,i<L/\k<X.nr i/\(r=X.aR i k\/k<X.nr i-1/\r=X.aD i k)
 |0,h=>nomatch h
 |L+1,h=>by
  rw [pls] at h;rcases QpP.1 h with h | h
  ·obtain ⟨i,k,hi,h⟩:=Qaa h;exact ⟨i,k,Q0,h⟩
  ·obtain ⟨k,hk,h⟩:=Qd1 h;exact ⟨L,k,Q0,hk,h⟩
variable {per:Int} {Ch Sy A:LL} {tl:List Int}
theorem Q2Z (h:X.OK) (hl:X.LsOK per Ch Sy) {H:LL} (hH:∀ r∈H,∃ a b w,r=Q67 a b w) {r:List D} (hr:r∈X.planned Ch Sy++H):(∃ i k,i<X.Ls.length/\k<X.nr i/\(r=X.aR i k\/k<X.nr i-1/\r=X.aD i k))\/(∃ t∈X.T,r=X.tuE t)\/∃ kd f t mn mx w:Int,(kd=3\/kd=5\/kd=6)/\r=[Ql kd,Ql f,Ql t,Ql mn,Ql mx,Ql w]:=by
 rcases QpP.1 hr with hr | hr
 ·rcases QpP.1 hr with hr | hr
  ·rcases QpP.1 hr with hr | hr
   ·rcases QpP.1 hr with hr | hr
    ·exact .inl (Qaa hr)
    ·obtain ⟨row,ac,rfl⟩:=Qql.1 hr;obtain ⟨f,fr,t,tr,mn,mx,w,rfl,_⟩:=hl.ch row ac;exact .inr (.inr ⟨3,_,_,mn,mx,w,.inl rfl,rfl⟩)
   ·obtain ⟨t,ht,rfl⟩:=Qql.1 hr;exact .inr (.inl ⟨t,ht,rfl⟩)
  ·obtain ⟨row,ac,rfl⟩:=Qql.1 hr;obtain ⟨o,rfl,_⟩:=hl.sy row ac;exact .inr (.inr ⟨5,_,_,o,o,0,.inr (.inl rfl),rfl⟩)
 ·obtain ⟨a,b,w,rfl⟩:=hH r hr;exact .inr (.inr ⟨6,_,_,w.1,w.2,0,.inr (.inr rfl),rfl⟩)
theorem act_r6 (h:X.OK) (hl:X.LsOK per Ch Sy) {H:LL} (hH:∀ r∈H,∃ a b w,r=Q67 a b w) {r:List D} (hr:r∈X.planned Ch Sy++H):R6 r:=by
 rcases Q2Z h hl hH hr with ⟨i,k,_,_,rfl | ⟨_,rfl⟩⟩ | ⟨t,_,rfl⟩ | ⟨kd,f,t,mn,mx,w,_,rfl⟩
 ·exact ⟨_,_,_,_,_,_,rfl⟩
 ·exact ⟨_,_,_,_,_,_,rfl⟩
 ·exact ⟨_,_,_,_,_,_,rfl⟩
 ·exact ⟨_,_,_,_,_,_,rfl⟩
variable (g:X.Gd per Ch Sy A tl)
include g
theorem Gd.r6 {r:List D} (hr:r∈A):R6 r:=by
 obtain ⟨H,rfl,hH⟩:=g.act;exact act_r6 g.ok g.ls hH hr
theorem Gd.tat {i:Int} (a:0<=i) (b:i<(2*X.N:Nat)):Qi (encI tl) i=some [Ql (Vx.tat tl i)]/\0<=Vx.tat tl i/\Vx.tat tl i<per:=by
 have hl:=g.tlen;have e:tl[i.toNat]? = some (Vx.tat tl i):=by
  unfold Vx.tat;rw [QpL,QpJ Q0];rfl
 have:=JD e;rw [show (i.toNat:Int)=i by omega] at this;exact ⟨this,g.tr _ (QpH e)⟩
theorem Gd.row {r:List D} (hr:r∈A):∃ kd f t mn mx w:Int,r=[Ql kd,Ql f,Ql t,Ql mn,Ql mx,Ql w]/\(0<=f/\f<(2*X.N:Nat))/\(0<=t/\t<(2*X.N:Nat)) /\ -65536<=mn/\mn<=65536:=by
 obtain ⟨kd,f,t,mn,mx,w,rfl⟩:=g.r6 hr;have:=Q2w (g.ck _ hr);exact ⟨kd,f,t,mn,mx,w,rfl,Q0,Q0,Q0⟩
theorem Gd.dur_rng {r:List D} (hr:r∈A) : -65536<=VK tl per r/\VK tl per r<=66000:=by
 obtain ⟨kd,f,t,mn,mx,w,rfl,hf,ht,a,h2⟩:=g.row hr;have p0:=g.p0;have p1:=g.p1;have:=Qq0 (Vx.tat tl t-Vx.tat tl f-mn) (show per≠0 by omega);have:=QpZ (Vx.tat tl t-Vx.tat tl f-mn) (show 0<per by omega);simp only [VK,dur];omega
theorem Gd.durP {R:Type} {a:Nat} {r:List D} (e:A[a]? = some r) (K:Int->oP R):XL 400 per A (encI tl) (a:Int) K=K (VK tl per r):=by
 have hr:=QpH e;have p0:=g.p0;have p1:=g.p1;obtain ⟨kd,f,t,mn,mx,w,rfl,hf,ht,b,h2⟩:=g.row hr;have tf:=g.tat hf.1 hf.2;have tt:=g.tat ht.1 ht.2;have:=Qq0 (Vx.tat tl t-Vx.tat tl f-mn) (show per≠0 by omega);have:=QpZ (Vx.tat tl t-Vx.tat tl f-mn) (show 0<per by omega);unfold XL;rw [Qq,e];simp -implicitDefEqProofs only [Qh,QpD,QpI,Qj,tf.1,tt.1,Qn (x:=Vx.tat tl t-Vx.tat tl f) Q0 Q0,Qn (x:=Vx.tat tl t-Vx.tat tl f-mn) Q0 Q0,QeH (n:=400) (t:=per) (x:=Vx.tat tl t-Vx.tat tl f-mn) Q0 Q0 Q0 Q0,Qn (x:=mn+(Vx.tat tl t-Vx.tat tl f-mn) % per) Q0 Q0];rfl
end Cx
def Q0C (l:List Bool):LL:=l.map fun b=>[D.bool b]
theorem JL {w:List Int} {i:Nat} (h:i<w.length):(encI w)[i]? = some [Ql w[i]]:=by
 exact JD (QpJ h)
theorem Q5K {w:List Bool} {i:Nat} (h:i<w.length):(Q0C w)[i]? = some [D.bool w[i]]:=by
 simp [Q0C,QpR,QpJ]
theorem Q2k {w:List Bool}:(Q0C w).length=w.length:=by simp [Q0C]
theorem Q7A {w:List Bool} {i:Nat} {v:Bool}:(Q0C w).set i [D.bool v]=Q0C (w.set i v):=by
 grind [Q0C,List.map_set]
def TG (per:Int) (k:Nat) (w:List Int):Prop:=w.length=k/\∀ x∈w,0<=x/\x<per
theorem TG.set {per:Int} {k:Nat} {w:List Int} (h:TG per k w) {i:Nat} {v:Int} (a:0<=v) (b:v<per):TG per k (w.set i v):=by
 refine ⟨by rw [Qqc];exact h.1,fun x hx=>?_⟩;rcases List.mem_or_eq_of_mem_set hx with hx | rfl
 ·exact h.2 x hx
 omega
theorem TG.tat {per:Int} {k:Nat} {w:List Int} (h:TG per k w) {i:Int} (a:0<=i) (b:i<(k:Int)):Qi (encI w) i=some [Ql (Vx.tat w i)]/\0<=Vx.tat w i/\Vx.tat w i<per:=by
 have hl:=h.1;have e:w[i.toNat]? = some (Vx.tat w i):=by
  simp_all [Vx.tat,QpL,QpJ]
 have:=JD e;rw [show (i.toNat:Int)=i by omega] at this;exact ⟨this,h.2 _ (QpH e)⟩
section
variable {R:Type} {n N:Nat} (hN:N<=48) {P:oP R->Prop}
include hN
theorem QfM {k0:Int->Bool->LL->oP R} (H:∀ w:List Int,w.length=N->P (k0 (N:Int) false (encI w))):∀ (c i m:Nat) (w:List Int),i+c=N->c<m->w.length=N->P (Zz n (N:Int) k0 m (i:Int) (encI w))
 |0,i,m+1,w,hi,_,hw=>by
  rw [Zz,show i=N by omega,Qz,QpE];exact H w hw
 |c+1,i,m+1,w,hi,hm,hw=>by
  rw [Zz,Qp Q0,QpG,Yh Q0 (by rw [X4];omega),Qh,QpF,JL Q0,Qh,Qq5,L3,QC Q0];exact QfM H c (i+1) m _ Q0 Q0 (by rw [Qqc];exact hw)
theorem Qan {x y:Int} {k0:Int->Bool->LL->oP R} (H:∀ w:List Int,w.length=N->P (k0 (N:Int) false (encI w))):∀ (c i m:Nat) (w:List Int),i+c=N->c<m->w.length=N->P (Zx n x y (N:Int) k0 m (i:Int) (encI w))
 |0,i,m+1,w,hi,_,hw=>by
  rw [Zx,show i=N by omega,Qz,QpE];exact H w hw
 |c+1,i,m+1,w,hi,hm,hw=>by
  rw [Zx,Qp Q0,QpG,Yh Q0 (by rw [X4];omega),Qh,QpF,JL Q0];simp -implicitDefEqProofs only [Qh,QpD,Qj,Qq5,L3,QC (show i<=1000 by omega)];cases w[i]'Q0 == y with
  |true=>exact Qan H c (i+1) m _ Q0 Q0 (by rw [Qqc];exact hw)
  |false=>exact Qan H c (i+1) m _ Q0 Q0 hw
theorem QfF (hn:N<n) {w:List Int} (hw:w.length=N) {kd f t mn mx q:Int} (hf:0<=f/\f<N) (ht:0<=t/\t<N) {K:Bool->LL->oP R} (H:∀ b (w:List Int),w.length=N->P (K b (encI w))):P (G5 n (encI w) kd f t mn mx q K):=by
 obtain ⟨f,rfl⟩:=Qqg hf.1;obtain ⟨t,rfl⟩:=Qqg ht.1;unfold G5;rw [Yh Q0 (by grind [X4]),Qh,QpF,JL (show f<w.length by omega),Qh];simp -implicitDefEqProofs only [Qh,QpD,Qj];rw [Yh Q0 (by rw [X4];omega),Qh,QpF,JL (show t<w.length by omega),Qh];simp -implicitDefEqProofs only [Qh,QpD,Qj];cases w[f]'Q0 == w[t]'Q0 with
 |true=>simp_all
 |false=>
  rw [QpE,X4];generalize w[f]'Q0=x;generalize w[t]'Q0=y;rw [hw];exact Qan hN (H true) N 0 n w Q0 hn hw
theorem QdX {h:Nat} (hh:h<N) {ro:List Int} (hr:ro.length=N) {k0:Int->Bool->LL->oP R} (H:∀ w:List Int,w.length=N->P (k0 (h:Int) false (encI w))):∀ (c i m:Nat) (w:List Int),i+c=h->c<m->w.length=N->P (YN n (h:Int) (encI ro) k0 m (i:Int) (encI w))
 |0,i,m+1,w,hi,_,hw=>by
  rw [YN,show i=h by omega,Qz,QpE];exact H w hw
 |c+1,i,m+1,w,hi,hm,hw=>by
  rw [YN,Qp Q0,QpG];simp -implicitDefEqProofs only [Yh (len:=(encI ro).length) (n:=(i:Int)) Q0 (by rw [X4];omega),Yh (len:=(encI ro).length) (n:=(h:Int)) Q0 (by rw [X4];omega),Yh (len:=(encI w).length) (n:=(i:Int)) Q0 (by rw [X4];omega),Yh (len:=(encI w).length) (n:=(h:Int)) Q0 (by rw [X4];omega),QpF,JL (show i<ro.length by omega),JL (show h<ro.length by omega),JL (show i<w.length by omega),JL (show h<w.length by omega),Qh,QpD,Qj,Qq5,L3,QC (show i<=1000 by omega)];cases ro[i]'Q0 == ro[h]'Q0 with
  |true=>exact QdX hh hr H c (i+1) m _ Q0 Q0 (by rw [Qqc];exact hw)
  |false=>exact QdX hh hr H c (i+1) m _ Q0 Q0 hw
theorem QdN (hn:N<n) {ro:List Int} (hr:ro.length=N) {k0:Int->Int->Bool->LL->oP R} (H:∀ a (w:List Int),w.length=N->P (k0 a (N:Int) false (encI w))):∀ (c i m:Nat) (a:Int) (w:List Int),i+c=N->c<m->w.length=N->P (YO n (N:Int) (encI ro) k0 m a (i:Int) (encI w))
 |0,i,m+1,a,w,hi,_,hw=>by
  rw [YO,show i=N by omega,Qz,QpE];exact H a w hw
 |c+1,i,m+1,a,w,hi,hm,hw=>by
  rw [YO,Qp Q0,QpG,Yh Q0 (by rw [X4];omega),Qh,QpF,JL (show i<w.length by omega),Qh,Qq5,L3];refine QdX hN (show i<N by omega) hr (fun w hw=>?_) i 0 n _ Q0 Q0 (by rw [Qqc];exact hw);simp -implicitDefEqProofs only [Yh (len:=(encI w).length) (n:=(i:Int)) Q0 (by rw [X4];omega),QpF,JL (show i<w.length by omega),Qh,QpD,Qj,Qq5,L3,QC (show i<=1000 by omega)];cases decide (w[i]'Q0<0) with
  |true=>exact QdN hn hr H c (i+1) m _ _ Q0 Q0 (by rw [Qqc];exact hw)
  |false=>exact QdN hn hr H c (i+1) m _ _ Q0 Q0 hw
theorem QhZ {A:LL} (hA:A.length<400) {per:Int} (hr:∀ r∈A,R6 r) (hc:∀ r∈A,chk per N r=true) (hn:N<n) {k0:Int->Bool->LL->oP R} (H:∀ a b (w:List Int),w.length=N->P (k0 a b (encI w))):∀ (ac:LL) (i m:Nat) (w:List Int),A.drop i=ac->ac.length<m->w.length=N->P (Zw n A k0 m (i:Int) (encI w)):=by
 intro ac;induction ac with
 |nil=>
  intro i m w hd hm hw;obtain ⟨m,rfl⟩:∃ k,m=k+1:=⟨m-1,Q0⟩;have:=Ul hd;rw [Zw,show decide ((i:Int)<(A.length:Int))=false by simp_all,QpE]
  simp_all
 |cons r ac ih=>
  intro i m w hd hm hw;obtain ⟨m,rfl⟩:∃ k,m=k+1:=⟨m-1,by simp at hm;omega⟩;obtain ⟨e,ao,an⟩:=Ys hd;have aj:=QpH e;obtain ⟨kd,f,t,mn,mx,q,rfl⟩:=hr r aj;have hk:=Q2w (hc _ aj);rw [Qq7] at hm;rw [Zw,Qp an,QpG,Qq,e];simp -implicitDefEqProofs only [Qh,QpD,QpI,Qj,QC (show i<=1000 by omega)];have hx:∃ b w',G5 n (encI w) kd f t mn mx q Tu2=some (b,encI w')/\w'.length=N:=QfF (P:=fun X=>∃ b w',X=some (b,encI w')/\w'.length=N) hN hn hw Q0 Q0 fun b w' h=>⟨b,w',rfl,h⟩
  obtain ⟨b,w',e',ak⟩:=hx;rw [e',Qh];dsimp only;rw [MR (by rw [X4,X4];omega),Qh];exact ih (i+1) m w' ao Q0 ak
theorem Q8T {h:Nat} (hh:h<N) {ro:List Int} (hr:ro.length=N) {k0:Int->Bool->LL->oP R} (H:∀ w:List Bool,w.length=N->P (k0 (h:Int) false (Q0C w))):∀ (c i m:Nat) (w:List Bool),i+c=h->c<m->w.length=N->P (Z6 n (encI ro) (h:Int) k0 m (i:Int) (Q0C w))
 |0,i,m+1,w,hi,_,hw=>by
  rw [Z6,show i=h by omega,Qz,QpE];exact H w hw
 |c+1,i,m+1,w,hi,hm,hw=>by
  rw [Z6,Qp Q0,QpG];simp -implicitDefEqProofs only [Qq,Yh (len:=(Q0C w).length) (n:=(h:Int)) Q0 (by rw [Q2k];omega),QpF,JL (show i<ro.length by omega),JL (show h<ro.length by omega),Q5K (show h<w.length by omega),Qh,QpD,Qj,Qq5,Q7A,QC (show i<=1000 by omega)];cases ro[i]'Q0 == ro[h]'Q0 with
  |true=>exact Q8T hh hr H c (i+1) m _ Q0 Q0 (by rw [Qqc];exact hw)
  |false=>exact Q8T hh hr H c (i+1) m _ Q0 Q0 hw
theorem Qd2 (hn:N<n) {ro:List Int} (hr:ro.length=N) {k0:Int->Bool->LL->oP R} (H:∀ w:List Bool,w.length=N->P (k0 (N:Int) false (Q0C w))):∀ (c i m:Nat) (w:List Bool),i+c=N->c<m->w.length=N->P (ZW n (encI ro) (N:Int) k0 m (i:Int) (Q0C w))
 |0,i,m+1,w,hi,_,hw=>by
  rw [ZW,show i=N by omega,Qz,QpE];exact H w hw
 |c+1,i,m+1,w,hi,hm,hw=>by
  rw [ZW,Qp Q0,QpG,Yh Q0 (by rw [Q2k];omega),Qh,QpF,Q5K (show i<w.length by omega),Qh,Qq5,Q7A,QC Q0];exact Q8T hN (show i<N by omega) hr (fun w hw=>Qd2 hn hr H c (i+1) m w Q0 Q0 hw) i 0 n _ Q0 Q0 (by rw [Qqc];exact hw)
omit hN in
theorem Qhf:List.replicate N [D.int .i64 (0:Int)]=encI (List.replicate N 0):=by grind [encI,List.map_replicate]
omit hN in
theorem Qj3:List.replicate N [D.bool false]=Q0C (List.replicate N false):=by grind [Q0C,List.map_replicate]
omit hN in
theorem Q9M:(bif decide ((0:Int)<=(N:Int))&&decide ((N:Int)<=(N:Int)) then some () else none)=some ():=by simp_all
end
def FsB (A:LL) (per:Int) (i:Nat) (w:List Int):Prop:=∀ kd f t mn mx q:Int,[Ql kd,Ql f,Ql t,Ql mn,Ql mx,Ql q]∈A->0<=f->f<(i:Int)->0<=t->t<(i:Int)->mn+(tat w t-tat w f-mn) % per<=mx
def TF (A:LL) (per:Int) (k i:Nat) (w:List Int):Prop:=TG per k w/\FsB A per i w
section
variable {per:Int} {E A:LL} {n:Nat} (p0:2<=per) (p1:per<=300) (hE:E.length<=48) (hA:A.length<400) (hr:∀ r∈A,R6 r) (hc:∀ r∈A,chk per E.length r=true) (hn:n=400)
include p0 p1 hE hA hr hc hn
theorem Qix (ac:UX n per E A some=some true):∃ w:List Int,Gb n per E A some=some (encI w)/\w.length=E.length:=by
 unfold Gb;rw [ac,Qh,QpT,QpE,Q9M,Qh,QpF,XJ Q0,Qh,List.length_replicate,Qhf];refine QfM (P:=fun X=>∃ w:List Int,X=some (encI w)/\w.length=E.length) hE (fun w hw=>?_) E.length 0 n _ Q0 Q0 Q2;refine QhZ (P:=fun X=>∃ w:List Int,X=some (encI w)/\w.length=E.length) hE hA hr hc Q0 (fun a b w hw=>?_) A 0 n w rfl Q0 hw;rw [X4,hw,Q9M,Qh,QpF,XJ Q0,Qh,Qhf];exact QdN (P:=fun X=>∃ w:List Int,X=some (encI w)/\w.length=E.length) hE Q0 hw (fun a w hw=>⟨w,rfl,hw⟩) E.length 0 n 0 _ Q0 Q0 Q2
theorem Qjo (ac:UX n per E A some=some true) {bu:Int} {al:Bool}:∃ w:List Bool,Kn n per E A bu al Tu11=some (per,E,A,Q0C w,bu,0,false,al,false,0,encI (List.replicate E.length 0))/\w.length=E.length:=by
 obtain ⟨ro,k,h2⟩:=Qix p0 p1 hE hA hr hc hn ac;unfold Kn;rw [k,Qh,Q9M,Qh,QpF,XJ Q0,Qh,Qh,XJ Q0,Qh,Qhf,Qj3,X4,h2];exact Qd2 (P:=fun X=>∃ w:List Bool,X=some (per,E,A,Q0C w,bu,0,false,al,false,0,encI (List.replicate E.length 0))/\w.length=E.length) hE Q0 h2 (fun w hw=>⟨w,rfl,hw⟩) E.length 0 n _ Q0 Q0 Q2
theorem QcP {R:Type} {w:List Int} (hw:TG per E.length w) {kd f t mn mx q:Int} (hm:[Ql kd,Ql f,Ql t,Ql mn,Ql mx,Ql q]∈A) (K:Int->oP R):Gr n per (encI w) f t mn K=K (mn+(tat w t-tat w f-mn) % per):=by
 have hk:=Q2w (hc _ hm);have tf:=hw.tat (i:=f) Q0 Q0;have tt:=hw.tat (i:=t) Q0 Q0;have:=Qq0 (tat w t-tat w f-mn) (show per≠0 by omega);have:=QpZ (tat w t-tat w f-mn) (show 0<per by omega);unfold Gr;simp -implicitDefEqProofs only [Qh,QpD,QpI,Qj,tf.1,tt.1,Qn (x:=tat w t-tat w f) Q0 Q0,Qn (x:=tat w t-tat w f-mn) Q0 Q0,QgR (n:=n) (t:=per) (x:=tat w t-tat w f-mn) Q0 Q0 Q0 Q0,Qn (x:=mn+(tat w t-tat w f-mn) % per) Q0 Q0]
theorem Qht {w:List Int} (hw:TG per E.length w) {al fd:Bool} {best i:Int}:∃ b,ZG n per A al fd best (encI w) i some=some b/\(al=false->b=false->∀ kd f t mn mx q:Int,[Ql kd,Ql f,Ql t,Ql mn,Ql mx,Ql q]∈A->f<=i->t<=i->mn+(tat w t-tat w f-mn) % per<=mx):=by
 unfold ZG;have go:∀ (ac:LL) (j m:Nat) (s:Int),A.drop j=ac->ac.length<m->∃ b,Xi n i (encI w) per A (some true) (fun o u v=>some (bif (bif al then fd else false) then (decide (o>=best)) else false)) m s (j:Int)=some b/\(al=false->b=false->∀ kd f t mn mx q:Int,[Ql kd,Ql f,Ql t,Ql mn,Ql mx,Ql q]∈ac->f<=i->t<=i->mn+(tat w t-tat w f-mn) % per<=mx):=by
  intro ac;induction ac with
  |nil=>
   intro j m s hd hm;obtain ⟨m,rfl⟩:∃ k,m=k+1:=⟨m-1,by simp at hm;omega⟩;have:=Ul hd;rw [Xi,show decide ((j:Int)<(A.length:Int))=false by simpa using this,QpE]
   simp_all
  |cons r ac ih=>
   intro j m s hd hm;obtain ⟨m,rfl⟩:∃ k,m=k+1:=⟨m-1,by simp at hm;omega⟩;obtain ⟨e,ar,aw⟩:=Ys hd;have aq:=QpH e;obtain ⟨kd,f,t,mn,mx,q,rfl⟩:=hr r aq;rw [Qq7] at hm;rw [Xi,Qp aw,QpG,Qq,e];simp -implicitDefEqProofs only [Qh,QpD,QpI,Qj,QcP p0 p1 hE hA hr hc hn hw aq,QC (show j<=1000 by omega)];cases l:(bif decide (f>i) then true else decide (t>i)) with
   |true=>
    obtain ⟨b,hb,an⟩:=ih (j+1) m (wJ (s+wJ (q*mn))) ar Q0;refine ⟨b,hb,fun a h2 ak f' t' aj ao q' c d g=>?_⟩;rcases List.mem_cons.1 c with h | h
    ·cases h;rw [QpM Q0,QpM Q0] at l;cases l
    ·exact an a h2 ak f' t' aj ao q' h d g
   |false=>
    rw [QpE];cases p:decide (mn+(tat w t-tat w f-mn) % per>mx) with
    |true=>exact ⟨_,rfl,fun _ h=>nomatch h⟩
    |false=>
     obtain ⟨b,hb,an⟩:=ih (j+1) m (wJ (s+wJ (q*(mn+(tat w t-tat w f-mn) % per)))) ar Q0;refine ⟨b,hb,fun a h2 ak f' t' aj ao q' c d g=>?_⟩;rcases List.mem_cons.1 c with h | h
     ·cases h;have:=of_decide_eq_false p;omega
     ·exact an a h2 ak f' t' aj ao q' h d g
 exact go A 0 n 0 rfl Q0
theorem Qis {w:List Int} (hw:TG per E.length w):∃ c e,L5 n per E A (encI w) Tu2=some (c,e):=by
 have hg:=(QfW p0 p1 hE Q0 hr hA (tl:=w)).2;rw [<- hn] at hg;unfold L5;rw [hg,Qh];cases Q7Z per E A w with
 |false=>exact ⟨_,_,rfl⟩
 |true=>
  rw [QpT,QpE];have go:∀ (ac:LL) (j m:Nat) (s:Int),A.drop j=ac->ac.length<m->∃ c e,Jz n (encI w) per A (fun d g h=>some (d,(0:Int))) m s (j:Int)=some (c,e):=by
   intro ac;induction ac with
   |nil=>
    intro j m s hd hm;obtain ⟨m,rfl⟩:∃ k,m=k+1:=⟨m-1,by simp at hm;omega⟩;have:=Ul hd;rw [Jz,show decide ((j:Int)<(A.length:Int))=false by simpa using this,QpE];exact ⟨_,_,rfl⟩
   |cons r ac ih=>
    intro j m s hd hm;obtain ⟨m,rfl⟩:∃ k,m=k+1:=⟨m-1,by simp at hm;omega⟩;obtain ⟨e,an,ak⟩:=Ys hd;have aj:=QpH e;obtain ⟨kd,f,t,mn,mx,q,rfl⟩:=hr r aj;rw [Qq7] at hm;rw [Jz,Qp ak,QpG,Qq,e];simp -implicitDefEqProofs only [Qh,QpD,QpI,Qj,QcP p0 p1 hE hA hr hc hn hw aj,QC (show j<=1000 by omega)];exact ih (j+1) m _ an Q0
  exact go A 0 n 0 rfl Q0
omit p0 p1 hE hA hr hc hn in
theorem TF.dn {i:Nat} {w:List Int} {k:Nat} (h:TF A per k (i+1) w):TF A per k i w:=⟨h.1,fun kd f t mn mx q hm a b h2 c=>h.2 kd f t mn mx q hm a Q0 h2 Q0⟩
omit p0 p1 hE hA hr hc hn in
theorem TF.set {i:Nat} {w:List Int} {k:Nat} {v:Int} (h:TF A per k i w) (c:0<=v) (d:v<per):TF A per k i (w.set i v):=by
 refine ⟨h.1.set c d,fun kd f t mn mx q hm g0 g1 a b=>?_⟩;have e:∀ x:Int,0<=x->x<(i:Int)->tat (w.set i v) x=tat w x:=fun x g j=>by
  unfold tat;rw [QpL,QpL,List.getElem?_set_ne Q0]
 rw [e f g0 g1,e t a b];exact h.2 kd f t mn mx q hm g0 g1 a b
def QgU (per:Int) (E A:LL) (i:Nat) (fs:List Bool) (bu:Int) (X:oP (Bool×Int×LL×LL×LL×Int×Int×Bool×Bool×Bool×Int×LL×LL)):Prop:=
 ∃ r us ov fd best res w,X=some (r,per,E,A,Q0C fs,bu,us,ov,false,fd,best,res,encI w)/\TF A per E.length i w/\(fd=true->∃ v,res=encI v/\TF A per E.length E.length v)
theorem Qgh {fs:List Bool} (bg:fs.length=E.length) {bu:Int}:∀ (c d i:Nat) (us:Int) (ov fd:Bool) (best:Int) (res:LL) (w:List Int),i+c=E.length->c<d->TF A per E.length i w->(fd=true->∃ v,res=encI v/\TF A per E.length E.length v) ->
  QgU per E A i fs bu (XF n d per E A (Q0C fs) bu us ov false fd best res (encI w) (i:Int)):=by
 intro c;induction c with
 |zero=>
  intro d i us ov fd best res w hi hd hw hf;obtain ⟨d,rfl⟩:∃ k,d=k+1:=⟨d-1,Q0⟩;obtain ⟨c,e,a2⟩:=Qis p0 p1 hE hA hr hc hn hw.1;obtain rfl:i=E.length:=Q0
  rw [XF,Jp,show ((E.length:Int) == (E.length:Int))=true by simp,QpG,X4,hw.1.1,XJ Q0,Qh,a2,Qh];exact ⟨_,_,_,_,_,_,_,rfl,hw,fun _=>⟨w,rfl,hw⟩⟩
 |succ c ih=>
  intro d i us ov fd best res w hi hd hw hf;obtain ⟨d,rfl⟩:∃ k,d=k+1:=⟨d-1,Q0⟩;rw [XF,Jp,show ((i:Int) == (E.length:Int))=false by simp;omega,QpE,Yh Q0 (by rw [Q2k];omega),Qh,QpF,Q5K (show i<fs.length by omega)];simp -implicitDefEqProofs only [Qh,QpD,S6];have ay:∀ (M:Nat),(M:Int)<=per->∀ (k:Nat) (t m:Nat) (us:Int) (ov fd:Bool) (best:Int) (res:LL) (w:List Int),t+k=M->k<m->TF A per E.length i w->(fd=true->∃ v,res=encI v/\TF A per E.length E.length v) ->
    ∀ {k0:LL->LL->Int->LL->LL->Int->Int->Bool->Bool->Bool->Int->LL->oP (Bool×Int×LL×LL×LL×Int×Int×Bool×Bool×Bool×Int×LL×LL)} {k1:Int->Bool->LL->LL->Int->LL->LL->Int->Int->Bool->Bool->Bool->Int->LL->oP (Bool×Int×LL×LL×LL×Int×Int×Bool×Bool×Bool×Int×LL×LL)},
    (∀ us ov fd best res w,TF A per E.length i w->(fd=true->∃ v,res=encI v/\TF A per E.length E.length v)->QgU per E A i fs bu (k0 (Q0C fs) (encI w) per E A bu us ov false fd best res)) ->
    (∀ a b us ov fd best res w,TF A per E.length i w->(fd=true->∃ v,res=encI v/\TF A per E.length E.length v)->QgU per E A i fs bu (k1 a b (Q0C fs) (encI w) per E A bu us ov false fd best res)) ->
    QgU per E A i fs bu (Xw n (XF n d) (i:Int) (M:Int) k0 k1 m (t:Int) (Q0C fs) (encI w) per E A bu us ov false fd best res):=by
   intro M hM k;induction k with
   |zero=>
    intro t m us ov fd best res w ht hm hw hf k0 k1 g h;obtain ⟨m,rfl⟩:∃ k,m=k+1:=⟨m-1,Q0⟩;rw [Xw,show t=M by omega,Qz,QpE];exact h _ _ _ _ _ _ _ w hw hf
   |succ k a3=>
    intro t m us ov fd best res w ht hm hw hf k0 k1 g h;obtain ⟨m,rfl⟩:∃ k,m=k+1:=⟨m-1,Q0⟩;have bk:=hw.1.1;rw [Xw,Qp Q0,QpG];cases decide (wJ (us+1)>bu) with
    |true=>exact g _ _ _ _ _ w hw hf
    |false=>
     have az:TF A per E.length i (w.set i (t:Int)):=hw.set Q0 Q0;obtain ⟨b,hb,a4⟩:=Qht p0 p1 hE hA hr hc hn az.1 (al:=false) (fd:=fd) (best:=best) (i:=(i:Int));rw [QpE,Yh Q0 (by rw [X4];omega),Qh,QpF,JL (show i<w.length by omega),Qh,Qq5,L3,hb,Qh,QC (show i<=1000 by omega),QC (show t<=1000 by omega)];cases b with
     |true=>
      simp -implicitDefEqProofs only [QpT,QpE];exact a3 (t+1) m _ _ _ _ _ _ Q0 Q0 az hf g h
     |false=>
      obtain ⟨r,a8,bb,bh,a5,a6,bi,hx,aw,ax⟩:=ih d (i+1) (wJ (us+1)) ov fd best res _ Q0 Q0 ⟨az.1,fun kd f t mn mx q hm g h h2 h3=>a4 rfl rfl kd f t mn mx q hm Q0 Q0⟩ hf;rw [Qq9,QpG,hx,Qh];cases r with
      |true=>exact a3 (t+1) m _ _ _ _ _ _ Q0 Q0 aw.dn ax g h
      |false=>exact g _ _ _ _ _ _ aw.dn ax
  have e1:((1:Nat):Int)=1:=rfl;obtain ⟨q,hq⟩:=Qqg (show 0<=per by omega);cases fs[i]'Q0 with
  |true=>exact ay 1 Q0 1 0 n us ov fd best res w Q0 Q0 hw hf (fun us ov fd best res w hw hf=>⟨_,_,_,_,_,_,_,rfl,hw,hf⟩) fun a b us ov fd best res w hw hf=>⟨_,_,_,_,_,_,_,rfl,hw,hf⟩
  |false=>
   have:=ay q Q0 q 0 n us ov fd best res w Q0 Q0 hw hf (k0:=fun j l o p s u x y z aa ab ac=>some (false,o,p,s,j,u,x,y,z,aa,ab,ac,l)) (k1:=fun au av ad ae ag ah ai aj ak am an ao ap aq=>some (true,ag,ah,ai,ad,aj,ak,am,an,ao,ap,aq,ae)) (fun us ov fd best res w hw hf=>⟨_,_,_,_,_,_,_,rfl,hw,hf⟩) fun a b us ov fd best res w hw hf=>⟨_,_,_,_,_,_,_,rfl,hw,hf⟩
   rw [<- hq] at this;exact this
theorem Qiw (ac:UX n per E A some=some true):∃ res us e,Va n per E A 3000 Tu3=some (res,us,e)/\(e=0->∃ v,res=encI v/\TG per E.length v/\FsB A per E.length v):=by
 obtain ⟨fs,a,h2⟩:=Qjo p0 p1 hE hA hr hc hn ac (bu:=3000) (al:=false);obtain ⟨r,us,ov,fd,best,res,w,hx,hw,hf⟩:=Qgh p0 p1 hE hA hr hc hn h2 (bu:=3000) E.length n 0 0 false false 0 [] (List.replicate E.length 0) Q0 Q0 ⟨⟨by simp,fun x hx=>by have:=List.eq_of_mem_replicate hx;omega⟩,fun kd f t mn mx q hm g a=>by omega⟩ (fun e=>nomatch e);have aj:Q2j n 3000 1 1048576 (some:Bool->oP Bool)=some true:=rfl;unfold Va Fl;rw [ac,Qh,QpT,QpE,aj,Qh,QpT,QpE,a,Qh];dsimp only;rw [show ((0:Nat):Int)=0 from rfl] at hx;rw [hx,Qh];dsimp only;cases ov with
 |true=>exact ⟨_,_,_,rfl,fun e=>by cases e⟩
 |false=>
  cases fd with
  |false=>exact ⟨_,_,_,rfl,fun e=>by cases e⟩
  |true=>exact ⟨_,_,_,rfl,fun _=>hf rfl⟩
omit p0 p1 hE hA hr hc hn in
theorem Qhv (ac:UX n per E A some=some false):∃ res us,Va n per E A 3000 Tu3=some (res,us,1):=by
 unfold Va Fl;rw [ac,Qh,Qq9,QpG];exact ⟨_,_,rfl⟩
end
namespace Cx
variable {X:Cx} {per:Int} {Ch Sy A:LL} {tl:List Int}
theorem Qcu {i:Nat} (hn:X.nr i=1\/X.nr i=2):(X.nr i=1/\X.pl i (X.nr i)=[X.aR i 0])\/(X.nr i=2/\X.pl i (X.nr i)=[X.aR i 0,X.aD i 0,X.aR i 1]):=by
 rcases hn with hn | hn
 ·exact .inl ⟨hn,by rw [hn];simp [pl,hn]⟩
 ·exact .inr ⟨hn,by rw [hn];simp [pl,hn]⟩
theorem Qao {i j:Nat} (hj:j<(X.pl i (X.nr i)).length):∀ {L:Nat},i<L->(X.pls L)[(X.pls i).length+j]? = (X.pl i (X.nr i))[j]?
 |0,h=>by omega
 |L+1,h=>by
  rw [pls];by_cases hi:i=L
  ·subst hi;rw [List.getElem?_append_right Q0,Nat.add_sub_cancel_left]
  ·have ih:=Qao hj (L:=L) Q0;have ac:(X.pls i).length+j<(X.pls L).length:=by
    rw [QpJ hj] at ih;exact (QpV.1 ih).1
   rw [List.getElem?_append_left ac,ih]
variable (h:X.OK)
include h
theorem Ei {i:Nat} (hi:i<=X.Ls.length):(X.pls i).length+i=2*base X.nr i:=by
 induction i with
 |zero=>rfl
 |succ i ih=>
  have ih:=ih Q0;rw [pls,Qq2,base];rcases Qcu (JM h (i:=i) Q0).2.1 with ⟨a,h2⟩ | ⟨a,h2⟩
  ·rw [h2,a];simp;omega
  ·rw [h2,a];simp;omega
omit h
variable (g:X.Gd per Ch Sy A tl)
include g
theorem Gd.runAt {i k:Nat} (hi:i<X.Ls.length) (hk:k<X.nr i):A[2*base X.nr i-i+2*k]? = some (X.aR i k)/\(k<X.nr i-1->A[2*base X.nr i-i+2*k+1]? = some (X.aD i k)):=by
 obtain ⟨H,rfl,_⟩:=g.act;have hl:=Ei g.ok (i:=i) Q0;have a:2*base X.nr i-i=(X.pls i).length:=Q0
 have at':∀ j r,(X.pl i (X.nr i))[j]? = some r->(X.planned Ch Sy++H)[2*base X.nr i-i+j]? = some r:=fun j r e=>by
  have hj:=(QpV.1 e).1;have e2:=Qao hj (L:=X.L) hi;rw [e] at e2;have ac:=(QpV.1 e2).1;unfold planned;rw [a,QpO,QpO,QpO,List.getElem?_append_left ac,e2]
 rcases Qcu (JM g.ok hi).2.1 with ⟨b,h2⟩ | ⟨b,h2⟩
 ·obtain rfl:k=0:=Q0
  exact ⟨at' 0 _ (by rw [h2];rfl),fun h=>by omega⟩
 ·obtain rfl | rfl:k=0\/k=1:=Q0
  ·exact ⟨at' 0 _ (by rw [h2];rfl),fun _=>at' 1 _ (by rw [h2];rfl)⟩
  ·exact ⟨at' 2 _ (by rw [h2];rfl),fun h=>by omega⟩
theorem Gd.turnAt {j:Nat} {t:Tup} (e:X.T[j]? = some t):A[2*X.N-X.L+Ch.length+j]? = some (X.tuE t):=by
 obtain ⟨H,rfl,_⟩:=g.act;have hl:=Ei g.ok (i:=X.L) (QpW _);have a:2*X.N-X.L+Ch.length=(X.pls X.L++Ch.map X.chE).length:=by rw [Qq2,QpK];unfold N;omega
 have hj:=(QpV.1 e).1;unfold planned;rw [a,QpO,QpO,List.getElem?_append_right Q0,Nat.add_sub_cancel_left,List.getElem?_append_left (by simpa using hj),QpR,e];rfl
def runV (X:Cx) (per:Int) (tl:List Int) (i k:Nat):Int:=VK tl per (X.aR i k)
def gapV (X:Cx) (per:Int) (tl:List Int) (i k:Nat):Int×Bool:=if k<X.nr i-1 then (VK tl per (X.aD i k),true) else match X.tn i with
 |some t=>(VK tl per (X.tuE t),true)
 |none=>(0,false)
theorem Gd.run_mem {i k:Nat} (hi:i<X.Ls.length) (hk:k<X.nr i):X.aR i k∈A:=QpH (g.runAt hi hk).1
theorem Gd.turn_mem {t:Tup} (ht:t∈X.T):X.tuE t∈A:=by
 obtain ⟨j,e⟩:=List.getElem?_of_mem ht;exact QpH (g.turnAt e)
theorem Gd.runV_rng {i k:Nat} (hi:i<X.Ls.length) (hk:k<X.nr i) : -65536<=X.runV per tl i k/\X.runV per tl i k<=66000:=g.dur_rng (g.run_mem hi hk)
theorem Gd.gapV_rng {i k:Nat} (hi:i<X.Ls.length) (hk:k<X.nr i) : -65536<=(X.gapV per tl i k).1/\(X.gapV per tl i k).1<=66000:=by
 unfold gapV;split
 ·exact g.dur_rng (QpH ((g.runAt hi hk).2 (by assumption)))
 ·cases e:X.tn i with
  |none=>simp
  |some t=>exact g.dur_rng (g.turn_mem (C5 e).1)
variable {R:Type}
theorem Gd.runP {i k:Nat} (hi:i<X.Ls.length) (hk:k<X.nr i) (K:Int->oP R):XG 400 per A (encI tl) (X.fst X.L) (i:Int) (k:Int) K=K (X.runV per tl i k):=by
 have hb:=Ya g.ok (i:=i) Q0;have hl:=Ei g.ok (i:=i) Q0;have hn:=(JM g.ok hi).2.1;have l1:=g.ok.l1;have e:=Q7C (X:=X) (i:=i) (L:=X.L) hi;rw [Qq] at e;have el:(X.fst X.L).length=X.Ls.length:=by simp [fst,encI,L]
 have hx:wJ (wJ (((2*base X.nr i:Nat):Int)-(i:Int))+((2*k:Nat):Int))=((2*base X.nr i-i+2*k:Nat):Int):=by
  rw [Qn (x:=((2*base X.nr i:Nat):Int)-(i:Int)) Q0 Q0,Qn Q0 Q0];omega
 unfold XG;rw [Yh Q0 Q0,Qh,QpF,e];simp -implicitDefEqProofs only [Qh,QpD,Qj,Sx (a:=base X.nr i) Q0,Sx (a:=k) Q0,hx,g.durP (g.runAt hi hk).1];rfl
theorem Gd.gapP {i k:Nat} (hi:i<X.Ls.length) (hk:k<X.nr i) (K:Int->Bool->oP R):Xj 400 X.Ls Ch per A (encI tl) (encI ((List.range X.L).map (tix X.T))) (X.fst X.L) (X.N:Int) (i:Int) (k:Int) K=K (X.gapV per tl i k).1 (X.gapV per tl i k).2:=by
 have hb:=Ya g.ok (i:=i) Q0;have hN:X.N<=6:=base_le g.ok;have hl:=Ei g.ok (i:=i) Q0;have ac:=Ei g.ok (i:=X.L) (QpW _);have hn:=(JM g.ok hi).2.1;have l1:=g.ok.l1;have chl:=g.ls.chl;have an:=g.ok.tl;have hw:wJ (((List.length (GI X.Ls i):Nat):Int)-1)=((X.nr i-1:Nat):Int):=JP (k:=X.nr i) Q0 Q0;unfold Xj gapV;rw [Qq,(JM g.ok hi).1];simp -implicitDefEqProofs only [Qh,QpD,QpI,QN,hw];by_cases b:k<X.nr i-1
 ·have e:=Q7C (X:=X) (i:=i) (L:=X.L) hi;rw [Qq] at e;have el:(X.fst X.L).length=X.Ls.length:=by simp [fst,encI,L]
  have hx:wJ (wJ (wJ (((2*base X.nr i:Nat):Int)-(i:Int))+((2*k:Nat):Int))+1)=((2*base X.nr i-i+2*k+1:Nat):Int):=by
   rw [Qn (x:=((2*base X.nr i:Nat):Int)-(i:Int)) Q0 Q0,Qn (x:=((2*base X.nr i:Nat):Int)-(i:Int)+((2*k:Nat):Int)) Q0 Q0,Qn Q0 Q0];omega
  rw [Qp b,QpG,Qqf b,Yh Q0 Q0,Qh,QpF,e];simp -implicitDefEqProofs only [Qh,QpD,Qj,Sx (a:=base X.nr i) Q0,Sx (a:=k) Q0,hx,g.durP ((g.runAt hi hk).2 b)]
 ·rw [Q5 ((k:Int)<((X.nr i-1:Nat):Int)),QpE,Qqd b];have et:Qi (encI ((List.range X.L).map (tix X.T))) (i:Int)=some [Ql (tix X.T i)]:=JD (by simp [show i<X.L from hi]);rw [et];simp -implicitDefEqProofs only [Qh,QpD,Qj];unfold tix tn;rcases Q6D (l:=X.T) (p:=fun t=>t.1 == i) with ⟨c,h2⟩ | ⟨t,j,c,h2,d⟩
  ·simp only [c,h2];rfl
  ·have aj:=(QpV.1 d).1;simp only [c,h2];have hx:wJ (wJ (wJ (((2*X.N:Nat):Int)-((List.length X.Ls:Nat):Int))+((List.length Ch:Nat):Int))+(j:Int))=((2*X.N-X.L+Ch.length+j:Nat):Int):=by
    unfold L at ac ⊢;unfold N at hN ⊢;unfold L at hN ⊢;rw [Qn (x:=((2*base X.nr X.Ls.length:Nat):Int)-((List.length X.Ls:Nat):Int)) Q0 Q0,Qn (x:=((2*base X.nr X.Ls.length:Nat):Int)-((List.length X.Ls:Nat):Int)+((List.length Ch:Nat):Int)) Q0 Q0,Qn Q0 Q0];omega
   rw [Q6 ((j:Int)>=0),QpG,Sx (a:=X.N) Q0,hx,g.durP (g.turnAt d),Qh]
end Cx
end Go.Vx
namespace Go.Vx
variable {R:Type} (n:Nat)
def Jt (b c d e f:LL) (g:Int) (h:List UInt8) (i j k l:Int) (K:Qky R):oP R:=Qc R (Wo n b c d e f g h i j k l 0 0 Tu3) fun a=>K a.1 a.2.1 a.2.2
end Go.Vx
namespace Go.Vx
theorem Mr {l:List Nat} {j i:Nat} (e:l[j]? = some i):Qi (ES l) (j:Int)=some [Ql (i:Int)]:=by
 rw [Qq];unfold ES;rw [QpR,e];rfl
namespace Cx
def sumR (X:Cx) (per:Int) (tl:List Int) (i:Nat):Nat->Int
 |0=>0
 |k+1=>sumR X per tl i k+(X.runV per tl i k+(X.gapV per tl i k).1)
def sumL (X:Cx) (per:Int) (tl:List Int) (ls:List Nat):Int:=ls.foldl (fun s i=>s+X.sumR per tl i (X.nr i)) 0
def lapsV (X:Cx) (per:Int) (tl:List Int) (ls:List Nat) (c:Bool):Int:=bif c then (X.sumL per tl ls).tdiv per else 0
variable {X:Cx} {per:Int} {Ch Sy A:LL} {tl:List Int} (g:X.Gd per Ch Sy A tl) {R:Type}
include g
theorem Gd.sumR_rng {i:Nat} (hi:i<X.Ls.length):∀ {k:Nat},k<=X.nr i -> -200000*(k:Int)<=X.sumR per tl i k/\X.sumR per tl i k<=200000*(k:Int)
 |0,_=>by simp [sumR]
 |k+1,hk=>by
  have ih:=Gd.sumR_rng hi (k:=k) Q0;have a:=g.runV_rng hi (show k<X.nr i by omega);have h2:=g.gapV_rng hi (show k<X.nr i by omega);rw [sumR];omega
theorem Gd.sumL_rng {ls:List Nat} (ac:∀ i∈ls,i<X.Ls.length):∀ {j:Nat},j<=ls.length -> -400000*(j:Int)<=X.sumL per tl (ls.take j)/\X.sumL per tl (ls.take j)<=400000*(j:Int)
 |0,_=>by simp [sumL]
 |j+1,hj=>by
  have ih:=Gd.sumL_rng ac (j:=j) Q0;have e:=QpJ (l:=ls) (i:=j) Q0;have hi:=ac _ (QpH e);have hn:=(JM g.ok hi).2.1;have a:=g.sumR_rng hi (QpW (X.nr ls[j]));rw [YE e];unfold sumL at ih ⊢;rw [List.foldl_append];simp only [Qqj,List.foldl_nil];omega
theorem AA {ls:List Nat} {j i:Nat} (e:ls[j]? = some i):X.sumL per tl (ls.take (j+1))=X.sumL per tl (ls.take j)+X.sumR per tl i (X.nr i):=by
 rw [YE e];unfold sumL;rw [List.foldl_append];rfl
theorem Gd.lapsP {ls:List Nat} {c:Bool} (ac:∀ i∈ls,i<X.Ls.length) (ak:ls.length<=10) (K:Int->oP R):Wf 400 X.Ls Ch per A (encI tl) (encI ((List.range X.L).map (tix X.T))) (X.fst X.L) (X.N:Int) (ES ls) c K=K (X.lapsV per tl ls c):=by
 have p0:=g.p0;have p1:=g.p1;unfold Wf lapsV;cases c
 ·rfl
 rw [QpT,QpE,QpG,show (ES ls).length=ls.length by simp [ES]];have hs:=g.sumL_rng ac (QpW ls.length);rw [QpX] at hs;have hb:((X.sumL per tl ls).tdiv per).natAbs=(X.sumL per tl ls).natAbs / per.natAbs:=Int.natAbs_tdiv ..;have an:(X.sumL per tl ls).tdiv per<=10000000 /\ -10000000<=(X.sumL per tl ls).tdiv per:=by
  have:=Nat.div_le_self (X.sumL per tl ls).natAbs per.natAbs;omega
 refine QD (r:=fun m j=>Xn 400 (ES ls) (ls.length:Int) (X.fst X.L) X.Ls Ch per A (encI tl) (encI ((List.range X.L).map (tix X.T))) (X.N:Int) (fun a b d=>gb true (nz per) () fun f=>K (wJ (Int.tdiv a per))) m (X.sumL per tl (ls.take j.toNat)) j) (N:=ls.length) (fun m j hj=>?_) (fun m=>?_) ls.length 400 0 Q0 Q0
 ·simp only [QpF];have e:=QpJ hj;have hi:=ac _ (QpH e);have ao:=g.sumL_rng ac (j:=j) Q0;have hn:=(JM g.ok hi).2.1;rw [Xn,Qp hj,QpG,Mr e];simp -implicitDefEqProofs only [Qh,QpD,QpI,Qj,QN,Qq,(JM g.ok hi).1,QC (show j<=1000 by omega)];refine QD (r:=fun m' k=>XV 400 ((ls[j]:Nat):Int) ((X.nr ls[j]:Nat):Int) (X.fst X.L) X.Ls Ch per A (encI tl) (encI ((List.range X.L).map (tix X.T))) (X.N:Int) (fun h l n=>Xn 400 (ES ls) (ls.length:Int) (X.fst X.L) X.Ls Ch per A (encI tl) (encI ((List.range X.L).map (tix X.T))) (X.N:Int) (fun a b d=>gb true (nz per) () fun f=>K (wJ (Int.tdiv a per))) m h ((j+1:Nat):Int)) m' (X.sumL per tl (ls.take j)+X.sumR per tl ls[j] k.toNat) k) (N:=X.nr ls[j]) (fun m' k hk=>?_) (fun m'=>?_) (X.nr ls[j]) 400 0 Q0 Q0 |> Eq.trans (by simp [sumR];rfl)
  ·simp only [QpF];have hr:=g.sumR_rng hi (k:=k) Q0;have o:=g.runV_rng hi hk;have h2:=g.gapV_rng hi hk;rw [XV,Qp hk,QpG,g.gapP hi hk,Qh,g.runP hi hk,Qh,Qn (x:=X.runV per tl ls[j] k+(X.gapV per tl ls[j] k).1) Q0 Q0,Qn Q0 Q0,QC (show k<=1000 by omega),sumR,Int.add_assoc]
  ·simp only [QpF];rw [XV,Qz,QpE,AA g e]
 ·simp only [QpF];rw [Xn,Qz,QpE,QpX,EC Q0,Qh,Qn Q0 Q0]
omit g
def stair (X:Cx) (i k:Nat):List Occ:=Q5N X.G.St X.G.Pt X.G.Se X.G.Li (X.st i k) (X.rn i k) 0 0
variable (h:X.OK)
include h
theorem EL {i k:Nat} (hi:i<X.Ls.length) (hk:k<X.nr i):OL (-1) (X.stair i k)/\(X.stair i k).length<=6:=QaJ (rd h hi hk).rt h.sk Q0 Q0 Q0 Q0
theorem Qfx {i k:Nat} (hi:i<X.Ls.length) (hk:k<X.nr i) (K:LL->Int->Int->oP R):Jt 400 X.G.St X.G.Pt X.G.Se X.G.Li (X.st i k) 0 X.nm X.tl X.sp X.ac X.br K=K ((X.stair i k).map enc) (X.run i k) 0:=by
 have hh:=QfY (rd h hi hk).rt (nm:=X.nm) h.sk (show (0:Int)<=0 by omega) Q0 (show (0:Int)<=0 by omega) Q0;unfold WA at hh;have r:=(rd h hi hk).rt;rw [Qel r.lay rfl r.l2 r.l24 r.rt r.st h.sk,Qh,Qr (by rfl),Qr (by rfl)] at hh;unfold Jt;cases e:Wo 400 X.G.St X.G.Pt X.G.Se X.G.Li (X.st i k) 0 X.nm X.tl X.sp X.ac X.br 0 0 Tu3 with
 |none=>rw [e] at hh;cases hh
 |some v=>
  obtain ⟨a,b,c⟩:=v;rw [e,Qh] at hh;cases hh;rfl
end Cx
theorem Q9g {St Pt Se Li s:LL} (h:RtF St Pt Se Li s) {j:Nat} (hj:j<s.length):∃ (d:Int) (nm:List UInt8) (a b c st:Int),s[j]? = some [Ql (sec s j:Int),Ql d]/\Qi Se (sec s j:Int)=some [D.str nm,Ql a,Ql b,Ql c,Ql st]:=by
 obtain ⟨x,d,nm,b,c,st,e,f,a0,a1,hd⟩:=Ex h.st hj;have hx:=Hq f;have g:0<=x:=by
  have h2:=hx.1;unfold inB at h2;by_cases hc:0<=x
  ·exact hc
  ·rw [show (decide (0<=x)&&decide (x<(Se.length:Int)))=false by simp;omega] at h2;cases h2
 have ac:x=((sec s j:Nat):Int):=by
  unfold sec;rw [QpL,e];show x=(x.toNat:Int);omega
 rw [ac] at e f;exact ⟨d,nm,_,b,c,st,e,f⟩
def Cv (T:List Occ) (r:Nat) (f t:Int):Prop:=∃ x a b,T[r]? = some (x,a,b)/\a<=f/\t<=b/\a<b
theorem Cv.add {T:List Occ} {r r':Nat} {f t f' t':Int} (h:Cv T r f t) (hf:f'<t'):Cv (NH T r' f' t') r f t:=by
 obtain ⟨x,a,b,e,i,h2,g⟩:=h;have hr:=(QpV.1 e).1;unfold NH;by_cases ac:r'=r
 ·subst ac;rw [e];dsimp only;rw [Qqf g];refine ⟨_,_,_,by rw [List.getElem?_set_self hr],?_,?_,?_⟩
  ·split <;> omega
  ·split <;> omega
  ·split <;> split <;> omega
 ·cases e':T[r']? with
  |none=>exact ⟨x,a,b,e,i,h2,g⟩
  |some q=>
   obtain ⟨y,c,d⟩:=q;dsimp only;split
   ·exact ⟨x,a,b,by rw [List.getElem?_set_ne ac,e],i,h2,g⟩
   ·exact ⟨x,a,b,by rw [List.getElem?_set_ne ac,e],i,h2,g⟩
theorem Cv.new {T:List Occ} {r:Nat} {f t:Int} (hf:f<t) (hr:r<T.length):Cv (NH T r f t) r f t:=by
 obtain ⟨⟨x,a,b⟩,e⟩:∃ q,T[r]? = some q:=⟨T[r],QpJ hr⟩;unfold NH;rw [e];dsimp only;split
 ·refine ⟨_,_,_,by rw [List.getElem?_set_self hr],?_,?_,?_⟩
  ·split <;> omega
  ·split <;> omega
  ·split <;> split <;> omega
 ·exact ⟨_,_,_,by rw [List.getElem?_set_self hr],Qqh _,Qqh _,hf⟩
def Bd (R:Int) (T:List Occ):Prop:=∀ q∈T,q.2.1<q.2.2->q.2.1<=R/\0<=q.2.2
theorem Bd.add {R:Int} {T:List Occ} (h:Bd R T) {r:Nat} {f t:Int} (hf:f<=R) (ht:0<=t):Bd R (NH T r f t):=by
 unfold NH;cases e:T[r]? with
 |none=>exact h
 |some q=>
  obtain ⟨x,a,b⟩:=q;have c:=h _ (QpH e);dsimp only at c ⊢;split
  ·intro q hq _;rcases List.mem_or_eq_of_mem_set hq with hq | rfl
   ·exact h q hq (by assumption)
   ·have c:=c (by assumption);dsimp only;constructor <;> split <;> omega
  ·intro q hq _;rcases List.mem_or_eq_of_mem_set hq with hq | rfl
   ·exact h q hq (by assumption)
   ·exact ⟨hf,ht⟩
section
variable {N NP:Nat} {Li s:LL} {f g:Nat->Int}
theorem Q6f (hs:∀ i,i<s.length->sec s i<N) (a:∀ i,i<s.length->f i<g i) (h2:∀ i,1<=i->i<s.length->f i<g (i-1)) {j:Nat}:∀ {i:Nat},j<i->i<=s.length->Cv (Tz N NP Li s f g i) (sec s j) (f j) (g j)
 |0,hj,_=>by omega
 |i+1,hj,hi=>by
  have hf:=a i Q0;have hl:sec s i<(Tz N NP Li s f g i).length:=by
   have:=hs i Q0;rw [Tq];omega
  have hc:Cv (NH (Tz N NP Li s f g i) (sec s i) (f i) (g i)) (sec s j) (f j) (g j):=by
   by_cases e:j=i
   ·subst e;exact Cv.new hf hl
   ·exact (Q6f hs a h2 (i:=i) Q0 Q0).add hf
  rw [Tz];split
  ·exact hc
  ·split
   ·exact hc
   ·exact hc.add (h2 i Q0 Q0)
theorem Q9L {R:Int} (c:∀ i,i<s.length->f i<=R/\0<=g i):∀ {i:Nat},i<=s.length->Bd R (Tz N NP Li s f g i)
 |0,_=>by
  intro q hq ac;rw [Tz] at hq;have:=List.eq_of_mem_replicate hq;subst this;simp at ac
 |i+1,hi=>by
  have ih:=Q9L c (i:=i) Q0;have a:=c i Q0;rw [Tz];split
  ·exact ih.add a.1 a.2
  ·have b:=c (i-1) Q0;split
   ·exact ih.add a.1 a.2
   ·exact (ih.add a.1 a.2).add a.1 b.2
end
theorem Qea {St Pt Se Li s:LL} (h:RtF St Pt Se Li s) {nm:List UInt8} {tl sp ac br:Int} (hk:StkN tl sp ac br) {i:Nat} (hi:i<=s.length):TI (Tz Se.length Pt.length Li s (fr Se s (Zc Se s nm tl sp ac br) 0) (tu Se s (Zc Se s nm tl sp ac br) 0) i):=by
 have aj:=fun i (hi:i<s.length)=>Qd9 h (nm:=nm) hk (Qqh 0) Q0 (Qqh 0) Q0 hi
 induction i with
 |zero=>
  intro r x a b e ak;obtain ⟨d,h2⟩:=QpV.1 e;simp only [Tz,List.getElem_replicate] at h2;cases h2;omega
 |succ i ih=>
  have ih:=ih Q0;have q:=aj i Q0;rw [Tz];split
  ·exact ih.add q.1 q.2
  ·have c:=aj (i-1) Q0;split
   ·exact ih.add q.1 q.2
   ·exact (ih.add q.1 q.2).add q.1 c.2
namespace Cx
variable {X:Cx} (h:X.OK)
include h
theorem Qcy {i k:Nat} (hi:i<X.Ls.length) (hk:k<X.nr i) {j:Nat} (hj:j<(X.st i k).length):sec (X.st i k) j<X.G.Se.length:=by
 obtain ⟨d,nm,a,b,c,st,_,e⟩:=Q9g (rd h hi hk).rt hj;have:=(Hq e).1;unfold inB at this;by_cases hc:(sec (X.st i k) j:Int)<(X.G.Se.length:Int)
 ·omega
 ·rw [QpM hc,Bool.and_false] at this;cases this
theorem Q9Y {i k:Nat} (hi:i<X.Ls.length) (hk:k<X.nr i) :
  (∀ q∈X.stair i k,0<=q.1/\q.2.1<q.2.2/\q.2.1<=X.run i k/\0<=q.2.2)/\(∃ q∈X.stair i k,q.1<(X.G.Se.length:Int)/\0<q.2.2) /\
  ∀ s,0<=s->s<X.run i k->∃ q∈X.stair i k,q.2.1<=s/\s<q.2.2:=by
 have hr:=(rd h hi hk).rt;have l2:=hr.l2;have a4:=MY hr.lay;have aq:=fun j (hj:j<(X.st i k).length)=>Qcy h hi hk hj
 have ak:=fun j (hj:j<(X.st i k).length)=>Qgt hr (nm:=X.nm) h.sk (Qqh 0) Q0 (Qqh 0) Q0 hj
 have an:=fun a b (aw:a<=b) (hb:b<(X.st i k).length)=>Q1J hr (nm:=X.nm) h.sk aw hb
 have ay:=EL h hi hk;unfold run;have er:X.rn i k=Zc X.G.Se (X.st i k) X.nm X.tl X.sp X.ac X.br:=rfl;rw [<- er] at ak an;have ar:=MG hr (nm:=X.nm) h.sk;rw [<- er] at ar;have hlast:=an ((X.st i k).length-1) ((X.st i k).length-1) (QpW _) Q0;have aj:fLV X.G.Se (X.st i k) (X.rn i k) ((X.st i k).length-1)=(X.rn i k).T (X.rn i k).N:=by unfold fLV;rw [Qqd Q0]
 rw [aj] at hlast;have a7:=Lu (a:=(X.rn i k).T (X.rn i k).N) Q0 (show (1:Int)<=1000 by decide);have eS:Q0W (X.rn i k)=cd ((X.rn i k).T (X.rn i k).N) 1000:=rfl;have l:fr X.G.Se (X.st i k) (X.rn i k) 0 0=0:=by unfold fr;simp
 have a5:tu X.G.Se (X.st i k) (X.rn i k) 0 ((X.st i k).length-1)=Q0W (X.rn i k):=by unfold tu;rw [Qqd Q0];omega
 have hb:∀ j,j<(X.st i k).length->fr X.G.Se (X.st i k) (X.rn i k) 0 j<=Q0W (X.rn i k)/\0<=tu X.G.Se (X.st i k) (X.rn i k) 0 j:=by
  intro j hj;have hT:=an (j-1) ((X.st i k).length-1) Q0 Q0;rw [aj] at hT;have hL:=an j j (QpW _) hj;have hc:=Lu (a:=fLV X.G.Se (X.st i k) (X.rn i k) j) Q0 (show (1:Int)<=1000 by decide);constructor
  ·unfold fr;split <;> omega
  ·unfold tu;split <;> omega
 have a2:∀ j,1<=j->j<(X.st i k).length->fr X.G.Se (X.st i k) (X.rn i k) 0 j<=tu X.G.Se (X.st i k) (X.rn i k) 0 (j-1):=fun j c hj=>by
  have:=(ak j hj).2.2.2 c;omega
 have au:∀ j,j<(X.st i k).length->∃ q∈X.stair i k,q.1=(sec (X.st i k) j:Int)/\q.2.1<=fr X.G.Se (X.st i k) (X.rn i k) 0 j/\tu X.G.Se (X.st i k) (X.rn i k) 0 j<=q.2.2:=fun j hj=>by
  obtain ⟨x,a,b,e,c,h2,d⟩:=Q6f (N:=X.G.Se.length) (NP:=X.G.Pt.length) (Li:=X.G.Li) (s:=X.st i k) (f:=fr X.G.Se (X.st i k) (X.rn i k) 0) (g:=tu X.G.Se (X.st i k) (X.rn i k) 0) aq (fun j hj=>(ak j hj).2.1) (fun j c hj=>(ak j hj).2.2.2 c) (j:=j) (i:=(X.st i k).length) hj (QpW _);have hm:(x,a,b)∈X.stair i k:=List.mem_filter.2 ⟨QpH e,by simpa [Px] using d⟩;refine ⟨_,hm,?_,c,h2⟩;have ax:TI (Tz X.G.Se.length X.G.Pt.length X.G.Li (X.st i k) (fr X.G.Se (X.st i k) (X.rn i k) 0) (tu X.G.Se (X.st i k) (X.rn i k) 0) (X.st i k).length):=Qea hr h.sk (QpW _);exact (ax _ _ _ _ e d).1
 refine ⟨fun q hq=>?_,?_,fun s s0 s1=>?_⟩
 ·have hm:=ay.1.mem q hq;have az:=Q9L (N:=X.G.Se.length) (NP:=X.G.Pt.length) (Li:=X.G.Li) hb (QpW _) q (List.mem_filter.1 hq).1 hm.2.2.1;exact ⟨Q0,hm.2.2.1,az⟩
 ·obtain ⟨q,hq,e,_,h2⟩:=au 0 Q0;have:=aq 0 Q0;have:=(ak 0 Q0).2.1;exact ⟨q,hq,Q0,Q0⟩
 ·have ao:∀ n,n<(X.st i k).length->s<tu X.G.Se (X.st i k) (X.rn i k) 0 n->∃ j,j<(X.st i k).length/\fr X.G.Se (X.st i k) (X.rn i k) 0 j<=s/\s<tu X.G.Se (X.st i k) (X.rn i k) 0 j:=by
   intro n;induction n with
   |zero=>exact fun hn hs=>⟨0,hn,Q0,hs⟩
   |succ n ih=>
    intro hn hs;by_cases hc:fr X.G.Se (X.st i k) (X.rn i k) 0 (n+1)<=s
    ·exact ⟨n+1,hn,hc,hs⟩
    ·have:=a2 (n+1) Q0 hn;exact ih Q0 (by rw [Nat.add_sub_cancel] at this;omega)
  obtain ⟨j,hj,c,h2⟩:=ao ((X.st i k).length-1) Q0 Q0;obtain ⟨q,hq,_,d,m⟩:=au j hj;exact ⟨q,hq,Q0,Q0⟩
end Cx
abbrev U:=Nat×Nat×Int×Int×Int
def Fd (u:U):List D:=[Ql (u.1:Int),Ql (u.2.1:Int),Ql u.2.2.1,Ql u.2.2.2.1,Ql u.2.2.2.2]
def DB (us:List U) (u:U):List U:=if 0<u.2.2.2.1 then us++[u] else us
theorem RN {us:List U} {u:U}:(DB us u).length<=us.length+1:=by
 unfold DB;split <;> simp
namespace Cx
variable {X:Cx} {per:Int} {Ch Sy A:LL} {tl:List Int}
def endV (X:Cx) (per:Int) (tl:List Int) (i k:Nat) (at':Int):Int:=at'+X.runV per tl i k+(if (X.gapV per tl i k).2=true then (X.gapV per tl i k).1 else 60)
def occU (train:Nat) (laps at':Int) (us:List U) (l:List Occ):List U:=l.foldl (fun us o=>DB us (o.1.toNat,train,at'+o.2.1,o.2.2-o.2.1,laps)) us
def stM (X:Cx) (per:Int) (tl:List Int) (mv c:Bool) (idx train:Nat) (laps:Int) (i k:Nat) (s:Int×List U):Int×List U:=
 (X.endV per tl i k s.1,DB (bif mv then occU train laps s.1 (if c=false/\idx=0/\k=0 then DB s.2 (sec (X.st i k) 0,train,s.1-60,60,laps) else s.2) (X.stair i k) else if c=false/\idx=0/\k=0 then DB s.2 (sec (X.st i k) 0,train,s.1-60,60,laps) else s.2) (sec (X.st i k) ((X.st i k).length-1),train,s.1+X.run i k,X.endV per tl i k s.1-s.1-X.run i k,laps))
def rideM (X:Cx) (per:Int) (tl:List Int) (mv c:Bool) (idx train:Nat) (laps:Int) (i:Nat) (s:Int×List U):Nat->Int×List U
 |0=>s
 |k+1=>X.stM per tl mv c idx train laps i k (rideM X per tl mv c idx train laps i s k)
def lineM (X:Cx) (per:Int) (tl:List Int) (mv c:Bool) (train:Nat) (laps:Int) (ls:List Nat) (s:Int×List U):Nat->Int×List U
 |0=>s
 |j+1=>X.rideM per tl mv c j train laps (ls.getD j 0) (lineM X per tl mv c train laps ls s j) (X.nr (ls.getD j 0))
def trainM (X:Cx) (per:Int) (tl:List Int) (mv:Bool) (us:List U) (train:Nat) (r:List Nat×Bool):List U:=(X.lineM per tl mv r.2 train (X.lapsV per tl r.1 r.2) r.1 (tat tl ((2*base X.nr (r.1.getD 0 0):Nat):Int),us) r.1.length).2
def usesM (X:Cx) (per:Int) (tl:List Int) (mv:Bool) (rs:List (List Nat×Bool)):Nat->List U
 |0=>[]
 |j+1=>X.trainM per tl mv (usesM X per tl mv rs j) j (rs.getD j ([],false))
variable (g:X.Gd per Ch Sy A tl)
include g
theorem Gd.endV_rng {i k:Nat} (hi:i<X.Ls.length) (hk:k<X.nr i) {a:Int}:a-140000<=X.endV per tl i k a/\X.endV per tl i k a<=a+140000:=by
 have b:=g.runV_rng hi hk;have h2:=g.gapV_rng hi hk;unfold endV;split <;> omega
omit g in
theorem Bm {train:Nat} {laps a:Int}:∀ {l:List Occ} {us:List U},(occU train laps a us l).length<=us.length+l.length
 |[],us=>by simp [occU]
 |o::l,us=>by
  have:=Bm (train:=train) (laps:=laps) (a:=a) (l:=l) (us:=DB us (o.1.toNat,train,a+o.2.1,o.2.2-o.2.1,laps));have:=RN (us:=us) (u:=(o.1.toNat,train,a+o.2.1,o.2.2-o.2.1,laps));rw [Qq7];unfold occU at *
  rw [Qqj];omega
theorem Gd.rideM_rng {mv c:Bool} {idx train:Nat} {laps:Int} {i:Nat} (hi:i<X.Ls.length) {s:Int×List U}:∀ {k:Nat},k<=X.nr i->s.1-140000*(k:Int)<=(X.rideM per tl mv c idx train laps i s k).1/\(X.rideM per tl mv c idx train laps i s k).1<=s.1+140000*(k:Int)/\(X.rideM per tl mv c idx train laps i s k).2.length<=s.2.length+8*k
 |0,_=>by simp [rideM]
 |k+1,hk=>by
  have ih:=Gd.rideM_rng (mv:=mv) (c:=c) (idx:=idx) (train:=train) (laps:=laps) hi (s:=s) (k:=k) Q0;have he:=g.endV_rng hi (show k<X.nr i by omega) (a:=(X.rideM per tl mv c idx train laps i s k).1);rw [rideM];unfold stM;refine ⟨by dsimp only;omega,by dsimp only;omega,Nat.le_trans RN ?_⟩;have b:=(EL g.ok hi (show k<X.nr i by omega)).2;have hf:(if c=false/\idx=0/\k=0 then DB (X.rideM per tl mv c idx train laps i s k).2 (sec (X.st i k) 0,train,(X.rideM per tl mv c idx train laps i s k).1-60,60,laps) else (X.rideM per tl mv c idx train laps i s k).2).length<=(X.rideM per tl mv c idx train laps i s k).2.length+1:=by
   split
   ·exact RN
   ·omega
  cases mv with
  |false=>rw [QpE];omega
  |true=>
   rw [QpG];have:=Bm (train:=train) (laps:=laps) (a:=(X.rideM per tl true c idx train laps i s k).1) (l:=X.stair i k) (us:=if c=false/\idx=0/\k=0 then DB (X.rideM per tl true c idx train laps i s k).2 (sec (X.st i k) 0,train,(X.rideM per tl true c idx train laps i s k).1-60,60,laps) else (X.rideM per tl true c idx train laps i s k).2);omega
theorem Gd.lineM_rng {mv c:Bool} {train:Nat} {laps:Int} {ls:List Nat} (ac:∀ i∈ls,i<X.Ls.length) {s:Int×List U}:∀ {j:Nat},j<=ls.length->s.1-280000*(j:Int)<=(X.lineM per tl mv c train laps ls s j).1/\(X.lineM per tl mv c train laps ls s j).1<=s.1+280000*(j:Int)/\(X.lineM per tl mv c train laps ls s j).2.length<=s.2.length+16*j
 |0,_=>by simp [lineM]
 |j+1,hj=>by
  have ih:=Gd.lineM_rng (mv:=mv) (c:=c) (train:=train) (laps:=laps) ac (s:=s) (j:=j) Q0;have e:=QpJ (l:=ls) (i:=j) Q0;have hi:=ac _ (QpH e);have hn:=(JM g.ok hi).2.1;have hd:ls.getD j 0=ls[j]:=by rw [QpL,e];rfl
  rw [lineM,hd];have:=g.rideM_rng (mv:=mv) (c:=c) (idx:=j) (train:=train) (laps:=laps) hi (s:=X.lineM per tl mv c train laps ls s j) (QpW (X.nr ls[j]));omega
omit g in
theorem Q6u {rs:List (List Nat×Bool)}:∀ {j:Nat} {r:List Nat×Bool},rs[j]? = some r->Q3j (rs.take (j+1))=Q3j (rs.take j)+r.1.length:=by
 induction rs with
 |nil=>exact fun h=>by simp at h
 |cons a rs ih=>
  intro j r e;cases j with
  |zero=>cases e;simp [Q3j]
  |succ j=>
   have:=ih (j:=j) (by simpa using e);rw [List.take_succ_cons,List.take_succ_cons,Q3j,Q3j,this];omega
omit g in
theorem Q9a {rs:List (List Nat×Bool)}:∀ {j:Nat},Q3j (rs.take j)<=Q3j rs:=by
 induction rs with
 |nil=>simp
 |cons a rs ih=>
  intro j;cases j with
  |zero=>exact Nat.zero_le _
  |succ j=>rw [List.take_succ_cons,Q3j,Q3j];exact Nat.add_le_add_left ih _
structure RsOK (X:Cx) (rs:List (List Nat×Bool)):Prop where
 ls:∀ r∈rs,1<=r.1.length/\∀ i∈r.1,i<X.Ls.length
 sum:Q3j rs<=3
omit g in
theorem RsOK.len3 {rs:List (List Nat×Bool)} (hr:X.RsOK rs) {j:Nat} {r:List Nat×Bool} (e:rs[j]? = some r):r.1.length<=3:=by
 have:=Q6u e;have:=Q9a (rs:=rs) (j:=j+1);have:=hr.sum;omega
omit g in
theorem RsOK.n3:∀ {rs:List (List Nat×Bool)},X.RsOK rs->rs.length<=Q3j rs
 |[],_=>QpW _
 |a::rs,hr=>by
  have:=hr.ls a (.head _);have ih:=RsOK.n3 (rs:=rs) ⟨fun r h=>hr.ls r (.tail _ h),by have:=hr.sum;rw [Q3j] at this;omega⟩;rw [Qq7,Q3j];omega
end Cx
theorem MT {us:List U} {u v:U} (h:v∈DB us u):v∈us\/v=u/\0<u.2.2.2.1:=by
 grind [DB]
theorem Q2L {us:List U} {u v:U} (h:v∈us):v∈DB us u:=by
 grind [DB,List.mem_append_left]
theorem Qbb {us:List U} {u:U} (h:0<u.2.2.2.1):u∈DB us u:=by
 grind [DB]
structure CovI (t:Nat) (lo hi:Int) (us:List U):Prop where
 le:lo<=hi
 nn:0<=hi
 bd:∀ u∈us,u.2.1=t->u.2.2.1<=hi/\lo<=u.2.2.1+u.2.2.2.1
 cv:∀ s,lo<=s->s<hi->∃ u∈us,u.2.1=t/\u.2.2.1<=s/\s<u.2.2.1+u.2.2.2.1
theorem CovI.other {t:Nat} {lo hi:Int} {us:List U} (h:CovI t lo hi us) {u:U} (hu:u.2.1≠t):CovI t lo hi (DB us u) where
 le:=h.le
 nn:=h.nn
 bd:=fun v hv e=>by
  rcases MT hv with hv | ⟨rfl,_⟩
  ·exact h.bd v hv e
  ·exact absurd e hu
 cv:=fun s a b=>by
  obtain ⟨v,hv,r⟩:=h.cv s a b;exact ⟨v,Q2L hv,r⟩
theorem CovI.mid {t:Nat} {lo hi:Int} {us:List U} (h:CovI t lo hi us) {u:U} (a:u.2.2.1<=hi) (h2:lo<=u.2.2.1+u.2.2.2.1):CovI t lo hi (DB us u) where
 le:=h.le
 nn:=h.nn
 bd:=fun v hv e=>by
  rcases MT hv with hv | ⟨rfl,_⟩
  ·exact h.bd v hv e
  ·exact ⟨a,h2⟩
 cv:=fun s b a=>by
  obtain ⟨v,hv,r⟩:=h.cv s b a;exact ⟨v,Q2L hv,r⟩
theorem CovI.post {t:Nat} {lo hi ac:Int} {us:List U} (h:CovI t lo hi us) {u:U} (ht:u.2.1=t) (c:u.2.2.1=hi) (h2:u.2.2.2.1=ac-hi) (a:hi<=ac):CovI t lo ac (DB us u) where
 le:=Int.le_trans h.le a
 nn:=Int.le_trans h.nn a
 bd:=fun v hv e=>by
  have:=h.le;rcases MT hv with hv | ⟨rfl,_⟩
  ·have:=h.bd v hv e;omega
  ·omega
 cv:=fun s b hs=>by
  by_cases hc:s<hi
  ·obtain ⟨v,hv,r⟩:=h.cv s b hc;exact ⟨v,Q2L hv,r⟩
  ·exact ⟨u,Qbb Q0,ht,Q0,Q0⟩
theorem CovI.any {t:Nat} {lo hi:Int} {us:List U} (h:CovI t lo hi us) {u v:U} (hu:u∈us) (hv:v∈us) (tu:u.2.1=t) (tv:v.2.1=t) {s:Int} (c:u.2.2.1<=s) (h2:s<v.2.2.1+v.2.2.2.1):∃ w∈us,w.2.1=t/\w.2.2.1<=s/\s<w.2.2.1+w.2.2.2.1:=by
 have bu:=h.bd u hu tu;have bv:=h.bd v hv tv;by_cases a:s<lo
 ·grind
 ·by_cases b:s<hi
  ·exact h.cv s Q0 b
  grind
namespace Cx
variable {X:Cx} {per:Int} {Ch Sy A:LL} {tl:List Int}
theorem QbI {train:Nat} {laps a:Int} {P:U->Prop} {l:List Occ} (hl:∀ q∈l,P (q.1.toNat,train,a+q.2.1,q.2.2-q.2.1,laps)):∀ {us:List U},(∀ u∈us,P u)->∀ u∈occU train laps a us l,P u:=by
 induction l with
 |nil=>exact fun h=>h
 |cons o l ih=>
  intro us h;refine ih (fun q hq=>hl q (.tail _ hq)) fun u hu=>?_
  rcases MT hu with hu | ⟨rfl,_⟩
  all_goals grind
variable (g:X.Gd per Ch Sy A tl)
include g
structure UsOK (X:Cx) (n:Nat) (us:List U):Prop where
 lt:∀ u∈us,u.2.1<n
 cv:∀ t,t<n->∃ lo hi,CovI t lo hi us
 se:∀ t,t<n->∃ u∈us,u.2.1=t/\u.1<X.G.Se.length/\0<u.2.2.1+u.2.2.2.1
end Cx
def Qh6 (Se:LL) (u:U):Prop:=∃ (nm:List UInt8) (a b c st:Int),Qi Se (u.1:Int)=some [D.str nm,Ql a,Ql b,Ql c,Ql st]/\0<=st/\u.1<6/\2<=a
def Qfk (u:U):Prop := -9000000<=u.2.2.1/\u.2.2.1<=9000000/\0<u.2.2.2.1/\u.2.2.2.1<=1000000
theorem Qai {G:Geo} {s:LL} {x d:Int} {j:Nat} (hx:Sta G x) (e:s[j]? = some [Ql x,Ql d]):∃ (nm:List UInt8) (a b c st:Int),Qi G.Se (sec s j:Int)=some [D.str nm,Ql a,Ql b,Ql c,Ql st]/\0<=st/\sec s j<6/\2<=a:=by
 obtain ⟨nm,a,b,c,st,f,h2⟩:=hx;have ac:=(Hq f).1;have g:0<=x:=by
  unfold inB at ac;by_cases hc:0<=x
  ·exact hc
  ·rw [QpM hc,Bool.false_and] at ac;cases ac
 have aj:((sec s j:Nat):Int)=x:=by
  unfold sec;rw [QpL,e];show (x.toNat:Int)=x;omega
 rw [aj];exact ⟨nm,a,b,c,st,f,h2.1,Q0,h2.2.2⟩
namespace Cx
variable {X:Cx}
theorem Qcn (h:X.OK) {i k:Nat} (hi:i<X.Ls.length) (hk:k<X.nr i):(∃ (nm:List UInt8) (a b c st:Int),Qi X.G.Se (sec (X.st i k) 0:Int)=some [D.str nm,Ql a,Ql b,Ql c,Ql st]/\0<=st/\sec (X.st i k) 0<6/\2<=a)/\∃ (nm:List UInt8) (a b c st:Int),Qi X.G.Se (sec (X.st i k) ((X.st i k).length-1):Int)=some [D.str nm,Ql a,Ql b,Ql c,Ql st]/\0<=st/\sec (X.st i k) ((X.st i k).length-1)<6/\2<=a:=by
 obtain ⟨w,rides,g,h2,o,j⟩:=h.gd.ls i _ (QpJ hi);have e:X.Ls[i]? = some [D.str (nmN i),Ql 0,Ql w,D.sl 4 rides]:=by rw [QpJ hi,g]
 have er:GI X.Ls i=rides:=by unfold GI;rw [e]
 have hr:∃ r x y b,rides[k]? = some r/\Py X.G X.Ro r x y b:=by
  unfold nr at hk;rw [er] at hk;rcases j with ⟨r,x,y,rfl,h⟩ | ⟨r,r',x,y,z,rfl,h,h'⟩
  ·obtain rfl:k=0:=by simpa using hk
   exact ⟨r,x,y,_,rfl,h⟩
  ·obtain rfl | rfl:k=0\/k=1:=by simp at hk;omega
   ·exact ⟨r,x,y,_,rfl,h⟩
   ·exact ⟨r',y,z,_,rfl,h'⟩
 obtain ⟨r,x,y,b,hr,rt,ex,mn,mx,s,rfl,l,d,p,q,t⟩:=hr;have eg:(GI X.Ls i).getD k []=[Ql rt,Ql ex,Ql mn,Ql mx]:=by rw [er,QpL,hr];rfl
 have m:rF X.Ls i k 0=rt:=by unfold rF;rw [eg];rfl
 have es:X.st i k=s:=by unfold st QhT;rw [m,QpF,l]
 rw [es];have l2:=d.l2;obtain ⟨d0,n⟩:=d.fst;obtain ⟨d1,f⟩:=d.lst;rw [show (s.length:Int)-1=((s.length-1:Nat):Int) by omega,Qq] at f;exact ⟨Qai d.sx n,Qai d.sy f⟩
variable {per:Int} {Ch Sy A:LL} {tl:List Int}
theorem Q64 {P:U->Prop} {mv c:Bool} {idx train:Nat} {laps:Int} {i k:Nat} {s:Int×List U} (a:∀ u∈s.2,P u) (b:c=false/\idx=0/\k=0->P (sec (X.st i k) 0,train,s.1-60,60,laps)) (h2:mv=true->∀ q∈X.stair i k,P (q.1.toNat,train,s.1+q.2.1,q.2.2-q.2.1,laps)) (d:0<X.endV per tl i k s.1-s.1-X.run i k->P (sec (X.st i k) ((X.st i k).length-1),train,s.1+X.run i k,X.endV per tl i k s.1-s.1-X.run i k,laps)):∀ u∈(X.stM per tl mv c idx train laps i k s).2,P u:=by
 unfold stM;intro u hu;rcases MT hu with hu | ⟨rfl,hl⟩
 ·have hf:∀ u∈(if c=false/\idx=0/\k=0 then DB s.2 (sec (X.st i k) 0,train,s.1-60,60,laps) else s.2),P u:=by
   split
   ·intro u hu;rcases MT hu with hu | ⟨rfl,_⟩
    ·exact a u hu
    ·exact b (by assumption)
   ·exact a
  cases mv with
  |false=>exact hf u hu
  |true=>exact QbI (h2 rfl) hf u hu
 ·exact d hl
variable (g:X.Gd per Ch Sy A tl)
include g
theorem Gd.stM_okN {mv c:Bool} {idx train:Nat} {laps:Int} {i k:Nat} (hi:i<X.Ls.length) (hk:k<X.nr i) {s:Int×List U} (s0 : -5500000<=s.1) (s1:s.1<=5500000) (h:∀ u∈s.2,Qfk u):∀ u∈(X.stM per tl mv c idx train laps i k s).2,Qfk u:=by
 have he:=g.endV_rng hi hk (a:=s.1);have hr:=S7 g.ok hi hk;refine Q64 h (fun _=>⟨by dsimp only;omega,by dsimp only;omega,by dsimp only;omega,by dsimp only;omega⟩) (fun _ q hq=>?_) fun hl=>⟨by dsimp only;omega,by dsimp only;omega,hl,by dsimp only;omega⟩
 have:=(EL g.ok hi hk).1.mem q hq;exact ⟨by dsimp only;omega,by dsimp only;omega,by dsimp only;omega,by dsimp only;omega⟩
theorem Gd.rideM_all {P:U->Prop} {mv c:Bool} {idx train:Nat} {laps:Int} {i:Nat} (hi:i<X.Ls.length) (H:∀ (k:Nat) (s:Int×List U),k<X.nr i -> -5500000<=s.1->s.1<=5500000->(∀ u∈s.2,P u)->∀ u∈(X.stM per tl mv c idx train laps i k s).2,P u) {s:Int×List U} (s0 : -5000000<=s.1) (s1:s.1<=5000000) (hs:∀ u∈s.2,P u):∀ {k:Nat},k<=X.nr i->∀ u∈(X.rideM per tl mv c idx train laps i s k).2,P u
 |0,_=>hs
 |k+1,hk=>by
  have hn:=(JM g.ok hi).2.1;have ih:=Gd.rideM_all hi H s0 s1 hs (k:=k) Q0;have hb:=g.rideM_rng (mv:=mv) (c:=c) (idx:=idx) (train:=train) (laps:=laps) hi (s:=s) (k:=k) Q0;rw [rideM];exact H k _ Q0 Q0 Q0 ih
theorem Gd.lineM_all {P:U->Prop} {mv c:Bool} {train:Nat} {laps:Int} {ls:List Nat} (ac:∀ i∈ls,i<X.Ls.length) (aj:ls.length<=3) (H:∀ (idx i k:Nat) (s:Int×List U),i<X.Ls.length->k<X.nr i -> -5500000<=s.1->s.1<=5500000->(∀ u∈s.2,P u)->∀ u∈(X.stM per tl mv c idx train laps i k s).2,P u) {s:Int×List U} (s0:0<=s.1) (s1:s.1<=300) (hs:∀ u∈s.2,P u):∀ {j:Nat},j<=ls.length->∀ u∈(X.lineM per tl mv c train laps ls s j).2,P u
 |0,_=>hs
 |j+1,hj=>by
  have e:=QpJ (l:=ls) (i:=j) Q0;have hi:=ac _ (QpH e);have hd:ls.getD j 0=ls[j]:=by rw [QpL,e];rfl
  have hb:=g.lineM_rng (mv:=mv) (c:=c) (train:=train) (laps:=laps) ac (s:=s) (j:=j) Q0;have ih:=Gd.lineM_all ac aj H s0 s1 hs (j:=j) Q0;rw [lineM,hd];exact g.rideM_all hi (fun k s hk=>H j _ k s hi hk) Q0 Q0 ih (QpW _)
theorem Gd.usesM_all {P:U->Prop} {mv:Bool} {rs:List (List Nat×Bool)} (hr:X.RsOK rs) (H:∀ (c:Bool) (train:Nat) (laps:Int) (idx i k:Nat) (s:Int×List U),i<X.Ls.length->k<X.nr i -> -5500000<=s.1->s.1<=5500000->(∀ u∈s.2,P u)->∀ u∈(X.stM per tl mv c idx train laps i k s).2,P u):∀ {j:Nat},j<=rs.length->∀ u∈X.usesM per tl mv rs j,P u
 |0,_=>fun u hu=>(by nomatch hu)
 |j+1,hj=>by
  have e:=QpJ (l:=rs) (i:=j) Q0;have hd:rs.getD j ([],false)=rs[j]:=by rw [QpL,e];rfl
  have ac:=hr.ls _ (QpH e);have a:=QpJ (l:=rs[j].1) (i:=0) Q0;have b:=ac.2 _ (QpH a);have d:rs[j].1.getD 0 0=rs[j].1[0]:=by rw [QpL,a];rfl
  have f:=Ya g.ok (i:=rs[j].1[0]) Q0;have aj:=QcU g.ok b (k:=0) (by have:=(JM g.ok b).2.1;omega);have ht:=g.tat (i:=((2*base X.nr rs[j].1[0]:Nat):Int)) Q0 Q0;have p1:=g.p1;rw [usesM,hd];unfold trainM;rw [d];exact g.lineM_all ac.2 (hr.len3 e) (fun idx i k s=>H _ _ _ idx i k s) (by dsimp only;omega) (by dsimp only;omega) (Gd.usesM_all hr H Q0) (QpW _)
theorem Gd.usesM_okN {mv:Bool} {rs:List (List Nat×Bool)} (hr:X.RsOK rs):∀ u∈X.usesM per tl mv rs rs.length,Qfk u:=g.usesM_all hr (fun c train laps idx i k s hi hk s0 s1 h=>g.stM_okN hi hk s0 s1 h) (QpW _)
theorem Gd.usesM_okS {rs:List (List Nat×Bool)} (hr:X.RsOK rs):∀ u∈X.usesM per tl false rs rs.length,Qh6 X.G.Se u:=g.usesM_all (P:=Qh6 X.G.Se) (mv:=false) hr (fun c train laps idx i k s hi hk s0 s1 h=>Q64 h (fun _=>(Qcn g.ok hi hk).1) (fun e=>absurd e Bool.false_ne_true) fun _=>(Qcn g.ok hi hk).2) (QpW _)
end Cx
end Go.Vx
namespace Go.Vx
variable {R:Type} (n:Nat)
def X2 (d:Int) (e:LL) (b f g:Int) (k0:Qkn R):Qkm R
 | 0,_,_=>none
 | m+1,a,h=>bif decide (a<b) then QjS R e a fun j i k=>QjE R j i fun l o=>QjE R k i fun p q=>Qc R (Qs n l (wJ (d+o)) (wJ (p-q)) h f g some) fun r=>X2 d e b f g k0 m (wJ (a+1)) r else k0 a (decide (a<b)) h
def QG (ai c:Int) (aj:LL) (s h:Int) (ak:Bool) (i:Int) (t u v x y:D) (d z aa ab ac al o p:LL) (e:Int) (f g:LL) (ad:Bool) (q:LL) (r:Int) (k0:QkD R):Qkz R
 | 0,_,_,_=>none
 | m+1,a,b,am=>bif decide (b<s) then QjI R aj b fun an bo=>Qc R an[1]? fun dt=>Qkb R an (Qkg R bo al fun j ae=>Qb R (wJ (b+1)) fun k=>bif Q9 (Q9 (!ak) (ai==0)) (b==0) then Qc R (pSl 2 j) fun bq=>QjF R bq 0 fun bu=>Qc R (Qs n bu (wJ (a-60)) 60 am h i some) fun aq=>QjU R j ae fun bv bx=>Qc R (NB t) fun bz=>Qk4 R u v x y fun ca cb cc ce=>Qc R (Jt n z aa ab ac bv bx bz ca cb cc ce Tu3) fun ag=>bif ad then X2 n a ag.1 (ag.1.length:Int) h i (fun dx dy cf=>Qc R (XG n e f g d c b some) fun ar=>jn (fun (au av:Int)=>(Qc R (pSl 2 j) fun cg=>QjU R j ae fun ch ci=>QjF R cg (wJ (wJ ((ch.length:Int)-ci)-1)) fun cm=>Qc R (Qs n cm (wJ (a+au)) (wJ (wJ (av-a)-au)) cf h i some) fun cn=>QG ai c aj s h ak i t u v x y d z aa ab ac al o p e f g ad q r k0 m av k cn:oP R)) fun aw=>gb true (Xj n o p e f g q d r c b Tu2) (0,false) fun ax=>bif ax.2 then aw ag.2.1 (wJ (wJ (a+ar)+ax.1)) else aw ag.2.1 (wJ (wJ (a+ar)+60))) n 0 aq else Qc R (XG n e f g d c b some) fun ay=>jn (fun (az ba:Int)=>(Qc R (pSl 2 j) fun co=>QjU R j ae fun cp cq=>QjF R co (wJ (wJ ((cp.length:Int)-cq)-1)) fun ct=>Qc R (Qs n ct (wJ (a+az)) (wJ (wJ (ba-a)-az)) aq h i some) fun cu=>QG ai c aj s h ak i t u v x y d z aa ab ac al o p e f g ad q r k0 m ba k cu:oP R)) fun bb=>gb true (Xj n o p e f g q d r c b Tu2) (0,false) fun bc=>bif bc.2 then bb ag.2.1 (wJ (wJ (a+ay)+bc.1)) else bb ag.2.1 (wJ (wJ (a+ay)+60)) else QjU R j ae fun cv cw=>Qc R (NB t) fun cx=>Qk4 R u v x y fun cy cz da db=>Qc R (Jt n z aa ab ac cv cw cx cy cz da db Tu3) fun ah=>Qb R ah.2.1 fun l=>bif ad then X2 n a ah.1 (ah.1.length:Int) h i (fun dz ea dc=>Qc R (XG n e f g d c b some) fun bd=>jn (fun (be bg:Int)=>(Qc R (pSl 2 j) fun dd=>QjU R j ae fun de df=>QjF R dd (wJ (wJ ((de.length:Int)-df)-1)) fun di=>Qc R (Qs n di (wJ (a+be)) (wJ (wJ (bg-a)-be)) dc h i some) fun dj=>QG ai c aj s h ak i t u v x y d z aa ab ac al o p e f g ad q r k0 m bg k dj:oP R)) fun bh=>gb true (Xj n o p e f g q d r c b Tu2) (0,false) fun bi=>bif bi.2 then bh l (wJ (wJ (a+bd)+bi.1)) else bh l (wJ (wJ (a+bd)+60))) n 0 am else Qc R (XG n e f g d c b some) fun bj=>jn (fun (bk bl:Int)=>(Qc R (pSl 2 j) fun dk=>QjU R j ae fun dl dn=>QjF R dk (wJ (wJ ((dl.length:Int)-dn)-1)) fun dr=>Qc R (Qs n dr (wJ (a+bk)) (wJ (wJ (bl-a)-bk)) am h i some) fun ds=>QG ai c aj s h ak i t u v x y d z aa ab ac al o p e f g ad q r k0 m bl k ds:oP R)) fun bm=>gb true (Xj n o p e f g q d r c b Tu2) (0,false) fun bn=>bif bn.2 then bm l (wJ (wJ (a+bj)+bn.1)) else bm l (wJ (wJ (a+bj)+60))) else k0 a b (decide (b<s)) am
def XM (f:LL) (d g:Int) (h:Bool) (i:Int) (j k l o p q r c s:LL) (t:Int) (u v:LL) (x:Bool) (y:LL) (z:Int) (k0:QkD R):Qkz R
 | 0,_,_,_=>none
 | m+1,aa,a,ab=>bif decide (a<d) then QjF R f a fun e=>QjN R c e fun ai=>QjG R q ai fun b aj ak al=>QjQ R b fun am an=>QjO R c e fun ac=>QG n a e ac (ac.length:Int) g h i aj ak al am an j k l o p r c s t u v x y z (fun aq au av ar=>XM f d g h i j k l o p q r c s t u v x y z k0 m aq (wJ (a+1)) ar) n aa 0 ab else k0 aa a (decide (a<d)) ab
def ZD (l m o p q r d e:LL) (f:Int) (g c:LL) (s:Bool) (h a:LL) (i:Int) (t:LL) (a1:Int) (b:LL) (j:Bool) (K:Qkr R):oP R:=Qc R (Wf n d e f g c h a i b j some) fun u=>QjF R b 0 fun k=>QjL R a.length k a k.toNat fun z=>QjF R c (wJ (2*z)) fun ac=>XM n b (b.length:Int) a1 j u a l m o p q r d e f g c s h i (fun ag ah ai ad=>K ad) n ac 0 t
def Yc (n:Nat) (f:LL) (d:Int) (k0:QkD R):Qkz R
 | 0,_,_,_=>none
 | m+1,b,a,e=>bif decide (a<d) then QjY R f a fun g=>Qc R (Yn ((e.length+[[Ql b]].length)*8)) fun l=>Qc R (pSl 4 g) fun h=>Yc n f d k0 m (wJ (b+(h.length:Int))) (wJ (a+1)) (e++[[Ql b]]) else k0 b a (decide (a<d)) e
def XS (c:LL) (b:Int) (d e f g h i j k:LL) (l:Int) (o p:LL) (q:Bool) (r:LL) (s:Int) (t:LL) (k0:Qkn R):Qkm R
 | 0,_,_=>none
 | m+1,a,u=>bif decide (a<b) then QjR R c a fun x y=>Qc R (pSl 1 x) fun z=>Qc R (Gp y) fun aa=>Qc R (ZD n d e f g h i j k l o p q r t s u a z aa some) fun ab=>XS c b d e f g h i j k l o p q r s t k0 m (wJ (a+1)) ab else k0 a (decide (a<b)) u
def G7 (f g h i:LL) (o:Int) (j k b l c p q a2:LL) (r:Bool) (K:Qks R):oP R:=gb true (Kw n f g h i o j k b l c p q Tu4) (0,[],[],0) fun a=>bif a.2.2.2 !=0 then K [] a.2.2.2 else Qc R (Gy n a.1 a.2.1 a.2.2.1 a2 some) fun d=>bif !d then K [] 1 else Qc R (ZL n b c some) fun e=>Yc n b (b.length:Int) (fun t x y u=>Qc R (Xq n b c some) fun m=>XS n m (m.length:Int) f g h i j k b l a.1 a.2.2.1 a2 r e t u (fun z aa v=>K v 0) n 0 []) n 0 0 []
end Go.Vx
namespace Go.Vx
theorem Qb0 {R:Type} {n res train:Nat} {us:List U} (hl:us.length<=1000) {fr len laps:Int} (K:LL->oP R):Qs n (res:Int) fr len (us.map Fd) (train:Int) laps K=K ((DB us (res,train,fr,len,laps)).map Fd):=by
 unfold Qs DB;by_cases h:0<len
 ·rw [show decide (len>0)=true from QpY h,QpG,Qqf h,XJ Q3,Qh,QpN];rfl
 ·rw [show decide (len>0)=false from QpM h,QpE,Qqd h]
theorem Qjc {R:Type} {n train:Nat} {us:List U} (hl:us.length<=1000) {x fr len laps:Int} (hx:0<=x) (K:LL->oP R):Qs n x fr len (us.map Fd) (train:Int) laps K=K ((DB us (x.toNat,train,fr,len,laps)).map Fd):=by
 obtain ⟨m,rfl⟩:=Qqg hx;exact Qb0 hl K
theorem Qg6 {R:Type} {train:Nat} {laps a:Int} (a0 : -6000000<=a) (a1:a<=6000000) {l:List Occ} (hl:∀ q∈l,0<=q.1 /\ -1000<=q.2.1/\q.2.1<q.2.2/\q.2.2<=20000) {us:List U} (hu:us.length<=600) (b:l.length<=6) {K:LL->oP R} :
  X2 400 a (l.map enc) (((l.map enc).length:Nat):Int) (train:Int) laps (fun _ _ w=>K w) 400 0 (us.map Fd)=K ((Cx.occU train laps a us l).map Fd):=by
 have go:∀ (ac:List Occ) (i m:Nat) (us:List U),l.drop i=ac->ac.length<m->us.length+ac.length<=700->X2 400 a (l.map enc) (((l.map enc).length:Nat):Int) (train:Int) laps (fun _ _ w=>K w) m (i:Int) (us.map Fd)=K ((Cx.occU train laps a us ac).map Fd):=by
  intro ac;induction ac with
  |nil=>
   intro i m us hd hm aj;obtain ⟨m,rfl⟩:∃ k,m=k+1:=⟨m-1,by simp at hm;omega⟩;have:=Ul hd;rw [X2,QpK,show decide ((i:Int)<(l.length:Int))=false by simpa using this,QpE];rfl
  |cons q ac ih=>
   intro i m us hd hm aj;obtain ⟨m,rfl⟩:∃ k,m=k+1:=⟨m-1,by simp at hm;omega⟩;obtain ⟨e,an,ak⟩:=Ys hd;have hq:=hl q (QpH e);have eq:Qi (l.map enc) (i:Int)=some [Ql q.1,Ql q.2.1,Ql q.2.2]:=by rw [Qq,QpR,e];rfl
   have aq:=RN (us:=us) (u:=(q.1.toNat,train,a+q.2.1,q.2.2-q.2.1,laps));rw [Qq7] at hm aj;rw [X2,QpK,Qp ak,QpG,eq];simp -implicitDefEqProofs only [Qh,QpD,QpI,Qj,Qn (x:=a+q.2.1) Q0 Q0,Qn (x:=q.2.2-q.2.1) Q0 Q0,QC (show i<=1000 by omega)];rw [Qjc Q0 hq.1,Qh,<- QpK (f:=enc)];exact ih (i+1) m _ an Q0 Q0
 exact go l 0 400 us rfl Q0 Q0
namespace Cx
variable {X:Cx} {per:Int} {Ch Sy A:LL} {tl:List Int}
variable (g:X.Gd per Ch Sy A tl)
include g
variable {R:Type}
theorem Gd.ridesM {mv c:Bool} {idx train:Nat} {laps:Int} {i:Nat} (hi:i<X.Ls.length) {s:Int×List U} (s0 : -5000000<=s.1) (s1:s.1<=5000000) (sl:s.2.length<=500) (aw:idx<=100) {k0:Int->Int->Bool->LL->oP R} :
  QG 400 (idx:Int) (i:Int) (GI X.Ls i) ((X.nr i:Nat):Int) (train:Int) c laps (D.str X.nm) (Ql X.tl) (Ql X.sp) (Ql X.ac) (Ql X.br) (X.fst X.L) X.G.St X.G.Pt X.G.Se X.G.Li X.Ro X.Ls Ch per A (encI tl) mv (encI ((List.range X.L).map (tix X.T))) (X.N:Int) k0 400 s.1 0 (s.2.map Fd)=k0 (X.rideM per tl mv c idx train laps i s (X.nr i)).1 ((X.nr i:Nat):Int) false ((X.rideM per tl mv c idx train laps i s (X.nr i)).2.map Fd):=by
 have hn:=(JM g.ok hi).2.1;refine QD (r:=fun m k=>QG 400 (idx:Int) (i:Int) (GI X.Ls i) ((X.nr i:Nat):Int) (train:Int) c laps (D.str X.nm) (Ql X.tl) (Ql X.sp) (Ql X.ac) (Ql X.br) (X.fst X.L) X.G.St X.G.Pt X.G.Se X.G.Li X.Ro X.Ls Ch per A (encI tl) mv (encI ((List.range X.L).map (tix X.T))) (X.N:Int) k0 m (X.rideM per tl mv c idx train laps i s k.toNat).1 k ((X.rideM per tl mv c idx train laps i s k.toNat).2.map Fd)) (N:=X.nr i) (fun m k hk=>?_) (fun m=>?_) (X.nr i) 400 0 Q0 Q0
 ·simp only [QpF];have r:=rd g.ok hi hk;have hr:=S7 g.ok hi hk;have l2:=r.rt.l2;have l24:=r.rt.l24;have hb:=g.rideM_rng (mv:=mv) (c:=c) (idx:=idx) (train:=train) (laps:=laps) hi (s:=s) (k:=k) Q0;have f:=g.runV_rng hi hk;have h2:=g.gapV_rng hi hk;obtain ⟨d0,_,_,_,_,_,h,_⟩:=Q9g r.rt (j:=0) Q0;obtain ⟨d1,_,_,_,_,_,e1,_⟩:=Q9g r.rt (j:=(X.st i k).length-1) Q0;have ar:Qi (GI X.Ls i) (k:Int)=some [Ql (rF X.Ls i k 0),Ql (X.ex i k),Ql (X.mn i k),Ql (X.mx i k)]:=by rw [Qq,r.row]
  have n:Qi (X.st i k) 0=some [Ql (sec (X.st i k) 0:Int),Ql d0]:=h;have p:Qi (X.st i k) (((X.st i k).length-1:Nat):Int)=some [Ql (sec (X.st i k) ((X.st i k).length-1):Int),Ql d1]:=by rw [Qq,e1]
  have hw:wJ (wJ ((((X.st i k).length:Nat):Int)-0)-1)=(((X.st i k).length-1:Nat):Int):=by rw [Qn (x:=(((X.st i k).length:Nat):Int)-0) Q0 Q0,Qn Q0 Q0];omega
  rw [rideM];generalize X.rideM per tl mv c idx train laps i s k=q at hb ⊢;have he:=g.endV_rng hi hk (a:=q.1);have aj:(X.gapV per tl i k).2=true->wJ (wJ (q.1+X.runV per tl i k)+(X.gapV per tl i k).1)=X.endV per tl i k q.1:=fun hg=>by
   unfold endV;rw [Qn (x:=q.1+X.runV per tl i k) Q0 Q0,Qqf hg,Qn Q0 Q0]
  have ak:(X.gapV per tl i k).2=false->wJ (wJ (q.1+X.runV per tl i k)+60)=X.endV per tl i k q.1:=fun hg=>by
   unfold endV;rw [Qn (x:=q.1+X.runV per tl i k) Q0 Q0,hg,Qqd Bool.false_ne_true,Qn Q0 Q0]
  rw [QG,Qp hk,QpG,ar];simp -implicitDefEqProofs only [jn,Qh,QpD,QpI,Qj,QN,XO,r.ro,Qfx g.ok hi hk,g.runP hi hk,g.gapP hi hk,QpE,hw,n,p,QC (show k<=1000 by omega),Qn (x:=q.1-60) Q0 Q0];have fb:(bif (bif (bif !c then ((idx:Int) == 0) else false) then ((k:Int) == 0) else false) then true else false)=decide (c=false/\idx=0/\k=0):=by
   cases c
   ·by_cases f:idx=0
    ·by_cases h2:k=0
     ·subst f h2;rfl
     ·rw [show ((k:Int) == 0)=false by simp;omega,QpM (by simp [h2])];cases (bif !false then ((idx:Int) == 0) else false) <;> rfl
    ·rw [show ((idx:Int) == 0)=false by simp;omega,QpM (by simp [f])];rfl
   ·rw [QpM Q2];rfl
  have au:(bif (bif !c then ((idx:Int) == 0) else false) then ((k:Int) == 0) else false)=decide (c=false/\idx=0/\k=0):=by
   rw [<- fb];cases (bif (bif !c then ((idx:Int) == 0) else false) then ((k:Int) == 0) else false) <;> rfl
  rw [au];unfold stM;have b:=Qn (x:=q.1+X.run i k) Q0 Q0;have d:=Qn (x:=X.endV per tl i k q.1-q.1) Q0 Q0;have e:=Qn (x:=X.endV per tl i k q.1-q.1-X.run i k) Q0 Q0;have ho:=EL g.ok hi hk;have hx:=(Q9Y g.ok hi hk).1;have ao:∀ o∈X.stair i k,0<=o.1 /\ -1000<=o.2.1/\o.2.1<o.2.2/\o.2.2<=20000:=fun o aq=>by
   have f:=ho.1.mem o aq;have h2:=hx o aq;exact ⟨h2.1,f.2.1,h2.2.1,f.2.2.2.1⟩
  by_cases hf:c=false/\idx=0/\k=0
  ·have t:=RN (us:=q.2) (u:=(sec (X.st i k) 0,train,q.1-60,60,laps));rw [QpY hf,QpG,Qqf hf,Qb0 Q0,Qh];generalize DB q.2 (sec (X.st i k) 0,train,q.1-60,60,laps)=us at t ⊢;have v:=Bm (train:=train) (laps:=laps) (a:=q.1) (l:=X.stair i k) (us:=us);cases mv
   ·simp -implicitDefEqProofs only [QpE];cases hg:(X.gapV per tl i k).2
    ·rw [QpE,ak hg,b,d,e,Qb0 Q0,Qh]
    ·rw [QpG,aj hg,b,d,e,Qb0 Q0,Qh]
   ·simp -implicitDefEqProofs only [QpG];rw [Qg6 Q0 Q0 ao Q0 ho.2];cases hg:(X.gapV per tl i k).2
    ·rw [QpE,ak hg,b,d,e,Qb0 Q0,Qh]
    ·rw [QpG,aj hg,b,d,e,Qb0 Q0,Qh]
  ·rw [QpM hf,QpE,Qqd hf];have v:=Bm (train:=train) (laps:=laps) (a:=q.1) (l:=X.stair i k) (us:=q.2);cases mv
   ·simp -implicitDefEqProofs only [QpE];cases hg:(X.gapV per tl i k).2
    ·rw [QpE,ak hg,b,d,e,Qb0 Q0,Qh]
    ·rw [QpG,aj hg,b,d,e,Qb0 Q0,Qh]
   ·simp -implicitDefEqProofs only [QpG];rw [Qg6 Q0 Q0 ao Q0 ho.2];cases hg:(X.gapV per tl i k).2
    ·rw [QpE,ak hg,b,d,e,Qb0 Q0,Qh]
    ·rw [QpG,aj hg,b,d,e,Qb0 Q0,Qh]
 ·simp only [QpF];rw [QG,Qz,QpE]
theorem Gd.trainP {mv:Bool} {us:List U} (aq:us.length<=300) {train:Nat} {r:List Nat×Bool} (f:1<=r.1.length) (h:r.1.length<=3) (hr:∀ i∈r.1,i<X.Ls.length) (K:LL->oP R) :
  ZD 400 X.G.St X.G.Pt X.G.Se X.G.Li X.skR X.Ro X.Ls Ch per A (encI tl) mv (encI ((List.range X.L).map (tix X.T))) (X.fst X.L) (X.N:Int) (us.map Fd) (train:Int) (ES r.1) r.2 K=K ((X.trainM per tl mv us train r).map Fd):=by
 obtain ⟨ls,c⟩:=r;dsimp only at f h hr ⊢;have hN:X.N<=6:=base_le g.ok;have p1:=g.p1;have b:=QpJ (l:=ls) (i:=0) Q0;have d:=hr _ (QpH b);have o:ls.getD 0 0=ls[0]:=by rw [QpL,b];rfl
 have q:=Ya g.ok (i:=ls[0]) Q0;have ar:=QcU g.ok d (k:=0) (by have:=(JM g.ok d).2.1;omega);have ht:=g.tat (i:=((2*base X.nr ls[0]:Nat):Int)) Q0 Q0;have er:Qi (ES ls) 0=some [Ql (ls[0]:Int)]:=Mr (j:=0) b;have ef:=Q7C (X:=X) (i:=ls[0]) (L:=X.L) d;rw [Qq] at ef;have el:(X.fst X.L).length=X.Ls.length:=by simp [fst,encI,L]
 have aj:Qi X.skR 0=some [D.str X.nm,Ql X.tl,Ql X.sp,Ql X.ac,Ql X.br]:=rfl;unfold ZD trainM;rw [g.lapsP hr Q0,Qh,er];dsimp only;rw [o,show (ES ls).length=ls.length by simp [ES]];generalize X.lapsV per tl ls c=laps;simp -implicitDefEqProofs only [Qh,QpD,Qj,Yh (len:=(X.fst X.L).length) (n:=((ls[0]:Nat):Int)) Q0 Q0,QpF,ef,Sx (a:=base X.nr ls[0]) Q0,ht.1];refine QD (r:=fun m j=>XM 400 (ES ls) (ls.length:Int) (train:Int) c laps (X.fst X.L) X.G.St X.G.Pt X.G.Se X.G.Li X.skR X.Ro X.Ls Ch per A (encI tl) mv (encI ((List.range X.L).map (tix X.T))) (X.N:Int) (fun t u v p=>K p) m (X.lineM per tl mv c train laps ls (Vx.tat tl ((2*base X.nr ls[0]:Nat):Int),us) j.toNat).1 j ((X.lineM per tl mv c train laps ls (Vx.tat tl ((2*base X.nr ls[0]:Nat):Int),us) j.toNat).2.map Fd)) (N:=ls.length) (fun m j hj=>?_) (fun m=>?_) ls.length 400 0 Q0 Q0
 ·simp only [QpF];have e:=QpJ hj;have hi:=hr _ (QpH e);have hd:ls.getD j 0=ls[j]:=by rw [QpL,e];rfl
  have hb:=g.lineM_rng (mv:=mv) (c:=c) (train:=train) (laps:=laps) hr (s:=(Vx.tat tl ((2*base X.nr ls[0]:Nat):Int),us)) (j:=j) Q0;dsimp only at hb;rw [lineM,hd];rw [XM,Qp hj,QpG,Mr e];simp -implicitDefEqProofs only [Qh,QpD,QpI,Qj,QN,Qq,(JM g.ok hi).1,aj,QC (show j<=1000 by omega)];exact g.ridesM hi (s:=X.lineM per tl mv c train laps ls (Vx.tat tl ((2*base X.nr ls[0]:Nat):Int),us) j) Q0 Q0 Q0 Q0
 ·simp only [QpF];rw [XM,Qz,QpE]
theorem Gd.usesM_len {mv:Bool} {rs:List (List Nat×Bool)} (hr:X.RsOK rs):∀ {j:Nat},j<=rs.length->(X.usesM per tl mv rs j).length<=16*Q3j (rs.take j)
 |0,_=>Nat.zero_le _
 |j+1,hj=>by
  have ih:=Gd.usesM_len (mv:=mv) hr (j:=j) Q0;have e:=QpJ (l:=rs) (i:=j) Q0;have hd:rs.getD j ([],false)=rs[j]:=by rw [QpL,e];rfl
  have ac:=hr.ls _ (QpH e);have:=g.lineM_rng (mv:=mv) (c:=rs[j].2) (train:=j) (laps:=X.lapsV per tl rs[j].1 rs[j].2) ac.2 (s:=(Vx.tat tl ((2*base X.nr (rs[j].1.getD 0 0):Nat):Int),X.usesM per tl mv rs j)) (QpW rs[j].1.length);rw [usesM,hd,Q6u e];unfold trainM;dsimp only at this;omega
theorem Gd.usesP {mv:Bool} {rs:List (List Nat×Bool)} (hr:X.RsOK rs) (k0:LL->oP R):XS 400 (Q3h rs) (rs.length:Int) X.G.St X.G.Pt X.G.Se X.G.Li X.skR X.Ro X.Ls Ch per A (encI tl) mv (encI ((List.range X.L).map (tix X.T))) (X.N:Int) (X.fst X.L) (fun _ _ w=>k0 w) 400 0 []=k0 ((X.usesM per tl mv rs rs.length).map Fd):=by
 have n3:=hr.n3;have hs:=hr.sum;refine QD (r:=fun m j=>XS 400 (Q3h rs) (rs.length:Int) X.G.St X.G.Pt X.G.Se X.G.Li X.skR X.Ro X.Ls Ch per A (encI tl) mv (encI ((List.range X.L).map (tix X.T))) (X.N:Int) (X.fst X.L) (fun _ _ w=>k0 w) m j ((X.usesM per tl mv rs j.toNat).map Fd)) (N:=rs.length) (fun m j hj=>?_) (fun m=>?_) rs.length 400 0 Q0 Q0
 ·simp only [QpF];have e:=QpJ hj;have hd:rs.getD j ([],false)=rs[j]:=by rw [QpL,e];rfl
  have aj:=hr.ls _ (QpH e);have a:=hr.len3 e;have ak:=g.usesM_len (mv:=mv) hr (j:=j) Q0;have:=Q9a (rs:=rs) (j:=j);have ac:Qi (Q3h rs) (j:Int)=some [D.sl 1 (ES rs[j].1),D.bool rs[j].2]:=by rw [Qq];unfold Q3h;rw [QpR,e];rfl
  rw [XS,Qp hj,QpG,ac,usesM,hd];simp -implicitDefEqProofs only [Qh,QpD,QpI,QN,S6,g.trainP (show (X.usesM per tl mv rs j).length<=300 by omega) aj.1 a aj.2,QC (show j<=1000 by omega)]
 ·simp only [QpF];rw [XS,Qz,QpE]
end Cx
theorem P0.lt {X:Cx} {f k:Nat} {r:List D} (h:P0 X.Ls f k r):f<X.Ls.length/\k<X.nr f:=by
 obtain ⟨nm,w,rides,a,h2⟩:=h;refine ⟨(QpV.1 a).1,?_⟩;have e:GI X.Ls f=rides:=by unfold GI;rw [a]
 unfold Cx.nr;rw [e];exact (QpV.1 h2).1
theorem PlanR.lsOK {X:Cx} {per:Int} {Sk Ch Tu Sy De:LL} (h:PlanR X.G per Sk X.Ro X.Ls Ch Tu Sy De):X.LsOK per Ch Sy where
 ch:=fun row hr=>by
  obtain ⟨f,fr,t,tr,mn,mx,w,r,r',x,y,x',y',b,b',i,e,a,h2,g,j,k,c,d,_⟩:=h.ch row hr;exact ⟨f,fr,t,tr,mn,mx,w,e,a.lt.1,a.lt.2,h2.lt.1,h2.lt.2,c,d⟩
 chl:=h.chl
 sy:=fun row hr=>h.sy row hr
 syl:=h.syl
theorem Q9b {us:List U} {i:Nat} {u:U} (e:us[i]? = some u):Qi (us.map Fd) (i:Int)=some [Ql (u.1:Int),Ql (u.2.1:Int),Ql u.2.2.1,Ql u.2.2.2.1,Ql u.2.2.2.2]:=by
 rw [Qq,QpR,e];rfl
theorem Qbx {per:Int} {E A:LL} {w:List Int} (a:A.all (chk per E.length)=true) (h2:TG per E.length w):Q7Z per E A w=true:=by
 unfold Q7Z;rw [a,h2.1];simp only [QpT,QpE,bne_self_eq_false,Qqb,Bool.not_eq_true',Bool.cond_true_left,Bool.or_eq_false_iff,decide_eq_false_iff_not];intro x hx;have:=h2.2 x hx;omega
section
variable {n:Nat} {a0 a1 a2 a3:LL} {p:Int} {b1 b2 b3 b4 b5 b6 b7 t:LL}
theorem Qc6 {q m:Int} {E A rr tu fs us:LL} {mv:Bool} (hb:Kw n a0 a1 a2 a3 p b1 b2 b3 b4 b5 b6 b7 Tu4=some (q,E,A,0)) (hg:Gy n q E A t some=some true) (ht:ZL n b3 b5 some=some tu) (hf:∀ k0:Int->LL->oP (LL×Int),Yc n b3 (b3.length:Int) (fun a _ _ w=>k0 a w) n 0 0 []=k0 m fs) (hr:Xq n b3 b5 some=some rr)
  (hl:∀ k0:LL->oP (LL×Int),XS n rr (rr.length:Int) a0 a1 a2 a3 b1 b2 b3 b4 q A t mv tu m fs (fun _ _ w=>k0 w) n 0 []=k0 us):G7 n a0 a1 a2 a3 p b1 b2 b3 b4 b5 b6 b7 t mv Tu2=some (us,0):=by
 unfold G7;rw [hb];show (gb true (Gy n q E A t some) false fun h=>bif (!h) then some ([],(1:Int)) else gb true (ZL n b3 b5 some) [] fun i=>Yc n b3 ((List.length b3:Nat):Int) (fun c l o d=>gb true (Xq n b3 b5 some) [] fun b=>XS n b ((List.length b:Nat):Int) a0 a1 a2 a3 b1 b2 b3 b4 q A t mv i c d (fun j k e=>some (e,(0:Int))) n (0:Int) []) n (0:Int) (0:Int) [])=_;rw [hg,Qh,ht];show (Yc n b3 ((List.length b3:Nat):Int) (fun c l o d=>gb true (Xq n b3 b5 some) [] fun b=>XS n b ((List.length b:Nat):Int) a0 a1 a2 a3 b1 b2 b3 b4 q A t mv tu c d (fun j k e=>some (e,(0:Int))) n (0:Int) []) n (0:Int) (0:Int) [])=_;rw [hf (fun c d=>gb true (Xq n b3 b5 some) [] fun b=>XS n b ((List.length b:Nat):Int) a0 a1 a2 a3 b1 b2 b3 b4 q A t mv tu c d (fun j k e=>some (e,(0:Int))) n (0:Int) []),hr,Qh,hl (fun w=>some (w,(0:Int)))]
end
namespace Cx
variable {X:Cx} (h:X.OK) {per:Int} {Ch Sy De:LL} (hl:X.LsOK per Ch Sy) {R:Type}
include h
theorem firstsP (k0:Int->LL->oP R):Yc 400 X.Ls (X.Ls.length:Int) (fun a _ _ w=>k0 a w) 400 0 0 []=k0 (X.N:Int) (X.fst X.L):=by
 have l1:=h.l1;refine QD (r:=fun m i=>Yc 400 X.Ls (X.Ls.length:Int) (fun a _ _ w=>k0 a w) m ((base X.nr i.toNat:Nat):Int) i (X.fst i.toNat)) (N:=X.Ls.length) (fun m i hi=>?_) (fun m=>?_) X.Ls.length 400 0 Q0 Q0
 ·simp only [QpF];have hb:=Ya h (i:=i) Q0;have hn:=(JM h hi).2.1;have e2:X.fst i++[[D.int .i64 (base X.nr i:Int)]]=X.fst (i+1):=by simp [fst,encI,List.range_succ]
  have c:(X.fst i).length=i:=by simp [fst,encI]
  have ha:wJ (((base X.nr i:Nat):Int)+(((GI X.Ls i).length:Nat):Int))=((base X.nr (i+1):Nat):Int):=Q9A (a:=base X.nr i) (b:=X.nr i) Q0;rw [Yc,Qp hi,QpG,Qq,(JM h hi).1];simp -implicitDefEqProofs only [Qh,QpD,QpI,QN,QC (show i<=1000 by omega),e2,ha,XJ (show ((X.fst i).length+[[D.int .i64 (base X.nr i:Int)]].length)*8<=100000 by rw [c];simp;omega)]
 ·simp only [QpF];rw [Yc,Qz,QpE];rfl
end Cx
end Go.Vx
namespace Go.Vx
variable {R:Type} (n:Nat)
def Te (b c d e:LL) (f:Int) (g h i j k l m a2:LL) (K:Qks R):oP R:=Qc R (G7 n b c d e f g h i j k l m a2 false Tu2) fun a=>K a.1 a.2
def Tc (c d e f:LL) (g:Int) (h i a j b k l:LL) (K:Qks R):oP R:=Qc R (Vu n c d e f g h i a j b k l some) fun m=>bif m !=0 then K [] 1 else Qc R (Xq n a b some) fun o=>K o 0
def Yg (e:Int) (i j:LL) (f:Int) (g:LL) (a:Int) (k l:LL) (k0:oP R) (k1:Qkn R):Qkm R
 | 0,_,_=>none
 | m+1,b,c=>bif decide (b<f) then QjG R j b fun d q r s=>Qc R d[3]? fun t=>Qc R d[4]? fun ao=>Qc R (pIw q) fun u=>Qc R (Qi g u) fun v=>Qk7 R v fun y=>bif y !=e then Yg e i j f g a k l k0 k1 m (wJ (b+1)) c else bif (c.length:Int)==16 then k0 else Qc R (pIw r) fun z=>QjK R i z fun ab=>Qc R (pSl 1 ab) fun ac=>QjF R ac 0 fun ag=>Qka R l ag fun ai=>QjE R ai s fun aj ak=>Qc R (HE n ak a some) fun o=>Qc R (pIw t) fun h=>QjN R k aj fun an=>Qc R (K5 n g e an some) fun p=>Qb R [[Ql o,Ql (if a<h then a else h),D.sl 1 p]] fun aq=>Qc R (Yn ((c.length+aq.length)*40)) fun ap=>Yg e i j f g a k l k0 k1 m (wJ (b+1)) (c++aq) else k1 b (decide (b<f)) c
def Jk (b i c j:LL) (d:Int) (e k f l m o p a2:LL) (g:Int) (K:Qks R):oP R:=Qc R (Te n b i c j d e k f l m o p a2 Tu2) fun a=>bif a.2 !=0 then K [] a.2 else bif Q8 (decide (g<0)) (decide (g>=(b.length:Int))) then K [] 4 else Qc R (Tc n b i c j d e k f l m o p Tu2) fun q=>Yg n g q.1 a.1 (a.1.length:Int) c d e f (K [] 7) (fun s t r=>K r 0) n 0 []
def QX (e:Int) (b:LL) (c:Int) (f:LL) (g:Int) (k0:Qkq R) (k1:Qkn R):Qkm R
 | 0,_,_=>none
 | m+1,a,d=>bif decide (a<c) then QjF R b a fun k=>Qc R (Qi f k) fun l=>Qk7 R l fun p=>bif p==e then Qc R (Qi b a) fun q=>Qc R q[3]? fun r=>Qc R (pIw r) fun s=>bif decide (s>g) then Qc R (VY n some) fun t=>k0 t else QjF R b a fun h=>Qc R (Yn ((d.length+[[Ql h]].length)*8)) fun x=>QX e b c f g k0 k1 m (wJ (a+1)) (d++[[Ql h]]) else QX e b c f g k0 k1 m (wJ (a+1)) d else k1 a (decide (a<c)) d
def law20_PlatformAsPlanned (a0:LL) (a1:Int) (K:Qkq R):oP R:=gb true (SP n a0 Tu12) ([],[],[],[],0,[],[],[],[],[],[],[]) fun a=>Qb R a.2.2.2.2.2.2.2.2.2.2.2 fun c=>Qb R a.2.2.2.2.2.2.2.2.2.2.1 fun k=>Qb R a.2.2.2.2.2.2.2.2.2.1 fun l=>Qb R a.2.2.2.2.1 fun s=>Qb R a.2.2.2.2.2.2.2.2.1 fun t=>Qb R a.2.2.2.2.2.2.2.1 fun u=>Qb R a.2.2.2.2.2.2.1 fun v=>Qb R a.2.2.2.2.2.1 fun x=>Qb R a.2.2.1 fun y=>Qb R a.2.2.2.1 fun z=>gb true (Gg n a.1 a.2.1 y z s x v u t l k c Tu4) (0,[],[],0) fun b=>bif b.2.2.2 !=0 then Qc R (VY n some) fun d=>K d else Qc R (Va n b.1 b.2.1 b.2.2.1 3000 Tu3) fun e=>bif e.2.2 !=0 then Qc R (VY n some) fun h=>K h else Qc R (SZ n a1 (a.1.length:Int) some) fun r6=>Qc R (Jk n a.1 a.2.1 y z s x v u t l k c e.1 r6 Tu2) fun f=>bif f.2 !=0 then Qc R (VY n some) fun i=>K (Q9 i (f.2==7)) else Qc R (Hx n a.1 a.2.1 y z s x v u t l k c e.1 Tu2) fun g=>QX n r6 g.1 (g.1.length:Int) y s (fun m=>K m) (fun q r o=>Qc R (VY n some) fun j=>Qd R j (ZN n s f.1 o some) fun p=>K (Q9 j p)) n 0 []
end Go.Vx
namespace Go.Vx
theorem Q6z {N:Nat} {l0 l1 l2 e:LL}:∀ {l:LL} {ac:List (List UInt8)},T6 N l0 l1 l2 e ac l=true->∀ r∈l,∃ (s:List UInt8) (a b c d:Int),r=[D.str s,Ql a,Ql b,Ql c,Ql d]
 |[],_,_,r,hr=>nomatch hr
 |row::l,ac,h,r,hr=>by
  unfold T6 at h;split at h
  ·rename_i s a b c d;simp only [Qq6] at h;cases hr with
   |head=>exact ⟨s,a,b,c,d,rfl⟩
   |tail _ hr=>exact Q6z h.2 r hr
  ·cases h
theorem QbP {St Pt Se Li:LL} (h:Pb 400 St Pt Se Li=true):∀ r∈Se,∃ (s:List UInt8) (a b c d:Int),r=[D.str s,Ql a,Ql b,Ql c,Ql d]:=by
 unfold Pb at h;simp only [Qq6] at h;exact Q6z h.1.2
def okT (s tl:Int):List D->Bool
 |[_,.int _ a,_,_,.int _ d]=>bif d == s then decide (a>=tl) else false
 |_=>false
def trk (Se:LL) (s tl:Int):Nat->List Int
 |0=>[]
 |i+1=>bif (bif okT s tl (Se.getD i []) then decide (((trk Se s tl i).length:Int)<8) else false) then trk Se s tl i++[(i:Int)] else trk Se s tl i
section
variable {Se:LL} {s tl:Int}
theorem Q3I:∀ {i:Nat},(trk Se s tl i).length<=8/\(trk Se s tl i).length<=i/\(∀ x∈trk Se s tl i,0<=x/\x<i)/\(trk Se s tl i).Pairwise (· < ·)
 |0=>⟨by simp [trk],by simp [trk],fun x hx=>(nomatch hx),List.Pairwise.nil⟩
 |i+1=>by
  obtain ⟨c,h2,a,b⟩:=Q3I (i:=i);rw [trk];cases hc:(bif okT s tl (Se.getD i []) then decide (((trk Se s tl i).length:Int)<8) else false) with
  |false=>exact ⟨c,by rw [QpE];omega,fun x hx=>by have:=a x hx;omega,b⟩
  |true=>
   have d:((trk Se s tl i).length:Int)<8:=by
    cases ho:okT s tl (Se.getD i []) with
    |false=>rw [ho] at hc;cases hc
    |true=>rw [ho,QpG] at hc;exact of_decide_eq_true hc
   rw [QpG];refine ⟨by simp;omega,by simp;omega,fun x hx=>?_,Qqa.2 ⟨b,List.pairwise_singleton ..,fun x hx y hy=>?_⟩⟩
   ·rcases QpP.1 hx with hx | hx
    ·have:=a x hx;omega
    ·rw [QpU.1 hx];omega
   ·rw [QpU.1 hy];exact (a x hx).2
theorem Q9W {x:Nat} (a:x<8) (ho:okT s tl (Se.getD x [])=true):∀ {i:Nat},x<i->(x:Int)∈trk Se s tl i
 |0,h=>by omega
 |i+1,h=>by
  rw [trk];by_cases hx:x=i
  ·subst hx;have:=(Q3I (Se:=Se) (s:=s) (tl:=tl) (i:=x)).2.1;rw [ho,QpG,QpY Q0,QpG];exact Qq8 _ (.head _)
  ·have ih:=Q9W a ho (i:=i) Q0;cases (bif okT s tl (Se.getD i []) then decide (((trk Se s tl i).length:Int)<8) else false) with
   |false=>exact ih
   |true=>exact Qq4 _ ih
theorem Qdj {R:Type} (hS:Se.length<=96) (hr:∀ r∈Se,∃ (s:List UInt8) (a b c d:Int),r=[D.str s,Ql a,Ql b,Ql c,Ql d]) (K:LL->oP R):K5 400 Se s tl K=K (encI (trk Se s tl Se.length)):=by
 unfold K5;refine QD (r:=fun m i=>Z3 400 s tl Se (Se.length:Int) (fun _ _ w=>K w) m i (encI (trk Se s tl i.toNat))) (N:=Se.length) (fun m i hi=>?_) (fun m=>?_) Se.length 400 0 Q0 Q0
 ·simp only [QpF];have e:=QpJ hi;obtain ⟨nm,a,b,c,d,er⟩:=hr _ (QpH e);have hk:=(Q3I (Se:=Se) (s:=s) (tl:=tl) (i:=i)).1;have ac:Qi Se (i:Int)=some [D.str nm,Ql a,Ql b,Ql c,Ql d]:=by rw [Qq,e,er]
  have hg:Se.getD i []=[D.str nm,Ql a,Ql b,Ql c,Ql d]:=by rw [QpL,e,er];rfl
  rw [Z3,Qp hi,QpG,ac,trk,hg];simp -implicitDefEqProofs only [Qh,QpD,QpI,Qj,QC (show i<=1000 by omega),X4,XJ (show ((trk Se s tl i).length+[[D.int .i64 (i:Int)]].length)*8<=100000 by simp;omega),okT];have hx:encI (trk Se s tl i)++[[D.int .i64 (i:Int)]]=encI (trk Se s tl i++[(i:Int)]):=by unfold encI;rw [QpN];rfl
  rw [hx];cases (bif bif d == s then decide (a>=tl) else false then decide (((trk Se s tl i).length:Int)<8) else false) <;> rfl
 ·simp only [QpF];rw [Z3,Qz,QpE]
end
def Q56 (v:Int×Int×List Int):List D:=[Ql v.1,Ql v.2.1,D.sl 1 (encI v.2.2)]
def sta (Se:LL) (u:U):Int:=match Se.getD u.1 [] with
 |[_,_,_,_,.int _ d]=>d
 |_ => -1
def Q3d (Se:LL) (per s tl:Int) (u:U):Int×Int×List Int:=(u.2.2.1 % per,(if per<u.2.2.2.1 then per else u.2.2.2.1),trk Se s tl Se.length)
def inS (Se:LL) (s:Int) (us:List U):List U:=us.filter fun u=>sta Se u == s
theorem Q6K {Se:LL} {s:Int} {us:List U} {i:Nat} {u:U} (e:us[i]? = some u):inS Se s (us.take (i+1))=if sta Se u=s then inS Se s (us.take i)++[u] else inS Se s (us.take i):=by
 unfold inS;rw [YE e,List.filter_append];by_cases h:sta Se u=s
 ·rw [Qqf h,List.filter_cons_of_pos (by simpa using h),Qqi]
 ·rw [Qqd h,List.filter_cons_of_neg (by simpa using h),Qqi,Qq3]
theorem Q5z {Se:LL} {s:Int} {us:List U}:(inS Se s us).length<=us.length:=Qqk ..
theorem Qar {Se:LL} {u:U} {nm:List UInt8} {a b c d:Int} (e:Qi Se (u.1:Int)=some [D.str nm,Ql a,Ql b,Ql c,Ql d]):sta Se u=d:=by
 rw [Qq] at e;unfold sta;rw [QpL,e];rfl
namespace Cx
variable {X:Cx} (h:X.OK) {per:Int} {R:Type}
include h
theorem visP (p0:2<=per) (p1:per<=300) {rs:List (List Nat×Bool)} (aq:X.RsOK rs) {us:List U} (a2:us.length<=12) (ao:∀ u∈us,Qh6 X.G.Se u) (ax:∀ u∈us,Qfk u) (ht:∀ u∈us,u.2.1<rs.length) (s:Int) (k0:oP R) (k1:LL->oP R) :
  Yg 400 s (Q3h rs) (us.map Fd) (us.length:Int) X.G.Se per X.skR X.Ls k0 (fun _ _ w=>k1 w) 400 0 []=k1 (((inS X.G.Se s us).map (Q3d X.G.Se per s X.tl)).map Q56):=by
 have aj:=QbP h.g.lay;have aw:=(MY h.g.lay).2;have ak:Qi X.skR 0=some [D.str X.nm,Ql X.tl,Ql X.sp,Ql X.ac,Ql X.br]:=rfl;refine QD (r:=fun m i=>Yg 400 s (Q3h rs) (us.map Fd) (us.length:Int) X.G.Se per X.skR X.Ls k0 (fun _ _ w=>k1 w) m i (((inS X.G.Se s (us.take i.toNat)).map (Q3d X.G.Se per s X.tl)).map Q56)) (N:=us.length) (fun m i hi=>?_) (fun m=>?_) us.length 400 0 Q0 Q0
 ·simp only [QpF];have e:=QpJ hi;generalize us[i]=u at e;have hm:=QpH e;obtain ⟨nm,a,b,c,st,d,p,q⟩:=ao u hm;have hn:=ax u hm;have eu:Qi (us.map Fd) (i:Int)=some [Ql (u.1:Int),Ql (u.2.1:Int),Ql u.2.2.1,Ql u.2.2.2.1,Ql u.2.2.2.2]:=Q9b e;have ar:=ht u hm;have er:=QpJ ar;have an:=aq.ls _ (QpH er);have f:=QpJ (l:=rs[u.2.1].1) (i:=0) Q0;have g:=an.2 _ (QpH f);have k:Qi (Q3h rs) (u.2.1:Int)=some [D.sl 1 (ES rs[u.2.1].1),D.bool rs[u.2.1].2]:=by rw [Qq];unfold Q3h;rw [QpR,er];rfl
  have o:Qi (ES rs[u.2.1].1) 0=some [Ql (rs[u.2.1].1[0]:Int)]:=Mr (j:=0) f;have au:Qi X.Ls ((rs[u.2.1].1[0]:Nat):Int)=some [D.str (nmN rs[u.2.1].1[0]),Ql 0,Ql (X.w rs[u.2.1].1[0]),D.sl 4 (GI X.Ls rs[u.2.1].1[0])]:=by rw [Qq,(JM h g).1]
  have a4:(inS X.G.Se s (us.take i)).length<=i:=Nat.le_trans Q5z (by rw [List.length_take];omega);rw [Yg,Qp hi,QpG,eu,Q6K e,Qar d];by_cases hs:st=s
  ·rw [Qqf hs,QpN,QpN];simp -implicitDefEqProofs only [Qh,QpD,QpI,Qj,QN,d,show (st != s)=false by simpa using hs,QpE,QpK,show ((((inS X.G.Se s (us.take i)).length:Nat):Int) == 16)=false by simp;omega,k,o,au,ak,QeH (n:=400) (t:=per) (x:=u.2.2.1) Q0 Q0 (by have:=hn.1;omega) (by have:=hn.2.1;omega),Qdj aw aj,XJ (show ((inS X.G.Se s (us.take i)).length+[[D.int .i64 (u.2.2.1 % per),D.int .i64 (if per<u.2.2.2.1 then per else u.2.2.2.1),D.sl 1 (encI (trk X.G.Se s X.tl X.G.Se.length))]].length)*40<=100000 by simp;omega),QC (show i<=1000 by omega)];rfl
  ·rw [Qqd hs];simp -implicitDefEqProofs only [Qh,QpD,QpI,Qj,d,show (st != s)=true by simpa using hs,QpG,QC (show i<=1000 by omega)]
 ·simp only [QpF];rw [Yg,Qz,QpE,QpX]
theorem tracksL {us:List U} (ak:us.length<=12) (aj:∀ u∈us,Qh6 X.G.Se u) (ac:∀ u∈us,u.2.2.2.1<=per) (s:Int) (k0:Bool->oP R) (k1:LL->oP R) :
  QX 400 s (us.map Fd) (us.length:Int) X.G.Se per k0 (fun _ _ w=>k1 w) 400 0 []=k1 (encI ((inS X.G.Se s us).map fun u=>(u.1:Int))):=by
 refine QD (r:=fun m i=>QX 400 s (us.map Fd) (us.length:Int) X.G.Se per k0 (fun _ _ w=>k1 w) m i (encI ((inS X.G.Se s (us.take i.toNat)).map fun u=>(u.1:Int)))) (N:=us.length) (fun m i hi=>?_) (fun m=>?_) us.length 400 0 Q0 Q0
 ·simp only [QpF];have e:=QpJ hi;generalize us[i]=u at e;have hm:=QpH e;obtain ⟨nm,a,b,c,st,d,f,g⟩:=aj u hm;have hl:=ac u hm;have eu:Qi (us.map Fd) (i:Int)=some [Ql (u.1:Int),Ql (u.2.1:Int),Ql u.2.2.1,Ql u.2.2.2.1,Ql u.2.2.2.2]:=Q9b e;have ao:(inS X.G.Se s (us.take i)).length<=i:=Nat.le_trans Q5z (by rw [List.length_take];omega);rw [QX,Qp hi,QpG,eu,Q6K e,Qar d];by_cases hs:st=s
  ·rw [Qqf hs,QpN];simp -implicitDefEqProofs only [Qh,QpD,QpI,Qj,d,show (st == s)=true by simpa using hs,QpG,QpM (show ¬ u.2.2.2.1>per by omega),QpE,X4,QpK,XJ (show ((inS X.G.Se s (us.take i)).length+[[D.int .i64 (u.1:Int)]].length)*8<=100000 by simp;omega),QC (show i<=1000 by omega)];unfold encI;rw [QpN];rfl
  ·rw [Qqd hs];simp -implicitDefEqProofs only [Qh,QpD,QpI,Qj,d,show (st == s)=false by simpa using hs,QpE,QC (show i<=1000 by omega)]
 ·simp only [QpF];rw [QX,Qz,QpE,QpX]
end Cx
theorem gbG {α R:Type} (p:oP α) (z:α) (k:α->oP R):gb false p z k=k (p.getD z):=by cases p <;> rfl
theorem QiO {n:Nat} {t:List Int} (hl:t.length<=1000) {k0 E:oP Bool} {k1:Int->Int->Bool->oP Bool} (hk:∀ a b c,k1 a b c=E):∀ (ac:List Int) (i m:Nat) (last:Int),t.drop i=ac->ac.length<m->(∀ x∈ac,last<x)->ac.Pairwise (· < ·)->WU n (encI t) (t.length:Int) k0 k1 m last (i:Int)=E
 |[],i,m+1,last,hd,_,_,_=>by
  have:=Ul hd;rw [WU,show decide ((i:Int)<(t.length:Int))=false by simpa using this,QpE,hk]
 |x::ac,i,m+1,last,hd,hm,d,h2=>by
  obtain ⟨e,aj,hi⟩:=Ys hd;have hx:=d x (.head _);rw [WU,Qp hi,QpG,JD e];simp -implicitDefEqProofs only [Qh,QpD,Qj,QpM (show ¬ x<=last by omega),QpE,QC (show i<=1000 by omega)];exact QiO hl hk ac (i+1) m x aj (by simpa using hm) (Qq1.1 h2).1 (Qq1.1 h2).2
theorem QcK {n:Nat} {t:List Int} (hl:t.length<=1000) {x:Int} {k1:Int->Bool->oP Int}:∀ (ac:List Int) (i m:Nat),t.drop i=ac->ac.length<m->x∈ac->∃ j:Nat,Z5 n (encI t) x (t.length:Int) (fun w=>some w) k1 m (i:Int)=some (j:Int)
 |y::ac,i,m+1,hd,hm,hx=>by
  obtain ⟨e,ak,hi⟩:=Ys hd;rw [Z5,Qp hi,QpG,JD e];simp -implicitDefEqProofs only [Qh,QpD,Qj,QC (show i<=1000 by omega)];by_cases aj:x=y
  ·rw [show (x == y)=true by simpa using aj,QpG];exact ⟨i,rfl⟩
  ·rw [show (x == y)=false by simpa using aj,QpE];exact QcK hl ac (i+1) m ak (by simpa using hm) ((List.mem_cons.1 hx).resolve_left aj)
theorem Q9m {R:Type} {t:List Int} (hl:t.length<=100) {x:Int} (hx:x∈t) (K:Bool->oP R):Ww 400 (encI t) x K=K true:=by
 obtain ⟨j,hj⟩:=QcK (n:=400) (t:=t) Q0 (k1:=fun _ _=>some (-1)) t 0 400 rfl Q0 hx;have e:Vj 400 (encI t) x some=some (j:Int):=by
  unfold Vj;rw [X4];exact hj
 unfold Ww;rw [e,Qh,QpY Q0]
theorem Qbi {R:Type} {per f l f' l':Int} (p0:2<=per) (p1:per<=300) (hl:1<=l) (aj:1<=l') (h:∀ z:Int,f<f'+z*per+l'->f'+z*per<f+l->False) (K:Bool->oP R):Gc 400 per (f % per) l (f' % per) l' K=K false:=by
 have a0:=Qq0 f (show per≠0 by omega);have a1:=QpZ f (show 0<per by omega);have b0:=Qq0 f' (show per≠0 by omega);have b1:=QpZ f' (show 0<per by omega);have e1:(f' % per-f % per) % per=(f'-f) % per:=by rw [<- Int.sub_emod]
 have e2:(f % per-f' % per) % per=(f-f') % per:=by rw [<- Int.sub_emod]
 have c0:=Qq0 (f'-f) (show per≠0 by omega);have d0:=Qq0 (f-f') (show per≠0 by omega);have c:=Int.emod_add_mul_ediv (f'-f) per;have d:=Int.emod_add_mul_ediv (f-f') per;have a:¬ (f'-f) % per<l:=fun hc=>h (-((f'-f) / per)) (by rw [Int.neg_mul,Int.mul_comm];omega) (by rw [Int.neg_mul,Int.mul_comm];omega)
 have b:¬ (f-f') % per<l':=fun hc=>h ((f-f') / per) (by rw [Int.mul_comm];omega) (by rw [Int.mul_comm];omega)
 unfold Gc;rw [Qn (x:=f' % per-f % per) Q0 Q0,Qn (x:=f % per-f' % per) Q0 Q0,QeH (n:=400) (t:=per) Q0 Q0 Q0 Q0,QeH (n:=400) (t:=per) Q0 Q0 Q0 Q0,Qh,Qh,e1,e2,QpM a,QpM b];rfl
section
variable {Se:LL} {per s tl:Int} (p0:2<=per) (p1:per<=300) {S:List U} (hS:S.length<=12) (hnu:∀ u∈S,Qfk u) (hlen:∀ u∈S,u.2.2.2.1<=per)
include p0 p1 hS hnu hlen
theorem Qgd:Ht 400 per ((S.map (Q3d Se per s tl)).map Q56) (some:Bool->oP Bool)=some true:=by
 unfold Ht;rw [QpM (show ¬ per<2 by omega),QpM (show ¬ per>7200 by omega),QpK,QpK,QpM (show ¬ (S.length:Int)>16 by omega),Qr (by rfl)];refine QD (r:=fun m i=>WW 400 per ((S.map (Q3d Se per s tl)).map Q56) (S.length:Int) (some false) (fun _ _=>some true) m i) (N:=S.length) (fun m i hi=>?_) (fun m=>?_) S.length 400 0 Q0 Q0
 ·have e:=QpJ hi;generalize S[i]=u at e;have hm:=QpH e;have hn:=hnu u hm;have hl:=hlen u hm;have ht:=Q3I (Se:=Se) (s:=s) (tl:=tl) (i:=Se.length);have a:=Qq0 u.2.2.1 (show per≠0 by omega);have b:=QpZ u.2.2.1 (show 0<per by omega);have ac:Qi ((S.map (Q3d Se per s tl)).map Q56) (i:Int)=some [Ql (u.2.2.1 % per),Ql u.2.2.2.1,D.sl 1 (encI (trk Se s tl Se.length))]:=by
   rw [Qq,QpR,QpR,e];show some (Q56 (Q3d Se per s tl u))=_;unfold Q56 Q3d;rw [Qqd (show ¬ per<u.2.2.2.1 by omega)]
  rw [WW,Qp hi,QpG,ac];have hu:=hn.2.2.1;simp -implicitDefEqProofs only [Qh,QpD,QpI,Qj,QN,X4,QpM (show ¬ u.2.2.1 % per<0 by omega),QpM (show ¬ u.2.2.1 % per>=per by omega),QpM (show ¬ u.2.2.2.1<1 by omega),QpM (show ¬ u.2.2.2.1>per by omega),QpM (show ¬ (((trk Se s tl Se.length).length:Nat):Int)>8 by omega),QpE,QC (show i<=1000 by omega)];exact QiO Q0 (fun _ _ _=>rfl) (trk Se s tl Se.length) 0 400 (-1) rfl Q0 (fun x hx=>by have:=ht.2.2.1 x hx;omega) ht.2.2.2
 ·rw [WW,Qz,QpE]
theorem Qiy {R:Type} (hp:S.Pairwise fun u v=>u.1=v.1->∀ z:Int,u.2.2.1<v.2.2.1+z*per+v.2.2.2.1->v.2.2.1+z*per<u.2.2.1+u.2.2.2.1->False) {i:Nat} (hi:i<S.length) (K:Bool->oP R):Tp 400 per ((S.map (Q3d Se per s tl)).map Q56) (encI (S.map fun u=>(u.1:Int))) (i:Int) (S[i].1:Int) K=K true:=by
 have aj:∀ {j:Nat} (hj:j<S.length),Qi ((S.map (Q3d Se per s tl)).map Q56) (j:Int)=some [Ql (S[j].2.2.1 % per),Ql S[j].2.2.2.1,D.sl 1 (encI (trk Se s tl Se.length))]:=fun {j} hj=>by
  have hl:=hlen _ (List.getElem_mem hj);rw [Qq,QpR,QpR,QpJ hj];show some (Q56 (Q3d Se per s tl S[j]))=_;unfold Q56 Q3d;rw [Qqd (show ¬ per<S[j].2.2.2.1 by omega)]
 unfold Tp;refine QD (r:=fun m j=>UE 400 per ((S.map (Q3d Se per s tl)).map Q56) (encI (S.map fun u=>(u.1:Int))) (i:Int) (S[i].1:Int) (i:Int) (K false) (fun _ _=>K true) m j) (N:=i) (fun m j hj=>?_) (fun m=>?_) i 400 0 Q0 Q0
 ·have ac:j<S.length:=Q0
  have e:(S.map fun u=>(u.1:Int))[j]? = some (S[j].1:Int):=by rw [QpR,QpJ ac];rfl
  rw [UE,Qp hj,QpG,JD e];simp -implicitDefEqProofs only [Qh,QpD,Qj,QC (show j<=1000 by omega)];by_cases hc:S[j].1=S[i].1
  ·have hn:=hnu _ (List.getElem_mem ac);have ak:=hnu _ (List.getElem_mem hi);have hz:=List.pairwise_iff_getElem.1 hp j i ac hi hj hc;have ho:=fun (K:Bool->oP Bool)=>Qbi (R:=Bool) p0 p1 (show 1<=S[j].2.2.2.1 by have:=hn.2.2.1;omega) (show 1<=S[i].2.2.2.1 by have:=ak.2.2.1;omega) hz K
   rw [show ((S[j].1:Int) == (S[i].1:Int))=true by simp;omega,aj ac,aj hi];simp -implicitDefEqProofs only [Qh,QpD,QpI,Qj,QN,ho,QpG,QpE]
  ·rw [show ((S[j].1:Int) == (S[i].1:Int))=false by simp;omega];simp -implicitDefEqProofs only [gbG,QpE]
 ·rw [UE,Qz,QpE]
theorem Qee (hp:S.Pairwise fun u v=>u.1=v.1->∀ z:Int,u.2.2.1<v.2.2.1+z*per+v.2.2.2.1->v.2.2.1+z*per<u.2.2.1+u.2.2.2.1->False) (ht:∀ u∈S,(u.1:Int)∈trk Se s tl Se.length):ZN 400 per ((S.map (Q3d Se per s tl)).map Q56) (encI (S.map fun u=>(u.1:Int))) (some:Bool->oP Bool)=some true:=by
 unfold ZN;rw [Qgd p0 p1 hS hnu hlen,Qh,X4,QpK,QpK,QpK,QpT,QpE,bne_self_eq_false,QpE];refine QD (r:=fun m i=>Wb 400 per ((S.map (Q3d Se per s tl)).map Q56) (encI (S.map fun u=>(u.1:Int))) (encI (S.map fun u=>(u.1:Int))) (S.length:Int) (some false) (fun _ _=>some true) m i) (N:=S.length) (fun m i hi=>?_) (fun m=>?_) S.length 400 0 Q0 Q0
 ·have e:(S.map fun u=>(u.1:Int))[i]? = some (S[i].1:Int):=by rw [QpR,QpJ hi];rfl
  have hk:=(Q3I (Se:=Se) (s:=s) (tl:=tl) (i:=Se.length)).1;have ac:Qi ((S.map (Q3d Se per s tl)).map Q56) (i:Int)=some [Ql (Q3d Se per s tl S[i]).1,Ql (Q3d Se per s tl S[i]).2.1,D.sl 1 (encI (trk Se s tl Se.length))]:=by
   rw [Qq,QpR,QpR,QpJ hi];rfl
  rw [Wb,Qp hi,QpG,JD e,ac];simp -implicitDefEqProofs only [Qh,QpD,QpI,Qj,QN,Q9m (show (trk Se s tl Se.length).length<=100 by omega) (ht _ (List.getElem_mem hi)),Qiy p0 p1 hS hnu hlen hp hi,QpT,QpE,QC (show i<=1000 by omega)]
 ·rw [Wb,Qz,QpE]
end
def mt (kd f t:Int):List D->Bool
 |[.int _ ac,.int _ f',.int _ t',_,_,_]=>bif (bif ac == kd then f' == f else false) then t' == t else false
 |_=>false
theorem Pc {kd f t ac f' t' mn mx w:Int}:mt kd f t [Ql ac,Ql f',Ql t',Ql mn,Ql mx,Ql w]=true↔ac=kd/\f'=f/\t'=t:=by
 simp only [mt,Bool.cond_false_right,Qq6,beq_iff_eq,and_assoc]
namespace Cx
variable {X:Cx} {per:Int} {Ch Sy De A:LL} {tl:List Int} (g:X.Gd per Ch Sy A tl)
include g
theorem Gd.lenP {R:Type} {kd f t:Int} {r:List D} (hr:r∈A) (hm:mt kd f t r=true) (hu:∀ r'∈A,mt kd f t r'=true->r'=r) (K:Int->oP R):YC 400 per A (encI tl) kd f t K=K (VK tl per r):=by
 have hl:=g.len;have p0:=g.p0;have p1:=g.p1;unfold YC;refine (Q7R (r:=fun m i=>Yb 400 kd f t per A (encI tl) (fun a=>K a) (fun b c=>K 0) m i) (l:=A) (p:=mt kd f t) (F:=fun r=>K (VK tl per r)) (E:=K 0) (fun m i q e hi=>?_) (fun m=>?_) (fuel:=400) hl).trans ?_
 ·obtain ⟨an,f',t',mn,mx,w,rfl,hf,ht,d,h2⟩:=g.row (QpH e);have tf:=g.tat hf.1 hf.2;have tt:=g.tat ht.1 ht.2;have:=Qq0 (Vx.tat tl t'-Vx.tat tl f'-mn) (show per≠0 by omega);have:=QpZ (Vx.tat tl t'-Vx.tat tl f'-mn) (show 0<per by omega);rw [Yb,Qp hi,QpG,Qq,e];unfold Gr;simp -implicitDefEqProofs only [Qh,QpD,QpI,Qj,tf.1,tt.1,Qn (x:=Vx.tat tl t'-Vx.tat tl f') Q0 Q0,Qn (x:=Vx.tat tl t'-Vx.tat tl f'-mn) Q0 Q0,QgR (n:=400) (t:=per) (x:=Vx.tat tl t'-Vx.tat tl f'-mn) Q0 Q0 Q0 Q0,Qn (x:=mn+(Vx.tat tl t'-Vx.tat tl f'-mn) % per) Q0 Q0,QC (show i<=1000 by omega),mt,VK,dur]
 ·rw [Yb,Qz,QpE]
 ·cases e:A.find? (mt kd f t) with
  |none=>exact absurd hm (by simpa using List.find?_eq_none.1 e r hr)
  |some q=>
   rw [hu q (Qqe e) (List.find?_some e)]
variable {R:Type}
theorem Gd.runR {i k:Nat} (hi:i<X.Ls.length) (hk:k<X.nr i) (K:Int->oP R):XK 400 X.Ls per A (encI tl) (i:Int) (k:Int) K=K (X.runV per tl i k):=by
 have hb:=Ya g.ok (i:=i) Q0;have hn:=(JM g.ok hi).2.1;unfold XK;rw [Df g.ok Q0,Qh,Q9A Q0,Sx Q0,Q9T Q0,g.lenP (g.run_mem hi hk) (Pc.2 ⟨rfl,rfl,rfl⟩) (fun r hr hm=>?_),Qh]
 ·rfl
 obtain ⟨H,rfl,hH⟩:=g.act;rcases Q2Z g.ok g.ls hH hr with ⟨i',k',aj,ac,rfl | ⟨_,rfl⟩⟩ | ⟨t,_,rfl⟩ | ⟨kd,f,t,mn,mx,w,ak,rfl⟩
 ·obtain ⟨_,a,_⟩:=Pc.1 hm;obtain ⟨rfl,rfl⟩:=Pe (nr:=X.nr) ac hk Q0;rfl
 ·have:=(Pc.1 hm).1;omega
 ·have:=(Pc.1 hm).1;omega
 ·have:=(Pc.1 hm).1;omega
theorem Gd.gapR {i k:Nat} (hi:i<X.Ls.length) (hk:k<X.nr i) (K:Int->Bool->oP R):YP 400 X.Ls (X.T.map tuR) per A (encI tl) (i:Int) (k:Int) K=K (X.gapV per tl i k).1 (X.gapV per tl i k).2:=by
 have hb:=Ya g.ok (i:=i) Q0;have hn:=(JM g.ok hi).2.1;have hw:wJ (((List.length (GI X.Ls i):Nat):Int)-1)=((X.nr i-1:Nat):Int):=JP (k:=X.nr i) Q0 Q0;unfold YP gapV;rw [Df g.ok Q0,Qq,(JM g.ok hi).1];simp -implicitDefEqProofs only [Qh,QpD,QpI,QN,hw,Q9A (a:=base X.nr i) (b:=k) Q0,Sx (a:=base X.nr i+k) Q0,Q9T (a:=2*(base X.nr i+k)) Q0,QfO (a:=2*(base X.nr i+k)) Q0];by_cases c:k<X.nr i-1
 ·rw [Qp c,QpG,Qqf c,show 2*(base X.nr i+k)+2=2*(base X.nr i+k+1) by omega,g.lenP (QpH ((g.runAt hi hk).2 c)) (Pc.2 ⟨rfl,rfl,rfl⟩) (fun r hr hm=>?_),Qh];obtain ⟨H,rfl,hH⟩:=g.act;rcases Q2Z g.ok g.ls hH hr with ⟨i',k',aj,ac,rfl | ⟨_,rfl⟩⟩ | ⟨t,_,rfl⟩ | ⟨kd,f,t,mn,mx,w,ak,rfl⟩
  ·have:=(Pc.1 hm).1;omega
  ·obtain ⟨_,d,_⟩:=Pc.1 hm;obtain ⟨rfl,rfl⟩:=Pe (nr:=X.nr) ac hk Q0;rfl
  ·have:=(Pc.1 hm).1;omega
  ·have:=(Pc.1 hm).1;omega
 ·rw [Q5 ((k:Int)<((X.nr i-1:Nat):Int)),QpE,Qqd c,QbC g.ok];cases ht:X.tn i with
  |none=>rfl
  |some t=>
   obtain ⟨t1,t2⟩:=C5 ht;have aq:t.2.1<X.Ls.length:=(g.ok.tr _ t1).2.1;have h:=Ya g.ok (i:=t.2.1) Q0;simp -implicitDefEqProofs only [Qh,QpG,Qj,Df g.ok (show t.2.1<=X.Ls.length by omega),Sx (a:=base X.nr t.2.1) Q0];rw [g.lenP (kd:=4) (f:=((2*(base X.nr i+k)+1:Nat):Int)) (t:=((2*base X.nr t.2.1:Nat):Int)) (g.turn_mem t1) (Pc.2 ⟨rfl,by rw [t2];omega,rfl⟩) (fun r hr hm=>?_),Qh];obtain ⟨H,rfl,hH⟩:=g.act;rcases Q2Z g.ok g.ls hH hr with ⟨i',k',aj,ac,rfl | ⟨_,rfl⟩⟩ | ⟨u,hu,rfl⟩ | ⟨kd,f,t,mn,mx,w,ak,rfl⟩
   ·have:=(Pc.1 hm).1;omega
   ·have:=(Pc.1 hm).1;omega
   ·obtain ⟨_,d,_⟩:=Pc.1 hm;have e:u.1<X.Ls.length:=(g.ok.tr _ hu).1;have nu:=(JM g.ok e).2.1;obtain ⟨h2,j⟩:=Pe (nr:=X.nr) (i:=u.1) (k:=X.nr u.1-1) (i':=i) (k':=k) Q0 hk Q0;rw [Q2V g.ok.fd hu t1 (by rw [h2,t2])]
   ·have:=(Pc.1 hm).1;omega
theorem Gd.lapsR {ls:List Nat} {c:Bool} (ac:∀ i∈ls,i<X.Ls.length) (ak:ls.length<=10) (K:Int->oP R):Vh 400 X.Ls (X.T.map tuR) per A (encI tl) (ES ls) c K=K (X.lapsV per tl ls c):=by
 have p0:=g.p0;have p1:=g.p1;unfold Vh lapsV;cases c
 ·rfl
 rw [QpT,QpE,QpG,show (ES ls).length=ls.length by simp [ES]];have hs:=g.sumL_rng ac (QpW ls.length);rw [QpX] at hs;have hb:((X.sumL per tl ls).tdiv per).natAbs=(X.sumL per tl ls).natAbs / per.natAbs:=Int.natAbs_tdiv ..;have an:(X.sumL per tl ls).tdiv per<=10000000 /\ -10000000<=(X.sumL per tl ls).tdiv per:=by
  have:=Nat.div_le_self (X.sumL per tl ls).natAbs per.natAbs;omega
 refine QD (r:=fun m j=>Y2 400 (ls.length:Int) (ES ls) X.Ls (X.T.map tuR) per A (encI tl) (fun a b d=>gb true (nz per) () fun f=>K (wJ (Int.tdiv a per))) m (X.sumL per tl (ls.take j.toNat)) j) (N:=ls.length) (fun m j hj=>?_) (fun m=>?_) ls.length 400 0 Q0 Q0
 ·simp only [QpF];have e:=QpJ hj;have hi:=ac _ (QpH e);have ao:=g.sumL_rng ac (j:=j) Q0;have hn:=(JM g.ok hi).2.1;rw [Y2,Qp hj,QpG,Mr e];simp -implicitDefEqProofs only [Qh,QpD,QpI,Qj,QN,Qq,(JM g.ok hi).1,QC (show j<=1000 by omega)];refine QD (r:=fun m' k=>Yp 400 (j:Int) ((X.nr ls[j]:Nat):Int) (ES ls) X.Ls (X.T.map tuR) per A (encI tl) (fun h l n=>Y2 400 (ls.length:Int) (ES ls) X.Ls (X.T.map tuR) per A (encI tl) (fun a b d=>gb true (nz per) () fun f=>K (wJ (Int.tdiv a per))) m h ((j+1:Nat):Int)) m' (X.sumL per tl (ls.take j)+X.sumR per tl ls[j] k.toNat) k) (N:=X.nr ls[j]) (fun m' k hk=>?_) (fun m'=>?_) (X.nr ls[j]) 400 0 Q0 Q0 |> Eq.trans (by simp [sumR];rfl)
  ·simp only [QpF];have hr:=g.sumR_rng hi (k:=k) Q0;have o:=g.runV_rng hi hk;have h2:=g.gapV_rng hi hk;rw [Yp,Qp hk,QpG,Mr e];simp -implicitDefEqProofs only [Qh,QpD,Qj,g.gapR hi hk,g.runR hi hk,Qn (x:=X.runV per tl ls[j] k+(X.gapV per tl ls[j] k).1) Q0 Q0,Qn (x:=X.sumL per tl (ls.take j)+X.sumR per tl ls[j] k+(X.runV per tl ls[j] k+(X.gapV per tl ls[j] k).1)) Q0 Q0,QC (show k<=1000 by omega)];rw [sumR,Int.add_assoc]
  ·simp only [QpF];rw [Yp,Qz,QpE,AA g e]
 ·simp only [QpF];rw [Y2,Qz,QpE,QpX,EC Q0,Qh,Qn Q0 Q0]
omit g
variable (h:X.OK)
include h
theorem Qfs {i k:Nat} (hi:i<X.Ls.length) (hk:k<X.nr i) (K:LL->Int->Int->oP R):N0 400 X.G.St X.G.Pt X.G.Se X.G.Li (X.st i k) 0 X.nm X.tl X.sp X.ac X.br K=K ((X.stair i k).map enc) (X.run i k) 0:=by
 unfold N0;rw [Qfu (rd h hi hk).rt h.sk (show (0:Int)<=0 by omega) Q0 (show (0:Int)<=0 by omega) Q0,Qh];rfl
end Cx
def enW (W:List (U×Bool)):LL:=W.map fun w=>Fd w.1
def enF (W:List (U×Bool)):LL:=W.map fun w=>[D.bool w.2]
def WK (W:List (U×Bool)):List U:=(W.filter (·.2)).map (·.1)
def adW (W:List (U×Bool)) (u:U) (b:Bool):List (U×Bool):=if 0<u.2.2.2.1 then W++[(u,b)] else W
theorem Q5d {W:List (U×Bool)} {u:U} {b:Bool}:(adW W u b).length<=W.length+1:=by
 unfold adW;split <;> simp
theorem Q7f {W:List (U×Bool)} {u:U}:WK (adW W u true)=DB (WK W) u:=by
 unfold adW DB WK;split <;> simp
theorem Q9t {W:List (U×Bool)} {u:U}:WK (adW W u false)=WK W:=by
 unfold adW WK;split <;> simp
theorem Qhb {R:Type} {n res train:Nat} {W:List (U×Bool)} (hl:W.length<=1000) {fr len laps:Int} {b:Bool} (K:LL->LL->oP R):Xt n (enW W) (enF W) (res:Int) (train:Int) fr len laps b K=K (enW (adW W (res,train,fr,len,laps) b)) (enF (adW W (res,train,fr,len,laps) b)):=by
 unfold Xt adW;by_cases h:0<len
 ·rw [show decide (len>0)=true from QpY h,QpG,Qqf h,XJ (by simp [enW];omega),Qh,XJ (by simp [enF];omega),Qh];unfold enW enF;rw [QpN,QpN];rfl
 ·rw [show decide (len>0)=false from QpM h,QpE,Qqd h]
theorem Qjq {R:Type} {O:List Occ} (hO:OL (-1) O) (hl:O.length<=100) {train:Nat} {laps at':Int} (a0 : -10000000<=at') (a1:at'<=10000000) {W:List (U×Bool)} (hW:W.length<=800):∃ W',(∀ k0:LL->LL->oP R,Xy 400 (train:Int) laps at' (O.map enc) (O.length:Int) (fun _ _ u v=>k0 u v) 400 0 (enW W) (enF W)=k0 (enW W') (enF W'))/\WK W'=WK W/\W'.length<=W.length+O.length:=by
 have go:∀ (ac:List Occ) (i m:Nat) (W:List (U×Bool)),O.drop i=ac->ac.length<m->W.length+ac.length<=900->∃ W',(∀ k0:LL->LL->oP R,Xy 400 (train:Int) laps at' (O.map enc) (O.length:Int) (fun _ _ u v=>k0 u v) m (i:Int) (enW W) (enF W)=k0 (enW W') (enF W'))/\WK W'=WK W/\W'.length<=W.length+ac.length:=by
  intro ac;induction ac with
  |nil=>
   intro i m W hd hm hw;obtain ⟨m,rfl⟩:∃ k,m=k+1:=⟨m-1,by simp at hm;omega⟩;have:=Ul hd;exact ⟨W,fun k0=>by rw [Xy,show decide ((i:Int)<(O.length:Int))=false by simpa using this,QpE],rfl,by simp⟩
  |cons q ac ih=>
   intro i m W hd hm hw;obtain ⟨m,rfl⟩:∃ k,m=k+1:=⟨m-1,by simp at hm;omega⟩;obtain ⟨e,aj,hi⟩:=Ys hd;have hq:=hO.mem q (QpH e);obtain ⟨x,hx⟩:∃ x:Nat,q.1=x:=⟨q.1.toNat,Q0⟩;rw [Qq7] at hw;have an:=Q5d (W:=W) (u:=(x,train,at'+q.2.1,q.2.2-q.2.1,laps)) (b:=false);obtain ⟨W',a,h2,c⟩:=ih (i+1) m (adW W (x,train,at'+q.2.1,q.2.2-q.2.1,laps) false) aj (by simpa using hm) Q0;refine ⟨W',fun k0=>?_,by rw [h2,Q9t],by rw [Qq7];omega⟩;rw [Xy,Qp hi,QpG,X0 e];simp -implicitDefEqProofs only [Qh,NG,Lh,F0,Qj,QC (show i<=1000 by omega),Qn (x:=at'+q.2.1) Q0 Q0,Qn (x:=q.2.2-q.2.1) Q0 Q0,hx,Qhb (show W.length<=1000 by omega)];exact a k0
 exact go O 0 400 W rfl Q0 Q0
namespace Cx
variable {X:Cx} {per:Int} {Ch Sy De A:LL} {tl:List Int} (g:X.Gd per Ch Sy A tl)
include g
variable {R:Type}
theorem Gd.rideR {c:Bool} {idx train:Nat} {laps:Int} {i k m:Nat} (hi:i<X.Ls.length) (hk:k<X.nr i) {at':Int} (a0 : -9000000<=at') (a1:at'<=9000000) {W:List (U×Bool)} (hW:W.length<=700) (aw:idx<=100):∃ W',
  (∀ k0:Int->Int->Bool->LL->LL->oP R,QA 400 (train:Int) laps (idx:Int) (i:Int) ((X.nr i:Nat):Int) c X.G.St X.G.Pt X.G.Se X.G.Li per X.skR X.Ro X.Ls Ch (X.T.map tuR) Sy De per A (encI tl) k0 (m+1) at' (k:Int) (enW W) (enF W)=QA 400 (train:Int) laps (idx:Int) (i:Int) ((X.nr i:Nat):Int) c X.G.St X.G.Pt X.G.Se X.G.Li per X.skR X.Ro X.Ls Ch (X.T.map tuR) Sy De per A (encI tl) k0 m (X.stM per tl false c idx train laps i k (at',WK W)).1 ((k+1:Nat):Int) (enW W') (enF W'))/\WK W'=(X.stM per tl false c idx train laps i k (at',WK W)).2/\W'.length<=W.length+8:=by
 have hn:=(JM g.ok hi).2.1;have r:=rd g.ok hi hk;have hr:=S7 g.ok hi hk;have so:=EL g.ok hi hk;have l2:=r.rt.l2;have l24:=r.rt.l24;have h:=g.runV_rng hi hk;have h2:=g.gapV_rng hi hk;obtain ⟨d0,_,_,_,_,_,y,_⟩:=Q9g r.rt (j:=0) Q0;obtain ⟨d1,_,_,_,_,_,e1,_⟩:=Q9g r.rt (j:=(X.st i k).length-1) Q0;have z:Qi (X.st i k) 0=some [Ql (sec (X.st i k) 0:Int),Ql d0]:=y;have aa:Qi (X.st i k) (((X.st i k).length-1:Nat):Int)=some [Ql (sec (X.st i k) ((X.st i k).length-1):Int),Ql d1]:=by rw [Qq,e1]
 have hw:wJ (wJ ((((X.st i k).length:Nat):Int)-0)-1)=(((X.st i k).length-1:Nat):Int):=by rw [Qn (x:=(((X.st i k).length:Nat):Int)-0) Q0 Q0,Qn Q0 Q0];omega
 have he:=g.endV_rng hi hk (a:=at');have aj:(X.gapV per tl i k).2=true->wJ (wJ (at'+X.runV per tl i k)+(X.gapV per tl i k).1)=X.endV per tl i k at':=fun hg=>by
  unfold endV;rw [Qn (x:=at'+X.runV per tl i k) Q0 Q0,Qqf hg,Qn Q0 Q0]
 have an:(X.gapV per tl i k).2=false->wJ (wJ (at'+X.runV per tl i k)+60)=X.endV per tl i k at':=fun hg=>by
  unfold endV;rw [Qn (x:=at'+X.runV per tl i k) Q0 Q0,hg,Qqd Bool.false_ne_true,Qn Q0 Q0]
 have au:∀ K':D->D->oP (D×D),Y1 400 per X.skR X.Ro X.Ls Ch (X.T.map tuR) Sy De (i:Int) (k:Int) K'=K' (D.sl 2 (X.st i k)) (Ql 0):=fun K'=>Q9N g.ok hi hk K'
 have aq:Qi X.skR 0=some [D.str X.nm,Ql X.tl,Ql X.sp,Ql X.ac,Ql X.br]:=rfl;have fb:(bif (bif ((idx:Int) == 0) then ((k:Int) == 0) else false) then !c else false)=decide (c=false/\idx=0/\k=0):=by
  cases c
  ·by_cases h:idx=0
   ·by_cases h2:k=0
    ·subst h h2;rfl
    ·rw [show ((k:Int) == 0)=false by simp;omega,QpM (by simp [h2])];cases ((idx:Int) == 0) <;> rfl
   ·rw [show ((idx:Int) == 0)=false by simp;omega,QpM (by simp [h])];rfl
  ·rw [QpM Q2];cases (bif ((idx:Int) == 0) then ((k:Int) == 0) else false) <;> rfl
 have n:=Qn (x:=at'+X.run i k) Q0 Q0;have o:=Qn (x:=X.endV per tl i k at'-at') Q0 Q0;have p:=Qn (x:=X.endV per tl i k at'-at'-X.run i k) Q0 Q0;have tail:∀ (k0:Int->Int->Bool->LL->LL->oP R) (W1:List (U×Bool)),W1.length<=800->(gb true (YP 400 X.Ls (X.T.map tuR) per A (encI tl) (i:Int) (k:Int) Tu2) (0,false) fun l=>
   bif (!l.2) then
   gb true (XK 400 X.Ls per A (encI tl) (i:Int) (k:Int) some) 0 fun q=>
   gb true (pSl 2 (D.sl 2 (X.st i k))) [] fun ab=>
   gb true (pIw (Ql 0)) 0 fun ac=>
   gb true (Vp 400 ab ac some) 0 fun ad=>
   gb true (Xt 400 (enW W1) (enF W1) ad (train:Int) (wJ (at'+X.run i k)) (wJ ((wJ ((wJ ((wJ (at'+q))+(60:Int)))-at'))-X.run i k)) laps true Tu2) ([],[]) fun s=>
   QA 400 (train:Int) laps (idx:Int) (i:Int) ((X.nr i:Nat):Int) c X.G.St X.G.Pt X.G.Se X.G.Li per X.skR X.Ro X.Ls Ch (X.T.map tuR) Sy De per A (encI tl) k0 m (wJ ((wJ (at'+q))+(60:Int))) ((k+1:Nat):Int) s.1 s.2
   else
   gb true (XK 400 X.Ls per A (encI tl) (i:Int) (k:Int) some) 0 fun t=>
   gb true (pSl 2 (D.sl 2 (X.st i k))) [] fun ae=>
   gb true (pIw (Ql 0)) 0 fun ag=>
   gb true (Vp 400 ae ag some) 0 fun ah=>
   gb true (Xt 400 (enW W1) (enF W1) ah (train:Int) (wJ (at'+X.run i k)) (wJ ((wJ ((wJ ((wJ (at'+t))+l.1))-at'))-X.run i k)) laps true Tu2) ([],[]) fun v=>
   QA 400 (train:Int) laps (idx:Int) (i:Int) ((X.nr i:Nat):Int) c X.G.St X.G.Pt X.G.Se X.G.Li per X.skR X.Ro X.Ls Ch (X.T.map tuR) Sy De per A (encI tl) k0 m (wJ ((wJ (at'+t))+l.1)) ((k+1:Nat):Int) v.1 v.2)=QA 400 (train:Int) laps (idx:Int) (i:Int) ((X.nr i:Nat):Int) c X.G.St X.G.Pt X.G.Se X.G.Li per X.skR X.Ro X.Ls Ch (X.T.map tuR) Sy De per A (encI tl) k0 m (X.endV per tl i k at') ((k+1:Nat):Int) (enW (adW W1 (sec (X.st i k) ((X.st i k).length-1),train,at'+X.run i k,X.endV per tl i k at'-at'-X.run i k,laps) true)) (enF (adW W1 (sec (X.st i k) ((X.st i k).length-1),train,at'+X.run i k,X.endV per tl i k at'-at'-X.run i k,laps) true)):=fun k0 W1 ar=>by
  rw [g.gapR hi hk,Qh];unfold Vp;simp -implicitDefEqProofs only [g.runR hi hk,Qh,QN,Qj,hw,aa,QpD];cases hg:(X.gapV per tl i k).2
  ·rw [Qq9,QpG,an hg,n,o,p,Qhb Q0,Qh]
  ·rw [QpT,QpE,aj hg,n,o,p,Qhb Q0,Qh]
 have ak:=Q5d (W:=W) (u:=(sec (X.st i k) 0,train,at'-60,60,laps)) (b:=true);obtain ⟨W1,f,o2,o3⟩:=Qjq (R:=R) so.1 Q0 (train:=train) (laps:=laps) (show -10000000<=at' by omega) Q0 (W:=if c=false/\idx=0/\k=0 then adW W (sec (X.st i k) 0,train,at'-60,60,laps) true else W) (by split <;> omega);have ar:W1.length<=W.length+7:=by split at o3 <;> omega
 have al:=Q5d (W:=W1) (u:=(sec (X.st i k) ((X.st i k).length-1),train,at'+X.run i k,X.endV per tl i k at'-at'-X.run i k,laps)) (b:=true);refine ⟨adW W1 (sec (X.st i k) ((X.st i k).length-1),train,at'+X.run i k,X.endV per tl i k at'-at'-X.run i k,laps) true,fun k0=>?_,?_,Q0⟩
 ·rw [QA,Qp hk,QpG,au,Qh,Qq,(JM g.ok hi).1];simp -implicitDefEqProofs only [Qh,QpD,QpI,Qj,QN,XO,aq,Qfs g.ok hi hk,fb,QpK,QC (show k<=1000 by omega),Qn (x:=at'-60) Q0 Q0];by_cases hf:c=false/\idx=0/\k=0
  ·unfold GB;rw [Qqf hf] at f;rw [QpY hf,QpG];simp -implicitDefEqProofs only [Qh,z,QpD,Qj,Qhb (show W.length<=1000 by omega)];exact (f _).trans (tail k0 W1 Q0)
  ·rw [Qqd hf] at f;rw [QpM hf,QpE];exact (f _).trans (tail k0 W1 Q0)
 ·rw [Q7f,o2];unfold stM;rw [QpE];by_cases hf:c=false/\idx=0/\k=0
  ·rw [Qqf hf,Qqf hf,Q7f]
  ·rw [Qqd hf,Qqd hf]
end Cx
theorem Qdr {R:Type} {W:List (U×Bool)} (hl:W.length<=380) (K:LL->oP R):Z0 400 (W.length:Int) (enW W) (enF W) (fun _ _ w=>K w) 400 0 []=K ((WK W).map Fd):=by
 refine QD (r:=fun m j=>Z0 400 (W.length:Int) (enW W) (enF W) (fun _ _ w=>K w) m j ((WK (W.take j.toNat)).map Fd)) (N:=W.length) (fun m j hj=>?_) (fun m=>?_) W.length 400 0 Q0 Q0
 ·simp only [QpF];have e:=QpJ hj;generalize W[j]=w at e;have e1:(enW W)[j]? = some (Fd w.1):=by unfold enW;rw [QpR,e];rfl
  have e2:(enF W)[j]? = some [D.bool w.2]:=by unfold enF;rw [QpR,e];rfl
  have hs:(WK (W.take j)).length<=j:=by
   unfold WK;rw [QpK];exact Nat.le_trans (Qqk ..) Q3
  rw [Z0,Qp hj,QpG,Yh Q0 (by simp [enF];omega),Yh Q0 (by simp [enW];omega),QpF,e1,e2,YE e];simp -implicitDefEqProofs only [Qh,QpD,QpI,S6,QC (show j<=1000 by omega),Fd];unfold WK at hs ⊢;rw [List.filter_append];cases hw:w.2 with
  |true=>
   rw [QpG,XJ (by simp at hs ⊢;omega),Qh,List.filter_cons_of_pos (by simpa using hw),Qqi,QpN,QpN];rfl
  |false=>rw [QpE,List.filter_cons_of_neg (by simp [hw]),Qqi,Qq3]
 ·simp only [QpF];rw [Z0,Qz,QpE,QpX]
namespace Cx
variable {X:Cx} {per:Int} {Ch Sy De A:LL} {tl:List Int} (g:X.Gd per Ch Sy A tl)
include g
variable {R:Type}
theorem Gd.ridesR {cl:Bool} {idx train:Nat} {laps:Int} {i:Nat} (hi:i<X.Ls.length) {s:Int×List U} (s0 : -5000000<=s.1) (s1:s.1<=5000000) (ac:idx<=100):∀ (c m k:Nat) (W:List (U×Bool)),k+c=X.nr i->c<m->W.length+8*c<=700->WK W=(X.rideM per tl false cl idx train laps i s k).2->∃ W',
  (∀ k0:Int->LL->LL->oP R,QA 400 (train:Int) laps (idx:Int) (i:Int) ((X.nr i:Nat):Int) cl X.G.St X.G.Pt X.G.Se X.G.Li per X.skR X.Ro X.Ls Ch (X.T.map tuR) Sy De per A (encI tl) (fun a _ _ u v=>k0 a u v) m (X.rideM per tl false cl idx train laps i s k).1 (k:Int) (enW W) (enF W)=k0 (X.rideM per tl false cl idx train laps i s (X.nr i)).1 (enW W') (enF W'))/\WK W'=(X.rideM per tl false cl idx train laps i s (X.nr i)).2/\W'.length<=W.length+8*c
 |0,m+1,k,W,hk,_,_,hs=>⟨W,fun k0=>by
  rw [QA,Q5 ((k:Int)<((X.nr i:Nat):Int)),QpE,show k=X.nr i by omega],by rw [hs,show k=X.nr i by omega],Q0⟩
 |c+1,m+1,k,W,hk,hm,hW,hs=>by
  have hn:=(JM g.ok hi).2.1;have hb:=g.rideM_rng (mv:=false) (c:=cl) (idx:=idx) (train:=train) (laps:=laps) hi (s:=s) (k:=k) Q0;have aj:X.rideM per tl false cl idx train laps i s k=((X.rideM per tl false cl idx train laps i s k).1,WK W):=by rw [hs]
  obtain ⟨W1,b,h2,d⟩:=g.rideR (R:=R) (c:=cl) (idx:=idx) (train:=train) (laps:=laps) (m:=m) (De:=De) hi (show k<X.nr i by omega) (at':=(X.rideM per tl false cl idx train laps i s k).1) Q0 Q0 (W:=W) Q0 ac;have ak:WK W1=(X.rideM per tl false cl idx train laps i s (k+1)).2:=by rw [rideM,aj,h2]
  obtain ⟨W',t1,t2,e⟩:=Gd.ridesR hi s0 s1 ac c m (k+1) W1 Q0 Q0 Q0 ak;refine ⟨W',fun k0=>?_,t2,Q0⟩;rw [b];have e1:(X.stM per tl false cl idx train laps i k ((X.rideM per tl false cl idx train laps i s k).1,WK W)).1=(X.rideM per tl false cl idx train laps i s (k+1)).1:=by rw [rideM,<- aj]
  rw [e1];exact t1 k0
theorem Gd.linesR {cl:Bool} {train:Nat} {laps:Int} {ls:List Nat} (ac:∀ i∈ls,i<X.Ls.length) (ak:ls.length<=3) {s:Int×List U} (s0:0<=s.1) (s1:s.1<=300):∀ (c m j:Nat) (W:List (U×Bool)),j+c=ls.length->c<m->W.length+16*c<=600->WK W=(X.lineM per tl false cl train laps ls s j).2->∃ W',
  (∀ k0:LL->LL->oP R,Yj 400 (train:Int) laps (ls.length:Int) (ES ls) cl X.G.St X.G.Pt X.G.Se X.G.Li per X.skR X.Ro X.Ls Ch (X.T.map tuR) Sy De per A (encI tl) (fun _ _ _ u v=>k0 u v) m (X.lineM per tl false cl train laps ls s j).1 (j:Int) (enW W) (enF W)=k0 (enW W') (enF W'))/\WK W'=(X.lineM per tl false cl train laps ls s ls.length).2/\W'.length<=W.length+16*c
 |0,m+1,j,W,hj,_,_,hs=>⟨W,fun k0=>by
  rw [Yj,Q5 ((j:Int)<(ls.length:Int)),QpE],by rw [hs,show j=ls.length by omega],Q0⟩
 |c+1,m+1,j,W,hj,hm,hW,hs=>by
  have aj:j<ls.length:=Q0
  have e:=QpJ aj;have hi:=ac _ (QpH e);have hd:ls.getD j 0=ls[j]:=by rw [QpL,e];rfl
  have hn:=(JM g.ok hi).2.1;have hb:=g.lineM_rng (mv:=false) (c:=cl) (train:=train) (laps:=laps) ac (s:=s) (j:=j) Q0;obtain ⟨W1,a,h2,b⟩:=g.ridesR (R:=R) (cl:=cl) (idx:=j) (train:=train) (laps:=laps) (De:=De) hi (s:=X.lineM per tl false cl train laps ls s j) Q0 Q0 Q0 (X.nr ls[j]) 400 0 W Q0 Q0 Q0 hs;have an:WK W1=(X.lineM per tl false cl train laps ls s (j+1)).2:=by rw [h2,lineM,hd]
  obtain ⟨W',t1,t2,d⟩:=Gd.linesR ac ak s0 s1 c m (j+1) W1 Q0 Q0 Q0 an;refine ⟨W',fun k0=>?_,t2,Q0⟩;rw [Yj,Qp aj,QpG,Mr e];simp -implicitDefEqProofs only [Qh,QpD,QpI,Qj,QN,Qq,(JM g.ok hi).1,QC (show j<=1000 by omega)];refine (a _).trans ?_;have e1:(X.rideM per tl false cl j train laps ls[j] (X.lineM per tl false cl train laps ls s j) (X.nr ls[j])).1=(X.lineM per tl false cl train laps ls s (j+1)).1:=by rw [lineM,hd]
  rw [e1];exact t1 k0
theorem Gd.trainR {W:List (U×Bool)} (hW:W.length<=500) {train:Nat} {r:List Nat×Bool} (f:1<=r.1.length) (d:r.1.length<=3) (hr:∀ i∈r.1,i<X.Ls.length):∃ W',(∀ K:LL->LL->oP R,
  UR 400 X.G.St X.G.Pt X.G.Se X.G.Li per X.skR X.Ro X.Ls Ch (X.T.map tuR) Sy De per A (encI tl) (enW W) (enF W) (train:Int) (ES r.1) r.2 K=K (enW W') (enF W'))/\WK W'=X.trainM per tl false (WK W) train r/\W'.length<=W.length+48:=by
 obtain ⟨ls,c⟩:=r;dsimp only at f d hr ⊢;have hN:X.N<=6:=base_le g.ok;have p1:=g.p1;have b:=QpJ (l:=ls) (i:=0) Q0;have e:=hr _ (QpH b);have h:ls.getD 0 0=ls[0]:=by rw [QpL,b];rfl
 have m:=Ya g.ok (i:=ls[0]) Q0;have ak:=QcU g.ok e (k:=0) (by have:=(JM g.ok e).2.1;omega);have ht:=g.tat (i:=((2*base X.nr ls[0]:Nat):Int)) Q0 Q0;have er:Qi (ES ls) 0=some [Ql (ls[0]:Int)]:=Mr (j:=0) b;unfold trainM;dsimp only;rw [h];obtain ⟨W',t1,t2,n⟩:=g.linesR (R:=R) (cl:=c) (train:=train) (laps:=X.lapsV per tl ls c) (De:=De) hr d (s:=(Vx.tat tl ((2*base X.nr ls[0]:Nat):Int),WK W)) (by dsimp only;omega) (by dsimp only;omega) ls.length 400 0 W Q0 Q0 Q0 rfl;refine ⟨W',fun K=>?_,t2,Q0⟩;unfold UR;rw [g.lapsR hr Q0,Qh,er];simp -implicitDefEqProofs only [Qh,QpD,Qj,Df g.ok (show ls[0]<=X.Ls.length by omega),Sx (a:=base X.nr ls[0]) Q0,ht.1,show (ES ls).length=ls.length by simp [ES]];exact t1 K
theorem Gd.usesR {rs:List (List Nat×Bool)} (hr:X.RsOK rs):∃ W:List (U×Bool),(∀ k0:LL->LL->oP R,Ws 400 (Q3h rs) (rs.length:Int) X.G.St X.G.Pt X.G.Se X.G.Li per X.skR X.Ro X.Ls Ch (X.T.map tuR) Sy De per A (encI tl) (fun _ _ u v=>k0 u v) 400 0 [] []=k0 (enW W) (enF W))/\WK W=X.usesM per tl false rs rs.length/\W.length<=380:=by
 have n3:=hr.n3;have hs:=hr.sum;have go:∀ (c m j:Nat) (W:List (U×Bool)),j+c=rs.length->c<m->W.length<=48*j->WK W=X.usesM per tl false rs j->∃ W':List (U×Bool),(∀ k0:LL->LL->oP R,Ws 400 (Q3h rs) (rs.length:Int) X.G.St X.G.Pt X.G.Se X.G.Li per X.skR X.Ro X.Ls Ch (X.T.map tuR) Sy De per A (encI tl) (fun _ _ u v=>k0 u v) m (j:Int) (enW W) (enF W)=k0 (enW W') (enF W'))/\WK W'=X.usesM per tl false rs rs.length/\W'.length<=48*rs.length:=by
  intro c;induction c with
  |zero=>
   intro m j W hj hm hW ac;obtain ⟨m,rfl⟩:∃ k,m=k+1:=⟨m-1,Q0⟩;refine ⟨W,fun k0=>?_,by rw [ac,show j=rs.length by omega],Q0⟩;rw [Ws,Q5 ((j:Int)<(rs.length:Int)),QpE]
  |succ c ih=>
   intro m j W hj hm hW ac;obtain ⟨m,rfl⟩:∃ k,m=k+1:=⟨m-1,Q0⟩;have ak:j<rs.length:=Q0
   have e:=QpJ ak;have hd:rs.getD j ([],false)=rs[j]:=by rw [QpL,e];rfl
   have aj:=hr.ls _ (QpH e);obtain ⟨W1,b,h2,d⟩:=g.trainR (R:=LL×LL) (De:=De) (W:=W) Q0 (train:=j) aj.1 (hr.len3 e) aj.2;obtain ⟨W',t1,t2,a⟩:=ih m (j+1) W1 Q0 Q0 Q0 (by rw [h2,ac,usesM,hd]);refine ⟨W',fun k0=>?_,t2,a⟩;have an:Qi (Q3h rs) (j:Int)=some [D.sl 1 (ES rs[j].1),D.bool rs[j].2]:=by rw [Qq];unfold Q3h;rw [QpR,e];rfl
   rw [Ws,Qp ak,QpG,an];simp -implicitDefEqProofs only [Qh,QpD,QpI,QN,S6,b,QC (show j<=1000 by omega)];exact t1 k0
 obtain ⟨W',t1,t2,a⟩:=go rs.length 400 0 [] Q0 Q0 Q2 rfl;exact ⟨W',t1,t2,Q0⟩
end Cx
end Go.Vx
