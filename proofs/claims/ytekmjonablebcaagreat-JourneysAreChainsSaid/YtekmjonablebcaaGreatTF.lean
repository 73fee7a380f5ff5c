/- Part of a proof. No conditions of their own. -/
import Derived.Test.YtekmjonablebcaaGreatTE
import Derived.Test.YtekmjonablebcaaGreatTD
import Derived.Test.YtekmjonablebcaaGreatTB
import Derived.Test.YtekmjonablebcaaGreatTC
import Derived.Maps.Own
import Derived.Maps.Views
import Derived.StringKeys
import Derived.WalkKit
import Derived.Deep.AppendLies
import Derived.Laws.Rows
import Derived.OneCell
import Derived.Lib.LaidTab
set_option linter.unusedVariables false
set_option linter.unusedSimpArgs false
set_option linter.unusedSectionVars false
noncomputable section
abbrev QqF:=@List.getElem?_cons_zero
abbrev QqG:=@cond_false
abbrev QqH:=@Int.toNat_natCast
abbrev QqI:=@cond_true
abbrev QqJ:=@List.mem_of_getElem?
abbrev QqK:=@List.getElem?_cons_succ
abbrev QqL:=@List.getElem?_eq_getElem
abbrev QqM:=@List.length_map
abbrev QqN:=@List.getD_eq_getElem?_getD
abbrev QqO:=@decide_eq_false
abbrev QqP:=@List.mem_append
abbrev QqQ:=@List.append_assoc
abbrev QqR:=@decide_eq_true
abbrev QqS:=@List.map_append
abbrev QqT:=@Bool.not_true
abbrev QqU:=@List.getElem?_eq_some_iff
abbrev QqV:=@List.mem_singleton
abbrev QqW:=@List.getElem?_eq_none
abbrev QqX:=@List.getElem?_map
abbrev QqY:=@List.mem_map
abbrev QqZ:=@List.append_nil
abbrev Qr0:=@Int.emod_lt_of_pos
abbrev Qr1:=@List.set_cons_zero
abbrev Qr2:=@if_neg
abbrev Qr3:=@Int.emod_nonneg
abbrev Qr4:=@if_pos
abbrev Qr5:=@List.length_append
abbrev Qr6:=@List.pairwise_cons
abbrev Qr7:=@Bool.not_false
abbrev Qr8:=@List.length_cons
abbrev Qr9:=@List.take_length
abbrev Qra:=@List.mem_range
abbrev Qrb:=@List.length_set
abbrev Qrc:=@List.getElem?_range
abbrev Qrd:=@List.mem_of_find?_eq_some
abbrev Qre:=@List.mem_append_right
abbrev Qrf:=@List.mem_append_left
abbrev Qrg:=@List.pairwise_append
abbrev Qrh:=@List.mem_cons
abbrev Qri:=@List.length_range
abbrev Qrj:=@Nat.le_refl
abbrev Qrk:=@List.getElem?_set
abbrev Qrl:=@List.all_eq_true
abbrev Qrm:=@List.foldl_cons
abbrev Qrn:=@List.length_filter_le
abbrev Qro:=@Nat.zero_le
abbrev Qrp:=@Int.emod_eq_of_lt
abbrev Qrq:=@List.ext_getElem?
namespace Go.Vx
theorem QjV{R:Type}{n:Nat}{a b:Int}(K:Int->oP R):GS n a b K=K (if a<b then -1 else if b<a then 1 else 0):=by
 unfold GS;have hn:∀x:Int,GE n x (some:Bool->oP Bool)=some false:=λx=>by
  grind[GE]
 rw[hn,hn,Qh,Qh,Qq (by rfl),Qq (by rfl)]
 grind
def Asc(l:Y Sp2):Prop:=l.Pairwise λa b=>a.1<=b.1
theorem QbT(q:Sp2):(Yk q)[0]? = some (Ql q.1):=rfl
theorem Qbm(q:Sp2):(Yk q)[1]? = some (Ql q.2):=rfl
theorem Qi5(z q:Sp2):((Yk z).set 0 (Ql q.1)).set 1 (Ql q.2)=Yk q:=rfl
theorem QjA(q:Sp2)(v:Int):(Yk q).set 1 (D.int .i64 v)=Yk (q.1,v):=rfl
section
variable{R:Type} {n:Nat}
theorem Qhc{A B:LL}{x:Y D}{i:Nat}(h:A.length=i):(A++x::B)[i]? = some x:=by
 simp_all
theorem Qhu{A B:LL}{x y:Y D}{i:Nat}(h:A.length=i):(A++x::B).set i y=A++y::B:=by
 simp_all
theorem QcF{K:LL->oP R}{k0:Int->Bool->LL->oP R}(hk:∀a b w,k0 a b w=K w):∀(c m:Nat) (A:Y Sp2) (x:Sp2) (B C:Y Sp2),A.length=c->c<m->(A++x::B++C).length<=100->Asc (A++B)->(∀b∈B,x.1<=b.1) ->
  ∃L:Y Sp2,Qx n 0 k0 m (c:Int) ((A++x::B++C).map Yk)=K ((L++C).map Yk)/\Asc L/\L.Perm (A++x::B)
 |0,m+1,A,x,B,C,hA,_,_,hs,hx=>by
  obtain rfl:=List.eq_nil_of_length_eq_zero hA;refine⟨x::B,?_,Qr6.2 ⟨hx,hs⟩,List.Perm.refl _⟩;unfold Qx;rw[show decide (((0:Nat):Int)>0)=false from rfl];simp -implicitDefEqProofs only[gbF,QqG,hk,List.nil_append]
 |c+1,m+1,A,x,B,C,hA,hm,hl,hs,hx=>by
  obtain⟨A',y,rfl⟩:∃A' y,A=A'++[y]:=⟨A.dropLast,A.getLast (by intro h;rw[h]at hA;simp at hA),(List.dropLast_concat_getLast _).symm⟩;have aa:A'.length=c:=by simpa using hA
  have ai:c+1<((A'++[y]++x::B++C).map Yk).length:=by simp;omega
  have hc:c<=100:=by simp at hl;omega
  have e1:((A'++[y]++x::B++C).map Yk)=(A'.map Yk++[Yk y])++Yk x::(B++C).map Yk:=by simp
  have e2:((A'++[y]++x::B++C).map Yk)=A'.map Yk++Yk y::(Yk x::(B++C).map Yk):=by simp
  have g1:((A'++[y]++x::B++C).map Yk)[c+1]? = some (Yk x):=by rw[e1];exact Qhc (by simp[aa])
  have d:((A'++[y]++x::B++C).map Yk)[c]? = some (Yk y):=by rw[e2];exact Qhc (by simp[aa])
  have s1:((A'++[y]++x::B++C).map Yk).set (c+1) (Yk y)=A'.map Yk++Yk y::(Yk y::(B++C).map Yk):=by rw[e1,Qhu (by simp[aa])];simp
  have e:(A'.map Yk++Yk y::(Yk y::(B++C).map Yk))[c]? = some (Yk y):=Qhc (by simp[aa]);have s2:(A'.map Yk++Yk y::(Yk y::(B++C).map Yk)).set c (Yk x)=((A'++x::(y::B)++C).map Yk):=by rw[Qhu (by simp[aa])];simp
  have f:inB ((A'++[y]++x::B++C).map Yk).length ((c+1:Nat):Int)=some ():=XQ I I;have g:inB ((A'++[y]++x::B++C).map Yk).length (c:Int)=some ():=XQ I I;have i:inB (A'.map Yk++Yk y::(Yk y::(B++C).map Yk)).length (c:Int)=some ():=XQ I Q3;unfold Qx;rw[Q6 (((c+1:Nat):Int)>0),JT (show c+1<=1000 by omega) I,Nat.add_sub_cancel];unfold UR;simp -implicitDefEqProofs only[f,g,Qh,QqH,g1,d,QjV];simp -implicitDefEqProofs only[QbT,Qbm,Qi5,Qh,Qj,QqI];by_cases ac:x.1<y.1
  ·rw[Qr4 ac];simp -implicitDefEqProofs only[show decide ((-1:Int)<0)=true from rfl,QqI,g1,QbT,Qbm,Qi5,Qh,s1];simp -implicitDefEqProofs only[i,e,Qh,Qi5,s2];obtain⟨L,j,h2,k⟩:=QcF hk c m A' x (y::B) C aa I (by simp at hl ⊢;omega) (by simpa using hs) (λb hb=>by
    cases hb with
    |head=>omega
    |tail _ hb=>exact hx b hb)
   refine⟨L,j,h2,k.trans ?_⟩;rw[QqQ];exact List.Perm.append_left _ (List.Perm.swap ..)
  ·refine⟨A'++[y]++x::B,?_,?_,List.Perm.refl _⟩
   ·rw[Qr2 ac,show decide ((if y.1<x.1 then(1:Int)else 0)<0)=false from QqO (by split<;>omega),QqG,hk]
   ·unfold Asc at hs ⊢;rw[Qrg]at hs ⊢;refine⟨hs.1,Qr6.2 ⟨hx,hs.2.1⟩,λa ha b hb=>?_⟩;cases hb with
    |head=>
     rcases QqP.1 ha with h | h
     ·have:=(Qrg.1 hs.1).2.2 a h y (QqV.2 rfl);omega
     ·obtain rfl:=QqV.1 h;omega
    |tail _ hb=>exact hs.2.2 a ha b hb
theorem QcE{K:LL->oP R}{k0:Int->Bool->LL->oP R}(hk:∀a b w,k0 a b w=K w):∀(aa P:Y Sp2) (m:Nat),aa.length<m->(P++aa).length<=100->Asc P ->
  ∃L:Y Sp2,Qn 400 0 (((P++aa).length:Nat):Int) k0 m (P.length:Int) ((P++aa).map Yk)=K (L.map Yk)/\Asc L/\L.Perm (P++aa)
 |[],P,m+1,_,_,hs=>by
  refine⟨P,?_,hs,by simp⟩;rw[Qn,QqZ,Qz,QqG,hk]
 |x::aa,P,m+1,hm,hl,hs=>by
  rw[Qn,Qt Q2,QqI,QI (by simp at hl;omega)];obtain⟨L,d,h2,c⟩:=QcF (n:=400) (K:=λw=>Qn 400 0 (((P++x::aa).length:Nat):Int) k0 m ((P.length+1:Nat):Int) w) (k0:=λ_ _ w=>Qn 400 0 (((P++x::aa).length:Nat):Int) k0 m ((P.length+1:Nat):Int) w) (λ_ _ _=>rfl) P.length 400 P x [] aa rfl (by simp at hl;omega) (by simp at hl ⊢;omega) (by simpa using hs) (λb hb=>nomatch hb);rw[show(P++x::aa)=P++[x]++aa by simp]at *
  rw[d];have hL:L.length=P.length+1:=by rw[c.length_eq];simp
  obtain⟨L',g1,e,f⟩:=QcE hk aa L m (by simpa using hm) (by simp[hL]at hl ⊢;omega) h2;rw[show(((P++[x]++aa).length:Nat):Int)=(((L++aa).length:Nat):Int) by simp[hL];omega,show((P.length+1:Nat):Int)=(L.length:Int) by rw[hL]];exact⟨L',g1,e,f.trans (c.append_right _)⟩
theorem Qk8:((List.range 13).all λk=>(SP 400 (IntKind.wrap .u64 (k:Int)) (some:Int->oP Int)).isSome)=true:=by kernel_rfl
theorem QiW{l:Y Sp2}(hl:l.length<=12):∃L:Y Sp2,QM 400 (l.map Yk) (some:LL->oP LL)=some (L.map Yk)/\Asc L/\L.Perm l:=by
 obtain⟨b,hb⟩:=Option.isSome_iff_exists.1 (Qrl.1 Qk8 l.length (Qra.2 I));unfold QM;rw[QqM,hb,Qh];unfold XY XO;rw[Qo (x:=(l.length:Int)-0) I I,Xh (QqR I)];unfold XB;have fin:∀L:Y Sp2,L.length=l.length->(gb true (gb true (some (L.map Yk)) [] λa=>gb true (SY a (List.length (l.map Yk))) () λf=>some a) [] λc=>gb true (SY c l.length) () λg=>(some c:oP LL))=some (L.map Yk):=λL h=>by
  grind[Qh,MG]
 rw[show wJ ((0:Int)+1)=((1:Nat):Int)from rfl];cases l with
 |nil=>
  refine⟨[],?_,List.Pairwise.nil,List.Perm.refl _⟩;rfl
 |cons x aa=>
  obtain⟨L,e,h2,d⟩:=QcE (K:=(some:LL->oP LL)) (k0:=λ_ _ w=>some w) (λ_ _ _=>rfl) aa [x] 400 (by grind) (by simp at hl ⊢;omega) (List.pairwise_singleton ..);refine⟨L,?_,h2,d⟩;rw[show(x::aa)=[x]++aa from rfl,show((1:Nat):Int)=(([x].length:Nat):Int)from rfl,e];exact fin L d.length_eq
def mgS:Int->Int->Y Sp2->Y Sp2
 |a,b,[]=>[(a,b)]
 |a,b,(c,d)::r=>if c<=b then mgS a (if b<d then d else b) r else(a,b)::mgS c d r
theorem Q65:∀{a b:Int} {r:Y Sp2},(mgS a b r).length<=r.length+1
 |_,_,[]=>Qrj _
 |a,b,(c,d)::r=>by
  rw[mgS];split
  ·have:=Q65 (a:=a) (b:=if b<d then d else b) (r:=r);simp only[Qr8];omega
  ·have:=Q65 (a:=c) (b:=d) (r:=r);simp only[Qr8];omega
theorem Qa2{t:Int}:∀{l a b:Int} {r:Y Sp2},l<a->a<b->b<=t->Asc ((a,b)::r)->(∀q∈r,q.1<q.2/\q.2<=t)->VS t l (mgS a b r)
 |l,a,b,[],e,h2,f,_,_=>⟨e,h2,f,trivial⟩
 |l,a,b,(c,d)::r,e,h2,f,g,h5=>by
  have hs:=Qr6.1 g;have hc:a<=c:=hs.1 (c,d) (.head _);have hd:=h5 (c,d) (.head _);rw[mgS];split
  ·refine Qa2 e (by split<;>omega) (by split<;>simp_all) (Qr6.2 ⟨λq hq=>hs.1 q (.tail _ hq),(Qr6.1 hs.2).2⟩) (λq hq=>h5 q (.tail _ hq))
  ·exact⟨e,h2,f,Qa2 I hd.1 hd.2 hs.2 (λq hq=>h5 q (.tail _ hq))⟩
theorem Q9T{y:Int}:∀{a b:Int} {r:Y Sp2},Asc ((a,b)::r)->a<b->(∀q∈r,q.1<q.2)->(InS y (mgS a b r)↔(a<=y/\y<b)\/InS y r)
 |a,b,[],_,_,_=>by rw[mgS,Th]
 |a,b,(c,d)::r,e,h2,h5=>by
  have hs:=Qr6.1 e;have hc:a<=c:=hs.1 (c,d) (.head _);have hd:=h5 (c,d) (.head _);rw[mgS,Th];split
  ·rw[Q9T (a:=a) (b:=if b<d then d else b) (Qr6.2 ⟨λq hq=>hs.1 q (.tail _ hq),(Qr6.1 hs.2).2⟩) (by split<;>omega) (λq hq=>h5 q (.tail _ hq))];dsimp only at hc hd ⊢;rw[<- or_assoc];refine or_congr_left ?_;split<;>omega
  ·rw[Th,Q9T hs.2 hd (λq hq=>h5 q (.tail _ hq))]
theorem Q3e{K:LL->oP R}{k0:Int->Bool->LL->oP R}(hk:∀a b w,k0 a b w=K w){l:Y Sp2}(hl:l.length<=100):∀(aa:Y Sp2) (i m:Nat) (A:Y Sp2) (a b:Int),l.drop i=aa->aa.length<m->A.length+aa.length<=100 ->
  Xp n (l.length:Int) (l.map Yk) k0 m (i:Int) ((A++[(a,b)]).map Yk)=K ((A++mgS a b aa).map Yk)
 |[],i,m+1,A,a,b,hd,_,_=>by
  have:=ZX hd;rw[Xp,show decide ((i:Int)<(l.length:Int))=false by simp_all,QqG,hk,mgS]
 |(c,d)::aa,i,m+1,A,a,b,hd,hm,hA=>by
  obtain⟨e,ak,hi⟩:=Yc hd;have an:A.length<=100:=I
  have f:(l.map Yk)[i]? = some (Yk (c,d)):=by rw[QqX,e];rfl
  have e1:(A++[(a,b)]).map Yk=A.map Yk++Yk (a,b)::[]:=by simp
  have ai:((A++[(a,b)]).map Yk).length=A.length+1:=by simp
  have g:((A++[(a,b)]).map Yk)[A.length]? = some (Yk (a,b)):=by rw[e1];exact Qhc Q2
  have aj:∀v,((A++[(a,b)]).map Yk).set A.length (Yk (a,v))=(A++[(a,v)]).map Yk:=λv=>by rw[e1,Qhu Q2];simp
  rw[Xp,Qt hi,QqI,ai,JT (show A.length+1<=1000 by omega) I,Nat.add_sub_cancel,QqM,XQ I I,XQ I I,Q6 ((A.length:Int)>=0)];simp -implicitDefEqProofs only[Qh,QqH,f,g,QI (show i<=1000 by omega)];simp -implicitDefEqProofs only[QbT,Qbm,QjA,Qh,Qj,QqI];rw[mgS];by_cases ac:c<=b
  ·rw[show decide (c<=b)=true from QqR ac,QqI,Qr4 ac];rw[aj];exact Q3e hk hl aa (i+1) m A a _ ak (by simpa using hm) (by simp at hA;omega)
  ·rw[show decide (c<=b)=false from QqO ac,QqG,Qr2 ac,XI Q3,Qh];have:=Q3e hk hl aa (i+1) m (A++[(a,b)]) c d ak (by simpa using hm) (by simp at hA ⊢;omega);rw[show A++(a,b)::mgS c d aa=A++[(a,b)]++mgS c d aa by simp,<- this,QqS (l₂:=[(c,d)])];rfl
theorem t2a{x y:Y D}:decide ((0:Int)<(([x,y].length:Nat):Int))=true:=rfl
theorem t2b{x y:Y D}:decide ((1:Int)<(([x,y].length:Nat):Int))=true:=rfl
theorem t2c{x y:Y D}:decide ((2:Int)<(([x,y].length:Nat):Int))=false:=rfl
theorem t2d:wJ ((0:Int)+1)=1:=rfl
theorem t2e:wJ ((1:Int)+1)=2:=rfl
theorem t2f{x y:Y D}:Qi [x,y] 0=some x:=rfl
theorem t2g{x y:Y D}:Qi [x,y] 1=some y:=rfl
theorem QeQ{a b:Y Sp2}(h:a.length+b.length<=100):X0 400 [[D.sl 2 (a.map Yk)],[D.sl 2 (b.map Yk)]] (some:LL->oP LL)=some ((a++b).map Yk):=by
 have hg:∀k:Nat,k<=100->QT 400 (k:Int) (some:LL->oP LL)=some []:=λk hk=>by
  unfold QT;rw[Qq (QqO I),show wJ ((0:Int)-0)=0 from rfl,Qo (x:=(k:Int)-0) I I];by_cases c:k=0
  ·subst c;rfl
  ·rw[Xh (QqR I),show slB 0 none (some (0:Int))=some (0,0)from rfl,Qh,Xh (QqR I),Qh,XI I,Qh]
 unfold X0;rw[Qv];simp -implicitDefEqProofs only[t2a,t2b,t2c,t2d,t2e,t2f,t2g,QqI,QqG,Qh,QqF,X2,QqM,Qo (x:=0+(a.length:Int)) I I,Qo (x:=0+(a.length:Int)+(b.length:Int)) I I,Q5 (0+(a.length:Int)<0),Q5 (0+(a.length:Int)+(b.length:Int)<0),show 0+(a.length:Int)+(b.length:Int)=((a.length+b.length:Nat):Int) by omega,Qo (x:=((a.length+b.length:Nat):Int)) I I,Q5 (((a.length+b.length:Nat):Int)<0),hg _ h];rw[Qv];simp -implicitDefEqProofs only[t2a,t2b,t2c,t2d,t2e,t2f,t2g,QqI,QqG,Qh,QqF,X2,QqM,Qo (x:=0+(a.length:Int)) I I,Qo (x:=0+(a.length:Int)+(b.length:Int)) I I,Q5 (0+(a.length:Int)<0),Q5 (0+(a.length:Int)+(b.length:Int)<0),show 0+(a.length:Int)+(b.length:Int)=((a.length+b.length:Nat):Int) by omega,Qo (x:=((a.length+b.length:Nat):Int)) I I,Q5 (((a.length+b.length:Nat):Int)<0),hg _ h];rw[Qv];simp -implicitDefEqProofs only[t2a,t2b,t2c,t2d,t2e,t2f,t2g,QqI,QqG,Qh,QqF,X2,QqM,Qo (x:=0+(a.length:Int)) I I,Qo (x:=0+(a.length:Int)+(b.length:Int)) I I,Q5 (0+(a.length:Int)<0),Q5 (0+(a.length:Int)+(b.length:Int)<0),show 0+(a.length:Int)+(b.length:Int)=((a.length+b.length:Nat):Int) by omega,Qo (x:=((a.length+b.length:Nat):Int)) I I,Q5 (((a.length+b.length:Nat):Int)<0),hg _ h];rw[Qw];simp -implicitDefEqProofs only[t2a,t2b,t2c,t2d,t2e,t2f,t2g,QqI,QqG,Qh,QqF,X2,QqM,List.nil_append,List.length_nil,XI (show(0+a.length)*16<=100000 by omega),XI (show(a.length+b.length)*16<=100000 by omega),QqS];rw[Qw];simp -implicitDefEqProofs only[t2a,t2b,t2c,t2d,t2e,t2f,t2g,QqI,QqG,Qh,QqF,X2,QqM,List.nil_append,List.length_nil,XI (show(0+a.length)*16<=100000 by omega),XI (show(a.length+b.length)*16<=100000 by omega),QqS];rw[Qw];simp -implicitDefEqProofs only[t2a,t2b,t2c,t2d,t2e,t2f,t2g,QqI,QqG,Qh,QqF,X2,QqM,List.nil_append,List.length_nil,XI (show(0+a.length)*16<=100000 by omega),XI (show(a.length+b.length)*16<=100000 by omega),QqS]
theorem QfA{l:Y Sp2}:Lb [l.map Yk]=some ():=by
 unfold Lb;rw[show([l.map Yk].all A8)=true by simp[A8,Yk,Q64]];rfl
theorem Qfx{t:Int}{a b:Y Sp2}(c:1<=t)(d:t<=7200)(ha:VS t (-1) a)(hb:VS t (-1) b)(hl:a.length<=300)(aa:b.length<=300):T2 400 t [[D.sl 2 (a.map Yk)],[D.sl 2 (b.map Yk)]] (some:Int->oP Int)=some 0:=by
 unfold T2;rw[Q2z c d,Qh,Qq (by rfl)];rw[U2];simp -implicitDefEqProofs only[t2a,t2b,t2c,t2d,t2e,t2f,t2g,QqI,QqG,Qh,QqF,X2,Q01 c d hl ha,Q01 c d aa hb,QqT];rw[U2];simp -implicitDefEqProofs only[t2a,t2b,t2c,t2d,t2e,t2f,t2g,QqI,QqG,Qh,QqF,X2,Q01 c d hl ha,Q01 c d aa hb,QqT];rw[U2];simp -implicitDefEqProofs only[t2a,t2b,t2c,t2d,t2e,t2f,t2g,QqI,QqG,Qh,QqF,X2,Q01 c d hl ha,Q01 c d aa hb,QqT]
theorem QgO{t:Int}{a b:Y Sp2}(e:1<=t)(f:t<=7200)(ha:VS t (-1) a)(hb:VS t (-1) b)(hl:a.length+b.length<=12):∃c:Y Sp2,T8 400 t (a.map Yk) (b.map Yk) Tu2=some (c.map Yk,(0:Int))/\VS t (-1) c/\c.length<=a.length+b.length/\∀y,InS y c↔InS y a\/InS y b:=by
 obtain⟨L,s1,s2,d⟩:=QiW (l:=a++b) Q3;have hr:∀q∈L,-1<q.1/\q.1<q.2/\q.2<=t:=λq hq=>by
  rcases QqP.1 (d.mem_iff.1 hq)with h | h
  ·exact ha.rng q h
  ·exact hb.rng q h
 have aa:L.length=a.length+b.length:=by rw[d.length_eq];simp
 unfold T8;rw[Qfx e f ha hb I I,Qh,Qq (by rfl),QeQ I,Qh,QfA,Qh];unfold HF;rw[s1,Qh,MG (by simp[aa]),Qh,QqM];cases L with
 |nil=>
  refine⟨[],?_,trivial,by simp,λy=>?_⟩
  ·rw[QqM,<- d.length_eq,Xp,show decide ((0:Int)<((([]:Y Sp2).length:Nat):Int))=false from rfl,QqG];rfl
  ·rw[<- Qar,<- Q79 d]
 |cons q L=>
  obtain⟨x,z⟩:=q;have hq:=hr (x,z) (.head _);have ac:L.length+1<=12:=by simp at aa;omega
  have hm:=Q3e (n:=400) (K:=λw=>(some (w,((x,z)::L).map Yk):oP (LL×LL))) (k0:=λ_ _ w=>some (w,((x,z)::L).map Yk)) (λ_ _ _=>rfl) (l:=(x,z)::L) Q3 L 1 399 [] x z rfl I Q3;have ai:∀k0:Int->Bool->LL->oP (LL×LL),Xp 400 ((((x,z)::L).length:Nat):Int) (((x,z)::L).map Yk) k0 400 0 []=Xp 400 ((((x,z)::L).length:Nat):Int) (((x,z)::L).map Yk) k0 399 ((1:Nat):Int) (([]++[(x,z)]).map Yk):=λk0=>by
   rw[Xp,show decide ((0:Int)<((((x,z)::L).length:Nat):Int))=true from QqR Q2,QqI,XQ I Q2,show(((x,z)::L).map Yk)[Int.toNat 0]? = some (Yk (x,z))from rfl,show decide (wJ (((([]:LL).length:Nat):Int)-1)>=0)=false from rfl];simp -implicitDefEqProofs only[Qh,QbT,Qbm,gbF,QqG,t2d];rw[XI Q2,Qh];rfl
  refine⟨mgS x z L,?_,Qa2 hq.1 hq.2.1 hq.2.2 s2 (λq h=>(hr q (.tail _ h)).2),?_,λy=>?_⟩
  ·rw[ai,hm,Qh,MG (by simp at aa ⊢;omega),Qh];rfl
  ·have:=Q65 (a:=x) (b:=z) (r:=L);simp at aa;omega
  ·rw[Q9T s2 hq.2.1 (λq h=>(hr q (.tail _ h)).2.1),<- Qar,<- Q79 d,Th]
end
def FB(t:Int)(A B:Y Occ)(y:Int):Prop:=∃x a b c d,(x,a,b)∈A/\(x,c,d)∈B/\(y-(a-d+1)) % t<b-a+d-c-1
theorem QbG{t:Int}{q:Occ}{A B:Y Occ}{y:Int}(h:∀p∈B,p.1≠q.1):FB t (q::A) B y↔FB t A B y:=by
 constructor
 ·rintro⟨x,a,b,c,d,e,h2,f⟩;cases e with
  |head=>grind
  |tail _ e=>exact⟨x,a,b,c,d,e,h2,f⟩
 ·rintro⟨x,a,b,c,d,e,h2,f⟩;exact⟨x,a,b,c,d,.tail _ e,h2,f⟩
theorem QbU{t:Int}{q:Occ}{A B:Y Occ}{y:Int}(h:∀p∈A,p.1≠q.1):FB t A (q::B) y↔FB t A B y:=by
 constructor
 ·rintro⟨x,a,b,c,d,e,h2,f⟩;cases h2 with
  |head=>grind
  |tail _ h2=>exact⟨x,a,b,c,d,e,h2,f⟩
 ·rintro⟨x,a,b,c,d,e,h2,f⟩;exact⟨x,a,b,c,d,e,.tail _ h2,f⟩
theorem QeN{t x a b c d:Int}{A B:Y Occ}{y:Int}(hA:∀p∈A,p.1≠x)(hB:∀p∈B,p.1≠x):FB t ((x,a,b)::A) ((x,c,d)::B) y↔(y-(a-d+1)) % t<b-a+d-c-1\/FB t A B y:=by
 constructor
 ·rintro⟨x',a',b',c',d',e,h2,f⟩;cases e with
  |head=>
   grind
  |tail _ e=>
   cases h2 with
   |head=>exact(hA (x,a',b') e rfl).elim
   |tail _ h2=>exact .inr ⟨x',a',b',c',d',e,h2,f⟩
 ·rintro (h | ⟨x',a',b',c',d',e,h2,f⟩)
  ·exact⟨x,a,b,c,d,.head _,.head _,h⟩
  ·exact⟨x',a',b',c',d',.tail _ e,.tail _ h2,f⟩
theorem Qhd(y f t:Int):(y-f % t) % t=(y-f) % t:=by
 rw[Int.sub_emod,Int.emod_emod,<- Int.sub_emod]
section
variable{R:Type} {n:Nat} {t:Int}
theorem Mh(q:Occ):(enc q)[0]? = some (Ql q.1):=rfl
theorem F2(q:Occ):(enc q)[1]? = some (Ql q.2.1):=rfl
theorem Ed(q:Occ):(enc q)[2]? = some (Ql q.2.2):=rfl
theorem Q4f{O:Y Occ}(hl:O.length<=1000){k0:oP R}{k1:Int->Int->Bool->oP R}{E:oP R}(hk:∀a b c,k1 a b c=E):∀(aa:Y Occ) (i m:Nat) (last:Int),O.drop i=aa->aa.length<m->OL last aa->U6 n (O.map enc) (O.length:Int) k0 k1 m last (i:Int)=E
 |[],i,m+1,last,hd,_,_=>by
  have:=ZX hd;rw[U6,show decide ((i:Int)<(O.length:Int))=false by simpa using this,QqG,hk]
 |(x,a,b)::aa,i,m+1,last,hd,hm,⟨d,h2,f,g,h5,h6⟩=>by
  obtain⟨e,ac,hi⟩:=Yc hd;rw[U6,Qt hi,QqI,X5 e];simp -implicitDefEqProofs only[Qh,Mh,F2,Ed,Qj,Q5 (x<=last),Q5 (a>=b),Q5 (a < -65536),Q5 (b>65536),QqG,QI (show i<=1000 by omega)];exact Q4f hl hk aa (i+1) m x ac (by simpa using hm) h6
theorem Q5o{O:Y Occ}(hl:O.length<=300)(h:OL (-1) O):Jh 400 (O.map enc) (some:Bool->oP Bool)=some true:=by
 unfold Jh;rw[QqM];exact Q4f I (λ_ _ _=>rfl) O 0 400 (-1) rfl I h
theorem Qjm{α:Type}(q:α)(l:Y α):slB (q::l).length (some (1:Int)) none=some (1,l.length+1)/\cut (q::l) (1,l.length+1)=l:=by
 grind[slB,cut]
theorem Fi(e:1<=t)(j:t<=7200){K:LL->oP R}{k0:LL->LL->Bool->LL->oP R}(hk:∀a b c w,k0 a b c w=K w):∀(m:Nat) (A B:Y Occ) (acc:Y Sp2) (lA lB:Int),A.length+B.length<m->OL lA A->OL lB B->VS t (-1) acc->acc.length+2*A.length<=12 ->
  ∃aa:Y Sp2,QG 400 t k0 m (A.map enc) (B.map enc) (acc.map Yk)=K (aa.map Yk)/\VS t (-1) aa/\aa.length<=12/\∀y,0<=y->y<t->(InS y aa↔InS y acc\/FB t A B y)
 |m+1,[],B,acc,lA,lB,_,_,_,hv,hl=>by
  refine⟨acc,?_,hv,I,λy _ _=>⟨.inl,?_⟩⟩
  ·rw[QG,show decide (((([]:Y Occ).map enc).length:Int)>0)=false from rfl,QqG,QqG,hk]
  ·rintro (h | ⟨x,a,b,c,d,h,_⟩)
   all_goals grind
 |m+1,q::A,[],acc,lA,lB,_,_,_,hv,hl=>by
  refine⟨acc,?_,hv,by simp at hl;omega,λy _ _=>⟨.inl,?_⟩⟩
  ·rw[QG,show decide (((([]:Y Occ).map enc).length:Int)>0)=false from rfl,show decide ((((q::A).map enc).length:Int)>0)=true from QqR Q2,QqI,QqG,hk]
  ·rintro (h | ⟨x,a,b,c,d,_,h,_⟩)
   ·exact h
   ·nomatch h
 |m+1,(x,a,b)::A,(x',c,d)::B,acc,lA,lB,hm,hA,hB,hv,hl=>by
  obtain⟨a1,a2,a3,a4,a5,v⟩:=id hA;obtain⟨b1,b2,b3,b4,b5,z⟩:=id hB;have ar:A.length+B.length+2<m+1:=by simp at hm;omega
  have a6:acc.length+2*A.length+2<=12:=by simp at hl;omega
  have cA:=Qjm (enc (x,a,b)) (A.map enc);have cB:=Qjm (enc (x',c,d)) (B.map enc);have ai:∀p∈A,x<p.1:=λp hp=>(v.mem p hp).1
  have ac:∀p∈B,x'<p.1:=λp hp=>(z.mem p hp).1
  rw[QG];simp -implicitDefEqProofs only[List.map_cons,show decide ((((enc (x,a,b)::A.map enc).length:Nat):Int)>0)=true from QqR Q2,show decide ((((enc (x',c,d)::B.map enc).length:Nat):Int)>0)=true from QqR Q2,QqI,show ∀(r:Y D) (l:LL),Qi (r::l) 0=some r from λ_ _=>rfl,Qh,Mh,F2,Ed,Qj,cA,cB];rcases Int.lt_trichotomy x x' with hx | hx | hx
  ·rw[show(x == x')=false by simp;omega,Q6 (x<=x'),Q5 (x>=x')];simp -implicitDefEqProofs only[QqI,QqG];obtain⟨aa,g1,n,o,s⟩:=Fi e j hk m A ((x',c,d)::B) acc x lB Q3 v hB hv I;refine⟨aa,g1,n,o,λy g i=>?_⟩;rw[s y g i,QbG (λp hp=>?_)];cases hp with
   |head=>dsimp only;omega
   |tail _ hp=>have:=ac p hp;dsimp only;omega
  ·subst hx;have f0:wJ (wJ (a-d)+1)=a-d+1:=by rw[Qo (x:=a-d) I I,Qo I I]
   have f1:wJ (wJ (wJ (wJ (b-c)-1)-(a-d+1))+1)=b-a+d-c-1:=by
    rw[Qo (x:=b-c) I I,Qo (x:=b-c-1) I I,Qo (x:=b-c-1-(a-d+1)) I I,Qo I I];omega
   have e0:=Qr3 (a-d+1) (show t≠0 by omega);have e1:=Qr0 (a-d+1) (show 0<t by omega);have ak:=QhW (t:=t) (f:=a-d+1) (k:=b-a+d-c-1) e j I I I I;have a7:=Q9P (t:=t) (x:=(a-d+1) % t) (k:=b-a+d-c-1);obtain⟨u,u1,u2,u3,u4⟩:=QgO e j hv (QbH (k:=b-a+d-c-1) e e0 e1) I;rw[show(x == x)=true by simp,Q6 (x<=x)];simp -implicitDefEqProofs only[QqI];unfold Zb;rw[f0,f1,ak,Qh,u1,Qh,QfA,Qh];obtain⟨aa,g1,n,o,s⟩:=Fi e j hk m A B u x x I v z u2 I;refine⟨aa,g1,n,o,λy g i=>?_⟩;rw[s y g i,u4,Qcj e0 e1 g i,Qhd,QeN (λp hp=>by have:=ai p hp;omega) (λp hp=>by have:=ac p hp;omega),or_assoc]
  ·rw[show(x == x')=false by simp;omega,Q5 (x<=x'),Q6 (x>=x')];simp -implicitDefEqProofs only[QqI,QqG];obtain⟨aa,g1,n,o,s⟩:=Fi e j hk m ((x,a,b)::A) B acc lA x' Q3 hA z hv hl;refine⟨aa,g1,n,o,λy g i=>?_⟩;rw[s y g i,QbU (λp hp=>?_)];cases hp with
   |head=>dsimp only;omega
   |tail _ hp=>have:=ai p hp;dsimp only;omega
theorem Qi1{A B:Y Occ}(a:1<=t)(b:t<=7200)(hA:OL (-1) A)(hB:OL (-1) B)(lA:A.length<=6)(lB:B.length<=6):∃F:Y Sp2,Jf 400 t (A.map enc) (B.map enc) Tu2=some (F.map Yk,(0:Int))/\VS t (-1) F/\F.length<=12/\∀y,0<=y->y<t->(InS y F↔FB t A B y):=by
 obtain⟨F,g1,e,f,g⟩:=Fi a b (K:=λw=>(some w:oP LL)) (k0:=λ_ _ _ w=>some w) (λ_ _ _ _=>rfl) 400 A B [] (-1) (-1) I hA hB trivial Q3;refine⟨F,?_,e,f,λy i j=>?_⟩
 ·unfold Jf;dsimp only[jn];rw[Q5o I hA,Q5o I hB,Q5 (t<1),Q5 (t>7200)];simp -implicitDefEqProofs only[QqG,Qh,QqT];unfold KN;rw[show QG 400 t (λl m n k=>(some k:oP LL)) 400 (A.map enc) (B.map enc) []=_ from g1,Qh]
 ·rw[g y i j];exact⟨λh=>h.elim (λh=>absurd h F1) id,.inr⟩
def Q3N(t:Int)(q:Sp2):Sp2:=(q.2,q.1+t-1)
theorem QcK(c:t<=7200)(d:1<=t){K:LL->oP R}{k0:Int->Bool->LL->oP R}(hk:∀a b w,k0 a b w=K w){l:Y Sp2}(hl:l.length<=1000):∀(aa:Y Sp2) (i m:Nat),l.drop i=aa->aa.length<m->(∀q∈l,-1<q.1/\q.1<=t)->ZD n t (l.map Yk) (l.length:Int) k0 m (i:Int) (((l.take i).map (Q3N t)).map Yk)=K ((l.map (Q3N t)).map Yk)
 |[],i,m+1,hd,_,_=>by
  have:=ZX hd;rw[ZD,show decide ((i:Int)<(l.length:Int))=false by simpa using this,QqG,hk,List.take_of_length_le this]
 |(a,b)::aa,i,m+1,hd,hm,hr=>by
  obtain⟨e,ac,hi⟩:=Yc hd;have ha:=hr (a,b) (QqJ e);rw[ZD,Qt hi,QqI,X5 e];simp -implicitDefEqProofs only[Qh,QbT,Qbm,Qj,QI (show i<=1000 by omega),Qo (x:=a+t) I I,Qo (x:=a+t-1) I I,XI (show((((l.take i).map (Q3N t)).map Yk).length+[[D.int .i64 b,D.int .i64 (a+t-1)]].length)*16<=100000 by simp;omega)];have:=QcK c d hk hl aa (i+1) m ac (by simpa using hm) hr;rw[Zv e,QqS,QqS]at this;exact this
theorem QcC(c:t<=7200)(d:1<=t){K:LL->oP R}{k0:Int->Bool->LL->oP R}(hk:∀a b w,k0 a b w=K w){l:Y Sp2}(hl:l.length<=1000):∀(aa:Y Sp2) (i m:Nat),l.drop i=aa->aa.length<m->(∀q∈l,-1<q.1/\q.1<=t)->YL n t (l.length:Int) (l.map Yk) k0 m (i:Int) (((l.take i).map (Q3N t)).map Yk)=K ((l.map (Q3N t)).map Yk)
 |[],i,m+1,hd,_,_=>by
  have:=ZX hd;rw[YL,show decide ((i:Int)<(l.length:Int))=false by simp_all,QqG,hk,List.take_of_length_le this]
 |(a,b)::aa,i,m+1,hd,hm,hr=>by
  obtain⟨e,ac,hi⟩:=Yc hd;have ha:=hr (a,b) (QqJ e);have f:(l.map Yk)[i]? = some (Yk (a,b)):=by rw[QqX,e];rfl
  rw[YL,Qt hi,QqI,QqM,XQ I I,QqH,f];simp -implicitDefEqProofs only[Qh,QbT,Qbm,Qj,QI (show i<=1000 by omega),Qo (x:=a+t) I I,Qo (x:=a+t-1) I I,XI (show((((l.take i).map (Q3N t)).map Yk).length+[[D.int .i64 b,D.int .i64 (a+t-1)]].length)*16<=100000 by simp;omega)];have:=QcC c d hk hl aa (i+1) m ac (by simpa using hm) hr;rw[Zv e,QqS,QqS]at this;exact this
def WR(t:Int)(F G:Y Sp2):Prop:=(G=F/\∀b M c,F≠(0,b)::(M++[(c,t)]))\/∃b M c,F=(0,b)::(M++[(c,t)])/\G=M++[(c,t+b)]
theorem QbY{A B:Y Occ}(r:2<=t)(f:t<=7200)(hA:OL (-1) A)(hB:OL (-1) B)(lA:A.length<=6)(lB:B.length<=6):∃F G:Y Sp2,VS t (-1) F/\F.length<=12/\(∀y,0<=y->y<t->(InS y F↔FB t A B y))/\WR t F G /\
  WJ 400 t (A.map enc) (B.map enc) Tu2=some (if cnt F=t then([],(13:Int))else((G.map (Q3N t)).map Yk,(0:Int))):=by
 obtain⟨F,g1,j,k,m⟩:=Qi1 (t:=t) I f hA hB lA lB;have hr:=j.rng;suffices h:∃G,WR t F G/\WJ 400 t (A.map enc) (B.map enc) Tu2=some (if cnt F=t then([],(13:Int))else((G.map (Q3N t)).map Yk,(0:Int))) by
  obtain⟨G,h⟩:=h;exact⟨F,G,j,k,m,h⟩
 unfold WJ;rw[g1,Qh,Qq (by rfl)];dsimp only;rw[Qhl I f I j,Qh];have aa:YL 400 t (F.length:Int) (F.map Yk) (λs u o=>(some (o,(0:Int)):oP (LL×Int))) 400 0 []=some ((F.map (Q3N t)).map Yk,(0:Int)):=QcC f I (K:=λw=>some (w,(0:Int))) (k0:=λ_ _ w=>some (w,(0:Int))) (λ_ _ _=>rfl) I F 0 400 rfl I (λq hq=>by have:=hr q hq;omega);by_cases ac:cnt F=t
 ·simp only[Qr4 ac];rw[Xh (by simpa using ac)];by_cases hw:∃b M c,F=(0,b)::(M++[(c,t)])
  ·obtain⟨b,M,c,e⟩:=hw;exact⟨_,.inr ⟨b,M,c,e,rfl⟩,rfl⟩
  ·exact⟨F,.inl ⟨rfl,λb M c e=>hw ⟨b,M,c,e⟩⟩,rfl⟩
 simp only[Qr2 ac];rw[Qq (by simpa using ac),QqM];rcases F with _ | ⟨⟨a,b⟩,F⟩
 ·refine⟨[],.inl ⟨rfl,λb M c e=>(nomatch e)⟩,?_⟩;rw[show decide (((([]:Y Sp2).length:Nat):Int)>1)=false from rfl];simp -implicitDefEqProofs only[gbF,QqG];exact aa
 rcases List.eq_nil_or_concat F with rfl | ⟨M,⟨c,d⟩,rfl⟩
 ·refine⟨[(a,b)],.inl ⟨rfl,λb M c e=>by have:=congrArg List.length e;simp at this⟩,?_⟩;rw[show decide ((((([(a,b)]:Y Sp2)).length:Nat):Int)>1)=false from rfl];simp -implicitDefEqProofs only[gbF,QqG];exact aa
 have hM:M.length<=10:=by simp at k;omega
 have ai:((a,b)::(M++[(c,d)])).length=M.length+1+1:=by simp
 have ax:=hr (c,d) Q2;have am:=hr (a,b) Q2;have e1:((a,b)::(M++[(c,d)])).map Yk=(Yk (a,b)::M.map Yk)++Yk (c,d)::[]:=by simp
 have gl:(((a,b)::(M++[(c,d)])).map Yk)[M.length+1]? = some (Yk (c,d)):=by rw[e1];exact Qhc Q2
 have sl:∀v,(((a,b)::(M++[(c,d)])).map Yk).set (M.length+1) (Yk (c,v))=((a,b)::(M++[(c,v)])).map Yk:=λv=>by rw[e1,Qhu Q2];simp
 rw[List.concat_eq_append]at *
 rw[ai,Q6 (((M.length+1+1:Nat):Int)>1),JT (show M.length+1+1<=1000 by omega) I,Nat.add_sub_cancel,XQ I I,XQ I I];simp -implicitDefEqProofs only[Qh,QqH,gl,QqI,show(((a,b)::(M++[(c,d)])).map Yk)[Int.toNat 0]? = some (Yk (a,b))from rfl,QbT,Qbm,Qj,QjA];by_cases ak:a=0/\d=t
 ·obtain⟨rfl,rfl⟩:=ak;refine⟨M++[(c,d+b)],.inr ⟨b,M,c,rfl,rfl⟩,?_⟩;rw[show((0:Int) == 0)=true from rfl,show(d == d)=true by simp,QqI,QqI,Qo (x:=d+b) I I,sl];have aj:=Qjm (Yk (0,b)) ((M++[(c,d+b)]).map Yk);rw[List.map_cons,aj.1,Qh,aj.2,QqM];exact QcK (n:=400) f I (K:=λw=>(some (w,(0:Int)):oP (LL×Int))) (k0:=λ_ _ w=>some (w,(0:Int))) (λ_ _ _=>rfl) (l:=M++[(c,d+b)]) Q3 (M++[(c,d+b)]) 0 400 rfl Q3 (λq hq=>by
   rcases QqP.1 hq with h | h
   ·have:=hr q (.tail _ (Qrf _ h));omega
   ·obtain rfl:=QqV.1 h;dsimp only at *
    omega)
 ·have hz:(bif (a == (0:Int))then(d == t)else false)=false:=by
   by_cases ha:a=0
   ·rw[ha,show((0:Int) == 0)=true from rfl,QqI];simp only[beq_eq_false_iff_ne];exact λh=>ak ⟨ha,h⟩
   ·rw[show(a == (0:Int))=false by simpa using ha,QqG]
  refine⟨_,.inl ⟨rfl,λb' M' c' e=>ak ?_⟩,?_⟩
  ·have e2:=List.cons.inj e;have p:=List.append_inj_right' e2.2 rfl;have:=(Prod.mk.inj e2.1).1;have:=(Prod.mk.inj (List.cons.inj p).1).2;exact⟨I,I⟩
  rw[hz,QqG];rw[ai]at aa;exact aa
end
theorem Tt{α β:Type}{r:Nat->Int->β}{l:Y α}{p:α->Bool}{E0 E1:β}(a:∀m i q,l[i]? = some q->i<l.length->r (m+1) (i:Int)=bif p q then r m ((i+1:Nat):Int)else E0)(b:∀m,r (m+1) (l.length:Int)=E1){fuel:Nat}(hf:l.length<fuel):r fuel 0=bif l.all p then E1 else E0:=by
 have go:∀(aa:Y α) (i m:Nat),l.drop i=aa->aa.length<m->i<=l.length->r m (i:Int)=bif aa.all p then E1 else E0:=by
  intro aa;induction aa with
  |nil=>
   intro i m hd hm hi;obtain⟨m,rfl⟩:∃k,m=k+1:=⟨m-1,I⟩
   grind
  |cons q aa ih=>
   intro i m hd hm hi;obtain⟨m,rfl⟩:∃k,m=k+1:=⟨m-1,I⟩
   grind[Yc]
 exact go l 0 fuel rfl hf (Qro _)
theorem FD{α β S:Type}{r:Nat->Int->S->β}{l:Y α}{f:S->α->S}{E:S->β}(a:∀m i q s,l[i]? = some q->i<l.length->r (m+1) (i:Int) s=r m ((i+1:Nat):Int) (f s q))(b:∀m s,r (m+1) (l.length:Int) s=E s){fuel:Nat}(hf:l.length<fuel)(s:S):r fuel 0 s=E (l.foldl f s):=by
 have go:∀(aa:Y α) (i m:Nat) (s:S),l.drop i=aa->aa.length<m->i<=l.length->r m (i:Int) s=E (aa.foldl f s):=by
  intro aa;induction aa with
  |nil=>
   intro i m s hd hm hi;obtain⟨m,rfl⟩:∃k,m=k+1:=⟨m-1,I⟩
   grind
  |cons q aa ih=>
   intro i m s hd hm hi;obtain⟨m,rfl⟩:∃k,m=k+1:=⟨m-1,I⟩;obtain⟨e,ai,ac⟩:=Yc hd;rw[a m i q s e ac,Qrm,ih (i+1) m _ ai Q4 ac]
 exact go l 0 fuel s rfl hf (Qro _)
theorem E5{α:Type}{p:α->Bool}:∀{l:Y α} {c:Bool},l.foldl (λc q=>c||p q) c=(c||l.any p)
 |[],c=>(Bool.or_false c).symm
 |q::l,c=>by rw[Qrm,E5,List.any_cons,Bool.or_assoc]
def Lz(t:Int)(q:Occ):Bool:=!decide (q.2.2-q.2.1>t)
theorem Qjt{l:Int}{O:Y Occ}(hO:OL l O){q:Occ}(hq:q∈O):wJ (q.2.2-q.2.1)=q.2.2-q.2.1:=by
 have:=hO.mem q hq
 grind[Qo]
theorem QgE{t:Int}{O:Y Occ}(a:1<=t)(b:t<=7200)(hO:OL (-1) O)(hl:O.length<=300):HX 400 t (O.map enc) (some:Bool->oP Bool)=some (O.all (Lz t)):=by
 unfold HX;rw[Q5 (t<1),Q5 (t>7200),Q5o hl hO];simp -implicitDefEqProofs only[QqG,Qh,QqT,Qr7,QqM];refine(Tt (r:=λm i=>Uc 400 t (O.map enc) (O.length:Int) (some false) (λ_ _=>some true) m i) (l:=O) (p:=Lz t) (E0:=some false) (E1:=some true) (λm i q e hi=>?_) (λm=>?_) I).trans (by cases O.all (Lz t)<;>rfl)
 ·rw[Uc,Qt hi,QqI,X5 e];simp -implicitDefEqProofs only[Qh,Mh,F2,Ed,Qj,QI (show i<=1000 by omega),Qjt hO (QqJ e)];unfold Lz;cases decide (q.2.2-q.2.1>t)<;>rfl
 ·rw[Uc,Qz,QqG]
def tie(la:Int)(x y:Occ):Bool:=bif x.1 == y.1 then decide (la+y.2.1<=x.2.2)else false
def Q3k(per la mo:Int)(x y:Occ):Bool:=decide ((if x.2.2<mo+y.2.2 then mo+y.2.2 else x.2.2)-(if la+y.2.1<x.2.1 then la+y.2.1 else x.2.1)>per)
def Q9L(per la mo:Int)(A B:Y Occ):Bool:=A.any λx=>B.any λy=>bif tie la x y then Q3k per la mo x y else false
def Q4X(la:Int)(A B:Y Occ)(r:Int):Bool:=A.any λx=>B.any λy=>bif tie la x y then x.1 == r else false
namespace Cx
variable{R:Type} {n:Nat} {X:Cx}
theorem Qi6{per la mo:Int}{O:Y Occ}(hO:OL (-1) O)(hl:O.length<=300){x:Occ}(hx : -1000<=x.2.1/\x.2.1<x.2.2/\x.2.2<=20000)(d:0<=la)(f:la<=20000)(h2:0<=mo)(g:mo<=20000){k0:Int->Bool->Bool->oP R}{Kc:Bool->oP R}(hk:∀a b c,k0 a b c=Kc c)(c:Bool) :
  QZ n (O.map enc) (O.length:Int) la (Ql x.1) (Ql x.2.1) (Ql x.2.2) per la mo k0 400 0 c=Kc (c||O.any λy=>bif tie la x y then Q3k per la mo x y else false):=by
 rw[<- E5];refine FD (r:=λm i c=>QZ n (O.map enc) (O.length:Int) la (Ql x.1) (Ql x.2.1) (Ql x.2.2) per la mo k0 m i c) (E:=Kc) (λm i q c e hi=>?_) (λm c=>?_) I c
 ·have:=hO.mem q (QqJ e);rw[QZ,Qt hi,QqI,X5 e];simp -implicitDefEqProofs only[Qh,Mh,F2,Ed,Qj,QI (show i<=1000 by omega),Qo (x:=la+q.2.1) I I];unfold Yi;simp -implicitDefEqProofs only[Qh,Qo (x:=la+q.2.1) I I,Qo (x:=mo+q.2.2) I I];rw[Qo (x:=(if x.2.2<mo+q.2.2 then mo+q.2.2 else x.2.2)-(if la+q.2.1<x.2.1 then la+q.2.1 else x.2.1)) (by split<;>split<;>omega) (by split<;>split<;>omega)];show(bif tie la x q then QZ n (O.map enc) (O.length:Int) la (Ql x.1) (Ql x.2.1) (Ql x.2.2) per la mo k0 m ((i+1:Nat):Int) (bif c then true else Q3k per la mo x q)else _)=_;cases tie la x q<;>cases c<;>rfl
 ·rw[QZ,Qz,QqG,hk]
theorem map1{la:Int}{O:Y Occ}(hO:OL (-1) O)(hl:O.length<=300){x:Occ}(d:0<=la)(f:la<=20000){k0:Int->Bool->(Int->Bool)->oP R}{Kc:(Int->Bool)->oP R}(hk:∀a b c,k0 a b c=Kc c)(c:Int->Bool) :
  Xc n (O.map enc) (O.length:Int) la (Ql x.1) (Ql x.2.1) (Ql x.2.2) k0 400 0 c=Kc (O.foldl (λc y=>bif tie la x y then Q7K c x.1 true else c) c):=by
 refine FD (r:=λm i c=>Xc n (O.map enc) (O.length:Int) la (Ql x.1) (Ql x.2.1) (Ql x.2.2) k0 m i c) (E:=Kc) (λm i q c e hi=>?_) (λm c=>?_) I c
 ·have:=hO.mem q (QqJ e);rw[Xc,Qt hi,QqI,X5 e];simp -implicitDefEqProofs only[Qh,Mh,F2,Ed,Qj,QI (show i<=1000 by omega),Qo (x:=la+q.2.1) I I];unfold XH;simp -implicitDefEqProofs only[Qh];show(bif tie la x q then _ else _)=_;cases tie la x q<;>rfl
 ·rw[Xc,Qz,QqG,hk]
theorem Qg8{q:Int->Bool}{x r:Int}:Q7K q x true r=(q r||(x == r)):=by
 grind[Q7K]
theorem Qgi{la:Int}{x:Occ}{r:Int}:∀{O:Y Occ} {c:Int->Bool},O.foldl (λc y=>bif tie la x y then Q7K c x.1 true else c) c r=(c r||O.any λy=>bif tie la x y then x.1 == r else false)
 |[],c=>(Bool.or_false _).symm
 |y::O,c=>by
  rw[Qrm,Qgi,List.any_cons];cases tie la x y
  ·rfl
  ·rw[QqI,QqI,Qg8,Bool.or_assoc]
def occN(X:Cx)(a:Nat):Y Occ:=(X.occs X.L).getD a []
def N(X:Cx):Nat:=base X.nr X.L
variable(h:X.OK)
include h
theorem Jm{a:Nat}(ha:a<X.N):Qi (GU (X.occs X.L)) (a:Int)=some [D.sl 3 ((X.occN a).map enc)]/\OL (-1) (X.occN a)/\(X.occN a).length<=6:=by
 obtain⟨i,k,b,h2,rfl⟩:=Q2y ha;have e:X.occN (base X.nr i+k)=X.occ i k:=by
  unfold occN;rw[QqN,show(X.occs X.L)[base X.nr i+k]? = some (X.occ i k)from Q20 h2 b];rfl
 rw[e];exact⟨Qgl b h2,Qgk h b h2⟩
theorem Qep:X.jns.length<=30:=by
 have:=QeM h (i:=X.L) (Qrj _);have:=h.tl
 grind[jns,List.length_append,List.length_map]
structure JOK(X:Cx)(J:List Tup):Prop where
 at':∀t∈J,t.1<X.N/\t.2.1<X.N/\0<=t.2.2.1/\t.2.2.1<=20000/\0<=t.2.2.2/\t.2.2.2<=20000
 len:J.length<=30
theorem QiQ{J:Y Tup}(hJ:X.JOK J){per:Int}{t:Tup}(ht:t∈J)(K:Bool->oP R):ZY 400 per (GU (X.occs X.L)) (t.1:Int) (t.2.1:Int) t.2.2.1 t.2.2.1 t.2.2.2 false K=K (Q9L per t.2.2.1 t.2.2.2 (X.occN t.1) (X.occN t.2.1)):=by
 have hj:=hJ.at' t ht;have oa:=Jm h hj.1;have ob:=Jm h hj.2.1;unfold ZY Q9L;rw[oa.1];simp -implicitDefEqProofs only[Qh,QqF,X2,QqM];rw[<- Bool.false_or (List.any _ _),<- E5];refine FD (r:=λm i c=>Xy 400 ((X.occN t.1).map enc) (((X.occN t.1).length:Nat):Int) (t.2.1:Int) t.2.2.1 per (GU (X.occs X.L)) t.2.2.1 t.2.2.2 (λb d a=>K a) m i c) (E:=K) (λm i q c e hi=>?_) (λm c=>?_) I false
 ·have hq:=oa.2.1.mem q (QqJ e);rw[Xy,Qt hi,QqI,X5 e,ob.1];simp -implicitDefEqProofs only[Qh,Mh,F2,Ed,QqF,X2,QqM,QI (show i<=1000 by omega)];exact Qi6 (per:=per) ob.2.1 I ⟨hq.2.1,hq.2.2.1,hq.2.2.2.1⟩ hj.2.2.1 hj.2.2.2.1 hj.2.2.2.2.1 hj.2.2.2.2.2 (Kc:=λc=>Xy 400 ((X.occN t.1).map enc) (((X.occN t.1).length:Nat):Int) (t.2.1:Int) t.2.2.1 per (GU (X.occs X.L)) t.2.2.1 t.2.2.2 (λb d a=>K a) m ((i+1:Nat):Int) c) (λ_ _ _=>rfl) c
 ·rw[Xy,Qz,QqG]
theorem Qk9{J:Y Tup}(hJ:X.JOK J){t:Tup}(ht:t∈J)(q:Int->Bool):∃q',(∀K:(Int->Bool)->oP R,ZZ 400 (GU (X.occs X.L)) (t.1:Int) (t.2.1:Int) t.2.2.1 q K=K q')/\∀r,q' r=(q r||Q4X t.2.2.1 (X.occN t.1) (X.occN t.2.1) r):=by
 have hj:=hJ.at' t ht;have oa:=Jm h hj.1;have ob:=Jm h hj.2.1;refine⟨(X.occN t.1).foldl (λq x=>(X.occN t.2.1).foldl (λc y=>bif tie t.2.2.1 x y then Q7K c x.1 true else c) q) q,λK=>?_,λr=>?_⟩
 ·unfold ZZ;rw[oa.1];simp -implicitDefEqProofs only[Qh,QqF,X2,QqM];refine FD (r:=λm i c=>Xz 400 ((X.occN t.1).map enc) (((X.occN t.1).length:Nat):Int) (t.2.1:Int) t.2.2.1 (GU (X.occs X.L)) (λb d a=>K a) m i c) (E:=K) (λm i q c e hi=>?_) (λm c=>?_) I q
  ·rw[Xz,Qt hi,QqI,X5 e,ob.1];simp -implicitDefEqProofs only[Qh,Mh,F2,Ed,QqF,X2,QqM,QI (show i<=1000 by omega)];exact map1 ob.2.1 I hj.2.2.1 hj.2.2.2.1 (Kc:=λc=>Xz 400 ((X.occN t.1).map enc) (((X.occN t.1).length:Nat):Int) (t.2.1:Int) t.2.2.1 (GU (X.occs X.L)) (λb d a=>K a) m ((i+1:Nat):Int) c) (λ_ _ _=>rfl) c
  ·rw[Xz,Qz,QqG]
 ·unfold Q4X;generalize X.occN t.1=A;induction A generalizing q with
  |nil=>exact(Bool.or_false _).symm
  |cons x A ih=>rw[Qrm,ih,Qgi,List.any_cons,Bool.or_assoc]
def jab(a b:Nat)(t:Tup):Bool:=bif (bif (t.1:Int) == (a:Int)then(t.2.1:Int) == (b:Int)else false)then true else bif (t.1:Int) == (b:Int)then(t.2.1:Int) == (a:Int)else false
def TRb(X:Cx)(J:Y Tup)(a b:Nat)(r:Int):Bool:=J.any λt=>bif jab a b t then Q4X t.2.2.1 (X.occN t.1) (X.occN t.2.1) r else false
theorem QiS{J:Y Tup}(hJ:X.JOK J){a b:Nat}:∃q,(Y9 400 (GU (X.occs X.L)) (J.map tuR) (a:Int) (b:Int) some:oP (Int->Bool))=some q/\∀r,q r=X.TRb J a b r:=by
 have hl:=hJ.len;unfold Y9;rw[QqM];have go:∀(aa:Y Tup) (i m:Nat) (q:Int->Bool),J.drop i=aa->aa.length<m->∃q',(QL 400 (a:Int) (b:Int) (J.map tuR) (J.length:Int) (GU (X.occs X.L)) (λl n j=>some j) m (i:Int) q:oP (Int->Bool))=some q'/\∀r,q' r=(q r||X.TRb aa a b r):=by
  intro aa;induction aa with
  |nil=>
   intro i m q hd hm;obtain⟨m,rfl⟩:∃k,m=k+1:=⟨m-1,by simp at hm;omega⟩;have:=ZX hd;exact⟨q,by rw[QL,show decide ((i:Int)<(J.length:Int))=false by simpa using this,QqG],λr=>(Bool.or_false _).symm⟩
  |cons t aa ih=>
   intro i m q hd hm;obtain⟨m,rfl⟩:∃k,m=k+1:=⟨m-1,by simp at hm;omega⟩;obtain⟨e,ai,hi⟩:=Yc hd;obtain⟨q1,c,h2⟩:=Qk9 (R:=Int->Bool) h hJ (QqJ e) q;rw[QL,Qt hi,QqI,X5 e];simp -implicitDefEqProofs only[Qh,tuR,QqF,QqK,Qj,QI (show i<=1000 by omega),c];show ∃q',(bif jab a b t then _ else _)=some q'/\_;cases ac:jab a b t with
   |false=>
    obtain⟨d,f,g⟩:=ih (i+1) m q ai (by simpa using hm);refine⟨d,f,λr=>?_⟩;rw[g,TRb,TRb,List.any_cons,ac,QqG,Bool.false_or]
   |true=>
    obtain⟨d,f,g⟩:=ih (i+1) m q1 ai (by simpa using hm);refine⟨d,f,λr=>?_⟩;rw[g,h2,TRb,TRb,List.any_cons,ac,QqI,Bool.or_assoc]
 obtain⟨q,c,h2⟩:=go J 0 400 (λ_=>false) rfl I;exact⟨q,c,λr=>by rw[h2,Bool.false_or]⟩
theorem QaH:∀o∈X.occs X.L,OL (-1) o/\o.length<=6:=by
 intro o ho;obtain⟨a,ha⟩:=List.getElem?_of_mem ho;have aa:=(QqU.1 ha).1;rw[show(X.occs X.L).length=X.N from ZG]at aa;obtain⟨b,h2⟩:=(Jm h aa).2
 simp_all [occN,QqN]
def aloneJ(X:Cx)(per:Int)(J:Y Tup):Bool:=bif (X.occs X.L).all (λo=>o.all (Lz per))then J.all λt=>!Q9L per t.2.2.1 t.2.2.2 (X.occN t.1) (X.occN t.2.1)else false
theorem QfC{per:Int}(p0:1<=per)(p1:per<=300){J:Y Tup}(hJ:X.JOK J)(K:Bool->oP R):ZO 400 per (GU (X.occs X.L)) (J.map tuR) K=K (X.aloneJ per J):=by
 have hN:(X.occs X.L).length<=6:=by rw[show(X.occs X.L).length=base X.nr X.L from ZG];exact base_le h
 have hl:=hJ.len;have hO:=QaH h;unfold ZO;rw[Ja,QqM];refine(Tt (r:=λm i=>XN 400 (GU (X.occs X.L)) (((X.occs X.L).length:Nat):Int) per (K false) (λc d=>Xq 400 (J.map tuR) (J.length:Int) per (GU (X.occs X.L)) (K false) (λa b=>K true) 400 0) m i) (l:=X.occs X.L) (p:=λo=>o.all (Lz per)) (E0:=K false) (E1:=bif J.all (λt=>!Q9L per t.2.2.1 t.2.2.2 (X.occN t.1) (X.occN t.2.1))then K true else K false) (λm i o e hi=>?_) (λm=>?_) I).trans ?_
 ·have ho:=hO o (QqJ e);have aa:Qi (GU (X.occs X.L)) (i:Int)=some [D.sl 3 (o.map enc)]:=X5 e;rw[XN,Qt hi,QqI,aa];simp -implicitDefEqProofs only[Qh,QqF,X2,QgE p0 (show per<=7200 by omega) ho.1 (show o.length<=300 by omega),QI (show i<=1000 by omega)];cases o.all (Lz per)<;>rfl
 ·rw[XN,Qz,QqG];refine Tt (r:=λm i=>Xq 400 (J.map tuR) (J.length:Int) per (GU (X.occs X.L)) (K false) (λa b=>K true) m i) (λm i t e hi=>?_) (λm=>?_) I
  ·rw[Xq,Qt hi,QqI,X5 e];simp -implicitDefEqProofs only[Qh,tuR,QqF,QqK,Qj,QI (show i<=1000 by omega),QiQ h hJ (QqJ e)];cases Q9L per t.2.2.1 t.2.2.2 (X.occN t.1) (X.occN t.2.1)<;>rfl
  ·rw[Xq,Qz,QqG]
 ·unfold aloneJ;cases (X.occs X.L).all (λo=>o.all (Lz per))<;>cases J.all (λt=>!Q9L per t.2.2.1 t.2.2.2 (X.occN t.1) (X.occN t.2.1))<;>rfl
end Cx
namespace Cx
def aR(X:Cx)(i k:Nat):Y D:=[Ql 1,Ql ((2*(base X.nr i+k):Nat):Int),Ql ((2*(base X.nr i+k)+1:Nat):Int),Ql (X.run i k),Ql (X.run i k+X.ex i k),Ql (X.w i)]
def aD(X:Cx)(i k:Nat):Y D:=[Ql 2,Ql ((2*(base X.nr i+k)+1:Nat):Int),Ql ((2*(base X.nr i+k+1):Nat):Int),Ql (X.mn i k),Ql (X.mx i k),Ql (X.w i)]
def pl(X:Cx)(i:Nat):Nat->LL
 |0=>[]
 |k+1=>pl X i k++[X.aR i k]++(if k<X.nr i-1 then[X.aD i k]else[])
def pls(X:Cx):Nat->LL
 |0=>[]
 |i+1=>pls X i++X.pl i (X.nr i)
def chE(X:Cx)(row:Y D):Y D:=match row with
 |[.int _ f,.int _ fr,.int _ t,.int _ tr,mn,mx,w]=>[Ql 3,Ql ((2*(base X.nr f.toNat+fr.toNat)+1:Nat):Int),Ql ((2*(base X.nr t.toNat+tr.toNat):Nat):Int),mn,mx,w]
 |_=>[]
def tuE(X:Cx)(t:Tup):Y D:=[Ql 4,Ql ((2*(base X.nr t.1+(X.nr t.1-1))+1:Nat):Int),Ql ((2*(base X.nr t.2.1+0):Nat):Int),Ql t.2.2.1,Ql t.2.2.2,Ql 1]
def syE(X:Cx)(row:Y D):Y D:=match row with
 |[_,_,_,_,o]=>[Ql 5,Ql ((2*(base X.nr 0+0):Nat):Int),Ql ((2*(base X.nr 1+0):Nat):Int),o,o,Ql 0]
 |_=>[]
def planned(X:Cx)(Ch Sy:LL):LL:=X.pls X.L++Ch.map X.chE++X.T.map X.tuE++Sy.map X.syE
variable{R:Type} {n:Nat} {X:Cx}
theorem Q7G{i:Nat}:∀{k:Nat},(X.pl i k).length<=2*k
 |0=>Qrj _
 |k+1=>by
  have:=Q7G (i:=i) (k:=k);rw[pl,Qr5,Qr5];split<;>simp<;>omega
theorem AQ:∀{i:Nat},(X.pls i).length<=2*base X.nr i
 |0=>Qrj _
 |i+1=>by
  have:=AQ (i:=i);have:=Q7G (X:=X) (i:=i) (k:=X.nr i);rw[pls,Qr5,base];omega
structure LsOK(X:Cx)(per:Int)(Ch Sy:LL):Prop where
 ch:∀row∈Ch,∃(f fr t tr:Nat) (mn mx w:Int),row=[Ql f,Ql fr,Ql t,Ql tr,Ql mn,Ql mx,Ql w]/\f<X.Ls.length/\fr<X.nr f/\t<X.Ls.length/\tr<X.nr t/\(0<=mn/\mn<20/\mn<=mx/\mx<mn+per)/\0<=w/\w<3
 chl:Ch.length<=2
 sy:∀row∈Sy,∃o:Int,row=[Ql 0,Ql 0,Ql 1,Ql 0,Ql o]/\0<=o/\o<per/\2<=X.Ls.length
 syl:Sy.length<=1
variable(h:X.OK) {per:Int} {Ch Sy De:LL} (hl:X.LsOK per Ch Sy)
theorem Qfb{A:LL}(hA:A.length<=1000){a1 a2 a b c d:Int}(K:LL->oP R):Xs n A a1 a2 a b c d K=K (A++[[Ql a1,Ql a2,Ql a,Ql b,Ql c,Ql d]]):=by
 grind[Xs,XI,Qh]
include h
theorem Qig{i:Nat}(hi:i<X.Ls.length){k0:Int->Bool->LL->oP R}:QJ 400 (i:Int) (KZ X.Ls i) ((X.nr i:Nat):Int) (Ql (X.w i)) (D.sl 4 (KZ X.Ls i)) (X.fst X.L) (encI (X.runs X.L)) k0 400 0 (X.pls i)=k0 ((X.nr i:Nat):Int) false (X.pls i++X.pl i (X.nr i)):=by
 have hn:=(line h hi).2.1;have hb:=Zr h (i:=i) I;have hp:=AQ (X:=X) (i:=i);have hw:wJ (((List.length (KZ X.Ls i):Nat):Int)-1)=((X.nr i-1:Nat):Int):=JT (k:=X.nr i) I I;refine QY (r:=λm k=>QJ 400 (i:Int) (KZ X.Ls i) ((X.nr i:Nat):Int) (Ql (X.w i)) (D.sl 4 (KZ X.Ls i)) (X.fst X.L) (encI (X.runs X.L)) k0 m k (X.pls i++X.pl i k.toNat)) (N:=X.nr i) (λm k hk=>?_) (λm=>?_) (X.nr i) 400 0 I I |> Eq.trans (by simp[pl])
 ·simp only[QqH];have r:=rd h hi hk;have b:=r.ex0;have e1:=r.ex1;have hr:=EY h hi hk;have aa:Qi (KZ X.Ls i) (k:Int)=some [Ql (rF X.Ls i k 0),Ql (X.ex i k),Ql (X.mn i k),Ql (X.mx i k)]:=by rw[Qp,r.row]
  have ai:=Q7G (X:=X) (i:=i) (k:=k);have ac:=Q6O (X:=X) hi hk;rw[QJ,Qt hk,QqI,aa];simp -implicitDefEqProofs only[Qh,QqF,QqK,Qj,X2,hw,Q1c (n:=400) h hi (show k<=10 by omega),ac,QI (show k<=1000 by omega),Qda (n:=400) (show base X.nr i+k<=1000 by omega),Qib (n:=400) (show base X.nr i+k<=1000 by omega),QI (show base X.nr i+k<=1000 by omega),Qda (n:=400) (show base X.nr i+k+1<=1000 by omega),Qo (x:=X.run i k+X.ex i k) I I,Qfb (n:=400) (A:=X.pls i++X.pl i k) Q3,Qfb (n:=400) (A:=X.pls i++X.pl i k++[[Ql 1,Ql ((2*(base X.nr i+k):Nat):Int),Ql ((2*(base X.nr i+k)+1:Nat):Int),Ql (X.run i k),Ql (X.run i k+X.ex i k),Ql (X.w i)]]) Q3];by_cases a:k<X.nr i-1
  ·rw[Qt a,QqI,pl,Qr4 a,<- QqQ,<- QqQ];rfl
  ·rw[Q5 ((k:Int)<((X.nr i-1:Nat):Int)),QqG,pl,Qr2 a,QqZ,<- QqQ];rfl
 ·simp only[QqH];rw[QJ,Qz,QqG]
include hl
theorem Qbt(K:LL->oP R):Yy 400 X.Ls Ch (X.T.map tuR) Sy (X.fst X.L) (encI (X.runs X.L)) [] K=K (X.planned Ch Sy):=by
 have l1:=h.l1;have tl:=h.tl;have hp:=AQ (X:=X) (i:=X.L);have hb:=base_le h;have chl:=hl.chl;have syl:=hl.syl;unfold Yy;have s2:∀k0:Int->Bool->LL->oP R,QU 400 X.Ls (X.Ls.length:Int) (X.fst X.L) (encI (X.runs X.L)) k0 400 0 []=k0 (X.Ls.length:Int) false (X.pls X.L):=by
  intro k0;refine QY (r:=λm i=>QU 400 X.Ls (X.Ls.length:Int) (X.fst X.L) (encI (X.runs X.L)) k0 m i (X.pls i.toNat)) (N:=X.Ls.length) (λm i hi=>?_) (λm=>?_) X.Ls.length 400 0 I I
  ·simp only[QqH];rw[QU,Qt hi,QqI,Qp,(line h hi).1];simp -implicitDefEqProofs only[Qh,QqF,QqK,X2,QI (show i<=1000 by omega)];exact Qig h hi
  ·simp only[QqH];rw[QU,Qz,QqG];rfl
 have k:∀k0:Int->Bool->LL->oP R,QW 400 Ch (Ch.length:Int) (X.fst X.L) k0 400 0 (X.pls X.L)=k0 (Ch.length:Int) false (X.pls X.L++Ch.map X.chE):=by
  intro k0;refine QY (r:=λm j=>QW 400 Ch (Ch.length:Int) (X.fst X.L) k0 m j (X.pls X.L++(Ch.take j.toNat).map X.chE)) (N:=Ch.length) (λm j hj=>?_) (λm=>?_) Ch.length 400 0 I I |> Eq.trans Q2
  ·simp only[QqH];obtain⟨row,e⟩:∃q,Ch[j]? = some q:=⟨Ch[j],QqL hj⟩;obtain⟨f,fr,t,tr,mn,mx,w,rfl,g1,l,c,v,x,y⟩:=hl.ch row (QqJ e);have nf:=(line h g1).2.1;have nt:=(line h c).2.1;have bf:=Zr h (i:=f) I;have bt:=Zr h (i:=t) I;rw[QW,Qt hj,QqI,Qp,e,Zv e,QqS,<- QqQ];simp -implicitDefEqProofs only[Qh,QqF,QqK,Qj,Q1c (n:=400) h g1 (show fr<=10 by omega),Q1c (n:=400) h c (show tr<=10 by omega),QI (show j<=1000 by omega),Qib (n:=400) (show base X.nr f+fr<=1000 by omega),Qda (n:=400) (show base X.nr t+tr<=1000 by omega),Qfb (n:=400) (A:=X.pls X.L++(Ch.take j).map X.chE) Q3];rfl
  ·simp only[QqH];rw[QW,Qz,QqG,Qr9]
 have p:∀k0:Int->Bool->LL->oP R,QV 400 (X.T.map tuR) (X.T.length:Int) (X.fst X.L) X.Ls k0 400 0 (X.pls X.L++Ch.map X.chE)=k0 (X.T.length:Int) false (X.pls X.L++Ch.map X.chE++X.T.map X.tuE):=by
  intro k0;refine QY (r:=λm j=>QV 400 (X.T.map tuR) (X.T.length:Int) (X.fst X.L) X.Ls k0 m j (X.pls X.L++Ch.map X.chE++(X.T.take j.toNat).map X.tuE)) (N:=X.T.length) (λm j hj=>?_) (λm=>?_) X.T.length 400 0 I I |> Eq.trans Q2
  ·simp only[QqH];obtain⟨⟨a,b,lo,hi⟩,e⟩:∃q,X.T[j]? = some q:=⟨X.T[j],QqL hj⟩;have ht:=h.tr _ (QqJ e);have g1:a<X.Ls.length:=ht.1;have c:b<X.Ls.length:=ht.2.1;have nf:=(line h g1).2.1;have bf:=Zr h (i:=a) I;have bt:=Zr h (i:=b) I;have aa:Qi (X.T.map tuR) (j:Int)=some [Ql a,Ql b,Ql lo,Ql hi]:=X5 e;have s:X.pls X.L++Ch.map X.chE++(X.T.take (j+1)).map X.tuE=X.pls X.L++Ch.map X.chE++(X.T.take j).map X.tuE++[X.tuE (a,b,lo,hi)]:=by rw[Zv e,QqS,<- QqQ];rfl
   have d:=Q1c (R:=Int) (n:=400) h c (Qro 10) some;rw[show((0:Nat):Int)=0 from rfl]at d;rw[QV,Qt hj,QqI,aa,s];simp -implicitDefEqProofs only[Qh,QqF,QqK,Qj,QfT (n:=400) h g1,d,QI (show j<=1000 by omega),Qib (n:=400) (show base X.nr a+(X.nr a-1)<=1000 by omega),Qda (n:=400) (show base X.nr b+0<=1000 by omega),Qfb (n:=400) (A:=X.pls X.L++Ch.map X.chE++(X.T.take j).map X.tuE) Q3];rfl
  ·simp only[QqH];rw[QV,Qz,QqG,Qr9]
 have u:∀k0:Int->Bool->LL->oP R,QX 400 Sy (Sy.length:Int) (X.fst X.L) k0 400 0 (X.pls X.L++Ch.map X.chE++X.T.map X.tuE)=k0 (Sy.length:Int) false (X.planned Ch Sy):=by
  intro k0;refine QY (r:=λm j=>QX 400 Sy (Sy.length:Int) (X.fst X.L) k0 m j (X.pls X.L++Ch.map X.chE++X.T.map X.tuE++(Sy.take j.toNat).map X.syE)) (N:=Sy.length) (λm j hj=>?_) (λm=>?_) Sy.length 400 0 I I |> Eq.trans Q2
  ·simp only[QqH];obtain⟨row,e⟩:∃q,Sy[j]? = some q:=⟨Sy[j],QqL hj⟩;obtain⟨o,rfl,g1,l,c⟩:=hl.sy row (QqJ e);have bt:=Zr h (i:=1) I;have d:=Q1c (R:=Int) (n:=400) h (show 0<X.Ls.length by omega) (Qro 10) some;have g:=Q1c (R:=Int) (n:=400) h (show 1<X.Ls.length by omega) (Qro 10) some;simp only[show((0:Nat):Int)=0 from rfl,show((1:Nat):Int)=1 from rfl]at d g;rw[QX,Qt hj,QqI,Qp,e,Zv e,QqS,<- QqQ];simp -implicitDefEqProofs only[Qh,QqF,QqK,Qj,d,g,QI (show j<=1000 by omega),Qda (n:=400) (show base X.nr 0+0<=1000 by simp[base]),Qda (n:=400) (show base X.nr 1+0<=1000 by omega),Qfb (n:=400) (A:=X.pls X.L++Ch.map X.chE++X.T.map X.tuE++(Sy.take j).map X.syE) Q3];rfl
  ·simp only[QqH];rw[QX,Qz,QqG,Qr9];rfl
 rw[s2,k,QqM,p,u]
end Cx
theorem OL.uniq:∀{l:Int} {O:Y Occ},OL l O->∀{p q:Occ},p∈O->q∈O->p.1=q.1->p=q
 |_,[],_,_,_,h,_,_=>nomatch h
 |l,(x,a,b)::r,⟨c,h2,d,f,h5,h6⟩,p,q,hp,hq,e=>by
  cases hp with
  |head=>
   cases hq with
   |head=>rfl
   |tail _ hq=>have:=(h6.mem q hq).1;dsimp only at e;omega
  |tail _ hp=>
   cases hq with
   |head=>have:=(h6.mem p hp).1;dsimp only at e;omega
   |tail _ hq=>exact h6.uniq hp hq e
theorem Qdf{t:Int}{A A' B:Y Occ}{y:Int}:FB t (A++A') B y↔FB t A B y\/FB t A' B y:=by
 constructor
 ·rintro⟨x,a,b,c,d,e,h2,f⟩;rcases QqP.1 e with e | e
  ·exact .inl ⟨x,a,b,c,d,e,h2,f⟩
  ·exact .inr ⟨x,a,b,c,d,e,h2,f⟩
 ·rintro (⟨x,a,b,c,d,e,h2,f⟩|⟨x,a,b,c,d,e,h2,f⟩)
  ·exact⟨x,a,b,c,d,Qrf _ e,h2,f⟩
  ·exact⟨x,a,b,c,d,Qre _ e,h2,f⟩
def EE(f:Nat->Bool)(n:Nat):LL:=(List.range n).map λi=>[D.bool (f i)]
theorem Q7m{f:Nat->Bool}{n:Nat}:(EE f n).length=n:=by simp[EE]
theorem DC{f:Nat->Bool}{n i:Nat}(h:i<n):(EE f n)[i]? = some [D.bool (f i)]:=by simp[EE,h]
theorem QbK{f g:Nat->Bool}{n i:Nat}(h:∀y,y<n->g y=if y=i then true else f y):(EE f n).set i [D.bool true]=EE g n:=by
 apply Qrq;intro j
 grind[DC,List.getElem?_eq_none,Q7m]
section
variable{R:Type} {n:Nat} {t:Int}
theorem Q6I{O:Y Occ}(hl:O.length<=1000){k0:oP R}{k1:Int->Bool->oP R}{E:oP R}(hk:∀b c,k1 b c=E):∀(aa:Y Occ) (i m:Nat) (last:Int),O.drop i=aa->aa.length<m -> -1<=last->OL last aa->(0<i->∃a b,O[i-1]? = some (last,a,b))->Z3 n (O.map enc) k0 k1 m (i:Int)=E
 |[],i,m+1,last,hd,_,_,_,_=>by
  have:=ZX hd;rw[Z3,QqM,show decide ((i:Int)<(O.length:Int))=false by simpa using this,QqG,hk]
 |(x,a,b)::aa,i,m+1,last,hd,hm,aj,⟨f,h2,g,h,h5,h6⟩,hp=>by
  obtain⟨e,ac,hi⟩:=Yc hd;have ih:=Q6I (k0:=k0) hl hk aa (i+1) m x ac (by simpa using hm) I h6 (λ_=>⟨a,b,e⟩);rw[Z3,QqM,Qt hi,QqI,X5 e];simp -implicitDefEqProofs only[Qh,Mh,F2,Ed,Qj,Q5 (x<0),Qr7,Bool.true_and,QqG,QI (show i<=1000 by omega)];have rest:∀z:Bool,z=false->(bif bif bif bif z then true else decide (a<(-65536:Int))then true else decide (b>(65536:Int))then true else decide (a>=b)then k0 else Z3 n (O.map enc) k0 k1 m ((i+1:Nat):Int))=E:=λz hz=>by
   rw[hz,Q5 (a < -65536),Q5 (b>65536),Q5 (a>=b)];exact ih
  by_cases d:i=0
  ·subst d;simp -implicitDefEqProofs only[show decide (((0:Nat):Int)>0)=false from rfl,gbF,QqG];exact rest false rfl
  ·obtain⟨a',b',e'⟩:=hp I;rw[JT (show i<=1000 by omega) I,X5 e'];simp -implicitDefEqProofs only[Qh,Mh,Qj,Q6 ((i:Int)>0),QqI];exact rest _ (QqO I)
theorem Qa9{O:Y Occ}(hl:O.length<=300)(h:OL (-1) O):JF 400 (O.map enc) (some:Bool->oP Bool)=some true:=by
 exact Q6I I (λ_ _=>rfl) O 0 400 (-1) rfl I I h (λh=>by omega)
theorem Q9w{O:Y Occ}(hl:O.length<=1000){x:Int}{K:D->D->D->Bool->oP R}{k0:D->D->D->oP R}{k1:Int->Bool->oP R}(g:∀a b c,k0 a b c=K a b c true)(h:∀a b,k1 a b=K (Ql 0) (Ql 0) (Ql 0) false):∀(aa:Y Occ) (i m:Nat),O.drop i=aa->aa.length<m->(∃c d,(x,c,d)∈aa/\Uo n (O.map enc) x k0 k1 m (i:Int)=K (Ql x) (Ql c) (Ql d) true)\/((∀p∈aa,p.1≠x)/\Uo n (O.map enc) x k0 k1 m (i:Int)=K (Ql 0) (Ql 0) (Ql 0) false)
 |[],i,m+1,hd,_=>by
  have:=ZX hd;refine .inr ⟨λp hp=>(nomatch hp),?_⟩;rw[Uo,QqM,show decide ((i:Int)<(O.length:Int))=false by simpa using this,QqG,h]
 |(x',a,b)::aa,i,m+1,hd,hm=>by
  obtain⟨e,ac,hi⟩:=Yc hd;rw[Uo,QqM,Qt hi,QqI,X5 e];simp -implicitDefEqProofs only[Qh,Mh,F2,Ed,Qj,QI (show i<=1000 by omega),g];by_cases hx:x'=x
  ·subst hx;exact .inl ⟨a,b,.head _,by rw[show(x' == x')=true by simp,QqI]⟩
  ·rw[show(x' == x)=false by simpa using hx,QqG];rcases Q9w hl g h aa (i+1) m ac (by simpa using hm)with⟨c,d,f,h2⟩|⟨f,h2⟩
   ·exact .inl ⟨c,d,.tail _ f,h2⟩
   ·refine .inr ⟨λp hp=>?_,h2⟩;cases hp with
    |head=>exact hx
    |tail _ hp=>exact f p hp
theorem Qgh{f k y:Int}(a:1<=t)(hy:0<=y)(aa:y<t)(hk:0<=k)(ac:k<t):y=(f+k) % t↔(y-f) % t=k:=by
 constructor
 ·intro h;rw[h,Int.sub_emod,Int.emod_emod,<- Int.sub_emod,show f+k-f=k by omega];exact Qrp hk ac
 ·intro h;rw[<- h,Int.add_emod,Int.emod_emod,<- Int.add_emod,show f+(y-f)=y by omega];exact(Qrp hy aa).symm
theorem QeV(c:1<=t)(o:t<=300){K:LL->oP R}{k0:Int->Bool->LL->oP R}(hk:∀a b w,k0 a b w=K w){A:Y Occ}{i:Nat}{x a b d nn:Int}(e:A[i]? = some (x,a,b))(ha : -1000<=a)(an:a<=20000)(hd : -1000<=d)(am:d<=20000){f:Nat->Bool} :
  ∃g:Nat->Bool,Zd n t (A.map enc) (i:Int) nn (Ql d) k0 400 0 (EE f t.toNat)=K (EE g t.toNat)/\∀y,y<t.toNat->(g y=true↔f y=true\/((y:Int)-(a-d+1)) % t<nn):=by
 let N:Nat:=(if nn<t then nn else t).toNat;have hN:(N:Int)=if nn<0 then 0 else if nn<t then nn else t:=by
  show(((if nn<t then nn else t).toNat:Nat):Int)=_;split<;>split<;>omega
 have ac:(N:Int)<=t:=by rw[hN];split<;>(try split)<;>omega
 have ak:(N:Int)<=nn\/N=0:=by
  by_cases h:nn<0
  ·rw[Qr4 h]at hN;right;omega
  ·rw[Qr2 h]at hN;left;rw[hN];split<;>omega
 refine⟨λy=>f y||decide (((y:Int)-(a-d+1)) % t<(N:Int)),?_,λy hy=>?_⟩
 ·have j:EE f t.toNat=EE (λy=>f y||decide (((y:Int)-(a-d+1)) % t<((0:Nat):Int))) t.toNat:=by
   unfold EE;apply List.map_congr_left;intro y _;have:=Qr3 ((y:Int)-(a-d+1)) (show t≠0 by omega);show[D.bool (f y)]=[D.bool (f y||decide (((y:Int)-(a-d+1)) % t<((0:Nat):Int)))];rw[Q5 (((y:Int)-(a-d+1)) % t<((0:Nat):Int)),Bool.or_false]
  rw[j];refine QY (r:=λm k=>Zd n t (A.map enc) (i:Int) nn (Ql d) k0 m k (EE (λy=>f y||decide (((y:Int)-(a-d+1)) % t<k)) t.toNat)) (N:=N) (λm k ai=>?_) (λm=>?_) N 400 0 I I
  ·have l:=Qr3 (a-d+1+(k:Int)) (show t≠0 by omega);have p:=Qr0 (a-d+1+(k:Int)) (show 0<t by omega);rw[Zd,Q6 ((k:Int)<nn),Q6 ((k:Int)<t),QqI,QqI,X5 e];simp -implicitDefEqProofs only[Qh,F2,Qj,Qo (x:=a-d) I I,Qo (x:=a-d+1) I I,Qo (x:=a-d+1+(k:Int)) I I,Qhv (n:=n) (x:=a-d+1+(k:Int)) c (show t<=7200 by omega) I I,Q7m,XQ (len:=t.toNat) l I,DC (f:=λy=>f y||decide (((y:Int)-(a-d+1)) % t<(k:Int))) (n:=t.toNat) (i:=((a-d+1+(k:Int)) % t).toNat) I,Qr1];rw[QbK (g:=λy=>f y||decide (((y:Int)-(a-d+1)) % t<((k+1:Nat):Int))) (λy hy=>?_),Qo I I]
   ·rfl
   ·have hd:=Qgh (t:=t) (f:=a-d+1) (k:=k) (y:=y) c I I I I;by_cases aa:y=((a-d+1+(k:Int)) % t).toNat
    ·rw[Qr4 aa,show decide (((y:Int)-(a-d+1)) % t<((k+1:Nat):Int))=true from QqR (by have:=hd.1 I;omega),Bool.or_true]
    ·rw[Qr2 aa];congr 1;rw[decide_eq_decide];have:¬ ((y:Int)-(a-d+1)) % t=(k:Int):=λh=>aa (by have:=hd.2 h;omega)
     omega
  ·rw[Zd];rw[show(bif decide ((N:Int)<nn)then decide ((N:Int)<t)else false)=false by
    by_cases h:(N:Int)<nn
    ·rw[QqR h,QqI];exact QqO (by rw[hN];split<;>(try split)<;>omega)
    ·rw[QqO h,QqG],QqG,hk]
 ·have q:=Qr3 ((y:Int)-(a-d+1)) (show t≠0 by omega);have s:=Qr0 ((y:Int)-(a-d+1)) (show 0<t by omega);rw[Bool.or_eq_true,decide_eq_true_eq];refine or_congr_right ?_;rw[hN];split<;>(try split)<;>omega
theorem Q2e(l:1<=t)(o:t<=300){K:LL->oP R}{k0:Int->Bool->LL->oP R}(hk:∀a b w,k0 a b w=K w){A B:Y Occ}(hA:OL (-1) A)(hB:OL (-1) B)(lA:A.length<=100)(lB:B.length<=300):∀(aa P:Y Occ) (m:Nat) (f:Nat->Bool),A=P++aa->aa.length<m->(∀y,y<t.toNat->(f y=true↔FB t P B y)) ->
  ∃g:Nat->Bool,Yh 400 t (A.map enc) (B.map enc) k0 m (P.length:Int) (EE f t.toNat)=K (EE g t.toNat)/\∀y,y<t.toNat->(g y=true↔FB t A B y)
 |[],P,m+1,f,hP,_,hf=>by
  rw[QqZ]at hP;subst hP;refine⟨f,?_,hf⟩;rw[Yh,QqM,Qz,QqG,hk]
 |(x,a,b)::aa,P,m+1,f,hP,hm,hf=>by
  have e:A[P.length]? = some (x,a,b):=by rw[hP,List.getElem?_append_right (Qrj _),Nat.sub_self];rfl
  have hi:P.length<A.length:=by rw[hP];simp
  have hq:=hA.mem (x,a,b) (QqJ e);dsimp only at hq;have ai:A=(P++[(x,a,b)])++aa:=by rw[hP];simp
  have ac:=Q9w (n:=400) (O:=B) (x:=x) (K:=λi j k z=>(some (i,j,k,z):oP (D×D×D×Bool))) (k0:=λi j k=>some (i,j,k,true)) (k1:=λ_ _=>some (Ql 0,Ql 0,Ql 0,false)) I (λ_ _ _=>rfl) (λ_ _=>rfl) B 0 400 rfl I;rw[Yh,QqM,Qt hi,QqI,X5 e];simp -implicitDefEqProofs only[Qh,Mh,F2,Ed,Qj];unfold Aq;have nx:wJ ((P.length:Int)+1)=(((P++[(x,a,b)]).length:Nat):Int):=by rw[Qo I I];simp
  rw[nx];rcases ac with⟨c,d,g1,p⟩|⟨g1,p⟩
  ·have s:=hB.mem (x,c,d) g1;dsimp only at s;rw[show Uo 400 (B.map enc) x (λi j k=>(some (i,j,k,true):oP (D×D×D×Bool))) (λu v=>some (D.int .i64 (0:Int),D.int .i64 (0:Int),D.int .i64 (0:Int),false)) 400 0=some (Ql x,Ql c,Ql d,true)from p];simp -implicitDefEqProofs only[Qh,QqT,QqG,Qj];have am:wJ (wJ (wJ (wJ (b-a)+d)-c)-1)=b-a+d-c-1:=by
    rw[Qo (x:=b-a) I I,Qo (x:=b-a+d) I I,Qo (x:=b-a+d-c) I I,Qo I I]
   rw[am];obtain⟨g,k1,k2⟩:=QeV (n:=400) (nn:=b-a+d-c-1) l o (K:=λw=>Yh 400 t (A.map enc) (B.map enc) k0 m (((P++[(x,a,b)]).length:Nat):Int) w) (k0:=λ_ _ w=>Yh 400 t (A.map enc) (B.map enc) k0 m (((P++[(x,a,b)]).length:Nat):Int) w) (λ_ _ _=>rfl) (f:=f) e (d:=d) I I I I;rw[k1];refine Q2e l o hk hA hB lA lB aa _ m g ai (by simpa using hm) (λy hy=>?_);rw[k2 y hy,Qdf,hf y hy];refine or_congr_right ⟨λh=>⟨x,a,b,c,d,.head _,g1,h⟩,?_⟩;rintro⟨x',a',b',c',d',q1,q,r⟩;cases q1 with
   |head=>
    cases hB.uniq q g1 rfl;exact r
   |tail _ q1=>nomatch q1
  ·rw[show Uo 400 (B.map enc) x (λi j k=>(some (i,j,k,true):oP (D×D×D×Bool))) (λu v=>some (D.int .i64 (0:Int),D.int .i64 (0:Int),D.int .i64 (0:Int),false)) 400 0=some (Ql 0,Ql 0,Ql 0,false)from p];simp -implicitDefEqProofs only[Qh,Qr7,QqI];refine Q2e l o hk hA hB lA lB aa _ m f ai (by simpa using hm) (λy hy=>?_);rw[Qdf,hf y hy];refine⟨.inl,λh=>h.elim id ?_⟩;rintro⟨x',a',b',c',d',q1,q,r⟩;cases q1 with
   |head=>exact(g1 _ q rfl).elim
   |tail _ q1=>nomatch q1
theorem VS.lastlt{t c d:Int}:∀{l:Int} {M:Y Sp2},VS t l (M++[(c,d)])->(∀q∈M,q.2<c)/\c<d/\d<=t
 |l,[],⟨g,h2,f,_⟩=>⟨λq hq=>(nomatch hq),h2,f⟩
 |l,(a,b)::M,⟨g,h2,f,e⟩=>by
  have ih:=e.lastlt;refine⟨λq hq=>?_,ih.2⟩;cases hq with
  |head=>
   cases M with
   |nil=>exact e.1
   |cons p M=>have:=ih.1 p (.head _);have:=e.1;have:=e.2.1;dsimp only at *;omega
  |tail _ hq=>exact ih.1 q hq
theorem VS.pw{t:Int}:∀{l:Int} {F:Y Sp2},VS t l F->F.Pairwise λp q=>p.2<q.1
 |_,[],_=>.nil
 |l,(a,b)::r,⟨d,h2,e,c⟩=>.cons (λq hq=>(c.rng q hq).1) c.pw
theorem VS.sep{t:Int}:∀{l:Int} {F:Y Sp2},VS t l F->∀p∈F,∀q∈F,p=q\/p.2<q.1\/q.2<p.1
 |_,[],_,p,hp,_,_=>nomatch hp
 |l,(a,b)::r,⟨d,h2,e,c⟩,p,hp,q,hq=>by
  have hr:=c.rng;cases hp with
  |head=>
   cases hq with
   |head=>exact .inl rfl
   |tail _ hq=>exact .inr (.inl (hr q hq).1)
  |tail _ hp=>
   cases hq with
   |head=>exact .inr (.inr (hr p hp).1)
   |tail _ hq=>exact c.sep p hp q hq
structure GP(t:Int)(F G:List Sp2):Prop where
 asc:G.Pairwise λp q=>p.1<q.1
 rng:∀q∈G,0<=q.1/\q.1<t/\q.1<q.2/\q.2<q.1+t
 ins:∀q∈G,∀z,q.1<=z->z<q.2->InS (z % t) F
 out:∀q∈G,¬ InS (q.2 % t) F
 st:∀x,0<=x->x<t->((InS x F/\¬ InS ((x-1) % t) F)↔∃q∈G,q.1=x)
theorem Qbd{z t:Int}(a:0<=z)(b:z<t):z % t=z:=Qrp a b
theorem QjL{z t:Int}(a:t<=z)(b:z<t+t):z % t=z-t:=by
 rw[<- Qrp (show 0<=z-t by omega) (show z-t<t by omega),Int.sub_emod_right]
theorem Qjv{t:Int}(h:1<=t):(-1:Int) % t=t-1:=by
 rw[<- Qrp (show 0<=t-1 by omega) (show t-1<t by omega),show t-1 = -1+t by omega,Int.add_emod_right]
theorem WR.gp{t:Int}{F G:Y Sp2}(l:1<=t)(hv:VS t (-1) F)(hc:cnt F≠t)(hw:WR t F G):GP t F G:=by
 have hr:=hv.rng;have hs:=hv.sep;have aw:=hv.cnt I;have au:=QaZ hv I;have gap:∀q∈F,¬ InS q.2 F:=λq hq ⟨p,hp,h⟩=>by
  grind
 have aa:∀q∈F,¬ InS (q.1-1) F:=λq hq ⟨p,hp,h⟩=>by
  grind
 have small:∀q∈F,q.2-q.1<t:=λq hq=>by
  have:=au q hq;have:=aw.2.2 (List.length_pos_of_mem hq);omega
 have ac:∀x,0<=x->x<t->InS x F->¬ InS ((x-1) % t) F->∃q∈F,q.1=x:=λx i j ⟨q,hq,h⟩ hn=>by
  have:=hr q hq;by_cases hx:q.1=x
  ·exact⟨q,hq,hx⟩
  ·exact(hn ⟨q,hq,by rw[Qbd I I];omega,by rw[Qbd I I];omega⟩).elim
 rcases hw with⟨rfl,hw⟩|⟨b,M,c,rfl,rfl⟩
 ·have am:∀p∈G,∀q∈G,p.1=0->q.2=t->False:=λp hp q hq o h2=>by
   have ao:p≠q:=λe=>by have:=small p hp;rw[<- e]at h2;omega
   rcases G with _ | ⟨⟨a,b⟩,G⟩
   ·nomatch hp
   obtain⟨r,s,u,f⟩:=id hv;have ai:=f.rng;have ax:p=(a,b):=by
    cases hp with
    |head=>rfl
    |tail _ hp=>have:=ai p hp;omega
   subst ax;obtain rfl:a=0:=o;rcases List.eq_nil_or_concat G with rfl | ⟨M,⟨c,d⟩,rfl⟩
   ·cases hq with
    |head=>exact ao rfl
    |tail _ hq=>nomatch hq
   ·rw[List.concat_eq_append]at *
    have hl:=f.lastlt;cases hq with
    |head=>exact ao rfl
    |tail _ hq=>
     rcases QqP.1 hq with hq | hq
     ·have:=hl.1 q hq;omega
     ·obtain rfl:=QqV.1 hq;obtain rfl:d=t:=h2;exact hw b M c rfl
  refine⟨hv.pw.imp_of_mem λ{p q} hp hq h=>by have:=hr p hp;omega,λq hq=>by have:=hr q hq;have:=small q hq;omega,λq hq z g k=>?_,λq hq=>?_,λx i j=>⟨λh=>ac x i j h.1 h.2,?_⟩⟩
  ·have:=hr q hq;rw[Qbd I I];exact⟨q,hq,g,k⟩
  ·have:=hr q hq;by_cases m:q.2=t
   ·rw[m,Int.emod_self];rintro⟨p,hp,h⟩;have:=hr p hp;exact am p hp q hq I m
   ·rw[Qbd I I];exact gap q hq
  ·rintro⟨q,hq,rfl⟩;have:=hr q hq;refine⟨⟨q,hq,Int.le_refl _,this.2.1⟩,?_⟩;by_cases n:q.1=0
   ·rw[n,show(0:Int)-1 = -1 by omega,Qjv l];rintro⟨p,hp,h⟩;have:=hr p hp;exact am q hq p hp n I
   ·rw[Qbd I I];exact aa q hq
 ·obtain⟨r,s,u,f⟩:=id hv;have hl:=f.lastlt;have ai:=f.rng;have hM:∀q∈M,b<q.1/\q.1<q.2/\q.2<c:=λq hq=>by
   have:=ai q (Qrf _ hq);have:=hl.1 q hq;omega
  have ak:∀q∈M,q∈(0,b)::(M++[(c,t)]):=λq hq=>.tail _ (Qrf _ hq)
  have aj:(c,t)∈(0,b)::(M++[(c,t)]):=.tail _ (Qre _ (.head _));have ar:(0,b)∈(0,b)::(M++[(c,t)]):=.head _;have az:b<c:=(ai (c,t) (Qre _ (.head _))).1;refine⟨?_,λq hq=>?_,λq hq z g k=>?_,λq hq=>?_,λx i j=>⟨λh=>?_,?_⟩⟩
  ·refine Qrg.2 ⟨(Qrg.1 f.pw).1.imp_of_mem λ{p q} hp hq h=>by have:=hM p hp;omega,List.pairwise_singleton _ _,λp hp q hq=>?_⟩;obtain rfl:=QqV.1 hq;have:=hM p hp;dsimp only;omega
  ·rcases QqP.1 hq with h | h
   ·have:=hM q h;omega
   ·obtain rfl:=QqV.1 h;dsimp only;omega
  ·rcases QqP.1 hq with h | h
   ·have:=hM q h;rw[Qbd I I];exact⟨q,ak q h,g,k⟩
   ·obtain rfl:=QqV.1 h;dsimp only at g k;by_cases hz:z<t
    ·rw[Qbd I hz];exact⟨_,aj,g,hz⟩
    ·rw[QjL I I];exact⟨_,ar,by dsimp only;omega,by dsimp only;omega⟩
  ·rcases QqP.1 hq with h | h
   ·have:=hM q h;rw[Qbd I I];exact gap q (ak q h)
   ·obtain rfl:=QqV.1 h;dsimp only;rw[QjL I I,show t+b-t=b by omega];exact gap _ ar
  ·obtain⟨q,hq,rfl⟩:=ac x i j h.1 h.2;cases hq with
   |head=>
    refine(h.2 ?_).elim;dsimp only;rw[show(0:Int)-1 = -1 by omega,Qjv l];exact⟨_,aj,by dsimp only;omega,by dsimp only;omega⟩
   |tail _ hq=>
    rcases QqP.1 hq with hq | hq
    ·exact⟨q,Qrf _ hq,rfl⟩
    ·obtain rfl:=QqV.1 hq;exact⟨(c,t+b),Qre _ (.head _),rfl⟩
  ·rintro⟨q,hq,rfl⟩;rcases QqP.1 hq with h | h
   ·have:=hM q h;refine⟨⟨q,ak q h,Int.le_refl _,this.2.1⟩,?_⟩;rw[Qbd I I];exact aa q (ak q h)
   ·obtain rfl:=QqV.1 h;dsimp only;refine⟨⟨_,aj,Int.le_refl _,hl.2.1⟩,?_⟩;rw[Qbd I I];exact aa _ aj
theorem Qbx{t:Int}{F:Y Sp2}(i:1<=t)(hv:VS t (-1) F):cnt F=t↔∀y,0<=y->y<t->InS y F:=by
 rcases F with _ | ⟨⟨a,b⟩,r⟩
 ·exact⟨λh=>by grind[cnt],λh=>absurd (h 0 I I) F1⟩
 obtain⟨j,k,f,e⟩:=hv;have hc:=e.cnt f;rcases r with _ | ⟨⟨c,d⟩,r⟩
 ·simp only[cnt,Th];constructor
  ·omega
  ·intro h;have g:=(h 0 I I).resolve_right F1;have h2:=(h (t-1) I I).resolve_right F1;omega
 ·have:=hc.2.2 Q2;have w:=e.1;constructor
  ·grind[cnt]
  ·intro h;have aa:=e.rng;have:=aa (c,d) (.head _);dsimp only at this;obtain⟨p,hp,g,h2⟩:=h b I I
   grind
theorem Q66(d:t<=300){f:Nat->Bool}{k0:Int->Int->Bool->oP R}{K:Int->oP R}(hk:∀a b c,k0 a b c=K a):∀(c m x:Nat) (w:Int),(x:Int)+c=t->c<m->0<=w->w<=x->(w=x↔∀y:Nat,y<x->f y=true)->∃w',WC n t (EE f t.toNat) k0 m w (x:Int)=K w'/\(w'=t↔∀y:Nat,(y:Int)<t->f y=true)
 |0,m+1,x,w,hx,_,_,_,hw=>⟨w,by rw[WC,Q5 ((x:Int)<t),QqG,hk],by
  grind⟩
 |c+1,m+1,x,w,hx,hm,w0,e,hw=>by
  have aa:Qi (EE f t.toNat) (x:Int)=some [D.bool (f x)]:=by grind[Qp,DC]
  rw[WC,Q6 ((x:Int)<t),QqI,aa];simp -implicitDefEqProofs only[Qh,QqF,LA,QI (show x<=1000 by omega)];cases ac:f x with
  |false=>
   refine Q66 d hk c m (x+1) w I I w0 I ⟨λh=>by omega,λh=>?_⟩
   simp_all
  |true=>
   rw[QqI,Qo I I];refine Q66 d hk c m (x+1) (w+1) I I I I ⟨λh y hy=>?_,λh=>?_⟩
   all_goals grind
theorem Qgq(b:1<=t)(c:t<=300){f:Nat->Bool}{k0:Int->Bool->oP R}{a:Int}{L:Nat}(a0:0<=a)(a1:a<t)(hL:(L:Int)<t)(ac:∀k:Nat,k<L->f ((a+k) % t).toNat=true)(aa:f ((a+L) % t).toNat=false):WL n t (EE f t.toNat) a k0 400 0=k0 (L:Int) false:=by
 have step:∀k:Nat,k<=L->Qi (EE f t.toNat) (Int.tmod (wJ (a+k)) t)=some [D.bool (f ((a+k) % t).toNat)]:=λk hk=>by
  have d:=Qr3 (a+(k:Int)) (show t≠0 by omega);have e:=Qr0 (a+(k:Int)) (show 0<t by omega);rw[Qo I I,Int.tmod_eq_emod_of_nonneg I];obtain⟨z,hz⟩:∃z:Nat,(a+(k:Int)) % t=z:=⟨((a+(k:Int)) % t).toNat,I⟩;rw[hz,Qp,QqH];exact DC I
 refine QY (r:=λm k=>WL n t (EE f t.toNat) a k0 m k) (N:=L) (λm k hk=>?_) (λm=>?_) L 400 0 I I
 ·rw[WL,CS I,step k I];simp -implicitDefEqProofs only[Qh,QqF,LA,ac k hk,QqI,QI (show k<=1000 by omega)]
 ·rw[WL,CS I,step L (Qrj _)];simp -implicitDefEqProofs only[Qh,QqF,LA,aa,QqG]
theorem Q5Z(g:1<=t)(i:t<=300){f:Nat->Bool}{F G:Y Sp2}(hf:∀y:Nat,(y:Int)<t->(f y=true↔InS y F))(hG:GP t F G){K:LL->oP R}{k0:Int->Bool->LL->oP R}(hk:∀a b w,k0 a b w=K w):∀(c m x:Nat) (P S:Y Sp2),(x:Int)+c=t->c<m->G=P++S->P.length<=x->(∀q∈P,q.1<x)->(∀q∈S,(x:Int)<=q.1)->Yt 400 t (EE f t.toNat) k0 m (x:Int) ((P.map (Q3N t)).map Yk)=K ((G.map (Q3N t)).map Yk)
 |0,m+1,x,P,S,hx,_,aa,_,_,hS=>by
  have:S=[]:=by
   cases S with
   |nil=>rfl
   |cons q S=>have:=hS q (.head _);have:=hG.rng q Q4;omega
  rw[Yt,Q5 ((x:Int)<t),QqG,hk,aa,this,QqZ]
 |c+1,m+1,x,P,S,hx,hm,aa,hl,hP,hS=>by
  have fi:∀z:Int,f (z % t).toNat=true↔InS (z % t) F:=λz=>by
   have l:=Qr3 z (show t≠0 by omega);have o:=Qr0 z (show 0<t by omega);have:=hf (z % t).toNat I;rw[show(((z % t).toNat:Nat):Int)=z % t by omega]at this;exact this
  have am:Qi (EE f t.toNat) (x:Int)=some [D.bool (f x)]:=by rw[Qp];exact DC I
  have l:=Qr3 ((x:Int)-1) (show t≠0 by omega);have o:=Qr0 ((x:Int)-1) (show 0<t by omega);have ai:Qi (EE f t.toNat) (((x:Int)-1) % t)=some [D.bool (f (((x:Int)-1) % t).toNat)]:=by
   obtain⟨z,hz⟩:∃z:Nat,((x:Int)-1) % t=z:=⟨(((x:Int)-1) % t).toNat,I⟩;rw[hz,Qp,QqH];exact DC I
  rw[Yt,Q6 ((x:Int)<t),QqI,am];simp -implicitDefEqProofs only[Qh,QqF,LA,QI (show x<=1000 by omega),Qo (x:=(x:Int)-1) I I,Qhv (n:=400) (x:=(x:Int)-1) g (show t<=7200 by omega) I I,ai];have hst:=hG.st x I I;have aj:=hf x I;have an:=fi ((x:Int)-1);have az:∀(R':Type) (p:Bool) (d:R') (v:R') (k:R'->oP R),gb p (some v) d k=gb p (some v) d k:=λ_ _ _ _ _=>rfl
  have skip:(∀q∈G,q.1≠x)->Yt 400 t (EE f t.toNat) k0 m ((x+1:Nat):Int) ((P.map (Q3N t)).map Yk)=K ((G.map (Q3N t)).map Yk):=λao=>by
   refine Q5Z g i hf hG hk c m (x+1) P S I I aa I (λq hq=>by have:=hP q hq;omega) (λq hq=>?_);have:=hS q hq;have:=ao q (by rw[aa];exact Qre _ hq);omega
  cases hb:f x with
  |false=>
   simp -implicitDefEqProofs only[Qr7,QqT,gbF,QqI];refine skip λq hq e=>?_
   have:=(hst.2 ⟨q,hq,e⟩).1;rw[<- aj,hb]at this;cases this
  |true=>
   simp -implicitDefEqProofs only[Qr7,QqT,Qh,QqG];cases j:f (((x:Int)-1) % t).toNat with
   |true=>
    rw[QqI];refine skip λq hq e=>?_
    exact(hst.2 ⟨q,hq,e⟩).2 (an.1 j)
   |false=>
    rw[QqG];obtain⟨q,hq,ar⟩:=hst.1 ⟨aj.1 hb,λh=>by rw[<- an,j]at h;cases h⟩;obtain⟨S',aw⟩:∃S',S=q::S':=by
     rw[aa]at hq;rcases QqP.1 hq with h | h
     ·have:=hP q h;omega
     cases S with
     |nil=>nomatch h
     |cons p S=>
      cases h with
      |head=>exact⟨S,rfl⟩
      |tail _ h=>
       have ha:=hG.asc;rw[aa]at ha;have:=(Qr6.1 (Qrg.1 ha).2.1).1 q h;have:=hS p (.head _);omega
    subst aw;have hr:=hG.rng q hq;obtain⟨L,hL⟩:∃L:Nat,q.2=x+L:=⟨(q.2-q.1).toNat,I⟩;have au:=hG.ins q hq;have ak:=hG.out q hq;rw[Qgq (n:=400) (k0:=_) (a:=(x:Int)) (L:=L) g i I I I (λk hk=>(fi _).2 (au _ I I)) (by
     cases h:f (((x:Int)+L) % t).toNat with
     |false=>rfl
     |true=>rw[<- hL]at h;exact(ak ((fi _).1 h)).elim)]
    have hw:[Ql ((x:Int)+L),Ql ((x:Int)+t-1)]=Yk (Q3N t q):=by rw[<- hL,<- ar];rfl
    rw[Qo (x:=(x:Int)+L) I I,Qo (x:=(x:Int)+t) I I,Qo (x:=(x:Int)+t-1) I I,XI Q3,Qh];have:=Q5Z g i hf hG hk c m (x+1) (P++[q]) S' I I (by rw[aa];simp) Q3 (λp hp=>by
     rcases QqP.1 hp with h | h
     ·have:=hP p h;omega
     ·obtain rfl:=QqV.1 h;omega) (λp hp=>by
     have ha:=hG.asc;rw[aa]at ha;have:=(Qr6.1 (Qrg.1 ha).2.1).1 p hp;omega)
    rw[QqS,QqS,List.map_singleton,List.map_singleton,<- hw]at this;exact this
theorem Qc1{A B:Y Occ}(o:2<=t)(a:t<=300)(hA:OL (-1) A)(hB:OL (-1) B)(lA:A.length<=6)(lB:B.length<=6){F G:Y Sp2}(hv:VS t (-1) F)(hF:∀y,0<=y->y<t->(InS y F↔FB t A B y))(hw:WR t F G) :
  Hb 400 t (A.map enc) (B.map enc) Tu2=some (if cnt F=t then([],(13:Int))else((G.map (Q3N t)).map Yk,(0:Int))):=by
 obtain⟨f,i,j⟩:=Q2e I a (K:=λw=>(some (w,(0:Int)):oP (LL×Int))) (k0:=λ_ _ w=>some (w,(0:Int))) (λ_ _ _=>rfl) hA hB I I A [] 400 (λ_=>false) rfl I (λy _=>⟨λh=>(nomatch h),λ⟨_,_,_,_,_,h,_⟩=>(nomatch h)⟩);have hf:∀y:Nat,(y:Int)<t->(f y=true↔InS y F):=λy hy=>by rw[j y I,hF y I hy]
 have hm:KV 400 t (A.map enc) (B.map enc) Tu2=some (EE f t.toNat,(0:Int)):=by
  unfold KV;rw[Q5d I (show t<=7200 by omega),Qa9 I hA,Qa9 I hB];simp -implicitDefEqProofs only[Qh,QqT,Qr7,QqG];rw[show(bif decide ((0:Int)<=t)&&decide (t<=t)then some ()else none)=some () by rw[Xh Q3],Qh,XI I,Qh];have e:List.replicate t.toNat [D.bool false]=EE (λ_=>false) t.toNat:=by unfold EE;rw[List.map_const',Qri]
  rw[e];exact i
 unfold Hb;rw[hm,Qh,Qq (by rfl)];obtain⟨w,k,w2⟩:=Q66 (n:=400) a (f:=f) (K:=λd=>bif (d == t)then(some ([],(13:Int)):oP (LL×Int))else Yt 400 t (EE f t.toNat) (λl m g=>some (g,(0:Int))) 400 (0:Int) []) (k0:=λd p r=>bif (d == t)then(some ([],(13:Int)):oP (LL×Int))else Yt 400 t (EE f t.toNat) (λl m g=>some (g,(0:Int))) 400 (0:Int) []) (λ_ _ _=>rfl) t.toNat 400 0 0 I I I I ⟨λ_ y hy=>by omega,λ_=>rfl⟩;refine k.trans ?_;have hc:w=t↔cnt F=t:=by
  rw[w2,Qbx I hv];constructor
  ·intro h y s u;have:=(hf y.toNat I).1 (h y.toNat I);rw[show(y.toNat:Int)=y by omega]at this;exact this
  ·exact λh y hy=>(hf y hy).2 (h y I hy)
 by_cases aa:cnt F=t
 ·rw[Qr4 aa,Xh (by simpa using hc.2 aa)]
 ·rw[Qr2 aa,Qq (by simpa using λh=>aa (hc.1 h))];exact Q5Z I a hf (hw.gp I hv aa) (K:=λw=>some (w,(0:Int))) (k0:=λ_ _ w=>some (w,(0:Int))) (λ_ _ _=>rfl) t.toNat 400 0 [] G I I rfl Q2 (λq hq=>nomatch hq) (λq hq=>((hw.gp I hv aa).rng q hq).1)
end
theorem Da{R:Type}{n:Nat}{O:Y Occ}(hl:O.length<=1000){q:Int->Bool}{K:LL->oP R}{k0:Int->Bool->LL->oP R}(hk:∀a b w,k0 a b w=K w):∀(aa P:Y Occ) (j m:Nat),O.drop j=aa->aa.length<m->P.length<=j->Yd n (O.map enc) (O.length:Int) q k0 m (j:Int) (P.map enc)=K ((P++aa.filter λo=>!q o.1).map enc)
 |[],P,j,m+1,hd,_,_=>by
  have:=ZX hd;rw[Yd,show decide ((j:Int)<(O.length:Int))=false by simpa using this,QqG,hk,List.filter_nil,QqZ]
 |o::aa,P,j,m+1,hd,hm,hP=>by
  obtain⟨e,ac,hj⟩:=Yc hd;rw[Yd,Qt hj,QqI,X5 e];simp -implicitDefEqProofs only[Qh,Mh,F2,Ed,Qj,QI (show j<=1000 by omega),XI (show((P.map enc).length+[[Ql o.1,Ql o.2.1,Ql o.2.2]].length)*24<=100000 by simp;omega)];rw[List.filter_cons];cases hq:q o.1 with
  |true=>
   rw[QqT,QqG,Qr2 Q2];exact Da hl hk aa P (j+1) m ac (by simpa using hm) I
  |false=>
   rw[Qr7,QqI,Qr4 rfl];have:=Da (n:=n) (q:=q) hl hk aa (P++[o]) (j+1) m ac (by simpa using hm) Q3;rw[QqS,QqQ]at this;exact this
theorem Q7e{R:Type}{O:Y Occ}(hl:O.length<=300){q:Int->Bool}(K:LL->(Int->Bool)->oP R):Um 400 (O.map enc) q K=K ((O.filter λo=>!q o.1).map enc) q:=by
 unfold Um;rw[QqM];exact Da I (K:=λw=>K w q) (λ_ _ _=>rfl) O [] 0 400 rfl I Q2
namespace Cx
def Q8E(a b:Nat)(w:Sp2):Y D:=[Ql 6,Ql ((2*a:Nat):Int),Ql ((2*b:Nat):Int),Ql w.1,Ql w.2,Ql 0]
def fil(X:Cx)(J:Y Tup)(a b:Nat):Y Occ:=(X.occN a).filter λo=>!X.TRb J a b o.1
def WV(X:Cx)(per:Int)(J:Y Tup)(a b:Nat):oP (Y Sp2):=match WJ 400 per ((X.fil J a b).map enc) ((X.fil J b a).map enc) Tu2 with
 |some (w,e)=>if e=0 then some (w.map λr=>match r with | [.int _ x,.int _ y]=>(x,y) | _=>(0,0))else none
 |none=>none
def Qhm:oP (Y Sp2)->LL×Int
 |none=>([],13)
 |some W=>(W.map Yk,0)
def hdw(X:Cx)(per:Int)(J:Y Tup)(a:Nat):Nat->Nat->oP LL
 |0,_=>some []
 |c+1,b=>match X.WV per J a b with
  |none=>none
  |some W=>(hdw X per J a c (b+1)).map λH=>W.map (Q8E a b)++H
def hdws(X:Cx)(per:Int)(J:Y Tup):Nat->Nat->oP LL
 |0,_=>some []
 |c+1,a=>match X.hdw per J a c (a+1)with
  |none=>none
  |some H=>(hdws X per J c (a+1)).map λH'=>H++H'
variable{R:Type} {n:Nat} {X:Cx} (h:X.OK) {per:Int}
theorem Qbo{J:Y Tup}{a b:Nat}{r:Int}:X.TRb J a b r=X.TRb J b a r:=by
 grind[TRb,jab]
include h
theorem Qdh{J:Y Tup}{a b:Nat}(ha:a<X.N):OL (-1) (X.fil J a b)/\(X.fil J a b).length<=6:=by
 have o:=(Jm h ha).2;exact⟨o.1.filter,Nat.le_trans (Qrn ..) o.2⟩
theorem Q2R(p0:2<=per)(p1:per<=300){J:Y Tup}{a b:Nat}(ha:a<X.N)(hb:b<X.N):WJ 400 per ((X.fil J a b).map enc) ((X.fil J b a).map enc) Tu2=some (Qhm (X.WV per J a b))/\Hb 400 per ((X.fil J a b).map enc) ((X.fil J b a).map enc) Tu2=some (Qhm (X.WV per J a b))/\∀W,X.WV per J a b=some W->W.length<=12:=by
 have oa:=Qdh h (J:=J) (b:=b) ha;have ob:=Qdh h (J:=J) (b:=a) hb;obtain⟨F,G,g1,g,j,i,k⟩:=QbY p0 (show per<=7200 by omega) oa.1 ob.1 oa.2 ob.2;have l:=Qc1 p0 p1 oa.1 ob.1 oa.2 ob.2 g1 j i;have hG:G.length<=12:=by
  rcases i with⟨rfl,_⟩|⟨b,M,c,rfl,rfl⟩
  ·exact g
  ·simp at g ⊢;omega
 have e:X.WV per J a b=if cnt F=per then none else some (G.map (Q3N per)):=by
  unfold WV;rw[k];by_cases hc:cnt F=per
  ·rw[Qr4 hc,Qr4 hc];rfl
  ·rw[Qr2 hc,Qr2 hc];dsimp only;rw[Qr4 rfl,List.map_map];congr 1;refine(List.map_congr_left λq _=>?_).trans (List.map_id _);rfl
 grind[Qhm,cnt,Q3N,Yk]
omit h in
theorem Qif{a b:Nat}(ha:a<=100)(hb:b<=100){W:Y Sp2}(hW:W.length<=12){k0:Int->Bool->LL->oP R}{A:LL}(hA:A.length<=900):QQ 400 (a:Int) (b:Int) (W.map Yk) (W.length:Int) k0 400 0 A=k0 (W.length:Int) false (A++W.map (Q8E a b)):=by
 refine QY (r:=λm j=>QQ 400 (a:Int) (b:Int) (W.map Yk) (W.length:Int) k0 m j (A++(W.take j.toNat).map (Q8E a b))) (N:=W.length) (λm j hj=>?_) (λm=>?_) W.length 400 0 I I |> Eq.trans Q2
 ·simp only[QqH];obtain⟨w,e⟩:∃q,W[j]? = some q:=⟨W[j],QqL hj⟩;rw[QQ,Qt hj,QqI,X5 e,Zv e,QqS,<- QqQ];simp -implicitDefEqProofs only[Qh,QbT,Qbm,Qj,QI (show j<=1000 by omega),Qda (n:=400) (show a<=1000 by omega),Qda (n:=400) (show b<=1000 by omega),Qfb (n:=400) (A:=A++(W.take j).map (Q8E a b)) Q3];rfl
 ·simp only[QqH];rw[QQ,Qz,QqG,Qr9]
theorem Q2o(p0:2<=per)(p1:per<=300){J:Y Tup}{a:Nat}(ha:a<X.N):∀{c b:Nat} {H:LL},b+c<=X.N->X.hdw per J a c b=some H->H.length<=12*c
 |0,b,H,_,e=>by cases e;exact Qrj _
 |c+1,b,H,hb,e=>by
  rw[hdw]at e;have hw:=(Q2R h p0 p1 (J:=J) ha (show b<X.N by omega)).2.2;cases ew:X.WV per J a b with
  |none=>rw[ew]at e;cases e
  |some W=>
   rw[ew]at e;cases eh:X.hdw per J a c (b+1)with
   |none=>simp only[eh]at e;cases e
   |some H'=>
    simp only[eh]at e;cases e;have:=hw W ew;have:=Q2o p0 p1 ha I eh;simp;omega
theorem Qgs(p0:2<=per)(p1:per<=300){J:Y Tup}(hJ:X.JOK J){a:Nat}(ha:a<X.N){k0:Int->LL->oP R}{k1:Int->Bool->LL->oP R}{Ke K1:LL->oP R}(d:∀A,k0 13 A=Ke A)(e:∀u v A,k1 u v A=K1 A):∀(c m b:Nat) (A:LL),b+c=X.N->c<m->A.length+12*c<=900->∃A',
  X7 400 (a:Int) per (GU (X.occs X.L)) (J.map tuR) k0 k1 m (b:Int) A=match X.hdw per J a c b with | none=>Ke A' | some H=>K1 (A++H)
 |0,m+1,b,A,hb,_,_=>by
  have aa:(GU (X.occs X.L)).length=X.N:=by rw[Ja];exact ZG
  refine⟨A,?_⟩;rw[X7,aa,Q5 ((b:Int)<(X.N:Int)),QqG,e,hdw]
  simp_all
 |c+1,m+1,b,A,hb,hm,hA=>by
  have aa:(GU (X.occs X.L)).length=X.N:=by rw[Ja];exact ZG
  have hN:X.N<=6:=base_le h;have oa:=Jm h ha;have ob:=Jm h (show b<X.N by omega);obtain⟨q,q1,f⟩:=QiS h hJ (a:=a) (b:=b);have ac:(X.occN a).filter (λo=>!q o.1)=X.fil J a b:=List.filter_congr λo _=>by rw[f]
  have ai:(X.occN b).filter (λo=>!q o.1)=X.fil J b a:=List.filter_congr λo _=>by rw[f,Qbo]
  have hw:=Q2R h p0 p1 (J:=J) ha (show b<X.N by omega);rw[X7,aa,Q6 ((b:Int)<(X.N:Int)),QqI,q1,oa.1,ob.1];simp -implicitDefEqProofs only[Qh,QqF,X2,QI (show b<=1000 by omega),Q7e (show(X.occN a).length<=300 by omega),Q7e (show(X.occN b).length<=300 by omega),ac,ai,hw.1,hdw];cases ew:X.WV per J a b with
  |none=>exact⟨A,d A⟩
  |some W=>
   have hl:=hw.2.2 W ew;obtain⟨A',ih⟩:=Qgs p0 p1 hJ ha d e c m (b+1) (A++W.map (Q8E a b)) I I Q3;refine⟨A',?_⟩;simp -implicitDefEqProofs only[Qhm];rw[Qq (by rfl),QqM,Qif I I hl I,ih]
   grind
theorem QgA(p0:2<=per)(p1:per<=300){J:Y Tup}(hJ:X.JOK J){k0:Int->LL->oP R}{k1:Int->Bool->LL->oP R}{Ke K1:LL->oP R}(d:∀A,k0 13 A=Ke A)(e:∀u v A,k1 u v A=K1 A):∀(c m a:Nat) (A:LL),a+c=X.N->c<m->A.length+72*c<=900->∃A',
  QH 400 (X.N:Int) per (GU (X.occs X.L)) (J.map tuR) k0 k1 m (a:Int) A=match X.hdws per J c a with | none=>Ke A' | some H=>K1 (A++H)
 |0,m+1,a,A,ha,_,_=>by
  refine⟨A,?_⟩;rw[QH,Q5 ((a:Int)<(X.N:Int)),QqG,e,hdws];simp only[QqZ]
 |c+1,m+1,a,A,ha,hm,hA=>by
  have hN:X.N<=6:=base_le h;obtain⟨A1,f⟩:=Qgs h p0 p1 hJ (show a<X.N by omega) (Ke:=Ke) (K1:=λA=>QH 400 (X.N:Int) per (GU (X.occs X.L)) (J.map tuR) k0 k1 m ((a+1:Nat):Int) A) (k0:=λg i=>k0 g i) (k1:=λk l j=>QH 400 (X.N:Int) per (GU (X.occs X.L)) (J.map tuR) k0 k1 m ((a+1:Nat):Int) j) (λA=>d A) (λu v A=>rfl) c 400 (a+1) A I I I;rw[QH,Q6 ((a:Int)<(X.N:Int)),QqI,QI (show a<=1000 by omega),f,hdws];cases eh:X.hdw per J a c (a+1)with
  |none=>exact⟨A1,rfl⟩
  |some H=>
   have:=Q2o h p0 p1 (J:=J) (show a<X.N by omega) (c:=c) (b:=a+1) I eh;obtain⟨A2,h2⟩:=QgA p0 p1 hJ d e c m (a+1) (A++H) I I Q3;refine⟨A2,?_⟩;dsimp only;rw[h2];cases X.hdws per J c (a+1)with
   |none=>rfl
   |some H'=>simp -implicitDefEqProofs only[Option.map_some,QqQ]
theorem hdws_len(p0:2<=per)(p1:per<=300){J:Y Tup}:∀{c a:Nat} {H:LL},a+c=X.N->X.hdws per J c a=some H->H.length<=60*c
 |0,a,H,_,e=>by cases e;exact Qrj _
 |c+1,a,H,ha,e=>by
  have hN:X.N<=6:=base_le h;rw[hdws]at e;cases eh:X.hdw per J a c (a+1)with
  |none=>rw[eh]at e;cases e
  |some H1=>
   have:=Q2o h p0 p1 (J:=J) (show a<X.N by omega) (c:=c) (b:=a+1) I eh;rw[eh]at e;cases e2:X.hdws per J c (a+1)with
   |none=>simp only[e2]at e;cases e
   |some H2=>
    have:=hdws_len p0 p1 I e2;simp only[e2]at e;cases e;simp;omega
theorem Qh2(p0:2<=per)(p1:per<=300){J:Y Tup}(hJ:X.JOK J){A:LL}(hA:A.length<=100):∃A',Yp 400 per (GU (X.occs X.L)) (J.map tuR) A Tu2=some (match X.hdws per J X.N 0 with | none=>((13:Int),A') | some H=>(0,A++H)):=by
 have hN:X.N<=6:=base_le h;have aa:(GU (X.occs X.L)).length=X.N:=by rw[Ja];exact ZG
 unfold Yp;rw[aa];obtain⟨A',e⟩:=QgA h p0 p1 hJ (k0:=λc d=>some (c,d)) (k1:=λg i f=>some ((0:Int),f)) (Ke:=λA=>some (13,A)) (K1:=λA=>some (0,A)) (λ_=>rfl) (λ_ _ _=>rfl) X.N 400 0 A I I I;refine⟨A',e.trans ?_⟩
 grind
end Cx
namespace Cx
def netV(X:Cx)(per:Int)(J:Y Tup)(Ch Sy:LL):Int×LL×LL×Int:=bif X.aloneJ per J then(match X.hdws per J X.N 0 with
 |none=>(0,[],[],13)
 |some H=>(per,X.evs X.L,X.planned Ch Sy++H,0))else(0,[],[],13)
variable{X:Cx} (h:X.OK) {per:Int} {Ch Sy De:LL} (hl:X.LsOK per Ch Sy)
theorem Q7u{α:Type}{nr:Nat->Nat}{f:Nat->Nat->α}{x:α}:∀{L:Nat},x∈flat nr f L↔∃i k,i<L/\k<nr i/\x=f i k
 |0=>⟨λh=>(nomatch h),λ⟨_,_,h,_⟩=>by omega⟩
 |L+1=>by
  rw[flat,QqP,Q7u,QqY];constructor
  ·rintro (⟨i,k,b,h2,a⟩|⟨k,hk,rfl⟩)
   ·exact⟨i,k,I,h2,a⟩
   ·exact⟨L,k,I,Qra.1 hk,rfl⟩
  ·rintro⟨i,k,b,h2,a⟩;by_cases hi:i=L
   ·subst hi;exact .inr ⟨k,Qra.2 h2,a.symm⟩
   ·exact .inl ⟨i,k,I,h2,a⟩
theorem Q9N{t:Tup}:t∈X.jns↔(∃i k,i<X.L/\k<X.nr i-1/\t=X.j1 i k)\/∃u∈X.T,X.jT u=t:=by
 unfold jns jL;rw[QqP,Q7u,QqY]
include h
theorem QhN{i k:Nat}(hi:i<X.Ls.length)(hk:k<X.nr i):base X.nr i+k<X.N:=by
 have:=So (nr:=X.nr) (i:=i) (j:=X.L) hi;unfold N;omega
theorem QeU:X.JOK X.jns:=by
 refine⟨λt ht=>?_,Qep h⟩;rcases Q9N.1 ht with⟨i,k,a,h2,rfl⟩|⟨u,hu,rfl⟩
 ·have r:=rd h a (show k<X.nr i by omega);have q:=EY h a (show k<X.nr i by omega);have:=r.ex0;have:=r.ex1;have:=r.mn0;have:=r.mn1;have:=r.mn2;have:=r.mn3;refine⟨QhN h a I,QhN h a I,?_,?_,?_,?_⟩<;>simp only[j1]<;>omega
 ·have ht:=h.tr _ hu;have ha:u.1<X.Ls.length:=ht.1;have hb:u.2.1<X.Ls.length:=ht.2.1;have na:=(line h ha).2.1;have nb:=(line h hb).2.1;have t1:=ht.2.2.1;have t2:=ht.2.2.2.1;have b:=ht.2.2.2.2.1;have c:=ht.2.2.2.2.2.1;have r:=rd h ha (show X.nr u.1-1<X.nr u.1 by omega);have q:=EY h ha (show X.nr u.1-1<X.nr u.1 by omega);have:=r.ex0;have:=r.ex1;refine⟨QhN h ha I,QhN h hb I,?_,?_,?_,?_⟩<;>simp only[jT]<;>omega
include hl
theorem planned_len:(X.planned Ch Sy).length<=35:=by
 have hN:base X.nr X.L<=6:=base_le h;have:=AQ (X:=X) (i:=X.L);have:=hl.chl;have:=hl.syl;have:=h.tl;unfold planned;simp only[Qr5,QqM];omega
theorem buildP(p0:2<=per)(p1:per<=300)(hc:Je 400 X.G.St X.G.Pt X.G.Se X.G.Li per X.skR X.Ro X.Ls Ch (X.T.map tuR) Sy De (some:Int->oP Int)=some 0) :
  Zs 400 X.G.St X.G.Pt X.G.Se X.G.Li per X.skR X.Ro X.Ls Ch (X.T.map tuR) Sy De Tu4=some (X.netV per X.jns Ch Sy):=by
 have hN:base X.nr X.L<=6:=base_le h;have ac:=planned_len h hl;unfold Zs netV;rw[hc,Qh,Qq (by rfl),QdQ h,Qh];dsimp only;rw[evs_len,Qq (QqO I),QgG h hc,Qh];dsimp only;rw[Qq (by rfl),Qfp h,Qh];rw[QfC h I p1 (QeU h),Qh];cases X.aloneJ per X.jns
 ·rfl
 rw[Qq (by rfl),Qbt h hl,Qh];obtain⟨A',e⟩:=Qh2 h p0 p1 (QeU h) (A:=X.planned Ch Sy) I;rw[e,Qh,QqI];cases eh:X.hdws per X.jns X.N 0 with
 |none=>rfl
 |some H=>
  have:=hdws_len h p0 p1 I eh;have aa:X.N<=6:=hN;dsimp only;rw[Qq (by rfl),Qq (QqO (by rw[Qr5];omega))]
end Cx
theorem Qcy{α β:Type}{r:Nat->Int->β}{l:Y α}{p:α->Bool}{F:α->β}{E:β}(a:∀m i q,l[i]? = some q->i<l.length->r (m+1) (i:Int)=bif p q then F q else r m ((i+1:Nat):Int))(b:∀m,r (m+1) (l.length:Int)=E){fuel:Nat}(hf:l.length<fuel):r fuel 0=match l.find? p with | some q=>F q | none=>E:=by
 have go:∀(aa:Y α) (i m:Nat),l.drop i=aa->aa.length<m->i<=l.length->r m (i:Int)=match aa.find? p with | some q=>F q | none=>E:=by
  intro aa;induction aa with
  |nil=>
   intro i m hd hm hi;obtain⟨m,rfl⟩:∃k,m=k+1:=⟨m-1,I⟩
   grind
  |cons q aa ih=>
   intro i m hd hm hi;obtain⟨m,rfl⟩:∃k,m=k+1:=⟨m-1,by simp at hm;omega⟩
   grind[Yc]
 exact go l 0 fuel rfl hf (Qro _)
theorem Qg3{t:Int}{O:Y Occ}(a:1<=t)(b:t<=7200)(hO:OL (-1) O)(hl:O.length<=300):MO 400 t (O.map enc) (some:Bool->oP Bool)=some (O.all (Lz t)):=by
 unfold MO;rw[Q5d a b,Qa9 hl hO];simp -implicitDefEqProofs only[QqG,Qh,QqT,Qr7];refine(Tt (r:=λm i=>Jg 400 t (O.map enc) (some false) (λ_ _=>some true) m i) (l:=O) (p:=Lz t) (E0:=some false) (E1:=some true) (λm i q e hi=>?_) (λm=>?_) I).trans (by cases O.all (Lz t)<;>rfl)
 ·rw[Jg,QqM,Qt hi,QqI,X5 e];simp -implicitDefEqProofs only[Qh,Mh,F2,Ed,Qj,QI (show i<=1000 by omega),Qjt hO (QqJ e)];unfold Lz;cases decide (q.2.2-q.2.1>t)<;>rfl
 ·rw[Jg,QqM,Qz,QqG]
def Q8v(O:Y Occ)(r:Int):Bool:=(O.find? λq=>q.1 == r).isSome
def fnd(O:Y Occ)(r:Int):Occ:=(O.find? λq=>q.1 == r).getD (0,0,0)
theorem B8{p:Occ->Bool}{r:Int}(hp:∀q,q.1≠r->p q=false):∀{l:Int} {O:Y Occ},OL l O->O.any p=(bif Q8v O r then p (fnd O r)else false)
 |_,[],_=>rfl
 |l,(x,a,b)::O,⟨c,h2,d,e,h5,h6⟩=>by
  have ih:=B8 hp h6;unfold Q8v fnd at ih ⊢;by_cases hx:x=r
  ·subst hx;have:O.any p=false:=by
    rw[List.any_eq_false];intro q hq;have:=(h6.mem q hq).1
    grind
   simp_all
  grind
theorem Q5K{O:Y Occ}{r:Int}(h:Q8v O r=true):(fnd O r).1=r:=by
 unfold Q8v at h;unfold fnd;cases e:O.find? λq=>q.1 == r with
 |none=>simp_all
 |some q=>grind
theorem QeW{l:Int}{O:Y Occ}(hO:OL l O){x:Occ}(hx:x∈O):Q8v O x.1=true/\fnd O x.1=x:=by
 unfold Q8v fnd;cases e:O.find? λq=>q.1 == x.1 with
 |none=>grind
 |some q=>exact⟨rfl,hO.uniq (Qrd e) hx (by grind)⟩
def okR(la:Int)(A B:Y Occ)(r:Int):Bool:=bif (bif Q8v A r then Q8v B r else false)then decide (la+(fnd B r).2.1<=(fnd A r).2.2)else false
theorem QcG{la:Int}{x y:Occ}(h:y.1≠x.1):tie la x y=false:=by
 grind[tie]
theorem Qgo{la r:Int}{A B:Y Occ}(hA:OL (-1) A)(hB:OL (-1) B):okR la A B r=Q4X la A B r:=by
 unfold Q4X okR;rw[B8 (r:=r) (λq hq=>by
  simp_all) hA]
 cases ha:Q8v A r with
 |false=>rfl
 |true=>
  have ea:=Q5K ha;rw[QqI,QqI,B8 (r:=r) (λy hy=>by grind[QcG]) hB];cases hb:Q8v B r with
  |false=>rfl
  |true=>
   have eb:=Q5K hb
   simp_all [tie,QqI,decide,fnd]
theorem Qdq{per la mo:Int}{A B:Y Occ}(hA:OL (-1) A)(hB:OL (-1) B){x:Occ}(hx:x∈A):(B.any λy=>bif tie la x y then Q3k per la mo x y else false)=bif okR la A B x.1 then Q3k per la mo (fnd A x.1) (fnd B x.1)else false:=by
 have ha:=QeW hA hx;unfold okR;rw[B8 (r:=x.1) (λy hy=>by grind[QcG]) hB,ha.1,ha.2,QqI];cases hb:Q8v B x.1 with
 |false=>rfl
 |true=>
  simp_all [Q5K,tie,QqI]
theorem Q6b{l:Int}{O:Y Occ}(hO:OL l O){r:Int} : -1000<=(fnd O r).2.1/\(fnd O r).2.1<=20000 /\ -1000<=(fnd O r).2.2/\(fnd O r).2.2<=20000:=by
 unfold fnd;cases e:O.find? λq=>q.1 == r with
 |none=>simp
 |some q=>
  have:=hO.mem q (Qrd e)
  grind
theorem QfS{R:Type}{O:Y Occ}(hl:O.length<=300){r:Int}(K:D->D->D->Bool->oP R):Vr 400 (O.map enc) r K=K (Ql (fnd O r).1) (Ql (fnd O r).2.1) (Ql (fnd O r).2.2) (Q8v O r):=by
 unfold Vr fnd Q8v;refine(Qcy (r:=λm i=>Z2 400 (O.map enc) r (λa b c=>K a b c true) (λd f=>K (Ql 0) (Ql 0) (Ql 0) false) m i) (l:=O) (p:=λq=>q.1 == r) (F:=λq=>K (Ql q.1) (Ql q.2.1) (Ql q.2.2) true) (E:=K (Ql 0) (Ql 0) (Ql 0) false) (λm i q e hi=>?_) (λm=>?_) I).trans ?_
 ·rw[Z2,QqM,Qt hi,QqI,X5 e];simp -implicitDefEqProofs only[Qh,Mh,F2,Ed,Qj,QI (show i<=1000 by omega)]
 ·rw[Z2,QqM,Qz,QqG]
 ·cases O.find? λq=>q.1 == r<;>rfl
namespace Cx
variable{R:Type} {X:Cx} (h:X.OK)
include h
theorem Qfu{J:Y Tup}(hJ:X.JOK J){t:Tup}(ht:t∈J){r:Int}(K:D->D->D->D->D->D->Bool->oP R):PU 400 (GU (X.occs X.L)) (t.1:Int) (t.2.1:Int) t.2.2.1 r K=K (Ql (fnd (X.occN t.1) r).1) (Ql (fnd (X.occN t.1) r).2.1) (Ql (fnd (X.occN t.1) r).2.2) (Ql (fnd (X.occN t.2.1) r).1) (Ql (fnd (X.occN t.2.1) r).2.1) (Ql (fnd (X.occN t.2.1) r).2.2) (okR t.2.2.1 (X.occN t.1) (X.occN t.2.1) r):=by
 have hj:=hJ.at' t ht;have oa:=Jm h hj.1;have ob:=Jm h hj.2.1;have rb:=Q6b ob.2.1 (r:=r);unfold PU okR;rw[oa.1,ob.1];simp -implicitDefEqProofs only[Qh,QqF,X2,QfS (show(X.occN t.1).length<=300 by omega),QfS (show(X.occN t.2.1).length<=300 by omega),Qj,Qo (x:=t.2.2.1+(fnd (X.occN t.2.1) r).2.1) I I]
theorem Qgt{J:Y Tup}(hJ:X.JOK J){t:Tup}(ht:t∈J){per:Int}(K:Bool->oP R):RI 400 (GU (X.occs X.L)) (t.1:Int) (t.2.1:Int) t.2.2.1 t.2.2.2 per K=K (!Q9L per t.2.2.1 t.2.2.2 (X.occN t.1) (X.occN t.2.1)):=by
 have hj:=hJ.at' t ht;have oa:=Jm h hj.1;have ob:=Jm h hj.2.1;unfold RI Q9L;refine(Tt (r:=λm i=>UE 400 (GU (X.occs X.L)) per (t.1:Int) (t.2.1:Int) t.2.2.1 t.2.2.2 (K false) (λa b=>K true) m i) (l:=X.occN t.1) (p:=λx=>!((X.occN t.2.1).any λy=>bif tie t.2.2.1 x y then Q3k per t.2.2.1 t.2.2.2 x y else false)) (E0:=K false) (E1:=K true) (λm i x e hi=>?_) (λm=>?_) I).trans ?_
 ·have ra:=Q6b oa.2.1 (r:=x.1);have rb:=Q6b ob.2.1 (r:=x.1);rw[UE,oa.1,Qdq oa.2.1 ob.2.1 (QqJ e)];simp -implicitDefEqProofs only[Qh,QqF,X2,QqM,Qt hi,QqI,X5 e,Mh,Qj,Qfu h hJ ht,QI (show i<=1000 by omega)];generalize fnd (X.occN t.1) x.1=u at ra ⊢;generalize fnd (X.occN t.2.1) x.1=v at rb ⊢;cases okR t.2.2.1 (X.occN t.1) (X.occN t.2.1) x.1 with
  |false=>rfl
  |true=>
   rw[QqI,QqI,Qo (x:=t.2.2.1+v.2.1) I I,Qo (x:=t.2.2.2+v.2.2) I I,Qo (x:=(if u.2.2<t.2.2.2+v.2.2 then t.2.2.2+v.2.2 else u.2.2)-(if t.2.2.1+v.2.1<u.2.1 then t.2.2.1+v.2.1 else u.2.1)) (by split<;>split<;>omega) (by split<;>split<;>omega)];unfold Q3k;cases decide ((if u.2.2<t.2.2.2+v.2.2 then t.2.2.2+v.2.2 else u.2.2)-(if t.2.2.1+v.2.1<u.2.1 then t.2.2.1+v.2.1 else u.2.1)>per)<;>rfl
 ·rw[UE,oa.1];simp -implicitDefEqProofs only[Qh,QqF,X2,QqM,Qz,QqG]
 ·rw[<- List.not_any_eq_all_not];cases (X.occN t.1).any λx=>(X.occN t.2.1).any λy=>bif tie t.2.2.1 x y then Q3k per t.2.2.1 t.2.2.2 x y else false<;>rfl
theorem Qa8{J:Y Tup}(hJ:X.JOK J){a b i:Nat}(ha:a<X.N){x:Occ}(e:(X.occN a)[i]? = some x)(k0:Bool->Int->Bool->oP R):YW 400 (GU (X.occs X.L)) (J.map tuR) (a:Int) (b:Int) (i:Int) k0 400 false 0=k0 (X.TRb J a b x.1) (J.length:Int) false:=by
 have oa:=Jm h ha;have hl:=hJ.len;unfold TRb;rw[<- Bool.false_or (List.any _ _),<- E5];refine FD (r:=λm j c=>YW 400 (GU (X.occs X.L)) (J.map tuR) (a:Int) (b:Int) (i:Int) k0 m c j) (E:=λc=>k0 c (J.length:Int) false) (λm j t c e' hi=>?_) (λm c=>?_) I false
 ·have hj:=hJ.at' t (QqJ e');have d:=Jm h hj.1;have f:=Jm h hj.2.1;have aa:Qi (J.map tuR) (j:Int)=some [Ql t.1,Ql t.2.1,Ql t.2.2.1,Ql t.2.2.2]:=X5 e';rw[YW,QqM,Qt hi,QqI,aa];simp -implicitDefEqProofs only[Qh,QqF,QqK,Qj,X2,oa.1,X5 e,Mh,Qfu h hJ (QqJ e'),QI (show j<=1000 by omega),Qgo d.2.1 f.2.1];show(bif jab a b t then _ else _)=_;cases jab a b t<;>cases c<;>rfl
 ·rw[YW,QqM,Qz,QqG]
theorem Q6B{J:Y Tup}(hJ:X.JOK J){a b:Nat}(ha:a<X.N)(K:LL->oP R):GB 400 (GU (X.occs X.L)) (J.map tuR) (a:Int) (b:Int) K=K ((X.fil J a b).map enc):=by
 have oa:=Jm h ha;unfold GB fil;refine QY (r:=λm i=>ZS 400 (GU (X.occs X.L)) (J.map tuR) (a:Int) (b:Int) (λd f c=>K c) m i ((((X.occN a).take i.toNat).filter λo=>!X.TRb J a b o.1).map enc)) (N:=(X.occN a).length) (λm i hi=>?_) (λm=>?_) (X.occN a).length 400 0 I I
 ·simp only[QqH];obtain⟨x,e⟩:∃q,(X.occN a)[i]? = some q:=⟨(X.occN a)[i],QqL hi⟩;have ac:(((X.occN a).take i).filter λo=>!X.TRb J a b o.1).length<=i:=Nat.le_trans (Qrn ..) Q3;rw[ZS,oa.1];simp -implicitDefEqProofs only[Qh,QqF,X2,QqM,Qt hi,QqI,Qa8 h hJ ha e,X5 e,Mh,F2,Ed,QI (show i<=1000 by omega),XI (show((((X.occN a).take i).filter λo=>!X.TRb J a b o.1).length+[[Ql x.1,Ql x.2.1,Ql x.2.2]].length)*24<=100000 by simp;omega)];rw[Zv e,List.filter_append,QqS];simp only[List.filter_cons,List.filter_nil];cases X.TRb J a b x.1 with
  |false=>rfl
  |true=>
   rw[QqT,QqG,Qr2 Bool.false_ne_true,List.map_nil,QqZ]
 ·simp only[QqH];rw[ZS,oa.1];simp -implicitDefEqProofs only[Qh,QqF,X2,QqM,Qz,QqG,Qr9]
end Cx
theorem QcP{a b:Nat}(h:a+b<=100000):wJ ((a:Int)+(b:Int))=((a+b:Nat):Int):=Qo I I
theorem Qei{a:Nat}(h:a<=100000):wJ ((a:Int)+1)=((a+1:Nat):Int):=Qo I I
theorem QiJ{a:Nat}(h:a<=100000):wJ ((a:Int)+2)=((a+2:Nat):Int):=Qo I I
theorem Q0n{a:Nat}(h:a<=100000):wJ (2*(a:Int))=((2*a:Nat):Int):=Qo I I
namespace Cx
def jR(X:Cx)(i:Nat):Y Tup:=(List.range (X.nr i-1)).map (X.j1 i)++(match X.tn i with | some t=>[X.jT t] | none=>[])
def jnsR(X:Cx):Nat->Y Tup
 |0=>[]
 |i+1=>jnsR X i++X.jR i
variable{R:Type} {n:Nat} {X:Cx} (h:X.OK)
theorem Q7y{t:Tup}:∀{L:Nat},t∈X.jnsR L↔∃i,i<L/\t∈X.jR i
 |0=>⟨λh=>(nomatch h),λ⟨_,h,_⟩=>by omega⟩
 |L+1=>by
  rw[jnsR,QqP,Q7y];constructor
  ·rintro (⟨i,a,h2⟩ | h2)
   ·exact⟨i,I,h2⟩
   ·exact⟨L,I,h2⟩
  ·rintro⟨i,a,h2⟩;by_cases hi:i=L
   ·subst hi;exact .inr h2
   ·exact .inl ⟨i,I,h2⟩
theorem Q9J{i:Nat}{t:Tup}(ht:X.tn i=some t):t∈X.T/\t.1=i:=⟨Qrd ht,by simpa using List.find?_some ht⟩
theorem Q7z{α β:Type}{f:α->β}:∀{l:Y α},(l.map f).Nodup->∀{x y},x∈l->y∈l->f x=f y->x=y
 |[],_,_,_,h,_,_=>nomatch h
 |a::l,hn,x,y,hx,hy,e=>by
  rw[List.map_cons,List.nodup_cons]at hn;cases hx with
  |head=>
   cases hy with
   |head=>rfl
   |tail _ hy=>exact(hn.1 (QqY.2 ⟨y,hy,e.symm⟩)).elim
  |tail _ hx=>
   cases hy with
   |head=>exact(hn.1 (QqY.2 ⟨x,hx,e⟩)).elim
   |tail _ hy=>exact Q7z hn.2 hx hy e
include h
theorem QiY{t:Tup}(ht:t∈X.T):X.tn t.1=some t:=by
 cases e:X.tn t.1 with
 |none=>exact absurd (List.find?_eq_none.1 e t ht) Q2
 |some u=>
  have hu:=Q9J e;rw[Q7z h.fd hu.1 ht hu.2]
theorem Q3n{t:Tup}:t∈X.jnsR X.L↔t∈X.jns:=by
 rw[Q7y,Q9N];constructor
 ·rintro⟨i,hi,ht⟩;rcases QqP.1 ht with ht | ht
  ·grind
  ·cases e:X.tn i with
   |none=>simp_all
   |some u=>
    rw[e]at ht;obtain rfl:=QqV.1 ht;exact .inr ⟨u,(Q9J e).1,rfl⟩
 ·rintro (⟨i,k,hi,hk,rfl⟩|⟨u,hu,rfl⟩)
  ·exact⟨i,hi,Qrf _ (List.mem_map_of_mem (Qra.2 hk))⟩
  ·refine⟨u.1,(h.tr _ hu).1,Qre _ ?_⟩
   grind[QiY]
theorem Q7E{i:Nat}(hi:i<=X.Ls.length):(X.jnsR i).length<=base X.nr i:=by
 induction i with
 |zero=>exact Qrj _
 |succ i ih=>
  have hl:=(line h (i:=i) I).2.1
  grind[jnsR,jR,List.length_append,List.length_map,List.length_range,base]
theorem QfY:X.JOK (X.jnsR X.L):=⟨λt ht=>(QeU h).at' t ((Q3n h).1 ht),by have:=Q7E h (i:=X.L) (Qrj _);have:=base_le h;omega⟩
theorem Q2f{i:Nat}(hi:i<=X.Ls.length)(K:Int->oP R):U1 400 X.Ls (i:Int) K=K ((base X.nr i:Nat):Int):=by
 have hb:=Zr h hi;have l1:=h.l1;unfold U1;refine QY (r:=λm k=>Ji 400 (i:Int) X.Ls (λc d e=>K c) m ((base X.nr k.toNat:Nat):Int) k) (N:=i) (λm k hk=>?_) (λm=>?_) i 400 0 I I
 ·simp only[QqH];have aa:=Zr h (i:=k+1) I;rw[base]at aa;have ha:wJ (((base X.nr k:Nat):Int)+(((KZ X.Ls k).length:Nat):Int))=((base X.nr (k+1):Nat):Int):=QcP (a:=base X.nr k) (b:=X.nr k) I;rw[Ji,Qt hk,QqI,Qp,(line h I).1];simp -implicitDefEqProofs only[Qh,QqF,QqK,X2,QI (show k<=1000 by omega),ha]
 ·simp only[QqH];rw[Ji,Qz,QqG]
theorem Qh5(K:LL->oP R):R0 400 X.Ls (X.T.map tuR) (encI (X.runs X.L)) K=K ((X.jnsR X.L).map tuR):=by
 have l1:=h.l1;unfold R0;refine QY (r:=λm i=>Ur 400 (encI (X.runs X.L)) X.Ls (X.T.map tuR) (λf g c=>K c) m i ((X.jnsR i.toNat).map tuR)) (N:=X.Ls.length) (λm i hi=>?_) (λm=>?_) X.Ls.length 400 0 I I
 ·simp only[QqH];have hl:=(line h hi).2.1;have hb:=Zr h (i:=i) I;have hw:wJ (((List.length (KZ X.Ls i):Nat):Int)-1)=((X.nr i-1:Nat):Int):=JT (k:=X.nr i) I I;have hJ:=Q7E h (i:=i) I;rw[Ur,Qt hi,QqI,Qp,(line h hi).1];simp -implicitDefEqProofs only[Qh,QqF,QqK,QI (show i<=1000 by omega)];refine QY (r:=λm' k=>Wh 400 (encI (X.runs X.L)) (i:Int) X.Ls (X.T.map tuR) (D.sl 4 (KZ X.Ls i)) (λ_ _ w=>Ur 400 (encI (X.runs X.L)) X.Ls (X.T.map tuR) (λf g c=>K c) m ((i+1:Nat):Int) w) m' k ((if k.toNat<=X.nr i-1 then X.jnsR i++(List.range k.toNat).map (X.j1 i)else X.jnsR (i+1)).map tuR)) (N:=X.nr i) (λm' k hk=>?_) (λm'=>?_) (X.nr i) 400 0 I I |> Eq.trans Q2
  ·simp only[QqH];have r:=rd h hi hk;have hr:=EY h hi hk;have aa:Qi (KZ X.Ls i) (k:Int)=some [Ql (rF X.Ls i k 0),Ql (X.ex i k),Ql (X.mn i k),Ql (X.mx i k)]:=by rw[Qp,r.row]
   have l:=r.ex0;have e1:=r.ex1;have e2:=r.mn0;have n:=r.mn1;have o:=r.mn2;have p:=r.mn3;rw[Wh,X2,Qh,show(((KZ X.Ls i).length:Nat):Int)=((X.nr i:Nat):Int)from rfl,Qt hk,QqI,Qr4 (show k<=X.nr i-1 by omega)];simp -implicitDefEqProofs only[Qh,Q2f h (show i<=X.Ls.length by omega),aa,QqF,QqK,Qj,X2,hw,QcP (a:=base X.nr i) (b:=k) I,Q6O hi hk,QI (show k<=1000 by omega),Qo (x:=X.run i k+X.mn i k) I I,Qo (x:=X.run i k+X.ex i k) I I,Qo (x:=X.run i k+X.ex i k+X.mx i k) I I,Qei (a:=base X.nr i+k) I];by_cases j:k<X.nr i-1
   ·rw[Qt j,QqI,Qr4 (show k+1<=X.nr i-1 by omega),XI Q3,Qh,<- ZC,QqS (l₁:=X.jnsR i++(List.range k).map (X.j1 i))];rfl
   ·rw[Q5 ((k:Int)<((X.nr i-1:Nat):Int)),QqG,Qr2 (show ¬ k+1<=X.nr i-1 by omega),Qe0 h];have d:k=X.nr i-1:=I
    cases ht:X.tn i with
    |none=>
     simp -implicitDefEqProofs only[Qh,QqG,jnsR,jR,ht,QqZ,d]
    |some t=>
     obtain⟨t1,t2⟩:=Q9J ht;have aj:=(h.tr _ t1).2.1;have q1:=(h.tr _ t1).2.2.1;have q:=(h.tr _ t1).2.2.2.1;have s:=(h.tr _ t1).2.2.2.2.1;have q4:=(h.tr _ t1).2.2.2.2.2.1;simp -implicitDefEqProofs only[Qh,QqI,Qj,Q2f h (show t.2.1<=X.Ls.length by omega),Qo (x:=X.run i k+t.2.2.1) I I,Qo (x:=X.run i k+X.ex i k+t.2.2.2) I I,jnsR,jR,ht];have e:[Ql ((base X.nr i+k:Nat):Int),Ql ((base X.nr t.2.1:Nat):Int),Ql (X.run i k+t.2.2.1),Ql (X.run i k+X.ex i k+t.2.2.2)]=tuR (X.jT t):=by
      unfold tuR jT;rw[t2,d];rfl
     rw[XI Q3,Qh,e,d,<- QqQ,QqS (l₁:=X.jnsR i++_)];rfl
  ·simp only[QqH];rw[Wh,X2,Qh,show(((KZ X.Ls i).length:Nat):Int)=((X.nr i:Nat):Int)from rfl,Qz,QqG,Qr2 I]
 ·simp only[QqH];rw[Ur,Qz,QqG];rfl
theorem QdU(k0:LL->oP R):Wj 400 X.Ls (λ_ _ w=>k0 w) 400 0 []=k0 (X.evs X.L):=by
 have l1:=h.l1;refine QY (r:=λm i=>Wj 400 X.Ls (λ_ _ w=>k0 w) m i (X.evs i.toNat)) (N:=X.Ls.length) (λm i hi=>?_) (λm=>?_) X.Ls.length 400 0 I I
 ·simp only[QqH];have hl:=(line h hi).2.1;have hb:=Zr h (i:=i) I;rw[Wj,Qt hi,QqI,QI (show i<=1000 by omega)];refine QY (r:=λm' k=>VG 400 (i:Int) X.Ls (λ_ _ w=>Wj 400 X.Ls (λ_ _ w=>k0 w) m ((i+1:Nat):Int) w) m' k (X.evs i++evl i k.toNat)) (N:=X.nr i) (λm' k hk=>?_) (λm'=>?_) (X.nr i) 400 0 I I |> Eq.trans (by simp[evl])
  ·simp only[QqH];rw[VG,Qp,(line h hi).1];simp -implicitDefEqProofs only[Qh,QqF,QqK,X2];rw[show(((KZ X.Ls i).length:Nat):Int)=((X.nr i:Nat):Int)from rfl,Qt hk,QqI,XI (by simp[evs_len,RJ];omega),Qh,QI I,QqQ];rfl
  ·simp only[QqH];rw[VG,Qp,(line h hi).1];simp -implicitDefEqProofs only[Qh,QqF,QqK,X2];rw[show(((KZ X.Ls i).length:Nat):Int)=((X.nr i:Nat):Int)from rfl,Qz,QqG];rfl
 ·simp only[QqH];rw[Wj,Qz,QqG];rfl
theorem Qg7(K:LL->oP R):SV 400 X.Ls (encI (X.runs X.L)) K=K (X.pls X.L):=by
 have l1:=h.l1;unfold SV;refine QY (r:=λm i=>Uw 400 (encI (X.runs X.L)) X.Ls (λe f c=>K c) m i (X.pls i.toNat)) (N:=X.Ls.length) (λm i hi=>?_) (λm=>?_) X.Ls.length 400 0 I I
 ·simp only[QqH];have hl:=(line h hi).2.1;have hb:=Zr h (i:=i) I;have hp:=AQ (X:=X) (i:=i);have hw:wJ (((List.length (KZ X.Ls i):Nat):Int)-1)=((X.nr i-1:Nat):Int):=JT (k:=X.nr i) I I;rw[Uw,Qt hi,QqI,Qp,(line h hi).1];simp -implicitDefEqProofs only[Qh,QqF,QqK,QI (show i<=1000 by omega)];refine QY (r:=λm' k=>Uz 400 (encI (X.runs X.L)) (i:Int) X.Ls (Ql (X.w i)) (D.sl 4 (KZ X.Ls i)) (λ_ _ w=>Uw 400 (encI (X.runs X.L)) X.Ls (λe f c=>K c) m ((i+1:Nat):Int) w) m' k (X.pls i++X.pl i k.toNat)) (N:=X.nr i) (λm' k hk=>?_) (λm'=>?_) (X.nr i) 400 0 I I |> Eq.trans (by simp[pl])
  ·simp only[QqH];have r:=rd h hi hk;have hr:=EY h hi hk;have aa:Qi (KZ X.Ls i) (k:Int)=some [Ql (rF X.Ls i k 0),Ql (X.ex i k),Ql (X.mn i k),Ql (X.mx i k)]:=by rw[Qp,r.row]
   have g:=r.ex0;have e1:=r.ex1;have ai:=Q7G (X:=X) (i:=i) (k:=k);rw[Uz,X2,Qh,show(((KZ X.Ls i).length:Nat):Int)=((X.nr i:Nat):Int)from rfl,Qt hk,QqI];simp -implicitDefEqProofs only[Qh,Q2f h (show i<=X.Ls.length by omega),aa,QqF,QqK,Qj,X2,hw,QcP (a:=base X.nr i) (b:=k) I,Q6O hi hk,QI (show k<=1000 by omega),Qo (x:=X.run i k+X.ex i k) I I,Q0n (a:=base X.nr i+k) I,Qei (a:=2*(base X.nr i+k)) I,QiJ (a:=2*(base X.nr i+k)) I];rw[XI Q3,Qh];by_cases d:k<X.nr i-1
   ·rw[Qt d,QqI,XI Q3,Qh,pl,Qr4 d,<- QqQ,<- QqQ];rfl
   ·rw[Q5 ((k:Int)<((X.nr i-1:Nat):Int)),QqG,pl,Qr2 d,QqZ,<- QqQ];rfl
  ·simp only[QqH];rw[Uz,X2,Qh,show(((KZ X.Ls i).length:Nat):Int)=((X.nr i:Nat):Int)from rfl,Qz,QqG];rfl
 ·simp only[QqH];rw[Uw,Qz,QqG];rfl
theorem Qhk{per:Int}{Ch Sy:LL}(hl:X.LsOK per Ch Sy)(K:LL->oP R):RH 400 X.Ls Ch (X.T.map tuR) Sy K=K (Ch.map X.chE++X.T.map X.tuE++Sy.map X.syE):=by
 have l1:=h.l1;have tl:=h.tl;have chl:=hl.chl;have syl:=hl.syl;unfold RH;have s1:∀k0:LL->oP R,Ux 400 X.Ls Ch (λ_ _ w=>k0 w) 400 0 []=k0 (Ch.map X.chE):=by
  intro k0;refine QY (r:=λm j=>Ux 400 X.Ls Ch (λ_ _ w=>k0 w) m j ((Ch.take j.toNat).map X.chE)) (N:=Ch.length) (λm j hj=>?_) (λm=>?_) Ch.length 400 0 I I
  ·simp only[QqH];obtain⟨row,e⟩:∃q,Ch[j]? = some q:=⟨Ch[j],QqL hj⟩;obtain⟨f,fr,t,tr,mn,mx,w,rfl,g1,n,c,y,z,g6⟩:=hl.ch row (QqJ e);have nf:=(line h g1).2.1;have nt:=(line h c).2.1;have bf:=Zr h (i:=f) I;have bt:=Zr h (i:=t) I;rw[Ux,Qt hj,QqI,Qp,e,Zv e,QqS];simp -implicitDefEqProofs only[Qh,QqF,QqK,Qj,Q2f h (show f<=X.Ls.length by omega),Q2f h (show t<=X.Ls.length by omega),QI (show j<=1000 by omega),QcP (a:=base X.nr f) (b:=fr) I,QcP (a:=base X.nr t) (b:=tr) I,Q0n (a:=base X.nr f+fr) I,Q0n (a:=base X.nr t+tr) I,Qei (a:=2*(base X.nr f+fr)) I];rw[XI Q3,Qh];rfl
  ·simp only[QqH];rw[Ux,Qz,QqG,Qr9]
 have s2:∀k0:LL->oP R,Wf 400 X.Ls (X.T.map tuR) (λ_ _ w=>k0 w) 400 0 (Ch.map X.chE)=k0 (Ch.map X.chE++X.T.map X.tuE):=by
  intro k0;refine QY (r:=λm j=>Wf 400 X.Ls (X.T.map tuR) (λ_ _ w=>k0 w) m j (Ch.map X.chE++(X.T.take j.toNat).map X.tuE)) (N:=X.T.length) (λm j hj=>?_) (λm=>?_) X.T.length 400 0 I I |> Eq.trans Q2
  ·simp only[QqH];obtain⟨⟨a,b,lo,hi⟩,e⟩:∃q,X.T[j]? = some q:=⟨X.T[j],QqL hj⟩;have ht:=h.tr _ (QqJ e);have g1:a<X.Ls.length:=ht.1;have c:b<X.Ls.length:=ht.2.1;have nf:=(line h g1).2.1;have bf:=Zr h (i:=a) I;have bt:=Zr h (i:=b) I;have aa:Qi (X.T.map tuR) (j:Int)=some [Ql a,Ql b,Ql lo,Ql hi]:=X5 e;have p:Ch.map X.chE++(X.T.take (j+1)).map X.tuE=Ch.map X.chE++(X.T.take j).map X.tuE++[X.tuE (a,b,lo,hi)]:=by rw[Zv e,QqS,<- QqQ];rfl
   have hw:wJ (((2*(base X.nr a+X.nr a):Nat):Int)-1)=((2*(base X.nr a+(X.nr a-1))+1:Nat):Int):=by rw[Qo I I];omega
   have ha:wJ (((base X.nr a:Nat):Int)+(((KZ X.Ls a).length:Nat):Int))=((base X.nr a+X.nr a:Nat):Int):=QcP (a:=base X.nr a) (b:=X.nr a) I;rw[Wf,QqM,Qt hj,QqI,aa,p];simp -implicitDefEqProofs only[Qh,QqF,QqK,Qj,X2,Q2f h (show a<=X.Ls.length by omega),Q2f h (show b<=X.Ls.length by omega),Qp,(line h g1).1,QI (show j<=1000 by omega),ha,Q0n (a:=base X.nr a+X.nr a) I,Q0n (a:=base X.nr b) I,hw];rw[XI Q3,Qh];rfl
  ·simp only[QqH];rw[Wf,QqM,Qz,QqG,Qr9]
 have s:∀k0:LL->oP R,Zl 400 X.Ls Sy (λ_ _ w=>k0 w) 400 0 (Ch.map X.chE++X.T.map X.tuE)=k0 (Ch.map X.chE++X.T.map X.tuE++Sy.map X.syE):=by
  intro k0;refine QY (r:=λm j=>Zl 400 X.Ls Sy (λ_ _ w=>k0 w) m j (Ch.map X.chE++X.T.map X.tuE++(Sy.take j.toNat).map X.syE)) (N:=Sy.length) (λm j hj=>?_) (λm=>?_) Sy.length 400 0 I I |> Eq.trans Q2
  ·simp only[QqH];obtain⟨row,e⟩:∃q,Sy[j]? = some q:=⟨Sy[j],QqL hj⟩;obtain⟨o,rfl,g1,n,c⟩:=hl.sy row (QqJ e);have bt:=Zr h (i:=1) I;have k:=Q2f (R:=Int) h (show 0<=X.Ls.length by omega) some;have l:=Q2f (R:=Int) h (show 1<=X.Ls.length by omega) some;have a0:=QcP (a:=base X.nr 0) (b:=0) (by simp[base]);have a1:=QcP (a:=base X.nr 1) (b:=0) I;simp only[show((0:Nat):Int)=0 from rfl,show((1:Nat):Int)=1 from rfl]at k l a0 a1;rw[Zl,Qt hj,QqI,Qp,e,Zv e,QqS,<- QqQ];simp -implicitDefEqProofs only[Qh,QqF,QqK,Qj,k,l,a0,a1,QI (show j<=1000 by omega),Q0n (a:=base X.nr 0+0) (by simp[base]),Q0n (a:=base X.nr 1+0) I];rw[XI Q3,Qh];rfl
  ·simp only[QqH];rw[Zl,Qz,QqG,Qr9]
 rw[s1 (λu=>Wf 400 X.Ls (X.T.map tuR) (λab ac d=>Zl 400 X.Ls Sy (λv x g=>K g) 400 0 d) 400 0 u),s2 (λd=>Zl 400 X.Ls Sy (λv x g=>K g) 400 0 d),s]
end Cx
theorem Qh7{α:Type}{J J':Y α}(hJ:∀t,t∈J↔t∈J')(p:α->Bool):J.any p=J'.any p:=by
 rw[Bool.eq_iff_iff,List.any_eq_true,List.any_eq_true];exact⟨λ⟨t,a,h2⟩=>⟨t,(hJ t).1 a,h2⟩,λ⟨t,a,h2⟩=>⟨t,(hJ t).2 a,h2⟩⟩
theorem Qfw{α:Type}{J J':Y α}(hJ:∀t,t∈J↔t∈J')(p:α->Bool):J.all p=J'.all p:=by
 rw[Bool.eq_iff_iff,Qrl,Qrl];exact⟨λh t ht=>h t ((hJ t).2 ht),λh t ht=>h t ((hJ t).1 ht)⟩
namespace Cx
variable{R:Type} {X:Cx} {per:Int} {Ch Sy De:LL}
theorem Q80{J J':Y Tup}(hJ:∀t,t∈J↔t∈J'):X.netV per J Ch Sy=X.netV per J' Ch Sy:=by
 have e1:∀a b,X.fil J a b=X.fil J' a b:=λa b=>List.filter_congr λo _=>by
  unfold TRb;rw[Qh7 hJ]
 have e2:∀a b,X.WV per J a b=X.WV per J' a b:=λa b=>by
  unfold WV;rw[e1,e1]
 have d:∀a c b,X.hdw per J a c b=X.hdw per J' a c b:=λa c=>by
  induction c with
  |zero=>exact λ_=>rfl
  |succ c ih=>intro b;rw[hdw,hdw,e2,ih]
 have e:∀c a,X.hdws per J c a=X.hdws per J' c a:=λc=>by
  induction c with
  |zero=>exact λ_=>rfl
  |succ c ih=>intro a;rw[hdws,hdws,d,ih]
 unfold netV aloneJ;rw[e,Qfw hJ]
variable(h:X.OK)
theorem Qh9{a b:Nat}(ha:a<=100)(hb:b<=100){W:Y Sp2}(hW:W.length<=12){k0:LL->oP R}{A:LL}(hA:A.length<=900):UF 400 (a:Int) (b:Int) (W.map Yk) (λ_ _ w=>k0 w) 400 0 A=k0 (A++W.map (Q8E a b)):=by
 refine QY (r:=λm j=>UF 400 (a:Int) (b:Int) (W.map Yk) (λ_ _ w=>k0 w) m j (A++(W.take j.toNat).map (Q8E a b))) (N:=W.length) (λm j hj=>?_) (λm=>?_) W.length 400 0 I I |> Eq.trans Q2
 ·simp only[QqH];obtain⟨w,e⟩:∃q,W[j]? = some q:=⟨W[j],QqL hj⟩;rw[UF,QqM,Qt hj,QqI,X5 e,Zv e,QqS,<- QqQ];simp -implicitDefEqProofs only[Qh,QbT,Qbm,Qj,QI (show j<=1000 by omega),Q0n (a:=a) I,Q0n (a:=b) I];rw[XI Q3,Qh];rfl
 ·simp only[QqH];rw[UF,QqM,Qz,QqG,Qr9]
include h
theorem Qd0(p0:2<=per)(p1:per<=300){J:Y Tup}(hJ:X.JOK J){a:Nat}(ha:a<X.N){Ke:oP R}{K1:LL->oP R}:∀(c m b:Nat) (A:LL),b+c=X.N->c<m->A.length+12*c<=900 ->
  VA 400 (GU (X.occs X.L)) (J.map tuR) (a:Int) per Ke (λ_ _ w=>K1 w) m (b:Int) A=match X.hdw per J a c b with | none=>Ke | some H=>K1 (A++H)
 |0,m+1,b,A,hb,_,_=>by
  have aa:(GU (X.occs X.L)).length=X.N:=by rw[Ja];exact ZG
  rw[VA,aa,Q5 ((b:Int)<(X.N:Int)),QqG,hdw];simp only[QqZ]
 |c+1,m+1,b,A,hb,hm,hA=>by
  have aa:(GU (X.occs X.L)).length=X.N:=by rw[Ja];exact ZG
  have hN:X.N<=6:=base_le h;have hw:=Q2R h p0 p1 (J:=J) ha (show b<X.N by omega);rw[VA,aa,Q6 ((b:Int)<(X.N:Int)),QqI,Q6B h hJ ha,Q6B h hJ (show b<X.N by omega)];simp -implicitDefEqProofs only[Qh,hw.2.1,QI (show b<=1000 by omega),hdw];cases ew:X.WV per J a b with
  |none=>rfl
  |some W=>
   have hl:=hw.2.2 W ew;simp -implicitDefEqProofs only[Qhm];rw[Qq (by rfl),Qh9 I I hl I,Qd0 p0 p1 hJ ha c m (b+1) _ I I Q3];cases X.hdw per J a c (b+1)with
   |none=>rfl
   |some H=>simp -implicitDefEqProofs only[Option.map_some,QqQ]
theorem QcW(p0:2<=per)(p1:per<=300){J:Y Tup}(hJ:X.JOK J){Ke:oP R}{K1:LL->oP R}:∀(c m a:Nat) (A:LL),a+c=X.N->c<m->A.length+72*c<=900 ->
  UB 400 (GU (X.occs X.L)) (J.map tuR) per Ke (λ_ _ w=>K1 w) m (a:Int) A=match X.hdws per J c a with | none=>Ke | some H=>K1 (A++H)
 |0,m+1,a,A,ha,_,_=>by
  have aa:(GU (X.occs X.L)).length=X.N:=by rw[Ja];exact ZG
  rw[UB,aa,Q5 ((a:Int)<(X.N:Int)),QqG,hdws];simp only[QqZ]
 |c+1,m+1,a,A,ha,hm,hA=>by
  have aa:(GU (X.occs X.L)).length=X.N:=by rw[Ja];exact ZG
  have hN:X.N<=6:=base_le h;rw[UB,aa,Q6 ((a:Int)<(X.N:Int)),QqI,QI (show a<=1000 by omega),Qd0 h p0 p1 hJ (show a<X.N by omega) (Ke:=Ke) (K1:=λA=>UB 400 (GU (X.occs X.L)) (J.map tuR) per Ke (λ_ _ w=>K1 w) m ((a+1:Nat):Int) A) c 400 (a+1) A I I I,hdws];cases eh:X.hdw per J a c (a+1)with
  |none=>rfl
  |some H=>
   have:=Q2o h p0 p1 (J:=J) (show a<X.N by omega) (c:=c) (b:=a+1) I eh;dsimp only;rw[QcW p0 p1 hJ c m (a+1) (A++H) I I Q3];cases X.hdws per J c (a+1)with
   |none=>rfl
   |some H'=>simp -implicitDefEqProofs only[Option.map_some,QqQ]
theorem Qdv(p0:2<=per)(p1:per<=300){k0 E:oP R}{k1:Int->Bool->oP R}(hk:∀a b,k1 a b=E):UJ 400 (GU (X.occs X.L)) per k0 k1 400 0=bif (X.occs X.L).all (λo=>o.all (Lz per))then E else k0:=by
 have hN:X.N<=6:=base_le h;have ac:(X.occs X.L).length=X.N:=ZG;refine Tt (r:=λm i=>UJ 400 (GU (X.occs X.L)) per k0 k1 m i) (λm i o e hi=>?_) (λm=>?_) I
 ·have ho:=QaH h o (QqJ e);have aa:Qi (GU (X.occs X.L)) (i:Int)=some [D.sl 3 (o.map enc)]:=X5 e;rw[UJ,Ja,Qt hi,QqI,aa];simp -implicitDefEqProofs only[Qh,QqF,X2,Qg3 (show 1<=per by omega) (show per<=7200 by omega) ho.1 (show o.length<=300 by omega),QI (show i<=1000 by omega)];cases o.all (Lz per)<;>rfl
 ·rw[UJ,Ja,Qz,QqG,hk]
theorem Qes{J:Y Tup}(hJ:X.JOK J){k0 E:oP R}{k1:Int->Bool->oP R}(hk:∀a b,k1 a b=E):UK 400 (GU (X.occs X.L)) (J.map tuR) per k0 k1 400 0=bif J.all (λt=>!Q9L per t.2.2.1 t.2.2.2 (X.occN t.1) (X.occN t.2.1))then E else k0:=by
 have ac:=hJ.len;refine Tt (r:=λm i=>UK 400 (GU (X.occs X.L)) (J.map tuR) per k0 k1 m i) (λm i t e hi=>?_) (λm=>?_) I
 ·rw[UK,QqM,Qt hi,QqI,X5 e];simp -implicitDefEqProofs only[Qh,tuR,QqF,QqK,Qj,QI (show i<=1000 by omega),Qgt h hJ (QqJ e)];cases Q9L per t.2.2.1 t.2.2.2 (X.occN t.1) (X.occN t.2.1)<;>rfl
 ·rw[UK,QqM,Qz,QqG,hk]
theorem buildR(hl:X.LsOK per Ch Sy)(p0:2<=per)(p1:per<=300)(hc:We 400 X.G.St X.G.Pt X.G.Se X.G.Li per X.skR X.Ro X.Ls Ch (X.T.map tuR) Sy De (some:Int->oP Int)=some 0) :
  Uu 400 X.G.St X.G.Pt X.G.Se X.G.Li per X.skR X.Ro X.Ls Ch (X.T.map tuR) Sy De Tu4=some (X.netV per X.jns Ch Sy):=by
 have hN:X.N<=6:=base_le h;have ac:(X.occs X.L).length=X.N:=ZG;have aj:=planned_len h hl;have hJ:=QfY h;have aa:(X.pls X.L++(Ch.map X.chE++X.T.map X.tuE++Sy.map X.syE))=X.planned Ch Sy:=by unfold planned;simp only[QqQ]
 rw[<- Q80 λt=>Q3n h (t:=t)];unfold Uu netV;rw[Qgv h hc,Qh,Qq (by rfl)];dsimp only;rw[Ja,ac,Q0n I,Qq (QqO I),Qdv h p0 p1 (λ_ _=>rfl)];unfold aloneJ;cases (X.occs X.L).all (λo=>o.all (Lz per))
 ·rfl
 rw[QqI,QqI,Qh5 h,Qh,Qes h hJ (λ_ _=>rfl)];cases (X.jnsR X.L).all (λt=>!Q9L per t.2.2.1 t.2.2.2 (X.occN t.1) (X.occN t.2.1))
 ·rfl
 rw[QqI,QqI];refine(QdU h _).trans ?_;rw[Qg7 h,Qhk h hl,Qh,Qh,XI (by rw[<- Qr5,aa];omega),Qh,aa];refine(QcW h p0 p1 hJ (Ke:=some ((0:Int),([]:LL),([]:LL),(13:Int))) (K1:=λa=>bif decide (((List.length a:Nat):Int)>512)then some (0,[],[],7)else some (per,X.evs X.L,a,0)) X.N 400 0 (X.planned Ch Sy) I I I).trans ?_;cases eh:X.hdws per (X.jnsR X.L) X.N 0 with
 |none=>rfl
 |some H=>
  have:=hdws_len h p0 p1 I eh;dsimp only;rw[Qq (QqO (by rw[Qr5];omega))]
end Cx
def R6(row:Y D):Prop:=∃kd f t mn mx w:Int,row=[Ql kd,Ql f,Ql t,Ql mn,Ql mx,Ql w]
def chk(per:Int)(e:Nat):Y D->Bool
 |[_,.int _ f,.int _ t,.int _ mn,.int _ mx,.int _ w]=>!(bif bif !(bif decide (f>=0)then decide (f<(e:Int))else false)then true else !(bif decide (t>=0)then decide (t<(e:Int))else false)then true else f == t)&&(!(bif bif bif decide (mn < -65536)then true else decide (mn>mx)then true else decide (mx>65536)then true else decide (wJ (mx-mn)>=per))&&!(bif decide (w<0)then true else decide (w>1048576)))
 |_=>false
theorem Q2v{per:Int}{e:Nat}{kd f t mn mx w:Int}(h:chk per e [Ql kd,Ql f,Ql t,Ql mn,Ql mx,Ql w]=true):0<=f/\f<e/\0<=t/\t<e /\ -65536<=mn/\mn<=mx/\mx<=65536:=by
 simp only[chk,Bool.cond_true_left,Bool.cond_false_right,Bool.and_eq_true,Bool.not_eq_true',Bool.or_eq_false_iff,Bool.not_eq_false',decide_eq_true_eq,decide_eq_false_iff_not,beq_eq_false_iff_ne]at h;omega
section
variable{per:Int} {E A:LL} (p0:2<=per) (p1:per<=300) (hE:E.length<=48) (hA:A.length<=512) (hr:∀r∈A,R6 r)
include p0 p1 hE hA hr
theorem Qg0(hl:A.length<400):Tg 400 per E A some=some (A.all (chk per E.length)):=by
 unfold Tg;rw[Q5 (per<2),Q5 (per>7200),Q5 ((E.length:Int)>48),Q5 ((A.length:Int)>512)];simp -implicitDefEqProofs only[QqG];refine(Tt (r:=λm i=>U8 400 A (A.length:Int) per E A (some false) (λ_ _=>some true) m i) (l:=A) (p:=chk per E.length) (E0:=some false) (E1:=some true) (λm i q e hi=>?_) (λm=>?_) (fuel:=400) I).trans (by cases A.all (chk per E.length)<;>rfl)
 ·obtain⟨kd,f,t,mn,mx,w,rfl⟩:=hr q (QqJ e);rw[U8,Qt hi,QqI,Qp,e];unfold Gm;simp -implicitDefEqProofs only[Qh,QqF,QqK,Qj,QI (show i<=1000 by omega)];dsimp only[chk];cases (bif bif !(bif decide (f>=0)then decide (f<(E.length:Int))else false)then true else !(bif decide (t>=0)then decide (t<(E.length:Int))else false)then true else f == t)
  ·cases (bif bif bif decide (mn < -65536)then true else decide (mn>mx)then true else decide (mx>65536)then true else decide (wJ (mx-mn)>=per))
   ·cases (bif decide (w<0)then true else decide (w>1048576))<;>rfl
   ·rfl
  ·rfl
 ·rw[U8,Qz,QqG]
theorem Qd2(hl:A.length<400):Us 400 per E A some=some (A.all (chk per E.length)):=by
 unfold Us JN;rw[Q6 (per>=2),Q6 (per<=7200),Q5 ((E.length:Int)>48),Q5 ((A.length:Int)>512)];simp -implicitDefEqProofs only[QqG,QqI,Qh,QqT];refine(Tt (r:=λm i=>VD 400 per E A (some false) (λ_ _=>some true) m i) (l:=A) (p:=chk per E.length) (E0:=some false) (E1:=some true) (λm i q e hi=>?_) (λm=>?_) (fuel:=400) I).trans (by cases A.all (chk per E.length)<;>rfl)
 ·obtain⟨kd,f,t,mn,mx,w,rfl⟩:=hr q (QqJ e);rw[VD,Qt hi,QqI,Qp,e];unfold JN;simp -implicitDefEqProofs only[Qh,QqF,QqK,Qj,QI (show i<=1000 by omega),Qo (x:=(E.length:Int)-1) I I];have sw:∀(c d:Bool) (x y:oP Bool),c = !d->(bif c then x else y)=bif d then y else x:=λc d x y h=>by rw[h];cases d<;>rfl
  refine sw _ _ _ _ ?_;rw[Bool.eq_iff_iff];simp only[chk,Bool.cond_true_left,Bool.cond_false_right,Bool.and_eq_true,Bool.or_eq_true,Bool.not_eq_true',Bool.and_eq_false_iff,Bool.or_eq_false_iff,Bool.not_eq_false',decide_eq_true_eq,decide_eq_false_iff_not,beq_eq_false_iff_ne,beq_iff_eq];omega
 ·rw[VD,Qz,QqG]
def Q3p(per:Int)(E A:LL)(tl:Y Int):Bool:=bif (bif !(A.all (chk per E.length))then true else(tl.length:Int) != (E.length:Int))then false else tl.all λx=>!(bif decide (x<0)then true else decide (x>=per))
theorem Qe9(hl:A.length<400){tl:Y Int}:G5 400 per E A (encI tl) some=some (Q3p per E A tl)/\G4 400 per E A (encI tl) some=some (Q3p per E A tl):=by
 have ca:=Qg0 p0 p1 hE hA hr hl;have cb:=Qd2 p0 p1 hE hA hr hl;have aa:(encI tl).length=tl.length:=QR tl;unfold G5 G4 Q3p;rw[ca,cb,Qh,Qh,aa];cases hc:(bif !(A.all (chk per E.length))then true else(tl.length:Int) != (E.length:Int))with
 |true=>exact⟨rfl,rfl⟩
 |false=>
  have ac:tl.length=E.length:=by
   cases a : !(A.all (chk per E.length))with
   |true=>rw[a]at hc;cases hc
   |false=>
    rw[a,QqG]at hc;have:(tl.length:Int)=(E.length:Int):=by simpa using hc
    omega
  rw[QqG,QqG,QqG];constructor
  ·refine(Tt (r:=λm i=>V4 400 (encI tl) (tl.length:Int) per (some false) (λ_ _=>some true) m i) (l:=tl) (p:=λx=>!(bif decide (x<0)then true else decide (x>=per))) (E0:=some false) (E1:=some true) (λm i q e hi=>?_) (λm=>?_) (fuel:=400) I).trans (by cases tl.all _<;>rfl)
   ·rw[V4,Qt hi,QqI,KU e];simp -implicitDefEqProofs only[Qh,QqF,Qj,QI (show i<=1000 by omega)];cases (bif decide (q<0)then true else decide (q>=per))<;>rfl
   ·rw[V4,Qz,QqG]
  ·refine(Tt (r:=λm i=>Jd 400 (encI tl) per (some false) (λ_ _=>some true) m i) (l:=tl) (p:=λx=>!(bif decide (x<0)then true else decide (x>=per))) (E0:=some false) (E1:=some true) (λm i q e hi=>?_) (λm=>?_) (fuel:=400) I).trans (by cases tl.all _<;>rfl)
   ·rw[Jd,aa,Qt hi,QqI,KU e];unfold JN;simp -implicitDefEqProofs only[Qh,QqF,Qj,QI (show i<=1000 by omega),Qo (x:=per-1) I I];by_cases a:q<0
    ·rw[Q5 (q>=0),show decide (q<0)=true from QqR a];rfl
    ·rw[Q6 (q>=0),show decide (q<0)=false from QqO a];by_cases h2:q>=per
     ·rw[Q5 (q<=per-1),show decide (q>=per)=true from QqR h2];rfl
     ·rw[Q6 (q<=per-1),show decide (q>=per)=false from QqO h2];rfl
   ·rw[Jd,aa,Qz,QqG]
end
theorem Pk{w:Y Int}{i:Nat}{v:Int}:(encI w).set i [Ql v]=encI (w.set i v):=by
 unfold encI;rw[List.map_set]
def tat(tl:Y Int)(i:Int):Int:=tl.getD i.toNat 0
def dur(tl:Y Int)(per f t mn:Int):Int:=mn+(tat tl t-tat tl f-mn) % per
def Y8(tl:Y Int)(per:Int):Y D->Int
 |[_,.int _ f,.int _ t,.int _ mn,_,_]=>dur tl per f t mn
 |_=>0
def Q0w(l:Y Bool):LL:=l.map λb=>[D.bool b]
theorem Vn{w:Y Int}{i:Nat}(h:i<w.length):(encI w)[i]? = some [Ql w[i]]:=by
 exact KU (QqL h)
theorem Q5Q{w:Y Bool}{i:Nat}(h:i<w.length):(Q0w w)[i]? = some [D.bool w[i]]:=by
 simp[Q0w,QqX,QqL]
theorem Q2j{w:Y Bool}:(Q0w w).length=w.length:=by simp[Q0w]
theorem Q7x{w:Y Bool}{i:Nat}{v:Bool}:(Q0w w).set i [D.bool v]=Q0w (w.set i v):=by
 grind[Q0w,List.map_set]
def TG(per:Int)(k:Nat)(w:Y Int):Prop:=w.length=k/\∀x∈w,0<=x/\x<per
theorem TG.set{per:Int}{k:Nat}{w:Y Int}(h:TG per k w){i:Nat}{v:Int}(a:0<=v)(b:v<per):TG per k (w.set i v):=by
 refine⟨by rw[Qrb];exact h.1,λx hx=>?_⟩;rcases List.mem_or_eq_of_mem_set hx with hx | rfl
 ·exact h.2 x hx
 omega
theorem TG.tat{per:Int}{k:Nat}{w:Y Int}(h:TG per k w){i:Int}(a:0<=i)(b:i<(k:Int)):Qi (encI w) i=some [Ql (Vx.tat w i)]/\0<=Vx.tat w i/\Vx.tat w i<per:=by
 have hl:=h.1;have e:w[i.toNat]? = some (Vx.tat w i):=by
  simp_all [Vx.tat,QqN,QqL]
 have:=KU e;rw[show(i.toNat:Int)=i by omega]at this;exact⟨this,h.2 _ (QqJ e)⟩
section
variable{R:Type} {n N:Nat} (hN:N<=48) {P:oP R->Prop}
include hN
theorem Qgj{k0:Int->Bool->LL->oP R}(H:∀w:Y Int,w.length=N->P (k0 (N:Int) false (encI w))):∀(c i m:Nat) (w:Y Int),i+c=N->c<m->w.length=N->P (Zh n (N:Int) k0 m (i:Int) (encI w))
 |0,i,m+1,w,hi,_,hw=>by
  rw[Zh,show i=N by omega,Qz,QqG];exact H w hw
 |c+1,i,m+1,w,hi,hm,hw=>by
  rw[Zh,Qt I,QqI,XQ I (by rw[QR];omega),Qh,QqH,Vn I,Qh,Qr1,Pk,QI I];exact Qgj H c (i+1) m _ I I (by rw[Qrb];exact hw)
theorem Qax{x y:Int}{k0:Int->Bool->LL->oP R}(H:∀w:Y Int,w.length=N->P (k0 (N:Int) false (encI w))):∀(c i m:Nat) (w:Y Int),i+c=N->c<m->w.length=N->P (Zf n x y (N:Int) k0 m (i:Int) (encI w))
 |0,i,m+1,w,hi,_,hw=>by
  rw[Zf,show i=N by omega,Qz,QqG];exact H w hw
 |c+1,i,m+1,w,hi,hm,hw=>by
  rw[Zf,Qt I,QqI,XQ I (by rw[QR];omega),Qh,QqH,Vn I];simp -implicitDefEqProofs only[Qh,QqF,Qj,Qr1,Pk,QI (show i<=1000 by omega)];cases w[i]'I == y with
  |true=>exact Qax H c (i+1) m _ I I (by rw[Qrb];exact hw)
  |false=>exact Qax H c (i+1) m _ I I hw
theorem Qgc(hn:N<n){w:Y Int}(hw:w.length=N){kd f t mn mx q:Int}(hf:0<=f/\f<N)(ht:0<=t/\t<N){K:Bool->LL->oP R}(H:∀b (w:Y Int),w.length=N->P (K b (encI w))):P (JE n (encI w) kd f t mn mx q K):=by
 obtain⟨f,rfl⟩:=Int.eq_ofNat_of_zero_le hf.1;obtain⟨t,rfl⟩:=Int.eq_ofNat_of_zero_le ht.1;unfold JE;rw[XQ I (by grind[QR]),Qh,QqH,Vn (show f<w.length by omega),Qh];simp -implicitDefEqProofs only[Qh,QqF,Qj];rw[XQ I (by rw[QR];omega),Qh,QqH,Vn (show t<w.length by omega),Qh];simp -implicitDefEqProofs only[Qh,QqF,Qj];cases w[f]'I == w[t]'I with
 |true=>simp_all
 |false=>
  rw[QqG,QR];generalize w[f]'I=x;generalize w[t]'I=y;rw[hw];exact Qax hN (H true) N 0 n w I hn hw
theorem Qel{h:Nat}(hh:h<N){ro:Y Int}(hr:ro.length=N){k0:Int->Bool->LL->oP R}(H:∀w:Y Int,w.length=N->P (k0 (h:Int) false (encI w))):∀(c i m:Nat) (w:Y Int),i+c=h->c<m->w.length=N->P (YB n (h:Int) (encI ro) k0 m (i:Int) (encI w))
 |0,i,m+1,w,hi,_,hw=>by
  rw[YB,show i=h by omega,Qz,QqG];exact H w hw
 |c+1,i,m+1,w,hi,hm,hw=>by
  rw[YB,Qt I,QqI];simp -implicitDefEqProofs only[XQ (len:=(encI ro).length) (n:=(i:Int)) I (by rw[QR];omega),XQ (len:=(encI ro).length) (n:=(h:Int)) I (by rw[QR];omega),XQ (len:=(encI w).length) (n:=(i:Int)) I (by rw[QR];omega),XQ (len:=(encI w).length) (n:=(h:Int)) I (by rw[QR];omega),QqH,Vn (show i<ro.length by omega),Vn (show h<ro.length by omega),Vn (show i<w.length by omega),Vn (show h<w.length by omega),Qh,QqF,Qj,Qr1,Pk,QI (show i<=1000 by omega)];cases ro[i]'I == ro[h]'I with
  |true=>exact Qel hh hr H c (i+1) m _ I I (by rw[Qrb];exact hw)
  |false=>exact Qel hh hr H c (i+1) m _ I I hw
theorem Qe5(hn:N<n){ro:Y Int}(hr:ro.length=N){k0:Int->Int->Bool->LL->oP R}(H:∀a (w:Y Int),w.length=N->P (k0 a (N:Int) false (encI w))):∀(c i m:Nat) (a:Int) (w:Y Int),i+c=N->c<m->w.length=N->P (YC n (N:Int) (encI ro) k0 m a (i:Int) (encI w))
 |0,i,m+1,a,w,hi,_,hw=>by
  rw[YC,show i=N by omega,Qz,QqG];exact H a w hw
 |c+1,i,m+1,a,w,hi,hm,hw=>by
  rw[YC,Qt I,QqI,XQ I (by rw[QR];omega),Qh,QqH,Vn (show i<w.length by omega),Qh,Qr1,Pk];refine Qel hN (show i<N by omega) hr (λw hw=>?_) i 0 n _ I I (by rw[Qrb];exact hw);simp -implicitDefEqProofs only[XQ (len:=(encI w).length) (n:=(i:Int)) I (by rw[QR];omega),QqH,Vn (show i<w.length by omega),Qh,QqF,Qj,Qr1,Pk,QI (show i<=1000 by omega)];cases decide (w[i]'I<0)with
  |true=>exact Qe5 hn hr H c (i+1) m _ _ I I (by rw[Qrb];exact hw)
  |false=>exact Qe5 hn hr H c (i+1) m _ _ I I hw
theorem QiH{A:LL}(hA:A.length<400){per:Int}(hr:∀r∈A,R6 r)(hc:∀r∈A,chk per N r=true)(hn:N<n){k0:Int->Bool->LL->oP R}(H:∀a b (w:Y Int),w.length=N->P (k0 a b (encI w))):∀(aa:LL) (i m:Nat) (w:Y Int),A.drop i=aa->aa.length<m->w.length=N->P (Ze n A k0 m (i:Int) (encI w)):=by
 intro aa;induction aa with
 |nil=>
  intro i m w hd hm hw;obtain⟨m,rfl⟩:∃k,m=k+1:=⟨m-1,I⟩;have:=ZX hd;rw[Ze,show decide ((i:Int)<(A.length:Int))=false by simp_all,QqG]
  simp_all
 |cons r aa ih=>
  intro i m w hd hm hw;obtain⟨m,rfl⟩:∃k,m=k+1:=⟨m-1,by simp at hm;omega⟩;obtain⟨e,ak,aj⟩:=Yc hd;have ac:=QqJ e;obtain⟨kd,f,t,mn,mx,q,rfl⟩:=hr r ac;have hk:=Q2v (hc _ ac);rw[Qr8]at hm;rw[Ze,Qt aj,QqI,Qp,e];simp -implicitDefEqProofs only[Qh,QqF,QqK,Qj,QI (show i<=1000 by omega)];have hx:∃b w',JE n (encI w) kd f t mn mx q Tu2=some (b,encI w')/\w'.length=N:=Qgc (P:=λX=>∃b w',X=some (b,encI w')/\w'.length=N) hN hn hw I I λb w' h=>⟨b,w',rfl,h⟩
  obtain⟨b,w',e',ai⟩:=hx;rw[e',Qh];dsimp only;rw[MG (by rw[QR,QR];omega),Qh];exact ih (i+1) m w' ak I ai
theorem Q8Y{h:Nat}(hh:h<N){ro:Y Int}(hr:ro.length=N){k0:Int->Bool->LL->oP R}(H:∀w:Y Bool,w.length=N->P (k0 (h:Int) false (Q0w w))):∀(c i m:Nat) (w:Y Bool),i+c=h->c<m->w.length=N->P (YP n (encI ro) (h:Int) k0 m (i:Int) (Q0w w))
 |0,i,m+1,w,hi,_,hw=>by
  rw[YP,show i=h by omega,Qz,QqG];exact H w hw
 |c+1,i,m+1,w,hi,hm,hw=>by
  rw[YP,Qt I,QqI];simp -implicitDefEqProofs only[Qp,XQ (len:=(Q0w w).length) (n:=(h:Int)) I (by rw[Q2j];omega),QqH,Vn (show i<ro.length by omega),Vn (show h<ro.length by omega),Q5Q (show h<w.length by omega),Qh,QqF,Qj,Qr1,Q7x,QI (show i<=1000 by omega)];cases ro[i]'I == ro[h]'I with
  |true=>exact Q8Y hh hr H c (i+1) m _ I I (by rw[Qrb];exact hw)
  |false=>exact Q8Y hh hr H c (i+1) m _ I I hw
theorem Qdk(hn:N<n){ro:Y Int}(hr:ro.length=N){k0:Int->Bool->LL->oP R}(H:∀w:Y Bool,w.length=N->P (k0 (N:Int) false (Q0w w))):∀(c i m:Nat) (w:Y Bool),i+c=N->c<m->w.length=N->P (ZH n (encI ro) (N:Int) k0 m (i:Int) (Q0w w))
 |0,i,m+1,w,hi,_,hw=>by
  rw[ZH,show i=N by omega,Qz,QqG];exact H w hw
 |c+1,i,m+1,w,hi,hm,hw=>by
  rw[ZH,Qt I,QqI,XQ I (by rw[Q2j];omega),Qh,QqH,Q5Q (show i<w.length by omega),Qh,Qr1,Q7x,QI I];exact Q8Y hN (show i<N by omega) hr (λw hw=>Qdk hn hr H c (i+1) m w I I hw) i 0 n _ I I (by rw[Qrb];exact hw)
omit hN in
theorem QhV:List.replicate N [D.int .i64 (0:Int)]=encI (List.replicate N 0):=by grind[encI,List.map_replicate]
omit hN in
theorem QjY:List.replicate N [D.bool false]=Q0w (List.replicate N false):=by grind[Q0w,List.map_replicate]
omit hN in
theorem Q4j:(bif decide ((0:Int)<=(N:Int))&&decide ((N:Int)<=(N:Int))then some ()else none)=some ():=by simp_all
end
def FsB(A:LL)(per:Int)(i:Nat)(w:Y Int):Prop:=∀kd f t mn mx q:Int,[Ql kd,Ql f,Ql t,Ql mn,Ql mx,Ql q]∈A->0<=f->f<(i:Int)->0<=t->t<(i:Int)->mn+(tat w t-tat w f-mn) % per<=mx
def TF(A:LL)(per:Int)(k i:Nat)(w:Y Int):Prop:=TG per k w/\FsB A per i w
section
variable{per:Int} {E A:LL} {n:Nat} (p0:2<=per) (p1:per<=300) (hE:E.length<=48) (hA:A.length<400) (hr:∀r∈A,R6 r) (hc:∀r∈A,chk per E.length r=true) (hn:n=400)
include p0 p1 hE hA hr hc hn
theorem Qjl(aa:Us n per E A some=some true):∃w:Y Int,JM n per E A some=some (encI w)/\w.length=E.length:=by
 unfold JM;rw[aa,Qh,QqT,QqG,Q4j,Qh,QqH,XI I,Qh,List.length_replicate,QhV];refine Qgj (P:=λX=>∃w:Y Int,X=some (encI w)/\w.length=E.length) hE (λw hw=>?_) E.length 0 n _ I I Q2;refine QiH (P:=λX=>∃w:Y Int,X=some (encI w)/\w.length=E.length) hE hA hr hc I (λa b w hw=>?_) A 0 n w rfl I hw;rw[QR,hw,Q4j,Qh,QqH,XI I,Qh,QhV];exact Qe5 (P:=λX=>∃w:Y Int,X=some (encI w)/\w.length=E.length) hE I hw (λa w hw=>⟨w,rfl,hw⟩) E.length 0 n 0 _ I I Q2
theorem Qkg(aa:Us n per E A some=some true){bu:Int}{al:Bool}:∃w:Y Bool,GL n per E A bu al Tu11=some (per,E,A,Q0w w,bu,0,false,al,false,0,encI (List.replicate E.length 0))/\w.length=E.length:=by
 obtain⟨ro,k,h2⟩:=Qjl p0 p1 hE hA hr hc hn aa;unfold GL;rw[k,Qh,Q4j,Qh,QqH,XI I,Qh,Qh,XI I,Qh,QhV,QjY,QR,h2];exact Qdk (P:=λX=>∃w:Y Bool,X=some (per,E,A,Q0w w,bu,0,false,al,false,0,encI (List.replicate E.length 0))/\w.length=E.length) hE I h2 (λw hw=>⟨w,rfl,hw⟩) E.length 0 n _ I I Q2
theorem Qd5{R:Type}{w:Y Int}(hw:TG per E.length w){kd f t mn mx q:Int}(hm:[Ql kd,Ql f,Ql t,Ql mn,Ql mx,Ql q]∈A)(K:Int->oP R):VZ n per (encI w) f t mn K=K (mn+(tat w t-tat w f-mn) % per):=by
 have hk:=Q2v (hc _ hm);have tf:=hw.tat (i:=f) I I;have tt:=hw.tat (i:=t) I I;have:=Qr3 (tat w t-tat w f-mn) (show per≠0 by omega);have:=Qr0 (tat w t-tat w f-mn) (show 0<per by omega);unfold VZ;simp -implicitDefEqProofs only[Qh,QqF,QqK,Qj,tf.1,tt.1,Qo (x:=tat w t-tat w f) I I,Qo (x:=tat w t-tat w f-mn) I I,Qhv (n:=n) (t:=per) (x:=tat w t-tat w f-mn) I I I I,Qo (x:=mn+(tat w t-tat w f-mn) % per) I I]
theorem Qic{w:Y Int}(hw:TG per E.length w){al fd:Bool}{best i:Int}:∃b,Zq n per A al fd best (encI w) i some=some b/\(al=false->b=false->∀kd f t mn mx q:Int,[Ql kd,Ql f,Ql t,Ql mn,Ql mx,Ql q]∈A->f<=i->t<=i->mn+(tat w t-tat w f-mn) % per<=mx):=by
 unfold Zq;have go:∀(aa:LL) (j m:Nat) (s:Int),A.drop j=aa->aa.length<m->∃b,Xi n i (encI w) per A (some true) (λo u v=>some (bif (bif al then fd else false)then(decide (o>=best))else false)) m s (j:Int)=some b/\(al=false->b=false->∀kd f t mn mx q:Int,[Ql kd,Ql f,Ql t,Ql mn,Ql mx,Ql q]∈aa->f<=i->t<=i->mn+(tat w t-tat w f-mn) % per<=mx):=by
  intro aa;induction aa with
  |nil=>
   intro j m s hd hm;obtain⟨m,rfl⟩:∃k,m=k+1:=⟨m-1,by simp at hm;omega⟩;have:=ZX hd;rw[Xi,show decide ((j:Int)<(A.length:Int))=false by simpa using this,QqG]
   simp_all
  |cons r aa ih=>
   intro j m s hd hm;obtain⟨m,rfl⟩:∃k,m=k+1:=⟨m-1,by simp at hm;omega⟩;obtain⟨e,an,ar⟩:=Yc hd;have am:=QqJ e;obtain⟨kd,f,t,mn,mx,q,rfl⟩:=hr r am;rw[Qr8]at hm;rw[Xi,Qt ar,QqI,Qp,e];simp -implicitDefEqProofs only[Qh,QqF,QqK,Qj,Qd5 p0 p1 hE hA hr hc hn hw am,QI (show j<=1000 by omega)];cases l:(bif decide (f>i)then true else decide (t>i))with
   |true=>
    obtain⟨b,hb,aj⟩:=ih (j+1) m (wJ (s+wJ (q*mn))) an I;refine⟨b,hb,λa h2 ai f' t' ac ak q' c d g=>?_⟩;rcases Qrh.1 c with h | h
    ·cases h;rw[QqO I,QqO I]at l;cases l
    ·exact aj a h2 ai f' t' ac ak q' h d g
   |false=>
    rw[QqG];cases p:decide (mn+(tat w t-tat w f-mn) % per>mx)with
    |true=>exact⟨_,rfl,λ_ h=>nomatch h⟩
    |false=>
     obtain⟨b,hb,aj⟩:=ih (j+1) m (wJ (s+wJ (q*(mn+(tat w t-tat w f-mn) % per)))) an I;refine⟨b,hb,λa h2 ai f' t' ac ak q' c d g=>?_⟩;rcases Qrh.1 c with h | h
     ·cases h;have:=of_decide_eq_false p;omega
     ·exact aj a h2 ai f' t' ac ak q' h d g
 exact go A 0 n 0 rfl I
theorem Qjg{w:Y Int}(hw:TG per E.length w):∃c e,MN n per E A (encI w) Tu2=some (c,e):=by
 have hg:=(Qe9 p0 p1 hE I hr hA (tl:=w)).2;rw[<- hn]at hg;unfold MN;rw[hg,Qh];cases Q3p per E A w with
 |false=>exact⟨_,_,rfl⟩
 |true=>
  rw[QqT,QqG];have go:∀(aa:LL) (j m:Nat) (s:Int),A.drop j=aa->aa.length<m->∃c e,J6 n (encI w) per A (λd g h=>some (d,(0:Int))) m s (j:Int)=some (c,e):=by
   intro aa;induction aa with
   |nil=>
    intro j m s hd hm;obtain⟨m,rfl⟩:∃k,m=k+1:=⟨m-1,by simp at hm;omega⟩;have:=ZX hd;rw[J6,show decide ((j:Int)<(A.length:Int))=false by simpa using this,QqG];exact⟨_,_,rfl⟩
   |cons r aa ih=>
    intro j m s hd hm;obtain⟨m,rfl⟩:∃k,m=k+1:=⟨m-1,by simp at hm;omega⟩;obtain⟨e,aj,ai⟩:=Yc hd;have ac:=QqJ e;obtain⟨kd,f,t,mn,mx,q,rfl⟩:=hr r ac;rw[Qr8]at hm;rw[J6,Qt ai,QqI,Qp,e];simp -implicitDefEqProofs only[Qh,QqF,QqK,Qj,Qd5 p0 p1 hE hA hr hc hn hw ac,QI (show j<=1000 by omega)];exact ih (j+1) m _ aj I
  exact go A 0 n 0 rfl I
omit p0 p1 hE hA hr hc hn in
theorem TF.dn{i:Nat}{w:Y Int}{k:Nat}(h:TF A per k (i+1) w):TF A per k i w:=⟨h.1,λkd f t mn mx q hm a b h2 c=>h.2 kd f t mn mx q hm a I h2 I⟩
omit p0 p1 hE hA hr hc hn in
theorem TF.set{i:Nat}{w:Y Int}{k:Nat}{v:Int}(h:TF A per k i w)(c:0<=v)(d:v<per):TF A per k i (w.set i v):=by
 refine⟨h.1.set c d,λkd f t mn mx q hm g0 g1 a b=>?_⟩;have e:∀x:Int,0<=x->x<(i:Int)->tat (w.set i v) x=tat w x:=λx g j=>by
  unfold tat;rw[QqN,QqN,List.getElem?_set_ne I]
 rw[e f g0 g1,e t a b];exact h.2 kd f t mn mx q hm g0 g1 a b
def Qhy(per:Int)(E A:LL)(i:Nat)(fs:Y Bool)(bu:Int)(X:oP (Bool×Int×LL×LL×LL×Int×Int×Bool×Bool×Bool×Int×LL×LL)):Prop:=
 ∃r us ov fd best res w,X=some (r,per,E,A,Q0w fs,bu,us,ov,false,fd,best,res,encI w)/\TF A per E.length i w/\(fd=true->∃v,res=encI v/\TF A per E.length E.length v)
theorem QgN{fs:Y Bool}(bi:fs.length=E.length){bu:Int}:∀(c d i:Nat) (us:Int) (ov fd:Bool) (best:Int) (res:LL) (w:Y Int),i+c=E.length->c<d->TF A per E.length i w->(fd=true->∃v,res=encI v/\TF A per E.length E.length v) ->
  Qhy per E A i fs bu (XE n d per E A (Q0w fs) bu us ov false fd best res (encI w) (i:Int)):=by
 intro c;induction c with
 |zero=>
  intro d i us ov fd best res w hi hd hw hf;obtain⟨d,rfl⟩:∃k,d=k+1:=⟨d-1,I⟩;obtain⟨c,e,a3⟩:=Qjg p0 p1 hE hA hr hc hn hw.1;obtain rfl:i=E.length:=I
  rw[XE,VV,show((E.length:Int) == (E.length:Int))=true by simp,QqI,QR,hw.1.1,XI I,Qh,a3,Qh];exact⟨_,_,_,_,_,_,_,rfl,hw,λ_=>⟨w,rfl,hw⟩⟩
 |succ c ih=>
  intro d i us ov fd best res w hi hd hw hf;obtain⟨d,rfl⟩:∃k,d=k+1:=⟨d-1,I⟩;rw[XE,VV,show((i:Int) == (E.length:Int))=false by simp;omega,QqG,XQ I (by rw[Q2j];omega),Qh,QqH,Q5Q (show i<fs.length by omega)];simp -implicitDefEqProofs only[Qh,QqF,LA];have az:∀(M:Nat),(M:Int)<=per->∀(k:Nat) (t m:Nat) (us:Int) (ov fd:Bool) (best:Int) (res:LL) (w:Y Int),t+k=M->k<m->TF A per E.length i w->(fd=true->∃v,res=encI v/\TF A per E.length E.length v) ->
    ∀{k0:LL->LL->Int->LL->LL->Int->Int->Bool->Bool->Bool->Int->LL->oP (Bool×Int×LL×LL×LL×Int×Int×Bool×Bool×Bool×Int×LL×LL)} {k1:Int->Bool->LL->LL->Int->LL->LL->Int->Int->Bool->Bool->Bool->Int->LL->oP (Bool×Int×LL×LL×LL×Int×Int×Bool×Bool×Bool×Int×LL×LL)},
    (∀us ov fd best res w,TF A per E.length i w->(fd=true->∃v,res=encI v/\TF A per E.length E.length v)->Qhy per E A i fs bu (k0 (Q0w fs) (encI w) per E A bu us ov false fd best res)) ->
    (∀a b us ov fd best res w,TF A per E.length i w->(fd=true->∃v,res=encI v/\TF A per E.length E.length v)->Qhy per E A i fs bu (k1 a b (Q0w fs) (encI w) per E A bu us ov false fd best res)) ->
    Qhy per E A i fs bu (Xv n (XE n d) (i:Int) (M:Int) k0 k1 m (t:Int) (Q0w fs) (encI w) per E A bu us ov false fd best res):=by
   intro M hM k;induction k with
   |zero=>
    intro t m us ov fd best res w ht hm hw hf k0 k1 g h;obtain⟨m,rfl⟩:∃k,m=k+1:=⟨m-1,I⟩;rw[Xv,show t=M by omega,Qz,QqG];exact h _ _ _ _ _ _ _ w hw hf
   |succ k a4=>
    intro t m us ov fd best res w ht hm hw hf k0 k1 g h;obtain⟨m,rfl⟩:∃k,m=k+1:=⟨m-1,I⟩;have bm:=hw.1.1;rw[Xv,Qt I,QqI];cases decide (wJ (us+1)>bu)with
    |true=>exact g _ _ _ _ _ w hw hf
    |false=>
     have a2:TF A per E.length i (w.set i (t:Int)):=hw.set I I;obtain⟨b,hb,a5⟩:=Qic p0 p1 hE hA hr hc hn a2.1 (al:=false) (fd:=fd) (best:=best) (i:=(i:Int));rw[QqG,XQ I (by rw[QR];omega),Qh,QqH,Vn (show i<w.length by omega),Qh,Qr1,Pk,hb,Qh,QI (show i<=1000 by omega),QI (show t<=1000 by omega)];cases b with
     |true=>
      simp -implicitDefEqProofs only[QqT,QqG];exact a4 (t+1) m _ _ _ _ _ _ I I a2 hf g h
     |false=>
      obtain⟨r,ba,bc,bj,a6,a7,bk,hx,ax,ay⟩:=ih d (i+1) (wJ (us+1)) ov fd best res _ I I ⟨a2.1,λkd f t mn mx q hm g h h2 h3=>a5 rfl rfl kd f t mn mx q hm I I⟩ hf;rw[Qr7,QqI,hx,Qh];cases r with
      |true=>exact a4 (t+1) m _ _ _ _ _ _ I I ax.dn ay g h
      |false=>exact g _ _ _ _ _ _ ax.dn ay
  have e1:((1:Nat):Int)=1:=rfl;obtain⟨q,hq⟩:=Int.eq_ofNat_of_zero_le (show 0<=per by omega);cases fs[i]'I with
  |true=>exact az 1 I 1 0 n us ov fd best res w I I hw hf (λus ov fd best res w hw hf=>⟨_,_,_,_,_,_,_,rfl,hw,hf⟩) λa b us ov fd best res w hw hf=>⟨_,_,_,_,_,_,_,rfl,hw,hf⟩
  |false=>
   have:=az q I q 0 n us ov fd best res w I I hw hf (k0:=λj l o p s u x y z aa ab ac=>some (false,o,p,s,j,u,x,y,z,aa,ab,ac,l)) (k1:=λau av ad ae ag ah ai aj ak am an ao ap aq=>some (true,ag,ah,ai,ad,aj,ak,am,an,ao,ap,aq,ae)) (λus ov fd best res w hw hf=>⟨_,_,_,_,_,_,_,rfl,hw,hf⟩) λa b us ov fd best res w hw hf=>⟨_,_,_,_,_,_,_,rfl,hw,hf⟩
   rw[<- hq]at this;exact this
theorem Qi0(aa:Us n per E A some=some true):(∃us e,Zp n per E A 4000 (λa b=>some (.inl (a,b))) (λa b c=>some (.inr (a,b,c)))=some (.inl (us,e):(Int×Int) ⊕ (LL×Int×Int))) \/
  ∃v us,Zp n per E A 4000 (λa b=>some (.inl (a,b))) (λa b c=>some (.inr (a,b,c)))=some (.inr (encI v,us,0):(Int×Int) ⊕ (LL×Int×Int))/\TG per E.length v/\FsB A per E.length v:=by
 obtain⟨fs,d,h2⟩:=Qkg p0 p1 hE hA hr hc hn aa (bu:=4000) (al:=false);obtain⟨r,us,ov,fd,best,res,w,hx,hw,hf⟩:=QgN p0 p1 hE hA hr hc hn h2 (bu:=4000) E.length n 0 0 false false 0 [] (List.replicate E.length 0) I I ⟨⟨by simp,λx hx=>by have:=List.eq_of_mem_replicate hx;omega⟩,λkd f t mn mx q hm h d=>by omega⟩ (λe=>nomatch e);have ai:Q2i n 4000 1 1048576 (some:Bool->oP Bool)=some true:=rfl;unfold Zp Fc;rw[aa,Qh,QqT,QqG,ai,Qh,QqT,QqG,d,Qh];dsimp only;rw[show((0:Nat):Int)=0 from rfl]at hx;rw[hx,Qh];dsimp only;cases ov with
 |true=>exact .inl ⟨_,_,rfl⟩
 |false=>
  cases fd with
  |false=>exact .inl ⟨_,_,rfl⟩
  |true=>
   obtain⟨v,rfl,g⟩:=hf rfl;exact .inr ⟨v,_,rfl,g⟩
omit p0 p1 hE hA hr hc hn in
theorem QfM(aa:Us n per E A some=some false):∃us e,Zp n per E A 4000 (λa b=>some (.inl (a,b))) (λa b c=>some (.inr (a,b,c)))=some (.inl (us,e):(Int×Int) ⊕ (LL×Int×Int)):=by
 unfold Zp Fc;rw[aa,Qh,Qr7,QqI];exact⟨_,_,rfl⟩
end
namespace Cx
variable{X:Cx}
structure Gd(X:Cx)(per:Int)(Ch Sy A:LL)(tl:List Int):Prop where
 ok:X.OK
 ls:X.LsOK per Ch Sy
 p0:2<=per
 p1:per<=300
 act:∃H,A=X.planned Ch Sy++H/\∀r∈H,∃a b w,r=Q8E a b w
 len:A.length<400
 tlen:tl.length=2*X.N
 tr:∀x∈tl,0<=x/\x<per
 ck:∀r∈A,chk per (2*X.N) r=true
theorem Q7c{per:Int}{J:Y Tup}{a:Nat}:∀{c b:Nat} {H:LL},X.hdw per J a c b=some H->∀r∈H,∃a b w,r=Q8E a b w
 |0,b,H,e=>by cases e;exact λr hr=>nomatch hr
 |c+1,b,H,e=>by
  rw[hdw]at e;cases ew:X.WV per J a b with
  |none=>rw[ew]at e;cases e
  |some W=>
   rw[ew]at e;cases eh:X.hdw per J a c (b+1)with
   |none=>simp only[eh]at e;cases e
   |some H'=>
    simp only[eh]at e;cases e;intro r hr;rcases QqP.1 hr with hr | hr
    ·obtain⟨w,_,rfl⟩:=QqY.1 hr;exact⟨_,_,_,rfl⟩
    ·exact Q7c eh r hr
theorem hdws_rows{per:Int}{J:Y Tup}:∀{c a:Nat} {H:LL},X.hdws per J c a=some H->∀r∈H,∃a b w,r=Q8E a b w
 |0,b,H,e=>by cases e;exact λr hr=>nomatch hr
 |c+1,a,H,e=>by
  rw[hdws]at e;cases ew:X.hdw per J a c (a+1)with
  |none=>rw[ew]at e;cases e
  |some W=>
   rw[ew]at e;cases eh:X.hdws per J c (a+1)with
   |none=>simp only[eh]at e;cases e
   |some H'=>
    simp only[eh]at e;cases e;intro r hr;rcases QqP.1 hr with hr | hr
    ·exact Q7c ew r hr
    ·exact hdws_rows eh r hr
theorem Qdg{i:Nat}{r:Y D}:∀{K:Nat},r∈X.pl i K->∃k,k<K/\(r=X.aR i k\/k<X.nr i-1/\r=X.aD i k)
 |0,h=>nomatch h
 |K+1,h=>by
  rw[pl]at h;rcases QqP.1 h with h | h
  ·rcases QqP.1 h with h | h
   ·obtain⟨k,hk,h⟩:=Qdg h;exact⟨k,I,h⟩
   ·exact⟨K,I,.inl (QqV.1 h)⟩
  ·split at h
   ·exact⟨K,I,.inr ⟨by assumption,QqV.1 h⟩⟩
   ·nomatch h
theorem Q68{r:Y D}:∀{L:Nat},r∈X.pls L->∃i k,i<L/\k<X.nr i/\(r=X.aR i k\/k<X.nr i-1/\r=X.aD i k)
 |0,h=>nomatch h
 |L+1,h=>by
  rw[pls]at h;rcases QqP.1 h with h | h
  ·obtain⟨i,k,hi,h⟩:=Q68 h;exact⟨i,k,I,h⟩
  ·obtain⟨k,hk,h⟩:=Qdg h;exact⟨L,k,I,hk,h⟩
variable{per:Int} {Ch Sy A:LL} {tl:Y Int}
theorem QeR(h:X.OK)(hl:X.LsOK per Ch Sy){H:LL}(hH:∀r∈H,∃a b w,r=Q8E a b w){r:Y D}(hr:r∈X.planned Ch Sy++H):(∃i k,i<X.Ls.length/\k<X.nr i/\(r=X.aR i k\/k<X.nr i-1/\r=X.aD i k))\/(∃t∈X.T,r=X.tuE t)\/∃kd f t mn mx w:Int,(kd=3\/kd=5\/kd=6)/\r=[Ql kd,Ql f,Ql t,Ql mn,Ql mx,Ql w]:=by
 rcases QqP.1 hr with hr | hr
 ·rcases QqP.1 hr with hr | hr
  ·rcases QqP.1 hr with hr | hr
   ·rcases QqP.1 hr with hr | hr
    ·exact .inl (Q68 hr)
    ·obtain⟨row,aa,rfl⟩:=QqY.1 hr;obtain⟨f,fr,t,tr,mn,mx,w,rfl,_⟩:=hl.ch row aa;exact .inr (.inr ⟨3,_,_,mn,mx,w,.inl rfl,rfl⟩)
   ·obtain⟨t,ht,rfl⟩:=QqY.1 hr;exact .inr (.inl ⟨t,ht,rfl⟩)
  ·obtain⟨row,aa,rfl⟩:=QqY.1 hr;obtain⟨o,rfl,_⟩:=hl.sy row aa;exact .inr (.inr ⟨5,_,_,o,o,0,.inr (.inl rfl),rfl⟩)
 ·obtain⟨a,b,w,rfl⟩:=hH r hr;exact .inr (.inr ⟨6,_,_,w.1,w.2,0,.inr (.inr rfl),rfl⟩)
theorem act_r6(h:X.OK)(hl:X.LsOK per Ch Sy){H:LL}(hH:∀r∈H,∃a b w,r=Q8E a b w){r:Y D}(hr:r∈X.planned Ch Sy++H):R6 r:=by
 rcases QeR h hl hH hr with⟨i,k,_,_,rfl | ⟨_,rfl⟩⟩|⟨t,_,rfl⟩|⟨kd,f,t,mn,mx,w,_,rfl⟩
 ·exact⟨_,_,_,_,_,_,rfl⟩
 ·exact⟨_,_,_,_,_,_,rfl⟩
 ·exact⟨_,_,_,_,_,_,rfl⟩
 ·exact⟨_,_,_,_,_,_,rfl⟩
variable(g:X.Gd per Ch Sy A tl)
include g
theorem Gd.r6{r:Y D}(hr:r∈A):R6 r:=by
 obtain⟨H,rfl,hH⟩:=g.act;exact act_r6 g.ok g.ls hH hr
theorem Gd.tat{i:Int}(a:0<=i)(b:i<(2*X.N:Nat)):Qi (encI tl) i=some [Ql (Vx.tat tl i)]/\0<=Vx.tat tl i/\Vx.tat tl i<per:=by
 have hl:=g.tlen;have e:tl[i.toNat]? = some (Vx.tat tl i):=by
  unfold Vx.tat;rw[QqN,QqL I];rfl
 have:=KU e;rw[show(i.toNat:Int)=i by omega]at this;exact⟨this,g.tr _ (QqJ e)⟩
theorem Gd.row{r:Y D}(hr:r∈A):∃kd f t mn mx w:Int,r=[Ql kd,Ql f,Ql t,Ql mn,Ql mx,Ql w]/\(0<=f/\f<(2*X.N:Nat))/\(0<=t/\t<(2*X.N:Nat)) /\ -65536<=mn/\mn<=65536:=by
 obtain⟨kd,f,t,mn,mx,w,rfl⟩:=g.r6 hr;have:=Q2v (g.ck _ hr);exact⟨kd,f,t,mn,mx,w,rfl,I,I,I⟩
theorem Gd.dur_rng{r:Y D}(hr:r∈A) : -65536<=Y8 tl per r/\Y8 tl per r<=66000:=by
 obtain⟨kd,f,t,mn,mx,w,rfl,hf,ht,a,h2⟩:=g.row hr;have p0:=g.p0;have p1:=g.p1;have:=Qr3 (Vx.tat tl t-Vx.tat tl f-mn) (show per≠0 by omega);have:=Qr0 (Vx.tat tl t-Vx.tat tl f-mn) (show 0<per by omega);simp only[Y8,dur];omega
end Cx
theorem Tj.lt{X:Cx}{f k:Nat}{r:Y D}(h:Tj X.Ls f k r):f<X.Ls.length/\k<X.nr f:=by
 obtain⟨nm,w,rides,a,h2⟩:=h;refine⟨(QqU.1 a).1,?_⟩;have e:KZ X.Ls f=rides:=by unfold KZ;rw[a]
 unfold Cx.nr;rw[e];exact(QqU.1 h2).1
theorem PlanR.lsOK{X:Cx}{per:Int}{Sk Ch Tu Sy De:LL}(h:PlanR X.G per Sk X.Ro X.Ls Ch Tu Sy De):X.LsOK per Ch Sy where
 ch:=λrow hr=>by
  obtain⟨f,fr,t,tr,mn,mx,w,r,r',x,y,x',y',b,b',i,e,a,h2,c,d,h5,h6,h7,_⟩:=h.ch row hr;exact⟨f,fr,t,tr,mn,mx,w,e,a.lt.1,a.lt.2,h2.lt.1,h2.lt.2,h6,h7⟩
 chl:=h.chl
 sy:=λrow hr=>h.sy row hr
 syl:=h.syl
theorem QbC{per:Int}{E A:LL}{w:Y Int}(a:A.all (chk per E.length)=true)(h2:TG per E.length w):Q3p per E A w=true:=by
 unfold Q3p;rw[a,h2.1];simp only[QqT,QqG,bne_self_eq_false,Qrl,Bool.not_eq_true',Bool.cond_true_left,Bool.or_eq_false_iff,decide_eq_false_iff_not];intro x hx;have:=h2.2 x hx;omega
def Qjn:Y D->Int
 |[_,_,_,_,.int _ m,_]=>m
 |_=>0
def Fs(per:Int)(tl:Y Int)(A:LL):Prop:=∀r∈A,Y8 tl per r<=Qjn r
theorem FsB.fs'{A:LL}{per:Int}{N:Nat}{tl:Y Int}(hr:∀r∈A,R6 r)(hc:∀r∈A,chk per N r=true)(h:FsB A per N tl):Fs per tl A:=λr hm=>by
 obtain⟨kd,f,t,mn,mx,q,rfl⟩:=hr r hm;have:=Q2v (hc _ hm);exact h kd f t mn mx q hm I I I I
namespace Cx
variable{X:Cx} {per:Int} {Ch Sy A:LL} {tl:Y Int} (g:X.Gd per Ch Sy A tl)
include g
theorem Gd.lasts{r:Y D}(hr:r∈A):∃kd f t mn mx w:Int,r=[Ql kd,Ql f,Ql t,Ql mn,Ql mx,Ql w]/\(0<=f/\f<(2*X.N:Nat))/\(0<=t/\t<(2*X.N:Nat))/\(-65536<=mn/\mn<=65536) /\
  (∀(R:Type) (K:Int->oP R),gb true (Qi (encI tl) t) [] (λa=>gb true (a[0]?) oF λb=>gb true (pIw b) 0 λc=>gb true (Qi (encI tl) f) [] λd=>gb true (d[0]?) oF λc5=>gb true (pIw c5) 0 λe=>
   gb true (Hg 400 (wJ ((wJ (c-e))-mn)) per some) 0 λh=>K (wJ (mn+h)))=K (Y8 tl per r)):=by
 obtain⟨kd,f,t,mn,mx,w,rfl,hf,ht,ac⟩:=g.row hr;refine⟨kd,f,t,mn,mx,w,rfl,hf,ht,I,λR K=>?_⟩;have tf:=g.tat hf.1 hf.2;have tt:=g.tat ht.1 ht.2;have p0:=g.p0;have p1:=g.p1;have i:=Qr3 (Vx.tat tl t-Vx.tat tl f-mn) (show per≠0 by omega);have j:=Qr0 (Vx.tat tl t-Vx.tat tl f-mn) (show 0<per by omega);simp -implicitDefEqProofs only[Qh,QqF,Qj,tf.1,tt.1,Qo (x:=Vx.tat tl t-Vx.tat tl f) I I,Qo (x:=Vx.tat tl t-Vx.tat tl f-mn) I I,QhD (n:=400) (t:=per) (x:=Vx.tat tl t-Vx.tat tl f-mn) I I I I,Qo (x:=mn+(Vx.tat tl t-Vx.tat tl f-mn) % per) I I];rfl
theorem Gd.firstN{R:Type}{E B:LL}(fs:Fs per tl A){k0:Int->oP R}{k1:Int->Bool->oP R}:∀(c m i:Nat),i+c=A.length->c<m->Ua 400 (encI tl) A (A.length:Int) per E B k0 k1 m (i:Int)=k1 (A.length:Int) false
 |0,m+1,i,hi,_=>by
  obtain rfl:i=A.length:=I
  rw[Ua,Qz,QqG]
 |c+1,m+1,i,hi,hm=>by
  have hA:=g.len;have e:=QqL (l:=A) (i:=i) I;obtain⟨kd,f,t,mn,mx,w,er,_,_,_,hd⟩:=g.lasts (QqJ e);have aa:=fs _ (QqJ e);rw[Ua,Qt (show i<A.length by omega),QqI,Qp,e,er];rw[er]at hd aa;have ac:JI 400 per E B (encI tl) kd f t mn mx w (some:Int->oP Int)=some (Y8 tl per [Ql kd,Ql f,Ql t,Ql mn,Ql mx,Ql w]):=by
   unfold JI;exact hd Int some
  simp -implicitDefEqProofs only[Qh,QqF,QqK,Qj,ac,QI (show i<=1000 by omega)];rw[QqO (by exact Int.not_lt.2 aa),QqG];exact firstN fs c m (i+1) I I
theorem Gd.feas{E:LL}(hE:E.length=2*X.N)(fs:Fs per tl A)(hg:G5 400 per E A (encI tl) some=some true):XM 400 per E A (encI tl) (some:Bool->oP Bool)=some true:=by
 have a:Gj 400 per E A (encI tl) Tu2=some (0,false):=by
  unfold Gj;rw[hg,Qh,QqT,QqG];have:=g.firstN (E:=E) (B:=A) fs (k0:=λd=>(some (d,true):oP (Int×Bool))) (k1:=λe f=>some (0,false)) A.length 400 0 I (by have:=g.len;omega);exact this
 unfold XM;rw[a,Qh];dsimp only;rw[hg];rfl
end Cx
theorem Qdi{a b:Int}(f:1<=a)(c:1<=b):1<=cd a b:=by
 have h:=Az (show 0<=a by omega) c;by_cases e:1<=cd a b
 ·exact e
 ·have d:cd a b=0:=I
  rw[d]at h;omega
theorem Run.T_pos{X:Run}(h:X.OK):1<=X.T X.N:=by
 have h2:=h.h2;have c:=Run.T_mono h (a:=1) (b:=X.N) I (Qrj _);have d:=Run.inc_rng h (b:=0) I;have h5:=Qdi (a:=20000000) (b:=X.S 0+X.S (0+1)) Q1 I;have e:X.T 1=0+cd 20000000 (X.S 0+X.S (0+1)):=rfl;omega
theorem Cx.run_pos{X:Cx}(h:X.OK){i k:Nat}(hi:i<X.Ls.length)(hk:k<X.nr i):1<=X.run i k:=
 Qdi (Run.T_pos (Rn (Cx.rd h hi hk).rt (nm:=X.nm) h.sk)) Q1
end Go.Vx
namespace Go.Vx
variable{R:Type} (n:Nat)
def nv1:Y D->oP LL
|[.nl]=>some []
|[.sl k l]=>bif Nat.beq k 1&&Nat.ble l.length 1000000 then some l else none
|_=>none
def QaU(h:LL)(i:Int):oP LL:=(Qi h i).bind nv1
def CN:Y D->Y D
|[.nl]=>[.sl 1 []]
|r=>r
def Q9g:Y D->Bool
|[.nl]=>true
|_=>false
def Xt(h5 h6:LL)(h7 e:Int)(k0:Qls R):Qlu R
|0,_,_,_=>none
|m+1,a,c,d=>bif decide (a<h7)then Qky R h6 a λb f j p=>Qc R b[3]? λk=>Qc R b[4]? λab=>Qc R b[5]? λac=>Qkw R k p λg q=>Qkx R h5 q λs=>Qkw R s j λt i64=>Qkx R h5 i64 λv=>Qkw R v k λx y=>Qc R (Hg n (wJ (wJ (t-x)-y)) e some) λh=>Qb R [[Ql (wJ (g+h))]] λag=>Qc R (Y5 ((d.length+ag.length)*8)) λad=>Qc R (pIw f) λi=>Qd R (!(i==1)) (pIw f) λl=>Qd R (!(Q8 (i==1) (l==2))) (pIw f) λz=>bif Q8 (Q8 (i==1) (l==2)) (z==3)then Qc R (pIw j) λo=>Qc R (QaU c o) λaa=>Xt h5 h6 h7 e k0 m (wJ (a+1)) (List.set c o.toNat [.sl 1 (aa++[[.int .i64 a]])]) (d++ag)else Xt h5 h6 h7 e k0 m (wJ (a+1)) c (d++ag)else k0 a (decide (a<h7)) c d
def Ys(h5 h6:LL)(h7 f:Int)(k0:Qls R)(m:Nat)(g:Int)(e h:LL):oP R:=bif e.all Q9g then Xt n h5 h6 h7 f (λa b c d=>k0 a b (c.map CN) d) m g e h else none
def Yr(n:Nat)(h:LL)(b:Int)(c i j:LL)(k0:Qls R):Qlu R
|0,_,_,_=>none
|m+1,a,d,e=>bif decide (a<b)then QkF R h a λf p=>Qc R f[2]? λq=>Qc R (pIw p) λr=>QkK R j r λu=>Qc R (pIw q) λv=>QkA R u v λz=>QkB R i z λg aa=>Qc R (pSl 2 g) λab=>QkA R ab 0 λae=>Ql0 R c ae λl=>Qc R (Y5 ((d.length+[[Ql l]].length)*8)) λar=>Qc R (pSl 2 g) λai=>Ql6 R g aa λaj ak=>QkA R ai (wJ (wJ ((aj.length:Int)-ak)-1)) λan=>Ql0 R c an λo=>Qc R (Y5 ((e.length+[[Ql o]].length)*8)) λau=>Yr n h b c i j k0 m (wJ (a+1)) (d++[[Ql l]]) (e++[[Ql o]])else k0 a (decide (a<b)) d e
def Yb(c g d h:LL)(i:Int)(j e f k l m o a2:LL)(KA:Qlg R)(KB:Int->LL->LL->LL->LL->LL->LL->Int->Int->oP R):oP R:=gb true (Zs n c g d h i j e f k l m o Tu4) (0,[],[],0) λa=>bif a.2.2.2 !=0 then KA a.2.2.2 else Qc R (XM n a.1 a.2.1 a.2.2.1 a2 some) λb=>bif !b then KA 1 else Qb R (a.2.1.length:Int) λp=>gb true (bif decide (0<=p)&&decide (p<=p)then some ()else none) () λv=>Qc R (Y5 (Int.toNat p*24)) λx=>Ys n a2 a.2.2.1 (a.2.2.1.length:Int) a.1 (λy z r s=>Yr n a.2.1 p d e f (λaa ab t u=>KB a.1 a.2.1 a.2.2.1 r s t u (c.length:Int) 0) n 0 [] []) n 0 (List.replicate (Int.toNat p) [D.nl]) []
end Go.Vx
namespace Go.Vx
def knd(A:LL)(j:Nat):Int:=match A[j]? with
 |some (.int _ k::_)=>k
 |_=>0
def frm(A:LL)(j:Nat):Int:=match A[j]? with
 |some (_::.int _ k::_)=>k
 |_=>0
def tto(A:LL)(j:Nat):Int:=match A[j]? with
 |some (_::_::.int _ k::_)=>k
 |_=>0
def QaO(A:LL)(e j:Nat):Bool:=(bif (bif (knd A j == 1)then true else(knd A j == 2))then true else(knd A j == 3))&&frm A j == (e:Int)
def lvF(A:LL)(i e:Nat):Y Nat:=(List.range i).filter (QaO A e)
def GV(l:Y Nat):LL:=l.map λ(j:Nat)=>[Ql (j:Int)]
def Qfd:Y Nat->Y D
 |[]=>[.nl]
 |l=>[.sl 1 (GV l)]
def Fx(A:LL)(i M:Nat):LL:=(List.range M).map λe=>Qfd (lvF A i e)
theorem Q6z(A:LL)(i e:Nat):lvF A (i+1) e=lvF A i e++(if QaO A e i=true then[i]else[]):=by
 unfold lvF;rw[List.range_succ,List.filter_append];congr 1;cases h:QaO A e i<;>simp[h]
theorem Q6w(A:LL)(i e:Nat):(lvF A i e).length<=i:=by
 unfold lvF;have:=Qrn (QaO A e) (List.range i);rwa [Qri]at this
theorem Qhs{l:Y Nat}(h:l.length<=1000):nv1 (Qfd l)=some (GV l):=by
 cases l with
 |nil=>rfl
 |cons x r=>
  have e:Nat.ble (GV (x::r)).length 1000000=true:=by
   rw[Nat.ble_eq];simp[GV]at h ⊢;omega
  show(bif Nat.beq 1 1&&Nat.ble (GV (x::r)).length 1000000 then some (GV (x::r))else none)=_;rw[e];rfl
theorem Q8P(l:Y Nat)(i:Nat):Qfd (l++[i])=[.sl 1 (GV l++[[.int .i64 i]])]:=by
 cases l with
 |nil=>rfl
 |cons x r=>simp[Qfd,GV,Ql]
theorem Qch(l:Y Nat):CN (Qfd l)=[.sl 1 (GV l)]:=by cases l<;>rfl
theorem Eh(A:LL)(i M:Nat):(Fx A i M).length=M:=by simp[Fx]
theorem Bc{A:LL}{i M e:Nat}(he:e<M):(Fx A i M)[e]? = some (Qfd (lvF A i e)):=by simp[Fx,he]
theorem Q8m(A:LL)(M:Nat):Fx A 0 M=List.replicate M [.nl]:=by
 apply Qrq;intro e;by_cases he:e<M
 ·rw[Bc he,List.getElem?_replicate,Qr4 he];rfl
 ·rw[QqW (by rw[Eh];omega),QqW Q3]
theorem Qcf{A:LL}{i M:Nat}(h:∀e,e<M->QaO A e i=false):Fx A (i+1) M=Fx A i M:=by
 unfold Fx;refine List.map_congr_left λe he=>?_
 rw[Q6z,h e (Qra.1 he)];simp
theorem Q92{A:LL}{i M f:Nat}(hf:f<M)(h:∀e,e<M->QaO A e i=decide (e=f)):(Fx A i M).set f [.sl 1 (GV (lvF A i f)++[[.int .i64 i]])]=Fx A (i+1) M:=by
 apply Qrq;intro e;by_cases he:e<M
 ·rw[Bc he,Q6z,h e he,Qrk,Eh];by_cases ef:f=e
  ·subst ef;rw[Qr4 rfl,Qr4 hf,QqR rfl,Qr4 rfl,Q8P]
  ·rw[Qr2 ef,QqO (λh=>ef h.symm),Qr2 Q2,QqZ,Bc he]
 ·rw[QqW (by rw[Qrb,Eh];omega),QqW (by rw[Eh];omega)]
theorem QeD{A:LL}{i M:Nat}{f:Int}(a:0<=f)(b:f<(M:Nat))(hi:i<=1000):QaU (Fx A i M) f=some (GV (lvF A i f.toNat)):=by
 unfold QaU;have e:f=(f.toNat:Int):=I
 rw[e,Qp,QqH,Bc I];exact Qhs (Nat.le_trans (Q6w ..) hi)
namespace Cx
variable{X:Cx} {per:Int} {Ch Sy A:LL} {tl:Y Int} (g:X.Gd per Ch Sy A tl)
include g
theorem Gd.svc1{R:Type}{k0:Int->Bool->LL->LL->oP R}:∀(c m i:Nat),i+c=A.length->c<m->Xt 400 (encI tl) A (A.length:Int) per k0 m (i:Int) (Fx A i (2*X.N)) ((A.take i).map λr=>[Ql (Y8 tl per r)]) =
  k0 (A.length:Int) false (Fx A A.length (2*X.N)) (A.map λr=>[Ql (Y8 tl per r)])
 |0,m+1,i,hi,_=>by
  obtain rfl:i=A.length:=I
  rw[Xt,Qz,QqG,Qr9]
 |c+1,m+1,i,hi,hm=>by
  have hA:=g.len;have aa:i<A.length:=I
  have e:=QqL aa;have hr:=QqJ e;obtain⟨kd,f,t,mn,mx,w,er,hf,ht,am⟩:=g.row hr;have tf:=g.tat hf.1 hf.2;have tt:=g.tat ht.1 ht.2;have p0:=g.p0;have p1:=g.p1;have a:=Qr3 (Vx.tat tl t-Vx.tat tl f-mn) (show per≠0 by omega);have b:=Qr0 (Vx.tat tl t-Vx.tat tl f-mn) (show 0<per by omega);have hd:wJ (mn+(Vx.tat tl t-Vx.tat tl f-mn) % per)=Y8 tl per A[i]:=by rw[er];exact Qo I I
  have ek:knd A i=kd:=by unfold knd;rw[e,er]
  have ef:frm A i=f:=by unfold frm;rw[e,er]
  have hs:(A.take i).map (λr=>[Ql (Y8 tl per r)])++[[D.int .i64 (Y8 tl per A[i])]]=(A.take (i+1)).map λr=>[Ql (Y8 tl per r)]:=by
   rw[List.take_add_one,e,QqS];rfl
  rw[Xt,Qt aa,QqI,Qp,e,er];simp -implicitDefEqProofs only[Qh,QqF,QqK,Qj,tf.1,tt.1,Qo (x:=Vx.tat tl t-Vx.tat tl f) I I,Qo (x:=Vx.tat tl t-Vx.tat tl f-mn) I I,QhD (n:=400) (t:=per) (x:=Vx.tat tl t-Vx.tat tl f-mn) I I I I,QI (show i<=1000 by omega),hd,
   XI (show(((A.take i).map (λr=>[Ql (Y8 tl per r)])).length+[[D.int .i64 (Y8 tl per A[i])]].length)*8<=100000 by simp;omega),hs,QeD (A:=A) (i:=i) (M:=2*X.N) hf.1 hf.2 I]
  cases hk:(bif (bif (kd == (1:Int))then true else(kd == (2:Int)))then true else(kd == (3:Int)))with
  |false=>
   rw[QqG,<- Qcf (A:=A) (i:=i) (M:=2*X.N) (λe' _=>by unfold QaO;rw[ek,hk];rfl)];exact svc1 c m (i+1) I I
  |true=>
   rw[QqI,Q92 (A:=A) (i:=i) (M:=2*X.N) (f:=f.toNat) I (λe' _=>by
    unfold QaO;rw[ek,hk,ef,Bool.true_and];by_cases h:e'=f.toNat
    ·rw[QqR h];simp;omega
    ·rw[QqO h];simp;omega)]
   exact svc1 c m (i+1) I I
theorem Gd.svcQ{R:Type}{k0:Int->Bool->LL->LL->oP R}:Ys 400 (encI tl) A (A.length:Int) per k0 400 0 (List.replicate (2*X.N) [.nl]) [] =
  k0 (A.length:Int) false ((List.range (2*X.N)).map λe=>[.sl 1 (GV (lvF A A.length e))]) (A.map λr=>[Ql (Y8 tl per r)]):=by
 unfold Ys;rw[show(List.replicate (2*X.N) [D.nl]).all Q9g=true by simp[Q9g],QqI,<- Q8m A];have:=g.svc1 (k0:=λa b c d=>k0 a b (c.map CN) d) A.length 400 0 I (by have:=g.len;omega);rw[List.take_zero]at this;refine this.trans ?_;unfold Fx;rw[List.map_map];congr 2;funext e;exact Qch _
end Cx
def DP(Se:LL)(row:Y D):Int:=match row with
 |.int _ x::_=>match Qi Se x with
  |some [_,_,_,_,.int _ t]=>t
  |_=>0
 |_=>0
namespace Cx
variable(X:Cx)
def stE(e:Nat):LL:=match (X.evs X.L)[e]? with
 |some [_,.int _ i,.int _ k]=>X.st i.toNat k.toNat
 |_=>[]
def s0(e:Nat):Int:=DP X.G.Se ((X.stE e).getD 0 [])
def s1(e:Nat):Int:=DP X.G.Se ((X.stE e).getD ((X.stE e).length-1) [])
variable{X} (h:X.OK)
include h
theorem ev_of{e:Nat}(he:e<2*X.N):∃i k,i<X.L/\k<X.nr i/\(X.evs X.L)[e]? = some [Ql (if e % 2=0 then 1 else 2),Ql i,Ql k]/\e / 2=base X.nr i+k:=by
 obtain⟨i,k,b,h2,c⟩:=Q2y (nr:=X.nr) (a:=e / 2) (L:=X.L) (by change e / 2<X.N;omega);have:=QcT h2 b;refine⟨i,k,b,h2,?_,c⟩;by_cases hm:e % 2=0
 ·rw[Qr4 hm,show e=2*(base X.nr i+k) by omega];exact this.1
 ·rw[Qr2 hm,show e=2*(base X.nr i+k)+1 by omega];exact this.2
omit h in
theorem Mt{Se:LL}{row:Y D}(hr:Dd Se row):∃(x:Int) (r:Y D),row[0]? = some (.int .i64 x)/\Qi Se x=some r/\r[4]? = some (.int .i64 (DP Se row)):=by
 obtain⟨x,d,nm,a,b,c,st,rfl,h2,_,_⟩:=hr;refine⟨x,_,rfl,h2,?_⟩;unfold DP;simp only[Ql,h2];rfl
theorem QjF{R:Type}{k0:Int->Bool->LL->LL->oP R}(hN:X.N<=6):∀(c m i:Nat),i+c=2*X.N->c<m->Yr 400 (X.evs X.L) (((X.evs X.L).length:Nat):Int) X.G.Se X.Ro X.Ls k0 m (i:Int) (encI ((List.range i).map X.s0)) (encI ((List.range i).map X.s1))=k0 ((2*X.N:Nat):Int) false (encI ((List.range (2*X.N)).map X.s0)) (encI ((List.range (2*X.N)).map X.s1))
 |0,m+1,i,hi,_=>by
  obtain rfl:i=2*X.N:=I
  rw[Yr,evs_len,show base X.nr X.L=X.N from rfl,Qz,QqG]
 |c+1,m+1,i,hi,hm=>by
  obtain⟨l,k,a,h2,b,n⟩:=ev_of h (e:=i) I;have hl:=(line h a).1;have hr:=rd h a h2;have o:=hr.rt.l2;have p:=hr.rt.l24;have aa:X.stE i=X.st l k:=by unfold stE;rw[b];simp only[Ql,QqH]
  obtain⟨x,r,a1,a2,d⟩:=Mt (hr.rt.st ((X.st l k).getD 0 []) (by rw[QqN,QqL I];exact List.getElem_mem _));obtain⟨y,q,b1,b2,g⟩:=Mt (hr.rt.st ((X.st l k).getD ((X.st l k).length-1) []) (by rw[QqN,QqL I];exact List.getElem_mem _));have j:X.s0 i=DP X.G.Se ((X.st l k).getD 0 []):=by unfold s0;rw[aa]
  have e1:X.s1 i=DP X.G.Se ((X.st l k).getD ((X.st l k).length-1) []):=by unfold s1;rw[aa]
  rw[<- j]at d;rw[<- e1]at g;have c0:Qi (X.st l k) 0=some ((X.st l k).getD 0 []):=by
   rw[show(0:Int)=((0:Nat):Int)from rfl,Qp,QqN,QqL I];rfl
  have c1:Qi (X.st l k) (wJ (wJ (((X.st l k).length:Int)-0)-1))=some ((X.st l k).getD ((X.st l k).length-1) []):=by
   rw[Qo (x:=((X.st l k).length:Int)-0) I I,Qo (x:=((X.st l k).length:Int)-0-1) I I,show((X.st l k).length:Int)-0-1=(((X.st l k).length-1:Nat):Int) by omega,Qp,QqN,QqL I];rfl
  rw[Yr,Qt (by rw[evs_len];change i<2*X.N;omega),QqI,Qp,b];have ac:Qi X.Ls (l:Int)=some [D.str (nmN l),Ql 0,Ql (X.w l),D.sl 4 (KZ X.Ls l)]:=by rw[Qp];exact hl
  have ai:Qi (KZ X.Ls l) (k:Int)=some [Ql (rF X.Ls l k 0),Ql (X.ex l k),Ql (X.mn l k),Ql (X.mx l k)]:=by rw[Qp];exact hr.row
  have rm:∀(f:Nat->Int) (v:Int),Y5 ((List.length (encI ((List.range i).map f))+List.length [[D.int .i64 v]])*8)=some ():=λf v=>XI (by rw[QR];simp;omega)
  have cc:∀(f:Nat->Int) (v:Int),f i=v->encI ((List.range i).map f)++[[D.int .i64 v]]=encI ((List.range (i+1)).map f):=λf v hv=>by
   rw[List.range_succ,QqS,<- hv];simp[encI,Ql]
  simp -implicitDefEqProofs only[Qh,QqF,QqK,Qj,X2,ac,ai,hr.ro,c0,c1,a1,a2,d,b1,b2,g,QI (show i<=1000 by omega),rm,cc X.s0 _ rfl,cc X.s1 _ rfl];exact QjF hN c m (i+1) I I
omit h
def lvs(X:Cx)(A:LL):LL:=(List.range (2*X.N)).map λe=>[.sl 1 (GV (lvF A A.length e))]
variable{per:Int} {Ch Sy A:LL} {tl:Y Int}
theorem Gd.svcP{R:Type}(g:X.Gd per Ch Sy A tl){a0 a1 a e:LL}{b:LL}{c d f:LL}(hb:Zs 400 a0 a1 X.G.Se a per e X.Ro X.Ls b c d f Tu4=some (per,X.evs X.L,A,0))(hf:XM 400 per (X.evs X.L) A (encI tl) (some:Bool->oP Bool)=some true)(KA:Int->oP R)(KB:Int->LL->LL->LL->LL->LL->LL->Int->Int->oP R) :
  Yb 400 a0 a1 X.G.Se a per e X.Ro X.Ls b c d f (encI tl) KA KB=KB per (X.evs X.L) A (X.lvs A) (A.map λr=>[Ql (Y8 tl per r)]) (encI ((List.range (2*X.N)).map X.s0)) (encI ((List.range (2*X.N)).map X.s1)) (a0.length:Int) 0:=by
 have hN:=base_le g.ok;have hN:X.N<=6:=hN;have hl:(X.evs X.L).length=2*X.N:=evs_len;unfold Yb;rw[hb,Qh,bne_self_eq_false,QqG];dsimp only;rw[hf,Qh,QqT,QqG,hl,Q4j,Qh,QqH,XI I,Qh,g.svcQ];have:=QjF g.ok (k0:=λ(n:Int) (o:Bool) l m=>KB per (X.evs X.L) A (X.lvs A) (A.map λr=>[Ql (Y8 tl per r)]) l m (a0.length:Int) (0:Int)) hN (2*X.N) 400 0 I I;rw[hl]at this;exact this
end Cx
def leO:oP Int->oP Int->Prop
 |_,none=>True
 |none,some _=>False
 |some x,some y=>x<=y
theorem leO.refl:∀a,leO a a
 |none=>trivial
 |some x=>Int.le_refl x
theorem leO.trans:∀{a b c:oP Int},leO a b->leO b c->leO a c
 |_,_,none,_,_=>trivial
 |some x,some y,some z,h,g=>Int.le_trans h g
 |none,some y,some z,h,g=>h.elim
 |_,none,some z,h,g=>g.elim
theorem leO.anti:∀{a b:oP Int},leO a b->leO b a->a=b
 |none,none,_,_=>rfl
 |some x,some y,h,g=>congrArg some (Int.le_antisymm h g)
 |none,some y,h,g=>h.elim
 |some x,none,h,g=>g.elim
def CF:oP Int->oP Int->oP Int
 |none,b=>b
 |a,none=>a
 |some x,some y=>some (if y<x then y else x)
theorem CF.l(a b:oP Int):leO (CF a b) a:=by
 cases a<;>cases b<;>simp only[CF,leO]<;>(try split)<;>omega
theorem CF.r(a b:oP Int):leO (CF a b) b:=by
 cases a<;>cases b<;>simp only[CF,leO]<;>(try split)<;>omega
theorem CF.or(a b:oP Int):CF a b=a\/CF a b=b:=by
 cases a<;>cases b<;>simp only[CF,true_or,or_true];split
 ·exact .inr rfl
 ·exact .inl rfl
def Q0I(d:Int):oP Int->oP Int:=Option.map (d + ·)
theorem Q0I.mono{d:Int}:∀{a b:oP Int},leO a b->leO (Q0I d a) (Q0I d b)
 |_,none,_=>trivial
 |none,some _,h=>h
 |some x,some y,h=>Int.add_le_add_left h d
theorem Q0I.ge{d:Int}(h:0<=d):∀(a:oP Int),leO a (Q0I d a)
 |none=>trivial
 |some x=>show x<=d+x by omega
structure Gr where
 n:Nat
 out:Nat->List (Int×Nat)
 en:Nat->Bool
structure Gr.OK(g:Gr):Prop where
 to:∀e,∀a∈g.out e,0<=a.1/\a.2<g.n
namespace Gr
variable(g:Gr)
def D:Nat->Nat->oP Int
 |0,e=>bif g.en e then some 0 else none
 |k+1,e=>(g.out e).foldl (λm a=>CF m (Q0I a.1 (D k a.2))) (D k e)
theorem Q5T{f:Int×Nat->oP Int}:∀(l:Y (Int×Nat)) (m:oP Int),leO (l.foldl (λm a=>CF m (f a)) m) m/\∀a∈l,leO (l.foldl (λm a=>CF m (f a)) m) (f a)
 |[],m=>⟨.refl m,λa h=>nomatch h⟩
 |b::l,m=>by
  have ih:=Q5T (f:=f) l (CF m (f b));refine⟨ih.1.trans (CF.l ..),λa ha=>?_⟩;rcases Qrh.1 ha with rfl | ha
  ·exact ih.1.trans (CF.r ..)
  ·exact ih.2 a ha
theorem Q9e{f:Int×Nat->oP Int}:∀(l:Y (Int×Nat)) (m:oP Int),l.foldl (λm a=>CF m (f a)) m=m\/∃a∈l,l.foldl (λm a=>CF m (f a)) m=f a
 |[],m=>.inl rfl
 |b::l,m=>by
  rcases Q9e (f:=f) l (CF m (f b))with h | ⟨a,ha,h⟩
  ·rcases CF.or m (f b)with e | e
   ·exact .inl (h.trans e)
   ·exact .inr ⟨b,.head _,h.trans e⟩
  ·exact .inr ⟨a,.tail _ ha,h⟩
theorem D_succ(k e:Nat):leO (g.D (k+1) e) (g.D k e):=(Q5T (f:=λa=>Q0I a.1 (g.D k a.2)) ..).1
theorem D_mono{k:Nat}(e:Nat):∀{j:Nat},k<=j->leO (g.D j e) (g.D k e)
 |0,h=>by
  obtain rfl:k=0:=I
  exact .refl _
 |j+1,h=>by
  by_cases e1:k=j+1
  ·subst e1;exact .refl _
  ·exact(g.D_succ j e).trans (D_mono e I)
theorem D_edge{k e:Nat}{a:Int×Nat}(ha:a∈g.out e):leO (g.D (k+1) e) (Q0I a.1 (g.D k a.2)):=(Q5T (f:=λa=>Q0I a.1 (g.D k a.2)) ..).2 a ha
theorem D_or(k e:Nat):g.D (k+1) e=g.D k e\/∃a∈g.out e,g.D (k+1) e=Q0I a.1 (g.D k a.2):=Q9e (f:=λa=>Q0I a.1 (g.D k a.2)) ..
theorem better{k e:Nat}(h:g.D (k+2) e≠g.D (k+1) e):∃a∈g.out e,g.D (k+2) e=Q0I a.1 (g.D (k+1) a.2)/\g.D (k+1) a.2≠g.D k a.2:=by
 rcases g.D_or (k+1) e with e1 | ⟨a,ha,e1⟩
 ·exact absurd e1 h
 ·refine⟨a,ha,e1,λe2=>h ?_⟩;refine(g.D_succ (k+1) e).anti ?_;rw[e1,e2];exact g.D_edge ha
theorem chain(ok:g.OK):∀(k e:Nat),g.D (k+1) e≠g.D k e->e<g.n->∃l:Y Nat,l.length=k+1/\(∀x∈l,x<g.n)/\l[0]? = some e/\∀i x,l[i]? = some x->g.D (k+1-i) x≠g.D (k-i) x/\∀j y,i<=j->l[j]? = some y->leO (g.D (k+1-j) y) (g.D (k+1-i) x)
 |0,e,h,he=>⟨[e],rfl,λx hx=>by simp at hx;omega,rfl,λi x hx=>by
   cases i with
   |zero=>
    simp at hx;subst hx;refine⟨h,λj y _ hy=>?_⟩;cases j with
    |zero=>simp at hy;subst hy;exact .refl _
    |succ j=>simp at hy
   |succ i=>simp at hx⟩
 |k+1,e,h,he=>by
  obtain⟨a,ha,c,h2⟩:=g.better h;have ac:=ok.to e a ha;obtain⟨l,l1,l2,d,b⟩:=chain ok k a.2 h2 ac.2;refine⟨e::l,by simp[l1],λx hx=>?_,rfl,λi x hx=>?_⟩
  ·rcases Qrh.1 hx with rfl | hx
   ·exact he
   ·exact l2 x hx
  ·cases i with
   |zero=>
    simp at hx;subst hx;refine⟨h,λj y _ hy=>?_⟩;cases j with
    |zero=>simp at hy;subst hy;exact .refl _
    |succ j=>
     simp at hy;rw[show k+1+1-(j+1)=k+1-j by omega];refine((b 0 a.2 d).2 j y (Qro _) hy).trans ?_;show leO (g.D (k+1) a.2) (g.D (k+2) e);rw[c];exact Q0I.ge ac.1 _
   |succ i=>
    simp at hx;have:=b i x hx;rw[show k+1+1-(i+1)=k+1-i by omega,show k+1-(i+1)=k-i by omega];refine⟨this.1,λj y hj hy=>?_⟩;cases j with
    |zero=>omega
    |succ j=>
     simp at hy;rw[show k+1+1-(j+1)=k+1-j by omega];exact this.2 j y I hy
end Gr
theorem Qap:∀(n:Nat) (l:Y Nat),(∀x∈l,x<n)->n<l.length->∃i j x:Nat,i<j/\l[i]? = some x/\l[j]? = some x
 |0,l,h,hl=>by
  cases l with
  |nil=>simp at hl
  |cons a l=>exact absurd (h a (.head _)) I
 |n+1,l,h,hl=>by
  by_cases hd:∃i j:Nat,i<j/\l[i]? = some n/\l[j]? = some n
  ·obtain⟨i,j,c,h2,b⟩:=hd;exact⟨i,j,n,c,h2,b⟩
  ·by_cases hm:n∈l
   ·obtain⟨i,hi⟩:=List.getElem?_of_mem hm;have ai:=(QqU.1 hi).1;obtain⟨p,q,x,c,h2,b⟩:=Qap n (l.eraseIdx i) (λx hx=>by
     obtain⟨j,hj⟩:=List.getElem?_of_mem hx;have ac:=h x (List.mem_of_mem_eraseIdx hx);have aa:x≠n:=λe=>by
      subst e;rw[List.getElem?_eraseIdx]at hj;split at hj
      ·exact hd ⟨j,i,by assumption,hj,hi⟩
      ·exact hd ⟨i,j+1,I,hi,hj⟩
     omega) (by rw[List.length_eraseIdx];split<;>omega)
    rw[List.getElem?_eraseIdx]at h2 b;split at h2<;>split at b
    ·exact⟨p,q,x,c,h2,b⟩
    ·exact⟨p,q+1,x,I,h2,b⟩
    ·omega
    ·exact⟨p+1,q+1,x,I,h2,b⟩
   ·obtain⟨p,q,x,c,h2,b⟩:=Qap n l (λx hx=>by
     have:=h x hx;have aa:x≠n:=λe=>hm (e▸hx)
     omega) I
    exact⟨p,q,x,c,h2,b⟩
namespace Gr
variable(g:Gr)
theorem D_stable(ok:g.OK){e:Nat}(he:e<g.n):g.D (g.n+1) e=g.D g.n e:=Classical.byContradiction λh=>by
 obtain⟨l,l1,l2,c,a⟩:=g.chain ok g.n e h he;obtain⟨i,j,x,aa,hi,hj⟩:=Qap g.n l l2 I;have ai:=(QqU.1 hi).1;have ac:=(QqU.1 hj).1;obtain⟨b,h2⟩:=a i x hi;refine b ((g.D_mono x I).anti ?_);exact(g.D_mono x I).trans (h2 j x I hj)
def T(e:Nat):oP Int:=g.D g.n e
theorem T_le(ok:g.OK){e:Nat}(he:e<g.n):∀k,leO (g.T e) (g.D k e):=λk=>by
 have hs:∀j,∀x,x<g.n->g.D (g.n+j) x=g.T x:=λj=>by
  induction j with
  |zero=>exact λx _=>rfl
  |succ j ih=>
   intro x hx;have b:=g.D_stable ok hx;rcases g.D_or (g.n+j) x with e1 | ⟨a,ha,e1⟩
   ·exact e1.trans (ih x hx)
   ·refine(g.D_mono x I).anti ?_;show leO (g.D g.n x) (g.D (g.n+j+1) x);rw[e1,ih a.2 (ok.to x a ha).2,<- b];exact g.D_edge ha
 by_cases hk:k<=g.n
 ·exact g.D_mono e hk
 ·rw[show k=g.n+(k-g.n) by omega,hs _ e he];exact .refl _
theorem T_edge(ok:g.OK){e:Nat}(he:e<g.n){a:Int×Nat}(ha:a∈g.out e):leO (g.T e) (Q0I a.1 (g.T a.2)):=by
 have:=g.D_edge (k:=g.n) ha;rwa [g.D_stable ok he]at this
theorem T_end(ok:g.OK){e:Nat}(he:e<g.n)(h:g.en e=true):leO (g.T e) (some 0):=by
 have:=g.T_le ok he 0;rwa [D,h,QqI]at this
theorem T_or(ok:g.OK){e:Nat}(he:e<g.n){x:Int}(hx:g.T e=some x):(g.en e=true/\x=0)\/∃a∈g.out e,∃y,g.T a.2=some y/\x=a.1+y:=by
 have ac:∀k,g.D k e=g.T e->(g.en e=true/\x=0)\/∃a∈g.out e,∃y,g.T a.2=some y/\x=a.1+y:=λk=>by
  induction k with
  |zero=>
   intro h;rw[hx,D]at h;cases hc:g.en e with
   |true=>rw[hc,QqI]at h;injection h with h;exact .inl ⟨rfl,h.symm⟩
   |false=>rw[hc,QqG]at h;cases h
  |succ k ih=>
   intro h;rcases g.D_or k e with e1 | ⟨a,ha,e1⟩
   ·exact ih (e1.symm.trans h)
   ·refine .inr ⟨a,ha,?_⟩;have b:=g.T_le ok (ok.to e a ha).2 k;have h2:=g.T_edge ok he ha;rw[h,hx]at e1;rw[hx]at h2;cases hd:g.D k a.2 with
    |none=>rw[hd]at e1;cases e1
    |some z=>
     rw[hd]at e1 b;cases ht:g.T a.2 with
     |none=>rw[ht]at b;exact b.elim
     |some y=>
      rw[ht]at b h2;have e1:x=a.1+z:=by injection e1
      have b:y<=z:=b;have h2:x<=a.1+y:=h2;exact⟨y,rfl,I⟩
 exact ac g.n rfl
theorem T_nn(ok:g.OK){e:Nat}(he:e<g.n){x:Int}(hx:g.T e=some x):0<=x:=by
 have ac:∀k e,∀x,g.D k e=some x->0<=x:=λk=>by
  induction k with
  |zero=>
   intro e x h;rw[D]at h;cases hc:g.en e with
   |true=>rw[hc,QqI]at h;injection h with h;omega
   |false=>rw[hc,QqG]at h;cases h
  |succ k ih=>
   intro e x h;rcases g.D_or k e with e1 | ⟨a,ha,e1⟩
   ·exact ih e x (e1.symm.trans h)
   ·rw[h]at e1;cases hd:g.D k a.2 with
    |none=>rw[hd]at e1;cases e1
    |some z=>
     rw[hd]at e1;have e1:x=a.1+z:=by injection e1
     have:=ih _ _ hd;have:=(ok.to e a ha).1;omega
 exact ac _ _ _ hx
end Gr
def lo(left:Y Int)(e:Nat):oP Int:=if left.getD e 0 = -1 then none else some (left.getD e 0)
namespace Gr
variable(g:Gr)
def rl1(e:Nat)(s:Y Int×Bool)(a:Int×Nat):Y Int×Bool:=if s.1.getD a.2 0 = -1 then s else if s.1.getD e 0 = -1\/a.1+s.1.getD a.2 0<s.1.getD e 0 then(s.1.set e (a.1+s.1.getD a.2 0),true)else s
def rlE(s:Y Int×Bool)(e:Nat):Y Int×Bool:=(g.out e).foldl (rl1 e) s
def rlR(left:Y Int):Y Int×Bool:=(List.range g.n).foldl g.rlE (left,false)
structure Lf(left:List Int):Prop where
 len:left.length=g.n
 nn:∀e,e<g.n->left.getD e 0 = -1\/0<=left.getD e 0
 ge:∀e,e<g.n->leO (g.T e) (lo left e)
variable{g} (ok:g.OK)
include ok
theorem rl1_ok{e:Nat}(he:e<g.n){s:Y Int×Bool}(h:g.Lf s.1){a:Int×Nat}(ha:a∈g.out e) :
  g.Lf (rl1 e s a).1/\(∀x,x<g.n->lo (rl1 e s a).1 x=if x=e then CF (lo s.1 e) (Q0I a.1 (lo s.1 a.2))else lo s.1 x)/\((rl1 e s a).2=s.2/\(rl1 e s a).1=s.1\/(rl1 e s a).2=true/\lo (rl1 e s a).1 e≠lo s.1 e):=by
 obtain⟨left,c⟩:=s;obtain⟨d,f⟩:=a;have ho:=ok.to e _ ha;have hl:=h.len;have n1:=h.nn e he;have n2:=h.nn f ho.2;dsimp only at *
 have ac:∀v x,x<g.n->(left.set e v).getD x 0=if x=e then v else left.getD x 0:=λv x hx=>by
  rw[QqN,QqN,Qrk];by_cases aa:x=e
  ·subst aa;rw[Qr4 rfl,Qr4 rfl,Qr4 I];rfl
  ·rw[Qr2 (λh=>aa h.symm),Qr2 aa]
 unfold rl1;dsimp only;by_cases i:left.getD f 0 = -1
 ·rw[Qr4 i];refine⟨h,λx hx=>?_,.inl ⟨rfl,rfl⟩⟩;by_cases aa:x=e
  ·subst aa;rw[Qr4 rfl];have:lo left f=none:=Qr4 i;rw[this];cases hq:lo left x<;>rfl
  ·rw[Qr2 aa]
 rw[Qr2 i];have hf:lo left f=some (left.getD f 0):=Qr2 i;by_cases h2:left.getD e 0 = -1\/d+left.getD f 0<left.getD e 0
 ·rw[Qr4 h2];have hv:(left.set e (d+left.getD f 0)).getD e 0=d+left.getD f 0:=by rw[ac _ e he,Qr4 rfl]
  have aj:lo (left.set e (d+left.getD f 0)) e=some (d+left.getD f 0):=by unfold lo;rw[hv,Qr2 I]
  have ai:∀x,x<g.n->lo (left.set e (d+left.getD f 0)) x=if x=e then CF (lo left e) (Q0I d (lo left f))else lo left x:=λx hx=>by
   by_cases aa:x=e
   ·subst aa;rw[Qr4 rfl,aj,hf];by_cases b:left.getD x 0 = -1
    ·rw[show lo left x=none from Qr4 b];rfl
    ·rw[show lo left x=some (left.getD x 0)from Qr2 b];show _=some (if d+left.getD f 0<left.getD x 0 then d+left.getD f 0 else left.getD x 0);rw[Qr4 I]
   ·rw[Qr2 aa];unfold lo;rw[ac _ x hx,Qr2 aa]
  refine⟨⟨by simp[hl],λx hx=>?_,λx hx=>?_⟩,ai,.inr ⟨rfl,?_⟩⟩
  ·rw[ac _ x hx];by_cases aa:x=e
   ·rw[Qr4 aa];omega
   ·rw[Qr2 aa];exact h.nn x hx
  ·rw[ai x hx];by_cases aa:x=e
   ·subst aa;rw[Qr4 rfl];rcases CF.or (lo left x) (Q0I d (lo left f))with e1 | e1
    ·rw[e1];exact h.ge x hx
    ·rw[e1];exact(g.T_edge ok hx ha).trans (Q0I.mono (h.ge f ho.2))
   ·rw[Qr2 aa];exact h.ge x hx
  ·rw[aj];unfold lo;by_cases b:left.getD e 0 = -1
   ·rw[Qr4 b];simp
   ·rw[Qr2 b];intro hh;injection hh with hh
    omega
 ·rw[Qr2 h2];refine⟨h,λx hx=>?_,.inl ⟨rfl,rfl⟩⟩;by_cases aa:x=e
  ·subst aa;rw[Qr4 rfl,hf,show lo left x=some (left.getD x 0)from Qr2 I];show _=some (if d+left.getD f 0<left.getD x 0 then d+left.getD f 0 else left.getD x 0);rw[Qr2 I]
  ·rw[Qr2 aa]
structure Run(s s':List Int×Bool):Prop where
 lf:g.Lf s'.1
 le:∀x,x<g.n->leO (lo s'.1 x) (lo s.1 x)
 ch:s'.2=s.2/\s'.1=s.1\/s'.2=true/\∃x,x<g.n/\lo s'.1 x≠lo s.1 x
theorem Run.trans{s s' aa:Y Int×Bool}(h:Run (g:=g) s s')(k:Run (g:=g) s' aa):Run (g:=g) s aa where
 lf:=k.lf
 le:=λx hx=>(k.le x hx).trans (h.le x hx)
 ch:=by
  rcases h.ch with⟨a,b⟩|⟨a,x,hx,b⟩
  ·rcases k.ch with⟨c,d⟩|⟨c,y,hy,d⟩
   ·exact .inl ⟨c.trans a,d.trans b⟩
   ·exact .inr ⟨c,y,hy,by rw[<- b];exact d⟩
  ·refine .inr ⟨?_,x,hx,λe=>b ?_⟩
   ·rcases k.ch with⟨c,d⟩|⟨c,y,hy,d⟩
    ·rw[c,a]
    ·exact c
   ·exact(h.le x hx).anti (e▸k.le x hx)
theorem QcV{e:Nat}(he:e<g.n){s:Y Int×Bool}(h:g.Lf s.1):∀(l:Y (Int×Nat)),(∀a∈l,a∈g.out e)->∀s0:Y Int×Bool,g.Lf s0.1->Run (g:=g) s0 (l.foldl (rl1 e) s0)/\∀a∈l,leO (lo (l.foldl (rl1 e) s0).1 e) (Q0I a.1 (lo s0.1 a.2))
 |[],_,s0,c=>⟨⟨c,λx hx=>.refl _,.inl ⟨rfl,rfl⟩⟩,λa ha=>nomatch ha⟩
 |a::l,hl,s0,c=>by
  obtain⟨d,h2,j⟩:=rl1_ok ok he c (hl a (.head _));have f:Run (g:=g) s0 (rl1 e s0 a):=⟨d,λx hx=>by
   rw[h2 x hx];by_cases aa:x=e
   ·subst aa;rw[Qr4 rfl];exact CF.l ..
   ·rw[Qr2 aa];exact .refl _,j.imp id λ⟨a,b⟩=>⟨a,e,he,b⟩⟩
  obtain⟨i,h5⟩:=QcV he h l (λb hb=>hl b (.tail _ hb)) (rl1 e s0 a) d;refine⟨f.trans ok i,λb hb=>?_⟩;rcases Qrh.1 hb with rfl | hb
  ·refine(i.le e he).trans ?_;rw[h2 e he,Qr4 rfl];exact CF.r ..
  ·exact(h5 b hb).trans (Q0I.mono (f.le b.2 (ok.to e b (hl b (.tail _ hb))).2))
theorem QcN{k:Nat}:∀(l:Y Nat),(∀e∈l,e<g.n)->∀s0:Y Int×Bool,g.Lf s0.1->(∀e,e<g.n->leO (lo s0.1 e) (g.D k e))->Run (g:=g) s0 (l.foldl g.rlE s0)/\∀e∈l,leO (lo (l.foldl g.rlE s0).1 e) (g.D (k+1) e)
 |[],_,s0,c,_=>⟨⟨c,λx hx=>.refl _,.inl ⟨rfl,rfl⟩⟩,λa ha=>nomatch ha⟩
 |e::l,hl,s0,c,hk=>by
  have he:=hl e (.head _);obtain⟨d,h⟩:=QcV ok he c (g.out e) (λa ha=>ha) s0 c;obtain⟨f,h2⟩:=QcN (k:=k) l (λb hb=>hl b (.tail _ hb)) (g.rlE s0 e) d.lf (λx hx=>(d.le x hx).trans (hk x hx));refine⟨d.trans ok f,λb hb=>?_⟩;rcases Qrh.1 hb with rfl | hb
  ·refine(f.le b he).trans ?_;rcases g.D_or k b with e1 | ⟨a,ha,e1⟩
   ·rw[e1];exact(d.le b he).trans (hk b he)
   ·rw[e1];exact(h a ha).trans (Q0I.mono (hk a.2 (ok.to b a ha).2))
  ·exact h2 b hb
theorem Q1T{k:Nat}{left:Y Int}(h:g.Lf left)(hk:∀e,e<g.n->leO (lo left e) (g.D k e)):g.Lf (g.rlR left).1/\(∀e,e<g.n->leO (lo (g.rlR left).1 e) (g.D (k+1) e))/\((g.rlR left).2=false/\(g.rlR left).1=left\/(g.rlR left).2=true/\∃x,x<g.n/\lo (g.rlR left).1 x≠lo left x):=by
 obtain⟨r,a⟩:=QcN ok (k:=k) (List.range g.n) (λe he=>Qra.1 he) (left,false) h hk;exact⟨r.lf,λe he=>a e (Qra.2 he),r.ch⟩
theorem Q38{k:Nat}(hk:g.n<=k){left:Y Int}(h:g.Lf left)(hd:∀e,e<g.n->leO (lo left e) (g.D k e)){e:Nat}(he:e<g.n):lo left e=g.T e:=
 ((hd e he).trans (g.D_mono e hk)).anti (h.ge e he)
theorem Qa0{k:Nat}(hk:g.n<=k){left:Y Int}(h:g.Lf left)(hd:∀e,e<g.n->leO (lo left e) (g.D k e)):g.rlR left=(left,false):=by
 obtain⟨c,h2,d⟩:=Q1T ok h hd;rcases d with⟨a,b⟩|⟨a,x,hx,b⟩
 ·exact Prod.ext b a
 ·exact absurd ((Q38 ok (show g.n<=k+1 by omega) c h2 hx).trans (Q38 ok hk h hd hx).symm) b
theorem rounds{β:Type}{r:Nat->Y Int->β}{K:Y Int->β}{Q:Y Int->Prop}(hQ:∀left,g.Lf left->Q left->Q (g.rlR left).1)(hr:∀m left,g.Lf left->Q left->r (m+1) left=if (g.rlR left).2=true then r m (g.rlR left).1 else K (g.rlR left).1):∀(c m k:Nat) (left:Y Int),k+c=g.n->c<m->g.Lf left->Q left->(∀e,e<g.n->leO (lo left e) (g.D k e))->∃aa,g.Lf aa/\Q aa/\(∀e,e<g.n->lo aa e=g.T e)/\r m left=K aa
 |0,m+1,k,left,hk,_,h,q,hd=>by
  refine⟨left,h,q,λe he=>Q38 ok I h hd he,?_⟩;rw[hr m left h q,Qa0 ok I h hd,Qr2 (λe=>nomatch e)]
 |c+1,m+1,k,left,hk,hm,h,q,hd=>by
  obtain⟨d,h2,f⟩:=Q1T ok h hd;rw[hr m left h q];by_cases hc:(g.rlR left).2=true
  ·rw[Qr4 hc];exact rounds hQ hr c m (k+1) _ I I d (hQ left h q) h2
  ·rw[Qr2 hc];rcases f with⟨a,b⟩|⟨a,_⟩
   ·refine⟨left,h,q,λe he=>?_,by rw[b]⟩;have it:∀j,(∀e,e<g.n->leO (lo left e) (g.D (k+j) e)):=λj=>by
     induction j with
     |zero=>exact hd
     |succ j ih=>
      have:=(Q1T ok h ih).2.1;rw[b]at this;exact this
    exact Q38 ok (show g.n<=k+g.n by omega) h (it g.n) he
   ·exact absurd a hc
def QcD(left:Y Int):Nat:=left.countP λx=>decide (x ≠ -1)
def Ub(U:Int)(left:Y Int):Prop:=∀e:Nat,left.getD e 0<=U*(QcD left:Nat)
theorem rl1_ub{U:Int}{e:Nat}(he:e<g.n){s:Y Int×Bool}(h:g.Lf s.1)(hu:Ub U s.1){a:Int×Nat}(ha:a∈g.out e)(hd:a.1<=U):Ub U (rl1 e s a).1:=by
 obtain⟨left,c⟩:=s;obtain⟨d,f⟩:=a;have ho:=ok.to e _ ha;have hl:=h.len;have n1:=h.nn e he;have n2:=h.nn f ho.2;unfold rl1;dsimp only at *
 by_cases j:left.getD f 0 = -1
 ·rw[Qr4 j];exact hu
 rw[Qr2 j];by_cases h2:left.getD e 0 = -1\/d+left.getD f 0<left.getD e 0
 ·rw[Qr4 h2];have g1:=QqL (l:=left) (i:=e) I;have ge:left.getD e 0=left[e]'I:=by rw[QqN,g1];rfl
  have ac:QcD (left.set e (d+left.getD f 0))=QcD left+(if left.getD e 0 = -1 then 1 else 0):=by
   unfold QcD;rw[List.countP_set I,<- ge,QqR (show d+left.getD f 0 ≠ -1 by omega),Qr4 rfl];by_cases b:left.getD e 0 = -1
   ·rw[Qr4 b,QqO I,Qr2 Q1];rfl
   ·rw[Qr2 b,QqR b,Qr4 rfl];have:0<left.countP λx=>decide (x ≠ -1):=List.countP_pos_iff.2 ⟨_,List.getElem_mem (by omega:e<left.length),QqR (by rw[<- ge];exact b)⟩
    omega
  have hf:=hu f;have hz:=hu e;intro x;have hx:=hu x;rw[ac];have k:(left.set e (d+left.getD f 0)).getD x 0=if x=e then d+left.getD f 0 else left.getD x 0:=by
   rw[QqN,Qrk];by_cases aa:x=e
   ·subst aa;rw[Qr4 rfl,Qr4 rfl,Qr4 I];rfl
   ·rw[Qr2 (λh=>aa h.symm),Qr2 aa,<- QqN]
  rw[k];by_cases b:left.getD e 0 = -1
  ·rw[Qr4 b,show((QcD left+1:Nat):Int)=(QcD left:Int)+1 by omega,Int.mul_add,Int.mul_one];split<;>omega
  ·rw[Qr2 b,Nat.add_zero];split<;>omega
 ·rw[Qr2 h2];exact hu
theorem rlE_ub{U:Int}{e:Nat}(he:e<g.n):∀(l:Y (Int×Nat)),(∀a∈l,a∈g.out e/\a.1<=U)->∀s:Y Int×Bool,g.Lf s.1->Ub U s.1->g.Lf (l.foldl (rl1 e) s).1/\Ub U (l.foldl (rl1 e) s).1
 |[],_,s,h,hu=>⟨h,hu⟩
 |a::l,hl,s,h,hu=>rlE_ub he l (λb hb=>hl b (.tail _ hb)) _ (rl1_ok ok he h (hl a (.head _)).1).1 (rl1_ub ok he h hu (hl a (.head _)).1 (hl a (.head _)).2)
theorem rlR_ub{U:Int}(hU:∀e,∀a∈g.out e,a.1<=U):∀(l:Y Nat),(∀e∈l,e<g.n)->∀s:Y Int×Bool,g.Lf s.1->Ub U s.1->g.Lf (l.foldl g.rlE s).1/\Ub U (l.foldl g.rlE s).1
 |[],_,s,h,hu=>⟨h,hu⟩
 |e::l,hl,s,h,hu=>by
  have:=rlE_ub ok (hl e (.head _)) (g.out e) (λa ha=>⟨ha,hU e a ha⟩) s h hu;exact rlR_ub hU l (λb hb=>hl b (.tail _ hb)) (g.rlE s e) this.1 this.2
omit ok in
theorem Ub.le{U:Int}(hU:0<=U){left:Y Int}(hu:Ub U left)(e:Nat):left.getD e 0<=U*(left.length:Nat):=by
 have a:=hu e;have h2:QcD left<=left.length:=List.countP_le_length;have:=Int.mul_le_mul_of_nonneg_left (show((QcD left:Nat):Int)<=(left.length:Nat) by omega) hU;omega
end Gr
structure Sv where
 n:Nat
 dur:Nat->Int
 to:Nat->Nat
 lv:Nat->List Nat
 en:Nat->Bool
namespace Sv
variable(S:Sv)
def gr:Gr:=⟨S.n,λe=>(S.lv e).map λi=>(S.dur i,S.to i),S.en⟩
def tight(left:Y Int)(t:Int)(a:Nat):Bool:=bif left.getD (S.to a) 0 != -1 then S.dur a+left.getD (S.to a) 0 == t else false
structure Alt(arr:Nat->Bool):Prop where
 al:∀e,e<S.n->∀a∈S.lv e,arr (S.to a) = !arr e/\(arr e=false->1<=S.dur a)
 en:∀e,S.en e=true->arr e=true
structure Fin(left:List Int):Prop where
 ok:S.gr.OK
 lf:S.gr.Lf left
 eq:∀e,e<S.n->lo left e=S.gr.T e
variable{S} {left:Y Int}
theorem Fin.val(h:S.Fin left){e:Nat}(he:e<S.n){x:Int}:S.gr.T e=some x↔left.getD e 0=x/\x ≠ -1:=by
 rw[<- h.eq e he];unfold lo;split
 ·rename_i c;exact⟨λq=>(nomatch q),λ⟨a,b⟩=>absurd (a.symm.trans c) b⟩
 ·rename_i c;exact⟨λq=>by injection q with q;exact⟨q,q▸c⟩,λ⟨a,b⟩=>by rw[a]⟩
theorem Fin.lv(h:S.Fin left){e a:Nat}(ha:a∈S.lv e):0<=S.dur a/\S.to a<S.n:=h.ok.to e (S.dur a,S.to a) (QqY.2 ⟨a,ha,rfl⟩)
theorem tight_iff{t:Int}{a:Nat}:S.tight left t a=true↔left.getD (S.to a) 0 ≠ -1/\S.dur a+left.getD (S.to a) 0=t:=by
 unfold tight;cases hb:(left.getD (S.to a) 0 != -1)with
 |false=>simp at hb;simp[hb]
 |true=>simp at hb;simp[hb]
theorem Fin.next(h:S.Fin left){e:Nat}(he:e<S.n){t:Int}(ht:left.getD e 0=t)(f:0<t):S.en e=false/\∃a∈S.lv e,S.tight left t a=true:=by
 have hT:=(h.val he (x:=t)).2 ⟨ht,I⟩;constructor
 ·cases hc:S.en e with
  |false=>rfl
  |true=>
   have:=S.gr.T_end h.ok he hc;rw[hT]at this;have:t<=0:=this;omega
 ·rcases S.gr.T_or h.ok he hT with⟨_,e1⟩|⟨b,hb,y,d,h2⟩
  ·omega
  ·obtain⟨a,ha,rfl⟩:=QqY.1 hb;have c:=(h.val (h.lv ha).2).1 d;exact⟨a,ha,tight_iff.2 ⟨by rw[c.1];exact c.2,by rw[c.1];exact h2.symm⟩⟩
theorem Fin.zero(h:S.Fin left){arr:Nat->Bool}(al:S.Alt arr){e:Nat}(he:e<S.n)(ht:left.getD e 0=0):S.en e=true:=by
 have aa:∀{e:Nat},e<S.n->left.getD e 0=0->arr e=false->S.en e=true:=λ{e} he ht hr=>by
  rcases S.gr.T_or h.ok he ((h.val he (x:=0)).2 ⟨ht,I⟩)with⟨e1,_⟩|⟨b,hb,y,d,h2⟩
  ·exact e1
  ·obtain⟨a,ha,rfl⟩:=QqY.1 hb;have:=(al.al e he a ha).2 hr;have:=S.gr.T_nn h.ok (h.lv ha).2 d;have h2:0=S.dur a+y:=h2;omega
 cases hr:arr e with
 |false=>exact aa he ht hr
 |true=>
  rcases S.gr.T_or h.ok he ((h.val he (x:=0)).2 ⟨ht,I⟩)with⟨e1,_⟩|⟨b,hb,y,d,h2⟩
  ·exact e1
  ·obtain⟨a,ha,rfl⟩:=QqY.1 hb;have g:=(h.lv ha).1;have:=S.gr.T_nn h.ok (h.lv ha).2 d;have h2:0=S.dur a+y:=h2;have i:=(h.val (h.lv ha).2).1 d;have hd:=(al.al e he a ha).1;rw[hr]at hd;rcases S.gr.T_or h.ok (h.lv ha).2 d with⟨e2,_⟩|⟨c,hc,z,f,h5⟩
   ·have:=al.en _ e2;rw[hd]at this;cases this
   ·obtain⟨a',ac,rfl⟩:=QqY.1 hc;have:=(al.al _ (h.lv ha).2 a' ac).2 hd;have:=S.gr.T_nn h.ok (h.lv ac).2 f;have h5:y=S.dur a'+z:=h5;omega
def Way(S:Sv)(left:Y Int):Y Nat->Int->Y Nat->Prop
 |_,t,[]=>t=0
 |nx,t,a::p=>0<t/\a∈nx/\S.tight left t a=true/\Way S left (S.lv (S.to a)) (t-S.dur a) p
def cnt(S:Sv)(left:Y Int)(t:Int):Nat:=(List.range S.n).countP λx=>decide (left.getD x 0 ≠ -1/\left.getD x 0<t)
theorem SJ{p q:Nat->Bool}{e:Nat}(aa:∀x,p x=true->q x=true)(a:p e=false)(h2:q e=true):∀(l:Y Nat),e∈l->l.countP p<l.countP q
 |b::l,h=>by
  have hm:=List.countP_mono_left (l:=l) (p:=p) (q:=q) (λx _ hx=>aa x hx);rw[List.countP_cons,List.countP_cons];rcases Qrh.1 h with rfl | h
  ·rw[a,h2,Qr2 Q1,Qr4 rfl];omega
  ·have ih:=SJ aa a h2 l h;cases hb:p b with
   |true=>rw[aa b hb];simp only[if_true];omega
   |false=>cases q b<;>simp<;>omega
theorem Qco{t t':Int}(h:t'<=t):S.cnt left t'<=S.cnt left t:=List.countP_mono_left λx _ hx=>by
 have:=of_decide_eq_true hx;exact QqR ⟨this.1,I⟩
theorem QgL{t t':Int}(h:t'<t){e:Nat}(he:e<S.n)(ht:left.getD e 0=t')(a:t' ≠ -1):S.cnt left t'<S.cnt left t:=
 SJ (e:=e) (λx hx=>by have:=of_decide_eq_true hx;exact QqR ⟨this.1,I⟩) (QqO I) (QqR I) _ (Qra.2 he)
theorem cnt_le{t:Int}:S.cnt left t<=S.n:=by
 have:=List.countP_le_length (p:=λx=>decide (left.getD x 0 ≠ -1/\left.getD x 0<t)) (l:=List.range S.n);rwa [Qri]at this
theorem way_loop{β:Type}{r:Nat->Int->Y Nat->Y Nat->β}{K:Y Nat->β}{B:Nat}(h:S.Fin left){arr:Nat->Bool}(al:S.Alt arr)(d:∀m e j,e<S.n->left.getD e 0=0->r (m+1) (left.getD e 0) (S.lv e) j=K j)(f:∀m e j a,e<S.n->0<left.getD e 0->j.length+m<B->(S.lv e).find? (S.tight left (left.getD e 0))=some a->r (m+1) (left.getD e 0) (S.lv e) j=r m (left.getD e 0-S.dur a) (S.lv (S.to a)) (j++[a])) :
  ∀(c m e:Nat) (j:Y Nat),e<S.n->2*S.cnt left (left.getD e 0)+(if arr e then 1 else 0)<=c->c<m->j.length+m<=B->left.getD e 0 ≠ -1->∃p,Way S left (S.lv e) (left.getD e 0) p/\p.length<=c/\r m (left.getD e 0) (S.lv e) j=K (j++p)
 |c,m+1,e,j,he,hc,hm,hB,hn=>by
  by_cases hp:0<left.getD e 0
  ·obtain⟨a,ha,am⟩:=(h.next he rfl hp).2;cases hf:(S.lv e).find? (S.tight left (left.getD e 0))with
   |none=>exact absurd am (List.find?_eq_none.1 hf a ha)
   |some b=>
    rw[f m e j b he hp I hf];have hb:=Qrd hf;have ac:=List.find?_some hf;obtain⟨b1,b2⟩:=tight_iff.1 ac;obtain⟨d0,aa⟩:=h.lv hb;obtain⟨a1,a2⟩:=al.al e he b hb;have ht:left.getD e 0-S.dur b=left.getD (S.to b) 0:=I
    have ao:2*S.cnt left (left.getD (S.to b) 0)+(if arr (S.to b)then 1 else 0)<2*S.cnt left (left.getD e 0)+(if arr e then 1 else 0):=by
     rw[a1];cases ak:arr e with
     |true=>
      have:=Qco (S:=S) (left:=left) (show left.getD (S.to b) 0<=left.getD e 0 by omega);simp only[QqT,if_true,Bool.false_eq_true,if_false];omega
     |false=>
      have:=a2 ak;have:=QgL (S:=S) (left:=left) (show left.getD (S.to b) 0<left.getD e 0 by omega) aa rfl b1;simp only[Qr7,if_true,Bool.false_eq_true,if_false];omega
    cases c with
    |zero=>omega
    |succ c=>
     obtain⟨p,g,aj,hq⟩:=way_loop h al d f c m (S.to b) (j++[b]) aa I I Q3 b1;refine⟨b::p,⟨hp,hb,ac,by rw[ht];exact g⟩,Nat.succ_le_succ aj,?_⟩;rw[ht,hq,QqQ];rfl
  ·have:=h.lf.nn e he;have ai:left.getD e 0=0:=I
   exact⟨[],ai,Qro _,by rw[d m e j he ai,QqZ]⟩
end Sv
def Cx.sv(X:Cx)(per:Int)(A:LL)(tl:Y Int)(to:Int):Sv:=⟨2*X.N,λj=>Y8 tl per (A.getD j []),λj=>(tto A j).toNat,λe=>lvF A A.length e,λe=>bif ((if e % 2=0 then(1:Int)else 2) == 2)then X.s1 e == to else false⟩
theorem Q9x{A:LL}{i e j:Nat}:j∈lvF A i e↔j<i/\QaO A e j=true:=by
 unfold lvF;rw[List.mem_filter,Qra]
theorem Dy{l:Y Nat}{i j:Nat}(h:l[i]? = some j):Qi (GV l) (i:Int)=some [Ql (j:Int)]:=by
 rw[Qp];unfold GV;rw[QqX,h];rfl
theorem Mu{l:Y Nat}:(GV l).length=l.length:=by simp[GV]
namespace Cx
variable{X:Cx} {per:Int} {Ch Sy A:LL} {tl:Y Int} (g:X.Gd per Ch Sy A tl)
include g
theorem Gd.go{r:Y D}(hr:r∈A):∃kd f t mn mx w:Int,r=[Ql kd,Ql f,Ql t,Ql mn,Ql mx,Ql w]/\(kd=1/\f % 2=0/\t % 2=1/\1<=mn\/(kd=2\/kd=3)/\f % 2=1/\t % 2=0/\0<=mn\/kd≠1/\kd≠2/\kd≠3):=by
 obtain⟨H,rfl,hH⟩:=g.act;have h:=g.ok;rcases QqP.1 hr with hr | hr
 ·rcases QqP.1 hr with hr | hr
  ·rcases QqP.1 hr with hr | hr
   ·rcases QqP.1 hr with hr | hr
    ·obtain⟨i,k,hi,hk,h⟩:=Q68 hr;rcases h with rfl | ⟨c,rfl⟩
     ·exact⟨_,_,_,_,_,_,rfl,.inl ⟨rfl,I,I,run_pos h hi hk⟩⟩
     ·exact⟨_,_,_,_,_,_,rfl,.inr (.inl ⟨.inl rfl,I,I,(rd h hi hk).mn0⟩)⟩
    ·obtain⟨row,aa,rfl⟩:=QqY.1 hr;obtain⟨f,fr,t,tr,mn,mx,w,rfl,_,_,_,_,ac,_⟩:=g.ls.ch row aa;exact⟨_,_,_,mn,mx,w,rfl,.inr (.inl ⟨.inr rfl,I,I,ac.1⟩)⟩
   ·obtain⟨t,ht,rfl⟩:=QqY.1 hr;exact⟨_,_,_,_,_,_,rfl,.inr (.inr I)⟩
  ·obtain⟨row,aa,rfl⟩:=QqY.1 hr;obtain⟨o,rfl,_⟩:=g.ls.sy row aa;exact⟨_,_,_,o,o,0,rfl,.inr (.inr I)⟩
 ·obtain⟨a,b,w,rfl⟩:=hH r hr;exact⟨_,_,_,_,_,_,rfl,.inr (.inr I)⟩
theorem Gd.at{j:Nat}(hj:j<A.length):∃r,A[j]? = some r/\r∈A/\A.getD j []=r/\r[0]? = some (Ql (knd A j))/\r[1]? = some (Ql (frm A j))/\r[2]? = some (Ql (tto A j))/\(0<=frm A j/\frm A j<(2*X.N:Nat))/\(0<=tto A j/\tto A j<(2*X.N:Nat))/\(r[3]?).isSome=true/\(r[4]?).isSome=true/\(r[5]?).isSome=true:=by
 have e:=QqL hj;have hm:=QqJ e;obtain⟨kd,f,t,mn,mx,w,er,hf,ht,_⟩:=g.row hm;have ek:knd A j=kd:=by unfold knd;rw[e,er]
 have ef:frm A j=f:=by unfold frm;rw[e,er]
 have et:tto A j=t:=by unfold tto;rw[e,er]
 rw[ek,ef,et];exact⟨A[j],e,hm,by rw[QqN,e];rfl,by rw[er];rfl,by rw[er];rfl,by rw[er];rfl,hf,ht,by rw[er];rfl,by rw[er];rfl,by rw[er];rfl⟩
theorem Gd.use{e j:Nat}(hj:j∈lvF A A.length e){to:Int}:j<A.length/\frm A j=(e:Int)/\0<=(X.sv per A tl to).dur j/\(X.sv per A tl to).dur j<=66000/\(X.sv per A tl to).to j<2*X.N/\((X.sv per A tl to).to j:Int)=tto A j /\
  ((knd A j=1/\e % 2=0/\(X.sv per A tl to).to j % 2=1/\1<=(X.sv per A tl to).dur j)\/((knd A j=2\/knd A j=3)/\e % 2=1/\(X.sv per A tl to).to j % 2=0)):=by
 obtain⟨c,h2⟩:=Q9x.1 hj;have e1:=QqL c;have hm:=QqJ e1;obtain⟨kd,f,t,mn,mx,w,er,hk⟩:=g.go hm;obtain⟨r,q1,l,i,q4,q5,q6,q7,k,_⟩:=g.at c;obtain rfl:A[j]=r:=by rw[e1]at q1;injection q1
 have hd:=g.dur_rng hm;have p0:=g.p0;have ed:(X.sv per A tl to).dur j=Y8 tl per A[j]:=by
  show Y8 tl per (A.getD j [])=_;rw[i]
 have ht:((X.sv per A tl to).to j:Int)=tto A j:=Int.toNat_of_nonneg k.1;rw[er]at q4 q5 q6;have ek:kd=knd A j:=by simp only[QqF,Option.some.injEq]at q4;injection q4
 have ef:f=frm A j:=by simp only[QqK,QqF,Option.some.injEq]at q5;injection q5
 have et:t=tto A j:=by simp only[QqK,QqF,Option.some.injEq]at q6;injection q6
 have ak:mn<=Y8 tl per A[j]:=by
  rw[er];have:=Qr3 (Vx.tat tl t-Vx.tat tl f-mn) (show per≠0 by omega);show mn<=mn+_;omega
 unfold QaO at h2;rw[Bool.and_eq_true,<- ek,<- ef]at h2;obtain⟨d,h⟩:=h2;have h:f=(e:Int):=by simpa using h
 have am:kd=1\/kd=2\/kd=3:=by
  by_cases a:kd=1
  ·exact .inl a
  ·by_cases b:kd=2
   ·exact .inr (.inl b)
   ·rw[show(kd == 1)=false by simpa using a,show(kd == 2)=false by simpa using b]at d;exact .inr (.inr (by simpa using d))
 rw[<- ef,<- ek];omega
theorem Gd.grOK{to:Int}:(X.sv per A tl to).gr.OK:=⟨λe a ha=>by
 obtain⟨j,hj,rfl⟩:=QqY.1 ha;have:=g.use hj (to:=to);exact⟨this.2.2.1,this.2.2.2.2.1⟩⟩
theorem Gd.alt{to:Int}:(X.sv per A tl to).Alt λe=>decide (e % 2=1) where
 al:=λe he j hj=>by
  have:=g.use hj (to:=to);rcases this.2.2.2.2.2.2 with⟨_,a,h2,b⟩|⟨_,a,h2⟩
  ·rw[QqR h2,QqO I];exact⟨rfl,λ_=>b⟩
  ·rw[QqO I,QqR a];exact⟨rfl,λh=>nomatch h⟩
 en:=λe he=>by
  have he:(bif ((if e % 2=0 then(1:Int)else 2) == 2)then X.s1 e == to else false)=true:=he;by_cases h:e % 2=0
  ·rw[Qr4 h]at he;cases he
  ·exact QqR I
theorem Gd.endsP{to:Int}{e:Nat}(he:e<2*X.N):ZK 400 (X.evs X.L) (encI ((List.range (2*X.N)).map X.s1)) (e:Int) to (some:Bool->oP Bool)=some ((X.sv per A tl to).en e):=by
 obtain⟨i,k,c,h2,b,d⟩:=ev_of g.ok he;have e1:(encI ((List.range (2*X.N)).map X.s1))[e]? = some [Ql (X.s1 e)]:=by
  have:=KU (l:=(List.range (2*X.N)).map X.s1) (i:=e) (a:=X.s1 e) (by simp[he]);rwa [Qp]at this
 unfold ZK;rw[Qp,b,Qh,QqF,Qh,Qj,Qh,XQ I (by rw[QR];simp;omega),Qh,QqH,e1,Qh,QqF,Qh,Qj,Qh];rfl
def Q08(S:Sv)(i:Nat):Y Int:=(List.range S.n).map λx=>if x<i/\S.en x=false then -1 else 0
omit g in
theorem QbW{S:Sv}{i:Nat}(hi:i<S.n)(h:S.en i=false):(Q08 S i).set i (-1)=Q08 S (i+1):=by
 refine Qrq λx=>?_
 unfold Q08;by_cases hx:x<S.n
 ·by_cases e:i=x
  ·subst e;rw[List.getElem?_set_self Q3,QqX,Qrc hi];simp[h]
  ·rw[List.getElem?_set_ne e,QqX,QqX,Qrc hx];show some (if x<i/\S.en x=false then(-1:Int)else 0)=some (if x<i+1/\S.en x=false then(-1:Int)else 0);congr 1;by_cases h2:x<i
   ·simp[h2,show x<i+1 by omega]
   ·simp[h2,show ¬ x<i+1 by omega]
 ·rw[QqW Q3,QqW Q3]
omit g in
theorem QdI{S:Sv}{i:Nat}(h:S.en i=true):Q08 S i=Q08 S (i+1):=by
 unfold Q08;refine List.map_congr_left λx _=>?_
 by_cases e:x=i
 ·subst e;simp[h]
 ·by_cases h2:x<i
  ·simp[h2,show x<i+1 by omega]
  ·simp[h2,show ¬ x<i+1 by omega]
theorem Gd.ini{R:Type}{to:Int}{k0:Int->Bool->LL->oP R}(hN:X.N<=6):∀(c m i:Nat),i+c=2*X.N->c<m->QK 400 to ((2*X.N:Nat):Int) (encI ((List.range (2*X.N)).map X.s1)) (X.evs X.L) k0 m (i:Int) (encI (Q08 (X.sv per A tl to) i))=k0 ((2*X.N:Nat):Int) false (encI (Q08 (X.sv per A tl to) (2*X.N)))
 |0,m+1,i,hi,_=>by
  obtain rfl:i=2*X.N:=I
  rw[QK,Qz,QqG]
 |c+1,m+1,i,hi,hm=>by
  have hl:(Q08 (X.sv per A tl to) i).length=2*X.N:=by simp[Q08,sv]
  rw[QK,Qt I,QqI,g.endsP I,Qh,QI I];cases he:(X.sv per A tl to).en i with
  |true=>
   rw[QqT,QqG,QdI he];exact ini hN c m (i+1) I I
  |false=>
   rw[Qr7,QqI,XQ I (by rw[QR,hl];omega),Qh,QqH,Vn I,Qh,Qr1];show QK _ _ _ _ _ _ _ _ ((encI _).set i [Ql (-1)])=_;rw[Pk,QbW (show i<(X.sv per A tl to).n by show i<2*X.N;omega) he];exact ini hN c m (i+1) I I
theorem Gd.durAt{to:Int}{j:Nat}(hj:j<A.length):(A.map λr=>[Ql (Y8 tl per r)])[j]? = some [Ql ((X.sv per A tl to).dur j)]:=by
 rw[QqX,QqL hj];show some [Ql (Y8 tl per A[j])]=some [Ql (Y8 tl per (A.getD j []))];rw[QqN,QqL hj];rfl
omit g in
theorem Ai{w:Y Int}{i:Nat}(h:i<w.length):(encI w)[i]? = some [Ql (w.getD i 0)]:=by
 rw[Vn h,QqN,QqL h];rfl
theorem Gd.rem2{R:Type}{to:Int}{k0:Bool->Int->Bool->LL->oP R}(hN:X.N<=6){e:Nat}(he:e<2*X.N):∀(ai l:Y Nat) (m i:Nat) (s:Y Int×Bool),l.drop i=ai->i<=l.length->l.length<=400->ai.length<m->(∀j∈ai,j∈lvF A A.length e)->(X.sv per A tl to).gr.Lf s.1->Gr.Ub 66000 s.1 ->
  QB 400 (e:Int) (GV l) (l.length:Int) (A.map λr=>[Ql (Y8 tl per r)]) A k0 m s.2 (i:Int) (encI s.1) =
   k0 ((ai.map λj=>((X.sv per A tl to).dur j,(X.sv per A tl to).to j)).foldl (Gr.rl1 e) s).2 (l.length:Int) false (encI ((ai.map λj=>((X.sv per A tl to).dur j,(X.sv per A tl to).to j)).foldl (Gr.rl1 e) s).1)
 |[],l,m+1,i,s,hd,ao,hl,_,_,_,_=>by
  have:=ZX hd;obtain rfl:i=l.length:=I
  rw[QB,Qz,QqG];rfl
 |j::ai,l,m+1,i,s,hd,ao,hl,hm,hj,hf,hu=>by
  obtain⟨e1,au,ak⟩:=Yc hd;rw[Qr8]at hm;obtain⟨b,p,q,d,f,t,_⟩:=g.use (hj j (.head _)) (to:=to);obtain⟨r,q1,u,v,q4,q5,q6,q7,y,_⟩:=g.at b;have ac:s.1.length=2*X.N:=hf.len;have ub:=λx:Nat=>Gr.Ub.le Q1 hu x
  rw[ac]at ub;have z:=hf.nn e he;have aa:=hf.nn _ f;have b1:=ub e;have b2:=ub ((X.sv per A tl to).to j);have a1:inB (List.length (encI s.1)) (tto A j)=some ():=XQ I (by rw[QR,ac];omega);have a2:inB (List.length (encI s.1)) (e:Int)=some ():=XQ I (by rw[QR,ac];omega);have k:inB (List.length (A.map λr=>[Ql (Y8 tl per r)])) (j:Int)=some ():=XQ I Q3;have hst:(tto A j).toNat=(X.sv per A tl to).to j:=rfl;have n:(encI s.1)[(tto A j).toNat]? = some [Ql (s.1.getD ((X.sv per A tl to).to j) 0)]:=Ai (by rw[ac];omega);have o:(encI s.1)[e]? = some [Ql (s.1.getD e 0)]:=Ai (by rw[ac];omega);have aj:((X.sv per A tl to).dur j,(X.sv per A tl to).to j)∈(X.sv per A tl to).gr.out e:=QqY.2 ⟨j,hj j (.head _),rfl⟩;have am:=(Gr.rl1_ok g.grOK he hf aj).1;have an:=Gr.rl1_ub g.grOK he hf hu aj d;have ih:=rem2 (k0:=k0) hN he ai l m (i+1) (Gr.rl1 e s ((X.sv per A tl to).dur j,(X.sv per A tl to).to j)) au I hl I (λx hx=>hj x (.tail _ hx)) am an;rw[List.map_cons,Qrm,<- ih,QB,Qt ak,QqI,Dy e1];simp -implicitDefEqProofs only[Qh,QqF,Qj,Qp,q1,q6,a1,a2,k,n,o,QqH,g.durAt b (to:=to),QI (show i<=1000 by omega)];rw[Qo (x:=(X.sv per A tl to).dur j+s.1.getD ((X.sv per A tl to).to j) 0) I I];obtain⟨left,c⟩:=s;unfold Gr.rl1;dsimp only at *
  by_cases a:left.getD ((X.sv per A tl to).to j) 0 = -1
  ·rw[Qr4 a,show(left.getD ((X.sv per A tl to).to j) 0 == -1)=true by simpa using a,QqI]
  rw[Qr2 a,show(left.getD ((X.sv per A tl to).to j) 0 == -1)=false by simpa using a,QqG];have hb:(bif (left.getD e 0 == -1)then true else decide ((X.sv per A tl to).dur j+left.getD ((X.sv per A tl to).to j) 0<left.getD e 0))=decide (left.getD e 0 = -1\/(X.sv per A tl to).dur j+left.getD ((X.sv per A tl to).to j) 0<left.getD e 0):=by
   by_cases h2:left.getD e 0 = -1
   ·rw[show(left.getD e 0 == -1)=true by simpa using h2,QqR (Or.inl h2)];rfl
   ·rw[show(left.getD e 0 == -1)=false by simpa using h2,QqG];exact decide_eq_decide.2 ⟨.inr,λh=>h.resolve_left h2⟩
  rw[hb];by_cases h2:left.getD e 0 = -1\/(X.sv per A tl to).dur j+left.getD ((X.sv per A tl to).to j) 0<left.getD e 0
  ·rw[Qr4 h2,QqR h2,QqI,Qr1];show QB _ _ _ _ _ _ _ _ _ _ ((encI left).set e [Ql _])=_;rw[Pk]
  ·rw[Qr2 h2,QqO h2,QqG]
end Cx
namespace Cx
variable{X:Cx} {per:Int} {Ch Sy A:LL} {tl:Y Int} (g:X.Gd per Ch Sy A tl)
theorem QcM{e:Nat}(he:e<2*X.N):(X.lvs A)[e]? = some [.sl 1 (GV (lvF A A.length e))]:=by
 unfold lvs;rw[QqX,Qrc he];rfl
theorem Qa3:(X.lvs A).length=2*X.N:=by simp[lvs]
include g
theorem Gd.hU{to:Int}:∀e,∀a∈(X.sv per A tl to).gr.out e,a.1<=66000:=λe a ha=>by
 obtain⟨j,hj,rfl⟩:=QqY.1 ha;exact(g.use hj (to:=to)).2.2.2.1
theorem Gd.rem3{R:Type}{to:Int}{k0:Bool->Int->Bool->LL->oP R}(hN:X.N<=6):∀(ac:Y Nat) (m i:Nat) (s:Y Int×Bool),(List.range (2*X.N)).drop i=ac->i<=2*X.N->ac.length<m->(X.sv per A tl to).gr.Lf s.1->Gr.Ub 66000 s.1 ->
  Xf 400 ((2*X.N:Nat):Int) (X.lvs A) (A.map λr=>[Ql (Y8 tl per r)]) A k0 m s.2 (i:Int) (encI s.1) =
   k0 (ac.foldl (X.sv per A tl to).gr.rlE s).2 ((2*X.N:Nat):Int) false (encI (ac.foldl (X.sv per A tl to).gr.rlE s).1)
 |[],m+1,i,s,hd,hi,_,_,_=>by
  have:=ZX hd;rw[Qri]at this;obtain rfl:i=2*X.N:=I
  rw[Xf,Qz,QqG];rfl
 |e::ac,m+1,i,s,hd,hi,hm,hf,hu=>by
  obtain⟨e1,ai,aa⟩:=Yc hd;rw[Qri]at aa;rw[Qrc aa]at e1;obtain rfl:i=e:=by injection e1
  rw[Qr8]at hm;have hl:=Q6w A A.length i;have hA:=g.len;have h2:=Gr.rlE_ub g.grOK (show i<(X.sv per A tl to).gr.n from aa) ((X.sv per A tl to).gr.out i) (λa ha=>⟨ha,g.hU i a ha⟩) s hf hu;have ih:=rem3 (k0:=k0) hN ac m (i+1) ((X.sv per A tl to).gr.rlE s i) ai I I h2.1 h2.2;rw[Qrm,<- ih,Xf,Qt aa,QqI,XQ I (by rw[Qa3];omega),Qh,QqH,QcM aa,Qh,QqF,Qh,X2,Qh,Mu,QI I];exact g.rem2 hN aa (lvF A A.length i) (lvF A A.length i) 400 0 s rfl I I I (λj hj=>hj) hf hu
theorem Gd.remP(to:Int):∃left:Y Int,(X.sv per A tl to).Fin left/\(∀e,left.getD e 0<=792000)/\XZ 400 (X.evs X.L) A (X.lvs A) (A.map λr=>[Ql (Y8 tl per r)]) (encI ((List.range (2*X.N)).map X.s1)) to some=some (encI left):=by
 have hN:X.N<=6:=base_le g.ok;have hl:(X.evs X.L).length=2*X.N:=evs_len;have ok:=g.grOK (to:=to);have am:(Q08 (X.sv per A tl to) (2*X.N)).length=2*X.N:=by simp[Q08,sv]
 have aa:∀e,e<2*X.N->(Q08 (X.sv per A tl to) (2*X.N)).getD e 0=if (X.sv per A tl to).en e=false then -1 else 0:=λe he=>by
  unfold Q08;rw[QqN,QqX,Qrc (show e<(X.sv per A tl to).n from he)];show(if e<2*X.N/\(X.sv per A tl to).en e=false then(-1:Int)else 0)=_;simp[he]
 have ai:∀e,e<2*X.N->lo (Q08 (X.sv per A tl to) (2*X.N)) e=bif (X.sv per A tl to).en e then some 0 else none:=λe he=>by
  unfold lo;rw[aa e he];cases (X.sv per A tl to).en e<;>rfl
 have d:(X.sv per A tl to).gr.Lf (Q08 (X.sv per A tl to) (2*X.N)):=⟨am,λe he=>by
  rw[aa e he];split
  ·exact .inl rfl
  ·exact .inr (Int.le_refl 0),λe he=>by
  rw[ai e he];cases hc:(X.sv per A tl to).en e with
  |false=>cases (X.sv per A tl to).gr.T e<;>trivial
  |true=>exact(X.sv per A tl to).gr.T_end ok he hc⟩
 have f:Gr.Ub 66000 (Q08 (X.sv per A tl to) (2*X.N)):=λe=>by
  have:(Q08 (X.sv per A tl to) (2*X.N)).getD e 0<=0:=by
   by_cases he:e<2*X.N
   ·rw[aa e he];split<;>omega
   ·rw[QqN,QqW I];exact Int.le_refl 0
  omega
 have d0:∀e,e<(X.sv per A tl to).gr.n->leO (lo (Q08 (X.sv per A tl to) (2*X.N)) e) ((X.sv per A tl to).gr.D 0 e):=λe he=>by
  rw[ai e he,Gr.D];exact leO.refl _
 have ak:=Gr.rounds ok (β:=oP LL) (K:=λleft=>some (encI left)) (Q:=Gr.Ub 66000)
  (r:=λm left=>QC 400 (X.lvs A) (A.map λr=>[Ql (Y8 tl per r)]) A (λb a=>some a) (m+1) true (encI left))
  (λleft hf hu=>(Gr.rlR_ub ok (g.hU (to:=to)) _ (λe he=>Qra.1 he) (left,false) hf hu).2)
  (λm left hf hu=>by
   rw[QC,QqI];have ac:left.length=2*X.N:=hf.len;rw[QR,ac];have:=g.rem3 (to:=to) (k0:=λi (p:Int) (q:Bool) j=>QC 400 (X.lvs A) (A.map λr=>[Ql (Y8 tl per r)]) A (λb a=>some a) (m+1) i j) hN (List.range (2*X.N)) 400 0 (left,false) rfl I Q3 hf hu;refine this.trans ?_;show QC _ _ _ _ _ _ ((X.sv per A tl to).gr.rlR left).2 (encI ((X.sv per A tl to).gr.rlR left).1)=_;cases hc:((X.sv per A tl to).gr.rlR left).2 with
   |true=>rw[Qr4 rfl]
   |false=>
    rw[Qr2 (λh=>nomatch h),QC,QqG])
  (2*X.N) 399 0 (Q08 (X.sv per A tl to) (2*X.N)) (by show 0+2*X.N=2*X.N;omega) I d f d0
 obtain⟨left,c,h2,k,l⟩:=ak;have aj:left.length=2*X.N:=c.len;refine⟨left,⟨ok,c,k⟩,λe=>?_,?_⟩
 ·have:=Gr.Ub.le Q1 h2 e;rw[aj]at this;omega
 ·unfold XZ;rw[hl,Q4j,Qh,QqH,XI I,Qh,List.length_replicate];have n:List.replicate (2*X.N) [D.int .i64 (0:Int)]=encI (Q08 (X.sv per A tl to) 0):=by
   unfold Q08 encI;rw[List.map_map];refine Qrq λx=>?_
   by_cases hx:x<2*X.N
   ·rw[QqX,Qrc (show x<(X.sv per A tl to).n from hx),List.getElem?_replicate,Qr4 hx];simp[Ql]
   ·rw[QqW Q3,QqW (by simp[sv];omega)]
  rw[n];have:=g.ini (to:=to) (k0:=λ(s:Int) (t:Bool) o=>QC 400 (X.lvs A) (A.map λr=>[Ql (Y8 tl per r)]) A (λb a=>some a) 400 true o) hN (2*X.N) 400 0 I I;refine this.trans ?_;exact l
end Cx
end Go.Vx
namespace Go.Vx
variable{R:Type} (n:Nat)
def Vt(i:LL)(d:Int)(j:LL)(e:Int)(f g h c:LL)(k0:LL->Int->Int->LL->oP R)(k1:Qlh R):Qli R
|0,_=>none
|m+1,b=>bif decide (b<e)then QkA R j b λa=>Qc R (Zk n g c i a d some) λp=>bif p then Qc R (Y5 ((f.length+[[Ql a]].length)*8)) λz=>QkC R c.length a c a.toNat λs=>Qc R (Qi g a) λt=>QkQ R t λk=>QkM R h.length k h k.toNat λy=>k0 y (wJ (d-s)) a (f++[[Ql a]])else Vt i d j e f g h c k0 k1 m (wJ (b+1))else k1 b (decide (b<e))
def XL(c d e f:LL)(k0:LL->Int->Bool->LL->oP R):Nat->LL->Int->LL->oP R
|0,_,_,_=>none
|m+1,b,a,g=>bif decide (a>0)then Vt n c a b (b.length:Int) g d e f (λh i _ j=>XL c d e f k0 m h i j) (λk l=>XL c d e f k0 m b a g) n 0 else k0 b a (decide (a>0)) g
def Yf(j k l m:LL)(o:Int)(p q r s t u v a2:LL)(h i:Int)(K:Int->LL->Int->oP R):oP R:=gb true (Yb n j k l m o p q r s t u v a2 (λf=>some (.inl f)) λf g c a d e r6 b x=>some (.inr (f,g,c,a,d,e,r6,b,x))) (.inl 0) λg=>smX g (λc=>bif c !=0 then K 0 [] c else none) λa=>bif a.2.2.2.2.2.2.2.2 !=0 then K 0 [] a.2.2.2.2.2.2.2.2 else Qc R (Y3 n a.2.2.2.2.2.2.2.1 h i some) λd=>bif d !=0 then K 0 [] d else Qb R a.2.2.2.2.1 λac=>Qc R (XZ n a.2.1 a.2.2.1 a.2.2.2.1 ac a.2.2.2.2.2.2.1 i some) λe=>Qc R (YY n a.2.2.1 a.2.2.2.2.2.1 h some) λr6=>Qc R (Yv n a.2.2.1 ac e r6 some) λb=>bif b==(-1:Int)then K 0 [] 6 else XL n e a.2.2.1 a.2.2.2.1 ac (λz aa ab y=>K b y 0) n r6 b []
end Go.Vx
namespace Go.Vx
def bgF(X:Cx)(A:LL)(fr:Int)(i:Nat):Y Nat:=(List.range i).filter λj=>bif knd A j == 1 then X.s0 (frm A j).toNat == fr else false
theorem Q2T{X:Cx}{A:LL}{fr:Int}{i j:Nat}:j∈bgF X A fr i↔j<i/\knd A j=1/\X.s0 (frm A j).toNat=fr:=by
 unfold bgF;rw[List.mem_filter,Qra];cases h:(knd A j == 1)with
 |false=>simp at h;simp[h]
 |true=>simp at h;simp[h]
theorem Q5z(X:Cx)(A:LL)(fr:Int)(i:Nat):(bgF X A fr i).length<=i:=by
 unfold bgF;have:=Qrn (λj=>bif knd A j == 1 then X.s0 (frm A j).toNat == fr else false) (List.range i);rwa [Qri]at this
theorem QbO{X:Cx}{A:LL}{fr:Int}{i:Nat}:bgF X A fr (i+1)=bgF X A fr i++(if (bif knd A i == 1 then X.s0 (frm A i).toNat == fr else false)=true then[i]else[]):=by
 unfold bgF;rw[List.range_succ,List.filter_append];congr 1;rw[List.filter_cons];rfl
theorem Q58{l:Y Nat}{j:Nat}:GV l++[[.int .i64 (j:Int)]]=GV (l++[j]):=by simp[GV,Ql]
namespace Cx
variable{X:Cx} {per:Int} {Ch Sy A:LL} {tl:Y Int} (g:X.Gd per Ch Sy A tl)
include g
theorem Gd.begP{R:Type}{fr:Int}{k0:Int->Bool->LL->oP R}:∀(c m i:Nat),i+c=A.length->c<m->X9 400 fr A (A.length:Int) (encI ((List.range (2*X.N)).map X.s0)) k0 m (i:Int) (GV (bgF X A fr i))=k0 (A.length:Int) false (GV (bgF X A fr A.length))
 |0,m+1,i,hi,_=>by
  obtain rfl:i=A.length:=I
  rw[X9,Qz,QqG]
 |c+1,m+1,i,hi,hm=>by
  have hA:=g.len;have aa:i<A.length:=I
  have e:=QqL aa;have hr:=QqJ e;obtain⟨kd,f,t,mn,mx,w,er,hf,ht,ak⟩:=g.row hr;have ek:knd A i=kd:=by unfold knd;rw[e,er]
  have ef:frm A i=f:=by unfold frm;rw[e,er]
  have e1:(encI ((List.range (2*X.N)).map X.s0))[f.toNat]? = some [Ql (X.s0 f.toNat)]:=by
   have:=KU (l:=(List.range (2*X.N)).map X.s0) (i:=f.toNat) (a:=X.s0 f.toNat) (by rw[QqX,Qrc I];rfl);rwa [Qp]at this
  have hb:inB (List.length (encI ((List.range (2*X.N)).map X.s0))) f=some ():=XQ hf.1 (by rw[QR];simp;omega);have hl:=Q5z X A fr i;have ih:=begP (k0:=k0) (fr:=fr) c m (i+1) I I;rw[<- ih,X9,Qt aa,QqI,Qp,e,er,QbO,ek,ef];simp -implicitDefEqProofs only[Qh,QqF,QqK,Qj,hb,e1,QI (show i<=1000 by omega),XI (show(List.length (GV (bgF X A fr i))+List.length [[D.int .i64 (i:Int)]])*8<=100000 by rw[Mu];simp;omega),Q58];cases (bif kd == 1 then X.s0 f.toNat == fr else false)with
  |true=>rfl
  |false=>
   rw[QqG,Qr2 (λh=>nomatch h),QqZ]
theorem Gd.begQ{R:Type}{fr:Int}(K:LL->oP R):YY 400 A (encI ((List.range (2*X.N)).map X.s0)) fr K=K (GV (bgF X A fr A.length)):=
 g.begP (k0:=λb c a=>K a) A.length 400 0 I (by have:=g.len;omega)
def Psg(X:Cx)(A:LL)(l:Y Nat):Prop:=∀j∈l,∃e,j∈lvF A A.length e
theorem Gd.bgPsg{fr:Int}:Psg X A (bgF X A fr A.length):=λj hj=>by
 obtain⟨a,h2,_⟩:=Q2T.1 hj;obtain⟨r,_,_,_,_,_,_,h,_⟩:=g.at a;refine⟨(frm A j).toNat,Q9x.2 ⟨a,?_⟩⟩;unfold QaO;rw[h2];simp;omega
omit g in
theorem Qho{e:Nat}:Psg X A (lvF A A.length e):=λj hj=>⟨e,hj⟩
variable{to:Int} {left:Y Int} (hF:(X.sv per A tl to).Fin left) (hb:∀e,left.getD e 0<=792000)
include hF hb
theorem Gd.restAt{e j:Nat}(hj:j∈lvF A A.length e):Qi (encI left) (tto A j)=some [Ql (left.getD ((X.sv per A tl to).to j) 0)] /\ -1<=left.getD ((X.sv per A tl to).to j) 0/\left.getD ((X.sv per A tl to).to j) 0<=792000:=by
 have hl:left.length=2*X.N:=hF.lf.len;obtain⟨c,d,f,h,a,b,_⟩:=g.use hj (to:=to);refine⟨?_,?_,hb _⟩
 ·rw[<- b,Qp,Ai (by rw[hl];exact a)]
 ·have:=hF.lf.nn _ a;omega
theorem Gd.tightP{e j:Nat}(hj:j∈lvF A A.length e)(t:Int):Zk 400 A (A.map λr=>[Ql (Y8 tl per r)]) (encI left) (j:Int) t (some:Bool->oP Bool)=some ((X.sv per A tl to).tight left t j):=by
 obtain⟨a,c,d,f,h,i,_⟩:=g.use hj (to:=to);obtain⟨r,q1,k,l,q4,q5,q6,_⟩:=g.at a;obtain⟨b,h2,m⟩:=g.restAt hF hb hj;unfold Zk;rw[Qp,q1,Qh,q6,Qh,Qj,Qh,b,Qh,QqF,Qh,Qj,Qh,XQ I Q3,Qh,QqH,g.durAt a (to:=to),Qh,QqF,Qh,Qj,Qh,Qo (x:=(X.sv per A tl to).dur j+left.getD ((X.sv per A tl to).to j) 0) I I];rfl
theorem Gd.least1{nx:Y Nat}(hn:Psg X A nx)(aj:nx.length<=400):∀(ac:Y Nat) (m i:Nat) (best:Int),nx.drop i=ac->ac.length<m->(best = -1\/∃a∈nx,(X.sv per A tl to).tight left best a=true) ->
  ∃b,((b = -1\/∃a∈nx,(X.sv per A tl to).tight left b a=true)/\(best ≠ -1->b ≠ -1/\b<=best)/\∀j∈ac,left.getD ((X.sv per A tl to).to j) 0 ≠ -1->b ≠ -1/\b<=(X.sv per A tl to).dur j+left.getD ((X.sv per A tl to).to j) 0)/\X3 400 (encI left) (GV nx) (nx.length:Int) (A.map λr=>[Ql (Y8 tl per r)]) A (λp t u=>(some p:oP Int)) m best (i:Int)=some b
 |[],m+1,i,best,hd,hm,hv=>by
  have:=ZX hd;refine⟨best,⟨hv,λh=>⟨h,Int.le_refl _⟩,λj hj=>nomatch hj⟩,?_⟩;rw[X3,show decide ((i:Int)<(nx.length:Int))=false by simpa using this,QqG]
 |j::ac,m+1,i,best,hd,hm,hv=>by
  obtain⟨e1,an,am⟩:=Yc hd;rw[Qr8]at hm;have ak:=QqJ e1;obtain⟨e,hj⟩:=hn j ak;obtain⟨n,y,z,u4,u5,u6,_⟩:=g.use hj (to:=to);obtain⟨r,q1,q2,q3,q4,q5,q6,_⟩:=g.at n;obtain⟨q,h2,h3⟩:=g.restAt hF hb hj;have s:inB (List.length (A.map λr=>[Ql (Y8 tl per r)])) (j:Int)=some ():=XQ I Q3;rw[X3,Qt am,QqI,Dy e1];simp -implicitDefEqProofs only[Qh,QqF,Qj,Qp,q1,q6,q,s,QqH,g.durAt n (to:=to),QI (show i<=1000 by omega)];rw[Qo (x:=(X.sv per A tl to).dur j+left.getD ((X.sv per A tl to).to j) 0) I I];have ih:=λbest=>least1 hn aj ac m (i+1) best an I
  cases hc:(left.getD ((X.sv per A tl to).to j) 0 == -1)with
  |true=>
   rw[QqI];obtain⟨b,⟨d,c,f⟩,k⟩:=ih best hv;exact⟨b,⟨d,c,λx hx aa=>by
    rcases Qrh.1 hx with rfl | hx
    ·exact absurd (by simpa using hc) aa
    ·exact f x hx aa⟩,k⟩
  |false=>
   rw[QqG];have hc:left.getD ((X.sv per A tl to).to j) 0 ≠ -1:=by simpa using hc
   generalize o:(X.sv per A tl to).dur j+left.getD ((X.sv per A tl to).to j) 0=v at *
   cases hq:(bif best == -1 then true else decide (v<best))with
   |true=>
    rw[QqI];obtain⟨b,⟨d,c,f⟩,k⟩:=ih v (.inr ⟨j,ak,Sv.tight_iff.2 ⟨hc,o⟩⟩);have c:=c I;refine⟨b,⟨d,λl=>?_,λx hx aa=>?_⟩,k⟩
    ·rw[show(best == -1)=false by simpa using l,QqG]at hq;have:=of_decide_eq_true hq;omega
    ·rcases Qrh.1 hx with rfl | hx
     ·rw[o];exact c
     ·exact f x hx aa
   |false=>
    rw[QqG];have l:best ≠ -1:=λh=>by rw[h]at hq;cases hq
    rw[show(best == -1)=false by simpa using l,QqG]at hq;have:=of_decide_eq_false hq;obtain⟨b,⟨d,c,f⟩,k⟩:=ih best hv;have y5:=c l;refine⟨b,⟨d,c,λx hx aa=>?_⟩,k⟩;rcases Qrh.1 hx with rfl | hx
    ·omega
    ·exact f x hx aa
theorem Gd.best1{R:Type}{k0:LL->Int->Int->LL->oP R}{k1:Int->Bool->oP R}{nx:Y Nat}(hn:Psg X A nx)(ac:nx.length<=400){jr:Y Nat}(ao:jr.length<=1000){t:Int}(c : -1<=t)(d:t<=1000000){a:Nat}:∀(aa:Y Nat) (m i:Nat),nx.drop i=aa->aa.length<m->aa.find? ((X.sv per A tl to).tight left t)=some a ->
  Vt 400 (encI left) t (GV nx) (nx.length:Int) (GV jr) A (X.lvs A) (A.map λr=>[Ql (Y8 tl per r)]) k0 k1 m (i:Int)=k0 (GV ((X.sv per A tl to).lv ((X.sv per A tl to).to a))) (t-(X.sv per A tl to).dur a) (a:Int) (GV (jr++[a]))
 |[],m+1,i,hd,hm,hv=>nomatch hv
 |j::aa,m+1,i,hd,hm,hv=>by
  obtain⟨e1,an,ak⟩:=Yc hd;rw[Qr8]at hm;have am:=QqJ e1;obtain⟨e,hj⟩:=hn j am;obtain⟨b,l,n,o,p,q,_⟩:=g.use hj (to:=to);obtain⟨r,q1,s,u,q4,q5,q6,_⟩:=g.at b;rw[Vt,Qt ak,QqI,Dy e1,Qh,QqF,Qh,Qj,Qh,g.tightP hF hb hj,Qh];rw[List.find?_cons]at hv;cases hc:(X.sv per A tl to).tight left t j with
  |false=>
   rw[hc]at hv;rw[QqG,QI I];exact best1 hn ac ao c d aa m (i+1) an I hv
  |true=>
   rw[hc]at hv;obtain rfl:j=a:=by simpa using hv
   have f:inB (List.length (A.map λr=>[Ql (Y8 tl per r)])) (j:Int)=some ():=XQ I Q3;have h:inB (List.length (X.lvs A)) (tto A j)=some ():=XQ I (by rw[Qa3];omega);have k:(X.lvs A)[(tto A j).toNat]? = some [.sl 1 (GV (lvF A A.length (tto A j).toNat))]:=QcM I;rw[QqI];simp -implicitDefEqProofs only[Qh,QqF,Qj,Qp,q1,q6,f,h,k,X2,QqH,g.durAt b (to:=to),XI (show(List.length (GV jr)+List.length [[D.int .i64 (j:Int)]])*8<=100000 by rw[Mu];simp;omega),Q58];rw[Qo (x:=t-(X.sv per A tl to).dur j) I I];rfl
end Cx
namespace Cx
variable{X:Cx} {per:Int} {Ch Sy A:LL} {tl:Y Int} (g:X.Gd per Ch Sy A tl)
section
variable{to:Int} {left:Y Int} (hF:(X.sv per A tl to).Fin left) (hb:∀e,left.getD e 0<=792000)
include g hF hb
theorem Gd.leastP{nx:Y Nat}(hn:Psg X A nx)(ac:nx.length<400):∃b,(b = -1\/∃a∈nx,(X.sv per A tl to).tight left b a=true)/\(∀j∈nx,left.getD ((X.sv per A tl to).to j) 0 ≠ -1->b ≠ -1/\b<=(X.sv per A tl to).dur j+left.getD ((X.sv per A tl to).to j) 0)/\Yv 400 A (A.map λr=>[Ql (Y8 tl per r)]) (encI left) (GV nx) (some:Int->oP Int)=some b:=by
 unfold Yv;rw[Mu];obtain⟨b,⟨c,_,h2⟩,d⟩:=g.least1 hF hb hn I nx 400 0 (-1) rfl I (.inl rfl);exact⟨b,c,h2,d⟩
theorem Gd.best2{R:Type}{K0:LL->oP R}:∀(m e:Nat) (j:Y Nat),e<2*X.N->left.getD e 0=0->XL 400 (encI left) A (X.lvs A) (A.map λr=>[Ql (Y8 tl per r)]) (λ_ _ _ w=>K0 w) (m+1) (GV (lvF A A.length e)) (left.getD e 0) (GV j)=K0 (GV j):=λm e j he a=>by
 rw[a,XL];rfl
theorem Gd.best3{R:Type}{k0:LL->Int->Bool->LL->oP R}{nx:Y Nat}(hn:Psg X A nx)(ac:nx.length<400){m:Nat}{t:Int}{j:Y Nat}{a:Nat}(b:0<t)(c:t<=1000000)(hj:j.length<=400)(hf:nx.find? ((X.sv per A tl to).tight left t)=some a):XL 400 (encI left) A (X.lvs A) (A.map λr=>[Ql (Y8 tl per r)]) k0 (m+1) (GV nx) t (GV j)=XL 400 (encI left) A (X.lvs A) (A.map λr=>[Ql (Y8 tl per r)]) k0 m (GV (lvF A A.length ((X.sv per A tl to).to a))) (t-(X.sv per A tl to).dur a) (GV (j++[a])):=by
 rw[XL,show decide (t>0)=true from QqR b,QqI,Mu];exact g.best1 hF hb hn I I I c nx 400 0 rfl I hf
theorem Gd.best4{R:Type}{K0:LL->oP R}{nx:Y Nat}(hn:Psg X A nx)(ac:nx.length<400){t:Int}(b:0<t)(ht:∃a∈nx,(X.sv per A tl to).tight left t a=true):∃p,Sv.Way (X.sv per A tl to) left nx t p/\(p≠[]/\p.length<=40)/\XL 400 (encI left) A (X.lvs A) (A.map λr=>[Ql (Y8 tl per r)]) (λ_ _ _ w=>K0 w) 400 (GV nx) t (GV [])=K0 (GV p):=by
 have hN:X.N<=6:=base_le g.ok;have hA:=g.len;obtain⟨x,hx,aj⟩:=ht;cases hf:nx.find? ((X.sv per A tl to).tight left t)with
 |none=>exact absurd aj (List.find?_eq_none.1 hf x hx)
 |some a=>
  have hm:=Qrd hf;have ai:=List.find?_some hf;obtain⟨b1,b2⟩:=Sv.tight_iff.1 ai;obtain⟨e,ak⟩:=hn a hm;obtain⟨d,f,i,k,c,l,_⟩:=g.use ak (to:=to);have au:=hb ((X.sv per A tl to).to a);have am:=Sv.cnt_le (S:=X.sv per A tl to) (left:=left) (t:=left.getD ((X.sv per A tl to).to a) 0);have ar:(X.sv per A tl to).n=2*X.N:=rfl;obtain⟨p,hp,an,hq⟩:=Sv.way_loop hF (g.alt (to:=to)) (B:=400)
   (r:=λm t nx j=>XL 400 (encI left) A (X.lvs A) (A.map λr=>[Ql (Y8 tl per r)]) (λ_ _ _ w=>K0 w) m (GV nx) t (GV j)) (K:=λj=>K0 (GV j))
   (λm e j he h=>g.best2 hF hb m e j he h)
   (λm e j a he h hj hf=>g.best3 hF hb Qho (Nat.lt_of_le_of_lt (Q6w A A.length e) hA) h (by have:=hb e;omega) I hf)
   30 399 ((X.sv per A tl to).to a) [a] c (by split<;>omega) I Q2 b1
  refine⟨a::p,⟨b,hm,ai,?_⟩,⟨by simp,by simp;omega⟩,?_⟩
  ·rw[show t-(X.sv per A tl to).dur a=left.getD ((X.sv per A tl to).to a) 0 by omega];exact hp
  ·rw[g.best3 hF hb hn ac b I Q2 hf,show t-(X.sv per A tl to).dur a=left.getD ((X.sv per A tl to).to a) 0 by omega];exact hq
end
end Cx
end Go.Vx
namespace Go.Vx
variable{R:Type} (n:Nat)
end Go.Vx
namespace Go.Vx
namespace Cx
variable{X:Cx} {per:Int} {Ch Sy A:LL} {tl:Y Int}
section
variable(g:X.Gd per Ch Sy A tl) {a0 a1 a3 a5:LL} {b:LL} {c d f:LL} (hbd:Zs 400 a0 a1 X.G.Se a3 per a5 X.Ro X.Ls b c d f Tu4=some (per,X.evs X.L,A,0)) (hfe:XM 400 per (X.evs X.L) A (encI tl) (some:Bool->oP Bool)=some true)
structure Leg(X:Cx)(per:Int)(A:LL)(tl:List Int)(fr to:Int)(left:List Int)(b:Int):Prop where
 fin:(X.sv per A tl to).Fin left
 le:∀e,left.getD e 0<=792000
 rem:XZ 400 (X.evs X.L) A (X.lvs A) (A.map λr=>[Ql (Y8 tl per r)]) (encI ((List.range (2*X.N)).map X.s1)) to some=some (encI left)
 beg:YY 400 A (encI ((List.range (2*X.N)).map X.s0)) fr some=some (GV (bgF X A fr A.length))
 lst:Yv 400 A (A.map λr=>[Ql (Y8 tl per r)]) (encI left) (GV (bgF X A fr A.length)) (some:Int->oP Int)=some b
 lea:∀j∈bgF X A fr A.length,left.getD ((X.sv per A tl to).to j) 0 ≠ -1->b ≠ -1/\b<=(X.sv per A tl to).dur j+left.getD ((X.sv per A tl to).to j) 0
 sgn:b = -1\/0<b/\∃a∈bgF X A fr A.length,(X.sv per A tl to).tight left b a=true
include g
theorem Gd.leg(fr to:Int):∃left b,X.Leg per A tl fr to left b:=by
 obtain⟨left,c,h2,d⟩:=g.remP to;have hA:=g.len;obtain⟨b,f,h6,h5⟩:=g.leastP c h2 (g.bgPsg (fr:=fr)) (Nat.lt_of_le_of_lt (Q5z X A fr A.length) hA);refine⟨left,b,c,h2,d,g.begQ some,h5,h6,f.imp id λ⟨a,ha,ht⟩=>⟨?_,a,ha,ht⟩⟩;obtain⟨b1,b2⟩:=Sv.tight_iff.1 ht;obtain⟨e,aa⟩:=g.bgPsg a ha;obtain⟨i,j,k,l,h,m,n⟩:=g.use aa (to:=to);have hk:=(Q2T.1 ha).2.1;have:=c.lf.nn _ h;omega
include hbd hfe
theorem Gd.bestP{fr to:Int}(k:0<=fr)(l:fr<(a0.length:Nat))(t0:0<=to)(t1:to<(a0.length:Nat))(ft:fr≠to){left:Y Int}{b':Int}(h:X.Leg per A tl fr to left b') :
  b' = -1/\Yf 400 a0 a1 X.G.Se a3 per a5 X.Ro X.Ls b c d f (encI tl) fr to Tu3=some (0,[],6) \/
   0<b'/\∃p,Sv.Way (X.sv per A tl to) left (bgF X A fr A.length) b' p/\(p≠[]/\p.length<=40)/\Yf 400 a0 a1 X.G.Se a3 per a5 X.Ro X.Ls b c d f (encI tl) fr to Tu3=some (b',GV p,0):=by
 have hA:=g.len;have hc:Y3 400 (a0.length:Int) fr to (some:Int->oP Int)=some 0:=by
  unfold Y3;rw[QqO I,QqO I,QqO I,QqO I,show(fr == to)=false by simpa using ft];rfl
 have hb:∀x,Yf 400 a0 a1 X.G.Se a3 per a5 X.Ro X.Ls b c d f (encI tl) fr to Tu3=x↔(bif (b' == (-1:Int))then some ((0:Int),[],(6:Int))else XL 400 (encI left) A (X.lvs A) (A.map λr=>[Ql (Y8 tl per r)]) (λm n o a=>some (b',a,(0:Int))) 400 (GV (bgF X A fr A.length)) b' [])=x:=λx=>by
  unfold Yf;rw[g.svcP hbd hfe,Qh];dsimp only[smX];rw[bne_self_eq_false,QqG,hc,Qh,bne_self_eq_false,QqG,h.rem,Qh,h.beg,Qh,h.lst,Qh]
 rcases h.sgn with e | ⟨e,ht⟩
 ·refine .inl ⟨e,(hb _).2 ?_⟩;rw[e];rfl
 ·refine .inr ⟨e,?_⟩;obtain⟨p,i,h2,j⟩:=g.best4 h.fin h.le (K0:=λw=>some (b',w,(0:Int))) (g.bgPsg (fr:=fr)) (Nat.lt_of_le_of_lt (Q5z X A fr A.length) hA) e ht;refine⟨p,i,h2,(hb _).2 ?_⟩;rw[show(b' == (-1:Int))=false by simp;omega,QqG];exact j
end
end Cx
end Go.Vx
namespace Go.Vx
variable{R:Type} (n:Nat)
def KQ(K:Qll R):oP R:=gb true (FG n Tu12) ([],[],[],[],0,[],[],[],[],[],[],[]) λa=>Qb R a.2.2.2.2.2.2.2.2.2.2.2 λg=>Qb R a.2.2.2.2.2.2.2.2.2.2.1 λh=>Qb R a.2.2.2.2.2.2.2.2.2.1 λi=>Qb R a.2.2.2.2.2.2.2.2.1 λj=>Qb R a.2.2.2.2.2.2.2.1 λk=>Qb R a.2.2.2.2.2.2.1 λl=>Qb R a.2.2.2.2.2.1 λo=>Qb R a.2.2.2.2.1 λp=>Qb R a.2.2.2.1 λq=>gb true (Vd n a.1 a.2.1 a.2.2.1 q p o l k j i h g (some (.inl ())) λb=>some (.inr b)) (.inl ()) λc=>smX c (λf=>gb true (Yf n a.1 a.2.1 a.2.2.1 q p o l k j i h g [] 2 0 Tu3) (0,[],0) λd=>K (d.2.2==6)) λe=>gb true (Yf n a.1 a.2.1 a.2.2.1 q p o l k j i h g e 2 0 Tu3) (0,[],0) λr6=>K (r6.2.2==6)
end Go.Vx
namespace Go.Vx
namespace Cx
variable{X:Cx} {per:Int} {Ch Sy A:LL} {tl:Y Int}
section
variable(g:X.Gd per Ch Sy A tl) {a0 a1 a3 a5:LL} {b:LL} {c d f:LL} (hbd:Zs 400 a0 a1 X.G.Se a3 per a5 X.Ro X.Ls b c d f Tu4=some (per,X.evs X.L,A,0)) (hfe:XM 400 per (X.evs X.L) A (encI tl) (some:Bool->oP Bool)=some true) (hD:∀row∈f,Qgx a0.length row)
include g hbd hfe hD
end
end Cx
theorem Q6Z:KQ 410 (some:Bool->oP Bool)=some true:=by kernel_rfl
section
variable{n:Nat} {a0 a1 a2 a3:LL} {p:Int} {b1 b2 b3 b4 b5 b6 b7:LL}
theorem Q8N{q:Int}{E A:LL}{e:Int}(hb:Uu n a0 a1 a2 a3 p b1 b2 b3 b4 b5 b6 b7 Tu4=some (q,E,A,e))(h:e≠0\/∃us f,Zp n q E A 4000 (λa b=>some (.inl (a,b))) (λa b c=>some (.inr (a,b,c)))=some (.inl (us,f):(Int×Int) ⊕ (LL×Int×Int))) :
  Vd n a0 a1 a2 a3 p b1 b2 b3 b4 b5 b6 b7 (some (.inl ())) (λa=>some (.inr a))=some (.inl ():Unit ⊕ LL):=by
 unfold Vd;rw[hb,Qh];dsimp only;rcases h with h | ⟨us,f,h⟩
 ·rw[show(e != 0)=true by simpa using h,QqI]
 ·cases he:(e != 0)with
  |true=>rfl
  |false=>rw[QqG,h];rfl
theorem Qht{q:Int}{E A:LL}{v:LL}{us:Int}(hb:Uu n a0 a1 a2 a3 p b1 b2 b3 b4 b5 b6 b7 Tu4=some (q,E,A,0))(h:Zp n q E A 4000 (λa b=>some (.inl (a,b))) (λa b c=>some (.inr (a,b,c)))=some (.inr (v,us,0):(Int×Int) ⊕ (LL×Int×Int))) :
  Vd n a0 a1 a2 a3 p b1 b2 b3 b4 b5 b6 b7 (some (.inl ())) (λa=>some (.inr a))=some (.inr v:Unit ⊕ LL):=by
 unfold Vd;rw[hb,Qh];dsimp only;rw[bne_self_eq_false,QqG,h];rfl
end
theorem QdO{per:Int}{E A:LL}(p0:2<=per)(p1:per<=300)(hE:E.length<=48)(aa:A.length<=512)(aj:0<E.length)(hr:∀r∈A,R6 r)(hA:A.length<400):XM 400 per E A [] (some:Bool->oP Bool)=some false:=by
 have hg:=(Qe9 p0 p1 hE aa hr hA (tl:=[])).1;have hb:Q3p per E A []=false:=by
  unfold Q3p;rw[show(((([]:Y Int).length:Nat):Int) != (E.length:Int))=true by simp;omega];cases A.all (chk per E.length)<;>rfl
 rw[hb]at hg;unfold XM Gj;rw[show([]:LL)=encI []from rfl,hg];rfl
theorem Qjz{n:Nat}{a0 a1 a2 a3:LL}{p:Int}{b1 b2 b3 b4 b5 b6 b7:LL}{q:Int}{E A:LL}{e:Int}(hb:Zs n a0 a1 a2 a3 p b1 b2 b3 b4 b5 b6 b7 Tu4=some (q,E,A,e))(h:e≠0\/XM n q E A [] (some:Bool->oP Bool)=some false) :
  ∃e:Int,e≠0/\∀(R:Type) (KA:Int->oP R) KB,Yb n a0 a1 a2 a3 p b1 b2 b3 b4 b5 b6 b7 [] KA KB=KA e:=by
 by_cases he:e=0
 ·subst he;refine⟨1,by decide,λR KA KB=>?_⟩;unfold Yb;rw[hb,Qh,bne_self_eq_false,QqG,h.resolve_left (λh=>h rfl),Qh];rfl
 ·refine⟨e,he,λR KA KB=>?_⟩;unfold Yb;rw[hb,Qh,show(e != 0)=true by simpa using he,QqI]
theorem Qii{l:Y Int}(hl:l.length<=9223372036854775807):∃(X:Cx) (per:Int) (Ch Sy De:LL),X.OK/\(∀row∈De,Qgx X.G.St.length row)/\De.length<=2/\2<=X.G.St.length/\X.G.St.length<=3 /\
  Ss 400 (encI l) Tu12=some (X.G.St,X.G.Pt,X.G.Se,X.G.Li,per,X.skR,X.Ro,X.Ls,Ch,X.T.map tuR,Sy,De) /\
  (Vd 400 X.G.St X.G.Pt X.G.Se X.G.Li per X.skR X.Ro X.Ls Ch (X.T.map tuR) Sy De (some (.inl ())) (λa=>some (.inr a))=some (.inl ():Unit ⊕ LL)/\(∃e:Int,e≠0/\∀(R:Type) (KA:Int->oP R) KB,Yb 400 X.G.St X.G.Pt X.G.Se X.G.Li per X.skR X.Ro X.Ls Ch (X.T.map tuR) Sy De [] KA KB=KA e)/\(∃v,Uu 400 X.G.St X.G.Pt X.G.Se X.G.Li per X.skR X.Ro X.Ls Ch (X.T.map tuR) Sy De Tu4=some v) \/
   ∃(A:LL) (tl:Y Int),Vd 400 X.G.St X.G.Pt X.G.Se X.G.Li per X.skR X.Ro X.Ls Ch (X.T.map tuR) Sy De (some (.inl ())) (λa=>some (.inr a))=some (.inr (encI tl):Unit ⊕ LL)/\tl≠[]/\X.Gd per Ch Sy A tl /\
    Zs 400 X.G.St X.G.Pt X.G.Se X.G.Li per X.skR X.Ro X.Ls Ch (X.T.map tuR) Sy De Tu4=some (per,X.evs X.L,A,0) /\
    Uu 400 X.G.St X.G.Pt X.G.Se X.G.Li per X.skR X.Ro X.Ls Ch (X.T.map tuR) Sy De Tu4=some (per,X.evs X.L,A,0) /\
    XM 400 per (X.evs X.L) A (encI tl) (some:Bool->oP Bool)=some true/\G4 400 per (X.evs X.L) A (encI tl) (some:Bool->oP Bool)=some true/\Fs per tl A):=by
 have hp:Ss 400 (encI l) Tu12∈(λr=>∃(G:Geo) (per:Int) (Sk Ro Ls Ch Tu Sy De:LL),PlanR G per Sk Ro Ls Ch Tu Sy De/\r=(G.St,G.Pt,G.Se,G.Li,per,Sk,Ro,Ls,Ch,Tu,Sy,De)):=QiR hl λG per Sk Ro Ls Ch Tu Sy De h=>okI ⟨G,per,Sk,Ro,Ls,Ch,Tu,Sy,De,h,rfl⟩
 obtain⟨_,hp,G,per,Sk,Ro,Ls,Ch,Tu,Sy,De,hR,rfl⟩:=hp;obtain⟨X,h,rfl,rfl,rfl,rfl,rfl⟩:=hR.cx;have aj:=hR.lsOK;have p0:2<=per:=by have:=hR.p0;omega
 have p1:=hR.p1;have hc:Je 400 X.G.St X.G.Pt X.G.Se X.G.Li per X.skR X.Ro X.Ls Ch (X.T.map tuR) Sy De (some:Int->oP Int)=some 0:=QdP hR some;have x:We 400 X.G.St X.G.Pt X.G.Se X.G.Li per X.skR X.Ro X.Ls Ch (X.T.map tuR) Sy De (some:Int->oP Int)=some 0:=QiA hR;have hN:X.N<=6:=Cx.base_le h;have am:=Cx.buildP h aj p0 p1 hc;have aa:=Cx.buildR h aj p0 p1 x;have hst:=hR.ok.st;have y:=hR.ok.hN;refine⟨X,per,Ch,Sy,De,h,by rw[hst];exact hR.de,hR.del,I,I,hp,?_⟩;cases ev:X.netV per X.jns Ch Sy with
 |mk q r=>
 obtain⟨E,A,e⟩:=r;rw[ev]at am aa;by_cases he:e=0
 rotate_left
 ·exact .inl ⟨Q8N aa (.inl he),Qjz am (.inl he),_,aa⟩
 subst he;unfold Cx.netV at ev;cases ha:X.aloneJ per X.jns with
 |false=>
  rw[ha]at ev;cases ev
 |true=>
  rw[ha,QqI]at ev;cases eh:X.hdws per X.jns X.N 0 with
  |none=>
   rw[eh]at ev;cases ev
  |some H=>
   rw[eh]at ev;cases ev;have hH:=Cx.hdws_rows eh;have a6:=Cx.planned_len h aj;have a5:=Cx.hdws_len h p0 p1 I eh;have hA:(X.planned Ch Sy++H).length<400:=by rw[Qr5];omega
   have ai:(X.evs X.L).length=2*X.N:=Cx.evs_len;have hE:(X.evs X.L).length<=48:=I
   have f:∀r∈X.planned Ch Sy++H,R6 r:=λr hr=>Cx.act_r6 h aj hH hr
   have a7:1<=X.N:=by
    have l0:=h.l0;have hn:=(Cx.line h (i:=0) I).2.1;have hb:=So (nr:=X.nr) (i:=0) (j:=X.L) (show 0<X.L by unfold Cx.L;omega);show 1<=base X.nr X.L;omega
   have ar:=Qjz am (.inr (QdO p0 p1 hE I I f hA));have an:=Qd2 p0 p1 hE I f hA;cases ac:(X.planned Ch Sy++H).all (chk per (X.evs X.L).length)with
   |false=>
    rw[ac]at an;exact .inl ⟨Q8N aa (.inr (QfM an)),ar,_,aa⟩
   |true=>
    rw[ac]at an;have ak:=Qrl.1 ac;rcases Qi0 p0 p1 hE hA f ak rfl an with hf | ⟨v,us,hf,hT,hF⟩
    ·exact .inl ⟨Q8N aa (.inr hf),ar,_,aa⟩
    ·refine .inr ⟨_,v,Qht aa hf,?_,?_,am,aa,?_⟩
     ·intro hv;have u:=hT.1;rw[ai,hv]at u;have u:0=2*X.N:=u;omega
     ·exact⟨h,aj,p0,p1,⟨H,rfl,hH⟩,hA,by rw[hT.1,ai],hT.2,λr hr=>by have:=ak r hr;rw[ai]at this;exact this⟩
     ·have hg:=Qe9 p0 p1 hE I f hA (tl:=v);rw[QbC ac hT]at hg;have g:X.Gd per Ch Sy (X.planned Ch Sy++H) v:=⟨h,aj,p0,p1,⟨H,rfl,hH⟩,hA,by rw[hT.1,ai],hT.2,λr hr=>by have:=ak r hr;rw[ai]at this;exact this⟩;exact⟨g.feas ai (hF.fs' f ak) hg.1,hg.2,hF.fs' f ak⟩
theorem Q9V{A B C:Type}(a:A)(f:A->C)(g:B->C):smX (.inl a) f g=f a:=rfl
theorem Q8K{A B C:Type}(b:B)(f:A->C)(g:B->C):smX (.inr b) f g=g b:=rfl
namespace Cx
variable{X:Cx} {per:Int} {Ch Sy A:LL} {tl:Y Int}
theorem Gd.bestEq(g:X.Gd per Ch Sy A tl){a0 a1 a3 i:LL}{b:LL}{c d f:LL}(ac:Zs 400 a0 a1 X.G.Se a3 per i X.Ro X.Ls b c d f Tu4=some (per,X.evs X.L,A,0))(aa:XM 400 per (X.evs X.L) A (encI tl) (some:Bool->oP Bool)=some true){fr:Int}(k:0<=fr)(l:fr<(a0.length:Nat)) :
  Yf 400 a0 a1 X.G.Se a3 per i X.Ro X.Ls b c d f (encI tl) fr fr Tu3=some (0,[],4):=by
 have hc:Y3 400 (a0.length:Int) fr fr (some:Int->oP Int)=some 4:=by
  unfold Y3;rw[QqO I,QqO I,beq_self_eq_true];rfl
 unfold Yf;rw[g.svcP ac aa,Qh,Q8K];dsimp only;rw[bne_self_eq_false,QqG,hc,Qh];rfl
end Cx
end Go.Vx
namespace Go.Vx
variable{R:Type} (n:Nat)
def WX(d:LL)(j l:Int)(o f:LL)(k0:oP R)(k1:Int->Int->Int->Bool->oP R):Nat->Int->Int->Int->oP R
|0,_,_,_=>none
|m+1,p,b,a=>bif decide (a<j)then QkA R d a λg=>Qa R (decide (g<0)) λao=>Ql2 R d a (!ao) λv=>bif Q8 ao (decide (v>=(f.length:Int)))then k0 else QkA R d a λz=>Qky R f z λc h aa ab=>Ql9 R c (Qd R (decide (a>0)) (pIw aa) λe=>Qa R (Q9 (decide (a>0)) (e !=b)) λam=>Qd R (!am) (pIw h) λi=>Qd R (!am&&i !=1) (pIw h) λk=>Qd R (!am&&Q9 (i !=1) (k !=2)) (pIw h) λq=>Qa R (Q8 am (Q9 (Q9 (i !=1) (k !=2)) (q !=3))) λan=>Qd R (!an&&a==0) (pIw h) λac=>bif Q8 an (Q9 (a==0) (ac !=1))then k0 else QkA R d a λag=>Qc R (Jq n l o f [] ag some) λah=>Qc R (pIw ab) λai=>WX d j l o f k0 k1 m (wJ (p+ah)) ai (wJ (a+1)))else k1 p b a (decide (a<j))
def QN(l d:LL)(j o:Int)(p f:LL)(k0:oP R)(k1:Int->Int->Int->Bool->oP R):Nat->Int->Int->Int->oP R
|0,_,_,_=>none
|m+1,q,b,a=>bif decide (a<j)then QkA R d a λg=>Qa R (decide (g<0)) λap=>Ql2 R d a (!ap) λx=>bif Q8 ap (decide (x>=(f.length:Int)))then k0 else QkA R d a λaa=>Qky R f aa λc h ab ac=>Ql9 R c (Qd R (decide (a>0)) (pIw ab) λe=>Qa R (Q9 (decide (a>0)) (e !=b)) λan=>Qd R (!an) (pIw h) λi=>Qd R (!an&&i !=1) (pIw h) λk=>Qd R (!an&&Q9 (i !=1) (k !=2)) (pIw h) λr=>Qa R (Q8 an (Q9 (Q9 (i !=1) (k !=2)) (r !=3))) λao=>Qd R (!ao&&a==0) (pIw h) λad=>bif Q8 ao (Q9 (a==0) (ad !=1))then k0 else QkA R d a λah=>Qc R (Jq n o p f l ah some) λai=>Qc R (pIw ac) λaj=>QN l d j o p f k0 k1 m (wJ (q+ai)) aj (wJ (a+1)))else k1 q b a (decide (a<j))
def law21_JourneysAreChains(a0:LL)(a1 a2:Int)(K:Qll R):oP R:=gb true (Ss n a0 Tu12) ([],[],[],[],0,[],[],[],[],[],[],[]) λa=>Qb R a.2.2.2.2.2.2.2.2.2.2.2 λdr=>Qb R a.2.2.2.2.2.2.2.2.2.2.1 λds=>Qb R a.2.2.2.2.2.2.2.2.2.1 λdt=>Qb R a.2.2.2.2.2.2.2.2.1 λdu=>Qb R a.2.2.2.2.2.2.2.1 λdw=>Qb R a.2.2.2.2.2.2.1 λdx=>Qb R a.2.2.2.2.2.1 λdy=>Qb R a.2.2.2.2.1 λdz=>Qb R a.2.2.1 λea=>Qb R a.2.2.2.1 λee=>gb true (Vd n a.1 a.2.1 ea ee dz dy dx dw du dt ds dr (some (.inl ())) λc=>some (.inr c)) (.inl ()) λj=>Qb R (a.1.length:Int) λeb=>smX j (λr=>Qc R (Hp n a1 eb some) λh=>Qc R (Hp n a2 eb some) λs=>gb true (Yf n a.1 a.2.1 ea ee dz dy dx dw du dt ds dr [] h s Tu3) (0,[],0) λr6=>Qb R (r6.2.1.length:Int) λec=>bif Q8 (Q8 true (h==s)) (r6.2.2 !=0)then Qc R (KQ 410 some) λt=>K (Q9 (Q9 t (r6.2.2 !=0)) (ec==0))else gb true (Uu n a.1 a.2.1 ea ee dz dy dx dw du dt ds dr Tu4) (0,[],[],0) λm=>WX n r6.2.1 ec m.1 m.2.1 m.2.2.1 (K false) (λd o dd de=>Qa R (decide (o<0)) λdq=>Ql2 R r6.2.1 (wJ (ec-1)) (!dq) λal=>Ql2 R m.2.2.1 al (!dq) λao=>bif Q8 dq (ao !=1)then K false else QkA R r6.2.1 0 λar=>QkG R m.2.2.1 ar λaw=>QkF R m.2.1 aw λu ax=>Qc R u[2]? λay=>QkF R m.2.1 o λv az=>Qc R v[2]? λba=>Qc R (KQ 410 some) λe=>Qa R (Q9 e (d==r6.1)) λag=>QkE R ax ag ay λbb bc=>Qd R ag (Xj n dz dy dx dw du dt ds dr bb bc Tu2) λab=>Qd R ag (pSl 2 ab.1) λbd=>Qd R ag (pIw ab.2) λbe=>Qd R ag (VE n bd be some) λbg=>Ql5 R ea bg ag λk=>Qa R (Q9 ag (k==h)) λdn=>QkE R az dn ba λbj bk=>Qd R dn (Xj n dz dy dx dw du dt ds dr bj bk Tu2) λac=>Qd R dn (pSl 2 ac.1) λbl=>Qd R dn (pIw ac.2) λbm=>Qd R dn (Jt n bl bm some) λbn=>Ql5 R ea bn dn λbq=>K (Q9 dn (bq==s))) n 0 (-1:Int) 0) λx=>Qc R (Hp n a1 eb some) λi=>Qc R (Hp n a2 eb some) λy=>gb true (Yf n a.1 a.2.1 ea ee dz dy dx dw du dt ds dr x i y Tu3) (0,[],0) λb=>Qc R (neL x) λdh=>Qb R (b.2.1.length:Int) λed=>bif Q8 (Q8 false (i==y)) (b.2.2 !=0)then Qc R (KQ 410 some) λbr=>K (Q9 (Q9 br (b.2.2 !=0)) (ed==0))else gb true (Uu n a.1 a.2.1 ea ee dz dy dx dw du dt ds dr Tu4) (0,[],[],0) λq=>QN n x b.2.1 ed q.1 q.2.1 q.2.2.1 (K false) (λf p di dj=>Qa R (decide (p<0)) λdp=>Ql2 R b.2.1 (wJ (ed-1)) (!dp) λbv=>Ql2 R q.2.2.1 bv (!dp) λcb=>bif Q8 dp (cb !=1)then K false else QkA R b.2.1 0 λcf=>QkG R q.2.2.1 cf λci=>QkF R q.2.1 ci λz cj=>Qc R z[2]? λck=>QkF R q.2.1 p λaa cm=>Qc R aa[2]? λcn=>Qc R (KQ 410 some) λg=>Qa R (Q9 g (f==b.1)) λah=>QkE R cj ah ck λco cp=>Qd R ah (Xj n dz dy dx dw du dt ds dr co cp Tu2) λad=>Qd R ah (pSl 2 ad.1) λcq=>Qd R ah (pIw ad.2) λcr=>Qd R ah (VE n cq cr some) λcs=>Ql5 R ea cs ah λl=>Qa R (Q9 ah (l==i)) λai=>QkE R cm ai cn λcv cw=>Qd R ai (Xj n dz dy dx dw du dt ds dr cv cw Tu2) λae=>Qd R ai (pSl 2 ae.1) λcx=>Qd R ai (pIw ae.2) λcy=>Qd R ai (Jt n cx cy some) λcz=>Ql5 R ea cz ai λdc=>K (Q9 ai (dc==y))) n 0 (-1:Int) 0
end Go.Vx
namespace Go.Vx
namespace Cx
variable{X:Cx} {per:Int} {Ch Sy A:LL} {tl:Y Int}
theorem rtP(h:X.OK){e l k:Nat}(b:l<X.L)(h2:k<X.nr l)(a:∃x,(X.evs X.L)[e]? = some [x,Ql l,Ql k]){p:Int}{q1 q4 q5 q6 q7:LL} :
  Xj 400 p q1 X.Ro X.Ls q4 q5 q6 q7 (l:Int) (k:Int) Tu2=some (.sl 2 (X.st l k),.int .i64 0) /\
  (∃(x:Int) (r:Y D),VE 400 (X.st l k) 0 some=some x/\Qi X.G.Se x=some r/\r[4]? = some (.int .i64 (X.s0 e))) /\
  ∃(x:Int) (r:Y D),Jt 400 (X.st l k) 0 some=some x/\Qi X.G.Se x=some r/\r[4]? = some (.int .i64 (X.s1 e)):=by
 obtain⟨ev,a⟩:=a;have hl:=(line h b).1;have hr:=rd h b h2;have j:=hr.rt.l2;have m:=hr.rt.l24;have aa:X.stE e=X.st l k:=by unfold stE;rw[a];simp only[Ql,QqH]
 obtain⟨x,r,a1,a2,c⟩:=Mt (hr.rt.st ((X.st l k).getD 0 []) (by rw[QqN,QqL I];exact List.getElem_mem _));obtain⟨y,q,b1,b2,d⟩:=Mt (hr.rt.st ((X.st l k).getD ((X.st l k).length-1) []) (by rw[QqN,QqL I];exact List.getElem_mem _));have i:X.s0 e=DP X.G.Se ((X.st l k).getD 0 []):=by unfold s0;rw[aa]
 have e1:X.s1 e=DP X.G.Se ((X.st l k).getD ((X.st l k).length-1) []):=by unfold s1;rw[aa]
 rw[<- i]at c;rw[<- e1]at d;have c0:Qi (X.st l k) 0=some ((X.st l k).getD 0 []):=by
  rw[show(0:Int)=((0:Nat):Int)from rfl,Qp,QqN,QqL I];rfl
 have c1:Qi (X.st l k) (wJ (wJ (((X.st l k).length:Int)-0)-1))=some ((X.st l k).getD ((X.st l k).length-1) []):=by
  rw[Qo (x:=((X.st l k).length:Int)-0) I I,Qo (x:=((X.st l k).length:Int)-0-1) I I,show((X.st l k).length:Int)-0-1=(((X.st l k).length-1:Nat):Int) by omega,Qp,QqN,QqL I];rfl
 have ac:Qi X.Ls (l:Int)=some [D.str (nmN l),Ql 0,Ql (X.w l),D.sl 4 (KZ X.Ls l)]:=by rw[Qp];exact hl
 have ai:Qi (KZ X.Ls l) (k:Int)=some [Ql (rF X.Ls l k 0),Ql (X.ex l k),Ql (X.mn l k),Ql (X.mx l k)]:=by rw[Qp];exact hr.row
 refine⟨?_,⟨x,r,?_,a2,c⟩,y,q,?_,b2,d⟩
 ·unfold Xj;simp -implicitDefEqProofs only[Qh,QqF,QqK,Qj,X2,ac,ai,hr.ro]
 ·unfold VE;rw[c0,Qh,a1,Qh,Qj,Qh]
 ·unfold Jt;rw[c1,Qh,b1,Qh,Qj,Qh]
section
variable(g:X.Gd per Ch Sy A tl)
include g
theorem Gd.durP(hg:G4 400 per (X.evs X.L) A (encI tl) (some:Bool->oP Bool)=some true){j:Nat}(hj:j<A.length):Jq 400 per (X.evs X.L) A (encI tl) (j:Int) some=some (Y8 tl per (A.getD j [])):=by
 have hA:=g.len;have e:=QqL hj;obtain⟨kd,f,t,mn,mx,w,er,hf,ht,am⟩:=g.row (QqJ e);have tf:=g.tat hf.1 hf.2;have tt:=g.tat ht.1 ht.2;have p0:=g.p0;have p1:=g.p1;have a:=Qr3 (Vx.tat tl t-Vx.tat tl f-mn) (show per≠0 by omega);have b:=Qr0 (Vx.tat tl t-Vx.tat tl f-mn) (show 0<per by omega);have aa:JN 400 (j:Int) 0 (wJ ((A.length:Int)-1)) (some:Bool->oP Bool)=some true:=by
  unfold JN;rw[Qo (x:=(A.length:Int)-1) I I,QqR I,QqR I];rfl
 have ac:VZ 400 per (encI tl) f t mn (some:Int->oP Int)=some (Y8 tl per [Ql kd,Ql f,Ql t,Ql mn,Ql mx,Ql w]):=by
  unfold VZ;simp -implicitDefEqProofs only[Qh,QqF,QqK,Qj,tf.1,tt.1,Qo (x:=Vx.tat tl t-Vx.tat tl f) I I,Qo (x:=Vx.tat tl t-Vx.tat tl f-mn) I I,Qhv (n:=400) (t:=per) (x:=Vx.tat tl t-Vx.tat tl f-mn) I I I I,Qo (x:=mn+(Vx.tat tl t-Vx.tat tl f-mn) % per) I I];rfl
 unfold Jq;rw[hg,Qh,aa,Qh];rw[Qp,QqN,e,er];simp -implicitDefEqProofs only[Qh,QqF,QqK,Qj,ac,QqT,QqG,Option.getD_some]
theorem Gd.chn(hg:G4 400 per (X.evs X.L) A (encI tl) (some:Bool->oP Bool)=some true){to b:Int}{left:Y Int}(hF:(X.sv per A tl to).Fin left)(n:b<=1000000){p:Y Nat}(ar:p.length<=1000){k0:oP Bool}{k1:Int->Int->Int->Bool->oP Bool}:∀(q:Y Nat) (i m:Nat) (s t at_:Int) (nx:Y Nat),p.drop i=q->i<=p.length->q.length<m->Psg X A nx ->
  (i=0/\(∀j∈nx,knd A j=1)\/0<i/\∀j∈nx,frm A j=at_)->Sv.Way (X.sv per A tl to) left nx t q->0<=s->s+t=b ->
   ∃at',(q=[]->at'=at_)/\(∀z,q.getLast? = some z->at'=tto A z/\knd A z=1/\X.s1 (tto A z).toNat=to)/\QN 400 (encI tl) (GV p) (p.length:Int) per (X.evs X.L) A k0 k1 m s at_ (i:Int)=k1 b at' (p.length:Int) false
 |[],i,m+1,s,t,at_,nx,hd,aw,hm,hn,hx,hw,hs,hst=>by
  have:=ZX hd;obtain rfl:i=p.length:=I
  have hw:t=0:=hw;refine⟨at_,λ_=>rfl,(λz hz=>nomatch hz),?_⟩;rw[QN,Qz,QqG,show s=b by omega]
 |j::q,i,m+1,s,t,at_,nx,hd,aw,hm,hn,hx,hw,hs,hst=>by
  obtain⟨e1,an,am⟩:=Yc hd;rw[Qr8]at hm;obtain⟨y,w2,w3,d⟩:=hw;obtain⟨y1,y2⟩:=Sv.tight_iff.1 w3;obtain⟨ev,hj⟩:=hn j w2;obtain⟨k,u2,u3,u4,l,o,u7⟩:=g.use hj (to:=to);have a9:=hF.lf.nn _ l;have hA:=g.len;have e:=QqL k;obtain⟨kd,f,t',mn,mx,w,er,hf,ht,a6⟩:=g.row (QqJ e);have ek:knd A j=kd:=by unfold knd;rw[e,er]
  have ef:frm A j=f:=by unfold frm;rw[e,er]
  have et:tto A j=t':=by unfold tto;rw[e,er]
  have ed:(X.sv per A tl to).dur j=Y8 tl per (A.getD j []):=rfl;have hk:kd=1\/kd=2\/kd=3:=I
  have c1:(bif decide ((i:Int)>0)then f != at_ else false)=false:=by
   rcases hx with⟨a,_⟩|⟨a,c⟩
   ·rw[QqO I];rfl
   ·have:=c j w2;rw[ef]at this;rw[this,bne_self_eq_false];cases decide ((i:Int)>0)<;>rfl
  have r:(bif (bif (kd != (1:Int))then(kd != (2:Int))else false)then(kd != (3:Int))else false)=false:=by
   rcases hk with rfl | rfl | rfl<;>rfl
  have c3:(bif ((i:Int) == (0:Int))then(kd != (1:Int))else false)=false:=by
   rcases hx with⟨a,c⟩|⟨a,_⟩
   ·have:=c j w2;rw[ek]at this;rw[this,bne_self_eq_false];cases ((i:Int) == 0)<;>rfl
   ·rw[show((i:Int) == 0)=false by simp;omega];rfl
  have ax:∀x∈lvF A A.length ((X.sv per A tl to).to j),frm A x=t':=λx hx=>by
   have:=(g.use hx (to:=to)).2.1;rw[this,o,et]
  obtain⟨at',a,c,h2⟩:=chn hg hF n ar (k0:=k0) (k1:=k1) q (i+1) m (s+(X.sv per A tl to).dur j) (t-(X.sv per A tl to).dur j) t' (lvF A A.length ((X.sv per A tl to).to j)) an I I Qho (.inr ⟨I,ax⟩) d I I;have au:QN 400 (encI tl) (GV p) (p.length:Int) per (X.evs X.L) A k0 k1 (m+1) s at_ (i:Int)=QN 400 (encI tl) (GV p) (p.length:Int) per (X.evs X.L) A k0 k1 m (s+(X.sv per A tl to).dur j) t' ((i+1:Nat):Int):=by
   rw[QN,Qt am,QqI,Dy e1];simp -implicitDefEqProofs only[Qh,QqF,QqK,Qj,Qp,e,er,g.durP hg k,QI (show i<=1000 by omega),Q5 ((j:Int)<0),Q5 ((j:Int)>=(A.length:Int)),c1,r,c3,QqG];rw[<- ed,Qo (x:=s+(X.sv per A tl to).dur j) I I]
  rw[au,h2];refine⟨at',(λh=>nomatch h),λz hz=>?_,rfl⟩;cases q with
  |cons x q=>exact c z (by rw[List.getLast?_cons_cons]at hz;exact hz)
  |nil=>
   obtain rfl:j=z:=by simpa using hz
   have ah:t-(X.sv per A tl to).dur j=0:=d;have u:left.getD ((X.sv per A tl to).to j) 0=0:=I
   have aa:=hF.zero (g.alt (to:=to)) l u;have ay:=of_decide_eq_true ((g.alt (to:=to)).en _ aa);have aa:(bif ((if (X.sv per A tl to).to j % 2=0 then(1:Int)else 2) == 2)then X.s1 ((X.sv per A tl to).to j) == to else false)=true:=aa;rw[Qr2 I]at aa;have v:X.s1 ((X.sv per A tl to).to j)=to:=by simpa using aa
   have hat:at'=t':=a rfl;exact⟨by rw[hat,et],I,v⟩
end
end Cx
theorem chainsA{l:Y Int}(hl:l.length<=9223372036854775807)(c d:Int):law21_JourneysAreChains 400 (encI l) c d some=some true:=by
 obtain⟨X,per,Ch,Sy,De,h,hD,aq,ar,au,hp,ht⟩:=Qii hl;have pf:=SI c (show(0:Int)<(X.G.St.length:Int) by omega);have pt:=SI d (show(0:Int)<(X.G.St.length:Int) by omega);have ak:=Qeg 400 c (show(0:Int)<(X.G.St.length:Int) by omega) I (some:Int->oP Int);have am:=Qeg 400 d (show(0:Int)<(X.G.St.length:Int) by omega) I (some:Int->oP Int);generalize pick c (X.G.St.length:Int)=fr at *
 generalize pick d (X.G.St.length:Int)=to at *
 unfold law21_JourneysAreChains;rw[hp,Qh];dsimp only;rcases ht with⟨ht,⟨e,he,hn⟩,_⟩|⟨A,tl,ht,aw,g,an,ay,hf,hg,_⟩
 ·rw[ht,Qh,Q9V,ak,Qh,am,Qh];have hb:Yf 400 X.G.St X.G.Pt X.G.Se X.G.Li per X.skR X.Ro X.Ls Ch (X.T.map tuR) Sy De [] fr to Tu3=some (0,[],e):=by
   unfold Yf;rw[hn,Qh,Q9V,show(e != 0)=true by simpa using he,QqI]
  rw[hb,Qh];dsimp only;rw[QqI,QqI,QqI,Q6Z,Qh,QqI,show(e != 0)=true by simpa using he,QqI];rfl
 ·rw[ht,Qh];obtain⟨x,xs,rfl⟩:∃x xs,tl=x::xs:=by
   cases tl with
   |nil=>exact absurd rfl aw
   |cons x xs=>exact⟨x,xs,rfl⟩
  rw[Q8K,ak,Qh,am,Qh];by_cases aa:fr=to
  ·subst aa;rw[g.bestEq an hf pf.1 pf.2,Qh,show neL (encI (x::xs))=some ()from rfl,Qh,QqG,beq_self_eq_true,QqI,QqI,Q6Z,Qh];rfl
  ·obtain⟨left,b,hL⟩:=g.leg fr to;rcases g.bestP an hf pf.1 pf.2 pt.1 pt.2 aa hL with⟨_,hb⟩|⟨av,p,hw,⟨a4,bm⟩,hb⟩
   ·rw[hb,Qh,show neL (encI (x::xs))=some ()from rfl,Qh,QqG,show(fr == to)=false by simpa using aa,QqG];dsimp only;rw[show((6:Int) != 0)=true from rfl,QqI,Q6Z,Qh];rfl
   ·obtain⟨a,q,rfl⟩:∃a q,p=a::q:=by
     cases p with
     |nil=>exact absurd rfl a4
     |cons a q=>exact⟨a,q,rfl⟩
    obtain⟨t,w2,w3,u⟩:=hw;obtain⟨y1,y2⟩:=Sv.tight_iff.1 w3;obtain⟨m1,m2,v⟩:=Q2T.1 w2;have bj:=hL.le ((X.sv per A (x::xs) to).to a);obtain⟨ev,a2⟩:=g.bgPsg a w2;obtain⟨y,u2,u3,u4,u5,u6,u7⟩:=g.use a2 (to:=to);rw[hb,Qh,show neL (encI (x::xs))=some ()from rfl,Qh,QqG,show(fr == to)=false by simpa using aa,QqG];dsimp only;rw[show((0:Int) != 0)=false from rfl,QqG,ay,Qh];dsimp only;rw[Mu];have ax:b<=1000000:=I
    obtain⟨z,hz⟩:∃z,(a::q).getLast? = some z:=⟨_,List.getLast?_eq_some_getLast Q2⟩;have run:∀k1:Int->Int->Int->Bool->oP Bool,∃at',(at'=tto A z/\knd A z=1/\X.s1 (tto A z).toNat=to)/\QN 400 (encI (x::xs)) (GV (a::q)) (((a::q).length:Nat):Int) per (X.evs X.L) A (some false) k1 400 0 (-1) 0=k1 b at' (((a::q).length:Nat):Int) false:=λk1=>by
     obtain⟨at',_,h1,h2⟩:=g.chn hg hL.fin ax (p:=a::q) I (k0:=some false) (k1:=k1) (a::q) 0 400 0 b (-1) (bgF X A fr A.length) rfl (Qro _) I g.bgPsg (.inl ⟨rfl,λj hj=>(Q2T.1 hj).2.1⟩) ⟨t,w2,w3,u⟩ I I;exact⟨at',h1 z hz,h2⟩
    obtain⟨_,⟨_,f,z2⟩,_⟩:=run λ_ _ _ _=>none
    have a3:∀k1:Int->Int->Int->Bool->oP Bool,QN 400 (encI (x::xs)) (GV (a::q)) (((a::q).length:Nat):Int) per (X.evs X.L) A (some false) k1 400 0 (-1) 0=k1 b (tto A z) (((a::q).length:Nat):Int) false:=λk1=>by
     obtain⟨_,⟨rfl,_⟩,h2⟩:=run k1;exact h2
    rw[a3];have zA:z<A.length:=by
     refine Classical.byContradiction λhn=>?_
     unfold knd at f;rw[QqW I]at f;cases f
    obtain⟨ra,k,_,_,_,m,_,r3,_⟩:=g.at y;obtain⟨rz,t1,_,_,t2,_,_,_,t3,_⟩:=g.at zA;rw[f]at t2;obtain⟨l1,k1,ae,ag,n,_⟩:=Cx.ev_of h (e:=(frm A a).toNat) I;obtain⟨l2,k2,ai,aj,o,_⟩:=Cx.ev_of h (e:=(tto A z).toNat) I;obtain⟨o1,⟨x1,s1,p1,p2,p3⟩,_⟩:=Cx.rtP h ae ag ⟨_,n⟩ (p:=per) (q1:=X.skR) (q4:=Ch) (q5:=X.T.map tuR) (q6:=Sy) (q7:=De);obtain⟨o2,_,⟨x2,s2,v1,v2,r⟩⟩:=Cx.rtP h ai aj ⟨_,o⟩ (p:=per) (q1:=X.skR) (q4:=Ch) (q5:=X.T.map tuR) (q6:=Sy) (q7:=De);rw[v]at p3;rw[z2]at r;have n1:Qi (X.evs X.L) (frm A a)=some [Ql (if (frm A a).toNat % 2=0 then 1 else 2),Ql l1,Ql k1]:=by
     rw[<- n,<- Qp,Int.toNat_of_nonneg r3.1]
    have n2:Qi (X.evs X.L) (tto A z)=some [Ql (if (tto A z).toNat % 2=0 then 1 else 2),Ql l2,Ql k2]:=by
     rw[<- o,<- Qp,Int.toNat_of_nonneg t3.1]
    have n3:Qi (GV (a::q)) 0=some [Ql (a:Int)]:=Dy (i:=0) rfl;have n4:Qi (GV (a::q)) (wJ ((((a::q).length:Nat):Int)-1))=some [Ql (z:Int)]:=by
     rw[Qo (x:=(((a::q).length:Nat):Int)-1) I I,show(((a::q).length:Nat):Int)-1=(((a::q).length-1:Nat):Int) by simp];refine Dy ?_;rw[<- List.getLast?_eq_getElem?];exact hz
    have d1:decide (tto A z<0)=false:=QqO I;have i1:pIw (Ql 1)=some 1:=rfl;simp -implicitDefEqProofs only[Qh,QqF,QqK,Qj,X2,n1,n2,n3,n4,d1,Qp,k,t1,t2,m,o1,o2,p1,p2,p3,v1,v2,r,Q6Z,QqI,QqG,bne_self_eq_false,beq_self_eq_true]
end Go.Vx
namespace Go.Vx
open Go.RowKit Go.Maps Go.WideMaps
theorem Ym{P:Program}{f:Nat}{e:PJ}(hE:VH P f e){aa:Y AV}{dl:Dl}(h:e Dl 0 true aa (λ_=>none) some=some dl):ZW P f aa (λ_=>none) dl:=by
 obtain⟨d,k1,a⟩:=hE Dl 0 true aa _ some dl h;cases k1;exact a rfl
theorem Bk{P:Program}{f:Nat}{aa:Y AV}{hl:Nat->oP Ob}{av:AV}(h:ZW P f aa hl ⟨av,[],[]⟩){S:Nat->Prop}{w:World}(hS:∀b,S b->b<w.heap.size){args:Y Value}(hA:ArgsRd (λ_=>none) S (λ_=>none) w args aa) :
  Calls P f args.toArray w λe w'=>∃v S',e = .returned v/\RdA (λ_=>none) S' (λ_=>none) w' tm0 v av/\RowKit.Below w.heap.size w w':=by
 refine(h.2 (λ_=>none) S (λ_=>none) w args ⟨λl o h=>(by cases h),λl l' b h=>(by cases h),λl b h=>(by cases h),hS⟩ hA (λl hl=>(by rcases hl with hl | hl<;>simp[wrL]at hl))).mono λe w' ⟨v,β',S',he,hc⟩=>?_
 have hβ:β'=λ_=>none:=funext λl=>hc.bsame l (by simp[wrL])
 subst hβ;refine⟨v,S',he,?_,⟨hc.fr.os,hc.fr.tape,hc.fr.output,hc.fr.size,λb hb=>hc.fr.block b hb (λ⟨l,a,_⟩=>by simp[wrL]at a)⟩⟩;exact hc.res.mono (λ_ h=>h) (λ_ _=>rfl) (λl _=>⟨rfl,λh=>h,λe s rows h=>(by cases h),λb cs ty fz h=>(by cases h),λt f h=>(by cases h)⟩) (λ_ _=>rfl)
theorem Sl{P:Program}{f:Nat}{aa:Y AV}{hl:Nat->oP Ob}{r:Bool}(h:ZW P f aa hl ⟨.d (D.bool r),[],[]⟩){S:Nat->Prop}{w:World}(hS:∀b,S b->b<w.heap.size){args:Y Value}(hA:ArgsRd (λ_=>none) S (λ_=>none) w args aa) :
  Calls P f args.toArray w λe w'=>e = .returned (.bool r)/\RowKit.Below w.heap.size w w':=by
 refine(Bk h hS hA).mono λe w' ⟨v,S',he,hr,hb⟩=>⟨?_,hb⟩
 cases hr with
 |d v x hx=>cases hx;exact he
 |dang v av l hl=>cases hl
theorem GJ{P:Program}{f:Nat}{aa:Y AV}{hl:Nat->oP Ob}{k:IntKind}{r:Int}(h:ZW P f aa hl ⟨.d (D.int k r),[],[]⟩){S:Nat->Prop}{w:World}(hS:∀b,S b->b<w.heap.size){args:Y Value}(hA:ArgsRd (λ_=>none) S (λ_=>none) w args aa) :
  Calls P f args.toArray w λe w'=>e = .returned (.int k r)/\RowKit.Below w.heap.size w w':=by
 refine(Bk h hS hA).mono λe w' ⟨v,S',he,hr,hb⟩=>⟨?_,hb⟩
 cases hr with
 |d v x hx=>cases hx;exact he
 |dang v av l hl=>cases hl
def Q3f(w:World)(P:Program)(b n:Nat)(aa:Y (Y UInt8)):Prop:=
 ∃D:DataW Unit,w.ownsMap P 9 (plainElem P 4) b n D/\Go.Maps.IsMap D/\∀s,D.atKey (.string s) (.lit (.bool false)) = .lit (.bool (aa.contains s))
theorem Q3f.made(P:Program)(w:World):Q3f (w.alloc (.map #[] 0)) P w.heap.size 0 []:=
 ⟨.map [],World.ownsMap_made w P 9 _,Go.Maps.isMap_empty,λs=>rfl⟩
section
variable{P:Program} (h9:P.underlying 9=some .string) (h4:P.underlying 4=some .bool) {T:TypeId} (hT:P.underlying T=some (.map 9 4))
include h9 h4 hT
theorem Q3f.lookup{w:World}{b n:Nat}{aa:Y (Y UInt8)}(h:Q3f w P b n aa)(hz:(zeroValue 4).run P w = .ok (.bool false) w){s:Y UInt8}(hs:s.length<=maxLen) :
  (Instr.lookup T (.map (some b)) (.string ⟨⟨s⟩⟩) false).run P w = .ok (.bool (aa.contains s)) w:=by
 obtain⟨D,hD,_,hat⟩:=h;obtain⟨v,ps,ac,hv⟩:=hD.lookup (string_keyed h9) hT hz (zd:=.lit (.bool false)) (zp:=[]) (plainElem_bool h4 false) (keyOf_string_mk (s:=⟨⟨s⟩⟩) h9 hs);have e:=hat s;simp only at hv;rw[e]at hv;unfold plainElem at hv;rw[h4]at hv;cases v<;>simp at hv;rw[ac,hv.1];simp
theorem Q3f.update{w:World}{b n:Nat}{aa:Y (Y UInt8)}(h:Q3f w P b n aa)(hn:n<maxLen){s:Y UInt8}(hs:s.length<=maxLen) :
  ∃w',(Instr.mapUpdate T (.map (some b)) (.string ⟨⟨s⟩⟩) (.bool true)).run P w = .ok () w'/\Q3f w' P b (n+1) (s::aa)/\w.grownBy w' (some b):=by
 obtain⟨D,hD,hm,hat⟩:=h;obtain⟨w',ai,ac,hg⟩:=hD.update (string_keyed h9) hT hn (keyOf_string_mk (s:=⟨⟨s⟩⟩) h9 hs) (plainElem_bool (H:=Unit) h4 true);refine⟨w',ai,⟨_,ac,hm.put _ _,λt=>?_⟩,hg⟩;have hk:WideAt.IsKeyLit (.string s):=(string_keyed h9).key (keyOf_string_mk (s:=⟨⟨s⟩⟩) h9 hs);by_cases e:t=s
 ·subst e;rw[show(ByteArray.mk ⟨t⟩).data.toList=t from rfl,Go.Maps.atKey_put_same hm hk];simp
 ·rw[show(ByteArray.mk ⟨s⟩).data.toList=s from rfl,Go.Maps.atKey_put_other (by simpa using e),hat t];simp[e]
end
theorem Q3f.kept{P:Program}{w w':World}{b n:Nat}{aa:Y (Y UInt8)}{row:oP Nat}(h:Q3f w P b n aa)(hg:w.grownBy w' row)(ac:some b≠row):Q3f w' P b n aa:=by
 obtain⟨D,hD,hm,hat⟩:=h;exact⟨D,hD.kept hg ac,hm,hat⟩
theorem Q3f.lt{P:Program}{w:World}{b n:Nat}{aa:Y (Y UInt8)}(h:Q3f w P b n aa):b<w.heap.size:=by
 obtain⟨D,hD,hm,hat⟩:=h;exact hD.lt
theorem Wl{w w':World}(h:RowKit.Below w.heap.size w w'):w.grownBy w' none:=⟨h.os,h.tape,h.output,h.size,λb hb _=>h.block b hb⟩
def Gw:Code->Y Code
 |.region i o d=>[.region i o d]
 |.loop c=>Gw c
 |.seq a b=>Gw a++Gw b
 |.block _ c=>Gw c
 |.scope c=>Gw c
 |.cond _ a b=>Gw a++Gw b
 |_=>[]
def Q6U(Q:Act->World->Prop):Exit->Act->World->Prop
 |.normal,a,w=>Q a w
 |_,_,_=>False
theorem Lr {P : Program} {f : Nat} {fn : Func} (hf : P.funcs[f]? = some fn) (hb : fn.body.isSome = true) (hn : (fn.name == "runtime.NumGoroutine") = false) {avs : Y AV} {av : AV} {hl : Nat -> oP Ob} {rd : Y Nat} (hlf : lf av = true) (hA : lfL avs = true)
  (h:∀(S:Nat->Prop) (w:World) (args:Y Value),(∀b,S b->b<w.heap.size)->ArgsRd (λ_=>none) S (λ_=>none) w args avs->Calls P f args.toArray w λe w'=>∃(v:Value) (S':Nat->Prop),e = .returned v/\(∀b,S b->S' b)/\(∀b,S' b->S b\/w.heap.size<=b)/\(∀b,S' b->b<w'.heap.size) /\
   RdA (λ_=>none) S' (λ_=>none) w' tm0 v av/\RowKit.Below w.heap.size w w'):ZW P f avs hl ⟨av,[],rd⟩:=by
 refine⟨⟨fn,hf,hb,hn⟩,λβ S h' w args hO hAr _=>?_⟩;refine(h S w args hO.sb ⟨hAr.1,λi v av' a h2=>FE (Q1g hA h2) (λ_ h=>h) (λ_ _=>rfl) (hAr.2 i v av' a h2)⟩).mono λe w' ⟨v,S',he,hs,hsf,hsb,hr,hbel⟩=>?_
 refine⟨v,β,S',he,⟨hs,λb hS=>(hsf b hS).elim .inl λh=>.inr (.inl h),hsb,Q6g hbel,λ_ _=>rfl,λl o hl'=>by simp[wrL]at hl',λl hl'=>by simp[wrL]at hl',λl b hl'=>by simp[wrL]at hl',λl l' b hl'=>by simp[wrL]at hl',λl hl'=>by simp[wrL]at hl',?_,λt=>Q52 t _ hlf⟩⟩;exact FE hlf (λ_ h=>h) (λ_ _=>rfl) hr
end Go.Vx
namespace Go.Vx
def dV:D->Value
 |.int k n=>.int k n
 |.bool b=>.bool b
 |.str s=>.string ⟨⟨s⟩⟩
 |_=>undef
def cellsOf(l:LL):Y Value:=l.flatMap λr=>r.map dV
theorem Ca(l:LL)(r:Y D):cellsOf (l++[r])=cellsOf l++r.map dV:=by simp[cellsOf]
structure NestK(e1 e2 k:Nat)(w:World)(B:Nat)(v:Value)(hd:List Value)(ll:List LL):Prop where
 row:w.ownsRow B e1 1 v ll.length hd
 each:∀(i:Nat) (h:Value) (l:LL),hd[i]? = some h->ll[i]? = some l->w.ownsRow B e2 k h l.length (cellsOf l)
 outer:∀(i:Nat) (h:Value) (b:Nat),hd[i]? = some h->h.ownBlock=some b->v.ownBlock≠some b
 apart:∀(i j:Nat) (h h':Value) (b:Nat),hd[i]? = some h->hd[j]? = some h'->h.ownBlock=some b->h'.ownBlock=some b->i=j
section
variable{e1 e2 k:Nat}
theorem NestK.len{w:World}{B:Nat}{v:Value}{hd:Y Value}{ll:Y LL}(h:NestK e1 e2 k w B v hd ll):hd.length=ll.length:=by have:=h.row.1;omega
theorem NestK.kept{w w':World}{B:Nat}{v:Value}{hd:Y Value}{ll:Y LL}{row:oP Nat}(h:NestK e1 e2 k w B v hd ll)(hg:w.grownBy w' row)(a:v.ownBlock=none\/v.ownBlock≠row)(h2:∀x∈hd,x.ownBlock=none\/x.ownBlock≠row):NestK e1 e2 k w' B v hd ll:=
 ⟨h.row.kept hg a,λi x l hx hl=>(h.each i x l hx hl).kept hg (h2 x (QqJ hx)),h.outer,h.apart⟩
theorem NestK.blk{w:World}{B:Nat}{v:Value}{hd:Y Value}{ll:Y LL}(h:NestK e1 e2 k w B v hd ll){i:Nat}{x:Value}{b:Nat}(hx:hd[i]? = some x)(hb:x.ownBlock=some b):B<=b/\b<w.heap.size:=by
 have hi:i<ll.length:=by rw[<- h.len];exact(QqU.1 hx).1
 exact(h.each i x ll[i] hx (QqL hi)).lt b hb
theorem Q4J{w:World}{base e n:Nat}{v:Value}{xs:Y Value}{b i:Nat}(h:w.ownsRow base e 1 v n xs)(hb:v.ownBlock=some b)(hi:i<n)(u:Value):(w.setCell ⟨b,i,none⟩ u).ownsRow base e 1 v n (xs.set i u):=by
 obtain⟨a,h2⟩:=h;refine⟨by simpa using a,?_⟩;rcases h2 with⟨rfl,rfl⟩|⟨g,cap,aa,rfl,hg,hh,hn,hc,hs,ht⟩
 ·omega
 ·simp[Value.ownBlock]at hb;subst hb;refine .inr ⟨g,cap,_,rfl,hg,heap_setCell_same w g i aa e u hh,hn,hc,by simpa using hs,?_⟩;rw[<- ht];simp[List.take_set]
theorem ST{w:World}{base e s n:Nat}{v:Value}{xs:Y Value}(h:w.ownsRow base e s v n xs){a:Addr}(ha:v.ownBlock≠some a.block)(u:Value):(w.setCell a u).ownsRow base e s v n xs:=by
 refine⟨h.1,?_⟩;rcases h.2 with h2 | ⟨g,cap,aa,rfl,hg,hh,hn,hc,hs,ht⟩
 ·exact .inl h2
 ·refine .inr ⟨g,cap,aa,rfl,hg,?_,hn,hc,hs,ht⟩;rw[heap_setCell_other w a g u (λe=>ha (by simp[Value.ownBlock,e]))];exact hh
theorem NestK.grow{w c:World}{B:Nat}{v x x':Value}{hd:Y Value}{ll:Y LL}{l:LL}{s:Y D}{g H i vb:Nat}(h:NestK e1 e2 k w B v hd ll)(hx:hd[i]? = some x)(hl:ll[i]? = some l)(ar:c.ownsRow B e2 k x' (l.length+1) (cellsOf l++s.map dV))(hg:w.grownBy c x.ownBlock)(ac:x'.ownBlock=some g)(hat:x.ownBlock=some g\/g=H)(hH:w.heap.size=H)(hv:v.ownBlock=some vb):NestK e1 e2 k (c.setCell ⟨vb,i,none⟩ x') B v (hd.set i x') (ll.set i (l++[s])):=by
 have hi:i<ll.length:=(QqU.1 hl).1;have ay:=(h.row.lt vb hv).2;have au:g≠vb:=by
  intro e;subst e;rcases hat with a | a
  ·exact h.outer i x g hx a hv
  ·omega
 have ak:c.ownsRow B e1 1 v ll.length hd:=by
  refine h.row.kept hg (.inr λe=>?_);rw[hv]at e;exact h.outer i x vb hx e.symm hv
 have an:∀(j:Nat) (y:Value) (b:Nat),hd[j]? = some y->y.ownBlock=some b->j≠i->b≠g:=by
  intro j y b hy hb aw e;subst e;rcases hat with a | a
  ·exact aw (h.apart j i y x b hy hx hb a)
  ·have:=(h.blk hy hb).2;omega
 refine⟨?_,λj y k hy hk=>?_,λj y b hy hb=>?_,λj k y z b hy hz aj ai=>?_⟩
 ·rw[Qrb];exact Q4J ak hv hi x'
 ·rw[Qrk]at hy hk;by_cases e:i=j
  ·subst e;have a:i<hd.length:=by rw[h.len];exact hi
   simp only[if_true,a,hi,Option.some.injEq]at hy hk;subst hy hk;refine ST (by simpa[Ca]using ar) ?_ _;rw[ac];intro e;exact au (Option.some.inj e)
  ·rw[Qr2 e]at hy hk;refine ST ((h.each j y k hy hk).kept hg ?_) ?_ _
   ·cases hb:y.ownBlock with
    |none=>exact .inl rfl
    |some b=>exact .inr λe2=>e (h.apart j i y x b hy hx hb e2.symm).symm
   ·intro e2;exact h.outer j y vb hy e2 hv
 ·rw[Qrk]at hy;by_cases e:i=j
  ·subst e;have a:i<hd.length:=by rw[h.len];exact hi
   simp only[if_true,a,Option.some.injEq]at hy;subst hy;rw[ac]at hb;cases hb;rw[hv];intro e2;exact au (Option.some.inj e2).symm
  ·rw[Qr2 e]at hy;exact h.outer j y b hy hb
 ·rw[Qrk]at hy hz;have a:i<hd.length:=by rw[h.len];exact hi
  by_cases e:i=j
  ·by_cases e2:i=k
   ·omega
   ·subst e;rw[Qr2 e2]at hz;simp only[if_true,a,Option.some.injEq]at hy;subst hy;rw[ac]at aj;cases aj;exact absurd rfl (an k z g hz ai (λh=>e2 h.symm))
  ·rw[Qr2 e]at hy;by_cases e2:i=k
   ·subst e2;simp only[if_true,a,Option.some.injEq]at hz;subst hz;rw[ac]at ai;cases ai;exact absurd rfl (an j y g hy aj (λh=>e h.symm))
   ·rw[Qr2 e2]at hz;exact h.apart j k y z b hy hz aj ai
end
def Mb(k:Nat)(r:Y D):Bool:=Nat.beq r.length k&&r.all λ| .int .i64 _=>true | _=>false
theorem Q1w{k:Nat}:∀(l:LL) (i j:Nat) (r:Y D) (x:D),(∀r∈l,r.length=k)->l[i]? = some r->r[j]? = some x->(cellsOf l)[i*k+j]? = some (dV x)
 |[],i,j,r,x,_,a,_=>by simp at a
 |b::l,0,j,r,x,hk,a,h2=>by
  simp only[QqF,Option.some.injEq]at a;subst a;have hj:=(QqU.1 h2).1;simp only[cellsOf,List.flatMap_cons,Nat.zero_mul,Nat.zero_add];rw[List.getElem?_append_left (by simpa using hj),QqX,h2];rfl
 |b::l,i+1,j,r,x,hk,a,h2=>by
  have ih:=Q1w l i j r x (λq hq=>hk q (by simp[hq])) (by simpa using a) h2;have c:=hk b Q2;simp only[cellsOf,List.flatMap_cons];rw[List.getElem?_append_right (by simp[c];rw[Nat.succ_mul];omega)];rw[show(i+1)*k+j-(b.map dV).length=i*k+j by simp[c];rw[Nat.succ_mul];omega];exact ih
theorem QaL{w:World}{B e k:Nat}{x:Value}{l:LL}(h:w.ownsRow B e k x l.length (cellsOf l))(hk:∀r∈l,Mb k r=true){S:Nat->Prop}(hS:∀b,x.ownBlock=some b->S b):Rd S w x (.sl k l):=by
 have aa:∀r∈l,r.length=k:=λr hr=>by
  have:=hk r hr;simp only[Mb,Bool.and_eq_true]at this;exact Nat.eq_of_beq_eq_true this.1
 rcases h.2 with⟨rfl,c⟩|⟨g,cap,ac,rfl,hg,hh,hn,hc,hs,ht⟩
 ·have:l=[]:=List.eq_nil_of_length_eq_zero c;subst this;exact .sl0 none 0 k
 ·refine .sl ⟨g,0,none⟩ cap k l (λi j=>dV ((l.getD i []).getD j (.bool false))) (hS g rfl) hn (λi r hi=>aa r (QqJ hi)) (λi j r y hi hj=>?_) (λi j r y hi hj=>?_)
  ·have a:=Q1w l i j r y aa hi hj;have ak:i*k+j<ac.size:=by
    have d:=(QqU.1 a).1;rw[h.1]at d;have:l.length*k<=cap*k:=Nat.mul_le_mul_right k hn;omega
   rw[Jy,Nat.zero_add,cell_of_row w g (i*k+j) ac e (0,0) hh];rw[<- ht,List.getElem?_take]at a;split at a
   ·rw[<- Array.getElem?_toList,a];simp[List.getD,hi,hj]
   ·cases a
  ·have hq:=hk r (QqJ hi);simp only[Mb,Bool.and_eq_true,Qrl]at hq;have hy:=hq.2 y (QqJ hj);simp only[List.getD,hi,hj,Option.getD_some];split at hy
   ·exact .int _ _
   ·cases hy
end Go.Vx
