/- Part of a proof. No conditions of their own. -/
import Derived.Test.YtekmjonablebcaaGreatTE
import Derived.Test.YtekmjonablebcaaGreatTD
import Derived.Test.YtekmjonablebcaaGreatTB
import Derived.Test.YtekmjonablebcaaGreatTC
import Derived.Laws.Rows
import Derived.Deep.AppendLies
import Derived.Maps.Own
import Derived.Maps.Views
import Derived.StringKeys
import Derived.WalkKit
set_option linter.unusedVariables false
set_option linter.unusedSimpArgs false
set_option linter.unusedSectionVars false
noncomputable section
abbrev QqE:=@List.getElem?_cons_zero
abbrev QqF:=@cond_false
abbrev QqG:=@Int.toNat_natCast
abbrev QqH:=@cond_true
abbrev QqI:=@List.getElem?_cons_succ
abbrev QqJ:=@List.mem_of_getElem?
abbrev QqK:=@List.length_map
abbrev QqL:=@List.getElem?_eq_getElem
abbrev QqM:=@List.getD_eq_getElem?_getD
abbrev QqN:=@List.mem_append
abbrev QqO:=@decide_eq_false
abbrev QqP:=@List.append_assoc
abbrev QqQ:=@List.map_append
abbrev QqR:=@decide_eq_true
abbrev QqS:=@Bool.not_true
abbrev QqT:=@List.mem_singleton
abbrev QqU:=@List.getElem?_map
abbrev QqV:=@List.getElem?_eq_none
abbrev QqW:=@if_pos
abbrev QqX:=@List.append_nil
abbrev QqY:=@List.set_cons_zero
abbrev QqZ:=@if_neg
abbrev Qr0:=@Int.emod_lt_of_pos
abbrev Qr1:=@List.length_append
abbrev Qr2:=@List.pairwise_cons
abbrev Qr3:=@Int.emod_nonneg
abbrev Qr4:=@List.mem_map
abbrev Qr5:=@List.length_cons
abbrev Qr6:=@Bool.not_false
abbrev Qr7:=@List.getElem?_eq_some_iff
abbrev Qr8:=@List.mem_range
abbrev Qr9:=@List.take_length
abbrev Qra:=@List.getElem?_range
abbrev Qrb:=@List.mem_of_find?_eq_some
abbrev Qrc:=@List.length_set
abbrev Qrd:=@List.mem_append_right
abbrev Qre:=@List.mem_append_left
abbrev Qrf:=@List.pairwise_append
abbrev Qrg:=@List.length_range
abbrev Qrh:=@Nat.le_refl
abbrev Qri:=@Bool.and_eq_true
abbrev Qrj:=@List.all_eq_true
abbrev Qrk:=@List.foldl_cons
abbrev Qrl:=@List.length_filter_le
abbrev Qrm:=@Int.emod_eq_of_lt
abbrev Qrn:=@List.ext_getElem?
abbrev Qro:=@List.mem_cons
namespace Go.Vx
theorem Qk1{R:Type}{n:Nat}{a b:Int}(K:Int->oP R):GQ n a b K=K (if a<b then -1 else if b<a then 1 else 0):=by
 unfold GQ;have hn:∀x:Int,GC n x (some:Bool->oP Bool)=some false:=λx=>by
  grind[GC]
 rw[hn,hn,Qh,Qh,Qp (by rfl),Qp (by rfl)]
 grind
def Asc(l:List Sp2):Prop:=l.Pairwise λa b=>a.1<=b.1
theorem QbW(q:Sp2):(Yl q)[0]? = some (Ql q.1):=rfl
theorem Qbp(q:Sp2):(Yl q)[1]? = some (Ql q.2):=rfl
theorem Qi9(z q:Sp2):((Yl z).set 0 (Ql q.1)).set 1 (Ql q.2)=Yl q:=rfl
theorem QjG(q:Sp2)(v:Int):(Yl q).set 1 (D.int .i64 v)=Yl (q.1,v):=rfl
section
variable{R:Type} {n:Nat}
theorem Qhh{A B:LL}{x:List D}{i:Nat}(h:A.length=i):(A++x::B)[i]? = some x:=by
 simp_all
theorem Qhy{A B:LL}{x y:List D}{i:Nat}(h:A.length=i):(A++x::B).set i y=A++y::B:=by
 simp_all
theorem QcI{K:LL->oP R}{k0:Int->Bool->LL->oP R}(hk:∀a b w,k0 a b w=K w):∀(c m:Nat) (A:List Sp2) (x:Sp2) (B C:List Sp2),A.length=c->c<m->(A++x::B++C).length<=100->Asc (A++B)->(∀b∈B,x.1<=b.1) ->
  ∃L:List Sp2,Qx n 0 k0 m (c:Int) ((A++x::B++C).map Yl)=K ((L++C).map Yl)/\Asc L/\L.Perm (A++x::B)
 |0,m+1,A,x,B,C,hA,_,_,hs,hx=>by
  obtain rfl:=List.eq_nil_of_length_eq_zero hA;refine⟨x::B,?_,Qr2.2 ⟨hx,hs⟩,List.Perm.refl _⟩;unfold Qx;rw[show decide (((0:Nat):Int)>0)=false from rfl];simp -implicitDefEqProofs only[gbF,QqF,hk,List.nil_append]
 |c+1,m+1,A,x,B,C,hA,hm,hl,hs,hx=>by
  obtain⟨A',y,rfl⟩:∃A' y,A=A'++[y]:=⟨A.dropLast,A.getLast (by intro h;rw[h]at hA;simp at hA),(List.dropLast_concat_getLast _).symm⟩;have aa:A'.length=c:=by simpa using hA
  have ai:c+1<((A'++[y]++x::B++C).map Yl).length:=by simp;omega
  have hc:c<=100:=by simp at hl;omega
  have e1:((A'++[y]++x::B++C).map Yl)=(A'.map Yl++[Yl y])++Yl x::(B++C).map Yl:=by simp
  have e2:((A'++[y]++x::B++C).map Yl)=A'.map Yl++Yl y::(Yl x::(B++C).map Yl):=by simp
  have g1:((A'++[y]++x::B++C).map Yl)[c+1]? = some (Yl x):=by rw[e1];exact Qhh (by simp[aa])
  have d:((A'++[y]++x::B++C).map Yl)[c]? = some (Yl y):=by rw[e2];exact Qhh (by simp[aa])
  have s1:((A'++[y]++x::B++C).map Yl).set (c+1) (Yl y)=A'.map Yl++Yl y::(Yl y::(B++C).map Yl):=by rw[e1,Qhy (by simp[aa])];simp
  have e:(A'.map Yl++Yl y::(Yl y::(B++C).map Yl))[c]? = some (Yl y):=Qhh (by simp[aa]);have s2:(A'.map Yl++Yl y::(Yl y::(B++C).map Yl)).set c (Yl x)=((A'++x::(y::B)++C).map Yl):=by rw[Qhy (by simp[aa])];simp
  have f:inB ((A'++[y]++x::B++C).map Yl).length ((c+1:Nat):Int)=some ():=XP Q0 Q0;have g:inB ((A'++[y]++x::B++C).map Yl).length (c:Int)=some ():=XP Q0 Q0;have i:inB (A'.map Yl++Yl y::(Yl y::(B++C).map Yl)).length (c:Int)=some ():=XP Q0 Q3;unfold Qx;rw[Q6 (((c+1:Nat):Int)>0),JS (show c+1<=1000 by omega) Q0,Nat.add_sub_cancel];unfold UR;simp -implicitDefEqProofs only[f,g,Qh,QqG,g1,d,Qk1];simp -implicitDefEqProofs only[QbW,Qbp,Qi9,Qh,Qj,QqH];by_cases ac:x.1<y.1
  ·rw[QqW ac];simp -implicitDefEqProofs only[show decide ((-1:Int)<0)=true from rfl,QqH,g1,QbW,Qbp,Qi9,Qh,s1];simp -implicitDefEqProofs only[i,e,Qh,Qi9,s2];obtain⟨L,j,h2,k⟩:=QcI hk c m A' x (y::B) C aa Q0 (by simp at hl ⊢;omega) (by simpa using hs) (λb hb=>by
    cases hb with
    |head=>omega
    |tail _ hb=>exact hx b hb)
   refine⟨L,j,h2,k.trans ?_⟩;rw[QqP];exact List.Perm.append_left _ (List.Perm.swap ..)
  ·refine⟨A'++[y]++x::B,?_,?_,List.Perm.refl _⟩
   ·rw[QqZ ac,show decide ((if y.1<x.1 then(1:Int)else 0)<0)=false from QqO (by split<;>omega),QqF,hk]
   ·unfold Asc at hs ⊢;rw[Qrf]at hs ⊢;refine⟨hs.1,Qr2.2 ⟨hx,hs.2.1⟩,λa ha b hb=>?_⟩;cases hb with
    |head=>
     rcases QqN.1 ha with h | h
     ·have:=(Qrf.1 hs.1).2.2 a h y (QqT.2 rfl);omega
     ·obtain rfl:=QqT.1 h;omega
    |tail _ hb=>exact hs.2.2 a ha b hb
theorem QcH{K:LL->oP R}{k0:Int->Bool->LL->oP R}(hk:∀a b w,k0 a b w=K w):∀(aa P:List Sp2) (m:Nat),aa.length<m->(P++aa).length<=100->Asc P ->
  ∃L:List Sp2,Qn 400 0 (((P++aa).length:Nat):Int) k0 m (P.length:Int) ((P++aa).map Yl)=K (L.map Yl)/\Asc L/\L.Perm (P++aa)
 |[],P,m+1,_,_,hs=>by
  refine⟨P,?_,hs,by simp⟩;rw[Qn,QqX,Qy,QqF,hk]
 |x::aa,P,m+1,hm,hl,hs=>by
  rw[Qn,Qs Q2,QqH,QJ (by simp at hl;omega)];obtain⟨L,d,h2,c⟩:=QcI (n:=400) (K:=λw=>Qn 400 0 (((P++x::aa).length:Nat):Int) k0 m ((P.length+1:Nat):Int) w) (k0:=λ_ _ w=>Qn 400 0 (((P++x::aa).length:Nat):Int) k0 m ((P.length+1:Nat):Int) w) (λ_ _ _=>rfl) P.length 400 P x [] aa rfl (by simp at hl;omega) (by simp at hl ⊢;omega) (by simpa using hs) (λb hb=>nomatch hb);rw[show(P++x::aa)=P++[x]++aa by simp]at *
  rw[d];have hL:L.length=P.length+1:=by rw[c.length_eq];simp
  obtain⟨L',g1,e,f⟩:=QcH hk aa L m (by simpa using hm) (by simp[hL]at hl ⊢;omega) h2;rw[show(((P++[x]++aa).length:Nat):Int)=(((L++aa).length:Nat):Int) by simp[hL];omega,show((P.length+1:Nat):Int)=(L.length:Int) by rw[hL]];exact⟨L',g1,e,f.trans (c.append_right _)⟩
theorem Qke:((List.range 13).all λk=>(SP 400 (IntKind.wrap .u64 (k:Int)) (some:Int->oP Int)).isSome)=true:=by kernel_rfl
theorem Qj1{l:List Sp2}(hl:l.length<=12):∃L:List Sp2,QN 400 (l.map Yl) (some:LL->oP LL)=some (L.map Yl)/\Asc L/\L.Perm l:=by
 obtain⟨b,hb⟩:=Option.isSome_iff_exists.1 (Qrj.1 Qke l.length (Qr8.2 Q0));unfold QN;rw[QqK,hb,Qh];unfold XY XN;rw[Qo (x:=(l.length:Int)-0) Q0 Q0,Xh (QqR Q0)];unfold XB;have fin:∀L:List Sp2,L.length=l.length->(gb true (gb true (some (L.map Yl)) [] λa=>gb true (SY a (List.length (l.map Yl))) () λf=>some a) [] λc=>gb true (SY c l.length) () λg=>(some c:oP LL))=some (L.map Yl):=λL h=>by
  grind[Qh,MD]
 rw[show wJ ((0:Int)+1)=((1:Nat):Int)from rfl];cases l with
 |nil=>
  refine⟨[],?_,List.Pairwise.nil,List.Perm.refl _⟩;rfl
 |cons x aa=>
  obtain⟨L,e,h2,d⟩:=QcH (K:=(some:LL->oP LL)) (k0:=λ_ _ w=>some w) (λ_ _ _=>rfl) aa [x] 400 (by grind) (by simp at hl ⊢;omega) (List.pairwise_singleton ..);refine⟨L,?_,h2,d⟩;rw[show(x::aa)=[x]++aa from rfl,show((1:Nat):Int)=(([x].length:Nat):Int)from rfl,e];exact fin L d.length_eq
def mgS:Int->Int->List Sp2->List Sp2
 |a,b,[]=>[(a,b)]
 |a,b,(c,d)::r=>if c<=b then mgS a (if b<d then d else b) r else(a,b)::mgS c d r
theorem Q67:∀{a b:Int} {r:List Sp2},(mgS a b r).length<=r.length+1
 |_,_,[]=>Qrh _
 |a,b,(c,d)::r=>by
  rw[mgS];split
  ·have:=Q67 (a:=a) (b:=if b<d then d else b) (r:=r);simp only[Qr5];omega
  ·have:=Q67 (a:=c) (b:=d) (r:=r);simp only[Qr5];omega
theorem Qa4{t:Int}:∀{l a b:Int} {r:List Sp2},l<a->a<b->b<=t->Asc ((a,b)::r)->(∀q∈r,q.1<q.2/\q.2<=t)->VS t l (mgS a b r)
 |l,a,b,[],e,h2,f,_,_=>⟨e,h2,f,trivial⟩
 |l,a,b,(c,d)::r,e,h2,f,g,h5=>by
  have hs:=Qr2.1 g;have hc:a<=c:=hs.1 (c,d) (.head _);have hd:=h5 (c,d) (.head _);rw[mgS];split
  ·refine Qa4 e (by split<;>omega) (by split<;>simp_all) (Qr2.2 ⟨λq hq=>hs.1 q (.tail _ hq),(Qr2.1 hs.2).2⟩) (λq hq=>h5 q (.tail _ hq))
  ·exact⟨e,h2,f,Qa4 Q0 hd.1 hd.2 hs.2 (λq hq=>h5 q (.tail _ hq))⟩
theorem Q9W{y:Int}:∀{a b:Int} {r:List Sp2},Asc ((a,b)::r)->a<b->(∀q∈r,q.1<q.2)->(InS y (mgS a b r)↔(a<=y/\y<b)\/InS y r)
 |a,b,[],_,_,_=>by rw[mgS,Tf]
 |a,b,(c,d)::r,e,h2,h5=>by
  have hs:=Qr2.1 e;have hc:a<=c:=hs.1 (c,d) (.head _);have hd:=h5 (c,d) (.head _);rw[mgS,Tf];split
  ·rw[Q9W (a:=a) (b:=if b<d then d else b) (Qr2.2 ⟨λq hq=>hs.1 q (.tail _ hq),(Qr2.1 hs.2).2⟩) (by split<;>omega) (λq hq=>h5 q (.tail _ hq))];dsimp only at hc hd ⊢;rw[<- or_assoc];refine or_congr_left ?_;split<;>omega
  ·rw[Tf,Q9W hs.2 hd (λq hq=>h5 q (.tail _ hq))]
theorem Q3f{K:LL->oP R}{k0:Int->Bool->LL->oP R}(hk:∀a b w,k0 a b w=K w){l:List Sp2}(hl:l.length<=100):∀(aa:List Sp2) (i m:Nat) (A:List Sp2) (a b:Int),l.drop i=aa->aa.length<m->A.length+aa.length<=100 ->
  Xo n (l.length:Int) (l.map Yl) k0 m (i:Int) ((A++[(a,b)]).map Yl)=K ((A++mgS a b aa).map Yl)
 |[],i,m+1,A,a,b,hd,_,_=>by
  have:=ZI hd;rw[Xo,show decide ((i:Int)<(l.length:Int))=false by simp_all,QqF,hk,mgS]
 |(c,d)::aa,i,m+1,A,a,b,hd,hm,hA=>by
  obtain⟨e,am,hi⟩:=Y8 hd;have ao:A.length<=100:=Q0
  have f:(l.map Yl)[i]? = some (Yl (c,d)):=by rw[QqU,e];rfl
  have e1:(A++[(a,b)]).map Yl=A.map Yl++Yl (a,b)::[]:=by simp
  have ai:((A++[(a,b)]).map Yl).length=A.length+1:=by simp
  have g:((A++[(a,b)]).map Yl)[A.length]? = some (Yl (a,b)):=by rw[e1];exact Qhh Q2
  have ak:∀v,((A++[(a,b)]).map Yl).set A.length (Yl (a,v))=(A++[(a,v)]).map Yl:=λv=>by rw[e1,Qhy Q2];simp
  rw[Xo,Qs hi,QqH,ai,JS (show A.length+1<=1000 by omega) Q0,Nat.add_sub_cancel,QqK,XP Q0 Q0,XP Q0 Q0,Q6 ((A.length:Int)>=0)];simp -implicitDefEqProofs only[Qh,QqG,f,g,QJ (show i<=1000 by omega)];simp -implicitDefEqProofs only[QbW,Qbp,QjG,Qh,Qj,QqH];rw[mgS];by_cases ac:c<=b
  ·rw[show decide (c<=b)=true from QqR ac,QqH,QqW ac];rw[ak];exact Q3f hk hl aa (i+1) m A a _ am (by simpa using hm) (by simp at hA;omega)
  ·rw[show decide (c<=b)=false from QqO ac,QqF,QqZ ac,XI Q3,Qh];have:=Q3f hk hl aa (i+1) m (A++[(a,b)]) c d am (by simpa using hm) (by simp at hA ⊢;omega);rw[show A++(a,b)::mgS c d aa=A++[(a,b)]++mgS c d aa by simp,<- this,QqQ (l₂:=[(c,d)])];rfl
theorem t2a{x y:List D}:decide ((0:Int)<(([x,y].length:Nat):Int))=true:=rfl
theorem t2b{x y:List D}:decide ((1:Int)<(([x,y].length:Nat):Int))=true:=rfl
theorem t2c{x y:List D}:decide ((2:Int)<(([x,y].length:Nat):Int))=false:=rfl
theorem t2d:wJ ((0:Int)+1)=1:=rfl
theorem t2e:wJ ((1:Int)+1)=2:=rfl
theorem t2f{x y:List D}:Qi [x,y] 0=some x:=rfl
theorem t2g{x y:List D}:Qi [x,y] 1=some y:=rfl
theorem QeU{a b:List Sp2}(h:a.length+b.length<=100):X0 400 [[D.sl 2 (a.map Yl)],[D.sl 2 (b.map Yl)]] (some:LL->oP LL)=some ((a++b).map Yl):=by
 have hg:∀k:Nat,k<=100->QT 400 (k:Int) (some:LL->oP LL)=some []:=λk hk=>by
  unfold QT;rw[Qp (QqO Q0),show wJ ((0:Int)-0)=0 from rfl,Qo (x:=(k:Int)-0) Q0 Q0];by_cases c:k=0
  ·subst c;rfl
  ·rw[Xh (QqR Q0),show slB 0 none (some (0:Int))=some (0,0)from rfl,Qh,Xh (QqR Q0),Qh,XI Q0,Qh]
 unfold X0;rw[Qv];simp -implicitDefEqProofs only[t2a,t2b,t2c,t2d,t2e,t2f,t2g,QqH,QqF,Qh,QqE,X4,QqK,Qo (x:=0+(a.length:Int)) Q0 Q0,Qo (x:=0+(a.length:Int)+(b.length:Int)) Q0 Q0,Q5 (0+(a.length:Int)<0),Q5 (0+(a.length:Int)+(b.length:Int)<0),show 0+(a.length:Int)+(b.length:Int)=((a.length+b.length:Nat):Int) by omega,Qo (x:=((a.length+b.length:Nat):Int)) Q0 Q0,Q5 (((a.length+b.length:Nat):Int)<0),hg _ h];rw[Qv];simp -implicitDefEqProofs only[t2a,t2b,t2c,t2d,t2e,t2f,t2g,QqH,QqF,Qh,QqE,X4,QqK,Qo (x:=0+(a.length:Int)) Q0 Q0,Qo (x:=0+(a.length:Int)+(b.length:Int)) Q0 Q0,Q5 (0+(a.length:Int)<0),Q5 (0+(a.length:Int)+(b.length:Int)<0),show 0+(a.length:Int)+(b.length:Int)=((a.length+b.length:Nat):Int) by omega,Qo (x:=((a.length+b.length:Nat):Int)) Q0 Q0,Q5 (((a.length+b.length:Nat):Int)<0),hg _ h];rw[Qv];simp -implicitDefEqProofs only[t2a,t2b,t2c,t2d,t2e,t2f,t2g,QqH,QqF,Qh,QqE,X4,QqK,Qo (x:=0+(a.length:Int)) Q0 Q0,Qo (x:=0+(a.length:Int)+(b.length:Int)) Q0 Q0,Q5 (0+(a.length:Int)<0),Q5 (0+(a.length:Int)+(b.length:Int)<0),show 0+(a.length:Int)+(b.length:Int)=((a.length+b.length:Nat):Int) by omega,Qo (x:=((a.length+b.length:Nat):Int)) Q0 Q0,Q5 (((a.length+b.length:Nat):Int)<0),hg _ h];rw[Qw];simp -implicitDefEqProofs only[t2a,t2b,t2c,t2d,t2e,t2f,t2g,QqH,QqF,Qh,QqE,X4,QqK,List.nil_append,List.length_nil,XI (show(0+a.length)*16<=100000 by omega),XI (show(a.length+b.length)*16<=100000 by omega),QqQ];rw[Qw];simp -implicitDefEqProofs only[t2a,t2b,t2c,t2d,t2e,t2f,t2g,QqH,QqF,Qh,QqE,X4,QqK,List.nil_append,List.length_nil,XI (show(0+a.length)*16<=100000 by omega),XI (show(a.length+b.length)*16<=100000 by omega),QqQ];rw[Qw];simp -implicitDefEqProofs only[t2a,t2b,t2c,t2d,t2e,t2f,t2g,QqH,QqF,Qh,QqE,X4,QqK,List.nil_append,List.length_nil,XI (show(0+a.length)*16<=100000 by omega),XI (show(a.length+b.length)*16<=100000 by omega),QqQ]
theorem QfE{l:List Sp2}:L8 [l.map Yl]=some ():=by
 unfold L8;rw[show([l.map Yl].all A7)=true by simp[A7,Yl,Q66]];rfl
theorem QfB{t:Int}{a b:List Sp2}(c:1<=t)(d:t<=7200)(ha:VS t (-1) a)(hb:VS t (-1) b)(hl:a.length<=300)(aa:b.length<=300):HZ 400 t [[D.sl 2 (a.map Yl)],[D.sl 2 (b.map Yl)]] (some:Int->oP Int)=some 0:=by
 unfold HZ;rw[Q2A c d,Qh,Qp (by rfl)];rw[U3];simp -implicitDefEqProofs only[t2a,t2b,t2c,t2d,t2e,t2f,t2g,QqH,QqF,Qh,QqE,X4,AZ c d hl ha,AZ c d aa hb,QqS];rw[U3];simp -implicitDefEqProofs only[t2a,t2b,t2c,t2d,t2e,t2f,t2g,QqH,QqF,Qh,QqE,X4,AZ c d hl ha,AZ c d aa hb,QqS];rw[U3];simp -implicitDefEqProofs only[t2a,t2b,t2c,t2d,t2e,t2f,t2g,QqH,QqF,Qh,QqE,X4,AZ c d hl ha,AZ c d aa hb,QqS]
theorem QgT{t:Int}{a b:List Sp2}(e:1<=t)(f:t<=7200)(ha:VS t (-1) a)(hb:VS t (-1) b)(hl:a.length+b.length<=12):∃c:List Sp2,T6 400 t (a.map Yl) (b.map Yl) Tu2=some (c.map Yl,(0:Int))/\VS t (-1) c/\c.length<=a.length+b.length/\∀y,InS y c↔InS y a\/InS y b:=by
 obtain⟨L,s1,s2,d⟩:=Qj1 (l:=a++b) Q3;have hr:∀q∈L,-1<q.1/\q.1<q.2/\q.2<=t:=λq hq=>by
  rcases QqN.1 (d.mem_iff.1 hq)with h | h
  ·exact ha.rng q h
  ·exact hb.rng q h
 have aa:L.length=a.length+b.length:=by rw[d.length_eq];simp
 unfold T6;rw[QfB e f ha hb Q0 Q0,Qh,Qp (by rfl),QeU Q0,Qh,QfE,Qh];unfold HD;rw[s1,Qh,MD (by simp[aa]),Qh,QqK];cases L with
 |nil=>
  refine⟨[],?_,trivial,by simp,λy=>?_⟩
  ·rw[QqK,<- d.length_eq,Xo,show decide ((0:Int)<((([]:List Sp2).length:Nat):Int))=false from rfl,QqF];rfl
  ·rw[<- Qat,<- Q7c d]
 |cons q L=>
  obtain⟨x,z⟩:=q;have hq:=hr (x,z) (.head _);have ac:L.length+1<=12:=by simp at aa;omega
  have hm:=Q3f (n:=400) (K:=λw=>(some (w,((x,z)::L).map Yl):oP (LL×LL))) (k0:=λ_ _ w=>some (w,((x,z)::L).map Yl)) (λ_ _ _=>rfl) (l:=(x,z)::L) Q3 L 1 399 [] x z rfl Q0 Q3;have ai:∀k0:Int->Bool->LL->oP (LL×LL),Xo 400 ((((x,z)::L).length:Nat):Int) (((x,z)::L).map Yl) k0 400 0 []=Xo 400 ((((x,z)::L).length:Nat):Int) (((x,z)::L).map Yl) k0 399 ((1:Nat):Int) (([]++[(x,z)]).map Yl):=λk0=>by
   rw[Xo,show decide ((0:Int)<((((x,z)::L).length:Nat):Int))=true from QqR Q2,QqH,XP Q0 Q2,show(((x,z)::L).map Yl)[Int.toNat 0]? = some (Yl (x,z))from rfl,show decide (wJ (((([]:LL).length:Nat):Int)-1)>=0)=false from rfl];simp -implicitDefEqProofs only[Qh,QbW,Qbp,gbF,QqF,t2d];rw[XI Q2,Qh];rfl
  refine⟨mgS x z L,?_,Qa4 hq.1 hq.2.1 hq.2.2 s2 (λq h=>(hr q (.tail _ h)).2),?_,λy=>?_⟩
  ·rw[ai,hm,Qh,MD (by simp at aa ⊢;omega),Qh];rfl
  ·have:=Q67 (a:=x) (b:=z) (r:=L);simp at aa;omega
  ·rw[Q9W s2 hq.2.1 (λq h=>(hr q (.tail _ h)).2.1),<- Qat,<- Q7c d,Tf]
end
def FB(t:Int)(A B:List Occ)(y:Int):Prop:=∃x a b c d,(x,a,b)∈A/\(x,c,d)∈B/\(y-(a-d+1)) % t<b-a+d-c-1
theorem QbJ{t:Int}{q:Occ}{A B:List Occ}{y:Int}(h:∀p∈B,p.1≠q.1):FB t (q::A) B y↔FB t A B y:=by
 constructor
 ·rintro⟨x,a,b,c,d,e,h2,f⟩;cases e with
  |head=>grind
  |tail _ e=>exact⟨x,a,b,c,d,e,h2,f⟩
 ·rintro⟨x,a,b,c,d,e,h2,f⟩;exact⟨x,a,b,c,d,.tail _ e,h2,f⟩
theorem QbX{t:Int}{q:Occ}{A B:List Occ}{y:Int}(h:∀p∈A,p.1≠q.1):FB t A (q::B) y↔FB t A B y:=by
 constructor
 ·rintro⟨x,a,b,c,d,e,h2,f⟩;cases h2 with
  |head=>grind
  |tail _ h2=>exact⟨x,a,b,c,d,e,h2,f⟩
 ·rintro⟨x,a,b,c,d,e,h2,f⟩;exact⟨x,a,b,c,d,e,.tail _ h2,f⟩
theorem QeR{t x a b c d:Int}{A B:List Occ}{y:Int}(hA:∀p∈A,p.1≠x)(hB:∀p∈B,p.1≠x):FB t ((x,a,b)::A) ((x,c,d)::B) y↔(y-(a-d+1)) % t<b-a+d-c-1\/FB t A B y:=by
 constructor
 ·rintro⟨x',a',b',c',d',e,h2,f⟩;cases e with
  |head=>
   grind
  |tail _ e=>
   cases h2 with
   |head=>exact(hA (x,a',b') e rfl).elim
   |tail _ h2=>exact .inr ⟨x',a',b',c',d',e,h2,f⟩
 ·rintro (h | ⟨x',a',b',c',d',e,h2,f⟩)
  ·exact⟨x,a,b,c,d,.head _,.head _,h⟩
  ·exact⟨x',a',b',c',d',.tail _ e,.tail _ h2,f⟩
theorem Qhi(y f t:Int):(y-f % t) % t=(y-f) % t:=by
 rw[Int.sub_emod,Int.emod_emod,<- Int.sub_emod]
section
variable{R:Type} {n:Nat} {t:Int}
theorem Mh(q:Occ):(enc q)[0]? = some (Ql q.1):=rfl
theorem F0(q:Occ):(enc q)[1]? = some (Ql q.2.1):=rfl
theorem Ee(q:Occ):(enc q)[2]? = some (Ql q.2.2):=rfl
theorem Q4g{O:List Occ}(hl:O.length<=1000){k0:oP R}{k1:Int->Int->Bool->oP R}{E:oP R}(hk:∀a b c,k1 a b c=E):∀(aa:List Occ) (i m:Nat) (last:Int),O.drop i=aa->aa.length<m->OL last aa->U7 n (O.map enc) (O.length:Int) k0 k1 m last (i:Int)=E
 |[],i,m+1,last,hd,_,_=>by
  have:=ZI hd;rw[U7,show decide ((i:Int)<(O.length:Int))=false by simpa using this,QqF,hk]
 |(x,a,b)::aa,i,m+1,last,hd,hm,⟨d,h2,f,g,h5,h6⟩=>by
  obtain⟨e,ac,hi⟩:=Y8 hd;rw[U7,Qs hi,QqH,X5 e];simp -implicitDefEqProofs only[Qh,Mh,F0,Ee,Qj,Q5 (x<=last),Q5 (a>=b),Q5 (a < -65536),Q5 (b>65536),QqF,QJ (show i<=1000 by omega)];exact Q4g hl hk aa (i+1) m x ac (by simpa using hm) h6
theorem Q5q{O:List Occ}(hl:O.length<=300)(h:OL (-1) O):Jj 400 (O.map enc) (some:Bool->oP Bool)=some true:=by
 unfold Jj;rw[QqK];exact Q4g Q0 (λ_ _ _=>rfl) O 0 400 (-1) rfl Q0 h
theorem Qjr{α:Type}(q:α)(l:List α):slB (q::l).length (some (1:Int)) none=some (1,l.length+1)/\cut (q::l) (1,l.length+1)=l:=by
 grind[slB,cut]
theorem Fi(e:1<=t)(j:t<=7200){K:LL->oP R}{k0:LL->LL->Bool->LL->oP R}(hk:∀a b c w,k0 a b c w=K w):∀(m:Nat) (A B:List Occ) (acc:List Sp2) (lA lB:Int),A.length+B.length<m->OL lA A->OL lB B->VS t (-1) acc->acc.length+2*A.length<=12 ->
  ∃aa:List Sp2,QH 400 t k0 m (A.map enc) (B.map enc) (acc.map Yl)=K (aa.map Yl)/\VS t (-1) aa/\aa.length<=12/\∀y,0<=y->y<t->(InS y aa↔InS y acc\/FB t A B y)
 |m+1,[],B,acc,lA,lB,_,_,_,hv,hl=>by
  refine⟨acc,?_,hv,Q0,λy _ _=>⟨.inl,?_⟩⟩
  ·rw[QH,show decide (((([]:List Occ).map enc).length:Int)>0)=false from rfl,QqF,QqF,hk]
  ·rintro (h | ⟨x,a,b,c,d,h,_⟩)
   all_goals grind
 |m+1,q::A,[],acc,lA,lB,_,_,_,hv,hl=>by
  refine⟨acc,?_,hv,by simp at hl;omega,λy _ _=>⟨.inl,?_⟩⟩
  ·rw[QH,show decide (((([]:List Occ).map enc).length:Int)>0)=false from rfl,show decide ((((q::A).map enc).length:Int)>0)=true from QqR Q2,QqH,QqF,hk]
  ·rintro (h | ⟨x,a,b,c,d,_,h,_⟩)
   ·exact h
   ·nomatch h
 |m+1,(x,a,b)::A,(x',c,d)::B,acc,lA,lB,hm,hA,hB,hv,hl=>by
  obtain⟨a1,a2,a3,a4,a5,v⟩:=id hA;obtain⟨b1,b2,b3,b4,b5,z⟩:=id hB;have ar:A.length+B.length+2<m+1:=by simp at hm;omega
  have a7:acc.length+2*A.length+2<=12:=by simp at hl;omega
  have cA:=Qjr (enc (x,a,b)) (A.map enc);have cB:=Qjr (enc (x',c,d)) (B.map enc);have ai:∀p∈A,x<p.1:=λp hp=>(v.mem p hp).1
  have ac:∀p∈B,x'<p.1:=λp hp=>(z.mem p hp).1
  rw[QH];simp -implicitDefEqProofs only[List.map_cons,show decide ((((enc (x,a,b)::A.map enc).length:Nat):Int)>0)=true from QqR Q2,show decide ((((enc (x',c,d)::B.map enc).length:Nat):Int)>0)=true from QqR Q2,QqH,show ∀(r:List D) (l:LL),Qi (r::l) 0=some r from λ_ _=>rfl,Qh,Mh,F0,Ee,Qj,cA,cB];rcases Int.lt_trichotomy x x' with hx | hx | hx
  ·rw[show(x == x')=false by simp;omega,Q6 (x<=x'),Q5 (x>=x')];simp -implicitDefEqProofs only[QqH,QqF];obtain⟨aa,g1,n,o,s⟩:=Fi e j hk m A ((x',c,d)::B) acc x lB Q3 v hB hv Q0;refine⟨aa,g1,n,o,λy g i=>?_⟩;rw[s y g i,QbJ (λp hp=>?_)];cases hp with
   |head=>dsimp only;omega
   |tail _ hp=>have:=ac p hp;dsimp only;omega
  ·subst hx;have f0:wJ (wJ (a-d)+1)=a-d+1:=by rw[Qo (x:=a-d) Q0 Q0,Qo Q0 Q0]
   have f1:wJ (wJ (wJ (wJ (b-c)-1)-(a-d+1))+1)=b-a+d-c-1:=by
    rw[Qo (x:=b-c) Q0 Q0,Qo (x:=b-c-1) Q0 Q0,Qo (x:=b-c-1-(a-d+1)) Q0 Q0,Qo Q0 Q0];omega
   have e0:=Qr3 (a-d+1) (show t≠0 by omega);have e1:=Qr0 (a-d+1) (show 0<t by omega);have am:=Qi0 (t:=t) (f:=a-d+1) (k:=b-a+d-c-1) e j Q0 Q0 Q0 Q0;have a8:=Q9S (t:=t) (x:=(a-d+1) % t) (k:=b-a+d-c-1);obtain⟨u,u1,u2,u3,u4⟩:=QgT e j hv (QbK (k:=b-a+d-c-1) e e0 e1) Q0;rw[show(x == x)=true by simp,Q6 (x<=x)];simp -implicitDefEqProofs only[QqH];unfold Zb;rw[f0,f1,am,Qh,u1,Qh,QfE,Qh];obtain⟨aa,g1,n,o,s⟩:=Fi e j hk m A B u x x Q0 v z u2 Q0;refine⟨aa,g1,n,o,λy g i=>?_⟩;rw[s y g i,u4,Qcm e0 e1 g i,Qhi,QeR (λp hp=>by have:=ai p hp;omega) (λp hp=>by have:=ac p hp;omega),or_assoc]
  ·rw[show(x == x')=false by simp;omega,Q5 (x<=x'),Q6 (x>=x')];simp -implicitDefEqProofs only[QqH,QqF];obtain⟨aa,g1,n,o,s⟩:=Fi e j hk m ((x,a,b)::A) B acc lA x' Q3 hA z hv hl;refine⟨aa,g1,n,o,λy g i=>?_⟩;rw[s y g i,QbX (λp hp=>?_)];cases hp with
   |head=>dsimp only;omega
   |tail _ hp=>have:=ai p hp;dsimp only;omega
theorem Qi5{A B:List Occ}(a:1<=t)(b:t<=7200)(hA:OL (-1) A)(hB:OL (-1) B)(lA:A.length<=6)(lB:B.length<=6):∃F:List Sp2,Jh 400 t (A.map enc) (B.map enc) Tu2=some (F.map Yl,(0:Int))/\VS t (-1) F/\F.length<=12/\∀y,0<=y->y<t->(InS y F↔FB t A B y):=by
 obtain⟨F,g1,e,f,g⟩:=Fi a b (K:=λw=>(some w:oP LL)) (k0:=λ_ _ _ w=>some w) (λ_ _ _ _=>rfl) 400 A B [] (-1) (-1) Q0 hA hB trivial Q3;refine⟨F,?_,e,f,λy i j=>?_⟩
 ·unfold Jh;dsimp only[jn];rw[Q5q Q0 hA,Q5q Q0 hB,Q5 (t<1),Q5 (t>7200)];simp -implicitDefEqProofs only[QqF,Qh,QqS];unfold KK;rw[show QH 400 t (λl m n k=>(some k:oP LL)) 400 (A.map enc) (B.map enc) []=_ from g1,Qh]
 ·rw[g y i j];exact⟨λh=>h.elim (λh=>absurd h LZ) id,.inr⟩
def Q3O(t:Int)(q:Sp2):Sp2:=(q.2,q.1+t-1)
theorem QcN(c:t<=7200)(d:1<=t){K:LL->oP R}{k0:Int->Bool->LL->oP R}(hk:∀a b w,k0 a b w=K w){l:List Sp2}(hl:l.length<=1000):∀(aa:List Sp2) (i m:Nat),l.drop i=aa->aa.length<m->(∀q∈l,-1<q.1/\q.1<=t)->ZD n t (l.map Yl) (l.length:Int) k0 m (i:Int) (((l.take i).map (Q3O t)).map Yl)=K ((l.map (Q3O t)).map Yl)
 |[],i,m+1,hd,_,_=>by
  have:=ZI hd;rw[ZD,show decide ((i:Int)<(l.length:Int))=false by simpa using this,QqF,hk,List.take_of_length_le this]
 |(a,b)::aa,i,m+1,hd,hm,hr=>by
  obtain⟨e,ac,hi⟩:=Y8 hd;have ha:=hr (a,b) (QqJ e);rw[ZD,Qs hi,QqH,X5 e];simp -implicitDefEqProofs only[Qh,QbW,Qbp,Qj,QJ (show i<=1000 by omega),Qo (x:=a+t) Q0 Q0,Qo (x:=a+t-1) Q0 Q0,XI (show((((l.take i).map (Q3O t)).map Yl).length+[[D.int .i64 b,D.int .i64 (a+t-1)]].length)*16<=100000 by simp;omega)];have:=QcN c d hk hl aa (i+1) m ac (by simpa using hm) hr;rw[Zv e,QqQ,QqQ]at this;exact this
theorem QcF(c:t<=7200)(d:1<=t){K:LL->oP R}{k0:Int->Bool->LL->oP R}(hk:∀a b w,k0 a b w=K w){l:List Sp2}(hl:l.length<=1000):∀(aa:List Sp2) (i m:Nat),l.drop i=aa->aa.length<m->(∀q∈l,-1<q.1/\q.1<=t)->YM n t (l.length:Int) (l.map Yl) k0 m (i:Int) (((l.take i).map (Q3O t)).map Yl)=K ((l.map (Q3O t)).map Yl)
 |[],i,m+1,hd,_,_=>by
  have:=ZI hd;rw[YM,show decide ((i:Int)<(l.length:Int))=false by simp_all,QqF,hk,List.take_of_length_le this]
 |(a,b)::aa,i,m+1,hd,hm,hr=>by
  obtain⟨e,ac,hi⟩:=Y8 hd;have ha:=hr (a,b) (QqJ e);have f:(l.map Yl)[i]? = some (Yl (a,b)):=by rw[QqU,e];rfl
  rw[YM,Qs hi,QqH,QqK,XP Q0 Q0,QqG,f];simp -implicitDefEqProofs only[Qh,QbW,Qbp,Qj,QJ (show i<=1000 by omega),Qo (x:=a+t) Q0 Q0,Qo (x:=a+t-1) Q0 Q0,XI (show((((l.take i).map (Q3O t)).map Yl).length+[[D.int .i64 b,D.int .i64 (a+t-1)]].length)*16<=100000 by simp;omega)];have:=QcF c d hk hl aa (i+1) m ac (by simpa using hm) hr;rw[Zv e,QqQ,QqQ]at this;exact this
def WR(t:Int)(F G:List Sp2):Prop:=(G=F/\∀b M c,F≠(0,b)::(M++[(c,t)]))\/∃b M c,F=(0,b)::(M++[(c,t)])/\G=M++[(c,t+b)]
theorem Qc1{A B:List Occ}(r:2<=t)(f:t<=7200)(hA:OL (-1) A)(hB:OL (-1) B)(lA:A.length<=6)(lB:B.length<=6):∃F G:List Sp2,VS t (-1) F/\F.length<=12/\(∀y,0<=y->y<t->(InS y F↔FB t A B y))/\WR t F G /\
  WL 400 t (A.map enc) (B.map enc) Tu2=some (if cnt F=t then([],(13:Int))else((G.map (Q3O t)).map Yl,(0:Int))):=by
 obtain⟨F,g1,j,k,m⟩:=Qi5 (t:=t) Q0 f hA hB lA lB;have hr:=j.rng;suffices h:∃G,WR t F G/\WL 400 t (A.map enc) (B.map enc) Tu2=some (if cnt F=t then([],(13:Int))else((G.map (Q3O t)).map Yl,(0:Int))) by
  obtain⟨G,h⟩:=h;exact⟨F,G,j,k,m,h⟩
 unfold WL;rw[g1,Qh,Qp (by rfl)];dsimp only;rw[Qhq Q0 f Q0 j,Qh];have aa:YM 400 t (F.length:Int) (F.map Yl) (λs u o=>(some (o,(0:Int)):oP (LL×Int))) 400 0 []=some ((F.map (Q3O t)).map Yl,(0:Int)):=QcF f Q0 (K:=λw=>some (w,(0:Int))) (k0:=λ_ _ w=>some (w,(0:Int))) (λ_ _ _=>rfl) Q0 F 0 400 rfl Q0 (λq hq=>by have:=hr q hq;omega);by_cases ac:cnt F=t
 ·simp only[QqW ac];rw[Xh (by simpa using ac)];by_cases hw:∃b M c,F=(0,b)::(M++[(c,t)])
  ·obtain⟨b,M,c,e⟩:=hw;exact⟨_,.inr ⟨b,M,c,e,rfl⟩,rfl⟩
  ·exact⟨F,.inl ⟨rfl,λb M c e=>hw ⟨b,M,c,e⟩⟩,rfl⟩
 simp only[QqZ ac];rw[Qp (by simpa using ac),QqK];rcases F with _ | ⟨⟨a,b⟩,F⟩
 ·refine⟨[],.inl ⟨rfl,λb M c e=>(nomatch e)⟩,?_⟩;rw[show decide (((([]:List Sp2).length:Nat):Int)>1)=false from rfl];simp -implicitDefEqProofs only[gbF,QqF];exact aa
 rcases List.eq_nil_or_concat F with rfl | ⟨M,⟨c,d⟩,rfl⟩
 ·refine⟨[(a,b)],.inl ⟨rfl,λb M c e=>by have:=congrArg List.length e;simp at this⟩,?_⟩;rw[show decide ((((([(a,b)]:List Sp2)).length:Nat):Int)>1)=false from rfl];simp -implicitDefEqProofs only[gbF,QqF];exact aa
 have hM:M.length<=10:=by simp at k;omega
 have ai:((a,b)::(M++[(c,d)])).length=M.length+1+1:=by simp
 have ay:=hr (c,d) Q2;have an:=hr (a,b) Q2;have e1:((a,b)::(M++[(c,d)])).map Yl=(Yl (a,b)::M.map Yl)++Yl (c,d)::[]:=by simp
 have gl:(((a,b)::(M++[(c,d)])).map Yl)[M.length+1]? = some (Yl (c,d)):=by rw[e1];exact Qhh Q2
 have sl:∀v,(((a,b)::(M++[(c,d)])).map Yl).set (M.length+1) (Yl (c,v))=((a,b)::(M++[(c,v)])).map Yl:=λv=>by rw[e1,Qhy Q2];simp
 rw[List.concat_eq_append]at *
 rw[ai,Q6 (((M.length+1+1:Nat):Int)>1),JS (show M.length+1+1<=1000 by omega) Q0,Nat.add_sub_cancel,XP Q0 Q0,XP Q0 Q0];simp -implicitDefEqProofs only[Qh,QqG,gl,QqH,show(((a,b)::(M++[(c,d)])).map Yl)[Int.toNat 0]? = some (Yl (a,b))from rfl,QbW,Qbp,Qj,QjG];by_cases am:a=0/\d=t
 ·obtain⟨rfl,rfl⟩:=am;refine⟨M++[(c,d+b)],.inr ⟨b,M,c,rfl,rfl⟩,?_⟩;rw[show((0:Int) == 0)=true from rfl,show(d == d)=true by simp,QqH,QqH,Qo (x:=d+b) Q0 Q0,sl];have ak:=Qjr (Yl (0,b)) ((M++[(c,d+b)]).map Yl);rw[List.map_cons,ak.1,Qh,ak.2,QqK];exact QcN (n:=400) f Q0 (K:=λw=>(some (w,(0:Int)):oP (LL×Int))) (k0:=λ_ _ w=>some (w,(0:Int))) (λ_ _ _=>rfl) (l:=M++[(c,d+b)]) Q3 (M++[(c,d+b)]) 0 400 rfl Q3 (λq hq=>by
   rcases QqN.1 hq with h | h
   ·have:=hr q (.tail _ (Qre _ h));omega
   ·obtain rfl:=QqT.1 h;dsimp only at *
    omega)
 ·have hz:(bif (a == (0:Int))then(d == t)else false)=false:=by
   by_cases ha:a=0
   ·rw[ha,show((0:Int) == 0)=true from rfl,QqH];simp only[beq_eq_false_iff_ne];exact λh=>am ⟨ha,h⟩
   ·rw[show(a == (0:Int))=false by simpa using ha,QqF]
  refine⟨_,.inl ⟨rfl,λb' M' c' e=>am ?_⟩,?_⟩
  ·have e2:=List.cons.inj e;have p:=List.append_inj_right' e2.2 rfl;have:=(Prod.mk.inj e2.1).1;have:=(Prod.mk.inj (List.cons.inj p).1).2;exact⟨Q0,Q0⟩
  rw[hz,QqF];rw[ai]at aa;exact aa
end
theorem Tq{α β:Type}{r:Nat->Int->β}{l:List α}{p:α->Bool}{E0 E1:β}(a:∀m i q,l[i]? = some q->i<l.length->r (m+1) (i:Int)=bif p q then r m ((i+1:Nat):Int)else E0)(b:∀m,r (m+1) (l.length:Int)=E1){fuel:Nat}(hf:l.length<fuel):r fuel 0=bif l.all p then E1 else E0:=by
 have go:∀(aa:List α) (i m:Nat),l.drop i=aa->aa.length<m->i<=l.length->r m (i:Int)=bif aa.all p then E1 else E0:=by
  intro aa;induction aa with
  |nil=>
   intro i m hd hm hi;obtain⟨m,rfl⟩:∃k,m=k+1:=⟨m-1,Q0⟩
   grind
  |cons q aa ih=>
   intro i m hd hm hi;obtain⟨m,rfl⟩:∃k,m=k+1:=⟨m-1,Q0⟩
   grind[Y8]
 exact go l 0 fuel rfl hf (Nat.zero_le _)
theorem FD{α β S:Type}{r:Nat->Int->S->β}{l:List α}{f:S->α->S}{E:S->β}(a:∀m i q s,l[i]? = some q->i<l.length->r (m+1) (i:Int) s=r m ((i+1:Nat):Int) (f s q))(b:∀m s,r (m+1) (l.length:Int) s=E s){fuel:Nat}(hf:l.length<fuel)(s:S):r fuel 0 s=E (l.foldl f s):=by
 have go:∀(aa:List α) (i m:Nat) (s:S),l.drop i=aa->aa.length<m->i<=l.length->r m (i:Int) s=E (aa.foldl f s):=by
  intro aa;induction aa with
  |nil=>
   intro i m s hd hm hi;obtain⟨m,rfl⟩:∃k,m=k+1:=⟨m-1,Q0⟩
   grind
  |cons q aa ih=>
   intro i m s hd hm hi;obtain⟨m,rfl⟩:∃k,m=k+1:=⟨m-1,Q0⟩;obtain⟨e,ai,ac⟩:=Y8 hd;rw[a m i q s e ac,Qrk,ih (i+1) m _ ai Q4 ac]
 exact go l 0 fuel s rfl hf (Nat.zero_le _)
theorem E5{α:Type}{p:α->Bool}:∀{l:List α} {c:Bool},l.foldl (λc q=>c||p q) c=(c||l.any p)
 |[],c=>(Bool.or_false c).symm
 |q::l,c=>by rw[Qrk,E5,List.any_cons,Bool.or_assoc]
def Lw(t:Int)(q:Occ):Bool:=!decide (q.2.2-q.2.1>t)
theorem Qjz{l:Int}{O:List Occ}(hO:OL l O){q:Occ}(hq:q∈O):wJ (q.2.2-q.2.1)=q.2.2-q.2.1:=by
 have:=hO.mem q hq
 grind[Qo]
theorem QgJ{t:Int}{O:List Occ}(a:1<=t)(b:t<=7200)(hO:OL (-1) O)(hl:O.length<=300):HV 400 t (O.map enc) (some:Bool->oP Bool)=some (O.all (Lw t)):=by
 unfold HV;rw[Q5 (t<1),Q5 (t>7200),Q5q hl hO];simp -implicitDefEqProofs only[QqF,Qh,QqS,Qr6,QqK];refine(Tq (r:=λm i=>Ud 400 t (O.map enc) (O.length:Int) (some false) (λ_ _=>some true) m i) (l:=O) (p:=Lw t) (E0:=some false) (E1:=some true) (λm i q e hi=>?_) (λm=>?_) Q0).trans (by cases O.all (Lw t)<;>rfl)
 ·rw[Ud,Qs hi,QqH,X5 e];simp -implicitDefEqProofs only[Qh,Mh,F0,Ee,Qj,QJ (show i<=1000 by omega),Qjz hO (QqJ e)];unfold Lw;cases decide (q.2.2-q.2.1>t)<;>rfl
 ·rw[Ud,Qy,QqF]
def tie(la:Int)(x y:Occ):Bool:=bif x.1 == y.1 then decide (la+y.2.1<=x.2.2)else false
def Q3l(per la mo:Int)(x y:Occ):Bool:=decide ((if x.2.2<mo+y.2.2 then mo+y.2.2 else x.2.2)-(if la+y.2.1<x.2.1 then la+y.2.1 else x.2.1)>per)
def Q9O(per la mo:Int)(A B:List Occ):Bool:=A.any λx=>B.any λy=>bif tie la x y then Q3l per la mo x y else false
def Q4Z(la:Int)(A B:List Occ)(r:Int):Bool:=A.any λx=>B.any λy=>bif tie la x y then x.1 == r else false
namespace Cx
variable{R:Type} {n:Nat} {X:Cx}
theorem Qia{per la mo:Int}{O:List Occ}(hO:OL (-1) O)(hl:O.length<=300){x:Occ}(hx : -1000<=x.2.1/\x.2.1<x.2.2/\x.2.2<=20000)(d:0<=la)(f:la<=20000)(h2:0<=mo)(g:mo<=20000){k0:Int->Bool->Bool->oP R}{Kc:Bool->oP R}(hk:∀a b c,k0 a b c=Kc c)(c:Bool) :
  QZ n (O.map enc) (O.length:Int) la (Ql x.1) (Ql x.2.1) (Ql x.2.2) per la mo k0 400 0 c=Kc (c||O.any λy=>bif tie la x y then Q3l per la mo x y else false):=by
 rw[<- E5];refine FD (r:=λm i c=>QZ n (O.map enc) (O.length:Int) la (Ql x.1) (Ql x.2.1) (Ql x.2.2) per la mo k0 m i c) (E:=Kc) (λm i q c e hi=>?_) (λm c=>?_) Q0 c
 ·have:=hO.mem q (QqJ e);rw[QZ,Qs hi,QqH,X5 e];simp -implicitDefEqProofs only[Qh,Mh,F0,Ee,Qj,QJ (show i<=1000 by omega),Qo (x:=la+q.2.1) Q0 Q0];unfold Yi;simp -implicitDefEqProofs only[Qh,Qo (x:=la+q.2.1) Q0 Q0,Qo (x:=mo+q.2.2) Q0 Q0];rw[Qo (x:=(if x.2.2<mo+q.2.2 then mo+q.2.2 else x.2.2)-(if la+q.2.1<x.2.1 then la+q.2.1 else x.2.1)) (by split<;>split<;>omega) (by split<;>split<;>omega)];show(bif tie la x q then QZ n (O.map enc) (O.length:Int) la (Ql x.1) (Ql x.2.1) (Ql x.2.2) per la mo k0 m ((i+1:Nat):Int) (bif c then true else Q3l per la mo x q)else _)=_;cases tie la x q<;>cases c<;>rfl
 ·rw[QZ,Qy,QqF,hk]
theorem map1{la:Int}{O:List Occ}(hO:OL (-1) O)(hl:O.length<=300){x:Occ}(d:0<=la)(f:la<=20000){k0:Int->Bool->(Int->Bool)->oP R}{Kc:(Int->Bool)->oP R}(hk:∀a b c,k0 a b c=Kc c)(c:Int->Bool) :
  Xc n (O.map enc) (O.length:Int) la (Ql x.1) (Ql x.2.1) (Ql x.2.2) k0 400 0 c=Kc (O.foldl (λc y=>bif tie la x y then Q7N c x.1 true else c) c):=by
 refine FD (r:=λm i c=>Xc n (O.map enc) (O.length:Int) la (Ql x.1) (Ql x.2.1) (Ql x.2.2) k0 m i c) (E:=Kc) (λm i q c e hi=>?_) (λm c=>?_) Q0 c
 ·have:=hO.mem q (QqJ e);rw[Xc,Qs hi,QqH,X5 e];simp -implicitDefEqProofs only[Qh,Mh,F0,Ee,Qj,QJ (show i<=1000 by omega),Qo (x:=la+q.2.1) Q0 Q0];unfold XH;simp -implicitDefEqProofs only[Qh];show(bif tie la x q then _ else _)=_;cases tie la x q<;>rfl
 ·rw[Xc,Qy,QqF,hk]
theorem Qgd{q:Int->Bool}{x r:Int}:Q7N q x true r=(q r||(x == r)):=by
 grind[Q7N]
theorem Qgn{la:Int}{x:Occ}{r:Int}:∀{O:List Occ} {c:Int->Bool},O.foldl (λc y=>bif tie la x y then Q7N c x.1 true else c) c r=(c r||O.any λy=>bif tie la x y then x.1 == r else false)
 |[],c=>(Bool.or_false _).symm
 |y::O,c=>by
  rw[Qrk,Qgn,List.any_cons];cases tie la x y
  ·rfl
  ·rw[QqH,QqH,Qgd,Bool.or_assoc]
def occN(X:Cx)(a:Nat):List Occ:=(X.occs X.L).getD a []
def N(X:Cx):Nat:=base X.nr X.L
variable(h:X.OK)
include h
theorem Jo{a:Nat}(ha:a<X.N):Qi (GS (X.occs X.L)) (a:Int)=some [D.sl 3 ((X.occN a).map enc)]/\OL (-1) (X.occN a)/\(X.occN a).length<=6:=by
 obtain⟨i,k,b,h2,rfl⟩:=Q2z ha;have e:X.occN (base X.nr i+k)=X.occ i k:=by
  unfold occN;rw[QqM,show(X.occs X.L)[base X.nr i+k]? = some (X.occ i k)from Q21 h2 b];rfl
 rw[e];exact⟨Qgq b h2,Qgp h b h2⟩
theorem Qet:X.jns.length<=30:=by
 have:=QeQ h (i:=X.L) (Qrh _);have:=h.tl
 grind[jns,List.length_append,List.length_map]
structure JOK(X:Cx)(J:List Tup):Prop where
 at':∀t∈J,t.1<X.N/\t.2.1<X.N/\0<=t.2.2.1/\t.2.2.1<=20000/\0<=t.2.2.2/\t.2.2.2<=20000
 len:J.length<=30
theorem QiU{J:List Tup}(hJ:X.JOK J){per:Int}{t:Tup}(ht:t∈J)(K:Bool->oP R):ZY 400 per (GS (X.occs X.L)) (t.1:Int) (t.2.1:Int) t.2.2.1 t.2.2.1 t.2.2.2 false K=K (Q9O per t.2.2.1 t.2.2.2 (X.occN t.1) (X.occN t.2.1)):=by
 have hj:=hJ.at' t ht;have oa:=Jo h hj.1;have ob:=Jo h hj.2.1;unfold ZY Q9O;rw[oa.1];simp -implicitDefEqProofs only[Qh,QqE,X4,QqK];rw[<- Bool.false_or (List.any _ _),<- E5];refine FD (r:=λm i c=>Xx 400 ((X.occN t.1).map enc) (((X.occN t.1).length:Nat):Int) (t.2.1:Int) t.2.2.1 per (GS (X.occs X.L)) t.2.2.1 t.2.2.2 (λb d a=>K a) m i c) (E:=K) (λm i q c e hi=>?_) (λm c=>?_) Q0 false
 ·have hq:=oa.2.1.mem q (QqJ e);rw[Xx,Qs hi,QqH,X5 e,ob.1];simp -implicitDefEqProofs only[Qh,Mh,F0,Ee,QqE,X4,QqK,QJ (show i<=1000 by omega)];exact Qia (per:=per) ob.2.1 Q0 ⟨hq.2.1,hq.2.2.1,hq.2.2.2.1⟩ hj.2.2.1 hj.2.2.2.1 hj.2.2.2.2.1 hj.2.2.2.2.2 (Kc:=λc=>Xx 400 ((X.occN t.1).map enc) (((X.occN t.1).length:Nat):Int) (t.2.1:Int) t.2.2.1 per (GS (X.occs X.L)) t.2.2.1 t.2.2.2 (λb d a=>K a) m ((i+1:Nat):Int) c) (λ_ _ _=>rfl) c
 ·rw[Xx,Qy,QqF]
theorem Qkf{J:List Tup}(hJ:X.JOK J){t:Tup}(ht:t∈J)(q:Int->Bool):∃q',(∀K:(Int->Bool)->oP R,W0 400 (GS (X.occs X.L)) (t.1:Int) (t.2.1:Int) t.2.2.1 q K=K q')/\∀r,q' r=(q r||Q4Z t.2.2.1 (X.occN t.1) (X.occN t.2.1) r):=by
 have hj:=hJ.at' t ht;have oa:=Jo h hj.1;have ob:=Jo h hj.2.1;refine⟨(X.occN t.1).foldl (λq x=>(X.occN t.2.1).foldl (λc y=>bif tie t.2.2.1 x y then Q7N c x.1 true else c) q) q,λK=>?_,λr=>?_⟩
 ·unfold W0;rw[oa.1];simp -implicitDefEqProofs only[Qh,QqE,X4,QqK];refine FD (r:=λm i c=>Xy 400 ((X.occN t.1).map enc) (((X.occN t.1).length:Nat):Int) (t.2.1:Int) t.2.2.1 (GS (X.occs X.L)) (λb d a=>K a) m i c) (E:=K) (λm i q c e hi=>?_) (λm c=>?_) Q0 q
  ·rw[Xy,Qs hi,QqH,X5 e,ob.1];simp -implicitDefEqProofs only[Qh,Mh,F0,Ee,QqE,X4,QqK,QJ (show i<=1000 by omega)];exact map1 ob.2.1 Q0 hj.2.2.1 hj.2.2.2.1 (Kc:=λc=>Xy 400 ((X.occN t.1).map enc) (((X.occN t.1).length:Nat):Int) (t.2.1:Int) t.2.2.1 (GS (X.occs X.L)) (λb d a=>K a) m ((i+1:Nat):Int) c) (λ_ _ _=>rfl) c
  ·rw[Xy,Qy,QqF]
 ·unfold Q4Z;generalize X.occN t.1=A;induction A generalizing q with
  |nil=>exact(Bool.or_false _).symm
  |cons x A ih=>rw[Qrk,ih,Qgn,List.any_cons,Bool.or_assoc]
def jab(a b:Nat)(t:Tup):Bool:=bif (bif (t.1:Int) == (a:Int)then(t.2.1:Int) == (b:Int)else false)then true else bif (t.1:Int) == (b:Int)then(t.2.1:Int) == (a:Int)else false
def TRb(X:Cx)(J:List Tup)(a b:Nat)(r:Int):Bool:=J.any λt=>bif jab a b t then Q4Z t.2.2.1 (X.occN t.1) (X.occN t.2.1) r else false
theorem QiX{J:List Tup}(hJ:X.JOK J){a b:Nat}:∃q,(Ya 400 (GS (X.occs X.L)) (J.map tuR) (a:Int) (b:Int) some:oP (Int->Bool))=some q/\∀r,q r=X.TRb J a b r:=by
 have hl:=hJ.len;unfold Ya;rw[QqK];have go:∀(aa:List Tup) (i m:Nat) (q:Int->Bool),J.drop i=aa->aa.length<m->∃q',(QM 400 (a:Int) (b:Int) (J.map tuR) (J.length:Int) (GS (X.occs X.L)) (λn o j=>some j) m (i:Int) q:oP (Int->Bool))=some q'/\∀r,q' r=(q r||X.TRb aa a b r):=by
  intro aa;induction aa with
  |nil=>
   intro i m q hd hm;obtain⟨m,rfl⟩:∃k,m=k+1:=⟨m-1,by simp at hm;omega⟩;have:=ZI hd;exact⟨q,by rw[QM,show decide ((i:Int)<(J.length:Int))=false by simpa using this,QqF],λr=>(Bool.or_false _).symm⟩
  |cons t aa ih=>
   intro i m q hd hm;obtain⟨m,rfl⟩:∃k,m=k+1:=⟨m-1,by simp at hm;omega⟩;obtain⟨e,ai,hi⟩:=Y8 hd;obtain⟨l,c,h2⟩:=Qkf (R:=Int->Bool) h hJ (QqJ e) q;rw[QM,Qs hi,QqH,X5 e];simp -implicitDefEqProofs only[Qh,tuR,QqE,QqI,Qj,QJ (show i<=1000 by omega),c];show ∃q',(bif jab a b t then _ else _)=some q'/\_;cases ac:jab a b t with
   |false=>
    obtain⟨d,f,g⟩:=ih (i+1) m q ai (by simpa using hm);refine⟨d,f,λr=>?_⟩;rw[g,TRb,TRb,List.any_cons,ac,QqF,Bool.false_or]
   |true=>
    obtain⟨d,f,g⟩:=ih (i+1) m l ai (by simpa using hm);refine⟨d,f,λr=>?_⟩;rw[g,h2,TRb,TRb,List.any_cons,ac,QqH,Bool.or_assoc]
 obtain⟨q,c,h2⟩:=go J 0 400 (λ_=>false) rfl Q0;exact⟨q,c,λr=>by rw[h2,Bool.false_or]⟩
theorem QaJ:∀o∈X.occs X.L,OL (-1) o/\o.length<=6:=by
 intro o ho;obtain⟨a,ha⟩:=List.getElem?_of_mem ho;have aa:=(Qr7.1 ha).1;rw[show(X.occs X.L).length=X.N from ZG]at aa;obtain⟨b,h2⟩:=(Jo h aa).2
 simp_all [occN,QqM]
def aloneJ(X:Cx)(per:Int)(J:List Tup):Bool:=bif (X.occs X.L).all (λo=>o.all (Lw per))then J.all λt=>!Q9O per t.2.2.1 t.2.2.2 (X.occN t.1) (X.occN t.2.1)else false
theorem QfG{per:Int}(p0:1<=per)(p1:per<=300){J:List Tup}(hJ:X.JOK J)(K:Bool->oP R):ZP 400 per (GS (X.occs X.L)) (J.map tuR) K=K (X.aloneJ per J):=by
 have hN:(X.occs X.L).length<=6:=by rw[show(X.occs X.L).length=base X.nr X.L from ZG];exact base_le h
 have hl:=hJ.len;have hO:=QaJ h;unfold ZP;rw[Jc,QqK];refine(Tq (r:=λm i=>XM 400 (GS (X.occs X.L)) (((X.occs X.L).length:Nat):Int) per (K false) (λc d=>Xp 400 (J.map tuR) (J.length:Int) per (GS (X.occs X.L)) (K false) (λa b=>K true) 400 0) m i) (l:=X.occs X.L) (p:=λo=>o.all (Lw per)) (E0:=K false) (E1:=bif J.all (λt=>!Q9O per t.2.2.1 t.2.2.2 (X.occN t.1) (X.occN t.2.1))then K true else K false) (λm i o e hi=>?_) (λm=>?_) Q0).trans ?_
 ·have ho:=hO o (QqJ e);have aa:Qi (GS (X.occs X.L)) (i:Int)=some [D.sl 3 (o.map enc)]:=X5 e;rw[XM,Qs hi,QqH,aa];simp -implicitDefEqProofs only[Qh,QqE,X4,QgJ p0 (show per<=7200 by omega) ho.1 (show o.length<=300 by omega),QJ (show i<=1000 by omega)];cases o.all (Lw per)<;>rfl
 ·rw[XM,Qy,QqF];refine Tq (r:=λm i=>Xp 400 (J.map tuR) (J.length:Int) per (GS (X.occs X.L)) (K false) (λa b=>K true) m i) (λm i t e hi=>?_) (λm=>?_) Q0
  ·rw[Xp,Qs hi,QqH,X5 e];simp -implicitDefEqProofs only[Qh,tuR,QqE,QqI,Qj,QJ (show i<=1000 by omega),QiU h hJ (QqJ e)];cases Q9O per t.2.2.1 t.2.2.2 (X.occN t.1) (X.occN t.2.1)<;>rfl
  ·rw[Xp,Qy,QqF]
 ·unfold aloneJ;cases (X.occs X.L).all (λo=>o.all (Lw per))<;>cases J.all (λt=>!Q9O per t.2.2.1 t.2.2.2 (X.occN t.1) (X.occN t.2.1))<;>rfl
end Cx
namespace Cx
def aR(X:Cx)(i k:Nat):List D:=[Ql 1,Ql ((2*(base X.nr i+k):Nat):Int),Ql ((2*(base X.nr i+k)+1:Nat):Int),Ql (X.run i k),Ql (X.run i k+X.ex i k),Ql (X.w i)]
def aD(X:Cx)(i k:Nat):List D:=[Ql 2,Ql ((2*(base X.nr i+k)+1:Nat):Int),Ql ((2*(base X.nr i+k+1):Nat):Int),Ql (X.mn i k),Ql (X.mx i k),Ql (X.w i)]
def pl(X:Cx)(i:Nat):Nat->LL
 |0=>[]
 |k+1=>pl X i k++[X.aR i k]++(if k<X.nr i-1 then[X.aD i k]else[])
def pls(X:Cx):Nat->LL
 |0=>[]
 |i+1=>pls X i++X.pl i (X.nr i)
def chE(X:Cx)(row:List D):List D:=match row with
 |[.int _ f,.int _ fr,.int _ t,.int _ tr,mn,mx,w]=>[Ql 3,Ql ((2*(base X.nr f.toNat+fr.toNat)+1:Nat):Int),Ql ((2*(base X.nr t.toNat+tr.toNat):Nat):Int),mn,mx,w]
 |_=>[]
def tuE(X:Cx)(t:Tup):List D:=[Ql 4,Ql ((2*(base X.nr t.1+(X.nr t.1-1))+1:Nat):Int),Ql ((2*(base X.nr t.2.1+0):Nat):Int),Ql t.2.2.1,Ql t.2.2.2,Ql 1]
def syE(X:Cx)(row:List D):List D:=match row with
 |[_,_,_,_,o]=>[Ql 5,Ql ((2*(base X.nr 0+0):Nat):Int),Ql ((2*(base X.nr 1+0):Nat):Int),o,o,Ql 0]
 |_=>[]
def planned(X:Cx)(Ch Sy:LL):LL:=X.pls X.L++Ch.map X.chE++X.T.map X.tuE++Sy.map X.syE
variable{R:Type} {n:Nat} {X:Cx}
theorem Q7J{i:Nat}:∀{k:Nat},(X.pl i k).length<=2*k
 |0=>Qrh _
 |k+1=>by
  have:=Q7J (i:=i) (k:=k);rw[pl,Qr1,Qr1];split<;>simp<;>omega
theorem AO:∀{i:Nat},(X.pls i).length<=2*base X.nr i
 |0=>Qrh _
 |i+1=>by
  have:=AO (i:=i);have:=Q7J (X:=X) (i:=i) (k:=X.nr i);rw[pls,Qr1,base];omega
structure LsOK(X:Cx)(per:Int)(Ch Sy:LL):Prop where
 ch:∀row∈Ch,∃(f fr t tr:Nat) (mn mx w:Int),row=[Ql f,Ql fr,Ql t,Ql tr,Ql mn,Ql mx,Ql w]/\f<X.Ls.length/\fr<X.nr f/\t<X.Ls.length/\tr<X.nr t/\(0<=mn/\mn<20/\mn<=mx/\mx<mn+per)/\0<=w/\w<3
 chl:Ch.length<=2
 sy:∀row∈Sy,∃o:Int,row=[Ql 0,Ql 0,Ql 1,Ql 0,Ql o]/\0<=o/\o<per/\2<=X.Ls.length
 syl:Sy.length<=1
variable(h:X.OK) {per:Int} {Ch Sy De:LL} (hl:X.LsOK per Ch Sy)
theorem Qff{A:LL}(hA:A.length<=1000){a1 a2 a b c d:Int}(K:LL->oP R):Xr n A a1 a2 a b c d K=K (A++[[Ql a1,Ql a2,Ql a,Ql b,Ql c,Ql d]]):=by
 grind[Xr,XI,Qh]
include h
theorem Qik{i:Nat}(hi:i<X.Ls.length){k0:Int->Bool->LL->oP R}:QK 400 (i:Int) (Hr X.Ls i) ((X.nr i:Nat):Int) (Ql (X.w i)) (D.sl 4 (Hr X.Ls i)) (X.fst X.L) (encI (X.runs X.L)) k0 400 0 (X.pls i)=k0 ((X.nr i:Nat):Int) false (X.pls i++X.pl i (X.nr i)):=by
 have hn:=(line h hi).2.1;have hb:=Zs h (i:=i) Q0;have hp:=AO (X:=X) (i:=i);have hw:wJ (((List.length (Hr X.Ls i):Nat):Int)-1)=((X.nr i-1:Nat):Int):=JS (k:=X.nr i) Q0 Q0;refine QY (r:=λm k=>QK 400 (i:Int) (Hr X.Ls i) ((X.nr i:Nat):Int) (Ql (X.w i)) (D.sl 4 (Hr X.Ls i)) (X.fst X.L) (encI (X.runs X.L)) k0 m k (X.pls i++X.pl i k.toNat)) (N:=X.nr i) (λm k hk=>?_) (λm=>?_) (X.nr i) 400 0 Q0 Q0 |> Eq.trans (by simp[pl])
 ·simp only[QqG];have r:=rd h hi hk;have b:=r.ex0;have e1:=r.ex1;have hr:=EX h hi hk;have aa:Qi (Hr X.Ls i) (k:Int)=some [Ql (rF X.Ls i k 0),Ql (X.ex i k),Ql (X.mn i k),Ql (X.mx i k)]:=by rw[Qt,r.row]
  have ai:=Q7J (X:=X) (i:=i) (k:=k);have ac:=Q6S (X:=X) hi hk;rw[QK,Qs hk,QqH,aa];simp -implicitDefEqProofs only[Qh,QqE,QqI,Qj,X4,hw,Q1d (n:=400) h hi (show k<=10 by omega),ac,QJ (show k<=1000 by omega),Qde (n:=400) (show base X.nr i+k<=1000 by omega),Qif (n:=400) (show base X.nr i+k<=1000 by omega),QJ (show base X.nr i+k<=1000 by omega),Qde (n:=400) (show base X.nr i+k+1<=1000 by omega),Qo (x:=X.run i k+X.ex i k) Q0 Q0,Qff (n:=400) (A:=X.pls i++X.pl i k) Q3,Qff (n:=400) (A:=X.pls i++X.pl i k++[[Ql 1,Ql ((2*(base X.nr i+k):Nat):Int),Ql ((2*(base X.nr i+k)+1:Nat):Int),Ql (X.run i k),Ql (X.run i k+X.ex i k),Ql (X.w i)]]) Q3];by_cases a:k<X.nr i-1
  ·rw[Qs a,QqH,pl,QqW a,<- QqP,<- QqP];rfl
  ·rw[Q5 ((k:Int)<((X.nr i-1:Nat):Int)),QqF,pl,QqZ a,QqX,<- QqP];rfl
 ·simp only[QqG];rw[QK,Qy,QqF]
include hl
theorem Qbw(K:LL->oP R):Yz 400 X.Ls Ch (X.T.map tuR) Sy (X.fst X.L) (encI (X.runs X.L)) [] K=K (X.planned Ch Sy):=by
 have l1:=h.l1;have tl:=h.tl;have hp:=AO (X:=X) (i:=X.L);have hb:=base_le h;have chl:=hl.chl;have syl:=hl.syl;unfold Yz;have s2:∀k0:Int->Bool->LL->oP R,QU 400 X.Ls (X.Ls.length:Int) (X.fst X.L) (encI (X.runs X.L)) k0 400 0 []=k0 (X.Ls.length:Int) false (X.pls X.L):=by
  intro k0;refine QY (r:=λm i=>QU 400 X.Ls (X.Ls.length:Int) (X.fst X.L) (encI (X.runs X.L)) k0 m i (X.pls i.toNat)) (N:=X.Ls.length) (λm i hi=>?_) (λm=>?_) X.Ls.length 400 0 Q0 Q0
  ·simp only[QqG];rw[QU,Qs hi,QqH,Qt,(line h hi).1];simp -implicitDefEqProofs only[Qh,QqE,QqI,X4,QJ (show i<=1000 by omega)];exact Qik h hi
  ·simp only[QqG];rw[QU,Qy,QqF];rfl
 have k:∀k0:Int->Bool->LL->oP R,QW 400 Ch (Ch.length:Int) (X.fst X.L) k0 400 0 (X.pls X.L)=k0 (Ch.length:Int) false (X.pls X.L++Ch.map X.chE):=by
  intro k0;refine QY (r:=λm j=>QW 400 Ch (Ch.length:Int) (X.fst X.L) k0 m j (X.pls X.L++(Ch.take j.toNat).map X.chE)) (N:=Ch.length) (λm j hj=>?_) (λm=>?_) Ch.length 400 0 Q0 Q0 |> Eq.trans Q2
  ·simp only[QqG];obtain⟨row,e⟩:∃q,Ch[j]? = some q:=⟨Ch[j],QqL hj⟩;obtain⟨f,fr,t,tr,mn,mx,w,rfl,g1,l,c,v,x,y⟩:=hl.ch row (QqJ e);have nf:=(line h g1).2.1;have nt:=(line h c).2.1;have bf:=Zs h (i:=f) Q0;have bt:=Zs h (i:=t) Q0;rw[QW,Qs hj,QqH,Qt,e,Zv e,QqQ,<- QqP];simp -implicitDefEqProofs only[Qh,QqE,QqI,Qj,Q1d (n:=400) h g1 (show fr<=10 by omega),Q1d (n:=400) h c (show tr<=10 by omega),QJ (show j<=1000 by omega),Qif (n:=400) (show base X.nr f+fr<=1000 by omega),Qde (n:=400) (show base X.nr t+tr<=1000 by omega),Qff (n:=400) (A:=X.pls X.L++(Ch.take j).map X.chE) Q3];rfl
  ·simp only[QqG];rw[QW,Qy,QqF,Qr9]
 have p:∀k0:Int->Bool->LL->oP R,QV 400 (X.T.map tuR) (X.T.length:Int) (X.fst X.L) X.Ls k0 400 0 (X.pls X.L++Ch.map X.chE)=k0 (X.T.length:Int) false (X.pls X.L++Ch.map X.chE++X.T.map X.tuE):=by
  intro k0;refine QY (r:=λm j=>QV 400 (X.T.map tuR) (X.T.length:Int) (X.fst X.L) X.Ls k0 m j (X.pls X.L++Ch.map X.chE++(X.T.take j.toNat).map X.tuE)) (N:=X.T.length) (λm j hj=>?_) (λm=>?_) X.T.length 400 0 Q0 Q0 |> Eq.trans Q2
  ·simp only[QqG];obtain⟨⟨a,b,lo,hi⟩,e⟩:∃q,X.T[j]? = some q:=⟨X.T[j],QqL hj⟩;have ht:=h.tr _ (QqJ e);have g1:a<X.Ls.length:=ht.1;have c:b<X.Ls.length:=ht.2.1;have nf:=(line h g1).2.1;have bf:=Zs h (i:=a) Q0;have bt:=Zs h (i:=b) Q0;have aa:Qi (X.T.map tuR) (j:Int)=some [Ql a,Ql b,Ql lo,Ql hi]:=X5 e;have s:X.pls X.L++Ch.map X.chE++(X.T.take (j+1)).map X.tuE=X.pls X.L++Ch.map X.chE++(X.T.take j).map X.tuE++[X.tuE (a,b,lo,hi)]:=by rw[Zv e,QqQ,<- QqP];rfl
   have d:=Q1d (R:=Int) (n:=400) h c (Nat.zero_le 10) some;rw[show((0:Nat):Int)=0 from rfl]at d;rw[QV,Qs hj,QqH,aa,s];simp -implicitDefEqProofs only[Qh,QqE,QqI,Qj,QfX (n:=400) h g1,d,QJ (show j<=1000 by omega),Qif (n:=400) (show base X.nr a+(X.nr a-1)<=1000 by omega),Qde (n:=400) (show base X.nr b+0<=1000 by omega),Qff (n:=400) (A:=X.pls X.L++Ch.map X.chE++(X.T.take j).map X.tuE) Q3];rfl
  ·simp only[QqG];rw[QV,Qy,QqF,Qr9]
 have u:∀k0:Int->Bool->LL->oP R,QX 400 Sy (Sy.length:Int) (X.fst X.L) k0 400 0 (X.pls X.L++Ch.map X.chE++X.T.map X.tuE)=k0 (Sy.length:Int) false (X.planned Ch Sy):=by
  intro k0;refine QY (r:=λm j=>QX 400 Sy (Sy.length:Int) (X.fst X.L) k0 m j (X.pls X.L++Ch.map X.chE++X.T.map X.tuE++(Sy.take j.toNat).map X.syE)) (N:=Sy.length) (λm j hj=>?_) (λm=>?_) Sy.length 400 0 Q0 Q0 |> Eq.trans Q2
  ·simp only[QqG];obtain⟨row,e⟩:∃q,Sy[j]? = some q:=⟨Sy[j],QqL hj⟩;obtain⟨o,rfl,g1,l,c⟩:=hl.sy row (QqJ e);have bt:=Zs h (i:=1) Q0;have d:=Q1d (R:=Int) (n:=400) h (show 0<X.Ls.length by omega) (Nat.zero_le 10) some;have g:=Q1d (R:=Int) (n:=400) h (show 1<X.Ls.length by omega) (Nat.zero_le 10) some;simp only[show((0:Nat):Int)=0 from rfl,show((1:Nat):Int)=1 from rfl]at d g;rw[QX,Qs hj,QqH,Qt,e,Zv e,QqQ,<- QqP];simp -implicitDefEqProofs only[Qh,QqE,QqI,Qj,d,g,QJ (show j<=1000 by omega),Qde (n:=400) (show base X.nr 0+0<=1000 by simp[base]),Qde (n:=400) (show base X.nr 1+0<=1000 by omega),Qff (n:=400) (A:=X.pls X.L++Ch.map X.chE++X.T.map X.tuE++(Sy.take j).map X.syE) Q3];rfl
  ·simp only[QqG];rw[QX,Qy,QqF,Qr9];rfl
 rw[s2,k,QqK,p,u]
end Cx
theorem OL.uniq:∀{l:Int} {O:List Occ},OL l O->∀{p q:Occ},p∈O->q∈O->p.1=q.1->p=q
 |_,[],_,_,_,h,_,_=>nomatch h
 |l,(x,a,b)::r,⟨c,h2,d,f,h5,h6⟩,p,q,hp,hq,e=>by
  cases hp with
  |head=>
   cases hq with
   |head=>rfl
   |tail _ hq=>have:=(h6.mem q hq).1;dsimp only at e;omega
  |tail _ hp=>
   cases hq with
   |head=>have:=(h6.mem p hp).1;dsimp only at e;omega
   |tail _ hq=>exact h6.uniq hp hq e
theorem Qdj{t:Int}{A A' B:List Occ}{y:Int}:FB t (A++A') B y↔FB t A B y\/FB t A' B y:=by
 constructor
 ·rintro⟨x,a,b,c,d,e,h2,f⟩;rcases QqN.1 e with e | e
  ·exact .inl ⟨x,a,b,c,d,e,h2,f⟩
  ·exact .inr ⟨x,a,b,c,d,e,h2,f⟩
 ·rintro (⟨x,a,b,c,d,e,h2,f⟩|⟨x,a,b,c,d,e,h2,f⟩)
  ·exact⟨x,a,b,c,d,Qre _ e,h2,f⟩
  ·exact⟨x,a,b,c,d,Qrd _ e,h2,f⟩
def EE(f:Nat->Bool)(n:Nat):LL:=(List.range n).map λi=>[D.bool (f i)]
theorem Q7p{f:Nat->Bool}{n:Nat}:(EE f n).length=n:=by simp[EE]
theorem DD{f:Nat->Bool}{n i:Nat}(h:i<n):(EE f n)[i]? = some [D.bool (f i)]:=by simp[EE,h]
theorem QbN{f g:Nat->Bool}{n i:Nat}(h:∀y,y<n->g y=if y=i then true else f y):(EE f n).set i [D.bool true]=EE g n:=by
 apply Qrn;intro j
 grind[DD,List.getElem?_eq_none,Q7p]
section
variable{R:Type} {n:Nat} {t:Int}
theorem Q6M{O:List Occ}(hl:O.length<=1000){k0:oP R}{k1:Int->Bool->oP R}{E:oP R}(hk:∀b c,k1 b c=E):∀(aa:List Occ) (i m:Nat) (last:Int),O.drop i=aa->aa.length<m -> -1<=last->OL last aa->(0<i->∃a b,O[i-1]? = some (last,a,b))->Z3 n (O.map enc) k0 k1 m (i:Int)=E
 |[],i,m+1,last,hd,_,_,_,_=>by
  have:=ZI hd;rw[Z3,QqK,show decide ((i:Int)<(O.length:Int))=false by simpa using this,QqF,hk]
 |(x,a,b)::aa,i,m+1,last,hd,hm,ak,⟨f,h2,g,h,h5,h6⟩,hp=>by
  obtain⟨e,ac,hi⟩:=Y8 hd;have ih:=Q6M (k0:=k0) hl hk aa (i+1) m x ac (by simpa using hm) Q0 h6 (λ_=>⟨a,b,e⟩);rw[Z3,QqK,Qs hi,QqH,X5 e];simp -implicitDefEqProofs only[Qh,Mh,F0,Ee,Qj,Q5 (x<0),Qr6,Bool.true_and,QqF,QJ (show i<=1000 by omega)];have rest:∀z:Bool,z=false->(bif bif bif bif z then true else decide (a<(-65536:Int))then true else decide (b>(65536:Int))then true else decide (a>=b)then k0 else Z3 n (O.map enc) k0 k1 m ((i+1:Nat):Int))=E:=λz hz=>by
   rw[hz,Q5 (a < -65536),Q5 (b>65536),Q5 (a>=b)];exact ih
  by_cases d:i=0
  ·subst d;simp -implicitDefEqProofs only[show decide (((0:Nat):Int)>0)=false from rfl,gbF,QqF];exact rest false rfl
  ·obtain⟨a',b',e'⟩:=hp Q0;rw[JS (show i<=1000 by omega) Q0,X5 e'];simp -implicitDefEqProofs only[Qh,Mh,Qj,Q6 ((i:Int)>0),QqH];exact rest _ (QqO Q0)
theorem Qab{O:List Occ}(hl:O.length<=300)(h:OL (-1) O):JF 400 (O.map enc) (some:Bool->oP Bool)=some true:=by
 exact Q6M Q0 (λ_ _=>rfl) O 0 400 (-1) rfl Q0 Q0 h (λh=>by omega)
theorem Q9z{O:List Occ}(hl:O.length<=1000){x:Int}{K:D->D->D->Bool->oP R}{k0:D->D->D->oP R}{k1:Int->Bool->oP R}(g:∀a b c,k0 a b c=K a b c true)(h:∀a b,k1 a b=K (Ql 0) (Ql 0) (Ql 0) false):∀(aa:List Occ) (i m:Nat),O.drop i=aa->aa.length<m->(∃c d,(x,c,d)∈aa/\Up n (O.map enc) x k0 k1 m (i:Int)=K (Ql x) (Ql c) (Ql d) true)\/((∀p∈aa,p.1≠x)/\Up n (O.map enc) x k0 k1 m (i:Int)=K (Ql 0) (Ql 0) (Ql 0) false)
 |[],i,m+1,hd,_=>by
  have:=ZI hd;refine .inr ⟨λp hp=>(nomatch hp),?_⟩;rw[Up,QqK,show decide ((i:Int)<(O.length:Int))=false by simpa using this,QqF,h]
 |(x',a,b)::aa,i,m+1,hd,hm=>by
  obtain⟨e,ac,hi⟩:=Y8 hd;rw[Up,QqK,Qs hi,QqH,X5 e];simp -implicitDefEqProofs only[Qh,Mh,F0,Ee,Qj,QJ (show i<=1000 by omega),g];by_cases hx:x'=x
  ·subst hx;exact .inl ⟨a,b,.head _,by rw[show(x' == x')=true by simp,QqH]⟩
  ·rw[show(x' == x)=false by simpa using hx,QqF];rcases Q9z hl g h aa (i+1) m ac (by simpa using hm)with⟨c,d,f,h2⟩|⟨f,h2⟩
   ·exact .inl ⟨c,d,.tail _ f,h2⟩
   ·refine .inr ⟨λp hp=>?_,h2⟩;cases hp with
    |head=>exact hx
    |tail _ hp=>exact f p hp
theorem Qgm{f k y:Int}(a:1<=t)(hy:0<=y)(aa:y<t)(hk:0<=k)(ac:k<t):y=(f+k) % t↔(y-f) % t=k:=by
 constructor
 ·intro h;rw[h,Int.sub_emod,Int.emod_emod,<- Int.sub_emod,show f+k-f=k by omega];exact Qrm hk ac
 ·intro h;rw[<- h,Int.add_emod,Int.emod_emod,<- Int.add_emod,show f+(y-f)=y by omega];exact(Qrm hy aa).symm
theorem QeZ(c:1<=t)(o:t<=300){K:LL->oP R}{k0:Int->Bool->LL->oP R}(hk:∀a b w,k0 a b w=K w){A:List Occ}{i:Nat}{x a b d nn:Int}(e:A[i]? = some (x,a,b))(ha : -1000<=a)(ao:a<=20000)(hd : -1000<=d)(an:d<=20000){f:Nat->Bool} :
  ∃g:Nat->Bool,Zd n t (A.map enc) (i:Int) nn (Ql d) k0 400 0 (EE f t.toNat)=K (EE g t.toNat)/\∀y,y<t.toNat->(g y=true↔f y=true\/((y:Int)-(a-d+1)) % t<nn):=by
 let N:Nat:=(if nn<t then nn else t).toNat;have hN:(N:Int)=if nn<0 then 0 else if nn<t then nn else t:=by
  show(((if nn<t then nn else t).toNat:Nat):Int)=_;split<;>split<;>omega
 have ac:(N:Int)<=t:=by rw[hN];split<;>(try split)<;>omega
 have am:(N:Int)<=nn\/N=0:=by
  by_cases h:nn<0
  ·rw[QqW h]at hN;right;omega
  ·rw[QqZ h]at hN;left;rw[hN];split<;>omega
 refine⟨λy=>f y||decide (((y:Int)-(a-d+1)) % t<(N:Int)),?_,λy hy=>?_⟩
 ·have j:EE f t.toNat=EE (λy=>f y||decide (((y:Int)-(a-d+1)) % t<((0:Nat):Int))) t.toNat:=by
   unfold EE;apply List.map_congr_left;intro y _;have:=Qr3 ((y:Int)-(a-d+1)) (show t≠0 by omega);show[D.bool (f y)]=[D.bool (f y||decide (((y:Int)-(a-d+1)) % t<((0:Nat):Int)))];rw[Q5 (((y:Int)-(a-d+1)) % t<((0:Nat):Int)),Bool.or_false]
  rw[j];refine QY (r:=λm k=>Zd n t (A.map enc) (i:Int) nn (Ql d) k0 m k (EE (λy=>f y||decide (((y:Int)-(a-d+1)) % t<k)) t.toNat)) (N:=N) (λm k ai=>?_) (λm=>?_) N 400 0 Q0 Q0
  ·have l:=Qr3 (a-d+1+(k:Int)) (show t≠0 by omega);have p:=Qr0 (a-d+1+(k:Int)) (show 0<t by omega);rw[Zd,Q6 ((k:Int)<nn),Q6 ((k:Int)<t),QqH,QqH,X5 e];simp -implicitDefEqProofs only[Qh,F0,Qj,Qo (x:=a-d) Q0 Q0,Qo (x:=a-d+1) Q0 Q0,Qo (x:=a-d+1+(k:Int)) Q0 Q0,QhY (n:=n) (x:=a-d+1+(k:Int)) c (show t<=7200 by omega) Q0 Q0,Q7p,XP (len:=t.toNat) l Q0,DD (f:=λy=>f y||decide (((y:Int)-(a-d+1)) % t<(k:Int))) (n:=t.toNat) (i:=((a-d+1+(k:Int)) % t).toNat) Q0,QqY];rw[QbN (g:=λy=>f y||decide (((y:Int)-(a-d+1)) % t<((k+1:Nat):Int))) (λy hy=>?_),Qo Q0 Q0]
   ·rfl
   ·have hd:=Qgm (t:=t) (f:=a-d+1) (k:=k) (y:=y) c Q0 Q0 Q0 Q0;by_cases aa:y=((a-d+1+(k:Int)) % t).toNat
    ·rw[QqW aa,show decide (((y:Int)-(a-d+1)) % t<((k+1:Nat):Int))=true from QqR (by have:=hd.1 Q0;omega),Bool.or_true]
    ·rw[QqZ aa];congr 1;rw[decide_eq_decide];have:¬ ((y:Int)-(a-d+1)) % t=(k:Int):=λh=>aa (by have:=hd.2 h;omega)
     omega
  ·rw[Zd];rw[show(bif decide ((N:Int)<nn)then decide ((N:Int)<t)else false)=false by
    by_cases h:(N:Int)<nn
    ·rw[QqR h,QqH];exact QqO (by rw[hN];split<;>(try split)<;>omega)
    ·rw[QqO h,QqF],QqF,hk]
 ·have q:=Qr3 ((y:Int)-(a-d+1)) (show t≠0 by omega);have s:=Qr0 ((y:Int)-(a-d+1)) (show 0<t by omega);rw[Bool.or_eq_true,decide_eq_true_eq];refine or_congr_right ?_;rw[hN];split<;>(try split)<;>omega
theorem Q2f(o:1<=t)(p:t<=300){K:LL->oP R}{k0:Int->Bool->LL->oP R}(hk:∀a b w,k0 a b w=K w){A B:List Occ}(hA:OL (-1) A)(hB:OL (-1) B)(lA:A.length<=100)(lB:B.length<=300):∀(ac P:List Occ) (m:Nat) (f:Nat->Bool),A=P++ac->ac.length<m->(∀y,y<t.toNat->(f y=true↔FB t P B y)) ->
  ∃g:Nat->Bool,Yg 400 t (A.map enc) (B.map enc) k0 m (P.length:Int) (EE f t.toNat)=K (EE g t.toNat)/\∀y,y<t.toNat->(g y=true↔FB t A B y)
 |[],P,m+1,f,hP,_,hf=>by
  rw[QqX]at hP;subst hP;refine⟨f,?_,hf⟩;rw[Yg,QqK,Qy,QqF,hk]
 |(x,a,b)::ac,P,m+1,f,hP,hm,hf=>by
  have e:A[P.length]? = some (x,a,b):=by rw[hP,List.getElem?_append_right (Qrh _),Nat.sub_self];rfl
  have hi:P.length<A.length:=by rw[hP];simp
  have hq:=hA.mem (x,a,b) (QqJ e);dsimp only at hq;have ak:A=(P++[(x,a,b)])++ac:=by rw[hP];simp
  have ai:=Q9z (n:=400) (O:=B) (x:=x) (K:=λi j k z=>(some (i,j,k,z):oP (D×D×D×Bool))) (k0:=λi j k=>some (i,j,k,true)) (k1:=λ_ _=>some (Ql 0,Ql 0,Ql 0,false)) Q0 (λ_ _ _=>rfl) (λ_ _=>rfl) B 0 400 rfl Q0;rw[Yg,QqK,Qs hi,QqH,X5 e];simp -implicitDefEqProofs only[Qh,Mh,F0,Ee,Qj];unfold Ap;have nx:wJ ((P.length:Int)+1)=(((P++[(x,a,b)]).length:Nat):Int):=by rw[Qo Q0 Q0];simp
  rw[nx];rcases ai with⟨c,d,g1,q⟩|⟨g1,q⟩
  ·have u:=hB.mem (x,c,d) g1;dsimp only at u;rw[show Up 400 (B.map enc) x (λi j k=>(some (i,j,k,true):oP (D×D×D×Bool))) (λv aa=>some (D.int .i64 (0:Int),D.int .i64 (0:Int),D.int .i64 (0:Int),false)) 400 0=some (Ql x,Ql c,Ql d,true)from q];simp -implicitDefEqProofs only[Qh,QqS,QqF,Qj];have ao:wJ (wJ (wJ (wJ (b-a)+d)-c)-1)=b-a+d-c-1:=by
    rw[Qo (x:=b-a) Q0 Q0,Qo (x:=b-a+d) Q0 Q0,Qo (x:=b-a+d-c) Q0 Q0,Qo Q0 Q0]
   rw[ao];obtain⟨g,k1,k2⟩:=QeZ (n:=400) (nn:=b-a+d-c-1) o p (K:=λw=>Yg 400 t (A.map enc) (B.map enc) k0 m (((P++[(x,a,b)]).length:Nat):Int) w) (k0:=λ_ _ w=>Yg 400 t (A.map enc) (B.map enc) k0 m (((P++[(x,a,b)]).length:Nat):Int) w) (λ_ _ _=>rfl) (f:=f) e (d:=d) Q0 Q0 Q0 Q0;rw[k1];refine Q2f o p hk hA hB lA lB ac _ m g ak (by simpa using hm) (λy hy=>?_);rw[k2 y hy,Qdj,hf y hy];refine or_congr_right ⟨λh=>⟨x,a,b,c,d,.head _,g1,h⟩,?_⟩;rintro⟨x',a',b',c',d',l,r,s⟩;cases l with
   |head=>
    cases hB.uniq r g1 rfl;exact s
   |tail _ l=>nomatch l
  ·rw[show Up 400 (B.map enc) x (λi j k=>(some (i,j,k,true):oP (D×D×D×Bool))) (λv aa=>some (D.int .i64 (0:Int),D.int .i64 (0:Int),D.int .i64 (0:Int),false)) 400 0=some (Ql 0,Ql 0,Ql 0,false)from q];simp -implicitDefEqProofs only[Qh,Qr6,QqH];refine Q2f o p hk hA hB lA lB ac _ m f ak (by simpa using hm) (λy hy=>?_);rw[Qdj,hf y hy];refine⟨.inl,λh=>h.elim id ?_⟩;rintro⟨x',a',b',c',d',l,r,s⟩;cases l with
   |head=>exact(g1 _ r rfl).elim
   |tail _ l=>nomatch l
theorem VS.lastlt{t c d:Int}:∀{l:Int} {M:List Sp2},VS t l (M++[(c,d)])->(∀q∈M,q.2<c)/\c<d/\d<=t
 |l,[],⟨g,h2,f,_⟩=>⟨λq hq=>(nomatch hq),h2,f⟩
 |l,(a,b)::M,⟨g,h2,f,e⟩=>by
  have ih:=e.lastlt;refine⟨λq hq=>?_,ih.2⟩;cases hq with
  |head=>
   cases M with
   |nil=>exact e.1
   |cons p M=>have:=ih.1 p (.head _);have:=e.1;have:=e.2.1;dsimp only at *;omega
  |tail _ hq=>exact ih.1 q hq
theorem VS.pw{t:Int}:∀{l:Int} {F:List Sp2},VS t l F->F.Pairwise λp q=>p.2<q.1
 |_,[],_=>.nil
 |l,(a,b)::r,⟨d,h2,e,c⟩=>.cons (λq hq=>(c.rng q hq).1) c.pw
theorem VS.sep{t:Int}:∀{l:Int} {F:List Sp2},VS t l F->∀p∈F,∀q∈F,p=q\/p.2<q.1\/q.2<p.1
 |_,[],_,p,hp,_,_=>nomatch hp
 |l,(a,b)::r,⟨d,h2,e,c⟩,p,hp,q,hq=>by
  have hr:=c.rng;cases hp with
  |head=>
   cases hq with
   |head=>exact .inl rfl
   |tail _ hq=>exact .inr (.inl (hr q hq).1)
  |tail _ hp=>
   cases hq with
   |head=>exact .inr (.inr (hr p hp).1)
   |tail _ hq=>exact c.sep p hp q hq
structure GP(t:Int)(F G:List Sp2):Prop where
 asc:G.Pairwise λp q=>p.1<q.1
 rng:∀q∈G,0<=q.1/\q.1<t/\q.1<q.2/\q.2<q.1+t
 ins:∀q∈G,∀z,q.1<=z->z<q.2->InS (z % t) F
 out:∀q∈G,¬ InS (q.2 % t) F
 st:∀x,0<=x->x<t->((InS x F/\¬ InS ((x-1) % t) F)↔∃q∈G,q.1=x)
theorem Qbg{z t:Int}(a:0<=z)(b:z<t):z % t=z:=Qrm a b
theorem QjR{z t:Int}(a:t<=z)(b:z<t+t):z % t=z-t:=by
 rw[<- Qrm (show 0<=z-t by omega) (show z-t<t by omega),Int.sub_emod_right]
theorem QjB{t:Int}(h:1<=t):(-1:Int) % t=t-1:=by
 rw[<- Qrm (show 0<=t-1 by omega) (show t-1<t by omega),show t-1 = -1+t by omega,Int.add_emod_right]
theorem WR.gp{t:Int}{F G:List Sp2}(l:1<=t)(hv:VS t (-1) F)(hc:cnt F≠t)(hw:WR t F G):GP t F G:=by
 have hr:=hv.rng;have hs:=hv.sep;have ax:=hv.cnt Q0;have aw:=Qb2 hv Q0;have gap:∀q∈F,¬ InS q.2 F:=λq hq ⟨p,hp,h⟩=>by
  grind
 have aa:∀q∈F,¬ InS (q.1-1) F:=λq hq ⟨p,hp,h⟩=>by
  grind
 have small:∀q∈F,q.2-q.1<t:=λq hq=>by
  have:=aw q hq;have:=ax.2.2 (List.length_pos_of_mem hq);omega
 have ac:∀x,0<=x->x<t->InS x F->¬ InS ((x-1) % t) F->∃q∈F,q.1=x:=λx i j ⟨q,hq,h⟩ hn=>by
  have:=hr q hq;by_cases hx:q.1=x
  ·exact⟨q,hq,hx⟩
  ·exact(hn ⟨q,hq,by rw[Qbg Q0 Q0];omega,by rw[Qbg Q0 Q0];omega⟩).elim
 rcases hw with⟨rfl,hw⟩|⟨b,M,c,rfl,rfl⟩
 ·have an:∀p∈G,∀q∈G,p.1=0->q.2=t->False:=λp hp q hq o h2=>by
   have aq:p≠q:=λe=>by have:=small p hp;rw[<- e]at h2;omega
   rcases G with _ | ⟨⟨a,b⟩,G⟩
   ·nomatch hp
   obtain⟨r,s,u,f⟩:=id hv;have ai:=f.rng;have ay:p=(a,b):=by
    cases hp with
    |head=>rfl
    |tail _ hp=>have:=ai p hp;omega
   subst ay;obtain rfl:a=0:=o;rcases List.eq_nil_or_concat G with rfl | ⟨M,⟨c,d⟩,rfl⟩
   ·cases hq with
    |head=>exact aq rfl
    |tail _ hq=>nomatch hq
   ·rw[List.concat_eq_append]at *
    have hl:=f.lastlt;cases hq with
    |head=>exact aq rfl
    |tail _ hq=>
     rcases QqN.1 hq with hq | hq
     ·have:=hl.1 q hq;omega
     ·obtain rfl:=QqT.1 hq;obtain rfl:d=t:=h2;exact hw b M c rfl
  refine⟨hv.pw.imp_of_mem λ{p q} hp hq h=>by have:=hr p hp;omega,λq hq=>by have:=hr q hq;have:=small q hq;omega,λq hq z g k=>?_,λq hq=>?_,λx i j=>⟨λh=>ac x i j h.1 h.2,?_⟩⟩
  ·have:=hr q hq;rw[Qbg Q0 Q0];exact⟨q,hq,g,k⟩
  ·have:=hr q hq;by_cases m:q.2=t
   ·rw[m,Int.emod_self];rintro⟨p,hp,h⟩;have:=hr p hp;exact an p hp q hq Q0 m
   ·rw[Qbg Q0 Q0];exact gap q hq
  ·rintro⟨q,hq,rfl⟩;have:=hr q hq;refine⟨⟨q,hq,Int.le_refl _,this.2.1⟩,?_⟩;by_cases n:q.1=0
   ·rw[n,show(0:Int)-1 = -1 by omega,QjB l];rintro⟨p,hp,h⟩;have:=hr p hp;exact an q hq p hp n Q0
   ·rw[Qbg Q0 Q0];exact aa q hq
 ·obtain⟨r,s,u,f⟩:=id hv;have hl:=f.lastlt;have ai:=f.rng;have hM:∀q∈M,b<q.1/\q.1<q.2/\q.2<c:=λq hq=>by
   have:=ai q (Qre _ hq);have:=hl.1 q hq;omega
  have am:∀q∈M,q∈(0,b)::(M++[(c,t)]):=λq hq=>.tail _ (Qre _ hq)
  have ak:(c,t)∈(0,b)::(M++[(c,t)]):=.tail _ (Qrd _ (.head _));have ar:(0,b)∈(0,b)::(M++[(c,t)]):=.head _;have a2:b<c:=(ai (c,t) (Qrd _ (.head _))).1;refine⟨?_,λq hq=>?_,λq hq z g k=>?_,λq hq=>?_,λx i j=>⟨λh=>?_,?_⟩⟩
  ·refine Qrf.2 ⟨(Qrf.1 f.pw).1.imp_of_mem λ{p q} hp hq h=>by have:=hM p hp;omega,List.pairwise_singleton _ _,λp hp q hq=>?_⟩;obtain rfl:=QqT.1 hq;have:=hM p hp;dsimp only;omega
  ·rcases QqN.1 hq with h | h
   ·have:=hM q h;omega
   ·obtain rfl:=QqT.1 h;dsimp only;omega
  ·rcases QqN.1 hq with h | h
   ·have:=hM q h;rw[Qbg Q0 Q0];exact⟨q,am q h,g,k⟩
   ·obtain rfl:=QqT.1 h;dsimp only at g k;by_cases hz:z<t
    ·rw[Qbg Q0 hz];exact⟨_,ak,g,hz⟩
    ·rw[QjR Q0 Q0];exact⟨_,ar,by dsimp only;omega,by dsimp only;omega⟩
  ·rcases QqN.1 hq with h | h
   ·have:=hM q h;rw[Qbg Q0 Q0];exact gap q (am q h)
   ·obtain rfl:=QqT.1 h;dsimp only;rw[QjR Q0 Q0,show t+b-t=b by omega];exact gap _ ar
  ·obtain⟨q,hq,rfl⟩:=ac x i j h.1 h.2;cases hq with
   |head=>
    refine(h.2 ?_).elim;dsimp only;rw[show(0:Int)-1 = -1 by omega,QjB l];exact⟨_,ak,by dsimp only;omega,by dsimp only;omega⟩
   |tail _ hq=>
    rcases QqN.1 hq with hq | hq
    ·exact⟨q,Qre _ hq,rfl⟩
    ·obtain rfl:=QqT.1 hq;exact⟨(c,t+b),Qrd _ (.head _),rfl⟩
  ·rintro⟨q,hq,rfl⟩;rcases QqN.1 hq with h | h
   ·have:=hM q h;refine⟨⟨q,am q h,Int.le_refl _,this.2.1⟩,?_⟩;rw[Qbg Q0 Q0];exact aa q (am q h)
   ·obtain rfl:=QqT.1 h;dsimp only;refine⟨⟨_,ak,Int.le_refl _,hl.2.1⟩,?_⟩;rw[Qbg Q0 Q0];exact aa _ ak
theorem QbA{t:Int}{F:List Sp2}(i:1<=t)(hv:VS t (-1) F):cnt F=t↔∀y,0<=y->y<t->InS y F:=by
 rcases F with _ | ⟨⟨a,b⟩,r⟩
 ·exact⟨λh=>by grind[cnt],λh=>absurd (h 0 Q0 Q0) LZ⟩
 obtain⟨j,k,f,e⟩:=hv;have hc:=e.cnt f;rcases r with _ | ⟨⟨c,d⟩,r⟩
 ·simp only[cnt,Tf];constructor
  ·omega
  ·intro h;have g:=(h 0 Q0 Q0).resolve_right LZ;have h2:=(h (t-1) Q0 Q0).resolve_right LZ;omega
 ·have:=hc.2.2 Q2;have w:=e.1;constructor
  ·grind[cnt]
  ·intro h;have aa:=e.rng;have:=aa (c,d) (.head _);dsimp only at this;obtain⟨p,hp,g,h2⟩:=h b Q0 Q0
   grind
theorem Q68(d:t<=300){f:Nat->Bool}{k0:Int->Int->Bool->oP R}{K:Int->oP R}(hk:∀a b c,k0 a b c=K a):∀(c m x:Nat) (w:Int),(x:Int)+c=t->c<m->0<=w->w<=x->(w=x↔∀y:Nat,y<x->f y=true)->∃w',WE n t (EE f t.toNat) k0 m w (x:Int)=K w'/\(w'=t↔∀y:Nat,(y:Int)<t->f y=true)
 |0,m+1,x,w,hx,_,_,_,hw=>⟨w,by rw[WE,Q5 ((x:Int)<t),QqF,hk],by
  grind⟩
 |c+1,m+1,x,w,hx,hm,w0,e,hw=>by
  have aa:Qi (EE f t.toNat) (x:Int)=some [D.bool (f x)]:=by grind[Qt,DD]
  rw[WE,Q6 ((x:Int)<t),QqH,aa];simp -implicitDefEqProofs only[Qh,QqE,Lx,QJ (show x<=1000 by omega)];cases ac:f x with
  |false=>
   refine Q68 d hk c m (x+1) w Q0 Q0 w0 Q0 ⟨λh=>by omega,λh=>?_⟩
   simp_all
  |true=>
   rw[QqH,Qo Q0 Q0];refine Q68 d hk c m (x+1) (w+1) Q0 Q0 Q0 Q0 ⟨λh y hy=>?_,λh=>?_⟩
   all_goals grind
theorem Qgv(b:1<=t)(c:t<=300){f:Nat->Bool}{k0:Int->Bool->oP R}{a:Int}{L:Nat}(a0:0<=a)(a1:a<t)(hL:(L:Int)<t)(ac:∀k:Nat,k<L->f ((a+k) % t).toNat=true)(aa:f ((a+L) % t).toNat=false):WN n t (EE f t.toNat) a k0 400 0=k0 (L:Int) false:=by
 have step:∀k:Nat,k<=L->Qi (EE f t.toNat) (Int.tmod (wJ (a+k)) t)=some [D.bool (f ((a+k) % t).toNat)]:=λk hk=>by
  have d:=Qr3 (a+(k:Int)) (show t≠0 by omega);have e:=Qr0 (a+(k:Int)) (show 0<t by omega);rw[Qo Q0 Q0,Int.tmod_eq_emod_of_nonneg Q0];obtain⟨z,hz⟩:∃z:Nat,(a+(k:Int)) % t=z:=⟨((a+(k:Int)) % t).toNat,Q0⟩;rw[hz,Qt,QqG];exact DD Q0
 refine QY (r:=λm k=>WN n t (EE f t.toNat) a k0 m k) (N:=L) (λm k hk=>?_) (λm=>?_) L 400 0 Q0 Q0
 ·rw[WN,CR Q0,step k Q0];simp -implicitDefEqProofs only[Qh,QqE,Lx,ac k hk,QqH,QJ (show k<=1000 by omega)]
 ·rw[WN,CR Q0,step L (Qrh _)];simp -implicitDefEqProofs only[Qh,QqE,Lx,aa,QqF]
theorem Q61(g:1<=t)(i:t<=300){f:Nat->Bool}{F G:List Sp2}(hf:∀y:Nat,(y:Int)<t->(f y=true↔InS y F))(hG:GP t F G){K:LL->oP R}{k0:Int->Bool->LL->oP R}(hk:∀a b w,k0 a b w=K w):∀(c m x:Nat) (P S:List Sp2),(x:Int)+c=t->c<m->G=P++S->P.length<=x->(∀q∈P,q.1<x)->(∀q∈S,(x:Int)<=q.1)->Yv 400 t (EE f t.toNat) k0 m (x:Int) ((P.map (Q3O t)).map Yl)=K ((G.map (Q3O t)).map Yl)
 |0,m+1,x,P,S,hx,_,aa,_,_,hS=>by
  have:S=[]:=by
   cases S with
   |nil=>rfl
   |cons q S=>have:=hS q (.head _);have:=hG.rng q Q4;omega
  rw[Yv,Q5 ((x:Int)<t),QqF,hk,aa,this,QqX]
 |c+1,m+1,x,P,S,hx,hm,aa,hl,hP,hS=>by
  have fi:∀z:Int,f (z % t).toNat=true↔InS (z % t) F:=λz=>by
   have l:=Qr3 z (show t≠0 by omega);have o:=Qr0 z (show 0<t by omega);have:=hf (z % t).toNat Q0;rw[show(((z % t).toNat:Nat):Int)=z % t by omega]at this;exact this
  have ao:Qi (EE f t.toNat) (x:Int)=some [D.bool (f x)]:=by rw[Qt];exact DD Q0
  have l:=Qr3 ((x:Int)-1) (show t≠0 by omega);have o:=Qr0 ((x:Int)-1) (show 0<t by omega);have ak:Qi (EE f t.toNat) (((x:Int)-1) % t)=some [D.bool (f (((x:Int)-1) % t).toNat)]:=by
   obtain⟨z,hz⟩:∃z:Nat,((x:Int)-1) % t=z:=⟨(((x:Int)-1) % t).toNat,Q0⟩;rw[hz,Qt,QqG];exact DD Q0
  rw[Yv,Q6 ((x:Int)<t),QqH,ao];simp -implicitDefEqProofs only[Qh,QqE,Lx,QJ (show x<=1000 by omega),Qo (x:=(x:Int)-1) Q0 Q0,QhY (n:=400) (x:=(x:Int)-1) g (show t<=7200 by omega) Q0 Q0,ak];have ai:=hG.st x Q0 Q0;have am:=hf x Q0;have aq:=fi ((x:Int)-1);have a3:∀(R':Type) (p:Bool) (d:R') (v:R') (k:R'->oP R),gb p (some v) d k=gb p (some v) d k:=λ_ _ _ _ _=>rfl
  have skip:(∀q∈G,q.1≠x)->Yv 400 t (EE f t.toNat) k0 m ((x+1:Nat):Int) ((P.map (Q3O t)).map Yl)=K ((G.map (Q3O t)).map Yl):=λar=>by
   refine Q61 g i hf hG hk c m (x+1) P S Q0 Q0 aa Q0 (λq hq=>by have:=hP q hq;omega) (λq hq=>?_);have:=hS q hq;have:=ar q (by rw[aa];exact Qrd _ hq);omega
  cases hb:f x with
  |false=>
   simp -implicitDefEqProofs only[Qr6,QqS,gbF,QqH];refine skip λq hq e=>?_
   have:=(ai.2 ⟨q,hq,e⟩).1;rw[<- am,hb]at this;cases this
  |true=>
   simp -implicitDefEqProofs only[Qr6,QqS,Qh,QqF];cases j:f (((x:Int)-1) % t).toNat with
   |true=>
    rw[QqH];refine skip λq hq e=>?_
    exact(ai.2 ⟨q,hq,e⟩).2 (aq.1 j)
   |false=>
    rw[QqF];obtain⟨q,hq,aw⟩:=ai.1 ⟨am.1 hb,λh=>by rw[<- aq,j]at h;cases h⟩;obtain⟨S',ay⟩:∃S',S=q::S':=by
     rw[aa]at hq;rcases QqN.1 hq with h | h
     ·have:=hP q h;omega
     cases S with
     |nil=>nomatch h
     |cons p S=>
      cases h with
      |head=>exact⟨S,rfl⟩
      |tail _ h=>
       have ha:=hG.asc;rw[aa]at ha;have:=(Qr2.1 (Qrf.1 ha).2.1).1 q h;have:=hS p (.head _);omega
    subst ay;have hr:=hG.rng q hq;obtain⟨L,hL⟩:∃L:Nat,q.2=x+L:=⟨(q.2-q.1).toNat,Q0⟩;have ax:=hG.ins q hq;have an:=hG.out q hq;rw[Qgv (n:=400) (k0:=_) (a:=(x:Int)) (L:=L) g i Q0 Q0 Q0 (λk hk=>(fi _).2 (ax _ Q0 Q0)) (by
     cases h:f (((x:Int)+L) % t).toNat with
     |false=>rfl
     |true=>rw[<- hL]at h;exact(an ((fi _).1 h)).elim)]
    have hw:[Ql ((x:Int)+L),Ql ((x:Int)+t-1)]=Yl (Q3O t q):=by rw[<- hL,<- aw];rfl
    rw[Qo (x:=(x:Int)+L) Q0 Q0,Qo (x:=(x:Int)+t) Q0 Q0,Qo (x:=(x:Int)+t-1) Q0 Q0,XI Q3,Qh];have:=Q61 g i hf hG hk c m (x+1) (P++[q]) S' Q0 Q0 (by rw[aa];simp) Q3 (λp hp=>by
     rcases QqN.1 hp with h | h
     ·have:=hP p h;omega
     ·obtain rfl:=QqT.1 h;omega) (λp hp=>by
     have ha:=hG.asc;rw[aa]at ha;have:=(Qr2.1 (Qrf.1 ha).2.1).1 p hp;omega)
    rw[QqQ,QqQ,List.map_singleton,List.map_singleton,<- hw]at this;exact this
theorem Qc4{A B:List Occ}(o:2<=t)(a:t<=300)(hA:OL (-1) A)(hB:OL (-1) B)(lA:A.length<=6)(lB:B.length<=6){F G:List Sp2}(hv:VS t (-1) F)(hF:∀y,0<=y->y<t->(InS y F↔FB t A B y))(hw:WR t F G) :
  H7 400 t (A.map enc) (B.map enc) Tu2=some (if cnt F=t then([],(13:Int))else((G.map (Q3O t)).map Yl,(0:Int))):=by
 obtain⟨f,i,j⟩:=Q2f Q0 a (K:=λw=>(some (w,(0:Int)):oP (LL×Int))) (k0:=λ_ _ w=>some (w,(0:Int))) (λ_ _ _=>rfl) hA hB Q0 Q0 A [] 400 (λ_=>false) rfl Q0 (λy _=>⟨λh=>(nomatch h),λ⟨_,_,_,_,_,h,_⟩=>(nomatch h)⟩);have hf:∀y:Nat,(y:Int)<t->(f y=true↔InS y F):=λy hy=>by rw[j y Q0,hF y Q0 hy]
 have hm:KT 400 t (A.map enc) (B.map enc) Tu2=some (EE f t.toNat,(0:Int)):=by
  unfold KT;rw[Q5f Q0 (show t<=7200 by omega),Qab Q0 hA,Qab Q0 hB];simp -implicitDefEqProofs only[Qh,QqS,Qr6,QqF];rw[show(bif decide ((0:Int)<=t)&&decide (t<=t)then some ()else none)=some () by rw[Xh Q3],Qh,XI Q0,Qh];have e:List.replicate t.toNat [D.bool false]=EE (λ_=>false) t.toNat:=by unfold EE;rw[List.map_const',Qrg]
  rw[e];exact i
 unfold H7;rw[hm,Qh,Qp (by rfl)];obtain⟨w,k,w2⟩:=Q68 (n:=400) a (f:=f) (K:=λd=>bif (d == t)then(some ([],(13:Int)):oP (LL×Int))else Yv 400 t (EE f t.toNat) (λl m g=>some (g,(0:Int))) 400 (0:Int) []) (k0:=λd p r=>bif (d == t)then(some ([],(13:Int)):oP (LL×Int))else Yv 400 t (EE f t.toNat) (λl m g=>some (g,(0:Int))) 400 (0:Int) []) (λ_ _ _=>rfl) t.toNat 400 0 0 Q0 Q0 Q0 Q0 ⟨λ_ y hy=>by omega,λ_=>rfl⟩;refine k.trans ?_;have hc:w=t↔cnt F=t:=by
  rw[w2,QbA Q0 hv];constructor
  ·intro h y s u;have:=(hf y.toNat Q0).1 (h y.toNat Q0);rw[show(y.toNat:Int)=y by omega]at this;exact this
  ·exact λh y hy=>(hf y hy).2 (h y Q0 hy)
 by_cases aa:cnt F=t
 ·rw[QqW aa,Xh (by simpa using hc.2 aa)]
 ·rw[QqZ aa,Qp (by simpa using λh=>aa (hc.1 h))];exact Q61 Q0 a hf (hw.gp Q0 hv aa) (K:=λw=>some (w,(0:Int))) (k0:=λ_ _ w=>some (w,(0:Int))) (λ_ _ _=>rfl) t.toNat 400 0 [] G Q0 Q0 rfl Q2 (λq hq=>nomatch hq) (λq hq=>((hw.gp Q0 hv aa).rng q hq).1)
end
theorem D9{R:Type}{n:Nat}{O:List Occ}(hl:O.length<=1000){q:Int->Bool}{K:LL->oP R}{k0:Int->Bool->LL->oP R}(hk:∀a b w,k0 a b w=K w):∀(aa P:List Occ) (j m:Nat),O.drop j=aa->aa.length<m->P.length<=j->Yc n (O.map enc) (O.length:Int) q k0 m (j:Int) (P.map enc)=K ((P++aa.filter λo=>!q o.1).map enc)
 |[],P,j,m+1,hd,_,_=>by
  have:=ZI hd;rw[Yc,show decide ((j:Int)<(O.length:Int))=false by simpa using this,QqF,hk,List.filter_nil,QqX]
 |o::aa,P,j,m+1,hd,hm,hP=>by
  obtain⟨e,ac,hj⟩:=Y8 hd;rw[Yc,Qs hj,QqH,X5 e];simp -implicitDefEqProofs only[Qh,Mh,F0,Ee,Qj,QJ (show j<=1000 by omega),XI (show((P.map enc).length+[[Ql o.1,Ql o.2.1,Ql o.2.2]].length)*24<=100000 by simp;omega)];rw[List.filter_cons];cases hq:q o.1 with
  |true=>
   rw[QqS,QqF,QqZ Q2];exact D9 hl hk aa P (j+1) m ac (by simpa using hm) Q0
  |false=>
   rw[Qr6,QqH,QqW rfl];have:=D9 (n:=n) (q:=q) hl hk aa (P++[o]) (j+1) m ac (by simpa using hm) Q3;rw[QqQ,QqP]at this;exact this
theorem Q7h{R:Type}{O:List Occ}(hl:O.length<=300){q:Int->Bool}(K:LL->(Int->Bool)->oP R):Un 400 (O.map enc) q K=K ((O.filter λo=>!q o.1).map enc) q:=by
 unfold Un;rw[QqK];exact D9 Q0 (K:=λw=>K w q) (λ_ _ _=>rfl) O [] 0 400 rfl Q0 Q2
namespace Cx
def Q8H(a b:Nat)(w:Sp2):List D:=[Ql 6,Ql ((2*a:Nat):Int),Ql ((2*b:Nat):Int),Ql w.1,Ql w.2,Ql 0]
def fil(X:Cx)(J:List Tup)(a b:Nat):List Occ:=(X.occN a).filter λo=>!X.TRb J a b o.1
def WV(X:Cx)(per:Int)(J:List Tup)(a b:Nat):oP (List Sp2):=match WL 400 per ((X.fil J a b).map enc) ((X.fil J b a).map enc) Tu2 with
 |some (w,e)=>if e=0 then some (w.map λr=>match r with | [.int _ x,.int _ y]=>(x,y) | _=>(0,0))else none
 |none=>none
def Qhr:oP (List Sp2)->LL×Int
 |none=>([],13)
 |some W=>(W.map Yl,0)
def hdw(X:Cx)(per:Int)(J:List Tup)(a:Nat):Nat->Nat->oP LL
 |0,_=>some []
 |c+1,b=>match X.WV per J a b with
  |none=>none
  |some W=>(hdw X per J a c (b+1)).map λH=>W.map (Q8H a b)++H
def hdws(X:Cx)(per:Int)(J:List Tup):Nat->Nat->oP LL
 |0,_=>some []
 |c+1,a=>match X.hdw per J a c (a+1)with
  |none=>none
  |some H=>(hdws X per J c (a+1)).map λH'=>H++H'
variable{R:Type} {n:Nat} {X:Cx} (h:X.OK) {per:Int}
theorem Qbr{J:List Tup}{a b:Nat}{r:Int}:X.TRb J a b r=X.TRb J b a r:=by
 grind[TRb,jab]
include h
theorem Qdl{J:List Tup}{a b:Nat}(ha:a<X.N):OL (-1) (X.fil J a b)/\(X.fil J a b).length<=6:=by
 have o:=(Jo h ha).2;exact⟨o.1.filter,Nat.le_trans (Qrl ..) o.2⟩
theorem Q2S(p0:2<=per)(p1:per<=300){J:List Tup}{a b:Nat}(ha:a<X.N)(hb:b<X.N):WL 400 per ((X.fil J a b).map enc) ((X.fil J b a).map enc) Tu2=some (Qhr (X.WV per J a b))/\H7 400 per ((X.fil J a b).map enc) ((X.fil J b a).map enc) Tu2=some (Qhr (X.WV per J a b))/\∀W,X.WV per J a b=some W->W.length<=12:=by
 have oa:=Qdl h (J:=J) (b:=b) ha;have ob:=Qdl h (J:=J) (b:=a) hb;obtain⟨F,G,g1,g,j,i,k⟩:=Qc1 p0 (show per<=7200 by omega) oa.1 ob.1 oa.2 ob.2;have l:=Qc4 p0 p1 oa.1 ob.1 oa.2 ob.2 g1 j i;have hG:G.length<=12:=by
  rcases i with⟨rfl,_⟩|⟨b,M,c,rfl,rfl⟩
  ·exact g
  ·simp at g ⊢;omega
 have e:X.WV per J a b=if cnt F=per then none else some (G.map (Q3O per)):=by
  unfold WV;rw[k];by_cases hc:cnt F=per
  ·rw[QqW hc,QqW hc];rfl
  ·rw[QqZ hc,QqZ hc];dsimp only;rw[QqW rfl,List.map_map];congr 1;refine(List.map_congr_left λq _=>?_).trans (List.map_id _);rfl
 grind[Qhr,cnt,Q3O,Yl]
omit h in
theorem Qij{a b:Nat}(ha:a<=100)(hb:b<=100){W:List Sp2}(hW:W.length<=12){k0:Int->Bool->LL->oP R}{A:LL}(hA:A.length<=900):QQ 400 (a:Int) (b:Int) (W.map Yl) (W.length:Int) k0 400 0 A=k0 (W.length:Int) false (A++W.map (Q8H a b)):=by
 refine QY (r:=λm j=>QQ 400 (a:Int) (b:Int) (W.map Yl) (W.length:Int) k0 m j (A++(W.take j.toNat).map (Q8H a b))) (N:=W.length) (λm j hj=>?_) (λm=>?_) W.length 400 0 Q0 Q0 |> Eq.trans Q2
 ·simp only[QqG];obtain⟨w,e⟩:∃q,W[j]? = some q:=⟨W[j],QqL hj⟩;rw[QQ,Qs hj,QqH,X5 e,Zv e,QqQ,<- QqP];simp -implicitDefEqProofs only[Qh,QbW,Qbp,Qj,QJ (show j<=1000 by omega),Qde (n:=400) (show a<=1000 by omega),Qde (n:=400) (show b<=1000 by omega),Qff (n:=400) (A:=A++(W.take j).map (Q8H a b)) Q3];rfl
 ·simp only[QqG];rw[QQ,Qy,QqF,Qr9]
theorem Q2p(p0:2<=per)(p1:per<=300){J:List Tup}{a:Nat}(ha:a<X.N):∀{c b:Nat} {H:LL},b+c<=X.N->X.hdw per J a c b=some H->H.length<=12*c
 |0,b,H,_,e=>by cases e;exact Qrh _
 |c+1,b,H,hb,e=>by
  rw[hdw]at e;have hw:=(Q2S h p0 p1 (J:=J) ha (show b<X.N by omega)).2.2;cases ew:X.WV per J a b with
  |none=>rw[ew]at e;cases e
  |some W=>
   rw[ew]at e;cases eh:X.hdw per J a c (b+1)with
   |none=>simp only[eh]at e;cases e
   |some H'=>
    simp only[eh]at e;cases e;have:=hw W ew;have:=Q2p p0 p1 ha Q0 eh;simp;omega
theorem Qgx(p0:2<=per)(p1:per<=300){J:List Tup}(hJ:X.JOK J){a:Nat}(ha:a<X.N){k0:Int->LL->oP R}{k1:Int->Bool->LL->oP R}{Ke K1:LL->oP R}(d:∀A,k0 13 A=Ke A)(e:∀u v A,k1 u v A=K1 A):∀(c m b:Nat) (A:LL),b+c=X.N->c<m->A.length+12*c<=900->∃A',
  X7 400 (a:Int) per (GS (X.occs X.L)) (J.map tuR) k0 k1 m (b:Int) A=match X.hdw per J a c b with | none=>Ke A' | some H=>K1 (A++H)
 |0,m+1,b,A,hb,_,_=>by
  have aa:(GS (X.occs X.L)).length=X.N:=by rw[Jc];exact ZG
  refine⟨A,?_⟩;rw[X7,aa,Q5 ((b:Int)<(X.N:Int)),QqF,e,hdw]
  simp_all
 |c+1,m+1,b,A,hb,hm,hA=>by
  have aa:(GS (X.occs X.L)).length=X.N:=by rw[Jc];exact ZG
  have hN:X.N<=6:=base_le h;have oa:=Jo h ha;have ob:=Jo h (show b<X.N by omega);obtain⟨q,g,f⟩:=QiX h hJ (a:=a) (b:=b);have ac:(X.occN a).filter (λo=>!q o.1)=X.fil J a b:=List.filter_congr λo _=>by rw[f]
  have ai:(X.occN b).filter (λo=>!q o.1)=X.fil J b a:=List.filter_congr λo _=>by rw[f,Qbr]
  have hw:=Q2S h p0 p1 (J:=J) ha (show b<X.N by omega);rw[X7,aa,Q6 ((b:Int)<(X.N:Int)),QqH,g,oa.1,ob.1];simp -implicitDefEqProofs only[Qh,QqE,X4,QJ (show b<=1000 by omega),Q7h (show(X.occN a).length<=300 by omega),Q7h (show(X.occN b).length<=300 by omega),ac,ai,hw.1,hdw];cases ew:X.WV per J a b with
  |none=>exact⟨A,d A⟩
  |some W=>
   have hl:=hw.2.2 W ew;obtain⟨A',ih⟩:=Qgx p0 p1 hJ ha d e c m (b+1) (A++W.map (Q8H a b)) Q0 Q0 Q3;refine⟨A',?_⟩;simp -implicitDefEqProofs only[Qhr];rw[Qp (by rfl),QqK,Qij Q0 Q0 hl Q0,ih]
   grind
theorem QgF(p0:2<=per)(p1:per<=300){J:List Tup}(hJ:X.JOK J){k0:Int->LL->oP R}{k1:Int->Bool->LL->oP R}{Ke K1:LL->oP R}(d:∀A,k0 13 A=Ke A)(e:∀u v A,k1 u v A=K1 A):∀(c m a:Nat) (A:LL),a+c=X.N->c<m->A.length+72*c<=900->∃A',
  QI 400 (X.N:Int) per (GS (X.occs X.L)) (J.map tuR) k0 k1 m (a:Int) A=match X.hdws per J c a with | none=>Ke A' | some H=>K1 (A++H)
 |0,m+1,a,A,ha,_,_=>by
  refine⟨A,?_⟩;rw[QI,Q5 ((a:Int)<(X.N:Int)),QqF,e,hdws];simp only[QqX]
 |c+1,m+1,a,A,ha,hm,hA=>by
  have hN:X.N<=6:=base_le h;obtain⟨A1,f⟩:=Qgx h p0 p1 hJ (show a<X.N by omega) (Ke:=Ke) (K1:=λA=>QI 400 (X.N:Int) per (GS (X.occs X.L)) (J.map tuR) k0 k1 m ((a+1:Nat):Int) A) (k0:=λg i=>k0 g i) (k1:=λk l j=>QI 400 (X.N:Int) per (GS (X.occs X.L)) (J.map tuR) k0 k1 m ((a+1:Nat):Int) j) (λA=>d A) (λu v A=>rfl) c 400 (a+1) A Q0 Q0 Q0;rw[QI,Q6 ((a:Int)<(X.N:Int)),QqH,QJ (show a<=1000 by omega),f,hdws];cases eh:X.hdw per J a c (a+1)with
  |none=>exact⟨A1,rfl⟩
  |some H=>
   have:=Q2p h p0 p1 (J:=J) (show a<X.N by omega) (c:=c) (b:=a+1) Q0 eh;obtain⟨A2,h2⟩:=QgF p0 p1 hJ d e c m (a+1) (A++H) Q0 Q0 Q3;refine⟨A2,?_⟩;dsimp only;rw[h2];cases X.hdws per J c (a+1)with
   |none=>rfl
   |some H'=>simp -implicitDefEqProofs only[Option.map_some,QqP]
theorem hdws_len(p0:2<=per)(p1:per<=300){J:List Tup}:∀{c a:Nat} {H:LL},a+c=X.N->X.hdws per J c a=some H->H.length<=60*c
 |0,a,H,_,e=>by cases e;exact Qrh _
 |c+1,a,H,ha,e=>by
  have hN:X.N<=6:=base_le h;rw[hdws]at e;cases eh:X.hdw per J a c (a+1)with
  |none=>rw[eh]at e;cases e
  |some H1=>
   have:=Q2p h p0 p1 (J:=J) (show a<X.N by omega) (c:=c) (b:=a+1) Q0 eh;rw[eh]at e;cases e2:X.hdws per J c (a+1)with
   |none=>simp only[e2]at e;cases e
   |some H2=>
    have:=hdws_len p0 p1 Q0 e2;simp only[e2]at e;cases e;simp;omega
theorem Qh7(p0:2<=per)(p1:per<=300){J:List Tup}(hJ:X.JOK J){A:LL}(hA:A.length<=100):∃A',Yq 400 per (GS (X.occs X.L)) (J.map tuR) A Tu2=some (match X.hdws per J X.N 0 with | none=>((13:Int),A') | some H=>(0,A++H)):=by
 have hN:X.N<=6:=base_le h;have aa:(GS (X.occs X.L)).length=X.N:=by rw[Jc];exact ZG
 unfold Yq;rw[aa];obtain⟨A',e⟩:=QgF h p0 p1 hJ (k0:=λc d=>some (c,d)) (k1:=λg i f=>some ((0:Int),f)) (Ke:=λA=>some (13,A)) (K1:=λA=>some (0,A)) (λ_=>rfl) (λ_ _ _=>rfl) X.N 400 0 A Q0 Q0 Q0;refine⟨A',e.trans ?_⟩
 grind
end Cx
namespace Cx
def netV(X:Cx)(per:Int)(J:List Tup)(Ch Sy:LL):Int×LL×LL×Int:=bif X.aloneJ per J then(match X.hdws per J X.N 0 with
 |none=>(0,[],[],13)
 |some H=>(per,X.evs X.L,X.planned Ch Sy++H,0))else(0,[],[],13)
variable{X:Cx} (h:X.OK) {per:Int} {Ch Sy De:LL} (hl:X.LsOK per Ch Sy)
theorem Q7x{α:Type}{nr:Nat->Nat}{f:Nat->Nat->α}{x:α}:∀{L:Nat},x∈flat nr f L↔∃i k,i<L/\k<nr i/\x=f i k
 |0=>⟨λh=>(nomatch h),λ⟨_,_,h,_⟩=>by omega⟩
 |L+1=>by
  rw[flat,QqN,Q7x,Qr4];constructor
  ·rintro (⟨i,k,b,h2,a⟩|⟨k,hk,rfl⟩)
   ·exact⟨i,k,Q0,h2,a⟩
   ·exact⟨L,k,Q0,Qr8.1 hk,rfl⟩
  ·rintro⟨i,k,b,h2,a⟩;by_cases hi:i=L
   ·subst hi;exact .inr ⟨k,Qr8.2 h2,a.symm⟩
   ·exact .inl ⟨i,k,Q0,h2,a⟩
theorem Q9Q{t:Tup}:t∈X.jns↔(∃i k,i<X.L/\k<X.nr i-1/\t=X.j1 i k)\/∃u∈X.T,X.jT u=t:=by
 unfold jns jL;rw[QqN,Q7x,Qr4]
include h
theorem QhQ{i k:Nat}(hi:i<X.Ls.length)(hk:k<X.nr i):base X.nr i+k<X.N:=by
 have:=Sq (nr:=X.nr) (i:=i) (j:=X.L) hi;unfold N;omega
theorem QeY:X.JOK X.jns:=by
 refine⟨λt ht=>?_,Qet h⟩;rcases Q9Q.1 ht with⟨i,k,a,h2,rfl⟩|⟨u,hu,rfl⟩
 ·have r:=rd h a (show k<X.nr i by omega);have q:=EX h a (show k<X.nr i by omega);have:=r.ex0;have:=r.ex1;have:=r.mn0;have:=r.mn1;have:=r.mn2;have:=r.mn3;refine⟨QhQ h a Q0,QhQ h a Q0,?_,?_,?_,?_⟩<;>simp only[j1]<;>omega
 ·have ht:=h.tr _ hu;have ha:u.1<X.Ls.length:=ht.1;have hb:u.2.1<X.Ls.length:=ht.2.1;have na:=(line h ha).2.1;have nb:=(line h hb).2.1;have t1:=ht.2.2.1;have t2:=ht.2.2.2.1;have b:=ht.2.2.2.2.1;have c:=ht.2.2.2.2.2.1;have r:=rd h ha (show X.nr u.1-1<X.nr u.1 by omega);have q:=EX h ha (show X.nr u.1-1<X.nr u.1 by omega);have:=r.ex0;have:=r.ex1;refine⟨QhQ h ha Q0,QhQ h hb Q0,?_,?_,?_,?_⟩<;>simp only[jT]<;>omega
include hl
theorem planned_len:(X.planned Ch Sy).length<=35:=by
 have hN:base X.nr X.L<=6:=base_le h;have:=AO (X:=X) (i:=X.L);have:=hl.chl;have:=hl.syl;have:=h.tl;unfold planned;simp only[Qr1,QqK];omega
theorem buildP(p0:2<=per)(p1:per<=300)(hc:Jg 400 X.G.St X.G.Pt X.G.Se X.G.Li per X.skR X.Ro X.Ls Ch (X.T.map tuR) Sy De (some:Int->oP Int)=some 0) :
  Wf 400 X.G.St X.G.Pt X.G.Se X.G.Li per X.skR X.Ro X.Ls Ch (X.T.map tuR) Sy De Tu4=some (X.netV per X.jns Ch Sy):=by
 have hN:base X.nr X.L<=6:=base_le h;have ac:=planned_len h hl;unfold Wf netV;rw[hc,Qh,Qp (by rfl),QdU h,Qh];dsimp only;rw[evs_len,Qp (QqO Q0),QgL h hc,Qh];dsimp only;rw[Qp (by rfl),Qft h,Qh];rw[QfG h Q0 p1 (QeY h),Qh];cases X.aloneJ per X.jns
 ·rfl
 rw[Qp (by rfl),Qbw h hl,Qh];obtain⟨A',e⟩:=Qh7 h p0 p1 (QeY h) (A:=X.planned Ch Sy) Q0;rw[e,Qh,QqH];cases eh:X.hdws per X.jns X.N 0 with
 |none=>rfl
 |some H=>
  have:=hdws_len h p0 p1 Q0 eh;have aa:X.N<=6:=hN;dsimp only;rw[Qp (by rfl),Qp (QqO (by rw[Qr1];omega))]
end Cx
theorem QcB{α β:Type}{r:Nat->Int->β}{l:List α}{p:α->Bool}{F:α->β}{E:β}(a:∀m i q,l[i]? = some q->i<l.length->r (m+1) (i:Int)=bif p q then F q else r m ((i+1:Nat):Int))(b:∀m,r (m+1) (l.length:Int)=E){fuel:Nat}(hf:l.length<fuel):r fuel 0=match l.find? p with | some q=>F q | none=>E:=by
 have go:∀(aa:List α) (i m:Nat),l.drop i=aa->aa.length<m->i<=l.length->r m (i:Int)=match aa.find? p with | some q=>F q | none=>E:=by
  intro aa;induction aa with
  |nil=>
   intro i m hd hm hi;obtain⟨m,rfl⟩:∃k,m=k+1:=⟨m-1,Q0⟩
   grind
  |cons q aa ih=>
   intro i m hd hm hi;obtain⟨m,rfl⟩:∃k,m=k+1:=⟨m-1,by simp at hm;omega⟩
   grind[Y8]
 exact go l 0 fuel rfl hf (Nat.zero_le _)
theorem Qg8{t:Int}{O:List Occ}(a:1<=t)(b:t<=7200)(hO:OL (-1) O)(hl:O.length<=300):ML 400 t (O.map enc) (some:Bool->oP Bool)=some (O.all (Lw t)):=by
 unfold ML;rw[Q5f a b,Qab hl hO];simp -implicitDefEqProofs only[QqF,Qh,QqS,Qr6];refine(Tq (r:=λm i=>Ji 400 t (O.map enc) (some false) (λ_ _=>some true) m i) (l:=O) (p:=Lw t) (E0:=some false) (E1:=some true) (λm i q e hi=>?_) (λm=>?_) Q0).trans (by cases O.all (Lw t)<;>rfl)
 ·rw[Ji,QqK,Qs hi,QqH,X5 e];simp -implicitDefEqProofs only[Qh,Mh,F0,Ee,Qj,QJ (show i<=1000 by omega),Qjz hO (QqJ e)];unfold Lw;cases decide (q.2.2-q.2.1>t)<;>rfl
 ·rw[Ji,QqK,Qy,QqF]
def Q8y(O:List Occ)(r:Int):Bool:=(O.find? λq=>q.1 == r).isSome
def fnd(O:List Occ)(r:Int):Occ:=(O.find? λq=>q.1 == r).getD (0,0,0)
theorem B7{p:Occ->Bool}{r:Int}(hp:∀q,q.1≠r->p q=false):∀{l:Int} {O:List Occ},OL l O->O.any p=(bif Q8y O r then p (fnd O r)else false)
 |_,[],_=>rfl
 |l,(x,a,b)::O,⟨c,h2,d,e,h5,h6⟩=>by
  have ih:=B7 hp h6;unfold Q8y fnd at ih ⊢;by_cases hx:x=r
  ·subst hx;have:O.any p=false:=by
    rw[List.any_eq_false];intro q hq;have:=(h6.mem q hq).1
    grind
   simp_all
  grind
theorem Q5M{O:List Occ}{r:Int}(h:Q8y O r=true):(fnd O r).1=r:=by
 unfold Q8y at h;unfold fnd;cases e:O.find? λq=>q.1 == r with
 |none=>simp_all
 |some q=>grind
theorem Qf0{l:Int}{O:List Occ}(hO:OL l O){x:Occ}(hx:x∈O):Q8y O x.1=true/\fnd O x.1=x:=by
 unfold Q8y fnd;cases e:O.find? λq=>q.1 == x.1 with
 |none=>grind
 |some q=>exact⟨rfl,hO.uniq (Qrb e) hx (by grind)⟩
def okR(la:Int)(A B:List Occ)(r:Int):Bool:=bif (bif Q8y A r then Q8y B r else false)then decide (la+(fnd B r).2.1<=(fnd A r).2.2)else false
theorem QcJ{la:Int}{x y:Occ}(h:y.1≠x.1):tie la x y=false:=by
 grind[tie]
theorem Qgt{la r:Int}{A B:List Occ}(hA:OL (-1) A)(hB:OL (-1) B):okR la A B r=Q4Z la A B r:=by
 unfold Q4Z okR;rw[B7 (r:=r) (λq hq=>by
  simp_all) hA]
 cases ha:Q8y A r with
 |false=>rfl
 |true=>
  have ea:=Q5M ha;rw[QqH,QqH,B7 (r:=r) (λy hy=>by grind[QcJ]) hB];cases hb:Q8y B r with
  |false=>rfl
  |true=>
   have eb:=Q5M hb
   simp_all [tie,QqH,decide,fnd]
theorem Qdu{per la mo:Int}{A B:List Occ}(hA:OL (-1) A)(hB:OL (-1) B){x:Occ}(hx:x∈A):(B.any λy=>bif tie la x y then Q3l per la mo x y else false)=bif okR la A B x.1 then Q3l per la mo (fnd A x.1) (fnd B x.1)else false:=by
 have ha:=Qf0 hA hx;unfold okR;rw[B7 (r:=x.1) (λy hy=>by grind[QcJ]) hB,ha.1,ha.2,QqH];cases hb:Q8y B x.1 with
 |false=>rfl
 |true=>
  simp_all [Q5M,tie,QqH]
theorem Q6d{l:Int}{O:List Occ}(hO:OL l O){r:Int} : -1000<=(fnd O r).2.1/\(fnd O r).2.1<=20000 /\ -1000<=(fnd O r).2.2/\(fnd O r).2.2<=20000:=by
 unfold fnd;cases e:O.find? λq=>q.1 == r with
 |none=>simp
 |some q=>
  have:=hO.mem q (Qrb e)
  grind
theorem QfW{R:Type}{O:List Occ}(hl:O.length<=300){r:Int}(K:D->D->D->Bool->oP R):Vs 400 (O.map enc) r K=K (Ql (fnd O r).1) (Ql (fnd O r).2.1) (Ql (fnd O r).2.2) (Q8y O r):=by
 unfold Vs fnd Q8y;refine(QcB (r:=λm i=>Z2 400 (O.map enc) r (λa b c=>K a b c true) (λd f=>K (Ql 0) (Ql 0) (Ql 0) false) m i) (l:=O) (p:=λq=>q.1 == r) (F:=λq=>K (Ql q.1) (Ql q.2.1) (Ql q.2.2) true) (E:=K (Ql 0) (Ql 0) (Ql 0) false) (λm i q e hi=>?_) (λm=>?_) Q0).trans ?_
 ·rw[Z2,QqK,Qs hi,QqH,X5 e];simp -implicitDefEqProofs only[Qh,Mh,F0,Ee,Qj,QJ (show i<=1000 by omega)]
 ·rw[Z2,QqK,Qy,QqF]
 ·cases O.find? λq=>q.1 == r<;>rfl
namespace Cx
variable{R:Type} {X:Cx} (h:X.OK)
include h
theorem Qfy{J:List Tup}(hJ:X.JOK J){t:Tup}(ht:t∈J){r:Int}(K:D->D->D->D->D->D->Bool->oP R):PS 400 (GS (X.occs X.L)) (t.1:Int) (t.2.1:Int) t.2.2.1 r K=K (Ql (fnd (X.occN t.1) r).1) (Ql (fnd (X.occN t.1) r).2.1) (Ql (fnd (X.occN t.1) r).2.2) (Ql (fnd (X.occN t.2.1) r).1) (Ql (fnd (X.occN t.2.1) r).2.1) (Ql (fnd (X.occN t.2.1) r).2.2) (okR t.2.2.1 (X.occN t.1) (X.occN t.2.1) r):=by
 have hj:=hJ.at' t ht;have oa:=Jo h hj.1;have ob:=Jo h hj.2.1;have rb:=Q6d ob.2.1 (r:=r);unfold PS okR;rw[oa.1,ob.1];simp -implicitDefEqProofs only[Qh,QqE,X4,QfW (show(X.occN t.1).length<=300 by omega),QfW (show(X.occN t.2.1).length<=300 by omega),Qj,Qo (x:=t.2.2.1+(fnd (X.occN t.2.1) r).2.1) Q0 Q0]
theorem Qgy{J:List Tup}(hJ:X.JOK J){t:Tup}(ht:t∈J){per:Int}(K:Bool->oP R):RH 400 (GS (X.occs X.L)) (t.1:Int) (t.2.1:Int) t.2.2.1 t.2.2.2 per K=K (!Q9O per t.2.2.1 t.2.2.2 (X.occN t.1) (X.occN t.2.1)):=by
 have hj:=hJ.at' t ht;have oa:=Jo h hj.1;have ob:=Jo h hj.2.1;unfold RH Q9O;refine(Tq (r:=λm i=>UE 400 (GS (X.occs X.L)) per (t.1:Int) (t.2.1:Int) t.2.2.1 t.2.2.2 (K false) (λa b=>K true) m i) (l:=X.occN t.1) (p:=λx=>!((X.occN t.2.1).any λy=>bif tie t.2.2.1 x y then Q3l per t.2.2.1 t.2.2.2 x y else false)) (E0:=K false) (E1:=K true) (λm i x e hi=>?_) (λm=>?_) Q0).trans ?_
 ·have ra:=Q6d oa.2.1 (r:=x.1);have rb:=Q6d ob.2.1 (r:=x.1);rw[UE,oa.1,Qdu oa.2.1 ob.2.1 (QqJ e)];simp -implicitDefEqProofs only[Qh,QqE,X4,QqK,Qs hi,QqH,X5 e,Mh,Qj,Qfy h hJ ht,QJ (show i<=1000 by omega)];generalize fnd (X.occN t.1) x.1=u at ra ⊢;generalize fnd (X.occN t.2.1) x.1=v at rb ⊢;cases okR t.2.2.1 (X.occN t.1) (X.occN t.2.1) x.1 with
  |false=>rfl
  |true=>
   rw[QqH,QqH,Qo (x:=t.2.2.1+v.2.1) Q0 Q0,Qo (x:=t.2.2.2+v.2.2) Q0 Q0,Qo (x:=(if u.2.2<t.2.2.2+v.2.2 then t.2.2.2+v.2.2 else u.2.2)-(if t.2.2.1+v.2.1<u.2.1 then t.2.2.1+v.2.1 else u.2.1)) (by split<;>split<;>omega) (by split<;>split<;>omega)];unfold Q3l;cases decide ((if u.2.2<t.2.2.2+v.2.2 then t.2.2.2+v.2.2 else u.2.2)-(if t.2.2.1+v.2.1<u.2.1 then t.2.2.1+v.2.1 else u.2.1)>per)<;>rfl
 ·rw[UE,oa.1];simp -implicitDefEqProofs only[Qh,QqE,X4,QqK,Qy,QqF]
 ·rw[<- List.not_any_eq_all_not];cases (X.occN t.1).any λx=>(X.occN t.2.1).any λy=>bif tie t.2.2.1 x y then Q3l per t.2.2.1 t.2.2.2 x y else false<;>rfl
theorem Qaa{J:List Tup}(hJ:X.JOK J){a b i:Nat}(ha:a<X.N){x:Occ}(e:(X.occN a)[i]? = some x)(k0:Bool->Int->Bool->oP R):YX 400 (GS (X.occs X.L)) (J.map tuR) (a:Int) (b:Int) (i:Int) k0 400 false 0=k0 (X.TRb J a b x.1) (J.length:Int) false:=by
 have oa:=Jo h ha;have hl:=hJ.len;unfold TRb;rw[<- Bool.false_or (List.any _ _),<- E5];refine FD (r:=λm j c=>YX 400 (GS (X.occs X.L)) (J.map tuR) (a:Int) (b:Int) (i:Int) k0 m c j) (E:=λc=>k0 c (J.length:Int) false) (λm j t c e' hi=>?_) (λm c=>?_) Q0 false
 ·have hj:=hJ.at' t (QqJ e');have d:=Jo h hj.1;have f:=Jo h hj.2.1;have aa:Qi (J.map tuR) (j:Int)=some [Ql t.1,Ql t.2.1,Ql t.2.2.1,Ql t.2.2.2]:=X5 e';rw[YX,QqK,Qs hi,QqH,aa];simp -implicitDefEqProofs only[Qh,QqE,QqI,Qj,X4,oa.1,X5 e,Mh,Qfy h hJ (QqJ e'),QJ (show j<=1000 by omega),Qgt d.2.1 f.2.1];show(bif jab a b t then _ else _)=_;cases jab a b t<;>cases c<;>rfl
 ·rw[YX,QqK,Qy,QqF]
theorem Q6F{J:List Tup}(hJ:X.JOK J){a b:Nat}(ha:a<X.N)(K:LL->oP R):Gz 400 (GS (X.occs X.L)) (J.map tuR) (a:Int) (b:Int) K=K ((X.fil J a b).map enc):=by
 have oa:=Jo h ha;unfold Gz fil;refine QY (r:=λm i=>ZT 400 (GS (X.occs X.L)) (J.map tuR) (a:Int) (b:Int) (λd f c=>K c) m i ((((X.occN a).take i.toNat).filter λo=>!X.TRb J a b o.1).map enc)) (N:=(X.occN a).length) (λm i hi=>?_) (λm=>?_) (X.occN a).length 400 0 Q0 Q0
 ·simp only[QqG];obtain⟨x,e⟩:∃q,(X.occN a)[i]? = some q:=⟨(X.occN a)[i],QqL hi⟩;have ac:(((X.occN a).take i).filter λo=>!X.TRb J a b o.1).length<=i:=Nat.le_trans (Qrl ..) Q3;rw[ZT,oa.1];simp -implicitDefEqProofs only[Qh,QqE,X4,QqK,Qs hi,QqH,Qaa h hJ ha e,X5 e,Mh,F0,Ee,QJ (show i<=1000 by omega),XI (show((((X.occN a).take i).filter λo=>!X.TRb J a b o.1).length+[[Ql x.1,Ql x.2.1,Ql x.2.2]].length)*24<=100000 by simp;omega)];rw[Zv e,List.filter_append,QqQ];simp only[List.filter_cons,List.filter_nil];cases X.TRb J a b x.1 with
  |false=>rfl
  |true=>
   rw[QqS,QqF,QqZ Bool.false_ne_true,List.map_nil,QqX]
 ·simp only[QqG];rw[ZT,oa.1];simp -implicitDefEqProofs only[Qh,QqE,X4,QqK,Qy,QqF,Qr9]
end Cx
theorem QcS{a b:Nat}(h:a+b<=100000):wJ ((a:Int)+(b:Int))=((a+b:Nat):Int):=Qo Q0 Q0
theorem Qem{a:Nat}(h:a<=100000):wJ ((a:Int)+1)=((a+1:Nat):Int):=Qo Q0 Q0
theorem QiN{a:Nat}(h:a<=100000):wJ ((a:Int)+2)=((a+2:Nat):Int):=Qo Q0 Q0
theorem Q0l{a:Nat}(h:a<=100000):wJ (2*(a:Int))=((2*a:Nat):Int):=Qo Q0 Q0
namespace Cx
def jR(X:Cx)(i:Nat):List Tup:=(List.range (X.nr i-1)).map (X.j1 i)++(match X.tn i with | some t=>[X.jT t] | none=>[])
def jnsR(X:Cx):Nat->List Tup
 |0=>[]
 |i+1=>jnsR X i++X.jR i
variable{R:Type} {n:Nat} {X:Cx} (h:X.OK)
theorem Q7B{t:Tup}:∀{L:Nat},t∈X.jnsR L↔∃i,i<L/\t∈X.jR i
 |0=>⟨λh=>(nomatch h),λ⟨_,h,_⟩=>by omega⟩
 |L+1=>by
  rw[jnsR,QqN,Q7B];constructor
  ·rintro (⟨i,a,h2⟩ | h2)
   ·exact⟨i,Q0,h2⟩
   ·exact⟨L,Q0,h2⟩
  ·rintro⟨i,a,h2⟩;by_cases hi:i=L
   ·subst hi;exact .inr h2
   ·exact .inl ⟨i,Q0,h2⟩
theorem Q9M{i:Nat}{t:Tup}(ht:X.tn i=some t):t∈X.T/\t.1=i:=⟨Qrb ht,by simpa using List.find?_some ht⟩
theorem Q7C{α β:Type}{f:α->β}:∀{l:List α},(l.map f).Nodup->∀{x y},x∈l->y∈l->f x=f y->x=y
 |[],_,_,_,h,_,_=>nomatch h
 |a::l,hn,x,y,hx,hy,e=>by
  rw[List.map_cons,List.nodup_cons]at hn;cases hx with
  |head=>
   cases hy with
   |head=>rfl
   |tail _ hy=>exact(hn.1 (Qr4.2 ⟨y,hy,e.symm⟩)).elim
  |tail _ hx=>
   cases hy with
   |head=>exact(hn.1 (Qr4.2 ⟨x,hx,e⟩)).elim
   |tail _ hy=>exact Q7C hn.2 hx hy e
include h
theorem Qj3{t:Tup}(ht:t∈X.T):X.tn t.1=some t:=by
 cases e:X.tn t.1 with
 |none=>exact absurd (List.find?_eq_none.1 e t ht) Q2
 |some u=>
  have hu:=Q9M e;rw[Q7C h.fd hu.1 ht hu.2]
theorem Q3o{t:Tup}:t∈X.jnsR X.L↔t∈X.jns:=by
 rw[Q7B,Q9Q];constructor
 ·rintro⟨i,hi,ht⟩;rcases QqN.1 ht with ht | ht
  ·grind
  ·cases e:X.tn i with
   |none=>simp_all
   |some u=>
    rw[e]at ht;obtain rfl:=QqT.1 ht;exact .inr ⟨u,(Q9M e).1,rfl⟩
 ·rintro (⟨i,k,hi,hk,rfl⟩|⟨u,hu,rfl⟩)
  ·exact⟨i,hi,Qre _ (List.mem_map_of_mem (Qr8.2 hk))⟩
  ·refine⟨u.1,(h.tr _ hu).1,Qrd _ ?_⟩
   grind[Qj3]
theorem Q7H{i:Nat}(hi:i<=X.Ls.length):(X.jnsR i).length<=base X.nr i:=by
 induction i with
 |zero=>exact Qrh _
 |succ i ih=>
  have hl:=(line h (i:=i) Q0).2.1
  grind[jnsR,jR,List.length_append,List.length_map,List.length_range,base]
theorem Qg2:X.JOK (X.jnsR X.L):=⟨λt ht=>(QeY h).at' t ((Q3o h).1 ht),by have:=Q7H h (i:=X.L) (Qrh _);have:=base_le h;omega⟩
theorem Q2g{i:Nat}(hi:i<=X.Ls.length)(K:Int->oP R):U2 400 X.Ls (i:Int) K=K ((base X.nr i:Nat):Int):=by
 have hb:=Zs h hi;have l1:=h.l1;unfold U2;refine QY (r:=λm k=>Jk 400 (i:Int) X.Ls (λc d e=>K c) m ((base X.nr k.toNat:Nat):Int) k) (N:=i) (λm k hk=>?_) (λm=>?_) i 400 0 Q0 Q0
 ·simp only[QqG];have aa:=Zs h (i:=k+1) Q0;rw[base]at aa;have ha:wJ (((base X.nr k:Nat):Int)+(((Hr X.Ls k).length:Nat):Int))=((base X.nr (k+1):Nat):Int):=QcS (a:=base X.nr k) (b:=X.nr k) Q0;rw[Jk,Qs hk,QqH,Qt,(line h Q0).1];simp -implicitDefEqProofs only[Qh,QqE,QqI,X4,QJ (show k<=1000 by omega),ha]
 ·simp only[QqG];rw[Jk,Qy,QqF]
theorem Qha(K:LL->oP R):R0 400 X.Ls (X.T.map tuR) (encI (X.runs X.L)) K=K ((X.jnsR X.L).map tuR):=by
 have l1:=h.l1;unfold R0;refine QY (r:=λm i=>Us 400 (encI (X.runs X.L)) X.Ls (X.T.map tuR) (λf g c=>K c) m i ((X.jnsR i.toNat).map tuR)) (N:=X.Ls.length) (λm i hi=>?_) (λm=>?_) X.Ls.length 400 0 Q0 Q0
 ·simp only[QqG];have hl:=(line h hi).2.1;have hb:=Zs h (i:=i) Q0;have hw:wJ (((List.length (Hr X.Ls i):Nat):Int)-1)=((X.nr i-1:Nat):Int):=JS (k:=X.nr i) Q0 Q0;have hJ:=Q7H h (i:=i) Q0;rw[Us,Qs hi,QqH,Qt,(line h hi).1];simp -implicitDefEqProofs only[Qh,QqE,QqI,QJ (show i<=1000 by omega)];refine QY (r:=λm' k=>Wj 400 (encI (X.runs X.L)) (i:Int) X.Ls (X.T.map tuR) (D.sl 4 (Hr X.Ls i)) (λ_ _ w=>Us 400 (encI (X.runs X.L)) X.Ls (X.T.map tuR) (λf g c=>K c) m ((i+1:Nat):Int) w) m' k ((if k.toNat<=X.nr i-1 then X.jnsR i++(List.range k.toNat).map (X.j1 i)else X.jnsR (i+1)).map tuR)) (N:=X.nr i) (λm' k hk=>?_) (λm'=>?_) (X.nr i) 400 0 Q0 Q0 |> Eq.trans Q2
  ·simp only[QqG];have r:=rd h hi hk;have hr:=EX h hi hk;have aa:Qi (Hr X.Ls i) (k:Int)=some [Ql (rF X.Ls i k 0),Ql (X.ex i k),Ql (X.mn i k),Ql (X.mx i k)]:=by rw[Qt,r.row]
   have l:=r.ex0;have e1:=r.ex1;have e2:=r.mn0;have n:=r.mn1;have o:=r.mn2;have p:=r.mn3;rw[Wj,X4,Qh,show(((Hr X.Ls i).length:Nat):Int)=((X.nr i:Nat):Int)from rfl,Qs hk,QqH,QqW (show k<=X.nr i-1 by omega)];simp -implicitDefEqProofs only[Qh,Q2g h (show i<=X.Ls.length by omega),aa,QqE,QqI,Qj,X4,hw,QcS (a:=base X.nr i) (b:=k) Q0,Q6S hi hk,QJ (show k<=1000 by omega),Qo (x:=X.run i k+X.mn i k) Q0 Q0,Qo (x:=X.run i k+X.ex i k) Q0 Q0,Qo (x:=X.run i k+X.ex i k+X.mx i k) Q0 Q0,Qem (a:=base X.nr i+k) Q0];by_cases j:k<X.nr i-1
   ·rw[Qs j,QqH,QqW (show k+1<=X.nr i-1 by omega),XI Q3,Qh,<- ZC,QqQ (l₁:=X.jnsR i++(List.range k).map (X.j1 i))];rfl
   ·rw[Q5 ((k:Int)<((X.nr i-1:Nat):Int)),QqF,QqZ (show ¬ k+1<=X.nr i-1 by omega),Qe4 h];have d:k=X.nr i-1:=Q0
    cases ht:X.tn i with
    |none=>
     simp -implicitDefEqProofs only[Qh,QqF,jnsR,jR,ht,QqX,d]
    |some t=>
     obtain⟨t1,t2⟩:=Q9M ht;have ak:=(h.tr _ t1).2.1;have q:=(h.tr _ t1).2.2.1;have s:=(h.tr _ t1).2.2.2.1;have u:=(h.tr _ t1).2.2.2.2.1;have v:=(h.tr _ t1).2.2.2.2.2.1;simp -implicitDefEqProofs only[Qh,QqH,Qj,Q2g h (show t.2.1<=X.Ls.length by omega),Qo (x:=X.run i k+t.2.2.1) Q0 Q0,Qo (x:=X.run i k+X.ex i k+t.2.2.2) Q0 Q0,jnsR,jR,ht];have e:[Ql ((base X.nr i+k:Nat):Int),Ql ((base X.nr t.2.1:Nat):Int),Ql (X.run i k+t.2.2.1),Ql (X.run i k+X.ex i k+t.2.2.2)]=tuR (X.jT t):=by
      unfold tuR jT;rw[t2,d];rfl
     rw[XI Q3,Qh,e,d,<- QqP,QqQ (l₁:=X.jnsR i++_)];rfl
  ·simp only[QqG];rw[Wj,X4,Qh,show(((Hr X.Ls i).length:Nat):Int)=((X.nr i:Nat):Int)from rfl,Qy,QqF,QqZ Q0]
 ·simp only[QqG];rw[Us,Qy,QqF];rfl
theorem QdY(k0:LL->oP R):Wl 400 X.Ls (λ_ _ w=>k0 w) 400 0 []=k0 (X.evs X.L):=by
 have l1:=h.l1;refine QY (r:=λm i=>Wl 400 X.Ls (λ_ _ w=>k0 w) m i (X.evs i.toNat)) (N:=X.Ls.length) (λm i hi=>?_) (λm=>?_) X.Ls.length 400 0 Q0 Q0
 ·simp only[QqG];have hl:=(line h hi).2.1;have hb:=Zs h (i:=i) Q0;rw[Wl,Qs hi,QqH,QJ (show i<=1000 by omega)];refine QY (r:=λm' k=>VG 400 (i:Int) X.Ls (λ_ _ w=>Wl 400 X.Ls (λ_ _ w=>k0 w) m ((i+1:Nat):Int) w) m' k (X.evs i++evl i k.toNat)) (N:=X.nr i) (λm' k hk=>?_) (λm'=>?_) (X.nr i) 400 0 Q0 Q0 |> Eq.trans (by simp[evl])
  ·simp only[QqG];rw[VG,Qt,(line h hi).1];simp -implicitDefEqProofs only[Qh,QqE,QqI,X4];rw[show(((Hr X.Ls i).length:Nat):Int)=((X.nr i:Nat):Int)from rfl,Qs hk,QqH,XI (by simp[evs_len,RI];omega),Qh,QJ Q0,QqP];rfl
  ·simp only[QqG];rw[VG,Qt,(line h hi).1];simp -implicitDefEqProofs only[Qh,QqE,QqI,X4];rw[show(((Hr X.Ls i).length:Nat):Int)=((X.nr i:Nat):Int)from rfl,Qy,QqF];rfl
 ·simp only[QqG];rw[Wl,Qy,QqF];rfl
theorem Qgc(K:LL->oP R):SV 400 X.Ls (encI (X.runs X.L)) K=K (X.pls X.L):=by
 have l1:=h.l1;unfold SV;refine QY (r:=λm i=>Uw 400 (encI (X.runs X.L)) X.Ls (λe f c=>K c) m i (X.pls i.toNat)) (N:=X.Ls.length) (λm i hi=>?_) (λm=>?_) X.Ls.length 400 0 Q0 Q0
 ·simp only[QqG];have hl:=(line h hi).2.1;have hb:=Zs h (i:=i) Q0;have hp:=AO (X:=X) (i:=i);have hw:wJ (((List.length (Hr X.Ls i):Nat):Int)-1)=((X.nr i-1:Nat):Int):=JS (k:=X.nr i) Q0 Q0;rw[Uw,Qs hi,QqH,Qt,(line h hi).1];simp -implicitDefEqProofs only[Qh,QqE,QqI,QJ (show i<=1000 by omega)];refine QY (r:=λm' k=>Uz 400 (encI (X.runs X.L)) (i:Int) X.Ls (Ql (X.w i)) (D.sl 4 (Hr X.Ls i)) (λ_ _ w=>Uw 400 (encI (X.runs X.L)) X.Ls (λe f c=>K c) m ((i+1:Nat):Int) w) m' k (X.pls i++X.pl i k.toNat)) (N:=X.nr i) (λm' k hk=>?_) (λm'=>?_) (X.nr i) 400 0 Q0 Q0 |> Eq.trans (by simp[pl])
  ·simp only[QqG];have r:=rd h hi hk;have hr:=EX h hi hk;have aa:Qi (Hr X.Ls i) (k:Int)=some [Ql (rF X.Ls i k 0),Ql (X.ex i k),Ql (X.mn i k),Ql (X.mx i k)]:=by rw[Qt,r.row]
   have g:=r.ex0;have e1:=r.ex1;have ai:=Q7J (X:=X) (i:=i) (k:=k);rw[Uz,X4,Qh,show(((Hr X.Ls i).length:Nat):Int)=((X.nr i:Nat):Int)from rfl,Qs hk,QqH];simp -implicitDefEqProofs only[Qh,Q2g h (show i<=X.Ls.length by omega),aa,QqE,QqI,Qj,X4,hw,QcS (a:=base X.nr i) (b:=k) Q0,Q6S hi hk,QJ (show k<=1000 by omega),Qo (x:=X.run i k+X.ex i k) Q0 Q0,Q0l (a:=base X.nr i+k) Q0,Qem (a:=2*(base X.nr i+k)) Q0,QiN (a:=2*(base X.nr i+k)) Q0];rw[XI Q3,Qh];by_cases d:k<X.nr i-1
   ·rw[Qs d,QqH,XI Q3,Qh,pl,QqW d,<- QqP,<- QqP];rfl
   ·rw[Q5 ((k:Int)<((X.nr i-1:Nat):Int)),QqF,pl,QqZ d,QqX,<- QqP];rfl
  ·simp only[QqG];rw[Uz,X4,Qh,show(((Hr X.Ls i).length:Nat):Int)=((X.nr i:Nat):Int)from rfl,Qy,QqF];rfl
 ·simp only[QqG];rw[Uw,Qy,QqF];rfl
theorem Qhp{per:Int}{Ch Sy:LL}(hl:X.LsOK per Ch Sy)(K:LL->oP R):RG 400 X.Ls Ch (X.T.map tuR) Sy K=K (Ch.map X.chE++X.T.map X.tuE++Sy.map X.syE):=by
 have l1:=h.l1;have tl:=h.tl;have chl:=hl.chl;have syl:=hl.syl;unfold RG;have s1:∀k0:LL->oP R,Ux 400 X.Ls Ch (λ_ _ w=>k0 w) 400 0 []=k0 (Ch.map X.chE):=by
  intro k0;refine QY (r:=λm j=>Ux 400 X.Ls Ch (λ_ _ w=>k0 w) m j ((Ch.take j.toNat).map X.chE)) (N:=Ch.length) (λm j hj=>?_) (λm=>?_) Ch.length 400 0 Q0 Q0
  ·simp only[QqG];obtain⟨row,e⟩:∃q,Ch[j]? = some q:=⟨Ch[j],QqL hj⟩;obtain⟨f,fr,t,tr,mn,mx,w,rfl,g1,n,c,y,z,g6⟩:=hl.ch row (QqJ e);have nf:=(line h g1).2.1;have nt:=(line h c).2.1;have bf:=Zs h (i:=f) Q0;have bt:=Zs h (i:=t) Q0;rw[Ux,Qs hj,QqH,Qt,e,Zv e,QqQ];simp -implicitDefEqProofs only[Qh,QqE,QqI,Qj,Q2g h (show f<=X.Ls.length by omega),Q2g h (show t<=X.Ls.length by omega),QJ (show j<=1000 by omega),QcS (a:=base X.nr f) (b:=fr) Q0,QcS (a:=base X.nr t) (b:=tr) Q0,Q0l (a:=base X.nr f+fr) Q0,Q0l (a:=base X.nr t+tr) Q0,Qem (a:=2*(base X.nr f+fr)) Q0];rw[XI Q3,Qh];rfl
  ·simp only[QqG];rw[Ux,Qy,QqF,Qr9]
 have s2:∀k0:LL->oP R,Wh 400 X.Ls (X.T.map tuR) (λ_ _ w=>k0 w) 400 0 (Ch.map X.chE)=k0 (Ch.map X.chE++X.T.map X.tuE):=by
  intro k0;refine QY (r:=λm j=>Wh 400 X.Ls (X.T.map tuR) (λ_ _ w=>k0 w) m j (Ch.map X.chE++(X.T.take j.toNat).map X.tuE)) (N:=X.T.length) (λm j hj=>?_) (λm=>?_) X.T.length 400 0 Q0 Q0 |> Eq.trans Q2
  ·simp only[QqG];obtain⟨⟨a,b,lo,hi⟩,e⟩:∃q,X.T[j]? = some q:=⟨X.T[j],QqL hj⟩;have ht:=h.tr _ (QqJ e);have g1:a<X.Ls.length:=ht.1;have c:b<X.Ls.length:=ht.2.1;have nf:=(line h g1).2.1;have bf:=Zs h (i:=a) Q0;have bt:=Zs h (i:=b) Q0;have aa:Qi (X.T.map tuR) (j:Int)=some [Ql a,Ql b,Ql lo,Ql hi]:=X5 e;have p:Ch.map X.chE++(X.T.take (j+1)).map X.tuE=Ch.map X.chE++(X.T.take j).map X.tuE++[X.tuE (a,b,lo,hi)]:=by rw[Zv e,QqQ,<- QqP];rfl
   have hw:wJ (((2*(base X.nr a+X.nr a):Nat):Int)-1)=((2*(base X.nr a+(X.nr a-1))+1:Nat):Int):=by rw[Qo Q0 Q0];omega
   have ha:wJ (((base X.nr a:Nat):Int)+(((Hr X.Ls a).length:Nat):Int))=((base X.nr a+X.nr a:Nat):Int):=QcS (a:=base X.nr a) (b:=X.nr a) Q0;rw[Wh,QqK,Qs hj,QqH,aa,p];simp -implicitDefEqProofs only[Qh,QqE,QqI,Qj,X4,Q2g h (show a<=X.Ls.length by omega),Q2g h (show b<=X.Ls.length by omega),Qt,(line h g1).1,QJ (show j<=1000 by omega),ha,Q0l (a:=base X.nr a+X.nr a) Q0,Q0l (a:=base X.nr b) Q0,hw];rw[XI Q3,Qh];rfl
  ·simp only[QqG];rw[Wh,QqK,Qy,QqF,Qr9]
 have s:∀k0:LL->oP R,Zm 400 X.Ls Sy (λ_ _ w=>k0 w) 400 0 (Ch.map X.chE++X.T.map X.tuE)=k0 (Ch.map X.chE++X.T.map X.tuE++Sy.map X.syE):=by
  intro k0;refine QY (r:=λm j=>Zm 400 X.Ls Sy (λ_ _ w=>k0 w) m j (Ch.map X.chE++X.T.map X.tuE++(Sy.take j.toNat).map X.syE)) (N:=Sy.length) (λm j hj=>?_) (λm=>?_) Sy.length 400 0 Q0 Q0 |> Eq.trans Q2
  ·simp only[QqG];obtain⟨row,e⟩:∃q,Sy[j]? = some q:=⟨Sy[j],QqL hj⟩;obtain⟨o,rfl,g1,n,c⟩:=hl.sy row (QqJ e);have bt:=Zs h (i:=1) Q0;have k:=Q2g (R:=Int) h (show 0<=X.Ls.length by omega) some;have l:=Q2g (R:=Int) h (show 1<=X.Ls.length by omega) some;have a0:=QcS (a:=base X.nr 0) (b:=0) (by simp[base]);have a1:=QcS (a:=base X.nr 1) (b:=0) Q0;simp only[show((0:Nat):Int)=0 from rfl,show((1:Nat):Int)=1 from rfl]at k l a0 a1;rw[Zm,Qs hj,QqH,Qt,e,Zv e,QqQ,<- QqP];simp -implicitDefEqProofs only[Qh,QqE,QqI,Qj,k,l,a0,a1,QJ (show j<=1000 by omega),Q0l (a:=base X.nr 0+0) (by simp[base]),Q0l (a:=base X.nr 1+0) Q0];rw[XI Q3,Qh];rfl
  ·simp only[QqG];rw[Zm,Qy,QqF,Qr9]
 rw[s1 (λu=>Wh 400 X.Ls (X.T.map tuR) (λab ac d=>Zm 400 X.Ls Sy (λv x g=>K g) 400 0 d) 400 0 u),s2 (λd=>Zm 400 X.Ls Sy (λv x g=>K g) 400 0 d),s]
end Cx
theorem Qhc{α:Type}{J J':List α}(hJ:∀t,t∈J↔t∈J')(p:α->Bool):J.any p=J'.any p:=by
 rw[Bool.eq_iff_iff,List.any_eq_true,List.any_eq_true];exact⟨λ⟨t,a,h2⟩=>⟨t,(hJ t).1 a,h2⟩,λ⟨t,a,h2⟩=>⟨t,(hJ t).2 a,h2⟩⟩
theorem QfA{α:Type}{J J':List α}(hJ:∀t,t∈J↔t∈J')(p:α->Bool):J.all p=J'.all p:=by
 rw[Bool.eq_iff_iff,Qrj,Qrj];exact⟨λh t ht=>h t ((hJ t).2 ht),λh t ht=>h t ((hJ t).1 ht)⟩
namespace Cx
variable{R:Type} {X:Cx} {per:Int} {Ch Sy De:LL}
theorem Q83{J J':List Tup}(hJ:∀t,t∈J↔t∈J'):X.netV per J Ch Sy=X.netV per J' Ch Sy:=by
 have e1:∀a b,X.fil J a b=X.fil J' a b:=λa b=>List.filter_congr λo _=>by
  unfold TRb;rw[Qhc hJ]
 have e2:∀a b,X.WV per J a b=X.WV per J' a b:=λa b=>by
  unfold WV;rw[e1,e1]
 have d:∀a c b,X.hdw per J a c b=X.hdw per J' a c b:=λa c=>by
  induction c with
  |zero=>exact λ_=>rfl
  |succ c ih=>intro b;rw[hdw,hdw,e2,ih]
 have e:∀c a,X.hdws per J c a=X.hdws per J' c a:=λc=>by
  induction c with
  |zero=>exact λ_=>rfl
  |succ c ih=>intro a;rw[hdws,hdws,d,ih]
 unfold netV aloneJ;rw[e,QfA hJ]
variable(h:X.OK)
theorem Qhe{a b:Nat}(ha:a<=100)(hb:b<=100){W:List Sp2}(hW:W.length<=12){k0:LL->oP R}{A:LL}(hA:A.length<=900):UF 400 (a:Int) (b:Int) (W.map Yl) (λ_ _ w=>k0 w) 400 0 A=k0 (A++W.map (Q8H a b)):=by
 refine QY (r:=λm j=>UF 400 (a:Int) (b:Int) (W.map Yl) (λ_ _ w=>k0 w) m j (A++(W.take j.toNat).map (Q8H a b))) (N:=W.length) (λm j hj=>?_) (λm=>?_) W.length 400 0 Q0 Q0 |> Eq.trans Q2
 ·simp only[QqG];obtain⟨w,e⟩:∃q,W[j]? = some q:=⟨W[j],QqL hj⟩;rw[UF,QqK,Qs hj,QqH,X5 e,Zv e,QqQ,<- QqP];simp -implicitDefEqProofs only[Qh,QbW,Qbp,Qj,QJ (show j<=1000 by omega),Q0l (a:=a) Q0,Q0l (a:=b) Q0];rw[XI Q3,Qh];rfl
 ·simp only[QqG];rw[UF,QqK,Qy,QqF,Qr9]
include h
theorem Qd4(p0:2<=per)(p1:per<=300){J:List Tup}(hJ:X.JOK J){a:Nat}(ha:a<X.N){Ke:oP R}{K1:LL->oP R}:∀(c m b:Nat) (A:LL),b+c=X.N->c<m->A.length+12*c<=900 ->
  VD 400 (GS (X.occs X.L)) (J.map tuR) (a:Int) per Ke (λ_ _ w=>K1 w) m (b:Int) A=match X.hdw per J a c b with | none=>Ke | some H=>K1 (A++H)
 |0,m+1,b,A,hb,_,_=>by
  have aa:(GS (X.occs X.L)).length=X.N:=by rw[Jc];exact ZG
  rw[VD,aa,Q5 ((b:Int)<(X.N:Int)),QqF,hdw];simp only[QqX]
 |c+1,m+1,b,A,hb,hm,hA=>by
  have aa:(GS (X.occs X.L)).length=X.N:=by rw[Jc];exact ZG
  have hN:X.N<=6:=base_le h;have hw:=Q2S h p0 p1 (J:=J) ha (show b<X.N by omega);rw[VD,aa,Q6 ((b:Int)<(X.N:Int)),QqH,Q6F h hJ ha,Q6F h hJ (show b<X.N by omega)];simp -implicitDefEqProofs only[Qh,hw.2.1,QJ (show b<=1000 by omega),hdw];cases ew:X.WV per J a b with
  |none=>rfl
  |some W=>
   have hl:=hw.2.2 W ew;simp -implicitDefEqProofs only[Qhr];rw[Qp (by rfl),Qhe Q0 Q0 hl Q0,Qd4 p0 p1 hJ ha c m (b+1) _ Q0 Q0 Q3];cases X.hdw per J a c (b+1)with
   |none=>rfl
   |some H=>simp -implicitDefEqProofs only[Option.map_some,QqP]
theorem Qd0(p0:2<=per)(p1:per<=300){J:List Tup}(hJ:X.JOK J){Ke:oP R}{K1:LL->oP R}:∀(c m a:Nat) (A:LL),a+c=X.N->c<m->A.length+72*c<=900 ->
  UB 400 (GS (X.occs X.L)) (J.map tuR) per Ke (λ_ _ w=>K1 w) m (a:Int) A=match X.hdws per J c a with | none=>Ke | some H=>K1 (A++H)
 |0,m+1,a,A,ha,_,_=>by
  have aa:(GS (X.occs X.L)).length=X.N:=by rw[Jc];exact ZG
  rw[UB,aa,Q5 ((a:Int)<(X.N:Int)),QqF,hdws];simp only[QqX]
 |c+1,m+1,a,A,ha,hm,hA=>by
  have aa:(GS (X.occs X.L)).length=X.N:=by rw[Jc];exact ZG
  have hN:X.N<=6:=base_le h;rw[UB,aa,Q6 ((a:Int)<(X.N:Int)),QqH,QJ (show a<=1000 by omega),Qd4 h p0 p1 hJ (show a<X.N by omega) (Ke:=Ke) (K1:=λA=>UB 400 (GS (X.occs X.L)) (J.map tuR) per Ke (λ_ _ w=>K1 w) m ((a+1:Nat):Int) A) c 400 (a+1) A Q0 Q0 Q0,hdws];cases eh:X.hdw per J a c (a+1)with
  |none=>rfl
  |some H=>
   have:=Q2p h p0 p1 (J:=J) (show a<X.N by omega) (c:=c) (b:=a+1) Q0 eh;dsimp only;rw[Qd0 p0 p1 hJ c m (a+1) (A++H) Q0 Q0 Q3];cases X.hdws per J c (a+1)with
   |none=>rfl
   |some H'=>simp -implicitDefEqProofs only[Option.map_some,QqP]
theorem Qdz(p0:2<=per)(p1:per<=300){k0 E:oP R}{k1:Int->Bool->oP R}(hk:∀a b,k1 a b=E):UJ 400 (GS (X.occs X.L)) per k0 k1 400 0=bif (X.occs X.L).all (λo=>o.all (Lw per))then E else k0:=by
 have hN:X.N<=6:=base_le h;have ac:(X.occs X.L).length=X.N:=ZG;refine Tq (r:=λm i=>UJ 400 (GS (X.occs X.L)) per k0 k1 m i) (λm i o e hi=>?_) (λm=>?_) Q0
 ·have ho:=QaJ h o (QqJ e);have aa:Qi (GS (X.occs X.L)) (i:Int)=some [D.sl 3 (o.map enc)]:=X5 e;rw[UJ,Jc,Qs hi,QqH,aa];simp -implicitDefEqProofs only[Qh,QqE,X4,Qg8 (show 1<=per by omega) (show per<=7200 by omega) ho.1 (show o.length<=300 by omega),QJ (show i<=1000 by omega)];cases o.all (Lw per)<;>rfl
 ·rw[UJ,Jc,Qy,QqF,hk]
theorem Qew{J:List Tup}(hJ:X.JOK J){k0 E:oP R}{k1:Int->Bool->oP R}(hk:∀a b,k1 a b=E):UK 400 (GS (X.occs X.L)) (J.map tuR) per k0 k1 400 0=bif J.all (λt=>!Q9O per t.2.2.1 t.2.2.2 (X.occN t.1) (X.occN t.2.1))then E else k0:=by
 have ac:=hJ.len;refine Tq (r:=λm i=>UK 400 (GS (X.occs X.L)) (J.map tuR) per k0 k1 m i) (λm i t e hi=>?_) (λm=>?_) Q0
 ·rw[UK,QqK,Qs hi,QqH,X5 e];simp -implicitDefEqProofs only[Qh,tuR,QqE,QqI,Qj,QJ (show i<=1000 by omega),Qgy h hJ (QqJ e)];cases Q9O per t.2.2.1 t.2.2.2 (X.occN t.1) (X.occN t.2.1)<;>rfl
 ·rw[UK,QqK,Qy,QqF,hk]
theorem buildR(hl:X.LsOK per Ch Sy)(p0:2<=per)(p1:per<=300)(hc:Wg 400 X.G.St X.G.Pt X.G.Se X.G.Li per X.skR X.Ro X.Ls Ch (X.T.map tuR) Sy De (some:Int->oP Int)=some 0) :
  VT 400 X.G.St X.G.Pt X.G.Se X.G.Li per X.skR X.Ro X.Ls Ch (X.T.map tuR) Sy De Tu4=some (X.netV per X.jns Ch Sy):=by
 have hN:X.N<=6:=base_le h;have ac:(X.occs X.L).length=X.N:=ZG;have ak:=planned_len h hl;have hJ:=Qg2 h;have aa:(X.pls X.L++(Ch.map X.chE++X.T.map X.tuE++Sy.map X.syE))=X.planned Ch Sy:=by unfold planned;simp only[QqP]
 rw[<- Q83 λt=>Q3o h (t:=t)];unfold VT netV;rw[QgA h hc,Qh,Qp (by rfl)];dsimp only;rw[Jc,ac,Q0l Q0,Qp (QqO Q0),Qdz h p0 p1 (λ_ _=>rfl)];unfold aloneJ;cases (X.occs X.L).all (λo=>o.all (Lw per))
 ·rfl
 rw[QqH,QqH,Qha h,Qh,Qew h hJ (λ_ _=>rfl)];cases (X.jnsR X.L).all (λt=>!Q9O per t.2.2.1 t.2.2.2 (X.occN t.1) (X.occN t.2.1))
 ·rfl
 rw[QqH,QqH];refine(QdY h _).trans ?_;rw[Qgc h,Qhp h hl,Qh,Qh,XI (by rw[<- Qr1,aa];omega),Qh,aa];refine(Qd0 h p0 p1 hJ (Ke:=some ((0:Int),([]:LL),([]:LL),(13:Int))) (K1:=λa=>bif decide (((List.length a:Nat):Int)>512)then some (0,[],[],7)else some (per,X.evs X.L,a,0)) X.N 400 0 (X.planned Ch Sy) Q0 Q0 Q0).trans ?_;cases eh:X.hdws per (X.jnsR X.L) X.N 0 with
 |none=>rfl
 |some H=>
  have:=hdws_len h p0 p1 Q0 eh;dsimp only;rw[Qp (QqO (by rw[Qr1];omega))]
end Cx
def R6(row:List D):Prop:=∃kd f t mn mx w:Int,row=[Ql kd,Ql f,Ql t,Ql mn,Ql mx,Ql w]
def chk(per:Int)(e:Nat):List D->Bool
 |[_,.int _ f,.int _ t,.int _ mn,.int _ mx,.int _ w]=>!(bif bif !(bif decide (f>=0)then decide (f<(e:Int))else false)then true else !(bif decide (t>=0)then decide (t<(e:Int))else false)then true else f == t)&&(!(bif bif bif decide (mn < -65536)then true else decide (mn>mx)then true else decide (mx>65536)then true else decide (wJ (mx-mn)>=per))&&!(bif decide (w<0)then true else decide (w>1048576)))
 |_=>false
theorem Q2w{per:Int}{e:Nat}{kd f t mn mx w:Int}(h:chk per e [Ql kd,Ql f,Ql t,Ql mn,Ql mx,Ql w]=true):0<=f/\f<e/\0<=t/\t<e /\ -65536<=mn/\mn<=mx/\mx<=65536:=by
 simp only[chk,Bool.cond_true_left,Bool.cond_false_right,Qri,Bool.not_eq_true',Bool.or_eq_false_iff,Bool.not_eq_false',decide_eq_true_eq,decide_eq_false_iff_not,beq_eq_false_iff_ne]at h;omega
section
variable{per:Int} {E A:LL} (p0:2<=per) (p1:per<=300) (hE:E.length<=48) (hA:A.length<=512) (hr:∀r∈A,R6 r)
include p0 p1 hE hA hr
theorem Qg4(hl:A.length<400):Te 400 per E A some=some (A.all (chk per E.length)):=by
 unfold Te;rw[Q5 (per<2),Q5 (per>7200),Q5 ((E.length:Int)>48),Q5 ((A.length:Int)>512)];simp -implicitDefEqProofs only[QqF];refine(Tq (r:=λm i=>U9 400 A (A.length:Int) per E A (some false) (λ_ _=>some true) m i) (l:=A) (p:=chk per E.length) (E0:=some false) (E1:=some true) (λm i q e hi=>?_) (λm=>?_) (fuel:=400) Q0).trans (by cases A.all (chk per E.length)<;>rfl)
 ·obtain⟨kd,f,t,mn,mx,w,rfl⟩:=hr q (QqJ e);rw[U9,Qs hi,QqH,Qt,e];unfold Gk;simp -implicitDefEqProofs only[Qh,QqE,QqI,Qj,QJ (show i<=1000 by omega)];dsimp only[chk];cases (bif bif !(bif decide (f>=0)then decide (f<(E.length:Int))else false)then true else !(bif decide (t>=0)then decide (t<(E.length:Int))else false)then true else f == t)
  ·cases (bif bif bif decide (mn < -65536)then true else decide (mn>mx)then true else decide (mx>65536)then true else decide (wJ (mx-mn)>=per))
   ·cases (bif decide (w<0)then true else decide (w>1048576))<;>rfl
   ·rfl
  ·rfl
 ·rw[U9,Qy,QqF]
theorem Qd6(hl:A.length<400):Ut 400 per E A some=some (A.all (chk per E.length)):=by
 unfold Ut T4;rw[Q6 (per>=2),Q6 (per<=7200),Q5 ((E.length:Int)>48),Q5 ((A.length:Int)>512)];simp -implicitDefEqProofs only[QqF,QqH,Qh,QqS];refine(Tq (r:=λm i=>VE 400 per E A (some false) (λ_ _=>some true) m i) (l:=A) (p:=chk per E.length) (E0:=some false) (E1:=some true) (λm i q e hi=>?_) (λm=>?_) (fuel:=400) Q0).trans (by cases A.all (chk per E.length)<;>rfl)
 ·obtain⟨kd,f,t,mn,mx,w,rfl⟩:=hr q (QqJ e);rw[VE,Qs hi,QqH,Qt,e];unfold T4;simp -implicitDefEqProofs only[Qh,QqE,QqI,Qj,QJ (show i<=1000 by omega),Qo (x:=(E.length:Int)-1) Q0 Q0];have sw:∀(c d:Bool) (x y:oP Bool),c = !d->(bif c then x else y)=bif d then y else x:=λc d x y h=>by rw[h];cases d<;>rfl
  refine sw _ _ _ _ ?_;rw[Bool.eq_iff_iff];simp only[chk,Bool.cond_true_left,Bool.cond_false_right,Qri,Bool.or_eq_true,Bool.not_eq_true',Bool.and_eq_false_iff,Bool.or_eq_false_iff,Bool.not_eq_false',decide_eq_true_eq,decide_eq_false_iff_not,beq_eq_false_iff_ne,beq_iff_eq];omega
 ·rw[VE,Qy,QqF]
def Q3q(per:Int)(E A:LL)(tl:List Int):Bool:=bif (bif !(A.all (chk per E.length))then true else(tl.length:Int) != (E.length:Int))then false else tl.all λx=>!(bif decide (x<0)then true else decide (x>=per))
theorem Qed(hl:A.length<400){tl:List Int}:G3 400 per E A (encI tl) some=some (Q3q per E A tl)/\PY 400 per E A (encI tl) some=some (Q3q per E A tl):=by
 have ca:=Qg4 p0 p1 hE hA hr hl;have cb:=Qd6 p0 p1 hE hA hr hl;have aa:(encI tl).length=tl.length:=QR tl;unfold G3 PY Q3q;rw[ca,cb,Qh,Qh,aa];cases hc:(bif !(A.all (chk per E.length))then true else(tl.length:Int) != (E.length:Int))with
 |true=>exact⟨rfl,rfl⟩
 |false=>
  have ac:tl.length=E.length:=by
   cases a : !(A.all (chk per E.length))with
   |true=>rw[a]at hc;cases hc
   |false=>
    rw[a,QqF]at hc;have:(tl.length:Int)=(E.length:Int):=by simpa using hc
    omega
  rw[QqF,QqF,QqF];constructor
  ·refine(Tq (r:=λm i=>V5 400 (encI tl) (tl.length:Int) per (some false) (λ_ _=>some true) m i) (l:=tl) (p:=λx=>!(bif decide (x<0)then true else decide (x>=per))) (E0:=some false) (E1:=some true) (λm i q e hi=>?_) (λm=>?_) (fuel:=400) Q0).trans (by cases tl.all _<;>rfl)
   ·rw[V5,Qs hi,QqH,KS e];simp -implicitDefEqProofs only[Qh,QqE,Qj,QJ (show i<=1000 by omega)];cases (bif decide (q<0)then true else decide (q>=per))<;>rfl
   ·rw[V5,Qy,QqF]
  ·refine(Tq (r:=λm i=>Jf 400 (encI tl) per (some false) (λ_ _=>some true) m i) (l:=tl) (p:=λx=>!(bif decide (x<0)then true else decide (x>=per))) (E0:=some false) (E1:=some true) (λm i q e hi=>?_) (λm=>?_) (fuel:=400) Q0).trans (by cases tl.all _<;>rfl)
   ·rw[Jf,aa,Qs hi,QqH,KS e];unfold T4;simp -implicitDefEqProofs only[Qh,QqE,Qj,QJ (show i<=1000 by omega),Qo (x:=per-1) Q0 Q0];by_cases a:q<0
    ·rw[Q5 (q>=0),show decide (q<0)=true from QqR a];rfl
    ·rw[Q6 (q>=0),show decide (q<0)=false from QqO a];by_cases h2:q>=per
     ·rw[Q5 (q<=per-1),show decide (q>=per)=true from QqR h2];rfl
     ·rw[Q6 (q<=per-1),show decide (q>=per)=false from QqO h2];rfl
   ·rw[Jf,aa,Qy,QqF]
end
theorem Pi{w:List Int}{i:Nat}{v:Int}:(encI w).set i [Ql v]=encI (w.set i v):=by
 unfold encI;rw[List.map_set]
def tat(tl:List Int)(i:Int):Int:=tl.getD i.toNat 0
def dur(tl:List Int)(per f t mn:Int):Int:=mn+(tat tl t-tat tl f-mn) % per
def Y9(tl:List Int)(per:Int):List D->Int
 |[_,.int _ f,.int _ t,.int _ mn,_,_]=>dur tl per f t mn
 |_=>0
def Q0u(l:List Bool):LL:=l.map λb=>[D.bool b]
theorem Vo{w:List Int}{i:Nat}(h:i<w.length):(encI w)[i]? = some [Ql w[i]]:=by
 exact KS (QqL h)
theorem Q5S{w:List Bool}{i:Nat}(h:i<w.length):(Q0u w)[i]? = some [D.bool w[i]]:=by
 simp[Q0u,QqU,QqL]
theorem Q2k{w:List Bool}:(Q0u w).length=w.length:=by simp[Q0u]
theorem Q7A{w:List Bool}{i:Nat}{v:Bool}:(Q0u w).set i [D.bool v]=Q0u (w.set i v):=by
 grind[Q0u,List.map_set]
def TG(per:Int)(k:Nat)(w:List Int):Prop:=w.length=k/\∀x∈w,0<=x/\x<per
theorem TG.set{per:Int}{k:Nat}{w:List Int}(h:TG per k w){i:Nat}{v:Int}(a:0<=v)(b:v<per):TG per k (w.set i v):=by
 refine⟨by rw[Qrc];exact h.1,λx hx=>?_⟩;rcases List.mem_or_eq_of_mem_set hx with hx | rfl
 ·exact h.2 x hx
 omega
theorem TG.tat{per:Int}{k:Nat}{w:List Int}(h:TG per k w){i:Int}(a:0<=i)(b:i<(k:Int)):Qi (encI w) i=some [Ql (Vx.tat w i)]/\0<=Vx.tat w i/\Vx.tat w i<per:=by
 have hl:=h.1;have e:w[i.toNat]? = some (Vx.tat w i):=by
  simp_all [Vx.tat,QqM,QqL]
 have:=KS e;rw[show(i.toNat:Int)=i by omega]at this;exact⟨this,h.2 _ (QqJ e)⟩
section
variable{R:Type} {n N:Nat} (hN:N<=48) {P:oP R->Prop}
include hN
theorem Qgo{k0:Int->Bool->LL->oP R}(H:∀w:List Int,w.length=N->P (k0 (N:Int) false (encI w))):∀(c i m:Nat) (w:List Int),i+c=N->c<m->w.length=N->P (Zh n (N:Int) k0 m (i:Int) (encI w))
 |0,i,m+1,w,hi,_,hw=>by
  rw[Zh,show i=N by omega,Qy,QqF];exact H w hw
 |c+1,i,m+1,w,hi,hm,hw=>by
  rw[Zh,Qs Q0,QqH,XP Q0 (by rw[QR];omega),Qh,QqG,Vo Q0,Qh,QqY,Pi,QJ Q0];exact Qgo H c (i+1) m _ Q0 Q0 (by rw[Qrc];exact hw)
theorem Qaz{x y:Int}{k0:Int->Bool->LL->oP R}(H:∀w:List Int,w.length=N->P (k0 (N:Int) false (encI w))):∀(c i m:Nat) (w:List Int),i+c=N->c<m->w.length=N->P (Zf n x y (N:Int) k0 m (i:Int) (encI w))
 |0,i,m+1,w,hi,_,hw=>by
  rw[Zf,show i=N by omega,Qy,QqF];exact H w hw
 |c+1,i,m+1,w,hi,hm,hw=>by
  rw[Zf,Qs Q0,QqH,XP Q0 (by rw[QR];omega),Qh,QqG,Vo Q0];simp -implicitDefEqProofs only[Qh,QqE,Qj,QqY,Pi,QJ (show i<=1000 by omega)];cases w[i]'Q0 == y with
  |true=>exact Qaz H c (i+1) m _ Q0 Q0 (by rw[Qrc];exact hw)
  |false=>exact Qaz H c (i+1) m _ Q0 Q0 hw
theorem Qgh(hn:N<n){w:List Int}(hw:w.length=N){kd f t mn mx q:Int}(hf:0<=f/\f<N)(ht:0<=t/\t<N){K:Bool->LL->oP R}(H:∀b (w:List Int),w.length=N->P (K b (encI w))):P (JE n (encI w) kd f t mn mx q K):=by
 obtain⟨f,rfl⟩:=Int.eq_ofNat_of_zero_le hf.1;obtain⟨t,rfl⟩:=Int.eq_ofNat_of_zero_le ht.1;unfold JE;rw[XP Q0 (by grind[QR]),Qh,QqG,Vo (show f<w.length by omega),Qh];simp -implicitDefEqProofs only[Qh,QqE,Qj];rw[XP Q0 (by rw[QR];omega),Qh,QqG,Vo (show t<w.length by omega),Qh];simp -implicitDefEqProofs only[Qh,QqE,Qj];cases w[f]'Q0 == w[t]'Q0 with
 |true=>simp_all
 |false=>
  rw[QqF,QR];generalize w[f]'Q0=x;generalize w[t]'Q0=y;rw[hw];exact Qaz hN (H true) N 0 n w Q0 hn hw
theorem Qep{h:Nat}(hh:h<N){ro:List Int}(hr:ro.length=N){k0:Int->Bool->LL->oP R}(H:∀w:List Int,w.length=N->P (k0 (h:Int) false (encI w))):∀(c i m:Nat) (w:List Int),i+c=h->c<m->w.length=N->P (YC n (h:Int) (encI ro) k0 m (i:Int) (encI w))
 |0,i,m+1,w,hi,_,hw=>by
  rw[YC,show i=h by omega,Qy,QqF];exact H w hw
 |c+1,i,m+1,w,hi,hm,hw=>by
  rw[YC,Qs Q0,QqH];simp -implicitDefEqProofs only[XP (len:=(encI ro).length) (n:=(i:Int)) Q0 (by rw[QR];omega),XP (len:=(encI ro).length) (n:=(h:Int)) Q0 (by rw[QR];omega),XP (len:=(encI w).length) (n:=(i:Int)) Q0 (by rw[QR];omega),XP (len:=(encI w).length) (n:=(h:Int)) Q0 (by rw[QR];omega),QqG,Vo (show i<ro.length by omega),Vo (show h<ro.length by omega),Vo (show i<w.length by omega),Vo (show h<w.length by omega),Qh,QqE,Qj,QqY,Pi,QJ (show i<=1000 by omega)];cases ro[i]'Q0 == ro[h]'Q0 with
  |true=>exact Qep hh hr H c (i+1) m _ Q0 Q0 (by rw[Qrc];exact hw)
  |false=>exact Qep hh hr H c (i+1) m _ Q0 Q0 hw
theorem Qe9(hn:N<n){ro:List Int}(hr:ro.length=N){k0:Int->Int->Bool->LL->oP R}(H:∀a (w:List Int),w.length=N->P (k0 a (N:Int) false (encI w))):∀(c i m:Nat) (a:Int) (w:List Int),i+c=N->c<m->w.length=N->P (YD n (N:Int) (encI ro) k0 m a (i:Int) (encI w))
 |0,i,m+1,a,w,hi,_,hw=>by
  rw[YD,show i=N by omega,Qy,QqF];exact H a w hw
 |c+1,i,m+1,a,w,hi,hm,hw=>by
  rw[YD,Qs Q0,QqH,XP Q0 (by rw[QR];omega),Qh,QqG,Vo (show i<w.length by omega),Qh,QqY,Pi];refine Qep hN (show i<N by omega) hr (λw hw=>?_) i 0 n _ Q0 Q0 (by rw[Qrc];exact hw);simp -implicitDefEqProofs only[XP (len:=(encI w).length) (n:=(i:Int)) Q0 (by rw[QR];omega),QqG,Vo (show i<w.length by omega),Qh,QqE,Qj,QqY,Pi,QJ (show i<=1000 by omega)];cases decide (w[i]'Q0<0)with
  |true=>exact Qe9 hn hr H c (i+1) m _ _ Q0 Q0 (by rw[Qrc];exact hw)
  |false=>exact Qe9 hn hr H c (i+1) m _ _ Q0 Q0 hw
theorem QiL{A:LL}(hA:A.length<400){per:Int}(hr:∀r∈A,R6 r)(hc:∀r∈A,chk per N r=true)(hn:N<n){k0:Int->Bool->LL->oP R}(H:∀a b (w:List Int),w.length=N->P (k0 a b (encI w))):∀(aa:LL) (i m:Nat) (w:List Int),A.drop i=aa->aa.length<m->w.length=N->P (Ze n A k0 m (i:Int) (encI w)):=by
 intro aa;induction aa with
 |nil=>
  intro i m w hd hm hw;obtain⟨m,rfl⟩:∃k,m=k+1:=⟨m-1,Q0⟩;have:=ZI hd;rw[Ze,show decide ((i:Int)<(A.length:Int))=false by simp_all,QqF]
  simp_all
 |cons r aa ih=>
  intro i m w hd hm hw;obtain⟨m,rfl⟩:∃k,m=k+1:=⟨m-1,by simp at hm;omega⟩;obtain⟨e,am,ak⟩:=Y8 hd;have ac:=QqJ e;obtain⟨kd,f,t,mn,mx,q,rfl⟩:=hr r ac;have hk:=Q2w (hc _ ac);rw[Qr5]at hm;rw[Ze,Qs ak,QqH,Qt,e];simp -implicitDefEqProofs only[Qh,QqE,QqI,Qj,QJ (show i<=1000 by omega)];have hx:∃b w',JE n (encI w) kd f t mn mx q Tu2=some (b,encI w')/\w'.length=N:=Qgh (P:=λX=>∃b w',X=some (b,encI w')/\w'.length=N) hN hn hw Q0 Q0 λb w' h=>⟨b,w',rfl,h⟩
  obtain⟨b,w',e',ai⟩:=hx;rw[e',Qh];dsimp only;rw[MD (by rw[QR,QR];omega),Qh];exact ih (i+1) m w' am Q0 ai
theorem Q91{h:Nat}(hh:h<N){ro:List Int}(hr:ro.length=N){k0:Int->Bool->LL->oP R}(H:∀w:List Bool,w.length=N->P (k0 (h:Int) false (Q0u w))):∀(c i m:Nat) (w:List Bool),i+c=h->c<m->w.length=N->P (YQ n (encI ro) (h:Int) k0 m (i:Int) (Q0u w))
 |0,i,m+1,w,hi,_,hw=>by
  rw[YQ,show i=h by omega,Qy,QqF];exact H w hw
 |c+1,i,m+1,w,hi,hm,hw=>by
  rw[YQ,Qs Q0,QqH];simp -implicitDefEqProofs only[Qt,XP (len:=(Q0u w).length) (n:=(h:Int)) Q0 (by rw[Q2k];omega),QqG,Vo (show i<ro.length by omega),Vo (show h<ro.length by omega),Q5S (show h<w.length by omega),Qh,QqE,Qj,QqY,Q7A,QJ (show i<=1000 by omega)];cases ro[i]'Q0 == ro[h]'Q0 with
  |true=>exact Q91 hh hr H c (i+1) m _ Q0 Q0 (by rw[Qrc];exact hw)
  |false=>exact Q91 hh hr H c (i+1) m _ Q0 Q0 hw
theorem Qdo(hn:N<n){ro:List Int}(hr:ro.length=N){k0:Int->Bool->LL->oP R}(H:∀w:List Bool,w.length=N->P (k0 (N:Int) false (Q0u w))):∀(c i m:Nat) (w:List Bool),i+c=N->c<m->w.length=N->P (ZH n (encI ro) (N:Int) k0 m (i:Int) (Q0u w))
 |0,i,m+1,w,hi,_,hw=>by
  rw[ZH,show i=N by omega,Qy,QqF];exact H w hw
 |c+1,i,m+1,w,hi,hm,hw=>by
  rw[ZH,Qs Q0,QqH,XP Q0 (by rw[Q2k];omega),Qh,QqG,Q5S (show i<w.length by omega),Qh,QqY,Q7A,QJ Q0];exact Q91 hN (show i<N by omega) hr (λw hw=>Qdo hn hr H c (i+1) m w Q0 Q0 hw) i 0 n _ Q0 Q0 (by rw[Qrc];exact hw)
omit hN in
theorem QhZ:List.replicate N [D.int .i64 (0:Int)]=encI (List.replicate N 0):=by grind[encI,List.map_replicate]
omit hN in
theorem Qk4:List.replicate N [D.bool false]=Q0u (List.replicate N false):=by grind[Q0u,List.map_replicate]
omit hN in
theorem Q4l:(bif decide ((0:Int)<=(N:Int))&&decide ((N:Int)<=(N:Int))then some ()else none)=some ():=by simp_all
end
def FsB(A:LL)(per:Int)(i:Nat)(w:List Int):Prop:=∀kd f t mn mx q:Int,[Ql kd,Ql f,Ql t,Ql mn,Ql mx,Ql q]∈A->0<=f->f<(i:Int)->0<=t->t<(i:Int)->mn+(tat w t-tat w f-mn) % per<=mx
def TF(A:LL)(per:Int)(k i:Nat)(w:List Int):Prop:=TG per k w/\FsB A per i w
section
variable{per:Int} {E A:LL} {n:Nat} (p0:2<=per) (p1:per<=300) (hE:E.length<=48) (hA:A.length<400) (hr:∀r∈A,R6 r) (hc:∀r∈A,chk per E.length r=true) (hn:n=400)
include p0 p1 hE hA hr hc hn
theorem Qjq(aa:Ut n per E A some=some true):∃w:List Int,JM n per E A some=some (encI w)/\w.length=E.length:=by
 unfold JM;rw[aa,Qh,QqS,QqF,Q4l,Qh,QqG,XI Q0,Qh,List.length_replicate,QhZ];refine Qgo (P:=λX=>∃w:List Int,X=some (encI w)/\w.length=E.length) hE (λw hw=>?_) E.length 0 n _ Q0 Q0 Q2;refine QiL (P:=λX=>∃w:List Int,X=some (encI w)/\w.length=E.length) hE hA hr hc Q0 (λa b w hw=>?_) A 0 n w rfl Q0 hw;rw[QR,hw,Q4l,Qh,QqG,XI Q0,Qh,QhZ];exact Qe9 (P:=λX=>∃w:List Int,X=some (encI w)/\w.length=E.length) hE Q0 hw (λa w hw=>⟨w,rfl,hw⟩) E.length 0 n 0 _ Q0 Q0 Q2
theorem Qkm(aa:Ut n per E A some=some true){bu:Int}{al:Bool}:∃w:List Bool,GJ n per E A bu al Tu11=some (per,E,A,Q0u w,bu,0,false,al,false,0,encI (List.replicate E.length 0))/\w.length=E.length:=by
 obtain⟨ro,k,h2⟩:=Qjq p0 p1 hE hA hr hc hn aa;unfold GJ;rw[k,Qh,Q4l,Qh,QqG,XI Q0,Qh,Qh,XI Q0,Qh,QhZ,Qk4,QR,h2];exact Qdo (P:=λX=>∃w:List Bool,X=some (per,E,A,Q0u w,bu,0,false,al,false,0,encI (List.replicate E.length 0))/\w.length=E.length) hE Q0 h2 (λw hw=>⟨w,rfl,hw⟩) E.length 0 n _ Q0 Q0 Q2
theorem Qd9{R:Type}{w:List Int}(hw:TG per E.length w){kd f t mn mx q:Int}(hm:[Ql kd,Ql f,Ql t,Ql mn,Ql mx,Ql q]∈A)(K:Int->oP R):TH n per (encI w) f t mn K=K (mn+(tat w t-tat w f-mn) % per):=by
 have hk:=Q2w (hc _ hm);have tf:=hw.tat (i:=f) Q0 Q0;have tt:=hw.tat (i:=t) Q0 Q0;have:=Qr3 (tat w t-tat w f-mn) (show per≠0 by omega);have:=Qr0 (tat w t-tat w f-mn) (show 0<per by omega);unfold TH;simp -implicitDefEqProofs only[Qh,QqE,QqI,Qj,tf.1,tt.1,Qo (x:=tat w t-tat w f) Q0 Q0,Qo (x:=tat w t-tat w f-mn) Q0 Q0,QhY (n:=n) (t:=per) (x:=tat w t-tat w f-mn) Q0 Q0 Q0 Q0,Qo (x:=mn+(tat w t-tat w f-mn) % per) Q0 Q0]
theorem Qig{w:List Int}(hw:TG per E.length w){al fd:Bool}{best i:Int}:∃b,Zr n per A al fd best (encI w) i some=some b/\(al=false->b=false->∀kd f t mn mx q:Int,[Ql kd,Ql f,Ql t,Ql mn,Ql mx,Ql q]∈A->f<=i->t<=i->mn+(tat w t-tat w f-mn) % per<=mx):=by
 unfold Zr;have go:∀(aa:LL) (j m:Nat) (s:Int),A.drop j=aa->aa.length<m->∃b,Xi n i (encI w) per A (some true) (λo u v=>some (bif (bif al then fd else false)then(decide (o>=best))else false)) m s (j:Int)=some b/\(al=false->b=false->∀kd f t mn mx q:Int,[Ql kd,Ql f,Ql t,Ql mn,Ql mx,Ql q]∈aa->f<=i->t<=i->mn+(tat w t-tat w f-mn) % per<=mx):=by
  intro aa;induction aa with
  |nil=>
   intro j m s hd hm;obtain⟨m,rfl⟩:∃k,m=k+1:=⟨m-1,by simp at hm;omega⟩;have:=ZI hd;rw[Xi,show decide ((j:Int)<(A.length:Int))=false by simpa using this,QqF]
   simp_all
  |cons r aa ih=>
   intro j m s hd hm;obtain⟨m,rfl⟩:∃k,m=k+1:=⟨m-1,by simp at hm;omega⟩;obtain⟨e,ao,ar⟩:=Y8 hd;have an:=QqJ e;obtain⟨kd,f,t,mn,mx,q,rfl⟩:=hr r an;rw[Qr5]at hm;rw[Xi,Qs ar,QqH,Qt,e];simp -implicitDefEqProofs only[Qh,QqE,QqI,Qj,Qd9 p0 p1 hE hA hr hc hn hw an,QJ (show j<=1000 by omega)];cases l:(bif decide (f>i)then true else decide (t>i))with
   |true=>
    obtain⟨b,hb,ak⟩:=ih (j+1) m (wJ (s+wJ (q*mn))) ao Q0;refine⟨b,hb,λa h2 ai f' t' ac am q' c d g=>?_⟩;rcases Qro.1 c with h | h
    ·cases h;rw[QqO Q0,QqO Q0]at l;cases l
    ·exact ak a h2 ai f' t' ac am q' h d g
   |false=>
    rw[QqF];cases p:decide (mn+(tat w t-tat w f-mn) % per>mx)with
    |true=>exact⟨_,rfl,λ_ h=>nomatch h⟩
    |false=>
     obtain⟨b,hb,ak⟩:=ih (j+1) m (wJ (s+wJ (q*(mn+(tat w t-tat w f-mn) % per)))) ao Q0;refine⟨b,hb,λa h2 ai f' t' ac am q' c d g=>?_⟩;rcases Qro.1 c with h | h
     ·cases h;have:=of_decide_eq_false p;omega
     ·exact ak a h2 ai f' t' ac am q' h d g
 exact go A 0 n 0 rfl Q0
theorem Qjl{w:List Int}(hw:TG per E.length w):∃c e,MK n per E A (encI w) Tu2=some (c,e):=by
 have hg:=(Qed p0 p1 hE Q0 hr hA (tl:=w)).2;rw[<- hn]at hg;unfold MK;rw[hg,Qh];cases Q3q per E A w with
 |false=>exact⟨_,_,rfl⟩
 |true=>
  rw[QqS,QqF];have go:∀(aa:LL) (j m:Nat) (s:Int),A.drop j=aa->aa.length<m->∃c e,J8 n (encI w) per A (λd g h=>some (d,(0:Int))) m s (j:Int)=some (c,e):=by
   intro aa;induction aa with
   |nil=>
    intro j m s hd hm;obtain⟨m,rfl⟩:∃k,m=k+1:=⟨m-1,by simp at hm;omega⟩;have:=ZI hd;rw[J8,show decide ((j:Int)<(A.length:Int))=false by simpa using this,QqF];exact⟨_,_,rfl⟩
   |cons r aa ih=>
    intro j m s hd hm;obtain⟨m,rfl⟩:∃k,m=k+1:=⟨m-1,by simp at hm;omega⟩;obtain⟨e,ak,ai⟩:=Y8 hd;have ac:=QqJ e;obtain⟨kd,f,t,mn,mx,q,rfl⟩:=hr r ac;rw[Qr5]at hm;rw[J8,Qs ai,QqH,Qt,e];simp -implicitDefEqProofs only[Qh,QqE,QqI,Qj,Qd9 p0 p1 hE hA hr hc hn hw ac,QJ (show j<=1000 by omega)];exact ih (j+1) m _ ak Q0
  exact go A 0 n 0 rfl Q0
omit p0 p1 hE hA hr hc hn in
theorem TF.dn{i:Nat}{w:List Int}{k:Nat}(h:TF A per k (i+1) w):TF A per k i w:=⟨h.1,λkd f t mn mx q hm a b h2 c=>h.2 kd f t mn mx q hm a Q0 h2 Q0⟩
omit p0 p1 hE hA hr hc hn in
theorem TF.set{i:Nat}{w:List Int}{k:Nat}{v:Int}(h:TF A per k i w)(c:0<=v)(d:v<per):TF A per k i (w.set i v):=by
 refine⟨h.1.set c d,λkd f t mn mx q hm g0 g1 a b=>?_⟩;have e:∀x:Int,0<=x->x<(i:Int)->tat (w.set i v) x=tat w x:=λx g j=>by
  unfold tat;rw[QqM,QqM,List.getElem?_set_ne Q0]
 rw[e f g0 g1,e t a b];exact h.2 kd f t mn mx q hm g0 g1 a b
def QhB(per:Int)(E A:LL)(i:Nat)(fs:List Bool)(bu:Int)(X:oP (Bool×Int×LL×LL×LL×Int×Int×Bool×Bool×Bool×Int×LL×LL)):Prop:=
 ∃r us ov fd best res w,X=some (r,per,E,A,Q0u fs,bu,us,ov,false,fd,best,res,encI w)/\TF A per E.length i w/\(fd=true->∃v,res=encI v/\TF A per E.length E.length v)
theorem QgS{fs:List Bool}(bi:fs.length=E.length){bu:Int}:∀(c d i:Nat) (us:Int) (ov fd:Bool) (best:Int) (res:LL) (w:List Int),i+c=E.length->c<d->TF A per E.length i w->(fd=true->∃v,res=encI v/\TF A per E.length E.length v) ->
  QhB per E A i fs bu (XE n d per E A (Q0u fs) bu us ov false fd best res (encI w) (i:Int)):=by
 intro c;induction c with
 |zero=>
  intro d i us ov fd best res w hi hd hw hf;obtain⟨d,rfl⟩:∃k,d=k+1:=⟨d-1,Q0⟩;obtain⟨c,e,a3⟩:=Qjl p0 p1 hE hA hr hc hn hw.1;obtain rfl:i=E.length:=Q0
  rw[XE,VY,show((E.length:Int) == (E.length:Int))=true by simp,QqH,QR,hw.1.1,XI Q0,Qh,a3,Qh];exact⟨_,_,_,_,_,_,_,rfl,hw,λ_=>⟨w,rfl,hw⟩⟩
 |succ c ih=>
  intro d i us ov fd best res w hi hd hw hf;obtain⟨d,rfl⟩:∃k,d=k+1:=⟨d-1,Q0⟩;rw[XE,VY,show((i:Int) == (E.length:Int))=false by simp;omega,QqF,XP Q0 (by rw[Q2k];omega),Qh,QqG,Q5S (show i<fs.length by omega)];simp -implicitDefEqProofs only[Qh,QqE,Lx];have az:∀(M:Nat),(M:Int)<=per->∀(k:Nat) (t m:Nat) (us:Int) (ov fd:Bool) (best:Int) (res:LL) (w:List Int),t+k=M->k<m->TF A per E.length i w->(fd=true->∃v,res=encI v/\TF A per E.length E.length v) ->
    ∀{k0:LL->LL->Int->LL->LL->Int->Int->Bool->Bool->Bool->Int->LL->oP (Bool×Int×LL×LL×LL×Int×Int×Bool×Bool×Bool×Int×LL×LL)} {k1:Int->Bool->LL->LL->Int->LL->LL->Int->Int->Bool->Bool->Bool->Int->LL->oP (Bool×Int×LL×LL×LL×Int×Int×Bool×Bool×Bool×Int×LL×LL)},
    (∀us ov fd best res w,TF A per E.length i w->(fd=true->∃v,res=encI v/\TF A per E.length E.length v)->QhB per E A i fs bu (k0 (Q0u fs) (encI w) per E A bu us ov false fd best res)) ->
    (∀a b us ov fd best res w,TF A per E.length i w->(fd=true->∃v,res=encI v/\TF A per E.length E.length v)->QhB per E A i fs bu (k1 a b (Q0u fs) (encI w) per E A bu us ov false fd best res)) ->
    QhB per E A i fs bu (Xu n (XE n d) (i:Int) (M:Int) k0 k1 m (t:Int) (Q0u fs) (encI w) per E A bu us ov false fd best res):=by
   intro M hM k;induction k with
   |zero=>
    intro t m us ov fd best res w ht hm hw hf k0 k1 g h;obtain⟨m,rfl⟩:∃k,m=k+1:=⟨m-1,Q0⟩;rw[Xu,show t=M by omega,Qy,QqF];exact h _ _ _ _ _ _ _ w hw hf
   |succ k a4=>
    intro t m us ov fd best res w ht hm hw hf k0 k1 g h;obtain⟨m,rfl⟩:∃k,m=k+1:=⟨m-1,Q0⟩;have bm:=hw.1.1;rw[Xu,Qs Q0,QqH];cases decide (wJ (us+1)>bu)with
    |true=>exact g _ _ _ _ _ w hw hf
    |false=>
     have a2:TF A per E.length i (w.set i (t:Int)):=hw.set Q0 Q0;obtain⟨b,hb,a5⟩:=Qig p0 p1 hE hA hr hc hn a2.1 (al:=false) (fd:=fd) (best:=best) (i:=(i:Int));rw[QqF,XP Q0 (by rw[QR];omega),Qh,QqG,Vo (show i<w.length by omega),Qh,QqY,Pi,hb,Qh,QJ (show i<=1000 by omega),QJ (show t<=1000 by omega)];cases b with
     |true=>
      simp -implicitDefEqProofs only[QqS,QqF];exact a4 (t+1) m _ _ _ _ _ _ Q0 Q0 a2 hf g h
     |false=>
      obtain⟨r,ba,bd,bj,a6,a7,bk,hx,ax,ay⟩:=ih d (i+1) (wJ (us+1)) ov fd best res _ Q0 Q0 ⟨a2.1,λkd f t mn mx q hm g h h2 h3=>a5 rfl rfl kd f t mn mx q hm Q0 Q0⟩ hf;rw[Qr6,QqH,hx,Qh];cases r with
      |true=>exact a4 (t+1) m _ _ _ _ _ _ Q0 Q0 ax.dn ay g h
      |false=>exact g _ _ _ _ _ _ ax.dn ay
  have e1:((1:Nat):Int)=1:=rfl;obtain⟨q,hq⟩:=Int.eq_ofNat_of_zero_le (show 0<=per by omega);cases fs[i]'Q0 with
  |true=>exact az 1 Q0 1 0 n us ov fd best res w Q0 Q0 hw hf (λus ov fd best res w hw hf=>⟨_,_,_,_,_,_,_,rfl,hw,hf⟩) λa b us ov fd best res w hw hf=>⟨_,_,_,_,_,_,_,rfl,hw,hf⟩
  |false=>
   have:=az q Q0 q 0 n us ov fd best res w Q0 Q0 hw hf (k0:=λj l o p s u x y z aa ab ac=>some (false,o,p,s,j,u,x,y,z,aa,ab,ac,l)) (k1:=λau av ad ae ag ah ai aj ak am an ao ap aq=>some (true,ag,ah,ai,ad,aj,ak,am,an,ao,ap,aq,ae)) (λus ov fd best res w hw hf=>⟨_,_,_,_,_,_,_,rfl,hw,hf⟩) λa b us ov fd best res w hw hf=>⟨_,_,_,_,_,_,_,rfl,hw,hf⟩
   rw[<- hq]at this;exact this
theorem Qi4(aa:Ut n per E A some=some true):(∃us e,Zq n per E A 4000 (λa b=>some (.inl (a,b))) (λa b c=>some (.inr (a,b,c)))=some (.inl (us,e):(Int×Int) ⊕ (LL×Int×Int))) \/
  ∃v us,Zq n per E A 4000 (λa b=>some (.inl (a,b))) (λa b c=>some (.inr (a,b,c)))=some (.inr (encI v,us,0):(Int×Int) ⊕ (LL×Int×Int))/\TG per E.length v/\FsB A per E.length v:=by
 obtain⟨fs,d,h2⟩:=Qkm p0 p1 hE hA hr hc hn aa (bu:=4000) (al:=false);obtain⟨r,us,ov,fd,best,res,w,hx,hw,hf⟩:=QgS p0 p1 hE hA hr hc hn h2 (bu:=4000) E.length n 0 0 false false 0 [] (List.replicate E.length 0) Q0 Q0 ⟨⟨by simp,λx hx=>by have:=List.eq_of_mem_replicate hx;omega⟩,λkd f t mn mx q hm h d=>by omega⟩ (λe=>nomatch e);have ai:Q2j n 4000 1 1048576 (some:Bool->oP Bool)=some true:=rfl;unfold Zq Fb;rw[aa,Qh,QqS,QqF,ai,Qh,QqS,QqF,d,Qh];dsimp only;rw[show((0:Nat):Int)=0 from rfl]at hx;rw[hx,Qh];dsimp only;cases ov with
 |true=>exact .inl ⟨_,_,rfl⟩
 |false=>
  cases fd with
  |false=>exact .inl ⟨_,_,rfl⟩
  |true=>
   obtain⟨v,rfl,g⟩:=hf rfl;exact .inr ⟨v,_,rfl,g⟩
omit p0 p1 hE hA hr hc hn in
theorem QfQ(aa:Ut n per E A some=some false):∃us e,Zq n per E A 4000 (λa b=>some (.inl (a,b))) (λa b c=>some (.inr (a,b,c)))=some (.inl (us,e):(Int×Int) ⊕ (LL×Int×Int)):=by
 unfold Zq Fb;rw[aa,Qh,Qr6,QqH];exact⟨_,_,rfl⟩
end
namespace Cx
variable{X:Cx}
structure Gd(X:Cx)(per:Int)(Ch Sy A:LL)(tl:List Int):Prop where
 ok:X.OK
 ls:X.LsOK per Ch Sy
 p0:2<=per
 p1:per<=300
 act:∃H,A=X.planned Ch Sy++H/\∀r∈H,∃a b w,r=Q8H a b w
 len:A.length<400
 tlen:tl.length=2*X.N
 tr:∀x∈tl,0<=x/\x<per
 ck:∀r∈A,chk per (2*X.N) r=true
theorem Q7f{per:Int}{J:List Tup}{a:Nat}:∀{c b:Nat} {H:LL},X.hdw per J a c b=some H->∀r∈H,∃a b w,r=Q8H a b w
 |0,b,H,e=>by cases e;exact λr hr=>nomatch hr
 |c+1,b,H,e=>by
  rw[hdw]at e;cases ew:X.WV per J a b with
  |none=>rw[ew]at e;cases e
  |some W=>
   rw[ew]at e;cases eh:X.hdw per J a c (b+1)with
   |none=>simp only[eh]at e;cases e
   |some H'=>
    simp only[eh]at e;cases e;intro r hr;rcases QqN.1 hr with hr | hr
    ·obtain⟨w,_,rfl⟩:=Qr4.1 hr;exact⟨_,_,_,rfl⟩
    ·exact Q7f eh r hr
theorem hdws_rows{per:Int}{J:List Tup}:∀{c a:Nat} {H:LL},X.hdws per J c a=some H->∀r∈H,∃a b w,r=Q8H a b w
 |0,b,H,e=>by cases e;exact λr hr=>nomatch hr
 |c+1,a,H,e=>by
  rw[hdws]at e;cases ew:X.hdw per J a c (a+1)with
  |none=>rw[ew]at e;cases e
  |some W=>
   rw[ew]at e;cases eh:X.hdws per J c (a+1)with
   |none=>simp only[eh]at e;cases e
   |some H'=>
    simp only[eh]at e;cases e;intro r hr;rcases QqN.1 hr with hr | hr
    ·exact Q7f ew r hr
    ·exact hdws_rows eh r hr
theorem Qdk{i:Nat}{r:List D}:∀{K:Nat},r∈X.pl i K->∃k,k<K/\(r=X.aR i k\/k<X.nr i-1/\r=X.aD i k)
 |0,h=>nomatch h
 |K+1,h=>by
  rw[pl]at h;rcases QqN.1 h with h | h
  ·rcases QqN.1 h with h | h
   ·obtain⟨k,hk,h⟩:=Qdk h;exact⟨k,Q0,h⟩
   ·exact⟨K,Q0,.inl (QqT.1 h)⟩
  ·split at h
   ·exact⟨K,Q0,.inr ⟨by assumption,QqT.1 h⟩⟩
   ·nomatch h
theorem Q6a{r:List D}:∀{L:Nat},r∈X.pls L->∃i k,i<L/\k<X.nr i/\(r=X.aR i k\/k<X.nr i-1/\r=X.aD i k)
 |0,h=>nomatch h
 |L+1,h=>by
  rw[pls]at h;rcases QqN.1 h with h | h
  ·obtain⟨i,k,hi,h⟩:=Q6a h;exact⟨i,k,Q0,h⟩
  ·obtain⟨k,hk,h⟩:=Qdk h;exact⟨L,k,Q0,hk,h⟩
variable{per:Int} {Ch Sy A:LL} {tl:List Int}
theorem QeV(h:X.OK)(hl:X.LsOK per Ch Sy){H:LL}(hH:∀r∈H,∃a b w,r=Q8H a b w){r:List D}(hr:r∈X.planned Ch Sy++H):(∃i k,i<X.Ls.length/\k<X.nr i/\(r=X.aR i k\/k<X.nr i-1/\r=X.aD i k))\/(∃t∈X.T,r=X.tuE t)\/∃kd f t mn mx w:Int,(kd=3\/kd=5\/kd=6)/\r=[Ql kd,Ql f,Ql t,Ql mn,Ql mx,Ql w]:=by
 rcases QqN.1 hr with hr | hr
 ·rcases QqN.1 hr with hr | hr
  ·rcases QqN.1 hr with hr | hr
   ·rcases QqN.1 hr with hr | hr
    ·exact .inl (Q6a hr)
    ·obtain⟨row,aa,rfl⟩:=Qr4.1 hr;obtain⟨f,fr,t,tr,mn,mx,w,rfl,_⟩:=hl.ch row aa;exact .inr (.inr ⟨3,_,_,mn,mx,w,.inl rfl,rfl⟩)
   ·obtain⟨t,ht,rfl⟩:=Qr4.1 hr;exact .inr (.inl ⟨t,ht,rfl⟩)
  ·obtain⟨row,aa,rfl⟩:=Qr4.1 hr;obtain⟨o,rfl,_⟩:=hl.sy row aa;exact .inr (.inr ⟨5,_,_,o,o,0,.inr (.inl rfl),rfl⟩)
 ·obtain⟨a,b,w,rfl⟩:=hH r hr;exact .inr (.inr ⟨6,_,_,w.1,w.2,0,.inr (.inr rfl),rfl⟩)
theorem act_r6(h:X.OK)(hl:X.LsOK per Ch Sy){H:LL}(hH:∀r∈H,∃a b w,r=Q8H a b w){r:List D}(hr:r∈X.planned Ch Sy++H):R6 r:=by
 rcases QeV h hl hH hr with⟨i,k,_,_,rfl | ⟨_,rfl⟩⟩|⟨t,_,rfl⟩|⟨kd,f,t,mn,mx,w,_,rfl⟩
 ·exact⟨_,_,_,_,_,_,rfl⟩
 ·exact⟨_,_,_,_,_,_,rfl⟩
 ·exact⟨_,_,_,_,_,_,rfl⟩
 ·exact⟨_,_,_,_,_,_,rfl⟩
variable(g:X.Gd per Ch Sy A tl)
include g
theorem Gd.r6{r:List D}(hr:r∈A):R6 r:=by
 obtain⟨H,rfl,hH⟩:=g.act;exact act_r6 g.ok g.ls hH hr
theorem Gd.tat{i:Int}(a:0<=i)(b:i<(2*X.N:Nat)):Qi (encI tl) i=some [Ql (Vx.tat tl i)]/\0<=Vx.tat tl i/\Vx.tat tl i<per:=by
 have hl:=g.tlen;have e:tl[i.toNat]? = some (Vx.tat tl i):=by
  unfold Vx.tat;rw[QqM,QqL Q0];rfl
 have:=KS e;rw[show(i.toNat:Int)=i by omega]at this;exact⟨this,g.tr _ (QqJ e)⟩
theorem Gd.row{r:List D}(hr:r∈A):∃kd f t mn mx w:Int,r=[Ql kd,Ql f,Ql t,Ql mn,Ql mx,Ql w]/\(0<=f/\f<(2*X.N:Nat))/\(0<=t/\t<(2*X.N:Nat)) /\ -65536<=mn/\mn<=65536:=by
 obtain⟨kd,f,t,mn,mx,w,rfl⟩:=g.r6 hr;have:=Q2w (g.ck _ hr);exact⟨kd,f,t,mn,mx,w,rfl,Q0,Q0,Q0⟩
theorem Gd.dur_rng{r:List D}(hr:r∈A) : -65536<=Y9 tl per r/\Y9 tl per r<=66000:=by
 obtain⟨kd,f,t,mn,mx,w,rfl,hf,ht,a,h2⟩:=g.row hr;have p0:=g.p0;have p1:=g.p1;have:=Qr3 (Vx.tat tl t-Vx.tat tl f-mn) (show per≠0 by omega);have:=Qr0 (Vx.tat tl t-Vx.tat tl f-mn) (show 0<per by omega);simp only[Y9,dur];omega
end Cx
theorem Ti.lt{X:Cx}{f k:Nat}{r:List D}(h:Ti X.Ls f k r):f<X.Ls.length/\k<X.nr f:=by
 obtain⟨nm,w,rides,a,h2⟩:=h;refine⟨(Qr7.1 a).1,?_⟩;have e:Hr X.Ls f=rides:=by unfold Hr;rw[a]
 unfold Cx.nr;rw[e];exact(Qr7.1 h2).1
theorem PlanR.lsOK{X:Cx}{per:Int}{Sk Ch Tu Sy De:LL}(h:PlanR X.G per Sk X.Ro X.Ls Ch Tu Sy De):X.LsOK per Ch Sy where
 ch:=λrow hr=>by
  obtain⟨f,fr,t,tr,mn,mx,w,r,r',x,y,x',y',b,b',i,e,a,h2,c,d,h5,h6,h7,_⟩:=h.ch row hr;exact⟨f,fr,t,tr,mn,mx,w,e,a.lt.1,a.lt.2,h2.lt.1,h2.lt.2,h6,h7⟩
 chl:=h.chl
 sy:=λrow hr=>h.sy row hr
 syl:=h.syl
theorem QbF{per:Int}{E A:LL}{w:List Int}(a:A.all (chk per E.length)=true)(h2:TG per E.length w):Q3q per E A w=true:=by
 unfold Q3q;rw[a,h2.1];simp only[QqS,QqF,bne_self_eq_false,Qrj,Bool.not_eq_true',Bool.cond_true_left,Bool.or_eq_false_iff,decide_eq_false_iff_not];intro x hx;have:=h2.2 x hx;omega
def Qjt:List D->Int
 |[_,_,_,_,.int _ m,_]=>m
 |_=>0
def Fs(per:Int)(tl:List Int)(A:LL):Prop:=∀r∈A,Y9 tl per r<=Qjt r
theorem FsB.fs'{A:LL}{per:Int}{N:Nat}{tl:List Int}(hr:∀r∈A,R6 r)(hc:∀r∈A,chk per N r=true)(h:FsB A per N tl):Fs per tl A:=λr hm=>by
 obtain⟨kd,f,t,mn,mx,q,rfl⟩:=hr r hm;have:=Q2w (hc _ hm);exact h kd f t mn mx q hm Q0 Q0 Q0 Q0
namespace Cx
variable{X:Cx} {per:Int} {Ch Sy A:LL} {tl:List Int} (g:X.Gd per Ch Sy A tl)
include g
theorem Gd.lasts{r:List D}(hr:r∈A):∃kd f t mn mx w:Int,r=[Ql kd,Ql f,Ql t,Ql mn,Ql mx,Ql w]/\(0<=f/\f<(2*X.N:Nat))/\(0<=t/\t<(2*X.N:Nat))/\(-65536<=mn/\mn<=65536) /\
  (∀(R:Type) (K:Int->oP R),gb true (Qi (encI tl) t) [] (λa=>gb true (a[0]?) oF λb=>gb true (pIw b) 0 λc=>gb true (Qi (encI tl) f) [] λd=>gb true (d[0]?) oF λc5=>gb true (pIw c5) 0 λe=>
   gb true (Ha 400 (wJ ((wJ (c-e))-mn)) per some) 0 λh=>K (wJ (mn+h)))=K (Y9 tl per r)):=by
 obtain⟨kd,f,t,mn,mx,w,rfl,hf,ht,ac⟩:=g.row hr;refine⟨kd,f,t,mn,mx,w,rfl,hf,ht,Q0,λR K=>?_⟩;have tf:=g.tat hf.1 hf.2;have tt:=g.tat ht.1 ht.2;have p0:=g.p0;have p1:=g.p1;have i:=Qr3 (Vx.tat tl t-Vx.tat tl f-mn) (show per≠0 by omega);have j:=Qr0 (Vx.tat tl t-Vx.tat tl f-mn) (show 0<per by omega);simp -implicitDefEqProofs only[Qh,QqE,Qj,tf.1,tt.1,Qo (x:=Vx.tat tl t-Vx.tat tl f) Q0 Q0,Qo (x:=Vx.tat tl t-Vx.tat tl f-mn) Q0 Q0,QhG (n:=400) (t:=per) (x:=Vx.tat tl t-Vx.tat tl f-mn) Q0 Q0 Q0 Q0,Qo (x:=mn+(Vx.tat tl t-Vx.tat tl f-mn) % per) Q0 Q0];rfl
theorem Gd.firstN{R:Type}{E B:LL}(fs:Fs per tl A){k0:Int->oP R}{k1:Int->Bool->oP R}:∀(c m i:Nat),i+c=A.length->c<m->Uc 400 (encI tl) A (A.length:Int) per E B k0 k1 m (i:Int)=k1 (A.length:Int) false
 |0,m+1,i,hi,_=>by
  obtain rfl:i=A.length:=Q0
  rw[Uc,Qy,QqF]
 |c+1,m+1,i,hi,hm=>by
  have hA:=g.len;have e:=QqL (l:=A) (i:=i) Q0;obtain⟨kd,f,t,mn,mx,w,er,_,_,_,hd⟩:=g.lasts (QqJ e);have aa:=fs _ (QqJ e);rw[Uc,Qs (show i<A.length by omega),QqH,Qt,e,er];rw[er]at hd aa;have ac:JI 400 per E B (encI tl) kd f t mn mx w (some:Int->oP Int)=some (Y9 tl per [Ql kd,Ql f,Ql t,Ql mn,Ql mx,Ql w]):=by
   unfold JI;exact hd Int some
  simp -implicitDefEqProofs only[Qh,QqE,QqI,Qj,ac,QJ (show i<=1000 by omega)];rw[QqO (by exact Int.not_lt.2 aa),QqF];exact firstN fs c m (i+1) Q0 Q0
theorem Gd.feas{E:LL}(hE:E.length=2*X.N)(fs:Fs per tl A)(hg:G3 400 per E A (encI tl) some=some true):Y1 400 per E A (encI tl) (some:Bool->oP Bool)=some true:=by
 have a:Gh 400 per E A (encI tl) Tu2=some (0,false):=by
  unfold Gh;rw[hg,Qh,QqS,QqF];have:=g.firstN (E:=E) (B:=A) fs (k0:=λd=>(some (d,true):oP (Int×Bool))) (k1:=λe f=>some (0,false)) A.length 400 0 Q0 (by have:=g.len;omega);exact this
 unfold Y1;rw[a,Qh];dsimp only;rw[hg];rfl
end Cx
theorem Qdm{a b:Int}(f:1<=a)(c:1<=b):1<=cd a b:=by
 have h:=Ay (show 0<=a by omega) c;by_cases e:1<=cd a b
 ·exact e
 ·have d:cd a b=0:=Q0
  rw[d]at h;omega
theorem Run.T_pos{X:Run}(h:X.OK):1<=X.T X.N:=by
 have h2:=h.h2;have c:=Run.T_mono h (a:=1) (b:=X.N) Q0 (Qrh _);have d:=Run.inc_rng h (b:=0) Q0;have h5:=Qdm (a:=20000000) (b:=X.S 0+X.S (0+1)) Q1 Q0;have e:X.T 1=0+cd 20000000 (X.S 0+X.S (0+1)):=rfl;omega
theorem Cx.run_pos{X:Cx}(h:X.OK){i k:Nat}(hi:i<X.Ls.length)(hk:k<X.nr i):1<=X.run i k:=
 Qdm (Run.T_pos (Rn (Cx.rd h hi hk).rt (nm:=X.nm) h.sk)) Q1
end Go.Vx
namespace Go.Vx
variable{R:Type} (n:Nat)
def nv1:List D->oP LL
|[.nl]=>some []
|[.sl k l]=>bif Nat.beq k 1&&Nat.ble l.length 1000000 then some l else none
|_=>none
def QaX(h:LL)(i:Int):oP LL:=(Qi h i).bind nv1
def CM:List D->List D
|[.nl]=>[.sl 1 []]
|r=>r
def Q9j:List D->Bool
|[.nl]=>true
|_=>false
def Xs(h5 h6:LL)(h7 e:Int)(k0:Qlv R):Qlx R
|0,_,_,_=>none
|m+1,a,c,d=>bif decide (a<h7)then QkE R h6 a λb f j p=>Qc R b[3]? λk=>Qc R b[4]? λab=>Qc R b[5]? λac=>QkC R k p λg q=>QkD R h5 q λs=>QkC R s j λt i64=>QkD R h5 i64 λv=>QkC R v k λx y=>Qc R (Ha n (wJ (wJ (t-x)-y)) e some) λh=>Qb R [[Ql (wJ (g+h))]] λag=>Qc R (Y5 ((d.length+ag.length)*8)) λad=>Qc R (pIw f) λi=>Qd R (!(i==1)) (pIw f) λl=>Qd R (!(Q8 (i==1) (l==2))) (pIw f) λz=>bif Q8 (Q8 (i==1) (l==2)) (z==3)then Qc R (pIw j) λo=>Qc R (QaX c o) λaa=>Xs h5 h6 h7 e k0 m (wJ (a+1)) (List.set c o.toNat [.sl 1 (aa++[[.int .i64 a]])]) (d++ag)else Xs h5 h6 h7 e k0 m (wJ (a+1)) c (d++ag)else k0 a (decide (a<h7)) c d
def Yu(h5 h6:LL)(h7 f:Int)(k0:Qlv R)(m:Nat)(g:Int)(e h:LL):oP R:=bif e.all Q9j then Xs n h5 h6 h7 f (λa b c d=>k0 a b (c.map CM) d) m g e h else none
def Ys(n:Nat)(h:LL)(b:Int)(c i j:LL)(k0:Qlv R):Qlx R
|0,_,_,_=>none
|m+1,a,d,e=>bif decide (a<b)then QkN R h a λf p=>Qc R f[2]? λq=>Qc R (pIw p) λr=>QkP R j r λu=>Qc R (pIw q) λv=>QkG R u v λz=>QkQ R i z λg aa=>Qc R (pSl 2 g) λab=>QkG R ab 0 λae=>Ql5 R c ae λl=>Qc R (Y5 ((d.length+[[Ql l]].length)*8)) λar=>Qc R (pSl 2 g) λai=>Qla R g aa λaj ak=>QkG R ai (wJ (wJ ((aj.length:Int)-ak)-1)) λan=>Ql5 R c an λo=>Qc R (Y5 ((e.length+[[Ql o]].length)*8)) λau=>Ys n h b c i j k0 m (wJ (a+1)) (d++[[Ql l]]) (e++[[Ql o]])else k0 a (decide (a<b)) d e
def XU(c g d h:LL)(i:Int)(j e f k l m o a2:LL)(KA:Qlj R)(KB:Int->LL->LL->LL->LL->LL->LL->Int->Int->oP R):oP R:=gb true (Wf n c g d h i j e f k l m o Tu4) (0,[],[],0) λa=>bif a.2.2.2 !=0 then KA a.2.2.2 else Qc R (Y1 n a.1 a.2.1 a.2.2.1 a2 some) λb=>bif !b then KA 1 else Qb R (a.2.1.length:Int) λp=>gb true (bif decide (0<=p)&&decide (p<=p)then some ()else none) () λv=>Qc R (Y5 (Int.toNat p*24)) λx=>Yu n a2 a.2.2.1 (a.2.2.1.length:Int) a.1 (λy z r s=>Ys n a.2.1 p d e f (λaa ab t u=>KB a.1 a.2.1 a.2.2.1 r s t u (c.length:Int) 0) n 0 [] []) n 0 (List.replicate (Int.toNat p) [D.nl]) []
end Go.Vx
namespace Go.Vx
def knd(A:LL)(j:Nat):Int:=match A[j]? with
 |some (.int _ k::_)=>k
 |_=>0
def frm(A:LL)(j:Nat):Int:=match A[j]? with
 |some (_::.int _ k::_)=>k
 |_=>0
def tto(A:LL)(j:Nat):Int:=match A[j]? with
 |some (_::_::.int _ k::_)=>k
 |_=>0
def QaR(A:LL)(e j:Nat):Bool:=(bif (bif (knd A j == 1)then true else(knd A j == 2))then true else(knd A j == 3))&&frm A j == (e:Int)
def lvF(A:LL)(i e:Nat):List Nat:=(List.range i).filter (QaR A e)
def Hu(l:List Nat):LL:=l.map λ(j:Nat)=>[Ql (j:Int)]
def Qfh:List Nat->List D
 |[]=>[.nl]
 |l=>[.sl 1 (Hu l)]
def Fx(A:LL)(i M:Nat):LL:=(List.range M).map λe=>Qfh (lvF A i e)
theorem Q6D(A:LL)(i e:Nat):lvF A (i+1) e=lvF A i e++(if QaR A e i=true then[i]else[]):=by
 unfold lvF;rw[List.range_succ,List.filter_append];congr 1;cases h:QaR A e i<;>simp[h]
theorem Q6A(A:LL)(i e:Nat):(lvF A i e).length<=i:=by
 unfold lvF;have:=Qrl (QaR A e) (List.range i);rwa [Qrg]at this
theorem Qhw{l:List Nat}(h:l.length<=1000):nv1 (Qfh l)=some (Hu l):=by
 cases l with
 |nil=>rfl
 |cons x r=>
  have e:Nat.ble (Hu (x::r)).length 1000000=true:=by
   rw[Nat.ble_eq];simp[Hu]at h ⊢;omega
  show(bif Nat.beq 1 1&&Nat.ble (Hu (x::r)).length 1000000 then some (Hu (x::r))else none)=_;rw[e];rfl
theorem Q8S(l:List Nat)(i:Nat):Qfh (l++[i])=[.sl 1 (Hu l++[[.int .i64 i]])]:=by
 cases l with
 |nil=>rfl
 |cons x r=>simp[Qfh,Hu,Ql]
theorem Qck(l:List Nat):CM (Qfh l)=[.sl 1 (Hu l)]:=by cases l<;>rfl
theorem Ei(A:LL)(i M:Nat):(Fx A i M).length=M:=by simp[Fx]
theorem Bb{A:LL}{i M e:Nat}(he:e<M):(Fx A i M)[e]? = some (Qfh (lvF A i e)):=by simp[Fx,he]
theorem Q8p(A:LL)(M:Nat):Fx A 0 M=List.replicate M [.nl]:=by
 apply Qrn;intro e;by_cases he:e<M
 ·rw[Bb he,List.getElem?_replicate,QqW he];rfl
 ·rw[QqV (by rw[Ei];omega),QqV Q3]
theorem Qci{A:LL}{i M:Nat}(h:∀e,e<M->QaR A e i=false):Fx A (i+1) M=Fx A i M:=by
 unfold Fx;refine List.map_congr_left λe he=>?_
 rw[Q6D,h e (Qr8.1 he)];simp
theorem Q95{A:LL}{i M f:Nat}(hf:f<M)(h:∀e,e<M->QaR A e i=decide (e=f)):(Fx A i M).set f [.sl 1 (Hu (lvF A i f)++[[.int .i64 i]])]=Fx A (i+1) M:=by
 apply Qrn;intro e;by_cases he:e<M
 ·rw[Bb he,Q6D,h e he,List.getElem?_set,Ei];by_cases ef:f=e
  ·subst ef;rw[QqW rfl,QqW hf,QqR rfl,QqW rfl,Q8S]
  ·rw[QqZ ef,QqO (λh=>ef h.symm),QqZ Q2,QqX,Bb he]
 ·rw[QqV (by rw[Qrc,Ei];omega),QqV (by rw[Ei];omega)]
theorem QeH{A:LL}{i M:Nat}{f:Int}(a:0<=f)(b:f<(M:Nat))(hi:i<=1000):QaX (Fx A i M) f=some (Hu (lvF A i f.toNat)):=by
 unfold QaX;have e:f=(f.toNat:Int):=Q0
 rw[e,Qt,QqG,Bb Q0];exact Qhw (Nat.le_trans (Q6A ..) hi)
namespace Cx
variable{X:Cx} {per:Int} {Ch Sy A:LL} {tl:List Int} (g:X.Gd per Ch Sy A tl)
include g
theorem Gd.svc1{R:Type}{k0:Int->Bool->LL->LL->oP R}:∀(c m i:Nat),i+c=A.length->c<m->Xs 400 (encI tl) A (A.length:Int) per k0 m (i:Int) (Fx A i (2*X.N)) ((A.take i).map λr=>[Ql (Y9 tl per r)]) =
  k0 (A.length:Int) false (Fx A A.length (2*X.N)) (A.map λr=>[Ql (Y9 tl per r)])
 |0,m+1,i,hi,_=>by
  obtain rfl:i=A.length:=Q0
  rw[Xs,Qy,QqF,Qr9]
 |c+1,m+1,i,hi,hm=>by
  have hA:=g.len;have aa:i<A.length:=Q0
  have e:=QqL aa;have hr:=QqJ e;obtain⟨kd,f,t,mn,mx,w,er,hf,ht,an⟩:=g.row hr;have tf:=g.tat hf.1 hf.2;have tt:=g.tat ht.1 ht.2;have p0:=g.p0;have p1:=g.p1;have a:=Qr3 (Vx.tat tl t-Vx.tat tl f-mn) (show per≠0 by omega);have b:=Qr0 (Vx.tat tl t-Vx.tat tl f-mn) (show 0<per by omega);have hd:wJ (mn+(Vx.tat tl t-Vx.tat tl f-mn) % per)=Y9 tl per A[i]:=by rw[er];exact Qo Q0 Q0
  have ek:knd A i=kd:=by unfold knd;rw[e,er]
  have ef:frm A i=f:=by unfold frm;rw[e,er]
  have hs:(A.take i).map (λr=>[Ql (Y9 tl per r)])++[[D.int .i64 (Y9 tl per A[i])]]=(A.take (i+1)).map λr=>[Ql (Y9 tl per r)]:=by
   rw[List.take_add_one,e,QqQ];rfl
  rw[Xs,Qs aa,QqH,Qt,e,er];simp -implicitDefEqProofs only[Qh,QqE,QqI,Qj,tf.1,tt.1,Qo (x:=Vx.tat tl t-Vx.tat tl f) Q0 Q0,Qo (x:=Vx.tat tl t-Vx.tat tl f-mn) Q0 Q0,QhG (n:=400) (t:=per) (x:=Vx.tat tl t-Vx.tat tl f-mn) Q0 Q0 Q0 Q0,QJ (show i<=1000 by omega),hd,
   XI (show(((A.take i).map (λr=>[Ql (Y9 tl per r)])).length+[[D.int .i64 (Y9 tl per A[i])]].length)*8<=100000 by simp;omega),hs,QeH (A:=A) (i:=i) (M:=2*X.N) hf.1 hf.2 Q0]
  cases hk:(bif (bif (kd == (1:Int))then true else(kd == (2:Int)))then true else(kd == (3:Int)))with
  |false=>
   rw[QqF,<- Qci (A:=A) (i:=i) (M:=2*X.N) (λe' _=>by unfold QaR;rw[ek,hk];rfl)];exact svc1 c m (i+1) Q0 Q0
  |true=>
   rw[QqH,Q95 (A:=A) (i:=i) (M:=2*X.N) (f:=f.toNat) Q0 (λe' _=>by
    unfold QaR;rw[ek,hk,ef,Bool.true_and];by_cases h:e'=f.toNat
    ·rw[QqR h];simp;omega
    ·rw[QqO h];simp;omega)]
   exact svc1 c m (i+1) Q0 Q0
theorem Gd.svcQ{R:Type}{k0:Int->Bool->LL->LL->oP R}:Yu 400 (encI tl) A (A.length:Int) per k0 400 0 (List.replicate (2*X.N) [.nl]) [] =
  k0 (A.length:Int) false ((List.range (2*X.N)).map λe=>[.sl 1 (Hu (lvF A A.length e))]) (A.map λr=>[Ql (Y9 tl per r)]):=by
 unfold Yu;rw[show(List.replicate (2*X.N) [D.nl]).all Q9j=true by simp[Q9j],QqH,<- Q8p A];have:=g.svc1 (k0:=λa b c d=>k0 a b (c.map CM) d) A.length 400 0 Q0 (by have:=g.len;omega);rw[List.take_zero]at this;refine this.trans ?_;unfold Fx;rw[List.map_map];congr 2;funext e;exact Qck _
end Cx
def Q18(Se:LL)(row:List D):Int:=match row with
 |.int _ x::_=>match Qi Se x with
  |some [_,_,_,_,.int _ t]=>t
  |_=>0
 |_=>0
namespace Cx
variable(X:Cx)
def stE(e:Nat):LL:=match (X.evs X.L)[e]? with
 |some [_,.int _ i,.int _ k]=>X.st i.toNat k.toNat
 |_=>[]
def s0(e:Nat):Int:=Q18 X.G.Se ((X.stE e).getD 0 [])
def s1(e:Nat):Int:=Q18 X.G.Se ((X.stE e).getD ((X.stE e).length-1) [])
variable{X} (h:X.OK)
include h
theorem Qg5{e:Nat}(he:e<2*X.N):∃i k,i<X.L/\k<X.nr i/\(X.evs X.L)[e]? = some [Ql (if e % 2=0 then 1 else 2),Ql i,Ql k]/\e / 2=base X.nr i+k:=by
 obtain⟨i,k,b,h2,c⟩:=Q2z (nr:=X.nr) (a:=e / 2) (L:=X.L) (by change e / 2<X.N;omega);have:=QcX h2 b;refine⟨i,k,b,h2,?_,c⟩;by_cases hm:e % 2=0
 ·rw[QqW hm,show e=2*(base X.nr i+k) by omega];exact this.1
 ·rw[QqZ hm,show e=2*(base X.nr i+k)+1 by omega];exact this.2
omit h in
theorem Q0T{Se:LL}{row:List D}(hr:Dc Se row):∃(x:Int) (r:List D),row[0]? = some (.int .i64 x)/\Qi Se x=some r/\r[4]? = some (.int .i64 (Q18 Se row)):=by
 obtain⟨x,d,nm,a,b,c,st,rfl,h2,_,_⟩:=hr;refine⟨x,_,rfl,h2,?_⟩;unfold Q18;simp only[Ql,h2];rfl
theorem QjL{R:Type}{k0:Int->Bool->LL->LL->oP R}(hN:X.N<=6):∀(c m i:Nat),i+c=2*X.N->c<m->Ys 400 (X.evs X.L) (((X.evs X.L).length:Nat):Int) X.G.Se X.Ro X.Ls k0 m (i:Int) (encI ((List.range i).map X.s0)) (encI ((List.range i).map X.s1))=k0 ((2*X.N:Nat):Int) false (encI ((List.range (2*X.N)).map X.s0)) (encI ((List.range (2*X.N)).map X.s1))
 |0,m+1,i,hi,_=>by
  obtain rfl:i=2*X.N:=Q0
  rw[Ys,evs_len,show base X.nr X.L=X.N from rfl,Qy,QqF]
 |c+1,m+1,i,hi,hm=>by
  obtain⟨l,k,a,h2,b,n⟩:=Qg5 h (e:=i) Q0;have hl:=(line h a).1;have hr:=rd h a h2;have o:=hr.rt.l2;have p:=hr.rt.l24;have aa:X.stE i=X.st l k:=by unfold stE;rw[b];simp only[Ql,QqG]
  obtain⟨x,r,a1,a2,d⟩:=Q0T (hr.rt.st ((X.st l k).getD 0 []) (by rw[QqM,QqL Q0];exact List.getElem_mem _));obtain⟨y,q,b1,b2,g⟩:=Q0T (hr.rt.st ((X.st l k).getD ((X.st l k).length-1) []) (by rw[QqM,QqL Q0];exact List.getElem_mem _));have j:X.s0 i=Q18 X.G.Se ((X.st l k).getD 0 []):=by unfold s0;rw[aa]
  have e1:X.s1 i=Q18 X.G.Se ((X.st l k).getD ((X.st l k).length-1) []):=by unfold s1;rw[aa]
  rw[<- j]at d;rw[<- e1]at g;have c0:Qi (X.st l k) 0=some ((X.st l k).getD 0 []):=by
   rw[show(0:Int)=((0:Nat):Int)from rfl,Qt,QqM,QqL Q0];rfl
  have c1:Qi (X.st l k) (wJ (wJ (((X.st l k).length:Int)-0)-1))=some ((X.st l k).getD ((X.st l k).length-1) []):=by
   rw[Qo (x:=((X.st l k).length:Int)-0) Q0 Q0,Qo (x:=((X.st l k).length:Int)-0-1) Q0 Q0,show((X.st l k).length:Int)-0-1=(((X.st l k).length-1:Nat):Int) by omega,Qt,QqM,QqL Q0];rfl
  rw[Ys,Qs (by rw[evs_len];change i<2*X.N;omega),QqH,Qt,b];have ac:Qi X.Ls (l:Int)=some [D.str (nmN l),Ql 0,Ql (X.w l),D.sl 4 (Hr X.Ls l)]:=by rw[Qt];exact hl
  have ai:Qi (Hr X.Ls l) (k:Int)=some [Ql (rF X.Ls l k 0),Ql (X.ex l k),Ql (X.mn l k),Ql (X.mx l k)]:=by rw[Qt];exact hr.row
  have rm:∀(f:Nat->Int) (v:Int),Y5 ((List.length (encI ((List.range i).map f))+List.length [[D.int .i64 v]])*8)=some ():=λf v=>XI (by rw[QR];simp;omega)
  have cc:∀(f:Nat->Int) (v:Int),f i=v->encI ((List.range i).map f)++[[D.int .i64 v]]=encI ((List.range (i+1)).map f):=λf v hv=>by
   rw[List.range_succ,QqQ,<- hv];simp[encI,Ql]
  simp -implicitDefEqProofs only[Qh,QqE,QqI,Qj,X4,ac,ai,hr.ro,c0,c1,a1,a2,d,b1,b2,g,QJ (show i<=1000 by omega),rm,cc X.s0 _ rfl,cc X.s1 _ rfl];exact QjL hN c m (i+1) Q0 Q0
omit h
def lvs(X:Cx)(A:LL):LL:=(List.range (2*X.N)).map λe=>[.sl 1 (Hu (lvF A A.length e))]
variable{per:Int} {Ch Sy A:LL} {tl:List Int}
theorem Gd.svcP{R:Type}(g:X.Gd per Ch Sy A tl){a0 a1 a e:LL}{b:LL}{c d f:LL}(hb:Wf 400 a0 a1 X.G.Se a per e X.Ro X.Ls b c d f Tu4=some (per,X.evs X.L,A,0))(hf:Y1 400 per (X.evs X.L) A (encI tl) (some:Bool->oP Bool)=some true)(KA:Int->oP R)(KB:Int->LL->LL->LL->LL->LL->LL->Int->Int->oP R) :
  XU 400 a0 a1 X.G.Se a per e X.Ro X.Ls b c d f (encI tl) KA KB=KB per (X.evs X.L) A (X.lvs A) (A.map λr=>[Ql (Y9 tl per r)]) (encI ((List.range (2*X.N)).map X.s0)) (encI ((List.range (2*X.N)).map X.s1)) (a0.length:Int) 0:=by
 have hN:=base_le g.ok;have hN:X.N<=6:=hN;have hl:(X.evs X.L).length=2*X.N:=evs_len;unfold XU;rw[hb,Qh,bne_self_eq_false,QqF];dsimp only;rw[hf,Qh,QqS,QqF,hl,Q4l,Qh,QqG,XI Q0,Qh,g.svcQ];have:=QjL g.ok (k0:=λ(n:Int) (o:Bool) l m=>KB per (X.evs X.L) A (X.lvs A) (A.map λr=>[Ql (Y9 tl per r)]) l m (a0.length:Int) (0:Int)) hN (2*X.N) 400 0 Q0 Q0;rw[hl]at this;exact this
end Cx
def leO:oP Int->oP Int->Prop
 |_,none=>True
 |none,some _=>False
 |some x,some y=>x<=y
theorem leO.refl:∀a,leO a a
 |none=>trivial
 |some x=>Int.le_refl x
theorem leO.trans:∀{a b c:oP Int},leO a b->leO b c->leO a c
 |_,_,none,_,_=>trivial
 |some x,some y,some z,h,g=>Int.le_trans h g
 |none,some y,some z,h,g=>h.elim
 |_,none,some z,h,g=>g.elim
theorem leO.anti:∀{a b:oP Int},leO a b->leO b a->a=b
 |none,none,_,_=>rfl
 |some x,some y,h,g=>congrArg some (Int.le_antisymm h g)
 |none,some y,h,g=>h.elim
 |some x,none,h,g=>g.elim
def CD:oP Int->oP Int->oP Int
 |none,b=>b
 |a,none=>a
 |some x,some y=>some (if y<x then y else x)
theorem CD.l(a b:oP Int):leO (CD a b) a:=by
 cases a<;>cases b<;>simp only[CD,leO]<;>(try split)<;>omega
theorem CD.r(a b:oP Int):leO (CD a b) b:=by
 cases a<;>cases b<;>simp only[CD,leO]<;>(try split)<;>omega
theorem CD.or(a b:oP Int):CD a b=a\/CD a b=b:=by
 cases a<;>cases b<;>simp only[CD,true_or,or_true];split
 ·exact .inr rfl
 ·exact .inl rfl
def Q0G(d:Int):oP Int->oP Int:=Option.map (d + ·)
theorem Q0G.mono{d:Int}:∀{a b:oP Int},leO a b->leO (Q0G d a) (Q0G d b)
 |_,none,_=>trivial
 |none,some _,h=>h
 |some x,some y,h=>Int.add_le_add_left h d
theorem Q0G.ge{d:Int}(h:0<=d):∀(a:oP Int),leO a (Q0G d a)
 |none=>trivial
 |some x=>show x<=d+x by omega
structure Gr where
 n:Nat
 out:Nat->List (Int×Nat)
 en:Nat->Bool
structure Gr.OK(g:Gr):Prop where
 to:∀e,∀a∈g.out e,0<=a.1/\a.2<g.n
namespace Gr
variable(g:Gr)
def D:Nat->Nat->oP Int
 |0,e=>bif g.en e then some 0 else none
 |k+1,e=>(g.out e).foldl (λm a=>CD m (Q0G a.1 (D k a.2))) (D k e)
theorem Q5V{f:Int×Nat->oP Int}:∀(l:List (Int×Nat)) (m:oP Int),leO (l.foldl (λm a=>CD m (f a)) m) m/\∀a∈l,leO (l.foldl (λm a=>CD m (f a)) m) (f a)
 |[],m=>⟨.refl m,λa h=>nomatch h⟩
 |b::l,m=>by
  have ih:=Q5V (f:=f) l (CD m (f b));refine⟨ih.1.trans (CD.l ..),λa ha=>?_⟩;rcases Qro.1 ha with rfl | ha
  ·exact ih.1.trans (CD.r ..)
  ·exact ih.2 a ha
theorem Q9h{f:Int×Nat->oP Int}:∀(l:List (Int×Nat)) (m:oP Int),l.foldl (λm a=>CD m (f a)) m=m\/∃a∈l,l.foldl (λm a=>CD m (f a)) m=f a
 |[],m=>.inl rfl
 |b::l,m=>by
  rcases Q9h (f:=f) l (CD m (f b))with h | ⟨a,ha,h⟩
  ·rcases CD.or m (f b)with e | e
   ·exact .inl (h.trans e)
   ·exact .inr ⟨b,.head _,h.trans e⟩
  ·exact .inr ⟨a,.tail _ ha,h⟩
theorem D_succ(k e:Nat):leO (g.D (k+1) e) (g.D k e):=(Q5V (f:=λa=>Q0G a.1 (g.D k a.2)) ..).1
theorem D_mono{k:Nat}(e:Nat):∀{j:Nat},k<=j->leO (g.D j e) (g.D k e)
 |0,h=>by
  obtain rfl:k=0:=Q0
  exact .refl _
 |j+1,h=>by
  by_cases e1:k=j+1
  ·subst e1;exact .refl _
  ·exact(g.D_succ j e).trans (D_mono e Q0)
theorem D_edge{k e:Nat}{a:Int×Nat}(ha:a∈g.out e):leO (g.D (k+1) e) (Q0G a.1 (g.D k a.2)):=(Q5V (f:=λa=>Q0G a.1 (g.D k a.2)) ..).2 a ha
theorem D_or(k e:Nat):g.D (k+1) e=g.D k e\/∃a∈g.out e,g.D (k+1) e=Q0G a.1 (g.D k a.2):=Q9h (f:=λa=>Q0G a.1 (g.D k a.2)) ..
theorem better{k e:Nat}(h:g.D (k+2) e≠g.D (k+1) e):∃a∈g.out e,g.D (k+2) e=Q0G a.1 (g.D (k+1) a.2)/\g.D (k+1) a.2≠g.D k a.2:=by
 rcases g.D_or (k+1) e with e1 | ⟨a,ha,e1⟩
 ·exact absurd e1 h
 ·refine⟨a,ha,e1,λe2=>h ?_⟩;refine(g.D_succ (k+1) e).anti ?_;rw[e1,e2];exact g.D_edge ha
theorem chain(ok:g.OK):∀(k e:Nat),g.D (k+1) e≠g.D k e->e<g.n->∃l:List Nat,l.length=k+1/\(∀x∈l,x<g.n)/\l[0]? = some e/\∀i x,l[i]? = some x->g.D (k+1-i) x≠g.D (k-i) x/\∀j y,i<=j->l[j]? = some y->leO (g.D (k+1-j) y) (g.D (k+1-i) x)
 |0,e,h,he=>⟨[e],rfl,λx hx=>by simp at hx;omega,rfl,λi x hx=>by
   cases i with
   |zero=>
    simp at hx;subst hx;refine⟨h,λj y _ hy=>?_⟩;cases j with
    |zero=>simp at hy;subst hy;exact .refl _
    |succ j=>simp at hy
   |succ i=>simp at hx⟩
 |k+1,e,h,he=>by
  obtain⟨a,ha,c,h2⟩:=g.better h;have ac:=ok.to e a ha;obtain⟨l,l1,l2,d,b⟩:=chain ok k a.2 h2 ac.2;refine⟨e::l,by simp[l1],λx hx=>?_,rfl,λi x hx=>?_⟩
  ·rcases Qro.1 hx with rfl | hx
   ·exact he
   ·exact l2 x hx
  ·cases i with
   |zero=>
    simp at hx;subst hx;refine⟨h,λj y _ hy=>?_⟩;cases j with
    |zero=>simp at hy;subst hy;exact .refl _
    |succ j=>
     simp at hy;rw[show k+1+1-(j+1)=k+1-j by omega];refine((b 0 a.2 d).2 j y (Nat.zero_le _) hy).trans ?_;show leO (g.D (k+1) a.2) (g.D (k+2) e);rw[c];exact Q0G.ge ac.1 _
   |succ i=>
    simp at hx;have:=b i x hx;rw[show k+1+1-(i+1)=k+1-i by omega,show k+1-(i+1)=k-i by omega];refine⟨this.1,λj y hj hy=>?_⟩;cases j with
    |zero=>omega
    |succ j=>
     simp at hy;rw[show k+1+1-(j+1)=k+1-j by omega];exact this.2 j y Q0 hy
end Gr
theorem Qar:∀(n:Nat) (l:List Nat),(∀x∈l,x<n)->n<l.length->∃i j x:Nat,i<j/\l[i]? = some x/\l[j]? = some x
 |0,l,h,hl=>by
  cases l with
  |nil=>simp at hl
  |cons a l=>exact absurd (h a (.head _)) Q0
 |n+1,l,h,hl=>by
  by_cases hd:∃i j:Nat,i<j/\l[i]? = some n/\l[j]? = some n
  ·obtain⟨i,j,c,h2,b⟩:=hd;exact⟨i,j,n,c,h2,b⟩
  ·by_cases hm:n∈l
   ·obtain⟨i,hi⟩:=List.getElem?_of_mem hm;have ai:=(Qr7.1 hi).1;obtain⟨p,q,x,c,h2,b⟩:=Qar n (l.eraseIdx i) (λx hx=>by
     obtain⟨j,hj⟩:=List.getElem?_of_mem hx;have ac:=h x (List.mem_of_mem_eraseIdx hx);have aa:x≠n:=λe=>by
      subst e;rw[List.getElem?_eraseIdx]at hj;split at hj
      ·exact hd ⟨j,i,by assumption,hj,hi⟩
      ·exact hd ⟨i,j+1,Q0,hi,hj⟩
     omega) (by rw[List.length_eraseIdx];split<;>omega)
    rw[List.getElem?_eraseIdx]at h2 b;split at h2<;>split at b
    ·exact⟨p,q,x,c,h2,b⟩
    ·exact⟨p,q+1,x,Q0,h2,b⟩
    ·omega
    ·exact⟨p+1,q+1,x,Q0,h2,b⟩
   ·obtain⟨p,q,x,c,h2,b⟩:=Qar n l (λx hx=>by
     have:=h x hx;have aa:x≠n:=λe=>hm (e▸hx)
     omega) Q0
    exact⟨p,q,x,c,h2,b⟩
namespace Gr
variable(g:Gr)
theorem D_stable(ok:g.OK){e:Nat}(he:e<g.n):g.D (g.n+1) e=g.D g.n e:=Classical.byContradiction λh=>by
 obtain⟨l,l1,l2,c,a⟩:=g.chain ok g.n e h he;obtain⟨i,j,x,aa,hi,hj⟩:=Qar g.n l l2 Q0;have ai:=(Qr7.1 hi).1;have ac:=(Qr7.1 hj).1;obtain⟨b,h2⟩:=a i x hi;refine b ((g.D_mono x Q0).anti ?_);exact(g.D_mono x Q0).trans (h2 j x Q0 hj)
def T(e:Nat):oP Int:=g.D g.n e
theorem T_le(ok:g.OK){e:Nat}(he:e<g.n):∀k,leO (g.T e) (g.D k e):=λk=>by
 have hs:∀j,∀x,x<g.n->g.D (g.n+j) x=g.T x:=λj=>by
  induction j with
  |zero=>exact λx _=>rfl
  |succ j ih=>
   intro x hx;have b:=g.D_stable ok hx;rcases g.D_or (g.n+j) x with e1 | ⟨a,ha,e1⟩
   ·exact e1.trans (ih x hx)
   ·refine(g.D_mono x Q0).anti ?_;show leO (g.D g.n x) (g.D (g.n+j+1) x);rw[e1,ih a.2 (ok.to x a ha).2,<- b];exact g.D_edge ha
 by_cases hk:k<=g.n
 ·exact g.D_mono e hk
 ·rw[show k=g.n+(k-g.n) by omega,hs _ e he];exact .refl _
theorem T_edge(ok:g.OK){e:Nat}(he:e<g.n){a:Int×Nat}(ha:a∈g.out e):leO (g.T e) (Q0G a.1 (g.T a.2)):=by
 have:=g.D_edge (k:=g.n) ha;rwa [g.D_stable ok he]at this
theorem T_end(ok:g.OK){e:Nat}(he:e<g.n)(h:g.en e=true):leO (g.T e) (some 0):=by
 have:=g.T_le ok he 0;rwa [D,h,QqH]at this
theorem T_or(ok:g.OK){e:Nat}(he:e<g.n){x:Int}(hx:g.T e=some x):(g.en e=true/\x=0)\/∃a∈g.out e,∃y,g.T a.2=some y/\x=a.1+y:=by
 have ac:∀k,g.D k e=g.T e->(g.en e=true/\x=0)\/∃a∈g.out e,∃y,g.T a.2=some y/\x=a.1+y:=λk=>by
  induction k with
  |zero=>
   intro h;rw[hx,D]at h;cases hc:g.en e with
   |true=>rw[hc,QqH]at h;injection h with h;exact .inl ⟨rfl,h.symm⟩
   |false=>rw[hc,QqF]at h;cases h
  |succ k ih=>
   intro h;rcases g.D_or k e with e1 | ⟨a,ha,e1⟩
   ·exact ih (e1.symm.trans h)
   ·refine .inr ⟨a,ha,?_⟩;have b:=g.T_le ok (ok.to e a ha).2 k;have h2:=g.T_edge ok he ha;rw[h,hx]at e1;rw[hx]at h2;cases hd:g.D k a.2 with
    |none=>rw[hd]at e1;cases e1
    |some z=>
     rw[hd]at e1 b;cases ht:g.T a.2 with
     |none=>rw[ht]at b;exact b.elim
     |some y=>
      rw[ht]at b h2;have e1:x=a.1+z:=by injection e1
      have b:y<=z:=b;have h2:x<=a.1+y:=h2;exact⟨y,rfl,Q0⟩
 exact ac g.n rfl
end Gr
def lo(left:List Int)(e:Nat):oP Int:=if left.getD e 0 = -1 then none else some (left.getD e 0)
namespace Gr
variable(g:Gr)
def rl1(e:Nat)(s:List Int×Bool)(a:Int×Nat):List Int×Bool:=if s.1.getD a.2 0 = -1 then s else if s.1.getD e 0 = -1\/a.1+s.1.getD a.2 0<s.1.getD e 0 then(s.1.set e (a.1+s.1.getD a.2 0),true)else s
def rlE(s:List Int×Bool)(e:Nat):List Int×Bool:=(g.out e).foldl (rl1 e) s
def rlR(left:List Int):List Int×Bool:=(List.range g.n).foldl g.rlE (left,false)
structure Lf(left:List Int):Prop where
 len:left.length=g.n
 nn:∀e,e<g.n->left.getD e 0 = -1\/0<=left.getD e 0
 ge:∀e,e<g.n->leO (g.T e) (lo left e)
variable{g} (ok:g.OK)
include ok
theorem rl1_ok{e:Nat}(he:e<g.n){s:List Int×Bool}(h:g.Lf s.1){a:Int×Nat}(ha:a∈g.out e) :
  g.Lf (rl1 e s a).1/\(∀x,x<g.n->lo (rl1 e s a).1 x=if x=e then CD (lo s.1 e) (Q0G a.1 (lo s.1 a.2))else lo s.1 x)/\((rl1 e s a).2=s.2/\(rl1 e s a).1=s.1\/(rl1 e s a).2=true/\lo (rl1 e s a).1 e≠lo s.1 e):=by
 obtain⟨left,c⟩:=s;obtain⟨d,f⟩:=a;have ho:=ok.to e _ ha;have hl:=h.len;have n1:=h.nn e he;have n2:=h.nn f ho.2;dsimp only at *
 have ac:∀v x,x<g.n->(left.set e v).getD x 0=if x=e then v else left.getD x 0:=λv x hx=>by
  rw[QqM,QqM,List.getElem?_set];by_cases aa:x=e
  ·subst aa;rw[QqW rfl,QqW rfl,QqW Q0];rfl
  ·rw[QqZ (λh=>aa h.symm),QqZ aa]
 unfold rl1;dsimp only;by_cases i:left.getD f 0 = -1
 ·rw[QqW i];refine⟨h,λx hx=>?_,.inl ⟨rfl,rfl⟩⟩;by_cases aa:x=e
  ·subst aa;rw[QqW rfl];have:lo left f=none:=QqW i;rw[this];cases hq:lo left x<;>rfl
  ·rw[QqZ aa]
 rw[QqZ i];have hf:lo left f=some (left.getD f 0):=QqZ i;by_cases h2:left.getD e 0 = -1\/d+left.getD f 0<left.getD e 0
 ·rw[QqW h2];have hv:(left.set e (d+left.getD f 0)).getD e 0=d+left.getD f 0:=by rw[ac _ e he,QqW rfl]
  have ak:lo (left.set e (d+left.getD f 0)) e=some (d+left.getD f 0):=by unfold lo;rw[hv,QqZ Q0]
  have ai:∀x,x<g.n->lo (left.set e (d+left.getD f 0)) x=if x=e then CD (lo left e) (Q0G d (lo left f))else lo left x:=λx hx=>by
   by_cases aa:x=e
   ·subst aa;rw[QqW rfl,ak,hf];by_cases b:left.getD x 0 = -1
    ·rw[show lo left x=none from QqW b];rfl
    ·rw[show lo left x=some (left.getD x 0)from QqZ b];show _=some (if d+left.getD f 0<left.getD x 0 then d+left.getD f 0 else left.getD x 0);rw[QqW Q0]
   ·rw[QqZ aa];unfold lo;rw[ac _ x hx,QqZ aa]
  refine⟨⟨by simp[hl],λx hx=>?_,λx hx=>?_⟩,ai,.inr ⟨rfl,?_⟩⟩
  ·rw[ac _ x hx];by_cases aa:x=e
   ·rw[QqW aa];omega
   ·rw[QqZ aa];exact h.nn x hx
  ·rw[ai x hx];by_cases aa:x=e
   ·subst aa;rw[QqW rfl];rcases CD.or (lo left x) (Q0G d (lo left f))with e1 | e1
    ·rw[e1];exact h.ge x hx
    ·rw[e1];exact(g.T_edge ok hx ha).trans (Q0G.mono (h.ge f ho.2))
   ·rw[QqZ aa];exact h.ge x hx
  ·rw[ak];unfold lo;by_cases b:left.getD e 0 = -1
   ·rw[QqW b];simp
   ·rw[QqZ b];intro hh;injection hh with hh
    omega
 ·rw[QqZ h2];refine⟨h,λx hx=>?_,.inl ⟨rfl,rfl⟩⟩;by_cases aa:x=e
  ·subst aa;rw[QqW rfl,hf,show lo left x=some (left.getD x 0)from QqZ Q0];show _=some (if d+left.getD f 0<left.getD x 0 then d+left.getD f 0 else left.getD x 0);rw[QqZ Q0]
  ·rw[QqZ aa]
structure Run(s s':List Int×Bool):Prop where
 lf:g.Lf s'.1
 le:∀x,x<g.n->leO (lo s'.1 x) (lo s.1 x)
 ch:s'.2=s.2/\s'.1=s.1\/s'.2=true/\∃x,x<g.n/\lo s'.1 x≠lo s.1 x
theorem Run.trans{s s' aa:List Int×Bool}(h:Run (g:=g) s s')(k:Run (g:=g) s' aa):Run (g:=g) s aa where
 lf:=k.lf
 le:=λx hx=>(k.le x hx).trans (h.le x hx)
 ch:=by
  rcases h.ch with⟨a,b⟩|⟨a,x,hx,b⟩
  ·rcases k.ch with⟨c,d⟩|⟨c,y,hy,d⟩
   ·exact .inl ⟨c.trans a,d.trans b⟩
   ·exact .inr ⟨c,y,hy,by rw[<- b];exact d⟩
  ·refine .inr ⟨?_,x,hx,λe=>b ?_⟩
   ·rcases k.ch with⟨c,d⟩|⟨c,y,hy,d⟩
    ·rw[c,a]
    ·exact c
   ·exact(h.le x hx).anti (e▸k.le x hx)
theorem QcZ{e:Nat}(he:e<g.n){s:List Int×Bool}(h:g.Lf s.1):∀(l:List (Int×Nat)),(∀a∈l,a∈g.out e)->∀s0:List Int×Bool,g.Lf s0.1->Run (g:=g) s0 (l.foldl (rl1 e) s0)/\∀a∈l,leO (lo (l.foldl (rl1 e) s0).1 e) (Q0G a.1 (lo s0.1 a.2))
 |[],_,s0,c=>⟨⟨c,λx hx=>.refl _,.inl ⟨rfl,rfl⟩⟩,λa ha=>nomatch ha⟩
 |a::l,hl,s0,c=>by
  obtain⟨d,h2,j⟩:=rl1_ok ok he c (hl a (.head _));have f:Run (g:=g) s0 (rl1 e s0 a):=⟨d,λx hx=>by
   rw[h2 x hx];by_cases aa:x=e
   ·subst aa;rw[QqW rfl];exact CD.l ..
   ·rw[QqZ aa];exact .refl _,j.imp id λ⟨a,b⟩=>⟨a,e,he,b⟩⟩
  obtain⟨i,h5⟩:=QcZ he h l (λb hb=>hl b (.tail _ hb)) (rl1 e s0 a) d;refine⟨f.trans ok i,λb hb=>?_⟩;rcases Qro.1 hb with rfl | hb
  ·refine(i.le e he).trans ?_;rw[h2 e he,QqW rfl];exact CD.r ..
  ·exact(h5 b hb).trans (Q0G.mono (f.le b.2 (ok.to e b (hl b (.tail _ hb))).2))
theorem QcQ{k:Nat}:∀(l:List Nat),(∀e∈l,e<g.n)->∀s0:List Int×Bool,g.Lf s0.1->(∀e,e<g.n->leO (lo s0.1 e) (g.D k e))->Run (g:=g) s0 (l.foldl g.rlE s0)/\∀e∈l,leO (lo (l.foldl g.rlE s0).1 e) (g.D (k+1) e)
 |[],_,s0,c,_=>⟨⟨c,λx hx=>.refl _,.inl ⟨rfl,rfl⟩⟩,λa ha=>nomatch ha⟩
 |e::l,hl,s0,c,hk=>by
  have he:=hl e (.head _);obtain⟨d,h⟩:=QcZ ok he c (g.out e) (λa ha=>ha) s0 c;obtain⟨f,h2⟩:=QcQ (k:=k) l (λb hb=>hl b (.tail _ hb)) (g.rlE s0 e) d.lf (λx hx=>(d.le x hx).trans (hk x hx));refine⟨d.trans ok f,λb hb=>?_⟩;rcases Qro.1 hb with rfl | hb
  ·refine(f.le b he).trans ?_;rcases g.D_or k b with e1 | ⟨a,ha,e1⟩
   ·rw[e1];exact(d.le b he).trans (hk b he)
   ·rw[e1];exact(h a ha).trans (Q0G.mono (hk a.2 (ok.to b a ha).2))
  ·exact h2 b hb
theorem Q1U{k:Nat}{left:List Int}(h:g.Lf left)(hk:∀e,e<g.n->leO (lo left e) (g.D k e)):g.Lf (g.rlR left).1/\(∀e,e<g.n->leO (lo (g.rlR left).1 e) (g.D (k+1) e))/\((g.rlR left).2=false/\(g.rlR left).1=left\/(g.rlR left).2=true/\∃x,x<g.n/\lo (g.rlR left).1 x≠lo left x):=by
 obtain⟨r,a⟩:=QcQ ok (k:=k) (List.range g.n) (λe he=>Qr8.1 he) (left,false) h hk;exact⟨r.lf,λe he=>a e (Qr8.2 he),r.ch⟩
theorem Q39{k:Nat}(hk:g.n<=k){left:List Int}(h:g.Lf left)(hd:∀e,e<g.n->leO (lo left e) (g.D k e)){e:Nat}(he:e<g.n):lo left e=g.T e:=
 ((hd e he).trans (g.D_mono e hk)).anti (h.ge e he)
theorem Qa2{k:Nat}(hk:g.n<=k){left:List Int}(h:g.Lf left)(hd:∀e,e<g.n->leO (lo left e) (g.D k e)):g.rlR left=(left,false):=by
 obtain⟨c,h2,d⟩:=Q1U ok h hd;rcases d with⟨a,b⟩|⟨a,x,hx,b⟩
 ·exact Prod.ext b a
 ·exact absurd ((Q39 ok (show g.n<=k+1 by omega) c h2 hx).trans (Q39 ok hk h hd hx).symm) b
theorem rounds{β:Type}{r:Nat->List Int->β}{K:List Int->β}{Q:List Int->Prop}(hQ:∀left,g.Lf left->Q left->Q (g.rlR left).1)(hr:∀m left,g.Lf left->Q left->r (m+1) left=if (g.rlR left).2=true then r m (g.rlR left).1 else K (g.rlR left).1):∀(c m k:Nat) (left:List Int),k+c=g.n->c<m->g.Lf left->Q left->(∀e,e<g.n->leO (lo left e) (g.D k e))->∃aa,g.Lf aa/\Q aa/\(∀e,e<g.n->lo aa e=g.T e)/\r m left=K aa
 |0,m+1,k,left,hk,_,h,q,hd=>by
  refine⟨left,h,q,λe he=>Q39 ok Q0 h hd he,?_⟩;rw[hr m left h q,Qa2 ok Q0 h hd,QqZ (λe=>nomatch e)]
 |c+1,m+1,k,left,hk,hm,h,q,hd=>by
  obtain⟨d,h2,f⟩:=Q1U ok h hd;rw[hr m left h q];by_cases hc:(g.rlR left).2=true
  ·rw[QqW hc];exact rounds hQ hr c m (k+1) _ Q0 Q0 d (hQ left h q) h2
  ·rw[QqZ hc];rcases f with⟨a,b⟩|⟨a,_⟩
   ·refine⟨left,h,q,λe he=>?_,by rw[b]⟩;have it:∀j,(∀e,e<g.n->leO (lo left e) (g.D (k+j) e)):=λj=>by
     induction j with
     |zero=>exact hd
     |succ j ih=>
      have:=(Q1U ok h ih).2.1;rw[b]at this;exact this
    exact Q39 ok (show g.n<=k+g.n by omega) h (it g.n) he
   ·exact absurd a hc
def QcG(left:List Int):Nat:=left.countP λx=>decide (x ≠ -1)
def Ub(U:Int)(left:List Int):Prop:=∀e:Nat,left.getD e 0<=U*(QcG left:Nat)
theorem rl1_ub{U:Int}{e:Nat}(he:e<g.n){s:List Int×Bool}(h:g.Lf s.1)(hu:Ub U s.1){a:Int×Nat}(ha:a∈g.out e)(hd:a.1<=U):Ub U (rl1 e s a).1:=by
 obtain⟨left,c⟩:=s;obtain⟨d,f⟩:=a;have ho:=ok.to e _ ha;have hl:=h.len;have n1:=h.nn e he;have n2:=h.nn f ho.2;unfold rl1;dsimp only at *
 by_cases j:left.getD f 0 = -1
 ·rw[QqW j];exact hu
 rw[QqZ j];by_cases h2:left.getD e 0 = -1\/d+left.getD f 0<left.getD e 0
 ·rw[QqW h2];have g1:=QqL (l:=left) (i:=e) Q0;have ge:left.getD e 0=left[e]'Q0:=by rw[QqM,g1];rfl
  have ac:QcG (left.set e (d+left.getD f 0))=QcG left+(if left.getD e 0 = -1 then 1 else 0):=by
   unfold QcG;rw[List.countP_set Q0,<- ge,QqR (show d+left.getD f 0 ≠ -1 by omega),QqW rfl];by_cases b:left.getD e 0 = -1
   ·rw[QqW b,QqO Q0,QqZ Q1];rfl
   ·rw[QqZ b,QqR b,QqW rfl];have:0<left.countP λx=>decide (x ≠ -1):=List.countP_pos_iff.2 ⟨_,List.getElem_mem (by omega:e<left.length),QqR (by rw[<- ge];exact b)⟩
    omega
  have hf:=hu f;have hz:=hu e;intro x;have hx:=hu x;rw[ac];have k:(left.set e (d+left.getD f 0)).getD x 0=if x=e then d+left.getD f 0 else left.getD x 0:=by
   rw[QqM,List.getElem?_set];by_cases aa:x=e
   ·subst aa;rw[QqW rfl,QqW rfl,QqW Q0];rfl
   ·rw[QqZ (λh=>aa h.symm),QqZ aa,<- QqM]
  rw[k];by_cases b:left.getD e 0 = -1
  ·rw[QqW b,show((QcG left+1:Nat):Int)=(QcG left:Int)+1 by omega,Int.mul_add,Int.mul_one];split<;>omega
  ·rw[QqZ b,Nat.add_zero];split<;>omega
 ·rw[QqZ h2];exact hu
theorem rlE_ub{U:Int}{e:Nat}(he:e<g.n):∀(l:List (Int×Nat)),(∀a∈l,a∈g.out e/\a.1<=U)->∀s:List Int×Bool,g.Lf s.1->Ub U s.1->g.Lf (l.foldl (rl1 e) s).1/\Ub U (l.foldl (rl1 e) s).1
 |[],_,s,h,hu=>⟨h,hu⟩
 |a::l,hl,s,h,hu=>rlE_ub he l (λb hb=>hl b (.tail _ hb)) _ (rl1_ok ok he h (hl a (.head _)).1).1 (rl1_ub ok he h hu (hl a (.head _)).1 (hl a (.head _)).2)
theorem rlR_ub{U:Int}(hU:∀e,∀a∈g.out e,a.1<=U):∀(l:List Nat),(∀e∈l,e<g.n)->∀s:List Int×Bool,g.Lf s.1->Ub U s.1->g.Lf (l.foldl g.rlE s).1/\Ub U (l.foldl g.rlE s).1
 |[],_,s,h,hu=>⟨h,hu⟩
 |e::l,hl,s,h,hu=>by
  have:=rlE_ub ok (hl e (.head _)) (g.out e) (λa ha=>⟨ha,hU e a ha⟩) s h hu;exact rlR_ub hU l (λb hb=>hl b (.tail _ hb)) (g.rlE s e) this.1 this.2
omit ok in
theorem Ub.le{U:Int}(hU:0<=U){left:List Int}(hu:Ub U left)(e:Nat):left.getD e 0<=U*(left.length:Nat):=by
 have a:=hu e;have h2:QcG left<=left.length:=List.countP_le_length;have:=Int.mul_le_mul_of_nonneg_left (show((QcG left:Nat):Int)<=(left.length:Nat) by omega) hU;omega
end Gr
structure Sv where
 n:Nat
 dur:Nat->Int
 to:Nat->Nat
 lv:Nat->List Nat
 en:Nat->Bool
namespace Sv
variable(S:Sv)
def gr:Gr:=⟨S.n,λe=>(S.lv e).map λi=>(S.dur i,S.to i),S.en⟩
def tight(left:List Int)(t:Int)(a:Nat):Bool:=bif left.getD (S.to a) 0 != -1 then S.dur a+left.getD (S.to a) 0 == t else false
structure Alt(arr:Nat->Bool):Prop where
 al:∀e,e<S.n->∀a∈S.lv e,arr (S.to a) = !arr e/\(arr e=false->1<=S.dur a)
 en:∀e,S.en e=true->arr e=true
structure Fin(left:List Int):Prop where
 ok:S.gr.OK
 lf:S.gr.Lf left
 eq:∀e,e<S.n->lo left e=S.gr.T e
variable{S} {left:List Int}
theorem Fin.val(h:S.Fin left){e:Nat}(he:e<S.n){x:Int}:S.gr.T e=some x↔left.getD e 0=x/\x ≠ -1:=by
 rw[<- h.eq e he];unfold lo;split
 ·rename_i c;exact⟨λq=>(nomatch q),λ⟨a,b⟩=>absurd (a.symm.trans c) b⟩
 ·rename_i c;exact⟨λq=>by injection q with q;exact⟨q,q▸c⟩,λ⟨a,b⟩=>by rw[a]⟩
theorem Fin.lv(h:S.Fin left){e a:Nat}(ha:a∈S.lv e):0<=S.dur a/\S.to a<S.n:=h.ok.to e (S.dur a,S.to a) (Qr4.2 ⟨a,ha,rfl⟩)
theorem tight_iff{t:Int}{a:Nat}:S.tight left t a=true↔left.getD (S.to a) 0 ≠ -1/\S.dur a+left.getD (S.to a) 0=t:=by
 unfold tight;cases hb:(left.getD (S.to a) 0 != -1)with
 |false=>simp at hb;simp[hb]
 |true=>simp at hb;simp[hb]
theorem Fin.next(h:S.Fin left){e:Nat}(he:e<S.n){t:Int}(ht:left.getD e 0=t)(f:0<t):S.en e=false/\∃a∈S.lv e,S.tight left t a=true:=by
 have hT:=(h.val he (x:=t)).2 ⟨ht,Q0⟩;constructor
 ·cases hc:S.en e with
  |false=>rfl
  |true=>
   have:=S.gr.T_end h.ok he hc;rw[hT]at this;have:t<=0:=this;omega
 ·rcases S.gr.T_or h.ok he hT with⟨_,e1⟩|⟨b,hb,y,d,h2⟩
  ·omega
  ·obtain⟨a,ha,rfl⟩:=Qr4.1 hb;have c:=(h.val (h.lv ha).2).1 d;exact⟨a,ha,tight_iff.2 ⟨by rw[c.1];exact c.2,by rw[c.1];exact h2.symm⟩⟩
def Way(S:Sv)(left:List Int):List Nat->Int->List Nat->Prop
 |_,t,[]=>t=0
 |nx,t,a::p=>0<t/\a∈nx/\S.tight left t a=true/\Way S left (S.lv (S.to a)) (t-S.dur a) p
def cnt(S:Sv)(left:List Int)(t:Int):Nat:=(List.range S.n).countP λx=>decide (left.getD x 0 ≠ -1/\left.getD x 0<t)
theorem SK{p q:Nat->Bool}{e:Nat}(aa:∀x,p x=true->q x=true)(a:p e=false)(h2:q e=true):∀(l:List Nat),e∈l->l.countP p<l.countP q
 |b::l,h=>by
  have hm:=List.countP_mono_left (l:=l) (p:=p) (q:=q) (λx _ hx=>aa x hx);rw[List.countP_cons,List.countP_cons];rcases Qro.1 h with rfl | h
  ·rw[a,h2,QqZ Q1,QqW rfl];omega
  ·have ih:=SK aa a h2 l h;cases hb:p b with
   |true=>rw[aa b hb];simp only[if_true];omega
   |false=>cases q b<;>simp<;>omega
theorem Qcr{t t':Int}(h:t'<=t):S.cnt left t'<=S.cnt left t:=List.countP_mono_left λx _ hx=>by
 have:=of_decide_eq_true hx;exact QqR ⟨this.1,Q0⟩
theorem QgQ{t t':Int}(h:t'<t){e:Nat}(he:e<S.n)(ht:left.getD e 0=t')(a:t' ≠ -1):S.cnt left t'<S.cnt left t:=
 SK (e:=e) (λx hx=>by have:=of_decide_eq_true hx;exact QqR ⟨this.1,Q0⟩) (QqO Q0) (QqR Q0) _ (Qr8.2 he)
theorem cnt_le{t:Int}:S.cnt left t<=S.n:=by
 have:=List.countP_le_length (p:=λx=>decide (left.getD x 0 ≠ -1/\left.getD x 0<t)) (l:=List.range S.n);rwa [Qrg]at this
theorem way_loop{β:Type}{r:Nat->Int->List Nat->List Nat->β}{K:List Nat->β}{B:Nat}(h:S.Fin left){arr:Nat->Bool}(al:S.Alt arr)(d:∀m e j,e<S.n->left.getD e 0=0->r (m+1) (left.getD e 0) (S.lv e) j=K j)(f:∀m e j a,e<S.n->0<left.getD e 0->j.length+m<B->(S.lv e).find? (S.tight left (left.getD e 0))=some a->r (m+1) (left.getD e 0) (S.lv e) j=r m (left.getD e 0-S.dur a) (S.lv (S.to a)) (j++[a])) :
  ∀(c m e:Nat) (j:List Nat),e<S.n->2*S.cnt left (left.getD e 0)+(if arr e then 1 else 0)<=c->c<m->j.length+m<=B->left.getD e 0 ≠ -1->∃p,Way S left (S.lv e) (left.getD e 0) p/\p.length<=c/\r m (left.getD e 0) (S.lv e) j=K (j++p)
 |c,m+1,e,j,he,hc,hm,hB,hn=>by
  by_cases hp:0<left.getD e 0
  ·obtain⟨a,ha,an⟩:=(h.next he rfl hp).2;cases hf:(S.lv e).find? (S.tight left (left.getD e 0))with
   |none=>exact absurd an (List.find?_eq_none.1 hf a ha)
   |some b=>
    rw[f m e j b he hp Q0 hf];have hb:=Qrb hf;have ac:=List.find?_some hf;obtain⟨b1,b2⟩:=tight_iff.1 ac;obtain⟨d0,aa⟩:=h.lv hb;obtain⟨a1,a2⟩:=al.al e he b hb;have ht:left.getD e 0-S.dur b=left.getD (S.to b) 0:=Q0
    have aq:2*S.cnt left (left.getD (S.to b) 0)+(if arr (S.to b)then 1 else 0)<2*S.cnt left (left.getD e 0)+(if arr e then 1 else 0):=by
     rw[a1];cases am:arr e with
     |true=>
      have:=Qcr (S:=S) (left:=left) (show left.getD (S.to b) 0<=left.getD e 0 by omega);simp only[QqS,if_true,Bool.false_eq_true,if_false];omega
     |false=>
      have:=a2 am;have:=QgQ (S:=S) (left:=left) (show left.getD (S.to b) 0<left.getD e 0 by omega) aa rfl b1;simp only[Qr6,if_true,Bool.false_eq_true,if_false];omega
    cases c with
    |zero=>omega
    |succ c=>
     obtain⟨p,g,ak,hq⟩:=way_loop h al d f c m (S.to b) (j++[b]) aa Q0 Q0 Q3 b1;refine⟨b::p,⟨hp,hb,ac,by rw[ht];exact g⟩,Nat.succ_le_succ ak,?_⟩;rw[ht,hq,QqP];rfl
  ·have:=h.lf.nn e he;have ai:left.getD e 0=0:=Q0
   exact⟨[],ai,Nat.zero_le _,by rw[d m e j he ai,QqX]⟩
end Sv
def Cx.sv(X:Cx)(per:Int)(A:LL)(tl:List Int)(to:Int):Sv:=⟨2*X.N,λj=>Y9 tl per (A.getD j []),λj=>(tto A j).toNat,λe=>lvF A A.length e,λe=>bif ((if e % 2=0 then(1:Int)else 2) == 2)then X.s1 e == to else false⟩
theorem Q9A{A:LL}{i e j:Nat}:j∈lvF A i e↔j<i/\QaR A e j=true:=by
 unfold lvF;rw[List.mem_filter,Qr8]
theorem Q6q{l:List Nat}{i j:Nat}(h:l[i]? = some j):Qi (Hu l) (i:Int)=some [Ql (j:Int)]:=by
 rw[Qt];unfold Hu;rw[QqU,h];rfl
theorem Fc{l:List Nat}:(Hu l).length=l.length:=by simp[Hu]
namespace Cx
variable{X:Cx} {per:Int} {Ch Sy A:LL} {tl:List Int} (g:X.Gd per Ch Sy A tl)
include g
theorem Gd.go{r:List D}(hr:r∈A):∃kd f t mn mx w:Int,r=[Ql kd,Ql f,Ql t,Ql mn,Ql mx,Ql w]/\(kd=1/\f % 2=0/\t % 2=1/\1<=mn\/(kd=2\/kd=3)/\f % 2=1/\t % 2=0/\0<=mn\/kd≠1/\kd≠2/\kd≠3):=by
 obtain⟨H,rfl,hH⟩:=g.act;have h:=g.ok;rcases QqN.1 hr with hr | hr
 ·rcases QqN.1 hr with hr | hr
  ·rcases QqN.1 hr with hr | hr
   ·rcases QqN.1 hr with hr | hr
    ·obtain⟨i,k,hi,hk,h⟩:=Q6a hr;rcases h with rfl | ⟨c,rfl⟩
     ·exact⟨_,_,_,_,_,_,rfl,.inl ⟨rfl,Q0,Q0,run_pos h hi hk⟩⟩
     ·exact⟨_,_,_,_,_,_,rfl,.inr (.inl ⟨.inl rfl,Q0,Q0,(rd h hi hk).mn0⟩)⟩
    ·obtain⟨row,aa,rfl⟩:=Qr4.1 hr;obtain⟨f,fr,t,tr,mn,mx,w,rfl,_,_,_,_,ac,_⟩:=g.ls.ch row aa;exact⟨_,_,_,mn,mx,w,rfl,.inr (.inl ⟨.inr rfl,Q0,Q0,ac.1⟩)⟩
   ·obtain⟨t,ht,rfl⟩:=Qr4.1 hr;exact⟨_,_,_,_,_,_,rfl,.inr (.inr Q0)⟩
  ·obtain⟨row,aa,rfl⟩:=Qr4.1 hr;obtain⟨o,rfl,_⟩:=g.ls.sy row aa;exact⟨_,_,_,o,o,0,rfl,.inr (.inr Q0)⟩
 ·obtain⟨a,b,w,rfl⟩:=hH r hr;exact⟨_,_,_,_,_,_,rfl,.inr (.inr Q0)⟩
theorem Gd.at{j:Nat}(hj:j<A.length):∃r,A[j]? = some r/\r∈A/\A.getD j []=r/\r[0]? = some (Ql (knd A j))/\r[1]? = some (Ql (frm A j))/\r[2]? = some (Ql (tto A j))/\(0<=frm A j/\frm A j<(2*X.N:Nat))/\(0<=tto A j/\tto A j<(2*X.N:Nat))/\(r[3]?).isSome=true/\(r[4]?).isSome=true/\(r[5]?).isSome=true:=by
 have e:=QqL hj;have hm:=QqJ e;obtain⟨kd,f,t,mn,mx,w,er,hf,ht,_⟩:=g.row hm;have ek:knd A j=kd:=by unfold knd;rw[e,er]
 have ef:frm A j=f:=by unfold frm;rw[e,er]
 have et:tto A j=t:=by unfold tto;rw[e,er]
 rw[ek,ef,et];exact⟨A[j],e,hm,by rw[QqM,e];rfl,by rw[er];rfl,by rw[er];rfl,by rw[er];rfl,hf,ht,by rw[er];rfl,by rw[er];rfl,by rw[er];rfl⟩
theorem Gd.use{e j:Nat}(hj:j∈lvF A A.length e){to:Int}:j<A.length/\frm A j=(e:Int)/\0<=(X.sv per A tl to).dur j/\(X.sv per A tl to).dur j<=66000/\(X.sv per A tl to).to j<2*X.N/\((X.sv per A tl to).to j:Int)=tto A j /\
  ((knd A j=1/\e % 2=0/\(X.sv per A tl to).to j % 2=1/\1<=(X.sv per A tl to).dur j)\/((knd A j=2\/knd A j=3)/\e % 2=1/\(X.sv per A tl to).to j % 2=0)):=by
 obtain⟨i,h2⟩:=Q9A.1 hj;have e1:=QqL i;have hm:=QqJ e1;obtain⟨kd,f,t,mn,mx,w,er,hk⟩:=g.go hm;obtain⟨r,k,p,n,c,d,h,q,o,_⟩:=g.at i;obtain rfl:A[j]=r:=by rw[e1]at k;injection k
 have hd:=g.dur_rng hm;have p0:=g.p0;have ed:(X.sv per A tl to).dur j=Y9 tl per A[j]:=by
  show Y9 tl per (A.getD j [])=_;rw[n]
 have ht:((X.sv per A tl to).to j:Int)=tto A j:=Int.toNat_of_nonneg o.1;rw[er]at c d h;have ek:kd=knd A j:=by simp only[QqE,Option.some.injEq]at c;injection c
 have ef:f=frm A j:=by simp only[QqI,QqE,Option.some.injEq]at d;injection d
 have et:t=tto A j:=by simp only[QqI,QqE,Option.some.injEq]at h;injection h
 have am:mn<=Y9 tl per A[j]:=by
  rw[er];have:=Qr3 (Vx.tat tl t-Vx.tat tl f-mn) (show per≠0 by omega);show mn<=mn+_;omega
 unfold QaR at h2;rw[Qri,<- ek,<- ef]at h2;obtain⟨l,m⟩:=h2;have m:f=(e:Int):=by simpa using m
 have an:kd=1\/kd=2\/kd=3:=by
  by_cases a:kd=1
  ·exact .inl a
  ·by_cases b:kd=2
   ·exact .inr (.inl b)
   ·rw[show(kd == 1)=false by simpa using a,show(kd == 2)=false by simpa using b]at l;exact .inr (.inr (by simpa using l))
 rw[<- ef,<- ek];omega
theorem Gd.grOK{to:Int}:(X.sv per A tl to).gr.OK:=⟨λe a ha=>by
 obtain⟨j,hj,rfl⟩:=Qr4.1 ha;have:=g.use hj (to:=to);exact⟨this.2.2.1,this.2.2.2.2.1⟩⟩
theorem Gd.alt{to:Int}:(X.sv per A tl to).Alt λe=>decide (e % 2=1) where
 al:=λe he j hj=>by
  have:=g.use hj (to:=to);rcases this.2.2.2.2.2.2 with⟨_,a,h2,b⟩|⟨_,a,h2⟩
  ·rw[QqR h2,QqO Q0];exact⟨rfl,λ_=>b⟩
  ·rw[QqO Q0,QqR a];exact⟨rfl,λh=>nomatch h⟩
 en:=λe he=>by
  have he:(bif ((if e % 2=0 then(1:Int)else 2) == 2)then X.s1 e == to else false)=true:=he;by_cases h:e % 2=0
  ·rw[QqW h]at he;cases he
  ·exact QqR Q0
theorem Gd.endsP{to:Int}{e:Nat}(he:e<2*X.N):ZL 400 (X.evs X.L) (encI ((List.range (2*X.N)).map X.s1)) (e:Int) to (some:Bool->oP Bool)=some ((X.sv per A tl to).en e):=by
 obtain⟨i,k,c,h2,b,d⟩:=Qg5 g.ok he;have e1:(encI ((List.range (2*X.N)).map X.s1))[e]? = some [Ql (X.s1 e)]:=by
  have:=KS (l:=(List.range (2*X.N)).map X.s1) (i:=e) (a:=X.s1 e) (by simp[he]);rwa [Qt]at this
 unfold ZL;rw[Qt,b,Qh,QqE,Qh,Qj,Qh,XP Q0 (by rw[QR];simp;omega),Qh,QqG,e1,Qh,QqE,Qh,Qj,Qh];rfl
def Q06(S:Sv)(i:Nat):List Int:=(List.range S.n).map λx=>if x<i/\S.en x=false then -1 else 0
omit g in
theorem QbZ{S:Sv}{i:Nat}(hi:i<S.n)(h:S.en i=false):(Q06 S i).set i (-1)=Q06 S (i+1):=by
 refine Qrn λx=>?_
 unfold Q06;by_cases hx:x<S.n
 ·by_cases e:i=x
  ·subst e;rw[List.getElem?_set_self Q3,QqU,Qra hi];simp[h]
  ·rw[List.getElem?_set_ne e,QqU,QqU,Qra hx];show some (if x<i/\S.en x=false then(-1:Int)else 0)=some (if x<i+1/\S.en x=false then(-1:Int)else 0);congr 1;by_cases h2:x<i
   ·simp[h2,show x<i+1 by omega]
   ·simp[h2,show ¬ x<i+1 by omega]
 ·rw[QqV Q3,QqV Q3]
omit g in
theorem QdM{S:Sv}{i:Nat}(h:S.en i=true):Q06 S i=Q06 S (i+1):=by
 unfold Q06;refine List.map_congr_left λx _=>?_
 by_cases e:x=i
 ·subst e;simp[h]
 ·by_cases h2:x<i
  ·simp[h2,show x<i+1 by omega]
  ·simp[h2,show ¬ x<i+1 by omega]
theorem Gd.ini{R:Type}{to:Int}{k0:Int->Bool->LL->oP R}(hN:X.N<=6):∀(c m i:Nat),i+c=2*X.N->c<m->QL 400 to ((2*X.N:Nat):Int) (encI ((List.range (2*X.N)).map X.s1)) (X.evs X.L) k0 m (i:Int) (encI (Q06 (X.sv per A tl to) i))=k0 ((2*X.N:Nat):Int) false (encI (Q06 (X.sv per A tl to) (2*X.N)))
 |0,m+1,i,hi,_=>by
  obtain rfl:i=2*X.N:=Q0
  rw[QL,Qy,QqF]
 |c+1,m+1,i,hi,hm=>by
  have hl:(Q06 (X.sv per A tl to) i).length=2*X.N:=by simp[Q06,sv]
  rw[QL,Qs Q0,QqH,g.endsP Q0,Qh,QJ Q0];cases he:(X.sv per A tl to).en i with
  |true=>
   rw[QqS,QqF,QdM he];exact ini hN c m (i+1) Q0 Q0
  |false=>
   rw[Qr6,QqH,XP Q0 (by rw[QR,hl];omega),Qh,QqG,Vo Q0,Qh,QqY];show QL _ _ _ _ _ _ _ _ ((encI _).set i [Ql (-1)])=_;rw[Pi,QbZ (show i<(X.sv per A tl to).n by show i<2*X.N;omega) he];exact ini hN c m (i+1) Q0 Q0
theorem Gd.durAt{to:Int}{j:Nat}(hj:j<A.length):(A.map λr=>[Ql (Y9 tl per r)])[j]? = some [Ql ((X.sv per A tl to).dur j)]:=by
 rw[QqU,QqL hj];show some [Ql (Y9 tl per A[j])]=some [Ql (Y9 tl per (A.getD j []))];rw[QqM,QqL hj];rfl
omit g in
theorem Ah{w:List Int}{i:Nat}(h:i<w.length):(encI w)[i]? = some [Ql (w.getD i 0)]:=by
 rw[Vo h,QqM,QqL h];rfl
theorem Gd.rem2{R:Type}{to:Int}{k0:Bool->Int->Bool->LL->oP R}(hN:X.N<=6){e:Nat}(he:e<2*X.N):∀(ac l:List Nat) (m i:Nat) (s:List Int×Bool),l.drop i=ac->i<=l.length->l.length<=400->ac.length<m->(∀j∈ac,j∈lvF A A.length e)->(X.sv per A tl to).gr.Lf s.1->Gr.Ub 66000 s.1 ->
  QC 400 (e:Int) (Hu l) (l.length:Int) (A.map λr=>[Ql (Y9 tl per r)]) A k0 m s.2 (i:Int) (encI s.1) =
   k0 ((ac.map λj=>((X.sv per A tl to).dur j,(X.sv per A tl to).to j)).foldl (Gr.rl1 e) s).2 (l.length:Int) false (encI ((ac.map λj=>((X.sv per A tl to).dur j,(X.sv per A tl to).to j)).foldl (Gr.rl1 e) s).1)
 |[],l,m+1,i,s,hd,ao,hl,_,_,_,_=>by
  have:=ZI hd;obtain rfl:i=l.length:=Q0
  rw[QC,Qy,QqF];rfl
 |j::ac,l,m+1,i,s,hd,ao,hl,hm,hj,hf,hu=>by
  obtain⟨e1,ar,ak⟩:=Y8 hd;rw[Qr5]at hm;obtain⟨b,t,u,d,f,v,_⟩:=g.use (hj j (.head _)) (to:=to);obtain⟨r,k,y,z,q4,q5,n,q7,q8,_⟩:=g.at b;have aa:s.1.length=2*X.N:=hf.len;have ub:=λx:Nat=>Gr.Ub.le Q1 hu x
  rw[aa]at ub;have ae:=hf.nn e he;have ag:=hf.nn _ f;have b1:=ub e;have b2:=ub ((X.sv per A tl to).to j);have a1:inB (List.length (encI s.1)) (tto A j)=some ():=XP Q0 (by rw[QR,aa];omega);have a2:inB (List.length (encI s.1)) (e:Int)=some ():=XP Q0 (by rw[QR,aa];omega);have o:inB (List.length (A.map λr=>[Ql (Y9 tl per r)])) (j:Int)=some ():=XP Q0 Q3;have aw:(tto A j).toNat=(X.sv per A tl to).to j:=rfl;have p:(encI s.1)[(tto A j).toNat]? = some [Ql (s.1.getD ((X.sv per A tl to).to j) 0)]:=Ah (by rw[aa];omega);have q:(encI s.1)[e]? = some [Ql (s.1.getD e 0)]:=Ah (by rw[aa];omega);have ai:((X.sv per A tl to).dur j,(X.sv per A tl to).to j)∈(X.sv per A tl to).gr.out e:=Qr4.2 ⟨j,hj j (.head _),rfl⟩;have am:=(Gr.rl1_ok g.grOK he hf ai).1;have an:=Gr.rl1_ub g.grOK he hf hu ai d;have ih:=rem2 (k0:=k0) hN he ac l m (i+1) (Gr.rl1 e s ((X.sv per A tl to).dur j,(X.sv per A tl to).to j)) ar Q0 hl Q0 (λx hx=>hj x (.tail _ hx)) am an;rw[List.map_cons,Qrk,<- ih,QC,Qs ak,QqH,Q6q e1];simp -implicitDefEqProofs only[Qh,QqE,Qj,Qt,k,n,a1,a2,o,p,q,QqG,g.durAt b (to:=to),QJ (show i<=1000 by omega)];rw[Qo (x:=(X.sv per A tl to).dur j+s.1.getD ((X.sv per A tl to).to j) 0) Q0 Q0];obtain⟨left,c⟩:=s;unfold Gr.rl1;dsimp only at *
  by_cases a:left.getD ((X.sv per A tl to).to j) 0 = -1
  ·rw[QqW a,show(left.getD ((X.sv per A tl to).to j) 0 == -1)=true by simpa using a,QqH]
  rw[QqZ a,show(left.getD ((X.sv per A tl to).to j) 0 == -1)=false by simpa using a,QqF];have hb:(bif (left.getD e 0 == -1)then true else decide ((X.sv per A tl to).dur j+left.getD ((X.sv per A tl to).to j) 0<left.getD e 0))=decide (left.getD e 0 = -1\/(X.sv per A tl to).dur j+left.getD ((X.sv per A tl to).to j) 0<left.getD e 0):=by
   by_cases h2:left.getD e 0 = -1
   ·rw[show(left.getD e 0 == -1)=true by simpa using h2,QqR (Or.inl h2)];rfl
   ·rw[show(left.getD e 0 == -1)=false by simpa using h2,QqF];exact decide_eq_decide.2 ⟨.inr,λh=>h.resolve_left h2⟩
  rw[hb];by_cases h2:left.getD e 0 = -1\/(X.sv per A tl to).dur j+left.getD ((X.sv per A tl to).to j) 0<left.getD e 0
  ·rw[QqW h2,QqR h2,QqH,QqY];show QC _ _ _ _ _ _ _ _ _ _ ((encI left).set e [Ql _])=_;rw[Pi]
  ·rw[QqZ h2,QqO h2,QqF]
end Cx
namespace Cx
variable{X:Cx} {per:Int} {Ch Sy A:LL} {tl:List Int} (g:X.Gd per Ch Sy A tl)
theorem QcP{e:Nat}(he:e<2*X.N):(X.lvs A)[e]? = some [.sl 1 (Hu (lvF A A.length e))]:=by
 unfold lvs;rw[QqU,Qra he];rfl
theorem Qa5:(X.lvs A).length=2*X.N:=by simp[lvs]
include g
theorem Gd.hU{to:Int}:∀e,∀a∈(X.sv per A tl to).gr.out e,a.1<=66000:=λe a ha=>by
 obtain⟨j,hj,rfl⟩:=Qr4.1 ha;exact(g.use hj (to:=to)).2.2.2.1
theorem Gd.rem3{R:Type}{to:Int}{k0:Bool->Int->Bool->LL->oP R}(hN:X.N<=6):∀(ac:List Nat) (m i:Nat) (s:List Int×Bool),(List.range (2*X.N)).drop i=ac->i<=2*X.N->ac.length<m->(X.sv per A tl to).gr.Lf s.1->Gr.Ub 66000 s.1 ->
  Xf 400 ((2*X.N:Nat):Int) (X.lvs A) (A.map λr=>[Ql (Y9 tl per r)]) A k0 m s.2 (i:Int) (encI s.1) =
   k0 (ac.foldl (X.sv per A tl to).gr.rlE s).2 ((2*X.N:Nat):Int) false (encI (ac.foldl (X.sv per A tl to).gr.rlE s).1)
 |[],m+1,i,s,hd,hi,_,_,_=>by
  have:=ZI hd;rw[Qrg]at this;obtain rfl:i=2*X.N:=Q0
  rw[Xf,Qy,QqF];rfl
 |e::ac,m+1,i,s,hd,hi,hm,hf,hu=>by
  obtain⟨e1,ai,aa⟩:=Y8 hd;rw[Qrg]at aa;rw[Qra aa]at e1;obtain rfl:i=e:=by injection e1
  rw[Qr5]at hm;have hl:=Q6A A A.length i;have hA:=g.len;have h2:=Gr.rlE_ub g.grOK (show i<(X.sv per A tl to).gr.n from aa) ((X.sv per A tl to).gr.out i) (λa ha=>⟨ha,g.hU i a ha⟩) s hf hu;have ih:=rem3 (k0:=k0) hN ac m (i+1) ((X.sv per A tl to).gr.rlE s i) ai Q0 Q0 h2.1 h2.2;rw[Qrk,<- ih,Xf,Qs aa,QqH,XP Q0 (by rw[Qa5];omega),Qh,QqG,QcP aa,Qh,QqE,Qh,X4,Qh,Fc,QJ Q0];exact g.rem2 hN aa (lvF A A.length i) (lvF A A.length i) 400 0 s rfl Q0 Q0 Q0 (λj hj=>hj) hf hu
theorem Gd.remP(to:Int):∃left:List Int,(X.sv per A tl to).Fin left/\(∀e,left.getD e 0<=792000)/\Xz 400 (X.evs X.L) A (X.lvs A) (A.map λr=>[Ql (Y9 tl per r)]) (encI ((List.range (2*X.N)).map X.s1)) to some=some (encI left):=by
 have hN:X.N<=6:=base_le g.ok;have hl:(X.evs X.L).length=2*X.N:=evs_len;have ok:=g.grOK (to:=to);have an:(Q06 (X.sv per A tl to) (2*X.N)).length=2*X.N:=by simp[Q06,sv]
 have aa:∀e,e<2*X.N->(Q06 (X.sv per A tl to) (2*X.N)).getD e 0=if (X.sv per A tl to).en e=false then -1 else 0:=λe he=>by
  unfold Q06;rw[QqM,QqU,Qra (show e<(X.sv per A tl to).n from he)];show(if e<2*X.N/\(X.sv per A tl to).en e=false then(-1:Int)else 0)=_;simp[he]
 have ai:∀e,e<2*X.N->lo (Q06 (X.sv per A tl to) (2*X.N)) e=bif (X.sv per A tl to).en e then some 0 else none:=λe he=>by
  unfold lo;rw[aa e he];cases (X.sv per A tl to).en e<;>rfl
 have d:(X.sv per A tl to).gr.Lf (Q06 (X.sv per A tl to) (2*X.N)):=⟨an,λe he=>by
  rw[aa e he];split
  ·exact .inl rfl
  ·exact .inr (Int.le_refl 0),λe he=>by
  rw[ai e he];cases hc:(X.sv per A tl to).en e with
  |false=>cases (X.sv per A tl to).gr.T e<;>trivial
  |true=>exact(X.sv per A tl to).gr.T_end ok he hc⟩
 have f:Gr.Ub 66000 (Q06 (X.sv per A tl to) (2*X.N)):=λe=>by
  have:(Q06 (X.sv per A tl to) (2*X.N)).getD e 0<=0:=by
   by_cases he:e<2*X.N
   ·rw[aa e he];split<;>omega
   ·rw[QqM,QqV Q0];exact Int.le_refl 0
  omega
 have d0:∀e,e<(X.sv per A tl to).gr.n->leO (lo (Q06 (X.sv per A tl to) (2*X.N)) e) ((X.sv per A tl to).gr.D 0 e):=λe he=>by
  rw[ai e he,Gr.D];exact leO.refl _
 have am:=Gr.rounds ok (β:=oP LL) (K:=λleft=>some (encI left)) (Q:=Gr.Ub 66000)
  (r:=λm left=>QD 400 (X.lvs A) (A.map λr=>[Ql (Y9 tl per r)]) A (λb a=>some a) (m+1) true (encI left))
  (λleft hf hu=>(Gr.rlR_ub ok (g.hU (to:=to)) _ (λe he=>Qr8.1 he) (left,false) hf hu).2)
  (λm left hf hu=>by
   rw[QD,QqH];have ac:left.length=2*X.N:=hf.len;rw[QR,ac];have:=g.rem3 (to:=to) (k0:=λi (p:Int) (q:Bool) j=>QD 400 (X.lvs A) (A.map λr=>[Ql (Y9 tl per r)]) A (λb a=>some a) (m+1) i j) hN (List.range (2*X.N)) 400 0 (left,false) rfl Q0 Q3 hf hu;refine this.trans ?_;show QD _ _ _ _ _ _ ((X.sv per A tl to).gr.rlR left).2 (encI ((X.sv per A tl to).gr.rlR left).1)=_;cases hc:((X.sv per A tl to).gr.rlR left).2 with
   |true=>rw[QqW rfl]
   |false=>
    rw[QqZ (λh=>nomatch h),QD,QqF])
  (2*X.N) 399 0 (Q06 (X.sv per A tl to) (2*X.N)) (by show 0+2*X.N=2*X.N;omega) Q0 d f d0
 obtain⟨left,c,h2,k,l⟩:=am;have ak:left.length=2*X.N:=c.len;refine⟨left,⟨ok,c,k⟩,λe=>?_,?_⟩
 ·have:=Gr.Ub.le Q1 h2 e;rw[ak]at this;omega
 ·unfold Xz;rw[hl,Q4l,Qh,QqG,XI Q0,Qh,List.length_replicate];have n:List.replicate (2*X.N) [D.int .i64 (0:Int)]=encI (Q06 (X.sv per A tl to) 0):=by
   unfold Q06 encI;rw[List.map_map];refine Qrn λx=>?_
   by_cases hx:x<2*X.N
   ·rw[QqU,Qra (show x<(X.sv per A tl to).n from hx),List.getElem?_replicate,QqW hx];simp[Ql]
   ·rw[QqV Q3,QqV (by simp[sv];omega)]
  rw[n];have:=g.ini (to:=to) (k0:=λ(s:Int) (t:Bool) o=>QD 400 (X.lvs A) (A.map λr=>[Ql (Y9 tl per r)]) A (λb a=>some a) 400 true o) hN (2*X.N) 400 0 Q0 Q0;refine this.trans ?_;exact l
end Cx
end Go.Vx
namespace Go.Vx
variable{R:Type} (n:Nat)
def Vu(i:LL)(d:Int)(j:LL)(e:Int)(f g h c:LL)(k0:LL->Int->Int->LL->oP R)(k1:Qlk R):Qll R
|0,_=>none
|m+1,b=>bif decide (b<e)then QkG R j b λa=>Qc R (Zl n g c i a d some) λp=>bif p then Qc R (Y5 ((f.length+[[Ql a]].length)*8)) λz=>QkI R c.length a c a.toNat λs=>Ql8 R g a λk=>QkR R h.length k h k.toNat λy=>k0 y (wJ (d-s)) a (f++[[Ql a]])else Vu i d j e f g h c k0 k1 m (wJ (b+1))else k1 b (decide (b<e))
def XL(c d e f:LL)(k0:LL->Int->Bool->LL->oP R):Nat->LL->Int->LL->oP R
|0,_,_,_=>none
|m+1,b,a,g=>bif decide (a>0)then Vu n c a b (b.length:Int) g d e f (λh i _ j=>XL c d e f k0 m h i j) (λk l=>XL c d e f k0 m b a g) n 0 else k0 b a (decide (a>0)) g
def ZZ(j k l m:LL)(o:Int)(p q r s t u v a2:LL)(h i:Int)(K:Int->LL->Int->oP R):oP R:=gb true (XU n j k l m o p q r s t u v a2 (λf=>some (.inl f)) λf g c a d e r6 b x=>some (.inr (f,g,c,a,d,e,r6,b,x))) (.inl 0) λg=>smX g (λc=>bif c !=0 then K 0 [] c else none) λa=>bif a.2.2.2.2.2.2.2.2 !=0 then K 0 [] a.2.2.2.2.2.2.2.2 else Qc R (Zk n a.2.2.2.2.2.2.2.1 h i some) λd=>bif d !=0 then K 0 [] d else Qb R a.2.2.2.2.1 λac=>Qc R (Xz n a.2.1 a.2.2.1 a.2.2.2.1 ac a.2.2.2.2.2.2.1 i some) λe=>Qc R (Yj n a.2.2.1 a.2.2.2.2.2.1 h some) λr6=>Qc R (Y4 n a.2.2.1 ac e r6 some) λb=>bif b==(-1:Int)then K 0 [] 6 else XL n e a.2.2.1 a.2.2.2.1 ac (λz aa ab y=>K b y 0) n r6 b []
end Go.Vx
namespace Go.Vx
def bgF(X:Cx)(A:LL)(fr:Int)(i:Nat):List Nat:=(List.range i).filter λj=>bif knd A j == 1 then X.s0 (frm A j).toNat == fr else false
theorem QaM{X:Cx}{A:LL}{fr:Int}{i j:Nat}:j∈bgF X A fr i↔j<i/\knd A j=1/\X.s0 (frm A j).toNat=fr:=by
 unfold bgF;rw[List.mem_filter,Qr8];cases h:(knd A j == 1)with
 |false=>simp at h;simp[h]
 |true=>simp at h;simp[h]
theorem Q5B(X:Cx)(A:LL)(fr:Int)(i:Nat):(bgF X A fr i).length<=i:=by
 unfold bgF;have:=Qrl (λj=>bif knd A j == 1 then X.s0 (frm A j).toNat == fr else false) (List.range i);rwa [Qrg]at this
theorem QbR{X:Cx}{A:LL}{fr:Int}{i:Nat}:bgF X A fr (i+1)=bgF X A fr i++(if (bif knd A i == 1 then X.s0 (frm A i).toNat == fr else false)=true then[i]else[]):=by
 unfold bgF;rw[List.range_succ,List.filter_append];congr 1;rw[List.filter_cons];rfl
theorem Q5a{l:List Nat}{j:Nat}:Hu l++[[.int .i64 (j:Int)]]=Hu (l++[j]):=by simp[Hu,Ql]
namespace Cx
variable{X:Cx} {per:Int} {Ch Sy A:LL} {tl:List Int} (g:X.Gd per Ch Sy A tl)
include g
theorem Gd.begP{R:Type}{fr:Int}{k0:Int->Bool->LL->oP R}:∀(c m i:Nat),i+c=A.length->c<m->X9 400 fr A (A.length:Int) (encI ((List.range (2*X.N)).map X.s0)) k0 m (i:Int) (Hu (bgF X A fr i))=k0 (A.length:Int) false (Hu (bgF X A fr A.length))
 |0,m+1,i,hi,_=>by
  obtain rfl:i=A.length:=Q0
  rw[X9,Qy,QqF]
 |c+1,m+1,i,hi,hm=>by
  have hA:=g.len;have aa:i<A.length:=Q0
  have e:=QqL aa;have hr:=QqJ e;obtain⟨kd,f,t,mn,mx,w,er,hf,ht,am⟩:=g.row hr;have ek:knd A i=kd:=by unfold knd;rw[e,er]
  have ef:frm A i=f:=by unfold frm;rw[e,er]
  have e1:(encI ((List.range (2*X.N)).map X.s0))[f.toNat]? = some [Ql (X.s0 f.toNat)]:=by
   have:=KS (l:=(List.range (2*X.N)).map X.s0) (i:=f.toNat) (a:=X.s0 f.toNat) (by rw[QqU,Qra Q0];rfl);rwa [Qt]at this
  have hb:inB (List.length (encI ((List.range (2*X.N)).map X.s0))) f=some ():=XP hf.1 (by rw[QR];simp;omega);have hl:=Q5B X A fr i;have ih:=begP (k0:=k0) (fr:=fr) c m (i+1) Q0 Q0;rw[<- ih,X9,Qs aa,QqH,Qt,e,er,QbR,ek,ef];simp -implicitDefEqProofs only[Qh,QqE,QqI,Qj,hb,e1,QJ (show i<=1000 by omega),XI (show(List.length (Hu (bgF X A fr i))+List.length [[D.int .i64 (i:Int)]])*8<=100000 by rw[Fc];simp;omega),Q5a];cases (bif kd == 1 then X.s0 f.toNat == fr else false)with
  |true=>rfl
  |false=>
   rw[QqF,QqZ (λh=>nomatch h),QqX]
theorem Gd.begQ{R:Type}{fr:Int}(K:LL->oP R):Yj 400 A (encI ((List.range (2*X.N)).map X.s0)) fr K=K (Hu (bgF X A fr A.length)):=
 g.begP (k0:=λb c a=>K a) A.length 400 0 Q0 (by have:=g.len;omega)
def Psg(X:Cx)(A:LL)(l:List Nat):Prop:=∀j∈l,∃e,j∈lvF A A.length e
theorem Gd.bgPsg{fr:Int}:Psg X A (bgF X A fr A.length):=λj hj=>by
 obtain⟨a,h2,_⟩:=QaM.1 hj;obtain⟨r,_,_,_,_,_,_,h,_⟩:=g.at a;refine⟨(frm A j).toNat,Q9A.2 ⟨a,?_⟩⟩;unfold QaR;rw[h2];simp;omega
omit g in
theorem Qjs{e:Nat}:Psg X A (lvF A A.length e):=λj hj=>⟨e,hj⟩
variable{to:Int} {left:List Int} (hF:(X.sv per A tl to).Fin left) (hb:∀e,left.getD e 0<=792000)
include hF hb
theorem Gd.restAt{e j:Nat}(hj:j∈lvF A A.length e):Qi (encI left) (tto A j)=some [Ql (left.getD ((X.sv per A tl to).to j) 0)] /\ -1<=left.getD ((X.sv per A tl to).to j) 0/\left.getD ((X.sv per A tl to).to j) 0<=792000:=by
 have hl:left.length=2*X.N:=hF.lf.len;obtain⟨c,d,f,h,a,b,_⟩:=g.use hj (to:=to);refine⟨?_,?_,hb _⟩
 ·rw[<- b,Qt,Ah (by rw[hl];exact a)]
 ·have:=hF.lf.nn _ a;omega
theorem Gd.tightP{e j:Nat}(hj:j∈lvF A A.length e)(t:Int):Zl 400 A (A.map λr=>[Ql (Y9 tl per r)]) (encI left) (j:Int) t (some:Bool->oP Bool)=some ((X.sv per A tl to).tight left t j):=by
 obtain⟨a,f,h,i,k,l,_⟩:=g.use hj (to:=to);obtain⟨r,b,m,n,o,p,c,_⟩:=g.at a;obtain⟨d,h2,q⟩:=g.restAt hF hb hj;unfold Zl;rw[Qt,b,Qh,c,Qh,Qj,Qh,d,Qh,QqE,Qh,Qj,Qh,XP Q0 Q3,Qh,QqG,g.durAt a (to:=to),Qh,QqE,Qh,Qj,Qh,Qo (x:=(X.sv per A tl to).dur j+left.getD ((X.sv per A tl to).to j) 0) Q0 Q0];rfl
theorem Gd.least1{nx:List Nat}(hn:Psg X A nx)(ac:nx.length<=400):∀(aa:List Nat) (m i:Nat) (best:Int),nx.drop i=aa->aa.length<m->(best = -1\/∃a∈nx,(X.sv per A tl to).tight left best a=true) ->
  ∃b,(b = -1\/∃a∈nx,(X.sv per A tl to).tight left b a=true)/\X2 400 (encI left) (Hu nx) (nx.length:Int) (A.map λr=>[Ql (Y9 tl per r)]) A (λd n o=>(some d:oP Int)) m best (i:Int)=some b
 |[],m+1,i,best,hd,hm,hv=>by
  have:=ZI hd;refine⟨best,hv,?_⟩;rw[X2,show decide ((i:Int)<(nx.length:Int))=false by simpa using this,QqF]
 |j::aa,m+1,i,best,hd,hm,hv=>by
  obtain⟨e1,ak,an⟩:=Y8 hd;rw[Qr5]at hm;have am:=QqJ e1;obtain⟨e,hj⟩:=hn j am;obtain⟨c,p,q,s,t,u,_⟩:=g.use hj (to:=to);obtain⟨r,f,v,y,z,q5,h,_⟩:=g.at c;obtain⟨k,h2,h3⟩:=g.restAt hF hb hj;have l:inB (List.length (A.map λr=>[Ql (Y9 tl per r)])) (j:Int)=some ():=XP Q0 Q3;rw[X2,Qs an,QqH,Q6q e1];simp -implicitDefEqProofs only[Qh,QqE,Qj,Qt,f,h,k,l,QqG,g.durAt c (to:=to),QJ (show i<=1000 by omega)];rw[Qo (x:=(X.sv per A tl to).dur j+left.getD ((X.sv per A tl to).to j) 0) Q0 Q0];cases hc:(left.getD ((X.sv per A tl to).to j) 0 == -1)with
  |true=>rw[QqH];exact least1 hn ac aa m (i+1) best ak Q0 hv
  |false=>
   rw[QqF];have ht:(X.sv per A tl to).tight left ((X.sv per A tl to).dur j+left.getD ((X.sv per A tl to).to j) 0) j=true:=Sv.tight_iff.2 ⟨by simpa using hc,rfl⟩;cases (bif best == -1 then true else decide ((X.sv per A tl to).dur j+left.getD ((X.sv per A tl to).to j) 0<best))with
   |true=>rw[QqH];exact least1 hn ac aa m (i+1) _ ak Q0 (.inr ⟨j,am,ht⟩)
   |false=>rw[QqF];exact least1 hn ac aa m (i+1) best ak Q0 hv
theorem Gd.best1{R:Type}{k0:LL->Int->Int->LL->oP R}{k1:Int->Bool->oP R}{nx:List Nat}(hn:Psg X A nx)(ac:nx.length<=400){jr:List Nat}(aq:jr.length<=1000){t:Int}(c : -1<=t)(d:t<=1000000){a:Nat}:∀(aa:List Nat) (m i:Nat),nx.drop i=aa->aa.length<m->aa.find? ((X.sv per A tl to).tight left t)=some a ->
  Vu 400 (encI left) t (Hu nx) (nx.length:Int) (Hu jr) A (X.lvs A) (A.map λr=>[Ql (Y9 tl per r)]) k0 k1 m (i:Int)=k0 (Hu ((X.sv per A tl to).lv ((X.sv per A tl to).to a))) (t-(X.sv per A tl to).dur a) (a:Int) (Hu (jr++[a]))
 |[],m+1,i,hd,hm,hv=>nomatch hv
 |j::aa,m+1,i,hd,hm,hv=>by
  obtain⟨e1,ao,am⟩:=Y8 hd;rw[Qr5]at hm;have an:=QqJ e1;obtain⟨e,hj⟩:=hn j an;obtain⟨b,o,p,q,s,u,_⟩:=g.use hj (to:=to);obtain⟨r,f,v,y,z,q5,h,_⟩:=g.at b;rw[Vu,Qs am,QqH,Q6q e1,Qh,QqE,Qh,Qj,Qh,g.tightP hF hb hj,Qh];rw[List.find?_cons]at hv;cases hc:(X.sv per A tl to).tight left t j with
  |false=>
   rw[hc]at hv;rw[QqF,QJ Q0];exact best1 hn ac aq c d aa m (i+1) ao Q0 hv
  |true=>
   rw[hc]at hv;obtain rfl:j=a:=by simpa using hv
   have k:inB (List.length (A.map λr=>[Ql (Y9 tl per r)])) (j:Int)=some ():=XP Q0 Q3;have l:inB (List.length (X.lvs A)) (tto A j)=some ():=XP Q0 (by rw[Qa5];omega);have n:(X.lvs A)[(tto A j).toNat]? = some [.sl 1 (Hu (lvF A A.length (tto A j).toNat))]:=QcP Q0;rw[QqH];simp -implicitDefEqProofs only[Qh,QqE,Qj,Qt,f,h,k,l,n,X4,QqG,g.durAt b (to:=to),XI (show(List.length (Hu jr)+List.length [[D.int .i64 (j:Int)]])*8<=100000 by rw[Fc];simp;omega),Q5a];rw[Qo (x:=t-(X.sv per A tl to).dur j) Q0 Q0];rfl
end Cx
namespace Cx
variable{X:Cx} {per:Int} {Ch Sy A:LL} {tl:List Int} (g:X.Gd per Ch Sy A tl)
section
variable{to:Int} {left:List Int} (hF:(X.sv per A tl to).Fin left) (hb:∀e,left.getD e 0<=792000)
include g hF hb
theorem Gd.leastP{nx:List Nat}(hn:Psg X A nx)(ac:nx.length<400):∃b,(b = -1\/∃a∈nx,(X.sv per A tl to).tight left b a=true)/\Y4 400 A (A.map λr=>[Ql (Y9 tl per r)]) (encI left) (Hu nx) (some:Int->oP Int)=some b:=by
 unfold Y4;rw[Fc];exact g.least1 hF hb hn Q0 nx 400 0 (-1) rfl Q0 (.inl rfl)
theorem Gd.best2{R:Type}{K0:LL->oP R}:∀(m e:Nat) (j:List Nat),e<2*X.N->left.getD e 0=0->XL 400 (encI left) A (X.lvs A) (A.map λr=>[Ql (Y9 tl per r)]) (λ_ _ _ w=>K0 w) (m+1) (Hu (lvF A A.length e)) (left.getD e 0) (Hu j)=K0 (Hu j):=λm e j he a=>by
 rw[a,XL];rfl
theorem Gd.best3{R:Type}{k0:LL->Int->Bool->LL->oP R}{nx:List Nat}(hn:Psg X A nx)(ac:nx.length<400){m:Nat}{t:Int}{j:List Nat}{a:Nat}(b:0<t)(c:t<=1000000)(hj:j.length<=400)(hf:nx.find? ((X.sv per A tl to).tight left t)=some a):XL 400 (encI left) A (X.lvs A) (A.map λr=>[Ql (Y9 tl per r)]) k0 (m+1) (Hu nx) t (Hu j)=XL 400 (encI left) A (X.lvs A) (A.map λr=>[Ql (Y9 tl per r)]) k0 m (Hu (lvF A A.length ((X.sv per A tl to).to a))) (t-(X.sv per A tl to).dur a) (Hu (j++[a])):=by
 rw[XL,show decide (t>0)=true from QqR b,QqH,Fc];exact g.best1 hF hb hn Q0 Q0 Q0 c nx 400 0 rfl Q0 hf
theorem Gd.best4{R:Type}{K0:LL->oP R}{nx:List Nat}(hn:Psg X A nx)(ac:nx.length<400){t:Int}(b:0<t)(ht:∃a∈nx,(X.sv per A tl to).tight left t a=true):∃p,Sv.Way (X.sv per A tl to) left nx t p/\(p≠[]/\p.length<=40)/\XL 400 (encI left) A (X.lvs A) (A.map λr=>[Ql (Y9 tl per r)]) (λ_ _ _ w=>K0 w) 400 (Hu nx) t (Hu [])=K0 (Hu p):=by
 have hN:X.N<=6:=base_le g.ok;have hA:=g.len;obtain⟨x,hx,ak⟩:=ht;cases hf:nx.find? ((X.sv per A tl to).tight left t)with
 |none=>exact absurd ak (List.find?_eq_none.1 hf x hx)
 |some a=>
  have hm:=Qrb hf;have ai:=List.find?_some hf;obtain⟨b1,b2⟩:=Sv.tight_iff.1 ai;obtain⟨e,am⟩:=hn a hm;obtain⟨d,f,i,k,c,l,_⟩:=g.use am (to:=to);have aw:=hb ((X.sv per A tl to).to a);have an:=Sv.cnt_le (S:=X.sv per A tl to) (left:=left) (t:=left.getD ((X.sv per A tl to).to a) 0);have ar:(X.sv per A tl to).n=2*X.N:=rfl;obtain⟨p,hp,ao,hq⟩:=Sv.way_loop hF (g.alt (to:=to)) (B:=400)
   (r:=λm t nx j=>XL 400 (encI left) A (X.lvs A) (A.map λr=>[Ql (Y9 tl per r)]) (λ_ _ _ w=>K0 w) m (Hu nx) t (Hu j)) (K:=λj=>K0 (Hu j))
   (λm e j he h=>g.best2 hF hb m e j he h)
   (λm e j a he h hj hf=>g.best3 hF hb Qjs (Nat.lt_of_le_of_lt (Q6A A A.length e) hA) h (by have:=hb e;omega) Q0 hf)
   30 399 ((X.sv per A tl to).to a) [a] c (by split<;>omega) Q0 Q2 b1
  refine⟨a::p,⟨b,hm,ai,?_⟩,⟨by simp,by simp;omega⟩,?_⟩
  ·rw[show t-(X.sv per A tl to).dur a=left.getD ((X.sv per A tl to).to a) 0 by omega];exact hp
  ·rw[g.best3 hF hb hn ac b Q0 Q2 hf,show t-(X.sv per A tl to).dur a=left.getD ((X.sv per A tl to).to a) 0 by omega];exact hq
end
end Cx
end Go.Vx
namespace Go.Vx
variable{R:Type} (n:Nat)
def Sw(n:Nat)(b:LL)(h5 h6:Int)(k0:Qlo R):Nat->oP R
|0=>none
|m+1=>bif decide (h6<h5)then QkN R b h6 λa c=>Qc R a[2]? λe=>Qc R (pIw c) λf=>none else k0 (decide (h6<h5))
def Yh(f:LL)(c:Int)(g b h d i j:LL)(k0:oP R)(k1:Qlr R):Qls R
|0,_,_=>none
|m+1,k,a=>bif decide (a<c)then QkT R f a λo p q=>Qc R (pIw p) λr=>Qc R (Xz n g b h d j r some) λs=>Qc R (pIw o) λt=>Qc R (Yj n b i t some) λu=>Qc R (Y4 n b d s u some) λl=>bif l==(-1:Int)then k0 else Qc R (pIw q) λv=>Yh f c g b h d i j k0 k1 m (wJ (k+wJ (v*l))) (wJ (a+1))else k1 k a (decide (a<c))
def KO(f g h i:LL)(j:Int)(k l m o p q b a2:LL)(K:Qlq R):oP R:=gb true (XU n f g h i j k l m o p q b a2 (λd=>some (.inl d)) λd e c r s t r6 u v=>some (.inr (d,e,c,r,s,t,r6,u,v))) (.inl 0) λe=>smX e (λc=>bif c !=0 then K 0 c else Sw n b (b.length:Int) 0 (λy=>K 0 0) n) λa=>bif a.2.2.2.2.2.2.2.2 !=0 then K 0 a.2.2.2.2.2.2.2.2 else Yh n b (b.length:Int) a.2.1 a.2.2.1 a.2.2.2.1 a.2.2.2.2.1 a.2.2.2.2.2.1 a.2.2.2.2.2.2.1 (K 0 6) (λx z aa=>K x 0) n 0 0
end Go.Vx
namespace Go.Vx
namespace Cx
variable{X:Cx} {per:Int} {Ch Sy A:LL} {tl:List Int}
section
variable(g:X.Gd per Ch Sy A tl) {a0 a1 a3 a5:LL} {b:LL} {c d f:LL} (hbd:Wf 400 a0 a1 X.G.Se a3 per a5 X.Ro X.Ls b c d f Tu4=some (per,X.evs X.L,A,0)) (hfe:Y1 400 per (X.evs X.L) A (encI tl) (some:Bool->oP Bool)=some true)
structure Leg(X:Cx)(per:Int)(A:LL)(tl:List Int)(fr to:Int)(left:List Int)(b:Int):Prop where
 fin:(X.sv per A tl to).Fin left
 le:∀e,left.getD e 0<=792000
 rem:Xz 400 (X.evs X.L) A (X.lvs A) (A.map λr=>[Ql (Y9 tl per r)]) (encI ((List.range (2*X.N)).map X.s1)) to some=some (encI left)
 beg:Yj 400 A (encI ((List.range (2*X.N)).map X.s0)) fr some=some (Hu (bgF X A fr A.length))
 lst:Y4 400 A (A.map λr=>[Ql (Y9 tl per r)]) (encI left) (Hu (bgF X A fr A.length)) (some:Int->oP Int)=some b
 sgn:b = -1\/0<b/\∃a∈bgF X A fr A.length,(X.sv per A tl to).tight left b a=true
include g
theorem Gd.leg(fr to:Int):∃left b,X.Leg per A tl fr to left b:=by
 obtain⟨left,c,h2,d⟩:=g.remP to;have hA:=g.len;obtain⟨b,f,h5⟩:=g.leastP c h2 (g.bgPsg (fr:=fr)) (Nat.lt_of_le_of_lt (Q5B X A fr A.length) hA);refine⟨left,b,c,h2,d,g.begQ some,h5,f.imp id λ⟨a,ha,ht⟩=>⟨?_,a,ha,ht⟩⟩;obtain⟨b1,b2⟩:=Sv.tight_iff.1 ht;obtain⟨e,aa⟩:=g.bgPsg a ha;obtain⟨i,j,k,l,h,m,n⟩:=g.use aa (to:=to);have hk:=(QaM.1 ha).2.1;have:=c.lf.nn _ h;omega
include hbd hfe
theorem Gd.bestP{fr to:Int}(k:0<=fr)(l:fr<(a0.length:Nat))(t0:0<=to)(t1:to<(a0.length:Nat))(ft:fr≠to){left:List Int}{b':Int}(h:X.Leg per A tl fr to left b') :
  b' = -1/\ZZ 400 a0 a1 X.G.Se a3 per a5 X.Ro X.Ls b c d f (encI tl) fr to Tu3=some (0,[],6) \/
   0<b'/\∃p,Sv.Way (X.sv per A tl to) left (bgF X A fr A.length) b' p/\(p≠[]/\p.length<=40)/\ZZ 400 a0 a1 X.G.Se a3 per a5 X.Ro X.Ls b c d f (encI tl) fr to Tu3=some (b',Hu p,0):=by
 have hA:=g.len;have hc:Zk 400 (a0.length:Int) fr to (some:Int->oP Int)=some 0:=by
  unfold Zk;rw[QqO Q0,QqO Q0,QqO Q0,QqO Q0,show(fr == to)=false by simpa using ft];rfl
 have hb:∀x,ZZ 400 a0 a1 X.G.Se a3 per a5 X.Ro X.Ls b c d f (encI tl) fr to Tu3=x↔(bif (b' == (-1:Int))then some ((0:Int),[],(6:Int))else XL 400 (encI left) A (X.lvs A) (A.map λr=>[Ql (Y9 tl per r)]) (λm n o a=>some (b',a,(0:Int))) 400 (Hu (bgF X A fr A.length)) b' [])=x:=λx=>by
  unfold ZZ;rw[g.svcP hbd hfe,Qh];dsimp only[smX];rw[bne_self_eq_false,QqF,hc,Qh,bne_self_eq_false,QqF,h.rem,Qh,h.beg,Qh,h.lst,Qh]
 rcases h.sgn with e | ⟨e,ht⟩
 ·refine .inl ⟨e,(hb _).2 ?_⟩;rw[e];rfl
 ·refine .inr ⟨e,?_⟩;obtain⟨p,i,h2,j⟩:=g.best4 h.fin h.le (K0:=λw=>some (b',w,(0:Int))) (g.bgPsg (fr:=fr)) (Nat.lt_of_le_of_lt (Q5B X A fr A.length) hA) e ht;refine⟨p,i,h2,(hb _).2 ?_⟩;rw[show(b' == (-1:Int))=false by simp;omega,QqF];exact j
end
end Cx
end Go.Vx
namespace Go.Vx
variable{R:Type} (n:Nat)
def KN(K:Qlo R):oP R:=gb true (FG n Tu12) ([],[],[],[],0,[],[],[],[],[],[],[]) λa=>Qb R a.2.2.2.2.2.2.2.2.2.2.2 λg=>Qb R a.2.2.2.2.2.2.2.2.2.2.1 λh=>Qb R a.2.2.2.2.2.2.2.2.2.1 λi=>Qb R a.2.2.2.2.2.2.2.2.1 λj=>Qb R a.2.2.2.2.2.2.2.1 λk=>Qb R a.2.2.2.2.2.2.1 λl=>Qb R a.2.2.2.2.2.1 λo=>Qb R a.2.2.2.2.1 λp=>Qb R a.2.2.2.1 λq=>gb true (Ve n a.1 a.2.1 a.2.2.1 q p o l k j i h g (some (.inl ())) λb=>some (.inr b)) (.inl ()) λc=>smX c (λf=>gb true (ZZ n a.1 a.2.1 a.2.2.1 q p o l k j i h g [] 2 0 Tu3) (0,[],0) λd=>K (d.2.2==6)) λe=>gb true (ZZ n a.1 a.2.1 a.2.2.1 q p o l k j i h g e 2 0 Tu3) (0,[],0) λr6=>K (r6.2.2==6)
def Yt(h7:Int)(d e f g:LL)(h:Int)(i j k l o p b:LL)(k0:Int->Int->Int->Bool->oP R):Nat->Int->Int->Int->oP R
|0,_,_,_=>none
|m+1,h5,h6,a=>bif decide (a<h7)then QkG R b a λs=>QkL R b a λv=>gb true (ZZ n d e f g h i j k l o p b [] s v Tu3) (0,[],0) λc=>Qb R (wJ (a+1)) λx=>bif Q9 (c.2.2 !=0) (h6==0)then bif c.2.2==0 then Ql8 R b a λac=>Yt h7 d e f g h i j k l o p b k0 m (wJ (0+wJ (c.1*ac))) c.2.2 x else Yt h7 d e f g h i j k l o p b k0 m 0 c.2.2 x else bif h6==0 then Ql8 R b a λag=>Yt h7 d e f g h i j k l o p b k0 m (wJ (h5+wJ (c.1*ag))) h6 x else Yt h7 d e f g h i j k l o p b k0 m h5 h6 x else k0 h5 h6 a (decide (a<h7))
def QA(e:LL)(c:Int)(f g h i:LL)(j:Int)(k l o p q r b:LL)(k0:Int->Int->Int->Bool->oP R):Nat->Int->Int->Int->oP R
|0,_,_,_=>none
|m+1,t,s,a=>bif decide (a<c)then QkG R b a λx=>QkL R b a λaa=>gb true (ZZ n f g h i j k l o p q r b e x aa Tu3) (0,[],0) λd=>Qb R (wJ (a+1)) λab=>bif Q9 (d.2.2 !=0) (s==0)then bif d.2.2==0 then Ql8 R b a λah=>QA e c f g h i j k l o p q r b k0 m (wJ (0+wJ (d.1*ah))) d.2.2 ab else QA e c f g h i j k l o p q r b k0 m 0 d.2.2 ab else bif s==0 then Ql8 R b a λak=>QA e c f g h i j k l o p q r b k0 m (wJ (t+wJ (d.1*ak))) s ab else QA e c f g h i j k l o p q r b k0 m t s ab else k0 t s a (decide (a<c))
def law21_JourneysTotal(a0:LL)(K:Qlo R):oP R:=gb true (Su n a0 Tu12) ([],[],[],[],0,[],[],[],[],[],[],[]) λa=>Qb R a.2.2.2.2.2.2.2.2.2.2.2 λi=>Qb R a.2.2.2.2.2.2.2.2.2.2.1 λj=>Qb R a.2.2.2.2.2.2.2.2.2.1 λk=>Qb R a.2.2.2.2.2.2.2.2.1 λl=>Qb R a.2.2.2.2.2.2.2.1 λo=>Qb R a.2.2.2.2.2.2.1 λac=>Qb R a.2.2.2.2.2.1 λad=>Qb R a.2.2.2.2.1 λae=>Qb R a.2.2.2.1 λah=>Qb R a.2.2.1 λai=>gb true (Ve n a.1 a.2.1 ai ah ae ad ac o l k j i (some (.inl ())) λb=>some (.inr b)) (.inl ()) λc=>Qb R (a.2.2.2.2.2.2.2.2.2.2.2.length:Int) λag=>smX c (λf=>bif true then Qc R (KN 410 some) λd=>K d else Yt n ag a.1 a.2.1 ai ah ae ad ac o l k j i (λp q x y=>Qc R (KO n a.1 a.2.1 ai ah ae ad ac o l k j i [] Tu2) λg=>Qc R (KN 410 some) λr=>K (Q9 (Q9 r (g.1==p)) (g.2==q))) n 0 0 0) λe=>Qc R (neL e) λz=>bif false then Qc R (KN 410 some) λs=>K s else QA n e ag a.1 a.2.1 ai ah ae ad ac o l k j i (λt u aa ab=>Qc R (KO n a.1 a.2.1 ai ah ae ad ac o l k j i e Tu2) λh=>Qc R (KN 410 some) λv=>K (Q9 (Q9 v (h.1==t)) (h.2==u))) n 0 0 0
end Go.Vx
namespace Go.Vx
namespace Cx
variable{X:Cx} {per:Int} {Ch Sy A:LL} {tl:List Int}
section
variable(g:X.Gd per Ch Sy A tl) {a0 a1 a3 a5:LL} {b:LL} {c d f:LL} (hbd:Wf 400 a0 a1 X.G.Se a3 per a5 X.Ro X.Ls b c d f Tu4=some (per,X.evs X.L,A,0)) (hfe:Y1 400 per (X.evs X.L) A (encI tl) (some:Bool->oP Bool)=some true) (hD:∀row∈f,QgC a0.length row)
include g hbd hfe hD
theorem Gd.dem6:∀(aa:LL) (i m:Nat),f.drop i=aa->i<=f.length->f.length<=1000->aa.length<m->∀(k0:Int->Int->Int->Bool->oP Bool),QA 400 (encI tl) (f.length:Int) a0 a1 X.G.Se a3 per a5 X.Ro X.Ls b c d f k0 m 0 6 (i:Int)=k0 0 6 (f.length:Int) false
 |[],i,m+1,hd,ai,hl,hm,k0=>by
  have:=ZI hd;obtain rfl:i=f.length:=Q0
  rw[QA,Qy,QqF]
 |row::aa,i,m+1,hd,ai,hl,hm,k0=>by
  obtain⟨e,ak,ac⟩:=Y8 hd;rw[Qr5]at hm;obtain⟨fr,to,w,rfl,a,j,k,l,n⟩:=hD row (QqJ e);obtain⟨left,b',hL⟩:=g.leg fr to;have ih:=dem6 aa (i+1) m ak Q0 hl Q0 k0;rw[<- ih,QA,Qs ac,QqH,Qt,e];rcases g.bestP hbd hfe a.1 a.2 j.1 j.2 k hL with⟨_,h⟩|⟨_,p,_,_,h⟩
  all_goals
   simp -implicitDefEqProofs only[Qh,QqE,QqI,Qj,h,QJ (show i<=1000 by omega)];rfl
theorem Gd.dem{R:Type}{k0':oP R}{k1':Int->Int->Bool->oP R}:∀(aa:LL) (i m:Nat) (s:Int),f.drop i=aa->i<=f.length->f.length<=1000->aa.length<m ->
  ∃w e:Int,(∀(k0:Int->Int->Int->Bool->oP Bool),QA 400 (encI tl) (f.length:Int) a0 a1 X.G.Se a3 per a5 X.Ro X.Ls b c d f k0 m s 0 (i:Int)=k0 w e (f.length:Int) false) /\
   (e=0/\Yh 400 f (f.length:Int) (X.evs X.L) A (X.lvs A) (A.map λr=>[Ql (Y9 tl per r)]) (encI ((List.range (2*X.N)).map X.s0)) (encI ((List.range (2*X.N)).map X.s1)) k0' k1' m s (i:Int)=k1' w (f.length:Int) false \/
    e=6/\w=0/\Yh 400 f (f.length:Int) (X.evs X.L) A (X.lvs A) (A.map λr=>[Ql (Y9 tl per r)]) (encI ((List.range (2*X.N)).map X.s0)) (encI ((List.range (2*X.N)).map X.s1)) k0' k1' m s (i:Int)=k0')
 |[],i,m+1,s,hd,am,hl,hm=>by
  have:=ZI hd;obtain rfl:i=f.length:=Q0
  refine⟨s,0,λk0=>?_,.inl ⟨rfl,?_⟩⟩
  ·rw[QA,Qy,QqF]
  ·rw[Yh,Qy,QqF]
 |row::aa,i,m+1,s,hd,am,hl,hm=>by
  obtain⟨e,ai,ac⟩:=Y8 hd;rw[Qr5]at hm;obtain⟨fr,to,w,rfl,a,j,l,q,t⟩:=hD row (QqJ e);obtain⟨left,b',hL⟩:=g.leg fr to;have k:∀(k0:Int->Int->Int->Bool->oP Bool),QA 400 (encI tl) (f.length:Int) a0 a1 X.G.Se a3 per a5 X.Ro X.Ls b c d f k0 (m+1) s 0 (i:Int)=if b' = -1 then QA 400 (encI tl) (f.length:Int) a0 a1 X.G.Se a3 per a5 X.Ro X.Ls b c d f k0 m 0 6 ((i+1:Nat):Int)else QA 400 (encI tl) (f.length:Int) a0 a1 X.G.Se a3 per a5 X.Ro X.Ls b c d f k0 m (wJ (s+wJ (b'*w))) 0 ((i+1:Nat):Int):=λk0=>by
   rw[QA,Qs ac,QqH,Qt,e];rcases g.bestP hbd hfe a.1 a.2 j.1 j.2 l hL with⟨hb,h⟩|⟨hb,p,_,_,h⟩
   ·simp -implicitDefEqProofs only[Qh,QqE,QqI,Qj,h,QJ (show i<=1000 by omega)];rw[QqW hb];rfl
   ·simp -implicitDefEqProofs only[Qh,QqE,QqI,Qj,h,QJ (show i<=1000 by omega)];rw[QqZ Q0];rfl
  have h2:Yh 400 f (f.length:Int) (X.evs X.L) A (X.lvs A) (A.map λr=>[Ql (Y9 tl per r)]) (encI ((List.range (2*X.N)).map X.s0)) (encI ((List.range (2*X.N)).map X.s1)) k0' k1' (m+1) s (i:Int)=if b' = -1 then k0' else Yh 400 f (f.length:Int) (X.evs X.L) A (X.lvs A) (A.map λr=>[Ql (Y9 tl per r)]) (encI ((List.range (2*X.N)).map X.s0)) (encI ((List.range (2*X.N)).map X.s1)) k0' k1' m (wJ (s+wJ (b'*w))) ((i+1:Nat):Int):=by
   rw[Yh,Qs ac,QqH,Qt,e];simp -implicitDefEqProofs only[Qh,QqE,QqI,Qj,hL.rem,hL.beg,hL.lst,QJ (show i<=1000 by omega)];by_cases hb:b' = -1
   ·rw[QqW hb,show(b' == -1)=true by simpa using hb,QqH]
   ·rw[QqZ hb,show(b' == -1)=false by simpa using hb,QqF,Int.mul_comm w b']
  by_cases hb:b' = -1
  ·refine⟨0,6,λk0=>?_,.inr ⟨rfl,rfl,?_⟩⟩
   ·rw[k,QqW hb];exact g.dem6 hbd hfe hD aa (i+1) m ai Q0 hl Q0 k0
   ·rw[h2,QqW hb]
  ·obtain⟨w',e',n,o⟩:=dem (k0':=k0') (k1':=k1') aa (i+1) m (wJ (s+wJ (b'*w))) ai Q0 hl Q0;refine⟨w',e',λk0=>?_,?_⟩
   ·rw[k,QqZ hb];exact n k0
   ·rw[h2,QqZ hb];exact o
end
end Cx
theorem QcU:KN 410 (some:Bool->oP Bool)=some true:=by kernel_rfl
section
variable{n:Nat} {a0 a1 a2 a3:LL} {p:Int} {b1 b2 b3 b4 b5 b6 b7:LL}
theorem Q8Q{q:Int}{E A:LL}{e:Int}(hb:VT n a0 a1 a2 a3 p b1 b2 b3 b4 b5 b6 b7 Tu4=some (q,E,A,e))(h:e≠0\/∃us f,Zq n q E A 4000 (λa b=>some (.inl (a,b))) (λa b c=>some (.inr (a,b,c)))=some (.inl (us,f):(Int×Int) ⊕ (LL×Int×Int))) :
  Ve n a0 a1 a2 a3 p b1 b2 b3 b4 b5 b6 b7 (some (.inl ())) (λa=>some (.inr a))=some (.inl ():Unit ⊕ LL):=by
 unfold Ve;rw[hb,Qh];dsimp only;rcases h with h | ⟨us,f,h⟩
 ·rw[show(e != 0)=true by simpa using h,QqH]
 ·cases he:(e != 0)with
  |true=>rfl
  |false=>rw[QqF,h];rfl
theorem Qhx{q:Int}{E A:LL}{v:LL}{us:Int}(hb:VT n a0 a1 a2 a3 p b1 b2 b3 b4 b5 b6 b7 Tu4=some (q,E,A,0))(h:Zq n q E A 4000 (λa b=>some (.inl (a,b))) (λa b c=>some (.inr (a,b,c)))=some (.inr (v,us,0):(Int×Int) ⊕ (LL×Int×Int))) :
  Ve n a0 a1 a2 a3 p b1 b2 b3 b4 b5 b6 b7 (some (.inl ())) (λa=>some (.inr a))=some (.inr v:Unit ⊕ LL):=by
 unfold Ve;rw[hb,Qh];dsimp only;rw[bne_self_eq_false,QqF,h];rfl
end
theorem QdS{per:Int}{E A:LL}(p0:2<=per)(p1:per<=300)(hE:E.length<=48)(aa:A.length<=512)(ak:0<E.length)(hr:∀r∈A,R6 r)(hA:A.length<400):Y1 400 per E A [] (some:Bool->oP Bool)=some false:=by
 have hg:=(Qed p0 p1 hE aa hr hA (tl:=[])).1;have hb:Q3q per E A []=false:=by
  unfold Q3q;rw[show(((([]:List Int).length:Nat):Int) != (E.length:Int))=true by simp;omega];cases A.all (chk per E.length)<;>rfl
 rw[hb]at hg;unfold Y1 Gh;rw[show([]:LL)=encI []from rfl,hg];rfl
theorem QjF{n:Nat}{a0 a1 a2 a3:LL}{p:Int}{b1 b2 b3 b4 b5 b6 b7:LL}{q:Int}{E A:LL}{e:Int}(hb:Wf n a0 a1 a2 a3 p b1 b2 b3 b4 b5 b6 b7 Tu4=some (q,E,A,e))(h:e≠0\/Y1 n q E A [] (some:Bool->oP Bool)=some false) :
  ∃e:Int,e≠0/\∀(R:Type) (KA:Int->oP R) KB,XU n a0 a1 a2 a3 p b1 b2 b3 b4 b5 b6 b7 [] KA KB=KA e:=by
 by_cases he:e=0
 ·subst he;refine⟨1,by decide,λR KA KB=>?_⟩;unfold XU;rw[hb,Qh,bne_self_eq_false,QqF,h.resolve_left (λh=>h rfl),Qh];rfl
 ·refine⟨e,he,λR KA KB=>?_⟩;unfold XU;rw[hb,Qh,show(e != 0)=true by simpa using he,QqH]
theorem Qim{l:List Int}(hl:l.length<=9223372036854775807):∃(X:Cx) (per:Int) (Ch Sy De:LL),X.OK/\(∀row∈De,QgC X.G.St.length row)/\De.length<=2/\2<=X.G.St.length/\X.G.St.length<=3 /\
  Su 400 (encI l) Tu12=some (X.G.St,X.G.Pt,X.G.Se,X.G.Li,per,X.skR,X.Ro,X.Ls,Ch,X.T.map tuR,Sy,De) /\
  (Ve 400 X.G.St X.G.Pt X.G.Se X.G.Li per X.skR X.Ro X.Ls Ch (X.T.map tuR) Sy De (some (.inl ())) (λa=>some (.inr a))=some (.inl ():Unit ⊕ LL)/\(∃e:Int,e≠0/\∀(R:Type) (KA:Int->oP R) KB,XU 400 X.G.St X.G.Pt X.G.Se X.G.Li per X.skR X.Ro X.Ls Ch (X.T.map tuR) Sy De [] KA KB=KA e)/\(∃v,VT 400 X.G.St X.G.Pt X.G.Se X.G.Li per X.skR X.Ro X.Ls Ch (X.T.map tuR) Sy De Tu4=some v) \/
   ∃(A:LL) (tl:List Int),Ve 400 X.G.St X.G.Pt X.G.Se X.G.Li per X.skR X.Ro X.Ls Ch (X.T.map tuR) Sy De (some (.inl ())) (λa=>some (.inr a))=some (.inr (encI tl):Unit ⊕ LL)/\tl≠[]/\X.Gd per Ch Sy A tl /\
    Wf 400 X.G.St X.G.Pt X.G.Se X.G.Li per X.skR X.Ro X.Ls Ch (X.T.map tuR) Sy De Tu4=some (per,X.evs X.L,A,0) /\
    VT 400 X.G.St X.G.Pt X.G.Se X.G.Li per X.skR X.Ro X.Ls Ch (X.T.map tuR) Sy De Tu4=some (per,X.evs X.L,A,0) /\
    Y1 400 per (X.evs X.L) A (encI tl) (some:Bool->oP Bool)=some true/\PY 400 per (X.evs X.L) A (encI tl) (some:Bool->oP Bool)=some true/\Fs per tl A):=by
 have hp:Su 400 (encI l) Tu12∈(λr=>∃(G:Geo) (per:Int) (Sk Ro Ls Ch Tu Sy De:LL),PlanR G per Sk Ro Ls Ch Tu Sy De/\r=(G.St,G.Pt,G.Se,G.Li,per,Sk,Ro,Ls,Ch,Tu,Sy,De)):=QiW hl λG per Sk Ro Ls Ch Tu Sy De h=>okI ⟨G,per,Sk,Ro,Ls,Ch,Tu,Sy,De,h,rfl⟩
 obtain⟨_,hp,G,per,Sk,Ro,Ls,Ch,Tu,Sy,De,hR,rfl⟩:=hp;obtain⟨X,h,rfl,rfl,rfl,rfl,rfl⟩:=hR.cx;have ak:=hR.lsOK;have p0:2<=per:=by have:=hR.p0;omega
 have p1:=hR.p1;have hc:Jg 400 X.G.St X.G.Pt X.G.Se X.G.Li per X.skR X.Ro X.Ls Ch (X.T.map tuR) Sy De (some:Int->oP Int)=some 0:=QdT hR some;have x:Wg 400 X.G.St X.G.Pt X.G.Se X.G.Li per X.skR X.Ro X.Ls Ch (X.T.map tuR) Sy De (some:Int->oP Int)=some 0:=QiE hR;have hN:X.N<=6:=Cx.base_le h;have an:=Cx.buildP h ak p0 p1 hc;have aa:=Cx.buildR h ak p0 p1 x;have a4:=hR.ok.st;have y:=hR.ok.hN;refine⟨X,per,Ch,Sy,De,h,by rw[a4];exact hR.de,hR.del,Q0,Q0,hp,?_⟩;cases ev:X.netV per X.jns Ch Sy with
 |mk q r=>
 obtain⟨E,A,e⟩:=r;rw[ev]at an aa;by_cases he:e=0
 rotate_left
 ·exact .inl ⟨Q8Q aa (.inl he),QjF an (.inl he),_,aa⟩
 subst he;unfold Cx.netV at ev;cases ha:X.aloneJ per X.jns with
 |false=>
  rw[ha]at ev;cases ev
 |true=>
  rw[ha,QqH]at ev;cases eh:X.hdws per X.jns X.N 0 with
  |none=>
   rw[eh]at ev;cases ev
  |some H=>
   rw[eh]at ev;cases ev;have hH:=Cx.hdws_rows eh;have a8:=Cx.planned_len h ak;have a7:=Cx.hdws_len h p0 p1 Q0 eh;have hA:(X.planned Ch Sy++H).length<400:=by rw[Qr1];omega
   have ai:(X.evs X.L).length=2*X.N:=Cx.evs_len;have hE:(X.evs X.L).length<=48:=Q0
   have f:∀r∈X.planned Ch Sy++H,R6 r:=λr hr=>Cx.act_r6 h ak hH hr
   have a9:1<=X.N:=by
    have l0:=h.l0;have hn:=(Cx.line h (i:=0) Q0).2.1;have hb:=Sq (nr:=X.nr) (i:=0) (j:=X.L) (show 0<X.L by unfold Cx.L;omega);show 1<=base X.nr X.L;omega
   have ar:=QjF an (.inr (QdS p0 p1 hE Q0 Q0 f hA));have ao:=Qd6 p0 p1 hE Q0 f hA;cases ac:(X.planned Ch Sy++H).all (chk per (X.evs X.L).length)with
   |false=>
    rw[ac]at ao;exact .inl ⟨Q8Q aa (.inr (QfQ ao)),ar,_,aa⟩
   |true=>
    rw[ac]at ao;have am:=Qrj.1 ac;rcases Qi4 p0 p1 hE hA f am rfl ao with hf | ⟨v,us,hf,hT,hF⟩
    ·exact .inl ⟨Q8Q aa (.inr hf),ar,_,aa⟩
    ·refine .inr ⟨_,v,Qhx aa hf,?_,?_,an,aa,?_⟩
     ·intro hv;have u:=hT.1;rw[ai,hv]at u;have u:0=2*X.N:=u;omega
     ·exact⟨h,ak,p0,p1,⟨H,rfl,hH⟩,hA,by rw[hT.1,ai],hT.2,λr hr=>by have:=am r hr;rw[ai]at this;exact this⟩
     ·have hg:=Qed p0 p1 hE Q0 f hA (tl:=v);rw[QbF ac hT]at hg;have g:X.Gd per Ch Sy (X.planned Ch Sy++H) v:=⟨h,ak,p0,p1,⟨H,rfl,hH⟩,hA,by rw[hT.1,ai],hT.2,λr hr=>by have:=am r hr;rw[ai]at this;exact this⟩;exact⟨g.feas ai (hF.fs' f am) hg.1,hg.2,hF.fs' f am⟩
theorem Qeg{A B C:Type}(a:A)(f:A->C)(g:B->C):smX (.inl a) f g=f a:=rfl
theorem Q8N{A B C:Type}(b:B)(f:A->C)(g:B->C):smX (.inr b) f g=g b:=rfl
namespace Cx
variable{X:Cx} {per:Int} {Ch Sy A:LL} {tl:List Int}
end Cx
theorem totalA{l:List Int}(hl:l.length<=9223372036854775807):law21_JourneysTotal 400 (encI l) some=some true:=by
 obtain⟨X,per,Ch,Sy,De,h,hD,c,_,_,hp,ht⟩:=Qim hl;unfold law21_JourneysTotal;rw[hp,Qh];dsimp only;rcases ht with⟨ht,_⟩|⟨A,tl,ht,ai,g,ac,am,hf,_⟩
 ·rw[ht,Qh];rw[Qeg,QqH,QcU,Qh]
 ·rw[ht,Qh];obtain⟨x,xs,rfl⟩:∃x xs,tl=x::xs:=by
   cases tl with
   |nil=>exact absurd rfl ai
   |cons x xs=>exact⟨x,xs,rfl⟩
  rw[Q8N,show neL (encI (x::xs))=some ()from rfl,Qh,QqF];obtain⟨w,e,a,h2⟩:=g.dem ac hf hD (k0':=(some (0,6):oP (Int×Int))) (k1':=λb d f=>some (b,(0:Int))) De 0 400 0 rfl Q0 Q0 Q0;rw[show((0:Nat):Int)=0 from rfl]at a h2;rw[a];unfold KO;rw[g.svcP ac hf,Qh,Q8N];dsimp only;rw[bne_self_eq_false,QqF,QcU];rcases h2 with⟨rfl,h2⟩|⟨rfl,rfl,h2⟩
  ·rw[h2];simp[Qh]
  ·rw[h2];rfl
end Go.Vx
namespace Go.Vx
open Go.RowKit
structure OpAt(ops:Array Oper)(i:Nat)(dst:oP Nat)(op:Op):Prop where
 ex:∃o,ops[i]? = some o/\o.dst=dst/\o.op=op/\o.guard=none
theorem Q2a{ops:Array Oper}{i:Nat}{dst:oP Nat}{op:Op}(h:(ops[i]?).map (λo=>(o.dst,o.op,o.guard))=some (dst,op,none)):OpAt ops i dst op:=by
 obtain⟨o,h1,h2⟩:=Option.map_eq_some_iff.1 h;injection h2 with h2 h3
 injection h3 with h3 h4
 exact⟨o,h1,h2,h3,h4⟩
theorem HG{P:Program}{ops:Array Oper}{i:Nat}{o:Oper}{dst:oP Nat}(h1:ops[i]? = some o)(h2:o.dst=dst)(h4:o.guard=none){Q:Exit->Act->World->Prop}{K:Act->World->Prop}{a:Act}{w:World}{v:Value}{w':World}(hr:(execOp a.eval o).run P w = .ok (.value v) w')(hK:K (a.put dst v) w'):wpOp P ops Q i K a w:=by
 unfold wpOp;simp only[h1,Region.wanted,h4,if_true];left;unfold Oper.wp;rw[hr];subst h2;exact hK
theorem Q94{P:Program}{ops:Array Oper}{i:Nat}{o:Oper}(h1:ops[i]? = some o)(h2:o.dst=none)(h4:o.guard=none){Q:Exit->Act->World->Prop}{K:Act->World->Prop}{a:Act}{w w':World}(hr:(execOp a.eval o).run P w = .ok .skip w')(hK:K a w'):wpOp P ops Q i K a w:=by
 unfold wpOp;simp only[h1,Region.wanted,h4,if_true];left;unfold Oper.wp;rw[hr];show K (a.put o.dst undef) w';rw[h2];exact hK
def LI(ops:Array Oper)(i j:Nat):Bool:=match ops[i]? with
 |some o=>o.after.toList.any λe=>Region.binds .any e&&Nat.beq e.on j
 |none=>false
theorem Rw{ops:Array Oper}{listed:Array Bool}{i j:Nat}{o:Oper}(h:LI ops i j=true)(ho:ops[i]? = some o)(hp:Q2e listed o.after.toList):Lst listed j:=by
 unfold LI at h;rw[ho]at h;obtain⟨e,he,hb⟩:=List.any_eq_true.1 h;simp only[Qri]at hb;have:=hp e he hb.1;rwa [Nat.eq_of_beq_eq_true hb.2]at this
theorem TB{ops:Array Oper}{listed:Array Bool}{i j:Nat}(h:LI ops i j=true)(hc:Ld ops.toList listed)(hl:Lst listed i):Lst listed j:=by
 cases ho:ops[i]? with
 |none=>unfold LI at h;rw[ho]at h;cases h
 |some o=>exact Rw h ho (hc i o (by rw[Array.getElem?_toList];exact ho) hl)
theorem Uk(a:Act)(t:Nat):a.eval (.tmp t)=tmv a t:=rfl
structure NF(ops:Array Oper)(m iX iV iB iA iP base nt:Nat)(sty:TypeId):Prop where
 size:ops.size=m+1
 edge:Kr ops.toList 0=true
 dst:(ops.toList.take m).map (λo=>(o.dst,o.guard))=(List.range m).map λj=>(some (base+j),none)
 oA:OpAt ops iA (some (base+iA)) (.call { callee:=.builtin .append,args:=#[.tmp (base+iX),.tmp (base+iB)],argTypes:=#[sty,sty] })
 oS:OpAt ops m none (.store sty (.tmp (base+iP)) (.tmp (base+iA)))
 wS:((List.range m).all λj=>LI ops m j||(List.range m).any λk=>LI ops m k&&LI ops k j)=true
 wA:(LI ops iA iX&&LI ops iA iB&&LI ops iB iV)=true
 lt:iX<m/\iV<m/\iB<m/\iA<m/\iP<m/\iX≠iA/\iB≠iA/\iV≠iA/\iP≠iA/\iX≠iB/\base+m<=nt
structure NS where
 a0:Act
 ws:World
 val:Nat->Value
 x:Value
 u:Value
 B:Nat
 n:Nat
 k:Nat
 ety:TypeId
 xs:List Value
 vb:Nat
 pos:Nat
namespace NS
def w2(s:NS):World:=s.ws.alloc (.cells s.u.cells s.ety)
def Mid(s:NS)(x':Value)(w:World):Prop:=
 s.w2.grownBy w s.x.ownBlock/\w.ownsRow s.B s.ety s.k x' (s.n+1) (s.xs++s.u.cells.toList)/\(x'.ownBlock=s.x.ownBlock\/x'.ownBlock=some (s.ws.heap.size+1))
def Sf(s:NS)(w:World):Prop:=∀b,b<s.ws.heap.size->s.x.ownBlock≠some b->w.heap[b]? = s.ws.heap[b]?
theorem sf2(s:NS):s.Sf s.w2:=λb hb _=>YP s.ws _ hb
theorem sf3{s:NS}{x':Value}{w:World}(h:s.Mid x' w):s.Sf w:=λb hb hx=>by
 rw[h.1.block b (by simp[w2];omega) (λe=>hx e.symm)];exact sf2 s b hb hx
end NS
structure NJ(m iB iA base nt:Nat)(s:NS)(listed:Array Bool)(a:Act)(w:World):Prop where
 sz:a.tmps.size=nt
 df:a.defers=s.a0.defers
 old:∀t,t<base\/base+m<=t->tmv a t=tmv s.a0 t
 vals:∀j,j<m->j≠iA->Lst listed j->tmv a (base+j)=s.val j
 stage:(¬ Lst listed iB/\¬ Lst listed iA/\¬ Lst listed m/\w=s.ws)\/(Lst listed iB/\¬ Lst listed iA/\¬ Lst listed m/\w=s.w2)\/(Lst listed iA/\¬ Lst listed m/\s.Mid (tmv a (base+iA)) w) \/
  (Lst listed m/\∃x' w3,s.Mid x' w3/\w=w3.setCell ⟨s.vb,s.pos,none⟩ x')
section
variable{P:Program} {ops:Array Oper} {m iX iV iB iA iP base nt:Nat} {sty:TypeId} (F:NF ops m iX iV iB iA iP base nt sty) {s:NS}
include F
theorem NF.at{j:Nat}(hj:j<m):∃o,ops[j]? = some o/\o.dst=some (base+j)/\o.guard=none:=by
 have hl:j<ops.size:=by rw[F.size];omega
 have h:=congrArg (λl=>l[j]?) F.dst;simp only[QqU,List.getElem?_take,QqW hj,Array.getElem?_toList,Qra hj,Option.map_some]at h;rw[Array.getElem?_eq_getElem hl]at h ⊢;injection h with h
 injection h with h1 h2
 exact⟨_,rfl,h1,h2⟩
theorem NF.ws{j:Nat}(hj:j<m):LI ops m j=true\/∃k,LI ops m k=true/\LI ops k j=true:=by
 have h:=Qrj.1 F.wS j (Qr8.2 hj);simp only[Bool.or_eq_true,List.any_eq_true,Qri]at h;exact h.imp id λ⟨k,_,h⟩=>⟨k,h⟩
theorem NF.pre{listed:Array Bool}{o:Oper}(ho:ops[m]? = some o)(hp:Q2e listed o.after.toList)(hc:Ld ops.toList listed){j:Nat}(hj:j<m):Lst listed j:=by
 rcases F.ws hj with h | ⟨k,h1,h2⟩
 ·exact Rw h ho hp
 ·exact TB h2 hc (Rw h1 ho hp)
theorem NF.cl{listed:Array Bool}(hc:Ld ops.toList listed)(h0:Lst listed m){j:Nat}(hj:j<m):Lst listed j:=by
 rcases F.ws hj with h | ⟨k,h1,h2⟩
 ·exact TB h hc h0
 ·exact TB h2 hc (TB h1 hc h0)
theorem Q9F(hx:s.val iX=s.x)(hu:s.val iV=s.u)(hb:s.val iB = .slice (some ⟨s.ws.heap.size,0,none⟩) 1 1)(hp:s.val iP = .pointer (some ⟨s.vb,s.pos,none⟩))(bd:s.ws.ownsRow s.B s.ety s.k s.x s.n s.xs)(hB:s.B<=s.ws.heap.size)(hn:s.n<=1000000)(b3:s.x.ownBlock≠some s.vb){am:Array Value}{az:TypeId}(a2:s.ws.heap[s.vb]? = some (.cells am az (0,0)))(a9:s.pos<am.size){ti:TypeInfo}{z:Value}(bn:P.underlying sty=some (.slice s.ety))(hi:P.info? s.ety=some ti)(hz:ti.zero=some z)(bl:ti.size=s.k)(bo:z.cells.size=s.k)(hk:0<s.k)(bq:ti.bytes<=100)(bz:s.u.cells.size=s.k)(b2:∀v∈s.u.cells.toList,v.oneCell'=true){tS:TyI}(hS:TyOk P sty tS)(b6:tS.size=1)(ax:∀(a:Act) (o:Oper),a.eval (.tmp (base+iV))=s.u->ops[iB]? = some o->(execOp a.eval o).run P s.ws = .ok (.value (.slice (some ⟨s.ws.heap.size,0,none⟩) 1 1)) s.w2)(hq:∀j,j<m->j≠iB->j≠iA->∀(a:Act) (w:World) (o:Oper),ops[j]? = some o->(∀t,t<base->a.eval (.tmp t)=tmv s.a0 t)->(∀i,i<m->i≠iA->LI ops j i=true->a.eval (.tmp (base+i))=s.val i)->s.Sf w->(execOp a.eval o).run P w = .ok (.value (s.val j)) w){Q:Exit->Act->World->Prop}(listed:Array Bool)(a:Act)(w:World)(i:Nat)(o:Oper)(b0:listed.size=ops.size)(hc:Ld ops.toList listed)(hJ:NJ m iB iA base nt s listed a w)(ho:ops[i]? = some o)(aw:¬ Lst listed i)(aq:Q2e listed o.after.toList) :
  wpOp P ops Q i (λa' w'=>NJ m iB iA base nt s (listed.setIfInBounds i true) a' w') a w:=by
 obtain⟨l1,l2,l3,l4,l5,l6,l7,l8,l9,ck,cv⟩:=F.lt;have ar:=F.wA;simp only[Qri]at ar;have bv:i<m+1:=by have:=(Array.getElem?_eq_some_iff.1 ho).1;rwa [F.size]at this
 have ca:i<listed.size:=by rw[b0,F.size];exact bv
 have aa:∀j,Lst (listed.setIfInBounds i true) j↔j=i\/Lst listed j:=λj=>SQ ca
 by_cases e:i=m
 ·subst e;have ao:∀j,j<i->Lst listed j:=λj hj=>F.pre ho aq hc hj
  obtain⟨o',p1,p2,p3,p4⟩:=F.oS.ex;obtain rfl:o=o':=by rw[ho]at p1;injection p1
  have hm:s.Mid (tmv a (base+iA)) w:=by
   rcases hJ.stage with⟨h,_⟩|⟨_,h,_⟩|⟨_,_,h⟩|⟨h,_⟩
   ·exact absurd (ao iB l3) h
   ·exact absurd (ao iA l4) h
   ·exact h
   ·exact absurd h aw
  have bh:s.vb<s.ws.heap.size:=(Array.getElem?_eq_some_iff.1 a2).1;have bb:w.heap[s.vb]? = some (.cells am az (0,0)):=(NS.sf3 hm s.vb bh b3).trans a2;have a6:(tmv a (base+iA)).oneCell'=true/\(tmv a (base+iA)).cells = #[tmv a (base+iA)]:=by
   rcases hm.2.1.2 with⟨h,_⟩|⟨g,cap,cu,h,_⟩<;>rw[h]<;>exact⟨rfl,rfl⟩
  have br:w.frozen? ⟨s.vb,s.pos,none⟩=false:=frozen_of_row w s.vb s.pos am az bb;have b7:w.cell? ⟨s.vb,s.pos,none⟩=some am[s.pos]:=by rw[cell_of_row w s.vb s.pos am az (0,0) bb,Array.getElem?_eq_getElem a9]
  have bc:(storeCells ⟨s.vb,s.pos,none⟩ (tmv a (base+iA)).cells.toList).run P w = .ok () (w.setCell ⟨s.vb,s.pos,none⟩ (tmv a (base+iA))):=by
   rw[a6.2];have ay:=run_store P w ⟨s.vb,s.pos,none⟩ (tmv a (base+iA)) .plain a6.1;simp only[stored,b7,br]at ay;simp[storeCells,Jy,Sem.run_bind,ay,Result.andThen_ok]
  refine Q94 ho p2 p4 (Pn p3 (ad:=⟨s.vb,s.pos,none⟩) ?_ (Pa hS (by rw[Uk,a6.2,b6];rfl) bc)) ?_
  ·rw[Uk,hJ.vals iP l5 l9 (ao iP l5),hp]
  ·exact⟨hJ.sz,hJ.df,hJ.old,λj hj ak hl=>hJ.vals j hj ak (((aa j).1 hl).resolve_left Q0),.inr (.inr (.inr ⟨(aa i).2 (.inl rfl),_,w,hm,rfl⟩))⟩
 have a3:i<m:=Q0
 have an:¬ Lst listed m:=λh=>aw (F.cl hc h a3)
 have ai:∀(v:Value) (t:Nat),tmv (a.put (some (base+i)) v) t=if t=base+i then v else tmv a t:=λv t=>Aj (by rw[hJ.sz];omega) t
 have a5:¬ Lst (listed.setIfInBounds i true) m:=λh=>an (((aa m).1 h).resolve_left Q0)
 have mk:∀(v:Value) (w':World),(i≠iA->v=s.val i)->((¬ Lst (listed.setIfInBounds i true) iB/\¬ Lst (listed.setIfInBounds i true) iA/\w'=s.ws)\/(Lst (listed.setIfInBounds i true) iB/\¬ Lst (listed.setIfInBounds i true) iA/\w'=s.w2)\/(Lst (listed.setIfInBounds i true) iA/\s.Mid (tmv (a.put (some (base+i)) v) (base+iA)) w')) ->
   NJ m iB iA base nt s (listed.setIfInBounds i true) (a.put (some (base+i)) v) w':=λv w' hv ay=>by
  refine⟨by simp[Act.put,hJ.sz],hJ.df,λt ht=>?_,λj hj ak hl=>?_,?_⟩
  ·rw[ai,QqZ Q0];exact hJ.old t ht
  ·rw[ai];by_cases ej:j=i
   ·subst ej;rw[QqW rfl];exact hv ak
   ·rw[QqZ Q0];exact hJ.vals j hj ak (((aa j).1 hl).resolve_left ej)
  ·rcases ay with⟨h1,h2,h3⟩|⟨h1,h2,h3⟩|⟨h1,h2⟩
   ·exact .inl ⟨h1,h2,a5,h3⟩
   ·exact .inr (.inl ⟨h1,h2,a5,h3⟩)
   ·exact .inr (.inr (.inl ⟨h1,a5,h2⟩))
 obtain⟨o',q1,q2,q3⟩:=F.at a3;obtain rfl:o=o':=by rw[ho]at q1;injection q1
 by_cases eB:i=iB
 ·subst eB;have hw:w=s.ws/\¬ Lst listed iA:=by
   rcases hJ.stage with⟨_,h1,_,h2⟩|⟨h,_⟩|⟨h,_⟩|⟨h,_⟩
   ·exact⟨h2,h1⟩
   ·exact absurd h aw
   ·exact absurd (TB ar.1.2 hc h) aw
   ·exact absurd h an
  obtain⟨rfl,hA⟩:=hw;exact HG ho q2 q3 (ax a o (by rw[Uk,hJ.vals iV l2 l8 (Rw ar.2 ho aq),hu]) ho) (mk _ _ (λ_=>hb.symm) (.inr (.inl ⟨(aa _).2 (.inl rfl),λh=>hA (((aa _).1 h).resolve_left (λe=>l7 e.symm)),rfl⟩)))
 by_cases eA:i=iA
 ·subst eA;have a8:=Rw ar.1.2 ho aq;have bp:=Rw ar.1.1 ho aq;have hw:w=s.w2:=by
   rcases hJ.stage with⟨h,_⟩|⟨_,_,_,h⟩|⟨h,_⟩|⟨h,_⟩
   ·exact absurd a8 h
   ·exact h
   ·exact absurd h aw
   ·exact absurd h an
  subst hw;obtain⟨o',p1,p2,p3,p4⟩:=F.oA.ex;obtain rfl:o=o':=by rw[ho]at p1;injection p1
  have b5:s.ws.grownBy s.w2 none:=World.grownBy_alloc _ _ none;have a4:s.w2.ownsRow s.B s.ety s.k s.x s.n s.xs:=bd.kept b5 (Classical.em _);have b4:s.u.cells.toList.length=s.k:=by simp[bz]
  have bi:∀(j:Nat) (v:Value),s.u.cells.toList[j]? = some v->s.w2.cell? ((⟨s.ws.heap.size,0,none⟩:Addr).add j)=some v:=World.news_of_block (heap_alloc_new _ _);have ba:s.w2.heap.size=s.ws.heap.size+1:=by simp[NS.w2]
  obtain⟨v',w',g1,g2,g3,_,g5⟩:=run_append_own_at (P:=P) s.w2 s.B sty o.type s.ety ti z s.k ti.bytes bn hi hz bl rfl bo hk s.x s.n s.xs a4 ⟨s.ws.heap.size,0,none⟩ 1 1 s.u.cells.toList (by rw[b4,Nat.one_mul]) bi b2 (by unfold maxLen;omega)
   (by have:=Nat.mul_le_mul (show s.n+1<=1000001 by omega) bq;omega) Q0
  refine HG ho q2 q3 (GD p3 rfl rfl rfl (v':=v') (w':=w') ?_) (mk _ _ (λh=>absurd rfl h) (.inr (.inr ⟨(aa _).2 (.inl rfl),?_⟩)))
  ·rw[Uk,Uk,hJ.vals iX l1 l6 bp,hJ.vals iB l3 l7 a8,hx,hb];exact g1
  ·rw[ai,QqW rfl];exact⟨g3,g2,g5.imp id λh=>by rw[h,ba]⟩
 ·refine HG ho q2 q3 (hq i a3 eB eA a w o ho (λt ht=>by rw[Uk];exact hJ.old t (.inl ht)) (λj hj ak hw=>by rw[Uk];exact hJ.vals j hj ak (Rw hw ho aq)) ?_) (mk _ _ (λ_=>rfl) ?_)
  ·rcases hJ.stage with⟨_,_,_,rfl⟩|⟨_,_,_,rfl⟩|⟨_,_,h⟩|⟨h,_⟩
   ·exact λ_ _ _=>rfl
   ·exact NS.sf2 s
   ·exact NS.sf3 h
   ·exact absurd h an
  ·have b8:Lst (listed.setIfInBounds i true) iB↔Lst listed iB:=by rw[aa];exact⟨λh=>h.resolve_left (λe=>eB e.symm),.inr⟩
   have b9:Lst (listed.setIfInBounds i true) iA↔Lst listed iA:=by rw[aa];exact⟨λh=>h.resolve_left (λe=>eA e.symm),.inr⟩
   rw[b8,b9,ai,QqZ Q0];rcases hJ.stage with⟨h1,h2,_,h3⟩|⟨h1,h2,_,h3⟩|⟨h1,_,h2⟩|⟨h,_⟩
   ·exact .inl ⟨h1,h2,h3⟩
   ·exact .inr (.inl ⟨h1,h2,h3⟩)
   ·exact .inr (.inr ⟨h1,h2⟩)
   ·exact absurd h an
theorem AW(hm:P.follows .mixedOrders=true){id:Nat}(a8:s.a0.tmps.size=nt)(hx:s.val iX=s.x)(hu:s.val iV=s.u)(hb:s.val iB = .slice (some ⟨s.ws.heap.size,0,none⟩) 1 1)(hp:s.val iP = .pointer (some ⟨s.vb,s.pos,none⟩))(ai:s.ws.ownsRow s.B s.ety s.k s.x s.n s.xs)(hB:s.B<=s.ws.heap.size)(hn:s.n<=1000000)(ay:s.x.ownBlock≠some s.vb){am:Array Value}{a3:TypeId}(an:s.ws.heap[s.vb]? = some (.cells am a3 (0,0)))(ak:s.pos<am.size){ti:TypeInfo}{z:Value}(a6:P.underlying sty=some (.slice s.ety))(hi:P.info? s.ety=some ti)(hz:ti.zero=some z)(a2:ti.size=s.k)(a7:z.cells.size=s.k)(hk:0<s.k)(a4:ti.bytes<=100)(a5:s.u.cells.size=s.k)(ax:∀v∈s.u.cells.toList,v.oneCell'=true){tS:TyI}(hS:TyOk P sty tS)(az:tS.size=1)(aa:∀(a:Act) (o:Oper),a.eval (.tmp (base+iV))=s.u->ops[iB]? = some o->(execOp a.eval o).run P s.ws = .ok (.value (.slice (some ⟨s.ws.heap.size,0,none⟩) 1 1)) s.w2)(hq:∀j,j<m->j≠iB->j≠iA->∀(a:Act) (w:World) (o:Oper),ops[j]? = some o->(∀t,t<base->a.eval (.tmp t)=tmv s.a0 t)->(∀i,i<m->i≠iA->LI ops j i=true->a.eval (.tmp (base+i))=s.val i)->s.Sf w->(execOp a.eval o).run P w = .ok (.value (s.val j)) w){w0:World}(a9:s.ws={ w0 with drawn:=w0.drawn+1 }){Q:Exit->Act->World->Prop}(hQ:∀a' x' w3,a'.tmps.size=nt->a'.defers=s.a0.defers->(∀t,t<base\/base+m<=t->tmv a' t=tmv s.a0 t)->s.Mid x' w3->Q .normal a' (w3.setCell ⟨s.vb,s.pos,none⟩ x')):(Code.region id ops true).wp P Q s.a0 w0:=by
 refine Q8a (J:=NJ m iB iA base nt s) hm F.edge (Q9F F hx hu hb hp ai hB hn ay an ak a6 hi hz a2 a7 hk a4 a5 ax hS az aa hq) (λlisted a' w' hJ ao=>?_) ⟨a8,rfl,λ_ _=>rfl,λj _ _ hl=>?_,.inl ⟨?_,?_,?_,a9.symm⟩⟩
 ·have ac:Lst listed m:=ao m (by rw[F.size];omega);rcases hJ.stage with⟨_,_,h,_⟩|⟨_,_,h,_⟩|⟨_,h,_⟩|⟨_,x',w3,h1,rfl⟩
  ·exact absurd ac h
  ·exact absurd ac h
  ·exact absurd ac h
  ·exact hQ a' x' w3 hJ.sz hJ.df hJ.old h1
 ·exact absurd hl (by unfold Lst;simp[Array.getD])
 all_goals unfold Lst;simp[Array.getD]
end
end Go.Vx
namespace Go.Vx
open Go.RowKit Go.Maps Go.WideMaps
theorem Yn{P:Program}{f:Nat}{e:PI}(hE:VH P f e){aa:List AV}{dl:Dl}(h:e Dl 0 true aa (λ_=>none) some=some dl):ZX P f aa (λ_=>none) dl:=by
 obtain⟨d,k1,a⟩:=hE Dl 0 true aa _ some dl h;cases k1;exact a rfl
theorem Bj{P:Program}{f:Nat}{aa:List AV}{hl:Nat->oP Ob}{av:AV}(h:ZX P f aa hl ⟨av,[],[]⟩){S:Nat->Prop}{w:World}(hS:∀b,S b->b<w.heap.size){args:List Value}(hA:ArgsRd (λ_=>none) S (λ_=>none) w args aa) :
  Calls P f args.toArray w λe w'=>∃v S',e = .returned v/\RdA (λ_=>none) S' (λ_=>none) w' tm0 v av/\RowKit.Below w.heap.size w w':=by
 refine(h.2 (λ_=>none) S (λ_=>none) w args ⟨λl o h=>(by cases h),λl l' b h=>(by cases h),λl b h=>(by cases h),hS⟩ hA (λl hl=>(by rcases hl with hl | hl<;>simp[wrL]at hl))).mono λe w' ⟨v,β',S',he,hc⟩=>?_
 have hβ:β'=λ_=>none:=funext λl=>hc.bsame l (by simp[wrL])
 subst hβ;refine⟨v,S',he,?_,⟨hc.fr.os,hc.fr.tape,hc.fr.output,hc.fr.size,λb hb=>hc.fr.block b hb (λ⟨l,a,_⟩=>by simp[wrL]at a)⟩⟩;exact hc.res.mono (λ_ h=>h) (λ_ _=>rfl) (λl _=>⟨rfl,λh=>h,λe s rows h=>(by cases h),λb cs ty fz h=>(by cases h),λt f h=>(by cases h)⟩) (λ_ _=>rfl)
theorem Sm{P:Program}{f:Nat}{aa:List AV}{hl:Nat->oP Ob}{r:Bool}(h:ZX P f aa hl ⟨.d (D.bool r),[],[]⟩){S:Nat->Prop}{w:World}(hS:∀b,S b->b<w.heap.size){args:List Value}(hA:ArgsRd (λ_=>none) S (λ_=>none) w args aa) :
  Calls P f args.toArray w λe w'=>e = .returned (.bool r)/\RowKit.Below w.heap.size w w':=by
 refine(Bj h hS hA).mono λe w' ⟨v,S',he,hr,hb⟩=>⟨?_,hb⟩
 cases hr with
 |d v x hx=>cases hx;exact he
 |dang v av l hl=>cases hl
theorem GH{P:Program}{f:Nat}{aa:List AV}{hl:Nat->oP Ob}{k:IntKind}{r:Int}(h:ZX P f aa hl ⟨.d (D.int k r),[],[]⟩){S:Nat->Prop}{w:World}(hS:∀b,S b->b<w.heap.size){args:List Value}(hA:ArgsRd (λ_=>none) S (λ_=>none) w args aa) :
  Calls P f args.toArray w λe w'=>e = .returned (.int k r)/\RowKit.Below w.heap.size w w':=by
 refine(Bj h hS hA).mono λe w' ⟨v,S',he,hr,hb⟩=>⟨?_,hb⟩
 cases hr with
 |d v x hx=>cases hx;exact he
 |dang v av l hl=>cases hl
def Q3g(w:World)(P:Program)(b n:Nat)(aa:List (List UInt8)):Prop:=
 ∃D:DataW Unit,w.ownsMap P 9 (plainElem P 4) b n D/\Go.Maps.IsMap D/\∀s,D.atKey (.string s) (.lit (.bool false)) = .lit (.bool (aa.contains s))
theorem Q3g.made(P:Program)(w:World):Q3g (w.alloc (.map #[] 0)) P w.heap.size 0 []:=
 ⟨.map [],World.ownsMap_made w P 9 _,Go.Maps.isMap_empty,λs=>rfl⟩
section
variable{P:Program} (h9:P.underlying 9=some .string) (h4:P.underlying 4=some .bool) {T:TypeId} (hT:P.underlying T=some (.map 9 4))
include h9 h4 hT
theorem Q3g.lookup{w:World}{b n:Nat}{aa:List (List UInt8)}(h:Q3g w P b n aa)(hz:(zeroValue 4).run P w = .ok (.bool false) w){s:List UInt8}(hs:s.length<=maxLen) :
  (Instr.lookup T (.map (some b)) (.string ⟨⟨s⟩⟩) false).run P w = .ok (.bool (aa.contains s)) w:=by
 obtain⟨D,hD,_,hat⟩:=h;obtain⟨v,ps,ac,hv⟩:=hD.lookup (string_keyed h9) hT hz (zd:=.lit (.bool false)) (zp:=[]) (plainElem_bool h4 false) (keyOf_string_mk (s:=⟨⟨s⟩⟩) h9 hs);have e:=hat s;simp only at hv;rw[e]at hv;unfold plainElem at hv;rw[h4]at hv;cases v<;>simp at hv;rw[ac,hv.1];simp
theorem Q3g.update{w:World}{b n:Nat}{aa:List (List UInt8)}(h:Q3g w P b n aa)(hn:n<maxLen){s:List UInt8}(hs:s.length<=maxLen) :
  ∃w',(Instr.mapUpdate T (.map (some b)) (.string ⟨⟨s⟩⟩) (.bool true)).run P w = .ok () w'/\Q3g w' P b (n+1) (s::aa)/\w.grownBy w' (some b):=by
 obtain⟨D,hD,hm,hat⟩:=h;obtain⟨w',ai,ac,hg⟩:=hD.update (string_keyed h9) hT hn (keyOf_string_mk (s:=⟨⟨s⟩⟩) h9 hs) (plainElem_bool (H:=Unit) h4 true);refine⟨w',ai,⟨_,ac,hm.put _ _,λt=>?_⟩,hg⟩;have hk:WideAt.IsKeyLit (.string s):=(string_keyed h9).key (keyOf_string_mk (s:=⟨⟨s⟩⟩) h9 hs);by_cases e:t=s
 ·subst e;rw[show(ByteArray.mk ⟨t⟩).data.toList=t from rfl,Go.Maps.atKey_put_same hm hk];simp
 ·rw[show(ByteArray.mk ⟨s⟩).data.toList=s from rfl,Go.Maps.atKey_put_other (by simpa using e),hat t];simp[e]
end
theorem Q3g.kept{P:Program}{w w':World}{b n:Nat}{aa:List (List UInt8)}{row:oP Nat}(h:Q3g w P b n aa)(hg:w.grownBy w' row)(ac:some b≠row):Q3g w' P b n aa:=by
 obtain⟨D,hD,hm,hat⟩:=h;exact⟨D,hD.kept hg ac,hm,hat⟩
theorem Q3g.lt{P:Program}{w:World}{b n:Nat}{aa:List (List UInt8)}(h:Q3g w P b n aa):b<w.heap.size:=by
 obtain⟨D,hD,hm,hat⟩:=h;exact hD.lt
theorem Wn{w w':World}(h:RowKit.Below w.heap.size w w'):w.grownBy w' none:=⟨h.os,h.tape,h.output,h.size,λb hb _=>h.block b hb⟩
def Gu:Code->List Code
 |.region i o d=>[.region i o d]
 |.loop c=>Gu c
 |.seq a b=>Gu a++Gu b
 |.block _ c=>Gu c
 |.scope c=>Gu c
 |.cond _ a b=>Gu a++Gu b
 |_=>[]
def Q6Y(Q:Act->World->Prop):Exit->Act->World->Prop
 |.normal,a,w=>Q a w
 |_,_,_=>False
theorem Ln {P : Program} {f : Nat} {fn : Func} (hf : P.funcs[f]? = some fn) (hb : fn.body.isSome = true) (hn : (fn.name == "runtime.NumGoroutine") = false) {avs : List AV} {av : AV} {hl : Nat -> oP Ob} {rd : List Nat} (hlf : lf av = true) (hA : lfL avs = true)
  (h:∀(S:Nat->Prop) (w:World) (args:List Value),(∀b,S b->b<w.heap.size)->ArgsRd (λ_=>none) S (λ_=>none) w args avs->Calls P f args.toArray w λe w'=>∃(v:Value) (S':Nat->Prop),e = .returned v/\(∀b,S b->S' b)/\(∀b,S' b->S b\/w.heap.size<=b)/\(∀b,S' b->b<w'.heap.size) /\
   RdA (λ_=>none) S' (λ_=>none) w' tm0 v av/\RowKit.Below w.heap.size w w'):ZX P f avs hl ⟨av,[],rd⟩:=by
 refine⟨⟨fn,hf,hb,hn⟩,λβ S h' w args hO hAr _=>?_⟩;refine(h S w args hO.sb ⟨hAr.1,λi v av' a h2=>FE (Q1h hA h2) (λ_ h=>h) (λ_ _=>rfl) (hAr.2 i v av' a h2)⟩).mono λe w' ⟨v,S',he,hs,hsf,hsb,hr,hbel⟩=>?_
 refine⟨v,β,S',he,⟨hs,λb hS=>(hsf b hS).elim .inl λh=>.inr (.inl h),hsb,Q6i hbel,λ_ _=>rfl,λl o hl'=>by simp[wrL]at hl',λl hl'=>by simp[wrL]at hl',λl b hl'=>by simp[wrL]at hl',λl l' b hl'=>by simp[wrL]at hl',λl hl'=>by simp[wrL]at hl',?_,λt=>Q54 t _ hlf⟩⟩;exact FE hlf (λ_ h=>h) (λ_ _=>rfl) hr
end Go.Vx
