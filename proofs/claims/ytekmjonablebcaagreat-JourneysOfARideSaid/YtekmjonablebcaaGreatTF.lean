/- Part of a proof. No conditions of their own. -/
import Derived.Test.YtekmjonablebcaaGreatTE
import Derived.Test.YtekmjonablebcaaGreatTD
import Derived.Test.YtekmjonablebcaaGreatTB
import Derived.Test.YtekmjonablebcaaGreatTA
set_option linter.unusedVariables false
set_option linter.unusedSimpArgs false
set_option linter.unusedSectionVars false
noncomputable section
abbrev Qr9:=@List.getElem?_cons_zero
abbrev Qra:=@cond_false
abbrev Qrb:=@Int.toNat_natCast
abbrev Qrc:=@cond_true
abbrev Qrd:=@List.getElem?_cons_succ
abbrev Qre:=@List.getElem?_eq_getElem
abbrev Qrf:=@List.mem_of_getElem?
abbrev Qrg:=@List.length_map
abbrev Qrh:=@List.getD_eq_getElem?_getD
abbrev Qri:=@decide_eq_false
abbrev Qrj:=@List.mem_append
abbrev Qrk:=@decide_eq_true
abbrev Qrl:=@List.append_assoc
abbrev Qrm:=@List.map_append
abbrev Qrn:=@Bool.not_true
abbrev Qro:=@List.mem_append_left
abbrev Qrp:=@List.mem_singleton
abbrev Qrq:=@Int.emod_lt_of_pos
abbrev Qrr:=@List.getElem?_eq_none
abbrev Qrs:=@List.mem_map
abbrev Qrt:=@Int.emod_nonneg
abbrev Qru:=@List.append_nil
abbrev Qrv:=@List.getElem?_map
abbrev Qrw:=@List.set_cons_zero
abbrev Qrx:=@if_pos
abbrev Qry:=@List.getElem?_eq_some_iff
abbrev Qrz:=@if_neg
abbrev QrA:=@List.length_append
abbrev QrB:=@List.pairwise_cons
abbrev QrC:=@Bool.not_false
abbrev QrD:=@List.length_cons
abbrev QrE:=@List.take_length
abbrev QrF:=@List.mem_append_right
abbrev QrG:=@List.mem_range
abbrev QrH:=@List.getElem?_range
abbrev QrI:=@List.mem_cons
abbrev QrJ:=@List.mem_of_find?_eq_some
abbrev QrK:=@List.length_set
abbrev QrL:=@List.pairwise_append
abbrev QrM:=@List.length_range
abbrev QrN:=@Nat.le_refl
abbrev QrO:=@Int.eq_ofNat_of_zero_le
abbrev QrP:=@Nat.lt_of_le_of_lt
abbrev QrQ:=@List.foldl_cons
abbrev QrR:=@List.length_filter_le
abbrev QrS:=@Int.emod_eq_of_lt
abbrev QrT:=@List.ext_getElem?
namespace Go.Vx
theorem Qkn{R:Type}{n:Nat}{a b:Int}(K:Int->oP R):Kf n a b K=K (if a<b then -1 else if b<a then 1 else 0):=by
 unfold Kf;have hn:∀x:Int,GV n x (some:Bool->oP Bool)=some false:=λx=>by
  grind[GV]
 rw[hn,hn,Qh,Qh,Qq (by rfl),Qq (by rfl)]
 grind
def Asc(l:Y Sp2):Prop:=l.Pairwise λa b=>a.1<=b.1
theorem Qck(q:Sp2):(Yn q)[0]? = some (Ql q.1):=rfl
theorem QbN(q:Sp2):(Yn q)[1]? = some (Ql q.2):=rfl
theorem Qix(z q:Sp2):((Yn z).set 0 (Ql q.1)).set 1 (Ql q.2)=Yn q:=rfl
theorem Qk2(q:Sp2)(v:Int):(Yn q).set 1 (D.int .i64 v)=Yn (q.1,v):=rfl
section
variable{R:Type} {n:Nat}
theorem QhE{A B:LL}{x:Y D}{i:Nat}(h:A.length=i):(A++x::B)[i]? = some x:=by
 simp_all
theorem QhW{A B:LL}{x y:Y D}{i:Nat}(h:A.length=i):(A++x::B).set i y=A++y::B:=by
 simp_all
theorem Qd6{K:LL->oP R}{k0:Int->Bool->LL->oP R}(hk:∀a b w,k0 a b w=K w):∀(c m:Nat) (A:Y Sp2) (x:Sp2) (B C:Y Sp2),A.length=c->c<m->(A++x::B++C).length<=100->Asc (A++B)->(∀b∈B,x.1<=b.1) ->
  ∃L:Y Sp2,Qx n 0 k0 m (c:Int) ((A++x::B++C).map Yn)=K ((L++C).map Yn)/\Asc L/\L.Perm (A++x::B)
 |0,m+1,A,x,B,C,hA,_,_,hs,hx=>by
  obtain rfl:=List.eq_nil_of_length_eq_zero hA;refine⟨x::B,?_,QrB.2 ⟨hx,hs⟩,List.Perm.refl _⟩;unfold Qx;rw[show decide (((0:Nat):Int)>0)=false from rfl];simp -implicitDefEqProofs only[gbF,Qra,hk,List.nil_append]
 |c+1,m+1,A,x,B,C,hA,hm,hl,hs,hx=>by
  obtain⟨A',y,rfl⟩:∃A' y,A=A'++[y]:=⟨A.dropLast,A.getLast (by intro h;rw[h]at hA;simp at hA),(List.dropLast_concat_getLast _).symm⟩;have aa:A'.length=c:=by simpa using hA
  have ai:c+1<((A'++[y]++x::B++C).map Yn).length:=by simp;omega
  have hc:c<=100:=by simp at hl;omega
  have e1:((A'++[y]++x::B++C).map Yn)=(A'.map Yn++[Yn y])++Yn x::(B++C).map Yn:=by simp
  have e2:((A'++[y]++x::B++C).map Yn)=A'.map Yn++Yn y::(Yn x::(B++C).map Yn):=by simp
  have g1:((A'++[y]++x::B++C).map Yn)[c+1]? = some (Yn x):=by rw[e1];exact QhE (by simp[aa])
  have d:((A'++[y]++x::B++C).map Yn)[c]? = some (Yn y):=by rw[e2];exact QhE (by simp[aa])
  have s1:((A'++[y]++x::B++C).map Yn).set (c+1) (Yn y)=A'.map Yn++Yn y::(Yn y::(B++C).map Yn):=by rw[e1,QhW (by simp[aa])];simp
  have e:(A'.map Yn++Yn y::(Yn y::(B++C).map Yn))[c]? = some (Yn y):=QhE (by simp[aa]);have s2:(A'.map Yn++Yn y::(Yn y::(B++C).map Yn)).set c (Yn x)=((A'++x::(y::B)++C).map Yn):=by rw[QhW (by simp[aa])];simp
  have f:inB ((A'++[y]++x::B++C).map Yn).length ((c+1:Nat):Int)=some ():=XR I I;have g:inB ((A'++[y]++x::B++C).map Yn).length (c:Int)=some ():=XR I I;have i:inB (A'.map Yn++Yn y::(Yn y::(B++C).map Yn)).length (c:Int)=some ():=XR I Q3;unfold Qx;rw[Q6 (((c+1:Nat):Int)>0),G8 (show c+1<=1000 by omega) I,Nat.add_sub_cancel];unfold UZ;simp -implicitDefEqProofs only[f,g,Qh,Qrb,g1,d,Qkn];simp -implicitDefEqProofs only[Qck,QbN,Qix,Qh,Qj,Qrc];by_cases ac:x.1<y.1
  ·rw[Qrx ac];simp -implicitDefEqProofs only[show decide ((-1:Int)<0)=true from rfl,Qrc,g1,Qck,QbN,Qix,Qh,s1];simp -implicitDefEqProofs only[i,e,Qh,Qix,s2];obtain⟨L,j,h2,k⟩:=Qd6 hk c m A' x (y::B) C aa I (by simp at hl ⊢;omega) (by simpa using hs) (λb hb=>by
    cases hb with
    |head=>omega
    |tail _ hb=>exact hx b hb)
   refine⟨L,j,h2,k.trans ?_⟩;rw[Qrl];exact List.Perm.append_left _ (List.Perm.swap ..)
  ·refine⟨A'++[y]++x::B,?_,?_,List.Perm.refl _⟩
   ·rw[Qrz ac,show decide ((if y.1<x.1 then(1:Int)else 0)<0)=false from Qri (by split<;>omega),Qra,hk]
   ·unfold Asc at hs ⊢;rw[QrL]at hs ⊢;refine⟨hs.1,QrB.2 ⟨hx,hs.2.1⟩,λa ha b hb=>?_⟩;cases hb with
    |head=>
     rcases Qrj.1 ha with h | h
     ·have:=(QrL.1 hs.1).2.2 a h y (Qrp.2 rfl);omega
     ·obtain rfl:=Qrp.1 h;omega
    |tail _ hb=>exact hs.2.2 a ha b hb
theorem Qd5{K:LL->oP R}{k0:Int->Bool->LL->oP R}(hk:∀a b w,k0 a b w=K w):∀(aa P:Y Sp2) (m:Nat),aa.length<m->(P++aa).length<=100->Asc P ->
  ∃L:Y Sp2,Qn 400 0 (((P++aa).length:Nat):Int) k0 m (P.length:Int) ((P++aa).map Yn)=K (L.map Yn)/\Asc L/\L.Perm (P++aa)
 |[],P,m+1,_,_,hs=>by
  refine⟨P,?_,hs,by simp⟩;rw[Qn,Qru,Qy,Qra,hk]
 |x::aa,P,m+1,hm,hl,hs=>by
  rw[Qn,Qt Q2,Qrc,QJ (by simp at hl;omega)];obtain⟨L,d,h2,c⟩:=Qd6 (n:=400) (K:=λw=>Qn 400 0 (((P++x::aa).length:Nat):Int) k0 m ((P.length+1:Nat):Int) w) (k0:=λ_ _ w=>Qn 400 0 (((P++x::aa).length:Nat):Int) k0 m ((P.length+1:Nat):Int) w) (λ_ _ _=>rfl) P.length 400 P x [] aa rfl (by simp at hl;omega) (by simp at hl ⊢;omega) (by simpa using hs) (λb hb=>nomatch hb);rw[show(P++x::aa)=P++[x]++aa by simp]at *
  rw[d];have hL:L.length=P.length+1:=by rw[c.length_eq];simp
  obtain⟨L',g1,e,f⟩:=Qd5 hk aa L m (by simpa using hm) (by simp[hL]at hl ⊢;omega) h2;rw[show(((P++[x]++aa).length:Nat):Int)=(((L++aa).length:Nat):Int) by simp[hL];omega,show((P.length+1:Nat):Int)=(L.length:Int) by rw[hL]];exact⟨L',g1,e,f.trans (c.append_right _)⟩
theorem QkB:((List.range 13).all λk=>(R7 400 (IntKind.wrap .u64 (k:Int)) (some:Int->oP Int)).isSome)=true:=by kernel_rfl
theorem Qjo{l:Y Sp2}(hl:l.length<=12):∃L:Y Sp2,QO 400 (l.map Yn) (some:LL->oP LL)=some (L.map Yn)/\Asc L/\L.Perm l:=by
 obtain⟨b,hb⟩:=Option.isSome_iff_exists.1 (List.all_eq_true.1 QkB l.length (QrG.2 I));unfold QO;rw[Qrg,hb,Qh];unfold Y3 XU;rw[Qo (x:=(l.length:Int)-0) I I,Xi (Qrk I)];unfold XF;have fin:∀L:Y Sp2,L.length=l.length->(gb true (gb true (some (L.map Yn)) [] λa=>gb true (Rf a (List.length (l.map Yn))) () λf=>some a) [] λc=>gb true (Rf c l.length) () λg=>(some c:oP LL))=some (L.map Yn):=λL h=>by
  grind[Qh,MT]
 rw[show wJ ((0:Int)+1)=((1:Nat):Int)from rfl];cases l with
 |nil=>
  refine⟨[],?_,List.Pairwise.nil,List.Perm.refl _⟩;rfl
 |cons x aa=>
  obtain⟨L,e,h2,d⟩:=Qd5 (K:=(some:LL->oP LL)) (k0:=λ_ _ w=>some w) (λ_ _ _=>rfl) aa [x] 400 (by grind) (by simp at hl ⊢;omega) (List.pairwise_singleton ..);refine⟨L,?_,h2,d⟩;rw[show(x::aa)=[x]++aa from rfl,show((1:Nat):Int)=(([x].length:Nat):Int)from rfl,e];exact fin L d.length_eq
def mgS:Int->Int->Y Sp2->Y Sp2
 |a,b,[]=>[(a,b)]
 |a,b,(c,d)::r=>if c<=b then mgS a (if b<d then d else b) r else(a,b)::mgS c d r
theorem Q6u:∀{a b:Int} {r:Y Sp2},(mgS a b r).length<=r.length+1
 |_,_,[]=>QrN _
 |a,b,(c,d)::r=>by
  rw[mgS];split
  ·have:=Q6u (a:=a) (b:=if b<d then d else b) (r:=r);simp only[QrD];omega
  ·have:=Q6u (a:=c) (b:=d) (r:=r);simp only[QrD];omega
theorem Qas{t:Int}:∀{l a b:Int} {r:Y Sp2},l<a->a<b->b<=t->Asc ((a,b)::r)->(∀q∈r,q.1<q.2/\q.2<=t)->VS t l (mgS a b r)
 |l,a,b,[],e,h2,f,_,_=>⟨e,h2,f,trivial⟩
 |l,a,b,(c,d)::r,e,h2,f,g,h5=>by
  have hs:=QrB.1 g;have hc:a<=c:=hs.1 (c,d) (.head _);have hd:=h5 (c,d) (.head _);rw[mgS];split
  ·refine Qas e (by split<;>omega) (by split<;>simp_all) (QrB.2 ⟨λq hq=>hs.1 q (.tail _ hq),(QrB.1 hs.2).2⟩) (λq hq=>h5 q (.tail _ hq))
  ·exact⟨e,h2,f,Qas I hd.1 hd.2 hs.2 (λq hq=>h5 q (.tail _ hq))⟩
theorem Qak{y:Int}:∀{a b:Int} {r:Y Sp2},Asc ((a,b)::r)->a<b->(∀q∈r,q.1<q.2)->(InS y (mgS a b r)↔(a<=y/\y<b)\/InS y r)
 |a,b,[],_,_,_=>by rw[mgS,TD]
 |a,b,(c,d)::r,e,h2,h5=>by
  have hs:=QrB.1 e;have hc:a<=c:=hs.1 (c,d) (.head _);have hd:=h5 (c,d) (.head _);rw[mgS,TD];split
  ·rw[Qak (a:=a) (b:=if b<d then d else b) (QrB.2 ⟨λq hq=>hs.1 q (.tail _ hq),(QrB.1 hs.2).2⟩) (by split<;>omega) (λq hq=>h5 q (.tail _ hq))];dsimp only at hc hd ⊢;rw[<- or_assoc];refine or_congr_left ?_;split<;>omega
  ·rw[TD,Qak hs.2 hd (λq hq=>h5 q (.tail _ hq))]
theorem Q3D{K:LL->oP R}{k0:Int->Bool->LL->oP R}(hk:∀a b w,k0 a b w=K w){l:Y Sp2}(hl:l.length<=100):∀(aa:Y Sp2) (i m:Nat) (A:Y Sp2) (a b:Int),l.drop i=aa->aa.length<m->A.length+aa.length<=100 ->
  Xq n (l.length:Int) (l.map Yn) k0 m (i:Int) ((A++[(a,b)]).map Yn)=K ((A++mgS a b aa).map Yn)
 |[],i,m+1,A,a,b,hd,_,_=>by
  have:=Wc hd;rw[Xq,show decide ((i:Int)<(l.length:Int))=false by simp_all,Qra,hk,mgS]
 |(c,d)::aa,i,m+1,A,a,b,hd,hm,hA=>by
  obtain⟨e,ak,hi⟩:=Yf hd;have an:A.length<=100:=I
  have f:(l.map Yn)[i]? = some (Yn (c,d)):=by rw[Qrv,e];rfl
  have e1:(A++[(a,b)]).map Yn=A.map Yn++Yn (a,b)::[]:=by simp
  have ai:((A++[(a,b)]).map Yn).length=A.length+1:=by simp
  have g:((A++[(a,b)]).map Yn)[A.length]? = some (Yn (a,b)):=by rw[e1];exact QhE Q2
  have aj:∀v,((A++[(a,b)]).map Yn).set A.length (Yn (a,v))=(A++[(a,v)]).map Yn:=λv=>by rw[e1,QhW Q2];simp
  rw[Xq,Qt hi,Qrc,ai,G8 (show A.length+1<=1000 by omega) I,Nat.add_sub_cancel,Qrg,XR I I,XR I I,Q6 ((A.length:Int)>=0)];simp -implicitDefEqProofs only[Qh,Qrb,f,g,QJ (show i<=1000 by omega)];simp -implicitDefEqProofs only[Qck,QbN,Qk2,Qh,Qj,Qrc];rw[mgS];by_cases ac:c<=b
  ·rw[show decide (c<=b)=true from Qrk ac,Qrc,Qrx ac];rw[aj];exact Q3D hk hl aa (i+1) m A a _ ak (by simpa using hm) (by simp at hA;omega)
  ·rw[show decide (c<=b)=false from Qri ac,Qra,Qrz ac,XM Q3,Qh];have:=Q3D hk hl aa (i+1) m (A++[(a,b)]) c d ak (by simpa using hm) (by simp at hA ⊢;omega);rw[show A++(a,b)::mgS c d aa=A++[(a,b)]++mgS c d aa by simp,<- this,Qrm (l₂:=[(c,d)])];rfl
theorem t2a{x y:Y D}:decide ((0:Int)<(([x,y].length:Nat):Int))=true:=rfl
theorem t2b{x y:Y D}:decide ((1:Int)<(([x,y].length:Nat):Int))=true:=rfl
theorem t2c{x y:Y D}:decide ((2:Int)<(([x,y].length:Nat):Int))=false:=rfl
theorem t2d:wJ ((0:Int)+1)=1:=rfl
theorem t2e:wJ ((1:Int)+1)=2:=rfl
theorem t2f{x y:Y D}:Qi [x,y] 0=some x:=rfl
theorem t2g{x y:Y D}:Qi [x,y] 1=some y:=rfl
theorem Qfk{a b:Y Sp2}(h:a.length+b.length<=100):X1 400 [[D.sl 2 (a.map Yn)],[D.sl 2 (b.map Yn)]] (some:LL->oP LL)=some ((a++b).map Yn):=by
 have hg:∀k:Nat,k<=100->QU 400 (k:Int) (some:LL->oP LL)=some []:=λk hk=>by
  unfold QU;rw[Qq (Qri I),show wJ ((0:Int)-0)=0 from rfl,Qo (x:=(k:Int)-0) I I];by_cases c:k=0
  ·subst c;rfl
  ·rw[Xi (Qrk I),show slB 0 none (some (0:Int))=some (0,0)from rfl,Qh,Xi (Qrk I),Qh,XM I,Qh]
 unfold X1;rw[Qv];simp -implicitDefEqProofs only[t2a,t2b,t2c,t2d,t2e,t2f,t2g,Qrc,Qra,Qh,Qr9,X2,Qrg,Qo (x:=0+(a.length:Int)) I I,Qo (x:=0+(a.length:Int)+(b.length:Int)) I I,Q5 (0+(a.length:Int)<0),Q5 (0+(a.length:Int)+(b.length:Int)<0),show 0+(a.length:Int)+(b.length:Int)=((a.length+b.length:Nat):Int) by omega,Qo (x:=((a.length+b.length:Nat):Int)) I I,Q5 (((a.length+b.length:Nat):Int)<0),hg _ h];rw[Qv];simp -implicitDefEqProofs only[t2a,t2b,t2c,t2d,t2e,t2f,t2g,Qrc,Qra,Qh,Qr9,X2,Qrg,Qo (x:=0+(a.length:Int)) I I,Qo (x:=0+(a.length:Int)+(b.length:Int)) I I,Q5 (0+(a.length:Int)<0),Q5 (0+(a.length:Int)+(b.length:Int)<0),show 0+(a.length:Int)+(b.length:Int)=((a.length+b.length:Nat):Int) by omega,Qo (x:=((a.length+b.length:Nat):Int)) I I,Q5 (((a.length+b.length:Nat):Int)<0),hg _ h];rw[Qv];simp -implicitDefEqProofs only[t2a,t2b,t2c,t2d,t2e,t2f,t2g,Qrc,Qra,Qh,Qr9,X2,Qrg,Qo (x:=0+(a.length:Int)) I I,Qo (x:=0+(a.length:Int)+(b.length:Int)) I I,Q5 (0+(a.length:Int)<0),Q5 (0+(a.length:Int)+(b.length:Int)<0),show 0+(a.length:Int)+(b.length:Int)=((a.length+b.length:Nat):Int) by omega,Qo (x:=((a.length+b.length:Nat):Int)) I I,Q5 (((a.length+b.length:Nat):Int)<0),hg _ h];rw[Qw];simp -implicitDefEqProofs only[t2a,t2b,t2c,t2d,t2e,t2f,t2g,Qrc,Qra,Qh,Qr9,X2,Qrg,List.nil_append,List.length_nil,XM (show(0+a.length)*16<=100000 by omega),XM (show(a.length+b.length)*16<=100000 by omega),Qrm];rw[Qw];simp -implicitDefEqProofs only[t2a,t2b,t2c,t2d,t2e,t2f,t2g,Qrc,Qra,Qh,Qr9,X2,Qrg,List.nil_append,List.length_nil,XM (show(0+a.length)*16<=100000 by omega),XM (show(a.length+b.length)*16<=100000 by omega),Qrm];rw[Qw];simp -implicitDefEqProofs only[t2a,t2b,t2c,t2d,t2e,t2f,t2g,Qrc,Qra,Qh,Qr9,X2,Qrg,List.nil_append,List.length_nil,XM (show(0+a.length)*16<=100000 by omega),XM (show(a.length+b.length)*16<=100000 by omega),Qrm]
theorem Qg2{l:Y Sp2}:Lt [l.map Yn]=some ():=by
 unfold Lt;rw[show([l.map Yn].all Aq)=true by simp[Aq,Yn,Q6t]];rfl
theorem QfZ{t:Int}{a b:Y Sp2}(c:1<=t)(d:t<=7200)(ha:VS t (-1) a)(hb:VS t (-1) b)(hl:a.length<=300)(aa:b.length<=300):Tk 400 t [[D.sl 2 (a.map Yn)],[D.sl 2 (b.map Yn)]] (some:Int->oP Int)=some 0:=by
 unfold Tk;rw[Q2W c d,Qh,Qq (by rfl)];rw[U8];simp -implicitDefEqProofs only[t2a,t2b,t2c,t2d,t2e,t2f,t2g,Qrc,Qra,Qh,Qr9,X2,Q0m c d hl ha,Q0m c d aa hb,Qrn];rw[U8];simp -implicitDefEqProofs only[t2a,t2b,t2c,t2d,t2e,t2f,t2g,Qrc,Qra,Qh,Qr9,X2,Q0m c d hl ha,Q0m c d aa hb,Qrn];rw[U8];simp -implicitDefEqProofs only[t2a,t2b,t2c,t2d,t2e,t2f,t2g,Qrc,Qra,Qh,Qr9,X2,Q0m c d hl ha,Q0m c d aa hb,Qrn]
theorem Qhg{t:Int}{a b:Y Sp2}(e:1<=t)(f:t<=7200)(ha:VS t (-1) a)(hb:VS t (-1) b)(hl:a.length+b.length<=12):∃c:Y Sp2,Ts 400 t (a.map Yn) (b.map Yn) Tu2=some (c.map Yn,(0:Int))/\VS t (-1) c/\c.length<=a.length+b.length/\∀y,InS y c↔InS y a\/InS y b:=by
 obtain⟨L,s1,s2,d⟩:=Qjo (l:=a++b) Q3;have hr:∀q∈L,-1<q.1/\q.1<q.2/\q.2<=t:=λq hq=>by
  rcases Qrj.1 (d.mem_iff.1 hq)with h | h
  ·exact ha.rng q h
  ·exact hb.rng q h
 have aa:L.length=a.length+b.length:=by rw[d.length_eq];simp
 unfold Ts;rw[QfZ e f ha hb I I,Qh,Qq (by rfl),Qfk I,Qh,Qg2,Qh];unfold HZ;rw[s1,Qh,MT (by simp[aa]),Qh,Qrg];cases L with
 |nil=>
  refine⟨[],?_,trivial,by simp,λy=>?_⟩
  ·rw[Qrg,<- d.length_eq,Xq,show decide ((0:Int)<((([]:Y Sp2).length:Nat):Int))=false from rfl,Qra];rfl
  ·rw[<- QaR,<- Q7x d]
 |cons q L=>
  obtain⟨x,z⟩:=q;have hq:=hr (x,z) (.head _);have ac:L.length+1<=12:=by simp at aa;omega
  have hm:=Q3D (n:=400) (K:=λw=>(some (w,((x,z)::L).map Yn):oP (LL×LL))) (k0:=λ_ _ w=>some (w,((x,z)::L).map Yn)) (λ_ _ _=>rfl) (l:=(x,z)::L) Q3 L 1 399 [] x z rfl I Q3;have ai:∀k0:Int->Bool->LL->oP (LL×LL),Xq 400 ((((x,z)::L).length:Nat):Int) (((x,z)::L).map Yn) k0 400 0 []=Xq 400 ((((x,z)::L).length:Nat):Int) (((x,z)::L).map Yn) k0 399 ((1:Nat):Int) (([]++[(x,z)]).map Yn):=λk0=>by
   rw[Xq,show decide ((0:Int)<((((x,z)::L).length:Nat):Int))=true from Qrk Q2,Qrc,XR I Q2,show(((x,z)::L).map Yn)[Int.toNat 0]? = some (Yn (x,z))from rfl,show decide (wJ (((([]:LL).length:Nat):Int)-1)>=0)=false from rfl];simp -implicitDefEqProofs only[Qh,Qck,QbN,gbF,Qra,t2d];rw[XM Q2,Qh];rfl
  refine⟨mgS x z L,?_,Qas hq.1 hq.2.1 hq.2.2 s2 (λq h=>(hr q (.tail _ h)).2),?_,λy=>?_⟩
  ·rw[ai,hm,Qh,MT (by simp at aa ⊢;omega),Qh];rfl
  ·have:=Q6u (a:=x) (b:=z) (r:=L);simp at aa;omega
  ·rw[Qak s2 hq.2.1 (λq h=>(hr q (.tail _ h)).2.1),<- QaR,<- Q7x d,TD]
end
def FB(t:Int)(A B:Y Occ)(y:Int):Prop:=∃x a b c d,(x,a,b)∈A/\(x,c,d)∈B/\(y-(a-d+1)) % t<b-a+d-c-1
theorem Qc7{t:Int}{q:Occ}{A B:Y Occ}{y:Int}(h:∀p∈B,p.1≠q.1):FB t (q::A) B y↔FB t A B y:=by
 constructor
 ·rintro⟨x,a,b,c,d,e,h2,f⟩;cases e with
  |head=>grind
  |tail _ e=>exact⟨x,a,b,c,d,e,h2,f⟩
 ·rintro⟨x,a,b,c,d,e,h2,f⟩;exact⟨x,a,b,c,d,.tail _ e,h2,f⟩
theorem Qcl{t:Int}{q:Occ}{A B:Y Occ}{y:Int}(h:∀p∈A,p.1≠q.1):FB t A (q::B) y↔FB t A B y:=by
 constructor
 ·rintro⟨x,a,b,c,d,e,h2,f⟩;cases h2 with
  |head=>grind
  |tail _ h2=>exact⟨x,a,b,c,d,e,h2,f⟩
 ·rintro⟨x,a,b,c,d,e,h2,f⟩;exact⟨x,a,b,c,d,e,.tail _ h2,f⟩
theorem Qfh{t x a b c d:Int}{A B:Y Occ}{y:Int}(hA:∀p∈A,p.1≠x)(hB:∀p∈B,p.1≠x):FB t ((x,a,b)::A) ((x,c,d)::B) y↔(y-(a-d+1)) % t<b-a+d-c-1\/FB t A B y:=by
 constructor
 ·rintro⟨x',a',b',c',d',e,h2,f⟩;cases e with
  |head=>
   grind
  |tail _ e=>
   cases h2 with
   |head=>exact(hA (x,a',b') e rfl).elim
   |tail _ h2=>exact .inr ⟨x',a',b',c',d',e,h2,f⟩
 ·rintro (h | ⟨x',a',b',c',d',e,h2,f⟩)
  ·exact⟨x,a,b,c,d,.head _,.head _,h⟩
  ·exact⟨x',a',b',c',d',.tail _ e,.tail _ h2,f⟩
theorem QhF(y f t:Int):(y-f % t) % t=(y-f) % t:=by
 rw[Int.sub_emod,Int.emod_emod,<- Int.sub_emod]
section
variable{R:Type} {n:Nat} {t:Int}
theorem Mv(q:Occ):(enc q)[0]? = some (Ql q.1):=rfl
theorem Fg(q:Occ):(enc q)[1]? = some (Ql q.2.1):=rfl
theorem Eu(q:Occ):(enc q)[2]? = some (Ql q.2.2):=rfl
theorem Q4D{O:Y Occ}(hl:O.length<=1000){k0:oP R}{k1:Int->Int->Bool->oP R}{E:oP R}(hk:∀a b c,k1 a b c=E):∀(aa:Y Occ) (i m:Nat) (last:Int),O.drop i=aa->aa.length<m->OL last aa->Ud n (O.map enc) (O.length:Int) k0 k1 m last (i:Int)=E
 |[],i,m+1,last,hd,_,_=>by
  have:=Wc hd;rw[Ud,show decide ((i:Int)<(O.length:Int))=false by simpa using this,Qra,hk]
 |(x,a,b)::aa,i,m+1,last,hd,hm,⟨d,h2,f,g,h5,h6⟩=>by
  obtain⟨e,ac,hi⟩:=Yf hd;rw[Ud,Qt hi,Qrc,X6 e];simp -implicitDefEqProofs only[Qh,Mv,Fg,Eu,Qj,Q5 (x<=last),Q5 (a>=b),Q5 (a < -65536),Q5 (b>65536),Qra,QJ (show i<=1000 by omega)];exact Q4D hl hk aa (i+1) m x ac (by simpa using hm) h6
theorem Q5N{O:Y Occ}(hl:O.length<=300)(h:OL (-1) O):Jv 400 (O.map enc) (some:Bool->oP Bool)=some true:=by
 unfold Jv;rw[Qrg];exact Q4D I (λ_ _ _=>rfl) O 0 400 (-1) rfl I h
theorem QjO{α:Type}(q:α)(l:Y α):slB (q::l).length (some (1:Int)) none=some (1,l.length+1)/\cut (q::l) (1,l.length+1)=l:=by
 grind[slB,cut]
theorem Fz(e:1<=t)(j:t<=7200){K:LL->oP R}{k0:LL->LL->Bool->LL->oP R}(hk:∀a b c w,k0 a b c w=K w):∀(m:Nat) (A B:Y Occ) (acc:Y Sp2) (lA lB:Int),A.length+B.length<m->OL lA A->OL lB B->VS t (-1) acc->acc.length+2*A.length<=12 ->
  ∃aa:Y Sp2,QG 400 t k0 m (A.map enc) (B.map enc) (acc.map Yn)=K (aa.map Yn)/\VS t (-1) aa/\aa.length<=12/\∀y,0<=y->y<t->(InS y aa↔InS y acc\/FB t A B y)
 |m+1,[],B,acc,lA,lB,_,_,_,hv,hl=>by
  refine⟨acc,?_,hv,I,λy _ _=>⟨.inl,?_⟩⟩
  ·rw[QG,show decide (((([]:Y Occ).map enc).length:Int)>0)=false from rfl,Qra,Qra,hk]
  ·rintro (h | ⟨x,a,b,c,d,h,_⟩)
   all_goals grind
 |m+1,q::A,[],acc,lA,lB,_,_,_,hv,hl=>by
  refine⟨acc,?_,hv,by simp at hl;omega,λy _ _=>⟨.inl,?_⟩⟩
  ·rw[QG,show decide (((([]:Y Occ).map enc).length:Int)>0)=false from rfl,show decide ((((q::A).map enc).length:Int)>0)=true from Qrk Q2,Qrc,Qra,hk]
  ·rintro (h | ⟨x,a,b,c,d,_,h,_⟩)
   ·exact h
   ·nomatch h
 |m+1,(x,a,b)::A,(x',c,d)::B,acc,lA,lB,hm,hA,hB,hv,hl=>by
  obtain⟨a1,a2,a3,a4,a5,v⟩:=id hA;obtain⟨b1,b2,b3,b4,b5,z⟩:=id hB;have ar:A.length+B.length+2<m+1:=by simp at hm;omega
  have a6:acc.length+2*A.length+2<=12:=by simp at hl;omega
  have cA:=QjO (enc (x,a,b)) (A.map enc);have cB:=QjO (enc (x',c,d)) (B.map enc);have ai:∀p∈A,x<p.1:=λp hp=>(v.mem p hp).1
  have ac:∀p∈B,x'<p.1:=λp hp=>(z.mem p hp).1
  rw[QG];simp -implicitDefEqProofs only[List.map_cons,show decide ((((enc (x,a,b)::A.map enc).length:Nat):Int)>0)=true from Qrk Q2,show decide ((((enc (x',c,d)::B.map enc).length:Nat):Int)>0)=true from Qrk Q2,Qrc,show ∀(r:Y D) (l:LL),Qi (r::l) 0=some r from λ_ _=>rfl,Qh,Mv,Fg,Eu,Qj,cA,cB];rcases Int.lt_trichotomy x x' with hx | hx | hx
  ·rw[show(x == x')=false by simp;omega,Q6 (x<=x'),Q5 (x>=x')];simp -implicitDefEqProofs only[Qrc,Qra];obtain⟨aa,g1,n,o,s⟩:=Fz e j hk m A ((x',c,d)::B) acc x lB Q3 v hB hv I;refine⟨aa,g1,n,o,λy g i=>?_⟩;rw[s y g i,Qc7 (λp hp=>?_)];cases hp with
   |head=>dsimp only;omega
   |tail _ hp=>have:=ac p hp;dsimp only;omega
  ·subst hx;have f0:wJ (wJ (a-d)+1)=a-d+1:=by rw[Qo (x:=a-d) I I,Qo I I]
   have f1:wJ (wJ (wJ (wJ (b-c)-1)-(a-d+1))+1)=b-a+d-c-1:=by
    rw[Qo (x:=b-c) I I,Qo (x:=b-c-1) I I,Qo (x:=b-c-1-(a-d+1)) I I,Qo I I];omega
   have e0:=Qrt (a-d+1) (show t≠0 by omega);have e1:=Qrq (a-d+1) (show 0<t by omega);have ak:=Qio (t:=t) (f:=a-d+1) (k:=b-a+d-c-1) e j I I I I;have a7:=Qag (t:=t) (x:=(a-d+1) % t) (k:=b-a+d-c-1);obtain⟨u,u1,u2,u3,u4⟩:=Qhg e j hv (Qc8 (k:=b-a+d-c-1) e e0 e1) I;rw[show(x == x)=true by simp,Q6 (x<=x)];simp -implicitDefEqProofs only[Qrc];unfold Zg;rw[f0,f1,ak,Qh,u1,Qh,Qg2,Qh];obtain⟨aa,g1,n,o,s⟩:=Fz e j hk m A B u x x I v z u2 I;refine⟨aa,g1,n,o,λy g i=>?_⟩;rw[s y g i,u4,QcK e0 e1 g i,QhF,Qfh (λp hp=>by have:=ai p hp;omega) (λp hp=>by have:=ac p hp;omega),or_assoc]
  ·rw[show(x == x')=false by simp;omega,Q5 (x<=x'),Q6 (x>=x')];simp -implicitDefEqProofs only[Qrc,Qra];obtain⟨aa,g1,n,o,s⟩:=Fz e j hk m ((x,a,b)::A) B acc lA x' Q3 hA z hv hl;refine⟨aa,g1,n,o,λy g i=>?_⟩;rw[s y g i,Qcl (λp hp=>?_)];cases hp with
   |head=>dsimp only;omega
   |tail _ hp=>have:=ai p hp;dsimp only;omega
theorem Qit{A B:Y Occ}(a:1<=t)(b:t<=7200)(hA:OL (-1) A)(hB:OL (-1) B)(lA:A.length<=6)(lB:B.length<=6):∃F:Y Sp2,Jt 400 t (A.map enc) (B.map enc) Tu2=some (F.map Yn,(0:Int))/\VS t (-1) F/\F.length<=12/\∀y,0<=y->y<t->(InS y F↔FB t A B y):=by
 obtain⟨F,g1,e,f,g⟩:=Fz a b (K:=λw=>(some w:oP LL)) (k0:=λ_ _ _ w=>some w) (λ_ _ _ _=>rfl) 400 A B [] (-1) (-1) I hA hB trivial Q3;refine⟨F,?_,e,f,λy i j=>?_⟩
 ·unfold Jt;dsimp only[jn];rw[Q5N I hA,Q5N I hB,Q5 (t<1),Q5 (t>7200)];simp -implicitDefEqProofs only[Qra,Qh,Qrn];unfold H7;rw[show QG 400 t (λl m n k=>(some k:oP LL)) 400 (A.map enc) (B.map enc) []=_ from g1,Qh]
 ·rw[g y i j];exact⟨λh=>h.elim (λh=>absurd h Ff) id,.inr⟩
def Q4b(t:Int)(q:Sp2):Sp2:=(q.2,q.1+t-1)
theorem Qdc(c:t<=7200)(d:1<=t){K:LL->oP R}{k0:Int->Bool->LL->oP R}(hk:∀a b w,k0 a b w=K w){l:Y Sp2}(hl:l.length<=1000):∀(aa:Y Sp2) (i m:Nat),l.drop i=aa->aa.length<m->(∀q∈l,-1<q.1/\q.1<=t)->ZI n t (l.map Yn) (l.length:Int) k0 m (i:Int) (((l.take i).map (Q4b t)).map Yn)=K ((l.map (Q4b t)).map Yn)
 |[],i,m+1,hd,_,_=>by
  have:=Wc hd;rw[ZI,show decide ((i:Int)<(l.length:Int))=false by simpa using this,Qra,hk,List.take_of_length_le this]
 |(a,b)::aa,i,m+1,hd,hm,hr=>by
  obtain⟨e,ac,hi⟩:=Yf hd;have ha:=hr (a,b) (Qrf e);rw[ZI,Qt hi,Qrc,X6 e];simp -implicitDefEqProofs only[Qh,Qck,QbN,Qj,QJ (show i<=1000 by omega),Qo (x:=a+t) I I,Qo (x:=a+t-1) I I,XM (show((((l.take i).map (Q4b t)).map Yn).length+[[D.int .i64 b,D.int .i64 (a+t-1)]].length)*16<=100000 by simp;omega)];have:=Qdc c d hk hl aa (i+1) m ac (by simpa using hm) hr;rw[ZA e,Qrm,Qrm]at this;exact this
theorem Qd2(c:t<=7200)(d:1<=t){K:LL->oP R}{k0:Int->Bool->LL->oP R}(hk:∀a b w,k0 a b w=K w){l:Y Sp2}(hl:l.length<=1000):∀(aa:Y Sp2) (i m:Nat),l.drop i=aa->aa.length<m->(∀q∈l,-1<q.1/\q.1<=t)->YR n t (l.length:Int) (l.map Yn) k0 m (i:Int) (((l.take i).map (Q4b t)).map Yn)=K ((l.map (Q4b t)).map Yn)
 |[],i,m+1,hd,_,_=>by
  have:=Wc hd;rw[YR,show decide ((i:Int)<(l.length:Int))=false by simp_all,Qra,hk,List.take_of_length_le this]
 |(a,b)::aa,i,m+1,hd,hm,hr=>by
  obtain⟨e,ac,hi⟩:=Yf hd;have ha:=hr (a,b) (Qrf e);have f:(l.map Yn)[i]? = some (Yn (a,b)):=by rw[Qrv,e];rfl
  rw[YR,Qt hi,Qrc,Qrg,XR I I,Qrb,f];simp -implicitDefEqProofs only[Qh,Qck,QbN,Qj,QJ (show i<=1000 by omega),Qo (x:=a+t) I I,Qo (x:=a+t-1) I I,XM (show((((l.take i).map (Q4b t)).map Yn).length+[[D.int .i64 b,D.int .i64 (a+t-1)]].length)*16<=100000 by simp;omega)];have:=Qd2 c d hk hl aa (i+1) m ac (by simpa using hm) hr;rw[ZA e,Qrm,Qrm]at this;exact this
def WR(t:Int)(F G:Y Sp2):Prop:=(G=F/\∀b M c,F≠(0,b)::(M++[(c,t)]))\/∃b M c,F=(0,b)::(M++[(c,t)])/\G=M++[(c,t+b)]
theorem Qcp{A B:Y Occ}(r:2<=t)(f:t<=7200)(hA:OL (-1) A)(hB:OL (-1) B)(lA:A.length<=6)(lB:B.length<=6):∃F G:Y Sp2,VS t (-1) F/\F.length<=12/\(∀y,0<=y->y<t->(InS y F↔FB t A B y))/\WR t F G /\
  WQ 400 t (A.map enc) (B.map enc) Tu2=some (if cnt F=t then([],(13:Int))else((G.map (Q4b t)).map Yn,(0:Int))):=by
 obtain⟨F,g1,j,k,m⟩:=Qit (t:=t) I f hA hB lA lB;have hr:=j.rng;suffices h:∃G,WR t F G/\WQ 400 t (A.map enc) (B.map enc) Tu2=some (if cnt F=t then([],(13:Int))else((G.map (Q4b t)).map Yn,(0:Int))) by
  obtain⟨G,h⟩:=h;exact⟨F,G,j,k,m,h⟩
 unfold WQ;rw[g1,Qh,Qq (by rfl)];dsimp only;rw[QhN I f I j,Qh];have aa:YR 400 t (F.length:Int) (F.map Yn) (λs u o=>(some (o,(0:Int)):oP (LL×Int))) 400 0 []=some ((F.map (Q4b t)).map Yn,(0:Int)):=Qd2 f I (K:=λw=>some (w,(0:Int))) (k0:=λ_ _ w=>some (w,(0:Int))) (λ_ _ _=>rfl) I F 0 400 rfl I (λq hq=>by have:=hr q hq;omega);by_cases ac:cnt F=t
 ·simp only[Qrx ac];rw[Xi (by simpa using ac)];by_cases hw:∃b M c,F=(0,b)::(M++[(c,t)])
  ·obtain⟨b,M,c,e⟩:=hw;exact⟨_,.inr ⟨b,M,c,e,rfl⟩,rfl⟩
  ·exact⟨F,.inl ⟨rfl,λb M c e=>hw ⟨b,M,c,e⟩⟩,rfl⟩
 simp only[Qrz ac];rw[Qq (by simpa using ac),Qrg];rcases F with _ | ⟨⟨a,b⟩,F⟩
 ·refine⟨[],.inl ⟨rfl,λb M c e=>(nomatch e)⟩,?_⟩;rw[show decide (((([]:Y Sp2).length:Nat):Int)>1)=false from rfl];simp -implicitDefEqProofs only[gbF,Qra];exact aa
 rcases List.eq_nil_or_concat F with rfl | ⟨M,⟨c,d⟩,rfl⟩
 ·refine⟨[(a,b)],.inl ⟨rfl,λb M c e=>by have:=congrArg List.length e;simp at this⟩,?_⟩;rw[show decide ((((([(a,b)]:Y Sp2)).length:Nat):Int)>1)=false from rfl];simp -implicitDefEqProofs only[gbF,Qra];exact aa
 have hM:M.length<=10:=by simp at k;omega
 have ai:((a,b)::(M++[(c,d)])).length=M.length+1+1:=by simp
 have ax:=hr (c,d) Q2;have am:=hr (a,b) Q2;have e1:((a,b)::(M++[(c,d)])).map Yn=(Yn (a,b)::M.map Yn)++Yn (c,d)::[]:=by simp
 have gl:(((a,b)::(M++[(c,d)])).map Yn)[M.length+1]? = some (Yn (c,d)):=by rw[e1];exact QhE Q2
 have sl:∀v,(((a,b)::(M++[(c,d)])).map Yn).set (M.length+1) (Yn (c,v))=((a,b)::(M++[(c,v)])).map Yn:=λv=>by rw[e1,QhW Q2];simp
 rw[List.concat_eq_append]at *
 rw[ai,Q6 (((M.length+1+1:Nat):Int)>1),G8 (show M.length+1+1<=1000 by omega) I,Nat.add_sub_cancel,XR I I,XR I I];simp -implicitDefEqProofs only[Qh,Qrb,gl,Qrc,show(((a,b)::(M++[(c,d)])).map Yn)[Int.toNat 0]? = some (Yn (a,b))from rfl,Qck,QbN,Qj,Qk2];by_cases ak:a=0/\d=t
 ·obtain⟨rfl,rfl⟩:=ak;refine⟨M++[(c,d+b)],.inr ⟨b,M,c,rfl,rfl⟩,?_⟩;rw[show((0:Int) == 0)=true from rfl,show(d == d)=true by simp,Qrc,Qrc,Qo (x:=d+b) I I,sl];have aj:=QjO (Yn (0,b)) ((M++[(c,d+b)]).map Yn);rw[List.map_cons,aj.1,Qh,aj.2,Qrg];exact Qdc (n:=400) f I (K:=λw=>(some (w,(0:Int)):oP (LL×Int))) (k0:=λ_ _ w=>some (w,(0:Int))) (λ_ _ _=>rfl) (l:=M++[(c,d+b)]) Q3 (M++[(c,d+b)]) 0 400 rfl Q3 (λq hq=>by
   rcases Qrj.1 hq with h | h
   ·have:=hr q (.tail _ (Qro _ h));omega
   ·obtain rfl:=Qrp.1 h;dsimp only at *
    omega)
 ·have hz:(bif (a == (0:Int))then(d == t)else false)=false:=by
   by_cases ha:a=0
   ·rw[ha,show((0:Int) == 0)=true from rfl,Qrc];simp only[beq_eq_false_iff_ne];exact λh=>ak ⟨ha,h⟩
   ·rw[show(a == (0:Int))=false by simpa using ha,Qra]
  refine⟨_,.inl ⟨rfl,λb' M' c' e=>ak ?_⟩,?_⟩
  ·have e2:=List.cons.inj e;have p:=List.append_inj_right' e2.2 rfl;have:=(Prod.mk.inj e2.1).1;have:=(Prod.mk.inj (List.cons.inj p).1).2;exact⟨I,I⟩
  rw[hz,Qra];rw[ai]at aa;exact aa
end
theorem TU{α β:Type}{r:Nat->Int->β}{l:Y α}{p:α->Bool}{E0 E1:β}(a:∀m i q,l[i]? = some q->i<l.length->r (m+1) (i:Int)=bif p q then r m ((i+1:Nat):Int)else E0)(b:∀m,r (m+1) (l.length:Int)=E1){fuel:Nat}(hf:l.length<fuel):r fuel 0=bif l.all p then E1 else E0:=by
 have go:∀(aa:Y α) (i m:Nat),l.drop i=aa->aa.length<m->i<=l.length->r m (i:Int)=bif aa.all p then E1 else E0:=by
  intro aa;induction aa with
  |nil=>
   intro i m hd hm hi;obtain⟨m,rfl⟩:∃k,m=k+1:=⟨m-1,I⟩
   grind
  |cons q aa ih=>
   intro i m hd hm hi;obtain⟨m,rfl⟩:∃k,m=k+1:=⟨m-1,I⟩
   grind[Yf]
 exact go l 0 fuel rfl hf (Nat.zero_le _)
theorem FS{α β S:Type}{r:Nat->Int->S->β}{l:Y α}{f:S->α->S}{E:S->β}(a:∀m i q s,l[i]? = some q->i<l.length->r (m+1) (i:Int) s=r m ((i+1:Nat):Int) (f s q))(b:∀m s,r (m+1) (l.length:Int) s=E s){fuel:Nat}(hf:l.length<fuel)(s:S):r fuel 0 s=E (l.foldl f s):=by
 have go:∀(aa:Y α) (i m:Nat) (s:S),l.drop i=aa->aa.length<m->i<=l.length->r m (i:Int) s=E (aa.foldl f s):=by
  intro aa;induction aa with
  |nil=>
   intro i m s hd hm hi;obtain⟨m,rfl⟩:∃k,m=k+1:=⟨m-1,I⟩
   grind
  |cons q aa ih=>
   intro i m s hd hm hi;obtain⟨m,rfl⟩:∃k,m=k+1:=⟨m-1,I⟩;obtain⟨e,ai,ac⟩:=Yf hd;rw[a m i q s e ac,QrQ,ih (i+1) m _ ai Q4 ac]
 exact go l 0 fuel s rfl hf (Nat.zero_le _)
theorem El{α:Type}{p:α->Bool}:∀{l:Y α} {c:Bool},l.foldl (λc q=>c||p q) c=(c||l.any p)
 |[],c=>(Bool.or_false c).symm
 |q::l,c=>by rw[QrQ,El,List.any_cons,Bool.or_assoc]
def LP(t:Int)(q:Occ):Bool:=!decide (q.2.2-q.2.1>t)
theorem QjV{l:Int}{O:Y Occ}(hO:OL l O){q:Occ}(hq:q∈O):wJ (q.2.2-q.2.1)=q.2.2-q.2.1:=by
 have:=hO.mem q hq
 grind[Qo]
theorem Qh7{t:Int}{O:Y Occ}(a:1<=t)(b:t<=7200)(hO:OL (-1) O)(hl:O.length<=300):Tg 400 t (O.map enc) (some:Bool->oP Bool)=some (O.all (LP t)):=by
 unfold Tg;rw[Q5 (t<1),Q5 (t>7200),Q5N hl hO];simp -implicitDefEqProofs only[Qra,Qh,Qrn,QrC,Qrg];refine(TU (r:=λm i=>Ui 400 t (O.map enc) (O.length:Int) (some false) (λ_ _=>some true) m i) (l:=O) (p:=LP t) (E0:=some false) (E1:=some true) (λm i q e hi=>?_) (λm=>?_) I).trans (by cases O.all (LP t)<;>rfl)
 ·rw[Ui,Qt hi,Qrc,X6 e];simp -implicitDefEqProofs only[Qh,Mv,Fg,Eu,Qj,QJ (show i<=1000 by omega),QjV hO (Qrf e)];unfold LP;cases decide (q.2.2-q.2.1>t)<;>rfl
 ·rw[Ui,Qy,Qra]
def tie(la:Int)(x y:Occ):Bool:=bif x.1 == y.1 then decide (la+y.2.1<=x.2.2)else false
def Q3J(per la mo:Int)(x y:Occ):Bool:=decide ((if x.2.2<mo+y.2.2 then mo+y.2.2 else x.2.2)-(if la+y.2.1<x.2.1 then la+y.2.1 else x.2.1)>per)
def Qac(per la mo:Int)(A B:Y Occ):Bool:=A.any λx=>B.any λy=>bif tie la x y then Q3J per la mo x y else false
def Q5k(la:Int)(A B:Y Occ)(r:Int):Bool:=A.any λx=>B.any λy=>bif tie la x y then x.1 == r else false
namespace Cx
variable{R:Type} {n:Nat} {X:Cx}
theorem Qiy{per la mo:Int}{O:Y Occ}(hO:OL (-1) O)(hl:O.length<=300){x:Occ}(hx : -1000<=x.2.1/\x.2.1<x.2.2/\x.2.2<=20000)(d:0<=la)(f:la<=20000)(h2:0<=mo)(g:mo<=20000){k0:Int->Bool->Bool->oP R}{Kc:Bool->oP R}(hk:∀a b c,k0 a b c=Kc c)(c:Bool) :
  X0 n (O.map enc) (O.length:Int) la (Ql x.1) (Ql x.2.1) (Ql x.2.2) per la mo k0 400 0 c=Kc (c||O.any λy=>bif tie la x y then Q3J per la mo x y else false):=by
 rw[<- El];refine FS (r:=λm i c=>X0 n (O.map enc) (O.length:Int) la (Ql x.1) (Ql x.2.1) (Ql x.2.2) per la mo k0 m i c) (E:=Kc) (λm i q c e hi=>?_) (λm c=>?_) I c
 ·have:=hO.mem q (Qrf e);rw[X0,Qt hi,Qrc,X6 e];simp -implicitDefEqProofs only[Qh,Mv,Fg,Eu,Qj,QJ (show i<=1000 by omega),Qo (x:=la+q.2.1) I I];unfold Yk;simp -implicitDefEqProofs only[Qh,Qo (x:=la+q.2.1) I I,Qo (x:=mo+q.2.2) I I];rw[Qo (x:=(if x.2.2<mo+q.2.2 then mo+q.2.2 else x.2.2)-(if la+q.2.1<x.2.1 then la+q.2.1 else x.2.1)) (by split<;>split<;>omega) (by split<;>split<;>omega)];show(bif tie la x q then X0 n (O.map enc) (O.length:Int) la (Ql x.1) (Ql x.2.1) (Ql x.2.2) per la mo k0 m ((i+1:Nat):Int) (bif c then true else Q3J per la mo x q)else _)=_;cases tie la x q<;>cases c<;>rfl
 ·rw[X0,Qy,Qra,hk]
theorem map1{la:Int}{O:Y Occ}(hO:OL (-1) O)(hl:O.length<=300){x:Occ}(d:0<=la)(f:la<=20000){k0:Int->Bool->(Int->Bool)->oP R}{Kc:(Int->Bool)->oP R}(hk:∀a b c,k0 a b c=Kc c)(c:Int->Bool) :
  Xd n (O.map enc) (O.length:Int) la (Ql x.1) (Ql x.2.1) (Ql x.2.2) k0 400 0 c=Kc (O.foldl (λc y=>bif tie la x y then Q89 c x.1 true else c) c):=by
 refine FS (r:=λm i c=>Xd n (O.map enc) (O.length:Int) la (Ql x.1) (Ql x.2.1) (Ql x.2.2) k0 m i c) (E:=Kc) (λm i q c e hi=>?_) (λm c=>?_) I c
 ·have:=hO.mem q (Qrf e);rw[Xd,Qt hi,Qrc,X6 e];simp -implicitDefEqProofs only[Qh,Mv,Fg,Eu,Qj,QJ (show i<=1000 by omega),Qo (x:=la+q.2.1) I I];unfold XL;simp -implicitDefEqProofs only[Qh];show(bif tie la x q then _ else _)=_;cases tie la x q<;>rfl
 ·rw[Xd,Qy,Qra,hk]
theorem QgB{q:Int->Bool}{x r:Int}:Q89 q x true r=(q r||(x == r)):=by
 grind[Q89]
theorem QgL{la:Int}{x:Occ}{r:Int}:∀{O:Y Occ} {c:Int->Bool},O.foldl (λc y=>bif tie la x y then Q89 c x.1 true else c) c r=(c r||O.any λy=>bif tie la x y then x.1 == r else false)
 |[],c=>(Bool.or_false _).symm
 |y::O,c=>by
  rw[QrQ,QgL,List.any_cons];cases tie la x y
  ·rfl
  ·rw[Qrc,Qrc,QgB,Bool.or_assoc]
def occN(X:Cx)(a:Nat):Y Occ:=(X.occs X.L).getD a []
def N(X:Cx):Nat:=base X.nr X.L
variable(h:X.OK)
include h
theorem JB{a:Nat}(ha:a<X.N):Qi (Kh (X.occs X.L)) (a:Int)=some [D.sl 3 ((X.occN a).map enc)]/\OL (-1) (X.occN a)/\(X.occN a).length<=6:=by
 obtain⟨i,k,b,h2,rfl⟩:=Bz ha;have e:X.occN (base X.nr i+k)=X.occ i k:=by
  unfold occN;rw[Qrh,show(X.occs X.L)[base X.nr i+k]? = some (X.occ i k)from Q2n h2 b];rfl
 rw[e];exact⟨QgO b h2,QgN h b h2⟩
theorem QeT:X.jns.length<=30:=by
 have:=Qfg h (i:=X.L) (QrN _);have:=h.tl
 grind[jns,List.length_append,List.length_map]
structure JOK(X:Cx)(J:List Tup):Prop where
 at':∀t∈J,t.1<X.N/\t.2.1<X.N/\0<=t.2.2.1/\t.2.2.1<=20000/\0<=t.2.2.2/\t.2.2.2<=20000
 len:J.length<=30
theorem Qji{J:Y Tup}(hJ:X.JOK J){per:Int}{t:Tup}(ht:t∈J)(K:Bool->oP R):Wd 400 per (Kh (X.occs X.L)) (t.1:Int) (t.2.1:Int) t.2.2.1 t.2.2.1 t.2.2.2 false K=K (Qac per t.2.2.1 t.2.2.2 (X.occN t.1) (X.occN t.2.1)):=by
 have hj:=hJ.at' t ht;have oa:=JB h hj.1;have ob:=JB h hj.2.1;unfold Wd Qac;rw[oa.1];simp -implicitDefEqProofs only[Qh,Qr9,X2,Qrg];rw[<- Bool.false_or (List.any _ _),<- El];refine FS (r:=λm i c=>XA 400 ((X.occN t.1).map enc) (((X.occN t.1).length:Nat):Int) (t.2.1:Int) t.2.2.1 per (Kh (X.occs X.L)) t.2.2.1 t.2.2.2 (λb d a=>K a) m i c) (E:=K) (λm i q c e hi=>?_) (λm c=>?_) I false
 ·have hq:=oa.2.1.mem q (Qrf e);rw[XA,Qt hi,Qrc,X6 e,ob.1];simp -implicitDefEqProofs only[Qh,Mv,Fg,Eu,Qr9,X2,Qrg,QJ (show i<=1000 by omega)];exact Qiy (per:=per) ob.2.1 I ⟨hq.2.1,hq.2.2.1,hq.2.2.2.1⟩ hj.2.2.1 hj.2.2.2.1 hj.2.2.2.2.1 hj.2.2.2.2.2 (Kc:=λc=>XA 400 ((X.occN t.1).map enc) (((X.occN t.1).length:Nat):Int) (t.2.1:Int) t.2.2.1 per (Kh (X.occs X.L)) t.2.2.1 t.2.2.2 (λb d a=>K a) m ((i+1:Nat):Int) c) (λ_ _ _=>rfl) c
 ·rw[XA,Qy,Qra]
theorem QkC{J:Y Tup}(hJ:X.JOK J){t:Tup}(ht:t∈J)(q:Int->Bool):∃q',(∀K:(Int->Bool)->oP R,Wf 400 (Kh (X.occs X.L)) (t.1:Int) (t.2.1:Int) t.2.2.1 q K=K q')/\∀r,q' r=(q r||Q5k t.2.2.1 (X.occN t.1) (X.occN t.2.1) r):=by
 have hj:=hJ.at' t ht;have oa:=JB h hj.1;have ob:=JB h hj.2.1;refine⟨(X.occN t.1).foldl (λq x=>(X.occN t.2.1).foldl (λc y=>bif tie t.2.2.1 x y then Q89 c x.1 true else c) q) q,λK=>?_,λr=>?_⟩
 ·unfold Wf;rw[oa.1];simp -implicitDefEqProofs only[Qh,Qr9,X2,Qrg];refine FS (r:=λm i c=>XB 400 ((X.occN t.1).map enc) (((X.occN t.1).length:Nat):Int) (t.2.1:Int) t.2.2.1 (Kh (X.occs X.L)) (λb d a=>K a) m i c) (E:=K) (λm i q c e hi=>?_) (λm c=>?_) I q
  ·rw[XB,Qt hi,Qrc,X6 e,ob.1];simp -implicitDefEqProofs only[Qh,Mv,Fg,Eu,Qr9,X2,Qrg,QJ (show i<=1000 by omega)];exact map1 ob.2.1 I hj.2.2.1 hj.2.2.2.1 (Kc:=λc=>XB 400 ((X.occN t.1).map enc) (((X.occN t.1).length:Nat):Int) (t.2.1:Int) t.2.2.1 (Kh (X.occs X.L)) (λb d a=>K a) m ((i+1:Nat):Int) c) (λ_ _ _=>rfl) c
  ·rw[XB,Qy,Qra]
 ·unfold Q5k;generalize X.occN t.1=A;induction A generalizing q with
  |nil=>exact(Bool.or_false _).symm
  |cons x A ih=>rw[QrQ,ih,QgL,List.any_cons,Bool.or_assoc]
def jab(a b:Nat)(t:Tup):Bool:=bif (bif (t.1:Int) == (a:Int)then(t.2.1:Int) == (b:Int)else false)then true else bif (t.1:Int) == (b:Int)then(t.2.1:Int) == (a:Int)else false
def TRb(X:Cx)(J:Y Tup)(a b:Nat)(r:Int):Bool:=J.any λt=>bif jab a b t then Q5k t.2.2.1 (X.occN t.1) (X.occN t.2.1) r else false
theorem Qjk{J:Y Tup}(hJ:X.JOK J){a b:Nat}:∃q,(Yd 400 (Kh (X.occs X.L)) (J.map tuR) (a:Int) (b:Int) some:oP (Int->Bool))=some q/\∀r,q r=X.TRb J a b r:=by
 have hl:=hJ.len;unfold Yd;rw[Qrg];have go:∀(aa:Y Tup) (i m:Nat) (q:Int->Bool),J.drop i=aa->aa.length<m->∃q',(QN 400 (a:Int) (b:Int) (J.map tuR) (J.length:Int) (Kh (X.occs X.L)) (λl n j=>some j) m (i:Int) q:oP (Int->Bool))=some q'/\∀r,q' r=(q r||X.TRb aa a b r):=by
  intro aa;induction aa with
  |nil=>
   intro i m q hd hm;obtain⟨m,rfl⟩:∃k,m=k+1:=⟨m-1,by simp at hm;omega⟩;have:=Wc hd;exact⟨q,by rw[QN,show decide ((i:Int)<(J.length:Int))=false by simpa using this,Qra],λr=>(Bool.or_false _).symm⟩
  |cons t aa ih=>
   intro i m q hd hm;obtain⟨m,rfl⟩:∃k,m=k+1:=⟨m-1,by simp at hm;omega⟩;obtain⟨e,ai,hi⟩:=Yf hd;obtain⟨q1,c,h2⟩:=QkC (R:=Int->Bool) h hJ (Qrf e) q;rw[QN,Qt hi,Qrc,X6 e];simp -implicitDefEqProofs only[Qh,tuR,Qr9,Qrd,Qj,QJ (show i<=1000 by omega),c];show ∃q',(bif jab a b t then _ else _)=some q'/\_;cases ac:jab a b t with
   |false=>
    obtain⟨d,f,g⟩:=ih (i+1) m q ai (by simpa using hm);refine⟨d,f,λr=>?_⟩;rw[g,TRb,TRb,List.any_cons,ac,Qra,Bool.false_or]
   |true=>
    obtain⟨d,f,g⟩:=ih (i+1) m q1 ai (by simpa using hm);refine⟨d,f,λr=>?_⟩;rw[g,h2,TRb,TRb,List.any_cons,ac,Qrc,Bool.or_assoc]
 obtain⟨q,c,h2⟩:=go J 0 400 (λ_=>false) rfl I;exact⟨q,c,λr=>by rw[h2,Bool.false_or]⟩
theorem Qb6:∀o∈X.occs X.L,OL (-1) o/\o.length<=6:=by
 intro o ho;obtain⟨a,ha⟩:=List.getElem?_of_mem ho;have aa:=(Qry.1 ha).1;rw[show(X.occs X.L).length=X.N from ZL]at aa;obtain⟨b,h2⟩:=(JB h aa).2
 simp_all [occN,Qrh]
def aloneJ(X:Cx)(per:Int)(J:Y Tup):Bool:=bif (X.occs X.L).all (λo=>o.all (LP per))then J.all λt=>!Qac per t.2.2.1 t.2.2.2 (X.occN t.1) (X.occN t.2.1)else false
theorem Qg4{per:Int}(p0:1<=per)(p1:per<=300){J:Y Tup}(hJ:X.JOK J)(K:Bool->oP R):ZS 400 per (Kh (X.occs X.L)) (J.map tuR) K=K (X.aloneJ per J):=by
 have hN:(X.occs X.L).length<=6:=by rw[show(X.occs X.L).length=base X.nr X.L from ZL];exact base_le h
 have hl:=hJ.len;have hO:=Qb6 h;unfold ZS;rw[Jo,Qrg];refine(TU (r:=λm i=>XS 400 (Kh (X.occs X.L)) (((X.occs X.L).length:Nat):Int) per (K false) (λc d=>Xr 400 (J.map tuR) (J.length:Int) per (Kh (X.occs X.L)) (K false) (λa b=>K true) 400 0) m i) (l:=X.occs X.L) (p:=λo=>o.all (LP per)) (E0:=K false) (E1:=bif J.all (λt=>!Qac per t.2.2.1 t.2.2.2 (X.occN t.1) (X.occN t.2.1))then K true else K false) (λm i o e hi=>?_) (λm=>?_) I).trans ?_
 ·have ho:=hO o (Qrf e);have aa:Qi (Kh (X.occs X.L)) (i:Int)=some [D.sl 3 (o.map enc)]:=X6 e;rw[XS,Qt hi,Qrc,aa];simp -implicitDefEqProofs only[Qh,Qr9,X2,Qh7 p0 (show per<=7200 by omega) ho.1 (show o.length<=300 by omega),QJ (show i<=1000 by omega)];cases o.all (LP per)<;>rfl
 ·rw[XS,Qy,Qra];refine TU (r:=λm i=>Xr 400 (J.map tuR) (J.length:Int) per (Kh (X.occs X.L)) (K false) (λa b=>K true) m i) (λm i t e hi=>?_) (λm=>?_) I
  ·rw[Xr,Qt hi,Qrc,X6 e];simp -implicitDefEqProofs only[Qh,tuR,Qr9,Qrd,Qj,QJ (show i<=1000 by omega),Qji h hJ (Qrf e)];cases Qac per t.2.2.1 t.2.2.2 (X.occN t.1) (X.occN t.2.1)<;>rfl
  ·rw[Xr,Qy,Qra]
 ·unfold aloneJ;cases (X.occs X.L).all (λo=>o.all (LP per))<;>cases J.all (λt=>!Qac per t.2.2.1 t.2.2.2 (X.occN t.1) (X.occN t.2.1))<;>rfl
end Cx
namespace Cx
def aR(X:Cx)(i k:Nat):Y D:=[Ql 1,Ql ((2*(base X.nr i+k):Nat):Int),Ql ((2*(base X.nr i+k)+1:Nat):Int),Ql (X.run i k),Ql (X.run i k+X.ex i k),Ql (X.w i)]
def aD(X:Cx)(i k:Nat):Y D:=[Ql 2,Ql ((2*(base X.nr i+k)+1:Nat):Int),Ql ((2*(base X.nr i+k+1):Nat):Int),Ql (X.mn i k),Ql (X.mx i k),Ql (X.w i)]
def pl(X:Cx)(i:Nat):Nat->LL
 |0=>[]
 |k+1=>pl X i k++[X.aR i k]++(if k<X.nr i-1 then[X.aD i k]else[])
def pls(X:Cx):Nat->LL
 |0=>[]
 |i+1=>pls X i++X.pl i (X.nr i)
def chE(X:Cx)(row:Y D):Y D:=match row with
 |[.int _ f,.int _ fr,.int _ t,.int _ tr,mn,mx,w]=>[Ql 3,Ql ((2*(base X.nr f.toNat+fr.toNat)+1:Nat):Int),Ql ((2*(base X.nr t.toNat+tr.toNat):Nat):Int),mn,mx,w]
 |_=>[]
def tuE(X:Cx)(t:Tup):Y D:=[Ql 4,Ql ((2*(base X.nr t.1+(X.nr t.1-1))+1:Nat):Int),Ql ((2*(base X.nr t.2.1+0):Nat):Int),Ql t.2.2.1,Ql t.2.2.2,Ql 1]
def syE(X:Cx)(row:Y D):Y D:=match row with
 |[_,_,_,_,o]=>[Ql 5,Ql ((2*(base X.nr 0+0):Nat):Int),Ql ((2*(base X.nr 1+0):Nat):Int),o,o,Ql 0]
 |_=>[]
def planned(X:Cx)(Ch Sy:LL):LL:=X.pls X.L++Ch.map X.chE++X.T.map X.tuE++Sy.map X.syE
variable{R:Type} {n:Nat} {X:Cx}
theorem Q85{i:Nat}:∀{k:Nat},(X.pl i k).length<=2*k
 |0=>QrN _
 |k+1=>by
  have:=Q85 (i:=i) (k:=k);rw[pl,QrA,QrA];split<;>simp<;>omega
theorem Q0c:∀{i:Nat},(X.pls i).length<=2*base X.nr i
 |0=>QrN _
 |i+1=>by
  have:=Q0c (i:=i);have:=Q85 (X:=X) (i:=i) (k:=X.nr i);rw[pls,QrA,base];omega
structure LsOK(X:Cx)(per:Int)(Ch Sy:LL):Prop where
 ch:∀row∈Ch,∃(f fr t tr:Nat) (mn mx w:Int),row=[Ql f,Ql fr,Ql t,Ql tr,Ql mn,Ql mx,Ql w]/\f<X.Ls.length/\fr<X.nr f/\t<X.Ls.length/\tr<X.nr t/\(0<=mn/\mn<20/\mn<=mx/\mx<mn+per)/\0<=w/\w<3
 chl:Ch.length<=2
 sy:∀row∈Sy,∃o:Int,row=[Ql 0,Ql 0,Ql 1,Ql 0,Ql o]/\0<=o/\o<per/\2<=X.Ls.length
 syl:Sy.length<=1
variable(h:X.OK) {per:Int} {Ch Sy De:LL} (hl:X.LsOK per Ch Sy)
theorem QfD{A:LL}(hA:A.length<=1000){a1 a2 a b c d:Int}(K:LL->oP R):Xt n A a1 a2 a b c d K=K (A++[[Ql a1,Ql a2,Ql a,Ql b,Ql c,Ql d]]):=by
 grind[Xt,XM,Qh]
include h
theorem QiI{i:Nat}(hi:i<X.Ls.length){k0:Int->Bool->LL->oP R}:QK 400 (i:Int) (Hl X.Ls i) ((X.nr i:Nat):Int) (Ql (X.w i)) (D.sl 4 (Hl X.Ls i)) (X.fst X.L) (encI (X.runs X.L)) k0 400 0 (X.pls i)=k0 ((X.nr i:Nat):Int) false (X.pls i++X.pl i (X.nr i)):=by
 have hn:=(line h hi).2.1;have hb:=Zv h (i:=i) I;have hp:=Q0c (X:=X) (i:=i);have hw:wJ (((List.length (Hl X.Ls i):Nat):Int)-1)=((X.nr i-1:Nat):Int):=G8 (k:=X.nr i) I I;refine QZ (r:=λm k=>QK 400 (i:Int) (Hl X.Ls i) ((X.nr i:Nat):Int) (Ql (X.w i)) (D.sl 4 (Hl X.Ls i)) (X.fst X.L) (encI (X.runs X.L)) k0 m k (X.pls i++X.pl i k.toNat)) (N:=X.nr i) (λm k hk=>?_) (λm=>?_) (X.nr i) 400 0 I I |> Eq.trans (by simp[pl])
 ·simp only[Qrb];have r:=rd h hi hk;have b:=r.ex0;have e1:=r.ex1;have hr:=Df h hi hk;have aa:Qi (Hl X.Ls i) (k:Int)=some [Ql (rF X.Ls i k 0),Ql (X.ex i k),Ql (X.mn i k),Ql (X.mx i k)]:=by rw[Qp,r.row]
  have ai:=Q85 (X:=X) (i:=i) (k:=k);have ac:=Q7e (X:=X) hi hk;rw[QK,Qt hk,Qrc,aa];simp -implicitDefEqProofs only[Qh,Qr9,Qrd,Qj,X2,hw,Q1y (n:=400) h hi (show k<=10 by omega),ac,QJ (show k<=1000 by omega),QdC (n:=400) (show base X.nr i+k<=1000 by omega),QiD (n:=400) (show base X.nr i+k<=1000 by omega),QJ (show base X.nr i+k<=1000 by omega),QdC (n:=400) (show base X.nr i+k+1<=1000 by omega),Qo (x:=X.run i k+X.ex i k) I I,QfD (n:=400) (A:=X.pls i++X.pl i k) Q3,QfD (n:=400) (A:=X.pls i++X.pl i k++[[Ql 1,Ql ((2*(base X.nr i+k):Nat):Int),Ql ((2*(base X.nr i+k)+1:Nat):Int),Ql (X.run i k),Ql (X.run i k+X.ex i k),Ql (X.w i)]]) Q3];by_cases a:k<X.nr i-1
  ·rw[Qt a,Qrc,pl,Qrx a,<- Qrl,<- Qrl];rfl
  ·rw[Q5 ((k:Int)<((X.nr i-1:Nat):Int)),Qra,pl,Qrz a,Qru,<- Qrl];rfl
 ·simp only[Qrb];rw[QK,Qy,Qra]
include hl
theorem QbU(K:LL->oP R):YD 400 X.Ls Ch (X.T.map tuR) Sy (X.fst X.L) (encI (X.runs X.L)) [] K=K (X.planned Ch Sy):=by
 have l1:=h.l1;have tl:=h.tl;have hp:=Q0c (X:=X) (i:=X.L);have hb:=base_le h;have chl:=hl.chl;have syl:=hl.syl;unfold YD;have s2:∀k0:Int->Bool->LL->oP R,QV 400 X.Ls (X.Ls.length:Int) (X.fst X.L) (encI (X.runs X.L)) k0 400 0 []=k0 (X.Ls.length:Int) false (X.pls X.L):=by
  intro k0;refine QZ (r:=λm i=>QV 400 X.Ls (X.Ls.length:Int) (X.fst X.L) (encI (X.runs X.L)) k0 m i (X.pls i.toNat)) (N:=X.Ls.length) (λm i hi=>?_) (λm=>?_) X.Ls.length 400 0 I I
  ·simp only[Qrb];rw[QV,Qt hi,Qrc,Qp,(line h hi).1];simp -implicitDefEqProofs only[Qh,Qr9,Qrd,X2,QJ (show i<=1000 by omega)];exact QiI h hi
  ·simp only[Qrb];rw[QV,Qy,Qra];rfl
 have k:∀k0:Int->Bool->LL->oP R,QX 400 Ch (Ch.length:Int) (X.fst X.L) k0 400 0 (X.pls X.L)=k0 (Ch.length:Int) false (X.pls X.L++Ch.map X.chE):=by
  intro k0;refine QZ (r:=λm j=>QX 400 Ch (Ch.length:Int) (X.fst X.L) k0 m j (X.pls X.L++(Ch.take j.toNat).map X.chE)) (N:=Ch.length) (λm j hj=>?_) (λm=>?_) Ch.length 400 0 I I |> Eq.trans Q2
  ·simp only[Qrb];obtain⟨row,e⟩:∃q,Ch[j]? = some q:=⟨Ch[j],Qre hj⟩;obtain⟨f,fr,t,tr,mn,mx,w,rfl,g1,l,c,v,x,y⟩:=hl.ch row (Qrf e);have nf:=(line h g1).2.1;have nt:=(line h c).2.1;have bf:=Zv h (i:=f) I;have bt:=Zv h (i:=t) I;rw[QX,Qt hj,Qrc,Qp,e,ZA e,Qrm,<- Qrl];simp -implicitDefEqProofs only[Qh,Qr9,Qrd,Qj,Q1y (n:=400) h g1 (show fr<=10 by omega),Q1y (n:=400) h c (show tr<=10 by omega),QJ (show j<=1000 by omega),QiD (n:=400) (show base X.nr f+fr<=1000 by omega),QdC (n:=400) (show base X.nr t+tr<=1000 by omega),QfD (n:=400) (A:=X.pls X.L++(Ch.take j).map X.chE) Q3];rfl
  ·simp only[Qrb];rw[QX,Qy,Qra,QrE]
 have p:∀k0:Int->Bool->LL->oP R,QW 400 (X.T.map tuR) (X.T.length:Int) (X.fst X.L) X.Ls k0 400 0 (X.pls X.L++Ch.map X.chE)=k0 (X.T.length:Int) false (X.pls X.L++Ch.map X.chE++X.T.map X.tuE):=by
  intro k0;refine QZ (r:=λm j=>QW 400 (X.T.map tuR) (X.T.length:Int) (X.fst X.L) X.Ls k0 m j (X.pls X.L++Ch.map X.chE++(X.T.take j.toNat).map X.tuE)) (N:=X.T.length) (λm j hj=>?_) (λm=>?_) X.T.length 400 0 I I |> Eq.trans Q2
  ·simp only[Qrb];obtain⟨⟨a,b,lo,hi⟩,e⟩:∃q,X.T[j]? = some q:=⟨X.T[j],Qre hj⟩;have ht:=h.tr _ (Qrf e);have g1:a<X.Ls.length:=ht.1;have c:b<X.Ls.length:=ht.2.1;have nf:=(line h g1).2.1;have bf:=Zv h (i:=a) I;have bt:=Zv h (i:=b) I;have aa:Qi (X.T.map tuR) (j:Int)=some [Ql a,Ql b,Ql lo,Ql hi]:=X6 e;have s:X.pls X.L++Ch.map X.chE++(X.T.take (j+1)).map X.tuE=X.pls X.L++Ch.map X.chE++(X.T.take j).map X.tuE++[X.tuE (a,b,lo,hi)]:=by rw[ZA e,Qrm,<- Qrl];rfl
   have d:=Q1y (R:=Int) (n:=400) h c (Nat.zero_le 10) some;rw[show((0:Nat):Int)=0 from rfl]at d;rw[QW,Qt hj,Qrc,aa,s];simp -implicitDefEqProofs only[Qh,Qr9,Qrd,Qj,Qgl (n:=400) h g1,d,QJ (show j<=1000 by omega),QiD (n:=400) (show base X.nr a+(X.nr a-1)<=1000 by omega),QdC (n:=400) (show base X.nr b+0<=1000 by omega),QfD (n:=400) (A:=X.pls X.L++Ch.map X.chE++(X.T.take j).map X.tuE) Q3];rfl
  ·simp only[Qrb];rw[QW,Qy,Qra,QrE]
 have u:∀k0:Int->Bool->LL->oP R,QY 400 Sy (Sy.length:Int) (X.fst X.L) k0 400 0 (X.pls X.L++Ch.map X.chE++X.T.map X.tuE)=k0 (Sy.length:Int) false (X.planned Ch Sy):=by
  intro k0;refine QZ (r:=λm j=>QY 400 Sy (Sy.length:Int) (X.fst X.L) k0 m j (X.pls X.L++Ch.map X.chE++X.T.map X.tuE++(Sy.take j.toNat).map X.syE)) (N:=Sy.length) (λm j hj=>?_) (λm=>?_) Sy.length 400 0 I I |> Eq.trans Q2
  ·simp only[Qrb];obtain⟨row,e⟩:∃q,Sy[j]? = some q:=⟨Sy[j],Qre hj⟩;obtain⟨o,rfl,g1,l,c⟩:=hl.sy row (Qrf e);have bt:=Zv h (i:=1) I;have d:=Q1y (R:=Int) (n:=400) h (show 0<X.Ls.length by omega) (Nat.zero_le 10) some;have g:=Q1y (R:=Int) (n:=400) h (show 1<X.Ls.length by omega) (Nat.zero_le 10) some;simp only[show((0:Nat):Int)=0 from rfl,show((1:Nat):Int)=1 from rfl]at d g;rw[QY,Qt hj,Qrc,Qp,e,ZA e,Qrm,<- Qrl];simp -implicitDefEqProofs only[Qh,Qr9,Qrd,Qj,d,g,QJ (show j<=1000 by omega),QdC (n:=400) (show base X.nr 0+0<=1000 by simp[base]),QdC (n:=400) (show base X.nr 1+0<=1000 by omega),QfD (n:=400) (A:=X.pls X.L++Ch.map X.chE++X.T.map X.tuE++(Sy.take j).map X.syE) Q3];rfl
  ·simp only[Qrb];rw[QY,Qy,Qra,QrE];rfl
 rw[s2,k,Qrg,p,u]
end Cx
theorem OL.uniq:∀{l:Int} {O:Y Occ},OL l O->∀{p q:Occ},p∈O->q∈O->p.1=q.1->p=q
 |_,[],_,_,_,h,_,_=>nomatch h
 |l,(x,a,b)::r,⟨c,h2,d,f,h5,h6⟩,p,q,hp,hq,e=>by
  cases hp with
  |head=>
   cases hq with
   |head=>rfl
   |tail _ hq=>have:=(h6.mem q hq).1;dsimp only at e;omega
  |tail _ hp=>
   cases hq with
   |head=>have:=(h6.mem p hp).1;dsimp only at e;omega
   |tail _ hq=>exact h6.uniq hp hq e
theorem QdH{t:Int}{A A' B:Y Occ}{y:Int}:FB t (A++A') B y↔FB t A B y\/FB t A' B y:=by
 constructor
 ·rintro⟨x,a,b,c,d,e,h2,f⟩;rcases Qrj.1 e with e | e
  ·exact .inl ⟨x,a,b,c,d,e,h2,f⟩
  ·exact .inr ⟨x,a,b,c,d,e,h2,f⟩
 ·rintro (⟨x,a,b,c,d,e,h2,f⟩|⟨x,a,b,c,d,e,h2,f⟩)
  ·exact⟨x,a,b,c,d,Qro _ e,h2,f⟩
  ·exact⟨x,a,b,c,d,QrF _ e,h2,f⟩
def EU(f:Nat->Bool)(n:Nat):LL:=(List.range n).map λi=>[D.bool (f i)]
theorem Q7K{f:Nat->Bool}{n:Nat}:(EU f n).length=n:=by simp[EU]
theorem DT{f:Nat->Bool}{n i:Nat}(h:i<n):(EU f n)[i]? = some [D.bool (f i)]:=by simp[EU,h]
theorem Qcb{f g:Nat->Bool}{n i:Nat}(h:∀y,y<n->g y=if y=i then true else f y):(EU f n).set i [D.bool true]=EU g n:=by
 apply QrT;intro j
 grind[DT,List.getElem?_eq_none,Q7K]
section
variable{R:Type} {n:Nat} {t:Int}
theorem Q78{O:Y Occ}(hl:O.length<=1000){k0:oP R}{k1:Int->Bool->oP R}{E:oP R}(hk:∀b c,k1 b c=E):∀(aa:Y Occ) (i m:Nat) (last:Int),O.drop i=aa->aa.length<m -> -1<=last->OL last aa->(0<i->∃a b,O[i-1]? = some (last,a,b))->Z8 n (O.map enc) k0 k1 m (i:Int)=E
 |[],i,m+1,last,hd,_,_,_,_=>by
  have:=Wc hd;rw[Z8,Qrg,show decide ((i:Int)<(O.length:Int))=false by simpa using this,Qra,hk]
 |(x,a,b)::aa,i,m+1,last,hd,hm,aj,⟨f,h2,g,h,h5,h6⟩,hp=>by
  obtain⟨e,ac,hi⟩:=Yf hd;have ih:=Q78 (k0:=k0) hl hk aa (i+1) m x ac (by simpa using hm) I h6 (λ_=>⟨a,b,e⟩);rw[Z8,Qrg,Qt hi,Qrc,X6 e];simp -implicitDefEqProofs only[Qh,Mv,Fg,Eu,Qj,Q5 (x<0),QrC,Bool.true_and,Qra,QJ (show i<=1000 by omega)];have rest:∀z:Bool,z=false->(bif bif bif bif z then true else decide (a<(-65536:Int))then true else decide (b>(65536:Int))then true else decide (a>=b)then k0 else Z8 n (O.map enc) k0 k1 m ((i+1:Nat):Int))=E:=λz hz=>by
   rw[hz,Q5 (a < -65536),Q5 (b>65536),Q5 (a>=b)];exact ih
  by_cases d:i=0
  ·subst d;simp -implicitDefEqProofs only[show decide (((0:Nat):Int)>0)=false from rfl,gbF,Qra];exact rest false rfl
  ·obtain⟨a',b',e'⟩:=hp I;rw[G8 (show i<=1000 by omega) I,X6 e'];simp -implicitDefEqProofs only[Qh,Mv,Qj,Q6 ((i:Int)>0),Qrc];exact rest _ (Qri I)
theorem Qaz{O:Y Occ}(hl:O.length<=300)(h:OL (-1) O):JU 400 (O.map enc) (some:Bool->oP Bool)=some true:=by
 exact Q78 I (λ_ _=>rfl) O 0 400 (-1) rfl I I h (λh=>by omega)
theorem Q9W{O:Y Occ}(hl:O.length<=1000){x:Int}{K:D->D->D->Bool->oP R}{k0:D->D->D->oP R}{k1:Int->Bool->oP R}(g:∀a b c,k0 a b c=K a b c true)(h:∀a b,k1 a b=K (Ql 0) (Ql 0) (Ql 0) false):∀(aa:Y Occ) (i m:Nat),O.drop i=aa->aa.length<m->(∃c d,(x,c,d)∈aa/\Uu n (O.map enc) x k0 k1 m (i:Int)=K (Ql x) (Ql c) (Ql d) true)\/((∀p∈aa,p.1≠x)/\Uu n (O.map enc) x k0 k1 m (i:Int)=K (Ql 0) (Ql 0) (Ql 0) false)
 |[],i,m+1,hd,_=>by
  have:=Wc hd;refine .inr ⟨λp hp=>(nomatch hp),?_⟩;rw[Uu,Qrg,show decide ((i:Int)<(O.length:Int))=false by simpa using this,Qra,h]
 |(x',a,b)::aa,i,m+1,hd,hm=>by
  obtain⟨e,ac,hi⟩:=Yf hd;rw[Uu,Qrg,Qt hi,Qrc,X6 e];simp -implicitDefEqProofs only[Qh,Mv,Fg,Eu,Qj,QJ (show i<=1000 by omega),g];by_cases hx:x'=x
  ·subst hx;exact .inl ⟨a,b,.head _,by rw[show(x' == x')=true by simp,Qrc]⟩
  ·rw[show(x' == x)=false by simpa using hx,Qra];rcases Q9W hl g h aa (i+1) m ac (by simpa using hm)with⟨c,d,f,h2⟩|⟨f,h2⟩
   ·exact .inl ⟨c,d,.tail _ f,h2⟩
   ·refine .inr ⟨λp hp=>?_,h2⟩;cases hp with
    |head=>exact hx
    |tail _ hp=>exact f p hp
theorem QgK{f k y:Int}(a:1<=t)(hy:0<=y)(aa:y<t)(hk:0<=k)(ac:k<t):y=(f+k) % t↔(y-f) % t=k:=by
 constructor
 ·intro h;rw[h,Int.sub_emod,Int.emod_emod,<- Int.sub_emod,show f+k-f=k by omega];exact QrS hk ac
 ·intro h;rw[<- h,Int.add_emod,Int.emod_emod,<- Int.add_emod,show f+(y-f)=y by omega];exact(QrS hy aa).symm
theorem Qfn(c:1<=t)(o:t<=300){K:LL->oP R}{k0:Int->Bool->LL->oP R}(hk:∀a b w,k0 a b w=K w){A:Y Occ}{i:Nat}{x a b d nn:Int}(e:A[i]? = some (x,a,b))(ha : -1000<=a)(an:a<=20000)(hd : -1000<=d)(am:d<=20000){f:Nat->Bool} :
  ∃g:Nat->Bool,Zi n t (A.map enc) (i:Int) nn (Ql d) k0 400 0 (EU f t.toNat)=K (EU g t.toNat)/\∀y,y<t.toNat->(g y=true↔f y=true\/((y:Int)-(a-d+1)) % t<nn):=by
 let N:Nat:=(if nn<t then nn else t).toNat;have hN:(N:Int)=if nn<0 then 0 else if nn<t then nn else t:=by
  show(((if nn<t then nn else t).toNat:Nat):Int)=_;split<;>split<;>omega
 have ac:(N:Int)<=t:=by rw[hN];split<;>(try split)<;>omega
 have ak:(N:Int)<=nn\/N=0:=by
  by_cases h:nn<0
  ·rw[Qrx h]at hN;right;omega
  ·rw[Qrz h]at hN;left;rw[hN];split<;>omega
 refine⟨λy=>f y||decide (((y:Int)-(a-d+1)) % t<(N:Int)),?_,λy hy=>?_⟩
 ·have j:EU f t.toNat=EU (λy=>f y||decide (((y:Int)-(a-d+1)) % t<((0:Nat):Int))) t.toNat:=by
   unfold EU;apply List.map_congr_left;intro y _;have:=Qrt ((y:Int)-(a-d+1)) (show t≠0 by omega);show[D.bool (f y)]=[D.bool (f y||decide (((y:Int)-(a-d+1)) % t<((0:Nat):Int)))];rw[Q5 (((y:Int)-(a-d+1)) % t<((0:Nat):Int)),Bool.or_false]
  rw[j];refine QZ (r:=λm k=>Zi n t (A.map enc) (i:Int) nn (Ql d) k0 m k (EU (λy=>f y||decide (((y:Int)-(a-d+1)) % t<k)) t.toNat)) (N:=N) (λm k ai=>?_) (λm=>?_) N 400 0 I I
  ·have l:=Qrt (a-d+1+(k:Int)) (show t≠0 by omega);have p:=Qrq (a-d+1+(k:Int)) (show 0<t by omega);rw[Zi,Q6 ((k:Int)<nn),Q6 ((k:Int)<t),Qrc,Qrc,X6 e];simp -implicitDefEqProofs only[Qh,Fg,Qj,Qo (x:=a-d) I I,Qo (x:=a-d+1) I I,Qo (x:=a-d+1+(k:Int)) I I,QhX (n:=n) (x:=a-d+1+(k:Int)) c (show t<=7200 by omega) I I,Q7K,XR (len:=t.toNat) l I,DT (f:=λy=>f y||decide (((y:Int)-(a-d+1)) % t<(k:Int))) (n:=t.toNat) (i:=((a-d+1+(k:Int)) % t).toNat) I,Qrw];rw[Qcb (g:=λy=>f y||decide (((y:Int)-(a-d+1)) % t<((k+1:Nat):Int))) (λy hy=>?_),Qo I I]
   ·rfl
   ·have hd:=QgK (t:=t) (f:=a-d+1) (k:=k) (y:=y) c I I I I;by_cases aa:y=((a-d+1+(k:Int)) % t).toNat
    ·rw[Qrx aa,show decide (((y:Int)-(a-d+1)) % t<((k+1:Nat):Int))=true from Qrk (by have:=hd.1 I;omega),Bool.or_true]
    ·rw[Qrz aa];congr 1;rw[decide_eq_decide];have:¬ ((y:Int)-(a-d+1)) % t=(k:Int):=λh=>aa (by have:=hd.2 h;omega)
     omega
  ·rw[Zi];rw[show(bif decide ((N:Int)<nn)then decide ((N:Int)<t)else false)=false by
    by_cases h:(N:Int)<nn
    ·rw[Qrk h,Qrc];exact Qri (by rw[hN];split<;>(try split)<;>omega)
    ·rw[Qri h,Qra],Qra,hk]
 ·have q:=Qrt ((y:Int)-(a-d+1)) (show t≠0 by omega);have s:=Qrq ((y:Int)-(a-d+1)) (show 0<t by omega);rw[Bool.or_eq_true,decide_eq_true_eq];refine or_congr_right ?_;rw[hN];split<;>(try split)<;>omega
theorem Q2C(l:1<=t)(o:t<=300){K:LL->oP R}{k0:Int->Bool->LL->oP R}(hk:∀a b w,k0 a b w=K w){A B:Y Occ}(hA:OL (-1) A)(hB:OL (-1) B)(lA:A.length<=100)(lB:B.length<=300):∀(aa P:Y Occ) (m:Nat) (f:Nat->Bool),A=P++aa->aa.length<m->(∀y,y<t.toNat->(f y=true↔FB t P B y)) ->
  ∃g:Nat->Bool,Yj 400 t (A.map enc) (B.map enc) k0 m (P.length:Int) (EU f t.toNat)=K (EU g t.toNat)/\∀y,y<t.toNat->(g y=true↔FB t A B y)
 |[],P,m+1,f,hP,_,hf=>by
  rw[Qru]at hP;subst hP;refine⟨f,?_,hf⟩;rw[Yj,Qrg,Qy,Qra,hk]
 |(x,a,b)::aa,P,m+1,f,hP,hm,hf=>by
  have e:A[P.length]? = some (x,a,b):=by rw[hP,List.getElem?_append_right (QrN _),Nat.sub_self];rfl
  have hi:P.length<A.length:=by rw[hP];simp
  have hq:=hA.mem (x,a,b) (Qrf e);dsimp only at hq;have ai:A=(P++[(x,a,b)])++aa:=by rw[hP];simp
  have ac:=Q9W (n:=400) (O:=B) (x:=x) (K:=λi j k z=>(some (i,j,k,z):oP (D×D×D×Bool))) (k0:=λi j k=>some (i,j,k,true)) (k1:=λ_ _=>some (Ql 0,Ql 0,Ql 0,false)) I (λ_ _ _=>rfl) (λ_ _=>rfl) B 0 400 rfl I;rw[Yj,Qrg,Qt hi,Qrc,X6 e];simp -implicitDefEqProofs only[Qh,Mv,Fg,Eu,Qj];unfold AL;have nx:wJ ((P.length:Int)+1)=(((P++[(x,a,b)]).length:Nat):Int):=by rw[Qo I I];simp
  rw[nx];rcases ac with⟨c,d,g1,p⟩|⟨g1,p⟩
  ·have s:=hB.mem (x,c,d) g1;dsimp only at s;rw[show Uu 400 (B.map enc) x (λi j k=>(some (i,j,k,true):oP (D×D×D×Bool))) (λu v=>some (D.int .i64 (0:Int),D.int .i64 (0:Int),D.int .i64 (0:Int),false)) 400 0=some (Ql x,Ql c,Ql d,true)from p];simp -implicitDefEqProofs only[Qh,Qrn,Qra,Qj];have am:wJ (wJ (wJ (wJ (b-a)+d)-c)-1)=b-a+d-c-1:=by
    rw[Qo (x:=b-a) I I,Qo (x:=b-a+d) I I,Qo (x:=b-a+d-c) I I,Qo I I]
   rw[am];obtain⟨g,k1,k2⟩:=Qfn (n:=400) (nn:=b-a+d-c-1) l o (K:=λw=>Yj 400 t (A.map enc) (B.map enc) k0 m (((P++[(x,a,b)]).length:Nat):Int) w) (k0:=λ_ _ w=>Yj 400 t (A.map enc) (B.map enc) k0 m (((P++[(x,a,b)]).length:Nat):Int) w) (λ_ _ _=>rfl) (f:=f) e (d:=d) I I I I;rw[k1];refine Q2C l o hk hA hB lA lB aa _ m g ai (by simpa using hm) (λy hy=>?_);rw[k2 y hy,QdH,hf y hy];refine or_congr_right ⟨λh=>⟨x,a,b,c,d,.head _,g1,h⟩,?_⟩;rintro⟨x',a',b',c',d',q1,q,r⟩;cases q1 with
   |head=>
    cases hB.uniq q g1 rfl;exact r
   |tail _ q1=>nomatch q1
  ·rw[show Uu 400 (B.map enc) x (λi j k=>(some (i,j,k,true):oP (D×D×D×Bool))) (λu v=>some (D.int .i64 (0:Int),D.int .i64 (0:Int),D.int .i64 (0:Int),false)) 400 0=some (Ql 0,Ql 0,Ql 0,false)from p];simp -implicitDefEqProofs only[Qh,QrC,Qrc];refine Q2C l o hk hA hB lA lB aa _ m f ai (by simpa using hm) (λy hy=>?_);rw[QdH,hf y hy];refine⟨.inl,λh=>h.elim id ?_⟩;rintro⟨x',a',b',c',d',q1,q,r⟩;cases q1 with
   |head=>exact(g1 _ q rfl).elim
   |tail _ q1=>nomatch q1
theorem VS.lastlt{t c d:Int}:∀{l:Int} {M:Y Sp2},VS t l (M++[(c,d)])->(∀q∈M,q.2<c)/\c<d/\d<=t
 |l,[],⟨g,h2,f,_⟩=>⟨λq hq=>(nomatch hq),h2,f⟩
 |l,(a,b)::M,⟨g,h2,f,e⟩=>by
  have ih:=e.lastlt;refine⟨λq hq=>?_,ih.2⟩;cases hq with
  |head=>
   cases M with
   |nil=>exact e.1
   |cons p M=>have:=ih.1 p (.head _);have:=e.1;have:=e.2.1;dsimp only at *;omega
  |tail _ hq=>exact ih.1 q hq
theorem VS.pw{t:Int}:∀{l:Int} {F:Y Sp2},VS t l F->F.Pairwise λp q=>p.2<q.1
 |_,[],_=>.nil
 |l,(a,b)::r,⟨d,h2,e,c⟩=>.cons (λq hq=>(c.rng q hq).1) c.pw
theorem VS.sep{t:Int}:∀{l:Int} {F:Y Sp2},VS t l F->∀p∈F,∀q∈F,p=q\/p.2<q.1\/q.2<p.1
 |_,[],_,p,hp,_,_=>nomatch hp
 |l,(a,b)::r,⟨d,h2,e,c⟩,p,hp,q,hq=>by
  have hr:=c.rng;cases hp with
  |head=>
   cases hq with
   |head=>exact .inl rfl
   |tail _ hq=>exact .inr (.inl (hr q hq).1)
  |tail _ hp=>
   cases hq with
   |head=>exact .inr (.inr (hr p hp).1)
   |tail _ hq=>exact c.sep p hp q hq
structure GP(t:Int)(F G:List Sp2):Prop where
 asc:G.Pairwise λp q=>p.1<q.1
 rng:∀q∈G,0<=q.1/\q.1<t/\q.1<q.2/\q.2<q.1+t
 ins:∀q∈G,∀z,q.1<=z->z<q.2->InS (z % t) F
 out:∀q∈G,¬ InS (q.2 % t) F
 st:∀x,0<=x->x<t->((InS x F/\¬ InS ((x-1) % t) F)↔∃q∈G,q.1=x)
theorem QbE{z t:Int}(a:0<=z)(b:z<t):z % t=z:=QrS a b
theorem Qkd{z t:Int}(a:t<=z)(b:z<t+t):z % t=z-t:=by
 rw[<- QrS (show 0<=z-t by omega) (show z-t<t by omega),Int.sub_emod_right]
theorem QjX{t:Int}(h:1<=t):(-1:Int) % t=t-1:=by
 rw[<- QrS (show 0<=t-1 by omega) (show t-1<t by omega),show t-1 = -1+t by omega,Int.add_emod_right]
theorem WR.gp{t:Int}{F G:Y Sp2}(l:1<=t)(hv:VS t (-1) F)(hc:cnt F≠t)(hw:WR t F G):GP t F G:=by
 have hr:=hv.rng;have hs:=hv.sep;have aw:=hv.cnt I;have au:=Qbq hv I;have gap:∀q∈F,¬ InS q.2 F:=λq hq ⟨p,hp,h⟩=>by
  grind
 have aa:∀q∈F,¬ InS (q.1-1) F:=λq hq ⟨p,hp,h⟩=>by
  grind
 have small:∀q∈F,q.2-q.1<t:=λq hq=>by
  have:=au q hq;have:=aw.2.2 (List.length_pos_of_mem hq);omega
 have ac:∀x,0<=x->x<t->InS x F->¬ InS ((x-1) % t) F->∃q∈F,q.1=x:=λx i j ⟨q,hq,h⟩ hn=>by
  have:=hr q hq;by_cases hx:q.1=x
  ·exact⟨q,hq,hx⟩
  ·exact(hn ⟨q,hq,by rw[QbE I I];omega,by rw[QbE I I];omega⟩).elim
 rcases hw with⟨rfl,hw⟩|⟨b,M,c,rfl,rfl⟩
 ·have am:∀p∈G,∀q∈G,p.1=0->q.2=t->False:=λp hp q hq o h2=>by
   have ao:p≠q:=λe=>by have:=small p hp;rw[<- e]at h2;omega
   rcases G with _ | ⟨⟨a,b⟩,G⟩
   ·nomatch hp
   obtain⟨r,s,u,f⟩:=id hv;have ai:=f.rng;have ax:p=(a,b):=by
    cases hp with
    |head=>rfl
    |tail _ hp=>have:=ai p hp;omega
   subst ax;obtain rfl:a=0:=o;rcases List.eq_nil_or_concat G with rfl | ⟨M,⟨c,d⟩,rfl⟩
   ·cases hq with
    |head=>exact ao rfl
    |tail _ hq=>nomatch hq
   ·rw[List.concat_eq_append]at *
    have hl:=f.lastlt;cases hq with
    |head=>exact ao rfl
    |tail _ hq=>
     rcases Qrj.1 hq with hq | hq
     ·have:=hl.1 q hq;omega
     ·obtain rfl:=Qrp.1 hq;obtain rfl:d=t:=h2;exact hw b M c rfl
  refine⟨hv.pw.imp_of_mem λ{p q} hp hq h=>by have:=hr p hp;omega,λq hq=>by have:=hr q hq;have:=small q hq;omega,λq hq z g k=>?_,λq hq=>?_,λx i j=>⟨λh=>ac x i j h.1 h.2,?_⟩⟩
  ·have:=hr q hq;rw[QbE I I];exact⟨q,hq,g,k⟩
  ·have:=hr q hq;by_cases m:q.2=t
   ·rw[m,Int.emod_self];rintro⟨p,hp,h⟩;have:=hr p hp;exact am p hp q hq I m
   ·rw[QbE I I];exact gap q hq
  ·rintro⟨q,hq,rfl⟩;have:=hr q hq;refine⟨⟨q,hq,Int.le_refl _,this.2.1⟩,?_⟩;by_cases n:q.1=0
   ·rw[n,show(0:Int)-1 = -1 by omega,QjX l];rintro⟨p,hp,h⟩;have:=hr p hp;exact am q hq p hp n I
   ·rw[QbE I I];exact aa q hq
 ·obtain⟨r,s,u,f⟩:=id hv;have hl:=f.lastlt;have ai:=f.rng;have hM:∀q∈M,b<q.1/\q.1<q.2/\q.2<c:=λq hq=>by
   have:=ai q (Qro _ hq);have:=hl.1 q hq;omega
  have ak:∀q∈M,q∈(0,b)::(M++[(c,t)]):=λq hq=>.tail _ (Qro _ hq)
  have aj:(c,t)∈(0,b)::(M++[(c,t)]):=.tail _ (QrF _ (.head _));have ar:(0,b)∈(0,b)::(M++[(c,t)]):=.head _;have az:b<c:=(ai (c,t) (QrF _ (.head _))).1;refine⟨?_,λq hq=>?_,λq hq z g k=>?_,λq hq=>?_,λx i j=>⟨λh=>?_,?_⟩⟩
  ·refine QrL.2 ⟨(QrL.1 f.pw).1.imp_of_mem λ{p q} hp hq h=>by have:=hM p hp;omega,List.pairwise_singleton _ _,λp hp q hq=>?_⟩;obtain rfl:=Qrp.1 hq;have:=hM p hp;dsimp only;omega
  ·rcases Qrj.1 hq with h | h
   ·have:=hM q h;omega
   ·obtain rfl:=Qrp.1 h;dsimp only;omega
  ·rcases Qrj.1 hq with h | h
   ·have:=hM q h;rw[QbE I I];exact⟨q,ak q h,g,k⟩
   ·obtain rfl:=Qrp.1 h;dsimp only at g k;by_cases hz:z<t
    ·rw[QbE I hz];exact⟨_,aj,g,hz⟩
    ·rw[Qkd I I];exact⟨_,ar,by dsimp only;omega,by dsimp only;omega⟩
  ·rcases Qrj.1 hq with h | h
   ·have:=hM q h;rw[QbE I I];exact gap q (ak q h)
   ·obtain rfl:=Qrp.1 h;dsimp only;rw[Qkd I I,show t+b-t=b by omega];exact gap _ ar
  ·obtain⟨q,hq,rfl⟩:=ac x i j h.1 h.2;cases hq with
   |head=>
    refine(h.2 ?_).elim;dsimp only;rw[show(0:Int)-1 = -1 by omega,QjX l];exact⟨_,aj,by dsimp only;omega,by dsimp only;omega⟩
   |tail _ hq=>
    rcases Qrj.1 hq with hq | hq
    ·exact⟨q,Qro _ hq,rfl⟩
    ·obtain rfl:=Qrp.1 hq;exact⟨(c,t+b),QrF _ (.head _),rfl⟩
  ·rintro⟨q,hq,rfl⟩;rcases Qrj.1 hq with h | h
   ·have:=hM q h;refine⟨⟨q,ak q h,Int.le_refl _,this.2.1⟩,?_⟩;rw[QbE I I];exact aa q (ak q h)
   ·obtain rfl:=Qrp.1 h;dsimp only;refine⟨⟨_,aj,Int.le_refl _,hl.2.1⟩,?_⟩;rw[QbE I I];exact aa _ aj
theorem QbY{t:Int}{F:Y Sp2}(i:1<=t)(hv:VS t (-1) F):cnt F=t↔∀y,0<=y->y<t->InS y F:=by
 rcases F with _ | ⟨⟨a,b⟩,r⟩
 ·exact⟨λh=>by grind[cnt],λh=>absurd (h 0 I I) Ff⟩
 obtain⟨j,k,f,e⟩:=hv;have hc:=e.cnt f;rcases r with _ | ⟨⟨c,d⟩,r⟩
 ·simp only[cnt,TD];constructor
  ·omega
  ·intro h;have g:=(h 0 I I).resolve_right Ff;have h2:=(h (t-1) I I).resolve_right Ff;omega
 ·have:=hc.2.2 Q2;have w:=e.1;constructor
  ·grind[cnt]
  ·intro h;have aa:=e.rng;have:=aa (c,d) (.head _);dsimp only at this;obtain⟨p,hp,g,h2⟩:=h b I I
   grind
theorem Q6v(d:t<=300){f:Nat->Bool}{k0:Int->Int->Bool->oP R}{K:Int->oP R}(hk:∀a b c,k0 a b c=K a):∀(c m x:Nat) (w:Int),(x:Int)+c=t->c<m->0<=w->w<=x->(w=x↔∀y:Nat,y<x->f y=true)->∃w',WJ n t (EU f t.toNat) k0 m w (x:Int)=K w'/\(w'=t↔∀y:Nat,(y:Int)<t->f y=true)
 |0,m+1,x,w,hx,_,_,_,hw=>⟨w,by rw[WJ,Q5 ((x:Int)<t),Qra,hk],by
  grind⟩
 |c+1,m+1,x,w,hx,hm,w0,e,hw=>by
  have aa:Qi (EU f t.toNat) (x:Int)=some [D.bool (f x)]:=by grind[Qp,DT]
  rw[WJ,Q6 ((x:Int)<t),Qrc,aa];simp -implicitDefEqProofs only[Qh,Qr9,LQ,QJ (show x<=1000 by omega)];cases ac:f x with
  |false=>
   refine Q6v d hk c m (x+1) w I I w0 I ⟨λh=>by omega,λh=>?_⟩
   simp_all
  |true=>
   rw[Qrc,Qo I I];refine Q6v d hk c m (x+1) (w+1) I I I I ⟨λh y hy=>?_,λh=>?_⟩
   all_goals grind
theorem QgS(b:1<=t)(c:t<=300){f:Nat->Bool}{k0:Int->Bool->oP R}{a:Int}{L:Nat}(a0:0<=a)(a1:a<t)(hL:(L:Int)<t)(ac:∀k:Nat,k<L->f ((a+k) % t).toNat=true)(aa:f ((a+L) % t).toNat=false):WT n t (EU f t.toNat) a k0 400 0=k0 (L:Int) false:=by
 have step:∀k:Nat,k<=L->Qi (EU f t.toNat) (Int.tmod (wJ (a+k)) t)=some [D.bool (f ((a+k) % t).toNat)]:=λk hk=>by
  have d:=Qrt (a+(k:Int)) (show t≠0 by omega);have e:=Qrq (a+(k:Int)) (show 0<t by omega);rw[Qo I I,Int.tmod_eq_emod_of_nonneg I];obtain⟨z,hz⟩:∃z:Nat,(a+(k:Int)) % t=z:=⟨((a+(k:Int)) % t).toNat,I⟩;rw[hz,Qp,Qrb];exact DT I
 refine QZ (r:=λm k=>WT n t (EU f t.toNat) a k0 m k) (N:=L) (λm k hk=>?_) (λm=>?_) L 400 0 I I
 ·rw[WT,DO I,step k I];simp -implicitDefEqProofs only[Qh,Qr9,LQ,ac k hk,Qrc,QJ (show k<=1000 by omega)]
 ·rw[WT,DO I,step L (QrN _)];simp -implicitDefEqProofs only[Qh,Qr9,LQ,aa,Qra]
theorem Q6o(g:1<=t)(i:t<=300){f:Nat->Bool}{F G:Y Sp2}(hf:∀y:Nat,(y:Int)<t->(f y=true↔InS y F))(hG:GP t F G){K:LL->oP R}{k0:Int->Bool->LL->oP R}(hk:∀a b w,k0 a b w=K w):∀(c m x:Nat) (P S:Y Sp2),(x:Int)+c=t->c<m->G=P++S->P.length<=x->(∀q∈P,q.1<x)->(∀q∈S,(x:Int)<=q.1)->Yy 400 t (EU f t.toNat) k0 m (x:Int) ((P.map (Q4b t)).map Yn)=K ((G.map (Q4b t)).map Yn)
 |0,m+1,x,P,S,hx,_,aa,_,_,hS=>by
  have:S=[]:=by
   cases S with
   |nil=>rfl
   |cons q S=>have:=hS q (.head _);have:=hG.rng q Q4;omega
  rw[Yy,Q5 ((x:Int)<t),Qra,hk,aa,this,Qru]
 |c+1,m+1,x,P,S,hx,hm,aa,hl,hP,hS=>by
  have fi:∀z:Int,f (z % t).toNat=true↔InS (z % t) F:=λz=>by
   have l:=Qrt z (show t≠0 by omega);have o:=Qrq z (show 0<t by omega);have:=hf (z % t).toNat I;rw[show(((z % t).toNat:Nat):Int)=z % t by omega]at this;exact this
  have an:Qi (EU f t.toNat) (x:Int)=some [D.bool (f x)]:=by rw[Qp];exact DT I
  have l:=Qrt ((x:Int)-1) (show t≠0 by omega);have o:=Qrq ((x:Int)-1) (show 0<t by omega);have aj:Qi (EU f t.toNat) (((x:Int)-1) % t)=some [D.bool (f (((x:Int)-1) % t).toNat)]:=by
   obtain⟨z,hz⟩:∃z:Nat,((x:Int)-1) % t=z:=⟨(((x:Int)-1) % t).toNat,I⟩;rw[hz,Qp,Qrb];exact DT I
  rw[Yy,Q6 ((x:Int)<t),Qrc,an];simp -implicitDefEqProofs only[Qh,Qr9,LQ,QJ (show x<=1000 by omega),Qo (x:=(x:Int)-1) I I,QhX (n:=400) (x:=(x:Int)-1) g (show t<=7200 by omega) I I,aj];have ai:=hG.st x I I;have ak:=hf x I;have ao:=fi ((x:Int)-1);have a2:∀(R':Type) (p:Bool) (d:R') (v:R') (k:R'->oP R),gb p (some v) d k=gb p (some v) d k:=λ_ _ _ _ _=>rfl
  have skip:(∀q∈G,q.1≠x)->Yy 400 t (EU f t.toNat) k0 m ((x+1:Nat):Int) ((P.map (Q4b t)).map Yn)=K ((G.map (Q4b t)).map Yn):=λar=>by
   refine Q6o g i hf hG hk c m (x+1) P S I I aa I (λq hq=>by have:=hP q hq;omega) (λq hq=>?_);have:=hS q hq;have:=ar q (by rw[aa];exact QrF _ hq);omega
  cases hb:f x with
  |false=>
   simp -implicitDefEqProofs only[QrC,Qrn,gbF,Qrc];refine skip λq hq e=>?_
   have:=(ai.2 ⟨q,hq,e⟩).1;rw[<- ak,hb]at this;cases this
  |true=>
   simp -implicitDefEqProofs only[QrC,Qrn,Qh,Qra];cases j:f (((x:Int)-1) % t).toNat with
   |true=>
    rw[Qrc];refine skip λq hq e=>?_
    exact(ai.2 ⟨q,hq,e⟩).2 (ao.1 j)
   |false=>
    rw[Qra];obtain⟨q,hq,au⟩:=ai.1 ⟨ak.1 hb,λh=>by rw[<- ao,j]at h;cases h⟩;obtain⟨S',ax⟩:∃S',S=q::S':=by
     rw[aa]at hq;rcases Qrj.1 hq with h | h
     ·have:=hP q h;omega
     cases S with
     |nil=>nomatch h
     |cons p S=>
      cases h with
      |head=>exact⟨S,rfl⟩
      |tail _ h=>
       have ha:=hG.asc;rw[aa]at ha;have:=(QrB.1 (QrL.1 ha).2.1).1 q h;have:=hS p (.head _);omega
    subst ax;have hr:=hG.rng q hq;obtain⟨L,hL⟩:∃L:Nat,q.2=x+L:=⟨(q.2-q.1).toNat,I⟩;have aw:=hG.ins q hq;have am:=hG.out q hq;rw[QgS (n:=400) (k0:=_) (a:=(x:Int)) (L:=L) g i I I I (λk hk=>(fi _).2 (aw _ I I)) (by
     cases h:f (((x:Int)+L) % t).toNat with
     |false=>rfl
     |true=>rw[<- hL]at h;exact(am ((fi _).1 h)).elim)]
    have hw:[Ql ((x:Int)+L),Ql ((x:Int)+t-1)]=Yn (Q4b t q):=by rw[<- hL,<- au];rfl
    rw[Qo (x:=(x:Int)+L) I I,Qo (x:=(x:Int)+t) I I,Qo (x:=(x:Int)+t-1) I I,XM Q3,Qh];have:=Q6o g i hf hG hk c m (x+1) (P++[q]) S' I I (by rw[aa];simp) Q3 (λp hp=>by
     rcases Qrj.1 hp with h | h
     ·have:=hP p h;omega
     ·obtain rfl:=Qrp.1 h;omega) (λp hp=>by
     have ha:=hG.asc;rw[aa]at ha;have:=(QrB.1 (QrL.1 ha).2.1).1 p hp;omega)
    rw[Qrm,Qrm,List.map_singleton,List.map_singleton,<- hw]at this;exact this
theorem Qcs{A B:Y Occ}(o:2<=t)(a:t<=300)(hA:OL (-1) A)(hB:OL (-1) B)(lA:A.length<=6)(lB:B.length<=6){F G:Y Sp2}(hv:VS t (-1) F)(hF:∀y,0<=y->y<t->(InS y F↔FB t A B y))(hw:WR t F G) :
  Hv 400 t (A.map enc) (B.map enc) Tu2=some (if cnt F=t then([],(13:Int))else((G.map (Q4b t)).map Yn,(0:Int))):=by
 obtain⟨f,i,j⟩:=Q2C I a (K:=λw=>(some (w,(0:Int)):oP (LL×Int))) (k0:=λ_ _ w=>some (w,(0:Int))) (λ_ _ _=>rfl) hA hB I I A [] 400 (λ_=>false) rfl I (λy _=>⟨λh=>(nomatch h),λ⟨_,_,_,_,_,h,_⟩=>(nomatch h)⟩);have hf:∀y:Nat,(y:Int)<t->(f y=true↔InS y F):=λy hy=>by rw[j y I,hF y I hy]
 have hm:Hh 400 t (A.map enc) (B.map enc) Tu2=some (EU f t.toNat,(0:Int)):=by
  unfold Hh;rw[Q5B I (show t<=7200 by omega),Qaz I hA,Qaz I hB];simp -implicitDefEqProofs only[Qh,Qrn,QrC,Qra];rw[show(bif decide ((0:Int)<=t)&&decide (t<=t)then some ()else none)=some () by rw[Xi Q3],Qh,XM I,Qh];have e:List.replicate t.toNat [D.bool false]=EU (λ_=>false) t.toNat:=by unfold EU;rw[List.map_const',QrM]
  rw[e];exact i
 unfold Hv;rw[hm,Qh,Qq (by rfl)];obtain⟨w,k,w2⟩:=Q6v (n:=400) a (f:=f) (K:=λd=>bif (d == t)then(some ([],(13:Int)):oP (LL×Int))else Yy 400 t (EU f t.toNat) (λl m g=>some (g,(0:Int))) 400 (0:Int) []) (k0:=λd p r=>bif (d == t)then(some ([],(13:Int)):oP (LL×Int))else Yy 400 t (EU f t.toNat) (λl m g=>some (g,(0:Int))) 400 (0:Int) []) (λ_ _ _=>rfl) t.toNat 400 0 0 I I I I ⟨λ_ y hy=>by omega,λ_=>rfl⟩;refine k.trans ?_;have hc:w=t↔cnt F=t:=by
  rw[w2,QbY I hv];constructor
  ·intro h y s u;have:=(hf y.toNat I).1 (h y.toNat I);rw[show(y.toNat:Int)=y by omega]at this;exact this
  ·exact λh y hy=>(hf y hy).2 (h y I hy)
 by_cases aa:cnt F=t
 ·rw[Qrx aa,Xi (by simpa using hc.2 aa)]
 ·rw[Qrz aa,Qq (by simpa using λh=>aa (hc.1 h))];exact Q6o I a hf (hw.gp I hv aa) (K:=λw=>some (w,(0:Int))) (k0:=λ_ _ w=>some (w,(0:Int))) (λ_ _ _=>rfl) t.toNat 400 0 [] G I I rfl Q2 (λq hq=>nomatch hq) (λq hq=>((hw.gp I hv aa).rng q hq).1)
end
theorem Ds{R:Type}{n:Nat}{O:Y Occ}(hl:O.length<=1000){q:Int->Bool}{K:LL->oP R}{k0:Int->Bool->LL->oP R}(hk:∀a b w,k0 a b w=K w):∀(aa P:Y Occ) (j m:Nat),O.drop j=aa->aa.length<m->P.length<=j->Yg n (O.map enc) (O.length:Int) q k0 m (j:Int) (P.map enc)=K ((P++aa.filter λo=>!q o.1).map enc)
 |[],P,j,m+1,hd,_,_=>by
  have:=Wc hd;rw[Yg,show decide ((j:Int)<(O.length:Int))=false by simpa using this,Qra,hk,List.filter_nil,Qru]
 |o::aa,P,j,m+1,hd,hm,hP=>by
  obtain⟨e,ac,hj⟩:=Yf hd;rw[Yg,Qt hj,Qrc,X6 e];simp -implicitDefEqProofs only[Qh,Mv,Fg,Eu,Qj,QJ (show j<=1000 by omega),XM (show((P.map enc).length+[[Ql o.1,Ql o.2.1,Ql o.2.2]].length)*24<=100000 by simp;omega)];rw[List.filter_cons];cases hq:q o.1 with
  |true=>
   rw[Qrn,Qra,Qrz Q2];exact Ds hl hk aa P (j+1) m ac (by simpa using hm) I
  |false=>
   rw[QrC,Qrc,Qrx rfl];have:=Ds (n:=n) (q:=q) hl hk aa (P++[o]) (j+1) m ac (by simpa using hm) Q3;rw[Qrm,Qrl]at this;exact this
theorem Q7C{R:Type}{O:Y Occ}(hl:O.length<=300){q:Int->Bool}(K:LL->(Int->Bool)->oP R):Us 400 (O.map enc) q K=K ((O.filter λo=>!q o.1).map enc) q:=by
 unfold Us;rw[Qrg];exact Ds I (K:=λw=>K w q) (λ_ _ _=>rfl) O [] 0 400 rfl I Q2
namespace Cx
def Q93(a b:Nat)(w:Sp2):Y D:=[Ql 6,Ql ((2*a:Nat):Int),Ql ((2*b:Nat):Int),Ql w.1,Ql w.2,Ql 0]
def fil(X:Cx)(J:Y Tup)(a b:Nat):Y Occ:=(X.occN a).filter λo=>!X.TRb J a b o.1
def WV(X:Cx)(per:Int)(J:Y Tup)(a b:Nat):oP (Y Sp2):=match WQ 400 per ((X.fil J a b).map enc) ((X.fil J b a).map enc) Tu2 with
 |some (w,e)=>if e=0 then some (w.map λr=>match r with | [.int _ x,.int _ y]=>(x,y) | _=>(0,0))else none
 |none=>none
def QhO:oP (Y Sp2)->LL×Int
 |none=>([],13)
 |some W=>(W.map Yn,0)
def hdw(X:Cx)(per:Int)(J:Y Tup)(a:Nat):Nat->Nat->oP LL
 |0,_=>some []
 |c+1,b=>match X.WV per J a b with
  |none=>none
  |some W=>(hdw X per J a c (b+1)).map λH=>W.map (Q93 a b)++H
def hdws(X:Cx)(per:Int)(J:Y Tup):Nat->Nat->oP LL
 |0,_=>some []
 |c+1,a=>match X.hdw per J a c (a+1)with
  |none=>none
  |some H=>(hdws X per J c (a+1)).map λH'=>H++H'
variable{R:Type} {n:Nat} {X:Cx} (h:X.OK) {per:Int}
theorem QbP{J:Y Tup}{a b:Nat}{r:Int}:X.TRb J a b r=X.TRb J b a r:=by
 grind[TRb,jab]
include h
theorem QdJ{J:Y Tup}{a b:Nat}(ha:a<X.N):OL (-1) (X.fil J a b)/\(X.fil J a b).length<=6:=by
 have o:=(JB h ha).2;exact⟨o.1.filter,Nat.le_trans (QrR ..) o.2⟩
theorem Q3e(p0:2<=per)(p1:per<=300){J:Y Tup}{a b:Nat}(ha:a<X.N)(hb:b<X.N):WQ 400 per ((X.fil J a b).map enc) ((X.fil J b a).map enc) Tu2=some (QhO (X.WV per J a b))/\Hv 400 per ((X.fil J a b).map enc) ((X.fil J b a).map enc) Tu2=some (QhO (X.WV per J a b))/\∀W,X.WV per J a b=some W->W.length<=12:=by
 have oa:=QdJ h (J:=J) (b:=b) ha;have ob:=QdJ h (J:=J) (b:=a) hb;obtain⟨F,G,g1,g,j,i,k⟩:=Qcp p0 (show per<=7200 by omega) oa.1 ob.1 oa.2 ob.2;have l:=Qcs p0 p1 oa.1 ob.1 oa.2 ob.2 g1 j i;have hG:G.length<=12:=by
  rcases i with⟨rfl,_⟩|⟨b,M,c,rfl,rfl⟩
  ·exact g
  ·simp at g ⊢;omega
 have e:X.WV per J a b=if cnt F=per then none else some (G.map (Q4b per)):=by
  unfold WV;rw[k];by_cases hc:cnt F=per
  ·rw[Qrx hc,Qrx hc];rfl
  ·rw[Qrz hc,Qrz hc];dsimp only;rw[Qrx rfl,List.map_map];congr 1;refine(List.map_congr_left λq _=>?_).trans (List.map_id _);rfl
 grind[QhO,cnt,Q4b,Yn]
omit h in
theorem QiH{a b:Nat}(ha:a<=100)(hb:b<=100){W:Y Sp2}(hW:W.length<=12){k0:Int->Bool->LL->oP R}{A:LL}(hA:A.length<=900):QR 400 (a:Int) (b:Int) (W.map Yn) (W.length:Int) k0 400 0 A=k0 (W.length:Int) false (A++W.map (Q93 a b)):=by
 refine QZ (r:=λm j=>QR 400 (a:Int) (b:Int) (W.map Yn) (W.length:Int) k0 m j (A++(W.take j.toNat).map (Q93 a b))) (N:=W.length) (λm j hj=>?_) (λm=>?_) W.length 400 0 I I |> Eq.trans Q2
 ·simp only[Qrb];obtain⟨w,e⟩:∃q,W[j]? = some q:=⟨W[j],Qre hj⟩;rw[QR,Qt hj,Qrc,X6 e,ZA e,Qrm,<- Qrl];simp -implicitDefEqProofs only[Qh,Qck,QbN,Qj,QJ (show j<=1000 by omega),QdC (n:=400) (show a<=1000 by omega),QdC (n:=400) (show b<=1000 by omega),QfD (n:=400) (A:=A++(W.take j).map (Q93 a b)) Q3];rfl
 ·simp only[Qrb];rw[QR,Qy,Qra,QrE]
theorem Q2M(p0:2<=per)(p1:per<=300){J:Y Tup}{a:Nat}(ha:a<X.N):∀{c b:Nat} {H:LL},b+c<=X.N->X.hdw per J a c b=some H->H.length<=12*c
 |0,b,H,_,e=>by cases e;exact QrN _
 |c+1,b,H,hb,e=>by
  rw[hdw]at e;have hw:=(Q3e h p0 p1 (J:=J) ha (show b<X.N by omega)).2.2;cases ew:X.WV per J a b with
  |none=>rw[ew]at e;cases e
  |some W=>
   rw[ew]at e;cases eh:X.hdw per J a c (b+1)with
   |none=>simp only[eh]at e;cases e
   |some H'=>
    simp only[eh]at e;cases e;have:=hw W ew;have:=Q2M p0 p1 ha I eh;simp;omega
theorem QgU(p0:2<=per)(p1:per<=300){J:Y Tup}(hJ:X.JOK J){a:Nat}(ha:a<X.N){k0:Int->LL->oP R}{k1:Int->Bool->LL->oP R}{Ke K1:LL->oP R}(d:∀A,k0 13 A=Ke A)(e:∀u v A,k1 u v A=K1 A):∀(c m b:Nat) (A:LL),b+c=X.N->c<m->A.length+12*c<=900->∃A',
  X7 400 (a:Int) per (Kh (X.occs X.L)) (J.map tuR) k0 k1 m (b:Int) A=match X.hdw per J a c b with | none=>Ke A' | some H=>K1 (A++H)
 |0,m+1,b,A,hb,_,_=>by
  have aa:(Kh (X.occs X.L)).length=X.N:=by rw[Jo];exact ZL
  refine⟨A,?_⟩;rw[X7,aa,Q5 ((b:Int)<(X.N:Int)),Qra,e,hdw]
  simp_all
 |c+1,m+1,b,A,hb,hm,hA=>by
  have aa:(Kh (X.occs X.L)).length=X.N:=by rw[Jo];exact ZL
  have hN:X.N<=6:=base_le h;have oa:=JB h ha;have ob:=JB h (show b<X.N by omega);obtain⟨q,q1,f⟩:=Qjk h hJ (a:=a) (b:=b);have ac:(X.occN a).filter (λo=>!q o.1)=X.fil J a b:=List.filter_congr λo _=>by rw[f]
  have ai:(X.occN b).filter (λo=>!q o.1)=X.fil J b a:=List.filter_congr λo _=>by rw[f,QbP]
  have hw:=Q3e h p0 p1 (J:=J) ha (show b<X.N by omega);rw[X7,aa,Q6 ((b:Int)<(X.N:Int)),Qrc,q1,oa.1,ob.1];simp -implicitDefEqProofs only[Qh,Qr9,X2,QJ (show b<=1000 by omega),Q7C (show(X.occN a).length<=300 by omega),Q7C (show(X.occN b).length<=300 by omega),ac,ai,hw.1,hdw];cases ew:X.WV per J a b with
  |none=>exact⟨A,d A⟩
  |some W=>
   have hl:=hw.2.2 W ew;obtain⟨A',ih⟩:=QgU p0 p1 hJ ha d e c m (b+1) (A++W.map (Q93 a b)) I I Q3;refine⟨A',?_⟩;simp -implicitDefEqProofs only[QhO];rw[Qq (by rfl),Qrg,QiH I I hl I,ih]
   grind
theorem Qh3(p0:2<=per)(p1:per<=300){J:Y Tup}(hJ:X.JOK J){k0:Int->LL->oP R}{k1:Int->Bool->LL->oP R}{Ke K1:LL->oP R}(d:∀A,k0 13 A=Ke A)(e:∀u v A,k1 u v A=K1 A):∀(c m a:Nat) (A:LL),a+c=X.N->c<m->A.length+72*c<=900->∃A',
  QH 400 (X.N:Int) per (Kh (X.occs X.L)) (J.map tuR) k0 k1 m (a:Int) A=match X.hdws per J c a with | none=>Ke A' | some H=>K1 (A++H)
 |0,m+1,a,A,ha,_,_=>by
  refine⟨A,?_⟩;rw[QH,Q5 ((a:Int)<(X.N:Int)),Qra,e,hdws];simp only[Qru]
 |c+1,m+1,a,A,ha,hm,hA=>by
  have hN:X.N<=6:=base_le h;obtain⟨A1,f⟩:=QgU h p0 p1 hJ (show a<X.N by omega) (Ke:=Ke) (K1:=λA=>QH 400 (X.N:Int) per (Kh (X.occs X.L)) (J.map tuR) k0 k1 m ((a+1:Nat):Int) A) (k0:=λg i=>k0 g i) (k1:=λk l j=>QH 400 (X.N:Int) per (Kh (X.occs X.L)) (J.map tuR) k0 k1 m ((a+1:Nat):Int) j) (λA=>d A) (λu v A=>rfl) c 400 (a+1) A I I I;rw[QH,Q6 ((a:Int)<(X.N:Int)),Qrc,QJ (show a<=1000 by omega),f,hdws];cases eh:X.hdw per J a c (a+1)with
  |none=>exact⟨A1,rfl⟩
  |some H=>
   have:=Q2M h p0 p1 (J:=J) (show a<X.N by omega) (c:=c) (b:=a+1) I eh;obtain⟨A2,h2⟩:=Qh3 p0 p1 hJ d e c m (a+1) (A++H) I I Q3;refine⟨A2,?_⟩;dsimp only;rw[h2];cases X.hdws per J c (a+1)with
   |none=>rfl
   |some H'=>simp -implicitDefEqProofs only[Option.map_some,Qrl]
theorem hdws_len(p0:2<=per)(p1:per<=300){J:Y Tup}:∀{c a:Nat} {H:LL},a+c=X.N->X.hdws per J c a=some H->H.length<=60*c
 |0,a,H,_,e=>by cases e;exact QrN _
 |c+1,a,H,ha,e=>by
  have hN:X.N<=6:=base_le h;rw[hdws]at e;cases eh:X.hdw per J a c (a+1)with
  |none=>rw[eh]at e;cases e
  |some H1=>
   have:=Q2M h p0 p1 (J:=J) (show a<X.N by omega) (c:=c) (b:=a+1) I eh;rw[eh]at e;cases e2:X.hdws per J c (a+1)with
   |none=>simp only[e2]at e;cases e
   |some H2=>
    have:=hdws_len p0 p1 I e2;simp only[e2]at e;cases e;simp;omega
theorem Qhu(p0:2<=per)(p1:per<=300){J:Y Tup}(hJ:X.JOK J){A:LL}(hA:A.length<=100):∃A',Ys 400 per (Kh (X.occs X.L)) (J.map tuR) A Tu2=some (match X.hdws per J X.N 0 with | none=>((13:Int),A') | some H=>(0,A++H)):=by
 have hN:X.N<=6:=base_le h;have aa:(Kh (X.occs X.L)).length=X.N:=by rw[Jo];exact ZL
 unfold Ys;rw[aa];obtain⟨A',e⟩:=Qh3 h p0 p1 hJ (k0:=λc d=>some (c,d)) (k1:=λg i f=>some ((0:Int),f)) (Ke:=λA=>some (13,A)) (K1:=λA=>some (0,A)) (λ_=>rfl) (λ_ _ _=>rfl) X.N 400 0 A I I I;refine⟨A',e.trans ?_⟩
 grind
end Cx
namespace Cx
def netV(X:Cx)(per:Int)(J:Y Tup)(Ch Sy:LL):Int×LL×LL×Int:=bif X.aloneJ per J then(match X.hdws per J X.N 0 with
 |none=>(0,[],[],13)
 |some H=>(per,X.evs X.L,X.planned Ch Sy++H,0))else(0,[],[],13)
variable{X:Cx} (h:X.OK) {per:Int} {Ch Sy De:LL} (hl:X.LsOK per Ch Sy)
theorem Q7T{α:Type}{nr:Nat->Nat}{f:Nat->Nat->α}{x:α}:∀{L:Nat},x∈flat nr f L↔∃i k,i<L/\k<nr i/\x=f i k
 |0=>⟨λh=>(nomatch h),λ⟨_,_,h,_⟩=>by omega⟩
 |L+1=>by
  rw[flat,Qrj,Q7T,Qrs];constructor
  ·rintro (⟨i,k,b,h2,a⟩|⟨k,hk,rfl⟩)
   ·exact⟨i,k,I,h2,a⟩
   ·exact⟨L,k,I,QrG.1 hk,rfl⟩
  ·rintro⟨i,k,b,h2,a⟩;by_cases hi:i=L
   ·subst hi;exact .inr ⟨k,QrG.2 h2,a.symm⟩
   ·exact .inl ⟨i,k,I,h2,a⟩
theorem Qae{t:Tup}:t∈X.jns↔(∃i k,i<X.L/\k<X.nr i-1/\t=X.j1 i k)\/∃u∈X.T,X.jT u=t:=by
 unfold jns jL;rw[Qrj,Q7T,Qrs]
include h
theorem Qif{i k:Nat}(hi:i<X.Ls.length)(hk:k<X.nr i):base X.nr i+k<X.N:=by
 have:=TR (nr:=X.nr) (i:=i) (j:=X.L) hi;unfold N;omega
theorem Qfm:X.JOK X.jns:=by
 refine⟨λt ht=>?_,QeT h⟩;rcases Qae.1 ht with⟨i,k,a,h2,rfl⟩|⟨u,hu,rfl⟩
 ·have r:=rd h a (show k<X.nr i by omega);have q:=Df h a (show k<X.nr i by omega);have:=r.ex0;have:=r.ex1;have:=r.mn0;have:=r.mn1;have:=r.mn2;have:=r.mn3;refine⟨Qif h a I,Qif h a I,?_,?_,?_,?_⟩<;>simp only[j1]<;>omega
 ·have ht:=h.tr _ hu;have ha:u.1<X.Ls.length:=ht.1;have hb:u.2.1<X.Ls.length:=ht.2.1;have na:=(line h ha).2.1;have nb:=(line h hb).2.1;have t1:=ht.2.2.1;have t2:=ht.2.2.2.1;have b:=ht.2.2.2.2.1;have c:=ht.2.2.2.2.2.1;have r:=rd h ha (show X.nr u.1-1<X.nr u.1 by omega);have q:=Df h ha (show X.nr u.1-1<X.nr u.1 by omega);have:=r.ex0;have:=r.ex1;refine⟨Qif h ha I,Qif h hb I,?_,?_,?_,?_⟩<;>simp only[jT]<;>omega
include hl
theorem planned_len:(X.planned Ch Sy).length<=35:=by
 have hN:base X.nr X.L<=6:=base_le h;have:=Q0c (X:=X) (i:=X.L);have:=hl.chl;have:=hl.syl;have:=h.tl;unfold planned;simp only[QrA,Qrg];omega
theorem buildP(p0:2<=per)(p1:per<=300)(hc:Js 400 X.G.St X.G.Pt X.G.Se X.G.Li per X.skR X.Ro X.Ls Ch (X.T.map tuR) Sy De (some:Int->oP Int)=some 0) :
  Zw 400 X.G.St X.G.Pt X.G.Se X.G.Li per X.skR X.Ro X.Ls Ch (X.T.map tuR) Sy De Tu4=some (X.netV per X.jns Ch Sy):=by
 have hN:base X.nr X.L<=6:=base_le h;have ac:=planned_len h hl;unfold Zw netV;rw[hc,Qh,Qq (by rfl),Qej h,Qh];dsimp only;rw[evs_len,Qq (Qri I),Qh9 h hc,Qh];dsimp only;rw[Qq (by rfl),QfR h,Qh];rw[Qg4 h I p1 (Qfm h),Qh];cases X.aloneJ per X.jns
 ·rfl
 rw[Qq (by rfl),QbU h hl,Qh];obtain⟨A',e⟩:=Qhu h p0 p1 (Qfm h) (A:=X.planned Ch Sy) I;rw[e,Qh,Qrc];cases eh:X.hdws per X.jns X.N 0 with
 |none=>rfl
 |some H=>
  have:=hdws_len h p0 p1 I eh;have aa:X.N<=6:=hN;dsimp only;rw[Qq (by rfl),Qq (Qri (by rw[QrA];omega))]
end Cx
theorem QcY{α β:Type}{r:Nat->Int->β}{l:Y α}{p:α->Bool}{F:α->β}{E:β}(a:∀m i q,l[i]? = some q->i<l.length->r (m+1) (i:Int)=bif p q then F q else r m ((i+1:Nat):Int))(b:∀m,r (m+1) (l.length:Int)=E){fuel:Nat}(hf:l.length<fuel):r fuel 0=match l.find? p with | some q=>F q | none=>E:=by
 have go:∀(aa:Y α) (i m:Nat),l.drop i=aa->aa.length<m->i<=l.length->r m (i:Int)=match aa.find? p with | some q=>F q | none=>E:=by
  intro aa;induction aa with
  |nil=>
   intro i m hd hm hi;obtain⟨m,rfl⟩:∃k,m=k+1:=⟨m-1,I⟩
   grind
  |cons q aa ih=>
   intro i m hd hm hi;obtain⟨m,rfl⟩:∃k,m=k+1:=⟨m-1,by simp at hm;omega⟩
   grind[Yf]
 exact go l 0 fuel rfl hf (Nat.zero_le _)
theorem Qgw{t:Int}{O:Y Occ}(a:1<=t)(b:t<=7200)(hO:OL (-1) O)(hl:O.length<=300):L4 400 t (O.map enc) (some:Bool->oP Bool)=some (O.all (LP t)):=by
 unfold L4;rw[Q5B a b,Qaz hl hO];simp -implicitDefEqProofs only[Qra,Qh,Qrn,QrC];refine(TU (r:=λm i=>Ju 400 t (O.map enc) (some false) (λ_ _=>some true) m i) (l:=O) (p:=LP t) (E0:=some false) (E1:=some true) (λm i q e hi=>?_) (λm=>?_) I).trans (by cases O.all (LP t)<;>rfl)
 ·rw[Ju,Qrg,Qt hi,Qrc,X6 e];simp -implicitDefEqProofs only[Qh,Mv,Fg,Eu,Qj,QJ (show i<=1000 by omega),QjV hO (Qrf e)];unfold LP;cases decide (q.2.2-q.2.1>t)<;>rfl
 ·rw[Ju,Qrg,Qy,Qra]
def Q8U(O:Y Occ)(r:Int):Bool:=(O.find? λq=>q.1 == r).isSome
def fnd(O:Y Occ)(r:Int):Occ:=(O.find? λq=>q.1 == r).getD (0,0,0)
theorem Bn{p:Occ->Bool}{r:Int}(hp:∀q,q.1≠r->p q=false):∀{l:Int} {O:Y Occ},OL l O->O.any p=(bif Q8U O r then p (fnd O r)else false)
 |_,[],_=>rfl
 |l,(x,a,b)::O,⟨c,h2,d,e,h5,h6⟩=>by
  have ih:=Bn hp h6;unfold Q8U fnd at ih ⊢;by_cases hx:x=r
  ·subst hx;have:O.any p=false:=by
    rw[List.any_eq_false];intro q hq;have:=(h6.mem q hq).1
    grind
   simp_all
  grind
theorem Q69{O:Y Occ}{r:Int}(h:Q8U O r=true):(fnd O r).1=r:=by
 unfold Q8U at h;unfold fnd;cases e:O.find? λq=>q.1 == r with
 |none=>simp_all
 |some q=>grind
theorem Qfo{l:Int}{O:Y Occ}(hO:OL l O){x:Occ}(hx:x∈O):Q8U O x.1=true/\fnd O x.1=x:=by
 unfold Q8U fnd;cases e:O.find? λq=>q.1 == x.1 with
 |none=>grind
 |some q=>exact⟨rfl,hO.uniq (QrJ e) hx (by grind)⟩
def okR(la:Int)(A B:Y Occ)(r:Int):Bool:=bif (bif Q8U A r then Q8U B r else false)then decide (la+(fnd B r).2.1<=(fnd A r).2.2)else false
theorem Qd7{la:Int}{x y:Occ}(h:y.1≠x.1):tie la x y=false:=by
 grind[tie]
theorem QgQ{la r:Int}{A B:Y Occ}(hA:OL (-1) A)(hB:OL (-1) B):okR la A B r=Q5k la A B r:=by
 unfold Q5k okR;rw[Bn (r:=r) (λq hq=>by
  simp_all) hA]
 cases ha:Q8U A r with
 |false=>rfl
 |true=>
  have ea:=Q69 ha;rw[Qrc,Qrc,Bn (r:=r) (λy hy=>by grind[Qd7]) hB];cases hb:Q8U B r with
  |false=>rfl
  |true=>
   have eb:=Q69 hb
   simp_all [tie,Qrc,decide,fnd]
theorem QdS{per la mo:Int}{A B:Y Occ}(hA:OL (-1) A)(hB:OL (-1) B){x:Occ}(hx:x∈A):(B.any λy=>bif tie la x y then Q3J per la mo x y else false)=bif okR la A B x.1 then Q3J per la mo (fnd A x.1) (fnd B x.1)else false:=by
 have ha:=Qfo hA hx;unfold okR;rw[Bn (r:=x.1) (λy hy=>by grind[Qd7]) hB,ha.1,ha.2,Qrc];cases hb:Q8U B x.1 with
 |false=>rfl
 |true=>
  simp_all [Q69,tie,Qrc]
theorem Q6A{l:Int}{O:Y Occ}(hO:OL l O){r:Int} : -1000<=(fnd O r).2.1/\(fnd O r).2.1<=20000 /\ -1000<=(fnd O r).2.2/\(fnd O r).2.2<=20000:=by
 unfold fnd;cases e:O.find? λq=>q.1 == r with
 |none=>simp
 |some q=>
  have:=hO.mem q (QrJ e)
  grind
theorem Qgk{R:Type}{O:Y Occ}(hl:O.length<=300){r:Int}(K:D->D->D->Bool->oP R):VE 400 (O.map enc) r K=K (Ql (fnd O r).1) (Ql (fnd O r).2.1) (Ql (fnd O r).2.2) (Q8U O r):=by
 unfold VE fnd Q8U;refine(QcY (r:=λm i=>Z7 400 (O.map enc) r (λa b c=>K a b c true) (λd f=>K (Ql 0) (Ql 0) (Ql 0) false) m i) (l:=O) (p:=λq=>q.1 == r) (F:=λq=>K (Ql q.1) (Ql q.2.1) (Ql q.2.2) true) (E:=K (Ql 0) (Ql 0) (Ql 0) false) (λm i q e hi=>?_) (λm=>?_) I).trans ?_
 ·rw[Z7,Qrg,Qt hi,Qrc,X6 e];simp -implicitDefEqProofs only[Qh,Mv,Fg,Eu,Qj,QJ (show i<=1000 by omega)]
 ·rw[Z7,Qrg,Qy,Qra]
 ·cases O.find? λq=>q.1 == r<;>rfl
namespace Cx
variable{R:Type} {X:Cx} (h:X.OK)
include h
theorem QfW{J:Y Tup}(hJ:X.JOK J){t:Tup}(ht:t∈J){r:Int}(K:D->D->D->D->D->D->Bool->oP R):Sj 400 (Kh (X.occs X.L)) (t.1:Int) (t.2.1:Int) t.2.2.1 r K=K (Ql (fnd (X.occN t.1) r).1) (Ql (fnd (X.occN t.1) r).2.1) (Ql (fnd (X.occN t.1) r).2.2) (Ql (fnd (X.occN t.2.1) r).1) (Ql (fnd (X.occN t.2.1) r).2.1) (Ql (fnd (X.occN t.2.1) r).2.2) (okR t.2.2.1 (X.occN t.1) (X.occN t.2.1) r):=by
 have hj:=hJ.at' t ht;have oa:=JB h hj.1;have ob:=JB h hj.2.1;have rb:=Q6A ob.2.1 (r:=r);unfold Sj okR;rw[oa.1,ob.1];simp -implicitDefEqProofs only[Qh,Qr9,X2,Qgk (show(X.occN t.1).length<=300 by omega),Qgk (show(X.occN t.2.1).length<=300 by omega),Qj,Qo (x:=t.2.2.1+(fnd (X.occN t.2.1) r).2.1) I I]
theorem QgV{J:Y Tup}(hJ:X.JOK J){t:Tup}(ht:t∈J){per:Int}(K:Bool->oP R):RX 400 (Kh (X.occs X.L)) (t.1:Int) (t.2.1:Int) t.2.2.1 t.2.2.2 per K=K (!Qac per t.2.2.1 t.2.2.2 (X.occN t.1) (X.occN t.2.1)):=by
 have hj:=hJ.at' t ht;have oa:=JB h hj.1;have ob:=JB h hj.2.1;unfold RX Qac;refine(TU (r:=λm i=>UM 400 (Kh (X.occs X.L)) per (t.1:Int) (t.2.1:Int) t.2.2.1 t.2.2.2 (K false) (λa b=>K true) m i) (l:=X.occN t.1) (p:=λx=>!((X.occN t.2.1).any λy=>bif tie t.2.2.1 x y then Q3J per t.2.2.1 t.2.2.2 x y else false)) (E0:=K false) (E1:=K true) (λm i x e hi=>?_) (λm=>?_) I).trans ?_
 ·have ra:=Q6A oa.2.1 (r:=x.1);have rb:=Q6A ob.2.1 (r:=x.1);rw[UM,oa.1,QdS oa.2.1 ob.2.1 (Qrf e)];simp -implicitDefEqProofs only[Qh,Qr9,X2,Qrg,Qt hi,Qrc,X6 e,Mv,Qj,QfW h hJ ht,QJ (show i<=1000 by omega)];generalize fnd (X.occN t.1) x.1=u at ra ⊢;generalize fnd (X.occN t.2.1) x.1=v at rb ⊢;cases okR t.2.2.1 (X.occN t.1) (X.occN t.2.1) x.1 with
  |false=>rfl
  |true=>
   rw[Qrc,Qrc,Qo (x:=t.2.2.1+v.2.1) I I,Qo (x:=t.2.2.2+v.2.2) I I,Qo (x:=(if u.2.2<t.2.2.2+v.2.2 then t.2.2.2+v.2.2 else u.2.2)-(if t.2.2.1+v.2.1<u.2.1 then t.2.2.1+v.2.1 else u.2.1)) (by split<;>split<;>omega) (by split<;>split<;>omega)];unfold Q3J;cases decide ((if u.2.2<t.2.2.2+v.2.2 then t.2.2.2+v.2.2 else u.2.2)-(if t.2.2.1+v.2.1<u.2.1 then t.2.2.1+v.2.1 else u.2.1)>per)<;>rfl
 ·rw[UM,oa.1];simp -implicitDefEqProofs only[Qh,Qr9,X2,Qrg,Qy,Qra]
 ·rw[<- List.not_any_eq_all_not];cases (X.occN t.1).any λx=>(X.occN t.2.1).any λy=>bif tie t.2.2.1 x y then Q3J per t.2.2.1 t.2.2.2 x y else false<;>rfl
theorem Qay{J:Y Tup}(hJ:X.JOK J){a b i:Nat}(ha:a<X.N){x:Occ}(e:(X.occN a)[i]? = some x)(k0:Bool->Int->Bool->oP R):Z2 400 (Kh (X.occs X.L)) (J.map tuR) (a:Int) (b:Int) (i:Int) k0 400 false 0=k0 (X.TRb J a b x.1) (J.length:Int) false:=by
 have oa:=JB h ha;have hl:=hJ.len;unfold TRb;rw[<- Bool.false_or (List.any _ _),<- El];refine FS (r:=λm j c=>Z2 400 (Kh (X.occs X.L)) (J.map tuR) (a:Int) (b:Int) (i:Int) k0 m c j) (E:=λc=>k0 c (J.length:Int) false) (λm j t c e' hi=>?_) (λm c=>?_) I false
 ·have hj:=hJ.at' t (Qrf e');have d:=JB h hj.1;have f:=JB h hj.2.1;have aa:Qi (J.map tuR) (j:Int)=some [Ql t.1,Ql t.2.1,Ql t.2.2.1,Ql t.2.2.2]:=X6 e';rw[Z2,Qrg,Qt hi,Qrc,aa];simp -implicitDefEqProofs only[Qh,Qr9,Qrd,Qj,X2,oa.1,X6 e,Mv,QfW h hJ (Qrf e'),QJ (show j<=1000 by omega),QgQ d.2.1 f.2.1];show(bif jab a b t then _ else _)=_;cases jab a b t<;>cases c<;>rfl
 ·rw[Z2,Qrg,Qy,Qra]
theorem Q71{J:Y Tup}(hJ:X.JOK J){a b:Nat}(ha:a<X.N)(K:LL->oP R):GS 400 (Kh (X.occs X.L)) (J.map tuR) (a:Int) (b:Int) K=K ((X.fil J a b).map enc):=by
 have oa:=JB h ha;unfold GS fil;refine QZ (r:=λm i=>ZW 400 (Kh (X.occs X.L)) (J.map tuR) (a:Int) (b:Int) (λd f c=>K c) m i ((((X.occN a).take i.toNat).filter λo=>!X.TRb J a b o.1).map enc)) (N:=(X.occN a).length) (λm i hi=>?_) (λm=>?_) (X.occN a).length 400 0 I I
 ·simp only[Qrb];obtain⟨x,e⟩:∃q,(X.occN a)[i]? = some q:=⟨(X.occN a)[i],Qre hi⟩;have ac:(((X.occN a).take i).filter λo=>!X.TRb J a b o.1).length<=i:=Nat.le_trans (QrR ..) Q3;rw[ZW,oa.1];simp -implicitDefEqProofs only[Qh,Qr9,X2,Qrg,Qt hi,Qrc,Qay h hJ ha e,X6 e,Mv,Fg,Eu,QJ (show i<=1000 by omega),XM (show((((X.occN a).take i).filter λo=>!X.TRb J a b o.1).length+[[Ql x.1,Ql x.2.1,Ql x.2.2]].length)*24<=100000 by simp;omega)];rw[ZA e,List.filter_append,Qrm];simp only[List.filter_cons,List.filter_nil];cases X.TRb J a b x.1 with
  |false=>rfl
  |true=>
   rw[Qrn,Qra,Qrz Bool.false_ne_true,List.map_nil,Qru]
 ·simp only[Qrb];rw[ZW,oa.1];simp -implicitDefEqProofs only[Qh,Qr9,X2,Qrg,Qy,Qra,QrE]
end Cx
theorem Qdg{a b:Nat}(h:a+b<=100000):wJ ((a:Int)+(b:Int))=((a+b:Nat):Int):=Qo I I
theorem QeM{a:Nat}(h:a<=100000):wJ ((a:Int)+1)=((a+1:Nat):Int):=Qo I I
theorem Qjb{a:Nat}(h:a<=100000):wJ ((a:Int)+2)=((a+2:Nat):Int):=Qo I I
theorem Q0I{a:Nat}(h:a<=100000):wJ (2*(a:Int))=((2*a:Nat):Int):=Qo I I
namespace Cx
def jR(X:Cx)(i:Nat):Y Tup:=(List.range (X.nr i-1)).map (X.j1 i)++(match X.tn i with | some t=>[X.jT t] | none=>[])
def jnsR(X:Cx):Nat->Y Tup
 |0=>[]
 |i+1=>jnsR X i++X.jR i
variable{R:Type} {n:Nat} {X:Cx} (h:X.OK)
theorem Q7X{t:Tup}:∀{L:Nat},t∈X.jnsR L↔∃i,i<L/\t∈X.jR i
 |0=>⟨λh=>(nomatch h),λ⟨_,h,_⟩=>by omega⟩
 |L+1=>by
  rw[jnsR,Qrj,Q7X];constructor
  ·rintro (⟨i,a,h2⟩ | h2)
   ·exact⟨i,I,h2⟩
   ·exact⟨L,I,h2⟩
  ·rintro⟨i,a,h2⟩;by_cases hi:i=L
   ·subst hi;exact .inr h2
   ·exact .inl ⟨i,I,h2⟩
theorem Qaa{i:Nat}{t:Tup}(ht:X.tn i=some t):t∈X.T/\t.1=i:=⟨QrJ ht,by simpa using List.find?_some ht⟩
theorem Q7Y{α β:Type}{f:α->β}:∀{l:Y α},(l.map f).Nodup->∀{x y},x∈l->y∈l->f x=f y->x=y
 |[],_,_,_,h,_,_=>nomatch h
 |a::l,hn,x,y,hx,hy,e=>by
  rw[List.map_cons,List.nodup_cons]at hn;cases hx with
  |head=>
   cases hy with
   |head=>rfl
   |tail _ hy=>exact(hn.1 (Qrs.2 ⟨y,hy,e.symm⟩)).elim
  |tail _ hx=>
   cases hy with
   |head=>exact(hn.1 (Qrs.2 ⟨x,hx,e⟩)).elim
   |tail _ hy=>exact Q7Y hn.2 hx hy e
include h
theorem Qjq{t:Tup}(ht:t∈X.T):X.tn t.1=some t:=by
 cases e:X.tn t.1 with
 |none=>exact absurd (List.find?_eq_none.1 e t ht) Q2
 |some u=>
  have hu:=Qaa e;rw[Q7Y h.fd hu.1 ht hu.2]
theorem Q3M{t:Tup}:t∈X.jnsR X.L↔t∈X.jns:=by
 rw[Q7X,Qae];constructor
 ·rintro⟨i,hi,ht⟩;rcases Qrj.1 ht with ht | ht
  ·grind
  ·cases e:X.tn i with
   |none=>simp_all
   |some u=>
    rw[e]at ht;obtain rfl:=Qrp.1 ht;exact .inr ⟨u,(Qaa e).1,rfl⟩
 ·rintro (⟨i,k,hi,hk,rfl⟩|⟨u,hu,rfl⟩)
  ·exact⟨i,hi,Qro _ (List.mem_map_of_mem (QrG.2 hk))⟩
  ·refine⟨u.1,(h.tr _ hu).1,QrF _ ?_⟩
   grind[Qjq]
theorem Q83{i:Nat}(hi:i<=X.Ls.length):(X.jnsR i).length<=base X.nr i:=by
 induction i with
 |zero=>exact QrN _
 |succ i ih=>
  have hl:=(line h (i:=i) I).2.1
  grind[jnsR,jR,List.length_append,List.length_map,List.length_range,base]
theorem Qgq:X.JOK (X.jnsR X.L):=⟨λt ht=>(Qfm h).at' t ((Q3M h).1 ht),by have:=Q83 h (i:=X.L) (QrN _);have:=base_le h;omega⟩
theorem Q2D{i:Nat}(hi:i<=X.Ls.length)(K:Int->oP R):U7 400 X.Ls (i:Int) K=K ((base X.nr i:Nat):Int):=by
 have hb:=Zv h hi;have l1:=h.l1;unfold U7;refine QZ (r:=λm k=>Jw 400 (i:Int) X.Ls (λc d e=>K c) m ((base X.nr k.toNat:Nat):Int) k) (N:=i) (λm k hk=>?_) (λm=>?_) i 400 0 I I
 ·simp only[Qrb];have aa:=Zv h (i:=k+1) I;rw[base]at aa;have ha:wJ (((base X.nr k:Nat):Int)+(((Hl X.Ls k).length:Nat):Int))=((base X.nr (k+1):Nat):Int):=Qdg (a:=base X.nr k) (b:=X.nr k) I;rw[Jw,Qt hk,Qrc,Qp,(line h I).1];simp -implicitDefEqProofs only[Qh,Qr9,Qrd,X2,QJ (show k<=1000 by omega),ha]
 ·simp only[Qrb];rw[Jw,Qy,Qra]
theorem Qhx(K:LL->oP R):Rh 400 X.Ls (X.T.map tuR) (encI (X.runs X.L)) K=K ((X.jnsR X.L).map tuR):=by
 have l1:=h.l1;unfold Rh;refine QZ (r:=λm i=>Ux 400 (encI (X.runs X.L)) X.Ls (X.T.map tuR) (λf g c=>K c) m i ((X.jnsR i.toNat).map tuR)) (N:=X.Ls.length) (λm i hi=>?_) (λm=>?_) X.Ls.length 400 0 I I
 ·simp only[Qrb];have hl:=(line h hi).2.1;have hb:=Zv h (i:=i) I;have hw:wJ (((List.length (Hl X.Ls i):Nat):Int)-1)=((X.nr i-1:Nat):Int):=G8 (k:=X.nr i) I I;have hJ:=Q83 h (i:=i) I;rw[Ux,Qt hi,Qrc,Qp,(line h hi).1];simp -implicitDefEqProofs only[Qh,Qr9,Qrd,QJ (show i<=1000 by omega)];refine QZ (r:=λm' k=>Wo 400 (encI (X.runs X.L)) (i:Int) X.Ls (X.T.map tuR) (D.sl 4 (Hl X.Ls i)) (λ_ _ w=>Ux 400 (encI (X.runs X.L)) X.Ls (X.T.map tuR) (λf g c=>K c) m ((i+1:Nat):Int) w) m' k ((if k.toNat<=X.nr i-1 then X.jnsR i++(List.range k.toNat).map (X.j1 i)else X.jnsR (i+1)).map tuR)) (N:=X.nr i) (λm' k hk=>?_) (λm'=>?_) (X.nr i) 400 0 I I |> Eq.trans Q2
  ·simp only[Qrb];have r:=rd h hi hk;have hr:=Df h hi hk;have aa:Qi (Hl X.Ls i) (k:Int)=some [Ql (rF X.Ls i k 0),Ql (X.ex i k),Ql (X.mn i k),Ql (X.mx i k)]:=by rw[Qp,r.row]
   have l:=r.ex0;have e1:=r.ex1;have e2:=r.mn0;have n:=r.mn1;have o:=r.mn2;have p:=r.mn3;rw[Wo,X2,Qh,show(((Hl X.Ls i).length:Nat):Int)=((X.nr i:Nat):Int)from rfl,Qt hk,Qrc,Qrx (show k<=X.nr i-1 by omega)];simp -implicitDefEqProofs only[Qh,Q2D h (show i<=X.Ls.length by omega),aa,Qr9,Qrd,Qj,X2,hw,Qdg (a:=base X.nr i) (b:=k) I,Q7e hi hk,QJ (show k<=1000 by omega),Qo (x:=X.run i k+X.mn i k) I I,Qo (x:=X.run i k+X.ex i k) I I,Qo (x:=X.run i k+X.ex i k+X.mx i k) I I,QeM (a:=base X.nr i+k) I];by_cases j:k<X.nr i-1
   ·rw[Qt j,Qrc,Qrx (show k+1<=X.nr i-1 by omega),XM Q3,Qh,<- ZH,Qrm (l₁:=X.jnsR i++(List.range k).map (X.j1 i))];rfl
   ·rw[Q5 ((k:Int)<((X.nr i-1:Nat):Int)),Qra,Qrz (show ¬ k+1<=X.nr i-1 by omega),Qet h];have d:k=X.nr i-1:=I
    cases ht:X.tn i with
    |none=>
     simp -implicitDefEqProofs only[Qh,Qra,jnsR,jR,ht,Qru,d]
    |some t=>
     obtain⟨t1,t2⟩:=Qaa ht;have aj:=(h.tr _ t1).2.1;have q1:=(h.tr _ t1).2.2.1;have q:=(h.tr _ t1).2.2.2.1;have s:=(h.tr _ t1).2.2.2.2.1;have q4:=(h.tr _ t1).2.2.2.2.2.1;simp -implicitDefEqProofs only[Qh,Qrc,Qj,Q2D h (show t.2.1<=X.Ls.length by omega),Qo (x:=X.run i k+t.2.2.1) I I,Qo (x:=X.run i k+X.ex i k+t.2.2.2) I I,jnsR,jR,ht];have e:[Ql ((base X.nr i+k:Nat):Int),Ql ((base X.nr t.2.1:Nat):Int),Ql (X.run i k+t.2.2.1),Ql (X.run i k+X.ex i k+t.2.2.2)]=tuR (X.jT t):=by
      unfold tuR jT;rw[t2,d];rfl
     rw[XM Q3,Qh,e,d,<- Qrl,Qrm (l₁:=X.jnsR i++_)];rfl
  ·simp only[Qrb];rw[Wo,X2,Qh,show(((Hl X.Ls i).length:Nat):Int)=((X.nr i:Nat):Int)from rfl,Qy,Qra,Qrz I]
 ·simp only[Qrb];rw[Ux,Qy,Qra];rfl
theorem Qen(k0:LL->oP R):Wq 400 X.Ls (λ_ _ w=>k0 w) 400 0 []=k0 (X.evs X.L):=by
 have l1:=h.l1;refine QZ (r:=λm i=>Wq 400 X.Ls (λ_ _ w=>k0 w) m i (X.evs i.toNat)) (N:=X.Ls.length) (λm i hi=>?_) (λm=>?_) X.Ls.length 400 0 I I
 ·simp only[Qrb];have hl:=(line h hi).2.1;have hb:=Zv h (i:=i) I;rw[Wq,Qt hi,Qrc,QJ (show i<=1000 by omega)];refine QZ (r:=λm' k=>VQ 400 (i:Int) X.Ls (λ_ _ w=>Wq 400 X.Ls (λ_ _ w=>k0 w) m ((i+1:Nat):Int) w) m' k (X.evs i++evl i k.toNat)) (N:=X.nr i) (λm' k hk=>?_) (λm'=>?_) (X.nr i) 400 0 I I |> Eq.trans (by simp[evl])
  ·simp only[Qrb];rw[VQ,Qp,(line h hi).1];simp -implicitDefEqProofs only[Qh,Qr9,Qrd,X2];rw[show(((Hl X.Ls i).length:Nat):Int)=((X.nr i:Nat):Int)from rfl,Qt hk,Qrc,XM (by simp[evs_len,RY];omega),Qh,QJ I,Qrl];rfl
  ·simp only[Qrb];rw[VQ,Qp,(line h hi).1];simp -implicitDefEqProofs only[Qh,Qr9,Qrd,X2];rw[show(((Hl X.Ls i).length:Nat):Int)=((X.nr i:Nat):Int)from rfl,Qy,Qra];rfl
 ·simp only[Qrb];rw[Wq,Qy,Qra];rfl
theorem QgA(K:LL->oP R):Rc 400 X.Ls (encI (X.runs X.L)) K=K (X.pls X.L):=by
 have l1:=h.l1;unfold Rc;refine QZ (r:=λm i=>UD 400 (encI (X.runs X.L)) X.Ls (λe f c=>K c) m i (X.pls i.toNat)) (N:=X.Ls.length) (λm i hi=>?_) (λm=>?_) X.Ls.length 400 0 I I
 ·simp only[Qrb];have hl:=(line h hi).2.1;have hb:=Zv h (i:=i) I;have hp:=Q0c (X:=X) (i:=i);have hw:wJ (((List.length (Hl X.Ls i):Nat):Int)-1)=((X.nr i-1:Nat):Int):=G8 (k:=X.nr i) I I;rw[UD,Qt hi,Qrc,Qp,(line h hi).1];simp -implicitDefEqProofs only[Qh,Qr9,Qrd,QJ (show i<=1000 by omega)];refine QZ (r:=λm' k=>UG 400 (encI (X.runs X.L)) (i:Int) X.Ls (Ql (X.w i)) (D.sl 4 (Hl X.Ls i)) (λ_ _ w=>UD 400 (encI (X.runs X.L)) X.Ls (λe f c=>K c) m ((i+1:Nat):Int) w) m' k (X.pls i++X.pl i k.toNat)) (N:=X.nr i) (λm' k hk=>?_) (λm'=>?_) (X.nr i) 400 0 I I |> Eq.trans (by simp[pl])
  ·simp only[Qrb];have r:=rd h hi hk;have hr:=Df h hi hk;have aa:Qi (Hl X.Ls i) (k:Int)=some [Ql (rF X.Ls i k 0),Ql (X.ex i k),Ql (X.mn i k),Ql (X.mx i k)]:=by rw[Qp,r.row]
   have g:=r.ex0;have e1:=r.ex1;have ai:=Q85 (X:=X) (i:=i) (k:=k);rw[UG,X2,Qh,show(((Hl X.Ls i).length:Nat):Int)=((X.nr i:Nat):Int)from rfl,Qt hk,Qrc];simp -implicitDefEqProofs only[Qh,Q2D h (show i<=X.Ls.length by omega),aa,Qr9,Qrd,Qj,X2,hw,Qdg (a:=base X.nr i) (b:=k) I,Q7e hi hk,QJ (show k<=1000 by omega),Qo (x:=X.run i k+X.ex i k) I I,Q0I (a:=base X.nr i+k) I,QeM (a:=2*(base X.nr i+k)) I,Qjb (a:=2*(base X.nr i+k)) I];rw[XM Q3,Qh];by_cases d:k<X.nr i-1
   ·rw[Qt d,Qrc,XM Q3,Qh,pl,Qrx d,<- Qrl,<- Qrl];rfl
   ·rw[Q5 ((k:Int)<((X.nr i-1:Nat):Int)),Qra,pl,Qrz d,Qru,<- Qrl];rfl
  ·simp only[Qrb];rw[UG,X2,Qh,show(((Hl X.Ls i).length:Nat):Int)=((X.nr i:Nat):Int)from rfl,Qy,Qra];rfl
 ·simp only[Qrb];rw[UD,Qy,Qra];rfl
theorem QhM{per:Int}{Ch Sy:LL}(hl:X.LsOK per Ch Sy)(K:LL->oP R):RW 400 X.Ls Ch (X.T.map tuR) Sy K=K (Ch.map X.chE++X.T.map X.tuE++Sy.map X.syE):=by
 have l1:=h.l1;have tl:=h.tl;have chl:=hl.chl;have syl:=hl.syl;unfold RW;have s1:∀k0:LL->oP R,UE 400 X.Ls Ch (λ_ _ w=>k0 w) 400 0 []=k0 (Ch.map X.chE):=by
  intro k0;refine QZ (r:=λm j=>UE 400 X.Ls Ch (λ_ _ w=>k0 w) m j ((Ch.take j.toNat).map X.chE)) (N:=Ch.length) (λm j hj=>?_) (λm=>?_) Ch.length 400 0 I I
  ·simp only[Qrb];obtain⟨row,e⟩:∃q,Ch[j]? = some q:=⟨Ch[j],Qre hj⟩;obtain⟨f,fr,t,tr,mn,mx,w,rfl,g1,n,c,y,z,g6⟩:=hl.ch row (Qrf e);have nf:=(line h g1).2.1;have nt:=(line h c).2.1;have bf:=Zv h (i:=f) I;have bt:=Zv h (i:=t) I;rw[UE,Qt hj,Qrc,Qp,e,ZA e,Qrm];simp -implicitDefEqProofs only[Qh,Qr9,Qrd,Qj,Q2D h (show f<=X.Ls.length by omega),Q2D h (show t<=X.Ls.length by omega),QJ (show j<=1000 by omega),Qdg (a:=base X.nr f) (b:=fr) I,Qdg (a:=base X.nr t) (b:=tr) I,Q0I (a:=base X.nr f+fr) I,Q0I (a:=base X.nr t+tr) I,QeM (a:=2*(base X.nr f+fr)) I];rw[XM Q3,Qh];rfl
  ·simp only[Qrb];rw[UE,Qy,Qra,QrE]
 have s2:∀k0:LL->oP R,Wm 400 X.Ls (X.T.map tuR) (λ_ _ w=>k0 w) 400 0 (Ch.map X.chE)=k0 (Ch.map X.chE++X.T.map X.tuE):=by
  intro k0;refine QZ (r:=λm j=>Wm 400 X.Ls (X.T.map tuR) (λ_ _ w=>k0 w) m j (Ch.map X.chE++(X.T.take j.toNat).map X.tuE)) (N:=X.T.length) (λm j hj=>?_) (λm=>?_) X.T.length 400 0 I I |> Eq.trans Q2
  ·simp only[Qrb];obtain⟨⟨a,b,lo,hi⟩,e⟩:∃q,X.T[j]? = some q:=⟨X.T[j],Qre hj⟩;have ht:=h.tr _ (Qrf e);have g1:a<X.Ls.length:=ht.1;have c:b<X.Ls.length:=ht.2.1;have nf:=(line h g1).2.1;have bf:=Zv h (i:=a) I;have bt:=Zv h (i:=b) I;have aa:Qi (X.T.map tuR) (j:Int)=some [Ql a,Ql b,Ql lo,Ql hi]:=X6 e;have p:Ch.map X.chE++(X.T.take (j+1)).map X.tuE=Ch.map X.chE++(X.T.take j).map X.tuE++[X.tuE (a,b,lo,hi)]:=by rw[ZA e,Qrm,<- Qrl];rfl
   have hw:wJ (((2*(base X.nr a+X.nr a):Nat):Int)-1)=((2*(base X.nr a+(X.nr a-1))+1:Nat):Int):=by rw[Qo I I];omega
   have ha:wJ (((base X.nr a:Nat):Int)+(((Hl X.Ls a).length:Nat):Int))=((base X.nr a+X.nr a:Nat):Int):=Qdg (a:=base X.nr a) (b:=X.nr a) I;rw[Wm,Qrg,Qt hj,Qrc,aa,p];simp -implicitDefEqProofs only[Qh,Qr9,Qrd,Qj,X2,Q2D h (show a<=X.Ls.length by omega),Q2D h (show b<=X.Ls.length by omega),Qp,(line h g1).1,QJ (show j<=1000 by omega),ha,Q0I (a:=base X.nr a+X.nr a) I,Q0I (a:=base X.nr b) I,hw];rw[XM Q3,Qh];rfl
  ·simp only[Qrb];rw[Wm,Qrg,Qy,Qra,QrE]
 have s:∀k0:LL->oP R,Zp 400 X.Ls Sy (λ_ _ w=>k0 w) 400 0 (Ch.map X.chE++X.T.map X.tuE)=k0 (Ch.map X.chE++X.T.map X.tuE++Sy.map X.syE):=by
  intro k0;refine QZ (r:=λm j=>Zp 400 X.Ls Sy (λ_ _ w=>k0 w) m j (Ch.map X.chE++X.T.map X.tuE++(Sy.take j.toNat).map X.syE)) (N:=Sy.length) (λm j hj=>?_) (λm=>?_) Sy.length 400 0 I I |> Eq.trans Q2
  ·simp only[Qrb];obtain⟨row,e⟩:∃q,Sy[j]? = some q:=⟨Sy[j],Qre hj⟩;obtain⟨o,rfl,g1,n,c⟩:=hl.sy row (Qrf e);have bt:=Zv h (i:=1) I;have k:=Q2D (R:=Int) h (show 0<=X.Ls.length by omega) some;have l:=Q2D (R:=Int) h (show 1<=X.Ls.length by omega) some;have a0:=Qdg (a:=base X.nr 0) (b:=0) (by simp[base]);have a1:=Qdg (a:=base X.nr 1) (b:=0) I;simp only[show((0:Nat):Int)=0 from rfl,show((1:Nat):Int)=1 from rfl]at k l a0 a1;rw[Zp,Qt hj,Qrc,Qp,e,ZA e,Qrm,<- Qrl];simp -implicitDefEqProofs only[Qh,Qr9,Qrd,Qj,k,l,a0,a1,QJ (show j<=1000 by omega),Q0I (a:=base X.nr 0+0) (by simp[base]),Q0I (a:=base X.nr 1+0) I];rw[XM Q3,Qh];rfl
  ·simp only[Qrb];rw[Zp,Qy,Qra,QrE]
 rw[s1 (λu=>Wm 400 X.Ls (X.T.map tuR) (λab ac d=>Zp 400 X.Ls Sy (λv x g=>K g) 400 0 d) 400 0 u),s2 (λd=>Zp 400 X.Ls Sy (λv x g=>K g) 400 0 d),s]
end Cx
theorem Qhz{α:Type}{J J':Y α}(hJ:∀t,t∈J↔t∈J')(p:α->Bool):J.any p=J'.any p:=by
 rw[Bool.eq_iff_iff,List.any_eq_true,List.any_eq_true];exact⟨λ⟨t,a,h2⟩=>⟨t,(hJ t).1 a,h2⟩,λ⟨t,a,h2⟩=>⟨t,(hJ t).2 a,h2⟩⟩
theorem QfY{α:Type}{J J':Y α}(hJ:∀t,t∈J↔t∈J')(p:α->Bool):J.all p=J'.all p:=by
 rw[Bool.eq_iff_iff,List.all_eq_true,List.all_eq_true];exact⟨λh t ht=>h t ((hJ t).2 ht),λh t ht=>h t ((hJ t).1 ht)⟩
namespace Cx
variable{R:Type} {X:Cx} {per:Int} {Ch Sy De:LL}
theorem Q8p{J J':Y Tup}(hJ:∀t,t∈J↔t∈J'):X.netV per J Ch Sy=X.netV per J' Ch Sy:=by
 have e1:∀a b,X.fil J a b=X.fil J' a b:=λa b=>List.filter_congr λo _=>by
  unfold TRb;rw[Qhz hJ]
 have e2:∀a b,X.WV per J a b=X.WV per J' a b:=λa b=>by
  unfold WV;rw[e1,e1]
 have d:∀a c b,X.hdw per J a c b=X.hdw per J' a c b:=λa c=>by
  induction c with
  |zero=>exact λ_=>rfl
  |succ c ih=>intro b;rw[hdw,hdw,e2,ih]
 have e:∀c a,X.hdws per J c a=X.hdws per J' c a:=λc=>by
  induction c with
  |zero=>exact λ_=>rfl
  |succ c ih=>intro a;rw[hdws,hdws,d,ih]
 unfold netV aloneJ;rw[e,QfY hJ]
variable(h:X.OK)
theorem QhB{a b:Nat}(ha:a<=100)(hb:b<=100){W:Y Sp2}(hW:W.length<=12){k0:LL->oP R}{A:LL}(hA:A.length<=900):UN 400 (a:Int) (b:Int) (W.map Yn) (λ_ _ w=>k0 w) 400 0 A=k0 (A++W.map (Q93 a b)):=by
 refine QZ (r:=λm j=>UN 400 (a:Int) (b:Int) (W.map Yn) (λ_ _ w=>k0 w) m j (A++(W.take j.toNat).map (Q93 a b))) (N:=W.length) (λm j hj=>?_) (λm=>?_) W.length 400 0 I I |> Eq.trans Q2
 ·simp only[Qrb];obtain⟨w,e⟩:∃q,W[j]? = some q:=⟨W[j],Qre hj⟩;rw[UN,Qrg,Qt hj,Qrc,X6 e,ZA e,Qrm,<- Qrl];simp -implicitDefEqProofs only[Qh,Qck,QbN,Qj,QJ (show j<=1000 by omega),Q0I (a:=a) I,Q0I (a:=b) I];rw[XM Q3,Qh];rfl
 ·simp only[Qrb];rw[UN,Qrg,Qy,Qra,QrE]
include h
theorem Qds(p0:2<=per)(p1:per<=300){J:Y Tup}(hJ:X.JOK J){a:Nat}(ha:a<X.N){Ke:oP R}{K1:LL->oP R}:∀(c m b:Nat) (A:LL),b+c=X.N->c<m->A.length+12*c<=900 ->
  VM 400 (Kh (X.occs X.L)) (J.map tuR) (a:Int) per Ke (λ_ _ w=>K1 w) m (b:Int) A=match X.hdw per J a c b with | none=>Ke | some H=>K1 (A++H)
 |0,m+1,b,A,hb,_,_=>by
  have aa:(Kh (X.occs X.L)).length=X.N:=by rw[Jo];exact ZL
  rw[VM,aa,Q5 ((b:Int)<(X.N:Int)),Qra,hdw];simp only[Qru]
 |c+1,m+1,b,A,hb,hm,hA=>by
  have aa:(Kh (X.occs X.L)).length=X.N:=by rw[Jo];exact ZL
  have hN:X.N<=6:=base_le h;have hw:=Q3e h p0 p1 (J:=J) ha (show b<X.N by omega);rw[VM,aa,Q6 ((b:Int)<(X.N:Int)),Qrc,Q71 h hJ ha,Q71 h hJ (show b<X.N by omega)];simp -implicitDefEqProofs only[Qh,hw.2.1,QJ (show b<=1000 by omega),hdw];cases ew:X.WV per J a b with
  |none=>rfl
  |some W=>
   have hl:=hw.2.2 W ew;simp -implicitDefEqProofs only[QhO];rw[Qq (by rfl),QhB I I hl I,Qds p0 p1 hJ ha c m (b+1) _ I I Q3];cases X.hdw per J a c (b+1)with
   |none=>rfl
   |some H=>simp -implicitDefEqProofs only[Option.map_some,Qrl]
theorem Qdo(p0:2<=per)(p1:per<=300){J:Y Tup}(hJ:X.JOK J){Ke:oP R}{K1:LL->oP R}:∀(c m a:Nat) (A:LL),a+c=X.N->c<m->A.length+72*c<=900 ->
  UJ 400 (Kh (X.occs X.L)) (J.map tuR) per Ke (λ_ _ w=>K1 w) m (a:Int) A=match X.hdws per J c a with | none=>Ke | some H=>K1 (A++H)
 |0,m+1,a,A,ha,_,_=>by
  have aa:(Kh (X.occs X.L)).length=X.N:=by rw[Jo];exact ZL
  rw[UJ,aa,Q5 ((a:Int)<(X.N:Int)),Qra,hdws];simp only[Qru]
 |c+1,m+1,a,A,ha,hm,hA=>by
  have aa:(Kh (X.occs X.L)).length=X.N:=by rw[Jo];exact ZL
  have hN:X.N<=6:=base_le h;rw[UJ,aa,Q6 ((a:Int)<(X.N:Int)),Qrc,QJ (show a<=1000 by omega),Qds h p0 p1 hJ (show a<X.N by omega) (Ke:=Ke) (K1:=λA=>UJ 400 (Kh (X.occs X.L)) (J.map tuR) per Ke (λ_ _ w=>K1 w) m ((a+1:Nat):Int) A) c 400 (a+1) A I I I,hdws];cases eh:X.hdw per J a c (a+1)with
  |none=>rfl
  |some H=>
   have:=Q2M h p0 p1 (J:=J) (show a<X.N by omega) (c:=c) (b:=a+1) I eh;dsimp only;rw[Qdo p0 p1 hJ c m (a+1) (A++H) I I Q3];cases X.hdws per J c (a+1)with
   |none=>rfl
   |some H'=>simp -implicitDefEqProofs only[Option.map_some,Qrl]
theorem QdY(p0:2<=per)(p1:per<=300){k0 E:oP R}{k1:Int->Bool->oP R}(hk:∀a b,k1 a b=E):UQ 400 (Kh (X.occs X.L)) per k0 k1 400 0=bif (X.occs X.L).all (λo=>o.all (LP per))then E else k0:=by
 have hN:X.N<=6:=base_le h;have ac:(X.occs X.L).length=X.N:=ZL;refine TU (r:=λm i=>UQ 400 (Kh (X.occs X.L)) per k0 k1 m i) (λm i o e hi=>?_) (λm=>?_) I
 ·have ho:=Qb6 h o (Qrf e);have aa:Qi (Kh (X.occs X.L)) (i:Int)=some [D.sl 3 (o.map enc)]:=X6 e;rw[UQ,Jo,Qt hi,Qrc,aa];simp -implicitDefEqProofs only[Qh,Qr9,X2,Qgw (show 1<=per by omega) (show per<=7200 by omega) ho.1 (show o.length<=300 by omega),QJ (show i<=1000 by omega)];cases o.all (LP per)<;>rfl
 ·rw[UQ,Jo,Qy,Qra,hk]
theorem QeW{J:Y Tup}(hJ:X.JOK J){k0 E:oP R}{k1:Int->Bool->oP R}(hk:∀a b,k1 a b=E):UR 400 (Kh (X.occs X.L)) (J.map tuR) per k0 k1 400 0=bif J.all (λt=>!Qac per t.2.2.1 t.2.2.2 (X.occN t.1) (X.occN t.2.1))then E else k0:=by
 have ac:=hJ.len;refine TU (r:=λm i=>UR 400 (Kh (X.occs X.L)) (J.map tuR) per k0 k1 m i) (λm i t e hi=>?_) (λm=>?_) I
 ·rw[UR,Qrg,Qt hi,Qrc,X6 e];simp -implicitDefEqProofs only[Qh,tuR,Qr9,Qrd,Qj,QJ (show i<=1000 by omega),QgV h hJ (Qrf e)];cases Qac per t.2.2.1 t.2.2.2 (X.occN t.1) (X.occN t.2.1)<;>rfl
 ·rw[UR,Qrg,Qy,Qra,hk]
theorem buildR(hl:X.LsOK per Ch Sy)(p0:2<=per)(p1:per<=300)(hc:Wl 400 X.G.St X.G.Pt X.G.Se X.G.Li per X.skR X.Ro X.Ls Ch (X.T.map tuR) Sy De (some:Int->oP Int)=some 0) :
  UA 400 X.G.St X.G.Pt X.G.Se X.G.Li per X.skR X.Ro X.Ls Ch (X.T.map tuR) Sy De Tu4=some (X.netV per X.jns Ch Sy):=by
 have hN:X.N<=6:=base_le h;have ac:(X.occs X.L).length=X.N:=ZL;have aj:=planned_len h hl;have hJ:=Qgq h;have aa:(X.pls X.L++(Ch.map X.chE++X.T.map X.tuE++Sy.map X.syE))=X.planned Ch Sy:=by unfold planned;simp only[Qrl]
 rw[<- Q8p λt=>Q3M h (t:=t)];unfold UA netV;rw[QgY h hc,Qh,Qq (by rfl)];dsimp only;rw[Jo,ac,Q0I I,Qq (Qri I),QdY h p0 p1 (λ_ _=>rfl)];unfold aloneJ;cases (X.occs X.L).all (λo=>o.all (LP per))
 ·rfl
 rw[Qrc,Qrc,Qhx h,Qh,QeW h hJ (λ_ _=>rfl)];cases (X.jnsR X.L).all (λt=>!Qac per t.2.2.1 t.2.2.2 (X.occN t.1) (X.occN t.2.1))
 ·rfl
 rw[Qrc,Qrc];refine(Qen h _).trans ?_;rw[QgA h,QhM h hl,Qh,Qh,XM (by rw[<- QrA,aa];omega),Qh,aa];refine(Qdo h p0 p1 hJ (Ke:=some ((0:Int),([]:LL),([]:LL),(13:Int))) (K1:=λa=>bif decide (((List.length a:Nat):Int)>512)then some (0,[],[],7)else some (per,X.evs X.L,a,0)) X.N 400 0 (X.planned Ch Sy) I I I).trans ?_;cases eh:X.hdws per (X.jnsR X.L) X.N 0 with
 |none=>rfl
 |some H=>
  have:=hdws_len h p0 p1 I eh;dsimp only;rw[Qq (Qri (by rw[QrA];omega))]
end Cx
def R6(row:Y D):Prop:=∃kd f t mn mx w:Int,row=[Ql kd,Ql f,Ql t,Ql mn,Ql mx,Ql w]
def chk(per:Int)(e:Nat):Y D->Bool
 |[_,.int _ f,.int _ t,.int _ mn,.int _ mx,.int _ w]=>!(bif bif !(bif decide (f>=0)then decide (f<(e:Int))else false)then true else !(bif decide (t>=0)then decide (t<(e:Int))else false)then true else f == t)&&(!(bif bif bif decide (mn < -65536)then true else decide (mn>mx)then true else decide (mx>65536)then true else decide (wJ (mx-mn)>=per))&&!(bif decide (w<0)then true else decide (w>1048576)))
 |_=>false
theorem Q2T{per:Int}{e:Nat}{kd f t mn mx w:Int}(h:chk per e [Ql kd,Ql f,Ql t,Ql mn,Ql mx,Ql w]=true):0<=f/\f<e/\0<=t/\t<e /\ -65536<=mn/\mn<=mx/\mx<=65536:=by
 simp only[chk,Bool.cond_true_left,Bool.cond_false_right,Bool.and_eq_true,Bool.not_eq_true',Bool.or_eq_false_iff,Bool.not_eq_false',decide_eq_true_eq,decide_eq_false_iff_not,beq_eq_false_iff_ne]at h;omega
section
variable{per:Int} {E A:LL} (p0:2<=per) (p1:per<=300) (hE:E.length<=48) (hA:A.length<=512) (hr:∀r∈A,R6 r)
include p0 p1 hE hA hr
theorem Qgs(hl:A.length<400):TC 400 per E A some=some (A.all (chk per E.length)):=by
 unfold TC;rw[Q5 (per<2),Q5 (per>7200),Q5 ((E.length:Int)>48),Q5 ((A.length:Int)>512)];simp -implicitDefEqProofs only[Qra];refine(TU (r:=λm i=>Uf 400 A (A.length:Int) per E A (some false) (λ_ _=>some true) m i) (l:=A) (p:=chk per E.length) (E0:=some false) (E1:=some true) (λm i q e hi=>?_) (λm=>?_) (fuel:=400) I).trans (by cases A.all (chk per E.length)<;>rfl)
 ·obtain⟨kd,f,t,mn,mx,w,rfl⟩:=hr q (Qrf e);rw[Uf,Qt hi,Qrc,Qp,e];unfold GE;simp -implicitDefEqProofs only[Qh,Qr9,Qrd,Qj,QJ (show i<=1000 by omega)];dsimp only[chk];cases (bif bif !(bif decide (f>=0)then decide (f<(E.length:Int))else false)then true else !(bif decide (t>=0)then decide (t<(E.length:Int))else false)then true else f == t)
  ·cases (bif bif bif decide (mn < -65536)then true else decide (mn>mx)then true else decide (mx>65536)then true else decide (wJ (mx-mn)>=per))
   ·cases (bif decide (w<0)then true else decide (w>1048576))<;>rfl
   ·rfl
  ·rfl
 ·rw[Uf,Qy,Qra]
theorem Qdu(hl:A.length<400):Uy 400 per E A some=some (A.all (chk per E.length)):=by
 unfold Uy G2;rw[Q6 (per>=2),Q6 (per<=7200),Q5 ((E.length:Int)>48),Q5 ((A.length:Int)>512)];simp -implicitDefEqProofs only[Qra,Qrc,Qh,Qrn];refine(TU (r:=λm i=>VN 400 per E A (some false) (λ_ _=>some true) m i) (l:=A) (p:=chk per E.length) (E0:=some false) (E1:=some true) (λm i q e hi=>?_) (λm=>?_) (fuel:=400) I).trans (by cases A.all (chk per E.length)<;>rfl)
 ·obtain⟨kd,f,t,mn,mx,w,rfl⟩:=hr q (Qrf e);rw[VN,Qt hi,Qrc,Qp,e];unfold G2;simp -implicitDefEqProofs only[Qh,Qr9,Qrd,Qj,QJ (show i<=1000 by omega),Qo (x:=(E.length:Int)-1) I I];have sw:∀(c d:Bool) (x y:oP Bool),c = !d->(bif c then x else y)=bif d then y else x:=λc d x y h=>by rw[h];cases d<;>rfl
  refine sw _ _ _ _ ?_;rw[Bool.eq_iff_iff];simp only[chk,Bool.cond_true_left,Bool.cond_false_right,Bool.and_eq_true,Bool.or_eq_true,Bool.not_eq_true',Bool.and_eq_false_iff,Bool.or_eq_false_iff,Bool.not_eq_false',decide_eq_true_eq,decide_eq_false_iff_not,beq_eq_false_iff_ne,beq_iff_eq];omega
 ·rw[VN,Qy,Qra]
def Q3O(per:Int)(E A:LL)(tl:Y Int):Bool:=bif (bif !(A.all (chk per E.length))then true else(tl.length:Int) != (E.length:Int))then false else tl.all λx=>!(bif decide (x<0)then true else decide (x>=per))
theorem QeD(hl:A.length<400){tl:Y Int}:Gl 400 per E A (encI tl) some=some (Q3O per E A tl)/\Gk 400 per E A (encI tl) some=some (Q3O per E A tl):=by
 have ca:=Qgs p0 p1 hE hA hr hl;have cb:=Qdu p0 p1 hE hA hr hl;have aa:(encI tl).length=tl.length:=QS tl;unfold Gl Gk Q3O;rw[ca,cb,Qh,Qh,aa];cases hc:(bif !(A.all (chk per E.length))then true else(tl.length:Int) != (E.length:Int))with
 |true=>exact⟨rfl,rfl⟩
 |false=>
  have ac:tl.length=E.length:=by
   cases a : !(A.all (chk per E.length))with
   |true=>rw[a]at hc;cases hc
   |false=>
    rw[a,Qra]at hc;have:(tl.length:Int)=(E.length:Int):=by simpa using hc
    omega
  rw[Qra,Qra,Qra];constructor
  ·refine(TU (r:=λm i=>Vc 400 (encI tl) (tl.length:Int) per (some false) (λ_ _=>some true) m i) (l:=tl) (p:=λx=>!(bif decide (x<0)then true else decide (x>=per))) (E0:=some false) (E1:=some true) (λm i q e hi=>?_) (λm=>?_) (fuel:=400) I).trans (by cases tl.all _<;>rfl)
   ·rw[Vc,Qt hi,Qrc,Hg e];simp -implicitDefEqProofs only[Qh,Qr9,Qj,QJ (show i<=1000 by omega)];cases (bif decide (q<0)then true else decide (q>=per))<;>rfl
   ·rw[Vc,Qy,Qra]
  ·refine(TU (r:=λm i=>Jr 400 (encI tl) per (some false) (λ_ _=>some true) m i) (l:=tl) (p:=λx=>!(bif decide (x<0)then true else decide (x>=per))) (E0:=some false) (E1:=some true) (λm i q e hi=>?_) (λm=>?_) (fuel:=400) I).trans (by cases tl.all _<;>rfl)
   ·rw[Jr,aa,Qt hi,Qrc,Hg e];unfold G2;simp -implicitDefEqProofs only[Qh,Qr9,Qj,QJ (show i<=1000 by omega),Qo (x:=per-1) I I];by_cases a:q<0
    ·rw[Q5 (q>=0),show decide (q<0)=true from Qrk a];rfl
    ·rw[Q6 (q>=0),show decide (q<0)=false from Qri a];by_cases h2:q>=per
     ·rw[Q5 (q<=per-1),show decide (q>=per)=true from Qrk h2];rfl
     ·rw[Q6 (q<=per-1),show decide (q>=per)=false from Qri h2];rfl
   ·rw[Jr,aa,Qy,Qra]
end
theorem PA{w:Y Int}{i:Nat}{v:Int}:(encI w).set i [Ql v]=encI (w.set i v):=by
 unfold encI;rw[List.map_set]
def tat(tl:Y Int)(i:Int):Int:=tl.getD i.toNat 0
def dur(tl:Y Int)(per f t mn:Int):Int:=mn+(tat tl t-tat tl f-mn) % per
def XJ(tl:Y Int)(per:Int):Y D->Int
 |[_,.int _ f,.int _ t,.int _ mn,_,_]=>dur tl per f t mn
 |_=>0
def Q0R(l:Y Bool):LL:=l.map λb=>[D.bool b]
theorem Vw{w:Y Int}{i:Nat}(h:i<w.length):(encI w)[i]? = some [Ql w[i]]:=by
 exact Hg (Qre h)
theorem Q6f{w:Y Bool}{i:Nat}(h:i<w.length):(Q0R w)[i]? = some [D.bool w[i]]:=by
 simp[Q0R,Qrv,Qre]
theorem Q2H{w:Y Bool}:(Q0R w).length=w.length:=by simp[Q0R]
theorem Q7W{w:Y Bool}{i:Nat}{v:Bool}:(Q0R w).set i [D.bool v]=Q0R (w.set i v):=by
 grind[Q0R,List.map_set]
def TG(per:Int)(k:Nat)(w:Y Int):Prop:=w.length=k/\∀x∈w,0<=x/\x<per
theorem TG.set{per:Int}{k:Nat}{w:Y Int}(h:TG per k w){i:Nat}{v:Int}(a:0<=v)(b:v<per):TG per k (w.set i v):=by
 refine⟨by rw[QrK];exact h.1,λx hx=>?_⟩;rcases List.mem_or_eq_of_mem_set hx with hx | rfl
 ·exact h.2 x hx
 omega
theorem TG.tat{per:Int}{k:Nat}{w:Y Int}(h:TG per k w){i:Int}(a:0<=i)(b:i<(k:Int)):Qi (encI w) i=some [Ql (Vx.tat w i)]/\0<=Vx.tat w i/\Vx.tat w i<per:=by
 have hl:=h.1;have e:w[i.toNat]? = some (Vx.tat w i):=by
  simp_all [Vx.tat,Qrh,Qre]
 have:=Hg e;rw[show(i.toNat:Int)=i by omega]at this;exact⟨this,h.2 _ (Qrf e)⟩
section
variable{R:Type} {n N:Nat} (hN:N<=48) {P:oP R->Prop}
include hN
theorem QgM{k0:Int->Bool->LL->oP R}(H:∀w:Y Int,w.length=N->P (k0 (N:Int) false (encI w))):∀(c i m:Nat) (w:Y Int),i+c=N->c<m->w.length=N->P (Zm n (N:Int) k0 m (i:Int) (encI w))
 |0,i,m+1,w,hi,_,hw=>by
  rw[Zm,show i=N by omega,Qy,Qra];exact H w hw
 |c+1,i,m+1,w,hi,hm,hw=>by
  rw[Zm,Qt I,Qrc,XR I (by rw[QS];omega),Qh,Qrb,Vw I,Qh,Qrw,PA,QJ I];exact QgM H c (i+1) m _ I I (by rw[QrK];exact hw)
theorem QaX{x y:Int}{k0:Int->Bool->LL->oP R}(H:∀w:Y Int,w.length=N->P (k0 (N:Int) false (encI w))):∀(c i m:Nat) (w:Y Int),i+c=N->c<m->w.length=N->P (Zk n x y (N:Int) k0 m (i:Int) (encI w))
 |0,i,m+1,w,hi,_,hw=>by
  rw[Zk,show i=N by omega,Qy,Qra];exact H w hw
 |c+1,i,m+1,w,hi,hm,hw=>by
  rw[Zk,Qt I,Qrc,XR I (by rw[QS];omega),Qh,Qrb,Vw I];simp -implicitDefEqProofs only[Qh,Qr9,Qj,Qrw,PA,QJ (show i<=1000 by omega)];cases w[i]'I == y with
  |true=>exact QaX H c (i+1) m _ I I (by rw[QrK];exact hw)
  |false=>exact QaX H c (i+1) m _ I I hw
theorem QgF(hn:N<n){w:Y Int}(hw:w.length=N){kd f t mn mx q:Int}(hf:0<=f/\f<N)(ht:0<=t/\t<N){K:Bool->LL->oP R}(H:∀b (w:Y Int),w.length=N->P (K b (encI w))):P (JT n (encI w) kd f t mn mx q K):=by
 obtain⟨f,rfl⟩:=QrO hf.1;obtain⟨t,rfl⟩:=QrO ht.1;unfold JT;rw[XR I (by grind[QS]),Qh,Qrb,Vw (show f<w.length by omega),Qh];simp -implicitDefEqProofs only[Qh,Qr9,Qj];rw[XR I (by rw[QS];omega),Qh,Qrb,Vw (show t<w.length by omega),Qh];simp -implicitDefEqProofs only[Qh,Qr9,Qj];cases w[f]'I == w[t]'I with
 |true=>simp_all
 |false=>
  rw[Qra,QS];generalize w[f]'I=x;generalize w[t]'I=y;rw[hw];exact QaX hN (H true) N 0 n w I hn hw
theorem QeP{h:Nat}(hh:h<N){ro:Y Int}(hr:ro.length=N){k0:Int->Bool->LL->oP R}(H:∀w:Y Int,w.length=N->P (k0 (h:Int) false (encI w))):∀(c i m:Nat) (w:Y Int),i+c=h->c<m->w.length=N->P (YG n (h:Int) (encI ro) k0 m (i:Int) (encI w))
 |0,i,m+1,w,hi,_,hw=>by
  rw[YG,show i=h by omega,Qy,Qra];exact H w hw
 |c+1,i,m+1,w,hi,hm,hw=>by
  rw[YG,Qt I,Qrc];simp -implicitDefEqProofs only[XR (len:=(encI ro).length) (n:=(i:Int)) I (by rw[QS];omega),XR (len:=(encI ro).length) (n:=(h:Int)) I (by rw[QS];omega),XR (len:=(encI w).length) (n:=(i:Int)) I (by rw[QS];omega),XR (len:=(encI w).length) (n:=(h:Int)) I (by rw[QS];omega),Qrb,Vw (show i<ro.length by omega),Vw (show h<ro.length by omega),Vw (show i<w.length by omega),Vw (show h<w.length by omega),Qh,Qr9,Qj,Qrw,PA,QJ (show i<=1000 by omega)];cases ro[i]'I == ro[h]'I with
  |true=>exact QeP hh hr H c (i+1) m _ I I (by rw[QrK];exact hw)
  |false=>exact QeP hh hr H c (i+1) m _ I I hw
theorem Qez(hn:N<n){ro:Y Int}(hr:ro.length=N){k0:Int->Int->Bool->LL->oP R}(H:∀a (w:Y Int),w.length=N->P (k0 a (N:Int) false (encI w))):∀(c i m:Nat) (a:Int) (w:Y Int),i+c=N->c<m->w.length=N->P (YH n (N:Int) (encI ro) k0 m a (i:Int) (encI w))
 |0,i,m+1,a,w,hi,_,hw=>by
  rw[YH,show i=N by omega,Qy,Qra];exact H a w hw
 |c+1,i,m+1,a,w,hi,hm,hw=>by
  rw[YH,Qt I,Qrc,XR I (by rw[QS];omega),Qh,Qrb,Vw (show i<w.length by omega),Qh,Qrw,PA];refine QeP hN (show i<N by omega) hr (λw hw=>?_) i 0 n _ I I (by rw[QrK];exact hw);simp -implicitDefEqProofs only[XR (len:=(encI w).length) (n:=(i:Int)) I (by rw[QS];omega),Qrb,Vw (show i<w.length by omega),Qh,Qr9,Qj,Qrw,PA,QJ (show i<=1000 by omega)];cases decide (w[i]'I<0)with
  |true=>exact Qez hn hr H c (i+1) m _ _ I I (by rw[QrK];exact hw)
  |false=>exact Qez hn hr H c (i+1) m _ _ I I hw
theorem Qj9{A:LL}(hA:A.length<400){per:Int}(hr:∀r∈A,R6 r)(hc:∀r∈A,chk per N r=true)(hn:N<n){k0:Int->Bool->LL->oP R}(H:∀a b (w:Y Int),w.length=N->P (k0 a b (encI w))):∀(aa:LL) (i m:Nat) (w:Y Int),A.drop i=aa->aa.length<m->w.length=N->P (Zj n A k0 m (i:Int) (encI w)):=by
 intro aa;induction aa with
 |nil=>
  intro i m w hd hm hw;obtain⟨m,rfl⟩:∃k,m=k+1:=⟨m-1,I⟩;have:=Wc hd;rw[Zj,show decide ((i:Int)<(A.length:Int))=false by simp_all,Qra]
  simp_all
 |cons r aa ih=>
  intro i m w hd hm hw;obtain⟨m,rfl⟩:∃k,m=k+1:=⟨m-1,by simp at hm;omega⟩;obtain⟨e,ak,aj⟩:=Yf hd;have ac:=Qrf e;obtain⟨kd,f,t,mn,mx,q,rfl⟩:=hr r ac;have hk:=Q2T (hc _ ac);rw[QrD]at hm;rw[Zj,Qt aj,Qrc,Qp,e];simp -implicitDefEqProofs only[Qh,Qr9,Qrd,Qj,QJ (show i<=1000 by omega)];have hx:∃b w',JT n (encI w) kd f t mn mx q Tu2=some (b,encI w')/\w'.length=N:=QgF (P:=λX=>∃b w',X=some (b,encI w')/\w'.length=N) hN hn hw I I λb w' h=>⟨b,w',rfl,h⟩
  obtain⟨b,w',e',ai⟩:=hx;rw[e',Qh];dsimp only;rw[MT (by rw[QS,QS];omega),Qh];exact ih (i+1) m w' ak I ai
theorem Q9o{h:Nat}(hh:h<N){ro:Y Int}(hr:ro.length=N){k0:Int->Bool->LL->oP R}(H:∀w:Y Bool,w.length=N->P (k0 (h:Int) false (Q0R w))):∀(c i m:Nat) (w:Y Bool),i+c=h->c<m->w.length=N->P (YV n (encI ro) (h:Int) k0 m (i:Int) (Q0R w))
 |0,i,m+1,w,hi,_,hw=>by
  rw[YV,show i=h by omega,Qy,Qra];exact H w hw
 |c+1,i,m+1,w,hi,hm,hw=>by
  rw[YV,Qt I,Qrc];simp -implicitDefEqProofs only[Qp,XR (len:=(Q0R w).length) (n:=(h:Int)) I (by rw[Q2H];omega),Qrb,Vw (show i<ro.length by omega),Vw (show h<ro.length by omega),Q6f (show h<w.length by omega),Qh,Qr9,Qj,Qrw,Q7W,QJ (show i<=1000 by omega)];cases ro[i]'I == ro[h]'I with
  |true=>exact Q9o hh hr H c (i+1) m _ I I (by rw[QrK];exact hw)
  |false=>exact Q9o hh hr H c (i+1) m _ I I hw
theorem QdM(hn:N<n){ro:Y Int}(hr:ro.length=N){k0:Int->Bool->LL->oP R}(H:∀w:Y Bool,w.length=N->P (k0 (N:Int) false (Q0R w))):∀(c i m:Nat) (w:Y Bool),i+c=N->c<m->w.length=N->P (ZM n (encI ro) (N:Int) k0 m (i:Int) (Q0R w))
 |0,i,m+1,w,hi,_,hw=>by
  rw[ZM,show i=N by omega,Qy,Qra];exact H w hw
 |c+1,i,m+1,w,hi,hm,hw=>by
  rw[ZM,Qt I,Qrc,XR I (by rw[Q2H];omega),Qh,Qrb,Q6f (show i<w.length by omega),Qh,Qrw,Q7W,QJ I];exact Q9o hN (show i<N by omega) hr (λw hw=>QdM hn hr H c (i+1) m w I I hw) i 0 n _ I I (by rw[QrK];exact hw)
omit hN in
theorem Qin:List.replicate N [D.int .i64 (0:Int)]=encI (List.replicate N 0):=by grind[encI,List.map_replicate]
omit hN in
theorem Qkq:List.replicate N [D.bool false]=Q0R (List.replicate N false):=by grind[Q0R,List.map_replicate]
omit hN in
theorem Q4H:(bif decide ((0:Int)<=(N:Int))&&decide ((N:Int)<=(N:Int))then some ()else none)=some ():=by simp_all
end
def FsB(A:LL)(per:Int)(i:Nat)(w:Y Int):Prop:=∀kd f t mn mx q:Int,[Ql kd,Ql f,Ql t,Ql mn,Ql mx,Ql q]∈A->0<=f->f<(i:Int)->0<=t->t<(i:Int)->mn+(tat w t-tat w f-mn) % per<=mx
def TF(A:LL)(per:Int)(k i:Nat)(w:Y Int):Prop:=TG per k w/\FsB A per i w
section
variable{per:Int} {E A:LL} {n:Nat} (p0:2<=per) (p1:per<=300) (hE:E.length<=48) (hA:A.length<400) (hr:∀r∈A,R6 r) (hc:∀r∈A,chk per E.length r=true) (hn:n=400)
include p0 p1 hE hA hr hc hn
theorem QjN(aa:Uy n per E A some=some true):∃w:Y Int,G1 n per E A some=some (encI w)/\w.length=E.length:=by
 unfold G1;rw[aa,Qh,Qrn,Qra,Q4H,Qh,Qrb,XM I,Qh,List.length_replicate,Qin];refine QgM (P:=λX=>∃w:Y Int,X=some (encI w)/\w.length=E.length) hE (λw hw=>?_) E.length 0 n _ I I Q2;refine Qj9 (P:=λX=>∃w:Y Int,X=some (encI w)/\w.length=E.length) hE hA hr hc I (λa b w hw=>?_) A 0 n w rfl I hw;rw[QS,hw,Q4H,Qh,Qrb,XM I,Qh,Qin];exact Qez (P:=λX=>∃w:Y Int,X=some (encI w)/\w.length=E.length) hE I hw (λa w hw=>⟨w,rfl,hw⟩) E.length 0 n 0 _ I I Q2
theorem QkJ(aa:Uy n per E A some=some true){bu:Int}{al:Bool}:∃w:Y Bool,K6 n per E A bu al Tu11=some (per,E,A,Q0R w,bu,0,false,al,false,0,encI (List.replicate E.length 0))/\w.length=E.length:=by
 obtain⟨ro,k,h2⟩:=QjN p0 p1 hE hA hr hc hn aa;unfold K6;rw[k,Qh,Q4H,Qh,Qrb,XM I,Qh,Qh,XM I,Qh,Qin,Qkq,QS,h2];exact QdM (P:=λX=>∃w:Y Bool,X=some (per,E,A,Q0R w,bu,0,false,al,false,0,encI (List.replicate E.length 0))/\w.length=E.length) hE I h2 (λw hw=>⟨w,rfl,hw⟩) E.length 0 n _ I I Q2
theorem Qdx{R:Type}{w:Y Int}(hw:TG per E.length w){kd f t mn mx q:Int}(hm:[Ql kd,Ql f,Ql t,Ql mn,Ql mx,Ql q]∈A)(K:Int->oP R):Jc n per (encI w) f t mn K=K (mn+(tat w t-tat w f-mn) % per):=by
 have hk:=Q2T (hc _ hm);have tf:=hw.tat (i:=f) I I;have tt:=hw.tat (i:=t) I I;have:=Qrt (tat w t-tat w f-mn) (show per≠0 by omega);have:=Qrq (tat w t-tat w f-mn) (show 0<per by omega);unfold Jc;simp -implicitDefEqProofs only[Qh,Qr9,Qrd,Qj,tf.1,tt.1,Qo (x:=tat w t-tat w f) I I,Qo (x:=tat w t-tat w f-mn) I I,QhX (n:=n) (t:=per) (x:=tat w t-tat w f-mn) I I I I,Qo (x:=mn+(tat w t-tat w f-mn) % per) I I]
theorem QiE{w:Y Int}(hw:TG per E.length w){al fd:Bool}{best i:Int}:∃b,Zu n per A al fd best (encI w) i some=some b/\(al=false->b=false->∀kd f t mn mx q:Int,[Ql kd,Ql f,Ql t,Ql mn,Ql mx,Ql q]∈A->f<=i->t<=i->mn+(tat w t-tat w f-mn) % per<=mx):=by
 unfold Zu;have go:∀(aa:LL) (j m:Nat) (s:Int),A.drop j=aa->aa.length<m->∃b,Xj n i (encI w) per A (some true) (λo u v=>some (bif (bif al then fd else false)then(decide (o>=best))else false)) m s (j:Int)=some b/\(al=false->b=false->∀kd f t mn mx q:Int,[Ql kd,Ql f,Ql t,Ql mn,Ql mx,Ql q]∈aa->f<=i->t<=i->mn+(tat w t-tat w f-mn) % per<=mx):=by
  intro aa;induction aa with
  |nil=>
   intro j m s hd hm;obtain⟨m,rfl⟩:∃k,m=k+1:=⟨m-1,by simp at hm;omega⟩;have:=Wc hd;rw[Xj,show decide ((j:Int)<(A.length:Int))=false by simpa using this,Qra]
   simp_all
  |cons r aa ih=>
   intro j m s hd hm;obtain⟨m,rfl⟩:∃k,m=k+1:=⟨m-1,by simp at hm;omega⟩;obtain⟨e,an,ar⟩:=Yf hd;have am:=Qrf e;obtain⟨kd,f,t,mn,mx,q,rfl⟩:=hr r am;rw[QrD]at hm;rw[Xj,Qt ar,Qrc,Qp,e];simp -implicitDefEqProofs only[Qh,Qr9,Qrd,Qj,Qdx p0 p1 hE hA hr hc hn hw am,QJ (show j<=1000 by omega)];cases l:(bif decide (f>i)then true else decide (t>i))with
   |true=>
    obtain⟨b,hb,aj⟩:=ih (j+1) m (wJ (s+wJ (q*mn))) an I;refine⟨b,hb,λa h2 ai f' t' ac ak q' c d g=>?_⟩;rcases QrI.1 c with h | h
    ·cases h;rw[Qri I,Qri I]at l;cases l
    ·exact aj a h2 ai f' t' ac ak q' h d g
   |false=>
    rw[Qra];cases p:decide (mn+(tat w t-tat w f-mn) % per>mx)with
    |true=>exact⟨_,rfl,λ_ h=>nomatch h⟩
    |false=>
     obtain⟨b,hb,aj⟩:=ih (j+1) m (wJ (s+wJ (q*(mn+(tat w t-tat w f-mn) % per)))) an I;refine⟨b,hb,λa h2 ai f' t' ac ak q' c d g=>?_⟩;rcases QrI.1 c with h | h
     ·cases h;have:=of_decide_eq_false p;omega
     ·exact aj a h2 ai f' t' ac ak q' h d g
 exact go A 0 n 0 rfl I
theorem QjI{w:Y Int}(hw:TG per E.length w):∃c e,L3 n per E A (encI w) Tu2=some (c,e):=by
 have hg:=(QeD p0 p1 hE I hr hA (tl:=w)).2;rw[<- hn]at hg;unfold L3;rw[hg,Qh];cases Q3O per E A w with
 |false=>exact⟨_,_,rfl⟩
 |true=>
  rw[Qrn,Qra];have go:∀(aa:LL) (j m:Nat) (s:Int),A.drop j=aa->aa.length<m->∃c e,Jk n (encI w) per A (λd g h=>some (d,(0:Int))) m s (j:Int)=some (c,e):=by
   intro aa;induction aa with
   |nil=>
    intro j m s hd hm;obtain⟨m,rfl⟩:∃k,m=k+1:=⟨m-1,by simp at hm;omega⟩;have:=Wc hd;rw[Jk,show decide ((j:Int)<(A.length:Int))=false by simpa using this,Qra];exact⟨_,_,rfl⟩
   |cons r aa ih=>
    intro j m s hd hm;obtain⟨m,rfl⟩:∃k,m=k+1:=⟨m-1,by simp at hm;omega⟩;obtain⟨e,aj,ai⟩:=Yf hd;have ac:=Qrf e;obtain⟨kd,f,t,mn,mx,q,rfl⟩:=hr r ac;rw[QrD]at hm;rw[Jk,Qt ai,Qrc,Qp,e];simp -implicitDefEqProofs only[Qh,Qr9,Qrd,Qj,Qdx p0 p1 hE hA hr hc hn hw ac,QJ (show j<=1000 by omega)];exact ih (j+1) m _ aj I
  exact go A 0 n 0 rfl I
omit p0 p1 hE hA hr hc hn in
theorem TF.dn{i:Nat}{w:Y Int}{k:Nat}(h:TF A per k (i+1) w):TF A per k i w:=⟨h.1,λkd f t mn mx q hm a b h2 c=>h.2 kd f t mn mx q hm a I h2 I⟩
omit p0 p1 hE hA hr hc hn in
theorem TF.set{i:Nat}{w:Y Int}{k:Nat}{v:Int}(h:TF A per k i w)(c:0<=v)(d:v<per):TF A per k i (w.set i v):=by
 refine⟨h.1.set c d,λkd f t mn mx q hm g0 g1 a b=>?_⟩;have e:∀x:Int,0<=x->x<(i:Int)->tat (w.set i v) x=tat w x:=λx g j=>by
  unfold tat;rw[Qrh,Qrh,List.getElem?_set_ne I]
 rw[e f g0 g1,e t a b];exact h.2 kd f t mn mx q hm g0 g1 a b
def Qi0(per:Int)(E A:LL)(i:Nat)(fs:Y Bool)(bu:Int)(X:oP (Bool×Int×LL×LL×LL×Int×Int×Bool×Bool×Bool×Int×LL×LL)):Prop:=
 ∃r us ov fd best res w,X=some (r,per,E,A,Q0R fs,bu,us,ov,false,fd,best,res,encI w)/\TF A per E.length i w/\(fd=true->∃v,res=encI v/\TF A per E.length E.length v)
theorem Qhf{fs:Y Bool}(bi:fs.length=E.length){bu:Int}:∀(c d i:Nat) (us:Int) (ov fd:Bool) (best:Int) (res:LL) (w:Y Int),i+c=E.length->c<d->TF A per E.length i w->(fd=true->∃v,res=encI v/\TF A per E.length E.length v) ->
  Qi0 per E A i fs bu (XH n d per E A (Q0R fs) bu us ov false fd best res (encI w) (i:Int)):=by
 intro c;induction c with
 |zero=>
  intro d i us ov fd best res w hi hd hw hf;obtain⟨d,rfl⟩:∃k,d=k+1:=⟨d-1,I⟩;obtain⟨c,e,a3⟩:=QjI p0 p1 hE hA hr hc hn hw.1;obtain rfl:i=E.length:=I
  rw[XH,J8,show((E.length:Int) == (E.length:Int))=true by simp,Qrc,QS,hw.1.1,XM I,Qh,a3,Qh];exact⟨_,_,_,_,_,_,_,rfl,hw,λ_=>⟨w,rfl,hw⟩⟩
 |succ c ih=>
  intro d i us ov fd best res w hi hd hw hf;obtain⟨d,rfl⟩:∃k,d=k+1:=⟨d-1,I⟩;rw[XH,J8,show((i:Int) == (E.length:Int))=false by simp;omega,Qra,XR I (by rw[Q2H];omega),Qh,Qrb,Q6f (show i<fs.length by omega)];simp -implicitDefEqProofs only[Qh,Qr9,LQ];have az:∀(M:Nat),(M:Int)<=per->∀(k:Nat) (t m:Nat) (us:Int) (ov fd:Bool) (best:Int) (res:LL) (w:Y Int),t+k=M->k<m->TF A per E.length i w->(fd=true->∃v,res=encI v/\TF A per E.length E.length v) ->
    ∀{k0:LL->LL->Int->LL->LL->Int->Int->Bool->Bool->Bool->Int->LL->oP (Bool×Int×LL×LL×LL×Int×Int×Bool×Bool×Bool×Int×LL×LL)} {k1:Int->Bool->LL->LL->Int->LL->LL->Int->Int->Bool->Bool->Bool->Int->LL->oP (Bool×Int×LL×LL×LL×Int×Int×Bool×Bool×Bool×Int×LL×LL)},
    (∀us ov fd best res w,TF A per E.length i w->(fd=true->∃v,res=encI v/\TF A per E.length E.length v)->Qi0 per E A i fs bu (k0 (Q0R fs) (encI w) per E A bu us ov false fd best res)) ->
    (∀a b us ov fd best res w,TF A per E.length i w->(fd=true->∃v,res=encI v/\TF A per E.length E.length v)->Qi0 per E A i fs bu (k1 a b (Q0R fs) (encI w) per E A bu us ov false fd best res)) ->
    Qi0 per E A i fs bu (Xx n (XH n d) (i:Int) (M:Int) k0 k1 m (t:Int) (Q0R fs) (encI w) per E A bu us ov false fd best res):=by
   intro M hM k;induction k with
   |zero=>
    intro t m us ov fd best res w ht hm hw hf k0 k1 g h;obtain⟨m,rfl⟩:∃k,m=k+1:=⟨m-1,I⟩;rw[Xx,show t=M by omega,Qy,Qra];exact h _ _ _ _ _ _ _ w hw hf
   |succ k a4=>
    intro t m us ov fd best res w ht hm hw hf k0 k1 g h;obtain⟨m,rfl⟩:∃k,m=k+1:=⟨m-1,I⟩;have bm:=hw.1.1;rw[Xx,Qt I,Qrc];cases decide (wJ (us+1)>bu)with
    |true=>exact g _ _ _ _ _ w hw hf
    |false=>
     have a2:TF A per E.length i (w.set i (t:Int)):=hw.set I I;obtain⟨b,hb,a5⟩:=QiE p0 p1 hE hA hr hc hn a2.1 (al:=false) (fd:=fd) (best:=best) (i:=(i:Int));rw[Qra,XR I (by rw[QS];omega),Qh,Qrb,Vw (show i<w.length by omega),Qh,Qrw,PA,hb,Qh,QJ (show i<=1000 by omega),QJ (show t<=1000 by omega)];cases b with
     |true=>
      simp -implicitDefEqProofs only[Qrn,Qra];exact a4 (t+1) m _ _ _ _ _ _ I I a2 hf g h
     |false=>
      obtain⟨r,ba,bc,bj,a6,a7,bk,hx,ax,ay⟩:=ih d (i+1) (wJ (us+1)) ov fd best res _ I I ⟨a2.1,λkd f t mn mx q hm g h h2 h3=>a5 rfl rfl kd f t mn mx q hm I I⟩ hf;rw[QrC,Qrc,hx,Qh];cases r with
      |true=>exact a4 (t+1) m _ _ _ _ _ _ I I ax.dn ay g h
      |false=>exact g _ _ _ _ _ _ ax.dn ay
  have e1:((1:Nat):Int)=1:=rfl;obtain⟨q,hq⟩:=QrO (show 0<=per by omega);cases fs[i]'I with
  |true=>exact az 1 I 1 0 n us ov fd best res w I I hw hf (λus ov fd best res w hw hf=>⟨_,_,_,_,_,_,_,rfl,hw,hf⟩) λa b us ov fd best res w hw hf=>⟨_,_,_,_,_,_,_,rfl,hw,hf⟩
  |false=>
   have:=az q I q 0 n us ov fd best res w I I hw hf (k0:=λj l o p s u x y z aa ab ac=>some (false,o,p,s,j,u,x,y,z,aa,ab,ac,l)) (k1:=λau av ad ae ag ah ai aj ak am an ao ap aq=>some (true,ag,ah,ai,ad,aj,ak,am,an,ao,ap,aq,ae)) (λus ov fd best res w hw hf=>⟨_,_,_,_,_,_,_,rfl,hw,hf⟩) λa b us ov fd best res w hw hf=>⟨_,_,_,_,_,_,_,rfl,hw,hf⟩
   rw[<- hq]at this;exact this
theorem Qis(aa:Uy n per E A some=some true):(∃us e,Zt n per E A 4000 (λa b=>some (.inl (a,b))) (λa b c=>some (.inr (a,b,c)))=some (.inl (us,e):(Int×Int) ⊕ (LL×Int×Int))) \/
  ∃v us,Zt n per E A 4000 (λa b=>some (.inl (a,b))) (λa b c=>some (.inr (a,b,c)))=some (.inr (encI v,us,0):(Int×Int) ⊕ (LL×Int×Int))/\TG per E.length v/\FsB A per E.length v:=by
 obtain⟨fs,d,h2⟩:=QkJ p0 p1 hE hA hr hc hn aa (bu:=4000) (al:=false);obtain⟨r,us,ov,fd,best,res,w,hx,hw,hf⟩:=Qhf p0 p1 hE hA hr hc hn h2 (bu:=4000) E.length n 0 0 false false 0 [] (List.replicate E.length 0) I I ⟨⟨by simp,λx hx=>by have:=List.eq_of_mem_replicate hx;omega⟩,λkd f t mn mx q hm h d=>by omega⟩ (λe=>nomatch e);have ai:Q2G n 4000 1 1048576 (some:Bool->oP Bool)=some true:=rfl;unfold Zt Ft;rw[aa,Qh,Qrn,Qra,ai,Qh,Qrn,Qra,d,Qh];dsimp only;rw[show((0:Nat):Int)=0 from rfl]at hx;rw[hx,Qh];dsimp only;cases ov with
 |true=>exact .inl ⟨_,_,rfl⟩
 |false=>
  cases fd with
  |false=>exact .inl ⟨_,_,rfl⟩
  |true=>
   obtain⟨v,rfl,g⟩:=hf rfl;exact .inr ⟨v,_,rfl,g⟩
omit p0 p1 hE hA hr hc hn in
theorem Qge(aa:Uy n per E A some=some false):∃us e,Zt n per E A 4000 (λa b=>some (.inl (a,b))) (λa b c=>some (.inr (a,b,c)))=some (.inl (us,e):(Int×Int) ⊕ (LL×Int×Int)):=by
 unfold Zt Ft;rw[aa,Qh,QrC,Qrc];exact⟨_,_,rfl⟩
end
namespace Cx
variable{X:Cx}
structure Gd(X:Cx)(per:Int)(Ch Sy A:LL)(tl:List Int):Prop where
 ok:X.OK
 ls:X.LsOK per Ch Sy
 p0:2<=per
 p1:per<=300
 act:∃H,A=X.planned Ch Sy++H/\∀r∈H,∃a b w,r=Q93 a b w
 len:A.length<400
 tlen:tl.length=2*X.N
 tr:∀x∈tl,0<=x/\x<per
 ck:∀r∈A,chk per (2*X.N) r=true
theorem Q7A{per:Int}{J:Y Tup}{a:Nat}:∀{c b:Nat} {H:LL},X.hdw per J a c b=some H->∀r∈H,∃a b w,r=Q93 a b w
 |0,b,H,e=>by cases e;exact λr hr=>nomatch hr
 |c+1,b,H,e=>by
  rw[hdw]at e;cases ew:X.WV per J a b with
  |none=>rw[ew]at e;cases e
  |some W=>
   rw[ew]at e;cases eh:X.hdw per J a c (b+1)with
   |none=>simp only[eh]at e;cases e
   |some H'=>
    simp only[eh]at e;cases e;intro r hr;rcases Qrj.1 hr with hr | hr
    ·obtain⟨w,_,rfl⟩:=Qrs.1 hr;exact⟨_,_,_,rfl⟩
    ·exact Q7A eh r hr
theorem hdws_rows{per:Int}{J:Y Tup}:∀{c a:Nat} {H:LL},X.hdws per J c a=some H->∀r∈H,∃a b w,r=Q93 a b w
 |0,b,H,e=>by cases e;exact λr hr=>nomatch hr
 |c+1,a,H,e=>by
  rw[hdws]at e;cases ew:X.hdw per J a c (a+1)with
  |none=>rw[ew]at e;cases e
  |some W=>
   rw[ew]at e;cases eh:X.hdws per J c (a+1)with
   |none=>simp only[eh]at e;cases e
   |some H'=>
    simp only[eh]at e;cases e;intro r hr;rcases Qrj.1 hr with hr | hr
    ·exact Q7A ew r hr
    ·exact hdws_rows eh r hr
theorem QdI{i:Nat}{r:Y D}:∀{K:Nat},r∈X.pl i K->∃k,k<K/\(r=X.aR i k\/k<X.nr i-1/\r=X.aD i k)
 |0,h=>nomatch h
 |K+1,h=>by
  rw[pl]at h;rcases Qrj.1 h with h | h
  ·rcases Qrj.1 h with h | h
   ·obtain⟨k,hk,h⟩:=QdI h;exact⟨k,I,h⟩
   ·exact⟨K,I,.inl (Qrp.1 h)⟩
  ·split at h
   ·exact⟨K,I,.inr ⟨by assumption,Qrp.1 h⟩⟩
   ·nomatch h
theorem Q6x{r:Y D}:∀{L:Nat},r∈X.pls L->∃i k,i<L/\k<X.nr i/\(r=X.aR i k\/k<X.nr i-1/\r=X.aD i k)
 |0,h=>nomatch h
 |L+1,h=>by
  rw[pls]at h;rcases Qrj.1 h with h | h
  ·obtain⟨i,k,hi,h⟩:=Q6x h;exact⟨i,k,I,h⟩
  ·obtain⟨k,hk,h⟩:=QdI h;exact⟨L,k,I,hk,h⟩
variable{per:Int} {Ch Sy A:LL} {tl:Y Int}
theorem Qbg(h:X.OK)(hl:X.LsOK per Ch Sy){H:LL}(hH:∀r∈H,∃a b w,r=Q93 a b w){r:Y D}(hr:r∈X.planned Ch Sy++H):(∃i k,i<X.Ls.length/\k<X.nr i/\(r=X.aR i k\/k<X.nr i-1/\r=X.aD i k))\/(∃t∈X.T,r=X.tuE t)\/∃kd f t mn mx w:Int,(kd=3\/kd=5\/kd=6)/\r=[Ql kd,Ql f,Ql t,Ql mn,Ql mx,Ql w]:=by
 rcases Qrj.1 hr with hr | hr
 ·rcases Qrj.1 hr with hr | hr
  ·rcases Qrj.1 hr with hr | hr
   ·rcases Qrj.1 hr with hr | hr
    ·exact .inl (Q6x hr)
    ·obtain⟨row,aa,rfl⟩:=Qrs.1 hr;obtain⟨f,fr,t,tr,mn,mx,w,rfl,_⟩:=hl.ch row aa;exact .inr (.inr ⟨3,_,_,mn,mx,w,.inl rfl,rfl⟩)
   ·obtain⟨t,ht,rfl⟩:=Qrs.1 hr;exact .inr (.inl ⟨t,ht,rfl⟩)
  ·obtain⟨row,aa,rfl⟩:=Qrs.1 hr;obtain⟨o,rfl,_⟩:=hl.sy row aa;exact .inr (.inr ⟨5,_,_,o,o,0,.inr (.inl rfl),rfl⟩)
 ·obtain⟨a,b,w,rfl⟩:=hH r hr;exact .inr (.inr ⟨6,_,_,w.1,w.2,0,.inr (.inr rfl),rfl⟩)
theorem act_r6(h:X.OK)(hl:X.LsOK per Ch Sy){H:LL}(hH:∀r∈H,∃a b w,r=Q93 a b w){r:Y D}(hr:r∈X.planned Ch Sy++H):R6 r:=by
 rcases Qbg h hl hH hr with⟨i,k,_,_,rfl | ⟨_,rfl⟩⟩|⟨t,_,rfl⟩|⟨kd,f,t,mn,mx,w,_,rfl⟩
 ·exact⟨_,_,_,_,_,_,rfl⟩
 ·exact⟨_,_,_,_,_,_,rfl⟩
 ·exact⟨_,_,_,_,_,_,rfl⟩
 ·exact⟨_,_,_,_,_,_,rfl⟩
variable(g:X.Gd per Ch Sy A tl)
include g
theorem Gd.r6{r:Y D}(hr:r∈A):R6 r:=by
 obtain⟨H,rfl,hH⟩:=g.act;exact act_r6 g.ok g.ls hH hr
theorem Gd.tat{i:Int}(a:0<=i)(b:i<(2*X.N:Nat)):Qi (encI tl) i=some [Ql (Vx.tat tl i)]/\0<=Vx.tat tl i/\Vx.tat tl i<per:=by
 have hl:=g.tlen;have e:tl[i.toNat]? = some (Vx.tat tl i):=by
  unfold Vx.tat;rw[Qrh,Qre I];rfl
 have:=Hg e;rw[show(i.toNat:Int)=i by omega]at this;exact⟨this,g.tr _ (Qrf e)⟩
theorem Gd.row{r:Y D}(hr:r∈A):∃kd f t mn mx w:Int,r=[Ql kd,Ql f,Ql t,Ql mn,Ql mx,Ql w]/\(0<=f/\f<(2*X.N:Nat))/\(0<=t/\t<(2*X.N:Nat)) /\ -65536<=mn/\mn<=65536:=by
 obtain⟨kd,f,t,mn,mx,w,rfl⟩:=g.r6 hr;have:=Q2T (g.ck _ hr);exact⟨kd,f,t,mn,mx,w,rfl,I,I,I⟩
theorem Gd.dur_rng{r:Y D}(hr:r∈A) : -65536<=XJ tl per r/\XJ tl per r<=66000:=by
 obtain⟨kd,f,t,mn,mx,w,rfl,hf,ht,a,h2⟩:=g.row hr;have p0:=g.p0;have p1:=g.p1;have:=Qrt (Vx.tat tl t-Vx.tat tl f-mn) (show per≠0 by omega);have:=Qrq (Vx.tat tl t-Vx.tat tl f-mn) (show 0<per by omega);simp only[XJ,dur];omega
end Cx
theorem TH.lt{X:Cx}{f k:Nat}{r:Y D}(h:TH X.Ls f k r):f<X.Ls.length/\k<X.nr f:=by
 obtain⟨nm,w,rides,a,h2⟩:=h;refine⟨(Qry.1 a).1,?_⟩;have e:Hl X.Ls f=rides:=by unfold Hl;rw[a]
 unfold Cx.nr;rw[e];exact(Qry.1 h2).1
theorem PlanR.lsOK{X:Cx}{per:Int}{Sk Ch Tu Sy De:LL}(h:PlanR X.G per Sk X.Ro X.Ls Ch Tu Sy De):X.LsOK per Ch Sy where
 ch:=λrow hr=>by
  obtain⟨f,fr,t,tr,mn,mx,w,r,r',x,y,x',y',b,b',i,e,a,h2,c,d,h5,h6,h7,_⟩:=h.ch row hr;exact⟨f,fr,t,tr,mn,mx,w,e,a.lt.1,a.lt.2,h2.lt.1,h2.lt.2,h6,h7⟩
 chl:=h.chl
 sy:=λrow hr=>h.sy row hr
 syl:=h.syl
theorem Qc3{per:Int}{E A:LL}{w:Y Int}(a:A.all (chk per E.length)=true)(h2:TG per E.length w):Q3O per E A w=true:=by
 unfold Q3O;rw[a,h2.1];simp only[Qrn,Qra,bne_self_eq_false,List.all_eq_true,Bool.not_eq_true',Bool.cond_true_left,Bool.or_eq_false_iff,decide_eq_false_iff_not];intro x hx;have:=h2.2 x hx;omega
def QjP:Y D->Int
 |[_,_,_,_,.int _ m,_]=>m
 |_=>0
def Fs(per:Int)(tl:Y Int)(A:LL):Prop:=∀r∈A,XJ tl per r<=QjP r
theorem FsB.fs'{A:LL}{per:Int}{N:Nat}{tl:Y Int}(hr:∀r∈A,R6 r)(hc:∀r∈A,chk per N r=true)(h:FsB A per N tl):Fs per tl A:=λr hm=>by
 obtain⟨kd,f,t,mn,mx,q,rfl⟩:=hr r hm;have:=Q2T (hc _ hm);exact h kd f t mn mx q hm I I I I
namespace Cx
variable{X:Cx} {per:Int} {Ch Sy A:LL} {tl:Y Int} (g:X.Gd per Ch Sy A tl)
include g
theorem Gd.lasts{r:Y D}(hr:r∈A):∃kd f t mn mx w:Int,r=[Ql kd,Ql f,Ql t,Ql mn,Ql mx,Ql w]/\(0<=f/\f<(2*X.N:Nat))/\(0<=t/\t<(2*X.N:Nat))/\(-65536<=mn/\mn<=65536) /\
  (∀(R:Type) (K:Int->oP R),gb true (Qi (encI tl) t) [] (λa=>gb true (a[0]?) oF λb=>gb true (pIw b) 0 λc=>gb true (Qi (encI tl) f) [] λd=>gb true (d[0]?) oF λc5=>gb true (pIw c5) 0 λe=>
   gb true (Hy 400 (wJ ((wJ (c-e))-mn)) per some) 0 λh=>K (wJ (mn+h)))=K (XJ tl per r)):=by
 obtain⟨kd,f,t,mn,mx,w,rfl,hf,ht,ac⟩:=g.row hr;refine⟨kd,f,t,mn,mx,w,rfl,hf,ht,I,λR K=>?_⟩;have tf:=g.tat hf.1 hf.2;have tt:=g.tat ht.1 ht.2;have p0:=g.p0;have p1:=g.p1;have i:=Qrt (Vx.tat tl t-Vx.tat tl f-mn) (show per≠0 by omega);have j:=Qrq (Vx.tat tl t-Vx.tat tl f-mn) (show 0<per by omega);simp -implicitDefEqProofs only[Qh,Qr9,Qj,tf.1,tt.1,Qo (x:=Vx.tat tl t-Vx.tat tl f) I I,Qo (x:=Vx.tat tl t-Vx.tat tl f-mn) I I,Qi5 (n:=400) (t:=per) (x:=Vx.tat tl t-Vx.tat tl f-mn) I I I I,Qo (x:=mn+(Vx.tat tl t-Vx.tat tl f-mn) % per) I I];rfl
theorem Gd.firstN{R:Type}{E B:LL}(fs:Fs per tl A){k0:Int->oP R}{k1:Int->Bool->oP R}:∀(c m i:Nat),i+c=A.length->c<m->Uh 400 (encI tl) A (A.length:Int) per E B k0 k1 m (i:Int)=k1 (A.length:Int) false
 |0,m+1,i,hi,_=>by
  obtain rfl:i=A.length:=I
  rw[Uh,Qy,Qra]
 |c+1,m+1,i,hi,hm=>by
  have hA:=g.len;have e:=Qre (l:=A) (i:=i) I;obtain⟨kd,f,t,mn,mx,w,er,_,_,_,hd⟩:=g.lasts (Qrf e);have aa:=fs _ (Qrf e);rw[Uh,Qt (show i<A.length by omega),Qrc,Qp,e,er];rw[er]at hd aa;have ac:JX 400 per E B (encI tl) kd f t mn mx w (some:Int->oP Int)=some (XJ tl per [Ql kd,Ql f,Ql t,Ql mn,Ql mx,Ql w]):=by
   unfold JX;exact hd Int some
  simp -implicitDefEqProofs only[Qh,Qr9,Qrd,Qj,ac,QJ (show i<=1000 by omega)];rw[Qri (by exact Int.not_lt.2 aa),Qra];exact firstN fs c m (i+1) I I
theorem Gd.feas{E:LL}(hE:E.length=2*X.N)(fs:Fs per tl A)(hg:Gl 400 per E A (encI tl) some=some true):XQ 400 per E A (encI tl) (some:Bool->oP Bool)=some true:=by
 have a:GB 400 per E A (encI tl) Tu2=some (0,false):=by
  unfold GB;rw[hg,Qh,Qrn,Qra];have:=g.firstN (E:=E) (B:=A) fs (k0:=λd=>(some (d,true):oP (Int×Bool))) (k1:=λe f=>some (0,false)) A.length 400 0 I (by have:=g.len;omega);exact this
 unfold XQ;rw[a,Qh];dsimp only;rw[hg];rfl
end Cx
theorem QdK{a b:Int}(f:1<=a)(c:1<=b):1<=cd a b:=by
 have h:=AU (show 0<=a by omega) c;by_cases e:1<=cd a b
 ·exact e
 ·have d:cd a b=0:=I
  rw[d]at h;omega
theorem Run.T_pos{X:Run}(h:X.OK):1<=X.T X.N:=by
 have h2:=h.h2;have c:=Run.T_mono h (a:=1) (b:=X.N) I (QrN _);have d:=Run.inc_rng h (b:=0) I;have h5:=QdK (a:=20000000) (b:=X.S 0+X.S (0+1)) Q1 I;have e:X.T 1=0+cd 20000000 (X.S 0+X.S (0+1)):=rfl;omega
theorem Cx.run_pos{X:Cx}(h:X.OK){i k:Nat}(hi:i<X.Ls.length)(hk:k<X.nr i):1<=X.run i k:=
 QdK (Run.T_pos (RF (Cx.rd h hi hk).rt (nm:=X.nm) h.sk)) Q1
end Go.Vx
namespace Go.Vx
variable{R:Type} (n:Nat)
def nv1:Y D->oP LL
|[.nl]=>some []
|[.sl k l]=>bif Nat.beq k 1&&Nat.ble l.length 1000000 then some l else none
|_=>none
def Qbl(h:LL)(i:Int):oP LL:=(Qi h i).bind nv1
def B3:Y D->Y D
|[.nl]=>[.sl 1 []]
|r=>r
def Q9G:Y D->Bool
|[.nl]=>true
|_=>false
def Xu(h5 h6:LL)(h7 e:Int)(k0:QlU R):QlW R
|0,_,_,_=>none
|m+1,a,c,d=>bif decide (a<h7)then Ql1 R h6 a λb f j p=>Qc R b[3]? λk=>Qc R b[4]? λab=>Qc R b[5]? λac=>QkZ R k p λg q=>Ql0 R h5 q λs=>QkZ R s j λt i64=>Ql0 R h5 i64 λv=>QkZ R v k λx y=>Qc R (Hy n (wJ (wJ (t-x)-y)) e some) λh=>Qb R [[Ql (wJ (g+h))]] λag=>Qc R (Y9 ((d.length+ag.length)*8)) λad=>Qc R (pIw f) λi=>Qd R (!(i==1)) (pIw f) λl=>Qd R (!(Q8 (i==1) (l==2))) (pIw f) λz=>bif Q8 (Q8 (i==1) (l==2)) (z==3)then Qc R (pIw j) λo=>Qc R (Qbl c o) λaa=>Xu h5 h6 h7 e k0 m (wJ (a+1)) (List.set c o.toNat [.sl 1 (aa++[[.int .i64 a]])]) (d++ag)else Xu h5 h6 h7 e k0 m (wJ (a+1)) c (d++ag)else k0 a (decide (a<h7)) c d
def Yw(h5 h6:LL)(h7 f:Int)(k0:QlU R)(m:Nat)(g:Int)(e h:LL):oP R:=bif e.all Q9G then Xu n h5 h6 h7 f (λa b c d=>k0 a b (c.map B3) d) m g e h else none
def Yv(n:Nat)(h:LL)(b:Int)(c i j:LL)(k0:QlU R):QlW R
|0,_,_,_=>none
|m+1,a,d,e=>bif decide (a<b)then Ql9 R h a λf p=>Qc R f[2]? λq=>Qc R (pIw p) λr=>Qlc R j r λu=>Qc R (pIw q) λv=>Ql3 R u v λz=>Qld R i z λg aa=>Qc R (pSl 2 g) λab=>Ql3 R ab 0 λae=>Qlj R c ae λl=>Qc R (Y9 ((d.length+[[Ql l]].length)*8)) λar=>Qc R (pSl 2 g) λai=>Qlo R g aa λaj ak=>Ql3 R ai (wJ (wJ ((aj.length:Int)-ak)-1)) λan=>Qlj R c an λo=>Qc R (Y9 ((e.length+[[Ql o]].length)*8)) λau=>Yv n h b c i j k0 m (wJ (a+1)) (d++[[Ql l]]) (e++[[Ql o]])else k0 a (decide (a<b)) d e
def XZ(c g d h:LL)(i:Int)(j e f k l m o a2:LL)(KA:QlI R)(KB:Int->LL->LL->LL->LL->LL->LL->Int->Int->oP R):oP R:=gb true (Zw n c g d h i j e f k l m o Tu4) (0,[],[],0) λa=>bif a.2.2.2 !=0 then KA a.2.2.2 else Qc R (XQ n a.1 a.2.1 a.2.2.1 a2 some) λb=>bif !b then KA 1 else Qb R (a.2.1.length:Int) λp=>gb true (bif decide (0<=p)&&decide (p<=p)then some ()else none) () λv=>Qc R (Y9 (Int.toNat p*24)) λx=>Yw n a2 a.2.2.1 (a.2.2.1.length:Int) a.1 (λy z r s=>Yv n a.2.1 p d e f (λaa ab t u=>KB a.1 a.2.1 a.2.2.1 r s t u (c.length:Int) 0) n 0 [] []) n 0 (List.replicate (Int.toNat p) [D.nl]) []
end Go.Vx
namespace Go.Vx
def knd(A:LL)(j:Nat):Int:=match A[j]? with
 |some (.int _ k::_)=>k
 |_=>0
def frm(A:LL)(j:Nat):Int:=match A[j]? with
 |some (_::.int _ k::_)=>k
 |_=>0
def tto(A:LL)(j:Nat):Int:=match A[j]? with
 |some (_::_::.int _ k::_)=>k
 |_=>0
def Qbd(A:LL)(e j:Nat):Bool:=(bif (bif (knd A j == 1)then true else(knd A j == 2))then true else(knd A j == 3))&&frm A j == (e:Int)
def lvF(A:LL)(i e:Nat):Y Nat:=(List.range i).filter (Qbd A e)
def Kv(l:Y Nat):LL:=l.map λ(j:Nat)=>[Ql (j:Int)]
def QfF:Y Nat->Y D
 |[]=>[.nl]
 |l=>[.sl 1 (Kv l)]
def FO(A:LL)(i M:Nat):LL:=(List.range M).map λe=>QfF (lvF A i e)
theorem Q6Z(A:LL)(i e:Nat):lvF A (i+1) e=lvF A i e++(if Qbd A e i=true then[i]else[]):=by
 unfold lvF;rw[List.range_succ,List.filter_append];congr 1;cases h:Qbd A e i<;>simp[h]
theorem Q3y(A:LL)(i e:Nat):(lvF A i e).length<=i:=by
 unfold lvF;have:=QrR (Qbd A e) (List.range i);rwa [QrM]at this
theorem QhU{l:Y Nat}(h:l.length<=1000):nv1 (QfF l)=some (Kv l):=by
 cases l with
 |nil=>rfl
 |cons x r=>
  have e:Nat.ble (Kv (x::r)).length 1000000=true:=by
   rw[Nat.ble_eq];simp[Kv]at h ⊢;omega
  show(bif Nat.beq 1 1&&Nat.ble (Kv (x::r)).length 1000000 then some (Kv (x::r))else none)=_;rw[e];rfl
theorem Q9e(l:Y Nat)(i:Nat):QfF (l++[i])=[.sl 1 (Kv l++[[.int .i64 i]])]:=by
 cases l with
 |nil=>rfl
 |cons x r=>simp[QfF,Kv,Ql]
theorem QcI(l:Y Nat):B3 (QfF l)=[.sl 1 (Kv l)]:=by cases l<;>rfl
theorem Ey(A:LL)(i M:Nat):(FO A i M).length=M:=by simp[FO]
theorem Br{A:LL}{i M e:Nat}(he:e<M):(FO A i M)[e]? = some (QfF (lvF A i e)):=by simp[FO,he]
theorem Q8L(A:LL)(M:Nat):FO A 0 M=List.replicate M [.nl]:=by
 apply QrT;intro e;by_cases he:e<M
 ·rw[Br he,List.getElem?_replicate,Qrx he];rfl
 ·rw[Qrr (by rw[Ey];omega),Qrr Q3]
theorem QcG{A:LL}{i M:Nat}(h:∀e,e<M->Qbd A e i=false):FO A (i+1) M=FO A i M:=by
 unfold FO;refine List.map_congr_left λe he=>?_
 rw[Q6Z,h e (QrG.1 he)];simp
theorem Q9s{A:LL}{i M f:Nat}(hf:f<M)(h:∀e,e<M->Qbd A e i=decide (e=f)):(FO A i M).set f [.sl 1 (Kv (lvF A i f)++[[.int .i64 i]])]=FO A (i+1) M:=by
 apply QrT;intro e;by_cases he:e<M
 ·rw[Br he,Q6Z,h e he,List.getElem?_set,Ey];by_cases ef:f=e
  ·subst ef;rw[Qrx rfl,Qrx hf,Qrk rfl,Qrx rfl,Q9e]
  ·rw[Qrz ef,Qri (λh=>ef h.symm),Qrz Q2,Qru,Br he]
 ·rw[Qrr (by rw[QrK,Ey];omega),Qrr (by rw[Ey];omega)]
theorem Qf7{A:LL}{i M:Nat}{f:Int}(a:0<=f)(b:f<(M:Nat))(hi:i<=1000):Qbl (FO A i M) f=some (Kv (lvF A i f.toNat)):=by
 unfold Qbl;have e:f=(f.toNat:Int):=I
 rw[e,Qp,Qrb,Br I];exact QhU (Nat.le_trans (Q3y ..) hi)
namespace Cx
variable{X:Cx} {per:Int} {Ch Sy A:LL} {tl:Y Int} (g:X.Gd per Ch Sy A tl)
include g
theorem Gd.svc1{R:Type}{k0:Int->Bool->LL->LL->oP R}:∀(c m i:Nat),i+c=A.length->c<m->Xu 400 (encI tl) A (A.length:Int) per k0 m (i:Int) (FO A i (2*X.N)) ((A.take i).map λr=>[Ql (XJ tl per r)]) =
  k0 (A.length:Int) false (FO A A.length (2*X.N)) (A.map λr=>[Ql (XJ tl per r)])
 |0,m+1,i,hi,_=>by
  obtain rfl:i=A.length:=I
  rw[Xu,Qy,Qra,QrE]
 |c+1,m+1,i,hi,hm=>by
  have hA:=g.len;have aa:i<A.length:=I
  have e:=Qre aa;have hr:=Qrf e;obtain⟨kd,f,t,mn,mx,w,er,hf,ht,am⟩:=g.row hr;have tf:=g.tat hf.1 hf.2;have tt:=g.tat ht.1 ht.2;have p0:=g.p0;have p1:=g.p1;have a:=Qrt (Vx.tat tl t-Vx.tat tl f-mn) (show per≠0 by omega);have b:=Qrq (Vx.tat tl t-Vx.tat tl f-mn) (show 0<per by omega);have hd:wJ (mn+(Vx.tat tl t-Vx.tat tl f-mn) % per)=XJ tl per A[i]:=by rw[er];exact Qo I I
  have ek:knd A i=kd:=by unfold knd;rw[e,er]
  have ef:frm A i=f:=by unfold frm;rw[e,er]
  have hs:(A.take i).map (λr=>[Ql (XJ tl per r)])++[[D.int .i64 (XJ tl per A[i])]]=(A.take (i+1)).map λr=>[Ql (XJ tl per r)]:=by
   rw[List.take_add_one,e,Qrm];rfl
  rw[Xu,Qt aa,Qrc,Qp,e,er];simp -implicitDefEqProofs only[Qh,Qr9,Qrd,Qj,tf.1,tt.1,Qo (x:=Vx.tat tl t-Vx.tat tl f) I I,Qo (x:=Vx.tat tl t-Vx.tat tl f-mn) I I,Qi5 (n:=400) (t:=per) (x:=Vx.tat tl t-Vx.tat tl f-mn) I I I I,QJ (show i<=1000 by omega),hd,
   XM (show(((A.take i).map (λr=>[Ql (XJ tl per r)])).length+[[D.int .i64 (XJ tl per A[i])]].length)*8<=100000 by simp;omega),hs,Qf7 (A:=A) (i:=i) (M:=2*X.N) hf.1 hf.2 I]
  cases hk:(bif (bif (kd == (1:Int))then true else(kd == (2:Int)))then true else(kd == (3:Int)))with
  |false=>
   rw[Qra,<- QcG (A:=A) (i:=i) (M:=2*X.N) (λe' _=>by unfold Qbd;rw[ek,hk];rfl)];exact svc1 c m (i+1) I I
  |true=>
   rw[Qrc,Q9s (A:=A) (i:=i) (M:=2*X.N) (f:=f.toNat) I (λe' _=>by
    unfold Qbd;rw[ek,hk,ef,Bool.true_and];by_cases h:e'=f.toNat
    ·rw[Qrk h];simp;omega
    ·rw[Qri h];simp;omega)]
   exact svc1 c m (i+1) I I
theorem Gd.svcQ{R:Type}{k0:Int->Bool->LL->LL->oP R}:Yw 400 (encI tl) A (A.length:Int) per k0 400 0 (List.replicate (2*X.N) [.nl]) [] =
  k0 (A.length:Int) false ((List.range (2*X.N)).map λe=>[.sl 1 (Kv (lvF A A.length e))]) (A.map λr=>[Ql (XJ tl per r)]):=by
 unfold Yw;rw[show(List.replicate (2*X.N) [D.nl]).all Q9G=true by simp[Q9G],Qrc,<- Q8L A];have:=g.svc1 (k0:=λa b c d=>k0 a b (c.map B3) d) A.length 400 0 I (by have:=g.len;omega);rw[List.take_zero]at this;refine this.trans ?_;unfold FO;rw[List.map_map];congr 2;funext e;exact QcI _
end Cx
def T6(Se:LL)(row:Y D):Int:=match row with
 |.int _ x::_=>match Qi Se x with
  |some [_,_,_,_,.int _ t]=>t
  |_=>0
 |_=>0
namespace Cx
variable(X:Cx)
def stE(e:Nat):LL:=match (X.evs X.L)[e]? with
 |some [_,.int _ i,.int _ k]=>X.st i.toNat k.toNat
 |_=>[]
def s0(e:Nat):Int:=T6 X.G.Se ((X.stE e).getD 0 [])
def s1(e:Nat):Int:=T6 X.G.Se ((X.stE e).getD ((X.stE e).length-1) [])
variable{X} (h:X.OK)
include h
theorem Qgt{e:Nat}(he:e<2*X.N):∃i k,i<X.L/\k<X.nr i/\(X.evs X.L)[e]? = some [Ql (if e % 2=0 then 1 else 2),Ql i,Ql k]/\e / 2=base X.nr i+k:=by
 obtain⟨i,k,b,h2,c⟩:=Bz (nr:=X.nr) (a:=e / 2) (L:=X.L) (by change e / 2<X.N;omega);have:=evs_at h2 b;refine⟨i,k,b,h2,?_,c⟩;by_cases hm:e % 2=0
 ·rw[Qrx hm,show e=2*(base X.nr i+k) by omega];exact this.1
 ·rw[Qrz hm,show e=2*(base X.nr i+k)+1 by omega];exact this.2
omit h in
theorem MG{Se:LL}{row:Y D}(hr:Dv Se row):∃(x:Int) (r:Y D),row[0]? = some (.int .i64 x)/\Qi Se x=some r/\r[4]? = some (.int .i64 (T6 Se row)):=by
 obtain⟨x,d,nm,a,b,c,st,rfl,h2,_,_⟩:=hr;refine⟨x,_,rfl,h2,?_⟩;unfold T6;simp only[Ql,h2];rfl
theorem Qk7{R:Type}{k0:Int->Bool->LL->LL->oP R}(hN:X.N<=6):∀(c m i:Nat),i+c=2*X.N->c<m->Yv 400 (X.evs X.L) (((X.evs X.L).length:Nat):Int) X.G.Se X.Ro X.Ls k0 m (i:Int) (encI ((List.range i).map X.s0)) (encI ((List.range i).map X.s1))=k0 ((2*X.N:Nat):Int) false (encI ((List.range (2*X.N)).map X.s0)) (encI ((List.range (2*X.N)).map X.s1))
 |0,m+1,i,hi,_=>by
  obtain rfl:i=2*X.N:=I
  rw[Yv,evs_len,show base X.nr X.L=X.N from rfl,Qy,Qra]
 |c+1,m+1,i,hi,hm=>by
  obtain⟨l,k,a,h2,b,n⟩:=Qgt h (e:=i) I;have hl:=(line h a).1;have hr:=rd h a h2;have o:=hr.rt.l2;have p:=hr.rt.l24;have aa:X.stE i=X.st l k:=by unfold stE;rw[b];simp only[Ql,Qrb]
  obtain⟨x,r,a1,a2,d⟩:=MG (hr.rt.st ((X.st l k).getD 0 []) (by rw[Qrh,Qre I];exact List.getElem_mem _));obtain⟨y,q,b1,b2,g⟩:=MG (hr.rt.st ((X.st l k).getD ((X.st l k).length-1) []) (by rw[Qrh,Qre I];exact List.getElem_mem _));have j:X.s0 i=T6 X.G.Se ((X.st l k).getD 0 []):=by unfold s0;rw[aa]
  have e1:X.s1 i=T6 X.G.Se ((X.st l k).getD ((X.st l k).length-1) []):=by unfold s1;rw[aa]
  rw[<- j]at d;rw[<- e1]at g;have c0:Qi (X.st l k) 0=some ((X.st l k).getD 0 []):=by
   rw[show(0:Int)=((0:Nat):Int)from rfl,Qp,Qrh,Qre I];rfl
  have c1:Qi (X.st l k) (wJ (wJ (((X.st l k).length:Int)-0)-1))=some ((X.st l k).getD ((X.st l k).length-1) []):=by
   rw[Qo (x:=((X.st l k).length:Int)-0) I I,Qo (x:=((X.st l k).length:Int)-0-1) I I,show((X.st l k).length:Int)-0-1=(((X.st l k).length-1:Nat):Int) by omega,Qp,Qrh,Qre I];rfl
  rw[Yv,Qt (by rw[evs_len];change i<2*X.N;omega),Qrc,Qp,b];have ac:Qi X.Ls (l:Int)=some [D.str (nmN l),Ql 0,Ql (X.w l),D.sl 4 (Hl X.Ls l)]:=by rw[Qp];exact hl
  have ai:Qi (Hl X.Ls l) (k:Int)=some [Ql (rF X.Ls l k 0),Ql (X.ex l k),Ql (X.mn l k),Ql (X.mx l k)]:=by rw[Qp];exact hr.row
  have rm:∀(f:Nat->Int) (v:Int),Y9 ((List.length (encI ((List.range i).map f))+List.length [[D.int .i64 v]])*8)=some ():=λf v=>XM (by rw[QS];simp;omega)
  have cc:∀(f:Nat->Int) (v:Int),f i=v->encI ((List.range i).map f)++[[D.int .i64 v]]=encI ((List.range (i+1)).map f):=λf v hv=>by
   rw[List.range_succ,Qrm,<- hv];simp[encI,Ql]
  simp -implicitDefEqProofs only[Qh,Qr9,Qrd,Qj,X2,ac,ai,hr.ro,c0,c1,a1,a2,d,b1,b2,g,QJ (show i<=1000 by omega),rm,cc X.s0 _ rfl,cc X.s1 _ rfl];exact Qk7 hN c m (i+1) I I
omit h
def lvs(X:Cx)(A:LL):LL:=(List.range (2*X.N)).map λe=>[.sl 1 (Kv (lvF A A.length e))]
variable{per:Int} {Ch Sy A:LL} {tl:Y Int}
theorem Gd.svcP{R:Type}(g:X.Gd per Ch Sy A tl){a0 a1 a e:LL}{b:LL}{c d f:LL}(hb:Zw 400 a0 a1 X.G.Se a per e X.Ro X.Ls b c d f Tu4=some (per,X.evs X.L,A,0))(hf:XQ 400 per (X.evs X.L) A (encI tl) (some:Bool->oP Bool)=some true)(KA:Int->oP R)(KB:Int->LL->LL->LL->LL->LL->LL->Int->Int->oP R) :
  XZ 400 a0 a1 X.G.Se a per e X.Ro X.Ls b c d f (encI tl) KA KB=KB per (X.evs X.L) A (X.lvs A) (A.map λr=>[Ql (XJ tl per r)]) (encI ((List.range (2*X.N)).map X.s0)) (encI ((List.range (2*X.N)).map X.s1)) (a0.length:Int) 0:=by
 have hN:=base_le g.ok;have hN:X.N<=6:=hN;have hl:(X.evs X.L).length=2*X.N:=evs_len;unfold XZ;rw[hb,Qh,bne_self_eq_false,Qra];dsimp only;rw[hf,Qh,Qrn,Qra,hl,Q4H,Qh,Qrb,XM I,Qh,g.svcQ];have:=Qk7 g.ok (k0:=λ(n:Int) (o:Bool) l m=>KB per (X.evs X.L) A (X.lvs A) (A.map λr=>[Ql (XJ tl per r)]) l m (a0.length:Int) (0:Int)) hN (2*X.N) 400 0 I I;rw[hl]at this;exact this
end Cx
def leO:oP Int->oP Int->Prop
 |_,none=>True
 |none,some _=>False
 |some x,some y=>x<=y
theorem leO.refl:∀a,leO a a
 |none=>trivial
 |some x=>Int.le_refl x
theorem leO.trans:∀{a b c:oP Int},leO a b->leO b c->leO a c
 |_,_,none,_,_=>trivial
 |some x,some y,some z,h,g=>Int.le_trans h g
 |none,some y,some z,h,g=>h.elim
 |_,none,some z,h,g=>g.elim
theorem leO.anti:∀{a b:oP Int},leO a b->leO b a->a=b
 |none,none,_,_=>rfl
 |some x,some y,h,g=>congrArg some (Int.le_antisymm h g)
 |none,some y,h,g=>h.elim
 |some x,none,h,g=>g.elim
def CV:oP Int->oP Int->oP Int
 |none,b=>b
 |a,none=>a
 |some x,some y=>some (if y<x then y else x)
theorem CV.l(a b:oP Int):leO (CV a b) a:=by
 cases a<;>cases b<;>simp only[CV,leO]<;>(try split)<;>omega
theorem CV.r(a b:oP Int):leO (CV a b) b:=by
 cases a<;>cases b<;>simp only[CV,leO]<;>(try split)<;>omega
theorem CV.or(a b:oP Int):CV a b=a\/CV a b=b:=by
 cases a<;>cases b<;>simp only[CV,true_or,or_true];split
 ·exact .inr rfl
 ·exact .inl rfl
def Q13(d:Int):oP Int->oP Int:=Option.map (d + ·)
theorem Q13.mono{d:Int}:∀{a b:oP Int},leO a b->leO (Q13 d a) (Q13 d b)
 |_,none,_=>trivial
 |none,some _,h=>h
 |some x,some y,h=>Int.add_le_add_left h d
theorem Q13.ge{d:Int}(h:0<=d):∀(a:oP Int),leO a (Q13 d a)
 |none=>trivial
 |some x=>show x<=d+x by omega
structure Gr where
 n:Nat
 out:Nat->List (Int×Nat)
 en:Nat->Bool
structure Gr.OK(g:Gr):Prop where
 to:∀e,∀a∈g.out e,0<=a.1/\a.2<g.n
namespace Gr
variable(g:Gr)
def D:Nat->Nat->oP Int
 |0,e=>bif g.en e then some 0 else none
 |k+1,e=>(g.out e).foldl (λm a=>CV m (Q13 a.1 (D k a.2))) (D k e)
theorem Q6i{f:Int×Nat->oP Int}:∀(l:Y (Int×Nat)) (m:oP Int),leO (l.foldl (λm a=>CV m (f a)) m) m/\∀a∈l,leO (l.foldl (λm a=>CV m (f a)) m) (f a)
 |[],m=>⟨.refl m,λa h=>nomatch h⟩
 |b::l,m=>by
  have ih:=Q6i (f:=f) l (CV m (f b));refine⟨ih.1.trans (CV.l ..),λa ha=>?_⟩;rcases QrI.1 ha with rfl | ha
  ·exact ih.1.trans (CV.r ..)
  ·exact ih.2 a ha
theorem Q9E{f:Int×Nat->oP Int}:∀(l:Y (Int×Nat)) (m:oP Int),l.foldl (λm a=>CV m (f a)) m=m\/∃a∈l,l.foldl (λm a=>CV m (f a)) m=f a
 |[],m=>.inl rfl
 |b::l,m=>by
  rcases Q9E (f:=f) l (CV m (f b))with h | ⟨a,ha,h⟩
  ·rcases CV.or m (f b)with e | e
   ·exact .inl (h.trans e)
   ·exact .inr ⟨b,.head _,h.trans e⟩
  ·exact .inr ⟨a,.tail _ ha,h⟩
theorem D_succ(k e:Nat):leO (g.D (k+1) e) (g.D k e):=(Q6i (f:=λa=>Q13 a.1 (g.D k a.2)) ..).1
theorem D_mono{k:Nat}(e:Nat):∀{j:Nat},k<=j->leO (g.D j e) (g.D k e)
 |0,h=>by
  obtain rfl:k=0:=I
  exact .refl _
 |j+1,h=>by
  by_cases e1:k=j+1
  ·subst e1;exact .refl _
  ·exact(g.D_succ j e).trans (D_mono e I)
theorem D_edge{k e:Nat}{a:Int×Nat}(ha:a∈g.out e):leO (g.D (k+1) e) (Q13 a.1 (g.D k a.2)):=(Q6i (f:=λa=>Q13 a.1 (g.D k a.2)) ..).2 a ha
theorem D_or(k e:Nat):g.D (k+1) e=g.D k e\/∃a∈g.out e,g.D (k+1) e=Q13 a.1 (g.D k a.2):=Q9E (f:=λa=>Q13 a.1 (g.D k a.2)) ..
theorem better{k e:Nat}(h:g.D (k+2) e≠g.D (k+1) e):∃a∈g.out e,g.D (k+2) e=Q13 a.1 (g.D (k+1) a.2)/\g.D (k+1) a.2≠g.D k a.2:=by
 rcases g.D_or (k+1) e with e1 | ⟨a,ha,e1⟩
 ·exact absurd e1 h
 ·refine⟨a,ha,e1,λe2=>h ?_⟩;refine(g.D_succ (k+1) e).anti ?_;rw[e1,e2];exact g.D_edge ha
theorem chain(ok:g.OK):∀(k e:Nat),g.D (k+1) e≠g.D k e->e<g.n->∃l:Y Nat,l.length=k+1/\(∀x∈l,x<g.n)/\l[0]? = some e/\∀i x,l[i]? = some x->g.D (k+1-i) x≠g.D (k-i) x/\∀j y,i<=j->l[j]? = some y->leO (g.D (k+1-j) y) (g.D (k+1-i) x)
 |0,e,h,he=>⟨[e],rfl,λx hx=>by simp at hx;omega,rfl,λi x hx=>by
   cases i with
   |zero=>
    simp at hx;subst hx;refine⟨h,λj y _ hy=>?_⟩;cases j with
    |zero=>simp at hy;subst hy;exact .refl _
    |succ j=>simp at hy
   |succ i=>simp at hx⟩
 |k+1,e,h,he=>by
  obtain⟨a,ha,c,h2⟩:=g.better h;have ac:=ok.to e a ha;obtain⟨l,l1,l2,d,b⟩:=chain ok k a.2 h2 ac.2;refine⟨e::l,by simp[l1],λx hx=>?_,rfl,λi x hx=>?_⟩
  ·rcases QrI.1 hx with rfl | hx
   ·exact he
   ·exact l2 x hx
  ·cases i with
   |zero=>
    simp at hx;subst hx;refine⟨h,λj y _ hy=>?_⟩;cases j with
    |zero=>simp at hy;subst hy;exact .refl _
    |succ j=>
     simp at hy;rw[show k+1+1-(j+1)=k+1-j by omega];refine((b 0 a.2 d).2 j y (Nat.zero_le _) hy).trans ?_;show leO (g.D (k+1) a.2) (g.D (k+2) e);rw[c];exact Q13.ge ac.1 _
   |succ i=>
    simp at hx;have:=b i x hx;rw[show k+1+1-(i+1)=k+1-i by omega,show k+1-(i+1)=k-i by omega];refine⟨this.1,λj y hj hy=>?_⟩;cases j with
    |zero=>omega
    |succ j=>
     simp at hy;rw[show k+1+1-(j+1)=k+1-j by omega];exact this.2 j y I hy
end Gr
theorem QaP:∀(n:Nat) (l:Y Nat),(∀x∈l,x<n)->n<l.length->∃i j x:Nat,i<j/\l[i]? = some x/\l[j]? = some x
 |0,l,h,hl=>by
  cases l with
  |nil=>simp at hl
  |cons a l=>exact absurd (h a (.head _)) I
 |n+1,l,h,hl=>by
  by_cases hd:∃i j:Nat,i<j/\l[i]? = some n/\l[j]? = some n
  ·obtain⟨i,j,c,h2,b⟩:=hd;exact⟨i,j,n,c,h2,b⟩
  ·by_cases hm:n∈l
   ·obtain⟨i,hi⟩:=List.getElem?_of_mem hm;have ai:=(Qry.1 hi).1;obtain⟨p,q,x,c,h2,b⟩:=QaP n (l.eraseIdx i) (λx hx=>by
     obtain⟨j,hj⟩:=List.getElem?_of_mem hx;have ac:=h x (List.mem_of_mem_eraseIdx hx);have aa:x≠n:=λe=>by
      subst e;rw[List.getElem?_eraseIdx]at hj;split at hj
      ·exact hd ⟨j,i,by assumption,hj,hi⟩
      ·exact hd ⟨i,j+1,I,hi,hj⟩
     omega) (by rw[List.length_eraseIdx];split<;>omega)
    rw[List.getElem?_eraseIdx]at h2 b;split at h2<;>split at b
    ·exact⟨p,q,x,c,h2,b⟩
    ·exact⟨p,q+1,x,I,h2,b⟩
    ·omega
    ·exact⟨p+1,q+1,x,I,h2,b⟩
   ·obtain⟨p,q,x,c,h2,b⟩:=QaP n l (λx hx=>by
     have:=h x hx;have aa:x≠n:=λe=>hm (e▸hx)
     omega) I
    exact⟨p,q,x,c,h2,b⟩
namespace Gr
variable(g:Gr)
theorem D_stable(ok:g.OK){e:Nat}(he:e<g.n):g.D (g.n+1) e=g.D g.n e:=Classical.byContradiction λh=>by
 obtain⟨l,l1,l2,c,a⟩:=g.chain ok g.n e h he;obtain⟨i,j,x,aa,hi,hj⟩:=QaP g.n l l2 I;have ai:=(Qry.1 hi).1;have ac:=(Qry.1 hj).1;obtain⟨b,h2⟩:=a i x hi;refine b ((g.D_mono x I).anti ?_);exact(g.D_mono x I).trans (h2 j x I hj)
def T(e:Nat):oP Int:=g.D g.n e
theorem T_le(ok:g.OK){e:Nat}(he:e<g.n):∀k,leO (g.T e) (g.D k e):=λk=>by
 have hs:∀j,∀x,x<g.n->g.D (g.n+j) x=g.T x:=λj=>by
  induction j with
  |zero=>exact λx _=>rfl
  |succ j ih=>
   intro x hx;have b:=g.D_stable ok hx;rcases g.D_or (g.n+j) x with e1 | ⟨a,ha,e1⟩
   ·exact e1.trans (ih x hx)
   ·refine(g.D_mono x I).anti ?_;show leO (g.D g.n x) (g.D (g.n+j+1) x);rw[e1,ih a.2 (ok.to x a ha).2,<- b];exact g.D_edge ha
 by_cases hk:k<=g.n
 ·exact g.D_mono e hk
 ·rw[show k=g.n+(k-g.n) by omega,hs _ e he];exact .refl _
theorem T_edge(ok:g.OK){e:Nat}(he:e<g.n){a:Int×Nat}(ha:a∈g.out e):leO (g.T e) (Q13 a.1 (g.T a.2)):=by
 have:=g.D_edge (k:=g.n) ha;rwa [g.D_stable ok he]at this
theorem T_end(ok:g.OK){e:Nat}(he:e<g.n)(h:g.en e=true):leO (g.T e) (some 0):=by
 have:=g.T_le ok he 0;rwa [D,h,Qrc]at this
theorem T_or(ok:g.OK){e:Nat}(he:e<g.n){x:Int}(hx:g.T e=some x):(g.en e=true/\x=0)\/∃a∈g.out e,∃y,g.T a.2=some y/\x=a.1+y:=by
 have ac:∀k,g.D k e=g.T e->(g.en e=true/\x=0)\/∃a∈g.out e,∃y,g.T a.2=some y/\x=a.1+y:=λk=>by
  induction k with
  |zero=>
   intro h;rw[hx,D]at h;cases hc:g.en e with
   |true=>rw[hc,Qrc]at h;injection h with h;exact .inl ⟨rfl,h.symm⟩
   |false=>rw[hc,Qra]at h;cases h
  |succ k ih=>
   intro h;rcases g.D_or k e with e1 | ⟨a,ha,e1⟩
   ·exact ih (e1.symm.trans h)
   ·refine .inr ⟨a,ha,?_⟩;have b:=g.T_le ok (ok.to e a ha).2 k;have h2:=g.T_edge ok he ha;rw[h,hx]at e1;rw[hx]at h2;cases hd:g.D k a.2 with
    |none=>rw[hd]at e1;cases e1
    |some z=>
     rw[hd]at e1 b;cases ht:g.T a.2 with
     |none=>rw[ht]at b;exact b.elim
     |some y=>
      rw[ht]at b h2;have e1:x=a.1+z:=by injection e1
      have b:y<=z:=b;have h2:x<=a.1+y:=h2;exact⟨y,rfl,I⟩
 exact ac g.n rfl
theorem T_nn(ok:g.OK){e:Nat}(he:e<g.n){x:Int}(hx:g.T e=some x):0<=x:=by
 have ac:∀k e,∀x,g.D k e=some x->0<=x:=λk=>by
  induction k with
  |zero=>
   intro e x h;rw[D]at h;cases hc:g.en e with
   |true=>rw[hc,Qrc]at h;injection h with h;omega
   |false=>rw[hc,Qra]at h;cases h
  |succ k ih=>
   intro e x h;rcases g.D_or k e with e1 | ⟨a,ha,e1⟩
   ·exact ih e x (e1.symm.trans h)
   ·rw[h]at e1;cases hd:g.D k a.2 with
    |none=>rw[hd]at e1;cases e1
    |some z=>
     rw[hd]at e1;have e1:x=a.1+z:=by injection e1
     have:=ih _ _ hd;have:=(ok.to e a ha).1;omega
 exact ac _ _ _ hx
end Gr
def lo(left:Y Int)(e:Nat):oP Int:=if left.getD e 0 = -1 then none else some (left.getD e 0)
namespace Gr
variable(g:Gr)
def rl1(e:Nat)(s:Y Int×Bool)(a:Int×Nat):Y Int×Bool:=if s.1.getD a.2 0 = -1 then s else if s.1.getD e 0 = -1\/a.1+s.1.getD a.2 0<s.1.getD e 0 then(s.1.set e (a.1+s.1.getD a.2 0),true)else s
def rlE(s:Y Int×Bool)(e:Nat):Y Int×Bool:=(g.out e).foldl (rl1 e) s
def rlR(left:Y Int):Y Int×Bool:=(List.range g.n).foldl g.rlE (left,false)
structure Lf(left:List Int):Prop where
 len:left.length=g.n
 nn:∀e,e<g.n->left.getD e 0 = -1\/0<=left.getD e 0
 ge:∀e,e<g.n->leO (g.T e) (lo left e)
variable{g} (ok:g.OK)
include ok
theorem rl1_ok{e:Nat}(he:e<g.n){s:Y Int×Bool}(h:g.Lf s.1){a:Int×Nat}(ha:a∈g.out e) :
  g.Lf (rl1 e s a).1/\(∀x,x<g.n->lo (rl1 e s a).1 x=if x=e then CV (lo s.1 e) (Q13 a.1 (lo s.1 a.2))else lo s.1 x)/\((rl1 e s a).2=s.2/\(rl1 e s a).1=s.1\/(rl1 e s a).2=true/\lo (rl1 e s a).1 e≠lo s.1 e):=by
 obtain⟨left,c⟩:=s;obtain⟨d,f⟩:=a;have ho:=ok.to e _ ha;have hl:=h.len;have n1:=h.nn e he;have n2:=h.nn f ho.2;dsimp only at *
 have ac:∀v x,x<g.n->(left.set e v).getD x 0=if x=e then v else left.getD x 0:=λv x hx=>by
  rw[Qrh,Qrh,List.getElem?_set];by_cases aa:x=e
  ·subst aa;rw[Qrx rfl,Qrx rfl,Qrx I];rfl
  ·rw[Qrz (λh=>aa h.symm),Qrz aa]
 unfold rl1;dsimp only;by_cases i:left.getD f 0 = -1
 ·rw[Qrx i];refine⟨h,λx hx=>?_,.inl ⟨rfl,rfl⟩⟩;by_cases aa:x=e
  ·subst aa;rw[Qrx rfl];have:lo left f=none:=Qrx i;rw[this];cases hq:lo left x<;>rfl
  ·rw[Qrz aa]
 rw[Qrz i];have hf:lo left f=some (left.getD f 0):=Qrz i;by_cases h2:left.getD e 0 = -1\/d+left.getD f 0<left.getD e 0
 ·rw[Qrx h2];have hv:(left.set e (d+left.getD f 0)).getD e 0=d+left.getD f 0:=by rw[ac _ e he,Qrx rfl]
  have aj:lo (left.set e (d+left.getD f 0)) e=some (d+left.getD f 0):=by unfold lo;rw[hv,Qrz I]
  have ai:∀x,x<g.n->lo (left.set e (d+left.getD f 0)) x=if x=e then CV (lo left e) (Q13 d (lo left f))else lo left x:=λx hx=>by
   by_cases aa:x=e
   ·subst aa;rw[Qrx rfl,aj,hf];by_cases b:left.getD x 0 = -1
    ·rw[show lo left x=none from Qrx b];rfl
    ·rw[show lo left x=some (left.getD x 0)from Qrz b];show _=some (if d+left.getD f 0<left.getD x 0 then d+left.getD f 0 else left.getD x 0);rw[Qrx I]
   ·rw[Qrz aa];unfold lo;rw[ac _ x hx,Qrz aa]
  refine⟨⟨by simp[hl],λx hx=>?_,λx hx=>?_⟩,ai,.inr ⟨rfl,?_⟩⟩
  ·rw[ac _ x hx];by_cases aa:x=e
   ·rw[Qrx aa];omega
   ·rw[Qrz aa];exact h.nn x hx
  ·rw[ai x hx];by_cases aa:x=e
   ·subst aa;rw[Qrx rfl];rcases CV.or (lo left x) (Q13 d (lo left f))with e1 | e1
    ·rw[e1];exact h.ge x hx
    ·rw[e1];exact(g.T_edge ok hx ha).trans (Q13.mono (h.ge f ho.2))
   ·rw[Qrz aa];exact h.ge x hx
  ·rw[aj];unfold lo;by_cases b:left.getD e 0 = -1
   ·rw[Qrx b];simp
   ·rw[Qrz b];intro hh;injection hh with hh
    omega
 ·rw[Qrz h2];refine⟨h,λx hx=>?_,.inl ⟨rfl,rfl⟩⟩;by_cases aa:x=e
  ·subst aa;rw[Qrx rfl,hf,show lo left x=some (left.getD x 0)from Qrz I];show _=some (if d+left.getD f 0<left.getD x 0 then d+left.getD f 0 else left.getD x 0);rw[Qrz I]
  ·rw[Qrz aa]
structure Run(s s':List Int×Bool):Prop where
 lf:g.Lf s'.1
 le:∀x,x<g.n->leO (lo s'.1 x) (lo s.1 x)
 ch:s'.2=s.2/\s'.1=s.1\/s'.2=true/\∃x,x<g.n/\lo s'.1 x≠lo s.1 x
theorem Run.trans{s s' aa:Y Int×Bool}(h:Run (g:=g) s s')(k:Run (g:=g) s' aa):Run (g:=g) s aa where
 lf:=k.lf
 le:=λx hx=>(k.le x hx).trans (h.le x hx)
 ch:=by
  rcases h.ch with⟨a,b⟩|⟨a,x,hx,b⟩
  ·rcases k.ch with⟨c,d⟩|⟨c,y,hy,d⟩
   ·exact .inl ⟨c.trans a,d.trans b⟩
   ·exact .inr ⟨c,y,hy,by rw[<- b];exact d⟩
  ·refine .inr ⟨?_,x,hx,λe=>b ?_⟩
   ·rcases k.ch with⟨c,d⟩|⟨c,y,hy,d⟩
    ·rw[c,a]
    ·exact c
   ·exact(h.le x hx).anti (e▸k.le x hx)
theorem Qdm{e:Nat}(he:e<g.n){s:Y Int×Bool}(h:g.Lf s.1):∀(l:Y (Int×Nat)),(∀a∈l,a∈g.out e)->∀s0:Y Int×Bool,g.Lf s0.1->Run (g:=g) s0 (l.foldl (rl1 e) s0)/\∀a∈l,leO (lo (l.foldl (rl1 e) s0).1 e) (Q13 a.1 (lo s0.1 a.2))
 |[],_,s0,c=>⟨⟨c,λx hx=>.refl _,.inl ⟨rfl,rfl⟩⟩,λa ha=>nomatch ha⟩
 |a::l,hl,s0,c=>by
  obtain⟨d,h2,j⟩:=rl1_ok ok he c (hl a (.head _));have f:Run (g:=g) s0 (rl1 e s0 a):=⟨d,λx hx=>by
   rw[h2 x hx];by_cases aa:x=e
   ·subst aa;rw[Qrx rfl];exact CV.l ..
   ·rw[Qrz aa];exact .refl _,j.imp id λ⟨a,b⟩=>⟨a,e,he,b⟩⟩
  obtain⟨i,h5⟩:=Qdm he h l (λb hb=>hl b (.tail _ hb)) (rl1 e s0 a) d;refine⟨f.trans ok i,λb hb=>?_⟩;rcases QrI.1 hb with rfl | hb
  ·refine(i.le e he).trans ?_;rw[h2 e he,Qrx rfl];exact CV.r ..
  ·exact(h5 b hb).trans (Q13.mono (f.le b.2 (ok.to e b (hl b (.tail _ hb))).2))
theorem Qde{k:Nat}:∀(l:Y Nat),(∀e∈l,e<g.n)->∀s0:Y Int×Bool,g.Lf s0.1->(∀e,e<g.n->leO (lo s0.1 e) (g.D k e))->Run (g:=g) s0 (l.foldl g.rlE s0)/\∀e∈l,leO (lo (l.foldl g.rlE s0).1 e) (g.D (k+1) e)
 |[],_,s0,c,_=>⟨⟨c,λx hx=>.refl _,.inl ⟨rfl,rfl⟩⟩,λa ha=>nomatch ha⟩
 |e::l,hl,s0,c,hk=>by
  have he:=hl e (.head _);obtain⟨d,h⟩:=Qdm ok he c (g.out e) (λa ha=>ha) s0 c;obtain⟨f,h2⟩:=Qde (k:=k) l (λb hb=>hl b (.tail _ hb)) (g.rlE s0 e) d.lf (λx hx=>(d.le x hx).trans (hk x hx));refine⟨d.trans ok f,λb hb=>?_⟩;rcases QrI.1 hb with rfl | hb
  ·refine(f.le b he).trans ?_;rcases g.D_or k b with e1 | ⟨a,ha,e1⟩
   ·rw[e1];exact(d.le b he).trans (hk b he)
   ·rw[e1];exact(h a ha).trans (Q13.mono (hk a.2 (ok.to b a ha).2))
  ·exact h2 b hb
theorem Q2g{k:Nat}{left:Y Int}(h:g.Lf left)(hk:∀e,e<g.n->leO (lo left e) (g.D k e)):g.Lf (g.rlR left).1/\(∀e,e<g.n->leO (lo (g.rlR left).1 e) (g.D (k+1) e))/\((g.rlR left).2=false/\(g.rlR left).1=left\/(g.rlR left).2=true/\∃x,x<g.n/\lo (g.rlR left).1 x≠lo left x):=by
 obtain⟨r,a⟩:=Qde ok (k:=k) (List.range g.n) (λe he=>QrG.1 he) (left,false) h hk;exact⟨r.lf,λe he=>a e (QrG.2 he),r.ch⟩
theorem Q3w{k:Nat}(hk:g.n<=k){left:Y Int}(h:g.Lf left)(hd:∀e,e<g.n->leO (lo left e) (g.D k e)){e:Nat}(he:e<g.n):lo left e=g.T e:=
 ((hd e he).trans (g.D_mono e hk)).anti (h.ge e he)
theorem Qaq{k:Nat}(hk:g.n<=k){left:Y Int}(h:g.Lf left)(hd:∀e,e<g.n->leO (lo left e) (g.D k e)):g.rlR left=(left,false):=by
 obtain⟨c,h2,d⟩:=Q2g ok h hd;rcases d with⟨a,b⟩|⟨a,x,hx,b⟩
 ·exact Prod.ext b a
 ·exact absurd ((Q3w ok (show g.n<=k+1 by omega) c h2 hx).trans (Q3w ok hk h hd hx).symm) b
theorem rounds{β:Type}{r:Nat->Y Int->β}{K:Y Int->β}{Q:Y Int->Prop}(hQ:∀left,g.Lf left->Q left->Q (g.rlR left).1)(hr:∀m left,g.Lf left->Q left->r (m+1) left=if (g.rlR left).2=true then r m (g.rlR left).1 else K (g.rlR left).1):∀(c m k:Nat) (left:Y Int),k+c=g.n->c<m->g.Lf left->Q left->(∀e,e<g.n->leO (lo left e) (g.D k e))->∃aa,g.Lf aa/\Q aa/\(∀e,e<g.n->lo aa e=g.T e)/\r m left=K aa
 |0,m+1,k,left,hk,_,h,q,hd=>by
  refine⟨left,h,q,λe he=>Q3w ok I h hd he,?_⟩;rw[hr m left h q,Qaq ok I h hd,Qrz (λe=>nomatch e)]
 |c+1,m+1,k,left,hk,hm,h,q,hd=>by
  obtain⟨d,h2,f⟩:=Q2g ok h hd;rw[hr m left h q];by_cases hc:(g.rlR left).2=true
  ·rw[Qrx hc];exact rounds hQ hr c m (k+1) _ I I d (hQ left h q) h2
  ·rw[Qrz hc];rcases f with⟨a,b⟩|⟨a,_⟩
   ·refine⟨left,h,q,λe he=>?_,by rw[b]⟩;have it:∀j,(∀e,e<g.n->leO (lo left e) (g.D (k+j) e)):=λj=>by
     induction j with
     |zero=>exact hd
     |succ j ih=>
      have:=(Q2g ok h ih).2.1;rw[b]at this;exact this
    exact Q3w ok (show g.n<=k+g.n by omega) h (it g.n) he
   ·exact absurd a hc
def Qd3(left:Y Int):Nat:=left.countP λx=>decide (x ≠ -1)
def Ub(U:Int)(left:Y Int):Prop:=∀e:Nat,left.getD e 0<=U*(Qd3 left:Nat)
theorem rl1_ub{U:Int}{e:Nat}(he:e<g.n){s:Y Int×Bool}(h:g.Lf s.1)(hu:Ub U s.1){a:Int×Nat}(ha:a∈g.out e)(hd:a.1<=U):Ub U (rl1 e s a).1:=by
 obtain⟨left,c⟩:=s;obtain⟨d,f⟩:=a;have ho:=ok.to e _ ha;have hl:=h.len;have n1:=h.nn e he;have n2:=h.nn f ho.2;unfold rl1;dsimp only at *
 by_cases j:left.getD f 0 = -1
 ·rw[Qrx j];exact hu
 rw[Qrz j];by_cases h2:left.getD e 0 = -1\/d+left.getD f 0<left.getD e 0
 ·rw[Qrx h2];have g1:=Qre (l:=left) (i:=e) I;have ge:left.getD e 0=left[e]'I:=by rw[Qrh,g1];rfl
  have ac:Qd3 (left.set e (d+left.getD f 0))=Qd3 left+(if left.getD e 0 = -1 then 1 else 0):=by
   unfold Qd3;rw[List.countP_set I,<- ge,Qrk (show d+left.getD f 0 ≠ -1 by omega),Qrx rfl];by_cases b:left.getD e 0 = -1
   ·rw[Qrx b,Qri I,Qrz Q1];rfl
   ·rw[Qrz b,Qrk b,Qrx rfl];have:0<left.countP λx=>decide (x ≠ -1):=List.countP_pos_iff.2 ⟨_,List.getElem_mem (by omega:e<left.length),Qrk (by rw[<- ge];exact b)⟩
    omega
  have hf:=hu f;have hz:=hu e;intro x;have hx:=hu x;rw[ac];have k:(left.set e (d+left.getD f 0)).getD x 0=if x=e then d+left.getD f 0 else left.getD x 0:=by
   rw[Qrh,List.getElem?_set];by_cases aa:x=e
   ·subst aa;rw[Qrx rfl,Qrx rfl,Qrx I];rfl
   ·rw[Qrz (λh=>aa h.symm),Qrz aa,<- Qrh]
  rw[k];by_cases b:left.getD e 0 = -1
  ·rw[Qrx b,show((Qd3 left+1:Nat):Int)=(Qd3 left:Int)+1 by omega,Int.mul_add,Int.mul_one];split<;>omega
  ·rw[Qrz b,Nat.add_zero];split<;>omega
 ·rw[Qrz h2];exact hu
theorem rlE_ub{U:Int}{e:Nat}(he:e<g.n):∀(l:Y (Int×Nat)),(∀a∈l,a∈g.out e/\a.1<=U)->∀s:Y Int×Bool,g.Lf s.1->Ub U s.1->g.Lf (l.foldl (rl1 e) s).1/\Ub U (l.foldl (rl1 e) s).1
 |[],_,s,h,hu=>⟨h,hu⟩
 |a::l,hl,s,h,hu=>rlE_ub he l (λb hb=>hl b (.tail _ hb)) _ (rl1_ok ok he h (hl a (.head _)).1).1 (rl1_ub ok he h hu (hl a (.head _)).1 (hl a (.head _)).2)
theorem rlR_ub{U:Int}(hU:∀e,∀a∈g.out e,a.1<=U):∀(l:Y Nat),(∀e∈l,e<g.n)->∀s:Y Int×Bool,g.Lf s.1->Ub U s.1->g.Lf (l.foldl g.rlE s).1/\Ub U (l.foldl g.rlE s).1
 |[],_,s,h,hu=>⟨h,hu⟩
 |e::l,hl,s,h,hu=>by
  have:=rlE_ub ok (hl e (.head _)) (g.out e) (λa ha=>⟨ha,hU e a ha⟩) s h hu;exact rlR_ub hU l (λb hb=>hl b (.tail _ hb)) (g.rlE s e) this.1 this.2
omit ok in
theorem Ub.le{U:Int}(hU:0<=U){left:Y Int}(hu:Ub U left)(e:Nat):left.getD e 0<=U*(left.length:Nat):=by
 have a:=hu e;have h2:Qd3 left<=left.length:=List.countP_le_length;have:=Int.mul_le_mul_of_nonneg_left (show((Qd3 left:Nat):Int)<=(left.length:Nat) by omega) hU;omega
end Gr
structure Sv where
 n:Nat
 dur:Nat->Int
 to:Nat->Nat
 lv:Nat->List Nat
 en:Nat->Bool
namespace Sv
variable(S:Sv)
def gr:Gr:=⟨S.n,λe=>(S.lv e).map λi=>(S.dur i,S.to i),S.en⟩
def tight(left:Y Int)(t:Int)(a:Nat):Bool:=bif left.getD (S.to a) 0 != -1 then S.dur a+left.getD (S.to a) 0 == t else false
structure Alt(arr:Nat->Bool):Prop where
 al:∀e,e<S.n->∀a∈S.lv e,arr (S.to a) = !arr e/\(arr e=false->1<=S.dur a)
 en:∀e,S.en e=true->arr e=true
structure Fin(left:List Int):Prop where
 ok:S.gr.OK
 lf:S.gr.Lf left
 eq:∀e,e<S.n->lo left e=S.gr.T e
variable{S} {left:Y Int}
theorem Fin.val(h:S.Fin left){e:Nat}(he:e<S.n){x:Int}:S.gr.T e=some x↔left.getD e 0=x/\x ≠ -1:=by
 rw[<- h.eq e he];unfold lo;split
 ·rename_i c;exact⟨λq=>(nomatch q),λ⟨a,b⟩=>absurd (a.symm.trans c) b⟩
 ·rename_i c;exact⟨λq=>by injection q with q;exact⟨q,q▸c⟩,λ⟨a,b⟩=>by rw[a]⟩
theorem Fin.lv(h:S.Fin left){e a:Nat}(ha:a∈S.lv e):0<=S.dur a/\S.to a<S.n:=h.ok.to e (S.dur a,S.to a) (Qrs.2 ⟨a,ha,rfl⟩)
theorem tight_iff{t:Int}{a:Nat}:S.tight left t a=true↔left.getD (S.to a) 0 ≠ -1/\S.dur a+left.getD (S.to a) 0=t:=by
 unfold tight;cases hb:(left.getD (S.to a) 0 != -1)with
 |false=>simp at hb;simp[hb]
 |true=>simp at hb;simp[hb]
theorem Fin.next(h:S.Fin left){e:Nat}(he:e<S.n){t:Int}(ht:left.getD e 0=t)(f:0<t):S.en e=false/\∃a∈S.lv e,S.tight left t a=true:=by
 have hT:=(h.val he (x:=t)).2 ⟨ht,I⟩;constructor
 ·cases hc:S.en e with
  |false=>rfl
  |true=>
   have:=S.gr.T_end h.ok he hc;rw[hT]at this;have:t<=0:=this;omega
 ·rcases S.gr.T_or h.ok he hT with⟨_,e1⟩|⟨b,hb,y,d,h2⟩
  ·omega
  ·obtain⟨a,ha,rfl⟩:=Qrs.1 hb;have c:=(h.val (h.lv ha).2).1 d;exact⟨a,ha,tight_iff.2 ⟨by rw[c.1];exact c.2,by rw[c.1];exact h2.symm⟩⟩
theorem Fin.zero(h:S.Fin left){arr:Nat->Bool}(al:S.Alt arr){e:Nat}(he:e<S.n)(ht:left.getD e 0=0):S.en e=true:=by
 have aa:∀{e:Nat},e<S.n->left.getD e 0=0->arr e=false->S.en e=true:=λ{e} he ht hr=>by
  rcases S.gr.T_or h.ok he ((h.val he (x:=0)).2 ⟨ht,I⟩)with⟨e1,_⟩|⟨b,hb,y,d,h2⟩
  ·exact e1
  ·obtain⟨a,ha,rfl⟩:=Qrs.1 hb;have:=(al.al e he a ha).2 hr;have:=S.gr.T_nn h.ok (h.lv ha).2 d;have h2:0=S.dur a+y:=h2;omega
 cases hr:arr e with
 |false=>exact aa he ht hr
 |true=>
  rcases S.gr.T_or h.ok he ((h.val he (x:=0)).2 ⟨ht,I⟩)with⟨e1,_⟩|⟨b,hb,y,d,h2⟩
  ·exact e1
  ·obtain⟨a,ha,rfl⟩:=Qrs.1 hb;have g:=(h.lv ha).1;have:=S.gr.T_nn h.ok (h.lv ha).2 d;have h2:0=S.dur a+y:=h2;have i:=(h.val (h.lv ha).2).1 d;have hd:=(al.al e he a ha).1;rw[hr]at hd;rcases S.gr.T_or h.ok (h.lv ha).2 d with⟨e2,_⟩|⟨c,hc,z,f,h5⟩
   ·have:=al.en _ e2;rw[hd]at this;cases this
   ·obtain⟨a',ac,rfl⟩:=Qrs.1 hc;have:=(al.al _ (h.lv ha).2 a' ac).2 hd;have:=S.gr.T_nn h.ok (h.lv ac).2 f;have h5:y=S.dur a'+z:=h5;omega
def Way(S:Sv)(left:Y Int):Y Nat->Int->Y Nat->Prop
 |_,t,[]=>t=0
 |nx,t,a::p=>0<t/\a∈nx/\S.tight left t a=true/\Way S left (S.lv (S.to a)) (t-S.dur a) p
def cnt(S:Sv)(left:Y Int)(t:Int):Nat:=(List.range S.n).countP λx=>decide (left.getD x 0 ≠ -1/\left.getD x 0<t)
theorem R0{p q:Nat->Bool}{e:Nat}(aa:∀x,p x=true->q x=true)(a:p e=false)(h2:q e=true):∀(l:Y Nat),e∈l->l.countP p<l.countP q
 |b::l,h=>by
  have hm:=List.countP_mono_left (l:=l) (p:=p) (q:=q) (λx _ hx=>aa x hx);rw[List.countP_cons,List.countP_cons];rcases QrI.1 h with rfl | h
  ·rw[a,h2,Qrz Q1,Qrx rfl];omega
  ·have ih:=R0 aa a h2 l h;cases hb:p b with
   |true=>rw[aa b hb];simp only[if_true];omega
   |false=>cases q b<;>simp<;>omega
theorem cnt_mono{t t':Int}(h:t'<=t):S.cnt left t'<=S.cnt left t:=List.countP_mono_left λx _ hx=>by
 have:=of_decide_eq_true hx;exact Qrk ⟨this.1,I⟩
theorem cnt_lt{t t':Int}(h:t'<t){e:Nat}(he:e<S.n)(ht:left.getD e 0=t')(a:t' ≠ -1):S.cnt left t'<S.cnt left t:=
 R0 (e:=e) (λx hx=>by have:=of_decide_eq_true hx;exact Qrk ⟨this.1,I⟩) (Qri I) (Qrk I) _ (QrG.2 he)
theorem cnt_le{t:Int}:S.cnt left t<=S.n:=by
 have:=List.countP_le_length (p:=λx=>decide (left.getD x 0 ≠ -1/\left.getD x 0<t)) (l:=List.range S.n);rwa [QrM]at this
theorem way_loop{β:Type}{r:Nat->Int->Y Nat->Y Nat->β}{K:Y Nat->β}{B:Nat}(h:S.Fin left){arr:Nat->Bool}(al:S.Alt arr)(d:∀m e j,e<S.n->left.getD e 0=0->r (m+1) (left.getD e 0) (S.lv e) j=K j)(f:∀m e j a,e<S.n->0<left.getD e 0->j.length+m<B->(S.lv e).find? (S.tight left (left.getD e 0))=some a->r (m+1) (left.getD e 0) (S.lv e) j=r m (left.getD e 0-S.dur a) (S.lv (S.to a)) (j++[a])) :
  ∀(c m e:Nat) (j:Y Nat),e<S.n->2*S.cnt left (left.getD e 0)+(if arr e then 1 else 0)<=c->c<m->j.length+m<=B->left.getD e 0 ≠ -1->∃p,Way S left (S.lv e) (left.getD e 0) p/\p.length<=c/\r m (left.getD e 0) (S.lv e) j=K (j++p)
 |c,m+1,e,j,he,hc,hm,hB,hn=>by
  by_cases hp:0<left.getD e 0
  ·obtain⟨a,ha,am⟩:=(h.next he rfl hp).2;cases hf:(S.lv e).find? (S.tight left (left.getD e 0))with
   |none=>exact absurd am (List.find?_eq_none.1 hf a ha)
   |some b=>
    rw[f m e j b he hp I hf];have hb:=QrJ hf;have ac:=List.find?_some hf;obtain⟨b1,b2⟩:=tight_iff.1 ac;obtain⟨d0,aa⟩:=h.lv hb;obtain⟨a1,a2⟩:=al.al e he b hb;have ht:left.getD e 0-S.dur b=left.getD (S.to b) 0:=I
    have ao:2*S.cnt left (left.getD (S.to b) 0)+(if arr (S.to b)then 1 else 0)<2*S.cnt left (left.getD e 0)+(if arr e then 1 else 0):=by
     rw[a1];cases ak:arr e with
     |true=>
      have:=cnt_mono (S:=S) (left:=left) (show left.getD (S.to b) 0<=left.getD e 0 by omega);simp only[Qrn,if_true,Bool.false_eq_true,if_false];omega
     |false=>
      have:=a2 ak;have:=cnt_lt (S:=S) (left:=left) (show left.getD (S.to b) 0<left.getD e 0 by omega) aa rfl b1;simp only[QrC,if_true,Bool.false_eq_true,if_false];omega
    cases c with
    |zero=>omega
    |succ c=>
     obtain⟨p,g,aj,hq⟩:=way_loop h al d f c m (S.to b) (j++[b]) aa I I Q3 b1;refine⟨b::p,⟨hp,hb,ac,by rw[ht];exact g⟩,Nat.succ_le_succ aj,?_⟩;rw[ht,hq,Qrl];rfl
  ·have:=h.lf.nn e he;have ai:left.getD e 0=0:=I
   exact⟨[],ai,Nat.zero_le _,by rw[d m e j he ai,Qru]⟩
end Sv
def Cx.sv(X:Cx)(per:Int)(A:LL)(tl:Y Int)(to:Int):Sv:=⟨2*X.N,λj=>XJ tl per (A.getD j []),λj=>(tto A j).toNat,λe=>lvF A A.length e,λe=>bif ((if e % 2=0 then(1:Int)else 2) == 2)then X.s1 e == to else false⟩
theorem Q9Y{A:LL}{i e j:Nat}:j∈lvF A i e↔j<i/\Qbd A e j=true:=by
 unfold lvF;rw[List.mem_filter,QrG]
theorem Q3h{l:Y Nat}{i j:Nat}(h:l[i]? = some j):Qi (Kv l) (i:Int)=some [Ql (j:Int)]:=by
 rw[Qp];unfold Kv;rw[Qrv,h];rfl
theorem MH{l:Y Nat}:(Kv l).length=l.length:=by simp[Kv]
namespace Cx
variable{X:Cx} {per:Int} {Ch Sy A:LL} {tl:Y Int} (g:X.Gd per Ch Sy A tl)
include g
theorem Gd.go{r:Y D}(hr:r∈A):∃kd f t mn mx w:Int,r=[Ql kd,Ql f,Ql t,Ql mn,Ql mx,Ql w]/\(kd=1/\f % 2=0/\t % 2=1/\1<=mn\/(kd=2\/kd=3)/\f % 2=1/\t % 2=0/\0<=mn\/kd≠1/\kd≠2/\kd≠3):=by
 obtain⟨H,rfl,hH⟩:=g.act;have h:=g.ok;rcases Qrj.1 hr with hr | hr
 ·rcases Qrj.1 hr with hr | hr
  ·rcases Qrj.1 hr with hr | hr
   ·rcases Qrj.1 hr with hr | hr
    ·obtain⟨i,k,hi,hk,h⟩:=Q6x hr;rcases h with rfl | ⟨c,rfl⟩
     ·exact⟨_,_,_,_,_,_,rfl,.inl ⟨rfl,I,I,run_pos h hi hk⟩⟩
     ·exact⟨_,_,_,_,_,_,rfl,.inr (.inl ⟨.inl rfl,I,I,(rd h hi hk).mn0⟩)⟩
    ·obtain⟨row,aa,rfl⟩:=Qrs.1 hr;obtain⟨f,fr,t,tr,mn,mx,w,rfl,_,_,_,_,ac,_⟩:=g.ls.ch row aa;exact⟨_,_,_,mn,mx,w,rfl,.inr (.inl ⟨.inr rfl,I,I,ac.1⟩)⟩
   ·obtain⟨t,ht,rfl⟩:=Qrs.1 hr;exact⟨_,_,_,_,_,_,rfl,.inr (.inr I)⟩
  ·obtain⟨row,aa,rfl⟩:=Qrs.1 hr;obtain⟨o,rfl,_⟩:=g.ls.sy row aa;exact⟨_,_,_,o,o,0,rfl,.inr (.inr I)⟩
 ·obtain⟨a,b,w,rfl⟩:=hH r hr;exact⟨_,_,_,_,_,_,rfl,.inr (.inr I)⟩
theorem Gd.at{j:Nat}(hj:j<A.length):∃r,A[j]? = some r/\r∈A/\A.getD j []=r/\r[0]? = some (Ql (knd A j))/\r[1]? = some (Ql (frm A j))/\r[2]? = some (Ql (tto A j))/\(0<=frm A j/\frm A j<(2*X.N:Nat))/\(0<=tto A j/\tto A j<(2*X.N:Nat))/\(r[3]?).isSome=true/\(r[4]?).isSome=true/\(r[5]?).isSome=true:=by
 have e:=Qre hj;have hm:=Qrf e;obtain⟨kd,f,t,mn,mx,w,er,hf,ht,_⟩:=g.row hm;have ek:knd A j=kd:=by unfold knd;rw[e,er]
 have ef:frm A j=f:=by unfold frm;rw[e,er]
 have et:tto A j=t:=by unfold tto;rw[e,er]
 rw[ek,ef,et];exact⟨A[j],e,hm,by rw[Qrh,e];rfl,by rw[er];rfl,by rw[er];rfl,by rw[er];rfl,hf,ht,by rw[er];rfl,by rw[er];rfl,by rw[er];rfl⟩
theorem Gd.use{e j:Nat}(hj:j∈lvF A A.length e){to:Int}:j<A.length/\frm A j=(e:Int)/\0<=(X.sv per A tl to).dur j/\(X.sv per A tl to).dur j<=66000/\(X.sv per A tl to).to j<2*X.N/\((X.sv per A tl to).to j:Int)=tto A j /\
  ((knd A j=1/\e % 2=0/\(X.sv per A tl to).to j % 2=1/\1<=(X.sv per A tl to).dur j)\/((knd A j=2\/knd A j=3)/\e % 2=1/\(X.sv per A tl to).to j % 2=0)):=by
 obtain⟨c,h2⟩:=Q9Y.1 hj;have e1:=Qre c;have hm:=Qrf e1;obtain⟨kd,f,t,mn,mx,w,er,hk⟩:=g.go hm;obtain⟨r,q1,l,i,q4,q5,q6,q7,k,_⟩:=g.at c;obtain rfl:A[j]=r:=by rw[e1]at q1;injection q1
 have hd:=g.dur_rng hm;have p0:=g.p0;have ed:(X.sv per A tl to).dur j=XJ tl per A[j]:=by
  show XJ tl per (A.getD j [])=_;rw[i]
 have ht:((X.sv per A tl to).to j:Int)=tto A j:=Int.toNat_of_nonneg k.1;rw[er]at q4 q5 q6;have ek:kd=knd A j:=by simp only[Qr9,Option.some.injEq]at q4;injection q4
 have ef:f=frm A j:=by simp only[Qrd,Qr9,Option.some.injEq]at q5;injection q5
 have et:t=tto A j:=by simp only[Qrd,Qr9,Option.some.injEq]at q6;injection q6
 have ak:mn<=XJ tl per A[j]:=by
  rw[er];have:=Qrt (Vx.tat tl t-Vx.tat tl f-mn) (show per≠0 by omega);show mn<=mn+_;omega
 unfold Qbd at h2;rw[Bool.and_eq_true,<- ek,<- ef]at h2;obtain⟨d,h⟩:=h2;have h:f=(e:Int):=by simpa using h
 have am:kd=1\/kd=2\/kd=3:=by
  by_cases a:kd=1
  ·exact .inl a
  ·by_cases b:kd=2
   ·exact .inr (.inl b)
   ·rw[show(kd == 1)=false by simpa using a,show(kd == 2)=false by simpa using b]at d;exact .inr (.inr (by simpa using d))
 rw[<- ef,<- ek];omega
theorem Gd.grOK{to:Int}:(X.sv per A tl to).gr.OK:=⟨λe a ha=>by
 obtain⟨j,hj,rfl⟩:=Qrs.1 ha;have:=g.use hj (to:=to);exact⟨this.2.2.1,this.2.2.2.2.1⟩⟩
theorem Gd.alt{to:Int}:(X.sv per A tl to).Alt λe=>decide (e % 2=1) where
 al:=λe he j hj=>by
  have:=g.use hj (to:=to);rcases this.2.2.2.2.2.2 with⟨_,a,h2,b⟩|⟨_,a,h2⟩
  ·rw[Qrk h2,Qri I];exact⟨rfl,λ_=>b⟩
  ·rw[Qri I,Qrk a];exact⟨rfl,λh=>nomatch h⟩
 en:=λe he=>by
  have he:(bif ((if e % 2=0 then(1:Int)else 2) == 2)then X.s1 e == to else false)=true:=he;by_cases h:e % 2=0
  ·rw[Qrx h]at he;cases he
  ·exact Qrk I
theorem Gd.endsP{to:Int}{e:Nat}(he:e<2*X.N):YK 400 (X.evs X.L) (encI ((List.range (2*X.N)).map X.s1)) (e:Int) to (some:Bool->oP Bool)=some ((X.sv per A tl to).en e):=by
 obtain⟨i,k,c,h2,b,d⟩:=Qgt g.ok he;have e1:(encI ((List.range (2*X.N)).map X.s1))[e]? = some [Ql (X.s1 e)]:=by
  have:=Hg (l:=(List.range (2*X.N)).map X.s1) (i:=e) (a:=X.s1 e) (by simp[he]);rwa [Qp]at this
 unfold YK;rw[Qp,b,Qh,Qr9,Qh,Qj,Qh,XR I (by rw[QS];simp;omega),Qh,Qrb,e1,Qh,Qr9,Qh,Qj,Qh];rfl
def Q0t(S:Sv)(i:Nat):Y Int:=(List.range S.n).map λx=>if x<i/\S.en x=false then -1 else 0
omit g in
theorem Qcn{S:Sv}{i:Nat}(hi:i<S.n)(h:S.en i=false):(Q0t S i).set i (-1)=Q0t S (i+1):=by
 refine QrT λx=>?_
 unfold Q0t;by_cases hx:x<S.n
 ·by_cases e:i=x
  ·subst e;rw[List.getElem?_set_self Q3,Qrv,QrH hi];simp[h]
  ·rw[List.getElem?_set_ne e,Qrv,Qrv,QrH hx];show some (if x<i/\S.en x=false then(-1:Int)else 0)=some (if x<i+1/\S.en x=false then(-1:Int)else 0);congr 1;by_cases h2:x<i
   ·simp[h2,show x<i+1 by omega]
   ·simp[h2,show ¬ x<i+1 by omega]
 ·rw[Qrr Q3,Qrr Q3]
omit g in
theorem Qeb{S:Sv}{i:Nat}(h:S.en i=true):Q0t S i=Q0t S (i+1):=by
 unfold Q0t;refine List.map_congr_left λx _=>?_
 by_cases e:x=i
 ·subst e;simp[h]
 ·by_cases h2:x<i
  ·simp[h2,show x<i+1 by omega]
  ·simp[h2,show ¬ x<i+1 by omega]
theorem Gd.ini{R:Type}{to:Int}{k0:Int->Bool->LL->oP R}(hN:X.N<=6):∀(c m i:Nat),i+c=2*X.N->c<m->QL 400 to ((2*X.N:Nat):Int) (encI ((List.range (2*X.N)).map X.s1)) (X.evs X.L) k0 m (i:Int) (encI (Q0t (X.sv per A tl to) i))=k0 ((2*X.N:Nat):Int) false (encI (Q0t (X.sv per A tl to) (2*X.N)))
 |0,m+1,i,hi,_=>by
  obtain rfl:i=2*X.N:=I
  rw[QL,Qy,Qra]
 |c+1,m+1,i,hi,hm=>by
  have hl:(Q0t (X.sv per A tl to) i).length=2*X.N:=by simp[Q0t,sv]
  rw[QL,Qt I,Qrc,g.endsP I,Qh,QJ I];cases he:(X.sv per A tl to).en i with
  |true=>
   rw[Qrn,Qra,Qeb he];exact ini hN c m (i+1) I I
  |false=>
   rw[QrC,Qrc,XR I (by rw[QS,hl];omega),Qh,Qrb,Vw I,Qh,Qrw];show QL _ _ _ _ _ _ _ _ ((encI _).set i [Ql (-1)])=_;rw[PA,Qcn (show i<(X.sv per A tl to).n by show i<2*X.N;omega) he];exact ini hN c m (i+1) I I
theorem Gd.durAt{to:Int}{j:Nat}(hj:j<A.length):(A.map λr=>[Ql (XJ tl per r)])[j]? = some [Ql ((X.sv per A tl to).dur j)]:=by
 rw[Qrv,Qre hj];show some [Ql (XJ tl per A[j])]=some [Ql (XJ tl per (A.getD j []))];rw[Qrh,Qre hj];rfl
omit g in
theorem AC{w:Y Int}{i:Nat}(h:i<w.length):(encI w)[i]? = some [Ql (w.getD i 0)]:=by
 rw[Vw h,Qrh,Qre h];rfl
theorem Gd.rem2{R:Type}{to:Int}{k0:Bool->Int->Bool->LL->oP R}(hN:X.N<=6){e:Nat}(he:e<2*X.N):∀(ai l:Y Nat) (m i:Nat) (s:Y Int×Bool),l.drop i=ai->i<=l.length->l.length<=400->ai.length<m->(∀j∈ai,j∈lvF A A.length e)->(X.sv per A tl to).gr.Lf s.1->Gr.Ub 66000 s.1 ->
  QC 400 (e:Int) (Kv l) (l.length:Int) (A.map λr=>[Ql (XJ tl per r)]) A k0 m s.2 (i:Int) (encI s.1) =
   k0 ((ai.map λj=>((X.sv per A tl to).dur j,(X.sv per A tl to).to j)).foldl (Gr.rl1 e) s).2 (l.length:Int) false (encI ((ai.map λj=>((X.sv per A tl to).dur j,(X.sv per A tl to).to j)).foldl (Gr.rl1 e) s).1)
 |[],l,m+1,i,s,hd,ao,hl,_,_,_,_=>by
  have:=Wc hd;obtain rfl:i=l.length:=I
  rw[QC,Qy,Qra];rfl
 |j::ai,l,m+1,i,s,hd,ao,hl,hm,hj,hf,hu=>by
  obtain⟨e1,au,ak⟩:=Yf hd;rw[QrD]at hm;obtain⟨b,p,q,d,f,t,_⟩:=g.use (hj j (.head _)) (to:=to);obtain⟨r,q1,u,v,q4,q5,q6,q7,y,_⟩:=g.at b;have ac:s.1.length=2*X.N:=hf.len;have ub:=λx:Nat=>Gr.Ub.le Q1 hu x
  rw[ac]at ub;have z:=hf.nn e he;have aa:=hf.nn _ f;have b1:=ub e;have b2:=ub ((X.sv per A tl to).to j);have a1:inB (List.length (encI s.1)) (tto A j)=some ():=XR I (by rw[QS,ac];omega);have a2:inB (List.length (encI s.1)) (e:Int)=some ():=XR I (by rw[QS,ac];omega);have k:inB (List.length (A.map λr=>[Ql (XJ tl per r)])) (j:Int)=some ():=XR I Q3;have aw:(tto A j).toNat=(X.sv per A tl to).to j:=rfl;have n:(encI s.1)[(tto A j).toNat]? = some [Ql (s.1.getD ((X.sv per A tl to).to j) 0)]:=AC (by rw[ac];omega);have o:(encI s.1)[e]? = some [Ql (s.1.getD e 0)]:=AC (by rw[ac];omega);have aj:((X.sv per A tl to).dur j,(X.sv per A tl to).to j)∈(X.sv per A tl to).gr.out e:=Qrs.2 ⟨j,hj j (.head _),rfl⟩;have am:=(Gr.rl1_ok g.grOK he hf aj).1;have an:=Gr.rl1_ub g.grOK he hf hu aj d;have ih:=rem2 (k0:=k0) hN he ai l m (i+1) (Gr.rl1 e s ((X.sv per A tl to).dur j,(X.sv per A tl to).to j)) au I hl I (λx hx=>hj x (.tail _ hx)) am an;rw[List.map_cons,QrQ,<- ih,QC,Qt ak,Qrc,Q3h e1];simp -implicitDefEqProofs only[Qh,Qr9,Qj,Qp,q1,q6,a1,a2,k,n,o,Qrb,g.durAt b (to:=to),QJ (show i<=1000 by omega)];rw[Qo (x:=(X.sv per A tl to).dur j+s.1.getD ((X.sv per A tl to).to j) 0) I I];obtain⟨left,c⟩:=s;unfold Gr.rl1;dsimp only at *
  by_cases a:left.getD ((X.sv per A tl to).to j) 0 = -1
  ·rw[Qrx a,show(left.getD ((X.sv per A tl to).to j) 0 == -1)=true by simpa using a,Qrc]
  rw[Qrz a,show(left.getD ((X.sv per A tl to).to j) 0 == -1)=false by simpa using a,Qra];have hb:(bif (left.getD e 0 == -1)then true else decide ((X.sv per A tl to).dur j+left.getD ((X.sv per A tl to).to j) 0<left.getD e 0))=decide (left.getD e 0 = -1\/(X.sv per A tl to).dur j+left.getD ((X.sv per A tl to).to j) 0<left.getD e 0):=by
   by_cases h2:left.getD e 0 = -1
   ·rw[show(left.getD e 0 == -1)=true by simpa using h2,Qrk (Or.inl h2)];rfl
   ·rw[show(left.getD e 0 == -1)=false by simpa using h2,Qra];exact decide_eq_decide.2 ⟨.inr,λh=>h.resolve_left h2⟩
  rw[hb];by_cases h2:left.getD e 0 = -1\/(X.sv per A tl to).dur j+left.getD ((X.sv per A tl to).to j) 0<left.getD e 0
  ·rw[Qrx h2,Qrk h2,Qrc,Qrw];show QC _ _ _ _ _ _ _ _ _ _ ((encI left).set e [Ql _])=_;rw[PA]
  ·rw[Qrz h2,Qri h2,Qra]
end Cx
namespace Cx
variable{X:Cx} {per:Int} {Ch Sy A:LL} {tl:Y Int} (g:X.Gd per Ch Sy A tl)
theorem Q9X{e:Nat}(he:e<2*X.N):(X.lvs A)[e]? = some [.sl 1 (Kv (lvF A A.length e))]:=by
 unfold lvs;rw[Qrv,QrH he];rfl
theorem Q6n:(X.lvs A).length=2*X.N:=by simp[lvs]
include g
theorem Gd.hU{to:Int}:∀e,∀a∈(X.sv per A tl to).gr.out e,a.1<=66000:=λe a ha=>by
 obtain⟨j,hj,rfl⟩:=Qrs.1 ha;exact(g.use hj (to:=to)).2.2.2.1
theorem Gd.rem3{R:Type}{to:Int}{k0:Bool->Int->Bool->LL->oP R}(hN:X.N<=6):∀(ac:Y Nat) (m i:Nat) (s:Y Int×Bool),(List.range (2*X.N)).drop i=ac->i<=2*X.N->ac.length<m->(X.sv per A tl to).gr.Lf s.1->Gr.Ub 66000 s.1 ->
  Xg 400 ((2*X.N:Nat):Int) (X.lvs A) (A.map λr=>[Ql (XJ tl per r)]) A k0 m s.2 (i:Int) (encI s.1) =
   k0 (ac.foldl (X.sv per A tl to).gr.rlE s).2 ((2*X.N:Nat):Int) false (encI (ac.foldl (X.sv per A tl to).gr.rlE s).1)
 |[],m+1,i,s,hd,hi,_,_,_=>by
  have:=Wc hd;rw[QrM]at this;obtain rfl:i=2*X.N:=I
  rw[Xg,Qy,Qra];rfl
 |e::ac,m+1,i,s,hd,hi,hm,hf,hu=>by
  obtain⟨e1,ai,aa⟩:=Yf hd;rw[QrM]at aa;rw[QrH aa]at e1;obtain rfl:i=e:=by injection e1
  rw[QrD]at hm;have hl:=Q3y A A.length i;have hA:=g.len;have h2:=Gr.rlE_ub g.grOK (show i<(X.sv per A tl to).gr.n from aa) ((X.sv per A tl to).gr.out i) (λa ha=>⟨ha,g.hU i a ha⟩) s hf hu;have ih:=rem3 (k0:=k0) hN ac m (i+1) ((X.sv per A tl to).gr.rlE s i) ai I I h2.1 h2.2;rw[QrQ,<- ih,Xg,Qt aa,Qrc,XR I (by rw[Q6n];omega),Qh,Qrb,Q9X aa,Qh,Qr9,Qh,X2,Qh,MH,QJ I];exact g.rem2 hN aa (lvF A A.length i) (lvF A A.length i) 400 0 s rfl I I I (λj hj=>hj) hf hu
theorem Gd.remP(to:Int):∃left:Y Int,(X.sv per A tl to).Fin left/\(∀e,left.getD e 0<=792000)/\XC 400 (X.evs X.L) A (X.lvs A) (A.map λr=>[Ql (XJ tl per r)]) (encI ((List.range (2*X.N)).map X.s1)) to some=some (encI left):=by
 have hN:X.N<=6:=base_le g.ok;have hl:(X.evs X.L).length=2*X.N:=evs_len;have ok:=g.grOK (to:=to);have am:(Q0t (X.sv per A tl to) (2*X.N)).length=2*X.N:=by simp[Q0t,sv]
 have aa:∀e,e<2*X.N->(Q0t (X.sv per A tl to) (2*X.N)).getD e 0=if (X.sv per A tl to).en e=false then -1 else 0:=λe he=>by
  unfold Q0t;rw[Qrh,Qrv,QrH (show e<(X.sv per A tl to).n from he)];show(if e<2*X.N/\(X.sv per A tl to).en e=false then(-1:Int)else 0)=_;simp[he]
 have ai:∀e,e<2*X.N->lo (Q0t (X.sv per A tl to) (2*X.N)) e=bif (X.sv per A tl to).en e then some 0 else none:=λe he=>by
  unfold lo;rw[aa e he];cases (X.sv per A tl to).en e<;>rfl
 have d:(X.sv per A tl to).gr.Lf (Q0t (X.sv per A tl to) (2*X.N)):=⟨am,λe he=>by
  rw[aa e he];split
  ·exact .inl rfl
  ·exact .inr (Int.le_refl 0),λe he=>by
  rw[ai e he];cases hc:(X.sv per A tl to).en e with
  |false=>cases (X.sv per A tl to).gr.T e<;>trivial
  |true=>exact(X.sv per A tl to).gr.T_end ok he hc⟩
 have f:Gr.Ub 66000 (Q0t (X.sv per A tl to) (2*X.N)):=λe=>by
  have:(Q0t (X.sv per A tl to) (2*X.N)).getD e 0<=0:=by
   by_cases he:e<2*X.N
   ·rw[aa e he];split<;>omega
   ·rw[Qrh,Qrr I];exact Int.le_refl 0
  omega
 have d0:∀e,e<(X.sv per A tl to).gr.n->leO (lo (Q0t (X.sv per A tl to) (2*X.N)) e) ((X.sv per A tl to).gr.D 0 e):=λe he=>by
  rw[ai e he,Gr.D];exact leO.refl _
 have ak:=Gr.rounds ok (β:=oP LL) (K:=λleft=>some (encI left)) (Q:=Gr.Ub 66000)
  (r:=λm left=>QD 400 (X.lvs A) (A.map λr=>[Ql (XJ tl per r)]) A (λb a=>some a) (m+1) true (encI left))
  (λleft hf hu=>(Gr.rlR_ub ok (g.hU (to:=to)) _ (λe he=>QrG.1 he) (left,false) hf hu).2)
  (λm left hf hu=>by
   rw[QD,Qrc];have ac:left.length=2*X.N:=hf.len;rw[QS,ac];have:=g.rem3 (to:=to) (k0:=λi (p:Int) (q:Bool) j=>QD 400 (X.lvs A) (A.map λr=>[Ql (XJ tl per r)]) A (λb a=>some a) (m+1) i j) hN (List.range (2*X.N)) 400 0 (left,false) rfl I Q3 hf hu;refine this.trans ?_;show QD _ _ _ _ _ _ ((X.sv per A tl to).gr.rlR left).2 (encI ((X.sv per A tl to).gr.rlR left).1)=_;cases hc:((X.sv per A tl to).gr.rlR left).2 with
   |true=>rw[Qrx rfl]
   |false=>
    rw[Qrz (λh=>nomatch h),QD,Qra])
  (2*X.N) 399 0 (Q0t (X.sv per A tl to) (2*X.N)) (by show 0+2*X.N=2*X.N;omega) I d f d0
 obtain⟨left,c,h2,k,l⟩:=ak;have aj:left.length=2*X.N:=c.len;refine⟨left,⟨ok,c,k⟩,λe=>?_,?_⟩
 ·have:=Gr.Ub.le Q1 h2 e;rw[aj]at this;omega
 ·unfold XC;rw[hl,Q4H,Qh,Qrb,XM I,Qh,List.length_replicate];have n:List.replicate (2*X.N) [D.int .i64 (0:Int)]=encI (Q0t (X.sv per A tl to) 0):=by
   unfold Q0t encI;rw[List.map_map];refine QrT λx=>?_
   by_cases hx:x<2*X.N
   ·rw[Qrv,QrH (show x<(X.sv per A tl to).n from hx),List.getElem?_replicate,Qrx hx];simp[Ql]
   ·rw[Qrr Q3,Qrr (by simp[sv];omega)]
  rw[n];have:=g.ini (to:=to) (k0:=λ(s:Int) (t:Bool) o=>QD 400 (X.lvs A) (A.map λr=>[Ql (XJ tl per r)]) A (λb a=>some a) 400 true o) hN (2*X.N) 400 0 I I;refine this.trans ?_;exact l
end Cx
end Go.Vx
namespace Go.Vx
variable{R:Type} (n:Nat)
def VG(i:LL)(d:Int)(j:LL)(e:Int)(f g h c:LL)(k0:LL->Int->Int->LL->oP R)(k1:QlJ R):QlK R
|0,_=>none
|m+1,b=>bif decide (b<e)then Ql3 R j b λa=>Qc R (Yx n g c i a d some) λp=>bif p then Qc R (Y9 ((f.length+[[Ql a]].length)*8)) λz=>Ql5 R c.length a c a.toNat λs=>Qlz R g a λk=>Qle R h.length k h k.toNat λy=>k0 y (wJ (d-s)) a (f++[[Ql a]])else VG i d j e f g h c k0 k1 m (wJ (b+1))else k1 b (decide (b<e))
def XP(c d e f:LL)(k0:LL->Int->Bool->LL->oP R):Nat->LL->Int->LL->oP R
|0,_,_,_=>none
|m+1,b,a,g=>bif decide (a>0)then VG n c a b (b.length:Int) g d e f (λh i _ j=>XP c d e f k0 m h i j) (λk l=>XP c d e f k0 m b a g) n 0 else k0 b a (decide (a>0)) g
def We(j k l m:LL)(o:Int)(p q r s t u v a2:LL)(h i:Int)(K:Int->LL->Int->oP R):oP R:=gb true (XZ n j k l m o p q r s t u v a2 (λf=>some (.inl f)) λf g c a d e r6 b x=>some (.inr (f,g,c,a,d,e,r6,b,x))) (.inl 0) λg=>smX g (λc=>bif c !=0 then K 0 [] c else none) λa=>bif a.2.2.2.2.2.2.2.2 !=0 then K 0 [] a.2.2.2.2.2.2.2.2 else Qc R (Xk n a.2.2.2.2.2.2.2.1 h i some) λd=>bif d !=0 then K 0 [] d else Qb R a.2.2.2.2.1 λac=>Qc R (XC n a.2.1 a.2.2.1 a.2.2.2.1 ac a.2.2.2.2.2.2.1 i some) λe=>Qc R (Yl n a.2.2.1 a.2.2.2.2.2.1 h some) λr6=>Qc R (Y8 n a.2.2.1 ac e r6 some) λb=>bif b==(-1:Int)then K 0 [] 6 else XP n e a.2.2.1 a.2.2.2.1 ac (λz aa ab y=>K b y 0) n r6 b []
end Go.Vx
namespace Go.Vx
def bgF(X:Cx)(A:LL)(fr:Int)(i:Nat):Y Nat:=(List.range i).filter λj=>bif knd A j == 1 then X.s0 (frm A j).toNat == fr else false
theorem Q6L{X:Cx}{A:LL}{fr:Int}{i j:Nat}:j∈bgF X A fr i↔j<i/\knd A j=1/\X.s0 (frm A j).toNat=fr:=by
 unfold bgF;rw[List.mem_filter,QrG];cases h:(knd A j == 1)with
 |false=>simp at h;simp[h]
 |true=>simp at h;simp[h]
theorem Q2e(X:Cx)(A:LL)(fr:Int)(i:Nat):(bgF X A fr i).length<=i:=by
 unfold bgF;have:=QrR (λj=>bif knd A j == 1 then X.s0 (frm A j).toNat == fr else false) (List.range i);rwa [QrM]at this
theorem Qcf{X:Cx}{A:LL}{fr:Int}{i:Nat}:bgF X A fr (i+1)=bgF X A fr i++(if (bif knd A i == 1 then X.s0 (frm A i).toNat == fr else false)=true then[i]else[]):=by
 unfold bgF;rw[List.range_succ,List.filter_append];congr 1;rw[List.filter_cons];rfl
theorem Q5w{l:Y Nat}{j:Nat}:Kv l++[[.int .i64 (j:Int)]]=Kv (l++[j]):=by simp[Kv,Ql]
namespace Cx
variable{X:Cx} {per:Int} {Ch Sy A:LL} {tl:Y Int} (g:X.Gd per Ch Sy A tl)
include g
theorem Gd.begP{R:Type}{fr:Int}{k0:Int->Bool->LL->oP R}:∀(c m i:Nat),i+c=A.length->c<m->Xb 400 fr A (A.length:Int) (encI ((List.range (2*X.N)).map X.s0)) k0 m (i:Int) (Kv (bgF X A fr i))=k0 (A.length:Int) false (Kv (bgF X A fr A.length))
 |0,m+1,i,hi,_=>by
  obtain rfl:i=A.length:=I
  rw[Xb,Qy,Qra]
 |c+1,m+1,i,hi,hm=>by
  have hA:=g.len;have aa:i<A.length:=I
  have e:=Qre aa;have hr:=Qrf e;obtain⟨kd,f,t,mn,mx,w,er,hf,ht,ak⟩:=g.row hr;have ek:knd A i=kd:=by unfold knd;rw[e,er]
  have ef:frm A i=f:=by unfold frm;rw[e,er]
  have e1:(encI ((List.range (2*X.N)).map X.s0))[f.toNat]? = some [Ql (X.s0 f.toNat)]:=by
   have:=Hg (l:=(List.range (2*X.N)).map X.s0) (i:=f.toNat) (a:=X.s0 f.toNat) (by rw[Qrv,QrH I];rfl);rwa [Qp]at this
  have hb:inB (List.length (encI ((List.range (2*X.N)).map X.s0))) f=some ():=XR hf.1 (by rw[QS];simp;omega);have hl:=Q2e X A fr i;have ih:=begP (k0:=k0) (fr:=fr) c m (i+1) I I;rw[<- ih,Xb,Qt aa,Qrc,Qp,e,er,Qcf,ek,ef];simp -implicitDefEqProofs only[Qh,Qr9,Qrd,Qj,hb,e1,QJ (show i<=1000 by omega),XM (show(List.length (Kv (bgF X A fr i))+List.length [[D.int .i64 (i:Int)]])*8<=100000 by rw[MH];simp;omega),Q5w];cases (bif kd == 1 then X.s0 f.toNat == fr else false)with
  |true=>rfl
  |false=>
   rw[Qra,Qrz (λh=>nomatch h),Qru]
theorem Gd.begQ{R:Type}{fr:Int}(K:LL->oP R):Yl 400 A (encI ((List.range (2*X.N)).map X.s0)) fr K=K (Kv (bgF X A fr A.length)):=
 g.begP (k0:=λb c a=>K a) A.length 400 0 I (by have:=g.len;omega)
def Psg(X:Cx)(A:LL)(l:Y Nat):Prop:=∀j∈l,∃e,j∈lvF A A.length e
theorem Gd.bgPsg{fr:Int}:Psg X A (bgF X A fr A.length):=λj hj=>by
 obtain⟨a,h2,_⟩:=Q6L.1 hj;obtain⟨r,_,_,_,_,_,_,h,_⟩:=g.at a;refine⟨(frm A j).toNat,Q9Y.2 ⟨a,?_⟩⟩;unfold Qbd;rw[h2];simp;omega
omit g in
theorem QhQ{e:Nat}:Psg X A (lvF A A.length e):=λj hj=>⟨e,hj⟩
variable{to:Int} {left:Y Int} (hF:(X.sv per A tl to).Fin left) (hb:∀e,left.getD e 0<=792000)
include hF hb
theorem Gd.restAt{e j:Nat}(hj:j∈lvF A A.length e):Qi (encI left) (tto A j)=some [Ql (left.getD ((X.sv per A tl to).to j) 0)] /\ -1<=left.getD ((X.sv per A tl to).to j) 0/\left.getD ((X.sv per A tl to).to j) 0<=792000:=by
 have hl:left.length=2*X.N:=hF.lf.len;obtain⟨c,d,f,h,a,b,_⟩:=g.use hj (to:=to);refine⟨?_,?_,hb _⟩
 ·rw[<- b,Qp,AC (by rw[hl];exact a)]
 ·have:=hF.lf.nn _ a;omega
theorem Gd.tightP{e j:Nat}(hj:j∈lvF A A.length e)(t:Int):Yx 400 A (A.map λr=>[Ql (XJ tl per r)]) (encI left) (j:Int) t (some:Bool->oP Bool)=some ((X.sv per A tl to).tight left t j):=by
 obtain⟨a,c,d,f,h,i,_⟩:=g.use hj (to:=to);obtain⟨r,q1,k,l,q4,q5,q6,_⟩:=g.at a;obtain⟨b,h2,m⟩:=g.restAt hF hb hj;unfold Yx;rw[Qp,q1,Qh,q6,Qh,Qj,Qh,b,Qh,Qr9,Qh,Qj,Qh,XR I Q3,Qh,Qrb,g.durAt a (to:=to),Qh,Qr9,Qh,Qj,Qh,Qo (x:=(X.sv per A tl to).dur j+left.getD ((X.sv per A tl to).to j) 0) I I];rfl
theorem Gd.least1{nx:Y Nat}(hn:Psg X A nx)(aj:nx.length<=400):∀(ac:Y Nat) (m i:Nat) (best:Int),nx.drop i=ac->ac.length<m->(best = -1\/∃a∈nx,(X.sv per A tl to).tight left best a=true) ->
  ∃b,((b = -1\/∃a∈nx,(X.sv per A tl to).tight left b a=true)/\(best ≠ -1->b ≠ -1/\b<=best)/\∀j∈ac,left.getD ((X.sv per A tl to).to j) 0 ≠ -1->b ≠ -1/\b<=(X.sv per A tl to).dur j+left.getD ((X.sv per A tl to).to j) 0)/\X4 400 (encI left) (Kv nx) (nx.length:Int) (A.map λr=>[Ql (XJ tl per r)]) A (λp t u=>(some p:oP Int)) m best (i:Int)=some b
 |[],m+1,i,best,hd,hm,hv=>by
  have:=Wc hd;refine⟨best,⟨hv,λh=>⟨h,Int.le_refl _⟩,λj hj=>nomatch hj⟩,?_⟩;rw[X4,show decide ((i:Int)<(nx.length:Int))=false by simpa using this,Qra]
 |j::ac,m+1,i,best,hd,hm,hv=>by
  obtain⟨e1,an,am⟩:=Yf hd;rw[QrD]at hm;have ak:=Qrf e1;obtain⟨e,hj⟩:=hn j ak;obtain⟨n,y,z,u4,u5,u6,_⟩:=g.use hj (to:=to);obtain⟨r,q1,q2,q3,q4,q5,q6,_⟩:=g.at n;obtain⟨q,h2,h3⟩:=g.restAt hF hb hj;have s:inB (List.length (A.map λr=>[Ql (XJ tl per r)])) (j:Int)=some ():=XR I Q3;rw[X4,Qt am,Qrc,Q3h e1];simp -implicitDefEqProofs only[Qh,Qr9,Qj,Qp,q1,q6,q,s,Qrb,g.durAt n (to:=to),QJ (show i<=1000 by omega)];rw[Qo (x:=(X.sv per A tl to).dur j+left.getD ((X.sv per A tl to).to j) 0) I I];have ih:=λbest=>least1 hn aj ac m (i+1) best an I
  cases hc:(left.getD ((X.sv per A tl to).to j) 0 == -1)with
  |true=>
   rw[Qrc];obtain⟨b,⟨d,c,f⟩,k⟩:=ih best hv;exact⟨b,⟨d,c,λx hx aa=>by
    rcases QrI.1 hx with rfl | hx
    ·exact absurd (by simpa using hc) aa
    ·exact f x hx aa⟩,k⟩
  |false=>
   rw[Qra];have hc:left.getD ((X.sv per A tl to).to j) 0 ≠ -1:=by simpa using hc
   generalize o:(X.sv per A tl to).dur j+left.getD ((X.sv per A tl to).to j) 0=v at *
   cases hq:(bif best == -1 then true else decide (v<best))with
   |true=>
    rw[Qrc];obtain⟨b,⟨d,c,f⟩,k⟩:=ih v (.inr ⟨j,ak,Sv.tight_iff.2 ⟨hc,o⟩⟩);have c:=c I;refine⟨b,⟨d,λl=>?_,λx hx aa=>?_⟩,k⟩
    ·rw[show(best == -1)=false by simpa using l,Qra]at hq;have:=of_decide_eq_true hq;omega
    ·rcases QrI.1 hx with rfl | hx
     ·rw[o];exact c
     ·exact f x hx aa
   |false=>
    rw[Qra];have l:best ≠ -1:=λh=>by rw[h]at hq;cases hq
    rw[show(best == -1)=false by simpa using l,Qra]at hq;have:=of_decide_eq_false hq;obtain⟨b,⟨d,c,f⟩,k⟩:=ih best hv;have y5:=c l;refine⟨b,⟨d,c,λx hx aa=>?_⟩,k⟩;rcases QrI.1 hx with rfl | hx
    ·omega
    ·exact f x hx aa
theorem Gd.best1{R:Type}{k0:LL->Int->Int->LL->oP R}{k1:Int->Bool->oP R}{nx:Y Nat}(hn:Psg X A nx)(ac:nx.length<=400){jr:Y Nat}(ao:jr.length<=1000){t:Int}(c : -1<=t)(d:t<=1000000){a:Nat}:∀(aa:Y Nat) (m i:Nat),nx.drop i=aa->aa.length<m->aa.find? ((X.sv per A tl to).tight left t)=some a ->
  VG 400 (encI left) t (Kv nx) (nx.length:Int) (Kv jr) A (X.lvs A) (A.map λr=>[Ql (XJ tl per r)]) k0 k1 m (i:Int)=k0 (Kv ((X.sv per A tl to).lv ((X.sv per A tl to).to a))) (t-(X.sv per A tl to).dur a) (a:Int) (Kv (jr++[a]))
 |[],m+1,i,hd,hm,hv=>nomatch hv
 |j::aa,m+1,i,hd,hm,hv=>by
  obtain⟨e1,an,ak⟩:=Yf hd;rw[QrD]at hm;have am:=Qrf e1;obtain⟨e,hj⟩:=hn j am;obtain⟨b,l,n,o,p,q,_⟩:=g.use hj (to:=to);obtain⟨r,q1,s,u,q4,q5,q6,_⟩:=g.at b;rw[VG,Qt ak,Qrc,Q3h e1,Qh,Qr9,Qh,Qj,Qh,g.tightP hF hb hj,Qh];rw[List.find?_cons]at hv;cases hc:(X.sv per A tl to).tight left t j with
  |false=>
   rw[hc]at hv;rw[Qra,QJ I];exact best1 hn ac ao c d aa m (i+1) an I hv
  |true=>
   rw[hc]at hv;obtain rfl:j=a:=by simpa using hv
   have f:inB (List.length (A.map λr=>[Ql (XJ tl per r)])) (j:Int)=some ():=XR I Q3;have h:inB (List.length (X.lvs A)) (tto A j)=some ():=XR I (by rw[Q6n];omega);have k:(X.lvs A)[(tto A j).toNat]? = some [.sl 1 (Kv (lvF A A.length (tto A j).toNat))]:=Q9X I;rw[Qrc];simp -implicitDefEqProofs only[Qh,Qr9,Qj,Qp,q1,q6,f,h,k,X2,Qrb,g.durAt b (to:=to),XM (show(List.length (Kv jr)+List.length [[D.int .i64 (j:Int)]])*8<=100000 by rw[MH];simp;omega),Q5w];rw[Qo (x:=t-(X.sv per A tl to).dur j) I I];rfl
end Cx
namespace Cx
variable{X:Cx} {per:Int} {Ch Sy A:LL} {tl:Y Int} (g:X.Gd per Ch Sy A tl)
section
variable{to:Int} {left:Y Int} (hF:(X.sv per A tl to).Fin left) (hb:∀e,left.getD e 0<=792000)
include g hF hb
theorem Gd.leastP{nx:Y Nat}(hn:Psg X A nx)(ac:nx.length<400):∃b,(b = -1\/∃a∈nx,(X.sv per A tl to).tight left b a=true)/\(∀j∈nx,left.getD ((X.sv per A tl to).to j) 0 ≠ -1->b ≠ -1/\b<=(X.sv per A tl to).dur j+left.getD ((X.sv per A tl to).to j) 0)/\Y8 400 A (A.map λr=>[Ql (XJ tl per r)]) (encI left) (Kv nx) (some:Int->oP Int)=some b:=by
 unfold Y8;rw[MH];obtain⟨b,⟨c,_,h2⟩,d⟩:=g.least1 hF hb hn I nx 400 0 (-1) rfl I (.inl rfl);exact⟨b,c,h2,d⟩
theorem Gd.best2{R:Type}{K0:LL->oP R}:∀(m e:Nat) (j:Y Nat),e<2*X.N->left.getD e 0=0->XP 400 (encI left) A (X.lvs A) (A.map λr=>[Ql (XJ tl per r)]) (λ_ _ _ w=>K0 w) (m+1) (Kv (lvF A A.length e)) (left.getD e 0) (Kv j)=K0 (Kv j):=λm e j he a=>by
 rw[a,XP];rfl
theorem Gd.best3{R:Type}{k0:LL->Int->Bool->LL->oP R}{nx:Y Nat}(hn:Psg X A nx)(ac:nx.length<400){m:Nat}{t:Int}{j:Y Nat}{a:Nat}(b:0<t)(c:t<=1000000)(hj:j.length<=400)(hf:nx.find? ((X.sv per A tl to).tight left t)=some a):XP 400 (encI left) A (X.lvs A) (A.map λr=>[Ql (XJ tl per r)]) k0 (m+1) (Kv nx) t (Kv j)=XP 400 (encI left) A (X.lvs A) (A.map λr=>[Ql (XJ tl per r)]) k0 m (Kv (lvF A A.length ((X.sv per A tl to).to a))) (t-(X.sv per A tl to).dur a) (Kv (j++[a])):=by
 rw[XP,show decide (t>0)=true from Qrk b,Qrc,MH];exact g.best1 hF hb hn I I I c nx 400 0 rfl I hf
theorem Gd.best4{R:Type}{K0:LL->oP R}{nx:Y Nat}(hn:Psg X A nx)(ac:nx.length<400){t:Int}(b:0<t)(ht:∃a∈nx,(X.sv per A tl to).tight left t a=true):∃p,Sv.Way (X.sv per A tl to) left nx t p/\(p≠[]/\p.length<=40)/\XP 400 (encI left) A (X.lvs A) (A.map λr=>[Ql (XJ tl per r)]) (λ_ _ _ w=>K0 w) 400 (Kv nx) t (Kv [])=K0 (Kv p):=by
 have hN:X.N<=6:=base_le g.ok;have hA:=g.len;obtain⟨x,hx,aj⟩:=ht;cases hf:nx.find? ((X.sv per A tl to).tight left t)with
 |none=>exact absurd aj (List.find?_eq_none.1 hf x hx)
 |some a=>
  have hm:=QrJ hf;have ai:=List.find?_some hf;obtain⟨b1,b2⟩:=Sv.tight_iff.1 ai;obtain⟨e,ak⟩:=hn a hm;obtain⟨d,f,i,k,c,l,_⟩:=g.use ak (to:=to);have au:=hb ((X.sv per A tl to).to a);have am:=Sv.cnt_le (S:=X.sv per A tl to) (left:=left) (t:=left.getD ((X.sv per A tl to).to a) 0);have ar:(X.sv per A tl to).n=2*X.N:=rfl;obtain⟨p,hp,an,hq⟩:=Sv.way_loop hF (g.alt (to:=to)) (B:=400)
   (r:=λm t nx j=>XP 400 (encI left) A (X.lvs A) (A.map λr=>[Ql (XJ tl per r)]) (λ_ _ _ w=>K0 w) m (Kv nx) t (Kv j)) (K:=λj=>K0 (Kv j))
   (λm e j he h=>g.best2 hF hb m e j he h)
   (λm e j a he h hj hf=>g.best3 hF hb QhQ (QrP (Q3y A A.length e) hA) h (by have:=hb e;omega) I hf)
   30 399 ((X.sv per A tl to).to a) [a] c (by split<;>omega) I Q2 b1
  refine⟨a::p,⟨b,hm,ai,?_⟩,⟨by simp,by simp;omega⟩,?_⟩
  ·rw[show t-(X.sv per A tl to).dur a=left.getD ((X.sv per A tl to).to a) 0 by omega];exact hp
  ·rw[g.best3 hF hb hn ac b I Q2 hf,show t-(X.sv per A tl to).dur a=left.getD ((X.sv per A tl to).to a) 0 by omega];exact hq
end
end Cx
end Go.Vx
namespace Go.Vx
variable{R:Type} (n:Nat)
end Go.Vx
namespace Go.Vx
namespace Cx
variable{X:Cx} {per:Int} {Ch Sy A:LL} {tl:Y Int}
section
variable(g:X.Gd per Ch Sy A tl) {a0 a1 a3 a5:LL} {b:LL} {c d f:LL} (hbd:Zw 400 a0 a1 X.G.Se a3 per a5 X.Ro X.Ls b c d f Tu4=some (per,X.evs X.L,A,0)) (hfe:XQ 400 per (X.evs X.L) A (encI tl) (some:Bool->oP Bool)=some true)
structure Leg(X:Cx)(per:Int)(A:LL)(tl:List Int)(fr to:Int)(left:List Int)(b:Int):Prop where
 fin:(X.sv per A tl to).Fin left
 le:∀e,left.getD e 0<=792000
 rem:XC 400 (X.evs X.L) A (X.lvs A) (A.map λr=>[Ql (XJ tl per r)]) (encI ((List.range (2*X.N)).map X.s1)) to some=some (encI left)
 beg:Yl 400 A (encI ((List.range (2*X.N)).map X.s0)) fr some=some (Kv (bgF X A fr A.length))
 lst:Y8 400 A (A.map λr=>[Ql (XJ tl per r)]) (encI left) (Kv (bgF X A fr A.length)) (some:Int->oP Int)=some b
 lea:∀j∈bgF X A fr A.length,left.getD ((X.sv per A tl to).to j) 0 ≠ -1->b ≠ -1/\b<=(X.sv per A tl to).dur j+left.getD ((X.sv per A tl to).to j) 0
 sgn:b = -1\/0<b/\∃a∈bgF X A fr A.length,(X.sv per A tl to).tight left b a=true
include g
theorem Gd.leg(fr to:Int):∃left b,X.Leg per A tl fr to left b:=by
 obtain⟨left,c,h2,d⟩:=g.remP to;have hA:=g.len;obtain⟨b,f,h6,h5⟩:=g.leastP c h2 (g.bgPsg (fr:=fr)) (QrP (Q2e X A fr A.length) hA);refine⟨left,b,c,h2,d,g.begQ some,h5,h6,f.imp id λ⟨a,ha,ht⟩=>⟨?_,a,ha,ht⟩⟩;obtain⟨b1,b2⟩:=Sv.tight_iff.1 ht;obtain⟨e,aa⟩:=g.bgPsg a ha;obtain⟨i,j,k,l,h,m,n⟩:=g.use aa (to:=to);have hk:=(Q6L.1 ha).2.1;have:=c.lf.nn _ h;omega
include hbd hfe
theorem Gd.bestP{fr to:Int}(k:0<=fr)(l:fr<(a0.length:Nat))(t0:0<=to)(t1:to<(a0.length:Nat))(ft:fr≠to){left:Y Int}{b':Int}(h:X.Leg per A tl fr to left b') :
  b' = -1/\We 400 a0 a1 X.G.Se a3 per a5 X.Ro X.Ls b c d f (encI tl) fr to Tu3=some (0,[],6) \/
   0<b'/\∃p,Sv.Way (X.sv per A tl to) left (bgF X A fr A.length) b' p/\(p≠[]/\p.length<=40)/\We 400 a0 a1 X.G.Se a3 per a5 X.Ro X.Ls b c d f (encI tl) fr to Tu3=some (b',Kv p,0):=by
 have hA:=g.len;have hc:Xk 400 (a0.length:Int) fr to (some:Int->oP Int)=some 0:=by
  unfold Xk;rw[Qri I,Qri I,Qri I,Qri I,show(fr == to)=false by simpa using ft];rfl
 have hb:∀x,We 400 a0 a1 X.G.Se a3 per a5 X.Ro X.Ls b c d f (encI tl) fr to Tu3=x↔(bif (b' == (-1:Int))then some ((0:Int),[],(6:Int))else XP 400 (encI left) A (X.lvs A) (A.map λr=>[Ql (XJ tl per r)]) (λm n o a=>some (b',a,(0:Int))) 400 (Kv (bgF X A fr A.length)) b' [])=x:=λx=>by
  unfold We;rw[g.svcP hbd hfe,Qh];dsimp only[smX];rw[bne_self_eq_false,Qra,hc,Qh,bne_self_eq_false,Qra,h.rem,Qh,h.beg,Qh,h.lst,Qh]
 rcases h.sgn with e | ⟨e,ht⟩
 ·refine .inl ⟨e,(hb _).2 ?_⟩;rw[e];rfl
 ·refine .inr ⟨e,?_⟩;obtain⟨p,i,h2,j⟩:=g.best4 h.fin h.le (K0:=λw=>some (b',w,(0:Int))) (g.bgPsg (fr:=fr)) (QrP (Q2e X A fr A.length) hA) e ht;refine⟨p,i,h2,(hb _).2 ?_⟩;rw[show(b' == (-1:Int))=false by simp;omega,Qra];exact j
end
end Cx
end Go.Vx
namespace Go.Vx
variable{R:Type} (n:Nat)
def Ha(K:QlN R):oP R:=gb true (FW n Tu12) ([],[],[],[],0,[],[],[],[],[],[],[]) λa=>Qb R a.2.2.2.2.2.2.2.2.2.2.2 λg=>Qb R a.2.2.2.2.2.2.2.2.2.2.1 λh=>Qb R a.2.2.2.2.2.2.2.2.2.1 λi=>Qb R a.2.2.2.2.2.2.2.2.1 λj=>Qb R a.2.2.2.2.2.2.2.1 λk=>Qb R a.2.2.2.2.2.2.1 λl=>Qb R a.2.2.2.2.2.1 λo=>Qb R a.2.2.2.2.1 λp=>Qb R a.2.2.2.1 λq=>gb true (Vm n a.1 a.2.1 a.2.2.1 q p o l k j i h g (some (.inl ())) λb=>some (.inr b)) (.inl ()) λc=>smX c (λf=>gb true (We n a.1 a.2.1 a.2.2.1 q p o l k j i h g [] 2 0 Tu3) (0,[],0) λd=>K (d.2.2==6)) λe=>gb true (We n a.1 a.2.1 a.2.2.1 q p o l k j i h g e 2 0 Tu3) (0,[],0) λr6=>K (r6.2.2==6)
end Go.Vx
namespace Go.Vx
namespace Cx
variable{X:Cx} {per:Int} {Ch Sy A:LL} {tl:Y Int}
section
variable(g:X.Gd per Ch Sy A tl) {a0 a1 a3 a5:LL} {b:LL} {c d f:LL} (hbd:Zw 400 a0 a1 X.G.Se a3 per a5 X.Ro X.Ls b c d f Tu4=some (per,X.evs X.L,A,0)) (hfe:XQ 400 per (X.evs X.L) A (encI tl) (some:Bool->oP Bool)=some true) (hD:∀row∈f,Qh0 a0.length row)
include g hbd hfe hD
end
end Cx
theorem Qdi:Ha 410 (some:Bool->oP Bool)=some true:=by kernel_rfl
section
variable{n:Nat} {a0 a1 a2 a3:LL} {p:Int} {b1 b2 b3 b4 b5 b6 b7:LL}
theorem Q9c{q:Int}{E A:LL}{e:Int}(hb:UA n a0 a1 a2 a3 p b1 b2 b3 b4 b5 b6 b7 Tu4=some (q,E,A,e))(h:e≠0\/∃us f,Zt n q E A 4000 (λa b=>some (.inl (a,b))) (λa b c=>some (.inr (a,b,c)))=some (.inl (us,f):(Int×Int) ⊕ (LL×Int×Int))) :
  Vm n a0 a1 a2 a3 p b1 b2 b3 b4 b5 b6 b7 (some (.inl ())) (λa=>some (.inr a))=some (.inl ():Unit ⊕ LL):=by
 unfold Vm;rw[hb,Qh];dsimp only;rcases h with h | ⟨us,f,h⟩
 ·rw[show(e != 0)=true by simpa using h,Qrc]
 ·cases he:(e != 0)with
  |true=>rfl
  |false=>rw[Qra,h];rfl
theorem QhV{q:Int}{E A:LL}{v:LL}{us:Int}(hb:UA n a0 a1 a2 a3 p b1 b2 b3 b4 b5 b6 b7 Tu4=some (q,E,A,0))(h:Zt n q E A 4000 (λa b=>some (.inl (a,b))) (λa b c=>some (.inr (a,b,c)))=some (.inr (v,us,0):(Int×Int) ⊕ (LL×Int×Int))) :
  Vm n a0 a1 a2 a3 p b1 b2 b3 b4 b5 b6 b7 (some (.inl ())) (λa=>some (.inr a))=some (.inr v:Unit ⊕ LL):=by
 unfold Vm;rw[hb,Qh];dsimp only;rw[bne_self_eq_false,Qra,h];rfl
end
theorem Qeh{per:Int}{E A:LL}(p0:2<=per)(p1:per<=300)(hE:E.length<=48)(aa:A.length<=512)(aj:0<E.length)(hr:∀r∈A,R6 r)(hA:A.length<400):XQ 400 per E A [] (some:Bool->oP Bool)=some false:=by
 have hg:=(QeD p0 p1 hE aa hr hA (tl:=[])).1;have hb:Q3O per E A []=false:=by
  unfold Q3O;rw[show(((([]:Y Int).length:Nat):Int) != (E.length:Int))=true by simp;omega];cases A.all (chk per E.length)<;>rfl
 rw[hb]at hg;unfold XQ GB;rw[show([]:LL)=encI []from rfl,hg];rfl
theorem Qk1{n:Nat}{a0 a1 a2 a3:LL}{p:Int}{b1 b2 b3 b4 b5 b6 b7:LL}{q:Int}{E A:LL}{e:Int}(hb:Zw n a0 a1 a2 a3 p b1 b2 b3 b4 b5 b6 b7 Tu4=some (q,E,A,e))(h:e≠0\/XQ n q E A [] (some:Bool->oP Bool)=some false) :
  ∃e:Int,e≠0/\∀(R:Type) (KA:Int->oP R) KB,XZ n a0 a1 a2 a3 p b1 b2 b3 b4 b5 b6 b7 [] KA KB=KA e:=by
 by_cases he:e=0
 ·subst he;refine⟨1,by decide,λR KA KB=>?_⟩;unfold XZ;rw[hb,Qh,bne_self_eq_false,Qra,h.resolve_left (λh=>h rfl),Qh];rfl
 ·refine⟨e,he,λR KA KB=>?_⟩;unfold XZ;rw[hb,Qh,show(e != 0)=true by simpa using he,Qrc]
theorem QiK{l:Y Int}(hl:l.length<=9223372036854775807):∃(X:Cx) (per:Int) (Ch Sy De:LL),X.OK/\(∀row∈De,Qh0 X.G.St.length row)/\De.length<=2/\2<=X.G.St.length/\X.G.St.length<=3 /\
  SK 400 (encI l) Tu12=some (X.G.St,X.G.Pt,X.G.Se,X.G.Li,per,X.skR,X.Ro,X.Ls,Ch,X.T.map tuR,Sy,De) /\
  (Vm 400 X.G.St X.G.Pt X.G.Se X.G.Li per X.skR X.Ro X.Ls Ch (X.T.map tuR) Sy De (some (.inl ())) (λa=>some (.inr a))=some (.inl ():Unit ⊕ LL)/\(∃e:Int,e≠0/\∀(R:Type) (KA:Int->oP R) KB,XZ 400 X.G.St X.G.Pt X.G.Se X.G.Li per X.skR X.Ro X.Ls Ch (X.T.map tuR) Sy De [] KA KB=KA e)/\(∃v,UA 400 X.G.St X.G.Pt X.G.Se X.G.Li per X.skR X.Ro X.Ls Ch (X.T.map tuR) Sy De Tu4=some v) \/
   ∃(A:LL) (tl:Y Int),Vm 400 X.G.St X.G.Pt X.G.Se X.G.Li per X.skR X.Ro X.Ls Ch (X.T.map tuR) Sy De (some (.inl ())) (λa=>some (.inr a))=some (.inr (encI tl):Unit ⊕ LL)/\tl≠[]/\X.Gd per Ch Sy A tl /\
    Zw 400 X.G.St X.G.Pt X.G.Se X.G.Li per X.skR X.Ro X.Ls Ch (X.T.map tuR) Sy De Tu4=some (per,X.evs X.L,A,0) /\
    UA 400 X.G.St X.G.Pt X.G.Se X.G.Li per X.skR X.Ro X.Ls Ch (X.T.map tuR) Sy De Tu4=some (per,X.evs X.L,A,0) /\
    XQ 400 per (X.evs X.L) A (encI tl) (some:Bool->oP Bool)=some true/\Gk 400 per (X.evs X.L) A (encI tl) (some:Bool->oP Bool)=some true/\Fs per tl A):=by
 have hp:SK 400 (encI l) Tu12∈(λr=>∃(G:Geo) (per:Int) (Sk Ro Ls Ch Tu Sy De:LL),PlanR G per Sk Ro Ls Ch Tu Sy De/\r=(G.St,G.Pt,G.Se,G.Li,per,Sk,Ro,Ls,Ch,Tu,Sy,De)):=Qjj hl λG per Sk Ro Ls Ch Tu Sy De h=>okI ⟨G,per,Sk,Ro,Ls,Ch,Tu,Sy,De,h,rfl⟩
 obtain⟨_,hp,G,per,Sk,Ro,Ls,Ch,Tu,Sy,De,hR,rfl⟩:=hp;obtain⟨X,h,rfl,rfl,rfl,rfl,rfl⟩:=hR.cx;have aj:=hR.lsOK;have p0:2<=per:=by have:=hR.p0;omega
 have p1:=hR.p1;have hc:Js 400 X.G.St X.G.Pt X.G.Se X.G.Li per X.skR X.Ro X.Ls Ch (X.T.map tuR) Sy De (some:Int->oP Int)=some 0:=Qei hR some;have x:Wl 400 X.G.St X.G.Pt X.G.Se X.G.Li per X.skR X.Ro X.Ls Ch (X.T.map tuR) Sy De (some:Int->oP Int)=some 0:=Qj2 hR;have hN:X.N<=6:=Cx.base_le h;have am:=Cx.buildP h aj p0 p1 hc;have aa:=Cx.buildR h aj p0 p1 x;have az:=hR.ok.st;have y:=hR.ok.hN;refine⟨X,per,Ch,Sy,De,h,by rw[az];exact hR.de,hR.del,I,I,hp,?_⟩;cases ev:X.netV per X.jns Ch Sy with
 |mk q r=>
 obtain⟨E,A,e⟩:=r;rw[ev]at am aa;by_cases he:e=0
 rotate_left
 ·exact .inl ⟨Q9c aa (.inl he),Qk1 am (.inl he),_,aa⟩
 subst he;unfold Cx.netV at ev;cases ha:X.aloneJ per X.jns with
 |false=>
  rw[ha]at ev;cases ev
 |true=>
  rw[ha,Qrc]at ev;cases eh:X.hdws per X.jns X.N 0 with
  |none=>
   rw[eh]at ev;cases ev
  |some H=>
   rw[eh]at ev;cases ev;have hH:=Cx.hdws_rows eh;have a7:=Cx.planned_len h aj;have a6:=Cx.hdws_len h p0 p1 I eh;have hA:(X.planned Ch Sy++H).length<400:=by rw[QrA];omega
   have ai:(X.evs X.L).length=2*X.N:=Cx.evs_len;have hE:(X.evs X.L).length<=48:=I
   have f:∀r∈X.planned Ch Sy++H,R6 r:=λr hr=>Cx.act_r6 h aj hH hr
   have a8:1<=X.N:=by
    have l0:=h.l0;have hn:=(Cx.line h (i:=0) I).2.1;have hb:=TR (nr:=X.nr) (i:=0) (j:=X.L) (show 0<X.L by unfold Cx.L;omega);show 1<=base X.nr X.L;omega
   have ar:=Qk1 am (.inr (Qeh p0 p1 hE I I f hA));have an:=Qdu p0 p1 hE I f hA;cases ac:(X.planned Ch Sy++H).all (chk per (X.evs X.L).length)with
   |false=>
    rw[ac]at an;exact .inl ⟨Q9c aa (.inr (Qge an)),ar,_,aa⟩
   |true=>
    rw[ac]at an;have ak:=List.all_eq_true.1 ac;rcases Qis p0 p1 hE hA f ak rfl an with hf | ⟨v,us,hf,hT,hF⟩
    ·exact .inl ⟨Q9c aa (.inr hf),ar,_,aa⟩
    ·refine .inr ⟨_,v,QhV aa hf,?_,?_,am,aa,?_⟩
     ·intro hv;have u:=hT.1;rw[ai,hv]at u;have u:0=2*X.N:=u;omega
     ·exact⟨h,aj,p0,p1,⟨H,rfl,hH⟩,hA,by rw[hT.1,ai],hT.2,λr hr=>by have:=ak r hr;rw[ai]at this;exact this⟩
     ·have hg:=QeD p0 p1 hE I f hA (tl:=v);rw[Qc3 ac hT]at hg;have g:X.Gd per Ch Sy (X.planned Ch Sy++H) v:=⟨h,aj,p0,p1,⟨H,rfl,hH⟩,hA,by rw[hT.1,ai],hT.2,λr hr=>by have:=ak r hr;rw[ai]at this;exact this⟩;exact⟨g.feas ai (hF.fs' f ak) hg.1,hg.2,hF.fs' f ak⟩
theorem QeG{A B C:Type}(a:A)(f:A->C)(g:B->C):smX (.inl a) f g=f a:=rfl
theorem Q5E{A B C:Type}(b:B)(f:A->C)(g:B->C):smX (.inr b) f g=g b:=rfl
namespace Cx
variable{X:Cx} {per:Int} {Ch Sy A:LL} {tl:Y Int}
end Cx
def Kn(f:Int->Bool):Prop:=∀k x,PM f k=some x->1<=x/\x<=1048576
theorem Kn.set{f:Int->Bool}(h:Kn f){k v:Int}(a:1<=v)(b:v<=1048576):Kn (Da f k v):=λn x hx=>by
 rw[AT]at hx;split at hx
 ·injection hx with hx;omega
 ·exact h n x hx
theorem Qkt{a b:Int}(a0:0<=a)(a1:a<=1048576)(b0:1<=b)(b1:b<=1048576):∃c,(if (1048576:Int)<wJ (a+b)then(1048576:Int)else wJ (a+b))=c/\1<=c/\c<=1048576:=by
 rw[Qo (x:=a+b) I I];split
 ·exact⟨_,rfl,I,I⟩
 ·exact⟨_,rfl,I,I⟩
namespace Cx
variable{X:Cx} {per:Int} {Ch Sy A:LL} {tl:Y Int} (g:X.Gd per Ch Sy A tl) {to:Int} {left:Y Int} (hF:(X.sv per A tl to).Fin left) (hb:∀e,left.getD e 0<=792000)
def msr(X:Cx)(per:Int)(A:LL)(tl:Y Int)(to:Int)(left:Y Int)(e:Nat):Nat:=2*(X.sv per A tl to).cnt left (left.getD e 0)+(if e % 2=1 then 1 else 0)
include g hF hb
theorem Gd.nearer{e j:Nat}(he:e<2*X.N)(hj:j∈lvF A A.length e)(ht:(X.sv per A tl to).tight left (left.getD e 0) j=true):X.msr per A tl to left ((X.sv per A tl to).to j)<X.msr per A tl to left e:=by
 obtain⟨b1,b2⟩:=Sv.tight_iff.1 ht;obtain⟨d,f,h,i,b,k,c⟩:=g.use hj (to:=to);unfold msr;rcases c with⟨_,a,h2,l⟩|⟨_,a,h2⟩
 ·have:=Sv.cnt_lt (S:=X.sv per A tl to) (left:=left) (show left.getD ((X.sv per A tl to).to j) 0<left.getD e 0 by omega) b rfl b1;rw[Qrx h2,Qrz I];omega
 ·have:=Sv.cnt_mono (S:=X.sv per A tl to) (left:=left) (show left.getD ((X.sv per A tl to).to j) 0<=left.getD e 0 by omega);rw[Qrz I,Qrx a];omega
theorem Gd.tie1{nst:Int}{Fr:LL->Int->Int->LL->LL->LL->LL->LL->LL->Int->LL->(Int->Bool)->Int->oP (Int×Int×LL×LL×LL×LL×LL×LL×Int×LL×Int×(Int->Bool))}{c:Nat}(am:∀e f,e<2*X.N->X.msr per A tl to left e<c->Kn f->0<left.getD e 0->∃s f',Fr (Kv (lvF A A.length e)) (left.getD e 0) per (X.evs X.L) A (X.lvs A) (A.map λr=>[Ql (XJ tl per r)]) (encI ((List.range (2*X.N)).map X.s0)) (encI ((List.range (2*X.N)).map X.s1)) nst (encI left) f to =
   some (s,per,X.evs X.L,A,X.lvs A,A.map (λr=>[Ql (XJ tl per r)]),encI ((List.range (2*X.N)).map X.s0),encI ((List.range (2*X.N)).map X.s1),nst,encI left,to,f')/\Kn f'/\1<=s/\s<=1048576){R:Type}{k0:Int->Int->Bool->LL->LL->LL->LL->Int->LL->LL->Int->LL->(Int->Bool)->Int->oP R}{nx:Y Nat}(hn:Psg X A nx)(an:nx.length<=400){t:Int}(hm:∀j∈nx,(X.sv per A tl to).tight left t j=true->X.msr per A tl to left ((X.sv per A tl to).to j)<c) :
  ∀(aa:Y Nat) (i m:Nat) (s:Int) (f:Int->Bool),nx.drop i=aa->i<=nx.length->aa.length<m->Kn f->0<=s->s<=1048576 ->
   ∃s' f',Kn f'/\0<=s'/\s'<=1048576/\(1<=s\/(∃j∈aa,(X.sv per A tl to).tight left t j=true)->1<=s') /\
    QI 400 Fr t (Kv nx) (nx.length:Int) k0 m s (i:Int) (X.lvs A) (A.map λr=>[Ql (XJ tl per r)]) (encI ((List.range (2*X.N)).map X.s0)) (encI ((List.range (2*X.N)).map X.s1)) per (X.evs X.L) A nst (encI left) f to =
     k0 s' (nx.length:Int) false (X.lvs A) (A.map λr=>[Ql (XJ tl per r)]) (encI ((List.range (2*X.N)).map X.s0)) (encI ((List.range (2*X.N)).map X.s1)) per (X.evs X.L) A nst (encI left) f' to
 |[],i,m+1,s,f,hd,a3,ar,hk,s0,s1=>by
  have:=Wc hd;obtain rfl:i=nx.length:=I
  refine⟨s,f,hk,s0,s1,λh=>h.elim id (λ⟨j,hj,_⟩=>nomatch hj),?_⟩;rw[QI,Qy,Qra]
 |j::aa,i,m+1,s,f,hd,a3,ar,hk,s0,s1=>by
  obtain⟨e1,az,ay⟩:=Yf hd;rw[QrD]at ar;have ao:=Qrf e1;obtain⟨e,hj⟩:=hn j ao;obtain⟨n,u2,u3,u4,a,o,u7⟩:=g.use hj (to:=to);obtain⟨r,q1,q2,q3,q4,q5,q6,q7,q8,_⟩:=g.at n;have ih:=λ(s:Int) (f:Int->Bool)=>tie1 am (k0:=k0) hn an hm aa (i+1) m s f az I I
  rw[QI,Qt ay,Qrc,Q3h e1,Qh,Qr9,Qh,Qj,Qh,g.tightP hF hb hj,Qh,QJ I];cases ht:(X.sv per A tl to).tight left t j with
  |false=>
   obtain⟨s',f',b,h2,d,k,h5⟩:=ih s f hk s0 s1;refine⟨s',f',b,h2,d,λh=>k (h.imp id λ⟨x,hx,ak⟩=>?_),h5⟩;rcases QrI.1 hx with rfl | hx
   ·rw[ht]at ak;cases ak
   ·exact⟨x,hx,ak⟩
  |true=>
   obtain⟨b1,b2⟩:=Sv.tight_iff.1 ht;have a2:=hm j ao ht;have fin:∀(x:Int) (f:Int->Bool),1<=x->x<=1048576->Kn f->∃s' f',Kn f'/\0<=s'/\s'<=1048576/\(1<=s\/(∃y∈j::aa,(X.sv per A tl to).tight left t y=true)->1<=s') /\
     QI 400 Fr t (Kv nx) (nx.length:Int) k0 m (if (1048576:Int)<wJ (s+x)then(1048576:Int)else wJ (s+x)) ((i+1:Nat):Int) (X.lvs A) (A.map λr=>[Ql (XJ tl per r)]) (encI ((List.range (2*X.N)).map X.s0)) (encI ((List.range (2*X.N)).map X.s1)) per (X.evs X.L) A nst (encI left) f to =
      k0 s' (nx.length:Int) false (X.lvs A) (A.map λr=>[Ql (XJ tl per r)]) (encI ((List.range (2*X.N)).map X.s0)) (encI ((List.range (2*X.N)).map X.s1)) per (X.evs X.L) A nst (encI left) f' to:=λx f p q hk=>by
    obtain⟨c',l,b,h2⟩:=Qkt s0 s1 p q;rw[l];obtain⟨s',f',g1,u,v,z,g5⟩:=ih c' f hk I h2;exact⟨s',f',g1,u,v,λ_=>z (.inl b),g5⟩
   rw[Qrn,Qra,Qp,q1,Qh,q6,Qh,Qj,Qh];dsimp only[jn];cases hq:PM f (tto A j)with
   |some x=>
    have hx:=hk _ _ hq;exact fin x f hx.1 hx.2 hk
   |none=>
    have aw:=g.endsP (to:=to) a;rw[o]at aw;rw[show(!(none:oP Int).isSome)=true from rfl,Qrc,aw,Qh];cases he:(X.sv per A tl to).en ((X.sv per A tl to).to j)with
    |true=>
     exact fin 1 _ I I (hk.set I I)
    |false=>
     have a6:=hF.lf.nn _ a;have au:0<left.getD ((X.sv per A tl to).to j) 0:=by
      rcases a6 with h | h
      ·exact absurd h b1
      ·by_cases l:left.getD ((X.sv per A tl to).to j) 0=0
       ·have:=hF.zero (g.alt (to:=to)) a l;rw[he]at this;cases this
       ·omega
     obtain⟨sv,f',b,h2,d,k⟩:=am _ f a a2 hk au;have a8:(tto A j).toNat=(X.sv per A tl to).to j:=rfl;have a4:inB (List.length (X.lvs A)) (tto A j)=some ():=XR I (by rw[Q6n];omega);have a5:(X.lvs A)[(tto A j).toNat]? = some [.sl 1 (Kv (lvF A A.length ((X.sv per A tl to).to j)))]:=Q9X a;rw[QrC,Qrc,a4,Qh,a5,Qh,Qr9,Qh,X2,Qh,(g.restAt hF hb hj).1,Qh,Qr9,Qh,Qj,Qh,b,Qh];exact fin sv _ d k (h2.set d k)
theorem Gd.tieF{nst:Int}:∀(c d:Nat) (nx:Y Nat) (t:Int) (f:Int->Bool),c<d->Psg X A nx->nx.length<400->(∀j∈nx,(X.sv per A tl to).tight left t j=true->X.msr per A tl to left ((X.sv per A tl to).to j)<c)->Kn f->(∃j∈nx,(X.sv per A tl to).tight left t j=true) ->
  ∃s f',X8 400 d (Kv nx) t per (X.evs X.L) A (X.lvs A) (A.map λr=>[Ql (XJ tl per r)]) (encI ((List.range (2*X.N)).map X.s0)) (encI ((List.range (2*X.N)).map X.s1)) nst (encI left) f to =
   some (s,per,X.evs X.L,A,X.lvs A,A.map (λr=>[Ql (XJ tl per r)]),encI ((List.range (2*X.N)).map X.s0),encI ((List.range (2*X.N)).map X.s1),nst,encI left,to,f')/\Kn f'/\1<=s/\s<=1048576
 |c,0,nx,t,f,hd,_,_,_,_,_=>by omega
 |0,d+1,nx,t,f,hd,_,_,hm,_,⟨j,hj,ht⟩=>absurd (hm j hj ht) (Nat.not_lt_zero _)
 |c+1,d+1,nx,t,f,hd,hn,hl,hm,hk,hex=>by
  rw[X8,J7,MH];have hA:=g.len;obtain⟨s',f',b,h2,h,i,h5⟩:=g.tie1 hF hb (nst:=nst) (Fr:=X8 400 d) (c:=c+1) (λe f he ar am hp=>by
   obtain⟨_,a,ha,ak⟩:=hF.next he rfl hp
   exact tieF c d (lvF A A.length e) (left.getD e 0) f I QhQ (QrP (Q3y A A.length e) hA) (λj hj aj=>by have:=g.nearer hF hb he hj aj;omega) am ⟨a,ha,ak⟩)
   (k0:=λk aa ab l m n o p q u v x y z=>some (k,p,q,u,l,m,n,o,v,x,z,y)) hn I hm nx 0 400 0 f rfl I I hk I I
  exact⟨s',f',h5,b,i (.inr hex),h⟩
end Cx
end Go.Vx
namespace Go.Vx
variable{R:Type} (n:Nat)
def Vz(k l m o:LL)(p:Int)(q r s t u v x a2:LL)(i e:Int)(K:QlP R):oP R:=gb true (XZ n k l m o p q r s t u v x a2 (λf=>some (.inl f)) λf g j a b c r6 d h=>some (.inr (f,g,j,a,b,c,r6,d,h))) (.inl 0) λg=>smX g (λj=>none) λa=>bif a.2.2.2.2.2.2.2.2 !=0 then K 0 a.2.2.2.2.2.2.2.2 else Qc R (Xk n a.2.2.2.2.2.2.2.1 i e some) λb=>bif b !=0 then K 0 b else Qb R a.2.2.2.2.1 λy=>Qb R a.2.2.1 λz=>Qc R (XC n a.2.1 z a.2.2.2.1 y a.2.2.2.2.2.2.1 e some) λc=>Qc R (Yl n z a.2.2.2.2.2.1 i some) λr6=>Qc R (Y8 n z y c r6 some) λd=>bif d==(-1:Int)then K 0 6 else gb true (X8 n n r6 d a.1 a.2.1 z a.2.2.2.1 y a.2.2.2.2.2.1 a.2.2.2.2.2.2.1 a.2.2.2.2.2.2.2.1 c (λ_=>false) e) (0,0,[],[],[],[],[],[],0,[],0,λ_=>false) λh=>K h.1 0
end Go.Vx
namespace Go.Vx
namespace Cx
variable{X:Cx} {per:Int} {Ch Sy A:LL} {tl tl':Y Int}
theorem Gd.shift(g:X.Gd per Ch Sy A tl){v:Int}:X.Gd per Ch Sy A (tl.map λx=>(x+v) % per) where
 ok:=g.ok
 ls:=g.ls
 p0:=g.p0
 p1:=g.p1
 act:=g.act
 len:=g.len
 tlen:=by rw[Qrg];exact g.tlen
 tr:=λx hx=>by
  obtain⟨y,_,rfl⟩:=Qrs.1 hx;have:=g.p0;exact⟨Qrt _ I,Qrq _ I⟩
 ck:=g.ck
section
variable(g:X.Gd per Ch Sy A tl) {a0 a1 a3 a5:LL} {b:LL} {c d f:LL} (hbd:Zw 400 a0 a1 X.G.Se a3 per a5 X.Ro X.Ls b c d f Tu4=some (per,X.evs X.L,A,0)) (hfe:XQ 400 per (X.evs X.L) A (encI tl) (some:Bool->oP Bool)=some true)
include g hbd hfe
theorem Gd.tiesP{fr to:Int}{left:Y Int}{b':Int}(h:X.Leg per A tl fr to left b')(hc:Xk 400 (a0.length:Int) fr to (some:Int->oP Int)=some 0) :
  b' = -1/\Vz 400 a0 a1 X.G.Se a3 per a5 X.Ro X.Ls b c d f (encI tl) fr to Tu2=some (0,6) \/
   0<b'/\∃k,1<=k/\Vz 400 a0 a1 X.G.Se a3 per a5 X.Ro X.Ls b c d f (encI tl) fr to Tu2=some (k,0):=by
 have hA:=g.len;have hN:X.N<=6:=base_le g.ok;rcases h.sgn with e | ⟨e,ht⟩
 ·refine .inl ⟨e,?_⟩;unfold Vz;rw[g.svcP hbd hfe,Qh,Q5E];dsimp only;rw[bne_self_eq_false,Qra,hc,Qh,bne_self_eq_false,Qra,h.rem,Qh,h.beg,Qh,h.lst,Qh,e];rfl
 ·obtain⟨s,f',a,h2,i,l⟩:=g.tieF h.fin h.le (nst:=(a0.length:Int)) 30 400 (bgF X A fr A.length) b' (λ_=>false) I g.bgPsg (QrP (Q2e X A fr A.length) hA) (λj hj aa=>by
   have:=Sv.cnt_le (S:=X.sv per A tl to) (left:=left) (t:=left.getD ((X.sv per A tl to).to j) 0);have hn:(X.sv per A tl to).n=2*X.N:=rfl;unfold msr;split<;>omega) (λk x hx=>by rw[Q1g]at hx;cases hx) ht
  refine .inr ⟨e,s,i,?_⟩;unfold Vz;rw[g.svcP hbd hfe,Qh,Q5E];dsimp only;rw[bne_self_eq_false,Qra,hc,Qh,bne_self_eq_false,Qra,h.rem,Qh,h.beg,Qh,h.lst,Qh,show(b' == (-1:Int))=false by simp;omega,Qra,a,Qh]
end
end Cx
end Go.Vx
namespace Go.Vx
variable{R:Type} (n:Nat)
end Go.Vx
namespace Go.Vx
namespace Cx
variable{X:Cx} {per:Int} {Ch Sy A:LL} {tl:Y Int}
theorem rtP(h:X.OK){e l k:Nat}(b:l<X.L)(h2:k<X.nr l)(a:∃x,(X.evs X.L)[e]? = some [x,Ql l,Ql k]){p:Int}{q1 q4 q5 q6 q7:LL} :
  XG 400 p q1 X.Ro X.Ls q4 q5 q6 q7 (l:Int) (k:Int) Tu2=some (.sl 2 (X.st l k),.int .i64 0) /\
  (∃(x:Int) (r:Y D),VO 400 (X.st l k) 0 some=some x/\Qi X.G.Se x=some r/\r[4]? = some (.int .i64 (X.s0 e))) /\
  ∃(x:Int) (r:Y D),JI 400 (X.st l k) 0 some=some x/\Qi X.G.Se x=some r/\r[4]? = some (.int .i64 (X.s1 e)):=by
 obtain⟨ev,a⟩:=a;have hl:=(line h b).1;have hr:=rd h b h2;have j:=hr.rt.l2;have m:=hr.rt.l24;have aa:X.stE e=X.st l k:=by unfold stE;rw[a];simp only[Ql,Qrb]
 obtain⟨x,r,a1,a2,c⟩:=MG (hr.rt.st ((X.st l k).getD 0 []) (by rw[Qrh,Qre I];exact List.getElem_mem _));obtain⟨y,q,b1,b2,d⟩:=MG (hr.rt.st ((X.st l k).getD ((X.st l k).length-1) []) (by rw[Qrh,Qre I];exact List.getElem_mem _));have i:X.s0 e=T6 X.G.Se ((X.st l k).getD 0 []):=by unfold s0;rw[aa]
 have e1:X.s1 e=T6 X.G.Se ((X.st l k).getD ((X.st l k).length-1) []):=by unfold s1;rw[aa]
 rw[<- i]at c;rw[<- e1]at d;have c0:Qi (X.st l k) 0=some ((X.st l k).getD 0 []):=by
  rw[show(0:Int)=((0:Nat):Int)from rfl,Qp,Qrh,Qre I];rfl
 have c1:Qi (X.st l k) (wJ (wJ (((X.st l k).length:Int)-0)-1))=some ((X.st l k).getD ((X.st l k).length-1) []):=by
  rw[Qo (x:=((X.st l k).length:Int)-0) I I,Qo (x:=((X.st l k).length:Int)-0-1) I I,show((X.st l k).length:Int)-0-1=(((X.st l k).length-1:Nat):Int) by omega,Qp,Qrh,Qre I];rfl
 have ac:Qi X.Ls (l:Int)=some [D.str (nmN l),Ql 0,Ql (X.w l),D.sl 4 (Hl X.Ls l)]:=by rw[Qp];exact hl
 have ai:Qi (Hl X.Ls l) (k:Int)=some [Ql (rF X.Ls l k 0),Ql (X.ex l k),Ql (X.mn l k),Ql (X.mx l k)]:=by rw[Qp];exact hr.row
 refine⟨?_,⟨x,r,?_,a2,c⟩,y,q,?_,b2,d⟩
 ·unfold XG;simp -implicitDefEqProofs only[Qh,Qr9,Qrd,Qj,X2,ac,ai,hr.ro]
 ·unfold VO;rw[c0,Qh,a1,Qh,Qj,Qh]
 ·unfold JI;rw[c1,Qh,b1,Qh,Qj,Qh]
section
variable(g:X.Gd per Ch Sy A tl)
include g
theorem Gd.durP(hg:Gk 400 per (X.evs X.L) A (encI tl) (some:Bool->oP Bool)=some true){j:Nat}(hj:j<A.length):JF 400 per (X.evs X.L) A (encI tl) (j:Int) some=some (XJ tl per (A.getD j [])):=by
 have hA:=g.len;have e:=Qre hj;obtain⟨kd,f,t,mn,mx,w,er,hf,ht,am⟩:=g.row (Qrf e);have tf:=g.tat hf.1 hf.2;have tt:=g.tat ht.1 ht.2;have p0:=g.p0;have p1:=g.p1;have a:=Qrt (Vx.tat tl t-Vx.tat tl f-mn) (show per≠0 by omega);have b:=Qrq (Vx.tat tl t-Vx.tat tl f-mn) (show 0<per by omega);have aa:G2 400 (j:Int) 0 (wJ ((A.length:Int)-1)) (some:Bool->oP Bool)=some true:=by
  unfold G2;rw[Qo (x:=(A.length:Int)-1) I I,Qrk I,Qrk I];rfl
 have ac:Jc 400 per (encI tl) f t mn (some:Int->oP Int)=some (XJ tl per [Ql kd,Ql f,Ql t,Ql mn,Ql mx,Ql w]):=by
  unfold Jc;simp -implicitDefEqProofs only[Qh,Qr9,Qrd,Qj,tf.1,tt.1,Qo (x:=Vx.tat tl t-Vx.tat tl f) I I,Qo (x:=Vx.tat tl t-Vx.tat tl f-mn) I I,QhX (n:=400) (t:=per) (x:=Vx.tat tl t-Vx.tat tl f-mn) I I I I,Qo (x:=mn+(Vx.tat tl t-Vx.tat tl f-mn) % per) I I];rfl
 unfold JF;rw[hg,Qh,aa,Qh];rw[Qp,Qrh,e,er];simp -implicitDefEqProofs only[Qh,Qr9,Qrd,Qj,ac,Qrn,Qra,Option.getD_some]
end
end Cx
theorem E6{Se:LL}{x d:Int}{nm:Y UInt8}{a b c t:Int}(h:Qi Se x=some [D.str nm,Ql a,Ql b,Ql c,Ql t]):T6 Se [Ql x,Ql d]=t:=by
 unfold T6;simp only[Ql]at h ⊢;rw[h]
namespace Cx
variable{X:Cx} {per:Int} {Ch Sy A:LL} {tl:Y Int}
theorem ends(h:X.OK){l k:Nat}(hl:l<X.L)(hk:k<X.nr l):(0<=T6 X.G.Se ((X.st l k).getD 0 [])/\T6 X.G.Se ((X.st l k).getD 0 [])<(X.G.St.length:Nat))/\(0<=T6 X.G.Se ((X.st l k).getD ((X.st l k).length-1) [])/\T6 X.G.Se ((X.st l k).getD ((X.st l k).length-1) [])<(X.G.St.length:Nat))/\T6 X.G.Se ((X.st l k).getD 0 [])≠T6 X.G.Se ((X.st l k).getD ((X.st l k).length-1) []):=by
 have hr:=(rd h hl hk).ro;have hm:[D.sl 2 (X.st l k),Ql 0]∈X.Ro:=by
  unfold Qi at hr;cases hd:decide (0<=rF X.Ls l k 0)with
  |true=>rw[hd,Qrc]at hr;exact Qrf hr
  |false=>rw[hd,Qra]at hr;cases hr
 obtain⟨s,x,y,e,hR⟩:=h.gd.ro _ hm;obtain rfl:X.st l k=s:=by injection e with e _;injection e
 obtain⟨g,x',y',up,hg,es,hx,hy⟩:=hR.shp;obtain⟨j1,c,rfl⟩:=AE hx;obtain⟨d,f,rfl⟩:=AE hy;obtain⟨n1,a1,b1,d1,e1,_⟩:=h.g.sec g I j1 c;obtain⟨n2,a2,b2,i,e2,_⟩:=h.g.sec (g+1) hg d f;have ak:=h.g.st;have hlast:∀(a b:Y D) (m:LL),(a::m++[b]).getD ((a::m++[b]).length-1) []=b:=λa b m=>by simp
 have aa:∀(a b:Y D) (m:LL),(a::m++[b]).getD 0 []=a:=λa b m=>rfl
 rw[es];unfold K5;cases up
 ·rw[Qra,hlast,aa,E6 e1,E6 e2];omega
 ·rw[Qrc,hlast,aa,E6 e1,E6 e2];omega
theorem Qd4{i k:Nat}:∀{K:Nat},k<K->X.aR i k∈X.pl i K
 |K+1,h=>by
  rw[pl];by_cases e:k=K
  ·subst e;simp
  ·exact Qro _ (Qro _ (Qd4 I))
theorem Q99{i k:Nat}(hk:k<X.nr i):∀{L:Nat},i<L->X.aR i k∈X.pls L
 |L+1,h=>by
  rw[pls];by_cases e:i=L
  ·subst e;exact QrF _ (Qd4 hk)
  ·exact Qro _ (Q99 hk I)
variable(g:X.Gd per Ch Sy A tl)
include g
theorem Gd.hasRun{l k:Nat}(hl:l<X.L)(hk:k<X.nr l):∃j,j<A.length/\A[j]? = some (X.aR l k):=by
 obtain⟨H,rfl,hH⟩:=g.act;have hm:X.aR l k∈X.planned Ch Sy++H:=Qro _ (Qro _ (Qro _ (Qro _ (Q99 hk hl))));obtain⟨j,hj,e⟩:=List.mem_iff_getElem.1 hm;exact⟨j,hj,by rw[Qre hj,e]⟩
theorem Gd.runRow{j:Nat}(hj:j<A.length)(hk:knd A j=1):∃l k,l<X.L/\k<X.nr l/\A[j]? = some (X.aR l k):=by
 obtain⟨H,e,hH⟩:=g.act;have a:=Qre hj;have hm:=Qrf a;have hk:∀r,A[j]? = some r->∀k x,r = .int .i64 k::x->k=1:=λr hr k x e=>by
  subst e;unfold knd at hk;rw[hr]at hk;exact hk
 have hk:=hk _ a;generalize A[j]=r at *
 rw[e]at hm;rcases Qbg g.ok g.ls hH hm with⟨i,k,h2,b,rfl | ⟨_,rfl⟩⟩|⟨t,_,rfl⟩|⟨kd,f,t,mn,mx,w,h2,rfl⟩
 ·exact⟨i,k,h2,b,a⟩
 ·have:=hk 2 _ rfl;omega
 ·have:=hk 4 _ rfl;omega
 ·have:=hk kd _ rfl;omega
theorem Gd.ofRow{j l k:Nat}(h:A[j]? = some (X.aR l k)):knd A j=1/\frm A j=((2*(base X.nr l+k):Nat):Int)/\tto A j=((2*(base X.nr l+k)+1:Nat):Int)/\A.getD j []=X.aR l k:=by
 unfold knd frm tto;rw[Qrh,h];exact⟨rfl,rfl,rfl,rfl⟩
theorem Gd.rideLe{l k j e:Nat}(hl:l<X.L)(hk:k<X.nr l)(he:e=2*(base X.nr l+k))(h:A[j]? = some (X.aR l k)){left:Y Int}{b:Int}(hL:X.Leg per A tl (X.s0 e) (X.s1 e) left b):0<b/\b<=XJ tl per (A.getD j []):=by
 obtain⟨q1,c,d,q4⟩:=g.ofRow h;have ac:=evs_at hk hl;have am:=TR (nr:=X.nr) hl;rw[<- he]at c d ac;have hj:j<A.length:=(Qry.1 h).1;have hN:base X.nr X.L=X.N:=rfl;have hm:j∈bgF X A (X.s0 e) A.length:=Q6L.2 ⟨hj,q1,by rw[c,Qrb]⟩;have ht:(X.sv per A tl (X.s1 e)).to j=e+1:=by
  show(tto A j).toNat=_;rw[d,Qrb]
 have hs:X.s1 (e+1)=X.s1 e:=by
  unfold s1 stE;rw[ac.1,ac.2]
 have aj:(X.sv per A tl (X.s1 e)).en (e+1)=true:=by
  show(bif ((if (e+1) % 2=0 then(1:Int)else 2) == 2)then X.s1 (e+1) == X.s1 e else false)=true;rw[Qrz I,hs];simp
 have aa:e+1<(X.sv per A tl (X.s1 e)).n:=by
  show e+1<2*X.N;omega
 have a:=(X.sv per A tl (X.s1 e)).gr.T_end hL.fin.ok aa aj;have f:=hL.fin.lf.nn _ aa;rw[<- hL.fin.eq _ aa]at a;unfold lo at a;split at a
 ·exact a.elim
 ·have a:left.getD (e+1) 0<=0:=a;have:=hL.lea j hm (by rw[ht];omega);have:=hL.sgn;rw[ht]at *
  have hd:(X.sv per A tl (X.s1 e)).dur j=XJ tl per (A.getD j []):=rfl;omega
end Cx
end Go.Vx
namespace Go.Vx
variable{R:Type} (n:Nat)
def UW(h d i:Int)(e f:LL)(j k l:D)(k0:oP R)(k1:QlJ R):QlK R
|0,_=>none
|m+1,b=>bif decide (b<d)then Qlv R f b λv a=>Qa R (a==1) λah=>Qd R ah (pIw v) λx=>Qd R ah (Qi e x) λg=>QlE R g ah λy z=>Qd R ah g[2]? λaa=>Ql7 R y ah j λo p=>Ql7 R z ah k λq r=>Ql7 R aa ah l λs t=>Qa R (Q9 ah (o==p&&(q==r&&s==t))) λai=>Qd R ai (JF n i e f [] b some) λab=>bif Q9 ai (decide (h>ab))then k0 else UW h d i e f j k l k0 k1 m (wJ (b+1))else k1 b (decide (b<d))
def Yc(h:LL)(i d j:Int)(e f:LL)(k l o:D)(k0:oP R)(k1:QlJ R):QlK R
|0,_=>none
|m+1,b=>bif decide (b<d)then Qlv R f b λx a=>Qa R (a==1) λai=>Qd R ai (pIw x) λy=>Qd R ai (Qi e y) λg=>QlE R g ai λz aa=>Qd R ai g[2]? λab=>Ql7 R z ai k λp q=>Ql7 R aa ai l λr s=>Ql7 R ab ai o λt u=>Qa R (Q9 ai (p==q&&(r==s&&t==u))) λaj=>Qd R aj (JF n j e f h b some) λac=>bif Q9 aj (decide (i>ac))then k0 else Yc h i d j e f k l o k0 k1 m (wJ (b+1))else k1 b (decide (b<d))
def law21_JourneysOfARide(a0:LL)(a1:Int)(K:QlN R):oP R:=gb true (SK n a0 Tu12) ([],[],[],[],0,[],[],[],[],[],[],[]) λa=>Qb R a.2.2.2.2.2.2.2.2.2.2.2 λab=>Qb R a.2.2.2.2.2.2.2.2.2.2.1 λac=>Qb R a.2.2.2.2.2.2.2.2.2.1 λad=>Qb R a.2.2.2.2.2.2.2.2.1 λbl=>Qb R a.2.2.2.2.2.2.2.1 λbt=>Qb R a.2.2.2.2.2.2.1 λbu=>Qb R a.2.2.2.2.2.1 λbv=>Qb R a.2.2.2.2.1 λbz=>Qb R a.2.2.1 λca=>Qb R a.2.2.2.1 λcb=>Qb R a.2.1 λcc=>gb true (Vm n a.1 cc ca cb bz bv bu bt bl ad ac ab (some (.inl ())) λb=>some (.inr b)) (.inl ()) λc=>smX c (λf=>gb true (UA n a.1 cc ca cb bz bv bu bt bl ad ac ab Tu4) (0,[],[],0) λd=>bif Q8 (Q8 true (d.2.2.2 !=0)) ((d.2.1.length:Int)==0)then Qc R (Ha 410 some) λk=>K k else Qc R (nz 2) λu6=>Qc R (SQ n a1 (wJ (Int.tdiv (d.2.1.length:Int) 2)) some) λl=>Qlf R d.2.1 (wJ (2*l)) λc9 q aa=>QkZ R q aa λae ag=>Qc R (XG n bz bv bu bt bl ad ac ab ae ag Tu2) λh=>Qlo R h.1 h.2 λah ai=>Qc R (VO n ah ai some) λaj=>Qlj R ca aj λr=>Qlo R h.1 h.2 λam an=>Qc R (JI n am an some) λao=>Qlj R ca ao λs=>gb true (We n a.1 cc ca cb bz bv bu bt bl ad ac ab [] r s Tu3) (0,[],0) λm=>Qc R (Vz n a.1 cc ca cb bz bv bu bt bl ad ac ab [] r s Tu2) λt=>UW n m.1 (d.2.2.1.length:Int) d.1 d.2.1 d.2.2.1 c9 q aa (K false) (λbm bn=>Qc R (Ha 410 some) λar=>K (Q9 (Q9 (Q9 (Q9 ar (m.2.2==0)) (t.2==0)) (decide (m.1>0))) (decide (t.1>0)))) n 0) λi=>gb true (UA n a.1 cc ca cb bz bv bu bt bl ad ac ab Tu4) (0,[],[],0) λe=>Qc R (neL i) λbo=>bif Q8 (Q8 false (e.2.2.2 !=0)) ((e.2.1.length:Int)==0)then Qc R (Ha 410 some) λau=>K au else Qc R (nz 2) λbp=>Qc R (SQ n a1 (wJ (Int.tdiv (e.2.1.length:Int) 2)) some) λav=>Qlf R e.2.1 (wJ (2*av)) λaw u v=>QkZ R u v λax ay=>Qc R (XG n bz bv bu bt bl ad ac ab ax ay Tu2) λj=>Qlo R j.1 j.2 λaz ba=>Qc R (VO n az ba some) λbb=>Qlj R ca bb λx=>Qlo R j.1 j.2 λbe bg=>Qc R (JI n be bg some) λbh=>Qlj R ca bh λy=>gb true (We n a.1 cc ca cb bz bv bu bt bl ad ac ab i x y Tu3) (0,[],0) λp=>Qc R (Vz n a.1 cc ca cb bz bv bu bt bl ad ac ab i x y Tu2) λz=>Yc n i p.1 (e.2.2.1.length:Int) e.1 e.2.1 e.2.2.1 aw u v (K false) (λbq br=>Qc R (Ha 410 some) λbk=>K (Q9 (Q9 (Q9 (Q9 bk (p.2.2==0)) (z.2==0)) (decide (p.1>0))) (decide (z.1>0)))) n 0
end Go.Vx
namespace Go.Vx
namespace Cx
variable{X:Cx} {per:Int} {Ch Sy A:LL} {tl:Y Int}
section
variable(g:X.Gd per Ch Sy A tl) (hg:Gk 400 per (X.evs X.L) A (encI tl) (some:Bool->oP Bool)=some true)
include g hg
theorem Gd.ridL{l k:Nat}(hl:l<X.L)(hk:k<X.nr l){b:Int}(hb:∀j,A[j]? = some (X.aR l k)->b<=XJ tl per (A.getD j [])){k0:oP Bool}{k1:Int->Bool->oP Bool}:∀(c m i:Nat),i+c=A.length->c<m ->
  Yc 400 (encI tl) b (A.length:Int) per (X.evs X.L) A (Ql 1) (Ql l) (Ql k) k0 k1 m (i:Int)=k1 (A.length:Int) false
 |0,m+1,i,hi,_=>by
  obtain rfl:i=A.length:=I
  rw[Yc,Qy,Qra]
 |c+1,m+1,i,hi,hm=>by
  have hA:=g.len;have aa:i<A.length:=I
  have e:=Qre aa;have ih:=ridL hl hk hb (k0:=k0) (k1:=k1) c m (i+1) I I;obtain⟨kd,f,t,mn,mx,w,er,hf,ht,aw⟩:=g.row (Qrf e);have hd:=g.durP hg aa;rw[<- ih,Yc,Qt aa,Qrc,Qp,e,er];simp -implicitDefEqProofs only[Qh,Qr9,Qrd,Qj,QJ (show i<=1000 by omega)];have ek:knd A i=kd:=by unfold knd;rw[e,er]
  have ef:frm A i=f:=by unfold frm;rw[e,er]
  by_cases a:kd=1
  ·subst a;obtain⟨l',k',ao,am,hr⟩:=g.runRow aa ek;obtain⟨q1,d,n,q4⟩:=g.ofRow hr;rw[ef]at d;have ak:=(evs_at am ao).1;have ac:Qi (X.evs X.L) f=some [Ql 1,Ql l',Ql k']:=by rw[d,Qp,ak]
   simp -implicitDefEqProofs only[beq_self_eq_true,Qh,ac,Qr9,Qrd,Qj,Qrc,Bool.true_and];by_cases hs:l'=l/\k'=k
   ·obtain⟨rfl,rfl⟩:=hs;have:=hb i hr;simp -implicitDefEqProofs only[beq_self_eq_true,Bool.true_and,Qh,hd,Qrc];rw[Qri I,Qra]
   ·have hz:(((l':Int) == (l:Int))&&((k':Int) == (k:Int)))=false:=by
     rw[Bool.and_eq_false_iff];by_cases h:l'=l
     ·exact .inr Q3
     ·exact .inl Q3
    rw[hz,Q7M];rfl
  ·have hz:(kd == (1:Int))=false:=by simpa using a
   rw[hz];simp -implicitDefEqProofs only[Q7M,Bool.false_and,Qra]
end
end Cx
theorem rideA{l:Y Int}(hl:l.length<=9223372036854775807)(k0:Int):law21_JourneysOfARide 400 (encI l) k0 some=some true:=by
 obtain⟨X,per,Ch,Sy,De,h,hD,s,u,aa,hp,ht⟩:=QiK hl;unfold law21_JourneysOfARide;rw[hp,Qh];dsimp only;rcases ht with⟨ht,_,v,hv⟩|⟨A,tl,ht,ar,g,an,aw,hf,hg,a5⟩
 ·rw[ht,Qh,QeG,hv,Qh,Qrc,Qrc,Qrc,Qdi,Qh]
 ·obtain⟨x,xs,rfl⟩:∃x xs,tl=x::xs:=by
   cases tl with
   |nil=>exact absurd rfl ar
   |cons x xs=>exact⟨x,xs,rfl⟩
  have hN:X.N<=6:=Cx.base_le h;have hT:=g.tlen;have hA:=g.len;have ak:(X.evs X.L).length=2*X.N:=Cx.evs_len;have a7:1<=X.N:=by rw[QrD]at hT;omega
  have pk:=L0 k0 (show(0:Int)<(X.N:Int) by omega);have az:=QgX 400 k0 (show(0:Int)<(X.N:Int) by omega) I (some:Int->oP Int);generalize pick k0 (X.N:Int)=e at *
  obtain⟨e,rfl⟩:=QrO pk.1;obtain⟨i,j,hi,hj,he⟩:=Bz (nr:=X.nr) (a:=e) (L:=X.L) (by change e<X.N;omega);have ac:=(Cx.evs_at hj hi).1;obtain⟨E,hE⟩:∃E,E=2*(base X.nr i+j):=⟨_,rfl⟩;rw[<- hE]at ac;obtain⟨d,⟨x1,s1,p1,p2,p3⟩,⟨x2,s2,k,m,o⟩⟩:=Cx.rtP h hi hj (e:=E) ⟨_,ac⟩ (p:=per) (q1:=X.skR) (q4:=Ch) (q5:=X.T.map tuR) (q6:=Sy) (q7:=De);have au:X.stE E=X.st i j:=by unfold Cx.stE;rw[ac];simp only[Ql,Qrb]
  have am:=Cx.ends h hi hj;rw[<- au]at am;obtain⟨f,t,n⟩:(0<=X.s0 E/\X.s0 E<(X.G.St.length:Nat))/\(0<=X.s1 E/\X.s1 E<(X.G.St.length:Nat))/\X.s0 E≠X.s1 E:=am;obtain⟨left,b,hL⟩:=g.leg (X.s0 E) (X.s1 E);obtain⟨z,hz,ay⟩:=g.hasRun hi hj;obtain⟨q,_⟩:=g.rideLe hi hj hE ay hL;have hc:Xk 400 (X.G.St.length:Int) (X.s0 E) (X.s1 E) (some:Int->oP Int)=some 0:=by
   unfold Xk;rw[Qri I,Qri I,Qri I,Qri I,show(X.s0 E == X.s1 E)=false by simpa using n];rfl
  obtain⟨hb,_⟩|⟨_,p,_,_,a3⟩:=g.bestP an hf f.1 f.2 t.1 t.2 n hL
  ·omega
  obtain⟨hb,_⟩|⟨_,c,ad,a2⟩:=g.tiesP an hf hL hc
  ·omega
  have ai:=λk1=>g.ridL hg hi hj (b:=b) (λy hy=>(g.rideLe hi hj hE hy hL).2) (k0:=some false) (k1:=k1) A.length 400 0 I I
  rw[show((0:Nat):Int)=0 from rfl]at ai;have r:wJ (Int.tdiv (((X.evs X.L).length:Nat):Int) 2)=(X.N:Int):=by
   rw[ak,show(((2*X.N:Nat):Int)).tdiv 2=(X.N:Int) by rw[Int.tdiv_eq_ediv_of_nonneg I];omega];exact Qo I I
  have w2:Qi (X.evs X.L) (wJ ((2:Int)*(e:Int)))=some [Ql 1,Ql i,Ql j]:=by
   rw[Qo (x:=(2:Int)*(e:Int)) I I,show(2:Int)*(e:Int)=(E:Int) by omega,Qp,ac]
  rw[ht,Qh,Q5E,aw,Qh,show neL (encI (x::xs))=some ()from rfl,Qh];dsimp only;rw[show((((X.evs X.L).length:Nat):Int) == (0:Int))=false by rw[ak];simp;omega];rw[show(bif (bif false then true else((0:Int) != (0:Int)))then true else false)=false from rfl,Qra,DO (show(2:Int)≠0 by decide),Qh,r,az,Qh,w2];simp -implicitDefEqProofs only[Qh,Qr9,Qrd,Qj,X2,d,p1,p2,p3,k,m,o];rw[a3,Qh,a2,Qh,ai,Qdi,Qh];dsimp only;rw[Qrk q,Qrk (show c>0 by omega)];rfl
end Go.Vx
