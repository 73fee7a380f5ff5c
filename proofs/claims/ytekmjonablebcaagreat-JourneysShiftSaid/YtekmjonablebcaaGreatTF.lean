/- Part of a proof. No conditions of their own. -/
import Derived.Test.YtekmjonablebcaaGreatTE
import Derived.Test.YtekmjonablebcaaGreatTD
import Derived.Test.YtekmjonablebcaaGreatTB
import Derived.Test.YtekmjonablebcaaGreatTA
set_option linter.unusedVariables false
set_option linter.unusedSimpArgs false
set_option linter.unusedSectionVars false
noncomputable section
abbrev Qr9:=@List.getElem?_cons_zero
abbrev Qra:=@cond_false
abbrev Qrb:=@Int.toNat_natCast
abbrev Qrc:=@cond_true
abbrev Qrd:=@List.mem_of_getElem?
abbrev Qre:=@List.getElem?_cons_succ
abbrev Qrf:=@List.getElem?_eq_getElem
abbrev Qrg:=@List.length_map
abbrev Qrh:=@List.getD_eq_getElem?_getD
abbrev Qri:=@decide_eq_false
abbrev Qrj:=@List.mem_append
abbrev Qrk:=@List.map_append
abbrev Qrl:=@List.append_assoc
abbrev Qrm:=@decide_eq_true
abbrev Qrn:=@Bool.not_true
abbrev Qro:=@List.mem_singleton
abbrev Qrp:=@List.getElem?_map
abbrev Qrq:=@List.getElem?_eq_none
abbrev Qrr:=@List.mem_map
abbrev Qrs:=@List.append_nil
abbrev Qrt:=@Int.emod_lt_of_pos
abbrev Qru:=@List.set_cons_zero
abbrev Qrv:=@if_pos
abbrev Qrw:=@Int.emod_nonneg
abbrev Qrx:=@List.length_append
abbrev Qry:=@List.pairwise_cons
abbrev Qrz:=@if_neg
abbrev QrA:=@Bool.not_false
abbrev QrB:=@List.take_length
abbrev QrC:=@List.getElem?_eq_some_iff
abbrev QrD:=@List.length_cons
abbrev QrE:=@List.mem_range
abbrev QrF:=@List.getElem?_range
abbrev QrG:=@List.mem_cons
abbrev QrH:=@List.mem_of_find?_eq_some
abbrev QrI:=@List.length_set
abbrev QrJ:=@List.mem_append_right
abbrev QrK:=@List.mem_append_left
abbrev QrL:=@List.pairwise_append
abbrev QrM:=@List.length_range
abbrev QrN:=@Nat.le_refl
abbrev QrO:=@List.map_congr_left
abbrev QrP:=@List.all_eq_true
abbrev QrQ:=@Nat.lt_of_le_of_lt
abbrev QrR:=@List.foldl_cons
abbrev QrS:=@List.length_filter_le
abbrev QrT:=@Int.emod_eq_of_lt
abbrev QrU:=@List.ext_getElem?
namespace Go.Vx
theorem Qkq{R:Type}{n:Nat}{a b:Int}(K:Int->oP R):Ka n a b K=K (if a<b then -1 else if b<a then 1 else 0):=by
 unfold Ka;have hn:∀x:Int,GU n x (some:Bool->oP Bool)=some false:=λx=>by
  grind[GU]
 rw[hn,hn,Qh,Qh,Qp (by rfl),Qp (by rfl)]
 grind
def Asc(l:Y Sp2):Prop:=l.Pairwise λa b=>a.1<=b.1
theorem Qcn(q:Sp2):(Yo q)[0]? = some (Ql q.1):=rfl
theorem QbP(q:Sp2):(Yo q)[1]? = some (Ql q.2):=rfl
theorem Qiz(z q:Sp2):((Yo z).set 0 (Ql q.1)).set 1 (Ql q.2)=Yo q:=rfl
theorem Qk5(q:Sp2)(v:Int):(Yo q).set 1 (D.int .i64 v)=Yo (q.1,v):=rfl
section
variable{R:Type} {n:Nat}
theorem QhG{A B:LL}{x:Y D}{i:Nat}(h:A.length=i):(A++x::B)[i]? = some x:=by
 simp_all
theorem QhY{A B:LL}{x y:Y D}{i:Nat}(h:A.length=i):(A++x::B).set i y=A++y::B:=by
 simp_all
theorem Qd8{K:LL->oP R}{k0:Int->Bool->LL->oP R}(hk:∀a b w,k0 a b w=K w):∀(c m:Nat) (A:Y Sp2) (x:Sp2) (B C:Y Sp2),A.length=c->c<m->(A++x::B++C).length<=100->Asc (A++B)->(∀b∈B,x.1<=b.1) ->
  ∃L:Y Sp2,Qx n 0 k0 m (c:Int) ((A++x::B++C).map Yo)=K ((L++C).map Yo)/\Asc L/\L.Perm (A++x::B)
 |0,m+1,A,x,B,C,hA,_,_,hs,hx=>by
  obtain rfl:=List.eq_nil_of_length_eq_zero hA;refine⟨x::B,?_,Qry.2 ⟨hx,hs⟩,List.Perm.refl _⟩;unfold Qx;rw[show decide (((0:Nat):Int)>0)=false from rfl];simp -implicitDefEqProofs only[gbF,Qra,hk,List.nil_append]
 |c+1,m+1,A,x,B,C,hA,hm,hl,hs,hx=>by
  obtain⟨A',y,rfl⟩:∃A' y,A=A'++[y]:=⟨A.dropLast,A.getLast (by intro h;rw[h]at hA;simp at hA),(List.dropLast_concat_getLast _).symm⟩;have aa:A'.length=c:=by simpa using hA
  have ai:c+1<((A'++[y]++x::B++C).map Yo).length:=by simp;omega
  have hc:c<=100:=by simp at hl;omega
  have e1:((A'++[y]++x::B++C).map Yo)=(A'.map Yo++[Yo y])++Yo x::(B++C).map Yo:=by simp
  have e2:((A'++[y]++x::B++C).map Yo)=A'.map Yo++Yo y::(Yo x::(B++C).map Yo):=by simp
  have g1:((A'++[y]++x::B++C).map Yo)[c+1]? = some (Yo x):=by rw[e1];exact QhG (by simp[aa])
  have d:((A'++[y]++x::B++C).map Yo)[c]? = some (Yo y):=by rw[e2];exact QhG (by simp[aa])
  have s1:((A'++[y]++x::B++C).map Yo).set (c+1) (Yo y)=A'.map Yo++Yo y::(Yo y::(B++C).map Yo):=by rw[e1,QhY (by simp[aa])];simp
  have e:(A'.map Yo++Yo y::(Yo y::(B++C).map Yo))[c]? = some (Yo y):=QhG (by simp[aa]);have s2:(A'.map Yo++Yo y::(Yo y::(B++C).map Yo)).set c (Yo x)=((A'++x::(y::B)++C).map Yo):=by rw[QhY (by simp[aa])];simp
  have f:inB ((A'++[y]++x::B++C).map Yo).length ((c+1:Nat):Int)=some ():=XR I I;have g:inB ((A'++[y]++x::B++C).map Yo).length (c:Int)=some ():=XR I I;have i:inB (A'.map Yo++Yo y::(Yo y::(B++C).map Yo)).length (c:Int)=some ():=XR I Q3;unfold Qx;rw[Q6 (((c+1:Nat):Int)>0),G6 (show c+1<=1000 by omega) I,Nat.add_sub_cancel];unfold UZ;simp -implicitDefEqProofs only[f,g,Qh,Qrb,g1,d,Qkq];simp -implicitDefEqProofs only[Qcn,QbP,Qiz,Qh,Qj,Qrc];by_cases ac:x.1<y.1
  ·rw[Qrv ac];simp -implicitDefEqProofs only[show decide ((-1:Int)<0)=true from rfl,Qrc,g1,Qcn,QbP,Qiz,Qh,s1];simp -implicitDefEqProofs only[i,e,Qh,Qiz,s2];obtain⟨L,j,h2,k⟩:=Qd8 hk c m A' x (y::B) C aa I (by simp at hl ⊢;omega) (by simpa using hs) (λb hb=>by
    cases hb with
    |head=>omega
    |tail _ hb=>exact hx b hb)
   refine⟨L,j,h2,k.trans ?_⟩;rw[Qrl];exact List.Perm.append_left _ (List.Perm.swap ..)
  ·refine⟨A'++[y]++x::B,?_,?_,List.Perm.refl _⟩
   ·rw[Qrz ac,show decide ((if y.1<x.1 then(1:Int)else 0)<0)=false from Qri (by split<;>omega),Qra,hk]
   ·unfold Asc at hs ⊢;rw[QrL]at hs ⊢;refine⟨hs.1,Qry.2 ⟨hx,hs.2.1⟩,λa ha b hb=>?_⟩;cases hb with
    |head=>
     rcases Qrj.1 ha with h | h
     ·have:=(QrL.1 hs.1).2.2 a h y (Qro.2 rfl);omega
     ·obtain rfl:=Qro.1 h;omega
    |tail _ hb=>exact hs.2.2 a ha b hb
theorem Qd7{K:LL->oP R}{k0:Int->Bool->LL->oP R}(hk:∀a b w,k0 a b w=K w):∀(aa P:Y Sp2) (m:Nat),aa.length<m->(P++aa).length<=100->Asc P ->
  ∃L:Y Sp2,Qn 400 0 (((P++aa).length:Nat):Int) k0 m (P.length:Int) ((P++aa).map Yo)=K (L.map Yo)/\Asc L/\L.Perm (P++aa)
 |[],P,m+1,_,_,hs=>by
  refine⟨P,?_,hs,by simp⟩;rw[Qn,Qrs,Qy,Qra,hk]
 |x::aa,P,m+1,hm,hl,hs=>by
  rw[Qn,Qs Q2,Qrc,QK (by simp at hl;omega)];obtain⟨L,d,h2,c⟩:=Qd8 (n:=400) (K:=λw=>Qn 400 0 (((P++x::aa).length:Nat):Int) k0 m ((P.length+1:Nat):Int) w) (k0:=λ_ _ w=>Qn 400 0 (((P++x::aa).length:Nat):Int) k0 m ((P.length+1:Nat):Int) w) (λ_ _ _=>rfl) P.length 400 P x [] aa rfl (by simp at hl;omega) (by simp at hl ⊢;omega) (by simpa using hs) (λb hb=>nomatch hb);rw[show(P++x::aa)=P++[x]++aa by simp]at *
  rw[d];have hL:L.length=P.length+1:=by rw[c.length_eq];simp
  obtain⟨L',g1,e,f⟩:=Qd7 hk aa L m (by simpa using hm) (by simp[hL]at hl ⊢;omega) h2;rw[show(((P++[x]++aa).length:Nat):Int)=(((L++aa).length:Nat):Int) by simp[hL];omega,show((P.length+1:Nat):Int)=(L.length:Int) by rw[hL]];exact⟨L',g1,e,f.trans (c.append_right _)⟩
theorem QkE:((List.range 13).all λk=>(R5 400 (IntKind.wrap .u64 (k:Int)) (some:Int->oP Int)).isSome)=true:=by kernel_rfl
theorem Qjr{l:Y Sp2}(hl:l.length<=12):∃L:Y Sp2,QQ 400 (l.map Yo) (some:LL->oP LL)=some (L.map Yo)/\Asc L/\L.Perm l:=by
 obtain⟨b,hb⟩:=Option.isSome_iff_exists.1 (QrP.1 QkE l.length (QrE.2 I));unfold QQ;rw[Qrg,hb,Qh];unfold Y3 XU;rw[Qo (x:=(l.length:Int)-0) I I,Xj (Qrm I)];unfold XH;have fin:∀L:Y Sp2,L.length=l.length->(gb true (gb true (some (L.map Yo)) [] λa=>gb true (Rf a (List.length (l.map Yo))) () λf=>some a) [] λc=>gb true (Rf c l.length) () λg=>(some c:oP LL))=some (L.map Yo):=λL h=>by
  grind[Qh,MS]
 rw[show wJ ((0:Int)+1)=((1:Nat):Int)from rfl];cases l with
 |nil=>
  refine⟨[],?_,List.Pairwise.nil,List.Perm.refl _⟩;rfl
 |cons x aa=>
  obtain⟨L,e,h2,d⟩:=Qd7 (K:=(some:LL->oP LL)) (k0:=λ_ _ w=>some w) (λ_ _ _=>rfl) aa [x] 400 (by grind) (by simp at hl ⊢;omega) (List.pairwise_singleton ..);refine⟨L,?_,h2,d⟩;rw[show(x::aa)=[x]++aa from rfl,show((1:Nat):Int)=(([x].length:Nat):Int)from rfl,e];exact fin L d.length_eq
def mgS:Int->Int->Y Sp2->Y Sp2
 |a,b,[]=>[(a,b)]
 |a,b,(c,d)::r=>if c<=b then mgS a (if b<d then d else b) r else(a,b)::mgS c d r
theorem Q6w:∀{a b:Int} {r:Y Sp2},(mgS a b r).length<=r.length+1
 |_,_,[]=>QrN _
 |a,b,(c,d)::r=>by
  rw[mgS];split
  ·have:=Q6w (a:=a) (b:=if b<d then d else b) (r:=r);simp only[QrD];omega
  ·have:=Q6w (a:=c) (b:=d) (r:=r);simp only[QrD];omega
theorem Qat{t:Int}:∀{l a b:Int} {r:Y Sp2},l<a->a<b->b<=t->Asc ((a,b)::r)->(∀q∈r,q.1<q.2/\q.2<=t)->VS t l (mgS a b r)
 |l,a,b,[],e,h2,f,_,_=>⟨e,h2,f,trivial⟩
 |l,a,b,(c,d)::r,e,h2,f,g,h5=>by
  have hs:=Qry.1 g;have hc:a<=c:=hs.1 (c,d) (.head _);have hd:=h5 (c,d) (.head _);rw[mgS];split
  ·refine Qat e (by split<;>omega) (by split<;>simp_all) (Qry.2 ⟨λq hq=>hs.1 q (.tail _ hq),(Qry.1 hs.2).2⟩) (λq hq=>h5 q (.tail _ hq))
  ·exact⟨e,h2,f,Qat I hd.1 hd.2 hs.2 (λq hq=>h5 q (.tail _ hq))⟩
theorem Qal{y:Int}:∀{a b:Int} {r:Y Sp2},Asc ((a,b)::r)->a<b->(∀q∈r,q.1<q.2)->(InS y (mgS a b r)↔(a<=y/\y<b)\/InS y r)
 |a,b,[],_,_,_=>by rw[mgS,Ty]
 |a,b,(c,d)::r,e,h2,h5=>by
  have hs:=Qry.1 e;have hc:a<=c:=hs.1 (c,d) (.head _);have hd:=h5 (c,d) (.head _);rw[mgS,Ty];split
  ·rw[Qal (a:=a) (b:=if b<d then d else b) (Qry.2 ⟨λq hq=>hs.1 q (.tail _ hq),(Qry.1 hs.2).2⟩) (by split<;>omega) (λq hq=>h5 q (.tail _ hq))];dsimp only at hc hd ⊢;rw[<- or_assoc];refine or_congr_left ?_;split<;>omega
  ·rw[Ty,Qal hs.2 hd (λq hq=>h5 q (.tail _ hq))]
theorem Q3E{K:LL->oP R}{k0:Int->Bool->LL->oP R}(hk:∀a b w,k0 a b w=K w){l:Y Sp2}(hl:l.length<=100):∀(aa:Y Sp2) (i m:Nat) (A:Y Sp2) (a b:Int),l.drop i=aa->aa.length<m->A.length+aa.length<=100 ->
  Xr n (l.length:Int) (l.map Yo) k0 m (i:Int) ((A++[(a,b)]).map Yo)=K ((A++mgS a b aa).map Yo)
 |[],i,m+1,A,a,b,hd,_,_=>by
  have:=We hd;rw[Xr,show decide ((i:Int)<(l.length:Int))=false by simp_all,Qra,hk,mgS]
 |(c,d)::aa,i,m+1,A,a,b,hd,hm,hA=>by
  obtain⟨e,am,hi⟩:=Yf hd;have ao:A.length<=100:=I
  have f:(l.map Yo)[i]? = some (Yo (c,d)):=by rw[Qrp,e];rfl
  have e1:(A++[(a,b)]).map Yo=A.map Yo++Yo (a,b)::[]:=by simp
  have ai:((A++[(a,b)]).map Yo).length=A.length+1:=by simp
  have g:((A++[(a,b)]).map Yo)[A.length]? = some (Yo (a,b)):=by rw[e1];exact QhG Q2
  have ak:∀v,((A++[(a,b)]).map Yo).set A.length (Yo (a,v))=(A++[(a,v)]).map Yo:=λv=>by rw[e1,QhY Q2];simp
  rw[Xr,Qs hi,Qrc,ai,G6 (show A.length+1<=1000 by omega) I,Nat.add_sub_cancel,Qrg,XR I I,XR I I,Q6 ((A.length:Int)>=0)];simp -implicitDefEqProofs only[Qh,Qrb,f,g,QK (show i<=1000 by omega)];simp -implicitDefEqProofs only[Qcn,QbP,Qk5,Qh,Qj,Qrc];rw[mgS];by_cases ac:c<=b
  ·rw[show decide (c<=b)=true from Qrm ac,Qrc,Qrv ac];rw[ak];exact Q3E hk hl aa (i+1) m A a _ am (by simpa using hm) (by simp at hA;omega)
  ·rw[show decide (c<=b)=false from Qri ac,Qra,Qrz ac,XK Q3,Qh];have:=Q3E hk hl aa (i+1) m (A++[(a,b)]) c d am (by simpa using hm) (by simp at hA ⊢;omega);rw[show A++(a,b)::mgS c d aa=A++[(a,b)]++mgS c d aa by simp,<- this,Qrk (l₂:=[(c,d)])];rfl
theorem t2a{x y:Y D}:decide ((0:Int)<(([x,y].length:Nat):Int))=true:=rfl
theorem t2b{x y:Y D}:decide ((1:Int)<(([x,y].length:Nat):Int))=true:=rfl
theorem t2c{x y:Y D}:decide ((2:Int)<(([x,y].length:Nat):Int))=false:=rfl
theorem t2d:wJ ((0:Int)+1)=1:=rfl
theorem t2e:wJ ((1:Int)+1)=2:=rfl
theorem t2f{x y:Y D}:Qi [x,y] 0=some x:=rfl
theorem t2g{x y:Y D}:Qi [x,y] 1=some y:=rfl
theorem Qfm{a b:Y Sp2}(h:a.length+b.length<=100):X2 400 [[D.sl 2 (a.map Yo)],[D.sl 2 (b.map Yo)]] (some:LL->oP LL)=some ((a++b).map Yo):=by
 have hg:∀k:Nat,k<=100->QV 400 (k:Int) (some:LL->oP LL)=some []:=λk hk=>by
  unfold QV;rw[Qp (Qri I),show wJ ((0:Int)-0)=0 from rfl,Qo (x:=(k:Int)-0) I I];by_cases c:k=0
  ·subst c;rfl
  ·rw[Xj (Qrm I),show slB 0 none (some (0:Int))=some (0,0)from rfl,Qh,Xj (Qrm I),Qh,XK I,Qh]
 unfold X2;rw[Qv];simp -implicitDefEqProofs only[t2a,t2b,t2c,t2d,t2e,t2f,t2g,Qrc,Qra,Qh,Qr9,X6,Qrg,Qo (x:=0+(a.length:Int)) I I,Qo (x:=0+(a.length:Int)+(b.length:Int)) I I,Q5 (0+(a.length:Int)<0),Q5 (0+(a.length:Int)+(b.length:Int)<0),show 0+(a.length:Int)+(b.length:Int)=((a.length+b.length:Nat):Int) by omega,Qo (x:=((a.length+b.length:Nat):Int)) I I,Q5 (((a.length+b.length:Nat):Int)<0),hg _ h];rw[Qv];simp -implicitDefEqProofs only[t2a,t2b,t2c,t2d,t2e,t2f,t2g,Qrc,Qra,Qh,Qr9,X6,Qrg,Qo (x:=0+(a.length:Int)) I I,Qo (x:=0+(a.length:Int)+(b.length:Int)) I I,Q5 (0+(a.length:Int)<0),Q5 (0+(a.length:Int)+(b.length:Int)<0),show 0+(a.length:Int)+(b.length:Int)=((a.length+b.length:Nat):Int) by omega,Qo (x:=((a.length+b.length:Nat):Int)) I I,Q5 (((a.length+b.length:Nat):Int)<0),hg _ h];rw[Qv];simp -implicitDefEqProofs only[t2a,t2b,t2c,t2d,t2e,t2f,t2g,Qrc,Qra,Qh,Qr9,X6,Qrg,Qo (x:=0+(a.length:Int)) I I,Qo (x:=0+(a.length:Int)+(b.length:Int)) I I,Q5 (0+(a.length:Int)<0),Q5 (0+(a.length:Int)+(b.length:Int)<0),show 0+(a.length:Int)+(b.length:Int)=((a.length+b.length:Nat):Int) by omega,Qo (x:=((a.length+b.length:Nat):Int)) I I,Q5 (((a.length+b.length:Nat):Int)<0),hg _ h];rw[Qw];simp -implicitDefEqProofs only[t2a,t2b,t2c,t2d,t2e,t2f,t2g,Qrc,Qra,Qh,Qr9,X6,Qrg,List.nil_append,List.length_nil,XK (show(0+a.length)*16<=100000 by omega),XK (show(a.length+b.length)*16<=100000 by omega),Qrk];rw[Qw];simp -implicitDefEqProofs only[t2a,t2b,t2c,t2d,t2e,t2f,t2g,Qrc,Qra,Qh,Qr9,X6,Qrg,List.nil_append,List.length_nil,XK (show(0+a.length)*16<=100000 by omega),XK (show(a.length+b.length)*16<=100000 by omega),Qrk];rw[Qw];simp -implicitDefEqProofs only[t2a,t2b,t2c,t2d,t2e,t2f,t2g,Qrc,Qra,Qh,Qr9,X6,Qrg,List.nil_append,List.length_nil,XK (show(0+a.length)*16<=100000 by omega),XK (show(a.length+b.length)*16<=100000 by omega),Qrk]
theorem Qg5{l:Y Sp2}:Lq [l.map Yo]=some ():=by
 unfold Lq;rw[show([l.map Yo].all An)=true by simp[An,Yo,Q6v]];rfl
theorem Qg2{t:Int}{a b:Y Sp2}(c:1<=t)(d:t<=7200)(ha:VS t (-1) a)(hb:VS t (-1) b)(hl:a.length<=300)(aa:b.length<=300):Tf 400 t [[D.sl 2 (a.map Yo)],[D.sl 2 (b.map Yo)]] (some:Int->oP Int)=some 0:=by
 unfold Tf;rw[Q2X c d,Qh,Qp (by rfl)];rw[U9];simp -implicitDefEqProofs only[t2a,t2b,t2c,t2d,t2e,t2f,t2g,Qrc,Qra,Qh,Qr9,X6,Q0k c d hl ha,Q0k c d aa hb,Qrn];rw[U9];simp -implicitDefEqProofs only[t2a,t2b,t2c,t2d,t2e,t2f,t2g,Qrc,Qra,Qh,Qr9,X6,Q0k c d hl ha,Q0k c d aa hb,Qrn];rw[U9];simp -implicitDefEqProofs only[t2a,t2b,t2c,t2d,t2e,t2f,t2g,Qrc,Qra,Qh,Qr9,X6,Q0k c d hl ha,Q0k c d aa hb,Qrn]
theorem Qhi{t:Int}{a b:Y Sp2}(e:1<=t)(f:t<=7200)(ha:VS t (-1) a)(hb:VS t (-1) b)(hl:a.length+b.length<=12):∃c:Y Sp2,Tn 400 t (a.map Yo) (b.map Yo) Tu2=some (c.map Yo,(0:Int))/\VS t (-1) c/\c.length<=a.length+b.length/\∀y,InS y c↔InS y a\/InS y b:=by
 obtain⟨L,s1,s2,d⟩:=Qjr (l:=a++b) Q3;have hr:∀q∈L,-1<q.1/\q.1<q.2/\q.2<=t:=λq hq=>by
  rcases Qrj.1 (d.mem_iff.1 hq)with h | h
  ·exact ha.rng q h
  ·exact hb.rng q h
 have aa:L.length=a.length+b.length:=by rw[d.length_eq];simp
 unfold Tn;rw[Qg2 e f ha hb I I,Qh,Qp (by rfl),Qfm I,Qh,Qg5,Qh];unfold HV;rw[s1,Qh,MS (by simp[aa]),Qh,Qrg];cases L with
 |nil=>
  refine⟨[],?_,trivial,by simp,λy=>?_⟩
  ·rw[Qrg,<- d.length_eq,Xr,show decide ((0:Int)<((([]:Y Sp2).length:Nat):Int))=false from rfl,Qra];rfl
  ·rw[<- QaS,<- Q7A d]
 |cons q L=>
  obtain⟨x,z⟩:=q;have hq:=hr (x,z) (.head _);have ac:L.length+1<=12:=by simp at aa;omega
  have hm:=Q3E (n:=400) (K:=λw=>(some (w,((x,z)::L).map Yo):oP (LL×LL))) (k0:=λ_ _ w=>some (w,((x,z)::L).map Yo)) (λ_ _ _=>rfl) (l:=(x,z)::L) Q3 L 1 399 [] x z rfl I Q3;have ai:∀k0:Int->Bool->LL->oP (LL×LL),Xr 400 ((((x,z)::L).length:Nat):Int) (((x,z)::L).map Yo) k0 400 0 []=Xr 400 ((((x,z)::L).length:Nat):Int) (((x,z)::L).map Yo) k0 399 ((1:Nat):Int) (([]++[(x,z)]).map Yo):=λk0=>by
   rw[Xr,show decide ((0:Int)<((((x,z)::L).length:Nat):Int))=true from Qrm Q2,Qrc,XR I Q2,show(((x,z)::L).map Yo)[Int.toNat 0]? = some (Yo (x,z))from rfl,show decide (wJ (((([]:LL).length:Nat):Int)-1)>=0)=false from rfl];simp -implicitDefEqProofs only[Qh,Qcn,QbP,gbF,Qra,t2d];rw[XK Q2,Qh];rfl
  refine⟨mgS x z L,?_,Qat hq.1 hq.2.1 hq.2.2 s2 (λq h=>(hr q (.tail _ h)).2),?_,λy=>?_⟩
  ·rw[ai,hm,Qh,MS (by simp at aa ⊢;omega),Qh];rfl
  ·have:=Q6w (a:=x) (b:=z) (r:=L);simp at aa;omega
  ·rw[Qal s2 hq.2.1 (λq h=>(hr q (.tail _ h)).2.1),<- QaS,<- Q7A d,Ty]
end
def FB(t:Int)(A B:Y Occ)(y:Int):Prop:=∃x a b c d,(x,a,b)∈A/\(x,c,d)∈B/\(y-(a-d+1)) % t<b-a+d-c-1
theorem Qc8{t:Int}{q:Occ}{A B:Y Occ}{y:Int}(h:∀p∈B,p.1≠q.1):FB t (q::A) B y↔FB t A B y:=by
 constructor
 ·rintro⟨x,a,b,c,d,e,h2,f⟩;cases e with
  |head=>grind
  |tail _ e=>exact⟨x,a,b,c,d,e,h2,f⟩
 ·rintro⟨x,a,b,c,d,e,h2,f⟩;exact⟨x,a,b,c,d,.tail _ e,h2,f⟩
theorem Qco{t:Int}{q:Occ}{A B:Y Occ}{y:Int}(h:∀p∈A,p.1≠q.1):FB t A (q::B) y↔FB t A B y:=by
 constructor
 ·rintro⟨x,a,b,c,d,e,h2,f⟩;cases h2 with
  |head=>grind
  |tail _ h2=>exact⟨x,a,b,c,d,e,h2,f⟩
 ·rintro⟨x,a,b,c,d,e,h2,f⟩;exact⟨x,a,b,c,d,e,.tail _ h2,f⟩
theorem Qfj{t x a b c d:Int}{A B:Y Occ}{y:Int}(hA:∀p∈A,p.1≠x)(hB:∀p∈B,p.1≠x):FB t ((x,a,b)::A) ((x,c,d)::B) y↔(y-(a-d+1)) % t<b-a+d-c-1\/FB t A B y:=by
 constructor
 ·rintro⟨x',a',b',c',d',e,h2,f⟩;cases e with
  |head=>
   grind
  |tail _ e=>
   cases h2 with
   |head=>exact(hA (x,a',b') e rfl).elim
   |tail _ h2=>exact .inr ⟨x',a',b',c',d',e,h2,f⟩
 ·rintro (h | ⟨x',a',b',c',d',e,h2,f⟩)
  ·exact⟨x,a,b,c,d,.head _,.head _,h⟩
  ·exact⟨x',a',b',c',d',.tail _ e,.tail _ h2,f⟩
theorem QhH(y f t:Int):(y-f % t) % t=(y-f) % t:=by
 rw[Int.sub_emod,Int.emod_emod,<- Int.sub_emod]
section
variable{R:Type} {n:Nat} {t:Int}
theorem Mw(q:Occ):(enc q)[0]? = some (Ql q.1):=rfl
theorem Ff(q:Occ):(enc q)[1]? = some (Ql q.2.1):=rfl
theorem Et(q:Occ):(enc q)[2]? = some (Ql q.2.2):=rfl
theorem Q4E{O:Y Occ}(hl:O.length<=1000){k0:oP R}{k1:Int->Int->Bool->oP R}{E:oP R}(hk:∀a b c,k1 a b c=E):∀(aa:Y Occ) (i m:Nat) (last:Int),O.drop i=aa->aa.length<m->OL last aa->Ue n (O.map enc) (O.length:Int) k0 k1 m last (i:Int)=E
 |[],i,m+1,last,hd,_,_=>by
  have:=We hd;rw[Ue,show decide ((i:Int)<(O.length:Int))=false by simpa using this,Qra,hk]
 |(x,a,b)::aa,i,m+1,last,hd,hm,⟨d,h2,f,g,h5,h6⟩=>by
  obtain⟨e,ac,hi⟩:=Yf hd;rw[Ue,Qs hi,Qrc,X7 e];simp -implicitDefEqProofs only[Qh,Mw,Ff,Et,Qj,Q5 (x<=last),Q5 (a>=b),Q5 (a < -65536),Q5 (b>65536),Qra,QK (show i<=1000 by omega)];exact Q4E hl hk aa (i+1) m x ac (by simpa using hm) h6
theorem Q5O{O:Y Occ}(hl:O.length<=300)(h:OL (-1) O):Jw 400 (O.map enc) (some:Bool->oP Bool)=some true:=by
 unfold Jw;rw[Qrg];exact Q4E I (λ_ _ _=>rfl) O 0 400 (-1) rfl I h
theorem QjR{α:Type}(q:α)(l:Y α):slB (q::l).length (some (1:Int)) none=some (1,l.length+1)/\cut (q::l) (1,l.length+1)=l:=by
 grind[slB,cut]
theorem Fz(e:1<=t)(j:t<=7200){K:LL->oP R}{k0:LL->LL->Bool->LL->oP R}(hk:∀a b c w,k0 a b c w=K w):∀(m:Nat) (A B:Y Occ) (acc:Y Sp2) (lA lB:Int),A.length+B.length<m->OL lA A->OL lB B->VS t (-1) acc->acc.length+2*A.length<=12 ->
  ∃aa:Y Sp2,QH 400 t k0 m (A.map enc) (B.map enc) (acc.map Yo)=K (aa.map Yo)/\VS t (-1) aa/\aa.length<=12/\∀y,0<=y->y<t->(InS y aa↔InS y acc\/FB t A B y)
 |m+1,[],B,acc,lA,lB,_,_,_,hv,hl=>by
  refine⟨acc,?_,hv,I,λy _ _=>⟨.inl,?_⟩⟩
  ·rw[QH,show decide (((([]:Y Occ).map enc).length:Int)>0)=false from rfl,Qra,Qra,hk]
  ·rintro (h | ⟨x,a,b,c,d,h,_⟩)
   all_goals grind
 |m+1,q::A,[],acc,lA,lB,_,_,_,hv,hl=>by
  refine⟨acc,?_,hv,by simp at hl;omega,λy _ _=>⟨.inl,?_⟩⟩
  ·rw[QH,show decide (((([]:Y Occ).map enc).length:Int)>0)=false from rfl,show decide ((((q::A).map enc).length:Int)>0)=true from Qrm Q2,Qrc,Qra,hk]
  ·rintro (h | ⟨x,a,b,c,d,_,h,_⟩)
   ·exact h
   ·nomatch h
 |m+1,(x,a,b)::A,(x',c,d)::B,acc,lA,lB,hm,hA,hB,hv,hl=>by
  obtain⟨a1,a2,a3,a4,a5,v⟩:=id hA;obtain⟨b1,b2,b3,b4,b5,z⟩:=id hB;have ar:A.length+B.length+2<m+1:=by simp at hm;omega
  have a7:acc.length+2*A.length+2<=12:=by simp at hl;omega
  have cA:=QjR (enc (x,a,b)) (A.map enc);have cB:=QjR (enc (x',c,d)) (B.map enc);have ai:∀p∈A,x<p.1:=λp hp=>(v.mem p hp).1
  have ac:∀p∈B,x'<p.1:=λp hp=>(z.mem p hp).1
  rw[QH];simp -implicitDefEqProofs only[List.map_cons,show decide ((((enc (x,a,b)::A.map enc).length:Nat):Int)>0)=true from Qrm Q2,show decide ((((enc (x',c,d)::B.map enc).length:Nat):Int)>0)=true from Qrm Q2,Qrc,show ∀(r:Y D) (l:LL),Qi (r::l) 0=some r from λ_ _=>rfl,Qh,Mw,Ff,Et,Qj,cA,cB];rcases Int.lt_trichotomy x x' with hx | hx | hx
  ·rw[show(x == x')=false by simp;omega,Q6 (x<=x'),Q5 (x>=x')];simp -implicitDefEqProofs only[Qrc,Qra];obtain⟨aa,g1,n,o,s⟩:=Fz e j hk m A ((x',c,d)::B) acc x lB Q3 v hB hv I;refine⟨aa,g1,n,o,λy g i=>?_⟩;rw[s y g i,Qc8 (λp hp=>?_)];cases hp with
   |head=>dsimp only;omega
   |tail _ hp=>have:=ac p hp;dsimp only;omega
  ·subst hx;have f0:wJ (wJ (a-d)+1)=a-d+1:=by rw[Qo (x:=a-d) I I,Qo I I]
   have f1:wJ (wJ (wJ (wJ (b-c)-1)-(a-d+1))+1)=b-a+d-c-1:=by
    rw[Qo (x:=b-c) I I,Qo (x:=b-c-1) I I,Qo (x:=b-c-1-(a-d+1)) I I,Qo I I];omega
   have e0:=Qrw (a-d+1) (show t≠0 by omega);have e1:=Qrt (a-d+1) (show 0<t by omega);have am:=Qiq (t:=t) (f:=a-d+1) (k:=b-a+d-c-1) e j I I I I;have a8:=Qah (t:=t) (x:=(a-d+1) % t) (k:=b-a+d-c-1);obtain⟨u,u1,u2,u3,u4⟩:=Qhi e j hv (Qc9 (k:=b-a+d-c-1) e e0 e1) I;rw[show(x == x)=true by simp,Q6 (x<=x)];simp -implicitDefEqProofs only[Qrc];unfold Zj;rw[f0,f1,am,Qh,u1,Qh,Qg5,Qh];obtain⟨aa,g1,n,o,s⟩:=Fz e j hk m A B u x x I v z u2 I;refine⟨aa,g1,n,o,λy g i=>?_⟩;rw[s y g i,u4,QcN e0 e1 g i,QhH,Qfj (λp hp=>by have:=ai p hp;omega) (λp hp=>by have:=ac p hp;omega),or_assoc]
  ·rw[show(x == x')=false by simp;omega,Q5 (x<=x'),Q6 (x>=x')];simp -implicitDefEqProofs only[Qrc,Qra];obtain⟨aa,g1,n,o,s⟩:=Fz e j hk m ((x,a,b)::A) B acc lA x' Q3 hA z hv hl;refine⟨aa,g1,n,o,λy g i=>?_⟩;rw[s y g i,Qco (λp hp=>?_)];cases hp with
   |head=>dsimp only;omega
   |tail _ hp=>have:=ai p hp;dsimp only;omega
theorem Qiv{A B:Y Occ}(a:1<=t)(b:t<=7200)(hA:OL (-1) A)(hB:OL (-1) B)(lA:A.length<=6)(lB:B.length<=6):∃F:Y Sp2,Ju 400 t (A.map enc) (B.map enc) Tu2=some (F.map Yo,(0:Int))/\VS t (-1) F/\F.length<=12/\∀y,0<=y->y<t->(InS y F↔FB t A B y):=by
 obtain⟨F,g1,e,f,g⟩:=Fz a b (K:=λw=>(some w:oP LL)) (k0:=λ_ _ _ w=>some w) (λ_ _ _ _=>rfl) 400 A B [] (-1) (-1) I hA hB trivial Q3;refine⟨F,?_,e,f,λy i j=>?_⟩
 ·unfold Ju;dsimp only[jn];rw[Q5O I hA,Q5O I hB,Q5 (t<1),Q5 (t>7200)];simp -implicitDefEqProofs only[Qra,Qh,Qrn];unfold H5;rw[show QH 400 t (λl m n k=>(some k:oP LL)) 400 (A.map enc) (B.map enc) []=_ from g1,Qh]
 ·rw[g y i j];exact⟨λh=>h.elim (λh=>absurd h Fe) id,.inr⟩
def Q4c(t:Int)(q:Sp2):Sp2:=(q.2,q.1+t-1)
theorem Qde(c:t<=7200)(d:1<=t){K:LL->oP R}{k0:Int->Bool->LL->oP R}(hk:∀a b w,k0 a b w=K w){l:Y Sp2}(hl:l.length<=1000):∀(aa:Y Sp2) (i m:Nat),l.drop i=aa->aa.length<m->(∀q∈l,-1<q.1/\q.1<=t)->ZK n t (l.map Yo) (l.length:Int) k0 m (i:Int) (((l.take i).map (Q4c t)).map Yo)=K ((l.map (Q4c t)).map Yo)
 |[],i,m+1,hd,_,_=>by
  have:=We hd;rw[ZK,show decide ((i:Int)<(l.length:Int))=false by simpa using this,Qra,hk,List.take_of_length_le this]
 |(a,b)::aa,i,m+1,hd,hm,hr=>by
  obtain⟨e,ac,hi⟩:=Yf hd;have ha:=hr (a,b) (Qrd e);rw[ZK,Qs hi,Qrc,X7 e];simp -implicitDefEqProofs only[Qh,Qcn,QbP,Qj,QK (show i<=1000 by omega),Qo (x:=a+t) I I,Qo (x:=a+t-1) I I,XK (show((((l.take i).map (Q4c t)).map Yo).length+[[D.int .i64 b,D.int .i64 (a+t-1)]].length)*16<=100000 by simp;omega)];have:=Qde c d hk hl aa (i+1) m ac (by simpa using hm) hr;rw[ZC e,Qrk,Qrk]at this;exact this
theorem Qd5(c:t<=7200)(d:1<=t){K:LL->oP R}{k0:Int->Bool->LL->oP R}(hk:∀a b w,k0 a b w=K w){l:Y Sp2}(hl:l.length<=1000):∀(aa:Y Sp2) (i m:Nat),l.drop i=aa->aa.length<m->(∀q∈l,-1<q.1/\q.1<=t)->YT n t (l.length:Int) (l.map Yo) k0 m (i:Int) (((l.take i).map (Q4c t)).map Yo)=K ((l.map (Q4c t)).map Yo)
 |[],i,m+1,hd,_,_=>by
  have:=We hd;rw[YT,show decide ((i:Int)<(l.length:Int))=false by simp_all,Qra,hk,List.take_of_length_le this]
 |(a,b)::aa,i,m+1,hd,hm,hr=>by
  obtain⟨e,ac,hi⟩:=Yf hd;have ha:=hr (a,b) (Qrd e);have f:(l.map Yo)[i]? = some (Yo (a,b)):=by rw[Qrp,e];rfl
  rw[YT,Qs hi,Qrc,Qrg,XR I I,Qrb,f];simp -implicitDefEqProofs only[Qh,Qcn,QbP,Qj,QK (show i<=1000 by omega),Qo (x:=a+t) I I,Qo (x:=a+t-1) I I,XK (show((((l.take i).map (Q4c t)).map Yo).length+[[D.int .i64 b,D.int .i64 (a+t-1)]].length)*16<=100000 by simp;omega)];have:=Qd5 c d hk hl aa (i+1) m ac (by simpa using hm) hr;rw[ZC e,Qrk,Qrk]at this;exact this
def WR(t:Int)(F G:Y Sp2):Prop:=(G=F/\∀b M c,F≠(0,b)::(M++[(c,t)]))\/∃b M c,F=(0,b)::(M++[(c,t)])/\G=M++[(c,t+b)]
theorem Qcs{A B:Y Occ}(r:2<=t)(f:t<=7200)(hA:OL (-1) A)(hB:OL (-1) B)(lA:A.length<=6)(lB:B.length<=6):∃F G:Y Sp2,VS t (-1) F/\F.length<=12/\(∀y,0<=y->y<t->(InS y F↔FB t A B y))/\WR t F G /\
  WS 400 t (A.map enc) (B.map enc) Tu2=some (if cnt F=t then([],(13:Int))else((G.map (Q4c t)).map Yo,(0:Int))):=by
 obtain⟨F,g1,j,k,m⟩:=Qiv (t:=t) I f hA hB lA lB;have hr:=j.rng;suffices h:∃G,WR t F G/\WS 400 t (A.map enc) (B.map enc) Tu2=some (if cnt F=t then([],(13:Int))else((G.map (Q4c t)).map Yo,(0:Int))) by
  obtain⟨G,h⟩:=h;exact⟨F,G,j,k,m,h⟩
 unfold WS;rw[g1,Qh,Qp (by rfl)];dsimp only;rw[QhP I f I j,Qh];have aa:YT 400 t (F.length:Int) (F.map Yo) (λs u o=>(some (o,(0:Int)):oP (LL×Int))) 400 0 []=some ((F.map (Q4c t)).map Yo,(0:Int)):=Qd5 f I (K:=λw=>some (w,(0:Int))) (k0:=λ_ _ w=>some (w,(0:Int))) (λ_ _ _=>rfl) I F 0 400 rfl I (λq hq=>by have:=hr q hq;omega);by_cases ac:cnt F=t
 ·simp only[Qrv ac];rw[Xj (by simpa using ac)];by_cases hw:∃b M c,F=(0,b)::(M++[(c,t)])
  ·obtain⟨b,M,c,e⟩:=hw;exact⟨_,.inr ⟨b,M,c,e,rfl⟩,rfl⟩
  ·exact⟨F,.inl ⟨rfl,λb M c e=>hw ⟨b,M,c,e⟩⟩,rfl⟩
 simp only[Qrz ac];rw[Qp (by simpa using ac),Qrg];rcases F with _ | ⟨⟨a,b⟩,F⟩
 ·refine⟨[],.inl ⟨rfl,λb M c e=>(nomatch e)⟩,?_⟩;rw[show decide (((([]:Y Sp2).length:Nat):Int)>1)=false from rfl];simp -implicitDefEqProofs only[gbF,Qra];exact aa
 rcases List.eq_nil_or_concat F with rfl | ⟨M,⟨c,d⟩,rfl⟩
 ·refine⟨[(a,b)],.inl ⟨rfl,λb M c e=>by have:=congrArg List.length e;simp at this⟩,?_⟩;rw[show decide ((((([(a,b)]:Y Sp2)).length:Nat):Int)>1)=false from rfl];simp -implicitDefEqProofs only[gbF,Qra];exact aa
 have hM:M.length<=10:=by simp at k;omega
 have ai:((a,b)::(M++[(c,d)])).length=M.length+1+1:=by simp
 have ay:=hr (c,d) Q2;have an:=hr (a,b) Q2;have e1:((a,b)::(M++[(c,d)])).map Yo=(Yo (a,b)::M.map Yo)++Yo (c,d)::[]:=by simp
 have gl:(((a,b)::(M++[(c,d)])).map Yo)[M.length+1]? = some (Yo (c,d)):=by rw[e1];exact QhG Q2
 have sl:∀v,(((a,b)::(M++[(c,d)])).map Yo).set (M.length+1) (Yo (c,v))=((a,b)::(M++[(c,v)])).map Yo:=λv=>by rw[e1,QhY Q2];simp
 rw[List.concat_eq_append]at *
 rw[ai,Q6 (((M.length+1+1:Nat):Int)>1),G6 (show M.length+1+1<=1000 by omega) I,Nat.add_sub_cancel,XR I I,XR I I];simp -implicitDefEqProofs only[Qh,Qrb,gl,Qrc,show(((a,b)::(M++[(c,d)])).map Yo)[Int.toNat 0]? = some (Yo (a,b))from rfl,Qcn,QbP,Qj,Qk5];by_cases am:a=0/\d=t
 ·obtain⟨rfl,rfl⟩:=am;refine⟨M++[(c,d+b)],.inr ⟨b,M,c,rfl,rfl⟩,?_⟩;rw[show((0:Int) == 0)=true from rfl,show(d == d)=true by simp,Qrc,Qrc,Qo (x:=d+b) I I,sl];have ak:=QjR (Yo (0,b)) ((M++[(c,d+b)]).map Yo);rw[List.map_cons,ak.1,Qh,ak.2,Qrg];exact Qde (n:=400) f I (K:=λw=>(some (w,(0:Int)):oP (LL×Int))) (k0:=λ_ _ w=>some (w,(0:Int))) (λ_ _ _=>rfl) (l:=M++[(c,d+b)]) Q3 (M++[(c,d+b)]) 0 400 rfl Q3 (λq hq=>by
   rcases Qrj.1 hq with h | h
   ·have:=hr q (.tail _ (QrK _ h));omega
   ·obtain rfl:=Qro.1 h;dsimp only at *
    omega)
 ·have hz:(bif (a == (0:Int))then(d == t)else false)=false:=by
   by_cases ha:a=0
   ·rw[ha,show((0:Int) == 0)=true from rfl,Qrc];simp only[beq_eq_false_iff_ne];exact λh=>am ⟨ha,h⟩
   ·rw[show(a == (0:Int))=false by simpa using ha,Qra]
  refine⟨_,.inl ⟨rfl,λb' M' c' e=>am ?_⟩,?_⟩
  ·have e2:=List.cons.inj e;have p:=List.append_inj_right' e2.2 rfl;have:=(Prod.mk.inj e2.1).1;have:=(Prod.mk.inj (List.cons.inj p).1).2;exact⟨I,I⟩
  rw[hz,Qra];rw[ai]at aa;exact aa
end
theorem TP{α β:Type}{r:Nat->Int->β}{l:Y α}{p:α->Bool}{E0 E1:β}(a:∀m i q,l[i]? = some q->i<l.length->r (m+1) (i:Int)=bif p q then r m ((i+1:Nat):Int)else E0)(b:∀m,r (m+1) (l.length:Int)=E1){fuel:Nat}(hf:l.length<fuel):r fuel 0=bif l.all p then E1 else E0:=by
 have go:∀(aa:Y α) (i m:Nat),l.drop i=aa->aa.length<m->i<=l.length->r m (i:Int)=bif aa.all p then E1 else E0:=by
  intro aa;induction aa with
  |nil=>
   intro i m hd hm hi;obtain⟨m,rfl⟩:∃k,m=k+1:=⟨m-1,I⟩
   grind
  |cons q aa ih=>
   intro i m hd hm hi;obtain⟨m,rfl⟩:∃k,m=k+1:=⟨m-1,I⟩
   grind[Yf]
 exact go l 0 fuel rfl hf (Nat.zero_le _)
theorem FS{α β S:Type}{r:Nat->Int->S->β}{l:Y α}{f:S->α->S}{E:S->β}(a:∀m i q s,l[i]? = some q->i<l.length->r (m+1) (i:Int) s=r m ((i+1:Nat):Int) (f s q))(b:∀m s,r (m+1) (l.length:Int) s=E s){fuel:Nat}(hf:l.length<fuel)(s:S):r fuel 0 s=E (l.foldl f s):=by
 have go:∀(aa:Y α) (i m:Nat) (s:S),l.drop i=aa->aa.length<m->i<=l.length->r m (i:Int) s=E (aa.foldl f s):=by
  intro aa;induction aa with
  |nil=>
   intro i m s hd hm hi;obtain⟨m,rfl⟩:∃k,m=k+1:=⟨m-1,I⟩
   grind
  |cons q aa ih=>
   intro i m s hd hm hi;obtain⟨m,rfl⟩:∃k,m=k+1:=⟨m-1,I⟩;obtain⟨e,ai,ac⟩:=Yf hd;rw[a m i q s e ac,QrR,ih (i+1) m _ ai Q4 ac]
 exact go l 0 fuel s rfl hf (Nat.zero_le _)
theorem Ek{α:Type}{p:α->Bool}:∀{l:Y α} {c:Bool},l.foldl (λc q=>c||p q) c=(c||l.any p)
 |[],c=>(Bool.or_false c).symm
 |q::l,c=>by rw[QrR,Ek,List.any_cons,Bool.or_assoc]
def LN(t:Int)(q:Occ):Bool:=!decide (q.2.2-q.2.1>t)
theorem QjY{l:Int}{O:Y Occ}(hO:OL l O){q:Occ}(hq:q∈O):wJ (q.2.2-q.2.1)=q.2.2-q.2.1:=by
 have:=hO.mem q hq
 grind[Qo]
theorem Qh9{t:Int}{O:Y Occ}(a:1<=t)(b:t<=7200)(hO:OL (-1) O)(hl:O.length<=300):Tb 400 t (O.map enc) (some:Bool->oP Bool)=some (O.all (LN t)):=by
 unfold Tb;rw[Q5 (t<1),Q5 (t>7200),Q5O hl hO];simp -implicitDefEqProofs only[Qra,Qh,Qrn,QrA,Qrg];refine(TP (r:=λm i=>Uk 400 t (O.map enc) (O.length:Int) (some false) (λ_ _=>some true) m i) (l:=O) (p:=LN t) (E0:=some false) (E1:=some true) (λm i q e hi=>?_) (λm=>?_) I).trans (by cases O.all (LN t)<;>rfl)
 ·rw[Uk,Qs hi,Qrc,X7 e];simp -implicitDefEqProofs only[Qh,Mw,Ff,Et,Qj,QK (show i<=1000 by omega),QjY hO (Qrd e)];unfold LN;cases decide (q.2.2-q.2.1>t)<;>rfl
 ·rw[Uk,Qy,Qra]
def tie(la:Int)(x y:Occ):Bool:=bif x.1 == y.1 then decide (la+y.2.1<=x.2.2)else false
def Q3K(per la mo:Int)(x y:Occ):Bool:=decide ((if x.2.2<mo+y.2.2 then mo+y.2.2 else x.2.2)-(if la+y.2.1<x.2.1 then la+y.2.1 else x.2.1)>per)
def Qad(per la mo:Int)(A B:Y Occ):Bool:=A.any λx=>B.any λy=>bif tie la x y then Q3K per la mo x y else false
def Q5m(la:Int)(A B:Y Occ)(r:Int):Bool:=A.any λx=>B.any λy=>bif tie la x y then x.1 == r else false
namespace Cx
variable{R:Type} {n:Nat} {X:Cx}
theorem QiA{per la mo:Int}{O:Y Occ}(hO:OL (-1) O)(hl:O.length<=300){x:Occ}(hx : -1000<=x.2.1/\x.2.1<x.2.2/\x.2.2<=20000)(d:0<=la)(f:la<=20000)(h2:0<=mo)(g:mo<=20000){k0:Int->Bool->Bool->oP R}{Kc:Bool->oP R}(hk:∀a b c,k0 a b c=Kc c)(c:Bool) :
  X1 n (O.map enc) (O.length:Int) la (Ql x.1) (Ql x.2.1) (Ql x.2.2) per la mo k0 400 0 c=Kc (c||O.any λy=>bif tie la x y then Q3K per la mo x y else false):=by
 rw[<- Ek];refine FS (r:=λm i c=>X1 n (O.map enc) (O.length:Int) la (Ql x.1) (Ql x.2.1) (Ql x.2.2) per la mo k0 m i c) (E:=Kc) (λm i q c e hi=>?_) (λm c=>?_) I c
 ·have:=hO.mem q (Qrd e);rw[X1,Qs hi,Qrc,X7 e];simp -implicitDefEqProofs only[Qh,Mw,Ff,Et,Qj,QK (show i<=1000 by omega),Qo (x:=la+q.2.1) I I];unfold Yl;simp -implicitDefEqProofs only[Qh,Qo (x:=la+q.2.1) I I,Qo (x:=mo+q.2.2) I I];rw[Qo (x:=(if x.2.2<mo+q.2.2 then mo+q.2.2 else x.2.2)-(if la+q.2.1<x.2.1 then la+q.2.1 else x.2.1)) (by split<;>split<;>omega) (by split<;>split<;>omega)];show(bif tie la x q then X1 n (O.map enc) (O.length:Int) la (Ql x.1) (Ql x.2.1) (Ql x.2.2) per la mo k0 m ((i+1:Nat):Int) (bif c then true else Q3K per la mo x q)else _)=_;cases tie la x q<;>cases c<;>rfl
 ·rw[X1,Qy,Qra,hk]
theorem map1{la:Int}{O:Y Occ}(hO:OL (-1) O)(hl:O.length<=300){x:Occ}(d:0<=la)(f:la<=20000){k0:Int->Bool->(Int->Bool)->oP R}{Kc:(Int->Bool)->oP R}(hk:∀a b c,k0 a b c=Kc c)(c:Int->Bool) :
  Xe n (O.map enc) (O.length:Int) la (Ql x.1) (Ql x.2.1) (Ql x.2.2) k0 400 0 c=Kc (O.foldl (λc y=>bif tie la x y then Q8b c x.1 true else c) c):=by
 refine FS (r:=λm i c=>Xe n (O.map enc) (O.length:Int) la (Ql x.1) (Ql x.2.1) (Ql x.2.2) k0 m i c) (E:=Kc) (λm i q c e hi=>?_) (λm c=>?_) I c
 ·have:=hO.mem q (Qrd e);rw[Xe,Qs hi,Qrc,X7 e];simp -implicitDefEqProofs only[Qh,Mw,Ff,Et,Qj,QK (show i<=1000 by omega),Qo (x:=la+q.2.1) I I];unfold XM;simp -implicitDefEqProofs only[Qh];show(bif tie la x q then _ else _)=_;cases tie la x q<;>rfl
 ·rw[Xe,Qy,Qra,hk]
theorem QgE{q:Int->Bool}{x r:Int}:Q8b q x true r=(q r||(x == r)):=by
 grind[Q8b]
theorem QgO{la:Int}{x:Occ}{r:Int}:∀{O:Y Occ} {c:Int->Bool},O.foldl (λc y=>bif tie la x y then Q8b c x.1 true else c) c r=(c r||O.any λy=>bif tie la x y then x.1 == r else false)
 |[],c=>(Bool.or_false _).symm
 |y::O,c=>by
  rw[QrR,QgO,List.any_cons];cases tie la x y
  ·rfl
  ·rw[Qrc,Qrc,QgE,Bool.or_assoc]
def occN(X:Cx)(a:Nat):Y Occ:=(X.occs X.L).getD a []
def N(X:Cx):Nat:=base X.nr X.L
variable(h:X.OK)
include h
theorem JC{a:Nat}(ha:a<X.N):Qi (Kf (X.occs X.L)) (a:Int)=some [D.sl 3 ((X.occN a).map enc)]/\OL (-1) (X.occN a)/\(X.occN a).length<=6:=by
 obtain⟨i,k,b,h2,rfl⟩:=Q2W ha;have e:X.occN (base X.nr i+k)=X.occ i k:=by
  unfold occN;rw[Qrh,show(X.occs X.L)[base X.nr i+k]? = some (X.occ i k)from Q2o h2 b];rfl
 rw[e];exact⟨QgR b h2,QgQ h b h2⟩
theorem QeV:X.jns.length<=30:=by
 have:=Qfi h (i:=X.L) (QrN _);have:=h.tl
 grind[jns,List.length_append,List.length_map]
structure JOK(X:Cx)(J:List Tup):Prop where
 at':∀t∈J,t.1<X.N/\t.2.1<X.N/\0<=t.2.2.1/\t.2.2.1<=20000/\0<=t.2.2.2/\t.2.2.2<=20000
 len:J.length<=30
theorem Qjl{J:Y Tup}(hJ:X.JOK J){per:Int}{t:Tup}(ht:t∈J)(K:Bool->oP R):Wf 400 per (Kf (X.occs X.L)) (t.1:Int) (t.2.1:Int) t.2.2.1 t.2.2.1 t.2.2.2 false K=K (Qad per t.2.2.1 t.2.2.2 (X.occN t.1) (X.occN t.2.1)):=by
 have hj:=hJ.at' t ht;have oa:=JC h hj.1;have ob:=JC h hj.2.1;unfold Wf Qad;rw[oa.1];simp -implicitDefEqProofs only[Qh,Qr9,X6,Qrg];rw[<- Bool.false_or (List.any _ _),<- Ek];refine FS (r:=λm i c=>XC 400 ((X.occN t.1).map enc) (((X.occN t.1).length:Nat):Int) (t.2.1:Int) t.2.2.1 per (Kf (X.occs X.L)) t.2.2.1 t.2.2.2 (λb d a=>K a) m i c) (E:=K) (λm i q c e hi=>?_) (λm c=>?_) I false
 ·have hq:=oa.2.1.mem q (Qrd e);rw[XC,Qs hi,Qrc,X7 e,ob.1];simp -implicitDefEqProofs only[Qh,Mw,Ff,Et,Qr9,X6,Qrg,QK (show i<=1000 by omega)];exact QiA (per:=per) ob.2.1 I ⟨hq.2.1,hq.2.2.1,hq.2.2.2.1⟩ hj.2.2.1 hj.2.2.2.1 hj.2.2.2.2.1 hj.2.2.2.2.2 (Kc:=λc=>XC 400 ((X.occN t.1).map enc) (((X.occN t.1).length:Nat):Int) (t.2.1:Int) t.2.2.1 per (Kf (X.occs X.L)) t.2.2.1 t.2.2.2 (λb d a=>K a) m ((i+1:Nat):Int) c) (λ_ _ _=>rfl) c
 ·rw[XC,Qy,Qra]
theorem QkF{J:Y Tup}(hJ:X.JOK J){t:Tup}(ht:t∈J)(q:Int->Bool):∃q',(∀K:(Int->Bool)->oP R,Wg 400 (Kf (X.occs X.L)) (t.1:Int) (t.2.1:Int) t.2.2.1 q K=K q')/\∀r,q' r=(q r||Q5m t.2.2.1 (X.occN t.1) (X.occN t.2.1) r):=by
 have hj:=hJ.at' t ht;have oa:=JC h hj.1;have ob:=JC h hj.2.1;refine⟨(X.occN t.1).foldl (λq x=>(X.occN t.2.1).foldl (λc y=>bif tie t.2.2.1 x y then Q8b c x.1 true else c) q) q,λK=>?_,λr=>?_⟩
 ·unfold Wg;rw[oa.1];simp -implicitDefEqProofs only[Qh,Qr9,X6,Qrg];refine FS (r:=λm i c=>XE 400 ((X.occN t.1).map enc) (((X.occN t.1).length:Nat):Int) (t.2.1:Int) t.2.2.1 (Kf (X.occs X.L)) (λb d a=>K a) m i c) (E:=K) (λm i q c e hi=>?_) (λm c=>?_) I q
  ·rw[XE,Qs hi,Qrc,X7 e,ob.1];simp -implicitDefEqProofs only[Qh,Mw,Ff,Et,Qr9,X6,Qrg,QK (show i<=1000 by omega)];exact map1 ob.2.1 I hj.2.2.1 hj.2.2.2.1 (Kc:=λc=>XE 400 ((X.occN t.1).map enc) (((X.occN t.1).length:Nat):Int) (t.2.1:Int) t.2.2.1 (Kf (X.occs X.L)) (λb d a=>K a) m ((i+1:Nat):Int) c) (λ_ _ _=>rfl) c
  ·rw[XE,Qy,Qra]
 ·unfold Q5m;generalize X.occN t.1=A;induction A generalizing q with
  |nil=>exact(Bool.or_false _).symm
  |cons x A ih=>rw[QrR,ih,QgO,List.any_cons,Bool.or_assoc]
def jab(a b:Nat)(t:Tup):Bool:=bif (bif (t.1:Int) == (a:Int)then(t.2.1:Int) == (b:Int)else false)then true else bif (t.1:Int) == (b:Int)then(t.2.1:Int) == (a:Int)else false
def TRb(X:Cx)(J:Y Tup)(a b:Nat)(r:Int):Bool:=J.any λt=>bif jab a b t then Q5m t.2.2.1 (X.occN t.1) (X.occN t.2.1) r else false
theorem Qjn{J:Y Tup}(hJ:X.JOK J){a b:Nat}:∃q,(Yd 400 (Kf (X.occs X.L)) (J.map tuR) (a:Int) (b:Int) some:oP (Int->Bool))=some q/\∀r,q r=X.TRb J a b r:=by
 have hl:=hJ.len;unfold Yd;rw[Qrg];have go:∀(aa:Y Tup) (i m:Nat) (q:Int->Bool),J.drop i=aa->aa.length<m->∃q',(QO 400 (a:Int) (b:Int) (J.map tuR) (J.length:Int) (Kf (X.occs X.L)) (λn o j=>some j) m (i:Int) q:oP (Int->Bool))=some q'/\∀r,q' r=(q r||X.TRb aa a b r):=by
  intro aa;induction aa with
  |nil=>
   intro i m q hd hm;obtain⟨m,rfl⟩:∃k,m=k+1:=⟨m-1,by simp at hm;omega⟩;have:=We hd;exact⟨q,by rw[QO,show decide ((i:Int)<(J.length:Int))=false by simpa using this,Qra],λr=>(Bool.or_false _).symm⟩
  |cons t aa ih=>
   intro i m q hd hm;obtain⟨m,rfl⟩:∃k,m=k+1:=⟨m-1,by simp at hm;omega⟩;obtain⟨e,ai,hi⟩:=Yf hd;obtain⟨l,c,h2⟩:=QkF (R:=Int->Bool) h hJ (Qrd e) q;rw[QO,Qs hi,Qrc,X7 e];simp -implicitDefEqProofs only[Qh,tuR,Qr9,Qre,Qj,QK (show i<=1000 by omega),c];show ∃q',(bif jab a b t then _ else _)=some q'/\_;cases ac:jab a b t with
   |false=>
    obtain⟨d,f,g⟩:=ih (i+1) m q ai (by simpa using hm);refine⟨d,f,λr=>?_⟩;rw[g,TRb,TRb,List.any_cons,ac,Qra,Bool.false_or]
   |true=>
    obtain⟨d,f,g⟩:=ih (i+1) m l ai (by simpa using hm);refine⟨d,f,λr=>?_⟩;rw[g,h2,TRb,TRb,List.any_cons,ac,Qrc,Bool.or_assoc]
 obtain⟨q,c,h2⟩:=go J 0 400 (λ_=>false) rfl I;exact⟨q,c,λr=>by rw[h2,Bool.false_or]⟩
theorem Qb8:∀o∈X.occs X.L,OL (-1) o/\o.length<=6:=by
 intro o ho;obtain⟨a,ha⟩:=List.getElem?_of_mem ho;have aa:=(QrC.1 ha).1;rw[show(X.occs X.L).length=X.N from ZN]at aa;obtain⟨b,h2⟩:=(JC h aa).2
 simp_all [occN,Qrh]
def aloneJ(X:Cx)(per:Int)(J:Y Tup):Bool:=bif (X.occs X.L).all (λo=>o.all (LN per))then J.all λt=>!Qad per t.2.2.1 t.2.2.2 (X.occN t.1) (X.occN t.2.1)else false
theorem Qg7{per:Int}(p0:1<=per)(p1:per<=300){J:Y Tup}(hJ:X.JOK J)(K:Bool->oP R):ZU 400 per (Kf (X.occs X.L)) (J.map tuR) K=K (X.aloneJ per J):=by
 have hN:(X.occs X.L).length<=6:=by rw[show(X.occs X.L).length=base X.nr X.L from ZN];exact base_le h
 have hl:=hJ.len;have hO:=Qb8 h;unfold ZU;rw[Jp,Qrg];refine(TP (r:=λm i=>XS 400 (Kf (X.occs X.L)) (((X.occs X.L).length:Nat):Int) per (K false) (λc d=>Xs 400 (J.map tuR) (J.length:Int) per (Kf (X.occs X.L)) (K false) (λa b=>K true) 400 0) m i) (l:=X.occs X.L) (p:=λo=>o.all (LN per)) (E0:=K false) (E1:=bif J.all (λt=>!Qad per t.2.2.1 t.2.2.2 (X.occN t.1) (X.occN t.2.1))then K true else K false) (λm i o e hi=>?_) (λm=>?_) I).trans ?_
 ·have ho:=hO o (Qrd e);have aa:Qi (Kf (X.occs X.L)) (i:Int)=some [D.sl 3 (o.map enc)]:=X7 e;rw[XS,Qs hi,Qrc,aa];simp -implicitDefEqProofs only[Qh,Qr9,X6,Qh9 p0 (show per<=7200 by omega) ho.1 (show o.length<=300 by omega),QK (show i<=1000 by omega)];cases o.all (LN per)<;>rfl
 ·rw[XS,Qy,Qra];refine TP (r:=λm i=>Xs 400 (J.map tuR) (J.length:Int) per (Kf (X.occs X.L)) (K false) (λa b=>K true) m i) (λm i t e hi=>?_) (λm=>?_) I
  ·rw[Xs,Qs hi,Qrc,X7 e];simp -implicitDefEqProofs only[Qh,tuR,Qr9,Qre,Qj,QK (show i<=1000 by omega),Qjl h hJ (Qrd e)];cases Qad per t.2.2.1 t.2.2.2 (X.occN t.1) (X.occN t.2.1)<;>rfl
  ·rw[Xs,Qy,Qra]
 ·unfold aloneJ;cases (X.occs X.L).all (λo=>o.all (LN per))<;>cases J.all (λt=>!Qad per t.2.2.1 t.2.2.2 (X.occN t.1) (X.occN t.2.1))<;>rfl
end Cx
namespace Cx
def aR(X:Cx)(i k:Nat):Y D:=[Ql 1,Ql ((2*(base X.nr i+k):Nat):Int),Ql ((2*(base X.nr i+k)+1:Nat):Int),Ql (X.run i k),Ql (X.run i k+X.ex i k),Ql (X.w i)]
def aD(X:Cx)(i k:Nat):Y D:=[Ql 2,Ql ((2*(base X.nr i+k)+1:Nat):Int),Ql ((2*(base X.nr i+k+1):Nat):Int),Ql (X.mn i k),Ql (X.mx i k),Ql (X.w i)]
def pl(X:Cx)(i:Nat):Nat->LL
 |0=>[]
 |k+1=>pl X i k++[X.aR i k]++(if k<X.nr i-1 then[X.aD i k]else[])
def pls(X:Cx):Nat->LL
 |0=>[]
 |i+1=>pls X i++X.pl i (X.nr i)
def chE(X:Cx)(row:Y D):Y D:=match row with
 |[.int _ f,.int _ fr,.int _ t,.int _ tr,mn,mx,w]=>[Ql 3,Ql ((2*(base X.nr f.toNat+fr.toNat)+1:Nat):Int),Ql ((2*(base X.nr t.toNat+tr.toNat):Nat):Int),mn,mx,w]
 |_=>[]
def tuE(X:Cx)(t:Tup):Y D:=[Ql 4,Ql ((2*(base X.nr t.1+(X.nr t.1-1))+1:Nat):Int),Ql ((2*(base X.nr t.2.1+0):Nat):Int),Ql t.2.2.1,Ql t.2.2.2,Ql 1]
def syE(X:Cx)(row:Y D):Y D:=match row with
 |[_,_,_,_,o]=>[Ql 5,Ql ((2*(base X.nr 0+0):Nat):Int),Ql ((2*(base X.nr 1+0):Nat):Int),o,o,Ql 0]
 |_=>[]
def planned(X:Cx)(Ch Sy:LL):LL:=X.pls X.L++Ch.map X.chE++X.T.map X.tuE++Sy.map X.syE
variable{R:Type} {n:Nat} {X:Cx}
theorem Q87{i:Nat}:∀{k:Nat},(X.pl i k).length<=2*k
 |0=>QrN _
 |k+1=>by
  have:=Q87 (i:=i) (k:=k);rw[pl,Qrx,Qrx];split<;>simp<;>omega
theorem Q09:∀{i:Nat},(X.pls i).length<=2*base X.nr i
 |0=>QrN _
 |i+1=>by
  have:=Q09 (i:=i);have:=Q87 (X:=X) (i:=i) (k:=X.nr i);rw[pls,Qrx,base];omega
structure LsOK(X:Cx)(per:Int)(Ch Sy:LL):Prop where
 ch:∀row∈Ch,∃(f fr t tr:Nat) (mn mx w:Int),row=[Ql f,Ql fr,Ql t,Ql tr,Ql mn,Ql mx,Ql w]/\f<X.Ls.length/\fr<X.nr f/\t<X.Ls.length/\tr<X.nr t/\(0<=mn/\mn<20/\mn<=mx/\mx<mn+per)/\0<=w/\w<3
 chl:Ch.length<=2
 sy:∀row∈Sy,∃o:Int,row=[Ql 0,Ql 0,Ql 1,Ql 0,Ql o]/\0<=o/\o<per/\2<=X.Ls.length
 syl:Sy.length<=1
variable(h:X.OK) {per:Int} {Ch Sy De:LL} (hl:X.LsOK per Ch Sy)
theorem QfG{A:LL}(hA:A.length<=1000){a1 a2 a b c d:Int}(K:LL->oP R):Xu n A a1 a2 a b c d K=K (A++[[Ql a1,Ql a2,Ql a,Ql b,Ql c,Ql d]]):=by
 grind[Xu,XK,Qh]
include h
theorem QiL{i:Nat}(hi:i<X.Ls.length){k0:Int->Bool->LL->oP R}:QL 400 (i:Int) (HI X.Ls i) ((X.nr i:Nat):Int) (Ql (X.w i)) (D.sl 4 (HI X.Ls i)) (X.fst X.L) (encI (X.runs X.L)) k0 400 0 (X.pls i)=k0 ((X.nr i:Nat):Int) false (X.pls i++X.pl i (X.nr i)):=by
 have hn:=(line h hi).2.1;have hb:=Zy h (i:=i) I;have hp:=Q09 (X:=X) (i:=i);have hw:wJ (((List.length (HI X.Ls i):Nat):Int)-1)=((X.nr i-1:Nat):Int):=G6 (k:=X.nr i) I I;refine X0 (r:=λm k=>QL 400 (i:Int) (HI X.Ls i) ((X.nr i:Nat):Int) (Ql (X.w i)) (D.sl 4 (HI X.Ls i)) (X.fst X.L) (encI (X.runs X.L)) k0 m k (X.pls i++X.pl i k.toNat)) (N:=X.nr i) (λm k hk=>?_) (λm=>?_) (X.nr i) 400 0 I I |> Eq.trans (by simp[pl])
 ·simp only[Qrb];have r:=rd h hi hk;have b:=r.ex0;have e1:=r.ex1;have hr:=Db h hi hk;have aa:Qi (HI X.Ls i) (k:Int)=some [Ql (rF X.Ls i k 0),Ql (X.ex i k),Ql (X.mn i k),Ql (X.mx i k)]:=by rw[Qt,r.row]
  have ai:=Q87 (X:=X) (i:=i) (k:=k);have ac:=Q7f (X:=X) hi hk;rw[QL,Qs hk,Qrc,aa];simp -implicitDefEqProofs only[Qh,Qr9,Qre,Qj,X6,hw,Q1z (n:=400) h hi (show k<=10 by omega),ac,QK (show k<=1000 by omega),QdF (n:=400) (show base X.nr i+k<=1000 by omega),QiG (n:=400) (show base X.nr i+k<=1000 by omega),QK (show base X.nr i+k<=1000 by omega),QdF (n:=400) (show base X.nr i+k+1<=1000 by omega),Qo (x:=X.run i k+X.ex i k) I I,QfG (n:=400) (A:=X.pls i++X.pl i k) Q3,QfG (n:=400) (A:=X.pls i++X.pl i k++[[Ql 1,Ql ((2*(base X.nr i+k):Nat):Int),Ql ((2*(base X.nr i+k)+1:Nat):Int),Ql (X.run i k),Ql (X.run i k+X.ex i k),Ql (X.w i)]]) Q3];by_cases a:k<X.nr i-1
  ·rw[Qs a,Qrc,pl,Qrv a,<- Qrl,<- Qrl];rfl
  ·rw[Q5 ((k:Int)<((X.nr i-1:Nat):Int)),Qra,pl,Qrz a,Qrs,<- Qrl];rfl
 ·simp only[Qrb];rw[QL,Qy,Qra]
include hl
theorem QbW(K:LL->oP R):YF 400 X.Ls Ch (X.T.map tuR) Sy (X.fst X.L) (encI (X.runs X.L)) [] K=K (X.planned Ch Sy):=by
 have l1:=h.l1;have tl:=h.tl;have hp:=Q09 (X:=X) (i:=X.L);have hb:=base_le h;have chl:=hl.chl;have syl:=hl.syl;unfold YF;have s2:∀k0:Int->Bool->LL->oP R,QW 400 X.Ls (X.Ls.length:Int) (X.fst X.L) (encI (X.runs X.L)) k0 400 0 []=k0 (X.Ls.length:Int) false (X.pls X.L):=by
  intro k0;refine X0 (r:=λm i=>QW 400 X.Ls (X.Ls.length:Int) (X.fst X.L) (encI (X.runs X.L)) k0 m i (X.pls i.toNat)) (N:=X.Ls.length) (λm i hi=>?_) (λm=>?_) X.Ls.length 400 0 I I
  ·simp only[Qrb];rw[QW,Qs hi,Qrc,Qt,(line h hi).1];simp -implicitDefEqProofs only[Qh,Qr9,Qre,X6,QK (show i<=1000 by omega)];exact QiL h hi
  ·simp only[Qrb];rw[QW,Qy,Qra];rfl
 have k:∀k0:Int->Bool->LL->oP R,QY 400 Ch (Ch.length:Int) (X.fst X.L) k0 400 0 (X.pls X.L)=k0 (Ch.length:Int) false (X.pls X.L++Ch.map X.chE):=by
  intro k0;refine X0 (r:=λm j=>QY 400 Ch (Ch.length:Int) (X.fst X.L) k0 m j (X.pls X.L++(Ch.take j.toNat).map X.chE)) (N:=Ch.length) (λm j hj=>?_) (λm=>?_) Ch.length 400 0 I I |> Eq.trans Q2
  ·simp only[Qrb];obtain⟨row,e⟩:∃q,Ch[j]? = some q:=⟨Ch[j],Qrf hj⟩;obtain⟨f,fr,t,tr,mn,mx,w,rfl,g1,l,c,v,x,y⟩:=hl.ch row (Qrd e);have nf:=(line h g1).2.1;have nt:=(line h c).2.1;have bf:=Zy h (i:=f) I;have bt:=Zy h (i:=t) I;rw[QY,Qs hj,Qrc,Qt,e,ZC e,Qrk,<- Qrl];simp -implicitDefEqProofs only[Qh,Qr9,Qre,Qj,Q1z (n:=400) h g1 (show fr<=10 by omega),Q1z (n:=400) h c (show tr<=10 by omega),QK (show j<=1000 by omega),QiG (n:=400) (show base X.nr f+fr<=1000 by omega),QdF (n:=400) (show base X.nr t+tr<=1000 by omega),QfG (n:=400) (A:=X.pls X.L++(Ch.take j).map X.chE) Q3];rfl
  ·simp only[Qrb];rw[QY,Qy,Qra,QrB]
 have p:∀k0:Int->Bool->LL->oP R,QX 400 (X.T.map tuR) (X.T.length:Int) (X.fst X.L) X.Ls k0 400 0 (X.pls X.L++Ch.map X.chE)=k0 (X.T.length:Int) false (X.pls X.L++Ch.map X.chE++X.T.map X.tuE):=by
  intro k0;refine X0 (r:=λm j=>QX 400 (X.T.map tuR) (X.T.length:Int) (X.fst X.L) X.Ls k0 m j (X.pls X.L++Ch.map X.chE++(X.T.take j.toNat).map X.tuE)) (N:=X.T.length) (λm j hj=>?_) (λm=>?_) X.T.length 400 0 I I |> Eq.trans Q2
  ·simp only[Qrb];obtain⟨⟨a,b,lo,hi⟩,e⟩:∃q,X.T[j]? = some q:=⟨X.T[j],Qrf hj⟩;have ht:=h.tr _ (Qrd e);have g1:a<X.Ls.length:=ht.1;have c:b<X.Ls.length:=ht.2.1;have nf:=(line h g1).2.1;have bf:=Zy h (i:=a) I;have bt:=Zy h (i:=b) I;have aa:Qi (X.T.map tuR) (j:Int)=some [Ql a,Ql b,Ql lo,Ql hi]:=X7 e;have s:X.pls X.L++Ch.map X.chE++(X.T.take (j+1)).map X.tuE=X.pls X.L++Ch.map X.chE++(X.T.take j).map X.tuE++[X.tuE (a,b,lo,hi)]:=by rw[ZC e,Qrk,<- Qrl];rfl
   have d:=Q1z (R:=Int) (n:=400) h c (Nat.zero_le 10) some;rw[show((0:Nat):Int)=0 from rfl]at d;rw[QX,Qs hj,Qrc,aa,s];simp -implicitDefEqProofs only[Qh,Qr9,Qre,Qj,Qgo (n:=400) h g1,d,QK (show j<=1000 by omega),QiG (n:=400) (show base X.nr a+(X.nr a-1)<=1000 by omega),QdF (n:=400) (show base X.nr b+0<=1000 by omega),QfG (n:=400) (A:=X.pls X.L++Ch.map X.chE++(X.T.take j).map X.tuE) Q3];rfl
  ·simp only[Qrb];rw[QX,Qy,Qra,QrB]
 have u:∀k0:Int->Bool->LL->oP R,QZ 400 Sy (Sy.length:Int) (X.fst X.L) k0 400 0 (X.pls X.L++Ch.map X.chE++X.T.map X.tuE)=k0 (Sy.length:Int) false (X.planned Ch Sy):=by
  intro k0;refine X0 (r:=λm j=>QZ 400 Sy (Sy.length:Int) (X.fst X.L) k0 m j (X.pls X.L++Ch.map X.chE++X.T.map X.tuE++(Sy.take j.toNat).map X.syE)) (N:=Sy.length) (λm j hj=>?_) (λm=>?_) Sy.length 400 0 I I |> Eq.trans Q2
  ·simp only[Qrb];obtain⟨row,e⟩:∃q,Sy[j]? = some q:=⟨Sy[j],Qrf hj⟩;obtain⟨o,rfl,g1,l,c⟩:=hl.sy row (Qrd e);have bt:=Zy h (i:=1) I;have d:=Q1z (R:=Int) (n:=400) h (show 0<X.Ls.length by omega) (Nat.zero_le 10) some;have g:=Q1z (R:=Int) (n:=400) h (show 1<X.Ls.length by omega) (Nat.zero_le 10) some;simp only[show((0:Nat):Int)=0 from rfl,show((1:Nat):Int)=1 from rfl]at d g;rw[QZ,Qs hj,Qrc,Qt,e,ZC e,Qrk,<- Qrl];simp -implicitDefEqProofs only[Qh,Qr9,Qre,Qj,d,g,QK (show j<=1000 by omega),QdF (n:=400) (show base X.nr 0+0<=1000 by simp[base]),QdF (n:=400) (show base X.nr 1+0<=1000 by omega),QfG (n:=400) (A:=X.pls X.L++Ch.map X.chE++X.T.map X.tuE++(Sy.take j).map X.syE) Q3];rfl
  ·simp only[Qrb];rw[QZ,Qy,Qra,QrB];rfl
 rw[s2,k,Qrg,p,u]
end Cx
theorem OL.uniq:∀{l:Int} {O:Y Occ},OL l O->∀{p q:Occ},p∈O->q∈O->p.1=q.1->p=q
 |_,[],_,_,_,h,_,_=>nomatch h
 |l,(x,a,b)::r,⟨c,h2,d,f,h5,h6⟩,p,q,hp,hq,e=>by
  cases hp with
  |head=>
   cases hq with
   |head=>rfl
   |tail _ hq=>have:=(h6.mem q hq).1;dsimp only at e;omega
  |tail _ hp=>
   cases hq with
   |head=>have:=(h6.mem p hp).1;dsimp only at e;omega
   |tail _ hq=>exact h6.uniq hp hq e
theorem QdK{t:Int}{A A' B:Y Occ}{y:Int}:FB t (A++A') B y↔FB t A B y\/FB t A' B y:=by
 constructor
 ·rintro⟨x,a,b,c,d,e,h2,f⟩;rcases Qrj.1 e with e | e
  ·exact .inl ⟨x,a,b,c,d,e,h2,f⟩
  ·exact .inr ⟨x,a,b,c,d,e,h2,f⟩
 ·rintro (⟨x,a,b,c,d,e,h2,f⟩|⟨x,a,b,c,d,e,h2,f⟩)
  ·exact⟨x,a,b,c,d,QrK _ e,h2,f⟩
  ·exact⟨x,a,b,c,d,QrJ _ e,h2,f⟩
def ES(f:Nat->Bool)(n:Nat):LL:=(List.range n).map λi=>[D.bool (f i)]
theorem Q7N{f:Nat->Bool}{n:Nat}:(ES f n).length=n:=by simp[ES]
theorem DQ{f:Nat->Bool}{n i:Nat}(h:i<n):(ES f n)[i]? = some [D.bool (f i)]:=by simp[ES,h]
theorem Qcc{f g:Nat->Bool}{n i:Nat}(h:∀y,y<n->g y=if y=i then true else f y):(ES f n).set i [D.bool true]=ES g n:=by
 apply QrU;intro j
 grind[DQ,List.getElem?_eq_none,Q7N]
section
variable{R:Type} {n:Nat} {t:Int}
theorem Q79{O:Y Occ}(hl:O.length<=1000){k0:oP R}{k1:Int->Bool->oP R}{E:oP R}(hk:∀b c,k1 b c=E):∀(aa:Y Occ) (i m:Nat) (last:Int),O.drop i=aa->aa.length<m -> -1<=last->OL last aa->(0<i->∃a b,O[i-1]? = some (last,a,b))->Zb n (O.map enc) k0 k1 m (i:Int)=E
 |[],i,m+1,last,hd,_,_,_,_=>by
  have:=We hd;rw[Zb,Qrg,show decide ((i:Int)<(O.length:Int))=false by simpa using this,Qra,hk]
 |(x,a,b)::aa,i,m+1,last,hd,hm,ak,⟨f,h2,g,h,h5,h6⟩,hp=>by
  obtain⟨e,ac,hi⟩:=Yf hd;have ih:=Q79 (k0:=k0) hl hk aa (i+1) m x ac (by simpa using hm) I h6 (λ_=>⟨a,b,e⟩);rw[Zb,Qrg,Qs hi,Qrc,X7 e];simp -implicitDefEqProofs only[Qh,Mw,Ff,Et,Qj,Q5 (x<0),QrA,Bool.true_and,Qra,QK (show i<=1000 by omega)];have rest:∀z:Bool,z=false->(bif bif bif bif z then true else decide (a<(-65536:Int))then true else decide (b>(65536:Int))then true else decide (a>=b)then k0 else Zb n (O.map enc) k0 k1 m ((i+1:Nat):Int))=E:=λz hz=>by
   rw[hz,Q5 (a < -65536),Q5 (b>65536),Q5 (a>=b)];exact ih
  by_cases d:i=0
  ·subst d;simp -implicitDefEqProofs only[show decide (((0:Nat):Int)>0)=false from rfl,gbF,Qra];exact rest false rfl
  ·obtain⟨a',b',e'⟩:=hp I;rw[G6 (show i<=1000 by omega) I,X7 e'];simp -implicitDefEqProofs only[Qh,Mw,Qj,Q6 ((i:Int)>0),Qrc];exact rest _ (Qri I)
theorem QaA{O:Y Occ}(hl:O.length<=300)(h:OL (-1) O):JT 400 (O.map enc) (some:Bool->oP Bool)=some true:=by
 exact Q79 I (λ_ _=>rfl) O 0 400 (-1) rfl I I h (λh=>by omega)
theorem Q9X{O:Y Occ}(hl:O.length<=1000){x:Int}{K:D->D->D->Bool->oP R}{k0:D->D->D->oP R}{k1:Int->Bool->oP R}(g:∀a b c,k0 a b c=K a b c true)(h:∀a b,k1 a b=K (Ql 0) (Ql 0) (Ql 0) false):∀(aa:Y Occ) (i m:Nat),O.drop i=aa->aa.length<m->(∃c d,(x,c,d)∈aa/\Uw n (O.map enc) x k0 k1 m (i:Int)=K (Ql x) (Ql c) (Ql d) true)\/((∀p∈aa,p.1≠x)/\Uw n (O.map enc) x k0 k1 m (i:Int)=K (Ql 0) (Ql 0) (Ql 0) false)
 |[],i,m+1,hd,_=>by
  have:=We hd;refine .inr ⟨λp hp=>(nomatch hp),?_⟩;rw[Uw,Qrg,show decide ((i:Int)<(O.length:Int))=false by simpa using this,Qra,h]
 |(x',a,b)::aa,i,m+1,hd,hm=>by
  obtain⟨e,ac,hi⟩:=Yf hd;rw[Uw,Qrg,Qs hi,Qrc,X7 e];simp -implicitDefEqProofs only[Qh,Mw,Ff,Et,Qj,QK (show i<=1000 by omega),g];by_cases hx:x'=x
  ·subst hx;exact .inl ⟨a,b,.head _,by rw[show(x' == x')=true by simp,Qrc]⟩
  ·rw[show(x' == x)=false by simpa using hx,Qra];rcases Q9X hl g h aa (i+1) m ac (by simpa using hm)with⟨c,d,f,h2⟩|⟨f,h2⟩
   ·exact .inl ⟨c,d,.tail _ f,h2⟩
   ·refine .inr ⟨λp hp=>?_,h2⟩;cases hp with
    |head=>exact hx
    |tail _ hp=>exact f p hp
theorem QgN{f k y:Int}(a:1<=t)(hy:0<=y)(aa:y<t)(hk:0<=k)(ac:k<t):y=(f+k) % t↔(y-f) % t=k:=by
 constructor
 ·intro h;rw[h,Int.sub_emod,Int.emod_emod,<- Int.sub_emod,show f+k-f=k by omega];exact QrT hk ac
 ·intro h;rw[<- h,Int.add_emod,Int.emod_emod,<- Int.add_emod,show f+(y-f)=y by omega];exact(QrT hy aa).symm
theorem Qfq(c:1<=t)(o:t<=300){K:LL->oP R}{k0:Int->Bool->LL->oP R}(hk:∀a b w,k0 a b w=K w){A:Y Occ}{i:Nat}{x a b d nn:Int}(e:A[i]? = some (x,a,b))(ha : -1000<=a)(ao:a<=20000)(hd : -1000<=d)(an:d<=20000){f:Nat->Bool} :
  ∃g:Nat->Bool,Zl n t (A.map enc) (i:Int) nn (Ql d) k0 400 0 (ES f t.toNat)=K (ES g t.toNat)/\∀y,y<t.toNat->(g y=true↔f y=true\/((y:Int)-(a-d+1)) % t<nn):=by
 let N:Nat:=(if nn<t then nn else t).toNat;have hN:(N:Int)=if nn<0 then 0 else if nn<t then nn else t:=by
  show(((if nn<t then nn else t).toNat:Nat):Int)=_;split<;>split<;>omega
 have ac:(N:Int)<=t:=by rw[hN];split<;>(try split)<;>omega
 have am:(N:Int)<=nn\/N=0:=by
  by_cases h:nn<0
  ·rw[Qrv h]at hN;right;omega
  ·rw[Qrz h]at hN;left;rw[hN];split<;>omega
 refine⟨λy=>f y||decide (((y:Int)-(a-d+1)) % t<(N:Int)),?_,λy hy=>?_⟩
 ·have j:ES f t.toNat=ES (λy=>f y||decide (((y:Int)-(a-d+1)) % t<((0:Nat):Int))) t.toNat:=by
   unfold ES;apply QrO;intro y _;have:=Qrw ((y:Int)-(a-d+1)) (show t≠0 by omega);show[D.bool (f y)]=[D.bool (f y||decide (((y:Int)-(a-d+1)) % t<((0:Nat):Int)))];rw[Q5 (((y:Int)-(a-d+1)) % t<((0:Nat):Int)),Bool.or_false]
  rw[j];refine X0 (r:=λm k=>Zl n t (A.map enc) (i:Int) nn (Ql d) k0 m k (ES (λy=>f y||decide (((y:Int)-(a-d+1)) % t<k)) t.toNat)) (N:=N) (λm k ai=>?_) (λm=>?_) N 400 0 I I
  ·have l:=Qrw (a-d+1+(k:Int)) (show t≠0 by omega);have p:=Qrt (a-d+1+(k:Int)) (show 0<t by omega);rw[Zl,Q6 ((k:Int)<nn),Q6 ((k:Int)<t),Qrc,Qrc,X7 e];simp -implicitDefEqProofs only[Qh,Ff,Qj,Qo (x:=a-d) I I,Qo (x:=a-d+1) I I,Qo (x:=a-d+1+(k:Int)) I I,Qio (n:=n) (x:=a-d+1+(k:Int)) c (show t<=7200 by omega) I I,Q7N,XR (len:=t.toNat) l I,DQ (f:=λy=>f y||decide (((y:Int)-(a-d+1)) % t<(k:Int))) (n:=t.toNat) (i:=((a-d+1+(k:Int)) % t).toNat) I,Qru];rw[Qcc (g:=λy=>f y||decide (((y:Int)-(a-d+1)) % t<((k+1:Nat):Int))) (λy hy=>?_),Qo I I]
   ·rfl
   ·have hd:=QgN (t:=t) (f:=a-d+1) (k:=k) (y:=y) c I I I I;by_cases aa:y=((a-d+1+(k:Int)) % t).toNat
    ·rw[Qrv aa,show decide (((y:Int)-(a-d+1)) % t<((k+1:Nat):Int))=true from Qrm (by have:=hd.1 I;omega),Bool.or_true]
    ·rw[Qrz aa];congr 1;rw[decide_eq_decide];have:¬ ((y:Int)-(a-d+1)) % t=(k:Int):=λh=>aa (by have:=hd.2 h;omega)
     omega
  ·rw[Zl];rw[show(bif decide ((N:Int)<nn)then decide ((N:Int)<t)else false)=false by
    by_cases h:(N:Int)<nn
    ·rw[Qrm h,Qrc];exact Qri (by rw[hN];split<;>(try split)<;>omega)
    ·rw[Qri h,Qra],Qra,hk]
 ·have q:=Qrw ((y:Int)-(a-d+1)) (show t≠0 by omega);have s:=Qrt ((y:Int)-(a-d+1)) (show 0<t by omega);rw[Bool.or_eq_true,decide_eq_true_eq];refine or_congr_right ?_;rw[hN];split<;>(try split)<;>omega
theorem Q2D(o:1<=t)(p:t<=300){K:LL->oP R}{k0:Int->Bool->LL->oP R}(hk:∀a b w,k0 a b w=K w){A B:Y Occ}(hA:OL (-1) A)(hB:OL (-1) B)(lA:A.length<=100)(lB:B.length<=300):∀(ac P:Y Occ) (m:Nat) (f:Nat->Bool),A=P++ac->ac.length<m->(∀y,y<t.toNat->(f y=true↔FB t P B y)) ->
  ∃g:Nat->Bool,Yk 400 t (A.map enc) (B.map enc) k0 m (P.length:Int) (ES f t.toNat)=K (ES g t.toNat)/\∀y,y<t.toNat->(g y=true↔FB t A B y)
 |[],P,m+1,f,hP,_,hf=>by
  rw[Qrs]at hP;subst hP;refine⟨f,?_,hf⟩;rw[Yk,Qrg,Qy,Qra,hk]
 |(x,a,b)::ac,P,m+1,f,hP,hm,hf=>by
  have e:A[P.length]? = some (x,a,b):=by rw[hP,List.getElem?_append_right (QrN _),Nat.sub_self];rfl
  have hi:P.length<A.length:=by rw[hP];simp
  have hq:=hA.mem (x,a,b) (Qrd e);dsimp only at hq;have ak:A=(P++[(x,a,b)])++ac:=by rw[hP];simp
  have ai:=Q9X (n:=400) (O:=B) (x:=x) (K:=λi j k z=>(some (i,j,k,z):oP (D×D×D×Bool))) (k0:=λi j k=>some (i,j,k,true)) (k1:=λ_ _=>some (Ql 0,Ql 0,Ql 0,false)) I (λ_ _ _=>rfl) (λ_ _=>rfl) B 0 400 rfl I;rw[Yk,Qrg,Qs hi,Qrc,X7 e];simp -implicitDefEqProofs only[Qh,Mw,Ff,Et,Qj];unfold AI;have nx:wJ ((P.length:Int)+1)=(((P++[(x,a,b)]).length:Nat):Int):=by rw[Qo I I];simp
  rw[nx];rcases ai with⟨c,d,g1,q⟩|⟨g1,q⟩
  ·have u:=hB.mem (x,c,d) g1;dsimp only at u;rw[show Uw 400 (B.map enc) x (λi j k=>(some (i,j,k,true):oP (D×D×D×Bool))) (λv aa=>some (D.int .i64 (0:Int),D.int .i64 (0:Int),D.int .i64 (0:Int),false)) 400 0=some (Ql x,Ql c,Ql d,true)from q];simp -implicitDefEqProofs only[Qh,Qrn,Qra,Qj];have ao:wJ (wJ (wJ (wJ (b-a)+d)-c)-1)=b-a+d-c-1:=by
    rw[Qo (x:=b-a) I I,Qo (x:=b-a+d) I I,Qo (x:=b-a+d-c) I I,Qo I I]
   rw[ao];obtain⟨g,k1,k2⟩:=Qfq (n:=400) (nn:=b-a+d-c-1) o p (K:=λw=>Yk 400 t (A.map enc) (B.map enc) k0 m (((P++[(x,a,b)]).length:Nat):Int) w) (k0:=λ_ _ w=>Yk 400 t (A.map enc) (B.map enc) k0 m (((P++[(x,a,b)]).length:Nat):Int) w) (λ_ _ _=>rfl) (f:=f) e (d:=d) I I I I;rw[k1];refine Q2D o p hk hA hB lA lB ac _ m g ak (by simpa using hm) (λy hy=>?_);rw[k2 y hy,QdK,hf y hy];refine or_congr_right ⟨λh=>⟨x,a,b,c,d,.head _,g1,h⟩,?_⟩;rintro⟨x',a',b',c',d',l,r,s⟩;cases l with
   |head=>
    cases hB.uniq r g1 rfl;exact s
   |tail _ l=>nomatch l
  ·rw[show Uw 400 (B.map enc) x (λi j k=>(some (i,j,k,true):oP (D×D×D×Bool))) (λv aa=>some (D.int .i64 (0:Int),D.int .i64 (0:Int),D.int .i64 (0:Int),false)) 400 0=some (Ql 0,Ql 0,Ql 0,false)from q];simp -implicitDefEqProofs only[Qh,QrA,Qrc];refine Q2D o p hk hA hB lA lB ac _ m f ak (by simpa using hm) (λy hy=>?_);rw[QdK,hf y hy];refine⟨.inl,λh=>h.elim id ?_⟩;rintro⟨x',a',b',c',d',l,r,s⟩;cases l with
   |head=>exact(g1 _ r rfl).elim
   |tail _ l=>nomatch l
theorem VS.lastlt{t c d:Int}:∀{l:Int} {M:Y Sp2},VS t l (M++[(c,d)])->(∀q∈M,q.2<c)/\c<d/\d<=t
 |l,[],⟨g,h2,f,_⟩=>⟨λq hq=>(nomatch hq),h2,f⟩
 |l,(a,b)::M,⟨g,h2,f,e⟩=>by
  have ih:=e.lastlt;refine⟨λq hq=>?_,ih.2⟩;cases hq with
  |head=>
   cases M with
   |nil=>exact e.1
   |cons p M=>have:=ih.1 p (.head _);have:=e.1;have:=e.2.1;dsimp only at *;omega
  |tail _ hq=>exact ih.1 q hq
theorem VS.pw{t:Int}:∀{l:Int} {F:Y Sp2},VS t l F->F.Pairwise λp q=>p.2<q.1
 |_,[],_=>.nil
 |l,(a,b)::r,⟨d,h2,e,c⟩=>.cons (λq hq=>(c.rng q hq).1) c.pw
theorem VS.sep{t:Int}:∀{l:Int} {F:Y Sp2},VS t l F->∀p∈F,∀q∈F,p=q\/p.2<q.1\/q.2<p.1
 |_,[],_,p,hp,_,_=>nomatch hp
 |l,(a,b)::r,⟨d,h2,e,c⟩,p,hp,q,hq=>by
  have hr:=c.rng;cases hp with
  |head=>
   cases hq with
   |head=>exact .inl rfl
   |tail _ hq=>exact .inr (.inl (hr q hq).1)
  |tail _ hp=>
   cases hq with
   |head=>exact .inr (.inr (hr p hp).1)
   |tail _ hq=>exact c.sep p hp q hq
structure GP(t:Int)(F G:List Sp2):Prop where
 asc:G.Pairwise λp q=>p.1<q.1
 rng:∀q∈G,0<=q.1/\q.1<t/\q.1<q.2/\q.2<q.1+t
 ins:∀q∈G,∀z,q.1<=z->z<q.2->InS (z % t) F
 out:∀q∈G,¬ InS (q.2 % t) F
 st:∀x,0<=x->x<t->((InS x F/\¬ InS ((x-1) % t) F)↔∃q∈G,q.1=x)
theorem QbG{z t:Int}(a:0<=z)(b:z<t):z % t=z:=QrT a b
theorem Qkg{z t:Int}(a:t<=z)(b:z<t+t):z % t=z-t:=by
 rw[<- QrT (show 0<=z-t by omega) (show z-t<t by omega),Int.sub_emod_right]
theorem Qk0{t:Int}(h:1<=t):(-1:Int) % t=t-1:=by
 rw[<- QrT (show 0<=t-1 by omega) (show t-1<t by omega),show t-1 = -1+t by omega,Int.add_emod_right]
theorem WR.gp{t:Int}{F G:Y Sp2}(l:1<=t)(hv:VS t (-1) F)(hc:cnt F≠t)(hw:WR t F G):GP t F G:=by
 have hr:=hv.rng;have hs:=hv.sep;have ax:=hv.cnt I;have aw:=Qbs hv I;have gap:∀q∈F,¬ InS q.2 F:=λq hq ⟨p,hp,h⟩=>by
  grind
 have aa:∀q∈F,¬ InS (q.1-1) F:=λq hq ⟨p,hp,h⟩=>by
  grind
 have small:∀q∈F,q.2-q.1<t:=λq hq=>by
  have:=aw q hq;have:=ax.2.2 (List.length_pos_of_mem hq);omega
 have ac:∀x,0<=x->x<t->InS x F->¬ InS ((x-1) % t) F->∃q∈F,q.1=x:=λx i j ⟨q,hq,h⟩ hn=>by
  have:=hr q hq;by_cases hx:q.1=x
  ·exact⟨q,hq,hx⟩
  ·exact(hn ⟨q,hq,by rw[QbG I I];omega,by rw[QbG I I];omega⟩).elim
 rcases hw with⟨rfl,hw⟩|⟨b,M,c,rfl,rfl⟩
 ·have an:∀p∈G,∀q∈G,p.1=0->q.2=t->False:=λp hp q hq o h2=>by
   have aq:p≠q:=λe=>by have:=small p hp;rw[<- e]at h2;omega
   rcases G with _ | ⟨⟨a,b⟩,G⟩
   ·nomatch hp
   obtain⟨r,s,u,f⟩:=id hv;have ai:=f.rng;have ay:p=(a,b):=by
    cases hp with
    |head=>rfl
    |tail _ hp=>have:=ai p hp;omega
   subst ay;obtain rfl:a=0:=o;rcases List.eq_nil_or_concat G with rfl | ⟨M,⟨c,d⟩,rfl⟩
   ·cases hq with
    |head=>exact aq rfl
    |tail _ hq=>nomatch hq
   ·rw[List.concat_eq_append]at *
    have hl:=f.lastlt;cases hq with
    |head=>exact aq rfl
    |tail _ hq=>
     rcases Qrj.1 hq with hq | hq
     ·have:=hl.1 q hq;omega
     ·obtain rfl:=Qro.1 hq;obtain rfl:d=t:=h2;exact hw b M c rfl
  refine⟨hv.pw.imp_of_mem λ{p q} hp hq h=>by have:=hr p hp;omega,λq hq=>by have:=hr q hq;have:=small q hq;omega,λq hq z g k=>?_,λq hq=>?_,λx i j=>⟨λh=>ac x i j h.1 h.2,?_⟩⟩
  ·have:=hr q hq;rw[QbG I I];exact⟨q,hq,g,k⟩
  ·have:=hr q hq;by_cases m:q.2=t
   ·rw[m,Int.emod_self];rintro⟨p,hp,h⟩;have:=hr p hp;exact an p hp q hq I m
   ·rw[QbG I I];exact gap q hq
  ·rintro⟨q,hq,rfl⟩;have:=hr q hq;refine⟨⟨q,hq,Int.le_refl _,this.2.1⟩,?_⟩;by_cases n:q.1=0
   ·rw[n,show(0:Int)-1 = -1 by omega,Qk0 l];rintro⟨p,hp,h⟩;have:=hr p hp;exact an q hq p hp n I
   ·rw[QbG I I];exact aa q hq
 ·obtain⟨r,s,u,f⟩:=id hv;have hl:=f.lastlt;have ai:=f.rng;have hM:∀q∈M,b<q.1/\q.1<q.2/\q.2<c:=λq hq=>by
   have:=ai q (QrK _ hq);have:=hl.1 q hq;omega
  have am:∀q∈M,q∈(0,b)::(M++[(c,t)]):=λq hq=>.tail _ (QrK _ hq)
  have ak:(c,t)∈(0,b)::(M++[(c,t)]):=.tail _ (QrJ _ (.head _));have ar:(0,b)∈(0,b)::(M++[(c,t)]):=.head _;have a2:b<c:=(ai (c,t) (QrJ _ (.head _))).1;refine⟨?_,λq hq=>?_,λq hq z g k=>?_,λq hq=>?_,λx i j=>⟨λh=>?_,?_⟩⟩
  ·refine QrL.2 ⟨(QrL.1 f.pw).1.imp_of_mem λ{p q} hp hq h=>by have:=hM p hp;omega,List.pairwise_singleton _ _,λp hp q hq=>?_⟩;obtain rfl:=Qro.1 hq;have:=hM p hp;dsimp only;omega
  ·rcases Qrj.1 hq with h | h
   ·have:=hM q h;omega
   ·obtain rfl:=Qro.1 h;dsimp only;omega
  ·rcases Qrj.1 hq with h | h
   ·have:=hM q h;rw[QbG I I];exact⟨q,am q h,g,k⟩
   ·obtain rfl:=Qro.1 h;dsimp only at g k;by_cases hz:z<t
    ·rw[QbG I hz];exact⟨_,ak,g,hz⟩
    ·rw[Qkg I I];exact⟨_,ar,by dsimp only;omega,by dsimp only;omega⟩
  ·rcases Qrj.1 hq with h | h
   ·have:=hM q h;rw[QbG I I];exact gap q (am q h)
   ·obtain rfl:=Qro.1 h;dsimp only;rw[Qkg I I,show t+b-t=b by omega];exact gap _ ar
  ·obtain⟨q,hq,rfl⟩:=ac x i j h.1 h.2;cases hq with
   |head=>
    refine(h.2 ?_).elim;dsimp only;rw[show(0:Int)-1 = -1 by omega,Qk0 l];exact⟨_,ak,by dsimp only;omega,by dsimp only;omega⟩
   |tail _ hq=>
    rcases Qrj.1 hq with hq | hq
    ·exact⟨q,QrK _ hq,rfl⟩
    ·obtain rfl:=Qro.1 hq;exact⟨(c,t+b),QrJ _ (.head _),rfl⟩
  ·rintro⟨q,hq,rfl⟩;rcases Qrj.1 hq with h | h
   ·have:=hM q h;refine⟨⟨q,am q h,Int.le_refl _,this.2.1⟩,?_⟩;rw[QbG I I];exact aa q (am q h)
   ·obtain rfl:=Qro.1 h;dsimp only;refine⟨⟨_,ak,Int.le_refl _,hl.2.1⟩,?_⟩;rw[QbG I I];exact aa _ ak
theorem Qc0{t:Int}{F:Y Sp2}(i:1<=t)(hv:VS t (-1) F):cnt F=t↔∀y,0<=y->y<t->InS y F:=by
 rcases F with _ | ⟨⟨a,b⟩,r⟩
 ·exact⟨λh=>by grind[cnt],λh=>absurd (h 0 I I) Fe⟩
 obtain⟨j,k,f,e⟩:=hv;have hc:=e.cnt f;rcases r with _ | ⟨⟨c,d⟩,r⟩
 ·simp only[cnt,Ty];constructor
  ·omega
  ·intro h;have g:=(h 0 I I).resolve_right Fe;have h2:=(h (t-1) I I).resolve_right Fe;omega
 ·have:=hc.2.2 Q2;have w:=e.1;constructor
  ·grind[cnt]
  ·intro h;have aa:=e.rng;have:=aa (c,d) (.head _);dsimp only at this;obtain⟨p,hp,g,h2⟩:=h b I I
   grind
theorem Q6x(d:t<=300){f:Nat->Bool}{k0:Int->Int->Bool->oP R}{K:Int->oP R}(hk:∀a b c,k0 a b c=K a):∀(c m x:Nat) (w:Int),(x:Int)+c=t->c<m->0<=w->w<=x->(w=x↔∀y:Nat,y<x->f y=true)->∃w',WK n t (ES f t.toNat) k0 m w (x:Int)=K w'/\(w'=t↔∀y:Nat,(y:Int)<t->f y=true)
 |0,m+1,x,w,hx,_,_,_,hw=>⟨w,by rw[WK,Q5 ((x:Int)<t),Qra,hk],by
  grind⟩
 |c+1,m+1,x,w,hx,hm,w0,e,hw=>by
  have aa:Qi (ES f t.toNat) (x:Int)=some [D.bool (f x)]:=by grind[Qt,DQ]
  rw[WK,Q6 ((x:Int)<t),Qrc,aa];simp -implicitDefEqProofs only[Qh,Qr9,LO,QK (show x<=1000 by omega)];cases ac:f x with
  |false=>
   refine Q6x d hk c m (x+1) w I I w0 I ⟨λh=>by omega,λh=>?_⟩
   simp_all
  |true=>
   rw[Qrc,Qo I I];refine Q6x d hk c m (x+1) (w+1) I I I I ⟨λh y hy=>?_,λh=>?_⟩
   all_goals grind
theorem QgV(b:1<=t)(c:t<=300){f:Nat->Bool}{k0:Int->Bool->oP R}{a:Int}{L:Nat}(a0:0<=a)(a1:a<t)(hL:(L:Int)<t)(ac:∀k:Nat,k<L->f ((a+k) % t).toNat=true)(aa:f ((a+L) % t).toNat=false):WU n t (ES f t.toNat) a k0 400 0=k0 (L:Int) false:=by
 have step:∀k:Nat,k<=L->Qi (ES f t.toNat) (Int.tmod (wJ (a+k)) t)=some [D.bool (f ((a+k) % t).toNat)]:=λk hk=>by
  have d:=Qrw (a+(k:Int)) (show t≠0 by omega);have e:=Qrt (a+(k:Int)) (show 0<t by omega);rw[Qo I I,Int.tmod_eq_emod_of_nonneg I];obtain⟨z,hz⟩:∃z:Nat,(a+(k:Int)) % t=z:=⟨((a+(k:Int)) % t).toNat,I⟩;rw[hz,Qt,Qrb];exact DQ I
 refine X0 (r:=λm k=>WU n t (ES f t.toNat) a k0 m k) (N:=L) (λm k hk=>?_) (λm=>?_) L 400 0 I I
 ·rw[WU,DL I,step k I];simp -implicitDefEqProofs only[Qh,Qr9,LO,ac k hk,Qrc,QK (show k<=1000 by omega)]
 ·rw[WU,DL I,step L (QrN _)];simp -implicitDefEqProofs only[Qh,Qr9,LO,aa,Qra]
theorem Q6q(g:1<=t)(i:t<=300){f:Nat->Bool}{F G:Y Sp2}(hf:∀y:Nat,(y:Int)<t->(f y=true↔InS y F))(hG:GP t F G){K:LL->oP R}{k0:Int->Bool->LL->oP R}(hk:∀a b w,k0 a b w=K w):∀(c m x:Nat) (P S:Y Sp2),(x:Int)+c=t->c<m->G=P++S->P.length<=x->(∀q∈P,q.1<x)->(∀q∈S,(x:Int)<=q.1)->YA 400 t (ES f t.toNat) k0 m (x:Int) ((P.map (Q4c t)).map Yo)=K ((G.map (Q4c t)).map Yo)
 |0,m+1,x,P,S,hx,_,aa,_,_,hS=>by
  have:S=[]:=by
   cases S with
   |nil=>rfl
   |cons q S=>have:=hS q (.head _);have:=hG.rng q Q4;omega
  rw[YA,Q5 ((x:Int)<t),Qra,hk,aa,this,Qrs]
 |c+1,m+1,x,P,S,hx,hm,aa,hl,hP,hS=>by
  have fi:∀z:Int,f (z % t).toNat=true↔InS (z % t) F:=λz=>by
   have l:=Qrw z (show t≠0 by omega);have o:=Qrt z (show 0<t by omega);have:=hf (z % t).toNat I;rw[show(((z % t).toNat:Nat):Int)=z % t by omega]at this;exact this
  have ao:Qi (ES f t.toNat) (x:Int)=some [D.bool (f x)]:=by rw[Qt];exact DQ I
  have l:=Qrw ((x:Int)-1) (show t≠0 by omega);have o:=Qrt ((x:Int)-1) (show 0<t by omega);have ak:Qi (ES f t.toNat) (((x:Int)-1) % t)=some [D.bool (f (((x:Int)-1) % t).toNat)]:=by
   obtain⟨z,hz⟩:∃z:Nat,((x:Int)-1) % t=z:=⟨(((x:Int)-1) % t).toNat,I⟩;rw[hz,Qt,Qrb];exact DQ I
  rw[YA,Q6 ((x:Int)<t),Qrc,ao];simp -implicitDefEqProofs only[Qh,Qr9,LO,QK (show x<=1000 by omega),Qo (x:=(x:Int)-1) I I,Qio (n:=400) (x:=(x:Int)-1) g (show t<=7200 by omega) I I,ak];have ai:=hG.st x I I;have am:=hf x I;have aq:=fi ((x:Int)-1);have a3:∀(R':Type) (p:Bool) (d:R') (v:R') (k:R'->oP R),gb p (some v) d k=gb p (some v) d k:=λ_ _ _ _ _=>rfl
  have skip:(∀q∈G,q.1≠x)->YA 400 t (ES f t.toNat) k0 m ((x+1:Nat):Int) ((P.map (Q4c t)).map Yo)=K ((G.map (Q4c t)).map Yo):=λar=>by
   refine Q6q g i hf hG hk c m (x+1) P S I I aa I (λq hq=>by have:=hP q hq;omega) (λq hq=>?_);have:=hS q hq;have:=ar q (by rw[aa];exact QrJ _ hq);omega
  cases hb:f x with
  |false=>
   simp -implicitDefEqProofs only[QrA,Qrn,gbF,Qrc];refine skip λq hq e=>?_
   have:=(ai.2 ⟨q,hq,e⟩).1;rw[<- am,hb]at this;cases this
  |true=>
   simp -implicitDefEqProofs only[QrA,Qrn,Qh,Qra];cases j:f (((x:Int)-1) % t).toNat with
   |true=>
    rw[Qrc];refine skip λq hq e=>?_
    exact(ai.2 ⟨q,hq,e⟩).2 (aq.1 j)
   |false=>
    rw[Qra];obtain⟨q,hq,aw⟩:=ai.1 ⟨am.1 hb,λh=>by rw[<- aq,j]at h;cases h⟩;obtain⟨S',ay⟩:∃S',S=q::S':=by
     rw[aa]at hq;rcases Qrj.1 hq with h | h
     ·have:=hP q h;omega
     cases S with
     |nil=>nomatch h
     |cons p S=>
      cases h with
      |head=>exact⟨S,rfl⟩
      |tail _ h=>
       have ha:=hG.asc;rw[aa]at ha;have:=(Qry.1 (QrL.1 ha).2.1).1 q h;have:=hS p (.head _);omega
    subst ay;have hr:=hG.rng q hq;obtain⟨L,hL⟩:∃L:Nat,q.2=x+L:=⟨(q.2-q.1).toNat,I⟩;have ax:=hG.ins q hq;have an:=hG.out q hq;rw[QgV (n:=400) (k0:=_) (a:=(x:Int)) (L:=L) g i I I I (λk hk=>(fi _).2 (ax _ I I)) (by
     cases h:f (((x:Int)+L) % t).toNat with
     |false=>rfl
     |true=>rw[<- hL]at h;exact(an ((fi _).1 h)).elim)]
    have hw:[Ql ((x:Int)+L),Ql ((x:Int)+t-1)]=Yo (Q4c t q):=by rw[<- hL,<- aw];rfl
    rw[Qo (x:=(x:Int)+L) I I,Qo (x:=(x:Int)+t) I I,Qo (x:=(x:Int)+t-1) I I,XK Q3,Qh];have:=Q6q g i hf hG hk c m (x+1) (P++[q]) S' I I (by rw[aa];simp) Q3 (λp hp=>by
     rcases Qrj.1 hp with h | h
     ·have:=hP p h;omega
     ·obtain rfl:=Qro.1 h;omega) (λp hp=>by
     have ha:=hG.asc;rw[aa]at ha;have:=(Qry.1 (QrL.1 ha).2.1).1 p hp;omega)
    rw[Qrk,Qrk,List.map_singleton,List.map_singleton,<- hw]at this;exact this
theorem Qcv{A B:Y Occ}(o:2<=t)(a:t<=300)(hA:OL (-1) A)(hB:OL (-1) B)(lA:A.length<=6)(lB:B.length<=6){F G:Y Sp2}(hv:VS t (-1) F)(hF:∀y,0<=y->y<t->(InS y F↔FB t A B y))(hw:WR t F G) :
  Hq 400 t (A.map enc) (B.map enc) Tu2=some (if cnt F=t then([],(13:Int))else((G.map (Q4c t)).map Yo,(0:Int))):=by
 obtain⟨f,i,j⟩:=Q2D I a (K:=λw=>(some (w,(0:Int)):oP (LL×Int))) (k0:=λ_ _ w=>some (w,(0:Int))) (λ_ _ _=>rfl) hA hB I I A [] 400 (λ_=>false) rfl I (λy _=>⟨λh=>(nomatch h),λ⟨_,_,_,_,_,h,_⟩=>(nomatch h)⟩);have hf:∀y:Nat,(y:Int)<t->(f y=true↔InS y F):=λy hy=>by rw[j y I,hF y I hy]
 have hm:Hc 400 t (A.map enc) (B.map enc) Tu2=some (ES f t.toNat,(0:Int)):=by
  unfold Hc;rw[Q5D I (show t<=7200 by omega),QaA I hA,QaA I hB];simp -implicitDefEqProofs only[Qh,Qrn,QrA,Qra];rw[show(bif decide ((0:Int)<=t)&&decide (t<=t)then some ()else none)=some () by rw[Xj Q3],Qh,XK I,Qh];have e:List.replicate t.toNat [D.bool false]=ES (λ_=>false) t.toNat:=by unfold ES;rw[List.map_const',QrM]
  rw[e];exact i
 unfold Hq;rw[hm,Qh,Qp (by rfl)];obtain⟨w,k,w2⟩:=Q6x (n:=400) a (f:=f) (K:=λd=>bif (d == t)then(some ([],(13:Int)):oP (LL×Int))else YA 400 t (ES f t.toNat) (λl m g=>some (g,(0:Int))) 400 (0:Int) []) (k0:=λd p r=>bif (d == t)then(some ([],(13:Int)):oP (LL×Int))else YA 400 t (ES f t.toNat) (λl m g=>some (g,(0:Int))) 400 (0:Int) []) (λ_ _ _=>rfl) t.toNat 400 0 0 I I I I ⟨λ_ y hy=>by omega,λ_=>rfl⟩;refine k.trans ?_;have hc:w=t↔cnt F=t:=by
  rw[w2,Qc0 I hv];constructor
  ·intro h y s u;have:=(hf y.toNat I).1 (h y.toNat I);rw[show(y.toNat:Int)=y by omega]at this;exact this
  ·exact λh y hy=>(hf y hy).2 (h y I hy)
 by_cases aa:cnt F=t
 ·rw[Qrv aa,Xj (by simpa using hc.2 aa)]
 ·rw[Qrz aa,Qp (by simpa using λh=>aa (hc.1 h))];exact Q6q I a hf (hw.gp I hv aa) (K:=λw=>some (w,(0:Int))) (k0:=λ_ _ w=>some (w,(0:Int))) (λ_ _ _=>rfl) t.toNat 400 0 [] G I I rfl Q2 (λq hq=>nomatch hq) (λq hq=>((hw.gp I hv aa).rng q hq).1)
end
theorem Dp{R:Type}{n:Nat}{O:Y Occ}(hl:O.length<=1000){q:Int->Bool}{K:LL->oP R}{k0:Int->Bool->LL->oP R}(hk:∀a b w,k0 a b w=K w):∀(aa P:Y Occ) (j m:Nat),O.drop j=aa->aa.length<m->P.length<=j->Yg n (O.map enc) (O.length:Int) q k0 m (j:Int) (P.map enc)=K ((P++aa.filter λo=>!q o.1).map enc)
 |[],P,j,m+1,hd,_,_=>by
  have:=We hd;rw[Yg,show decide ((j:Int)<(O.length:Int))=false by simpa using this,Qra,hk,List.filter_nil,Qrs]
 |o::aa,P,j,m+1,hd,hm,hP=>by
  obtain⟨e,ac,hj⟩:=Yf hd;rw[Yg,Qs hj,Qrc,X7 e];simp -implicitDefEqProofs only[Qh,Mw,Ff,Et,Qj,QK (show j<=1000 by omega),XK (show((P.map enc).length+[[Ql o.1,Ql o.2.1,Ql o.2.2]].length)*24<=100000 by simp;omega)];rw[List.filter_cons];cases hq:q o.1 with
  |true=>
   rw[Qrn,Qra,Qrz Q2];exact Dp hl hk aa P (j+1) m ac (by simpa using hm) I
  |false=>
   rw[QrA,Qrc,Qrv rfl];have:=Dp (n:=n) (q:=q) hl hk aa (P++[o]) (j+1) m ac (by simpa using hm) Q3;rw[Qrk,Qrl]at this;exact this
theorem Q7F{R:Type}{O:Y Occ}(hl:O.length<=300){q:Int->Bool}(K:LL->(Int->Bool)->oP R):Uu 400 (O.map enc) q K=K ((O.filter λo=>!q o.1).map enc) q:=by
 unfold Uu;rw[Qrg];exact Dp I (K:=λw=>K w q) (λ_ _ _=>rfl) O [] 0 400 rfl I Q2
namespace Cx
def Q95(a b:Nat)(w:Sp2):Y D:=[Ql 6,Ql ((2*a:Nat):Int),Ql ((2*b:Nat):Int),Ql w.1,Ql w.2,Ql 0]
def fil(X:Cx)(J:Y Tup)(a b:Nat):Y Occ:=(X.occN a).filter λo=>!X.TRb J a b o.1
def WV(X:Cx)(per:Int)(J:Y Tup)(a b:Nat):oP (Y Sp2):=match WS 400 per ((X.fil J a b).map enc) ((X.fil J b a).map enc) Tu2 with
 |some (w,e)=>if e=0 then some (w.map λr=>match r with | [.int _ x,.int _ y]=>(x,y) | _=>(0,0))else none
 |none=>none
def QhQ:oP (Y Sp2)->LL×Int
 |none=>([],13)
 |some W=>(W.map Yo,0)
def hdw(X:Cx)(per:Int)(J:Y Tup)(a:Nat):Nat->Nat->oP LL
 |0,_=>some []
 |c+1,b=>match X.WV per J a b with
  |none=>none
  |some W=>(hdw X per J a c (b+1)).map λH=>W.map (Q95 a b)++H
def hdws(X:Cx)(per:Int)(J:Y Tup):Nat->Nat->oP LL
 |0,_=>some []
 |c+1,a=>match X.hdw per J a c (a+1)with
  |none=>none
  |some H=>(hdws X per J c (a+1)).map λH'=>H++H'
variable{R:Type} {n:Nat} {X:Cx} (h:X.OK) {per:Int}
theorem QbR{J:Y Tup}{a b:Nat}{r:Int}:X.TRb J a b r=X.TRb J b a r:=by
 grind[TRb,jab]
include h
theorem QdM{J:Y Tup}{a b:Nat}(ha:a<X.N):OL (-1) (X.fil J a b)/\(X.fil J a b).length<=6:=by
 have o:=(JC h ha).2;exact⟨o.1.filter,Nat.le_trans (QrS ..) o.2⟩
theorem Q3f(p0:2<=per)(p1:per<=300){J:Y Tup}{a b:Nat}(ha:a<X.N)(hb:b<X.N):WS 400 per ((X.fil J a b).map enc) ((X.fil J b a).map enc) Tu2=some (QhQ (X.WV per J a b))/\Hq 400 per ((X.fil J a b).map enc) ((X.fil J b a).map enc) Tu2=some (QhQ (X.WV per J a b))/\∀W,X.WV per J a b=some W->W.length<=12:=by
 have oa:=QdM h (J:=J) (b:=b) ha;have ob:=QdM h (J:=J) (b:=a) hb;obtain⟨F,G,g1,g,j,i,k⟩:=Qcs p0 (show per<=7200 by omega) oa.1 ob.1 oa.2 ob.2;have l:=Qcv p0 p1 oa.1 ob.1 oa.2 ob.2 g1 j i;have hG:G.length<=12:=by
  rcases i with⟨rfl,_⟩|⟨b,M,c,rfl,rfl⟩
  ·exact g
  ·simp at g ⊢;omega
 have e:X.WV per J a b=if cnt F=per then none else some (G.map (Q4c per)):=by
  unfold WV;rw[k];by_cases hc:cnt F=per
  ·rw[Qrv hc,Qrv hc];rfl
  ·rw[Qrz hc,Qrz hc];dsimp only;rw[Qrv rfl,List.map_map];congr 1;refine(QrO λq _=>?_).trans (List.map_id _);rfl
 grind[QhQ,cnt,Q4c,Yo]
omit h in
theorem QiK{a b:Nat}(ha:a<=100)(hb:b<=100){W:Y Sp2}(hW:W.length<=12){k0:Int->Bool->LL->oP R}{A:LL}(hA:A.length<=900):QT 400 (a:Int) (b:Int) (W.map Yo) (W.length:Int) k0 400 0 A=k0 (W.length:Int) false (A++W.map (Q95 a b)):=by
 refine X0 (r:=λm j=>QT 400 (a:Int) (b:Int) (W.map Yo) (W.length:Int) k0 m j (A++(W.take j.toNat).map (Q95 a b))) (N:=W.length) (λm j hj=>?_) (λm=>?_) W.length 400 0 I I |> Eq.trans Q2
 ·simp only[Qrb];obtain⟨w,e⟩:∃q,W[j]? = some q:=⟨W[j],Qrf hj⟩;rw[QT,Qs hj,Qrc,X7 e,ZC e,Qrk,<- Qrl];simp -implicitDefEqProofs only[Qh,Qcn,QbP,Qj,QK (show j<=1000 by omega),QdF (n:=400) (show a<=1000 by omega),QdF (n:=400) (show b<=1000 by omega),QfG (n:=400) (A:=A++(W.take j).map (Q95 a b)) Q3];rfl
 ·simp only[Qrb];rw[QT,Qy,Qra,QrB]
theorem Q2N(p0:2<=per)(p1:per<=300){J:Y Tup}{a:Nat}(ha:a<X.N):∀{c b:Nat} {H:LL},b+c<=X.N->X.hdw per J a c b=some H->H.length<=12*c
 |0,b,H,_,e=>by cases e;exact QrN _
 |c+1,b,H,hb,e=>by
  rw[hdw]at e;have hw:=(Q3f h p0 p1 (J:=J) ha (show b<X.N by omega)).2.2;cases ew:X.WV per J a b with
  |none=>rw[ew]at e;cases e
  |some W=>
   rw[ew]at e;cases eh:X.hdw per J a c (b+1)with
   |none=>simp only[eh]at e;cases e
   |some H'=>
    simp only[eh]at e;cases e;have:=hw W ew;have:=Q2N p0 p1 ha I eh;simp;omega
theorem QgX(p0:2<=per)(p1:per<=300){J:Y Tup}(hJ:X.JOK J){a:Nat}(ha:a<X.N){k0:Int->LL->oP R}{k1:Int->Bool->LL->oP R}{Ke K1:LL->oP R}(d:∀A,k0 13 A=Ke A)(e:∀u v A,k1 u v A=K1 A):∀(c m b:Nat) (A:LL),b+c=X.N->c<m->A.length+12*c<=900->∃A',
  X8 400 (a:Int) per (Kf (X.occs X.L)) (J.map tuR) k0 k1 m (b:Int) A=match X.hdw per J a c b with | none=>Ke A' | some H=>K1 (A++H)
 |0,m+1,b,A,hb,_,_=>by
  have aa:(Kf (X.occs X.L)).length=X.N:=by rw[Jp];exact ZN
  refine⟨A,?_⟩;rw[X8,aa,Q5 ((b:Int)<(X.N:Int)),Qra,e,hdw]
  simp_all
 |c+1,m+1,b,A,hb,hm,hA=>by
  have aa:(Kf (X.occs X.L)).length=X.N:=by rw[Jp];exact ZN
  have hN:X.N<=6:=base_le h;have oa:=JC h ha;have ob:=JC h (show b<X.N by omega);obtain⟨q,g,f⟩:=Qjn h hJ (a:=a) (b:=b);have ac:(X.occN a).filter (λo=>!q o.1)=X.fil J a b:=List.filter_congr λo _=>by rw[f]
  have ai:(X.occN b).filter (λo=>!q o.1)=X.fil J b a:=List.filter_congr λo _=>by rw[f,QbR]
  have hw:=Q3f h p0 p1 (J:=J) ha (show b<X.N by omega);rw[X8,aa,Q6 ((b:Int)<(X.N:Int)),Qrc,g,oa.1,ob.1];simp -implicitDefEqProofs only[Qh,Qr9,X6,QK (show b<=1000 by omega),Q7F (show(X.occN a).length<=300 by omega),Q7F (show(X.occN b).length<=300 by omega),ac,ai,hw.1,hdw];cases ew:X.WV per J a b with
  |none=>exact⟨A,d A⟩
  |some W=>
   have hl:=hw.2.2 W ew;obtain⟨A',ih⟩:=QgX p0 p1 hJ ha d e c m (b+1) (A++W.map (Q95 a b)) I I Q3;refine⟨A',?_⟩;simp -implicitDefEqProofs only[QhQ];rw[Qp (by rfl),Qrg,QiK I I hl I,ih]
   grind
theorem Qh5(p0:2<=per)(p1:per<=300){J:Y Tup}(hJ:X.JOK J){k0:Int->LL->oP R}{k1:Int->Bool->LL->oP R}{Ke K1:LL->oP R}(d:∀A,k0 13 A=Ke A)(e:∀u v A,k1 u v A=K1 A):∀(c m a:Nat) (A:LL),a+c=X.N->c<m->A.length+72*c<=900->∃A',
  QI 400 (X.N:Int) per (Kf (X.occs X.L)) (J.map tuR) k0 k1 m (a:Int) A=match X.hdws per J c a with | none=>Ke A' | some H=>K1 (A++H)
 |0,m+1,a,A,ha,_,_=>by
  refine⟨A,?_⟩;rw[QI,Q5 ((a:Int)<(X.N:Int)),Qra,e,hdws];simp only[Qrs]
 |c+1,m+1,a,A,ha,hm,hA=>by
  have hN:X.N<=6:=base_le h;obtain⟨A1,f⟩:=QgX h p0 p1 hJ (show a<X.N by omega) (Ke:=Ke) (K1:=λA=>QI 400 (X.N:Int) per (Kf (X.occs X.L)) (J.map tuR) k0 k1 m ((a+1:Nat):Int) A) (k0:=λg i=>k0 g i) (k1:=λk l j=>QI 400 (X.N:Int) per (Kf (X.occs X.L)) (J.map tuR) k0 k1 m ((a+1:Nat):Int) j) (λA=>d A) (λu v A=>rfl) c 400 (a+1) A I I I;rw[QI,Q6 ((a:Int)<(X.N:Int)),Qrc,QK (show a<=1000 by omega),f,hdws];cases eh:X.hdw per J a c (a+1)with
  |none=>exact⟨A1,rfl⟩
  |some H=>
   have:=Q2N h p0 p1 (J:=J) (show a<X.N by omega) (c:=c) (b:=a+1) I eh;obtain⟨A2,h2⟩:=Qh5 p0 p1 hJ d e c m (a+1) (A++H) I I Q3;refine⟨A2,?_⟩;dsimp only;rw[h2];cases X.hdws per J c (a+1)with
   |none=>rfl
   |some H'=>simp -implicitDefEqProofs only[Option.map_some,Qrl]
theorem hdws_len(p0:2<=per)(p1:per<=300){J:Y Tup}:∀{c a:Nat} {H:LL},a+c=X.N->X.hdws per J c a=some H->H.length<=60*c
 |0,a,H,_,e=>by cases e;exact QrN _
 |c+1,a,H,ha,e=>by
  have hN:X.N<=6:=base_le h;rw[hdws]at e;cases eh:X.hdw per J a c (a+1)with
  |none=>rw[eh]at e;cases e
  |some H1=>
   have:=Q2N h p0 p1 (J:=J) (show a<X.N by omega) (c:=c) (b:=a+1) I eh;rw[eh]at e;cases e2:X.hdws per J c (a+1)with
   |none=>simp only[e2]at e;cases e
   |some H2=>
    have:=hdws_len p0 p1 I e2;simp only[e2]at e;cases e;simp;omega
theorem Qhw(p0:2<=per)(p1:per<=300){J:Y Tup}(hJ:X.JOK J){A:LL}(hA:A.length<=100):∃A',Yt 400 per (Kf (X.occs X.L)) (J.map tuR) A Tu2=some (match X.hdws per J X.N 0 with | none=>((13:Int),A') | some H=>(0,A++H)):=by
 have hN:X.N<=6:=base_le h;have aa:(Kf (X.occs X.L)).length=X.N:=by rw[Jp];exact ZN
 unfold Yt;rw[aa];obtain⟨A',e⟩:=Qh5 h p0 p1 hJ (k0:=λc d=>some (c,d)) (k1:=λg i f=>some ((0:Int),f)) (Ke:=λA=>some (13,A)) (K1:=λA=>some (0,A)) (λ_=>rfl) (λ_ _ _=>rfl) X.N 400 0 A I I I;refine⟨A',e.trans ?_⟩
 grind
end Cx
namespace Cx
def netV(X:Cx)(per:Int)(J:Y Tup)(Ch Sy:LL):Int×LL×LL×Int:=bif X.aloneJ per J then(match X.hdws per J X.N 0 with
 |none=>(0,[],[],13)
 |some H=>(per,X.evs X.L,X.planned Ch Sy++H,0))else(0,[],[],13)
variable{X:Cx} (h:X.OK) {per:Int} {Ch Sy De:LL} (hl:X.LsOK per Ch Sy)
theorem Q7V{α:Type}{nr:Nat->Nat}{f:Nat->Nat->α}{x:α}:∀{L:Nat},x∈flat nr f L↔∃i k,i<L/\k<nr i/\x=f i k
 |0=>⟨λh=>(nomatch h),λ⟨_,_,h,_⟩=>by omega⟩
 |L+1=>by
  rw[flat,Qrj,Q7V,Qrr];constructor
  ·rintro (⟨i,k,b,h2,a⟩|⟨k,hk,rfl⟩)
   ·exact⟨i,k,I,h2,a⟩
   ·exact⟨L,k,I,QrE.1 hk,rfl⟩
  ·rintro⟨i,k,b,h2,a⟩;by_cases hi:i=L
   ·subst hi;exact .inr ⟨k,QrE.2 h2,a.symm⟩
   ·exact .inl ⟨i,k,I,h2,a⟩
theorem Qaf{t:Tup}:t∈X.jns↔(∃i k,i<X.L/\k<X.nr i-1/\t=X.j1 i k)\/∃u∈X.T,X.jT u=t:=by
 unfold jns jL;rw[Qrj,Q7V,Qrr]
include h
theorem Qig{i k:Nat}(hi:i<X.Ls.length)(hk:k<X.nr i):base X.nr i+k<X.N:=by
 have:=SI (nr:=X.nr) (i:=i) (j:=X.L) hi;unfold N;omega
theorem Qfp:X.JOK X.jns:=by
 refine⟨λt ht=>?_,QeV h⟩;rcases Qaf.1 ht with⟨i,k,a,h2,rfl⟩|⟨u,hu,rfl⟩
 ·have r:=rd h a (show k<X.nr i by omega);have q:=Db h a (show k<X.nr i by omega);have:=r.ex0;have:=r.ex1;have:=r.mn0;have:=r.mn1;have:=r.mn2;have:=r.mn3;refine⟨Qig h a I,Qig h a I,?_,?_,?_,?_⟩<;>simp only[j1]<;>omega
 ·have ht:=h.tr _ hu;have ha:u.1<X.Ls.length:=ht.1;have hb:u.2.1<X.Ls.length:=ht.2.1;have na:=(line h ha).2.1;have nb:=(line h hb).2.1;have t1:=ht.2.2.1;have t2:=ht.2.2.2.1;have b:=ht.2.2.2.2.1;have c:=ht.2.2.2.2.2.1;have r:=rd h ha (show X.nr u.1-1<X.nr u.1 by omega);have q:=Db h ha (show X.nr u.1-1<X.nr u.1 by omega);have:=r.ex0;have:=r.ex1;refine⟨Qig h ha I,Qig h hb I,?_,?_,?_,?_⟩<;>simp only[jT]<;>omega
include hl
theorem planned_len:(X.planned Ch Sy).length<=35:=by
 have hN:base X.nr X.L<=6:=base_le h;have:=Q09 (X:=X) (i:=X.L);have:=hl.chl;have:=hl.syl;have:=h.tl;unfold planned;simp only[Qrx,Qrg];omega
theorem buildP(p0:2<=per)(p1:per<=300)(hc:Jt 400 X.G.St X.G.Pt X.G.Se X.G.Li per X.skR X.Ro X.Ls Ch (X.T.map tuR) Sy De (some:Int->oP Int)=some 0) :
  YY 400 X.G.St X.G.Pt X.G.Se X.G.Li per X.skR X.Ro X.Ls Ch (X.T.map tuR) Sy De Tu4=some (X.netV per X.jns Ch Sy):=by
 have hN:base X.nr X.L<=6:=base_le h;have ac:=planned_len h hl;unfold YY netV;rw[hc,Qh,Qp (by rfl),Qem h,Qh];dsimp only;rw[evs_len,Qp (Qri I),Qhb h hc,Qh];dsimp only;rw[Qp (by rfl),QfU h,Qh];rw[Qg7 h I p1 (Qfp h),Qh];cases X.aloneJ per X.jns
 ·rfl
 rw[Qp (by rfl),QbW h hl,Qh];obtain⟨A',e⟩:=Qhw h p0 p1 (Qfp h) (A:=X.planned Ch Sy) I;rw[e,Qh,Qrc];cases eh:X.hdws per X.jns X.N 0 with
 |none=>rfl
 |some H=>
  have:=hdws_len h p0 p1 I eh;have aa:X.N<=6:=hN;dsimp only;rw[Qp (by rfl),Qp (Qri (by rw[Qrx];omega))]
end Cx
theorem Qd1{α β:Type}{r:Nat->Int->β}{l:Y α}{p:α->Bool}{F:α->β}{E:β}(a:∀m i q,l[i]? = some q->i<l.length->r (m+1) (i:Int)=bif p q then F q else r m ((i+1:Nat):Int))(b:∀m,r (m+1) (l.length:Int)=E){fuel:Nat}(hf:l.length<fuel):r fuel 0=match l.find? p with | some q=>F q | none=>E:=by
 have go:∀(aa:Y α) (i m:Nat),l.drop i=aa->aa.length<m->i<=l.length->r m (i:Int)=match aa.find? p with | some q=>F q | none=>E:=by
  intro aa;induction aa with
  |nil=>
   intro i m hd hm hi;obtain⟨m,rfl⟩:∃k,m=k+1:=⟨m-1,I⟩
   grind
  |cons q aa ih=>
   intro i m hd hm hi;obtain⟨m,rfl⟩:∃k,m=k+1:=⟨m-1,by simp at hm;omega⟩
   grind[Yf]
 exact go l 0 fuel rfl hf (Nat.zero_le _)
theorem Qgz{t:Int}{O:Y Occ}(a:1<=t)(b:t<=7200)(hO:OL (-1) O)(hl:O.length<=300):L0 400 t (O.map enc) (some:Bool->oP Bool)=some (O.all (LN t)):=by
 unfold L0;rw[Q5D a b,QaA hl hO];simp -implicitDefEqProofs only[Qra,Qh,Qrn,QrA];refine(TP (r:=λm i=>Jv 400 t (O.map enc) (some false) (λ_ _=>some true) m i) (l:=O) (p:=LN t) (E0:=some false) (E1:=some true) (λm i q e hi=>?_) (λm=>?_) I).trans (by cases O.all (LN t)<;>rfl)
 ·rw[Jv,Qrg,Qs hi,Qrc,X7 e];simp -implicitDefEqProofs only[Qh,Mw,Ff,Et,Qj,QK (show i<=1000 by omega),QjY hO (Qrd e)];unfold LN;cases decide (q.2.2-q.2.1>t)<;>rfl
 ·rw[Jv,Qrg,Qy,Qra]
def Q8W(O:Y Occ)(r:Int):Bool:=(O.find? λq=>q.1 == r).isSome
def fnd(O:Y Occ)(r:Int):Occ:=(O.find? λq=>q.1 == r).getD (0,0,0)
theorem Bj{p:Occ->Bool}{r:Int}(hp:∀q,q.1≠r->p q=false):∀{l:Int} {O:Y Occ},OL l O->O.any p=(bif Q8W O r then p (fnd O r)else false)
 |_,[],_=>rfl
 |l,(x,a,b)::O,⟨c,h2,d,e,h5,h6⟩=>by
  have ih:=Bj hp h6;unfold Q8W fnd at ih ⊢;by_cases hx:x=r
  ·subst hx;have:O.any p=false:=by
    rw[List.any_eq_false];intro q hq;have:=(h6.mem q hq).1
    grind
   simp_all
  grind
theorem Q6a{O:Y Occ}{r:Int}(h:Q8W O r=true):(fnd O r).1=r:=by
 unfold Q8W at h;unfold fnd;cases e:O.find? λq=>q.1 == r with
 |none=>simp_all
 |some q=>grind
theorem Qfr{l:Int}{O:Y Occ}(hO:OL l O){x:Occ}(hx:x∈O):Q8W O x.1=true/\fnd O x.1=x:=by
 unfold Q8W fnd;cases e:O.find? λq=>q.1 == x.1 with
 |none=>grind
 |some q=>exact⟨rfl,hO.uniq (QrH e) hx (by grind)⟩
def okR(la:Int)(A B:Y Occ)(r:Int):Bool:=bif (bif Q8W A r then Q8W B r else false)then decide (la+(fnd B r).2.1<=(fnd A r).2.2)else false
theorem Qd9{la:Int}{x y:Occ}(h:y.1≠x.1):tie la x y=false:=by
 grind[tie]
theorem QgT{la r:Int}{A B:Y Occ}(hA:OL (-1) A)(hB:OL (-1) B):okR la A B r=Q5m la A B r:=by
 unfold Q5m okR;rw[Bj (r:=r) (λq hq=>by
  simp_all) hA]
 cases ha:Q8W A r with
 |false=>rfl
 |true=>
  have ea:=Q6a ha;rw[Qrc,Qrc,Bj (r:=r) (λy hy=>by grind[Qd9]) hB];cases hb:Q8W B r with
  |false=>rfl
  |true=>
   have eb:=Q6a hb
   simp_all [tie,Qrc,decide,fnd]
theorem QdV{per la mo:Int}{A B:Y Occ}(hA:OL (-1) A)(hB:OL (-1) B){x:Occ}(hx:x∈A):(B.any λy=>bif tie la x y then Q3K per la mo x y else false)=bif okR la A B x.1 then Q3K per la mo (fnd A x.1) (fnd B x.1)else false:=by
 have ha:=Qfr hA hx;unfold okR;rw[Bj (r:=x.1) (λy hy=>by grind[Qd9]) hB,ha.1,ha.2,Qrc];cases hb:Q8W B x.1 with
 |false=>rfl
 |true=>
  simp_all [Q6a,tie,Qrc]
theorem Q6C{l:Int}{O:Y Occ}(hO:OL l O){r:Int} : -1000<=(fnd O r).2.1/\(fnd O r).2.1<=20000 /\ -1000<=(fnd O r).2.2/\(fnd O r).2.2<=20000:=by
 unfold fnd;cases e:O.find? λq=>q.1 == r with
 |none=>simp
 |some q=>
  have:=hO.mem q (QrH e)
  grind
theorem Qgn{R:Type}{O:Y Occ}(hl:O.length<=300){r:Int}(K:D->D->D->Bool->oP R):VD 400 (O.map enc) r K=K (Ql (fnd O r).1) (Ql (fnd O r).2.1) (Ql (fnd O r).2.2) (Q8W O r):=by
 unfold VD fnd Q8W;refine(Qd1 (r:=λm i=>Za 400 (O.map enc) r (λa b c=>K a b c true) (λd f=>K (Ql 0) (Ql 0) (Ql 0) false) m i) (l:=O) (p:=λq=>q.1 == r) (F:=λq=>K (Ql q.1) (Ql q.2.1) (Ql q.2.2) true) (E:=K (Ql 0) (Ql 0) (Ql 0) false) (λm i q e hi=>?_) (λm=>?_) I).trans ?_
 ·rw[Za,Qrg,Qs hi,Qrc,X7 e];simp -implicitDefEqProofs only[Qh,Mw,Ff,Et,Qj,QK (show i<=1000 by omega)]
 ·rw[Za,Qrg,Qy,Qra]
 ·cases O.find? λq=>q.1 == r<;>rfl
namespace Cx
variable{R:Type} {X:Cx} (h:X.OK)
include h
theorem QfZ{J:Y Tup}(hJ:X.JOK J){t:Tup}(ht:t∈J){r:Int}(K:D->D->D->D->D->D->Bool->oP R):Sg 400 (Kf (X.occs X.L)) (t.1:Int) (t.2.1:Int) t.2.2.1 r K=K (Ql (fnd (X.occN t.1) r).1) (Ql (fnd (X.occN t.1) r).2.1) (Ql (fnd (X.occN t.1) r).2.2) (Ql (fnd (X.occN t.2.1) r).1) (Ql (fnd (X.occN t.2.1) r).2.1) (Ql (fnd (X.occN t.2.1) r).2.2) (okR t.2.2.1 (X.occN t.1) (X.occN t.2.1) r):=by
 have hj:=hJ.at' t ht;have oa:=JC h hj.1;have ob:=JC h hj.2.1;have rb:=Q6C ob.2.1 (r:=r);unfold Sg okR;rw[oa.1,ob.1];simp -implicitDefEqProofs only[Qh,Qr9,X6,Qgn (show(X.occN t.1).length<=300 by omega),Qgn (show(X.occN t.2.1).length<=300 by omega),Qj,Qo (x:=t.2.2.1+(fnd (X.occN t.2.1) r).2.1) I I]
theorem QgY{J:Y Tup}(hJ:X.JOK J){t:Tup}(ht:t∈J){per:Int}(K:Bool->oP R):RW 400 (Kf (X.occs X.L)) (t.1:Int) (t.2.1:Int) t.2.2.1 t.2.2.2 per K=K (!Qad per t.2.2.1 t.2.2.2 (X.occN t.1) (X.occN t.2.1)):=by
 have hj:=hJ.at' t ht;have oa:=JC h hj.1;have ob:=JC h hj.2.1;unfold RW Qad;refine(TP (r:=λm i=>UN 400 (Kf (X.occs X.L)) per (t.1:Int) (t.2.1:Int) t.2.2.1 t.2.2.2 (K false) (λa b=>K true) m i) (l:=X.occN t.1) (p:=λx=>!((X.occN t.2.1).any λy=>bif tie t.2.2.1 x y then Q3K per t.2.2.1 t.2.2.2 x y else false)) (E0:=K false) (E1:=K true) (λm i x e hi=>?_) (λm=>?_) I).trans ?_
 ·have ra:=Q6C oa.2.1 (r:=x.1);have rb:=Q6C ob.2.1 (r:=x.1);rw[UN,oa.1,QdV oa.2.1 ob.2.1 (Qrd e)];simp -implicitDefEqProofs only[Qh,Qr9,X6,Qrg,Qs hi,Qrc,X7 e,Mw,Qj,QfZ h hJ ht,QK (show i<=1000 by omega)];generalize fnd (X.occN t.1) x.1=u at ra ⊢;generalize fnd (X.occN t.2.1) x.1=v at rb ⊢;cases okR t.2.2.1 (X.occN t.1) (X.occN t.2.1) x.1 with
  |false=>rfl
  |true=>
   rw[Qrc,Qrc,Qo (x:=t.2.2.1+v.2.1) I I,Qo (x:=t.2.2.2+v.2.2) I I,Qo (x:=(if u.2.2<t.2.2.2+v.2.2 then t.2.2.2+v.2.2 else u.2.2)-(if t.2.2.1+v.2.1<u.2.1 then t.2.2.1+v.2.1 else u.2.1)) (by split<;>split<;>omega) (by split<;>split<;>omega)];unfold Q3K;cases decide ((if u.2.2<t.2.2.2+v.2.2 then t.2.2.2+v.2.2 else u.2.2)-(if t.2.2.1+v.2.1<u.2.1 then t.2.2.1+v.2.1 else u.2.1)>per)<;>rfl
 ·rw[UN,oa.1];simp -implicitDefEqProofs only[Qh,Qr9,X6,Qrg,Qy,Qra]
 ·rw[<- List.not_any_eq_all_not];cases (X.occN t.1).any λx=>(X.occN t.2.1).any λy=>bif tie t.2.2.1 x y then Q3K per t.2.2.1 t.2.2.2 x y else false<;>rfl
theorem Qaz{J:Y Tup}(hJ:X.JOK J){a b i:Nat}(ha:a<X.N){x:Occ}(e:(X.occN a)[i]? = some x)(k0:Bool->Int->Bool->oP R):Z5 400 (Kf (X.occs X.L)) (J.map tuR) (a:Int) (b:Int) (i:Int) k0 400 false 0=k0 (X.TRb J a b x.1) (J.length:Int) false:=by
 have oa:=JC h ha;have hl:=hJ.len;unfold TRb;rw[<- Bool.false_or (List.any _ _),<- Ek];refine FS (r:=λm j c=>Z5 400 (Kf (X.occs X.L)) (J.map tuR) (a:Int) (b:Int) (i:Int) k0 m c j) (E:=λc=>k0 c (J.length:Int) false) (λm j t c e' hi=>?_) (λm c=>?_) I false
 ·have hj:=hJ.at' t (Qrd e');have d:=JC h hj.1;have f:=JC h hj.2.1;have aa:Qi (J.map tuR) (j:Int)=some [Ql t.1,Ql t.2.1,Ql t.2.2.1,Ql t.2.2.2]:=X7 e';rw[Z5,Qrg,Qs hi,Qrc,aa];simp -implicitDefEqProofs only[Qh,Qr9,Qre,Qj,X6,oa.1,X7 e,Mw,QfZ h hJ (Qrd e'),QK (show j<=1000 by omega),QgT d.2.1 f.2.1];show(bif jab a b t then _ else _)=_;cases jab a b t<;>cases c<;>rfl
 ·rw[Z5,Qrg,Qy,Qra]
theorem Q72{J:Y Tup}(hJ:X.JOK J){a b:Nat}(ha:a<X.N)(K:LL->oP R):GO 400 (Kf (X.occs X.L)) (J.map tuR) (a:Int) (b:Int) K=K ((X.fil J a b).map enc):=by
 have oa:=JC h ha;unfold GO fil;refine X0 (r:=λm i=>ZY 400 (Kf (X.occs X.L)) (J.map tuR) (a:Int) (b:Int) (λd f c=>K c) m i ((((X.occN a).take i.toNat).filter λo=>!X.TRb J a b o.1).map enc)) (N:=(X.occN a).length) (λm i hi=>?_) (λm=>?_) (X.occN a).length 400 0 I I
 ·simp only[Qrb];obtain⟨x,e⟩:∃q,(X.occN a)[i]? = some q:=⟨(X.occN a)[i],Qrf hi⟩;have ac:(((X.occN a).take i).filter λo=>!X.TRb J a b o.1).length<=i:=Nat.le_trans (QrS ..) Q3;rw[ZY,oa.1];simp -implicitDefEqProofs only[Qh,Qr9,X6,Qrg,Qs hi,Qrc,Qaz h hJ ha e,X7 e,Mw,Ff,Et,QK (show i<=1000 by omega),XK (show((((X.occN a).take i).filter λo=>!X.TRb J a b o.1).length+[[Ql x.1,Ql x.2.1,Ql x.2.2]].length)*24<=100000 by simp;omega)];rw[ZC e,List.filter_append,Qrk];simp only[List.filter_cons,List.filter_nil];cases X.TRb J a b x.1 with
  |false=>rfl
  |true=>
   rw[Qrn,Qra,Qrz Bool.false_ne_true,List.map_nil,Qrs]
 ·simp only[Qrb];rw[ZY,oa.1];simp -implicitDefEqProofs only[Qh,Qr9,X6,Qrg,Qy,Qra,QrB]
end Cx
theorem Qdi{a b:Nat}(h:a+b<=100000):wJ ((a:Int)+(b:Int))=((a+b:Nat):Int):=Qo I I
theorem QeO{a:Nat}(h:a<=100000):wJ ((a:Int)+1)=((a+1:Nat):Int):=Qo I I
theorem Qje{a:Nat}(h:a<=100000):wJ ((a:Int)+2)=((a+2:Nat):Int):=Qo I I
theorem Q0G{a:Nat}(h:a<=100000):wJ (2*(a:Int))=((2*a:Nat):Int):=Qo I I
namespace Cx
def jR(X:Cx)(i:Nat):Y Tup:=(List.range (X.nr i-1)).map (X.j1 i)++(match X.tn i with | some t=>[X.jT t] | none=>[])
def jnsR(X:Cx):Nat->Y Tup
 |0=>[]
 |i+1=>jnsR X i++X.jR i
variable{R:Type} {n:Nat} {X:Cx} (h:X.OK)
theorem Q7Z{t:Tup}:∀{L:Nat},t∈X.jnsR L↔∃i,i<L/\t∈X.jR i
 |0=>⟨λh=>(nomatch h),λ⟨_,h,_⟩=>by omega⟩
 |L+1=>by
  rw[jnsR,Qrj,Q7Z];constructor
  ·rintro (⟨i,a,h2⟩ | h2)
   ·exact⟨i,I,h2⟩
   ·exact⟨L,I,h2⟩
  ·rintro⟨i,a,h2⟩;by_cases hi:i=L
   ·subst hi;exact .inr h2
   ·exact .inl ⟨i,I,h2⟩
theorem Qab{i:Nat}{t:Tup}(ht:X.tn i=some t):t∈X.T/\t.1=i:=⟨QrH ht,by simpa using List.find?_some ht⟩
theorem Q80{α β:Type}{f:α->β}:∀{l:Y α},(l.map f).Nodup->∀{x y},x∈l->y∈l->f x=f y->x=y
 |[],_,_,_,h,_,_=>nomatch h
 |a::l,hn,x,y,hx,hy,e=>by
  rw[List.map_cons,List.nodup_cons]at hn;cases hx with
  |head=>
   cases hy with
   |head=>rfl
   |tail _ hy=>exact(hn.1 (Qrr.2 ⟨y,hy,e.symm⟩)).elim
  |tail _ hx=>
   cases hy with
   |head=>exact(hn.1 (Qrr.2 ⟨x,hx,e⟩)).elim
   |tail _ hy=>exact Q80 hn.2 hx hy e
include h
theorem Qjt{t:Tup}(ht:t∈X.T):X.tn t.1=some t:=by
 cases e:X.tn t.1 with
 |none=>exact absurd (List.find?_eq_none.1 e t ht) Q2
 |some u=>
  have hu:=Qab e;rw[Q80 h.fd hu.1 ht hu.2]
theorem Q3N{t:Tup}:t∈X.jnsR X.L↔t∈X.jns:=by
 rw[Q7Z,Qaf];constructor
 ·rintro⟨i,hi,ht⟩;rcases Qrj.1 ht with ht | ht
  ·grind
  ·cases e:X.tn i with
   |none=>simp_all
   |some u=>
    rw[e]at ht;obtain rfl:=Qro.1 ht;exact .inr ⟨u,(Qab e).1,rfl⟩
 ·rintro (⟨i,k,hi,hk,rfl⟩|⟨u,hu,rfl⟩)
  ·exact⟨i,hi,QrK _ (List.mem_map_of_mem (QrE.2 hk))⟩
  ·refine⟨u.1,(h.tr _ hu).1,QrJ _ ?_⟩
   grind[Qjt]
theorem Q85{i:Nat}(hi:i<=X.Ls.length):(X.jnsR i).length<=base X.nr i:=by
 induction i with
 |zero=>exact QrN _
 |succ i ih=>
  have hl:=(line h (i:=i) I).2.1
  grind[jnsR,jR,List.length_append,List.length_map,List.length_range,base]
theorem Qgt:X.JOK (X.jnsR X.L):=⟨λt ht=>(Qfp h).at' t ((Q3N h).1 ht),by have:=Q85 h (i:=X.L) (QrN _);have:=base_le h;omega⟩
theorem Q2E{i:Nat}(hi:i<=X.Ls.length)(K:Int->oP R):U8 400 X.Ls (i:Int) K=K ((base X.nr i:Nat):Int):=by
 have hb:=Zy h hi;have l1:=h.l1;unfold U8;refine X0 (r:=λm k=>Jx 400 (i:Int) X.Ls (λc d e=>K c) m ((base X.nr k.toNat:Nat):Int) k) (N:=i) (λm k hk=>?_) (λm=>?_) i 400 0 I I
 ·simp only[Qrb];have aa:=Zy h (i:=k+1) I;rw[base]at aa;have ha:wJ (((base X.nr k:Nat):Int)+(((HI X.Ls k).length:Nat):Int))=((base X.nr (k+1):Nat):Int):=Qdi (a:=base X.nr k) (b:=X.nr k) I;rw[Jx,Qs hk,Qrc,Qt,(line h I).1];simp -implicitDefEqProofs only[Qh,Qr9,Qre,X6,QK (show k<=1000 by omega),ha]
 ·simp only[Qrb];rw[Jx,Qy,Qra]
theorem Qhz(K:LL->oP R):Rh 400 X.Ls (X.T.map tuR) (encI (X.runs X.L)) K=K ((X.jnsR X.L).map tuR):=by
 have l1:=h.l1;unfold Rh;refine X0 (r:=λm i=>Uz 400 (encI (X.runs X.L)) X.Ls (X.T.map tuR) (λf g c=>K c) m i ((X.jnsR i.toNat).map tuR)) (N:=X.Ls.length) (λm i hi=>?_) (λm=>?_) X.Ls.length 400 0 I I
 ·simp only[Qrb];have hl:=(line h hi).2.1;have hb:=Zy h (i:=i) I;have hw:wJ (((List.length (HI X.Ls i):Nat):Int)-1)=((X.nr i-1:Nat):Int):=G6 (k:=X.nr i) I I;have hJ:=Q85 h (i:=i) I;rw[Uz,Qs hi,Qrc,Qt,(line h hi).1];simp -implicitDefEqProofs only[Qh,Qr9,Qre,QK (show i<=1000 by omega)];refine X0 (r:=λm' k=>Wp 400 (encI (X.runs X.L)) (i:Int) X.Ls (X.T.map tuR) (D.sl 4 (HI X.Ls i)) (λ_ _ w=>Uz 400 (encI (X.runs X.L)) X.Ls (X.T.map tuR) (λf g c=>K c) m ((i+1:Nat):Int) w) m' k ((if k.toNat<=X.nr i-1 then X.jnsR i++(List.range k.toNat).map (X.j1 i)else X.jnsR (i+1)).map tuR)) (N:=X.nr i) (λm' k hk=>?_) (λm'=>?_) (X.nr i) 400 0 I I |> Eq.trans Q2
  ·simp only[Qrb];have r:=rd h hi hk;have hr:=Db h hi hk;have aa:Qi (HI X.Ls i) (k:Int)=some [Ql (rF X.Ls i k 0),Ql (X.ex i k),Ql (X.mn i k),Ql (X.mx i k)]:=by rw[Qt,r.row]
   have l:=r.ex0;have e1:=r.ex1;have e2:=r.mn0;have n:=r.mn1;have o:=r.mn2;have p:=r.mn3;rw[Wp,X6,Qh,show(((HI X.Ls i).length:Nat):Int)=((X.nr i:Nat):Int)from rfl,Qs hk,Qrc,Qrv (show k<=X.nr i-1 by omega)];simp -implicitDefEqProofs only[Qh,Q2E h (show i<=X.Ls.length by omega),aa,Qr9,Qre,Qj,X6,hw,Qdi (a:=base X.nr i) (b:=k) I,Q7f hi hk,QK (show k<=1000 by omega),Qo (x:=X.run i k+X.mn i k) I I,Qo (x:=X.run i k+X.ex i k) I I,Qo (x:=X.run i k+X.ex i k+X.mx i k) I I,QeO (a:=base X.nr i+k) I];by_cases j:k<X.nr i-1
   ·rw[Qs j,Qrc,Qrv (show k+1<=X.nr i-1 by omega),XK Q3,Qh,<- ZJ,Qrk (l₁:=X.jnsR i++(List.range k).map (X.j1 i))];rfl
   ·rw[Q5 ((k:Int)<((X.nr i-1:Nat):Int)),Qra,Qrz (show ¬ k+1<=X.nr i-1 by omega),Qew h];have d:k=X.nr i-1:=I
    cases ht:X.tn i with
    |none=>
     simp -implicitDefEqProofs only[Qh,Qra,jnsR,jR,ht,Qrs,d]
    |some t=>
     obtain⟨t1,t2⟩:=Qab ht;have ak:=(h.tr _ t1).2.1;have q:=(h.tr _ t1).2.2.1;have s:=(h.tr _ t1).2.2.2.1;have u:=(h.tr _ t1).2.2.2.2.1;have v:=(h.tr _ t1).2.2.2.2.2.1;simp -implicitDefEqProofs only[Qh,Qrc,Qj,Q2E h (show t.2.1<=X.Ls.length by omega),Qo (x:=X.run i k+t.2.2.1) I I,Qo (x:=X.run i k+X.ex i k+t.2.2.2) I I,jnsR,jR,ht];have e:[Ql ((base X.nr i+k:Nat):Int),Ql ((base X.nr t.2.1:Nat):Int),Ql (X.run i k+t.2.2.1),Ql (X.run i k+X.ex i k+t.2.2.2)]=tuR (X.jT t):=by
      unfold tuR jT;rw[t2,d];rfl
     rw[XK Q3,Qh,e,d,<- Qrl,Qrk (l₁:=X.jnsR i++_)];rfl
  ·simp only[Qrb];rw[Wp,X6,Qh,show(((HI X.Ls i).length:Nat):Int)=((X.nr i:Nat):Int)from rfl,Qy,Qra,Qrz I]
 ·simp only[Qrb];rw[Uz,Qy,Qra];rfl
theorem Qeq(k0:LL->oP R):Wr 400 X.Ls (λ_ _ w=>k0 w) 400 0 []=k0 (X.evs X.L):=by
 have l1:=h.l1;refine X0 (r:=λm i=>Wr 400 X.Ls (λ_ _ w=>k0 w) m i (X.evs i.toNat)) (N:=X.Ls.length) (λm i hi=>?_) (λm=>?_) X.Ls.length 400 0 I I
 ·simp only[Qrb];have hl:=(line h hi).2.1;have hb:=Zy h (i:=i) I;rw[Wr,Qs hi,Qrc,QK (show i<=1000 by omega)];refine X0 (r:=λm' k=>VO 400 (i:Int) X.Ls (λ_ _ w=>Wr 400 X.Ls (λ_ _ w=>k0 w) m ((i+1:Nat):Int) w) m' k (X.evs i++evl i k.toNat)) (N:=X.nr i) (λm' k hk=>?_) (λm'=>?_) (X.nr i) 400 0 I I |> Eq.trans (by simp[evl])
  ·simp only[Qrb];rw[VO,Qt,(line h hi).1];simp -implicitDefEqProofs only[Qh,Qr9,Qre,X6];rw[show(((HI X.Ls i).length:Nat):Int)=((X.nr i:Nat):Int)from rfl,Qs hk,Qrc,XK (by simp[evs_len,RX];omega),Qh,QK I,Qrl];rfl
  ·simp only[Qrb];rw[VO,Qt,(line h hi).1];simp -implicitDefEqProofs only[Qh,Qr9,Qre,X6];rw[show(((HI X.Ls i).length:Nat):Int)=((X.nr i:Nat):Int)from rfl,Qy,Qra];rfl
 ·simp only[Qrb];rw[Wr,Qy,Qra];rfl
theorem QgD(K:LL->oP R):Rc 400 X.Ls (encI (X.runs X.L)) K=K (X.pls X.L):=by
 have l1:=h.l1;unfold Rc;refine X0 (r:=λm i=>UE 400 (encI (X.runs X.L)) X.Ls (λe f c=>K c) m i (X.pls i.toNat)) (N:=X.Ls.length) (λm i hi=>?_) (λm=>?_) X.Ls.length 400 0 I I
 ·simp only[Qrb];have hl:=(line h hi).2.1;have hb:=Zy h (i:=i) I;have hp:=Q09 (X:=X) (i:=i);have hw:wJ (((List.length (HI X.Ls i):Nat):Int)-1)=((X.nr i-1:Nat):Int):=G6 (k:=X.nr i) I I;rw[UE,Qs hi,Qrc,Qt,(line h hi).1];simp -implicitDefEqProofs only[Qh,Qr9,Qre,QK (show i<=1000 by omega)];refine X0 (r:=λm' k=>UH 400 (encI (X.runs X.L)) (i:Int) X.Ls (Ql (X.w i)) (D.sl 4 (HI X.Ls i)) (λ_ _ w=>UE 400 (encI (X.runs X.L)) X.Ls (λe f c=>K c) m ((i+1:Nat):Int) w) m' k (X.pls i++X.pl i k.toNat)) (N:=X.nr i) (λm' k hk=>?_) (λm'=>?_) (X.nr i) 400 0 I I |> Eq.trans (by simp[pl])
  ·simp only[Qrb];have r:=rd h hi hk;have hr:=Db h hi hk;have aa:Qi (HI X.Ls i) (k:Int)=some [Ql (rF X.Ls i k 0),Ql (X.ex i k),Ql (X.mn i k),Ql (X.mx i k)]:=by rw[Qt,r.row]
   have g:=r.ex0;have e1:=r.ex1;have ai:=Q87 (X:=X) (i:=i) (k:=k);rw[UH,X6,Qh,show(((HI X.Ls i).length:Nat):Int)=((X.nr i:Nat):Int)from rfl,Qs hk,Qrc];simp -implicitDefEqProofs only[Qh,Q2E h (show i<=X.Ls.length by omega),aa,Qr9,Qre,Qj,X6,hw,Qdi (a:=base X.nr i) (b:=k) I,Q7f hi hk,QK (show k<=1000 by omega),Qo (x:=X.run i k+X.ex i k) I I,Q0G (a:=base X.nr i+k) I,QeO (a:=2*(base X.nr i+k)) I,Qje (a:=2*(base X.nr i+k)) I];rw[XK Q3,Qh];by_cases d:k<X.nr i-1
   ·rw[Qs d,Qrc,XK Q3,Qh,pl,Qrv d,<- Qrl,<- Qrl];rfl
   ·rw[Q5 ((k:Int)<((X.nr i-1:Nat):Int)),Qra,pl,Qrz d,Qrs,<- Qrl];rfl
  ·simp only[Qrb];rw[UH,X6,Qh,show(((HI X.Ls i).length:Nat):Int)=((X.nr i:Nat):Int)from rfl,Qy,Qra];rfl
 ·simp only[Qrb];rw[UE,Qy,Qra];rfl
theorem QhO{per:Int}{Ch Sy:LL}(hl:X.LsOK per Ch Sy)(K:LL->oP R):RV 400 X.Ls Ch (X.T.map tuR) Sy K=K (Ch.map X.chE++X.T.map X.tuE++Sy.map X.syE):=by
 have l1:=h.l1;have tl:=h.tl;have chl:=hl.chl;have syl:=hl.syl;unfold RV;have s1:∀k0:LL->oP R,UF 400 X.Ls Ch (λ_ _ w=>k0 w) 400 0 []=k0 (Ch.map X.chE):=by
  intro k0;refine X0 (r:=λm j=>UF 400 X.Ls Ch (λ_ _ w=>k0 w) m j ((Ch.take j.toNat).map X.chE)) (N:=Ch.length) (λm j hj=>?_) (λm=>?_) Ch.length 400 0 I I
  ·simp only[Qrb];obtain⟨row,e⟩:∃q,Ch[j]? = some q:=⟨Ch[j],Qrf hj⟩;obtain⟨f,fr,t,tr,mn,mx,w,rfl,g1,n,c,y,z,g6⟩:=hl.ch row (Qrd e);have nf:=(line h g1).2.1;have nt:=(line h c).2.1;have bf:=Zy h (i:=f) I;have bt:=Zy h (i:=t) I;rw[UF,Qs hj,Qrc,Qt,e,ZC e,Qrk];simp -implicitDefEqProofs only[Qh,Qr9,Qre,Qj,Q2E h (show f<=X.Ls.length by omega),Q2E h (show t<=X.Ls.length by omega),QK (show j<=1000 by omega),Qdi (a:=base X.nr f) (b:=fr) I,Qdi (a:=base X.nr t) (b:=tr) I,Q0G (a:=base X.nr f+fr) I,Q0G (a:=base X.nr t+tr) I,QeO (a:=2*(base X.nr f+fr)) I];rw[XK Q3,Qh];rfl
  ·simp only[Qrb];rw[UF,Qy,Qra,QrB]
 have s2:∀k0:LL->oP R,Wn 400 X.Ls (X.T.map tuR) (λ_ _ w=>k0 w) 400 0 (Ch.map X.chE)=k0 (Ch.map X.chE++X.T.map X.tuE):=by
  intro k0;refine X0 (r:=λm j=>Wn 400 X.Ls (X.T.map tuR) (λ_ _ w=>k0 w) m j (Ch.map X.chE++(X.T.take j.toNat).map X.tuE)) (N:=X.T.length) (λm j hj=>?_) (λm=>?_) X.T.length 400 0 I I |> Eq.trans Q2
  ·simp only[Qrb];obtain⟨⟨a,b,lo,hi⟩,e⟩:∃q,X.T[j]? = some q:=⟨X.T[j],Qrf hj⟩;have ht:=h.tr _ (Qrd e);have g1:a<X.Ls.length:=ht.1;have c:b<X.Ls.length:=ht.2.1;have nf:=(line h g1).2.1;have bf:=Zy h (i:=a) I;have bt:=Zy h (i:=b) I;have aa:Qi (X.T.map tuR) (j:Int)=some [Ql a,Ql b,Ql lo,Ql hi]:=X7 e;have p:Ch.map X.chE++(X.T.take (j+1)).map X.tuE=Ch.map X.chE++(X.T.take j).map X.tuE++[X.tuE (a,b,lo,hi)]:=by rw[ZC e,Qrk,<- Qrl];rfl
   have hw:wJ (((2*(base X.nr a+X.nr a):Nat):Int)-1)=((2*(base X.nr a+(X.nr a-1))+1:Nat):Int):=by rw[Qo I I];omega
   have ha:wJ (((base X.nr a:Nat):Int)+(((HI X.Ls a).length:Nat):Int))=((base X.nr a+X.nr a:Nat):Int):=Qdi (a:=base X.nr a) (b:=X.nr a) I;rw[Wn,Qrg,Qs hj,Qrc,aa,p];simp -implicitDefEqProofs only[Qh,Qr9,Qre,Qj,X6,Q2E h (show a<=X.Ls.length by omega),Q2E h (show b<=X.Ls.length by omega),Qt,(line h g1).1,QK (show j<=1000 by omega),ha,Q0G (a:=base X.nr a+X.nr a) I,Q0G (a:=base X.nr b) I,hw];rw[XK Q3,Qh];rfl
  ·simp only[Qrb];rw[Wn,Qrg,Qy,Qra,QrB]
 have s:∀k0:LL->oP R,Zs 400 X.Ls Sy (λ_ _ w=>k0 w) 400 0 (Ch.map X.chE++X.T.map X.tuE)=k0 (Ch.map X.chE++X.T.map X.tuE++Sy.map X.syE):=by
  intro k0;refine X0 (r:=λm j=>Zs 400 X.Ls Sy (λ_ _ w=>k0 w) m j (Ch.map X.chE++X.T.map X.tuE++(Sy.take j.toNat).map X.syE)) (N:=Sy.length) (λm j hj=>?_) (λm=>?_) Sy.length 400 0 I I |> Eq.trans Q2
  ·simp only[Qrb];obtain⟨row,e⟩:∃q,Sy[j]? = some q:=⟨Sy[j],Qrf hj⟩;obtain⟨o,rfl,g1,n,c⟩:=hl.sy row (Qrd e);have bt:=Zy h (i:=1) I;have k:=Q2E (R:=Int) h (show 0<=X.Ls.length by omega) some;have l:=Q2E (R:=Int) h (show 1<=X.Ls.length by omega) some;have a0:=Qdi (a:=base X.nr 0) (b:=0) (by simp[base]);have a1:=Qdi (a:=base X.nr 1) (b:=0) I;simp only[show((0:Nat):Int)=0 from rfl,show((1:Nat):Int)=1 from rfl]at k l a0 a1;rw[Zs,Qs hj,Qrc,Qt,e,ZC e,Qrk,<- Qrl];simp -implicitDefEqProofs only[Qh,Qr9,Qre,Qj,k,l,a0,a1,QK (show j<=1000 by omega),Q0G (a:=base X.nr 0+0) (by simp[base]),Q0G (a:=base X.nr 1+0) I];rw[XK Q3,Qh];rfl
  ·simp only[Qrb];rw[Zs,Qy,Qra,QrB]
 rw[s1 (λu=>Wn 400 X.Ls (X.T.map tuR) (λab ac d=>Zs 400 X.Ls Sy (λv x g=>K g) 400 0 d) 400 0 u),s2 (λd=>Zs 400 X.Ls Sy (λv x g=>K g) 400 0 d),s]
end Cx
theorem QhB{α:Type}{J J':Y α}(hJ:∀t,t∈J↔t∈J')(p:α->Bool):J.any p=J'.any p:=by
 rw[Bool.eq_iff_iff,List.any_eq_true,List.any_eq_true];exact⟨λ⟨t,a,h2⟩=>⟨t,(hJ t).1 a,h2⟩,λ⟨t,a,h2⟩=>⟨t,(hJ t).2 a,h2⟩⟩
theorem Qg1{α:Type}{J J':Y α}(hJ:∀t,t∈J↔t∈J')(p:α->Bool):J.all p=J'.all p:=by
 rw[Bool.eq_iff_iff,QrP,QrP];exact⟨λh t ht=>h t ((hJ t).2 ht),λh t ht=>h t ((hJ t).1 ht)⟩
namespace Cx
variable{R:Type} {X:Cx} {per:Int} {Ch Sy De:LL}
theorem Q8r{J J':Y Tup}(hJ:∀t,t∈J↔t∈J'):X.netV per J Ch Sy=X.netV per J' Ch Sy:=by
 have e1:∀a b,X.fil J a b=X.fil J' a b:=λa b=>List.filter_congr λo _=>by
  unfold TRb;rw[QhB hJ]
 have e2:∀a b,X.WV per J a b=X.WV per J' a b:=λa b=>by
  unfold WV;rw[e1,e1]
 have d:∀a c b,X.hdw per J a c b=X.hdw per J' a c b:=λa c=>by
  induction c with
  |zero=>exact λ_=>rfl
  |succ c ih=>intro b;rw[hdw,hdw,e2,ih]
 have e:∀c a,X.hdws per J c a=X.hdws per J' c a:=λc=>by
  induction c with
  |zero=>exact λ_=>rfl
  |succ c ih=>intro a;rw[hdws,hdws,d,ih]
 unfold netV aloneJ;rw[e,Qg1 hJ]
variable(h:X.OK)
theorem QhD{a b:Nat}(ha:a<=100)(hb:b<=100){W:Y Sp2}(hW:W.length<=12){k0:LL->oP R}{A:LL}(hA:A.length<=900):UO 400 (a:Int) (b:Int) (W.map Yo) (λ_ _ w=>k0 w) 400 0 A=k0 (A++W.map (Q95 a b)):=by
 refine X0 (r:=λm j=>UO 400 (a:Int) (b:Int) (W.map Yo) (λ_ _ w=>k0 w) m j (A++(W.take j.toNat).map (Q95 a b))) (N:=W.length) (λm j hj=>?_) (λm=>?_) W.length 400 0 I I |> Eq.trans Q2
 ·simp only[Qrb];obtain⟨w,e⟩:∃q,W[j]? = some q:=⟨W[j],Qrf hj⟩;rw[UO,Qrg,Qs hj,Qrc,X7 e,ZC e,Qrk,<- Qrl];simp -implicitDefEqProofs only[Qh,Qcn,QbP,Qj,QK (show j<=1000 by omega),Q0G (a:=a) I,Q0G (a:=b) I];rw[XK Q3,Qh];rfl
 ·simp only[Qrb];rw[UO,Qrg,Qy,Qra,QrB]
include h
theorem Qdv(p0:2<=per)(p1:per<=300){J:Y Tup}(hJ:X.JOK J){a:Nat}(ha:a<X.N){Ke:oP R}{K1:LL->oP R}:∀(c m b:Nat) (A:LL),b+c=X.N->c<m->A.length+12*c<=900 ->
  VL 400 (Kf (X.occs X.L)) (J.map tuR) (a:Int) per Ke (λ_ _ w=>K1 w) m (b:Int) A=match X.hdw per J a c b with | none=>Ke | some H=>K1 (A++H)
 |0,m+1,b,A,hb,_,_=>by
  have aa:(Kf (X.occs X.L)).length=X.N:=by rw[Jp];exact ZN
  rw[VL,aa,Q5 ((b:Int)<(X.N:Int)),Qra,hdw];simp only[Qrs]
 |c+1,m+1,b,A,hb,hm,hA=>by
  have aa:(Kf (X.occs X.L)).length=X.N:=by rw[Jp];exact ZN
  have hN:X.N<=6:=base_le h;have hw:=Q3f h p0 p1 (J:=J) ha (show b<X.N by omega);rw[VL,aa,Q6 ((b:Int)<(X.N:Int)),Qrc,Q72 h hJ ha,Q72 h hJ (show b<X.N by omega)];simp -implicitDefEqProofs only[Qh,hw.2.1,QK (show b<=1000 by omega),hdw];cases ew:X.WV per J a b with
  |none=>rfl
  |some W=>
   have hl:=hw.2.2 W ew;simp -implicitDefEqProofs only[QhQ];rw[Qp (by rfl),QhD I I hl I,Qdv p0 p1 hJ ha c m (b+1) _ I I Q3];cases X.hdw per J a c (b+1)with
   |none=>rfl
   |some H=>simp -implicitDefEqProofs only[Option.map_some,Qrl]
theorem Qdr(p0:2<=per)(p1:per<=300){J:Y Tup}(hJ:X.JOK J){Ke:oP R}{K1:LL->oP R}:∀(c m a:Nat) (A:LL),a+c=X.N->c<m->A.length+72*c<=900 ->
  UK 400 (Kf (X.occs X.L)) (J.map tuR) per Ke (λ_ _ w=>K1 w) m (a:Int) A=match X.hdws per J c a with | none=>Ke | some H=>K1 (A++H)
 |0,m+1,a,A,ha,_,_=>by
  have aa:(Kf (X.occs X.L)).length=X.N:=by rw[Jp];exact ZN
  rw[UK,aa,Q5 ((a:Int)<(X.N:Int)),Qra,hdws];simp only[Qrs]
 |c+1,m+1,a,A,ha,hm,hA=>by
  have aa:(Kf (X.occs X.L)).length=X.N:=by rw[Jp];exact ZN
  have hN:X.N<=6:=base_le h;rw[UK,aa,Q6 ((a:Int)<(X.N:Int)),Qrc,QK (show a<=1000 by omega),Qdv h p0 p1 hJ (show a<X.N by omega) (Ke:=Ke) (K1:=λA=>UK 400 (Kf (X.occs X.L)) (J.map tuR) per Ke (λ_ _ w=>K1 w) m ((a+1:Nat):Int) A) c 400 (a+1) A I I I,hdws];cases eh:X.hdw per J a c (a+1)with
  |none=>rfl
  |some H=>
   have:=Q2N h p0 p1 (J:=J) (show a<X.N by omega) (c:=c) (b:=a+1) I eh;dsimp only;rw[Qdr p0 p1 hJ c m (a+1) (A++H) I I Q3];cases X.hdws per J c (a+1)with
   |none=>rfl
   |some H'=>simp -implicitDefEqProofs only[Option.map_some,Qrl]
theorem Qe1(p0:2<=per)(p1:per<=300){k0 E:oP R}{k1:Int->Bool->oP R}(hk:∀a b,k1 a b=E):UR 400 (Kf (X.occs X.L)) per k0 k1 400 0=bif (X.occs X.L).all (λo=>o.all (LN per))then E else k0:=by
 have hN:X.N<=6:=base_le h;have ac:(X.occs X.L).length=X.N:=ZN;refine TP (r:=λm i=>UR 400 (Kf (X.occs X.L)) per k0 k1 m i) (λm i o e hi=>?_) (λm=>?_) I
 ·have ho:=Qb8 h o (Qrd e);have aa:Qi (Kf (X.occs X.L)) (i:Int)=some [D.sl 3 (o.map enc)]:=X7 e;rw[UR,Jp,Qs hi,Qrc,aa];simp -implicitDefEqProofs only[Qh,Qr9,X6,Qgz (show 1<=per by omega) (show per<=7200 by omega) ho.1 (show o.length<=300 by omega),QK (show i<=1000 by omega)];cases o.all (LN per)<;>rfl
 ·rw[UR,Jp,Qy,Qra,hk]
theorem QeY{J:Y Tup}(hJ:X.JOK J){k0 E:oP R}{k1:Int->Bool->oP R}(hk:∀a b,k1 a b=E):US 400 (Kf (X.occs X.L)) (J.map tuR) per k0 k1 400 0=bif J.all (λt=>!Qad per t.2.2.1 t.2.2.2 (X.occN t.1) (X.occN t.2.1))then E else k0:=by
 have ac:=hJ.len;refine TP (r:=λm i=>US 400 (Kf (X.occs X.L)) (J.map tuR) per k0 k1 m i) (λm i t e hi=>?_) (λm=>?_) I
 ·rw[US,Qrg,Qs hi,Qrc,X7 e];simp -implicitDefEqProofs only[Qh,tuR,Qr9,Qre,Qj,QK (show i<=1000 by omega),QgY h hJ (Qrd e)];cases Qad per t.2.2.1 t.2.2.2 (X.occN t.1) (X.occN t.2.1)<;>rfl
 ·rw[US,Qrg,Qy,Qra,hk]
theorem buildR(hl:X.LsOK per Ch Sy)(p0:2<=per)(p1:per<=300)(hc:Wm 400 X.G.St X.G.Pt X.G.Se X.G.Li per X.skR X.Ro X.Ls Ch (X.T.map tuR) Sy De (some:Int->oP Int)=some 0) :
  J1 400 X.G.St X.G.Pt X.G.Se X.G.Li per X.skR X.Ro X.Ls Ch (X.T.map tuR) Sy De Tu4=some (X.netV per X.jns Ch Sy):=by
 have hN:X.N<=6:=base_le h;have ac:(X.occs X.L).length=X.N:=ZN;have ak:=planned_len h hl;have hJ:=Qgt h;have aa:(X.pls X.L++(Ch.map X.chE++X.T.map X.tuE++Sy.map X.syE))=X.planned Ch Sy:=by unfold planned;simp only[Qrl]
 rw[<- Q8r λt=>Q3N h (t:=t)];unfold J1 netV;rw[Qh0 h hc,Qh,Qp (by rfl)];dsimp only;rw[Jp,ac,Q0G I,Qp (Qri I),Qe1 h p0 p1 (λ_ _=>rfl)];unfold aloneJ;cases (X.occs X.L).all (λo=>o.all (LN per))
 ·rfl
 rw[Qrc,Qrc,Qhz h,Qh,QeY h hJ (λ_ _=>rfl)];cases (X.jnsR X.L).all (λt=>!Qad per t.2.2.1 t.2.2.2 (X.occN t.1) (X.occN t.2.1))
 ·rfl
 rw[Qrc,Qrc];refine(Qeq h _).trans ?_;rw[QgD h,QhO h hl,Qh,Qh,XK (by rw[<- Qrx,aa];omega),Qh,aa];refine(Qdr h p0 p1 hJ (Ke:=some ((0:Int),([]:LL),([]:LL),(13:Int))) (K1:=λa=>bif decide (((List.length a:Nat):Int)>512)then some (0,[],[],7)else some (per,X.evs X.L,a,0)) X.N 400 0 (X.planned Ch Sy) I I I).trans ?_;cases eh:X.hdws per (X.jnsR X.L) X.N 0 with
 |none=>rfl
 |some H=>
  have:=hdws_len h p0 p1 I eh;dsimp only;rw[Qp (Qri (by rw[Qrx];omega))]
end Cx
def R6(row:Y D):Prop:=∃kd f t mn mx w:Int,row=[Ql kd,Ql f,Ql t,Ql mn,Ql mx,Ql w]
def chk(per:Int)(e:Nat):Y D->Bool
 |[_,.int _ f,.int _ t,.int _ mn,.int _ mx,.int _ w]=>!(bif bif !(bif decide (f>=0)then decide (f<(e:Int))else false)then true else !(bif decide (t>=0)then decide (t<(e:Int))else false)then true else f == t)&&(!(bif bif bif decide (mn < -65536)then true else decide (mn>mx)then true else decide (mx>65536)then true else decide (wJ (mx-mn)>=per))&&!(bif decide (w<0)then true else decide (w>1048576)))
 |_=>false
theorem AG{per:Int}{e:Nat}{kd f t mn mx w:Int}(h:chk per e [Ql kd,Ql f,Ql t,Ql mn,Ql mx,Ql w]=true):0<=f/\f<e/\0<=t/\t<e /\ -65536<=mn/\mn<=mx/\mx<=65536:=by
 simp only[chk,Bool.cond_true_left,Bool.cond_false_right,Bool.and_eq_true,Bool.not_eq_true',Bool.or_eq_false_iff,Bool.not_eq_false',decide_eq_true_eq,decide_eq_false_iff_not,beq_eq_false_iff_ne]at h;omega
section
variable{per:Int} {E A:LL} (p0:2<=per) (p1:per<=300) (hE:E.length<=48) (hA:A.length<=512) (hr:∀r∈A,R6 r)
include p0 p1 hE hA hr
theorem Qgv(hl:A.length<400):Tx 400 per E A some=some (A.all (chk per E.length)):=by
 unfold Tx;rw[Q5 (per<2),Q5 (per>7200),Q5 ((E.length:Int)>48),Q5 ((A.length:Int)>512)];simp -implicitDefEqProofs only[Qra];refine(TP (r:=λm i=>Ug 400 A (A.length:Int) per E A (some false) (λ_ _=>some true) m i) (l:=A) (p:=chk per E.length) (E0:=some false) (E1:=some true) (λm i q e hi=>?_) (λm=>?_) (fuel:=400) I).trans (by cases A.all (chk per E.length)<;>rfl)
 ·obtain⟨kd,f,t,mn,mx,w,rfl⟩:=hr q (Qrd e);rw[Ug,Qs hi,Qrc,Qt,e];unfold GB;simp -implicitDefEqProofs only[Qh,Qr9,Qre,Qj,QK (show i<=1000 by omega)];dsimp only[chk];cases (bif bif !(bif decide (f>=0)then decide (f<(E.length:Int))else false)then true else !(bif decide (t>=0)then decide (t<(E.length:Int))else false)then true else f == t)
  ·cases (bif bif bif decide (mn < -65536)then true else decide (mn>mx)then true else decide (mx>65536)then true else decide (wJ (mx-mn)>=per))
   ·cases (bif decide (w<0)then true else decide (w>1048576))<;>rfl
   ·rfl
  ·rfl
 ·rw[Ug,Qy,Qra]
theorem Qdx(hl:A.length<400):UA 400 per E A some=some (A.all (chk per E.length)):=by
 unfold UA Tl;rw[Q6 (per>=2),Q6 (per<=7200),Q5 ((E.length:Int)>48),Q5 ((A.length:Int)>512)];simp -implicitDefEqProofs only[Qra,Qrc,Qh,Qrn];refine(TP (r:=λm i=>VM 400 per E A (some false) (λ_ _=>some true) m i) (l:=A) (p:=chk per E.length) (E0:=some false) (E1:=some true) (λm i q e hi=>?_) (λm=>?_) (fuel:=400) I).trans (by cases A.all (chk per E.length)<;>rfl)
 ·obtain⟨kd,f,t,mn,mx,w,rfl⟩:=hr q (Qrd e);rw[VM,Qs hi,Qrc,Qt,e];unfold Tl;simp -implicitDefEqProofs only[Qh,Qr9,Qre,Qj,QK (show i<=1000 by omega),Qo (x:=(E.length:Int)-1) I I];have sw:∀(c d:Bool) (x y:oP Bool),c = !d->(bif c then x else y)=bif d then y else x:=λc d x y h=>by rw[h];cases d<;>rfl
  refine sw _ _ _ _ ?_;rw[Bool.eq_iff_iff];simp only[chk,Bool.cond_true_left,Bool.cond_false_right,Bool.and_eq_true,Bool.or_eq_true,Bool.not_eq_true',Bool.and_eq_false_iff,Bool.or_eq_false_iff,Bool.not_eq_false',decide_eq_true_eq,decide_eq_false_iff_not,beq_eq_false_iff_ne,beq_iff_eq];omega
 ·rw[VM,Qy,Qra]
def Q3P(per:Int)(E A:LL)(tl:Y Int):Bool:=bif (bif !(A.all (chk per E.length))then true else(tl.length:Int) != (E.length:Int))then false else tl.all λx=>!(bif decide (x<0)then true else decide (x>=per))
theorem Qcj(hl:A.length<400){tl:Y Int}:J4 400 per E A (encI tl) some=some (Q3P per E A tl)/\Sn 400 per E A (encI tl) some=some (Q3P per E A tl):=by
 have ca:=Qgv p0 p1 hE hA hr hl;have cb:=Qdx p0 p1 hE hA hr hl;have aa:(encI tl).length=tl.length:=QP tl;unfold J4 Sn Q3P;rw[ca,cb,Qh,Qh,aa];cases hc:(bif !(A.all (chk per E.length))then true else(tl.length:Int) != (E.length:Int))with
 |true=>exact⟨rfl,rfl⟩
 |false=>
  have ac:tl.length=E.length:=by
   cases a : !(A.all (chk per E.length))with
   |true=>rw[a]at hc;cases hc
   |false=>
    rw[a,Qra]at hc;have:(tl.length:Int)=(E.length:Int):=by simpa using hc
    omega
  rw[Qra,Qra,Qra];constructor
  ·refine(TP (r:=λm i=>Vc 400 (encI tl) (tl.length:Int) per (some false) (λ_ _=>some true) m i) (l:=tl) (p:=λx=>!(bif decide (x<0)then true else decide (x>=per))) (E0:=some false) (E1:=some true) (λm i q e hi=>?_) (λm=>?_) (fuel:=400) I).trans (by cases tl.all _<;>rfl)
   ·rw[Vc,Qs hi,Qrc,GQ e];simp -implicitDefEqProofs only[Qh,Qr9,Qj,QK (show i<=1000 by omega)];cases (bif decide (q<0)then true else decide (q>=per))<;>rfl
   ·rw[Vc,Qy,Qra]
  ·refine(TP (r:=λm i=>Js 400 (encI tl) per (some false) (λ_ _=>some true) m i) (l:=tl) (p:=λx=>!(bif decide (x<0)then true else decide (x>=per))) (E0:=some false) (E1:=some true) (λm i q e hi=>?_) (λm=>?_) (fuel:=400) I).trans (by cases tl.all _<;>rfl)
   ·rw[Js,aa,Qs hi,Qrc,GQ e];unfold Tl;simp -implicitDefEqProofs only[Qh,Qr9,Qj,QK (show i<=1000 by omega),Qo (x:=per-1) I I];by_cases a:q<0
    ·rw[Q5 (q>=0),show decide (q<0)=true from Qrm a];rfl
    ·rw[Q6 (q>=0),show decide (q<0)=false from Qri a];by_cases h2:q>=per
     ·rw[Q5 (q<=per-1),show decide (q>=per)=true from Qrm h2];rfl
     ·rw[Q6 (q<=per-1),show decide (q>=per)=false from Qri h2];rfl
   ·rw[Js,aa,Qy,Qra]
end
theorem Px{w:Y Int}{i:Nat}{v:Int}:(encI w).set i [Ql v]=encI (w.set i v):=by
 unfold encI;rw[List.map_set]
def tat(tl:Y Int)(i:Int):Int:=tl.getD i.toNat 0
def dur(tl:Y Int)(per f t mn:Int):Int:=mn+(tat tl t-tat tl f-mn) % per
def XA(tl:Y Int)(per:Int):Y D->Int
 |[_,.int _ f,.int _ t,.int _ mn,_,_]=>dur tl per f t mn
 |_=>0
def Q0P(l:Y Bool):LL:=l.map λb=>[D.bool b]
theorem Vw{w:Y Int}{i:Nat}(h:i<w.length):(encI w)[i]? = some [Ql w[i]]:=by
 exact GQ (Qrf h)
theorem Q6g{w:Y Bool}{i:Nat}(h:i<w.length):(Q0P w)[i]? = some [D.bool w[i]]:=by
 simp[Q0P,Qrp,Qrf]
theorem Q2I{w:Y Bool}:(Q0P w).length=w.length:=by simp[Q0P]
theorem Q7Y{w:Y Bool}{i:Nat}{v:Bool}:(Q0P w).set i [D.bool v]=Q0P (w.set i v):=by
 grind[Q0P,List.map_set]
def TG(per:Int)(k:Nat)(w:Y Int):Prop:=w.length=k/\∀x∈w,0<=x/\x<per
theorem TG.set{per:Int}{k:Nat}{w:Y Int}(h:TG per k w){i:Nat}{v:Int}(a:0<=v)(b:v<per):TG per k (w.set i v):=by
 refine⟨by rw[QrI];exact h.1,λx hx=>?_⟩;rcases List.mem_or_eq_of_mem_set hx with hx | rfl
 ·exact h.2 x hx
 omega
theorem TG.tat{per:Int}{k:Nat}{w:Y Int}(h:TG per k w){i:Int}(a:0<=i)(b:i<(k:Int)):Qi (encI w) i=some [Ql (Vx.tat w i)]/\0<=Vx.tat w i/\Vx.tat w i<per:=by
 have hl:=h.1;have e:w[i.toNat]? = some (Vx.tat w i):=by
  simp_all [Vx.tat,Qrh,Qrf]
 have:=GQ e;rw[show(i.toNat:Int)=i by omega]at this;exact⟨this,h.2 _ (Qrd e)⟩
section
variable{R:Type} {n N:Nat} (hN:N<=48) {P:oP R->Prop}
include hN
theorem QgP{k0:Int->Bool->LL->oP R}(H:∀w:Y Int,w.length=N->P (k0 (N:Int) false (encI w))):∀(c i m:Nat) (w:Y Int),i+c=N->c<m->w.length=N->P (Zp n (N:Int) k0 m (i:Int) (encI w))
 |0,i,m+1,w,hi,_,hw=>by
  rw[Zp,show i=N by omega,Qy,Qra];exact H w hw
 |c+1,i,m+1,w,hi,hm,hw=>by
  rw[Zp,Qs I,Qrc,XR I (by rw[QP];omega),Qh,Qrb,Vw I,Qh,Qru,Px,QK I];exact QgP H c (i+1) m _ I I (by rw[QrI];exact hw)
theorem QaY{x y:Int}{k0:Int->Bool->LL->oP R}(H:∀w:Y Int,w.length=N->P (k0 (N:Int) false (encI w))):∀(c i m:Nat) (w:Y Int),i+c=N->c<m->w.length=N->P (Zn n x y (N:Int) k0 m (i:Int) (encI w))
 |0,i,m+1,w,hi,_,hw=>by
  rw[Zn,show i=N by omega,Qy,Qra];exact H w hw
 |c+1,i,m+1,w,hi,hm,hw=>by
  rw[Zn,Qs I,Qrc,XR I (by rw[QP];omega),Qh,Qrb,Vw I];simp -implicitDefEqProofs only[Qh,Qr9,Qj,Qru,Px,QK (show i<=1000 by omega)];cases w[i]'I == y with
  |true=>exact QaY H c (i+1) m _ I I (by rw[QrI];exact hw)
  |false=>exact QaY H c (i+1) m _ I I hw
theorem QgI(hn:N<n){w:Y Int}(hw:w.length=N){kd f t mn mx q:Int}(hf:0<=f/\f<N)(ht:0<=t/\t<N){K:Bool->LL->oP R}(H:∀b (w:Y Int),w.length=N->P (K b (encI w))):P (JS n (encI w) kd f t mn mx q K):=by
 obtain⟨f,rfl⟩:=Int.eq_ofNat_of_zero_le hf.1;obtain⟨t,rfl⟩:=Int.eq_ofNat_of_zero_le ht.1;unfold JS;rw[XR I (by grind[QP]),Qh,Qrb,Vw (show f<w.length by omega),Qh];simp -implicitDefEqProofs only[Qh,Qr9,Qj];rw[XR I (by rw[QP];omega),Qh,Qrb,Vw (show t<w.length by omega),Qh];simp -implicitDefEqProofs only[Qh,Qr9,Qj];cases w[f]'I == w[t]'I with
 |true=>simp_all
 |false=>
  rw[Qra,QP];generalize w[f]'I=x;generalize w[t]'I=y;rw[hw];exact QaY hN (H true) N 0 n w I hn hw
theorem QeR{h:Nat}(hh:h<N){ro:Y Int}(hr:ro.length=N){k0:Int->Bool->LL->oP R}(H:∀w:Y Int,w.length=N->P (k0 (h:Int) false (encI w))):∀(c i m:Nat) (w:Y Int),i+c=h->c<m->w.length=N->P (YI n (h:Int) (encI ro) k0 m (i:Int) (encI w))
 |0,i,m+1,w,hi,_,hw=>by
  rw[YI,show i=h by omega,Qy,Qra];exact H w hw
 |c+1,i,m+1,w,hi,hm,hw=>by
  rw[YI,Qs I,Qrc];simp -implicitDefEqProofs only[XR (len:=(encI ro).length) (n:=(i:Int)) I (by rw[QP];omega),XR (len:=(encI ro).length) (n:=(h:Int)) I (by rw[QP];omega),XR (len:=(encI w).length) (n:=(i:Int)) I (by rw[QP];omega),XR (len:=(encI w).length) (n:=(h:Int)) I (by rw[QP];omega),Qrb,Vw (show i<ro.length by omega),Vw (show h<ro.length by omega),Vw (show i<w.length by omega),Vw (show h<w.length by omega),Qh,Qr9,Qj,Qru,Px,QK (show i<=1000 by omega)];cases ro[i]'I == ro[h]'I with
  |true=>exact QeR hh hr H c (i+1) m _ I I (by rw[QrI];exact hw)
  |false=>exact QeR hh hr H c (i+1) m _ I I hw
theorem QeC(hn:N<n){ro:Y Int}(hr:ro.length=N){k0:Int->Int->Bool->LL->oP R}(H:∀a (w:Y Int),w.length=N->P (k0 a (N:Int) false (encI w))):∀(c i m:Nat) (a:Int) (w:Y Int),i+c=N->c<m->w.length=N->P (YJ n (N:Int) (encI ro) k0 m a (i:Int) (encI w))
 |0,i,m+1,a,w,hi,_,hw=>by
  rw[YJ,show i=N by omega,Qy,Qra];exact H a w hw
 |c+1,i,m+1,a,w,hi,hm,hw=>by
  rw[YJ,Qs I,Qrc,XR I (by rw[QP];omega),Qh,Qrb,Vw (show i<w.length by omega),Qh,Qru,Px];refine QeR hN (show i<N by omega) hr (λw hw=>?_) i 0 n _ I I (by rw[QrI];exact hw);simp -implicitDefEqProofs only[XR (len:=(encI w).length) (n:=(i:Int)) I (by rw[QP];omega),Qrb,Vw (show i<w.length by omega),Qh,Qr9,Qj,Qru,Px,QK (show i<=1000 by omega)];cases decide (w[i]'I<0)with
  |true=>exact QeC hn hr H c (i+1) m _ _ I I (by rw[QrI];exact hw)
  |false=>exact QeC hn hr H c (i+1) m _ _ I I hw
theorem Qjc{A:LL}(hA:A.length<400){per:Int}(hr:∀r∈A,R6 r)(hc:∀r∈A,chk per N r=true)(hn:N<n){k0:Int->Bool->LL->oP R}(H:∀a b (w:Y Int),w.length=N->P (k0 a b (encI w))):∀(aa:LL) (i m:Nat) (w:Y Int),A.drop i=aa->aa.length<m->w.length=N->P (Zm n A k0 m (i:Int) (encI w)):=by
 intro aa;induction aa with
 |nil=>
  intro i m w hd hm hw;obtain⟨m,rfl⟩:∃k,m=k+1:=⟨m-1,I⟩;have:=We hd;rw[Zm,show decide ((i:Int)<(A.length:Int))=false by simp_all,Qra]
  simp_all
 |cons r aa ih=>
  intro i m w hd hm hw;obtain⟨m,rfl⟩:∃k,m=k+1:=⟨m-1,by simp at hm;omega⟩;obtain⟨e,am,ak⟩:=Yf hd;have ac:=Qrd e;obtain⟨kd,f,t,mn,mx,q,rfl⟩:=hr r ac;have hk:=AG (hc _ ac);rw[QrD]at hm;rw[Zm,Qs ak,Qrc,Qt,e];simp -implicitDefEqProofs only[Qh,Qr9,Qre,Qj,QK (show i<=1000 by omega)];have hx:∃b w',JS n (encI w) kd f t mn mx q Tu2=some (b,encI w')/\w'.length=N:=QgI (P:=λX=>∃b w',X=some (b,encI w')/\w'.length=N) hN hn hw I I λb w' h=>⟨b,w',rfl,h⟩
  obtain⟨b,w',e',ai⟩:=hx;rw[e',Qh];dsimp only;rw[MS (by rw[QP,QP];omega),Qh];exact ih (i+1) m w' am I ai
theorem Q9p{h:Nat}(hh:h<N){ro:Y Int}(hr:ro.length=N){k0:Int->Bool->LL->oP R}(H:∀w:Y Bool,w.length=N->P (k0 (h:Int) false (Q0P w))):∀(c i m:Nat) (w:Y Bool),i+c=h->c<m->w.length=N->P (YX n (encI ro) (h:Int) k0 m (i:Int) (Q0P w))
 |0,i,m+1,w,hi,_,hw=>by
  rw[YX,show i=h by omega,Qy,Qra];exact H w hw
 |c+1,i,m+1,w,hi,hm,hw=>by
  rw[YX,Qs I,Qrc];simp -implicitDefEqProofs only[Qt,XR (len:=(Q0P w).length) (n:=(h:Int)) I (by rw[Q2I];omega),Qrb,Vw (show i<ro.length by omega),Vw (show h<ro.length by omega),Q6g (show h<w.length by omega),Qh,Qr9,Qj,Qru,Q7Y,QK (show i<=1000 by omega)];cases ro[i]'I == ro[h]'I with
  |true=>exact Q9p hh hr H c (i+1) m _ I I (by rw[QrI];exact hw)
  |false=>exact Q9p hh hr H c (i+1) m _ I I hw
theorem QdP(hn:N<n){ro:Y Int}(hr:ro.length=N){k0:Int->Bool->LL->oP R}(H:∀w:Y Bool,w.length=N->P (k0 (N:Int) false (Q0P w))):∀(c i m:Nat) (w:Y Bool),i+c=N->c<m->w.length=N->P (ZO n (encI ro) (N:Int) k0 m (i:Int) (Q0P w))
 |0,i,m+1,w,hi,_,hw=>by
  rw[ZO,show i=N by omega,Qy,Qra];exact H w hw
 |c+1,i,m+1,w,hi,hm,hw=>by
  rw[ZO,Qs I,Qrc,XR I (by rw[Q2I];omega),Qh,Qrb,Q6g (show i<w.length by omega),Qh,Qru,Q7Y,QK I];exact Q9p hN (show i<N by omega) hr (λw hw=>QdP hn hr H c (i+1) m w I I hw) i 0 n _ I I (by rw[QrI];exact hw)
omit hN in
theorem Qip:List.replicate N [D.int .i64 (0:Int)]=encI (List.replicate N 0):=by grind[encI,List.map_replicate]
omit hN in
theorem Qkt:List.replicate N [D.bool false]=Q0P (List.replicate N false):=by grind[Q0P,List.map_replicate]
omit hN in
theorem Q4J:(bif decide ((0:Int)<=(N:Int))&&decide ((N:Int)<=(N:Int))then some ()else none)=some ():=by simp_all
end
def FsB(A:LL)(per:Int)(i:Nat)(w:Y Int):Prop:=∀kd f t mn mx q:Int,[Ql kd,Ql f,Ql t,Ql mn,Ql mx,Ql q]∈A->0<=f->f<(i:Int)->0<=t->t<(i:Int)->mn+(tat w t-tat w f-mn) % per<=mx
def TF(A:LL)(per:Int)(k i:Nat)(w:Y Int):Prop:=TG per k w/\FsB A per i w
section
variable{per:Int} {E A:LL} {n:Nat} (p0:2<=per) (p1:per<=300) (hE:E.length<=48) (hA:A.length<400) (hr:∀r∈A,R6 r) (hc:∀r∈A,chk per E.length r=true) (hn:n=400)
include p0 p1 hE hA hr hc hn
theorem QjQ(aa:UA n per E A some=some true):∃w:Y Int,G0 n per E A some=some (encI w)/\w.length=E.length:=by
 unfold G0;rw[aa,Qh,Qrn,Qra,Q4J,Qh,Qrb,XK I,Qh,List.length_replicate,Qip];refine QgP (P:=λX=>∃w:Y Int,X=some (encI w)/\w.length=E.length) hE (λw hw=>?_) E.length 0 n _ I I Q2;refine Qjc (P:=λX=>∃w:Y Int,X=some (encI w)/\w.length=E.length) hE hA hr hc I (λa b w hw=>?_) A 0 n w rfl I hw;rw[QP,hw,Q4J,Qh,Qrb,XK I,Qh,Qip];exact QeC (P:=λX=>∃w:Y Int,X=some (encI w)/\w.length=E.length) hE I hw (λa w hw=>⟨w,rfl,hw⟩) E.length 0 n 0 _ I I Q2
theorem QkM(aa:UA n per E A some=some true){bu:Int}{al:Bool}:∃w:Y Bool,K4 n per E A bu al Tu11=some (per,E,A,Q0P w,bu,0,false,al,false,0,encI (List.replicate E.length 0))/\w.length=E.length:=by
 obtain⟨ro,k,h2⟩:=QjQ p0 p1 hE hA hr hc hn aa;unfold K4;rw[k,Qh,Q4J,Qh,Qrb,XK I,Qh,Qh,XK I,Qh,Qip,Qkt,QP,h2];exact QdP (P:=λX=>∃w:Y Bool,X=some (per,E,A,Q0P w,bu,0,false,al,false,0,encI (List.replicate E.length 0))/\w.length=E.length) hE I h2 (λw hw=>⟨w,rfl,hw⟩) E.length 0 n _ I I Q2
theorem QdA{R:Type}{w:Y Int}(hw:TG per E.length w){kd f t mn mx q:Int}(hm:[Ql kd,Ql f,Ql t,Ql mn,Ql mx,Ql q]∈A)(K:Int->oP R):P2 n per (encI w) f t mn K=K (mn+(tat w t-tat w f-mn) % per):=by
 have hk:=AG (hc _ hm);have tf:=hw.tat (i:=f) I I;have tt:=hw.tat (i:=t) I I;have:=Qrw (tat w t-tat w f-mn) (show per≠0 by omega);have:=Qrt (tat w t-tat w f-mn) (show 0<per by omega);unfold P2;simp -implicitDefEqProofs only[Qh,Qr9,Qre,Qj,tf.1,tt.1,Qo (x:=tat w t-tat w f) I I,Qo (x:=tat w t-tat w f-mn) I I,Qio (n:=n) (t:=per) (x:=tat w t-tat w f-mn) I I I I,Qo (x:=mn+(tat w t-tat w f-mn) % per) I I]
theorem QiH{w:Y Int}(hw:TG per E.length w){al fd:Bool}{best i:Int}:∃b,Zx n per A al fd best (encI w) i some=some b/\(al=false->b=false->∀kd f t mn mx q:Int,[Ql kd,Ql f,Ql t,Ql mn,Ql mx,Ql q]∈A->f<=i->t<=i->mn+(tat w t-tat w f-mn) % per<=mx):=by
 unfold Zx;have go:∀(aa:LL) (j m:Nat) (s:Int),A.drop j=aa->aa.length<m->∃b,Xk n i (encI w) per A (some true) (λo u v=>some (bif (bif al then fd else false)then(decide (o>=best))else false)) m s (j:Int)=some b/\(al=false->b=false->∀kd f t mn mx q:Int,[Ql kd,Ql f,Ql t,Ql mn,Ql mx,Ql q]∈aa->f<=i->t<=i->mn+(tat w t-tat w f-mn) % per<=mx):=by
  intro aa;induction aa with
  |nil=>
   intro j m s hd hm;obtain⟨m,rfl⟩:∃k,m=k+1:=⟨m-1,by simp at hm;omega⟩;have:=We hd;rw[Xk,show decide ((j:Int)<(A.length:Int))=false by simpa using this,Qra]
   simp_all
  |cons r aa ih=>
   intro j m s hd hm;obtain⟨m,rfl⟩:∃k,m=k+1:=⟨m-1,by simp at hm;omega⟩;obtain⟨e,ao,ar⟩:=Yf hd;have an:=Qrd e;obtain⟨kd,f,t,mn,mx,q,rfl⟩:=hr r an;rw[QrD]at hm;rw[Xk,Qs ar,Qrc,Qt,e];simp -implicitDefEqProofs only[Qh,Qr9,Qre,Qj,QdA p0 p1 hE hA hr hc hn hw an,QK (show j<=1000 by omega)];cases l:(bif decide (f>i)then true else decide (t>i))with
   |true=>
    obtain⟨b,hb,ak⟩:=ih (j+1) m (wJ (s+wJ (q*mn))) ao I;refine⟨b,hb,λa h2 ai f' t' ac am q' c d g=>?_⟩;rcases QrG.1 c with h | h
    ·cases h;rw[Qri I,Qri I]at l;cases l
    ·exact ak a h2 ai f' t' ac am q' h d g
   |false=>
    rw[Qra];cases p:decide (mn+(tat w t-tat w f-mn) % per>mx)with
    |true=>exact⟨_,rfl,λ_ h=>nomatch h⟩
    |false=>
     obtain⟨b,hb,ak⟩:=ih (j+1) m (wJ (s+wJ (q*(mn+(tat w t-tat w f-mn) % per)))) ao I;refine⟨b,hb,λa h2 ai f' t' ac am q' c d g=>?_⟩;rcases QrG.1 c with h | h
     ·cases h;have:=of_decide_eq_false p;omega
     ·exact ak a h2 ai f' t' ac am q' h d g
 exact go A 0 n 0 rfl I
theorem QjL{w:Y Int}(hw:TG per E.length w):∃c e,MZ n per E A (encI w) Tu2=some (c,e):=by
 have hg:=(Qcj p0 p1 hE I hr hA (tl:=w)).2;rw[<- hn]at hg;unfold MZ;rw[hg,Qh];cases Q3P per E A w with
 |false=>exact⟨_,_,rfl⟩
 |true=>
  rw[Qrn,Qra];have go:∀(aa:LL) (j m:Nat) (s:Int),A.drop j=aa->aa.length<m->∃c e,Jl n (encI w) per A (λd g h=>some (d,(0:Int))) m s (j:Int)=some (c,e):=by
   intro aa;induction aa with
   |nil=>
    intro j m s hd hm;obtain⟨m,rfl⟩:∃k,m=k+1:=⟨m-1,by simp at hm;omega⟩;have:=We hd;rw[Jl,show decide ((j:Int)<(A.length:Int))=false by simpa using this,Qra];exact⟨_,_,rfl⟩
   |cons r aa ih=>
    intro j m s hd hm;obtain⟨m,rfl⟩:∃k,m=k+1:=⟨m-1,by simp at hm;omega⟩;obtain⟨e,ak,ai⟩:=Yf hd;have ac:=Qrd e;obtain⟨kd,f,t,mn,mx,q,rfl⟩:=hr r ac;rw[QrD]at hm;rw[Jl,Qs ai,Qrc,Qt,e];simp -implicitDefEqProofs only[Qh,Qr9,Qre,Qj,QdA p0 p1 hE hA hr hc hn hw ac,QK (show j<=1000 by omega)];exact ih (j+1) m _ ak I
  exact go A 0 n 0 rfl I
omit p0 p1 hE hA hr hc hn in
theorem TF.dn{i:Nat}{w:Y Int}{k:Nat}(h:TF A per k (i+1) w):TF A per k i w:=⟨h.1,λkd f t mn mx q hm a b h2 c=>h.2 kd f t mn mx q hm a I h2 I⟩
omit p0 p1 hE hA hr hc hn in
theorem TF.set{i:Nat}{w:Y Int}{k:Nat}{v:Int}(h:TF A per k i w)(c:0<=v)(d:v<per):TF A per k i (w.set i v):=by
 refine⟨h.1.set c d,λkd f t mn mx q hm g0 g1 a b=>?_⟩;have e:∀x:Int,0<=x->x<(i:Int)->tat (w.set i v) x=tat w x:=λx g j=>by
  unfold tat;rw[Qrh,Qrh,List.getElem?_set_ne I]
 rw[e f g0 g1,e t a b];exact h.2 kd f t mn mx q hm g0 g1 a b
def Qi1(per:Int)(E A:LL)(i:Nat)(fs:Y Bool)(bu:Int)(X:oP (Bool×Int×LL×LL×LL×Int×Int×Bool×Bool×Bool×Int×LL×LL)):Prop:=
 ∃r us ov fd best res w,X=some (r,per,E,A,Q0P fs,bu,us,ov,false,fd,best,res,encI w)/\TF A per E.length i w/\(fd=true->∃v,res=encI v/\TF A per E.length E.length v)
theorem Qhh{fs:Y Bool}(bi:fs.length=E.length){bu:Int}:∀(c d i:Nat) (us:Int) (ov fd:Bool) (best:Int) (res:LL) (w:Y Int),i+c=E.length->c<d->TF A per E.length i w->(fd=true->∃v,res=encI v/\TF A per E.length E.length v) ->
  Qi1 per E A i fs bu (XI n d per E A (Q0P fs) bu us ov false fd best res (encI w) (i:Int)):=by
 intro c;induction c with
 |zero=>
  intro d i us ov fd best res w hi hd hw hf;obtain⟨d,rfl⟩:∃k,d=k+1:=⟨d-1,I⟩;obtain⟨c,e,a3⟩:=QjL p0 p1 hE hA hr hc hn hw.1;obtain rfl:i=E.length:=I
  rw[XI,Ja,show((E.length:Int) == (E.length:Int))=true by simp,Qrc,QP,hw.1.1,XK I,Qh,a3,Qh];exact⟨_,_,_,_,_,_,_,rfl,hw,λ_=>⟨w,rfl,hw⟩⟩
 |succ c ih=>
  intro d i us ov fd best res w hi hd hw hf;obtain⟨d,rfl⟩:∃k,d=k+1:=⟨d-1,I⟩;rw[XI,Ja,show((i:Int) == (E.length:Int))=false by simp;omega,Qra,XR I (by rw[Q2I];omega),Qh,Qrb,Q6g (show i<fs.length by omega)];simp -implicitDefEqProofs only[Qh,Qr9,LO];have az:∀(M:Nat),(M:Int)<=per->∀(k:Nat) (t m:Nat) (us:Int) (ov fd:Bool) (best:Int) (res:LL) (w:Y Int),t+k=M->k<m->TF A per E.length i w->(fd=true->∃v,res=encI v/\TF A per E.length E.length v) ->
    ∀{k0:LL->LL->Int->LL->LL->Int->Int->Bool->Bool->Bool->Int->LL->oP (Bool×Int×LL×LL×LL×Int×Int×Bool×Bool×Bool×Int×LL×LL)} {k1:Int->Bool->LL->LL->Int->LL->LL->Int->Int->Bool->Bool->Bool->Int->LL->oP (Bool×Int×LL×LL×LL×Int×Int×Bool×Bool×Bool×Int×LL×LL)},
    (∀us ov fd best res w,TF A per E.length i w->(fd=true->∃v,res=encI v/\TF A per E.length E.length v)->Qi1 per E A i fs bu (k0 (Q0P fs) (encI w) per E A bu us ov false fd best res)) ->
    (∀a b us ov fd best res w,TF A per E.length i w->(fd=true->∃v,res=encI v/\TF A per E.length E.length v)->Qi1 per E A i fs bu (k1 a b (Q0P fs) (encI w) per E A bu us ov false fd best res)) ->
    Qi1 per E A i fs bu (Xy n (XI n d) (i:Int) (M:Int) k0 k1 m (t:Int) (Q0P fs) (encI w) per E A bu us ov false fd best res):=by
   intro M hM k;induction k with
   |zero=>
    intro t m us ov fd best res w ht hm hw hf k0 k1 g h;obtain⟨m,rfl⟩:∃k,m=k+1:=⟨m-1,I⟩;rw[Xy,show t=M by omega,Qy,Qra];exact h _ _ _ _ _ _ _ w hw hf
   |succ k a4=>
    intro t m us ov fd best res w ht hm hw hf k0 k1 g h;obtain⟨m,rfl⟩:∃k,m=k+1:=⟨m-1,I⟩;have bm:=hw.1.1;rw[Xy,Qs I,Qrc];cases decide (wJ (us+1)>bu)with
    |true=>exact g _ _ _ _ _ w hw hf
    |false=>
     have a2:TF A per E.length i (w.set i (t:Int)):=hw.set I I;obtain⟨b,hb,a5⟩:=QiH p0 p1 hE hA hr hc hn a2.1 (al:=false) (fd:=fd) (best:=best) (i:=(i:Int));rw[Qra,XR I (by rw[QP];omega),Qh,Qrb,Vw (show i<w.length by omega),Qh,Qru,Px,hb,Qh,QK (show i<=1000 by omega),QK (show t<=1000 by omega)];cases b with
     |true=>
      simp -implicitDefEqProofs only[Qrn,Qra];exact a4 (t+1) m _ _ _ _ _ _ I I a2 hf g h
     |false=>
      obtain⟨r,ba,bd,bj,a6,a7,bk,hx,ax,ay⟩:=ih d (i+1) (wJ (us+1)) ov fd best res _ I I ⟨a2.1,λkd f t mn mx q hm g h h2 h3=>a5 rfl rfl kd f t mn mx q hm I I⟩ hf;rw[QrA,Qrc,hx,Qh];cases r with
      |true=>exact a4 (t+1) m _ _ _ _ _ _ I I ax.dn ay g h
      |false=>exact g _ _ _ _ _ _ ax.dn ay
  have e1:((1:Nat):Int)=1:=rfl;obtain⟨q,hq⟩:=Int.eq_ofNat_of_zero_le (show 0<=per by omega);cases fs[i]'I with
  |true=>exact az 1 I 1 0 n us ov fd best res w I I hw hf (λus ov fd best res w hw hf=>⟨_,_,_,_,_,_,_,rfl,hw,hf⟩) λa b us ov fd best res w hw hf=>⟨_,_,_,_,_,_,_,rfl,hw,hf⟩
  |false=>
   have:=az q I q 0 n us ov fd best res w I I hw hf (k0:=λj l o p s u x y z aa ab ac=>some (false,o,p,s,j,u,x,y,z,aa,ab,ac,l)) (k1:=λau av ad ae ag ah ai aj ak am an ao ap aq=>some (true,ag,ah,ai,ad,aj,ak,am,an,ao,ap,aq,ae)) (λus ov fd best res w hw hf=>⟨_,_,_,_,_,_,_,rfl,hw,hf⟩) λa b us ov fd best res w hw hf=>⟨_,_,_,_,_,_,_,rfl,hw,hf⟩
   rw[<- hq]at this;exact this
theorem Qiu(aa:UA n per E A some=some true):(∃us e,Zw n per E A 4000 (λa b=>some (.inl (a,b))) (λa b c=>some (.inr (a,b,c)))=some (.inl (us,e):(Int×Int) ⊕ (LL×Int×Int))) \/
  ∃v us,Zw n per E A 4000 (λa b=>some (.inl (a,b))) (λa b c=>some (.inr (a,b,c)))=some (.inr (encI v,us,0):(Int×Int) ⊕ (LL×Int×Int))/\TG per E.length v/\FsB A per E.length v:=by
 obtain⟨fs,d,h2⟩:=QkM p0 p1 hE hA hr hc hn aa (bu:=4000) (al:=false);obtain⟨r,us,ov,fd,best,res,w,hx,hw,hf⟩:=Qhh p0 p1 hE hA hr hc hn h2 (bu:=4000) E.length n 0 0 false false 0 [] (List.replicate E.length 0) I I ⟨⟨by simp,λx hx=>by have:=List.eq_of_mem_replicate hx;omega⟩,λkd f t mn mx q hm h d=>by omega⟩ (λe=>nomatch e);have ai:Q2H n 4000 1 1048576 (some:Bool->oP Bool)=some true:=rfl;unfold Zw Ft;rw[aa,Qh,Qrn,Qra,ai,Qh,Qrn,Qra,d,Qh];dsimp only;rw[show((0:Nat):Int)=0 from rfl]at hx;rw[hx,Qh];dsimp only;cases ov with
 |true=>exact .inl ⟨_,_,rfl⟩
 |false=>
  cases fd with
  |false=>exact .inl ⟨_,_,rfl⟩
  |true=>
   obtain⟨v,rfl,g⟩:=hf rfl;exact .inr ⟨v,_,rfl,g⟩
omit p0 p1 hE hA hr hc hn in
theorem Qgh(aa:UA n per E A some=some false):∃us e,Zw n per E A 4000 (λa b=>some (.inl (a,b))) (λa b c=>some (.inr (a,b,c)))=some (.inl (us,e):(Int×Int) ⊕ (LL×Int×Int)):=by
 unfold Zw Ft;rw[aa,Qh,QrA,Qrc];exact⟨_,_,rfl⟩
end
namespace Cx
variable{X:Cx}
structure Gd(X:Cx)(per:Int)(Ch Sy A:LL)(tl:List Int):Prop where
 ok:X.OK
 ls:X.LsOK per Ch Sy
 p0:2<=per
 p1:per<=300
 act:∃H,A=X.planned Ch Sy++H/\∀r∈H,∃a b w,r=Q95 a b w
 len:A.length<400
 tlen:tl.length=2*X.N
 tr:∀x∈tl,0<=x/\x<per
 ck:∀r∈A,chk per (2*X.N) r=true
theorem Q7D{per:Int}{J:Y Tup}{a:Nat}:∀{c b:Nat} {H:LL},X.hdw per J a c b=some H->∀r∈H,∃a b w,r=Q95 a b w
 |0,b,H,e=>by cases e;exact λr hr=>nomatch hr
 |c+1,b,H,e=>by
  rw[hdw]at e;cases ew:X.WV per J a b with
  |none=>rw[ew]at e;cases e
  |some W=>
   rw[ew]at e;cases eh:X.hdw per J a c (b+1)with
   |none=>simp only[eh]at e;cases e
   |some H'=>
    simp only[eh]at e;cases e;intro r hr;rcases Qrj.1 hr with hr | hr
    ·obtain⟨w,_,rfl⟩:=Qrr.1 hr;exact⟨_,_,_,rfl⟩
    ·exact Q7D eh r hr
theorem hdws_rows{per:Int}{J:Y Tup}:∀{c a:Nat} {H:LL},X.hdws per J c a=some H->∀r∈H,∃a b w,r=Q95 a b w
 |0,b,H,e=>by cases e;exact λr hr=>nomatch hr
 |c+1,a,H,e=>by
  rw[hdws]at e;cases ew:X.hdw per J a c (a+1)with
  |none=>rw[ew]at e;cases e
  |some W=>
   rw[ew]at e;cases eh:X.hdws per J c (a+1)with
   |none=>simp only[eh]at e;cases e
   |some H'=>
    simp only[eh]at e;cases e;intro r hr;rcases Qrj.1 hr with hr | hr
    ·exact Q7D ew r hr
    ·exact hdws_rows eh r hr
theorem QdL{i:Nat}{r:Y D}:∀{K:Nat},r∈X.pl i K->∃k,k<K/\(r=X.aR i k\/k<X.nr i-1/\r=X.aD i k)
 |0,h=>nomatch h
 |K+1,h=>by
  rw[pl]at h;rcases Qrj.1 h with h | h
  ·rcases Qrj.1 h with h | h
   ·obtain⟨k,hk,h⟩:=QdL h;exact⟨k,I,h⟩
   ·exact⟨K,I,.inl (Qro.1 h)⟩
  ·split at h
   ·exact⟨K,I,.inr ⟨by assumption,Qro.1 h⟩⟩
   ·nomatch h
theorem Q6z{r:Y D}:∀{L:Nat},r∈X.pls L->∃i k,i<L/\k<X.nr i/\(r=X.aR i k\/k<X.nr i-1/\r=X.aD i k)
 |0,h=>nomatch h
 |L+1,h=>by
  rw[pls]at h;rcases Qrj.1 h with h | h
  ·obtain⟨i,k,hi,h⟩:=Q6z h;exact⟨i,k,I,h⟩
  ·obtain⟨k,hk,h⟩:=QdL h;exact⟨L,k,I,hk,h⟩
variable{per:Int} {Ch Sy A:LL} {tl:Y Int}
theorem Qfn(h:X.OK)(hl:X.LsOK per Ch Sy){H:LL}(hH:∀r∈H,∃a b w,r=Q95 a b w){r:Y D}(hr:r∈X.planned Ch Sy++H):(∃i k,i<X.Ls.length/\k<X.nr i/\(r=X.aR i k\/k<X.nr i-1/\r=X.aD i k))\/(∃t∈X.T,r=X.tuE t)\/∃kd f t mn mx w:Int,(kd=3\/kd=5\/kd=6)/\r=[Ql kd,Ql f,Ql t,Ql mn,Ql mx,Ql w]:=by
 rcases Qrj.1 hr with hr | hr
 ·rcases Qrj.1 hr with hr | hr
  ·rcases Qrj.1 hr with hr | hr
   ·rcases Qrj.1 hr with hr | hr
    ·exact .inl (Q6z hr)
    ·obtain⟨row,aa,rfl⟩:=Qrr.1 hr;obtain⟨f,fr,t,tr,mn,mx,w,rfl,_⟩:=hl.ch row aa;exact .inr (.inr ⟨3,_,_,mn,mx,w,.inl rfl,rfl⟩)
   ·obtain⟨t,ht,rfl⟩:=Qrr.1 hr;exact .inr (.inl ⟨t,ht,rfl⟩)
  ·obtain⟨row,aa,rfl⟩:=Qrr.1 hr;obtain⟨o,rfl,_⟩:=hl.sy row aa;exact .inr (.inr ⟨5,_,_,o,o,0,.inr (.inl rfl),rfl⟩)
 ·obtain⟨a,b,w,rfl⟩:=hH r hr;exact .inr (.inr ⟨6,_,_,w.1,w.2,0,.inr (.inr rfl),rfl⟩)
theorem act_r6(h:X.OK)(hl:X.LsOK per Ch Sy){H:LL}(hH:∀r∈H,∃a b w,r=Q95 a b w){r:Y D}(hr:r∈X.planned Ch Sy++H):R6 r:=by
 rcases Qfn h hl hH hr with⟨i,k,_,_,rfl | ⟨_,rfl⟩⟩|⟨t,_,rfl⟩|⟨kd,f,t,mn,mx,w,_,rfl⟩
 ·exact⟨_,_,_,_,_,_,rfl⟩
 ·exact⟨_,_,_,_,_,_,rfl⟩
 ·exact⟨_,_,_,_,_,_,rfl⟩
 ·exact⟨_,_,_,_,_,_,rfl⟩
variable(g:X.Gd per Ch Sy A tl)
include g
theorem Gd.r6{r:Y D}(hr:r∈A):R6 r:=by
 obtain⟨H,rfl,hH⟩:=g.act;exact act_r6 g.ok g.ls hH hr
theorem Gd.tat{i:Int}(a:0<=i)(b:i<(2*X.N:Nat)):Qi (encI tl) i=some [Ql (Vx.tat tl i)]/\0<=Vx.tat tl i/\Vx.tat tl i<per:=by
 have hl:=g.tlen;have e:tl[i.toNat]? = some (Vx.tat tl i):=by
  unfold Vx.tat;rw[Qrh,Qrf I];rfl
 have:=GQ e;rw[show(i.toNat:Int)=i by omega]at this;exact⟨this,g.tr _ (Qrd e)⟩
theorem Gd.row{r:Y D}(hr:r∈A):∃kd f t mn mx w:Int,r=[Ql kd,Ql f,Ql t,Ql mn,Ql mx,Ql w]/\(0<=f/\f<(2*X.N:Nat))/\(0<=t/\t<(2*X.N:Nat)) /\ -65536<=mn/\mn<=65536:=by
 obtain⟨kd,f,t,mn,mx,w,rfl⟩:=g.r6 hr;have:=AG (g.ck _ hr);exact⟨kd,f,t,mn,mx,w,rfl,I,I,I⟩
theorem Gd.dur_rng{r:Y D}(hr:r∈A) : -65536<=XA tl per r/\XA tl per r<=66000:=by
 obtain⟨kd,f,t,mn,mx,w,rfl,hf,ht,a,h2⟩:=g.row hr;have p0:=g.p0;have p1:=g.p1;have:=Qrw (Vx.tat tl t-Vx.tat tl f-mn) (show per≠0 by omega);have:=Qrt (Vx.tat tl t-Vx.tat tl f-mn) (show 0<per by omega);simp only[XA,dur];omega
end Cx
theorem TD.lt{X:Cx}{f k:Nat}{r:Y D}(h:TD X.Ls f k r):f<X.Ls.length/\k<X.nr f:=by
 obtain⟨nm,w,rides,a,h2⟩:=h;refine⟨(QrC.1 a).1,?_⟩;have e:HI X.Ls f=rides:=by unfold HI;rw[a]
 unfold Cx.nr;rw[e];exact(QrC.1 h2).1
theorem PlanR.lsOK{X:Cx}{per:Int}{Sk Ch Tu Sy De:LL}(h:PlanR X.G per Sk X.Ro X.Ls Ch Tu Sy De):X.LsOK per Ch Sy where
 ch:=λrow hr=>by
  obtain⟨f,fr,t,tr,mn,mx,w,r,r',x,y,x',y',b,b',i,e,a,h2,c,d,h5,h6,h7,_⟩:=h.ch row hr;exact⟨f,fr,t,tr,mn,mx,w,e,a.lt.1,a.lt.2,h2.lt.1,h2.lt.2,h6,h7⟩
 chl:=h.chl
 sy:=λrow hr=>h.sy row hr
 syl:=h.syl
theorem Q7l{per:Int}{E A:LL}{w:Y Int}(a:A.all (chk per E.length)=true)(h2:TG per E.length w):Q3P per E A w=true:=by
 unfold Q3P;rw[a,h2.1];simp only[Qrn,Qra,bne_self_eq_false,QrP,Bool.not_eq_true',Bool.cond_true_left,Bool.or_eq_false_iff,decide_eq_false_iff_not];intro x hx;have:=h2.2 x hx;omega
def QjS:Y D->Int
 |[_,_,_,_,.int _ m,_]=>m
 |_=>0
def Fs(per:Int)(tl:Y Int)(A:LL):Prop:=∀r∈A,XA tl per r<=QjS r
theorem FsB.fs'{A:LL}{per:Int}{N:Nat}{tl:Y Int}(hr:∀r∈A,R6 r)(hc:∀r∈A,chk per N r=true)(h:FsB A per N tl):Fs per tl A:=λr hm=>by
 obtain⟨kd,f,t,mn,mx,q,rfl⟩:=hr r hm;have:=AG (hc _ hm);exact h kd f t mn mx q hm I I I I
namespace Cx
variable{X:Cx} {per:Int} {Ch Sy A:LL} {tl:Y Int} (g:X.Gd per Ch Sy A tl)
include g
theorem Gd.lasts{r:Y D}(hr:r∈A):∃kd f t mn mx w:Int,r=[Ql kd,Ql f,Ql t,Ql mn,Ql mx,Ql w]/\(0<=f/\f<(2*X.N:Nat))/\(0<=t/\t<(2*X.N:Nat))/\(-65536<=mn/\mn<=65536) /\
  (∀(R:Type) (K:Int->oP R),gb true (Qi (encI tl) t) [] (λa=>gb true (a[0]?) oF λb=>gb true (pIw b) 0 λc=>gb true (Qi (encI tl) f) [] λd=>gb true (d[0]?) oF λc5=>gb true (pIw c5) 0 λe=>
   gb true (Ht 400 (wJ ((wJ (c-e))-mn)) per some) 0 λh=>K (wJ (mn+h)))=K (XA tl per r)):=by
 obtain⟨kd,f,t,mn,mx,w,rfl,hf,ht,ac⟩:=g.row hr;refine⟨kd,f,t,mn,mx,w,rfl,hf,ht,I,λR K=>?_⟩;have tf:=g.tat hf.1 hf.2;have tt:=g.tat ht.1 ht.2;have p0:=g.p0;have p1:=g.p1;have i:=Qrw (Vx.tat tl t-Vx.tat tl f-mn) (show per≠0 by omega);have j:=Qrt (Vx.tat tl t-Vx.tat tl f-mn) (show 0<per by omega);simp -implicitDefEqProofs only[Qh,Qr9,Qj,tf.1,tt.1,Qo (x:=Vx.tat tl t-Vx.tat tl f) I I,Qo (x:=Vx.tat tl t-Vx.tat tl f-mn) I I,Qi6 (n:=400) (t:=per) (x:=Vx.tat tl t-Vx.tat tl f-mn) I I I I,Qo (x:=mn+(Vx.tat tl t-Vx.tat tl f-mn) % per) I I];rfl
theorem Gd.firstN{R:Type}{E B:LL}(fs:Fs per tl A){k0:Int->oP R}{k1:Int->Bool->oP R}:∀(c m i:Nat),i+c=A.length->c<m->Ui 400 (encI tl) A (A.length:Int) per E B k0 k1 m (i:Int)=k1 (A.length:Int) false
 |0,m+1,i,hi,_=>by
  obtain rfl:i=A.length:=I
  rw[Ui,Qy,Qra]
 |c+1,m+1,i,hi,hm=>by
  have hA:=g.len;have e:=Qrf (l:=A) (i:=i) I;obtain⟨kd,f,t,mn,mx,w,er,_,_,_,hd⟩:=g.lasts (Qrd e);have aa:=fs _ (Qrd e);rw[Ui,Qs (show i<A.length by omega),Qrc,Qt,e,er];rw[er]at hd aa;have ac:JW 400 per E B (encI tl) kd f t mn mx w (some:Int->oP Int)=some (XA tl per [Ql kd,Ql f,Ql t,Ql mn,Ql mx,Ql w]):=by
   unfold JW;exact hd Int some
  simp -implicitDefEqProofs only[Qh,Qr9,Qre,Qj,ac,QK (show i<=1000 by omega)];rw[Qri (by exact Int.not_lt.2 aa),Qra];exact firstN fs c m (i+1) I I
theorem Gd.feas{E:LL}(hE:E.length=2*X.N)(fs:Fs per tl A)(hg:J4 400 per E A (encI tl) some=some true):Xp 400 per E A (encI tl) (some:Bool->oP Bool)=some true:=by
 have a:Gy 400 per E A (encI tl) Tu2=some (0,false):=by
  unfold Gy;rw[hg,Qh,Qrn,Qra];have:=g.firstN (E:=E) (B:=A) fs (k0:=λd=>(some (d,true):oP (Int×Bool))) (k1:=λe f=>some (0,false)) A.length 400 0 I (by have:=g.len;omega);exact this
 unfold Xp;rw[a,Qh];dsimp only;rw[hg];rfl
end Cx
theorem QdN{a b:Int}(f:1<=a)(c:1<=b):1<=cd a b:=by
 have h:=AR (show 0<=a by omega) c;by_cases e:1<=cd a b
 ·exact e
 ·have d:cd a b=0:=I
  rw[d]at h;omega
theorem Run.T_pos{X:Run}(h:X.OK):1<=X.T X.N:=by
 have h2:=h.h2;have c:=Run.T_mono h (a:=1) (b:=X.N) I (QrN _);have d:=Run.inc_rng h (b:=0) I;have h5:=QdN (a:=20000000) (b:=X.S 0+X.S (0+1)) Q1 I;have e:X.T 1=0+cd 20000000 (X.S 0+X.S (0+1)):=rfl;omega
theorem Cx.run_pos{X:Cx}(h:X.OK){i k:Nat}(hi:i<X.Ls.length)(hk:k<X.nr i):1<=X.run i k:=
 QdN (Run.T_pos (RF (Cx.rd h hi hk).rt (nm:=X.nm) h.sk)) Q1
end Go.Vx
namespace Go.Vx
variable{R:Type} (n:Nat)
def nv1:Y D->oP LL
|[.nl]=>some []
|[.sl k l]=>bif Nat.beq k 1&&Nat.ble l.length 1000000 then some l else none
|_=>none
def Qbn(h:LL)(i:Int):oP LL:=(Qi h i).bind nv1
def CZ:Y D->Y D
|[.nl]=>[.sl 1 []]
|r=>r
def Q9H:Y D->Bool
|[.nl]=>true
|_=>false
def Xv(h5 h6:LL)(h7 e:Int)(k0:QlW R):QlY R
|0,_,_,_=>none
|m+1,a,c,d=>bif decide (a<h7)then Ql4 R h6 a λb f j p=>Qc R b[3]? λk=>Qc R b[4]? λab=>Qc R b[5]? λac=>Ql2 R k p λg q=>Ql3 R h5 q λs=>Ql2 R s j λt i64=>Ql3 R h5 i64 λv=>Ql2 R v k λx y=>Qc R (Ht n (wJ (wJ (t-x)-y)) e some) λh=>Qb R [[Ql (wJ (g+h))]] λag=>Qc R (Y6 ((d.length+ag.length)*8)) λad=>Qc R (pIw f) λi=>Qd R (!(i==1)) (pIw f) λl=>Qd R (!(Q8 (i==1) (l==2))) (pIw f) λz=>bif Q8 (Q8 (i==1) (l==2)) (z==3)then Qc R (pIw j) λo=>Qc R (Qbn c o) λaa=>Xv h5 h6 h7 e k0 m (wJ (a+1)) (List.set c o.toNat [.sl 1 (aa++[[.int .i64 a]])]) (d++ag)else Xv h5 h6 h7 e k0 m (wJ (a+1)) c (d++ag)else k0 a (decide (a<h7)) c d
def Yy(h5 h6:LL)(h7 f:Int)(k0:QlW R)(m:Nat)(g:Int)(e h:LL):oP R:=bif e.all Q9H then Xv n h5 h6 h7 f (λa b c d=>k0 a b (c.map CZ) d) m g e h else none
def Yx(n:Nat)(h:LL)(b:Int)(c i j:LL)(k0:QlW R):QlY R
|0,_,_,_=>none
|m+1,a,d,e=>bif decide (a<b)then Qld R h a λf p=>Qc R f[2]? λq=>Qc R (pIw p) λr=>Qlg R j r λu=>Qc R (pIw q) λv=>Ql6 R u v λz=>Ql7 R i z λg aa=>Qc R (pSl 2 g) λab=>Ql6 R ab 0 λae=>Qlu R c ae λl=>Qc R (Y6 ((d.length+[[Ql l]].length)*8)) λar=>Qc R (pSl 2 g) λai=>Qlz R g aa λaj ak=>Ql6 R ai (wJ (wJ ((aj.length:Int)-ak)-1)) λan=>Qlu R c an λo=>Qc R (Y6 ((e.length+[[Ql o]].length)*8)) λau=>Yx n h b c i j k0 m (wJ (a+1)) (d++[[Ql l]]) (e++[[Ql o]])else k0 a (decide (a<b)) d e
def XZ(c g d h:LL)(i:Int)(j e f k l m o a2:LL)(KA:QlK R)(KB:Int->LL->LL->LL->LL->LL->LL->Int->Int->oP R):oP R:=gb true (YY n c g d h i j e f k l m o Tu4) (0,[],[],0) λa=>bif a.2.2.2 !=0 then KA a.2.2.2 else Qc R (Xp n a.1 a.2.1 a.2.2.1 a2 some) λb=>bif !b then KA 1 else Qb R (a.2.1.length:Int) λp=>gb true (bif decide (0<=p)&&decide (p<=p)then some ()else none) () λv=>Qc R (Y6 (Int.toNat p*24)) λx=>Yy n a2 a.2.2.1 (a.2.2.1.length:Int) a.1 (λy z r s=>Yx n a.2.1 p d e f (λaa ab t u=>KB a.1 a.2.1 a.2.2.1 r s t u (c.length:Int) 0) n 0 [] []) n 0 (List.replicate (Int.toNat p) [D.nl]) []
end Go.Vx
namespace Go.Vx
def knd(A:LL)(j:Nat):Int:=match A[j]? with
 |some (.int _ k::_)=>k
 |_=>0
def frm(A:LL)(j:Nat):Int:=match A[j]? with
 |some (_::.int _ k::_)=>k
 |_=>0
def tto(A:LL)(j:Nat):Int:=match A[j]? with
 |some (_::_::.int _ k::_)=>k
 |_=>0
def Qbg(A:LL)(e j:Nat):Bool:=(bif (bif (knd A j == 1)then true else(knd A j == 2))then true else(knd A j == 3))&&frm A j == (e:Int)
def lvF(A:LL)(i e:Nat):Y Nat:=(List.range i).filter (Qbg A e)
def Gu(l:Y Nat):LL:=l.map λ(j:Nat)=>[Ql (j:Int)]
def QfI:Y Nat->Y D
 |[]=>[.nl]
 |l=>[.sl 1 (Gu l)]
def FO(A:LL)(i M:Nat):LL:=(List.range M).map λe=>QfI (lvF A i e)
theorem Q70(A:LL)(i e:Nat):lvF A (i+1) e=lvF A i e++(if Qbg A e i=true then[i]else[]):=by
 unfold lvF;rw[List.range_succ,List.filter_append];congr 1;cases h:Qbg A e i<;>simp[h]
theorem Q3z(A:LL)(i e:Nat):(lvF A i e).length<=i:=by
 unfold lvF;have:=QrS (Qbg A e) (List.range i);rwa [QrM]at this
theorem QhW{l:Y Nat}(h:l.length<=1000):nv1 (QfI l)=some (Gu l):=by
 cases l with
 |nil=>rfl
 |cons x r=>
  have e:Nat.ble (Gu (x::r)).length 1000000=true:=by
   rw[Nat.ble_eq];simp[Gu]at h ⊢;omega
  show(bif Nat.beq 1 1&&Nat.ble (Gu (x::r)).length 1000000 then some (Gu (x::r))else none)=_;rw[e];rfl
theorem Q9f(l:Y Nat)(i:Nat):QfI (l++[i])=[.sl 1 (Gu l++[[.int .i64 i]])]:=by
 cases l with
 |nil=>rfl
 |cons x r=>simp[QfI,Gu,Ql]
theorem QcL(l:Y Nat):CZ (QfI l)=[.sl 1 (Gu l)]:=by cases l<;>rfl
theorem Ex(A:LL)(i M:Nat):(FO A i M).length=M:=by simp[FO]
theorem Bn{A:LL}{i M e:Nat}(he:e<M):(FO A i M)[e]? = some (QfI (lvF A i e)):=by simp[FO,he]
theorem Q8N(A:LL)(M:Nat):FO A 0 M=List.replicate M [.nl]:=by
 apply QrU;intro e;by_cases he:e<M
 ·rw[Bn he,List.getElem?_replicate,Qrv he];rfl
 ·rw[Qrq (by rw[Ex];omega),Qrq Q3]
theorem QcJ{A:LL}{i M:Nat}(h:∀e,e<M->Qbg A e i=false):FO A (i+1) M=FO A i M:=by
 unfold FO;refine QrO λe he=>?_
 rw[Q70,h e (QrE.1 he)];simp
theorem Q9t{A:LL}{i M f:Nat}(hf:f<M)(h:∀e,e<M->Qbg A e i=decide (e=f)):(FO A i M).set f [.sl 1 (Gu (lvF A i f)++[[.int .i64 i]])]=FO A (i+1) M:=by
 apply QrU;intro e;by_cases he:e<M
 ·rw[Bn he,Q70,h e he,List.getElem?_set,Ex];by_cases ef:f=e
  ·subst ef;rw[Qrv rfl,Qrv hf,Qrm rfl,Qrv rfl,Q9f]
  ·rw[Qrz ef,Qri (λh=>ef h.symm),Qrz Q2,Qrs,Bn he]
 ·rw[Qrq (by rw[QrI,Ex];omega),Qrq (by rw[Ex];omega)]
theorem Qf9{A:LL}{i M:Nat}{f:Int}(a:0<=f)(b:f<(M:Nat))(hi:i<=1000):Qbn (FO A i M) f=some (Gu (lvF A i f.toNat)):=by
 unfold Qbn;have e:f=(f.toNat:Int):=I
 rw[e,Qt,Qrb,Bn I];exact QhW (Nat.le_trans (Q3z ..) hi)
namespace Cx
variable{X:Cx} {per:Int} {Ch Sy A:LL} {tl:Y Int} (g:X.Gd per Ch Sy A tl)
include g
theorem Gd.svc1{R:Type}{k0:Int->Bool->LL->LL->oP R}:∀(c m i:Nat),i+c=A.length->c<m->Xv 400 (encI tl) A (A.length:Int) per k0 m (i:Int) (FO A i (2*X.N)) ((A.take i).map λr=>[Ql (XA tl per r)]) =
  k0 (A.length:Int) false (FO A A.length (2*X.N)) (A.map λr=>[Ql (XA tl per r)])
 |0,m+1,i,hi,_=>by
  obtain rfl:i=A.length:=I
  rw[Xv,Qy,Qra,QrB]
 |c+1,m+1,i,hi,hm=>by
  have hA:=g.len;have aa:i<A.length:=I
  have e:=Qrf aa;have hr:=Qrd e;obtain⟨kd,f,t,mn,mx,w,er,hf,ht,an⟩:=g.row hr;have tf:=g.tat hf.1 hf.2;have tt:=g.tat ht.1 ht.2;have p0:=g.p0;have p1:=g.p1;have a:=Qrw (Vx.tat tl t-Vx.tat tl f-mn) (show per≠0 by omega);have b:=Qrt (Vx.tat tl t-Vx.tat tl f-mn) (show 0<per by omega);have hd:wJ (mn+(Vx.tat tl t-Vx.tat tl f-mn) % per)=XA tl per A[i]:=by rw[er];exact Qo I I
  have ek:knd A i=kd:=by unfold knd;rw[e,er]
  have ef:frm A i=f:=by unfold frm;rw[e,er]
  have hs:(A.take i).map (λr=>[Ql (XA tl per r)])++[[D.int .i64 (XA tl per A[i])]]=(A.take (i+1)).map λr=>[Ql (XA tl per r)]:=by
   rw[List.take_add_one,e,Qrk];rfl
  rw[Xv,Qs aa,Qrc,Qt,e,er];simp -implicitDefEqProofs only[Qh,Qr9,Qre,Qj,tf.1,tt.1,Qo (x:=Vx.tat tl t-Vx.tat tl f) I I,Qo (x:=Vx.tat tl t-Vx.tat tl f-mn) I I,Qi6 (n:=400) (t:=per) (x:=Vx.tat tl t-Vx.tat tl f-mn) I I I I,QK (show i<=1000 by omega),hd,
   XK (show(((A.take i).map (λr=>[Ql (XA tl per r)])).length+[[D.int .i64 (XA tl per A[i])]].length)*8<=100000 by simp;omega),hs,Qf9 (A:=A) (i:=i) (M:=2*X.N) hf.1 hf.2 I]
  cases hk:(bif (bif (kd == (1:Int))then true else(kd == (2:Int)))then true else(kd == (3:Int)))with
  |false=>
   rw[Qra,<- QcJ (A:=A) (i:=i) (M:=2*X.N) (λe' _=>by unfold Qbg;rw[ek,hk];rfl)];exact svc1 c m (i+1) I I
  |true=>
   rw[Qrc,Q9t (A:=A) (i:=i) (M:=2*X.N) (f:=f.toNat) I (λe' _=>by
    unfold Qbg;rw[ek,hk,ef,Bool.true_and];by_cases h:e'=f.toNat
    ·rw[Qrm h];simp;omega
    ·rw[Qri h];simp;omega)]
   exact svc1 c m (i+1) I I
theorem Gd.svcQ{R:Type}{k0:Int->Bool->LL->LL->oP R}:Yy 400 (encI tl) A (A.length:Int) per k0 400 0 (List.replicate (2*X.N) [.nl]) [] =
  k0 (A.length:Int) false ((List.range (2*X.N)).map λe=>[.sl 1 (Gu (lvF A A.length e))]) (A.map λr=>[Ql (XA tl per r)]):=by
 unfold Yy;rw[show(List.replicate (2*X.N) [D.nl]).all Q9H=true by simp[Q9H],Qrc,<- Q8N A];have:=g.svc1 (k0:=λa b c d=>k0 a b (c.map CZ) d) A.length 400 0 I (by have:=g.len;omega);rw[List.take_zero]at this;refine this.trans ?_;unfold FO;rw[List.map_map];congr 2;funext e;exact QcL _
end Cx
def Q1u(Se:LL)(row:Y D):Int:=match row with
 |.int _ x::_=>match Qi Se x with
  |some [_,_,_,_,.int _ t]=>t
  |_=>0
 |_=>0
namespace Cx
variable(X:Cx)
def stE(e:Nat):LL:=match (X.evs X.L)[e]? with
 |some [_,.int _ i,.int _ k]=>X.st i.toNat k.toNat
 |_=>[]
def s0(e:Nat):Int:=Q1u X.G.Se ((X.stE e).getD 0 [])
def s1(e:Nat):Int:=Q1u X.G.Se ((X.stE e).getD ((X.stE e).length-1) [])
variable{X} (h:X.OK)
include h
theorem Qgw{e:Nat}(he:e<2*X.N):∃i k,i<X.L/\k<X.nr i/\(X.evs X.L)[e]? = some [Ql (if e % 2=0 then 1 else 2),Ql i,Ql k]/\e / 2=base X.nr i+k:=by
 obtain⟨i,k,b,h2,c⟩:=Q2W (nr:=X.nr) (a:=e / 2) (L:=X.L) (by change e / 2<X.N;omega);have:=Qdn h2 b;refine⟨i,k,b,h2,?_,c⟩;by_cases hm:e % 2=0
 ·rw[Qrv hm,show e=2*(base X.nr i+k) by omega];exact this.1
 ·rw[Qrz hm,show e=2*(base X.nr i+k)+1 by omega];exact this.2
omit h in
theorem Q1f{Se:LL}{row:Y D}(hr:Ds Se row):∃(x:Int) (r:Y D),row[0]? = some (.int .i64 x)/\Qi Se x=some r/\r[4]? = some (.int .i64 (Q1u Se row)):=by
 obtain⟨x,d,nm,a,b,c,st,rfl,h2,_,_⟩:=hr;refine⟨x,_,rfl,h2,?_⟩;unfold Q1u;simp only[Ql,h2];rfl
theorem Qka{R:Type}{k0:Int->Bool->LL->LL->oP R}(hN:X.N<=6):∀(c m i:Nat),i+c=2*X.N->c<m->Yx 400 (X.evs X.L) (((X.evs X.L).length:Nat):Int) X.G.Se X.Ro X.Ls k0 m (i:Int) (encI ((List.range i).map X.s0)) (encI ((List.range i).map X.s1))=k0 ((2*X.N:Nat):Int) false (encI ((List.range (2*X.N)).map X.s0)) (encI ((List.range (2*X.N)).map X.s1))
 |0,m+1,i,hi,_=>by
  obtain rfl:i=2*X.N:=I
  rw[Yx,evs_len,show base X.nr X.L=X.N from rfl,Qy,Qra]
 |c+1,m+1,i,hi,hm=>by
  obtain⟨l,k,a,h2,b,n⟩:=Qgw h (e:=i) I;have hl:=(line h a).1;have hr:=rd h a h2;have o:=hr.rt.l2;have p:=hr.rt.l24;have aa:X.stE i=X.st l k:=by unfold stE;rw[b];simp only[Ql,Qrb]
  obtain⟨x,r,a1,a2,d⟩:=Q1f (hr.rt.st ((X.st l k).getD 0 []) (by rw[Qrh,Qrf I];exact List.getElem_mem _));obtain⟨y,q,b1,b2,g⟩:=Q1f (hr.rt.st ((X.st l k).getD ((X.st l k).length-1) []) (by rw[Qrh,Qrf I];exact List.getElem_mem _));have j:X.s0 i=Q1u X.G.Se ((X.st l k).getD 0 []):=by unfold s0;rw[aa]
  have e1:X.s1 i=Q1u X.G.Se ((X.st l k).getD ((X.st l k).length-1) []):=by unfold s1;rw[aa]
  rw[<- j]at d;rw[<- e1]at g;have c0:Qi (X.st l k) 0=some ((X.st l k).getD 0 []):=by
   rw[show(0:Int)=((0:Nat):Int)from rfl,Qt,Qrh,Qrf I];rfl
  have c1:Qi (X.st l k) (wJ (wJ (((X.st l k).length:Int)-0)-1))=some ((X.st l k).getD ((X.st l k).length-1) []):=by
   rw[Qo (x:=((X.st l k).length:Int)-0) I I,Qo (x:=((X.st l k).length:Int)-0-1) I I,show((X.st l k).length:Int)-0-1=(((X.st l k).length-1:Nat):Int) by omega,Qt,Qrh,Qrf I];rfl
  rw[Yx,Qs (by rw[evs_len];change i<2*X.N;omega),Qrc,Qt,b];have ac:Qi X.Ls (l:Int)=some [D.str (nmN l),Ql 0,Ql (X.w l),D.sl 4 (HI X.Ls l)]:=by rw[Qt];exact hl
  have ai:Qi (HI X.Ls l) (k:Int)=some [Ql (rF X.Ls l k 0),Ql (X.ex l k),Ql (X.mn l k),Ql (X.mx l k)]:=by rw[Qt];exact hr.row
  have rm:∀(f:Nat->Int) (v:Int),Y6 ((List.length (encI ((List.range i).map f))+List.length [[D.int .i64 v]])*8)=some ():=λf v=>XK (by rw[QP];simp;omega)
  have cc:∀(f:Nat->Int) (v:Int),f i=v->encI ((List.range i).map f)++[[D.int .i64 v]]=encI ((List.range (i+1)).map f):=λf v hv=>by
   rw[List.range_succ,Qrk,<- hv];simp[encI,Ql]
  simp -implicitDefEqProofs only[Qh,Qr9,Qre,Qj,X6,ac,ai,hr.ro,c0,c1,a1,a2,d,b1,b2,g,QK (show i<=1000 by omega),rm,cc X.s0 _ rfl,cc X.s1 _ rfl];exact Qka hN c m (i+1) I I
omit h
def lvs(X:Cx)(A:LL):LL:=(List.range (2*X.N)).map λe=>[.sl 1 (Gu (lvF A A.length e))]
variable{per:Int} {Ch Sy A:LL} {tl:Y Int}
theorem Gd.svcP{R:Type}(g:X.Gd per Ch Sy A tl){a0 a1 a e:LL}{b:LL}{c d f:LL}(hb:YY 400 a0 a1 X.G.Se a per e X.Ro X.Ls b c d f Tu4=some (per,X.evs X.L,A,0))(hf:Xp 400 per (X.evs X.L) A (encI tl) (some:Bool->oP Bool)=some true)(KA:Int->oP R)(KB:Int->LL->LL->LL->LL->LL->LL->Int->Int->oP R) :
  XZ 400 a0 a1 X.G.Se a per e X.Ro X.Ls b c d f (encI tl) KA KB=KB per (X.evs X.L) A (X.lvs A) (A.map λr=>[Ql (XA tl per r)]) (encI ((List.range (2*X.N)).map X.s0)) (encI ((List.range (2*X.N)).map X.s1)) (a0.length:Int) 0:=by
 have hN:=base_le g.ok;have hN:X.N<=6:=hN;have hl:(X.evs X.L).length=2*X.N:=evs_len;unfold XZ;rw[hb,Qh,bne_self_eq_false,Qra];dsimp only;rw[hf,Qh,Qrn,Qra,hl,Q4J,Qh,Qrb,XK I,Qh,g.svcQ];have:=Qka g.ok (k0:=λ(n:Int) (o:Bool) l m=>KB per (X.evs X.L) A (X.lvs A) (A.map λr=>[Ql (XA tl per r)]) l m (a0.length:Int) (0:Int)) hN (2*X.N) 400 0 I I;rw[hl]at this;exact this
end Cx
def leO:oP Int->oP Int->Prop
 |_,none=>True
 |none,some _=>False
 |some x,some y=>x<=y
theorem leO.refl:∀a,leO a a
 |none=>trivial
 |some x=>Int.le_refl x
theorem leO.trans:∀{a b c:oP Int},leO a b->leO b c->leO a c
 |_,_,none,_,_=>trivial
 |some x,some y,some z,h,g=>Int.le_trans h g
 |none,some y,some z,h,g=>h.elim
 |_,none,some z,h,g=>g.elim
theorem leO.anti:∀{a b:oP Int},leO a b->leO b a->a=b
 |none,none,_,_=>rfl
 |some x,some y,h,g=>congrArg some (Int.le_antisymm h g)
 |none,some y,h,g=>h.elim
 |some x,none,h,g=>g.elim
def CR:oP Int->oP Int->oP Int
 |none,b=>b
 |a,none=>a
 |some x,some y=>some (if y<x then y else x)
theorem CR.l(a b:oP Int):leO (CR a b) a:=by
 cases a<;>cases b<;>simp only[CR,leO]<;>(try split)<;>omega
theorem CR.r(a b:oP Int):leO (CR a b) b:=by
 cases a<;>cases b<;>simp only[CR,leO]<;>(try split)<;>omega
theorem CR.or(a b:oP Int):CR a b=a\/CR a b=b:=by
 cases a<;>cases b<;>simp only[CR,true_or,or_true];split
 ·exact .inr rfl
 ·exact .inl rfl
def Q11(d:Int):oP Int->oP Int:=Option.map (d + ·)
theorem Q11.mono{d:Int}:∀{a b:oP Int},leO a b->leO (Q11 d a) (Q11 d b)
 |_,none,_=>trivial
 |none,some _,h=>h
 |some x,some y,h=>Int.add_le_add_left h d
theorem Q11.ge{d:Int}(h:0<=d):∀(a:oP Int),leO a (Q11 d a)
 |none=>trivial
 |some x=>show x<=d+x by omega
structure Gr where
 n:Nat
 out:Nat->List (Int×Nat)
 en:Nat->Bool
structure Gr.OK(g:Gr):Prop where
 to:∀e,∀a∈g.out e,0<=a.1/\a.2<g.n
namespace Gr
variable(g:Gr)
def D:Nat->Nat->oP Int
 |0,e=>bif g.en e then some 0 else none
 |k+1,e=>(g.out e).foldl (λm a=>CR m (Q11 a.1 (D k a.2))) (D k e)
theorem Q6j{f:Int×Nat->oP Int}:∀(l:Y (Int×Nat)) (m:oP Int),leO (l.foldl (λm a=>CR m (f a)) m) m/\∀a∈l,leO (l.foldl (λm a=>CR m (f a)) m) (f a)
 |[],m=>⟨.refl m,λa h=>nomatch h⟩
 |b::l,m=>by
  have ih:=Q6j (f:=f) l (CR m (f b));refine⟨ih.1.trans (CR.l ..),λa ha=>?_⟩;rcases QrG.1 ha with rfl | ha
  ·exact ih.1.trans (CR.r ..)
  ·exact ih.2 a ha
theorem Q9F{f:Int×Nat->oP Int}:∀(l:Y (Int×Nat)) (m:oP Int),l.foldl (λm a=>CR m (f a)) m=m\/∃a∈l,l.foldl (λm a=>CR m (f a)) m=f a
 |[],m=>.inl rfl
 |b::l,m=>by
  rcases Q9F (f:=f) l (CR m (f b))with h | ⟨a,ha,h⟩
  ·rcases CR.or m (f b)with e | e
   ·exact .inl (h.trans e)
   ·exact .inr ⟨b,.head _,h.trans e⟩
  ·exact .inr ⟨a,.tail _ ha,h⟩
theorem D_succ(k e:Nat):leO (g.D (k+1) e) (g.D k e):=(Q6j (f:=λa=>Q11 a.1 (g.D k a.2)) ..).1
theorem D_mono{k:Nat}(e:Nat):∀{j:Nat},k<=j->leO (g.D j e) (g.D k e)
 |0,h=>by
  obtain rfl:k=0:=I
  exact .refl _
 |j+1,h=>by
  by_cases e1:k=j+1
  ·subst e1;exact .refl _
  ·exact(g.D_succ j e).trans (D_mono e I)
theorem D_edge{k e:Nat}{a:Int×Nat}(ha:a∈g.out e):leO (g.D (k+1) e) (Q11 a.1 (g.D k a.2)):=(Q6j (f:=λa=>Q11 a.1 (g.D k a.2)) ..).2 a ha
theorem D_or(k e:Nat):g.D (k+1) e=g.D k e\/∃a∈g.out e,g.D (k+1) e=Q11 a.1 (g.D k a.2):=Q9F (f:=λa=>Q11 a.1 (g.D k a.2)) ..
theorem better{k e:Nat}(h:g.D (k+2) e≠g.D (k+1) e):∃a∈g.out e,g.D (k+2) e=Q11 a.1 (g.D (k+1) a.2)/\g.D (k+1) a.2≠g.D k a.2:=by
 rcases g.D_or (k+1) e with e1 | ⟨a,ha,e1⟩
 ·exact absurd e1 h
 ·refine⟨a,ha,e1,λe2=>h ?_⟩;refine(g.D_succ (k+1) e).anti ?_;rw[e1,e2];exact g.D_edge ha
theorem chain(ok:g.OK):∀(k e:Nat),g.D (k+1) e≠g.D k e->e<g.n->∃l:Y Nat,l.length=k+1/\(∀x∈l,x<g.n)/\l[0]? = some e/\∀i x,l[i]? = some x->g.D (k+1-i) x≠g.D (k-i) x/\∀j y,i<=j->l[j]? = some y->leO (g.D (k+1-j) y) (g.D (k+1-i) x)
 |0,e,h,he=>⟨[e],rfl,λx hx=>by simp at hx;omega,rfl,λi x hx=>by
   cases i with
   |zero=>
    simp at hx;subst hx;refine⟨h,λj y _ hy=>?_⟩;cases j with
    |zero=>simp at hy;subst hy;exact .refl _
    |succ j=>simp at hy
   |succ i=>simp at hx⟩
 |k+1,e,h,he=>by
  obtain⟨a,ha,c,h2⟩:=g.better h;have ac:=ok.to e a ha;obtain⟨l,l1,l2,d,b⟩:=chain ok k a.2 h2 ac.2;refine⟨e::l,by simp[l1],λx hx=>?_,rfl,λi x hx=>?_⟩
  ·rcases QrG.1 hx with rfl | hx
   ·exact he
   ·exact l2 x hx
  ·cases i with
   |zero=>
    simp at hx;subst hx;refine⟨h,λj y _ hy=>?_⟩;cases j with
    |zero=>simp at hy;subst hy;exact .refl _
    |succ j=>
     simp at hy;rw[show k+1+1-(j+1)=k+1-j by omega];refine((b 0 a.2 d).2 j y (Nat.zero_le _) hy).trans ?_;show leO (g.D (k+1) a.2) (g.D (k+2) e);rw[c];exact Q11.ge ac.1 _
   |succ i=>
    simp at hx;have:=b i x hx;rw[show k+1+1-(i+1)=k+1-i by omega,show k+1-(i+1)=k-i by omega];refine⟨this.1,λj y hj hy=>?_⟩;cases j with
    |zero=>omega
    |succ j=>
     simp at hy;rw[show k+1+1-(j+1)=k+1-j by omega];exact this.2 j y I hy
end Gr
theorem QaQ:∀(n:Nat) (l:Y Nat),(∀x∈l,x<n)->n<l.length->∃i j x:Nat,i<j/\l[i]? = some x/\l[j]? = some x
 |0,l,h,hl=>by
  cases l with
  |nil=>simp at hl
  |cons a l=>exact absurd (h a (.head _)) I
 |n+1,l,h,hl=>by
  by_cases hd:∃i j:Nat,i<j/\l[i]? = some n/\l[j]? = some n
  ·obtain⟨i,j,c,h2,b⟩:=hd;exact⟨i,j,n,c,h2,b⟩
  ·by_cases hm:n∈l
   ·obtain⟨i,hi⟩:=List.getElem?_of_mem hm;have ai:=(QrC.1 hi).1;obtain⟨p,q,x,c,h2,b⟩:=QaQ n (l.eraseIdx i) (λx hx=>by
     obtain⟨j,hj⟩:=List.getElem?_of_mem hx;have ac:=h x (List.mem_of_mem_eraseIdx hx);have aa:x≠n:=λe=>by
      subst e;rw[List.getElem?_eraseIdx]at hj;split at hj
      ·exact hd ⟨j,i,by assumption,hj,hi⟩
      ·exact hd ⟨i,j+1,I,hi,hj⟩
     omega) (by rw[List.length_eraseIdx];split<;>omega)
    rw[List.getElem?_eraseIdx]at h2 b;split at h2<;>split at b
    ·exact⟨p,q,x,c,h2,b⟩
    ·exact⟨p,q+1,x,I,h2,b⟩
    ·omega
    ·exact⟨p+1,q+1,x,I,h2,b⟩
   ·obtain⟨p,q,x,c,h2,b⟩:=QaQ n l (λx hx=>by
     have:=h x hx;have aa:x≠n:=λe=>hm (e▸hx)
     omega) I
    exact⟨p,q,x,c,h2,b⟩
namespace Gr
variable(g:Gr)
theorem D_stable(ok:g.OK){e:Nat}(he:e<g.n):g.D (g.n+1) e=g.D g.n e:=Classical.byContradiction λh=>by
 obtain⟨l,l1,l2,c,a⟩:=g.chain ok g.n e h he;obtain⟨i,j,x,aa,hi,hj⟩:=QaQ g.n l l2 I;have ai:=(QrC.1 hi).1;have ac:=(QrC.1 hj).1;obtain⟨b,h2⟩:=a i x hi;refine b ((g.D_mono x I).anti ?_);exact(g.D_mono x I).trans (h2 j x I hj)
def T(e:Nat):oP Int:=g.D g.n e
theorem T_le(ok:g.OK){e:Nat}(he:e<g.n):∀k,leO (g.T e) (g.D k e):=λk=>by
 have hs:∀j,∀x,x<g.n->g.D (g.n+j) x=g.T x:=λj=>by
  induction j with
  |zero=>exact λx _=>rfl
  |succ j ih=>
   intro x hx;have b:=g.D_stable ok hx;rcases g.D_or (g.n+j) x with e1 | ⟨a,ha,e1⟩
   ·exact e1.trans (ih x hx)
   ·refine(g.D_mono x I).anti ?_;show leO (g.D g.n x) (g.D (g.n+j+1) x);rw[e1,ih a.2 (ok.to x a ha).2,<- b];exact g.D_edge ha
 by_cases hk:k<=g.n
 ·exact g.D_mono e hk
 ·rw[show k=g.n+(k-g.n) by omega,hs _ e he];exact .refl _
theorem T_edge(ok:g.OK){e:Nat}(he:e<g.n){a:Int×Nat}(ha:a∈g.out e):leO (g.T e) (Q11 a.1 (g.T a.2)):=by
 have:=g.D_edge (k:=g.n) ha;rwa [g.D_stable ok he]at this
theorem T_end(ok:g.OK){e:Nat}(he:e<g.n)(h:g.en e=true):leO (g.T e) (some 0):=by
 have:=g.T_le ok he 0;rwa [D,h,Qrc]at this
theorem T_or(ok:g.OK){e:Nat}(he:e<g.n){x:Int}(hx:g.T e=some x):(g.en e=true/\x=0)\/∃a∈g.out e,∃y,g.T a.2=some y/\x=a.1+y:=by
 have ac:∀k,g.D k e=g.T e->(g.en e=true/\x=0)\/∃a∈g.out e,∃y,g.T a.2=some y/\x=a.1+y:=λk=>by
  induction k with
  |zero=>
   intro h;rw[hx,D]at h;cases hc:g.en e with
   |true=>rw[hc,Qrc]at h;injection h with h;exact .inl ⟨rfl,h.symm⟩
   |false=>rw[hc,Qra]at h;cases h
  |succ k ih=>
   intro h;rcases g.D_or k e with e1 | ⟨a,ha,e1⟩
   ·exact ih (e1.symm.trans h)
   ·refine .inr ⟨a,ha,?_⟩;have b:=g.T_le ok (ok.to e a ha).2 k;have h2:=g.T_edge ok he ha;rw[h,hx]at e1;rw[hx]at h2;cases hd:g.D k a.2 with
    |none=>rw[hd]at e1;cases e1
    |some z=>
     rw[hd]at e1 b;cases ht:g.T a.2 with
     |none=>rw[ht]at b;exact b.elim
     |some y=>
      rw[ht]at b h2;have e1:x=a.1+z:=by injection e1
      have b:y<=z:=b;have h2:x<=a.1+y:=h2;exact⟨y,rfl,I⟩
 exact ac g.n rfl
theorem T_nn(ok:g.OK){e:Nat}(he:e<g.n){x:Int}(hx:g.T e=some x):0<=x:=by
 have ac:∀k e,∀x,g.D k e=some x->0<=x:=λk=>by
  induction k with
  |zero=>
   intro e x h;rw[D]at h;cases hc:g.en e with
   |true=>rw[hc,Qrc]at h;injection h with h;omega
   |false=>rw[hc,Qra]at h;cases h
  |succ k ih=>
   intro e x h;rcases g.D_or k e with e1 | ⟨a,ha,e1⟩
   ·exact ih e x (e1.symm.trans h)
   ·rw[h]at e1;cases hd:g.D k a.2 with
    |none=>rw[hd]at e1;cases e1
    |some z=>
     rw[hd]at e1;have e1:x=a.1+z:=by injection e1
     have:=ih _ _ hd;have:=(ok.to e a ha).1;omega
 exact ac _ _ _ hx
end Gr
def lo(left:Y Int)(e:Nat):oP Int:=if left.getD e 0 = -1 then none else some (left.getD e 0)
namespace Gr
variable(g:Gr)
def rl1(e:Nat)(s:Y Int×Bool)(a:Int×Nat):Y Int×Bool:=if s.1.getD a.2 0 = -1 then s else if s.1.getD e 0 = -1\/a.1+s.1.getD a.2 0<s.1.getD e 0 then(s.1.set e (a.1+s.1.getD a.2 0),true)else s
def rlE(s:Y Int×Bool)(e:Nat):Y Int×Bool:=(g.out e).foldl (rl1 e) s
def rlR(left:Y Int):Y Int×Bool:=(List.range g.n).foldl g.rlE (left,false)
structure Lf(left:List Int):Prop where
 len:left.length=g.n
 nn:∀e,e<g.n->left.getD e 0 = -1\/0<=left.getD e 0
 ge:∀e,e<g.n->leO (g.T e) (lo left e)
variable{g} (ok:g.OK)
include ok
theorem rl1_ok{e:Nat}(he:e<g.n){s:Y Int×Bool}(h:g.Lf s.1){a:Int×Nat}(ha:a∈g.out e) :
  g.Lf (rl1 e s a).1/\(∀x,x<g.n->lo (rl1 e s a).1 x=if x=e then CR (lo s.1 e) (Q11 a.1 (lo s.1 a.2))else lo s.1 x)/\((rl1 e s a).2=s.2/\(rl1 e s a).1=s.1\/(rl1 e s a).2=true/\lo (rl1 e s a).1 e≠lo s.1 e):=by
 obtain⟨left,c⟩:=s;obtain⟨d,f⟩:=a;have ho:=ok.to e _ ha;have hl:=h.len;have n1:=h.nn e he;have n2:=h.nn f ho.2;dsimp only at *
 have ac:∀v x,x<g.n->(left.set e v).getD x 0=if x=e then v else left.getD x 0:=λv x hx=>by
  rw[Qrh,Qrh,List.getElem?_set];by_cases aa:x=e
  ·subst aa;rw[Qrv rfl,Qrv rfl,Qrv I];rfl
  ·rw[Qrz (λh=>aa h.symm),Qrz aa]
 unfold rl1;dsimp only;by_cases i:left.getD f 0 = -1
 ·rw[Qrv i];refine⟨h,λx hx=>?_,.inl ⟨rfl,rfl⟩⟩;by_cases aa:x=e
  ·subst aa;rw[Qrv rfl];have:lo left f=none:=Qrv i;rw[this];cases hq:lo left x<;>rfl
  ·rw[Qrz aa]
 rw[Qrz i];have hf:lo left f=some (left.getD f 0):=Qrz i;by_cases h2:left.getD e 0 = -1\/d+left.getD f 0<left.getD e 0
 ·rw[Qrv h2];have hv:(left.set e (d+left.getD f 0)).getD e 0=d+left.getD f 0:=by rw[ac _ e he,Qrv rfl]
  have ak:lo (left.set e (d+left.getD f 0)) e=some (d+left.getD f 0):=by unfold lo;rw[hv,Qrz I]
  have ai:∀x,x<g.n->lo (left.set e (d+left.getD f 0)) x=if x=e then CR (lo left e) (Q11 d (lo left f))else lo left x:=λx hx=>by
   by_cases aa:x=e
   ·subst aa;rw[Qrv rfl,ak,hf];by_cases b:left.getD x 0 = -1
    ·rw[show lo left x=none from Qrv b];rfl
    ·rw[show lo left x=some (left.getD x 0)from Qrz b];show _=some (if d+left.getD f 0<left.getD x 0 then d+left.getD f 0 else left.getD x 0);rw[Qrv I]
   ·rw[Qrz aa];unfold lo;rw[ac _ x hx,Qrz aa]
  refine⟨⟨by simp[hl],λx hx=>?_,λx hx=>?_⟩,ai,.inr ⟨rfl,?_⟩⟩
  ·rw[ac _ x hx];by_cases aa:x=e
   ·rw[Qrv aa];omega
   ·rw[Qrz aa];exact h.nn x hx
  ·rw[ai x hx];by_cases aa:x=e
   ·subst aa;rw[Qrv rfl];rcases CR.or (lo left x) (Q11 d (lo left f))with e1 | e1
    ·rw[e1];exact h.ge x hx
    ·rw[e1];exact(g.T_edge ok hx ha).trans (Q11.mono (h.ge f ho.2))
   ·rw[Qrz aa];exact h.ge x hx
  ·rw[ak];unfold lo;by_cases b:left.getD e 0 = -1
   ·rw[Qrv b];simp
   ·rw[Qrz b];intro hh;injection hh with hh
    omega
 ·rw[Qrz h2];refine⟨h,λx hx=>?_,.inl ⟨rfl,rfl⟩⟩;by_cases aa:x=e
  ·subst aa;rw[Qrv rfl,hf,show lo left x=some (left.getD x 0)from Qrz I];show _=some (if d+left.getD f 0<left.getD x 0 then d+left.getD f 0 else left.getD x 0);rw[Qrz I]
  ·rw[Qrz aa]
structure Run(s s':List Int×Bool):Prop where
 lf:g.Lf s'.1
 le:∀x,x<g.n->leO (lo s'.1 x) (lo s.1 x)
 ch:s'.2=s.2/\s'.1=s.1\/s'.2=true/\∃x,x<g.n/\lo s'.1 x≠lo s.1 x
theorem Run.trans{s s' aa:Y Int×Bool}(h:Run (g:=g) s s')(k:Run (g:=g) s' aa):Run (g:=g) s aa where
 lf:=k.lf
 le:=λx hx=>(k.le x hx).trans (h.le x hx)
 ch:=by
  rcases h.ch with⟨a,b⟩|⟨a,x,hx,b⟩
  ·rcases k.ch with⟨c,d⟩|⟨c,y,hy,d⟩
   ·exact .inl ⟨c.trans a,d.trans b⟩
   ·exact .inr ⟨c,y,hy,by rw[<- b];exact d⟩
  ·refine .inr ⟨?_,x,hx,λe=>b ?_⟩
   ·rcases k.ch with⟨c,d⟩|⟨c,y,hy,d⟩
    ·rw[c,a]
    ·exact c
   ·exact(h.le x hx).anti (e▸k.le x hx)
theorem Qdp{e:Nat}(he:e<g.n){s:Y Int×Bool}(h:g.Lf s.1):∀(l:Y (Int×Nat)),(∀a∈l,a∈g.out e)->∀s0:Y Int×Bool,g.Lf s0.1->Run (g:=g) s0 (l.foldl (rl1 e) s0)/\∀a∈l,leO (lo (l.foldl (rl1 e) s0).1 e) (Q11 a.1 (lo s0.1 a.2))
 |[],_,s0,c=>⟨⟨c,λx hx=>.refl _,.inl ⟨rfl,rfl⟩⟩,λa ha=>nomatch ha⟩
 |a::l,hl,s0,c=>by
  obtain⟨d,h2,j⟩:=rl1_ok ok he c (hl a (.head _));have f:Run (g:=g) s0 (rl1 e s0 a):=⟨d,λx hx=>by
   rw[h2 x hx];by_cases aa:x=e
   ·subst aa;rw[Qrv rfl];exact CR.l ..
   ·rw[Qrz aa];exact .refl _,j.imp id λ⟨a,b⟩=>⟨a,e,he,b⟩⟩
  obtain⟨i,h5⟩:=Qdp he h l (λb hb=>hl b (.tail _ hb)) (rl1 e s0 a) d;refine⟨f.trans ok i,λb hb=>?_⟩;rcases QrG.1 hb with rfl | hb
  ·refine(i.le e he).trans ?_;rw[h2 e he,Qrv rfl];exact CR.r ..
  ·exact(h5 b hb).trans (Q11.mono (f.le b.2 (ok.to e b (hl b (.tail _ hb))).2))
theorem Qdg{k:Nat}:∀(l:Y Nat),(∀e∈l,e<g.n)->∀s0:Y Int×Bool,g.Lf s0.1->(∀e,e<g.n->leO (lo s0.1 e) (g.D k e))->Run (g:=g) s0 (l.foldl g.rlE s0)/\∀e∈l,leO (lo (l.foldl g.rlE s0).1 e) (g.D (k+1) e)
 |[],_,s0,c,_=>⟨⟨c,λx hx=>.refl _,.inl ⟨rfl,rfl⟩⟩,λa ha=>nomatch ha⟩
 |e::l,hl,s0,c,hk=>by
  have he:=hl e (.head _);obtain⟨d,h⟩:=Qdp ok he c (g.out e) (λa ha=>ha) s0 c;obtain⟨f,h2⟩:=Qdg (k:=k) l (λb hb=>hl b (.tail _ hb)) (g.rlE s0 e) d.lf (λx hx=>(d.le x hx).trans (hk x hx));refine⟨d.trans ok f,λb hb=>?_⟩;rcases QrG.1 hb with rfl | hb
  ·refine(f.le b he).trans ?_;rcases g.D_or k b with e1 | ⟨a,ha,e1⟩
   ·rw[e1];exact(d.le b he).trans (hk b he)
   ·rw[e1];exact(h a ha).trans (Q11.mono (hk a.2 (ok.to b a ha).2))
  ·exact h2 b hb
theorem Q2h{k:Nat}{left:Y Int}(h:g.Lf left)(hk:∀e,e<g.n->leO (lo left e) (g.D k e)):g.Lf (g.rlR left).1/\(∀e,e<g.n->leO (lo (g.rlR left).1 e) (g.D (k+1) e))/\((g.rlR left).2=false/\(g.rlR left).1=left\/(g.rlR left).2=true/\∃x,x<g.n/\lo (g.rlR left).1 x≠lo left x):=by
 obtain⟨r,a⟩:=Qdg ok (k:=k) (List.range g.n) (λe he=>QrE.1 he) (left,false) h hk;exact⟨r.lf,λe he=>a e (QrE.2 he),r.ch⟩
theorem Q3x{k:Nat}(hk:g.n<=k){left:Y Int}(h:g.Lf left)(hd:∀e,e<g.n->leO (lo left e) (g.D k e)){e:Nat}(he:e<g.n):lo left e=g.T e:=
 ((hd e he).trans (g.D_mono e hk)).anti (h.ge e he)
theorem Qar{k:Nat}(hk:g.n<=k){left:Y Int}(h:g.Lf left)(hd:∀e,e<g.n->leO (lo left e) (g.D k e)):g.rlR left=(left,false):=by
 obtain⟨c,h2,d⟩:=Q2h ok h hd;rcases d with⟨a,b⟩|⟨a,x,hx,b⟩
 ·exact Prod.ext b a
 ·exact absurd ((Q3x ok (show g.n<=k+1 by omega) c h2 hx).trans (Q3x ok hk h hd hx).symm) b
theorem rounds{β:Type}{r:Nat->Y Int->β}{K:Y Int->β}{Q:Y Int->Prop}(hQ:∀left,g.Lf left->Q left->Q (g.rlR left).1)(hr:∀m left,g.Lf left->Q left->r (m+1) left=if (g.rlR left).2=true then r m (g.rlR left).1 else K (g.rlR left).1):∀(c m k:Nat) (left:Y Int),k+c=g.n->c<m->g.Lf left->Q left->(∀e,e<g.n->leO (lo left e) (g.D k e))->∃aa,g.Lf aa/\Q aa/\(∀e,e<g.n->lo aa e=g.T e)/\r m left=K aa
 |0,m+1,k,left,hk,_,h,q,hd=>by
  refine⟨left,h,q,λe he=>Q3x ok I h hd he,?_⟩;rw[hr m left h q,Qar ok I h hd,Qrz (λe=>nomatch e)]
 |c+1,m+1,k,left,hk,hm,h,q,hd=>by
  obtain⟨d,h2,f⟩:=Q2h ok h hd;rw[hr m left h q];by_cases hc:(g.rlR left).2=true
  ·rw[Qrv hc];exact rounds hQ hr c m (k+1) _ I I d (hQ left h q) h2
  ·rw[Qrz hc];rcases f with⟨a,b⟩|⟨a,_⟩
   ·refine⟨left,h,q,λe he=>?_,by rw[b]⟩;have it:∀j,(∀e,e<g.n->leO (lo left e) (g.D (k+j) e)):=λj=>by
     induction j with
     |zero=>exact hd
     |succ j ih=>
      have:=(Q2h ok h ih).2.1;rw[b]at this;exact this
    exact Q3x ok (show g.n<=k+g.n by omega) h (it g.n) he
   ·exact absurd a hc
def Qd6(left:Y Int):Nat:=left.countP λx=>decide (x ≠ -1)
def Ub(U:Int)(left:Y Int):Prop:=∀e:Nat,left.getD e 0<=U*(Qd6 left:Nat)
theorem rl1_ub{U:Int}{e:Nat}(he:e<g.n){s:Y Int×Bool}(h:g.Lf s.1)(hu:Ub U s.1){a:Int×Nat}(ha:a∈g.out e)(hd:a.1<=U):Ub U (rl1 e s a).1:=by
 obtain⟨left,c⟩:=s;obtain⟨d,f⟩:=a;have ho:=ok.to e _ ha;have hl:=h.len;have n1:=h.nn e he;have n2:=h.nn f ho.2;unfold rl1;dsimp only at *
 by_cases j:left.getD f 0 = -1
 ·rw[Qrv j];exact hu
 rw[Qrz j];by_cases h2:left.getD e 0 = -1\/d+left.getD f 0<left.getD e 0
 ·rw[Qrv h2];have g1:=Qrf (l:=left) (i:=e) I;have ge:left.getD e 0=left[e]'I:=by rw[Qrh,g1];rfl
  have ac:Qd6 (left.set e (d+left.getD f 0))=Qd6 left+(if left.getD e 0 = -1 then 1 else 0):=by
   unfold Qd6;rw[List.countP_set I,<- ge,Qrm (show d+left.getD f 0 ≠ -1 by omega),Qrv rfl];by_cases b:left.getD e 0 = -1
   ·rw[Qrv b,Qri I,Qrz Q1];rfl
   ·rw[Qrz b,Qrm b,Qrv rfl];have:0<left.countP λx=>decide (x ≠ -1):=List.countP_pos_iff.2 ⟨_,List.getElem_mem (by omega:e<left.length),Qrm (by rw[<- ge];exact b)⟩
    omega
  have hf:=hu f;have hz:=hu e;intro x;have hx:=hu x;rw[ac];have k:(left.set e (d+left.getD f 0)).getD x 0=if x=e then d+left.getD f 0 else left.getD x 0:=by
   rw[Qrh,List.getElem?_set];by_cases aa:x=e
   ·subst aa;rw[Qrv rfl,Qrv rfl,Qrv I];rfl
   ·rw[Qrz (λh=>aa h.symm),Qrz aa,<- Qrh]
  rw[k];by_cases b:left.getD e 0 = -1
  ·rw[Qrv b,show((Qd6 left+1:Nat):Int)=(Qd6 left:Int)+1 by omega,Int.mul_add,Int.mul_one];split<;>omega
  ·rw[Qrz b,Nat.add_zero];split<;>omega
 ·rw[Qrz h2];exact hu
theorem rlE_ub{U:Int}{e:Nat}(he:e<g.n):∀(l:Y (Int×Nat)),(∀a∈l,a∈g.out e/\a.1<=U)->∀s:Y Int×Bool,g.Lf s.1->Ub U s.1->g.Lf (l.foldl (rl1 e) s).1/\Ub U (l.foldl (rl1 e) s).1
 |[],_,s,h,hu=>⟨h,hu⟩
 |a::l,hl,s,h,hu=>rlE_ub he l (λb hb=>hl b (.tail _ hb)) _ (rl1_ok ok he h (hl a (.head _)).1).1 (rl1_ub ok he h hu (hl a (.head _)).1 (hl a (.head _)).2)
theorem rlR_ub{U:Int}(hU:∀e,∀a∈g.out e,a.1<=U):∀(l:Y Nat),(∀e∈l,e<g.n)->∀s:Y Int×Bool,g.Lf s.1->Ub U s.1->g.Lf (l.foldl g.rlE s).1/\Ub U (l.foldl g.rlE s).1
 |[],_,s,h,hu=>⟨h,hu⟩
 |e::l,hl,s,h,hu=>by
  have:=rlE_ub ok (hl e (.head _)) (g.out e) (λa ha=>⟨ha,hU e a ha⟩) s h hu;exact rlR_ub hU l (λb hb=>hl b (.tail _ hb)) (g.rlE s e) this.1 this.2
omit ok in
theorem Ub.le{U:Int}(hU:0<=U){left:Y Int}(hu:Ub U left)(e:Nat):left.getD e 0<=U*(left.length:Nat):=by
 have a:=hu e;have h2:Qd6 left<=left.length:=List.countP_le_length;have:=Int.mul_le_mul_of_nonneg_left (show((Qd6 left:Nat):Int)<=(left.length:Nat) by omega) hU;omega
end Gr
structure Sv where
 n:Nat
 dur:Nat->Int
 to:Nat->Nat
 lv:Nat->List Nat
 en:Nat->Bool
namespace Sv
variable(S:Sv)
def gr:Gr:=⟨S.n,λe=>(S.lv e).map λi=>(S.dur i,S.to i),S.en⟩
def tight(left:Y Int)(t:Int)(a:Nat):Bool:=bif left.getD (S.to a) 0 != -1 then S.dur a+left.getD (S.to a) 0 == t else false
structure Alt(arr:Nat->Bool):Prop where
 al:∀e,e<S.n->∀a∈S.lv e,arr (S.to a) = !arr e/\(arr e=false->1<=S.dur a)
 en:∀e,S.en e=true->arr e=true
structure Fin(left:List Int):Prop where
 ok:S.gr.OK
 lf:S.gr.Lf left
 eq:∀e,e<S.n->lo left e=S.gr.T e
variable{S} {left:Y Int}
theorem Fin.val(h:S.Fin left){e:Nat}(he:e<S.n){x:Int}:S.gr.T e=some x↔left.getD e 0=x/\x ≠ -1:=by
 rw[<- h.eq e he];unfold lo;split
 ·rename_i c;exact⟨λq=>(nomatch q),λ⟨a,b⟩=>absurd (a.symm.trans c) b⟩
 ·rename_i c;exact⟨λq=>by injection q with q;exact⟨q,q▸c⟩,λ⟨a,b⟩=>by rw[a]⟩
theorem Fin.lv(h:S.Fin left){e a:Nat}(ha:a∈S.lv e):0<=S.dur a/\S.to a<S.n:=h.ok.to e (S.dur a,S.to a) (Qrr.2 ⟨a,ha,rfl⟩)
theorem tight_iff{t:Int}{a:Nat}:S.tight left t a=true↔left.getD (S.to a) 0 ≠ -1/\S.dur a+left.getD (S.to a) 0=t:=by
 unfold tight;cases hb:(left.getD (S.to a) 0 != -1)with
 |false=>simp at hb;simp[hb]
 |true=>simp at hb;simp[hb]
theorem Fin.next(h:S.Fin left){e:Nat}(he:e<S.n){t:Int}(ht:left.getD e 0=t)(f:0<t):S.en e=false/\∃a∈S.lv e,S.tight left t a=true:=by
 have hT:=(h.val he (x:=t)).2 ⟨ht,I⟩;constructor
 ·cases hc:S.en e with
  |false=>rfl
  |true=>
   have:=S.gr.T_end h.ok he hc;rw[hT]at this;have:t<=0:=this;omega
 ·rcases S.gr.T_or h.ok he hT with⟨_,e1⟩|⟨b,hb,y,d,h2⟩
  ·omega
  ·obtain⟨a,ha,rfl⟩:=Qrr.1 hb;have c:=(h.val (h.lv ha).2).1 d;exact⟨a,ha,tight_iff.2 ⟨by rw[c.1];exact c.2,by rw[c.1];exact h2.symm⟩⟩
theorem Fin.zero(h:S.Fin left){arr:Nat->Bool}(al:S.Alt arr){e:Nat}(he:e<S.n)(ht:left.getD e 0=0):S.en e=true:=by
 have aa:∀{e:Nat},e<S.n->left.getD e 0=0->arr e=false->S.en e=true:=λ{e} he ht hr=>by
  rcases S.gr.T_or h.ok he ((h.val he (x:=0)).2 ⟨ht,I⟩)with⟨e1,_⟩|⟨b,hb,y,d,h2⟩
  ·exact e1
  ·obtain⟨a,ha,rfl⟩:=Qrr.1 hb;have:=(al.al e he a ha).2 hr;have:=S.gr.T_nn h.ok (h.lv ha).2 d;have h2:0=S.dur a+y:=h2;omega
 cases hr:arr e with
 |false=>exact aa he ht hr
 |true=>
  rcases S.gr.T_or h.ok he ((h.val he (x:=0)).2 ⟨ht,I⟩)with⟨e1,_⟩|⟨b,hb,y,d,h2⟩
  ·exact e1
  ·obtain⟨a,ha,rfl⟩:=Qrr.1 hb;have g:=(h.lv ha).1;have:=S.gr.T_nn h.ok (h.lv ha).2 d;have h2:0=S.dur a+y:=h2;have i:=(h.val (h.lv ha).2).1 d;have hd:=(al.al e he a ha).1;rw[hr]at hd;rcases S.gr.T_or h.ok (h.lv ha).2 d with⟨e2,_⟩|⟨c,hc,z,f,h5⟩
   ·have:=al.en _ e2;rw[hd]at this;cases this
   ·obtain⟨a',ac,rfl⟩:=Qrr.1 hc;have:=(al.al _ (h.lv ha).2 a' ac).2 hd;have:=S.gr.T_nn h.ok (h.lv ac).2 f;have h5:y=S.dur a'+z:=h5;omega
def Way(S:Sv)(left:Y Int):Y Nat->Int->Y Nat->Prop
 |_,t,[]=>t=0
 |nx,t,a::p=>0<t/\a∈nx/\S.tight left t a=true/\Way S left (S.lv (S.to a)) (t-S.dur a) p
def cnt(S:Sv)(left:Y Int)(t:Int):Nat:=(List.range S.n).countP λx=>decide (left.getD x 0 ≠ -1/\left.getD x 0<t)
theorem R0{p q:Nat->Bool}{e:Nat}(aa:∀x,p x=true->q x=true)(a:p e=false)(h2:q e=true):∀(l:Y Nat),e∈l->l.countP p<l.countP q
 |b::l,h=>by
  have hm:=List.countP_mono_left (l:=l) (p:=p) (q:=q) (λx _ hx=>aa x hx);rw[List.countP_cons,List.countP_cons];rcases QrG.1 h with rfl | h
  ·rw[a,h2,Qrz Q1,Qrv rfl];omega
  ·have ih:=R0 aa a h2 l h;cases hb:p b with
   |true=>rw[aa b hb];simp only[if_true];omega
   |false=>cases q b<;>simp<;>omega
theorem cnt_mono{t t':Int}(h:t'<=t):S.cnt left t'<=S.cnt left t:=List.countP_mono_left λx _ hx=>by
 have:=of_decide_eq_true hx;exact Qrm ⟨this.1,I⟩
theorem cnt_lt{t t':Int}(h:t'<t){e:Nat}(he:e<S.n)(ht:left.getD e 0=t')(a:t' ≠ -1):S.cnt left t'<S.cnt left t:=
 R0 (e:=e) (λx hx=>by have:=of_decide_eq_true hx;exact Qrm ⟨this.1,I⟩) (Qri I) (Qrm I) _ (QrE.2 he)
theorem cnt_le{t:Int}:S.cnt left t<=S.n:=by
 have:=List.countP_le_length (p:=λx=>decide (left.getD x 0 ≠ -1/\left.getD x 0<t)) (l:=List.range S.n);rwa [QrM]at this
theorem way_loop{β:Type}{r:Nat->Int->Y Nat->Y Nat->β}{K:Y Nat->β}{B:Nat}(h:S.Fin left){arr:Nat->Bool}(al:S.Alt arr)(d:∀m e j,e<S.n->left.getD e 0=0->r (m+1) (left.getD e 0) (S.lv e) j=K j)(f:∀m e j a,e<S.n->0<left.getD e 0->j.length+m<B->(S.lv e).find? (S.tight left (left.getD e 0))=some a->r (m+1) (left.getD e 0) (S.lv e) j=r m (left.getD e 0-S.dur a) (S.lv (S.to a)) (j++[a])) :
  ∀(c m e:Nat) (j:Y Nat),e<S.n->2*S.cnt left (left.getD e 0)+(if arr e then 1 else 0)<=c->c<m->j.length+m<=B->left.getD e 0 ≠ -1->∃p,Way S left (S.lv e) (left.getD e 0) p/\p.length<=c/\r m (left.getD e 0) (S.lv e) j=K (j++p)
 |c,m+1,e,j,he,hc,hm,hB,hn=>by
  by_cases hp:0<left.getD e 0
  ·obtain⟨a,ha,an⟩:=(h.next he rfl hp).2;cases hf:(S.lv e).find? (S.tight left (left.getD e 0))with
   |none=>exact absurd an (List.find?_eq_none.1 hf a ha)
   |some b=>
    rw[f m e j b he hp I hf];have hb:=QrH hf;have ac:=List.find?_some hf;obtain⟨b1,b2⟩:=tight_iff.1 ac;obtain⟨d0,aa⟩:=h.lv hb;obtain⟨a1,a2⟩:=al.al e he b hb;have ht:left.getD e 0-S.dur b=left.getD (S.to b) 0:=I
    have aq:2*S.cnt left (left.getD (S.to b) 0)+(if arr (S.to b)then 1 else 0)<2*S.cnt left (left.getD e 0)+(if arr e then 1 else 0):=by
     rw[a1];cases am:arr e with
     |true=>
      have:=cnt_mono (S:=S) (left:=left) (show left.getD (S.to b) 0<=left.getD e 0 by omega);simp only[Qrn,if_true,Bool.false_eq_true,if_false];omega
     |false=>
      have:=a2 am;have:=cnt_lt (S:=S) (left:=left) (show left.getD (S.to b) 0<left.getD e 0 by omega) aa rfl b1;simp only[QrA,if_true,Bool.false_eq_true,if_false];omega
    cases c with
    |zero=>omega
    |succ c=>
     obtain⟨p,g,ak,hq⟩:=way_loop h al d f c m (S.to b) (j++[b]) aa I I Q3 b1;refine⟨b::p,⟨hp,hb,ac,by rw[ht];exact g⟩,Nat.succ_le_succ ak,?_⟩;rw[ht,hq,Qrl];rfl
  ·have:=h.lf.nn e he;have ai:left.getD e 0=0:=I
   exact⟨[],ai,Nat.zero_le _,by rw[d m e j he ai,Qrs]⟩
end Sv
def Cx.sv(X:Cx)(per:Int)(A:LL)(tl:Y Int)(to:Int):Sv:=⟨2*X.N,λj=>XA tl per (A.getD j []),λj=>(tto A j).toNat,λe=>lvF A A.length e,λe=>bif ((if e % 2=0 then(1:Int)else 2) == 2)then X.s1 e == to else false⟩
theorem Q9Z{A:LL}{i e j:Nat}:j∈lvF A i e↔j<i/\Qbg A e j=true:=by
 unfold lvF;rw[List.mem_filter,QrE]
theorem Q0c{l:Y Nat}{i j:Nat}(h:l[i]? = some j):Qi (Gu l) (i:Int)=some [Ql (j:Int)]:=by
 rw[Qt];unfold Gu;rw[Qrp,h];rfl
theorem R9{l:Y Nat}:(Gu l).length=l.length:=by simp[Gu]
namespace Cx
variable{X:Cx} {per:Int} {Ch Sy A:LL} {tl:Y Int} (g:X.Gd per Ch Sy A tl)
include g
theorem Gd.go{r:Y D}(hr:r∈A):∃kd f t mn mx w:Int,r=[Ql kd,Ql f,Ql t,Ql mn,Ql mx,Ql w]/\(kd=1/\f % 2=0/\t % 2=1/\1<=mn\/(kd=2\/kd=3)/\f % 2=1/\t % 2=0/\0<=mn\/kd≠1/\kd≠2/\kd≠3):=by
 obtain⟨H,rfl,hH⟩:=g.act;have h:=g.ok;rcases Qrj.1 hr with hr | hr
 ·rcases Qrj.1 hr with hr | hr
  ·rcases Qrj.1 hr with hr | hr
   ·rcases Qrj.1 hr with hr | hr
    ·obtain⟨i,k,hi,hk,h⟩:=Q6z hr;rcases h with rfl | ⟨c,rfl⟩
     ·exact⟨_,_,_,_,_,_,rfl,.inl ⟨rfl,I,I,run_pos h hi hk⟩⟩
     ·exact⟨_,_,_,_,_,_,rfl,.inr (.inl ⟨.inl rfl,I,I,(rd h hi hk).mn0⟩)⟩
    ·obtain⟨row,aa,rfl⟩:=Qrr.1 hr;obtain⟨f,fr,t,tr,mn,mx,w,rfl,_,_,_,_,ac,_⟩:=g.ls.ch row aa;exact⟨_,_,_,mn,mx,w,rfl,.inr (.inl ⟨.inr rfl,I,I,ac.1⟩)⟩
   ·obtain⟨t,ht,rfl⟩:=Qrr.1 hr;exact⟨_,_,_,_,_,_,rfl,.inr (.inr I)⟩
  ·obtain⟨row,aa,rfl⟩:=Qrr.1 hr;obtain⟨o,rfl,_⟩:=g.ls.sy row aa;exact⟨_,_,_,o,o,0,rfl,.inr (.inr I)⟩
 ·obtain⟨a,b,w,rfl⟩:=hH r hr;exact⟨_,_,_,_,_,_,rfl,.inr (.inr I)⟩
theorem Gd.at{j:Nat}(hj:j<A.length):∃r,A[j]? = some r/\r∈A/\A.getD j []=r/\r[0]? = some (Ql (knd A j))/\r[1]? = some (Ql (frm A j))/\r[2]? = some (Ql (tto A j))/\(0<=frm A j/\frm A j<(2*X.N:Nat))/\(0<=tto A j/\tto A j<(2*X.N:Nat))/\(r[3]?).isSome=true/\(r[4]?).isSome=true/\(r[5]?).isSome=true:=by
 have e:=Qrf hj;have hm:=Qrd e;obtain⟨kd,f,t,mn,mx,w,er,hf,ht,_⟩:=g.row hm;have ek:knd A j=kd:=by unfold knd;rw[e,er]
 have ef:frm A j=f:=by unfold frm;rw[e,er]
 have et:tto A j=t:=by unfold tto;rw[e,er]
 rw[ek,ef,et];exact⟨A[j],e,hm,by rw[Qrh,e];rfl,by rw[er];rfl,by rw[er];rfl,by rw[er];rfl,hf,ht,by rw[er];rfl,by rw[er];rfl,by rw[er];rfl⟩
theorem Gd.use{e j:Nat}(hj:j∈lvF A A.length e){to:Int}:j<A.length/\frm A j=(e:Int)/\0<=(X.sv per A tl to).dur j/\(X.sv per A tl to).dur j<=66000/\(X.sv per A tl to).to j<2*X.N/\((X.sv per A tl to).to j:Int)=tto A j /\
  ((knd A j=1/\e % 2=0/\(X.sv per A tl to).to j % 2=1/\1<=(X.sv per A tl to).dur j)\/((knd A j=2\/knd A j=3)/\e % 2=1/\(X.sv per A tl to).to j % 2=0)):=by
 obtain⟨i,h2⟩:=Q9Z.1 hj;have e1:=Qrf i;have hm:=Qrd e1;obtain⟨kd,f,t,mn,mx,w,er,hk⟩:=g.go hm;obtain⟨r,k,p,n,c,d,h,q,o,_⟩:=g.at i;obtain rfl:A[j]=r:=by rw[e1]at k;injection k
 have hd:=g.dur_rng hm;have p0:=g.p0;have ed:(X.sv per A tl to).dur j=XA tl per A[j]:=by
  show XA tl per (A.getD j [])=_;rw[n]
 have ht:((X.sv per A tl to).to j:Int)=tto A j:=Int.toNat_of_nonneg o.1;rw[er]at c d h;have ek:kd=knd A j:=by simp only[Qr9,Option.some.injEq]at c;injection c
 have ef:f=frm A j:=by simp only[Qre,Qr9,Option.some.injEq]at d;injection d
 have et:t=tto A j:=by simp only[Qre,Qr9,Option.some.injEq]at h;injection h
 have am:mn<=XA tl per A[j]:=by
  rw[er];have:=Qrw (Vx.tat tl t-Vx.tat tl f-mn) (show per≠0 by omega);show mn<=mn+_;omega
 unfold Qbg at h2;rw[Bool.and_eq_true,<- ek,<- ef]at h2;obtain⟨l,m⟩:=h2;have m:f=(e:Int):=by simpa using m
 have an:kd=1\/kd=2\/kd=3:=by
  by_cases a:kd=1
  ·exact .inl a
  ·by_cases b:kd=2
   ·exact .inr (.inl b)
   ·rw[show(kd == 1)=false by simpa using a,show(kd == 2)=false by simpa using b]at l;exact .inr (.inr (by simpa using l))
 rw[<- ef,<- ek];omega
theorem Gd.grOK{to:Int}:(X.sv per A tl to).gr.OK:=⟨λe a ha=>by
 obtain⟨j,hj,rfl⟩:=Qrr.1 ha;have:=g.use hj (to:=to);exact⟨this.2.2.1,this.2.2.2.2.1⟩⟩
theorem Gd.alt{to:Int}:(X.sv per A tl to).Alt λe=>decide (e % 2=1) where
 al:=λe he j hj=>by
  have:=g.use hj (to:=to);rcases this.2.2.2.2.2.2 with⟨_,a,h2,b⟩|⟨_,a,h2⟩
  ·rw[Qrm h2,Qri I];exact⟨rfl,λ_=>b⟩
  ·rw[Qri I,Qrm a];exact⟨rfl,λh=>nomatch h⟩
 en:=λe he=>by
  have he:(bif ((if e % 2=0 then(1:Int)else 2) == 2)then X.s1 e == to else false)=true:=he;by_cases h:e % 2=0
  ·rw[Qrv h]at he;cases he
  ·exact Qrm I
theorem Gd.endsP{to:Int}{e:Nat}(he:e<2*X.N):YM 400 (X.evs X.L) (encI ((List.range (2*X.N)).map X.s1)) (e:Int) to (some:Bool->oP Bool)=some ((X.sv per A tl to).en e):=by
 obtain⟨i,k,c,h2,b,d⟩:=Qgw g.ok he;have e1:(encI ((List.range (2*X.N)).map X.s1))[e]? = some [Ql (X.s1 e)]:=by
  have:=GQ (l:=(List.range (2*X.N)).map X.s1) (i:=e) (a:=X.s1 e) (by simp[he]);rwa [Qt]at this
 unfold YM;rw[Qt,b,Qh,Qr9,Qh,Qj,Qh,XR I (by rw[QP];simp;omega),Qh,Qrb,e1,Qh,Qr9,Qh,Qj,Qh];rfl
def Q0r(S:Sv)(i:Nat):Y Int:=(List.range S.n).map λx=>if x<i/\S.en x=false then -1 else 0
omit g in
theorem Qcq{S:Sv}{i:Nat}(hi:i<S.n)(h:S.en i=false):(Q0r S i).set i (-1)=Q0r S (i+1):=by
 refine QrU λx=>?_
 unfold Q0r;by_cases hx:x<S.n
 ·by_cases e:i=x
  ·subst e;rw[List.getElem?_set_self Q3,Qrp,QrF hi];simp[h]
  ·rw[List.getElem?_set_ne e,Qrp,Qrp,QrF hx];show some (if x<i/\S.en x=false then(-1:Int)else 0)=some (if x<i+1/\S.en x=false then(-1:Int)else 0);congr 1;by_cases h2:x<i
   ·simp[h2,show x<i+1 by omega]
   ·simp[h2,show ¬ x<i+1 by omega]
 ·rw[Qrq Q3,Qrq Q3]
omit g in
theorem Qee{S:Sv}{i:Nat}(h:S.en i=true):Q0r S i=Q0r S (i+1):=by
 unfold Q0r;refine QrO λx _=>?_
 by_cases e:x=i
 ·subst e;simp[h]
 ·by_cases h2:x<i
  ·simp[h2,show x<i+1 by omega]
  ·simp[h2,show ¬ x<i+1 by omega]
theorem Gd.ini{R:Type}{to:Int}{k0:Int->Bool->LL->oP R}(hN:X.N<=6):∀(c m i:Nat),i+c=2*X.N->c<m->QM 400 to ((2*X.N:Nat):Int) (encI ((List.range (2*X.N)).map X.s1)) (X.evs X.L) k0 m (i:Int) (encI (Q0r (X.sv per A tl to) i))=k0 ((2*X.N:Nat):Int) false (encI (Q0r (X.sv per A tl to) (2*X.N)))
 |0,m+1,i,hi,_=>by
  obtain rfl:i=2*X.N:=I
  rw[QM,Qy,Qra]
 |c+1,m+1,i,hi,hm=>by
  have hl:(Q0r (X.sv per A tl to) i).length=2*X.N:=by simp[Q0r,sv]
  rw[QM,Qs I,Qrc,g.endsP I,Qh,QK I];cases he:(X.sv per A tl to).en i with
  |true=>
   rw[Qrn,Qra,Qee he];exact ini hN c m (i+1) I I
  |false=>
   rw[QrA,Qrc,XR I (by rw[QP,hl];omega),Qh,Qrb,Vw I,Qh,Qru];show QM _ _ _ _ _ _ _ _ ((encI _).set i [Ql (-1)])=_;rw[Px,Qcq (show i<(X.sv per A tl to).n by show i<2*X.N;omega) he];exact ini hN c m (i+1) I I
theorem Gd.durAt{to:Int}{j:Nat}(hj:j<A.length):(A.map λr=>[Ql (XA tl per r)])[j]? = some [Ql ((X.sv per A tl to).dur j)]:=by
 rw[Qrp,Qrf hj];show some [Ql (XA tl per A[j])]=some [Ql (XA tl per (A.getD j []))];rw[Qrh,Qrf hj];rfl
omit g in
theorem Az{w:Y Int}{i:Nat}(h:i<w.length):(encI w)[i]? = some [Ql (w.getD i 0)]:=by
 rw[Vw h,Qrh,Qrf h];rfl
theorem Gd.rem2{R:Type}{to:Int}{k0:Bool->Int->Bool->LL->oP R}(hN:X.N<=6){e:Nat}(he:e<2*X.N):∀(ac l:Y Nat) (m i:Nat) (s:Y Int×Bool),l.drop i=ac->i<=l.length->l.length<=400->ac.length<m->(∀j∈ac,j∈lvF A A.length e)->(X.sv per A tl to).gr.Lf s.1->Gr.Ub 66000 s.1 ->
  QC 400 (e:Int) (Gu l) (l.length:Int) (A.map λr=>[Ql (XA tl per r)]) A k0 m s.2 (i:Int) (encI s.1) =
   k0 ((ac.map λj=>((X.sv per A tl to).dur j,(X.sv per A tl to).to j)).foldl (Gr.rl1 e) s).2 (l.length:Int) false (encI ((ac.map λj=>((X.sv per A tl to).dur j,(X.sv per A tl to).to j)).foldl (Gr.rl1 e) s).1)
 |[],l,m+1,i,s,hd,ao,hl,_,_,_,_=>by
  have:=We hd;obtain rfl:i=l.length:=I
  rw[QC,Qy,Qra];rfl
 |j::ac,l,m+1,i,s,hd,ao,hl,hm,hj,hf,hu=>by
  obtain⟨e1,ar,ak⟩:=Yf hd;rw[QrD]at hm;obtain⟨b,t,u,d,f,v,_⟩:=g.use (hj j (.head _)) (to:=to);obtain⟨r,k,y,z,q4,q5,n,q7,q8,_⟩:=g.at b;have aa:s.1.length=2*X.N:=hf.len;have ub:=λx:Nat=>Gr.Ub.le Q1 hu x
  rw[aa]at ub;have ae:=hf.nn e he;have ag:=hf.nn _ f;have b1:=ub e;have b2:=ub ((X.sv per A tl to).to j);have a1:inB (List.length (encI s.1)) (tto A j)=some ():=XR I (by rw[QP,aa];omega);have a2:inB (List.length (encI s.1)) (e:Int)=some ():=XR I (by rw[QP,aa];omega);have o:inB (List.length (A.map λr=>[Ql (XA tl per r)])) (j:Int)=some ():=XR I Q3;have aw:(tto A j).toNat=(X.sv per A tl to).to j:=rfl;have p:(encI s.1)[(tto A j).toNat]? = some [Ql (s.1.getD ((X.sv per A tl to).to j) 0)]:=Az (by rw[aa];omega);have q:(encI s.1)[e]? = some [Ql (s.1.getD e 0)]:=Az (by rw[aa];omega);have ai:((X.sv per A tl to).dur j,(X.sv per A tl to).to j)∈(X.sv per A tl to).gr.out e:=Qrr.2 ⟨j,hj j (.head _),rfl⟩;have am:=(Gr.rl1_ok g.grOK he hf ai).1;have an:=Gr.rl1_ub g.grOK he hf hu ai d;have ih:=rem2 (k0:=k0) hN he ac l m (i+1) (Gr.rl1 e s ((X.sv per A tl to).dur j,(X.sv per A tl to).to j)) ar I hl I (λx hx=>hj x (.tail _ hx)) am an;rw[List.map_cons,QrR,<- ih,QC,Qs ak,Qrc,Q0c e1];simp -implicitDefEqProofs only[Qh,Qr9,Qj,Qt,k,n,a1,a2,o,p,q,Qrb,g.durAt b (to:=to),QK (show i<=1000 by omega)];rw[Qo (x:=(X.sv per A tl to).dur j+s.1.getD ((X.sv per A tl to).to j) 0) I I];obtain⟨left,c⟩:=s;unfold Gr.rl1;dsimp only at *
  by_cases a:left.getD ((X.sv per A tl to).to j) 0 = -1
  ·rw[Qrv a,show(left.getD ((X.sv per A tl to).to j) 0 == -1)=true by simpa using a,Qrc]
  rw[Qrz a,show(left.getD ((X.sv per A tl to).to j) 0 == -1)=false by simpa using a,Qra];have hb:(bif (left.getD e 0 == -1)then true else decide ((X.sv per A tl to).dur j+left.getD ((X.sv per A tl to).to j) 0<left.getD e 0))=decide (left.getD e 0 = -1\/(X.sv per A tl to).dur j+left.getD ((X.sv per A tl to).to j) 0<left.getD e 0):=by
   by_cases h2:left.getD e 0 = -1
   ·rw[show(left.getD e 0 == -1)=true by simpa using h2,Qrm (Or.inl h2)];rfl
   ·rw[show(left.getD e 0 == -1)=false by simpa using h2,Qra];exact decide_eq_decide.2 ⟨.inr,λh=>h.resolve_left h2⟩
  rw[hb];by_cases h2:left.getD e 0 = -1\/(X.sv per A tl to).dur j+left.getD ((X.sv per A tl to).to j) 0<left.getD e 0
  ·rw[Qrv h2,Qrm h2,Qrc,Qru];show QC _ _ _ _ _ _ _ _ _ _ ((encI left).set e [Ql _])=_;rw[Px]
  ·rw[Qrz h2,Qri h2,Qra]
end Cx
namespace Cx
variable{X:Cx} {per:Int} {Ch Sy A:LL} {tl:Y Int} (g:X.Gd per Ch Sy A tl)
theorem Q9Y{e:Nat}(he:e<2*X.N):(X.lvs A)[e]? = some [.sl 1 (Gu (lvF A A.length e))]:=by
 unfold lvs;rw[Qrp,QrF he];rfl
theorem Q6p:(X.lvs A).length=2*X.N:=by simp[lvs]
include g
theorem Gd.hU{to:Int}:∀e,∀a∈(X.sv per A tl to).gr.out e,a.1<=66000:=λe a ha=>by
 obtain⟨j,hj,rfl⟩:=Qrr.1 ha;exact(g.use hj (to:=to)).2.2.2.1
theorem Gd.rem3{R:Type}{to:Int}{k0:Bool->Int->Bool->LL->oP R}(hN:X.N<=6):∀(ac:Y Nat) (m i:Nat) (s:Y Int×Bool),(List.range (2*X.N)).drop i=ac->i<=2*X.N->ac.length<m->(X.sv per A tl to).gr.Lf s.1->Gr.Ub 66000 s.1 ->
  Xh 400 ((2*X.N:Nat):Int) (X.lvs A) (A.map λr=>[Ql (XA tl per r)]) A k0 m s.2 (i:Int) (encI s.1) =
   k0 (ac.foldl (X.sv per A tl to).gr.rlE s).2 ((2*X.N:Nat):Int) false (encI (ac.foldl (X.sv per A tl to).gr.rlE s).1)
 |[],m+1,i,s,hd,hi,_,_,_=>by
  have:=We hd;rw[QrM]at this;obtain rfl:i=2*X.N:=I
  rw[Xh,Qy,Qra];rfl
 |e::ac,m+1,i,s,hd,hi,hm,hf,hu=>by
  obtain⟨e1,ai,aa⟩:=Yf hd;rw[QrM]at aa;rw[QrF aa]at e1;obtain rfl:i=e:=by injection e1
  rw[QrD]at hm;have hl:=Q3z A A.length i;have hA:=g.len;have h2:=Gr.rlE_ub g.grOK (show i<(X.sv per A tl to).gr.n from aa) ((X.sv per A tl to).gr.out i) (λa ha=>⟨ha,g.hU i a ha⟩) s hf hu;have ih:=rem3 (k0:=k0) hN ac m (i+1) ((X.sv per A tl to).gr.rlE s i) ai I I h2.1 h2.2;rw[QrR,<- ih,Xh,Qs aa,Qrc,XR I (by rw[Q6p];omega),Qh,Qrb,Q9Y aa,Qh,Qr9,Qh,X6,Qh,R9,QK I];exact g.rem2 hN aa (lvF A A.length i) (lvF A A.length i) 400 0 s rfl I I I (λj hj=>hj) hf hu
theorem Gd.remP(to:Int):∃left:Y Int,(X.sv per A tl to).Fin left/\(∀e,left.getD e 0<=792000)/\XF 400 (X.evs X.L) A (X.lvs A) (A.map λr=>[Ql (XA tl per r)]) (encI ((List.range (2*X.N)).map X.s1)) to some=some (encI left):=by
 have hN:X.N<=6:=base_le g.ok;have hl:(X.evs X.L).length=2*X.N:=evs_len;have ok:=g.grOK (to:=to);have an:(Q0r (X.sv per A tl to) (2*X.N)).length=2*X.N:=by simp[Q0r,sv]
 have aa:∀e,e<2*X.N->(Q0r (X.sv per A tl to) (2*X.N)).getD e 0=if (X.sv per A tl to).en e=false then -1 else 0:=λe he=>by
  unfold Q0r;rw[Qrh,Qrp,QrF (show e<(X.sv per A tl to).n from he)];show(if e<2*X.N/\(X.sv per A tl to).en e=false then(-1:Int)else 0)=_;simp[he]
 have ai:∀e,e<2*X.N->lo (Q0r (X.sv per A tl to) (2*X.N)) e=bif (X.sv per A tl to).en e then some 0 else none:=λe he=>by
  unfold lo;rw[aa e he];cases (X.sv per A tl to).en e<;>rfl
 have d:(X.sv per A tl to).gr.Lf (Q0r (X.sv per A tl to) (2*X.N)):=⟨an,λe he=>by
  rw[aa e he];split
  ·exact .inl rfl
  ·exact .inr (Int.le_refl 0),λe he=>by
  rw[ai e he];cases hc:(X.sv per A tl to).en e with
  |false=>cases (X.sv per A tl to).gr.T e<;>trivial
  |true=>exact(X.sv per A tl to).gr.T_end ok he hc⟩
 have f:Gr.Ub 66000 (Q0r (X.sv per A tl to) (2*X.N)):=λe=>by
  have:(Q0r (X.sv per A tl to) (2*X.N)).getD e 0<=0:=by
   by_cases he:e<2*X.N
   ·rw[aa e he];split<;>omega
   ·rw[Qrh,Qrq I];exact Int.le_refl 0
  omega
 have d0:∀e,e<(X.sv per A tl to).gr.n->leO (lo (Q0r (X.sv per A tl to) (2*X.N)) e) ((X.sv per A tl to).gr.D 0 e):=λe he=>by
  rw[ai e he,Gr.D];exact leO.refl _
 have am:=Gr.rounds ok (β:=oP LL) (K:=λleft=>some (encI left)) (Q:=Gr.Ub 66000)
  (r:=λm left=>QD 400 (X.lvs A) (A.map λr=>[Ql (XA tl per r)]) A (λb a=>some a) (m+1) true (encI left))
  (λleft hf hu=>(Gr.rlR_ub ok (g.hU (to:=to)) _ (λe he=>QrE.1 he) (left,false) hf hu).2)
  (λm left hf hu=>by
   rw[QD,Qrc];have ac:left.length=2*X.N:=hf.len;rw[QP,ac];have:=g.rem3 (to:=to) (k0:=λi (p:Int) (q:Bool) j=>QD 400 (X.lvs A) (A.map λr=>[Ql (XA tl per r)]) A (λb a=>some a) (m+1) i j) hN (List.range (2*X.N)) 400 0 (left,false) rfl I Q3 hf hu;refine this.trans ?_;show QD _ _ _ _ _ _ ((X.sv per A tl to).gr.rlR left).2 (encI ((X.sv per A tl to).gr.rlR left).1)=_;cases hc:((X.sv per A tl to).gr.rlR left).2 with
   |true=>rw[Qrv rfl]
   |false=>
    rw[Qrz (λh=>nomatch h),QD,Qra])
  (2*X.N) 399 0 (Q0r (X.sv per A tl to) (2*X.N)) (by show 0+2*X.N=2*X.N;omega) I d f d0
 obtain⟨left,c,h2,k,l⟩:=am;have ak:left.length=2*X.N:=c.len;refine⟨left,⟨ok,c,k⟩,λe=>?_,?_⟩
 ·have:=Gr.Ub.le Q1 h2 e;rw[ak]at this;omega
 ·unfold XF;rw[hl,Q4J,Qh,Qrb,XK I,Qh,List.length_replicate];have n:List.replicate (2*X.N) [D.int .i64 (0:Int)]=encI (Q0r (X.sv per A tl to) 0):=by
   unfold Q0r encI;rw[List.map_map];refine QrU λx=>?_
   by_cases hx:x<2*X.N
   ·rw[Qrp,QrF (show x<(X.sv per A tl to).n from hx),List.getElem?_replicate,Qrv hx];simp[Ql]
   ·rw[Qrq Q3,Qrq (by simp[sv];omega)]
  rw[n];have:=g.ini (to:=to) (k0:=λ(s:Int) (t:Bool) o=>QD 400 (X.lvs A) (A.map λr=>[Ql (XA tl per r)]) A (λb a=>some a) 400 true o) hN (2*X.N) 400 0 I I;refine this.trans ?_;exact l
end Cx
end Go.Vx
namespace Go.Vx
variable{R:Type} (n:Nat)
def VF(i:LL)(d:Int)(j:LL)(e:Int)(f g h c:LL)(k0:LL->Int->Int->LL->oP R)(k1:QlL R):QlM R
|0,_=>none
|m+1,b=>bif decide (b<e)then Ql6 R j b λa=>Qc R (Yz n g c i a d some) λp=>bif p then Qc R (Y6 ((f.length+[[Ql a]].length)*8)) λz=>Ql8 R c.length a c a.toNat λs=>QlC R g a λk=>Qlh R h.length k h k.toNat λy=>k0 y (wJ (d-s)) a (f++[[Ql a]])else VF i d j e f g h c k0 k1 m (wJ (b+1))else k1 b (decide (b<e))
def XQ(c d e f:LL)(k0:LL->Int->Bool->LL->oP R):Nat->LL->Int->LL->oP R
|0,_,_,_=>none
|m+1,b,a,g=>bif decide (a>0)then VF n c a b (b.length:Int) g d e f (λh i _ j=>XQ c d e f k0 m h i j) (λk l=>XQ c d e f k0 m b a g) n 0 else k0 b a (decide (a>0)) g
def XP(j k l m:LL)(o:Int)(p q r s t u v a2:LL)(h i:Int)(K:Int->LL->Int->oP R):oP R:=gb true (XZ n j k l m o p q r s t u v a2 (λf=>some (.inl f)) λf g c a d e r6 b x=>some (.inr (f,g,c,a,d,e,r6,b,x))) (.inl 0) λg=>smX g (λc=>bif c !=0 then K 0 [] c else none) λa=>bif a.2.2.2.2.2.2.2.2 !=0 then K 0 [] a.2.2.2.2.2.2.2.2 else Qc R (QE n a.2.2.2.2.2.2.2.1 h i some) λd=>bif d !=0 then K 0 [] d else Qb R a.2.2.2.2.1 λac=>Qc R (XF n a.2.1 a.2.2.1 a.2.2.2.1 ac a.2.2.2.2.2.2.1 i some) λe=>Qc R (Ym n a.2.2.1 a.2.2.2.2.2.1 h some) λr6=>Qc R (Y9 n a.2.2.1 ac e r6 some) λb=>bif b==(-1:Int)then K 0 [] 6 else XQ n e a.2.2.1 a.2.2.2.1 ac (λz aa ab y=>K b y 0) n r6 b []
end Go.Vx
namespace Go.Vx
def bgF(X:Cx)(A:LL)(fr:Int)(i:Nat):Y Nat:=(List.range i).filter λj=>bif knd A j == 1 then X.s0 (frm A j).toNat == fr else false
theorem Qbb{X:Cx}{A:LL}{fr:Int}{i j:Nat}:j∈bgF X A fr i↔j<i/\knd A j=1/\X.s0 (frm A j).toNat=fr:=by
 unfold bgF;rw[List.mem_filter,QrE];cases h:(knd A j == 1)with
 |false=>simp at h;simp[h]
 |true=>simp at h;simp[h]
theorem Q2f(X:Cx)(A:LL)(fr:Int)(i:Nat):(bgF X A fr i).length<=i:=by
 unfold bgF;have:=QrS (λj=>bif knd A j == 1 then X.s0 (frm A j).toNat == fr else false) (List.range i);rwa [QrM]at this
theorem Qcg{X:Cx}{A:LL}{fr:Int}{i:Nat}:bgF X A fr (i+1)=bgF X A fr i++(if (bif knd A i == 1 then X.s0 (frm A i).toNat == fr else false)=true then[i]else[]):=by
 unfold bgF;rw[List.range_succ,List.filter_append];congr 1;rw[List.filter_cons];rfl
theorem Q5y{l:Y Nat}{j:Nat}:Gu l++[[.int .i64 (j:Int)]]=Gu (l++[j]):=by simp[Gu,Ql]
namespace Cx
variable{X:Cx} {per:Int} {Ch Sy A:LL} {tl:Y Int} (g:X.Gd per Ch Sy A tl)
include g
theorem Gd.begP{R:Type}{fr:Int}{k0:Int->Bool->LL->oP R}:∀(c m i:Nat),i+c=A.length->c<m->Xc 400 fr A (A.length:Int) (encI ((List.range (2*X.N)).map X.s0)) k0 m (i:Int) (Gu (bgF X A fr i))=k0 (A.length:Int) false (Gu (bgF X A fr A.length))
 |0,m+1,i,hi,_=>by
  obtain rfl:i=A.length:=I
  rw[Xc,Qy,Qra]
 |c+1,m+1,i,hi,hm=>by
  have hA:=g.len;have aa:i<A.length:=I
  have e:=Qrf aa;have hr:=Qrd e;obtain⟨kd,f,t,mn,mx,w,er,hf,ht,am⟩:=g.row hr;have ek:knd A i=kd:=by unfold knd;rw[e,er]
  have ef:frm A i=f:=by unfold frm;rw[e,er]
  have e1:(encI ((List.range (2*X.N)).map X.s0))[f.toNat]? = some [Ql (X.s0 f.toNat)]:=by
   have:=GQ (l:=(List.range (2*X.N)).map X.s0) (i:=f.toNat) (a:=X.s0 f.toNat) (by rw[Qrp,QrF I];rfl);rwa [Qt]at this
  have hb:inB (List.length (encI ((List.range (2*X.N)).map X.s0))) f=some ():=XR hf.1 (by rw[QP];simp;omega);have hl:=Q2f X A fr i;have ih:=begP (k0:=k0) (fr:=fr) c m (i+1) I I;rw[<- ih,Xc,Qs aa,Qrc,Qt,e,er,Qcg,ek,ef];simp -implicitDefEqProofs only[Qh,Qr9,Qre,Qj,hb,e1,QK (show i<=1000 by omega),XK (show(List.length (Gu (bgF X A fr i))+List.length [[D.int .i64 (i:Int)]])*8<=100000 by rw[R9];simp;omega),Q5y];cases (bif kd == 1 then X.s0 f.toNat == fr else false)with
  |true=>rfl
  |false=>
   rw[Qra,Qrz (λh=>nomatch h),Qrs]
theorem Gd.begQ{R:Type}{fr:Int}(K:LL->oP R):Ym 400 A (encI ((List.range (2*X.N)).map X.s0)) fr K=K (Gu (bgF X A fr A.length)):=
 g.begP (k0:=λb c a=>K a) A.length 400 0 I (by have:=g.len;omega)
def Psg(X:Cx)(A:LL)(l:Y Nat):Prop:=∀j∈l,∃e,j∈lvF A A.length e
theorem Gd.bgPsg{fr:Int}:Psg X A (bgF X A fr A.length):=λj hj=>by
 obtain⟨a,h2,_⟩:=Qbb.1 hj;obtain⟨r,_,_,_,_,_,_,h,_⟩:=g.at a;refine⟨(frm A j).toNat,Q9Z.2 ⟨a,?_⟩⟩;unfold Qbg;rw[h2];simp;omega
omit g in
theorem QhS{e:Nat}:Psg X A (lvF A A.length e):=λj hj=>⟨e,hj⟩
variable{to:Int} {left:Y Int} (hF:(X.sv per A tl to).Fin left) (hb:∀e,left.getD e 0<=792000)
include hF hb
theorem Gd.restAt{e j:Nat}(hj:j∈lvF A A.length e):Qi (encI left) (tto A j)=some [Ql (left.getD ((X.sv per A tl to).to j) 0)] /\ -1<=left.getD ((X.sv per A tl to).to j) 0/\left.getD ((X.sv per A tl to).to j) 0<=792000:=by
 have hl:left.length=2*X.N:=hF.lf.len;obtain⟨c,d,f,h,a,b,_⟩:=g.use hj (to:=to);refine⟨?_,?_,hb _⟩
 ·rw[<- b,Qt,Az (by rw[hl];exact a)]
 ·have:=hF.lf.nn _ a;omega
theorem Gd.tightP{e j:Nat}(hj:j∈lvF A A.length e)(t:Int):Yz 400 A (A.map λr=>[Ql (XA tl per r)]) (encI left) (j:Int) t (some:Bool->oP Bool)=some ((X.sv per A tl to).tight left t j):=by
 obtain⟨a,f,h,i,k,l,_⟩:=g.use hj (to:=to);obtain⟨r,b,m,n,o,p,c,_⟩:=g.at a;obtain⟨d,h2,q⟩:=g.restAt hF hb hj;unfold Yz;rw[Qt,b,Qh,c,Qh,Qj,Qh,d,Qh,Qr9,Qh,Qj,Qh,XR I Q3,Qh,Qrb,g.durAt a (to:=to),Qh,Qr9,Qh,Qj,Qh,Qo (x:=(X.sv per A tl to).dur j+left.getD ((X.sv per A tl to).to j) 0) I I];rfl
theorem Gd.least1{nx:Y Nat}(hn:Psg X A nx)(ak:nx.length<=400):∀(ac:Y Nat) (m i:Nat) (best:Int),nx.drop i=ac->ac.length<m->(best = -1\/∃a∈nx,(X.sv per A tl to).tight left best a=true) ->
  ∃b,((b = -1\/∃a∈nx,(X.sv per A tl to).tight left b a=true)/\(best ≠ -1->b ≠ -1/\b<=best)/\∀j∈ac,left.getD ((X.sv per A tl to).to j) 0 ≠ -1->b ≠ -1/\b<=(X.sv per A tl to).dur j+left.getD ((X.sv per A tl to).to j) 0)/\X4 400 (encI left) (Gu nx) (nx.length:Int) (A.map λr=>[Ql (XA tl per r)]) A (λp y z=>(some p:oP Int)) m best (i:Int)=some b
 |[],m+1,i,best,hd,hm,hv=>by
  have:=We hd;refine⟨best,⟨hv,λh=>⟨h,Int.le_refl _⟩,λj hj=>nomatch hj⟩,?_⟩;rw[X4,show decide ((i:Int)<(nx.length:Int))=false by simpa using this,Qra]
 |j::ac,m+1,i,best,hd,hm,hv=>by
  obtain⟨e1,ao,an⟩:=Yf hd;rw[QrD]at hm;have am:=Qrd e1;obtain⟨e,hj⟩:=hn j am;obtain⟨n,u2,u3,u4,u5,u6,_⟩:=g.use hj (to:=to);obtain⟨r,q,q2,q3,q4,q5,s,_⟩:=g.at n;obtain⟨t,h2,h3⟩:=g.restAt hF hb hj;have u:inB (List.length (A.map λr=>[Ql (XA tl per r)])) (j:Int)=some ():=XR I Q3;rw[X4,Qs an,Qrc,Q0c e1];simp -implicitDefEqProofs only[Qh,Qr9,Qj,Qt,q,s,t,u,Qrb,g.durAt n (to:=to),QK (show i<=1000 by omega)];rw[Qo (x:=(X.sv per A tl to).dur j+left.getD ((X.sv per A tl to).to j) 0) I I];have ih:=λbest=>least1 hn ak ac m (i+1) best ao I
  cases hc:(left.getD ((X.sv per A tl to).to j) 0 == -1)with
  |true=>
   rw[Qrc];obtain⟨b,⟨d,c,f⟩,k⟩:=ih best hv;exact⟨b,⟨d,c,λx hx aa=>by
    rcases QrG.1 hx with rfl | hx
    ·exact absurd (by simpa using hc) aa
    ·exact f x hx aa⟩,k⟩
  |false=>
   rw[Qra];have hc:left.getD ((X.sv per A tl to).to j) 0 ≠ -1:=by simpa using hc
   generalize o:(X.sv per A tl to).dur j+left.getD ((X.sv per A tl to).to j) 0=v at *
   cases hq:(bif best == -1 then true else decide (v<best))with
   |true=>
    rw[Qrc];obtain⟨b,⟨d,c,f⟩,k⟩:=ih v (.inr ⟨j,am,Sv.tight_iff.2 ⟨hc,o⟩⟩);have c:=c I;refine⟨b,⟨d,λl=>?_,λx hx aa=>?_⟩,k⟩
    ·rw[show(best == -1)=false by simpa using l,Qra]at hq;have:=of_decide_eq_true hq;omega
    ·rcases QrG.1 hx with rfl | hx
     ·rw[o];exact c
     ·exact f x hx aa
   |false=>
    rw[Qra];have l:best ≠ -1:=λh=>by rw[h]at hq;cases hq
    rw[show(best == -1)=false by simpa using l,Qra]at hq;have:=of_decide_eq_false hq;obtain⟨b,⟨d,c,f⟩,k⟩:=ih best hv;have y5:=c l;refine⟨b,⟨d,c,λx hx aa=>?_⟩,k⟩;rcases QrG.1 hx with rfl | hx
    ·omega
    ·exact f x hx aa
theorem Gd.best1{R:Type}{k0:LL->Int->Int->LL->oP R}{k1:Int->Bool->oP R}{nx:Y Nat}(hn:Psg X A nx)(ac:nx.length<=400){jr:Y Nat}(aq:jr.length<=1000){t:Int}(c : -1<=t)(d:t<=1000000){a:Nat}:∀(aa:Y Nat) (m i:Nat),nx.drop i=aa->aa.length<m->aa.find? ((X.sv per A tl to).tight left t)=some a ->
  VF 400 (encI left) t (Gu nx) (nx.length:Int) (Gu jr) A (X.lvs A) (A.map λr=>[Ql (XA tl per r)]) k0 k1 m (i:Int)=k0 (Gu ((X.sv per A tl to).lv ((X.sv per A tl to).to a))) (t-(X.sv per A tl to).dur a) (a:Int) (Gu (jr++[a]))
 |[],m+1,i,hd,hm,hv=>nomatch hv
 |j::aa,m+1,i,hd,hm,hv=>by
  obtain⟨e1,ao,am⟩:=Yf hd;rw[QrD]at hm;have an:=Qrd e1;obtain⟨e,hj⟩:=hn j an;obtain⟨b,o,p,q,s,u,_⟩:=g.use hj (to:=to);obtain⟨r,f,v,y,z,q5,h,_⟩:=g.at b;rw[VF,Qs am,Qrc,Q0c e1,Qh,Qr9,Qh,Qj,Qh,g.tightP hF hb hj,Qh];rw[List.find?_cons]at hv;cases hc:(X.sv per A tl to).tight left t j with
  |false=>
   rw[hc]at hv;rw[Qra,QK I];exact best1 hn ac aq c d aa m (i+1) ao I hv
  |true=>
   rw[hc]at hv;obtain rfl:j=a:=by simpa using hv
   have k:inB (List.length (A.map λr=>[Ql (XA tl per r)])) (j:Int)=some ():=XR I Q3;have l:inB (List.length (X.lvs A)) (tto A j)=some ():=XR I (by rw[Q6p];omega);have n:(X.lvs A)[(tto A j).toNat]? = some [.sl 1 (Gu (lvF A A.length (tto A j).toNat))]:=Q9Y I;rw[Qrc];simp -implicitDefEqProofs only[Qh,Qr9,Qj,Qt,f,h,k,l,n,X6,Qrb,g.durAt b (to:=to),XK (show(List.length (Gu jr)+List.length [[D.int .i64 (j:Int)]])*8<=100000 by rw[R9];simp;omega),Q5y];rw[Qo (x:=t-(X.sv per A tl to).dur j) I I];rfl
end Cx
namespace Cx
variable{X:Cx} {per:Int} {Ch Sy A:LL} {tl:Y Int} (g:X.Gd per Ch Sy A tl)
section
variable{to:Int} {left:Y Int} (hF:(X.sv per A tl to).Fin left) (hb:∀e,left.getD e 0<=792000)
include g hF hb
theorem Gd.leastP{nx:Y Nat}(hn:Psg X A nx)(ac:nx.length<400):∃b,(b = -1\/∃a∈nx,(X.sv per A tl to).tight left b a=true)/\(∀j∈nx,left.getD ((X.sv per A tl to).to j) 0 ≠ -1->b ≠ -1/\b<=(X.sv per A tl to).dur j+left.getD ((X.sv per A tl to).to j) 0)/\Y9 400 A (A.map λr=>[Ql (XA tl per r)]) (encI left) (Gu nx) (some:Int->oP Int)=some b:=by
 unfold Y9;rw[R9];obtain⟨b,⟨c,_,h2⟩,d⟩:=g.least1 hF hb hn I nx 400 0 (-1) rfl I (.inl rfl);exact⟨b,c,h2,d⟩
theorem Gd.best2{R:Type}{K0:LL->oP R}:∀(m e:Nat) (j:Y Nat),e<2*X.N->left.getD e 0=0->XQ 400 (encI left) A (X.lvs A) (A.map λr=>[Ql (XA tl per r)]) (λ_ _ _ w=>K0 w) (m+1) (Gu (lvF A A.length e)) (left.getD e 0) (Gu j)=K0 (Gu j):=λm e j he a=>by
 rw[a,XQ];rfl
theorem Gd.best3{R:Type}{k0:LL->Int->Bool->LL->oP R}{nx:Y Nat}(hn:Psg X A nx)(ac:nx.length<400){m:Nat}{t:Int}{j:Y Nat}{a:Nat}(b:0<t)(c:t<=1000000)(hj:j.length<=400)(hf:nx.find? ((X.sv per A tl to).tight left t)=some a):XQ 400 (encI left) A (X.lvs A) (A.map λr=>[Ql (XA tl per r)]) k0 (m+1) (Gu nx) t (Gu j)=XQ 400 (encI left) A (X.lvs A) (A.map λr=>[Ql (XA tl per r)]) k0 m (Gu (lvF A A.length ((X.sv per A tl to).to a))) (t-(X.sv per A tl to).dur a) (Gu (j++[a])):=by
 rw[XQ,show decide (t>0)=true from Qrm b,Qrc,R9];exact g.best1 hF hb hn I I I c nx 400 0 rfl I hf
theorem Gd.best4{R:Type}{K0:LL->oP R}{nx:Y Nat}(hn:Psg X A nx)(ac:nx.length<400){t:Int}(b:0<t)(ht:∃a∈nx,(X.sv per A tl to).tight left t a=true):∃p,Sv.Way (X.sv per A tl to) left nx t p/\(p≠[]/\p.length<=40)/\XQ 400 (encI left) A (X.lvs A) (A.map λr=>[Ql (XA tl per r)]) (λ_ _ _ w=>K0 w) 400 (Gu nx) t (Gu [])=K0 (Gu p):=by
 have hN:X.N<=6:=base_le g.ok;have hA:=g.len;obtain⟨x,hx,ak⟩:=ht;cases hf:nx.find? ((X.sv per A tl to).tight left t)with
 |none=>exact absurd ak (List.find?_eq_none.1 hf x hx)
 |some a=>
  have hm:=QrH hf;have ai:=List.find?_some hf;obtain⟨b1,b2⟩:=Sv.tight_iff.1 ai;obtain⟨e,am⟩:=hn a hm;obtain⟨d,f,i,k,c,l,_⟩:=g.use am (to:=to);have aw:=hb ((X.sv per A tl to).to a);have an:=Sv.cnt_le (S:=X.sv per A tl to) (left:=left) (t:=left.getD ((X.sv per A tl to).to a) 0);have ar:(X.sv per A tl to).n=2*X.N:=rfl;obtain⟨p,hp,ao,hq⟩:=Sv.way_loop hF (g.alt (to:=to)) (B:=400)
   (r:=λm t nx j=>XQ 400 (encI left) A (X.lvs A) (A.map λr=>[Ql (XA tl per r)]) (λ_ _ _ w=>K0 w) m (Gu nx) t (Gu j)) (K:=λj=>K0 (Gu j))
   (λm e j he h=>g.best2 hF hb m e j he h)
   (λm e j a he h hj hf=>g.best3 hF hb QhS (QrQ (Q3z A A.length e) hA) h (by have:=hb e;omega) I hf)
   30 399 ((X.sv per A tl to).to a) [a] c (by split<;>omega) I Q2 b1
  refine⟨a::p,⟨b,hm,ai,?_⟩,⟨by simp,by simp;omega⟩,?_⟩
  ·rw[show t-(X.sv per A tl to).dur a=left.getD ((X.sv per A tl to).to a) 0 by omega];exact hp
  ·rw[g.best3 hF hb hn ac b I Q2 hf,show t-(X.sv per A tl to).dur a=left.getD ((X.sv per A tl to).to a) 0 by omega];exact hq
end
end Cx
end Go.Vx
namespace Go.Vx
variable{R:Type} (n:Nat)
end Go.Vx
namespace Go.Vx
namespace Cx
variable{X:Cx} {per:Int} {Ch Sy A:LL} {tl:Y Int}
section
variable(g:X.Gd per Ch Sy A tl) {a0 a1 a3 a5:LL} {b:LL} {c d f:LL} (hbd:YY 400 a0 a1 X.G.Se a3 per a5 X.Ro X.Ls b c d f Tu4=some (per,X.evs X.L,A,0)) (hfe:Xp 400 per (X.evs X.L) A (encI tl) (some:Bool->oP Bool)=some true)
structure Leg(X:Cx)(per:Int)(A:LL)(tl:List Int)(fr to:Int)(left:List Int)(b:Int):Prop where
 fin:(X.sv per A tl to).Fin left
 le:∀e,left.getD e 0<=792000
 rem:XF 400 (X.evs X.L) A (X.lvs A) (A.map λr=>[Ql (XA tl per r)]) (encI ((List.range (2*X.N)).map X.s1)) to some=some (encI left)
 beg:Ym 400 A (encI ((List.range (2*X.N)).map X.s0)) fr some=some (Gu (bgF X A fr A.length))
 lst:Y9 400 A (A.map λr=>[Ql (XA tl per r)]) (encI left) (Gu (bgF X A fr A.length)) (some:Int->oP Int)=some b
 lea:∀j∈bgF X A fr A.length,left.getD ((X.sv per A tl to).to j) 0 ≠ -1->b ≠ -1/\b<=(X.sv per A tl to).dur j+left.getD ((X.sv per A tl to).to j) 0
 sgn:b = -1\/0<b/\∃a∈bgF X A fr A.length,(X.sv per A tl to).tight left b a=true
include g
theorem Gd.leg(fr to:Int):∃left b,X.Leg per A tl fr to left b:=by
 obtain⟨left,c,h2,d⟩:=g.remP to;have hA:=g.len;obtain⟨b,f,h6,h5⟩:=g.leastP c h2 (g.bgPsg (fr:=fr)) (QrQ (Q2f X A fr A.length) hA);refine⟨left,b,c,h2,d,g.begQ some,h5,h6,f.imp id λ⟨a,ha,ht⟩=>⟨?_,a,ha,ht⟩⟩;obtain⟨b1,b2⟩:=Sv.tight_iff.1 ht;obtain⟨e,aa⟩:=g.bgPsg a ha;obtain⟨i,j,k,l,h,m,n⟩:=g.use aa (to:=to);have hk:=(Qbb.1 ha).2.1;have:=c.lf.nn _ h;omega
include hbd hfe
theorem Gd.bestP{fr to:Int}(k:0<=fr)(l:fr<(a0.length:Nat))(t0:0<=to)(t1:to<(a0.length:Nat))(ft:fr≠to){left:Y Int}{b':Int}(h:X.Leg per A tl fr to left b') :
  b' = -1/\XP 400 a0 a1 X.G.Se a3 per a5 X.Ro X.Ls b c d f (encI tl) fr to Tu3=some (0,[],6) \/
   0<b'/\∃p,Sv.Way (X.sv per A tl to) left (bgF X A fr A.length) b' p/\(p≠[]/\p.length<=40)/\XP 400 a0 a1 X.G.Se a3 per a5 X.Ro X.Ls b c d f (encI tl) fr to Tu3=some (b',Gu p,0):=by
 have hA:=g.len;have hc:QE 400 (a0.length:Int) fr to (some:Int->oP Int)=some 0:=by
  unfold QE;rw[Qri I,Qri I,Qri I,Qri I,show(fr == to)=false by simpa using ft];rfl
 have hb:∀x,XP 400 a0 a1 X.G.Se a3 per a5 X.Ro X.Ls b c d f (encI tl) fr to Tu3=x↔(bif (b' == (-1:Int))then some ((0:Int),[],(6:Int))else XQ 400 (encI left) A (X.lvs A) (A.map λr=>[Ql (XA tl per r)]) (λm n o a=>some (b',a,(0:Int))) 400 (Gu (bgF X A fr A.length)) b' [])=x:=λx=>by
  unfold XP;rw[g.svcP hbd hfe,Qh];dsimp only[smX];rw[bne_self_eq_false,Qra,hc,Qh,bne_self_eq_false,Qra,h.rem,Qh,h.beg,Qh,h.lst,Qh]
 rcases h.sgn with e | ⟨e,ht⟩
 ·refine .inl ⟨e,(hb _).2 ?_⟩;rw[e];rfl
 ·refine .inr ⟨e,?_⟩;obtain⟨p,i,h2,j⟩:=g.best4 h.fin h.le (K0:=λw=>some (b',w,(0:Int))) (g.bgPsg (fr:=fr)) (QrQ (Q2f X A fr A.length) hA) e ht;refine⟨p,i,h2,(hb _).2 ?_⟩;rw[show(b' == (-1:Int))=false by simp;omega,Qra];exact j
end
end Cx
end Go.Vx
namespace Go.Vx
variable{R:Type} (n:Nat)
def H8(K:QlP R):oP R:=gb true (FW n Tu12) ([],[],[],[],0,[],[],[],[],[],[],[]) λa=>Qb R a.2.2.2.2.2.2.2.2.2.2.2 λg=>Qb R a.2.2.2.2.2.2.2.2.2.2.1 λh=>Qb R a.2.2.2.2.2.2.2.2.2.1 λi=>Qb R a.2.2.2.2.2.2.2.2.1 λj=>Qb R a.2.2.2.2.2.2.2.1 λk=>Qb R a.2.2.2.2.2.2.1 λl=>Qb R a.2.2.2.2.2.1 λo=>Qb R a.2.2.2.2.1 λp=>Qb R a.2.2.2.1 λq=>gb true (Vm n a.1 a.2.1 a.2.2.1 q p o l k j i h g (some (.inl ())) λb=>some (.inr b)) (.inl ()) λc=>smX c (λf=>gb true (XP n a.1 a.2.1 a.2.2.1 q p o l k j i h g [] 2 0 Tu3) (0,[],0) λd=>K (d.2.2==6)) λe=>gb true (XP n a.1 a.2.1 a.2.2.1 q p o l k j i h g e 2 0 Tu3) (0,[],0) λr6=>K (r6.2.2==6)
end Go.Vx
namespace Go.Vx
namespace Cx
variable{X:Cx} {per:Int} {Ch Sy A:LL} {tl:Y Int}
section
variable(g:X.Gd per Ch Sy A tl) {a0 a1 a3 a5:LL} {b:LL} {c d f:LL} (hbd:YY 400 a0 a1 X.G.Se a3 per a5 X.Ro X.Ls b c d f Tu4=some (per,X.evs X.L,A,0)) (hfe:Xp 400 per (X.evs X.L) A (encI tl) (some:Bool->oP Bool)=some true) (hD:∀row∈f,Qh2 a0.length row)
include g hbd hfe hD
end
end Cx
theorem Q7r:H8 410 (some:Bool->oP Bool)=some true:=by kernel_rfl
section
variable{n:Nat} {a0 a1 a2 a3:LL} {p:Int} {b1 b2 b3 b4 b5 b6 b7:LL}
theorem Q9d{q:Int}{E A:LL}{e:Int}(hb:J1 n a0 a1 a2 a3 p b1 b2 b3 b4 b5 b6 b7 Tu4=some (q,E,A,e))(h:e≠0\/∃us f,Zw n q E A 4000 (λa b=>some (.inl (a,b))) (λa b c=>some (.inr (a,b,c)))=some (.inl (us,f):(Int×Int) ⊕ (LL×Int×Int))) :
  Vm n a0 a1 a2 a3 p b1 b2 b3 b4 b5 b6 b7 (some (.inl ())) (λa=>some (.inr a))=some (.inl ():Unit ⊕ LL):=by
 unfold Vm;rw[hb,Qh];dsimp only;rcases h with h | ⟨us,f,h⟩
 ·rw[show(e != 0)=true by simpa using h,Qrc]
 ·cases he:(e != 0)with
  |true=>rfl
  |false=>rw[Qra,h];rfl
theorem QhX{q:Int}{E A:LL}{v:LL}{us:Int}(hb:J1 n a0 a1 a2 a3 p b1 b2 b3 b4 b5 b6 b7 Tu4=some (q,E,A,0))(h:Zw n q E A 4000 (λa b=>some (.inl (a,b))) (λa b c=>some (.inr (a,b,c)))=some (.inr (v,us,0):(Int×Int) ⊕ (LL×Int×Int))) :
  Vm n a0 a1 a2 a3 p b1 b2 b3 b4 b5 b6 b7 (some (.inl ())) (λa=>some (.inr a))=some (.inr v:Unit ⊕ LL):=by
 unfold Vm;rw[hb,Qh];dsimp only;rw[bne_self_eq_false,Qra,h];rfl
end
theorem Qek{per:Int}{E A:LL}(p0:2<=per)(p1:per<=300)(hE:E.length<=48)(aa:A.length<=512)(ak:0<E.length)(hr:∀r∈A,R6 r)(hA:A.length<400):Xp 400 per E A [] (some:Bool->oP Bool)=some false:=by
 have hg:=(Qcj p0 p1 hE aa hr hA (tl:=[])).1;have hb:Q3P per E A []=false:=by
  unfold Q3P;rw[show(((([]:Y Int).length:Nat):Int) != (E.length:Int))=true by simp;omega];cases A.all (chk per E.length)<;>rfl
 rw[hb]at hg;unfold Xp Gy;rw[show([]:LL)=encI []from rfl,hg];rfl
theorem Qk4{n:Nat}{a0 a1 a2 a3:LL}{p:Int}{b1 b2 b3 b4 b5 b6 b7:LL}{q:Int}{E A:LL}{e:Int}(hb:YY n a0 a1 a2 a3 p b1 b2 b3 b4 b5 b6 b7 Tu4=some (q,E,A,e))(h:e≠0\/Xp n q E A [] (some:Bool->oP Bool)=some false) :
  ∃e:Int,e≠0/\∀(R:Type) (KA:Int->oP R) KB,XZ n a0 a1 a2 a3 p b1 b2 b3 b4 b5 b6 b7 [] KA KB=KA e:=by
 by_cases he:e=0
 ·subst he;refine⟨1,by decide,λR KA KB=>?_⟩;unfold XZ;rw[hb,Qh,bne_self_eq_false,Qra,h.resolve_left (λh=>h rfl),Qh];rfl
 ·refine⟨e,he,λR KA KB=>?_⟩;unfold XZ;rw[hb,Qh,show(e != 0)=true by simpa using he,Qrc]
theorem QiN{l:Y Int}(hl:l.length<=9223372036854775807):∃(X:Cx) (per:Int) (Ch Sy De:LL),X.OK/\(∀row∈De,Qh2 X.G.St.length row)/\De.length<=2/\2<=X.G.St.length/\X.G.St.length<=3 /\
  SL 400 (encI l) Tu12=some (X.G.St,X.G.Pt,X.G.Se,X.G.Li,per,X.skR,X.Ro,X.Ls,Ch,X.T.map tuR,Sy,De) /\
  (Vm 400 X.G.St X.G.Pt X.G.Se X.G.Li per X.skR X.Ro X.Ls Ch (X.T.map tuR) Sy De (some (.inl ())) (λa=>some (.inr a))=some (.inl ():Unit ⊕ LL)/\(∃e:Int,e≠0/\∀(R:Type) (KA:Int->oP R) KB,XZ 400 X.G.St X.G.Pt X.G.Se X.G.Li per X.skR X.Ro X.Ls Ch (X.T.map tuR) Sy De [] KA KB=KA e)/\(∃v,J1 400 X.G.St X.G.Pt X.G.Se X.G.Li per X.skR X.Ro X.Ls Ch (X.T.map tuR) Sy De Tu4=some v) \/
   ∃(A:LL) (tl:Y Int),Vm 400 X.G.St X.G.Pt X.G.Se X.G.Li per X.skR X.Ro X.Ls Ch (X.T.map tuR) Sy De (some (.inl ())) (λa=>some (.inr a))=some (.inr (encI tl):Unit ⊕ LL)/\tl≠[]/\X.Gd per Ch Sy A tl /\
    YY 400 X.G.St X.G.Pt X.G.Se X.G.Li per X.skR X.Ro X.Ls Ch (X.T.map tuR) Sy De Tu4=some (per,X.evs X.L,A,0) /\
    J1 400 X.G.St X.G.Pt X.G.Se X.G.Li per X.skR X.Ro X.Ls Ch (X.T.map tuR) Sy De Tu4=some (per,X.evs X.L,A,0) /\
    Xp 400 per (X.evs X.L) A (encI tl) (some:Bool->oP Bool)=some true/\Sn 400 per (X.evs X.L) A (encI tl) (some:Bool->oP Bool)=some true/\Fs per tl A):=by
 have hp:SL 400 (encI l) Tu12∈(λr=>∃(G:Geo) (per:Int) (Sk Ro Ls Ch Tu Sy De:LL),PlanR G per Sk Ro Ls Ch Tu Sy De/\r=(G.St,G.Pt,G.Se,G.Li,per,Sk,Ro,Ls,Ch,Tu,Sy,De)):=Qjm hl λG per Sk Ro Ls Ch Tu Sy De h=>okI ⟨G,per,Sk,Ro,Ls,Ch,Tu,Sy,De,h,rfl⟩
 obtain⟨_,hp,G,per,Sk,Ro,Ls,Ch,Tu,Sy,De,hR,rfl⟩:=hp;obtain⟨X,h,rfl,rfl,rfl,rfl,rfl⟩:=hR.cx;have ak:=hR.lsOK;have p0:2<=per:=by have:=hR.p0;omega
 have p1:=hR.p1;have hc:Jt 400 X.G.St X.G.Pt X.G.Se X.G.Li per X.skR X.Ro X.Ls Ch (X.T.map tuR) Sy De (some:Int->oP Int)=some 0:=Qel hR some;have x:Wm 400 X.G.St X.G.Pt X.G.Se X.G.Li per X.skR X.Ro X.Ls Ch (X.T.map tuR) Sy De (some:Int->oP Int)=some 0:=Qj5 hR;have hN:X.N<=6:=Cx.base_le h;have an:=Cx.buildP h ak p0 p1 hc;have aa:=Cx.buildR h ak p0 p1 x;have a4:=hR.ok.st;have y:=hR.ok.hN;refine⟨X,per,Ch,Sy,De,h,by rw[a4];exact hR.de,hR.del,I,I,hp,?_⟩;cases ev:X.netV per X.jns Ch Sy with
 |mk q r=>
 obtain⟨E,A,e⟩:=r;rw[ev]at an aa;by_cases he:e=0
 rotate_left
 ·exact .inl ⟨Q9d aa (.inl he),Qk4 an (.inl he),_,aa⟩
 subst he;unfold Cx.netV at ev;cases ha:X.aloneJ per X.jns with
 |false=>
  rw[ha]at ev;cases ev
 |true=>
  rw[ha,Qrc]at ev;cases eh:X.hdws per X.jns X.N 0 with
  |none=>
   rw[eh]at ev;cases ev
  |some H=>
   rw[eh]at ev;cases ev;have hH:=Cx.hdws_rows eh;have a8:=Cx.planned_len h ak;have a7:=Cx.hdws_len h p0 p1 I eh;have hA:(X.planned Ch Sy++H).length<400:=by rw[Qrx];omega
   have ai:(X.evs X.L).length=2*X.N:=Cx.evs_len;have hE:(X.evs X.L).length<=48:=I
   have f:∀r∈X.planned Ch Sy++H,R6 r:=λr hr=>Cx.act_r6 h ak hH hr
   have a9:1<=X.N:=by
    have l0:=h.l0;have hn:=(Cx.line h (i:=0) I).2.1;have hb:=SI (nr:=X.nr) (i:=0) (j:=X.L) (show 0<X.L by unfold Cx.L;omega);show 1<=base X.nr X.L;omega
   have ar:=Qk4 an (.inr (Qek p0 p1 hE I I f hA));have ao:=Qdx p0 p1 hE I f hA;cases ac:(X.planned Ch Sy++H).all (chk per (X.evs X.L).length)with
   |false=>
    rw[ac]at ao;exact .inl ⟨Q9d aa (.inr (Qgh ao)),ar,_,aa⟩
   |true=>
    rw[ac]at ao;have am:=QrP.1 ac;rcases Qiu p0 p1 hE hA f am rfl ao with hf | ⟨v,us,hf,hT,hF⟩
    ·exact .inl ⟨Q9d aa (.inr hf),ar,_,aa⟩
    ·refine .inr ⟨_,v,QhX aa hf,?_,?_,an,aa,?_⟩
     ·intro hv;have u:=hT.1;rw[ai,hv]at u;have u:0=2*X.N:=u;omega
     ·exact⟨h,ak,p0,p1,⟨H,rfl,hH⟩,hA,by rw[hT.1,ai],hT.2,λr hr=>by have:=am r hr;rw[ai]at this;exact this⟩
     ·have hg:=Qcj p0 p1 hE I f hA (tl:=v);rw[Q7l ac hT]at hg;have g:X.Gd per Ch Sy (X.planned Ch Sy++H) v:=⟨h,ak,p0,p1,⟨H,rfl,hH⟩,hA,by rw[hT.1,ai],hT.2,λr hr=>by have:=am r hr;rw[ai]at this;exact this⟩;exact⟨g.feas ai (hF.fs' f am) hg.1,hg.2,hF.fs' f am⟩
theorem QeI{A B C:Type}(a:A)(f:A->C)(g:B->C):smX (.inl a) f g=f a:=rfl
theorem BD{A B C:Type}(b:B)(f:A->C)(g:B->C):smX (.inr b) f g=g b:=rfl
namespace Cx
variable{X:Cx} {per:Int} {Ch Sy A:LL} {tl:Y Int}
theorem Gd.bestEq(g:X.Gd per Ch Sy A tl){a0 a1 a3 i:LL}{b:LL}{c d f:LL}(ac:YY 400 a0 a1 X.G.Se a3 per i X.Ro X.Ls b c d f Tu4=some (per,X.evs X.L,A,0))(aa:Xp 400 per (X.evs X.L) A (encI tl) (some:Bool->oP Bool)=some true){fr:Int}(k:0<=fr)(l:fr<(a0.length:Nat)) :
  XP 400 a0 a1 X.G.Se a3 per i X.Ro X.Ls b c d f (encI tl) fr fr Tu3=some (0,[],4):=by
 have hc:QE 400 (a0.length:Int) fr fr (some:Int->oP Int)=some 4:=by
  unfold QE;rw[Qri I,Qri I,beq_self_eq_true];rfl
 unfold XP;rw[g.svcP ac aa,Qh,BD];dsimp only;rw[bne_self_eq_false,Qra,hc,Qh];rfl
end Cx
def Kn(f:Int->Bool):Prop:=∀k x,PJ f k=some x->1<=x/\x<=1048576
theorem Kn.set{f:Int->Bool}(h:Kn f){k v:Int}(a:1<=v)(b:v<=1048576):Kn (D7 f k v):=λn x hx=>by
 rw[AQ]at hx;split at hx
 ·injection hx with hx;omega
 ·exact h n x hx
theorem Qkw{a b:Int}(a0:0<=a)(a1:a<=1048576)(b0:1<=b)(b1:b<=1048576):∃c,(if (1048576:Int)<wJ (a+b)then(1048576:Int)else wJ (a+b))=c/\1<=c/\c<=1048576:=by
 rw[Qo (x:=a+b) I I];split
 ·exact⟨_,rfl,I,I⟩
 ·exact⟨_,rfl,I,I⟩
namespace Cx
variable{X:Cx} {per:Int} {Ch Sy A:LL} {tl:Y Int} (g:X.Gd per Ch Sy A tl) {to:Int} {left:Y Int} (hF:(X.sv per A tl to).Fin left) (hb:∀e,left.getD e 0<=792000)
def msr(X:Cx)(per:Int)(A:LL)(tl:Y Int)(to:Int)(left:Y Int)(e:Nat):Nat:=2*(X.sv per A tl to).cnt left (left.getD e 0)+(if e % 2=1 then 1 else 0)
include g hF hb
theorem Gd.nearer{e j:Nat}(he:e<2*X.N)(hj:j∈lvF A A.length e)(ht:(X.sv per A tl to).tight left (left.getD e 0) j=true):X.msr per A tl to left ((X.sv per A tl to).to j)<X.msr per A tl to left e:=by
 obtain⟨b1,b2⟩:=Sv.tight_iff.1 ht;obtain⟨d,f,h,i,b,k,c⟩:=g.use hj (to:=to);unfold msr;rcases c with⟨_,a,h2,l⟩|⟨_,a,h2⟩
 ·have:=Sv.cnt_lt (S:=X.sv per A tl to) (left:=left) (show left.getD ((X.sv per A tl to).to j) 0<left.getD e 0 by omega) b rfl b1;rw[Qrv h2,Qrz I];omega
 ·have:=Sv.cnt_mono (S:=X.sv per A tl to) (left:=left) (show left.getD ((X.sv per A tl to).to j) 0<=left.getD e 0 by omega);rw[Qrz I,Qrv a];omega
theorem Gd.tie1{nst:Int}{Fr:LL->Int->Int->LL->LL->LL->LL->LL->LL->Int->LL->(Int->Bool)->Int->oP (Int×Int×LL×LL×LL×LL×LL×LL×Int×LL×Int×(Int->Bool))}{c:Nat}(an:∀e f,e<2*X.N->X.msr per A tl to left e<c->Kn f->0<left.getD e 0->∃s f',Fr (Gu (lvF A A.length e)) (left.getD e 0) per (X.evs X.L) A (X.lvs A) (A.map λr=>[Ql (XA tl per r)]) (encI ((List.range (2*X.N)).map X.s0)) (encI ((List.range (2*X.N)).map X.s1)) nst (encI left) f to =
   some (s,per,X.evs X.L,A,X.lvs A,A.map (λr=>[Ql (XA tl per r)]),encI ((List.range (2*X.N)).map X.s0),encI ((List.range (2*X.N)).map X.s1),nst,encI left,to,f')/\Kn f'/\1<=s/\s<=1048576){R:Type}{k0:Int->Int->Bool->LL->LL->LL->LL->Int->LL->LL->Int->LL->(Int->Bool)->Int->oP R}{nx:Y Nat}(hn:Psg X A nx)(ao:nx.length<=400){t:Int}(hm:∀j∈nx,(X.sv per A tl to).tight left t j=true->X.msr per A tl to left ((X.sv per A tl to).to j)<c) :
  ∀(aa:Y Nat) (i m:Nat) (s:Int) (f:Int->Bool),nx.drop i=aa->i<=nx.length->aa.length<m->Kn f->0<=s->s<=1048576 ->
   ∃s' f',Kn f'/\0<=s'/\s'<=1048576/\(1<=s\/(∃j∈aa,(X.sv per A tl to).tight left t j=true)->1<=s') /\
    QJ 400 Fr t (Gu nx) (nx.length:Int) k0 m s (i:Int) (X.lvs A) (A.map λr=>[Ql (XA tl per r)]) (encI ((List.range (2*X.N)).map X.s0)) (encI ((List.range (2*X.N)).map X.s1)) per (X.evs X.L) A nst (encI left) f to =
     k0 s' (nx.length:Int) false (X.lvs A) (A.map λr=>[Ql (XA tl per r)]) (encI ((List.range (2*X.N)).map X.s0)) (encI ((List.range (2*X.N)).map X.s1)) per (X.evs X.L) A nst (encI left) f' to
 |[],i,m+1,s,f,hd,a6,ar,hk,s0,s1=>by
  have:=We hd;obtain rfl:i=nx.length:=I
  refine⟨s,f,hk,s0,s1,λh=>h.elim id (λ⟨j,hj,_⟩=>nomatch hj),?_⟩;rw[QJ,Qy,Qra]
 |j::aa,i,m+1,s,f,hd,a6,ar,hk,s0,s1=>by
  obtain⟨e1,a2,az⟩:=Yf hd;rw[QrD]at ar;have aq:=Qrd e1;obtain⟨e,hj⟩:=hn j aq;obtain⟨n,u2,u3,u4,a,o,u7⟩:=g.use hj (to:=to);obtain⟨r,p,q2,q3,q4,q5,q,q7,q8,_⟩:=g.at n;have ih:=λ(s:Int) (f:Int->Bool)=>tie1 an (k0:=k0) hn ao hm aa (i+1) m s f a2 I I
  rw[QJ,Qs az,Qrc,Q0c e1,Qh,Qr9,Qh,Qj,Qh,g.tightP hF hb hj,Qh,QK I];cases ht:(X.sv per A tl to).tight left t j with
  |false=>
   obtain⟨s',f',b,h2,d,k,h5⟩:=ih s f hk s0 s1;refine⟨s',f',b,h2,d,λh=>k (h.imp id λ⟨x,hx,am⟩=>?_),h5⟩;rcases QrG.1 hx with rfl | hx
   ·rw[ht]at am;cases am
   ·exact⟨x,hx,am⟩
  |true=>
   obtain⟨b1,b2⟩:=Sv.tight_iff.1 ht;have a3:=hm j aq ht;have fin:∀(x:Int) (f:Int->Bool),1<=x->x<=1048576->Kn f->∃s' f',Kn f'/\0<=s'/\s'<=1048576/\(1<=s\/(∃y∈j::aa,(X.sv per A tl to).tight left t y=true)->1<=s') /\
     QJ 400 Fr t (Gu nx) (nx.length:Int) k0 m (if (1048576:Int)<wJ (s+x)then(1048576:Int)else wJ (s+x)) ((i+1:Nat):Int) (X.lvs A) (A.map λr=>[Ql (XA tl per r)]) (encI ((List.range (2*X.N)).map X.s0)) (encI ((List.range (2*X.N)).map X.s1)) per (X.evs X.L) A nst (encI left) f to =
      k0 s' (nx.length:Int) false (X.lvs A) (A.map λr=>[Ql (XA tl per r)]) (encI ((List.range (2*X.N)).map X.s0)) (encI ((List.range (2*X.N)).map X.s1)) per (X.evs X.L) A nst (encI left) f' to:=λx f u v hk=>by
    obtain⟨c',l,b,h2⟩:=Qkw s0 s1 u v;rw[l];obtain⟨s',f',g1,z,g3,g4,g5⟩:=ih c' f hk I h2;exact⟨s',f',g1,z,g3,λ_=>g4 (.inl b),g5⟩
   rw[Qrn,Qra,Qt,p,Qh,q,Qh,Qj,Qh];dsimp only[jn];cases hq:PJ f (tto A j)with
   |some x=>
    have hx:=hk _ _ hq;exact fin x f hx.1 hx.2 hk
   |none=>
    have ax:=g.endsP (to:=to) a;rw[o]at ax;rw[show(!(none:oP Int).isSome)=true from rfl,Qrc,ax,Qh];cases he:(X.sv per A tl to).en ((X.sv per A tl to).to j)with
    |true=>
     exact fin 1 _ I I (hk.set I I)
    |false=>
     have a7:=hF.lf.nn _ a;have aw:0<left.getD ((X.sv per A tl to).to j) 0:=by
      rcases a7 with h | h
      ·exact absurd h b1
      ·by_cases l:left.getD ((X.sv per A tl to).to j) 0=0
       ·have:=hF.zero (g.alt (to:=to)) a l;rw[he]at this;cases this
       ·omega
     obtain⟨sv,f',b,h2,d,k⟩:=an _ f a a3 hk aw;have a9:(tto A j).toNat=(X.sv per A tl to).to j:=rfl;have a4:inB (List.length (X.lvs A)) (tto A j)=some ():=XR I (by rw[Q6p];omega);have a5:(X.lvs A)[(tto A j).toNat]? = some [.sl 1 (Gu (lvF A A.length ((X.sv per A tl to).to j)))]:=Q9Y a;rw[QrA,Qrc,a4,Qh,a5,Qh,Qr9,Qh,X6,Qh,(g.restAt hF hb hj).1,Qh,Qr9,Qh,Qj,Qh,b,Qh];exact fin sv _ d k (h2.set d k)
theorem Gd.tieF{nst:Int}:∀(c d:Nat) (nx:Y Nat) (t:Int) (f:Int->Bool),c<d->Psg X A nx->nx.length<400->(∀j∈nx,(X.sv per A tl to).tight left t j=true->X.msr per A tl to left ((X.sv per A tl to).to j)<c)->Kn f->(∃j∈nx,(X.sv per A tl to).tight left t j=true) ->
  ∃s f',X9 400 d (Gu nx) t per (X.evs X.L) A (X.lvs A) (A.map λr=>[Ql (XA tl per r)]) (encI ((List.range (2*X.N)).map X.s0)) (encI ((List.range (2*X.N)).map X.s1)) nst (encI left) f to =
   some (s,per,X.evs X.L,A,X.lvs A,A.map (λr=>[Ql (XA tl per r)]),encI ((List.range (2*X.N)).map X.s0),encI ((List.range (2*X.N)).map X.s1),nst,encI left,to,f')/\Kn f'/\1<=s/\s<=1048576
 |c,0,nx,t,f,hd,_,_,_,_,_=>by omega
 |0,d+1,nx,t,f,hd,_,_,hm,_,⟨j,hj,ht⟩=>absurd (hm j hj ht) (Nat.not_lt_zero _)
 |c+1,d+1,nx,t,f,hd,hn,hl,hm,hk,hex=>by
  rw[X9,J8,R9];have hA:=g.len;obtain⟨s',f',b,h2,h,i,h5⟩:=g.tie1 hF hb (nst:=nst) (Fr:=X9 400 d) (c:=c+1) (λe f he ar an hp=>by
   obtain⟨_,a,ha,am⟩:=hF.next he rfl hp
   exact tieF c d (lvF A A.length e) (left.getD e 0) f I QhS (QrQ (Q3z A A.length e) hA) (λj hj ak=>by have:=g.nearer hF hb he hj ak;omega) an ⟨a,ha,am⟩)
   (k0:=λk aa ab l m n o p q u v x y z=>some (k,p,q,u,l,m,n,o,v,x,z,y)) hn I hm nx 0 400 0 f rfl I I hk I I
  exact⟨s',f',h5,b,i (.inr hex),h⟩
end Cx
end Go.Vx
namespace Go.Vx
variable{R:Type} (n:Nat)
def Yc(k l m o:LL)(p:Int)(q r s t u v x a2:LL)(i e:Int)(K:QlR R):oP R:=gb true (XZ n k l m o p q r s t u v x a2 (λf=>some (.inl f)) λf g j a b c r6 d h=>some (.inr (f,g,j,a,b,c,r6,d,h))) (.inl 0) λg=>smX g (λj=>none) λa=>bif a.2.2.2.2.2.2.2.2 !=0 then K 0 a.2.2.2.2.2.2.2.2 else Qc R (QE n a.2.2.2.2.2.2.2.1 i e some) λb=>bif b !=0 then K 0 b else Qb R a.2.2.2.2.1 λy=>Qb R a.2.2.1 λz=>Qc R (XF n a.2.1 z a.2.2.2.1 y a.2.2.2.2.2.2.1 e some) λc=>Qc R (Ym n z a.2.2.2.2.2.1 i some) λr6=>Qc R (Y9 n z y c r6 some) λd=>bif d==(-1:Int)then K 0 6 else gb true (X9 n n r6 d a.1 a.2.1 z a.2.2.2.1 y a.2.2.2.2.2.1 a.2.2.2.2.2.2.1 a.2.2.2.2.2.2.2.1 c (λ_=>false) e) (0,0,[],[],[],[],[],[],0,[],0,λ_=>false) λh=>K h.1 0
def VP(h7 c a:Int)(k0:QlN R):QlO R
|0,_,_=>none
|m+1,b,d=>bif decide (b<c)then Ql6 R [] b λe=>Qc R (J9 n h7 a some) λf=>Qc R (nz a) λi=>Qb R [[Ql (Int.tmod (wJ (e+f)) a)]] λk=>Qc R (Y6 ((d.length+k.length)*8)) λj=>VP h7 c a k0 m (wJ (b+1)) (d++k)else k0 b (decide (b<c)) d
def Yw(e:Int)(f:LL)(c a:Int)(k0:QlN R):QlO R
|0,_,_=>none
|m+1,b,d=>bif decide (b<c)then Ql6 R f b λg=>Qc R (J9 n e a some) λh=>Qc R (nz a) λk=>Qb R [[Ql (Int.tmod (wJ (g+h)) a)]] λo=>Qc R (Y6 ((d.length+o.length)*8)) λl=>Yw e f c a k0 m (wJ (b+1)) (d++o)else k0 b (decide (b<c)) d
def law21_JourneysShift(a0:LL)(a1 a2 m:Int)(K:QlP R):oP R:=gb true (SL n a0 Tu12) ([],[],[],[],0,[],[],[],[],[],[],[]) λa=>Qb R a.2.2.2.2.2.2.2.2.2.2.2 λv=>Qb R a.2.2.2.2.2.2.2.2.2.2.1 λx=>Qb R a.2.2.2.2.2.2.2.2.2.1 λy=>Qb R a.2.2.2.2.2.2.2.2.1 λam=>Qb R a.2.2.2.2.2.2.2.1 λan=>Qb R a.2.2.2.2.2.2.1 λao=>Qb R a.2.2.2.2.1 λap=>Qb R a.2.2.2.2.2.1 λaq=>Qb R a.2.2.2.1 λar=>Qb R a.2.2.1 λau=>Qb R a.2.1 λaw=>gb true (Vm n a.1 aw au ar ap aq ao an am y x v (some (.inl ())) λb=>some (.inr b)) (.inl ()) λc=>Qb R (a.1.length:Int) λav=>smX c (λo=>bif true then Qc R (H8 410 some) λl=>K l else Qc R (J9 n a2 av some) λd=>Qc R (J9 n m av some) λr6=>VP n a1 0 ap (λah ai p=>gb true (XP n a.1 aw au ar ap aq ao an am y x v [] d r6 Tu3) (0,[],0) λf=>gb true (XP n a.1 aw au ar ap aq ao an am y x v p d r6 Tu3) (0,[],0) λg=>Qc R (Yc n a.1 aw au ar ap aq ao an am y x v [] d r6 Tu2) λz=>Qc R (Yc n a.1 aw au ar ap aq ao an am y x v p d r6 Tu2) λaa=>Qc R (H8 410 some) λq=>Qa R (Q9 q (f.1==g.1)) λu=>Qd R u (GR n f.2.1 g.2.1 some) λab=>K (Q9 (Q9 (Q9 u ab) (f.2.2==g.2.2)) (z.1==aa.1))) n 0 []) λe=>Qc R (neL e) λaj=>bif false then Qc R (H8 410 some) λac=>K ac else Qc R (J9 n a2 av some) λh=>Qc R (J9 n m av some) λi=>Yw n a1 e (e.length:Int) ap (λak al r=>gb true (XP n a.1 aw au ar ap aq ao an am y x v e h i Tu3) (0,[],0) λj=>gb true (XP n a.1 aw au ar ap aq ao an am y x v r h i Tu3) (0,[],0) λk=>Qc R (Yc n a.1 aw au ar ap aq ao an am y x v e h i Tu2) λad=>Qc R (Yc n a.1 aw au ar ap aq ao an am y x v r h i Tu2) λae=>Qc R (H8 410 some) λs=>Qa R (Q9 s (j.1==k.1)) λt=>Qd R t (GR n j.2.1 k.2.1 some) λag=>K (Q9 (Q9 (Q9 t ag) (j.2.2==k.2.2)) (ad.1==ae.1))) n 0 []
end Go.Vx
namespace Go.Vx
theorem Qb1{per d:Int}(p0:2<=per){N:Nat}{A:LL}{T T':Y Int}(hr:∀r∈A,R6 r)(hc:∀r∈A,chk per N r=true)(h:∀j,j<N->T'.getD j 0=(T.getD j 0+d) % per):∀r∈A,XA T' per r=XA T per r:=λr hm=>by
 obtain⟨kd,f,t,mn,mx,q,rfl⟩:=hr r hm;have:=AG (hc _ hm);have e1:=h f.toNat I;have e2:=h t.toNat I;simp only[XA,dur,tat];rw[e1,e2,show((T.getD t.toNat 0+d) % per-(T.getD f.toNat 0+d) % per-mn) % per=(T.getD t.toNat 0-T.getD f.toNat 0-mn) % per by
  have a:=Int.mul_ediv_add_emod (T.getD t.toNat 0+d) per;have b:=Int.mul_ediv_add_emod (T.getD f.toNat 0+d) per;rw[show(T.getD t.toNat 0+d) % per-(T.getD f.toNat 0+d) % per-mn=(T.getD t.toNat 0-T.getD f.toNat 0-mn)+per*((T.getD f.toNat 0+d) / per-(T.getD t.toNat 0+d) / per) by rw[Int.mul_sub];omega,Int.add_mul_emod_self_left]]
theorem Qdl{per v aa:Int}(p0:2<=per)(p1:per<=300)(a:0<=v)(b:v<per)(hv:J9 400 aa per (some:Int->oP Int)=some v){T:Y Int}(hT:∀x∈T,0<=x/\x<per)(hl:T.length<=100){k0:Int->Bool->LL->oP Bool}:∀(c m i:Nat),i+c=T.length->c<m->Yw 400 aa (encI T) (T.length:Int) per k0 m (i:Int) (encI ((T.take i).map λx=>(x+v) % per))=k0 (T.length:Int) false (encI (T.map λx=>(x+v) % per))
 |0,m+1,i,hi,_=>by
  obtain rfl:i=T.length:=I
  rw[Yw,Qy,Qra,QrB]
 |c+1,m+1,i,hi,hm=>by
  have ac:i<T.length:=I
  have e:=Qrf ac;have ht:=hT _ (Qrd e);have ih:=Qdl p0 p1 a b hv hT hl (k0:=k0) c m (i+1) I I;have hs:encI ((T.take i).map λx=>(x+v) % per)++[[D.int .i64 ((T[i]+v) % per)]]=encI ((T.take (i+1)).map λx=>(x+v) % per):=by
   rw[List.take_add_one,e,Qrk];unfold encI;rw[Qrk];rfl
  rw[<- ih,Yw,Qs ac,Qrc,GQ e];simp -implicitDefEqProofs only[Qh,Qr9,Qj,hv,DL (show per≠0 by omega),QK (show i<=1000 by omega),Qo (x:=T[i]+v) I I,Int.tmod_eq_emod_of_nonneg (show 0<=T[i]+v by omega),hs,XK (show(List.length (encI ((T.take i).map λx=>(x+v) % per))+List.length [[D.int .i64 ((T[i]+v) % per)]])*8<=100000 by rw[QP];simp;omega)]
namespace Cx
variable{X:Cx} {per:Int} {Ch Sy A:LL} {tl tl':Y Int}
theorem Gd.shift(g:X.Gd per Ch Sy A tl){v:Int}:X.Gd per Ch Sy A (tl.map λx=>(x+v) % per) where
 ok:=g.ok
 ls:=g.ls
 p0:=g.p0
 p1:=g.p1
 act:=g.act
 len:=g.len
 tlen:=by rw[Qrg];exact g.tlen
 tr:=λx hx=>by
  obtain⟨y,_,rfl⟩:=Qrr.1 hx;have:=g.p0;exact⟨Qrw _ I,Qrt _ I⟩
 ck:=g.ck
theorem Gd.durs(g:X.Gd per Ch Sy A tl){v:Int}:∀r∈A,XA (tl.map λx=>(x+v) % per) per r=XA tl per r:=Qb1 (d:=v) g.p0 (λr hr=>g.r6 hr) g.ck λj hj=>by
 have:=g.tlen;rw[Qrh,Qrh,Qrp,Qrf I];rfl
section
variable(g:X.Gd per Ch Sy A tl) {a0 a1 a3 a5:LL} {b:LL} {c d f:LL} (hbd:YY 400 a0 a1 X.G.Se a3 per a5 X.Ro X.Ls b c d f Tu4=some (per,X.evs X.L,A,0)) (hfe:Xp 400 per (X.evs X.L) A (encI tl) (some:Bool->oP Bool)=some true)
include g hbd hfe
theorem Gd.tiesP{fr to:Int}{left:Y Int}{b':Int}(h:X.Leg per A tl fr to left b')(hc:QE 400 (a0.length:Int) fr to (some:Int->oP Int)=some 0) :
  b' = -1/\Yc 400 a0 a1 X.G.Se a3 per a5 X.Ro X.Ls b c d f (encI tl) fr to Tu2=some (0,6) \/
   0<b'/\∃k,1<=k/\Yc 400 a0 a1 X.G.Se a3 per a5 X.Ro X.Ls b c d f (encI tl) fr to Tu2=some (k,0):=by
 have hA:=g.len;have hN:X.N<=6:=base_le g.ok;rcases h.sgn with e | ⟨e,ht⟩
 ·refine .inl ⟨e,?_⟩;unfold Yc;rw[g.svcP hbd hfe,Qh,BD];dsimp only;rw[bne_self_eq_false,Qra,hc,Qh,bne_self_eq_false,Qra,h.rem,Qh,h.beg,Qh,h.lst,Qh,e];rfl
 ·obtain⟨s,f',a,h2,i,l⟩:=g.tieF h.fin h.le (nst:=(a0.length:Int)) 30 400 (bgF X A fr A.length) b' (λ_=>false) I g.bgPsg (QrQ (Q2f X A fr A.length) hA) (λj hj aa=>by
   have:=Sv.cnt_le (S:=X.sv per A tl to) (left:=left) (t:=left.getD ((X.sv per A tl to).to j) 0);have hn:(X.sv per A tl to).n=2*X.N:=rfl;unfold msr;split<;>omega) (λk x hx=>by rw[Q1e]at hx;cases hx) ht
  refine .inr ⟨e,s,i,?_⟩;unfold Yc;rw[g.svcP hbd hfe,Qh,BD];dsimp only;rw[bne_self_eq_false,Qra,hc,Qh,bne_self_eq_false,Qra,h.rem,Qh,h.beg,Qh,h.lst,Qh,show(b' == (-1:Int))=false by simp;omega,Qra,a,Qh]
theorem Gd.tiesEq{fr:Int}(a:0<=fr)(e:fr<(a0.length:Nat)):Yc 400 a0 a1 X.G.Se a3 per a5 X.Ro X.Ls b c d f (encI tl) fr fr Tu2=some (0,4):=by
 have hc:QE 400 (a0.length:Int) fr fr (some:Int->oP Int)=some 4:=by
  unfold QE;rw[Qri I,Qri I,beq_self_eq_true];rfl
 unfold Yc;rw[g.svcP hbd hfe,Qh,BD];dsimp only;rw[bne_self_eq_false,Qra,hc,Qh];rfl
theorem Gd.same(g':X.Gd per Ch Sy A tl')(aa:Xp 400 per (X.evs X.L) A (encI tl') (some:Bool->oP Bool)=some true)(he:∀r∈A,XA tl' per r=XA tl per r)(fr to:Int) :
  XP 400 a0 a1 X.G.Se a3 per a5 X.Ro X.Ls b c d f (encI tl') fr to Tu3=XP 400 a0 a1 X.G.Se a3 per a5 X.Ro X.Ls b c d f (encI tl) fr to Tu3 /\
  Yc 400 a0 a1 X.G.Se a3 per a5 X.Ro X.Ls b c d f (encI tl') fr to Tu2=Yc 400 a0 a1 X.G.Se a3 per a5 X.Ro X.Ls b c d f (encI tl) fr to Tu2:=by
 have hm:(A.map λr=>[Ql (XA tl' per r)])=A.map λr=>[Ql (XA tl per r)]:=QrO λr hr=>by rw[he r hr]
 constructor
 ·unfold XP;rw[g'.svcP hbd aa,g.svcP hbd hfe,hm]
 ·unfold Yc;rw[g'.svcP hbd aa,g.svcP hbd hfe,hm]
end
end Cx
theorem QiE{p:Y Nat}(hp:p.length<=100):GR 400 (Gu p) (Gu p) (some:Bool->oP Bool)=some true:=by
 unfold GR;rw[bne_self_eq_false,Qra,R9];have:∀(c m i:Nat),i+c=p.length->c<m->Uj 400 (Gu p) (Gu p) (p.length:Int) (some false) (λa b=>(some true:oP Bool)) m (i:Int)=some true:=by
  intro c;induction c with
  |zero=>
   intro m i hi hm;obtain⟨m,rfl⟩:∃k,m=k+1:=⟨m-1,I⟩;obtain rfl:i=p.length:=I
   rw[Uj,Qy,Qra]
  |succ c ih=>
   intro m i hi hm;obtain⟨m,rfl⟩:∃k,m=k+1:=⟨m-1,I⟩;have aa:i<p.length:=I
   rw[Uj,Qs aa,Qrc,Q0c (Qrf aa)];simp -implicitDefEqProofs only[Qh,Qr9,Qj,bne_self_eq_false,Qra,QK (show i<=1000 by omega)];exact ih m (i+1) I I
 exact this p.length 400 0 I I
theorem shiftA{l:Y Int}(hl:l.length<=9223372036854775807)(a c d:Int):law21_JourneysShift 400 (encI l) a c d some=some true:=by
 obtain⟨X,per,Ch,Sy,De,h,hD,f,i,j,hp,ht⟩:=QiN hl;have pf:=TC c (show(0:Int)<(X.G.St.length:Int) by omega);have pt:=TC d (show(0:Int)<(X.G.St.length:Int) by omega);have ay:=Qcm 400 c (show(0:Int)<(X.G.St.length:Int) by omega) I (some:Int->oP Int);have a8:=Qcm 400 d (show(0:Int)<(X.G.St.length:Int) by omega) I (some:Int->oP Int);generalize pick c (X.G.St.length:Int)=fr at *
 generalize pick d (X.G.St.length:Int)=to at *
 unfold law21_JourneysShift;rw[hp,Qh];dsimp only;rcases ht with⟨ht,_⟩|⟨A,tl,ht,ax,g,aa,ba,hf,hg,a2⟩
 ·rw[ht,Qh,QeI,Qrc,Q7r,Qh]
 ·have p0:=g.p0;have p1:=g.p1;have hN:X.N<=6:=Cx.base_le h;have hT:=g.tlen;have pv:=TC a (show(0:Int)<per by omega);have a7:=Qcm 400 a (show(0:Int)<per by omega) I (some:Int->oP Int);generalize pick a per=v at *
  have g':X.Gd per Ch Sy A (tl.map λx=>(x+v) % per):=g.shift;have aw:=g.durs (v:=v);have ar:Fs per (tl.map λx=>(x+v) % per) A:=λr hr=>by rw[aw r hr];exact a2 r hr
  have ai:(X.evs X.L).length=2*X.N:=Cx.evs_len;have az:J4 400 per (X.evs X.L) A (encI (tl.map λx=>(x+v) % per)) (some:Bool->oP Bool)=some true:=by
   have hA:=g.len;rw[(Qcj p0 p1 I I (λr hr=>g.r6 hr) hA (tl:=tl.map λx=>(x+v) % per)).1,Q7l (QrP.2 λr hr=>by rw[ai];exact g.ck r hr) ⟨by rw[ai];exact g'.tlen,g'.tr⟩]
  have a4:=g'.feas ai ar az;obtain⟨sb,st⟩:=g.same aa hf g' a4 aw fr to;rw[ht,Qh,BD];obtain⟨x,xs,rfl⟩:∃x xs,tl=x::xs:=by
   cases tl with
   |nil=>exact absurd rfl ax
   |cons x xs=>exact⟨x,xs,rfl⟩
  rw[show neL (encI (x::xs))=some ()from rfl,Qh,Qra,ay,Qh,a8,Qh,QP];have ac:=λk0=>Qdl p0 p1 pv.1 pv.2 a7 (T:=x::xs) g.tr I (k0:=k0) (x::xs).length 400 0 I I
  rw[List.take_zero,List.map_nil,show encI []=[]from rfl,show((0:Nat):Int)=0 from rfl]at ac;rw[ac,sb,st];by_cases an:fr=to
  ·subst an;rw[g.bestEq aa hf pf.1 pf.2,Qh,Qh,g.tiesEq aa hf pf.1 pf.2,Qh,Qh,Q7r,Qh];rfl
  ·obtain⟨left,b,hL⟩:=g.leg fr to;have hc:QE 400 (X.G.St.length:Int) fr to (some:Int->oP Int)=some 0:=by
    unfold QE;rw[Qri I,Qri I,Qri I,Qri I,show(fr == to)=false by simpa using an];rfl
   rcases g.bestP aa hf pf.1 pf.2 pt.1 pt.2 an hL with⟨hb,am⟩|⟨hb,p,_,⟨_,a9⟩,am⟩
   ·rcases g.tiesP aa hf hL hc with⟨_,ak⟩|⟨e,_⟩
    ·rw[am,Qh,Qh,ak,Qh,Qh,Q7r,Qh];rfl
    ·omega
   ·rcases g.tiesP aa hf hL hc with⟨e,_⟩|⟨_,k,_,ak⟩
    ·omega
    ·rw[am,Qh,Qh,ak,Qh,Qh,Q7r,Qh];dsimp only;rw[QiE I,Qh,beq_self_eq_true,beq_self_eq_true,beq_self_eq_true];rfl
end Go.Vx
