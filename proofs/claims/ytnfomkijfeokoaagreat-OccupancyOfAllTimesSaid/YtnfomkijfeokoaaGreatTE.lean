/- Part of a proof. No conditions of their own. -/
import Derived.Test.YtnfomkijfeokoaaGreatTD
import Derived.Test.YtnfomkijfeokoaaGreatTB
set_option linter.unusedVariables false
set_option linter.unusedSimpArgs false
noncomputable section
abbrev QoT:=@List.getElem?_cons_zero
abbrev QoU:=@List.getElem?_cons_succ
abbrev QoV:=@cond_false
abbrev QoW:=@Int.toNat_natCast
abbrev QoX:=@cond_true
abbrev QoY:=@List.getElem?_eq_getElem
abbrev QoZ:=@Bool.not_true
abbrev Qp0:=@Bool.not_false
abbrev Qp1:=@List.length_map
abbrev Qp2:=@List.getElem?_eq_some_iff
abbrev Qp3:=@decide_eq_true
abbrev Qp4:=@if_pos
abbrev Qp5:=@if_neg
abbrev Qp6:=@decide_eq_false
abbrev Qp7:=@List.getD_eq_getElem?_getD
abbrev Qp8:=@Nat.add_sub_cancel
abbrev Qp9:=@List.map_append
abbrev Qpa:=@List.getElem_mem
abbrev Qpb:=@Nat.le_refl
abbrev Qpc:=@List.getElem?_map
abbrev Qpd:=@List.mem_append
abbrev Qpe:=@Int.eq_ofNat_of_zero_le
abbrev Qpf:=@List.length_nil
abbrev Qpg:=@List.length_cons
abbrev Qph:=@Int.tmod_eq_emod_of_nonneg
abbrev Qpi:=@Option.getD_some
abbrev Qpj:=@List.pairwise_cons
abbrev Qpk:=@Int.tdiv_eq_ediv_of_nonneg
abbrev Qpl:=@List.mem_singleton
abbrev Qpm:=@Bool.and_eq_true
abbrev Qpn:=@List.take_length
abbrev Qpo:=@List.filter_cons
abbrev Qpp:=@Int.emod_lt_of_pos
abbrev Qpq:=@Int.emod_nonneg
abbrev Qpr:=@List.getElem?_eq_none
abbrev Qps:=@Nat.le_of_ble_eq_true
namespace Go.Vx
theorem EM.at {k:Nat}:∀ {s s':LL},EM k s s'->∀ i:Nat,(s[i]? = none/\s'[i]? = none)\/∃ nm a b c a' b' c' d,s[i]? = some [D.str nm,Q4 a,Q4 b,Q4 c,Q4 d]/\s'[i]? = some [D.str nm,Q4 a',Q4 b',Q4 c',Q4 d]/\NumOk a b c d k/\NumOk a' b' c' d k
 |[],[],_,i=>.inl ⟨by simp,by simp⟩
 |r::s,r'::s',h,0=>by
  obtain ⟨⟨nm,a,b,c,a',b',c',d,e,h2,f,g⟩,_⟩:=h;exact .inr ⟨nm,a,b,c,a',b',c',d,by simp [e],by simp [h2],f,g⟩
 |r::s,r'::s',h,i+1=>by
  have:=EM.at h.2 i;simpa using this
theorem EM.row {k:Nat} {s s':LL} (h:EM k s s') (i:Int):(Q1 s i=none/\Q1 s' i=none)\/∃ nm a b c a' b' c' d,Q1 s i=some [D.str nm,Q4 a,Q4 b,Q4 c,Q4 d]/\Q1 s' i=some [D.str nm,Q4 a',Q4 b',Q4 c',Q4 d]/\NumOk a b c d k/\NumOk a' b' c' d k:=by
 unfold Q1;cases decide ((0:Int)<=i)
 ·simp_all
 ·exact h.at i.toNat
theorem gbN {α R:Type} {z:α} {k:α->oP R}:gb true none z k=none:=rfl
theorem inT {R:Type} {n:Nat} {x lo hi:Int} (a:lo<=x) (b:x<=hi) (K:Bool->oP R):GH n x lo hi K=K true:=by
 grind [GH,decide]
section
variable {R:Type} {n k:Nat} {s s' St Pt Li:LL} (h:EM k s s')
include h
theorem Q5R {k0:Int->Bool->LL->oP R}:∀ (m:Nat) (i:Int) (acc:LL),Yy n s k0 m i acc=Yy n s' k0 m i acc
 |0,_,_=>rfl
 |m+1,i,acc=>by
  unfold Yy;rcases h.row i with ⟨e,e'⟩ | ⟨nm,a,b,c,a',b',c',d,e,e',_,_⟩
  ·simp only [e,e',h.len,gbN]
  ·rw [e,e',h.len];simp only [Q5R m];rfl
theorem QcX {ac:LL} (hk:St.length=k) (f:k<=100) {k0:Int->oP R} {k1:Int->Bool->oP R}:∀ (m:Nat) (i:Int),VN n ac St s k0 k1 m i=VN n ac St s' k0 k1 m i
 |0,_=>rfl
 |m+1,i=>by
  unfold VN;rcases h.row i with ⟨e,e'⟩ | ⟨nm,a,b,c,a',b',c',d,e,e',g,g'⟩
  ·simp only [e,e',h.len,gbN,QcX hk f m]
  ·rw [e,e',h.len];obtain ⟨j,l,h2,o,p,q,x,y⟩:=g;obtain ⟨g0,g1,r,t,u,v,z,g7⟩:=g';simp -implicitDefEqProofs only [Q0,QoT,QoU,Q2,inT j l,inT h2 o,inT p q,inT g0 g1,inT r t,inT u v,QcX hk f m]
theorem QeF {k0:Int->oP R} {k1:Int->Bool->oP R}:∀ (m:Nat) (i:Int),VF n St Pt s Li k0 k1 m i=VF n St Pt s' Li k0 k1 m i
 |0,_=>rfl
 |m+1,i=>by
  unfold VF;have e:∀ j,Jm n St Pt s Li j (some:Int->oP Int)=Jm n St Pt s' Li j some:=by
   intro j;unfold Jm;rw [h.len];rfl
  simp only [e,QeF m]
theorem Qcl (hk:St.length=k) (a:k<=100) (K:Int->oP R):JD n St Pt s Li K=JD n St Pt s' Li K:=by
 unfold JD K9;rw [h.len]
 grind [Q5R,QcX,QeF]
end
def Qa3 (St Pt Se Li:LL):Bool:=Q7D (JD 400 St Pt Se Li some)
theorem ro2 {c0 c1 a:Nat} (b:c0=1\/c0=2) (c:c1=1\/c1=2) (h2:a=1\/a=2):Qa3 [nmS 0,nmS 1] (pt2 c0 c1) (se2 c0 c1 a (hat c0) (hat c1) (hat a)) (li2 c0 c1 a)=true:=by
 rcases b with rfl | rfl <;> rcases c with rfl | rfl <;> rcases h2 with rfl | rfl <;> kernel_rfl
theorem ro3 {c0 c1 a b c:Nat} (d:c0=1\/c0=2) (e:c1=1\/c1=2) (h2:a=1\/a=2) (f:b=1\/b=2) (g:c=1\/c=2):Qa3 [nmS 0,nmS 1,nmS 2] (pt3 c0 c1 a) (se3 c0 c1 a b c (hat c0) (hat c1) (hat a) (hat b) (hat c)) (li3 c0 c1 a b c)=true:=by
 rcases d with rfl | rfl <;> rcases e with rfl | rfl <;> rcases h2 with rfl | rfl <;> rcases f with rfl | rfl <;> rcases g with rfl | rfl <;> kernel_rfl
theorem Q3L {St Pt L L' Li:LL} (h:EM St.length L L') (h2:St.length<=100):Qa3 St Pt L Li=Qa3 St Pt L' Li:=by
 unfold Qa3;rw [Qcl h rfl h2]
theorem Qjk {c0 c1 a:Nat} {b c d:List Rv} (e:c0=1\/c0=2) (f:c1=1\/c1=2) (h2:a=1\/a=2) (g:Ko b) (h:Ko c) (i:Ko d) (j:b.length=c0) (e1:c.length=c1) (e2:d.length=a) :
  Qa3 [nmS 0,nmS 1] (pt2 c0 c1) (se2 c0 c1 a b c d) (li2 c0 c1 a)=true:=by
 grind [ro2,Q3L,sr2]
theorem Qj9 {c0 c1 a b c:Nat} {d e f g h:List Rv} (i:c0=1\/c0=2) (j:c1=1\/c1=2) (h2:a=1\/a=2) (k:b=1\/b=2) (l:c=1\/c=2) (m:Ko d) (n:Ko e) (o:Ko f) (n3:Ko g) (p:Ko h) (q:d.length=c0) (e1:e.length=c1) (e2:f.length=a) (r:g.length=b) (s:h.length=c) :
  Qa3 [nmS 0,nmS 1,nmS 2] (pt3 c0 c1 a) (se3 c0 c1 a b c d e f g h) (li3 c0 c1 a b c)=true:=by
 grind [ro3,Q3L,sr3]
def Qdc (St Pt L d s:LL):oP Int:=
 Yw 400 L s (some 4) (fun _ _=>Vq 400 s (some 5) (fun _ _=>Ys 400 St Pt L d s (some 11) (fun _ _=>some 0) 400 (1:Int)) 400 (0:Int)) 400 (0:Int)
def Qgu (N:Nat) (Li s:LL):Bool:=Q7D (Qdc [] [] (List.replicate N []) Li s)
section
variable {R:Type} {n:Nat} {a b a' b' L L' d s:LL} (h:L.length=L'.length)
include h
theorem Qf0 {k0:oP R} {k1:Int->Bool->oP R}:∀ (m:Nat) (i:Int),Yw n L s k0 k1 m i=Yw n L' s k0 k1 m i
 |0,_=>rfl
 |m+1,i=>by
  unfold Yw;simp only [h,Qf0 m]
omit h in
theorem QiH {x y z t:Int} {K:D->D->D->D->Bool->oP R}:Js n a b L d x y z t K=Js n a' b' L' d x y z t K:=rfl
omit h in
theorem Qg6 {k0:oP R} {k1:Int->Bool->oP R}:∀ (m:Nat) (i:Int),Ys n a b L d s k0 k1 m i=Ys n a' b' L' d s k0 k1 m i
 |0,_=>rfl
 |m+1,i=>by
  unfold Ys;simp only [QiH (a:=a) (b:=b) (L:=L) (a':=a') (b':=b') (L':=L'),Qg6 m]
end
theorem Q3M {St Pt Se Li s:LL} {N:Nat} (ac:Qa3 St Pt Se Li=true) (hN:Se.length=N) (h2:2<=s.length) (c:s.length<=24) (hr:Qgu N Li s=true):Vy 400 St Pt Se Li s 0 (some:Int->oP Int)=some 0:=by
 have hL:Se.length=(List.replicate N ([]:List D)).length:=by simp [hN]
 unfold Vy;rw [Vv ac,Q0,Q8 QnJ,Q8 (by grind),Q8 (by grind [Q6,decide,List.length])];simp only [Qf0 hL,Qg6 (a:=St) (b:=Pt) (L:=Se) (a':=[]) (b':=[]) (L':=List.replicate N [])];exact Vv hr
def Qe6 (Li:LL) (r r':List D):oP Int:=match r,r' with
 |[.int _ x,.int _ d],[.int _ y,.int _ e]=>gb true (bif (d == (1:Int)) then ZR 400 Li ((List.length Li:Nat):Int) x (0:Int) (fun _ _ w=>some w) 400 (0:Int) [] else ZR 400 Li ((List.length Li:Nat):Int) x (1:Int) (fun _ _ w=>some w) 400 (0:Int) []) [] fun a=>
  Zf 400 a ((List.length a:Nat):Int) y e some (fun _ _=>some (-1)) 400 (0:Int)
 |_,_=>none
def ptR (St Pt Se Li:LL) (r r':List D):oP Int:=match r,r' with
 |[.int _ x,.int _ d],[.int _ y,.int _ e]=>match Js 400 St Pt Se Li x d y e Tu5 with
  |some (_,_,.int .i64 q,_,true)=>some q
  |_=>none
 |_,_=>none
def pv:oP Int->Int
 |some p=>p
 |none => -1
def Ah (N NP:Nat) (Li:LL):Nat->LL->Bool
 |k,r::r'::t=>match Qe6 Li r r',ptR [] [] (List.replicate N []) Li r r' with
  |some p,some q=>(p == q)&&(decide (-1<=p)&&(decide (p<NP)&&Ah N NP Li (bif decide (p<0) then k+1 else k+2) (r'::t)))
  |_,_=>false
 |k,_=>Nat.ble k 5
def QcI (N NP:Nat) (Li s:LL):Bool:=Qgu N Li s&&Ah N NP Li 0 s
def Q3S (N NP:Nat) (Li:LL) (s u k c k' c':Nat):Bool:=
 (ups k c).all fun x=>(ups k' c').all fun y=>QcI N NP Li (K3 s u x y true)&&QcI N NP Li (K3 s u x y false)
theorem Qho {c0 c1 a:Nat} (b:c0=1\/c0=2) (c:c1=1\/c1=2) (h2:a=1\/a=2):Q3S (c0+c1+a) (pt2 c0 c1).length (li2 c0 c1 a) (c0+c1) a 0 c0 c0 c1=true:=by
 rcases b with rfl | rfl <;> rcases c with rfl | rfl <;> rcases h2 with rfl | rfl <;> kernel_rfl
theorem QgW {c0 c1 a b c:Nat} (d:c0=1\/c0=2) (e:c1=1\/c1=2) (h2:a=1\/a=2) (f:b=1\/b=2) (g:c=1\/c=2) :
  (Q3S (c0+c1+a+b+c) (pt3 c0 c1 a).length (li3 c0 c1 a b c) (c0+c1+a) b 0 c0 c0 c1&&Q3S (c0+c1+a+b+c) (pt3 c0 c1 a).length (li3 c0 c1 a b c) (c0+c1+a+b) c c0 c1 (c0+c1) a)=true:=by
 rcases d with rfl | rfl <;> rcases e with rfl | rfl <;> rcases h2 with rfl | rfl <;> rcases f with rfl | rfl <;> rcases g with rfl | rfl <;> kernel_rfl
theorem Qck {St Pt Se Li:LL} (ac:P3 400 St Pt Se Li=true) {x d y e:Int} (a:0<=x) (b:x<Se.length) (hd:d=0\/d=1):Z6 400 St Pt Se Li x d y e (some:Int->oP Int)=Qe6 Li [Q4 x,Q4 d] [Q4 y,Q4 e]:=by
 have hc:Za 400 St Pt Se Li (some:Int->oP Int)=some 0:=by grind [Za]
 have hh:Ny 400 St Pt Se Li x d (some:Bool->oP Bool)=some true:=by
  grind [Ny,Q0,decide]
 simp_all [Z6,MF,Qe6,Q0]
structure Geo where
 N:Nat
 St:LL
 Pt:LL
 Se:LL
 Li:LL
 Tr:LL
 Bt:LL
 k:Nat->Nat
 c:Nat->Nat
 s:Nat->Nat
 u:Nat->Nat
structure Geo.OK (G:Geo):Prop where
 hN:G.N=2\/G.N=3
 st:G.St.length=G.N
 lay:P3 400 G.St G.Pt G.Se G.Li=true
 ref:Qa3 G.St G.Pt G.Se G.Li=true
 trl:G.Tr.length=G.N
 tr:∀ i,i<G.N->G.Tr[i]? = some [D.sl 1 (ZF (ups (G.k i) (G.c i)))]
 ct:∀ i,i<G.N->G.c i=1\/G.c i=2
 k6:∀ i,i<G.N->G.k i+G.c i<=6
 btl:G.Bt.length+1=G.N
 bt:∀ g,g+1<G.N->G.Bt[g]? = some [D.sl 1 (ZF (ups (G.s g) (G.u g)))]
 ut:∀ g,g+1<G.N->G.u g=1\/G.u g=2
 sec:∀ i,i<G.N->∀ x,x<G.c i->∃ nm a b d,Q1 G.Se ((G.k i+x:Nat):Int)=some [D.str nm,Q4 a,Q4 b,Q4 d,Q4 i]/\SecN a b d
 gap:∀ g,g+1<G.N->∀ x,x<G.u g->∃ nm a b d e,Q1 G.Se ((G.s g+x:Nat):Int)=some [D.str nm,Q4 a,Q4 b,Q4 d,Q4 e]/\SecN a b d
 rts:∀ g,g+1<G.N->QbR G.Se.length G.Li (G.s g) (G.u g) (G.k g) (G.c g) (G.k (g+1)) (G.c (g+1))=true
 rt6:∀ g,g+1<G.N->Q3S G.Se.length G.Pt.length G.Li (G.s g) (G.u g) (G.k g) (G.c g) (G.k (g+1)) (G.c (g+1))=true
theorem Q5D {f:Nat->Rv->List D}:∀ {c:Nat} {x:List Rv} {i:Nat},Ko x->x.length=c->i<c->∃ j y,(Yp f c x)[i]? = some (f j y)/\Num y.1 y.2.1 y.2.2
 |c+1,a::x,0,h,_,_=>⟨c+1,a,rfl,h.1⟩
 |c+1,a::x,i+1,h,e,hi=>by
  obtain ⟨j,y,b,h2⟩:=Q5D (f:=f) h.2 (by simpa using e) (show i<c by omega);exact ⟨j,y,by simpa [Yp] using b,h2⟩
theorem QbD {f:Nat->Rv->List D} {A B:LL} {c k i:Nat} {x:List Rv} (hA:A.length=k) (h:Ko x) (e:x.length=c) (hi:i<c):∃ j y,Q1 ((A++Yp f c x)++B) ((k+i:Nat):Int)=some (f j y)/\Num y.1 y.2.1 y.2.2:=by
 obtain ⟨j,y,a,h2⟩:=Q5D (f:=f) h e hi
 grind [Q1]
theorem Qgr {A B L:LL} {c k i x:Nat} {X:List Rv} (hL:L=(A++Yp (secT i) c X)++B) (hA:A.length=k) (h:Ko X) (e:X.length=c) (hi:x<c) :
  ∃ nm a b d,Q1 L ((k+x:Nat):Int)=some [D.str nm,Q4 a,Q4 b,Q4 d,Q4 i]/\SecN a b d:=by
 subst hL;obtain ⟨j,y,g,h2⟩:=QbD (f:=secT i) (B:=B) hA h e hi;exact ⟨_,_,_,_,g,by have:=h2.a0;omega,by have:=h2.a1;omega,h2.b0,h2.b1,h2.c0,h2.c1⟩
theorem Qhv {A B L:LL} {c k i x:Nat} {X:List Rv} (hL:L=(A++Yp (secL i) c X)++B) (hA:A.length=k) (h:Ko X) (e:X.length=c) (hi:x<c) :
  ∃ nm a b d e,Q1 L ((k+x:Nat):Int)=some [D.str nm,Q4 a,Q4 b,Q4 d,Q4 e]/\SecN a b d:=by
 subst hL;obtain ⟨j,y,g,h2⟩:=QbD (f:=secL i) (B:=B) hA h e hi;exact ⟨_,_,_,_,_,g,h2.a0,by have:=h2.a1;omega,h2.b0,h2.b1,h2.c0,h2.c1⟩
def Qey (c0 c1 a:Nat) (b d e:List Rv):Geo where
 N:=2
 St:=[nmS 0,nmS 1]
 Pt:=pt2 c0 c1
 Se:=se2 c0 c1 a b d e
 Li:=li2 c0 c1 a
 Tr:=[[D.sl 1 (ZF (ups 0 c0))],[D.sl 1 (ZF (ups c0 c1))]]
 Bt:=[[D.sl 1 (ZF (ups (c0+c1) a))]]
 k:=fun | 0=>0 | _=>c0
 c:=fun | 0=>c0 | _=>c1
 s:=fun _=>c0+c1
 u:=fun _=>a
theorem Qd4 {c0 c1 a:Nat} {b c d:List Rv} (f:c0=1\/c0=2) (h:c1=1\/c1=2) (h2:a=1\/a=2) (j:Ko b) (k:Ko c) (l:Ko d) (e:b.length=c0) (e1:c.length=c1) (e2:d.length=a):(Qey c0 c1 a b c d).OK where
 hN:=.inl rfl
 st:=rfl
 lay:=QiN f h h2 j k l e e1 e2
 ref:=Qjk f h h2 j k l e e1 e2
 trl:=rfl
 tr:=fun i hi=>match i,hi with
  |0,_=>rfl
  |1,_=>rfl
 ct:=fun i hi=>match i,hi with
  |0,_=>f
  |1,_=>h
 k6:=fun i hi=>match i,hi with
  |0,_=>by show 0+c0<=6;omega
  |1,_=>by show c0+c1<=6;omega
 btl:=rfl
 bt:=fun g hg=>match g,hg with
  |0,_=>rfl
 ut:=fun g _=>h2
 sec:=fun i hi=>match i,hi with
  |0,_=>fun x hx=>Qgr (A:=[]) (i:=0) (B:=Yp (secT 1) c1 c++Yp (secL 0) a d) (by simp [Qey,se2]) rfl j e hx
  |1,_=>fun x hx=>Qgr (A:=Yp (secT 0) c0 b) (i:=1) (B:=Yp (secL 0) a d) rfl (Xc e) k e1 hx
 gap:=fun g hg x hx=>Qhv (A:=Yp (secT 0) c0 b++Yp (secT 1) c1 c) (i:=0) (B:=[]) (by simp [Qey,se2]) (by grind [Qey,Xc]) l e2 hx
 rts:=fun g hg=>match g,hg with
  |0,_=>by
   have hl:(se2 c0 c1 a b c d).length=c0+c1+a:=by grind [se2,Xc]
   show QbR (se2 c0 c1 a b c d).length (li2 c0 c1 a) (c0+c1) a 0 c0 c0 c1=true
   grind [QiX]
 rt6:=fun g hg=>match g,hg with
  |0,_=>by
   have hl:(se2 c0 c1 a b c d).length=c0+c1+a:=by simp [se2,Xc e,Xc e1,Xc e2];omega
   show Q3S (se2 c0 c1 a b c d).length (pt2 c0 c1).length (li2 c0 c1 a) (c0+c1) a 0 c0 c0 c1=true
   grind [Qho]
def Qa5 (c0 c1 a b d:Nat) (e f g h i:List Rv):Geo where
 N:=3
 St:=[nmS 0,nmS 1,nmS 2]
 Pt:=pt3 c0 c1 a
 Se:=se3 c0 c1 a b d e f g h i
 Li:=li3 c0 c1 a b d
 Tr:=[[D.sl 1 (ZF (ups 0 c0))],[D.sl 1 (ZF (ups c0 c1))],[D.sl 1 (ZF (ups (c0+c1) a))]]
 Bt:=[[D.sl 1 (ZF (ups (c0+c1+a) b))],[D.sl 1 (ZF (ups (c0+c1+a+b) d))]]
 k:=fun | 0=>0 | 1=>c0 | _=>c0+c1
 c:=fun | 0=>c0 | 1=>c1 | _=>a
 s:=fun | 0=>c0+c1+a | _=>c0+c1+a+b
 u:=fun | 0=>b | _=>d
theorem QdY {c0 c1 a b c:Nat} {d e f h j:List Rv} (l:c0=1\/c0=2) (m:c1=1\/c1=2) (h2:a=1\/a=2) (n:b=1\/b=2) (o:c=1\/c=2) (s:Ko d) (t:Ko e) (u:Ko f) (n3:Ko h) (v:Ko j) (p:d.length=c0) (e1:e.length=c1) (e2:f.length=a) (q:h.length=b) (r:j.length=c):(Qa5 c0 c1 a b c d e f h j).OK where
 hN:=.inr rfl
 st:=rfl
 lay:=Qjh l m h2 n o s t u n3 v p e1 e2 q r
 ref:=Qj9 l m h2 n o s t u n3 v p e1 e2 q r
 trl:=rfl
 tr:=fun i hi=>match i,hi with
  |0,_=>rfl
  |1,_=>rfl
  |2,_=>rfl
 ct:=fun i hi=>match i,hi with
  |0,_=>l
  |1,_=>m
  |2,_=>h2
 k6:=fun i hi=>match i,hi with
  |0,_=>by show 0+c0<=6;omega
  |1,_=>by show c0+c1<=6;omega
  |2,_=>by show c0+c1+a<=6;omega
 btl:=rfl
 bt:=fun g hg=>match g,hg with
  |0,_=>rfl
  |1,_=>rfl
 ut:=fun g hg=>match g,hg with
  |0,_=>n
  |1,_=>o
 sec:=fun i hi=>match i,hi with
  |0,_=>fun x hx=>Qgr (A:=[]) (i:=0) (B:=Yp (secT 1) c1 e++(Yp (secT 2) a f++(Yp (secL 0) b h++Yp (secL 1) c j))) (by simp [Qa5,se3]) rfl s p hx
  |1,_=>fun x hx=>Qgr (A:=Yp (secT 0) c0 d) (i:=1) (B:=Yp (secT 2) a f++(Yp (secL 0) b h++Yp (secL 1) c j)) (by simp [Qa5,se3]) (Xc p) t e1 hx
  |2,_=>fun x hx=>Qgr (A:=Yp (secT 0) c0 d++Yp (secT 1) c1 e) (i:=2) (B:=Yp (secL 0) b h++Yp (secL 1) c j) (by simp [Qa5,se3]) (by grind [Qa5,Xc]) u e2 hx
 gap:=fun g hg=>match g,hg with
  |0,_=>fun x hx=>Qhv (A:=Yp (secT 0) c0 d++Yp (secT 1) c1 e++Yp (secT 2) a f) (i:=0) (B:=Yp (secL 1) c j) (by simp [Qa5,se3]) (by grind [Qa5,Xc]) n3 q hx
  |1,_=>fun x hx=>Qhv (A:=Yp (secT 0) c0 d++Yp (secT 1) c1 e++Yp (secT 2) a f++Yp (secL 0) b h) (i:=1) (B:=[]) (by simp [Qa5,se3]) (by grind [Qa5,Xc]) v r hx
 rts:=fun g hg=>by
  have hl:(se3 c0 c1 a b c d e f h j).length=c0+c1+a+b+c:=by grind [se3,Xc]
  have k:=Qj7 l m h2 n o;simp only [Qpm] at k
  match g,hg with
  |0,_=>
   show QbR (se3 c0 c1 a b c d e f h j).length (li3 c0 c1 a b c) (c0+c1+a) b 0 c0 c0 c1=true
   simp_all
  |1,_=>
   show QbR (se3 c0 c1 a b c d e f h j).length (li3 c0 c1 a b c) (c0+c1+a+b) c c0 c1 (c0+c1) a=true;rw [hl];exact k.2
 rt6:=fun g hg=>by
  have hl:(se3 c0 c1 a b c d e f h j).length=c0+c1+a+b+c:=by simp [se3,Xc p,Xc e1,Xc e2,Xc q,Xc r];omega
  have k:=QgW l m h2 n o;simp only [Qpm] at k
  match g,hg with
  |0,_=>
   show Q3S (se3 c0 c1 a b c d e f h j).length (pt3 c0 c1 a).length (li3 c0 c1 a b c) (c0+c1+a) b 0 c0 c0 c1=true;rw [hl];exact k.1
  |1,_=>
   show Q3S (se3 c0 c1 a b c d e f h j).length (pt3 c0 c1 a).length (li3 c0 c1 a b c) (c0+c1+a+b) c c0 c1 (c0+c1) a=true;rw [hl];exact k.2
theorem QiR {R:Type} {l:List Int} (hl:l.length<=9223372036854775807) {P:R->Prop} {i:Nat} (hi:i<=l.length) {K:LL->LL->LL->LL->LL->LL->LL->Int->oP R}
  (H:∀ (G:Geo) (j:Nat),G.OK->j<=l.length->K G.St G.Pt G.Se G.Li G.Tr G.Bt [] (j:Int)∈P):Q1N 400 (encI l) (i:Int) K∈P:=by
 refine V9 hl hi QnJ QnJ fun v j k n hj=>?_
 rcases two k n with rfl | rfl
 ·exact Qhf hl (m:=397) hj fun c0 c1 a b c d j a0 a1 a2 e f g h e1 e2 hj=>H (Qey c0 c1 a b c d) j (Qd4 a0 a1 a2 e f g h e1 e2) hj
 ·exact Qhk hl (m:=396) hj fun c0 c1 o a p b c q d r j a0 a1 a2 s t e f g n3 u h e1 e2 x y hj=>H (Qa5 c0 c1 o a p b c q d r) j (QdY a0 a1 a2 s t e f g n3 u h e1 e2 x y) hj
section
variable {R:Type}
theorem Q0K {T:LL} {g:Nat} {l:LL} (h:T[g]? = some [D.sl 1 l]) (K:LL->oP R) :
  gb true (inB (List.length T) (g:Int)) () (fun _=>gb true (T[(Int.toNat (g:Int))]?) [] fun r2=>gb true (r2[0]?) oF fun a=>gb true (pSl 1 a) [] fun b=>K b)=K l:=by
 have ac:g<T.length:=(Qp2.1 h).1;rw [YX QnI QnI,Q0,QoW,h];rfl
theorem QgM {k c a:Nat} (hc:c=1\/c=2) (ha:a<2) (K:Int->oP R) :
  gb true (nz ((List.length (ZF (ups k c)):Nat):Int)) () (fun _=>gb true (Q1 (ZF (ups k c)) (Int.tmod (a:Int) ((List.length (ZF (ups k c)):Nat):Int))) [] fun b=>gb true (b[0]?) oF fun d=>gb true (pIw d) 0 fun e=>K e)=K ((k+a % c:Nat):Int):=by
 obtain rfl | rfl:a=0\/a=1:=QnI
 ·rcases hc with rfl | rfl <;> rfl
 ·rcases hc with rfl | rfl
  ·rw [show k+1 % 1=k from rfl,show List.length (ZF (ups k 1))=1 from rfl,show Int.tmod ((1:Nat):Int) ((1:Nat):Int)=0 by decide];rfl
  ·rfl
theorem Qb3 {s u:Nat} {x:Int} (hu:u=1\/u=2) {k0:Int->Bool->LL->oP R} :
  Zh 400 (ZF (ups s u)) ((List.length (ZF (ups s u)):Nat):Int) k0 400 (0:Int) [[D.int .i64 x,D.int .i64 (0:Int)]]
   = k0 (u:Int) false ([Q4 x,Q4 0]::((ups s u).map fun k=>[Q4 (k:Nat),Q4 0])):=by
 rcases hu with rfl | rfl <;> rfl
theorem Qb5 {s u:Nat} {x:Int} (hu:u=1\/u=2) {k0:Int->Bool->LL->oP R} :
  Zp 400 (ZF (ups s u)) k0 400 (wJ (((List.length (ZF (ups s u)):Nat):Int)-(1:Int))) [[D.int .i64 x,D.int .i64 (1:Int)]]
   = k0 (-1) false ([Q4 x,Q4 1]::((ups s u).reverse.map fun k=>[Q4 (k:Nat),Q4 1])):=by
 rcases hu with rfl | rfl <;> rfl
theorem Q8J {Tr Bt:LL} {g k c k' c' s u a b:Nat} {up:Bool} (hg:g<8) (hT:Tr[g]? = some [D.sl 1 (ZF (ups k c))]) (ac:Tr[g+1]? = some [D.sl 1 (ZF (ups k' c'))]) (hB:Bt[g]? = some [D.sl 1 (ZF (ups s u))])
  (hc:c=1\/c=2) (aj:c'=1\/c'=2) (hu:u=1\/u=2) (ha:a<2) (hb:b<2) (K:LL->Int->oP R) :
  Yl 400 Tr Bt (g:Int) (a:Int) (b:Int) up K=K (K3 s u (k+a % c) (k'+b % c') up) 0:=by
 have ak:wJ ((g:Int)+1)=((g+1:Nat):Int):=by grind [Q6]
 have hl:(ups s u).length=u:=by rcases hu with rfl | rfl <;> rfl
 have d:u<=2:=QnI
 unfold Yl;rw [Q0K hB];cases up
 ·rw [Q8 rfl];rw [ak,Q0K ac,Q0K ac,QgM aj hb,XF QnK,Q0];rw [Qb5 hu,Q0K hT,Q0K hT,QgM hc ha,XF (by simp [hl];omega),Q0];rfl
 ·rw [QP rfl,Q0K hT,Q0K hT,QgM hc ha,XF QnK,Q0];rw [Qb3 hu,ak,Q0K ac,Q0K ac,QgM aj hb,XF (by simp [hl];omega),Q0];rfl
end
def Sta (G:Geo) (x:Int):Prop:=∃ nm a b d i,Q1 G.Se x=some [D.str nm,Q4 a,Q4 b,Q4 d,Q4 i]/\0<=i/\x<6/\2<=a
structure RtOK (G:Geo) (s:LL) (x y:Int):Prop where
 l2:2<=s.length
 l24:s.length<=24
 rt:rtB G.Se.length G.Li s=true
 rt6:Qgu G.Se.length G.Li s=true
 hops:Ah G.Se.length G.Pt.length G.Li 0 s=true
 shp:∃ g x y up,g+1<G.N/\s=K3 (G.s g) (G.u g) x y up/\x∈ups (G.k g) (G.c g)/\y∈ups (G.k (g+1)) (G.c (g+1))
 st:∀ r∈s,Ds G.Se r
 sx:Sta G x
 sy:Sta G y
 fst:∃ d,Q1 s 0=some [Q4 x,Q4 d]
 lst:∃ d,Q1 s ((s.length:Int)-1)=some [Q4 y,Q4 d]
def Geo.tk (G:Geo) (i a:Nat):Int:=((G.k i+a % G.c i:Nat):Int)
theorem Q4K {x:Nat}:∀ {s u:Nat},x∈ups s u->∃ j,j<u/\x=s+j
 |s,0,h=>by simp [ups] at h
 |s,u+1,h=>by
  simp only [ups,List.mem_cons] at h;rcases h with rfl | h
  ·exact ⟨0,QnI,rfl⟩
  ·obtain ⟨j,a,h2⟩:=Q4K h;exact ⟨j+1,QnI,QnI⟩
theorem Fy {c a k:Nat} (hc:c=1\/c=2):(k+a % c)∈ups k c:=by
 rcases hc with rfl | rfl
 ·simp [ups,Nat.mod_one]
 grind [Nat.mod_lt,ups]
theorem Geo.OK.trk {G:Geo} (hG:G.OK) {i a:Nat} (hi:i<G.N):(∃ nm x b d,Q1 G.Se (G.tk i a)=some [D.str nm,Q4 x,Q4 b,Q4 d,Q4 i]/\SecN x b d):=
 hG.sec i hi (a % G.c i) (Nat.mod_lt _ (by rcases hG.ct i hi with h | h <;> omega))
theorem Q4i {P:List D->Prop} {s u x y:Nat} {up:Bool} (hx:∀ d,(d=0\/d=1)->P [Q4 x,Q4 d]) (hy:∀ d,(d=0\/d=1)->P [Q4 y,Q4 d]) (hs:∀ j,j<u->∀ d,(d=0\/d=1)->P [Q4 ((s+j:Nat):Int),Q4 d]):∀ r∈K3 s u x y up,P r:=by
 intro r hr;unfold K3 at hr;cases up
 ·simp only [QoV,List.cons_append,List.mem_cons,Qpd,List.mem_map,List.mem_reverse,List.not_mem_nil,or_false] at hr;rcases hr with rfl | ⟨k,hk,rfl⟩ | rfl
  ·simp_all
  ·obtain ⟨j,a,rfl⟩:=Q4K hk
   simp_all
  simp_all
 ·simp only [QoX,List.cons_append,List.mem_cons,Qpd,List.mem_map,List.not_mem_nil,or_false] at hr;rcases hr with rfl | ⟨k,hk,rfl⟩ | rfl
  ·simp_all
  ·obtain ⟨j,a,rfl⟩:=Q4K hk
   simp_all
  simp_all
theorem QfY {R:Type} {G:Geo} (hG:G.OK) {g a b:Nat} {up:Bool} (hg:g+1<G.N) (ha:a<2) (hb:b<2) :
  ∃ s,RtOK G s (bif up then G.tk g a else G.tk (g+1) b) (bif up then G.tk (g+1) b else G.tk g a)/\∀ K:LL->Int->oP R,Yl 400 G.Tr G.Bt (g:Int) (a:Int) (b:Int) up K=K s 0:=by
 have hN:=hG.hN;have hc:=hG.ct g QnI;have aq:=hG.ct (g+1) hg;have hu:=hG.ut g hg;obtain ⟨h,i,k,l,e1,c⟩:=hG.trk (a:=a) (show g<G.N by omega);obtain ⟨m,n,o,p,e2,e⟩:=hG.trk (a:=b) hg;have aj:=hG.rts g hg;unfold QbR at aj;have aj:=List.all_eq_true.1 (List.all_eq_true.1 aj _ (Fy hc (a:=a))) _ (Fy aq (a:=b));simp only [Qpm] at aj;have ac:=hG.rt6 g hg;unfold Q3S at ac;have ac:=List.all_eq_true.1 (List.all_eq_true.1 ac _ (Fy hc (a:=a))) _ (Fy aq (a:=b));simp only [QcI,Qpm] at ac;refine ⟨K3 (G.s g) (G.u g) (G.k g+a % G.c g) (G.k (g+1)+b % G.c (g+1)) up,?_,fun K=>Q8J QnI (hG.tr g QnI) (hG.tr (g+1) hg) (hG.bt g hg) hc aq hu ha hb K⟩;have ao:∀ r∈K3 (G.s g) (G.u g) (G.k g+a % G.c g) (G.k (g+1)+b % G.c (g+1)) up,Ds G.Se r:=by
  refine Q4i (fun d hd=>⟨_,_,_,_,_,_,_,rfl,e1,c,hd⟩) (fun d hd=>⟨_,_,_,_,_,_,_,rfl,e2,e,hd⟩) fun j hj d hd=>?_
  obtain ⟨n3,q,t,v,z,f,g1⟩:=hG.gap g hg j hj;exact ⟨_,_,_,_,_,_,_,rfl,f,g1,hd⟩
 have al:∃ g' x y ar,g'+1<G.N/\K3 (G.s g) (G.u g) (G.k g+a % G.c g) (G.k (g+1)+b % G.c (g+1)) up=K3 (G.s g') (G.u g') x y ar/\x∈ups (G.k g') (G.c g')/\y∈ups (G.k (g'+1)) (G.c (g'+1)):=
  ⟨g,_,_,up,hg,rfl,Fy hc,Fy aq⟩
 have m1:=hG.k6 g QnI;have m2:=hG.k6 (g+1) hg;have r1:=Nat.mod_lt a (show 0<G.c g by omega);have r2:=Nat.mod_lt b (show 0<G.c (g+1) by omega);have s1:Sta G (G.tk g a):=⟨_,_,_,_,_,e1,QnI,by unfold Geo.tk;omega,c.a0⟩;have s2:Sta G (G.tk (g+1) b):=⟨_,_,_,_,_,e2,QnI,by unfold Geo.tk;omega,e.a0⟩;revert ao aj ac al;generalize G.s g=s;generalize G.u g=u at hu;intro aj ac ao al;have hl:(K3 s u (G.k g+a % G.c g) (G.k (g+1)+b % G.c (g+1)) up).length=u+2:=by
  rcases hu with rfl | rfl <;> cases up <;> rfl
 cases up
 ·exact ⟨QnI,QnI,aj.2,ac.2.1,ac.2.2,al,ao,s2,s1,by rcases hu with rfl | rfl <;> exact ⟨1,rfl⟩,by rw [hl];rcases hu with rfl | rfl <;> exact ⟨1,rfl⟩⟩
 ·exact ⟨QnI,QnI,aj.1,ac.1.1,ac.1.2,al,ao,s1,s2,by rcases hu with rfl | rfl <;> exact ⟨0,rfl⟩,by rw [hl];rcases hu with rfl | rfl <;> exact ⟨0,rfl⟩⟩
def P5 (G:Geo) (Ro:LL) (row:List D) (x y:Int) (last:Bool):Prop:=
 ∃ (rt:Nat) (ex mn mx:Int) (s:LL),row=[Q4 rt,Q4 ex,Q4 mn,Q4 mx]/\Ro[rt]? = some [D.sl 2 s,Q4 0]/\RtOK G s x y/\(0<=ex/\ex<3)/\(0<=mn/\mn<=mx/\mx<=mn+3/\mn<=10)/\(last=true->mn=0/\mx=0)
def nmN (k:Nat):List UInt8:=bs [78]++[UInt8.ofNat (48+k)]
def Q2I (G:Geo) (Ro:LL) (rides:LL):Prop:=
 (∃ r x y,rides=[r]/\P5 G Ro r x y true)\/(∃ r r' x y z,rides=[r,r']/\P5 G Ro r x y false/\P5 G Ro r' y z true)
def Qag (G:Geo) (Ro:LL) (k:Nat) (row:List D):Prop:=∃ (w:Int) (rides:LL),row=[D.str (nmN k),Q4 0,Q4 w,D.sl 4 rides]/\0<=w/\w<4/\Q2I G Ro rides
structure GoodP (G:Geo) (Ro Ls:LL):Prop where
 ro:∀ row∈Ro,∃ s x y,row=[D.sl 2 s,Q4 0]/\RtOK G s x y
 ls:∀ k row,Ls[k]? = some row->Qag G Ro k row
theorem P5.mono {G:Geo} {Ro t:LL} {row:List D} {x y:Int} {b:Bool} (h:P5 G Ro row x y b):P5 G (Ro++t) row x y b:=by
 obtain ⟨rt,ex,mn,mx,s,a,h2,c⟩:=h;refine ⟨rt,ex,mn,mx,s,a,?_,c⟩
 grind
theorem Q2I.mono {G:Geo} {Ro t rides:LL} (h:Q2I G Ro rides):Q2I G (Ro++t) rides:=by
 rcases h with ⟨r,x,y,e,h⟩ | ⟨r,r',x,y,z,e,h,h'⟩
 ·exact .inl ⟨r,x,y,e,h.mono⟩
 ·exact .inr ⟨r,r',x,y,z,e,h.mono,h'.mono⟩
theorem Qag.mono {G:Geo} {Ro t:LL} {k:Nat} {row:List D} (h:Qag G Ro k row):Qag G (Ro++t) k row:=by
 obtain ⟨w,rides,a,h2,b,c⟩:=h;exact ⟨w,rides,a,h2,b,c.mono⟩
section
variable {R:Type} {l:List Int} (hl:l.length<=9223372036854775807) {P:R->Prop}
include hl
def atL (At:Nat->Nat):LL:=[[Q4 (At 0)],[Q4 (At 1)],[Q4 (At 2)]]
theorem QiT {i:Nat} (hi:i<=l.length) {k0:Int->Bool->LL->Int->oP R}
  (H:∀ (At:Nat->Nat) (j:Nat),(∀ i,At i<2)->j<=l.length->k0 3 false (atL At) (j:Int)∈P) :
  ZG 400 (encI l) k0 400 (0:Int) [[D.int .i64 (0:Int)],[D.int .i64 (0:Int)],[D.int .i64 (0:Int)]] (i:Int)∈P:=by
 refine V9 hl hi QnJ QnJ fun v0 j a0 b0 hj=>?_
 refine V9 hl hj QnJ QnJ fun d j a1 b1 hj=>?_
 refine V9 hl hj QnJ QnJ fun e j a2 b2 hj=>?_
 obtain ⟨a,rfl⟩:=Qpe a0;obtain ⟨b,rfl⟩:=Qpe a1;obtain ⟨c,rfl⟩:=Qpe a2;exact H (fun | 0=>a | 1=>b | _=>c) j (fun | 0=>by grind | 1=>by grind | _+2=>by grind) hj
end
theorem atA {R:Type} {At:Nat->Nat} {g:Nat} (hg:g<3) (K:Int->oP R) :
  gb true (inB 3 (g:Int)) () (fun _=>gb true ((atL At)[(Int.toNat (g:Int))]?) [] fun r=>gb true (r[0]?) oF fun c=>gb true (pIw c) 0 fun i=>K i)=K (At g):=by
 obtain rfl | rfl | rfl:g=0\/g=1\/g=2:=QnI
 all_goals rfl
section
variable {R:Type} {l:List Int} (hl:l.length<=9223372036854775807) {P:R->Prop} {G:Geo} (hG:G.OK)
include hl hG
theorem Qcj {up:Bool} {ac h g m:Nat} {acc Ro:LL} {At:Nat->Nat} (ak:∀ i,At i<2) (hm:ac<=2) (hh:h<ac) (hg:g=bif up then h else ac-1-h) (hN:ac<G.N) (hR:Ro.length<=100) (ha:acc.length<=10)
  {i:Nat} (hi:i<=l.length) {k0:Int->Bool->LL->LL->Int->oP R}
  (H:∀ (s:LL) (ex mn mx:Int) (j:Nat),RtOK G s (bif up then G.tk g (At g) else G.tk (g+1) (At (g+1))) (bif up then G.tk (g+1) (At (g+1)) else G.tk g (At g))->0<=ex/\ex<3->(0<=mn/\mn<=mx/\mx<=mn+3/\mn<=10)->(h+1=ac->mn=0/\mx=0)->j<=l.length ->
   QB 400 up (ac:Int) (atL At) G.Tr G.Bt (encI l) k0 m ((h+1:Nat):Int) (acc++[[Q4 (Ro.length:Nat),Q4 ex,Q4 mn,Q4 mx]]) (Ro++[[D.sl 2 s,Q4 0]]) (j:Int)∈P) :
  QB 400 up (ac:Int) (atL At) G.Tr G.Bt (encI l) k0 (m+1) (h:Int) acc Ro (i:Int)∈P:=by
 have aq:=hG.hN;have au:g<ac:=by
  rw [hg];cases up
  ·show ac-1-h<ac;omega
  ·exact hh
 have an:g+1<G.N:=QnI
 obtain ⟨s,hs,e⟩:=QfY (R:=LL×Int) hG (up:=up) an (ak g) (ak (g+1));have d:wJ ((h:Int)+1)=((h+1:Nat):Int):=by rw [Q6 QnI QnI];omega
 have f:wJ ((g:Int)+1)=((g+1:Nat):Int):=by rw [Q6 QnI QnI];omega
 have k:up=false->wJ (wJ ((ac:Int)-1)-(h:Int))=(g:Int):=by
  intro hu;rw [Q6 (x:=(ac:Int)-1) QnI QnI,Q6 QnI QnI];simp [hu] at hg;omega
 have aj:wJ ((((Ro++[[D.sl 2 s,Q4 0]]).length:Nat):Int)-1)=(Ro.length:Int):=by
  rw [show (Ro++[[D.sl 2 s,Q4 0]]).length=Ro.length+1 by simp,Q6 QnI QnI];omega
 rw [QB,QP QnL,d];cases up
 ·rw [QP (c:=!false) rfl,k rfl,f,atA QnI,atA QnI,e,Q0,XF QnL,Q0];refine V9 hl hi QnJ QnJ fun ex j a b hj=>?_
  dsimp only;rw [aj];by_cases hlast:h+1<ac
  ·rw [QP QnL];refine V9 hl hj QnJ QnJ fun mn j n o hj=>?_
   refine V9 hl hj QnJ QnJ fun mx j p q hj=>?_
   rw [XF QnL,Q0];dsimp only;rw [Q6 (x:=5+mn) QnI QnI,Q6 (x:=5+mn+mx) QnI QnI];exact H s ex (5+mn) (5+mn+mx) j hs ⟨a,b⟩ ⟨QnI,QnI,QnI,QnI⟩ (fun hx=>absurd hx QnI) hj
  ·rw [Q8 QnL,XF QnL,Q0];exact H s ex 0 0 j hs ⟨a,b⟩ ⟨QnI,QnI,QnI,QnI⟩ (fun hx=>⟨rfl,rfl⟩) hj
 ·have ao:g=h:=by simpa using hg
  subst ao;rw [Q8 (c:=!true) rfl,atA QnI,atA QnI,e,Q0,XF QnL,Q0];refine V9 hl hi QnJ QnJ fun ex j a b hj=>?_
  dsimp only;rw [aj];by_cases hlast:g+1<ac
  ·rw [QP QnL];refine V9 hl hj QnJ QnJ fun mn j n o hj=>?_
   refine V9 hl hj QnJ QnJ fun mx j p q hj=>?_
   rw [XF QnL,Q0];dsimp only;rw [Q6 (x:=5+mn) QnI QnI,Q6 (x:=5+mn+mx) QnI QnI];exact H s ex (5+mn) (5+mn+mx) j hs ⟨a,b⟩ ⟨QnI,QnI,QnI,QnI⟩ (fun hx=>absurd hx QnI) hj
  ·rw [Q8 QnL,XF QnL,Q0];exact H s ex 0 0 j hs ⟨a,b⟩ ⟨QnI,QnI,QnI,QnI⟩ (fun hx=>⟨rfl,rfl⟩) hj
omit hl hG in
theorem Q6p {n m:Nat} {f:Bool} {b a:Int} {g i j k c d:LL} {e:Int} {k0:Int->Bool->LL->LL->Int->oP R} (h:¬ a<b) :
  QB n f b g i j k k0 (m+1) a c d e=k0 a false c d e:=by
 rw [QB,Q8 (by simpa using h)];simp [h]
theorem Qhp {up:Bool} {ak:Nat} {Ro Ls:LL} (hm:ak=1\/ak=2) (hN:ak<G.N) (ac:GoodP G Ro Ls) (hR:Ro.length<=20) (hL:Ls.length<6)
  {i:Nat} (hi:i<=l.length) {K:Int->LL->LL->oP R}
  (H:∀ (Ro' Ls':LL) (j:Nat),GoodP G Ro' Ls'->Ls'.length=Ls.length+1->Ro'.length<=Ro.length+2->j<=l.length->K (j:Int) Ro' Ls'∈P) :
  Uu 400 G.Tr G.Bt (encI l) (i:Int) Ro Ls up (ak:Int) K∈P:=by
 unfold Uu;rw [Cs _ _ Ls.length QnI QnJ,Q0];refine V9 hl hi QnJ QnJ fun w j w0 c hj=>?_
 dsimp only;refine QiT hl hj fun At j aq hj=>?_
 rcases hm with rfl | rfl
 ·refine Qcj hl hG (h:=0) (g:=0) aq QnJ QnJ QnO hN QnI QnJ hj fun s ex mn mx j hs ao an hlast hj=>?_
  rw [Q6p QnJ];rw [XF QnL,Q0];refine H _ _ j ⟨fun row hr=>?_,fun k row hk=>?_⟩ QnK QnK hj
  ·rcases Qpd.1 hr with hr | hr
   ·exact ac.ro row hr
   grind
  ·rcases Nat.lt_or_ge k Ls.length with aj | aj
   ·rw [List.getElem?_append_left aj] at hk;exact (ac.ls k row hk).mono
   ·rw [List.getElem?_append_right aj] at hk;obtain ⟨a,rfl⟩:=Qp2.1 hk;simp at a;have b:k=Ls.length:=QnI
    subst b;refine ⟨w,_,by simp [nmN],w0,c,.inl ⟨_,_,_,rfl,Ro.length,ex,mn,mx,s,rfl,by simp,hs,ao,an,fun _=>hlast rfl⟩⟩
 ·obtain ⟨g0,d⟩:∃ g0,g0=bif up then 0 else 1:=⟨_,rfl⟩
  obtain ⟨g1,e⟩:∃ g1,g1=bif up then 1 else 0:=⟨_,rfl⟩
  refine Qcj hl hG (h:=0) (g:=g0) aq QnJ QnJ (by cases up <;> simpa using d) hN QnI QnJ hj fun s ex mn mx j hs ao an hlast hj=>?_
  refine Qcj hl hG (h:=1) (g:=g1) aq QnJ QnJ (by cases up <;> simpa using e) hN QnL QnK hj fun s' ay az a1 j au aw ar al hj=>?_
  have ax:(bif up then G.tk (g0+1) (At (g0+1)) else G.tk g0 (At g0))=(bif up then G.tk g1 (At g1) else G.tk (g1+1) (At (g1+1))):=by
   subst d e;cases up <;> rfl
  rw [ax] at hs;rw [Q6p QnJ];rw [XF QnL,Q0];refine H _ _ j ⟨fun row hr=>?_,fun k row hk=>?_⟩ QnK QnK hj
  ·rcases Qpd.1 hr with hr | hr
   ·rcases Qpd.1 hr with hr | hr
    ·exact ac.ro row hr
    ·rw [Qpl.1 hr];exact ⟨s,_,_,rfl,hs⟩
   ·rw [Qpl.1 hr];exact ⟨s',_,_,rfl,au⟩
  ·rcases Nat.lt_or_ge k Ls.length with aj | aj
   ·rw [List.getElem?_append_left aj] at hk;exact (ac.ls k row hk).mono.mono
   ·rw [List.getElem?_append_right aj] at hk;obtain ⟨a,rfl⟩:=Qp2.1 hk;simp at a;have b:k=Ls.length:=QnI
    subst b;refine ⟨w,_,by simp [nmN],w0,c,.inr ⟨_,_,_,_,_,rfl,P5.mono ⟨Ro.length,ex,mn,mx,s,rfl,by simp,hs,ao,an,fun h=>by cases h⟩,(Ro++[[D.sl 2 s,Q4 0]]).length,ay,az,a1,s',rfl,by simp,au,aw,ar,fun _=>al rfl⟩⟩
end
def HO (Ls:LL) (k i:Nat) (r:List D):Prop:=∃ nm w rides,Ls[k]? = some [D.str nm,Q4 0,Q4 w,D.sl 4 rides]/\rides[i]? = some r
theorem Qd (w:LL) (i:Nat):Q1 w (i:Int)=w[i]?:=by simp [Q1]
section
variable {R:Type} {n:Nat}
theorem QbJ {G:Geo} {Ro Ls:LL} {k i:Nat} {r:List D} {x y:Int} {b:Bool} (h:HO Ls k i r) (hr:P5 G Ro r x y b) {p:Int} {a1 a c e f:LL} (K:Int->oP R):Pp n p a1 Ro Ls a c e f (k:Int) (i:Int) K=K x:=by
 obtain ⟨nm,w,rides,j,h2⟩:=h;obtain ⟨rt,ex,mn,mx,s,rfl,l,g,_⟩:=hr;obtain ⟨d,m⟩:=g.fst
 simp_all [Pp,Qd,Q0,QoT,QoU,QJ,Q2]
theorem QeK {G:Geo} {Ro Ls:LL} {k i:Nat} {r:List D} {x y:Int} {b:Bool} (h:HO Ls k i r) (hr:P5 G Ro r x y b) {p:Int} {a1 c e f g:LL} (K:Int->oP R):Nd n p a1 Ro Ls c e f g (k:Int) (i:Int) K=K y:=by
 obtain ⟨nm,w,rides,j,h2⟩:=h;obtain ⟨rt,ex,mn,mx,s,rfl,l,a,_⟩:=hr;obtain ⟨d,m⟩:=a.lst;have l2:=a.l2;have l24:=a.l24;unfold Nd;rw [Qd,j,Q0];dsimp only [List.getElem?_cons_zero,List.getElem?_cons_succ];rw [Q0,QJ,Q0,Qd,h2,Q0];dsimp only [List.getElem?_cons_zero,List.getElem?_cons_succ];rw [Q0,Q2,Q0,Qd,l,Q0];dsimp only [List.getElem?_cons_zero,List.getElem?_cons_succ];rw [Q0,Q0,QJ,Q0,Q0,Q6 QnI QnI,m];rfl
end
theorem Q5H {G:Geo} {Ro Ls:LL} (hg:GoodP G Ro Ls) {k:Nat} (hk:k<Ls.length) :
  ∃ (w:Int) (rides:LL) (r r':List D) (x x' y y':Int) (b:Bool),Ls[k]? = some [D.str (nmN k),Q4 0,Q4 w,D.sl 4 rides]/\(rides.length=1\/rides.length=2)/\rides[0]? = some r/\rides[rides.length-1]? = some r'/\P5 G Ro r x y b/\P5 G Ro r' x' y' true:=by
 obtain ⟨w,rides,c,h2,d,a⟩:=hg.ls k _ (QoY hk);refine ⟨w,rides,?_⟩;rcases a with ⟨r,x,y,rfl,h⟩ | ⟨r,r',x,y,z,rfl,h,h'⟩
 all_goals grind
abbrev Tup:=Nat×Nat×Int×Int
def tuR (t:Tup):List D:=[Q4 t.1,Q4 t.2.1,Q4 t.2.2.1,Q4 t.2.2.2]
def Q9f (G:Geo) (Ro Ls:LL) (t:Tup):Prop:=
 t.1<Ls.length/\t.2.1<Ls.length/\10<=t.2.2.1/\t.2.2.1<=19/\t.2.2.1<=t.2.2.2/\t.2.2.2<=t.2.2.1+29 /\
 ∃ (nm:List UInt8) (w:Int) (rides:LL) (r r':List D) (x y z:Int) (b b':Bool),Ls[t.1]? = some [D.str nm,Q4 0,Q4 w,D.sl 4 rides]/\rides[rides.length-1]? = some r/\1<=rides.length/\rides.length<=2/\HO Ls t.2.1 0 r'/\P5 G Ro r x y b/\P5 G Ro r' y z b'
structure TInv (G:Geo) (Ro Ls:LL) (T:List Tup) (FA TA:LL):Prop where
 ok:∀ t∈T,Q9f G Ro Ls t
 fd:(T.map (·.1)).Nodup
 td:(T.map (·.2.1)).Nodup
 fl:∀ i,i<4->∃ b,FA[i]? = some [D.bool b]/\(b=false->i ∉ T.map (·.1))
 tl:∀ i,i<4->∃ b,TA[i]? = some [D.bool b]/\(b=false->i ∉ T.map (·.2.1))
theorem gbF {α R:Type} (p:oP α) (z:α) (k:α->oP R):gb false p z k=k (p.getD z):=by cases p <;> rfl
theorem TInv.add {G:Geo} {Ro Ls:LL} {T:List Tup} {FA TA:LL} (h:TInv G Ro Ls T FA TA) {t:Tup} (ht:Q9f G Ro Ls t) (d:t.1 ∉ T.map (·.1)) (h2:t.2.1 ∉ T.map (·.2.1)):TInv G Ro Ls (T++[t]) (FA.set t.1 [D.bool true]) (TA.set t.2.1 [D.bool true]) where
 ok:=fun u hu=>by
  rcases Qpd.1 hu with hu | hu
  ·exact h.ok u hu
  simp_all
 fd:=by
  rw [Qp9,List.nodup_append];refine ⟨h.fd,by simp,fun a ha b hb=>?_⟩
  grind
 td:=by
  rw [Qp9,List.nodup_append];refine ⟨h.td,by simp,fun a ha b hb=>?_⟩;simp at hb;subst hb;intro e;subst e;exact h2 ha
 fl:=fun i hi=>by
  obtain ⟨b,e,hb⟩:=h.fl i hi;by_cases ac:t.1=i
  ·subst ac;refine ⟨true,?_,fun h=>by cases h⟩;rw [List.getElem?_set_self (Qp2.1 e).1]
  ·refine ⟨b,by rw [List.getElem?_set_ne ac];exact e,fun c hm=>?_⟩;rw [Qp9] at hm;rcases Qpd.1 hm with hm | hm
   ·exact hb c hm
   ·simp at hm;exact ac hm.symm
 tl:=fun i hi=>by
  obtain ⟨b,e,hb⟩:=h.tl i hi;by_cases ac:t.2.1=i
  ·subst ac;refine ⟨true,?_,fun h=>by cases h⟩;rw [List.getElem?_set_self (Qp2.1 e).1]
  ·refine ⟨b,by rw [List.getElem?_set_ne ac];exact e,fun c hm=>?_⟩;rw [Qp9] at hm;rcases Qpd.1 hm with hm | hm
   ·exact hb c hm
   ·simp at hm;exact ac hm.symm
section
variable {R:Type} {l:List Int} (hl:l.length<=9223372036854775807) {P:R->Prop} {G:Geo} {Ro Ls:LL} (hg:GoodP G Ro Ls) (hL:Ls.length<=3)
include hl hg hL
theorem Qgs {a b m:Nat} {b1:Int} {FA TA c d e f:LL} {T:List Tup} (ha:a<Ls.length) (hb:b<Ls.length) (hT:TInv G Ro Ls T FA TA) (a2:T.length<=100) {i:Nat} (hi:i<=l.length) {k0:Int->Bool->LL->LL->LL->Int->oP R}
  (H:∀ (FA TA:LL) (T':List Tup) (j:Nat),TInv G Ro Ls T' FA TA->T'.length<=T.length+1->j<=l.length->Yg 400 (a:Int) (Ls.length:Int) c Ro Ls d e f (encI l) b1 k0 m ((b+1:Nat):Int) FA TA (T'.map tuR) (j:Int)∈P) :
  Yg 400 (a:Int) (Ls.length:Int) c Ro Ls d e f (encI l) b1 k0 (m+1) (b:Int) FA TA (T.map tuR) (i:Int)∈P:=by
 have au:wJ ((b:Int)+1)=((b+1:Nat):Int):=by rw [Q6 QnI QnI];omega
 rw [Yg,QP QnL,au];refine V9 hl hi QnJ QnJ fun v j v0 s hj=>?_
 dsimp only;have ac:=H FA TA T j hT QnI hj;by_cases hv:v=0
 ·subst hv;rw [show decide ((0:Int)>0)=false from rfl];simp only [gbF,QoV];exact ac
 rw [show decide (v>0)=true by simp;omega];obtain ⟨fb,ef,hf⟩:=hT.fl a QnI;obtain ⟨tb,et,ht⟩:=hT.tl b QnI;rw [YX QnI QnI,Q0,QoW,ef,Q0];show gb true (some (D.bool fb)) _ (fun n=>gb true (KA n) _ _)∈P;rw [Q0,show KA (D.bool fb)=some fb from rfl,Q0];cases fb
 case true=>
  simp only [gbF,QoZ,QoV,QoX];exact ac
 rw [show (bif true then !false else false)=true from rfl,YX QnI QnI,Q0,QoW,et,Q0];show gb true (some (D.bool tb)) _ (fun o=>gb true (KA o) _ _)∈P;rw [Q0,show KA (D.bool tb)=some tb from rfl,Q0];cases tb
 case true=>
  simp only [gbF,QoZ,QoV,QoX];exact ac
 obtain ⟨w,rides,u,r,z,x,y0,y,b0,e1,e2,e3,g,e5,h⟩:=Q5H hg ha;obtain ⟨w',an,r',r1,x',x1,y',y1,a5,g1,g2,p,g4,k,g6⟩:=Q5H hg hb;have ar:HO Ls a (rides.length-1) r:=⟨_,_,_,e1,g⟩;have al:HO Ls b 0 r':=⟨_,_,_,g1,p⟩;have ax:wJ ((rides.length:Int)-1)=((rides.length-1:Nat):Int):=by rw [Q6 QnI QnI];omega
 rw [show (bif true then !false else false)=true from rfl,YX QnI QnI,Q0,e1,Q0];show gb true (some (D.sl 4 rides)) _ (fun q=>gb true (pSl 4 q) _ _)∈P;rw [Q0,QJ,Q0,ax,QeK ar h,Q0,show (0:Int)=((0:Nat):Int) from rfl,QbJ al k,Q0];by_cases ak:y=x'
 case neg=>
  rw [Q8 (by simpa using ak)];exact ac
 subst ak;rw [QP QnK,Q0,Q0,Q0,Q0];refine V9 hl hj QnJ QnJ fun lo j l0 l1 hj=>?_
 refine V9 hl hj QnJ QnJ fun aj j h0 h1 hj=>?_
 dsimp only;rw [XF QnL,Q0,Q6 (x:=10+lo) QnI QnI,Q6 (x:=10+lo+aj) QnI QnI];have:=H _ _ (T++[(a,b,10+lo,10+lo+aj)]) j (hT.add (t:=(a,b,10+lo,10+lo+aj)) ⟨ha,hb,by simp;omega,by simp;omega,by simp;omega,by simp;omega,_,_,_,_,_,_,_,_,_,_,e1,g,QnI,QnI,al,h,k⟩ (hf rfl) (ht rfl)) QnK hj;rw [Qp9] at this;exact this
theorem QbL {a:Nat} {b1:Int} {c d e f:LL} (ha:a<Ls.length) {k0:Int->Bool->LL->LL->LL->Int->oP R}:∀ (k m b:Nat) (FA TA:LL) (T:List Tup) (i:Nat),b+k=Ls.length->k<m->TInv G Ro Ls T FA TA->T.length+k<=60->i<=l.length ->
  (∀ (FA TA:LL) (T':List Tup) (j:Nat),TInv G Ro Ls T' FA TA->T'.length<=T.length+k->j<=l.length->k0 (Ls.length:Int) false FA TA (T'.map tuR) (j:Int)∈P) ->
  Yg 400 (a:Int) (Ls.length:Int) c Ro Ls d e f (encI l) b1 k0 m (b:Int) FA TA (T.map tuR) (i:Int)∈P
 |0,m+1,b,FA,TA,T,i,hb,_,hT,ak,hi,H=>by
  subst hb;rw [Yg,Q8 QnK,show decide ((Ls.length:Int)<(Ls.length:Int))=false by simp]
  simp_all
 |k+1,m+1,b,FA,TA,T,i,hb,hm,hT,ak,hi,H=>by
  refine Qgs hl hg hL ha QnI hT QnI hi fun FA TA T' j al an hj=>?_
  exact QbL ha k m (b+1) FA TA T' j QnI QnI al QnI hj fun FA TA T'' j ac aj hj=>H FA TA T'' j ac QnI hj
theorem Qbs {b1:Int} {b c d e:LL} {k0:Int->Bool->LL->LL->LL->Int->oP R}:∀ (k m a:Nat) (FA TA:LL) (T:List Tup) (i:Nat),a+k=Ls.length->k<m->TInv G Ro Ls T FA TA->T.length+3*k<=50->i<=l.length ->
  (∀ (FA TA:LL) (T':List Tup) (j:Nat),TInv G Ro Ls T' FA TA->T'.length<=T.length+3*k->j<=l.length->k0 (Ls.length:Int) false FA TA (T'.map tuR) (j:Int)∈P) ->
  WF 400 (Ls.length:Int) b Ro Ls c d e (encI l) b1 k0 m (a:Int) FA TA (T.map tuR) (i:Int)∈P
 |0,m+1,a,FA,TA,T,i,hb,_,hT,ak,hi,H=>by
  subst hb;rw [WF,Q8 QnK,show decide ((Ls.length:Int)<(Ls.length:Int))=false by simp]
  simp_all
 |k+1,m+1,a,FA,TA,T,i,hb,hm,hT,ak,hi,H=>by
  rw [WF,QP QnL];refine QbL hl hg hL QnI Ls.length 400 0 FA TA T i QnI QnI hT QnI hi fun FA TA T' j al an hj=>?_
  rw [show wJ ((a:Int)+1)=((a+1:Nat):Int) by grind [Q6]];exact Qbs k m (a+1) FA TA T' j QnI QnI al QnI hj fun FA TA T'' j ac aj hj=>H FA TA T'' j ac QnI hj
theorem Qgj {b1:Int} {a b c d:LL} {i:Nat} (hi:i<=l.length) {K:Int->LL->oP R}
  (H:∀ (T:List Tup) (j:Nat),(∀ t∈T,Q9f G Ro Ls t)->(T.map (·.1)).Nodup->(T.map (·.2.1)).Nodup->T.length<=20->j<=l.length->K (j:Int) (T.map tuR)∈P) :
  SO 400 (encI l) (i:Int) b1 a Ro Ls b [] c d K∈P:=by
 refine Qbs hl hg hL (T:=[]) Ls.length 400 0 _ _ i QnI QnI ⟨by simp,by simp,by simp,?_,?_⟩ QnL hi fun FA TA T j hT ac hj=>?_
 ·intro i hi;obtain rfl | rfl | rfl | rfl:i=0\/i=1\/i=2\/i=3:=QnI
  all_goals simp
 ·intro i hi;obtain rfl | rfl | rfl | rfl:i=0\/i=1\/i=2\/i=3:=QnI
  all_goals simp_all
 ·exact H T j hT.ok hT.fd hT.td (by grind) hj
end
theorem Hv {w:LL} {x:Int} {r:List D} (h:Q1 w x=some r):inB w.length x=some ()/\w[x.toNat]? = some r:=by
 grind [Q1,List.getElem?_eq_some_iff,YX]
def Q5g (G:Geo) (per:Int) (Ro Ls:LL) (row:List D):Prop:=
 ∃ (f fr t tr:Nat) (mn mx w:Int) (r r':List D) (x y x' y':Int) (b b':Bool) (i:Int),row=[Q4 f,Q4 fr,Q4 t,Q4 tr,Q4 mn,Q4 mx,Q4 w]/\HO Ls f fr r/\HO Ls t tr r'/\P5 G Ro r x y b/\P5 G Ro r' x' y' b'/\f≠t/\(0<=mn/\mn<20/\mn<=mx/\mx<mn+per)/\(0<=w/\w<3) /\
  (∃ nm a c d,Q1 G.Se y=some [D.str nm,Q4 a,Q4 c,Q4 d,Q4 i])/\(∃ nm a c d,Q1 G.Se x'=some [D.str nm,Q4 a,Q4 c,Q4 d,Q4 i])/\0<=i
def Qhz (per:Int) (Ls:LL) (row:List D):Prop:=∃ o:Int,row=[Q4 0,Q4 0,Q4 1,Q4 0,Q4 o]/\0<=o/\o<per/\2<=Ls.length
def QhK (N:Nat) (row:List D):Prop:=∃ f t w:Int,row=[Q4 f,Q4 t,Q4 w]/\(0<=f/\f<N)/\(0<=t/\t<N)/\f≠t/\1<=w/\w<=9
def Q0l (Sk:LL):Prop:=∃ a b c d:Int,Sk=[[D.str (bs [88]),Q4 a,Q4 b,Q4 c,Q4 d]]/\StkN a b c d
structure PlanR (G:Geo) (per:Int) (Sk Ro Ls Ch Tu Sy De:LL):Prop where
 ok:G.OK
 p0:90<=per
 p1:per<=300
 sk:Q0l Sk
 good:GoodP G Ro Ls
 l0:1<=Ls.length
 l1:Ls.length<=3
 rl:Ro.length<=6
 ch:∀ row∈Ch,Q5g G per Ro Ls row
 chl:Ch.length<=2
 tu:∃ T:List Tup,Tu=T.map tuR/\(∀ t∈T,Q9f G Ro Ls t)/\(T.map (·.1)).Nodup/\(T.map (·.2.1)).Nodup/\T.length<=20
 sy:∀ row∈Sy,Qhz per Ls row
 syl:Sy.length<=1
 de:∀ row∈De,QhK G.N row
 del:De.length<=2
theorem Qjd {pl:LL} (hp:pl=[[D.int .i64 (150:Int)],[D.int .i64 (120:Int)],[D.int .i64 (180:Int)],[D.int .i64 (240:Int)],[D.int .i64 (300:Int)],[D.int .i64 (90:Int)]]) {v:Int} (a:0<=v) (b:v<6) :
  ∃ per:Int,90<=per/\per<=300/\∀ {R:Type} (K:Int->oP R),gb true (inB (List.length pl) v) () (fun _=>gb true (pl[(Int.toNat v)]?) [] fun r=>gb true (r[0]?) oF fun c=>gb true (pIw c) 0 fun i=>K i)=K per:=by
 subst hp;obtain rfl | rfl | rfl | rfl | rfl | rfl:v=0\/v=1\/v=2\/v=3\/v=4\/v=5:=QnI
 ·exact ⟨150,QnI,QnI,fun K=>rfl⟩
 ·exact ⟨120,QnI,QnI,fun K=>rfl⟩
 ·exact ⟨180,QnI,QnI,fun K=>rfl⟩
 ·exact ⟨240,QnI,QnI,fun K=>rfl⟩
 ·exact ⟨300,QnI,QnI,fun K=>rfl⟩
 ·exact ⟨90,QnI,QnI,fun K=>rfl⟩
theorem D1 {G:Geo} {Ro Ls:LL} (hg:GoodP G Ro Ls) {k:Nat} (hk:k<Ls.length):∃ (w:Int) (rides:LL),Ls[k]? = some [D.str (nmN k),Q4 0,Q4 w,D.sl 4 rides]/\(rides.length=1\/rides.length=2)/\∀ i,i<rides.length->∃ r x y b,HO Ls k i r/\P5 G Ro r x y b:=by
 obtain ⟨w,rides,c,h2,d,a⟩:=hg.ls k _ (QoY hk);have he:Ls[k]? = some [D.str (nmN k),Q4 0,Q4 w,D.sl 4 rides]:=by simp_all
 refine ⟨w,rides,he,?_⟩;rcases a with ⟨r,x,y,rfl,h⟩ | ⟨r,r',x,y,z,rfl,h,h'⟩
 ·refine ⟨.inl rfl,fun i hi=>?_⟩;have hi:i=0:=by simp_all
  subst hi;exact ⟨r,x,y,true,⟨_,_,_,he,rfl⟩,h⟩
 ·refine ⟨.inr rfl,fun i hi=>?_⟩;obtain rfl | rfl:i=0\/i=1:=by grind
  ·exact ⟨r,x,y,false,⟨_,_,_,he,rfl⟩,h⟩
  ·exact ⟨r',y,z,true,⟨_,_,_,he,rfl⟩,h'⟩
section
variable {R:Type} {l:List Int} (hl:l.length<=9223372036854775807) {P:R->Prop} {G:Geo} (hG:G.OK)
include hl hG
theorem Q2y {k0:Int->Bool->Int->LL->LL->oP R}:∀ (c m:Nat) (Ro Ls:LL) (i:Nat),c<m->Ls.length+c<=3->Ro.length<=2*Ls.length->GoodP G Ro Ls->i<=l.length ->
  (∀ (Ro' Ls':LL) (j:Nat),GoodP G Ro' Ls'->Ls'.length=Ls.length+c->Ro'.length<=2*Ls'.length->j<=l.length->k0 0 false (j:Int) Ro' Ls'∈P) ->
  JF 400 (encI l) G.Tr G.Bt k0 m (c:Int) (i:Int) Ro Ls∈P
 |0,m+1,Ro,Ls,i,_,_,hR,hg,hi,H=>by
  rw [JF];rw [Q8 QnK,show decide (((0:Nat):Int)>0)=false by simp];exact H Ro Ls i hg rfl hR hi
 |c+1,m+1,Ro,Ls,i,hm,hL,hR,hg,hi,H=>by
  have hN:=hG.hN;have hb:=hG.btl;rw [JF];rw [QP QnK];refine V9 hl hi QnJ QnJ fun v j a b hj=>?_
  dsimp only;refine V9 hl hj QnI QnI fun d j g0 g1 hj=>?_
  dsimp only;obtain ⟨nv,rfl⟩:=Qpe g0;rw [Q6 (x:=1+(nv:Int)) QnI QnI,show (1:Int)+(nv:Int)=((1+nv:Nat):Int) by omega];refine okB (Qhp hl hG QnI QnI hg QnI QnI hj fun Ro' Ls' j al ar aq hj=>okI ?_);dsimp only;rw [show wJ (((c+1:Nat):Int)-1)=(c:Int) by rw [Q6 QnI QnI];omega];exact Q2y c m Ro' Ls' j QnI QnI QnI al hj fun Ro'' Ls'' j ac ao aj hj=>H Ro'' Ls'' j ac QnI aj hj
omit hG in
theorem Mw {per:Int} {Ro Ls k n:LL} (d:90<=per) (e:per<=300) (hg:GoodP G Ro Ls) (hL:Ls.length<=3) {k0:Int->Bool->Int->LL->oP R}:∀ (c m:Nat) (Ch:LL) (i:Nat),c<m->Ch.length+c<=2->(∀ row∈Ch,Q5g G per Ro Ls row)->i<=l.length ->
  (∀ (h:Int) (b:Bool) (Ch:LL) (j:Nat),(∀ row∈Ch,Q5g G per Ro Ls row)->Ch.length<=2->j<=l.length->k0 h b (j:Int) Ch∈P) ->
  Vz 400 per (encI l) k Ro Ls G.Se n k0 m (c:Int) (i:Int) Ch∈P
 |0,m+1,Ch,i,_,az,hC,hi,H=>by
  grind [Vz]
 |c+1,m+1,Ch,i,hm,az,hC,hi,H=>by
  rw [Vz];rw [show decide (((c+1:Nat):Int)>0)=true by simp,QoX];by_cases o:Ls.length<=1
  ·rw [show decide ((Ls.length:Int)>1)=false by simp;omega,QoV];exact H _ _ Ch i hC QnI hi
  rw [show decide ((Ls.length:Int)>1)=true by simp;omega,QoX];refine V9 hl hi QnI QnI fun v j p o hj=>?_
  refine V9 hl hj QnJ QnJ fun w j w0 q hj=>?_
  dsimp only;obtain ⟨f,rfl⟩:=Qpe p;have hf:f<Ls.length:=QnI
  obtain ⟨t,et,ht,a3⟩:∃ t:Nat,Int.tmod (wJ ((f:Int)+1)) (Ls.length:Int)=(t:Int)/\t<Ls.length/\f≠t:=by
   rw [Q6 QnI QnI,Qph QnI];refine ⟨(f+1) % Ls.length,by simp,Nat.mod_lt _ QnI,?_⟩;by_cases h:f+1<Ls.length
   ·rw [Nat.mod_eq_of_lt h];omega
   ·rw [show f+1=Ls.length by omega,Nat.mod_self];omega
  rw [et];obtain ⟨w2,rides,e1,e2,s⟩:=D1 hg hf;obtain ⟨bc,au,a4,a6,aw⟩:=D1 hg ht;rw [Ng QnI,Q0,YX QnI QnI,Q0,QoW,e1,Q0];dsimp only [List.getElem?_cons_zero,List.getElem?_cons_succ];rw [Q0,QJ,Q0];refine V9 hl hj QnI QnI fun fr j a0 a1 hj=>?_
  dsimp only;rw [YX QnI QnI,Q0,QoW,a4,Q0];dsimp only [List.getElem?_cons_zero,List.getElem?_cons_succ];rw [Q0,QJ,Q0];refine V9 hl hj QnI QnI fun tr j b0 b1 hj=>?_
  refine V9 hl hj QnJ QnJ fun mn j c0 c1 hj=>?_
  dsimp only;refine V9 hl hj QnI QnI fun mx j d0 d1 hj=>?_
  dsimp only;obtain ⟨fr,rfl⟩:=Qpe a0;obtain ⟨tr,rfl⟩:=Qpe b0;obtain ⟨r,x,y,b,hr,hR⟩:=s fr QnI;obtain ⟨r',x',y',b',ak,al⟩:=aw tr QnI;have an:=hR;have aj:=al;obtain ⟨_,_,_,_,_,_,_,hS,_⟩:=hR;obtain ⟨_,_,_,_,_,_,_,ay,_⟩:=al;obtain ⟨ab,a1,c1,d1,g,g1,u⟩:=hS.sy;obtain ⟨ac,a2,c2,d2,z,a,g4⟩:=ay.sx;rw [QeK hr an,Q0,(Hv g1).1,Q0,(Hv g1).2,Q0];dsimp only [List.getElem?_cons_zero,List.getElem?_cons_succ];rw [Q0,Q2,Q0,QbJ ak aj,Q0,(Hv a).1,Q0,(Hv a).2,Q0];dsimp only [List.getElem?_cons_zero,List.getElem?_cons_succ];rw [Q0,Q2,Q0];have ax:wJ (((c+1:Nat):Int)-1)=(c:Int):=by rw [Q6 QnI QnI];omega
  rw [ax];by_cases aq:g=z
  ·subst aq;rw [QP QnK,XF QnL,Q0,Q6 (x:=mn+mx) QnI QnI];refine Mw d e hg hL c m _ j QnI QnL (fun row ao=>?_) hj H;rcases Qpd.1 ao with h | h
   ·exact hC row h
   ·rw [Qpl.1 h];exact ⟨f,fr,t,tr,mn,mn+mx,w,r,r',x,y,x',y',b,b',g,rfl,hr,ak,an,aj,a3,⟨QnI,QnI,QnI,QnI⟩,⟨w0,q⟩,⟨_,_,_,_,g1⟩,⟨_,_,_,_,a⟩,u.1⟩
  ·rw [Q8 (by simpa using aq)];exact Mw d e hg hL c m _ j QnI QnI hC hj H
omit hl hG in
theorem Qji {N:Nat} (hN:N=2\/N=3) {f v:Int} (a:0<=f) (b:f<N) (g0:0<=v) (g1:v<N-1):∃ t:Int,Int.tmod (wJ ((wJ (f+1))+v)) (N:Int)=t/\(0<=t/\t<N)/\f≠t:=by
 rw [Q6 (x:=f+1) QnI QnI,Q6 QnI QnI,Qph QnI]
 grind
theorem Q1c {k0:Int->Bool->Int->LL->oP R}:∀ (c m:Nat) (De:LL) (i:Nat),c<m->De.length+c<=2->(∀ row∈De,QhK G.N row)->i<=l.length ->
  (∀ (h:Int) (b:Bool) (De:LL) (j:Nat),(∀ row∈De,QhK G.N row)->De.length<=2->j<=l.length->k0 h b (j:Int) De∈P) ->
  UO 400 (encI l) G.St k0 m (c:Int) (i:Int) De∈P
 |0,m+1,De,i,_,ak,hD,hi,H=>by
  rw [UO];rw [show decide (((0:Nat):Int)>0)=false by simp,QoV];exact H _ _ De i hD QnI hi
 |c+1,m+1,De,i,hm,ak,hD,hi,H=>by
  have hN:=hG.hN;rw [UO];rw [show decide (((c+1:Nat):Int)>0)=true by simp,QoX,hG.st,Q6 (x:=(G.N:Int)-1) QnI QnI];refine V9 hl hi QnI QnI fun f j a d hj=>?_
  dsimp only;refine V9 hl hj QnI QnI fun v j g0 g1 hj=>?_
  dsimp only;rw [Ng QnI,Q0];refine V9 hl hj QnJ QnJ fun w j w0 e hj=>?_
  dsimp only;obtain ⟨t,et,ht,al⟩:=Qji hN a d g0 g1;rw [XF QnL,Q0,et,Q6 (x:=1+w) QnI QnI,show wJ (((c+1:Nat):Int)-1)=(c:Int) by rw [Q6 QnI QnI];omega];refine Q1c c m _ j QnI QnL (fun row ac=>?_) hj H;rcases Qpd.1 ac with h | h
  ·exact hD row h
  ·rw [Qpl.1 h];exact ⟨f,t,1+w,rfl,⟨a,d⟩,ht,al,QnI,QnI⟩
omit hl hG in
theorem Qeh {n:Nat} {l s:LL} {k0:Int->Bool->Int->LL->oP R}:∀ (m:Nat) (a:Int) (c:Int) (d:LL),Ks n l s k0 m a c d=UO n l s k0 m a c d
 |0,_,_,_=>rfl
 |m+1,a,c,d=>by
  rw [Ks,UO];simp only [Qeh m]
end
theorem Q5q {v:Int} (h:0<=v):∃ n:Nat,v=(n:Int):=Qpe h
theorem QhM {R:Type} {l:List Int} (hl:l.length<=9223372036854775807) {P:R->Prop} {K:LL->LL->LL->LL->Int->LL->LL->LL->LL->LL->LL->LL->oP R}
  (H:∀ (G:Geo) (per:Int) (Sk Ro Ls Ch Tu Sy De:LL),PlanR G per Sk Ro Ls Ch Tu Sy De->K G.St G.Pt G.Se G.Li per Sk Ro Ls Ch Tu Sy De∈P):PD 400 (encI l) K∈P:=by
 unfold PD Nm;rw [Q0];dsimp only;refine okB (QiR (i:=0) hl (Nat.zero_le _) fun G j hG hj=>okI ?_);dsimp only;refine V9 hl hj QnJ QnJ fun v j f g hj=>?_
 dsimp only;obtain ⟨per,p0,p1,e⟩:=Qjd rfl f g;rw [e];refine V9 hl hj QnJ QnJ fun a j a0 a1 hj=>?_
 refine V9 hl hj QnJ QnJ fun b j b0 b1 hj=>?_
 refine V9 hl hj QnJ QnJ fun c j c0 c1 hj=>?_
 refine V9 hl hj QnJ QnJ fun d j d0 d1 hj=>?_
 refine V9 hl hj QnJ QnJ fun k j k0 k1 hj=>?_
 dsimp only;obtain ⟨k,rfl⟩:=Q5q k0;rw [Q6 (x:=1+(k:Int)) QnI QnI,show (1:Int)+(k:Int)=((k+1:Nat):Int) by omega,Q6 (x:=1+a) QnI QnI,Q6 (x:=5000*b) QnI QnI,Q6 (x:=10000+5000*b) QnI QnI,Q6 (x:=200*c) QnI QnI,Q6 (x:=400+200*c) QnI QnI,Q6 (x:=200*d) QnI QnI,Q6 (x:=400+200*d) QnI QnI];have ac:Q0l [[D.str (bs [88]),D.int .i64 (1+a),D.int .i64 (10000+5000*b),D.int .i64 (400+200*c),D.int .i64 (400+200*d)]]:=⟨_,_,_,_,rfl,QnI,QnI,QnI,QnI,QnI,QnI,QnI,QnI⟩;revert ac;generalize [[D.str (bs [88]),D.int .i64 (1+a),D.int .i64 (10000+5000*b),D.int .i64 (400+200*c),D.int .i64 (400+200*d)]]=Sk;intro ac;refine Q2y hl hG (k+1) 400 [] [] j QnI QnL QnK ⟨(fun row h=>nomatch h),(fun k row h=>nomatch h)⟩ hj fun Ro Ls j hg hL hR hj=>?_
 simp at hL;refine okB (Qgj hl hg QnI hj fun T j al ak aq an hj=>okI ?_);dsimp only;refine V9 hl hj QnJ QnJ fun k j k0 k1 hj=>?_
 dsimp only;obtain ⟨k,rfl⟩:=Q5q k0;refine Mw hl p0 p1 hg QnI k 400 [] j QnI QnL (fun row h=>nomatch h) hj fun f b0 Ch j hC ao hj=>?_
 refine V9 hl hj QnJ QnJ fun v j f g hj=>?_
 dsimp only;by_cases hv:v=3/\1<Ls.length
 ·obtain ⟨rfl,h2⟩:=hv;rw [show ((3:Int) == 3)=true from rfl,show decide ((Ls.length:Int)>1)=true by simp;omega,QoX,QoX];refine V9 hl hj QnI QnI fun o j o0 o1 hj=>?_
  dsimp only;rw [XF QnK,Q0];refine V9 hl hj QnJ QnJ fun k j k0 k1 hj=>?_
  dsimp only;obtain ⟨k,rfl⟩:=Q5q k0;refine Q1c hl hG k 400 [] j QnI QnL (fun row h=>nomatch h) hj fun f b0 De j hD aj hj=>?_
  refine H G per Sk Ro Ls Ch _ _ De ⟨hG,p0,p1,ac,hg,QnI,QnI,QnI,hC,ao,⟨T,rfl,al,ak,aq,an⟩,fun row h=>?_,by simp,hD,aj⟩;simp at h;exact ⟨o,h,o0,o1,h2⟩
 ·rw [show (bif (v == (3:Int)) then (decide (((List.length Ls:Nat):Int)>(1:Int))) else false)=false by
   by_cases m:v=3
   ·rw [show (v == (3:Int))=true by simp [m],QoX];simp;omega
   ·rw [show (v == (3:Int))=false by simpa using m,QoV]]
  rw [QoV];refine V9 hl hj QnJ QnJ fun k j k0 k1 hj=>?_
  dsimp only;obtain ⟨k,rfl⟩:=Q5q k0;rw [Qeh];refine Q1c hl hG k 400 [] j QnI QnL (fun row h=>nomatch h) hj fun f b0 De j hD aj hj=>?_
  exact H G per Sk Ro Ls Ch _ _ De ⟨hG,p0,p1,ac,hg,QnI,QnI,QnI,hC,ao,⟨T,rfl,al,ak,aq,an⟩,(fun row h=>nomatch h),by simp,hD,aj⟩
end Go.Vx
namespace Go.Vx
variable {R:Type} (n:Nat)
def Zl (n:Nat) (d:LL) (c:Int) (k0:oP R) (k1:Qkk R):Qkl R
 | 0,_=>none
 | m+1,a=>bif decide (a<c) then QjU R d a fun e=>Qjr R (pSl 4 e) fun f=>bif decide ((f.length:Int)>12) then k0 else Zl n d c k0 k1 m (wJ (a+1)) else k1 a (decide (a<c))
def Uw (i j k l:LL) (c:Int) (d e b f g h m:LL) (K:Qkj R):oP R:=Qjr R (Za n i j k l some) fun o=>bif o !=0 then K 1 else jn (fun (p:Bool)=>bif p then K 7 else Zl n b (b.length:Int) (K 7) (fun q r=>bif Qjn (decide (c<2)) (decide (c>7200)) then K 4 else K 0) n 0) fun a=>Qjp R (decide ((d.length:Int)>8)) fun y=>bif y then a y else Qjp R (decide ((e.length:Int)>48)) fun v=>bif v then a v else Qjp R (decide ((b.length:Int)>16)) fun x=>bif x then a x else Qjp R (decide ((f.length:Int)>32)) fun u=>bif u then a u else Qjp R (decide ((g.length:Int)>32)) fun t=>bif t then a t else Qjp R (decide ((h.length:Int)>32)) fun s=>bif s then a s else a (decide ((m.length:Int)>32))
def YM (b:LL) (h2:Int) (c d e f:LL) (k0:Qkj R) (k1:Qkk R):Qkl R
 | 0,_=>none
 | m+1,a=>bif decide (a<h2) then QjP R b a fun i j=>QjW R i j fun k l=>Qjr R (Th n c d e f k l some) fun h=>bif h !=0 then k0 h else YM b h2 c d e f k0 k1 m (wJ (a+1)) else k1 a (decide (a<h2))
def WI (b c d e:LL) (g:Int) (h a i j k l m:LL) (K:Qkj R):oP R:=YM n a (a.length:Int) b c d e (fun f=>K f) (fun o p=>K 0) n 0
def Ji (ac ad ae ag:LL) (d:Int) (g b k l m o p:LL) (bt:List UInt8) (ah bu:Int) (e:LL) (a:Int) (K:Qkj R):oP R:=QjT R e a fun i q r s=>jn (fun (ai:Bool)=>(bif ai then K 4 else Qkd R i b fun ak al=>QjE R g ah fun f am an ao=>QjO R f fun ap aq=>QjW R ak al fun ar au=>Qjr R (Rw am) fun av=>Qk1 R an ao ap aq fun aw ax ay az=>Qjr R (JS n ac ad ae ag ar au av aw ax ay az some) fun u=>bif u !=0 then K u else Qjp R (decide (a>0)) fun bv=>QjK R i bv q fun ba bb=>QjK R r bv s fun bc bd=>Qjs R bv (HM n d g b k l m o p ba bb bc bd some) fun be=>Qjs R bv (Q1 e (wJ (a-1))) fun j=>Qkg R j bv fun bg bh=>Qjs R bv j[2]? fun bi=>Qjs R bv j[3]? fun bj=>QjK R bg bv bh fun bk bl=>QjK R bi bv bj fun bm bn=>Qjs R bv (Px n d g b k l m o p bk bl bm bn some) fun bo=>bif Qjo bv (be !=bo) then K 11 else K 0:oP R)) fun c=>Qjr R (pIw i) fun v=>bif decide (v<0) then c (decide (v<0)) else Qjr R (pIw i) fun x=>Qjp R (decide (x>=(b.length:Int))) fun bz=>bif bz then c bz else Qjr R (pIw q) fun y=>bif decide (y<0) then c (decide (y<0)) else Qjr R (pIw q) fun z=>bif decide (z>=d) then c (decide (z>=d)) else QjC R r s fun bp bq=>Qjr R (GN n d g b k l m o p bp bq some) fun aa=>bif !aa then c (!aa) else Qjp R (a==wJ ((e.length:Int)-1)) fun bx=>Qjs R bx (pIw r) fun ab=>Qjs R (bx&&!(ab !=0)) (pIw s) fun br=>c (Qjo bx (Qjn (ab !=0) (br !=0)))
def Zk (b:Int) (c d e f:LL) (g:Int) (h i j k l o p:LL) (q:List UInt8) (r s:Int) (t:LL) (k0:Qkj R) (k1:Qkk R):Qkl R
 | 0,_=>none
 | m+1,a=>bif decide (a<b) then Qjr R (Ji n c d e f g h i j k l o p q r s t a some) fun u=>bif u !=0 then k0 u else Zk b c d e f g h i j k l o p q r s t k0 k1 m (wJ (a+1)) else k1 a (decide (a<b))
def Zj (h:LL) (h2:Int) (i j k l:LL) (o:Int) (c p d q r s t:LL) (k0:Qkj R) (k1:Qkk R):Qkl R
 | 0,_=>none
 | m+1,a=>bif decide (a<h2) then QjT R h a fun u y z aa=>Qjr R (Rw u) fun ab=>Qjr R (GW n ab some) fun ac=>bif !ac then k0 3 else Qjr R (slB d.length none (some a)) fun ad=>Qjr R (Rw u) fun v=>QjC R y z fun b x=>Qjr R (pSl 4 aa) fun f=>Qjr R (Qo n (cut d ad) v some) fun ae=>bif ae then k0 5 else jn (fun (ag:Bool)=>bif ag then k0 4 else bif (f.length:Int)==0 then k0 1 else Zk n (f.length:Int) i j k l o c p d q r s t v b x f (fun ah=>k0 ah) (fun aj ak=>Zj h h2 i j k l o c p d q r s t k0 k1 m (wJ (a+1))) n 0) fun g=>bif decide (b<0) then g (decide (b<0)) else Qjp R (decide (b>=(c.length:Int))) fun al=>bif al then g al else Qjr R (HV n x some) fun ai=>g (!ai) else k1 a (decide (a<h2))
def UJ (b c d e:LL) (f:Int) (g h a i j k l:LL) (K:Qkj R):oP R:=Zj n a (a.length:Int) b c d e f g h a i j k l (fun m=>K m) (fun o p=>K 0) n 0
def Q97 (a b c d:LL) (e:Int) (f g h i j k l:LL):Bool:=Q7D (Uw n a b c d e f g h i j k l some)&&Q7D (WK n a b c d e f g h i j k l some)&&Q7D (WI n a b c d e f g h i j k l some)&&Q7D (UJ n a b c d e f g h i j k l some)&&Q7D (Wa n a b c d e f g h i j k l some)&&Q7D (UH n a b c d e f g h i j k l some)&&Q7D (UA n a b c d e f g h i j k l some)&&Q7D (ZU n a b c d e f g h i j k l some)
def VQ (a b c d:LL) (e:Int) (f g h i j k l:LL) (K:Qkj R):oP R:=bif Q97 n a b c d e f g h i j k l then K 0 else none
end Go.Vx
namespace Go.Vx
theorem Qv {h:Nat} (hh:h<=1000):wJ ((h:Int)+1)=((h+1:Nat):Int):=by rw [Q6 QnI QnI];omega
theorem Qe {h k:Nat} (hh:h<k):decide ((h:Int)<(k:Int))=true:=by simpa using hh
theorem Qj (k:Nat):decide ((k:Int)<(k:Int))=false:=by simp
section
variable {R:Type} {St Pt Se Li Sk Ro Ls Ch Tu Sy De:LL} {per:Int} {n:Nat}
theorem Q4f {mn mx:Int} (a:0<=mn) (b:mn<=mx) (h2:mx<mn+per) (c:mn<=1000) (p1:per<=300) (K:Bool->oP R):GN n per Sk Ro Ls Ch Tu Sy De mn mx K=K true:=by
 unfold GN;rw [show decide ((0:Int)<=mn)=true by simpa using a,show decide (mn<=mx)=true by simpa using b,show decide (mx<=(7200:Int))=true by simp;omega,Q6 QnI QnI,show decide (mx<mn+per)=true by simpa using h2];rfl
theorem Q1T {k:Nat} (h:k<Ls.length) (K:Bool->oP R):JE n per Sk Ro Ls Ch Tu Sy De (k:Int) K=K true:=by
 unfold JE;rw [show decide ((k:Int)>=0)=true by simp,Qe h];rfl
theorem C1 {k i:Nat} {r:List D} (h:HO Ls k i r) (K:Bool->oP R):WU n per Sk Ro Ls Ch Tu Sy De (k:Int) (i:Int) K=K true:=by
 obtain ⟨nm,w,rides,a,h2⟩:=h;unfold WU;rw [Q1T (Qp2.1 a).1,Q0,show decide ((i:Int)>=0)=true by simp,Qd,a];simp -implicitDefEqProofs only [Q0,QoT,QoU,Q2,Xt,QJ,QoX,QoV,QoZ,Qp0,Qe (Qp2.1 h2).1]
theorem Q7U {w:Int} (a:0<=w) (b:w<=1000) (K:Bool->oP R):HV n w K=K true:=by
 unfold HV;rw [show decide (w>=0)=true by simpa using a,show decide (w<=(1048576:Int))=true by simp;omega];rfl
theorem Q4m {G:Geo} {rt:Nat} {ex mn mx x y:Int} {s:LL} (a:Ro[rt]? = some [D.sl 2 s,Q4 0]) (b:RtOK G s x y) (K:Int->oP R):HM n per Sk Ro Ls Ch Tu Sy De (rt:Int) ex mn mx K=K x:=by
 obtain ⟨d,c⟩:=b.fst;unfold HM;simp -implicitDefEqProofs only [Q0,QoT,QoU,Q2,Xt,QJ,QoX,QoV,QoZ,Qp0,Qd,a,c]
theorem Q9m {G:Geo} {rt:Nat} {ex mn mx x y:Int} {s:LL} (b:Ro[rt]? = some [D.sl 2 s,Q4 0]) (a:RtOK G s x y) (K:Int->oP R):Px n per Sk Ro Ls Ch Tu Sy De (rt:Int) ex mn mx K=K y:=by
 obtain ⟨d,c⟩:=a.lst;have l2:=a.l2;have l24:=a.l24;unfold Px;simp -implicitDefEqProofs only [Q0,QoT,QoU,Q2,Xt,QJ,QoX,QoV,QoZ,Qp0,Qd,b];rw [Q6 (x:=(s.length:Int)-0) QnI QnI,Q6 QnI QnI,Int.sub_zero,c];rfl
theorem Qdu (hs:Q0l Sk) (K:Int->oP R):WK 400 St Pt Se Li per Sk Ro Ls Ch Tu Sy De K=K 0:=by
 obtain ⟨a,b,c,d,rfl,hk⟩:=hs;have h:WK 400 St Pt Se Li per [[D.str (bs [88]),Q4 a,Q4 b,Q4 c,Q4 d]] Ro Ls Ch Tu Sy De K=gb true (Ud 400 (bs [88]) a b c d some) false (fun r=>bif !r then K 4 else K 0):=by kernel_rfl
 rw [h,B8 hk];rfl
end
section
variable {R:Type} {G:Geo} {Sk Ro Ls Ch Tu Sy De:LL} {per:Int} (h:PlanR G per Sk Ro Ls Ch Tu Sy De)
include h
theorem Q5U {k:Nat} (hk:k<Ls.length):∃ r,HO Ls k 0 r:=by
 obtain ⟨w,rides,e,hr,a⟩:=D1 h.good hk;obtain ⟨r,_,_,_,b,_⟩:=a 0 QnI;exact ⟨r,b⟩
theorem QfW (K:Int->oP R):Uw 400 G.St G.Pt G.Se G.Li per Sk Ro Ls Ch Tu Sy De K=K 0:=by
 have hc:Za 400 G.St G.Pt G.Se G.Li (some:Int->oP Int)=some 0:=by unfold Za;rw [h.ok.lay];rfl
 obtain ⟨_,_,_,_,aj,_⟩:=h.sk;obtain ⟨T,hT,_,_,_,ak⟩:=h.tu;have l1:=h.l1;have l2:=h.rl;have a:=h.chl;have c:=h.syl;have d:=h.del;have p0:=h.p0;have p1:=h.p1;have lk:Sk.length=1:=by rw [aj];rfl
 have lt:Tu.length<=20:=by rw [hT];simpa using ak
 have ac:∀ {k:Nat} {b:Int},(k:Int)<=b->decide ((k:Int)>b)=false:=fun h=>by simpa using h
 unfold Uw;rw [hc,Q0,Q8 (by rfl)];simp -implicitDefEqProofs only [jn,ac (show (Sk.length:Int)<=8 by omega),ac (show (Ro.length:Int)<=48 by omega),ac (show (Ls.length:Int)<=16 by omega),ac (show (Ch.length:Int)<=32 by omega),ac (show (Tu.length:Int)<=32 by omega),ac (show (Sy.length:Int)<=32 by omega),ac (show (De.length:Int)<=32 by omega),QoV];refine Qs (r:=fun m h=>Zl 400 Ls (Ls.length:Int) _ _ m h) (N:=Ls.length) (fun m k hk=>?_) (fun m=>?_) Ls.length 400 0 QnI QnI
 ·obtain ⟨w,rides,e,hr,_⟩:=D1 h.good hk;rw [Zl,Qe hk,Qd,e];simp -implicitDefEqProofs only [Q0,QoT,QoU,Q2,Xt,QJ,QoX,QoV,QoZ,Qp0,ac (show (rides.length:Int)<=12 by omega),Qv (show k<=1000 by omega)]
 ·rw [Zl,Qj,QoV,show decide (per<2)=false by simp;omega,show decide (per>7200)=false by simp;omega];rfl
theorem Qcf (K:Int->oP R):WI 400 G.St G.Pt G.Se G.Li per Sk Ro Ls Ch Tu Sy De K=K 0:=by
 have l2:=h.rl;unfold WI;refine Qs (r:=fun m h=>YM 400 Ro (Ro.length:Int) G.St G.Pt G.Se G.Li _ _ m h) (N:=Ro.length) (fun m k hk=>?_) (fun m=>?_) Ro.length 400 0 QnI QnI
 ·obtain ⟨s,x,y,e,hs⟩:=h.good.ro _ (Qpa hk);rw [YM,Qe hk,Qd,QoY hk,e];simp -implicitDefEqProofs only [Q0,QoT,QoU,Q2,Xt,QJ,QoX,QoV,QoZ,Qp0,Q5n h.ok.lay rfl hs.l2 hs.l24 hs.rt,Qv (show k<=1000 by omega)];rfl
 ·rw [YM,Qj,QoV]
theorem Qay (K:Int->oP R):ZU 400 G.St G.Pt G.Se G.Li per Sk Ro Ls Ch Tu Sy De K=K 0:=by
 have l2:=h.del;have hN:=h.ok.hN;unfold ZU;refine Qs (r:=fun m h=>Yz 400 De (De.length:Int) G.St _ _ m h) (N:=De.length) (fun m k hk=>?_) (fun m=>?_) De.length 400 0 QnI QnI
 ·obtain ⟨f,t,w,e,⟨a,b⟩,⟨c,t1⟩,ac,w0,d⟩:=h.de _ (Qpa hk);rw [Yz,Qe hk,Qd,QoY hk,e];simp -implicitDefEqProofs only [Q0,QoT,QoU,Q2,Xt,QJ,QoX,QoV,QoZ,Qp0,h.ok.st,show decide (f<0)=false by simpa using a,show decide (f>=(G.N:Int))=false by simpa using b,show decide (t<0)=false by simpa using c,show decide (t>=(G.N:Int))=false by simpa using t1,show (f == t)=false by simpa using ac,show decide (w<1)=false by simp;omega,show decide (w>1048576)=false by simp;omega,Qv (show k<=1000 by omega)]
 ·rw [Yz,Qj,QoV]
theorem QfP (K:Int->oP R):UA 400 G.St G.Pt G.Se G.Li per Sk Ro Ls Ch Tu Sy De K=K 0:=by
 have l2:=h.syl;have l0:=h.l0;unfold UA;refine Qs (r:=fun m h=>Ze 400 Sy (Sy.length:Int) per Sk Ro Ls Ch Tu Sy De _ _ m h) (N:=Sy.length) (fun m k hk=>?_) (fun m=>?_) Sy.length 400 0 QnI QnI
 ·obtain ⟨o,e,o0,o1,h2⟩:=h.sy _ (Qpa hk);obtain ⟨r,hr⟩:=Q5U h (k:=0) QnI;obtain ⟨r',ac⟩:=Q5U h (k:=1) QnI;have e1:=C1 (R:=Bool) (per:=per) (Sk:=Sk) (Ro:=Ro) (Ch:=Ch) (Tu:=Tu) (Sy:=Sy) (De:=De) (n:=400) hr some;have e2:=C1 (R:=Bool) (per:=per) (Sk:=Sk) (Ro:=Ro) (Ch:=Ch) (Tu:=Tu) (Sy:=Sy) (De:=De) (n:=400) ac some;rw [Ze,Qe hk,Qd,QoY hk,e];simp -implicitDefEqProofs only [Q0,QoT,QoU,Q2,Xt,QJ,QoX,QoV,QoZ,Qp0,show WU 400 per Sk Ro Ls Ch Tu Sy De 0 0 (some:Bool->oP Bool)=some true from e1,show WU 400 per Sk Ro Ls Ch Tu Sy De 1 0 (some:Bool->oP Bool)=some true from e2,show ((0:Int) == 1)=false from rfl,show decide (o<0)=false by simp;omega,show decide (o>=per)=false by simp;omega,Qv (show k<=1000 by omega)]
 ·rw [Ze,Qj,QoV]
end
theorem Q1n {n h:Nat} (hh:h<=n):slB n none (some (h:Int))=some (0,h):=by
 unfold slB;rw [show (decide ((0:Int)<=(none:oP Int).getD 0)&&(decide ((none:oP Int).getD 0<=(some (h:Int)).getD (n:Int))&&decide ((some (h:Int)).getD (n:Int)<=(n:Int))))=true by simp;omega];rfl
theorem MV {α:Type} {l:List α} {h:Nat}:cut l (0,h)=l.take h:=by simp [cut]
theorem Qfp {i j:Nat} (hi:i<8) (hj:j<8) (h:i≠j):(nmN i == nmN j)=false:=by
 have:∀ i j:Fin 8,i≠j->(nmN i.val == nmN j.val)=false:=by decide
 exact this ⟨i,hi⟩ ⟨j,hj⟩ (by intro e;exact h (by simpa using e))
theorem Qhr {i:Nat} (hi:i<8):GW 400 (nmN i) (some:Bool->oP Bool)=some true:=by
 obtain rfl | rfl | rfl | rfl | rfl | rfl | rfl | rfl:i=0\/i=1\/i=2\/i=3\/i=4\/i=5\/i=6\/i=7:=QnI
 all_goals kernel_rfl
section
variable {Sk Ch Tu Sy De:LL} {per:Int}
theorem Q2z {G:Geo} {Ro Ls:LL} {c:Nat} (hg:GoodP G Ro Ls) (hc:c<8) (hl:c<Ls.length):Qo 400 (cut Ls (0,c)) (nmN c) some=some false:=by
 have aj:(cut Ls (0,c)).length=c:=by rw [MV];simp;omega
 unfold Qo QU;rw [aj];refine (congrArg (fun E=>gb true E 0 fun a=>some (decide (a>=(0:Int)))) (a₂:=some (-1)) (Qs (r:=fun m h=>Qa 400 (cut Ls (0,c)) (c:Int) (nmN c) _ _ m h) (N:=c) (fun m h hh=>?_) (fun m=>?_) c 400 0 QnI QnI)).trans rfl
 ·obtain ⟨w,ac,e,_,_⟩:=D1 hg (show h<Ls.length by omega);have e':(cut Ls (0,c))[h]? = some [D.str (nmN h),Q4 0,Q4 w,D.sl 4 ac]:=by rw [MV,List.getElem?_take_of_lt hh,e]
  rw [Qa,Qe hh,Qd,e'];simp -implicitDefEqProofs only [Q0,QoT,QoU,Q2,Xt,QJ,QoX,QoV,QoZ,Qp0,Zx,Qfp (show h<8 by omega) hc QnI,Qv (show h<=1000 by omega)]
 ·rw [Qa,Qj,QoV]
theorem Q4T {G:Geo} (hG:G.OK) {Ro Ls rides:LL} {nm:List UInt8} {w:Int} {i:Nat} {r:List D} {x y:Int} {b:Bool} (p0:90<=per) (p1:per<=300) (an:Q0l Sk) (hr:rides[i]? = some r) (hR:P5 G Ro r x y b) (hb:i+1=rides.length->b=true) (hl:rides.length<=2)
  (aj:∀ j,j+1=i->∃ r' x' b',rides[j]? = some r'/\P5 G Ro r' x' x b'):Ji 400 G.St G.Pt G.Se G.Li per Sk Ro Ls Ch Tu Sy De nm 0 w rides (i:Int) (some:Int->oP Int)=some 0:=by
 obtain ⟨rt,ex,mn,mx,s,rfl,ac,hs,⟨h,k⟩,⟨e,f,l,m⟩,hlast⟩:=hR;obtain ⟨a,v,c,d,rfl,hk⟩:=an;have a1:rt<Ro.length:=(Qp2.1 ac).1;have hi:i<rides.length:=(Qp2.1 hr).1;have ak:(bif ((i:Int) == (wJ (((List.length rides:Nat):Int)-(1:Int)))) then (bif (mn != (0:Int)) then true else (mx != (0:Int))) else false)=false:=by
  by_cases g:i+1=rides.length
  ·obtain ⟨rfl,rfl⟩:=hlast (hb g);rw [show ((0:Int) != 0)=false from rfl];cases ((i:Int) == (wJ (((List.length rides:Nat):Int)-(1:Int)))) <;> rfl
  ·rw [Q6 QnI QnI,show ((i:Int) == (rides.length:Int)-1)=false by simp;omega];rfl
 unfold Ji;rw [Qd,hr];simp -implicitDefEqProofs only [Q0,QoT,QoU,Q2,Xt,QJ,QoX,QoV,QoZ,Qp0,jn,show decide ((rt:Int)<0)=false by simp,show decide ((rt:Int)>=(Ro.length:Int))=false by simp;omega,show decide (ex<0)=false by simp;omega,show decide (ex>=per)=false by simp;omega,Q4f e f (show mx<mn+per by omega) QnI p1,ak,Qd,ac,show Q1 [[D.str (bs [88]),Q4 a,Q4 v,Q4 c,Q4 d]] (0:Int)=some [D.str (bs [88]),Q4 a,Q4 v,Q4 c,Q4 d] from rfl,QdG hG.lay rfl hs.l2 hs.l24 hs.rt hs.st hk,show ((0:Int) != 0)=false from rfl];cases i with
 |zero=>
  rw [show decide (((0:Nat):Int)>0)=false from rfl];simp only [gbF,QoV]
 |succ j=>
  obtain ⟨r',x',b',ar,au⟩:=aj j rfl;obtain ⟨ay,aw,ax,a2,s',rfl,al,aq,_⟩:=au;simp -implicitDefEqProofs only [Q0,QoT,QoU,Q2,Xt,QJ,QoX,QoV,QoZ,Qp0,show decide (((j+1:Nat):Int)>0)=true by simp,Q4m ac hs,show wJ (((j+1:Nat):Int)-1)=(j:Int) by rw [Q6 QnI QnI];omega,Qd,ar,Q9m al aq,show (x != x)=false by simp]
theorem QaZ {G:Geo} (hG:G.OK) {Ro Ls rides:LL} {nm:List UInt8} {w:Int} (p0:90<=per) (p1:per<=300) (ac:Q0l Sk) (h:Q2I G Ro rides):(rides.length=1\/rides.length=2)/\∀ i,i<rides.length->Ji 400 G.St G.Pt G.Se G.Li per Sk Ro Ls Ch Tu Sy De nm 0 w rides (i:Int) (some:Int->oP Int)=some 0:=by
 rcases h with ⟨r,x,y,rfl,h⟩ | ⟨r,r',x,y,z,rfl,h,h'⟩
 ·refine ⟨.inl rfl,fun i hi=>?_⟩;have hi:i=0:=by simpa using hi
  subst hi;exact Q4T hG p0 p1 ac rfl h (fun _=>rfl) QnK fun j hj=>by omega
 ·refine ⟨.inr rfl,fun i hi=>?_⟩;obtain rfl | rfl:i=0\/i=1:=by simp at hi;omega
  ·exact Q4T hG p0 p1 ac rfl h (fun h=>by simp at h) QnK fun j hj=>by omega
  ·refine Q4T hG p0 p1 ac rfl h' (fun _=>rfl) QnK fun j hj=>?_
   have hj:j=0:=QnI
   subst hj;exact ⟨r,x,false,rfl,h⟩
end
theorem Qef {R:Type} {G:Geo} {Sk Ro Ls Ch Tu Sy De:LL} {per:Int} (h:PlanR G per Sk Ro Ls Ch Tu Sy De) (K:Int->oP R):UJ 400 G.St G.Pt G.Se G.Li per Sk Ro Ls Ch Tu Sy De K=K 0:=by
 have l1:=h.l1;obtain ⟨_,_,_,_,an,_⟩:=h.sk;have ak:Sk.length=1:=by rw [an];rfl
 unfold UJ;refine Qs (r:=fun m h=>Zj 400 Ls (Ls.length:Int) G.St G.Pt G.Se G.Li per Sk Ro Ls Ch Tu Sy De _ _ m h) (N:=Ls.length) (fun m k hk=>?_) (fun m=>?_) Ls.length 400 0 QnI QnI
 ·obtain ⟨w,rides,e,w0,a,ac⟩:=h.good.ls k _ (QoY hk);obtain ⟨al,aj⟩:=QaZ (Ls:=Ls) (Ch:=Ch) (Tu:=Tu) (Sy:=Sy) (De:=De) (nm:=nmN k) (w:=w) h.ok h.p0 h.p1 h.sk ac;rw [Zj,Qe hk,Qd,QoY hk,e];simp -implicitDefEqProofs only [Q0,QoT,QoU,Q2,Xt,QJ,QoX,QoV,QoZ,Qp0,Qhr (show k<8 by omega),Q1n (Nat.le_of_lt hk),Q2z h.good (show k<8 by omega) hk,jn,show decide ((0:Int)<0)=false from rfl,ak,show decide ((0:Int)>=((1:Nat):Int))=false from rfl,Q7U w0 (show w<=1000 by omega),show ((rides.length:Int) == 0)=false by simp;intro hx;simp [hx] at al];refine (Qs (r:=fun m h=>Zk 400 (rides.length:Int) G.St G.Pt G.Se G.Li per Sk Ro Ls Ch Tu Sy De (nmN k) 0 w rides _ _ m h) (N:=rides.length) (fun m i hi=>?_) (fun m=>?_) rides.length 400 0 QnI QnI)
  ·rw [Zk,Qe hi];simp -implicitDefEqProofs only [Q0,QoT,QoU,Q2,Xt,QJ,QoX,QoV,QoZ,Qp0,aj i hi,show ((0:Int) != 0)=false from rfl,Qv (show i<=1000 by omega)]
  ·rw [Zk,Qj,QoV,Qv QnI]
 ·rw [Zj,Qj,QoV]
theorem NA {α:Type} {l:List α} (h:l.Nodup) {i:Nat} (hi:i<l.length):∀ x∈l.take i,x≠l[i]:=by
 intro x hx e;subst e;obtain ⟨j,hj,e⟩:=List.getElem_of_mem hx;simp at hj;rw [List.getElem_take] at e;have:=(List.nodup_iff_pairwise_ne.1 h);have:=List.pairwise_iff_getElem.1 this j i QnI hi QnI;exact this e
theorem Q3G {a b:Int} {T:List Tup} (ht:∀ t∈T,(t.1:Int)≠a/\(t.2.1:Int)≠b) (hl:T.length<=30):Qm 400 (T.map tuR) a b some=some false:=by
 have ac:(T.map tuR).length=T.length:=by simp
 unfold Qm QV;rw [ac];refine (congrArg (fun E=>gb true E 0 fun c=>some (decide (c>=(0:Int)))) (a₂:=some (-1)) (Qs (r:=fun m h=>Qb 400 (T.map tuR) (T.length:Int) a b _ _ m h) (N:=T.length) (fun m h hh=>?_) (fun m=>?_) T.length 400 0 QnI QnI)).trans rfl
 ·have e:(T.map tuR)[h]? = some (tuR T[h]):=by rw [Qpc,QoY hh];rfl
  obtain ⟨d,f⟩:=ht _ (Qpa hh);rw [Qb,Qe hh,Qd,e];simp -implicitDefEqProofs only [Q0,QoT,QoU,Q2,Xt,QJ,QoX,QoV,QoZ,Qp0,tuR,Zu,show ((T[h].1:Int) == a)=false by simpa using d,show ((T[h].2.1:Int) == b)=false by simpa using f,Qv (show h<=1000 by omega)]
 ·rw [Qb,Qj,QoV]
section
variable {R:Type} {G:Geo} {Sk Ro Ls Ch Tu Sy De:LL} {per:Int} (h:PlanR G per Sk Ro Ls Ch Tu Sy De)
include h
theorem QaI (K:Int->oP R):Wa 400 G.St G.Pt G.Se G.Li per Sk Ro Ls Ch Tu Sy De K=K 0:=by
 have l2:=h.chl;have p1:=h.p1;unfold Wa;refine Qs (r:=fun m h=>YA 400 Ch (Ch.length:Int) G.Se per Sk Ro Ls Ch Tu Sy De _ _ m h) (N:=Ch.length) (fun m k hk=>?_) (fun m=>?_) Ch.length 400 0 QnI QnI
 ·obtain ⟨f,fr,t,tr,mn,mx,w,r,r',x,y,x',y',b,b',i,e,hr,ac,hR,aq,a4,⟨a,j,c,d⟩,⟨w0,l⟩,⟨o,a1,c1,d1,g1⟩,⟨p,a2,q,u,g⟩,hi⟩:=h.ch _ (Qpa hk);have hb:=C1 (R:=Bool) (per:=per) (Sk:=Sk) (Ro:=Ro) (Ch:=Ch) (Tu:=Tu) (Sy:=Sy) (De:=De) (n:=400) hr;have ar:=C1 (R:=Bool) (per:=per) (Sk:=Sk) (Ro:=Ro) (Ch:=Ch) (Tu:=Tu) (Sy:=Sy) (De:=De) (n:=400) ac;obtain ⟨nm,v,rides,e1,e2⟩:=hr;obtain ⟨a6,v',ak,au,al⟩:=ac;obtain ⟨rt,ex,rn,rx,s,rfl,ao,hs,_⟩:=hR;obtain ⟨ay,aw,a5,az,s',rfl,aj,an,_⟩:=aq;rw [YA,Qe hk,Qd,QoY hk,e];simp -implicitDefEqProofs only [Q0,QoT,QoU,Q2,Xt,QJ,QoX,QoV,QoZ,Qp0,hb,ar,Q4f a c d (show mn<=1000 by omega) p1,Q7U w0 (show w<=1000 by omega),show ((f:Int) == (t:Int))=false by simp;omega,Qd,e1,e2,au,al,Q9m ao hs,Q4m aj an,g1,g,show (i == (-1:Int))=false by simp;omega,show (i != i)=false by simp,Qv (show k<=1000 by omega)]
 ·rw [YA,Qj,QoV]
theorem QeR (K:Int->oP R):UH 400 G.St G.Pt G.Se G.Li per Sk Ro Ls Ch Tu Sy De K=K 0:=by
 obtain ⟨T,hT,t1,t2,a,o⟩:=h.tu;have hl:Tu.length=T.length:=by rw [hT];simp
 have p0:=h.p0;have p1:=h.p1;unfold UH;rw [hl];refine Qs (r:=fun m h=>Zr 400 Tu (T.length:Int) per Sk Ro Ls Ch Tu Sy De _ _ m h) (N:=T.length) (fun m k hk=>?_) (fun m=>?_) T.length 400 0 QnI QnI
 ·have e:Tu[k]? = some (tuR T[k]):=by rw [hT,Qpc,QoY hk];rfl
  obtain ⟨c,u2,u3,p,d,q,nm,w,rides,r,r',x,y,z,b,b',e1,e2,u,v,⟨a2,w',ac,f,g⟩,hR,ar⟩:=t1 _ (Qpa hk);obtain ⟨rt,ex,rn,rx,s,rfl,aq,hs,_⟩:=hR;obtain ⟨au,ao,ax,aw,s',rfl,al,an,_⟩:=ar;have aj:cut Tu (0,k)=(T.take k).map tuR:=by rw [MV,hT,List.map_take]
  have ak:∀ t∈T.take k,(t.1:Int)≠(T[k].1:Int)/\(t.2.1:Int)≠(T[k].2.1:Int):=by
   intro t ht;have j:=NA t2 (i:=k) (by simpa using hk) t.1 (by rw [<- List.map_take];exact List.mem_map_of_mem ht);have h2:=NA a (i:=k) (by simpa using hk) t.2.1 (by rw [<- List.map_take];exact List.mem_map_of_mem ht);rw [List.getElem_map] at j h2;exact ⟨QnI,QnI⟩
  rw [Zr,Qe hk,Qd,e];simp -implicitDefEqProofs only [Q0,QoT,QoU,Q2,Xt,QJ,QoX,QoV,QoZ,Qp0,tuR,Q1T c,Q1T u2,Q4f (Sk:=Sk) (Ro:=Ro) (Ls:=Ls) (Ch:=Ch) (Tu:=Tu) (Sy:=Sy) (De:=De) (n:=400) (show 0<=T[k].2.2.1 by omega) d (show T[k].2.2.2<T[k].2.2.1+per by omega) QnI p1];rw [hl,Q1n QnI,Q0,aj,Q3G ak QnL];have hw:wJ ((rides.length:Int)-1)=((rides.length-1:Nat):Int):=by rw [Q6 QnI QnI];omega
  have l:Q1 ac (0:Int)=some [Q4 au,Q4 ao,Q4 ax,Q4 aw]:=(Qd ac 0).trans g;simp -implicitDefEqProofs only [Q0,QoT,QoU,Q2,Xt,QJ,QoX,QoV,QoZ,Qp0,Qd,e1,f,hw,e2,l,Q9m aq hs,Q4m al an,show (y != y)=false by simp,show ((0:Int) != 0)=false from rfl,Qv (show k<=1000 by omega)]
 ·rw [Zr,Qj,QoV]
theorem QcL (K:Int->oP R):VQ 400 G.St G.Pt G.Se G.Li per Sk Ro Ls Ch Tu Sy De K=K 0:=by
 unfold VQ Q97;rw [QfW h,Qdu h.sk,Qcf h,Qef h,QaI h,QeR h,QfP h,Qay h];rfl
end
section
variable {R:Type} {n:Nat}
theorem Q3W {x lo hi:Int} (a:lo<=x) (b:x<=hi) (K:Bool->oP R):KQ n x lo hi K=K true:=inT (n:=n) a b K
theorem Q3Y {x lo hi:Int} (a:lo<=x) (b:x<=hi) (K:Bool->oP R):Vi n x lo hi K=K true:=inT (n:=n) a b K
theorem QeI {a b g:Int} {acc:LL} (c:0<=a) (d:a<=12) (hc:acc.length<=1000) {k0:Int->Bool->LL->oP R} {m:Nat} (hm:12<m):WQ n g (Q4 a) (Q4 b) k0 m 0 acc=k0 a false (acc++List.replicate a.toNat [Q4 b,Q4 g]):=by
 have hl:∀ h:Nat,(acc++List.replicate h [Q4 b,Q4 g]).length=acc.length+h:=fun h=>by simp
 have:=Qs (r:=fun m h=>WQ n g (Q4 a) (Q4 b) k0 m h (acc++List.replicate h.toNat [Q4 b,Q4 g])) (N:=a.toNat) (e:=k0 a false (acc++List.replicate a.toNat [Q4 b,Q4 g])) (fun m h hh=>?_) (fun m=>?_) a.toNat m 0 QnI QnI
 ·simpa using this
 ·simp only [QoW];rw [WQ,Q2,Q0,QP QnL,Q2,Q0,hl,XF (by simp only [Qpg,Qpf];omega),Q0,Qv QnI,List.append_assoc,<- List.replicate_succ']
 ·rw [WQ,Q2,Q0,Q8 QnL];simp only [QoW];rw [show (a.toNat:Int)=a by omega];simp
theorem QfZ {Se s:LL} {k0:Int->Bool->LL->oP R} (hs:∀ row∈s,Ds Se row) (hl:s.length<=30) {m:Nat} (hm:s.length<m) (hn:12<n):U2 n Se s 0 k0 m 0 []=k0 (s.length:Int) false (Yb Se s):=by
 have hc:=fun h:Nat=>(Pf (s:=s.take h) fun r hr=>hs r (List.mem_of_mem_take hr)).1
 have hw:wJ ((s.length:Int)-0)=(s.length:Int):=by rw [Q6 QnI QnI];omega
 refine Qs (r:=fun m h=>U2 n Se s 0 k0 m h (Yb Se (s.take h.toNat))) (N:=s.length) (fun m h hh=>?_) (fun m=>?_) s.length m 0 QnI hm
 ·have e:=QoY hh;obtain ⟨x,d,nm,a,b,c,st,hx,ac,f,hd⟩:=hs _ (Qpa hh);rw [hx] at e;have a0:=f.a0;have a1:=f.a1;have ak:=hc h;simp only [List.length_take] at ak;simp only [QoW,NG e,KE ac];rw [U2,hw,Qe hh];simp -implicitDefEqProofs only [Q0,QoT,QoU,Q2,Xt,QJ,QoX,QoV,QoZ,Qp0,Qd,e,ac,QeI (n:=n) (b:=b) (acc:=Yb Se (s.take h)) (show 0<=a by omega) a1 QnI hn,Qv (show h<=1000 by omega)];rw [Q6 (x:=0-c) (by have:=f.c1;omega) (by have:=f.c0;omega),Int.zero_sub];cases g:d == (1:Int) <;> rfl
 ·simp only [QoW];rw [U2,hw,Qj,QoV,Qpn]
end
structure RtF (St Pt Se Li s:LL):Prop where
 lay:P3 400 St Pt Se Li=true
 ref:Qa3 St Pt Se Li=true
 l2:2<=s.length
 l24:s.length<=24
 rt:rtB Se.length Li s=true
 rt6:Qgu Se.length Li s=true
 hops:Ah Se.length Pt.length Li 0 s=true
 st:∀ r∈s,Ds Se r
theorem RtOK.f {G:Geo} (hG:G.OK) {s:LL} {x y:Int} (h:RtOK G s x y):RtF G.St G.Pt G.Se G.Li s:=⟨hG.lay,hG.ref,h.l2,h.l24,h.rt,h.rt6,h.hops,h.st⟩
section
variable {St Pt Se Li s:LL} (h:RtF St Pt Se Li s)
include h
theorem Q8S:Ps 400 St Pt Se Li s 0 Tu3=some (Yb Se s,HE Se s,0):=by
 have l2:=h.l2;have l24:=h.l24;have hl:=(Pf h.st).1;obtain ⟨row,rest,rfl⟩:∃ row rest,s=row::rest:=by
  cases s with
  |nil=>simp at l2
  |cons a b=>exact ⟨a,b,rfl⟩
 obtain ⟨x,d,nm,a,b,c,st,rfl,hs,_,_⟩:=h.st row QnK;have hf:HE Se ([Q4 x,Q4 d]::rest)=a:=by simp only [HE,hs]
 generalize hS:[Q4 x,Q4 d]::rest=s at *
 unfold Ps;rw [Q3M h.ref rfl h.l2 h.l24 h.rt6,Q0,Q8 QnJ,QfZ h.st QnI QnI QnJ,Q8 QnL,show Q1 s (0:Int)=some [Q4 x,Q4 d] by rw [<- hS];rfl];simp -implicitDefEqProofs only [Q0,QoT,QoU,Q2,Xt,QJ,QoX,QoV,QoZ,Qp0,hs,hf]
theorem Q9g {nm:List UInt8} {tl sp ac br:Int} (hk:StkN tl sp ac br):PN 400 St Pt Se Li s 0 nm tl sp ac br (some:Int->oP Int)=some 0:=by
 have l24:=h.l24;have hw:wJ ((s.length:Int)-0)=(s.length:Int):=by rw [Q6 QnI QnI];omega
 have ak:XP 400 nm tl sp ac br (some:Bool->oP Bool)=some true:=by
  obtain ⟨t1,t2,s1,s2,a1,a2,b1,b2⟩:=hk;unfold XP;simp -implicitDefEqProofs only [Q0,QoT,QoU,Q2,Xt,QJ,QoX,QoV,QoZ,Qp0,Q3W t1 (show tl<=40 by omega),Q3W (show 1000<=sp by omega) (show sp<=100000 by omega),Q3W (show 100<=ac by omega) (show ac<=2000 by omega),Q3W (show 100<=br by omega) (show br<=2000 by omega)]
 unfold PN;rw [Q8S h,Q0,Q8 (by rfl),ak,Q0,Q8 QnJ];refine Qs (r:=fun m h=>JL 400 Se s 0 tl _ _ m h) (N:=s.length) (fun m k e=>?_) (fun m=>?_) s.length 400 0 QnI QnI
 ·obtain ⟨x,d,al,a,b,c,st,hx,aj,hn,_⟩:=h.st _ (Qpa e);have a0:=hn.a0;have t2:=hk.t2;rw [JL,hw,Qe e,Qd,QoY e,hx];simp -implicitDefEqProofs only [Q0,QoT,QoU,Q2,Xt,QJ,QoX,QoV,QoZ,Qp0,aj,show decide (a<if 2<tl then tl else 2)=false by simp;split <;> omega,Qv (show k<=1000 by omega)]
 ·rw [JL,hw,Qj,QoV]
end
def QaK (x r:Int):Prop:=0<=r/\r*r<=x/\x<(r+1)*(r+1)
theorem Q4l {a b:Int} (c:0<=a) (h:a<=b):a*a<=b*b:=Int.mul_le_mul h h c QnI
theorem Q32 {x r s:Int} (h:QaK x r) (g:QaK x s):r=s:=by
 obtain ⟨a0,a1,a2⟩:=h;obtain ⟨b0,b1,b2⟩:=g;rcases Int.lt_trichotomy r s with h | h | h
 ·have:=Q4l (show 0<=r+1 by omega) (show r+1<=s by omega);omega
 ·exact h
 ·have:=Q4l (show 0<=s+1 by omega) (show s+1<=r by omega);omega
theorem Q8u {x r b:Int} (c:0<=r) (hb:0<=b) (h:r*r<=x) (hx:x<(b+1)*(b+1)):r<=b:=by
 by_cases a:r<=b
 ·exact a
 ·have:=Q4l (show 0<=b+1 by omega) (show b+1<=r by omega);omega
theorem Qj5 {a:Int} (b:0<=a) (c:a<=9223372036854775807):shR .i64 a 1=a / 2:=by
 show a.fdiv 2=a / 2;exact Int.fdiv_eq_ediv_of_nonneg a QnJ
theorem Qge {R:Type} {n:Nat} {x:Int} (a:0<=x) (hx:x<=1000000000) {k0:Int->Int->Bool->oP R}:∀ (k m:Nat) (ac:Int),k<=31->k+1<m->0<=ac->ac*ac<=x->x<(ac+2 ^ (k+1))*(ac+2 ^ (k+1)) ->
  ∃ r,QaK x r/\V1 n x k0 m ac (2 ^ k)=k0 r 0 false
 |k,m+1,ac,hk,hm,b,c,r2=>by
  have hr:ac<=40000:=Q8u b QnJ c QnI;have hp:∀ j:Nat,(1:Int)<=2 ^ j:=fun j=>by
   have:=Int.ofNat_le.2 (Nat.two_pow_pos j);rw [Int.natCast_pow] at this;exact this
  have e:(2:Int) ^ k<=2147483648:=by
   have:=Int.ofNat_le.2 (Nat.le_trans (Nat.pow_le_pow_right (show 0<2 by decide) hk) (show 2 ^ 31<=2147483648 by decide));rw [Int.natCast_pow] at this;exact this
  have f:=hp k;have hw:wJ (ac+2 ^ k)=ac+2 ^ k:=Q6 QnI QnI;have hs:(2:Int) ^ (k+1)=2 ^ k+2 ^ k:=by rw [Int.pow_succ];omega
  have ak:Int.tdiv x (ac+2 ^ k)=x / (ac+2 ^ k):=Qpk a;have g:0<=x / (ac+2 ^ k):=Int.ediv_nonneg a QnI;have i:x / (ac+2 ^ k)<=x:=Int.ediv_le_self _ a;have d:wJ (Int.tdiv x (ac+2 ^ k))=x / (ac+2 ^ k):=by rw [ak,Q6 QnI QnI]
  have aj:(ac+2 ^ k<=x / (ac+2 ^ k))↔(ac+2 ^ k)*(ac+2 ^ k)<=x:=Int.le_ediv_iff_mul_le QnI;have step:∀ r:Int,0<=r->r*r<=x->x<(r+2 ^ k)*(r+2 ^ k)->∃ r',QaK x r'/\V1 n x k0 m r (shR .i64 (2 ^ k) 1)=k0 r' 0 false:=by
   intro r a0 a1 a2;rw [Qj5 QnI QnI];cases k with
   |zero=>
    refine ⟨r,⟨a0,a1,by simpa using a2⟩,?_⟩;obtain ⟨m,rfl⟩:∃ m',m=m'+1:=⟨m-1,QnI⟩;rfl
   |succ k=>
    rw [show (2:Int) ^ (k+1) / 2=2 ^ k by rw [Int.pow_succ,Int.mul_ediv_cancel _ QnJ]];exact Qge a hx k m r QnI QnI a0 a1 a2
  rw [V1,QP QnL,hw,Ng QnI,Q0,d];by_cases h:(ac+2 ^ k)*(ac+2 ^ k)<=x
  ·rw [QP (by simpa using aj.2 h)];exact step _ QnI h (by rw [Int.add_assoc,<- hs];exact r2)
  ·rw [Q8 (by simpa using fun h'=>h (aj.1 h'))];exact step ac b c QnI
theorem QhD {x:Int} (a:0<=x) (hx:x<=1000000000):∃ r,QaK x r/\Pw 400 x (some:Int->oP Int)=some r:=
 Qge a hx 31 400 0 QnJ QnJ QnJ (by simpa using a) QnI
theorem Qd6 {R:Type} {n:Nat} {x:Int} (a:0<=x) (hx:x<=1000000000) {k0:Int->Int->Bool->oP R}:∀ (k m:Nat) (lo hi:Int),k<m->0<=lo->lo<=hi->hi<=3037000499->hi-lo<2 ^ k->lo*lo<=x->x<(hi+1)*(hi+1) ->
  ∃ r,QaK x r/\Vt n x k0 m lo hi=k0 r r false
 |k,m+1,lo,hi,hm,l0,l1,l2,hk,b,c=>by
  by_cases h:lo<hi
  ·obtain ⟨k,rfl⟩:∃ k',k=k'+1:=by
    cases k with
    |zero=>simp at hk;omega
    |succ k=>exact ⟨k,rfl⟩
   have hs:(2:Int) ^ (k+1)=2 ^ k+2 ^ k:=by rw [Int.pow_succ];omega
   have e:wJ (Int.tdiv (wJ ((wJ (lo+hi))+(1:Int))) (2:Int))=(lo+hi+1) / 2:=by
    rw [Q6 (x:=lo+hi) QnI QnI,Q6 (x:=lo+hi+1) QnI QnI,Qpk QnI,Q6 QnI QnI]
   rw [Vt,QP (by simpa using h),Ng QnJ,Q0,e];have ac:lo<(lo+hi+1) / 2/\(lo+hi+1) / 2<=hi:=QnI
   generalize hM:(lo+hi+1) / 2=mid at *
   have aj:=Q4l (show 0<=mid by omega) (show mid<=3037000499 by omega);have d:=Int.mul_nonneg (show 0<=mid by omega) (show 0<=mid by omega);rw [Q6 (x:=mid*mid) QnI QnI];by_cases hq:mid*mid<=x
   ·rw [QP (by simpa using hq)];exact Qd6 a hx k m mid hi QnI QnI QnI l2 QnI hq c
   ·rw [Q8 (by simpa using hq),Q6 QnI QnI];exact Qd6 a hx k m lo (mid-1) QnI l0 QnI QnI QnI b (by rw [Int.sub_add_cancel];omega)
  ·obtain rfl:lo=hi:=QnI
   rw [Vt,Q8 QnK];exact ⟨lo,⟨l0,b,c⟩,by simp⟩
theorem Qh2 {x r:Int} (a:0<=x) (hx:x<=1000000000) (hr:QaK x r):Nq 400 x (some:Int->oP Int)=some r:=by
 unfold Nq;by_cases h:x<=0
 ·rw [QP (by simpa using h)];have:QaK x 0:=⟨by decide,QnI,QnI⟩;rw [Q32 hr this]
 ·rw [Q8 (by simpa using h)];obtain ⟨r',b,h2⟩:=Qd6 (R:=Int) (n:=400) (k0:=fun w _ _=>some w) a hx 32 400 0 3037000499 QnJ QnJ QnJ QnJ QnJ QnI QnI;rw [Q32 hr b];exact h2
def cl (C:LL) (k:Nat):Int×Int:=match C[k]? with
 |some [.int _ b,.int _ g]=>(b,g)
 |_=>(0,0)
structure CellsOK (C:LL):Prop where
 row:∀ k,k<C.length->C[k]? = some [Q4 (cl C k).1,Q4 (cl C k).2]
 b0:∀ k,k<C.length->5000<=(cl C k).1
 b1:∀ k,k<C.length->(cl C k).1<=35000
 g0:∀ k,k<C.length -> -10<=(cl C k).2
 g1:∀ k,k<C.length->(cl C k).2<=10
 len:C.length<=300
theorem Q81 {Se:LL}:∀ {s:LL},(∀ row∈s,Ds Se row)->s.length<=24->CellsOK (Yb Se s):=by
 intro s h hl;have hm:∀ r∈Yb Se s,∃ b g:Int,r=[Q4 b,Q4 g]/\5000<=b/\b<=35000 /\ -10<=g/\g<=10:=by
  intro r hr;obtain ⟨row,f,h2⟩:=List.mem_flatMap.1 hr;obtain ⟨x,d,nm,a,b,c,st,rfl,hs,hn,_⟩:=h _ f;rw [KE hs] at h2;have i:=List.eq_of_mem_replicate h2;have c0:=hn.c0;have c1:=hn.c1;refine ⟨_,_,i,hn.b0,hn.b1,?_⟩;cases (d == (1:Int))
  ·exact ⟨c0,c1⟩
  ·show -10 <= -c /\ -c<=10;omega
 have hat:∀ k,k<(Yb Se s).length->(Yb Se s)[k]? = some [Q4 (cl (Yb Se s) k).1,Q4 (cl (Yb Se s) k).2]/\5000<=(cl (Yb Se s) k).1/\(cl (Yb Se s) k).1<=35000 /\ -10<=(cl (Yb Se s) k).2/\(cl (Yb Se s) k).2<=10:=by
  intro k hk;obtain ⟨b,g,e,f⟩:=hm _ (Qpa hk);have e2:(Yb Se s)[k]? = some [Q4 b,Q4 g]:=by rw [QoY hk,e]
  simp only [cl,e2];exact ⟨trivial,f⟩
 have:=(Pf h).1;exact ⟨fun k hk=>(hat k hk).1,fun k hk=>(hat k hk).2.1,fun k hk=>(hat k hk).2.2.1,fun k hk=>(hat k hk).2.2.2.1,fun k hk=>(hat k hk).2.2.2.2,QnI⟩
def Q9l (v:Int) (r:List D):Int:=match r with
 |.int _ b::_=>if b<v then b else v
 |_=>v
def win (C:LL) (k t:Nat):LL:=(C.drop (k-t)).take (k+1-(k-t))
def Q72 (C:LL) (sp:Int) (k t:Nat):Int:=(win C k t).foldl Q9l sp
theorem Q9D {C:LL} (hC:CellsOK C) {k t i:Nat} (hk:k<C.length) (hi:i<k+1-(k-t)):(win C k t)[i]? = some [Q4 (cl C (k-t+i)).1,Q4 (cl C (k-t+i)).2]:=by
 unfold win;rw [List.getElem?_take_of_lt hi,List.getElem?_drop,hC.row _ QnI]
theorem Q4W {C:LL} {k t:Nat} (hk:k<C.length):(win C k t).length=k+1-(k-t):=by
 unfold win;simp;omega
theorem Qam {C:LL} (hC:CellsOK C) {sp:Int} {k t:Nat} (hk:k<C.length) (d:10000<=sp) (c:sp<=25000):5000<=Q72 C sp k t/\Q72 C sp k t<=25000:=by
 have hm:∀ r∈win C k t,∃ b g:Int,r=[Q4 b,Q4 g]/\5000<=b:=by
  intro r hr;obtain ⟨i,hi,rfl⟩:=List.getElem_of_mem hr;have aj:=hi;rw [Q4W hk] at aj;have e:=Q9D hC hk aj;rw [QoY hi] at e;injection e with e
  exact ⟨_,_,e,hC.b0 _ QnI⟩
 unfold Q72;revert hm;generalize win C k t=L;intro hm;have:∀ (L:LL) (v:Int),(∀ r∈L,∃ b g:Int,r=[Q4 b,Q4 g]/\5000<=b)->5000<=v->v<=25000->5000<=L.foldl Q9l v/\L.foldl Q9l v<=25000:=by
  intro L;induction L with
  |nil=>exact fun v _ a b=>⟨a,b⟩
  |cons r L ih=>
   intro v h a b;obtain ⟨x,g,rfl,hx⟩:=h _ (List.mem_cons_self ..);refine ih _ (fun r hr=>h r (List.mem_cons_of_mem _ hr)) ?_ ?_
   ·show 5000<=if x<v then x else v
    split <;> omega
   ·show (if x<v then x else v)<=25000;split <;> omega
 exact this L sp hm QnI c
section
variable {C:LL} (hC:CellsOK C) {nm:List UInt8} {sp ac br:Int} {t k:Nat} (ht:t<=40)
include hC ht
omit hC in
theorem QeA (hk:k<=1000):(if (0:Int)<(wJ ((k:Int)-(t:Int))) then (wJ ((k:Int)-(t:Int))) else (0:Int))=((k-t:Nat):Int):=by
 rw [Q6 QnI QnI];split <;> omega
theorem QiL (hk:k<C.length):Jl 400 C (k:Int) nm (t:Int) sp ac br (some:Int->oP Int)=some (Q72 C sp k t):=by
 have hl:=hC.len;unfold Jl;rw [QeA ht QnI,Qv QnI];have hs:slB C.length (some ((k-t:Nat):Int)) (some ((k+1:Nat):Int))=some (k-t,k+1):=by
  unfold slB;rw [show (decide ((0:Int)<=(some ((k-t:Nat):Int)).getD 0)&&(decide ((some ((k-t:Nat):Int)).getD 0<=(some ((k+1:Nat):Int)).getD (C.length:Int))&&decide ((some ((k+1:Nat):Int)).getD (C.length:Int)<=(C.length:Int))))=true by simp;omega];rfl
 rw [hs,Q0,show cut C (k-t,k+1)=win C k t from rfl];have hw:=Q4W (t:=t) hk;refine (Qs (r:=fun m h=>Wc 400 (win C k t) (((win C k t).length:Nat):Int) _ m (((win C k t).take h.toNat).foldl Q9l sp) h) (N:=(win C k t).length) (fun m h hh=>?_) (fun m=>?_) (win C k t).length 400 0 QnI QnI)
 ·have e:=Q9D hC hk (show h<k+1-(k-t) by omega);simp only [QoW];rw [Wc,Qe hh,Qd,e,Yt e,List.foldl_append];simp -implicitDefEqProofs only [Q0,QoT,QoU,Q2,Xt,QJ,QoX,QoV,QoZ,Qp0,Qv (show h<=1000 by omega)];rfl
 ·simp only [QoW];rw [Wc,Qj,QoV,Qpn];rfl
theorem Qiy (hk:k<C.length):Pk 400 C (k:Int) nm (t:Int) sp ac br (some:Int->oP Int)=some (Q72 C sp k t):=by
 have hl:=hC.len;have hw:=Q4W (t:=t) hk;unfold Pk;rw [QeA ht QnI];have:=Qs (r:=fun m h=>VE 400 C (k:Int) (fun a b c=>some a) m (((win C k t).take h.toNat).foldl Q9l sp) (((k-t:Nat):Int)+h)) (N:=(win C k t).length) (e:=some (Q72 C sp k t)) (fun m h hh=>?_) (fun m=>?_) (win C k t).length 400 0 QnI QnI
 ·rw [show ((k-t:Nat):Int)+((0:Nat):Int)=((k-t:Nat):Int) by omega] at this;exact this
 ·have e:=Q9D hC hk (show h<k+1-(k-t) by omega);have e2:=hC.row (k-t+h) QnI;simp only [QoW];rw [VE,QP QnL,show ((k-t:Nat):Int)+(h:Int)=((k-t+h:Nat):Int) by omega,Qd,e2,Yt e,List.foldl_append,Qv QnI,show ((k-t:Nat):Int)+((h+1:Nat):Int)=((k-t+h+1:Nat):Int) by omega];simp -implicitDefEqProofs only [Q0,QoT,QoU,Q2,Xt,QJ,QoX,QoV,QoZ,Qp0];rfl
 ·simp only [QoW];rw [VE,Q8 QnL,Qpn];rfl
end
def arr (f:Nat->Int) (n:Nat):LL:=(List.range n).map fun i=>[Q4 (f i)]
theorem YF {f:Nat->Int} {n:Nat}:(arr f n).length=n:=by simp [arr]
theorem JH {f:Nat->Int} {n i:Nat} (h:i<n):(arr f n)[i]? = some [Q4 (f i)]:=by simp [arr,h]
theorem XH {f g:Nat->Int} {n:Nat} (h:∀ i,i<n->f i=g i):arr f n=arr g n:=by
 refine List.map_congr_left fun i hi=>?_
 rw [h i (by simpa using hi)]
theorem Qds {f:Nat->Int} {n i:Nat} {v:Int}:(arr f n).set i [Q4 v]=arr (fun j=>if j=i then v else f j) n:=by
 refine List.ext_getElem? fun j=>?_
 by_cases hj:j<n
 ·rw [JH hj];by_cases h:i=j
  ·subst h;rw [List.getElem?_set_self (by rw [YF];exact hj),Qp4 rfl]
  ·rw [List.getElem?_set_ne h,JH hj,Qp5 (fun e=>h e.symm)]
 ·rw [Qpr (by simp [YF];omega),Qpr (by simp [YF];omega)]
theorem C0 {n:Nat}:List.replicate n [Q4 0]=arr (fun _=>0) n:=by
 refine List.ext_getElem? fun j=>?_
 by_cases hj:j<n
 ·rw [JH hj];simp [hj]
 ·rw [Qpr QnL,Qpr (by simp [YF];omega)]
def acc (ac g:Int):Int:=if 0<g then (if 50<ac-10*g then ac-10*g else 50) else ac
def brk (br g:Int):Int:=if g<0 then (if 50<br+10*g then br+10*g else 50) else br
theorem Q4z {ac g:Int} (a1:400<=ac) (a2:ac<=800) (g0 : -10<=g) (g1:g<=10):300<=acc ac g/\acc ac g<=800:=by
 unfold acc;split
 ·split <;> omega
 ·omega
theorem Q4E {br g:Int} (a1:400<=br) (a2:br<=800) (g0 : -10<=g) (g1:g<=10):300<=brk br g/\brk br g<=800:=by
 unfold brk;split
 ·split <;> omega
 ·omega
section
variable {nm:List UInt8} {b t sp ac br g:Int} {n:Nat}
theorem Qeg (a1:400<=ac) (a2:ac<=800) (g0 : -10<=g) (g1:g<=10):NN n b g nm t sp ac br (some:Int->oP Int)=some (acc ac g):=by
 unfold NN acc;rw [Q6 (x:=10*g) QnI QnI,Q6 (x:=ac-10*g) QnI QnI];by_cases h:0<g
 ·rw [QP (by simpa using h),Qp4 h]
 ·rw [Q8 (by simpa using h),Qp5 h]
theorem QfX (a1:400<=br) (a2:br<=800) (g0 : -10<=g) (g1:g<=10):NK n b g nm t sp ac br (some:Int->oP Int)=some (brk br g):=by
 unfold NK brk;rw [Q6 (x:=10*g) QnI QnI,Q6 (x:=br+10*g) QnI QnI];by_cases h:g<0
 ·rw [QP (by simpa using h),Qp4 h]
 ·rw [Q8 (by simpa using h),Qp5 h]
theorem QgS (a1:400<=ac) (a2:ac<=800) (g0 : -10<=g) (g1:g<=10):Hz n b g nm t sp ac br (some:Int->oP Int)=some (20000*acc ac g):=by
 have hr:=Q4z a1 a2 g0 g1;unfold Hz;rw [Q6 (x:=10*g) QnI QnI,Q6 (x:=ac-10*g) QnI QnI];unfold acc at hr ⊢;by_cases h:0<g
 ·rw [Qp4 h] at hr ⊢;rw [QP (by simpa using h),Q6 QnI QnI]
 ·rw [Qp5 h] at hr ⊢;rw [Q8 (by simpa using h),Q6 QnI QnI]
theorem Qhc (a1:400<=br) (a2:br<=800) (g0 : -10<=g) (g1:g<=10):He n b g nm t sp ac br (some:Int->oP Int)=some (20000*brk br g):=by
 have hr:=Q4E a1 a2 g0 g1;unfold He;rw [Q6 (x:=10*g) QnI QnI,Q6 (x:=br+10*g) QnI QnI];unfold brk at hr ⊢;by_cases h:g<0
 ·rw [Qp4 h] at hr ⊢;rw [QP (by simpa using h),Q6 QnI QnI]
 ·rw [Qp5 h] at hr ⊢;rw [Q8 (by simpa using h),Q6 QnI QnI]
end
structure Run where
 C:LL
 nm:List UInt8
 sp:Int
 ac:Int
 br:Int
 t:Nat
 st:Nat
 N:Nat
structure Run.OK (X:Run):Prop where
 hC:CellsOK X.C
 hk:StkN X.t X.sp X.ac X.br
 hN:X.C.length=X.st+X.N
 h2:2<=X.N
namespace Run
variable (X:Run)
def lm (b:Nat):Int:=Q72 X.C X.sp (X.st+b) X.t
def lo (b:Nat):Int:=if X.lm b<X.lm (b-1) then X.lm b else X.lm (b-1)
def V (b:Nat):Int:=X.lo b*X.lo b
def G (b:Nat):Int:=20000*acc X.ac (cl X.C (X.st+b)).2
def L (b:Nat):Int:=20000*brk X.br (cl X.C (X.st+b)).2
def F:Nat->Int
 |0=>0
 |b+1=>if F b+X.G b<X.V (b+1) then F b+X.G b else X.V (b+1)
def K:Nat->Int
 |0=>0
 |d+1=>if K d+X.L (X.N-(d+1))<X.F (X.N-(d+1)) then K d+X.L (X.N-(d+1)) else X.F (X.N-(d+1))
variable {X} (h:X.OK)
include h
theorem QbY {b:Nat} (hb:b<X.N):5000<=X.lm b/\X.lm b<=25000:=Qam h.hC (by have:=h.hN;omega) h.hk.s1 h.hk.s2
theorem Q9V {b:Nat} (hb:b<X.N):5000<=X.lo b/\X.lo b<=25000:=by
 have a:=QbY h hb;have h2:=QbY h (b:=b-1) QnI;unfold lo;split <;> omega
theorem Qde {b:Nat} (hb:b<X.N):25000000<=X.V b/\X.V b<=625000000:=by
 obtain ⟨a,h2⟩:=Q9V h hb;have:=Q4l QnJ a;have:=Q4l QnI h2;unfold V;omega
theorem Qcr {b:Nat} (hb:b<X.N):6000000<=X.G b/\X.G b<=16000000:=by
 have hN:=h.hN;have:=Q4z h.hk.a1 h.hk.a2 (h.hC.g0 (X.st+b) QnI) (h.hC.g1 (X.st+b) QnI);unfold G;omega
theorem Qbo {b:Nat} (hb:b<X.N):6000000<=X.L b/\X.L b<=16000000:=by
 have hN:=h.hN;have:=Q4E h.hk.b1 h.hk.b2 (h.hC.g0 (X.st+b) QnI) (h.hC.g1 (X.st+b) QnI);unfold L;omega
theorem QaC:∀ b,b<X.N->0<=X.F b/\X.F b<=625000000/\(1<=b->6000000<=X.F b)
 |0,_=>by rw [F];omega
 |b+1,hb=>by
  have a:=QaC b QnI;have h2:=Qde h hb;have c:=Qcr h (b:=b) QnI;rw [F];split <;> omega
theorem Q4b:∀ d,d<=X.N->0<=X.K d/\X.K d<=625000000/\(1<=d->d<X.N->6000000<=X.K d)
 |0,_=>by rw [K];omega
 |d+1,hd=>by
  have a:=Q4b d QnI;have h2:=QaC h (X.N-(d+1)) QnI;have c:=Qbo h (b:=X.N-(d+1)) QnI;rw [K];split <;> omega
theorem QgR:X.K X.N=0:=by
 have h2:=h.h2;obtain ⟨d,hd⟩:∃ d,X.N=d+1:=⟨X.N-1,QnI⟩;have a:=Q4b h d QnI;have c:=Qbo h (b:=0) QnI;rw [hd,K,show X.N-(d+1)=0 by omega,F,Qp5 QnI]
theorem row {b:Nat} (hb:b<X.N):X.C[X.st+b]? = some [Q4 (cl X.C (X.st+b)).1,Q4 (cl X.C (X.st+b)).2]:=h.hC.row _ (by have:=h.hN;omega)
end Run
theorem Qad {f:Nat->Int} {n i:Nat} {v:Int} (h:i<n) {R:Type} (K:LL->oP R):gb true (inB n (i:Int)) () (fun _=>gb true ((arr f n)[(Int.toNat (i:Int))]?) [] fun r=>K ((arr f n).set (Int.toNat (i:Int)) (List.set r 0 (D.int .i64 v))))=K (arr (fun j=>if j=i then v else f j) n):=by
 rw [YX QnI QnI,Q0,QoW,JH h,Q0];show K ((arr f n).set i [Q4 v])=_;rw [Qds]
theorem Q7K {f:Nat->Int} {n i:Nat} (h:i<n) {R:Type} (K:Int->oP R):gb true (inB n (i:Int)) () (fun _=>gb true ((arr f n)[(Int.toNat (i:Int))]?) [] fun r=>gb true (r[0]?) oF fun c=>gb true (pIw c) 0 fun x=>K x)=K (f i):=by
 rw [YX QnI QnI,Q0,QoW,JH h];rfl
theorem wI {a b:Int} (h:a=b) (c : -1000000<=b) (d:b<=1000000000):wJ a=b:=by rw [h,Q6 QnI QnI]
namespace Run
variable {X:Run} (h:X.OK)
include h
def W (X:Run):LL:=arr (fun j=>X.K (X.N-j)) (X.N+1)
theorem sqA:Jo 400 X.C (X.st:Int) X.nm (X.t:Int) X.sp X.ac X.br (some:LL->oP LL)=some X.W:=by
 have hN:=h.hN;have h2:=h.h2;have hl:=h.hC.len;have t2:=h.hk.t2;have al:wJ (wJ ((X.C.length:Int)-(X.st:Int))+1)=((X.N+1:Nat):Int):=by
  rw [Q6 (x:=(X.C.length:Int)-(X.st:Int)) QnI QnI,Q6 QnI QnI];omega
 unfold Jo;rw [al,show (bif decide ((0:Int)<=((X.N+1:Nat):Int))&&decide (((X.N+1:Nat):Int)<=((X.N+1:Nat):Int)) then some () else none)=some () by rw [QP QnL],Q0,QoW,XF QnI,Q0,QiL h.hC QnI QnI,Q0,C0,Qv QnI];have k:∀ k0:Int->Int->Bool->LL->oP LL,Yi 400 X.C (X.st:Int) (X.C.length:Int) X.nm (X.t:Int) X.sp X.ac X.br k0 400 (Q72 X.C X.sp X.st X.t) ((X.st+1:Nat):Int) (arr (fun _=>0) (X.N+1))=k0 (X.lm (X.N-1)) (X.C.length:Int) false (arr (fun j=>if j<=X.N-1 then X.F j else 0) (X.N+1)):=by
  intro k0;have:=Qs (r:=fun m i=>Yi 400 X.C (X.st:Int) (X.C.length:Int) X.nm (X.t:Int) X.sp X.ac X.br k0 m (X.lm i.toNat) ((X.st+1+i.toNat:Nat):Int) (arr (fun j=>if j<=i.toNat then X.F j else 0) (X.N+1))) (N:=X.N-1) (e:=k0 (X.lm (X.N-1)) (X.C.length:Int) false (arr (fun j=>if j<=X.N-1 then X.F j else 0) (X.N+1))) (fun m i hi=>?_) (fun m=>?_) (X.N-1) 400 0 QnI QnI
  ·have e:arr (fun j=>if j<=(((0:Nat):Int)).toNat then X.F j else 0) (X.N+1)=arr (fun _=>0) (X.N+1):=XH fun j hj=>by
    split
    ·rename_i d;have d:j=0:=by simpa using d
     subst d;rw [F]
    ·rfl
   rw [e] at this;exact this
  ·simp only [QoW];have f:=h.hC.g0 (X.st+i) QnI;have g:=h.hC.g1 (X.st+i) QnI;have hr:=row h (b:=i) QnI;have ao:=Q9V h (b:=i+1) QnI;have hV:=Qde h (b:=i+1) QnI;have hF:=QaC h i QnI;have hG:=Qcr h (b:=i) QnI;rw [Yi,Qe (show X.st+1+i<X.C.length by omega),QoX,QiL h.hC QnI QnI,Q0,wI (show ((X.st+1+i:Nat):Int)-1=((X.st+i:Nat):Int) by omega) QnI QnI,wI (show ((X.st+i:Nat):Int)-(X.st:Int)=(i:Int) by omega) QnI QnI,YF,Q7K QnI,Qd,hr,wI (show ((X.st+1+i:Nat):Int)-(X.st:Int)=((i+1:Nat):Int) by omega) QnI QnI];simp -implicitDefEqProofs only [Q0,QoT,QoU,Q2,Xt,QJ,QoX,QoV,QoZ,Qp0,QgS h.hk.a1 h.hk.a2 f g];rw [Qad QnI];rw [Qv QnI,show Q72 X.C X.sp (X.st+1+i) X.t=X.lm (i+1) by unfold lm;rw [Nat.add_assoc,Nat.add_comm 1 i],show X.st+1+i+1=X.st+1+(i+1) by omega];refine congrArg _ (XH fun j hj=>?_);by_cases ak:j=i+1
   ·subst ak;have e1:(if X.lm (i+1)<X.lm i then X.lm (i+1) else X.lm i)=X.lo (i+1):=rfl;rw [Qp4 rfl,Qp4 (Qpb i),e1,wI (a:=X.lo (i+1)*X.lo (i+1)) (b:=X.V (i+1)) rfl QnI QnI,wI (a:=X.F i+20000*acc X.ac (cl X.C (X.st+i)).2) (b:=X.F i+X.G i) rfl QnI QnI,Qp4 (Qpb (i+1)),F]
   ·rw [Qp5 ak];by_cases c:j<=i
    ·rw [Qp4 c,Qp4 QnI]
    ·rw [Qp5 c,Qp5 QnI]
  ·simp only [QoW];rw [show X.st+1+(X.N-1)=X.C.length by omega,Yi,Qj,QoV]
 rw [k,wI (show (X.C.length:Int)-1=((X.st+X.N-1:Nat):Int) by omega) QnI QnI];have:=Qs (r:=fun m i=>YQ 400 X.C (X.st:Int) X.nm (X.t:Int) X.sp X.ac X.br (fun _ _ l=>some l) m ((X.st+X.N-1-i.toNat:Nat):Int) (arr (fun j=>if X.N-j<=i.toNat then X.K (X.N-j) else X.F j) (X.N+1))) (N:=X.N-1) (e:=some X.W) (fun m i hi=>?_) (fun m=>?_) (X.N-1) 400 0 QnI QnI
 ·have e:arr (fun j=>if X.N-j<=(((0:Nat):Int)).toNat then X.K (X.N-j) else X.F j) (X.N+1)=arr (fun j=>if j<=X.N-1 then X.F j else 0) (X.N+1):=XH fun j hj=>by
   by_cases an:j=X.N
   ·subst an;rw [Qp4 QnK,Qp5 QnI,Nat.sub_self,K]
   ·rw [Qp5 QnL,Qp4 QnI]
  rw [e] at this;exact this
 ·simp only [QoW];obtain ⟨b,hb⟩:∃ b,b+1=X.N-i:=⟨X.N-i-1,QnI⟩;have o:1<=b:=QnI
  have f:=h.hC.g0 (X.st+b) QnI;have g:=h.hC.g1 (X.st+b) QnI;have hr:=row h (b:=b) QnI;have hK:=Q4b h i QnI;have hL:=Qbo h (b:=b) QnI;rw [YQ,show X.st+X.N-1-i=X.st+b by omega,QP QnL,wI (show ((X.st+b:Nat):Int)-(X.st:Int)=(b:Int) by omega) QnI QnI,YF,Q7K QnI,Qv QnI,wI (show ((X.st+b+1:Nat):Int)-(X.st:Int)=((b+1:Nat):Int) by omega) QnI QnI,Q7K QnI,Qd,hr];simp -implicitDefEqProofs only [Q0,QoT,QoU,Q2,Xt,QJ,QoX,QoV,QoZ,Qp0,Qhc h.hk.b1 h.hk.b2 f g];rw [Qad QnI,wI (show ((X.st+b:Nat):Int)-1=((X.st+X.N-1-(i+1):Nat):Int) by omega) QnI QnI];refine congrArg _ (XH fun j hj=>?_);by_cases aj:j=b
  ·subst aj;rw [Qp4 rfl,Qp5 (show ¬ X.N-j<=i by omega),Qp4 (show X.N-(j+1)<=i by omega),Qp4 (show X.N-j<=i+1 by omega),show X.N-j=i+1 by omega,K,show X.N-(j+1)=i by omega,show X.N-(i+1)=j by omega,wI (a:=X.K i+20000*brk X.br (cl X.C (X.st+j)).2) (b:=X.K i+X.L j) rfl QnI QnI]
  ·rw [Qp5 aj];by_cases c:X.N-j<=i
   ·rw [Qp4 c,Qp4 QnI]
   ·rw [Qp5 c,Qp5 QnI]
 ·simp only [QoW];rw [YQ,show X.st+X.N-1-(X.N-1)=X.st by omega,Q8 QnK];refine congrArg some (XH fun j hj=>?_);by_cases n:j=0
  ·subst n;rw [Qp5 QnI,F,Nat.sub_zero,QgR h]
  ·rw [Qp4 QnI]
end Run
theorem J8 {k:Nat} (a:k<=1000) (b:1<=k):wJ ((k:Int)-1)=((k-1:Nat):Int):=by grind [Q6]
section
variable {R:Type} {Sk Ro Ls Ch Tu Sy De:LL} {per:Int} {n:Nat}
theorem Q51 {mn mx:Int} (a:0<=mn) (b:mn<=mx) (h2:mx<mn+per) (c:mn<=1000) (p1:per<=300) (K:Bool->oP R):GF n per Sk Ro Ls Ch Tu Sy De mn mx K=K true:=by
 grind [GF,decide,Q6]
theorem Qh6 {k i:Nat} {r:List D} (h:HO Ls k i r) (hl:Ls.length<=1000) (hr:∀ nm w rides,Ls[k]? = some [D.str nm,Q4 0,Q4 w,D.sl 4 rides]->rides.length<=1000) (K:Bool->oP R):Jf n per Sk Ro Ls Ch Tu Sy De (k:Int) (i:Int) K=K true:=by
 obtain ⟨nm,w,rides,a,h2⟩:=h;have hk:=(Qp2.1 a).1;have hi:=(Qp2.1 h2).1;have hr:=hr _ _ _ a;unfold Jf;rw [J8 hl QnI,Q3Y QnI QnI,Q0,Qd,a];simp -implicitDefEqProofs only [Q0,QoT,QoU,Q2,Xt,QJ,QoX,QoV,QoZ,Qp0,J8 hr QnI,Q3Y (show (0:Int)<=(i:Int) by omega) (show (i:Int)<=((rides.length-1:Nat):Int) by omega)]
theorem Q9L {G:Geo} {x y:Int} {s:LL} (a:RtOK G s x y) (K:Int->oP R):HN n s 0 K=K x:=by
 obtain ⟨d,b⟩:=a.fst
 simp_all [HN,Q0,QoT,QoU,Q2,Xt,QJ,QoX,QoV,QoZ,Qp0]
theorem Qcm {G:Geo} {x y:Int} {s:LL} (a:RtOK G s x y) (K:Int->oP R):Pq n s 0 K=K y:=by
 obtain ⟨d,b⟩:=a.lst;have l24:=a.l24;unfold Pq;rw [Q6 (x:=(s.length:Int)-0) QnI QnI,Q6 QnI QnI,Int.sub_zero,b];rfl
theorem C5 {k i:Nat} {rt:Nat} {ex mn mx:Int} {s:LL} (h:HO Ls k i [Q4 rt,Q4 ex,Q4 mn,Q4 mx]) (a:Ro[rt]? = some [D.sl 2 s,Q4 0]) (K:D->D->oP R):XR n per Sk Ro Ls Ch Tu Sy De (k:Int) (i:Int) K=K (D.sl 2 s) (Q4 0):=by
 obtain ⟨nm,w,rides,b,h2⟩:=h
 simp_all [XR,Q0,QoT,QoU,Q2,Xt,QJ,QoX,QoV,QoZ,Qp0,Qd]
theorem Qic {i:Nat} (hi:i<8):N9 400 (nmN i) (some:Bool->oP Bool)=some true:=by
 obtain rfl | rfl | rfl | rfl | rfl | rfl | rfl | rfl:i=0\/i=1\/i=2\/i=3\/i=4\/i=5\/i=6\/i=7:=QnI
 all_goals rfl
theorem QfQ (hs:Q0l Sk):G2 400 per Sk Ro Ls Ch Tu Sy De 0 (some:Int->oP Int)=some 0:=by
 obtain ⟨a,b,c,d,rfl,t1,t2,s1,s2,a1,a2,b1,b2⟩:=hs;have h:G2 400 per [[D.str (bs [88]),Q4 a,Q4 b,Q4 c,Q4 d]] Ro Ls Ch Tu Sy De 0 (some:Int->oP Int)=gb true (XP 400 (bs [88]) a b c d some) false (fun r=>bif !r then some 4 else some 0):=by kernel_rfl
 have ac:XP 400 (bs [88]) a b c d (some:Bool->oP Bool)=some true:=by
  unfold XP;simp -implicitDefEqProofs only [Q0,QoT,QoU,Q2,Xt,QJ,QoX,QoV,QoZ,Qp0,Q3W t1 (show a<=40 by omega),Q3W (show 1000<=b by omega) (show b<=100000 by omega),Q3W (show 100<=c by omega) (show c<=2000 by omega),Q3W (show 100<=d by omega) (show d<=2000 by omega)]
 rw [h,ac];rfl
end
section
variable {R:Type} {G:Geo} {Sk Ro Ls Ch Tu Sy De:LL} {per:Int} (h:PlanR G per Sk Ro Ls Ch Tu Sy De)
include h
theorem QfA {k:Nat}:∀ nm w rides,Ls[k]? = some [D.str nm,Q4 0,Q4 w,D.sl 4 rides]->rides.length<=1000:=by
 intro nm w rides e;obtain ⟨w',ac,e',hr,_⟩:=D1 h.good (Qp2.1 e).1
 grind
theorem Q6G {k i:Nat} {r:List D} (hr:HO Ls k i r) (K:Bool->oP R):Jf 400 per Sk Ro Ls Ch Tu Sy De (k:Int) (i:Int) K=K true:=by
 have:=h.l1
 grind [Qh6,QfA]
theorem Qhx:L8 400 per Sk Ro Ls Ch Tu Sy De (some:Bool->oP Bool)=some false:=by
 obtain ⟨_,_,_,_,aj,_⟩:=h.sk;obtain ⟨T,hT,_,_,_,ak⟩:=h.tu;have l1:=h.l1;have l2:=h.rl;have a:=h.chl;have c:=h.syl;have d:=h.del;have lk:Sk.length=1:=by rw [aj];rfl
 have lt:Tu.length<=20:=by rw [hT];simpa using ak
 have ac:∀ {k:Nat} {b:Int},(k:Int)<=b->decide ((k:Int)>b)=false:=fun h=>by simpa using h
 unfold L8;simp -implicitDefEqProofs only [ac (show (Sk.length:Int)<=8 by omega),ac (show (Ro.length:Int)<=48 by omega),ac (show (Ls.length:Int)<=16 by omega),ac (show (Ch.length:Int)<=32 by omega),ac (show (Tu.length:Int)<=32 by omega),ac (show (Sy.length:Int)<=32 by omega),ac (show (De.length:Int)<=32 by omega),QoV];refine Qs (r:=fun m h=>JI 400 Ls _ _ m h) (N:=Ls.length) (fun m k hk=>?_) (fun m=>?_) Ls.length 400 0 QnI QnI
 ·obtain ⟨w,rides,e,hr,_⟩:=D1 h.good hk;rw [JI,Qe hk,Qd,e];simp -implicitDefEqProofs only [Q0,QoT,QoU,Q2,Xt,QJ,QoX,QoV,QoZ,Qp0,ac (show (rides.length:Int)<=12 by omega),Qv (show k<=1000 by omega)]
 ·rw [JI,Qj,QoV]
theorem QgP {k:Nat} (hk:k<Ls.length):Kf 400 G.St G.Pt G.Se G.Li per Sk Ro Ls Ch Tu Sy De (k:Int) (some:Int->oP Int)=some 0:=by
 have l1:=h.l1;have p1:=h.p1;have p0:=h.p0;obtain ⟨a,v,c,d,aq,ao⟩:=h.sk;obtain ⟨w,rides,e,w0,t,ac⟩:=h.good.ls k _ (QoY hk);have e:=(QoY hk).trans (congrArg some e);have az:rides.length=1\/rides.length=2:=by rcases ac with ⟨_,_,_,rfl,_⟩ | ⟨_,_,_,_,_,rfl,_⟩;exact .inl rfl;exact .inr rfl
 have f:Q1 Sk (0:Int)=some [D.str (bs [88]),Q4 a,Q4 v,Q4 c,Q4 d]:=by rw [aq];rfl
 have au:Sk.length=1:=by rw [aq];rfl
 unfold Kf;rw [Qd,e];simp -implicitDefEqProofs only [Q0,QoT,QoU,Q2,Xt,QJ,QoX,QoV,QoZ,Qp0,Qic (show k<8 by omega)];refine (Qs (r:=fun m h=>Wd 400 (k:Int) Ls (D.str (nmN k)) _ _ m h) (N:=k) (fun m i hi=>?_) (fun m=>?_) k 400 0 QnI QnI)
 ·obtain ⟨w',ar,e',_⟩:=D1 h.good (show i<Ls.length by omega);rw [Wd,Qe hi,Qd,e'];simp -implicitDefEqProofs only [Q0,QoT,QoU,Q2,Xt,QJ,QoX,QoV,QoZ,Qp0,Qfp (show i<8 by omega) (show k<8 by omega) (show i≠k by omega),Qv (show i<=1000 by omega)]
 ·rw [Wd,Qj,QoV,au,J8 QnJ QnJ];simp -implicitDefEqProofs only [Q0,QoT,QoU,Q2,Xt,QJ,QoX,QoV,QoZ,Qp0,Q3Y (show (0:Int)<=0 by omega) (show (0:Int)<=((1-1:Nat):Int) by decide),Q3Y w0 (show w<=1048576 by omega),show ((rides.length:Int) == 0)=false by simp;intro hx;simp [hx] at az];refine (Qs (r:=fun m h=>ZW 400 G.St G.Pt G.Se G.Li per Sk Ro Ls Ch Tu Sy De (Q4 0) (D.sl 4 rides) _ _ m h) (N:=rides.length) (fun m i hi=>?_) (fun m=>?_) rides.length 400 0 QnI QnI)
  ·obtain ⟨r,x,y,b,hr,hR,hb,aj⟩:∃ r x y b,rides[i]? = some r/\P5 G Ro r x y b/\(i+1=rides.length->b=true)/\(∀ j,j+1=i->∃ r' x' b',rides[j]? = some r'/\P5 G Ro r' x' x b'):=by
    rcases ac with ⟨r,x,y,rfl,h⟩ | ⟨r,r',x,y,z,rfl,h,h'⟩
    ·have hi:i=0:=by simpa using hi
     subst hi;exact ⟨r,x,y,true,rfl,h,fun _=>rfl,fun j hj=>by omega⟩
    ·obtain rfl | rfl:i=0\/i=1:=by simp at hi;omega
     ·exact ⟨r,x,y,false,rfl,h,fun h=>by simp at h,fun j hj=>by omega⟩
     ·refine ⟨r',y,z,true,rfl,h',fun _=>rfl,fun j hj=>?_⟩;have hj:j=0:=QnI
      subst hj;exact ⟨r,x,false,rfl,h⟩
   obtain ⟨rt,ex,mn,mx,s,rfl,al,hs,⟨l,u⟩,⟨o,p,m2,m3⟩,hlast⟩:=hR;have a6:rt<Ro.length:=(Qp2.1 al).1;have l2:=h.rl;have hq:∀ z:Bool,(bif ((i:Int) == ((rides.length-1:Nat):Int)) then (bif (mn != (0:Int)) then true else (mx != (0:Int))) else false)=false:=by
    intro z;by_cases q:i+1=rides.length
    ·obtain ⟨rfl,rfl⟩:=hlast (hb q);rw [show ((0:Int) != 0)=false from rfl];cases ((i:Int) == ((rides.length-1:Nat):Int)) <;> rfl
    ·rw [show ((i:Int) == ((rides.length-1:Nat):Int))=false by simp;omega];rfl
   have a1:∀ {g:Bool} {β:Type} {a z:β} {k:β->oP Int},gb g (some a) z k=k a:=fun {g β a z k}=>rfl
   rw [ZW,QJ,Q0,Qe hi];simp -implicitDefEqProofs only [Q0,QoT,QoU,Q2,Xt,QJ,QoX,QoV,QoZ,Qp0,Qd,hr,J8 (show rides.length<=1000 by omega) (show 1<=rides.length by omega),J8 (show Ro.length<=1000 by omega) (show 1<=Ro.length by omega),Q6 (x:=per-1) QnI QnI,Q3Y (show (0:Int)<=(rt:Int) by omega) (show (rt:Int)<=((Ro.length-1:Nat):Int) by omega),Q3Y l (show ex<=per-1 by omega),Q51 (Sk:=Sk) (Ro:=Ro) (Ls:=Ls) (Ch:=Ch) (Tu:=Tu) (Sy:=Sy) (De:=De) (n:=400) o p (show mx<mn+per by omega) QnI p1,hq true,al,f,Q9g (hs.f h.ok) ao,show ((0:Int) != 0)=false from rfl];cases i with
   |zero=>
    rw [show decide (((0:Nat):Int)>0)=false from rfl];simp only [gbF,QoV];rfl
   |succ j=>
    obtain ⟨r',x',b',ax,ay⟩:=aj j rfl;obtain ⟨a5,a2,a4,a7,s',rfl,an,aw,_⟩:=ay;simp -implicitDefEqProofs only [Q0,QoT,QoU,Q2,Xt,QJ,QoX,QoV,QoZ,Qp0,show decide (((j+1:Nat):Int)>0)=true by simp,Q9L hs,show wJ (((j+1:Nat):Int)-1)=(j:Int) by rw [Q6 QnI QnI];omega,Qd,ax,an,Qcm aw,show (x != x)=false by simp,Qv (show j+1<=1000 by omega)]
  ·rw [ZW,QJ,Q0,Qj,QoV]
end
section
variable {R:Type} {G:Geo} {Sk Ro Ls Ch Tu Sy De:LL} {per:Int} (h:PlanR G per Sk Ro Ls Ch Tu Sy De)
include h
theorem Qbj {k0:Int->oP R} {k1:Int->Bool->oP R}:YV 400 G.St G.Pt G.Se G.Li per Sk Ro Ls Ch Tu Sy De k0 k1 400 0=k1 (Ch.length:Int) false:=by
 have l2:=h.chl;have p1:=h.p1;refine Qs (r:=fun m h=>YV 400 G.St G.Pt G.Se G.Li per Sk Ro Ls Ch Tu Sy De _ _ m h) (N:=Ch.length) (fun m k hk=>?_) (fun m=>?_) Ch.length 400 0 QnI QnI
 ·obtain ⟨f,fr,t,tr,mn,mx,w,r,r',x,y,x',y',b,b',i,e,hr,ac,hR,an,aw,⟨a,j,c,d⟩,⟨w0,l⟩,⟨n,a1,c1,d1,g1⟩,⟨o,a2,p,q,g⟩,hi⟩:=h.ch _ (Qpa hk);have hb:=Q6G (R:=Bool) h hr;have ao:=Q6G (R:=Bool) h ac;obtain ⟨rt,ex,rn,rx,s,rfl,al,hs,_⟩:=hR;obtain ⟨ar,aq,ax,au,s',rfl,aj,ak,_⟩:=an;rw [YV,Qe hk,Qd,QoY hk,e];simp -implicitDefEqProofs only [Q0,QoT,QoU,Q2,Xt,QJ,QoX,QoV,QoZ,Qp0,KU,hb,ao,Q51 a c d (show mn<=1000 by omega) p1,Q3Y w0 (show w<=1048576 by omega),show ((f:Int) == (t:Int))=false by simp;omega,C5 hr al,C5 ac aj,Qcm hs,Q9L ak,g1,g,show decide (i<0)=false by simp;omega,show (i != i)=false by simp,show ((0:Int) != 0)=false from rfl,Qv (show k<=1000 by omega)]
 ·rw [YV,Qj,QoV]
theorem QfD {k0:Int->oP R} {k1:Int->Bool->oP R}:YR 400 per Sk Ro Ls Ch Tu Sy De k0 k1 400 0=k1 (Tu.length:Int) false:=by
 obtain ⟨T,hT,t1,t2,d,t4⟩:=h.tu;have hl:Tu.length=T.length:=by rw [hT];simp
 have p0:=h.p0;have p1:=h.p1;have l1:=h.l1;refine Qs (r:=fun m h=>YR 400 per Sk Ro Ls Ch Tu Sy De _ _ m h) (N:=Tu.length) (fun m k hk=>?_) (fun m=>?_) Tu.length 400 0 QnI QnI
 ·have ac:k<T.length:=QnI
  have at':∀ j (hj:j<T.length),Tu[j]? = some (tuR T[j]):=fun j hj=>by rw [hT,Qpc,QoY hj];rfl
  obtain ⟨u1,u2,u3,u4,e,u6,nm,w,rides,r,r',x,y,z,b,b',e1,e2,f,e4,c,hR,ar⟩:=t1 _ (Qpa ac);obtain ⟨rt,ex,rn,rx,s,rfl,aq,hs,_⟩:=hR;obtain ⟨a1,ay,a3,a2,s',rfl,ak,an,_⟩:=ar;have g:=C5 (R:=D×D) (n:=400) (per:=per) (Sk:=Sk) (Ch:=Ch) (Tu:=Tu) (Sy:=Sy) (De:=De) (Ro:=Ro) ⟨nm,w,rides,e1,e2⟩ aq;have a:=C5 (R:=D×D) (n:=400) (per:=per) (Sk:=Sk) (Ch:=Ch) (Tu:=Tu) (Sy:=Sy) (De:=De) (Ro:=Ro) c ak;obtain ⟨a4,w',al,l,e6⟩:=c;have a:XR 400 per Sk Ro Ls Ch Tu Sy De (T[k].2.1:Int) 0 Tu2=some (D.sl 2 s',Q4 0):=a _;have aj:∀ t∈T.take k,(t.1:Int)≠(T[k].1:Int)/\(t.2.1:Int)≠(T[k].2.1:Int):=by
   intro t ht;have q:=NA t2 (i:=k) (by simpa using ac) t.1 (by rw [<- List.map_take];exact List.mem_map_of_mem ht);have h2:=NA d (i:=k) (by simpa using ac) t.2.1 (by rw [<- List.map_take];exact List.mem_map_of_mem ht);rw [List.getElem_map] at q h2;exact ⟨QnI,QnI⟩
  have ao:Kk 400 per Sk Ro Ls Ch Tu Sy De (k:Int) (some:Int->oP Int)=some 0:=by
   unfold Kk;rw [Qd,at' k ac];simp -implicitDefEqProofs only [Q0,QoT,QoU,Q2,Xt,QJ,QoX,QoV,QoZ,Qp0,tuR,J8 (show Ls.length<=1000 by omega) (show 1<=Ls.length by omega),Q3Y (show (0:Int)<=(T[k].1:Int) by omega) (show (T[k].1:Int)<=((Ls.length-1:Nat):Int) by omega),Q3Y (show (0:Int)<=(T[k].2.1:Int) by omega) (show (T[k].2.1:Int)<=((Ls.length-1:Nat):Int) by omega),Q51 (Sk:=Sk) (Ro:=Ro) (Ls:=Ls) (Ch:=Ch) (Tu:=Tu) (Sy:=Sy) (De:=De) (n:=400) (show 0<=T[k].2.2.1 by omega) e (show T[k].2.2.2<T[k].2.2.1+per by omega) QnI p1];refine (Qs (r:=fun m h=>We 400 (k:Int) Tu (Q4 (T[k].1:Nat)) (Q4 (T[k].2.1:Nat)) _ _ m h) (N:=k) (fun m i hi=>?_) (fun m=>?_) k 400 0 QnI QnI)
   ·obtain ⟨u,v⟩:=aj T[i] (by rw [List.mem_take_iff_getElem];exact ⟨i,QnI,rfl⟩);rw [We,Qe hi,Qd,at' i QnI];simp -implicitDefEqProofs only [Q0,QoT,QoU,Q2,Xt,QJ,QoX,QoV,QoZ,Qp0,tuR,show ((T[i].1:Int) == (T[k].1:Int))=false by simpa using u,show ((T[i].2.1:Int) == (T[k].2.1:Int))=false by simpa using v,Qv (show i<=1000 by omega)]
   ·rw [We,Qj,QoV,Qd,e1];simp -implicitDefEqProofs only [Q0,QoT,QoU,Q2,Xt,QJ,QoX,QoV,QoZ,Qp0,Qd,l,J8 (show rides.length<=1000 by omega) f,g,a,Qcm hs,Q9L an,show (y != y)=false by simp,show ((0:Int) != 0)=false from rfl]
  rw [YR,Qe hk,QoX,ao,Q0,Q8 (by rfl),Qv QnI]
 ·rw [YR,Qj,QoV]
theorem QfG {k0:oP R} {k1:Int->Bool->oP R}:YN 400 per Sk Ro Ls Ch Tu Sy De k0 k1 400 0=k1 (Sy.length:Int) false:=by
 have l2:=h.syl;have l0:=h.l0;have p1:=h.p1;refine Qs (r:=fun m h=>YN 400 per Sk Ro Ls Ch Tu Sy De _ _ m h) (N:=Sy.length) (fun m k hk=>?_) (fun m=>?_) Sy.length 400 0 QnI QnI
 ·obtain ⟨o,e,o0,o1,h2⟩:=h.sy _ (Qpa hk);obtain ⟨r,hr⟩:=Q5U h (k:=0) QnI;obtain ⟨r',ac⟩:=Q5U h (k:=1) QnI;have e1:=Q6G (R:=Bool) h hr some;have e2:=Q6G (R:=Bool) h ac some;rw [YN,Qe hk,Qd,QoY hk,e];simp -implicitDefEqProofs only [Q0,QoT,QoU,Q2,Xt,QJ,QoX,QoV,QoZ,Qp0,show Jf 400 per Sk Ro Ls Ch Tu Sy De 0 0 (some:Bool->oP Bool)=some true from e1,show Jf 400 per Sk Ro Ls Ch Tu Sy De 1 0 (some:Bool->oP Bool)=some true from e2,show ((0:Int) == 1)=false from rfl,Q6 (x:=per-1) QnI QnI,Q3Y o0 (show o<=per-1 by omega),Qv (show k<=1000 by omega)]
 ·rw [YN,Qj,QoV]
theorem Qal {k0:oP R} {k1:Int->Bool->oP R}:YT 400 G.St De k0 k1 400 0=k1 (De.length:Int) false:=by
 have l2:=h.del;have hN:=h.ok.hN;refine Qs (r:=fun m h=>YT 400 G.St De _ _ m h) (N:=De.length) (fun m k hk=>?_) (fun m=>?_) De.length 400 0 QnI QnI
 ·obtain ⟨f,t,w,e,⟨a,c⟩,⟨b,t1⟩,ac,w0,d⟩:=h.de _ (Qpa hk);rw [YT,Qe hk,Qd,QoY hk,e];simp -implicitDefEqProofs only [Q0,QoT,QoU,Q2,Xt,QJ,QoX,QoV,QoZ,Qp0,h.ok.st,Q6 (x:=(G.N:Int)-1) QnI QnI,Q3Y a (show f<=(G.N:Int)-1 by omega),Q3Y b (show t<=(G.N:Int)-1 by omega),Q3Y w0 (show w<=1048576 by omega),show (f == t)=false by simpa using ac,Qv (show k<=1000 by omega)]
 ·rw [YT,Qj,QoV]
theorem Qht:U6 400 G.St G.Pt G.Se G.Li per Sk Ro Ls Ch Tu Sy De (some:Int->oP Int)=some 0:=by
 have p0:=h.p0;have p1:=h.p1;have l1:=h.l1;have l2:=h.rl;obtain ⟨_,_,_,_,ac,_⟩:=h.sk;have aj:Sk.length=1:=by rw [ac];rfl
 have e1:JD 400 G.St G.Pt G.Se G.Li (some:Int->oP Int)=some 0:=Vv h.ok.ref;unfold U6;simp -implicitDefEqProofs only [Q0,QoT,QoU,Q2,Xt,QJ,QoX,QoV,QoZ,Qp0,e1,Qhx h,Q3Y (show 2<=per by omega) (show per<=7200 by omega),show ((0:Int) != 0)=false from rfl];refine Qs (r:=fun m h=>W0 400 per Sk Ro Ls Ch Tu Sy De _ _ m h) (N:=Sk.length) (fun m k hk=>?_) (fun m=>?_) Sk.length 400 0 QnI QnI
 ·obtain rfl:k=0:=QnI
  rw [W0,Qe hk,QoX,show ((0:Nat):Int)=0 from rfl,QfQ h.sk,Q0,Q8 (by rfl)];rfl
 rw [W0,Qj,QoV];refine Qs (r:=fun m h=>ZV 400 G.St G.Pt G.Se G.Li Ro _ _ m h) (N:=Ro.length) (fun m k hk=>?_) (fun m=>?_) Ro.length 400 0 QnI QnI
 ·obtain ⟨s,x,y,e,hs⟩:=h.good.ro _ (Qpa hk);rw [ZV,Qe hk,Qd,QoY hk,e];simp -implicitDefEqProofs only [Q0,QoT,QoU,Q2,Xt,QJ,QoX,QoV,QoZ,Qp0,Q3M h.ok.ref rfl hs.l2 hs.l24 hs.rt6,show ((0:Int) != 0)=false from rfl,Qv (show k<=1000 by omega)]
 rw [ZV,Qj,QoV];refine Qs (r:=fun m h=>ZZ 400 G.St G.Pt G.Se G.Li per Sk Ro Ls Ch Tu Sy De _ _ m h) (N:=Ls.length) (fun m k hk=>?_) (fun m=>?_) Ls.length 400 0 QnI QnI
 ·rw [ZZ,Qe hk,QoX,QgP h hk,Q0,Q8 (by rfl),Qv QnI]
 rw [ZZ,Qj,QoV,Qbj h,QfD h,QfG h,Qal h]
end
end Go.Vx
namespace Go.Vx
variable {R:Type} (n:Nat)
def XK (n:Nat) (c e i:LL) (f:Int) (j:LL) (g:Int) (k0:QkG R):Qkz R
 | 0,_,_,_,_=>none
 | m+1,b,a,h,d=>bif decide (a<f) then QjG R i a fun o r=>Qjr R o[1]? fun ac=>QjD R c b fun k=>Qjr R (Y9 ((h.length+[[Q4 k]].length)*8)) fun ad=>Qjp R (decide (a<wJ ((e.length:Int)-1))) fun ah=>Qjq R (h++[[Q4 k]]) fun ai=>Qjq R (wJ (a+1)) fun aj=>bif decide (a>0) then Qjr R (pIw r) fun u=>QjN R j u fun l=>bif ah then QjD R c (wJ (wJ (b+l)+g)) fun p=>Qjr R (Y9 ((d.length+[[Q4 p]].length)*8)) fun ae=>XK n c e i f j g k0 m (wJ (b+l)) aj ai (d++[[Q4 p]]) else XK n c e i f j g k0 m (wJ (b+l)) aj ai d else bif ah then QjD R c (wJ (b+g)) fun q=>Qjr R (Y9 ((d.length+[[Q4 q]].length)*8)) fun ag=>XK n c e i f j g k0 m b aj ai (d++[[Q4 q]]) else XK n c e i f j g k0 m b aj ai d else k0 b a (decide (a<f)) h d
def Kn (p q e r f:LL) (g:Int) (h:List UInt8) (b i j k:Int) (K:LL->LL->Int->Int->oP R):oP R:=Qjr R (KC n p q e r f g h b i j k Tu3) fun a=>bif a.2.2 !=0 then K [] [] 0 a.2.2 else Qjr R (J5 n a.1 a.2.1 h b i j k Tu2) fun r2=>Qjr R (WY n f g some) fun d=>XK n r2.1 d d (d.length:Int) e b (fun l aa ab s m=>QjD R r2.1 l fun o=>Qjr R (Y9 ((m.length+[[Q4 o]].length)*8)) fun ac=>QjD R r2.1 l fun y=>Qjr R (Jr n y some) fun z=>K s (m++[[Q4 o]]) z 0) n 0 0 [] []
def XC (d e:LL) (b:Int) (k0:Qkm R):Qkn R
 | 0,_,_=>none
 | m+1,a,c=>bif decide (a<b) then QjD R d (wJ (a-1)) fun j=>Qjr R (UY n j some) fun f=>QjD R e a fun o=>Qjr R (Jr n o some) fun g=>Qjq R [[Q4 0,Q4 (wJ (f-16)),Q4 (wJ (g+4))]] fun q=>Qjr R (Y9 ((c.length+q.length)*24)) fun p=>XC d e b k0 m (wJ (a+1)) (c++q) else k0 a (decide (a<b)) c
def Qi (f:Int) (l:LL) (g:Int) (h i e j k:LL) (c d:Int) (k0:Qku R):Qkv R
 | 0,_,_,_=>none
 | m+1,a,b,q=>bif decide (a<g) then QjP R l a fun r v=>Qjq R (wJ (a+1)) fun co=>Qjq R (wJ (a-1)) fun cp=>Qjq R (e.length:Int) fun cq=>bif decide (a>f) then Qjr R (Y9 ((b.length+[[Q4 0,Q4 c,Q4 d]].length)*24)) fun bu=>Qjr R (pIw r) fun ad=>Qjq R (b++[[Q4 0,Q4 c,Q4 d]]) fun cn=>QjX R (List.length cn) a cn a.toNat fun ah=>QjF R (List.length cn) a cn a.toNat fun ai=>QjZ R ai fun ak=>Qjr R (Xj n q ad ah ak some) fun o=>Qjr R (Hj o q.length) fun bz=>bif a==0 then Qi f l g h i e j k c d k0 m co cn o else QjP R k cp fun al am=>Qk1 R al am r v fun an ao ap aq=>Qjr R (Z6 n h i e j an ao ap aq some) fun s=>bif decide (s<0) then Qi f l g h i e j k c d k0 m co cn o else bif decide (a<=f) then QjX R (List.length cn) a cn a.toNat fun av=>QjF R (List.length cn) cp cn (Int.toNat cp) fun aw=>QjZ R aw fun ay=>Qjr R (Xj n o (wJ (cq+s)) av ay some) fun y=>Qjr R (Hj y o.length) fun cc=>Qi f l g h i e j k c d k0 m co cn y else Qjr R (Xj n o (wJ (cq+s)) c d some) fun z=>Qjr R (Hj z o.length) fun ce=>Qi f l g h i e j k c d k0 m co cn z else Qjr R (pIw r) fun az=>QjX R b.length a b a.toNat fun bc=>QjF R b.length a b a.toNat fun bd=>QjZ R bd fun bg=>Qjr R (Xj n q az bc bg some) fun p=>Qjr R (Hj p q.length) fun ch=>bif a==0 then Qi f l g h i e j k c d k0 m co b p else QjP R k cp fun bh bi=>Qk1 R bh bi r v fun bj bk bl bm=>Qjr R (Z6 n h i e j bj bk bl bm some) fun t=>bif decide (t<0) then Qi f l g h i e j k c d k0 m co b p else bif decide (a<=f) then QjX R b.length a b a.toNat fun bp=>QjF R b.length cp b (Int.toNat cp) fun bq=>QjZ R bq fun bt=>Qjr R (Xj n p (wJ (cq+t)) bp bt some) fun ab=>Qjr R (Hj ab p.length) fun ck=>Qi f l g h i e j k c d k0 m co b ab else Qjr R (Xj n p (wJ (cq+t)) c d some) fun ac=>Qjr R (Hj ac p.length) fun cm=>Qi f l g h i e j k c d k0 m co b ac else k0 a (decide (a<g)) b q
def Zz (c d e f b:LL) (k:Int) (l:List UInt8) (m o p q r g:Int) (K:Qkw R):oP R:=gb true (Kn n c d e f b k l m o p q Tu4) ([],[],0,0) fun a=>bif a.2.2.2 !=0 then K [] 0 a.2.2.2 else QjD R a.2.1 0 fun v=>Qjr R (Jr n v some) fun x=>Qjq R (wJ ((a.1.length:Int)-1)) fun s=>XC n a.1 a.2.1 s (fun ai aj h=>QjD R a.1 (wJ (s-1)) fun aa=>Qjr R (UY n aa some) fun i=>Qjq R [[Q4 0,Q4 (wJ (i-16)),Q4 (wJ (a.2.2.1+g))]] fun t=>Qjr R (Y9 ((h.length+t.length)*24)) fun ak=>QjD R a.1 s fun ad=>Qjr R (UY n ad some) fun ae=>Qjr R (VJ n c d e f some) fun ag=>Qi n s b (b.length:Int) c d e f b (wJ (ae-16)) (wJ (a.2.2.1+20)) (fun al am an ah=>Qjr R (V4 n ah some) fun j=>Qjr R (LW [j]) fun ao=>K j a.2.2.1 0) n 0 (h++t) ag) n 1 [[Q4 0,Q4 (wJ (0-r)),Q4 (wJ (x+4))]]
def ZI (d e f g h:LL) (i:Int) (j:List UInt8) (k l m o b c:Int) (K:Qkw R):oP R:=Qjr R (JS n d e f g h i j k l m o some) fun a=>bif a !=0 then K [] 0 a else bif Qjn (Qjn (Qjn (decide (b<0)) (decide (b>65536))) (decide (c<0))) (decide (c>65536)) then K [] 0 4 else Qjr R (Zz n d e f g h i j k l m o b c Tu3) fun r2=>K r2.1 r2.2.1 r2.2.2
end Go.Vx
namespace Go.Vx
def cd (a b:Int):Int:=if 0<a % b then a / b+1 else a / b
theorem Ma {a b:Int} (h0:0<=a) (h1:1<=b):a<=cd a b*b/\0<=cd a b/\cd a b<=a / b+1:=by
 have h2:=Qpq a (show b≠0 by omega);have c:=Qpp a (show 0<b by omega);have d:=Int.mul_ediv_add_emod a b;have e:0<=a / b:=Int.ediv_nonneg h0 QnI;have f:b*(a / b)=a / b*b:=Int.mul_comm ..;have g:(a / b+1)*b=a / b*b+b:=by rw [Int.add_mul,Int.one_mul]
 unfold cd;split <;> refine ⟨?_,?_,?_⟩ <;> omega
theorem Qfc {a b:Int} (h0:0<=a) (h1:1<=b) (ha:a<=1000000000):nz b=some ()/\(Int.tmod a b=a % b)/\wJ (Int.tdiv a b)=a / b/\wJ (a / b+1)=a / b+1:=by
 have c:0<=a / b:=Int.ediv_nonneg h0 QnI;have d:a / b<=a:=Int.ediv_le_self _ h0;exact ⟨Ng QnI,Qph h0,by rw [Qpk h0,Q6 QnI QnI],Q6 QnI QnI⟩
section
variable {n:Nat} {a b:Int} (h0:0<=a) (h1:1<=b) (ha:a<=1000000000)
include h0 h1 ha
theorem Qc3:U3 n a b Tu2=some (cd a b,0):=by
 obtain ⟨e1,e2,e,f⟩:=Qfc h0 h1 ha;unfold U3 cd;rw [Q8 (by simpa using h1),e1,Q0,Q0,e2,e,f];by_cases h:0<a % b
 ·rw [QP (by simpa using h),Qp4 h]
 ·rw [Q8 (by simpa using h),Qp5 h]
theorem Qcu:J2 n a b (some:Int->oP Int)=some (cd a b):=by
 obtain ⟨e1,e2,c,d⟩:=Qfc h0 h1 ha;unfold J2 cd;rw [e1,Q0,Q0,e2,c,d];by_cases h:0<a % b
 ·rw [QP (by simpa using h),Qp4 h]
 ·rw [Q8 (by simpa using h),Qp5 h]
end
theorem upA {n:Nat} {a:Int} (h0:0<=a) (ha:a<=1000000000):Jr n a (some:Int->oP Int)=some (cd a 1000):=by
 unfold Jr;rw [Qc3 h0 QnJ ha,Q0]
theorem QbV {a:Int} (h0:0<=a) (ha:a<=1000000000):decide (Int.tmod a 1000<0)=false/\wJ (Int.tdiv a 1000)=a / 1000:=by
 rw [Qph h0,Qpk h0];exact ⟨by simp;omega,Q6 QnI QnI⟩
theorem Qh0 {n:Nat} {a:Int} (h0:0<=a) (ha:a<=1000000000):UY n a (some:Int->oP Int)=some (a / 1000):=by
 obtain ⟨e1,e2⟩:=QbV h0 ha;unfold UY Va;rw [Q8 QnJ,Ng QnJ,Q0,Q0,e1,QoV,e2,Q0]
theorem Qg8 {n:Nat} {a:Int} (h0:0<=a) (ha:a<=1000000000):Vg n a 1000 (some:Int->oP Int)=some (a / 1000):=by
 obtain ⟨e1,e2⟩:=QbV h0 ha;unfold Vg;rw [Ng QnJ,Q0,Q0,e1,QoV,e2]
def sq (x:Int):Int:=(Pw 400 x (some:Int->oP Int)).getD 0
theorem Q5d {x:Int} (h0:0<=x) (hx:x<=1000000000):QaK x (sq x)/\Pw 400 x (some:Int->oP Int)=some (sq x)/\Nq 400 x (some:Int->oP Int)=some (sq x):=by
 obtain ⟨r,h1,h2⟩:=QhD h0 hx;have e:sq x=r:=by unfold sq;rw [h2];rfl
 rw [e];exact ⟨h1,h2,Qh2 h0 hx h1⟩
namespace Run
variable (X:Run)
def S (j:Nat):Int:=sq (X.K (X.N-j))
def T:Nat->Int
 |0=>0
 |b+1=>T b+cd 20000000 (X.S b+X.S (b+1))
variable {X} (h:X.OK)
include h
theorem Qel {j:Nat} (hj:j<=X.N):0<=X.S j/\X.S j<=25000/\(1<=j->j<X.N->1000<=X.S j):=by
 have h1:=Q4b h (X.N-j) QnI;obtain ⟨⟨c,e,r2⟩,_,_⟩:=Q5d (x:=X.K (X.N-j)) QnI QnI;refine ⟨c,Q8u c QnJ e QnI,fun a b=>?_⟩;have h2:=h1.2.2 QnI QnI;by_cases d:1000<=X.S j
 ·exact d
 ·have:=Q4l (show 0<=sq (X.K (X.N-j))+1 by omega) (show sq (X.K (X.N-j))+1<=1000 by unfold S at d;omega);omega
theorem Q1E {b:Nat} (hb:b<X.N):1000<=X.S b+X.S (b+1)/\X.S b+X.S (b+1)<=50000/\0<=cd 20000000 (X.S b+X.S (b+1))/\cd 20000000 (X.S b+X.S (b+1))<=20001:=by
 have h2:=h.h2;have a:=Qel h (j:=b) QnI;have c:=Qel h (j:=b+1) QnI;have hs:1000<=X.S b+X.S (b+1):=by
  by_cases f:b=0
  ·have:=c.2.2 QnI QnI;omega
  ·have:=a.2.2 QnI QnI;omega
 have d:=Ma (show (0:Int)<=20000000 by decide) (show 1<=X.S b+X.S (b+1) by omega);have e:20000000 / (X.S b+X.S (b+1))<=20000:=Int.ediv_le_of_le_mul QnI QnI;omega
theorem T_rng:∀ b:Nat,b<=X.N->0<=X.T b/\X.T b<=20001*b
 |0,_=>by rw [T];omega
 |b+1,hb=>by
  have:=T_rng b QnI;have:=Q1E h (b:=b) QnI;rw [T];omega
theorem T_mono {a:Nat}:∀ {b:Nat},a<=b->b<=X.N->X.T a<=X.T b
 |0,h1,_=>by rw [show a=0 by omega];omega
 |b+1,h1,h2=>by
  by_cases e:a=b+1
  ·subst e;omega
  ·have:=T_mono (a:=a) (b:=b) QnI QnI;have:=Q1E h (b:=b) QnI;rw [T];omega
def TT (X:Run):LL:=arr X.T (X.N+1)
theorem Qja:JV 400 X.C (X.st:Int) X.nm (X.t:Int) X.sp X.ac X.br Tu2=some (arr X.S (X.N+1),0):=by
 have hN:=h.hN;have h2:=h.h2;have hl:=h.hC.len;have ak:VO 400 X.C (X.st:Int) X.nm (X.t:Int) X.sp X.ac X.br (some:Int->oP Int)=some 0:=by
  unfold VO;rw [B8 h.hk,Q0,Q8 QnJ,Q8 QnL];refine Qs (r:=fun m i=>Yx 400 X.C (X.C.length:Int) _ _ m i) (N:=X.C.length) (fun m k hk=>?_) (fun m=>?_) X.C.length 400 0 QnI QnI
  ·have b0:=h.hC.b0 k hk;have b1:=h.hC.b1 k hk;have g0:=h.hC.g0 k hk;have g1:=h.hC.g1 k hk;rw [Yx,Qe hk,Qd,h.hC.row k hk];simp -implicitDefEqProofs only [Q0,QoT,QoU,Q2,Xt,QJ,QoX,QoV,QoZ,Qp0,show decide ((cl X.C k).1<1000)=false by simp;omega,show decide ((cl X.C k).1>100000)=false by simp;omega,show decide ((cl X.C k).2 < -40)=false by simp;omega,show decide ((cl X.C k).2>40)=false by simp;omega,Qv (show k<=1000 by omega)]
  ·rw [Yx,Qj,QoV,Q6 QnI QnI,show decide ((X.st:Int)<0)=false by simp,show decide ((X.st:Int)>(X.C.length:Int)-2)=false by simp;omega];rfl
 unfold JV;rw [ak,Q0,Q8 (by rfl),sqA h,Q0];have hW:X.W.length=X.N+1:=YF;rw [hW];have:=Qs (r:=fun m i=>Zn 400 ((X.N+1:Nat):Int) (fun _ _ d=>some (d,(0:Int))) m i (arr (fun j=>if j<i.toNat then X.S j else X.K (X.N-j)) (X.N+1))) (N:=X.N+1) (e:=some (arr X.S (X.N+1),0)) (fun m k hk=>?_) (fun m=>?_) (X.N+1) 400 0 QnI QnI
 ·rw [show arr (fun j=>if j<(((0:Nat):Int)).toNat then X.S j else X.K (X.N-j)) (X.N+1)=X.W from XH fun j hj=>Qp5 QnK] at this;exact this
 ·simp only [QoW];have hK:=Q4b h (X.N-k) QnI;rw [Zn,Qe hk,QoX,YF,Q7K hk,Qp5 (Nat.lt_irrefl k),(Q5d QnI QnI).2.1,Q0,Qad hk,Qv QnI];refine congrArg _ (XH fun j hj=>?_);by_cases aj:j=k
  ·subst aj;rw [Qp4 rfl,Qp4 QnI];rfl
  ·rw [Qp5 aj];by_cases a:j<k
   ·rw [Qp4 a,Qp4 QnI]
   ·rw [Qp5 a,Qp5 QnI]
 ·simp only [QoW];rw [Zn,Qj,QoV];exact congrArg (fun l=>some (l,(0:Int))) (XH fun j hj=>Qp4 hj)
theorem timA:J5 400 X.C (X.st:Int) X.nm (X.t:Int) X.sp X.ac X.br Tu2=some (X.TT,0):=by
 have hN:=h.hN;have hl:=h.hC.len;unfold J5;rw [Qja h,Q0,Q8 (by rfl),YF,show (bif decide ((0:Int)<=((X.N+1:Nat):Int))&&decide (((X.N+1:Nat):Int)<=((X.N+1:Nat):Int)) then some () else none)=some () by rw [QP QnL],Q0,QoW,XF QnI,Q0,C0];have:=Qs (r:=fun m i=>Wf 400 (arr X.S (X.N+1)) (fun _ _ g=>some (g,(0:Int))) m ((i.toNat+1:Nat):Int) (arr (fun j=>if j<=i.toNat then X.T j else 0) (X.N+1))) (N:=X.N) (e:=some (X.TT,0)) (fun m k hk=>?_) (fun m=>?_) X.N 400 0 QnI QnI
 ·rw [show arr (fun j=>if j<=(((0:Nat):Int)).toNat then X.T j else 0) (X.N+1)=arr (fun _=>0) (X.N+1) from XH fun j hj=>by
   split
   ·rename_i h0;have h0:j=0:=by simpa using h0
    rw [h0,T]
   ·rfl] at this
  exact this
 ·simp only [QoW];have hi:=Q1E h hk;have hT:=T_rng h k QnI;rw [Wf,YF,Qe (show k+1<X.N+1 by omega),QoX,J8 (show k+1<=1000 by omega) QnI,show k+1-1=k by omega,Qd,Qd,JH (show k<X.N+1 by omega),JH (show k+1<X.N+1 by omega)];simp -implicitDefEqProofs only [Q0,QoT,Q2,wI (a:=X.S k+X.S (k+1)) rfl (show -1000000<=X.S k+X.S (k+1) by omega) (show X.S k+X.S (k+1)<=1000000000 by omega),Qc3 (n:=400) (show (0:Int)<=20000000 by decide) (show 1<=X.S k+X.S (k+1) by omega) QnJ];rw [YF,Q7K (show k<X.N+1 by omega),Qp4 (Qpb k),Qad (show k+1<X.N+1 by omega),Qv QnI,wI (a:=X.T k+cd 20000000 (X.S k+X.S (k+1))) (b:=X.T (k+1)) rfl (by rw [T];omega) (by rw [T];omega)];refine congrArg _ (XH fun j hj=>?_);by_cases aj:j=k+1
  ·subst aj;rw [Qp4 rfl,Qp4 QnI]
  ·rw [Qp5 aj];by_cases c:j<=k
   ·rw [Qp4 c,Qp4 QnI]
   ·rw [Qp5 c,Qp5 QnI]
 ·simp only [QoW];rw [Wf,YF,Qj,QoV];exact congrArg (fun l=>some (l,(0:Int))) (XH fun j hj=>Qp4 QnI)
end Run
namespace Run
variable {X:Run} (h:X.OK)
include h
theorem QiS:DV 400 X.C (X.st:Int) X.nm (X.t:Int) X.sp X.ac X.br (some:Int->oP Int)=some 0:=by
 have hN:=h.hN;have h2:=h.h2;have hl:=h.hC.len;obtain ⟨t1,t2,s1,s2,a1,a2,b1,b2⟩:=h.hk;have aj:XP 400 X.nm (X.t:Int) X.sp X.ac X.br (some:Bool->oP Bool)=some true:=by
  unfold XP;simp -implicitDefEqProofs only [Q0,QoT,QoU,Q2,Xt,QJ,QoX,QoV,QoZ,Qp0,Q3W t1 (show (X.t:Int)<=40 by omega),Q3W (show 1000<=X.sp by omega) (show X.sp<=100000 by omega),Q3W (show 100<=X.ac by omega) (show X.ac<=2000 by omega),Q3W (show 100<=X.br by omega) (show X.br<=2000 by omega)]
 unfold DV;rw [aj,Q0,Q8 QnJ,Q8 QnL];refine Qs (r:=fun m i=>GG 400 X.C _ _ m i) (N:=X.C.length) (fun m k hk=>?_) (fun m=>?_) X.C.length 400 0 QnI QnI
 ·have b0:=h.hC.b0 k hk;have b1:=h.hC.b1 k hk;have g0:=h.hC.g0 k hk;have g1:=h.hC.g1 k hk;rw [GG,Qe hk,Qd,h.hC.row k hk];simp -implicitDefEqProofs only [Q0,QoT,QoU,Q2,Xt,QJ,QoX,QoV,QoZ,Qp0,Q3W (show 1000<=(cl X.C k).1 by omega) (show (cl X.C k).1<=100000 by omega),Q3W (show -40<=(cl X.C k).2 by omega) (show (cl X.C k).2<=40 by omega),Qv (show k<=1000 by omega)]
 ·rw [GG,Qj,QoV,Q6 QnI QnI,show decide ((X.st:Int)<0)=false by simp,show decide ((X.st:Int)>(X.C.length:Int)-2)=false by simp;omega];rfl
theorem Qjf:Sz 400 X.C (X.st:Int) X.nm (X.t:Int) X.sp X.ac X.br Tu2=some (arr X.S (X.N+1),0):=by
 have hN:=h.hN;have h2:=h.h2;have hl:=h.hC.len;have t2:=h.hk.t2;have hw:wJ ((X.C.length:Int)-(X.st:Int))=(X.N:Int):=by rw [Q6 QnI QnI];omega
 unfold Sz;rw [QiS h,Q0,Q8 (by rfl),hw,Qv QnI,show (bif decide ((0:Int)<=((X.N+1:Nat):Int))&&decide (((X.N+1:Nat):Int)<=((X.N+1:Nat):Int)) then some () else none)=some () by rw [QP QnL],Q0,QoW,XF QnI,Q0,C0];have e1:∀ k0:Int->Bool->LL->oP (LL×Int),Uj 400 X.C (X.st:Int) (X.N:Int) X.nm (X.t:Int) X.sp X.ac X.br k0 400 (1:Int) (arr (fun _=>0) (X.N+1))=k0 (X.N:Int) false (arr (fun j=>if 1<=j/\j<=X.N-1 then X.V j else 0) (X.N+1)):=by
  intro k0;have:=Qs (r:=fun m i=>Uj 400 X.C (X.st:Int) (X.N:Int) X.nm (X.t:Int) X.sp X.ac X.br k0 m ((i.toNat+1:Nat):Int) (arr (fun j=>if 1<=j/\j<=i.toNat then X.V j else 0) (X.N+1))) (N:=X.N-1) (e:=k0 (X.N:Int) false (arr (fun j=>if 1<=j/\j<=X.N-1 then X.V j else 0) (X.N+1))) (fun m i hi=>?_) (fun m=>?_) (X.N-1) 400 0 QnI QnI
  ·rw [show arr (fun j=>if 1<=j/\j<=(((0:Nat):Int)).toNat then X.V j else 0) (X.N+1)=arr (fun _=>0) (X.N+1) from XH fun j hj=>Qp5 QnL] at this;exact this
  ·simp only [QoW];have aw:=Q9V h (b:=i+1) QnI;have hV:=Qde h (b:=i+1) QnI;rw [Uj,Qe (show i+1<X.N by omega),QoX,wI (show (X.st:Int)+((i+1:Nat):Int)=((X.st+(i+1):Nat):Int) by omega) QnI QnI,wI (show ((X.st+(i+1):Nat):Int)-1=((X.st+i:Nat):Int) by omega) QnI QnI,Qiy h.hC QnI QnI,Q0,Qiy h.hC QnI QnI,Q0,YF,Qad QnI,Qv QnI];refine congrArg _ (XH fun j hj=>?_);have e1:(if Q72 X.C X.sp (X.st+(i+1)) X.t<Q72 X.C X.sp (X.st+i) X.t then Q72 X.C X.sp (X.st+(i+1)) X.t else Q72 X.C X.sp (X.st+i) X.t)=X.lo (i+1):=rfl;by_cases aj:j=i+1
   ·subst aj;rw [Qp4 rfl,e1,wI (a:=X.lo (i+1)*X.lo (i+1)) (b:=X.V (i+1)) rfl QnI QnI,Qp4 QnI]
   ·rw [Qp5 aj];by_cases d:1<=j/\j<=i
    ·rw [Qp4 d,Qp4 QnI]
    ·rw [Qp5 d,Qp5 QnI]
  ·simp only [QoW];rw [show X.N-1+1=X.N by omega,Uj,Qj,QoV]
 rw [e1];have e2:∀ k0:Int->Bool->LL->oP (LL×Int),Uo 400 X.C (X.st:Int) (X.N:Int) X.nm (X.t:Int) X.sp X.ac X.br k0 400 (0:Int) (arr (fun j=>if 1<=j/\j<=X.N-1 then X.V j else 0) (X.N+1))=k0 (X.N:Int) false (arr (fun j=>if j<=X.N-1 then X.F j else 0) (X.N+1)):=by
  intro k0;have:=Qs (r:=fun m i=>Uo 400 X.C (X.st:Int) (X.N:Int) X.nm (X.t:Int) X.sp X.ac X.br k0 m i (arr (fun j=>if j<=X.N-1 then (if j<=i.toNat then X.F j else X.V j) else 0) (X.N+1))) (N:=X.N) (e:=k0 (X.N:Int) false (arr (fun j=>if j<=X.N-1 then X.F j else 0) (X.N+1))) (fun m i hi=>?_) (fun m=>?_) X.N 400 0 QnI QnI
  ·rw [show arr (fun j=>if j<=X.N-1 then (if j<=(((0:Nat):Int)).toNat then X.F j else X.V j) else 0) (X.N+1)=arr (fun j=>if 1<=j/\j<=X.N-1 then X.V j else 0) (X.N+1) from XH fun j hj=>by
    by_cases q:j=0
    ·subst q;rw [Qp4 QnI,Qp4 QnK,Qp5 QnI,F]
    ·by_cases c:j<=X.N-1
     ·rw [Qp4 c,Qp5 QnL,Qp4 QnI]
     ·rw [Qp5 c,Qp5 QnI]] at this
   exact this
  ·simp only [QoW];have f:=h.hC.g0 (X.st+i) QnI;have g:=h.hC.g1 (X.st+i) QnI;have hr:=row h (b:=i) QnI;have hF:=QaC h i QnI;have hG:=Qcr h (b:=i) QnI;have ha:=Q4z h.hk.a1 h.hk.a2 f g;rw [Uo,Qe hi,QoX,Qv QnI,YF,Q7K (show i+1<X.N+1 by omega),Q7K (show i<X.N+1 by omega),wI (show (X.st:Int)+(i:Int)=((X.st+i:Nat):Int) by omega) QnI QnI,Qd,hr];simp -implicitDefEqProofs only [Q0,QoT,QoU,Q2,Xt,QJ,QoX,QoV,QoZ,Qp0,Qeg h.hk.a1 h.hk.a2 f g];rw [Qad (show i+1<X.N+1 by omega),Qp4 (show i<=X.N-1 by omega),Qp4 (Qpb i),Qp5 (show ¬ i+1<=i by omega),wI (a:=20000*acc X.ac (cl X.C (X.st+i)).2) (b:=X.G i) rfl QnI QnI,wI (a:=X.F i+X.G i) (b:=X.F i+X.G i) rfl QnI QnI];refine congrArg _ (XH fun j hj=>?_);by_cases aj:j=i+1
   ·subst aj;rw [Qp4 rfl];by_cases n:i+1<=X.N-1
    ·rw [Qp4 n,Qp4 n,Qp4 (Qpb (i+1)),F]
    ·rw [Qp5 n,Qp5 (show ¬ X.F i+X.G i<0 by omega),Qp5 n]
   ·rw [Qp5 aj];by_cases c:j<=X.N-1
    ·rw [Qp4 c,Qp4 c];by_cases d:j<=i
     ·rw [Qp4 d,Qp4 QnI]
     ·rw [Qp5 d,Qp5 QnI]
    ·rw [Qp5 c,Qp5 c]
  ·simp only [QoW];rw [Uo,Qj,QoV];refine congrArg _ (XH fun j hj=>?_);by_cases c:j<=X.N-1
   ·rw [Qp4 c,Qp4 c,Qp4 QnI]
   ·rw [Qp5 c,Qp5 c]
 rw [e2];have s:∀ k0:Int->Bool->LL->oP (LL×Int),Us 400 X.C (X.st:Int) X.nm (X.t:Int) X.sp X.ac X.br k0 400 (X.N:Int) (arr (fun j=>if j<=X.N-1 then X.F j else 0) (X.N+1))=k0 0 false X.W:=by
  intro k0;have:=Qs (r:=fun m i=>Us 400 X.C (X.st:Int) X.nm (X.t:Int) X.sp X.ac X.br k0 m ((X.N-i.toNat:Nat):Int) (arr (fun j=>if X.N-j<=i.toNat then X.K (X.N-j) else X.F j) (X.N+1))) (N:=X.N) (e:=k0 0 false X.W) (fun m i hi=>?_) (fun m=>?_) X.N 400 0 QnI QnI
  ·rw [show arr (fun j=>if X.N-j<=(((0:Nat):Int)).toNat then X.K (X.N-j) else X.F j) (X.N+1)=arr (fun j=>if j<=X.N-1 then X.F j else 0) (X.N+1) from XH fun j hj=>by
    by_cases ao:j=X.N
    ·subst ao;rw [Qp4 QnK,Qp5 QnI,Nat.sub_self,K]
    ·rw [Qp5 QnL,Qp4 QnI]] at this
   exact this
  ·simp only [QoW];obtain ⟨b,hb⟩:∃ b,b+1=X.N-i:=⟨X.N-i-1,QnI⟩;have f:=h.hC.g0 (X.st+b) QnI;have g:=h.hC.g1 (X.st+b) QnI;have hr:=row h (b:=b) QnI;have hK:=Q4b h i QnI;have hL:=Qbo h (b:=b) QnI;have au:=Q4E h.hk.b1 h.hk.b2 f g;rw [<- hb,Us,QP QnK,J8 (show b+1<=1000 by omega) QnI,Qp8,YF,Q7K (show b<X.N+1 by omega),Q7K (show b+1<X.N+1 by omega),wI (show (X.st:Int)+((b+1:Nat):Int)=((X.st+b+1:Nat):Int) by omega) QnI QnI,J8 (show X.st+b+1<=1000 by omega) QnI,Qp8,Qd,hr];simp -implicitDefEqProofs only [Q0,QoT,QoU,Q2,Xt,QJ,QoX,QoV,QoZ,Qp0,QfX h.hk.b1 h.hk.b2 f g];rw [Qad (show b<X.N+1 by omega),show X.N-(i+1)=b by omega,Qp5 (show ¬ X.N-b<=i by omega),Qp4 (show X.N-(b+1)<=i by omega),show X.N-(b+1)=i by omega,wI (a:=20000*brk X.br (cl X.C (X.st+b)).2) (b:=X.L b) rfl QnI QnI,wI (a:=X.K i+X.L b) (b:=X.K i+X.L b) rfl QnI QnI];refine congrArg _ (XH fun j hj=>?_);by_cases ak:j=b
   ·subst ak;rw [Qp4 rfl,Qp4 (show X.N-j<=i+1 by omega),show X.N-j=i+1 by omega,K,show X.N-(i+1)=j by omega]
   ·rw [Qp5 ak];by_cases d:X.N-j<=i
    ·rw [Qp4 d,Qp4 QnI]
    ·rw [Qp5 d,Qp5 QnI]
  ·simp only [QoW];rw [Nat.sub_self,Us,Q8 QnJ];refine congrArg _ (XH fun j hj=>Qp4 QnI)
 rw [s];have:=Qs (r:=fun m i=>Vb 400 (X.N:Int) (fun _ _ t=>some (t,(0:Int))) m i (arr (fun j=>if j<i.toNat then X.S j else X.K (X.N-j)) (X.N+1))) (N:=X.N+1) (e:=some (arr X.S (X.N+1),0)) (fun m k hk=>?_) (fun m=>?_) (X.N+1) 400 0 QnI QnI
 ·rw [show arr (fun j=>if j<(((0:Nat):Int)).toNat then X.S j else X.K (X.N-j)) (X.N+1)=X.W from XH fun j hj=>Qp5 QnK] at this;exact this
 ·simp only [QoW];have hK:=Q4b h (X.N-k) QnI;rw [Vb,QP QnL,YF,Q7K hk,Qp5 (Nat.lt_irrefl k),(Q5d QnI QnI).2.2,Q0,Qad hk,Qv QnI];refine congrArg _ (XH fun j hj=>?_);by_cases al:j=k
  ·subst al;rw [Qp4 rfl,Qp4 QnI];rfl
  ·rw [Qp5 al];by_cases d:j<k
   ·rw [Qp4 d,Qp4 QnI]
   ·rw [Qp5 d,Qp5 QnI]
 ·simp only [QoW];rw [Vb,Q8 QnL];exact congrArg (fun l=>some (l,(0:Int))) (XH fun j hj=>Qp4 hj)
theorem timB:Pe 400 X.C (X.st:Int) X.nm (X.t:Int) X.sp X.ac X.br Tu2=some (X.TT,0):=by
 have hN:=h.hN;have hl:=h.hC.len;unfold Pe;rw [Qjf h,Q0,Q8 (by rfl),YF,show (bif decide ((0:Int)<=((X.N+1:Nat):Int))&&decide (((X.N+1:Nat):Int)<=((X.N+1:Nat):Int)) then some () else none)=some () by rw [QP QnL],Q0,QoW,XF QnI,Q0,C0];have:=Qs (r:=fun m i=>VK 400 (arr X.S (X.N+1)) (fun _ _ o=>some (o,(0:Int))) m ((i.toNat+1:Nat):Int) (arr (fun j=>if j<=i.toNat then X.T j else 0) (X.N+1))) (N:=X.N) (e:=some (X.TT,0)) (fun m k hk=>?_) (fun m=>?_) X.N 400 0 QnI QnI
 ·rw [show arr (fun j=>if j<=(((0:Nat):Int)).toNat then X.T j else 0) (X.N+1)=arr (fun _=>0) (X.N+1) from XH fun j hj=>by
   split
   ·rename_i c;have c:j=0:=by simpa using c
    rw [c,T]
   ·rfl] at this
  exact this
 ·simp only [QoW];have hi:=Q1E h hk;have hT:=T_rng h k QnI;rw [VK,YF,Qe (show k+1<X.N+1 by omega),QoX,J8 (show k+1<=1000 by omega) QnI,show k+1-1=k by omega,YF,Q7K (show k<X.N+1 by omega),Qp4 (Qpb k),Qd,Qd,JH (show k<X.N+1 by omega),JH (show k+1<X.N+1 by omega)];simp -implicitDefEqProofs only [Q0,QoT,Q2,wI (a:=X.S k+X.S (k+1)) rfl (show -1000000<=X.S k+X.S (k+1) by omega) (show X.S k+X.S (k+1)<=1000000000 by omega),Qcu (n:=400) (show (0:Int)<=20000000 by decide) (show 1<=X.S k+X.S (k+1) by omega) QnJ];rw [Qad (show k+1<X.N+1 by omega),Qv QnI,wI (a:=X.T k+cd 20000000 (X.S k+X.S (k+1))) (b:=X.T (k+1)) rfl (by rw [T];omega) (by rw [T];omega)];refine congrArg _ (XH fun j hj=>?_);by_cases aj:j=k+1
  ·subst aj;rw [Qp4 rfl,Qp4 QnI]
  ·rw [Qp5 aj];by_cases d:j<=k
   ·rw [Qp4 d,Qp4 QnI]
   ·rw [Qp5 d,Qp5 QnI]
 ·simp only [QoW];rw [VK,YF,Qj,QoV];exact congrArg (fun l=>some (l,(0:Int))) (XH fun j hj=>Qp4 QnI)
end Run
def sl (Se s:LL) (j:Nat):Nat:=(PA Se (s.getD j [])).length
def pos (Se s:LL):Nat->Nat
 |0=>0
 |j+1=>pos Se s j+sl Se s (j+1)
theorem SQ {f:Nat->Int} {n:Nat}:arr f n++[[Q4 (f n)]]=arr f (n+1):=by simp [arr,List.range_succ]
section
variable {Se s:LL} (hs:∀ r∈s,Ds Se r)
include hs
theorem Fd {j:Nat} (hj:j<s.length):∃ (x d:Int) (nm:List UInt8) (b c st:Int),s[j]? = some [Q4 x,Q4 d]/\Q1 Se x=some [D.str nm,Q4 (sl Se s j),Q4 b,Q4 c,Q4 st]/\2<=sl Se s j/\sl Se s j<=12/\(d=0\/d=1):=by
 obtain ⟨x,d,nm,a,b,c,st,e,f,h2,g⟩:=hs _ (Qpa hj);have a0:=h2.a0;have a1:=h2.a1;have e2:s[j]? = some [Q4 x,Q4 d]:=by rw [QoY hj,e]
 have h:sl Se s j=a.toNat:=by
  unfold sl;rw [Qp7,e2];show (PA Se [Q4 x,Q4 d]).length=_;rw [KE f,List.length_replicate]
 refine ⟨x,d,nm,b,c,st,e2,?_,QnI,QnI,g⟩;rw [f,h,show (a.toNat:Int)=a by omega]
omit hs in
theorem Q2G:∀ {j:Nat},j<s.length->(Yb Se (s.take (j+1))).length=sl Se s 0+pos Se s j
 |0,hj=>by
  rw [NG (QoY hj)];simp only [List.take_zero,Yb,List.flatMap_nil,List.nil_append,pos,sl,Qp7,QoY hj,Qpi];omega
 |j+1,hj=>by
  have:=Q2G (j:=j) QnI;rw [NG (QoY hj),List.length_append,this,pos];simp only [sl,Qp7,QoY hj,Qpi];omega
omit hs in
theorem Q8A {i j:Nat} (a:i<=j):pos Se s i<=pos Se s j:=by
 induction j with
 |zero=>rw [show i=0 by omega];omega
 |succ j ih=>
  by_cases e:i=j+1
  ·subst e;omega
  ·have:=ih QnI;rw [pos];omega
theorem Q5F {i j:Nat} (a:i<j) (h2:j<s.length):pos Se s i+2<=pos Se s j:=by
 obtain ⟨_,_,_,_,_,_,_,_,b,_⟩:=Fd hs (j:=i+1) QnI;have:=Q8A (Se:=Se) (s:=s) (i:=i+1) (j:=j) QnI;rw [pos] at this;omega
end
def YB (Se s:LL) (nm:List UInt8) (tl sp ac br:Int):Run:=⟨Yb Se s,nm,sp,ac,br,tl.toNat,sl Se s 0,pos Se s (s.length-1)⟩
section
variable {St Pt Se Li s:LL} (h:RtF St Pt Se Li s) {nm:List UInt8} {tl sp ac br:Int} (hk:StkN tl sp ac br)
include h
theorem CV:HE Se s=(sl Se s 0:Int):=by
 have l2:=h.l2;obtain ⟨x,d,_,b,c,st,e,a,_⟩:=Fd h.st (j:=0) QnI;cases s with
 |nil=>cases e
 |cons r t=>
  injection e with e
  subst e;simp only [HE,a]
include hk
theorem NH:(YB Se s nm tl sp ac br).OK where
 hC:=Q81 h.st h.l24
 hk:=by
  have:=hk.t1;show StkN (tl.toNat:Int) sp ac br;rw [show (tl.toNat:Int)=tl by omega];exact hk
 hN:=by
  have l2:=h.l2;have:=Q2G (Se:=Se) (s:=s) (j:=s.length-1) QnI;rw [show s.length-1+1=s.length by omega,Qpn] at this;exact this
 h2:=by
  have l2:=h.l2;have:=Q5F h.st (i:=0) (j:=s.length-1) QnI QnI;show 2<=pos Se s (s.length-1);omega
end
section
variable {St Pt Se Li s:LL} (h:RtF St Pt Se Li s) {nm:List UInt8} {tl sp ac br:Int} (hk:StkN tl sp ac br)
def fEN (Se s:LL) (X:Run) (j:Nat):Int:=X.T (pos Se s (j-1))
def fLV (Se s:LL) (X:Run) (j:Nat):Int:=if j<s.length-1 then X.T (pos Se s j+X.t) else X.T X.N
def AE (X:Run):Int:=cd (X.T X.N) 1000
include h hk
theorem tEq:(((YB Se s nm tl sp ac br).t:Nat):Int)=tl:=by
 have _:=h.l2;have:=hk.t1;show (tl.toNat:Int)=tl;omega
theorem Qdd:J5 400 (Yb Se s) (sl Se s 0:Int) nm tl sp ac br Tu2=some ((YB Se s nm tl sp ac br).TT,0):=by
 have:=Run.timA (NH h (nm:=nm) hk);rw [tEq h hk] at this;exact this
theorem QcD:Pe 400 (Yb Se s) (sl Se s 0:Int) nm tl sp ac br Tu2=some ((YB Se s nm tl sp ac br).TT,0):=by
 have:=Run.timB (NH h (nm:=nm) hk);rw [tEq h hk] at this;exact this
theorem AZ {b:Nat} (hb:b<=(YB Se s nm tl sp ac br).N):0<=(YB Se s nm tl sp ac br).T b/\(YB Se s nm tl sp ac br).T b<=7000000:=by
 have hX:=NH h (nm:=nm) hk;have a:=Run.T_rng hX b hb;have:=hX.hN;have:=hX.hC.len;omega
theorem Nx:0<=AE (YB Se s nm tl sp ac br)/\AE (YB Se s nm tl sp ac br)<=7001:=by
 have a:=AZ h (nm:=nm) hk (Qpb _);have:=Ma a.1 (show (1:Int)<=1000 by decide);unfold AE;omega
theorem QdA {j:Nat} (hj:j<s.length):pos Se s j<=(YB Se s nm tl sp ac br).N/\(j<s.length-1->pos Se s j+(YB Se s nm tl sp ac br).t<=(YB Se s nm tl sp ac br).N):=by
 have a:=Q8A (Se:=Se) (s:=s) (i:=j) (j:=s.length-1) QnI;have h2:=tEq h (nm:=nm) hk;have:=hk.t2;refine ⟨a,fun b=>?_⟩;have:=Q5F h.st (i:=j) (j:=s.length-1) b QnI;show pos Se s j+_<=pos Se s (s.length-1);omega
theorem Qev:Kn 400 St Pt Se Li s 0 nm tl sp ac br Tu4=some (arr (fEN Se s (YB Se s nm tl sp ac br)) s.length,arr (fLV Se s (YB Se s nm tl sp ac br)) s.length,AE (YB Se s nm tl sp ac br),0):=by
 have l2:=h.l2;have l24:=h.l24;have ht:=tEq h (nm:=nm) hk;have hX:=NH h (nm:=nm) hk;have ar:=hX.hN;have aq:=hX.hC.len;have an:=Qdd h (nm:=nm) hk;have ak:=fun (j:Nat) (hj:j<s.length)=>QdA h (nm:=nm) hk hj
 have al:=AZ h (nm:=nm) hk (Qpb _);have hN:(YB Se s nm tl sp ac br).N=pos Se s (s.length-1):=rfl;unfold Kn;rw [QiE h.lay rfl h.l2 h.l24 h.rt h.st hk,Q0,Q8 (by rfl),CV h,an,Q0,AX h.l24,Q0];revert hX ar aq ak al hN ht;generalize YB Se s nm tl sp ac br=X;intro ht hX ar aq ak al hN;have o:∀ k0:Int->Int->Bool->LL->LL->oP (LL×LL×Int×Int),XK 400 X.TT s s (s.length:Int) Se tl k0 400 0 0 [] []=k0 ((pos Se s (s.length-1):Nat):Int) (s.length:Int) false (arr (fEN Se s X) s.length) (arr (fLV Se s X) (s.length-1)):=by
  intro k0;refine Qs (r:=fun m i=>XK 400 X.TT s s (s.length:Int) Se tl k0 m ((pos Se s (i.toNat-1):Nat):Int) i (arr (fEN Se s X) i.toNat) (arr (fLV Se s X) (min i.toNat (s.length-1)))) (N:=s.length) (fun m i hi=>?_) (fun m=>?_) s.length 400 0 QnI QnI
  ·simp only [QoW];obtain ⟨x,d,az,b,c,st,e,p,a0,a1,hd⟩:=Fd h.st hi;have hp:=ak (i-1) QnI;have f:=ak i hi;rw [XK,Qe hi,QoX,Qd,e];have hT:Q1 X.TT ((pos Se s (i-1):Nat):Int)=some [Q4 (fEN Se s X i)]:=by rw [Qd];exact JH QnI
   have hr:Y9 (((arr (fEN Se s X) i).length+List.length [[D.int .i64 (fEN Se s X i)]])*8)=some ():=XF (by simp only [YF,Qpg,Qpf];omega);simp -implicitDefEqProofs only [Q0,QoT,QoU,Q2,hT,hr,SQ,wI (show (i:Int)+1=((i+1:Nat):Int) by omega) QnI QnI,wI (show (s.length:Int)-1=((s.length-1:Nat):Int) by omega) QnI QnI];have au:i<s.length-1->Q1 X.TT ((pos Se s i+X.t:Nat):Int)=some [Q4 (fLV Se s X i)]:=fun aj=>by
    have:=f.2 aj;rw [Qd];show (arr X.T (X.N+1))[pos Se s i+X.t]? = _;rw [JH QnI];unfold fLV;rw [Qp4 aj]
   have a:∀ k,k<=30->Y9 (((arr (fLV Se s X) k).length+List.length [[D.int .i64 (fLV Se s X k)]])*8)=some ():=fun k hk=>XF (by simp only [YF,Qpg,Qpf];omega)
   by_cases q:i=0
   ·subst q;have ao:0<s.length-1:=QnI
    have:=au ao;rw [show decide (((0:Nat):Int)>0)=false from rfl,QoV,Qe ao,QoX,wI (show ((pos Se s (0-1):Nat):Int)+tl=((pos Se s 0+X.t:Nat):Int) by rw [<- ht,show 0-1=0 from rfl];omega) QnI QnI,this,Nat.min_eq_left QnI,Nat.min_eq_left QnI];simp -implicitDefEqProofs only [Q0,QoT,Q2,a 0 QnI,SQ]
   ·have ay:pos Se s i=pos Se s (i-1)+sl Se s i:=by
     obtain ⟨k,rfl⟩:∃ k,i=k+1:=⟨i-1,QnI⟩;rfl
    rw [show decide ((i:Int)>0)=true by simp;omega,QoX,p];simp -implicitDefEqProofs only [Q0,QoT,QoU,Q2,wI (show ((pos Se s (i-1):Nat):Int)+((sl Se s i:Nat):Int)=((pos Se s i:Nat):Int) by omega) QnI QnI,Qp8];by_cases aj:i<s.length-1
    ·rw [Qe aj,QoX,wI (show ((pos Se s i:Nat):Int)+tl=((pos Se s i+X.t:Nat):Int) by omega) (by have:=f.2 aj;omega) (by have:=f.2 aj;omega),au aj,Nat.min_eq_left QnI,Nat.min_eq_left QnI];simp -implicitDefEqProofs only [Q0,QoT,Q2,a i QnI,SQ]
    ·rw [show decide ((i:Int)<((s.length-1:Nat):Int))=false by simp;omega,QoV,Nat.min_eq_right QnI,Nat.min_eq_right QnI]
  ·simp only [QoW];rw [XK,Qj,QoV,Nat.min_eq_right QnI]
 rw [o];have hT:Q1 X.TT ((pos Se s (s.length-1):Nat):Int)=some [Q4 (fLV Se s X (s.length-1))]:=by
  rw [Qd];show (arr X.T (X.N+1))[pos Se s (s.length-1)]? = _;rw [JH QnI];unfold fLV;rw [Qp5 QnI,hN]
 have hl:fLV Se s X (s.length-1)=X.T X.N:=by unfold fLV;rw [Qp5 QnI]
 have a:Y9 (((arr (fLV Se s X) (s.length-1)).length+List.length [[D.int .i64 (fLV Se s X (s.length-1))]])*8)=some ():=XF (by simp only [YF,Qpg,Qpf];omega);simp -implicitDefEqProofs only [hT,Q0,QoT,Q2,a,SQ];rw [hl,upA al.1 QnI,Q0,show s.length-1+1=s.length by omega];rfl
theorem Qhi:TQ 400 St Pt Se Li s 0 nm tl sp ac br Tu4=some (arr (fEN Se s (YB Se s nm tl sp ac br)) s.length,arr (fLV Se s (YB Se s nm tl sp ac br)) s.length,AE (YB Se s nm tl sp ac br),0):=by
 have l2:=h.l2;have l24:=h.l24;have ht:=tEq h (nm:=nm) hk;have t1:=hk.t1;have hX:=NH h (nm:=nm) hk;have ar:=hX.hN;have aq:=hX.hC.len;have ao:=QcD h (nm:=nm) hk;have aj:=fun (j:Nat) (hj:j<s.length)=>QdA h (nm:=nm) hk hj
 have al:=AZ h (nm:=nm) hk (Qpb _);have hN:(YB Se s nm tl sp ac br).N=pos Se s (s.length-1):=rfl;unfold TQ;rw [Q9g h hk,Q0,Q8 (by rfl),Q8S h,Q0,CV h,ao,Q0];revert hX ar aq aj al hN ht;generalize YB Se s nm tl sp ac br=X;intro ht hX ar aq aj al hN;have ak:X.TT.length=X.N+1:=YF;have hw:wJ ((s.length:Int)-0)=(s.length:Int):=by rw [Q6 QnI QnI];omega
 have o:∀ k0:Int->Int->Bool->LL->LL->oP (LL×LL×Int×Int),Z8 400 X.TT Se s 0 tl k0 400 0 0 [] []=k0 ((pos Se s (s.length-1):Nat):Int) (s.length:Int) false (arr (fEN Se s X) s.length) (arr (fLV Se s X) s.length):=by
  intro k0;refine Qs (r:=fun m i=>Z8 400 X.TT Se s 0 tl k0 m ((pos Se s (i.toNat-1):Nat):Int) i (arr (fEN Se s X) i.toNat) (arr (fLV Se s X) i.toNat)) (N:=s.length) (fun m i hi=>?_) (fun m=>?_) s.length 400 0 QnI QnI
  ·simp only [QoW];obtain ⟨x,d,az,b,c,st,e,p,a0,a1,hd⟩:=Fd h.st hi;have hp:=aj (i-1) QnI;have q:=aj i hi;have hT:Q1 X.TT ((pos Se s (i-1):Nat):Int)=some [Q4 (fEN Se s X i)]:=by rw [Qd];exact JH QnI
   have hr:Y9 (((arr (fEN Se s X) i).length+List.length [[D.int .i64 (fEN Se s X i)]])*8)=some ():=XF (by simp only [YF,Qpg,Qpf];omega);have a:Y9 (((arr (fLV Se s X) i).length+List.length [[D.int .i64 (fLV Se s X i)]])*8)=some ():=XF (by simp only [YF,Qpg,Qpf];omega);have au:Q1 X.TT (if (X.N:Int)<((pos Se s i+X.t:Nat):Int) then (X.N:Int) else ((pos Se s i+X.t:Nat):Int))=some [Q4 (fLV Se s X i)]:=by
    unfold fLV;by_cases an:i<s.length-1
    ·have:=q.2 an;rw [Qp5 QnI,Qp4 an,Qd];exact JH QnI
    ·have e:i=s.length-1:=QnI
     rw [Qp4 (by rw [hN,e];omega),Qp5 an,Qd];exact JH QnI
   rw [Z8,hw,Qe hi,QoX,ak,wI (show ((X.N+1:Nat):Int)-1=(X.N:Int) by omega) QnI QnI];simp -implicitDefEqProofs only [Q0,QoT,QoU,Q2,hT,hr,SQ,wI (show (i:Int)+1=((i+1:Nat):Int) by omega) QnI QnI];by_cases t:i=0
   ·subst t;rw [show decide (((0:Nat):Int)>0)=false from rfl,QoV,wI (show ((pos Se s (0-1):Nat):Int)+tl=((pos Se s 0+X.t:Nat):Int) by rw [<- ht,show 0-1=0 from rfl];omega) QnI QnI,au];simp -implicitDefEqProofs only [Q0,QoT,Q2,a,SQ]
   ·have ay:pos Se s i=pos Se s (i-1)+sl Se s i:=by
     obtain ⟨k,rfl⟩:∃ k,i=k+1:=⟨i-1,QnI⟩;rfl
    rw [show decide ((i:Int)>0)=true by simp;omega,QoX,Qd,e];simp -implicitDefEqProofs only [Q0,QoT,QoU,Q2,p,wI (show ((pos Se s (i-1):Nat):Int)+((sl Se s i:Nat):Int)=((pos Se s i:Nat):Int) by omega) QnI QnI,wI (show ((pos Se s i:Nat):Int)+tl=((pos Se s i+X.t:Nat):Int) by omega) QnI QnI,au,a,SQ,Qp8]
  ·simp only [QoW];rw [Z8,hw,Qj,QoV]
 have hT:Q1 X.TT (X.N:Int)=some [Q4 (X.T X.N)]:=by rw [Qd];exact JH QnI
 rw [o,ak,wI (show ((X.N+1:Nat):Int)-1=(X.N:Int) by omega) QnI QnI];simp -implicitDefEqProofs only [hT,Q0,QoT,Q2,Qcu (n:=400) al.1 (show (1:Int)<=1000 by decide) QnI];rfl
end
abbrev Occ:=Int×Int×Int
def enc (q:Occ):List D:=[Q4 q.1,Q4 q.2.1,Q4 q.2.2]
def Ts (q:Occ):Bool:=decide (q.2.1<q.2.2)
def Rs (T:List Occ) (r:Nat) (f t:Int):List Occ:=match T[r]? with
 |some (_,a,b)=>if a<b then T.set r ((r:Int),(if a<f then a else f),(if t<b then b else t)) else T.set r ((r:Int),f,t)
 |none=>T
theorem TL {T:List Occ} {r:Nat} {f t:Int}:(Rs T r f t).length=T.length:=by
 unfold Rs;split
 ·split <;> simp
 ·rfl
theorem QfM {n:Nat} {T:List Occ} {r:Nat} {f t:Int} (h:r<T.length):Xj n (T.map enc) (r:Int) f t (some:LL->oP LL)=some ((Rs T r f t).map enc):=by
 obtain ⟨⟨x,a,b⟩,e⟩:∃ q,T[r]? = some q:=⟨T[r],QoY h⟩;have e2:(T.map enc)[r]? = some [Q4 x,Q4 a,Q4 b]:=by rw [Qpc,e];rfl
 unfold Xj;rw [Qp1,YX QnI QnI];simp -implicitDefEqProofs only [Q0,QoT,QoU,Q2,Xt,QJ,QoX,QoV,QoZ,Qp0,QoW,e2,List.set_cons_zero,List.set_cons_succ];unfold Rs;simp only [e];by_cases ac:a<b
 ·rw [show decide (a<b)=true by simpa using ac,QoX,Qp4 ac,List.map_set];rfl
 ·rw [show decide (a<b)=false by simpa using ac,QoV,Qp5 ac,List.map_set];rfl
theorem Qig {n:Nat} {T:List Occ} {r:Nat} {f t:Int} (h:r<T.length) (aj:f<t):YD n (T.map fun q=>[D.bool (Ts q)]) (T.map enc) (r:Int) f t Tu2=some ((Rs T r f t).map (fun q=>[D.bool (Ts q)]),(Rs T r f t).map enc):=by
 obtain ⟨⟨x,a,b⟩,e⟩:∃ q,T[r]? = some q:=⟨T[r],QoY h⟩;have e2:(T.map enc)[r]? = some [Q4 x,Q4 a,Q4 b]:=by rw [Qpc,e];rfl
 have g:(T.map fun q=>[D.bool (Ts q)])[r]? = some [D.bool (decide (a<b))]:=by rw [Qpc,e];rfl
 unfold YD;rw [Qp1,Qp1,YX QnI QnI];simp -implicitDefEqProofs only [Q0,QoT,QoU,Q2,Xt,QJ,QoX,QoV,QoZ,Qp0,QoW,e2,g,Mr,List.set_cons_zero,List.set_cons_succ];unfold Rs;simp only [e];by_cases ac:a<b
 ·rw [show decide (a<b)=true by simpa using ac,QoX,Qp4 ac,List.map_set,List.map_set,show Ts ((r:Int),(if a<f then a else f),(if t<b then b else t))=true by simp only [Ts,decide_eq_true_eq];split <;> split <;> omega];rfl
 ·rw [show decide (a<b)=false by simpa using ac,QoV,Qp5 ac,List.map_set,List.map_set,show Ts ((r:Int),f,t)=true by simpa [Ts] using aj];rfl
theorem Q3g:∀ {l:List Occ} {i:Nat} {a:Occ},((l.set i a).filter Ts).length<=(l.filter Ts).length+1
 |[],i,a=>by simp
 |x::l,0,a=>by
  rw [List.set_cons_zero,Qpo,Qpo];split <;> split <;> simp <;> omega
 |x::l,i+1,a=>by
  have:=Q3g (l:=l) (i:=i) (a:=a);rw [List.set_cons_succ,Qpo,Qpo];split <;> simp <;> omega
theorem Q21 {T:List Occ} {r:Nat} {f t:Int}:((Rs T r f t).filter Ts).length<=(T.filter Ts).length+1:=by
 unfold Rs;split
 ·split <;> exact Q3g
 ·omega
theorem Qi6 {T:List Occ} (hl:T.length<=300):V4 400 (T.map enc) (some:LL->oP LL)=some ((T.filter Ts).map enc):=by
 unfold V4;rw [Qp1];refine Qs (r:=fun m i=>XL 400 (T.map enc) (T.length:Int) (fun _ _ w=>some w) m i (((T.take i.toNat).filter Ts).map enc)) (N:=T.length) (fun m k hk=>?_) (fun m=>?_) T.length 400 0 QnI QnI
 ·simp only [QoW];obtain ⟨⟨x,a,b⟩,e⟩:∃ q,T[k]? = some q:=⟨T[k],QoY hk⟩;have aj:((((T.take k).filter Ts).map enc).length)<=300:=by
   rw [Qp1];have:=List.length_filter_le Ts (T.take k);rw [List.length_take] at this;omega
  rw [XL,Qe hk,Qd,Qpc,e,Yt e,List.filter_append,Qp9];simp -implicitDefEqProofs only [Q0,QoT,QoU,Q2,Xt,QJ,QoX,QoV,QoZ,Qp0,Option.map_some,enc,Qv (show k<=1000 by omega)];by_cases ac:a<b
  ·rw [show decide (a<b)=true by simpa using ac,QoX,show [(x,a,b)].filter Ts=[(x,a,b)] by simp [Ts,ac],XF (by simp only [Qpg,Qpf];omega)];rfl
  ·rw [show decide (a<b)=false by simpa using ac,QoV,show [(x,a,b)].filter Ts=[] by simp [Ts,ac],List.map_nil,List.append_nil]
 ·simp only [QoW];rw [XL,Qj,QoV,Qpn]
theorem Qhb {R:Type} {T:List Occ} (hl:T.length<=300) (K:LL->oP R):UP 400 (T.length:Int) (T.map fun q=>[D.bool (Ts q)]) (T.map enc) (fun _ _ w=>K w) 400 0 []=K ((T.filter Ts).map enc):=by
 refine Qs (r:=fun m i=>UP 400 (T.length:Int) (T.map fun q=>[D.bool (Ts q)]) (T.map enc) (fun _ _ w=>K w) m i (((T.take i.toNat).filter Ts).map enc)) (N:=T.length) (fun m k hk=>?_) (fun m=>?_) T.length 400 0 QnI QnI
 ·simp only [QoW];obtain ⟨⟨x,a,b⟩,e⟩:∃ q,T[k]? = some q:=⟨T[k],QoY hk⟩;have aj:((((T.take k).filter Ts).map enc).length)<=300:=by
   rw [Qp1];have:=List.length_filter_le Ts (T.take k);rw [List.length_take] at this;omega
  rw [UP,Qe hk,Qp1,Qp1,YX QnI QnI,QoW,Qpc,Qpc,e,Yt e,List.filter_append,Qp9];simp -implicitDefEqProofs only [Q0,QoT,QoU,Q2,Xt,QJ,QoX,QoV,QoZ,Qp0,Option.map_some,enc,show Ts (x,a,b)=decide (a<b) from rfl,Mr,Qv (show k<=1000 by omega)];by_cases ac:a<b
  ·rw [show decide (a<b)=true by simpa using ac,QoX,show [(x,a,b)].filter Ts=[(x,a,b)] by simp [Ts,ac],XF (by simp only [Qpg,Qpf];omega)];rfl
  ·rw [show decide (a<b)=false by simpa using ac,QoV,show [(x,a,b)].filter Ts=[] by simp [Ts,ac],List.map_nil,List.append_nil]
 ·simp only [QoW];rw [UP,Qj,QoV,Qpn]
def pt (Li s:LL) (i:Nat):Int:=pv (Qe6 Li (s.getD (i-1) []) (s.getD i []))
def sec (s:LL) (i:Nat):Nat:=match s.getD i [] with
 |.int _ x::_=>x.toNat
 |_=>0
def fr (Se s:LL) (X:Run) (bf:Int) (i:Nat):Int:=if i=0 then -bf else fEN Se s X (i-1) / 1000-16
def tu (Se s:LL) (X:Run) (af:Int) (i:Nat):Int:=if i<s.length-1 then cd (fLV Se s X i) 1000+4 else AE X+af
def Hn (N NP:Nat) (Li s:LL) (f g:Nat->Int):Nat->List Occ
 |0=>List.replicate (N+NP) (0,0,0)
 |i+1=>if i=0 then Rs (Hn N NP Li s f g i) (sec s i) (f i) (g i) else if pt Li s i<0 then Rs (Hn N NP Li s f g i) (sec s i) (f i) (g i) else Rs (Rs (Hn N NP Li s f g i) (sec s i) (f i) (g i)) (N+(pt Li s i).toNat) (f i) (g (i-1))
theorem Hi {N NP:Nat} {Li s:LL} {f g:Nat->Int}:∀ {i:Nat},(Hn N NP Li s f g i).length=N+NP
 |0=>by simp [Hn]
 |i+1=>by
  rw [Hn];split
  ·rw [TL,Hi]
  ·split <;> simp only [TL,Hi]
theorem Q17 {N NP:Nat} {Li s:LL} {f g:Nat->Int} {j:Nat}:Hn N NP Li s f g (j+1+1)=if pt Li s (j+1)<0 then Rs (Hn N NP Li s f g (j+1)) (sec s (j+1)) (f (j+1)) (g (j+1)) else Rs (Rs (Hn N NP Li s f g (j+1)) (sec s (j+1)) (f (j+1)) (g (j+1))) (N+(pt Li s (j+1)).toNat) (f (j+1)) (g j):=by
 show (if j+1=0 then _ else _)=_;rw [Qp5 QnI];rfl
def Q4F (St Pt Se Li s:LL) (X:Run) (bf af:Int):List Occ:=(Hn Se.length Pt.length Li s (fr Se s X bf) (tu Se s X af) s.length).filter Ts
section
variable {N NP:Nat} {Li:LL}
theorem Q4L:∀ {s:LL} {k:Nat},Ah N NP Li k s=true->∀ i,i+1<s.length->∃ p,Qe6 Li (s.getD i []) (s.getD (i+1) [])=some p/\ptR [] [] (List.replicate N []) Li (s.getD i []) (s.getD (i+1) [])=some p /\ -1<=p/\p<NP
 |[],_,_,i,hi=>by simp at hi
 |[_],_,_,i,hi=>by simp at hi
 |r::r'::t,k,h,i,hi=>by
  rw [Ah] at h;split at h
  ·rename_i p q e1 e2;simp only [Qpm,beq_iff_eq,decide_eq_true_eq] at h;obtain ⟨rfl,a,h2,b⟩:=h;cases i with
   |zero=>exact ⟨p,e1,e2,a,h2⟩
   |succ i=>exact Q4L b i (by simpa using hi)
  ·cases h
theorem Q6B:∀ {s:LL} {k:Nat},Ah N NP Li k s=true->∀ (c:Nat->Nat),(∀ i,c (i+1)<=c i+(if pt Li s (i+1)<0 then 1 else 2))->c 0<=k->∀ i,i<s.length->c i<=5
 |[],_,_,_,_,_,i,hi=>by simp at hi
 |[r],k,h,c,hc,f,i,hi=>by
  have:i=0:=by simpa using hi
  subst this;have:k<=5:=Qps h;omega
 |r::r'::t,k,h,c,hc,f,i,hi=>by
  rw [Ah] at h;split at h
  ·rename_i p q e1 e2;simp only [Qpm,beq_iff_eq,decide_eq_true_eq] at h;obtain ⟨rfl,j,h2,e⟩:=h;have hp:pt Li (r::r'::t) 1=p:=by show pv (Qe6 Li r r')=p;rw [e1];rfl
   have d:c 1<=c 0+(if pt Li (r::r'::t) 1<0 then 1 else 2):=hc 0;rw [hp] at d;have g:c 1<=(bif decide (p<0) then k+1 else k+2):=by
    by_cases hq:p<0
    ·rw [Qp4 hq] at d;rw [show decide (p<0)=true by simpa using hq,QoX];omega
    ·rw [Qp5 hq] at d;rw [show decide (p<0)=false by simpa using hq,QoV];omega
   have ih:=Q6B e (fun i=>c (i+1)) (fun i=>hc (i+1)) g;cases i with
   |zero=>
    have:=ih 0 QnK;have hq:c 0<=5:=by
     have ac:∀ {s:LL} {k:Nat},Ah N NP Li k s=true->k<=5:=by
      intro s;induction s with
      |nil=>exact fun h=>Qps h
      |cons a s ih=>
       intro k h;cases s with
       |nil=>exact Qps h
       |cons b s=>
        rw [Ah] at h;split at h
        ·simp only [Qpm] at h;have:=ih h.2.2.2;revert this;cases decide (_<(0:Int)) <;> simp <;> omega
        ·cases h
     have:=ac e;revert this;cases decide (p<0) <;> simp <;> omega
    exact hq
   |succ i=>exact ih i (by simpa using hi)
  ·cases h
end
theorem LE {α:Type} {l:List α} {n:Nat} (h:l.length=n):Hj l n=some ():=by
 grind [Hj,Nat.beq,Nat.beq_refl]
def spn (f g:Nat->Int) (n:Nat):LL:=(List.range n).map fun i=>[Q4 0,Q4 (f i),Q4 (g i)]
theorem Q8d {f g:Nat->Int} {n:Nat}:(spn f g n).length=n:=by simp [spn]
theorem Qga {f g:Nat->Int} {n i:Nat} (h:i<n):(spn f g n)[i]? = some [Q4 0,Q4 (f i),Q4 (g i)]:=by simp [spn,h]
theorem Q5W {f g:Nat->Int} {n:Nat}:spn f g n++[[Q4 0,Q4 (f n),Q4 (g n)]]=spn f g (n+1):=by simp [spn,List.range_succ]
theorem Ca {St Pt Se Li:LL} (h:P3 400 St Pt Se Li=true):Pt.length<=48/\Se.length<=96:=by
 simp_all [P3,Qpm,Qps]
theorem Qaf {l:List Occ}:LW [l.map enc]=some ():=by
 unfold LW;rw [show ([l.map enc].all B5)=true by simp [B5,enc,Q4P]];rfl
section
variable {St Pt Se Li s:LL} (h:RtF St Pt Se Li s) {nm:List UInt8} {tl sp ac br bf af:Int} (hk:StkN tl sp ac br) (hb0:0<=bf) (hb1:bf<=65536) (ha0:0<=af) (ha1:af<=65536)
include h hk
theorem Q0w {i j:Nat} (ak:i<=j) (hj:j<s.length):0<=fEN Se s (YB Se s nm tl sp ac br) i/\fEN Se s (YB Se s nm tl sp ac br) i<=fLV Se s (YB Se s nm tl sp ac br) j/\fLV Se s (YB Se s nm tl sp ac br) j<=7000000:=by
 have hX:=NH h (nm:=nm) hk;have a:=QdA h (nm:=nm) hk hj;have h2:=Q8A (Se:=Se) (s:=s) (i:=i-1) (j:=j) QnI;have c:=AZ h (nm:=nm) hk (b:=pos Se s (i-1)) QnI;unfold fEN fLV;by_cases hm:j<s.length-1
 ·rw [Qp4 hm];exact ⟨c.1,Run.T_mono hX QnI (a.2 hm),(AZ h (nm:=nm) hk (a.2 hm)).2⟩
 ·rw [Qp5 hm];exact ⟨c.1,Run.T_mono hX QnI (Qpb _),(AZ h (nm:=nm) hk (Qpb _)).2⟩
include hb0 hb1 ha0 ha1
theorem Qg2 {i:Nat} (hi:i<s.length) : -70000<=fr Se s (YB Se s nm tl sp ac br) bf i/\fr Se s (YB Se s nm tl sp ac br) bf i<tu Se s (YB Se s nm tl sp ac br) af i/\tu Se s (YB Se s nm tl sp ac br) af i<=80000/\(1<=i->fr Se s (YB Se s nm tl sp ac br) bf i<tu Se s (YB Se s nm tl sp ac br) af (i-1)):=by
 have l2:=h.l2;have hr:=Nx h (nm:=nm) hk;have hN:=Q0w h (nm:=nm) hk (i:=i-1) (j:=s.length-1) QnI QnI;have b:=Q0w h (nm:=nm) hk (i:=i-1) (j:=i) QnI hi;have c:=Q0w h (nm:=nm) hk (i:=i-1) (j:=i-1) QnI QnI;have c1:=Ma (a:=fLV Se s (YB Se s nm tl sp ac br) i) QnI (show (1:Int)<=1000 by decide);have c0:=Ma (a:=fLV Se s (YB Se s nm tl sp ac br) (i-1)) QnI (show (1:Int)<=1000 by decide);have hl:fLV Se s (YB Se s nm tl sp ac br) (s.length-1)=(YB Se s nm tl sp ac br).T (YB Se s nm tl sp ac br).N:=by unfold fLV;rw [Qp5 QnI]
 have cN:=Ma (a:=fLV Se s (YB Se s nm tl sp ac br) (s.length-1)) QnI (show (1:Int)<=1000 by decide);have aj:AE (YB Se s nm tl sp ac br)=cd (fLV Se s (YB Se s nm tl sp ac br) (s.length-1)) 1000:=by rw [hl];rfl
 unfold fr tu;omega
theorem Qft:ZI 400 St Pt Se Li s 0 nm tl sp ac br bf af Tu3=some ((Q4F St Pt Se Li s (YB Se s nm tl sp ac br) bf af).map enc,AE (YB Se s nm tl sp ac br),0):=by
 have l2:=h.l2;have l24:=h.l24;have a4:=Nx h (nm:=nm) hk;have aj:=fun i j (a7:i<=j) (hj:j<s.length)=>Q0w h (nm:=nm) hk (i:=i) (j:=j) a7 hj
 have aq:=fun i (hi:i<s.length)=>Qg2 h (nm:=nm) hk hb0 hb1 ha0 ha1 hi
 have bb:=Qev h (nm:=nm) hk;have bl:=Ca h.lay;unfold ZI;rw [QdG h.lay rfl h.l2 h.l24 h.rt h.st hk,Q0,Q8 (by rfl),show decide (bf<0)=false by simpa using hb0,show decide (bf>65536)=false by simpa using hb1,show decide (af<0)=false by simpa using ha0,show decide (af>65536)=false by simpa using ha1];simp -implicitDefEqProofs only [QoV];unfold Zz;rw [bb];revert a4 aj aq;generalize YB Se s nm tl sp ac br=X;intro a4 aj aq;have v:wJ ((s.length:Int)-1)=((s.length-1:Nat):Int):=J8 QnI QnI;have z:wJ (((s.length-1:Nat):Int)-1)=((s.length-1-1:Nat):Int):=J8 QnI QnI;have ax:∀ i,i<s.length->Q1 (arr (fEN Se s X) s.length) (i:Int)=some [Q4 (fEN Se s X i)]:=fun i hi=>by rw [Qd];exact JH hi
 have az:∀ i,i<s.length->Q1 (arr (fLV Se s X) s.length) (i:Int)=some [Q4 (fLV Se s X i)]:=fun i hi=>by rw [Qd];exact JH hi
 have aw:∀ i,i<s.length->UY 400 (fEN Se s X i) (some:Int->oP Int)=some (fEN Se s X i / 1000):=fun i hi=>Qh0 (aj i i (Qpb i) hi).1 (by have:=aj i i (Qpb i) hi;omega)
 have a3:∀ i,i<s.length->Jr 400 (fLV Se s X i) (some:Int->oP Int)=some (cd (fLV Se s X i) 1000):=fun i hi=>upA (by have:=aj i i (Qpb i) hi;omega) (by have:=aj i i (Qpb i) hi;omega)
 have ao:∀ (k:Nat) (r:List D),k<=30->Y9 (((spn (fr Se s X bf) (tu Se s X af) k).length+[r].length)*24)=some ():=fun k r hk=>XF (by simp only [Q8d,Qpg,Qpf];omega)
 have f0:fr Se s X bf 0 = -bf:=rfl;have t0:tu Se s X af 0=cd (fLV Se s X 0) 1000+4:=by unfold tu;rw [Qp4 QnI]
 have q0:=aq 0 QnI;rw [Q0,Q8 (by rfl)];dsimp only;rw [show (0:Int)=((0:Nat):Int) from rfl,az 0 QnI];simp -implicitDefEqProofs only [Q0,QoT,Q2,a3 0 QnI,YF,v];have ab:∀ k0:Int->Bool->LL->oP (LL×Int×Int),XC 400 (arr (fEN Se s X) s.length) (arr (fLV Se s X) s.length) ((s.length-1:Nat):Int) k0 400 1 (spn (fr Se s X bf) (tu Se s X af) 1)=k0 ((s.length-1:Nat):Int) false (spn (fr Se s X bf) (tu Se s X af) (s.length-1)):=by
  intro k0;refine Qs (r:=fun m i=>XC 400 (arr (fEN Se s X) s.length) (arr (fLV Se s X) s.length) ((s.length-1:Nat):Int) k0 m ((i.toNat+1:Nat):Int) (spn (fr Se s X bf) (tu Se s X af) (i.toNat+1))) (N:=s.length-1-1) (fun m i hi=>?_) (fun m=>?_) (s.length-1-1) 400 0 QnI QnI
  ·simp only [QoW];have hf:fr Se s X bf (i+1)=fEN Se s X i / 1000-16:=by unfold fr;rw [Qp5 QnI];rfl
   have ht:tu Se s X af (i+1)=cd (fLV Se s X (i+1)) 1000+4:=by unfold tu;rw [Qp4 QnI]
   have q:=aq (i+1) QnI;rw [XC,Qe (show i+1<s.length-1 by omega),QoX,J8 (show i+1<=1000 by omega) QnI,Qp8,ax i QnI];simp -implicitDefEqProofs only [Q0,QoT,Q2,aw i QnI,az (i+1) QnI,a3 (i+1) QnI,wI hf.symm QnI QnI,wI ht.symm QnI QnI,ao (i+1) _ QnI,Q5W,Qv (show i+1<=1000 by omega)]
  ·simp only [QoW];rw [show s.length-1-1+1=s.length-1 by omega,XC,Qj,QoV]
 rw [show ([[D.int .i64 ((0:Nat):Int),D.int .i64 (wJ (((0:Nat):Int)-bf)),D.int .i64 (wJ (cd (fLV Se s X 0) 1000+4))]]:LL)=spn (fr Se s X bf) (tu Se s X af) 1 by
  rw [wI (show ((0:Nat):Int)-bf=fr Se s X bf 0 by omega) QnI QnI,wI t0.symm QnI QnI];rfl,ab]
 have a9:fr Se s X bf (s.length-1)=fEN Se s X (s.length-1-1) / 1000-16:=by unfold fr;rw [Qp5 QnI]
 have bc:tu Se s X af (s.length-1)=AE X+af:=by unfold tu;rw [Qp5 QnI]
 have qm:=aq (s.length-1) QnI;have a5:VJ 400 St Pt Se Li (some:LL->oP LL)=some ((Hn Se.length Pt.length Li s (fr Se s X bf) (tu Se s X af) 0).map enc):=by
  unfold VJ;rw [wI (show (Se.length:Int)+(Pt.length:Int)=((Se.length+Pt.length:Nat):Int) by omega) QnI QnI,show (bif decide ((0:Int)<=((Se.length+Pt.length:Nat):Int))&&decide (((Se.length+Pt.length:Nat):Int)<=((Se.length+Pt.length:Nat):Int)) then some () else none)=some () by rw [QP QnL],Q0,QoW,XF QnI,Q0,Hn,List.map_replicate];rfl
 rw [z,ax (s.length-1-1) QnI];simp -implicitDefEqProofs only [Q0,QoT,Q2,aw (s.length-1-1) QnI,aw (s.length-1) QnI,ax (s.length-1) QnI,a5,show ((0:Nat):Int)=0 from rfl,wI a9.symm QnI QnI,wI bc.symm QnI QnI,ao (s.length-1) _ QnI,Q5W];rw [show s.length-1+1=s.length by omega];have ad:∀ k0:Int->Bool->LL->LL->oP (LL×Int×Int),Qi 400 ((s.length-1:Nat):Int) s (s.length:Int) St Pt Se Li s (wJ (fEN Se s X (s.length-1) / 1000-16)) (wJ (AE X+20)) k0 400 0 (spn (fr Se s X bf) (tu Se s X af) s.length) ((Hn Se.length Pt.length Li s (fr Se s X bf) (tu Se s X af) 0).map enc)=k0 (s.length:Int) false (spn (fr Se s X bf) (tu Se s X af) s.length) ((Hn Se.length Pt.length Li s (fr Se s X bf) (tu Se s X af) s.length).map enc):=by
  intro k0;refine Qs (r:=fun m i=>Qi 400 ((s.length-1:Nat):Int) s (s.length:Int) St Pt Se Li s (wJ (fEN Se s X (s.length-1) / 1000-16)) (wJ (AE X+20)) k0 m i (spn (fr Se s X bf) (tu Se s X af) s.length) ((Hn Se.length Pt.length Li s (fr Se s X bf) (tu Se s X af) i.toNat).map enc)) (N:=s.length) (fun m i hi=>?_) (fun m=>?_) s.length 400 0 QnI QnI
  ·simp only [QoW];obtain ⟨x,d,bk,b,c,st,e,h1,a0,a1,hd⟩:=Fd h.st hi;have hx:=Hv h1;have ak:0<=x/\x<Se.length:=by
    have h2:=hx.1;unfold inB at h2;by_cases hc:0<=x/\x<Se.length
    ·exact hc
    ·rw [show (decide (0<=x)&&decide (x<(Se.length:Int)))=false by simp;omega] at h2;cases h2
   have au:x=((sec s i:Nat):Int):=by
    unfold sec;rw [Qp7,e];show x=(x.toNat:Int);omega
   have hT:=Hi (N:=Se.length) (NP:=Pt.length) (Li:=Li) (s:=s) (f:=fr Se s X bf) (g:=tu Se s X af) (i:=i);have ha:=QfM (n:=400) (T:=Hn Se.length Pt.length Li s (fr Se s X bf) (tu Se s X af) i) (r:=sec s i) (f:=fr Se s X bf i) (t:=tu Se s X af i) QnI;have a2:∀ j,j<s.length->(spn (fr Se s X bf) (tu Se s X af) s.length)[j]? = some [Q4 0,Q4 (fr Se s X bf j),Q4 (tu Se s X af j)]:=fun j hj=>Qga hj
   rw [Qi,Qe hi,Qd,e];simp -implicitDefEqProofs only [QoX,Q0,QoT,QoU,show decide ((i:Int)>((s.length-1:Nat):Int))=false by simp;omega,QoV,Q2,Q8d,YX (len:=s.length) (show (0:Int)<=(i:Int) by omega) (show (i:Int)<(s.length:Int) by omega),QoW,a2 i hi,au,ha,Qv (show i<=1000 by omega),LE (l:=(Rs (Hn Se.length Pt.length Li s (fr Se s X bf) (tu Se s X af) i) (sec s i) (fr Se s X bf i) (tu Se s X af i)).map enc) (n:=((Hn Se.length Pt.length Li s (fr Se s X bf) (tu Se s X af) i).map enc).length) (by simp only [Qp1,TL])];by_cases ag:i=0
   ·subst ag;rw [show (((0:Nat):Int) == 0)=true from rfl,QoX];rfl
   ·obtain ⟨j,rfl⟩:∃ j,i=j+1:=⟨i-1,QnI⟩;obtain ⟨x',d',bh,b',c',st',e',bg,_,_,a6⟩:=Fd h.st (j:=j) QnI;obtain ⟨p,a,al,am,an⟩:=Q4L h.hops j hi;rw [Qp7,Qp7,e,e',Qpi,Qpi] at a;have ba:=Hv bg;have ar:0<=x'/\x'<Se.length:=by
     have h2:=ba.1;unfold inB at h2;by_cases hc:0<=x'/\x'<Se.length
     ·exact hc
     ·rw [show (decide (0<=x')&&decide (x'<(Se.length:Int)))=false by simp;omega] at h2;cases h2
    have a8:pt Li s (j+1)=p:=by
     unfold pt;rw [Qp7,Qp7,e,Qp8,e',Qpi,Qpi,a];rfl
    have ay:=(Qck h.lay ar.1 ar.2 a6 (y:=x) (e:=d)).trans a;rw [au] at ay;rw [show (((j+1:Nat):Int) == 0)=false by simp;omega,QoV,J8 (show j+1<=1000 by omega) QnI,Qp8,Qd,e'];simp -implicitDefEqProofs only [Q0,QoT,QoU,Q2,ay];rw [Q17,a8];by_cases hp:p<0
    ·rw [show decide (p<0)=true by simpa using hp,QoX,Qp4 hp]
    ·have ah:=QfM (n:=400) (T:=Rs (Hn Se.length Pt.length Li s (fr Se s X bf) (tu Se s X af) (j+1)) (sec s (j+1)) (fr Se s X bf (j+1)) (tu Se s X af (j+1))) (r:=Se.length+p.toNat) (f:=fr Se s X bf (j+1)) (t:=tu Se s X af j) (by rw [TL];omega);rw [show decide (p<0)=false by simpa using hp,QoV,Qp5 hp,show decide (((j+1:Nat):Int)<=((s.length-1:Nat):Int))=true by simp;omega,QoX];simp -implicitDefEqProofs only [YX (len:=s.length) (show (0:Int)<=(j:Int) by omega) (show (j:Int)<(s.length:Int) by omega),Q0,QoT,QoU,Q2,a2 j QnI,wI (show (Se.length:Int)+p=((Se.length+p.toNat:Nat):Int) by omega) QnI QnI,QoW,ah,Qp8];rw [LE (by simp only [Qp1,TL]),Q0]
  ·simp only [QoW];rw [Qi,Qj,QoV]
 rw [ad,Qi6 (by rw [Hi];omega),Q0,Qaf,Q0];rfl
end
theorem Qgg {St Pt Se Li L:LL} {x d y e p:Int} (h:ptR [] [] L Li [Q4 x,Q4 d] [Q4 y,Q4 e]=some p):∃ a b c,Js 400 St Pt Se Li x d y e Tu5=some (a,b,Q4 p,c,true):=by
 rw [QiH (a':=[]) (b':=[]) (L':=L)];unfold ptR at h;dsimp only at h;split at h
 ·rename_i he;cases h;exact ⟨_,_,_,he⟩
 ·cases h
def Qc6 (T:List Occ):LL:=T.map fun q=>[D.bool (Ts q)]
section
variable {St Pt Se Li s:LL} (h:RtF St Pt Se Li s) {nm:List UInt8} {tl sp ac br bf af:Int} (hk:StkN tl sp ac br) (hb0:0<=bf) (hb1:bf<=65536) (ha0:0<=af) (ha1:af<=65536)
include h hk hb0 hb1 ha0 ha1
theorem Qh7:KI 400 St Pt Se Li s 0 nm tl sp ac br bf af Tu3=some ((Q4F St Pt Se Li s (YB Se s nm tl sp ac br) bf af).map enc,AE (YB Se s nm tl sp ac br),0):=by
 have l2:=h.l2;have l24:=h.l24;have a9:=Nx h (nm:=nm) hk;have ay:=fun i j (bh:i<=j) (hj:j<s.length)=>Q0w h (nm:=nm) hk (i:=i) (j:=j) bh hj
 have a3:=fun i (hi:i<s.length)=>Qg2 h (nm:=nm) hk hb0 hb1 ha0 ha1 hi
 have bk:=Qhi h (nm:=nm) hk;have b5:=Ca h.lay;unfold KI;rw [Q9g h hk,Q0,Q8 (by rfl),Q3W hb0 hb1,Q0,Q3W ha0 ha1];simp -implicitDefEqProofs only [Q0,QoZ,QoV,Qp0];rw [bk];revert a9 ay a3;generalize YB Se s nm tl sp ac br=X;intro a9 ay a3;have o:wJ ((s.length:Int)-1)=((s.length-1:Nat):Int):=J8 QnI QnI;have bb:∀ i,i<s.length->Q1 (arr (fEN Se s X) s.length) (i:Int)=some [Q4 (fEN Se s X i)]:=fun i hi=>by rw [Qd];exact JH hi
 have a4:∀ i,i<s.length->Q1 (arr (fLV Se s X) s.length) (i:Int)=some [Q4 (fLV Se s X i)]:=fun i hi=>by rw [Qd];exact JH hi
 have a5:∀ i,i<s.length->Vg 400 (fEN Se s X i) 1000 (some:Int->oP Int)=some (fEN Se s X i / 1000):=fun i hi=>Qg8 (ay i i (Qpb i) hi).1 (by have:=ay i i (Qpb i) hi;omega)
 have a8:∀ i,i<s.length->J2 400 (fLV Se s X i) 1000 (some:Int->oP Int)=some (cd (fLV Se s X i) 1000):=fun i hi=>Qcu (by have:=ay i i (Qpb i) hi;omega) QnJ (by have:=ay i i (Qpb i) hi;omega)
 have bg:wJ ((Se.length:Int)+(Pt.length:Int))=((Se.length+Pt.length:Nat):Int):=wI QnI QnI QnI;have hg:(bif decide ((0:Int)<=((Se.length+Pt.length:Nat):Int))&&decide (((Se.length+Pt.length:Nat):Int)<=((Se.length+Pt.length:Nat):Int)) then some () else none)=some ():=by rw [QP QnL]
 rw [Q0];dsimp only;simp -implicitDefEqProofs only [bg,hg,Q0,QoW,XF (show (Se.length+Pt.length)*1<=100000 by omega),XF (show (Se.length+Pt.length)*24<=100000 by omega),YF,o];let T:Nat->List Occ:=fun i=>Hn Se.length Pt.length Li s (fr Se s X bf) (tu Se s X af) i
 have t:∀ k0:Int->Int->Bool->LL->LL->oP (LL×Int×Int),ZO 400 bf af (arr (fEN Se s X) s.length) (arr (fLV Se s X) s.length) (AE X) ((s.length-1:Nat):Int) St Pt Se Li s k0 400 0 0 (Qc6 (T 0)) ((T 0).map enc)=k0 (tu Se s X af (s.length-1)) (s.length:Int) false (Qc6 (T s.length)) ((T s.length).map enc):=by
  intro k0;refine Qs (r:=fun m i=>ZO 400 bf af (arr (fEN Se s X) s.length) (arr (fLV Se s X) s.length) (AE X) ((s.length-1:Nat):Int) St Pt Se Li s k0 m (if i.toNat=0 then 0 else tu Se s X af (i.toNat-1)) i (Qc6 (T i.toNat)) ((T i.toNat).map enc)) (N:=s.length) (fun m i hi=>?_) (fun m=>?_) s.length 400 0 QnI QnI
  ·simp only [QoW];obtain ⟨x,d,bv,b,c,st,e,u,a0,a1,hd⟩:=Fd h.st hi;have hx:=Hv u;have ax:0<=x/\x<Se.length:=by
    have h2:=hx.1;unfold inB at h2;by_cases hc:0<=x/\x<Se.length
    ·exact hc
    ·rw [show (decide (0<=x)&&decide (x<(Se.length:Int)))=false by simp;omega] at h2;cases h2
   have a2:x=((sec s i:Nat):Int):=by
    unfold sec;rw [Qp7,e];show x=(x.toNat:Int);omega
   have hT:(T i).length=Se.length+Pt.length:=Hi;have q:=a3 i hi;have ha:YD 400 (Qc6 (T i)) ((T i).map enc) ((sec s i:Nat):Int) (fr Se s X bf i) (tu Se s X af i) Tu2=_:=Qig QnI q.2.1;rw [ZO,Qe hi,QoX];have hz:∀ (J:Int->Int->oP (LL×Int×Int)),jn J (fun j=>bif ((i:Int) == (0:Int)) then
      gb true (Q1 (arr (fLV Se s X) s.length) (0:Int)) [] fun v=>gb true (v[0]?) oF fun y=>gb true (pIw y) 0 fun z=>gb true (J2 400 z (1000:Int) some) 0 fun aa=>j (wJ (0-bf)) (wJ (aa+(4:Int)))
     else bif (decide ((i:Int)<((s.length-1:Nat):Int))) then
      gb true (Q1 (arr (fEN Se s X) s.length) (wJ ((i:Int)-(1:Int)))) [] fun ab=>gb true (ab[0]?) oF fun ad=>gb true (pIw ad) 0 fun ae=>gb true (Vg 400 ae (1000:Int) some) 0 fun ag=>
      gb true (Q1 (arr (fLV Se s X) s.length) (i:Int)) [] fun ah=>gb true (ah[0]?) oF fun ai=>gb true (pIw ai) 0 fun aj=>gb true (J2 400 aj (1000:Int) some) 0 fun ak=>j (wJ (ag-(16:Int))) (wJ (ak+(4:Int)))
     else bif ((i:Int) == ((s.length-1:Nat):Int)) then
      gb true (Q1 (arr (fEN Se s X) s.length) (wJ (((s.length-1:Nat):Int)-(1:Int)))) [] fun al=>gb true (al[0]?) oF fun am=>gb true (pIw am) 0 fun an=>gb true (Vg 400 an (1000:Int) some) 0 fun ao=>j (wJ (ao-(16:Int))) (wJ (AE X+af))
     else
      gb true (Q1 (arr (fEN Se s X) s.length) ((s.length-1:Nat):Int)) [] fun ap=>gb true (ap[0]?) oF fun aq=>gb true (pIw aq) 0 fun ar=>gb true (Vg 400 ar (1000:Int) some) 0 fun au=>j (wJ (au-(16:Int))) (wJ (AE X+(20:Int))))=J (fr Se s X bf i) (tu Se s X af i):=by
    intro J;dsimp only [jn];by_cases g:i=0
    ·subst g;have t0:tu Se s X af 0=cd (fLV Se s X 0) 1000+4:=by unfold tu;rw [Qp4 QnI]
     have f0:fr Se s X bf 0 = -bf:=rfl;rw [show (((0:Nat):Int) == 0)=true from rfl,QoX,show (0:Int)=((0:Nat):Int) from rfl,a4 0 hi];simp -implicitDefEqProofs only [Q0,QoT,Q2,a8 0 hi,wI (show ((0:Nat):Int)-bf=fr Se s X bf 0 by omega) QnI QnI,wI t0.symm QnI QnI]
    ·have hp:fr Se s X bf i=fEN Se s X (i-1) / 1000-16:=by unfold fr;rw [Qp5 g]
     rw [show ((i:Int) == 0)=false by simp;omega,QoV];by_cases a7:i<s.length-1
     ·have ht:tu Se s X af i=cd (fLV Se s X i) 1000+4:=by unfold tu;rw [Qp4 a7]
      rw [Qe a7,QoX,J8 QnI QnI,bb (i-1) QnI];simp -implicitDefEqProofs only [Q0,QoT,Q2,a5 (i-1) QnI,a4 i hi,a8 i hi,wI hp.symm QnI QnI,wI ht.symm QnI QnI]
     ·obtain rfl:i=s.length-1:=QnI
      have ht:tu Se s X af (s.length-1)=AE X+af:=by unfold tu;rw [Qp5 QnI]
      rw [Qj,QoV,show (((s.length-1:Nat):Int) == ((s.length-1:Nat):Int))=true by simp,QoX,J8 QnI QnI,bb (s.length-1-1) QnI];simp -implicitDefEqProofs only [Q0,QoT,Q2,a5 (s.length-1-1) QnI,wI hp.symm QnI QnI,wI ht.symm QnI QnI]
   rw [hz,Qd,e];simp -implicitDefEqProofs only [Q0,QoT,QoU,Q2,a2,ha,Qv (show i<=1000 by omega),Qp8,Nat.succ_ne_zero,if_false];by_cases g:i=0
   ·subst g;rw [show decide (((0:Nat):Int)>0)=false from rfl,QoV];rfl
   ·obtain ⟨j,rfl⟩:∃ j,i=j+1:=⟨i-1,QnI⟩;obtain ⟨x',d',bl,b',c',st',e',b7,_,_,bu⟩:=Fd h.st (j:=j) QnI;obtain ⟨p,l,k,az,ba⟩:=Q4L h.hops j hi;rw [Qp7,Qp7,e,e',Qpi,Qpi] at l k;have bi:pt Li s (j+1)=p:=by
     unfold pt;rw [Qp7,Qp7,e,Qp8,e',Qpi,Qpi,l];rfl
    rw [a2] at k;obtain ⟨u1,u2,u3,hj⟩:=Qgg (St:=St) (Pt:=Pt) (Se:=Se) k;rw [QnQ (((j+1:Nat):Int)>0),QoX,J8 (show j+1<=1000 by omega) QnI,Qp8,Qd,e'];simp -implicitDefEqProofs only [Q0,QoT,QoU,Q2,hj];have bj:T (j+1+1)=if p<0 then Rs (T (j+1)) (sec s (j+1)) (fr Se s X bf (j+1)) (tu Se s X af (j+1)) else Rs (Rs (T (j+1)) (sec s (j+1)) (fr Se s X bf (j+1)) (tu Se s X af (j+1))) (Se.length+p.toNat) (fr Se s X bf (j+1)) (tu Se s X af j):=by
     show Hn _ _ _ _ _ _ (j+1+1)=_;rw [Q17,bi]
    rw [bj];by_cases hp:p<0
    ·rw [show decide (p>=0)=false by simp;omega,QoV,Qp4 hp];rfl
    ·have aw:YD 400 (Qc6 (Rs (T (j+1)) (sec s (j+1)) (fr Se s X bf (j+1)) (tu Se s X af (j+1)))) ((Rs (T (j+1)) (sec s (j+1)) (fr Se s X bf (j+1)) (tu Se s X af (j+1))).map enc) ((Se.length+p.toNat:Nat):Int) (fr Se s X bf (j+1)) (tu Se s X af j) Tu2=_:=Qig (by rw [TL];omega) (q.2.2.2 QnI);rw [show decide (p>=0)=true by simp;omega,QoX,Qp5 hp,show decide (((j+1:Nat):Int)>((s.length-1:Nat):Int))=false by simp;omega,QoV];have n:=aw;unfold Qc6 at n;simp -implicitDefEqProofs only [Q0,wI (show (Se.length:Int)+p=((Se.length+p.toNat:Nat):Int) by omega) QnI QnI,n,Qp8,Qp5 (Nat.succ_ne_zero _)];rfl
  ·simp only [QoW];rw [ZO,Qj,QoV,Qp5 QnI]
 have a6:T 0=List.replicate (Se.length+Pt.length) (0,0,0):=rfl;have e1:List.replicate (Se.length+Pt.length) [D.bool false]=Qc6 (T 0):=by rw [a6];unfold Qc6;rw [List.map_replicate];rfl
 have e2:List.replicate (Se.length+Pt.length) [D.int .i64 (0:Int),D.int .i64 (0:Int),D.int .i64 (0:Int)]=(T 0).map enc:=by rw [a6,List.map_replicate];rfl
 rw [e1,e2,t];have hl:((Se.length+Pt.length:Nat):Int)=(((T s.length).length:Nat):Int):=by rw [show (T s.length).length=Se.length+Pt.length from Hi]
 rw [hl];exact Qhb (by rw [show (T s.length).length=Se.length+Pt.length from Hi];omega) _
end
def OL:Int->List Occ->Prop
 |_,[]=>True
 |l,(x,a,b)::r=>l<x /\ -1000<=a/\a<b/\b<=20000/\x<=1000/\OL x r
theorem OL.mono:∀ {l l':Int} {O:List Occ},l'<=l->OL l O->OL l' O
 |_,_,[],_,_=>trivial
 |_,_,(x,a,b)::r,h,⟨c,h2⟩=>⟨QnI,h2⟩
theorem OL.filter {p:Occ->Bool}:∀ {l:Int} {O:List Occ},OL l O->OL l (O.filter p)
 |_,[],_=>trivial
 |l,(x,a,b)::r,⟨d,h2,e,f,g,c⟩=>by
  rw [Qpo];split
  ·exact ⟨d,h2,e,f,g,c.filter⟩
  ·exact (c.filter).mono QnI
theorem OL.mem:∀ {l:Int} {O:List Occ},OL l O->∀ q∈O,l<q.1 /\ -1000<=q.2.1/\q.2.1<q.2.2/\q.2.2<=20000/\q.1<=1000
 |_,[],_,_,h=>nomatch h
 |l,(x,a,b)::r,⟨c,h2,d,e,f,g⟩,q,h=>by
  cases h with
  |head=>exact ⟨c,h2,d,e,f⟩
  |tail _ h=>have:=g.mem q h;exact ⟨QnI,this.2⟩
def TI (T:List Occ):Prop:=∀ (r:Nat) (x a b:Int),T[r]? = some (x,a,b)->a<b->x=(r:Int) /\ -1000<=a/\b<=20000
theorem TI.add {T:List Occ} (h:TI T) {r:Nat} {f t:Int} (hf : -1000<=f) (ht:t<=20000):TI (Rs T r f t):=by
 unfold Rs;cases e:T[r]? with
 |none=>exact h
 |some q=>
  obtain ⟨x,a,b⟩:=q;dsimp only;have hr:=(Qp2.1 e).1;by_cases al:a<b
  ·have c:=h r x a b e al;rw [Qp4 al];intro r' x' a' b' e' aj;rw [List.getElem?_set] at e';by_cases ak:r=r'
   ·subst ak;rw [Qp4 rfl,Qp4 hr] at e';cases e';refine ⟨rfl,?_,?_⟩ <;> split <;> omega
   ·rw [Qp5 ak] at e';exact h r' x' a' b' e' aj
  ·rw [Qp5 al];intro r' x' a' b' e' aj;rw [List.getElem?_set] at e';by_cases ak:r=r'
   ·subst ak;rw [Qp4 rfl,Qp4 hr] at e';cases e';exact ⟨rfl,hf,ht⟩
   ·rw [Qp5 ak] at e';exact h r' x' a' b' e' aj
theorem TI.ol:∀ {T:List Occ} {k:Nat},T.length+k<=1000->(∀ (r:Nat) (x a b:Int),T[r]? = some (x,a,b)->a<b->x=((r+k:Nat):Int) /\ -1000<=a/\b<=20000)->OL ((k:Int)-1) (T.filter Ts)
 |[],_,_,_=>trivial
 |(x,a,b)::T,k,hk,h=>by
  have ih:=TI.ol (T:=T) (k:=k+1) (by simp at hk;omega) fun r x a b e aj=>by
   have:=h (r+1) x a b e aj;rw [show r+1+k=r+(k+1) by omega] at this;exact this
  rw [show ((k+1:Nat):Int)-1=(k:Int) by omega] at ih;have c:=h 0 x a b rfl;rw [Qpo];by_cases aj:a<b
  ·have c:=c aj;rw [show Ts (x,a,b)=true by simpa [Ts] using aj,Qp4 rfl];have hx:x=(k:Int):=by simpa using c.1
   refine ⟨QnI,c.2.1,aj,c.2.2,by simp at hk;omega,?_⟩;rw [hx];exact ih
  ·rw [show Ts (x,a,b)=false by simpa [Ts] using aj,Qp5 QnK];exact ih.mono QnI
section
variable {St Pt Se Li s:LL} (h:RtF St Pt Se Li s) {nm:List UInt8} {tl sp ac br bf af:Int} (hk:StkN tl sp ac br) (hb0:0<=bf) (hb1:bf<=60) (ha0:0<=af) (ha1:af<=5000)
include h hk hb0 hb1 ha0 ha1
theorem Qch {i:Nat} (hi:i<s.length) : -1000<=fr Se s (YB Se s nm tl sp ac br) bf i/\tu Se s (YB Se s nm tl sp ac br) af i<=20000:=by
 have l2:=h.l2;have hr:=Nx h (nm:=nm) hk;have b:=Q0w h (nm:=nm) hk (i:=i-1) (j:=i) QnI hi;have c1:=Ma (a:=fLV Se s (YB Se s nm tl sp ac br) i) QnI (show (1:Int)<=1000 by decide);unfold fr tu;constructor
 ·split <;> omega
 ·split <;> omega
theorem Q9K:OL (-1) (Q4F St Pt Se Li s (YB Se s nm tl sp ac br) bf af)/\(Q4F St Pt Se Li s (YB Se s nm tl sp ac br) bf af).length<=6:=by
 have al:=Ca h.lay;have aj:=fun i (hi:i<s.length)=>Qch h (nm:=nm) hk hb0 hb1 ha0 ha1 hi
 have l2:=h.l2;unfold Q4F;generalize YB Se s nm tl sp ac br=X at aj;have hT:∀ i,i<=s.length->TI (Hn Se.length Pt.length Li s (fr Se s X bf) (tu Se s X af) i):=by
  intro i;induction i with
  |zero=>
   intro _ r x a b e ak;have:=Qp2.1 e;obtain ⟨d,h2⟩:=this;simp only [Hn,List.getElem_replicate] at h2;cases h2;omega
  |succ i ih=>
   intro hi;have ih:=ih QnI;have q:=aj i QnI;rw [Hn];split
   ·exact ih.add q.1 q.2
   ·have c:=aj (i-1) QnI;split
    ·exact ih.add q.1 q.2
    ·exact (ih.add q.1 q.2).add q.1 c.2
 constructor
 ·have:=TI.ol (T:=Hn Se.length Pt.length Li s (fr Se s X bf) (tu Se s X af) s.length) (k:=0) (by rw [Hi];omega) (fun r x a b e ak=>hT _ (Qpb _) r x a b e ak);exact this
 ·have hc:=Q6B h.hops (fun i=>((Hn Se.length Pt.length Li s (fr Se s X bf) (tu Se s X af) (i+1)).filter Ts).length-1) (fun i=>?_) ?_ (s.length-1) QnI
  ·rw [show s.length-1+1=s.length by omega] at hc;omega
  ·rw [Q17];have c1:=Q21 (T:=Hn Se.length Pt.length Li s (fr Se s X bf) (tu Se s X af) (i+1)) (r:=sec s (i+1)) (f:=fr Se s X bf (i+1)) (t:=tu Se s X af (i+1));split
   ·omega
   ·have g:=Q21 (T:=Rs (Hn Se.length Pt.length Li s (fr Se s X bf) (tu Se s X af) (i+1)) (sec s (i+1)) (fr Se s X bf (i+1)) (tu Se s X af (i+1))) (r:=Se.length+(pt Li s (i+1)).toNat) (f:=fr Se s X bf (i+1)) (t:=tu Se s X af i);omega
  ·have c1:=Q21 (T:=Hn Se.length Pt.length Li s (fr Se s X bf) (tu Se s X af) 0) (r:=sec s 0) (f:=fr Se s X bf 0) (t:=tu Se s X af 0);have c0:((Hn Se.length Pt.length Li s (fr Se s X bf) (tu Se s X af) 0).filter Ts).length=0:=by
    rw [Hn];simp [Ts]
   show ((Hn Se.length Pt.length Li s (fr Se s X bf) (tu Se s X af) 1).filter Ts).length-1<=0;rw [Hn,Qp4 rfl];omega
end
end Go.Vx
namespace Go.Vx
variable {R:Type} (n:Nat)
def XS (o:Int) (ac:LL) (p:Int) (f g h i:LL) (q:Int) (b c r s t u v:LL) (j x:D) (k0:Qkj R) (k1:Qku R):Qkv R
 | 0,_,_,_=>none
 | m+1,a,d,e=>bif decide (a<p) then QjG R ac a fun ai aj=>Qjr R ai[1]? fun ak=>Qk6 R ai fun ar=>QjC R ak ar fun al am=>Qjq R (wJ (a+1)) fun k=>bif a==0 then Qjr R (pSl 4 x) fun au=>bif a==wJ ((au.length:Int)-1) then Qjr R (pIw ak) fun av=>Qjr R (Kq n q b c r s t u v o some) fun aw=>Qkd R aj c fun ay az=>QjI R j b ay az fun bh bi bj bk bl bm bn=>Qjr R (ZI n f g h i bh bi bj bk bl bm bn 60 (wJ (av+aw)) Tu3) fun y=>bif y.2.2 !=0 then k0 y.2.2 else QjY R ((d.length+[[D.sl 3 y.1]].length)*24) ((e.length+[[Q4 y.2.1]].length)*8) (XS o ac p f g h i q b c r s t u v j x k0 k1 m k (d++[[D.sl 3 y.1]]) (e++[[Q4 y.2.1]])) else Qkd R aj c fun bp bq=>QjI R j b bp bq fun ca cb cc ce cf cg ch=>Qjr R (ZI n f g h i ca cb cc ce cf cg ch 60 (wJ (al+am)) Tu3) fun z=>bif z.2.2 !=0 then k0 z.2.2 else QjY R ((d.length+[[D.sl 3 z.1]].length)*24) ((e.length+[[Q4 z.2.1]].length)*8) (XS o ac p f g h i q b c r s t u v j x k0 k1 m k (d++[[D.sl 3 z.1]]) (e++[[Q4 z.2.1]])) else Qjr R (pSl 4 x) fun ci=>bif a==wJ ((ci.length:Int)-1) then Qjr R (pIw ak) fun cj=>Qjr R (Kq n q b c r s t u v o some) fun ck=>Qkd R aj c fun cn co=>QjI R j b cn co fun cv cw cx cy cz da db=>Qjr R (ZI n f g h i cv cw cx cy cz da db 0 (wJ (cj+ck)) Tu3) fun aa=>bif aa.2.2 !=0 then k0 aa.2.2 else QjY R ((d.length+[[D.sl 3 aa.1]].length)*24) ((e.length+[[Q4 aa.2.1]].length)*8) (XS o ac p f g h i q b c r s t u v j x k0 k1 m k (d++[[D.sl 3 aa.1]]) (e++[[Q4 aa.2.1]])) else Qkd R aj c fun dd de=>QjI R j b dd de fun dl dn dp dq dr ds dt=>Qjr R (ZI n f g h i dl dn dp dq dr ds dt 0 (wJ (al+am)) Tu3) fun ab=>bif ab.2.2 !=0 then k0 ab.2.2 else QjY R ((d.length+[[D.sl 3 ab.1]].length)*24) ((e.length+[[Q4 ab.2.1]].length)*8) (XS o ac p f g h i q b c r s t u v j x k0 k1 m k (d++[[D.sl 3 ab.1]]) (e++[[Q4 ab.2.1]])) else k1 a (decide (a<p)) d e
def Zs (h2:LL) (c:Int) (d e f g:LL) (h:Int) (i j k l o p q:LL) (k0:Qkj R) (k1:Qku R):Qkv R
 | 0,_,_,_=>none
 | m+1,a,r,s=>bif decide (a<c) then QjL R h2 a fun b v=>Qk6 R b fun t=>Qjr R (pSl 4 t) fun u=>XS n a u (u.length:Int) d e f g h i j k l o p q v t (fun x=>k0 x) (fun ac ad y z=>Zs h2 c d e f g h i j k l o p q k0 k1 m (wJ (a+1)) y z) n 0 r s else k1 a (decide (a<c)) r s
def Ht (b c d e:LL) (f:Int) (g h a i j k l:LL) (K:LL->LL->Int->oP R):oP R:=Qjr R (VQ n b c d e f g h a i j k l some) fun m=>bif m !=0 then K [] [] 1 else Zs n a (a.length:Int) b c d e f g h a i j k l (fun o=>K [] [] o) (fun r s p q=>K p q 0) n 0 [] []
end Go.Vx
namespace Go.Vx
def Qa7 {α:Type} (nr:Nat->Nat) (f:Nat->Nat->α):Nat->List α
 |0=>[]
 |i+1=>Qa7 nr f i++(List.range (nr i)).map (f i)
def base (nr:Nat->Nat):Nat->Nat
 |0=>0
 |i+1=>base nr i+nr i
theorem Zg {α:Type} {nr:Nat->Nat} {f:Nat->Nat->α}:∀ {i:Nat},(Qa7 nr f i).length=base nr i
 |0=>rfl
 |i+1=>by rw [Qa7,List.length_append,Zg,base,Qp1,List.length_range]
theorem T4 {nr:Nat->Nat} {i:Nat}:∀ {j:Nat},i<j->base nr i+nr i<=base nr j
 |0,h=>by omega
 |j+1,h=>by
  rw [base];by_cases ac:i=j
  ·subst ac;omega
  ·have:=T4 (nr:=nr) (i:=i) (j:=j) QnI;omega
theorem FO {α:Type} {nr:Nat->Nat} {f:Nat->Nat->α} {i k:Nat} (hk:k<nr i):∀ {L:Nat},i<L->(Qa7 nr f L)[base nr i+k]? = some (f i k)
 |0,h=>by omega
 |L+1,h=>by
  rw [Qa7];by_cases ac:i=L
  ·subst ac;rw [List.getElem?_append_right (by rw [Zg];omega),Zg,Nat.add_sub_cancel_left,Qpc,List.getElem?_range hk];rfl
  ·have:=T4 (nr:=nr) (i:=i) (j:=L) QnI;rw [List.getElem?_append_left (by rw [Zg];omega)];exact FO hk QnI
theorem Q6c {nr:Nat->Nat} {a:Nat}:∀ {L:Nat},a<base nr L->∃ i k,i<L/\k<nr i/\a=base nr i+k
 |0,h=>by simp [base] at h
 |L+1,h=>by
  rw [base] at h;by_cases ha:a<base nr L
  ·obtain ⟨i,k,c,h2,b⟩:=Q6c ha;exact ⟨i,k,QnI,h2,b⟩
  ·exact ⟨L,a-base nr L,QnI,QnI,QnI⟩
theorem LQ {nr:Nat->Nat} {i k i' k':Nat} (h:k<nr i) (h':k'<nr i') (e:base nr i+k=base nr i'+k'):i=i'/\k=k':=by
 rcases Nat.lt_trichotomy i i' with hi | hi | hi
 ·have:=T4 (nr:=nr) hi;omega
 ·simp_all
 ·have:=T4 (nr:=nr) hi;omega
def GT (Ls:LL) (i:Nat):LL:=match Ls[i]? with
 |some [_,_,_,.sl _ r]=>r
 |_=>[]
def wOf (Ls:LL) (i:Nat):Int:=match Ls[i]? with
 |some [_,_,.int _ w,_]=>w
 |_=>0
def rF (Ls:LL) (i k j:Nat):Int:=match ((GT Ls i).getD k [])[j]? with
 |some (.int _ x)=>x
 |_=>0
def Qiv (Ro:LL) (r:Int):LL:=match Ro[r.toNat]? with
 |some [.sl _ s,_]=>s
 |_=>[]
structure Cx where
 G:Geo
 Ro:LL
 Ls:LL
 T:List Tup
 nm:List UInt8
 tl:Int
 sp:Int
 ac:Int
 br:Int
namespace Cx
variable (X:Cx)
def nr (i:Nat):Nat:=(GT X.Ls i).length
def w (i:Nat):Int:=wOf X.Ls i
def ex (i k:Nat):Int:=rF X.Ls i k 1
def mn (i k:Nat):Int:=rF X.Ls i k 2
def mx (i k:Nat):Int:=rF X.Ls i k 3
def st (i k:Nat):LL:=Qiv X.Ro (rF X.Ls i k 0)
def rn (i k:Nat):Run:=YB X.G.Se (X.st i k) X.nm X.tl X.sp X.ac X.br
def tn (i:Nat):oP Tup:=X.T.find? fun t=>t.1 == i
def rest (i:Nat):Int:=match X.tn i with
 |some t=>if 60<t.2.2.2 then t.2.2.2 else 60
 |none=>60
def bf (k:Nat):Int:=if k=0 then 60 else 0
def af (i k:Nat):Int:=if k=X.nr i-1 then X.ex i k+X.rest i else X.ex i k+X.mx i k
def occ (i k:Nat):List Occ:=Q4F X.G.St X.G.Pt X.G.Se X.G.Li (X.st i k) (X.rn i k) (bf k) (X.af i k)
def run (i k:Nat):Int:=AE (X.rn i k)
def L:Nat:=X.Ls.length
structure OK:Prop where
 g:X.G.OK
 sk:StkN X.tl X.sp X.ac X.br
 gd:GoodP X.G X.Ro X.Ls
 l0:1<=X.Ls.length
 l1:X.Ls.length<=3
 tr:∀ t∈X.T,Q9f X.G X.Ro X.Ls t
 fd:(X.T.map (·.1)).Nodup
 td:(X.T.map (·.2.1)).Nodup
 tl:X.T.length<=20
structure RdOK (i k:Nat):Prop where
 row:(GT X.Ls i)[k]? = some [Q4 (rF X.Ls i k 0),Q4 (X.ex i k),Q4 (X.mn i k),Q4 (X.mx i k)]
 ro:Q1 X.Ro (rF X.Ls i k 0)=some [D.sl 2 (X.st i k),Q4 0]
 rt:RtF X.G.St X.G.Pt X.G.Se X.G.Li (X.st i k)
 ex0:0<=X.ex i k
 ex1:X.ex i k<3
 mn0:0<=X.mn i k
 mn1:X.mn i k<=X.mx i k
 mn2:X.mx i k<=X.mn i k+3
 mn3:X.mn i k<=10
variable {X} (h:X.OK)
include h
theorem K7 {i:Nat} (hi:i<X.Ls.length):X.Ls[i]? = some [D.str (nmN i),Q4 0,Q4 (X.w i),D.sl 4 (GT X.Ls i)]/\(X.nr i=1\/X.nr i=2)/\(0<=X.w i/\X.w i<4):=by
 obtain ⟨w,rides,b,h2,c,a⟩:=h.gd.ls i _ (QoY hi);have er:GT X.Ls i=rides:=by grind [GT]
 have ew:X.w i=w:=by grind [Cx.w,wOf]
 refine ⟨by simp_all,?_,QnI⟩;unfold nr;rw [er];rcases a with ⟨r,x,y,rfl,_⟩ | ⟨r,r',x,y,z,rfl,_,_⟩
 all_goals simp
theorem rd {i k:Nat} (hi:i<X.Ls.length) (hk:k<X.nr i):X.RdOK i k:=by
 obtain ⟨w,rides,j,h2,l,d⟩:=h.gd.ls i _ (QoY hi);have e:X.Ls[i]? = some [D.str (nmN i),Q4 0,Q4 w,D.sl 4 rides]:=by simp_all
 have er:GT X.Ls i=rides:=by grind [GT]
 have hr:∃ r x y b,rides[k]? = some r/\P5 X.G X.Ro r x y b:=by
  unfold nr at hk;rw [er] at hk;rcases d with ⟨r,x,y,rfl,h⟩ | ⟨r,r',x,y,z,rfl,h,h'⟩
  all_goals grind
 obtain ⟨r,x,y,b,hr,rt,ex,mn,mx,s,rfl,c,f,m,n,o⟩:=hr;have eg:(GT X.Ls i).getD k []=[Q4 rt,Q4 ex,Q4 mn,Q4 mx]:=by simp_all
 have a:rF X.Ls i k 0=rt:=by grind [rF]
 have e1:X.ex i k=ex:=by grind [Cx.ex,rF]
 have e2:X.mn i k=mn:=by unfold Cx.mn rF;rw [eg];rfl
 have g:X.mx i k=mx:=by unfold Cx.mx rF;rw [eg];rfl
 have es:X.st i k=s:=by unfold st Qiv;rw [a,QoW,c]
 exact ⟨by rw [a,e1,e2,g,er,hr],by rw [a,es,Qd,c],by rw [es];exact f.f h.g,QnI,QnI,QnI,QnI,QnI,QnI⟩
theorem Q0M {i:Nat}:60<=X.rest i/\X.rest i<=60:=by
 unfold rest;cases e:X.tn i with
 |none=>simp_all
 |some t=>
  have:=h.tr t (List.mem_of_find?_eq_some e);have a:=this.2.2.2.1;have h2:=this.2.2.2.2.2.1
  grind
theorem QfL {i k:Nat} (hi:i<X.Ls.length) (hk:k<X.nr i):(0<=bf k/\bf k<=60)/\0<=X.af i k/\X.af i k<=5000:=by
 have r:=rd h hi hk;have:=Q0M h (i:=i);have:=r.ex0;have:=r.ex1;have:=r.mn0;have:=r.mn1;have:=r.mn2;have:=r.mn3
 grind [bf,af]
theorem QhR {i k:Nat} (hi:i<X.Ls.length) (hk:k<X.nr i):ZI 400 X.G.St X.G.Pt X.G.Se X.G.Li (X.st i k) 0 X.nm X.tl X.sp X.ac X.br (bf k) (X.af i k) Tu3=some ((X.occ i k).map enc,X.run i k,0):=by
 have b:=QfL h hi hk;exact Qft (rd h hi hk).rt h.sk b.1.1 QnI b.2.1 QnI
theorem Qhd {i k:Nat} (hi:i<X.Ls.length) (hk:k<X.nr i):KI 400 X.G.St X.G.Pt X.G.Se X.G.Li (X.st i k) 0 X.nm X.tl X.sp X.ac X.br (bf k) (X.af i k) Tu3=some ((X.occ i k).map enc,X.run i k,0):=by
 have b:=QfL h hi hk;exact Qh7 (rd h hi hk).rt h.sk b.1.1 QnI b.2.1 QnI
theorem occ_ok {i k:Nat} (hi:i<X.Ls.length) (hk:k<X.nr i):OL (-1) (X.occ i k)/\(X.occ i k).length<=6:=by
 have b:=QfL h hi hk;exact Q9K (rd h hi hk).rt h.sk b.1.1 b.1.2 b.2.1 b.2.2
theorem P2 {i k:Nat} (hi:i<X.Ls.length) (hk:k<X.nr i):0<=X.run i k/\X.run i k<=7001:=Nx (rd h hi hk).rt h.sk
theorem base_le:base X.nr X.L<=6:=by
 have a:=h.l1;have hb:∀ i,i<=X.Ls.length->base X.nr i<=2*i:=by
  intro i;induction i with
  |zero=>intro _;exact Qpb _
  |succ i ih=>
   intro hi;have:=(K7 h (i:=i) QnI).2.1
   grind [base]
 grind [L]
end Cx
theorem PlanR.cx {G:Geo} {per:Int} {Sk Ro Ls Ch Tu Sy De:LL} (h:PlanR G per Sk Ro Ls Ch Tu Sy De):∃ X:Cx,X.OK/\X.G=G/\X.Ro=Ro/\X.Ls=Ls/\Tu=X.T.map tuR/\Sk=[[D.str X.nm,Q4 X.tl,Q4 X.sp,Q4 X.ac,Q4 X.br]]:=by
 obtain ⟨T,hT,t1,t2,e,f⟩:=h.tu;obtain ⟨a,b,c,d,hS,hs⟩:=h.sk;exact ⟨⟨G,Ro,Ls,T,bs [88],a,b,c,d⟩,⟨h.ok,hs,h.good,h.l0,h.l1,t1,t2,e,f⟩,rfl,rfl,rfl,hT,hS⟩
def Gm (L:List (List Occ)):LL:=L.map fun o=>[D.sl 3 (o.map enc)]
theorem V6 {L:List (List Occ)} {o:List Occ}:Gm L++[[D.sl 3 (o.map enc)]]=Gm (L++[o]):=by simp [Gm]
theorem V8 {L:List Int} {x:Int}:encI L++[[D.int .i64 x]]=encI (L++[x]):=by simp [encI]
theorem VM {L:List (List Occ)}:(Gm L).length=L.length:=by simp [Gm]
theorem Zc {α:Type} {A:List α} {f:Nat->α} {k:Nat}:A++(List.range k).map f++[f k]=A++(List.range (k+1)).map f:=by simp [List.range_succ]
namespace Cx
variable {R:Type} {n:Nat} {X:Cx} (h:X.OK)
theorem Q9w {T:List Tup} (hT:T.length<=1000) {i:Nat} {k0:Int->oP R} {k1:Int->Bool->oP R} {E:oP R} (hk:∀ a b,k1 a b=E):∀ (ac:List Tup) (j m:Nat),T.drop j=ac->ac.length<m->UE n (i:Int) (T.map tuR) (T.length:Int) k0 k1 m (j:Int)=(match ac.find? (fun t=>t.1 == i) with | some t=>k0 (if 60<t.2.2.2 then t.2.2.2 else 60) | none=>E)
 |[],j,m+1,hd,_=>by
  have:=VG hd;rw [UE,show decide ((j:Int)<(T.length:Int))=false by simpa using this,QoV,hk];rfl
 |(a,b,lo,hi)::ac,j,m+1,hd,hm=>by
  obtain ⟨e,aj,hj⟩:=ZC hd;rw [UE,Qe hj,QoX,QK e];simp -implicitDefEqProofs only [Q0,tuR,QoT,QoU,Q2,Qv (show j<=1000 by omega)];rw [List.find?_cons];by_cases ha:a=i
  ·subst ha;rw [show ((a:Int) == (a:Int))=true by simp,QoX,show ((a,b,lo,hi).1 == a)=true by simp]
  ·rw [show ((a:Int) == (i:Int))=false by simp;omega,QoV,show ((a,b,lo,hi).1 == i)=false by simpa using ha];exact Q9w hT hk ac (j+1) m aj (by simpa using hm)
theorem Q9N {T:List Tup} (hT:T.length<=1000) {i:Nat} {k0:D->D->D->D->oP R} {k1:Int->Bool->oP R} {E:oP R} (hk:∀ a b,k1 a b=E):∀ (ac:List Tup) (j m:Nat),T.drop j=ac->ac.length<m->VI n (i:Int) (T.map tuR) k0 k1 m (j:Int)=(match ac.find? (fun t=>t.1 == i) with | some t=>k0 (Q4 t.1) (Q4 t.2.1) (Q4 t.2.2.1) (Q4 t.2.2.2) | none=>E)
 |[],j,m+1,hd,_=>by
  have:=VG hd;rw [VI,Qp1,show decide ((j:Int)<(T.length:Int))=false by simpa using this,QoV,hk];rfl
 |(a,b,lo,hi)::ac,j,m+1,hd,hm=>by
  obtain ⟨e,aj,hj⟩:=ZC hd;rw [VI,Qp1,Qe hj,QoX,QK e];simp -implicitDefEqProofs only [Q0,tuR,QoT,QoU,Q2,Qv (show j<=1000 by omega)];rw [List.find?_cons];by_cases ha:a=i
  ·subst ha;rw [show ((a:Int) == (a:Int))=true by simp,QoX,show ((a,b,lo,hi).1 == a)=true by simp]
  ·rw [show ((a:Int) == (i:Int))=false by simp;omega,QoV,show ((a,b,lo,hi).1 == i)=false by simpa using ha];exact Q9N hT hk ac (j+1) m aj (by simpa using hm)
def skR (X:Cx):LL:=[[D.str X.nm,Q4 X.tl,Q4 X.sp,Q4 X.ac,Q4 X.br]]
include h
theorem Qia {per:Int} {Sk Ro Ls Ch Sy De:LL} {i:Nat}:Kq 400 per Sk Ro Ls Ch (X.T.map tuR) Sy De (i:Int) (some:Int->oP Int)=some (X.rest i):=by
 unfold Kq;rw [Qp1];have:=Q9w (n:=400) (T:=X.T) (i:=i) (k0:=(some:Int->oP Int)) (k1:=fun _ _=>some 60) (by have:=h.tl;omega) (fun _ _=>rfl) X.T 0 400 rfl (by have:=h.tl;omega);refine this.trans ?_;unfold rest tn;cases X.T.find? fun t=>t.1 == i <;> rfl
theorem QcY {i:Nat} (K:D->D->D->D->Bool->oP R):PJ 400 (X.T.map tuR) (i:Int) K=(match X.tn i with | some t=>K (Q4 t.1) (Q4 t.2.1) (Q4 t.2.2.1) (Q4 t.2.2.2) true | none=>K (Q4 0) (Q4 0) (Q4 0) (Q4 0) false):=
 Q9N (n:=400) (T:=X.T) (i:=i) (k0:=fun a b c d=>K a b c d true) (k1:=fun _ _=>K (Q4 0) (Q4 0) (Q4 0) (Q4 0) false) (by have:=h.tl;omega) (fun _ _=>rfl) X.T 0 400 rfl (by have:=h.tl;omega)
theorem Qct {per:Int} {Ch Sy De:LL} {i:Nat} (hi:i<X.Ls.length) {A:List (List Occ)} {B:List Int} (hA:A.length<=100) (hB:B.length<=100) {k0:Int->oP R} {K:LL->LL->oP R} {k1:Int->Bool->LL->LL->oP R} (hk:∀ a b u v,k1 a b u v=K u v) :
  XS 400 (i:Int) (GT X.Ls i) ((X.nr i:Nat):Int) X.G.St X.G.Pt X.G.Se X.G.Li per X.skR X.Ro X.Ls Ch (X.T.map tuR) Sy De (Q4 0) (D.sl 4 (GT X.Ls i)) k0 k1 400 0 (Gm A) (encI B)=K (Gm (A++(List.range (X.nr i)).map (X.occ i))) (encI (B++(List.range (X.nr i)).map (X.run i))):=by
 have hl:=(K7 h hi).2.1;refine Qs (r:=fun m k=>XS 400 (i:Int) (GT X.Ls i) ((X.nr i:Nat):Int) X.G.St X.G.Pt X.G.Se X.G.Li per X.skR X.Ro X.Ls Ch (X.T.map tuR) Sy De (Q4 0) (D.sl 4 (GT X.Ls i)) k0 k1 m k (Gm (A++(List.range k.toNat).map (X.occ i))) (encI (B++(List.range k.toNat).map (X.run i)))) (N:=X.nr i) (fun m k hk=>?_) (fun m=>?_) (X.nr i) 400 0 QnI QnI |> Eq.trans QnK
 ·simp only [QoW];have r:=rd h hi hk;have rr:=Q0M h (i:=i);have l:=r.ex0;have e1:=r.ex1;have e2:=r.mn0;have n:=r.mn1;have o:=r.mn2;have p:=r.mn3;have hh:=QhR h hi hk;have al:Q1 (GT X.Ls i) (k:Int)=some [Q4 (rF X.Ls i k 0),Q4 (X.ex i k),Q4 (X.mn i k),Q4 (X.mx i k)]:=by rw [Qd,r.row]
  have an:Q1 X.skR 0=some [D.str X.nm,Q4 X.tl,Q4 X.sp,Q4 X.ac,Q4 X.br]:=rfl;have aq:=r.ro;have hw:wJ (((List.length (GT X.Ls i):Nat):Int)-1)=((X.nr i-1:Nat):Int):=J8 (k:=X.nr i) QnI QnI;have d:Y9 (((Gm (A++(List.range k).map (X.occ i))).length+List.length [[D.sl 3 ((X.occ i k).map enc)]])*24)=some ():=XF (by simp [VM];omega);have e:Y9 (((encI (B++(List.range k).map (X.run i))).length+List.length [[D.int .i64 (X.run i k)]])*8)=some ():=XF (by simp [Ju];omega);have ak:=Qia h (per:=per) (Sk:=X.skR) (Ro:=X.Ro) (Ls:=X.Ls) (Ch:=Ch) (Sy:=Sy) (De:=De) (i:=i);have ao:((k:Int) == ((X.nr i-1:Nat):Int))=decide (k=X.nr i-1):=by
   by_cases hc:k=X.nr i-1
   ·rw [Qp3 hc];simp;omega
   ·rw [Qp6 hc];simp;omega
  have f:((k:Int) == 0)=decide (k=0):=by
   by_cases hc:k=0
   ·rw [Qp3 hc];simp;omega
   ·rw [Qp6 hc];simp;omega
  have g:wJ (X.ex i k+X.rest i)=X.ex i k+X.rest i:=Q6 QnI QnI;have j:wJ (X.ex i k+X.mx i k)=X.ex i k+X.mx i k:=Q6 QnI QnI;rw [XS,Qe hk,QoX,al];simp -implicitDefEqProofs only [Q0,QoT,QoU,Q2,QJ,Xt,hw,ao,f,ak,aq,an,g,j,Qv (show k<=1000 by omega)];unfold bf af at hh;by_cases c1:k=0 <;> by_cases c:k=X.nr i-1
  ·simp -implicitDefEqProofs only [Qp4 c1,Qp4 c] at hh;simp -implicitDefEqProofs only [Qp3 c1,Qp3 c,QoX,hh,Q0,show ((0:Int) != 0)=false from rfl,QoV,d,e,V6,V8,Zc]
  ·simp -implicitDefEqProofs only [Qp4 c1,Qp5 c] at hh;simp -implicitDefEqProofs only [Qp3 c1,Qp6 c,QoX,hh,Q0,show ((0:Int) != 0)=false from rfl,QoV,d,e,V6,V8,Zc]
  ·simp -implicitDefEqProofs only [Qp5 c1,Qp4 c] at hh;simp -implicitDefEqProofs only [Qp6 c1,Qp3 c,QoX,hh,Q0,show ((0:Int) != 0)=false from rfl,QoV,d,e,V6,V8,Zc]
  ·simp -implicitDefEqProofs only [Qp5 c1,Qp5 c] at hh;simp -implicitDefEqProofs only [Qp6 c1,Qp6 c,QoX,hh,Q0,show ((0:Int) != 0)=false from rfl,QoV,d,e,V6,V8,Zc]
 ·simp only [QoW];rw [XS,Qj,QoV,hk]
end Cx
namespace Cx
variable {R:Type} {n:Nat} {X:Cx} (h:X.OK)
include h
theorem QbS {per:Int} {Sk Ch Tu Sy De:LL} {i k:Nat} (hi:i<X.Ls.length) (hk:k<X.nr i) (K:D->D->oP R):XR n per Sk X.Ro X.Ls Ch Tu Sy De (i:Int) (k:Int) K=K (D.sl 2 (X.st i k)) (Q4 0):=by
 have r:=rd h hi hk;unfold XR;rw [Qd,(K7 h hi).1];simp -implicitDefEqProofs only [Q0,QoT,QoU,Q2,QJ,Qd,r.row,r.ro]
theorem QdW {per:Int} {Ch Sy De:LL} {i:Nat} (hi:i<X.Ls.length) {A:List (List Occ)} {B:List Int} (hA:A.length<=100) (hB:B.length<=100) {K:LL->LL->oP R} {k1:Int->Bool->LL->LL->oP R} (hk:∀ a b u v,k1 a b u v=K u v) :
  Yq 400 (i:Int) X.G.St X.G.Pt X.G.Se X.G.Li per X.skR X.Ro X.Ls Ch (X.T.map tuR) Sy De (Q4 0) (D.sl 4 (GT X.Ls i)) k1 400 0 (Gm A) (encI B)=K (Gm (A++(List.range (X.nr i)).map (X.occ i))) (encI (B++(List.range (X.nr i)).map (X.run i))):=by
 have hl:=(K7 h hi).2.1;refine Qs (r:=fun m k=>Yq 400 (i:Int) X.G.St X.G.Pt X.G.Se X.G.Li per X.skR X.Ro X.Ls Ch (X.T.map tuR) Sy De (Q4 0) (D.sl 4 (GT X.Ls i)) k1 m k (Gm (A++(List.range k.toNat).map (X.occ i))) (encI (B++(List.range k.toNat).map (X.run i)))) (N:=X.nr i) (fun m k hk=>?_) (fun m=>?_) (X.nr i) 400 0 QnI QnI |> Eq.trans QnK
 ·simp only [QoW];have r:=rd h hi hk;have rr:=Q0M h (i:=i);have y:=r.ex0;have e1:=r.ex1;have e2:=r.mn0;have z:=r.mn1;have e4:=r.mn2;have e5:=r.mn3;have hh:=Qhd h hi hk;have an:Q1 (GT X.Ls i) (k:Int)=some [Q4 (rF X.Ls i k 0),Q4 (X.ex i k),Q4 (X.mn i k),Q4 (X.mx i k)]:=by rw [Qd,r.row]
  have ao:Q1 X.skR 0=some [D.str X.nm,Q4 X.tl,Q4 X.sp,Q4 X.ac,Q4 X.br]:=rfl;have hw:wJ (((List.length (GT X.Ls i):Nat):Int)-1)=((X.nr i-1:Nat):Int):=J8 (k:=X.nr i) QnI QnI;have d:Y9 (((Gm (A++(List.range k).map (X.occ i))).length+List.length [[D.sl 3 ((X.occ i k).map enc)]])*24)=some ():=XF (by simp [VM];omega);have f:Y9 (((encI (B++(List.range k).map (X.run i))).length+List.length [[D.int .i64 (X.run i k)]])*8)=some ():=XF (by simp [Ju];omega);have g:((k:Int) == 0)=decide (k=0):=by
   by_cases hc:k=0
   ·rw [Qp3 hc];simp;omega
   ·rw [Qp6 hc];simp;omega
  have j:decide ((k:Int)<((X.nr i-1:Nat):Int)) = !decide (k=X.nr i-1):=by
   by_cases hc:k=X.nr i-1
   ·rw [Qp3 hc];exact Qp6 QnI
   ·rw [Qp6 hc];exact Qp3 QnI
  have o:wJ (X.ex i k+60)=X.ex i k+60:=Q6 QnI QnI;have l:wJ (X.ex i k+X.mx i k)=X.ex i k+X.mx i k:=Q6 QnI QnI;have p:∀ t,X.tn i=some t->wJ (X.ex i k+(if 60<t.2.2.2 then t.2.2.2 else 60))=X.ex i k+X.rest i:=fun t ht=>by
   have e:X.rest i=if 60<t.2.2.2 then t.2.2.2 else 60:=by unfold rest;rw [ht]
   rw [<- e];exact Q6 QnI QnI
  have q:X.tn i=none->wJ (X.ex i k+60)=X.ex i k+X.rest i:=fun ht=>by rw [o];unfold rest;rw [ht]
  have aq:∀ K':D->D->oP R,XR 400 per X.skR X.Ro X.Ls Ch (X.T.map tuR) Sy De (i:Int) (k:Int) K'=K' (D.sl 2 (X.st i k)) (Q4 0):=fun K'=>QbS h hi hk K'
  have al:=QbS (n:=400) h (per:=per) (Sk:=X.skR) (Ch:=Ch) (Tu:=X.T.map tuR) (Sy:=Sy) (De:=De) hi hk Tu2;rw [Yq,QJ,Q0,show ((GT X.Ls i).length:Int)=((X.nr i:Nat):Int) from rfl,Qe hk,QoX];unfold bf af at hh;cases ht:X.tn i with
  |some t=>
   simp -implicitDefEqProofs only [jn,Q0,QoT,QoU,Q2,QJ,Xt,an,hw,g,j,QcY h,ht,l,p t ht,ao,al,QoX,Qv (show k<=1000 by omega)];by_cases c1:k=0 <;> by_cases c:k=X.nr i-1
   ·simp -implicitDefEqProofs only [Qp4 c1,Qp4 c] at hh;simp -implicitDefEqProofs only [Qp3 c1,Qp3 c,QoZ,QoV,QoX,hh,Q0,d,f,V6,V8,Zc]
   ·simp -implicitDefEqProofs only [Qp4 c1,Qp5 c] at hh;simp -implicitDefEqProofs only [Qp3 c1,Qp6 c,Qp0,QoV,QoX,hh,Q0,d,f,V6,V8,Zc]
   ·simp -implicitDefEqProofs only [Qp5 c1,Qp4 c] at hh;simp -implicitDefEqProofs only [Qp6 c1,Qp3 c,QoZ,QoV,QoX,hh,Q0,d,f,V6,V8,Zc]
   ·simp -implicitDefEqProofs only [Qp5 c1,Qp5 c] at hh;simp -implicitDefEqProofs only [Qp6 c1,Qp6 c,Qp0,QoV,QoX,hh,Q0,d,f,V6,V8,Zc]
  |none=>
   simp -implicitDefEqProofs only [jn,Q0,QoT,QoU,Q2,QJ,Xt,an,hw,g,j,QcY h,ht,l,q ht,ao,al,QoV,Qv (show k<=1000 by omega)];by_cases c1:k=0 <;> by_cases c:k=X.nr i-1
   ·simp -implicitDefEqProofs only [Qp4 c1,Qp4 c] at hh;simp -implicitDefEqProofs only [Qp3 c1,Qp3 c,QoZ,QoV,QoX,hh,Q0,d,f,V6,V8,Zc]
   ·simp -implicitDefEqProofs only [Qp4 c1,Qp5 c] at hh;simp -implicitDefEqProofs only [Qp3 c1,Qp6 c,Qp0,QoV,QoX,hh,Q0,d,f,V6,V8,Zc]
   ·simp -implicitDefEqProofs only [Qp5 c1,Qp4 c] at hh;simp -implicitDefEqProofs only [Qp6 c1,Qp3 c,QoZ,QoV,QoX,hh,Q0,d,f,V6,V8,Zc]
   ·simp -implicitDefEqProofs only [Qp5 c1,Qp5 c] at hh;simp -implicitDefEqProofs only [Qp6 c1,Qp6 c,Qp0,QoV,QoX,hh,Q0,d,f,V6,V8,Zc]
 ·simp only [QoW];rw [Yq,QJ,Q0,show ((GT X.Ls i).length:Int)=((X.nr i:Nat):Int) from rfl,Qj,QoV,hk]
omit h in
def occs (X:Cx) (i:Nat):List (List Occ):=Qa7 X.nr X.occ i
omit h in
def runs (X:Cx) (i:Nat):List Int:=Qa7 X.nr X.run i
theorem Y8 {i:Nat} (hi:i<=X.Ls.length):base X.nr i<=6:=by
 have a:=base_le h;by_cases hc:i=X.Ls.length
 ·rw [hc];exact a
 ·have:=T4 (nr:=X.nr) (i:=i) (j:=X.Ls.length) QnI;unfold L at a;omega
theorem QfJ {per:Int} {Ch Sy De:LL} (hc:VQ 400 X.G.St X.G.Pt X.G.Se X.G.Li per X.skR X.Ro X.Ls Ch (X.T.map tuR) Sy De (some:Int->oP Int)=some 0):Ht 400 X.G.St X.G.Pt X.G.Se X.G.Li per X.skR X.Ro X.Ls Ch (X.T.map tuR) Sy De Tu3=some (Gm (X.occs X.L),encI (X.runs X.L),(0:Int)):=by
 have l1:=h.l1;unfold Ht;rw [hc,Q0,Q8 (by rfl)];refine Qs (r:=fun m i=>Zs 400 X.Ls (X.Ls.length:Int) X.G.St X.G.Pt X.G.Se X.G.Li per X.skR X.Ro X.Ls Ch (X.T.map tuR) Sy De (fun a=>some ([],[],a)) (fun f g b c=>some (b,c,(0:Int))) m i (Gm (X.occs i.toNat)) (encI (X.runs i.toNat))) (N:=X.Ls.length) (fun m i hi=>?_) (fun m=>?_) X.Ls.length 400 0 QnI QnI
 ·simp only [QoW];have hb:=Y8 h (i:=i) QnI;rw [Zs,Qe hi,QoX,Qd,(K7 h hi).1];simp -implicitDefEqProofs only [Q0,QoT,QoU,QJ,Qv (show i<=1000 by omega)];exact Qct h hi (A:=X.occs i) (B:=X.runs i) (by unfold occs;rw [Zg];omega) (by unfold runs;rw [Zg];omega) (K:=fun u v=>Zs 400 X.Ls (X.Ls.length:Int) X.G.St X.G.Pt X.G.Se X.G.Li per X.skR X.Ro X.Ls Ch (X.T.map tuR) Sy De (fun a=>some ([],[],a)) (fun f g b c=>some (b,c,(0:Int))) m ((i+1:Nat):Int) u v) (fun _ _ _ _=>rfl)
 ·simp only [QoW];rw [Zs,Qj,QoV];rfl
theorem Qfx {per:Int} {Ch Sy De:LL} (hc:U6 400 X.G.St X.G.Pt X.G.Se X.G.Li per X.skR X.Ro X.Ls Ch (X.T.map tuR) Sy De (some:Int->oP Int)=some 0):SC 400 X.G.St X.G.Pt X.G.Se X.G.Li per X.skR X.Ro X.Ls Ch (X.T.map tuR) Sy De Tu3=some (Gm (X.occs X.L),encI (X.runs X.L),(0:Int)):=by
 have l1:=h.l1;unfold SC;rw [hc,Q0,Q8 (by rfl)];refine Qs (r:=fun m i=>Un 400 X.G.St X.G.Pt X.G.Se X.G.Li per X.skR X.Ro X.Ls Ch (X.T.map tuR) Sy De (fun e f a b=>some (a,b,(0:Int))) m i (Gm (X.occs i.toNat)) (encI (X.runs i.toNat))) (N:=X.Ls.length) (fun m i hi=>?_) (fun m=>?_) X.Ls.length 400 0 QnI QnI
 ·simp only [QoW];have hb:=Y8 h (i:=i) QnI;rw [Un,Qe hi,QoX,Qd,(K7 h hi).1];simp -implicitDefEqProofs only [Q0,QoT,QoU,QJ,Qv (show i<=1000 by omega)];exact QdW h hi (A:=X.occs i) (B:=X.runs i) (by unfold occs;rw [Zg];omega) (by unfold runs;rw [Zg];omega) (K:=fun u v=>Un 400 X.G.St X.G.Pt X.G.Se X.G.Li per X.skR X.Ro X.Ls Ch (X.T.map tuR) Sy De (fun e f a b=>some (a,b,(0:Int))) m ((i+1:Nat):Int) u v) (fun _ _ _ _=>rfl)
 ·simp only [QoW];rw [Un,Qj,QoV];rfl
end Cx
end Go.Vx
namespace Go.Vx
variable {R:Type} (n:Nat)
def Gn (j k l m:LL) (c:Int) (o p d h f i q:LL) (K:Int->LL->LL->Int->oP R):oP R:=Qjr R (VQ n j k l m c o p d h f i q some) fun a=>bif a !=0 then K 0 [] [] 1 else gb true (Ym n d [] [] Tu2) ([],[]) fun r2=>bif decide ((r2.2.length:Int)>48) then K 0 [] [] 7 else gb true (Ht n j k l m c o p d h f i q Tu3) ([],[],0) fun b=>bif b.2.2 !=0 then K 0 [] [] b.2.2 else Qjr R (Yr n d f r2.1 b.2.1 [] some) fun r=>Qjr R (Zo n c b.1 r some) fun s=>bif !s then K 0 [] [] 13 else Qjr R (Ye n d h f i r2.1 b.2.1 [] some) fun r6=>gb true (Y7 n c b.1 r r6 Tu2) (0,[]) fun g=>bif g.1 !=0 then K 0 [] [] g.1 else bif decide ((g.2.length:Int)>512) then K 0 [] [] 7 else K c r2.2 g.2 0
end Go.Vx
namespace Go.Vx
namespace Cx
variable (X:Cx)
def evl (i:Nat):Nat->LL
 |0=>[]
 |k+1=>evl i k++[[Q4 1,Q4 i,Q4 k],[Q4 2,Q4 i,Q4 k]]
def evs:Nat->LL
 |0=>[]
 |i+1=>evs i++evl i (X.nr i)
theorem Q1K {i:Nat}:∀ {k:Nat},(evl i k).length=2*k
 |0=>rfl
 |k+1=>by rw [evl,List.length_append,Q1K];simp;omega
variable {X}
theorem evs_len:∀ {i:Nat},(X.evs i).length=2*base X.nr i
 |0=>rfl
 |i+1=>by rw [evs,List.length_append,evs_len,Q1K,base];omega
def fst (X:Cx) (i:Nat):LL:=encI ((List.range i).map fun j=>(base X.nr j:Int))
theorem Q6w {i L:Nat} (h:i<L):Q1 (X.fst L) (i:Int)=some [Q4 (base X.nr i)]:=Sw (by simp [h])
variable {R:Type} {n:Nat} (h:X.OK)
include h
theorem QcM (K:LL->LL->oP R):Ym 400 X.Ls [] [] K=K (X.fst X.L) (X.evs X.L):=by
 have l1:=h.l1;unfold Ym;refine Qs (r:=fun m i=>QN 400 X.Ls (X.Ls.length:Int) (fun _ _ u v=>K u v) m i (X.fst i.toNat) (X.evs i.toNat)) (N:=X.Ls.length) (fun m i hi=>?_) (fun m=>?_) X.Ls.length 400 0 QnI QnI
 ·simp only [QoW];have hb:=Y8 h (i:=i) QnI;have hl:=(K7 h hi).2.1;have e1:wJ (Int.tdiv ((2*base X.nr i:Nat):Int) 2)=(base X.nr i:Int):=by
   rw [Qpk QnI,Q6 QnI QnI];omega
  have e2:X.fst i++[[D.int .i64 (base X.nr i:Int)]]=X.fst (i+1):=by simp [fst,encI,List.range_succ]
  have a:(X.fst i).length=i:=by simp [fst,encI]
  rw [QN,Qe hi,QoX,Qd,(K7 h hi).1];simp -implicitDefEqProofs only [Q0,QoT,QoU,QJ,Qv (show i<=1000 by omega),Ng (b:=2) QnJ,evs_len,e1,e2,XF (show ((X.fst i).length+[[D.int .i64 (base X.nr i:Int)]].length)*8<=100000 by rw [a];simp;omega)];refine Qs (r:=fun m' k=>X1 400 (i:Int) ((X.nr i:Nat):Int) (fun _ _ w=>QN 400 X.Ls (X.Ls.length:Int) (fun _ _ u v=>K u v) m ((i+1:Nat):Int) (X.fst (i+1)) w) m' k (X.evs i++evl i k.toNat)) (N:=X.nr i) (fun m' k hk=>?_) (fun m'=>?_) (X.nr i) 400 0 QnI QnI |> Eq.trans (by simp [evl];rfl)
  ·simp only [QoW];rw [X1,Qe hk,QoX,XF (by simp [evs_len,Q1K];omega),Q0,Qv QnI,List.append_assoc];rfl
  ·simp only [QoW];rw [X1,Qj,QoV];rfl
 ·simp only [QoW];rw [QN,Qj,QoV];rfl
omit h in
theorem Qc2 {a:Nat} (ha:a<=1000) (K:Int->oP R):Yc n (a:Int) K=K ((2*a:Nat):Int):=by
 grind [Yc,Q6]
omit h in
theorem Qh1 {a:Nat} (ha:a<=1000) (K:Int->oP R):Ug n (a:Int) K=K ((2*a+1:Nat):Int):=by
 grind [Ug,Q6]
theorem Q2T {i k:Nat} (hi:i<X.Ls.length) (hk:k<=10) (K:Int->oP R):XE n (X.fst X.L) (i:Int) (k:Int) K=K ((base X.nr i+k:Nat):Int):=by
 have hb:=Y8 h (i:=i) QnI;unfold XE
 grind [Q6w,L,Qd,fst,encI,YX,Q0,Int.toNat_natCast,List.getElem?_cons_zero,Q2,Q6]
theorem Q03 {i k:Nat} (hi:i<X.Ls.length) (hk:k<=10) (K:Int->oP R):QY n (X.fst X.L) (i:Int) (k:Int) K=K ((base X.nr i+k:Nat):Int):=Q2T (n:=n) h hi hk K
theorem Qcb {i:Nat} (hi:i<X.Ls.length) (K:Int->oP R):ZH n X.Ls (X.fst X.L) (i:Int) K=K ((base X.nr i+(X.nr i-1):Nat):Int):=by
 have hl:=(K7 h hi).2.1;have hw:wJ (((List.length (GT X.Ls i):Nat):Int)-1)=((X.nr i-1:Nat):Int):=J8 (k:=X.nr i) QnI QnI
 grind [ZH,Qd,K7,Q0,List.getElem?_cons_zero,List.getElem?_cons_succ,QJ,Q2T]
theorem QeN {i:Nat} (hi:i<X.Ls.length) (K:Int->oP R):UU n X.Ls (X.fst X.L) (i:Int) K=K ((base X.nr i+(X.nr i-1):Nat):Int):=Qcb (n:=n) h hi K
omit h in
def j1 (X:Cx) (i k:Nat):Tup:=(base X.nr i+k,base X.nr i+(k+1),X.run i k+X.mn i k,X.run i k+X.ex i k+X.mx i k)
omit h in
def jT (X:Cx) (t:Tup):Tup:=(base X.nr t.1+(X.nr t.1-1),base X.nr t.2.1+0,X.run t.1 (X.nr t.1-1)+t.2.2.1,X.run t.1 (X.nr t.1-1)+X.ex t.1 (X.nr t.1-1)+t.2.2.2)
omit h in
def jL (X:Cx) (i:Nat):List Tup:=Qa7 (fun i=>X.nr i-1) X.j1 i
omit h in
def jns (X:Cx):List Tup:=X.jL X.L++X.T.map X.jT
omit h in
theorem Q5E {i k:Nat} (hi:i<X.Ls.length) (hk:k<X.nr i):Q1 (encI (X.runs X.L)) ((base X.nr i+k:Nat):Int)=some [Q4 (X.run i k)]:=Sw (FO hk hi)
omit h in
theorem Qfi {i k:Nat} (hi:i<X.Ls.length) (hk:k<X.nr i):Q1 (Gm (X.occs X.L)) ((base X.nr i+k:Nat):Int)=some [D.sl 3 ((X.occ i k).map enc)]:=QK (FO hk hi)
theorem QeQ {i k b:Nat} (hi:i<X.Ls.length) (hk:k<X.nr i) {ex lo ac:Int} (a:0<=ex) (e1:ex<=1000) (l0:0<=lo) (l1:lo<=1000) (c:0<=ac) (d:ac<=1000) {J:List Tup} (hJ:J.length<=100) (K:LL->oP R) :
  XW n (encI (X.runs X.L)) (J.map tuR) ((base X.nr i+k:Nat):Int) (b:Int) ex lo ac K=K ((J++[(base X.nr i+k,b,X.run i k+lo,X.run i k+ex+ac)]).map tuR):=by
 have hr:=P2 h hi hk;unfold XW;rw [Q5E hi hk,Q0];simp -implicitDefEqProofs only [Q0,QoT,Q2,Q6 (x:=X.run i k+lo) QnI QnI,Q6 (x:=X.run i k+ex) QnI QnI,Q6 (x:=X.run i k+ex+ac) QnI QnI];rw [XF QnL,Q0,Qp9];rfl
omit h in
theorem QeH {i:Nat}:(X.jL i).length=base (fun i=>X.nr i-1) i:=Zg
theorem QdI {i:Nat} (hi:i<=X.Ls.length):(X.jL i).length<=6:=by
 rw [QeH];have:∀ i,base (fun i=>X.nr i-1) i<=base X.nr i:=by
  intro i;induction i with
  |zero=>exact Qpb _
  |succ i ih=>grind [base]
 grind [Nat.le_trans,Y8]
theorem Qej (K:LL->oP R):Yr 400 X.Ls (X.T.map tuR) (X.fst X.L) (encI (X.runs X.L)) [] K=K (X.jns.map tuR):=by
 have l1:=h.l1;have tl:=h.tl;unfold Yr;have s2:∀ k0:Int->Bool->LL->oP R,Qy 400 X.Ls (X.Ls.length:Int) (X.fst X.L) (encI (X.runs X.L)) k0 400 0 []=k0 (X.Ls.length:Int) false ((X.jL X.L).map tuR):=by
  intro k0;refine Qs (r:=fun m i=>Qy 400 X.Ls (X.Ls.length:Int) (X.fst X.L) (encI (X.runs X.L)) k0 m i ((X.jL i.toNat).map tuR)) (N:=X.Ls.length) (fun m i hi=>?_) (fun m=>?_) X.Ls.length 400 0 QnI QnI
  ·simp only [QoW];have hl:=(K7 h hi).2.1;have hJ:=QdI h (i:=i) QnI;have hw:wJ (((List.length (GT X.Ls i):Nat):Int)-1)=((X.nr i-1:Nat):Int):=J8 (k:=X.nr i) QnI QnI;have an:(cut (GT X.Ls i) (0,X.nr i-1)).length=X.nr i-1:=by rw [MV,List.length_take];unfold nr;omega
   rw [Qy,Qe hi,QoX,Qd,(K7 h hi).1];simp -implicitDefEqProofs only [Q0,QoT,QoU,QJ,Qv (show i<=1000 by omega),hw,Q1n (n:=(GT X.Ls i).length) (h:=X.nr i-1) (Nat.sub_le ..),an];refine Qs (r:=fun m' k=>Xb 400 (i:Int) (cut (GT X.Ls i) (0,X.nr i-1)) ((X.nr i-1:Nat):Int) (X.fst X.L) (encI (X.runs X.L)) (fun _ _ w=>Qy 400 X.Ls (X.Ls.length:Int) (X.fst X.L) (encI (X.runs X.L)) k0 m ((i+1:Nat):Int) w) m' k ((X.jL i++(List.range k.toNat).map (X.j1 i)).map tuR)) (N:=X.nr i-1) (fun m' k hk=>?_) (fun m'=>?_) (X.nr i-1) 400 0 QnI QnI |> Eq.trans QnK
   ·simp only [QoW];have r:=rd h hi (show k<X.nr i by omega);have ak:Q1 (cut (GT X.Ls i) (0,X.nr i-1)) (k:Int)=some [Q4 (rF X.Ls i k 0),Q4 (X.ex i k),Q4 (X.mn i k),Q4 (X.mx i k)]:=by rw [MV,Qd,List.getElem?_take_of_lt hk,r.row]
    have c:=r.ex0;have e1:=r.ex1;have e2:=r.mn0;have o:=r.mn1;have p:=r.mn2;have s:=r.mn3;rw [Xb,Qe hk,QoX,ak];simp -implicitDefEqProofs only [Q0,QoT,QoU,Q2,Q2T (n:=400) h hi (show k<=10 by omega),Qv (show k<=1000 by omega),Q2T (n:=400) h hi (show k+1<=10 by omega),QeQ (n:=400) (b:=base X.nr i+(k+1)) h hi (show k<X.nr i by omega) c (show X.ex i k<=1000 by omega) e2 (show X.mn i k<=1000 by omega) (show 0<=X.mx i k by omega) (show X.mx i k<=1000 by omega) (J:=X.jL i++(List.range k).map (X.j1 i)) QnL];rw [show (base X.nr i+k,base X.nr i+(k+1),X.run i k+X.mn i k,X.run i k+X.ex i k+X.mx i k)=X.j1 i k from rfl,Zc]
   ·simp only [QoW];rw [Xb,Qj,QoV];rfl
  ·simp only [QoW];rw [Qy,Qj,QoV];rfl
 rw [s2];rw [Qp1];refine Qs (r:=fun m j=>X9 400 (X.T.map tuR) (X.T.length:Int) (X.fst X.L) X.Ls (encI (X.runs X.L)) (fun _ _ w=>K w) m j ((X.jL X.L++(X.T.take j.toNat).map X.jT).map tuR)) (N:=X.T.length) (fun m j hj=>?_) (fun m=>?_) X.T.length 400 0 QnI QnI |> Eq.trans QnK
 ·simp only [QoW];obtain ⟨⟨a,b,lo,ac⟩,e⟩:∃ q,X.T[j]? = some q:=⟨X.T[j],QoY hj⟩;have ht:=h.tr _ (List.mem_of_getElem? e);have ha:a<X.Ls.length:=ht.1;have hb:b<X.Ls.length:=ht.2.1;have t1:=ht.2.2.1;have t2:=ht.2.2.2.1;have f:=ht.2.2.2.2.1;have g:=ht.2.2.2.2.2.1;dsimp only at t1 t2 f g;have hl:=(K7 h ha).2.1;have hJ:=QdI h (i:=X.L) (Qpb _);have hw:wJ (((List.length (GT X.Ls a):Nat):Int)-1)=((X.nr a-1:Nat):Int):=J8 (k:=X.nr a) QnI QnI;have r:=rd h ha (show X.nr a-1<X.nr a by omega);have c:=r.ex0;have e1:=r.ex1;rw [X9,Qe hj,QoX,QK e];simp -implicitDefEqProofs only [Q0,tuR,QoT,QoU,Q2,QJ,Qd,(K7 h ha).1,hw,r.row,Qcb (n:=400) h ha,Qv (show j<=1000 by omega)];have d:=Q2T (R:=Int) (n:=400) h hb (Nat.zero_le 10) some;rw [show ((0:Nat):Int)=0 from rfl] at d;rw [d,Q0];have l:X.jL X.L++(X.T.take (j+1)).map X.jT=X.jL X.L++(X.T.take j).map X.jT++[X.jT (a,b,lo,ac)]:=by rw [Yt e,Qp9,List.append_assoc];rfl
  rw [QeQ (n:=400) (b:=base X.nr b+0) h ha (show X.nr a-1<X.nr a by omega) c (show X.ex a (X.nr a-1)<=1000 by omega) (show 0<=lo by omega) (show lo<=1000 by omega) (show 0<=ac by omega) (show ac<=1000 by omega) (J:=X.jL X.L++(X.T.take j).map X.jT) QnL,Q0,l];rfl
 ·simp only [QoW];rw [X9,Qj,QoV,Qpn];rfl
end Cx
abbrev Sp2:=Int×Int
def Y0 (q:Sp2):List D:=[Q4 q.1,Q4 q.2]
def VS (t:Int):Int->List Sp2->Prop
 |_,[]=>True
 |l,(a,b)::r=>l<a/\a<b/\b<=t/\VS t b r
def InS (y:Int) (l:List Sp2):Prop:=∃ q∈l,q.1<=y/\y<q.2
def cnt:List Sp2->Int
 |[]=>0
 |(a,b)::r=>(b-a)+cnt r
theorem MQ {y:Int}:¬ InS y []:=fun ⟨_,h,_⟩=>nomatch h
theorem HK {y:Int} {q:Sp2} {l:List Sp2}:InS y (q::l)↔(q.1<=y/\y<q.2)\/InS y l:=by
 constructor
 ·rintro ⟨p,hp,h⟩;cases hp with
  |head=>exact .inl h
  |tail _ hp=>exact .inr ⟨p,hp,h⟩
 ·rintro (h | ⟨p,hp,h⟩)
  ·exact ⟨q,.head _,h⟩
  ·exact ⟨p,.tail _ hp,h⟩
theorem Q9i {y:Int} {a b:List Sp2}:InS y (a++b)↔InS y a\/InS y b:=by
 constructor
 ·rintro ⟨p,hp,h⟩;rcases Qpd.1 hp with hp | hp
  ·exact .inl ⟨p,hp,h⟩
  ·exact .inr ⟨p,hp,h⟩
 ·rintro (⟨p,hp,h⟩ | ⟨p,hp,h⟩)
  ·exact ⟨p,List.mem_append_left _ hp,h⟩
  ·exact ⟨p,List.mem_append_right _ hp,h⟩
theorem Q64 {y:Int} {a b:List Sp2} (h:a.Perm b):InS y a↔InS y b:=⟨fun ⟨p,hp,q⟩=>⟨p,h.mem_iff.1 hp,q⟩,fun ⟨p,hp,q⟩=>⟨p,h.mem_iff.2 hp,q⟩⟩
theorem VS.rng {t:Int}:∀ {l:Int} {s:List Sp2},VS t l s->∀ q∈s,l<q.1/\q.1<q.2/\q.2<=t
 |_,[],_,_,h=>nomatch h
 |l,(a,b)::r,⟨c,h2,d,e⟩,q,h=>by
  cases h with
  |head=>exact ⟨c,h2,d⟩
  |tail _ h=>have:=e.rng q h;exact ⟨QnI,this.2⟩
theorem VS.cnt {t:Int}:∀ {l:Int} {s:List Sp2},l<=t->VS t l s->0<=cnt s/\cnt s<=t-l/\(0<s.length->cnt s<=t-l-1)
 |l,[],h,_=>⟨Int.le_refl _,by simp only [Vx.cnt];omega,fun h=>nomatch h⟩
 |l,(a,b)::r,h,⟨e,h2,c,d⟩=>by
  have:=d.cnt c;simp only [Vx.cnt];omega
theorem Q9P {t:Int}:∀ {l:Int} {s:List Sp2},VS t l s->l<=t->∀ q∈s,q.2-q.1<=cnt s
 |_,[],_,_,_,h=>nomatch h
 |l,(a,b)::r,⟨e,h2,c,d⟩,hl,q,h=>by
  have f:=d.cnt c;cases h with
  |head=>simp only [Vx.cnt];omega
  |tail _ h=>have:=Q9P d c q h;simp only [Vx.cnt];omega
section
variable {R:Type} {n:Nat} {t:Int}
theorem Q1o (a:1<=t) (b:t<=7200) (K:Bool->oP R):Ux n t K=K true:=by
 unfold Ux;simp only [show decide (t>=1)=true from Qp3 a,show decide (t<=7200)=true from Qp3 b,QoX]
theorem Q60 {l:List Sp2} (hl:l.length<=1000) {k0:oP R} {k1:Int->Int->Bool->oP R} {E:oP R} (hk:∀ a b c,k1 a b c=E):∀ (ac:List Sp2) (i m:Nat) (last:Int),l.drop i=ac->ac.length<m->VS t last ac->WO n t (l.map Y0) (l.length:Int) k0 k1 m last (i:Int)=E
 |[],i,m+1,last,hd,_,_=>by
  have:=VG hd;rw [WO,show decide ((i:Int)<(l.length:Int))=false by simpa using this,QoV,hk]
 |(a,b)::ac,i,m+1,last,hd,hm,⟨f,h2,g,d⟩=>by
  obtain ⟨e,aj,hi⟩:=ZC hd;rw [WO,Qe hi,QoX,QK e];simp -implicitDefEqProofs only [Q0,Y0,QoT,QoU,Q2,QnP (a<=last),QnP (a>=b),QnP (b>t),QoV,Qv (show i<=1000 by omega)];exact Q60 hl hk ac (i+1) m b aj (by simpa using hm) d
theorem BR {l:List Sp2} (a:1<=t) (b:t<=7200) (hl:l.length<=300) (h:VS t (-1) l):JZ 400 t (l.map Y0) (some:Bool->oP Bool)=some true:=by
 unfold JZ;rw [Q1o a b,Q0,Q8 (by rfl),Qp1];exact Q60 QnI (fun _ _ _=>rfl) l 0 400 (-1) rfl QnI h
theorem Q5C {l:List Sp2} (hl:l.length<=1000) {k0:Int->Int->Bool->oP R}:∀ (ac:List Sp2) (i m:Nat) (acc:Int),l.drop i=ac->ac.length<m->(∃ u,VS t u ac /\ -1<=u/\u<=t)->t<=7200->0<=acc->acc<=100000-cnt ac->∃ j b,Zv n (l.map Y0) (l.length:Int) k0 m acc (i:Int)=k0 (acc+cnt ac) j b
 |[],i,m+1,acc,hd,_,_,_,_,_=>by
  have:=VG hd;rw [Zv,show decide ((i:Int)<(l.length:Int))=false by simpa using this,QoV];exact ⟨_,_,by rw [cnt,Int.add_zero]⟩
 |(a,b)::ac,i,m+1,acc,hd,hm,⟨u,⟨k,h2,d,f⟩,o,p⟩,ht,q,g=>by
  obtain ⟨e,aj,hi⟩:=ZC hd;have hc:=f.cnt d;rw [cnt] at g ⊢;rw [Zv,Qe hi,QoX,QK e];simp -implicitDefEqProofs only [Q0,Y0,QoT,QoU,Q2,P8,Q6 (x:=b-a) QnI QnI,Q6 (x:=acc+(b-a)) QnI QnI,Qv (show i<=1000 by omega)];obtain ⟨j,c,h⟩:=Q5C hl ac (i+1) m (acc+(b-a)) aj (by simpa using hm) ⟨b,f,QnI,d⟩ ht QnI QnI;exact ⟨j,c,by rw [h,Int.add_assoc]⟩
theorem Qgl {l:List Sp2} (c:1<=t) (a:t<=7200) (hl:l.length<=300) (h:VS t (-1) l):HG 400 t (l.map Y0) (some:Int->oP Int)=some (cnt l):=by
 have hc:=h.cnt QnI;obtain ⟨j,b,e⟩:=Q5C (n:=400) (k0:=fun w _ _=>(some w:oP Int)) (l:=l) QnI l 0 400 0 rfl QnI ⟨-1,h,QnI,QnI⟩ a QnI QnI;unfold HG;rw [BR c a hl h,Q0,Q8 (by rfl)];unfold Sm;rw [Qp1,show Zv 400 (l.map Y0) (l.length:Int) (fun w _ _=>(some w:oP Int)) 400 0 0=_ from e,Q0,Int.zero_add]
theorem Qhe {x:Int} (c:1<=t) (d:t<=7200) (h2 : -1000000000<=x) (f:x<=1000000000) (K:Int->oP R):HW n x t K=K (x % t):=by
 unfold HW;rw [Q8 (Qp6 QnI),Ng QnI,Q0];have g:=Qpq x (show t≠0 by omega);have h:=Qpp x (show 0<t by omega);by_cases hx:0<=x
 ·rw [Qph hx,Q8 (Qp6 QnI)]
 ·have e:Int.tmod x t = -((-x) % t):=by
   rw [show x = -(-x) by omega,Int.neg_tmod,Qph QnI,Int.neg_neg]
  have e1:x % t=if (-x) % t=0 then 0 else t-(-x) % t:=by
   have a:=Qpq (-x) (show t≠0 by omega);have i:=Qpp (-x) (show 0<t by omega);have j:=Int.mul_ediv_add_emod (-x) t;split
   ·rename_i b;rw [show x=t*(-((-x) / t)) by rw [Int.mul_neg];omega];exact Int.mul_emod_right _ _
   ·rename_i b;rw [show x=(t-(-x) % t)+t*(-((-x) / t)-1) by rw [Int.mul_sub,Int.mul_neg];omega,Int.add_mul_emod_self_left];rw [show (t-(-x) % t+t*(-((-x) / t)-1))=x by rw [Int.mul_sub,Int.mul_neg];omega];exact Int.emod_eq_of_lt QnI QnI
  rw [e];by_cases hz:(-x) % t=0
  ·rw [hz,Q8 (by rfl),e1,Qp4 hz];rfl
  ·have a:=Qpq (-x) (show t≠0 by omega);rw [QP (Qp3 QnI),Q6 QnI QnI,e1,Qp5 hz];congr 1;omega
theorem QgN {x:Int} (a:1<=t) (b:t<=7200) (h2 : -1000000000<=x) (c:x<=1000000000) (K:Int->oP R):F6 n x t K=K (x % t):=Qhe (n:=n) a b h2 c K
def Q3x (t x k:Int):List Sp2:=if k<1 then [] else if t<=k then [(0,t)] else if x+k<=t then [(x,x+k)] else [(0,x+k-t),(x,t)]
theorem Q8H {x k:Int}:(Q3x t x k).length<=2:=by
 unfold Q3x;split
 ·simp
 split
 ·simp
 split <;> simp
theorem QaF {x k:Int} (a:1<=t) (hx:0<=x) (ac:x<t):VS t (-1) (Q3x t x k):=by
 unfold Q3x;split
 ·trivial
 split
 ·exact ⟨QnI,QnI,QnI,trivial⟩
 split
 ·exact ⟨QnI,QnI,QnI,trivial⟩
 ·exact ⟨QnI,QnI,QnI,QnI,QnI,QnI,trivial⟩
theorem QiV {x y:Int} (hx:0<=x) (ac:x<t) (hy:0<=y) (aj:y<t):(y-x) % t=if x<=y then y-x else y-x+t:=by
 split
 ·exact Int.emod_eq_of_lt QnI QnI
 ·rw [show y-x=(y-x+t)+t*(-1) by omega,Int.add_mul_emod_self_left];rw [show y-x+t+t*(-1)+t=y-x+t by omega];exact Int.emod_eq_of_lt QnI QnI
theorem Qbe {x k y:Int} (hx:0<=x) (ak:x<t) (hy:0<=y) (ac:y<t):InS y (Q3x t x k)↔(y-x) % t<k:=by
 rw [QiV hx ak hy ac];unfold Q3x;split
 ·refine ⟨fun h=>absurd h MQ,fun h=>?_⟩;split at h <;> omega
 split
 ·rw [HK];constructor
  ·intro _;split <;> omega
  ·intro _;exact .inl ⟨hy,ac⟩
 split
 ·rw [HK];constructor
  ·rintro (h | h)
   ·dsimp only at h;rw [Qp4 h.1];omega
   ·exact absurd h MQ
  ·intro h;left;dsimp only;split at h <;> omega
 ·rw [HK,HK];constructor
  ·rintro (h | h | h)
   ·dsimp only at h;split <;> omega
   ·dsimp only at h;rw [Qp4 h.1];omega
   ·exact absurd h MQ
  ·intro h;dsimp only;by_cases aj:x<=y
   ·exact .inr (.inl ⟨aj,ac⟩)
   ·rw [Qp5 aj] at h;exact .inl ⟨hy,QnI⟩
theorem QgO {f k:Int} (c:1<=t) (d:t<=7200) (h2 : -1000000<=f) (j:f<=1000000) (l : -1000000<=k) (m:k<=1000000):Tw 400 t f k Tu2=some ((Q3x t (f % t) k).map Y0,(0:Int)):=by
 have e:=Qpq f (show t≠0 by omega);have g:=Qpp f (show 0<t by omega);unfold Tw;rw [Q1o c d,Q0,Q8 (by rfl),Qhe c d QnI QnI,Q0];revert e g;generalize f % t=x;intro e g;unfold VZ Q3x;by_cases c1:k<1
 ·rw [show decide (k<1)=true from Qp3 c1,QoX,Qp4 c1];rfl
 rw [show decide (k<1)=false from Qp6 c1,QoV,Qp5 c1];by_cases a:t<=k
 ·rw [show decide (k>=t)=true from Qp3 a,QoX,Qp4 a];rfl
 rw [show decide (k>=t)=false from Qp6 a,QoV,Qp5 a,Q6 (x:=x+k) QnI QnI];by_cases b:x+k<=t
 ·rw [show decide (x+k<=t)=true from Qp3 b,QoX,Qp4 b];rfl
 ·rw [show decide (x+k<=t)=false from Qp6 b,QoV,Qp5 b,Q6 (x:=x+k-t) QnI QnI];rfl
end
theorem QiM {R:Type} {n:Nat} {a b:Int} (K:Int->oP R):VD n a b K=K (if a<b then -1 else if b<a then 1 else 0):=by
 unfold VD;have hn:∀ x:Int,V2 n x (some:Bool->oP Bool)=some false:=fun x=>by
  grind [V2]
 rw [hn,hn,Q0,Q0,Q8 (by rfl),Q8 (by rfl)]
 grind
def Asc (l:List Sp2):Prop:=l.Pairwise fun a b=>a.1<=b.1
theorem QaN (q:Sp2):(Y0 q)[0]? = some (Q4 q.1):=rfl
theorem Qak (q:Sp2):(Y0 q)[1]? = some (Q4 q.2):=rfl
theorem QgU (z q:Sp2):((Y0 z).set 0 (Q4 q.1)).set 1 (Q4 q.2)=Y0 q:=rfl
theorem Qis (q:Sp2) (v:Int):(Y0 q).set 1 (D.int .i64 v)=Y0 (q.1,v):=rfl
section
variable {R:Type} {n:Nat}
theorem Qgb {A B:LL} {x:List D} {i:Nat} (h:A.length=i):(A++x::B)[i]? = some x:=by
 simp_all
theorem Qgt {A B:LL} {x y:List D} {i:Nat} (h:A.length=i):(A++x::B).set i y=A++y::B:=by
 simp_all
theorem Qby {K:LL->oP R} {k0:Int->Bool->LL->oP R} (hk:∀ a b w,k0 a b w=K w):∀ (c m:Nat) (A:List Sp2) (x:Sp2) (B C:List Sp2),A.length=c->c<m->(A++x::B++C).length<=100->Asc (A++B)->(∀ b∈B,x.1<=b.1) ->
  ∃ L:List Sp2,Qh n 0 k0 m (c:Int) ((A++x::B++C).map Y0)=K ((L++C).map Y0)/\Asc L/\L.Perm (A++x::B)
 |0,m+1,A,x,B,C,hA,_,_,hs,hx=>by
  obtain rfl:=List.eq_nil_of_length_eq_zero hA;refine ⟨x::B,?_,Qpj.2 ⟨hx,hs⟩,List.Perm.refl _⟩;unfold Qh;rw [show decide (((0:Nat):Int)>0)=false from rfl];simp -implicitDefEqProofs only [gbF,QoV,hk,List.nil_append]
 |c+1,m+1,A,x,B,C,hA,hm,hl,hs,hx=>by
  obtain ⟨A',y,rfl⟩:∃ A' y,A=A'++[y]:=⟨A.dropLast,A.getLast (by intro h;rw [h] at hA;simp at hA),(List.dropLast_concat_getLast _).symm⟩;have ac:A'.length=c:=by simpa using hA
  have ak:c+1<((A'++[y]++x::B++C).map Y0).length:=by simp;omega
  have hc:c<=100:=by simp at hl;omega
  have e1:((A'++[y]++x::B++C).map Y0)=(A'.map Y0++[Y0 y])++Y0 x::(B++C).map Y0:=by simp
  have e2:((A'++[y]++x::B++C).map Y0)=A'.map Y0++Y0 y::(Y0 x::(B++C).map Y0):=by simp
  have g1:((A'++[y]++x::B++C).map Y0)[c+1]? = some (Y0 x):=by rw [e1];exact Qgb (by simp [ac])
  have d:((A'++[y]++x::B++C).map Y0)[c]? = some (Y0 y):=by rw [e2];exact Qgb (by simp [ac])
  have s1:((A'++[y]++x::B++C).map Y0).set (c+1) (Y0 y)=A'.map Y0++Y0 y::(Y0 y::(B++C).map Y0):=by rw [e1,Qgt (by simp [ac])];simp
  have e:(A'.map Y0++Y0 y::(Y0 y::(B++C).map Y0))[c]? = some (Y0 y):=Qgb (by simp [ac]);have s2:(A'.map Y0++Y0 y::(Y0 y::(B++C).map Y0)).set c (Y0 x)=((A'++x::(y::B)++C).map Y0):=by rw [Qgt (by simp [ac])];simp
  have f:inB ((A'++[y]++x::B++C).map Y0).length ((c+1:Nat):Int)=some ():=YX QnI QnI;have g:inB ((A'++[y]++x::B++C).map Y0).length (c:Int)=some ():=YX QnI QnI;have i:inB (A'.map Y0++Y0 y::(Y0 y::(B++C).map Y0)).length (c:Int)=some ():=YX QnI QnL;unfold Qh;rw [QnQ (((c+1:Nat):Int)>0),J8 (show c+1<=1000 by omega) QnI,Qp8];unfold Uy;simp -implicitDefEqProofs only [f,g,Q0,QoW,g1,d,QiM];simp -implicitDefEqProofs only [QaN,Qak,QgU,Q0,Q2,QoX];by_cases aj:x.1<y.1
  ·rw [Qp4 aj];simp -implicitDefEqProofs only [show decide ((-1:Int)<0)=true from rfl,QoX,g1,QaN,Qak,QgU,Q0,s1];simp -implicitDefEqProofs only [i,e,Q0,QgU,s2];obtain ⟨L,j,h2,k⟩:=Qby hk c m A' x (y::B) C ac QnI (by simp at hl ⊢;omega) (by simpa using hs) (fun b hb=>by
    cases hb with
    |head=>omega
    |tail _ hb=>exact hx b hb)
   refine ⟨L,j,h2,k.trans ?_⟩;rw [List.append_assoc];exact List.Perm.append_left _ (List.Perm.swap ..)
  ·refine ⟨A'++[y]++x::B,?_,?_,List.Perm.refl _⟩
   ·rw [Qp5 aj,show decide ((if y.1<x.1 then (1:Int) else 0)<0)=false from Qp6 (by split <;> omega),QoV,hk]
   ·unfold Asc at hs ⊢;rw [List.pairwise_append] at hs ⊢;refine ⟨hs.1,Qpj.2 ⟨hx,hs.2.1⟩,fun a ha b hb=>?_⟩;cases hb with
    |head=>
     rcases Qpd.1 ha with h | h
     ·have:=(List.pairwise_append.1 hs.1).2.2 a h y (Qpl.2 rfl);omega
     ·obtain rfl:=Qpl.1 h;omega
    |tail _ hb=>exact hs.2.2 a ha b hb
theorem Qbx {K:LL->oP R} {k0:Int->Bool->LL->oP R} (hk:∀ a b w,k0 a b w=K w):∀ (ac P:List Sp2) (m:Nat),ac.length<m->(P++ac).length<=100->Asc P ->
  ∃ L:List Sp2,Q7 400 0 (((P++ac).length:Nat):Int) k0 m (P.length:Int) ((P++ac).map Y0)=K (L.map Y0)/\Asc L/\L.Perm (P++ac)
 |[],P,m+1,_,_,hs=>by
  refine ⟨P,?_,hs,by simp⟩;rw [Q7,List.append_nil,Qj,QoV,hk]
 |x::ac,P,m+1,hm,hl,hs=>by
  rw [Q7,Qe QnK,QoX,Qv (by simp at hl;omega)];obtain ⟨L,d,h2,c⟩:=Qby (n:=400) (K:=fun w=>Q7 400 0 (((P++x::ac).length:Nat):Int) k0 m ((P.length+1:Nat):Int) w) (k0:=fun _ _ w=>Q7 400 0 (((P++x::ac).length:Nat):Int) k0 m ((P.length+1:Nat):Int) w) (fun _ _ _=>rfl) P.length 400 P x [] ac rfl (by simp at hl;omega) (by simp at hl ⊢;omega) (by simpa using hs) (fun b hb=>nomatch hb);rw [show (P++x::ac)=P++[x]++ac by simp] at *
  rw [d];have hL:L.length=P.length+1:=by rw [c.length_eq];simp
  obtain ⟨L',g1,e,f⟩:=Qbx hk ac L m (by simpa using hm) (by simp [hL] at hl ⊢;omega) h2;rw [show (((P++[x]++ac).length:Nat):Int)=(((L++ac).length:Nat):Int) by simp [hL];omega,show ((P.length+1:Nat):Int)=(L.length:Int) by rw [hL]];exact ⟨L',g1,e,f.trans (c.append_right _)⟩
theorem Qj1:((List.range 13).all fun k=>(JP 400 (IntKind.wrap .u64 (k:Int)) (some:Int->oP Int)).isSome)=true:=by kernel_rfl
theorem QhS {l:List Sp2} (hl:l.length<=12):∃ L:List Sp2,Qu 400 (l.map Y0) (some:LL->oP LL)=some (L.map Y0)/\Asc L/\L.Perm l:=by
 obtain ⟨b,hb⟩:=Option.isSome_iff_exists.1 (List.all_eq_true.1 Qj1 l.length (List.mem_range.2 QnI));unfold Qu;rw [Qp1,hb,Q0];unfold XG Xv;rw [Q6 (x:=(l.length:Int)-0) QnI QnI,QP (Qp3 QnI)];unfold Xh;have aj:∀ L:List Sp2,L.length=l.length->(gb true (gb true (some (L.map Y0)) [] fun a=>gb true (Hj a (List.length (l.map Y0))) () fun e=>some a) [] fun r2=>gb true (Hj r2 l.length) () fun u3=>(some r2:oP LL))=some (L.map Y0):=fun L h=>by
  grind [Q0,LE]
 rw [show wJ ((0:Int)+1)=((1:Nat):Int) from rfl];cases l with
 |nil=>
  refine ⟨[],?_,List.Pairwise.nil,List.Perm.refl _⟩;rfl
 |cons x ac=>
  obtain ⟨L,d,h2,c⟩:=Qbx (K:=(some:LL->oP LL)) (k0:=fun _ _ w=>some w) (fun _ _ _=>rfl) ac [x] 400 (by grind) (by simp at hl ⊢;omega) (List.pairwise_singleton ..);refine ⟨L,?_,h2,c⟩;rw [show (x::ac)=[x]++ac from rfl,show ((1:Nat):Int)=(([x].length:Nat):Int) from rfl,d];exact aj L c.length_eq
def mgS:Int->Int->List Sp2->List Sp2
 |a,b,[]=>[(a,b)]
 |a,b,(c,d)::r=>if c<=b then mgS a (if b<d then d else b) r else (a,b)::mgS c d r
theorem Q4Q:∀ {a b:Int} {r:List Sp2},(mgS a b r).length<=r.length+1
 |_,_,[]=>Qpb _
 |a,b,(c,d)::r=>by
  rw [mgS];split
  ·have:=Q4Q (a:=a) (b:=if b<d then d else b) (r:=r);simp only [Qpg];omega
  ·have:=Q4Q (a:=c) (b:=d) (r:=r);simp only [Qpg];omega
theorem Q8T {t:Int}:∀ {l a b:Int} {r:List Sp2},l<a->a<b->b<=t->Asc ((a,b)::r)->(∀ q∈r,q.1<q.2/\q.2<=t)->VS t l (mgS a b r)
 |l,a,b,[],e,h2,f,_,_=>⟨e,h2,f,trivial⟩
 |l,a,b,(c,d)::r,e,h2,f,h,g=>by
  have hs:=Qpj.1 h;have hc:a<=c:=hs.1 (c,d) (.head _);have hd:=g (c,d) (.head _);rw [mgS];split
  ·refine Q8T e (by split <;> omega) (by split <;> simp_all) (Qpj.2 ⟨fun q hq=>hs.1 q (.tail _ hq),(Qpj.1 hs.2).2⟩) (fun q hq=>g q (.tail _ hq))
  ·exact ⟨e,h2,f,Q8T QnI hd.1 hd.2 hs.2 (fun q hq=>g q (.tail _ hq))⟩
theorem Q8L {y:Int}:∀ {a b:Int} {r:List Sp2},Asc ((a,b)::r)->a<b->(∀ q∈r,q.1<q.2)->(InS y (mgS a b r)↔(a<=y/\y<b)\/InS y r)
 |a,b,[],_,_,_=>by rw [mgS,HK]
 |a,b,(c,d)::r,f,h2,e=>by
  have hs:=Qpj.1 f;have hc:a<=c:=hs.1 (c,d) (.head _);have hd:=e (c,d) (.head _);rw [mgS,HK];split
  ·rw [Q8L (a:=a) (b:=if b<d then d else b) (Qpj.2 ⟨fun q hq=>hs.1 q (.tail _ hq),(Qpj.1 hs.2).2⟩) (by split <;> omega) (fun q hq=>e q (.tail _ hq))];dsimp only at hc hd ⊢;rw [<- or_assoc];refine or_congr_left ?_;split <;> omega
  ·rw [HK,Q8L hs.2 hd (fun q hq=>e q (.tail _ hq))]
theorem Q22 {K:LL->oP R} {k0:Int->Bool->LL->oP R} (hk:∀ a b w,k0 a b w=K w) {l:List Sp2} (hl:l.length<=100):∀ (ac:List Sp2) (i m:Nat) (A:List Sp2) (a b:Int),l.drop i=ac->ac.length<m->A.length+ac.length<=100 ->
  X4 n (l.length:Int) (l.map Y0) k0 m (i:Int) ((A++[(a,b)]).map Y0)=K ((A++mgS a b ac).map Y0)
 |[],i,m+1,A,a,b,hd,_,_=>by
  have:=VG hd;rw [X4,show decide ((i:Int)<(l.length:Int))=false by simp_all,QoV,hk,mgS]
 |(c,d)::ac,i,m+1,A,a,b,hd,hm,hA=>by
  obtain ⟨e,an,hi⟩:=ZC hd;have aq:A.length<=100:=QnI
  have f:(l.map Y0)[i]? = some (Y0 (c,d)):=by rw [Qpc,e];rfl
  have e1:(A++[(a,b)]).map Y0=A.map Y0++Y0 (a,b)::[]:=by simp
  have ak:((A++[(a,b)]).map Y0).length=A.length+1:=by simp
  have g:((A++[(a,b)]).map Y0)[A.length]? = some (Y0 (a,b)):=by rw [e1];exact Qgb QnK
  have al:∀ v,((A++[(a,b)]).map Y0).set A.length (Y0 (a,v))=(A++[(a,v)]).map Y0:=fun v=>by rw [e1,Qgt QnK];simp
  rw [X4,Qe hi,QoX,ak,J8 (show A.length+1<=1000 by omega) QnI,Qp8,Qp1,YX QnI QnI,YX QnI QnI,QnQ ((A.length:Int)>=0)];simp -implicitDefEqProofs only [Q0,QoW,f,g,Qv (show i<=1000 by omega)];simp -implicitDefEqProofs only [QaN,Qak,Qis,Q0,Q2,QoX];rw [mgS];by_cases aj:c<=b
  ·rw [show decide (c<=b)=true from Qp3 aj,QoX,Qp4 aj];rw [al];exact Q22 hk hl ac (i+1) m A a _ an (by simpa using hm) (by simp at hA;omega)
  ·rw [show decide (c<=b)=false from Qp6 aj,QoV,Qp5 aj,XF QnL,Q0];have:=Q22 hk hl ac (i+1) m (A++[(a,b)]) c d an (by simpa using hm) (by simp at hA ⊢;omega);rw [show A++(a,b)::mgS c d ac=A++[(a,b)]++mgS c d ac by simp,<- this,Qp9 (l₂:=[(c,d)])];rfl
theorem t2a {x y:List D}:decide ((0:Int)<(([x,y].length:Nat):Int))=true:=rfl
theorem t2b {x y:List D}:decide ((1:Int)<(([x,y].length:Nat):Int))=true:=rfl
theorem t2c {x y:List D}:decide ((2:Int)<(([x,y].length:Nat):Int))=false:=rfl
theorem t2d:wJ ((0:Int)+1)=1:=rfl
theorem t2e:wJ ((1:Int)+1)=2:=rfl
theorem t2f {x y:List D}:Q1 [x,y] 0=some x:=rfl
theorem t2g {x y:List D}:Q1 [x,y] 1=some y:=rfl
theorem QdL {a b:List Sp2} (h:a.length+b.length<=100):QI 400 [[D.sl 2 (a.map Y0)],[D.sl 2 (b.map Y0)]] (some:LL->oP LL)=some ((a++b).map Y0):=by
 have hg:∀ k:Nat,k<=100->QC 400 (k:Int) (some:LL->oP LL)=some []:=fun k hk=>by
  unfold QC;rw [Q8 (Qp6 QnI),show wJ ((0:Int)-0)=0 from rfl,Q6 (x:=(k:Int)-0) QnI QnI];by_cases c:k=0
  ·subst c;rfl
  ·rw [QP (Qp3 QnI),show slB 0 none (some (0:Int))=some (0,0) from rfl,Q0,QP (Qp3 QnI),Q0,XF QnI,Q0]
 unfold QI;rw [Qf];simp -implicitDefEqProofs only [t2a,t2b,t2c,t2d,t2e,t2f,t2g,QoX,QoV,Q0,QoT,QJ,Qp1,Q6 (x:=0+(a.length:Int)) QnI QnI,Q6 (x:=0+(a.length:Int)+(b.length:Int)) QnI QnI,QnP (0+(a.length:Int)<0),QnP (0+(a.length:Int)+(b.length:Int)<0),show 0+(a.length:Int)+(b.length:Int)=((a.length+b.length:Nat):Int) by omega,Q6 (x:=((a.length+b.length:Nat):Int)) QnI QnI,QnP (((a.length+b.length:Nat):Int)<0),hg _ h];rw [Qf];simp -implicitDefEqProofs only [t2a,t2b,t2c,t2d,t2e,t2f,t2g,QoX,QoV,Q0,QoT,QJ,Qp1,Q6 (x:=0+(a.length:Int)) QnI QnI,Q6 (x:=0+(a.length:Int)+(b.length:Int)) QnI QnI,QnP (0+(a.length:Int)<0),QnP (0+(a.length:Int)+(b.length:Int)<0),show 0+(a.length:Int)+(b.length:Int)=((a.length+b.length:Nat):Int) by omega,Q6 (x:=((a.length+b.length:Nat):Int)) QnI QnI,QnP (((a.length+b.length:Nat):Int)<0),hg _ h];rw [Qf];simp -implicitDefEqProofs only [t2a,t2b,t2c,t2d,t2e,t2f,t2g,QoX,QoV,Q0,QoT,QJ,Qp1,Q6 (x:=0+(a.length:Int)) QnI QnI,Q6 (x:=0+(a.length:Int)+(b.length:Int)) QnI QnI,QnP (0+(a.length:Int)<0),QnP (0+(a.length:Int)+(b.length:Int)<0),show 0+(a.length:Int)+(b.length:Int)=((a.length+b.length:Nat):Int) by omega,Q6 (x:=((a.length+b.length:Nat):Int)) QnI QnI,QnP (((a.length+b.length:Nat):Int)<0),hg _ h];rw [Qg];simp -implicitDefEqProofs only [t2a,t2b,t2c,t2d,t2e,t2f,t2g,QoX,QoV,Q0,QoT,QJ,Qp1,List.nil_append,Qpf,XF (show (0+a.length)*16<=100000 by omega),XF (show (a.length+b.length)*16<=100000 by omega),Qp9];rw [Qg];simp -implicitDefEqProofs only [t2a,t2b,t2c,t2d,t2e,t2f,t2g,QoX,QoV,Q0,QoT,QJ,Qp1,List.nil_append,Qpf,XF (show (0+a.length)*16<=100000 by omega),XF (show (a.length+b.length)*16<=100000 by omega),Qp9];rw [Qg];simp -implicitDefEqProofs only [t2a,t2b,t2c,t2d,t2e,t2f,t2g,QoX,QoV,Q0,QoT,QJ,Qp1,List.nil_append,Qpf,XF (show (0+a.length)*16<=100000 by omega),XF (show (a.length+b.length)*16<=100000 by omega),Qp9]
theorem Qet {l:List Sp2}:LW [l.map Y0]=some ():=by
 unfold LW;rw [show ([l.map Y0].all B5)=true by simp [B5,Y0,Q4P]];rfl
theorem Qeq {t:Int} {a b:List Sp2} (c:1<=t) (d:t<=7200) (ha:VS t (-1) a) (hb:VS t (-1) b) (hl:a.length<=300) (ac:b.length<=300):Hq 400 t [[D.sl 2 (a.map Y0)],[D.sl 2 (b.map Y0)]] (some:Int->oP Int)=some 0:=by
 unfold Hq;rw [Q1o c d,Q0,Q8 (by rfl)];rw [WH];simp -implicitDefEqProofs only [t2a,t2b,t2c,t2d,t2e,t2f,t2g,QoX,QoV,Q0,QoT,QJ,BR c d hl ha,BR c d ac hb,QoZ];rw [WH];simp -implicitDefEqProofs only [t2a,t2b,t2c,t2d,t2e,t2f,t2g,QoX,QoV,Q0,QoT,QJ,BR c d hl ha,BR c d ac hb,QoZ];rw [WH];simp -implicitDefEqProofs only [t2a,t2b,t2c,t2d,t2e,t2f,t2g,QoX,QoV,Q0,QoT,QJ,BR c d hl ha,BR c d ac hb,QoZ]
theorem QfO {t:Int} {a b:List Sp2} (e:1<=t) (f:t<=7200) (ha:VS t (-1) a) (hb:VS t (-1) b) (hl:a.length+b.length<=12):∃ c:List Sp2,HA 400 t (a.map Y0) (b.map Y0) Tu2=some (c.map Y0,(0:Int))/\VS t (-1) c/\c.length<=a.length+b.length/\∀ y,InS y c↔InS y a\/InS y b:=by
 obtain ⟨L,s1,s2,d⟩:=QhS (l:=a++b) QnL;have hr:∀ q∈L,-1<q.1/\q.1<q.2/\q.2<=t:=fun q hq=>by
  rcases Qpd.1 (d.mem_iff.1 hq) with h | h
  ·exact ha.rng q h
  ·exact hb.rng q h
 have ac:L.length=a.length+b.length:=by rw [d.length_eq];simp
 unfold HA;rw [Qeq e f ha hb QnI QnI,Q0,Q8 (by rfl),QdL QnI,Q0,Qet,Q0];unfold KW;rw [s1,Q0,LE (by simp [ac]),Q0,Qp1];cases L with
 |nil=>
  refine ⟨[],?_,trivial,by simp,fun y=>?_⟩
  ·rw [Qp1,<- d.length_eq,X4,show decide ((0:Int)<((([]:List Sp2).length:Nat):Int))=false from rfl,QoV];rfl
  ·rw [<- Q9i,<- Q64 d]
 |cons q L=>
  obtain ⟨x,z⟩:=q;have hq:=hr (x,z) (.head _);have aj:L.length+1<=12:=by simp at ac;omega
  have hm:=Q22 (n:=400) (K:=fun w=>(some (w,((x,z)::L).map Y0):oP (LL×LL))) (k0:=fun _ _ w=>some (w,((x,z)::L).map Y0)) (fun _ _ _=>rfl) (l:=(x,z)::L) QnL L 1 399 [] x z rfl QnI QnL;have ak:∀ k0:Int->Bool->LL->oP (LL×LL),X4 400 ((((x,z)::L).length:Nat):Int) (((x,z)::L).map Y0) k0 400 0 []=X4 400 ((((x,z)::L).length:Nat):Int) (((x,z)::L).map Y0) k0 399 ((1:Nat):Int) (([]++[(x,z)]).map Y0):=fun k0=>by
   rw [X4,show decide ((0:Int)<((((x,z)::L).length:Nat):Int))=true from Qp3 QnK,QoX,YX QnI QnK,show (((x,z)::L).map Y0)[Int.toNat 0]? = some (Y0 (x,z)) from rfl,show decide (wJ (((([]:LL).length:Nat):Int)-1)>=0)=false from rfl];simp -implicitDefEqProofs only [Q0,QaN,Qak,gbF,QoV,t2d];rw [XF QnK,Q0];rfl
  refine ⟨mgS x z L,?_,Q8T hq.1 hq.2.1 hq.2.2 s2 (fun q h=>(hr q (.tail _ h)).2),?_,fun y=>?_⟩
  ·rw [ak,hm,Q0,LE (by simp at ac ⊢;omega),Q0];rfl
  ·have:=Q4Q (a:=x) (b:=z) (r:=L);simp at ac;omega
  ·rw [Q8L s2 hq.2.1 (fun q h=>(hr q (.tail _ h)).2.1),<- Q9i,<- Q64 d,HK]
end
def FB (t:Int) (A B:List Occ) (y:Int):Prop:=∃ x a b c d,(x,a,b)∈A/\(x,c,d)∈B/\(y-(a-d+1)) % t<b-a+d-c-1
theorem QaD {t:Int} {q:Occ} {A B:List Occ} {y:Int} (h:∀ p∈B,p.1≠q.1):FB t (q::A) B y↔FB t A B y:=by
 constructor
 ·rintro ⟨x,a,b,c,d,e,h2,f⟩;cases e with
  |head=>grind
  |tail _ e=>exact ⟨x,a,b,c,d,e,h2,f⟩
 ·rintro ⟨x,a,b,c,d,e,h2,f⟩;exact ⟨x,a,b,c,d,.tail _ e,h2,f⟩
theorem QaO {t:Int} {q:Occ} {A B:List Occ} {y:Int} (h:∀ p∈A,p.1≠q.1):FB t A (q::B) y↔FB t A B y:=by
 constructor
 ·rintro ⟨x,a,b,c,d,e,h2,f⟩;cases h2 with
  |head=>grind
  |tail _ h2=>exact ⟨x,a,b,c,d,e,h2,f⟩
 ·rintro ⟨x,a,b,c,d,e,h2,f⟩;exact ⟨x,a,b,c,d,e,.tail _ h2,f⟩
theorem QdJ {t x a b c d:Int} {A B:List Occ} {y:Int} (hA:∀ p∈A,p.1≠x) (hB:∀ p∈B,p.1≠x):FB t ((x,a,b)::A) ((x,c,d)::B) y↔(y-(a-d+1)) % t<b-a+d-c-1\/FB t A B y:=by
 constructor
 ·rintro ⟨x',a',b',c',d',e,h2,f⟩;cases e with
  |head=>
   grind
  |tail _ e=>
   cases h2 with
   |head=>exact (hA (x,a',b') e rfl).elim
   |tail _ h2=>exact .inr ⟨x',a',b',c',d',e,h2,f⟩
 ·rintro (h | ⟨x',a',b',c',d',e,h2,f⟩)
  ·exact ⟨x,a,b,c,d,.head _,.head _,h⟩
  ·exact ⟨x',a',b',c',d',.tail _ e,.tail _ h2,f⟩
theorem Qgd (y f t:Int):(y-f % t) % t=(y-f) % t:=by
 rw [Int.sub_emod,Int.emod_emod,<- Int.sub_emod]
section
variable {R:Type} {n:Nat} {t:Int}
theorem Ni (q:Occ):(enc q)[0]? = some (Q4 q.1):=rfl
theorem MR (q:Occ):(enc q)[1]? = some (Q4 q.2.1):=rfl
theorem F5 (q:Occ):(enc q)[2]? = some (Q4 q.2.2):=rfl
theorem Q2Z {O:List Occ} (hl:O.length<=1000) {k0:oP R} {k1:Int->Int->Bool->oP R} {E:oP R} (hk:∀ a b c,k1 a b c=E):∀ (ac:List Occ) (i m:Nat) (last:Int),O.drop i=ac->ac.length<m->OL last ac->WL n (O.map enc) (O.length:Int) k0 k1 m last (i:Int)=E
 |[],i,m+1,last,hd,_,_=>by
  have:=VG hd;rw [WL,show decide ((i:Int)<(O.length:Int))=false by simpa using this,QoV,hk]
 |(x,a,b)::ac,i,m+1,last,hd,hm,⟨f,h2,g,h,j,d⟩=>by
  obtain ⟨e,aj,hi⟩:=ZC hd;rw [WL,Qe hi,QoX,QK e];simp -implicitDefEqProofs only [Q0,Ni,MR,F5,Q2,QnP (x<=last),QnP (a>=b),QnP (a < -65536),QnP (b>65536),QoV,Qv (show i<=1000 by omega)];exact Q2Z hl hk ac (i+1) m x aj (by simpa using hm) d
theorem Q48 {O:List Occ} (hl:O.length<=300) (h:OL (-1) O):VU 400 (O.map enc) (some:Bool->oP Bool)=some true:=by
 unfold VU;rw [Qp1];exact Q2Z QnI (fun _ _ _=>rfl) O 0 400 (-1) rfl QnI h
theorem Qie {α:Type} (q:α) (l:List α):slB (q::l).length (some (1:Int)) none=some (1,l.length+1)/\cut (q::l) (1,l.length+1)=l:=by
 grind [slB,cut]
theorem L9 (e:1<=t) (j:t<=7200) {K:LL->oP R} {k0:LL->LL->Bool->LL->oP R} (hk:∀ a b c w,k0 a b c w=K w):∀ (m:Nat) (A B:List Occ) (acc:List Sp2) (lA lB:Int),A.length+B.length<m->OL lA A->OL lB B->VS t (-1) acc->acc.length+2*A.length<=12 ->
  ∃ ac:List Sp2,Qp 400 t k0 m (A.map enc) (B.map enc) (acc.map Y0)=K (ac.map Y0)/\VS t (-1) ac/\ac.length<=12/\∀ y,0<=y->y<t->(InS y ac↔InS y acc\/FB t A B y)
 |m+1,[],B,acc,lA,lB,_,_,_,hv,hl=>by
  refine ⟨acc,?_,hv,QnI,fun y _ _=>⟨.inl,?_⟩⟩
  ·rw [Qp,show decide (((([]:List Occ).map enc).length:Int)>0)=false from rfl,QoV,QoV,hk]
  ·rintro (h | ⟨x,a,b,c,d,h,_⟩)
   all_goals grind
 |m+1,q::A,[],acc,lA,lB,_,_,_,hv,hl=>by
  refine ⟨acc,?_,hv,by simp at hl;omega,fun y _ _=>⟨.inl,?_⟩⟩
  ·rw [Qp,show decide (((([]:List Occ).map enc).length:Int)>0)=false from rfl,show decide ((((q::A).map enc).length:Int)>0)=true from Qp3 QnK,QoX,QoV,hk]
  ·rintro (h | ⟨x,a,b,c,d,_,h,_⟩)
   ·exact h
   ·nomatch h
 |m+1,(x,a,b)::A,(x',c,d)::B,acc,lA,lB,hm,hA,hB,hv,hl=>by
  obtain ⟨a1,a2,a3,a4,a5,v⟩:=id hA;obtain ⟨b1,b2,b3,b4,b5,z⟩:=id hB;have aw:A.length+B.length+2<m+1:=by simp at hm;omega
  have a7:acc.length+2*A.length+2<=12:=by simp at hl;omega
  have cA:=Qie (enc (x,a,b)) (A.map enc);have cB:=Qie (enc (x',c,d)) (B.map enc);have al:∀ p∈A,x<p.1:=fun p hp=>(v.mem p hp).1
  have ak:∀ p∈B,x'<p.1:=fun p hp=>(z.mem p hp).1
  rw [Qp];simp -implicitDefEqProofs only [List.map_cons,show decide ((((enc (x,a,b)::A.map enc).length:Nat):Int)>0)=true from Qp3 QnK,show decide ((((enc (x',c,d)::B.map enc).length:Nat):Int)>0)=true from Qp3 QnK,QoX,show ∀ (r:List D) (l:LL),Q1 (r::l) 0=some r from fun _ _=>rfl,Q0,Ni,MR,F5,Q2,cA,cB];rcases Int.lt_trichotomy x x' with hx | hx | hx
  ·rw [show (x == x')=false by simp;omega,QnQ (x<=x'),QnP (x>=x')];simp -implicitDefEqProofs only [QoX,QoV];obtain ⟨ac,g1,n,o,s⟩:=L9 e j hk m A ((x',c,d)::B) acc x lB QnL v hB hv QnI;refine ⟨ac,g1,n,o,fun y g i=>?_⟩;rw [s y g i,QaD (fun p hp=>?_)];cases hp with
   |head=>dsimp only;omega
   |tail _ hp=>have:=ak p hp;dsimp only;omega
  ·subst hx;have f0:wJ (wJ (a-d)+1)=a-d+1:=by rw [Q6 (x:=a-d) QnI QnI,Q6 QnI QnI]
   have f1:wJ (wJ (wJ (wJ (b-c)-1)-(a-d+1))+1)=b-a+d-c-1:=by
    rw [Q6 (x:=b-c) QnI QnI,Q6 (x:=b-c-1) QnI QnI,Q6 (x:=b-c-1-(a-d+1)) QnI QnI,Q6 QnI QnI];omega
   have e0:=Qpq (a-d+1) (show t≠0 by omega);have e1:=Qpp (a-d+1) (show 0<t by omega);have ao:=QgO (t:=t) (f:=a-d+1) (k:=b-a+d-c-1) e j QnI QnI QnI QnI;have a8:=Q8H (t:=t) (x:=(a-d+1) % t) (k:=b-a+d-c-1);obtain ⟨u,u1,u2,u3,u4⟩:=QfO e j hv (QaF (k:=b-a+d-c-1) e e0 e1) QnI;rw [show (x == x)=true by simp,QnQ (x<=x)];simp -implicitDefEqProofs only [QoX];unfold YS;rw [f0,f1,ao,Q0,u1,Q0,Qet,Q0];obtain ⟨ac,g1,n,o,s⟩:=L9 e j hk m A B u x x QnI v z u2 QnI;refine ⟨ac,g1,n,o,fun y g i=>?_⟩;rw [s y g i,u4,Qbe e0 e1 g i,Qgd,QdJ (fun p hp=>by have:=al p hp;omega) (fun p hp=>by have:=ak p hp;omega),or_assoc]
  ·rw [show (x == x')=false by simp;omega,QnP (x<=x'),QnQ (x>=x')];simp -implicitDefEqProofs only [QoX,QoV];obtain ⟨ac,g1,n,o,s⟩:=L9 e j hk m ((x,a,b)::A) B acc lA x' QnL hA z hv hl;refine ⟨ac,g1,n,o,fun y g i=>?_⟩;rw [s y g i,QaO (fun p hp=>?_)];cases hp with
   |head=>dsimp only;omega
   |tail _ hp=>have:=al p hp;dsimp only;omega
theorem QgQ {A B:List Occ} (a:1<=t) (b:t<=7200) (hA:OL (-1) A) (hB:OL (-1) B) (lA:A.length<=6) (lB:B.length<=6):∃ F:List Sp2,VR 400 t (A.map enc) (B.map enc) Tu2=some (F.map Y0,(0:Int))/\VS t (-1) F/\F.length<=12/\∀ y,0<=y->y<t->(InS y F↔FB t A B y):=by
 obtain ⟨F,g1,e,f,g⟩:=L9 a b (K:=fun w=>(some w:oP LL)) (k0:=fun _ _ _ w=>some w) (fun _ _ _ _=>rfl) 400 A B [] (-1) (-1) QnI hA hB trivial QnL;refine ⟨F,?_,e,f,fun y i j=>?_⟩
 ·unfold VR;dsimp only [jn];rw [Q48 QnI hA,Q48 QnI hB,QnP (t<1),QnP (t>7200)];simp -implicitDefEqProofs only [QoV,Q0,QoZ];unfold K6;rw [show Qp 400 t (fun l m n k=>(some k:oP LL)) 400 (A.map enc) (B.map enc) []=_ from g1,Q0]
 ·rw [g y i j];exact ⟨fun h=>h.elim (fun h=>absurd h MQ) id,.inr⟩
def DX (t:Int) (q:Sp2):Sp2:=(q.2,q.1+t-1)
theorem QbE (c:t<=7200) (d:1<=t) {K:LL->oP R} {k0:Int->Bool->LL->oP R} (hk:∀ a b w,k0 a b w=K w) {l:List Sp2} (hl:l.length<=1000):∀ (ac:List Sp2) (i m:Nat),l.drop i=ac->ac.length<m->(∀ q∈l,-1<q.1/\q.1<=t)->Zd n t (l.map Y0) (l.length:Int) k0 m (i:Int) (((l.take i).map (DX t)).map Y0)=K ((l.map (DX t)).map Y0)
 |[],i,m+1,hd,_,_=>by
  have:=VG hd;rw [Zd,show decide ((i:Int)<(l.length:Int))=false by simpa using this,QoV,hk,List.take_of_length_le this]
 |(a,b)::ac,i,m+1,hd,hm,hr=>by
  obtain ⟨e,aj,hi⟩:=ZC hd;have ha:=hr (a,b) (List.mem_of_getElem? e);rw [Zd,Qe hi,QoX,QK e];simp -implicitDefEqProofs only [Q0,QaN,Qak,Q2,Qv (show i<=1000 by omega),Q6 (x:=a+t) QnI QnI,Q6 (x:=a+t-1) QnI QnI,XF (show ((((l.take i).map (DX t)).map Y0).length+[[D.int .i64 b,D.int .i64 (a+t-1)]].length)*16<=100000 by simp;omega)];have:=QbE c d hk hl ac (i+1) m aj (by simpa using hm) hr;rw [Yt e,Qp9,Qp9] at this;exact this
theorem Qbu (c:t<=7200) (d:1<=t) {K:LL->oP R} {k0:Int->Bool->LL->oP R} (hk:∀ a b w,k0 a b w=K w) {l:List Sp2} (hl:l.length<=1000):∀ (ac:List Sp2) (i m:Nat),l.drop i=ac->ac.length<m->(∀ q∈l,-1<q.1/\q.1<=t)->Yu n t (l.length:Int) (l.map Y0) k0 m (i:Int) (((l.take i).map (DX t)).map Y0)=K ((l.map (DX t)).map Y0)
 |[],i,m+1,hd,_,_=>by
  have:=VG hd;rw [Yu,show decide ((i:Int)<(l.length:Int))=false by simp_all,QoV,hk,List.take_of_length_le this]
 |(a,b)::ac,i,m+1,hd,hm,hr=>by
  obtain ⟨e,aj,hi⟩:=ZC hd;have ha:=hr (a,b) (List.mem_of_getElem? e);have f:(l.map Y0)[i]? = some (Y0 (a,b)):=by rw [Qpc,e];rfl
  rw [Yu,Qe hi,QoX,Qp1,YX QnI QnI,QoW,f];simp -implicitDefEqProofs only [Q0,QaN,Qak,Q2,Qv (show i<=1000 by omega),Q6 (x:=a+t) QnI QnI,Q6 (x:=a+t-1) QnI QnI,XF (show ((((l.take i).map (DX t)).map Y0).length+[[D.int .i64 b,D.int .i64 (a+t-1)]].length)*16<=100000 by simp;omega)];have:=Qbu c d hk hl ac (i+1) m aj (by simpa using hm) hr;rw [Yt e,Qp9,Qp9] at this;exact this
def WR (t:Int) (F G:List Sp2):Prop:=(G=F/\∀ b M c,F≠(0,b)::(M++[(c,t)]))\/∃ b M c,F=(0,b)::(M++[(c,t)])/\G=M++[(c,t+b)]
theorem Q6b {A B:List Occ} (r:2<=t) (f:t<=7200) (hA:OL (-1) A) (hB:OL (-1) B) (lA:A.length<=6) (lB:B.length<=6):∃ F G:List Sp2,VS t (-1) F/\F.length<=12/\(∀ y,0<=y->y<t->(InS y F↔FB t A B y))/\WR t F G /\
  Wn 400 t (A.map enc) (B.map enc) Tu2=some (if cnt F=t then ([],(13:Int)) else ((G.map (DX t)).map Y0,(0:Int))):=by
 obtain ⟨F,g1,j,k,m⟩:=QgQ (t:=t) QnI f hA hB lA lB;have hr:=j.rng;suffices h:∃ G,WR t F G/\Wn 400 t (A.map enc) (B.map enc) Tu2=some (if cnt F=t then ([],(13:Int)) else ((G.map (DX t)).map Y0,(0:Int))) by
  obtain ⟨G,h⟩:=h;exact ⟨F,G,j,k,m,h⟩
 unfold Wn;rw [g1,Q0,Q8 (by rfl)];dsimp only;rw [Qgl QnI f QnI j,Q0];have ac:Yu 400 t (F.length:Int) (F.map Y0) (fun s u o=>(some (o,(0:Int)):oP (LL×Int))) 400 0 []=some ((F.map (DX t)).map Y0,(0:Int)):=Qbu f QnI (K:=fun w=>some (w,(0:Int))) (k0:=fun _ _ w=>some (w,(0:Int))) (fun _ _ _=>rfl) QnI F 0 400 rfl QnI (fun q hq=>by have:=hr q hq;omega);by_cases aj:cnt F=t
 ·simp only [Qp4 aj];rw [QP (by simpa using aj)];by_cases hw:∃ b M c,F=(0,b)::(M++[(c,t)])
  ·obtain ⟨b,M,c,e⟩:=hw;exact ⟨_,.inr ⟨b,M,c,e,rfl⟩,rfl⟩
  ·exact ⟨F,.inl ⟨rfl,fun b M c e=>hw ⟨b,M,c,e⟩⟩,rfl⟩
 simp only [Qp5 aj];rw [Q8 (by simpa using aj),Qp1];rcases F with _ | ⟨⟨a,b⟩,F⟩
 ·refine ⟨[],.inl ⟨rfl,fun b M c e=>(nomatch e)⟩,?_⟩;rw [show decide (((([]:List Sp2).length:Nat):Int)>1)=false from rfl];simp -implicitDefEqProofs only [gbF,QoV];exact ac
 rcases List.eq_nil_or_concat F with rfl | ⟨M,⟨c,d⟩,rfl⟩
 ·refine ⟨[(a,b)],.inl ⟨rfl,fun b M c e=>by have:=congrArg List.length e;simp at this⟩,?_⟩;rw [show decide ((((([(a,b)]:List Sp2)).length:Nat):Int)>1)=false from rfl];simp -implicitDefEqProofs only [gbF,QoV];exact ac
 have hM:M.length<=10:=by simp at k;omega
 have ak:((a,b)::(M++[(c,d)])).length=M.length+1+1:=by simp
 have ay:=hr (c,d) QnK;have ao:=hr (a,b) QnK;have e1:((a,b)::(M++[(c,d)])).map Y0=(Y0 (a,b)::M.map Y0)++Y0 (c,d)::[]:=by simp
 have gl:(((a,b)::(M++[(c,d)])).map Y0)[M.length+1]? = some (Y0 (c,d)):=by rw [e1];exact Qgb QnK
 have sl:∀ v,(((a,b)::(M++[(c,d)])).map Y0).set (M.length+1) (Y0 (c,v))=((a,b)::(M++[(c,v)])).map Y0:=fun v=>by rw [e1,Qgt QnK];simp
 rw [List.concat_eq_append] at *
 rw [ak,QnQ (((M.length+1+1:Nat):Int)>1),J8 (show M.length+1+1<=1000 by omega) QnI,Qp8,YX QnI QnI,YX QnI QnI];simp -implicitDefEqProofs only [Q0,QoW,gl,QoX,show (((a,b)::(M++[(c,d)])).map Y0)[Int.toNat 0]? = some (Y0 (a,b)) from rfl,QaN,Qak,Q2,Qis];by_cases an:a=0/\d=t
 ·obtain ⟨rfl,rfl⟩:=an;refine ⟨M++[(c,d+b)],.inr ⟨b,M,c,rfl,rfl⟩,?_⟩;rw [show ((0:Int) == 0)=true from rfl,show (d == d)=true by simp,QoX,QoX,Q6 (x:=d+b) QnI QnI,sl];have al:=Qie (Y0 (0,b)) ((M++[(c,d+b)]).map Y0);rw [List.map_cons,al.1,Q0,al.2,Qp1];exact QbE (n:=400) f QnI (K:=fun w=>(some (w,(0:Int)):oP (LL×Int))) (k0:=fun _ _ w=>some (w,(0:Int))) (fun _ _ _=>rfl) (l:=M++[(c,d+b)]) QnL (M++[(c,d+b)]) 0 400 rfl QnL (fun q hq=>by
   rcases Qpd.1 hq with h | h
   ·have:=hr q (.tail _ (List.mem_append_left _ h));omega
   ·obtain rfl:=Qpl.1 h;dsimp only at *
    omega)
 ·have hz:(bif (a == (0:Int)) then (d == t) else false)=false:=by
   by_cases ha:a=0
   ·rw [ha,show ((0:Int) == 0)=true from rfl,QoX];simp only [beq_eq_false_iff_ne];exact fun h=>an ⟨ha,h⟩
   ·rw [show (a == (0:Int))=false by simpa using ha,QoV]
  refine ⟨_,.inl ⟨rfl,fun b' M' c' e=>an ?_⟩,?_⟩
  ·have e2:=List.cons.inj e;have p:=List.append_inj_right' e2.2 rfl;have:=(Prod.mk.inj e2.1).1;have:=(Prod.mk.inj (List.cons.inj p).1).2;exact ⟨QnI,QnI⟩
  rw [hz,QoV];rw [ak] at ac;exact ac
end
end Go.Vx
