/- Part of a proof. No conditions of their own. -/
import Derived.Test.YtnfomkijfeokoaaGreatTE
import Derived.Test.YtnfomkijfeokoaaGreatTD
import Derived.Test.YtnfomkijfeokoaaGreatTB
import Derived.Test.YtnfomkijfeokoaaGreatTA
import Derived.Maps.OwnRows
import Derived.Maps.GroupsBeside
import Derived.WalkKit
import Derived.Test.YtnfomkijfeokoaaGreatProg
import Derived.Test.YtnfomkijfeokoaaGreatTC
set_option linter.unusedVariables false
set_option linter.unusedSimpArgs false
set_option linter.unusedSectionVars false
noncomputable section
abbrev Qpt:=@List.mem_of_getElem?
abbrev Qpu:=@List.getElem?_cons_zero
abbrev Qpv:=@List.getElem?_eq_getElem
abbrev Qpw:=@cond_false
abbrev Qpx:=@Int.toNat_natCast
abbrev Qpy:=@cond_true
abbrev Qpz:=@List.getElem?_cons_succ
abbrev QpA:=@List.getD_eq_getElem?_getD
abbrev QpB:=@List.length_map
abbrev QpC:=@List.getElem?_eq_some_iff
abbrev QpD:=@List.append_assoc
abbrev QpE:=@List.mem_cons_self
abbrev QpF:=@Nat.le_refl
abbrev QpG:=@List.mem_cons_of_mem
abbrev QpH:=@List.mem_append
abbrev QpI:=@decide_eq_false
abbrev QpJ:=@List.all_eq_true
abbrev QpK:=@List.map_append
abbrev QpL:=@List.mem_append_right
abbrev QpM:=@Bool.and_eq_true
abbrev QpN:=@List.mem_singleton
abbrev QpO:=@Int.emod_nonneg
abbrev QpP:=@List.take_length
abbrev QpQ:=@Int.emod_lt_of_pos
abbrev QpR:=@List.length_append
abbrev QpS:=@List.mem_append_left
abbrev QpT:=@List.getElem?_set_self
abbrev QpU:=@Int.le_refl
abbrev QpV:=@List.any_eq_true
abbrev QpW:=@Bool.not_true
abbrev QpX:=@List.append_nil
abbrev QpY:=@Bool.not_false
abbrev QpZ:=@decide_eq_true
abbrev Qq0:=@List.mem_map
abbrev Qq1:=@Nat.eq_of_beq_eq_true
abbrev Qq2:=@if_neg
abbrev Qq3:=@Go.Proofs.Tryz.underlying3
abbrev Qq4:=@List.getElem?_set_ne
abbrev Qq5:=@if_pos
abbrev Qq6:=@Int.emod_eq_of_lt
abbrev Qq7:=@List.getElem?_map
abbrev Qq8:=@List.mem_filter
abbrev Qq9:=@List.getElem?_append_right
abbrev Qqa:=@Nat.le_of_ble_eq_true
abbrev Qqb:=@List.getElem?_of_mem
abbrev Qqc:=@decide_eq_true_eq
abbrev Qqd:=@Nat.zero_le
abbrev Qqe:=@List.foldl_cons
abbrev Qqf:=@Bool.not_eq_true'
namespace Go.Vx
theorem T5 {α β:Type} {r:Nat->Int->β} {l:List α} {p:α->Bool} {E0 E1:β} (a:∀ m i q,l[i]? = some q->i<l.length->r (m+1) (i:Int)=bif p q then r m ((i+1:Nat):Int) else E0) (b:∀ m,r (m+1) (l.length:Int)=E1) {fuel:Nat} (hf:l.length<fuel):r fuel 0=bif l.all p then E1 else E0:=by
 have go:∀ (ac:List α) (i m:Nat),l.drop i=ac->ac.length<m->i<=l.length->r m (i:Int)=bif ac.all p then E1 else E0:=by
  intro ac;induction ac with
  |nil=>
   intro i m hd hm hi;obtain ⟨m,rfl⟩:∃ k,m=k+1:=⟨m-1,QnI⟩
   grind
  |cons q ac ih=>
   intro i m hd hm hi;obtain ⟨m,rfl⟩:∃ k,m=k+1:=⟨m-1,QnI⟩
   grind [ZC]
 exact go l 0 fuel rfl hf (Qqd _)
theorem Lq {α β S:Type} {r:Nat->Int->S->β} {l:List α} {f:S->α->S} {E:S->β} (a:∀ m i q s,l[i]? = some q->i<l.length->r (m+1) (i:Int) s=r m ((i+1:Nat):Int) (f s q)) (b:∀ m s,r (m+1) (l.length:Int) s=E s) {fuel:Nat} (hf:l.length<fuel) (s:S):r fuel 0 s=E (l.foldl f s):=by
 have go:∀ (ac:List α) (i m:Nat) (s:S),l.drop i=ac->ac.length<m->i<=l.length->r m (i:Int) s=E (ac.foldl f s):=by
  intro ac;induction ac with
  |nil=>
   intro i m s hd hm hi;obtain ⟨m,rfl⟩:∃ k,m=k+1:=⟨m-1,QnI⟩
   grind
  |cons q ac ih=>
   intro i m s hd hm hi;obtain ⟨m,rfl⟩:∃ k,m=k+1:=⟨m-1,QnI⟩;obtain ⟨e,ak,aj⟩:=ZC hd;rw [a m i q s e aj,Qqe,ih (i+1) m _ ak QnO aj]
 exact go l 0 fuel s rfl hf (Qqd _)
theorem LU {α:Type} {p:α->Bool}:∀ {l:List α} {c:Bool},l.foldl (fun c q=>c||p q) c=(c||l.any p)
 |[],c=>(Bool.or_false c).symm
 |q::l,c=>by rw [Qqe,LU,List.any_cons,Bool.or_assoc]
def Rk (t:Int) (q:Occ):Bool:=!decide (q.2.2-q.2.1>t)
theorem Qim {l:Int} {O:List Occ} (hO:OL l O) {q:Occ} (hq:q∈O):wJ (q.2.2-q.2.1)=q.2.2-q.2.1:=by
 have:=hO.mem q hq
 grind [Q6]
theorem QfF {t:Int} {O:List Occ} (a:1<=t) (b:t<=7200) (hO:OL (-1) O) (hl:O.length<=300):Hl 400 t (O.map enc) (some:Bool->oP Bool)=some (O.all (Rk t)):=by
 unfold Hl;rw [QnP (t<1),QnP (t>7200),Q48 hl hO];simp -implicitDefEqProofs only [Qpw,Q0,QpW,QpY,QpB];refine (T5 (r:=fun m i=>WP 400 t (O.map enc) (O.length:Int) (some false) (fun _ _=>some true) m i) (l:=O) (p:=Rk t) (E0:=some false) (E1:=some true) (fun m i q e hi=>?_) (fun m=>?_) QnI).trans (by cases O.all (Rk t) <;> rfl)
 ·rw [WP,Qe hi,Qpy,QK e];simp -implicitDefEqProofs only [Q0,Ni,MR,F5,Q2,Qv (show i<=1000 by omega),Qim hO (Qpt e)];unfold Rk;cases decide (q.2.2-q.2.1>t) <;> rfl
 ·rw [WP,Qj,Qpw]
def tie (la:Int) (x y:Occ):Bool:=bif x.1 == y.1 then decide (la+y.2.1<=x.2.2) else false
def Cj (per la mo:Int) (x y:Occ):Bool:=decide ((if x.2.2<mo+y.2.2 then mo+y.2.2 else x.2.2)-(if la+y.2.1<x.2.1 then la+y.2.1 else x.2.1)>per)
def Q7C (per la mo:Int) (A B:List Occ):Bool:=A.any fun x=>B.any fun y=>bif tie la x y then Cj per la mo x y else false
def Q0j (la:Int) (A B:List Occ) (r:Int):Bool:=A.any fun x=>B.any fun y=>bif tie la x y then x.1 == r else false
namespace Cx
variable {R:Type} {n:Nat} {X:Cx}
theorem QgV {per la mo:Int} {O:List Occ} (hO:OL (-1) O) (hl:O.length<=300) {x:Occ} (hx : -1000<=x.2.1/\x.2.1<x.2.2/\x.2.2<=20000) (d:0<=la) (f:la<=20000) (h2:0<=mo) (g:mo<=20000) {k0:Int->Bool->Bool->oP R} {Kc:Bool->oP R} (hk:∀ a b c,k0 a b c=Kc c) (c:Bool) :
  QH n (O.map enc) (O.length:Int) la (Q4 x.1) (Q4 x.2.1) (Q4 x.2.2) per la mo k0 400 0 c=Kc (c||O.any fun y=>bif tie la x y then Cj per la mo x y else false):=by
 rw [<- LU];refine Lq (r:=fun m i c=>QH n (O.map enc) (O.length:Int) la (Q4 x.1) (Q4 x.2.1) (Q4 x.2.2) per la mo k0 m i c) (E:=Kc) (fun m i q c e hi=>?_) (fun m c=>?_) QnI c
 ·have:=hO.mem q (Qpt e);rw [QH,Qe hi,Qpy,QK e];simp -implicitDefEqProofs only [Q0,Ni,MR,F5,Q2,Qv (show i<=1000 by omega),Q6 (x:=la+q.2.1) QnI QnI];unfold XV;simp -implicitDefEqProofs only [Q0,Q6 (x:=la+q.2.1) QnI QnI,Q6 (x:=mo+q.2.2) QnI QnI];rw [Q6 (x:=(if x.2.2<mo+q.2.2 then mo+q.2.2 else x.2.2)-(if la+q.2.1<x.2.1 then la+q.2.1 else x.2.1)) (by split <;> split <;> omega) (by split <;> split <;> omega)];show (bif tie la x q then QH n (O.map enc) (O.length:Int) la (Q4 x.1) (Q4 x.2.1) (Q4 x.2.2) per la mo k0 m ((i+1:Nat):Int) (bif c then true else Cj per la mo x q) else _)=_;cases tie la x q <;> cases c <;> rfl
 ·rw [QH,Qj,Qpw,hk]
theorem map1 {la:Int} {O:List Occ} (hO:OL (-1) O) (hl:O.length<=300) {x:Occ} (d:0<=la) (f:la<=20000) {k0:Int->Bool->(Int->Bool)->oP R} {Kc:(Int->Bool)->oP R} (hk:∀ a b c,k0 a b c=Kc c) (c:Int->Bool) :
  QW n (O.map enc) (O.length:Int) la (Q4 x.1) (Q4 x.2.1) (Q4 x.2.2) k0 400 0 c=Kc (O.foldl (fun c y=>bif tie la x y then Q6I c x.1 true else c) c):=by
 refine Lq (r:=fun m i c=>QW n (O.map enc) (O.length:Int) la (Q4 x.1) (Q4 x.2.1) (Q4 x.2.2) k0 m i c) (E:=Kc) (fun m i q c e hi=>?_) (fun m c=>?_) QnI c
 ·have:=hO.mem q (Qpt e);rw [QW,Qe hi,Qpy,QK e];simp -implicitDefEqProofs only [Q0,Ni,MR,F5,Q2,Qv (show i<=1000 by omega),Q6 (x:=la+q.2.1) QnI QnI];unfold Xn;simp -implicitDefEqProofs only [Q0];show (bif tie la x q then _ else _)=_;cases tie la x q <;> rfl
 ·rw [QW,Qj,Qpw,hk]
theorem Qf6 {q:Int->Bool} {x r:Int}:Q6I q x true r=(q r||(x == r)):=by
 grind [Q6I]
theorem Qfh {la:Int} {x:Occ} {r:Int}:∀ {O:List Occ} {c:Int->Bool},O.foldl (fun c y=>bif tie la x y then Q6I c x.1 true else c) c r=(c r||O.any fun y=>bif tie la x y then x.1 == r else false)
 |[],c=>(Bool.or_false _).symm
 |y::O,c=>by
  rw [Qqe,Qfh,List.any_cons];cases tie la x y
  ·rfl
  ·rw [Qpy,Qpy,Qf6,Bool.or_assoc]
def occN (X:Cx) (a:Nat):List Occ:=(X.occs X.L).getD a []
def N (X:Cx):Nat:=base X.nr X.L
variable (h:X.OK)
include h
theorem VY {a:Nat} (ha:a<X.N):Q1 (Gm (X.occs X.L)) (a:Int)=some [D.sl 3 ((X.occN a).map enc)]/\OL (-1) (X.occN a)/\(X.occN a).length<=6:=by
 obtain ⟨i,k,b,h2,rfl⟩:=Q6c ha;have e:X.occN (base X.nr i+k)=X.occ i k:=by
  unfold occN;rw [QpA,show (X.occs X.L)[base X.nr i+k]? = some (X.occ i k) from FO h2 b];rfl
 rw [e];exact ⟨Qfi b h2,occ_ok h b h2⟩
theorem Qdh:X.jns.length<=30:=by
 have:=QdI h (i:=X.L) (QpF _);have:=h.tl
 grind [jns,List.length_append,List.length_map]
structure JOK (X:Cx) (J:List Tup):Prop where
 at':∀ t∈J,t.1<X.N/\t.2.1<X.N/\0<=t.2.2.1/\t.2.2.1<=20000/\0<=t.2.2.2/\t.2.2.2<=20000
 len:J.length<=30
theorem QhI {J:List Tup} (hJ:X.JOK J) {per:Int} {t:Tup} (ht:t∈J) (K:Bool->oP R):ZD 400 per (Gm (X.occs X.L)) (t.1:Int) (t.2.1:Int) t.2.2.1 t.2.2.1 t.2.2.2 false K=K (Q7C per t.2.2.1 t.2.2.2 (X.occN t.1) (X.occN t.2.1)):=by
 have hj:=hJ.at' t ht;have oa:=VY h hj.1;have ob:=VY h hj.2.1;unfold ZD Q7C;rw [oa.1];simp -implicitDefEqProofs only [Q0,Qpu,QJ,QpB];rw [<- Bool.false_or (List.any _ _),<- LU];refine Lq (r:=fun m i c=>Xe 400 ((X.occN t.1).map enc) (((X.occN t.1).length:Nat):Int) (t.2.1:Int) t.2.2.1 per (Gm (X.occs X.L)) t.2.2.1 t.2.2.2 (fun b d a=>K a) m i c) (E:=K) (fun m i q c e hi=>?_) (fun m c=>?_) QnI false
 ·have hq:=oa.2.1.mem q (Qpt e);rw [Xe,Qe hi,Qpy,QK e,ob.1];simp -implicitDefEqProofs only [Q0,Ni,MR,F5,Qpu,QJ,QpB,Qv (show i<=1000 by omega)];exact QgV (per:=per) ob.2.1 QnI ⟨hq.2.1,hq.2.2.1,hq.2.2.2.1⟩ hj.2.2.1 hj.2.2.2.1 hj.2.2.2.2.1 hj.2.2.2.2.2 (Kc:=fun c=>Xe 400 ((X.occN t.1).map enc) (((X.occN t.1).length:Nat):Int) (t.2.1:Int) t.2.2.1 per (Gm (X.occs X.L)) t.2.2.1 t.2.2.2 (fun b d a=>K a) m ((i+1:Nat):Int) c) (fun _ _ _=>rfl) c
 ·rw [Xe,Qj,Qpw]
theorem Qj3 {J:List Tup} (hJ:X.JOK J) {t:Tup} (ht:t∈J) (q:Int->Bool):∃ q',(∀ K:(Int->Bool)->oP R,ZE 400 (Gm (X.occs X.L)) (t.1:Int) (t.2.1:Int) t.2.2.1 q K=K q')/\∀ r,q' r=(q r||Q0j t.2.2.1 (X.occN t.1) (X.occN t.2.1) r):=by
 have hj:=hJ.at' t ht;have oa:=VY h hj.1;have ob:=VY h hj.2.1;refine ⟨(X.occN t.1).foldl (fun q x=>(X.occN t.2.1).foldl (fun c y=>bif tie t.2.2.1 x y then Q6I c x.1 true else c) q) q,fun K=>?_,fun r=>?_⟩
 ·unfold ZE;rw [oa.1];simp -implicitDefEqProofs only [Q0,Qpu,QJ,QpB];refine Lq (r:=fun m i c=>Xf 400 ((X.occN t.1).map enc) (((X.occN t.1).length:Nat):Int) (t.2.1:Int) t.2.2.1 (Gm (X.occs X.L)) (fun b d a=>K a) m i c) (E:=K) (fun m i q c e hi=>?_) (fun m c=>?_) QnI q
  ·rw [Xf,Qe hi,Qpy,QK e,ob.1];simp -implicitDefEqProofs only [Q0,Ni,MR,F5,Qpu,QJ,QpB,Qv (show i<=1000 by omega)];exact map1 ob.2.1 QnI hj.2.2.1 hj.2.2.2.1 (Kc:=fun c=>Xf 400 ((X.occN t.1).map enc) (((X.occN t.1).length:Nat):Int) (t.2.1:Int) t.2.2.1 (Gm (X.occs X.L)) (fun b d a=>K a) m ((i+1:Nat):Int) c) (fun _ _ _=>rfl) c
  ·rw [Xf,Qj,Qpw]
 ·unfold Q0j;generalize X.occN t.1=A;induction A generalizing q with
  |nil=>exact (Bool.or_false _).symm
  |cons x A ih=>rw [Qqe,ih,Qfh,List.any_cons,Bool.or_assoc]
def jab (a b:Nat) (t:Tup):Bool:=bif (bif (t.1:Int) == (a:Int) then (t.2.1:Int) == (b:Int) else false) then true else bif (t.1:Int) == (b:Int) then (t.2.1:Int) == (a:Int) else false
def TRb (X:Cx) (J:List Tup) (a b:Nat) (r:Int):Bool:=J.any fun t=>bif jab a b t then Q0j t.2.2.1 (X.occN t.1) (X.occN t.2.1) r else false
theorem QhN {J:List Tup} (hJ:X.JOK J) {a b:Nat}:∃ q,(XO 400 (Gm (X.occs X.L)) (J.map tuR) (a:Int) (b:Int) some:oP (Int->Bool))=some q/\∀ r,q r=X.TRb J a b r:=by
 have hl:=hJ.len;unfold XO;rw [QpB];have go:∀ (ac:List Tup) (i m:Nat) (q:Int->Bool),J.drop i=ac->ac.length<m->∃ q',(Qt 400 (a:Int) (b:Int) (J.map tuR) (J.length:Int) (Gm (X.occs X.L)) (fun n o j=>some j) m (i:Int) q:oP (Int->Bool))=some q'/\∀ r,q' r=(q r||X.TRb ac a b r):=by
  intro ac;induction ac with
  |nil=>
   intro i m q hd hm;obtain ⟨m,rfl⟩:∃ k,m=k+1:=⟨m-1,by simp at hm;omega⟩;have:=VG hd;exact ⟨q,by rw [Qt,show decide ((i:Int)<(J.length:Int))=false by simpa using this,Qpw],fun r=>(Bool.or_false _).symm⟩
  |cons t ac ih=>
   intro i m q hd hm;obtain ⟨m,rfl⟩:∃ k,m=k+1:=⟨m-1,by simp at hm;omega⟩;obtain ⟨e,ak,hi⟩:=ZC hd;obtain ⟨l,c,h2⟩:=Qj3 (R:=Int->Bool) h hJ (Qpt e) q;rw [Qt,Qe hi,Qpy,QK e];simp -implicitDefEqProofs only [Q0,tuR,Qpu,Qpz,Q2,Qv (show i<=1000 by omega),c];show ∃ q',(bif jab a b t then _ else _)=some q'/\_;cases aj:jab a b t with
   |false=>
    obtain ⟨d,f,g⟩:=ih (i+1) m q ak (by simpa using hm);refine ⟨d,f,fun r=>?_⟩;rw [g,TRb,TRb,List.any_cons,aj,Qpw,Bool.false_or]
   |true=>
    obtain ⟨d,f,g⟩:=ih (i+1) m l ak (by simpa using hm);refine ⟨d,f,fun r=>?_⟩;rw [g,h2,TRb,TRb,List.any_cons,aj,Qpy,Bool.or_assoc]
 obtain ⟨q,c,h2⟩:=go J 0 400 (fun _=>false) rfl QnI;exact ⟨q,c,fun r=>by rw [h2,Bool.false_or]⟩
theorem Q9x:∀ o∈X.occs X.L,OL (-1) o/\o.length<=6:=by
 intro o ho;obtain ⟨a,ha⟩:=Qqb ho;have ac:=(QpC.1 ha).1;rw [show (X.occs X.L).length=X.N from Zg] at ac;obtain ⟨b,h2⟩:=(VY h ac).2
 simp_all [occN,QpA]
def aloneJ (X:Cx) (per:Int) (J:List Tup):Bool:=bif (X.occs X.L).all (fun o=>o.all (Rk per)) then J.all fun t=>!Q7C per t.2.2.1 t.2.2.2 (X.occN t.1) (X.occN t.2.1) else false
theorem Qeu {per:Int} (p0:1<=per) (p1:per<=300) {J:List Tup} (hJ:X.JOK J) (K:Bool->oP R):Zo 400 per (Gm (X.occs X.L)) (J.map tuR) K=K (X.aloneJ per J):=by
 have hN:(X.occs X.L).length<=6:=by rw [show (X.occs X.L).length=base X.nr X.L from Zg];exact base_le h
 have hl:=hJ.len;have hO:=Q9x h;unfold Zo;rw [VM,QpB];refine (T5 (r:=fun m i=>Xs 400 (Gm (X.occs X.L)) (((X.occs X.L).length:Nat):Int) per (K false) (fun c d=>X6 400 (J.map tuR) (J.length:Int) per (Gm (X.occs X.L)) (K false) (fun a b=>K true) 400 0) m i) (l:=X.occs X.L) (p:=fun o=>o.all (Rk per)) (E0:=K false) (E1:=bif J.all (fun t=>!Q7C per t.2.2.1 t.2.2.2 (X.occN t.1) (X.occN t.2.1)) then K true else K false) (fun m i o e hi=>?_) (fun m=>?_) QnI).trans ?_
 ·have ho:=hO o (Qpt e);have ac:Q1 (Gm (X.occs X.L)) (i:Int)=some [D.sl 3 (o.map enc)]:=QK e;rw [Xs,Qe hi,Qpy,ac];simp -implicitDefEqProofs only [Q0,Qpu,QJ,QfF p0 (show per<=7200 by omega) ho.1 (show o.length<=300 by omega),Qv (show i<=1000 by omega)];cases o.all (Rk per) <;> rfl
 ·rw [Xs,Qj,Qpw];refine T5 (r:=fun m i=>X6 400 (J.map tuR) (J.length:Int) per (Gm (X.occs X.L)) (K false) (fun a b=>K true) m i) (fun m i t e hi=>?_) (fun m=>?_) QnI
  ·rw [X6,Qe hi,Qpy,QK e];simp -implicitDefEqProofs only [Q0,tuR,Qpu,Qpz,Q2,Qv (show i<=1000 by omega),QhI h hJ (Qpt e)];cases Q7C per t.2.2.1 t.2.2.2 (X.occN t.1) (X.occN t.2.1) <;> rfl
  ·rw [X6,Qj,Qpw]
 ·unfold aloneJ;cases (X.occs X.L).all (fun o=>o.all (Rk per)) <;> cases J.all (fun t=>!Q7C per t.2.2.1 t.2.2.2 (X.occN t.1) (X.occN t.2.1)) <;> rfl
end Cx
namespace Cx
def aR (X:Cx) (i k:Nat):List D:=[Q4 1,Q4 ((2*(base X.nr i+k):Nat):Int),Q4 ((2*(base X.nr i+k)+1:Nat):Int),Q4 (X.run i k),Q4 (X.run i k+X.ex i k),Q4 (X.w i)]
def aD (X:Cx) (i k:Nat):List D:=[Q4 2,Q4 ((2*(base X.nr i+k)+1:Nat):Int),Q4 ((2*(base X.nr i+k+1):Nat):Int),Q4 (X.mn i k),Q4 (X.mx i k),Q4 (X.w i)]
def pl (X:Cx) (i:Nat):Nat->LL
 |0=>[]
 |k+1=>pl X i k++[X.aR i k]++(if k<X.nr i-1 then [X.aD i k] else [])
def pls (X:Cx):Nat->LL
 |0=>[]
 |i+1=>pls X i++X.pl i (X.nr i)
def chE (X:Cx) (row:List D):List D:=match row with
 |[.int _ f,.int _ fr,.int _ t,.int _ tr,mn,mx,w]=>[Q4 3,Q4 ((2*(base X.nr f.toNat+fr.toNat)+1:Nat):Int),Q4 ((2*(base X.nr t.toNat+tr.toNat):Nat):Int),mn,mx,w]
 |_=>[]
def tuE (X:Cx) (t:Tup):List D:=[Q4 4,Q4 ((2*(base X.nr t.1+(X.nr t.1-1))+1:Nat):Int),Q4 ((2*(base X.nr t.2.1+0):Nat):Int),Q4 t.2.2.1,Q4 t.2.2.2,Q4 1]
def syE (X:Cx) (row:List D):List D:=match row with
 |[_,_,_,_,o]=>[Q4 5,Q4 ((2*(base X.nr 0+0):Nat):Int),Q4 ((2*(base X.nr 1+0):Nat):Int),o,o,Q4 0]
 |_=>[]
def planned (X:Cx) (Ch Sy:LL):LL:=X.pls X.L++Ch.map X.chE++X.T.map X.tuE++Sy.map X.syE
variable {R:Type} {n:Nat} {X:Cx}
theorem Q6E {i:Nat}:∀ {k:Nat},(X.pl i k).length<=2*k
 |0=>QpF _
 |k+1=>by
  have:=Q6E (i:=i) (k:=k);rw [pl,QpR,QpR];split <;> simp <;> omega
theorem BJ:∀ {i:Nat},(X.pls i).length<=2*base X.nr i
 |0=>QpF _
 |i+1=>by
  have:=BJ (i:=i);have:=Q6E (X:=X) (i:=i) (k:=X.nr i);rw [pls,QpR,base];omega
structure LsOK (X:Cx) (per:Int) (Ch Sy:LL):Prop where
 ch:∀ row∈Ch,∃ (f fr t tr:Nat) (mn mx w:Int),row=[Q4 f,Q4 fr,Q4 t,Q4 tr,Q4 mn,Q4 mx,Q4 w]/\f<X.Ls.length/\fr<X.nr f/\t<X.Ls.length/\tr<X.nr t/\(0<=mn/\mn<20/\mn<=mx/\mx<mn+per)/\0<=w/\w<3
 chl:Ch.length<=2
 sy:∀ row∈Sy,∃ o:Int,row=[Q4 0,Q4 0,Q4 1,Q4 0,Q4 o]/\0<=o/\o<per/\2<=X.Ls.length
 syl:Sy.length<=1
variable (h:X.OK) {per:Int} {Ch Sy De:LL} (hl:X.LsOK per Ch Sy)
theorem Qe2 {A:LL} (hA:A.length<=1000) {a1 a2 a b c d:Int} (K:LL->oP R):X8 n A a1 a2 a b c d K=K (A++[[Q4 a1,Q4 a2,Q4 a,Q4 b,Q4 c,Q4 d]]):=by
 grind [X8,XF,Q0]
include h
theorem Qh4 {i:Nat} (hi:i<X.Ls.length) {k0:Int->Bool->LL->oP R}:Qr 400 (i:Int) (GT X.Ls i) ((X.nr i:Nat):Int) (Q4 (X.w i)) (D.sl 4 (GT X.Ls i)) (X.fst X.L) (encI (X.runs X.L)) k0 400 0 (X.pls i)=k0 ((X.nr i:Nat):Int) false (X.pls i++X.pl i (X.nr i)):=by
 have hn:=(K7 h hi).2.1;have hb:=Y8 h (i:=i) QnI;have hp:=BJ (X:=X) (i:=i);have hw:wJ (((List.length (GT X.Ls i):Nat):Int)-1)=((X.nr i-1:Nat):Int):=J8 (k:=X.nr i) QnI QnI;refine Qs (r:=fun m k=>Qr 400 (i:Int) (GT X.Ls i) ((X.nr i:Nat):Int) (Q4 (X.w i)) (D.sl 4 (GT X.Ls i)) (X.fst X.L) (encI (X.runs X.L)) k0 m k (X.pls i++X.pl i k.toNat)) (N:=X.nr i) (fun m k hk=>?_) (fun m=>?_) (X.nr i) 400 0 QnI QnI |> Eq.trans (by simp [pl])
 ·simp only [Qpx];have r:=rd h hi hk;have b:=r.ex0;have e1:=r.ex1;have hr:=P2 h hi hk;have ac:Q1 (GT X.Ls i) (k:Int)=some [Q4 (rF X.Ls i k 0),Q4 (X.ex i k),Q4 (X.mn i k),Q4 (X.mx i k)]:=by rw [Qd,r.row]
  have ak:=Q6E (X:=X) (i:=i) (k:=k);have aj:=Q5E (X:=X) hi hk;rw [Qr,Qe hk,Qpy,ac];simp -implicitDefEqProofs only [Q0,Qpu,Qpz,Q2,QJ,hw,Q03 (n:=400) h hi (show k<=10 by omega),aj,Qv (show k<=1000 by omega),Qc2 (n:=400) (show base X.nr i+k<=1000 by omega),Qh1 (n:=400) (show base X.nr i+k<=1000 by omega),Qv (show base X.nr i+k<=1000 by omega),Qc2 (n:=400) (show base X.nr i+k+1<=1000 by omega),Q6 (x:=X.run i k+X.ex i k) QnI QnI,Qe2 (n:=400) (A:=X.pls i++X.pl i k) QnL,Qe2 (n:=400) (A:=X.pls i++X.pl i k++[[Q4 1,Q4 ((2*(base X.nr i+k):Nat):Int),Q4 ((2*(base X.nr i+k)+1:Nat):Int),Q4 (X.run i k),Q4 (X.run i k+X.ex i k),Q4 (X.w i)]]) QnL];by_cases a:k<X.nr i-1
  ·rw [Qe a,Qpy,pl,Qq5 a,<- QpD,<- QpD];rfl
  ·rw [QnP ((k:Int)<((X.nr i-1:Nat):Int)),Qpw,pl,Qq2 a,QpX,<- QpD];rfl
 ·simp only [Qpx];rw [Qr,Qj,Qpw]
include hl
theorem Qap (K:LL->oP R):Ye 400 X.Ls Ch (X.T.map tuR) Sy (X.fst X.L) (encI (X.runs X.L)) [] K=K (X.planned Ch Sy):=by
 have l1:=h.l1;have tl:=h.tl;have hp:=BJ (X:=X) (i:=X.L);have hb:=base_le h;have chl:=hl.chl;have syl:=hl.syl;unfold Ye;have s2:∀ k0:Int->Bool->LL->oP R,QD 400 X.Ls (X.Ls.length:Int) (X.fst X.L) (encI (X.runs X.L)) k0 400 0 []=k0 (X.Ls.length:Int) false (X.pls X.L):=by
  intro k0;refine Qs (r:=fun m i=>QD 400 X.Ls (X.Ls.length:Int) (X.fst X.L) (encI (X.runs X.L)) k0 m i (X.pls i.toNat)) (N:=X.Ls.length) (fun m i hi=>?_) (fun m=>?_) X.Ls.length 400 0 QnI QnI
  ·simp only [Qpx];rw [QD,Qe hi,Qpy,Qd,(K7 h hi).1];simp -implicitDefEqProofs only [Q0,Qpu,Qpz,QJ,Qv (show i<=1000 by omega)];exact Qh4 h hi
  ·simp only [Qpx];rw [QD,Qj,Qpw];rfl
 have k:∀ k0:Int->Bool->LL->oP R,QF 400 Ch (Ch.length:Int) (X.fst X.L) k0 400 0 (X.pls X.L)=k0 (Ch.length:Int) false (X.pls X.L++Ch.map X.chE):=by
  intro k0;refine Qs (r:=fun m j=>QF 400 Ch (Ch.length:Int) (X.fst X.L) k0 m j (X.pls X.L++(Ch.take j.toNat).map X.chE)) (N:=Ch.length) (fun m j hj=>?_) (fun m=>?_) Ch.length 400 0 QnI QnI |> Eq.trans QnK
  ·simp only [Qpx];obtain ⟨row,e⟩:∃ q,Ch[j]? = some q:=⟨Ch[j],Qpv hj⟩;obtain ⟨f,fr,t,tr,mn,mx,w,rfl,g1,l,c,v,x,y⟩:=hl.ch row (Qpt e);have nf:=(K7 h g1).2.1;have nt:=(K7 h c).2.1;have bf:=Y8 h (i:=f) QnI;have bt:=Y8 h (i:=t) QnI;rw [QF,Qe hj,Qpy,Qd,e,Yt e,QpK,<- QpD];simp -implicitDefEqProofs only [Q0,Qpu,Qpz,Q2,Q03 (n:=400) h g1 (show fr<=10 by omega),Q03 (n:=400) h c (show tr<=10 by omega),Qv (show j<=1000 by omega),Qh1 (n:=400) (show base X.nr f+fr<=1000 by omega),Qc2 (n:=400) (show base X.nr t+tr<=1000 by omega),Qe2 (n:=400) (A:=X.pls X.L++(Ch.take j).map X.chE) QnL];rfl
  ·simp only [Qpx];rw [QF,Qj,Qpw,QpP]
 have p:∀ k0:Int->Bool->LL->oP R,QE 400 (X.T.map tuR) (X.T.length:Int) (X.fst X.L) X.Ls k0 400 0 (X.pls X.L++Ch.map X.chE)=k0 (X.T.length:Int) false (X.pls X.L++Ch.map X.chE++X.T.map X.tuE):=by
  intro k0;refine Qs (r:=fun m j=>QE 400 (X.T.map tuR) (X.T.length:Int) (X.fst X.L) X.Ls k0 m j (X.pls X.L++Ch.map X.chE++(X.T.take j.toNat).map X.tuE)) (N:=X.T.length) (fun m j hj=>?_) (fun m=>?_) X.T.length 400 0 QnI QnI |> Eq.trans QnK
  ·simp only [Qpx];obtain ⟨⟨a,b,lo,hi⟩,e⟩:∃ q,X.T[j]? = some q:=⟨X.T[j],Qpv hj⟩;have ht:=h.tr _ (Qpt e);have g1:a<X.Ls.length:=ht.1;have c:b<X.Ls.length:=ht.2.1;have nf:=(K7 h g1).2.1;have bf:=Y8 h (i:=a) QnI;have bt:=Y8 h (i:=b) QnI;have ac:Q1 (X.T.map tuR) (j:Int)=some [Q4 a,Q4 b,Q4 lo,Q4 hi]:=QK e;have s:X.pls X.L++Ch.map X.chE++(X.T.take (j+1)).map X.tuE=X.pls X.L++Ch.map X.chE++(X.T.take j).map X.tuE++[X.tuE (a,b,lo,hi)]:=by rw [Yt e,QpK,<- QpD];rfl
   have d:=Q03 (R:=Int) (n:=400) h c (Qqd 10) some;rw [show ((0:Nat):Int)=0 from rfl] at d;rw [QE,Qe hj,Qpy,ac,s];simp -implicitDefEqProofs only [Q0,Qpu,Qpz,Q2,QeN (n:=400) h g1,d,Qv (show j<=1000 by omega),Qh1 (n:=400) (show base X.nr a+(X.nr a-1)<=1000 by omega),Qc2 (n:=400) (show base X.nr b+0<=1000 by omega),Qe2 (n:=400) (A:=X.pls X.L++Ch.map X.chE++(X.T.take j).map X.tuE) QnL];rfl
  ·simp only [Qpx];rw [QE,Qj,Qpw,QpP]
 have u:∀ k0:Int->Bool->LL->oP R,QG 400 Sy (Sy.length:Int) (X.fst X.L) k0 400 0 (X.pls X.L++Ch.map X.chE++X.T.map X.tuE)=k0 (Sy.length:Int) false (X.planned Ch Sy):=by
  intro k0;refine Qs (r:=fun m j=>QG 400 Sy (Sy.length:Int) (X.fst X.L) k0 m j (X.pls X.L++Ch.map X.chE++X.T.map X.tuE++(Sy.take j.toNat).map X.syE)) (N:=Sy.length) (fun m j hj=>?_) (fun m=>?_) Sy.length 400 0 QnI QnI |> Eq.trans QnK
  ·simp only [Qpx];obtain ⟨row,e⟩:∃ q,Sy[j]? = some q:=⟨Sy[j],Qpv hj⟩;obtain ⟨o,rfl,g1,l,c⟩:=hl.sy row (Qpt e);have bt:=Y8 h (i:=1) QnI;have d:=Q03 (R:=Int) (n:=400) h (show 0<X.Ls.length by omega) (Qqd 10) some;have g:=Q03 (R:=Int) (n:=400) h (show 1<X.Ls.length by omega) (Qqd 10) some;simp only [show ((0:Nat):Int)=0 from rfl,show ((1:Nat):Int)=1 from rfl] at d g;rw [QG,Qe hj,Qpy,Qd,e,Yt e,QpK,<- QpD];simp -implicitDefEqProofs only [Q0,Qpu,Qpz,Q2,d,g,Qv (show j<=1000 by omega),Qc2 (n:=400) (show base X.nr 0+0<=1000 by simp [base]),Qc2 (n:=400) (show base X.nr 1+0<=1000 by omega),Qe2 (n:=400) (A:=X.pls X.L++Ch.map X.chE++X.T.map X.tuE++(Sy.take j).map X.syE) QnL];rfl
  ·simp only [Qpx];rw [QG,Qj,Qpw,QpP];rfl
 rw [s2,k,QpB,p,u]
end Cx
theorem OL.uniq:∀ {l:Int} {O:List Occ},OL l O->∀ {p q:Occ},p∈O->q∈O->p.1=q.1->p=q
 |_,[],_,_,_,h,_,_=>nomatch h
 |l,(x,a,b)::r,⟨d,h2,f,g,i,c⟩,p,q,hp,hq,e=>by
  cases hp with
  |head=>
   cases hq with
   |head=>rfl
   |tail _ hq=>have:=(c.mem q hq).1;dsimp only at e;omega
  |tail _ hp=>
   cases hq with
   |head=>have:=(c.mem p hp).1;dsimp only at e;omega
   |tail _ hq=>exact c.uniq hp hq e
theorem Qc7 {t:Int} {A A' B:List Occ} {y:Int}:FB t (A++A') B y↔FB t A B y\/FB t A' B y:=by
 constructor
 ·rintro ⟨x,a,b,c,d,e,h2,f⟩;rcases QpH.1 e with e | e
  ·exact .inl ⟨x,a,b,c,d,e,h2,f⟩
  ·exact .inr ⟨x,a,b,c,d,e,h2,f⟩
 ·rintro (⟨x,a,b,c,d,e,h2,f⟩ | ⟨x,a,b,c,d,e,h2,f⟩)
  ·exact ⟨x,a,b,c,d,QpS _ e,h2,f⟩
  ·exact ⟨x,a,b,c,d,QpL _ e,h2,f⟩
def Fw (f:Nat->Bool) (n:Nat):LL:=(List.range n).map fun i=>[D.bool (f i)]
theorem Q6i {f:Nat->Bool} {n:Nat}:(Fw f n).length=n:=by simp [Fw]
theorem Eu {f:Nat->Bool} {n i:Nat} (h:i<n):(Fw f n)[i]? = some [D.bool (f i)]:=by simp [Fw,h]
theorem QaG {f g:Nat->Bool} {n i:Nat} (h:∀ y,y<n->g y=if y=i then true else f y):(Fw f n).set i [D.bool true]=Fw g n:=by
 apply List.ext_getElem?;intro j
 grind [Eu,List.getElem?_eq_none,Q6i]
section
variable {R:Type} {n:Nat} {t:Int}
theorem Q5x {O:List Occ} (hl:O.length<=1000) {k0:oP R} {k1:Int->Bool->oP R} {E:oP R} (hk:∀ b c,k1 b c=E):∀ (ac:List Occ) (i m:Nat) (last:Int),O.drop i=ac->ac.length<m -> -1<=last->OL last ac->(0<i->∃ a b,O[i-1]? = some (last,a,b))->YK n (O.map enc) k0 k1 m (i:Int)=E
 |[],i,m+1,last,hd,_,_,_,_=>by
  have:=VG hd;rw [YK,QpB,show decide ((i:Int)<(O.length:Int))=false by simpa using this,Qpw,hk]
 |(x,a,b)::ac,i,m+1,last,hd,hm,al,⟨g,h2,h,j,k,d⟩,hp=>by
  obtain ⟨e,aj,hi⟩:=ZC hd;have ih:=Q5x (k0:=k0) hl hk ac (i+1) m x aj (by simpa using hm) QnI d (fun _=>⟨a,b,e⟩);rw [YK,QpB,Qe hi,Qpy,QK e];simp -implicitDefEqProofs only [Q0,Ni,MR,F5,Q2,QnP (x<0),QpY,Bool.true_and,Qpw,Qv (show i<=1000 by omega)];have rest:∀ z:Bool,z=false->(bif bif bif bif z then true else decide (a<(-65536:Int)) then true else decide (b>(65536:Int)) then true else decide (a>=b) then k0 else YK n (O.map enc) k0 k1 m ((i+1:Nat):Int))=E:=fun z hz=>by
   rw [hz,QnP (a < -65536),QnP (b>65536),QnP (a>=b)];exact ih
  by_cases f:i=0
  ·subst f;simp -implicitDefEqProofs only [show decide (((0:Nat):Int)>0)=false from rfl,gbF,Qpw];exact rest false rfl
  ·obtain ⟨a',b',e'⟩:=hp QnI;rw [J8 (show i<=1000 by omega) QnI,QK e'];simp -implicitDefEqProofs only [Q0,Ni,Q2,QnQ ((i:Int)>0),Qpy];exact rest _ (QpI QnI)
theorem Q91 {O:List Occ} (hl:O.length<=300) (h:OL (-1) O):Jj 400 (O.map enc) (some:Bool->oP Bool)=some true:=by
 exact Q5x QnI (fun _ _=>rfl) O 0 400 (-1) rfl QnI QnI h (fun h=>by omega)
theorem Q8o {O:List Occ} (hl:O.length<=1000) {x:Int} {K:D->D->D->Bool->oP R} {k0:D->D->D->oP R} {k1:Int->Bool->oP R} (g:∀ a b c,k0 a b c=K a b c true) (h:∀ a b,k1 a b=K (Q4 0) (Q4 0) (Q4 0) false):∀ (ac:List Occ) (i m:Nat),O.drop i=ac->ac.length<m->(∃ c d,(x,c,d)∈ac/\U5 n (O.map enc) x k0 k1 m (i:Int)=K (Q4 x) (Q4 c) (Q4 d) true)\/((∀ p∈ac,p.1≠x)/\U5 n (O.map enc) x k0 k1 m (i:Int)=K (Q4 0) (Q4 0) (Q4 0) false)
 |[],i,m+1,hd,_=>by
  have:=VG hd;refine .inr ⟨fun p hp=>(nomatch hp),?_⟩;rw [U5,QpB,show decide ((i:Int)<(O.length:Int))=false by simpa using this,Qpw,h]
 |(x',a,b)::ac,i,m+1,hd,hm=>by
  obtain ⟨e,aj,hi⟩:=ZC hd;rw [U5,QpB,Qe hi,Qpy,QK e];simp -implicitDefEqProofs only [Q0,Ni,MR,F5,Q2,Qv (show i<=1000 by omega),g];by_cases hx:x'=x
  ·subst hx;exact .inl ⟨a,b,.head _,by rw [show (x' == x')=true by simp,Qpy]⟩
  ·rw [show (x' == x)=false by simpa using hx,Qpw];rcases Q8o hl g h ac (i+1) m aj (by simpa using hm) with ⟨c,d,f,h2⟩ | ⟨f,h2⟩
   ·exact .inl ⟨c,d,.tail _ f,h2⟩
   ·refine .inr ⟨fun p hp=>?_,h2⟩;cases hp with
    |head=>exact hx
    |tail _ hp=>exact f p hp
theorem Qfg {f k y:Int} (a:1<=t) (hy:0<=y) (ac:y<t) (hk:0<=k) (aj:k<t):y=(f+k) % t↔(y-f) % t=k:=by
 constructor
 ·intro h;rw [h,Int.sub_emod,Int.emod_emod,<- Int.sub_emod,show f+k-f=k by omega];exact Qq6 hk aj
 ·intro h;rw [<- h,Int.add_emod,Int.emod_emod,<- Int.add_emod,show f+(y-f)=y by omega];exact (Qq6 hy ac).symm
theorem QdO (c:1<=t) (o:t<=300) {K:LL->oP R} {k0:Int->Bool->LL->oP R} (hk:∀ a b w,k0 a b w=K w) {A:List Occ} {i:Nat} {x a b d nn:Int} (e:A[i]? = some (x,a,b)) (ha : -1000<=a) (aq:a<=20000) (hd : -1000<=d) (ao:d<=20000) {f:Nat->Bool} :
  ∃ g:Nat->Bool,YU n t (A.map enc) (i:Int) nn (Q4 d) k0 400 0 (Fw f t.toNat)=K (Fw g t.toNat)/\∀ y,y<t.toNat->(g y=true↔f y=true\/((y:Int)-(a-d+1)) % t<nn):=by
 let N:Nat:=(if nn<t then nn else t).toNat;have hN:(N:Int)=if nn<0 then 0 else if nn<t then nn else t:=by
  show (((if nn<t then nn else t).toNat:Nat):Int)=_;split <;> split <;> omega
 have aj:(N:Int)<=t:=by rw [hN];split <;> (try split) <;> omega
 have an:(N:Int)<=nn\/N=0:=by
  by_cases h:nn<0
  ·rw [Qq5 h] at hN;right;omega
  ·rw [Qq2 h] at hN;left;rw [hN];split <;> omega
 refine ⟨fun y=>f y||decide (((y:Int)-(a-d+1)) % t<(N:Int)),?_,fun y hy=>?_⟩
 ·have j:Fw f t.toNat=Fw (fun y=>f y||decide (((y:Int)-(a-d+1)) % t<((0:Nat):Int))) t.toNat:=by
   unfold Fw;apply List.map_congr_left;intro y _;have:=QpO ((y:Int)-(a-d+1)) (show t≠0 by omega);show [D.bool (f y)]=[D.bool (f y||decide (((y:Int)-(a-d+1)) % t<((0:Nat):Int)))];rw [QnP (((y:Int)-(a-d+1)) % t<((0:Nat):Int)),Bool.or_false]
  rw [j];refine Qs (r:=fun m k=>YU n t (A.map enc) (i:Int) nn (Q4 d) k0 m k (Fw (fun y=>f y||decide (((y:Int)-(a-d+1)) % t<k)) t.toNat)) (N:=N) (fun m k ak=>?_) (fun m=>?_) N 400 0 QnI QnI
  ·have l:=QpO (a-d+1+(k:Int)) (show t≠0 by omega);have p:=QpQ (a-d+1+(k:Int)) (show 0<t by omega);rw [YU,QnQ ((k:Int)<nn),QnQ ((k:Int)<t),Qpy,Qpy,QK e];simp -implicitDefEqProofs only [Q0,MR,Q2,Q6 (x:=a-d) QnI QnI,Q6 (x:=a-d+1) QnI QnI,Q6 (x:=a-d+1+(k:Int)) QnI QnI,QgN (n:=n) (x:=a-d+1+(k:Int)) c (show t<=7200 by omega) QnI QnI,Q6i,YX (len:=t.toNat) l QnI,Eu (f:=fun y=>f y||decide (((y:Int)-(a-d+1)) % t<(k:Int))) (n:=t.toNat) (i:=((a-d+1+(k:Int)) % t).toNat) QnI,List.set_cons_zero];rw [QaG (g:=fun y=>f y||decide (((y:Int)-(a-d+1)) % t<((k+1:Nat):Int))) (fun y hy=>?_),Q6 QnI QnI]
   ·rfl
   ·have hd:=Qfg (t:=t) (f:=a-d+1) (k:=k) (y:=y) c QnI QnI QnI QnI;by_cases ac:y=((a-d+1+(k:Int)) % t).toNat
    ·rw [Qq5 ac,show decide (((y:Int)-(a-d+1)) % t<((k+1:Nat):Int))=true from QpZ (by have:=hd.1 QnI;omega),Bool.or_true]
    ·rw [Qq2 ac];congr 1;rw [decide_eq_decide];have:¬ ((y:Int)-(a-d+1)) % t=(k:Int):=fun h=>ac (by have:=hd.2 h;omega)
     omega
  ·rw [YU];rw [show (bif decide ((N:Int)<nn) then decide ((N:Int)<t) else false)=false by
    by_cases h:(N:Int)<nn
    ·rw [QpZ h,Qpy];exact QpI (by rw [hN];split <;> (try split) <;> omega)
    ·rw [QpI h,Qpw],Qpw,hk]
 ·have q:=QpO ((y:Int)-(a-d+1)) (show t≠0 by omega);have s:=QpQ ((y:Int)-(a-d+1)) (show 0<t by omega);rw [Bool.or_eq_true,Qqc];refine or_congr_right ?_;rw [hN];split <;> (try split) <;> omega
theorem Q13 (o:1<=t) (p:t<=300) {K:LL->oP R} {k0:Int->Bool->LL->oP R} (hk:∀ a b w,k0 a b w=K w) {A B:List Occ} (hA:OL (-1) A) (hB:OL (-1) B) (lA:A.length<=100) (lB:B.length<=300):∀ (ac P:List Occ) (m:Nat) (f:Nat->Bool),A=P++ac->ac.length<m->(∀ y,y<t.toNat->(f y=true↔FB t P B y)) ->
  ∃ g:Nat->Bool,XU 400 t (A.map enc) (B.map enc) k0 m (P.length:Int) (Fw f t.toNat)=K (Fw g t.toNat)/\∀ y,y<t.toNat->(g y=true↔FB t A B y)
 |[],P,m+1,f,hP,_,hf=>by
  rw [QpX] at hP;subst hP;refine ⟨f,?_,hf⟩;rw [XU,QpB,Qj,Qpw,hk]
 |(x,a,b)::ac,P,m+1,f,hP,hm,hf=>by
  have e:A[P.length]? = some (x,a,b):=by rw [hP,Qq9 (QpF _),Nat.sub_self];rfl
  have hi:P.length<A.length:=by rw [hP];simp
  have hq:=hA.mem (x,a,b) (Qpt e);dsimp only at hq;have ak:A=(P++[(x,a,b)])++ac:=by rw [hP];simp
  have aj:=Q8o (n:=400) (O:=B) (x:=x) (K:=fun i j k z=>(some (i,j,k,z):oP (D×D×D×Bool))) (k0:=fun i j k=>some (i,j,k,true)) (k1:=fun _ _=>some (Q4 0,Q4 0,Q4 0,false)) QnI (fun _ _ _=>rfl) (fun _ _=>rfl) B 0 400 rfl QnI;rw [XU,QpB,Qe hi,Qpy,QK e];simp -implicitDefEqProofs only [Q0,Ni,MR,F5,Q2];unfold Bn;have nx:wJ ((P.length:Int)+1)=(((P++[(x,a,b)]).length:Nat):Int):=by rw [Q6 QnI QnI];simp
  rw [nx];rcases aj with ⟨c,d,g1,q⟩ | ⟨g1,q⟩
  ·have u:=hB.mem (x,c,d) g1;dsimp only at u;rw [show U5 400 (B.map enc) x (fun i j k=>(some (i,j,k,true):oP (D×D×D×Bool))) (fun v aa=>some (D.int .i64 (0:Int),D.int .i64 (0:Int),D.int .i64 (0:Int),false)) 400 0=some (Q4 x,Q4 c,Q4 d,true) from q];simp -implicitDefEqProofs only [Q0,QpW,Qpw,Q2];have ao:wJ (wJ (wJ (wJ (b-a)+d)-c)-1)=b-a+d-c-1:=by
    rw [Q6 (x:=b-a) QnI QnI,Q6 (x:=b-a+d) QnI QnI,Q6 (x:=b-a+d-c) QnI QnI,Q6 QnI QnI]
   rw [ao];obtain ⟨g,k1,k2⟩:=QdO (n:=400) (nn:=b-a+d-c-1) o p (K:=fun w=>XU 400 t (A.map enc) (B.map enc) k0 m (((P++[(x,a,b)]).length:Nat):Int) w) (k0:=fun _ _ w=>XU 400 t (A.map enc) (B.map enc) k0 m (((P++[(x,a,b)]).length:Nat):Int) w) (fun _ _ _=>rfl) (f:=f) e (d:=d) QnI QnI QnI QnI;rw [k1];refine Q13 o p hk hA hB lA lB ac _ m g ak (by simpa using hm) (fun y hy=>?_);rw [k2 y hy,Qc7,hf y hy];refine or_congr_right ⟨fun h=>⟨x,a,b,c,d,.head _,g1,h⟩,?_⟩;rintro ⟨x',a',b',c',d',l,r,s⟩;cases l with
   |head=>
    cases hB.uniq r g1 rfl;exact s
   |tail _ l=>nomatch l
  ·rw [show U5 400 (B.map enc) x (fun i j k=>(some (i,j,k,true):oP (D×D×D×Bool))) (fun v aa=>some (D.int .i64 (0:Int),D.int .i64 (0:Int),D.int .i64 (0:Int),false)) 400 0=some (Q4 0,Q4 0,Q4 0,false) from q];simp -implicitDefEqProofs only [Q0,QpY,Qpy];refine Q13 o p hk hA hB lA lB ac _ m f ak (by simpa using hm) (fun y hy=>?_);rw [Qc7,hf y hy];refine ⟨.inl,fun h=>h.elim id ?_⟩;rintro ⟨x',a',b',c',d',l,r,s⟩;cases l with
   |head=>exact (g1 _ r rfl).elim
   |tail _ l=>nomatch l
theorem VS.lastlt {t c d:Int}:∀ {l:Int} {M:List Sp2},VS t l (M++[(c,d)])->(∀ q∈M,q.2<c)/\c<d/\d<=t
 |l,[],⟨g,h2,f,_⟩=>⟨fun q hq=>(nomatch hq),h2,f⟩
 |l,(a,b)::M,⟨g,h2,f,e⟩=>by
  have ih:=e.lastlt;refine ⟨fun q hq=>?_,ih.2⟩;cases hq with
  |head=>
   cases M with
   |nil=>exact e.1
   |cons p M=>have:=ih.1 p (.head _);have:=e.1;have:=e.2.1;dsimp only at *;omega
  |tail _ hq=>exact ih.1 q hq
theorem VS.pw {t:Int}:∀ {l:Int} {F:List Sp2},VS t l F->F.Pairwise fun p q=>p.2<q.1
 |_,[],_=>.nil
 |l,(a,b)::r,⟨d,h2,e,c⟩=>.cons (fun q hq=>(c.rng q hq).1) c.pw
theorem VS.sep {t:Int}:∀ {l:Int} {F:List Sp2},VS t l F->∀ p∈F,∀ q∈F,p=q\/p.2<q.1\/q.2<p.1
 |_,[],_,p,hp,_,_=>nomatch hp
 |l,(a,b)::r,⟨d,h2,e,c⟩,p,hp,q,hq=>by
  have hr:=c.rng;cases hp with
  |head=>
   cases hq with
   |head=>exact .inl rfl
   |tail _ hq=>exact .inr (.inl (hr q hq).1)
  |tail _ hp=>
   cases hq with
   |head=>exact .inr (.inr (hr p hp).1)
   |tail _ hq=>exact c.sep p hp q hq
structure GP (t:Int) (F G:List Sp2):Prop where
 asc:G.Pairwise fun p q=>p.1<q.1
 rng:∀ q∈G,0<=q.1/\q.1<t/\q.1<q.2/\q.2<q.1+t
 ins:∀ q∈G,∀ z,q.1<=z->z<q.2->InS (z % t) F
 out:∀ q∈G,¬ InS (q.2 % t) F
 st:∀ x,0<=x->x<t->((InS x F/\¬ InS ((x-1) % t) F)↔∃ q∈G,q.1=x)
theorem Qa9 {z t:Int} (a:0<=z) (b:z<t):z % t=z:=Qq6 a b
theorem QiD {z t:Int} (a:t<=z) (b:z<t+t):z % t=z-t:=by
 rw [<- Qq6 (show 0<=z-t by omega) (show z-t<t by omega),Int.sub_emod_right]
theorem Qio {t:Int} (h:1<=t):(-1:Int) % t=t-1:=by
 rw [<- Qq6 (show 0<=t-1 by omega) (show t-1<t by omega),show t-1 = -1+t by omega,Int.add_emod_right]
theorem WR.gp {t:Int} {F G:List Sp2} (l:1<=t) (hv:VS t (-1) F) (hc:cnt F≠t) (hw:WR t F G):GP t F G:=by
 have hr:=hv.rng;have hs:=hv.sep;have ay:=hv.cnt QnI;have ax:=Q9P hv QnI;have gap:∀ q∈F,¬ InS q.2 F:=fun q hq ⟨p,hp,h⟩=>by
  grind
 have ac:∀ q∈F,¬ InS (q.1-1) F:=fun q hq ⟨p,hp,h⟩=>by
  grind
 have small:∀ q∈F,q.2-q.1<t:=fun q hq=>by
  have:=ax q hq;have:=ay.2.2 (List.length_pos_of_mem hq);omega
 have aj:∀ x,0<=x->x<t->InS x F->¬ InS ((x-1) % t) F->∃ q∈F,q.1=x:=fun x i j ⟨q,hq,h⟩ hn=>by
  have:=hr q hq;by_cases hx:q.1=x
  ·exact ⟨q,hq,hx⟩
  ·exact (hn ⟨q,hq,by rw [Qa9 QnI QnI];omega,by rw [Qa9 QnI QnI];omega⟩).elim
 rcases hw with ⟨rfl,hw⟩ | ⟨b,M,c,rfl,rfl⟩
 ·have ao:∀ p∈G,∀ q∈G,p.1=0->q.2=t->False:=fun p hp q hq o h2=>by
   have au:p≠q:=fun e=>by have:=small p hp;rw [<- e] at h2;omega
   rcases G with _ | ⟨⟨a,b⟩,G⟩
   ·nomatch hp
   obtain ⟨r,s,u,f⟩:=id hv;have ak:=f.rng;have az:p=(a,b):=by
    cases hp with
    |head=>rfl
    |tail _ hp=>have:=ak p hp;omega
   subst az;obtain rfl:a=0:=o;rcases List.eq_nil_or_concat G with rfl | ⟨M,⟨c,d⟩,rfl⟩
   ·cases hq with
    |head=>exact au rfl
    |tail _ hq=>nomatch hq
   ·rw [List.concat_eq_append] at *
    have hl:=f.lastlt;cases hq with
    |head=>exact au rfl
    |tail _ hq=>
     rcases QpH.1 hq with hq | hq
     ·have:=hl.1 q hq;omega
     ·obtain rfl:=QpN.1 hq;obtain rfl:d=t:=h2;exact hw b M c rfl
  refine ⟨hv.pw.imp_of_mem fun {p q} hp hq h=>by have:=hr p hp;omega,fun q hq=>by have:=hr q hq;have:=small q hq;omega,fun q hq z g k=>?_,fun q hq=>?_,fun x i j=>⟨fun h=>aj x i j h.1 h.2,?_⟩⟩
  ·have:=hr q hq;rw [Qa9 QnI QnI];exact ⟨q,hq,g,k⟩
  ·have:=hr q hq;by_cases m:q.2=t
   ·rw [m,Int.emod_self];rintro ⟨p,hp,h⟩;have:=hr p hp;exact ao p hp q hq QnI m
   ·rw [Qa9 QnI QnI];exact gap q hq
  ·rintro ⟨q,hq,rfl⟩;have:=hr q hq;refine ⟨⟨q,hq,QpU _,this.2.1⟩,?_⟩;by_cases n:q.1=0
   ·rw [n,show (0:Int)-1 = -1 by omega,Qio l];rintro ⟨p,hp,h⟩;have:=hr p hp;exact ao q hq p hp n QnI
   ·rw [Qa9 QnI QnI];exact ac q hq
 ·obtain ⟨r,s,u,f⟩:=id hv;have hl:=f.lastlt;have ak:=f.rng;have hM:∀ q∈M,b<q.1/\q.1<q.2/\q.2<c:=fun q hq=>by
   have:=ak q (QpS _ hq);have:=hl.1 q hq;omega
  have an:∀ q∈M,q∈(0,b)::(M++[(c,t)]):=fun q hq=>.tail _ (QpS _ hq)
  have al:(c,t)∈(0,b)::(M++[(c,t)]):=.tail _ (QpL _ (.head _));have aw:(0,b)∈(0,b)::(M++[(c,t)]):=.head _;have a2:b<c:=(ak (c,t) (QpL _ (.head _))).1;refine ⟨?_,fun q hq=>?_,fun q hq z g k=>?_,fun q hq=>?_,fun x i j=>⟨fun h=>?_,?_⟩⟩
  ·refine List.pairwise_append.2 ⟨(List.pairwise_append.1 f.pw).1.imp_of_mem fun {p q} hp hq h=>by have:=hM p hp;omega,List.pairwise_singleton _ _,fun p hp q hq=>?_⟩;obtain rfl:=QpN.1 hq;have:=hM p hp;dsimp only;omega
  ·rcases QpH.1 hq with h | h
   ·have:=hM q h;omega
   ·obtain rfl:=QpN.1 h;dsimp only;omega
  ·rcases QpH.1 hq with h | h
   ·have:=hM q h;rw [Qa9 QnI QnI];exact ⟨q,an q h,g,k⟩
   ·obtain rfl:=QpN.1 h;dsimp only at g k;by_cases hz:z<t
    ·rw [Qa9 QnI hz];exact ⟨_,al,g,hz⟩
    ·rw [QiD QnI QnI];exact ⟨_,aw,by dsimp only;omega,by dsimp only;omega⟩
  ·rcases QpH.1 hq with h | h
   ·have:=hM q h;rw [Qa9 QnI QnI];exact gap q (an q h)
   ·obtain rfl:=QpN.1 h;dsimp only;rw [QiD QnI QnI,show t+b-t=b by omega];exact gap _ aw
  ·obtain ⟨q,hq,rfl⟩:=aj x i j h.1 h.2;cases hq with
   |head=>
    refine (h.2 ?_).elim;dsimp only;rw [show (0:Int)-1 = -1 by omega,Qio l];exact ⟨_,al,by dsimp only;omega,by dsimp only;omega⟩
   |tail _ hq=>
    rcases QpH.1 hq with hq | hq
    ·exact ⟨q,QpS _ hq,rfl⟩
    ·obtain rfl:=QpN.1 hq;exact ⟨(c,t+b),QpL _ (.head _),rfl⟩
  ·rintro ⟨q,hq,rfl⟩;rcases QpH.1 hq with h | h
   ·have:=hM q h;refine ⟨⟨q,an q h,QpU _,this.2.1⟩,?_⟩;rw [Qa9 QnI QnI];exact ac q (an q h)
   ·obtain rfl:=QpN.1 h;dsimp only;refine ⟨⟨_,al,QpU _,hl.2.1⟩,?_⟩;rw [Qa9 QnI QnI];exact ac _ al
theorem Qau {t:Int} {F:List Sp2} (i:1<=t) (hv:VS t (-1) F):cnt F=t↔∀ y,0<=y->y<t->InS y F:=by
 rcases F with _ | ⟨⟨a,b⟩,r⟩
 ·exact ⟨fun h=>by grind [cnt],fun h=>absurd (h 0 QnI QnI) MQ⟩
 obtain ⟨j,k,f,e⟩:=hv;have hc:=e.cnt f;rcases r with _ | ⟨⟨c,d⟩,r⟩
 ·simp only [cnt,HK];constructor
  ·omega
  ·intro h;have g:=(h 0 QnI QnI).resolve_right MQ;have h2:=(h (t-1) QnI QnI).resolve_right MQ;omega
 ·have:=hc.2.2 QnK;have w:=e.1;constructor
  ·grind [cnt]
  ·intro h;have ac:=e.rng;have:=ac (c,d) (.head _);dsimp only at this;obtain ⟨p,hp,g,h2⟩:=h b QnI QnI
   grind
theorem Q4R (d:t<=300) {f:Nat->Bool} {k0:Int->Int->Bool->oP R} {K:Int->oP R} (hk:∀ a b c,k0 a b c=K a):∀ (c m x:Nat) (w:Int),(x:Int)+c=t->c<m->0<=w->w<=x->(w=x↔∀ y:Nat,y<x->f y=true)->∃ w',Wg n t (Fw f t.toNat) k0 m w (x:Int)=K w'/\(w'=t↔∀ y:Nat,(y:Int)<t->f y=true)
 |0,m+1,x,w,hx,_,_,_,hw=>⟨w,by rw [Wg,QnP ((x:Int)<t),Qpw,hk],by
  grind⟩
 |c+1,m+1,x,w,hx,hm,w0,e,hw=>by
  have ac:Q1 (Fw f t.toNat) (x:Int)=some [D.bool (f x)]:=by grind [Qd,Eu]
  rw [Wg,QnQ ((x:Int)<t),Qpy,ac];simp -implicitDefEqProofs only [Q0,Qpu,Mr,Qv (show x<=1000 by omega)];cases aj:f x with
  |false=>
   refine Q4R d hk c m (x+1) w QnI QnI w0 QnI ⟨fun h=>by omega,fun h=>?_⟩
   simp_all
  |true=>
   rw [Qpy,Q6 QnI QnI];refine Q4R d hk c m (x+1) (w+1) QnI QnI QnI QnI ⟨fun h y hy=>?_,fun h=>?_⟩
   all_goals grind
theorem Qfo (b:1<=t) (c:t<=300) {f:Nat->Bool} {k0:Int->Bool->oP R} {a:Int} {L:Nat} (a0:0<=a) (a1:a<t) (hL:(L:Int)<t) (aj:∀ k:Nat,k<L->f ((a+k) % t).toNat=true) (ac:f ((a+L) % t).toNat=false):Wp n t (Fw f t.toNat) a k0 400 0=k0 (L:Int) false:=by
 have step:∀ k:Nat,k<=L->Q1 (Fw f t.toNat) (Int.tmod (wJ (a+k)) t)=some [D.bool (f ((a+k) % t).toNat)]:=fun k hk=>by
  have d:=QpO (a+(k:Int)) (show t≠0 by omega);have e:=QpQ (a+(k:Int)) (show 0<t by omega);rw [Q6 QnI QnI,Int.tmod_eq_emod_of_nonneg QnI];obtain ⟨z,hz⟩:∃ z:Nat,(a+(k:Int)) % t=z:=⟨((a+(k:Int)) % t).toNat,QnI⟩;rw [hz,Qd,Qpx];exact Eu QnI
 refine Qs (r:=fun m k=>Wp n t (Fw f t.toNat) a k0 m k) (N:=L) (fun m k hk=>?_) (fun m=>?_) L 400 0 QnI QnI
 ·rw [Wp,Ng QnI,step k QnI];simp -implicitDefEqProofs only [Q0,Qpu,Mr,aj k hk,Qpy,Qv (show k<=1000 by omega)]
 ·rw [Wp,Ng QnI,step L (QpF _)];simp -implicitDefEqProofs only [Q0,Qpu,Mr,ac,Qpw]
theorem Q4M (g:1<=t) (i:t<=300) {f:Nat->Bool} {F G:List Sp2} (hf:∀ y:Nat,(y:Int)<t->(f y=true↔InS y F)) (hG:GP t F G) {K:LL->oP R} {k0:Int->Bool->LL->oP R} (hk:∀ a b w,k0 a b w=K w):∀ (c m x:Nat) (P S:List Sp2),(x:Int)+c=t->c<m->G=P++S->P.length<=x->(∀ q∈P,q.1<x)->(∀ q∈S,(x:Int)<=q.1)->Ya 400 t (Fw f t.toNat) k0 m (x:Int) ((P.map (DX t)).map Y0)=K ((G.map (DX t)).map Y0)
 |0,m+1,x,P,S,hx,_,ac,_,_,hS=>by
  have:S=[]:=by
   cases S with
   |nil=>rfl
   |cons q S=>have:=hS q (.head _);have:=hG.rng q QnO;omega
  rw [Ya,QnP ((x:Int)<t),Qpw,hk,ac,this,QpX]
 |c+1,m+1,x,P,S,hx,hm,ac,hl,hP,hS=>by
  have fi:∀ z:Int,f (z % t).toNat=true↔InS (z % t) F:=fun z=>by
   have l:=QpO z (show t≠0 by omega);have o:=QpQ z (show 0<t by omega);have:=hf (z % t).toNat QnI;rw [show (((z % t).toNat:Nat):Int)=z % t by omega] at this;exact this
  have aq:Q1 (Fw f t.toNat) (x:Int)=some [D.bool (f x)]:=by rw [Qd];exact Eu QnI
  have l:=QpO ((x:Int)-1) (show t≠0 by omega);have o:=QpQ ((x:Int)-1) (show 0<t by omega);have al:Q1 (Fw f t.toNat) (((x:Int)-1) % t)=some [D.bool (f (((x:Int)-1) % t).toNat)]:=by
   obtain ⟨z,hz⟩:∃ z:Nat,((x:Int)-1) % t=z:=⟨(((x:Int)-1) % t).toNat,QnI⟩;rw [hz,Qd,Qpx];exact Eu QnI
  rw [Ya,QnQ ((x:Int)<t),Qpy,aq];simp -implicitDefEqProofs only [Q0,Qpu,Mr,Qv (show x<=1000 by omega),Q6 (x:=(x:Int)-1) QnI QnI,QgN (n:=400) (x:=(x:Int)-1) g (show t<=7200 by omega) QnI QnI,al];have ak:=hG.st x QnI QnI;have an:=hf x QnI;have ar:=fi ((x:Int)-1);have a2:∀ (R':Type) (p:Bool) (d:R') (v:R') (k:R'->oP R),gb p (some v) d k=gb p (some v) d k:=fun _ _ _ _ _=>rfl
  have skip:(∀ q∈G,q.1≠x)->Ya 400 t (Fw f t.toNat) k0 m ((x+1:Nat):Int) ((P.map (DX t)).map Y0)=K ((G.map (DX t)).map Y0):=fun au=>by
   refine Q4M g i hf hG hk c m (x+1) P S QnI QnI ac QnI (fun q hq=>by have:=hP q hq;omega) (fun q hq=>?_);have:=hS q hq;have:=au q (by rw [ac];exact QpL _ hq);omega
  cases hb:f x with
  |false=>
   simp -implicitDefEqProofs only [QpY,QpW,gbF,Qpy];refine skip fun q hq e=>?_
   have:=(ak.2 ⟨q,hq,e⟩).1;rw [<- an,hb] at this;cases this
  |true=>
   simp -implicitDefEqProofs only [QpY,QpW,Q0,Qpw];cases j:f (((x:Int)-1) % t).toNat with
   |true=>
    rw [Qpy];refine skip fun q hq e=>?_
    exact (ak.2 ⟨q,hq,e⟩).2 (ar.1 j)
   |false=>
    rw [Qpw];obtain ⟨q,hq,aw⟩:=ak.1 ⟨an.1 hb,fun h=>by rw [<- ar,j] at h;cases h⟩;obtain ⟨S',ay⟩:∃ S',S=q::S':=by
     rw [ac] at hq;rcases QpH.1 hq with h | h
     ·have:=hP q h;omega
     cases S with
     |nil=>nomatch h
     |cons p S=>
      cases h with
      |head=>exact ⟨S,rfl⟩
      |tail _ h=>
       have ha:=hG.asc;rw [ac] at ha;have:=(List.pairwise_cons.1 (List.pairwise_append.1 ha).2.1).1 q h;have:=hS p (.head _);omega
    subst ay;have hr:=hG.rng q hq;obtain ⟨L,hL⟩:∃ L:Nat,q.2=x+L:=⟨(q.2-q.1).toNat,QnI⟩;have ax:=hG.ins q hq;have ao:=hG.out q hq;rw [Qfo (n:=400) (k0:=_) (a:=(x:Int)) (L:=L) g i QnI QnI QnI (fun k hk=>(fi _).2 (ax _ QnI QnI)) (by
     cases h:f (((x:Int)+L) % t).toNat with
     |false=>rfl
     |true=>rw [<- hL] at h;exact (ao ((fi _).1 h)).elim)]
    have hw:[Q4 ((x:Int)+L),Q4 ((x:Int)+t-1)]=Y0 (DX t q):=by rw [<- hL,<- aw];rfl
    rw [Q6 (x:=(x:Int)+L) QnI QnI,Q6 (x:=(x:Int)+t) QnI QnI,Q6 (x:=(x:Int)+t-1) QnI QnI,XF QnL,Q0];have:=Q4M g i hf hG hk c m (x+1) (P++[q]) S' QnI QnI (by rw [ac];simp) QnL (fun p hp=>by
     rcases QpH.1 hp with h | h
     ·have:=hP p h;omega
     ·obtain rfl:=QpN.1 h;omega) (fun p hp=>by
     have ha:=hG.asc;rw [ac] at ha;have:=(List.pairwise_cons.1 (List.pairwise_append.1 ha).2.1).1 p hp;omega)
    rw [QpK,QpK,List.map_singleton,List.map_singleton,<- hw] at this;exact this
theorem QaX {A B:List Occ} (p:2<=t) (a:t<=300) (hA:OL (-1) A) (hB:OL (-1) B) (lA:A.length<=6) (lB:B.length<=6) {F G:List Sp2} (hv:VS t (-1) F) (hF:∀ y,0<=y->y<t->(InS y F↔FB t A B y)) (hw:WR t F G) :
  Kt 400 t (A.map enc) (B.map enc) Tu2=some (if cnt F=t then ([],(13:Int)) else ((G.map (DX t)).map Y0,(0:Int))):=by
 obtain ⟨f,i,j⟩:=Q13 QnI a (K:=fun w=>(some (w,(0:Int)):oP (LL×Int))) (k0:=fun _ _ w=>some (w,(0:Int))) (fun _ _ _=>rfl) hA hB QnI QnI A [] 400 (fun _=>false) rfl QnI (fun y _=>⟨fun h=>(nomatch h),fun ⟨_,_,_,_,_,h,_⟩=>(nomatch h)⟩);have hf:∀ y:Nat,(y:Int)<t->(f y=true↔InS y F):=fun y hy=>by rw [j y QnI,hF y QnI hy]
 have hm:Kj 400 t (A.map enc) (B.map enc) Tu2=some (Fw f t.toNat,(0:Int)):=by
  unfold Kj;rw [Q3Y QnI (show t<=7200 by omega),Q91 QnI hA,Q91 QnI hB];simp -implicitDefEqProofs only [Q0,QpW,QpY,Qpw];rw [show (bif decide ((0:Int)<=t)&&decide (t<=t) then some () else none)=some () by rw [QP QnL],Q0,XF QnI,Q0];have e:List.replicate t.toNat [D.bool false]=Fw (fun _=>false) t.toNat:=by unfold Fw;rw [List.map_const',List.length_range]
  rw [e];exact i
 unfold Kt;rw [hm,Q0,Q8 (by rfl)];obtain ⟨w,k,l⟩:=Q4R (n:=400) a (f:=f) (K:=fun d=>bif (d == t) then (some ([],(13:Int)):oP (LL×Int)) else Ya 400 t (Fw f t.toNat) (fun m o g=>some (g,(0:Int))) 400 (0:Int) []) (k0:=fun d r s=>bif (d == t) then (some ([],(13:Int)):oP (LL×Int)) else Ya 400 t (Fw f t.toNat) (fun m o g=>some (g,(0:Int))) 400 (0:Int) []) (fun _ _ _=>rfl) t.toNat 400 0 0 QnI QnI QnI QnI ⟨fun _ y hy=>by omega,fun _=>rfl⟩;refine k.trans ?_;have hc:w=t↔cnt F=t:=by
  rw [l,Qau QnI hv];constructor
  ·intro h y u v;have:=(hf y.toNat QnI).1 (h y.toNat QnI);rw [show (y.toNat:Int)=y by omega] at this;exact this
  ·exact fun h y hy=>(hf y hy).2 (h y QnI hy)
 by_cases ac:cnt F=t
 ·rw [Qq5 ac,QP (by simpa using hc.2 ac)]
 ·rw [Qq2 ac,Q8 (by simpa using fun h=>ac (hc.1 h))];exact Q4M QnI a hf (hw.gp QnI hv ac) (K:=fun w=>some (w,(0:Int))) (k0:=fun _ _ w=>some (w,(0:Int))) (fun _ _ _=>rfl) t.toNat 400 0 [] G QnI QnI rfl QnK (fun q hq=>nomatch hq) (fun q hq=>((hw.gp QnI hv ac).rng q hq).1)
end
theorem E6 {R:Type} {n:Nat} {O:List Occ} (hl:O.length<=1000) {q:Int->Bool} {K:LL->oP R} {k0:Int->Bool->LL->oP R} (hk:∀ a b w,k0 a b w=K w):∀ (ac P:List Occ) (j m:Nat),O.drop j=ac->ac.length<m->P.length<=j->XQ n (O.map enc) (O.length:Int) q k0 m (j:Int) (P.map enc)=K ((P++ac.filter fun o=>!q o.1).map enc)
 |[],P,j,m+1,hd,_,_=>by
  have:=VG hd;rw [XQ,show decide ((j:Int)<(O.length:Int))=false by simpa using this,Qpw,hk,List.filter_nil,QpX]
 |o::ac,P,j,m+1,hd,hm,hP=>by
  obtain ⟨e,aj,hj⟩:=ZC hd;rw [XQ,Qe hj,Qpy,QK e];simp -implicitDefEqProofs only [Q0,Ni,MR,F5,Q2,Qv (show j<=1000 by omega),XF (show ((P.map enc).length+[[Q4 o.1,Q4 o.2.1,Q4 o.2.2]].length)*24<=100000 by simp;omega)];rw [List.filter_cons];cases hq:q o.1 with
  |true=>
   rw [QpW,Qpw,Qq2 QnK];exact E6 hl hk ac P (j+1) m aj (by simpa using hm) QnI
  |false=>
   rw [QpY,Qpy,Qq5 rfl];have:=E6 (n:=n) (q:=q) hl hk ac (P++[o]) (j+1) m aj (by simpa using hm) QnL;rw [QpK,QpD] at this;exact this
theorem Q69 {R:Type} {O:List Occ} (hl:O.length<=300) {q:Int->Bool} (K:LL->(Int->Bool)->oP R):U1 400 (O.map enc) q K=K ((O.filter fun o=>!q o.1).map enc) q:=by
 unfold U1;rw [QpB];exact E6 QnI (K:=fun w=>K w q) (fun _ _ _=>rfl) O [] 0 400 rfl QnI QnK
namespace Cx
def Q3Z (a b:Nat) (w:Sp2):List D:=[Q4 6,Q4 ((2*a:Nat):Int),Q4 ((2*b:Nat):Int),Q4 w.1,Q4 w.2,Q4 0]
def fil (X:Cx) (J:List Tup) (a b:Nat):List Occ:=(X.occN a).filter fun o=>!X.TRb J a b o.1
def WV (X:Cx) (per:Int) (J:List Tup) (a b:Nat):oP (List Sp2):=match Wn 400 per ((X.fil J a b).map enc) ((X.fil J b a).map enc) Tu2 with
 |some (w,e)=>if e=0 then some (w.map fun r=>match r with | [.int _ x,.int _ y]=>(x,y) | _=>(0,0)) else none
 |none=>none
def Qgn:oP (List Sp2)->LL×Int
 |none=>([],13)
 |some W=>(W.map Y0,0)
def hdw (X:Cx) (per:Int) (J:List Tup) (a:Nat):Nat->Nat->oP LL
 |0,_=>some []
 |c+1,b=>match X.WV per J a b with
  |none=>none
  |some W=>(hdw X per J a c (b+1)).map fun H=>W.map (Q3Z a b)++H
def hdws (X:Cx) (per:Int) (J:List Tup):Nat->Nat->oP LL
 |0,_=>some []
 |c+1,a=>match X.hdw per J a c (a+1) with
  |none=>none
  |some H=>(hdws X per J c (a+1)).map fun H'=>H++H'
variable {R:Type} {n:Nat} {X:Cx} (h:X.OK) {per:Int}
theorem Q5z {J:List Tup} {a b:Nat} {r:Int}:X.TRb J a b r=X.TRb J b a r:=by
 grind [TRb,jab]
include h
theorem Q6y {J:List Tup} {a b:Nat} (ha:a<X.N):OL (-1) (X.fil J a b)/\(X.fil J a b).length<=6:=by
 have o:=(VY h ha).2;exact ⟨o.1.filter,Nat.le_trans (List.length_filter_le ..) o.2⟩
theorem Q1J (p0:2<=per) (p1:per<=300) {J:List Tup} {a b:Nat} (ha:a<X.N) (hb:b<X.N):Wn 400 per ((X.fil J a b).map enc) ((X.fil J b a).map enc) Tu2=some (Qgn (X.WV per J a b))/\Kt 400 per ((X.fil J a b).map enc) ((X.fil J b a).map enc) Tu2=some (Qgn (X.WV per J a b))/\∀ W,X.WV per J a b=some W->W.length<=12:=by
 have oa:=Q6y h (J:=J) (b:=b) ha;have ob:=Q6y h (J:=J) (b:=a) hb;obtain ⟨F,G,g1,g,j,i,k⟩:=Q6b p0 (show per<=7200 by omega) oa.1 ob.1 oa.2 ob.2;have l:=QaX p0 p1 oa.1 ob.1 oa.2 ob.2 g1 j i;have hG:G.length<=12:=by
  rcases i with ⟨rfl,_⟩ | ⟨b,M,c,rfl,rfl⟩
  ·exact g
  ·simp at g ⊢;omega
 have e:X.WV per J a b=if cnt F=per then none else some (G.map (DX per)):=by
  unfold WV;rw [k];by_cases hc:cnt F=per
  ·rw [Qq5 hc,Qq5 hc];rfl
  ·rw [Qq2 hc,Qq2 hc];dsimp only;rw [Qq5 rfl,List.map_map];congr 1;refine (List.map_congr_left fun q _=>?_).trans (List.map_id _);rfl
 grind [Qgn,cnt,DX,Y0]
omit h in
theorem Qh3 {a b:Nat} (ha:a<=100) (hb:b<=100) {W:List Sp2} (hW:W.length<=12) {k0:Int->Bool->LL->oP R} {A:LL} (hA:A.length<=900):Qz 400 (a:Int) (b:Int) (W.map Y0) (W.length:Int) k0 400 0 A=k0 (W.length:Int) false (A++W.map (Q3Z a b)):=by
 refine Qs (r:=fun m j=>Qz 400 (a:Int) (b:Int) (W.map Y0) (W.length:Int) k0 m j (A++(W.take j.toNat).map (Q3Z a b))) (N:=W.length) (fun m j hj=>?_) (fun m=>?_) W.length 400 0 QnI QnI |> Eq.trans QnK
 ·simp only [Qpx];obtain ⟨w,e⟩:∃ q,W[j]? = some q:=⟨W[j],Qpv hj⟩;rw [Qz,Qe hj,Qpy,QK e,Yt e,QpK,<- QpD];simp -implicitDefEqProofs only [Q0,QaN,Qak,Q2,Qv (show j<=1000 by omega),Qc2 (n:=400) (show a<=1000 by omega),Qc2 (n:=400) (show b<=1000 by omega),Qe2 (n:=400) (A:=A++(W.take j).map (Q3Z a b)) QnL];rfl
 ·simp only [Qpx];rw [Qz,Qj,Qpw,QpP]
theorem Q1e (p0:2<=per) (p1:per<=300) {J:List Tup} {a:Nat} (ha:a<X.N):∀ {c b:Nat} {H:LL},b+c<=X.N->X.hdw per J a c b=some H->H.length<=12*c
 |0,b,H,_,e=>by cases e;exact QpF _
 |c+1,b,H,hb,e=>by
  rw [hdw] at e;have hw:=(Q1J h p0 p1 (J:=J) ha (show b<X.N by omega)).2.2;cases ew:X.WV per J a b with
  |none=>rw [ew] at e;cases e
  |some W=>
   rw [ew] at e;cases eh:X.hdw per J a c (b+1) with
   |none=>simp only [eh] at e;cases e
   |some H'=>
    simp only [eh] at e;cases e;have:=hw W ew;have:=Q1e p0 p1 ha QnI eh;simp;omega
theorem Qfs (p0:2<=per) (p1:per<=300) {J:List Tup} (hJ:X.JOK J) {a:Nat} (ha:a<X.N) {k0:Int->LL->oP R} {k1:Int->Bool->LL->oP R} {Ke K1:LL->oP R} (d:∀ A,k0 13 A=Ke A) (e:∀ u v A,k1 u v A=K1 A):∀ (c m b:Nat) (A:LL),b+c=X.N->c<m->A.length+12*c<=900->∃ A',
  QQ 400 (a:Int) per (Gm (X.occs X.L)) (J.map tuR) k0 k1 m (b:Int) A=match X.hdw per J a c b with | none=>Ke A' | some H=>K1 (A++H)
 |0,m+1,b,A,hb,_,_=>by
  have ac:(Gm (X.occs X.L)).length=X.N:=by rw [VM];exact Zg
  refine ⟨A,?_⟩;rw [QQ,ac,QnP ((b:Int)<(X.N:Int)),Qpw,e,hdw]
  simp_all
 |c+1,m+1,b,A,hb,hm,hA=>by
  have ac:(Gm (X.occs X.L)).length=X.N:=by rw [VM];exact Zg
  have hN:X.N<=6:=base_le h;have oa:=VY h ha;have ob:=VY h (show b<X.N by omega);obtain ⟨q,g,f⟩:=QhN h hJ (a:=a) (b:=b);have aj:(X.occN a).filter (fun o=>!q o.1)=X.fil J a b:=List.filter_congr fun o _=>by rw [f]
  have ak:(X.occN b).filter (fun o=>!q o.1)=X.fil J b a:=List.filter_congr fun o _=>by rw [f,Q5z]
  have hw:=Q1J h p0 p1 (J:=J) ha (show b<X.N by omega);rw [QQ,ac,QnQ ((b:Int)<(X.N:Int)),Qpy,g,oa.1,ob.1];simp -implicitDefEqProofs only [Q0,Qpu,QJ,Qv (show b<=1000 by omega),Q69 (show (X.occN a).length<=300 by omega),Q69 (show (X.occN b).length<=300 by omega),aj,ak,hw.1,hdw];cases ew:X.WV per J a b with
  |none=>exact ⟨A,d A⟩
  |some W=>
   have hl:=hw.2.2 W ew;obtain ⟨A',ih⟩:=Qfs p0 p1 hJ ha d e c m (b+1) (A++W.map (Q3Z a b)) QnI QnI QnL;refine ⟨A',?_⟩;simp -implicitDefEqProofs only [Qgn];rw [Q8 (by rfl),QpB,Qh3 QnI QnI hl QnI,ih]
   grind
theorem QfB (p0:2<=per) (p1:per<=300) {J:List Tup} (hJ:X.JOK J) {k0:Int->LL->oP R} {k1:Int->Bool->LL->oP R} {Ke K1:LL->oP R} (d:∀ A,k0 13 A=Ke A) (e:∀ u v A,k1 u v A=K1 A):∀ (c m a:Nat) (A:LL),a+c=X.N->c<m->A.length+72*c<=900->∃ A',
  Qq 400 (X.N:Int) per (Gm (X.occs X.L)) (J.map tuR) k0 k1 m (a:Int) A=match X.hdws per J c a with | none=>Ke A' | some H=>K1 (A++H)
 |0,m+1,a,A,ha,_,_=>by
  refine ⟨A,?_⟩;rw [Qq,QnP ((a:Int)<(X.N:Int)),Qpw,e,hdws];simp only [QpX]
 |c+1,m+1,a,A,ha,hm,hA=>by
  have hN:X.N<=6:=base_le h;obtain ⟨A1,f⟩:=Qfs h p0 p1 hJ (show a<X.N by omega) (Ke:=Ke) (K1:=fun A=>Qq 400 (X.N:Int) per (Gm (X.occs X.L)) (J.map tuR) k0 k1 m ((a+1:Nat):Int) A) (k0:=fun g i=>k0 g i) (k1:=fun k l j=>Qq 400 (X.N:Int) per (Gm (X.occs X.L)) (J.map tuR) k0 k1 m ((a+1:Nat):Int) j) (fun A=>d A) (fun u v A=>rfl) c 400 (a+1) A QnI QnI QnI;rw [Qq,QnQ ((a:Int)<(X.N:Int)),Qpy,Qv (show a<=1000 by omega),f,hdws];cases eh:X.hdw per J a c (a+1) with
  |none=>exact ⟨A1,rfl⟩
  |some H=>
   have:=Q1e h p0 p1 (J:=J) (show a<X.N by omega) (c:=c) (b:=a+1) QnI eh;obtain ⟨A2,h2⟩:=QfB p0 p1 hJ d e c m (a+1) (A++H) QnI QnI QnL;refine ⟨A2,?_⟩;dsimp only;rw [h2];cases X.hdws per J c (a+1) with
   |none=>rfl
   |some H'=>simp -implicitDefEqProofs only [Option.map_some,QpD]
theorem hdws_len (p0:2<=per) (p1:per<=300) {J:List Tup}:∀ {c a:Nat} {H:LL},a+c=X.N->X.hdws per J c a=some H->H.length<=60*c
 |0,a,H,_,e=>by cases e;exact QpF _
 |c+1,a,H,ha,e=>by
  have hN:X.N<=6:=base_le h;rw [hdws] at e;cases eh:X.hdw per J a c (a+1) with
  |none=>rw [eh] at e;cases e
  |some H1=>
   have:=Q1e h p0 p1 (J:=J) (show a<X.N by omega) (c:=c) (b:=a+1) QnI eh;rw [eh] at e;cases e2:X.hdws per J c (a+1) with
   |none=>simp only [e2] at e;cases e
   |some H2=>
    have:=hdws_len p0 p1 QnI e2;simp only [e2] at e;cases e;simp;omega
theorem Qg1 (p0:2<=per) (p1:per<=300) {J:List Tup} (hJ:X.JOK J) {A:LL} (hA:A.length<=100):∃ A',Y7 400 per (Gm (X.occs X.L)) (J.map tuR) A Tu2=some (match X.hdws per J X.N 0 with | none=>((13:Int),A') | some H=>(0,A++H)):=by
 have hN:X.N<=6:=base_le h;have ac:(Gm (X.occs X.L)).length=X.N:=by rw [VM];exact Zg
 unfold Y7;rw [ac];obtain ⟨A',e⟩:=QfB h p0 p1 hJ (k0:=fun c d=>some (c,d)) (k1:=fun g i f=>some ((0:Int),f)) (Ke:=fun A=>some (13,A)) (K1:=fun A=>some (0,A)) (fun _=>rfl) (fun _ _ _=>rfl) X.N 400 0 A QnI QnI QnI;refine ⟨A',e.trans ?_⟩
 grind
end Cx
namespace Cx
def netV (X:Cx) (per:Int) (J:List Tup) (Ch Sy:LL):Int×LL×LL×Int:=bif X.aloneJ per J then (match X.hdws per J X.N 0 with
 |none=>(0,[],[],13)
 |some H=>(per,X.evs X.L,X.planned Ch Sy++H,0)) else (0,[],[],13)
variable {X:Cx} (h:X.OK) {per:Int} {Ch Sy De:LL} (hl:X.LsOK per Ch Sy)
theorem Q6s {α:Type} {nr:Nat->Nat} {f:Nat->Nat->α} {x:α}:∀ {L:Nat},x∈Qa7 nr f L↔∃ i k,i<L/\k<nr i/\x=f i k
 |0=>⟨fun h=>(nomatch h),fun ⟨_,_,h,_⟩=>by omega⟩
 |L+1=>by
  rw [Qa7,QpH,Q6s,Qq0];constructor
  ·rintro (⟨i,k,b,h2,a⟩ | ⟨k,hk,rfl⟩)
   ·exact ⟨i,k,QnI,h2,a⟩
   ·exact ⟨L,k,QnI,List.mem_range.1 hk,rfl⟩
  ·rintro ⟨i,k,b,h2,a⟩;by_cases hi:i=L
   ·subst hi;exact .inr ⟨k,List.mem_range.2 h2,a.symm⟩
   ·exact .inl ⟨i,k,QnI,h2,a⟩
theorem Q4B {t:Tup}:t∈X.jns↔(∃ i k,i<X.L/\k<X.nr i-1/\t=X.j1 i k)\/∃ u∈X.T,X.jT u=t:=by
 unfold jns jL;rw [QpH,Q6s,Qq0]
include h
theorem Qdo {i k:Nat} (hi:i<X.Ls.length) (hk:k<X.nr i):base X.nr i+k<X.N:=by
 have:=T4 (nr:=X.nr) (i:=i) (j:=X.L) hi;unfold N;omega
theorem QdN:X.JOK X.jns:=by
 refine ⟨fun t ht=>?_,Qdh h⟩;rcases Q4B.1 ht with ⟨i,k,a,h2,rfl⟩ | ⟨u,hu,rfl⟩
 ·have r:=rd h a (show k<X.nr i by omega);have q:=P2 h a (show k<X.nr i by omega);have:=r.ex0;have:=r.ex1;have:=r.mn0;have:=r.mn1;have:=r.mn2;have:=r.mn3;refine ⟨Qdo h a QnI,Qdo h a QnI,?_,?_,?_,?_⟩ <;> simp only [j1] <;> omega
 ·have ht:=h.tr _ hu;have ha:u.1<X.Ls.length:=ht.1;have hb:u.2.1<X.Ls.length:=ht.2.1;have na:=(K7 h ha).2.1;have nb:=(K7 h hb).2.1;have t1:=ht.2.2.1;have t2:=ht.2.2.2.1;have b:=ht.2.2.2.2.1;have c:=ht.2.2.2.2.2.1;have r:=rd h ha (show X.nr u.1-1<X.nr u.1 by omega);have q:=P2 h ha (show X.nr u.1-1<X.nr u.1 by omega);have:=r.ex0;have:=r.ex1;refine ⟨Qdo h ha QnI,Qdo h hb QnI,?_,?_,?_,?_⟩ <;> simp only [jT] <;> omega
include hl
theorem planned_len:(X.planned Ch Sy).length<=35:=by
 have hN:base X.nr X.L<=6:=base_le h;have:=BJ (X:=X) (i:=X.L);have:=hl.chl;have:=hl.syl;have:=h.tl;unfold planned;simp only [QpR,QpB];omega
theorem buildP (p0:2<=per) (p1:per<=300) (hc:VQ 400 X.G.St X.G.Pt X.G.Se X.G.Li per X.skR X.Ro X.Ls Ch (X.T.map tuR) Sy De (some:Int->oP Int)=some 0) :
  Gn 400 X.G.St X.G.Pt X.G.Se X.G.Li per X.skR X.Ro X.Ls Ch (X.T.map tuR) Sy De Tu4=some (X.netV per X.jns Ch Sy):=by
 have hN:base X.nr X.L<=6:=base_le h;have aj:=planned_len h hl;unfold Gn netV;rw [hc,Q0,Q8 (by rfl),QcM h,Q0];dsimp only;rw [evs_len,Q8 (QpI QnI),QfJ h hc,Q0];dsimp only;rw [Q8 (by rfl),Qej h,Q0];rw [Qeu h QnI p1 (QdN h),Q0];cases X.aloneJ per X.jns
 ·rfl
 rw [Q8 (by rfl),Qap h hl,Q0];obtain ⟨A',e⟩:=Qg1 h p0 p1 (QdN h) (A:=X.planned Ch Sy) QnI;rw [e,Q0,Qpy];cases eh:X.hdws per X.jns X.N 0 with
 |none=>rfl
 |some H=>
  have:=hdws_len h p0 p1 QnI eh;have ac:X.N<=6:=hN;dsimp only;rw [Q8 (by rfl),Q8 (QpI (by rw [QpR];omega))]
end Cx
theorem Qbq {α β:Type} {r:Nat->Int->β} {l:List α} {p:α->Bool} {F:α->β} {E:β} (a:∀ m i q,l[i]? = some q->i<l.length->r (m+1) (i:Int)=bif p q then F q else r m ((i+1:Nat):Int)) (b:∀ m,r (m+1) (l.length:Int)=E) {fuel:Nat} (hf:l.length<fuel):r fuel 0=match l.find? p with | some q=>F q | none=>E:=by
 have go:∀ (ac:List α) (i m:Nat),l.drop i=ac->ac.length<m->i<=l.length->r m (i:Int)=match ac.find? p with | some q=>F q | none=>E:=by
  intro ac;induction ac with
  |nil=>
   intro i m hd hm hi;obtain ⟨m,rfl⟩:∃ k,m=k+1:=⟨m-1,QnI⟩
   grind
  |cons q ac ih=>
   intro i m hd hm hi;obtain ⟨m,rfl⟩:∃ k,m=k+1:=⟨m-1,by simp at hm;omega⟩
   grind [ZC]
 exact go l 0 fuel rfl hf (Qqd _)
theorem QeZ {t:Int} {O:List Occ} (a:1<=t) (b:t<=7200) (hO:OL (-1) O) (hl:O.length<=300):NO 400 t (O.map enc) (some:Bool->oP Bool)=some (O.all (Rk t)):=by
 unfold NO;rw [Q3Y a b,Q91 hl hO];simp -implicitDefEqProofs only [Qpw,Q0,QpW,QpY];refine (T5 (r:=fun m i=>VT 400 t (O.map enc) (some false) (fun _ _=>some true) m i) (l:=O) (p:=Rk t) (E0:=some false) (E1:=some true) (fun m i q e hi=>?_) (fun m=>?_) QnI).trans (by cases O.all (Rk t) <;> rfl)
 ·rw [VT,QpB,Qe hi,Qpy,QK e];simp -implicitDefEqProofs only [Q0,Ni,MR,F5,Q2,Qv (show i<=1000 by omega),Qim hO (Qpt e)];unfold Rk;cases decide (q.2.2-q.2.1>t) <;> rfl
 ·rw [VT,QpB,Qj,Qpw]
def Q7v (O:List Occ) (r:Int):Bool:=(O.find? fun q=>q.1 == r).isSome
def fnd (O:List Occ) (r:Int):Occ:=(O.find? fun q=>q.1 == r).getD (0,0,0)
theorem DT {p:Occ->Bool} {r:Int} (hp:∀ q,q.1≠r->p q=false):∀ {l:Int} {O:List Occ},OL l O->O.any p=(bif Q7v O r then p (fnd O r) else false)
 |_,[],_=>rfl
 |l,(x,a,b)::O,⟨d,h2,e,f,g,c⟩=>by
  have ih:=DT hp c;unfold Q7v fnd at ih ⊢;by_cases hx:x=r
  ·subst hx;have:O.any p=false:=by
    rw [List.any_eq_false];intro q hq;have:=(c.mem q hq).1
    grind
   simp_all
  grind
theorem Q4w {O:List Occ} {r:Int} (h:Q7v O r=true):(fnd O r).1=r:=by
 unfold Q7v at h;unfold fnd;cases e:O.find? fun q=>q.1 == r with
 |none=>simp_all
 |some q=>grind
theorem Q5f {l:Int} {O:List Occ} (hO:OL l O) {x:Occ} (hx:x∈O):Q7v O x.1=true/\fnd O x.1=x:=by
 unfold Q7v fnd;cases e:O.find? fun q=>q.1 == x.1 with
 |none=>grind
 |some q=>exact ⟨rfl,hO.uniq (List.mem_of_find?_eq_some e) hx (by grind)⟩
def okR (la:Int) (A B:List Occ) (r:Int):Bool:=bif (bif Q7v A r then Q7v B r else false) then decide (la+(fnd B r).2.1<=(fnd A r).2.2) else false
theorem Qbz {la:Int} {x y:Occ} (h:y.1≠x.1):tie la x y=false:=by
 grind [tie]
theorem Qfm {la r:Int} {A B:List Occ} (hA:OL (-1) A) (hB:OL (-1) B):okR la A B r=Q0j la A B r:=by
 unfold Q0j okR;rw [DT (r:=r) (fun q hq=>by
  simp_all) hA]
 cases ha:Q7v A r with
 |false=>rfl
 |true=>
  have ea:=Q4w ha;rw [Qpy,Qpy,DT (r:=r) (fun y hy=>by grind [Qbz]) hB];cases hb:Q7v B r with
  |false=>rfl
  |true=>
   have eb:=Q4w hb
   simp_all [tie,Qpy,decide,fnd]
theorem Qcg {per la mo:Int} {A B:List Occ} (hA:OL (-1) A) (hB:OL (-1) B) {x:Occ} (hx:x∈A):(B.any fun y=>bif tie la x y then Cj per la mo x y else false)=bif okR la A B x.1 then Cj per la mo (fnd A x.1) (fnd B x.1) else false:=by
 have ha:=Q5f hA hx;unfold okR;rw [DT (r:=x.1) (fun y hy=>by grind [Qbz]) hB,ha.1,ha.2,Qpy];cases hb:Q7v B x.1 with
 |false=>rfl
 |true=>
  simp_all [Q4w,tie,Qpy]
theorem Q4V {l:Int} {O:List Occ} (hO:OL l O) {r:Int} : -1000<=(fnd O r).2.1/\(fnd O r).2.1<=20000 /\ -1000<=(fnd O r).2.2/\(fnd O r).2.2<=20000:=by
 unfold fnd;cases e:O.find? fun q=>q.1 == r with
 |none=>simp
 |some q=>
  have:=hO.mem q (List.mem_of_find?_eq_some e)
  grind
theorem QeM {R:Type} {O:List Occ} (hl:O.length<=300) {r:Int} (K:D->D->D->Bool->oP R):V7 400 (O.map enc) r K=K (Q4 (fnd O r).1) (Q4 (fnd O r).2.1) (Q4 (fnd O r).2.2) (Q7v O r):=by
 unfold V7 fnd Q7v;refine (Qbq (r:=fun m i=>YJ 400 (O.map enc) r (fun a b c=>K a b c true) (fun d f=>K (Q4 0) (Q4 0) (Q4 0) false) m i) (l:=O) (p:=fun q=>q.1 == r) (F:=fun q=>K (Q4 q.1) (Q4 q.2.1) (Q4 q.2.2) true) (E:=K (Q4 0) (Q4 0) (Q4 0) false) (fun m i q e hi=>?_) (fun m=>?_) QnI).trans ?_
 ·rw [YJ,QpB,Qe hi,Qpy,QK e];simp -implicitDefEqProofs only [Q0,Ni,MR,F5,Q2,Qv (show i<=1000 by omega)]
 ·rw [YJ,QpB,Qj,Qpw]
 ·cases O.find? fun q=>q.1 == r <;> rfl
namespace Cx
variable {R:Type} {X:Cx} (h:X.OK)
include h
theorem Qeo {J:List Tup} (hJ:X.JOK J) {t:Tup} (ht:t∈J) {r:Int} (K:D->D->D->D->D->D->Bool->oP R):Pi 400 (Gm (X.occs X.L)) (t.1:Int) (t.2.1:Int) t.2.2.1 r K=K (Q4 (fnd (X.occN t.1) r).1) (Q4 (fnd (X.occN t.1) r).2.1) (Q4 (fnd (X.occN t.1) r).2.2) (Q4 (fnd (X.occN t.2.1) r).1) (Q4 (fnd (X.occN t.2.1) r).2.1) (Q4 (fnd (X.occN t.2.1) r).2.2) (okR t.2.2.1 (X.occN t.1) (X.occN t.2.1) r):=by
 have hj:=hJ.at' t ht;have oa:=VY h hj.1;have ob:=VY h hj.2.1;have rb:=Q4V ob.2.1 (r:=r);unfold Pi okR;rw [oa.1,ob.1];simp -implicitDefEqProofs only [Q0,Qpu,QJ,QeM (show (X.occN t.1).length<=300 by omega),QeM (show (X.occN t.2.1).length<=300 by omega),Q2,Q6 (x:=t.2.2.1+(fnd (X.occN t.2.1) r).2.1) QnI QnI]
theorem Qfu {J:List Tup} (hJ:X.JOK J) {t:Tup} (ht:t∈J) {per:Int} (K:Bool->oP R):SN 400 (Gm (X.occs X.L)) (t.1:Int) (t.2.1:Int) t.2.2.1 t.2.2.2 per K=K (!Q7C per t.2.2.1 t.2.2.2 (X.occN t.1) (X.occN t.2.1)):=by
 have hj:=hJ.at' t ht;have oa:=VY h hj.1;have ob:=VY h hj.2.1;unfold SN Q7C;refine (T5 (r:=fun m i=>Ul 400 (Gm (X.occs X.L)) per (t.1:Int) (t.2.1:Int) t.2.2.1 t.2.2.2 (K false) (fun a b=>K true) m i) (l:=X.occN t.1) (p:=fun x=>!((X.occN t.2.1).any fun y=>bif tie t.2.2.1 x y then Cj per t.2.2.1 t.2.2.2 x y else false)) (E0:=K false) (E1:=K true) (fun m i x e hi=>?_) (fun m=>?_) QnI).trans ?_
 ·have ra:=Q4V oa.2.1 (r:=x.1);have rb:=Q4V ob.2.1 (r:=x.1);rw [Ul,oa.1,Qcg oa.2.1 ob.2.1 (Qpt e)];simp -implicitDefEqProofs only [Q0,Qpu,QJ,QpB,Qe hi,Qpy,QK e,Ni,Q2,Qeo h hJ ht,Qv (show i<=1000 by omega)];generalize fnd (X.occN t.1) x.1=u at ra ⊢;generalize fnd (X.occN t.2.1) x.1=v at rb ⊢;cases okR t.2.2.1 (X.occN t.1) (X.occN t.2.1) x.1 with
  |false=>rfl
  |true=>
   rw [Qpy,Qpy,Q6 (x:=t.2.2.1+v.2.1) QnI QnI,Q6 (x:=t.2.2.2+v.2.2) QnI QnI,Q6 (x:=(if u.2.2<t.2.2.2+v.2.2 then t.2.2.2+v.2.2 else u.2.2)-(if t.2.2.1+v.2.1<u.2.1 then t.2.2.1+v.2.1 else u.2.1)) (by split <;> split <;> omega) (by split <;> split <;> omega)];unfold Cj;cases decide ((if u.2.2<t.2.2.2+v.2.2 then t.2.2.2+v.2.2 else u.2.2)-(if t.2.2.1+v.2.1<u.2.1 then t.2.2.1+v.2.1 else u.2.1)>per) <;> rfl
 ·rw [Ul,oa.1];simp -implicitDefEqProofs only [Q0,Qpu,QJ,QpB,Qj,Qpw]
 ·rw [<- List.not_any_eq_all_not];cases (X.occN t.1).any fun x=>(X.occN t.2.1).any fun y=>bif tie t.2.2.1 x y then Cj per t.2.2.1 t.2.2.2 x y else false <;> rfl
theorem Q90 {J:List Tup} (hJ:X.JOK J) {a b i:Nat} (ha:a<X.N) {x:Occ} (e:(X.occN a)[i]? = some x) (k0:Bool->Int->Bool->oP R):YE 400 (Gm (X.occs X.L)) (J.map tuR) (a:Int) (b:Int) (i:Int) k0 400 false 0=k0 (X.TRb J a b x.1) (J.length:Int) false:=by
 have oa:=VY h ha;have hl:=hJ.len;unfold TRb;rw [<- Bool.false_or (List.any _ _),<- LU];refine Lq (r:=fun m j c=>YE 400 (Gm (X.occs X.L)) (J.map tuR) (a:Int) (b:Int) (i:Int) k0 m c j) (E:=fun c=>k0 c (J.length:Int) false) (fun m j t c e' hi=>?_) (fun m c=>?_) QnI false
 ·have hj:=hJ.at' t (Qpt e');have o1:=VY h hj.1;have o2:=VY h hj.2.1;have ac:Q1 (J.map tuR) (j:Int)=some [Q4 t.1,Q4 t.2.1,Q4 t.2.2.1,Q4 t.2.2.2]:=QK e';rw [YE,QpB,Qe hi,Qpy,ac];simp -implicitDefEqProofs only [Q0,Qpu,Qpz,Q2,QJ,oa.1,QK e,Ni,Qeo h hJ (Qpt e'),Qv (show j<=1000 by omega),Qfm o1.2.1 o2.2.1];show (bif jab a b t then _ else _)=_;cases jab a b t <;> cases c <;> rfl
 ·rw [YE,QpB,Qj,Qpw]
theorem Q5m {J:List Tup} (hJ:X.JOK J) {a b:Nat} (ha:a<X.N) (K:LL->oP R):G5 400 (Gm (X.occs X.L)) (J.map tuR) (a:Int) (b:Int) K=K ((X.fil J a b).map enc):=by
 have oa:=VY h ha;unfold G5 fil;refine Qs (r:=fun m i=>Zt 400 (Gm (X.occs X.L)) (J.map tuR) (a:Int) (b:Int) (fun d f c=>K c) m i ((((X.occN a).take i.toNat).filter fun o=>!X.TRb J a b o.1).map enc)) (N:=(X.occN a).length) (fun m i hi=>?_) (fun m=>?_) (X.occN a).length 400 0 QnI QnI
 ·simp only [Qpx];obtain ⟨x,e⟩:∃ q,(X.occN a)[i]? = some q:=⟨(X.occN a)[i],Qpv hi⟩;have aj:(((X.occN a).take i).filter fun o=>!X.TRb J a b o.1).length<=i:=Nat.le_trans (List.length_filter_le ..) QnL;rw [Zt,oa.1];simp -implicitDefEqProofs only [Q0,Qpu,QJ,QpB,Qe hi,Qpy,Q90 h hJ ha e,QK e,Ni,MR,F5,Qv (show i<=1000 by omega),XF (show ((((X.occN a).take i).filter fun o=>!X.TRb J a b o.1).length+[[Q4 x.1,Q4 x.2.1,Q4 x.2.2]].length)*24<=100000 by simp;omega)];rw [Yt e,List.filter_append,QpK];simp only [List.filter_cons,List.filter_nil];cases X.TRb J a b x.1 with
  |false=>rfl
  |true=>
   rw [QpW,Qpw,Qq2 Bool.false_ne_true,List.map_nil,QpX]
 ·simp only [Qpx];rw [Zt,oa.1];simp -implicitDefEqProofs only [Q0,Qpu,QJ,QpB,Qj,Qpw,QpP]
end Cx
theorem QaE {a b:Nat} (h:a+b<=100000):wJ ((a:Int)+(b:Int))=((a+b:Nat):Int):=Q6 QnI QnI
theorem Qdb {a:Nat} (h:a<=100000):wJ ((a:Int)+1)=((a+1:Nat):Int):=Q6 QnI QnI
theorem QhB {a:Nat} (h:a<=100000):wJ ((a:Int)+2)=((a+2:Nat):Int):=Q6 QnI QnI
theorem NY {a:Nat} (h:a<=100000):wJ (2*(a:Int))=((2*a:Nat):Int):=Q6 QnI QnI
namespace Cx
def jR (X:Cx) (i:Nat):List Tup:=(List.range (X.nr i-1)).map (X.j1 i)++(match X.tn i with | some t=>[X.jT t] | none=>[])
def jnsR (X:Cx):Nat->List Tup
 |0=>[]
 |i+1=>jnsR X i++X.jR i
variable {R:Type} {n:Nat} {X:Cx} (h:X.OK)
theorem Q6v {t:Tup}:∀ {L:Nat},t∈X.jnsR L↔∃ i,i<L/\t∈X.jR i
 |0=>⟨fun h=>(nomatch h),fun ⟨_,h,_⟩=>by omega⟩
 |L+1=>by
  rw [jnsR,QpH,Q6v];constructor
  ·rintro (⟨i,a,h2⟩ | h2)
   ·exact ⟨i,QnI,h2⟩
   ·exact ⟨L,QnI,h2⟩
  ·rintro ⟨i,a,h2⟩;by_cases hi:i=L
   ·subst hi;exact .inr h2
   ·exact .inl ⟨i,QnI,h2⟩
theorem CR {i:Nat} {t:Tup} (ht:X.tn i=some t):t∈X.T/\t.1=i:=⟨List.mem_of_find?_eq_some ht,by simpa using List.find?_some ht⟩
theorem Q6x {α β:Type} {f:α->β}:∀ {l:List α},(l.map f).Nodup->∀ {x y},x∈l->y∈l->f x=f y->x=y
 |[],_,_,_,h,_,_=>nomatch h
 |a::l,hn,x,y,hx,hy,e=>by
  rw [List.map_cons,List.nodup_cons] at hn;cases hx with
  |head=>
   cases hy with
   |head=>rfl
   |tail _ hy=>exact (hn.1 (Qq0.2 ⟨y,hy,e.symm⟩)).elim
  |tail _ hx=>
   cases hy with
   |head=>exact (hn.1 (Qq0.2 ⟨x,hx,e⟩)).elim
   |tail _ hy=>exact Q6x hn.2 hx hy e
include h
theorem Qdn {t:Tup} (ht:t∈X.T):X.tn t.1=some t:=by
 cases e:X.tn t.1 with
 |none=>exact absurd (List.find?_eq_none.1 e t ht) QnK
 |some u=>
  have hu:=CR e;rw [Q6x h.fd hu.1 ht hu.2]
theorem Q2b {t:Tup}:t∈X.jnsR X.L↔t∈X.jns:=by
 rw [Q6v,Q4B];constructor
 ·rintro ⟨i,hi,ht⟩;rcases QpH.1 ht with ht | ht
  ·grind
  ·cases e:X.tn i with
   |none=>simp_all
   |some u=>
    rw [e] at ht;obtain rfl:=QpN.1 ht;exact .inr ⟨u,(CR e).1,rfl⟩
 ·rintro (⟨i,k,hi,hk,rfl⟩ | ⟨u,hu,rfl⟩)
  ·exact ⟨i,hi,QpS _ (List.mem_map_of_mem (List.mem_range.2 hk))⟩
  ·refine ⟨u.1,(h.tr _ hu).1,QpL _ ?_⟩
   grind [Qdn]
theorem Q6C {i:Nat} (hi:i<=X.Ls.length):(X.jnsR i).length<=base X.nr i:=by
 induction i with
 |zero=>exact QpF _
 |succ i ih=>
  have hl:=(K7 h (i:=i) QnI).2.1
  grind [jnsR,jR,List.length_append,List.length_map,List.length_range,base]
theorem QeT:X.JOK (X.jnsR X.L):=⟨fun t ht=>(QdN h).at' t ((Q2b h).1 ht),by have:=Q6C h (i:=X.L) (QpF _);have:=base_le h;omega⟩
theorem Q14 {i:Nat} (hi:i<=X.Ls.length) (K:Int->oP R):WG 400 X.Ls (i:Int) K=K ((base X.nr i:Nat):Int):=by
 have hb:=Y8 h hi;have l1:=h.l1;unfold WG;refine Qs (r:=fun m k=>VV 400 (i:Int) X.Ls (fun c d e=>K c) m ((base X.nr k.toNat:Nat):Int) k) (N:=i) (fun m k hk=>?_) (fun m=>?_) i 400 0 QnI QnI
 ·simp only [Qpx];have ac:=Y8 h (i:=k+1) QnI;rw [base] at ac;have ha:wJ (((base X.nr k:Nat):Int)+(((GT X.Ls k).length:Nat):Int))=((base X.nr (k+1):Nat):Int):=QaE (a:=base X.nr k) (b:=X.nr k) QnI;rw [VV,Qe hk,Qpy,Qd,(K7 h QnI).1];simp -implicitDefEqProofs only [Q0,Qpu,Qpz,QJ,Qv (show k<=1000 by omega),ha]
 ·simp only [Qpx];rw [VV,Qj,Qpw]
theorem Qg4 (K:LL->oP R):Sd 400 X.Ls (X.T.map tuR) (encI (X.runs X.L)) K=K ((X.jnsR X.L).map tuR):=by
 have l1:=h.l1;unfold Sd;refine Qs (r:=fun m i=>U8 400 (encI (X.runs X.L)) X.Ls (X.T.map tuR) (fun f g c=>K c) m i ((X.jnsR i.toNat).map tuR)) (N:=X.Ls.length) (fun m i hi=>?_) (fun m=>?_) X.Ls.length 400 0 QnI QnI
 ·simp only [Qpx];have hl:=(K7 h hi).2.1;have hb:=Y8 h (i:=i) QnI;have hw:wJ (((List.length (GT X.Ls i):Nat):Int)-1)=((X.nr i-1:Nat):Int):=J8 (k:=X.nr i) QnI QnI;have hJ:=Q6C h (i:=i) QnI;rw [U8,Qe hi,Qpy,Qd,(K7 h hi).1];simp -implicitDefEqProofs only [Q0,Qpu,Qpz,Qv (show i<=1000 by omega)];refine Qs (r:=fun m' k=>ZL 400 (encI (X.runs X.L)) (i:Int) X.Ls (X.T.map tuR) (D.sl 4 (GT X.Ls i)) (fun _ _ w=>U8 400 (encI (X.runs X.L)) X.Ls (X.T.map tuR) (fun f g c=>K c) m ((i+1:Nat):Int) w) m' k ((if k.toNat<=X.nr i-1 then X.jnsR i++(List.range k.toNat).map (X.j1 i) else X.jnsR (i+1)).map tuR)) (N:=X.nr i) (fun m' k hk=>?_) (fun m'=>?_) (X.nr i) 400 0 QnI QnI |> Eq.trans QnK
  ·simp only [Qpx];have r:=rd h hi hk;have hr:=P2 h hi hk;have ac:Q1 (GT X.Ls i) (k:Int)=some [Q4 (rF X.Ls i k 0),Q4 (X.ex i k),Q4 (X.mn i k),Q4 (X.mx i k)]:=by rw [Qd,r.row]
   have l:=r.ex0;have e1:=r.ex1;have e2:=r.mn0;have n:=r.mn1;have o:=r.mn2;have p:=r.mn3;rw [ZL,QJ,Q0,show (((GT X.Ls i).length:Nat):Int)=((X.nr i:Nat):Int) from rfl,Qe hk,Qpy,Qq5 (show k<=X.nr i-1 by omega)];simp -implicitDefEqProofs only [Q0,Q14 h (show i<=X.Ls.length by omega),ac,Qpu,Qpz,Q2,QJ,hw,QaE (a:=base X.nr i) (b:=k) QnI,Q5E hi hk,Qv (show k<=1000 by omega),Q6 (x:=X.run i k+X.mn i k) QnI QnI,Q6 (x:=X.run i k+X.ex i k) QnI QnI,Q6 (x:=X.run i k+X.ex i k+X.mx i k) QnI QnI,Qdb (a:=base X.nr i+k) QnI];by_cases j:k<X.nr i-1
   ·rw [Qe j,Qpy,Qq5 (show k+1<=X.nr i-1 by omega),XF QnL,Q0,<- Zc,QpK (l₁:=X.jnsR i++(List.range k).map (X.j1 i))];rfl
   ·rw [QnP ((k:Int)<((X.nr i-1:Nat):Int)),Qpw,Qq2 (show ¬ k+1<=X.nr i-1 by omega),QcY h];have d:k=X.nr i-1:=QnI
    cases ht:X.tn i with
    |none=>
     simp -implicitDefEqProofs only [Q0,Qpw,jnsR,jR,ht,QpX,d]
    |some t=>
     obtain ⟨t1,t2⟩:=CR ht;have al:=(h.tr _ t1).2.1;have q:=(h.tr _ t1).2.2.1;have s:=(h.tr _ t1).2.2.2.1;have u:=(h.tr _ t1).2.2.2.2.1;have v:=(h.tr _ t1).2.2.2.2.2.1;simp -implicitDefEqProofs only [Q0,Qpy,Q2,Q14 h (show t.2.1<=X.Ls.length by omega),Q6 (x:=X.run i k+t.2.2.1) QnI QnI,Q6 (x:=X.run i k+X.ex i k+t.2.2.2) QnI QnI,jnsR,jR,ht];have e:[Q4 ((base X.nr i+k:Nat):Int),Q4 ((base X.nr t.2.1:Nat):Int),Q4 (X.run i k+t.2.2.1),Q4 (X.run i k+X.ex i k+t.2.2.2)]=tuR (X.jT t):=by
      unfold tuR jT;rw [t2,d];rfl
     rw [XF QnL,Q0,e,d,<- QpD,QpK (l₁:=X.jnsR i++_)];rfl
  ·simp only [Qpx];rw [ZL,QJ,Q0,show (((GT X.Ls i).length:Nat):Int)=((X.nr i:Nat):Int) from rfl,Qj,Qpw,Qq2 QnI]
 ·simp only [Qpx];rw [U8,Qj,Qpw];rfl
theorem QcQ (k0:LL->oP R):ZN 400 X.Ls (fun _ _ w=>k0 w) 400 0 []=k0 (X.evs X.L):=by
 have l1:=h.l1;refine Qs (r:=fun m i=>ZN 400 X.Ls (fun _ _ w=>k0 w) m i (X.evs i.toNat)) (N:=X.Ls.length) (fun m i hi=>?_) (fun m=>?_) X.Ls.length 400 0 QnI QnI
 ·simp only [Qpx];have hl:=(K7 h hi).2.1;have hb:=Y8 h (i:=i) QnI;rw [ZN,Qe hi,Qpy,Qv (show i<=1000 by omega)];refine Qs (r:=fun m' k=>Vh 400 (i:Int) X.Ls (fun _ _ w=>ZN 400 X.Ls (fun _ _ w=>k0 w) m ((i+1:Nat):Int) w) m' k (X.evs i++evl i k.toNat)) (N:=X.nr i) (fun m' k hk=>?_) (fun m'=>?_) (X.nr i) 400 0 QnI QnI |> Eq.trans (by simp [evl])
  ·simp only [Qpx];rw [Vh,Qd,(K7 h hi).1];simp -implicitDefEqProofs only [Q0,Qpu,Qpz,QJ];rw [show (((GT X.Ls i).length:Nat):Int)=((X.nr i:Nat):Int) from rfl,Qe hk,Qpy,XF (by simp [evs_len,Q1K];omega),Q0,Qv QnI,QpD];rfl
  ·simp only [Qpx];rw [Vh,Qd,(K7 h hi).1];simp -implicitDefEqProofs only [Q0,Qpu,Qpz,QJ];rw [show (((GT X.Ls i).length:Nat):Int)=((X.nr i:Nat):Int) from rfl,Qj,Qpw];rfl
 ·simp only [Qpx];rw [ZN,Qj,Qpw];rfl
theorem Qf5 (K:LL->oP R):S9 400 X.Ls (encI (X.runs X.L)) K=K (X.pls X.L):=by
 have l1:=h.l1;unfold S9;refine Qs (r:=fun m i=>Ue 400 (encI (X.runs X.L)) X.Ls (fun e f c=>K c) m i (X.pls i.toNat)) (N:=X.Ls.length) (fun m i hi=>?_) (fun m=>?_) X.Ls.length 400 0 QnI QnI
 ·simp only [Qpx];have hl:=(K7 h hi).2.1;have hb:=Y8 h (i:=i) QnI;have hp:=BJ (X:=X) (i:=i);have hw:wJ (((List.length (GT X.Ls i):Nat):Int)-1)=((X.nr i-1:Nat):Int):=J8 (k:=X.nr i) QnI QnI;rw [Ue,Qe hi,Qpy,Qd,(K7 h hi).1];simp -implicitDefEqProofs only [Q0,Qpu,Qpz,Qv (show i<=1000 by omega)];refine Qs (r:=fun m' k=>Uh 400 (encI (X.runs X.L)) (i:Int) X.Ls (Q4 (X.w i)) (D.sl 4 (GT X.Ls i)) (fun _ _ w=>Ue 400 (encI (X.runs X.L)) X.Ls (fun e f c=>K c) m ((i+1:Nat):Int) w) m' k (X.pls i++X.pl i k.toNat)) (N:=X.nr i) (fun m' k hk=>?_) (fun m'=>?_) (X.nr i) 400 0 QnI QnI |> Eq.trans (by simp [pl])
  ·simp only [Qpx];have r:=rd h hi hk;have hr:=P2 h hi hk;have ac:Q1 (GT X.Ls i) (k:Int)=some [Q4 (rF X.Ls i k 0),Q4 (X.ex i k),Q4 (X.mn i k),Q4 (X.mx i k)]:=by rw [Qd,r.row]
   have g:=r.ex0;have e1:=r.ex1;have ak:=Q6E (X:=X) (i:=i) (k:=k);rw [Uh,QJ,Q0,show (((GT X.Ls i).length:Nat):Int)=((X.nr i:Nat):Int) from rfl,Qe hk,Qpy];simp -implicitDefEqProofs only [Q0,Q14 h (show i<=X.Ls.length by omega),ac,Qpu,Qpz,Q2,QJ,hw,QaE (a:=base X.nr i) (b:=k) QnI,Q5E hi hk,Qv (show k<=1000 by omega),Q6 (x:=X.run i k+X.ex i k) QnI QnI,NY (a:=base X.nr i+k) QnI,Qdb (a:=2*(base X.nr i+k)) QnI,QhB (a:=2*(base X.nr i+k)) QnI];rw [XF QnL,Q0];by_cases d:k<X.nr i-1
   ·rw [Qe d,Qpy,XF QnL,Q0,pl,Qq5 d,<- QpD,<- QpD];rfl
   ·rw [QnP ((k:Int)<((X.nr i-1:Nat):Int)),Qpw,pl,Qq2 d,QpX,<- QpD];rfl
  ·simp only [Qpx];rw [Uh,QJ,Q0,show (((GT X.Ls i).length:Nat):Int)=((X.nr i:Nat):Int) from rfl,Qj,Qpw];rfl
 ·simp only [Qpx];rw [Ue,Qj,Qpw];rfl
theorem Qgk {per:Int} {Ch Sy:LL} (hl:X.LsOK per Ch Sy) (K:LL->oP R):SM 400 X.Ls Ch (X.T.map tuR) Sy K=K (Ch.map X.chE++X.T.map X.tuE++Sy.map X.syE):=by
 have l1:=h.l1;have tl:=h.tl;have chl:=hl.chl;have syl:=hl.syl;unfold SM;have s1:∀ k0:LL->oP R,Uf 400 X.Ls Ch (fun _ _ w=>k0 w) 400 0 []=k0 (Ch.map X.chE):=by
  intro k0;refine Qs (r:=fun m j=>Uf 400 X.Ls Ch (fun _ _ w=>k0 w) m j ((Ch.take j.toNat).map X.chE)) (N:=Ch.length) (fun m j hj=>?_) (fun m=>?_) Ch.length 400 0 QnI QnI
  ·simp only [Qpx];obtain ⟨row,e⟩:∃ q,Ch[j]? = some q:=⟨Ch[j],Qpv hj⟩;obtain ⟨f,fr,t,tr,mn,mx,w,rfl,g1,n,c,y,z,g6⟩:=hl.ch row (Qpt e);have nf:=(K7 h g1).2.1;have nt:=(K7 h c).2.1;have bf:=Y8 h (i:=f) QnI;have bt:=Y8 h (i:=t) QnI;rw [Uf,Qe hj,Qpy,Qd,e,Yt e,QpK];simp -implicitDefEqProofs only [Q0,Qpu,Qpz,Q2,Q14 h (show f<=X.Ls.length by omega),Q14 h (show t<=X.Ls.length by omega),Qv (show j<=1000 by omega),QaE (a:=base X.nr f) (b:=fr) QnI,QaE (a:=base X.nr t) (b:=tr) QnI,NY (a:=base X.nr f+fr) QnI,NY (a:=base X.nr t+tr) QnI,Qdb (a:=2*(base X.nr f+fr)) QnI];rw [XF QnL,Q0];rfl
  ·simp only [Qpx];rw [Uf,Qj,Qpw,QpP]
 have s2:∀ k0:LL->oP R,ZJ 400 X.Ls (X.T.map tuR) (fun _ _ w=>k0 w) 400 0 (Ch.map X.chE)=k0 (Ch.map X.chE++X.T.map X.tuE):=by
  intro k0;refine Qs (r:=fun m j=>ZJ 400 X.Ls (X.T.map tuR) (fun _ _ w=>k0 w) m j (Ch.map X.chE++(X.T.take j.toNat).map X.tuE)) (N:=X.T.length) (fun m j hj=>?_) (fun m=>?_) X.T.length 400 0 QnI QnI |> Eq.trans QnK
  ·simp only [Qpx];obtain ⟨⟨a,b,lo,hi⟩,e⟩:∃ q,X.T[j]? = some q:=⟨X.T[j],Qpv hj⟩;have ht:=h.tr _ (Qpt e);have g1:a<X.Ls.length:=ht.1;have c:b<X.Ls.length:=ht.2.1;have nf:=(K7 h g1).2.1;have bf:=Y8 h (i:=a) QnI;have bt:=Y8 h (i:=b) QnI;have aj:Q1 (X.T.map tuR) (j:Int)=some [Q4 a,Q4 b,Q4 lo,Q4 hi]:=QK e;have p:Ch.map X.chE++(X.T.take (j+1)).map X.tuE=Ch.map X.chE++(X.T.take j).map X.tuE++[X.tuE (a,b,lo,hi)]:=by rw [Yt e,QpK,<- QpD];rfl
   have hw:wJ (((2*(base X.nr a+X.nr a):Nat):Int)-1)=((2*(base X.nr a+(X.nr a-1))+1:Nat):Int):=by rw [Q6 QnI QnI];omega
   have ha:wJ (((base X.nr a:Nat):Int)+(((GT X.Ls a).length:Nat):Int))=((base X.nr a+X.nr a:Nat):Int):=QaE (a:=base X.nr a) (b:=X.nr a) QnI;rw [ZJ,QpB,Qe hj,Qpy,aj,p];simp -implicitDefEqProofs only [Q0,Qpu,Qpz,Q2,QJ,Q14 h (show a<=X.Ls.length by omega),Q14 h (show b<=X.Ls.length by omega),Qd,(K7 h g1).1,Qv (show j<=1000 by omega),ha,NY (a:=base X.nr a+X.nr a) QnI,NY (a:=base X.nr b) QnI,hw];rw [XF QnL,Q0];rfl
  ·simp only [Qpx];rw [ZJ,QpB,Qj,Qpw,QpP]
 have s:∀ k0:LL->oP R,YY 400 X.Ls Sy (fun _ _ w=>k0 w) 400 0 (Ch.map X.chE++X.T.map X.tuE)=k0 (Ch.map X.chE++X.T.map X.tuE++Sy.map X.syE):=by
  intro k0;refine Qs (r:=fun m j=>YY 400 X.Ls Sy (fun _ _ w=>k0 w) m j (Ch.map X.chE++X.T.map X.tuE++(Sy.take j.toNat).map X.syE)) (N:=Sy.length) (fun m j hj=>?_) (fun m=>?_) Sy.length 400 0 QnI QnI |> Eq.trans QnK
  ·simp only [Qpx];obtain ⟨row,e⟩:∃ q,Sy[j]? = some q:=⟨Sy[j],Qpv hj⟩;obtain ⟨o,rfl,g1,n,c⟩:=hl.sy row (Qpt e);have bt:=Y8 h (i:=1) QnI;have k:=Q14 (R:=Int) h (show 0<=X.Ls.length by omega) some;have l:=Q14 (R:=Int) h (show 1<=X.Ls.length by omega) some;have a0:=QaE (a:=base X.nr 0) (b:=0) (by simp [base]);have a1:=QaE (a:=base X.nr 1) (b:=0) QnI;simp only [show ((0:Nat):Int)=0 from rfl,show ((1:Nat):Int)=1 from rfl] at k l a0 a1;rw [YY,Qe hj,Qpy,Qd,e,Yt e,QpK,<- QpD];simp -implicitDefEqProofs only [Q0,Qpu,Qpz,Q2,k,l,a0,a1,Qv (show j<=1000 by omega),NY (a:=base X.nr 0+0) (by simp [base]),NY (a:=base X.nr 1+0) QnI];rw [XF QnL,Q0];rfl
  ·simp only [Qpx];rw [YY,Qj,Qpw,QpP]
 rw [s1 (fun u=>ZJ 400 X.Ls (X.T.map tuR) (fun ab ac d=>YY 400 X.Ls Sy (fun v x g=>K g) 400 0 d) 400 0 u),s2 (fun d=>YY 400 X.Ls Sy (fun v x g=>K g) 400 0 d),s]
end Cx
theorem Qg7 {α:Type} {J J':List α} (hJ:∀ t,t∈J↔t∈J') (p:α->Bool):J.any p=J'.any p:=by
 rw [Bool.eq_iff_iff,QpV,QpV];exact ⟨fun ⟨t,a,h2⟩=>⟨t,(hJ t).1 a,h2⟩,fun ⟨t,a,h2⟩=>⟨t,(hJ t).2 a,h2⟩⟩
theorem Qep {α:Type} {J J':List α} (hJ:∀ t,t∈J↔t∈J') (p:α->Bool):J.all p=J'.all p:=by
 rw [Bool.eq_iff_iff,QpJ,QpJ];exact ⟨fun h t ht=>h t ((hJ t).2 ht),fun h t ht=>h t ((hJ t).1 ht)⟩
namespace Cx
variable {R:Type} {X:Cx} {per:Int} {Ch Sy De:LL}
theorem Q71 {J J':List Tup} (hJ:∀ t,t∈J↔t∈J'):X.netV per J Ch Sy=X.netV per J' Ch Sy:=by
 have e1:∀ a b,X.fil J a b=X.fil J' a b:=fun a b=>List.filter_congr fun o _=>by
  unfold TRb;rw [Qg7 hJ]
 have e2:∀ a b,X.WV per J a b=X.WV per J' a b:=fun a b=>by
  unfold WV;rw [e1,e1]
 have d:∀ a c b,X.hdw per J a c b=X.hdw per J' a c b:=fun a c=>by
  induction c with
  |zero=>exact fun _=>rfl
  |succ c ih=>intro b;rw [hdw,hdw,e2,ih]
 have e:∀ c a,X.hdws per J c a=X.hdws per J' c a:=fun c=>by
  induction c with
  |zero=>exact fun _=>rfl
  |succ c ih=>intro a;rw [hdws,hdws,d,ih]
 unfold netV aloneJ;rw [e,Qep hJ]
variable (h:X.OK)
theorem Qg9 {a b:Nat} (ha:a<=100) (hb:b<=100) {W:List Sp2} (hW:W.length<=12) {k0:LL->oP R} {A:LL} (hA:A.length<=900):Um 400 (a:Int) (b:Int) (W.map Y0) (fun _ _ w=>k0 w) 400 0 A=k0 (A++W.map (Q3Z a b)):=by
 refine Qs (r:=fun m j=>Um 400 (a:Int) (b:Int) (W.map Y0) (fun _ _ w=>k0 w) m j (A++(W.take j.toNat).map (Q3Z a b))) (N:=W.length) (fun m j hj=>?_) (fun m=>?_) W.length 400 0 QnI QnI |> Eq.trans QnK
 ·simp only [Qpx];obtain ⟨w,e⟩:∃ q,W[j]? = some q:=⟨W[j],Qpv hj⟩;rw [Um,QpB,Qe hj,Qpy,QK e,Yt e,QpK,<- QpD];simp -implicitDefEqProofs only [Q0,QaN,Qak,Q2,Qv (show j<=1000 by omega),NY (a:=a) QnI,NY (a:=b) QnI];rw [XF QnL,Q0];rfl
 ·simp only [Qpx];rw [Um,QpB,Qj,Qpw,QpP]
include h
theorem QbT (p0:2<=per) (p1:per<=300) {J:List Tup} (hJ:X.JOK J) {a:Nat} (ha:a<X.N) {Ke:oP R} {K1:LL->oP R}:∀ (c m b:Nat) (A:LL),b+c=X.N->c<m->A.length+12*c<=900 ->
  Vd 400 (Gm (X.occs X.L)) (J.map tuR) (a:Int) per Ke (fun _ _ w=>K1 w) m (b:Int) A=match X.hdw per J a c b with | none=>Ke | some H=>K1 (A++H)
 |0,m+1,b,A,hb,_,_=>by
  have ac:(Gm (X.occs X.L)).length=X.N:=by rw [VM];exact Zg
  rw [Vd,ac,QnP ((b:Int)<(X.N:Int)),Qpw,hdw];simp only [QpX]
 |c+1,m+1,b,A,hb,hm,hA=>by
  have ac:(Gm (X.occs X.L)).length=X.N:=by rw [VM];exact Zg
  have hN:X.N<=6:=base_le h;have hw:=Q1J h p0 p1 (J:=J) ha (show b<X.N by omega);rw [Vd,ac,QnQ ((b:Int)<(X.N:Int)),Qpy,Q5m h hJ ha,Q5m h hJ (show b<X.N by omega)];simp -implicitDefEqProofs only [Q0,hw.2.1,Qv (show b<=1000 by omega),hdw];cases ew:X.WV per J a b with
  |none=>rfl
  |some W=>
   have hl:=hw.2.2 W ew;simp -implicitDefEqProofs only [Qgn];rw [Q8 (by rfl),Qg9 QnI QnI hl QnI,QbT p0 p1 hJ ha c m (b+1) _ QnI QnI QnL];cases X.hdw per J a c (b+1) with
   |none=>rfl
   |some H=>simp -implicitDefEqProofs only [Option.map_some,QpD]
theorem QbQ (p0:2<=per) (p1:per<=300) {J:List Tup} (hJ:X.JOK J) {Ke:oP R} {K1:LL->oP R}:∀ (c m a:Nat) (A:LL),a+c=X.N->c<m->A.length+72*c<=900 ->
  Ui 400 (Gm (X.occs X.L)) (J.map tuR) per Ke (fun _ _ w=>K1 w) m (a:Int) A=match X.hdws per J c a with | none=>Ke | some H=>K1 (A++H)
 |0,m+1,a,A,ha,_,_=>by
  have ac:(Gm (X.occs X.L)).length=X.N:=by rw [VM];exact Zg
  rw [Ui,ac,QnP ((a:Int)<(X.N:Int)),Qpw,hdws];simp only [QpX]
 |c+1,m+1,a,A,ha,hm,hA=>by
  have ac:(Gm (X.occs X.L)).length=X.N:=by rw [VM];exact Zg
  have hN:X.N<=6:=base_le h;rw [Ui,ac,QnQ ((a:Int)<(X.N:Int)),Qpy,Qv (show a<=1000 by omega),QbT h p0 p1 hJ (show a<X.N by omega) (Ke:=Ke) (K1:=fun A=>Ui 400 (Gm (X.occs X.L)) (J.map tuR) per Ke (fun _ _ w=>K1 w) m ((a+1:Nat):Int) A) c 400 (a+1) A QnI QnI QnI,hdws];cases eh:X.hdw per J a c (a+1) with
  |none=>rfl
  |some H=>
   have:=Q1e h p0 p1 (J:=J) (show a<X.N by omega) (c:=c) (b:=a+1) QnI eh;dsimp only;rw [QbQ p0 p1 hJ c m (a+1) (A++H) QnI QnI QnL];cases X.hdws per J c (a+1) with
   |none=>rfl
   |some H'=>simp -implicitDefEqProofs only [Option.map_some,QpD]
theorem Qcn (p0:2<=per) (p1:per<=300) {k0 E:oP R} {k1:Int->Bool->oP R} (hk:∀ a b,k1 a b=E):Uq 400 (Gm (X.occs X.L)) per k0 k1 400 0=bif (X.occs X.L).all (fun o=>o.all (Rk per)) then E else k0:=by
 have hN:X.N<=6:=base_le h;have aj:(X.occs X.L).length=X.N:=Zg;refine T5 (r:=fun m i=>Uq 400 (Gm (X.occs X.L)) per k0 k1 m i) (fun m i o e hi=>?_) (fun m=>?_) QnI
 ·have ho:=Q9x h o (Qpt e);have ac:Q1 (Gm (X.occs X.L)) (i:Int)=some [D.sl 3 (o.map enc)]:=QK e;rw [Uq,VM,Qe hi,Qpy,ac];simp -implicitDefEqProofs only [Q0,Qpu,QJ,QeZ (show 1<=per by omega) (show per<=7200 by omega) ho.1 (show o.length<=300 by omega),Qv (show i<=1000 by omega)];cases o.all (Rk per) <;> rfl
 ·rw [Uq,VM,Qj,Qpw,hk]
theorem Qdq {J:List Tup} (hJ:X.JOK J) {k0 E:oP R} {k1:Int->Bool->oP R} (hk:∀ a b,k1 a b=E):Ur 400 (Gm (X.occs X.L)) (J.map tuR) per k0 k1 400 0=bif J.all (fun t=>!Q7C per t.2.2.1 t.2.2.2 (X.occN t.1) (X.occN t.2.1)) then E else k0:=by
 have aj:=hJ.len;refine T5 (r:=fun m i=>Ur 400 (Gm (X.occs X.L)) (J.map tuR) per k0 k1 m i) (fun m i t e hi=>?_) (fun m=>?_) QnI
 ·rw [Ur,QpB,Qe hi,Qpy,QK e];simp -implicitDefEqProofs only [Q0,tuR,Qpu,Qpz,Q2,Qv (show i<=1000 by omega),Qfu h hJ (Qpt e)];cases Q7C per t.2.2.1 t.2.2.2 (X.occN t.1) (X.occN t.2.1) <;> rfl
 ·rw [Ur,QpB,Qj,Qpw,hk]
theorem buildR (hl:X.LsOK per Ch Sy) (p0:2<=per) (p1:per<=300) (hc:U6 400 X.G.St X.G.Pt X.G.Se X.G.Li per X.skR X.Ro X.Ls Ch (X.T.map tuR) Sy De (some:Int->oP Int)=some 0) :
  HS 400 X.G.St X.G.Pt X.G.Se X.G.Li per X.skR X.Ro X.Ls Ch (X.T.map tuR) Sy De Tu4=some (X.netV per X.jns Ch Sy):=by
 have hN:X.N<=6:=base_le h;have aj:(X.occs X.L).length=X.N:=Zg;have al:=planned_len h hl;have hJ:=QeT h;have ac:(X.pls X.L++(Ch.map X.chE++X.T.map X.tuE++Sy.map X.syE))=X.planned Ch Sy:=by unfold planned;simp only [QpD]
 rw [<- Q71 fun t=>Q2b h (t:=t)];unfold HS netV;rw [Qfx h hc,Q0,Q8 (by rfl)];dsimp only;rw [VM,aj,NY QnI,Q8 (QpI QnI),Qcn h p0 p1 (fun _ _=>rfl)];unfold aloneJ;cases (X.occs X.L).all (fun o=>o.all (Rk per))
 ·rfl
 rw [Qpy,Qpy,Qg4 h,Q0,Qdq h hJ (fun _ _=>rfl)];cases (X.jnsR X.L).all (fun t=>!Q7C per t.2.2.1 t.2.2.2 (X.occN t.1) (X.occN t.2.1))
 ·rfl
 rw [Qpy,Qpy];refine (QcQ h _).trans ?_;rw [Qf5 h,Qgk h hl,Q0,Q0,XF (by rw [<- QpR,ac];omega),Q0,ac];refine (QbQ h p0 p1 hJ (Ke:=some ((0:Int),([]:LL),([]:LL),(13:Int))) (K1:=fun a=>bif decide (((List.length a:Nat):Int)>512) then some (0,[],[],7) else some (per,X.evs X.L,a,0)) X.N 400 0 (X.planned Ch Sy) QnI QnI QnI).trans ?_;cases eh:X.hdws per (X.jnsR X.L) X.N 0 with
 |none=>rfl
 |some H=>
  have:=hdws_len h p0 p1 QnI eh;dsimp only;rw [Q8 (QpI (by rw [QpR];omega))]
end Cx
def R6 (row:List D):Prop:=∃ kd f t mn mx w:Int,row=[Q4 kd,Q4 f,Q4 t,Q4 mn,Q4 mx,Q4 w]
def chk (per:Int) (e:Nat):List D->Bool
 |[_,.int _ f,.int _ t,.int _ mn,.int _ mx,.int _ w]=>!(bif bif !(bif decide (f>=0) then decide (f<(e:Int)) else false) then true else !(bif decide (t>=0) then decide (t<(e:Int)) else false) then true else f == t)&&(!(bif bif bif decide (mn < -65536) then true else decide (mn>mx) then true else decide (mx>65536) then true else decide (wJ (mx-mn)>=per))&&!(bif decide (w<0) then true else decide (w>1048576)))
 |_=>false
theorem Qdk {per:Int} {e:Nat} {kd f t mn mx w:Int} (h:chk per e [Q4 kd,Q4 f,Q4 t,Q4 mn,Q4 mx,Q4 w]=true):0<=f/\f<e/\0<=t/\t<e /\ -65536<=mn/\mn<=mx/\mx<=65536:=by
 simp only [chk,Bool.cond_true_left,Bool.cond_false_right,QpM,Qqf,Bool.or_eq_false_iff,Bool.not_eq_false',Qqc,decide_eq_false_iff_not,beq_eq_false_iff_ne] at h;omega
section
variable {per:Int} {E A:LL} (p0:2<=per) (p1:per<=300) (hE:E.length<=48) (hA:A.length<=512) (hr:∀ r∈A,R6 r)
include p0 p1 hE hA hr
theorem QeU (hl:A.length<400):HJ 400 per E A some=some (A.all (chk per E.length)):=by
 unfold HJ;rw [QnP (per<2),QnP (per>7200),QnP ((E.length:Int)>48),QnP ((A.length:Int)>512)];simp -implicitDefEqProofs only [Qpw];refine (T5 (r:=fun m i=>WN 400 A (A.length:Int) per E A (some false) (fun _ _=>some true) m i) (l:=A) (p:=chk per E.length) (E0:=some false) (E1:=some true) (fun m i q e hi=>?_) (fun m=>?_) (fuel:=400) QnI).trans (by cases A.all (chk per E.length) <;> rfl)
 ·obtain ⟨kd,f,t,mn,mx,w,rfl⟩:=hr q (Qpt e);rw [WN,Qe hi,Qpy,Qd,e];unfold JT;simp -implicitDefEqProofs only [Q0,Qpu,Qpz,Q2,Qv (show i<=1000 by omega)];dsimp only [chk];cases (bif bif !(bif decide (f>=0) then decide (f<(E.length:Int)) else false) then true else !(bif decide (t>=0) then decide (t<(E.length:Int)) else false) then true else f == t)
  ·cases (bif bif bif decide (mn < -65536) then true else decide (mn>mx) then true else decide (mx>65536) then true else decide (wJ (mx-mn)>=per))
   ·cases (bif decide (w<0) then true else decide (w>1048576)) <;> rfl
   ·rfl
  ·rfl
 ·rw [WN,Qj,Qpw]
theorem Qfz (hl:A.length<400):Sb 400 per E A some=some (A.all (chk per E.length)):=by
 unfold Sb Hy;rw [QnQ (per>=2),QnQ (per<=7200),QnP ((E.length:Int)>48),QnP ((A.length:Int)>512)];simp -implicitDefEqProofs only [Qpw,Qpy,Q0,QpW];refine (T5 (r:=fun m i=>Ve 400 per E A (some false) (fun _ _=>some true) m i) (l:=A) (p:=chk per E.length) (E0:=some false) (E1:=some true) (fun m i q e hi=>?_) (fun m=>?_) (fuel:=400) QnI).trans (by cases A.all (chk per E.length) <;> rfl)
 ·obtain ⟨kd,f,t,mn,mx,w,rfl⟩:=hr q (Qpt e);rw [Ve,Qe hi,Qpy,Qd,e];unfold Hy;simp -implicitDefEqProofs only [Q0,Qpu,Qpz,Q2,Qv (show i<=1000 by omega),Q6 (x:=(E.length:Int)-1) QnI QnI];have sw:∀ (c d:Bool) (x y:oP Bool),c = !d->(bif c then x else y)=bif d then y else x:=fun c d x y h=>by rw [h];cases d <;> rfl
  refine sw _ _ _ _ ?_;rw [Bool.eq_iff_iff];simp only [chk,Bool.cond_true_left,Bool.cond_false_right,QpM,Bool.or_eq_true,Qqf,Bool.and_eq_false_iff,Bool.or_eq_false_iff,Bool.not_eq_false',Qqc,decide_eq_false_iff_not,beq_eq_false_iff_ne,beq_iff_eq];omega
 ·rw [Ve,Qj,Qpw]
def Q44 (per:Int) (E A:LL) (tl:List Int):Bool:=bif (bif !(A.all (chk per E.length)) then true else (tl.length:Int) != (E.length:Int)) then false else tl.all fun x=>!(bif decide (x<0) then true else decide (x>=per))
theorem Qfr (hl:A.length<400) {tl:List Int}:JG 400 per E A (encI tl) some=some (Q44 per E A tl)/\Pm 400 per E A (encI tl) some=some (Q44 per E A tl):=by
 have ca:=QeU p0 p1 hE hA hr hl;have cb:=Qfz p0 p1 hE hA hr hl;have ac:(encI tl).length=tl.length:=Ju tl;unfold JG Pm Q44;rw [ca,cb,Q0,Q0,ac];cases hc:(bif !(A.all (chk per E.length)) then true else (tl.length:Int) != (E.length:Int)) with
 |true=>exact ⟨rfl,rfl⟩
 |false=>
  have aj:tl.length=E.length:=by
   cases a : !(A.all (chk per E.length)) with
   |true=>rw [a] at hc;cases hc
   |false=>
    rw [a,Qpw] at hc;have:(tl.length:Int)=(E.length:Int):=by simpa using hc
    omega
  rw [Qpw,Qpw,Qpw];constructor
  ·refine (T5 (r:=fun m i=>UK 400 (encI tl) (tl.length:Int) per (some false) (fun _ _=>some true) m i) (l:=tl) (p:=fun x=>!(bif decide (x<0) then true else decide (x>=per))) (E0:=some false) (E1:=some true) (fun m i q e hi=>?_) (fun m=>?_) (fuel:=400) QnI).trans (by cases tl.all _ <;> rfl)
   ·rw [UK,Qe hi,Qpy,Sw e];simp -implicitDefEqProofs only [Q0,Qpu,Q2,Qv (show i<=1000 by omega)];cases (bif decide (q<0) then true else decide (q>=per)) <;> rfl
   ·rw [UK,Qj,Qpw]
  ·refine (T5 (r:=fun m i=>VP 400 (encI tl) per (some false) (fun _ _=>some true) m i) (l:=tl) (p:=fun x=>!(bif decide (x<0) then true else decide (x>=per))) (E0:=some false) (E1:=some true) (fun m i q e hi=>?_) (fun m=>?_) (fuel:=400) QnI).trans (by cases tl.all _ <;> rfl)
   ·rw [VP,ac,Qe hi,Qpy,Sw e];unfold Hy;simp -implicitDefEqProofs only [Q0,Qpu,Q2,Qv (show i<=1000 by omega),Q6 (x:=per-1) QnI QnI];by_cases a:q<0
    ·rw [QnP (q>=0),show decide (q<0)=true from QpZ a];rfl
    ·rw [QnQ (q>=0),show decide (q<0)=false from QpI a];by_cases h2:q>=per
     ·rw [QnP (q<=per-1),show decide (q>=per)=true from QpZ h2];rfl
     ·rw [QnQ (q<=per-1),show decide (q>=per)=false from QpI h2];rfl
   ·rw [VP,ac,Qj,Qpw]
end
theorem Q6k {w:List Int} {i:Nat} {v:Int}:(encI w).set i [Q4 v]=encI (w.set i v):=by
 unfold encI;rw [List.map_set]
def Q5I (l:List Nat):LL:=l.map fun i:Nat=>[Q4 (i:Int)]
def Qc8 (rs:List (List Nat×Bool)):LL:=rs.map fun r=>[D.sl 1 (Q5I r.1),D.bool r.2]
def QiU (l:LL):List Nat:=l.map fun r=>match r with | [.int _ x]=>x.toNat | _=>0
def Qe4 (a:LL):List (List Nat×Bool):=a.map fun r=>match r with | [.sl _ l,.bool c]=>(QiU l,c) | _=>([],false)
def eqI:LL->LL->Bool
 |[],[]=>true
 |[.int .i64 x]::a,[.int .i64 y]::b=>decide (x=y)&&eqI a b
 |_,_=>false
def eqR:LL->LL->Bool
 |[],[]=>true
 |[.sl 1 l,.bool c]::a,[.sl 1 l',.bool c']::b=>eqI l l'&&(c == c'&&eqR a b)
 |_,_=>false
theorem QbI:∀ {a b:LL},eqI a b=true->a=b:=by
 intro a b;induction a,b using eqI.induct with
 |case1=>exact fun _=>rfl
 |case2 x a y b ih=>
  intro h;rw [eqI,QpM,Qqc] at h;rw [h.1,ih h.2]
 |case3 a b c h2=>intro h;rw [eqI] at h <;> first | cases h | assumption
theorem QeE:∀ {a b:LL},eqR a b=true->a=b:=by
 intro a b;induction a,b using eqR.induct with
 |case1=>exact fun _=>rfl
 |case2 l c a l' c' b ih=>
  intro h;rw [eqR,QpM,QpM,beq_iff_eq] at h;rw [QbI h.1,h.2.1,ih h.2.2]
 |case3 a b d h2=>intro h;rw [eqR] at h <;> first | cases h | assumption
def tix (T:List Tup) (i:Nat):Int:=match T.findIdx? fun t=>t.1 == i with
 |some j=>(j:Int)
 |none => -1
def Q3H:List (List Nat×Bool)->Nat
 |[]=>0
 |r::rs=>r.1.length+Q3H rs
def nx (r:List Nat×Bool) (x:Nat):oP Nat:=bif Nat.blt (x+1) r.1.length then r.1[x+1]? else bif r.2 then r.1[0]? else none
def QhQ (rs:List (List Nat×Bool)) (i:Nat):Nat×Nat:=(rs.findIdx fun r=>r.1.any (Nat.beq i),(rs.getD (rs.findIdx fun r=>r.1.any (Nat.beq i)) ([],false)).1.findIdx (Nat.beq i))
def eqO:oP Nat->Nat->Bool
 |some a,b=>Nat.beq a b
 |none,_=>false
def QaU (T:List Tup) (rs:List (List Nat×Bool)):Bool:=
 ((List.range rs.length).all fun j=>(List.range (rs.getD j ([],false)).1.length).all fun x=>Nat.beq (QhQ rs ((rs.getD j ([],false)).1.getD x 0)).1 j&&Nat.beq (QhQ rs ((rs.getD j ([],false)).1.getD x 0)).2 x) &&
 ((T.all fun t=>rs.any fun r=>(List.range r.1.length).any fun x=>eqO (r.1[x]?) t.1&&eqO (nx r x) t.2.1) &&
 rs.all fun r=>(List.range r.1.length).all fun x=>match nx r x with
  |some b=>T.any fun t=>eqO (r.1[x]?) t.1&&Nat.beq t.2.1 b
  |none=>true)
def Rz (Ls:LL) (T:List Tup):Bool:=match XB 400 Ls (T.map tuR) some,Z7 400 Ls (T.map tuR) some with
 |some a,some t=>eqR a (Qc8 (Qe4 a))&&(eqI t (encI ((List.range Ls.length).map (tix T)))&&((Qe4 a).all (fun r=>Nat.blt 0 r.1.length&&r.1.all fun i=>Nat.blt i Ls.length)&&(Nat.ble (Q3H (Qe4 a)) Ls.length&&(Nat.blt 0 (Qe4 a).length&&QaU T (Qe4 a)))))
 |_,_=>false
section
variable (x y z:List D) (lo hi lo' hi' lo'' hi'':Int)
theorem QhG:Rz [x] []=true/\Rz [x,y] []=true/\Rz [x,y,z] []=true:=⟨by kernel_rfl,by kernel_rfl,by kernel_rfl⟩
theorem Qh8:Rz [x] [(0,0,lo,hi)]=true:=by kernel_rfl
def u2:List Nat:=[0,1]
def u3:List Nat:=[0,1,2]
theorem Qhu:(u2.all fun a=>u2.all fun b=>Rz [x,y] [(a,b,lo,hi)])=true:=by kernel_rfl
theorem Qhs:(u3.all fun a=>u3.all fun b=>Rz [x,y,z] [(a,b,lo,hi)])=true:=by kernel_rfl
theorem QhP:(u2.all fun a=>u2.all fun b=>u2.all fun a'=>u2.all fun b'=>(Nat.beq a a'||Nat.beq b b')||Rz [x,y] [(a,b,lo,hi),(a',b',lo',hi')])=true:=by kernel_rfl
theorem QhY:(u3.all fun a=>u3.all fun b=>u3.all fun a'=>u3.all fun b'=>(Nat.beq a a'||Nat.beq b b')||Rz [x,y,z] [(a,b,lo,hi),(a',b',lo',hi')])=true:=by kernel_rfl
theorem QgZ:(u3.all fun a=>u3.all fun b=>u3.all fun a'=>u3.all fun b'=>(Nat.beq a a'||Nat.beq b b')||u3.all fun aj=>u3.all fun ac=>(Nat.beq a aj||Nat.beq b ac||Nat.beq a' aj||Nat.beq b' ac)||Rz [x,y,z] [(a,b,lo,hi),(a',b',lo',hi'),(aj,ac,lo'',hi'')])=true:=by kernel_rfl
end
theorem Qaz {l:List Nat} {f:Nat->Nat->Bool} (h:(l.all fun a=>l.all fun b=>f a b)=true) {a b:Nat} (ha:a∈l) (hb:b∈l):f a b=true:=QpJ.1 (QpJ.1 h a ha) b hb
theorem Qe8 {a:Nat} (h:a<2):a∈u2:=by
 obtain rfl | rfl:a=0\/a=1:=QnI
 all_goals decide
theorem Q7F {a:Nat} (h:a<3):a∈u3:=by
 obtain rfl | rfl | rfl:a=0\/a=1\/a=2:=QnI
 all_goals decide
theorem Q7k {a b:Nat} (h:a≠b):Nat.beq a b=false:=Bool.eq_false_iff.2 fun e=>h (Qq1 e)
theorem ne2 {a b a' b':Nat} {x:Bool} (h:(Nat.beq a a'||Nat.beq b b'||x)=true) (c:a≠a') (h2:b≠b'):x=true:=by
 simpa [Q7k c,Q7k h2] using h
theorem ne4 {a b a' b' c d c' d':Nat} {x:Bool} (h:(Nat.beq a a'||Nat.beq b b'||Nat.beq c c'||Nat.beq d d'||x)=true) (e:a≠a') (h2:b≠b') (f:c≠c') (g:d≠d'):x=true:=by
 simpa [Q7k e,Q7k h2,Q7k f,Q7k g] using h
theorem Qj4 {Ls:LL} {T:List Tup} (l0:1<=Ls.length) (l1:Ls.length<=3) (hb:∀ t∈T,t.1<Ls.length/\t.2.1<Ls.length) (c:(T.map (·.1)).Nodup) (d:(T.map (·.2.1)).Nodup):Rz Ls T=true:=by
 rcases Ls with _ | ⟨x,_ | ⟨y,_ | ⟨z,_ | ⟨w,r⟩⟩⟩⟩
 ·simp at l0
 ·rcases T with _ | ⟨⟨a,b,lo,hi⟩,_ | ⟨⟨a',b',lo',hi'⟩,T⟩⟩
  ·exact (QhG x x x).1
  ·obtain ⟨ha,e⟩:=hb _ (QpE ..);obtain rfl:a=0:=by simpa using ha
   obtain rfl:b=0:=by simpa using e
   exact Qh8 x lo hi
  ·have f:=(hb _ (QpE ..)).1;have h2:=(hb _ (QpG _ (QpE ..))).1;simp at f h2 c;omega
 ·rcases T with _ | ⟨⟨a,b,lo,hi⟩,_ | ⟨⟨a',b',lo',hi'⟩,_ | ⟨⟨ao,an,lo'',hi''⟩,T⟩⟩⟩
  ·exact (QhG x y x).2.1
  ·obtain ⟨ha,hb⟩:=hb _ (QpE ..);exact Qaz (Qhu x y lo hi) (Qe8 ha) (Qe8 hb)
  ·obtain ⟨ha,e⟩:=hb _ (QpE ..);obtain ⟨aj,ac⟩:=hb _ (QpG _ (QpE ..));simp at c d;exact ne2 (Qaz (Qaz (QhP x y lo hi lo' hi') (Qe8 ha) (Qe8 e)) (Qe8 aj) (Qe8 ac)) c d
  ·have f:=(hb _ (QpE ..)).1;have h2:=(hb _ (QpG _ (QpE ..))).1;have g:=(hb _ (QpG _ (QpG _ (QpE ..)))).1;simp at f h2 g c;omega
 ·rcases T with _ | ⟨⟨a,b,lo,hi⟩,_ | ⟨⟨a',b',lo',hi'⟩,_ | ⟨⟨ao,an,lo'',hi''⟩,_ | ⟨⟨i,j,k,l⟩,T⟩⟩⟩⟩
  ·exact (QhG x y z).2.2
  ·obtain ⟨ha,hb⟩:=hb _ (QpE ..);exact Qaz (Qhs x y z lo hi) (Q7F ha) (Q7F hb)
  ·obtain ⟨ha,e⟩:=hb _ (QpE ..);obtain ⟨aj,ac⟩:=hb _ (QpG _ (QpE ..));simp at c d;exact ne2 (Qaz (Qaz (QhY x y z lo hi lo' hi') (Q7F ha) (Q7F e)) (Q7F aj) (Q7F ac)) c d
  ·obtain ⟨ha,e⟩:=hb _ (QpE ..);obtain ⟨aj,ac⟩:=hb _ (QpG _ (QpE ..));obtain ⟨al,ak⟩:=hb _ (QpG _ (QpG _ (QpE ..)));simp at c d;have f:=ne2 (Qaz (Qaz (QgZ x y z lo hi lo' hi' lo'' hi'') (Q7F ha) (Q7F e)) (Q7F aj) (Q7F ac)) c.1.1 d.1.1;exact ne4 (Qaz f (Q7F al) (Q7F ak)) c.1.2 d.1.2 c.2 d.2
  ·have f:=(hb _ (QpE ..)).1;have h2:=(hb _ (QpG _ (QpE ..))).1;have g:=(hb _ (QpG _ (QpG _ (QpE ..)))).1;have h:=(hb _ (QpG _ (QpG _ (QpG _ (QpE ..))))).1;simp at f h2 g h c;omega
 ·simp at l1
theorem Q5u {α:Type} {p:α->Bool}:∀ {l:List α},(l.find? p=none/\l.findIdx? p=none)\/∃ t j,l.find? p=some t/\l.findIdx? p=some j/\l[j]? = some t
 |[]=>.inl ⟨rfl,rfl⟩
 |a::l=>by
  rw [List.find?_cons,List.findIdx?_cons];cases ha:p a with
  |true=>exact .inr ⟨a,0,rfl,rfl,rfl⟩
  |false=>
   rcases Q5u (p:=p) (l:=l) with ⟨b,h2⟩ | ⟨t,j,b,h2,c⟩
   ·exact .inl ⟨b,by simp [h2]⟩
   ·exact .inr ⟨t,j+1,b,by simp [h2],c⟩
namespace Cx
variable {X:Cx} (h:X.OK)
include h
theorem rotsP:∃ rs:List (List Nat×Bool),XB 400 X.Ls (X.T.map tuR) some=some (Qc8 rs)/\Z7 400 X.Ls (X.T.map tuR) some=some (encI ((List.range X.L).map (tix X.T)))/\(∀ r∈rs,1<=r.1.length/\∀ i∈r.1,i<X.Ls.length)/\Q3H rs<=3/\1<=rs.length/\QaU X.T rs=true:=by
 have hc:=Qj4 h.l0 h.l1 (fun t ht=>⟨(h.tr t ht).1,(h.tr t ht).2.1⟩) h.fd h.td;have l1:=h.l1;unfold Rz at hc;cases e1:XB 400 X.Ls (X.T.map tuR) some with
 |none=>rw [e1] at hc;cases hc
 |some a=>
  cases b:Z7 400 X.Ls (X.T.map tuR) some with
  |none=>rw [e1,b] at hc;cases hc
  |some t=>
   rw [e1,b] at hc;simp only [QpM] at hc;obtain ⟨c1,c,d,e,f,g⟩:=hc;refine ⟨Qe4 a,by rw [<- QeE c1],by rw [QbI c];rfl,fun r hr=>?_,?_,Qqa f,g⟩
   ·have:=QpJ.1 d r hr;rw [QpM] at this;exact ⟨Qqa this.1,fun i hi=>Qqa (QpJ.1 this.2 i hi)⟩
   ·have:=Qqa e;omega
end Cx
def tat (tl:List Int) (i:Int):Int:=tl.getD i.toNat 0
def dur (tl:List Int) (per f t mn:Int):Int:=mn+(tat tl t-tat tl f-mn) % per
def UT (tl:List Int) (per:Int):List D->Int
 |[_,.int _ f,.int _ t,.int _ mn,_,_]=>dur tl per f t mn
 |_=>0
namespace Cx
variable {X:Cx}
structure Gd (X:Cx) (per:Int) (Ch Sy A:LL) (tl:List Int):Prop where
 ok:X.OK
 ls:X.LsOK per Ch Sy
 p0:2<=per
 p1:per<=300
 act:∃ H,A=X.planned Ch Sy++H/\∀ r∈H,∃ a b w,r=Q3Z a b w
 len:A.length<400
 tlen:tl.length=2*X.N
 tr:∀ x∈tl,0<=x/\x<per
 ck:∀ r∈A,chk per (2*X.N) r=true
theorem Q67 {per:Int} {J:List Tup} {a:Nat}:∀ {c b:Nat} {H:LL},X.hdw per J a c b=some H->∀ r∈H,∃ a b w,r=Q3Z a b w
 |0,b,H,e=>by cases e;exact fun r hr=>nomatch hr
 |c+1,b,H,e=>by
  rw [hdw] at e;cases ew:X.WV per J a b with
  |none=>rw [ew] at e;cases e
  |some W=>
   rw [ew] at e;cases eh:X.hdw per J a c (b+1) with
   |none=>simp only [eh] at e;cases e
   |some H'=>
    simp only [eh] at e;cases e;intro r hr;rcases QpH.1 hr with hr | hr
    ·obtain ⟨w,_,rfl⟩:=Qq0.1 hr;exact ⟨_,_,_,rfl⟩
    ·exact Q67 eh r hr
theorem hdws_rows {per:Int} {J:List Tup}:∀ {c a:Nat} {H:LL},X.hdws per J c a=some H->∀ r∈H,∃ a b w,r=Q3Z a b w
 |0,b,H,e=>by cases e;exact fun r hr=>nomatch hr
 |c+1,a,H,e=>by
  rw [hdws] at e;cases ew:X.hdw per J a c (a+1) with
  |none=>rw [ew] at e;cases e
  |some W=>
   rw [ew] at e;cases eh:X.hdws per J c (a+1) with
   |none=>simp only [eh] at e;cases e
   |some H'=>
    simp only [eh] at e;cases e;intro r hr;rcases QpH.1 hr with hr | hr
    ·exact Q67 ew r hr
    ·exact hdws_rows eh r hr
theorem Qc9 {i:Nat} {r:List D}:∀ {K:Nat},r∈X.pl i K->∃ k,k<K/\(r=X.aR i k\/k<X.nr i-1/\r=X.aD i k)
 |0,h=>nomatch h
 |K+1,h=>by
  rw [pl] at h;rcases QpH.1 h with h | h
  ·rcases QpH.1 h with h | h
   ·obtain ⟨k,hk,h⟩:=Qc9 h;exact ⟨k,QnI,h⟩
   ·exact ⟨K,QnI,.inl (QpN.1 h)⟩
  ·split at h
   ·exact ⟨K,QnI,.inr ⟨by assumption,QpN.1 h⟩⟩
   ·nomatch h
theorem Q9c {r:List D}:∀ {L:Nat},r∈X.pls L->∃ i k,i<L/\k<X.nr i/\(r=X.aR i k\/k<X.nr i-1/\r=X.aD i k)
 |0,h=>nomatch h
 |L+1,h=>by
  rw [pls] at h;rcases QpH.1 h with h | h
  ·obtain ⟨i,k,hi,h⟩:=Q9c h;exact ⟨i,k,QnI,h⟩
  ·obtain ⟨k,hk,h⟩:=Qc9 h;exact ⟨L,k,QnI,hk,h⟩
variable {per:Int} {Ch Sy A:LL} {tl:List Int}
theorem Q9G (h:X.OK) (hl:X.LsOK per Ch Sy) {H:LL} (hH:∀ r∈H,∃ a b w,r=Q3Z a b w) {r:List D} (hr:r∈X.planned Ch Sy++H):(∃ i k,i<X.Ls.length/\k<X.nr i/\(r=X.aR i k\/k<X.nr i-1/\r=X.aD i k))\/(∃ t∈X.T,r=X.tuE t)\/∃ kd f t mn mx w:Int,(kd=3\/kd=5\/kd=6)/\r=[Q4 kd,Q4 f,Q4 t,Q4 mn,Q4 mx,Q4 w]:=by
 rcases QpH.1 hr with hr | hr
 ·rcases QpH.1 hr with hr | hr
  ·rcases QpH.1 hr with hr | hr
   ·rcases QpH.1 hr with hr | hr
    ·exact .inl (Q9c hr)
    ·obtain ⟨row,ac,rfl⟩:=Qq0.1 hr;obtain ⟨f,fr,t,tr,mn,mx,w,rfl,_⟩:=hl.ch row ac;exact .inr (.inr ⟨3,_,_,mn,mx,w,.inl rfl,rfl⟩)
   ·obtain ⟨t,ht,rfl⟩:=Qq0.1 hr;exact .inr (.inl ⟨t,ht,rfl⟩)
  ·obtain ⟨row,ac,rfl⟩:=Qq0.1 hr;obtain ⟨o,rfl,_⟩:=hl.sy row ac;exact .inr (.inr ⟨5,_,_,o,o,0,.inr (.inl rfl),rfl⟩)
 ·obtain ⟨a,b,w,rfl⟩:=hH r hr;exact .inr (.inr ⟨6,_,_,w.1,w.2,0,.inr (.inr rfl),rfl⟩)
theorem act_r6 (h:X.OK) (hl:X.LsOK per Ch Sy) {H:LL} (hH:∀ r∈H,∃ a b w,r=Q3Z a b w) {r:List D} (hr:r∈X.planned Ch Sy++H):R6 r:=by
 rcases Q9G h hl hH hr with ⟨i,k,_,_,rfl | ⟨_,rfl⟩⟩ | ⟨t,_,rfl⟩ | ⟨kd,f,t,mn,mx,w,_,rfl⟩
 ·exact ⟨_,_,_,_,_,_,rfl⟩
 ·exact ⟨_,_,_,_,_,_,rfl⟩
 ·exact ⟨_,_,_,_,_,_,rfl⟩
 ·exact ⟨_,_,_,_,_,_,rfl⟩
variable (g:X.Gd per Ch Sy A tl)
include g
theorem Gd.r6 {r:List D} (hr:r∈A):R6 r:=by
 obtain ⟨H,rfl,hH⟩:=g.act;exact act_r6 g.ok g.ls hH hr
theorem Gd.tat {i:Int} (a:0<=i) (b:i<(2*X.N:Nat)):Q1 (encI tl) i=some [Q4 (Vx.tat tl i)]/\0<=Vx.tat tl i/\Vx.tat tl i<per:=by
 have hl:=g.tlen;have e:tl[i.toNat]? = some (Vx.tat tl i):=by
  unfold Vx.tat;rw [QpA,Qpv QnI];rfl
 have:=Sw e;rw [show (i.toNat:Int)=i by omega] at this;exact ⟨this,g.tr _ (Qpt e)⟩
theorem Gd.row {r:List D} (hr:r∈A):∃ kd f t mn mx w:Int,r=[Q4 kd,Q4 f,Q4 t,Q4 mn,Q4 mx,Q4 w]/\(0<=f/\f<(2*X.N:Nat))/\(0<=t/\t<(2*X.N:Nat)) /\ -65536<=mn/\mn<=65536:=by
 obtain ⟨kd,f,t,mn,mx,w,rfl⟩:=g.r6 hr;have:=Qdk (g.ck _ hr);exact ⟨kd,f,t,mn,mx,w,rfl,QnI,QnI,QnI⟩
theorem Gd.dur_rng {r:List D} (hr:r∈A) : -65536<=UT tl per r/\UT tl per r<=66000:=by
 obtain ⟨kd,f,t,mn,mx,w,rfl,hf,ht,a,h2⟩:=g.row hr;have p0:=g.p0;have p1:=g.p1;have:=QpO (Vx.tat tl t-Vx.tat tl f-mn) (show per≠0 by omega);have:=QpQ (Vx.tat tl t-Vx.tat tl f-mn) (show 0<per by omega);simp only [UT,dur];omega
theorem Gd.durP {R:Type} {a:Nat} {r:List D} (e:A[a]? = some r) (K:Int->oP R):Xl 400 per A (encI tl) (a:Int) K=K (UT tl per r):=by
 have hr:=Qpt e;have p0:=g.p0;have p1:=g.p1;obtain ⟨kd,f,t,mn,mx,w,rfl,hf,ht,b,h2⟩:=g.row hr;have tf:=g.tat hf.1 hf.2;have tt:=g.tat ht.1 ht.2;have:=QpO (Vx.tat tl t-Vx.tat tl f-mn) (show per≠0 by omega);have:=QpQ (Vx.tat tl t-Vx.tat tl f-mn) (show 0<per by omega);unfold Xl;rw [Qd,e];simp -implicitDefEqProofs only [Q0,Qpu,Qpz,Q2,tf.1,tt.1,Q6 (x:=Vx.tat tl t-Vx.tat tl f) QnI QnI,Q6 (x:=Vx.tat tl t-Vx.tat tl f-mn) QnI QnI,Qhe (n:=400) (t:=per) (x:=Vx.tat tl t-Vx.tat tl f-mn) QnI QnI QnI QnI,Q6 (x:=mn+(Vx.tat tl t-Vx.tat tl f-mn) % per) QnI QnI];rfl
end Cx
namespace Cx
variable {X:Cx} {per:Int} {Ch Sy A:LL} {tl:List Int}
theorem QbC {i:Nat} (hn:X.nr i=1\/X.nr i=2):(X.nr i=1/\X.pl i (X.nr i)=[X.aR i 0])\/(X.nr i=2/\X.pl i (X.nr i)=[X.aR i 0,X.aD i 0,X.aR i 1]):=by
 rcases hn with hn | hn
 ·exact .inl ⟨hn,by rw [hn];simp [pl,hn]⟩
 ·exact .inr ⟨hn,by rw [hn];simp [pl,hn]⟩
theorem Q9o {i j:Nat} (hj:j<(X.pl i (X.nr i)).length):∀ {L:Nat},i<L->(X.pls L)[(X.pls i).length+j]? = (X.pl i (X.nr i))[j]?
 |0,h=>by omega
 |L+1,h=>by
  rw [pls];by_cases hi:i=L
  ·subst hi;rw [Qq9 QnI,Nat.add_sub_cancel_left]
  ·have ih:=Q9o hj (L:=L) QnI;have ac:(X.pls i).length+j<(X.pls L).length:=by
    rw [Qpv hj] at ih;exact (QpC.1 ih).1
   rw [List.getElem?_append_left ac,ih]
variable (h:X.OK)
include h
theorem LX {i:Nat} (hi:i<=X.Ls.length):(X.pls i).length+i=2*base X.nr i:=by
 induction i with
 |zero=>rfl
 |succ i ih=>
  have ih:=ih QnI;rw [pls,QpR,base];rcases QbC (K7 h (i:=i) QnI).2.1 with ⟨a,h2⟩ | ⟨a,h2⟩
  ·rw [h2,a];simp;omega
  ·rw [h2,a];simp;omega
omit h
variable (g:X.Gd per Ch Sy A tl)
include g
theorem Gd.runAt {i k:Nat} (hi:i<X.Ls.length) (hk:k<X.nr i):A[2*base X.nr i-i+2*k]? = some (X.aR i k)/\(k<X.nr i-1->A[2*base X.nr i-i+2*k+1]? = some (X.aD i k)):=by
 obtain ⟨H,rfl,_⟩:=g.act;have hl:=LX g.ok (i:=i) QnI;have a:2*base X.nr i-i=(X.pls i).length:=QnI
 have at':∀ j r,(X.pl i (X.nr i))[j]? = some r->(X.planned Ch Sy++H)[2*base X.nr i-i+j]? = some r:=fun j r e=>by
  have hj:=(QpC.1 e).1;have e2:=Q9o hj (L:=X.L) hi;rw [e] at e2;have ac:=(QpC.1 e2).1;unfold planned;rw [a,QpD,QpD,QpD,List.getElem?_append_left ac,e2]
 rcases QbC (K7 g.ok hi).2.1 with ⟨b,h2⟩ | ⟨b,h2⟩
 ·obtain rfl:k=0:=QnI
  exact ⟨at' 0 _ (by rw [h2];rfl),fun h=>by omega⟩
 ·obtain rfl | rfl:k=0\/k=1:=QnI
  ·exact ⟨at' 0 _ (by rw [h2];rfl),fun _=>at' 1 _ (by rw [h2];rfl)⟩
  ·exact ⟨at' 2 _ (by rw [h2];rfl),fun h=>by omega⟩
theorem Gd.turnAt {j:Nat} {t:Tup} (e:X.T[j]? = some t):A[2*X.N-X.L+Ch.length+j]? = some (X.tuE t):=by
 obtain ⟨H,rfl,_⟩:=g.act;have hl:=LX g.ok (i:=X.L) (QpF _);have a:2*X.N-X.L+Ch.length=(X.pls X.L++Ch.map X.chE).length:=by rw [QpR,QpB];unfold N;omega
 have hj:=(QpC.1 e).1;unfold planned;rw [a,QpD,QpD,Qq9 QnI,Nat.add_sub_cancel_left,List.getElem?_append_left (by simpa using hj),Qq7,e];rfl
def runV (X:Cx) (per:Int) (tl:List Int) (i k:Nat):Int:=UT tl per (X.aR i k)
def gapV (X:Cx) (per:Int) (tl:List Int) (i k:Nat):Int×Bool:=if k<X.nr i-1 then (UT tl per (X.aD i k),true) else match X.tn i with
 |some t=>(UT tl per (X.tuE t),true)
 |none=>(0,false)
theorem Gd.run_mem {i k:Nat} (hi:i<X.Ls.length) (hk:k<X.nr i):X.aR i k∈A:=Qpt (g.runAt hi hk).1
theorem Gd.turn_mem {t:Tup} (ht:t∈X.T):X.tuE t∈A:=by
 obtain ⟨j,e⟩:=Qqb ht;exact Qpt (g.turnAt e)
theorem Gd.runV_rng {i k:Nat} (hi:i<X.Ls.length) (hk:k<X.nr i) : -65536<=X.runV per tl i k/\X.runV per tl i k<=66000:=g.dur_rng (g.run_mem hi hk)
theorem Gd.gapV_rng {i k:Nat} (hi:i<X.Ls.length) (hk:k<X.nr i) : -65536<=(X.gapV per tl i k).1/\(X.gapV per tl i k).1<=66000:=by
 unfold gapV;split
 ·exact g.dur_rng (Qpt ((g.runAt hi hk).2 (by assumption)))
 ·cases e:X.tn i with
  |none=>simp
  |some t=>exact g.dur_rng (g.turn_mem (CR e).1)
variable {R:Type}
theorem Gd.runP {i k:Nat} (hi:i<X.Ls.length) (hk:k<X.nr i) (K:Int->oP R):Xi 400 per A (encI tl) (X.fst X.L) (i:Int) (k:Int) K=K (X.runV per tl i k):=by
 have hb:=Y8 g.ok (i:=i) QnI;have hl:=LX g.ok (i:=i) QnI;have hn:=(K7 g.ok hi).2.1;have l1:=g.ok.l1;have e:=Q6w (X:=X) (i:=i) (L:=X.L) hi;rw [Qd] at e;have el:(X.fst X.L).length=X.Ls.length:=by simp [fst,encI,L]
 have hx:wJ (wJ (((2*base X.nr i:Nat):Int)-(i:Int))+((2*k:Nat):Int))=((2*base X.nr i-i+2*k:Nat):Int):=by
  rw [Q6 (x:=((2*base X.nr i:Nat):Int)-(i:Int)) QnI QnI,Q6 QnI QnI];omega
 unfold Xi;rw [YX QnI QnI,Q0,Qpx,e];simp -implicitDefEqProofs only [Q0,Qpu,Q2,NY (a:=base X.nr i) QnI,NY (a:=k) QnI,hx,g.durP (g.runAt hi hk).1];rfl
theorem Gd.gapP {i k:Nat} (hi:i<X.Ls.length) (hk:k<X.nr i) (K:Int->Bool->oP R):QZ 400 X.Ls Ch per A (encI tl) (encI ((List.range X.L).map (tix X.T))) (X.fst X.L) (X.N:Int) (i:Int) (k:Int) K=K (X.gapV per tl i k).1 (X.gapV per tl i k).2:=by
 have hb:=Y8 g.ok (i:=i) QnI;have hN:X.N<=6:=base_le g.ok;have hl:=LX g.ok (i:=i) QnI;have ac:=LX g.ok (i:=X.L) (QpF _);have hn:=(K7 g.ok hi).2.1;have l1:=g.ok.l1;have chl:=g.ls.chl;have al:=g.ok.tl;have hw:wJ (((List.length (GT X.Ls i):Nat):Int)-1)=((X.nr i-1:Nat):Int):=J8 (k:=X.nr i) QnI QnI;unfold QZ gapV;rw [Qd,(K7 g.ok hi).1];simp -implicitDefEqProofs only [Q0,Qpu,Qpz,QJ,hw];by_cases b:k<X.nr i-1
 ·have e:=Q6w (X:=X) (i:=i) (L:=X.L) hi;rw [Qd] at e;have el:(X.fst X.L).length=X.Ls.length:=by simp [fst,encI,L]
  have hx:wJ (wJ (wJ (((2*base X.nr i:Nat):Int)-(i:Int))+((2*k:Nat):Int))+1)=((2*base X.nr i-i+2*k+1:Nat):Int):=by
   rw [Q6 (x:=((2*base X.nr i:Nat):Int)-(i:Int)) QnI QnI,Q6 (x:=((2*base X.nr i:Nat):Int)-(i:Int)+((2*k:Nat):Int)) QnI QnI,Q6 QnI QnI];omega
  rw [Qe b,Qpy,Qq5 b,YX QnI QnI,Q0,Qpx,e];simp -implicitDefEqProofs only [Q0,Qpu,Q2,NY (a:=base X.nr i) QnI,NY (a:=k) QnI,hx,g.durP ((g.runAt hi hk).2 b)]
 ·rw [QnP ((k:Int)<((X.nr i-1:Nat):Int)),Qpw,Qq2 b];have et:Q1 (encI ((List.range X.L).map (tix X.T))) (i:Int)=some [Q4 (tix X.T i)]:=Sw (by simp [show i<X.L from hi]);rw [et];simp -implicitDefEqProofs only [Q0,Qpu,Q2];unfold tix tn;rcases Q5u (l:=X.T) (p:=fun t=>t.1 == i) with ⟨c,h2⟩ | ⟨t,j,c,h2,d⟩
  ·simp only [c,h2];rfl
  ·have aj:=(QpC.1 d).1;simp only [c,h2];have hx:wJ (wJ (wJ (((2*X.N:Nat):Int)-((List.length X.Ls:Nat):Int))+((List.length Ch:Nat):Int))+(j:Int))=((2*X.N-X.L+Ch.length+j:Nat):Int):=by
    unfold L at ac ⊢;unfold N at hN ⊢;unfold L at hN ⊢;rw [Q6 (x:=((2*base X.nr X.Ls.length:Nat):Int)-((List.length X.Ls:Nat):Int)) QnI QnI,Q6 (x:=((2*base X.nr X.Ls.length:Nat):Int)-((List.length X.Ls:Nat):Int)+((List.length Ch:Nat):Int)) QnI QnI,Q6 QnI QnI];omega
   rw [QnQ ((j:Int)>=0),Qpy,NY (a:=X.N) QnI,hx,g.durP (g.turnAt d),Q0]
end Cx
end Go.Vx
namespace Go.Vx
variable {R:Type} (n:Nat)
def VA (b c d e f:LL) (g:Int) (h:List UInt8) (i j k l:Int) (K:Qkw R):oP R:=Qjr R (Zz n b c d e f g h i j k l 0 0 Tu3) fun a=>K a.1 a.2.1 a.2.2
end Go.Vx
namespace Go.Vx
theorem Q59 {l:List Nat} {j i:Nat} (e:l[j]? = some i):Q1 (Q5I l) (j:Int)=some [Q4 (i:Int)]:=by
 rw [Qd];unfold Q5I;rw [Qq7,e];rfl
namespace Cx
def sumR (X:Cx) (per:Int) (tl:List Int) (i:Nat):Nat->Int
 |0=>0
 |k+1=>sumR X per tl i k+(X.runV per tl i k+(X.gapV per tl i k).1)
def sumL (X:Cx) (per:Int) (tl:List Int) (ls:List Nat):Int:=ls.foldl (fun s i=>s+X.sumR per tl i (X.nr i)) 0
def lapsV (X:Cx) (per:Int) (tl:List Int) (ls:List Nat) (c:Bool):Int:=bif c then (X.sumL per tl ls).tdiv per else 0
variable {X:Cx} {per:Int} {Ch Sy A:LL} {tl:List Int} (g:X.Gd per Ch Sy A tl) {R:Type}
include g
theorem Gd.sumR_rng {i:Nat} (hi:i<X.Ls.length):∀ {k:Nat},k<=X.nr i -> -200000*(k:Int)<=X.sumR per tl i k/\X.sumR per tl i k<=200000*(k:Int)
 |0,_=>by simp [sumR]
 |k+1,hk=>by
  have ih:=Gd.sumR_rng hi (k:=k) QnI;have a:=g.runV_rng hi (show k<X.nr i by omega);have h2:=g.gapV_rng hi (show k<X.nr i by omega);rw [sumR];omega
theorem Gd.sumL_rng {ls:List Nat} (ac:∀ i∈ls,i<X.Ls.length):∀ {j:Nat},j<=ls.length -> -400000*(j:Int)<=X.sumL per tl (ls.take j)/\X.sumL per tl (ls.take j)<=400000*(j:Int)
 |0,_=>by simp [sumL]
 |j+1,hj=>by
  have ih:=Gd.sumL_rng ac (j:=j) QnI;have e:=Qpv (l:=ls) (i:=j) QnI;have hi:=ac _ (Qpt e);have hn:=(K7 g.ok hi).2.1;have a:=g.sumR_rng hi (QpF (X.nr ls[j]));rw [Yt e];unfold sumL at ih ⊢;rw [List.foldl_append];simp only [Qqe,List.foldl_nil];omega
theorem Q3a {ls:List Nat} {j i:Nat} (e:ls[j]? = some i):X.sumL per tl (ls.take (j+1))=X.sumL per tl (ls.take j)+X.sumR per tl i (X.nr i):=by
 rw [Yt e];unfold sumL;rw [List.foldl_append];rfl
theorem Gd.lapsP {ls:List Nat} {c:Bool} (ac:∀ i∈ls,i<X.Ls.length) (ak:ls.length<=10) (K:Int->oP R):Zq 400 X.Ls Ch per A (encI tl) (encI ((List.range X.L).map (tix X.T))) (X.fst X.L) (X.N:Int) (Q5I ls) c K=K (X.lapsV per tl ls c):=by
 have p0:=g.p0;have p1:=g.p1;unfold Zq lapsV;cases c
 ·rfl
 rw [QpW,Qpw,Qpy,show (Q5I ls).length=ls.length by simp [Q5I]];have hs:=g.sumL_rng ac (QpF ls.length);rw [QpP] at hs;have hb:((X.sumL per tl ls).tdiv per).natAbs=(X.sumL per tl ls).natAbs / per.natAbs:=Int.natAbs_tdiv ..;have al:(X.sumL per tl ls).tdiv per<=10000000 /\ -10000000<=(X.sumL per tl ls).tdiv per:=by
  have:=Nat.div_le_self (X.sumL per tl ls).natAbs per.natAbs;omega
 refine Qs (r:=fun m j=>X2 400 (Q5I ls) (ls.length:Int) (X.fst X.L) X.Ls Ch per A (encI tl) (encI ((List.range X.L).map (tix X.T))) (X.N:Int) (fun a b d=>gb true (nz per) () fun f=>K (wJ (Int.tdiv a per))) m (X.sumL per tl (ls.take j.toNat)) j) (N:=ls.length) (fun m j hj=>?_) (fun m=>?_) ls.length 400 0 QnI QnI
 ·simp only [Qpx];have e:=Qpv hj;have hi:=ac _ (Qpt e);have an:=g.sumL_rng ac (j:=j) QnI;have hn:=(K7 g.ok hi).2.1;rw [X2,Qe hj,Qpy,Q59 e];simp -implicitDefEqProofs only [Q0,Qpu,Qpz,Q2,QJ,Qd,(K7 g.ok hi).1,Qv (show j<=1000 by omega)];refine Qs (r:=fun m' k=>Xu 400 ((ls[j]:Nat):Int) ((X.nr ls[j]:Nat):Int) (X.fst X.L) X.Ls Ch per A (encI tl) (encI ((List.range X.L).map (tix X.T))) (X.N:Int) (fun h l n=>X2 400 (Q5I ls) (ls.length:Int) (X.fst X.L) X.Ls Ch per A (encI tl) (encI ((List.range X.L).map (tix X.T))) (X.N:Int) (fun a b d=>gb true (nz per) () fun f=>K (wJ (Int.tdiv a per))) m h ((j+1:Nat):Int)) m' (X.sumL per tl (ls.take j)+X.sumR per tl ls[j] k.toNat) k) (N:=X.nr ls[j]) (fun m' k hk=>?_) (fun m'=>?_) (X.nr ls[j]) 400 0 QnI QnI |> Eq.trans (by simp [sumR];rfl)
  ·simp only [Qpx];have hr:=g.sumR_rng hi (k:=k) QnI;have o:=g.runV_rng hi hk;have h2:=g.gapV_rng hi hk;rw [Xu,Qe hk,Qpy,g.gapP hi hk,Q0,g.runP hi hk,Q0,Q6 (x:=X.runV per tl ls[j] k+(X.gapV per tl ls[j] k).1) QnI QnI,Q6 QnI QnI,Qv (show k<=1000 by omega),sumR,Int.add_assoc]
  ·simp only [Qpx];rw [Xu,Qj,Qpw,Q3a g e]
 ·simp only [Qpx];rw [X2,Qj,Qpw,QpP,Ng QnI,Q0,Q6 QnI QnI]
omit g
def stair (X:Cx) (i k:Nat):List Occ:=Q4F X.G.St X.G.Pt X.G.Se X.G.Li (X.st i k) (X.rn i k) 0 0
variable (h:X.OK)
include h
theorem Cd {i k:Nat} (hi:i<X.Ls.length) (hk:k<X.nr i):OL (-1) (X.stair i k)/\(X.stair i k).length<=6:=Q9K (rd h hi hk).rt h.sk QnI QnI QnI QnI
theorem QeY {i k:Nat} (hi:i<X.Ls.length) (hk:k<X.nr i) (K:LL->Int->Int->oP R):VA 400 X.G.St X.G.Pt X.G.Se X.G.Li (X.st i k) 0 X.nm X.tl X.sp X.ac X.br K=K ((X.stair i k).map enc) (X.run i k) 0:=by
 have hh:=Qft (rd h hi hk).rt (nm:=X.nm) h.sk (show (0:Int)<=0 by omega) QnI (show (0:Int)<=0 by omega) QnI;unfold ZI at hh;have r:=(rd h hi hk).rt;rw [QdG r.lay rfl r.l2 r.l24 r.rt r.st h.sk,Q0,Q8 (by rfl),Q8 (by rfl)] at hh;unfold VA;cases e:Zz 400 X.G.St X.G.Pt X.G.Se X.G.Li (X.st i k) 0 X.nm X.tl X.sp X.ac X.br 0 0 Tu3 with
 |none=>rw [e] at hh;cases hh
 |some v=>
  obtain ⟨a,b,c⟩:=v;rw [e,Q0] at hh;cases hh;rfl
end Cx
theorem QcG {St Pt Se Li s:LL} (h:RtF St Pt Se Li s) {j:Nat} (hj:j<s.length):∃ (d:Int) (nm:List UInt8) (a b c st:Int),s[j]? = some [Q4 (sec s j:Int),Q4 d]/\Q1 Se (sec s j:Int)=some [D.str nm,Q4 a,Q4 b,Q4 c,Q4 st]:=by
 obtain ⟨x,d,nm,b,c,st,e,f,a0,a1,hd⟩:=Fd h.st hj;have hx:=Hv f;have g:0<=x:=by
  have h2:=hx.1;unfold inB at h2;by_cases hc:0<=x
  ·exact hc
  ·rw [show (decide (0<=x)&&decide (x<(Se.length:Int)))=false by simp;omega] at h2;cases h2
 have ac:x=((sec s j:Nat):Int):=by
  unfold sec;rw [QpA,e];show x=(x.toNat:Int);omega
 rw [ac] at e f;exact ⟨d,nm,_,b,c,st,e,f⟩
def Cv (T:List Occ) (r:Nat) (f t:Int):Prop:=∃ x a b,T[r]? = some (x,a,b)/\a<=f/\t<=b/\a<b
theorem Cv.add {T:List Occ} {r r':Nat} {f t f' t':Int} (h:Cv T r f t) (hf:f'<t'):Cv (Rs T r' f' t') r f t:=by
 obtain ⟨x,a,b,e,i,h2,g⟩:=h;have hr:=(QpC.1 e).1;unfold Rs;by_cases ac:r'=r
 ·subst ac;rw [e];dsimp only;rw [Qq5 g];refine ⟨_,_,_,by rw [QpT hr],?_,?_,?_⟩
  ·split <;> omega
  ·split <;> omega
  ·split <;> split <;> omega
 ·cases e':T[r']? with
  |none=>exact ⟨x,a,b,e,i,h2,g⟩
  |some q=>
   obtain ⟨y,c,d⟩:=q;dsimp only;split
   ·exact ⟨x,a,b,by rw [Qq4 ac,e],i,h2,g⟩
   ·exact ⟨x,a,b,by rw [Qq4 ac,e],i,h2,g⟩
theorem Cv.new {T:List Occ} {r:Nat} {f t:Int} (hf:f<t) (hr:r<T.length):Cv (Rs T r f t) r f t:=by
 obtain ⟨⟨x,a,b⟩,e⟩:∃ q,T[r]? = some q:=⟨T[r],Qpv hr⟩;unfold Rs;rw [e];dsimp only;split
 ·refine ⟨_,_,_,by rw [QpT hr],?_,?_,?_⟩
  ·split <;> omega
  ·split <;> omega
  ·split <;> split <;> omega
 ·exact ⟨_,_,_,by rw [QpT hr],QpU _,QpU _,hf⟩
def Bd (R:Int) (T:List Occ):Prop:=∀ q∈T,q.2.1<q.2.2->q.2.1<=R/\0<=q.2.2
theorem Bd.add {R:Int} {T:List Occ} (h:Bd R T) {r:Nat} {f t:Int} (hf:f<=R) (ht:0<=t):Bd R (Rs T r f t):=by
 unfold Rs;cases e:T[r]? with
 |none=>exact h
 |some q=>
  obtain ⟨x,a,b⟩:=q;have c:=h _ (Qpt e);dsimp only at c ⊢;split
  ·intro q hq _;rcases List.mem_or_eq_of_mem_set hq with hq | rfl
   ·exact h q hq (by assumption)
   ·have c:=c (by assumption);dsimp only;constructor <;> split <;> omega
  ·intro q hq _;rcases List.mem_or_eq_of_mem_set hq with hq | rfl
   ·exact h q hq (by assumption)
   ·exact ⟨hf,ht⟩
section
variable {N NP:Nat} {Li s:LL} {f g:Nat->Int}
theorem Q53 (hs:∀ i,i<s.length->sec s i<N) (a:∀ i,i<s.length->f i<g i) (h2:∀ i,1<=i->i<s.length->f i<g (i-1)) {j:Nat}:∀ {i:Nat},j<i->i<=s.length->Cv (Hn N NP Li s f g i) (sec s j) (f j) (g j)
 |0,hj,_=>by omega
 |i+1,hj,hi=>by
  have hf:=a i QnI;have hl:sec s i<(Hn N NP Li s f g i).length:=by
   have:=hs i QnI;rw [Hi];omega
  have hc:Cv (Rs (Hn N NP Li s f g i) (sec s i) (f i) (g i)) (sec s j) (f j) (g j):=by
   by_cases e:j=i
   ·subst e;exact Cv.new hf hl
   ·exact (Q53 hs a h2 (i:=i) QnI QnI).add hf
  rw [Hn];split
  ·exact hc
  ·split
   ·exact hc
   ·exact hc.add (h2 i QnI QnI)
theorem Q8N {R:Int} (c:∀ i,i<s.length->f i<=R/\0<=g i):∀ {i:Nat},i<=s.length->Bd R (Hn N NP Li s f g i)
 |0,_=>by
  intro q hq ac;rw [Hn] at hq;have:=List.eq_of_mem_replicate hq;subst this;simp at ac
 |i+1,hi=>by
  have ih:=Q8N c (i:=i) QnI;have a:=c i QnI;rw [Hn];split
  ·exact ih.add a.1 a.2
  ·have b:=c (i-1) QnI;split
   ·exact ih.add a.1 a.2
   ·exact (ih.add a.1 a.2).add a.1 b.2
end
theorem Qdv {St Pt Se Li s:LL} (h:RtF St Pt Se Li s) {nm:List UInt8} {tl sp ac br:Int} (hk:StkN tl sp ac br) {i:Nat} (hi:i<=s.length):TI (Hn Se.length Pt.length Li s (fr Se s (YB Se s nm tl sp ac br) 0) (tu Se s (YB Se s nm tl sp ac br) 0) i):=by
 have aj:=fun i (hi:i<s.length)=>Qch h (nm:=nm) hk (QpU 0) QnI (QpU 0) QnI hi
 induction i with
 |zero=>
  intro r x a b e ak;obtain ⟨d,h2⟩:=QpC.1 e;simp only [Hn,List.getElem_replicate] at h2;cases h2;omega
 |succ i ih=>
  have ih:=ih QnI;have q:=aj i QnI;rw [Hn];split
  ·exact ih.add q.1 q.2
  ·have c:=aj (i-1) QnI;split
   ·exact ih.add q.1 q.2
   ·exact (ih.add q.1 q.2).add q.1 c.2
namespace Cx
variable {X:Cx} (h:X.OK)
include h
theorem QbG {i k:Nat} (hi:i<X.Ls.length) (hk:k<X.nr i) {j:Nat} (hj:j<(X.st i k).length):sec (X.st i k) j<X.G.Se.length:=by
 obtain ⟨d,nm,a,b,c,st,_,e⟩:=QcG (rd h hi hk).rt hj;have:=(Hv e).1;unfold inB at this;by_cases hc:(sec (X.st i k) j:Int)<(X.G.Se.length:Int)
 ·omega
 ·rw [QpI hc,Bool.and_false] at this;cases this
theorem Q8V {i k:Nat} (hi:i<X.Ls.length) (hk:k<X.nr i) :
  (∀ q∈X.stair i k,0<=q.1/\q.2.1<q.2.2/\q.2.1<=X.run i k/\0<=q.2.2)/\(∃ q∈X.stair i k,q.1<(X.G.Se.length:Int)/\0<q.2.2) /\
  ∀ s,0<=s->s<X.run i k->∃ q∈X.stair i k,q.2.1<=s/\s<q.2.2:=by
 have hr:=(rd h hi hk).rt;have l2:=hr.l2;have a2:=Ca hr.lay;have ao:=fun j (hj:j<(X.st i k).length)=>QbG h hi hk hj
 have ak:=fun j (hj:j<(X.st i k).length)=>Qg2 hr (nm:=X.nm) h.sk (QpU 0) QnI (QpU 0) QnI hj
 have al:=fun a b (au:a<=b) (hb:b<(X.st i k).length)=>Q0w hr (nm:=X.nm) h.sk au hb
 have ax:=Cd h hi hk;unfold run;have er:X.rn i k=YB X.G.Se (X.st i k) X.nm X.tl X.sp X.ac X.br:=rfl;rw [<- er] at ak al;have aq:=Nx hr (nm:=X.nm) h.sk;rw [<- er] at aq;have hlast:=al ((X.st i k).length-1) ((X.st i k).length-1) (QpF _) QnI;have aj:fLV X.G.Se (X.st i k) (X.rn i k) ((X.st i k).length-1)=(X.rn i k).T (X.rn i k).N:=by unfold fLV;rw [Qq2 QnI]
 rw [aj] at hlast;have a4:=Ma (a:=(X.rn i k).T (X.rn i k).N) QnI (show (1:Int)<=1000 by decide);have eS:AE (X.rn i k)=cd ((X.rn i k).T (X.rn i k).N) 1000:=rfl;have l:fr X.G.Se (X.st i k) (X.rn i k) 0 0=0:=by unfold fr;simp
 have a3:tu X.G.Se (X.st i k) (X.rn i k) 0 ((X.st i k).length-1)=AE (X.rn i k):=by unfold tu;rw [Qq2 QnI];omega
 have hb:∀ j,j<(X.st i k).length->fr X.G.Se (X.st i k) (X.rn i k) 0 j<=AE (X.rn i k)/\0<=tu X.G.Se (X.st i k) (X.rn i k) 0 j:=by
  intro j hj;have hT:=al (j-1) ((X.st i k).length-1) QnI QnI;rw [aj] at hT;have hL:=al j j (QpF _) hj;have hc:=Ma (a:=fLV X.G.Se (X.st i k) (X.rn i k) j) QnI (show (1:Int)<=1000 by decide);constructor
  ·unfold fr;split <;> omega
  ·unfold tu;split <;> omega
 have az:∀ j,1<=j->j<(X.st i k).length->fr X.G.Se (X.st i k) (X.rn i k) 0 j<=tu X.G.Se (X.st i k) (X.rn i k) 0 (j-1):=fun j c hj=>by
  have:=(ak j hj).2.2.2 c;omega
 have ar:∀ j,j<(X.st i k).length->∃ q∈X.stair i k,q.1=(sec (X.st i k) j:Int)/\q.2.1<=fr X.G.Se (X.st i k) (X.rn i k) 0 j/\tu X.G.Se (X.st i k) (X.rn i k) 0 j<=q.2.2:=fun j hj=>by
  obtain ⟨x,a,b,e,c,h2,d⟩:=Q53 (N:=X.G.Se.length) (NP:=X.G.Pt.length) (Li:=X.G.Li) (s:=X.st i k) (f:=fr X.G.Se (X.st i k) (X.rn i k) 0) (g:=tu X.G.Se (X.st i k) (X.rn i k) 0) ao (fun j hj=>(ak j hj).2.1) (fun j c hj=>(ak j hj).2.2.2 c) (j:=j) (i:=(X.st i k).length) hj (QpF _);have hm:(x,a,b)∈X.stair i k:=Qq8.2 ⟨Qpt e,by simpa [Ts] using d⟩;refine ⟨_,hm,?_,c,h2⟩;have aw:TI (Hn X.G.Se.length X.G.Pt.length X.G.Li (X.st i k) (fr X.G.Se (X.st i k) (X.rn i k) 0) (tu X.G.Se (X.st i k) (X.rn i k) 0) (X.st i k).length):=Qdv hr h.sk (QpF _);exact (aw _ _ _ _ e d).1
 refine ⟨fun q hq=>?_,?_,fun s s0 s1=>?_⟩
 ·have hm:=ax.1.mem q hq;have ay:=Q8N (N:=X.G.Se.length) (NP:=X.G.Pt.length) (Li:=X.G.Li) hb (QpF _) q (Qq8.1 hq).1 hm.2.2.1;exact ⟨QnI,hm.2.2.1,ay⟩
 ·obtain ⟨q,hq,e,_,h2⟩:=ar 0 QnI;have:=ao 0 QnI;have:=(ak 0 QnI).2.1;exact ⟨q,hq,QnI,QnI⟩
 ·have an:∀ n,n<(X.st i k).length->s<tu X.G.Se (X.st i k) (X.rn i k) 0 n->∃ j,j<(X.st i k).length/\fr X.G.Se (X.st i k) (X.rn i k) 0 j<=s/\s<tu X.G.Se (X.st i k) (X.rn i k) 0 j:=by
   intro n;induction n with
   |zero=>exact fun hn hs=>⟨0,hn,QnI,hs⟩
   |succ n ih=>
    intro hn hs;by_cases hc:fr X.G.Se (X.st i k) (X.rn i k) 0 (n+1)<=s
    ·exact ⟨n+1,hn,hc,hs⟩
    ·have:=az (n+1) QnI hn;exact ih QnI (by rw [Nat.add_sub_cancel] at this;omega)
  obtain ⟨j,hj,c,h2⟩:=an ((X.st i k).length-1) QnI QnI;obtain ⟨q,hq,_,d,m⟩:=ar j hj;exact ⟨q,hq,QnI,QnI⟩
end Cx
abbrev U:=Nat×Nat×Int×Int×Int
def MU (u:U):List D:=[Q4 (u.1:Int),Q4 (u.2.1:Int),Q4 u.2.2.1,Q4 u.2.2.2.1,Q4 u.2.2.2.2]
def Cb (us:List U) (u:U):List U:=if 0<u.2.2.2.1 then us++[u] else us
theorem LY {us:List U} {u:U}:(Cb us u).length<=us.length+1:=by
 unfold Cb;split <;> simp
namespace Cx
variable {X:Cx} {per:Int} {Ch Sy A:LL} {tl:List Int}
def endV (X:Cx) (per:Int) (tl:List Int) (i k:Nat) (at':Int):Int:=at'+X.runV per tl i k+(if (X.gapV per tl i k).2=true then (X.gapV per tl i k).1 else 60)
def occU (train:Nat) (laps at':Int) (us:List U) (l:List Occ):List U:=l.foldl (fun us o=>Cb us (o.1.toNat,train,at'+o.2.1,o.2.2-o.2.1,laps)) us
def stM (X:Cx) (per:Int) (tl:List Int) (mv c:Bool) (idx train:Nat) (laps:Int) (i k:Nat) (s:Int×List U):Int×List U:=
 (X.endV per tl i k s.1,Cb (bif mv then occU train laps s.1 (if c=false/\idx=0/\k=0 then Cb s.2 (sec (X.st i k) 0,train,s.1-60,60,laps) else s.2) (X.stair i k) else if c=false/\idx=0/\k=0 then Cb s.2 (sec (X.st i k) 0,train,s.1-60,60,laps) else s.2) (sec (X.st i k) ((X.st i k).length-1),train,s.1+X.run i k,X.endV per tl i k s.1-s.1-X.run i k,laps))
def rideM (X:Cx) (per:Int) (tl:List Int) (mv c:Bool) (idx train:Nat) (laps:Int) (i:Nat) (s:Int×List U):Nat->Int×List U
 |0=>s
 |k+1=>X.stM per tl mv c idx train laps i k (rideM X per tl mv c idx train laps i s k)
def lineM (X:Cx) (per:Int) (tl:List Int) (mv c:Bool) (train:Nat) (laps:Int) (ls:List Nat) (s:Int×List U):Nat->Int×List U
 |0=>s
 |j+1=>X.rideM per tl mv c j train laps (ls.getD j 0) (lineM X per tl mv c train laps ls s j) (X.nr (ls.getD j 0))
def trainM (X:Cx) (per:Int) (tl:List Int) (mv:Bool) (us:List U) (train:Nat) (r:List Nat×Bool):List U:=(X.lineM per tl mv r.2 train (X.lapsV per tl r.1 r.2) r.1 (tat tl ((2*base X.nr (r.1.getD 0 0):Nat):Int),us) r.1.length).2
def usesM (X:Cx) (per:Int) (tl:List Int) (mv:Bool) (rs:List (List Nat×Bool)):Nat->List U
 |0=>[]
 |j+1=>X.trainM per tl mv (usesM X per tl mv rs j) j (rs.getD j ([],false))
variable (g:X.Gd per Ch Sy A tl)
include g
theorem Gd.endV_rng {i k:Nat} (hi:i<X.Ls.length) (hk:k<X.nr i) {a:Int}:a-140000<=X.endV per tl i k a/\X.endV per tl i k a<=a+140000:=by
 have b:=g.runV_rng hi hk;have h2:=g.gapV_rng hi hk;unfold endV;split <;> omega
omit g in
theorem DZ {train:Nat} {laps a:Int}:∀ {l:List Occ} {us:List U},(occU train laps a us l).length<=us.length+l.length
 |[],us=>by simp [occU]
 |o::l,us=>by
  have:=DZ (train:=train) (laps:=laps) (a:=a) (l:=l) (us:=Cb us (o.1.toNat,train,a+o.2.1,o.2.2-o.2.1,laps));have:=LY (us:=us) (u:=(o.1.toNat,train,a+o.2.1,o.2.2-o.2.1,laps));rw [List.length_cons];unfold occU at *
  rw [Qqe];omega
theorem Gd.rideM_rng {mv c:Bool} {idx train:Nat} {laps:Int} {i:Nat} (hi:i<X.Ls.length) {s:Int×List U}:∀ {k:Nat},k<=X.nr i->s.1-140000*(k:Int)<=(X.rideM per tl mv c idx train laps i s k).1/\(X.rideM per tl mv c idx train laps i s k).1<=s.1+140000*(k:Int)/\(X.rideM per tl mv c idx train laps i s k).2.length<=s.2.length+8*k
 |0,_=>by simp [rideM]
 |k+1,hk=>by
  have ih:=Gd.rideM_rng (mv:=mv) (c:=c) (idx:=idx) (train:=train) (laps:=laps) hi (s:=s) (k:=k) QnI;have he:=g.endV_rng hi (show k<X.nr i by omega) (a:=(X.rideM per tl mv c idx train laps i s k).1);rw [rideM];unfold stM;refine ⟨by dsimp only;omega,by dsimp only;omega,Nat.le_trans LY ?_⟩;have b:=(Cd g.ok hi (show k<X.nr i by omega)).2;have hf:(if c=false/\idx=0/\k=0 then Cb (X.rideM per tl mv c idx train laps i s k).2 (sec (X.st i k) 0,train,(X.rideM per tl mv c idx train laps i s k).1-60,60,laps) else (X.rideM per tl mv c idx train laps i s k).2).length<=(X.rideM per tl mv c idx train laps i s k).2.length+1:=by
   split
   ·exact LY
   ·omega
  cases mv with
  |false=>rw [Qpw];omega
  |true=>
   rw [Qpy];have:=DZ (train:=train) (laps:=laps) (a:=(X.rideM per tl true c idx train laps i s k).1) (l:=X.stair i k) (us:=if c=false/\idx=0/\k=0 then Cb (X.rideM per tl true c idx train laps i s k).2 (sec (X.st i k) 0,train,(X.rideM per tl true c idx train laps i s k).1-60,60,laps) else (X.rideM per tl true c idx train laps i s k).2);omega
theorem Gd.lineM_rng {mv c:Bool} {train:Nat} {laps:Int} {ls:List Nat} (ac:∀ i∈ls,i<X.Ls.length) {s:Int×List U}:∀ {j:Nat},j<=ls.length->s.1-280000*(j:Int)<=(X.lineM per tl mv c train laps ls s j).1/\(X.lineM per tl mv c train laps ls s j).1<=s.1+280000*(j:Int)/\(X.lineM per tl mv c train laps ls s j).2.length<=s.2.length+16*j
 |0,_=>by simp [lineM]
 |j+1,hj=>by
  have ih:=Gd.lineM_rng (mv:=mv) (c:=c) (train:=train) (laps:=laps) ac (s:=s) (j:=j) QnI;have e:=Qpv (l:=ls) (i:=j) QnI;have hi:=ac _ (Qpt e);have hn:=(K7 g.ok hi).2.1;have hd:ls.getD j 0=ls[j]:=by rw [QpA,e];rfl
  rw [lineM,hd];have:=g.rideM_rng (mv:=mv) (c:=c) (idx:=j) (train:=train) (laps:=laps) hi (s:=X.lineM per tl mv c train laps ls s j) (QpF (X.nr ls[j]));omega
omit g in
theorem Q9T {rs:List (List Nat×Bool)}:∀ {j:Nat} {r:List Nat×Bool},rs[j]? = some r->Q3H (rs.take (j+1))=Q3H (rs.take j)+r.1.length:=by
 induction rs with
 |nil=>exact fun h=>by simp at h
 |cons a rs ih=>
  intro j r e;cases j with
  |zero=>cases e;simp [Q3H]
  |succ j=>
   have:=ih (j:=j) (by simpa using e);rw [List.take_succ_cons,List.take_succ_cons,Q3H,Q3H,this];omega
omit g in
theorem Q8b {rs:List (List Nat×Bool)}:∀ {j:Nat},Q3H (rs.take j)<=Q3H rs:=by
 induction rs with
 |nil=>simp
 |cons a rs ih=>
  intro j;cases j with
  |zero=>exact Qqd _
  |succ j=>rw [List.take_succ_cons,Q3H,Q3H];exact Nat.add_le_add_left ih _
structure RsOK (X:Cx) (rs:List (List Nat×Bool)):Prop where
 ls:∀ r∈rs,1<=r.1.length/\∀ i∈r.1,i<X.Ls.length
 sum:Q3H rs<=3
omit g in
theorem RsOK.len3 {rs:List (List Nat×Bool)} (hr:X.RsOK rs) {j:Nat} {r:List Nat×Bool} (e:rs[j]? = some r):r.1.length<=3:=by
 have:=Q9T e;have:=Q8b (rs:=rs) (j:=j+1);have:=hr.sum;omega
omit g in
theorem RsOK.n3:∀ {rs:List (List Nat×Bool)},X.RsOK rs->rs.length<=Q3H rs
 |[],_=>QpF _
 |a::rs,hr=>by
  have:=hr.ls a (.head _);have ih:=RsOK.n3 (rs:=rs) ⟨fun r h=>hr.ls r (.tail _ h),by have:=hr.sum;rw [Q3H] at this;omega⟩;rw [List.length_cons,Q3H];omega
end Cx
theorem SA {us:List U} {u v:U} (h:v∈Cb us u):v∈us\/v=u/\0<u.2.2.2.1:=by
 grind [Cb]
theorem Cc {us:List U} {u v:U} (h:v∈us):v∈Cb us u:=by
 grind [Cb,List.mem_append_left]
theorem Q5t {us:List U} {u:U} (h:0<u.2.2.2.1):u∈Cb us u:=by
 grind [Cb]
structure CovI (t:Nat) (lo hi:Int) (us:List U):Prop where
 le:lo<=hi
 nn:0<=hi
 bd:∀ u∈us,u.2.1=t->u.2.2.1<=hi/\lo<=u.2.2.1+u.2.2.2.1
 cv:∀ s,lo<=s->s<hi->∃ u∈us,u.2.1=t/\u.2.2.1<=s/\s<u.2.2.1+u.2.2.2.1
theorem CovI.other {t:Nat} {lo hi:Int} {us:List U} (h:CovI t lo hi us) {u:U} (hu:u.2.1≠t):CovI t lo hi (Cb us u) where
 le:=h.le
 nn:=h.nn
 bd:=fun v hv e=>by
  rcases SA hv with hv | ⟨rfl,_⟩
  ·exact h.bd v hv e
  ·exact absurd e hu
 cv:=fun s a b=>by
  obtain ⟨v,hv,r⟩:=h.cv s a b;exact ⟨v,Cc hv,r⟩
theorem CovI.mid {t:Nat} {lo hi:Int} {us:List U} (h:CovI t lo hi us) {u:U} (a:u.2.2.1<=hi) (h2:lo<=u.2.2.1+u.2.2.2.1):CovI t lo hi (Cb us u) where
 le:=h.le
 nn:=h.nn
 bd:=fun v hv e=>by
  rcases SA hv with hv | ⟨rfl,_⟩
  ·exact h.bd v hv e
  ·exact ⟨a,h2⟩
 cv:=fun s b a=>by
  obtain ⟨v,hv,r⟩:=h.cv s b a;exact ⟨v,Cc hv,r⟩
theorem CovI.post {t:Nat} {lo hi ac:Int} {us:List U} (h:CovI t lo hi us) {u:U} (ht:u.2.1=t) (c:u.2.2.1=hi) (h2:u.2.2.2.1=ac-hi) (a:hi<=ac):CovI t lo ac (Cb us u) where
 le:=Int.le_trans h.le a
 nn:=Int.le_trans h.nn a
 bd:=fun v hv e=>by
  have:=h.le;rcases SA hv with hv | ⟨rfl,_⟩
  ·have:=h.bd v hv e;omega
  ·omega
 cv:=fun s b hs=>by
  by_cases hc:s<hi
  ·obtain ⟨v,hv,r⟩:=h.cv s b hc;exact ⟨v,Cc hv,r⟩
  ·exact ⟨u,Q5t QnI,ht,QnI,QnI⟩
theorem CovI.pre {t:Nat} {lo ac hi:Int} {us:List U} (h:CovI t lo hi us) {u:U} (ht:u.2.1=t) (b:u.2.2.1=ac) (h2:u.2.2.2.1=lo-ac) (a:ac<=lo):CovI t ac hi (Cb us u) where
 le:=Int.le_trans a h.le
 nn:=h.nn
 bd:=fun v hv e=>by
  have:=h.le;rcases SA hv with hv | ⟨rfl,_⟩
  ·have:=h.bd v hv e;omega
  ·omega
 cv:=fun s c hs=>by
  by_cases hc:lo<=s
  ·obtain ⟨v,hv,r⟩:=h.cv s hc hs;exact ⟨v,Cc hv,r⟩
  ·exact ⟨u,Q5t QnI,ht,QnI,QnI⟩
theorem CovI.any {t:Nat} {lo hi:Int} {us:List U} (h:CovI t lo hi us) {u v:U} (hu:u∈us) (hv:v∈us) (tu:u.2.1=t) (tv:v.2.1=t) {s:Int} (c:u.2.2.1<=s) (h2:s<v.2.2.1+v.2.2.2.1):∃ w∈us,w.2.1=t/\w.2.2.1<=s/\s<w.2.2.1+w.2.2.2.1:=by
 have bu:=h.bd u hu tu;have bv:=h.bd v hv tv;by_cases a:s<lo
 ·grind
 ·by_cases b:s<hi
  ·exact h.cv s QnI b
  grind
namespace Cx
variable {X:Cx} {per:Int} {Ch Sy A:LL} {tl:List Int}
theorem QaJ {train:Nat} {laps a:Int} {P:U->Prop} {l:List Occ} (hl:∀ q∈l,P (q.1.toNat,train,a+q.2.1,q.2.2-q.2.1,laps)):∀ {us:List U},(∀ u∈us,P u)->∀ u∈occU train laps a us l,P u:=by
 induction l with
 |nil=>exact fun h=>h
 |cons o l ih=>
  intro us h;refine ih (fun q hq=>hl q (.tail _ hq)) fun u hu=>?_
  rcases SA hu with hu | ⟨rfl,_⟩
  all_goals grind
variable (g:X.Gd per Ch Sy A tl)
include g
structure UsOK (X:Cx) (n:Nat) (us:List U):Prop where
 lt:∀ u∈us,u.2.1<n
 cv:∀ t,t<n->∃ lo hi,CovI t lo hi us
 se:∀ t,t<n->∃ u∈us,u.2.1=t/\u.1<X.G.Se.length/\0<u.2.2.1+u.2.2.2.1
end Cx
def QcB (u:U):Prop := -9000000<=u.2.2.1/\u.2.2.1<=9000000/\0<u.2.2.2.1/\u.2.2.2.1<=1000000
namespace Cx
variable {X:Cx}
variable {per:Int} {Ch Sy A:LL} {tl:List Int}
theorem Q9b {P:U->Prop} {mv c:Bool} {idx train:Nat} {laps:Int} {i k:Nat} {s:Int×List U} (a:∀ u∈s.2,P u) (b:c=false/\idx=0/\k=0->P (sec (X.st i k) 0,train,s.1-60,60,laps)) (h2:mv=true->∀ q∈X.stair i k,P (q.1.toNat,train,s.1+q.2.1,q.2.2-q.2.1,laps)) (d:0<X.endV per tl i k s.1-s.1-X.run i k->P (sec (X.st i k) ((X.st i k).length-1),train,s.1+X.run i k,X.endV per tl i k s.1-s.1-X.run i k,laps)):∀ u∈(X.stM per tl mv c idx train laps i k s).2,P u:=by
 unfold stM;intro u hu;rcases SA hu with hu | ⟨rfl,hl⟩
 ·have hf:∀ u∈(if c=false/\idx=0/\k=0 then Cb s.2 (sec (X.st i k) 0,train,s.1-60,60,laps) else s.2),P u:=by
   split
   ·intro u hu;rcases SA hu with hu | ⟨rfl,_⟩
    ·exact a u hu
    ·exact b (by assumption)
   ·exact a
  cases mv with
  |false=>exact hf u hu
  |true=>exact QaJ (h2 rfl) hf u hu
 ·exact d hl
variable (g:X.Gd per Ch Sy A tl)
include g
theorem Gd.stM_okN {mv c:Bool} {idx train:Nat} {laps:Int} {i k:Nat} (hi:i<X.Ls.length) (hk:k<X.nr i) {s:Int×List U} (s0 : -5500000<=s.1) (s1:s.1<=5500000) (h:∀ u∈s.2,QcB u):∀ u∈(X.stM per tl mv c idx train laps i k s).2,QcB u:=by
 have he:=g.endV_rng hi hk (a:=s.1);have hr:=P2 g.ok hi hk;refine Q9b h (fun _=>⟨by dsimp only;omega,by dsimp only;omega,by dsimp only;omega,by dsimp only;omega⟩) (fun _ q hq=>?_) fun hl=>⟨by dsimp only;omega,by dsimp only;omega,hl,by dsimp only;omega⟩
 have:=(Cd g.ok hi hk).1.mem q hq;exact ⟨by dsimp only;omega,by dsimp only;omega,by dsimp only;omega,by dsimp only;omega⟩
theorem Gd.rideM_all {P:U->Prop} {mv c:Bool} {idx train:Nat} {laps:Int} {i:Nat} (hi:i<X.Ls.length) (H:∀ (k:Nat) (s:Int×List U),k<X.nr i -> -5500000<=s.1->s.1<=5500000->(∀ u∈s.2,P u)->∀ u∈(X.stM per tl mv c idx train laps i k s).2,P u) {s:Int×List U} (s0 : -5000000<=s.1) (s1:s.1<=5000000) (hs:∀ u∈s.2,P u):∀ {k:Nat},k<=X.nr i->∀ u∈(X.rideM per tl mv c idx train laps i s k).2,P u
 |0,_=>hs
 |k+1,hk=>by
  have hn:=(K7 g.ok hi).2.1;have ih:=Gd.rideM_all hi H s0 s1 hs (k:=k) QnI;have hb:=g.rideM_rng (mv:=mv) (c:=c) (idx:=idx) (train:=train) (laps:=laps) hi (s:=s) (k:=k) QnI;rw [rideM];exact H k _ QnI QnI QnI ih
theorem Gd.lineM_all {P:U->Prop} {mv c:Bool} {train:Nat} {laps:Int} {ls:List Nat} (ac:∀ i∈ls,i<X.Ls.length) (aj:ls.length<=3) (H:∀ (idx i k:Nat) (s:Int×List U),i<X.Ls.length->k<X.nr i -> -5500000<=s.1->s.1<=5500000->(∀ u∈s.2,P u)->∀ u∈(X.stM per tl mv c idx train laps i k s).2,P u) {s:Int×List U} (s0:0<=s.1) (s1:s.1<=300) (hs:∀ u∈s.2,P u):∀ {j:Nat},j<=ls.length->∀ u∈(X.lineM per tl mv c train laps ls s j).2,P u
 |0,_=>hs
 |j+1,hj=>by
  have e:=Qpv (l:=ls) (i:=j) QnI;have hi:=ac _ (Qpt e);have hd:ls.getD j 0=ls[j]:=by rw [QpA,e];rfl
  have hb:=g.lineM_rng (mv:=mv) (c:=c) (train:=train) (laps:=laps) ac (s:=s) (j:=j) QnI;have ih:=Gd.lineM_all ac aj H s0 s1 hs (j:=j) QnI;rw [lineM,hd];exact g.rideM_all hi (fun k s hk=>H j _ k s hi hk) QnI QnI ih (QpF _)
theorem Gd.usesM_all {P:U->Prop} {mv:Bool} {rs:List (List Nat×Bool)} (hr:X.RsOK rs) (H:∀ (c:Bool) (train:Nat) (laps:Int) (idx i k:Nat) (s:Int×List U),i<X.Ls.length->k<X.nr i -> -5500000<=s.1->s.1<=5500000->(∀ u∈s.2,P u)->∀ u∈(X.stM per tl mv c idx train laps i k s).2,P u):∀ {j:Nat},j<=rs.length->∀ u∈X.usesM per tl mv rs j,P u
 |0,_=>fun u hu=>(by nomatch hu)
 |j+1,hj=>by
  have e:=Qpv (l:=rs) (i:=j) QnI;have hd:rs.getD j ([],false)=rs[j]:=by rw [QpA,e];rfl
  have ac:=hr.ls _ (Qpt e);have a:=Qpv (l:=rs[j].1) (i:=0) QnI;have b:=ac.2 _ (Qpt a);have d:rs[j].1.getD 0 0=rs[j].1[0]:=by rw [QpA,a];rfl
  have f:=Y8 g.ok (i:=rs[j].1[0]) QnI;have aj:=Qdo g.ok b (k:=0) (by have:=(K7 g.ok b).2.1;omega);have ht:=g.tat (i:=((2*base X.nr rs[j].1[0]:Nat):Int)) QnI QnI;have p1:=g.p1;rw [usesM,hd];unfold trainM;rw [d];exact g.lineM_all ac.2 (hr.len3 e) (fun idx i k s=>H _ _ _ idx i k s) (by dsimp only;omega) (by dsimp only;omega) (Gd.usesM_all hr H QnI) (QpF _)
theorem Gd.usesM_okN {mv:Bool} {rs:List (List Nat×Bool)} (hr:X.RsOK rs):∀ u∈X.usesM per tl mv rs rs.length,QcB u:=g.usesM_all hr (fun c train laps idx i k s hi hk s0 s1 h=>g.stM_okN hi hk s0 s1 h) (QpF _)
end Cx
def Q5N:List (List D)->oP (List Int)
 |[]=>some []
 |[.int .i64 r,_,_,_,_]::l=>bif decide (-9223372036854775808<=r)&&decide (r<=9223372036854775807) then match Q5N l with
   |some s=>some (r::s)
   |none=>none
  else none
 |_=>none
def AL (rs:List Int) (i:Nat) (r:Int):List Int:=((List.range i).filter fun j=>rs.getD j 0 == r).map fun (j:Nat)=>(j:Int)
def Q4a (rs:List Int):Int->List (List D):=fun r=>(AL rs rs.length r).map fun j=>[.int .i64 j]
def BI (rs:List Int) (i:Nat):List (List D):=((List.range i).map fun j=>[D.int .i64 ((AL rs j (rs.getD j 0)).length:Nat)])++List.replicate (rs.length-i) [D.int .i64 0]
def Q3K {R:Type} (rows:List (List D)) (k:(Int->List (List D))->List (List D)->oP R):oP R:=
 match Q5N rows with
 |some rs=>bif Nat.ble rs.length 1000000000 then k (Q4a rs) (BI rs rs.length) else none
 |none=>none
theorem Q9M (rs:List Int) (i:Nat) (r:Int):AL rs (i+1) r=AL rs i r++(if rs.getD i 0=r then [(i:Int)] else []):=by
 unfold AL;rw [List.range_succ,List.filter_append,QpK];congr 1;by_cases h:rs.getD i 0=r
 ·rw [Qq5 h];have:(rs.getD i 0 == r)=true:=by simpa using h
  simp only [List.filter_cons,this,if_true,List.filter_nil];rfl
 ·rw [Qq2 h];have:(rs.getD i 0 == r)=false:=by rw [beq_eq_false_iff_ne];exact h
  simp only [List.filter_cons,this,List.filter_nil];rfl
theorem CQ (rs:List Int) {i:Nat} (h:i<=rs.length):(BI rs i).length=rs.length:=by
 simp [BI];omega
theorem Q8z (rs:List Int) {i:Nat} (h:i<rs.length):(BI rs i).set i [.int .i64 ((AL rs i (rs.getD i 0)).length:Nat)]=BI rs (i+1):=by
 unfold BI;rw [List.set_append_right _ _ QnK,List.range_succ,QpK,QpD];congr 1;rw [show rs.length-i=(rs.length-(i+1))+1 by omega,List.replicate_succ];simp
theorem QcK (rs:List Int) {i:Nat} (h:i<rs.length):(BI rs i)[i]? = some [.int .i64 0]:=by
 unfold BI;rw [Qq9 QnK,List.getElem?_replicate,Qq5 QnL]
theorem Q30 (rs:List Int):BI rs 0=List.replicate rs.length [.int .i64 0]:=by simp [BI]
theorem Mg:∀ {rows:List (List D)} {rs:List Int},Q5N rows=some rs->rs.length=rows.length:=by
 intro rows;induction rows with
 |nil=>intro rs h;simp only [Q5N,Option.some.injEq] at h;subst h;rfl
 |cons x l ih=>
  intro rs h;unfold Q5N at h;split at h
  ·rename_i h0;cases h0
  ·rename_i r c1 c2 c3 c4 l' h0;injection h0 with e1 e2
   subst e2;cases hb:(decide (-9223372036854775808<=r)&&decide (r<=9223372036854775807)) with
   |false=>simp [hb] at h
   |true=>
    simp only [hb,Qpy] at h;split at h
    ·rename_i s hs;injection h with h
     subst h;simp [ih hs]
    ·cases h
  ·cases h
theorem Q8G:∀ {rows:List (List D)} {rs:List Int},Q5N rows=some rs->∀ (i:Nat),i<rows.length->∃ r c1 c2 c3 c4,rows[i]? = some [.int .i64 r,c1,c2,c3,c4]/\rs.getD i 0=r /\ -9223372036854775808<=r/\r<=9223372036854775807:=by
 intro rows;induction rows with
 |nil=>intro rs h i hi;simp at hi
 |cons x l ih=>
  intro rs h i hi;unfold Q5N at h;split at h
  ·rename_i h0;cases h0
  ·rename_i r c1 c2 c3 c4 l' h0;injection h0 with e1 e2
   subst e1 e2;cases hb:(decide (-9223372036854775808<=r)&&decide (r<=9223372036854775807)) with
   |false=>simp [hb] at h
   |true=>
    simp only [hb,Qpy] at h;split at h
    ·rename_i s hs;injection h with h
     subst h;simp only [QpM,Qqc] at hb;cases i with
     |zero=>exact ⟨r,c1,c2,c3,c4,rfl,rfl,hb.1,hb.2⟩
     |succ i=>simpa using ih hs i (by simpa using hi)
    ·cases h
  ·cases h
end Go.Vx
namespace Go.Vx
variable {R:Type} (n:Nat)
def Qfa (a1:LL) (G:Int->LL) (p:LL) (d b:Int) (k0:LL->Int->D->D->D->D->D->oP R) (k1:Qko R):oP R:=bif decide (b<d) then QjE R a1 b fun a e g h=>QjO R a fun i j=>Qjr R (pIw e) fun c=>QjD R p b fun m=>Qjr R (slB (List.length (G c)) (some m) none) fun f=>k0 (cut (G c) f) ((List.length (cut (G c) f):Nat):Int) e g h i j else k1 (decide (b<d))
def Qgp (a0:Int) (a1 d:LL) (c b:Int) (e f g h i:D) (k1:Qkj R) (j:Qko R):oP R:=bif decide (b<c) then QjD R d b fun m=>QjE R a1 m fun a o p q=>QjO R a fun r s=>Qjr R (pIw e) fun ac=>Qk1 R f g h i fun t u v x=>Qjr R (pIw o) fun ad=>Qk3 R p q r fun y z aa=>Qjr R (pIw s) fun ae=>Qjr R (Vo n a0 t u v x y z aa some) fun ab=>bif ab then none else k1 (wJ (b+1)) else j (decide (b<c))
def Qc1 (a0:Int) (a1 a:LL) (b:Int) (c d e f g:D) (k1:Qkk R):Qkl R
 | 0,_=>none
 | m+1,h=>Qgp n a0 a1 a b h c d e f g (fun i=>Qc1 a0 a1 a b c d e f g k1 m i) fun j=>k1 h j
def QbO (a0:Int) (a1:LL) (G:Int->LL) (p:LL) (b:Int) (k1:Qkk R):Qkl R
 | 0,_=>none
 | m+1,a=>Qfa a1 G p b a (fun c d e f g h i=>Qc1 n a0 a1 c d e f g h i (fun _ _=>QbO a0 a1 G p b k1 m (wJ (a+1))) n 0) fun j=>k1 a j
def WW (a0:Int) (a1:LL) (a:Bool) (K:Qko R):oP R:=Q3K a1 fun G p=>QbO n a0 a1 G p (a1.length:Int) (fun _ _=>K a) n 0
end Go.Vx

namespace Go.Vx
variable {R:Type} (n:Nat)
def Vf (a0:Int) (a1:LL) (K:Qko R):oP R:=Qjr R (Vu n a0 a1 some) fun a=>bif !a then K false else Qjr R (WW n a0 a1 true some) fun r2=>K r2
end Go.Vx
namespace Go.Vx
variable {R:Type}
theorem Q1x {x t q:Int} (ht:0<t) (a:t*q<=x) (h2:x<t*q+t):x / t=q:=by
 have a1:q<=x / t:=(Int.le_ediv_iff_mul_le ht).2 (by rw [Int.mul_comm];exact a);have a2:x / t<q+1:=(Int.ediv_lt_iff_lt_mul ht).2 (by rw [Int.mul_comm,Int.mul_add,Int.mul_one];exact h2);omega
theorem tdv {x t:Int} (h : -100000000<=x/\x<=100000000) (ht:2<=t) : -100000000<=x.tdiv t/\x.tdiv t<=100000000/\t*x.tdiv t+x.tmod t=x/\(x.tmod t).natAbs<t.natAbs:=by
 have:=Int.natAbs_tdiv_le_natAbs x t;exact ⟨QnI,QnI,Int.mul_tdiv_add_tmod x t,by rw [Int.natAbs_tmod];exact Nat.mod_lt _ QnI⟩
theorem Qfk {n:Nat} {x t:Int} (h : -100000000<=x/\x<=100000000) (ht:2<=t) (K:Int->Int->oP R):Va n x t K=K (x / t) 0:=by
 unfold Va;rw [Q8 QnL,Ng QnI];simp -implicitDefEqProofs only [Q0];obtain ⟨a,b,hd,hb⟩:=tdv h ht;rw [Q6 (x:=x.tdiv t) QnI QnI];by_cases h2:x.tmod t<0
 ·rw [QP (by simpa using h2),Q6 QnI QnI,Q1x (q:=x.tdiv t-1) QnI (by rw [Int.mul_sub];omega) (by rw [Int.mul_sub];omega)]
 ·rw [Q8 (by simpa using h2),Q1x (q:=x.tdiv t) QnI QnI QnI]
theorem QhW {n:Nat} {x t:Int} (h : -100000000<=x/\x<=100000000) (ht:2<=t) (K:Int->Int->oP R):U3 n x t K=K (-((-x) / t)) 0:=by
 unfold U3;rw [Q8 QnL,Ng QnI];simp -implicitDefEqProofs only [Q0];obtain ⟨a,b,hd,hb⟩:=tdv h ht;rw [Q6 (x:=x.tdiv t) QnI QnI];by_cases h2:x.tmod t>0
 ·rw [QP (by simpa using h2),Q6 QnI QnI,Q1x (x := -x) (q := -(x.tdiv t+1)) QnI (by rw [Int.mul_neg,Int.mul_add];omega) (by rw [Int.mul_neg,Int.mul_add];omega),Int.neg_neg]
 ·rw [Q8 (by simpa using h2),Q1x (x := -x) (q := -(x.tdiv t)) QnI (by rw [Int.mul_neg];omega) (by rw [Int.mul_neg];omega),Int.neg_neg]
def NoC (t:Int) (a b:U):Prop:=∀ z:Int,a.2.2.1<b.2.2.1+z*t+b.2.2.2.1->b.2.2.1+z*t<a.2.2.1+a.2.2.2.1->a.2.1=b.2.1/\a.2.2.2.2 ∣ z
theorem QhU {n:Nat} {t:Int} (p0:2<=t) (p1:t<=300) {a b:U} (ha:QcB a) (hb:QcB b) (hl:0<=a.2.2.2.2) (h:NoC t a b):Vo n t (a.2.1:Int) a.2.2.1 a.2.2.2.1 a.2.2.2.2 (b.2.1:Int) b.2.2.1 b.2.2.2.1 some=some false:=by
 obtain ⟨r,tr,f,l,la⟩:=a;obtain ⟨r',ao,f',l',ar⟩:=b;unfold QcB at ha hb;unfold NoC at h;dsimp only at *
 have i:=Int.mul_ediv_add_emod (f+l-f'-1) t;have h2:=QpO (f+l-f'-1) (show t≠0 by omega);have j:=QpQ (f+l-f'-1) (show 0<t by omega);have k:=Int.mul_ediv_add_emod (-(f-f'-l'+1)) t;have m:=QpO (-(f-f'-l'+1)) (show t≠0 by omega);have o:=QpQ (-(f-f'-l'+1)) (show 0<t by omega);unfold Vo;rw [Q6 (x:=f-f') QnI QnI,Q6 (x:=f-f'-l') QnI QnI,Q6 (x:=f-f'-l'+1) QnI QnI];rw [Q6 (x:=f+l) QnI QnI,Q6 (x:=f+l-f') QnI QnI,Q6 (x:=f+l-f'-1) QnI QnI];rw [QhW QnI p0,Qfk QnI p0,Q0,Q0];generalize (f+l-f'-1) / t=hi at *
 generalize (-(f-f'-l'+1)) / t=lo at *
 dsimp only;by_cases al : -lo>hi
 ·rw [QpZ al,Qpy]
 have ac:∀ z:Int,-lo<=z->z<=hi->tr=ao/\la ∣ z:=fun z p d=>by
  have e1:t*z<=t*hi:=Int.mul_le_mul_of_nonneg_left d QnI;have e2:t*(-z)<=t*lo:=Int.mul_le_mul_of_nonneg_left QnI QnI;rw [Int.mul_neg] at e2;exact h z (by rw [Int.mul_comm z t];omega) (by rw [Int.mul_comm z t];omega)
 obtain ⟨rfl,d1⟩:=ac (-lo) (QpU _) QnI;obtain ⟨_,e⟩:=ac hi QnI (QpU _);rw [QpI al,Qpw,show ((tr:Int) != (tr:Int))=false by simp,Qpw];by_cases c:la=0
 ·subst c;have:=Int.zero_dvd.1 d1;have:=Int.zero_dvd.1 e;rw [show ((0:Int) == 0)=true from rfl,Qpy,QnP (-lo<0),QnP (hi>0)];rfl
 rw [show (la == 0)=false by simpa using c,Qpw];by_cases e1:la=1
 ·rw [show (la == 1)=true by simpa using e1,Qpy]
 rw [show (la == 1)=false by simpa using e1,Qpw];have ak:¬ -lo<hi:=fun ak=>by
  obtain ⟨_,g⟩:=ac (-lo+1) QnI QnI;have:=(Int.dvd_add_right d1).1 g;have:=Int.eq_one_of_dvd_one hl this;exact e1 this
 rw [QpI ak,Ng c,QpY,Q0,Qpw,Int.tmod_eq_zero_of_dvd d1];rfl
def OkF (u:U):Prop:=QcB u/\0<=u.2.2.2.2/\u.2.2.2.2<=10000000/\u.1<=1000000/\u.2.1<=1000000
theorem Q4J {us:List U} {i:Nat} {u:U} (h:us[i]? = some u):Q1 (us.map MU) (i:Int)=some (MU u):=by rw [Qd,Qq7,h];rfl
theorem Qf3 {n:Nat} {t:Int} (p0:2<=t) (p1:t<=300) {us:List U} (hl:us.length<=1000) (hn:us.length<n) (hu:∀ u∈us,OkF u):Vu n t (us.map MU) some=some true:=by
 unfold Vu;rw [QnP (t<2),QnP (t>7200)];simp -implicitDefEqProofs only [Qpw,QpB];refine Qs (r:=fun m i=>Zm n (us.map MU) (us.length:Int) (some false) (fun _ _=>some true) m i) (N:=us.length) (fun m i hi=>?_) (fun m=>?_) us.length n 0 QnI hn
 ·have e:=Qpv hi;obtain ⟨⟨a,h2,b,c⟩,d,g,h,j⟩:=hu _ (Qpt e);rw [Zm,Qe hi,Qpy,Q4J e,Q0];generalize us[i]=u at *
  obtain ⟨r,tr,f,l,la⟩:=u;dsimp only at *
  simp -implicitDefEqProofs only [MU,Q0,Qpu,Qpz,Q2];rw [QnP ((r:Int)<0),QnP ((tr:Int)<0),QnP (f < -1099511627776),QnP (f>1099511627776),QnP (l<1),QnP (l>1099511627776),QnP (la<0),QnP (la>1099511627776),Qv QnI];rfl
 ·rw [Zm,Qj,Qpw]
def rsF (us:List U):List Int:=us.map fun u=>(u.1:Int)
def jsF (us:List U) (i:Nat):List Nat:=(List.range' i (us.length-i)).filter fun j=>(rsF us).getD j 0 == (rsF us).getD i 0
def enN (l:List Nat):LL:=l.map fun (j:Nat)=>[Q4 (j:Int)]
theorem Qee:∀ {us:List U},(∀ u∈us,OkF u)->Q5N (us.map MU)=some (rsF us)
 |[],_=>rfl
 |u::us,h=>by
  have a:=(h u (.head _)).2.2.2.1;show (bif decide (-9223372036854775808<=(u.1:Int))&&decide ((u.1:Int)<=9223372036854775807) then match Q5N (us.map MU) with
   |some s=>some ((u.1:Int)::s)
   |none=>none
  else none)=_
  rw [Qee fun v hv=>h v (.tail _ hv),QpZ QnI,QpZ QnI];rfl
theorem Q1a {us:List U}:(rsF us).length=us.length:=by simp [rsF]
theorem Q86 {i N:Nat} (hi:i<=N):List.range N=List.range i++List.range' i (N-i):=by
 rw [List.range_eq_range',List.range_eq_range'];have:=List.range'_append (s:=0) (m:=i) (n:=N-i) (step:=1);rw [show i+(N-i)=N by omega] at this;simpa using this.symm
theorem QaW {us:List U} {i:Nat} (hi:i<us.length):(AL (rsF us) i ((rsF us).getD i 0)).length<=(Q4a (rsF us) ((rsF us).getD i 0)).length/\(Q4a (rsF us) ((rsF us).getD i 0)).drop (AL (rsF us) i ((rsF us).getD i 0)).length=enN (jsF us i):=by
 unfold Q4a;rw [<- List.map_drop,QpB,Q1a];unfold AL;rw [Q86 (Nat.le_of_lt hi),List.filter_append,QpK,List.drop_left',List.map_map]
 ·exact ⟨by simp,rfl⟩
 ·rfl
theorem Qje {rs:List Int} {i:Nat} (h:i<rs.length):Q1 (BI rs rs.length) (i:Int)=some [.int .i64 ((AL rs i (rs.getD i 0)).length:Nat)]:=by
 unfold BI;rw [Nat.sub_self,List.replicate_zero,QpX,Qd,Qq7,List.getElem?_range h];rfl
theorem Qha {n:Nat} {t:Int} (p0:2<=t) (p1:t<=300) {us:List U} (hu:∀ u∈us,OkF u) {u:U} (ho:OkF u) {js:List Nat} (an:js.length<=1000) (hn:js.length<n) (hj:∀ j∈js,∃ v,us[j]? = some v/\NoC t u v) {k1:Int->Bool->oP R} {E:oP R} (hk:∀ x b,k1 x b=E) :
  Qc1 n t (us.map MU) (enN js) (js.length:Int) (Q4 (u.1:Int)) (Q4 (u.2.1:Int)) (Q4 u.2.2.1) (Q4 u.2.2.2.1) (Q4 u.2.2.2.2) k1 n 0=E:=by
 refine Qs (r:=fun m i=>Qc1 n t (us.map MU) (enN js) (js.length:Int) (Q4 (u.1:Int)) (Q4 (u.2.1:Int)) (Q4 u.2.2.1) (Q4 u.2.2.2.1) (Q4 u.2.2.2.2) k1 m i) (N:=js.length) (fun m i hi=>?_) (fun m=>?_) js.length n 0 QnI hn
 ·have e:=Qpv hi;obtain ⟨v,hv,hc⟩:=hj _ (Qpt e);have aj:=hu _ (Qpt hv);have er:Q1 (enN js) (i:Int)=some [Q4 ((js[i]:Nat):Int)]:=by rw [Qd];unfold enN;rw [Qq7,e];rfl
  rw [Qc1];unfold Qgp;rw [Qe hi,Qpy,er];simp -implicitDefEqProofs only [Q0,Qpu,Q2,Q4J hv,MU,Qpz,QhU p0 p1 ho.1 aj.1 ho.2.1 hc,Qpw,Qv (show i<=1000 by omega)]
 ·rw [Qc1];unfold Qgp;rw [Qj,Qpw];exact hk _ _
theorem QgX {n:Nat} {t:Int} (p0:2<=t) (p1:t<=300) {us:List U} (hl:us.length<=1000) (hn:us.length<n) (hu:∀ u∈us,OkF u) (hc:∀ u∈us,∀ v∈us,u.1=v.1->NoC t u v):Vf n t (us.map MU) some=some true:=by
 unfold Vf WW Q3K;rw [Qf3 p0 p1 hl hn hu,Q0,QpW,Qpw,Qee hu];dsimp only;rw [Q1a,show Nat.ble us.length 1000000000=true from Nat.ble_eq_true_of_le QnI,Qpy,QpB];have:QbO n t (us.map MU) (Q4a (rsF us)) (BI (rsF us) us.length) (us.length:Int) (fun _ _=>some true) n 0=some true:=by
  refine Qs (r:=fun m i=>QbO n t (us.map MU) (Q4a (rsF us)) (BI (rsF us) us.length) (us.length:Int) (fun _ _=>some true) m i) (N:=us.length) (fun m i hi=>?_) (fun m=>?_) us.length n 0 QnI hn
  ·have e:=Qpv hi;have ho:=hu _ (Qpt e);obtain ⟨a,b⟩:=QaW hi;have hp:=Qje (rs:=rsF us) (i:=i) (by rw [Q1a];exact hi);have hr:(rsF us).getD i 0=(us[i].1:Int):=by simp [rsF,QpA,e]
   rw [Q1a] at hp;rw [hr] at a b hp;have hs:slB (Q4a (rsF us) (us[i].1:Int)).length (some ((AL (rsF us) i (us[i].1:Int)).length:Int)) none=some ((AL (rsF us) i (us[i].1:Int)).length,(Q4a (rsF us) (us[i].1:Int)).length):=by
    unfold slB;simp [a]
   have ac:cut (Q4a (rsF us) (us[i].1:Int)) ((AL (rsF us) i (us[i].1:Int)).length,(Q4a (rsF us) (us[i].1:Int)).length)=enN (jsF us i):=by
    rw [<- b];unfold cut;exact List.take_of_length_le QnK
   have ak:(jsF us i).length<=us.length:=by
    unfold jsF;exact Nat.le_trans (List.length_filter_le ..) QnK
   rw [QbO];unfold Qfa;rw [Qe hi,Qpy,Q4J e];simp -implicitDefEqProofs only [MU,Q0,Qpu,Qpz,Q2,hp,hs,ac];rw [show ((enN (jsF us i)).length:Int)=(((jsF us i).length:Nat):Int) by simp [enN],Qv QnI];refine Qha p0 p1 hu ho QnI QnI (fun j hj=>?_) fun _ _=>rfl
   unfold jsF at hj;rw [Qq8,List.mem_range'_1] at hj;have ej:=Qpv (l:=us) (i:=j) QnI;refine ⟨_,ej,hc _ (Qpt e) _ (Qpt ej) ?_⟩;have:=hj.2;rw [hr,show (rsF us).getD j 0=(us[j].1:Int) by simp [rsF,QpA,ej]] at this;have:=beq_iff_eq.1 this;omega
  ·rw [QbO];unfold Qfa;rw [Qj,Qpw]
 rw [this,Q0]
end Go.Vx
namespace Go.Vx
def TG (per:Int) (k:Nat) (w:List Int):Prop:=w.length=k/\∀ x∈w,0<=x/\x<per
theorem TG.set {per:Int} {k:Nat} {w:List Int} (h:TG per k w) {i:Nat} {v:Int} (a:0<=v) (b:v<per):TG per k (w.set i v):=by
 refine ⟨by rw [List.length_set];exact h.1,fun x hx=>?_⟩;rcases List.mem_or_eq_of_mem_set hx with hx | rfl
 ·exact h.2 x hx
 omega
section
variable {R:Type} {n N:Nat} (hN:N<=48) {P:oP R->Prop}
include hN
end
section
variable {per:Int} {E A:LL} {n:Nat} (p0:2<=per) (p1:per<=300) (hE:E.length<=48) (hA:A.length<400) (hr:∀ r∈A,R6 r) (hc:∀ r∈A,chk per E.length r=true) (hn:n=400)
include p0 p1 hE hA hr hc hn
end
end Go.Vx
namespace Go.Vx
variable {R:Type} (n:Nat)
def QM (d:Int) (e:LL) (b f g:Int) (k0:Qkm R):Qkn R
 | 0,_,_=>none
 | m+1,a,h=>bif decide (a<b) then QjQ R e a fun j i k=>QjC R j i fun l o=>QjC R k i fun p q=>Qjr R (Q9 n l (wJ (d+o)) (wJ (p-q)) h f g some) fun r=>QM d e b f g k0 m (wJ (a+1)) r else k0 a (decide (a<b)) h
def Qn (ai c:Int) (aj:LL) (s h:Int) (ak:Bool) (i:Int) (t u v x y:D) (d z aa ab ac al o p:LL) (e:Int) (f g:LL) (ad:Bool) (q:LL) (r:Int) (k0:QkA R):Qkx R
 | 0,_,_,_=>none
 | m+1,a,b,am=>bif decide (b<s) then QjG R aj b fun an bn=>Qjr R an[1]? fun ds=>Qkb R an (Qkd R bn al fun j ae=>Qjq R (wJ (b+1)) fun k=>bif Qjo (Qjo (!ak) (ai==0)) (b==0) then Qjr R (pSl 2 j) fun bp=>QjD R bp 0 fun bt=>Qjr R (Q9 n bt (wJ (a-60)) 60 am h i some) fun ap=>QjW R j ae fun bu bv=>Qjr R (Rw t) fun bx=>Qk1 R u v x y fun bz ca cb cc=>Qjr R (VA n z aa ab ac bu bv bx bz ca cb cc Tu3) fun ag=>bif ad then QM n a ag.1 (ag.1.length:Int) h i (fun dw dx ce=>Qjr R (Xi n e f g d c b some) fun aq=>jn (fun (ar au:Int)=>(Qjr R (pSl 2 j) fun cf=>QjW R j ae fun cg ch=>QjD R cf (wJ (wJ ((cg.length:Int)-ch)-1)) fun ck=>Qjr R (Q9 n ck (wJ (a+ar)) (wJ (wJ (au-a)-ar)) ce h i some) fun cm=>Qn ai c aj s h ak i t u v x y d z aa ab ac al o p e f g ad q r k0 m au k cm:oP R)) fun av=>gb true (QZ n o p e f g q d r c b Tu2) (0,false) fun aw=>bif aw.2 then av ag.2.1 (wJ (wJ (a+aq)+aw.1)) else av ag.2.1 (wJ (wJ (a+aq)+60))) n 0 ap else Qjr R (Xi n e f g d c b some) fun ax=>jn (fun (ay az:Int)=>(Qjr R (pSl 2 j) fun cn=>QjW R j ae fun co cp=>QjD R cn (wJ (wJ ((co.length:Int)-cp)-1)) fun cs=>Qjr R (Q9 n cs (wJ (a+ay)) (wJ (wJ (az-a)-ay)) ap h i some) fun ct=>Qn ai c aj s h ak i t u v x y d z aa ab ac al o p e f g ad q r k0 m az k ct:oP R)) fun ba=>gb true (QZ n o p e f g q d r c b Tu2) (0,false) fun bb=>bif bb.2 then ba ag.2.1 (wJ (wJ (a+ax)+bb.1)) else ba ag.2.1 (wJ (wJ (a+ax)+60)) else QjW R j ae fun cu cv=>Qjr R (Rw t) fun cw=>Qk1 R u v x y fun cx cy cz da=>Qjr R (VA n z aa ab ac cu cv cw cx cy cz da Tu3) fun ah=>bif ad then QM n a ah.1 (ah.1.length:Int) h i (fun dy dz db=>Qjr R (Xi n e f g d c b some) fun bc=>jn (fun (bd be:Int)=>(Qjr R (pSl 2 j) fun dc=>QjW R j ae fun dd de=>QjD R dc (wJ (wJ ((dd.length:Int)-de)-1)) fun dh=>Qjr R (Q9 n dh (wJ (a+bd)) (wJ (wJ (be-a)-bd)) db h i some) fun di=>Qn ai c aj s h ak i t u v x y d z aa ab ac al o p e f g ad q r k0 m be k di:oP R)) fun bg=>gb true (QZ n o p e f g q d r c b Tu2) (0,false) fun bh=>bif bh.2 then bg ah.2.1 (wJ (wJ (a+bc)+bh.1)) else bg ah.2.1 (wJ (wJ (a+bc)+60))) n 0 am else Qjr R (Xi n e f g d c b some) fun bi=>jn (fun (bj bk:Int)=>(Qjr R (pSl 2 j) fun dj=>QjW R j ae fun dk dl=>QjD R dj (wJ (wJ ((dk.length:Int)-dl)-1)) fun dq=>Qjr R (Q9 n dq (wJ (a+bj)) (wJ (wJ (bk-a)-bj)) am h i some) fun dr=>Qn ai c aj s h ak i t u v x y d z aa ab ac al o p e f g ad q r k0 m bk k dr:oP R)) fun bl=>gb true (QZ n o p e f g q d r c b Tu2) (0,false) fun bm=>bif bm.2 then bl ah.2.1 (wJ (wJ (a+bi)+bm.1)) else bl ah.2.1 (wJ (wJ (a+bi)+60))) else k0 a b (decide (b<s)) am
def Xm (f:LL) (d g:Int) (h:Bool) (i:Int) (j k l o p q r c s:LL) (t:Int) (u v:LL) (x:Bool) (y:LL) (z:Int) (k0:QkA R):Qkx R
 | 0,_,_,_=>none
 | m+1,aa,a,ab=>bif decide (a<d) then QjD R f a fun e=>QjN R c e fun ai=>QjE R q ai fun b aj ak al=>QjO R b fun am an=>QjM R c e fun ac=>Qn n a e ac (ac.length:Int) g h i aj ak al am an j k l o p r c s t u v x y z (fun aq au av ar=>Xm f d g h i j k l o p q r c s t u v x y z k0 m aq (wJ (a+1)) ar) n aa 0 ab else k0 aa a (decide (a<d)) ab
def Z0 (l m o p q r d e:LL) (f:Int) (g c:LL) (s:Bool) (h a:LL) (i:Int) (t:LL) (a1:Int) (b:LL) (j:Bool) (K:Qkp R):oP R:=Qjr R (Zq n d e f g c h a i b j some) fun u=>QjD R b 0 fun k=>QjJ R a.length k a k.toNat fun y=>QjD R c (wJ (2*y)) fun ab=>Xm n b (b.length:Int) a1 j u a l m o p q r d e f g c s h i (fun ae ag ah ac=>K ac) n ab 0 t
def XJ (n:Nat) (f:LL) (d:Int) (k0:QkA R):Qkx R
 | 0,_,_,_=>none
 | m+1,b,a,e=>bif decide (a<d) then QjU R f a fun g=>Qjr R (Y9 ((e.length+[[Q4 b]].length)*8)) fun l=>Qjr R (pSl 4 g) fun h=>XJ n f d k0 m (wJ (b+(h.length:Int))) (wJ (a+1)) (e++[[Q4 b]]) else k0 b a (decide (a<d)) e
def Xr (c:LL) (b:Int) (d e f g h i j k:LL) (l:Int) (o p:LL) (q:Bool) (r:LL) (s:Int) (t:LL) (k0:Qkm R):Qkn R
 | 0,_,_=>none
 | m+1,a,u=>bif decide (a<b) then QjP R c a fun x y=>Qjr R (pSl 1 x) fun z=>Qjr R (KA y) fun aa=>Qjr R (Z0 n d e f g h i j k l o p q r t s u a z aa some) fun ab=>Xr c b d e f g h i j k l o p q r s t k0 m (wJ (a+1)) ab else k0 a (decide (a<b)) u
def Jk (e f g h:LL) (m:Int) (i j b k c o p a2:LL) (q:Bool) (K:Qkq R):oP R:=gb true (Gn n e f g h m i j b k c o p Tu4) (0,[],[],0) fun a=>bif a.2.2.2 !=0 then K [] a.2.2.2 else Qjr R (JG n a.1 a.2.1 a.2.2.1 a2 some) fun r2=>bif !r2 then K [] 1 else Qjr R (Z7 n b c some) fun d=>XJ n b (b.length:Int) (fun s v x t=>Qjr R (XB n b c some) fun l=>Xr n l (l.length:Int) e f g h i j b k a.1 a.2.2.1 a2 q d s t (fun y z u=>K u 0) n 0 []) n 0 0 []
end Go.Vx
namespace Go.Vx
theorem Qa4 {R:Type} {n res train:Nat} {us:List U} (hl:us.length<=1000) {fr len laps:Int} (K:LL->oP R):Q9 n (res:Int) fr len (us.map MU) (train:Int) laps K=K ((Cb us (res,train,fr,len,laps)).map MU):=by
 unfold Q9 Cb;by_cases h:0<len
 ·rw [show decide (len>0)=true from QpZ h,Qpy,Qq5 h,XF QnL,Q0,QpK];rfl
 ·rw [show decide (len>0)=false from QpI h,Qpw,Qq2 h]
theorem QiY {R:Type} {n train:Nat} {us:List U} (hl:us.length<=1000) {x fr len laps:Int} (hx:0<=x) (K:LL->oP R):Q9 n x fr len (us.map MU) (train:Int) laps K=K ((Cb us (x.toNat,train,fr,len,laps)).map MU):=by
 obtain ⟨m,rfl⟩:=Int.eq_ofNat_of_zero_le hx;exact Qa4 hl K
theorem QfC {R:Type} {train:Nat} {laps a:Int} (a0 : -6000000<=a) (a1:a<=6000000) {l:List Occ} (hl:∀ q∈l,0<=q.1 /\ -1000<=q.2.1/\q.2.1<q.2.2/\q.2.2<=20000) {us:List U} (hu:us.length<=600) (b:l.length<=6) {K:LL->oP R} :
  QM 400 a (l.map enc) (((l.map enc).length:Nat):Int) (train:Int) laps (fun _ _ w=>K w) 400 0 (us.map MU)=K ((Cx.occU train laps a us l).map MU):=by
 have go:∀ (ac:List Occ) (i m:Nat) (us:List U),l.drop i=ac->ac.length<m->us.length+ac.length<=700->QM 400 a (l.map enc) (((l.map enc).length:Nat):Int) (train:Int) laps (fun _ _ w=>K w) m (i:Int) (us.map MU)=K ((Cx.occU train laps a us ac).map MU):=by
  intro ac;induction ac with
  |nil=>
   intro i m us hd hm aj;obtain ⟨m,rfl⟩:∃ k,m=k+1:=⟨m-1,by simp at hm;omega⟩;have:=VG hd;rw [QM,QpB,show decide ((i:Int)<(l.length:Int))=false by simpa using this,Qpw];rfl
  |cons q ac ih=>
   intro i m us hd hm aj;obtain ⟨m,rfl⟩:∃ k,m=k+1:=⟨m-1,by simp at hm;omega⟩;obtain ⟨e,al,ak⟩:=ZC hd;have hq:=hl q (Qpt e);have eq:Q1 (l.map enc) (i:Int)=some [Q4 q.1,Q4 q.2.1,Q4 q.2.2]:=by rw [Qd,Qq7,e];rfl
   have ao:=LY (us:=us) (u:=(q.1.toNat,train,a+q.2.1,q.2.2-q.2.1,laps));rw [List.length_cons] at hm aj;rw [QM,QpB,Qe ak,Qpy,eq];simp -implicitDefEqProofs only [Q0,Qpu,Qpz,Q2,Q6 (x:=a+q.2.1) QnI QnI,Q6 (x:=q.2.2-q.2.1) QnI QnI,Qv (show i<=1000 by omega)];rw [QiY QnI hq.1,Q0,<- QpB (f:=enc)];exact ih (i+1) m _ al QnI QnI
 exact go l 0 400 us rfl QnI QnI
namespace Cx
variable {X:Cx} {per:Int} {Ch Sy A:LL} {tl:List Int}
variable (g:X.Gd per Ch Sy A tl)
include g
variable {R:Type}
theorem Gd.ridesM {mv c:Bool} {idx train:Nat} {laps:Int} {i:Nat} (hi:i<X.Ls.length) {s:Int×List U} (s0 : -5000000<=s.1) (s1:s.1<=5000000) (sl:s.2.length<=500) (au:idx<=100) {k0:Int->Int->Bool->LL->oP R} :
  Qn 400 (idx:Int) (i:Int) (GT X.Ls i) ((X.nr i:Nat):Int) (train:Int) c laps (D.str X.nm) (Q4 X.tl) (Q4 X.sp) (Q4 X.ac) (Q4 X.br) (X.fst X.L) X.G.St X.G.Pt X.G.Se X.G.Li X.Ro X.Ls Ch per A (encI tl) mv (encI ((List.range X.L).map (tix X.T))) (X.N:Int) k0 400 s.1 0 (s.2.map MU)=k0 (X.rideM per tl mv c idx train laps i s (X.nr i)).1 ((X.nr i:Nat):Int) false ((X.rideM per tl mv c idx train laps i s (X.nr i)).2.map MU):=by
 have hn:=(K7 g.ok hi).2.1;refine Qs (r:=fun m k=>Qn 400 (idx:Int) (i:Int) (GT X.Ls i) ((X.nr i:Nat):Int) (train:Int) c laps (D.str X.nm) (Q4 X.tl) (Q4 X.sp) (Q4 X.ac) (Q4 X.br) (X.fst X.L) X.G.St X.G.Pt X.G.Se X.G.Li X.Ro X.Ls Ch per A (encI tl) mv (encI ((List.range X.L).map (tix X.T))) (X.N:Int) k0 m (X.rideM per tl mv c idx train laps i s k.toNat).1 k ((X.rideM per tl mv c idx train laps i s k.toNat).2.map MU)) (N:=X.nr i) (fun m k hk=>?_) (fun m=>?_) (X.nr i) 400 0 QnI QnI
 ·simp only [Qpx];have r:=rd g.ok hi hk;have hr:=P2 g.ok hi hk;have l2:=r.rt.l2;have l24:=r.rt.l24;have hb:=g.rideM_rng (mv:=mv) (c:=c) (idx:=idx) (train:=train) (laps:=laps) hi (s:=s) (k:=k) QnI;have f:=g.runV_rng hi hk;have h2:=g.gapV_rng hi hk;obtain ⟨d0,_,_,_,_,_,h,_⟩:=QcG r.rt (j:=0) QnI;obtain ⟨d1,_,_,_,_,_,e1,_⟩:=QcG r.rt (j:=(X.st i k).length-1) QnI;have aq:Q1 (GT X.Ls i) (k:Int)=some [Q4 (rF X.Ls i k 0),Q4 (X.ex i k),Q4 (X.mn i k),Q4 (X.mx i k)]:=by rw [Qd,r.row]
  have n:Q1 (X.st i k) 0=some [Q4 (sec (X.st i k) 0:Int),Q4 d0]:=h;have p:Q1 (X.st i k) (((X.st i k).length-1:Nat):Int)=some [Q4 (sec (X.st i k) ((X.st i k).length-1):Int),Q4 d1]:=by rw [Qd,e1]
  have hw:wJ (wJ ((((X.st i k).length:Nat):Int)-0)-1)=(((X.st i k).length-1:Nat):Int):=by rw [Q6 (x:=(((X.st i k).length:Nat):Int)-0) QnI QnI,Q6 QnI QnI];omega
  rw [rideM];generalize X.rideM per tl mv c idx train laps i s k=q at hb ⊢;have he:=g.endV_rng hi hk (a:=q.1);have aj:(X.gapV per tl i k).2=true->wJ (wJ (q.1+X.runV per tl i k)+(X.gapV per tl i k).1)=X.endV per tl i k q.1:=fun hg=>by
   unfold endV;rw [Q6 (x:=q.1+X.runV per tl i k) QnI QnI,Qq5 hg,Q6 QnI QnI]
  have ak:(X.gapV per tl i k).2=false->wJ (wJ (q.1+X.runV per tl i k)+60)=X.endV per tl i k q.1:=fun hg=>by
   unfold endV;rw [Q6 (x:=q.1+X.runV per tl i k) QnI QnI,hg,Qq2 Bool.false_ne_true,Q6 QnI QnI]
  rw [Qn,Qe hk,Qpy,aq];simp -implicitDefEqProofs only [jn,Q0,Qpu,Qpz,Q2,QJ,Xt,r.ro,QeY g.ok hi hk,g.runP hi hk,g.gapP hi hk,Qpw,hw,n,p,Qv (show k<=1000 by omega),Q6 (x:=q.1-60) QnI QnI];have fb:(bif (bif (bif !c then ((idx:Int) == 0) else false) then ((k:Int) == 0) else false) then true else false)=decide (c=false/\idx=0/\k=0):=by
   cases c
   ·by_cases f:idx=0
    ·by_cases h2:k=0
     ·subst f h2;rfl
     ·rw [show ((k:Int) == 0)=false by simp;omega,QpI (by simp [h2])];cases (bif !false then ((idx:Int) == 0) else false) <;> rfl
    ·rw [show ((idx:Int) == 0)=false by simp;omega,QpI (by simp [f])];rfl
   ·rw [QpI QnK];rfl
  have ar:(bif (bif !c then ((idx:Int) == 0) else false) then ((k:Int) == 0) else false)=decide (c=false/\idx=0/\k=0):=by
   rw [<- fb];cases (bif (bif !c then ((idx:Int) == 0) else false) then ((k:Int) == 0) else false) <;> rfl
  rw [ar];unfold stM;have b:=Q6 (x:=q.1+X.run i k) QnI QnI;have d:=Q6 (x:=X.endV per tl i k q.1-q.1) QnI QnI;have e:=Q6 (x:=X.endV per tl i k q.1-q.1-X.run i k) QnI QnI;have ho:=Cd g.ok hi hk;have hx:=(Q8V g.ok hi hk).1;have an:∀ o∈X.stair i k,0<=o.1 /\ -1000<=o.2.1/\o.2.1<o.2.2/\o.2.2<=20000:=fun o ao=>by
   have f:=ho.1.mem o ao;have h2:=hx o ao;exact ⟨h2.1,f.2.1,h2.2.1,f.2.2.2.1⟩
  by_cases hf:c=false/\idx=0/\k=0
  ·have t:=LY (us:=q.2) (u:=(sec (X.st i k) 0,train,q.1-60,60,laps));rw [QpZ hf,Qpy,Qq5 hf,Qa4 QnI,Q0];generalize Cb q.2 (sec (X.st i k) 0,train,q.1-60,60,laps)=us at t ⊢;have v:=DZ (train:=train) (laps:=laps) (a:=q.1) (l:=X.stair i k) (us:=us);cases mv
   ·simp -implicitDefEqProofs only [Qpw];cases hg:(X.gapV per tl i k).2
    ·rw [Qpw,ak hg,b,d,e,Qa4 QnI,Q0]
    ·rw [Qpy,aj hg,b,d,e,Qa4 QnI,Q0]
   ·simp -implicitDefEqProofs only [Qpy];rw [QfC QnI QnI an QnI ho.2];cases hg:(X.gapV per tl i k).2
    ·rw [Qpw,ak hg,b,d,e,Qa4 QnI,Q0]
    ·rw [Qpy,aj hg,b,d,e,Qa4 QnI,Q0]
  ·rw [QpI hf,Qpw,Qq2 hf];have v:=DZ (train:=train) (laps:=laps) (a:=q.1) (l:=X.stair i k) (us:=q.2);cases mv
   ·simp -implicitDefEqProofs only [Qpw];cases hg:(X.gapV per tl i k).2
    ·rw [Qpw,ak hg,b,d,e,Qa4 QnI,Q0]
    ·rw [Qpy,aj hg,b,d,e,Qa4 QnI,Q0]
   ·simp -implicitDefEqProofs only [Qpy];rw [QfC QnI QnI an QnI ho.2];cases hg:(X.gapV per tl i k).2
    ·rw [Qpw,ak hg,b,d,e,Qa4 QnI,Q0]
    ·rw [Qpy,aj hg,b,d,e,Qa4 QnI,Q0]
 ·simp only [Qpx];rw [Qn,Qj,Qpw]
theorem Gd.trainP {mv:Bool} {us:List U} (ao:us.length<=300) {train:Nat} {r:List Nat×Bool} (f:1<=r.1.length) (h:r.1.length<=3) (hr:∀ i∈r.1,i<X.Ls.length) (K:LL->oP R) :
  Z0 400 X.G.St X.G.Pt X.G.Se X.G.Li X.skR X.Ro X.Ls Ch per A (encI tl) mv (encI ((List.range X.L).map (tix X.T))) (X.fst X.L) (X.N:Int) (us.map MU) (train:Int) (Q5I r.1) r.2 K=K ((X.trainM per tl mv us train r).map MU):=by
 obtain ⟨ls,c⟩:=r;dsimp only at f h hr ⊢;have hN:X.N<=6:=base_le g.ok;have p1:=g.p1;have b:=Qpv (l:=ls) (i:=0) QnI;have d:=hr _ (Qpt b);have o:ls.getD 0 0=ls[0]:=by rw [QpA,b];rfl
 have q:=Y8 g.ok (i:=ls[0]) QnI;have aq:=Qdo g.ok d (k:=0) (by have:=(K7 g.ok d).2.1;omega);have ht:=g.tat (i:=((2*base X.nr ls[0]:Nat):Int)) QnI QnI;have er:Q1 (Q5I ls) 0=some [Q4 (ls[0]:Int)]:=Q59 (j:=0) b;have ef:=Q6w (X:=X) (i:=ls[0]) (L:=X.L) d;rw [Qd] at ef;have el:(X.fst X.L).length=X.Ls.length:=by simp [fst,encI,L]
 have aj:Q1 X.skR 0=some [D.str X.nm,Q4 X.tl,Q4 X.sp,Q4 X.ac,Q4 X.br]:=rfl;unfold Z0 trainM;rw [g.lapsP hr QnI,Q0,er];dsimp only;rw [o,show (Q5I ls).length=ls.length by simp [Q5I]];generalize X.lapsV per tl ls c=laps;simp -implicitDefEqProofs only [Q0,Qpu,Q2,YX (len:=(X.fst X.L).length) (n:=((ls[0]:Nat):Int)) QnI QnI,Qpx,ef,NY (a:=base X.nr ls[0]) QnI,ht.1];refine Qs (r:=fun m j=>Xm 400 (Q5I ls) (ls.length:Int) (train:Int) c laps (X.fst X.L) X.G.St X.G.Pt X.G.Se X.G.Li X.skR X.Ro X.Ls Ch per A (encI tl) mv (encI ((List.range X.L).map (tix X.T))) (X.N:Int) (fun t u v p=>K p) m (X.lineM per tl mv c train laps ls (Vx.tat tl ((2*base X.nr ls[0]:Nat):Int),us) j.toNat).1 j ((X.lineM per tl mv c train laps ls (Vx.tat tl ((2*base X.nr ls[0]:Nat):Int),us) j.toNat).2.map MU)) (N:=ls.length) (fun m j hj=>?_) (fun m=>?_) ls.length 400 0 QnI QnI
 ·simp only [Qpx];have e:=Qpv hj;have hi:=hr _ (Qpt e);have hd:ls.getD j 0=ls[j]:=by rw [QpA,e];rfl
  have hb:=g.lineM_rng (mv:=mv) (c:=c) (train:=train) (laps:=laps) hr (s:=(Vx.tat tl ((2*base X.nr ls[0]:Nat):Int),us)) (j:=j) QnI;dsimp only at hb;rw [lineM,hd];rw [Xm,Qe hj,Qpy,Q59 e];simp -implicitDefEqProofs only [Q0,Qpu,Qpz,Q2,QJ,Qd,(K7 g.ok hi).1,aj,Qv (show j<=1000 by omega)];exact g.ridesM hi (s:=X.lineM per tl mv c train laps ls (Vx.tat tl ((2*base X.nr ls[0]:Nat):Int),us) j) QnI QnI QnI QnI
 ·simp only [Qpx];rw [Xm,Qj,Qpw]
theorem Gd.usesM_len {mv:Bool} {rs:List (List Nat×Bool)} (hr:X.RsOK rs):∀ {j:Nat},j<=rs.length->(X.usesM per tl mv rs j).length<=16*Q3H (rs.take j)
 |0,_=>Qqd _
 |j+1,hj=>by
  have ih:=Gd.usesM_len (mv:=mv) hr (j:=j) QnI;have e:=Qpv (l:=rs) (i:=j) QnI;have hd:rs.getD j ([],false)=rs[j]:=by rw [QpA,e];rfl
  have ac:=hr.ls _ (Qpt e);have:=g.lineM_rng (mv:=mv) (c:=rs[j].2) (train:=j) (laps:=X.lapsV per tl rs[j].1 rs[j].2) ac.2 (s:=(Vx.tat tl ((2*base X.nr (rs[j].1.getD 0 0):Nat):Int),X.usesM per tl mv rs j)) (QpF rs[j].1.length);rw [usesM,hd,Q9T e];unfold trainM;dsimp only at this;omega
theorem Gd.usesP {mv:Bool} {rs:List (List Nat×Bool)} (hr:X.RsOK rs) (k0:LL->oP R):Xr 400 (Qc8 rs) (rs.length:Int) X.G.St X.G.Pt X.G.Se X.G.Li X.skR X.Ro X.Ls Ch per A (encI tl) mv (encI ((List.range X.L).map (tix X.T))) (X.N:Int) (X.fst X.L) (fun _ _ w=>k0 w) 400 0 []=k0 ((X.usesM per tl mv rs rs.length).map MU):=by
 have n3:=hr.n3;have hs:=hr.sum;refine Qs (r:=fun m j=>Xr 400 (Qc8 rs) (rs.length:Int) X.G.St X.G.Pt X.G.Se X.G.Li X.skR X.Ro X.Ls Ch per A (encI tl) mv (encI ((List.range X.L).map (tix X.T))) (X.N:Int) (X.fst X.L) (fun _ _ w=>k0 w) m j ((X.usesM per tl mv rs j.toNat).map MU)) (N:=rs.length) (fun m j hj=>?_) (fun m=>?_) rs.length 400 0 QnI QnI
 ·simp only [Qpx];have e:=Qpv hj;have hd:rs.getD j ([],false)=rs[j]:=by rw [QpA,e];rfl
  have aj:=hr.ls _ (Qpt e);have a:=hr.len3 e;have ak:=g.usesM_len (mv:=mv) hr (j:=j) QnI;have:=Q8b (rs:=rs) (j:=j);have ac:Q1 (Qc8 rs) (j:Int)=some [D.sl 1 (Q5I rs[j].1),D.bool rs[j].2]:=by rw [Qd];unfold Qc8;rw [Qq7,e];rfl
  rw [Xr,Qe hj,Qpy,ac,usesM,hd];simp -implicitDefEqProofs only [Q0,Qpu,Qpz,QJ,Mr,g.trainP (show (X.usesM per tl mv rs j).length<=300 by omega) aj.1 a aj.2,Qv (show j<=1000 by omega)]
 ·simp only [Qpx];rw [Xr,Qj,Qpw]
end Cx
theorem HO.lt {X:Cx} {f k:Nat} {r:List D} (h:HO X.Ls f k r):f<X.Ls.length/\k<X.nr f:=by
 obtain ⟨nm,w,rides,a,h2⟩:=h;refine ⟨(QpC.1 a).1,?_⟩;have e:GT X.Ls f=rides:=by unfold GT;rw [a]
 unfold Cx.nr;rw [e];exact (QpC.1 h2).1
theorem PlanR.lsOK {X:Cx} {per:Int} {Sk Ch Tu Sy De:LL} (h:PlanR X.G per Sk X.Ro X.Ls Ch Tu Sy De):X.LsOK per Ch Sy where
 ch:=fun row hr=>by
  obtain ⟨f,fr,t,tr,mn,mx,w,r,r',x,y,x',y',b,b',i,e,a,h2,g,j,k,c,d,_⟩:=h.ch row hr;exact ⟨f,fr,t,tr,mn,mx,w,e,a.lt.1,a.lt.2,h2.lt.1,h2.lt.2,c,d⟩
 chl:=h.chl
 sy:=fun row hr=>h.sy row hr
 syl:=h.syl
theorem Q5M {per:Int} {E A:LL} {w:List Int} (a:A.all (chk per E.length)=true) (h2:TG per E.length w):Q44 per E A w=true:=by
 unfold Q44;rw [a,h2.1];simp only [QpW,Qpw,bne_self_eq_false,QpJ,Qqf,Bool.cond_true_left,Bool.or_eq_false_iff,decide_eq_false_iff_not];intro x hx;have:=h2.2 x hx;omega
section
variable {n:Nat} {a0 a1 a2 a3:LL} {p:Int} {b1 b2 b3 b4 b5 b6 b7 t:LL}
theorem Qbb {q m:Int} {E A rr tu fs us:LL} {mv:Bool} (hb:Gn n a0 a1 a2 a3 p b1 b2 b3 b4 b5 b6 b7 Tu4=some (q,E,A,0)) (hg:JG n q E A t some=some true) (ht:Z7 n b3 b5 some=some tu) (hf:∀ k0:Int->LL->oP (LL×Int),XJ n b3 (b3.length:Int) (fun a _ _ w=>k0 a w) n 0 0 []=k0 m fs) (hr:XB n b3 b5 some=some rr)
  (hl:∀ k0:LL->oP (LL×Int),Xr n rr (rr.length:Int) a0 a1 a2 a3 b1 b2 b3 b4 q A t mv tu m fs (fun _ _ w=>k0 w) n 0 []=k0 us):Jk n a0 a1 a2 a3 p b1 b2 b3 b4 b5 b6 b7 t mv Tu2=some (us,0):=by
 unfold Jk;rw [hb];show (gb true (JG n q E A t some) false fun r2=>bif (!r2) then some ([],(1:Int)) else gb true (Z7 n b3 b5 some) [] fun h=>XJ n b3 ((List.length b3:Nat):Int) (fun c k l d=>gb true (XB n b3 b5 some) [] fun b=>Xr n b ((List.length b:Nat):Int) a0 a1 a2 a3 b1 b2 b3 b4 q A t mv h c d (fun i j e=>some (e,(0:Int))) n (0:Int) []) n (0:Int) (0:Int) [])=_;rw [hg,Q0,ht];show (XJ n b3 ((List.length b3:Nat):Int) (fun c k l d=>gb true (XB n b3 b5 some) [] fun b=>Xr n b ((List.length b:Nat):Int) a0 a1 a2 a3 b1 b2 b3 b4 q A t mv tu c d (fun i j e=>some (e,(0:Int))) n (0:Int) []) n (0:Int) (0:Int) [])=_;rw [hf (fun c d=>gb true (XB n b3 b5 some) [] fun b=>Xr n b ((List.length b:Nat):Int) a0 a1 a2 a3 b1 b2 b3 b4 q A t mv tu c d (fun i j e=>some (e,(0:Int))) n (0:Int) []),hr,Q0,hl (fun w=>some (w,(0:Int)))]
end
namespace Cx
variable {X:Cx} (h:X.OK) {per:Int} {Ch Sy De:LL} (hl:X.LsOK per Ch Sy) {R:Type}
include h
theorem firstsP (k0:Int->LL->oP R):XJ 400 X.Ls (X.Ls.length:Int) (fun a _ _ w=>k0 a w) 400 0 0 []=k0 (X.N:Int) (X.fst X.L):=by
 have l1:=h.l1;refine Qs (r:=fun m i=>XJ 400 X.Ls (X.Ls.length:Int) (fun a _ _ w=>k0 a w) m ((base X.nr i.toNat:Nat):Int) i (X.fst i.toNat)) (N:=X.Ls.length) (fun m i hi=>?_) (fun m=>?_) X.Ls.length 400 0 QnI QnI
 ·simp only [Qpx];have hb:=Y8 h (i:=i) QnI;have hn:=(K7 h hi).2.1;have e2:X.fst i++[[D.int .i64 (base X.nr i:Int)]]=X.fst (i+1):=by simp [fst,encI,List.range_succ]
  have c:(X.fst i).length=i:=by simp [fst,encI]
  have ha:wJ (((base X.nr i:Nat):Int)+(((GT X.Ls i).length:Nat):Int))=((base X.nr (i+1):Nat):Int):=QaE (a:=base X.nr i) (b:=X.nr i) QnI;rw [XJ,Qe hi,Qpy,Qd,(K7 h hi).1];simp -implicitDefEqProofs only [Q0,Qpu,Qpz,QJ,Qv (show i<=1000 by omega),e2,ha,XF (show ((X.fst i).length+[[D.int .i64 (base X.nr i:Int)]].length)*8<=100000 by rw [c];simp;omega)]
 ·simp only [Qpx];rw [XJ,Qj,Qpw];rfl
end Cx
def Sub (T T':List Occ):Prop:=T.length=T'.length/\∀ (r:Nat) (x a b:Int),T[r]? = some (x,a,b)->a<b->x=(r:Int)/\∃ a' b',T'[r]? = some ((r:Int),a',b')/\a'<=a/\b<=b'
theorem Sub.add {T T':List Occ} (h:Sub T T') {r:Nat} {f t f' t':Int} (g:f'<=f) (h2:t<=t') (m:f<t):Sub (Rs T r f t) (Rs T' r f' t'):=by
 refine ⟨by rw [TL,TL,h.1],fun c x a b e aj=>?_⟩;have hl:=h.1;by_cases hr:r<T.length
 ·obtain ⟨⟨i,a1,b1⟩,e1⟩:∃ q,T[r]? = some q:=⟨T[r],Qpv hr⟩;obtain ⟨⟨n,a2,b2⟩,e2⟩:∃ q,T'[r]? = some q:=⟨T'[r],Qpv QnI⟩;have hs:=h.2 r i a1 b1 e1;rw [e2] at hs;unfold Rs at e ⊢;rw [e1] at e;rw [e2];dsimp only at e ⊢;by_cases ac:r=c
  ·subst ac;by_cases hc:a1<b1
   ·obtain ⟨_,a',b',e',g1,d⟩:=hs hc;cases e';rw [Qq5 hc,QpT hr] at e;rw [Qq5 QnI,QpT QnI];cases e;refine ⟨rfl,_,_,rfl,?_,?_⟩ <;> split <;> split <;> omega
   ·rw [Qq2 hc,QpT hr] at e;cases e;refine ⟨rfl,?_⟩;split
    ·refine ⟨_,_,by rw [QpT QnI],?_,?_⟩ <;> split <;> omega
    ·exact ⟨_,_,by rw [QpT QnI],g,h2⟩
  ·have j:T[c]? = some (x,a,b):=by
    split at e
    ·rwa [Qq4 ac] at e
    ·rwa [Qq4 ac] at e
   obtain ⟨g0,a',b',g1,d⟩:=h.2 c x a b j aj;refine ⟨g0,a',b',?_,d⟩;split
   ·rwa [Qq4 ac]
   ·rwa [Qq4 ac]
 ·have k:T[r]? = none:=List.getElem?_eq_none QnI;have l:T'[r]? = none:=List.getElem?_eq_none QnI;unfold Rs at e ⊢;rw [k] at e;rw [l];exact h.2 c x a b e aj
theorem Q11 {s:LL} {f g f' g':Nat->Int} (N NP:Nat) (Li:LL) (h:∀ i,i<s.length->f' i<=f i/\g i<=g' i/\f i<g i/\(1<=i->f i<g (i-1))):∀ {i:Nat},i<=s.length->Sub (Hn N NP Li s f g i) (Hn N NP Li s f' g' i)
 |0,_=>⟨rfl,fun r x a b e ac=>by
  obtain ⟨c,h2⟩:=QpC.1 e;simp only [Hn,List.getElem_replicate] at h2;cases h2;omega⟩
 |i+1,hi=>by
  have ih:=Q11 N NP Li h (i:=i) QnI;have a:=h i QnI;rw [Hn,Hn];split
  ·exact ih.add a.1 a.2.1 a.2.2.1
  ·have b:=h (i-1) QnI;split
   ·exact ih.add a.1 a.2.1 a.2.2.1
   ·exact (ih.add a.1 a.2.1 a.2.2.1).add a.1 b.2.1 (a.2.2.2 QnI)
namespace Cx
variable {X:Cx} (h:X.OK)
include h
theorem QcE {i k:Nat} (hi:i<X.Ls.length) (hk:k<X.nr i):∀ q∈X.stair i k,∃ p∈X.occ i k,p.1=q.1/\p.2.1<=q.2.1/\q.2.2<=p.2.2:=by
 intro q hq;have hr:=(rd h hi hk).rt;have b:=QfL h hi hk;have ac:=fun j (hj:j<(X.st i k).length)=>Qg2 hr (nm:=X.nm) h.sk (QpU 0) QnI (QpU 0) QnI hj
 obtain ⟨x,a,c⟩:=q;have hm:=Qq8.1 hq;obtain ⟨r,ak⟩:=Qqb hm.1;have aj:a<c:=by simpa [Ts] using hm.2
 have hs:=Q11 X.G.Se.length X.G.Pt.length X.G.Li (s:=X.st i k) (f:=fr X.G.Se (X.st i k) (X.rn i k) 0) (g:=tu X.G.Se (X.st i k) (X.rn i k) 0) (f':=fr X.G.Se (X.st i k) (X.rn i k) (bf k)) (g':=tu X.G.Se (X.st i k) (X.rn i k) (X.af i k)) (fun j hj=>⟨by unfold fr;split <;> omega,by unfold tu;split <;> omega,(ac j hj).2.1,(ac j hj).2.2.2⟩) (QpF _);obtain ⟨e,a',b',e',d,h2⟩:=hs.2 r x a c ak aj;exact ⟨_,Qq8.2 ⟨Qpt e',by simp only [Ts,Qqc];omega⟩,e.symm,d,h2⟩
theorem Qbw {i k:Nat} (hi:i<X.Ls.length) (hk:k<X.nr i) {j:Nat} (hj:j<(X.st i k).length):∃ p∈X.occ i k,p.1=(sec (X.st i k) j:Int)/\p.2.1<=fr X.G.Se (X.st i k) (X.rn i k) (bf k) j/\tu X.G.Se (X.st i k) (X.rn i k) (X.af i k) j<=p.2.2:=by
 have hr:=(rd h hi hk).rt;have b:=QfL h hi hk;have ac:=fun j (hj:j<(X.st i k).length)=>Qg2 hr (nm:=X.nm) h.sk b.1.1 QnI b.2.1 QnI hj
 have m:=fun j (hj:j<(X.st i k).length)=>Qch hr (nm:=X.nm) h.sk b.1.1 b.1.2 b.2.1 b.2.2 hj
 obtain ⟨x,a,c,e,d,h2,l⟩:=Q53 (N:=X.G.Se.length) (NP:=X.G.Pt.length) (Li:=X.G.Li) (s:=X.st i k) (f:=fr X.G.Se (X.st i k) (X.rn i k) (bf k)) (g:=tu X.G.Se (X.st i k) (X.rn i k) (X.af i k)) (fun j hj=>QbG h hi hk hj) (fun j hj=>(ac j hj).2.1) (fun j d hj=>(ac j hj).2.2.2 d) (j:=j) (i:=(X.st i k).length) hj (QpF _);obtain ⟨e1,a',b',e',g1,n⟩:=(Q11 _ _ _ (fun j hj=>⟨QpU _,QpU _,(ac j hj).2.1,(ac j hj).2.2.2⟩) (QpF _)).2 _ x a c e l;rw [e1] at e;exact ⟨_,Qq8.2 ⟨Qpt e,by simpa [Ts] using l⟩,rfl,d,h2⟩
theorem Q8D {i:Nat} (hi:i<X.Ls.length) (hk:0<X.nr i):∃ p∈X.occ i 0,p.1=(sec (X.st i 0) 0:Int)/\p.2.1 <= -60/\0<=p.2.2:=by
 have hr:=(rd h hi hk).rt;have l2:=hr.l2;obtain ⟨p,hp,e,b,h2⟩:=Qbw h hi hk (j:=0) QnI;have hL:=Q0w hr (nm:=X.nm) h.sk (i:=0) (j:=0) (QpF _) QnI;have hc:=Ma (a:=fLV X.G.Se (X.st i 0) (X.rn i 0) 0) (by have:X.rn i 0=YB X.G.Se (X.st i 0) X.nm X.tl X.sp X.ac X.br:=rfl;rw [this];omega) (show (1:Int)<=1000 by decide);refine ⟨p,hp,e,?_,?_⟩
 ·unfold fr bf at b;simpa using b
 ·unfold tu at h2;rw [Qq5 QnI] at h2;omega
theorem Qbk {i k:Nat} (hi:i<X.Ls.length) (hk:k<X.nr i):∃ p∈X.occ i k,p.1=(sec (X.st i k) ((X.st i k).length-1):Int)/\p.2.1<=X.run i k/\X.run i k+X.af i k<=p.2.2:=by
 have hr:=(rd h hi hk).rt;have l2:=hr.l2;obtain ⟨p,hp,e,b,h2⟩:=Qbw h hi hk (j:=(X.st i k).length-1) QnI;refine ⟨p,hp,e,?_,?_⟩
 ·have ak:=Q0w hr (nm:=X.nm) h.sk (i:=(X.st i k).length-2) (j:=(X.st i k).length-1) QnI QnI;have er:X.rn i k=YB X.G.Se (X.st i k) X.nm X.tl X.sp X.ac X.br:=rfl;rw [<- er] at ak;have aj:fLV X.G.Se (X.st i k) (X.rn i k) ((X.st i k).length-1)=(X.rn i k).T (X.rn i k).N:=by unfold fLV;rw [Qq2 QnI]
  rw [aj] at ak;have al:=Ma (a:=(X.rn i k).T (X.rn i k).N) QnI (show (1:Int)<=1000 by decide);have eS:X.run i k=cd ((X.rn i k).T (X.rn i k).N) 1000:=rfl;unfold fr at b;rw [Qq2 QnI,show (X.st i k).length-1-1=(X.st i k).length-2 by omega] at b;omega
 ·unfold tu at h2;rw [Qq2 QnI] at h2;exact h2
end Cx
def QdX:List D->Int
 |[_,_,_,_,.int _ m,_]=>m
 |_=>0
def Fs (per:Int) (tl:List Int) (A:LL):Prop:=∀ r∈A,UT tl per r<=QdX r
namespace Cx
variable {X:Cx} {per:Int}
theorem Q9Y {J:List Tup} {a:Nat}:∀ {c b0:Nat} {H:LL},X.hdw per J a c b0=some H->∀ b,b0<=b->b<b0+c->∃ W,X.WV per J a b=some W/\∀ w∈W,Q3Z a b w∈H
 |0,b0,H,e,b,d,h2=>by omega
 |c+1,b0,H,e,b,d,h2=>by
  rw [hdw] at e;cases ew:X.WV per J a b0 with
  |none=>rw [ew] at e;cases e
  |some W=>
   rw [ew] at e;cases eh:X.hdw per J a c (b0+1) with
   |none=>simp only [eh] at e;cases e
   |some H'=>
    simp only [eh] at e;cases e;by_cases hb:b=b0
    ·subst hb;exact ⟨W,ew,fun w hw=>QpS _ (Qq0.2 ⟨w,hw,rfl⟩)⟩
    ·obtain ⟨W',f,g⟩:=Q9Y eh b QnI QnI;exact ⟨W',f,fun w hw=>QpL _ (g w hw)⟩
theorem Q5S {J:List Tup}:∀ {c a0:Nat} {H:LL},X.hdws per J c a0=some H->∀ a b,a0<=a->a<b->b<a0+c->∃ W,X.WV per J a b=some W/\∀ w∈W,Q3Z a b w∈H
 |0,a0,H,e,a,b,g,h2,h=>by omega
 |c+1,a0,H,e,a,b,g,h2,h=>by
  rw [hdws] at e;cases ew:X.hdw per J a0 c (a0+1) with
  |none=>rw [ew] at e;cases e
  |some W=>
   rw [ew] at e;cases eh:X.hdws per J c (a0+1) with
   |none=>simp only [eh] at e;cases e
   |some H'=>
    simp only [eh] at e;cases e;by_cases ha:a=a0
    ·subst ha;obtain ⟨W',d,f⟩:=Q9Y ew b QnI QnI;exact ⟨W',d,fun w hw=>QpS _ (f w hw)⟩
    ·obtain ⟨W',d,f⟩:=Q5S eh a b QnI h2 QnI;exact ⟨W',d,fun w hw=>QpL _ (f w hw)⟩
variable (h:X.OK)
include h
theorem Qi7 (p0:2<=per) (p1:per<=300) {J:List Tup} {a b:Nat} (ha:a<X.N) (hb:b<X.N) {W:List Sp2} (e:X.WV per J a b=some W) {y:Int} (g:0<=y) (i:y<per) (hf:FB per (X.fil J a b) (X.fil J b a) y):∃ w∈W,w.2<w.1+(y-w.1) % per:=by
 have oa:=Q6y h (J:=J) (b:=b) ha;have ob:=Q6y h (J:=J) (b:=a) hb;obtain ⟨F,G,g1,o,j,k,l⟩:=Q6b p0 (show per<=7200 by omega) oa.1 ob.1 oa.2 ob.2;have hr:=g1.rng;have eW:W=G.map (DX per):=by
  unfold WV at e;rw [l] at e;by_cases hc:cnt F=per
  ·rw [Qq5 hc] at e;cases e
  ·rw [Qq2 hc] at e;dsimp only at e;rw [Qq5 rfl,List.map_map] at e;have:=Option.some.inj e;rw [<- this];refine (List.map_congr_left fun q _=>?_).trans (List.map_id _);rfl
 have ac:∀ {z c:Int},0<=z+c->z+c<per->c=per\/c=0->z % per=z+c:=fun {z c} m h2 n=>by
  rcases n with rfl | rfl
  ·rw [<- Int.add_emod_right,Qq6 m h2]
  ·rw [Qq6 QnI QnI];omega
 obtain ⟨q,hq,d,f⟩:=(j y g i).2 hf;have an:=hr q hq;rcases k with ⟨rfl,_⟩ | ⟨b',M,c,rfl,rfl⟩
 ·refine ⟨DX per q,by rw [eW];exact Qq0.2 ⟨q,hq,rfl⟩,?_⟩;unfold DX;dsimp only;rw [ac (z:=y-q.2) (c:=per) QnI QnI (.inl rfl)];omega
 ·have hc:=hr (c,per) (.tail _ (QpL _ (.head _)));have ak:=hr (0,b') (.head _);dsimp only at hc ak;have two:q∈M\/(q=(0,b')\/q=(c,per)):=by
   rcases List.mem_cons.1 hq with h | h
   ·exact .inr (.inl h)
   ·rcases QpH.1 h with h | h
    ·exact .inl h
    ·exact .inr (.inr (QpN.1 h))
  rcases two with hm | hm
  ·refine ⟨DX per q,by rw [eW];exact Qq0.2 ⟨q,QpS _ hm,rfl⟩,?_⟩;unfold DX;dsimp only;rw [ac (z:=y-q.2) (c:=per) QnI QnI (.inl rfl)];omega
  ·refine ⟨DX per (c,per+b'),by rw [eW];exact Qq0.2 ⟨_,QpL _ (.head _),rfl⟩,?_⟩;unfold DX;dsimp only;have e1:(y-(per+b')) % per=(y-b') % per:=by rw [show y-(per+b')=y-b'-per by omega,Int.sub_emod_right]
   rw [e1];rcases hm with rfl | rfl
   ·dsimp only at d f;rw [ac (z:=y-b') (c:=per) QnI QnI (.inl rfl)];omega
   ·dsimp only at d f;by_cases hy:y<b'
    ·rw [ac (z:=y-b') (c:=per) QnI QnI (.inl rfl)];omega
    ·rw [ac (z:=y-b') (c:=0) QnI QnI (.inr rfl)];omega
def dep (tl:List Int) (a:Nat):Int:=tat tl ((2*a:Nat):Int)
omit h in
theorem QaA {x:Int} (hp:0<per) (hx:0<=x):x % per<=x:=by
 have:=Int.mul_ediv_add_emod x per;have:=Int.mul_nonneg (show 0<=per by omega) (Int.ediv_nonneg hx (show 0<=per by omega));omega
theorem Qjj (p0:2<=per) (p1:per<=300) {J:List Tup} {H A:LL} {tl:List Int} (eh:X.hdws per J X.N 0=some H) (hA:∀ r∈H,r∈A) (fs:Fs per tl A) {a b:Nat} (ak:a<b) (hb:b<X.N) {p q:Occ} (hp:p∈X.fil J a b) (hq:q∈X.fil J b a) (e:p.1=q.1) {d c:Int} (hd:d=dep tl b-dep tl a+c*per) (f:p.2.1-q.2.2<d) (h2:d<p.2.2-q.2.1):False:=by
 obtain ⟨W,e1,e2⟩:=Q5S eh a b (Qqd _) ak QnI;have g:=QpO (dep tl b-dep tl a) (show per≠0 by omega);have i:=QpQ (dep tl b-dep tl a) (show 0<per by omega);have hf:FB per (X.fil J a b) (X.fil J b a) ((dep tl b-dep tl a) % per):=by
  obtain ⟨x,pa,pb⟩:=p;obtain ⟨x',qa,qb⟩:=q;dsimp only at e f h2;subst e;refine ⟨x,pa,pb,qa,qb,hp,hq,?_⟩;have j:((dep tl b-dep tl a) % per-(pa-qb+1)) % per=(d-(pa-qb+1)) % per:=by
   rw [Int.sub_emod,Int.emod_emod,<- Int.sub_emod,hd,show dep tl b-dep tl a+c*per-(pa-qb+1)=dep tl b-dep tl a-(pa-qb+1)+c*per by omega,Int.add_mul_emod_self_right]
  rw [j];have:=QaA (per:=per) (x:=d-(pa-qb+1)) QnI QnI;omega
 obtain ⟨w,hw,hv⟩:=Qi7 h p0 p1 (show a<X.N by omega) hb e1 g i hf;have hr:=fs _ (hA _ (e2 w hw));unfold Q3Z QdX UT dur at hr;dsimp only at hr;rw [Int.sub_emod,Int.emod_emod,<- Int.sub_emod] at hv;unfold dep at hv;omega
end Cx
theorem Q88 {o:oP Nat} {b:Nat} (h:eqO o b=true):o=some b:=by
 cases o with
 |none=>cases h
 |some a=>rw [Qq1 h]
structure RsT (T:List Tup) (rs:List (List Nat×Bool)):Prop where
 uq:∀ {j j' x x':Nat} {r r':List Nat×Bool} {i:Nat},rs[j]? = some r->rs[j']? = some r'->r.1[x]? = some i->r'.1[x']? = some i->j=j'/\x=x'
 tu:∀ t∈T,∃ (j:Nat) (r:List Nat×Bool) (x:Nat),rs[j]? = some r/\r.1[x]? = some t.1/\nx r x=some t.2.1
 sx:∀ {r:List Nat×Bool},r∈rs->∀ {x i b:Nat},r.1[x]? = some i->nx r x=some b->∃ t∈T,t.1=i/\t.2.1=b
theorem Qat {T:List Tup} {rs:List (List Nat×Bool)} (h:QaU T rs=true):RsT T rs:=by
 unfold QaU at h;rw [QpM,QpM] at h;obtain ⟨c,h2,d⟩:=h;have hp:∀ {j x:Nat} {r:List Nat×Bool} {i:Nat},rs[j]? = some r->r.1[x]? = some i->QhQ rs i=(j,x):=fun {j x r i} e1 e2=>by
  have a:=QpJ.1 c j (List.mem_range.2 (QpC.1 e1).1);rw [QpA,e1,Option.getD_some] at a;have b:=QpJ.1 a x (List.mem_range.2 (QpC.1 e2).1);rw [QpA,e2,Option.getD_some,QpM] at b;exact Prod.ext (Qq1 b.1) (Qq1 b.2)
 refine ⟨fun e1 e2 e f=>?_,fun t ht=>?_,fun {r} hr {x i b} e1 e2=>?_⟩
 ·have:=(hp e1 e).symm.trans (hp e2 f);exact ⟨congrArg Prod.fst this,congrArg Prod.snd this⟩
 ·obtain ⟨r,hr,a⟩:=QpV.1 (QpJ.1 h2 t ht);obtain ⟨x,hx,b⟩:=QpV.1 a;rw [QpM] at b;obtain ⟨j,hj⟩:=Qqb hr;exact ⟨j,r,x,hj,Q88 b.1,Q88 b.2⟩
 ·have a:=QpJ.1 (QpJ.1 d r hr) x (List.mem_range.2 (QpC.1 e1).1);rw [e2] at a;obtain ⟨t,ht,b⟩:=QpV.1 a;rw [QpM,e1] at b;exact ⟨t,ht,Option.some.inj (Q88 b.1).symm,Qq1 b.2⟩
theorem Qcs {r:List Nat×Bool} {x b:Nat} (h:nx r x=some b):r.1[x+1]? = some b\/(r.2=true/\r.1.length<=x+1/\r.1[0]? = some b):=by
 unfold nx at h;cases hc:Nat.blt (x+1) r.1.length with
 |true=>rw [hc,Qpy] at h;exact .inl h
 |false=>
  rw [hc,Qpw] at h;cases h2:r.2 with
  |false=>rw [h2] at h;cases h
  |true=>
   rw [h2,Qpy] at h;refine .inr ⟨rfl,?_,h⟩;by_cases hl:x+1<r.1.length
   ·rw [show Nat.blt (x+1) r.1.length=true from Nat.ble_eq_true_of_le hl] at hc;cases hc
   ·omega
theorem Qen {r:List Nat×Bool} {x b:Nat} (h:r.1[x+1]? = some b):nx r x=some b:=by
 unfold nx;rw [show Nat.blt (x+1) r.1.length=true from Nat.ble_eq_true_of_le (QpC.1 h).1,Qpy,h]
theorem QbF {r:List Nat×Bool} {x b:Nat} (hl:r.1.length<=x+1) (hc:r.2=true) (h:r.1[0]? = some b):nx r x=some b:=by
 unfold nx;rw [show Nat.blt (x+1) r.1.length=false from Bool.eq_false_iff.2 fun e=>by have:=Qqa e;omega,Qpw,hc,Qpy,h]
namespace Cx
variable {X:Cx} {per:Int} {Ch Sy A:LL} {tl:List Int}
def rideD (X:Cx) (per:Int) (tl:List Int) (i:Nat) (d:Int):Nat->Int
 |0=>d
 |k+1=>X.endV per tl i k (rideD X per tl i d k)
def lineD (X:Cx) (per:Int) (tl:List Int) (ls:List Nat) (d:Int):Nat->Int
 |0=>d
 |x+1=>X.rideD per tl (ls.getD x 0) (lineD X per tl ls d x) (X.nr (ls.getD x 0))
theorem Bw {mv c:Bool} {idx train:Nat} {laps:Int} {i:Nat} {s:Int×List U}:∀ {k:Nat},(X.rideM per tl mv c idx train laps i s k).1=X.rideD per tl i s.1 k
 |0=>rfl
 |k+1=>by
  rw [rideM,rideD,<- Bw (mv:=mv) (c:=c) (idx:=idx) (train:=train) (laps:=laps)];rfl
theorem Q28 {mv c:Bool} {train:Nat} {laps:Int} {ls:List Nat} {s:Int×List U}:∀ {x:Nat},(X.lineM per tl mv c train laps ls s x).1=X.lineD per tl ls s.1 x
 |0=>rfl
 |x+1=>by
  rw [lineM,lineD,Bw,Q28]
def SrcR (X:Cx) (i k:Nat) (d:Int) (train:Nat) (laps:Int) (u:U):Prop:=u.2.1=train/\u.2.2.2.2=laps/\∃ p∈X.occ i k,p.1=(u.1:Int)/\d+p.2.1<=u.2.2.1/\u.2.2.1+u.2.2.2.1<=d+p.2.2
def dpt (X:Cx) (per:Int) (tl:List Int) (r:List Nat×Bool) (x i k:Nat):Int:=X.rideD per tl i (X.lineD per tl r.1 (dep tl (base X.nr (r.1.getD 0 0))) x) k
def Src (X:Cx) (per:Int) (tl:List Int) (rs:List (List Nat×Bool)) (u:U):Prop:=∃ (j:Nat) (r:List Nat×Bool) (x i k:Nat),rs[j]? = some r/\r.1[x]? = some i/\k<X.nr i/\X.SrcR i k (X.dpt per tl r x i k) j (X.lapsV per tl r.1 r.2) u
variable (g:X.Gd per Ch Sy A tl) (fs:Fs per tl A)
include g fs
theorem Gd.run_f {i k:Nat} (hi:i<X.Ls.length) (hk:k<X.nr i):X.run i k<=X.runV per tl i k/\X.runV per tl i k<=X.run i k+X.ex i k:=by
 have p0:=g.p0;have a:=fs _ (g.run_mem hi hk);refine ⟨?_,a⟩;unfold runV aR UT dur;dsimp only;have:=QpO (Vx.tat tl ((2*(base X.nr i+k)+1:Nat):Int)-Vx.tat tl ((2*(base X.nr i+k):Nat):Int)-X.run i k) (show per≠0 by omega);omega
theorem Gd.dw_f {i k:Nat} (hi:i<X.Ls.length) (hk:k<X.nr i-1):X.gapV per tl i k=(UT tl per (X.aD i k),true)/\X.mn i k<=UT tl per (X.aD i k)/\UT tl per (X.aD i k)<=X.mx i k:=by
 have p0:=g.p0;have a:=fs _ (Qpt ((g.runAt hi (show k<X.nr i by omega)).2 hk));refine ⟨by unfold gapV;rw [Qq5 hk],?_,a⟩;unfold aD UT dur;dsimp only;have:=QpO (Vx.tat tl ((2*(base X.nr i+k+1):Nat):Int)-Vx.tat tl ((2*(base X.nr i+k)+1:Nat):Int)-X.mn i k) (show per≠0 by omega);omega
theorem Gd.tu_f {t:Tup} (ht:t∈X.T):t.2.2.1<=UT tl per (X.tuE t)/\UT tl per (X.tuE t)<=t.2.2.2:=by
 have p0:=g.p0;have a:=fs _ (g.turn_mem ht);refine ⟨?_,a⟩;unfold tuE UT dur;dsimp only;have:=QpO (Vx.tat tl ((2*(base X.nr t.2.1+0):Nat):Int)-Vx.tat tl ((2*(base X.nr t.1+(X.nr t.1-1))+1:Nat):Int)-t.2.2.1) (show per≠0 by omega);omega
theorem Gd.end_f {i k:Nat} (hi:i<X.Ls.length) (hk:k<X.nr i) {d:Int}:X.endV per tl i k d<=d+X.run i k+X.af i k:=by
 have hr:=g.run_f fs hi hk;unfold endV af;by_cases a:k<X.nr i-1
 ·have hd:=g.dw_f fs hi a;rw [hd.1,Qq5 rfl,Qq2 QnI];dsimp only;omega
 ·rw [Qq5 (show k=X.nr i-1 by omega)];unfold gapV rest;rw [Qq2 a];cases e:X.tn i with
  |none=>dsimp only;rw [Qq2 Bool.false_ne_true];omega
  |some t=>
   have ht:=g.tu_f fs (CR e).1;dsimp only;rw [Qq5 rfl];split <;> omega
theorem Gd.stM_src {mv c:Bool} {idx train:Nat} {laps:Int} {i k:Nat} (hi:i<X.Ls.length) (hk:k<X.nr i) {s:Int×List U}:∀ u∈(X.stM per tl mv c idx train laps i k s).2,u∈s.2\/X.SrcR i k s.1 train laps u:=by
 refine Q9b (fun u hu=>.inl hu) (fun hc=>.inr ⟨rfl,rfl,?_⟩) (fun _ q hq=>.inr ⟨rfl,rfl,?_⟩) fun hl=>.inr ⟨rfl,rfl,?_⟩
 ·obtain ⟨_,_,rfl⟩:=hc;obtain ⟨p,hp,e,a,h2⟩:=Q8D g.ok hi hk;exact ⟨p,hp,e,by dsimp only;omega,by dsimp only;omega⟩
 ·obtain ⟨p,hp,e,a,h2⟩:=QcE g.ok hi hk q hq;have:=(Q8V g.ok hi hk).1 q hq;exact ⟨p,hp,by dsimp only;omega,by dsimp only;omega,by dsimp only;omega⟩
 ·obtain ⟨p,hp,e,a,h2⟩:=Qbk g.ok hi hk;have:=g.end_f fs hi hk (d:=s.1);exact ⟨p,hp,e,by dsimp only;omega,by dsimp only;omega⟩
theorem Gd.rideM_src {mv c:Bool} {idx train:Nat} {laps:Int} {i:Nat} (hi:i<X.Ls.length) {s:Int×List U}:∀ {k:Nat},k<=X.nr i->∀ u∈(X.rideM per tl mv c idx train laps i s k).2,u∈s.2\/∃ k',k'<k/\X.SrcR i k' (X.rideD per tl i s.1 k') train laps u
 |0,_,u,hu=>.inl hu
 |k+1,hk,u,hu=>by
  rw [rideM] at hu;rcases g.stM_src fs hi QnI u hu with hu | hu
  ·rcases Gd.rideM_src hi (k:=k) QnI u hu with h | ⟨k',a,h2⟩
   ·exact .inl h
   ·exact .inr ⟨k',QnI,h2⟩
  ·rw [Bw] at hu;exact .inr ⟨k,QnI,hu⟩
theorem Gd.lineM_src {mv c:Bool} {train:Nat} {laps:Int} {ls:List Nat} (ac:∀ i∈ls,i<X.Ls.length) {s:Int×List U}:∀ {x:Nat},x<=ls.length->∀ u∈(X.lineM per tl mv c train laps ls s x).2,u∈s.2\/∃ (x' i k:Nat),ls[x']? = some i/\k<X.nr i/\X.SrcR i k (X.rideD per tl i (X.lineD per tl ls s.1 x') k) train laps u
 |0,_,u,hu=>.inl hu
 |x+1,hx,u,hu=>by
  have e:=Qpv (l:=ls) (i:=x) QnI;have hd:ls.getD x 0=ls[x]:=by rw [QpA,e];rfl
  rw [lineM,hd] at hu;rcases g.rideM_src fs (ac _ (Qpt e)) (QpF _) u hu with hu | ⟨k,a,h2⟩
  ·exact Gd.lineM_src ac (x:=x) QnI u hu
  ·rw [Q28] at h2;exact .inr ⟨x,_,k,e,a,h2⟩
theorem Gd.usesM_src {mv:Bool} {rs:List (List Nat×Bool)} (hr:X.RsOK rs):∀ {j:Nat},j<=rs.length->∀ u∈X.usesM per tl mv rs j,X.Src per tl rs u
 |0,_,u,hu=>nomatch hu
 |j+1,hj,u,hu=>by
  have e:=Qpv (l:=rs) (i:=j) QnI;have hd:rs.getD j ([],false)=rs[j]:=by rw [QpA,e];rfl
  rw [usesM,hd] at hu;unfold trainM at hu;rcases g.lineM_src fs (hr.ls _ (Qpt e)).2 (QpF _) u hu with hu | ⟨x,i,k,a,h2,b⟩
  ·exact Gd.usesM_src hr QnI u hu
  ·exact ⟨j,_,x,i,k,e,a,h2,b⟩
end Cx
def Cg (per x y:Int):Prop:=∃ c:Int,x=y+c*per
theorem Q6K {tl:List Int} {per f t mn:Int}:Cg per (dur tl per f t mn) (tat tl t-tat tl f):=by
 refine ⟨-((tat tl t-tat tl f-mn) / per),?_⟩;unfold dur;rw [Int.emod_def,Int.neg_mul,Int.mul_comm];omega
theorem QbU {z per:Int} (a : -per<z*per) (h2:z*per<per) (b:0<per):z=0:=by
 rcases Int.lt_trichotomy z 0 with h | h | h
 ·have:=Int.mul_le_mul_of_nonneg_right (show z <= -1 by omega) (show 0<=per by omega);omega
 ·exact h
 ·have:=Int.mul_le_mul_of_nonneg_right (show 1<=z by omega) (show 0<=per by omega);omega
theorem Q16 {l:Int} {O:List Occ} (h:OL l O) {p q:Occ} (hp:p∈O) (hq:q∈O) (e:p.1=q.1):p=q:=by
 have a:=(Q5f h hp).2;have b:=(Q5f h hq).2;rw [<- a,<- b,e]
namespace Cx
variable {X:Cx} {per:Int} {Ch Sy A:LL} {tl:List Int}
theorem FS {i k:Nat} (hi:i<X.Ls.length) (hk:k<X.nr i):X.occN (base X.nr i+k)=X.occ i k:=by
 unfold occN;rw [QpA,show (X.occs X.L)[base X.nr i+k]? = some (X.occ i k) from FO hk hi];rfl
variable (g:X.Gd per Ch Sy A tl) (fs:Fs per tl A) {rs:List (List Nat×Bool)} (hr:X.RsOK rs) (ht:RsT X.T rs)
include g fs
theorem Gd.ride_cg {i:Nat} (hi:i<X.Ls.length) {d:Int} (hd:Cg per d (dep tl (base X.nr i))):∀ {k:Nat},k<X.nr i->Cg per (X.rideD per tl i d k) (dep tl (base X.nr i+k))
 |0,_=>hd
 |k+1,hk=>by
  obtain ⟨c1,a⟩:=Gd.ride_cg hi hd (k:=k) QnI;obtain ⟨b,h2⟩:=Q6K (tl:=tl) (per:=per) (f:=((2*(base X.nr i+k):Nat):Int)) (t:=((2*(base X.nr i+k)+1:Nat):Int)) (mn:=X.run i k);obtain ⟨c,e⟩:=Q6K (tl:=tl) (per:=per) (f:=((2*(base X.nr i+k)+1:Nat):Int)) (t:=((2*(base X.nr i+k+1):Nat):Int)) (mn:=X.mn i k);have hg:=(g.dw_f fs hi (show k<X.nr i-1 by omega)).1;have e2:X.runV per tl i k=dur tl per ((2*(base X.nr i+k):Nat):Int) ((2*(base X.nr i+k)+1:Nat):Int) (X.run i k):=rfl;have h:UT tl per (X.aD i k)=dur tl per ((2*(base X.nr i+k)+1:Nat):Int) ((2*(base X.nr i+k+1):Nat):Int) (X.mn i k):=rfl;rw [<- e2] at h2;rw [<- h] at e;refine ⟨c1+b+c,?_⟩;rw [rideD,endV,hg,Qq5 rfl,Int.add_mul,Int.add_mul,<- Nat.add_assoc];unfold dep at a ⊢;dsimp only;omega
theorem Gd.turn_end {t:Tup} (hT:t∈X.T) {d:Int}:X.endV per tl t.1 (X.nr t.1-1) d=d+X.runV per tl t.1 (X.nr t.1-1)+UT tl per (X.tuE t):=by
 unfold endV gapV;rw [Qq2 (show ¬ X.nr t.1-1<X.nr t.1-1 by omega),Qdn g.ok hT];rfl
theorem Gd.turn_cg {t:Tup} (hT:t∈X.T) {d:Int} (hd:Cg per d (dep tl (base X.nr t.1+(X.nr t.1-1)))):Cg per (X.endV per tl t.1 (X.nr t.1-1) d) (dep tl (base X.nr t.2.1)):=by
 obtain ⟨c1,b⟩:=hd;obtain ⟨c,h2⟩:=Q6K (tl:=tl) (per:=per) (f:=((2*(base X.nr t.1+(X.nr t.1-1)):Nat):Int)) (t:=((2*(base X.nr t.1+(X.nr t.1-1))+1:Nat):Int)) (mn:=X.run t.1 (X.nr t.1-1));obtain ⟨e,a⟩:=Q6K (tl:=tl) (per:=per) (f:=((2*(base X.nr t.1+(X.nr t.1-1))+1:Nat):Int)) (t:=((2*(base X.nr t.2.1+0):Nat):Int)) (mn:=t.2.2.1);have e2:X.runV per tl t.1 (X.nr t.1-1)=dur tl per ((2*(base X.nr t.1+(X.nr t.1-1)):Nat):Int) ((2*(base X.nr t.1+(X.nr t.1-1))+1:Nat):Int) (X.run t.1 (X.nr t.1-1)):=rfl;have h:UT tl per (X.tuE t)=dur tl per ((2*(base X.nr t.1+(X.nr t.1-1))+1:Nat):Int) ((2*(base X.nr t.2.1+0):Nat):Int) t.2.2.1:=rfl;rw [<- e2] at h2;rw [<- h] at a;refine ⟨c1+c+e,?_⟩;rw [g.turn_end fs hT,Int.add_mul,Int.add_mul];unfold dep at b ⊢;rw [Nat.add_zero] at a;omega
include hr ht
theorem Gd.lineD_succ {j:Nat} {r:List Nat×Bool} (hj:rs[j]? = some r) {x i:Nat} (hx:r.1[x]? = some i):X.lineD per tl r.1 (dep tl (base X.nr (r.1.getD 0 0))) (x+1)=X.endV per tl i (X.nr i-1) (X.dpt per tl r x i (X.nr i-1)):=by
 have hi:=(hr.ls r (Qpt hj)).2 i (Qpt hx);have hn:=(K7 g.ok hi).2.1;rw [lineD,QpA (l:=r.1) (i:=x),hx,Option.getD_some];have:X.nr i=(X.nr i-1)+1:=QnI
 conv=>lhs;rw [this]
 rfl
theorem Gd.line_cg {j:Nat} {r:List Nat×Bool} (hj:rs[j]? = some r):∀ {x i:Nat},r.1[x]? = some i->Cg per (X.lineD per tl r.1 (dep tl (base X.nr (r.1.getD 0 0))) x) (dep tl (base X.nr i))
 |0,i,hx=>⟨0,by rw [lineD,QpA,hx,Option.getD_some];omega⟩
 |x+1,i,hx=>by
  have hl:=(QpC.1 hx).1;have e:=Qpv (l:=r.1) (i:=x) QnI;have hi:=(hr.ls r (Qpt hj)).2 _ (Qpt e);have hn:=(K7 g.ok hi).2.1;obtain ⟨t,hT,e1,e2⟩:=ht.sx (Qpt hj) e (Qen hx);have ih:=Gd.line_cg hj e;rw [g.lineD_succ fs hr ht hj e,<- e2,<- e1];rw [<- e1] at ih hi hn;exact g.turn_cg fs hT (g.ride_cg fs hi ih QnI)
theorem Gd.dpt_cg {j:Nat} {r:List Nat×Bool} (hj:rs[j]? = some r) {x i k:Nat} (hx:r.1[x]? = some i) (hk:k<X.nr i):Cg per (X.dpt per tl r x i k) (dep tl (base X.nr i+k)):=
 g.ride_cg fs ((hr.ls r (Qpt hj)).2 _ (Qpt hx)) (g.line_cg fs hr ht hj hx) hk
theorem Gd.lap {j:Nat} {r:List Nat×Bool} (hj:rs[j]? = some r) (hc:r.2=true):X.lineD per tl r.1 (dep tl (base X.nr (r.1.getD 0 0))) r.1.length=dep tl (base X.nr (r.1.getD 0 0))+X.lapsV per tl r.1 r.2*per:=by
 have p0:=g.p0;have hm:=Qpt hj;have ak:=hr.ls r hm;have a:=Qpv (l:=r.1) (i:=0) QnI;have f:r.1.getD 0 0=r.1[0]:=by rw [QpA,a];rfl
 have ao:∀ {x:Nat},x<r.1.length->∃ b,nx r x=some b:=fun {x} hx=>by
  by_cases h:x+1<r.1.length
  ·exact ⟨_,Qen (Qpv h)⟩
  ·exact ⟨_,QbF QnI hc a⟩
 have ac:∀ {x:Nat},x<=r.1.length->X.lineD per tl r.1 (dep tl (base X.nr (r.1.getD 0 0))) x=dep tl (base X.nr (r.1.getD 0 0))+X.sumL per tl (r.1.take x):=by
  intro x;induction x with
  |zero=>intro _;simp [lineD,sumL]
  |succ x ih=>
   intro hx;have e:=Qpv (l:=r.1) (i:=x) QnI;have hi:=ak.2 _ (Qpt e);obtain ⟨b,hb⟩:=ao (x:=x) QnI;obtain ⟨t,hT,e1,e2⟩:=ht.sx hm e hb;have hR:∀ {k:Nat} {d:Int},k<=X.nr r.1[x]->X.rideD per tl r.1[x] d k=d+X.sumR per tl r.1[x] k:=by
    intro k d;induction k with
    |zero=>intro _;simp [rideD,sumR]
    |succ k aq=>
     intro hk;have hg:(X.gapV per tl r.1[x] k).2=true:=by
      unfold gapV;split
      ·rfl
      ·rw [<- e1,Qdn g.ok hT]
     rw [rideD,endV,Qq5 hg,aq QnI,sumR];omega
   rw [lineD,Q3a g e,QpA (l:=r.1) (i:=x),e,Option.getD_some,hR (QpF _),ih QnI];omega
 have hl:=ac (QpF r.1.length);rw [QpP] at hl;have e:=Qpv (l:=r.1) (i:=r.1.length-1) QnI;have hi:=ak.2 _ (Qpt e);have hn:=(K7 g.ok hi).2.1;obtain ⟨t,hT,e1,e2⟩:=ht.sx hm e (QbF QnI hc a);have aj:=g.lineD_succ fs hr ht hj e;rw [show r.1.length-1+1=r.1.length by omega,<- e1] at aj;rw [<- e1] at e hn;obtain ⟨c,an⟩:=g.turn_cg fs hT (g.dpt_cg fs hr ht hj e (show X.nr t.1-1<X.nr t.1 by omega));rw [<- aj,e2,<- f,hl] at an;have hs:X.sumL per tl r.1=c*per:=QnI
 rw [hl];unfold lapsV;rw [hc,Qpy,hs,Int.mul_tdiv_cancel _ QnI]
theorem Gd.join_rel {t:Tup} (hT:t∈X.jns) {j:Nat} {r:List Nat×Bool} (hj:rs[j]? = some r) {x i k:Nat} (hx:r.1[x]? = some i) (hk:k<X.nr i) (e:t.1=base X.nr i+k):∃ x' i' k',r.1[x']? = some i'/\k'<X.nr i'/\t.2.1=base X.nr i'+k'/\∃ δ m:Int,t.2.2.1<=δ/\δ<=t.2.2.2/\X.dpt per tl r x i k+δ=X.dpt per tl r x' i' k'+m*X.lapsV per tl r.1 r.2*per:=by
 have hm:=Qpt hj;have hi:=(hr.ls r hm).2 _ (Qpt hx);rcases Q4B.1 hT with ⟨d,k0,n,h2,rfl⟩ | ⟨u,hu,rfl⟩
 ·obtain ⟨rfl,rfl⟩:=LQ (nr:=X.nr) (show k0<X.nr d by omega) hk e;have a:=g.run_f fs hi hk;have b:=g.dw_f fs hi h2;refine ⟨x,d,k0+1,hx,QnI,rfl,X.runV per tl d k0+UT tl per (X.aD d k0),0,by unfold j1;dsimp only;omega,by unfold j1;dsimp only;omega,?_⟩;unfold dpt;rw [rideD,endV,b.1,Qq5 rfl];dsimp only;omega
 ·have ac:=g.ok.tr u hu;have hn:=(K7 g.ok ac.1).2.1;have al:=(K7 g.ok ac.2.1).2.1;obtain ⟨rfl,rfl⟩:=LQ (nr:=X.nr) (show X.nr u.1-1<X.nr u.1 by omega) hk e;obtain ⟨j1,o,p,g1,h,c⟩:=ht.tu u hu;obtain ⟨rfl,rfl⟩:=ht.uq hj g1 hx h;rw [hj] at g1;cases g1;have a:=g.run_f fs hi hk;have b:=g.tu_f fs hu;have hs:=g.lineD_succ fs hr ht hj hx;rw [g.turn_end fs hu] at hs;rcases Qcs c with c | ⟨l,q,c⟩
  ·refine ⟨x+1,u.2.1,0,c,QnI,rfl,X.runV per tl u.1 (X.nr u.1-1)+UT tl per (X.tuE u),0,by unfold jT;dsimp only;omega,by unfold jT;dsimp only;omega,?_⟩;have f:X.dpt per tl r (x+1) u.2.1 0=X.lineD per tl r.1 (dep tl (base X.nr (r.1.getD 0 0))) (x+1):=rfl;rw [f,hs];omega
  ·have hl:=(QpC.1 hx).1;refine ⟨0,u.2.1,0,c,QnI,rfl,X.runV per tl u.1 (X.nr u.1-1)+UT tl per (X.tuE u),1,by unfold jT;dsimp only;omega,by unfold jT;dsimp only;omega,?_⟩;have f:X.dpt per tl r 0 u.2.1 0=dep tl (base X.nr (r.1.getD 0 0)):=rfl;have aj:=g.lap fs hr ht hj l;rw [show r.1.length=x+1 by omega,hs] at aj;rw [f,Int.one_mul];omega
theorem Gd.tied {t:Tup} (hT:t∈X.jns) (ha:X.aloneJ per X.jns=true) {j:Nat} {r:List Nat×Bool} (hj:rs[j]? = some r) {x i k:Nat} (hx:r.1[x]? = some i) (hk:k<X.nr i) (e:t.1=base X.nr i+k) {j':Nat} {r':List Nat×Bool} (aj:rs[j']? = some r') {x' i' k':Nat} (aq:r'.1[x']? = some i') (ac:k'<X.nr i') (e':t.2.1=base X.nr i'+k') {p q:Occ} (hp:p∈X.occ i k) (hq:q∈X.occ i' k') (ax:p.1=q.1) (aw:Q0j t.2.2.1 (X.occN t.1) (X.occN t.2.1) p.1=true) {z:Int} (d:X.dpt per tl r x i k+p.2.1<X.dpt per tl r' x' i' k'+z*per+q.2.2) (h2:X.dpt per tl r' x' i' k'+z*per+q.2.1<X.dpt per tl r x i k+p.2.2):j=j'/\X.lapsV per tl r.1 r.2 ∣ z:=by
 have p0:=g.p0;have hi:=(hr.ls r (Qpt hj)).2 _ (Qpt hx);have al:=(hr.ls r' (Qpt aj)).2 _ (Qpt aq);obtain ⟨f,h,l,a,b,c,δ,m,n,s,u⟩:=g.join_rel fs hr ht hT hj hx hk e;obtain ⟨rfl,rfl⟩:=LQ (nr:=X.nr) ac b (e'.symm.trans c);obtain ⟨rfl,rfl⟩:=ht.uq hj aj a aq;rw [hj] at aj;cases aj;have oi:=occ_ok g.ok hi hk;have az:=occ_ok g.ok al ac;rw [e,e',FS hi hk,FS al ac] at aw;obtain ⟨y,hy,hb⟩:=QpV.1 aw;obtain ⟨w,hw,hb⟩:=QpV.1 hb;cases hc:tie t.2.2.1 y w with
 |false=>rw [hc] at hb;cases hb
 |true=>
  rw [hc,Qpy,beq_iff_eq] at hb;obtain rfl:=Q16 oi.1 hy hp hb;have ay:y.1=w.1:=by
   unfold tie at hc;cases au:y.1 == w.1 with
   |false=>rw [au] at hc;cases hc
   |true=>exact eq_of_beq au
  obtain rfl:=Q16 az.1 hw hq (ay.symm.trans ax);unfold aloneJ at ha;cases ak:(X.occs X.L).all (fun o=>o.all (Rk per)) with
  |false=>rw [ak] at ha;cases ha
  |true=>
   rw [ak,Qpy] at ha;have hb:=QpJ.1 ha t hT;rw [Qqf,e,e',FS hi hk,FS al ac] at hb;have hh:Cj per t.2.2.1 t.2.2.2 y w=false:=by
    cases hx:Cj per t.2.2.1 t.2.2.2 y w with
    |false=>rfl
    |true=>
     have:Q7C per t.2.2.1 t.2.2.2 (X.occ i k) (X.occ i' k')=true:=QpV.2 ⟨y,hy,QpV.2 ⟨w,hw,by rw [hc,Qpy,hx]⟩⟩;rw [this] at hb;cases hb
   unfold Cj at hh;have hh:=of_decide_eq_false hh;refine ⟨rfl,m,?_⟩;have hz:z-m*X.lapsV per tl r.1 r.2=0:=by
    refine QbU (per:=per) ?_ ?_ QnI
    ·rw [Int.sub_mul];split at hh <;> split at hh <;> omega
    ·rw [Int.sub_mul];split at hh <;> split at hh <;> omega
   rw [Int.mul_comm];omega
theorem Gd.noConA {H:LL} (eh:X.hdws per X.jns X.N 0=some H) (hA:∀ r∈H,r∈A) (ha:X.aloneJ per X.jns=true) {j:Nat} {r:List Nat×Bool} (hj:rs[j]? = some r) {x i k:Nat} (hx:r.1[x]? = some i) (hk:k<X.nr i) {j':Nat} {r':List Nat×Bool} (ac:rs[j']? = some r') {x' i' k':Nat} (ao:r'.1[x']? = some i') (al:k'<X.nr i') (a1:base X.nr i+k<=base X.nr i'+k') {p q:Occ} (hp:p∈X.occ i k) (hq:q∈X.occ i' k') (ak:p.1=q.1) {z:Int} (l:X.dpt per tl r x i k+p.2.1<X.dpt per tl r' x' i' k'+z*per+q.2.2) (h2:X.dpt per tl r' x' i' k'+z*per+q.2.1<X.dpt per tl r x i k+p.2.2):j=j'/\X.lapsV per tl r.1 r.2 ∣ z:=by
 have p0:=g.p0;have p1:=g.p1;have hi:=(hr.ls r (Qpt hj)).2 _ (Qpt hx);have aw:=(hr.ls r' (Qpt ac)).2 _ (Qpt ao);by_cases ax:base X.nr i+k=base X.nr i'+k'
 ·obtain ⟨rfl,rfl⟩:=LQ hk al ax;obtain ⟨rfl,rfl⟩:=ht.uq hj ac hx ao;rw [hj] at ac;cases ac;obtain rfl:=Q16 (occ_ok g.ok hi hk).1 hp hq ak;unfold aloneJ at ha;cases aq:(X.occs X.L).all (fun o=>o.all (Rk per)) with
  |false=>rw [aq] at ha;cases ha
  |true=>
   have hm:X.occ i k∈X.occs X.L:=Qpt (FO (nr:=X.nr) (f:=X.occ) hk hi);have hf:=QpJ.1 (QpJ.1 aq _ hm) _ hp;unfold Rk at hf;rw [Qqf] at hf;have hf:=of_decide_eq_false hf;have:=QbU (z:=z) (per:=per) QnI QnI QnI;exact ⟨rfl,by rw [this];exact Int.dvd_zero _⟩
 ·have hb:=Qdo g.ok aw al;cases ar:X.TRb X.jns (base X.nr i+k) (base X.nr i'+k') p.1 with
  |false=>
   obtain ⟨c1,n⟩:=g.dpt_cg fs hr ht hj hx hk;obtain ⟨m,s⟩:=g.dpt_cg fs hr ht ac ao al;refine absurd (Qjj g.ok p0 p1 eh hA fs (a:=base X.nr i+k) (b:=base X.nr i'+k') QnI hb (p:=p) (q:=q) ?_ ?_ ak (d:=X.dpt per tl r' x' i' k'+z*per-X.dpt per tl r x i k) (c:=m+z-c1) ?_ QnI QnI) (fun h=>h)
   ·unfold fil;rw [FS hi hk];exact Qq8.2 ⟨hp,by rw [ar];rfl⟩
   ·unfold fil;rw [FS aw al];exact Qq8.2 ⟨hq,by rw [Q5z,<- ak,ar];rfl⟩
   ·rw [Int.sub_mul,Int.add_mul];omega
  |true=>
   obtain ⟨t,hT,hb⟩:=QpV.1 ar;cases aj:jab (base X.nr i+k) (base X.nr i'+k') t with
   |false=>rw [aj] at hb;cases hb
   |true=>
    rw [aj,Qpy] at hb;have hc:(t.1=base X.nr i+k/\t.2.1=base X.nr i'+k')\/(t.1=base X.nr i'+k'/\t.2.1=base X.nr i+k):=by
     unfold jab at aj;simp only [Bool.cond_true_left,Bool.cond_false_right,Bool.or_eq_true,QpM,beq_iff_eq] at aj;omega
    rcases hc with ⟨e,e'⟩ | ⟨e,e'⟩
    ·exact g.tied fs hr ht hT ha hj hx hk e ac ao al e' hp hq ak hb l h2
    ·rw [ak] at hb;obtain ⟨rfl,h⟩:=g.tied fs hr ht hT ha ac ao al e hj hx hk e' hq hp ak.symm hb (z := -z) (by rw [Int.neg_mul];omega) (by rw [Int.neg_mul];omega);rw [hj] at ac;cases ac;exact ⟨rfl,Int.dvd_neg.1 h⟩
theorem Gd.noCon {H:LL} (eh:X.hdws per X.jns X.N 0=some H) (hA:∀ r∈H,r∈A) (ha:X.aloneJ per X.jns=true) {u v:U} (hu:X.Src per tl rs u) (hv:X.Src per tl rs v) (ao:u.1=v.1) {z:Int} (a:u.2.2.1<v.2.2.1+z*per+v.2.2.2.1) (h2:v.2.2.1+z*per<u.2.2.1+u.2.2.2.1):u.2.1=v.2.1/\u.2.2.2.2 ∣ z:=by
 obtain ⟨j,r,x,i,k,hj,hx,hk,a1,a2,p,hp,b,c,d⟩:=hu;obtain ⟨j',r',x',i',k',ac,aj,ak,b1,b2,q,hq,e,f,l⟩:=hv;rw [a1,a2,b1];by_cases al:base X.nr i+k<=base X.nr i'+k'
 ·exact g.noConA fs hr ht eh hA ha hj hx hk ac aj ak al hp hq QnI QnI QnI
 ·obtain ⟨rfl,h⟩:=g.noConA fs hr ht eh hA ha ac aj ak hj hx hk QnI hq hp QnI (z := -z) (by rw [Int.neg_mul];omega) (by rw [Int.neg_mul];omega);rw [hj] at ac;cases ac;exact ⟨rfl,Int.dvd_neg.1 h⟩
end Cx
end Go.Vx
namespace Go.Vx
variable {R:Type} (n:Nat)
def GR  (K:Qko R):oP R:=Qjq R [[Q4 0,Q4 3,Q4 1,Q4 2,Q4 0]] fun c=>Qjr R (Vf n 5 c some) fun a=>Qjs R a (EW n 5 c 0 7 some) fun r2=>Qjs R a (LD n r2 [[Q4 3]] some) fun b=>K (Qjo a b)
def TU (b c d e:LL) (f:Int) (g h i j k l m a2:LL) (K:Qkq R):oP R:=Qjr R (Jk n b c d e f g h i j k l m a2 true Tu2) fun a=>K a.1 a.2
def Ql (n:Nat) (d e:Int) (f:LL) (k0:Qkm R):Qkn R
 | 0,_,_=>none
 | m+1,b,a=>bif decide (b<d) then QjE R f b fun c h k l=>Qjr R c[3]? fun o=>Qjr R c[4]? fun v=>Qjr R c[5]? fun x=>Qjr R (pIw h) fun i=>Qjs R (!(i==1)) (pIw h) fun p=>bif Qjn (i==1) (p==2) then QjC R l k fun g j=>QjF R a.length j a j.toNat fun q=>Qjr R q[0]? fun r=>QjC R r o fun s t=>Qjr R (nz e) fun z=>QjF R a.length g a g.toNat fun u=>Ql n d e f k0 m (wJ (b+1)) (List.set a g.toNat (List.set u 0 (Q4 (Int.tmod (wJ (s+t)) e)))) else Ql n d e f k0 m (wJ (b+1)) a else k0 b (decide (b<d)) a
def law19_OccupancyOfAllTimes (a0 a1:LL) (K:Qko R):oP R:=gb true (PD n a0 Tu12) ([],[],[],[],0,[],[],[],[],[],[],[]) fun a=>Qjq R a.2.2.2.2.1 fun h=>Qjq R a.2.2.2.2.2.2.2.2.2.2.2 fun i=>Qjq R a.2.2.2.2.2.2.2.2.2.2.1 fun j=>Qjq R a.2.2.2.2.2.2.2.2.2.1 fun k=>Qjq R a.2.2.2.2.2.2.2.2.1 fun l=>Qjq R a.2.2.2.2.2.2.2.1 fun t=>gb true (HS n a.1 a.2.1 a.2.2.1 a.2.2.2.1 h a.2.2.2.2.2.1 a.2.2.2.2.2.2.1 t l k j i Tu4) (0,[],[],0) fun r2=>bif r2.2.2.2 !=0 then Qjr R (GR n some) fun c=>K c else Qjr R (PW n r2.1 r2.2.1 r2.2.2.1 a1 some) fun d=>Ql n (r2.2.2.1.length:Int) h r2.2.2.1 (fun r s f=>Qjr R (J9 n r2.1 r2.2.1 r2.2.2.1 f some) fun o=>bif !o then Qjr R (GR n some) fun p=>K p else Qjr R (TU n a.1 a.2.1 a.2.2.1 a.2.2.2.1 h a.2.2.2.2.2.1 a.2.2.2.2.2.2.1 t l k j i f Tu2) fun e=>Qjr R (GR n some) fun g=>Qjs R (Qjo g (e.2==0)) (Vf n h e.1 some) fun q=>K (Qjo (Qjo g (e.2==0)) q)) n 0 d
end Go.Vx
namespace Go.Vx
theorem TG.get {per:Int} {N:Nat} {T:List Int} (h:TG per N T) {i:Nat} (hi:i<N):(encI T)[i]? = some [Q4 (T.getD i 0)]/\0<=T.getD i 0/\T.getD i 0<per:=by
 have e:=Qpv (l:=T) (i:=i) (by have:=h.1;omega);rw [QpA,e];exact ⟨by simp [encI,e],h.2 _ (Qpt e)⟩
theorem Q9q {R:Type} {l:List Int} (hl:l.length<=9223372036854775807) {per:Int} (p0:2<=per) (p1:per<=300) {N:Nat} (hN:N<=100) {K:LL->oP R} {k0:Int->Bool->LL->Int->oP R} (hk:∀ a b w y,k0 a b w y=K w):∀ (c m i j:Nat) (T:List Int),i+c=N->c<m->TG per N T->j<=l.length->∃ T':List Int,V0 400 (N:Int) per (encI l) k0 m (i:Int) (encI T) (j:Int)=K (encI T')/\TG per N T'
 |0,m+1,i,j,T,hi,_,hT,_=>by
  refine ⟨T,?_,hT⟩;rw [V0,QnP ((i:Int)<(N:Int)),Qpw,hk]
 |c+1,m+1,i,j,T,hi,hm,hT,hj=>by
  obtain ⟨v,j',v0,d,ac,hv⟩:=Q9a 400 hl hj (m:=per) QnI QnI;have e:=(hT.get (show i<N by omega)).1;obtain ⟨T',f,h2⟩:=Q9q hl p0 p1 hN hk c m (i+1) j' (T.set i v) QnI QnI (hT.set v0 d) ac;refine ⟨T',?_,h2⟩;rw [V0,Qe (show i<N by omega),Qpy,hv,Q0,Ju,hT.1,YX QnI QnI,Q0,Qpx,e,Q0,Qv QnI];show V0 400 _ _ _ _ _ _ ((encI T).set i [Q4 v]) _=_;rw [Q6k];exact f
theorem Qf1 {l:List Int} (hl:l.length<=9223372036854775807) {per:Int} (p0:2<=per) (p1:per<=300) {E A:LL} (hE:E.length<=48):∃ T:List Int,PW 400 per E A (encI l) (some:LL->oP LL)=some (encI T)/\TG per E.length T:=by
 obtain ⟨T,a,h2⟩:=Q9q hl p0 p1 (N:=E.length) QnI (K:=(some:LL->oP LL)) (k0:=fun _ _ w _=>some w) (fun _ _ _ _=>rfl) E.length 400 0 0 (List.replicate E.length 0) QnI QnI ⟨by simp,fun x hx=>by rw [List.eq_of_mem_replicate hx];omega⟩ QnI;refine ⟨T,?_,h2⟩;unfold PW Nm;rw [Q0];rw [show (bif decide ((0:Int)<=(E.length:Int))&&decide ((E.length:Int)<=(E.length:Int)) then some () else none)=some () by rw [QP QnK],Q0,Qpx,XF QnI,Q0,List.length_replicate];rw [show List.replicate E.length [D.int .i64 (0:Int)]=encI (List.replicate E.length 0) by simp [encI]];exact a
def Qir (N:Nat) (r:List D):Prop:=∃ kd f t mn mx w:Int,r=[Q4 kd,Q4 f,Q4 t,Q4 mn,Q4 mx,Q4 w]/\(kd=1\/kd=2->0<=f/\f<N/\0<=t/\t<N/\0<=mn/\mn<=100000)
theorem Qgo {per:Int} (p0:2<=per) (p1:per<=300) {A:LL} {N:Nat} (hN:N<=100) (hA:A.length<=1000) (hr:∀ r∈A,Qir N r):∀ (c m i:Nat) (T:List Int),i+c=A.length->c<m->TG per N T->∃ T':List Int,(∀ (R:Type) (K:LL->oP R),Ql 400 (A.length:Int) per A (fun _ _ w=>K w) m (i:Int) (encI T)=K (encI T'))/\TG per N T'
 |0,m+1,i,T,hi,_,hT=>by
  refine ⟨T,fun R K=>?_,hT⟩;rw [Ql,QnP ((i:Int)<(A.length:Int)),Qpw]
 |c+1,m+1,i,T,hi,hm,hT=>by
  have e:=Qpv (l:=A) (i:=i) QnI;obtain ⟨kd,f,t,mn,mx,w,er,aj⟩:=hr _ (Qpt e);rw [er] at e;have ac:=fun T hT=>Qgo p0 p1 hN hA hr c m (i+1) T QnI QnI hT
  have hs:∀ b:Bool,(decide (kd=1\/kd=2))=b->(bif (bif (kd == (1:Int)) then true else (kd == (2:Int))) then true else false)=b:=fun b hb=>by
   rw [<- hb];by_cases a:kd=1
   ·simp [a]
   ·by_cases h2:kd=2 <;> simp [a,h2]
  by_cases hc:kd=1\/kd=2
  ·obtain ⟨d,j,g,t1,k,n⟩:=aj hc;obtain ⟨f,rfl⟩:=Int.eq_ofNat_of_zero_le d;obtain ⟨t,rfl⟩:=Int.eq_ofNat_of_zero_le g;have ef:=hT.get (show f<N by omega);have et:=(hT.get (show t<N by omega)).1;have v0:=QpO (T.getD f 0+mn) (show per≠0 by omega);have h:=QpQ (T.getD f 0+mn) (show 0<per by omega);obtain ⟨T',a,h2⟩:=ac _ (hT.set (i:=t) v0 h);refine ⟨T',fun R K=>?_,h2⟩;rw [Ql,Qe (show i<A.length by omega),Qpy,Qd,e];simp -implicitDefEqProofs only [Q0,Qpu,Qpz,Q2,Qv (show i<=1000 by omega)];rw [show (bif (kd == (1:Int)) then true else (kd == (2:Int)))=true by have:=hs true (QpZ hc);revert this;cases (bif (kd == (1:Int)) then true else (kd == (2:Int))) <;> simp,Qpy,Ju,hT.1,YX QnI QnI,YX QnI QnI];simp -implicitDefEqProofs only [Q0,Qpx,ef.1,et,Qpu,Q2,Ng (show per≠0 by omega),Q6 (x:=T.getD f 0+mn) QnI QnI,Int.tmod_eq_emod_of_nonneg (show 0<=T.getD f 0+mn by omega)];show Ql 400 _ _ _ _ _ _ ((encI T).set t [Q4 ((T.getD f 0+mn) % per)])=_;rw [Q6k];exact a R K
  ·obtain ⟨T',a,h2⟩:=ac _ hT;refine ⟨T',fun R K=>?_,h2⟩;rw [Ql,Qe (show i<A.length by omega),Qpy,Qd,e];simp -implicitDefEqProofs only [Q0,Qpu,Qpz,Q2,Qv (show i<=1000 by omega)];rw [show (bif (kd == (1:Int)) then true else (kd == (2:Int)))=false by have:=hs false (QpI hc);revert this;cases (bif (kd == (1:Int)) then true else (kd == (2:Int))) <;> simp,Qpw];exact a R K
namespace Cx
variable {X:Cx} {per:Int} {Ch Sy A:LL} {tl:List Int}
theorem Qca {i k:Nat} (hi:i<X.Ls.length) (hk:k<X.nr i):base X.nr i+k<X.N:=by
 have:=T4 (nr:=X.nr) (i:=i) (j:=X.L) hi;unfold N;omega
theorem up_ok (h:X.OK) (hl:X.LsOK per Ch Sy) {H:LL} (hH:∀ r∈H,∃ a b w,r=Q3Z a b w) {r:List D} (hr:r∈X.planned Ch Sy++H):Qir (2*X.N) r:=by
 rcases Q9G h hl hH hr with ⟨i,k,hi,hk,rfl | ⟨c,rfl⟩⟩ | ⟨t,_,rfl⟩ | ⟨kd,f,t,mn,mx,w,ac,rfl⟩
 ·have hr:=P2 h hi hk;have hn:=Qca hi hk;exact ⟨_,_,_,_,_,_,rfl,fun _=>by omega⟩
 ·have r:=rd h hi hk;have:=r.mn0;have:=r.mn1;have:=r.mn2;have:=r.mn3;have hn:=Qca hi (show k+1<X.nr i by omega);exact ⟨_,_,_,_,_,_,rfl,fun _=>by omega⟩
 ·exact ⟨_,_,_,_,_,_,rfl,fun e=>by omega⟩
 ·exact ⟨_,_,_,_,_,_,rfl,fun e=>by omega⟩
variable (g:X.Gd per Ch Sy A tl)
include g
theorem Gd.lastsQ {r:List D} (hr:r∈A):∃ kd f t mn mx w:Int,r=[Q4 kd,Q4 f,Q4 t,Q4 mn,Q4 mx,Q4 w]/\SI 400 per (encI tl) f t mn some=some (UT tl per r):=by
 have p0:=g.p0;have p1:=g.p1;obtain ⟨kd,f,t,mn,mx,w,rfl,hf,ht,a,h2⟩:=g.row hr;have tf:=g.tat hf.1 hf.2;have tt:=g.tat ht.1 ht.2;have:=QpO (Vx.tat tl t-Vx.tat tl f-mn) (show per≠0 by omega);have:=QpQ (Vx.tat tl t-Vx.tat tl f-mn) (show 0<per by omega);refine ⟨kd,f,t,mn,mx,w,rfl,?_⟩;unfold SI;simp -implicitDefEqProofs only [Q0,Qpu,Q2,tf.1,tt.1,Q6 (x:=Vx.tat tl t-Vx.tat tl f) QnI QnI,Q6 (x:=Vx.tat tl t-Vx.tat tl f-mn) QnI QnI,QgN (n:=400) (t:=per) (x:=Vx.tat tl t-Vx.tat tl f-mn) QnI QnI QnI QnI,Q6 (x:=mn+(Vx.tat tl t-Vx.tat tl f-mn) % per) QnI QnI];rfl
theorem Gd.first_q {R:Type} (hA:A.length<=1000) {k0:Int->oP R} {k1:Int->Bool->oP R}:∀ (c m i:Nat),i+c=A.length->c<m->(∃ w,Up 400 (encI tl) per A k0 k1 m (i:Int)=k0 w)\/(Up 400 (encI tl) per A k0 k1 m (i:Int)=k1 (A.length:Int) false/\∀ j r,i<=j->A[j]? = some r->UT tl per r<=QdX r)
 |0,m+1,i,hi,_=>by
  obtain rfl:i=A.length:=QnI
  refine .inr ⟨by rw [Up,Qj,Qpw],fun j r hj e=>?_⟩;have:=(QpC.1 e).1;omega
 |c+1,m+1,i,hi,hm=>by
  have e:=Qpv (l:=A) (i:=i) QnI;obtain ⟨kd,f,t,mn,mx,w,er,hd⟩:=g.lastsQ (Qpt e);rw [Up,Qe (show i<A.length by omega),Qpy,Qd,e,er];rw [er] at e hd;simp -implicitDefEqProofs only [Q0,Qpu,Qpz,Q2,hd,Qv (show i<=1000 by omega)];by_cases hc:UT tl per [Q4 kd,Q4 f,Q4 t,Q4 mn,Q4 mx,Q4 w]>mx
  ·rw [QpZ hc,Qpy];exact .inl ⟨_,rfl⟩
  ·rw [QpI hc,Qpw];refine (first_q hA c m (i+1) QnI QnI).imp id fun ⟨a,h2⟩=>⟨a,fun j r hj ej=>?_⟩
   by_cases aj:j=i
   ·subst aj;rw [e] at ej;injection ej with ej
    subst ej;exact Int.not_lt.1 hc
   ·exact h2 j r QnI ej
omit g in
theorem feasQ (p0:2<=per) (p1:per<=300) {E:LL} (hE:E.length<=48) (hA:A.length<400) (c:∀ r∈A,R6 r) (hT:TG per E.length tl) (hg:A.all (chk per E.length)=true->X.Gd per Ch Sy A tl):∃ b,J9 400 per E A (encI tl) some=some b/\(b=true->A.all (chk per E.length)=true/\Fs per tl A):=by
 have hG:=(Qfr p0 p1 hE QnI c hA (tl:=tl)).2;unfold J9 Mp;rw [hG,Q0];cases ac:A.all (chk per E.length) with
 |false=>
  refine ⟨false,?_,fun e=>nomatch e⟩;rw [show Q44 per E A tl=false by unfold Q44;rw [ac];rfl,QpY,Qpy,Q0,Q0,Qpw]
 |true=>
  rw [Q5M ac hT,QpW,Qpw];rcases (hg ac).first_q (R:=Int×Bool) (k0:=fun w=>some (w,true)) (k1:=fun _ _=>some (0,false)) QnI A.length 400 0 QnI QnI with ⟨w,h⟩ | ⟨h,hF⟩
  ·refine ⟨false,?_,fun e=>nomatch e⟩;exact (congrArg (fun z=>gb true z ((0:Int),false) fun a=>gb true (some true) false fun r2=>some (bif r2 then (!a.2) else false)) h)
  ·refine ⟨true,?_,fun _=>⟨rfl,fun r hr=>?_⟩⟩
   ·exact (congrArg (fun z=>gb true z ((0:Int),false) fun a=>gb true (some true) false fun r2=>some (bif r2 then (!a.2) else false)) h)
   ·obtain ⟨j,e⟩:=Qqb hr;exact hF j r (Qqd _) e
variable (fs:Fs per tl A)
include fs
theorem Gd.sumR_nn {i:Nat} (hi:i<X.Ls.length):∀ {k:Nat},k<=X.nr i->0<=X.sumR per tl i k
 |0,_=>by simp [sumR]
 |k+1,hk=>by
  have ih:=Gd.sumR_nn hi (k:=k) QnI;have b:=(g.run_f fs hi (show k<X.nr i by omega)).1;have c:=(P2 g.ok hi (show k<X.nr i by omega)).1;have h2:0<=(X.gapV per tl i k).1:=by
   by_cases a:k<X.nr i-1
   ·have hd:=g.dw_f fs hi a;have:=(rd g.ok hi (show k<X.nr i by omega)).mn0;rw [hd.1];dsimp only;omega
   ·unfold gapV;rw [Qq2 a];cases e:X.tn i with
    |none=>exact QpU _
    |some t=>
     have ht:=g.tu_f fs (CR e).1;have:=(g.ok.tr t (CR e).1).2.2.1;dsimp only;omega
  rw [sumR];omega
theorem Gd.laps_rng {ls:List Nat} (ac:∀ i∈ls,i<X.Ls.length) (aj:ls.length<=10) {c:Bool}:0<=X.lapsV per tl ls c/\X.lapsV per tl ls c<=10000000:=by
 have p0:=g.p0;have hs:=g.sumL_rng ac (QpF ls.length);rw [QpP] at hs;have hn:∀ (l:List Nat) (s:Int),(∀ i∈l,i<X.Ls.length)->0<=s->0<=l.foldl (fun s i=>s+X.sumR per tl i (X.nr i)) s:=fun l=>by
  induction l with
  |nil=>exact fun s _ h=>h
  |cons i l ih=>exact fun s hl a=>ih _ (fun x hx=>hl x (.tail _ hx)) (by have:=g.sumR_nn fs (hl i (.head _)) (QpF _);show 0<=s+_;omega)
 have a:0<=X.sumL per tl ls:=hn ls 0 ac (QpU _);unfold lapsV;cases c
 ·exact ⟨QpU _,by rw [Qpw];omega⟩
 rw [Qpy];have hb:((X.sumL per tl ls).tdiv per).natAbs=(X.sumL per tl ls).natAbs / per.natAbs:=Int.natAbs_tdiv ..;have:=Int.tdiv_nonneg a (show 0<=per by omega);have:=Nat.div_le_self (X.sumL per tl ls).natAbs per.natAbs;omega
end Cx
theorem QfS {n:Nat} {l t a0 a1 a2 d:LL} {p q e:Int} {b1 b2 f g i j k E A:LL} (hp:PD n l Tu12=some (a0,a1,a2,d,p,b1,b2,f,g,i,j,k)) (hb:HS n a0 a1 a2 d p b1 b2 f g i j k Tu4=some (q,E,A,e)) (ha:GR n (some:Bool->oP Bool)=some true)
  (h:e=0->∃ T0 T1:LL,PW n q E A t some=some T0/\(∀ k0:LL->oP Bool,Ql n (A.length:Int) p A (fun _ _ w=>k0 w) n 0 T0=k0 T1)/\∃ b,J9 n q E A T1 some=some b/\(b=true->∃ us,Jk n a0 a1 a2 d p b1 b2 f g i j k T1 true Tu2=some (us,0)/\Vf n p us some=some true)):law19_OccupancyOfAllTimes n l t some=some true:=by
 unfold law19_OccupancyOfAllTimes TU;rw [hp,Q0];dsimp only;rw [hb,Q0];dsimp only;by_cases he:e=0
 rotate_left
 ·rw [show (e != 0)=true by simpa using he,Qpy,ha,Q0]
 obtain ⟨T0,T1,z,h2,b,h3,h4⟩:=h he;subst he;rw [bne_self_eq_false,Qpw,z,Q0,h2,h3,Q0];cases b with
 |false=>rw [QpY,Qpy,ha,Q0]
 |true=>
  obtain ⟨us,h5,h6⟩:=h4 rfl;rw [QpW,Qpw,h5,Q0,Q0,ha,Q0];dsimp only;rw [h6,Q0];rfl
theorem Qgc:GR 400 (some:Bool->oP Bool)=some true:=by kernel_rfl
theorem allTimesA {l t:List Int} (hl:l.length<=9223372036854775807) (ht:t.length<=9223372036854775807):law19_OccupancyOfAllTimes 400 (encI l) (encI t) some=some true:=by
 have hp:PD 400 (encI l) Tu12∈(fun r=>∃ (G:Geo) (per:Int) (Sk Ro Ls Ch Tu Sy De:LL),PlanR G per Sk Ro Ls Ch Tu Sy De/\r=(G.St,G.Pt,G.Se,G.Li,per,Sk,Ro,Ls,Ch,Tu,Sy,De)):=QhM hl fun G per Sk Ro Ls Ch Tu Sy De h=>okI ⟨G,per,Sk,Ro,Ls,Ch,Tu,Sy,De,h,rfl⟩
 obtain ⟨_,hp,G,per,Sk,Ro,Ls,Ch,Tu,Sy,De,hR,rfl⟩:=hp;obtain ⟨X,h,rfl,rfl,rfl,rfl,rfl⟩:=hR.cx;have al:=hR.lsOK;have p0:2<=per:=by have:=hR.p0;omega
 have p1:=hR.p1;have hc:VQ 400 X.G.St X.G.Pt X.G.Se X.G.Li per X.skR X.Ro X.Ls Ch (X.T.map tuR) Sy De (some:Int->oP Int)=some 0:=QcL hR some;have ae:U6 400 X.G.St X.G.Pt X.G.Se X.G.Li per X.skR X.Ro X.Ls Ch (X.T.map tuR) Sy De (some:Int->oP Int)=some 0:=Qht hR;have hN:X.N<=6:=Cx.base_le h;have ax:=Cx.buildP h al p0 p1 hc;have au:=Cx.buildR h al p0 p1 ae;cases ev:X.netV per X.jns Ch Sy with
 |mk q r=>
 obtain ⟨E,A,e⟩:=r;rw [ev] at ax au;refine QfS hp au Qgc fun he=>?_
 subst he;unfold Cx.netV at ev;cases ha:X.aloneJ per X.jns with
 |false=>
  rw [ha] at ev;cases ev
 |true=>
  rw [ha,Qpy] at ev;cases eh:X.hdws per X.jns X.N 0 with
  |none=>
   rw [eh] at ev;cases ev
  |some H=>
   rw [eh] at ev;cases ev;have hH:=Cx.hdws_rows eh;have bi:=Cx.planned_len h al;have bc:=Cx.hdws_len h p0 p1 QnI eh;have hA:(X.planned Ch Sy++H).length<400:=by rw [QpR];omega
   have ao:(X.evs X.L).length=2*X.N:=Cx.evs_len;have hE:(X.evs X.L).length<=48:=QnI
   have o:∀ r∈X.planned Ch Sy++H,R6 r:=fun r hr=>Cx.act_r6 h al hH hr
   obtain ⟨T0,h1,ar⟩:=Qf1 ht p0 p1 (A:=X.planned Ch Sy++H) hE;rw [ao] at ar;obtain ⟨tl,h2,hT⟩:=Qgo p0 p1 (show 2*X.N<=100 by omega) (show (X.planned Ch Sy++H).length<=1000 by omega) (fun r hr=>Cx.up_ok h al hH hr) (X.planned Ch Sy++H).length 400 0 T0 QnI QnI ar;have ay:(X.planned Ch Sy++H).all (chk per (X.evs X.L).length)=true->X.Gd per Ch Sy (X.planned Ch Sy++H) tl:=fun ak=>⟨h,al,p0,p1,⟨H,rfl,hH⟩,hA,hT.1,hT.2,fun r hr=>by have:=QpJ.1 ak r hr;rw [ao] at this;exact this⟩
   obtain ⟨b,s,h4⟩:=Cx.feasQ p0 p1 hE hA o (by rw [ao];exact hT) ay;refine ⟨_,_,h1,fun k0=>h2 _ k0,b,s,fun hb=>?_⟩;obtain ⟨ak,fs⟩:=h4 hb;have g:=ay ak;have hg:=Qfr p0 p1 hE QnI o hA (tl:=tl);rw [Q5M ak (by rw [ao];exact hT)] at hg;obtain ⟨rs,a,d,f,m,r6,n⟩:=Cx.rotsP h;have aj:X.RsOK rs:=⟨f,m⟩;have a6:=Qat n;have aq:(Qc8 rs).length=rs.length:=by simp [Qc8]
   have hu:=Qbb (mv:=true) ax hg.1 d (Cx.firstsP h) a (fun k0=>by rw [aq];exact g.usesP (mv:=true) aj k0);have an:=g.usesM_src fs (mv:=true) aj (QpF rs.length);have l1:=g.usesM_len (mv:=true) aj (QpF rs.length);rw [QpP] at l1;have a7:=g.usesM_okN (mv:=true) aj;refine ⟨_,hu,QgX p0 p1 QnI QnI (fun u hu=>?_) fun u hu v hv e z z1 z2=>g.noCon fs aj a6 eh (fun r hr=>QpL _ hr) ha (an u hu) (an v hv) e z1 z2⟩;obtain ⟨j,r,x,i,k,hj,hx,hk,a1,a2,p,hp,a3,a4,a5⟩:=an u hu;have hm:=aj.ls r (Qpt hj);have az:=g.laps_rng fs (c:=r.2) hm.2 (by have:=aj.len3 hj;omega);have bh:=(QpC.1 hj).1;have s:=aj.n3;have:=aj.sum;have:=(Cx.occ_ok h (hm.2 i (Qpt hx)) hk).1.mem p hp;exact ⟨a7 u hu,by rw [a2];exact az.1,by rw [a2];exact az.2,QnI,QnI⟩
end Go.Vx
namespace Go.Vx
open Go.Proofs Go.Maps Go.RowKit
structure OpAt (ops:Array Oper) (i:Nat) (dst:oP Nat) (op:Op):Prop where
 ex:∃ o,ops[i]? = some o/\o.dst=dst/\o.op=op/\o.guard=none
theorem KX {P:Program} {ac:Array Oper} {i:Nat} {dst:oP Nat} {op:Op} (h:OpAt ac i dst op) {Q:Exit->Act->World->Prop} {K:Act->World->Prop} {a:Act} {w:World} {v:Value} {w':World}
  (hr:∀ o:Oper,o.op=op->(execOp a.eval o).run P w = .ok (.value v) w') (hK:K (a.put dst v) w'):wpOp P ac Q i K a w:=by
 obtain ⟨o,h1,h2,h3,h4⟩:=h.ex;unfold wpOp;simp only [h1,Region.wanted,h4,if_true];left;unfold Oper.wp;rw [hr o h3];subst h2;exact hK
theorem Q5l {P:Program} {a:Act} {w:World} {x:Operand} (o:Oper) (h:o.op = .move x):(execOp a.eval o).run P w = .ok (.value (a.eval x)) w:=by
 unfold execOp;rw [h];simp
theorem Q5L (a:Act) (w:World) (b:Nat) (hx:a.eval (.tmp 9) = .pointer (some ⟨b,0,none⟩)) (o:Oper) (h:o.op = .fieldAddr 59 (.tmp 9) 0):(execOp a.eval o).run Tryz.prog w = .ok (.value (.pointer (some ⟨b,0,none⟩))) w:=by
 have hf:(Instr.fieldAt 59 (.pointer (some ⟨b,0,none⟩)) 0).run Tryz.prog w = .ok (.pointer (some ⟨b,0,none⟩)) w:=by kernel_rfl
 unfold execOp;rw [h];simp [hx,hf]
theorem Q9J (a:Act) (w:World) (b t:Nat) (v:Value) (hx:a.eval (.tmp t) = .pointer (some ⟨b,0,none⟩)) (hc:w.cell? ⟨b,0,none⟩=some v) (o:Oper) (h:o.op = .load 3 (.tmp t)):(execOp a.eval o).run Tryz.prog w = .ok (.value v) w:=by
 refine JA h hx ?_;simp [loadVar,Tryz.isAgg3,hc]
theorem Q38 (a:Act) (w:World) (m x:Nat) (b:Nat) (ac v:Value) (hm:a.eval (.tmp m) = .map (some b)) (hx:a.eval (.tmp x)=ac) (hl:(Instr.lookup 189 (.map (some b)) ac false).run Tryz.prog w = .ok v w) (o:Oper) (h:o.op = .lookup 189 (.tmp m) (.tmp x) false) :
  (execOp a.eval o).run Tryz.prog w = .ok (.value v) w:=by
 unfold execOp;rw [h];simp [hm,hx,hl]
theorem Qaa (a:Act) (w:World) (t:Nat) (v:Value) (h1:v.cells = #[v]) (hx:a.eval (.tmp t)=v) (o:Oper) (h:o.op = .buildSlice 22 1 #[(0,.tmp t)]) :
  (execOp a.eval o).run Tryz.prog w = .ok (.value (.slice (some ⟨w.heap.size,0,none⟩) 1 1)) (w.alloc (.cells #[v] 3)):=by
 unfold execOp;rw [h];simp [hx,Instr.buildSlice,run_underlying Tryz.underlying22,Tryz.sizeOf3,Tryz.zeroValue3,Instr.fill,newRow,h1];congr 2;apply Array.ext
 ·simp
 ·intro i h1 h2;have hi:i=0:=by simp at h2;omega
  subst hi;simp
theorem Q8E (a:Act) (w:World) (s x:Nat) (v y v':Value) (w':World) (hs:a.eval (.tmp s)=v) (hx:a.eval (.tmp x)=y) (hr:∀ ty,(Builtin.append_ #[22,22] ty #[v,y]).run Tryz.prog w = .ok v' w') (o:Oper) (h:o.op = .call { callee:=.builtin .append,args:=#[.tmp s,.tmp x],argTypes:=#[22,22] }) :
  (execOp a.eval o).run Tryz.prog w = .ok (.value v') w':=by
 unfold execOp;simp only [h,resolve,invoke,builtin,Sem.run_bind,Sem.run_pure,Result.andThen_ok,List.map_toArray,List.map_cons,List.map_nil,hs,hx,hr]
theorem Q4s {aj:Array Oper} {i:Nat} {m x y b:Nat} (h:OpAt aj i none (.mapUpdate 189 (.tmp m) (.tmp x) (.tmp y))) {Q:Exit->Act->World->Prop} {K:Act->World->Prop} {a:Act} {w w':World} {ac v:Value}
  (hm:a.eval (.tmp m) = .map (some b)) (hx:a.eval (.tmp x)=ac) (hy:a.eval (.tmp y)=v) (hr:(Instr.mapUpdate 189 (.map (some b)) ac v).run Tryz.prog w = .ok () w') (hK:K a w'):wpOp Tryz.prog aj Q i K a w:=by
 obtain ⟨o,h1,h2,h3,h4⟩:=h.ex;unfold wpOp;simp only [h1,Region.wanted,h4,if_true];left;unfold Oper.wp;simp [execOp,h3,hm,hx,hy,hr,Result.andThen];show K (a.put o.dst undef) w';rw [h2];exact hK
def Q7m (ac:Array Oper) (i j:Nat):Bool:=match ac[i]? with
 |some o=>o.after.toList.any fun e=>Region.binds .any e&&Nat.beq e.on j
 |none=>false
theorem HD {ac:Array Oper} {listed:Array Bool} {i j:Nat} {o:Oper} (h:Q7m ac i j=true) (ho:ac[i]? = some o) (hp:Q2N listed o.after.toList):Lst listed j:=by
 unfold Q7m at h;rw [ho] at h;obtain ⟨e,he,hb⟩:=QpV.1 h;simp only [QpM] at hb;have:=hp e he hb.1;rwa [Qq1 hb.2] at this
theorem MA {ac:Array Oper} {listed:Array Bool} {i j:Nat} (h:Q7m ac i j=true) (hc:D4 ac.toList listed) (hl:Lst listed i):Lst listed j:=by
 cases ho:ac[i]? with
 |none=>unfold Q7m at h;rw [ho] at h;cases h
 |some o=>exact HD h ho (hc i o (by rw [Array.getElem?_toList];exact ho) hl)
theorem C3 (a:Act) (t:Nat):a.eval (.tmp t)=tmv a t:=rfl
def Q7G:List (Nat×Nat):=[(2,1),(5,4),(6,3),(6,5),(8,7),(9,6),(9,8),(10,0),(10,1),(10,2),(10,3),(10,4),(10,5),(10,6),(10,7),(10,8),(10,9)]
structure VR6 (ops:Array Oper):Prop where
 size:ops.size=11
 edge:GL ops.toList 0=true
 o0:OpAt ops 0 (some 33) (.move (.tmp 6))
 o1:OpAt ops 1 (some 34) (.fieldAddr 59 (.tmp 9) 0)
 o2:OpAt ops 2 (some 35) (.load 3 (.tmp 34))
 o3:OpAt ops 3 (some 36) (.move (.tmp 6))
 o4:OpAt ops 4 (some 37) (.fieldAddr 59 (.tmp 9) 0)
 o5:OpAt ops 5 (some 38) (.load 3 (.tmp 37))
 o6:OpAt ops 6 (some 39) (.lookup 189 (.tmp 36) (.tmp 38) false)
 o7:OpAt ops 7 (some 40) (.move (.tmp 8))
 o8:OpAt ops 8 (some 41) (.buildSlice 22 1 #[(0,.tmp 40)])
 o9:OpAt ops 9 (some 42) (.call { callee:=.builtin .append,args:=#[.tmp 39,.tmp 41],argTypes:=#[22,22] })
 o10:OpAt ops 10 none (.mapUpdate 189 (.tmp 33) (.tmp 35) (.tmp 42))
 waits:Q7G.all (fun p=>Q7m ops p.1 p.2)=true
theorem Q9Q:∀ i,i<10->(10,i)∈Q7G:=by decide
theorem VR6.w {ac:Array Oper} (h:VR6 ac) (i j:Nat) (hm:(i,j)∈Q7G):Q7m ac i j=true:=QpJ.1 h.waits (i,j) hm
structure S6 where
 a0:Act
 ws:World
 b:Nat
 ub:Nat
 n:Nat
 res:Int
 i:Int
 D:DataW Unit
 v0:Value
 zs:List Int
 No:Nat->Prop
def S6.w2 (s:S6):World:=s.ws.alloc (.cells #[.int .i64 s.i] 3)
def S6.val (s:S6):Nat->Value
 |0=>.map (some s.b)
 |1=>.pointer (some ⟨s.ub,0,none⟩)
 |2=>.int .i64 s.res
 |3=>.map (some s.b)
 |4=>.pointer (some ⟨s.ub,0,none⟩)
 |5=>.int .i64 s.res
 |6=>s.v0
 |7=>.int .i64 s.i
 |_=>.slice (some ⟨s.ws.heap.size,0,none⟩) 1 1
def S6.Mid (s:S6) (v':Value) (w:World):Prop:=
 s.w2.grownBy w s.v0.ownBlock/\w.ownsInts (s.b+1) 3 .i64 v' (s.zs++[s.i])/\(v'.ownBlock=s.v0.ownBlock\/∃ g,v'.ownBlock=some g/\s.ws.heap.size<=g)
def S6.End (s:S6) (w:World):Prop:=
 ∃ v' w3,s.Mid v' w3/\w.ownsGroups Tryz.prog 3 (s.b+1) 3 .i64 s.b (s.n+1) (s.D.put (.int .i64 s.res) (rowDatum .i64 v' (s.zs++[s.i])))/\w3.grownBy w (some s.b)/\w.Shuns s.b s.No
structure J6 (s:S6) (listed:Array Bool) (a:Act) (w:World):Prop where
 sz:a.tmps.size=81
 df:a.defers=s.a0.defers
 old:∀ t,t<33\/42<t->tmv a t=tmv s.a0 t
 vals:∀ j,j<9->Lst listed j->tmv a (33+j)=s.val j
 stage:(¬ Lst listed 8/\¬ Lst listed 9/\¬ Lst listed 10/\w=s.ws)\/(Lst listed 8/\¬ Lst listed 9/\¬ Lst listed 10/\w=s.w2)\/(Lst listed 9/\¬ Lst listed 10/\s.Mid (tmv a 42) w)\/(Lst listed 10/\s.End w)
structure S6.Ok (s:S6):Prop where
 sz:s.a0.tmps.size=81
 t6:tmv s.a0 6 = .map (some s.b)
 t8:tmv s.a0 8 = .int .i64 s.i
 t9:tmv s.a0 9 = .pointer (some ⟨s.ub,0,none⟩)
 cell:s.ws.cell? ⟨s.ub,0,none⟩=some (.int .i64 s.res)
 ubb:s.ub≠s.b
 ubNo:s.No s.ub
 ublt:s.ub<s.ws.heap.size
 own:s.ws.ownsGroups Tryz.prog 3 (s.b+1) 3 .i64 s.b s.n s.D
 shun:s.ws.Shuns s.b s.No
 small:s.n<=1000000000
 wfr:(Lit.int .i64 s.res).wf=true
 wfi:(Lit.int .i64 s.i).wf=true
 look:∀ w,w.heap[s.b]? = s.ws.heap[s.b]?->(Instr.lookup 189 (.map (some s.b)) (.int .i64 s.res) false).run Tryz.prog w = .ok s.v0 w
 at_:s.D.atKey (.int .i64 s.res) .nil=rowDatum .i64 s.v0 s.zs
 ints:s.ws.ownsInts (s.b+1) 3 .i64 s.v0 s.zs
 zl:s.zs.length<=s.n
 back:s.ws.groupBack Tryz.prog 189 3 (s.b+1) 3 .i64 s.b s.n s.D (.int .i64 s.res) (.int .i64 s.res) s.v0
 vNo:∀ g,s.v0.ownBlock=some g->¬ s.No g
 noNew:∀ g,s.ws.heap.size<=g->¬ s.No g
theorem J6.quiet {s:S6} {listed:Array Bool} {a:Act} {w:World} (h:J6 s listed a w) {i:Nat} (hi:i<8) (hl:i<listed.size):J6 s (listed.setIfInBounds i true) (a.put (some (33+i)) (s.val i)) w:=by
 have aj:∀ j,Lst (listed.setIfInBounds i true) j↔j=i\/Lst listed j:=fun j=>KN hl
 have hn:∀ j,j≠i->(Lst (listed.setIfInBounds i true) j↔Lst listed j):=fun j hj=>by rw [aj];exact ⟨fun h=>h.resolve_left hj,.inr⟩
 have hp:∀ t,tmv (a.put (some (33+i)) (s.val i)) t=if t=33+i then s.val i else tmv a t:=fun t=>Mv (by rw [h.sz];omega) t
 refine ⟨?_,h.df,fun t ht=>?_,fun j hj ac=>?_,?_⟩
 ·simp [Act.put,h.sz]
 ·rw [hp,Qq2 QnI];exact h.old t ht
 ·rw [hp];by_cases e:j=i
  ·subst e;rw [Qq5 rfl]
  ·rw [Qq2 QnI];exact h.vals j hj ((hn j e).1 ac)
 ·rw [hn 8 QnI,hn 9 QnI,hn 10 QnI,hp,Qq2 QnI];exact h.stage
theorem S6.Ok.blt {s:S6} (h:s.Ok):s.b<s.ws.heap.size:=by
 obtain ⟨es,ac,hb,_⟩:=h.own;exact (Array.getElem?_eq_some_iff.1 hb).1
theorem S6.Ok.w2_old {s:S6} (h:s.Ok) {k:Nat} (hk:k<s.ws.heap.size):s.w2.heap[k]? = s.ws.heap[k]?:=Yf s.ws _ hk
theorem S6.Ok.mid_old {s:S6} (h:s.Ok) {v':Value} {w:World} (hm:s.Mid v' w) {k:Nat} (hk:k<s.ws.heap.size) (ac:s.v0.ownBlock≠some k):w.heap[k]? = s.ws.heap[k]?:=by
 rw [hm.1.block k (by simp [S6.w2];omega) (fun e=>ac e.symm),h.w2_old hk]
theorem S6.Ok.vb {s:S6} (h:s.Ok):s.v0.ownBlock≠some s.b:=fun e=>by have:=(h.ints.1.lt s.b e).1;omega
theorem J6.cell {s:S6} (hs:s.Ok) {listed:Array Bool} {a:Act} {w:World} (h:J6 s listed a w) (ac:¬ Lst listed 10):w.cell? ⟨s.ub,0,none⟩=some (.int .i64 s.res):=by
 rcases h.stage with ⟨_,_,_,rfl⟩ | ⟨_,_,_,rfl⟩ | ⟨_,_,hm⟩ | ⟨h1,_⟩
 ·exact hs.cell
 ·rw [RW (w:=s.ws) (hs.w2_old hs.ublt)];exact hs.cell
 ·rw [RW (w:=s.ws) (hs.mid_old hm hs.ublt (fun e=>hs.vNo _ e hs.ubNo))];exact hs.cell
 ·exact absurd h1 ac
theorem Qhw:(Tryz.prog.info? 3).map (fun i=>(i.zero,i.size,i.bytes))=some (some (.int .i64 0),1,8):=by kernel_rfl
theorem QcV {au:Array Oper} (hops:VR6 au) {Q:Exit->Act->World->Prop} {s:S6} (hs:s.Ok) (listed:Array Bool) (a:Act) (w:World) (i:Nat) (o:Oper) (ba:listed.size=au.size) (hc:D4 au.toList listed) (hJ:J6 s listed a w) (ho:au[i]? = some o) (hn:¬ Lst listed i) (hp:Q2N listed o.after.toList) :
  wpOp Tryz.prog au Q i (fun a' w'=>J6 s (listed.setIfInBounds i true) a' w') a w:=by
 have hi:i<11:=by have:=(Array.getElem?_eq_some_iff.1 ho).1;rw [hops.size] at this;exact this
 have ak:i<listed.size:=by rw [ba,hops.size];exact hi
 have an:¬ Lst listed 10:=fun h=>by
  by_cases e:i=10
  ·exact hn (e▸h)
  ·exact hn (MA (hops.w 10 i (Q9Q i QnI)) hc h)
 have old:∀ t:Nat,t<33->a.eval (.tmp t)=tmv s.a0 t:=fun t ht=>by rw [C3];exact hJ.old t (.inl ht)
 have val:∀ j,j<9->Lst listed j->a.eval (.tmp (33+j))=s.val j:=fun j hj hl=>by rw [C3];exact hJ.vals j hj hl
 have e6:=(old 6 QnI).trans hs.t6;have e8:=(old 8 QnI).trans hs.t8;have e9:=(old 9 QnI).trans hs.t9
 match i,hi with
 |0,_=>exact KX hops.o0 (v:=s.val 0) (fun o h=>by rw [Q5l o h,e6];rfl) (hJ.quiet QnI ak)
 |1,_=>exact KX hops.o1 (v:=s.val 1) (fun o h=>Q5L a w s.ub e9 o h) (hJ.quiet QnI ak)
 |2,_=>exact KX hops.o2 (v:=s.val 2) (fun o h=>Q9J a w s.ub 34 _ (val 1 QnI (HD (hops.w 2 1 QnJ) ho hp)) (hJ.cell hs an) o h) (hJ.quiet QnI ak)
 |3,_=>exact KX hops.o3 (v:=s.val 3) (fun o h=>by rw [Q5l o h,e6];rfl) (hJ.quiet QnI ak)
 |4,_=>exact KX hops.o4 (v:=s.val 4) (fun o h=>Q5L a w s.ub e9 o h) (hJ.quiet QnI ak)
 |5,_=>exact KX hops.o5 (v:=s.val 5) (fun o h=>Q9J a w s.ub 37 _ (val 4 QnI (HD (hops.w 5 4 QnJ) ho hp)) (hJ.cell hs an) o h) (hJ.quiet QnI ak)
 |6,_=>
  have hb:w.heap[s.b]? = s.ws.heap[s.b]?:=by
   rcases hJ.stage with ⟨_,_,_,rfl⟩ | ⟨_,_,_,rfl⟩ | ⟨_,_,hm⟩ | ⟨h1,_⟩
   ·rfl
   ·exact hs.w2_old hs.blt
   ·exact hs.mid_old hm hs.blt hs.vb
   ·exact absurd h1 an
  exact KX hops.o6 (v:=s.val 6) (fun o h=>Q38 a w 36 38 s.b _ _ (val 3 QnI (HD (hops.w 6 3 QnJ) ho hp)) (val 5 QnI (HD (hops.w 6 5 QnJ) ho hp)) (hs.look w hb) o h) (hJ.quiet QnI ak)
 |7,_=>exact KX hops.o7 (v:=s.val 7) (fun o h=>by rw [Q5l o h,e8];rfl) (hJ.quiet QnI ak)
 |8,_=>
  have hw:w=s.ws:=by
   rcases hJ.stage with ⟨_,_,_,h⟩ | ⟨h,_⟩ | ⟨h,_⟩ | ⟨h,_⟩
   ·exact h
   ·exact absurd h hn
   ·exact absurd (MA (hops.w 9 8 QnJ) hc h) hn
   ·exact absurd h an
  subst hw;have h9:¬ Lst listed 9:=fun h=>hn (MA (hops.w 9 8 QnJ) hc h)
  have aj:∀ j,Lst (listed.setIfInBounds 8 true) j↔j=8\/Lst listed j:=fun j=>KN ak
  refine KX hops.o8 (fun o h=>Qaa a s.ws 40 (.int .i64 s.i) rfl (val 7 QnI (HD (hops.w 8 7 QnJ) ho hp)) o h) ?_;have aq:∀ t,tmv (a.put (some 41) (.slice (some ⟨s.ws.heap.size,0,none⟩) 1 1)) t=if t=41 then .slice (some ⟨s.ws.heap.size,0,none⟩) 1 1 else tmv a t:=fun t=>Mv (by rw [hJ.sz];omega) t
  refine ⟨by simp [Act.put,hJ.sz],hJ.df,fun t ht=>by rw [aq,Qq2 QnI];exact hJ.old t ht,fun j hj aw=>?_,.inr (.inl ⟨(aj 8).2 (.inl rfl),fun h=>h9 (((aj 9).1 h).resolve_left QnI),fun h=>an (((aj 10).1 h).resolve_left QnI),rfl⟩)⟩;rw [aq];by_cases e:j=8
  ·subst e;rw [Qq5 rfl];rfl
  ·rw [Qq2 QnI];exact hJ.vals j hj (((aj j).1 aw).resolve_left e)
 |9,_=>
  have h6:=HD (hops.w 9 6 QnJ) ho hp;have h8:=HD (hops.w 9 8 QnJ) ho hp;have hw:w=s.w2:=by
   rcases hJ.stage with ⟨h,_⟩ | ⟨_,_,_,h⟩ | ⟨h,_⟩ | ⟨h,_⟩
   ·exact absurd h8 h
   ·exact h
   ·exact absurd h hn
   ·exact absurd h an
  subst hw;have aj:∀ j,Lst (listed.setIfInBounds 9 true) j↔j=9\/Lst listed j:=fun j=>KN ak
  obtain ⟨i0,bl,bg,bm,bj⟩:=info_parts Qhw;have a2:s.w2.ownsInts (s.b+1) 3 .i64 s.v0 s.zs:=hs.ints.alloc _;have a8:Src (fun _=>True) s.w2 1 (.slice (some ⟨s.ws.heap.size,0,none⟩) 1 1) [[D.int .i64 s.i]] [.int .i64 s.i]:=by
   refine ⟨.inr (.inr ⟨_,1,rfl,fun j u hu=>?_⟩),rfl,fun u hu=>?_,fun i r hr=>?_,fun i j r x hr hx=>?_⟩
   ·match j,hu with
    |0,hu=>
     simp only [Qpu,Option.some.injEq] at hu;subst hu;have a6:s.w2.heap[s.ws.heap.size]? = some (.cells #[.int .i64 s.i] 3):=(MapKept.heap_alloc s.ws _).1;rw [JJ];simp [World.cell?,a6]
   ·simp only [QpN] at hu;subst hu;rfl
   ·match i,hr with
    |0,hr=>simp only [Qpu,Option.some.injEq] at hr;subst hr;rfl
   ·match i,hr with
    |0,hr=>
     simp only [Qpu,Option.some.injEq] at hr;subst hr
     match j,hx with
     |0,hx=>simp only [Qpu,Option.some.injEq] at hx;subst hx;exact ⟨_,rfl,.int _ _⟩
  have bb:=hs.small;have a9:=hs.zl;have bu:=hs.blt;obtain ⟨v',w',g1,g2,g3,g4⟩:=Kb (ty:=22) Tryz.underlying22 bl bg bm rfl QnI a2.1 a8 (by unfold maxLen;simp;omega) (by rw [bj];simp;omega) (by simp [S6.w2];omega);refine KX hops.o9 (fun o h=>Q8E a s.w2 39 41 s.v0 _ v' w' (val 6 QnI h6) (val 8 QnI h8) (fun ty=>g1) o h) ?_;have aq:∀ t,tmv (a.put (some 42) v') t=if t=42 then v' else tmv a t:=fun t=>Mv (by rw [hJ.sz];omega) t
  refine ⟨by simp [Act.put,hJ.sz],hJ.df,fun t ht=>by rw [aq,Qq2 QnI];exact hJ.old t ht,fun j hj aw=>?_,.inr (.inr (.inl ⟨(aj 9).2 (.inl rfl),fun h=>an (((aj 10).1 h).resolve_left QnI),?_⟩))⟩
  ·rw [aq,Qq2 QnI];exact hJ.vals j hj (((aj j).1 aw).resolve_left QnI)
  ·rw [aq,Qq5 rfl];refine ⟨g3,hs.ints.appended (w:=s.ws) (by simpa using g2) hs.wfi,g4.imp id fun h=>⟨_,h,by simp [S6.w2]⟩⟩
 |10,_=>
  have ao:∀ j,j<10->Lst listed j:=fun j hj=>HD (hops.w 10 j (Q9Q j hj)) ho hp
  have hm:s.Mid (tmv a 42) w:=by
   rcases hJ.stage with ⟨h,_⟩ | ⟨_,h,_⟩ | ⟨_,_,h⟩ | ⟨h,_⟩
   ·exact absurd (ao 8 QnI) h
   ·exact absurd (ao 9 QnI) h
   ·exact h
   ·exact absurd h an
  have aj:∀ j,Lst (listed.setIfInBounds 10 true) j↔j=10\/Lst listed j:=fun j=>KN ak
  have a7:s.ws.grownBy w s.v0.ownBlock:=(World.grownBy_alloc _ _ _).trans hm.1;have a9:=hs.zl;obtain ⟨w2,a1,r1,r2⟩:=hs.back w (tmv a 42) (s.zs++[s.i]) a7 hm.2.1 QnL hm.2.2;have r3:w2.Shuns s.b s.No:=by
   obtain ⟨es,ar,hb,F,bv,_,bx,_⟩:=hs.own;have bn:w.heap[s.b]? = some (.map es ar):=(a7.block s.b hs.blt (fun e1=>hs.vb e1.symm)).trans hb;have bb:=hs.small;obtain ⟨bh,ay,bi,a4⟩:=stored_who (int_keyed Qq3) Tryz.underlying189 bn F (by unfold maxLen;omega) (keyOf_int_mk Qq3 hs.wfr) a1;intro bc ax az y hy g al;obtain ⟨rfl,rfl⟩:bh=bc/\ay=ax:=by rw [bi] at az;simpa using az
   rcases a4 y hy with ⟨bk,_⟩ | ⟨_,a5⟩
   ·exact hs.shun es ar hb y bk g al
   ·rw [a5] at al;rcases hm.2.2 with h | ⟨g',h1,h2⟩
    ·rw [h] at al;exact hs.vNo g al
    ·rw [h1] at al;injection al with al;subst al;exact hs.noNew _ h2
  refine Q4s hops.o10 (val 0 QnI (ao 0 QnI)) (val 2 QnI (ao 2 QnI)) (C3 a 42) a1 ?_;exact ⟨hJ.sz,hJ.df,hJ.old,fun j hj aw=>hJ.vals j hj (((aj j).1 aw).resolve_left QnI),.inr (.inr (.inr ⟨(aj 10).2 (.inl rfl),_,w,hm,r1,r2,r3⟩))⟩
theorem Cw {n:Int} {v:Value}:∀ {es:List MapEntry},J3 es n=some v->∃ e∈es,e.val=v
 |e::r,h=>by
  simp only [J3] at h;split at h
  ·split at h
   ·injection h with h;exact ⟨e,QpE ..,h⟩
   ·obtain ⟨x,hx,hv⟩:=Cw h;exact ⟨x,QpG _ hx,hv⟩
  ·obtain ⟨x,hx,hv⟩:=Cw h;exact ⟨x,QpG _ hx,hv⟩
theorem Q1F {es:Array MapEntry} {ac b:Nat} {n:Int} {w:World} (hb:w.heap[b]? = some (.map es ac)) (aj:∀ e∈es.toList,∃ m,e.key = .int .i64 m) :
  (Instr.lookup 189 (.map (some b)) (.int .i64 n) false).run Tryz.prog w = .ok ((J3 es.toList n).getD (.slice none 0 0)) w:=by
 have al:(Instr.checkKey es.isEmpty 10000 3 (.int .i64 n)).run Tryz.prog w = .ok () w:=by
  rw [show (10000:Nat)=9999+1 from rfl,Instr.checkKey];simp only [Sem.run_bind,QA Qq3,Result.andThen_ok];rfl
 have hz:(zeroValue 22).run Tryz.prog w = .ok (.slice none 0 0) w:=Tryz.zeroValue22 w;rcases Tc n es.toList 0 aj with ⟨h1,h2⟩ | ⟨j,v,h1,h2⟩
 ·rw [h1];simp [Instr.lookup,QA Tryz.underlying189,MapKept.run_getObj_map hb,al,Instr.findKey,QA Qq3,h2,hz,Result.andThen]
 ·rw [h1];simp [Instr.lookup,QA Tryz.underlying189,MapKept.run_getObj_map hb,al,Instr.findKey,QA Qq3,h2,Result.andThen]
theorem QcU {v:Value} {l:Lit} (h:keyOf Tryz.prog 3 v=some l):∃ m,v = .int .i64 m:=by
 simp only [keyOf,Qq3,mapKey] at h;cases v <;> simp at h;rename_i k m;exact ⟨m,by rw [h.1.1]⟩
theorem Q4u {w:World} {b n:Nat} {D:DataW Unit} (h:w.ownsGroups Tryz.prog 3 (b+1) 3 .i64 b n D):∃ es ac,w.heap[b]? = some (.map es ac)/\(∀ e∈es.toList,∃ m,e.key = .int .i64 m)/\es.size<=n:=by
 obtain ⟨es,ac,hb,F,hs,_⟩:=h;refine ⟨es,ac,hb,fun e he=>?_,hs⟩;obtain ⟨y,hy⟩:=F.reads e he;exact QcU (WideElems.rd_key hy)
structure GI (b n:Nat) (D:DataW Unit) (No:Nat->Prop) (w:World):Prop where
 own:w.ownsGroups Tryz.prog 3 (b+1) 3 .i64 b n D
 shun:w.Shuns b No
 bNo:¬ No b
 noNew:∀ g,w.heap.size<=g->¬ No g
theorem GI.lookup {b n:Nat} {D:DataW Unit} {No:Nat->Prop} {w:World} (h:GI b n D No w) (hn:n<=1000000000) {res:Int} (hw:(Lit.int .i64 res).wf=true) :
  ∃ v zs,(∀ w',w'.heap[b]? = w.heap[b]?->(Instr.lookup 189 (.map (some b)) (.int .i64 res) false).run Tryz.prog w' = .ok v w')/\D.atKey (.int .i64 res) .nil=rowDatum .i64 v zs/\w.ownsInts (b+1) 3 .i64 v zs/\zs.length<=n /\
   w.groupBack Tryz.prog 189 3 (b+1) 3 .i64 b n D (.int .i64 res) (.int .i64 res) v/\(∀ g,v.ownBlock=some g->¬ No g):=by
 obtain ⟨es,ak,hb,hk,hs⟩:=Q4u h.own;obtain ⟨v,zs,ac,hat,aw,ao,aj⟩:=h.own.at (int_keyed Qq3) Tryz.underlying189 (Tryz.zeroValue22 w) (by unfold maxLen;omega) (keyOf_int_mk Qq3 hw);have hv:v=(J3 es.toList res).getD (.slice none 0 0):=by
  rw [Q1F hb hk] at ac;injection ac with h1 h2
  exact h1.symm
 refine ⟨v,zs,fun w' an=>by rw [hv];exact Q1F (an.trans hb) hk,hat,aw,ao,aj,fun g hg=>?_⟩;cases hl:J3 es.toList res with
 |none=>rw [hv,hl] at hg;cases hg
 |some u=>
  obtain ⟨e,he,au⟩:=Cw hl;rw [hv,hl] at hg;exact h.shun es ak hb e he g (by rw [au];exact hg)
theorem QfU {a2:Array Oper} (hops:VR6 a2) {id:Nat} {Q:Exit->Act->World->Prop} {a:Act} {w:World} {b ub n:Nat} {res i:Int} {D:DataW Unit} {No:Nat->Prop} (hG:GI b n D No w) (hn:n<=1000000000)
  (a1:a.tmps.size=81) (t6:tmv a 6 = .map (some b)) (t8:tmv a 8 = .int .i64 i) (t9:tmv a 9 = .pointer (some ⟨ub,0,none⟩)) (ar:w.cell? ⟨ub,0,none⟩=some (.int .i64 res)) (an:No ub)
  (a4:(Lit.int .i64 res).wf=true) (a6:(Lit.int .i64 i).wf=true)
  (hQ:∀ a' w' v zs,a'.tmps.size=81->a'.defers=a.defers->(∀ t,t<33\/42<t->tmv a' t=tmv a t)->D.atKey (.int .i64 res) .nil=rowDatum .i64 v zs->w.ownsInts (b+1) 3 .i64 v zs ->
   GI b (n+1) (D.put (.int .i64 res) (.slice (ChangeShapes.lits .i64 (zs++[i])) [])) No w'->w'.os=w.os->w'.tape=w.tape->w'.output=w.output->w.heap.size<=w'.heap.size->(∀ k,k<w.heap.size->k<b\/No k->w'.heap[k]? = w.heap[k]?)->Q .normal a' w') :
  (Code.region id a2 true).wp Tryz.prog Q a w:=by
 have bc:w.grownBy { w with drawn:=w.drawn+1 } none:=⟨rfl,rfl,rfl,QpF _,fun _ _ _=>rfl⟩;have ao:GI b n D No { w with drawn:=w.drawn+1 }:=⟨hG.own.kept bc QnK (fun es ba hb x hx=>by cases x.val.ownBlock <;> simp),hG.shun,hG.bNo,hG.noNew⟩;obtain ⟨v,zs,ax,hat,ak,a8,au,al⟩:=ao.lookup hn a4;have aw:ub<w.heap.size:=by
  rcases Nat.lt_or_ge ub w.heap.size with h | h
  ·exact h
  ·exact absurd an (hG.noNew ub h)
 have bg:S6.Ok ⟨a,{ w with drawn:=w.drawn+1 },b,ub,n,res,i,D,v,zs,No⟩:=
  ⟨a1,t6,t8,t9,ar,fun (e:ub=b)=>hG.bNo (e▸an),an,aw,ao.own,ao.shun,hn,a4,a6,ax,hat,ak,a8,au,al,hG.noNew⟩
 refine Q79 (J:=J6 ⟨a,{ w with drawn:=w.drawn+1 },b,ub,n,res,i,D,v,zs,No⟩) (by kernel_rfl) hops.edge (QcV hops bg) (fun listed a' w' hJ a3=>?_) ⟨a1,rfl,fun _ _=>rfl,fun j _ hl=>?_,.inl ⟨?_,?_,?_,rfl⟩⟩
 ·have aq:Lst listed 10:=a3 10 (by rw [hops.size];omega);obtain ⟨v',w3,hm,r1,r2,r3⟩:S6.End ⟨a,{ w with drawn:=w.drawn+1 },b,ub,n,res,i,D,v,zs,No⟩ w':=by
   rcases hJ.stage with ⟨_,_,h,_⟩ | ⟨_,_,h,_⟩ | ⟨_,h,_⟩ | ⟨_,h⟩
   ·exact absurd aq h
   ·exact absurd aq h
   ·exact absurd aq h
   ·exact h
  have ac:({ w with drawn:=w.drawn+1 }:World).grownBy w3 v.ownBlock:=(World.grownBy_alloc _ _ _).trans hm.1;have hd:rowDatum (H:=Unit) .i64 v' (zs++[i]) = .slice (ChangeShapes.lits .i64 (zs++[i])) []:=hm.2.1.datum_pos QnK;have az:w.heap.size<=w3.heap.size:=ac.size;refine hQ a' w' v zs hJ.sz hJ.df hJ.old hat ⟨ak.1,ak.2⟩ ⟨hd▸r1,r3,hG.bNo,fun g a7=>hG.noNew g (Nat.le_trans (Nat.le_trans az r2.size) a7)⟩ (r2.os.trans ac.os) (r2.tape.trans ac.tape) (r2.output.trans ac.output) (Nat.le_trans az r2.size) fun k hk ay=>?_
  have bb:k≠b:=fun e=>by rcases ay with h | h;omega;exact hG.bNo (e▸h)
  have a9:v.ownBlock≠some k:=fun e=>by
   rcases ay with h | h
   ·have:=(ak.1.lt k e).1;omega
   ·exact al k e h
  rw [r2.block k QnI (by simpa using bb)];exact ac.block k hk (fun e=>a9 e.symm)
 ·exact absurd hl (by unfold Lst;simp [Array.getD])
 ·unfold Lst;simp [Array.getD]
 ·unfold Lst;simp [Array.getD]
 ·unfold Lst;simp [Array.getD]
noncomputable def TV:Code:=WT Tryz.f49
noncomputable def Qbi:Code:=cB (cL (cR (cR (cB (cB (cR (cL (cR (cR TV)))))))))
def Q9I:Code->Array Oper | .region _ ac _=>ac | _=>#[]
noncomputable def Q9k:Array Oper:=Q9I (cR (cR Qbi))
theorem CS {ac:Array Oper} {i:Nat} {dst:oP Nat} {op:Op} (h:(ac[i]?).map (fun o=>(o.dst,o.op,o.guard))=some (dst,op,none)):OpAt ac i dst op:=by
 obtain ⟨o,h1,h2⟩:=Option.map_eq_some_iff.1 h;injection h2 with h2 h3
 injection h3 with h3 h4
 exact ⟨o,h1,h2,h3,h4⟩
theorem QhH:VR6 Q9k:=by
 refine ⟨by kernel_rfl,by kernel_rfl,?_,?_,?_,?_,?_,?_,?_,?_,?_,?_,?_,by kernel_rfl⟩
 all_goals exact CS (by kernel_rfl)
end Go.Vx
