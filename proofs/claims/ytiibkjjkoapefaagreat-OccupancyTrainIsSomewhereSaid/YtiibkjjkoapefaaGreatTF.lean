/- Part of a proof. No conditions of their own. -/
import Derived.Test.YtiibkjjkoapefaaGreatTE
import Derived.Test.YtiibkjjkoapefaaGreatTB
import Derived.Test.YtiibkjjkoapefaaGreatTD
set_option linter.unusedVariables false
set_option linter.unusedSimpArgs false
set_option linter.unusedSectionVars false
noncomputable section
abbrev Qjb:=@List.getElem?_cons_zero
abbrev Qjc:=@cond_false
abbrev Qjd:=@List.getElem?_cons_succ
abbrev Qje:=@List.length_map
abbrev Qjf:=@List.mem_of_getElem?
abbrev Qjg:=@decide_eq_true
abbrev Qjh:=@List.getElem?_eq_getElem
abbrev Qji:=@List.append_assoc
abbrev Qjj:=@List.getD_eq_getElem?_getD
abbrev Qjk:=@List.mem_append
abbrev Qjl:=@List.map_append
abbrev Qjm:=@List.mem_cons_self
abbrev Qjn:=@Nat.le_refl
abbrev Qjo:=@List.mem_cons_of_mem
abbrev Qjp:=@Bool.not_true
abbrev Qjq:=@List.getElem?_eq_some_iff
abbrev Qjr:=@List.mem_singleton
abbrev Qjs:=@Int.emod_lt_of_pos
abbrev Qjt:=@Nat.add_sub_cancel
abbrev Qju:=@Int.emod_nonneg
abbrev Qjv:=@Bool.not_false
abbrev Qjw:=@List.take_length
abbrev Qjx:=@List.pairwise_cons
abbrev Qjy:=@if_neg
abbrev Qjz:=@List.set_cons_zero
abbrev QjA:=@List.append_nil
abbrev QjB:=@List.mem_append_right
abbrev QjC:=@List.mem_append_left
abbrev QjD:=@Int.emod_eq_of_lt
abbrev QjE:=@Bool.and_eq_true
abbrev QjF:=@Option.getD_some
abbrev QjG:=@List.pairwise_append
abbrev QjH:=@List.length_set
abbrev QjI:=@List.getElem?_append_right
abbrev QjJ:=@List.all_eq_true
abbrev QjK:=@Nat.le_of_ble_eq_true
abbrev QjL:=@List.getElem?_append_left
abbrev QjM:=@List.mem_of_find?_eq_some
abbrev QjN:=@Eq.trans
abbrev QjO:=@List.getElem?_map
abbrev QjP:=@Int.le_refl
abbrev QjQ:=@List.length_cons
abbrev QjR:=@List.map_replicate
abbrev QjS:=@List.mem_map
namespace Go.Vx
theorem NO {α:Type} {l:List α} {n:Nat} (h:l.length=n):Hg l n=some ():=by
 grind [Hg,Nat.beq,Nat.beq_refl]
def spn (f g:Nat->Int) (n:Nat):LL:=(List.range n).map fun i=>[Q4 0,Q4 (f i),Q4 (g i)]
theorem Q7L {f g:Nat->Int} {n:Nat}:(spn f g n).length=n:=by simp [spn]
theorem QeT {f g:Nat->Int} {n i:Nat} (h:i<n):(spn f g n)[i]? = some [Q4 0,Q4 (f i),Q4 (g i)]:=by simp [spn,h]
theorem Q5A {f g:Nat->Int} {n:Nat}:spn f g n++[[Q4 0,Q4 (f n),Q4 (g n)]]=spn f g (n+1):=by simp [spn,List.range_succ]
theorem F5 {St Pt Se Li:LL} (h:Pg 400 St Pt Se Li=true):Pt.length<=48/\Se.length<=96:=by
 simp_all [Pg,QjE,QjK]
theorem Q9D {l:List Occ}:F9 [l.map enc]=some ():=by
 unfold F9;rw [show ([l.map enc].all B3)=true by simp [B3,enc,Q4E]];rfl
section
variable {St Pt Se Li s:LL} (h:RtF St Pt Se Li s) {nm:List UInt8} {tl sp ac br bf af:Int} (hk:StkN tl sp ac br) (hb0:0<=bf) (hb1:bf<=65536) (ha0:0<=af) (ha1:af<=65536)
include h hk
theorem Q3V {i j:Nat} (ak:i<=j) (hj:j<s.length):0<=fEN Se s (YS Se s nm tl sp ac br) i/\fEN Se s (YS Se s nm tl sp ac br) i<=fLV Se s (YS Se s nm tl sp ac br) j/\fLV Se s (YS Se s nm tl sp ac br) j<=7000000:=by
 have hX:=NQ h (nm:=nm) hk;have a:=QcA h (nm:=nm) hk hj;have h2:=Q87 (Se:=Se) (s:=s) (i:=i-1) (j:=j) (by omega);have c:=AZ h (nm:=nm) hk (b:=pos Se s (i-1)) (by omega);unfold fEN fLV;by_cases hm:j<s.length-1
 ·rw [if_pos hm];exact ⟨c.1,Run.T_mono hX (by omega) (a.2 hm),(AZ h (nm:=nm) hk (a.2 hm)).2⟩
 ·rw [Qjy hm];exact ⟨c.1,Run.T_mono hX (by omega) (Qjn _),(AZ h (nm:=nm) hk (Qjn _)).2⟩
include hb0 hb1 ha0 ha1
theorem QgF {i:Nat} (hi:i<s.length) : -70000<=fr Se s (YS Se s nm tl sp ac br) bf i/\fr Se s (YS Se s nm tl sp ac br) bf i<tu Se s (YS Se s nm tl sp ac br) af i/\tu Se s (YS Se s nm tl sp ac br) af i<=80000/\(1<=i->fr Se s (YS Se s nm tl sp ac br) bf i<tu Se s (YS Se s nm tl sp ac br) af (i-1)):=by
 have l2:=h.l2;have hr:=ND h (nm:=nm) hk;have hN:=Q3V h (nm:=nm) hk (i:=i-1) (j:=s.length-1) (by omega) (by omega);have b:=Q3V h (nm:=nm) hk (i:=i-1) (j:=i) (by omega) hi;have c:=Q3V h (nm:=nm) hk (i:=i-1) (j:=i-1) (by omega) (by omega);have c1:=D6 (a:=fLV Se s (YS Se s nm tl sp ac br) i) (by omega) (show (1:Int)<=1000 by decide);have c0:=D6 (a:=fLV Se s (YS Se s nm tl sp ac br) (i-1)) (by omega) (show (1:Int)<=1000 by decide);have hl:fLV Se s (YS Se s nm tl sp ac br) (s.length-1)=(YS Se s nm tl sp ac br).T (YS Se s nm tl sp ac br).N:=by unfold fLV;rw [Qjy (by omega)]
 have cN:=D6 (a:=fLV Se s (YS Se s nm tl sp ac br) (s.length-1)) (by omega) (show (1:Int)<=1000 by decide);have aj:AE (YS Se s nm tl sp ac br)=cd (fLV Se s (YS Se s nm tl sp ac br) (s.length-1)) 1000:=by rw [hl];rfl
 unfold fr tu;omega
theorem Qel:ZV 400 St Pt Se Li s 0 nm tl sp ac br bf af Tu3=some ((Q4r St Pt Se Li s (YS Se s nm tl sp ac br) bf af).map enc,AE (YS Se s nm tl sp ac br),0):=by
 have l2:=h.l2;have l24:=h.l24;have a4:=ND h (nm:=nm) hk;have aj:=fun i j (a7:i<=j) (hj:j<s.length)=>Q3V h (nm:=nm) hk (i:=i) (j:=j) a7 hj
 have aq:=fun i (hi:i<s.length)=>QgF h (nm:=nm) hk hb0 hb1 ha0 ha1 hi
 have bb:=Qdu h (nm:=nm) hk;have bl:=F5 h.lay;unfold ZV;rw [QcI h.lay rfl h.l2 h.l24 h.rt h.st hk,Q0,Q9 (by rfl),show decide (bf<0)=false by simpa using hb0,show decide (bf>65536)=false by simpa using hb1,show decide (af<0)=false by simpa using ha0,show decide (af>65536)=false by simpa using ha1];simp -implicitDefEqProofs only [Qjc];unfold ZM;rw [bb];revert a4 aj aq;generalize YS Se s nm tl sp ac br=X;intro a4 aj aq;have z:wJ (((s.length:Nat):Int)-1)=((s.length-1:Nat):Int):=Jq (by omega) (by omega);have aa:wJ (((s.length-1:Nat):Int)-1)=((s.length-1-1:Nat):Int):=Jq (by omega) (by omega);have ax:∀ i,i<s.length->Q1 (arr (fEN Se s X) s.length) (i:Int)=some [Q4 (fEN Se s X i)]:=fun i hi=>by rw [Qe];exact JW hi
 have az:∀ i,i<s.length->Q1 (arr (fLV Se s X) s.length) (i:Int)=some [Q4 (fLV Se s X i)]:=fun i hi=>by rw [Qe];exact JW hi
 have aw:∀ i,i<s.length->Vf 400 (fEN Se s X i) (some:Int->Option Int)=some (fEN Se s X i / 1000):=fun i hi=>QfH (aj i i (Qjn i) hi).1 (by have:=aj i i (Qjn i) hi;omega)
 have a3:∀ i,i<s.length->JH 400 (fLV Se s X i) (some:Int->Option Int)=some (cd (fLV Se s X i) 1000):=fun i hi=>upA (by have:=aj i i (Qjn i) hi;omega) (by have:=aj i i (Qjn i) hi;omega)
 have ak:∀ (k:Nat) (r:List D),k<=30->Yf (((spn (fr Se s X bf) (tu Se s X af) k).length+[r].length)*24)=some ():=fun k r hk=>XF (by simp only [Q7L,QjQ,List.length_nil];omega)
 have f0:fr Se s X bf 0 = -bf:=rfl;have t0:tu Se s X af 0=cd (fLV Se s X 0) 1000+4:=by unfold tu;rw [if_pos (by omega)]
 have q0:=aq 0 (by omega);rw [Q0,Q9 (by rfl)];dsimp only;rw [show (0:Int)=((0:Nat):Int) from rfl,az 0 (by omega)];simp -implicitDefEqProofs only [Q0,Qjb,Q2,a3 0 (by omega),YO,z];have ad:∀ k0:Int->Bool->LL->Option (LL × Int × Int),XI 400 (arr (fEN Se s X) s.length) (arr (fLV Se s X) s.length) ((s.length-1:Nat):Int) k0 400 1 (spn (fr Se s X bf) (tu Se s X af) 1)=k0 ((s.length-1:Nat):Int) false (spn (fr Se s X bf) (tu Se s X af) (s.length-1)):=by
  intro k0;refine Qv (r:=fun m i=>XI 400 (arr (fEN Se s X) s.length) (arr (fLV Se s X) s.length) ((s.length-1:Nat):Int) k0 m ((i.toNat+1:Nat):Int) (spn (fr Se s X bf) (tu Se s X af) (i.toNat+1))) (N:=s.length-1-1) (fun m i hi=>?_) (fun m=>?_) (s.length-1-1) 400 0 (by omega) (by omega)
  ·simp only [Int.toNat_natCast];have hf:fr Se s X bf (i+1)=fEN Se s X i / 1000-16:=by unfold fr;rw [Qjy (by omega)];rfl
   have ht:tu Se s X af (i+1)=cd (fLV Se s X (i+1)) 1000+4:=by unfold tu;rw [if_pos (by omega)]
   have q:=aq (i+1) (by omega);rw [XI,Qc (show i+1<s.length-1 by omega),cond_true,Jq (show i+1<=1000 by omega) (by omega),Qjt,ax i (by omega)];simp -implicitDefEqProofs only [Q0,Qjb,Q2,aw i (by omega),az (i+1) (by omega),a3 (i+1) (by omega),wI hf.symm (by omega) (by omega),wI ht.symm (by omega) (by omega),ak (i+1) _ (by omega),Q5A,Qs (show i+1<=1000 by omega)]
  ·simp only [Int.toNat_natCast];rw [show s.length-1-1+1=s.length-1 by omega,XI,Qi,Qjc]
 rw [show ([[D.int .i64 ((0:Nat):Int),D.int .i64 (wJ (((0:Nat):Int)-bf)),D.int .i64 (wJ (cd (fLV Se s X 0) 1000+4))]]:LL)=spn (fr Se s X bf) (tu Se s X af) 1 by
  rw [wI (show ((0:Nat):Int)-bf=fr Se s X bf 0 by omega) (by omega) (by omega),wI t0.symm (by omega) (by omega)];rfl,ad]
 have a9:fr Se s X bf (s.length-1)=fEN Se s X (s.length-1-1) / 1000-16:=by unfold fr;rw [Qjy (by omega)]
 have bc:tu Se s X af (s.length-1)=AE X+af:=by unfold tu;rw [Qjy (by omega)]
 have qm:=aq (s.length-1) (by omega);have a5:J1 400 St Pt Se Li (some:LL->Option LL)=some ((TW Se.length Pt.length Li s (fr Se s X bf) (tu Se s X af) 0).map enc):=by
  unfold J1;rw [wI (show ((Se.length:Nat):Int)+((Pt.length:Nat):Int)=((Se.length+Pt.length:Nat):Int) by omega) (by omega) (by omega),show (bif decide ((0:Int)<=((Se.length+Pt.length:Nat):Int))&&decide (((Se.length+Pt.length:Nat):Int)<=((Se.length+Pt.length:Nat):Int)) then some () else none)=some () by rw [QY (by simp;omega)],Q0,Int.toNat_natCast,XF (by omega),Q0,TW,QjR];rfl
 rw [aa,ax (s.length-1-1) (by omega)];simp -implicitDefEqProofs only [Q0,Qjb,Q2,aw (s.length-1-1) (by omega),aw (s.length-1) (by omega),ax (s.length-1) (by omega),a5,show ((0:Nat):Int)=0 from rfl,wI a9.symm (by omega) (by omega),wI bc.symm (by omega) (by omega),ak (s.length-1) _ (by omega),Q5A];rw [show s.length-1+1=s.length by omega];have ae:∀ k0:Int->Bool->LL->LL->Option (LL × Int × Int),Qj 400 ((s.length-1:Nat):Int) s ((s.length:Nat):Int) St Pt Se Li s (wJ (fEN Se s X (s.length-1) / 1000-16)) (wJ (AE X+20)) k0 400 0 (spn (fr Se s X bf) (tu Se s X af) s.length) ((TW Se.length Pt.length Li s (fr Se s X bf) (tu Se s X af) 0).map enc)=k0 ((s.length:Nat):Int) false (spn (fr Se s X bf) (tu Se s X af) s.length) ((TW Se.length Pt.length Li s (fr Se s X bf) (tu Se s X af) s.length).map enc):=by
  intro k0;refine Qv (r:=fun m i=>Qj 400 ((s.length-1:Nat):Int) s ((s.length:Nat):Int) St Pt Se Li s (wJ (fEN Se s X (s.length-1) / 1000-16)) (wJ (AE X+20)) k0 m i (spn (fr Se s X bf) (tu Se s X af) s.length) ((TW Se.length Pt.length Li s (fr Se s X bf) (tu Se s X af) i.toNat).map enc)) (N:=s.length) (fun m i hi=>?_) (fun m=>?_) s.length 400 0 (by omega) (by omega)
  ·simp only [Int.toNat_natCast];obtain ⟨x,d,bk,b,c,st,e,h1,a0,a1,hd⟩:=Fq h.st hi;have hx:=KJ h1;have al:0<=x/\x<Se.length:=by
    have h2:=hx.1;unfold inB at h2;by_cases hc:0<=x/\x<Se.length
    ·exact hc
    ·rw [show (decide (0<=x)&&decide (x<(Se.length:Int)))=false by simp;omega] at h2;cases h2
   have au:x=((sec s i:Nat):Int):=by
    unfold sec;rw [Qjj,e];show x=((x.toNat:Nat):Int);omega
   have hT:=HC (N:=Se.length) (NP:=Pt.length) (Li:=Li) (s:=s) (f:=fr Se s X bf) (g:=tu Se s X af) (i:=i);have ha:=QeA (n:=400) (T:=TW Se.length Pt.length Li s (fr Se s X bf) (tu Se s X af) i) (r:=sec s i) (f:=fr Se s X bf i) (t:=tu Se s X af i) (by omega);have a2:∀ j,j<s.length->(spn (fr Se s X bf) (tu Se s X af) s.length)[j]? = some [Q4 0,Q4 (fr Se s X bf j),Q4 (tu Se s X af j)]:=fun j hj=>QeT hj
   rw [Qj,Qc hi,Qe,e];simp -implicitDefEqProofs only [cond_true,Q0,Qjb,Qjd,show decide ((i:Int)>((s.length-1:Nat):Int))=false by simp;omega,Qjc,Q2,Q7L,Y0 (len:=s.length) (show (0:Int)<=(i:Int) by omega) (show (i:Int)<(s.length:Int) by omega),Int.toNat_natCast,a2 i hi,au,ha,Qs (show i<=1000 by omega),NO (l:=(Mb (TW Se.length Pt.length Li s (fr Se s X bf) (tu Se s X af) i) (sec s i) (fr Se s X bf i) (tu Se s X af i)).map enc) (n:=((TW Se.length Pt.length Li s (fr Se s X bf) (tu Se s X af) i).map enc).length) (by simp only [Qje,NS])];by_cases ah:i=0
   ·subst ah;rw [show (((0:Nat):Int) == 0)=true from rfl,cond_true];rfl
   ·obtain ⟨j,rfl⟩:∃ j,i=j+1:=⟨i-1,by omega⟩;obtain ⟨x',d',bh,b',c',st',e',bg,_,_,a6⟩:=Fq h.st (j:=j) (by omega);obtain ⟨p,a,am,an,ao⟩:=Q4x h.hops j hi;rw [Qjj,Qjj,e,e',QjF,QjF] at a;have ba:=KJ bg;have ar:0<=x'/\x'<Se.length:=by
     have h2:=ba.1;unfold inB at h2;by_cases hc:0<=x'/\x'<Se.length
     ·exact hc
     ·rw [show (decide (0<=x')&&decide (x'<(Se.length:Int)))=false by simp;omega] at h2;cases h2
    have a8:pt Li s (j+1)=p:=by
     unfold pt;rw [Qjj,Qjj,e,Qjt,e',QjF,QjF,a];rfl
    have ay:=(Qbx h.lay ar.1 ar.2 a6 (y:=x) (e:=d)).trans a;rw [au] at ay;rw [show (((j+1:Nat):Int) == 0)=false by simp;omega,Qjc,Jq (show j+1<=1000 by omega) (by omega),Qjt,Qe,e'];simp -implicitDefEqProofs only [Q0,Qjb,Qjd,Q2,ay];rw [Q0X,a8];by_cases hp:p<0
    ·rw [show decide (p<0)=true by simpa using hp,cond_true,if_pos hp]
    ·have ai:=QeA (n:=400) (T:=Mb (TW Se.length Pt.length Li s (fr Se s X bf) (tu Se s X af) (j+1)) (sec s (j+1)) (fr Se s X bf (j+1)) (tu Se s X af (j+1))) (r:=Se.length+p.toNat) (f:=fr Se s X bf (j+1)) (t:=tu Se s X af j) (by rw [NS];omega);rw [show decide (p<0)=false by simpa using hp,Qjc,Qjy hp,show decide (((j+1:Nat):Int)<=((s.length-1:Nat):Int))=true by simp;omega,cond_true];simp -implicitDefEqProofs only [Y0 (len:=s.length) (show (0:Int)<=(j:Int) by omega) (show (j:Int)<(s.length:Int) by omega),Q0,Qjb,Qjd,Q2,a2 j (by omega),wI (show ((Se.length:Nat):Int)+p=((Se.length+p.toNat:Nat):Int) by omega) (by omega) (by omega),Int.toNat_natCast,ai,Qjt];rw [NO (by simp only [Qje,NS]),Q0]
  ·simp only [Int.toNat_natCast];rw [Qj,Qi,Qjc]
 rw [ae,QgJ (by rw [HC];omega),Q0,Q9D,Q0];rfl
end
theorem QeX {St Pt Se Li L:LL} {x d y e p:Int} (h:ptR [] [] L Li [Q4 x,Q4 d] [Q4 y,Q4 e]=some p):∃ a b c,JI 400 St Pt Se Li x d y e Tu5=some (a,b,Q4 p,c,true):=by
 rw [Qhf (a':=[]) (b':=[]) (L':=L)];unfold ptR at h;dsimp only at h;split at h
 ·rename_i he;cases h;exact ⟨_,_,_,he⟩
 ·cases h
def Qbj (T:List Occ):LL:=T.map fun q=>[D.bool (Pq q)]
section
variable {St Pt Se Li s:LL} (h:RtF St Pt Se Li s) {nm:List UInt8} {tl sp ac br bf af:Int} (hk:StkN tl sp ac br) (hb0:0<=bf) (hb1:bf<=65536) (ha0:0<=af) (ha1:af<=65536)
include h hk hb0 hb1 ha0 ha1
theorem QfQ:H8 400 St Pt Se Li s 0 nm tl sp ac br bf af Tu3=some ((Q4r St Pt Se Li s (YS Se s nm tl sp ac br) bf af).map enc,AE (YS Se s nm tl sp ac br),0):=by
 have l2:=h.l2;have l24:=h.l24;have a8:=ND h (nm:=nm) hk;have aw:=fun i j (bh:i<=j) (hj:j<s.length)=>Q3V h (nm:=nm) hk (i:=i) (j:=j) bh hj
 have a2:=fun i (hi:i<s.length)=>QgF h (nm:=nm) hk hb0 hb1 ha0 ha1 hi
 have bk:=QfY h (nm:=nm) hk;have b5:=F5 h.lay;unfold H8;rw [Q8K h hk,Q0,Q9 (by rfl),Q3K hb0 hb1,Q0,Q3K ha0 ha1];simp -implicitDefEqProofs only [Q0,Qjp,Qjc,Qjv];rw [bk];revert a8 aw a2;generalize YS Se s nm tl sp ac br=X;intro a8 aw a2;have t:wJ (((s.length:Nat):Int)-1)=((s.length-1:Nat):Int):=Jq (by omega) (by omega);have a9:∀ i,i<s.length->Q1 (arr (fEN Se s X) s.length) (i:Int)=some [Q4 (fEN Se s X i)]:=fun i hi=>by rw [Qe];exact JW hi
 have a3:∀ i,i<s.length->Q1 (arr (fLV Se s X) s.length) (i:Int)=some [Q4 (fLV Se s X i)]:=fun i hi=>by rw [Qe];exact JW hi
 have a4:∀ i,i<s.length->Vv 400 (fEN Se s X i) 1000 (some:Int->Option Int)=some (fEN Se s X i / 1000):=fun i hi=>QeR (aw i i (Qjn i) hi).1 (by have:=aw i i (Qjn i) hi;omega)
 have a7:∀ i,i<s.length->Jm 400 (fLV Se s X i) 1000 (some:Int->Option Int)=some (cd (fLV Se s X i) 1000):=fun i hi=>QbG (by have:=aw i i (Qjn i) hi;omega) (by decide) (by have:=aw i i (Qjn i) hi;omega)
 have bg:wJ (((Se.length:Nat):Int)+((Pt.length:Nat):Int))=((Se.length+Pt.length:Nat):Int):=wI (by omega) (by omega) (by omega);have hg:(bif decide ((0:Int)<=((Se.length+Pt.length:Nat):Int))&&decide (((Se.length+Pt.length:Nat):Int)<=((Se.length+Pt.length:Nat):Int)) then some () else none)=some ():=by rw [QY (by simp;omega)]
 rw [Q0];dsimp only;simp -implicitDefEqProofs only [bg,hg,Q0,Int.toNat_natCast,XF (show (Se.length+Pt.length)*1<=100000 by omega),XF (show (Se.length+Pt.length)*24<=100000 by omega),YO,t];let T:Nat->List Occ:=fun i=>TW Se.length Pt.length Li s (fr Se s X bf) (tu Se s X af) i
 have u:∀ k0:Int->Int->Bool->LL->LL->Option (LL × Int × Int),Wa 400 bf af (arr (fEN Se s X) s.length) (arr (fLV Se s X) s.length) (AE X) ((s.length-1:Nat):Int) St Pt Se Li s k0 400 0 0 (Qbj (T 0)) ((T 0).map enc)=k0 (tu Se s X af (s.length-1)) ((s.length:Nat):Int) false (Qbj (T s.length)) ((T s.length).map enc):=by
  intro k0;refine Qv (r:=fun m i=>Wa 400 bf af (arr (fEN Se s X) s.length) (arr (fLV Se s X) s.length) (AE X) ((s.length-1:Nat):Int) St Pt Se Li s k0 m (if i.toNat=0 then 0 else tu Se s X af (i.toNat-1)) i (Qbj (T i.toNat)) ((T i.toNat).map enc)) (N:=s.length) (fun m i hi=>?_) (fun m=>?_) s.length 400 0 (by omega) (by omega)
  ·simp only [Int.toNat_natCast];obtain ⟨x,d,bx,b,c,st,e,v,a0,a1,hd⟩:=Fq h.st hi;have hx:=KJ v;have ay:0<=x/\x<Se.length:=by
    have h2:=hx.1;unfold inB at h2;by_cases hc:0<=x/\x<Se.length
    ·exact hc
    ·rw [show (decide (0<=x)&&decide (x<(Se.length:Int)))=false by simp;omega] at h2;cases h2
   have az:x=((sec s i:Nat):Int):=by
    unfold sec;rw [Qjj,e];show x=((x.toNat:Nat):Int);omega
   have hT:(T i).length=Se.length+Pt.length:=HC;have q:=a2 i hi;have ha:YM 400 (Qbj (T i)) ((T i).map enc) ((sec s i:Nat):Int) (fr Se s X bf i) (tu Se s X af i) Tu2=_:=QgV (by omega) q.2.1;rw [Wa,Qc hi,cond_true];have hz:∀ (J:Int->Int->Option (LL × Int × Int)),jn J (fun j=>bif ((i:Int) == (0:Int)) then
      gb true (Q1 (arr (fLV Se s X) s.length) (0:Int)) [] fun y=>gb true (y[0]?) oF fun z=>gb true (pIw z) 0 fun aa=>gb true (Jm 400 aa (1000:Int) some) 0 fun ab=>j (wJ (0-bf)) (wJ (ab+(4:Int)))
     else bif (decide ((i:Int)<((s.length-1:Nat):Int))) then
      gb true (Q1 (arr (fEN Se s X) s.length) (wJ ((i:Int)-(1:Int)))) [] fun ad=>gb true (ad[0]?) oF fun ae=>gb true (pIw ae) 0 fun ag=>gb true (Vv 400 ag (1000:Int) some) 0 fun ah=>
      gb true (Q1 (arr (fLV Se s X) s.length) (i:Int)) [] fun ai=>gb true (ai[0]?) oF fun aj=>gb true (pIw aj) 0 fun ak=>gb true (Jm 400 ak (1000:Int) some) 0 fun al=>j (wJ (ah-(16:Int))) (wJ (al+(4:Int)))
     else bif ((i:Int) == ((s.length-1:Nat):Int)) then
      gb true (Q1 (arr (fEN Se s X) s.length) (wJ (((s.length-1:Nat):Int)-(1:Int)))) [] fun am=>gb true (am[0]?) oF fun an=>gb true (pIw an) 0 fun ao=>gb true (Vv 400 ao (1000:Int) some) 0 fun ap=>j (wJ (ap-(16:Int))) (wJ (AE X+af))
     else
      gb true (Q1 (arr (fEN Se s X) s.length) ((s.length-1:Nat):Int)) [] fun aq=>gb true (aq[0]?) oF fun ar=>gb true (pIw ar) 0 fun au=>gb true (Vv 400 au (1000:Int) some) 0 fun av=>j (wJ (av-(16:Int))) (wJ (AE X+(20:Int))))=J (fr Se s X bf i) (tu Se s X af i):=by
    intro J;dsimp only [jn];by_cases g:i=0
    ·subst g;have t0:tu Se s X af 0=cd (fLV Se s X 0) 1000+4:=by unfold tu;rw [if_pos (by omega)]
     have f0:fr Se s X bf 0 = -bf:=rfl;rw [show (((0:Nat):Int) == 0)=true from rfl,cond_true,show (0:Int)=((0:Nat):Int) from rfl,a3 0 hi];simp -implicitDefEqProofs only [Q0,Qjb,Q2,a7 0 hi,wI (show ((0:Nat):Int)-bf=fr Se s X bf 0 by omega) (by omega) (by omega),wI t0.symm (by omega) (by omega)]
    ·have hp:fr Se s X bf i=fEN Se s X (i-1) / 1000-16:=by unfold fr;rw [Qjy g]
     rw [show ((i:Int) == 0)=false by simp;omega,Qjc];by_cases a6:i<s.length-1
     ·have ht:tu Se s X af i=cd (fLV Se s X i) 1000+4:=by unfold tu;rw [if_pos a6]
      rw [Qc a6,cond_true,Jq (by omega) (by omega),a9 (i-1) (by omega)];simp -implicitDefEqProofs only [Q0,Qjb,Q2,a4 (i-1) (by omega),a3 i hi,a7 i hi,wI hp.symm (by omega) (by omega),wI ht.symm (by omega) (by omega)]
     ·obtain rfl:i=s.length-1:=by omega
      have ht:tu Se s X af (s.length-1)=AE X+af:=by unfold tu;rw [Qjy (by omega)]
      rw [Qi,Qjc,show (((s.length-1:Nat):Int) == ((s.length-1:Nat):Int))=true by simp,cond_true,Jq (by omega) (by omega),a9 (s.length-1-1) (by omega)];simp -implicitDefEqProofs only [Q0,Qjb,Q2,a4 (s.length-1-1) (by omega),wI hp.symm (by omega) (by omega),wI ht.symm (by omega) (by omega)]
   rw [hz,Qe,e];simp -implicitDefEqProofs only [Q0,Qjb,Qjd,Q2,az,ha,Qs (show i<=1000 by omega),Qjt,Nat.succ_ne_zero,if_false];by_cases g:i=0
   ·subst g;rw [show decide (((0:Nat):Int)>0)=false from rfl,Qjc];rfl
   ·obtain ⟨j,rfl⟩:∃ j,i=j+1:=⟨i-1,by omega⟩;obtain ⟨x',d',bl,b',c',st',e',b7,_,_,bv⟩:=Fq h.st (j:=j) (by omega);obtain ⟨p,l,k,ba,bb⟩:=Q4x h.hops j hi;rw [Qjj,Qjj,e,e',QjF,QjF] at l k;have bi:pt Li s (j+1)=p:=by
     unfold pt;rw [Qjj,Qjj,e,Qjt,e',QjF,QjF,l];rfl
    rw [az] at k;obtain ⟨u1,u2,u3,hj⟩:=QeX (St:=St) (Pt:=Pt) (Se:=Se) k;rw [show decide (((j+1:Nat):Int)>0)=true from Qjg (by omega),cond_true,Jq (show j+1<=1000 by omega) (by omega),Qjt,Qe,e'];simp -implicitDefEqProofs only [Q0,Qjb,Qjd,Q2,hj];have bj:T (j+1+1)=if p<0 then Mb (T (j+1)) (sec s (j+1)) (fr Se s X bf (j+1)) (tu Se s X af (j+1)) else Mb (Mb (T (j+1)) (sec s (j+1)) (fr Se s X bf (j+1)) (tu Se s X af (j+1))) (Se.length+p.toNat) (fr Se s X bf (j+1)) (tu Se s X af j):=by
     show TW _ _ _ _ _ _ (j+1+1)=_;rw [Q0X,bi]
    rw [bj];by_cases hp:p<0
    ·rw [show decide (p>=0)=false by simp;omega,Qjc,if_pos hp];rfl
    ·have ax:YM 400 (Qbj (Mb (T (j+1)) (sec s (j+1)) (fr Se s X bf (j+1)) (tu Se s X af (j+1)))) ((Mb (T (j+1)) (sec s (j+1)) (fr Se s X bf (j+1)) (tu Se s X af (j+1))).map enc) ((Se.length+p.toNat:Nat):Int) (fr Se s X bf (j+1)) (tu Se s X af j) Tu2=_:=QgV (by rw [NS];omega) (q.2.2.2 (by omega));rw [show decide (p>=0)=true by simp;omega,cond_true,Qjy hp,show decide (((j+1:Nat):Int)>((s.length-1:Nat):Int))=false by simp;omega,Qjc];have n:=ax;unfold Qbj at n;simp -implicitDefEqProofs only [Q0,wI (show ((Se.length:Nat):Int)+p=((Se.length+p.toNat:Nat):Int) by omega) (by omega) (by omega),n,Qjt,Qjy (Nat.succ_ne_zero _)];rfl
  ·simp only [Int.toNat_natCast];rw [Wa,Qi,Qjc,Qjy (by omega)]
 have a5:T 0=List.replicate (Se.length+Pt.length) (0,0,0):=rfl;have e1:List.replicate (Se.length+Pt.length) [D.bool false]=Qbj (T 0):=by rw [a5];unfold Qbj;rw [QjR];rfl
 have e2:List.replicate (Se.length+Pt.length) [D.int .i64 (0:Int),D.int .i64 (0:Int),D.int .i64 (0:Int)]=(T 0).map enc:=by rw [a5,QjR];rfl
 rw [e1,e2,u];have hl:((Se.length+Pt.length:Nat):Int)=(((T s.length).length:Nat):Int):=by rw [show (T s.length).length=Se.length+Pt.length from HC]
 rw [hl];exact QfT (by rw [show (T s.length).length=Se.length+Pt.length from HC];omega) _
end
def OL:Int->List Occ->Prop
 |_,[]=>True
 |l,(x,a,b)::r=>l<x /\ -1000<=a/\a<b/\b<=20000/\x<=1000/\OL x r
theorem OL.mono:∀ {l l':Int} {O:List Occ},l'<=l->OL l O->OL l' O
 |_,_,[],_,_=>trivial
 |_,_,(x,a,b)::r,h,⟨c,h2⟩=>⟨by omega,h2⟩
theorem OL.filter {p:Occ->Bool}:∀ {l:Int} {O:List Occ},OL l O->OL l (O.filter p)
 |_,[],_=>trivial
 |l,(x,a,b)::r,⟨d,h2,e,f,g,c⟩=>by
  rw [List.filter_cons];split
  ·exact ⟨d,h2,e,f,g,c.filter⟩
  ·exact (c.filter).mono (by omega)
theorem OL.mem:∀ {l:Int} {O:List Occ},OL l O->∀ q∈O,l<q.1 /\ -1000<=q.2.1/\q.2.1<q.2.2/\q.2.2<=20000/\q.1<=1000
 |_,[],_,_,h=>nomatch h
 |l,(x,a,b)::r,⟨c,h2,d,e,f,g⟩,q,h=>by
  cases h with
  |head=>exact ⟨c,h2,d,e,f⟩
  |tail _ h=>have:=g.mem q h;exact ⟨by omega,this.2⟩
def TI (T:List Occ):Prop:=∀ (r:Nat) (x a b:Int),T[r]? = some (x,a,b)->a<b->x=(r:Int) /\ -1000<=a/\b<=20000
theorem TI.add {T:List Occ} (h:TI T) {r:Nat} {f t:Int} (hf : -1000<=f) (ht:t<=20000):TI (Mb T r f t):=by
 unfold Mb;cases e:T[r]? with
 |none=>exact h
 |some q=>
  obtain ⟨x,a,b⟩:=q;dsimp only;have hr:=(Qjq.1 e).1;by_cases an:a<b
  ·have c:=h r x a b e an;rw [if_pos an];intro r' x' a' b' e' aj;rw [List.getElem?_set] at e';by_cases ak:r=r'
   ·subst ak;rw [if_pos rfl,if_pos hr] at e';cases e';refine ⟨rfl,?_,?_⟩ <;> split <;> omega
   ·rw [Qjy ak] at e';exact h r' x' a' b' e' aj
  ·rw [Qjy an];intro r' x' a' b' e' aj;rw [List.getElem?_set] at e';by_cases ak:r=r'
   ·subst ak;rw [if_pos rfl,if_pos hr] at e';cases e';exact ⟨rfl,hf,ht⟩
   ·rw [Qjy ak] at e';exact h r' x' a' b' e' aj
theorem TI.ol:∀ {T:List Occ} {k:Nat},T.length+k<=1000->(∀ (r:Nat) (x a b:Int),T[r]? = some (x,a,b)->a<b->x=((r+k:Nat):Int) /\ -1000<=a/\b<=20000)->OL ((k:Int)-1) (T.filter Pq)
 |[],_,_,_=>trivial
 |(x,a,b)::T,k,hk,h=>by
  have ih:=TI.ol (T:=T) (k:=k+1) (by simp at hk;omega) fun r x a b e aj=>by
   have:=h (r+1) x a b e aj;rw [show r+1+k=r+(k+1) by omega] at this;exact this
  rw [show ((k+1:Nat):Int)-1=(k:Int) by omega] at ih;have c:=h 0 x a b rfl;rw [List.filter_cons];by_cases aj:a<b
  ·have c:=c aj;rw [show Pq (x,a,b)=true by simpa [Pq] using aj,if_pos rfl];have hx:x=(k:Int):=by simpa using c.1
   refine ⟨by omega,c.2.1,aj,c.2.2,by simp at hk;omega,?_⟩;rw [hx];exact ih
  ·rw [show Pq (x,a,b)=false by simpa [Pq] using aj,Qjy (by simp)];exact ih.mono (by omega)
section
variable {St Pt Se Li s:LL} (h:RtF St Pt Se Li s) {nm:List UInt8} {tl sp ac br bf af:Int} (hk:StkN tl sp ac br) (hb0:0<=bf) (hb1:bf<=60) (ha0:0<=af) (ha1:af<=5000)
include h hk hb0 hb1 ha0 ha1
theorem Qdl {i:Nat} (hi:i<s.length) : -1000<=fr Se s (YS Se s nm tl sp ac br) bf i/\tu Se s (YS Se s nm tl sp ac br) af i<=20000:=by
 have l2:=h.l2;have hr:=ND h (nm:=nm) hk;have b:=Q3V h (nm:=nm) hk (i:=i-1) (j:=i) (by omega) hi;have c1:=D6 (a:=fLV Se s (YS Se s nm tl sp ac br) i) (by omega) (show (1:Int)<=1000 by decide);unfold fr tu;constructor
 ·split <;> omega
 ·split <;> omega
theorem Q9d:OL (-1) (Q4r St Pt Se Li s (YS Se s nm tl sp ac br) bf af)/\(Q4r St Pt Se Li s (YS Se s nm tl sp ac br) bf af).length<=6:=by
 have an:=F5 h.lay;have aj:=fun i (hi:i<s.length)=>Qdl h (nm:=nm) hk hb0 hb1 ha0 ha1 hi
 have l2:=h.l2;unfold Q4r;generalize YS Se s nm tl sp ac br=X at aj;have hT:∀ i,i<=s.length->TI (TW Se.length Pt.length Li s (fr Se s X bf) (tu Se s X af) i):=by
  intro i;induction i with
  |zero=>
   intro _ r x a b e ak;have:=Qjq.1 e;obtain ⟨d,h2⟩:=this;simp only [TW,List.getElem_replicate] at h2;cases h2;omega
  |succ i ih=>
   intro hi;have ih:=ih (by omega);have q:=aj i (by omega);rw [TW];split
   ·exact ih.add q.1 q.2
   ·have c:=aj (i-1) (by omega);split
    ·exact ih.add q.1 q.2
    ·exact (ih.add q.1 q.2).add q.1 c.2
 constructor
 ·have:=TI.ol (T:=TW Se.length Pt.length Li s (fr Se s X bf) (tu Se s X af) s.length) (k:=0) (by rw [HC];omega) (fun r x a b e ak=>hT _ (Qjn _) r x a b e ak);exact this
 ·have hc:=Q6h h.hops (fun i=>((TW Se.length Pt.length Li s (fr Se s X bf) (tu Se s X af) (i+1)).filter Pq).length-1) (fun i=>?_) ?_ (s.length-1) (by omega)
  ·rw [show s.length-1+1=s.length by omega] at hc;omega
  ·rw [Q0X];have c1:=Q1N (T:=TW Se.length Pt.length Li s (fr Se s X bf) (tu Se s X af) (i+1)) (r:=sec s (i+1)) (f:=fr Se s X bf (i+1)) (t:=tu Se s X af (i+1));split
   ·omega
   ·have g:=Q1N (T:=Mb (TW Se.length Pt.length Li s (fr Se s X bf) (tu Se s X af) (i+1)) (sec s (i+1)) (fr Se s X bf (i+1)) (tu Se s X af (i+1))) (r:=Se.length+(pt Li s (i+1)).toNat) (f:=fr Se s X bf (i+1)) (t:=tu Se s X af i);omega
  ·have c1:=Q1N (T:=TW Se.length Pt.length Li s (fr Se s X bf) (tu Se s X af) 0) (r:=sec s 0) (f:=fr Se s X bf 0) (t:=tu Se s X af 0);have c0:((TW Se.length Pt.length Li s (fr Se s X bf) (tu Se s X af) 0).filter Pq).length=0:=by
    rw [TW];simp [Pq]
   show ((TW Se.length Pt.length Li s (fr Se s X bf) (tu Se s X af) 1).filter Pq).length-1<=0;rw [TW,if_pos rfl];omega
end
end Go.Vx
namespace Go.Vx
variable {R:Type} (n:Nat)
def XZ (p:Int) (ad:LL) (q:Int) (f g h i:LL) (r:Int) (b c s t u v x:LL) (j y:D) (k0:Int->oP R) (k1:Int->Bool->LL->LL->oP R):Nat->Int->LL->LL->oP R
 | 0,_,_,_=>none
 | m+1,a,d,e=>bif decide (a<q) then gb true (Q1 ad a) [] fun aj=>gb true (aj[0]?) oF fun ak=>gb true (aj[1]?) oF fun al=>gb true (aj[2]?) oF fun dw=>gb true (aj[3]?) oF fun au=>gb true (pIw al) 0 fun am=>gb true (pIw au) 0 fun an=>bif (a == 0) then gb true (pSl 4 y) [] fun av=>bif (a == (wJ ((av.length:Int)-1))) then gb true (pIw al) 0 fun aw=>gb true (KO n r b c s t u v x p some) 0 fun ax=>gb true (pIw ak) 0 fun ay=>gb true (Q1 c ay) [] fun ao=>gb true (ao[0]?) oF fun az=>gb true (ao[1]?) oF fun ba=>gb true (pIw j) 0 fun bb=>gb true (Q1 b bb) [] fun ae=>gb true (ae[0]?) oF fun bc=>gb true (ae[1]?) oF fun bd=>gb true (ae[2]?) oF fun be=>gb true (ae[3]?) oF fun bg=>gb true (ae[4]?) oF fun bh=>gb true (pSl 2 az) [] fun bi=>gb true (pIw ba) 0 fun bj=>gb true (RD bc) [] fun bk=>gb true (pIw bd) 0 fun bl=>gb true (pIw be) 0 fun bm=>gb true (pIw bg) 0 fun bn=>gb true (pIw bh) 0 fun bo=>gb true (ZV n f g h i bi bj bk bl bm bn bo 60 (wJ (aw+ax)) Tu3) ([],0,0) fun z=>bif (z.2.2 != 0) then k0 z.2.2 else gb true (Yf ((d.length+[[D.sl 3 z.1]].length)*24)) () fun dx=>gb true (Yf ((e.length+[[Q4 z.2.1]].length)*8)) () fun dy=>XZ p ad q f g h i r b c s t u v x j y k0 k1 m (wJ (a+1)) (d++[[D.sl 3 z.1]]) (e++[[Q4 z.2.1]]) else gb true (pIw ak) 0 fun bp=>gb true (Q1 c bp) [] fun ap=>gb true (ap[0]?) oF fun bq=>gb true (ap[1]?) oF fun br=>gb true (pIw j) 0 fun bt=>gb true (Q1 b bt) [] fun ag=>gb true (ag[0]?) oF fun bu=>gb true (ag[1]?) oF fun bv=>gb true (ag[2]?) oF fun bx=>gb true (ag[3]?) oF fun bz=>gb true (ag[4]?) oF fun ca=>gb true (pSl 2 bq) [] fun cb=>gb true (pIw br) 0 fun cc=>gb true (RD bu) [] fun ce=>gb true (pIw bv) 0 fun cf=>gb true (pIw bx) 0 fun cg=>gb true (pIw bz) 0 fun ch=>gb true (pIw ca) 0 fun ci=>gb true (ZV n f g h i cb cc ce cf cg ch ci 60 (wJ (am+an)) Tu3) ([],0,0) fun aa=>bif (aa.2.2 != 0) then k0 aa.2.2 else gb true (Yf ((d.length+[[D.sl 3 aa.1]].length)*24)) () fun dz=>gb true (Yf ((e.length+[[Q4 aa.2.1]].length)*8)) () fun ea=>XZ p ad q f g h i r b c s t u v x j y k0 k1 m (wJ (a+1)) (d++[[D.sl 3 aa.1]]) (e++[[Q4 aa.2.1]]) else gb true (pSl 4 y) [] fun cj=>bif (a == (wJ ((cj.length:Int)-1))) then gb true (pIw al) 0 fun ck=>gb true (KO n r b c s t u v x p some) 0 fun cm=>gb true (pIw ak) 0 fun cn=>gb true (Q1 c cn) [] fun aq=>gb true (aq[0]?) oF fun co=>gb true (aq[1]?) oF fun cp=>gb true (pIw j) 0 fun cq=>gb true (Q1 b cq) [] fun ah=>gb true (ah[0]?) oF fun cr=>gb true (ah[1]?) oF fun cs=>gb true (ah[2]?) oF fun ct=>gb true (ah[3]?) oF fun cu=>gb true (ah[4]?) oF fun cv=>gb true (pSl 2 co) [] fun cw=>gb true (pIw cp) 0 fun cx=>gb true (RD cr) [] fun cy=>gb true (pIw cs) 0 fun cz=>gb true (pIw ct) 0 fun da=>gb true (pIw cu) 0 fun db=>gb true (pIw cv) 0 fun dc=>gb true (ZV n f g h i cw cx cy cz da db dc 0 (wJ (ck+cm)) Tu3) ([],0,0) fun ab=>bif (ab.2.2 != 0) then k0 ab.2.2 else gb true (Yf ((d.length+[[D.sl 3 ab.1]].length)*24)) () fun eb=>gb true (Yf ((e.length+[[Q4 ab.2.1]].length)*8)) () fun ec=>XZ p ad q f g h i r b c s t u v x j y k0 k1 m (wJ (a+1)) (d++[[D.sl 3 ab.1]]) (e++[[Q4 ab.2.1]]) else gb true (pIw ak) 0 fun dd=>gb true (Q1 c dd) [] fun ar=>gb true (ar[0]?) oF fun de=>gb true (ar[1]?) oF fun df=>gb true (pIw j) 0 fun dg=>gb true (Q1 b dg) [] fun ai=>gb true (ai[0]?) oF fun dh=>gb true (ai[1]?) oF fun di=>gb true (ai[2]?) oF fun dj=>gb true (ai[3]?) oF fun dk=>gb true (ai[4]?) oF fun dl=>gb true (pSl 2 de) [] fun dn=>gb true (pIw df) 0 fun dp=>gb true (RD dh) [] fun dq=>gb true (pIw di) 0 fun dr=>gb true (pIw dj) 0 fun ds=>gb true (pIw dk) 0 fun dt=>gb true (pIw dl) 0 fun du=>gb true (ZV n f g h i dn dp dq dr ds dt du 0 (wJ (am+an)) Tu3) ([],0,0) fun ac=>bif (ac.2.2 != 0) then k0 ac.2.2 else gb true (Yf ((d.length+[[D.sl 3 ac.1]].length)*24)) () fun ed=>gb true (Yf ((e.length+[[Q4 ac.2.1]].length)*8)) () fun ee=>XZ p ad q f g h i r b c s t u v x j y k0 k1 m (wJ (a+1)) (d++[[D.sl 3 ac.1]]) (e++[[Q4 ac.2.1]]) else k1 a (decide (a<q)) d e
def ZF (h2:LL) (c:Int) (d e f g:LL) (h:Int) (i j k l o p q:LL) (k0:Int->oP R) (k1:Int->Bool->LL->LL->oP R):Nat->Int->LL->LL->oP R
 | 0,_,_,_=>none
 | m+1,a,r,s=>bif decide (a<c) then gb true (Q1 h2 a) [] fun b=>gb true (b[0]?) oF fun aa=>gb true (b[1]?) oF fun v=>gb true (b[2]?) oF fun ab=>gb true (b[3]?) oF fun t=>gb true (pSl 4 t) [] fun u=>XZ n a u (u.length:Int) d e f g h i j k l o p q v t (fun x=>k0 x) (fun ac ad y z=>ZF h2 c d e f g h i j k l o p q k0 k1 m (wJ (a+1)) y z) n 0 r s else k1 a (decide (a<c)) r s
def HN (b c d e:LL) (f:Int) (g h a i j k l:LL) (K:LL->LL->Int->oP R):oP R:= gb true (J9 n b c d e f g h a i j k l some) 0 fun m=>bif (m != 0) then K [] [] 1 else ZF n a (a.length:Int) b c d e f g h a i j k l (fun o=>K [] [] o) (fun r s p q=>K p q 0) n 0 [] []
end Go.Vx
namespace Go.Vx
def Q9x {α:Type} (nr:Nat->Nat) (f:Nat->Nat->α):Nat->List α
 |0=>[]
 |i+1=>Q9x nr f i++(List.range (nr i)).map (f i)
def base (nr:Nat->Nat):Nat->Nat
 |0=>0
 |i+1=>base nr i+nr i
theorem Zu {α:Type} {nr:Nat->Nat} {f:Nat->Nat->α}:∀ {i:Nat},(Q9x nr f i).length=base nr i
 |0=>rfl
 |i+1=>by rw [Q9x,List.length_append,Zu,base,Qje,List.length_range]
theorem LJ {nr:Nat->Nat} {i:Nat}:∀ {j:Nat},i<j->base nr i+nr i<=base nr j
 |0,h=>by omega
 |j+1,h=>by
  rw [base];by_cases ac:i=j
  ·subst ac;omega
  ·have:=LJ (nr:=nr) (i:=i) (j:=j) (by omega);omega
theorem Q0M {α:Type} {nr:Nat->Nat} {f:Nat->Nat->α} {i k:Nat} (hk:k<nr i):∀ {L:Nat},i<L->(Q9x nr f L)[base nr i+k]? = some (f i k)
 |0,h=>by omega
 |L+1,h=>by
  rw [Q9x];by_cases ac:i=L
  ·subst ac;rw [QjI (by rw [Zu];omega),Zu,Nat.add_sub_cancel_left,QjO,List.getElem?_range hk];rfl
  ·have:=LJ (nr:=nr) (i:=i) (j:=L) (by omega);rw [QjL (by rw [Zu];omega)];exact Q0M hk (by omega)
theorem Q5R {nr:Nat->Nat} {a:Nat}:∀ {L:Nat},a<base nr L->∃ i k,i<L/\k<nr i/\a=base nr i+k
 |0,h=>by simp [base] at h
 |L+1,h=>by
  rw [base] at h;by_cases ha:a<base nr L
  ·obtain ⟨i,k,c,h2,b⟩:=Q5R ha;exact ⟨i,k,by omega,h2,b⟩
  ·exact ⟨L,a-base nr L,by omega,by omega,by omega⟩
def GI (Ls:LL) (i:Nat):LL:=match Ls[i]? with
 |some [_,_,_,.sl _ r]=>r
 |_=>[]
def wOf (Ls:LL) (i:Nat):Int:=match Ls[i]? with
 |some [_,_,.int _ w,_]=>w
 |_=>0
def rF (Ls:LL) (i k j:Nat):Int:=match ((GI Ls i).getD k [])[j]? with
 |some (.int _ x)=>x
 |_=>0
def Qgb (Ro:LL) (r:Int):LL:=match Ro[r.toNat]? with
 |some [.sl _ s,_]=>s
 |_=>[]
structure Cx where
 G:Geo
 Ro:LL
 Ls:LL
 T:List Tup
 nm:List UInt8
 tl:Int
 sp:Int
 ac:Int
 br:Int
namespace Cx
variable (X:Cx)
def nr (i:Nat):Nat:=(GI X.Ls i).length
def w (i:Nat):Int:=wOf X.Ls i
def ex (i k:Nat):Int:=rF X.Ls i k 1
def mn (i k:Nat):Int:=rF X.Ls i k 2
def mx (i k:Nat):Int:=rF X.Ls i k 3
def st (i k:Nat):LL:=Qgb X.Ro (rF X.Ls i k 0)
def rn (i k:Nat):Run:=YS X.G.Se (X.st i k) X.nm X.tl X.sp X.ac X.br
def tn (i:Nat):Option Tup:=X.T.find? fun t=>t.1 == i
def rest (i:Nat):Int:=match X.tn i with
 |some t=>if 60<t.2.2.2 then t.2.2.2 else 60
 |none=>60
def bf (k:Nat):Int:=if k=0 then 60 else 0
def af (i k:Nat):Int:=if k=X.nr i-1 then X.ex i k+X.rest i else X.ex i k+X.mx i k
def occ (i k:Nat):List Occ:=Q4r X.G.St X.G.Pt X.G.Se X.G.Li (X.st i k) (X.rn i k) (bf k) (X.af i k)
def run (i k:Nat):Int:=AE (X.rn i k)
def L:Nat:=X.Ls.length
structure OK:Prop where
 g:X.G.OK
 sk:StkN X.tl X.sp X.ac X.br
 gd:GoodP X.G X.Ro X.Ls
 l0:1<=X.Ls.length
 l1:X.Ls.length<=3
 tr:∀ t∈X.T,Q8J X.G X.Ro X.Ls t
 fd:(X.T.map (·.1)).Nodup
 td:(X.T.map (·.2.1)).Nodup
 tl:X.T.length<=20
structure RdOK (i k:Nat):Prop where
 row:(GI X.Ls i)[k]? = some [Q4 (rF X.Ls i k 0),Q4 (X.ex i k),Q4 (X.mn i k),Q4 (X.mx i k)]
 ro:Q1 X.Ro (rF X.Ls i k 0)=some [D.sl 2 (X.st i k),Q4 0]
 rt:RtF X.G.St X.G.Pt X.G.Se X.G.Li (X.st i k)
 ex0:0<=X.ex i k
 ex1:X.ex i k<3
 mn0:0<=X.mn i k
 mn1:X.mn i k<=X.mx i k
 mn2:X.mx i k<=X.mn i k+3
 mn3:X.mn i k<=10
variable {X} (h:X.OK)
include h
theorem H9 {i:Nat} (hi:i<X.Ls.length):X.Ls[i]? = some [D.str (nmN i),Q4 0,Q4 (X.w i),D.sl 4 (GI X.Ls i)]/\(X.nr i=1\/X.nr i=2)/\(0<=X.w i/\X.w i<4):=by
 obtain ⟨w,rides,b,h2,c,a⟩:=h.gd.ls i _ (Qjh hi);have er:GI X.Ls i=rides:=by grind [GI]
 have ew:X.w i=w:=by grind [Cx.w,wOf]
 refine ⟨by simp_all,?_,by omega⟩;unfold nr;rw [er];rcases a with ⟨r,x,y,rfl,_⟩ | ⟨r,r',x,y,z,rfl,_,_⟩
 all_goals simp
theorem rd {i k:Nat} (hi:i<X.Ls.length) (hk:k<X.nr i):X.RdOK i k:=by
 obtain ⟨w,rides,j,h2,l,d⟩:=h.gd.ls i _ (Qjh hi);have e:X.Ls[i]? = some [D.str (nmN i),Q4 0,Q4 w,D.sl 4 rides]:=by simp_all
 have er:GI X.Ls i=rides:=by grind [GI]
 have hr:∃ r x y b,rides[k]? = some r/\TH X.G X.Ro r x y b:=by
  unfold nr at hk;rw [er] at hk;rcases d with ⟨r,x,y,rfl,h⟩ | ⟨r,r',x,y,z,rfl,h,h'⟩
  all_goals grind
 obtain ⟨r,x,y,b,hr,rt,ex,mn,mx,s,rfl,c,f,m,n,o⟩:=hr;have eg:(GI X.Ls i).getD k []=[Q4 rt,Q4 ex,Q4 mn,Q4 mx]:=by simp_all
 have a:rF X.Ls i k 0=rt:=by grind [rF]
 have e1:X.ex i k=ex:=by grind [Cx.ex,rF]
 have e2:X.mn i k=mn:=by unfold Cx.mn rF;rw [eg];rfl
 have g:X.mx i k=mx:=by unfold Cx.mx rF;rw [eg];rfl
 have es:X.st i k=s:=by unfold st Qgb;rw [a,Int.toNat_natCast,c]
 exact ⟨by rw [a,e1,e2,g,er,hr],by rw [a,es,Qe,c],by rw [es];exact f.f h.g,by omega,by omega,by omega,by omega,by omega,by omega⟩
theorem Q0G {i:Nat}:60<=X.rest i/\X.rest i<=60:=by
 unfold rest;cases e:X.tn i with
 |none=>simp_all
 |some t=>
  have:=h.tr t (QjM e);have a:=this.2.2.2.1;have h2:=this.2.2.2.2.2.1
  grind
theorem Qgz {i k:Nat} (hi:i<X.Ls.length) (hk:k<X.nr i):(0<=bf k/\bf k<=60)/\0<=X.af i k/\X.af i k<=5000:=by
 have r:=rd h hi hk;have:=Q0G h (i:=i);have:=r.ex0;have:=r.ex1;have:=r.mn0;have:=r.mn1;have:=r.mn2;have:=r.mn3
 grind [bf,af]
theorem Qgu {i k:Nat} (hi:i<X.Ls.length) (hk:k<X.nr i):ZV 400 X.G.St X.G.Pt X.G.Se X.G.Li (X.st i k) 0 X.nm X.tl X.sp X.ac X.br (bf k) (X.af i k) Tu3=some ((X.occ i k).map enc,X.run i k,0):=by
 have b:=Qgz h hi hk;exact Qel (rd h hi hk).rt h.sk b.1.1 (by omega) b.2.1 (by omega)
theorem QfV {i k:Nat} (hi:i<X.Ls.length) (hk:k<X.nr i):H8 400 X.G.St X.G.Pt X.G.Se X.G.Li (X.st i k) 0 X.nm X.tl X.sp X.ac X.br (bf k) (X.af i k) Tu3=some ((X.occ i k).map enc,X.run i k,0):=by
 have b:=Qgz h hi hk;exact QfQ (rd h hi hk).rt h.sk b.1.1 (by omega) b.2.1 (by omega)
theorem Qe9 {i k:Nat} (hi:i<X.Ls.length) (hk:k<X.nr i):OL (-1) (X.occ i k)/\(X.occ i k).length<=6:=by
 have b:=Qgz h hi hk;exact Q9d (rd h hi hk).rt h.sk b.1.1 b.1.2 b.2.1 b.2.2
theorem SB {i k:Nat} (hi:i<X.Ls.length) (hk:k<X.nr i):0<=X.run i k/\X.run i k<=7001:=ND (rd h hi hk).rt h.sk
theorem base_le:base X.nr X.L<=6:=by
 have a:=h.l1;have hb:∀ i,i<=X.Ls.length->base X.nr i<=2*i:=by
  intro i;induction i with
  |zero=>intro _;exact Qjn _
  |succ i ih=>
   intro hi;have:=(H9 h (i:=i) (by omega)).2.1
   grind [base]
 grind [L]
end Cx
theorem PlanR.cx {G:Geo} {per:Int} {Sk Ro Ls Ch Tu Sy De:LL} (h:PlanR G per Sk Ro Ls Ch Tu Sy De):∃ X:Cx,X.OK/\X.G=G/\X.Ro=Ro/\X.Ls=Ls/\Tu=X.T.map tuR/\Sk=[[D.str X.nm,Q4 X.tl,Q4 X.sp,Q4 X.ac,Q4 X.br]]:=by
 obtain ⟨T,hT,t1,t2,e,f⟩:=h.tu;obtain ⟨a,b,c,d,hS,hs⟩:=h.sk;exact ⟨⟨G,Ro,Ls,T,bs [88],a,b,c,d⟩,⟨h.ok,hs,h.good,h.l0,h.l1,t1,t2,e,f⟩,rfl,rfl,rfl,hT,hS⟩
def GG (L:List (List Occ)):LL:=L.map fun o=>[D.sl 3 (o.map enc)]
theorem Vn {L:List (List Occ)} {o:List Occ}:GG L++[[D.sl 3 (o.map enc)]]=GG (L++[o]):=by simp [GG]
theorem Vp {L:List Int} {x:Int}:encI L++[[D.int .i64 x]]=encI (L++[x]):=by simp [encI]
theorem J4 {L:List (List Occ)}:(GG L).length=L.length:=by simp [GG]
theorem Zq {α:Type} {A:List α} {f:Nat->α} {k:Nat}:A++(List.range k).map f++[f k]=A++(List.range (k+1)).map f:=by simp [List.range_succ]
namespace Cx
variable {R:Type} {n:Nat} {X:Cx} (h:X.OK)
theorem Q92 {T:List Tup} (hT:T.length<=1000) {i:Nat} {k0:Int->oP R} {k1:Int->Bool->oP R} {E:oP R} (hk:∀ a b,k1 a b=E):∀ (ac:List Tup) (j m:Nat),T.drop j=ac->ac.length<m->UX n (i:Int) (T.map tuR) ((T.length:Nat):Int) k0 k1 m (j:Int)=(match ac.find? (fun t=>t.1 == i) with | some t=>k0 (if 60<t.2.2.2 then t.2.2.2 else 60) | none=>E)
 |[],j,m+1,hd,_=>by
  have:=Ua hd;rw [UX,show decide ((j:Int)<((T.length:Nat):Int))=false by simpa using this,Qjc,hk];rfl
 |(a,b,lo,hi)::ac,j,m+1,hd,hm=>by
  obtain ⟨e,aj,hj⟩:=Yh hd;rw [UX,Qc hj,cond_true,QL e];simp -implicitDefEqProofs only [Q0,tuR,Qjb,Qjd,Q2,Qs (show j<=1000 by omega)];rw [List.find?_cons];by_cases ha:a=i
  ·subst ha;rw [show ((a:Int) == (a:Int))=true by simp,cond_true,show ((a,b,lo,hi).1 == a)=true by simp]
  ·rw [show ((a:Int) == (i:Int))=false by simp;omega,Qjc,show ((a,b,lo,hi).1 == i)=false by simpa using ha];exact Q92 hT hk ac (j+1) m aj (by simpa using hm)
theorem Q9f {T:List Tup} (hT:T.length<=1000) {i:Nat} {k0:D->D->D->D->oP R} {k1:Int->Bool->oP R} {E:oP R} (hk:∀ a b,k1 a b=E):∀ (ac:List Tup) (j m:Nat),T.drop j=ac->ac.length<m->VZ n (i:Int) (T.map tuR) k0 k1 m (j:Int)=(match ac.find? (fun t=>t.1 == i) with | some t=>k0 (Q4 t.1) (Q4 t.2.1) (Q4 t.2.2.1) (Q4 t.2.2.2) | none=>E)
 |[],j,m+1,hd,_=>by
  have:=Ua hd;rw [VZ,Qje,show decide ((j:Int)<((T.length:Nat):Int))=false by simpa using this,Qjc,hk];rfl
 |(a,b,lo,hi)::ac,j,m+1,hd,hm=>by
  obtain ⟨e,aj,hj⟩:=Yh hd;rw [VZ,Qje,Qc hj,cond_true,QL e];simp -implicitDefEqProofs only [Q0,tuR,Qjb,Qjd,Q2,Qs (show j<=1000 by omega)];rw [List.find?_cons];by_cases ha:a=i
  ·subst ha;rw [show ((a:Int) == (a:Int))=true by simp,cond_true,show ((a,b,lo,hi).1 == a)=true by simp]
  ·rw [show ((a:Int) == (i:Int))=false by simp;omega,Qjc,show ((a,b,lo,hi).1 == i)=false by simpa using ha];exact Q9f hT hk ac (j+1) m aj (by simpa using hm)
def skR (X:Cx):LL:=[[D.str X.nm,Q4 X.tl,Q4 X.sp,Q4 X.ac,Q4 X.br]]
include h
theorem QgM {per:Int} {Sk Ro Ls Ch Sy De:LL} {i:Nat}:KO 400 per Sk Ro Ls Ch (X.T.map tuR) Sy De (i:Int) (some:Int->Option Int)=some (X.rest i):=by
 unfold KO;rw [Qje];have:=Q92 (n:=400) (T:=X.T) (i:=i) (k0:=(some:Int->Option Int)) (k1:=fun _ _=>some 60) (by have:=h.tl;omega) (fun _ _=>rfl) X.T 0 400 rfl (by have:=h.tl;omega);refine this.trans ?_;unfold rest tn;cases X.T.find? fun t=>t.1 == i <;> rfl
theorem QbZ {i:Nat} (K:D->D->D->D->Bool->oP R):PX 400 (X.T.map tuR) (i:Int) K=(match X.tn i with | some t=>K (Q4 t.1) (Q4 t.2.1) (Q4 t.2.2.1) (Q4 t.2.2.2) true | none=>K (Q4 0) (Q4 0) (Q4 0) (Q4 0) false):=
 Q9f (n:=400) (T:=X.T) (i:=i) (k0:=fun a b c d=>K a b c d true) (k1:=fun _ _=>K (Q4 0) (Q4 0) (Q4 0) (Q4 0) false) (by have:=h.tl;omega) (fun _ _=>rfl) X.T 0 400 rfl (by have:=h.tl;omega)
theorem QbF {per:Int} {Ch Sy De:LL} {i:Nat} (hi:i<X.Ls.length) {A:List (List Occ)} {B:List Int} (hA:A.length<=100) (hB:B.length<=100) {k0:Int->oP R} {K:LL->LL->oP R} {k1:Int->Bool->LL->LL->oP R} (hk:∀ a b u v,k1 a b u v=K u v) :
  XZ 400 (i:Int) (GI X.Ls i) ((X.nr i:Nat):Int) X.G.St X.G.Pt X.G.Se X.G.Li per X.skR X.Ro X.Ls Ch (X.T.map tuR) Sy De (Q4 0) (D.sl 4 (GI X.Ls i)) k0 k1 400 0 (GG A) (encI B)=K (GG (A++(List.range (X.nr i)).map (X.occ i))) (encI (B++(List.range (X.nr i)).map (X.run i))):=by
 have hl:=(H9 h hi).2.1;refine Qv (r:=fun m k=>XZ 400 (i:Int) (GI X.Ls i) ((X.nr i:Nat):Int) X.G.St X.G.Pt X.G.Se X.G.Li per X.skR X.Ro X.Ls Ch (X.T.map tuR) Sy De (Q4 0) (D.sl 4 (GI X.Ls i)) k0 k1 m k (GG (A++(List.range k.toNat).map (X.occ i))) (encI (B++(List.range k.toNat).map (X.run i)))) (N:=X.nr i) (fun m k hk=>?_) (fun m=>?_) (X.nr i) 400 0 (by omega) (by omega) |> QjN (by simp)
 ·simp only [Int.toNat_natCast];have r:=rd h hi hk;have rr:=Q0G h (i:=i);have j:=r.ex0;have e1:=r.ex1;have e2:=r.mn0;have l:=r.mn1;have n:=r.mn2;have o:=r.mn3;have hh:=Qgu h hi hk;have an:Q1 (GI X.Ls i) (k:Int)=some [Q4 (rF X.Ls i k 0),Q4 (X.ex i k),Q4 (X.mn i k),Q4 (X.mx i k)]:=by rw [Qe,r.row]
  have ao:Q1 X.skR 0=some [D.str X.nm,Q4 X.tl,Q4 X.sp,Q4 X.ac,Q4 X.br]:=rfl;have ar:=r.ro;have hw:wJ (((List.length (GI X.Ls i):Nat):Int)-1)=((X.nr i-1:Nat):Int):=Jq (k:=X.nr i) (by omega) (by omega);have d:Yf (((GG (A++(List.range k).map (X.occ i))).length+List.length [[D.sl 3 ((X.occ i k).map enc)]])*24)=some ():=XF (by simp [J4];omega);have e:Yf (((encI (B++(List.range k).map (X.run i))).length+List.length [[D.int .i64 (X.run i k)]])*8)=some ():=XF (by simp [Xg];omega);have ak:=QgM h (per:=per) (Sk:=X.skR) (Ro:=X.Ro) (Ls:=X.Ls) (Ch:=Ch) (Sy:=Sy) (De:=De) (i:=i);have aq:((k:Int) == ((X.nr i-1:Nat):Int))=decide (k=X.nr i-1):=by
   by_cases hc:k=X.nr i-1
   ·rw [Qjg hc];simp;omega
   ·rw [decide_eq_false hc];simp;omega
  have f:((k:Int) == 0)=decide (k=0):=by
   by_cases hc:k=0
   ·rw [Qjg hc];simp;omega
   ·rw [decide_eq_false hc];simp;omega
  have w1:wJ (X.ex i k+X.rest i)=X.ex i k+X.rest i:=Q7 (by omega) (by omega);have g:wJ (X.ex i k+X.mx i k)=X.ex i k+X.mx i k:=Q7 (by omega) (by omega);rw [XZ,Qc hk,cond_true,an];simp -implicitDefEqProofs only [Q0,Qjb,Qjd,Q2,QH,Xx,hw,aq,f,ak,ar,ao,w1,g,Qs (show k<=1000 by omega)];unfold bf af at hh;by_cases c1:k=0 <;> by_cases c:k=X.nr i-1
  ·simp -implicitDefEqProofs only [if_pos c1,if_pos c] at hh;simp -implicitDefEqProofs only [Qjg c1,Qjg c,cond_true,hh,Q0,show ((0:Int) != 0)=false from rfl,Qjc,d,e,Vn,Vp,Zq]
  ·simp -implicitDefEqProofs only [if_pos c1,Qjy c] at hh;simp -implicitDefEqProofs only [Qjg c1,decide_eq_false c,cond_true,hh,Q0,show ((0:Int) != 0)=false from rfl,Qjc,d,e,Vn,Vp,Zq]
  ·simp -implicitDefEqProofs only [Qjy c1,if_pos c] at hh;simp -implicitDefEqProofs only [decide_eq_false c1,Qjg c,cond_true,hh,Q0,show ((0:Int) != 0)=false from rfl,Qjc,d,e,Vn,Vp,Zq]
  ·simp -implicitDefEqProofs only [Qjy c1,Qjy c] at hh;simp -implicitDefEqProofs only [decide_eq_false c1,decide_eq_false c,cond_true,hh,Q0,show ((0:Int) != 0)=false from rfl,Qjc,d,e,Vn,Vp,Zq]
 ·simp only [Int.toNat_natCast];rw [XZ,Qi,Qjc,hk]
end Cx
namespace Cx
variable {R:Type} {n:Nat} {X:Cx} (h:X.OK)
include h
theorem Qb5 {per:Int} {Sk Ch Tu Sy De:LL} {i k:Nat} (hi:i<X.Ls.length) (hk:k<X.nr i) (K:D->D->oP R):XY n per Sk X.Ro X.Ls Ch Tu Sy De (i:Int) (k:Int) K=K (D.sl 2 (X.st i k)) (Q4 0):=by
 have r:=rd h hi hk;unfold XY;rw [Qe,(H9 h hi).1];simp -implicitDefEqProofs only [Q0,Qjb,Qjd,Q2,QH,Qe,r.row,r.ro]
theorem Qd0 {per:Int} {Ch Sy De:LL} {i:Nat} (hi:i<X.Ls.length) {A:List (List Occ)} {B:List Int} (hA:A.length<=100) (hB:B.length<=100) {K:LL->LL->oP R} {k1:Int->Bool->LL->LL->oP R} (hk:∀ a b u v,k1 a b u v=K u v) :
  Yz 400 (i:Int) X.G.St X.G.Pt X.G.Se X.G.Li per X.skR X.Ro X.Ls Ch (X.T.map tuR) Sy De (Q4 0) (D.sl 4 (GI X.Ls i)) k1 400 0 (GG A) (encI B)=K (GG (A++(List.range (X.nr i)).map (X.occ i))) (encI (B++(List.range (X.nr i)).map (X.run i))):=by
 have hl:=(H9 h hi).2.1;refine Qv (r:=fun m k=>Yz 400 (i:Int) X.G.St X.G.Pt X.G.Se X.G.Li per X.skR X.Ro X.Ls Ch (X.T.map tuR) Sy De (Q4 0) (D.sl 4 (GI X.Ls i)) k1 m k (GG (A++(List.range k.toNat).map (X.occ i))) (encI (B++(List.range k.toNat).map (X.run i)))) (N:=X.nr i) (fun m k hk=>?_) (fun m=>?_) (X.nr i) 400 0 (by omega) (by omega) |> QjN (by simp)
 ·simp only [Int.toNat_natCast];have r:=rd h hi hk;have rr:=Q0G h (i:=i);have x:=r.ex0;have e1:=r.ex1;have e2:=r.mn0;have y:=r.mn1;have z:=r.mn2;have e5:=r.mn3;have hh:=QfV h hi hk;have ao:Q1 (GI X.Ls i) (k:Int)=some [Q4 (rF X.Ls i k 0),Q4 (X.ex i k),Q4 (X.mn i k),Q4 (X.mx i k)]:=by rw [Qe,r.row]
  have aq:Q1 X.skR 0=some [D.str X.nm,Q4 X.tl,Q4 X.sp,Q4 X.ac,Q4 X.br]:=rfl;have hw:wJ (((List.length (GI X.Ls i):Nat):Int)-1)=((X.nr i-1:Nat):Int):=Jq (k:=X.nr i) (by omega) (by omega);have d:Yf (((GG (A++(List.range k).map (X.occ i))).length+List.length [[D.sl 3 ((X.occ i k).map enc)]])*24)=some ():=XF (by simp [J4];omega);have f:Yf (((encI (B++(List.range k).map (X.run i))).length+List.length [[D.int .i64 (X.run i k)]])*8)=some ():=XF (by simp [Xg];omega);have g:((k:Int) == 0)=decide (k=0):=by
   by_cases hc:k=0
   ·rw [Qjg hc];simp;omega
   ·rw [decide_eq_false hc];simp;omega
  have j:decide ((k:Int)<((X.nr i-1:Nat):Int)) = !decide (k=X.nr i-1):=by
   by_cases hc:k=X.nr i-1
   ·rw [Qjg hc];exact decide_eq_false (by omega)
   ·rw [decide_eq_false hc];exact Qjg (by omega)
  have w1:wJ (X.ex i k+60)=X.ex i k+60:=Q7 (by omega) (by omega);have l:wJ (X.ex i k+X.mx i k)=X.ex i k+X.mx i k:=Q7 (by omega) (by omega);have o:∀ t,X.tn i=some t->wJ (X.ex i k+(if 60<t.2.2.2 then t.2.2.2 else 60))=X.ex i k+X.rest i:=fun t ht=>by
   have e:X.rest i=if 60<t.2.2.2 then t.2.2.2 else 60:=by unfold rest;rw [ht]
   rw [<- e];exact Q7 (by omega) (by omega)
  have p:X.tn i=none->wJ (X.ex i k+60)=X.ex i k+X.rest i:=fun ht=>by rw [w1];unfold rest;rw [ht]
  have ar:∀ K':D->D->oP R,XY 400 per X.skR X.Ro X.Ls Ch (X.T.map tuR) Sy De (i:Int) (k:Int) K'=K' (D.sl 2 (X.st i k)) (Q4 0):=fun K'=>Qb5 h hi hk K'
  have an:=Qb5 (n:=400) h (per:=per) (Sk:=X.skR) (Ch:=Ch) (Tu:=X.T.map tuR) (Sy:=Sy) (De:=De) hi hk Tu2;rw [Yz,QH,Q0,show ((GI X.Ls i).length:Int)=((X.nr i:Nat):Int) from rfl,Qc hk,cond_true];unfold bf af at hh;cases ht:X.tn i with
  |some t=>
   simp -implicitDefEqProofs only [jn,Q0,Qjb,Qjd,Q2,QH,Xx,ao,hw,g,j,QbZ h,ht,l,o t ht,aq,an,cond_true,Qs (show k<=1000 by omega)];by_cases c1:k=0 <;> by_cases c:k=X.nr i-1
   ·simp -implicitDefEqProofs only [if_pos c1,if_pos c] at hh;simp -implicitDefEqProofs only [Qjg c1,Qjg c,Qjp,Qjc,cond_true,hh,Q0,d,f,Vn,Vp,Zq]
   ·simp -implicitDefEqProofs only [if_pos c1,Qjy c] at hh;simp -implicitDefEqProofs only [Qjg c1,decide_eq_false c,Qjv,Qjc,cond_true,hh,Q0,d,f,Vn,Vp,Zq]
   ·simp -implicitDefEqProofs only [Qjy c1,if_pos c] at hh;simp -implicitDefEqProofs only [decide_eq_false c1,Qjg c,Qjp,Qjc,cond_true,hh,Q0,d,f,Vn,Vp,Zq]
   ·simp -implicitDefEqProofs only [Qjy c1,Qjy c] at hh;simp -implicitDefEqProofs only [decide_eq_false c1,decide_eq_false c,Qjv,Qjc,cond_true,hh,Q0,d,f,Vn,Vp,Zq]
  |none=>
   simp -implicitDefEqProofs only [jn,Q0,Qjb,Qjd,Q2,QH,Xx,ao,hw,g,j,QbZ h,ht,l,p ht,aq,an,Qjc,Qs (show k<=1000 by omega)];by_cases c1:k=0 <;> by_cases c:k=X.nr i-1
   ·simp -implicitDefEqProofs only [if_pos c1,if_pos c] at hh;simp -implicitDefEqProofs only [Qjg c1,Qjg c,Qjp,Qjc,cond_true,hh,Q0,d,f,Vn,Vp,Zq]
   ·simp -implicitDefEqProofs only [if_pos c1,Qjy c] at hh;simp -implicitDefEqProofs only [Qjg c1,decide_eq_false c,Qjv,Qjc,cond_true,hh,Q0,d,f,Vn,Vp,Zq]
   ·simp -implicitDefEqProofs only [Qjy c1,if_pos c] at hh;simp -implicitDefEqProofs only [decide_eq_false c1,Qjg c,Qjp,Qjc,cond_true,hh,Q0,d,f,Vn,Vp,Zq]
   ·simp -implicitDefEqProofs only [Qjy c1,Qjy c] at hh;simp -implicitDefEqProofs only [decide_eq_false c1,decide_eq_false c,Qjv,Qjc,cond_true,hh,Q0,d,f,Vn,Vp,Zq]
 ·simp only [Int.toNat_natCast];rw [Yz,QH,Q0,show ((GI X.Ls i).length:Int)=((X.nr i:Nat):Int) from rfl,Qi,Qjc,hk]
omit h in
def occs (X:Cx) (i:Nat):List (List Occ):=Q9x X.nr X.occ i
omit h in
def runs (X:Cx) (i:Nat):List Int:=Q9x X.nr X.run i
theorem Ye {i:Nat} (hi:i<=X.Ls.length):base X.nr i<=6:=by
 have a:=base_le h;by_cases hc:i=X.Ls.length
 ·rw [hc];exact a
 ·have:=LJ (nr:=X.nr) (i:=i) (j:=X.Ls.length) (by omega);unfold L at a;omega
theorem Qey {per:Int} {Ch Sy De:LL} (hc:J9 400 X.G.St X.G.Pt X.G.Se X.G.Li per X.skR X.Ro X.Ls Ch (X.T.map tuR) Sy De (some:Int->Option Int)=some 0):HN 400 X.G.St X.G.Pt X.G.Se X.G.Li per X.skR X.Ro X.Ls Ch (X.T.map tuR) Sy De Tu3=some (GG (X.occs X.L),encI (X.runs X.L),(0:Int)):=by
 have l1:=h.l1;unfold HN;rw [hc,Q0,Q9 (by rfl)];refine Qv (r:=fun m i=>ZF 400 X.Ls ((X.Ls.length:Nat):Int) X.G.St X.G.Pt X.G.Se X.G.Li per X.skR X.Ro X.Ls Ch (X.T.map tuR) Sy De (fun a=>some ([],[],a)) (fun g j b c=>some (b,c,(0:Int))) m i (GG (X.occs i.toNat)) (encI (X.runs i.toNat))) (N:=X.Ls.length) (fun m i hi=>?_) (fun m=>?_) X.Ls.length 400 0 (by omega) (by omega)
 ·simp only [Int.toNat_natCast];have hb:=Ye h (i:=i) (by omega);rw [ZF,Qc hi,cond_true,Qe,(H9 h hi).1];simp -implicitDefEqProofs only [Q0,Qjb,Qjd,QH,Qs (show i<=1000 by omega)];exact QbF h hi (A:=X.occs i) (B:=X.runs i) (by unfold occs;rw [Zu];omega) (by unfold runs;rw [Zu];omega) (K:=fun u v=>ZF 400 X.Ls ((X.Ls.length:Nat):Int) X.G.St X.G.Pt X.G.Se X.G.Li per X.skR X.Ro X.Ls Ch (X.T.map tuR) Sy De (fun a=>some ([],[],a)) (fun g j b c=>some (b,c,(0:Int))) m ((i+1:Nat):Int) u v) (fun _ _ _ _=>rfl)
 ·simp only [Int.toNat_natCast];rw [ZF,Qi,Qjc];rfl
theorem Qeo {per:Int} {Ch Sy De:LL} (hc:Uk 400 X.G.St X.G.Pt X.G.Se X.G.Li per X.skR X.Ro X.Ls Ch (X.T.map tuR) Sy De (some:Int->Option Int)=some 0):SI 400 X.G.St X.G.Pt X.G.Se X.G.Li per X.skR X.Ro X.Ls Ch (X.T.map tuR) Sy De Tu3=some (GG (X.occs X.L),encI (X.runs X.L),(0:Int)):=by
 have l1:=h.l1;unfold SI;rw [hc,Q0,Q9 (by rfl)];refine Qv (r:=fun m i=>UE 400 X.G.St X.G.Pt X.G.Se X.G.Li per X.skR X.Ro X.Ls Ch (X.T.map tuR) Sy De (fun f g a b=>some (a,b,(0:Int))) m i (GG (X.occs i.toNat)) (encI (X.runs i.toNat))) (N:=X.Ls.length) (fun m i hi=>?_) (fun m=>?_) X.Ls.length 400 0 (by omega) (by omega)
 ·simp only [Int.toNat_natCast];have hb:=Ye h (i:=i) (by omega);rw [UE,Qc hi,cond_true,Qe,(H9 h hi).1];simp -implicitDefEqProofs only [Q0,Qjb,Qjd,QH,Qs (show i<=1000 by omega)];exact Qd0 h hi (A:=X.occs i) (B:=X.runs i) (by unfold occs;rw [Zu];omega) (by unfold runs;rw [Zu];omega) (K:=fun u v=>UE 400 X.G.St X.G.Pt X.G.Se X.G.Li per X.skR X.Ro X.Ls Ch (X.T.map tuR) Sy De (fun f g a b=>some (a,b,(0:Int))) m ((i+1:Nat):Int) u v) (fun _ _ _ _=>rfl)
 ·simp only [Int.toNat_natCast];rw [UE,Qi,Qjc];rfl
end Cx
end Go.Vx
namespace Go.Vx
variable {R:Type} (n:Nat)
def GH (k l m o:LL) (d:Int) (p q e i g j r:LL) (K:Int->LL->LL->Int->oP R):oP R:= gb true (J9 n k l m o d p q e i g j r some) 0 fun a=>bif (a != 0) then K 0 [] [] 1 else gb true (Yv n e [] [] Tu2) ([],[]) fun b=>bif (decide ((b.2.length:Int)>48)) then K 0 [] [] 7 else gb true (HN n k l m o d p q e i g j r Tu3) ([],[],0) fun c=>bif (c.2.2 != 0) then K 0 [] [] c.2.2 else gb true (YA n e g b.1 c.2.1 [] some) [] fun s=>gb true (ZB n d c.1 s some) false fun t=>bif !t then K 0 [] [] 13 else gb true (Ym n e i g j b.1 c.2.1 [] some) [] fun r6=>gb true (Yd n d c.1 s r6 Tu2) (0,[]) fun h=>bif (h.1 != 0) then K 0 [] [] h.1 else bif (decide ((h.2.length:Int)>512)) then K 0 [] [] 7 else K d b.2 h.2 0
end Go.Vx
namespace Go.Vx
namespace Cx
variable (X:Cx)
def evl (i:Nat):Nat->LL
 |0=>[]
 |k+1=>evl i k++[[Q4 1,Q4 i,Q4 k],[Q4 2,Q4 i,Q4 k]]
def evs:Nat->LL
 |0=>[]
 |i+1=>evs i++evl i (X.nr i)
theorem Q1u {i:Nat}:∀ {k:Nat},(evl i k).length=2*k
 |0=>rfl
 |k+1=>by rw [evl,List.length_append,Q1u];simp;omega
variable {X}
theorem evs_len:∀ {i:Nat},(X.evs i).length=2*base X.nr i
 |0=>rfl
 |i+1=>by rw [evs,List.length_append,evs_len,Q1u,base];omega
def fst (X:Cx) (i:Nat):LL:=encI ((List.range i).map fun j=>(base X.nr j:Int))
theorem Q6d {i L:Nat} (h:i<L):Q1 (X.fst L) (i:Int)=some [Q4 (base X.nr i)]:=HM (by simp [h])
variable {R:Type} {n:Nat} (h:X.OK)
include h
theorem QbS (K:LL->LL->oP R):Yv 400 X.Ls [] [] K=K (X.fst X.L) (X.evs X.L):=by
 have l1:=h.l1;unfold Yv;refine Qv (r:=fun m i=>QK 400 X.Ls ((X.Ls.length:Nat):Int) (fun _ _ u v=>K u v) m i (X.fst i.toNat) (X.evs i.toNat)) (N:=X.Ls.length) (fun m i hi=>?_) (fun m=>?_) X.Ls.length 400 0 (by omega) (by omega)
 ·simp only [Int.toNat_natCast];have hb:=Ye h (i:=i) (by omega);have hl:=(H9 h hi).2.1;have e1:wJ (Int.tdiv ((2*base X.nr i:Nat):Int) 2)=(base X.nr i:Int):=by
   rw [Int.tdiv_eq_ediv_of_nonneg (by omega),Q7 (by omega) (by omega)];omega
  have e2:X.fst i++[[D.int .i64 (base X.nr i:Int)]]=X.fst (i+1):=by simp [fst,encI,List.range_succ]
  have a:(X.fst i).length=i:=by simp [fst,encI]
  rw [QK,Qc hi,cond_true,Qe,(H9 h hi).1];simp -implicitDefEqProofs only [Q0,Qjb,Qjd,QH,Qs (show i<=1000 by omega),EC (b:=2) (by decide),evs_len,e1,e2,XF (show ((X.fst i).length+[[D.int .i64 (base X.nr i:Int)]].length)*8<=100000 by rw [a];simp;omega)];refine Qv (r:=fun m' k=>X2 400 (i:Int) ((X.nr i:Nat):Int) (fun _ _ w=>QK 400 X.Ls ((X.Ls.length:Nat):Int) (fun _ _ u v=>K u v) m ((i+1:Nat):Int) (X.fst (i+1)) w) m' k (X.evs i++evl i k.toNat)) (N:=X.nr i) (fun m' k hk=>?_) (fun m'=>?_) (X.nr i) 400 0 (by omega) (by omega) |> QjN (by simp [evl];rfl)
  ·simp only [Int.toNat_natCast];rw [X2,Qc hk,cond_true,XF (by simp [evs_len,Q1u];omega),Q0,Qs (by omega),Qji];rfl
  ·simp only [Int.toNat_natCast];rw [X2,Qi,Qjc];rfl
 ·simp only [Int.toNat_natCast];rw [QK,Qi,Qjc];rfl
omit h in
theorem Qbf {a:Nat} (ha:a<=1000) (K:Int->oP R):Yj n (a:Int) K=K ((2*a:Nat):Int):=by
 grind [Yj,Q7]
omit h in
theorem QfI {a:Nat} (ha:a<=1000) (K:Int->oP R):Uv n (a:Int) K=K ((2*a+1:Nat):Int):=by
 grind [Uv,Q7]
theorem Q2G {i k:Nat} (hi:i<X.Ls.length) (hk:k<=10) (K:Int->oP R):XJ n (X.fst X.L) (i:Int) (k:Int) K=K ((base X.nr i+k:Nat):Int):=by
 have hb:=Ye h (i:=i) (by omega);unfold XJ
 grind [Q6d,L,Qe,fst,encI,Y0,Q0,Int.toNat_natCast,List.getElem?_cons_zero,Q2,Q7]
theorem Q02 {i k:Nat} (hi:i<X.Ls.length) (hk:k<=10) (K:Int->oP R):QX n (X.fst X.L) (i:Int) (k:Int) K=K ((base X.nr i+k:Nat):Int):=Q2G (n:=n) h hi hk K
theorem Qbp {i:Nat} (hi:i<X.Ls.length) (K:Int->oP R):ZU n X.Ls (X.fst X.L) (i:Int) K=K ((base X.nr i+(X.nr i-1):Nat):Int):=by
 have hl:=(H9 h hi).2.1;have hw:wJ (((List.length (GI X.Ls i):Nat):Int)-1)=((X.nr i-1:Nat):Int):=Jq (k:=X.nr i) (by omega) (by omega)
 grind [ZU,Qe,H9,Q0,List.getElem?_cons_zero,List.getElem?_cons_succ,QH,Q2G]
theorem QdI {i:Nat} (hi:i<X.Ls.length) (K:Int->oP R):Vb n X.Ls (X.fst X.L) (i:Int) K=K ((base X.nr i+(X.nr i-1):Nat):Int):=Qbp (n:=n) h hi K
omit h in
def j1 (X:Cx) (i k:Nat):Tup:=(base X.nr i+k,base X.nr i+(k+1),X.run i k+X.mn i k,X.run i k+X.ex i k+X.mx i k)
omit h in
def jT (X:Cx) (t:Tup):Tup:=(base X.nr t.1+(X.nr t.1-1),base X.nr t.2.1+0,X.run t.1 (X.nr t.1-1)+t.2.2.1,X.run t.1 (X.nr t.1-1)+X.ex t.1 (X.nr t.1-1)+t.2.2.2)
omit h in
def jL (X:Cx) (i:Nat):List Tup:=Q9x (fun i=>X.nr i-1) X.j1 i
omit h in
def jns (X:Cx):List Tup:=X.jL X.L++X.T.map X.jT
omit h in
theorem Q5m {i k:Nat} (hi:i<X.Ls.length) (hk:k<X.nr i):Q1 (encI (X.runs X.L)) ((base X.nr i+k:Nat):Int)=some [Q4 (X.run i k)]:=HM (Q0M hk hi)
omit h in
theorem Qea {i k:Nat} (hi:i<X.Ls.length) (hk:k<X.nr i):Q1 (GG (X.occs X.L)) ((base X.nr i+k:Nat):Int)=some [D.sl 3 ((X.occ i k).map enc)]:=QL (Q0M hk hi)
theorem QdK {i k b:Nat} (hi:i<X.Ls.length) (hk:k<X.nr i) {ex lo ac:Int} (a:0<=ex) (e1:ex<=1000) (l0:0<=lo) (l1:lo<=1000) (c:0<=ac) (d:ac<=1000) {J:List Tup} (hJ:J.length<=100) (K:LL->oP R) :
  Y3 n (encI (X.runs X.L)) (J.map tuR) ((base X.nr i+k:Nat):Int) (b:Int) ex lo ac K=K ((J++[(base X.nr i+k,b,X.run i k+lo,X.run i k+ex+ac)]).map tuR):=by
 have hr:=SB h hi hk;unfold Y3;rw [Q5m hi hk,Q0];simp -implicitDefEqProofs only [Q0,Qjb,Q2,Q7 (x:=X.run i k+lo) (by omega) (by omega),Q7 (x:=X.run i k+ex) (by omega) (by omega),Q7 (x:=X.run i k+ex+ac) (by omega) (by omega)];rw [XF (by simp;omega),Q0,Qjl];rfl
omit h in
theorem QdC {i:Nat}:(X.jL i).length=base (fun i=>X.nr i-1) i:=Zu
theorem QcK {i:Nat} (hi:i<=X.Ls.length):(X.jL i).length<=6:=by
 rw [QdC];have:∀ i,base (fun i=>X.nr i-1) i<=base X.nr i:=by
  intro i;induction i with
  |zero=>exact Qjn _
  |succ i ih=>grind [base]
 grind [Nat.le_trans,Ye]
theorem Qdi (K:LL->oP R):YA 400 X.Ls (X.T.map tuR) (X.fst X.L) (encI (X.runs X.L)) [] K=K (X.jns.map tuR):=by
 have l1:=h.l1;have tl:=h.tl;unfold YA;have s2:∀ k0:Int->Bool->LL->oP R,Qx 400 X.Ls ((X.Ls.length:Nat):Int) (X.fst X.L) (encI (X.runs X.L)) k0 400 0 []=k0 ((X.Ls.length:Nat):Int) false ((X.jL X.L).map tuR):=by
  intro k0;refine Qv (r:=fun m i=>Qx 400 X.Ls ((X.Ls.length:Nat):Int) (X.fst X.L) (encI (X.runs X.L)) k0 m i ((X.jL i.toNat).map tuR)) (N:=X.Ls.length) (fun m i hi=>?_) (fun m=>?_) X.Ls.length 400 0 (by omega) (by omega)
  ·simp only [Int.toNat_natCast];have hl:=(H9 h hi).2.1;have hJ:=QcK h (i:=i) (by omega);have hw:wJ (((List.length (GI X.Ls i):Nat):Int)-1)=((X.nr i-1:Nat):Int):=Jq (k:=X.nr i) (by omega) (by omega);have ao:(cut (GI X.Ls i) (0,X.nr i-1)).length=X.nr i-1:=by rw [L4,List.length_take];unfold nr;omega
   rw [Qx,Qc hi,cond_true,Qe,(H9 h hi).1];simp -implicitDefEqProofs only [Q0,Qjb,Qjd,QH,Qs (show i<=1000 by omega),hw,Q1c (n:=(GI X.Ls i).length) (h:=X.nr i-1) (Nat.sub_le ..),ao];refine Qv (r:=fun m' k=>Xd 400 (i:Int) (cut (GI X.Ls i) (0,X.nr i-1)) ((X.nr i-1:Nat):Int) (X.fst X.L) (encI (X.runs X.L)) (fun _ _ w=>Qx 400 X.Ls ((X.Ls.length:Nat):Int) (X.fst X.L) (encI (X.runs X.L)) k0 m ((i+1:Nat):Int) w) m' k ((X.jL i++(List.range k.toNat).map (X.j1 i)).map tuR)) (N:=X.nr i-1) (fun m' k hk=>?_) (fun m'=>?_) (X.nr i-1) 400 0 (by omega) (by omega) |> QjN (by simp)
   ·simp only [Int.toNat_natCast];have r:=rd h hi (show k<X.nr i by omega);have ak:Q1 (cut (GI X.Ls i) (0,X.nr i-1)) (k:Int)=some [Q4 (rF X.Ls i k 0),Q4 (X.ex i k),Q4 (X.mn i k),Q4 (X.mx i k)]:=by rw [L4,Qe,List.getElem?_take_of_lt hk,r.row]
    have c:=r.ex0;have e1:=r.ex1;have e2:=r.mn0;have o:=r.mn1;have p:=r.mn2;have s:=r.mn3;rw [Xd,Qc hk,cond_true,ak];simp -implicitDefEqProofs only [Q0,Qjb,Qjd,Q2,Q2G (n:=400) h hi (show k<=10 by omega),Qs (show k<=1000 by omega),Q2G (n:=400) h hi (show k+1<=10 by omega),QdK (n:=400) (b:=base X.nr i+(k+1)) h hi (show k<X.nr i by omega) c (show X.ex i k<=1000 by omega) e2 (show X.mn i k<=1000 by omega) (show 0<=X.mx i k by omega) (show X.mx i k<=1000 by omega) (J:=X.jL i++(List.range k).map (X.j1 i)) (by simp;omega)];rw [show (base X.nr i+k,base X.nr i+(k+1),X.run i k+X.mn i k,X.run i k+X.ex i k+X.mx i k)=X.j1 i k from rfl,Zq]
   ·simp only [Int.toNat_natCast];rw [Xd,Qi,Qjc];rfl
  ·simp only [Int.toNat_natCast];rw [Qx,Qi,Qjc];rfl
 rw [s2];rw [Qje];refine Qv (r:=fun m j=>Xb 400 (X.T.map tuR) ((X.T.length:Nat):Int) (X.fst X.L) X.Ls (encI (X.runs X.L)) (fun _ _ w=>K w) m j ((X.jL X.L++(X.T.take j.toNat).map X.jT).map tuR)) (N:=X.T.length) (fun m j hj=>?_) (fun m=>?_) X.T.length 400 0 (by omega) (by omega) |> QjN (by simp)
 ·simp only [Int.toNat_natCast];obtain ⟨⟨a,b,lo,ac⟩,e⟩:∃ q,X.T[j]? = some q:=⟨X.T[j],Qjh hj⟩;have ht:=h.tr _ (Qjf e);have ha:a<X.Ls.length:=ht.1;have hb:b<X.Ls.length:=ht.2.1;have t1:=ht.2.2.1;have t2:=ht.2.2.2.1;have f:=ht.2.2.2.2.1;have g:=ht.2.2.2.2.2.1;dsimp only at t1 t2 f g;have hl:=(H9 h ha).2.1;have hJ:=QcK h (i:=X.L) (Qjn _);have hw:wJ (((List.length (GI X.Ls a):Nat):Int)-1)=((X.nr a-1:Nat):Int):=Jq (k:=X.nr a) (by omega) (by omega);have r:=rd h ha (show X.nr a-1<X.nr a by omega);have c:=r.ex0;have e1:=r.ex1;rw [Xb,Qc hj,cond_true,QL e];simp -implicitDefEqProofs only [Q0,tuR,Qjb,Qjd,Q2,QH,Qe,(H9 h ha).1,hw,r.row,Qbp (n:=400) h ha,Qs (show j<=1000 by omega)];have d:=Q2G (R:=Int) (n:=400) h hb (Nat.zero_le 10) some;rw [show ((0:Nat):Int)=0 from rfl] at d;rw [d,Q0];have l:X.jL X.L++(X.T.take (j+1)).map X.jT=X.jL X.L++(X.T.take j).map X.jT++[X.jT (a,b,lo,ac)]:=by rw [YC e,Qjl,Qji];rfl
  rw [QdK (n:=400) (b:=base X.nr b+0) h ha (show X.nr a-1<X.nr a by omega) c (show X.ex a (X.nr a-1)<=1000 by omega) (show 0<=lo by omega) (show lo<=1000 by omega) (show 0<=ac by omega) (show ac<=1000 by omega) (J:=X.jL X.L++(X.T.take j).map X.jT) (by simp;omega),Q0,l];rfl
 ·simp only [Int.toNat_natCast];rw [Xb,Qi,Qjc,Qjw];rfl
end Cx
abbrev Sp2:=Int × Int
def Y7 (q:Sp2):List D:=[Q4 q.1,Q4 q.2]
def VS (t:Int):Int->List Sp2->Prop
 |_,[]=>True
 |l,(a,b)::r=>l<a/\a<b/\b<=t/\VS t b r
def InS (y:Int) (l:List Sp2):Prop:=∃ q∈l,q.1<=y/\y<q.2
def cnt:List Sp2->Int
 |[]=>0
 |(a,b)::r=>(b-a)+cnt r
theorem MY {y:Int}:¬ InS y []:=fun ⟨_,h,_⟩=>nomatch h
theorem T1 {y:Int} {q:Sp2} {l:List Sp2}:InS y (q::l)↔(q.1<=y/\y<q.2)\/InS y l:=by
 constructor
 ·rintro ⟨p,hp,h⟩;cases hp with
  |head=>exact .inl h
  |tail _ hp=>exact .inr ⟨p,hp,h⟩
 ·rintro (h | ⟨p,hp,h⟩)
  ·exact ⟨q,.head _,h⟩
  ·exact ⟨p,.tail _ hp,h⟩
theorem Q8N {y:Int} {a b:List Sp2}:InS y (a++b)↔InS y a\/InS y b:=by
 constructor
 ·rintro ⟨p,hp,h⟩;rcases Qjk.1 hp with hp | hp
  ·exact .inl ⟨p,hp,h⟩
  ·exact .inr ⟨p,hp,h⟩
 ·rintro (⟨p,hp,h⟩ | ⟨p,hp,h⟩)
  ·exact ⟨p,QjC _ hp,h⟩
  ·exact ⟨p,QjB _ hp,h⟩
theorem Q5K {y:Int} {a b:List Sp2} (h:a.Perm b):InS y a↔InS y b:=⟨fun ⟨p,hp,q⟩=>⟨p,h.mem_iff.1 hp,q⟩,fun ⟨p,hp,q⟩=>⟨p,h.mem_iff.2 hp,q⟩⟩
theorem VS.rng {t:Int}:∀ {l:Int} {s:List Sp2},VS t l s->∀ q∈s,l<q.1/\q.1<q.2/\q.2<=t
 |_,[],_,_,h=>nomatch h
 |l,(a,b)::r,⟨c,h2,d,e⟩,q,h=>by
  cases h with
  |head=>exact ⟨c,h2,d⟩
  |tail _ h=>have:=e.rng q h;exact ⟨by omega,this.2⟩
theorem VS.cnt {t:Int}:∀ {l:Int} {s:List Sp2},l<=t->VS t l s->0<=cnt s/\cnt s<=t-l/\(0<s.length->cnt s<=t-l-1)
 |l,[],h,_=>⟨QjP _,by simp only [Vx.cnt];omega,fun h=>nomatch h⟩
 |l,(a,b)::r,h,⟨e,h2,c,d⟩=>by
  have:=d.cnt c;simp only [Vx.cnt];omega
theorem Q9i {t:Int}:∀ {l:Int} {s:List Sp2},VS t l s->l<=t->∀ q∈s,q.2-q.1<=cnt s
 |_,[],_,_,_,h=>nomatch h
 |l,(a,b)::r,⟨e,h2,c,d⟩,hl,q,h=>by
  have f:=d.cnt c;cases h with
  |head=>simp only [Vx.cnt];omega
  |tail _ h=>have:=Q9i d c q h;simp only [Vx.cnt];omega
section
variable {R:Type} {n:Nat} {t:Int}
theorem Q1d (a:1<=t) (b:t<=7200) (K:Bool->oP R):UP n t K=K true:=by
 unfold UP;simp only [show decide (t>=1)=true from Qjg a,show decide (t<=7200)=true from Qjg b,cond_true]
theorem Q5G {l:List Sp2} (hl:l.length<=1000) {k0:oP R} {k1:Int->Int->Bool->oP R} {E:oP R} (hk:∀ a b c,k1 a b c=E):∀ (ac:List Sp2) (i m:Nat) (last:Int),l.drop i=ac->ac.length<m->VS t last ac->U6 n t (l.map Y7) ((l.length:Nat):Int) k0 k1 m last (i:Int)=E
 |[],i,m+1,last,hd,_,_=>by
  have:=Ua hd;rw [U6,show decide ((i:Int)<((l.length:Nat):Int))=false by simpa using this,Qjc,hk]
 |(a,b)::ac,i,m+1,last,hd,hm,⟨f,h2,g,d⟩=>by
  obtain ⟨e,aj,hi⟩:=Yh hd;rw [U6,Qc hi,cond_true,QL e];simp -implicitDefEqProofs only [Q0,Y7,Qjb,Qjd,Q2,show decide (a<=last)=false from decide_eq_false (by omega),show decide (a>=b)=false from decide_eq_false (by omega),show decide (b>t)=false from decide_eq_false (by omega),Qjc,Qs (show i<=1000 by omega)];exact Q5G hl hk ac (i+1) m b aj (by simpa using hm) d
theorem BO {l:List Sp2} (a:1<=t) (b:t<=7200) (hl:l.length<=300) (h:VS t (-1) l):Gg 400 t (l.map Y7) (some:Bool->Option Bool)=some true:=by
 unfold Gg;rw [Q1d a b,Q0,Q9 (by rfl),Qje];exact Q5G (by omega) (fun _ _ _=>rfl) l 0 400 (-1) rfl (by omega) h
theorem Q5k {l:List Sp2} (hl:l.length<=1000) {k0:Int->Int->Bool->oP R}:∀ (ac:List Sp2) (i m:Nat) (acc:Int),l.drop i=ac->ac.length<m->(∃ u,VS t u ac /\ -1<=u/\u<=t)->t<=7200->0<=acc->acc<=100000-cnt ac->∃ j b,ZI n (l.map Y7) ((l.length:Nat):Int) k0 m acc (i:Int)=k0 (acc+cnt ac) j b
 |[],i,m+1,acc,hd,_,_,_,_,_=>by
  have:=Ua hd;rw [ZI,show decide ((i:Int)<((l.length:Nat):Int))=false by simpa using this,Qjc];exact ⟨_,_,by rw [cnt,Int.add_zero]⟩
 |(a,b)::ac,i,m+1,acc,hd,hm,⟨u,⟨k,h2,d,f⟩,o,p⟩,ht,q,g=>by
  obtain ⟨e,aj,hi⟩:=Yh hd;have hc:=f.cnt d;rw [cnt] at g ⊢;rw [ZI,Qc hi,cond_true,QL e];simp -implicitDefEqProofs only [Q0,Y7,Qjb,Qjd,Q2,Pk,Q7 (x:=b-a) (by omega) (by omega),Q7 (x:=acc+(b-a)) (by omega) (by omega),Qs (show i<=1000 by omega)];obtain ⟨j,c,h⟩:=Q5k hl ac (i+1) m (acc+(b-a)) aj (by simpa using hm) ⟨b,f,by omega,d⟩ ht (by omega) (by omega);exact ⟨j,c,by rw [h,Int.add_assoc]⟩
theorem Qf2 {l:List Sp2} (c:1<=t) (a:t<=7200) (hl:l.length<=300) (h:VS t (-1) l):HX 400 t (l.map Y7) (some:Int->Option Int)=some (cnt l):=by
 have hc:=h.cnt (by omega);obtain ⟨j,b,e⟩:=Q5k (n:=400) (k0:=fun w _ _=>(some w:Option Int)) (l:=l) (by omega) l 0 400 0 rfl (by omega) ⟨-1,h,by omega,by omega⟩ a (by omega) (by omega);unfold HX;rw [BO c a hl h,Q0,Q9 (by rfl)];unfold Su;rw [Qje,show ZI 400 (l.map Y7) ((l.length:Nat):Int) (fun w _ _=>(some w:Option Int)) 400 0 0=_ from e,Q0,Int.zero_add]
theorem QfW {x:Int} (c:1<=t) (d:t<=7200) (h2 : -1000000000<=x) (f:x<=1000000000) (K:Int->oP R):Ta n x t K=K (x % t):=by
 unfold Ta;rw [Q9 (decide_eq_false (by omega)),EC (by omega),Q0];have g:=Qju x (show t≠0 by omega);have h:=Qjs x (show 0<t by omega);by_cases hx:0<=x
 ·rw [Int.tmod_eq_emod_of_nonneg hx,Q9 (decide_eq_false (by omega))]
 ·have e:Int.tmod x t = -((-x) % t):=by
   rw [show x = -(-x) by omega,Int.neg_tmod,Int.tmod_eq_emod_of_nonneg (by omega),Int.neg_neg]
  have e1:x % t=if (-x) % t=0 then 0 else t-(-x) % t:=by
   have a:=Qju (-x) (show t≠0 by omega);have i:=Qjs (-x) (show 0<t by omega);have j:=Int.mul_ediv_add_emod (-x) t;split
   ·rename_i b;rw [show x=t*(-((-x) / t)) by rw [Int.mul_neg];omega];exact Int.mul_emod_right _ _
   ·rename_i b;rw [show x=(t-(-x) % t)+t*(-((-x) / t)-1) by rw [Int.mul_sub,Int.mul_neg];omega,Int.add_mul_emod_self_left];rw [show (t-(-x) % t+t*(-((-x) / t)-1))=x by rw [Int.mul_sub,Int.mul_neg];omega];exact QjD (by omega) (by omega)
  rw [e];by_cases hz:(-x) % t=0
  ·rw [hz,Q9 (by rfl),e1,if_pos hz];rfl
  ·have a:=Qju (-x) (show t≠0 by omega);rw [QY (Qjg (by omega)),Q7 (by omega) (by omega),e1,Qjy hz];congr 1;omega
theorem Qfu {x:Int} (a:1<=t) (b:t<=7200) (h2 : -1000000000<=x) (c:x<=1000000000) (K:Int->oP R):Fi n x t K=K (x % t):=QfW (n:=n) a b h2 c K
def Q3j (t x k:Int):List Sp2:=if k<1 then [] else if t<=k then [(0,t)] else if x+k<=t then [(x,x+k)] else [(0,x+k-t),(x,t)]
theorem Q8c {x k:Int}:(Q3j t x k).length<=2:=by
 unfold Q3j;split
 ·simp
 split
 ·simp
 split <;> simp
theorem Qa5 {x k:Int} (a:1<=t) (hx:0<=x) (ac:x<t):VS t (-1) (Q3j t x k):=by
 unfold Q3j;split
 ·trivial
 split
 ·exact ⟨by omega,by omega,by omega,trivial⟩
 split
 ·exact ⟨by omega,by omega,by omega,trivial⟩
 ·exact ⟨by omega,by omega,by omega,by omega,by omega,by omega,trivial⟩
theorem Qht {x y:Int} (hx:0<=x) (ac:x<t) (hy:0<=y) (aj:y<t):(y-x) % t=if x<=y then y-x else y-x+t:=by
 split
 ·exact QjD (by omega) (by omega)
 ·rw [show y-x=(y-x+t)+t*(-1) by omega,Int.add_mul_emod_self_left];rw [show y-x+t+t*(-1)+t=y-x+t by omega];exact QjD (by omega) (by omega)
theorem Qay {x k y:Int} (hx:0<=x) (ak:x<t) (hy:0<=y) (ac:y<t):InS y (Q3j t x k)↔(y-x) % t<k:=by
 rw [Qht hx ak hy ac];unfold Q3j;split
 ·refine ⟨fun h=>absurd h MY,fun h=>?_⟩;split at h <;> omega
 split
 ·rw [T1];constructor
  ·intro _;split <;> omega
  ·intro _;exact .inl ⟨hy,ac⟩
 split
 ·rw [T1];constructor
  ·rintro (h | h)
   ·dsimp only at h;rw [if_pos h.1];omega
   ·exact absurd h MY
  ·intro h;left;dsimp only;split at h <;> omega
 ·rw [T1,T1];constructor
  ·rintro (h | h | h)
   ·dsimp only at h;split <;> omega
   ·dsimp only at h;rw [if_pos h.1];omega
   ·exact absurd h MY
  ·intro h;dsimp only;by_cases aj:x<=y
   ·exact .inr (.inl ⟨aj,ac⟩)
   ·rw [Qjy aj] at h;exact .inl ⟨hy,by omega⟩
theorem Qfw {f k:Int} (c:1<=t) (d:t<=7200) (h2 : -1000000<=f) (j:f<=1000000) (l : -1000000<=k) (m:k<=1000000):TL 400 t f k Tu2=some ((Q3j t (f % t) k).map Y7,(0:Int)):=by
 have e:=Qju f (show t≠0 by omega);have g:=Qjs f (show 0<t by omega);unfold TL;rw [Q1d c d,Q0,Q9 (by rfl),QfW c d (by omega) (by omega),Q0];revert e g;generalize f % t=x;intro e g;unfold Jj Q3j;by_cases c1:k<1
 ·rw [show decide (k<1)=true from Qjg c1,cond_true,if_pos c1];rfl
 rw [show decide (k<1)=false from decide_eq_false c1,Qjc,Qjy c1];by_cases a:t<=k
 ·rw [show decide (k>=t)=true from Qjg a,cond_true,if_pos a];rfl
 rw [show decide (k>=t)=false from decide_eq_false a,Qjc,Qjy a,Q7 (x:=x+k) (by omega) (by omega)];by_cases b:x+k<=t
 ·rw [show decide (x+k<=t)=true from Qjg b,cond_true,if_pos b];rfl
 ·rw [show decide (x+k<=t)=false from decide_eq_false b,Qjc,Qjy b,Q7 (x:=x+k-t) (by omega) (by omega)];rfl
end
theorem Qhk {R:Type} {n:Nat} {a b:Int} (K:Int->oP R):VV n a b K=K (if a<b then -1 else if b<a then 1 else 0):=by
 unfold VV;have hn:∀ x:Int,Vi n x (some:Bool->Option Bool)=some false:=fun x=>by
  grind [Vi]
 rw [hn,hn,Q0,Q0,Q9 (by rfl),Q9 (by rfl)]
 grind
def Asc (l:List Sp2):Prop:=l.Pairwise fun a b=>a.1<=b.1
theorem Qad (q:Sp2):(Y7 q)[0]? = some (Q4 q.1):=rfl
theorem Q9I (q:Sp2):(Y7 q)[1]? = some (Q4 q.2):=rfl
theorem QfC (z q:Sp2):((Y7 z).set 0 (Q4 q.1)).set 1 (Q4 q.2)=Y7 q:=rfl
theorem Qh4 (q:Sp2) (v:Int):(Y7 q).set 1 (D.int .i64 v)=Y7 (q.1,v):=rfl
section
variable {R:Type} {n:Nat}
theorem QeU {A B:LL} {x:List D} {i:Nat} (h:A.length=i):(A++x::B)[i]? = some x:=by
 simp_all
theorem Qf8 {A B:LL} {x y:List D} {i:Nat} (h:A.length=i):(A++x::B).set i y=A++y::B:=by
 simp_all
theorem QaO {K:LL->oP R} {k0:Int->Bool->LL->oP R} (hk:∀ a b w,k0 a b w=K w):∀ (c m:Nat) (A:List Sp2) (x:Sp2) (B C:List Sp2),A.length=c->c<m->(A++x::B++C).length<=100->Asc (A++B)->(∀ b∈B,x.1<=b.1) ->
  ∃ L:List Sp2,Qh n 0 k0 m (c:Int) ((A++x::B++C).map Y7)=K ((L++C).map Y7)/\Asc L/\L.Perm (A++x::B)
 |0,m+1,A,x,B,C,hA,_,_,hs,hx=>by
  obtain rfl:=List.eq_nil_of_length_eq_zero hA;refine ⟨x::B,?_,Qjx.2 ⟨hx,hs⟩,List.Perm.refl _⟩;unfold Qh;rw [show decide (((0:Nat):Int)>0)=false from rfl];simp -implicitDefEqProofs only [gbF,Qjc,hk,List.nil_append]
 |c+1,m+1,A,x,B,C,hA,hm,hl,hs,hx=>by
  obtain ⟨A',y,rfl⟩:∃ A' y,A=A'++[y]:=⟨A.dropLast,A.getLast (by intro h;rw [h] at hA;simp at hA),(List.dropLast_concat_getLast _).symm⟩;have ac:A'.length=c:=by simpa using hA
  have ak:c+1<((A'++[y]++x::B++C).map Y7).length:=by simp;omega
  have hc:c<=100:=by simp at hl;omega
  have e1:((A'++[y]++x::B++C).map Y7)=(A'.map Y7++[Y7 y])++Y7 x::(B++C).map Y7:=by simp
  have e2:((A'++[y]++x::B++C).map Y7)=A'.map Y7++Y7 y::(Y7 x::(B++C).map Y7):=by simp
  have g1:((A'++[y]++x::B++C).map Y7)[c+1]? = some (Y7 x):=by rw [e1];exact QeU (by simp [ac])
  have d:((A'++[y]++x::B++C).map Y7)[c]? = some (Y7 y):=by rw [e2];exact QeU (by simp [ac])
  have s1:((A'++[y]++x::B++C).map Y7).set (c+1) (Y7 y)=A'.map Y7++Y7 y::(Y7 y::(B++C).map Y7):=by rw [e1,Qf8 (by simp [ac])];simp
  have e:(A'.map Y7++Y7 y::(Y7 y::(B++C).map Y7))[c]? = some (Y7 y):=QeU (by simp [ac]);have s2:(A'.map Y7++Y7 y::(Y7 y::(B++C).map Y7)).set c (Y7 x)=((A'++x::(y::B)++C).map Y7):=by rw [Qf8 (by simp [ac])];simp
  have f:inB ((A'++[y]++x::B++C).map Y7).length ((c+1:Nat):Int)=some ():=Y0 (by omega) (by omega);have g:inB ((A'++[y]++x::B++C).map Y7).length ((c:Nat):Int)=some ():=Y0 (by omega) (by omega);have i3:inB (A'.map Y7++Y7 y::(Y7 y::(B++C).map Y7)).length ((c:Nat):Int)=some ():=Y0 (by omega) (by simp;omega);unfold Qh;rw [show decide (((c+1:Nat):Int)>0)=true from Qjg (by omega),Jq (show c+1<=1000 by omega) (by omega),Qjt];unfold UQ;simp -implicitDefEqProofs only [f,g,Q0,Int.toNat_natCast,g1,d,Qhk];simp -implicitDefEqProofs only [Qad,Q9I,QfC,Q0,Q2,cond_true];by_cases aj:x.1<y.1
  ·rw [if_pos aj];simp -implicitDefEqProofs only [show decide ((-1:Int)<0)=true from rfl,cond_true,g1,Qad,Q9I,QfC,Q0,s1];simp -implicitDefEqProofs only [i3,e,Q0,QfC,s2];obtain ⟨L,i,h2,j⟩:=QaO hk c m A' x (y::B) C ac (by omega) (by simp at hl ⊢;omega) (by simpa using hs) (fun b hb=>by
    cases hb with
    |head=>omega
    |tail _ hb=>exact hx b hb)
   refine ⟨L,i,h2,j.trans ?_⟩;rw [Qji];exact List.Perm.append_left _ (List.Perm.swap ..)
  ·refine ⟨A'++[y]++x::B,?_,?_,List.Perm.refl _⟩
   ·rw [Qjy aj,show decide ((if y.1<x.1 then (1:Int) else 0)<0)=false from decide_eq_false (by split <;> omega),Qjc,hk]
   ·unfold Asc at hs ⊢;rw [QjG] at hs ⊢;refine ⟨hs.1,Qjx.2 ⟨hx,hs.2.1⟩,fun a ha b hb=>?_⟩;cases hb with
    |head=>
     rcases Qjk.1 ha with h | h
     ·have:=(QjG.1 hs.1).2.2 a h y (Qjr.2 rfl);omega
     ·obtain rfl:=Qjr.1 h;omega
    |tail _ hb=>exact hs.2.2 a ha b hb
theorem QaN {K:LL->oP R} {k0:Int->Bool->LL->oP R} (hk:∀ a b w,k0 a b w=K w):∀ (ac P:List Sp2) (m:Nat),ac.length<m->(P++ac).length<=100->Asc P ->
  ∃ L:List Sp2,Q6 400 0 (((P++ac).length:Nat):Int) k0 m ((P.length:Nat):Int) ((P++ac).map Y7)=K (L.map Y7)/\Asc L/\L.Perm (P++ac)
 |[],P,m+1,_,_,hs=>by
  refine ⟨P,?_,hs,by simp⟩;rw [Q6,QjA,Qi,Qjc,hk]
 |x::ac,P,m+1,hm,hl,hs=>by
  rw [Q6,Qc (by simp),cond_true,Qs (by simp at hl;omega)];obtain ⟨L,d,h2,c⟩:=QaO (n:=400) (K:=fun w=>Q6 400 0 (((P++x::ac).length:Nat):Int) k0 m ((P.length+1:Nat):Int) w) (k0:=fun _ _ w=>Q6 400 0 (((P++x::ac).length:Nat):Int) k0 m ((P.length+1:Nat):Int) w) (fun _ _ _=>rfl) P.length 400 P x [] ac rfl (by simp at hl;omega) (by simp at hl ⊢;omega) (by simpa using hs) (fun b hb=>nomatch hb);rw [show (P++x::ac)=P++[x]++ac by simp] at *
  rw [d];have hL:L.length=P.length+1:=by rw [c.length_eq];simp
  obtain ⟨L',g1,e,f⟩:=QaN hk ac L m (by simpa using hm) (by simp [hL] at hl ⊢;omega) h2;rw [show (((P++[x]++ac).length:Nat):Int)=(((L++ac).length:Nat):Int) by simp [hL];omega,show ((P.length+1:Nat):Int)=((L.length:Nat):Int) by rw [hL]];exact ⟨L',g1,e,f.trans (c.append_right _)⟩
theorem Qhz:((List.range 13).all fun k=>(G4 400 (IntKind.wrap .u64 ((k:Nat):Int)) (some:Int->Option Int)).isSome)=true:=by kernel_rfl
theorem Qgv {l:List Sp2} (hl:l.length<=12):∃ L:List Sp2,Qu 400 (l.map Y7) (some:LL->Option LL)=some (L.map Y7)/\Asc L/\L.Perm l:=by
 obtain ⟨b,hb⟩:=Option.isSome_iff_exists.1 (QjJ.1 Qhz l.length (List.mem_range.2 (by omega)));unfold Qu;rw [Qje,hb,Q0];unfold XK Xz;rw [Q7 (x:=((l.length:Nat):Int)-0) (by omega) (by omega),QY (Qjg (by omega))];unfold Xj;have aj:∀ L:List Sp2,L.length=l.length->(gb true (gb true (some (L.map Y7)) [] fun a=>gb true (Hg a (List.length (l.map Y7))) () fun f=>some a) [] fun c=>gb true (Hg c l.length) () fun u3=>(some c:Option LL))=some (L.map Y7):=fun L h=>by
  grind [Q0,NO]
 rw [show wJ ((0:Int)+1)=((1:Nat):Int) from rfl];cases l with
 |nil=>
  refine ⟨[],?_,List.Pairwise.nil,List.Perm.refl _⟩;rfl
 |cons x ac=>
  obtain ⟨L,e,h2,d⟩:=QaN (K:=(some:LL->Option LL)) (k0:=fun _ _ w=>some w) (fun _ _ _=>rfl) ac [x] 400 (by grind) (by simp at hl ⊢;omega) (List.pairwise_singleton ..);refine ⟨L,?_,h2,d⟩;rw [show (x::ac)=[x]++ac from rfl,show ((1:Nat):Int)=(([x].length:Nat):Int) from rfl,e];exact aj L d.length_eq
def mgS:Int->Int->List Sp2->List Sp2
 |a,b,[]=>[(a,b)]
 |a,b,(c,d)::r=>if c<=b then mgS a (if b<d then d else b) r else (a,b)::mgS c d r
theorem Q4F:∀ {a b:Int} {r:List Sp2},(mgS a b r).length<=r.length+1
 |_,_,[]=>Qjn _
 |a,b,(c,d)::r=>by
  rw [mgS];split
  ·have:=Q4F (a:=a) (b:=if b<d then d else b) (r:=r);simp only [QjQ];omega
  ·have:=Q4F (a:=c) (b:=d) (r:=r);simp only [QjQ];omega
theorem Q8q {t:Int}:∀ {l a b:Int} {r:List Sp2},l<a->a<b->b<=t->Asc ((a,b)::r)->(∀ q∈r,q.1<q.2/\q.2<=t)->VS t l (mgS a b r)
 |l,a,b,[],e,h2,f,_,_=>⟨e,h2,f,trivial⟩
 |l,a,b,(c,d)::r,e,h2,f,h,g=>by
  have hs:=Qjx.1 h;have hc:a<=c:=hs.1 (c,d) (.head _);have hd:=g (c,d) (.head _);rw [mgS];split
  ·refine Q8q e (by split <;> omega) (by split <;> simp_all) (Qjx.2 ⟨fun q hq=>hs.1 q (.tail _ hq),(Qjx.1 hs.2).2⟩) (fun q hq=>g q (.tail _ hq))
  ·exact ⟨e,h2,f,Q8q (by omega) hd.1 hd.2 hs.2 (fun q hq=>g q (.tail _ hq))⟩
theorem Q8g {y:Int}:∀ {a b:Int} {r:List Sp2},Asc ((a,b)::r)->a<b->(∀ q∈r,q.1<q.2)->(InS y (mgS a b r)↔(a<=y/\y<b)\/InS y r)
 |a,b,[],_,_,_=>by rw [mgS,T1]
 |a,b,(c,d)::r,f,h2,e=>by
  have hs:=Qjx.1 f;have hc:a<=c:=hs.1 (c,d) (.head _);have hd:=e (c,d) (.head _);rw [mgS,T1];split
  ·rw [Q8g (a:=a) (b:=if b<d then d else b) (Qjx.2 ⟨fun q hq=>hs.1 q (.tail _ hq),(Qjx.1 hs.2).2⟩) (by split <;> omega) (fun q hq=>e q (.tail _ hq))];dsimp only at hc hd ⊢;rw [<- or_assoc];refine or_congr_left ?_;split <;> omega
  ·rw [T1,Q8g hs.2 hd (fun q hq=>e q (.tail _ hq))]
theorem Q1O {K:LL->oP R} {k0:Int->Bool->LL->oP R} (hk:∀ a b w,k0 a b w=K w) {l:List Sp2} (hl:l.length<=100):∀ (ac:List Sp2) (i m:Nat) (A:List Sp2) (a b:Int),l.drop i=ac->ac.length<m->A.length+ac.length<=100 ->
  X6 n ((l.length:Nat):Int) (l.map Y7) k0 m (i:Int) ((A++[(a,b)]).map Y7)=K ((A++mgS a b ac).map Y7)
 |[],i,m+1,A,a,b,hd,_,_=>by
  have:=Ua hd;rw [X6,show decide ((i:Int)<((l.length:Nat):Int))=false by simp_all,Qjc,hk,mgS]
 |(c,d)::ac,i,m+1,A,a,b,hd,hm,hA=>by
  obtain ⟨e,ao,hi⟩:=Yh hd;have ar:A.length<=100:=by omega
  have f:(l.map Y7)[i]? = some (Y7 (c,d)):=by rw [QjO,e];rfl
  have e1:(A++[(a,b)]).map Y7=A.map Y7++Y7 (a,b)::[]:=by simp
  have ak:((A++[(a,b)]).map Y7).length=A.length+1:=by simp
  have g:((A++[(a,b)]).map Y7)[A.length]? = some (Y7 (a,b)):=by rw [e1];exact QeU (by simp)
  have an:∀ v,((A++[(a,b)]).map Y7).set A.length (Y7 (a,v))=(A++[(a,v)]).map Y7:=fun v=>by rw [e1,Qf8 (by simp)];simp
  rw [X6,Qc hi,cond_true,ak,Jq (show A.length+1<=1000 by omega) (by omega),Qjt,Qje,Y0 (by omega) (by omega),Y0 (by omega) (by omega),show decide ((A.length:Int)>=0)=true from Qjg (by omega)];simp -implicitDefEqProofs only [Q0,Int.toNat_natCast,f,g,Qs (show i<=1000 by omega)];simp -implicitDefEqProofs only [Qad,Q9I,Qh4,Q0,Q2,cond_true];rw [mgS];by_cases aj:c<=b
  ·rw [show decide (c<=b)=true from Qjg aj,cond_true,if_pos aj];rw [an];exact Q1O hk hl ac (i+1) m A a _ ao (by simpa using hm) (by simp at hA;omega)
  ·rw [show decide (c<=b)=false from decide_eq_false aj,Qjc,Qjy aj,XF (by simp;omega),Q0];have:=Q1O hk hl ac (i+1) m (A++[(a,b)]) c d ao (by simpa using hm) (by simp at hA ⊢;omega);rw [show A++(a,b)::mgS c d ac=A++[(a,b)]++mgS c d ac by simp,<- this,Qjl (l₂:=[(c,d)])];rfl
theorem t2a {x y:List D}:decide ((0:Int)<(([x,y].length:Nat):Int))=true:=rfl
theorem t2b {x y:List D}:decide ((1:Int)<(([x,y].length:Nat):Int))=true:=rfl
theorem t2c {x y:List D}:decide ((2:Int)<(([x,y].length:Nat):Int))=false:=rfl
theorem t2d:wJ ((0:Int)+1)=1:=rfl
theorem t2e:wJ ((1:Int)+1)=2:=rfl
theorem t2f {x y:List D}:Q1 [x,y] 0=some x:=rfl
theorem t2g {x y:List D}:Q1 [x,y] 1=some y:=rfl
theorem QcN {a b:List Sp2} (h:a.length+b.length<=100):QG 400 [[D.sl 2 (a.map Y7)],[D.sl 2 (b.map Y7)]] (some:LL->Option LL)=some ((a++b).map Y7):=by
 have hg:∀ k:Nat,k<=100->QA 400 (k:Int) (some:LL->Option LL)=some []:=fun k hk=>by
  unfold QA;rw [Q9 (decide_eq_false (by omega)),show wJ ((0:Int)-0)=0 from rfl,Q7 (x:=(k:Int)-0) (by omega) (by omega)];by_cases c:k=0
  ·subst c;rfl
  ·rw [QY (Qjg (by omega)),show slB 0 none (some (0:Int))=some (0,0) from rfl,Q0,QY (Qjg (by omega)),Q0,XF (by omega),Q0]
 unfold QG;rw [Qf];simp -implicitDefEqProofs only [t2a,t2b,t2c,t2d,t2e,t2f,t2g,cond_true,Qjc,Q0,Qjb,QH,Qje,Q7 (x:=0+(a.length:Int)) (by omega) (by omega),Q7 (x:=0+(a.length:Int)+(b.length:Int)) (by omega) (by omega),show decide (0+(a.length:Int)<0)=false from decide_eq_false (by omega),show decide (0+(a.length:Int)+(b.length:Int)<0)=false from decide_eq_false (by omega),show 0+(a.length:Int)+(b.length:Int)=((a.length+b.length:Nat):Int) by omega,Q7 (x:=((a.length+b.length:Nat):Int)) (by omega) (by omega),show decide (((a.length+b.length:Nat):Int)<0)=false from decide_eq_false (by omega),hg _ h];rw [Qf];simp -implicitDefEqProofs only [t2a,t2b,t2c,t2d,t2e,t2f,t2g,cond_true,Qjc,Q0,Qjb,QH,Qje,Q7 (x:=0+(a.length:Int)) (by omega) (by omega),Q7 (x:=0+(a.length:Int)+(b.length:Int)) (by omega) (by omega),show decide (0+(a.length:Int)<0)=false from decide_eq_false (by omega),show decide (0+(a.length:Int)+(b.length:Int)<0)=false from decide_eq_false (by omega),show 0+(a.length:Int)+(b.length:Int)=((a.length+b.length:Nat):Int) by omega,Q7 (x:=((a.length+b.length:Nat):Int)) (by omega) (by omega),show decide (((a.length+b.length:Nat):Int)<0)=false from decide_eq_false (by omega),hg _ h];rw [Qf];simp -implicitDefEqProofs only [t2a,t2b,t2c,t2d,t2e,t2f,t2g,cond_true,Qjc,Q0,Qjb,QH,Qje,Q7 (x:=0+(a.length:Int)) (by omega) (by omega),Q7 (x:=0+(a.length:Int)+(b.length:Int)) (by omega) (by omega),show decide (0+(a.length:Int)<0)=false from decide_eq_false (by omega),show decide (0+(a.length:Int)+(b.length:Int)<0)=false from decide_eq_false (by omega),show 0+(a.length:Int)+(b.length:Int)=((a.length+b.length:Nat):Int) by omega,Q7 (x:=((a.length+b.length:Nat):Int)) (by omega) (by omega),show decide (((a.length+b.length:Nat):Int)<0)=false from decide_eq_false (by omega),hg _ h];rw [Qg];simp -implicitDefEqProofs only [t2a,t2b,t2c,t2d,t2e,t2f,t2g,cond_true,Qjc,Q0,Qjb,QH,Qje,List.nil_append,List.length_nil,XF (show (0+a.length)*16<=100000 by omega),XF (show (a.length+b.length)*16<=100000 by omega),Qjl];rw [Qg];simp -implicitDefEqProofs only [t2a,t2b,t2c,t2d,t2e,t2f,t2g,cond_true,Qjc,Q0,Qjb,QH,Qje,List.nil_append,List.length_nil,XF (show (0+a.length)*16<=100000 by omega),XF (show (a.length+b.length)*16<=100000 by omega),Qjl];rw [Qg];simp -implicitDefEqProofs only [t2a,t2b,t2c,t2d,t2e,t2f,t2g,cond_true,Qjc,Q0,Qjb,QH,Qje,List.nil_append,List.length_nil,XF (show (0+a.length)*16<=100000 by omega),XF (show (a.length+b.length)*16<=100000 by omega),Qjl]
theorem Qds {l:List Sp2}:F9 [l.map Y7]=some ():=by
 unfold F9;rw [show ([l.map Y7].all B3)=true by simp [B3,Y7,Q4E]];rfl
theorem Qdp {t:Int} {a b:List Sp2} (c:1<=t) (d:t<=7200) (ha:VS t (-1) a) (hb:VS t (-1) b) (hl:a.length<=300) (ac:b.length<=300):HJ 400 t [[D.sl 2 (a.map Y7)],[D.sl 2 (b.map Y7)]] (some:Int->Option Int)=some 0:=by
 unfold HJ;rw [Q1d c d,Q0,Q9 (by rfl)];rw [WZ];simp -implicitDefEqProofs only [t2a,t2b,t2c,t2d,t2e,t2f,t2g,cond_true,Qjc,Q0,Qjb,QH,BO c d hl ha,BO c d ac hb,Qjp];rw [WZ];simp -implicitDefEqProofs only [t2a,t2b,t2c,t2d,t2e,t2f,t2g,cond_true,Qjc,Q0,Qjb,QH,BO c d hl ha,BO c d ac hb,Qjp];rw [WZ];simp -implicitDefEqProofs only [t2a,t2b,t2c,t2d,t2e,t2f,t2g,cond_true,Qjc,Q0,Qjb,QH,BO c d hl ha,BO c d ac hb,Qjp]
theorem QeC {t:Int} {a b:List Sp2} (e:1<=t) (f:t<=7200) (ha:VS t (-1) a) (hb:VS t (-1) b) (hl:a.length+b.length<=12):∃ c:List Sp2,HR 400 t (a.map Y7) (b.map Y7) Tu2=some (c.map Y7,(0:Int))/\VS t (-1) c/\c.length<=a.length+b.length/\∀ y,InS y c↔InS y a\/InS y b:=by
 obtain ⟨L,s1,s2,d⟩:=Qgv (l:=a++b) (by simp;omega);have hr:∀ q∈L,-1<q.1/\q.1<q.2/\q.2<=t:=fun q hq=>by
  rcases Qjk.1 (d.mem_iff.1 hq) with h | h
  ·exact ha.rng q h
  ·exact hb.rng q h
 have ac:L.length=a.length+b.length:=by rw [d.length_eq];simp
 unfold HR;rw [Qdp e f ha hb (by omega) (by omega),Q0,Q9 (by rfl),QcN (by omega),Q0,Qds,Q0];unfold Hp;rw [s1,Q0,NO (by simp [ac]),Q0,Qje];cases L with
 |nil=>
  refine ⟨[],?_,trivial,by simp,fun y=>?_⟩
  ·rw [Qje,<- d.length_eq,X6,show decide ((0:Int)<((([]:List Sp2).length:Nat):Int))=false from rfl,Qjc];rfl
  ·rw [<- Q8N,<- Q5K d]
 |cons q L=>
  obtain ⟨x,z⟩:=q;have hq:=hr (x,z) (.head _);have aj:L.length+1<=12:=by simp at ac;omega
  have hm:=Q1O (n:=400) (K:=fun w=>(some (w,((x,z)::L).map Y7):Option (LL × LL))) (k0:=fun _ _ w=>some (w,((x,z)::L).map Y7)) (fun _ _ _=>rfl) (l:=(x,z)::L) (by simp;omega) L 1 399 [] x z rfl (by omega) (by simp;omega);have ak:∀ k0:Int->Bool->LL->Option (LL × LL),X6 400 ((((x,z)::L).length:Nat):Int) (((x,z)::L).map Y7) k0 400 0 []=X6 400 ((((x,z)::L).length:Nat):Int) (((x,z)::L).map Y7) k0 399 ((1:Nat):Int) (([]++[(x,z)]).map Y7):=fun k0=>by
   rw [X6,show decide ((0:Int)<((((x,z)::L).length:Nat):Int))=true from Qjg (by simp),cond_true,Y0 (by omega) (by simp),show (((x,z)::L).map Y7)[Int.toNat 0]? = some (Y7 (x,z)) from rfl,show decide (wJ (((([]:LL).length:Nat):Int)-1)>=0)=false from rfl];simp -implicitDefEqProofs only [Q0,Qad,Q9I,gbF,Qjc,t2d];rw [XF (by simp),Q0];rfl
  refine ⟨mgS x z L,?_,Q8q hq.1 hq.2.1 hq.2.2 s2 (fun q h=>(hr q (.tail _ h)).2),?_,fun y=>?_⟩
  ·rw [ak,hm,Q0,NO (by simp at ac ⊢;omega),Q0];rfl
  ·have:=Q4F (a:=x) (b:=z) (r:=L);simp at ac;omega
  ·rw [Q8g s2 hq.2.1 (fun q h=>(hr q (.tail _ h)).2.1),<- Q8N,<- Q5K d,T1]
end
def FB (t:Int) (A B:List Occ) (y:Int):Prop:=∃ x a b c d,(x,a,b)∈A/\(x,c,d)∈B/\(y-(a-d+1)) % t<b-a+d-c-1
theorem Qa3 {t:Int} {q:Occ} {A B:List Occ} {y:Int} (h:∀ p∈B,p.1≠q.1):FB t (q::A) B y↔FB t A B y:=by
 constructor
 ·rintro ⟨x,a,b,c,d,e,h2,f⟩;cases e with
  |head=>grind
  |tail _ e=>exact ⟨x,a,b,c,d,e,h2,f⟩
 ·rintro ⟨x,a,b,c,d,e,h2,f⟩;exact ⟨x,a,b,c,d,.tail _ e,h2,f⟩
theorem Qae {t:Int} {q:Occ} {A B:List Occ} {y:Int} (h:∀ p∈A,p.1≠q.1):FB t A (q::B) y↔FB t A B y:=by
 constructor
 ·rintro ⟨x,a,b,c,d,e,h2,f⟩;cases h2 with
  |head=>grind
  |tail _ h2=>exact ⟨x,a,b,c,d,e,h2,f⟩
 ·rintro ⟨x,a,b,c,d,e,h2,f⟩;exact ⟨x,a,b,c,d,e,.tail _ h2,f⟩
theorem QcL {t x a b c d:Int} {A B:List Occ} {y:Int} (hA:∀ p∈A,p.1≠x) (hB:∀ p∈B,p.1≠x):FB t ((x,a,b)::A) ((x,c,d)::B) y↔(y-(a-d+1)) % t<b-a+d-c-1\/FB t A B y:=by
 constructor
 ·rintro ⟨x',a',b',c',d',e,h2,f⟩;cases e with
  |head=>
   grind
  |tail _ e=>
   cases h2 with
   |head=>exact (hA (x,a',b') e rfl).elim
   |tail _ h2=>exact .inr ⟨x',a',b',c',d',e,h2,f⟩
 ·rintro (h | ⟨x',a',b',c',d',e,h2,f⟩)
  ·exact ⟨x,a,b,c,d,.head _,.head _,h⟩
  ·exact ⟨x',a',b',c',d',.tail _ e,.tail _ h2,f⟩
theorem QeV (y f t:Int):(y-f % t) % t=(y-f) % t:=by
 rw [Int.sub_emod,Int.emod_emod,<- Int.sub_emod]
section
variable {R:Type} {n:Nat} {t:Int}
theorem Np (q:Occ):(enc q)[0]? = some (Q4 q.1):=rfl
theorem MZ (q:Occ):(enc q)[1]? = some (Q4 q.2.1):=rfl
theorem Fh (q:Occ):(enc q)[2]? = some (Q4 q.2.2):=rfl
theorem Q2N {O:List Occ} (hl:O.length<=1000) {k0:oP R} {k1:Int->Int->Bool->oP R} {E:oP R} (hk:∀ a b c,k1 a b c=E):∀ (ac:List Occ) (i m:Nat) (last:Int),O.drop i=ac->ac.length<m->OL last ac->U3 n (O.map enc) ((O.length:Nat):Int) k0 k1 m last (i:Int)=E
 |[],i,m+1,last,hd,_,_=>by
  have:=Ua hd;rw [U3,show decide ((i:Int)<((O.length:Nat):Int))=false by simpa using this,Qjc,hk]
 |(x,a,b)::ac,i,m+1,last,hd,hm,⟨f,h2,g,h,j,d⟩=>by
  obtain ⟨e,aj,hi⟩:=Yh hd;rw [U3,Qc hi,cond_true,QL e];simp -implicitDefEqProofs only [Q0,Np,MZ,Fh,Q2,show decide (x<=last)=false from decide_eq_false (by omega),show decide (a>=b)=false from decide_eq_false (by omega),show decide (a < -65536)=false from decide_eq_false (by omega),show decide (b>65536)=false from decide_eq_false (by omega),Qjc,Qs (show i<=1000 by omega)];exact Q2N hl hk ac (i+1) m x aj (by simpa using hm) d
theorem Q3U {O:List Occ} (hl:O.length<=300) (h:OL (-1) O):Jc 400 (O.map enc) (some:Bool->Option Bool)=some true:=by
 unfold Jc;rw [Qje];exact Q2N (by omega) (fun _ _ _=>rfl) O 0 400 (-1) rfl (by omega) h
theorem QgU {α:Type} (q:α) (l:List α):slB (q::l).length (some (1:Int)) none=some (1,l.length+1)/\cut (q::l) (1,l.length+1)=l:=by
 grind [slB,cut]
theorem Ll (e:1<=t) (j:t<=7200) {K:LL->oP R} {k0:LL->LL->Bool->LL->oP R} (hk:∀ a b c w,k0 a b c w=K w):∀ (m:Nat) (A B:List Occ) (acc:List Sp2) (lA lB:Int),A.length+B.length<m->OL lA A->OL lB B->VS t (-1) acc->acc.length+2*A.length<=12 ->
  ∃ ac:List Sp2,Qp 400 t k0 m (A.map enc) (B.map enc) (acc.map Y7)=K (ac.map Y7)/\VS t (-1) ac/\ac.length<=12/\∀ y,0<=y->y<t->(InS y ac↔InS y acc\/FB t A B y)
 |m+1,[],B,acc,lA,lB,_,_,_,hv,hl=>by
  refine ⟨acc,?_,hv,by omega,fun y _ _=>⟨.inl,?_⟩⟩
  ·rw [Qp,show decide (((([]:List Occ).map enc).length:Int)>0)=false from rfl,Qjc,Qjc,hk]
  ·rintro (h | ⟨x,a,b,c,d,h,_⟩)
   all_goals grind
 |m+1,q::A,[],acc,lA,lB,_,_,_,hv,hl=>by
  refine ⟨acc,?_,hv,by simp at hl;omega,fun y _ _=>⟨.inl,?_⟩⟩
  ·rw [Qp,show decide (((([]:List Occ).map enc).length:Int)>0)=false from rfl,show decide ((((q::A).map enc).length:Int)>0)=true from Qjg (by simp),cond_true,Qjc,hk]
  ·rintro (h | ⟨x,a,b,c,d,_,h,_⟩)
   ·exact h
   ·nomatch h
 |m+1,(x,a,b)::A,(x',c,d)::B,acc,lA,lB,hm,hA,hB,hv,hl=>by
  obtain ⟨a1,a2,a3,a4,a5,v⟩:=id hA;obtain ⟨b1,b2,b3,b4,b5,z⟩:=id hB;have ax:A.length+B.length+2<m+1:=by simp at hm;omega
  have a8:acc.length+2*A.length+2<=12:=by simp at hl;omega
  have cA:=QgU (enc (x,a,b)) (A.map enc);have cB:=QgU (enc (x',c,d)) (B.map enc);have an:∀ p∈A,x<p.1:=fun p hp=>(v.mem p hp).1
  have ak:∀ p∈B,x'<p.1:=fun p hp=>(z.mem p hp).1
  rw [Qp];simp -implicitDefEqProofs only [List.map_cons,show decide ((((enc (x,a,b)::A.map enc).length:Nat):Int)>0)=true from Qjg (by simp),show decide ((((enc (x',c,d)::B.map enc).length:Nat):Int)>0)=true from Qjg (by simp),cond_true,show ∀ (r:List D) (l:LL),Q1 (r::l) 0=some r from fun _ _=>rfl,Q0,Np,MZ,Fh,Q2,cA,cB];rcases Int.lt_trichotomy x x' with hx | hx | hx
  ·rw [show (x == x')=false by simp;omega,show decide (x<=x')=true from Qjg (by omega),show decide (x>=x')=false from decide_eq_false (by omega)];simp -implicitDefEqProofs only [cond_true,Qjc];obtain ⟨ac,g1,n,o,s⟩:=Ll e j hk m A ((x',c,d)::B) acc x lB (by simp;omega) v hB hv (by omega);refine ⟨ac,g1,n,o,fun y g i=>?_⟩;rw [s y g i,Qa3 (fun p hp=>?_)];cases hp with
   |head=>dsimp only;omega
   |tail _ hp=>have:=ak p hp;dsimp only;omega
  ·subst hx;have f0:wJ (wJ (a-d)+1)=a-d+1:=by rw [Q7 (x:=a-d) (by omega) (by omega),Q7 (by omega) (by omega)]
   have f1:wJ (wJ (wJ (wJ (b-c)-1)-(a-d+1))+1)=b-a+d-c-1:=by
    rw [Q7 (x:=b-c) (by omega) (by omega),Q7 (x:=b-c-1) (by omega) (by omega),Q7 (x:=b-c-1-(a-d+1)) (by omega) (by omega),Q7 (by omega) (by omega)];omega
   have e0:=Qju (a-d+1) (show t≠0 by omega);have e1:=Qjs (a-d+1) (show 0<t by omega);have aq:=Qfw (t:=t) (f:=a-d+1) (k:=b-a+d-c-1) e j (by omega) (by omega) (by omega) (by omega);have a9:=Q8c (t:=t) (x:=(a-d+1) % t) (k:=b-a+d-c-1);obtain ⟨u,u1,u2,u3,u4⟩:=QeC e j hv (Qa5 (k:=b-a+d-c-1) e e0 e1) (by omega);rw [show (x == x)=true by simp,show decide (x<=x)=true from Qjg (by omega)];simp -implicitDefEqProofs only [cond_true];unfold Z2;rw [f0,f1,aq,Q0,u1,Q0,Qds,Q0];obtain ⟨ac,g1,n,o,s⟩:=Ll e j hk m A B u x x (by omega) v z u2 (by omega);refine ⟨ac,g1,n,o,fun y g i=>?_⟩;rw [s y g i,u4,Qay e0 e1 g i,QeV,QcL (fun p hp=>by have:=an p hp;omega) (fun p hp=>by have:=ak p hp;omega),or_assoc]
  ·rw [show (x == x')=false by simp;omega,show decide (x<=x')=false from decide_eq_false (by omega),show decide (x>=x')=true from Qjg (by omega)];simp -implicitDefEqProofs only [cond_true,Qjc];obtain ⟨ac,g1,n,o,s⟩:=Ll e j hk m ((x,a,b)::A) B acc lA x' (by simp;omega) hA z hv hl;refine ⟨ac,g1,n,o,fun y g i=>?_⟩;rw [s y g i,Qae (fun p hp=>?_)];cases hp with
   |head=>dsimp only;omega
   |tail _ hp=>have:=an p hp;dsimp only;omega
theorem Qfy {A B:List Occ} (a:1<=t) (b:t<=7200) (hA:OL (-1) A) (hB:OL (-1) B) (lA:A.length<=6) (lB:B.length<=6):∃ F:List Sp2,Ja 400 t (A.map enc) (B.map enc) Tu2=some (F.map Y7,(0:Int))/\VS t (-1) F/\F.length<=12/\∀ y,0<=y->y<t->(InS y F↔FB t A B y):=by
 obtain ⟨F,g1,e,f,g⟩:=Ll a b (K:=fun w=>(some w:Option LL)) (k0:=fun _ _ _ w=>some w) (fun _ _ _ _=>rfl) 400 A B [] (-1) (-1) (by omega) hA hB trivial (by simp;omega);refine ⟨F,?_,e,f,fun y i j=>?_⟩
 ·unfold Ja;dsimp only [jn];rw [Q3U (by omega) hA,Q3U (by omega) hB,show decide (t<1)=false from decide_eq_false (by omega),show decide (t>7200)=false from decide_eq_false (by omega)];simp -implicitDefEqProofs only [Qjc,Q0,Qjp];unfold Kx;rw [show Qp 400 t (fun l m n k=>(some k:Option LL)) 400 (A.map enc) (B.map enc) []=_ from g1,Q0]
 ·rw [g y i j];exact ⟨fun h=>h.elim (fun h=>absurd h MY) id,.inr⟩
def Q2m (t:Int) (q:Sp2):Sp2:=(q.2,q.1+t-1)
theorem QaU (c:t<=7200) (d:1<=t) {K:LL->oP R} {k0:Int->Bool->LL->oP R} (hk:∀ a b w,k0 a b w=K w) {l:List Sp2} (hl:l.length<=1000):∀ (ac:List Sp2) (i m:Nat),l.drop i=ac->ac.length<m->(∀ q∈l,-1<q.1/\q.1<=t)->Zr n t (l.map Y7) ((l.length:Nat):Int) k0 m (i:Int) (((l.take i).map (Q2m t)).map Y7)=K ((l.map (Q2m t)).map Y7)
 |[],i,m+1,hd,_,_=>by
  have:=Ua hd;rw [Zr,show decide ((i:Int)<((l.length:Nat):Int))=false by simpa using this,Qjc,hk,List.take_of_length_le this]
 |(a,b)::ac,i,m+1,hd,hm,hr=>by
  obtain ⟨e,aj,hi⟩:=Yh hd;have ha:=hr (a,b) (Qjf e);rw [Zr,Qc hi,cond_true,QL e];simp -implicitDefEqProofs only [Q0,Qad,Q9I,Q2,Qs (show i<=1000 by omega),Q7 (x:=a+t) (by omega) (by omega),Q7 (x:=a+t-1) (by omega) (by omega),XF (show ((((l.take i).map (Q2m t)).map Y7).length+[[D.int .i64 b,D.int .i64 (a+t-1)]].length)*16<=100000 by simp;omega)];have:=QaU c d hk hl ac (i+1) m aj (by simpa using hm) hr;rw [YC e,Qjl,Qjl] at this;exact this
theorem QaL (c:t<=7200) (d:1<=t) {K:LL->oP R} {k0:Int->Bool->LL->oP R} (hk:∀ a b w,k0 a b w=K w) {l:List Sp2} (hl:l.length<=1000):∀ (ac:List Sp2) (i m:Nat),l.drop i=ac->ac.length<m->(∀ q∈l,-1<q.1/\q.1<=t)->YD n t ((l.length:Nat):Int) (l.map Y7) k0 m (i:Int) (((l.take i).map (Q2m t)).map Y7)=K ((l.map (Q2m t)).map Y7)
 |[],i,m+1,hd,_,_=>by
  have:=Ua hd;rw [YD,show decide ((i:Int)<((l.length:Nat):Int))=false by simp_all,Qjc,hk,List.take_of_length_le this]
 |(a,b)::ac,i,m+1,hd,hm,hr=>by
  obtain ⟨e,aj,hi⟩:=Yh hd;have ha:=hr (a,b) (Qjf e);have f:(l.map Y7)[i]? = some (Y7 (a,b)):=by rw [QjO,e];rfl
  rw [YD,Qc hi,cond_true,Qje,Y0 (by omega) (by omega),Int.toNat_natCast,f];simp -implicitDefEqProofs only [Q0,Qad,Q9I,Q2,Qs (show i<=1000 by omega),Q7 (x:=a+t) (by omega) (by omega),Q7 (x:=a+t-1) (by omega) (by omega),XF (show ((((l.take i).map (Q2m t)).map Y7).length+[[D.int .i64 b,D.int .i64 (a+t-1)]].length)*16<=100000 by simp;omega)];have:=QaL c d hk hl ac (i+1) m aj (by simpa using hm) hr;rw [YC e,Qjl,Qjl] at this;exact this
def WR (t:Int) (F G:List Sp2):Prop:=(G=F/\∀ b M c,F≠(0,b)::(M++[(c,t)]))\/∃ b M c,F=(0,b)::(M++[(c,t)])/\G=M++[(c,t+b)]
theorem Qaj {A B:List Occ} (r:2<=t) (f:t<=7200) (hA:OL (-1) A) (hB:OL (-1) B) (lA:A.length<=6) (lB:B.length<=6):∃ F G:List Sp2,VS t (-1) F/\F.length<=12/\(∀ y,0<=y->y<t->(InS y F↔FB t A B y))/\WR t F G /\
  WB 400 t (A.map enc) (B.map enc) Tu2=some (if cnt F=t then ([],(13:Int)) else ((G.map (Q2m t)).map Y7,(0:Int))):=by
 obtain ⟨F,g1,j,k,m⟩:=Qfy (t:=t) (by omega) f hA hB lA lB;have hr:=j.rng;suffices h:∃ G,WR t F G/\WB 400 t (A.map enc) (B.map enc) Tu2=some (if cnt F=t then ([],(13:Int)) else ((G.map (Q2m t)).map Y7,(0:Int))) by
  obtain ⟨G,h⟩:=h;exact ⟨F,G,j,k,m,h⟩
 unfold WB;rw [g1,Q0,Q9 (by rfl)];dsimp only;rw [Qf2 (by omega) f (by omega) j,Q0];have ac:YD 400 t ((F.length:Nat):Int) (F.map Y7) (fun s u o=>(some (o,(0:Int)):Option (LL × Int))) 400 0 []=some ((F.map (Q2m t)).map Y7,(0:Int)):=QaL f (by omega) (K:=fun w=>some (w,(0:Int))) (k0:=fun _ _ w=>some (w,(0:Int))) (fun _ _ _=>rfl) (by omega) F 0 400 rfl (by omega) (fun q hq=>by have:=hr q hq;omega);by_cases aj:cnt F=t
 ·simp only [if_pos aj];rw [QY (by simpa using aj)];by_cases hw:∃ b M c,F=(0,b)::(M++[(c,t)])
  ·obtain ⟨b,M,c,e⟩:=hw;exact ⟨_,.inr ⟨b,M,c,e,rfl⟩,rfl⟩
  ·exact ⟨F,.inl ⟨rfl,fun b M c e=>hw ⟨b,M,c,e⟩⟩,rfl⟩
 simp only [Qjy aj];rw [Q9 (by simpa using aj),Qje];rcases F with _ | ⟨⟨a,b⟩,F⟩
 ·refine ⟨[],.inl ⟨rfl,fun b M c e=>(nomatch e)⟩,?_⟩;rw [show decide (((([]:List Sp2).length:Nat):Int)>1)=false from rfl];simp -implicitDefEqProofs only [gbF,Qjc];exact ac
 rcases List.eq_nil_or_concat F with rfl | ⟨M,⟨c,d⟩,rfl⟩
 ·refine ⟨[(a,b)],.inl ⟨rfl,fun b M c e=>by have:=congrArg List.length e;simp at this⟩,?_⟩;rw [show decide ((((([(a,b)]:List Sp2)).length:Nat):Int)>1)=false from rfl];simp -implicitDefEqProofs only [gbF,Qjc];exact ac
 have hM:M.length<=10:=by simp at k;omega
 have ak:((a,b)::(M++[(c,d)])).length=M.length+1+1:=by simp
 have az:=hr (c,d) (by simp);have aq:=hr (a,b) (by simp);have e1:((a,b)::(M++[(c,d)])).map Y7=(Y7 (a,b)::M.map Y7)++Y7 (c,d)::[]:=by simp
 have gl:(((a,b)::(M++[(c,d)])).map Y7)[M.length+1]? = some (Y7 (c,d)):=by rw [e1];exact QeU (by simp)
 have sl:∀ v,(((a,b)::(M++[(c,d)])).map Y7).set (M.length+1) (Y7 (c,v))=((a,b)::(M++[(c,v)])).map Y7:=fun v=>by rw [e1,Qf8 (by simp)];simp
 rw [List.concat_eq_append] at *
 rw [ak,show decide (((M.length+1+1:Nat):Int)>1)=true from Qjg (by omega),Jq (show M.length+1+1<=1000 by omega) (by omega),Qjt,Y0 (by omega) (by omega),Y0 (by omega) (by omega)];simp -implicitDefEqProofs only [Q0,Int.toNat_natCast,gl,cond_true,show (((a,b)::(M++[(c,d)])).map Y7)[Int.toNat 0]? = some (Y7 (a,b)) from rfl,Qad,Q9I,Q2,Qh4];by_cases ao:a=0/\d=t
 ·obtain ⟨rfl,rfl⟩:=ao;refine ⟨M++[(c,d+b)],.inr ⟨b,M,c,rfl,rfl⟩,?_⟩;rw [show ((0:Int) == 0)=true from rfl,show (d == d)=true by simp,cond_true,cond_true,Q7 (x:=d+b) (by omega) (by omega),sl];have an:=QgU (Y7 (0,b)) ((M++[(c,d+b)]).map Y7);rw [List.map_cons,an.1,Q0,an.2,Qje];exact QaU (n:=400) f (by omega) (K:=fun w=>(some (w,(0:Int)):Option (LL × Int))) (k0:=fun _ _ w=>some (w,(0:Int))) (fun _ _ _=>rfl) (l:=M++[(c,d+b)]) (by simp;omega) (M++[(c,d+b)]) 0 400 rfl (by simp;omega) (fun q hq=>by
   rcases Qjk.1 hq with h | h
   ·have:=hr q (.tail _ (QjC _ h));omega
   ·obtain rfl:=Qjr.1 h;dsimp only at *
    omega)
 ·have hz:(bif (a == (0:Int)) then (d == t) else false)=false:=by
   by_cases ha:a=0
   ·rw [ha,show ((0:Int) == 0)=true from rfl,cond_true];simp only [beq_eq_false_iff_ne];exact fun h=>ao ⟨ha,h⟩
   ·rw [show (a == (0:Int))=false by simpa using ha,Qjc]
  refine ⟨_,.inl ⟨rfl,fun b' M' c' e=>ao ?_⟩,?_⟩
  ·have e2:=List.cons.inj e;have p:=List.append_inj_right' e2.2 rfl;have:=(Prod.mk.inj e2.1).1;have:=(Prod.mk.inj (List.cons.inj p).1).2;exact ⟨by omega,by omega⟩
  rw [hz,Qjc];rw [ak] at ac;exact ac
end
theorem Tg {α β:Type} {r:Nat->Int->β} {l:List α} {p:α->Bool} {E0 E1:β} (a:∀ m i q,l[i]? = some q->i<l.length->r (m+1) (i:Int)=bif p q then r m ((i+1:Nat):Int) else E0) (b:∀ m,r (m+1) ((l.length:Nat):Int)=E1) {fuel:Nat} (hf:l.length<fuel):r fuel 0=bif l.all p then E1 else E0:=by
 have go:∀ (ac:List α) (i m:Nat),l.drop i=ac->ac.length<m->i<=l.length->r m (i:Int)=bif ac.all p then E1 else E0:=by
  intro ac;induction ac with
  |nil=>
   intro i m hd hm hi;obtain ⟨m,rfl⟩:∃ k,m=k+1:=⟨m-1,by omega⟩
   grind
  |cons q ac ih=>
   intro i m hd hm hi;obtain ⟨m,rfl⟩:∃ k,m=k+1:=⟨m-1,by omega⟩
   grind [Yh]
 exact go l 0 fuel rfl hf (Nat.zero_le _)
theorem LA {α β S:Type} {r:Nat->Int->S->β} {l:List α} {f:S->α->S} {E:S->β} (a:∀ m i q s,l[i]? = some q->i<l.length->r (m+1) (i:Int) s=r m ((i+1:Nat):Int) (f s q)) (b:∀ m s,r (m+1) ((l.length:Nat):Int) s=E s) {fuel:Nat} (hf:l.length<fuel) (s:S):r fuel 0 s=E (l.foldl f s):=by
 have go:∀ (ac:List α) (i m:Nat) (s:S),l.drop i=ac->ac.length<m->i<=l.length->r m (i:Int) s=E (ac.foldl f s):=by
  intro ac;induction ac with
  |nil=>
   intro i m s hd hm hi;obtain ⟨m,rfl⟩:∃ k,m=k+1:=⟨m-1,by omega⟩
   grind
  |cons q ac ih=>
   intro i m s hd hm hi;obtain ⟨m,rfl⟩:∃ k,m=k+1:=⟨m-1,by omega⟩;obtain ⟨e,ak,aj⟩:=Yh hd;rw [a m i q s e aj,List.foldl_cons,ih (i+1) m _ ak (by simp_all) aj]
 exact go l 0 fuel s rfl hf (Nat.zero_le _)
theorem F6 {α:Type} {p:α->Bool}:∀ {l:List α} {c:Bool},l.foldl (fun c q=>c||p q) c=(c||l.any p)
 |[],c=>(Bool.or_false c).symm
 |q::l,c=>by rw [List.foldl_cons,F6,List.any_cons,Bool.or_assoc]
def MA (t:Int) (q:Occ):Bool:=!decide (q.2.2-q.2.1>t)
theorem QgZ {l:Int} {O:List Occ} (hO:OL l O) {q:Occ} (hq:q∈O):wJ (q.2.2-q.2.1)=q.2.2-q.2.1:=by
 have:=hO.mem q hq
 grind [Q7]
theorem Qev {t:Int} {O:List Occ} (a:1<=t) (b:t<=7200) (hO:OL (-1) O) (hl:O.length<=300):HG 400 t (O.map enc) (some:Bool->Option Bool)=some (O.all (MA t)):=by
 unfold HG;rw [show decide (t<1)=false from decide_eq_false (by omega),show decide (t>7200)=false from decide_eq_false (by omega),Q3U hl hO];simp -implicitDefEqProofs only [Qjc,Q0,Qjp,Qjv,Qje];refine (Tg (r:=fun m i=>U7 400 t (O.map enc) ((O.length:Nat):Int) (some false) (fun _ _=>some true) m i) (l:=O) (p:=MA t) (E0:=some false) (E1:=some true) (fun m i q e hi=>?_) (fun m=>?_) (by omega)).trans (by cases O.all (MA t) <;> rfl)
 ·rw [U7,Qc hi,cond_true,QL e];simp -implicitDefEqProofs only [Q0,Np,MZ,Fh,Q2,Qs (show i<=1000 by omega),QgZ hO (Qjf e)];unfold MA;cases decide (q.2.2-q.2.1>t) <;> rfl
 ·rw [U7,Qi,Qjc]
def tie (la:Int) (x y:Occ):Bool:=bif x.1 == y.1 then decide (la+y.2.1<=x.2.2) else false
def Q1T (per la mo:Int) (x y:Occ):Bool:=decide ((if x.2.2<mo+y.2.2 then mo+y.2.2 else x.2.2)-(if la+y.2.1<x.2.1 then la+y.2.1 else x.2.1)>per)
def Q88 (per la mo:Int) (A B:List Occ):Bool:=A.any fun x=>B.any fun y=>bif tie la x y then Q1T per la mo x y else false
def Q3x (la:Int) (A B:List Occ) (r:Int):Bool:=A.any fun x=>B.any fun y=>bif tie la x y then x.1 == r else false
namespace Cx
variable {R:Type} {n:Nat} {X:Cx}
theorem QfD {per la mo:Int} {O:List Occ} (hO:OL (-1) O) (hl:O.length<=300) {x:Occ} (hx : -1000<=x.2.1/\x.2.1<x.2.2/\x.2.2<=20000) (d:0<=la) (f:la<=20000) (h2:0<=mo) (g:mo<=20000) {k0:Int->Bool->Bool->oP R} {Kc:Bool->oP R} (hk:∀ a b c,k0 a b c=Kc c) (c:Bool) :
  QF n (O.map enc) ((O.length:Nat):Int) la (Q4 x.1) (Q4 x.2.1) (Q4 x.2.2) per la mo k0 400 0 c=Kc (c||O.any fun y=>bif tie la x y then Q1T per la mo x y else false):=by
 rw [<- F6];refine LA (r:=fun m i c=>QF n (O.map enc) ((O.length:Nat):Int) la (Q4 x.1) (Q4 x.2.1) (Q4 x.2.2) per la mo k0 m i c) (E:=Kc) (fun m i q c e hi=>?_) (fun m c=>?_) (by omega) c
 ·have:=hO.mem q (Qjf e);rw [QF,Qc hi,cond_true,QL e];simp -implicitDefEqProofs only [Q0,Np,MZ,Fh,Q2,Qs (show i<=1000 by omega),Q7 (x:=la+q.2.1) (by omega) (by omega)];unfold Y2;simp -implicitDefEqProofs only [Q0,Q7 (x:=la+q.2.1) (by omega) (by omega),Q7 (x:=mo+q.2.2) (by omega) (by omega)];rw [Q7 (x:=(if x.2.2<mo+q.2.2 then mo+q.2.2 else x.2.2)-(if la+q.2.1<x.2.1 then la+q.2.1 else x.2.1)) (by split <;> split <;> omega) (by split <;> split <;> omega)];show (bif tie la x q then QF n (O.map enc) ((O.length:Nat):Int) la (Q4 x.1) (Q4 x.2.1) (Q4 x.2.2) per la mo k0 m ((i+1:Nat):Int) (bif c then true else Q1T per la mo x q) else _)=_;cases tie la x q <;> cases c <;> rfl
 ·rw [QF,Qi,Qjc,hk]
theorem map1 {la:Int} {O:List Occ} (hO:OL (-1) O) (hl:O.length<=300) {x:Occ} (d:0<=la) (f:la<=20000) {k0:Int->Bool->(Int->Bool)->oP R} {Kc:(Int->Bool)->oP R} (hk:∀ a b c,k0 a b c=Kc c) (c:Int->Bool) :
  QV n (O.map enc) ((O.length:Nat):Int) la (Q4 x.1) (Q4 x.2.1) (Q4 x.2.2) k0 400 0 c=Kc (O.foldl (fun c y=>bif tie la x y then Q6o c x.1 true else c) c):=by
 refine LA (r:=fun m i c=>QV n (O.map enc) ((O.length:Nat):Int) la (Q4 x.1) (Q4 x.2.1) (Q4 x.2.2) k0 m i c) (E:=Kc) (fun m i q c e hi=>?_) (fun m c=>?_) (by omega) c
 ·have:=hO.mem q (Qjf e);rw [QV,Qc hi,cond_true,QL e];simp -implicitDefEqProofs only [Q0,Np,MZ,Fh,Q2,Qs (show i<=1000 by omega),Q7 (x:=la+q.2.1) (by omega) (by omega)];unfold Xq;simp -implicitDefEqProofs only [Q0];show (bif tie la x q then _ else _)=_;cases tie la x q <;> rfl
 ·rw [QV,Qi,Qjc,hk]
theorem QdW {q:Int->Bool} {x r:Int}:Q6o q x true r=(q r||(x == r)):=by
 grind [Q6o]
theorem Qe7 {la:Int} {x:Occ} {r:Int}:∀ {O:List Occ} {c:Int->Bool},O.foldl (fun c y=>bif tie la x y then Q6o c x.1 true else c) c r=(c r||O.any fun y=>bif tie la x y then x.1 == r else false)
 |[],c=>(Bool.or_false _).symm
 |y::O,c=>by
  rw [List.foldl_cons,Qe7,List.any_cons];cases tie la x y
  ·rfl
  ·rw [cond_true,cond_true,QdW,Bool.or_assoc]
def occN (X:Cx) (a:Nat):List Occ:=(X.occs X.L).getD a []
def N (X:Cx):Nat:=base X.nr X.L
variable (h:X.OK)
include h
theorem Ji {a:Nat} (ha:a<X.N):Q1 (GG (X.occs X.L)) (a:Int)=some [D.sl 3 ((X.occN a).map enc)]/\OL (-1) (X.occN a)/\(X.occN a).length<=6:=by
 obtain ⟨i,k,b,h2,rfl⟩:=Q5R ha;have e:X.occN (base X.nr i+k)=X.occ i k:=by
  unfold occN;rw [Qjj,show (X.occs X.L)[base X.nr i+k]? = some (X.occ i k) from Q0M h2 b];rfl
 rw [e];exact ⟨Qea b h2,Qe9 h b h2⟩
theorem Qck:X.jns.length<=30:=by
 have:=QcK h (i:=X.L) (Qjn _);have:=h.tl
 grind [jns,List.length_append,List.length_map]
structure JOK (X:Cx) (J:List Tup):Prop where
 at':∀ t∈J,t.1<X.N/\t.2.1<X.N/\0<=t.2.2.1/\t.2.2.1<=20000/\0<=t.2.2.2/\t.2.2.2<=20000
 len:J.length<=30
theorem Qgo {J:List Tup} (hJ:X.JOK J) {per:Int} {t:Tup} (ht:t∈J) (K:Bool->oP R):ZO 400 per (GG (X.occs X.L)) (t.1:Int) (t.2.1:Int) t.2.2.1 t.2.2.1 t.2.2.2 false K=K (Q88 per t.2.2.1 t.2.2.2 (X.occN t.1) (X.occN t.2.1)):=by
 have hj:=hJ.at' t ht;have oa:=Ji h hj.1;have ob:=Ji h hj.2.1;unfold ZO Q88;rw [oa.1];simp -implicitDefEqProofs only [Q0,Qjb,QH,Qje];rw [<- Bool.false_or (List.any _ _),<- F6];refine LA (r:=fun m i c=>Xf 400 ((X.occN t.1).map enc) (((X.occN t.1).length:Nat):Int) (t.2.1:Int) t.2.2.1 per (GG (X.occs X.L)) t.2.2.1 t.2.2.2 (fun b d a=>K a) m i c) (E:=K) (fun m i q c e hi=>?_) (fun m c=>?_) (by omega) false
 ·have hq:=oa.2.1.mem q (Qjf e);rw [Xf,Qc hi,cond_true,QL e,ob.1];simp -implicitDefEqProofs only [Q0,Np,MZ,Fh,Qjb,QH,Qje,Qs (show i<=1000 by omega)];exact QfD (per:=per) ob.2.1 (by omega) ⟨hq.2.1,hq.2.2.1,hq.2.2.2.1⟩ hj.2.2.1 hj.2.2.2.1 hj.2.2.2.2.1 hj.2.2.2.2.2 (Kc:=fun c=>Xf 400 ((X.occN t.1).map enc) (((X.occN t.1).length:Nat):Int) (t.2.1:Int) t.2.2.1 per (GG (X.occs X.L)) t.2.2.1 t.2.2.2 (fun b d a=>K a) m ((i+1:Nat):Int) c) (fun _ _ _=>rfl) c
 ·rw [Xf,Qi,Qjc]
theorem QhA {J:List Tup} (hJ:X.JOK J) {t:Tup} (ht:t∈J) (q:Int->Bool):∃ q',(∀ K:(Int->Bool)->oP R,ZP 400 (GG (X.occs X.L)) (t.1:Int) (t.2.1:Int) t.2.2.1 q K=K q')/\∀ r,q' r=(q r||Q3x t.2.2.1 (X.occN t.1) (X.occN t.2.1) r):=by
 have hj:=hJ.at' t ht;have oa:=Ji h hj.1;have ob:=Ji h hj.2.1;refine ⟨(X.occN t.1).foldl (fun q x=>(X.occN t.2.1).foldl (fun c y=>bif tie t.2.2.1 x y then Q6o c x.1 true else c) q) q,fun K=>?_,fun r=>?_⟩
 ·unfold ZP;rw [oa.1];simp -implicitDefEqProofs only [Q0,Qjb,QH,Qje];refine LA (r:=fun m i c=>Xh 400 ((X.occN t.1).map enc) (((X.occN t.1).length:Nat):Int) (t.2.1:Int) t.2.2.1 (GG (X.occs X.L)) (fun b d a=>K a) m i c) (E:=K) (fun m i q c e hi=>?_) (fun m c=>?_) (by omega) q
  ·rw [Xh,Qc hi,cond_true,QL e,ob.1];simp -implicitDefEqProofs only [Q0,Np,MZ,Fh,Qjb,QH,Qje,Qs (show i<=1000 by omega)];exact map1 ob.2.1 (by omega) hj.2.2.1 hj.2.2.2.1 (Kc:=fun c=>Xh 400 ((X.occN t.1).map enc) (((X.occN t.1).length:Nat):Int) (t.2.1:Int) t.2.2.1 (GG (X.occs X.L)) (fun b d a=>K a) m ((i+1:Nat):Int) c) (fun _ _ _=>rfl) c
  ·rw [Xh,Qi,Qjc]
 ·unfold Q3x;generalize X.occN t.1=A;induction A generalizing q with
  |nil=>exact (Bool.or_false _).symm
  |cons x A ih=>rw [List.foldl_cons,ih,Qe7,List.any_cons,Bool.or_assoc]
def jab (a b:Nat) (t:Tup):Bool:=bif (bif (t.1:Int) == (a:Int) then (t.2.1:Int) == (b:Int) else false) then true else bif (t.1:Int) == (b:Int) then (t.2.1:Int) == (a:Int) else false
def TRb (X:Cx) (J:List Tup) (a b:Nat) (r:Int):Bool:=J.any fun t=>bif jab a b t then Q3x t.2.2.1 (X.occN t.1) (X.occN t.2.1) r else false
theorem Qgr {J:List Tup} (hJ:X.JOK J) {a b:Nat}:∃ q,(XV 400 (GG (X.occs X.L)) (J.map tuR) (a:Int) (b:Int) some:Option (Int->Bool))=some q/\∀ r,q r=X.TRb J a b r:=by
 have hl:=hJ.len;unfold XV;rw [Qje];have go:∀ (ac:List Tup) (i m:Nat) (q:Int->Bool),J.drop i=ac->ac.length<m->∃ q',(Qt 400 (a:Int) (b:Int) (J.map tuR) ((J.length:Nat):Int) (GG (X.occs X.L)) (fun n o j=>some j) m (i:Int) q:Option (Int->Bool))=some q'/\∀ r,q' r=(q r||X.TRb ac a b r):=by
  intro ac;induction ac with
  |nil=>
   intro i m q hd hm;obtain ⟨m,rfl⟩:∃ k,m=k+1:=⟨m-1,by simp at hm;omega⟩;have:=Ua hd;exact ⟨q,by rw [Qt,show decide ((i:Int)<((J.length:Nat):Int))=false by simpa using this,Qjc],fun r=>(Bool.or_false _).symm⟩
  |cons t ac ih=>
   intro i m q hd hm;obtain ⟨m,rfl⟩:∃ k,m=k+1:=⟨m-1,by simp at hm;omega⟩;obtain ⟨e,ak,hi⟩:=Yh hd;obtain ⟨l,c,h2⟩:=QhA (R:=Int->Bool) h hJ (Qjf e) q;rw [Qt,Qc hi,cond_true,QL e];simp -implicitDefEqProofs only [Q0,tuR,Qjb,Qjd,Q2,Qs (show i<=1000 by omega),c];show ∃ q',(bif jab a b t then _ else _)=some q'/\_;cases aj:jab a b t with
   |false=>
    obtain ⟨d,f,g⟩:=ih (i+1) m q ak (by simpa using hm);refine ⟨d,f,fun r=>?_⟩;rw [g,TRb,TRb,List.any_cons,aj,Qjc,Bool.false_or]
   |true=>
    obtain ⟨d,f,g⟩:=ih (i+1) m l ak (by simpa using hm);refine ⟨d,f,fun r=>?_⟩;rw [g,h2,TRb,TRb,List.any_cons,aj,cond_true,Bool.or_assoc]
 obtain ⟨q,c,h2⟩:=go J 0 400 (fun _=>false) rfl (by omega);exact ⟨q,c,fun r=>by rw [h2,Bool.false_or]⟩
theorem Q93:∀ o∈X.occs X.L,OL (-1) o/\o.length<=6:=by
 intro o ho;obtain ⟨a,ha⟩:=List.getElem?_of_mem ho;have ac:=(Qjq.1 ha).1;rw [show (X.occs X.L).length=X.N from Zu] at ac;obtain ⟨b,h2⟩:=(Ji h ac).2
 simp_all [occN,Qjj]
def aloneJ (X:Cx) (per:Int) (J:List Tup):Bool:=bif (X.occs X.L).all (fun o=>o.all (MA per)) then J.all fun t=>!Q88 per t.2.2.1 t.2.2.2 (X.occN t.1) (X.occN t.2.1) else false
theorem Qdt {per:Int} (p0:1<=per) (p1:per<=300) {J:List Tup} (hJ:X.JOK J) (K:Bool->oP R):ZB 400 per (GG (X.occs X.L)) (J.map tuR) K=K (X.aloneJ per J):=by
 have hN:(X.occs X.L).length<=6:=by rw [show (X.occs X.L).length=base X.nr X.L from Zu];exact base_le h
 have hl:=hJ.len;have hO:=Q93 h;unfold ZB;rw [J4,Qje];refine (Tg (r:=fun m i=>Xw 400 (GG (X.occs X.L)) (((X.occs X.L).length:Nat):Int) per (K false) (fun c d=>X7 400 (J.map tuR) ((J.length:Nat):Int) per (GG (X.occs X.L)) (K false) (fun a b=>K true) 400 0) m i) (l:=X.occs X.L) (p:=fun o=>o.all (MA per)) (E0:=K false) (E1:=bif J.all (fun t=>!Q88 per t.2.2.1 t.2.2.2 (X.occN t.1) (X.occN t.2.1)) then K true else K false) (fun m i o e hi=>?_) (fun m=>?_) (by omega)).trans ?_
 ·have ho:=hO o (Qjf e);have ac:Q1 (GG (X.occs X.L)) (i:Int)=some [D.sl 3 (o.map enc)]:=QL e;rw [Xw,Qc hi,cond_true,ac];simp -implicitDefEqProofs only [Q0,Qjb,QH,Qev p0 (show per<=7200 by omega) ho.1 (show o.length<=300 by omega),Qs (show i<=1000 by omega)];cases o.all (MA per) <;> rfl
 ·rw [Xw,Qi,Qjc];refine Tg (r:=fun m i=>X7 400 (J.map tuR) ((J.length:Nat):Int) per (GG (X.occs X.L)) (K false) (fun a b=>K true) m i) (fun m i t e hi=>?_) (fun m=>?_) (by omega)
  ·rw [X7,Qc hi,cond_true,QL e];simp -implicitDefEqProofs only [Q0,tuR,Qjb,Qjd,Q2,Qs (show i<=1000 by omega),Qgo h hJ (Qjf e)];cases Q88 per t.2.2.1 t.2.2.2 (X.occN t.1) (X.occN t.2.1) <;> rfl
  ·rw [X7,Qi,Qjc]
 ·unfold aloneJ;cases (X.occs X.L).all (fun o=>o.all (MA per)) <;> cases J.all (fun t=>!Q88 per t.2.2.1 t.2.2.2 (X.occN t.1) (X.occN t.2.1)) <;> rfl
end Cx
namespace Cx
def aR (X:Cx) (i k:Nat):List D:=[Q4 1,Q4 ((2*(base X.nr i+k):Nat):Int),Q4 ((2*(base X.nr i+k)+1:Nat):Int),Q4 (X.run i k),Q4 (X.run i k+X.ex i k),Q4 (X.w i)]
def aD (X:Cx) (i k:Nat):List D:=[Q4 2,Q4 ((2*(base X.nr i+k)+1:Nat):Int),Q4 ((2*(base X.nr i+k+1):Nat):Int),Q4 (X.mn i k),Q4 (X.mx i k),Q4 (X.w i)]
def pl (X:Cx) (i:Nat):Nat->LL
 |0=>[]
 |k+1=>pl X i k++[X.aR i k]++(if k<X.nr i-1 then [X.aD i k] else [])
def pls (X:Cx):Nat->LL
 |0=>[]
 |i+1=>pls X i++X.pl i (X.nr i)
def chE (X:Cx) (row:List D):List D:=match row with
 |[.int _ f,.int _ fr,.int _ t,.int _ tr,mn,mx,w]=>[Q4 3,Q4 ((2*(base X.nr f.toNat+fr.toNat)+1:Nat):Int),Q4 ((2*(base X.nr t.toNat+tr.toNat):Nat):Int),mn,mx,w]
 |_=>[]
def tuE (X:Cx) (t:Tup):List D:=[Q4 4,Q4 ((2*(base X.nr t.1+(X.nr t.1-1))+1:Nat):Int),Q4 ((2*(base X.nr t.2.1+0):Nat):Int),Q4 t.2.2.1,Q4 t.2.2.2,Q4 1]
def syE (X:Cx) (row:List D):List D:=match row with
 |[_,_,_,_,o]=>[Q4 5,Q4 ((2*(base X.nr 0+0):Nat):Int),Q4 ((2*(base X.nr 1+0):Nat):Int),o,o,Q4 0]
 |_=>[]
def planned (X:Cx) (Ch Sy:LL):LL:=X.pls X.L++Ch.map X.chE++X.T.map X.tuE++Sy.map X.syE
variable {R:Type} {n:Nat} {X:Cx}
theorem Q6k {i:Nat}:∀ {k:Nat},(X.pl i k).length<=2*k
 |0=>Qjn _
 |k+1=>by
  have:=Q6k (i:=i) (k:=k);rw [pl,List.length_append,List.length_append];split <;> simp <;> omega
theorem BG:∀ {i:Nat},(X.pls i).length<=2*base X.nr i
 |0=>Qjn _
 |i+1=>by
  have:=BG (i:=i);have:=Q6k (X:=X) (i:=i) (k:=X.nr i);rw [pls,List.length_append,base];omega
structure LsOK (X:Cx) (per:Int) (Ch Sy:LL):Prop where
 ch:∀ row∈Ch,∃ (f fr t tr:Nat) (mn mx w:Int),row=[Q4 f,Q4 fr,Q4 t,Q4 tr,Q4 mn,Q4 mx,Q4 w]/\f<X.Ls.length/\fr<X.nr f/\t<X.Ls.length/\tr<X.nr t/\(0<=mn/\mn<20/\mn<=mx/\mx<mn+per)/\0<=w/\w<3
 chl:Ch.length<=2
 sy:∀ row∈Sy,∃ o:Int,row=[Q4 0,Q4 0,Q4 1,Q4 0,Q4 o]/\0<=o/\o<per/\2<=X.Ls.length
 syl:Sy.length<=1
variable (h:X.OK) {per:Int} {Ch Sy De:LL} (hl:X.LsOK per Ch Sy)
theorem Qd4 {A:LL} (hA:A.length<=1000) {a1 a2 a b c d:Int} (K:LL->oP R):X9 n A a1 a2 a b c d K=K (A++[[Q4 a1,Q4 a2,Q4 a,Q4 b,Q4 c,Q4 d]]):=by
 grind [X9,XF,Q0]
include h
theorem QfN {i:Nat} (hi:i<X.Ls.length) {k0:Int->Bool->LL->oP R}:Qr 400 (i:Int) (GI X.Ls i) ((X.nr i:Nat):Int) (Q4 (X.w i)) (D.sl 4 (GI X.Ls i)) (X.fst X.L) (encI (X.runs X.L)) k0 400 0 (X.pls i)=k0 ((X.nr i:Nat):Int) false (X.pls i++X.pl i (X.nr i)):=by
 have hn:=(H9 h hi).2.1;have hb:=Ye h (i:=i) (by omega);have hp:=BG (X:=X) (i:=i);have hw:wJ (((List.length (GI X.Ls i):Nat):Int)-1)=((X.nr i-1:Nat):Int):=Jq (k:=X.nr i) (by omega) (by omega);refine Qv (r:=fun m k=>Qr 400 (i:Int) (GI X.Ls i) ((X.nr i:Nat):Int) (Q4 (X.w i)) (D.sl 4 (GI X.Ls i)) (X.fst X.L) (encI (X.runs X.L)) k0 m k (X.pls i++X.pl i k.toNat)) (N:=X.nr i) (fun m k hk=>?_) (fun m=>?_) (X.nr i) 400 0 (by omega) (by omega) |> QjN (by simp [pl])
 ·simp only [Int.toNat_natCast];have r:=rd h hi hk;have b:=r.ex0;have e1:=r.ex1;have hr:=SB h hi hk;have ac:Q1 (GI X.Ls i) (k:Int)=some [Q4 (rF X.Ls i k 0),Q4 (X.ex i k),Q4 (X.mn i k),Q4 (X.mx i k)]:=by rw [Qe,r.row]
  have ak:=Q6k (X:=X) (i:=i) (k:=k);have aj:=Q5m (X:=X) hi hk;rw [Qr,Qc hk,cond_true,ac];simp -implicitDefEqProofs only [Q0,Qjb,Qjd,Q2,QH,hw,Q02 (n:=400) h hi (show k<=10 by omega),aj,Qs (show k<=1000 by omega),Qbf (n:=400) (show base X.nr i+k<=1000 by omega),QfI (n:=400) (show base X.nr i+k<=1000 by omega),Qs (show base X.nr i+k<=1000 by omega),Qbf (n:=400) (show base X.nr i+k+1<=1000 by omega),Q7 (x:=X.run i k+X.ex i k) (by omega) (by omega),Qd4 (n:=400) (A:=X.pls i++X.pl i k) (by simp;omega),Qd4 (n:=400) (A:=X.pls i++X.pl i k++[[Q4 1,Q4 ((2*(base X.nr i+k):Nat):Int),Q4 ((2*(base X.nr i+k)+1:Nat):Int),Q4 (X.run i k),Q4 (X.run i k+X.ex i k),Q4 (X.w i)]]) (by simp;omega)];by_cases a:k<X.nr i-1
  ·rw [Qc a,cond_true,pl,if_pos a,<- Qji,<- Qji];rfl
  ·rw [show decide ((k:Int)<((X.nr i-1:Nat):Int))=false from decide_eq_false (by omega),Qjc,pl,Qjy a,QjA,<- Qji];rfl
 ·simp only [Int.toNat_natCast];rw [Qr,Qi,Qjc]
include hl
theorem Q9S (K:LL->oP R):Ym 400 X.Ls Ch (X.T.map tuR) Sy (X.fst X.L) (encI (X.runs X.L)) [] K=K (X.planned Ch Sy):=by
 have l1:=h.l1;have tl:=h.tl;have hp:=BG (X:=X) (i:=X.L);have hb:=base_le h;have chl:=hl.chl;have syl:=hl.syl;unfold Ym;have s2:∀ k0:Int->Bool->LL->oP R,QB 400 X.Ls ((X.Ls.length:Nat):Int) (X.fst X.L) (encI (X.runs X.L)) k0 400 0 []=k0 ((X.Ls.length:Nat):Int) false (X.pls X.L):=by
  intro k0;refine Qv (r:=fun m i=>QB 400 X.Ls ((X.Ls.length:Nat):Int) (X.fst X.L) (encI (X.runs X.L)) k0 m i (X.pls i.toNat)) (N:=X.Ls.length) (fun m i hi=>?_) (fun m=>?_) X.Ls.length 400 0 (by omega) (by omega)
  ·simp only [Int.toNat_natCast];rw [QB,Qc hi,cond_true,Qe,(H9 h hi).1];simp -implicitDefEqProofs only [Q0,Qjb,Qjd,QH,Qs (show i<=1000 by omega)];exact QfN h hi
  ·simp only [Int.toNat_natCast];rw [QB,Qi,Qjc];rfl
 have k:∀ k0:Int->Bool->LL->oP R,QD 400 Ch ((Ch.length:Nat):Int) (X.fst X.L) k0 400 0 (X.pls X.L)=k0 ((Ch.length:Nat):Int) false (X.pls X.L++Ch.map X.chE):=by
  intro k0;refine Qv (r:=fun m j=>QD 400 Ch ((Ch.length:Nat):Int) (X.fst X.L) k0 m j (X.pls X.L++(Ch.take j.toNat).map X.chE)) (N:=Ch.length) (fun m j hj=>?_) (fun m=>?_) Ch.length 400 0 (by omega) (by omega) |> QjN (by simp)
  ·simp only [Int.toNat_natCast];obtain ⟨row,e⟩:∃ q,Ch[j]? = some q:=⟨Ch[j],Qjh hj⟩;obtain ⟨f,fr,t,tr,mn,mx,w,rfl,g1,l,c,v,x,y⟩:=hl.ch row (Qjf e);have nf:=(H9 h g1).2.1;have nt:=(H9 h c).2.1;have bf:=Ye h (i:=f) (by omega);have bt:=Ye h (i:=t) (by omega);rw [QD,Qc hj,cond_true,Qe,e,YC e,Qjl,<- Qji];simp -implicitDefEqProofs only [Q0,Qjb,Qjd,Q2,Q02 (n:=400) h g1 (show fr<=10 by omega),Q02 (n:=400) h c (show tr<=10 by omega),Qs (show j<=1000 by omega),QfI (n:=400) (show base X.nr f+fr<=1000 by omega),Qbf (n:=400) (show base X.nr t+tr<=1000 by omega),Qd4 (n:=400) (A:=X.pls X.L++(Ch.take j).map X.chE) (by simp;omega)];rfl
  ·simp only [Int.toNat_natCast];rw [QD,Qi,Qjc,Qjw]
 have p:∀ k0:Int->Bool->LL->oP R,QC 400 (X.T.map tuR) ((X.T.length:Nat):Int) (X.fst X.L) X.Ls k0 400 0 (X.pls X.L++Ch.map X.chE)=k0 ((X.T.length:Nat):Int) false (X.pls X.L++Ch.map X.chE++X.T.map X.tuE):=by
  intro k0;refine Qv (r:=fun m j=>QC 400 (X.T.map tuR) ((X.T.length:Nat):Int) (X.fst X.L) X.Ls k0 m j (X.pls X.L++Ch.map X.chE++(X.T.take j.toNat).map X.tuE)) (N:=X.T.length) (fun m j hj=>?_) (fun m=>?_) X.T.length 400 0 (by omega) (by omega) |> QjN (by simp)
  ·simp only [Int.toNat_natCast];obtain ⟨⟨a,b,lo,hi⟩,e⟩:∃ q,X.T[j]? = some q:=⟨X.T[j],Qjh hj⟩;have ht:=h.tr _ (Qjf e);have g1:a<X.Ls.length:=ht.1;have c:b<X.Ls.length:=ht.2.1;have nf:=(H9 h g1).2.1;have bf:=Ye h (i:=a) (by omega);have bt:=Ye h (i:=b) (by omega);have ac:Q1 (X.T.map tuR) (j:Int)=some [Q4 a,Q4 b,Q4 lo,Q4 hi]:=QL e;have s:X.pls X.L++Ch.map X.chE++(X.T.take (j+1)).map X.tuE=X.pls X.L++Ch.map X.chE++(X.T.take j).map X.tuE++[X.tuE (a,b,lo,hi)]:=by rw [YC e,Qjl,<- Qji];rfl
   have d:=Q02 (R:=Int) (n:=400) h c (Nat.zero_le 10) some;rw [show ((0:Nat):Int)=0 from rfl] at d;rw [QC,Qc hj,cond_true,ac,s];simp -implicitDefEqProofs only [Q0,Qjb,Qjd,Q2,QdI (n:=400) h g1,d,Qs (show j<=1000 by omega),QfI (n:=400) (show base X.nr a+(X.nr a-1)<=1000 by omega),Qbf (n:=400) (show base X.nr b+0<=1000 by omega),Qd4 (n:=400) (A:=X.pls X.L++Ch.map X.chE++(X.T.take j).map X.tuE) (by simp;omega)];rfl
  ·simp only [Int.toNat_natCast];rw [QC,Qi,Qjc,Qjw]
 have u:∀ k0:Int->Bool->LL->oP R,QE 400 Sy ((Sy.length:Nat):Int) (X.fst X.L) k0 400 0 (X.pls X.L++Ch.map X.chE++X.T.map X.tuE)=k0 ((Sy.length:Nat):Int) false (X.planned Ch Sy):=by
  intro k0;refine Qv (r:=fun m j=>QE 400 Sy ((Sy.length:Nat):Int) (X.fst X.L) k0 m j (X.pls X.L++Ch.map X.chE++X.T.map X.tuE++(Sy.take j.toNat).map X.syE)) (N:=Sy.length) (fun m j hj=>?_) (fun m=>?_) Sy.length 400 0 (by omega) (by omega) |> QjN (by simp)
  ·simp only [Int.toNat_natCast];obtain ⟨row,e⟩:∃ q,Sy[j]? = some q:=⟨Sy[j],Qjh hj⟩;obtain ⟨o,rfl,g1,l,c⟩:=hl.sy row (Qjf e);have bt:=Ye h (i:=1) (by omega);have d:=Q02 (R:=Int) (n:=400) h (show 0<X.Ls.length by omega) (Nat.zero_le 10) some;have g:=Q02 (R:=Int) (n:=400) h (show 1<X.Ls.length by omega) (Nat.zero_le 10) some;simp only [show ((0:Nat):Int)=0 from rfl,show ((1:Nat):Int)=1 from rfl] at d g;rw [QE,Qc hj,cond_true,Qe,e,YC e,Qjl,<- Qji];simp -implicitDefEqProofs only [Q0,Qjb,Qjd,Q2,d,g,Qs (show j<=1000 by omega),Qbf (n:=400) (show base X.nr 0+0<=1000 by simp [base]),Qbf (n:=400) (show base X.nr 1+0<=1000 by omega),Qd4 (n:=400) (A:=X.pls X.L++Ch.map X.chE++X.T.map X.tuE++(Sy.take j).map X.syE) (by simp;omega)];rfl
  ·simp only [Int.toNat_natCast];rw [QE,Qi,Qjc,Qjw];rfl
 rw [s2,k,Qje,p,u]
end Cx
theorem OL.uniq:∀ {l:Int} {O:List Occ},OL l O->∀ {p q:Occ},p∈O->q∈O->p.1=q.1->p=q
 |_,[],_,_,_,h,_,_=>nomatch h
 |l,(x,a,b)::r,⟨d,h2,f,g,i,c⟩,p,q,hp,hq,e=>by
  cases hp with
  |head=>
   cases hq with
   |head=>rfl
   |tail _ hq=>have:=(c.mem q hq).1;dsimp only at e;omega
  |tail _ hp=>
   cases hq with
   |head=>have:=(c.mem p hp).1;dsimp only at e;omega
   |tail _ hq=>exact c.uniq hp hq e
theorem Qbk {t:Int} {A A' B:List Occ} {y:Int}:FB t (A++A') B y↔FB t A B y\/FB t A' B y:=by
 constructor
 ·rintro ⟨x,a,b,c,d,e,h2,f⟩;rcases Qjk.1 e with e | e
  ·exact .inl ⟨x,a,b,c,d,e,h2,f⟩
  ·exact .inr ⟨x,a,b,c,d,e,h2,f⟩
 ·rintro (⟨x,a,b,c,d,e,h2,f⟩ | ⟨x,a,b,c,d,e,h2,f⟩)
  ·exact ⟨x,a,b,c,d,QjC _ e,h2,f⟩
  ·exact ⟨x,a,b,c,d,QjB _ e,h2,f⟩
def FK (f:Nat->Bool) (n:Nat):LL:=(List.range n).map fun i=>[D.bool (f i)]
theorem Q5X {f:Nat->Bool} {n:Nat}:(FK f n).length=n:=by simp [FK]
theorem EH {f:Nat->Bool} {n i:Nat} (h:i<n):(FK f n)[i]? = some [D.bool (f i)]:=by simp [FK,h]
theorem Qa8 {f g:Nat->Bool} {n i:Nat} (h:∀ y,y<n->g y=if y=i then true else f y):(FK f n).set i [D.bool true]=FK g n:=by
 apply List.ext_getElem?;intro j
 grind [EH,List.getElem?_eq_none,Q5X]
section
variable {R:Type} {n:Nat} {t:Int}
theorem Q5g {O:List Occ} (hl:O.length<=1000) {k0:oP R} {k1:Int->Bool->oP R} {E:oP R} (hk:∀ b c,k1 b c=E):∀ (ac:List Occ) (i m:Nat) (last:Int),O.drop i=ac->ac.length<m -> -1<=last->OL last ac->(0<i->∃ a b,O[i-1]? = some (last,a,b))->YU n (O.map enc) k0 k1 m (i:Int)=E
 |[],i,m+1,last,hd,_,_,_,_=>by
  have:=Ua hd;rw [YU,Qje,show decide ((i:Int)<((O.length:Nat):Int))=false by simpa using this,Qjc,hk]
 |(x,a,b)::ac,i,m+1,last,hd,hm,an,⟨g,h2,h,j,k,d⟩,hp=>by
  obtain ⟨e,aj,hi⟩:=Yh hd;have ih:=Q5g (k0:=k0) hl hk ac (i+1) m x aj (by simpa using hm) (by omega) d (fun _=>⟨a,b,e⟩);rw [YU,Qje,Qc hi,cond_true,QL e];simp -implicitDefEqProofs only [Q0,Np,MZ,Fh,Q2,show decide (x<0)=false from decide_eq_false (by omega),Qjv,Bool.true_and,Qjc,Qs (show i<=1000 by omega)];have rest:∀ z:Bool,z=false->(bif bif bif bif z then true else decide (a<(-65536:Int)) then true else decide (b>(65536:Int)) then true else decide (a>=b) then k0 else YU n (O.map enc) k0 k1 m ((i+1:Nat):Int))=E:=fun z hz=>by
   rw [hz,show decide (a < -65536)=false from decide_eq_false (by omega),show decide (b>65536)=false from decide_eq_false (by omega),show decide (a>=b)=false from decide_eq_false (by omega)];exact ih
  by_cases f:i=0
  ·subst f;simp -implicitDefEqProofs only [show decide (((0:Nat):Int)>0)=false from rfl,gbF,Qjc];exact rest false rfl
  ·obtain ⟨a',b',e'⟩:=hp (by omega);rw [Jq (show i<=1000 by omega) (by omega),QL e'];simp -implicitDefEqProofs only [Q0,Np,Q2,show decide ((i:Int)>0)=true from Qjg (by omega),cond_true];exact rest _ (decide_eq_false (by omega))
theorem Q8y {O:List Occ} (hl:O.length<=300) (h:OL (-1) O):JA 400 (O.map enc) (some:Bool->Option Bool)=some true:=by
 exact Q5g (by omega) (fun _ _=>rfl) O 0 400 (-1) rfl (by omega) (by omega) h (fun h=>by omega)
theorem Q7W {O:List Occ} (hl:O.length<=1000) {x:Int} {K:D->D->D->Bool->oP R} {k0:D->D->D->oP R} {k1:Int->Bool->oP R} (g:∀ a b c,k0 a b c=K a b c true) (h:∀ a b,k1 a b=K (Q4 0) (Q4 0) (Q4 0) false):∀ (ac:List Occ) (i m:Nat),O.drop i=ac->ac.length<m->(∃ c d,(x,c,d)∈ac/\Uj n (O.map enc) x k0 k1 m (i:Int)=K (Q4 x) (Q4 c) (Q4 d) true)\/((∀ p∈ac,p.1≠x)/\Uj n (O.map enc) x k0 k1 m (i:Int)=K (Q4 0) (Q4 0) (Q4 0) false)
 |[],i,m+1,hd,_=>by
  have:=Ua hd;refine .inr ⟨fun p hp=>(nomatch hp),?_⟩;rw [Uj,Qje,show decide ((i:Int)<((O.length:Nat):Int))=false by simpa using this,Qjc,h]
 |(x',a,b)::ac,i,m+1,hd,hm=>by
  obtain ⟨e,aj,hi⟩:=Yh hd;rw [Uj,Qje,Qc hi,cond_true,QL e];simp -implicitDefEqProofs only [Q0,Np,MZ,Fh,Q2,Qs (show i<=1000 by omega),g];by_cases hx:x'=x
  ·subst hx;exact .inl ⟨a,b,.head _,by rw [show (x' == x')=true by simp,cond_true]⟩
  ·rw [show (x' == x)=false by simpa using hx,Qjc];rcases Q7W hl g h ac (i+1) m aj (by simpa using hm) with ⟨c,d,f,h2⟩ | ⟨f,h2⟩
   ·exact .inl ⟨c,d,.tail _ f,h2⟩
   ·refine .inr ⟨fun p hp=>?_,h2⟩;cases hp with
    |head=>exact hx
    |tail _ hp=>exact f p hp
theorem Qe6 {f k y:Int} (a:1<=t) (hy:0<=y) (ac:y<t) (hk:0<=k) (aj:k<t):y=(f+k) % t↔(y-f) % t=k:=by
 constructor
 ·intro h;rw [h,Int.sub_emod,Int.emod_emod,<- Int.sub_emod,show f+k-f=k by omega];exact QjD hk aj
 ·intro h;rw [<- h,Int.add_emod,Int.emod_emod,<- Int.add_emod,show f+(y-f)=y by omega];exact (QjD hy ac).symm
theorem QcS (c:1<=t) (o:t<=300) {K:LL->oP R} {k0:Int->Bool->LL->oP R} (hk:∀ a b w,k0 a b w=K w) {A:List Occ} {i:Nat} {x a b d nn:Int} (e:A[i]? = some (x,a,b)) (ha : -1000<=a) (ar:a<=20000) (hd : -1000<=d) (aq:d<=20000) {f:Nat->Bool} :
  ∃ g:Nat->Bool,Z4 n t (A.map enc) (i:Int) nn (Q4 d) k0 400 0 (FK f t.toNat)=K (FK g t.toNat)/\∀ y,y<t.toNat->(g y=true↔f y=true\/((y:Int)-(a-d+1)) % t<nn):=by
 let N:Nat:=(if nn<t then nn else t).toNat;have hN:(N:Int)=if nn<0 then 0 else if nn<t then nn else t:=by
  show (((if nn<t then nn else t).toNat:Nat):Int)=_;split <;> split <;> omega
 have aj:(N:Int)<=t:=by rw [hN];split <;> (try split) <;> omega
 have ao:(N:Int)<=nn\/N=0:=by
  by_cases h:nn<0
  ·rw [if_pos h] at hN;right;omega
  ·rw [Qjy h] at hN;left;rw [hN];split <;> omega
 refine ⟨fun y=>f y||decide (((y:Int)-(a-d+1)) % t<(N:Int)),?_,fun y hy=>?_⟩
 ·have j:FK f t.toNat=FK (fun y=>f y||decide (((y:Int)-(a-d+1)) % t<((0:Nat):Int))) t.toNat:=by
   unfold FK;apply List.map_congr_left;intro y _;have:=Qju ((y:Int)-(a-d+1)) (show t≠0 by omega);show [D.bool (f y)]=[D.bool (f y||decide (((y:Int)-(a-d+1)) % t<((0:Nat):Int)))];rw [show decide (((y:Int)-(a-d+1)) % t<((0:Nat):Int))=false from decide_eq_false (by omega),Bool.or_false]
  rw [j];refine Qv (r:=fun m k=>Z4 n t (A.map enc) (i:Int) nn (Q4 d) k0 m k (FK (fun y=>f y||decide (((y:Int)-(a-d+1)) % t<k)) t.toNat)) (N:=N) (fun m k ak=>?_) (fun m=>?_) N 400 0 (by omega) (by omega)
  ·have l:=Qju (a-d+1+(k:Int)) (show t≠0 by omega);have p:=Qjs (a-d+1+(k:Int)) (show 0<t by omega);rw [Z4,show decide ((k:Int)<nn)=true from Qjg (by omega),show decide ((k:Int)<t)=true from Qjg (by omega),cond_true,cond_true,QL e];simp -implicitDefEqProofs only [Q0,MZ,Q2,Q7 (x:=a-d) (by omega) (by omega),Q7 (x:=a-d+1) (by omega) (by omega),Q7 (x:=a-d+1+(k:Int)) (by omega) (by omega),Qfu (n:=n) (x:=a-d+1+(k:Int)) c (show t<=7200 by omega) (by omega) (by omega),Q5X,Y0 (len:=t.toNat) l (by omega),EH (f:=fun y=>f y||decide (((y:Int)-(a-d+1)) % t<(k:Int))) (n:=t.toNat) (i:=((a-d+1+(k:Int)) % t).toNat) (by omega),Qjz];rw [Qa8 (g:=fun y=>f y||decide (((y:Int)-(a-d+1)) % t<((k+1:Nat):Int))) (fun y hy=>?_),Q7 (by omega) (by omega)]
   ·rfl
   ·have hd:=Qe6 (t:=t) (f:=a-d+1) (k:=k) (y:=y) c (by omega) (by omega) (by omega) (by omega);by_cases ac:y=((a-d+1+(k:Int)) % t).toNat
    ·rw [if_pos ac,show decide (((y:Int)-(a-d+1)) % t<((k+1:Nat):Int))=true from Qjg (by have:=hd.1 (by omega);omega),Bool.or_true]
    ·rw [Qjy ac];congr 1;rw [decide_eq_decide];have:¬ ((y:Int)-(a-d+1)) % t=(k:Int):=fun h=>ac (by have:=hd.2 h;omega)
     omega
  ·rw [Z4];rw [show (bif decide ((N:Int)<nn) then decide ((N:Int)<t) else false)=false by
    by_cases h:(N:Int)<nn
    ·rw [Qjg h,cond_true];exact decide_eq_false (by rw [hN];split <;> (try split) <;> omega)
    ·rw [decide_eq_false h,Qjc],Qjc,hk]
 ·have q:=Qju ((y:Int)-(a-d+1)) (show t≠0 by omega);have s:=Qjs ((y:Int)-(a-d+1)) (show 0<t by omega);rw [Bool.or_eq_true,decide_eq_true_eq];refine or_congr_right ?_;rw [hN];split <;> (try split) <;> omega
theorem Q0U (o:1<=t) (p:t<=300) {K:LL->oP R} {k0:Int->Bool->LL->oP R} (hk:∀ a b w,k0 a b w=K w) {A B:List Occ} (hA:OL (-1) A) (hB:OL (-1) B) (lA:A.length<=100) (lB:B.length<=300):∀ (ac P:List Occ) (m:Nat) (f:Nat->Bool),A=P++ac->ac.length<m->(∀ y,y<t.toNat->(f y=true↔FB t P B y)) ->
  ∃ g:Nat->Bool,Y1 400 t (A.map enc) (B.map enc) k0 m ((P.length:Nat):Int) (FK f t.toNat)=K (FK g t.toNat)/\∀ y,y<t.toNat->(g y=true↔FB t A B y)
 |[],P,m+1,f,hP,_,hf=>by
  rw [QjA] at hP;subst hP;refine ⟨f,?_,hf⟩;rw [Y1,Qje,Qi,Qjc,hk]
 |(x,a,b)::ac,P,m+1,f,hP,hm,hf=>by
  have e:A[P.length]? = some (x,a,b):=by rw [hP,QjI (Qjn _),Nat.sub_self];rfl
  have hi:P.length<A.length:=by rw [hP];simp
  have hq:=hA.mem (x,a,b) (Qjf e);dsimp only at hq;have ak:A=(P++[(x,a,b)])++ac:=by rw [hP];simp
  have aj:=Q7W (n:=400) (O:=B) (x:=x) (K:=fun i j k z=>(some (i,j,k,z):Option (D × D × D × Bool))) (k0:=fun i j k=>some (i,j,k,true)) (k1:=fun _ _=>some (Q4 0,Q4 0,Q4 0,false)) (by omega) (fun _ _ _=>rfl) (fun _ _=>rfl) B 0 400 rfl (by omega);rw [Y1,Qje,Qc hi,cond_true,QL e];simp -implicitDefEqProofs only [Q0,Np,MZ,Fh,Q2];unfold Bj;have nx:wJ ((P.length:Int)+1)=(((P++[(x,a,b)]).length:Nat):Int):=by rw [Q7 (by omega) (by omega)];simp
  rw [nx];rcases aj with ⟨c,d,g1,q⟩ | ⟨g1,q⟩
  ·have u:=hB.mem (x,c,d) g1;dsimp only at u;rw [show Uj 400 (B.map enc) x (fun i j k=>(some (i,j,k,true):Option (D × D × D × Bool))) (fun v aa=>some (D.int .i64 (0:Int),D.int .i64 (0:Int),D.int .i64 (0:Int),false)) 400 0=some (Q4 x,Q4 c,Q4 d,true) from q];simp -implicitDefEqProofs only [Q0,Qjp,Qjc,Q2];have aq:wJ (wJ (wJ (wJ (b-a)+d)-c)-1)=b-a+d-c-1:=by
    rw [Q7 (x:=b-a) (by omega) (by omega),Q7 (x:=b-a+d) (by omega) (by omega),Q7 (x:=b-a+d-c) (by omega) (by omega),Q7 (by omega) (by omega)]
   rw [aq];obtain ⟨g,k1,k2⟩:=QcS (n:=400) (nn:=b-a+d-c-1) o p (K:=fun w=>Y1 400 t (A.map enc) (B.map enc) k0 m (((P++[(x,a,b)]).length:Nat):Int) w) (k0:=fun _ _ w=>Y1 400 t (A.map enc) (B.map enc) k0 m (((P++[(x,a,b)]).length:Nat):Int) w) (fun _ _ _=>rfl) (f:=f) e (d:=d) (by omega) (by omega) (by omega) (by omega);rw [k1];refine Q0U o p hk hA hB lA lB ac _ m g ak (by simpa using hm) (fun y hy=>?_);rw [k2 y hy,Qbk,hf y hy];refine or_congr_right ⟨fun h=>⟨x,a,b,c,d,.head _,g1,h⟩,?_⟩;rintro ⟨x',a',b',c',d',l,r,s⟩;cases l with
   |head=>
    cases hB.uniq r g1 rfl;exact s
   |tail _ l=>nomatch l
  ·rw [show Uj 400 (B.map enc) x (fun i j k=>(some (i,j,k,true):Option (D × D × D × Bool))) (fun v aa=>some (D.int .i64 (0:Int),D.int .i64 (0:Int),D.int .i64 (0:Int),false)) 400 0=some (Q4 0,Q4 0,Q4 0,false) from q];simp -implicitDefEqProofs only [Q0,Qjv,cond_true];refine Q0U o p hk hA hB lA lB ac _ m f ak (by simpa using hm) (fun y hy=>?_);rw [Qbk,hf y hy];refine ⟨.inl,fun h=>h.elim id ?_⟩;rintro ⟨x',a',b',c',d',l,r,s⟩;cases l with
   |head=>exact (g1 _ r rfl).elim
   |tail _ l=>nomatch l
theorem VS.lastlt {t c d:Int}:∀ {l:Int} {M:List Sp2},VS t l (M++[(c,d)])->(∀ q∈M,q.2<c)/\c<d/\d<=t
 |l,[],⟨g,h2,f,_⟩=>⟨fun q hq=>(nomatch hq),h2,f⟩
 |l,(a,b)::M,⟨g,h2,f,e⟩=>by
  have ih:=e.lastlt;refine ⟨fun q hq=>?_,ih.2⟩;cases hq with
  |head=>
   cases M with
   |nil=>exact e.1
   |cons p M=>have:=ih.1 p (.head _);have:=e.1;have:=e.2.1;dsimp only at *;omega
  |tail _ hq=>exact ih.1 q hq
theorem VS.pw {t:Int}:∀ {l:Int} {F:List Sp2},VS t l F->F.Pairwise fun p q=>p.2<q.1
 |_,[],_=>.nil
 |l,(a,b)::r,⟨d,h2,e,c⟩=>.cons (fun q hq=>(c.rng q hq).1) c.pw
theorem VS.sep {t:Int}:∀ {l:Int} {F:List Sp2},VS t l F->∀ p∈F,∀ q∈F,p=q\/p.2<q.1\/q.2<p.1
 |_,[],_,p,hp,_,_=>nomatch hp
 |l,(a,b)::r,⟨d,h2,e,c⟩,p,hp,q,hq=>by
  have hr:=c.rng;cases hp with
  |head=>
   cases hq with
   |head=>exact .inl rfl
   |tail _ hq=>exact .inr (.inl (hr q hq).1)
  |tail _ hp=>
   cases hq with
   |head=>exact .inr (.inr (hr p hp).1)
   |tail _ hq=>exact c.sep p hp q hq
structure GP (t:Int) (F G:List Sp2):Prop where
 asc:G.Pairwise fun p q=>p.1<q.1
 rng:∀ q∈G,0<=q.1/\q.1<t/\q.1<q.2/\q.2<q.1+t
 ins:∀ q∈G,∀ z,q.1<=z->z<q.2->InS (z % t) F
 out:∀ q∈G,¬ InS (q.2 % t) F
 st:∀ x,0<=x->x<t->((InS x F/\¬ InS ((x-1) % t) F)↔∃ q∈G,q.1=x)
theorem Q9z {z t:Int} (a:0<=z) (b:z<t):z % t=z:=QjD a b
theorem Qhc {z t:Int} (a:t<=z) (b:z<t+t):z % t=z-t:=by
 rw [<- QjD (show 0<=z-t by omega) (show z-t<t by omega),Int.sub_emod_right]
theorem Qh1 {t:Int} (h:1<=t):(-1:Int) % t=t-1:=by
 rw [<- QjD (show 0<=t-1 by omega) (show t-1<t by omega),show t-1 = -1+t by omega,Int.add_emod_right]
theorem WR.gp {t:Int} {F G:List Sp2} (l:1<=t) (hv:VS t (-1) F) (hc:cnt F≠t) (hw:WR t F G):GP t F G:=by
 have hr:=hv.rng;have hs:=hv.sep;have a2:=hv.cnt (by omega);have az:=Q9i hv (by omega);have gap:∀ q∈F,¬ InS q.2 F:=fun q hq ⟨p,hp,h⟩=>by
  grind
 have aj:∀ q∈F,¬ InS (q.1-1) F:=fun q hq ⟨p,hp,h⟩=>by
  grind
 have ac:∀ q∈F,q.2-q.1<t:=fun q hq=>by
  have:=az q hq;have:=a2.2.2 (List.length_pos_of_mem hq);omega
 have ak:∀ x,0<=x->x<t->InS x F->¬ InS ((x-1) % t) F->∃ q∈F,q.1=x:=fun x i j ⟨q,hq,h⟩ hn=>by
  have:=hr q hq;by_cases hx:q.1=x
  ·exact ⟨q,hq,hx⟩
  ·exact (hn ⟨q,hq,by rw [Q9z (by omega) (by omega)];omega,by rw [Q9z (by omega) (by omega)];omega⟩).elim
 rcases hw with ⟨rfl,hw⟩ | ⟨b,M,c,rfl,rfl⟩
 ·have ar:∀ p∈G,∀ q∈G,p.1=0->q.2=t->False:=fun p hp q hq o h2=>by
   have ax:p≠q:=fun e=>by have:=ac p hp;rw [<- e] at h2;omega
   rcases G with _ | ⟨⟨a,b⟩,G⟩
   ·nomatch hp
   obtain ⟨r,s,u,f⟩:=id hv;have an:=f.rng;have a3:p=(a,b):=by
    cases hp with
    |head=>rfl
    |tail _ hp=>have:=an p hp;omega
   subst a3;obtain rfl:a=0:=o;rcases List.eq_nil_or_concat G with rfl | ⟨M,⟨c,d⟩,rfl⟩
   ·cases hq with
    |head=>exact ax rfl
    |tail _ hq=>nomatch hq
   ·rw [List.concat_eq_append] at *
    have hl:=f.lastlt;cases hq with
    |head=>exact ax rfl
    |tail _ hq=>
     rcases Qjk.1 hq with hq | hq
     ·have:=hl.1 q hq;omega
     ·obtain rfl:=Qjr.1 hq;obtain rfl:d=t:=h2;exact hw b M c rfl
  refine ⟨hv.pw.imp_of_mem fun {p q} hp hq h=>by have:=hr p hp;omega,fun q hq=>by have:=hr q hq;have:=ac q hq;omega,fun q hq z g k=>?_,fun q hq=>?_,fun x i j=>⟨fun h=>ak x i j h.1 h.2,?_⟩⟩
  ·have:=hr q hq;rw [Q9z (by omega) (by omega)];exact ⟨q,hq,g,k⟩
  ·have:=hr q hq;by_cases m:q.2=t
   ·rw [m,Int.emod_self];rintro ⟨p,hp,h⟩;have:=hr p hp;exact ar p hp q hq (by omega) m
   ·rw [Q9z (by omega) (by omega)];exact gap q hq
  ·rintro ⟨q,hq,rfl⟩;have:=hr q hq;refine ⟨⟨q,hq,QjP _,this.2.1⟩,?_⟩;by_cases n:q.1=0
   ·rw [n,show (0:Int)-1 = -1 by omega,Qh1 l];rintro ⟨p,hp,h⟩;have:=hr p hp;exact ar q hq p hp n (by omega)
   ·rw [Q9z (by omega) (by omega)];exact aj q hq
 ·obtain ⟨r,s,u,f⟩:=id hv;have hl:=f.lastlt;have an:=f.rng;have hM:∀ q∈M,b<q.1/\q.1<q.2/\q.2<c:=fun q hq=>by
   have:=an q (QjC _ hq);have:=hl.1 q hq;omega
  have aq:∀ q∈M,q∈(0,b)::(M++[(c,t)]):=fun q hq=>.tail _ (QjC _ hq)
  have ao:(c,t)∈(0,b)::(M++[(c,t)]):=.tail _ (QjB _ (.head _));have ay:(0,b)∈(0,b)::(M++[(c,t)]):=.head _;have a5:b<c:=(an (c,t) (QjB _ (.head _))).1;refine ⟨?_,fun q hq=>?_,fun q hq z g k=>?_,fun q hq=>?_,fun x i j=>⟨fun h=>?_,?_⟩⟩
  ·refine QjG.2 ⟨(QjG.1 f.pw).1.imp_of_mem fun {p q} hp hq h=>by have:=hM p hp;omega,List.pairwise_singleton _ _,fun p hp q hq=>?_⟩;obtain rfl:=Qjr.1 hq;have:=hM p hp;dsimp only;omega
  ·rcases Qjk.1 hq with h | h
   ·have:=hM q h;omega
   ·obtain rfl:=Qjr.1 h;dsimp only;omega
  ·rcases Qjk.1 hq with h | h
   ·have:=hM q h;rw [Q9z (by omega) (by omega)];exact ⟨q,aq q h,g,k⟩
   ·obtain rfl:=Qjr.1 h;dsimp only at g k;by_cases hz:z<t
    ·rw [Q9z (by omega) hz];exact ⟨_,ao,g,hz⟩
    ·rw [Qhc (by omega) (by omega)];exact ⟨_,ay,by dsimp only;omega,by dsimp only;omega⟩
  ·rcases Qjk.1 hq with h | h
   ·have:=hM q h;rw [Q9z (by omega) (by omega)];exact gap q (aq q h)
   ·obtain rfl:=Qjr.1 h;dsimp only;rw [Qhc (by omega) (by omega),show t+b-t=b by omega];exact gap _ ay
  ·obtain ⟨q,hq,rfl⟩:=ak x i j h.1 h.2;cases hq with
   |head=>
    refine (h.2 ?_).elim;dsimp only;rw [show (0:Int)-1 = -1 by omega,Qh1 l];exact ⟨_,ao,by dsimp only;omega,by dsimp only;omega⟩
   |tail _ hq=>
    rcases Qjk.1 hq with hq | hq
    ·exact ⟨q,QjC _ hq,rfl⟩
    ·obtain rfl:=Qjr.1 hq;exact ⟨(c,t+b),QjB _ (.head _),rfl⟩
  ·rintro ⟨q,hq,rfl⟩;rcases Qjk.1 hq with h | h
   ·have:=hM q h;refine ⟨⟨q,aq q h,QjP _,this.2.1⟩,?_⟩;rw [Q9z (by omega) (by omega)];exact aj q (aq q h)
   ·obtain rfl:=Qjr.1 h;dsimp only;refine ⟨⟨_,ao,QjP _,hl.2.1⟩,?_⟩;rw [Q9z (by omega) (by omega)];exact aj _ ao
theorem Q9W {t:Int} {F:List Sp2} (i:1<=t) (hv:VS t (-1) F):cnt F=t↔∀ y,0<=y->y<t->InS y F:=by
 rcases F with _ | ⟨⟨a,b⟩,r⟩
 ·exact ⟨fun h=>by grind [cnt],fun h=>absurd (h 0 (by omega) (by omega)) MY⟩
 obtain ⟨j,k,f,e⟩:=hv;have hc:=e.cnt f;rcases r with _ | ⟨⟨c,d⟩,r⟩
 ·simp only [cnt,T1];constructor
  ·omega
  ·intro h;have g:=(h 0 (by omega) (by omega)).resolve_right MY;have h2:=(h (t-1) (by omega) (by omega)).resolve_right MY;omega
 ·have:=hc.2.2 (by simp);have w:=e.1;constructor
  ·grind [cnt]
  ·intro h;have ac:=e.rng;have:=ac (c,d) (.head _);dsimp only at this;obtain ⟨p,hp,g,h2⟩:=h b (by omega) (by omega)
   grind
theorem Q4G (d:t<=300) {f:Nat->Bool} {k0:Int->Int->Bool->oP R} {K:Int->oP R} (hk:∀ a b c,k0 a b c=K a):∀ (c m x:Nat) (w:Int),(x:Int)+c=t->c<m->0<=w->w<=x->(w=x↔∀ y:Nat,y<x->f y=true)->∃ w',Wt n t (FK f t.toNat) k0 m w (x:Int)=K w'/\(w'=t↔∀ y:Nat,(y:Int)<t->f y=true)
 |0,m+1,x,w,hx,_,_,_,hw=>⟨w,by rw [Wt,show decide ((x:Int)<t)=false from decide_eq_false (by omega),Qjc,hk],by
  grind⟩
 |c+1,m+1,x,w,hx,hm,w0,w1,hw=>by
  have ac:Q1 (FK f t.toNat) (x:Int)=some [D.bool (f x)]:=by grind [Qe,EH]
  rw [Wt,show decide ((x:Int)<t)=true from Qjg (by omega),cond_true,ac];simp -implicitDefEqProofs only [Q0,Qjb,N3,Qs (show x<=1000 by omega)];cases aj:f x with
  |false=>
   refine Q4G d hk c m (x+1) w (by omega) (by omega) w0 (by omega) ⟨fun h=>by omega,fun h=>?_⟩
   simp_all
  |true=>
   rw [cond_true,Q7 (by omega) (by omega)];refine Q4G d hk c m (x+1) (w+1) (by omega) (by omega) (by omega) (by omega) ⟨fun h y hy=>?_,fun h=>?_⟩
   all_goals grind
theorem Qeg (b:1<=t) (c:t<=300) {f:Nat->Bool} {k0:Int->Bool->oP R} {a:Int} {L:Nat} (a0:0<=a) (a1:a<t) (hL:(L:Int)<t) (aj:∀ k:Nat,k<L->f ((a+k) % t).toNat=true) (ac:f ((a+L) % t).toNat=false):WD n t (FK f t.toNat) a k0 400 0=k0 (L:Int) false:=by
 have step:∀ k:Nat,k<=L->Q1 (FK f t.toNat) (Int.tmod (wJ (a+k)) t)=some [D.bool (f ((a+k) % t).toNat)]:=fun k hk=>by
  have d:=Qju (a+(k:Int)) (show t≠0 by omega);have e:=Qjs (a+(k:Int)) (show 0<t by omega);rw [Q7 (by omega) (by omega),Int.tmod_eq_emod_of_nonneg (by omega)];obtain ⟨z,hz⟩:∃ z:Nat,(a+(k:Int)) % t=z:=⟨((a+(k:Int)) % t).toNat,by omega⟩;rw [hz,Qe,Int.toNat_natCast];exact EH (by omega)
 refine Qv (r:=fun m k=>WD n t (FK f t.toNat) a k0 m k) (N:=L) (fun m k hk=>?_) (fun m=>?_) L 400 0 (by omega) (by omega)
 ·rw [WD,EC (by omega),step k (by omega)];simp -implicitDefEqProofs only [Q0,Qjb,N3,aj k hk,cond_true,Qs (show k<=1000 by omega)]
 ·rw [WD,EC (by omega),step L (Qjn _)];simp -implicitDefEqProofs only [Q0,Qjb,N3,ac,Qjc]
theorem Q4y (g:1<=t) (i:t<=300) {f:Nat->Bool} {F G:List Sp2} (hf:∀ y:Nat,(y:Int)<t->(f y=true↔InS y F)) (hG:GP t F G) {K:LL->oP R} {k0:Int->Bool->LL->oP R} (hk:∀ a b w,k0 a b w=K w):∀ (c m x:Nat) (P S:List Sp2),(x:Int)+c=t->c<m->G=P++S->P.length<=x->(∀ q∈P,q.1<x)->(∀ q∈S,(x:Int)<=q.1)->Yg 400 t (FK f t.toNat) k0 m (x:Int) ((P.map (Q2m t)).map Y7)=K ((G.map (Q2m t)).map Y7)
 |0,m+1,x,P,S,hx,_,ac,_,_,hS=>by
  have:S=[]:=by
   cases S with
   |nil=>rfl
   |cons q S=>have:=hS q (.head _);have:=hG.rng q (by simp_all);omega
  rw [Yg,show decide ((x:Int)<t)=false from decide_eq_false (by omega),Qjc,hk,ac,this,QjA]
 |c+1,m+1,x,P,S,hx,hm,ac,hl,hP,hS=>by
  have fi:∀ z:Int,f (z % t).toNat=true↔InS (z % t) F:=fun z=>by
   have l:=Qju z (show t≠0 by omega);have o:=Qjs z (show 0<t by omega);have:=hf (z % t).toNat (by omega);rw [show (((z % t).toNat:Nat):Int)=z % t by omega] at this;exact this
  have ar:Q1 (FK f t.toNat) (x:Int)=some [D.bool (f x)]:=by rw [Qe];exact EH (by omega)
  have l:=Qju ((x:Int)-1) (show t≠0 by omega);have o:=Qjs ((x:Int)-1) (show 0<t by omega);have an:Q1 (FK f t.toNat) (((x:Int)-1) % t)=some [D.bool (f (((x:Int)-1) % t).toNat)]:=by
   obtain ⟨z,hz⟩:∃ z:Nat,((x:Int)-1) % t=z:=⟨(((x:Int)-1) % t).toNat,by omega⟩;rw [hz,Qe,Int.toNat_natCast];exact EH (by omega)
  rw [Yg,show decide ((x:Int)<t)=true from Qjg (by omega),cond_true,ar];simp -implicitDefEqProofs only [Q0,Qjb,N3,Qs (show x<=1000 by omega),Q7 (x:=(x:Int)-1) (by omega) (by omega),Qfu (n:=400) (x:=(x:Int)-1) g (show t<=7200 by omega) (by omega) (by omega),an];have ak:=hG.st x (by omega) (by omega);have ao:=hf x (by omega);have au:=fi ((x:Int)-1);have a4:∀ (R':Type) (p:Bool) (d:R') (v:R') (k:R'->oP R),gb p (some v) d k=gb p (some v) d k:=fun _ _ _ _ _=>rfl
  have skip:(∀ q∈G,q.1≠x)->Yg 400 t (FK f t.toNat) k0 m ((x+1:Nat):Int) ((P.map (Q2m t)).map Y7)=K ((G.map (Q2m t)).map Y7):=fun aw=>by
   refine Q4y g i hf hG hk c m (x+1) P S (by omega) (by omega) ac (by omega) (fun q hq=>by have:=hP q hq;omega) (fun q hq=>?_);have:=hS q hq;have:=aw q (by rw [ac];exact QjB _ hq);omega
  cases hb:f x with
  |false=>
   simp -implicitDefEqProofs only [Qjv,Qjp,gbF,cond_true];refine skip fun q hq e=>?_
   have:=(ak.2 ⟨q,hq,e⟩).1;rw [<- ao,hb] at this;cases this
  |true=>
   simp -implicitDefEqProofs only [Qjv,Qjp,Q0,Qjc];cases j:f (((x:Int)-1) % t).toNat with
   |true=>
    rw [cond_true];refine skip fun q hq e=>?_
    exact (ak.2 ⟨q,hq,e⟩).2 (au.1 j)
   |false=>
    rw [Qjc];obtain ⟨q,hq,ax⟩:=ak.1 ⟨ao.1 hb,fun h=>by rw [<- au,j] at h;cases h⟩;obtain ⟨S',az⟩:∃ S',S=q::S':=by
     rw [ac] at hq;rcases Qjk.1 hq with h | h
     ·have:=hP q h;omega
     cases S with
     |nil=>nomatch h
     |cons p S=>
      cases h with
      |head=>exact ⟨S,rfl⟩
      |tail _ h=>
       have ha:=hG.asc;rw [ac] at ha;have:=(Qjx.1 (QjG.1 ha).2.1).1 q h;have:=hS p (.head _);omega
    subst az;have hr:=hG.rng q hq;obtain ⟨L,hL⟩:∃ L:Nat,q.2=x+L:=⟨(q.2-q.1).toNat,by omega⟩;have ay:=hG.ins q hq;have aq:=hG.out q hq;rw [Qeg (n:=400) (k0:=_) (a:=(x:Int)) (L:=L) g i (by omega) (by omega) (by omega) (fun k hk=>(fi _).2 (ay _ (by omega) (by omega))) (by
     cases h:f (((x:Int)+L) % t).toNat with
     |false=>rfl
     |true=>rw [<- hL] at h;exact (aq ((fi _).1 h)).elim)]
    have hw:[Q4 ((x:Int)+L),Q4 ((x:Int)+t-1)]=Y7 (Q2m t q):=by rw [<- hL,<- ax];rfl
    rw [Q7 (x:=(x:Int)+L) (by omega) (by omega),Q7 (x:=(x:Int)+t) (by omega) (by omega),Q7 (x:=(x:Int)+t-1) (by omega) (by omega),XF (by simp;omega),Q0];have:=Q4y g i hf hG hk c m (x+1) (P++[q]) S' (by omega) (by omega) (by rw [ac];simp) (by simp;omega) (fun p hp=>by
     rcases Qjk.1 hp with h | h
     ·have:=hP p h;omega
     ·obtain rfl:=Qjr.1 h;omega) (fun p hp=>by
     have ha:=hG.asc;rw [ac] at ha;have:=(Qjx.1 (QjG.1 ha).2.1).1 p hp;omega)
    rw [Qjl,Qjl,List.map_singleton,List.map_singleton,<- hw] at this;exact this
theorem Qak {A B:List Occ} (o:2<=t) (a:t<=300) (hA:OL (-1) A) (hB:OL (-1) B) (lA:A.length<=6) (lB:B.length<=6) {F G:List Sp2} (hv:VS t (-1) F) (hF:∀ y,0<=y->y<t->(InS y F↔FB t A B y)) (hw:WR t F G) :
  KR 400 t (A.map enc) (B.map enc) Tu2=some (if cnt F=t then ([],(13:Int)) else ((G.map (Q2m t)).map Y7,(0:Int))):=by
 obtain ⟨f,i,j⟩:=Q0U (by omega) a (K:=fun w=>(some (w,(0:Int)):Option (LL × Int))) (k0:=fun _ _ w=>some (w,(0:Int))) (fun _ _ _=>rfl) hA hB (by omega) (by omega) A [] 400 (fun _=>false) rfl (by omega) (fun y _=>⟨fun h=>(nomatch h),fun ⟨_,_,_,_,_,h,_⟩=>(nomatch h)⟩);have hf:∀ y:Nat,(y:Int)<t->(f y=true↔InS y F):=fun y hy=>by rw [j y (by omega),hF y (by omega) hy]
 have hm:KG 400 t (A.map enc) (B.map enc) Tu2=some (FK f t.toNat,(0:Int)):=by
  unfold KG;rw [Q3L (by omega) (show t<=7200 by omega),Q8y (by omega) hA,Q8y (by omega) hB];simp -implicitDefEqProofs only [Q0,Qjp,Qjv,Qjc];rw [show (bif decide ((0:Int)<=t)&&decide (t<=t) then some () else none)=some () by rw [QY (by simp;omega)],Q0,XF (by omega),Q0];have e:List.replicate t.toNat [D.bool false]=FK (fun _=>false) t.toNat:=by unfold FK;rw [List.map_const',List.length_range]
  rw [e];exact i
 unfold KR;rw [hm,Q0,Q9 (by rfl)];obtain ⟨w,w1,k⟩:=Q4G (n:=400) a (f:=f) (K:=fun d=>bif (d == t) then (some ([],(13:Int)):Option (LL × Int)) else Yg 400 t (FK f t.toNat) (fun l m g=>some (g,(0:Int))) 400 (0:Int) []) (k0:=fun d p r=>bif (d == t) then (some ([],(13:Int)):Option (LL × Int)) else Yg 400 t (FK f t.toNat) (fun l m g=>some (g,(0:Int))) 400 (0:Int) []) (fun _ _ _=>rfl) t.toNat 400 0 0 (by omega) (by omega) (by omega) (by omega) ⟨fun _ y hy=>by omega,fun _=>rfl⟩;refine w1.trans ?_;have hc:w=t↔cnt F=t:=by
  rw [k,Q9W (by omega) hv];constructor
  ·intro h y s u;have:=(hf y.toNat (by omega)).1 (h y.toNat (by omega));rw [show ((y.toNat:Nat):Int)=y by omega] at this;exact this
  ·exact fun h y hy=>(hf y hy).2 (h y (by omega) hy)
 by_cases ac:cnt F=t
 ·rw [if_pos ac,QY (by simpa using hc.2 ac)]
 ·rw [Qjy ac,Q9 (by simpa using fun h=>ac (hc.1 h))];exact Q4y (by omega) a hf (hw.gp (by omega) hv ac) (K:=fun w=>some (w,(0:Int))) (k0:=fun _ _ w=>some (w,(0:Int))) (fun _ _ _=>rfl) t.toNat 400 0 [] G (by omega) (by omega) rfl (by simp) (fun q hq=>nomatch hq) (fun q hq=>((hw.gp (by omega) hv ac).rng q hq).1)
end
theorem Ei {R:Type} {n:Nat} {O:List Occ} (hl:O.length<=1000) {q:Int->Bool} {K:LL->oP R} {k0:Int->Bool->LL->oP R} (hk:∀ a b w,k0 a b w=K w):∀ (ac P:List Occ) (j m:Nat),O.drop j=ac->ac.length<m->P.length<=j->XX n (O.map enc) ((O.length:Nat):Int) q k0 m (j:Int) (P.map enc)=K ((P++ac.filter fun o=>!q o.1).map enc)
 |[],P,j,m+1,hd,_,_=>by
  have:=Ua hd;rw [XX,show decide ((j:Int)<((O.length:Nat):Int))=false by simpa using this,Qjc,hk,List.filter_nil,QjA]
 |o::ac,P,j,m+1,hd,hm,hP=>by
  obtain ⟨e,aj,hj⟩:=Yh hd;rw [XX,Qc hj,cond_true,QL e];simp -implicitDefEqProofs only [Q0,Np,MZ,Fh,Q2,Qs (show j<=1000 by omega),XF (show ((P.map enc).length+[[Q4 o.1,Q4 o.2.1,Q4 o.2.2]].length)*24<=100000 by simp;omega)];rw [List.filter_cons];cases hq:q o.1 with
  |true=>
   rw [Qjp,Qjc,Qjy (by simp)];exact Ei hl hk ac P (j+1) m aj (by simpa using hm) (by omega)
  |false=>
   rw [Qjv,cond_true,if_pos rfl];have:=Ei (n:=n) (q:=q) hl hk ac (P++[o]) (j+1) m aj (by simpa using hm) (by simp;omega);rw [Qjl,Qji] at this;exact this
theorem Q5P {R:Type} {O:List Occ} (hl:O.length<=300) {q:Int->Bool} (K:LL->(Int->Bool)->oP R):Ug 400 (O.map enc) q K=K ((O.filter fun o=>!q o.1).map enc) q:=by
 unfold Ug;rw [Qje];exact Ei (by omega) (K:=fun w=>K w q) (fun _ _ _=>rfl) O [] 0 400 rfl (by omega) (by simp)
namespace Cx
def Q7f (a b:Nat) (w:Sp2):List D:=[Q4 6,Q4 ((2*a:Nat):Int),Q4 ((2*b:Nat):Int),Q4 w.1,Q4 w.2,Q4 0]
def fil (X:Cx) (J:List Tup) (a b:Nat):List Occ:=(X.occN a).filter fun o=>!X.TRb J a b o.1
def WV (X:Cx) (per:Int) (J:List Tup) (a b:Nat):Option (List Sp2):=match WB 400 per ((X.fil J a b).map enc) ((X.fil J b a).map enc) Tu2 with
 |some (w,e)=>if e=0 then some (w.map fun r=>match r with | [.int _ x,.int _ y]=>(x,y) | _=>(0,0)) else none
 |none=>none
def Qf3:Option (List Sp2)->LL × Int
 |none=>([],13)
 |some W=>(W.map Y7,0)
def hdw (X:Cx) (per:Int) (J:List Tup) (a:Nat):Nat->Nat->Option LL
 |0,_=>some []
 |c+1,b=>match X.WV per J a b with
  |none=>none
  |some W=>(hdw X per J a c (b+1)).map fun H=>W.map (Q7f a b)++H
def hdws (X:Cx) (per:Int) (J:List Tup):Nat->Nat->Option LL
 |0,_=>some []
 |c+1,a=>match X.hdw per J a c (a+1) with
  |none=>none
  |some H=>(hdws X per J c (a+1)).map fun H'=>H++H'
variable {R:Type} {n:Nat} {X:Cx} (h:X.OK) {per:Int}
theorem Q9N {J:List Tup} {a b:Nat} {r:Int}:X.TRb J a b r=X.TRb J b a r:=by
 grind [TRb,jab]
include h
theorem Qbn {J:List Tup} {a b:Nat} (ha:a<X.N):OL (-1) (X.fil J a b)/\(X.fil J a b).length<=6:=by
 have o:=(Ji h ha).2;exact ⟨o.1.filter,Nat.le_trans (List.length_filter_le ..) o.2⟩
theorem Q1t (p0:2<=per) (p1:per<=300) {J:List Tup} {a b:Nat} (ha:a<X.N) (hb:b<X.N):WB 400 per ((X.fil J a b).map enc) ((X.fil J b a).map enc) Tu2=some (Qf3 (X.WV per J a b))/\KR 400 per ((X.fil J a b).map enc) ((X.fil J b a).map enc) Tu2=some (Qf3 (X.WV per J a b))/\∀ W,X.WV per J a b=some W->W.length<=12:=by
 have oa:=Qbn h (J:=J) (b:=b) ha;have ob:=Qbn h (J:=J) (b:=a) hb;obtain ⟨F,G,g1,g,j,i,k⟩:=Qaj p0 (show per<=7200 by omega) oa.1 ob.1 oa.2 ob.2;have l:=Qak p0 p1 oa.1 ob.1 oa.2 ob.2 g1 j i;have hG:G.length<=12:=by
  rcases i with ⟨rfl,_⟩ | ⟨b,M,c,rfl,rfl⟩
  ·exact g
  ·simp at g ⊢;omega
 have e:X.WV per J a b=if cnt F=per then none else some (G.map (Q2m per)):=by
  unfold WV;rw [k];by_cases hc:cnt F=per
  ·rw [if_pos hc,if_pos hc];rfl
  ·rw [Qjy hc,Qjy hc];dsimp only;rw [if_pos rfl,List.map_map];congr 1;refine (List.map_congr_left fun q _=>?_).trans (List.map_id _);rfl
 grind [Qf3,cnt,Q2m,Y7]
omit h in
theorem QfM {a b:Nat} (ha:a<=100) (hb:b<=100) {W:List Sp2} (hW:W.length<=12) {k0:Int->Bool->LL->oP R} {A:LL} (hA:A.length<=900):Qy 400 (a:Int) (b:Int) (W.map Y7) ((W.length:Nat):Int) k0 400 0 A=k0 ((W.length:Nat):Int) false (A++W.map (Q7f a b)):=by
 refine Qv (r:=fun m j=>Qy 400 (a:Int) (b:Int) (W.map Y7) ((W.length:Nat):Int) k0 m j (A++(W.take j.toNat).map (Q7f a b))) (N:=W.length) (fun m j hj=>?_) (fun m=>?_) W.length 400 0 (by omega) (by omega) |> QjN (by simp)
 ·simp only [Int.toNat_natCast];obtain ⟨w,e⟩:∃ q,W[j]? = some q:=⟨W[j],Qjh hj⟩;rw [Qy,Qc hj,cond_true,QL e,YC e,Qjl,<- Qji];simp -implicitDefEqProofs only [Q0,Qad,Q9I,Q2,Qs (show j<=1000 by omega),Qbf (n:=400) (show a<=1000 by omega),Qbf (n:=400) (show b<=1000 by omega),Qd4 (n:=400) (A:=A++(W.take j).map (Q7f a b)) (by simp;omega)];rfl
 ·simp only [Int.toNat_natCast];rw [Qy,Qi,Qjc,Qjw]
theorem Q13 (p0:2<=per) (p1:per<=300) {J:List Tup} {a:Nat} (ha:a<X.N):∀ {c b:Nat} {H:LL},b+c<=X.N->X.hdw per J a c b=some H->H.length<=12*c
 |0,b,H,_,e=>by cases e;exact Qjn _
 |c+1,b,H,hb,e=>by
  rw [hdw] at e;have hw:=(Q1t h p0 p1 (J:=J) ha (show b<X.N by omega)).2.2;cases ew:X.WV per J a b with
  |none=>rw [ew] at e;cases e
  |some W=>
   rw [ew] at e;cases eh:X.hdw per J a c (b+1) with
   |none=>simp only [eh] at e;cases e
   |some H'=>
    simp only [eh] at e;cases e;have:=hw W ew;have:=Q13 p0 p1 ha (by omega) eh;simp;omega
theorem Qek (p0:2<=per) (p1:per<=300) {J:List Tup} (hJ:X.JOK J) {a:Nat} (ha:a<X.N) {k0:Int->LL->oP R} {k1:Int->Bool->LL->oP R} {Ke K1:LL->oP R} (d:∀ A,k0 13 A=Ke A) (e:∀ u v A,k1 u v A=K1 A):∀ (c m b:Nat) (A:LL),b+c=X.N->c<m->A.length+12*c<=900->∃ A',
  QP 400 (a:Int) per (GG (X.occs X.L)) (J.map tuR) k0 k1 m (b:Int) A=match X.hdw per J a c b with | none=>Ke A' | some H=>K1 (A++H)
 |0,m+1,b,A,hb,_,_=>by
  have ac:(GG (X.occs X.L)).length=X.N:=by rw [J4];exact Zu
  refine ⟨A,?_⟩;rw [QP,ac,show decide ((b:Int)<((X.N:Nat):Int))=false from decide_eq_false (by omega),Qjc,e,hdw]
  simp_all
 |c+1,m+1,b,A,hb,hm,hA=>by
  have ac:(GG (X.occs X.L)).length=X.N:=by rw [J4];exact Zu
  have hN:X.N<=6:=base_le h;have oa:=Ji h ha;have ob:=Ji h (show b<X.N by omega);obtain ⟨q,g,f⟩:=Qgr h hJ (a:=a) (b:=b);have aj:(X.occN a).filter (fun o=>!q o.1)=X.fil J a b:=List.filter_congr fun o _=>by rw [f]
  have ak:(X.occN b).filter (fun o=>!q o.1)=X.fil J b a:=List.filter_congr fun o _=>by rw [f,Q9N]
  have hw:=Q1t h p0 p1 (J:=J) ha (show b<X.N by omega);rw [QP,ac,show decide ((b:Int)<((X.N:Nat):Int))=true from Qjg (by omega),cond_true,g,oa.1,ob.1];simp -implicitDefEqProofs only [Q0,Qjb,QH,Qs (show b<=1000 by omega),Q5P (show (X.occN a).length<=300 by omega),Q5P (show (X.occN b).length<=300 by omega),aj,ak,hw.1,hdw];cases ew:X.WV per J a b with
  |none=>exact ⟨A,d A⟩
  |some W=>
   have hl:=hw.2.2 W ew;obtain ⟨A',ih⟩:=Qek p0 p1 hJ ha d e c m (b+1) (A++W.map (Q7f a b)) (by omega) (by omega) (by simp;omega);refine ⟨A',?_⟩;simp -implicitDefEqProofs only [Qf3];rw [Q9 (by rfl),Qje,QfM (by omega) (by omega) hl (by omega),ih]
   grind
theorem Qer (p0:2<=per) (p1:per<=300) {J:List Tup} (hJ:X.JOK J) {k0:Int->LL->oP R} {k1:Int->Bool->LL->oP R} {Ke K1:LL->oP R} (d:∀ A,k0 13 A=Ke A) (e:∀ u v A,k1 u v A=K1 A):∀ (c m a:Nat) (A:LL),a+c=X.N->c<m->A.length+72*c<=900->∃ A',
  Qq 400 ((X.N:Nat):Int) per (GG (X.occs X.L)) (J.map tuR) k0 k1 m (a:Int) A=match X.hdws per J c a with | none=>Ke A' | some H=>K1 (A++H)
 |0,m+1,a,A,ha,_,_=>by
  refine ⟨A,?_⟩;rw [Qq,show decide ((a:Int)<((X.N:Nat):Int))=false from decide_eq_false (by omega),Qjc,e,hdws];simp only [QjA]
 |c+1,m+1,a,A,ha,hm,hA=>by
  have hN:X.N<=6:=base_le h;obtain ⟨A1,f⟩:=Qek h p0 p1 hJ (show a<X.N by omega) (Ke:=Ke) (K1:=fun A=>Qq 400 ((X.N:Nat):Int) per (GG (X.occs X.L)) (J.map tuR) k0 k1 m ((a+1:Nat):Int) A) (k0:=fun g i=>k0 g i) (k1:=fun k l j=>Qq 400 ((X.N:Nat):Int) per (GG (X.occs X.L)) (J.map tuR) k0 k1 m ((a+1:Nat):Int) j) (fun A=>d A) (fun u v A=>rfl) c 400 (a+1) A (by omega) (by omega) (by omega);rw [Qq,show decide ((a:Int)<((X.N:Nat):Int))=true from Qjg (by omega),cond_true,Qs (show a<=1000 by omega),f,hdws];cases eh:X.hdw per J a c (a+1) with
  |none=>exact ⟨A1,rfl⟩
  |some H=>
   have:=Q13 h p0 p1 (J:=J) (show a<X.N by omega) (c:=c) (b:=a+1) (by omega) eh;obtain ⟨A2,h2⟩:=Qer p0 p1 hJ d e c m (a+1) (A++H) (by omega) (by omega) (by simp;omega);refine ⟨A2,?_⟩;dsimp only;rw [h2];cases X.hdws per J c (a+1) with
   |none=>rfl
   |some H'=>simp -implicitDefEqProofs only [Option.map_some,Qji]
theorem hdws_len (p0:2<=per) (p1:per<=300) {J:List Tup}:∀ {c a:Nat} {H:LL},a+c=X.N->X.hdws per J c a=some H->H.length<=60*c
 |0,a,H,_,e=>by cases e;exact Qjn _
 |c+1,a,H,ha,e=>by
  have hN:X.N<=6:=base_le h;rw [hdws] at e;cases eh:X.hdw per J a c (a+1) with
  |none=>rw [eh] at e;cases e
  |some H1=>
   have:=Q13 h p0 p1 (J:=J) (show a<X.N by omega) (c:=c) (b:=a+1) (by omega) eh;rw [eh] at e;cases e2:X.hdws per J c (a+1) with
   |none=>simp only [e2] at e;cases e
   |some H2=>
    have:=hdws_len p0 p1 (by omega) e2;simp only [e2] at e;cases e;simp;omega
theorem QeM (p0:2<=per) (p1:per<=300) {J:List Tup} (hJ:X.JOK J) {A:LL} (hA:A.length<=100):∃ A',Yd 400 per (GG (X.occs X.L)) (J.map tuR) A Tu2=some (match X.hdws per J X.N 0 with | none=>((13:Int),A') | some H=>(0,A++H)):=by
 have hN:X.N<=6:=base_le h;have ac:(GG (X.occs X.L)).length=X.N:=by rw [J4];exact Zu
 unfold Yd;rw [ac];obtain ⟨A',e⟩:=Qer h p0 p1 hJ (k0:=fun c d=>some (c,d)) (k1:=fun g i f=>some ((0:Int),f)) (Ke:=fun A=>some (13,A)) (K1:=fun A=>some (0,A)) (fun _=>rfl) (fun _ _ _=>rfl) X.N 400 0 A (by omega) (by omega) (by omega);refine ⟨A',e.trans ?_⟩
 grind
end Cx
namespace Cx
def netV (X:Cx) (per:Int) (J:List Tup) (Ch Sy:LL):Int × LL × LL × Int:=bif X.aloneJ per J then (match X.hdws per J X.N 0 with
 |none=>(0,[],[],13)
 |some H=>(per,X.evs X.L,X.planned Ch Sy++H,0)) else (0,[],[],13)
variable {X:Cx} (h:X.OK) {per:Int} {Ch Sy De:LL} (hl:X.LsOK per Ch Sy)
theorem Q67 {α:Type} {nr:Nat->Nat} {f:Nat->Nat->α} {x:α}:∀ {L:Nat},x∈Q9x nr f L↔∃ i k,i<L/\k<nr i/\x=f i k
 |0=>⟨fun h=>(nomatch h),fun ⟨_,_,h,_⟩=>by omega⟩
 |L+1=>by
  rw [Q9x,Qjk,Q67,QjS];constructor
  ·rintro (⟨i,k,b,h2,a⟩ | ⟨k,hk,rfl⟩)
   ·exact ⟨i,k,by omega,h2,a⟩
   ·exact ⟨L,k,by omega,List.mem_range.1 hk,rfl⟩
  ·rintro ⟨i,k,b,h2,a⟩;by_cases hi:i=L
   ·subst hi;exact .inr ⟨k,List.mem_range.2 h2,a.symm⟩
   ·exact .inl ⟨i,k,by omega,h2,a⟩
theorem Q8a {t:Tup}:t∈X.jns↔(∃ i k,i<X.L/\k<X.nr i-1/\t=X.j1 i k)\/∃ u∈X.T,X.jT u=t:=by
 unfold jns jL;rw [Qjk,Q67,QjS]
include h
theorem Qcn {i k:Nat} (hi:i<X.Ls.length) (hk:k<X.nr i):base X.nr i+k<X.N:=by
 have:=LJ (nr:=X.nr) (i:=i) (j:=X.L) hi;unfold N;omega
theorem QcR:X.JOK X.jns:=by
 refine ⟨fun t ht=>?_,Qck h⟩;rcases Q8a.1 ht with ⟨i,k,a,h2,rfl⟩ | ⟨u,hu,rfl⟩
 ·have r:=rd h a (show k<X.nr i by omega);have q:=SB h a (show k<X.nr i by omega);have:=r.ex0;have:=r.ex1;have:=r.mn0;have:=r.mn1;have:=r.mn2;have:=r.mn3;refine ⟨Qcn h a (by omega),Qcn h a (by omega),?_,?_,?_,?_⟩ <;> simp only [j1] <;> omega
 ·have ht:=h.tr _ hu;have ha:u.1<X.Ls.length:=ht.1;have hb:u.2.1<X.Ls.length:=ht.2.1;have na:=(H9 h ha).2.1;have nb:=(H9 h hb).2.1;have t1:=ht.2.2.1;have t2:=ht.2.2.2.1;have b:=ht.2.2.2.2.1;have c:=ht.2.2.2.2.2.1;have r:=rd h ha (show X.nr u.1-1<X.nr u.1 by omega);have q:=SB h ha (show X.nr u.1-1<X.nr u.1 by omega);have:=r.ex0;have:=r.ex1;refine ⟨Qcn h ha (by omega),Qcn h hb (by omega),?_,?_,?_,?_⟩ <;> simp only [jT] <;> omega
include hl
theorem planned_len:(X.planned Ch Sy).length<=35:=by
 have hN:base X.nr X.L<=6:=base_le h;have:=BG (X:=X) (i:=X.L);have:=hl.chl;have:=hl.syl;have:=h.tl;unfold planned;simp only [List.length_append,Qje];omega
theorem buildP (p0:2<=per) (p1:per<=300) (hc:J9 400 X.G.St X.G.Pt X.G.Se X.G.Li per X.skR X.Ro X.Ls Ch (X.T.map tuR) Sy De (some:Int->Option Int)=some 0) :
  GH 400 X.G.St X.G.Pt X.G.Se X.G.Li per X.skR X.Ro X.Ls Ch (X.T.map tuR) Sy De Tu4=some (X.netV per X.jns Ch Sy):=by
 have hN:base X.nr X.L<=6:=base_le h;have aj:=planned_len h hl;unfold GH netV;rw [hc,Q0,Q9 (by rfl),QbS h,Q0];dsimp only;rw [evs_len,Q9 (decide_eq_false (by omega)),Qey h hc,Q0];dsimp only;rw [Q9 (by rfl),Qdi h,Q0];rw [Qdt h (by omega) p1 (QcR h),Q0];cases X.aloneJ per X.jns
 ·rfl
 rw [Q9 (by rfl),Q9S h hl,Q0];obtain ⟨A',e⟩:=QeM h p0 p1 (QcR h) (A:=X.planned Ch Sy) (by omega);rw [e,Q0,cond_true];cases eh:X.hdws per X.jns X.N 0 with
 |none=>rfl
 |some H=>
  have:=hdws_len h p0 p1 (by omega) eh;have ac:X.N<=6:=hN;dsimp only;rw [Q9 (by rfl),Q9 (decide_eq_false (by rw [List.length_append];omega))]
end Cx
theorem QaH {α β:Type} {r:Nat->Int->β} {l:List α} {p:α->Bool} {F:α->β} {E:β} (a:∀ m i q,l[i]? = some q->i<l.length->r (m+1) (i:Int)=bif p q then F q else r m ((i+1:Nat):Int)) (b:∀ m,r (m+1) ((l.length:Nat):Int)=E) {fuel:Nat} (hf:l.length<fuel):r fuel 0=match l.find? p with | some q=>F q | none=>E:=by
 have go:∀ (ac:List α) (i m:Nat),l.drop i=ac->ac.length<m->i<=l.length->r m (i:Int)=match ac.find? p with | some q=>F q | none=>E:=by
  intro ac;induction ac with
  |nil=>
   intro i m hd hm hi;obtain ⟨m,rfl⟩:∃ k,m=k+1:=⟨m-1,by omega⟩
   grind
  |cons q ac ih=>
   intro i m hd hm hi;obtain ⟨m,rfl⟩:∃ k,m=k+1:=⟨m-1,by simp at hm;omega⟩
   grind [Yh]
 exact go l 0 fuel rfl hf (Nat.zero_le _)
theorem QdS {t:Int} {O:List Occ} (a:1<=t) (b:t<=7200) (hO:OL (-1) O) (hl:O.length<=300):M0 400 t (O.map enc) (some:Bool->Option Bool)=some (O.all (MA t)):=by
 unfold M0;rw [Q3L a b,Q8y hl hO];simp -implicitDefEqProofs only [Qjc,Q0,Qjp,Qjv];refine (Tg (r:=fun m i=>Jb 400 t (O.map enc) (some false) (fun _ _=>some true) m i) (l:=O) (p:=MA t) (E0:=some false) (E1:=some true) (fun m i q e hi=>?_) (fun m=>?_) (by omega)).trans (by cases O.all (MA t) <;> rfl)
 ·rw [Jb,Qje,Qc hi,cond_true,QL e];simp -implicitDefEqProofs only [Q0,Np,MZ,Fh,Q2,Qs (show i<=1000 by omega),QgZ hO (Qjf e)];unfold MA;cases decide (q.2.2-q.2.1>t) <;> rfl
 ·rw [Jb,Qje,Qi,Qjc]
def Q78 (O:List Occ) (r:Int):Bool:=(O.find? fun q=>q.1 == r).isSome
def fnd (O:List Occ) (r:Int):Occ:=(O.find? fun q=>q.1 == r).getD (0,0,0)
theorem C3 {p:Occ->Bool} {r:Int} (hp:∀ q,q.1≠r->p q=false):∀ {l:Int} {O:List Occ},OL l O->O.any p=(bif Q78 O r then p (fnd O r) else false)
 |_,[],_=>rfl
 |l,(x,a,b)::O,⟨d,h2,e,f,g,c⟩=>by
  have ih:=C3 hp c;unfold Q78 fnd at ih ⊢;by_cases hx:x=r
  ·subst hx;have:O.any p=false:=by
    rw [List.any_eq_false];intro q hq;have:=(c.mem q hq).1
    grind
   simp_all
  grind
theorem Q4g {O:List Occ} {r:Int} (h:Q78 O r=true):(fnd O r).1=r:=by
 unfold Q78 at h;unfold fnd;cases e:O.find? fun q=>q.1 == r with
 |none=>simp_all
 |some q=>grind
theorem QcT {l:Int} {O:List Occ} (hO:OL l O) {x:Occ} (hx:x∈O):Q78 O x.1=true/\fnd O x.1=x:=by
 unfold Q78 fnd;cases e:O.find? fun q=>q.1 == x.1 with
 |none=>grind
 |some q=>exact ⟨rfl,hO.uniq (QjM e) hx (by grind)⟩
def okR (la:Int) (A B:List Occ) (r:Int):Bool:=bif (bif Q78 A r then Q78 B r else false) then decide (la+(fnd B r).2.1<=(fnd A r).2.2) else false
theorem QaP {la:Int} {x y:Occ} (h:y.1≠x.1):tie la x y=false:=by
 grind [tie]
theorem Qee {la r:Int} {A B:List Occ} (hA:OL (-1) A) (hB:OL (-1) B):okR la A B r=Q3x la A B r:=by
 unfold Q3x okR;rw [C3 (r:=r) (fun q hq=>by
  simp_all) hA]
 cases ha:Q78 A r with
 |false=>rfl
 |true=>
  have ea:=Q4g ha;rw [cond_true,cond_true,C3 (r:=r) (fun y hy=>by grind [QaP]) hB];cases hb:Q78 B r with
  |false=>rfl
  |true=>
   have eb:=Q4g hb
   simp_all [tie,cond_true,decide,fnd]
theorem Qbu {per la mo:Int} {A B:List Occ} (hA:OL (-1) A) (hB:OL (-1) B) {x:Occ} (hx:x∈A):(B.any fun y=>bif tie la x y then Q1T per la mo x y else false)=bif okR la A B x.1 then Q1T per la mo (fnd A x.1) (fnd B x.1) else false:=by
 have ha:=QcT hA hx;unfold okR;rw [C3 (r:=x.1) (fun y hy=>by grind [QaP]) hB,ha.1,ha.2,cond_true];cases hb:Q78 B x.1 with
 |false=>rfl
 |true=>
  simp_all [Q4g,tie,cond_true]
theorem Q4K {l:Int} {O:List Occ} (hO:OL l O) {r:Int} : -1000<=(fnd O r).2.1/\(fnd O r).2.1<=20000 /\ -1000<=(fnd O r).2.2/\(fnd O r).2.2<=20000:=by
 unfold fnd;cases e:O.find? fun q=>q.1 == r with
 |none=>simp
 |some q=>
  have:=hO.mem q (QjM e)
  grind
theorem QdH {R:Type} {O:List Occ} (hl:O.length<=300) {r:Int} (K:D->D->D->Bool->oP R):Vo 400 (O.map enc) r K=K (Q4 (fnd O r).1) (Q4 (fnd O r).2.1) (Q4 (fnd O r).2.2) (Q78 O r):=by
 unfold Vo fnd Q78;refine (QaH (r:=fun m i=>YT 400 (O.map enc) r (fun a b c=>K a b c true) (fun d f=>K (Q4 0) (Q4 0) (Q4 0) false) m i) (l:=O) (p:=fun q=>q.1 == r) (F:=fun q=>K (Q4 q.1) (Q4 q.2.1) (Q4 q.2.2) true) (E:=K (Q4 0) (Q4 0) (Q4 0) false) (fun m i q e hi=>?_) (fun m=>?_) (by omega)).trans ?_
 ·rw [YT,Qje,Qc hi,cond_true,QL e];simp -implicitDefEqProofs only [Q0,Np,MZ,Fh,Q2,Qs (show i<=1000 by omega)]
 ·rw [YT,Qje,Qi,Qjc]
 ·cases O.find? fun q=>q.1 == r <;> rfl
namespace Cx
variable {R:Type} {X:Cx} (h:X.OK)
include h
theorem Qdn {J:List Tup} (hJ:X.JOK J) {t:Tup} (ht:t∈J) {r:Int} (K:D->D->D->D->D->D->Bool->oP R):Py 400 (GG (X.occs X.L)) (t.1:Int) (t.2.1:Int) t.2.2.1 r K=K (Q4 (fnd (X.occN t.1) r).1) (Q4 (fnd (X.occN t.1) r).2.1) (Q4 (fnd (X.occN t.1) r).2.2) (Q4 (fnd (X.occN t.2.1) r).1) (Q4 (fnd (X.occN t.2.1) r).2.1) (Q4 (fnd (X.occN t.2.1) r).2.2) (okR t.2.2.1 (X.occN t.1) (X.occN t.2.1) r):=by
 have hj:=hJ.at' t ht;have oa:=Ji h hj.1;have ob:=Ji h hj.2.1;have rb:=Q4K ob.2.1 (r:=r);unfold Py okR;rw [oa.1,ob.1];simp -implicitDefEqProofs only [Q0,Qjb,QH,QdH (show (X.occN t.1).length<=300 by omega),QdH (show (X.occN t.2.1).length<=300 by omega),Q2,Q7 (x:=t.2.2.1+(fnd (X.occN t.2.1) r).2.1) (by omega) (by omega)]
theorem Qem {J:List Tup} (hJ:X.JOK J) {t:Tup} (ht:t∈J) {per:Int} (K:Bool->oP R):SU 400 (GG (X.occs X.L)) (t.1:Int) (t.2.1:Int) t.2.2.1 t.2.2.2 per K=K (!Q88 per t.2.2.1 t.2.2.2 (X.occN t.1) (X.occN t.2.1)):=by
 have hj:=hJ.at' t ht;have oa:=Ji h hj.1;have ob:=Ji h hj.2.1;unfold SU Q88;refine (Tg (r:=fun m i=>UB 400 (GG (X.occs X.L)) per (t.1:Int) (t.2.1:Int) t.2.2.1 t.2.2.2 (K false) (fun a b=>K true) m i) (l:=X.occN t.1) (p:=fun x=>!((X.occN t.2.1).any fun y=>bif tie t.2.2.1 x y then Q1T per t.2.2.1 t.2.2.2 x y else false)) (E0:=K false) (E1:=K true) (fun m i x e hi=>?_) (fun m=>?_) (by omega)).trans ?_
 ·have ra:=Q4K oa.2.1 (r:=x.1);have rb:=Q4K ob.2.1 (r:=x.1);rw [UB,oa.1,Qbu oa.2.1 ob.2.1 (Qjf e)];simp -implicitDefEqProofs only [Q0,Qjb,QH,Qje,Qc hi,cond_true,QL e,Np,Q2,Qdn h hJ ht,Qs (show i<=1000 by omega)];generalize fnd (X.occN t.1) x.1=u at ra ⊢;generalize fnd (X.occN t.2.1) x.1=v at rb ⊢;cases okR t.2.2.1 (X.occN t.1) (X.occN t.2.1) x.1 with
  |false=>rfl
  |true=>
   rw [cond_true,cond_true,Q7 (x:=t.2.2.1+v.2.1) (by omega) (by omega),Q7 (x:=t.2.2.2+v.2.2) (by omega) (by omega),Q7 (x:=(if u.2.2<t.2.2.2+v.2.2 then t.2.2.2+v.2.2 else u.2.2)-(if t.2.2.1+v.2.1<u.2.1 then t.2.2.1+v.2.1 else u.2.1)) (by split <;> split <;> omega) (by split <;> split <;> omega)];unfold Q1T;cases decide ((if u.2.2<t.2.2.2+v.2.2 then t.2.2.2+v.2.2 else u.2.2)-(if t.2.2.1+v.2.1<u.2.1 then t.2.2.1+v.2.1 else u.2.1)>per) <;> rfl
 ·rw [UB,oa.1];simp -implicitDefEqProofs only [Q0,Qjb,QH,Qje,Qi,Qjc]
 ·rw [<- List.not_any_eq_all_not];cases (X.occN t.1).any fun x=>(X.occN t.2.1).any fun y=>bif tie t.2.2.1 x y then Q1T per t.2.2.1 t.2.2.2 x y else false <;> rfl
theorem Q8x {J:List Tup} (hJ:X.JOK J) {a b i:Nat} (ha:a<X.N) {x:Occ} (e:(X.occN a)[i]? = some x) (k0:Bool->Int->Bool->oP R):YN 400 (GG (X.occs X.L)) (J.map tuR) (a:Int) (b:Int) (i:Int) k0 400 false 0=k0 (X.TRb J a b x.1) ((J.length:Nat):Int) false:=by
 have oa:=Ji h ha;have hl:=hJ.len;unfold TRb;rw [<- Bool.false_or (List.any _ _),<- F6];refine LA (r:=fun m j c=>YN 400 (GG (X.occs X.L)) (J.map tuR) (a:Int) (b:Int) (i:Int) k0 m c j) (E:=fun c=>k0 c ((J.length:Nat):Int) false) (fun m j t c e' hi=>?_) (fun m c=>?_) (by omega) false
 ·have hj:=hJ.at' t (Qjf e');have d:=Ji h hj.1;have f:=Ji h hj.2.1;have ac:Q1 (J.map tuR) (j:Int)=some [Q4 t.1,Q4 t.2.1,Q4 t.2.2.1,Q4 t.2.2.2]:=QL e';rw [YN,Qje,Qc hi,cond_true,ac];simp -implicitDefEqProofs only [Q0,Qjb,Qjd,Q2,QH,oa.1,QL e,Np,Qdn h hJ (Qjf e'),Qs (show j<=1000 by omega),Qee d.2.1 f.2.1];show (bif jab a b t then _ else _)=_;cases jab a b t <;> cases c <;> rfl
 ·rw [YN,Qje,Qi,Qjc]
theorem Q59 {J:List Tup} (hJ:X.JOK J) {a b:Nat} (ha:a<X.N) (K:LL->oP R):Gm 400 (GG (X.occs X.L)) (J.map tuR) (a:Int) (b:Int) K=K ((X.fil J a b).map enc):=by
 have oa:=Ji h ha;unfold Gm fil;refine Qv (r:=fun m i=>ZG 400 (GG (X.occs X.L)) (J.map tuR) (a:Int) (b:Int) (fun d f c=>K c) m i ((((X.occN a).take i.toNat).filter fun o=>!X.TRb J a b o.1).map enc)) (N:=(X.occN a).length) (fun m i hi=>?_) (fun m=>?_) (X.occN a).length 400 0 (by omega) (by omega)
 ·simp only [Int.toNat_natCast];obtain ⟨x,e⟩:∃ q,(X.occN a)[i]? = some q:=⟨(X.occN a)[i],Qjh hi⟩;have aj:(((X.occN a).take i).filter fun o=>!X.TRb J a b o.1).length<=i:=Nat.le_trans (List.length_filter_le ..) (by simp;omega);rw [ZG,oa.1];simp -implicitDefEqProofs only [Q0,Qjb,QH,Qje,Qc hi,cond_true,Q8x h hJ ha e,QL e,Np,MZ,Fh,Qs (show i<=1000 by omega),XF (show ((((X.occN a).take i).filter fun o=>!X.TRb J a b o.1).length+[[Q4 x.1,Q4 x.2.1,Q4 x.2.2]].length)*24<=100000 by simp;omega)];rw [YC e,List.filter_append,Qjl];simp only [List.filter_cons,List.filter_nil];cases X.TRb J a b x.1 with
  |false=>rfl
  |true=>
   rw [Qjp,Qjc,Qjy Bool.false_ne_true,List.map_nil,QjA]
 ·simp only [Int.toNat_natCast];rw [ZG,oa.1];simp -implicitDefEqProofs only [Q0,Qjb,QH,Qje,Qi,Qjc,Qjw]
end Cx
theorem Qa4 {a b:Nat} (h:a+b<=100000):wJ ((a:Int)+(b:Int))=((a+b:Nat):Int):=Q7 (by omega) (by omega)
theorem Qce {a:Nat} (h:a<=100000):wJ ((a:Int)+1)=((a+1:Nat):Int):=Q7 (by omega) (by omega)
theorem Qgi {a:Nat} (h:a<=100000):wJ ((a:Int)+2)=((a+2:Nat):Int):=Q7 (by omega) (by omega)
theorem M9 {a:Nat} (h:a<=100000):wJ (2*(a:Int))=((2*a:Nat):Int):=Q7 (by omega) (by omega)
namespace Cx
def jR (X:Cx) (i:Nat):List Tup:=(List.range (X.nr i-1)).map (X.j1 i)++(match X.tn i with | some t=>[X.jT t] | none=>[])
def jnsR (X:Cx):Nat->List Tup
 |0=>[]
 |i+1=>jnsR X i++X.jR i
variable {R:Type} {n:Nat} {X:Cx} (h:X.OK)
theorem Q6c {t:Tup}:∀ {L:Nat},t∈X.jnsR L↔∃ i,i<L/\t∈X.jR i
 |0=>⟨fun h=>(nomatch h),fun ⟨_,h,_⟩=>by omega⟩
 |L+1=>by
  rw [jnsR,Qjk,Q6c];constructor
  ·rintro (⟨i,a,h2⟩ | h2)
   ·exact ⟨i,by omega,h2⟩
   ·exact ⟨L,by omega,h2⟩
  ·rintro ⟨i,a,h2⟩;by_cases hi:i=L
   ·subst hi;exact .inr h2
   ·exact .inl ⟨i,by omega,h2⟩
theorem Q2p {i:Nat} {t:Tup} (ht:X.tn i=some t):t∈X.T/\t.1=i:=⟨QjM ht,by simpa using List.find?_some ht⟩
theorem Q6e {α β:Type} {f:α->β}:∀ {l:List α},(l.map f).Nodup->∀ {x y},x∈l->y∈l->f x=f y->x=y
 |[],_,_,_,h,_,_=>nomatch h
 |a::l,hn,x,y,hx,hy,e=>by
  rw [List.map_cons,List.nodup_cons] at hn;cases hx with
  |head=>
   cases hy with
   |head=>rfl
   |tail _ hy=>exact (hn.1 (QjS.2 ⟨y,hy,e.symm⟩)).elim
  |tail _ hx=>
   cases hy with
   |head=>exact (hn.1 (QjS.2 ⟨x,hx,e⟩)).elim
   |tail _ hy=>exact Q6e hn.2 hx hy e
include h
theorem Qgx {t:Tup} (ht:t∈X.T):X.tn t.1=some t:=by
 cases e:X.tn t.1 with
 |none=>exact absurd (List.find?_eq_none.1 e t ht) (by simp)
 |some u=>
  have hu:=Q2p e;rw [Q6e h.fd hu.1 ht hu.2]
theorem Q1W {t:Tup}:t∈X.jnsR X.L↔t∈X.jns:=by
 rw [Q6c,Q8a];constructor
 ·rintro ⟨i,hi,ht⟩;rcases Qjk.1 ht with ht | ht
  ·grind
  ·cases e:X.tn i with
   |none=>simp_all
   |some u=>
    rw [e] at ht;obtain rfl:=Qjr.1 ht;exact .inr ⟨u,(Q2p e).1,rfl⟩
 ·rintro (⟨i,k,hi,hk,rfl⟩ | ⟨u,hu,rfl⟩)
  ·exact ⟨i,hi,QjC _ (List.mem_map_of_mem (List.mem_range.2 hk))⟩
  ·refine ⟨u.1,(h.tr _ hu).1,QjB _ ?_⟩
   grind [Qgx]
theorem Q6i {i:Nat} (hi:i<=X.Ls.length):(X.jnsR i).length<=base X.nr i:=by
 induction i with
 |zero=>exact Qjn _
 |succ i ih=>
  have hl:=(H9 h (i:=i) (by omega)).2.1
  grind [jnsR,jR,List.length_append,List.length_map,List.length_range,base]
theorem QdN:X.JOK (X.jnsR X.L):=⟨fun t ht=>(QcR h).at' t ((Q1W h).1 ht),by have:=Q6i h (i:=X.L) (Qjn _);have:=base_le h;omega⟩
theorem Q0V {i:Nat} (hi:i<=X.Ls.length) (K:Int->oP R):WY 400 X.Ls (i:Int) K=K ((base X.nr i:Nat):Int):=by
 have hb:=Ye h hi;have l1:=h.l1;unfold WY;refine Qv (r:=fun m k=>Jf 400 (i:Int) X.Ls (fun c d e=>K c) m ((base X.nr k.toNat:Nat):Int) k) (N:=i) (fun m k hk=>?_) (fun m=>?_) i 400 0 (by omega) (by omega)
 ·simp only [Int.toNat_natCast];have ac:=Ye h (i:=k+1) (by omega);rw [base] at ac;have ha:wJ (((base X.nr k:Nat):Int)+(((GI X.Ls k).length:Nat):Int))=((base X.nr (k+1):Nat):Int):=Qa4 (a:=base X.nr k) (b:=X.nr k) (by omega);rw [Jf,Qc hk,cond_true,Qe,(H9 h (by omega)).1];simp -implicitDefEqProofs only [Q0,Qjb,Qjd,QH,Qs (show k<=1000 by omega),ha]
 ·simp only [Int.toNat_natCast];rw [Jf,Qi,Qjc]
theorem QeN (K:LL->oP R):Sl 400 X.Ls (X.T.map tuR) (encI (X.runs X.L)) K=K ((X.jnsR X.L).map tuR):=by
 have l1:=h.l1;unfold Sl;refine Qv (r:=fun m i=>Um 400 (encI (X.runs X.L)) X.Ls (X.T.map tuR) (fun f g c=>K c) m i ((X.jnsR i.toNat).map tuR)) (N:=X.Ls.length) (fun m i hi=>?_) (fun m=>?_) X.Ls.length 400 0 (by omega) (by omega)
 ·simp only [Int.toNat_natCast];have hl:=(H9 h hi).2.1;have hb:=Ye h (i:=i) (by omega);have hw:wJ (((List.length (GI X.Ls i):Nat):Int)-1)=((X.nr i-1:Nat):Int):=Jq (k:=X.nr i) (by omega) (by omega);have hJ:=Q6i h (i:=i) (by omega);rw [Um,Qc hi,cond_true,Qe,(H9 h hi).1];simp -implicitDefEqProofs only [Q0,Qjb,Qjd,Qs (show i<=1000 by omega)];refine Qv (r:=fun m' k=>ZY 400 (encI (X.runs X.L)) (i:Int) X.Ls (X.T.map tuR) (D.sl 4 (GI X.Ls i)) (fun _ _ w=>Um 400 (encI (X.runs X.L)) X.Ls (X.T.map tuR) (fun f g c=>K c) m ((i+1:Nat):Int) w) m' k ((if k.toNat<=X.nr i-1 then X.jnsR i++(List.range k.toNat).map (X.j1 i) else X.jnsR (i+1)).map tuR)) (N:=X.nr i) (fun m' k hk=>?_) (fun m'=>?_) (X.nr i) 400 0 (by omega) (by omega) |> QjN (by simp)
  ·simp only [Int.toNat_natCast];have r:=rd h hi hk;have hr:=SB h hi hk;have ac:Q1 (GI X.Ls i) (k:Int)=some [Q4 (rF X.Ls i k 0),Q4 (X.ex i k),Q4 (X.mn i k),Q4 (X.mx i k)]:=by rw [Qe,r.row]
   have l:=r.ex0;have e1:=r.ex1;have e2:=r.mn0;have n:=r.mn1;have o:=r.mn2;have p:=r.mn3;rw [ZY,QH,Q0,show (((GI X.Ls i).length:Nat):Int)=((X.nr i:Nat):Int) from rfl,Qc hk,cond_true,if_pos (show k<=X.nr i-1 by omega)];simp -implicitDefEqProofs only [Q0,Q0V h (show i<=X.Ls.length by omega),ac,Qjb,Qjd,Q2,QH,hw,Qa4 (a:=base X.nr i) (b:=k) (by omega),Q5m hi hk,Qs (show k<=1000 by omega),Q7 (x:=X.run i k+X.mn i k) (by omega) (by omega),Q7 (x:=X.run i k+X.ex i k) (by omega) (by omega),Q7 (x:=X.run i k+X.ex i k+X.mx i k) (by omega) (by omega),Qce (a:=base X.nr i+k) (by omega)];by_cases j:k<X.nr i-1
   ·rw [Qc j,cond_true,if_pos (show k+1<=X.nr i-1 by omega),XF (by simp;omega),Q0,<- Zq,Qjl (l₁:=X.jnsR i++(List.range k).map (X.j1 i))];rfl
   ·rw [show decide ((k:Int)<((X.nr i-1:Nat):Int))=false from decide_eq_false (by omega),Qjc,Qjy (show ¬ k+1<=X.nr i-1 by omega),QbZ h];have d:k=X.nr i-1:=by omega
    cases ht:X.tn i with
    |none=>
     simp -implicitDefEqProofs only [Q0,Qjc,jnsR,jR,ht,QjA,d]
    |some t=>
     obtain ⟨t1,t2⟩:=Q2p ht;have an:=(h.tr _ t1).2.1;have q:=(h.tr _ t1).2.2.1;have s:=(h.tr _ t1).2.2.2.1;have u:=(h.tr _ t1).2.2.2.2.1;have v:=(h.tr _ t1).2.2.2.2.2.1;simp -implicitDefEqProofs only [Q0,cond_true,Q2,Q0V h (show t.2.1<=X.Ls.length by omega),Q7 (x:=X.run i k+t.2.2.1) (by omega) (by omega),Q7 (x:=X.run i k+X.ex i k+t.2.2.2) (by omega) (by omega),jnsR,jR,ht];have e:[Q4 ((base X.nr i+k:Nat):Int),Q4 ((base X.nr t.2.1:Nat):Int),Q4 (X.run i k+t.2.2.1),Q4 (X.run i k+X.ex i k+t.2.2.2)]=tuR (X.jT t):=by
      unfold tuR jT;rw [t2,d];rfl
     rw [XF (by simp;omega),Q0,e,d,<- Qji,Qjl (l₁:=X.jnsR i++_)];rfl
  ·simp only [Int.toNat_natCast];rw [ZY,QH,Q0,show (((GI X.Ls i).length:Nat):Int)=((X.nr i:Nat):Int) from rfl,Qi,Qjc,Qjy (by omega)]
 ·simp only [Int.toNat_natCast];rw [Um,Qi,Qjc];rfl
theorem QbV (k0:LL->oP R):W0 400 X.Ls (fun _ _ w=>k0 w) 400 0 []=k0 (X.evs X.L):=by
 have l1:=h.l1;refine Qv (r:=fun m i=>W0 400 X.Ls (fun _ _ w=>k0 w) m i (X.evs i.toNat)) (N:=X.Ls.length) (fun m i hi=>?_) (fun m=>?_) X.Ls.length 400 0 (by omega) (by omega)
 ·simp only [Int.toNat_natCast];have hl:=(H9 h hi).2.1;have hb:=Ye h (i:=i) (by omega);rw [W0,Qc hi,cond_true,Qs (show i<=1000 by omega)];refine Qv (r:=fun m' k=>Vw 400 (i:Int) X.Ls (fun _ _ w=>W0 400 X.Ls (fun _ _ w=>k0 w) m ((i+1:Nat):Int) w) m' k (X.evs i++evl i k.toNat)) (N:=X.nr i) (fun m' k hk=>?_) (fun m'=>?_) (X.nr i) 400 0 (by omega) (by omega) |> QjN (by simp [evl])
  ·simp only [Int.toNat_natCast];rw [Vw,Qe,(H9 h hi).1];simp -implicitDefEqProofs only [Q0,Qjb,Qjd,QH];rw [show (((GI X.Ls i).length:Nat):Int)=((X.nr i:Nat):Int) from rfl,Qc hk,cond_true,XF (by simp [evs_len,Q1u];omega),Q0,Qs (by omega),Qji];rfl
  ·simp only [Int.toNat_natCast];rw [Vw,Qe,(H9 h hi).1];simp -implicitDefEqProofs only [Q0,Qjb,Qjd,QH];rw [show (((GI X.Ls i).length:Nat):Int)=((X.nr i:Nat):Int) from rfl,Qi,Qjc];rfl
 ·simp only [Int.toNat_natCast];rw [W0,Qi,Qjc];rfl
theorem QdV (K:LL->oP R):Sf 400 X.Ls (encI (X.runs X.L)) K=K (X.pls X.L):=by
 have l1:=h.l1;unfold Sf;refine Qv (r:=fun m i=>Ut 400 (encI (X.runs X.L)) X.Ls (fun e f c=>K c) m i (X.pls i.toNat)) (N:=X.Ls.length) (fun m i hi=>?_) (fun m=>?_) X.Ls.length 400 0 (by omega) (by omega)
 ·simp only [Int.toNat_natCast];have hl:=(H9 h hi).2.1;have hb:=Ye h (i:=i) (by omega);have hp:=BG (X:=X) (i:=i);have hw:wJ (((List.length (GI X.Ls i):Nat):Int)-1)=((X.nr i-1:Nat):Int):=Jq (k:=X.nr i) (by omega) (by omega);rw [Ut,Qc hi,cond_true,Qe,(H9 h hi).1];simp -implicitDefEqProofs only [Q0,Qjb,Qjd,Qs (show i<=1000 by omega)];refine Qv (r:=fun m' k=>Ux 400 (encI (X.runs X.L)) (i:Int) X.Ls (Q4 (X.w i)) (D.sl 4 (GI X.Ls i)) (fun _ _ w=>Ut 400 (encI (X.runs X.L)) X.Ls (fun e f c=>K c) m ((i+1:Nat):Int) w) m' k (X.pls i++X.pl i k.toNat)) (N:=X.nr i) (fun m' k hk=>?_) (fun m'=>?_) (X.nr i) 400 0 (by omega) (by omega) |> QjN (by simp [pl])
  ·simp only [Int.toNat_natCast];have r:=rd h hi hk;have hr:=SB h hi hk;have ac:Q1 (GI X.Ls i) (k:Int)=some [Q4 (rF X.Ls i k 0),Q4 (X.ex i k),Q4 (X.mn i k),Q4 (X.mx i k)]:=by rw [Qe,r.row]
   have g:=r.ex0;have e1:=r.ex1;have ak:=Q6k (X:=X) (i:=i) (k:=k);rw [Ux,QH,Q0,show (((GI X.Ls i).length:Nat):Int)=((X.nr i:Nat):Int) from rfl,Qc hk,cond_true];simp -implicitDefEqProofs only [Q0,Q0V h (show i<=X.Ls.length by omega),ac,Qjb,Qjd,Q2,QH,hw,Qa4 (a:=base X.nr i) (b:=k) (by omega),Q5m hi hk,Qs (show k<=1000 by omega),Q7 (x:=X.run i k+X.ex i k) (by omega) (by omega),M9 (a:=base X.nr i+k) (by omega),Qce (a:=2*(base X.nr i+k)) (by omega),Qgi (a:=2*(base X.nr i+k)) (by omega)];rw [XF (by simp;omega),Q0];by_cases d:k<X.nr i-1
   ·rw [Qc d,cond_true,XF (by simp;omega),Q0,pl,if_pos d,<- Qji,<- Qji];rfl
   ·rw [show decide ((k:Int)<((X.nr i-1:Nat):Int))=false from decide_eq_false (by omega),Qjc,pl,Qjy d,QjA,<- Qji];rfl
  ·simp only [Int.toNat_natCast];rw [Ux,QH,Q0,show (((GI X.Ls i).length:Nat):Int)=((X.nr i:Nat):Int) from rfl,Qi,Qjc];rfl
 ·simp only [Int.toNat_natCast];rw [Ut,Qi,Qjc];rfl
theorem Qf1 {per:Int} {Ch Sy:LL} (hl:X.LsOK per Ch Sy) (K:LL->oP R):ST 400 X.Ls Ch (X.T.map tuR) Sy K=K (Ch.map X.chE++X.T.map X.tuE++Sy.map X.syE):=by
 have l1:=h.l1;have tl:=h.tl;have chl:=hl.chl;have syl:=hl.syl;unfold ST;have s1:∀ k0:LL->oP R,Uu 400 X.Ls Ch (fun _ _ w=>k0 w) 400 0 []=k0 (Ch.map X.chE):=by
  intro k0;refine Qv (r:=fun m j=>Uu 400 X.Ls Ch (fun _ _ w=>k0 w) m j ((Ch.take j.toNat).map X.chE)) (N:=Ch.length) (fun m j hj=>?_) (fun m=>?_) Ch.length 400 0 (by omega) (by omega)
  ·simp only [Int.toNat_natCast];obtain ⟨row,e⟩:∃ q,Ch[j]? = some q:=⟨Ch[j],Qjh hj⟩;obtain ⟨f,fr,t,tr,mn,mx,w,rfl,g1,n,c,y,z,g6⟩:=hl.ch row (Qjf e);have nf:=(H9 h g1).2.1;have nt:=(H9 h c).2.1;have bf:=Ye h (i:=f) (by omega);have bt:=Ye h (i:=t) (by omega);rw [Uu,Qc hj,cond_true,Qe,e,YC e,Qjl];simp -implicitDefEqProofs only [Q0,Qjb,Qjd,Q2,Q0V h (show f<=X.Ls.length by omega),Q0V h (show t<=X.Ls.length by omega),Qs (show j<=1000 by omega),Qa4 (a:=base X.nr f) (b:=fr) (by omega),Qa4 (a:=base X.nr t) (b:=tr) (by omega),M9 (a:=base X.nr f+fr) (by omega),M9 (a:=base X.nr t+tr) (by omega),Qce (a:=2*(base X.nr f+fr)) (by omega)];rw [XF (by simp;omega),Q0];rfl
  ·simp only [Int.toNat_natCast];rw [Uu,Qi,Qjc,Qjw]
 have s2:∀ k0:LL->oP R,ZW 400 X.Ls (X.T.map tuR) (fun _ _ w=>k0 w) 400 0 (Ch.map X.chE)=k0 (Ch.map X.chE++X.T.map X.tuE):=by
  intro k0;refine Qv (r:=fun m j=>ZW 400 X.Ls (X.T.map tuR) (fun _ _ w=>k0 w) m j (Ch.map X.chE++(X.T.take j.toNat).map X.tuE)) (N:=X.T.length) (fun m j hj=>?_) (fun m=>?_) X.T.length 400 0 (by omega) (by omega) |> QjN (by simp)
  ·simp only [Int.toNat_natCast];obtain ⟨⟨a,b,lo,hi⟩,e⟩:∃ q,X.T[j]? = some q:=⟨X.T[j],Qjh hj⟩;have ht:=h.tr _ (Qjf e);have g1:a<X.Ls.length:=ht.1;have c:b<X.Ls.length:=ht.2.1;have nf:=(H9 h g1).2.1;have bf:=Ye h (i:=a) (by omega);have bt:=Ye h (i:=b) (by omega);have aj:Q1 (X.T.map tuR) (j:Int)=some [Q4 a,Q4 b,Q4 lo,Q4 hi]:=QL e;have p:Ch.map X.chE++(X.T.take (j+1)).map X.tuE=Ch.map X.chE++(X.T.take j).map X.tuE++[X.tuE (a,b,lo,hi)]:=by rw [YC e,Qjl,<- Qji];rfl
   have hw:wJ (((2*(base X.nr a+X.nr a):Nat):Int)-1)=((2*(base X.nr a+(X.nr a-1))+1:Nat):Int):=by rw [Q7 (by omega) (by omega)];omega
   have ha:wJ (((base X.nr a:Nat):Int)+(((GI X.Ls a).length:Nat):Int))=((base X.nr a+X.nr a:Nat):Int):=Qa4 (a:=base X.nr a) (b:=X.nr a) (by omega);rw [ZW,Qje,Qc hj,cond_true,aj,p];simp -implicitDefEqProofs only [Q0,Qjb,Qjd,Q2,QH,Q0V h (show a<=X.Ls.length by omega),Q0V h (show b<=X.Ls.length by omega),Qe,(H9 h g1).1,Qs (show j<=1000 by omega),ha,M9 (a:=base X.nr a+X.nr a) (by omega),M9 (a:=base X.nr b) (by omega),hw];rw [XF (by simp;omega),Q0];rfl
  ·simp only [Int.toNat_natCast];rw [ZW,Qje,Qi,Qjc,Qjw]
 have s:∀ k0:LL->oP R,Za 400 X.Ls Sy (fun _ _ w=>k0 w) 400 0 (Ch.map X.chE++X.T.map X.tuE)=k0 (Ch.map X.chE++X.T.map X.tuE++Sy.map X.syE):=by
  intro k0;refine Qv (r:=fun m j=>Za 400 X.Ls Sy (fun _ _ w=>k0 w) m j (Ch.map X.chE++X.T.map X.tuE++(Sy.take j.toNat).map X.syE)) (N:=Sy.length) (fun m j hj=>?_) (fun m=>?_) Sy.length 400 0 (by omega) (by omega) |> QjN (by simp)
  ·simp only [Int.toNat_natCast];obtain ⟨row,e⟩:∃ q,Sy[j]? = some q:=⟨Sy[j],Qjh hj⟩;obtain ⟨o,rfl,g1,n,c⟩:=hl.sy row (Qjf e);have bt:=Ye h (i:=1) (by omega);have k:=Q0V (R:=Int) h (show 0<=X.Ls.length by omega) some;have l:=Q0V (R:=Int) h (show 1<=X.Ls.length by omega) some;have a0:=Qa4 (a:=base X.nr 0) (b:=0) (by simp [base]);have a1:=Qa4 (a:=base X.nr 1) (b:=0) (by omega);simp only [show ((0:Nat):Int)=0 from rfl,show ((1:Nat):Int)=1 from rfl] at k l a0 a1;rw [Za,Qc hj,cond_true,Qe,e,YC e,Qjl,<- Qji];simp -implicitDefEqProofs only [Q0,Qjb,Qjd,Q2,k,l,a0,a1,Qs (show j<=1000 by omega),M9 (a:=base X.nr 0+0) (by simp [base]),M9 (a:=base X.nr 1+0) (by omega)];rw [XF (by simp;omega),Q0];rfl
  ·simp only [Int.toNat_natCast];rw [Za,Qi,Qjc,Qjw]
 rw [s1 (fun u=>ZW 400 X.Ls (X.T.map tuR) (fun ab ac d=>Za 400 X.Ls Sy (fun v x g=>K g) 400 0 d) 400 0 u),s2 (fun d=>Za 400 X.Ls Sy (fun v x g=>K g) 400 0 d),s]
end Cx
theorem QeQ {α:Type} {J J':List α} (hJ:∀ t,t∈J↔t∈J') (p:α->Bool):J.any p=J'.any p:=by
 rw [Bool.eq_iff_iff,List.any_eq_true,List.any_eq_true];exact ⟨fun ⟨t,a,h2⟩=>⟨t,(hJ t).1 a,h2⟩,fun ⟨t,a,h2⟩=>⟨t,(hJ t).2 a,h2⟩⟩
theorem Qdo {α:Type} {J J':List α} (hJ:∀ t,t∈J↔t∈J') (p:α->Bool):J.all p=J'.all p:=by
 rw [Bool.eq_iff_iff,QjJ,QjJ];exact ⟨fun h t ht=>h t ((hJ t).2 ht),fun h t ht=>h t ((hJ t).1 ht)⟩
namespace Cx
variable {R:Type} {X:Cx} {per:Int} {Ch Sy De:LL}
theorem Q6G {J J':List Tup} (hJ:∀ t,t∈J↔t∈J'):X.netV per J Ch Sy=X.netV per J' Ch Sy:=by
 have e1:∀ a b,X.fil J a b=X.fil J' a b:=fun a b=>List.filter_congr fun o _=>by
  unfold TRb;rw [QeQ hJ]
 have e2:∀ a b,X.WV per J a b=X.WV per J' a b:=fun a b=>by
  unfold WV;rw [e1,e1]
 have d:∀ a c b,X.hdw per J a c b=X.hdw per J' a c b:=fun a c=>by
  induction c with
  |zero=>exact fun _=>rfl
  |succ c ih=>intro b;rw [hdw,hdw,e2,ih]
 have e:∀ c a,X.hdws per J c a=X.hdws per J' c a:=fun c=>by
  induction c with
  |zero=>exact fun _=>rfl
  |succ c ih=>intro a;rw [hdws,hdws,d,ih]
 unfold netV aloneJ;rw [e,Qdo hJ]
variable (h:X.OK)
theorem QeS {a b:Nat} (ha:a<=100) (hb:b<=100) {W:List Sp2} (hW:W.length<=12) {k0:LL->oP R} {A:LL} (hA:A.length<=900):UD 400 (a:Int) (b:Int) (W.map Y7) (fun _ _ w=>k0 w) 400 0 A=k0 (A++W.map (Q7f a b)):=by
 refine Qv (r:=fun m j=>UD 400 (a:Int) (b:Int) (W.map Y7) (fun _ _ w=>k0 w) m j (A++(W.take j.toNat).map (Q7f a b))) (N:=W.length) (fun m j hj=>?_) (fun m=>?_) W.length 400 0 (by omega) (by omega) |> QjN (by simp)
 ·simp only [Int.toNat_natCast];obtain ⟨w,e⟩:∃ q,W[j]? = some q:=⟨W[j],Qjh hj⟩;rw [UD,Qje,Qc hj,cond_true,QL e,YC e,Qjl,<- Qji];simp -implicitDefEqProofs only [Q0,Qad,Q9I,Q2,Qs (show j<=1000 by omega),M9 (a:=a) (by omega),M9 (a:=b) (by omega)];rw [XF (by simp;omega),Q0];rfl
 ·simp only [Int.toNat_natCast];rw [UD,Qje,Qi,Qjc,Qjw]
include h
theorem Qb6 (p0:2<=per) (p1:per<=300) {J:List Tup} (hJ:X.JOK J) {a:Nat} (ha:a<X.N) {Ke:oP R} {K1:LL->oP R}:∀ (c m b:Nat) (A:LL),b+c=X.N->c<m->A.length+12*c<=900 ->
  Vt 400 (GG (X.occs X.L)) (J.map tuR) (a:Int) per Ke (fun _ _ w=>K1 w) m (b:Int) A=match X.hdw per J a c b with | none=>Ke | some H=>K1 (A++H)
 |0,m+1,b,A,hb,_,_=>by
  have ac:(GG (X.occs X.L)).length=X.N:=by rw [J4];exact Zu
  rw [Vt,ac,show decide ((b:Int)<((X.N:Nat):Int))=false from decide_eq_false (by omega),Qjc,hdw];simp only [QjA]
 |c+1,m+1,b,A,hb,hm,hA=>by
  have ac:(GG (X.occs X.L)).length=X.N:=by rw [J4];exact Zu
  have hN:X.N<=6:=base_le h;have hw:=Q1t h p0 p1 (J:=J) ha (show b<X.N by omega);rw [Vt,ac,show decide ((b:Int)<((X.N:Nat):Int))=true from Qjg (by omega),cond_true,Q59 h hJ ha,Q59 h hJ (show b<X.N by omega)];simp -implicitDefEqProofs only [Q0,hw.2.1,Qs (show b<=1000 by omega),hdw];cases ew:X.WV per J a b with
  |none=>rfl
  |some W=>
   have hl:=hw.2.2 W ew;simp -implicitDefEqProofs only [Qf3];rw [Q9 (by rfl),QeS (by omega) (by omega) hl (by omega),Qb6 p0 p1 hJ ha c m (b+1) _ (by omega) (by omega) (by simp;omega)];cases X.hdw per J a c (b+1) with
   |none=>rfl
   |some H=>simp -implicitDefEqProofs only [Option.map_some,Qji]
theorem Qb3 (p0:2<=per) (p1:per<=300) {J:List Tup} (hJ:X.JOK J) {Ke:oP R} {K1:LL->oP R}:∀ (c m a:Nat) (A:LL),a+c=X.N->c<m->A.length+72*c<=900 ->
  Uy 400 (GG (X.occs X.L)) (J.map tuR) per Ke (fun _ _ w=>K1 w) m (a:Int) A=match X.hdws per J c a with | none=>Ke | some H=>K1 (A++H)
 |0,m+1,a,A,ha,_,_=>by
  have ac:(GG (X.occs X.L)).length=X.N:=by rw [J4];exact Zu
  rw [Uy,ac,show decide ((a:Int)<((X.N:Nat):Int))=false from decide_eq_false (by omega),Qjc,hdws];simp only [QjA]
 |c+1,m+1,a,A,ha,hm,hA=>by
  have ac:(GG (X.occs X.L)).length=X.N:=by rw [J4];exact Zu
  have hN:X.N<=6:=base_le h;rw [Uy,ac,show decide ((a:Int)<((X.N:Nat):Int))=true from Qjg (by omega),cond_true,Qs (show a<=1000 by omega),Qb6 h p0 p1 hJ (show a<X.N by omega) (Ke:=Ke) (K1:=fun A=>Uy 400 (GG (X.occs X.L)) (J.map tuR) per Ke (fun _ _ w=>K1 w) m ((a+1:Nat):Int) A) c 400 (a+1) A (by omega) (by omega) (by omega),hdws];cases eh:X.hdw per J a c (a+1) with
  |none=>rfl
  |some H=>
   have:=Q13 h p0 p1 (J:=J) (show a<X.N by omega) (c:=c) (b:=a+1) (by omega) eh;dsimp only;rw [Qb3 p0 p1 hJ c m (a+1) (A++H) (by omega) (by omega) (by simp;omega)];cases X.hdws per J c (a+1) with
   |none=>rfl
   |some H'=>simp -implicitDefEqProofs only [Option.map_some,Qji]
theorem QbA (p0:2<=per) (p1:per<=300) {k0 E:oP R} {k1:Int->Bool->oP R} (hk:∀ a b,k1 a b=E):UH 400 (GG (X.occs X.L)) per k0 k1 400 0=bif (X.occs X.L).all (fun o=>o.all (MA per)) then E else k0:=by
 have hN:X.N<=6:=base_le h;have aj:(X.occs X.L).length=X.N:=Zu;refine Tg (r:=fun m i=>UH 400 (GG (X.occs X.L)) per k0 k1 m i) (fun m i o e hi=>?_) (fun m=>?_) (by omega)
 ·have ho:=Q93 h o (Qjf e);have ac:Q1 (GG (X.occs X.L)) (i:Int)=some [D.sl 3 (o.map enc)]:=QL e;rw [UH,J4,Qc hi,cond_true,ac];simp -implicitDefEqProofs only [Q0,Qjb,QH,QdS (show 1<=per by omega) (show per<=7200 by omega) ho.1 (show o.length<=300 by omega),Qs (show i<=1000 by omega)];cases o.all (MA per) <;> rfl
 ·rw [UH,J4,Qi,Qjc,hk]
theorem Qcp {J:List Tup} (hJ:X.JOK J) {k0 E:oP R} {k1:Int->Bool->oP R} (hk:∀ a b,k1 a b=E):UJ 400 (GG (X.occs X.L)) (J.map tuR) per k0 k1 400 0=bif J.all (fun t=>!Q88 per t.2.2.1 t.2.2.2 (X.occN t.1) (X.occN t.2.1)) then E else k0:=by
 have aj:=hJ.len;refine Tg (r:=fun m i=>UJ 400 (GG (X.occs X.L)) (J.map tuR) per k0 k1 m i) (fun m i t e hi=>?_) (fun m=>?_) (by omega)
 ·rw [UJ,Qje,Qc hi,cond_true,QL e];simp -implicitDefEqProofs only [Q0,tuR,Qjb,Qjd,Q2,Qs (show i<=1000 by omega),Qem h hJ (Qjf e)];cases Q88 per t.2.2.1 t.2.2.2 (X.occN t.1) (X.occN t.2.1) <;> rfl
 ·rw [UJ,Qje,Qi,Qjc,hk]
theorem buildR (hl:X.LsOK per Ch Sy) (p0:2<=per) (p1:per<=300) (hc:Uk 400 X.G.St X.G.Pt X.G.Se X.G.Li per X.skR X.Ro X.Ls Ch (X.T.map tuR) Sy De (some:Int->Option Int)=some 0) :
  T8 400 X.G.St X.G.Pt X.G.Se X.G.Li per X.skR X.Ro X.Ls Ch (X.T.map tuR) Sy De Tu4=some (X.netV per X.jns Ch Sy):=by
 have hN:X.N<=6:=base_le h;have aj:(X.occs X.L).length=X.N:=Zu;have an:=planned_len h hl;have hJ:=QdN h;have ac:(X.pls X.L++(Ch.map X.chE++X.T.map X.tuE++Sy.map X.syE))=X.planned Ch Sy:=by unfold planned;simp only [Qji]
 rw [<- Q6G fun t=>Q1W h (t:=t)];unfold T8 netV;rw [Qeo h hc,Q0,Q9 (by rfl)];dsimp only;rw [J4,aj,M9 (by omega),Q9 (decide_eq_false (by omega)),QbA h p0 p1 (fun _ _=>rfl)];unfold aloneJ;cases (X.occs X.L).all (fun o=>o.all (MA per))
 ·rfl
 rw [cond_true,cond_true,QeN h,Q0,Qcp h hJ (fun _ _=>rfl)];cases (X.jnsR X.L).all (fun t=>!Q88 per t.2.2.1 t.2.2.2 (X.occN t.1) (X.occN t.2.1))
 ·rfl
 rw [cond_true,cond_true];refine (QbV h _).trans ?_;rw [QdV h,Qf1 h hl,Q0,Q0,XF (by rw [<- List.length_append,ac];omega),Q0,ac];refine (Qb3 h p0 p1 hJ (Ke:=some ((0:Int),([]:LL),([]:LL),(13:Int))) (K1:=fun a=>bif decide (((List.length a:Nat):Int)>512) then some (0,[],[],7) else some (per,X.evs X.L,a,0)) X.N 400 0 (X.planned Ch Sy) (by omega) (by omega) (by omega)).trans ?_;cases eh:X.hdws per (X.jnsR X.L) X.N 0 with
 |none=>rfl
 |some H=>
  have:=hdws_len h p0 p1 (by omega) eh;dsimp only;rw [Q9 (decide_eq_false (by rw [List.length_append];omega))]
end Cx
def R6 (row:List D):Prop:=∃ kd f t mn mx w:Int,row=[Q4 kd,Q4 f,Q4 t,Q4 mn,Q4 mx,Q4 w]
def chk (per:Int) (e:Nat):List D->Bool
 |[_,.int _ f,.int _ t,.int _ mn,.int _ mx,.int _ w]=>!(bif bif !(bif decide (f>=0) then decide (f<(e:Int)) else false) then true else !(bif decide (t>=0) then decide (t<(e:Int)) else false) then true else f == t)&&(!(bif bif bif decide (mn < -65536) then true else decide (mn>mx) then true else decide (mx>65536) then true else decide (wJ (mx-mn)>=per))&&!(bif decide (w<0) then true else decide (w>1048576)))
 |_=>false
theorem Q4D {per:Int} {e:Nat} {kd f t mn mx w:Int} (h:chk per e [Q4 kd,Q4 f,Q4 t,Q4 mn,Q4 mx,Q4 w]=true):0<=f/\f<e/\0<=t/\t<e /\ -65536<=mn/\mn<=mx/\mx<=65536:=by
 simp only [chk,Bool.cond_true_left,Bool.cond_false_right,QjE,Bool.not_eq_true',Bool.or_eq_false_iff,Bool.not_eq_false',decide_eq_true_eq,decide_eq_false_iff_not,beq_eq_false_iff_ne] at h;omega
section
variable {per:Int} {E A:LL} (p0:2<=per) (p1:per<=300) (hE:E.length<=48) (hA:A.length<=512) (hr:∀ r∈A,R6 r)
include p0 p1 hE hA hr
theorem QdP (hl:A.length<400):T0 400 per E A some=some (A.all (chk per E.length)):=by
 unfold T0;rw [show decide (per<2)=false from decide_eq_false (by omega),show decide (per>7200)=false from decide_eq_false (by omega),show decide (((E.length:Nat):Int)>48)=false from decide_eq_false (by omega),show decide (((A.length:Nat):Int)>512)=false from decide_eq_false (by omega)];simp -implicitDefEqProofs only [Qjc];refine (Tg (r:=fun m i=>U5 400 A ((A.length:Nat):Int) per E A (some false) (fun _ _=>some true) m i) (l:=A) (p:=chk per E.length) (E0:=some false) (E1:=some true) (fun m i q e hi=>?_) (fun m=>?_) (fuel:=400) (by omega)).trans (by cases A.all (chk per E.length) <;> rfl)
 ·obtain ⟨kd,f,t,mn,mx,w,rfl⟩:=hr q (Qjf e);rw [U5,Qc hi,cond_true,Qe,e];unfold G8;simp -implicitDefEqProofs only [Q0,Qjb,Qjd,Q2,Qs (show i<=1000 by omega)];dsimp only [chk];cases (bif bif !(bif decide (f>=0) then decide (f<(E.length:Int)) else false) then true else !(bif decide (t>=0) then decide (t<(E.length:Int)) else false) then true else f == t)
  ·cases (bif bif bif decide (mn < -65536) then true else decide (mn>mx) then true else decide (mx>65536) then true else decide (wJ (mx-mn)>=per))
   ·cases (bif decide (w<0) then true else decide (w>1048576)) <;> rfl
   ·rfl
  ·rfl
 ·rw [U5,Qi,Qjc]
theorem Qb7 (hl:A.length<400):Uq 400 per E A some=some (A.all (chk per E.length)):=by
 unfold Uq HP;rw [show decide (per>=2)=true from Qjg (by omega),show decide (per<=7200)=true from Qjg (by omega),show decide (((E.length:Nat):Int)>48)=false from decide_eq_false (by omega),show decide (((A.length:Nat):Int)>512)=false from decide_eq_false (by omega)];simp -implicitDefEqProofs only [Qjc,cond_true,Q0,Qjp];refine (Tg (r:=fun m i=>Vu 400 per E A (some false) (fun _ _=>some true) m i) (l:=A) (p:=chk per E.length) (E0:=some false) (E1:=some true) (fun m i q e hi=>?_) (fun m=>?_) (fuel:=400) (by omega)).trans (by cases A.all (chk per E.length) <;> rfl)
 ·obtain ⟨kd,f,t,mn,mx,w,rfl⟩:=hr q (Qjf e);rw [Vu,Qc hi,cond_true,Qe,e];unfold HP;simp -implicitDefEqProofs only [Q0,Qjb,Qjd,Q2,Qs (show i<=1000 by omega),Q7 (x:=((E.length:Nat):Int)-1) (by omega) (by omega)];have sw:∀ (c d:Bool) (x y:Option Bool),c = !d->(bif c then x else y)=bif d then y else x:=fun c d x y h=>by rw [h];cases d <;> rfl
  refine sw _ _ _ _ ?_;rw [Bool.eq_iff_iff];simp only [chk,Bool.cond_true_left,Bool.cond_false_right,QjE,Bool.or_eq_true,Bool.not_eq_true',Bool.and_eq_false_iff,Bool.or_eq_false_iff,Bool.not_eq_false',decide_eq_true_eq,decide_eq_false_iff_not,beq_eq_false_iff_ne,beq_iff_eq];omega
 ·rw [Vu,Qi,Qjc]
def Q6x (per:Int) (E A:LL) (tl:List Int):Bool:=bif (bif !(A.all (chk per E.length)) then true else ((tl.length:Nat):Int) != ((E.length:Nat):Int)) then false else tl.all fun x=>!(bif decide (x<0) then true else decide (x>=per))
theorem Qej (hl:A.length<400) {tl:List Int}:JU 400 per E A (encI tl) some=some (Q6x per E A tl)/\NB 400 per E A (encI tl) some=some (Q6x per E A tl):=by
 have ca:=QdP p0 p1 hE hA hr hl;have cb:=Qb7 p0 p1 hE hA hr hl;have ac:(encI tl).length=tl.length:=Xg tl;unfold JU NB Q6x;rw [ca,cb,Q0,Q0,ac];cases hc:(bif !(A.all (chk per E.length)) then true else ((tl.length:Nat):Int) != ((E.length:Nat):Int)) with
 |true=>exact ⟨rfl,rfl⟩
 |false=>
  have aj:tl.length=E.length:=by
   cases a : !(A.all (chk per E.length)) with
   |true=>rw [a] at hc;cases hc
   |false=>
    rw [a,Qjc] at hc;have:((tl.length:Nat):Int)=((E.length:Nat):Int):=by simpa using hc
    omega
  rw [Qjc,Qjc,Qjc];constructor
  ·refine (Tg (r:=fun m i=>V2 400 (encI tl) ((tl.length:Nat):Int) per (some false) (fun _ _=>some true) m i) (l:=tl) (p:=fun x=>!(bif decide (x<0) then true else decide (x>=per))) (E0:=some false) (E1:=some true) (fun m i q e hi=>?_) (fun m=>?_) (fuel:=400) (by omega)).trans (by cases tl.all _ <;> rfl)
   ·rw [V2,Qc hi,cond_true,HM e];simp -implicitDefEqProofs only [Q0,Qjb,Q2,Qs (show i<=1000 by omega)];cases (bif decide (q<0) then true else decide (q>=per)) <;> rfl
   ·rw [V2,Qi,Qjc]
  ·refine (Tg (r:=fun m i=>J8 400 (encI tl) per (some false) (fun _ _=>some true) m i) (l:=tl) (p:=fun x=>!(bif decide (x<0) then true else decide (x>=per))) (E0:=some false) (E1:=some true) (fun m i q e hi=>?_) (fun m=>?_) (fuel:=400) (by omega)).trans (by cases tl.all _ <;> rfl)
   ·rw [J8,ac,Qc hi,cond_true,HM e];unfold HP;simp -implicitDefEqProofs only [Q0,Qjb,Q2,Qs (show i<=1000 by omega),Q7 (x:=per-1) (by omega) (by omega)];by_cases a:q<0
    ·rw [show decide (q>=0)=false from decide_eq_false (by omega),show decide (q<0)=true from Qjg a];rfl
    ·rw [show decide (q>=0)=true from Qjg (by omega),show decide (q<0)=false from decide_eq_false a];by_cases h2:q>=per
     ·rw [show decide (q<=per-1)=false from decide_eq_false (by omega),show decide (q>=per)=true from Qjg h2];rfl
     ·rw [show decide (q<=per-1)=true from Qjg (by omega),show decide (q>=per)=false from decide_eq_false h2];rfl
   ·rw [J8,ac,Qi,Qjc]
end
theorem NX {w:List Int} {i:Nat} {v:Int}:(encI w).set i [Q4 v]=encI (w.set i v):=by
 unfold encI;rw [List.map_set]
def Q5r (l:List Nat):LL:=l.map fun i:Nat=>[Q4 (i:Int)]
def Qbl (rs:List (List Nat × Bool)):LL:=rs.map fun r=>[D.sl 1 (Q5r r.1),D.bool r.2]
def Qhs (l:LL):List Nat:=l.map fun r=>match r with | [.int _ x]=>x.toNat | _=>0
def Qe1 (a:LL):List (List Nat × Bool):=a.map fun r=>match r with | [.sl _ l,.bool c]=>(Qhs l,c) | _=>([],false)
def eqI:LL->LL->Bool
 |[],[]=>true
 |[.int .i64 x]::a,[.int .i64 y]::b=>decide (x=y)&&eqI a b
 |_,_=>false
def eqR:LL->LL->Bool
 |[],[]=>true
 |[.sl 1 l,.bool c]::a,[.sl 1 l',.bool c']::b=>eqI l l'&&(c == c'&&eqR a b)
 |_,_=>false
theorem QaW:∀ {a b:LL},eqI a b=true->a=b:=by
 intro a b;induction a,b using eqI.induct with
 |case1=>exact fun _=>rfl
 |case2 x a y b ih=>
  intro h;rw [eqI,QjE,decide_eq_true_eq] at h;rw [h.1,ih h.2]
 |case3 a b c h2=>intro h;rw [eqI] at h <;> first | cases h | assumption
theorem QdA:∀ {a b:LL},eqR a b=true->a=b:=by
 intro a b;induction a,b using eqR.induct with
 |case1=>exact fun _=>rfl
 |case2 l c a l' c' b ih=>
  intro h;rw [eqR,QjE,QjE,beq_iff_eq] at h;rw [QaW h.1,h.2.1,ih h.2.2]
 |case3 a b d h2=>intro h;rw [eqR] at h <;> first | cases h | assumption
def tix (T:List Tup) (i:Nat):Int:=match T.findIdx? fun t=>t.1 == i with
 |some j=>(j:Int)
 |none => -1
def Q3u:List (List Nat × Bool)->Nat
 |[]=>0
 |r::rs=>r.1.length+Q3u rs
def RG (Ls:LL) (T:List Tup):Bool:=match XH 400 Ls (T.map tuR) some,Zl 400 Ls (T.map tuR) some with
 |some a,some t=>eqR a (Qbl (Qe1 a))&&(eqI t (encI ((List.range Ls.length).map (tix T)))&&((Qe1 a).all (fun r=>Nat.blt 0 r.1.length&&r.1.all fun i=>Nat.blt i Ls.length)&&(Nat.ble (Q3u (Qe1 a)) Ls.length&&Nat.blt 0 (Qe1 a).length)))
 |_,_=>false
section
variable (x y z:List D) (lo hi lo' hi' lo'' hi'':Int)
theorem Qgm:RG [x] []=true/\RG [x,y] []=true/\RG [x,y,z] []=true:=⟨by kernel_rfl,by kernel_rfl,by kernel_rfl⟩
theorem QfR:RG [x] [(0,0,lo,hi)]=true:=by kernel_rfl
def u2:List Nat:=[0,1]
def u3:List Nat:=[0,1,2]
theorem Qga:(u2.all fun a=>u2.all fun b=>RG [x,y] [(a,b,lo,hi)])=true:=by kernel_rfl
theorem Qg8:(u3.all fun a=>u3.all fun b=>RG [x,y,z] [(a,b,lo,hi)])=true:=by kernel_rfl
theorem Qgt:(u2.all fun a=>u2.all fun b=>u2.all fun a'=>u2.all fun b'=>(Nat.beq a a'||Nat.beq b b')||RG [x,y] [(a,b,lo,hi),(a',b',lo',hi')])=true:=by kernel_rfl
theorem QgB:(u3.all fun a=>u3.all fun b=>u3.all fun a'=>u3.all fun b'=>(Nat.beq a a'||Nat.beq b b')||RG [x,y,z] [(a,b,lo,hi),(a',b',lo',hi')])=true:=by kernel_rfl
theorem QfG:(u3.all fun a=>u3.all fun b=>u3.all fun a'=>u3.all fun b'=>(Nat.beq a a'||Nat.beq b b')||u3.all fun aj=>u3.all fun ac=>(Nat.beq a aj||Nat.beq b ac||Nat.beq a' aj||Nat.beq b' ac)||RG [x,y,z] [(a,b,lo,hi),(a',b',lo',hi'),(aj,ac,lo'',hi'')])=true:=by kernel_rfl
end
theorem Q9Z {l:List Nat} {f:Nat->Nat->Bool} (h:(l.all fun a=>l.all fun b=>f a b)=true) {a b:Nat} (ha:a∈l) (hb:b∈l):f a b=true:=QjJ.1 (QjJ.1 h a ha) b hb
theorem Qda {a:Nat} (h:a<2):a∈u2:=by
 obtain rfl | rfl:a=0\/a=1:=by omega
 all_goals decide
theorem Q7g {a:Nat} (h:a<3):a∈u3:=by
 obtain rfl | rfl | rfl:a=0\/a=1\/a=2:=by omega
 all_goals decide
theorem Q6X {a b:Nat} (h:a≠b):Nat.beq a b=false:=Bool.eq_false_iff.2 fun e=>h (Nat.eq_of_beq_eq_true e)
theorem ne2 {a b a' b':Nat} {x:Bool} (h:(Nat.beq a a'||Nat.beq b b'||x)=true) (c:a≠a') (h2:b≠b'):x=true:=by
 simpa [Q6X c,Q6X h2] using h
theorem ne4 {a b a' b' c d c' d':Nat} {x:Bool} (h:(Nat.beq a a'||Nat.beq b b'||Nat.beq c c'||Nat.beq d d'||x)=true) (e:a≠a') (h2:b≠b') (f:c≠c') (g:d≠d'):x=true:=by
 simpa [Q6X e,Q6X h2,Q6X f,Q6X g] using h
theorem QhB {Ls:LL} {T:List Tup} (l0:1<=Ls.length) (l1:Ls.length<=3) (hb:∀ t∈T,t.1<Ls.length/\t.2.1<Ls.length) (c:(T.map (·.1)).Nodup) (d:(T.map (·.2.1)).Nodup):RG Ls T=true:=by
 rcases Ls with _ | ⟨x,_ | ⟨y,_ | ⟨z,_ | ⟨w,r⟩⟩⟩⟩
 ·simp at l0
 ·rcases T with _ | ⟨⟨a,b,lo,hi⟩,_ | ⟨⟨a',b',lo',hi'⟩,T⟩⟩
  ·exact (Qgm x x x).1
  ·obtain ⟨ha,e⟩:=hb _ (Qjm ..);obtain rfl:a=0:=by simpa using ha
   obtain rfl:b=0:=by simpa using e
   exact QfR x lo hi
  ·have f:=(hb _ (Qjm ..)).1;have h2:=(hb _ (Qjo _ (Qjm ..))).1;simp at f h2 c;omega
 ·rcases T with _ | ⟨⟨a,b,lo,hi⟩,_ | ⟨⟨a',b',lo',hi'⟩,_ | ⟨⟨aq,ao,lo'',hi''⟩,T⟩⟩⟩
  ·exact (Qgm x y x).2.1
  ·obtain ⟨ha,hb⟩:=hb _ (Qjm ..);exact Q9Z (Qga x y lo hi) (Qda ha) (Qda hb)
  ·obtain ⟨ha,e⟩:=hb _ (Qjm ..);obtain ⟨aj,ac⟩:=hb _ (Qjo _ (Qjm ..));simp at c d;exact ne2 (Q9Z (Q9Z (Qgt x y lo hi lo' hi') (Qda ha) (Qda e)) (Qda aj) (Qda ac)) c d
  ·have f:=(hb _ (Qjm ..)).1;have h2:=(hb _ (Qjo _ (Qjm ..))).1;have g:=(hb _ (Qjo _ (Qjo _ (Qjm ..)))).1;simp at f h2 g c;omega
 ·rcases T with _ | ⟨⟨a,b,lo,hi⟩,_ | ⟨⟨a',b',lo',hi'⟩,_ | ⟨⟨aq,ao,lo'',hi''⟩,_ | ⟨⟨i,j,k,l⟩,T⟩⟩⟩⟩
  ·exact (Qgm x y z).2.2
  ·obtain ⟨ha,hb⟩:=hb _ (Qjm ..);exact Q9Z (Qg8 x y z lo hi) (Q7g ha) (Q7g hb)
  ·obtain ⟨ha,e⟩:=hb _ (Qjm ..);obtain ⟨aj,ac⟩:=hb _ (Qjo _ (Qjm ..));simp at c d;exact ne2 (Q9Z (Q9Z (QgB x y z lo hi lo' hi') (Q7g ha) (Q7g e)) (Q7g aj) (Q7g ac)) c d
  ·obtain ⟨ha,e⟩:=hb _ (Qjm ..);obtain ⟨aj,ac⟩:=hb _ (Qjo _ (Qjm ..));obtain ⟨an,ak⟩:=hb _ (Qjo _ (Qjo _ (Qjm ..)));simp at c d;have f:=ne2 (Q9Z (Q9Z (QfG x y z lo hi lo' hi' lo'' hi'') (Q7g ha) (Q7g e)) (Q7g aj) (Q7g ac)) c.1.1 d.1.1;exact ne4 (Q9Z f (Q7g an) (Q7g ak)) c.1.2 d.1.2 c.2 d.2
  ·have f:=(hb _ (Qjm ..)).1;have h2:=(hb _ (Qjo _ (Qjm ..))).1;have g:=(hb _ (Qjo _ (Qjo _ (Qjm ..)))).1;have h:=(hb _ (Qjo _ (Qjo _ (Qjo _ (Qjm ..))))).1;simp at f h2 g h c;omega
 ·simp at l1
theorem Q5e {α:Type} {p:α->Bool}:∀ {l:List α},(l.find? p=none/\l.findIdx? p=none)\/∃ t j,l.find? p=some t/\l.findIdx? p=some j/\l[j]? = some t
 |[]=>.inl ⟨rfl,rfl⟩
 |a::l=>by
  rw [List.find?_cons,List.findIdx?_cons];cases ha:p a with
  |true=>exact .inr ⟨a,0,rfl,rfl,rfl⟩
  |false=>
   rcases Q5e (p:=p) (l:=l) with ⟨b,h2⟩ | ⟨t,j,b,h2,c⟩
   ·exact .inl ⟨b,by simp [h2]⟩
   ·exact .inr ⟨t,j+1,b,by simp [h2],c⟩
namespace Cx
variable {X:Cx} (h:X.OK)
include h
theorem rotsP:∃ rs:List (List Nat × Bool),XH 400 X.Ls (X.T.map tuR) some=some (Qbl rs)/\Zl 400 X.Ls (X.T.map tuR) some=some (encI ((List.range X.L).map (tix X.T)))/\(∀ r∈rs,1<=r.1.length/\∀ i∈r.1,i<X.Ls.length)/\Q3u rs<=3/\1<=rs.length:=by
 have hc:=QhB h.l0 h.l1 (fun t ht=>⟨(h.tr t ht).1,(h.tr t ht).2.1⟩) h.fd h.td;have l1:=h.l1;unfold RG at hc;cases e1:XH 400 X.Ls (X.T.map tuR) some with
 |none=>rw [e1] at hc;cases hc
 |some a=>
  cases b:Zl 400 X.Ls (X.T.map tuR) some with
  |none=>rw [e1,b] at hc;cases hc
  |some t=>
   rw [e1,b] at hc;simp only [QjE] at hc;obtain ⟨c1,c,d,e,f⟩:=hc;refine ⟨Qe1 a,by rw [<- QdA c1],by rw [QaW c];rfl,fun r hr=>?_,?_,QjK f⟩
   ·have:=QjJ.1 d r hr;rw [QjE] at this;exact ⟨QjK this.1,fun i hi=>QjK (QjJ.1 this.2 i hi)⟩
   ·have:=QjK e;omega
end Cx
def tat (tl:List Int) (i:Int):Int:=tl.getD i.toNat 0
def dur (tl:List Int) (per f t mn:Int):Int:=mn+(tat tl t-tat tl f-mn) % per
def Mo (tl:List Int) (per:Int):List D->Int
 |[_,.int _ f,.int _ t,.int _ mn,_,_]=>dur tl per f t mn
 |_=>0
namespace Cx
variable {X:Cx}
structure Gd (X:Cx) (per:Int) (Ch Sy A:LL) (tl:List Int):Prop where
 ok:X.OK
 ls:X.LsOK per Ch Sy
 p0:2<=per
 p1:per<=300
 act:∃ H,A=X.planned Ch Sy++H/\∀ r∈H,∃ a b w,r=Q7f a b w
 len:A.length<400
 tlen:tl.length=2*X.N
 tr:∀ x∈tl,0<=x/\x<per
 ck:∀ r∈A,chk per (2*X.N) r=true
theorem Q5N {per:Int} {J:List Tup} {a:Nat}:∀ {c b:Nat} {H:LL},X.hdw per J a c b=some H->∀ r∈H,∃ a b w,r=Q7f a b w
 |0,b,H,e=>by cases e;exact fun r hr=>nomatch hr
 |c+1,b,H,e=>by
  rw [hdw] at e;cases ew:X.WV per J a b with
  |none=>rw [ew] at e;cases e
  |some W=>
   rw [ew] at e;cases eh:X.hdw per J a c (b+1) with
   |none=>simp only [eh] at e;cases e
   |some H'=>
    simp only [eh] at e;cases e;intro r hr;rcases Qjk.1 hr with hr | hr
    ·obtain ⟨w,_,rfl⟩:=QjS.1 hr;exact ⟨_,_,_,rfl⟩
    ·exact Q5N eh r hr
theorem hdws_rows {per:Int} {J:List Tup}:∀ {c a:Nat} {H:LL},X.hdws per J c a=some H->∀ r∈H,∃ a b w,r=Q7f a b w
 |0,b,H,e=>by cases e;exact fun r hr=>nomatch hr
 |c+1,a,H,e=>by
  rw [hdws] at e;cases ew:X.hdw per J a c (a+1) with
  |none=>rw [ew] at e;cases e
  |some W=>
   rw [ew] at e;cases eh:X.hdws per J c (a+1) with
   |none=>simp only [eh] at e;cases e
   |some H'=>
    simp only [eh] at e;cases e;intro r hr;rcases Qjk.1 hr with hr | hr
    ·exact Q5N ew r hr
    ·exact hdws_rows eh r hr
theorem Qbm {i:Nat} {r:List D}:∀ {K:Nat},r∈X.pl i K->∃ k,k<K/\(r=X.aR i k\/k<X.nr i-1/\r=X.aD i k)
 |0,h=>nomatch h
 |K+1,h=>by
  rw [pl] at h;rcases Qjk.1 h with h | h
  ·rcases Qjk.1 h with h | h
   ·obtain ⟨k,hk,h⟩:=Qbm h;exact ⟨k,by omega,h⟩
   ·exact ⟨K,by omega,.inl (Qjr.1 h)⟩
  ·split at h
   ·exact ⟨K,by omega,.inr ⟨by assumption,Qjr.1 h⟩⟩
   ·nomatch h
theorem Q8G {r:List D}:∀ {L:Nat},r∈X.pls L->∃ i k,i<L/\k<X.nr i/\(r=X.aR i k\/k<X.nr i-1/\r=X.aD i k)
 |0,h=>nomatch h
 |L+1,h=>by
  rw [pls] at h;rcases Qjk.1 h with h | h
  ·obtain ⟨i,k,hi,h⟩:=Q8G h;exact ⟨i,k,by omega,h⟩
  ·obtain ⟨k,hk,h⟩:=Qbm h;exact ⟨L,k,by omega,hk,h⟩
variable {per:Int} {Ch Sy A:LL} {tl:List Int}
theorem QcO (h:X.OK) (hl:X.LsOK per Ch Sy) {H:LL} (hH:∀ r∈H,∃ a b w,r=Q7f a b w) {r:List D} (hr:r∈X.planned Ch Sy++H):(∃ i k,i<X.Ls.length/\k<X.nr i/\(r=X.aR i k\/k<X.nr i-1/\r=X.aD i k))\/(∃ t∈X.T,r=X.tuE t)\/∃ kd f t mn mx w:Int,(kd=3\/kd=5\/kd=6)/\r=[Q4 kd,Q4 f,Q4 t,Q4 mn,Q4 mx,Q4 w]:=by
 rcases Qjk.1 hr with hr | hr
 ·rcases Qjk.1 hr with hr | hr
  ·rcases Qjk.1 hr with hr | hr
   ·rcases Qjk.1 hr with hr | hr
    ·exact .inl (Q8G hr)
    ·obtain ⟨row,ac,rfl⟩:=QjS.1 hr;obtain ⟨f,fr,t,tr,mn,mx,w,rfl,_⟩:=hl.ch row ac;exact .inr (.inr ⟨3,_,_,mn,mx,w,.inl rfl,rfl⟩)
   ·obtain ⟨t,ht,rfl⟩:=QjS.1 hr;exact .inr (.inl ⟨t,ht,rfl⟩)
  ·obtain ⟨row,ac,rfl⟩:=QjS.1 hr;obtain ⟨o,rfl,_⟩:=hl.sy row ac;exact .inr (.inr ⟨5,_,_,o,o,0,.inr (.inl rfl),rfl⟩)
 ·obtain ⟨a,b,w,rfl⟩:=hH r hr;exact .inr (.inr ⟨6,_,_,w.1,w.2,0,.inr (.inr rfl),rfl⟩)
theorem act_r6 (h:X.OK) (hl:X.LsOK per Ch Sy) {H:LL} (hH:∀ r∈H,∃ a b w,r=Q7f a b w) {r:List D} (hr:r∈X.planned Ch Sy++H):R6 r:=by
 rcases QcO h hl hH hr with ⟨i,k,_,_,rfl | ⟨_,rfl⟩⟩ | ⟨t,_,rfl⟩ | ⟨kd,f,t,mn,mx,w,_,rfl⟩
 ·exact ⟨_,_,_,_,_,_,rfl⟩
 ·exact ⟨_,_,_,_,_,_,rfl⟩
 ·exact ⟨_,_,_,_,_,_,rfl⟩
 ·exact ⟨_,_,_,_,_,_,rfl⟩
variable (g:X.Gd per Ch Sy A tl)
include g
theorem Gd.r6 {r:List D} (hr:r∈A):R6 r:=by
 obtain ⟨H,rfl,hH⟩:=g.act;exact act_r6 g.ok g.ls hH hr
theorem Gd.tat {i:Int} (a:0<=i) (b:i<(2*X.N:Nat)):Q1 (encI tl) i=some [Q4 (Vx.tat tl i)]/\0<=Vx.tat tl i/\Vx.tat tl i<per:=by
 have hl:=g.tlen;have e:tl[i.toNat]? = some (Vx.tat tl i):=by
  unfold Vx.tat;rw [Qjj,Qjh (by omega)];rfl
 have:=HM e;rw [show ((i.toNat:Nat):Int)=i by omega] at this;exact ⟨this,g.tr _ (Qjf e)⟩
theorem Gd.row {r:List D} (hr:r∈A):∃ kd f t mn mx w:Int,r=[Q4 kd,Q4 f,Q4 t,Q4 mn,Q4 mx,Q4 w]/\(0<=f/\f<(2*X.N:Nat))/\(0<=t/\t<(2*X.N:Nat)) /\ -65536<=mn/\mn<=65536:=by
 obtain ⟨kd,f,t,mn,mx,w,rfl⟩:=g.r6 hr;have:=Q4D (g.ck _ hr);exact ⟨kd,f,t,mn,mx,w,rfl,by omega,by omega,by omega⟩
theorem Gd.dur_rng {r:List D} (hr:r∈A) : -65536<=Mo tl per r/\Mo tl per r<=66000:=by
 obtain ⟨kd,f,t,mn,mx,w,rfl,hf,ht,a,h2⟩:=g.row hr;have p0:=g.p0;have p1:=g.p1;have:=Qju (Vx.tat tl t-Vx.tat tl f-mn) (show per≠0 by omega);have:=Qjs (Vx.tat tl t-Vx.tat tl f-mn) (show 0<per by omega);simp only [Mo,dur];omega
theorem Gd.durP {R:Type} {a:Nat} {r:List D} (e:A[a]? = some r) (K:Int->oP R):Xo 400 per A (encI tl) (a:Int) K=K (Mo tl per r):=by
 have hr:=Qjf e;have p0:=g.p0;have p1:=g.p1;obtain ⟨kd,f,t,mn,mx,w,rfl,hf,ht,b,h2⟩:=g.row hr;have tf:=g.tat hf.1 hf.2;have tt:=g.tat ht.1 ht.2;have:=Qju (Vx.tat tl t-Vx.tat tl f-mn) (show per≠0 by omega);have:=Qjs (Vx.tat tl t-Vx.tat tl f-mn) (show 0<per by omega);unfold Xo;rw [Qe,e];simp -implicitDefEqProofs only [Q0,Qjb,Qjd,Q2,tf.1,tt.1,Q7 (x:=Vx.tat tl t-Vx.tat tl f) (by omega) (by omega),Q7 (x:=Vx.tat tl t-Vx.tat tl f-mn) (by omega) (by omega),QfW (n:=400) (t:=per) (x:=Vx.tat tl t-Vx.tat tl f-mn) (by omega) (by omega) (by omega) (by omega),Q7 (x:=mn+(Vx.tat tl t-Vx.tat tl f-mn) % per) (by omega) (by omega)];rfl
end Cx
def Ak (l:List Bool):LL:=l.map fun b=>[D.bool b]
theorem Jd {w:List Int} {i:Nat} (h:i<w.length):(encI w)[i]? = some [Q4 w[i]]:=by
 exact HM (Qjh h)
theorem Q4o {w:List Bool} {i:Nat} (h:i<w.length):(Ak w)[i]? = some [D.bool w[i]]:=by
 simp [Ak,QjO,Qjh]
theorem Q0Z {w:List Bool}:(Ak w).length=w.length:=by simp [Ak]
theorem Q6a {w:List Bool} {i:Nat} {v:Bool}:(Ak w).set i [D.bool v]=Ak (w.set i v):=by
 grind [Ak,List.map_set]
def TG (per:Int) (k:Nat) (w:List Int):Prop:=w.length=k/\∀ x∈w,0<=x/\x<per
theorem TG.set {per:Int} {k:Nat} {w:List Int} (h:TG per k w) {i:Nat} {v:Int} (a:0<=v) (b:v<per):TG per k (w.set i v):=by
 refine ⟨by rw [QjH];exact h.1,fun x hx=>?_⟩;rcases List.mem_or_eq_of_mem_set hx with hx | rfl
 ·exact h.2 x hx
 omega
theorem TG.tat {per:Int} {k:Nat} {w:List Int} (h:TG per k w) {i:Int} (a:0<=i) (b:i<(k:Int)):Q1 (encI w) i=some [Q4 (Vx.tat w i)]/\0<=Vx.tat w i/\Vx.tat w i<per:=by
 have hl:=h.1;have e:w[i.toNat]? = some (Vx.tat w i):=by
  simp_all [Vx.tat,Qjj,Qjh]
 have:=HM e;rw [show ((i.toNat:Nat):Int)=i by omega] at this;exact ⟨this,h.2 _ (Qjf e)⟩
section
variable {R:Type} {n N:Nat} (hN:N<=48) {P:oP R->Prop}
include hN
theorem Qe8 {k0:Int->Bool->LL->oP R} (H:∀ w:List Int,w.length=N->P (k0 (N:Int) false (encI w))):∀ (c i m:Nat) (w:List Int),i+c=N->c<m->w.length=N->P (Z8 n (N:Int) k0 m (i:Int) (encI w))
 |0,i,m+1,w,hi,_,hw=>by
  rw [Z8,show i=N by omega,Qi,Qjc];exact H w hw
 |c+1,i,m+1,w,hi,hm,hw=>by
  rw [Z8,Qc (by omega),cond_true,Y0 (by omega) (by rw [Xg];omega),Q0,Int.toNat_natCast,Jd (by omega),Q0,Qjz,NX,Qs (by omega)];exact Qe8 H c (i+1) m _ (by omega) (by omega) (by rw [QjH];exact hw)
theorem Q8T {x y:Int} {k0:Int->Bool->LL->oP R} (H:∀ w:List Int,w.length=N->P (k0 (N:Int) false (encI w))):∀ (c i m:Nat) (w:List Int),i+c=N->c<m->w.length=N->P (Z6 n x y (N:Int) k0 m (i:Int) (encI w))
 |0,i,m+1,w,hi,_,hw=>by
  rw [Z6,show i=N by omega,Qi,Qjc];exact H w hw
 |c+1,i,m+1,w,hi,hm,hw=>by
  rw [Z6,Qc (by omega),cond_true,Y0 (by omega) (by rw [Xg];omega),Q0,Int.toNat_natCast,Jd (by omega)];simp -implicitDefEqProofs only [Q0,Qjb,Q2,Qjz,NX,Qs (show i<=1000 by omega)];cases w[i]'(by omega) == y with
  |true=>exact Q8T H c (i+1) m _ (by omega) (by omega) (by rw [QjH];exact hw)
  |false=>exact Q8T H c (i+1) m _ (by omega) (by omega) hw
theorem QdZ (hn:N<n) {w:List Int} (hw:w.length=N) {kd f t mn mx q:Int} (hf:0<=f/\f<N) (ht:0<=t/\t<N) {K:Bool->LL->oP R} (H:∀ b (w:List Int),w.length=N->P (K b (encI w))):P (Jz n (encI w) kd f t mn mx q K):=by
 obtain ⟨f,rfl⟩:=Int.eq_ofNat_of_zero_le hf.1;obtain ⟨t,rfl⟩:=Int.eq_ofNat_of_zero_le ht.1;unfold Jz;rw [Y0 (by omega) (by grind [Xg]),Q0,Int.toNat_natCast,Jd (show f<w.length by omega),Q0];simp -implicitDefEqProofs only [Q0,Qjb,Q2];rw [Y0 (by omega) (by rw [Xg];omega),Q0,Int.toNat_natCast,Jd (show t<w.length by omega),Q0];simp -implicitDefEqProofs only [Q0,Qjb,Q2];cases w[f]'(by omega) == w[t]'(by omega) with
 |true=>simp_all
 |false=>
  rw [Qjc,Xg];generalize w[f]'(by omega)=x;generalize w[t]'(by omega)=y;rw [hw];exact Q8T hN (H true) N 0 n w (by omega) hn hw
theorem Qcg {h:Nat} (hh:h<N) {ro:List Int} (hr:ro.length=N) {k0:Int->Bool->LL->oP R} (H:∀ w:List Int,w.length=N->P (k0 (h:Int) false (encI w))):∀ (c i m:Nat) (w:List Int),i+c=h->c<m->w.length=N->P (Yq n (h:Int) (encI ro) k0 m (i:Int) (encI w))
 |0,i,m+1,w,hi,_,hw=>by
  rw [Yq,show i=h by omega,Qi,Qjc];exact H w hw
 |c+1,i,m+1,w,hi,hm,hw=>by
  rw [Yq,Qc (by omega),cond_true];simp -implicitDefEqProofs only [Y0 (len:=(encI ro).length) (n:=(i:Int)) (by omega) (by rw [Xg];omega),Y0 (len:=(encI ro).length) (n:=(h:Int)) (by omega) (by rw [Xg];omega),Y0 (len:=(encI w).length) (n:=(i:Int)) (by omega) (by rw [Xg];omega),Y0 (len:=(encI w).length) (n:=(h:Int)) (by omega) (by rw [Xg];omega),Int.toNat_natCast,Jd (show i<ro.length by omega),Jd (show h<ro.length by omega),Jd (show i<w.length by omega),Jd (show h<w.length by omega),Q0,Qjb,Q2,Qjz,NX,Qs (show i<=1000 by omega)];cases ro[i]'(by omega) == ro[h]'(by omega) with
  |true=>exact Qcg hh hr H c (i+1) m _ (by omega) (by omega) (by rw [QjH];exact hw)
  |false=>exact Qcg hh hr H c (i+1) m _ (by omega) (by omega) hw
theorem Qc4 (hn:N<n) {ro:List Int} (hr:ro.length=N) {k0:Int->Int->Bool->LL->oP R} (H:∀ a (w:List Int),w.length=N->P (k0 a (N:Int) false (encI w))):∀ (c i m:Nat) (a:Int) (w:List Int),i+c=N->c<m->w.length=N->P (Yr n (N:Int) (encI ro) k0 m a (i:Int) (encI w))
 |0,i,m+1,a,w,hi,_,hw=>by
  rw [Yr,show i=N by omega,Qi,Qjc];exact H a w hw
 |c+1,i,m+1,a,w,hi,hm,hw=>by
  rw [Yr,Qc (by omega),cond_true,Y0 (by omega) (by rw [Xg];omega),Q0,Int.toNat_natCast,Jd (show i<w.length by omega),Q0,Qjz,NX];refine Qcg hN (show i<N by omega) hr (fun w hw=>?_) i 0 n _ (by omega) (by omega) (by rw [QjH];exact hw);simp -implicitDefEqProofs only [Y0 (len:=(encI w).length) (n:=(i:Int)) (by omega) (by rw [Xg];omega),Int.toNat_natCast,Jd (show i<w.length by omega),Q0,Qjb,Q2,Qjz,NX,Qs (show i<=1000 by omega)];cases decide (w[i]'(by omega)<0) with
  |true=>exact Qc4 hn hr H c (i+1) m _ _ (by omega) (by omega) (by rw [QjH];exact hw)
  |false=>exact Qc4 hn hr H c (i+1) m _ _ (by omega) (by omega) hw
theorem Qgh {A:LL} (hA:A.length<400) {per:Int} (hr:∀ r∈A,R6 r) (hc:∀ r∈A,chk per N r=true) (hn:N<n) {k0:Int->Bool->LL->oP R} (H:∀ a b (w:List Int),w.length=N->P (k0 a b (encI w))):∀ (ac:LL) (i m:Nat) (w:List Int),A.drop i=ac->ac.length<m->w.length=N->P (Z5 n A k0 m (i:Int) (encI w)):=by
 intro ac;induction ac with
 |nil=>
  intro i m w hd hm hw;obtain ⟨m,rfl⟩:∃ k,m=k+1:=⟨m-1,by omega⟩;have:=Ua hd;rw [Z5,show decide ((i:Int)<((A.length:Nat):Int))=false by simp_all,Qjc]
  simp_all
 |cons r ac ih=>
  intro i m w hd hm hw;obtain ⟨m,rfl⟩:∃ k,m=k+1:=⟨m-1,by simp at hm;omega⟩;obtain ⟨e,ao,an⟩:=Yh hd;have aj:=Qjf e;obtain ⟨kd,f,t,mn,mx,q,rfl⟩:=hr r aj;have hk:=Q4D (hc _ aj);rw [QjQ] at hm;rw [Z5,Qc an,cond_true,Qe,e];simp -implicitDefEqProofs only [Q0,Qjb,Qjd,Q2,Qs (show i<=1000 by omega)];have hx:∃ b w',Jz n (encI w) kd f t mn mx q Tu2=some (b,encI w')/\w'.length=N:=QdZ (P:=fun X=>∃ b w',X=some (b,encI w')/\w'.length=N) hN hn hw (by omega) (by omega) fun b w' h=>⟨b,w',rfl,h⟩
  obtain ⟨b,w',e',ak⟩:=hx;rw [e',Q0];dsimp only;rw [NO (by rw [Xg,Xg];omega),Q0];exact ih (i+1) m w' ao (by omega) ak
theorem Q7u {h:Nat} (hh:h<N) {ro:List Int} (hr:ro.length=N) {k0:Int->Bool->LL->oP R} (H:∀ w:List Bool,w.length=N->P (k0 (h:Int) false (Ak w))):∀ (c i m:Nat) (w:List Bool),i+c=h->c<m->w.length=N->P (YG n (encI ro) (h:Int) k0 m (i:Int) (Ak w))
 |0,i,m+1,w,hi,_,hw=>by
  rw [YG,show i=h by omega,Qi,Qjc];exact H w hw
 |c+1,i,m+1,w,hi,hm,hw=>by
  rw [YG,Qc (by omega),cond_true];simp -implicitDefEqProofs only [Qe,Y0 (len:=(Ak w).length) (n:=(h:Int)) (by omega) (by rw [Q0Z];omega),Int.toNat_natCast,Jd (show i<ro.length by omega),Jd (show h<ro.length by omega),Q4o (show h<w.length by omega),Q0,Qjb,Q2,Qjz,Q6a,Qs (show i<=1000 by omega)];cases ro[i]'(by omega) == ro[h]'(by omega) with
  |true=>exact Q7u hh hr H c (i+1) m _ (by omega) (by omega) (by rw [QjH];exact hw)
  |false=>exact Q7u hh hr H c (i+1) m _ (by omega) (by omega) hw
theorem Qbo (hn:N<n) {ro:List Int} (hr:ro.length=N) {k0:Int->Bool->LL->oP R} (H:∀ w:List Bool,w.length=N->P (k0 (N:Int) false (Ak w))):∀ (c i m:Nat) (w:List Bool),i+c=N->c<m->w.length=N->P (Zv n (encI ro) (N:Int) k0 m (i:Int) (Ak w))
 |0,i,m+1,w,hi,_,hw=>by
  rw [Zv,show i=N by omega,Qi,Qjc];exact H w hw
 |c+1,i,m+1,w,hi,hm,hw=>by
  rw [Zv,Qc (by omega),cond_true,Y0 (by omega) (by rw [Q0Z];omega),Q0,Int.toNat_natCast,Q4o (show i<w.length by omega),Q0,Qjz,Q6a,Qs (by omega)];exact Q7u hN (show i<N by omega) hr (fun w hw=>Qbo hn hr H c (i+1) m w (by omega) (by omega) hw) i 0 n _ (by omega) (by omega) (by rw [QjH];exact hw)
omit hN in
theorem Qfv:List.replicate N [D.int .i64 (0:Int)]=encI (List.replicate N 0):=by grind [encI,List.map_replicate]
omit hN in
theorem Qhn:List.replicate N [D.bool false]=Ak (List.replicate N false):=by grind [Ak,List.map_replicate]
omit hN in
theorem Q8j:(bif decide ((0:Int)<=((N:Nat):Int))&&decide (((N:Nat):Int)<=((N:Nat):Int)) then some () else none)=some ():=by simp_all
end
section
variable {per:Int} {E A:LL} {n:Nat} (p0:2<=per) (p1:per<=300) (hE:E.length<=48) (hA:A.length<400) (hr:∀ r∈A,R6 r) (hc:∀ r∈A,chk per E.length r=true) (hn:n=400)
include p0 p1 hE hA hr hc hn
theorem QgT (ac:Uq n per E A some=some true):∃ w:List Int,JE n per E A some=some (encI w)/\w.length=E.length:=by
 unfold JE;rw [ac,Q0,Qjp,Qjc,Q8j,Q0,Int.toNat_natCast,XF (by omega),Q0,List.length_replicate,Qfv];refine Qe8 (P:=fun X=>∃ w:List Int,X=some (encI w)/\w.length=E.length) hE (fun w hw=>?_) E.length 0 n _ (by omega) (by omega) (by simp);refine Qgh (P:=fun X=>∃ w:List Int,X=some (encI w)/\w.length=E.length) hE hA hr hc (by omega) (fun a b w hw=>?_) A 0 n w rfl (by omega) hw;rw [Xg,hw,Q8j,Q0,Int.toNat_natCast,XF (by omega),Q0,Qfv];exact Qc4 (P:=fun X=>∃ w:List Int,X=some (encI w)/\w.length=E.length) hE (by omega) hw (fun a w hw=>⟨w,rfl,hw⟩) E.length 0 n 0 _ (by omega) (by omega) (by simp)
theorem QhI (ac:Uq n per E A some=some true) {bu:Int} {al:Bool}:∃ w:List Bool,GB n per E A bu al Tu11=some (per,E,A,Ak w,bu,0,false,al,false,0,encI (List.replicate E.length 0))/\w.length=E.length:=by
 obtain ⟨ro,k,h2⟩:=QgT p0 p1 hE hA hr hc hn ac;unfold GB;rw [k,Q0,Q8j,Q0,Int.toNat_natCast,XF (by omega),Q0,Q0,XF (by omega),Q0,Qfv,Qhn,Xg,h2];exact Qbo (P:=fun X=>∃ w:List Bool,X=some (per,E,A,Ak w,bu,0,false,al,false,0,encI (List.replicate E.length 0))/\w.length=E.length) hE (by omega) h2 (fun w hw=>⟨w,rfl,hw⟩) E.length 0 n _ (by omega) (by omega) (by simp)
theorem Qba {R:Type} {w:List Int} (hw:TG per E.length w) {kd f t mn mx q:Int} (hm:[Q4 kd,Q4 f,Q4 t,Q4 mn,Q4 mx,Q4 q]∈A) (K:Int->oP R):Tp n per (encI w) f t mn K=K (mn+(tat w t-tat w f-mn) % per):=by
 have hk:=Q4D (hc _ hm);have tf:=hw.tat (i:=f) (by omega) (by omega);have tt:=hw.tat (i:=t) (by omega) (by omega);have:=Qju (tat w t-tat w f-mn) (show per≠0 by omega);have:=Qjs (tat w t-tat w f-mn) (show 0<per by omega);unfold Tp;simp -implicitDefEqProofs only [Q0,Qjb,Qjd,Q2,tf.1,tt.1,Q7 (x:=tat w t-tat w f) (by omega) (by omega),Q7 (x:=tat w t-tat w f-mn) (by omega) (by omega),Qfu (n:=n) (t:=per) (x:=tat w t-tat w f-mn) (by omega) (by omega) (by omega) (by omega),Q7 (x:=mn+(tat w t-tat w f-mn) % per) (by omega) (by omega)]
theorem QfJ {w:List Int} (hw:TG per E.length w) {al fd:Bool} {best i:Int}:∃ b,Zf n per A al fd best (encI w) i some=some b:=by
 unfold Zf;have go:∀ (ac:LL) (j m:Nat) (s:Int),A.drop j=ac->ac.length<m->∃ b,QZ n i (encI w) per A (some true) (fun a c d=>some (bif (bif al then fd else false) then (decide (a>=best)) else false)) m s (j:Int)=some b:=by
  intro ac;induction ac with
  |nil=>
   intro j m s hd hm;obtain ⟨m,rfl⟩:∃ k,m=k+1:=⟨m-1,by simp at hm;omega⟩;have:=Ua hd;rw [QZ,show decide ((j:Int)<((A.length:Nat):Int))=false by simpa using this,Qjc]
   simp_all
  |cons r ac ih=>
   intro j m s hd hm;obtain ⟨m,rfl⟩:∃ k,m=k+1:=⟨m-1,by simp at hm;omega⟩;obtain ⟨e,ak,an⟩:=Yh hd;have aj:=Qjf e;obtain ⟨kd,f,t,mn,mx,q,rfl⟩:=hr r aj;rw [QjQ] at hm;rw [QZ,Qc an,cond_true,Qe,e];simp -implicitDefEqProofs only [Q0,Qjb,Qjd,Q2,Qba p0 p1 hE hA hr hc hn hw aj,Qs (show j<=1000 by omega)];cases (bif decide (f>i) then true else decide (t>i)) with
   |true=>exact ih (j+1) m _ ak (by omega)
   |false=>
    rw [Qjc];cases decide (mn+(tat w t-tat w f-mn) % per>mx) with
    |true=>exact ⟨_,rfl⟩
    |false=>exact ih (j+1) m _ ak (by omega)
 exact go A 0 n 0 rfl (by omega)
theorem QgO {w:List Int} (hw:TG per E.length w):∃ c e,NZ n per E A (encI w) Tu2=some (c,e):=by
 have hg:=(Qej p0 p1 hE (by omega) hr hA (tl:=w)).2;rw [<- hn] at hg;unfold NZ;rw [hg,Q0];cases Q6x per E A w with
 |false=>exact ⟨_,_,rfl⟩
 |true=>
  rw [Qjp,Qjc];have go:∀ (ac:LL) (j m:Nat) (s:Int),A.drop j=ac->ac.length<m->∃ c e,J0 n (encI w) per A (fun d g h=>some (d,(0:Int))) m s (j:Int)=some (c,e):=by
   intro ac;induction ac with
   |nil=>
    intro j m s hd hm;obtain ⟨m,rfl⟩:∃ k,m=k+1:=⟨m-1,by simp at hm;omega⟩;have:=Ua hd;rw [J0,show decide ((j:Int)<((A.length:Nat):Int))=false by simpa using this,Qjc];exact ⟨_,_,rfl⟩
   |cons r ac ih=>
    intro j m s hd hm;obtain ⟨m,rfl⟩:∃ k,m=k+1:=⟨m-1,by simp at hm;omega⟩;obtain ⟨e,an,ak⟩:=Yh hd;have aj:=Qjf e;obtain ⟨kd,f,t,mn,mx,q,rfl⟩:=hr r aj;rw [QjQ] at hm;rw [J0,Qc ak,cond_true,Qe,e];simp -implicitDefEqProofs only [Q0,Qjb,Qjd,Q2,Qba p0 p1 hE hA hr hc hn hw aj,Qs (show j<=1000 by omega)];exact ih (j+1) m _ an (by omega)
  exact go A 0 n 0 rfl (by omega)
def Qfb (per:Int) (E A:LL) (fs:List Bool) (bu:Int) (X:Option (Bool × Int × LL × LL × LL × Int × Int × Bool × Bool × Bool × Int × LL × LL)):Prop:=
 ∃ r us ov fd best res w,X=some (r,per,E,A,Ak fs,bu,us,ov,false,fd,best,res,encI w)/\TG per E.length w/\(fd=true->∃ v,res=encI v/\TG per E.length v)
theorem QeB {fs:List Bool} (bb:fs.length=E.length) {bu:Int}:∀ (c d i:Nat) (us:Int) (ov fd:Bool) (best:Int) (res:LL) (w:List Int),i+c=E.length->c<d->TG per E.length w->(fd=true->∃ v,res=encI v/\TG per E.length v) ->
  Qfb per E A fs bu (Xk n d per E A (Ak fs) bu us ov false fd best res (encI w) (i:Int)):=by
 intro c;induction c with
 |zero=>
  intro d i us ov fd best res w hi hd hw hf;obtain ⟨d,rfl⟩:∃ k,d=k+1:=⟨d-1,by omega⟩;obtain ⟨c,e,a2⟩:=QgO p0 p1 hE hA hr hc hn hw;rw [Xk,VQ,show i=E.length by omega,show (((E.length:Nat):Int) == ((E.length:Nat):Int))=true by simp,cond_true,Xg,hw.1,XF (by omega),Q0,a2,Q0];exact ⟨_,_,_,_,_,_,_,rfl,hw,fun _=>⟨w,rfl,hw⟩⟩
 |succ c ih=>
  intro d i us ov fd best res w hi hd hw hf;obtain ⟨d,rfl⟩:∃ k,d=k+1:=⟨d-1,by omega⟩;rw [Xk,VQ,show (((i:Nat):Int) == ((E.length:Nat):Int))=false by simp;omega,Qjc,Y0 (by omega) (by rw [Q0Z];omega),Q0,Int.toNat_natCast,Q4o (show i<fs.length by omega)];simp -implicitDefEqProofs only [Q0,Qjb,N3];have ay:∀ (M:Nat),(M:Int)<=per->∀ (k:Nat) (t m:Nat) (us:Int) (ov fd:Bool) (best:Int) (res:LL) (w:List Int),t+k=M->k<m->TG per E.length w->(fd=true->∃ v,res=encI v/\TG per E.length v) ->
    ∀ {k0:LL->LL->Int->LL->LL->Int->Int->Bool->Bool->Bool->Int->LL->Option (Bool × Int × LL × LL × LL × Int × Int × Bool × Bool × Bool × Int × LL × LL)} {k1:Int->Bool->LL->LL->Int->LL->LL->Int->Int->Bool->Bool->Bool->Int->LL->Option (Bool × Int × LL × LL × LL × Int × Int × Bool × Bool × Bool × Int × LL × LL)},
    (∀ us ov fd best res w,TG per E.length w->(fd=true->∃ v,res=encI v/\TG per E.length v)->Qfb per E A fs bu (k0 (Ak fs) (encI w) per E A bu us ov false fd best res)) ->
    (∀ a b us ov fd best res w,TG per E.length w->(fd=true->∃ v,res=encI v/\TG per E.length v)->Qfb per E A fs bu (k1 a b (Ak fs) (encI w) per E A bu us ov false fd best res)) ->
    Qfb per E A fs bu (Xc n (Xk n d) (i:Int) (M:Int) k0 k1 m (t:Int) (Ak fs) (encI w) per E A bu us ov false fd best res):=by
   intro M hM k;induction k with
   |zero=>
    intro t m us ov fd best res w ht hm hw hf k0 k1 f g;obtain ⟨m,rfl⟩:∃ k,m=k+1:=⟨m-1,by omega⟩;rw [Xc,show t=M by omega,Qi,Qjc];exact g _ _ _ _ _ _ _ w hw hf
   |succ k a3=>
    intro t m us ov fd best res w ht hm hw hf k0 k1 f g;obtain ⟨m,rfl⟩:∃ k,m=k+1:=⟨m-1,by omega⟩;have bi:=hw.1;rw [Xc,Qc (by omega),cond_true];cases decide (wJ (us+1)>bu) with
    |true=>exact f _ _ _ _ _ w hw hf
    |false=>
     have az:TG per E.length (w.set i (t:Int)):=hw.set (by omega) (by omega);obtain ⟨b,hb⟩:=QfJ p0 p1 hE hA hr hc hn az (al:=false) (fd:=fd) (best:=best) (i:=(i:Int));rw [Qjc,Y0 (by omega) (by rw [Xg];omega),Q0,Int.toNat_natCast,Jd (show i<w.length by omega),Q0,Qjz,NX,hb,Q0,Qs (show i<=1000 by omega),Qs (show t<=1000 by omega)];cases b with
     |true=>
      simp -implicitDefEqProofs only [Qjp,Qjc];exact a3 (t+1) m _ _ _ _ _ _ (by omega) (by omega) az hf f g
     |false=>
      obtain ⟨r,a7,a9,bc,a4,a5,bg,hx,aw,ax⟩:=ih d (i+1) (wJ (us+1)) ov fd best res _ (by omega) (by omega) az hf;rw [Qjv,cond_true,hx,Q0];cases r with
      |true=>exact a3 (t+1) m _ _ _ _ _ _ (by omega) (by omega) aw ax f g
      |false=>exact f _ _ _ _ _ _ aw ax
  have e1:((1:Nat):Int)=1:=rfl;obtain ⟨q,hq⟩:=Int.eq_ofNat_of_zero_le (show 0<=per by omega);cases fs[i]'(by omega) with
  |true=>exact ay 1 (by omega) 1 0 n us ov fd best res w (by omega) (by omega) hw hf (fun us ov fd best res w hw hf=>⟨_,_,_,_,_,_,_,rfl,hw,hf⟩) fun a b us ov fd best res w hw hf=>⟨_,_,_,_,_,_,_,rfl,hw,hf⟩
  |false=>
   have:=ay q (by omega) q 0 n us ov fd best res w (by omega) (by omega) hw hf (k0:=fun h j l o p s u x y z aa ab=>some (false,l,o,p,h,s,u,x,y,z,aa,ab,j)) (k1:=fun aq ar ac ad ae ag ah ai aj ak am an ao ap=>some (true,ae,ag,ah,ac,ai,aj,ak,am,an,ao,ap,ad)) (fun us ov fd best res w hw hf=>⟨_,_,_,_,_,_,_,rfl,hw,hf⟩) fun a b us ov fd best res w hw hf=>⟨_,_,_,_,_,_,_,rfl,hw,hf⟩
   rw [<- hq] at this;exact this
theorem QgS (ac:Uq n per E A some=some true):∃ res us e,UF n per E A 3000 Tu3=some (res,us,e)/\(e=0->∃ v,res=encI v/\TG per E.length v):=by
 obtain ⟨fs,d,h2⟩:=QhI p0 p1 hE hA hr hc hn ac (bu:=3000) (al:=false);obtain ⟨r,us,ov,fd,best,res,w,hx,hw,hf⟩:=QeB p0 p1 hE hA hr hc hn h2 (bu:=3000) E.length n 0 0 false false 0 [] (List.replicate E.length 0) (by omega) (by omega) ⟨by simp,fun x hx=>by have:=List.eq_of_mem_replicate hx;omega⟩ (fun e=>nomatch e);have aj:Q0Y n 3000 1 1048576 (some:Bool->Option Bool)=some true:=rfl;unfold UF Lc;rw [ac,Q0,Qjp,Qjc,aj,Q0,Qjp,Qjc,d,Q0];dsimp only;rw [show ((0:Nat):Int)=0 from rfl] at hx;rw [hx,Q0];dsimp only;cases ov with
 |true=>exact ⟨_,_,_,rfl,fun e=>by cases e⟩
 |false=>
  cases fd with
  |false=>exact ⟨_,_,_,rfl,fun e=>by cases e⟩
  |true=>exact ⟨_,_,_,rfl,fun _=>hf rfl⟩
omit p0 p1 hE hA hr hc hn in
theorem QfL (ac:Uq n per E A some=some false):∃ res us,UF n per E A 3000 Tu3=some (res,us,1):=by
 unfold UF Lc;rw [ac,Q0,Qjv,cond_true];exact ⟨_,_,rfl⟩
end
namespace Cx
variable {X:Cx} {per:Int} {Ch Sy A:LL} {tl:List Int}
theorem QaS {i:Nat} (hn:X.nr i=1\/X.nr i=2):(X.nr i=1/\X.pl i (X.nr i)=[X.aR i 0])\/(X.nr i=2/\X.pl i (X.nr i)=[X.aR i 0,X.aD i 0,X.aR i 1]):=by
 rcases hn with hn | hn
 ·exact .inl ⟨hn,by rw [hn];simp [pl,hn]⟩
 ·exact .inr ⟨hn,by rw [hn];simp [pl,hn]⟩
theorem Q8U {i j:Nat} (hj:j<(X.pl i (X.nr i)).length):∀ {L:Nat},i<L->(X.pls L)[(X.pls i).length+j]? = (X.pl i (X.nr i))[j]?
 |0,h=>by omega
 |L+1,h=>by
  rw [pls];by_cases hi:i=L
  ·subst hi;rw [QjI (by omega),Nat.add_sub_cancel_left]
  ·have ih:=Q8U hj (L:=L) (by omega);have ac:(X.pls i).length+j<(X.pls L).length:=by
    rw [Qjh hj] at ih;exact (Qjq.1 ih).1
   rw [QjL ac,ih]
variable (h:X.OK)
include h
theorem Fa {i:Nat} (hi:i<=X.Ls.length):(X.pls i).length+i=2*base X.nr i:=by
 induction i with
 |zero=>rfl
 |succ i ih=>
  have ih:=ih (by omega);rw [pls,List.length_append,base];rcases QaS (H9 h (i:=i) (by omega)).2.1 with ⟨a,h2⟩ | ⟨a,h2⟩
  ·rw [h2,a];simp;omega
  ·rw [h2,a];simp;omega
omit h
variable (g:X.Gd per Ch Sy A tl)
include g
theorem Gd.runAt {i k:Nat} (hi:i<X.Ls.length) (hk:k<X.nr i):A[2*base X.nr i-i+2*k]? = some (X.aR i k)/\(k<X.nr i-1->A[2*base X.nr i-i+2*k+1]? = some (X.aD i k)):=by
 obtain ⟨H,rfl,_⟩:=g.act;have hl:=Fa g.ok (i:=i) (by omega);have a:2*base X.nr i-i=(X.pls i).length:=by omega
 have at':∀ j r,(X.pl i (X.nr i))[j]? = some r->(X.planned Ch Sy++H)[2*base X.nr i-i+j]? = some r:=fun j r e=>by
  have hj:=(Qjq.1 e).1;have e2:=Q8U hj (L:=X.L) hi;rw [e] at e2;have ac:=(Qjq.1 e2).1;unfold planned;rw [a,Qji,Qji,Qji,QjL ac,e2]
 rcases QaS (H9 g.ok hi).2.1 with ⟨b,h2⟩ | ⟨b,h2⟩
 ·obtain rfl:k=0:=by omega
  exact ⟨at' 0 _ (by rw [h2];rfl),fun h=>by omega⟩
 ·obtain rfl | rfl:k=0\/k=1:=by omega
  ·exact ⟨at' 0 _ (by rw [h2];rfl),fun _=>at' 1 _ (by rw [h2];rfl)⟩
  ·exact ⟨at' 2 _ (by rw [h2];rfl),fun h=>by omega⟩
theorem Gd.turnAt {j:Nat} {t:Tup} (e:X.T[j]? = some t):A[2*X.N-X.L+Ch.length+j]? = some (X.tuE t):=by
 obtain ⟨H,rfl,_⟩:=g.act;have hl:=Fa g.ok (i:=X.L) (Qjn _);have a:2*X.N-X.L+Ch.length=(X.pls X.L++Ch.map X.chE).length:=by rw [List.length_append,Qje];unfold N;omega
 have hj:=(Qjq.1 e).1;unfold planned;rw [a,Qji,Qji,QjI (by omega),Nat.add_sub_cancel_left,QjL (by simpa using hj),QjO,e];rfl
def runV (X:Cx) (per:Int) (tl:List Int) (i k:Nat):Int:=Mo tl per (X.aR i k)
def gapV (X:Cx) (per:Int) (tl:List Int) (i k:Nat):Int × Bool:=if k<X.nr i-1 then (Mo tl per (X.aD i k),true) else match X.tn i with
 |some t=>(Mo tl per (X.tuE t),true)
 |none=>(0,false)
theorem Gd.run_mem {i k:Nat} (hi:i<X.Ls.length) (hk:k<X.nr i):X.aR i k∈A:=Qjf (g.runAt hi hk).1
theorem Gd.turn_mem {t:Tup} (ht:t∈X.T):X.tuE t∈A:=by
 obtain ⟨j,e⟩:=List.getElem?_of_mem ht;exact Qjf (g.turnAt e)
theorem Gd.runV_rng {i k:Nat} (hi:i<X.Ls.length) (hk:k<X.nr i) : -65536<=X.runV per tl i k/\X.runV per tl i k<=66000:=g.dur_rng (g.run_mem hi hk)
theorem Gd.gapV_rng {i k:Nat} (hi:i<X.Ls.length) (hk:k<X.nr i) : -65536<=(X.gapV per tl i k).1/\(X.gapV per tl i k).1<=66000:=by
 unfold gapV;split
 ·exact g.dur_rng (Qjf ((g.runAt hi hk).2 (by assumption)))
 ·cases e:X.tn i with
  |none=>simp
  |some t=>exact g.dur_rng (g.turn_mem (Q2p e).1)
variable {R:Type}
theorem Gd.runP {i k:Nat} (hi:i<X.Ls.length) (hk:k<X.nr i) (K:Int->oP R):Xl 400 per A (encI tl) (X.fst X.L) (i:Int) (k:Int) K=K (X.runV per tl i k):=by
 have hb:=Ye g.ok (i:=i) (by omega);have hl:=Fa g.ok (i:=i) (by omega);have hn:=(H9 g.ok hi).2.1;have l1:=g.ok.l1;have e:=Q6d (X:=X) (i:=i) (L:=X.L) hi;rw [Qe] at e;have el:(X.fst X.L).length=X.Ls.length:=by simp [fst,encI,L]
 have hx:wJ (wJ (((2*base X.nr i:Nat):Int)-(i:Int))+((2*k:Nat):Int))=((2*base X.nr i-i+2*k:Nat):Int):=by
  rw [Q7 (x:=((2*base X.nr i:Nat):Int)-(i:Int)) (by omega) (by omega),Q7 (by omega) (by omega)];omega
 unfold Xl;rw [Y0 (by omega) (by omega),Q0,Int.toNat_natCast,e];simp -implicitDefEqProofs only [Q0,Qjb,Q2,M9 (a:=base X.nr i) (by omega),M9 (a:=k) (by omega),hx,g.durP (g.runAt hi hk).1];rfl
theorem Gd.gapP {i k:Nat} (hi:i<X.Ls.length) (hk:k<X.nr i) (K:Int->Bool->oP R):X0 400 X.Ls Ch per A (encI tl) (encI ((List.range X.L).map (tix X.T))) (X.fst X.L) ((X.N:Nat):Int) (i:Int) (k:Int) K=K (X.gapV per tl i k).1 (X.gapV per tl i k).2:=by
 have hb:=Ye g.ok (i:=i) (by omega);have hN:X.N<=6:=base_le g.ok;have hl:=Fa g.ok (i:=i) (by omega);have ac:=Fa g.ok (i:=X.L) (Qjn _);have hn:=(H9 g.ok hi).2.1;have l1:=g.ok.l1;have chl:=g.ls.chl;have an:=g.ok.tl;have hw:wJ (((List.length (GI X.Ls i):Nat):Int)-1)=((X.nr i-1:Nat):Int):=Jq (k:=X.nr i) (by omega) (by omega);unfold X0 gapV;rw [Qe,(H9 g.ok hi).1];simp -implicitDefEqProofs only [Q0,Qjb,Qjd,QH,hw];by_cases b:k<X.nr i-1
 ·have e:=Q6d (X:=X) (i:=i) (L:=X.L) hi;rw [Qe] at e;have el:(X.fst X.L).length=X.Ls.length:=by simp [fst,encI,L]
  have hx:wJ (wJ (wJ (((2*base X.nr i:Nat):Int)-(i:Int))+((2*k:Nat):Int))+1)=((2*base X.nr i-i+2*k+1:Nat):Int):=by
   rw [Q7 (x:=((2*base X.nr i:Nat):Int)-(i:Int)) (by omega) (by omega),Q7 (x:=((2*base X.nr i:Nat):Int)-(i:Int)+((2*k:Nat):Int)) (by omega) (by omega),Q7 (by omega) (by omega)];omega
  rw [Qc b,cond_true,if_pos b,Y0 (by omega) (by omega),Q0,Int.toNat_natCast,e];simp -implicitDefEqProofs only [Q0,Qjb,Q2,M9 (a:=base X.nr i) (by omega),M9 (a:=k) (by omega),hx,g.durP ((g.runAt hi hk).2 b)]
 ·rw [show decide ((k:Int)<((X.nr i-1:Nat):Int))=false from decide_eq_false (by omega),Qjc,Qjy b];have et:Q1 (encI ((List.range X.L).map (tix X.T))) (i:Int)=some [Q4 (tix X.T i)]:=HM (by simp [show i<X.L from hi]);rw [et];simp -implicitDefEqProofs only [Q0,Qjb,Q2];unfold tix tn;rcases Q5e (l:=X.T) (p:=fun t=>t.1 == i) with ⟨c,h2⟩ | ⟨t,j,c,h2,d⟩
  ·simp only [c,h2];rfl
  ·have aj:=(Qjq.1 d).1;simp only [c,h2];have hx:wJ (wJ (wJ (((2*X.N:Nat):Int)-((List.length X.Ls:Nat):Int))+((List.length Ch:Nat):Int))+(j:Int))=((2*X.N-X.L+Ch.length+j:Nat):Int):=by
    unfold L at ac ⊢;unfold N at hN ⊢;unfold L at hN ⊢;rw [Q7 (x:=((2*base X.nr X.Ls.length:Nat):Int)-((List.length X.Ls:Nat):Int)) (by omega) (by omega),Q7 (x:=((2*base X.nr X.Ls.length:Nat):Int)-((List.length X.Ls:Nat):Int)+((List.length Ch:Nat):Int)) (by omega) (by omega),Q7 (by omega) (by omega)];omega
   rw [show decide ((j:Int)>=0)=true from Qjg (by omega),cond_true,M9 (a:=X.N) (by omega),hx,g.durP (g.turnAt d),Q0]
end Cx
end Go.Vx
namespace Go.Vx
variable {R:Type} (n:Nat)
def VU (b c d e f:LL) (g:Int) (h:List UInt8) (i j k l:Int) (K:LL->Int->Int->oP R):oP R:= gb true (ZM n b c d e f g h i j k l 0 0 Tu3) ([],0,0) fun a=>K a.1 a.2.1 a.2.2
end Go.Vx
namespace Go.Vx
theorem Q4W {l:List Nat} {j i:Nat} (e:l[j]? = some i):Q1 (Q5r l) (j:Int)=some [Q4 (i:Int)]:=by
 rw [Qe];unfold Q5r;rw [QjO,e];rfl
namespace Cx
def sumR (X:Cx) (per:Int) (tl:List Int) (i:Nat):Nat->Int
 |0=>0
 |k+1=>sumR X per tl i k+(X.runV per tl i k+(X.gapV per tl i k).1)
def sumL (X:Cx) (per:Int) (tl:List Int) (ls:List Nat):Int:=ls.foldl (fun s i=>s+X.sumR per tl i (X.nr i)) 0
def lapsV (X:Cx) (per:Int) (tl:List Int) (ls:List Nat) (c:Bool):Int:=bif c then (X.sumL per tl ls).tdiv per else 0
variable {X:Cx} {per:Int} {Ch Sy A:LL} {tl:List Int} (g:X.Gd per Ch Sy A tl) {R:Type}
include g
theorem Gd.sumR_rng {i:Nat} (hi:i<X.Ls.length):∀ {k:Nat},k<=X.nr i -> -200000*(k:Int)<=X.sumR per tl i k/\X.sumR per tl i k<=200000*(k:Int)
 |0,_=>by simp [sumR]
 |k+1,hk=>by
  have ih:=Gd.sumR_rng hi (k:=k) (by omega);have a:=g.runV_rng hi (show k<X.nr i by omega);have h2:=g.gapV_rng hi (show k<X.nr i by omega);rw [sumR];omega
theorem Gd.sumL_rng {ls:List Nat} (ac:∀ i∈ls,i<X.Ls.length):∀ {j:Nat},j<=ls.length -> -400000*(j:Int)<=X.sumL per tl (ls.take j)/\X.sumL per tl (ls.take j)<=400000*(j:Int)
 |0,_=>by simp [sumL]
 |j+1,hj=>by
  have ih:=Gd.sumL_rng ac (j:=j) (by omega);have e:=Qjh (l:=ls) (i:=j) (by omega);have hi:=ac _ (Qjf e);have hn:=(H9 g.ok hi).2.1;have a:=g.sumR_rng hi (Qjn (X.nr ls[j]));rw [YC e];unfold sumL at ih ⊢;rw [List.foldl_append];simp only [List.foldl_cons,List.foldl_nil];omega
theorem Q8t {ls:List Nat} {j i:Nat} (e:ls[j]? = some i):X.sumL per tl (ls.take (j+1))=X.sumL per tl (ls.take j)+X.sumR per tl i (X.nr i):=by
 rw [YC e];unfold sumL;rw [List.foldl_append];rfl
theorem Gd.lapsP {ls:List Nat} {c:Bool} (ac:∀ i∈ls,i<X.Ls.length) (ak:ls.length<=10) (K:Int->oP R):ZD 400 X.Ls Ch per A (encI tl) (encI ((List.range X.L).map (tix X.T))) (X.fst X.L) ((X.N:Nat):Int) (Q5r ls) c K=K (X.lapsV per tl ls c):=by
 have p0:=g.p0;have p1:=g.p1;unfold ZD lapsV;cases c
 ·rfl
 rw [Qjp,Qjc,cond_true,show (Q5r ls).length=ls.length by simp [Q5r]];have hs:=g.sumL_rng ac (Qjn ls.length);rw [Qjw] at hs;have hb:((X.sumL per tl ls).tdiv per).natAbs=(X.sumL per tl ls).natAbs / per.natAbs:=Int.natAbs_tdiv ..;have an:(X.sumL per tl ls).tdiv per<=10000000 /\ -10000000<=(X.sumL per tl ls).tdiv per:=by
  have:=Nat.div_le_self (X.sumL per tl ls).natAbs per.natAbs;omega
 refine Qv (r:=fun m j=>X4 400 (Q5r ls) ((ls.length:Nat):Int) (X.fst X.L) X.Ls Ch per A (encI tl) (encI ((List.range X.L).map (tix X.T))) ((X.N:Nat):Int) (fun a b d=>gb true (nz per) () fun f=>K (wJ (Int.tdiv a per))) m (X.sumL per tl (ls.take j.toNat)) j) (N:=ls.length) (fun m j hj=>?_) (fun m=>?_) ls.length 400 0 (by omega) (by omega)
 ·simp only [Int.toNat_natCast];have e:=Qjh hj;have hi:=ac _ (Qjf e);have ao:=g.sumL_rng ac (j:=j) (by omega);have hn:=(H9 g.ok hi).2.1;rw [X4,Qc hj,cond_true,Q4W e];simp -implicitDefEqProofs only [Q0,Qjb,Qjd,Q2,QH,Qe,(H9 g.ok hi).1,Qs (show j<=1000 by omega)];refine Qv (r:=fun m' k=>Xy 400 ((ls[j]:Nat):Int) ((X.nr ls[j]:Nat):Int) (X.fst X.L) X.Ls Ch per A (encI tl) (encI ((List.range X.L).map (tix X.T))) ((X.N:Nat):Int) (fun h l n=>X4 400 (Q5r ls) ((ls.length:Nat):Int) (X.fst X.L) X.Ls Ch per A (encI tl) (encI ((List.range X.L).map (tix X.T))) ((X.N:Nat):Int) (fun a b d=>gb true (nz per) () fun f=>K (wJ (Int.tdiv a per))) m h ((j+1:Nat):Int)) m' (X.sumL per tl (ls.take j)+X.sumR per tl ls[j] k.toNat) k) (N:=X.nr ls[j]) (fun m' k hk=>?_) (fun m'=>?_) (X.nr ls[j]) 400 0 (by omega) (by omega) |> QjN (by simp [sumR];rfl)
  ·simp only [Int.toNat_natCast];have hr:=g.sumR_rng hi (k:=k) (by omega);have o:=g.runV_rng hi hk;have h2:=g.gapV_rng hi hk;rw [Xy,Qc hk,cond_true,g.gapP hi hk,Q0,g.runP hi hk,Q0,Q7 (x:=X.runV per tl ls[j] k+(X.gapV per tl ls[j] k).1) (by omega) (by omega),Q7 (by omega) (by omega),Qs (show k<=1000 by omega),sumR,Int.add_assoc]
  ·simp only [Int.toNat_natCast];rw [Xy,Qi,Qjc,Q8t g e]
 ·simp only [Int.toNat_natCast];rw [X4,Qi,Qjc,Qjw,EC (by omega),Q0,Q7 (by omega) (by omega)]
omit g
def stair (X:Cx) (i k:Nat):List Occ:=Q4r X.G.St X.G.Pt X.G.Se X.G.Li (X.st i k) (X.rn i k) 0 0
variable (h:X.OK)
include h
theorem Ck {i k:Nat} (hi:i<X.Ls.length) (hk:k<X.nr i):OL (-1) (X.stair i k)/\(X.stair i k).length<=6:=Q9d (rd h hi hk).rt h.sk (by omega) (by omega) (by omega) (by omega)
theorem QdR {i k:Nat} (hi:i<X.Ls.length) (hk:k<X.nr i) (K:LL->Int->Int->oP R):VU 400 X.G.St X.G.Pt X.G.Se X.G.Li (X.st i k) 0 X.nm X.tl X.sp X.ac X.br K=K ((X.stair i k).map enc) (X.run i k) 0:=by
 have hh:=Qel (rd h hi hk).rt (nm:=X.nm) h.sk (show (0:Int)<=0 by omega) (by omega) (show (0:Int)<=0 by omega) (by omega);unfold ZV at hh;have r:=(rd h hi hk).rt;rw [QcI r.lay rfl r.l2 r.l24 r.rt r.st h.sk,Q0,Q9 (by rfl),Q9 (by rfl)] at hh;unfold VU;cases e:ZM 400 X.G.St X.G.Pt X.G.Se X.G.Li (X.st i k) 0 X.nm X.tl X.sp X.ac X.br 0 0 Tu3 with
 |none=>rw [e] at hh;cases hh
 |some v=>
  obtain ⟨a,b,c⟩:=v;rw [e,Q0] at hh;cases hh;rfl
end Cx
theorem QbN {St Pt Se Li s:LL} (h:RtF St Pt Se Li s) {j:Nat} (hj:j<s.length):∃ (d:Int) (nm:List UInt8) (a b c st:Int),s[j]? = some [Q4 (sec s j:Int),Q4 d]/\Q1 Se (sec s j:Int)=some [D.str nm,Q4 a,Q4 b,Q4 c,Q4 st]:=by
 obtain ⟨x,d,nm,b,c,st,e,f,a0,a1,hd⟩:=Fq h.st hj;have hx:=KJ f;have g:0<=x:=by
  have h2:=hx.1;unfold inB at h2;by_cases hc:0<=x
  ·exact hc
  ·rw [show (decide (0<=x)&&decide (x<(Se.length:Int)))=false by simp;omega] at h2;cases h2
 have ac:x=((sec s j:Nat):Int):=by
  unfold sec;rw [Qjj,e];show x=((x.toNat:Nat):Int);omega
 rw [ac] at e f;exact ⟨d,nm,_,b,c,st,e,f⟩
def Cv (T:List Occ) (r:Nat) (f t:Int):Prop:=∃ x a b,T[r]? = some (x,a,b)/\a<=f/\t<=b/\a<b
theorem Cv.add {T:List Occ} {r r':Nat} {f t f' t':Int} (h:Cv T r f t) (hf:f'<t'):Cv (Mb T r' f' t') r f t:=by
 obtain ⟨x,a,b,e,i,h2,g⟩:=h;have hr:=(Qjq.1 e).1;unfold Mb;by_cases ac:r'=r
 ·subst ac;rw [e];dsimp only;rw [if_pos g];refine ⟨_,_,_,by rw [List.getElem?_set_self hr],?_,?_,?_⟩
  ·split <;> omega
  ·split <;> omega
  ·split <;> split <;> omega
 ·cases e':T[r']? with
  |none=>exact ⟨x,a,b,e,i,h2,g⟩
  |some q=>
   obtain ⟨y,c,d⟩:=q;dsimp only;split
   ·exact ⟨x,a,b,by rw [List.getElem?_set_ne ac,e],i,h2,g⟩
   ·exact ⟨x,a,b,by rw [List.getElem?_set_ne ac,e],i,h2,g⟩
theorem Cv.new {T:List Occ} {r:Nat} {f t:Int} (hf:f<t) (hr:r<T.length):Cv (Mb T r f t) r f t:=by
 obtain ⟨⟨x,a,b⟩,e⟩:∃ q,T[r]? = some q:=⟨T[r],Qjh hr⟩;unfold Mb;rw [e];dsimp only;split
 ·refine ⟨_,_,_,by rw [List.getElem?_set_self hr],?_,?_,?_⟩
  ·split <;> omega
  ·split <;> omega
  ·split <;> split <;> omega
 ·exact ⟨_,_,_,by rw [List.getElem?_set_self hr],QjP _,QjP _,hf⟩
def Bd (R:Int) (T:List Occ):Prop:=∀ q∈T,q.2.1<q.2.2->q.2.1<=R/\0<=q.2.2
theorem Bd.add {R:Int} {T:List Occ} (h:Bd R T) {r:Nat} {f t:Int} (hf:f<=R) (ht:0<=t):Bd R (Mb T r f t):=by
 unfold Mb;cases e:T[r]? with
 |none=>exact h
 |some q=>
  obtain ⟨x,a,b⟩:=q;have c:=h _ (Qjf e);dsimp only at c ⊢;split
  ·intro q hq _;rcases List.mem_or_eq_of_mem_set hq with hq | rfl
   ·exact h q hq (by assumption)
   ·have c:=c (by assumption);dsimp only;constructor <;> split <;> omega
  ·intro q hq _;rcases List.mem_or_eq_of_mem_set hq with hq | rfl
   ·exact h q hq (by assumption)
   ·exact ⟨hf,ht⟩
section
variable {N NP:Nat} {Li s:LL} {f g:Nat->Int}
theorem Q90 (hs:∀ i,i<s.length->sec s i<N) (a:∀ i,i<s.length->f i<g i) (h2:∀ i,1<=i->i<s.length->f i<g (i-1)) {j:Nat}:∀ {i:Nat},j<i->i<=s.length->Cv (TW N NP Li s f g i) (sec s j) (f j) (g j)
 |0,hj,_=>by omega
 |i+1,hj,hi=>by
  have hf:=a i (by omega);have hl:sec s i<(TW N NP Li s f g i).length:=by
   have:=hs i (by omega);rw [HC];omega
  have hc:Cv (Mb (TW N NP Li s f g i) (sec s i) (f i) (g i)) (sec s j) (f j) (g j):=by
   by_cases e:j=i
   ·subst e;exact Cv.new hf hl
   ·exact (Q90 hs a h2 (i:=i) (by omega) (by omega)).add hf
  rw [TW];split
  ·exact hc
  ·split
   ·exact hc
   ·exact hc.add (h2 i (by omega) (by omega))
theorem Q8i {R:Int} (c:∀ i,i<s.length->f i<=R/\0<=g i):∀ {i:Nat},i<=s.length->Bd R (TW N NP Li s f g i)
 |0,_=>by
  intro q hq ac;rw [TW] at hq;have:=List.eq_of_mem_replicate hq;subst this;simp at ac
 |i+1,hi=>by
  have ih:=Q8i c (i:=i) (by omega);have a:=c i (by omega);rw [TW];split
  ·exact ih.add a.1 a.2
  ·have b:=c (i-1) (by omega);split
   ·exact ih.add a.1 a.2
   ·exact (ih.add a.1 a.2).add a.1 b.2
end
theorem Qcv {St Pt Se Li s:LL} (h:RtF St Pt Se Li s) {nm:List UInt8} {tl sp ac br:Int} (hk:StkN tl sp ac br) {i:Nat} (hi:i<=s.length):TI (TW Se.length Pt.length Li s (fr Se s (YS Se s nm tl sp ac br) 0) (tu Se s (YS Se s nm tl sp ac br) 0) i):=by
 have aj:=fun i (hi:i<s.length)=>Qdl h (nm:=nm) hk (QjP 0) (by omega) (QjP 0) (by omega) hi
 induction i with
 |zero=>
  intro r x a b e ak;obtain ⟨d,h2⟩:=Qjq.1 e;simp only [TW,List.getElem_replicate] at h2;cases h2;omega
 |succ i ih=>
  have ih:=ih (by omega);have q:=aj i (by omega);rw [TW];split
  ·exact ih.add q.1 q.2
  ·have c:=aj (i-1) (by omega);split
   ·exact ih.add q.1 q.2
   ·exact (ih.add q.1 q.2).add q.1 c.2
namespace Cx
variable {X:Cx} (h:X.OK)
include h
theorem QdO {i k:Nat} (hi:i<X.Ls.length) (hk:k<X.nr i) {j:Nat} (hj:j<(X.st i k).length):sec (X.st i k) j<X.G.Se.length:=by
 obtain ⟨d,nm,a,b,c,st,_,e⟩:=QbN (rd h hi hk).rt hj;have:=(KJ e).1;unfold inB at this;by_cases hc:(sec (X.st i k) j:Int)<(X.G.Se.length:Int)
 ·omega
 ·rw [decide_eq_false hc,Bool.and_false] at this;cases this
theorem Q8s {i k:Nat} (hi:i<X.Ls.length) (hk:k<X.nr i) :
  (∀ q∈X.stair i k,0<=q.1/\q.2.1<q.2.2/\q.2.1<=X.run i k/\0<=q.2.2)/\(∃ q∈X.stair i k,q.1<(X.G.Se.length:Int)/\0<q.2.2) /\
  ∀ s,0<=s->s<X.run i k->∃ q∈X.stair i k,q.2.1<=s/\s<q.2.2:=by
 have hr:=(rd h hi hk).rt;have l2:=hr.l2;have a4:=F5 hr.lay;have aq:=fun j (hj:j<(X.st i k).length)=>QdO h hi hk hj
 have ak:=fun j (hj:j<(X.st i k).length)=>QgF hr (nm:=X.nm) h.sk (QjP 0) (by omega) (QjP 0) (by omega) hj
 have an:=fun a b (aw:a<=b) (hb:b<(X.st i k).length)=>Q3V hr (nm:=X.nm) h.sk aw hb
 have ay:=Ck h hi hk;unfold run;have er:X.rn i k=YS X.G.Se (X.st i k) X.nm X.tl X.sp X.ac X.br:=rfl;rw [<- er] at ak an;have ar:=ND hr (nm:=X.nm) h.sk;rw [<- er] at ar;have hlast:=an ((X.st i k).length-1) ((X.st i k).length-1) (Qjn _) (by omega);have aj:fLV X.G.Se (X.st i k) (X.rn i k) ((X.st i k).length-1)=(X.rn i k).T (X.rn i k).N:=by unfold fLV;rw [Qjy (by omega)]
 rw [aj] at hlast;have a7:=D6 (a:=(X.rn i k).T (X.rn i k).N) (by omega) (show (1:Int)<=1000 by decide);have eS:AE (X.rn i k)=cd ((X.rn i k).T (X.rn i k).N) 1000:=rfl;have l:fr X.G.Se (X.st i k) (X.rn i k) 0 0=0:=by unfold fr;simp
 have a5:tu X.G.Se (X.st i k) (X.rn i k) 0 ((X.st i k).length-1)=AE (X.rn i k):=by unfold tu;rw [Qjy (by omega)];omega
 have hb:∀ j,j<(X.st i k).length->fr X.G.Se (X.st i k) (X.rn i k) 0 j<=AE (X.rn i k)/\0<=tu X.G.Se (X.st i k) (X.rn i k) 0 j:=by
  intro j hj;have hT:=an (j-1) ((X.st i k).length-1) (by omega) (by omega);rw [aj] at hT;have hL:=an j j (Qjn _) hj;have hc:=D6 (a:=fLV X.G.Se (X.st i k) (X.rn i k) j) (by omega) (show (1:Int)<=1000 by decide);constructor
  ·unfold fr;split <;> omega
  ·unfold tu;split <;> omega
 have a2:∀ j,1<=j->j<(X.st i k).length->fr X.G.Se (X.st i k) (X.rn i k) 0 j<=tu X.G.Se (X.st i k) (X.rn i k) 0 (j-1):=fun j c hj=>by
  have:=(ak j hj).2.2.2 c;omega
 have au:∀ j,j<(X.st i k).length->∃ q∈X.stair i k,q.1=(sec (X.st i k) j:Int)/\q.2.1<=fr X.G.Se (X.st i k) (X.rn i k) 0 j/\tu X.G.Se (X.st i k) (X.rn i k) 0 j<=q.2.2:=fun j hj=>by
  obtain ⟨x,a,b,e,c,h2,d⟩:=Q90 (N:=X.G.Se.length) (NP:=X.G.Pt.length) (Li:=X.G.Li) (s:=X.st i k) (f:=fr X.G.Se (X.st i k) (X.rn i k) 0) (g:=tu X.G.Se (X.st i k) (X.rn i k) 0) aq (fun j hj=>(ak j hj).2.1) (fun j c hj=>(ak j hj).2.2.2 c) (j:=j) (i:=(X.st i k).length) hj (Qjn _);have hm:(x,a,b)∈X.stair i k:=List.mem_filter.2 ⟨Qjf e,by simpa [Pq] using d⟩;refine ⟨_,hm,?_,c,h2⟩;have ax:TI (TW X.G.Se.length X.G.Pt.length X.G.Li (X.st i k) (fr X.G.Se (X.st i k) (X.rn i k) 0) (tu X.G.Se (X.st i k) (X.rn i k) 0) (X.st i k).length):=Qcv hr h.sk (Qjn _);exact (ax _ _ _ _ e d).1
 refine ⟨fun q hq=>?_,?_,fun s s0 s1=>?_⟩
 ·have hm:=ay.1.mem q hq;have az:=Q8i (N:=X.G.Se.length) (NP:=X.G.Pt.length) (Li:=X.G.Li) hb (Qjn _) q (List.mem_filter.1 hq).1 hm.2.2.1;exact ⟨by omega,hm.2.2.1,az⟩
 ·obtain ⟨q,hq,e,_,h2⟩:=au 0 (by omega);have:=aq 0 (by omega);have:=(ak 0 (by omega)).2.1;exact ⟨q,hq,by omega,by omega⟩
 ·have ao:∀ n,n<(X.st i k).length->s<tu X.G.Se (X.st i k) (X.rn i k) 0 n->∃ j,j<(X.st i k).length/\fr X.G.Se (X.st i k) (X.rn i k) 0 j<=s/\s<tu X.G.Se (X.st i k) (X.rn i k) 0 j:=by
   intro n;induction n with
   |zero=>exact fun hn hs=>⟨0,hn,by omega,hs⟩
   |succ n ih=>
    intro hn hs;by_cases hc:fr X.G.Se (X.st i k) (X.rn i k) 0 (n+1)<=s
    ·exact ⟨n+1,hn,hc,hs⟩
    ·have:=a2 (n+1) (by omega) hn;exact ih (by omega) (by rw [Qjt] at this;omega)
  obtain ⟨j,hj,c,h2⟩:=ao ((X.st i k).length-1) (by omega) (by omega);obtain ⟨q,hq,_,d,m⟩:=au j hj;exact ⟨q,hq,by omega,by omega⟩
end Cx
end Go.Vx
