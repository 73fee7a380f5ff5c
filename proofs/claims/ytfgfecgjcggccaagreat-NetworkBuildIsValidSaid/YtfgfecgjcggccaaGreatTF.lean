/- Part of a proof. No conditions of their own. -/
import Derived.Test.YtfgfecgjcggccaaGreatTE
import Derived.Test.YtfgfecgjcggccaaGreatTB
import Derived.Test.YtfgfecgjcggccaaGreatTD
import Derived.Test.YtfgfecgjcggccaaGreatProg
import Derived.Test.YtfgfecgjcggccaaGreatTC
import Derived.Maps.Own
import Derived.Maps.Views
import Derived.StringKeys
import Derived.WalkKit
import Derived.Deep.AppendLies
import Derived.Laws.Rows
import Derived.OneCell
import Derived.Lib.LaidTab
import Derived.Orders
import Derived.LoopTactic
import Derived.Lib.Builder
import Derived.Carry
import Derived.Deep.RegionHeld3
import Derived.Deep.RegionLaw
import Derived.StillTailTactics
import Derived.OrdersHeld
import Derived.Laws.CopyOwn
import Derived.Deep.OwnRows
set_option linter.unusedVariables false
set_option linter.unusedSimpArgs false
abbrev Qdu:=@Go.Lib.cell_of_heap
abbrev Qdv:=@List.getElem?_cons_zero
abbrev Qdw:=@List.getElem?_eq_some_iff
abbrev Qdx:=@List.mem_of_getElem?
abbrev Qdy:=@List.mem_append
abbrev Qdz:=@List.getElem?_eq_getElem
abbrev QdA:=@List.getElem?_cons_succ
abbrev QdB:=@Int.toNat_natCast
abbrev QdC:=@cond_false
abbrev QdD:=@Nat.le_of_ble_eq_true
abbrev QdE:=@List.append_assoc
abbrev QdF:=@Nat.lt_of_lt_of_le
abbrev QdG:=@Bool.and_eq_true
abbrev QdH:=@List.mem_replicate
abbrev QdI:=@Nat.le_refl
abbrev QdJ:=@cond_true
abbrev QdK:=@Go.Lib.alloc_old
abbrev QdL:=@List.take_of_length_le
abbrev QdM:=@Option.map_eq_some_iff
abbrev QdN:=@Array.getElem?_eq_some_iff
abbrev QdO:=@List.length_append
abbrev QdP:=@Nat.le_trans
abbrev QdQ:=@Nat.zero_add
abbrev QdR:=@List.getElem?_set
namespace Go.Vx
namespace Cx
def aR (X:Cx) (i k:Nat):List D:=[Q5 1,Q5 ((2*(base X.nr i+k):Nat):Int),Q5 ((2*(base X.nr i+k)+1:Nat):Int),Q5 (X.run i k),Q5 (X.run i k+X.ex i k),Q5 (X.w i)]
def aD (X:Cx) (i k:Nat):List D:=[Q5 2,Q5 ((2*(base X.nr i+k)+1:Nat):Int),Q5 ((2*(base X.nr i+k+1):Nat):Int),Q5 (X.mn i k),Q5 (X.mx i k),Q5 (X.w i)]
def pl (X:Cx) (i:Nat):Nat->LL
 |0=>[]
 |k+1=>pl X i k++[X.aR i k]++(if k<X.nr i-1 then [X.aD i k] else [])
def pls (X:Cx):Nat->LL
 |0=>[]
 |i+1=>pls X i++X.pl i (X.nr i)
def chE (X:Cx) (row:List D):List D:=match row with
 |[.int _ f,.int _ fr,.int _ t,.int _ tr,mn,mx,w]=>[Q5 3,Q5 ((2*(base X.nr f.toNat+fr.toNat)+1:Nat):Int),Q5 ((2*(base X.nr t.toNat+tr.toNat):Nat):Int),mn,mx,w]
 |_=>[]
def tuE (X:Cx) (t:Tup):List D:=[Q5 4,Q5 ((2*(base X.nr t.1+(X.nr t.1-1))+1:Nat):Int),Q5 ((2*(base X.nr t.2.1+0):Nat):Int),Q5 t.2.2.1,Q5 t.2.2.2,Q5 1]
def syE (X:Cx) (row:List D):List D:=match row with
 |[_,_,_,_,o]=>[Q5 5,Q5 ((2*(base X.nr 0+0):Nat):Int),Q5 ((2*(base X.nr 1+0):Nat):Int),o,o,Q5 0]
 |_=>[]
def planned (X:Cx) (Ch Sy:LL):LL:=X.pls X.L++Ch.map X.chE++X.T.map X.tuE++Sy.map X.syE
variable {R:Type} {n:Nat} {X:Cx}
theorem Q58 {i:Nat}:∀ {k:Nat},(X.pl i k).length<=2*k
 |0=>QdI _
 |k+1=>by
  have:=Q58 (i:=i) (k:=k);rw [pl,QdO,QdO];split <;> simp <;> omega
theorem Bg:∀ {i:Nat},(X.pls i).length<=2*base X.nr i
 |0=>QdI _
 |i+1=>by
  have:=Bg (i:=i);have:=Q58 (X:=X) (i:=i) (k:=X.nr i);rw [pls,QdO,base];omega
structure LsOK (X:Cx) (per:Int) (Ch Sy:LL):Prop where
 ch:∀ row∈Ch,∃ (f fr t tr:Nat) (mn mx w:Int),row=[Q5 f,Q5 fr,Q5 t,Q5 tr,Q5 mn,Q5 mx,Q5 w]/\f<X.Ls.length/\fr<X.nr f/\t<X.Ls.length/\tr<X.nr t/\(0<=mn/\mn<20/\mn<=mx/\mx<mn+per)/\0<=w/\w<3
 chl:Ch.length<=2
 sy:∀ row∈Sy,∃ o:Int,row=[Q5 0,Q5 0,Q5 1,Q5 0,Q5 o]/\0<=o/\o<per/\2<=X.Ls.length
 syl:Sy.length<=1
variable (h:X.OK) {per:Int} {Ch Sy De:LL} (hl:X.LsOK per Ch Sy)
theorem Q8e {O Rn J E A:LL} (hA:A.length<=1000) {a1 a2 a3 a4 a5 a:Int} (K:LL->LL->LL->LL->Int->LL->LL->LL->LL->LL->LL->LL->LL->LL->LL->LL->Int->LL->LL->oP R):X2 n X.G.St X.G.Pt X.G.Se X.G.Li per X.skR X.Ro X.Ls Ch (X.T.map tuR) Sy De (X.fst X.L) O Rn J per E A a1 a2 a3 a4 a5 a K=K X.G.St X.G.Pt X.G.Se X.G.Li per X.skR X.Ro X.Ls Ch (X.T.map tuR) Sy De (X.fst X.L) O Rn J per E (A++[[Q5 a1,Q5 a2,Q5 a3,Q5 a4,Q5 a5,Q5 a]]):=by
 unfold X2;rw [Y2 (by simp;omega),Q0]
include h
theorem Qaf {i:Nat} (hi:i<X.Ls.length) {E J:LL} {k0:Int->Bool->LL->LL->LL->LL->LL->LL->LL->Int->LL->LL->LL->LL->LL->LL->LL->LL->LL->LL->Int->oP R}:Qp 400 (i:Int) (TP X.Ls i) ((X.nr i:Nat):Int) (Q5 (X.w i)) (D.sl 4 (TP X.Ls i)) k0 400 0 (X.fst X.L) E (X.pls i) X.G.St X.G.Pt X.G.Se X.G.Li per X.skR X.Ro X.Ls Ch (X.T.map tuR) Sy De (Uk (X.occs X.L)) (encI (X.runs X.L)) J per=k0 ((X.nr i:Nat):Int) false (X.fst X.L) E (X.pls i++X.pl i (X.nr i)) X.G.St X.G.Pt X.G.Se X.G.Li per X.skR X.Ro X.Ls Ch (X.T.map tuR) Sy De (Uk (X.occs X.L)) (encI (X.runs X.L)) J per:=by
 have hn:=(MC h hi).2.1;have hb:=VW h (i:=i) (by omega);have hp:=Bg (X:=X) (i:=i);have hw:wJ (((List.length (TP X.Ls i):Nat):Int)-1)=((X.nr i-1:Nat):Int):=Vu (k:=X.nr i) (by omega) (by omega);refine QX (r:=fun m k=>Qp 400 (i:Int) (TP X.Ls i) ((X.nr i:Nat):Int) (Q5 (X.w i)) (D.sl 4 (TP X.Ls i)) k0 m k (X.fst X.L) E (X.pls i++X.pl i k.toNat) X.G.St X.G.Pt X.G.Se X.G.Li per X.skR X.Ro X.Ls Ch (X.T.map tuR) Sy De (Uk (X.occs X.L)) (encI (X.runs X.L)) J per) (N:=X.nr i) (fun m k hk=>?_) (fun m=>?_) (X.nr i) 400 0 (by omega) (by omega) |> Eq.trans (by simp [pl])
 ·simp only [QdB];have r:=rd h hi hk;have b:=r.ex0;have e1:=r.ex1;have hr:=Q16 h hi hk;have ak:Q2 (TP X.Ls i) (k:Int)=some [Q5 (rF X.Ls i k 0),Q5 (X.ex i k),Q5 (X.mn i k),Q5 (X.mx i k)]:=by rw [Qm,r.row]
  have ao:=Q58 (X:=X) (i:=i) (k:=k);have am:=Q6w (X:=X) hi hk;rw [Qp,Qr hk,QdJ,ak];simp -implicitDefEqProofs only [Q0,Qdv,QdA,Q3,X6,hw,DQ (n:=400) h hi (show k<=10 by omega),am,Xi (show k<=1000 by omega),Q6P (n:=400) (show base X.nr i+k<=1000 by omega),Qab (n:=400) (show base X.nr i+k<=1000 by omega),Xi (show base X.nr i+k<=1000 by omega),Q6P (n:=400) (show base X.nr i+k+1<=1000 by omega),Qi (x:=X.run i k+X.ex i k) (by omega) (by omega),Q8e (n:=400) (A:=X.pls i++X.pl i k) (by simp;omega),Q8e (n:=400) (A:=X.pls i++X.pl i k++[[Q5 1,Q5 ((2*(base X.nr i+k):Nat):Int),Q5 ((2*(base X.nr i+k)+1:Nat):Int),Q5 (X.run i k),Q5 (X.run i k+X.ex i k),Q5 (X.w i)]]) (by simp;omega)];by_cases a:k<X.nr i-1
  ·rw [Qr a,QdJ,pl,if_pos a,<- QdE,<- QdE];rfl
  ·rw [show decide ((k:Int)<((X.nr i-1:Nat):Int))=false from decide_eq_false (by omega),QdC,pl,if_neg a,List.append_nil,<- QdE];rfl
 ·simp only [QdB];rw [Qp,Xb,QdC]
include hl
theorem Q5x {E J:LL} (K:LL->LL->LL->LL->Int->LL->LL->LL->LL->LL->LL->LL->LL->LL->LL->LL->Int->LL->LL->oP R):XS 400 X.G.St X.G.Pt X.G.Se X.G.Li per X.skR X.Ro X.Ls Ch (X.T.map tuR) Sy De (X.fst X.L) (Uk (X.occs X.L)) (encI (X.runs X.L)) J per E [] K=K X.G.St X.G.Pt X.G.Se X.G.Li per X.skR X.Ro X.Ls Ch (X.T.map tuR) Sy De (X.fst X.L) (Uk (X.occs X.L)) (encI (X.runs X.L)) J per E (X.planned Ch Sy):=by
 have l1:=h.l1;have tl:=h.tl;have hp:=Bg (X:=X) (i:=X.L);have hb:=base_le h;have chl:=hl.chl;have syl:=hl.syl;unfold XS;have s2:∀ k0:Int->Bool->LL->LL->LL->LL->LL->LL->LL->Int->LL->LL->LL->LL->LL->LL->LL->LL->LL->LL->Int->oP R,QB 400 X.Ls ((X.Ls.length:Nat):Int) k0 400 0 (X.fst X.L) E [] X.G.St X.G.Pt X.G.Se X.G.Li per X.skR X.Ro X.Ls Ch (X.T.map tuR) Sy De (Uk (X.occs X.L)) (encI (X.runs X.L)) J per=k0 ((X.Ls.length:Nat):Int) false (X.fst X.L) E (X.pls X.L) X.G.St X.G.Pt X.G.Se X.G.Li per X.skR X.Ro X.Ls Ch (X.T.map tuR) Sy De (Uk (X.occs X.L)) (encI (X.runs X.L)) J per:=by
  intro k0;refine QX (r:=fun m i=>QB 400 X.Ls ((X.Ls.length:Nat):Int) k0 m i (X.fst X.L) E (X.pls i.toNat) X.G.St X.G.Pt X.G.Se X.G.Li per X.skR X.Ro X.Ls Ch (X.T.map tuR) Sy De (Uk (X.occs X.L)) (encI (X.runs X.L)) J per) (N:=X.Ls.length) (fun m i hi=>?_) (fun m=>?_) X.Ls.length 400 0 (by omega) (by omega)
  ·simp only [QdB];rw [QB,Qr hi,QdJ,Qm,(MC h hi).1];simp -implicitDefEqProofs only [Q0,Qdv,QdA,X6,Xi (show i<=1000 by omega)];exact Qaf h hi
  ·simp only [QdB];rw [QB,Xb,QdC];rfl
 have s3:∀ k0:Int->Bool->LL->LL->LL->LL->LL->LL->LL->Int->LL->LL->LL->LL->LL->LL->LL->LL->LL->LL->Int->oP R,QD 400 Ch ((Ch.length:Nat):Int) k0 400 0 (X.fst X.L) E (X.pls X.L) X.G.St X.G.Pt X.G.Se X.G.Li per X.skR X.Ro X.Ls Ch (X.T.map tuR) Sy De (Uk (X.occs X.L)) (encI (X.runs X.L)) J per=k0 ((Ch.length:Nat):Int) false (X.fst X.L) E (X.pls X.L++Ch.map X.chE) X.G.St X.G.Pt X.G.Se X.G.Li per X.skR X.Ro X.Ls Ch (X.T.map tuR) Sy De (Uk (X.occs X.L)) (encI (X.runs X.L)) J per:=by
  intro k0;refine QX (r:=fun m j=>QD 400 Ch ((Ch.length:Nat):Int) k0 m j (X.fst X.L) E (X.pls X.L++(Ch.take j.toNat).map X.chE) X.G.St X.G.Pt X.G.Se X.G.Li per X.skR X.Ro X.Ls Ch (X.T.map tuR) Sy De (Uk (X.occs X.L)) (encI (X.runs X.L)) J per) (N:=Ch.length) (fun m j hj=>?_) (fun m=>?_) Ch.length 400 0 (by omega) (by omega) |> Eq.trans (by simp)
  ·simp only [QdB];obtain ⟨row,e⟩:∃ q,Ch[j]? = some q:=⟨Ch[j],Qdz hj⟩;obtain ⟨f,fr,t,tr,mn,mx,w,rfl,g1,g2,g,g4,g5,g6⟩:=hl.ch row (Qdx e);have nf:=(MC h g1).2.1;have nt:=(MC h g).2.1;have bf:=VW h (i:=f) (by omega);have bt:=VW h (i:=t) (by omega);rw [QD,Qr hj,QdJ,Qm,e,U4 e,List.map_append,<- QdE];simp -implicitDefEqProofs only [Q0,Qdv,QdA,Q3,DQ (n:=400) h g1 (show fr<=10 by omega),DQ (n:=400) h g (show tr<=10 by omega),Xi (show j<=1000 by omega),Qab (n:=400) (show base X.nr f+fr<=1000 by omega),Q6P (n:=400) (show base X.nr t+tr<=1000 by omega),Q8e (n:=400) (A:=X.pls X.L++(Ch.take j).map X.chE) (by simp;omega)];rfl
  ·simp only [QdB];rw [QD,Xb,QdC,List.take_length]
 have s4:∀ k0:Int->Bool->LL->LL->LL->LL->LL->LL->LL->Int->LL->LL->LL->LL->LL->LL->LL->LL->LL->LL->Int->oP R,QC 400 (X.T.map tuR) ((X.T.length:Nat):Int) k0 400 0 (X.fst X.L) E (X.pls X.L++Ch.map X.chE) X.G.St X.G.Pt X.G.Se X.G.Li per X.skR X.Ro X.Ls Ch (X.T.map tuR) Sy De (Uk (X.occs X.L)) (encI (X.runs X.L)) J per=k0 ((X.T.length:Nat):Int) false (X.fst X.L) E (X.pls X.L++Ch.map X.chE++X.T.map X.tuE) X.G.St X.G.Pt X.G.Se X.G.Li per X.skR X.Ro X.Ls Ch (X.T.map tuR) Sy De (Uk (X.occs X.L)) (encI (X.runs X.L)) J per:=by
  intro k0;refine QX (r:=fun m j=>QC 400 (X.T.map tuR) ((X.T.length:Nat):Int) k0 m j (X.fst X.L) E (X.pls X.L++Ch.map X.chE++(X.T.take j.toNat).map X.tuE) X.G.St X.G.Pt X.G.Se X.G.Li per X.skR X.Ro X.Ls Ch (X.T.map tuR) Sy De (Uk (X.occs X.L)) (encI (X.runs X.L)) J per) (N:=X.T.length) (fun m j hj=>?_) (fun m=>?_) X.T.length 400 0 (by omega) (by omega) |> Eq.trans (by simp)
  ·simp only [QdB];obtain ⟨⟨a,b,lo,hi⟩,e⟩:∃ q,X.T[j]? = some q:=⟨X.T[j],Qdz hj⟩;have ht:=h.tr _ (Qdx e);have g1:a<X.Ls.length:=ht.1;have g:b<X.Ls.length:=ht.2.1;have nf:=(MC h g1).2.1;have bf:=VW h (i:=a) (by omega);have bt:=VW h (i:=b) (by omega);have ak:Q2 (X.T.map tuR) (j:Int)=some [Q5 a,Q5 b,Q5 lo,Q5 hi]:=XF e;have e9:X.pls X.L++Ch.map X.chE++(X.T.take (j+1)).map X.tuE=X.pls X.L++Ch.map X.chE++(X.T.take j).map X.tuE++[X.tuE (a,b,lo,hi)]:=by rw [U4 e,List.map_append,<- QdE];rfl
   have c:=DQ (R:=Int × LL × LL × LL × LL × Int × LL × LL × LL × LL × LL × LL × LL × LL × LL × LL × LL × Int × LL × LL) (n:=400) h (per:=per) (Ch:=Ch) (Sy:=Sy) (De:=De) g (Nat.zero_le 10) (O:=Uk (X.occs X.L)) (Rn:=encI (X.runs X.L)) (J:=J) (E:=E) (A:=X.pls X.L++Ch.map X.chE++(X.T.take j).map X.tuE) Tu20;rw [show ((0:Nat):Int)=0 from rfl] at c;rw [QC,Qr hj,QdJ,ak,e9];simp -implicitDefEqProofs only [Q0,Qdv,QdA,Q3,Q8N (n:=400) h g1,c,Xi (show j<=1000 by omega),Qab (n:=400) (show base X.nr a+(X.nr a-1)<=1000 by omega),Q6P (n:=400) (show base X.nr b+0<=1000 by omega),Q8e (n:=400) (A:=X.pls X.L++Ch.map X.chE++(X.T.take j).map X.tuE) (by simp;omega)];rfl
  ·simp only [QdB];rw [QC,Xb,QdC,List.take_length]
 have s5:∀ k0:Int->Bool->LL->LL->LL->LL->LL->LL->LL->Int->LL->LL->LL->LL->LL->LL->LL->LL->LL->LL->Int->oP R,QE 400 Sy ((Sy.length:Nat):Int) k0 400 0 (X.fst X.L) E (X.pls X.L++Ch.map X.chE++X.T.map X.tuE) X.G.St X.G.Pt X.G.Se X.G.Li per X.skR X.Ro X.Ls Ch (X.T.map tuR) Sy De (Uk (X.occs X.L)) (encI (X.runs X.L)) J per=k0 ((Sy.length:Nat):Int) false (X.fst X.L) E (X.planned Ch Sy) X.G.St X.G.Pt X.G.Se X.G.Li per X.skR X.Ro X.Ls Ch (X.T.map tuR) Sy De (Uk (X.occs X.L)) (encI (X.runs X.L)) J per:=by
  intro k0;refine QX (r:=fun m j=>QE 400 Sy ((Sy.length:Nat):Int) k0 m j (X.fst X.L) E (X.pls X.L++Ch.map X.chE++X.T.map X.tuE++(Sy.take j.toNat).map X.syE) X.G.St X.G.Pt X.G.Se X.G.Li per X.skR X.Ro X.Ls Ch (X.T.map tuR) Sy De (Uk (X.occs X.L)) (encI (X.runs X.L)) J per) (N:=Sy.length) (fun m j hj=>?_) (fun m=>?_) Sy.length 400 0 (by omega) (by omega) |> Eq.trans (by simp)
  ·simp only [QdB];obtain ⟨row,e⟩:∃ q,Sy[j]? = some q:=⟨Sy[j],Qdz hj⟩;obtain ⟨o,rfl,g1,g2,g⟩:=hl.sy row (Qdx e);have bt:=VW h (i:=1) (by omega);have c:=fun A=>DQ (R:=Int × LL × LL × LL × LL × Int × LL × LL × LL × LL × LL × LL × LL × LL × LL × LL × LL × Int × LL × LL) (n:=400) h (per:=per) (Ch:=Ch) (Sy:=Sy) (De:=De) (show 0<X.Ls.length by omega) (Nat.zero_le 10) (O:=Uk (X.occs X.L)) (Rn:=encI (X.runs X.L)) (J:=J) (E:=E) (A:=A) Tu20
   have d:=fun A=>DQ (R:=Int × LL × LL × LL × LL × Int × LL × LL × LL × LL × LL × LL × LL × LL × LL × LL × LL × Int × LL × LL) (n:=400) h (per:=per) (Ch:=Ch) (Sy:=Sy) (De:=De) (show 1<X.Ls.length by omega) (Nat.zero_le 10) (O:=Uk (X.occs X.L)) (Rn:=encI (X.runs X.L)) (J:=J) (E:=E) (A:=A) Tu20
   simp only [show ((0:Nat):Int)=0 from rfl,show ((1:Nat):Int)=1 from rfl] at c d;rw [QE,Qr hj,QdJ,Qm,e,U4 e,List.map_append,<- QdE];simp -implicitDefEqProofs only [Q0,Qdv,QdA,Q3,c,d,Xi (show j<=1000 by omega),Q6P (n:=400) (show base X.nr 0+0<=1000 by simp [base]),Q6P (n:=400) (show base X.nr 1+0<=1000 by omega),Q8e (n:=400) (A:=X.pls X.L++Ch.map X.chE++X.T.map X.tuE++(Sy.take j).map X.syE) (by simp;omega)];rfl
  ·simp only [QdB];rw [QE,Xb,QdC,List.take_length];rfl
 rw [s2,s3,List.length_map,s4,s5]
end Cx
theorem Mc {R:Type} {n:Nat} {O:List Occ} (hl:O.length<=1000) {q:Int->Bool} {K:LL->oP R} {k0:Int->Bool->LL->oP R} (hk:∀ a b w,k0 a b w=K w):∀ (ak P:List Occ) (j m:Nat),O.drop j=ak->ak.length<m->P.length<=j->XE n (O.map enc) ((O.length:Nat):Int) q k0 m (j:Int) (P.map enc)=K ((P++ak.filter fun o=>!q o.1).map enc)
 |[],P,j,m+1,hd,_,_=>by
  have:=ZG hd;rw [XE,show decide ((j:Int)<((O.length:Nat):Int))=false by simpa using this,QdC,hk,List.filter_nil,List.append_nil]
 |o::ak,P,j,m+1,hd,hm,hP=>by
  obtain ⟨e,am,hj⟩:=Ym hd;rw [XE,Qr hj,QdJ,XF e];simp -implicitDefEqProofs only [Q0,Q0i,Q0l,AY,Q3,Xi (show j<=1000 by omega),Y2 (show ((P.map enc).length+[[Q5 o.1,Q5 o.2.1,Q5 o.2.2]].length)*24<=100000 by simp;omega)];rw [List.filter_cons];cases hq:q o.1 with
  |true=>
   rw [Bool.not_true,QdC,if_neg (by simp)];exact Mc hl hk ak P (j+1) m am (by simpa using hm) (by omega)
  |false=>
   rw [Bool.not_false,QdJ,if_pos rfl];have:=Mc (n:=n) (q:=q) hl hk ak (P++[o]) (j+1) m am (by simpa using hm) (by simp;omega);rw [List.map_append,QdE] at this;exact this
theorem Q2m {R:Type} {O:List Occ} (hl:O.length<=300) {q:Int->Bool} (K:LL->(Int->Bool)->oP R):Wa 400 (O.map enc) q K=K ((O.filter fun o=>!q o.1).map enc) q:=by
 unfold Wa;rw [List.length_map];exact Mc (by omega) (K:=fun w=>K w q) (fun _ _ _=>rfl) O [] 0 400 rfl (by omega) (by simp)
namespace Cx
variable {R:Type} {n:Nat} {X:Cx} (h:X.OK) {per:Int} {Ch Sy De:LL} {F E A Oc Rn J:LL}
theorem map1 {O:List Occ} (hl:O.length<=1000) {x y z la:Int} {k0:Int->Bool->(Int->Bool)->oP R} {Kc:(Int->Bool)->oP R} (hk:∀ a b c,k0 a b c=Kc c):∀ (ak:List Occ) (j m:Nat) (c:Int->Bool),O.drop j=ak->ak.length<m->∃ c',X8 n (O.map enc) ((O.length:Nat):Int) la (Q5 x) (Q5 y) (Q5 z) k0 m (j:Int) c=Kc c'
 |[],j,m+1,c,hd,_=>by
  have:=ZG hd;exact ⟨c,by rw [X8,show decide ((j:Int)<((O.length:Nat):Int))=false by simpa using this,QdC,hk]⟩
 |q::ak,j,m+1,c,hd,hm=>by
  obtain ⟨e,am,hj⟩:=Ym hd;have ih:=fun c=>map1 (la:=la) (x:=x) (y:=y) (z:=z) hl hk ak (j+1) m c am (by simpa using hm)
  rw [X8,Qr hj,QdJ,XF e];simp -implicitDefEqProofs only [Q0,Q0i,Q0l,AY,Q3,Xi (show j<=1000 by omega)];unfold Xe;simp -implicitDefEqProofs only [Q0];generalize (bif (x == q.1) then decide (wJ (la+q.2.1)<=z) else false)=g;cases g
  ·exact ih c
  ·exact ih _
theorem Qba {Oa:List Occ} (ha:Oa.length<=300) {O:List Occ} (hl:O.length<=300) {jb la:Int} (hb:Q2 Oc jb=some [D.sl 3 (O.map enc)]) {k0:Int->Bool->(Int->Bool)->oP R} {Kc:(Int->Bool)->oP R} (hk:∀ a b c,k0 a b c=Kc c):∀ (ak:List Occ) (j m:Nat) (c:Int->Bool),Oa.drop j=ak->ak.length<m->∃ c',QQ 400 (Oa.map enc) ((Oa.length:Nat):Int) jb la Oc k0 m (j:Int) c=Kc c'
 |[],j,m+1,c,hd,_=>by
  have:=ZG hd;exact ⟨c,by rw [QQ,show decide ((j:Int)<((Oa.length:Nat):Int))=false by simpa using this,QdC,hk]⟩
 |q::ak,j,m+1,c,hd,hm=>by
  obtain ⟨e,am,hj⟩:=Ym hd;rw [QQ,Qr hj,QdJ,XF e,hb];simp -implicitDefEqProofs only [Q0,Q0i,Q0l,AY,Qdv,X6,List.length_map,Xi (show j<=1000 by omega)];obtain ⟨c1,d⟩:=map1 (n:=400) (O:=O) (by omega) (x:=q.1) (y:=q.2.1) (z:=q.2.2) (la:=la) (Kc:=fun c=>QQ 400 (Oa.map enc) ((Oa.length:Nat):Int) jb la Oc k0 m ((j+1:Nat):Int) c) (k0:=fun _ _ c=>QQ 400 (Oa.map enc) ((Oa.length:Nat):Int) jb la Oc k0 m ((j+1:Nat):Int) c) (fun _ _ _=>rfl) O 0 400 c rfl (by omega);obtain ⟨f,h2⟩:=Qba ha hl hb hk ak (j+1) m c1 am (by simpa using hm);exact ⟨f,d.trans h2⟩
def NJ (X:Cx) (a b:Nat):Prop:=∀ j∈X.jns,¬ (j.1=a/\j.2.1=b)/\¬ (j.1=b/\j.2.1=a)
include h
theorem Q53 {a b:Nat} {k0:Int->Bool->(Int->Bool)->LL->LL->LL->LL->LL->LL->LL->Int->LL->LL->LL->LL->LL->LL->LL->LL->LL->LL->Int->oP R} {Kq:(Int->Bool)->oP R} (hk:∀ u v q,k0 u v q F E A X.G.St X.G.Pt X.G.Se X.G.Li per X.skR X.Ro X.Ls Ch (X.T.map tuR) Sy De (Uk (X.occs X.L)) Rn (X.jns.map tuR) per=Kq q):∀ (am:List Tup) (j m:Nat) (q:Int->Bool),X.jns.drop j=am->am.length<m ->
  ∃ q',Qq 400 (a:Int) (b:Int) (X.jns.map tuR) ((X.jns.length:Nat):Int) k0 m (j:Int) q F E A X.G.St X.G.Pt X.G.Se X.G.Li per X.skR X.Ro X.Ls Ch (X.T.map tuR) Sy De (Uk (X.occs X.L)) Rn (X.jns.map tuR) per=Kq q'/\((∀ t∈am,¬ (t.1=a/\t.2.1=b)/\¬ (t.1=b/\t.2.1=a))->q'=q)
 |[],j,m+1,q,hd,_=>by
  have:=ZG hd;exact ⟨q,by rw [Qq,show decide ((j:Int)<((X.jns.length:Nat):Int))=false by simpa using this,QdC,hk],fun _=>rfl⟩
 |(c,d,la,mo)::am,j,m+1,q,hd,hm=>by
  obtain ⟨e,ao,hj⟩:=Ym hd;have aw:=CW h;obtain ⟨i,k,i',k',g1,n,o,p,l,r⟩:=Q6X h (c,d,la,mo) (Qdx e);dsimp only at l r;have y:=(Ap h g1 n).2;have z:=(Ap h o p).2;have an:Q2 (X.jns.map tuR) (j:Int)=some [Q5 c,Q5 d,Q5 la,Q5 mo]:=XF e;have ih:=fun q=>Q53 (a:=a) (b:=b) hk am (j+1) m q ao (by simpa using hm)
  rw [Qq,Qr hj,QdJ,an];simp -implicitDefEqProofs only [Q0,Qdv,QdA,Q3,Xi (show j<=1000 by omega)];by_cases hc:(c=a/\d=b)\/(c=b/\d=a)
  ·have ak:(bif bif (c:Int) == (a:Int) then (d:Int) == (b:Int) else false then true else bif (c:Int) == (b:Int) then (d:Int) == (a:Int) else false)=true:=by
    rcases hc with ⟨rfl,rfl⟩ | ⟨rfl,rfl⟩
    ·simp
    ·simp
   rw [ak,QdJ];unfold WY;rw [l,Aq g1 n];simp -implicitDefEqProofs only [Q0,Qdv,X6,List.length_map];obtain ⟨q1,g⟩:=Qba (Oc:=Uk (X.occs X.L)) (Oa:=X.occ i k) (by omega) (O:=X.occ i' k') (by omega) (jb:=(d:Int)) (la:=la) (by rw [r];exact Aq o p) (Kc:=fun c=>some (X.G.St,X.G.Pt,X.G.Se,X.G.Li,per,X.skR,X.Ro,X.Ls,Ch,X.T.map tuR,Sy,De,F,Uk (X.occs X.L),Rn,X.jns.map tuR,per,E,A,c)) (k0:=fun aa ab s=>some (X.G.St,X.G.Pt,X.G.Se,X.G.Li,per,X.skR,X.Ro,X.Ls,Ch,X.T.map tuR,Sy,De,F,Uk (X.occs X.L),Rn,X.jns.map tuR,per,E,A,s)) (fun _ _ _=>rfl) (X.occ i k) 0 400 q rfl (by omega);rw [show ((0:Nat):Int)=0 from rfl] at g;rw [g,Q0];dsimp only;obtain ⟨q2,h2,_⟩:=ih q1;refine ⟨q2,h2,fun hn=>?_⟩;have:=hn _ (.head _);dsimp only at this;rw [<- l] at this;exact (hc.elim this.1 this.2).elim
  ·have ak:(bif bif (c:Int) == (a:Int) then (d:Int) == (b:Int) else false then true else bif (c:Int) == (b:Int) then (d:Int) == (a:Int) else false)=false:=by
    by_cases g:c=a
    ·by_cases h2:d=b
     ·exact (hc (.inl ⟨g,h2⟩)).elim
     ·rw [show ((d:Int) == (b:Int))=false by simp;omega];by_cases f:c=b
      ·rw [show ((d:Int) == (a:Int))=false by simp;intro x;exact hc (.inr ⟨f,by omega⟩)];simp
      ·rw [show ((c:Int) == (b:Int))=false by simp;omega];simp
    ·rw [show ((c:Int) == (a:Int))=false by simp;omega,QdC,QdC];by_cases f:c=b
     ·rw [show ((d:Int) == (a:Int))=false by simp;intro x;exact hc (.inr ⟨f,by omega⟩)];simp
     ·rw [show ((c:Int) == (b:Int))=false by simp;omega,QdC]
   rw [ak,QdC];obtain ⟨q2,h2,f⟩:=ih q;exact ⟨q2,h2,fun hn=>f fun t ht=>hn t (.tail _ ht)⟩
theorem QaK {a b:Nat}:∃ q,XB 400 X.G.St X.G.Pt X.G.Se X.G.Li per X.skR X.Ro X.Ls Ch (X.T.map tuR) Sy De F (Uk (X.occs X.L)) Rn (X.jns.map tuR) per E A (a:Int) (b:Int) Tu20=some (q,X.G.St,X.G.Pt,X.G.Se,X.G.Li,per,X.skR,X.Ro,X.Ls,Ch,X.T.map tuR,Sy,De,F,Uk (X.occs X.L),Rn,X.jns.map tuR,per,E,A)/\(X.NJ a b->q=fun _=>false):=by
 unfold XB;rw [List.length_map];obtain ⟨q,z,h2⟩:=Q53 h (F:=F) (E:=E) (A:=A) (Rn:=Rn) (per:=per) (Ch:=Ch) (Sy:=Sy) (De:=De) (a:=a) (b:=b) (Kq:=fun q=>some (q,X.G.St,X.G.Pt,X.G.Se,X.G.Li,per,X.skR,X.Ro,X.Ls,Ch,X.T.map tuR,Sy,De,F,Uk (X.occs X.L),Rn,X.jns.map tuR,per,E,A)) (k0:=fun ax ay aa ab ac ad ae ag ah ai aj ak al am an ao ap aq ar au av aw=>some (aa,ae,ag,ah,ai,aj,ak,al,am,an,ao,ap,aq,ab,ar,au,av,aw,ac,ad)) (fun _ _ _=>rfl) X.jns 0 400 (fun _=>false) rfl (by have:=CW h;omega);exact ⟨q,z,h2⟩
omit h in
def occN (X:Cx) (a:Nat):List Occ:=(X.occs X.L).getD a []
omit h in
def N (X:Cx):Nat:=base X.nr X.L
theorem Q1l {a:Nat} (ha:a<X.N):Q2 (Uk (X.occs X.L)) (a:Int)=some [D.sl 3 ((X.occN a).map enc)]/\OL (-1) (X.occN a)/\(X.occN a).length<=6:=by
 obtain ⟨i,k,b,h2,rfl⟩:=Fk ha;have e:X.occN (base X.nr i+k)=X.occ i k:=by
  unfold occN;rw [List.getD_eq_getElem?_getD,show (X.occs X.L)[base X.nr i+k]? = some (X.occ i k) from NZ h2 b];rfl
 rw [e];exact ⟨Aq b h2,Ap h b h2⟩
omit h in
def Q5l (a b:Nat) (w:Sp2):List D:=[Q5 6,Q5 ((2*a:Nat):Int),Q5 ((2*b:Nat):Int),Q5 w.1,Q5 w.2,Q5 0]
omit h in
theorem Qae {a b:Nat} (ha:a<=100) (hb:b<=100) {W:List Sp2} (hW:W.length<=12) {k0:Int->Bool->LL->LL->LL->LL->LL->LL->LL->Int->LL->LL->LL->LL->LL->LL->LL->LL->LL->LL->Int->oP R} (hA:A.length<=900):Qw 400 (a:Int) (b:Int) (W.map Y0) ((W.length:Nat):Int) k0 400 0 (X.fst X.L) E A X.G.St X.G.Pt X.G.Se X.G.Li per X.skR X.Ro X.Ls Ch (X.T.map tuR) Sy De Oc Rn J per=k0 ((W.length:Nat):Int) false (X.fst X.L) E (A++W.map (Q5l a b)) X.G.St X.G.Pt X.G.Se X.G.Li per X.skR X.Ro X.Ls Ch (X.T.map tuR) Sy De Oc Rn J per:=by
 refine QX (r:=fun m j=>Qw 400 (a:Int) (b:Int) (W.map Y0) ((W.length:Nat):Int) k0 m j (X.fst X.L) E (A++(W.take j.toNat).map (Q5l a b)) X.G.St X.G.Pt X.G.Se X.G.Li per X.skR X.Ro X.Ls Ch (X.T.map tuR) Sy De Oc Rn J per) (N:=W.length) (fun m j hj=>?_) (fun m=>?_) W.length 400 0 (by omega) (by omega) |> Eq.trans (by simp)
 ·simp only [QdB];obtain ⟨w,e⟩:∃ q,W[j]? = some q:=⟨W[j],Qdz hj⟩;rw [Qw,Qr hj,QdJ,XF e,U4 e,List.map_append,<- QdE];simp -implicitDefEqProofs only [Q0,Q6I,Q6p,Q3,Xi (show j<=1000 by omega),Q6P (n:=400) (show a<=1000 by omega),Q6P (n:=400) (show b<=1000 by omega),Q8e (n:=400) (A:=A++(W.take j).map (Q5l a b)) (by simp;omega)];rfl
 ·simp only [QdB];rw [Qw,Xb,QdC,List.take_length]
omit h in
structure HdOK (X:Cx) (per:Int) (S:Nat->Nat->Prop) (H:LL):Prop where
 row:∀ r∈H,∃ a b w,S a b/\r=Q5l a b w/\0<=w.1/\w.1<=w.2/\w.2<w.1+per/\w.2<=2*per
 win:∀ a b,S a b->X.NJ a b->∃ W,WinR per (X.occN a) (X.occN b) W/\∀ w,Q5l a b w∈H↔w∈W
omit h in
theorem RI {a b a' b':Nat} {w w':Sp2} (e:Q5l a b w=Q5l a' b' w'):a=a'/\b=b'/\w=w':=by
 unfold Q5l at e;simp only [List.cons.injEq,D.int.injEq,true_and,and_true] at e;obtain ⟨e1,e2,c,d⟩:=e;exact ⟨by omega,by omega,Prod.ext c d⟩
theorem Q95 (p0:2<=per) (p1:per<=300) {a:Nat} {k0:Int->LL->LL->LL->LL->LL->LL->LL->Int->LL->LL->LL->LL->LL->LL->LL->LL->LL->LL->Int->oP R} {k1:Int->Bool->LL->LL->LL->LL->LL->LL->LL->Int->LL->LL->LL->LL->LL->LL->LL->LL->LL->LL->Int->oP R} {Ke K1:LL->oP R} (g:∀ A,k0 13 (X.fst X.L) E A X.G.St X.G.Pt X.G.Se X.G.Li per X.skR X.Ro X.Ls Ch (X.T.map tuR) Sy De (Uk (X.occs X.L)) Rn (X.jns.map tuR) per=Ke A) (i:∀ u v A,k1 u v (X.fst X.L) E A X.G.St X.G.Pt X.G.Se X.G.Li per X.skR X.Ro X.Ls Ch (X.T.map tuR) Sy De (Uk (X.occs X.L)) Rn (X.jns.map tuR) per=K1 A):∀ (c m b:Nat) (A:LL),b+c=X.N->c<m->A.length+12*c<=900->a<X.N ->
  (∃ A',Qy 400 (a:Int) k0 k1 m (b:Int) (X.fst X.L) E A X.G.St X.G.Pt X.G.Se X.G.Li per X.skR X.Ro X.Ls Ch (X.T.map tuR) Sy De (Uk (X.occs X.L)) Rn (X.jns.map tuR) per=Ke A')\/∃ H:LL,Qy 400 (a:Int) k0 k1 m (b:Int) (X.fst X.L) E A X.G.St X.G.Pt X.G.Se X.G.Li per X.skR X.Ro X.Ls Ch (X.T.map tuR) Sy De (Uk (X.occs X.L)) Rn (X.jns.map tuR) per=K1 (A++H)/\H.length<=12*c/\X.HdOK per (fun a' b'=>a'=a/\b<=b'/\b'<X.N) H
 |0,m+1,b,A,hb,_,_,ha=>by
  have am:(Uk (X.occs X.L)).length=X.N:=by rw [S3];exact WO
  refine .inr ⟨[],?_,QdI _,⟨fun r hr=>(nomatch hr),fun a' b' hs=>by omega⟩⟩;rw [Qy,am,show decide ((b:Int)<((X.N:Nat):Int))=false from decide_eq_false (by omega),QdC,i,List.append_nil]
 |c+1,m+1,b,A,hb,hm,hA,ha=>by
  have am:(Uk (X.occs X.L)).length=X.N:=by rw [S3];exact WO
  have hN:=base_le h;have ax:X.N<=6:=hN;have an:b<X.N:=by omega
  obtain ⟨a1,a2,a3⟩:=Q1l h ha;obtain ⟨b1,b2,k⟩:=Q1l h an;obtain ⟨q,q1,q2⟩:=QaK h (F:=X.fst X.L) (E:=E) (A:=A) (Rn:=Rn) (per:=per) (Ch:=Ch) (Sy:=Sy) (De:=De) (a:=a) (b:=b);have fa:∀ O:List Occ,O.length<=6->(O.filter fun o=>!q o.1).length<=6:=fun O hO=>QdP (List.length_filter_le _ _) hO
  rw [Qy,am,Qr an,QdJ,q1,Q0];dsimp only;rw [a1,b1];simp -implicitDefEqProofs only [Q0,Qdv,X6,Q2m (O:=X.occN a) (show (X.occN a).length<=300 by omega),Q2m (O:=X.occN b) (show (X.occN b).length<=300 by omega),Xi (show b<=1000 by omega)];rcases Q5T (t:=per) p0 (by omega) (a2.filter (p:=fun o=>!q o.1)) (b2.filter (p:=fun o=>!q o.1)) (fa _ a3) (fa _ k) with hw | ⟨W,hw,hW⟩
  ·left;rw [hw,Q0];exact ⟨A,g A⟩
  ·rw [hw,Q0];dsimp only;rw [Q8 (by rfl),List.length_map,Qae (by omega) (by omega) hW.len (by omega)];have a6:=hW.len;rcases Q95 p0 p1 g i c m (b+1) (A++W.map (Q5l a b)) (by omega) (by omega) (by simp;omega) ha with d | ⟨H,d,h2,f⟩
   ·exact .inl d
   ·refine .inr ⟨W.map (Q5l a b)++H,by rw [d,QdE],by simp;omega,⟨fun r hr=>?_,fun a' b' hs hn=>?_⟩⟩
    ·rcases Qdy.1 hr with hr | hr
     ·obtain ⟨w,hw,rfl⟩:=List.mem_map.1 hr;exact ⟨a,b,w,⟨rfl,QdI _,an⟩,rfl,hW.rng w hw⟩
     ·obtain ⟨a',b',w,hs,e,hr⟩:=f.row r hr;exact ⟨a',b',w,⟨hs.1,by omega,hs.2.2⟩,e,hr⟩
    ·obtain ⟨rfl,n,l⟩:=hs;by_cases ar:b'=b
     ·subst ar;have hq:=q2 hn;subst hq;have ef:∀ O:List Occ,(O.filter fun o=>!(false:Bool))=O:=fun O=>by simp
      rw [ef,ef] at hW;refine ⟨W,hW,fun w=>?_⟩;rw [Qdy,List.mem_map];constructor
      ·rintro (⟨w',ak,e⟩ | hr)
       ·rw [<- (RI e).2.2];exact ak
       ·obtain ⟨a2,b2,w2,hs,e,_⟩:=f.row _ hr;have:=(RI e).2.1;omega
      ·exact fun ak=>.inl ⟨w,ak,rfl⟩
     ·obtain ⟨W',g1,j⟩:=f.win a' b' ⟨rfl,by omega,l⟩ hn;refine ⟨W',g1,fun w=>?_⟩;rw [Qdy,List.mem_map];constructor
      ·rintro (⟨w',ak,e⟩ | hr)
       ·have:=(RI e).2.1;omega
       ·exact (j w).1 hr
      ·exact fun ak=>.inr ((j w).2 ak)
theorem Q99 (p0:2<=per) (p1:per<=300) {k0:Int->LL->LL->LL->LL->LL->LL->LL->Int->LL->LL->LL->LL->LL->LL->LL->LL->LL->LL->Int->oP R} {k1:Int->Bool->LL->LL->LL->LL->LL->LL->LL->Int->LL->LL->LL->LL->LL->LL->LL->LL->LL->LL->Int->oP R} {Ke K1:LL->oP R} (i:∀ A,k0 13 (X.fst X.L) E A X.G.St X.G.Pt X.G.Se X.G.Li per X.skR X.Ro X.Ls Ch (X.T.map tuR) Sy De (Uk (X.occs X.L)) Rn (X.jns.map tuR) per=Ke A) (j:∀ u v A,k1 u v (X.fst X.L) E A X.G.St X.G.Pt X.G.Se X.G.Li per X.skR X.Ro X.Ls Ch (X.T.map tuR) Sy De (Uk (X.occs X.L)) Rn (X.jns.map tuR) per=K1 A):∀ (c m a:Nat) (A:LL),a+c=X.N->c<m->A.length+72*c<=800 ->
  (∃ A',Qh 400 ((X.N:Nat):Int) k0 k1 m (a:Int) (X.fst X.L) E A X.G.St X.G.Pt X.G.Se X.G.Li per X.skR X.Ro X.Ls Ch (X.T.map tuR) Sy De (Uk (X.occs X.L)) Rn (X.jns.map tuR) per=Ke A')\/∃ H:LL,Qh 400 ((X.N:Nat):Int) k0 k1 m (a:Int) (X.fst X.L) E A X.G.St X.G.Pt X.G.Se X.G.Li per X.skR X.Ro X.Ls Ch (X.T.map tuR) Sy De (Uk (X.occs X.L)) Rn (X.jns.map tuR) per=K1 (A++H)/\H.length<=6*(c*c)/\X.HdOK per (fun a' b'=>a<=a'/\a'<b'/\b'<X.N) H
 |0,m+1,a,A,hb,_,_=>by
  refine .inr ⟨[],?_,QdI _,⟨fun r hr=>(nomatch hr),fun a' b' hs=>by omega⟩⟩;rw [Qh,show decide ((a:Int)<((X.N:Nat):Int))=false from decide_eq_false (by omega),QdC,j,List.append_nil]
 |c+1,m+1,a,A,hb,hm,hA=>by
  have br:X.N<=6:=base_le h;rw [Qh,Qr (show a<X.N by omega),QdJ,Xi (show a<=1000 by omega)];rcases Q95 h p0 p1 (E:=E) (Rn:=Rn) (Ch:=Ch) (Sy:=Sy) (De:=De) (a:=a) (Ke:=Ke) (k0:=fun k l n o p q s t x y z aa ab ac ad ae ag ah ai aj=>k0 k l n o p q s t x y z aa ab ac ad ae ag ah ai aj) (K1:=fun A=>Qh 400 ((X.N:Nat):Int) k0 k1 m ((a+1:Nat):Int) (X.fst X.L) E A X.G.St X.G.Pt X.G.Se X.G.Li per X.skR X.Ro X.Ls Ch (X.T.map tuR) Sy De (Uk (X.occs X.L)) Rn (X.jns.map tuR) per) (k1:=fun bh bi ak al am an ao ap aq ar au av aw ax ay az ba bb bc bd be=>Qh 400 ((X.N:Nat):Int) k0 k1 m ((a+1:Nat):Int) ak al am an ao ap aq ar au av aw ax ay az ba bb bc bd be) i (fun _ _ _=>rfl) (X.N-(a+1)) 400 (a+1) A (by omega) (by omega) (by omega) (by omega) with d | ⟨H,d,h2,f⟩
  ·exact .inl d
  ·rcases Q99 p0 p1 i j c m (a+1) (A++H) (by omega) (by omega) (by simp;omega) with ⟨A',g1⟩ | ⟨H',g1,g2,g⟩
   ·exact .inl ⟨A',d.trans g1⟩
   ·refine .inr ⟨H++H',by rw [d];exact g1.trans (by rw [QdE]),?_,⟨fun r hr=>?_,fun a' b' hs hn=>?_⟩⟩
    ·have:(c+1)*(c+1)=c*c+2*c+1:=by rw [Nat.succ_mul,Nat.mul_succ];omega
     rw [QdO];omega
    ·rcases Qdy.1 hr with hr | hr
     ·obtain ⟨a',b',w,hs,e,hr⟩:=f.row r hr;exact ⟨a',b',w,⟨by omega,by omega,by omega⟩,e,hr⟩
     ·obtain ⟨a',b',w,hs,e,hr⟩:=g.row r hr;exact ⟨a',b',w,⟨by omega,hs.2⟩,e,hr⟩
    ·by_cases a7:a'=a
     ·obtain ⟨W,k1,b⟩:=f.win a' b' ⟨a7,by omega,hs.2.2⟩ hn;refine ⟨W,k1,fun w=>?_⟩;rw [Qdy];constructor
      ·rintro (hr | hr)
       ·exact (b w).1 hr
       ·obtain ⟨a2,b2,w2,bg,e,_⟩:=g.row _ hr;have:=(RI e).1;omega
      ·exact fun hw=>.inl ((b w).2 hw)
     ·obtain ⟨W,k1,b⟩:=g.win a' b' ⟨by omega,hs.2⟩ hn;refine ⟨W,k1,fun w=>?_⟩;rw [Qdy];constructor
      ·rintro (hr | hr)
       ·obtain ⟨a2,b2,w2,bg,e,_⟩:=f.row _ hr;have:=(RI e).1;omega
       ·exact (b w).1 hr
      ·exact fun hw=>.inr ((b w).2 hw)
end Cx

namespace Cx
variable {X:Cx} (h:X.OK) {per:Int} {Ch Sy De:LL} (hl:X.LsOK per Ch Sy)
theorem Q6T {t:Int} (d:1<=t) (f:t<=7200) {R:Type} {Kc:Bool->oP R} {k0:oP R} (g:k0=Kc false) {k1:Int->Bool->oP R} (i:∀ a b,∃ c,k1 a b=Kc c) {L:List (List Occ)} (hO:∀ o∈L,OL (-1) o/\o.length<=6) (am:L.length<=100):∀ (ak:List (List Occ)) (j m:Nat),L.drop j=ak->ak.length<m->∃ c,Xj 400 (Uk L) ((L.length:Nat):Int) t k0 k1 m (j:Int)=Kc c
 |[],j,m+1,hd,_=>by
  have:=ZG hd;obtain ⟨c,hc⟩:=i (j:Int) (decide ((j:Int)<((L.length:Nat):Int)));refine ⟨c,?_⟩;rw [Xj,hc,show decide ((j:Int)<((L.length:Nat):Int))=false by simpa using this,QdC]
 |o::ak,j,m+1,hd,hm=>by
  obtain ⟨e,ao,hj⟩:=Ym hd;have ho:=hO o (Qdx e);obtain ⟨b,hb⟩:=Q9c d f ho.1 (by omega);have an:Q2 (Uk L) (j:Int)=some [D.sl 3 (o.map enc)]:=XF e;obtain ⟨c,ih⟩:=Q6T d f (k0:=k0) g i hO am ak (j+1) m ao (by simpa using hm);rw [Xj,Qr hj,QdJ,an];simp -implicitDefEqProofs only [Q0,Qdv,X6,hb,Xi (show j<=1000 by omega)];cases b
  ·exact ⟨false,g⟩
  ·exact ⟨c,ih⟩
include h
theorem Q7W:∀ o∈X.occs X.L,OL (-1) o/\o.length<=6:=by
 intro o ho;obtain ⟨a,ha⟩:=List.getElem?_of_mem ho;have ak:=(Qdw.1 ha).1;rw [show (X.occs X.L).length=X.N from WO] at ak;obtain ⟨b,h2⟩:=(Q1l h ak).2;unfold occN at b h2;rw [List.getD_eq_getElem?_getD,ha] at b h2;exact ⟨b,h2⟩
theorem Q8z (p0:1<=per) (p1:per<=300) {E A Rn:LL}:∃ c,YX 400 X.G.St X.G.Pt X.G.Se X.G.Li per X.skR X.Ro X.Ls Ch (X.T.map tuR) Sy De (X.fst X.L) (Uk (X.occs X.L)) Rn (X.jns.map tuR) per E A Tu20=some (c,X.G.St,X.G.Pt,X.G.Se,X.G.Li,per,X.skR,X.Ro,X.Ls,Ch,X.T.map tuR,Sy,De,X.fst X.L,Uk (X.occs X.L),Rn,X.jns.map tuR,per,E,A):=by
 have ak:(X.occs X.L).length=X.N:=WO;have hN:X.N<=6:=base_le h;have hj:=CW h;unfold YX;rw [S3];refine Q6T (t:=per) p0 (by omega) (Kc:=fun c=>some (c,X.G.St,X.G.Pt,X.G.Se,X.G.Li,per,X.skR,X.Ro,X.Ls,Ch,X.T.map tuR,Sy,De,X.fst X.L,Uk (X.occs X.L),Rn,X.jns.map tuR,per,E,A)) rfl (fun a b=>?_) (Q7W h) (by omega) (X.occs X.L) 0 400 rfl (by omega);rw [List.length_map];exact Q6V h (F:=X.fst X.L) (E:=E) (A:=A) (Rn:=Rn) (per:=per) (Ch:=Ch) (Sy:=Sy) (De:=De) (Kc:=fun c=>some (c,X.G.St,X.G.Pt,X.G.Se,X.G.Li,per,X.skR,X.Ro,X.Ls,Ch,X.T.map tuR,Sy,De,X.fst X.L,Uk (X.occs X.L),Rn,X.jns.map tuR,per,E,A)) rfl (fun _ _=>rfl) X.jns 0 400 rfl (by omega)
include hl
theorem buildP (p0:2<=per) (p1:per<=300) (hc:UC 400 X.G.St X.G.Pt X.G.Se X.G.Li per X.skR X.Ro X.Ls Ch (X.T.map tuR) Sy De (some:Int->Option Int)=some 0) :
  (∃ e:Int,(e=13\/e=7)/\Wd 400 X.G.St X.G.Pt X.G.Se X.G.Li per X.skR X.Ro X.Ls Ch (X.T.map tuR) Sy De Tu4=some (0,[],[],e)) \/
  ∃ H:LL,X.HdOK per (fun a b=>0<=a/\a<b/\b<X.N) H/\(X.planned Ch Sy++H).length<=300/\Wd 400 X.G.St X.G.Pt X.G.Se X.G.Li per X.skR X.Ro X.Ls Ch (X.T.map tuR) Sy De Tu4=some (per,X.evs X.L,X.planned Ch Sy++H,0):=by
 have hN:base X.nr X.L<=6:=base_le h;have a7:(Uk (X.occs X.L)).length=X.N:=by rw [S3];exact WO
 have a6:X.N<=6:=hN;have bi:(X.planned Ch Sy).length<=40:=by
  have:=Bg (X:=X) (i:=X.L);have:=hl.chl;have:=hl.syl;have:=h.tl;unfold planned;simp only [QdO,List.length_map];omega
 obtain ⟨c,a8⟩:=Q8z h (by omega) p1 (E:=X.evs X.L) (A:=[]) (Rn:=encI (X.runs X.L)) (Ch:=Ch) (Sy:=Sy) (De:=De);unfold Wd;rw [hc,Q0,Q8 (by rfl),Q7l h,Q0];dsimp only;rw [evs_len,Q8 (decide_eq_false (by omega)),Q9f h hc,Q0];dsimp only;rw [Q8 (by rfl),Q8r h,Q0];dsimp only;rw [a8,Q0];dsimp only;cases c
 ·exact .inl ⟨13,.inl rfl,rfl⟩
 rw [Q8 (by rfl),Q5x h hl,Q0];dsimp only;unfold YL;rw [a7];rcases Q99 h p0 p1 (R:=Int × LL × LL × LL × LL × Int × LL × LL × LL × LL × LL × LL × LL × LL × LL × LL × LL × Int × LL × LL) (E:=X.evs X.L) (Rn:=encI (X.runs X.L)) (Ch:=Ch) (Sy:=Sy) (De:=De) (Ke:=fun A=>some (13,X.G.St,X.G.Pt,X.G.Se,X.G.Li,per,X.skR,X.Ro,X.Ls,Ch,X.T.map tuR,Sy,De,X.fst X.L,Uk (X.occs X.L),encI (X.runs X.L),X.jns.map tuR,per,X.evs X.L,A)) (K1:=fun A=>some (0,X.G.St,X.G.Pt,X.G.Se,X.G.Li,per,X.skR,X.Ro,X.Ls,Ch,X.T.map tuR,Sy,De,X.fst X.L,Uk (X.occs X.L),encI (X.runs X.L),X.jns.map tuR,per,X.evs X.L,A)) (k0:=fun l m n o p q r s t u v x y z aa ab ac ad ae ag=>some (l,p,q,r,s,t,u,v,x,y,z,aa,ab,m,ac,ad,ae,ag,n,o)) (k1:=fun bc bd ah ai aj ak al am an ao ap aq ar au av aw ax ay az ba bb=>some (0,ak,al,am,an,ao,ap,aq,ar,au,av,aw,ax,ah,ay,az,ba,bb,ai,aj)) (fun _=>rfl) (fun _ _ _=>rfl) X.N 400 0 (X.planned Ch Sy) (by omega) (by omega) (by omega) with ⟨A',d⟩ | ⟨H,d,h3,h2⟩
 ·rw [show ((0:Nat):Int)=0 from rfl] at d;rw [d,Q0];exact .inl ⟨13,.inl rfl,rfl⟩
 ·rw [show ((0:Nat):Int)=0 from rfl] at d;rw [d,Q0];dsimp only;rw [Q8 (by rfl)];have bg:=Nat.mul_le_mul a6 a6;have hg:(X.planned Ch Sy++H).length<=300:=by rw [QdO];omega
  rw [Q8 (decide_eq_false (by omega))];exact .inr ⟨H,h2,hg,rfl⟩
end Cx

end Go.Vx
namespace Go.Vx
variable {R:Type}
def Rc (n:Nat)  (K:Int->LL->LL->oP R):oP R:= K 10 [[Q5 1,Q5 0,Q5 0],[Q5 2,Q5 0,Q5 0]] [[Q5 1,Q5 0,Q5 1,Q5 3,Q5 5,Q5 2]]
def GK (n:Nat) (b:Int) (a c:LL) (a1:Int) (K:Bool->oP R):oP R:= K (bif decide (a1>=0) then (decide (a1<(a.length:Int))) else false)

def G8 (n:Nat) (p:LL) (h2 e:Int) (h i:LL) (k0:oP R) (k1:Int->Bool->oP R):Nat->Int->oP R
 | 0,_=>none
 | m+1,c=>bif decide (c<h2) then gb true (Q2 p c) [] fun a=>gb true (a[0]?) oF fun ac=>gb true (a[1]?) oF fun q=>gb true (a[2]?) oF fun r=>gb true (a[3]?) oF fun j=>gb true (a[4]?) oF fun k=>gb true (a[5]?) oF fun s=>gb true (pIw q) 0 fun u=>gb true (GK n e h i u some) false fun d=>gb (!(!d)) (pIw r) 0 fun v=>gb (!(!d)) (GK n e h i v some) false fun l=>gb (!(bif !d then true else (!l))) (pIw q) 0 fun x=>gb (!(bif !d then true else (!l))) (pIw r) 0 fun y=>bif (bif (bif !d then true else (!l)) then true else (x == y)) then k0 else gb true (pIw j) 0 fun b=>gb (!(decide (b<(-65536:Int)))) (pIw j) 0 fun f=>gb (!(decide (b<(-65536:Int)))) (pIw k) 0 fun g=>gb (!(bif (decide (b<(-65536:Int))) then true else (decide (f>g)))) (pIw k) 0 fun o=>gb (!(bif (bif (decide (b<(-65536:Int))) then true else (decide (f>g))) then true else (decide (o>65536)))) (pIw k) 0 fun z=>gb (!(bif (bif (decide (b<(-65536:Int))) then true else (decide (f>g))) then true else (decide (o>65536)))) (pIw j) 0 fun aa=>bif (bif (bif (bif (decide (b<(-65536:Int))) then true else (decide (f>g))) then true else (decide (o>65536))) then true else (decide ((wJ (z-aa))>=e))) then k0 else gb true (pIw s) 0 fun t=>gb (!(decide (t<0))) (pIw s) 0 fun ab=>bif (bif decide (t<0) then true else (decide (ab>1048576))) then k0 else G8 n p h2 e h i k0 k1 m (wJ (c+1)) else k1 c (decide (c<h2))
def Tf (n:Nat) (b:Int) (c a:LL) (K:Bool->oP R):oP R:= bif (bif (bif (bif decide (b<2) then true else (decide (b>7200))) then true else (decide ((c.length:Int)>48))) then true else (decide ((a.length:Int)>512))) then K false else G8 n a (a.length:Int) b c a (K false) (fun d e=>K true) n 0

def K4 (n:Nat) (h2:LL) (b c:Int) (k0:oP R) (k1:Int->Bool->oP R):Nat->Int->oP R
 | 0,_=>none
 | m+1,a=>bif decide (a<b) then gb true (Q2 h2 a) [] fun e=>gb true (e[0]?) oF fun f=>gb true (pIw f) 0 fun d=>bif (bif decide (d<0) then true else (decide (d>=c))) then k0 else K4 n h2 b c k0 k1 m (wJ (a+1)) else k1 a (decide (a<b))
def MP (n:Nat) (a:Int) (b c a1:LL) (K:Bool->oP R):oP R:= gb true (Tf n a b c some) false fun d=>bif (bif !d then true else ((a1.length:Int) != (b.length:Int))) then K false else K4 n a1 (a1.length:Int) a (K false) (fun e f=>K true) n 0

def Th (n:Nat) (b:Int) (l m a1:LL) (o c d a p q:Int) (K:Int->oP R):oP R:= gb true (Q2 a1 d) [] fun e=>gb true (e[0]?) oF fun f=>gb true (pIw f) 0 fun g=>gb true (Q2 a1 c) [] fun h=>gb true (h[0]?) oF fun i=>gb true (pIw i) 0 fun j=>gb true (P7 n (wJ ((wJ (g-j))-a)) b some) 0 fun k=>K (wJ (a+k))

def G9 (n:Nat) (h2 d:LL) (c e:Int) (f g:LL) (k0:Int->oP R) (k1:Int->Bool->oP R):Nat->Int->oP R
 | 0,_=>none
 | m+1,a=>bif decide (a<c) then gb true (Q2 d a) [] fun b=>gb true (b[0]?) oF fun i=>gb true (b[1]?) oF fun j=>gb true (b[2]?) oF fun k=>gb true (b[3]?) oF fun l=>gb true (b[4]?) oF fun h=>gb true (b[5]?) oF fun o=>gb true (pIw i) 0 fun p=>gb true (pIw j) 0 fun q=>gb true (pIw k) 0 fun r=>gb true (pIw l) 0 fun s=>gb true (pIw h) 0 fun t=>gb true (pIw o) 0 fun u=>gb true (Th n e f g h2 p q r s t u some) 0 fun v=>gb true (pIw h) 0 fun x=>bif decide (v>x) then k0 a else G9 n h2 d c e f g k0 k1 m (wJ (a+1)) else k1 a (decide (a<c))
def Rx (n:Nat) (b:Int) (c a a1:LL) (K:Int->Bool->oP R):oP R:= gb true (MP n b c a a1 some) false fun d=>bif !d then K 0 false else G9 n a1 a (a.length:Int) b c a (fun e=>K e true) (fun f g=>K 0 false) n 0

def WW (n:Nat)  (K:Bool->oP R):oP R:= gb true (Rc n  Tu3) (0,[],[]) fun a=>gb true (Rx n a.1 a.2.1 a.2.2 [[Q5 0],[Q5 7]] Tu2) (0,false) fun c=>gb true (Rc n  Tu3) (0,[],[]) fun d=>gb true (Tf n d.1 d.2.1 d.2.2 some) false fun e=>K (bif e then c.2 else false)

def T1 (n:Nat) (a0 a1 a2:Int) (K:Bool->oP R):oP R:= K (bif decide (a0>=a1) then (decide (a0<=a2)) else false)

def Uc (n:Nat) (j:Int) (l k:LL) (k0:oP R) (k1:Int->Bool->oP R):Nat->Int->oP R
 | 0,_=>none
 | m+1,h2=>bif (decide (h2<(k.length:Int))) then gb true (Q2 k h2) [] fun g=>gb true (g[0]?) oF fun aa=>gb true (g[1]?) oF fun s=>gb true (g[2]?) oF fun t=>gb true (g[3]?) oF fun o=>gb true (g[4]?) oF fun p=>gb true (g[5]?) oF fun u=>gb true (pIw s) 0 fun v=>gb true (T1 n v 0 (wJ ((l.length:Int)-1)) some) false fun a=>gb (!(!a)) (pIw t) 0 fun x=>gb (!(!a)) (T1 n x 0 (wJ ((l.length:Int)-1)) some) false fun b=>gb (!(bif !a then true else (!b))) (pIw s) 0 fun c=>gb (!(bif !a then true else (!b))) (pIw t) 0 fun d=>gb (!(bif (bif !a then true else (!b)) then true else (c == d))) (pIw o) 0 fun e=>gb (!(bif (bif (bif !a then true else (!b)) then true else (c == d)) then true else (decide (e<(-65536:Int))))) (pIw p) 0 fun f=>gb (!(bif (bif (bif (bif !a then true else (!b)) then true else (c == d)) then true else (decide (e<(-65536:Int)))) then true else (decide (f>65536)))) (pIw o) 0 fun h=>gb (!(bif (bif (bif (bif !a then true else (!b)) then true else (c == d)) then true else (decide (e<(-65536:Int)))) then true else (decide (f>65536)))) (pIw p) 0 fun i=>gb (!(bif (bif (bif (bif (bif !a then true else (!b)) then true else (c == d)) then true else (decide (e<(-65536:Int)))) then true else (decide (f>65536))) then true else (decide (h>i)))) (pIw p) 0 fun q=>gb (!(bif (bif (bif (bif (bif !a then true else (!b)) then true else (c == d)) then true else (decide (e<(-65536:Int)))) then true else (decide (f>65536))) then true else (decide (h>i)))) (pIw o) 0 fun r=>gb (!(bif (bif (bif (bif (bif (bif !a then true else (!b)) then true else (c == d)) then true else (decide (e<(-65536:Int)))) then true else (decide (f>65536))) then true else (decide (h>i))) then true else (decide ((wJ (q-r))>=j)))) (pIw u) 0 fun y=>gb (!(bif (bif (bif (bif (bif (bif !a then true else (!b)) then true else (c == d)) then true else (decide (e<(-65536:Int)))) then true else (decide (f>65536))) then true else (decide (h>i))) then true else (decide ((wJ (q-r))>=j)))) (T1 n y 0 1048576 some) false fun z=>bif (bif (bif (bif (bif (bif (bif (bif !a then true else (!b)) then true else (c == d)) then true else (decide (e<(-65536:Int)))) then true else (decide (f>65536))) then true else (decide (h>i))) then true else (decide ((wJ (q-r))>=j))) then true else (!z)) then k0 else Uc n j l k k0 k1 m (wJ (h2+1)) else k1 h2 (decide (h2<(k.length:Int)))
def GL (n:Nat) (a:Int) (b c:LL) (K:Bool->oP R):oP R:= gb true (T1 n a 2 7200 some) false fun d=>bif (bif (bif !d then true else (decide ((b.length:Int)>48))) then true else (decide ((c.length:Int)>512))) then K false else Uc n a b c (K false) (fun e f=>K true) n 0

def Xd (n:Nat) (i:LL) (a h:Int) (j:LL) (k0:Bool->Int->Bool->oP R):Nat->Bool->Int->oP R
 | 0,_,_=>none
 | m+1,b,f=>bif decide (f<h) then gb true (Q2 j f) [] fun d=>gb true (d[0]?) oF fun k=>gb true (d[1]?) oF fun l=>gb true (d[2]?) oF fun o=>gb true (d[3]?) oF fun p=>gb true (d[4]?) oF fun u=>gb true (d[5]?) oF fun v=>gb (!b) (pIw k) 0 fun c=>gb ((!b)&&(c == 1)) (pIw l) 0 fun e=>gb ((!b)&&(bif (c == 1) then (e == (wJ (2*a))) else false)) (pIw o) 0 fun g=>gb ((!b)&&(bif (bif (c == 1) then (e == (wJ (2*a))) else false) then (g == (wJ ((wJ (2*a))+1))) else false)) (pIw p) 0 fun q=>gb ((!b)&&(bif (bif (c == 1) then (e == (wJ (2*a))) else false) then (g == (wJ ((wJ (2*a))+1))) else false)) (Q2 i a) [] fun r=>gb ((!b)&&(bif (bif (c == 1) then (e == (wJ (2*a))) else false) then (g == (wJ ((wJ (2*a))+1))) else false)) (r[0]?) oF fun s=>gb ((!b)&&(bif (bif (c == 1) then (e == (wJ (2*a))) else false) then (g == (wJ ((wJ (2*a))+1))) else false)) (pIw s) 0 fun t=>Xd n i a h j k0 m (bif b then true else (bif (bif (bif (c == 1) then (e == (wJ (2*a))) else false) then (g == (wJ ((wJ (2*a))+1))) else false) then (q == t) else false)) (wJ (f+1)) else k0 b f (decide (f<h))
def Qs (n:Nat) (g:LL) (d:Int) (e f:LL) (k0:oP R) (k1:Int->Bool->oP R):Nat->Int->oP R
 | 0,_=>none
 | m+1,a=>bif decide (a<d) then Xd n g a (f.length:Int) f (fun b o p=>gb (!(!b)) (Q2 e (wJ (2*a))) [] fun h=>gb (!(!b)) (h[0]?) oF fun i=>gb (!(!b)) (pIw i) 0 fun c=>gb (!(bif !b then true else (c != 1))) (Q2 e (wJ ((wJ (2*a))+1))) [] fun j=>gb (!(bif !b then true else (c != 1))) (j[0]?) oF fun k=>gb (!(bif !b then true else (c != 1))) (pIw k) 0 fun l=>bif (bif (bif !b then true else (c != 1)) then true else (l != 2)) then k0 else Qs n g d e f k0 k1 m (wJ (a+1))) n false 0 else k1 a (decide (a<d))
def law11_NetworkBuildIsValid (n:Nat) (a0:LL) (K:Bool->oP R):oP R:= gb true (RZ n a0 Tu12) ([],[],[],[],0,[],[],[],[],[],[],[]) fun a=>gb true (Wd n a.1 a.2.1 a.2.2.1 a.2.2.2.1 a.2.2.2.2.1 a.2.2.2.2.2.1 a.2.2.2.2.2.2.1 a.2.2.2.2.2.2.2.1 a.2.2.2.2.2.2.2.2.1 a.2.2.2.2.2.2.2.2.2.1 a.2.2.2.2.2.2.2.2.2.2.1 a.2.2.2.2.2.2.2.2.2.2.2 Tu4) (0,[],[],0) fun b=>bif (b.2.2.2 != 0) then gb true (WW n  some) false fun e=>K (bif (bif e then (bif (b.2.2.2 == 13) then true else (b.2.2.2 == 7)) else false) then ((b.2.1.length:Int) == 0) else false) else gb true (Jl n a.1 a.2.1 a.2.2.1 a.2.2.2.1 a.2.2.2.2.1 a.2.2.2.2.2.1 a.2.2.2.2.2.2.1 a.2.2.2.2.2.2.2.1 a.2.2.2.2.2.2.2.2.1 a.2.2.2.2.2.2.2.2.2.1 a.2.2.2.2.2.2.2.2.2.2.1 a.2.2.2.2.2.2.2.2.2.2.2 Tu3) ([],[],0) fun c=>gb (!((b.2.1.length:Int) != (wJ (2*(c.2.1.length:Int))))) (GL n b.1 b.2.1 b.2.2.1 some) false fun f=>bif (bif ((b.2.1.length:Int) != (wJ (2*(c.2.1.length:Int)))) then true else (!f)) then K false else Qs n c.2.1 (c.2.1.length:Int) b.2.1 b.2.2.1 (K false) (fun o p=>gb true (WW n  some) false fun m=>K m) n 0

end Go.Vx
namespace Go.Vx





abbrev Ac:=Int × Int × Int × Int × Int × Int
def Cb (q:Ac):List D:=[Q5 q.1,Q5 q.2.1,Q5 q.2.2.1,Q5 q.2.2.2.1,Q5 q.2.2.2.2.1,Q5 q.2.2.2.2.2]
structure AcOK (per:Int) (N:Nat) (q:Ac):Prop where
 f0:0<=q.2.1
 f1:q.2.1<N
 t0:0<=q.2.2.1
 t1:q.2.2.1<N
 ft:q.2.1≠q.2.2.1
 m0:0<=q.2.2.2.1
 m1:q.2.2.2.1<=q.2.2.2.2.1
 m2:q.2.2.2.2.1<q.2.2.2.1+per
 m3:q.2.2.2.2.1<=10000
 w0:0<=q.2.2.2.2.2
 w1:q.2.2.2.2.2<=10
theorem Q3V {P:Ac->Prop}:∀ {A:LL},(∀ r∈A,∃ q,r=Cb q/\P q)->∃ L:List Ac,A=L.map Cb/\∀ q∈L,P q
 |[],_=>⟨[],rfl,fun _ h=>(nomatch h)⟩
 |r::A,h=>by
  obtain ⟨q,rfl,hq⟩:=h r (.head _);obtain ⟨L,rfl,hL⟩:=Q3V fun r hr=>h r (.tail _ hr)
  refine ⟨q::L,rfl,fun p hp=>?_⟩;cases hp with
  |head=>exact hq
  |tail _ hp=>exact hL p hp
section
variable {q:Ac}
theorem a0:(Cb q)[0]? = some (Q5 q.1):=rfl
theorem a1:(Cb q)[1]? = some (Q5 q.2.1):=rfl
theorem a2:(Cb q)[2]? = some (Q5 q.2.2.1):=rfl
theorem a3:(Cb q)[3]? = some (Q5 q.2.2.2.1):=rfl
theorem a4:(Cb q)[4]? = some (Q5 q.2.2.2.2.1):=rfl
theorem a5:(Cb q)[5]? = some (Q5 q.2.2.2.2.2):=rfl
end
section
variable {R:Type} {n:Nat} {per:Int} (p0:2<=per) (p1:per<=300) {E:LL} (hE:E.length<=48) {L:List Ac} (hL:L.length<=300) (hq:∀ q∈L,AcOK per E.length q)
include p0 p1 hE hL hq
theorem Q8I:GL 400 per E (L.map Cb) (some:Bool->Option Bool)=some true:=by
 have ak:∀ {x lo hi:Int},lo<=x->x<=hi->T1 400 x lo hi (some:Bool->Option Bool)=some true:=fun a b=>by
  unfold T1;rw [decide_eq_true a,decide_eq_true b];rfl
 unfold GL;rw [ak p0 (show per<=7200 by omega),Q0,List.length_map,show decide (((E.length:Nat):Int)>48)=false from decide_eq_false (by omega),show decide (((L.length:Nat):Int)>512)=false from decide_eq_false (by omega),Q8 (by rfl)];refine QX (r:=fun m j=>Uc 400 per E (L.map Cb) (some false) (fun _ _=>some true) m j) (N:=L.length) (fun m j hj=>?_) (fun m=>?_) L.length 400 0 (by omega) (by omega)
 ·obtain ⟨q,e⟩:∃ q,L[j]? = some q:=⟨L[j],Qdz hj⟩;obtain ⟨f0,f1,t0,t1,ft,m0,m1,m2,m3,w0,w1⟩:=hq q (Qdx e);have hw:wJ (((E.length:Nat):Int)-1)=((E.length-1:Nat):Int):=Vu (by omega) (by omega);rw [Uc,List.length_map,Qr hj,QdJ,XF e,hw];simp -implicitDefEqProofs only [Q0,a0,a1,a2,a3,a4,a5,Q3,Xi (show j<=1000 by omega),ak f0 (show q.2.1<=((E.length-1:Nat):Int) by omega),ak t0 (show q.2.2.1<=((E.length-1:Nat):Int) by omega),ak w0 (show q.2.2.2.2.2<=1048576 by omega),Bool.not_true,QdC,show (q.2.1 == q.2.2.1)=false by simpa using ft,show decide (q.2.2.2.1 < -65536)=false from decide_eq_false (by omega),show decide (q.2.2.2.2.1>65536)=false from decide_eq_false (by omega),show decide (q.2.2.2.1>q.2.2.2.2.1)=false from decide_eq_false (by omega),Qi (x:=q.2.2.2.2.1-q.2.2.2.1) (by omega) (by omega),show decide (q.2.2.2.2.1-q.2.2.2.1>=per)=false from decide_eq_false (by omega)]
 ·rw [Uc,List.length_map,Xb,QdC]
end
section
variable {R:Type} {n:Nat} {per:Int} (p0:2<=per) (p1:per<=300) {E:LL} (hE:E.length<=48) {L:List Ac} (hL:L.length<=300) (hq:∀ q∈L,AcOK per E.length q) {T:List Int} (hT:T.length=E.length) (ht:∀ x∈T,0<=x/\x<per)
include p0 p1 hE hL hq hT ht
end
section
variable {per:Int} {E:LL} {L:List Ac} (hL:L.length<=300)
include hL
end
theorem Q6o:WW 400 (some:Bool->Option Bool)=some true:=by kernel_rfl

section
variable {R:Type} {n:Nat} {t:Int}
theorem VS.app {t t':Int} {a b:Int}:∀ {l:Int} {M:List Sp2},VS t l M->(∀ q∈M,q.2<a)->l<a->a<b->b<=t'->t<=t'->VS t' l (M++[(a,b)])
 |l,[],_,_,e,h2,f,_=>⟨e,h2,f,trivial⟩
 |l,(c,d)::M,⟨e,h2,f,g⟩,hq,g1,i,j,k=>⟨e,h2,by omega,g.app (fun q h=>hq q (.tail _ h)) (hq (c,d) (.head _)) i j k⟩
theorem VS.ext {t t':Int} {c d d':Int}:∀ {l:Int} {M:List Sp2},VS t l (M++[(c,d)])->d<=d'->d'<=t'->t<=t'->VS t' l (M++[(c,d')])
 |l,[],⟨e,h2,h,_⟩,g1,f,g=>⟨e,by omega,f,trivial⟩
 |l,(a,b)::M,⟨e,h2,h,i⟩,g1,f,g=>⟨e,h2,by omega,i.ext g1 f g⟩
end

theorem GI.lt {X:Cx} {f k:Nat} {r:List D} (h:GI X.Ls f k r):f<X.Ls.length/\k<X.nr f:=by
 obtain ⟨nm,w,rides,a,h2⟩:=h;refine ⟨(Qdw.1 a).1,?_⟩;have e:TP X.Ls f=rides:=by unfold TP;rw [a]
 unfold Cx.nr;rw [e];exact (Qdw.1 h2).1
theorem PlanR.lsOK {X:Cx} {per:Int} {Sk Ch Tu Sy De:LL} (h:PlanR X.G per Sk X.Ro X.Ls Ch Tu Sy De):X.LsOK per Ch Sy where
 ch:=fun row hr=>by
  obtain ⟨f,fr,t,tr,mn,mx,w,r,r',x,y,x',y',b,b',i,e,a,h2,g,j,k,c,d,_⟩:=h.ch row hr;exact ⟨f,fr,t,tr,mn,mx,w,e,a.lt.1,a.lt.2,h2.lt.1,h2.lt.2,c,d⟩
 chl:=h.chl
 sy:=fun row hr=>h.sy row hr
 syl:=h.syl
namespace Cx
variable {X:Cx} (h:X.OK) {per:Int} {Ch Sy De:LL} (hl:X.LsOK per Ch Sy) (p0:90<=per) (p1:per<=300)
theorem Q6U {i:Nat} {r:List D}:∀ {K:Nat},r∈X.pl i K↔∃ k,k<K/\(r=X.aR i k\/(k<X.nr i-1/\r=X.aD i k))
 |0=>⟨fun h=>(nomatch h),fun ⟨_,h,_⟩=>by omega⟩
 |K+1=>by
  rw [pl,Qdy,Qdy,Q6U];constructor
  ·rintro ((⟨k,a,h2⟩ | h) | h)
   ·exact ⟨k,by omega,h2⟩
   ·exact ⟨K,by omega,.inl (List.mem_singleton.1 h)⟩
   ·by_cases hc:K<X.nr i-1
    ·rw [if_pos hc] at h;exact ⟨K,by omega,.inr ⟨hc,List.mem_singleton.1 h⟩⟩
    ·rw [if_neg hc] at h;nomatch h
  ·rintro ⟨k,a,h2⟩;by_cases hk:k=K
   ·subst hk;rcases h2 with h2 | ⟨h2,b⟩
    ·exact .inl (.inr (List.mem_singleton.2 h2))
    ·rw [if_pos h2];exact .inr (List.mem_singleton.2 b)
   ·exact .inl (.inl ⟨k,by omega,h2⟩)
theorem pls_mem {r:List D}:∀ {L:Nat},r∈X.pls L↔∃ i k,i<L/\k<X.nr i/\(r=X.aR i k\/(k<X.nr i-1/\r=X.aD i k))
 |0=>⟨fun h=>(nomatch h),fun ⟨_,_,h,_⟩=>by omega⟩
 |L+1=>by
  rw [pls,Qdy,pls_mem,Q6U];constructor
  ·rintro (⟨i,k,a,h2⟩ | ⟨k,a,h2⟩)
   ·exact ⟨i,k,by omega,h2⟩
   ·exact ⟨L,k,by omega,a,h2⟩
  ·rintro ⟨i,k,a,h2,b⟩;by_cases hi:i=L
   ·subst hi;exact .inr ⟨k,h2,b⟩
   ·exact .inl ⟨i,k,by omega,h2,b⟩
theorem L7 {i k:Nat} (hi:i<X.Ls.length) (hk:k<X.nr i):base X.nr i+k<X.N:=by
 have:=Pj (nr:=X.nr) (i:=i) (j:=X.L) hi;unfold N;omega
include h hl p0 p1
theorem Q34:∀ r∈X.planned Ch Sy,∃ q,r=Cb q/\AcOK per (2*X.N) q/\q.1≠6:=by
 intro r hr;unfold planned at hr;rw [Qdy,Qdy,Qdy,pls_mem,List.mem_map,List.mem_map,List.mem_map] at hr;rcases hr with ((⟨i,k,a,h2,c | ⟨l,c⟩⟩ | ⟨row,a,h2⟩) | ⟨t,a,h2⟩) | ⟨row,a,h2⟩
 ·have r:=rd h a h2;have hr:=Q16 h a h2;have hw:=(MC h a).2.2;have hn:=L7 a h2;have m:=r.ex0;have e1:=r.ex1;refine ⟨(1,((2*(base X.nr i+k):Nat):Int),((2*(base X.nr i+k)+1:Nat):Int),X.run i k,X.run i k+X.ex i k,X.w i),c,?_,(by decide:(1:Int)≠6)⟩;constructor <;> dsimp only <;> omega
 ·have r:=rd h a h2;have hw:=(MC h a).2.2;have hn:=L7 (X:=X) a (show k+1<X.nr i by omega);have e2:=r.mn0;have n:=r.mn1;have p:=r.mn2;have s:=r.mn3;refine ⟨(2,((2*(base X.nr i+k)+1:Nat):Int),((2*(base X.nr i+k+1):Nat):Int),X.mn i k,X.mx i k,X.w i),c,?_,(by decide:(2:Int)≠6)⟩;constructor <;> dsimp only <;> omega
 ·obtain ⟨f,fr,t,tr,mn,mx,w,rfl,g1,b,d,j,u,v⟩:=hl.ch row a;have e:=L7 g1 b;have g:=L7 d j;refine ⟨(3,((2*(base X.nr f+fr)+1:Nat):Int),((2*(base X.nr t+tr):Nat):Int),mn,mx,w),h2.symm,?_,(by decide:(3:Int)≠6)⟩;constructor <;> dsimp only <;> omega
 ·have ht:=h.tr t a;have g1:=ht.1;have b:=ht.2.1;have t1:=ht.2.2.1;have t2:=ht.2.2.2.1;have x:=ht.2.2.2.2.1;have y:=ht.2.2.2.2.2.1;have m1:=(MC h g1).2.1;have m2:=(MC h b).2.1;have e:=L7 g1 (show X.nr t.1-1<X.nr t.1 by omega);have g:=L7 b (show 0<X.nr t.2.1 by omega);refine ⟨(4,((2*(base X.nr t.1+(X.nr t.1-1))+1:Nat):Int),((2*(base X.nr t.2.1+0):Nat):Int),t.2.2.1,t.2.2.2,1),h2.symm,?_,(by decide:(4:Int)≠6)⟩;constructor <;> dsimp only <;> omega
 ·obtain ⟨o,rfl,g1,b,d⟩:=hl.sy row a;have m1:=(MC h (show 0<X.Ls.length by omega)).2.1;have m2:=(MC h (show 1<X.Ls.length by omega)).2.1;have e:=L7 (X:=X) (show 0<X.Ls.length by omega) (show 0<X.nr 0 by omega);have g:=L7 (X:=X) (show 1<X.Ls.length by omega) (show 0<X.nr 1 by omega);have b1:base X.nr 1=X.nr 0:=by simp [base]
  have b0:base X.nr 0=0:=rfl;refine ⟨(5,((2*(base X.nr 0+0):Nat):Int),((2*(base X.nr 1+0):Nat):Int),o,o,0),h2.symm,?_,(by decide:(5:Int)≠6)⟩;constructor <;> dsimp only <;> omega
theorem acts_ok {H:LL} (hH:X.HdOK per (fun a b=>0<=a/\a<b/\b<X.N) H):∃ L:List Ac,X.planned Ch Sy++H=L.map Cb/\∀ q∈L,AcOK per (2*X.N) q:=by
 refine Q3V fun r hr=>?_
 rcases Qdy.1 hr with hr | hr
 ·obtain ⟨q,e,hq,_⟩:=Q34 h hl p0 p1 r hr;exact ⟨q,e,hq⟩
 ·obtain ⟨a,b,w,hs,e,g1,c,d,f⟩:=hH.row r hr;refine ⟨(6,((2*a:Nat):Int),((2*b:Nat):Int),w.1,w.2,0),e,?_⟩;constructor <;> dsimp only <;> omega
end Cx
theorem Q61 {p q:Ac} (e:Cb p=Cb q):p=q:=by
 obtain ⟨a,b,c,d,f,g⟩:=p;obtain ⟨a',b',c',d',f',g'⟩:=q;unfold Cb at e;simp only [List.cons.injEq,D.int.injEq,true_and,and_true] at e;obtain ⟨e1,e2,h,i,j,k⟩:=e;subst e1 e2 h i j k;rfl

def Qb1 (St Pt Se Li:LL) (per:Int) (Sk Ro Ls Ch Tu Sy De:LL):Option Bool:=
 gb true (Wd 400 St Pt Se Li per Sk Ro Ls Ch Tu Sy De Tu4) (0,[],[],0) fun a=>
 bif (a.2.2.2 != (0:Int)) then
  gb true (WW 400 some) false fun e=>
  some (bif (bif e then (bif (a.2.2.2 == (13:Int)) then true else (a.2.2.2 == (7:Int))) else false) then (((List.length a.2.1:Nat):Int) == (0:Int)) else false)
 else
  gb true (Jl 400 St Pt Se Li per Sk Ro Ls Ch Tu Sy De Tu3) ([],[],0) fun b=>
  gb (!(((List.length a.2.1:Nat):Int) != (wJ ((2:Int)*((List.length b.2.1:Nat):Int))))) (GL 400 a.1 a.2.1 a.2.2.1 some) false fun f=>
  bif (bif (((List.length a.2.1:Nat):Int) != (wJ ((2:Int)*((List.length b.2.1:Nat):Int)))) then true else (!f)) then
   some false
  else
   Qs 400 b.2.1 ((List.length b.2.1:Nat):Int) a.2.1 a.2.2.1
    (some false)
    (fun h i=>
    gb true (WW 400 some) false fun g=>
    some g)
    400 (0:Int)
theorem Q6R {R:Type} {L:List Ac} (hL:L.length<=300) {rs:List Int} {a:Nat} (ha:a<=100) {x:Int} (hx:rs[a]? = some x) {Kz:Bool->oP R} {k0:Bool->Int->Bool->oP R} (hk:∀ z b c,k0 z b c=Kz z):∀ (ak:List Ac) (j m:Nat) (z:Bool),L.drop j=ak->ak.length<m->∃ z',Xd 400 (encI rs) (a:Int) ((L.length:Nat):Int) (L.map Cb) k0 m z (j:Int)=Kz z'/\((z=true\/∃ q∈ak,q.1=1/\q.2.1=2*a/\q.2.2.1=2*a+1/\q.2.2.2.1=x)->z'=true)
 |[],j,m+1,z,hd,_=>by
  have:=ZG hd;refine ⟨z,?_,fun h=>h.elim id fun ⟨_,h,_⟩=>(nomatch h)⟩;rw [Xd,show decide ((j:Int)<((L.length:Nat):Int))=false by simpa using this,QdC,hk]
 |q::ak,j,m+1,z,hd,hm=>by
  obtain ⟨e,ao,hj⟩:=Ym hd;have am:Q2 (encI rs) (a:Int)=some [Q5 x]:=Fg hx;rw [Xd,Qr hj,QdJ,XF e,am];simp -implicitDefEqProofs only [Q0,a0,a1,a2,a3,a4,a5,Qdv,Q3,Xi (show j<=1000 by omega),Qi (x:=2*(a:Int)) (by omega) (by omega),Qi (x:=2*(a:Int)+1) (by omega) (by omega)];obtain ⟨z',d,h2⟩:=Q6R hL ha hx hk ak (j+1) m (bif z then true else bif bif bif q.1 == 1 then q.2.1 == 2*(a:Int) else false then q.2.2.1 == 2*(a:Int)+1 else false then q.2.2.2.1 == x else false) ao (by simpa using hm);refine ⟨z',d,fun h=>h2 ?_⟩;rcases h with rfl | ⟨p,hp,hq⟩
  ·exact .inl rfl
  ·cases hp with
   |head=>
    obtain ⟨g1,f,g,i⟩:=hq;rw [g1,f,g,i];left;cases z <;> simp
   |tail _ hp=>exact .inr ⟨p,hp,hq⟩
theorem Q7t {G:Geo} {per:Int} {Sk Ro Ls Ch Tu Sy De:LL} (hp:PlanR G per Sk Ro Ls Ch Tu Sy De):Qb1 G.St G.Pt G.Se G.Li per Sk Ro Ls Ch Tu Sy De=some true:=by
 have hc:UC 400 G.St G.Pt G.Se G.Li per Sk Ro Ls Ch Tu Sy De (some:Int->Option Int)=some 0:=Q7k hp some;have s:=Qax hp;have p0:=hp.p0;have p1:=hp.p1;obtain ⟨X,h,rfl,rfl,rfl,rfl,rfl⟩:=hp.cx;have hl:=hp.lsOK;have hN:X.N<=6:=Cx.base_le h;have hE:(X.evs X.L).length=2*X.N:=Cx.evs_len;have hr:(encI (X.runs X.L)).length=X.N:=by rw [GR];exact WO
 unfold Qb1;rcases Cx.buildP h hl (De:=De) (by omega) p1 hc with ⟨e,he,hb⟩ | ⟨H,hH,ak,hb⟩
 ·rw [show Wd 400 X.G.St X.G.Pt X.G.Se X.G.Li per [[D.str X.nm,Q5 X.tl,Q5 X.sp,Q5 X.ac,Q5 X.br]] X.Ro X.Ls Ch (X.T.map tuR) Sy De Tu4=_ from hb,Q0];dsimp only;rw [Q6o,Q0];rcases he with rfl | rfl <;> rfl
 ·obtain ⟨L,hA,hL⟩:=Cx.acts_ok h hl p0 p1 hH;rw [hA] at hb ak;rw [List.length_map] at ak;rw [show Wd 400 X.G.St X.G.Pt X.G.Se X.G.Li per [[D.str X.nm,Q5 X.tl,Q5 X.sp,Q5 X.ac,Q5 X.br]] X.Ro X.Ls Ch (X.T.map tuR) Sy De Tu4=_ from hb,Q0];dsimp only;rw [Q8 (by rfl),show Jl 400 X.G.St X.G.Pt X.G.Se X.G.Li per [[D.str X.nm,Q5 X.tl,Q5 X.sp,Q5 X.ac,Q5 X.br]] X.Ro X.Ls Ch (X.T.map tuR) Sy De Tu3=_ from Cx.ridesQ h s,Q0];dsimp only;rw [hr,hE,Qi (x:=2*((X.N:Nat):Int)) (by omega) (by omega),show (((2*X.N:Nat):Int) != 2*((X.N:Nat):Int))=false by simp,Q8I (by omega) p1 (by omega) ak (by rw [hE];exact hL),Q0,Q8 (by rfl)];refine QX (r:=fun m a=>Qs 400 (encI (X.runs X.L)) ((X.N:Nat):Int) (X.evs X.L) (L.map Cb) (some false) (fun o p=>gb true (WW 400 some) false fun j=>some j) m a) (N:=X.N) (fun m a ha=>?_) (fun m=>?_) X.N 400 0 (by omega) (by omega)
  ·obtain ⟨i,k,n,h2,rfl⟩:=Fk ha;have an:(X.runs X.L)[base X.nr i+k]? = some (X.run i k):=NZ h2 n;have am:=Cx.evs_at h2 n;obtain ⟨z,g1,t⟩:=Q6R ak (rs:=X.runs X.L) (a:=base X.nr i+k) (by omega) an (Kz:=fun z=>bif (bif (!z) then true else false) then (some false:Option Bool) else Qs 400 (encI (X.runs X.L)) ((X.N:Nat):Int) (X.evs X.L) (L.map Cb) (some false) (fun o p=>gb true (WW 400 some) false fun j=>some j) m ((base X.nr i+k+1:Nat):Int)) (k0:=fun z _ _=>bif (bif (!z) then true else false) then (some false:Option Bool) else Qs 400 (encI (X.runs X.L)) ((X.N:Nat):Int) (X.evs X.L) (L.map Cb) (some false) (fun o p=>gb true (WW 400 some) false fun j=>some j) m ((base X.nr i+k+1:Nat):Int)) (fun _ _ _=>rfl) L 0 400 false rfl (by omega);have hz:z=true:=t (.inr (by
    have hm:X.aR i k∈X.planned Ch Sy++H:=by
     unfold Cx.planned;rw [Qdy,Qdy,Qdy,Qdy];exact .inl (.inl (.inl (.inl (Cx.pls_mem.2 ⟨i,k,n,h2,.inl rfl⟩))))
    rw [hA] at hm;obtain ⟨q,hq,e⟩:=List.mem_map.1 hm;have:=Q61 (q:=(1,((2*(base X.nr i+k):Nat):Int),((2*(base X.nr i+k)+1:Nat):Int),X.run i k,X.run i k+X.ex i k,X.w i)) e;subst this;exact ⟨_,hq,rfl,by dsimp only;omega,by dsimp only;omega,rfl⟩))
   subst hz;have u:Q2 (X.evs X.L) (2*((base X.nr i+k:Nat):Int))=some [Q5 1,Q5 i,Q5 k]:=by rw [show 2*((base X.nr i+k:Nat):Int)=((2*(base X.nr i+k):Nat):Int) by omega,Qm];exact am.1
   have v:Q2 (X.evs X.L) (2*((base X.nr i+k:Nat):Int)+1)=some [Q5 2,Q5 i,Q5 k]:=by rw [show 2*((base X.nr i+k:Nat):Int)+1=((2*(base X.nr i+k)+1:Nat):Int) by omega,Qm];exact am.2
   rw [Qs,Qr ha,QdJ,Qi (x:=2*((base X.nr i+k:Nat):Int)) (by omega) (by omega),Qi (x:=2*((base X.nr i+k:Nat):Int)+1) (by omega) (by omega),u,v,Xi (by omega)];simp -implicitDefEqProofs only [Q0,Qdv,Q3,List.length_map,show ((1:Int) != 1)=false from rfl,show ((2:Int) != 2)=false from rfl];refine Eq.trans ?_ (g1.trans ?_)
   ·congr 1;funext z b c;cases z <;> rfl
   ·rfl
  ·rw [Qs,Xb,QdC,Q6o,Q0]
theorem buildIsValidA {l:List Int} (hl:l.length<=9223372036854775807):law11_NetworkBuildIsValid 400 (encI l) some=some true:=by
 refine okS ?_;unfold law11_NetworkBuildIsValid;exact okB (QaJ hl fun G per Sk Ro Ls Ch Tu Sy De h=>okI ⟨true,Q7t h,rfl⟩)

end Go.Vx
namespace Go.Vx
open Go.Proofs
abbrev nT:List (LpE Tryz.prog):=[]
def gtt:TT:=[(3,⟨.int .i64,1,8,[.int .i64 0],[.int .i64 0],[],none⟩),(4,⟨.bool,1,1,[.bool false],[.bool false],[],none⟩),(5,⟨.int .u8,1,1,[.int .u8 0],[.int .u8 0],[],none⟩),(9,⟨.str,1,16,[.string ⟨#[]⟩],[.str []],[],none⟩),(22,⟨.sl 3 1,1,24,[.slice none 0 0],[.sl 1 []],[],none⟩),(23,⟨.sl 9 1,1,24,[.slice none 0 0],[.sl 1 []],[],none⟩),(24,⟨.sl 86 5,1,24,[.slice none 0 0],[.sl 5 []],[],none⟩),(25,⟨.sl 176 6,1,24,[.slice none 0 0],[.sl 6 []],[],none⟩),(27,⟨.struct,4,96,[.slice none 0 0,.slice none 0 0,.slice none 0 0,.slice none 0 0],[.sl 1 [],.sl 1 [],.sl 5 [],.sl 6 []],[(0,23),(1,23),(2,24),(3,25)],none⟩),(28,⟨.sl 73 5,1,24,[.slice none 0 0],[.sl 5 []],[],none⟩),(29,⟨.sl 111 2,1,24,[.slice none 0 0],[.sl 2 []],[],none⟩),(30,⟨.sl 84 4,1,24,[.slice none 0 0],[.sl 4 []],[],none⟩),(31,⟨.sl 81 7,1,24,[.slice none 0 0],[.sl 7 []],[],none⟩),(32,⟨.sl 104 4,1,24,[.slice none 0 0],[.sl 4 []],[],none⟩),(33,⟨.sl 89 5,1,24,[.slice none 0 0],[.sl 5 []],[],none⟩),(34,⟨.sl 91 3,1,24,[.slice none 0 0],[.sl 3 []],[],none⟩),(36,⟨.struct,8,176,[.int .i64 0,.slice none 0 0,.slice none 0 0,.slice none 0 0,.slice none 0 0,.slice none 0 0,.slice none 0 0,.slice none 0 0],[.int .i64 0,.sl 5 [],.sl 2 [],.sl 4 [],.sl 7 [],.sl 4 [],.sl 5 [],.sl 3 []],[(0,3),(1,28),(2,29),(3,30),(4,31),(5,32),(6,33),(7,34)],none⟩),(39,⟨.sl 54 3,1,24,[.slice none 0 0],[.sl 3 []],[],none⟩),(40,⟨.sl 52 6,1,24,[.slice none 0 0],[.sl 6 []],[],none⟩),(42,⟨.struct,3,56,[.int .i64 0,.slice none 0 0,.slice none 0 0],[.int .i64 0,.sl 3 [],.sl 6 []],[(0,3),(1,39),(2,40)],none⟩),(43,⟨.int .i64,1,8,[.int .i64 0],[.int .i64 0],[],none⟩),(47,⟨.sl 62 1,1,24,[.slice none 0 0],[.sl 1 []],[],none⟩),(52,⟨.struct,6,48,[.int .i64 0,.int .i64 0,.int .i64 0,.int .i64 0,.int .i64 0,.int .i64 0],[.int .i64 0,.int .i64 0,.int .i64 0,.int .i64 0,.int .i64 0,.int .i64 0],[(0,3),(1,3),(2,3),(3,3),(4,3),(5,3)],some [.int .i64,.int .i64,.int .i64,.int .i64,.int .i64,.int .i64]⟩),(54,⟨.struct,3,24,[.int .i64 0,.int .i64 0,.int .i64 0],[.int .i64 0,.int .i64 0,.int .i64 0],[(0,3),(1,3),(2,3)],some [.int .i64,.int .i64,.int .i64]⟩),(59,⟨.sl 119 2,1,24,[.slice none 0 0],[.sl 2 []],[],none⟩),(62,⟨.sl 142 3,1,24,[.slice none 0 0],[.sl 3 []],[],none⟩),(73,⟨.struct,5,48,[.string ⟨#[]⟩,.int .i64 0,.int .i64 0,.int .i64 0,.int .i64 0],[.str [],.int .i64 0,.int .i64 0,.int .i64 0,.int .i64 0],[(0,9),(1,3),(2,3),(3,3),(4,3)],some [.str,.int .i64,.int .i64,.int .i64,.int .i64]⟩),(76,⟨.sl 22 1,1,24,[.slice none 0 0],[.sl 1 []],[],none⟩),(78,⟨.struct,7,168,[.slice none 0 0,.slice none 0 0,.slice none 0 0,.slice none 0 0,.slice none 0 0,.slice none 0 0,.slice none 0 0],[.sl 1 [],.sl 1 [],.sl 5 [],.sl 6 [],.sl 1 [],.sl 1 [],.sl 1 []],[(0,27),(4,76),(5,76),(6,76)],none⟩),(81,⟨.struct,7,56,[.int .i64 0,.int .i64 0,.int .i64 0,.int .i64 0,.int .i64 0,.int .i64 0,.int .i64 0],[.int .i64 0,.int .i64 0,.int .i64 0,.int .i64 0,.int .i64 0,.int .i64 0,.int .i64 0],[(0,3),(1,3),(2,3),(3,3),(4,3),(5,3),(6,3)],some [.int .i64,.int .i64,.int .i64,.int .i64,.int .i64,.int .i64,.int .i64]⟩),(82,⟨.sl 102 4,1,24,[.slice none 0 0],[.sl 4 []],[],none⟩),(84,⟨.struct,4,56,[.string ⟨#[]⟩,.int .i64 0,.int .i64 0,.slice none 0 0],[.str [],.int .i64 0,.int .i64 0,.sl 4 []],[(0,9),(1,3),(2,3),(3,82)],none⟩),(86,⟨.struct,5,48,[.string ⟨#[]⟩,.int .i64 0,.int .i64 0,.int .i64 0,.int .i64 0],[.str [],.int .i64 0,.int .i64 0,.int .i64 0,.int .i64 0],[(0,9),(1,3),(2,3),(3,3),(4,3)],some [.str,.int .i64,.int .i64,.int .i64,.int .i64]⟩),(89,⟨.struct,5,40,[.int .i64 0,.int .i64 0,.int .i64 0,.int .i64 0,.int .i64 0],[.int .i64 0,.int .i64 0,.int .i64 0,.int .i64 0,.int .i64 0],[(0,3),(1,3),(2,3),(3,3),(4,3)],some [.int .i64,.int .i64,.int .i64,.int .i64,.int .i64]⟩),(91,⟨.struct,3,24,[.int .i64 0,.int .i64 0,.int .i64 0],[.int .i64 0,.int .i64 0,.int .i64 0],[(0,3),(1,3),(2,3)],some [.int .i64,.int .i64,.int .i64]⟩),(93,⟨.ptr,1,8,[.pointer none],[],[],none⟩),(94,⟨.sl 139 4,1,24,[.slice none 0 0],[.sl 4 []],[],none⟩),(96,⟨.struct,19,424,[.slice none 0 0,.slice none 0 0,.slice none 0 0,.slice none 0 0,.int .i64 0,.slice none 0 0,.slice none 0 0,.slice none 0 0,.slice none 0 0,.slice none 0 0,.slice none 0 0,.slice none 0 0,.slice none 0 0,.slice none 0 0,.slice none 0 0,.slice none 0 0,.int .i64 0,.slice none 0 0,.slice none 0 0],[.sl 1 [],.sl 1 [],.sl 5 [],.sl 6 [],.int .i64 0,.sl 5 [],.sl 2 [],.sl 4 [],.sl 7 [],.sl 4 [],.sl 5 [],.sl 3 [],.sl 1 [],.sl 1 [],.sl 1 [],.sl 4 [],.int .i64 0,.sl 3 [],.sl 6 []],[(0,27),(4,36),(12,22),(13,47),(14,22),(15,94),(16,42)],none⟩),(102,⟨.struct,4,32,[.int .i64 0,.int .i64 0,.int .i64 0,.int .i64 0],[.int .i64 0,.int .i64 0,.int .i64 0,.int .i64 0],[(0,3),(1,3),(2,3),(3,3)],some [.int .i64,.int .i64,.int .i64,.int .i64]⟩),(104,⟨.struct,4,32,[.int .i64 0,.int .i64 0,.int .i64 0,.int .i64 0],[.int .i64 0,.int .i64 0,.int .i64 0,.int .i64 0],[(0,3),(1,3),(2,3),(3,3)],some [.int .i64,.int .i64,.int .i64,.int .i64]⟩),(109,⟨.sl 133 2,1,24,[.slice none 0 0],[.sl 2 []],[],none⟩),(111,⟨.struct,2,32,[.slice none 0 0,.int .i64 0],[.sl 2 [],.int .i64 0],[(0,109),(1,3)],none⟩),(114,⟨.int .u64,1,8,[.int .u64 0],[.int .u64 0],[],none⟩),(115,⟨.sl 4 1,1,24,[.slice none 0 0],[.sl 1 []],[],none⟩),(119,⟨.struct,2,16,[.int .i64 0,.int .i64 0],[.int .i64 0,.int .i64 0],[(0,3),(1,3)],some [.int .i64,.int .i64]⟩),(123,⟨.struct,2,32,[.slice none 0 0,.int .i64 0],[.sl 1 [],.int .i64 0],[(0,22),(1,3)],none⟩),(129,⟨.array 3 1 3,3,24,[.int .i64 0,.int .i64 0,.int .i64 0],[.int .i64 0,.int .i64 0,.int .i64 0],[(0,3),(1,3),(2,3)],none⟩),(131,⟨.array 4 1 4,4,4,[.bool false,.bool false,.bool false,.bool false],[.bool false,.bool false,.bool false,.bool false],[(0,4),(1,4),(2,4),(3,4)],none⟩),(133,⟨.struct,2,16,[.int .i64 0,.int .i64 0],[.int .i64 0,.int .i64 0],[(0,3),(1,3)],some [.int .i64,.int .i64]⟩),(139,⟨.struct,4,32,[.int .i64 0,.int .i64 0,.int .i64 0,.int .i64 0],[.int .i64 0,.int .i64 0,.int .i64 0,.int .i64 0],[(0,3),(1,3),(2,3),(3,3)],some [.int .i64,.int .i64,.int .i64,.int .i64]⟩),(142,⟨.struct,3,24,[.int .i64 0,.int .i64 0,.int .i64 0],[.int .i64 0,.int .i64 0,.int .i64 0],[(0,3),(1,3),(2,3)],some [.int .i64,.int .i64,.int .i64]⟩),(145,⟨.mpb,1,8,[.map none],[],[],none⟩),(147,⟨.sl 152 2,1,24,[.slice none 0 0],[.sl 2 []],[],none⟩),(152,⟨.struct,2,16,[.int .i64 0,.int .i64 0],[.int .i64 0,.int .i64 0],[(0,3),(1,3)],some [.int .i64,.int .i64]⟩),(166,⟨.struct,2,48,[.slice none 0 0,.slice none 0 0],[.sl 1 [],.sl 3 []],[(0,115),(1,62)],none⟩),(169,⟨.struct,4,32,[.int .i64 0,.int .i64 0,.int .i64 0,.int .i64 0],[.int .i64 0,.int .i64 0,.int .i64 0,.int .i64 0],[(0,133),(2,3),(3,3)],some [.int .i64,.int .i64,.int .i64,.int .i64]⟩),(176,⟨.struct,6,48,[.int .i64 0,.int .i64 0,.int .i64 0,.int .i64 0,.int .i64 0,.int .i64 0],[.int .i64 0,.int .i64 0,.int .i64 0,.int .i64 0,.int .i64 0,.int .i64 0],[(0,3),(1,3),(2,3),(3,3),(4,3),(5,3)],some [.int .i64,.int .i64,.int .i64,.int .i64,.int .i64,.int .i64]⟩),(194,⟨.sl 227 2,1,24,[.slice none 0 0],[.sl 2 []],[],none⟩),(199,⟨.sl 169 4,1,24,[.slice none 0 0],[.sl 4 []],[],none⟩),(211,⟨.struct,2,32,[.slice none 0 0,.int .i64 0],[.sl 2 [],.int .i64 0],[(0,194),(1,3)],none⟩),(214,⟨.sl 142 3,1,24,[.slice none 0 0],[.sl 3 []],[],none⟩),(223,⟨.struct,2,16,[.int .i64 0,.int .i64 0],[.int .i64 0,.int .i64 0],[(0,3),(1,3)],some [.int .i64,.int .i64]⟩),(227,⟨.struct,2,16,[.int .i64 0,.int .i64 0],[.int .i64 0,.int .i64 0],[(0,3),(1,3)],some [.int .i64,.int .i64]⟩),(231,⟨.struct,2,16,[.int .i64 0,.int .i64 0],[.int .i64 0,.int .i64 0],[(0,3),(1,3)],some [.int .i64,.int .i64]⟩),(252,⟨.struct,2,16,[.int .i64 0,.int .i64 0],[.int .i64 0,.int .i64 0],[(0,3),(1,3)],some [.int .i64,.int .i64]⟩),(257,⟨.sl 59 1,1,24,[.slice none 0 0],[.sl 1 []],[],none⟩),(266,⟨.int .u32,1,4,[.int .u32 0],[.int .u32 0],[],none⟩),(269,⟨.int .u64,1,8,[.int .u64 0],[.int .u64 0],[],none⟩),(281,⟨.int .u64,1,8,[.int .u64 0],[.int .u64 0],[],none⟩)]
theorem Q90:TOk Tryz.prog gtt:=(show Q8j Tryz.prog [3,4,5,9,22,23,24,25,27,28,29,30,31,32,33,34,36,39,40,42,43,47,52,54,59,62,73,76,78,81,82,84,86,89,91,93,94,96,102,104,109,111,114,115,119,123,129,131,133,139,142,145,147,152,166,169,176,194,199,211,214,223,227,231,252,257,266,269,281]=gtt by kernel_rfl)▸Q7r _
theorem gVC {spec:Q0y} {cfg:List (Nat × Cfg)} (h:ML Tryz.prog spec):VCOk Tryz.prog ⟨spec,gtt,cfg⟩:=⟨h,Q90,by kernel_rfl⟩
structure VB where
 C:VC
 ok:VCOk Tryz.prog C
def Q94 (l:List ((f:Nat) × EnP Tryz.prog f)):List (Nat × GC):=l.map fun e=>(e.1,e.2.E)
theorem Q2x:∀ l,Q29 Tryz.prog (Q94 l)
 | []=>trivial
 | e::r=>⟨e.2.ok,Q2x r⟩
noncomputable def Xa (l:List ((f:Nat) × EnP Tryz.prog f)) (cfg:List (Nat × Cfg)):VB:=⟨⟨Gb (Q94 l),gtt,cfg⟩,gVC (U8 (Q2x l))⟩
end Go.Vx
set_option maxRecDepth 100000
namespace Go.Vx
open Go.Proofs
noncomputable def BN (n:Nat):VB:=Xa [] [cK 0 [0],cO 1 [2] [5]]
noncomputable def Q1E (n:Nat):EnP Tryz.prog 18:=mkG (BN n).ok nT 18 Tryz.f18 [sL 1] [eP 5 2,sL 1,sI] [5] (pK (EP n))
noncomputable def Q02 (n:Nat):VB:=Xa [] [cK 0 [0,1],cK 1 [4]]
noncomputable def Q1u (n:Nat):EnP Tryz.prog 12:=mkE (Q02 n).ok nT 12 Tryz.f12 [[0]] [sI,sI] [sI] (pK (Nl n))

noncomputable def SN (n:Nat):VB:=Xa [⟨12,Q1u n⟩] [cO 0 [0,1] [1000000],cO 1 [0,1,14] [1000000],cO 2 [4] [1000000],cO 3 [0,1] [1000000],cO 4 [4] [1000000]]
noncomputable def ZW (n:Nat):EnP Tryz.prog 20:=mkG (SN n).ok nT 20 Tryz.f20 [eP 1000000 2,sL 1,sI,sI] [sI,eI 1000000 2,sL 1,sI] [] (pK (Q4 n))

noncomputable def CS (n:Nat):VB:=Xa [] [cK 0 [0,1],cK 1 [4]]
noncomputable def PE (n:Nat):EnP Tryz.prog 45:=mkE (CS n).ok nT 45 Tryz.f45 [[0]] [sT,sI] [sT] (pK (Ub n))

noncomputable def TB (n:Nat):VB:=Xa [⟨20,ZW n⟩] [cO 0 [0,1,2,6] [6,1000000],cO 1 [6] [6,1000000]]
noncomputable def PH (n:Nat):EnP Tryz.prog 46:=mkG (TB n).ok nT 46 Tryz.f46 [eP 1000000 2,sL 1,sI,sT,sI] [eA [qT,qI,qI,qI,qI],eI 1000000 2,sL 1,sI] [] (pK (Zv n))

noncomputable def TH (n:Nat):VB:=Xa [] [(0,⟨[0,3],(zp (3::rg1 1000000 8 []) (3::1000000::rg1 98000 7 [])),[],[],[]⟩),(1,⟨[0],(zp (13::98000::98001::rg1 98003 4 [1000000]) (98002::98000::98001::rg1 98003 4 [1000000])),[],[],[]⟩),cO 2 [4] (rg1 98000 7 [1000000])]
noncomputable def Pl (n:Nat):EnP Tryz.prog 47:=mkG (TH n).ok nT 47 Tryz.f47 [eP 1000000 7,eR 1000001 9 1,eR 1000002 9 1,eR 1000003 86 5,eR 1000004 176 6,eR 1000005 22 1,eR 1000006 22 1,eR 1000007 22 1,eA [qT,qI,qI,qI,qI]] [sI,eI 1000000 7,eR 98000 9 1,eR 98001 9 1,eR 98002 86 5,eR 98003 176 6,eR 98004 22 1,eR 98005 22 1,eR 98006 22 1,eG 1000001,eG 1000002,eG 1000003,eG 1000004,eG 1000005,eG 1000006,eG 1000007] [98000,98001,98002,98003,98004,98005,98006] (pK (Yy n))

noncomputable def HN (n:Nat):VB:=Xa [] [(0,⟨[],(zp (22::rg1 1000000 4 (rg1 1000005 3 [])) (98003::1000000::rg1 98000 3 (rg1 98004 3 []))),[],[],[]⟩)]
noncomputable def J9 (n:Nat):EnP Tryz.prog 48:=mkG (HN n).ok nT 48 Tryz.f48 [eP 1000000 7,eR 1000001 9 1,eR 1000002 9 1,eR 1000003 86 5,eR 1000004 176 6,eR 1000005 22 1,eR 1000006 22 1,eR 1000007 22 1,sI,sI,sI,sI] [eT 0,eI 1000000 7,eR 98000 9 1,eR 98001 9 1,eR 98002 86 5,eR 98003 176 6,eR 98004 22 1,eR 98005 22 1,eR 98006 22 1,eG 1000001,eG 1000002,eG 1000003,eG 1000004,eG 1000005,eG 1000006,eG 1000007] [98000,98001,98002,98003,98004,98005,98006] (pK (XL n))

noncomputable def Hj (n:Nat):VB:=Xa [⟨45,PE n⟩] [(0,⟨[0],(zp (rg1 1000000 8 []) (1000000::rg1 98000 7 [])),[],[],[]⟩),(1,⟨[0],(zp (17::98000::rg1 98002 5 [1000000]) (98001::98000::rg1 98002 5 [1000000])),[],[],[]⟩),cO 2 [2] (rg1 98000 7 [1000000])]
noncomputable def HW (n:Nat):EnP Tryz.prog 93:=mkG (Hj n).ok nT 93 Tryz.f93 [eP 1000000 7,eR 1000001 9 1,eR 1000002 9 1,eR 1000003 86 5,eR 1000004 176 6,eR 1000005 22 1,eR 1000006 22 1,eR 1000007 22 1] [sI,eI 1000000 7,eR 98000 9 1,eR 98001 9 1,eR 98002 86 5,eR 98003 176 6,eR 98004 22 1,eR 98005 22 1,eR 98006 22 1,eG 1000001,eG 1000002,eG 1000003,eG 1000004,eG 1000005,eG 1000006,eG 1000007] [98000,98001,98002,98003,98004,98005,98006] (pK (YM n))

noncomputable def J8 (n:Nat):VB:=Xa [⟨93,HW n⟩,⟨48,J9 n⟩] [(0,⟨(rg1 0 4 [8]),(zp (rg1 1000000 8 []) (1000000::rg1 98000 7 [])),[],[],[]⟩),cO 1 (rg1 0 4 [8,12]) (rg1 98000 7 [1000000]),(2,⟨(rg1 0 4 [8]),(zp (rg5 50014 7 [1000000]) (rg1 98000 7 [1000000])),[],[],[]⟩),cO 3 (rg1 0 4 [8,16,17]) (rg1 98000 7 [1000000]),cO 4 (rg1 0 4 [8,16,17,18]) (rg1 98000 7 [1000000]),cO 5 (rg1 0 4 [8,9,16,17]) (rg1 98000 7 [1000000]),cO 6 (rg1 0 4 [8,9,16,17,20]) (rg1 98000 7 [1000000]),(7,⟨(rg1 0 4 [8,16,17]),(zp (rg5 50029 7 [1000000]) (rg1 98000 7 [1000000])),[],[],[]⟩),(8,⟨(rg1 0 4 [8,16,17]),(zp (rg5 50038 7 [1000000]) (rg1 98000 7 [1000000])),[],[],[]⟩),cO 9 (rg1 0 4 [8,16,17]) (rg1 98000 7 [1000000])]
noncomputable def TL (n:Nat) (m:Nat):LpE Tryz.prog:=mkL (J8 n).ok nT 4 (cA [1,1,1,2,2] (Q6 Tryz.f49)) ⟨40,[(0,.ptr 1000000 0),(1,tI),(2,.l 1),(3,.b),(8,tI),(16,tI),(17,tI)],[(98000,.arr 9 1),(98001,.arr 9 1),(98002,.arr 86 5),(98003,.arr 176 6),(98004,.arr 22 1),(98005,.arr 22 1),(98006,.arr 22 1),(1000000,.box [.arr 98000,.arr 98001,.arr 98002,.arr 98003,.arr 98004,.arr 98005,.arr 98006])]⟩ [yI,yL,yB,yI,yI,yI,yL,yL,yL,yL,yL,yL,yL] (fun m R k i j l o p a b c d e f g h=>Qt n i j l o p (fun a q b c d e f g h=>k (.exit 0) ⟨40,[(0,.ptr 1000000 0),(1,dI i),(2,dL 1 j),(3,dB l),(8,dI o),(16,dI p),(17,dI a),(18,dB q)],[(98000,.arr 9 1 b),(98001,.arr 9 1 c),(98002,.arr 86 5 d),(98003,.arr 176 6 e),(98004,.arr 22 1 f),(98005,.arr 22 1 g),(98006,.arr 22 1 h),(1000000,.box [.arr 98000,.arr 98001,.arr 98002,.arr 98003,.arr 98004,.arr 98005,.arr 98006])]⟩) m a b c d e f g h) m
noncomputable def Pb (n:Nat):EnP Tryz.prog 49:=mkG (J8 n).ok [TL n n] 49 Tryz.f49 [eP 1000000 7,eR 1000001 9 1,eR 1000002 9 1,eR 1000003 86 5,eR 1000004 176 6,eR 1000005 22 1,eR 1000006 22 1,eR 1000007 22 1,sI,sL 1,sB] [eT 0,eI 1000000 7,eR 98000 9 1,eR 98001 9 1,eR 98002 86 5,eR 98003 176 6,eR 98004 22 1,eR 98005 22 1,eR 98006 22 1,eG 1000001,eG 1000002,eG 1000003,eG 1000004,eG 1000005,eG 1000006,eG 1000007] [98000,98001,98002,98003,98004,98005,98006] (pK (WP n))

noncomputable def Jg (n:Nat):VB:=Xa [⟨20,ZW n⟩,⟨45,PE n⟩,⟨46,PH n⟩,⟨47,Pl n⟩,⟨48,J9 n⟩,⟨49,Pb n⟩] [cO 0 [0] [1000000],cO 1 [0,3] [14,1000000],cO 2 [0,3,4] [14,1000000],(3,⟨[0,3,4,5],[(14,14),(1000000,1000000)],[],[(14,0,501400,9,1),(14,1,501401,9,1),(14,2,501402,86,5),(14,3,501403,176,6),(14,4,501404,22,1),(14,5,501405,22,1),(14,6,501406,22,1)],[]⟩),cO 4 [0,3,4,5,20] (14::rg1 501400 7 [1000000]),cO 5 [0,3,4,5] (14::32::67::rg1 501401 3 [501405,501406,1000000]),cO 6 [0,3,4,5] (14::32::rg1 501401 6 [1000000]),cO 7 [0,3,4,5,6] (14::32::rg1 501401 6 [1000000]),(8,⟨(0::rg1 3 5 []),(zp (14::32::rg1 501401 6 [1000000]) (14::32::rg1 501401 6 [1000000])),[(6,1006,3,1)],[],[]⟩),cO 9 (0::rg1 3 5 [40]) (14::32::1006::rg1 501401 6 [1000000]),cO 10 (0::rg1 3 5 []) (14::59::rg5 50057 7 [1000000]),cO 11 (0::rg1 3 6 []) (8::14::32::1006::rg1 501401 6 [1000000]),cO 12 (0::rg1 3 6 []) (8::14::32::1006::rg1 501401 6 [1000000]),cO 13 (0::rg1 3 5 []) (14::59::rg5 50057 7 [1000000]),cO 14 [0,3,4,5] (14::32::67::rg1 501401 3 [501405,501406,1000000]),cO 15 [0,3,4,9] (14::rg1 501400 7 [1000000]),cO 16 [0,3,4,9,73] (14::rg1 501400 7 [1000000]),cO 17 [0,3,4,9] (14::147::rg5 50139 5 [350139,1000000]),cO 18 [0,3,4,9,10] (14::rg1 501400 7 [1000000]),(19,⟨[0,3,4,9,10,11],(zp (14::rg1 501400 7 [1000000]) (14::rg1 501400 7 [1000000])),[(10,1010,3,1)],[],[]⟩),cO 20 [0,3,4,9,10,11,80] (14::1010::rg1 501400 7 [1000000]),cO 21 [0,3,4,9,10,11] (14::93::rg5 50091 7 [1000000]),cO 22 [0,3,4,9,10,11] (14::93::rg5 50091 7 [1000000]),cO 23 [0,3,4,9,10,12] (14::1010::rg1 501400 7 [1000000]),cO 24 [0,3,4,9,10,12,98] (14::1010::rg1 501400 7 [1000000]),cO 25 [0,3,4,9,10,12] (14::1010::rg5 50111 7 [1000000]),cO 26 [0,3,4,9,10,12] (14::1010::rg5 50111 7 [1000000]),cO 27 [0,3,4,9,10] (14::1010::rg5 50123 7 [1000000]),cO 28 [0,3,4,9,10] (14::1010::rg5 50139 7 [1000000]),cO 29 [0,3,4,9] (14::147::rg5 50139 5 [350139,1000000]),cO 30 [2] (14::rg1 501400 7 [1000000]),(3000000004,⟨[0,3,4,5],(zp (14::32::rg1 501400 4 (67::rg1 501404 3 [1000000])) (14::501400::rg1 501400 5 (rg1 501404 3 [1000000]))),[],[],[]⟩),(3000000009,⟨(0::rg1 3 5 []),(zp [14,32,50057,59,1006,100057,501401,150057,501402,200057,501403,250057,501404,300057,501405,350057,501406,1000000] [14,32,32,1006,1006,501401,501401,501402,501402,501403,501403,501404,501404,501405,501405,501406,501406,1000000]),[],[],[]⟩),(3000000016,⟨[0,3,4,9],(zp [14,50139,501400,100139,501401,150139,501402,200139,501403,250139,501404,147,501405,350139,501406,1000000] [14,501400,501400,501401,501401,501402,501402,501403,501403,501404,501404,501405,501405,501406,501406,1000000]),[],[],[]⟩),(3000000020,⟨[0,3,4,9,10,11],(zp [14,93,1010,50091,501400,100091,501401,150091,501402,200091,501403,250091,501404,300091,501405,350091,501406,1000000] [14,1010,1010,501400,501400,501401,501401,501402,501402,501403,501403,501404,501404,501405,501405,501406,501406,1000000]),[],[],[]⟩),(3000000024,⟨[0,3,4,9,10,12],(zp [14,1010,50111,501400,100111,501401,150111,501402,200111,501403,250111,501404,300111,501405,350111,501406,1000000] [14,1010,501400,501400,501401,501401,501402,501402,501403,501403,501404,501404,501405,501405,501406,501406,1000000]),[],[],[]⟩)]
noncomputable def Q1H (n:Nat) (m:Nat):LpE Tryz.prog:=mkL (Jg n).ok nT 9 (cA [1,1,1,0,1,2,2,1,0,2,1,1,0,1,2,2] (Q6 Tryz.f19)) ⟨151,[(0,.ptr 1000000 0),(3,.ptr 14 0),(4,tI),(5,tI),(6,.arr 1006),(7,tI)],[(14,.box [.arr 32,.arr 501401,.arr 501402,.arr 501403,.arr 501404,.arr 501405,.arr 501406]),(32,.arr 9 1),(1006,.arr 3 1),(501401,.arr 9 1),(501402,.arr 86 5),(501403,.arr 176 6),(501404,.arr 22 1),(501405,.arr 22 1),(501406,.arr 22 1),(1000000,.box [.l 1,tI])]⟩ [yI,yI,yI,yL,yL,yL,yL,yL,yL,yL,yL,yL,yI] (fun m R k p o a b c d e f g h i j l=>V5 n o (fun a q b c d e f g h i j l=>k (.exit 2) ⟨151,[(0,.ptr 1000000 0),(3,.ptr 14 0),(4,dI p),(5,dI o),(6,.arr 1006),(7,dI a),(40,dB q)],[(14,.box [.arr 32,.arr 501401,.arr 501402,.arr 501403,.arr 501404,.arr 501405,.arr 501406]),(32,.arr 9 1 b),(1006,.arr 3 1 c),(501401,.arr 9 1 d),(501402,.arr 86 5 e),(501403,.arr 176 6 f),(501404,.arr 22 1 g),(501405,.arr 22 1 h),(501406,.arr 22 1 i),(1000000,.box [dL 1 j,dI l])]⟩) m a b c d e f g h i j l) m
noncomputable def Q1x (n:Nat) (m:Nat):LpE Tryz.prog:=mkL (Jg n).ok [Q1H n n] 4 (cA [1,1,1,0,1,2,2] (Q6 Tryz.f19)) ⟨151,[(0,.ptr 1000000 0),(3,.ptr 14 0),(4,tI),(5,tI)],[(14,.box [.arr 501400,.arr 501401,.arr 501402,.arr 501403,.arr 501404,.arr 501405,.arr 501406]),(501400,.arr 9 1),(501401,.arr 9 1),(501402,.arr 86 5),(501403,.arr 176 6),(501404,.arr 22 1),(501405,.arr 22 1),(501406,.arr 22 1),(1000000,.box [.l 1,tI])]⟩ [yI,yI,yL,yL,yL,yL,yL,yL,yL,yL,yI] (fun m R k h2 a b c d e f g h i j=>Wj n h2 (fun a l b c d e f g h i j=>k (.exit 0) ⟨151,[(0,.ptr 1000000 0),(3,.ptr 14 0),(4,dI h2),(5,dI a),(20,dB l)],[(14,.box [.arr 501400,.arr 501401,.arr 501402,.arr 501403,.arr 501404,.arr 501405,.arr 501406]),(501400,.arr 9 1 b),(501401,.arr 9 1 c),(501402,.arr 86 5 d),(501403,.arr 176 6 e),(501404,.arr 22 1 f),(501405,.arr 22 1 g),(501406,.arr 22 1 h),(1000000,.box [dL 1 i,dI j])]⟩) m a b c d e f g h i j) m
noncomputable def Q1r (n:Nat) (m:Nat):LpE Tryz.prog:=mkL (Jg n).ok nT 20 (cA [1,1,1,1,0,1,2,2,1,0,2,1,0,1,2,2] (Q6 Tryz.f19)) ⟨151,[(0,.ptr 1000000 0),(3,.ptr 14 0),(4,tI),(9,tI),(10,.arr 1010),(11,tI)],[(14,.box [.arr 501400,.arr 501401,.arr 501402,.arr 501403,.arr 501404,.arr 501405,.arr 501406]),(1010,.arr 3 1),(501400,.arr 9 1),(501401,.arr 9 1),(501402,.arr 86 5),(501403,.arr 176 6),(501404,.arr 22 1),(501405,.arr 22 1),(501406,.arr 22 1),(1000000,.box [.l 1,tI])]⟩ [yI,yI,yI,yL,yL,yL,yL,yL,yL,yL,yL,yL,yI] (fun m R k p o a b c d e f g h i j l=>V4 n o (fun a q b c d e f g h i j l=>k (.exit 6) ⟨151,[(0,.ptr 1000000 0),(3,.ptr 14 0),(4,dI p),(9,dI o),(10,.arr 1010),(11,dI a),(80,dB q)],[(14,.box [.arr 501400,.arr 501401,.arr 501402,.arr 501403,.arr 501404,.arr 501405,.arr 501406]),(1010,.arr 3 1 b),(501400,.arr 9 1 c),(501401,.arr 9 1 d),(501402,.arr 86 5 e),(501403,.arr 176 6 f),(501404,.arr 22 1 g),(501405,.arr 22 1 h),(501406,.arr 22 1 i),(1000000,.box [dL 1 j,dI l])]⟩) m a b c d e f g h i j l) m
noncomputable def Q0B (n:Nat) (m:Nat):LpE Tryz.prog:=mkL (Jg n).ok nT 24 (cA [1,1,1,1,0,1,2,2,1,0,2,1,1,0,1,2,2] (Q6 Tryz.f19)) ⟨151,[(0,.ptr 1000000 0),(3,.ptr 14 0),(4,tI),(9,tI),(10,.arr 1010),(12,tI)],[(14,.box [.arr 501400,.arr 501401,.arr 501402,.arr 501403,.arr 501404,.arr 501405,.arr 501406]),(1010,.arr 3 1),(501400,.arr 9 1),(501401,.arr 9 1),(501402,.arr 86 5),(501403,.arr 176 6),(501404,.arr 22 1),(501405,.arr 22 1),(501406,.arr 22 1),(1000000,.box [.l 1,tI])]⟩ [yI,yI,yI,yL,yL,yL,yL,yL,yL,yL,yL,yL,yI] (fun m R k j l a i b c d e f g h o p=>HC n i (fun a q b c d e f g h=>k (.exit 8) ⟨151,[(0,.ptr 1000000 0),(3,.ptr 14 0),(4,dI j),(9,dI l),(10,.arr 1010),(12,dI a),(98,dB q)],[(14,.box [.arr 501400,.arr 501401,.arr 501402,.arr 501403,.arr 501404,.arr 501405,.arr 501406]),(1010,.arr 3 1 i),(501400,.arr 9 1 b),(501401,.arr 9 1 c),(501402,.arr 86 5 d),(501403,.arr 176 6 e),(501404,.arr 22 1 f),(501405,.arr 22 1 g),(501406,.arr 22 1 h),(1000000,.box [dL 1 o,dI p])]⟩) m a b c d e f g h) m
noncomputable def Q0Y (n:Nat) (m:Nat):LpE Tryz.prog:=mkL (Jg n).ok [Q1r n n,Q0B n n] 16 (cA [1,1,1,1,0,1,2,2] (Q6 Tryz.f19)) ⟨151,[(0,.ptr 1000000 0),(3,.ptr 14 0),(4,tI),(9,tI)],[(14,.box [.arr 501400,.arr 501401,.arr 501402,.arr 501403,.arr 501404,.arr 501405,.arr 501406]),(501400,.arr 9 1),(501401,.arr 9 1),(501402,.arr 86 5),(501403,.arr 176 6),(501404,.arr 22 1),(501405,.arr 22 1),(501406,.arr 22 1),(1000000,.box [.l 1,tI])]⟩ [yI,yI,yL,yL,yL,yL,yL,yL,yL,yL,yI] (fun m R k l a b c d e f g h i j=>We n l (fun a o b c d e f g h i j=>k (.exit 4) ⟨151,[(0,.ptr 1000000 0),(3,.ptr 14 0),(4,dI l),(9,dI a),(73,dB o)],[(14,.box [.arr 501400,.arr 501401,.arr 501402,.arr 501403,.arr 501404,.arr 501405,.arr 501406]),(501400,.arr 9 1 b),(501401,.arr 9 1 c),(501402,.arr 86 5 d),(501403,.arr 176 6 e),(501404,.arr 22 1 f),(501405,.arr 22 1 g),(501406,.arr 22 1 h),(1000000,.box [dL 1 i,dI j])]⟩) m a b c d e f g h i j) m
noncomputable def Q30 (n:Nat):EnP Tryz.prog 19:=mkG (Jg n).ok [Q1x n n,Q0Y n n] 19 Tryz.f19 [eP 1000000 2,sL 1,sI] [eP 14 7,eR 501400 9 1,eR 501401 9 1,eR 501402 86 5,eR 501403 176 6,eR 501404 22 1,eR 501405 22 1,eR 501406 22 1,eI 1000000 2,sL 1,sI] [14,501400,501401,501402,501403,501404,501405,501406] (pK (Fp n))

noncomputable def WD (n:Nat):VB:=Xa [] [(0,⟨(rg1 0 5 [10]),(zp (10::rg1 1000000 8 []) (10::1000000::rg1 98000 7 [])),[],[],[]⟩),cO 1 (rg1 1 4 [10,11,12]) (10::rg1 98000 7 [1000000]),cO 2 (rg1 1 4 (rg1 10 4 [])) (10::13::rg1 98000 7 [1000000]),cO 3 [1,2,3,10,11,12,13,27] (10::13::rg1 98000 7 [1000000]),cO 4 [1,3,10,11,12,13] (10::13::45::rg1 98000 7 [1000000]),cO 5 (1::3::rg1 10 4 [48,49]) (10::13::45::rg1 98000 7 [1000000]),cO 6 (1::3::rg1 10 4 [48,49,50]) (10::13::45::rg1 98000 7 [1000000]),cO 7 (1::3::rg1 10 5 [48,49]) (10::13::45::rg1 98000 7 [1000000]),cO 8 (1::3::rg1 10 4 [48,49]) (10::13::60::rg1 98000 7 [1000000]),cO 9 (1::3::rg1 10 4 [48,49]) (10::13::60::rg1 98000 7 [1000000]),cO 10 [10,13] (10::13::82::rg1 98000 7 [1000000]),(11,⟨[10],(zp (10::rg1 98000 7 [1000000,82]) (10::rg1 98000 7 [1000000,96001])),[],[],[]⟩),cO 12 [1,2,10,11,12,13] (10::13::104::rg1 98000 7 [1000000]),cO 13 (1::2::rg1 10 4 [15]) (10::13::104::rg1 98000 7 [1000000]),cO 14 (1::2::rg1 10 4 [15,110]) (10::13::104::rg1 98000 7 [1000000]),cO 15 (1::2::rg1 10 4 [15]) (10::13::121::rg1 98000 7 [1000000]),cO 16 (1::2::rg1 10 4 [15]) (10::13::121::rg1 98000 7 [1000000]),cO 17 [10,13] (10::13::140::rg1 98000 7 [1000000]),(18,⟨[10],(zp (10::rg1 98000 7 [1000000,140]) (10::rg1 98000 7 [1000000,96001])),[],[],[]⟩),(3000000006,⟨(1::3::rg1 10 4 [48,49]),(zp (10::13::45::60::rg1 98000 7 [1000000]) (10::13::45::45::rg1 98000 7 [1000000])),[],[],[]⟩),(3000000014,⟨(1::2::rg1 10 4 [15]),(zp (10::13::104::121::rg1 98000 7 [1000000]) (10::13::104::104::rg1 98000 7 [1000000])),[],[],[]⟩)]
noncomputable def Hs (n:Nat) (m:Nat):LpE Tryz.prog:=mkL (WD n).ok nT 6 (cA [1,1,1,0,1,3,1,0,1,2,2] (Q6 Tryz.f50)) ⟨143,[(1,tI),(3,tI),(10,.ptr 10 0),(11,.l 1),(12,.arr 98004),(13,.ptr 13 0),(48,tI),(49,tI)],[(10,.box [.nil,.ci .i64 0]),(13,.box [.arr 45,.ci .i64 0]),(45,.arr 133 2),(98000,.arr 9 1),(98001,.arr 9 1),(98002,.arr 86 5),(98003,.arr 176 6),(98004,.arr 22 1),(98005,.arr 22 1),(98006,.arr 22 1),(1000000,.box [.arr 98000,.arr 98001,.arr 98002,.arr 98003,.arr 98004,.arr 98005,.arr 98006])]⟩ [yI,yI,yL,yI,yI,yL,yL,yL,yL,yL,yL,yL,yL] (fun m R k e f c d a b g h i j l o p=>YS n c d (fun a q b=>k (.exit 0) ⟨143,[(1,dI e),(3,dI f),(10,.ptr 10 0),(11,dL 1 c),(12,.arr 98004),(13,.ptr 13 0),(48,dI d),(49,dI a),(50,dB q)],[(10,.box [.nil,dI (0:Int)]),(13,.box [.arr 45,dI (0:Int)]),(45,.arr 133 2 b),(98000,.arr 9 1 g),(98001,.arr 9 1 h),(98002,.arr 86 5 i),(98003,.arr 176 6 j),(98004,.arr 22 1 l),(98005,.arr 22 1 o),(98006,.arr 22 1 p),(1000000,.box [.arr 98000,.arr 98001,.arr 98002,.arr 98003,.arr 98004,.arr 98005,.arr 98006])]⟩) m a b) m
noncomputable def H7 (n:Nat) (m:Nat):LpE Tryz.prog:=mkL (WD n).ok nT 14 (cA [1,1,1,1,1,0,1,2,2] (Q6 Tryz.f50)) ⟨143,[(1,tI),(2,tI),(10,.ptr 10 0),(11,.l 1),(12,.arr 98004),(13,.ptr 13 0),(15,tI)],[(10,.box [.nil,.ci .i64 0]),(13,.box [.arr 104,.ci .i64 0]),(104,.arr 133 2),(98000,.arr 9 1),(98001,.arr 9 1),(98002,.arr 86 5),(98003,.arr 176 6),(98004,.arr 22 1),(98005,.arr 22 1),(98006,.arr 22 1),(1000000,.box [.arr 98000,.arr 98001,.arr 98002,.arr 98003,.arr 98004,.arr 98005,.arr 98006])]⟩ [yI,yI,yL,yI,yL,yL,yL,yL,yL,yL,yL,yL] (fun m R k d e c a b f g h i j l o=>YY n c (fun a p b=>k (.exit 2) ⟨143,[(1,dI d),(2,dI e),(10,.ptr 10 0),(11,dL 1 c),(12,.arr 98004),(13,.ptr 13 0),(15,dI a),(110,dB p)],[(10,.box [.nil,dI (0:Int)]),(13,.box [.arr 104,dI (0:Int)]),(104,.arr 133 2 b),(98000,.arr 9 1 f),(98001,.arr 9 1 g),(98002,.arr 86 5 h),(98003,.arr 176 6 i),(98004,.arr 22 1 j),(98005,.arr 22 1 l),(98006,.arr 22 1 o),(1000000,.box [.arr 98000,.arr 98001,.arr 98002,.arr 98003,.arr 98004,.arr 98005,.arr 98006])]⟩) m a b) m
noncomputable def Tb (n:Nat):EnP Tryz.prog 50:=mkG (WD n).ok [Hs n n,H7 n n] 50 Tryz.f50 [eP 1000000 7,eR 1000001 9 1,eR 1000002 9 1,eR 1000003 86 5,eR 1000004 176 6,eR 1000005 22 1,eR 1000006 22 1,eR 1000007 22 1,sI,sI,sI,sB] [eO 2,eR 96001 133 2,sI,eI 1000000 7,eR 98000 9 1,eR 98001 9 1,eR 98002 86 5,eR 98003 176 6,eR 98004 22 1,eR 98005 22 1,eR 98006 22 1,eG 1000001,eG 1000002,eG 1000003,eG 1000004,eG 1000005,eG 1000006,eG 1000007] [96001,98000,98001,98002,98003,98004,98005,98006] (pK (XY n))

noncomputable def U0 (n:Nat):VB:=Xa [⟨45,PE n⟩,⟨20,ZW n⟩,⟨50,Tb n⟩] [(0,⟨(rg1 0 5 [10]),(zp (10::rg1 1000000 17 []) (10::1000000::rg1 98000 7 (1000008::1000009::rg1 98361 7 []))),[],[],[]⟩),cO 1 (rg1 0 5 [10,11]) (10::11::rg1 98000 7 (rg1 98361 7 [1000000,1000008,1000009])),cO 2 (rg1 0 5 [10,11,25]) (10::11::rg1 98000 7 (rg1 98361 7 [1000000,1000008,1000009])),cO 3 (rg1 0 5 [10,11,25,26]) (10::11::rg1 98000 7 (rg1 98361 7 [1000000,1000008,1000009])),cO 4 (rg1 0 5 [10,11,12,25]) (10::11::rg1 98000 7 (rg1 98361 7 [1000000,1000008,1000009])),cO 5 (rg1 0 5 [10,11,25]) (10::11::rg1 98000 7 (rg1 98361 7 [1000000,1000008,1000009])),cO 6 (rg1 0 5 [10,11,25]) (10::11::rg1 98000 7 (rg1 98361 7 [1000000,1000008,1000009])),(7,⟨(rg1 0 5 [10,11,13]),(zp (10::11::rg1 98000 7 (rg1 98361 7 [1000000,1000008,1000009])) (10::11::rg1 98000 7 (rg1 98361 7 [1000000,1000008,1000009]))),[],[(10,3,1103,102,4)],[]⟩),cO 8 (rg1 0 5 [10,11,13,35]) (10::11::1103::rg1 98000 7 (rg1 98361 7 [1000000,1000008,1000009])),cO 9 (rg1 0 5 [10,11,13]) (10::11::92::rg1 98000 7 (rg1 98361 7 [1000000,1000008,1000009])),cO 10 (rg1 0 5 [10,11,13,14]) (10::11::1103::rg1 98000 7 (rg1 98361 7 [1000000,1000008,1000009])),cO 11 (rg1 0 5 [10,11,13,14,40]) (10::11::1103::rg1 98000 7 (rg1 98361 7 [1000000,1000008,1000009])),cO 12 (rg1 0 5 [10,11,13,14]) (10::11::1103::rg1 98000 7 (rg1 98361 7 [1000000,1000008,1000009])),(13,⟨(rg1 0 5 [10,11,13]),(zp (10::11::62::1103::98361::rg1 98363 5 (rg5 100060 7 [1000000,1000008,1000009])) (10::11::98362::1103::98361::rg1 98363 5 (rg1 98000 7 [1000000,1000008,1000009]))),[],[],[]⟩),cO 14 (rg1 0 5 [10,11,13,15]) (10::11::15::1103::rg1 98000 7 (rg1 98361 7 [1000000,1000008,1000009])),cO 15 (rg1 0 5 [10,11,13,15,77]) (10::11::15::1103::rg1 98000 7 (rg1 98361 7 [1000000,1000008,1000009])),cO 16 (rg1 0 5 [10,11,13,15]) (10::11::15::1103::rg1 98000 7 (rg1 98361 7 [1000000,1000008,1000009])),cO 17 (rg1 0 5 [10,11,13,15]) (10::11::15::1103::rg1 98000 7 (rg1 98361 7 [1000000,1000008,1000009])),cO 18 (rg1 0 5 [10,11,13]) (10::11::92::rg1 98000 7 (rg1 98361 7 [1000000,1000008,1000009])),(19,⟨[],(zp (101::rg1 98000 7 (98361::98362::rg1 98364 4 [1000000,1000008,1000009])) (98363::rg1 98000 7 (98361::98362::rg1 98364 4 [1000000,1000008,1000009]))),[],[],[]⟩),(3000000008,⟨(rg1 0 5 [10,11,13]),(zp (10::11::92::1103::rg1 98000 7 (rg1 98361 7 [1000000,1000008,1000009])) (10::11::1103::1103::rg1 98000 7 (rg1 98361 7 [1000000,1000008,1000009]))),[],[],[]⟩)]
noncomputable def HS (n:Nat) (m:Nat):LpE Tryz.prog:=mkL (U0 n).ok nT 3 (cA [1,1,0,1,2,2] (Q6 Tryz.f21)) ⟨104,[(0,.ptr 1000000 0),(1,.ptr 1000008 0),(2,.ptr 1000009 0),(3,.b),(4,tI),(10,.ptr 10 0),(11,.ac 11 0 0),(25,tI)],[(10,.box [.t,.ci .i64 0,tI,.nil]),(11,.arr 129 1),(98000,.arr 9 1),(98001,.arr 9 1),(98002,.arr 86 5),(98003,.arr 176 6),(98004,.arr 22 1),(98005,.arr 22 1),(98006,.arr 22 1),(98361,.arr 73 5),(98362,.arr 111 2),(98363,.arr 84 4),(98364,.arr 81 7),(98365,.arr 104 4),(98366,.arr 89 5),(98367,.arr 91 3),(1000000,.box [.arr 98000,.arr 98001,.arr 98002,.arr 98003,.arr 98004,.arr 98005,.arr 98006]),(1000008,.box [.l 1,tI]),(1000009,.box [tI,.arr 98361,.arr 98362,.arr 98363,.arr 98364,.arr 98365,.arr 98366,.arr 98367])]⟩ [yB,yI,yI,yT,yI,yL,yL,yL,yL,yL,yL,yL,yL,yL,yL,yL,yL,yL,yL,yL,yL,yI,yI] (fun m R k e f a g h b i j l o p q r s t u v x y z c d aa=>Z6 n  (fun a ab b c d=>k (.exit 0) ⟨104,[(0,.ptr 1000000 0),(1,.ptr 1000008 0),(2,.ptr 1000009 0),(3,dB e),(4,dI f),(10,.ptr 10 0),(11,.ap 11 0 0),(25,dI a),(26,dB ab)],[(10,.box [dT g,dI (0:Int),dI h,.nil]),(11,.arr 129 1 b),(98000,.arr 9 1 i),(98001,.arr 9 1 j),(98002,.arr 86 5 l),(98003,.arr 176 6 o),(98004,.arr 22 1 p),(98005,.arr 22 1 q),(98006,.arr 22 1 r),(98361,.arr 73 5 s),(98362,.arr 111 2 t),(98363,.arr 84 4 u),(98364,.arr 81 7 v),(98365,.arr 104 4 x),(98366,.arr 89 5 y),(98367,.arr 91 3 z),(1000000,.box [.arr 98000,.arr 98001,.arr 98002,.arr 98003,.arr 98004,.arr 98005,.arr 98006]),(1000008,.box [dL 1 c,dI d]),(1000009,.box [dI aa,.arr 98361,.arr 98362,.arr 98363,.arr 98364,.arr 98365,.arr 98366,.arr 98367])]⟩) m a b c d) m
noncomputable def T8 (n:Nat) (m:Nat):LpE Tryz.prog:=mkL (U0 n).ok nT 8 (cA [1,1,1,0,1,2,2] (Q6 Tryz.f21)) ⟨104,[(0,.ptr 1000000 0),(1,.ptr 1000008 0),(2,.ptr 1000009 0),(3,.b),(4,tI),(10,.ptr 10 0),(11,.ac 11 0 0),(13,tI)],[(10,.box [.t,.ci .i64 0,tI,.arr 1103]),(11,.arr 129 1),(1103,.arr 102 4),(98000,.arr 9 1),(98001,.arr 9 1),(98002,.arr 86 5),(98003,.arr 176 6),(98004,.arr 22 1),(98005,.arr 22 1),(98006,.arr 22 1),(98361,.arr 73 5),(98362,.arr 111 2),(98363,.arr 84 4),(98364,.arr 81 7),(98365,.arr 104 4),(98366,.arr 89 5),(98367,.arr 91 3),(1000000,.box [.arr 98000,.arr 98001,.arr 98002,.arr 98003,.arr 98004,.arr 98005,.arr 98006]),(1000008,.box [.l 1,tI]),(1000009,.box [tI,.arr 98361,.arr 98362,.arr 98363,.arr 98364,.arr 98365,.arr 98366,.arr 98367])]⟩ [yB,yI,yI,yT,yI,yL,yL,yL,yL,yL,yL,yL,yL,yL,yL,yL,yL,yL,yL,yL,yL,yL,yI,yI] (fun m R k p q a s t r b c d e f g h i u j v x y z aa l o ab=>Qz n p q r (fun a ac b c d e f g h i j l o=>k (.exit 2) ⟨104,[(0,.ptr 1000000 0),(1,.ptr 1000008 0),(2,.ptr 1000009 0),(3,dB p),(4,dI q),(10,.ptr 10 0),(11,.ap 11 0 0),(13,dI a),(35,dB ac)],[(10,.box [dT s,dI (0:Int),dI t,.arr 1103]),(11,.arr 129 1 r),(1103,.arr 102 4 b),(98000,.arr 9 1 c),(98001,.arr 9 1 d),(98002,.arr 86 5 e),(98003,.arr 176 6 f),(98004,.arr 22 1 g),(98005,.arr 22 1 h),(98006,.arr 22 1 i),(98361,.arr 73 5 u),(98362,.arr 111 2 j),(98363,.arr 84 4 v),(98364,.arr 81 7 x),(98365,.arr 104 4 y),(98366,.arr 89 5 z),(98367,.arr 91 3 aa),(1000000,.box [.arr 98000,.arr 98001,.arr 98002,.arr 98003,.arr 98004,.arr 98005,.arr 98006]),(1000008,.box [dL 1 l,dI o]),(1000009,.box [dI ab,.arr 98361,.arr 98362,.arr 98363,.arr 98364,.arr 98365,.arr 98366,.arr 98367])]⟩) m a b c d e f g h i j l o) m
noncomputable def TG (n:Nat):EnP Tryz.prog 21:=mkG (U0 n).ok [HS n n,T8 n n] 21 Tryz.f21 [eP 1000000 7,eR 1000001 9 1,eR 1000002 9 1,eR 1000003 86 5,eR 1000004 176 6,eR 1000005 22 1,eR 1000006 22 1,eR 1000007 22 1,eP 1000008 2,sL 1,sI,eP 1000009 8,sI,eR 1000010 73 5,eR 1000011 111 2,eR 1000012 84 4,eR 1000013 81 7,eR 1000014 104 4,eR 1000015 89 5,eR 1000016 91 3,sB,sI] [eT 0,eI 1000000 7,eR 98000 9 1,eR 98001 9 1,eR 98002 86 5,eR 98003 176 6,eR 98004 22 1,eR 98005 22 1,eR 98006 22 1,eI 1000008 2,sL 1,sI,eI 1000009 8,sI,eR 98361 73 5,eR 98362 111 2,eR 98363 84 4,eR 98364 81 7,eR 98365 104 4,eR 98366 89 5,eR 98367 91 3,eG 1000001,eG 1000002,eG 1000003,eG 1000004,eG 1000005,eG 1000006,eG 1000007,eG 1000010,eG 1000011,eG 1000012,eG 1000013,eG 1000014,eG 1000015,eG 1000016] [98000,98001,98002,98003,98004,98005,98006,98361,98362,98363,98364,98365,98366,98367] (pK (Wr n))

noncomputable def Au (n:Nat):VB:=Xa [] [cO 0 [1,2,3] [3],cO 1 [7] [7],cK 2 [6]]
noncomputable def Es (n:Nat):EnP Tryz.prog 23:=mkE (Au n).ok nT 23 Tryz.f23 [[0]] [eA [qI,qL 5,qL 2,qL 4,qL 7,qL 4,qL 5,qL 3],sI,sI] [sI] (pK (Px n))

noncomputable def Bu (n:Nat):VB:=Xa [] [cO 0 [1,2,3] [3],cK 1 [6]]
noncomputable def Lb (n:Nat):EnP Tryz.prog 24:=mkE (Bu n).ok nT 24 Tryz.f24 [[0]] [eA [qI,qL 5,qL 2,qL 4,qL 7,qL 4,qL 5,qL 3],sI,sI] [sI] (pK (H8 n))

noncomputable def G3 (n:Nat):VB:=Xa [⟨20,ZW n⟩,⟨23,Es n⟩,⟨24,Lb n⟩] [(0,⟨[0,1,4,5],(zp (4::5::rg1 1000000 9 []) (4::5::1000000::1000001::rg1 98041 7 [])),[],[],[]⟩),cO 1 [0,1,4,5,13,14] (4::5::rg1 98041 7 [1000000,1000001]),cO 2 [0,1,4,5,13,14,15] (4::5::rg1 98041 7 [1000000,1000001]),cO 3 [0,1,4,5,6,13,14] (4::5::rg1 98041 7 [1000000,1000001]),cO 4 [0,1,4,5,6,13,14,21,22] (4::5::rg1 98041 7 [1000000,1000001]),cO 5 [0,1,4,5,6,13,14,21,22,23] (4::5::rg1 98041 7 [1000000,1000001]),cO 6 [0,1,4,5,6,7,13,14,21,22] (4::5::rg1 98041 7 [1000000,1000001]),cO 7 [0,1,4,5,6,7,13,14,21,22,62] (4::5::rg1 98041 7 [1000000,1000001]),cO 8 [0,1,4,5,6,7,13,14,21,22] (4::5::rg1 98041 7 [1000000,1000001]),cO 9 (0::1::rg1 4 5 [13,14,21,22]) (4::5::rg1 98041 7 [1000000,1000001]),(10,⟨[0,1,4,5,6,13,14,21,22],(zp (4::5::84::rg1 98041 4 [98046,98047,1000000,1000001]) (4::5::98045::rg1 98041 4 [98046,98047,1000000,1000001])),[],[],[]⟩),cO 11 [0,1,4,5,6,13,14,21,22] (4::5::rg1 98041 7 [1000000,1000001]),cO 12 [0,1,4,5,13,14] (4::5::rg1 98041 7 [1000000,1000001])]
noncomputable def F0 (n:Nat) (m:Nat):LpE Tryz.prog:=mkL (G3 n).ok nT 5 (cA [1,1,2,2,1,1,0,2,1,1,2,2] (Q6 Tryz.f22)) ⟨89,[(0,.ptr 1000000 0),(1,.ptr 1000001 0),(4,.ac 4 0 0),(5,.ac 5 0 0),(6,tI),(13,tI),(14,tI),(21,tI),(22,tI)],[(4,.arr 131 1),(5,.arr 131 1),(98041,.arr 73 5),(98042,.arr 111 2),(98043,.arr 84 4),(98044,.arr 81 7),(98045,.arr 104 4),(98046,.arr 89 5),(98047,.arr 91 3),(1000000,.box [.l 1,tI]),(1000001,.box [tI,.arr 98041,.arr 98042,.arr 98043,.arr 98044,.arr 98045,.arr 98046,.arr 98047])]⟩ [yI,yI,yI,yI,yI,yL,yL,yL,yL,yL,yL,yL,yL,yL,yL,yI,yI] (fun m R k g s t h a b c i j l o d p q e f r=>XT n g h i j l o p q r (fun a u b c d e f=>k (.exit 2) ⟨89,[(0,.ptr 1000000 0),(1,.ptr 1000001 0),(4,.ap 4 0 0),(5,.ap 5 0 0),(6,dI g),(13,dI s),(14,dI t),(21,dI h),(22,dI a),(23,dB u)],[(4,.arr 131 1 b),(5,.arr 131 1 c),(98041,.arr 73 5 i),(98042,.arr 111 2 j),(98043,.arr 84 4 l),(98044,.arr 81 7 o),(98045,.arr 104 4 d),(98046,.arr 89 5 p),(98047,.arr 91 3 q),(1000000,.box [dL 1 e,dI f]),(1000001,.box [dI r,.arr 98041,.arr 98042,.arr 98043,.arr 98044,.arr 98045,.arr 98046,.arr 98047])]⟩) m a b c d e f) m
noncomputable def F2 (n:Nat) (m:Nat):LpE Tryz.prog:=mkL (G3 n).ok [F0 n n] 2 (cA [1,1,2,2] (Q6 Tryz.f22)) ⟨89,[(0,.ptr 1000000 0),(1,.ptr 1000001 0),(4,.ac 4 0 0),(5,.ac 5 0 0),(13,tI),(14,tI)],[(4,.arr 131 1),(5,.arr 131 1),(98041,.arr 73 5),(98042,.arr 111 2),(98043,.arr 84 4),(98044,.arr 81 7),(98045,.arr 104 4),(98046,.arr 89 5),(98047,.arr 91 3),(1000000,.box [.l 1,tI]),(1000001,.box [tI,.arr 98041,.arr 98042,.arr 98043,.arr 98044,.arr 98045,.arr 98046,.arr 98047])]⟩ [yI,yI,yL,yL,yL,yL,yL,yL,yL,yL,yL,yL,yI,yI] (fun m R k f h2 a b g h i j c l o d e p=>ZL n f g h i j l o p (fun h2 q a b c d e=>k (.exit 0) ⟨89,[(0,.ptr 1000000 0),(1,.ptr 1000001 0),(4,.ap 4 0 0),(5,.ap 5 0 0),(13,dI f),(14,dI h2),(15,dB q)],[(4,.arr 131 1 a),(5,.arr 131 1 b),(98041,.arr 73 5 g),(98042,.arr 111 2 h),(98043,.arr 84 4 i),(98044,.arr 81 7 j),(98045,.arr 104 4 c),(98046,.arr 89 5 l),(98047,.arr 91 3 o),(1000000,.box [dL 1 d,dI e]),(1000001,.box [dI p,.arr 98041,.arr 98042,.arr 98043,.arr 98044,.arr 98045,.arr 98046,.arr 98047])]⟩) m h2 a b c d e) m
noncomputable def FJ (n:Nat):EnP Tryz.prog 22:=mkG (G3 n).ok [F2 n n] 22 Tryz.f22 [eP 1000000 2,sL 1,sI,eP 1000001 8,sI,eR 1000002 73 5,eR 1000003 111 2,eR 1000004 84 4,eR 1000005 81 7,eR 1000006 104 4,eR 1000007 89 5,eR 1000008 91 3] [eT 0,eI 1000000 2,sL 1,sI,eI 1000001 8,sI,eR 98041 73 5,eR 98042 111 2,eR 98043 84 4,eR 98044 81 7,eR 98045 104 4,eR 98046 89 5,eR 98047 91 3,eG 1000002,eG 1000003,eG 1000004,eG 1000005,eG 1000006,eG 1000007,eG 1000008] [98041,98042,98043,98044,98045,98046,98047] (pK (GB n))

noncomputable def L5:Code:=cA [1,1,1,1,1,1,1,1,0,1,2,2] (Q6 Tryz.f6)
noncomputable def JJ (n:Nat):VB:=Xa [⟨18,Q1E n⟩,⟨19,Q30 n⟩,⟨20,ZW n⟩,⟨21,TG n⟩,⟨22,FJ n⟩,⟨23,Es n⟩,⟨24,Lb n⟩] [cO 0 [0,2,3] [2,3],cO 1 [2,3,4] [2,3,50013],cO 2 [2,3,4,5] (2::3::50013::rg5 50015 8 []),cO 3 (rg1 2 5 []) (2::3::6::37::50013::rg5 50015 8 []),(4,⟨(rg1 2 6 []),(zp (2::3::6::37::50013::rg5 50015 8 []) (2::3::6::37::50013::rg5 50015 8 [])),[],[(6,2,500602,111,2),(6,3,500603,84,4),(6,4,500604,81,7),(6,5,500605,104,4),(6,6,500606,89,5),(6,7,500607,91,3)],[]⟩),cO 5 (rg1 2 6 [43]) (2::3::6::37::50013::rg5 50015 8 (rg1 500602 6 [])),cO 6 (rg1 2 6 []) (2::3::6::50013::50015::rg5 50059 14 []),cO 7 (rg1 2 6 []) (2::3::6::50013::50015::rg5 50059 14 []),cO 8 (rg1 2 5 []) [2,3,6,50013,50015,50061,100015,100061,150015,150061,200015,200061,250015,250061,300015,300061,350015,350061,400015],cO 9 (rg1 2 5 [8]) [2,3,6,50013,50015,50061,100015,100061,150015,150061,200015,200061,250015,250061,300015,300061,350015,350061,400015],cO 10 (rg1 2 5 [8,71]) [2,3,6,50013,50015,50061,100015,100061,150015,150061,200015,200061,250015,250061,300015,300061,350015,350061,400015],cO 11 (rg1 2 5 [8]) [2,3,6,156,50013,50015,50061,100015,100061,150015,150061,200015,250015,250061,300015,300061,350015,350061,400015,200061],cO 12 (rg1 2 5 [8,9]) [2,3,6,9,50013,50015,50061,100015,100061,150015,150061,200015,200061,250015,250061,300015,300061,350015,350061,400015],cO 13 (rg1 2 5 [8,9]) [2,3,6,9,50013,50015,50061,100015,100061,150015,150061,200015,200061,250015,250061,300015,300061,350015,350061,400015],cO 14 (rg1 2 5 [8,9]) [2,3,6,9,50013,50015,50061,100015,100061,150015,150061,200015,200061,250015,250061,300015,300061,350015,350061,400015],cO 15 (rg1 2 5 [8,9]) [2,3,6,9,50013,50015,50061,100015,100061,150015,150061,200015,200061,250015,250061,300015,300061,350015,350061,400015],cO 16 (rg1 2 5 [8,9]) [2,3,6,9,50013,50015,50061,100015,100061,150015,150061,200015,200061,250015,250061,300015,300061,350015,350061,400015],cO 17 (rg1 2 5 [8,9,151]) [2,3,6,9,50013,50015,50061,100015,100061,150015,150061,200015,200061,250015,250061,300015,300061,350015,350061,400015],cO 18 (rg1 2 5 [8]) [2,3,6,156,50013,50015,50061,100015,100061,150015,150061,200015,250015,250061,300015,300061,350015,350061,400015],cO 19 (rg1 2 5 [166]) [2,3,6,50013,50015,50061,100015,100061,150015,150061,200015,200061,250015,250061,300015,300061,350015,350061,400015],cO 20 (rg1 2 5 []) [2,3,6,175,50013,50015,50061,100015,100061,150015,150061,200015,200061,250015,250061,300015,350015,350061,400015],cO 21 (rg1 2 5 [10]) [2,3,6,175,50013,50015,50061,100015,100061,150015,150061,200015,200061,250015,250061,300015,350015,350061,400015,300061],cO 22 (rg1 2 5 [10,180]) [2,3,6,175,50013,50015,50061,100015,100061,150015,150061,200015,200061,250015,250061,300015,350015,350061,400015,300061],cO 23 (rg1 2 5 [10]) [2,3,6,175,218,50013,50015,50061,100015,100061,150015,150061,200015,200061,250015,250061,300015,350015,400015,300061],cO 24 (rg1 2 5 [10,11]) [2,3,6,175,50013,50015,50061,100015,100061,150015,150061,200015,200061,250015,250061,300015,350015,350061,400015,300061],cO 25 (rg1 2 5 [10]) [2,3,6,175,218,50013,50015,50061,100015,100061,150015,150061,200015,200061,250015,250061,300015,350015,400015,300061],cO 26 [2,3] [2,3,175,50061,100015,100061,150015,150061,200015,200061,250015,250061,350061,300061],(3000000005,⟨(rg1 2 6 []),(zp [2,3,6,37,400059,50013,50015,50059,100015,100059,150015,150059,200015,200059,250015,250059,300015,300059,350015,350059,400015,450059,500602,500059,500603,500604,550059,500605,600059,500606,650059,500607,700059] [2,3,6,37,37,50013,50015,100015,100015,150015,150015,200015,200015,250015,250015,300015,300015,350015,350015,400015,400015,500602,500602,500603,500603,500604,500604,500605,500605,500606,500606,500607,500607]),[],[],[]⟩),(3000000010,⟨(rg1 2 5 [8]),(zp [2,3,6,50013,50015,50061,100015,100061,150015,150061,200015,156,200061,250015,250061,300015,300061,350015,350061,400015] [2,3,6,50013,50015,50061,100015,100061,150015,150061,200015,200061,200061,250015,250061,300015,300061,350015,350061,400015]),[],[],[]⟩),(3000000022,⟨(rg1 2 5 [10]),(zp [2,3,6,175,50013,50015,50061,100015,100061,150015,150061,200015,200061,250015,250061,300015,300061,350015,218,350061,400015] [2,3,6,175,50013,50015,50061,100015,100061,150015,150061,200015,200061,250015,250061,300015,300061,350015,350061,350061,400015]),[],[],[]⟩)]
noncomputable def Ai (n:Nat) (m:Nat):LpE Tryz.prog:=mkL (JJ n).ok nT 5 (cA [1,1,1,1,0,1,2,2] (Q6 Tryz.f6)) ⟨225,[(2,.ptr 2 0),(3,.ptr 3 0),(4,.ptr 50013 0),(5,.ptr 50015 0),(6,.ptr 6 0),(7,tI)],[(2,.box [.nil,.nil,.nil,.nil]),(3,.box [.ci .i64 0,.nil,.nil,.nil,.nil,.nil,.nil,.nil]),(6,.box [tI,.arr 37,.arr 500602,.arr 500603,.arr 500604,.arr 500605,.arr 500606,.arr 500607]),(37,.arr 73 5),(50013,.box [.l 1,tI]),(50015,.box [.arr 100015,.arr 150015,.arr 200015,.arr 250015,.arr 300015,.arr 350015,.arr 400015]),(100015,.arr 9 1),(150015,.arr 9 1),(200015,.arr 86 5),(250015,.arr 176 6),(300015,.arr 22 1),(350015,.arr 22 1),(400015,.arr 22 1),(500602,.arr 111 2),(500603,.arr 84 4),(500604,.arr 81 7),(500605,.arr 104 4),(500606,.arr 89 5),(500607,.arr 91 3)]⟩ [yI,yI,yL,yL,yI,yL,yL,yL,yL,yL,yL,yL,yL,yL,yL,yL,yL,yL] (fun m R k a b c d e f g h i j l o p q r s t u=>Vc n  (fun a v b c d e f g h i j l o p q r s t u=>k (.exit 0) ⟨225,[(2,.ptr 2 0),(3,.ptr 3 0),(4,.ptr 50013 0),(5,.ptr 50015 0),(6,.ptr 6 0),(7,dI a),(43,dB v)],[(2,.box [.nil,.nil,.nil,.nil]),(3,.box [dI (0:Int),.nil,.nil,.nil,.nil,.nil,.nil,.nil]),(6,.box [dI b,.arr 37,.arr 500602,.arr 500603,.arr 500604,.arr 500605,.arr 500606,.arr 500607]),(37,.arr 73 5 c),(50013,.box [dL 1 d,dI e]),(50015,.box [.arr 100015,.arr 150015,.arr 200015,.arr 250015,.arr 300015,.arr 350015,.arr 400015]),(100015,.arr 9 1 f),(150015,.arr 9 1 g),(200015,.arr 86 5 h),(250015,.arr 176 6 i),(300015,.arr 22 1 j),(350015,.arr 22 1 l),(400015,.arr 22 1 o),(500602,.arr 111 2 p),(500603,.arr 84 4 q),(500604,.arr 81 7 r),(500605,.arr 104 4 s),(500606,.arr 89 5 t),(500607,.arr 91 3 u)]⟩) m a b c d e f g h i j l o p q r s t u) m
noncomputable def BQ (n:Nat) (m:Nat):LpE Tryz.prog:=mkL (JJ n).ok nT 10 (cA [1,1,1,1,1,1,0,1,2,2] (Q6 Tryz.f6)) ⟨225,[(2,.ptr 2 0),(3,.ptr 3 0),(4,.ptr 50013 0),(5,.ptr 50015 0),(6,.ptr 6 0),(8,tI)],[(2,.box [.nil,.nil,.nil,.nil]),(3,.box [.ci .i64 0,.nil,.nil,.nil,.nil,.nil,.nil,.nil]),(6,.box [tI,.arr 50061,.arr 100061,.arr 150061,.arr 200061,.arr 250061,.arr 300061,.arr 350061]),(50013,.box [.l 1,tI]),(50015,.box [.arr 100015,.arr 150015,.arr 200015,.arr 250015,.arr 300015,.arr 350015,.arr 400015]),(50061,.arr 73 5),(100015,.arr 9 1),(100061,.arr 111 2),(150015,.arr 9 1),(150061,.arr 84 4),(200015,.arr 86 5),(200061,.arr 81 7),(250015,.arr 176 6),(250061,.arr 104 4),(300015,.arr 22 1),(300061,.arr 89 5),(350015,.arr 22 1),(350061,.arr 91 3),(400015,.arr 22 1)]⟩ [yI,yI,yL,yI,yL,yL,yL,yL,yL,yL,yL,yL,yL,yL,yL,yL,yL,yL] (fun m R k a e b c f p g q h i d r j s l t o u=>Ur n e f g h i j l o (fun a v b c d=>k (.exit 2) ⟨225,[(2,.ptr 2 0),(3,.ptr 3 0),(4,.ptr 50013 0),(5,.ptr 50015 0),(6,.ptr 6 0),(8,dI a),(71,dB v)],[(2,.box [.nil,.nil,.nil,.nil]),(3,.box [dI (0:Int),.nil,.nil,.nil,.nil,.nil,.nil,.nil]),(6,.box [dI e,.arr 50061,.arr 100061,.arr 150061,.arr 200061,.arr 250061,.arr 300061,.arr 350061]),(50013,.box [dL 1 b,dI c]),(50015,.box [.arr 100015,.arr 150015,.arr 200015,.arr 250015,.arr 300015,.arr 350015,.arr 400015]),(50061,.arr 73 5 f),(100015,.arr 9 1 p),(100061,.arr 111 2 g),(150015,.arr 9 1 q),(150061,.arr 84 4 h),(200015,.arr 86 5 i),(200061,.arr 81 7 d),(250015,.arr 176 6 r),(250061,.arr 104 4 j),(300015,.arr 22 1 s),(300061,.arr 89 5 l),(350015,.arr 22 1 t),(350061,.arr 91 3 o),(400015,.arr 22 1 u)]⟩) m a b c d) m
noncomputable def AJ (n:Nat) (m:Nat):LpE Tryz.prog:=mkL (JJ n).ok nT 22 L5 ⟨225,[(2,.ptr 2 0),(3,.ptr 3 0),(4,.ptr 50013 0),(5,.ptr 50015 0),(6,.ptr 6 0),(10,tI)],[(2,.box [.nil,.nil,.nil,.nil]),(3,.box [tI,.nil,.nil,.nil,.nil,.nil,.nil,.nil]),(6,.box [tI,.arr 50061,.arr 100061,.arr 150061,.arr 200061,.arr 250061,.arr 175,.arr 350061]),(175,.arr 89 5),(50013,.box [.l 1,tI]),(50015,.box [.arr 100015,.arr 150015,.arr 200015,.arr 250015,.arr 300015,.arr 350015,.arr 400015]),(50061,.arr 73 5),(100015,.arr 9 1),(100061,.arr 111 2),(150015,.arr 9 1),(150061,.arr 84 4),(200015,.arr 86 5),(200061,.arr 81 7),(250015,.arr 176 6),(250061,.arr 104 4),(300015,.arr 22 1),(350015,.arr 22 1),(350061,.arr 91 3),(400015,.arr 22 1)]⟩ [yI,yI,yI,yL,yL,yI,yL,yL,yL,yL,yL,yL,yL,yL,yL,yL,yL,yL,yL] (fun m R k a f g h b c i e j l o p q r s t u d v=>WJ n e (fun a x b c d=>k (.exit 4) ⟨225,[(2,.ptr 2 0),(3,.ptr 3 0),(4,.ptr 50013 0),(5,.ptr 50015 0),(6,.ptr 6 0),(10,dI a),(180,dB x)],[(2,.box [.nil,.nil,.nil,.nil]),(3,.box [dI f,.nil,.nil,.nil,.nil,.nil,.nil,.nil]),(6,.box [dI g,.arr 50061,.arr 100061,.arr 150061,.arr 200061,.arr 250061,.arr 175,.arr 350061]),(175,.arr 89 5 h),(50013,.box [dL 1 b,dI c]),(50015,.box [.arr 100015,.arr 150015,.arr 200015,.arr 250015,.arr 300015,.arr 350015,.arr 400015]),(50061,.arr 73 5 i),(100015,.arr 9 1 e),(100061,.arr 111 2 j),(150015,.arr 9 1 l),(150061,.arr 84 4 o),(200015,.arr 86 5 p),(200061,.arr 81 7 q),(250015,.arr 176 6 r),(250061,.arr 104 4 s),(300015,.arr 22 1 t),(350015,.arr 22 1 u),(350061,.arr 91 3 d),(400015,.arr 22 1 v)]⟩) m a b c d) m
noncomputable def Q0k (n:Nat) (m:Nat):LpE Tryz.prog:=mkL (JJ n).ok nT 22 L5 ⟨225,[(2,.ptr 2 0),(3,.ptr 3 0),(4,.ptr 50013 0),(5,.ptr 50015 0),(6,.ptr 6 0),(10,tI)],[(2,.box [.nil,.nil,.nil,.nil]),(3,.box [tI,.nil,.nil,.nil,.nil,.nil,.nil,.nil]),(6,.box [tI,.arr 50061,.arr 100061,.arr 150061,.arr 200061,.arr 250061,.arr 300061,.arr 350061]),(50013,.box [.l 1,tI]),(50015,.box [.arr 100015,.arr 150015,.arr 200015,.arr 250015,.arr 300015,.arr 350015,.arr 400015]),(50061,.arr 73 5),(100015,.arr 9 1),(100061,.arr 111 2),(150015,.arr 9 1),(150061,.arr 84 4),(200015,.arr 86 5),(200061,.arr 81 7),(250015,.arr 176 6),(250061,.arr 104 4),(300015,.arr 22 1),(300061,.arr 89 5),(350015,.arr 22 1),(350061,.arr 91 3),(400015,.arr 22 1)]⟩ [yI,yI,yI,yL,yI,yL,yL,yL,yL,yL,yL,yL,yL,yL,yL,yL,yL,yL,yL] (fun m R k a f g b c h e i j l o p q r s t u d v=>JI n e (fun a x b c d=>k (.exit 4) ⟨225,[(2,.ptr 2 0),(3,.ptr 3 0),(4,.ptr 50013 0),(5,.ptr 50015 0),(6,.ptr 6 0),(10,dI a),(180,dB x)],[(2,.box [.nil,.nil,.nil,.nil]),(3,.box [dI f,.nil,.nil,.nil,.nil,.nil,.nil,.nil]),(6,.box [dI g,.arr 50061,.arr 100061,.arr 150061,.arr 200061,.arr 250061,.arr 300061,.arr 350061]),(50013,.box [dL 1 b,dI c]),(50015,.box [.arr 100015,.arr 150015,.arr 200015,.arr 250015,.arr 300015,.arr 350015,.arr 400015]),(50061,.arr 73 5 h),(100015,.arr 9 1 e),(100061,.arr 111 2 i),(150015,.arr 9 1 j),(150061,.arr 84 4 l),(200015,.arr 86 5 o),(200061,.arr 81 7 p),(250015,.arr 176 6 q),(250061,.arr 104 4 r),(300015,.arr 22 1 s),(350015,.arr 22 1 u),(350061,.arr 91 3 d),(400015,.arr 22 1 v),(300061,.arr 89 5 t)]⟩) m a b c d) m
noncomputable def Q0A (n:Nat):EnP Tryz.prog 6:=mkE (JJ n).ok [Ai n n,BQ n n,orL (AJ n n) (Q0k n n)] 6 Tryz.f6 [[1,1,5,6],[0,5,2,4,7,4,5,3]] [sL 1] [eT 2,eA [qL 1,qL 1,qL 5,qL 6],eA [qI,qL 5,qL 2,qL 4,qL 7,qL 4,qL 5,qL 3]] (pK (RZ n))

end Go.Vx
namespace Go.Vx
open Go.RowKit Go.Maps Go.WideMaps
theorem XM {P:Program} {f:Nat} {e:GC} (hE:Ul P f e) {ak:List AV} {dl:Dl} (h:e Dl 0 true ak (fun _=>none) some=some dl):Z9 P f ak (fun _=>none) dl:=by
 obtain ⟨d,k1,a⟩:=hE Dl 0 true ak _ some dl h;cases k1;exact a rfl
theorem Fm {P:Program} {f:Nat} {ak:List AV} {hl:Nat->Option Ob} {av:AV} (h:Z9 P f ak hl ⟨av,[],[]⟩) {S:Nat->Prop} {w:World} (hS:∀ b,S b->b<w.heap.size) {args:List Value} (hA:ArgsRd (fun _=>none) S (fun _=>none) w args ak) :
  Calls P f args.toArray w fun e w'=>∃ v S',e = .returned v/\RdA (fun _=>none) S' (fun _=>none) w' tm0 v av/\RowKit.Below w.heap.size w w':=by
 refine (h.2 (fun _=>none) S (fun _=>none) w args ⟨fun l o h=>(by cases h),fun l l' b h=>(by cases h),fun l b h=>(by cases h),hS⟩ hA (fun l hl=>(by rcases hl with hl | hl <;> simp [wrL] at hl))).mono fun e w' ⟨v,β',S',he,hc⟩=>?_
 have hβ:β'=fun _=>none:=funext fun l=>hc.bsame l (by simp [wrL])
 subst hβ;refine ⟨v,S',he,?_,⟨hc.fr.os,hc.fr.tape,hc.fr.output,hc.fr.size,fun b hb=>hc.fr.block b hb (fun ⟨l,a,_⟩=>by simp [wrL] at a)⟩⟩;exact hc.res.mono (fun _ h=>h) (fun _ _=>rfl) (fun l _=>⟨rfl,fun h=>h,fun e s rows h=>(by cases h),fun b cs ty fz h=>(by cases h),fun t f h=>(by cases h)⟩) (fun _ _=>rfl)
theorem Hi {P:Program} {f:Nat} {ak:List AV} {hl:Nat->Option Ob} {r:Bool} (h:Z9 P f ak hl ⟨.d (D.bool r),[],[]⟩) {S:Nat->Prop} {w:World} (hS:∀ b,S b->b<w.heap.size) {args:List Value} (hA:ArgsRd (fun _=>none) S (fun _=>none) w args ak) :
  Calls P f args.toArray w fun e w'=>e = .returned (.bool r)/\RowKit.Below w.heap.size w w':=by
 refine (Fm h hS hA).mono fun e w' ⟨v,S',he,hr,hb⟩=>⟨?_,hb⟩
 cases hr with
 |d v x hx=>cases hx;exact he
 |dang v av l hl=>cases hl
theorem VO {P:Program} {f:Nat} {ak:List AV} {hl:Nat->Option Ob} {k:IntKind} {r:Int} (h:Z9 P f ak hl ⟨.d (D.int k r),[],[]⟩) {S:Nat->Prop} {w:World} (hS:∀ b,S b->b<w.heap.size) {args:List Value} (hA:ArgsRd (fun _=>none) S (fun _=>none) w args ak) :
  Calls P f args.toArray w fun e w'=>e = .returned (.int k r)/\RowKit.Below w.heap.size w w':=by
 refine (Fm h hS hA).mono fun e w' ⟨v,S',he,hr,hb⟩=>⟨?_,hb⟩
 cases hr with
 |d v x hx=>cases hx;exact he
 |dang v av l hl=>cases hl
def Bz (w:World) (P:Program) (b n:Nat) (ak:List (List UInt8)):Prop:=
 ∃ D:DataW Unit,w.ownsMap P 9 (plainElem P 4) b n D/\Go.Maps.IsMap D/\∀ s,D.atKey (.string s) (.lit (.bool false)) = .lit (.bool (ak.contains s))
theorem Bz.made (P:Program) (w:World):Bz (w.alloc (.map #[] 0)) P w.heap.size 0 []:=
 ⟨.map [],World.ownsMap_made w P 9 _,Go.Maps.isMap_empty,fun s=>rfl⟩
section
variable {P:Program} (h9:P.underlying 9=some .string) (h4:P.underlying 4=some .bool) {T:TypeId} (hT:P.underlying T=some (.map 9 4))
include h9 h4 hT
theorem Bz.lookup {w:World} {b n:Nat} {ak:List (List UInt8)} (h:Bz w P b n ak) (hz:(zeroValue 4).run P w = .ok (.bool false) w) {s:List UInt8} (hs:s.length<=maxLen) :
  (Instr.lookup T (.map (some b)) (.string ⟨⟨s⟩⟩) false).run P w = .ok (.bool (ak.contains s)) w:=by
 obtain ⟨D,hD,_,hat⟩:=h;obtain ⟨v,ps,an,hv⟩:=hD.lookup (string_keyed h9) hT hz (zd:=.lit (.bool false)) (zp:=[]) (plainElem_bool h4 false) (keyOf_string_mk (s:=⟨⟨s⟩⟩) h9 hs);have e:=hat s;simp only at hv;rw [e] at hv;unfold plainElem at hv;rw [h4] at hv;cases v <;> simp at hv;rw [an,hv.1];simp
theorem Bz.update {w:World} {b n:Nat} {ak:List (List UInt8)} (h:Bz w P b n ak) (hn:n<maxLen) {s:List UInt8} (hs:s.length<=maxLen) :
  ∃ w',(Instr.mapUpdate T (.map (some b)) (.string ⟨⟨s⟩⟩) (.bool true)).run P w = .ok () w'/\Bz w' P b (n+1) (s::ak)/\w.grownBy w' (some b):=by
 obtain ⟨D,hD,hm,hat⟩:=h;obtain ⟨w',an,am,hg⟩:=hD.update (string_keyed h9) hT hn (keyOf_string_mk (s:=⟨⟨s⟩⟩) h9 hs) (plainElem_bool (H:=Unit) h4 true);refine ⟨w',an,⟨_,am,hm.put _ _,fun t=>?_⟩,hg⟩;have hk:WideAt.IsKeyLit (.string s):=(string_keyed h9).key (keyOf_string_mk (s:=⟨⟨s⟩⟩) h9 hs);by_cases e:t=s
 ·subst e;rw [show (ByteArray.mk ⟨t⟩).data.toList=t from rfl,Go.Maps.atKey_put_same hm hk];simp
 ·rw [show (ByteArray.mk ⟨s⟩).data.toList=s from rfl,Go.Maps.atKey_put_other (by simpa using e),hat t];simp [e]
end
theorem Bz.kept {P:Program} {w w':World} {b n:Nat} {ak:List (List UInt8)} {row:Option Nat} (h:Bz w P b n ak) (hg:w.grownBy w' row) (am:some b≠row):Bz w' P b n ak:=by
 obtain ⟨D,hD,hm,hat⟩:=h;exact ⟨D,hD.kept hg am,hm,hat⟩
theorem Bz.lt {P:Program} {w:World} {b n:Nat} {ak:List (List UInt8)} (h:Bz w P b n ak):b<w.heap.size:=by
 obtain ⟨D,hD,hm,hat⟩:=h;exact hD.lt
theorem Zc {w w':World} (h:RowKit.Below w.heap.size w w'):w.grownBy w' none:=⟨h.os,h.tape,h.output,h.size,fun b hb _=>h.block b hb⟩
def Vy:Code->List Code
 |.region i o d=>[.region i o d]
 |.loop c=>Vy c
 |.seq a b=>Vy a++Vy b
 |.block _ c=>Vy c
 |.scope c=>Vy c
 |.cond _ a b=>Vy a++Vy b
 |_=>[]
def Q22 (Q:Act->World->Prop):Exit->Act->World->Prop
 |.normal,a,w=>Q a w
 |_,_,_=>False
theorem SQ {P : Program} {f : Nat} {fn : Func} (hf : P.funcs[f]? = some fn) (hb : fn.body.isSome = true) (hn : (fn.name == "runtime.NumGoroutine") = false) {avs : List AV} {av : AV} {hl : Nat -> Option Ob} {rd : List Nat} (hlf : lf av = true) (hA : lfL avs = true)
  (h:∀ (S:Nat->Prop) (w:World) (args:List Value),(∀ b,S b->b<w.heap.size)->ArgsRd (fun _=>none) S (fun _=>none) w args avs->Calls P f args.toArray w fun e w'=>∃ (v:Value) (S':Nat->Prop),e = .returned v/\(∀ b,S b->S' b)/\(∀ b,S' b->S b\/w.heap.size<=b)/\(∀ b,S' b->b<w'.heap.size) /\
   RdA (fun _=>none) S' (fun _=>none) w' tm0 v av/\RowKit.Below w.heap.size w w'):Z9 P f avs hl ⟨av,[],rd⟩:=by
 refine ⟨⟨fn,hf,hb,hn⟩,fun β S h' w args hO hAr _=>?_⟩;refine (h S w args hO.sb ⟨hAr.1,fun i v av' a h2=>RP (DU hA h2) (fun _ h=>h) (fun _ _=>rfl) (hAr.2 i v av' a h2)⟩).mono fun e w' ⟨v,S',he,hs,hsf,hsb,hr,hbel⟩=>?_
 refine ⟨v,β,S',he,⟨hs,fun b hS=>(hsf b hS).elim .inl fun h=>.inr (.inl h),hsb,Q1t hbel,fun _ _=>rfl,fun l o hl'=>by simp [wrL] at hl',fun l hl'=>by simp [wrL] at hl',fun l b hl'=>by simp [wrL] at hl',fun l l' b hl'=>by simp [wrL] at hl',fun l hl'=>by simp [wrL] at hl',?_,fun t=>Q0o t _ hlf⟩⟩;exact RP hlf (fun _ h=>h) (fun _ _=>rfl) hr
end Go.Vx
namespace Go.Vx
def dV:D->Value
 |.int k n=>.int k n
 |.bool b=>.bool b
 |.str s=>.string ⟨⟨s⟩⟩
 |.sl _ _=>undef
def cellsOf (l:LL):List Value:=l.flatMap fun r=>r.map dV
theorem Q0g (l:LL) (r:List D):cellsOf (l++[r])=cellsOf l++r.map dV:=by simp [cellsOf]
structure NestK (e1 e2 k:Nat) (w:World) (B:Nat) (v:Value) (hd:List Value) (ll:List LL):Prop where
 row:w.ownsRow B e1 1 v ll.length hd
 each:∀ (i:Nat) (h:Value) (l:LL),hd[i]? = some h->ll[i]? = some l->w.ownsRow B e2 k h l.length (cellsOf l)
 outer:∀ (i:Nat) (h:Value) (b:Nat),hd[i]? = some h->h.ownBlock=some b->v.ownBlock≠some b
 apart:∀ (i j:Nat) (h h':Value) (b:Nat),hd[i]? = some h->hd[j]? = some h'->h.ownBlock=some b->h'.ownBlock=some b->i=j
section
variable {e1 e2 k:Nat}
theorem NestK.len {w:World} {B:Nat} {v:Value} {hd:List Value} {ll:List LL} (h:NestK e1 e2 k w B v hd ll):hd.length=ll.length:=by have:=h.row.1;omega
theorem NestK.kept {w w':World} {B:Nat} {v:Value} {hd:List Value} {ll:List LL} {row:Option Nat} (h:NestK e1 e2 k w B v hd ll) (hg:w.grownBy w' row)
  (a:v.ownBlock=none\/v.ownBlock≠row) (h2:∀ x∈hd,x.ownBlock=none\/x.ownBlock≠row):NestK e1 e2 k w' B v hd ll:=
 ⟨h.row.kept hg a,fun i x l hx hl=>(h.each i x l hx hl).kept hg (h2 x (Qdx hx)),h.outer,h.apart⟩
theorem NestK.blk {w:World} {B:Nat} {v:Value} {hd:List Value} {ll:List LL} (h:NestK e1 e2 k w B v hd ll) {i:Nat} {x:Value} {b:Nat} (hx:hd[i]? = some x) (hb:x.ownBlock=some b):B<=b/\b<w.heap.size:=by
 have hi:i<ll.length:=by rw [<- h.len];exact (Qdw.1 hx).1
 exact (h.each i x ll[i] hx (Qdz hi)).lt b hb
theorem Q04 {w:World} {base e n:Nat} {v:Value} {xs:List Value} {b i:Nat} (h:w.ownsRow base e 1 v n xs) (hb:v.ownBlock=some b) (hi:i<n) (u:Value):(w.setCell ⟨b,i,none⟩ u).ownsRow base e 1 v n (xs.set i u):=by
 obtain ⟨a,h2⟩:=h;refine ⟨by simpa using a,?_⟩;rcases h2 with ⟨rfl,rfl⟩ | ⟨g,cap,ak,rfl,hg,hh,hn,hc,hs,ht⟩
 ·omega
 ·simp [Value.ownBlock] at hb;subst hb;refine .inr ⟨g,cap,_,rfl,hg,heap_setCell_same w g i ak e u hh,hn,hc,by simpa using hs,?_⟩;rw [<- ht];simp [List.take_set]
theorem Ru {w:World} {base e s n:Nat} {v:Value} {xs:List Value} (h:w.ownsRow base e s v n xs) {a:Addr} (ha:v.ownBlock≠some a.block) (u:Value):(w.setCell a u).ownsRow base e s v n xs:=by
 refine ⟨h.1,?_⟩;rcases h.2 with h2 | ⟨g,cap,ak,rfl,hg,hh,hn,hc,hs,ht⟩
 ·exact .inl h2
 ·refine .inr ⟨g,cap,ak,rfl,hg,?_,hn,hc,hs,ht⟩;rw [heap_setCell_other w a g u (fun e=>ha (by simp [Value.ownBlock,e]))];exact hh
theorem NestK.grow {w w1:World} {B:Nat} {v x x':Value} {hd:List Value} {ll:List LL} {l:LL} {s:List D} {g H i vb:Nat} (h:NestK e1 e2 k w B v hd ll)
  (hx:hd[i]? = some x) (hl:ll[i]? = some l) (a7:w1.ownsRow B e2 k x' (l.length+1) (cellsOf l++s.map dV)) (hg:w.grownBy w1 x.ownBlock) (am:x'.ownBlock=some g) (hat:x.ownBlock=some g\/g=H) (hH:w.heap.size=H)
  (hv:v.ownBlock=some vb):NestK e1 e2 k (w1.setCell ⟨vb,i,none⟩ x') B v (hd.set i x') (ll.set i (l++[s])):=by
 have hi:i<ll.length:=(Qdw.1 hl).1;have bd:=(h.row.lt vb hv).2;have a8:g≠vb:=by
  intro e;subst e;rcases hat with a | a
  ·exact h.outer i x g hx a hv
  ·omega
 have aq:w1.ownsRow B e1 1 v ll.length hd:=by
  refine h.row.kept hg (.inr fun e=>?_);rw [hv] at e;exact h.outer i x vb hx e.symm hv
 have ax:∀ (j:Nat) (y:Value) (b:Nat),hd[j]? = some y->y.ownBlock=some b->j≠i->b≠g:=by
  intro j y b hy hb a9 e;subst e;rcases hat with a | a
  ·exact a9 (h.apart j i y x b hy hx hb a)
  ·have:=(h.blk hy hb).2;omega
 refine ⟨?_,fun j y k hy hk=>?_,fun j y b hy hb=>?_,fun j k y z b hy hz ao an=>?_⟩
 ·rw [List.length_set];exact Q04 aq hv hi x'
 ·rw [QdR] at hy hk;by_cases e:i=j
  ·subst e;have a:i<hd.length:=by rw [h.len];exact hi
   simp only [if_true,a,hi,Option.some.injEq] at hy hk;subst hy hk;refine Ru (by simpa [Q0g] using a7) ?_ _;rw [am];intro e;exact a8 (Option.some.inj e)
  ·rw [if_neg e] at hy hk;refine Ru ((h.each j y k hy hk).kept hg ?_) ?_ _
   ·cases hb:y.ownBlock with
    |none=>exact .inl rfl
    |some b=>exact .inr fun e2=>e (h.apart j i y x b hy hx hb e2.symm).symm
   ·intro e2;exact h.outer j y vb hy e2 hv
 ·rw [QdR] at hy;by_cases e:i=j
  ·subst e;have a:i<hd.length:=by rw [h.len];exact hi
   simp only [if_true,a,Option.some.injEq] at hy;subst hy;rw [am] at hb;cases hb;rw [hv];intro e2;exact a8 (Option.some.inj e2).symm
  ·rw [if_neg e] at hy;exact h.outer j y b hy hb
 ·rw [QdR] at hy hz;have a:i<hd.length:=by rw [h.len];exact hi
  by_cases e:i=j
  ·by_cases e2:i=k
   ·omega
   ·subst e;rw [if_neg e2] at hz;simp only [if_true,a,Option.some.injEq] at hy;subst hy;rw [am] at ao;cases ao;exact absurd rfl (ax k z g hz an (fun h=>e2 h.symm))
  ·rw [if_neg e] at hy;by_cases e2:i=k
   ·subst e2;simp only [if_true,a,Option.some.injEq] at hz;subst hz;rw [am] at an;cases an;exact absurd rfl (ax j y g hy ao (fun h=>e h.symm))
   ·rw [if_neg e2] at hz;exact h.apart j k y z b hy hz ao an
end
def MX (k:Nat) (r:List D):Bool:=Nat.beq r.length k&&r.all fun | .int .i64 _=>true | _=>false
theorem Ca {k:Nat}:∀ (l:LL) (i j:Nat) (r:List D) (x:D),(∀ r∈l,r.length=k)->l[i]? = some r->r[j]? = some x->(cellsOf l)[i*k+j]? = some (dV x)
 |[],i,j,r,x,_,a,_=>by simp at a
 |b::l,0,j,r,x,hk,a,h2=>by
  simp only [Qdv,Option.some.injEq] at a;subst a;have hj:=(Qdw.1 h2).1;simp only [cellsOf,List.flatMap_cons,Nat.zero_mul,QdQ];rw [List.getElem?_append_left (by simpa using hj),List.getElem?_map,h2];rfl
 |b::l,i+1,j,r,x,hk,a,h2=>by
  have ih:=Ca l i j r x (fun q hq=>hk q (by simp [hq])) (by simpa using a) h2;have c:=hk b (by simp);simp only [cellsOf,List.flatMap_cons];rw [List.getElem?_append_right (by simp [c];rw [Nat.succ_mul];omega)];rw [show (i+1)*k+j-(b.map dV).length=i*k+j by simp [c];rw [Nat.succ_mul];omega];exact ih
theorem Q9u {w:World} {B e k:Nat} {x:Value} {l:LL} (h:w.ownsRow B e k x l.length (cellsOf l)) (hk:∀ r∈l,MX k r=true) {S:Nat->Prop} (hS:∀ b,x.ownBlock=some b->S b):Rd S w x (.sl k l):=by
 have ak:∀ r∈l,r.length=k:=fun r hr=>by
  have:=hk r hr;simp only [MX,QdG] at this;exact Nat.eq_of_beq_eq_true this.1
 rcases h.2 with ⟨rfl,c⟩ | ⟨g,cap,am,rfl,hg,hh,hn,hc,hs,ht⟩
 ·have:l=[]:=List.eq_nil_of_length_eq_zero c;subst this;exact .sl0 none 0 k
 ·refine .sl ⟨g,0,none⟩ cap k l (fun i j=>dV ((l.getD i []).getD j (.bool false))) (hS g rfl) hn (fun i r hi=>ak r (Qdx hi)) (fun i j r y hi hj=>?_) (fun i j r y hi hj=>?_)
  ·have a:=Ca l i j r y ak hi hj;have aq:i*k+j<am.size:=by
    have d:=(Qdw.1 a).1;rw [h.1] at d;have:l.length*k<=cap*k:=Nat.mul_le_mul_right k hn;omega
   rw [JS,QdQ,cell_of_row w g (i*k+j) am e (0,0) hh];rw [<- ht,List.getElem?_take] at a;split at a
   ·rw [<- Array.getElem?_toList,a];simp [List.getD,hi,hj]
   ·cases a
  ·have hq:=hk r (Qdx hi);simp only [MX,QdG,List.all_eq_true] at hq;have hy:=hq.2 y (Qdx hj);simp only [List.getD,hi,hj,Option.getD_some];split at hy
   ·exact .int _ _
   ·cases hy
end Go.Vx
set_option maxRecDepth 100000
namespace Go.Vx
open Go.Proofs
noncomputable def KX (n:Nat):VB:=Xa [] [cO 0 [2,3] [2,3],cK 1 [4]]
noncomputable def Vv (n:Nat):EnP Tryz.prog 130:=mkE (KX n).ok nT 130 Tryz.f130 [[0]] [eA [qL 1,qL 1,qL 5,qL 6],eA [qT,qI,qI,qI,qI]] [sB] (pK (X9 n))
noncomputable def Md (n:Nat):VB:=Xa [] [cK 0 [0],cK 1 [2]]
noncomputable def LX (n:Nat):EnP Tryz.prog 132:=mkE (Md n).ok nT 132 Tryz.f132 [[0]] [eD (.i .u8)] [sB] (pK (KQ n))

noncomputable def Lt (n:Nat):VB:=Xa [] [cK 0 [0],cK 1 [2]]
noncomputable def ED (n:Nat):EnP Tryz.prog 133:=mkE (Lt n).ok nT 133 Tryz.f133 [[0]] [eD (.i .u8)] [sB] (pK (N3 n))

noncomputable def Nv (n:Nat):VB:=Xa [⟨132,LX n⟩,⟨133,ED n⟩] [cK 0 [0],cK 1 [0,17],cK 2 [2],cK 3 [0,19,20],cK 4 [0,19,20,21],cK 5 [0,3,19,20],cK 6 [0,19,20,40],cK 7 [2],cK 8 [0,19,20],cK 9 [2]]
noncomputable def Bo (n:Nat) (m:Nat):LpE Tryz.prog:=mkL (Nv n).ok nT 4 (cA [1,1,0,1,2,2] (Q6 Tryz.f95)) ⟨42,[(0,.t),(19,tI),(20,tI)],[]⟩ [yT,yI,yI] (fun m R k b c a=>HF n b c (k .ret ⟨42,[(2,dB false)],[]⟩) (fun a d=>k (.exit 0) ⟨42,[(0,dT b),(19,dI c),(20,dI a),(21,dB d)],[]⟩) m a) m
noncomputable def Ko (n:Nat):EnP Tryz.prog 95:=mkE (Nv n).ok [Bo n n] 95 Tryz.f95 [[0]] [sT] [sB] (pK (Jm n))

end Go.Vx
namespace Go.Vx
open Go.Proofs Go.RowKit
theorem Q3l {n:Nat} {s:List UInt8} (h:Jm n s some=some true) (w:World):Calls Tryz.prog 95 #[.string ⟨⟨s⟩⟩] w fun e w'=>e = .returned (.bool true)/\RowKit.Below w.heap.size w w':=by
 have he:(Ko n).E Dl 0 true [.d (.str s)] (fun _=>none) some=some ⟨.d (.bool true),[],[]⟩:=by
  show gb true (Jm n s some) false (fun r=>(some ⟨.d (D.bool r),[],[]⟩:Option Dl))=_;rw [h];rfl
 refine Hi (XM ((Ko n).ok) he) (S:=fun _=>False) (fun _ h=>h.elim) (args:=[.string ⟨⟨s⟩⟩]) ⟨rfl,fun i v av a h2=>?_⟩
 match i,a,h2 with
 |0,a,h2=>
  simp only [Qdv,Option.some.injEq] at a h2;subst a h2;exact .d _ _ (.str ⟨⟨s⟩⟩)
set_option maxHeartbeats 4000000 in
set_option maxRecDepth 100000 in
theorem Tryz.checkName_calls {N:Nat} (w:World) (b n:Nat) (ak:List (List UInt8)) (s:List UInt8) (h:Bz w Tryz.prog b n ak) (hn:n<1000) (hs:Q6D N ak s=true) :
  Calls Tryz.prog 129 #[.string ⟨⟨s⟩⟩,.map (some b)] w fun e w'=>e = .returned (.int .i64 0)/\Bz w' Tryz.prog b (n+1) (s::ak)/\w.grownBy w' (some b):=by
 simp only [Q6D,QdG,Bool.not_eq_true'] at hs;obtain ⟨⟨hl,hN⟩,hc⟩:=hs;have hl:=QdD hl;have ao:s.length<=maxLen:=by unfold maxLen;omega
 have ar:n<maxLen:=by unfold maxLen;omega
 have hz:∀ w:World,(zeroValue 4).run Tryz.prog w = .ok (.bool false) w:=fun w=>by kernel_rfl
 go_enter Tryz.func129,Tryz.ntmps129
 go_wp2_with (go_at_call 95;refine (Q3l (Pu hN) _).mono ?_)
 rintro e w1 ⟨rfl,hB⟩;have c:=h.kept (Zc hB) (by simp);have an:=c.lookup Tryz.underlying9 Tryz.underlying4 Tryz.underlying202 (hz w1) ao;rw [hc] at an;obtain ⟨w2,au,h2,a⟩:=c.update Tryz.underlying9 Tryz.underlying4 Tryz.underlying202 ar ao
 go_wp2
 refine bodyPost_ret (results_tmp rfl _ _ _) rfl ?_;exact ⟨rfl,h2,⟨a.os.trans hB.os,a.tape.trans hB.tape,a.output.trans hB.output,QdP hB.size a.size,fun k hk aq=>(a.block k (QdF hk hB.size) aq).trans (hB.block k hk)⟩⟩
theorem Q45 {β:Nat->Option Nat} {S:Nat->Prop} {h:Nat->Option Ob} {w:World} {b:Value} {a0:AV} (c:RdA β S h w tm0 b a0):ArgsRd β S h w [b] [a0]:=by
 refine ⟨rfl,fun i v av a h2=>?_⟩
 match i,a,h2 with
 |0,a,h2=>simp only [Qdv,Option.some.injEq] at a h2;subst a h2;exact c
theorem G6 {β:Nat->Option Nat} {S:Nat->Prop} {h:Nat->Option Ob} {w:World} {b c:Value} {a0 a1:AV} (d:RdA β S h w tm0 b a0) (ak:RdA β S h w tm0 c a1):ArgsRd β S h w [b,c] [a0,a1]:=by
 refine ⟨rfl,fun i v av a h2=>?_⟩
 match i,a,h2 with
 |0,a,h2=>simp only [Qdv,Option.some.injEq] at a h2;subst a h2;exact d
 |1,a,h2=>simp only [QdA,Qdv,Option.some.injEq] at a h2;subst a h2;exact ak
theorem Q7i {β:Nat->Option Nat} {S:Nat->Prop} {h:Nat->Option Ob} {w:World} {b c d:Value} {a0 a1 a2:AV} (e:RdA β S h w tm0 b a0) (am:RdA β S h w tm0 c a1) (ak:RdA β S h w tm0 d a2):ArgsRd β S h w [b,c,d] [a0,a1,a2]:=by
 refine ⟨rfl,fun i v av a h2=>?_⟩
 match i,a,h2 with
 |0,a,h2=>simp only [Qdv,Option.some.injEq] at a h2;subst a h2;exact e
 |1,a,h2=>simp only [QdA,Qdv,Option.some.injEq] at a h2;subst a h2;exact am
 |2,a,h2=>simp only [QdA,Qdv,Option.some.injEq] at a h2;subst a h2;exact ak
inductive RdLs (S:Nat->Prop) (w:World):List Value->List D->Prop
 |nil:RdLs S w [] []
 |cons {v:Value} {x:D} {vs:List Value} {xs:List D} (h:Rd S w v x) (t:RdLs S w vs xs):RdLs S w (v::vs) (x::xs)
theorem RdLs.agg {S:Nat->Prop} {w:World}:∀ {vs:List Value} {xs:List D},RdLs S w vs xs->RdA (fun _=>none) S (fun _=>none) w tm0 (.agg vs.toArray) (.ag (xs.map .d))
 |vs,xs,h=>by
  have hl:∀ {vs:List Value} {xs:List D},RdLs S w vs xs->vs.length=xs.length:=by
   intro vs xs h;induction h with
   |nil=>rfl
   |cons _ _ ih=>simp [ih]
  have hr:∀ {vs:List Value} {xs:List D},RdLs S w vs xs->∀ (i:Nat) (x:D),xs[i]? = some x->Rd S w (vs.toArray.getD i undef) x:=by
   intro vs xs h;induction h with
   |nil=>intro i x hx;simp at hx
   |cons a t ih=>
    intro i x hx;cases i with
    |zero=>simp only [Qdv,Option.some.injEq] at hx;subst hx;simpa using a
    |succ i=>
     have:=ih i x (by simpa using hx);simpa using this
  refine .ag _ _ (by simp [hl h]) fun i x hx=>?_
  rw [List.getElem?_map,QdM] at hx;obtain ⟨d,hd,rfl⟩:=hx;exact .d _ _ (hr h i d hd)
theorem Rd.keep {S:Nat->Prop} {w w':World} {v:Value} {x:D} {m:Nat} (h:Rd S w v x) (hS:∀ b,S b->b<m) (hw:∀ b,b<m->w'.heap[b]? = w.heap[b]?):Rd S w' v x:=h.mono (fun _ h=>h) fun b hb=>hw b (hS b hb)
theorem JK {S:Nat->Prop} {w:World} {v:Value} {k:Nat} {rows:LL} (h:Rd S w v (.sl k rows)):∃ ad cap,v = .slice ad rows.length cap:=by
 cases h with
 |sl0 a cap=>exact ⟨a,cap,rfl⟩
 |sl ad cap=>exact ⟨some ad,cap,rfl⟩
theorem Q4R {S:Nat->Prop} {w:World} {ad:Option Addr} {n cap k:Nat} {rows:LL} (h:Rd S w (.slice ad n cap) (.sl k rows)) {i:Nat} {row:List D} (hi:rows[i]? = some row) :
  ∃ a,ad=some a/\S a.block/\row.length=k/\∀ (j:Nat) (x:D),row[j]? = some x->∃ v,w.cell? (a.add (i*k+j))=some v/\Rd S w v x:=by
 cases h with
 |sl0 a cap=>simp at hi
 |sl a cap _ _ c hS am ak hc hr=>exact ⟨a,rfl,hS,ak i row hi,fun j x hx=>⟨_,hc i j row x hi hx,hr i j row x hi hx⟩⟩
theorem Ev {n:Nat} {w w1 w2:World} {b:Nat} (h:Below n w w1) (hn:n<=w.heap.size) (hb:n<=b) (hg:w1.grownBy w2 (some b)):Below n w w2:=
 ⟨hg.os.trans h.os,hg.tape.trans h.tape,hg.output.trans h.output,QdP h.size hg.size,fun k hk=>(hg.block k (by have:=h.size;omega) (by simp;omega)).trans (h.block k hk)⟩
theorem ZU {n:Nat} {w w1:World} (h:Below n w w1) (hn:n<=w.heap.size) (o:Obj):Below n w (w1.alloc o):=
 ⟨h.os,h.tape,h.output,by have:=h.size;simp;omega,fun k hk=>(QdK w1 o k (by have:=h.size;omega)).trans (h.block k hk)⟩
theorem WS {n:Nat} {w w1 w2:World} (h:Below n w w1) (hn:n<=w.heap.size) (h2:Below w1.heap.size w1 w2):Below n w w2:=
 ⟨h2.os.trans h.os,h2.tape.trans h.tape,h2.output.trans h.output,QdP h.size h2.size,fun k hk=>(h2.block k (by have:=h.size;omega)).trans (h.block k hk)⟩
theorem Gt (ad:Addr) (i j:Nat) (hj:j≠0):ad.add (i+j)=⟨(ad.add i).block,(ad.add i).off+j,none⟩:=by
 have a:(ad.add i).add j=ad.add (i+j):=by
  unfold Addr.add;by_cases hi:i=0 <;> simp [hi,hj,Nat.add_assoc]
 rw [<- a];generalize ad.add i=x;unfold Addr.add;rw [if_neg hj]
theorem Cr {N:Nat} {ak:List (List UInt8)} {l:LL} {j:Nat} (hj:j<l.length) (h:Kp N ak (l.drop j)=true) :
  ∃ s,l[j]? = some [D.str s]/\Q6D N ak s=true/\Kp N (s::ak) (l.drop (j+1))=true:=by
 rw [List.drop_eq_getElem_cons hj] at h;unfold Kp at h;split at h
 ·rename_i s e;simp only [QdG] at h;exact ⟨s,by rw [Qdz hj,e],h.1,h.2⟩
 ·cases h
theorem AG {N:Nat} {l0 l1 l2 f:LL} {ak:List (List UInt8)} {l:LL} {j:Nat} (hj:j<l.length) (h:KM N l0 l1 l2 f ak (l.drop j)=true) :
  ∃ s a b c d,l[j]? = some [D.str s,.int .i64 a,.int .i64 b,.int .i64 c,.int .i64 d]/\Q6D N ak s=true/\X9 N l0 l1 l2 f s a b c d some=some true/\KM N l0 l1 l2 f (s::ak) (l.drop (j+1))=true:=by
 rw [List.drop_eq_getElem_cons hj] at h;unfold KM at h;split at h
 ·rename_i s a b c d e;simp only [QdG] at h;exact ⟨s,a,b,c,d,by rw [Qdz hj,e],h.1.1,Pu h.1.2,h.2⟩
 ·cases h
theorem Q6C {S:Nat->Prop} {w:World} {v:Value} {s:List UInt8} (h:Rd S w v (.str s)):v = .string ⟨⟨s⟩⟩:=by cases h;rfl
theorem Ti {S:Nat->Prop} {w:World} {v:Value} {k:IntKind} {n:Int} (h:Rd S w v (.int k n)):v = .int k n:=by cases h;rfl
theorem Q2P {N:Nat} {l0 l1 l2 f:LL} {s:List UInt8} {a b c d:Int} (h:X9 N l0 l1 l2 f s a b c d some=some true) {S:Nat->Prop} {w:World} (hS:∀ b,S b->b<w.heap.size) {g i j k:Value}
  (l:Rd S w g (.sl 1 l0)) (m:Rd S w i (.sl 1 l1)) (h2:Rd S w j (.sl 5 l2)) (n:Rd S w k (.sl 6 f)) :
  Calls Tryz.prog 130 #[.agg #[g,i,j,k],.agg #[.string ⟨⟨s⟩⟩,.int .i64 a,.int .i64 b,.int .i64 c,.int .i64 d]] w fun e w'=>e = .returned (.bool true)/\RowKit.Below w.heap.size w w':=by
 have he:(Vv N).E Dl 0 true [.ag ([D.sl 1 l0,.sl 1 l1,.sl 5 l2,.sl 6 f].map .d),.ag ([D.str s,.int .i64 a,.int .i64 b,.int .i64 c,.int .i64 d].map .d)] (fun _=>none) some=some ⟨.d (.bool true),[],[]⟩:=by
  show gb true (X9 N l0 l1 l2 f s a b c d some) false (fun r=>(some ⟨.d (D.bool r),[],[]⟩:Option Dl))=_;rw [h];rfl
 exact Hi (XM ((Vv N).ok) he) hS (G6 (RdLs.agg (.cons l (.cons m (.cons h2 (.cons n .nil))))) (RdLs.agg (.cons (.str ⟨⟨s⟩⟩) (.cons (.int _ _) (.cons (.int _ _) (.cons (.int _ _) (.cons (.int _ _) .nil)))))))
set_option maxHeartbeats 8000000 in
set_option maxRecDepth 100000 in
theorem Tryz.layout_calls {N:Nat} (S:Nat->Prop) (w:World) (hS:∀ b,S b->b<w.heap.size) (l0 l1 l2 d:LL) (v x y z:Value) (h0:Rd S w v (.sl 1 l0)) (h1:Rd S w x (.sl 1 l1)) (h2:Rd S w y (.sl 5 l2)) (h3:Rd S w z (.sl 6 d)) (bu:KN N l0 l1 l2 d=true)
  (hL:∀ w':World,(∀ b,S b->b<w'.heap.size)->Rd S w' v (.sl 1 l0)->Rd S w' x (.sl 1 l1)->Rd S w' y (.sl 5 l2)->Rd S w' z (.sl 6 d)->Calls Tryz.prog 131 #[.agg #[v,x,y,z]] w' fun e b8=>e = .returned (.int .i64 0)/\Below w'.heap.size w' b8) :
  Calls Tryz.prog 94 #[.agg #[v,x,y,z]] w fun e w'=>e = .returned (.int .i64 0)/\Below w.heap.size w w':=by
 simp only [KN,QdG,Bool.not_eq_true'] at bu;obtain ⟨⟨⟨⟨⟨⟨⟨⟨m0,m1⟩,m2⟩,m3⟩,m4⟩,n0⟩,n1⟩,ns⟩,nl⟩:=bu;have m0:=QdD m0;have m1:=QdD m1;have m2:=QdD m2;have m3:=QdD m3;have m4:l2.length≠0:=fun e=>by rw [e] at m4;cases m4
 obtain ⟨f,g,rfl⟩:=JK h0;obtain ⟨h,m,rfl⟩:=JK h1;obtain ⟨p,o,rfl⟩:=JK h2;obtain ⟨q,r,rfl⟩:=JK h3;have q0:¬ (24:Int)<(l0.length:Int):=by omega
 have q1:¬ (48:Int)<(l1.length:Int):=by omega
 have q2:¬ (96:Int)<(l2.length:Int):=by omega
 have q3:¬ (192:Int)<(d.length:Int):=by omega
 have q4:¬ ((l2.length:Int)=0):=by omega
 have bd:(w.alloc (.cells #[.slice f l0.length g,.slice h l1.length m,.slice p l2.length o,.slice q d.length r] 27)).heap[w.heap.size]? = some (.cells #[.slice f l0.length g,.slice h l1.length m,.slice p l2.length o,.slice q d.length r] 27 (0,0)):=heap_alloc_new w _;have au:Below w.heap.size w (w.alloc (.cells #[.slice f l0.length g,.slice h l1.length m,.slice p l2.length o,.slice q d.length r] 27)):=ZU (Below.refl _ _) (QdI _) _;have bh:(w.alloc (.cells #[.slice f l0.length g,.slice h l1.length m,.slice p l2.length o,.slice q d.length r] 27)).heap.size=w.heap.size+1:=by simp
 have cu:∀ w:World,(Instr.makeMap 202 none).run Tryz.prog w = .ok (.map (some w.heap.size)) (w.alloc (.map #[] 0)):=fun w=>run_makeMap 202 w
 go_enter Tryz.func94,Tryz.ntmps94
 go_wp2
 generalize w.alloc (.cells #[.slice f l0.length g,.slice h l1.length m,.slice p l2.length o,.slice q d.length r] 27)=w1 at *
 go_loopw [40] (fun i wr=>∃ k:Nat,k<=2/\i = .int .i64 k/\Below (w.heap.size+1) w1 wr)
  (fun i _=>2-(intOf i).toNat)
 case atStart=>exact ⟨0,by omega,rfl,Below.refl _ _⟩
 case round=>
  obtain ⟨k,hk,rfl,hF⟩:=hrel;by_cases b5:k<2
  ·have cf:((k:Int)<2):=by omega
   obtain ⟨ad,l,cap,ce,hv,hl,hm⟩:∃ (ad:Option Addr) (l:LL) (cap:Nat),(∀ w:World,(Instr.index 201 (.agg #[.slice f l0.length g,.slice h l1.length m]) (.int .i64 k)).run Tryz.prog w = .ok (.slice ad l.length cap) w)/\Rd S w (.slice ad l.length cap) (.sl 1 l)/\Kp N [] l=true/\l.length<=48:=by
    obtain rfl | rfl:k=0\/k=1:=by omega
    ·exact ⟨f,l0,g,fun _=>rfl,h0,n0,by omega⟩
    ·exact ⟨h,l1,m,fun _=>rfl,h1,n1,by omega⟩
   have ag:w.heap.size+1<=wr.heap.size:=by have:=hF.size;omega
   have hM:=Bz.made Tryz.prog wr;have bi:=ZU hF (by omega) (.map #[] 0)
   go_wp2
   generalize wr.alloc (.map #[] 0)=w2 at *
   generalize wr.heap.size=b at *
   clear hF
   go_loopw [46] (fun i wr=>∃ (j:Nat) (ao:List (List UInt8)),j<=l.length/\i = .int .i64 j/\Bz wr Tryz.prog b j ao/\Kp N ao (l.drop j)=true/\Below (w.heap.size+1) w1 wr)
    (fun i _=>l.length-(intOf i).toNat)
   case atStart=>exact ⟨0,[],by omega,rfl,hM,hl,bi⟩
   case round=>
    obtain ⟨j,ao,hj,rfl,a9,bo,ar⟩:=hrel;by_cases a7:j<l.length
    ·have bz:((j:Int)<(l.length:Int)):=by omega
     obtain ⟨s,bc,hN,ax⟩:=Cr a7 bo;have bj:=Rd.keep (w':=wr) hv hS fun c hc=>(ar.block c (by omega)).trans (au.block c hc)
     obtain ⟨a,rfl,_,_,ak⟩:=Q4R bj bc;obtain ⟨u,hc,hu⟩:=ak 0 _ rfl;rw [Q6C hu,Nat.mul_one,Nat.add_zero] at hc
     go_wp2_with (go_at_call 129;refine (Tryz.checkName_calls wr b j ao s a9 (by omega) hN).mono ?_)
     rintro e w3 ⟨rfl,bn,t⟩;have ay:=Ev ar (by omega) ag t
     go_wp2
     go_roundw
     all_goals first
      |exact ⟨j+1,s::ao,a7,by go_num,bn,ax,ay⟩
      |(simp [intOf];omega)
    ·go_wp2
     go_roundw
     all_goals first
      |exact ⟨k+1,b5,by go_num,ar⟩
      |(simp [intOf];omega)
  ·skip
   have ag:w.heap.size+1<=wr.heap.size:=by have:=hF.size;omega
   have hM:=Bz.made Tryz.prog wr;have bi:=ZU hF (by omega) (.map #[] 0);have aq:=(bi.block _ (Nat.lt_succ_self _)).trans bd;have c2:(wr.alloc (.map #[] 0)).cell? ⟨w.heap.size,2,none⟩=some (.slice p l2.length o):=by rw [Qdu aq];rfl
   go_wp2
   clear aq c2;generalize wr.alloc (.map #[] 0)=w2 at *
   generalize wr.heap.size=b at *
   go_loopw [62] (fun i wr=>∃ (j:Nat) (ao:List (List UInt8)),j<=l2.length/\i = .int .i64 j/\Bz wr Tryz.prog b j ao/\KM N l0 l1 l2 d ao (l2.drop j)=true/\Below (w.heap.size+1) w1 wr)
    (fun i _=>l2.length-(intOf i).toNat)
   case atStart=>exact ⟨0,[],by omega,rfl,hM,ns,bi⟩
   case round=>
    obtain ⟨j,ao,hj,rfl,a9,bo,ar⟩:=hrel;by_cases a7:j<l2.length
    ·have bz:((j:Int)<(l2.length:Int)):=by omega
     obtain ⟨s,sa,sb,sc,sd,bc,hN,b0,ax⟩:=AG a7 bo;have b4:∀ c,c<w.heap.size->wr.heap[c]? = w.heap[c]?:=fun c hc=>(ar.block c (by omega)).trans (au.block c hc)
     have bj:=Rd.keep (w':=wr) h2 hS b4;obtain ⟨a,rfl,_,_,ak⟩:=Q4R bj bc;obtain ⟨u0,x0,y0⟩:=ak 0 _ rfl;obtain ⟨u1,x1,y1⟩:=ak 1 _ rfl;obtain ⟨cq,x2,y2⟩:=ak 2 _ rfl;obtain ⟨c7,x3,y3⟩:=ak 3 _ rfl;obtain ⟨c3,x4,y4⟩:=ak 4 _ rfl;rw [Q6C y0,Nat.add_zero] at x0;rw [Ti y1,Gt _ _ _ (by decide)] at x1;rw [Ti y2,Gt _ _ _ (by decide)] at x2;rw [Ti y3,Gt _ _ _ (by decide)] at x3;rw [Ti y4,Gt _ _ _ (by decide)] at x4;clear ak y0 y1 y2 y3 y4 bj;have am:wr.grownBy (wr.alloc (.cells #[.string ⟨⟨s⟩⟩,.int .i64 sa,.int .i64 sb,.int .i64 sc,.int .i64 sd] 86)) none:=World.grownBy_alloc wr _ none;have br:=ZU ar (by omega) (.cells #[.string ⟨⟨s⟩⟩,.int .i64 sa,.int .i64 sb,.int .i64 sc,.int .i64 sd] 86);have bx:=a9.kept am (by simp);have an:(wr.alloc (.cells #[.string ⟨⟨s⟩⟩,.int .i64 sa,.int .i64 sb,.int .i64 sc,.int .i64 sd] 86)).heap[wr.heap.size]? = some (.cells #[.string ⟨⟨s⟩⟩,.int .i64 sa,.int .i64 sb,.int .i64 sc,.int .i64 sd] 86 (0,0)):=heap_alloc_new wr _;have cz:b<wr.heap.size:=a9.lt;have bk:w.heap.size+1<=wr.heap.size:=by have:=ar.size;omega
     go_wp2_with (go_at_call 129;refine (Tryz.checkName_calls (wr.alloc (.cells #[.string ⟨⟨s⟩⟩,.int .i64 sa,.int .i64 sb,.int .i64 sc,.int .i64 sd] 86)) b j ao s bx (by omega) hN).mono ?_)
     rintro e w3 ⟨rfl,bn,t⟩;have ay:=Ev br (by omega) ag t;have aq:=(ay.block _ (Nat.lt_succ_self _)).trans bd;have a8:=(t.block wr.heap.size (by simp) (by simp;omega)).trans an;clear br bx an am t a9 ar;have z0:w3.cell? ⟨w.heap.size,0,none⟩=some (.slice f l0.length g):=by rw [Qdu aq];rfl
     have z1:w3.cell? ⟨w.heap.size,1,none⟩=some (.slice h l1.length m):=by rw [Qdu aq];rfl
     have z2:w3.cell? ⟨w.heap.size,2,none⟩=some (.slice (some a) l2.length o):=by rw [Qdu aq];rfl
     have z3:w3.cell? ⟨w.heap.size,3,none⟩=some (.slice q d.length r):=by rw [Qdu aq];rfl
     have y0:w3.cell? ⟨wr.heap.size,0,none⟩=some (.string ⟨⟨s⟩⟩):=by rw [Qdu a8];rfl
     have y1:w3.cell? ⟨wr.heap.size,1,none⟩=some (.int .i64 sa):=by rw [Qdu a8];rfl
     have y2:w3.cell? ⟨wr.heap.size,2,none⟩=some (.int .i64 sb):=by rw [Qdu a8];rfl
     have y3:w3.cell? ⟨wr.heap.size,3,none⟩=some (.int .i64 sc):=by rw [Qdu a8];rfl
     have y4:w3.cell? ⟨wr.heap.size,4,none⟩=some (.int .i64 sd):=by rw [Qdu a8];rfl
     have n:∀ c,c<w.heap.size->w3.heap[c]? = w.heap[c]?:=fun c hc=>(ay.block c (by omega)).trans (au.block c hc)
     have bl:∀ c,S c->c<w3.heap.size:=fun c hc=>by have:=hS c hc;have:=ay.size;omega
     have g0:=Rd.keep h0 hS n;have g1:=Rd.keep h1 hS n;have g2:=Rd.keep h2 hS n;have g3:=Rd.keep h3 hS n
     go_wp2_with (go_at_call 130;refine (Q2P b0 bl g0 g1 g2 g3).mono ?_)
     rintro e w4 ⟨rfl,bg⟩;have b1:=bn.kept (Zc bg) (by simp);have aw:=WS ay (by omega) bg
     go_wp2
     go_roundw
     all_goals first
      |exact ⟨j+1,s::ao,a7,by go_num,b1,ax,aw⟩
      |(simp [intOf];omega)
    ·have aq:=(ar.block _ (Nat.lt_succ_self _)).trans bd;have z0:wr.cell? ⟨w.heap.size,0,none⟩=some (.slice f l0.length g):=by rw [Qdu aq];rfl
     have z1:wr.cell? ⟨w.heap.size,1,none⟩=some (.slice h l1.length m):=by rw [Qdu aq];rfl
     have z2:wr.cell? ⟨w.heap.size,2,none⟩=some (.slice p l2.length o):=by rw [Qdu aq];rfl
     have z3:wr.cell? ⟨w.heap.size,3,none⟩=some (.slice q d.length r):=by rw [Qdu aq];rfl
     have n:∀ c,c<w.heap.size->wr.heap[c]? = w.heap[c]?:=fun c hc=>(ar.block c (by omega)).trans (au.block c hc)
     have bl:∀ c,S c->c<wr.heap.size:=fun c hc=>by have:=hS c hc;have:=ar.size;omega
     have bm:=hL wr bl (Rd.keep h0 hS n) (Rd.keep h1 hS n) (Rd.keep h2 hS n) (Rd.keep h3 hS n)
     go_wp2_with (go_at_call 131;refine bm.mono ?_)
     rintro e w4 ⟨rfl,bg⟩;have aw:=WS ar (by omega) bg
     go_wp2
     refine bodyPost_ret (results_tmp rfl _ _ _) rfl ?_;exact ⟨rfl,aw.os.trans au.os,aw.tape.trans au.tape,aw.output.trans au.output,by have:=aw.size;omega,fun c hc=>(aw.block c (by omega)).trans (au.block c hc)⟩

end Go.Vx
set_option maxRecDepth 100000
namespace Go.Vx
open Go.Proofs
noncomputable def D5 (n:Nat):VB:=Xa [] [cO 0 [1,2,3] [1,2,3],cO 1 [2,3] [2,3]]
noncomputable def Gz (n:Nat):EnP Tryz.prog 158:=mkE (D5 n).ok nT 158 Tryz.f158 [[0,0],[0,0]] [eA [qI,qI,qI,qI,qI,qI]] [eT 2,eA [qI,qI],eA [qI,qI]] (pK (Rk n))
noncomputable def Tk (n:Nat):VB:=Xa [⟨158,Gz n⟩] [cO 0 [0,4,5] [4,5],cO 1 [4,5,11,12,13] [4,5],cO 2 [4,5,11,12,13,14] [4,5],cO 3 [4,5,8,11,12,13] [4,5,8],cO 4 (4::5::rg1 9 5 []) [4,5,9,10],cO 5 [4,5,11,12,13,39] [4,5],cK 6 [6],cO 7 [4,5,11,12,13] [4,5],cK 8 [6]]
noncomputable def LC (n:Nat) (m:Nat):LpE Tryz.prog:=mkL (Tk n).ok nT 2 (cA [1,0,1,2,2] (Q6 Tryz.f160)) ⟨41,[(4,.ptr 4 0),(5,.ptr 5 0),(11,.l 6),(12,tI),(13,tI)],[(4,.box [tI,tI]),(5,.box [tI,tI])]⟩ [yL,yI,yI,yI,yI,yI,yI] (fun m R k b h2 a c d e f=>G0 n b h2 c d e f (k .ret ⟨41,[(6,dB true)],[]⟩) (fun a g=>k (.exit 0) ⟨41,[(4,.ptr 4 0),(5,.ptr 5 0),(11,dL 6 b),(12,dI h2),(13,dI a),(14,dB g)],[(4,.box [dI c,dI d]),(5,.box [dI e,dI f])]⟩) m a) m
noncomputable def P4 (n:Nat):EnP Tryz.prog 160:=mkE (Tk n).ok [LC n n] 160 Tryz.f160 [[0]] [sL 6,eA [qI,qI],eA [qI,qI]] [sB] (pK (VL n))

noncomputable def D7 (n:Nat):VB:=Xa [] [cO 0 [1,2] [2],cO 1 [1,2,7] [2],cK 2 [4],cK 3 [4]]
noncomputable def Nt (n:Nat):EnP Tryz.prog 161:=mkE (D7 n).ok nT 161 Tryz.f161 [[0]] [eA [qI,qI,qI,qI,qI,qI],sL 6] [sB] (pK (V7 n))

noncomputable def TX (n:Nat):VB:=Xa [] [cO 0 [2,3] [2,3],cK 1 [4]]
noncomputable def Gg (n:Nat):EnP Tryz.prog 157:=mkE (TX n).ok nT 157 Tryz.f157 [[0]] [eA [qL 1,qL 1,qL 5,qL 6],eA [qI,qI,qI,qI,qI,qI]] [sB] (pK (XO n))

end Go.Vx
namespace Go.Vx
variable {R:Type}
def G4 (n:Nat) (a b:Int) (K:Int->oP R):oP R:= K (wJ ((wJ (2*a))+b))
end Go.Vx
set_option maxRecDepth 100000
namespace Go.Vx
open Go.Proofs
noncomputable def SP (n:Nat):VB:=Xa [] [cO 0 [1] [1],cK 1 [2]]
noncomputable def Kn (n:Nat):EnP Tryz.prog 159:=mkE (SP n).ok nT 159 Tryz.f159 [[0]] [eA [qI,qI]] [sI] (pK (G4 n))
end Go.Vx
namespace Go.Vx
open Go.Proofs Go.RowKit
theorem Q3j {w w':World} {a:Addr} {u:Value} (hB:Below w.heap.size w w') (h:w.cell? a=some u):w'.cell? a=some u:=by
 rw [World.cell?_of_block (hB.block a.block (World.block_lt_of_cell? w a h))];exact h
theorem PX (w:World):Below w.heap.size w w.drew:=⟨rfl,rfl,rfl,QdI _,fun _ _=>rfl⟩
theorem PT {w w1 w2:World} (h:Below w.heap.size w w1) (h2:Below w1.heap.size w1 w2):Below w.heap.size w w2:=WS h (QdI _) h2
theorem Q2i {β:Nat->Option Nat} {S:Nat->Prop} {h:Nat->Option Ob} {w:World} {tm:Nat->Value} {v:Value} {k:IntKind} {n:Int} (h:RdA β S h w tm v (.d (.int k n))):v = .int k n:=by
 cases h with
 |d _ _ q=>exact Ti q
 |dang _ _ _ hl=>cases hl
theorem Q3A {β:Nat->Option Nat} {S:Nat->Prop} {h:Nat->Option Ob} {w:World} {tm:Nat->Value} {v:Value} {k k':IntKind} {n m:Int} (h:RdA β S h w tm v (.ag [.d (.int k n),.d (.int k' m)])):v = .agg #[.int k n,.int k' m]:=by
 cases h with
 |ag cs l hl hr=>
  have c:=Q2i (hr 0 _ rfl);have q1:=Q2i (hr 1 _ rfl);obtain ⟨l⟩:=cs
  match l,hl with
  |[a,b],_=>
   simp at c q1;rw [c,q1]
 |dang _ _ _ hl=>cases hl
theorem Tryz.index_calls (w:World) (a b:Int) (a0:0<=a) (a1:a<1000) (b0:0<=b) (b1:b<=1) :
  Calls Tryz.prog 159 #[.agg #[.int .i64 a,.int .i64 b]] w fun e w'=>e = .returned (.int .i64 (2*a+b))/\Below w.heap.size w w':=by
 have e1:IntKind.i64.wrap (2*a)=2*a:=by rw [IntKind.wrap_i64];omega
 have e2:IntKind.i64.wrap (2*a+b)=2*a+b:=by rw [IntKind.wrap_i64];omega
 have hp:G4 0 a b some=some (2*a+b):=by
  show some (IntKind.i64.wrap (IntKind.i64.wrap (2*a)+b))=_;rw [e1,e2]
 have he:(Kn 0).E Dl 0 true [.ag ([D.int .i64 a,D.int .i64 b].map .d)] (fun _=>none) some=some ⟨.d (D.int .i64 (2*a+b)),[],[]⟩:=by
  show gb true (G4 0 a b some) 0 (fun r=>(some ⟨.d (D.int .i64 r),[],[]⟩:Option Dl))=_;rw [hp];rfl
 exact VO (S:=fun _=>False) (XM ((Kn 0).ok) he) (fun _ h=>h.elim) (Q45 (RdLs.agg (.cons (.int _ _) (.cons (.int _ _) .nil))))
set_option maxHeartbeats 4000000 in
theorem Tryz.ends_calls (w:World) (a ae b be p q:Int) :
  Calls Tryz.prog 158 #[.agg #[.int .i64 a,.int .i64 ae,.int .i64 b,.int .i64 be,.int .i64 p,.int .i64 q]] w fun e w'=>e = .returned (.tuple #[.agg #[.int .i64 a,.int .i64 ae],.agg #[.int .i64 b,.int .i64 be]])/\Below w.heap.size w w':=by
 have he:(Gz 0).E Dl 0 true [.ag ([D.int .i64 a,D.int .i64 ae,D.int .i64 b,D.int .i64 be,D.int .i64 p,D.int .i64 q].map .d)] (fun _=>none) some=some ⟨.tup [.ag ([D.int .i64 a,D.int .i64 ae].map .d),.ag ([D.int .i64 b,D.int .i64 be].map .d)],[],[]⟩:=rfl;refine (Fm (S:=fun _=>False) (XM ((Gz 0).ok) he) (fun _ h=>h.elim) (Q45 (RdLs.agg (.cons (.int _ _) (.cons (.int _ _) (.cons (.int _ _) (.cons (.int _ _) (.cons (.int _ _) (.cons (.int _ _) .nil))))))))).mono fun e w' ⟨v,S',d,h2,f⟩=>⟨?_,f⟩
 rw [d];cases h2 with
 |tup cs l hl hr=>
  have c:=Q3A (hr 0 _ rfl);have q1:=Q3A (hr 1 _ rfl);obtain ⟨l⟩:=cs
  match l,hl with
  |[a,b],_=>
   simp at c q1;rw [c,q1]
 |dang v av l hl=>cases hl
theorem Vs {e1 e2 k:Nat} {w w':World} {B:Nat} {v:Value} {hd:List Value} {ll:List LL} (h:NestK e1 e2 k w B v hd ll) (hg:w.grownBy w' none):NestK e1 e2 k w' B v hd ll:=
 h.kept hg (Classical.em _) (fun x _=>Classical.em _)
structure Grew (w w':World) (vb:Nat) (x x':Value):Prop where
 own:∀ b,x'.ownBlock=some b->x.ownBlock=some b\/w.heap.size<=b
 os:w'.os=w.os
 tape:w'.tape=w.tape
 output:w'.output=w.output
 size:w.heap.size<=w'.heap.size
 block:∀ b,b<w.heap.size->b≠vb->x.ownBlock≠some b->w'.heap[b]? = w.heap[b]?
theorem AW {w W1 W2:World} {B vb N i n g c:Nat} {x:Value} {hd:List Value} {ll:List LL} {l:LL} {row:List D} (hN:NestK 25 176 6 w B (.slice (some ⟨vb,0,none⟩) N N) hd ll) (hx:hd[i]? = some x) (hl:ll[i]? = some l) (hn:n=l.length)
  (a:w.grownBy W1 none) (am:W2.ownsRow B 176 6 (.slice (some ⟨g,0,none⟩) (n+1) c) (n+1) (cellsOf l++row.map dV)) (ak:W1.grownBy W2 x.ownBlock) (hat:x.ownBlock=some g\/g=W1.heap.size) :
  NestK 25 176 6 (W2.setCell ⟨vb,i,none⟩ (.slice (some ⟨g,0,none⟩) (n+1) c)) B (.slice (some ⟨vb,0,none⟩) N N) (hd.set i (.slice (some ⟨g,0,none⟩) (n+1) c)) (ll.set i (l++[row])) /\
   Grew w (W2.setCell ⟨vb,i,none⟩ (.slice (some ⟨g,0,none⟩) (n+1) c)) vb x (.slice (some ⟨g,0,none⟩) (n+1) c):=by
 subst hn;have d:=Vs hN a;have s1:=a.size;have s2:=ak.size;refine ⟨d.grow hx hl am ak rfl hat rfl rfl,⟨fun b hb=>?_,?_,?_,?_,?_,fun b hb h2 f=>?_⟩⟩
 ·simp only [Value.ownBlock,Option.some.injEq] at hb;subst hb;rcases hat with h | h
  ·exact .inl h
  ·exact .inr (by omega)
 ·exact ak.os.trans a.os
 ·exact ak.tape.trans a.tape
 ·exact ak.output.trans a.output
 ·simp;omega
 ·rw [heap_setCell_other _ _ _ _ (fun e=>h2 e)];rw [ak.block b (by omega) (fun e=>f e.symm),a.block b hb (by simp)]
noncomputable def Q7n:Code:=(Vy (Tryz.f131.body.getD .skip)).getD 8 .skip
set_option maxHeartbeats 8000000 in
set_option maxRecDepth 100000 in
theorem Tryz.links_r8 (f g h i j u8 u9 k l m n o p q r s t u v x y z aa ab ac ad ag ah cg ch ci cj ck cm cn co ai aj ak al am an ao ap aq ar au av aw ax ay az ba bb bc bd bg bh bi bj bk a6 bl bm bn bo bp bq br bt bu bv bx bz ca cb cc:Value) (vb N c d:Nat) (a ae b be:Int) (w:World) (c0:w.cell? ⟨c,0,none⟩=some (.int .i64 a)) (c1:w.cell? ⟨c,1,none⟩=some (.int .i64 ae)) (d0:w.cell? ⟨d,0,none⟩=some (.int .i64 b)) (d1:w.cell? ⟨d,1,none⟩=some (.int .i64 be)) (a0:0<=a) (a1:a<1000) (e0:0<=ae) (e1:ae<=1) (b0:0<=b) (b1:b<1000) (f0:0<=be) (f1:be<=1) (h1:2*a+ae<(N:Int)) (h2:2*b+be<(N:Int)) :
  Code.wp Tryz.prog Q7n (Q22 fun act w'=>∃ (cp cq cr cs ct cu cv cw:Value) ,act=⟨(f::g::h::.slice (some ⟨vb,0,none⟩) N N::i::j::.pointer (some ⟨c,0,none⟩)::.pointer (some ⟨d,0,none⟩)::.pointer (some ⟨vb,(2*a+ae).toNat,none⟩)::.pointer (some ⟨vb,(2*b+be).toNat,none⟩)::k::l::m::n::o::p::q::r::s::t::u::v::x::y::z::aa::ab::ac::ad::ag::ah::cp::cq::cr::cs::ct::cu::cv::cw::ai::aj::ak::al::am::an::ao::ap::aq::ar::au::av::aw::ax::ay::az::ba::bb::bc::bd::bg::bh::bi::bj::bk::a6::bl::bm::bn::bo::bp::bq::br::bt::bu::bv::bx::bz::ca::cb::cc::[]).toArray,[]⟩/\Below w.heap.size w w') ⟨(f::g::h::.slice (some ⟨vb,0,none⟩) N N::i::j::.pointer (some ⟨c,0,none⟩)::.pointer (some ⟨d,0,none⟩)::u8::u9::k::l::m::n::o::p::q::r::s::t::u::v::x::y::z::aa::ab::ac::ad::ag::ah::cg::ch::ci::cj::ck::cm::cn::co::ai::aj::ak::al::am::an::ao::ap::aq::ar::au::av::aw::ax::ay::az::ba::bb::bc::bd::bg::bh::bi::bj::bk::a6::bl::bm::bn::bo::bp::bq::br::bt::bu::bv::bx::bz::ca::cb::cc::[]).toArray,[]⟩ w:=by
 conv=>arg 2;whnf
 have mixed:Tryz.prog.follows .mixedOrders=true:=by kernel_rfl
 have y0:w.drew.cell? ⟨c,0,none⟩=some (.int .i64 a):=c0;have y1:w.drew.cell? ⟨c,1,none⟩=some (.int .i64 ae):=c1;have y2:w.drew.cell? ⟨d,0,none⟩=some (.int .i64 b):=d0;have y3:w.drew.cell? ⟨d,1,none⟩=some (.int .i64 be):=d1;have g1:0<=2*a+ae:=by omega
 have g2:0<=2*b+be:=by omega
 clear c0 c1 d0 d1
 go_region_held3 (fun w'=>w'.cell? ⟨c,0,none⟩=some (.int .i64 a)/\w'.cell? ⟨c,1,none⟩=some (.int .i64 ae)/\w'.cell? ⟨d,0,none⟩=some (.int .i64 b)/\w'.cell? ⟨d,1,none⟩=some (.int .i64 be))
  (first
   |exact ⟨y0,y1,y2,y3⟩
   |(refine ⟨?_,?_,?_,?_⟩ <;> (repeat (first | assumption | refine Q3j (by assumption) ?_))))
  (first
   |(go_at_call 159;refine (Tryz.index_calls _ _ _ (by assumption) (by assumption) (by assumption) (by assumption)).mono ?_;rintro e W1 ⟨rfl,de⟩))
 all_goals
  dsimp only [Q22];refine ⟨_,_,_,_,_,_,_,_,rfl,?_⟩
  repeat (first | exact PX _ | refine PT ?_ (by assumption))
noncomputable def Q5N:Code:=(Vy (Tryz.f131.body.getD .skip)).getD 11 .skip
set_option maxHeartbeats 8000000 in
set_option maxRecDepth 100000 in
theorem Tryz.links_r11 (f g h j k l m o p q r s t u v x y z aa ab ac ag ah ai aj ak al am an ao ap aq ar au av aw ax ay az ba ck cm cn co cp cq cr bb bc bd bg bh bi bj bk bl bm bn bo bp bq a6 br bt bu bv bx bz ca cb cc ce cf cg ch ci cj:Value) (vb i c d n cap:Nat) (ad:Option Addr) (a ae b be:Int) (w:World) (c0:w.cell? ⟨c,0,none⟩=some (.int .i64 a)) (c1:w.cell? ⟨c,1,none⟩=some (.int .i64 ae)) (d0:w.cell? ⟨d,0,none⟩=some (.int .i64 b)) (d1:w.cell? ⟨d,1,none⟩=some (.int .i64 be)) (cx:w.cell? ⟨vb,i,none⟩=some (.slice ad n cap))
  (hc:Calls Tryz.prog 160 #[.slice ad n cap,.agg #[.int .i64 a,.int .i64 ae],.agg #[.int .i64 b,.int .i64 be]] w.drew fun e w'=>e = .returned (.bool false)/\Below w.drew.heap.size w.drew w') :
  Code.wp Tryz.prog Q5N (Q22 fun act w'=>∃ (cs ct cu cv cw cy:Value) ,act=⟨(f::g::h::j::k::l::.pointer (some ⟨c,0,none⟩)::.pointer (some ⟨d,0,none⟩)::.pointer (some ⟨vb,i,none⟩)::m::o::p::q::r::s::t::u::v::x::y::z::aa::ab::ac::ag::ah::ai::aj::ak::al::am::an::ao::ap::aq::ar::au::av::aw::ax::ay::az::ba::.bool false::cs::ct::cu::cv::cw::cy::bb::bc::bd::bg::bh::bi::bj::bk::bl::bm::bn::bo::bp::bq::a6::br::bt::bu::bv::bx::bz::ca::cb::cc::ce::cf::cg::ch::ci::cj::[]).toArray,[]⟩/\Below w.heap.size w w') ⟨(f::g::h::j::k::l::.pointer (some ⟨c,0,none⟩)::.pointer (some ⟨d,0,none⟩)::.pointer (some ⟨vb,i,none⟩)::m::o::p::q::r::s::t::u::v::x::y::z::aa::ab::ac::ag::ah::ai::aj::ak::al::am::an::ao::ap::aq::ar::au::av::aw::ax::ay::az::ba::ck::cm::cn::co::cp::cq::cr::bb::bc::bd::bg::bh::bi::bj::bk::bl::bm::bn::bo::bp::bq::a6::br::bt::bu::bv::bx::bz::ca::cb::cc::ce::cf::cg::ch::ci::cj::[]).toArray,[]⟩ w:=by
 conv=>arg 2;whnf
 have mixed:Tryz.prog.follows .mixedOrders=true:=by kernel_rfl
 have y0:w.drew.cell? ⟨c,0,none⟩=some (.int .i64 a):=c0;have y1:w.drew.cell? ⟨c,1,none⟩=some (.int .i64 ae):=c1;have y2:w.drew.cell? ⟨d,0,none⟩=some (.int .i64 b):=d0;have y3:w.drew.cell? ⟨d,1,none⟩=some (.int .i64 be):=d1;have y4:w.drew.cell? ⟨vb,i,none⟩=some (.slice ad n cap):=cx;clear c0 c1 d0 d1 cx
 go_region_law (first
   |(go_simp;refine hc.mono ?_;rintro e W1 ⟨rfl,cz⟩))
 all_goals
  dsimp only [Q22];refine ⟨_,_,_,_,_,_,rfl,?_⟩;exact PT (PX w) cz
noncomputable def Q5J:Code:=(Vy (Tryz.f131.body.getD .skip)).getD 13 .skip
set_option maxHeartbeats 8000000 in
set_option maxRecDepth 100000 in
theorem Tryz.links_r13 (d f g h j k l m o r s t u v x y z aa ab ac ag ah ai aj ak al am an ao ap aq ar au av aw ax ay az ba bb bc bd bg bh bi bj bk bl cr cs ct cu cv cw cy bm bn bo bp bq br bt a6 bu bv bx bz ca cb cc ce cf cg ch ci cj ck cm:Value) (vb i c n cap:Nat) (ad:Option Addr) (a ae b be p q:Int) (w:World) (c0:w.cell? ⟨c,0,none⟩=some (.int .i64 a)) (c1:w.cell? ⟨c,1,none⟩=some (.int .i64 ae)) (c2:w.cell? ⟨c,2,none⟩=some (.int .i64 b)) (c3:w.cell? ⟨c,3,none⟩=some (.int .i64 be)) (c4:w.cell? ⟨c,4,none⟩=some (.int .i64 p)) (c5:w.cell? ⟨c,5,none⟩=some (.int .i64 q)) (cx:w.cell? ⟨vb,i,none⟩=some (.slice ad n cap))
  (hc:Calls Tryz.prog 161 #[.agg #[.int .i64 a,.int .i64 ae,.int .i64 b,.int .i64 be,.int .i64 p,.int .i64 q],.slice ad n cap] w.drew fun e w'=>e = .returned (.bool true)/\Below w.drew.heap.size w.drew w') :
  Code.wp Tryz.prog Q5J (Q22 fun act w'=>∃ (cz da db dc dd de:Value) ,act=⟨(d::f::g::h::j::.pointer (some ⟨c,0,none⟩)::k::l::.pointer (some ⟨vb,i,none⟩)::m::o::r::s::t::u::v::x::y::z::aa::ab::ac::ag::ah::ai::aj::ak::al::am::an::ao::ap::aq::ar::au::av::aw::ax::ay::az::ba::bb::bc::bd::bg::bh::bi::bj::bk::bl::.bool false::cz::da::db::dc::dd::de::bm::bn::bo::bp::bq::br::bt::a6::bu::bv::bx::bz::ca::cb::cc::ce::cf::cg::ch::ci::cj::ck::cm::[]).toArray,[]⟩/\Below w.heap.size w w') ⟨(d::f::g::h::j::.pointer (some ⟨c,0,none⟩)::k::l::.pointer (some ⟨vb,i,none⟩)::m::o::r::s::t::u::v::x::y::z::aa::ab::ac::ag::ah::ai::aj::ak::al::am::an::ao::ap::aq::ar::au::av::aw::ax::ay::az::ba::bb::bc::bd::bg::bh::bi::bj::bk::bl::cr::cs::ct::cu::cv::cw::cy::bm::bn::bo::bp::bq::br::bt::a6::bu::bv::bx::bz::ca::cb::cc::ce::cf::cg::ch::ci::cj::ck::cm::[]).toArray,[]⟩ w:=by
 conv=>arg 2;whnf
 have mixed:Tryz.prog.follows .mixedOrders=true:=by kernel_rfl
 have y0:w.drew.cell? ⟨c,0,none⟩=some (.int .i64 a):=c0;have y1:w.drew.cell? ⟨c,1,none⟩=some (.int .i64 ae):=c1;have y2:w.drew.cell? ⟨c,2,none⟩=some (.int .i64 b):=c2;have y3:w.drew.cell? ⟨c,3,none⟩=some (.int .i64 be):=c3;have y5:w.drew.cell? ⟨c,4,none⟩=some (.int .i64 p):=c4;have y6:w.drew.cell? ⟨c,5,none⟩=some (.int .i64 q):=c5;have y4:w.drew.cell? ⟨vb,i,none⟩=some (.slice ad n cap):=cx;clear c0 c1 c2 c3 c4 c5 cx
 go_region_law (first
   |(go_simp;refine hc.mono ?_;rintro e W1 ⟨rfl,df⟩))
 all_goals
  dsimp only [Q22];refine ⟨_,_,_,_,_,_,rfl,?_⟩;exact PT (PX w) df
noncomputable def Q6i:Code:=(Vy (Tryz.f131.body.getD .skip)).getD 14 .skip
set_option maxHeartbeats 8000000 in
set_option maxRecDepth 100000 in
theorem Tryz.links_r14 (d f g h j k l m o r s t u v x y z aa ab ac ag ah ai aj ak al am an ao ap aq ar au av aw ax ay az ba bb bc bd bg bh bi bj bk bl cr bm bn bo bp bq br cs ct cu cv cw cy bt a6 bu bv bx bz ca cb cc ce cf cg ch ci cj ck cm:Value) (vb i c n cap:Nat) (ad:Option Addr) (a ae b be p q:Int) (w:World) (c0:w.cell? ⟨c,0,none⟩=some (.int .i64 a)) (c1:w.cell? ⟨c,1,none⟩=some (.int .i64 ae)) (c2:w.cell? ⟨c,2,none⟩=some (.int .i64 b)) (c3:w.cell? ⟨c,3,none⟩=some (.int .i64 be)) (c4:w.cell? ⟨c,4,none⟩=some (.int .i64 p)) (c5:w.cell? ⟨c,5,none⟩=some (.int .i64 q)) (cx:w.cell? ⟨vb,i,none⟩=some (.slice ad n cap))
  (hc:Calls Tryz.prog 161 #[.agg #[.int .i64 a,.int .i64 ae,.int .i64 b,.int .i64 be,.int .i64 p,.int .i64 q],.slice ad n cap] w.drew fun e w'=>e = .returned (.bool true)/\Below w.drew.heap.size w.drew w') :
  Code.wp Tryz.prog Q6i (Q22 fun act w'=>∃ (cz da db dc dd de:Value) ,act=⟨(d::f::g::h::j::.pointer (some ⟨c,0,none⟩)::k::l::m::.pointer (some ⟨vb,i,none⟩)::o::r::s::t::u::v::x::y::z::aa::ab::ac::ag::ah::ai::aj::ak::al::am::an::ao::ap::aq::ar::au::av::aw::ax::ay::az::ba::bb::bc::bd::bg::bh::bi::bj::bk::bl::.bool false::bm::bn::bo::bp::bq::br::cz::da::db::dc::dd::de::bt::a6::bu::bv::bx::bz::ca::cb::cc::ce::cf::cg::ch::ci::cj::ck::cm::[]).toArray,[]⟩/\Below w.heap.size w w') ⟨(d::f::g::h::j::.pointer (some ⟨c,0,none⟩)::k::l::m::.pointer (some ⟨vb,i,none⟩)::o::r::s::t::u::v::x::y::z::aa::ab::ac::ag::ah::ai::aj::ak::al::am::an::ao::ap::aq::ar::au::av::aw::ax::ay::az::ba::bb::bc::bd::bg::bh::bi::bj::bk::bl::cr::bm::bn::bo::bp::bq::br::cs::ct::cu::cv::cw::cy::bt::a6::bu::bv::bx::bz::ca::cb::cc::ce::cf::cg::ch::ci::cj::ck::cm::[]).toArray,[]⟩ w:=by
 conv=>arg 2;whnf
 have mixed:Tryz.prog.follows .mixedOrders=true:=by kernel_rfl
 have y0:w.drew.cell? ⟨c,0,none⟩=some (.int .i64 a):=c0;have y1:w.drew.cell? ⟨c,1,none⟩=some (.int .i64 ae):=c1;have y2:w.drew.cell? ⟨c,2,none⟩=some (.int .i64 b):=c2;have y3:w.drew.cell? ⟨c,3,none⟩=some (.int .i64 be):=c3;have y5:w.drew.cell? ⟨c,4,none⟩=some (.int .i64 p):=c4;have y6:w.drew.cell? ⟨c,5,none⟩=some (.int .i64 q):=c5;have y4:w.drew.cell? ⟨vb,i,none⟩=some (.slice ad n cap):=cx;clear c0 c1 c2 c3 c4 c5 cx
 go_region_law (first
   |(go_simp;refine hc.mono ?_;rintro e W1 ⟨rfl,df⟩))
 all_goals
  dsimp only [Q22];refine ⟨_,_,_,_,_,_,rfl,?_⟩;exact PT (PX w) df
noncomputable def Q5G:Code:=(Vy (Tryz.f131.body.getD .skip)).getD 16 .skip
set_option maxHeartbeats 8000000 in
set_option maxRecDepth 100000 in
theorem Tryz.links_r16 (m n o r s t v x y z aa ab ac ag ah ai aj ak al am an ao ap aq ar au av aw ax ay az ba bb bc bd bg bh bi bj bk bl bm bn bo bp bq br bt bu bv bx bz ca cb cc ce cf cg ch ci cj cv b8 cw cx cy cz da db ck cm cn co cp cq cr cs ct:Value) (B vb N i c cap:Nat) (ad:Option Addr) (a ae b be p q:Int) (hd:List Value) (ll:List LL) (l:LL) (w:World) (c0:w.cell? ⟨c,0,none⟩=some (.int .i64 a)) (c1:w.cell? ⟨c,1,none⟩=some (.int .i64 ae)) (c2:w.cell? ⟨c,2,none⟩=some (.int .i64 b)) (c3:w.cell? ⟨c,3,none⟩=some (.int .i64 be)) (c4:w.cell? ⟨c,4,none⟩=some (.int .i64 p)) (c5:w.cell? ⟨c,5,none⟩=some (.int .i64 q))
  (hN:NestK 25 176 6 w B (.slice (some ⟨vb,0,none⟩) N N) hd ll) (hx:hd[i]? = some (.slice ad l.length cap)) (hl:ll[i]? = some l) (dy:l.length<=1000) (hB:B<=w.heap.size) (dz:c≠vb) (ea:(Value.slice ad l.length cap).ownBlock≠some c) :
  Code.wp Tryz.prog Q5G (Q22 fun act w'=>∃ (df dg dh di dj dk dl dn:Value) (xx:Value),act=⟨(m::n::o::r::s::.pointer (some ⟨c,0,none⟩)::t::v::.pointer (some ⟨vb,i,none⟩)::x::y::z::aa::ab::ac::ag::ah::ai::aj::ak::al::am::an::ao::ap::aq::ar::au::av::aw::ax::ay::az::ba::bb::bc::bd::bg::bh::bi::bj::bk::bl::bm::bn::bo::bp::bq::br::bt::bu::bv::bx::bz::ca::cb::cc::ce::cf::cg::ch::ci::cj::df::dg::dh::di::dj::dk::dl::dn::ck::cm::cn::co::cp::cq::cr::cs::ct::[]).toArray,[]⟩/\NestK 25 176 6 w' B (.slice (some ⟨vb,0,none⟩) N N) (hd.set i xx) (ll.set i (l++[[D.int .i64 a,.int .i64 ae,.int .i64 b,.int .i64 be,.int .i64 p,.int .i64 q]]))/\Grew w w' vb (.slice ad l.length cap) xx) ⟨(m::n::o::r::s::.pointer (some ⟨c,0,none⟩)::t::v::.pointer (some ⟨vb,i,none⟩)::x::y::z::aa::ab::ac::ag::ah::ai::aj::ak::al::am::an::ao::ap::aq::ar::au::av::aw::ax::ay::az::ba::bb::bc::bd::bg::bh::bi::bj::bk::bl::bm::bn::bo::bp::bq::br::bt::bu::bv::bx::bz::ca::cb::cc::ce::cf::cg::ch::ci::cj::cv::b8::cw::cx::cy::cz::da::db::ck::cm::cn::co::cp::cq::cr::cs::ct::[]).toArray,[]⟩ w:=by
 conv=>arg 2;whnf
 have mixed:Tryz.prog.follows .mixedOrders=true:=by kernel_rfl
 obtain ⟨i0,hi,dq⟩:=QdM.1 (show (Tryz.prog.info? 176).map (fun i=>(i.zero,i.size,i.bytes))=some (some (.agg #[.int .i64 0,.int .i64 0,.int .i64 0,.int .i64 0,.int .i64 0,.int .i64 0]),6,48) by kernel_rfl);obtain ⟨hz,f⟩:=Prod.mk.inj dq;obtain ⟨f,dr⟩:=Prod.mk.inj f;have b3:=(hN.row.lt vb rfl).2;have b7:=hN.each _ _ _ hx hl;have ds:w.cell? ⟨vb,i,none⟩=some (.slice ad l.length cap):=by
  have:=hN.row.cells (g:=vb) rfl i _ hx;rwa [JS,QdQ] at this
 have b1:(Value.slice ad l.length cap).ownBlock≠some vb:=fun e=>hN.outer _ _ _ hx e rfl
 obtain ⟨a9,b4⟩:∃ a9,w.drew.heap[vb]? = some (.cells a9 25 (0,0)):=by
  rcases hN.row.2 with ⟨e,_⟩ | ⟨g,d1,a9,e,_,hg,_⟩
  ·cases e
  ·cases e;exact ⟨a9,hg⟩
 have q1:l.length+1<=maxLen:=by unfold maxLen;omega
 have q2:(l.length+1)*48<=140737488355328:=by omega
 have q3:∀ u∈[Value.int .i64 a,.int .i64 ae,.int .i64 b,.int .i64 be,.int .i64 p,.int .i64 q],u.oneCell'=true:=by simp [Value.oneCell']
 have y0:w.drew.cell? ⟨c,0,none⟩=some (.int .i64 a):=c0;have y1:w.drew.cell? ⟨c,1,none⟩=some (.int .i64 ae):=c1;have y2:w.drew.cell? ⟨c,2,none⟩=some (.int .i64 b):=c2;have y3:w.drew.cell? ⟨c,3,none⟩=some (.int .i64 be):=c3;have y5:w.drew.cell? ⟨c,4,none⟩=some (.int .i64 p):=c4;have y6:w.drew.cell? ⟨c,5,none⟩=some (.int .i64 q):=c5;have y4:w.drew.cell? ⟨vb,i,none⟩=some (.slice ad l.length cap):=ds;have d:w.drew.grownBy (w.drew.alloc (.cells #[.int .i64 a,.int .i64 ae,.int .i64 b,.int .i64 be,.int .i64 p,.int .i64 q] 176)) none:=World.grownBy_alloc _ _ none;have du:w.drew.ownsRow B 176 6 (.slice ad l.length cap) l.length (cellsOf l):=b7;have dw:(w.drew.alloc (.cells #[.int .i64 a,.int .i64 ae,.int .i64 b,.int .i64 be,.int .i64 p,.int .i64 q] 176)).ownsRow B 176 6 (.slice ad l.length cap) l.length (cellsOf l):=World.ownsRow.kept (w:=w.drew) du d (Classical.em _);have dx:∀ (j:Nat) (u:Value),[Value.int .i64 a,.int .i64 ae,.int .i64 b,.int .i64 be,.int .i64 p,.int .i64 q][j]? = some u->(w.drew.alloc (.cells #[.int .i64 a,.int .i64 ae,.int .i64 b,.int .i64 be,.int .i64 p,.int .i64 q] 176)).cell? ((⟨w.drew.heap.size,0,none⟩:Addr).add j)=some u:=World.news_of_block (heap_alloc_new _ _);have h:w.drew.heap.size<=(w.drew.alloc (.cells #[.int .i64 a,.int .i64 ae,.int .i64 b,.int .i64 be,.int .i64 p,.int .i64 q] 176)).heap.size:=d.size;have b5:B<=(w.drew.alloc (.cells #[.int .i64 a,.int .i64 ae,.int .i64 b,.int .i64 be,.int .i64 p,.int .i64 q] 176)).heap.size:=QdP hB h;have a6:vb<w.drew.heap.size:=b3;have b0:=(d.block vb a6 (fun e=>by cases e)).trans b4;have k:=d.cell_far ⟨vb,i,none⟩ a6 (fun e=>by cases e);have k:=k.trans y4;have de:(1:Nat)*6=6:=rfl
 go_region_law (first
   |(refine step_append_lies (w.drew.alloc (.cells #[.int .i64 a,.int .i64 ae,.int .i64 b,.int .i64 be,.int .i64 p,.int .i64 q] 176)) (by rfl) _ _ 25 (by rfl) B 176 i0 (.agg #[.int .i64 0,.int .i64 0,.int .i64 0,.int .i64 0,.int .i64 0,.int .i64 0]) 6 48 Tryz.underlying25 hi hz f dr (by rfl) (by decide) _ l.length (cellsOf l) (by rfl) dw ⟨w.drew.heap.size,0,none⟩ 1 1 [Value.int .i64 a,.int .i64 ae,.int .i64 b,.int .i64 be,.int .i64 p,.int .i64 q] (by rfl) rfl dx q3 (by decide) q1 q2 b5 _ rfl ?_;intro g c2 W2 b2 a8 hat e8;
     have rx:=(a8.cell_far ⟨vb,i,none⟩ (QdF a6 h) (fun e=>b1 e.symm)).trans k;
     have rf:=frozen_of_row W2 vb i a9 25 ((a8.block vb (QdF a6 h) (fun e=>b1 e.symm)).trans b0)))
 all_goals
  dsimp only [Q22];have E:=AW (w:=w.drew) (row:=[D.int .i64 a,.int .i64 ae,.int .i64 b,.int .i64 be,.int .i64 p,.int .i64 q]) ⟨hN.row,hN.each,hN.outer,hN.apart⟩ hx hl rfl d b2 a8 hat;exact ⟨_,_,_,_,_,_,_,_,_,rfl,E.1,⟨E.2.own,E.2.os,E.2.tape,E.2.output,E.2.size,E.2.block⟩⟩
noncomputable def Q5K:Code:=(Vy (Tryz.f131.body.getD .skip)).getD 17 .skip
set_option maxHeartbeats 8000000 in
set_option maxRecDepth 100000 in
theorem Tryz.links_r17 (m n o r s t v x y z aa ab ac ag ah ai aj ak al am an ao ap aq ar au av aw ax ay az ba bb bc bd bg bh bi bj bk bl bm bn bo bp bq br bt bu bv bx bz ca cb cc ce cf cg ch ci cj ck b5 cm cn co cp cq cr cu cv cw cx cy cz da db cs:Value) (B vb N i c cap:Nat) (ad:Option Addr) (a ae b be p q:Int) (hd:List Value) (ll:List LL) (l:LL) (w:World) (c0:w.cell? ⟨c,0,none⟩=some (.int .i64 a)) (c1:w.cell? ⟨c,1,none⟩=some (.int .i64 ae)) (c2:w.cell? ⟨c,2,none⟩=some (.int .i64 b)) (c3:w.cell? ⟨c,3,none⟩=some (.int .i64 be)) (c4:w.cell? ⟨c,4,none⟩=some (.int .i64 p)) (c5:w.cell? ⟨c,5,none⟩=some (.int .i64 q))
  (hN:NestK 25 176 6 w B (.slice (some ⟨vb,0,none⟩) N N) hd ll) (hx:hd[i]? = some (.slice ad l.length cap)) (hl:ll[i]? = some l) (dy:l.length<=1000) (hB:B<=w.heap.size) (dz:c≠vb) (ea:(Value.slice ad l.length cap).ownBlock≠some c) :
  Code.wp Tryz.prog Q5K (Q22 fun act w'=>∃ (df dg dh di dj dk dl dn:Value) (xx:Value),act=⟨(m::n::o::r::s::.pointer (some ⟨c,0,none⟩)::t::v::x::.pointer (some ⟨vb,i,none⟩)::y::z::aa::ab::ac::ag::ah::ai::aj::ak::al::am::an::ao::ap::aq::ar::au::av::aw::ax::ay::az::ba::bb::bc::bd::bg::bh::bi::bj::bk::bl::bm::bn::bo::bp::bq::br::bt::bu::bv::bx::bz::ca::cb::cc::ce::cf::cg::ch::ci::cj::ck::b5::cm::cn::co::cp::cq::cr::df::dg::dh::di::dj::dk::dl::dn::cs::[]).toArray,[]⟩/\NestK 25 176 6 w' B (.slice (some ⟨vb,0,none⟩) N N) (hd.set i xx) (ll.set i (l++[[D.int .i64 a,.int .i64 ae,.int .i64 b,.int .i64 be,.int .i64 p,.int .i64 q]]))/\Grew w w' vb (.slice ad l.length cap) xx) ⟨(m::n::o::r::s::.pointer (some ⟨c,0,none⟩)::t::v::x::.pointer (some ⟨vb,i,none⟩)::y::z::aa::ab::ac::ag::ah::ai::aj::ak::al::am::an::ao::ap::aq::ar::au::av::aw::ax::ay::az::ba::bb::bc::bd::bg::bh::bi::bj::bk::bl::bm::bn::bo::bp::bq::br::bt::bu::bv::bx::bz::ca::cb::cc::ce::cf::cg::ch::ci::cj::ck::b5::cm::cn::co::cp::cq::cr::cu::cv::cw::cx::cy::cz::da::db::cs::[]).toArray,[]⟩ w:=by
 conv=>arg 2;whnf
 have mixed:Tryz.prog.follows .mixedOrders=true:=by kernel_rfl
 obtain ⟨i0,hi,dq⟩:=QdM.1 (show (Tryz.prog.info? 176).map (fun i=>(i.zero,i.size,i.bytes))=some (some (.agg #[.int .i64 0,.int .i64 0,.int .i64 0,.int .i64 0,.int .i64 0,.int .i64 0]),6,48) by kernel_rfl);obtain ⟨hz,f⟩:=Prod.mk.inj dq;obtain ⟨f,dr⟩:=Prod.mk.inj f;have b3:=(hN.row.lt vb rfl).2;have b8:=hN.each _ _ _ hx hl;have ds:w.cell? ⟨vb,i,none⟩=some (.slice ad l.length cap):=by
  have:=hN.row.cells (g:=vb) rfl i _ hx;rwa [JS,QdQ] at this
 have b1:(Value.slice ad l.length cap).ownBlock≠some vb:=fun e=>hN.outer _ _ _ hx e rfl
 obtain ⟨a9,b4⟩:∃ a9,w.drew.heap[vb]? = some (.cells a9 25 (0,0)):=by
  rcases hN.row.2 with ⟨e,_⟩ | ⟨g,d2,a9,e,_,hg,_⟩
  ·cases e
  ·cases e;exact ⟨a9,hg⟩
 have q1:l.length+1<=maxLen:=by unfold maxLen;omega
 have q2:(l.length+1)*48<=140737488355328:=by omega
 have q3:∀ u∈[Value.int .i64 a,.int .i64 ae,.int .i64 b,.int .i64 be,.int .i64 p,.int .i64 q],u.oneCell'=true:=by simp [Value.oneCell']
 have y0:w.drew.cell? ⟨c,0,none⟩=some (.int .i64 a):=c0;have y1:w.drew.cell? ⟨c,1,none⟩=some (.int .i64 ae):=c1;have y2:w.drew.cell? ⟨c,2,none⟩=some (.int .i64 b):=c2;have y3:w.drew.cell? ⟨c,3,none⟩=some (.int .i64 be):=c3;have y5:w.drew.cell? ⟨c,4,none⟩=some (.int .i64 p):=c4;have y6:w.drew.cell? ⟨c,5,none⟩=some (.int .i64 q):=c5;have y4:w.drew.cell? ⟨vb,i,none⟩=some (.slice ad l.length cap):=ds;have d:w.drew.grownBy (w.drew.alloc (.cells #[.int .i64 a,.int .i64 ae,.int .i64 b,.int .i64 be,.int .i64 p,.int .i64 q] 176)) none:=World.grownBy_alloc _ _ none;have du:w.drew.ownsRow B 176 6 (.slice ad l.length cap) l.length (cellsOf l):=b8;have dw:(w.drew.alloc (.cells #[.int .i64 a,.int .i64 ae,.int .i64 b,.int .i64 be,.int .i64 p,.int .i64 q] 176)).ownsRow B 176 6 (.slice ad l.length cap) l.length (cellsOf l):=World.ownsRow.kept (w:=w.drew) du d (Classical.em _);have dx:∀ (j:Nat) (u:Value),[Value.int .i64 a,.int .i64 ae,.int .i64 b,.int .i64 be,.int .i64 p,.int .i64 q][j]? = some u->(w.drew.alloc (.cells #[.int .i64 a,.int .i64 ae,.int .i64 b,.int .i64 be,.int .i64 p,.int .i64 q] 176)).cell? ((⟨w.drew.heap.size,0,none⟩:Addr).add j)=some u:=World.news_of_block (heap_alloc_new _ _);have h:w.drew.heap.size<=(w.drew.alloc (.cells #[.int .i64 a,.int .i64 ae,.int .i64 b,.int .i64 be,.int .i64 p,.int .i64 q] 176)).heap.size:=d.size;have b6:B<=(w.drew.alloc (.cells #[.int .i64 a,.int .i64 ae,.int .i64 b,.int .i64 be,.int .i64 p,.int .i64 q] 176)).heap.size:=QdP hB h;have a6:vb<w.drew.heap.size:=b3;have b0:=(d.block vb a6 (fun e=>by cases e)).trans b4;have k:=d.cell_far ⟨vb,i,none⟩ a6 (fun e=>by cases e);have k:=k.trans y4;have dp:(1:Nat)*6=6:=rfl
 go_region_law (first
   |(refine step_append_lies (w.drew.alloc (.cells #[.int .i64 a,.int .i64 ae,.int .i64 b,.int .i64 be,.int .i64 p,.int .i64 q] 176)) (by rfl) _ _ 25 (by rfl) B 176 i0 (.agg #[.int .i64 0,.int .i64 0,.int .i64 0,.int .i64 0,.int .i64 0,.int .i64 0]) 6 48 Tryz.underlying25 hi hz f dr (by rfl) (by decide) _ l.length (cellsOf l) (by rfl) dw ⟨w.drew.heap.size,0,none⟩ 1 1 [Value.int .i64 a,.int .i64 ae,.int .i64 b,.int .i64 be,.int .i64 p,.int .i64 q] (by rfl) rfl dx q3 (by decide) q1 q2 b6 _ rfl ?_;intro g c2 W2 b2 a8 hat fa;
     have rx:=(a8.cell_far ⟨vb,i,none⟩ (QdF a6 h) (fun e=>b1 e.symm)).trans k;
     have rf:=frozen_of_row W2 vb i a9 25 ((a8.block vb (QdF a6 h) (fun e=>b1 e.symm)).trans b0)))
 all_goals
  dsimp only [Q22];have E:=AW (w:=w.drew) (row:=[D.int .i64 a,.int .i64 ae,.int .i64 b,.int .i64 be,.int .i64 p,.int .i64 q]) ⟨hN.row,hN.each,hN.outer,hN.apart⟩ hx hl rfl d b2 a8 hat;exact ⟨_,_,_,_,_,_,_,_,_,rfl,E.1,⟨E.2.own,E.2.os,E.2.tape,E.2.output,E.2.size,E.2.block⟩⟩
theorem Q35 {N:Nat} {l0 l1 l2 c:LL} {a ae b be p q:Int} (h:XO N l0 l1 l2 c a ae b be p q some=some true) {S:Nat->Prop} {w:World} (hS:∀ b,S b->b<w.heap.size) {d f g i:Value}
  (j:Rd S w d (.sl 1 l0)) (k:Rd S w f (.sl 1 l1)) (h2:Rd S w g (.sl 5 l2)) (l:Rd S w i (.sl 6 c)) :
  Calls Tryz.prog 157 #[.agg #[d,f,g,i],.agg #[.int .i64 a,.int .i64 ae,.int .i64 b,.int .i64 be,.int .i64 p,.int .i64 q]] w fun e w'=>e = .returned (.bool true)/\RowKit.Below w.heap.size w w':=by
 have he:(Gg N).E Dl 0 true [.ag ([D.sl 1 l0,.sl 1 l1,.sl 5 l2,.sl 6 c].map .d),.ag ([D.int .i64 a,.int .i64 ae,.int .i64 b,.int .i64 be,.int .i64 p,.int .i64 q].map .d)] (fun _=>none) some=some ⟨.d (.bool true),[],[]⟩:=by
  show gb true (XO N l0 l1 l2 c a ae b be p q some) false (fun r=>(some ⟨.d (D.bool r),[],[]⟩:Option Dl))=_;rw [h];rfl
 exact Hi (XM ((Gg N).ok) he) hS (G6 (RdLs.agg (.cons j (.cons k (.cons h2 (.cons l .nil))))) (RdLs.agg (.cons (.int _ _) (.cons (.int _ _) (.cons (.int _ _) (.cons (.int _ _) (.cons (.int _ _) (.cons (.int _ _) .nil))))))))
theorem BJ {N:Nat} {x:LL} {a ae b be:Int} (h:VL N x a ae b be some=some false) {S:Nat->Prop} {w:World} (hS:∀ b,S b->b<w.heap.size) {v:Value} (hv:Rd S w v (.sl 6 x)) :
  Calls Tryz.prog 160 #[v,.agg #[.int .i64 a,.int .i64 ae],.agg #[.int .i64 b,.int .i64 be]] w fun e w'=>e = .returned (.bool false)/\RowKit.Below w.heap.size w w':=by
 have he:(P4 N).E Dl 0 true [.d (.sl 6 x),.ag ([D.int .i64 a,.int .i64 ae].map .d),.ag ([D.int .i64 b,.int .i64 be].map .d)] (fun _=>none) some=some ⟨.d (.bool false),[],[]⟩:=by
  show gb true (VL N x a ae b be some) false (fun r=>(some ⟨.d (D.bool r),[],[]⟩:Option Dl))=_;rw [h];rfl
 exact Hi (XM ((P4 N).ok) he) hS (Q7i (.d _ _ hv) (RdLs.agg (.cons (.int _ _) (.cons (.int _ _) .nil))) (RdLs.agg (.cons (.int _ _) (.cons (.int _ _) .nil))))
theorem C4 {N:Nat} {x:LL} {a ae b be p q:Int} (h:V7 N a ae b be p q x some=some true) {S:Nat->Prop} {w:World} (hS:∀ b,S b->b<w.heap.size) {v:Value} (hv:Rd S w v (.sl 6 x)) :
  Calls Tryz.prog 161 #[.agg #[.int .i64 a,.int .i64 ae,.int .i64 b,.int .i64 be,.int .i64 p,.int .i64 q],v] w fun e w'=>e = .returned (.bool true)/\RowKit.Below w.heap.size w w':=by
 have he:(Nt N).E Dl 0 true [.ag ([D.int .i64 a,.int .i64 ae,.int .i64 b,.int .i64 be,.int .i64 p,.int .i64 q].map .d),.d (.sl 6 x)] (fun _=>none) some=some ⟨.d (.bool true),[],[]⟩:=by
  show gb true (V7 N a ae b be p q x some) false (fun r=>(some ⟨.d (D.bool r),[],[]⟩:Option Dl))=_;rw [h];rfl
 exact Hi (XM ((Nt N).ok) he) hS (G6 (RdLs.agg (.cons (.int _ _) (.cons (.int _ _) (.cons (.int _ _) (.cons (.int _ _) (.cons (.int _ _) (.cons (.int _ _) .nil))))))) (.d _ _ hv))
theorem CZ {N:Nat} {l0 l1 l2 d:LL} {st:List LL} {l:LL} {j:Nat} (hj:j<l.length) (h:JB N l0 l1 l2 d st (l.drop j)=true) :
  ∃ a ae b be p q x y,l[j]? = some [D.int .i64 a,.int .i64 ae,.int .i64 b,.int .i64 be,.int .i64 p,.int .i64 q]/\((0<=a/\a<l2.length)/\(0<=ae/\ae<=1)/\(0<=b/\b<l2.length)/\(0<=be/\be<=1)) /\
   XO N l0 l1 l2 d a ae b be p q some=some true/\(2*a+ae).toNat≠(2*b+be).toNat/\st[(2*a+ae).toNat]? = some x/\st[(2*b+be).toNat]? = some y /\
   VL N x a ae b be some=some false/\V7 N a ae b be p q x some=some true/\V7 N a ae b be p q y some=some true/\x.length<=1/\y.length<=1 /\
   JB N l0 l1 l2 d ((st.set (2*a+ae).toNat (x++[[D.int .i64 a,.int .i64 ae,.int .i64 b,.int .i64 be,.int .i64 p,.int .i64 q]])).set (2*b+be).toNat (y++[[D.int .i64 a,.int .i64 ae,.int .i64 b,.int .i64 be,.int .i64 p,.int .i64 q]])) (l.drop (j+1))=true:=by
 rw [List.drop_eq_getElem_cons hj] at h;unfold JB at h;split at h
 ·rename_i a ae b be p q e;simp only [QdG,Bool.not_eq_true',decide_eq_true_eq] at h;obtain ⟨⟨⟨g1,f⟩,g⟩,c⟩:=h;split at c
  ·rename_i x y hx hy;simp only [QdG] at c;obtain ⟨⟨⟨⟨⟨k1,i⟩,k⟩,m⟩,n⟩,o⟩:=c;refine ⟨a,ae,b,be,p,q,x,y,by rw [Qdz hj,e],?_,Pu f,?_,hx,hy,Q4y k1,Pu i,Pu k,QdD m,QdD n,by rw [<- e];exact o⟩
   ·obtain ⟨⟨⟨⟨⟨⟨⟨r,s⟩,t⟩,u⟩,v⟩,z⟩,z7⟩,z8⟩:=g1;exact ⟨⟨r,s⟩,⟨t,u⟩,⟨v,z⟩,⟨z7,z8⟩⟩
   ·exact Nat.ne_of_beq_eq_false g
  ·cases c
 ·cases h
theorem Q3i {w w1:World} {B N vb:Nat} (h:w1.ownsRow B 25 1 (.slice (some ⟨vb,0,none⟩) N N) N (List.replicate N (.slice none 0 0))):NestK 25 176 6 w1 B (.slice (some ⟨vb,0,none⟩) N N) (List.replicate N (.slice none 0 0)) (List.replicate N []):=by
 refine ⟨by simpa using h,fun i x l hx hl=>?_,fun i x b hx hb=>?_,fun i j x y b hx hy ak ao=>?_⟩
 ·have e1:=Qdx hx;have e2:=Qdx hl;obtain ⟨_,rfl⟩:=QdH.1 e1;obtain ⟨_,rfl⟩:=QdH.1 e2;exact World.ownsRow_nil w1 B 176 6
 ·obtain ⟨_,rfl⟩:=QdH.1 (Qdx hx);cases hb
 ·obtain ⟨_,rfl⟩:=QdH.1 (Qdx hx);cases ak
theorem Q4w {w:World} {B i:Nat} {v:Value} {hd:List Value} {ll:List LL} {l:LL} (h:NestK 25 176 6 w B v hd ll) (hl:ll[i]? = some l):∃ (ad:Option Addr) (cap:Nat),hd[i]? = some (.slice ad l.length cap):=by
 have hi:i<hd.length:=by rw [h.len];exact (Qdw.1 hl).1
 have hx:=Qdz hi;rcases (h.each i hd[i] l hx hl).2 with ⟨e,a⟩ | ⟨g,cap,am,e,_⟩
 ·exact ⟨none,0,by rw [hx,e,a]⟩
 ·exact ⟨some ⟨g,0,none⟩,cap,by rw [hx,e]⟩
theorem Q1C {w:World} {B i:Nat} {v x:Value} {hd:List Value} {ll:List LL} {l:LL} (h:NestK 25 176 6 w B v hd ll) (hx:hd[i]? = some x) (hl:ll[i]? = some l) (ak:∀ l∈ll,∀ r∈l,MX 6 r=true) :
  (∀ b,x.ownBlock=some b->b<w.drew.heap.size)/\Rd (fun b=>x.ownBlock=some b) w.drew x (.sl 6 l):=
 ⟨fun b hb=>(h.blk hx hb).2,Rd.mono (w:=w) (w':=w.drew) (fun _ h=>h) (fun _ _=>rfl) (Q9u (w:=w) (h.each i x l hx hl) (ak l (Qdx hl)) (fun _ h=>h))⟩
theorem E8 {w:World} {B vb N i:Nat} {x:Value} {hd:List Value} {ll:List LL} (h:NestK 25 176 6 w B (.slice (some ⟨vb,0,none⟩) N N) hd ll) (hx:hd[i]? = some x):w.cell? ⟨vb,i,none⟩=some x:=by
 have:=h.row.cells (g:=vb) rfl i _ hx;rwa [JS,QdQ] at this
theorem Q3G {ll:List LL} {i:Nat} {x:LL} {row:List D} (h:∀ l∈ll,∀ r∈l,MX 6 r=true) (hx:ll[i]? = some x) (hr:MX 6 row=true):∀ l∈ll.set i (x++[row]),∀ r∈l,MX 6 r=true:=by
 intro l hl r ak;rcases List.mem_or_eq_of_mem_set hl with a | rfl
 ·exact h l a r ak
 ·rcases Qdy.1 ak with a | a
  ·exact h x (Qdx hx) r a
  ·simp at a;subst a;exact hr
theorem DM {w0 w w':World} {n vb:Nat} {x x':Value} (h:Below n w0 w) (hg:Grew w w' vb x x') (hn:n<=w.heap.size) (hv:n<=vb) (hx:∀ c,x.ownBlock=some c->n<=c):Below n w0 w':=
 ⟨hg.os.trans h.os,hg.tape.trans h.tape,hg.output.trans h.output,QdP h.size hg.size,fun k hk=>(hg.block k (by omega) (by omega) (fun e=>by have:=hx k e;omega)).trans (h.block k hk)⟩
theorem Q5e {a ae b be:Int} (h:¬ (a=b/\ae=be)) (w:World):(binOp .eql 231 (.agg #[.int .i64 a,.int .i64 ae]) (.agg #[.int .i64 b,.int .i64 be])).run Tryz.prog w = .ok (.bool false) w:=by
 go_simp
 exact fun e1 e2=>h ⟨e1,e2⟩
set_option maxHeartbeats 16000000 in
set_option maxRecDepth 100000 in
theorem Tryz.links_calls {N:Nat} (S:Nat->Prop) (w:World) (hS:∀ b,S b->b<w.heap.size) (l0 l1 l2 f:LL) (v0 v1 v2 v3:Value) (h0:Rd S w v0 (.sl 1 l0)) (h1:Rd S w v1 (.sl 1 l1)) (h2:Rd S w v2 (.sl 5 l2)) (h3:Rd S w v3 (.sl 6 f))
  (m2:l2.length<=96) (m3:f.length<=192) (dt:JB N l0 l1 l2 f (List.replicate (2*l2.length) []) f=true) :
  Calls Tryz.prog 131 #[.agg #[v0,v1,v2,v3]] w fun e w'=>e = .returned (.int .i64 0)/\Below w.heap.size w w':=by
 obtain ⟨z,aa,rfl⟩:=JK h0;obtain ⟨ab,ac,rfl⟩:=JK h1;obtain ⟨t,u,rfl⟩:=JK h2;obtain ⟨ad,v,rfl⟩:=JK h3;obtain ⟨i0,hi,ca⟩:=QdM.1 (show (Tryz.prog.info? 25).map (fun i=>(i.zero,i.size,i.bytes))=some (some (.slice none 0 0),1,24) by kernel_rfl);obtain ⟨hz,av⟩:=Prod.mk.inj ca;obtain ⟨av,cb⟩:=Prod.mk.inj av;have d4:∀ w:World,∃ w',(Instr.makeSlice 228 (.int .i64 (2*(l2.length:Int))) (.int .i64 (2*(l2.length:Int)))).run Tryz.prog w = .ok (.slice (some ⟨w.heap.size,0,none⟩) (2*l2.length) (2*l2.length)) w' /\
   w'.ownsRow w.heap.size 25 1 (.slice (some ⟨w.heap.size,0,none⟩) (2*l2.length) (2*l2.length)) (2*l2.length) (List.replicate (2*l2.length) (.slice none 0 0))/\w.grownBy w' none:=by
  intro w;obtain ⟨w',r1,r2,r3⟩:=run_make_full w w.heap.size 228 25 i0 (.slice none 0 0) 1 Tryz.underlying228 hi hz av .i64 .i64 (2*l2.length) (by rw [cb];omega) (by unfold maxLen;omega) (QdI _);refine ⟨w',by rw [<- r1];simp,?_,r3⟩;have e:(madeCells (Value.slice none 0 0).cells (2*l2.length*1)).toList=List.replicate (2*l2.length) (.slice none 0 0):=by
   apply List.ext_getElem
   ·simp [size_madeCells]
   ·intro i h1 h2;simp [madeCells,Value.cells,Nat.mod_one]
  rw [<- e];exact r2
 have fz:wrap64 (2*(l2.length:Int))=2*(l2.length:Int):=by unfold wrap64;omega
 have b4:(w.alloc (.cells #[.slice z l0.length aa,.slice ab l1.length ac,.slice t l2.length u,.slice ad f.length v] 27)).heap[w.heap.size]? = some (.cells #[.slice z l0.length aa,.slice ab l1.length ac,.slice t l2.length u,.slice ad f.length v] 27 (0,0)):=heap_alloc_new w _;have bd:Below w.heap.size w (w.alloc (.cells #[.slice z l0.length aa,.slice ab l1.length ac,.slice t l2.length u,.slice ad f.length v] 27)):=ZU (Below.refl _ _) (QdI _) _;have bg:(w.alloc (.cells #[.slice z l0.length aa,.slice ab l1.length ac,.slice t l2.length u,.slice ad f.length v] 27)).heap.size=w.heap.size+1:=by simp
 obtain ⟨w2,cr,b3,aw⟩:=d4 (w.alloc (.cells #[.slice z l0.length aa,.slice ab l1.length ac,.slice t l2.length u,.slice ad f.length v] 27));have a8:=(aw.block w.heap.size (by simp) (by simp)).trans b4;have a6:Below w.heap.size w w2:=⟨aw.os.trans bd.os,aw.tape.trans bd.tape,aw.output.trans bd.output,QdP bd.size aw.size,fun b hb=>(aw.block b (by omega) (by simp)).trans (bd.block b hb)⟩;have ej:=aw.size;rw [bg] at cr b3 ej;have df:=Q3i (w:=w) b3;clear d4 aw b3;have y2:(w.alloc (.cells #[.slice z l0.length aa,.slice ab l1.length ac,.slice t l2.length u,.slice ad f.length v] 27)).cell? ⟨w.heap.size,2,none⟩=some (.slice t l2.length u):=by rw [Qdu b4];rfl
 have z3:w2.cell? ⟨w.heap.size,3,none⟩=some (.slice ad f.length v):=by rw [Qdu a8];rfl
 go_enter Tryz.func131,Tryz.ntmps131
 go_wp2
 clear cr b4 y2 z3 bd bg;generalize en:w.heap.size=H0 at *
 go_loopw [18] (fun i wr=>∃ (j:Nat) (hd:List Value) (ll:List LL),j<=f.length/\i = .int .i64 j/\NestK 25 176 6 wr (H0+1) (.slice (some ⟨H0+1,0,none⟩) (2*l2.length) (2*l2.length)) hd ll/\ll.length=2*l2.length /\
   JB N l0 l1 l2 f ll (f.drop j)=true/\(∀ l∈ll,∀ r∈l,MX 6 r=true)/\wr.heap[H0]? = some (.cells #[.slice z l0.length aa,.slice ab l1.length ac,.slice t l2.length u,.slice ad f.length v] 27 (0,0))/\Below H0 w wr)
  (fun i _=>f.length-(intOf i).toNat)
 case atStart=>
  refine ⟨0,_,_,Nat.zero_le _,rfl,df,by simp,by simpa using dt,fun l hl r hr=>?_,a8,a6⟩;obtain ⟨_,rfl⟩:=QdH.1 hl;cases hr
 case round=>
  obtain ⟨j,hd,ll,hj,rfl,hN,c8,ee,a9,dy,hF⟩:=hrel;clear df dt a8 a6;by_cases ec:j<f.length
  ·have e9:((j:Int)<(f.length:Int)):=by omega
   obtain ⟨a,ae,b,be,p,q,x,y,ek,⟨⟨ch,dc⟩,⟨ci,cj⟩,⟨ck,dd⟩,⟨cm,cn⟩⟩,cf,cx,hx,hy,cy,co,cp,fm,f7,c3⟩:=CZ ec ee;have ef:∀ c,c<H0->wr.heap[c]? = w.heap[c]?:=fun c hc=>hF.block c hc
   have gk:∀ c,S c->c<wr.heap.size:=fun c hc=>by have:=hS c hc;have:=hF.size;omega
   have bh:=Rd.keep (w':=wr) h3 hS ef;obtain ⟨a3,rfl,_,_,ar⟩:=Q4R bh ek;obtain ⟨u0,x0,q0⟩:=ar 0 _ rfl;obtain ⟨u1,x1,q1⟩:=ar 1 _ rfl;obtain ⟨fp,x2,q2⟩:=ar 2 _ rfl;obtain ⟨ga,x3,q3⟩:=ar 3 _ rfl;obtain ⟨f5,x4,q4⟩:=ar 4 _ rfl;obtain ⟨fx,x5,q5⟩:=ar 5 _ rfl;rw [Ti q0,Nat.add_zero] at x0;rw [Ti q1,Gt _ _ _ (by decide)] at x1;rw [Ti q2,Gt _ _ _ (by decide)] at x2;rw [Ti q3,Gt _ _ _ (by decide)] at x3;rw [Ti q4,Gt _ _ _ (by decide)] at x4;rw [Ti q5,Gt _ _ _ (by decide)] at x5;clear ar q0 q1 q2 q3 q4 q5 bh;have dg:H0+1<=wr.heap.size:=(QdN.1 dy).1;have gg:H0+1<wr.heap.size:=(hN.row.lt (H0+1) rfl).2;obtain ⟨b6,b7,bj⟩:=Q4w hN hx;obtain ⟨cg,ce,b9⟩:=Q4w hN hy;have bc:∀ c,(Value.slice b6 x.length b7).ownBlock=some c->H0+1<=c/\c<wr.heap.size:=fun c hc=>hN.blk bj hc
   have b2:∀ c,(Value.slice cg y.length ce).ownBlock=some c->H0+1<=c/\c<wr.heap.size:=fun c hc=>hN.blk b9 hc
   have bk:wr.grownBy (wr.alloc (.cells #[.int .i64 a,.int .i64 ae,.int .i64 b,.int .i64 be,.int .i64 p,.int .i64 q] 176)) none:=World.grownBy_alloc wr _ none;have ag:(wr.alloc (.cells #[.int .i64 a,.int .i64 ae,.int .i64 b,.int .i64 be,.int .i64 p,.int .i64 q] 176)).heap[wr.heap.size]? = some (.cells #[.int .i64 a,.int .i64 ae,.int .i64 b,.int .i64 be,.int .i64 p,.int .i64 q] 176 (0,0)):=heap_alloc_new wr _;have d7:=Vs hN bk;have c4:=ZU hF (by omega) (.cells #[.int .i64 a,.int .i64 ae,.int .i64 b,.int .i64 be,.int .i64 p,.int .i64 q] 176);have al:=(bk.block H0 (by omega) (by simp)).trans dy;have dh:(wr.alloc (.cells #[.int .i64 a,.int .i64 ae,.int .i64 b,.int .i64 be,.int .i64 p,.int .i64 q] 176)).heap.size=wr.heap.size+1:=by simp
   generalize em:wr.alloc (.cells #[.int .i64 a,.int .i64 ae,.int .i64 b,.int .i64 be,.int .i64 p,.int .i64 q] 176)=W1 at *
   generalize di:wr.heap.size=d at *
   have an:∀ c,c<H0->W1.heap[c]? = w.heap[c]?:=fun c hc=>c4.block c hc
   have cv:∀ c,S c->c<W1.heap.size:=fun c hc=>by have:=hS c hc;omega
   have k0:=Rd.keep (w':=W1) h0 hS an;have k1:=Rd.keep (w':=W1) h1 hS an;have k2:=Rd.keep (w':=W1) h2 hS an;have k3:=Rd.keep (w':=W1) h3 hS an;have z0:W1.cell? ⟨H0,0,none⟩=some (.slice z l0.length aa):=by rw [Qdu al];rfl
   have z1:W1.cell? ⟨H0,1,none⟩=some (.slice ab l1.length ac):=by rw [Qdu al];rfl
   have z2:W1.cell? ⟨H0,2,none⟩=some (.slice t l2.length u):=by rw [Qdu al];rfl
   have z3:W1.cell? ⟨H0,3,none⟩=some (.slice (some a3) f.length v):=by rw [Qdu al];rfl
   have c0:W1.cell? ⟨d,0,none⟩=some (.int .i64 a):=by rw [Qdu ag];rfl
   have c1:W1.cell? ⟨d,1,none⟩=some (.int .i64 ae):=by rw [Qdu ag];rfl
   have g:W1.cell? ⟨d,2,none⟩=some (.int .i64 b):=by rw [Qdu ag];rfl
   have m:W1.cell? ⟨d,3,none⟩=some (.int .i64 be):=by rw [Qdu ag];rfl
   have n:W1.cell? ⟨d,4,none⟩=some (.int .i64 p):=by rw [Qdu ag];rfl
   have o:W1.cell? ⟨d,5,none⟩=some (.int .i64 q):=by rw [Qdu ag];rfl
   go_wp2_with (go_at_call 157;refine (Q35 cf cv k0 k1 k2 k3).mono ?_)
   rintro e W2 ⟨rfl,a6⟩;have ah:=(a6.block d (by omega)).trans ag;have bn:=(a6.block H0 (by omega)).trans al;have dw:=Vs d7 (Zc a6);have d9:=WS c4 (by omega) a6;have dj:=a6.size;clear c0 c1 g m n o z0 z1 z2 z3 k0 k1 k2 k3 an cv ag al d7 c4;have c0:W2.cell? ⟨d,0,none⟩=some (.int .i64 a):=by rw [Qdu ah];rfl
   have c1:W2.cell? ⟨d,1,none⟩=some (.int .i64 ae):=by rw [Qdu ah];rfl
   have g:W2.cell? ⟨d,2,none⟩=some (.int .i64 b):=by rw [Qdu ah];rfl
   have m:W2.cell? ⟨d,3,none⟩=some (.int .i64 be):=by rw [Qdu ah];rfl
   have n:W2.cell? ⟨d,4,none⟩=some (.int .i64 p):=by rw [Qdu ah];rfl
   have o:W2.cell? ⟨d,5,none⟩=some (.int .i64 q):=by rw [Qdu ah];rfl
   go_wp2_with (go_at_call 158;refine (Tryz.ends_calls W2 a ae b be p q).mono ?_)
   rintro e W3 ⟨rfl,b0⟩
   go_wp2
   clear c0 c1 g m n o;have dk:=b0.size;have ao:W3.grownBy ((W3.alloc (.cells #[.int .i64 a,.int .i64 ae] 231)).alloc (.cells #[.int .i64 b,.int .i64 be] 231)) none:=⟨rfl,rfl,rfl,by simp;omega,fun k hk _=>by rw [QdK _ _ _ (by simp;omega),QdK _ _ _ hk]⟩;have de:=ZU (ZU (WS d9 (by omega) b0) (by omega) (.cells #[.int .i64 a,.int .i64 ae] 231)) (by omega) (.cells #[.int .i64 b,.int .i64 be] 231);have bo:=(ao.block d (by omega) (by simp)).trans ((b0.block d (by omega)).trans ah);have bp:=(ao.block H0 (by omega) (by simp)).trans ((b0.block H0 (by omega)).trans bn);have du:=Vs (Vs dw (Zc b0)) ao;have ap:((W3.alloc (.cells #[.int .i64 a,.int .i64 ae] 231)).alloc (.cells #[.int .i64 b,.int .i64 be] 231)).heap[W3.heap.size]? = some (.cells #[.int .i64 a,.int .i64 ae] 231 (0,0)):=by
    rw [QdK _ _ _ (by simp)];exact heap_alloc_new _ _
   have aq:((W3.alloc (.cells #[.int .i64 a,.int .i64 ae] 231)).alloc (.cells #[.int .i64 b,.int .i64 be] 231)).heap[W3.heap.size+1]? = some (.cells #[.int .i64 b,.int .i64 be] 231 (0,0)):=by
    have:=heap_alloc_new (W3.alloc (.cells #[.int .i64 a,.int .i64 ae] 231)) (.cells #[.int .i64 b,.int .i64 be] 231);simpa using this
   have dl:((W3.alloc (.cells #[.int .i64 a,.int .i64 ae] 231)).alloc (.cells #[.int .i64 b,.int .i64 be] 231)).heap.size=W3.heap.size+2:=by simp
   clear ao ah bn dw d9;generalize eg:(W3.alloc (.cells #[.int .i64 a,.int .i64 ae] 231)).alloc (.cells #[.int .i64 b,.int .i64 be] 231)=W4 at *
   generalize e0:W3.heap.size=s at *
   have fb:d<W2.heap.size:=by omega
   clear eg em;have c0:W4.cell? ⟨s,0,none⟩=some (.int .i64 a):=by rw [Qdu ap];rfl
   have c1:W4.cell? ⟨s,1,none⟩=some (.int .i64 ae):=by rw [Qdu ap];rfl
   have d0:W4.cell? ⟨s+1,0,none⟩=some (.int .i64 b):=by rw [Qdu aq];rfl
   have d1:W4.cell? ⟨s+1,1,none⟩=some (.int .i64 be):=by rw [Qdu aq];rfl
   refine Code.wp_mono ?_ (Tryz.links_r8 _ _ _ _ _ _ _ _ _ _ _ _ _ _ _ _ _ _ _ _ _ _ _ _ _ _ _ _ _ _ _ _ _ _ _ _ _ _ _ _ _ _ _ _ _ _ _ _ _ _ _ _ _ _ _ _ _ _ _ _ _ _ _ _ _ _ _ _ _ _ _ _ _ _ _ _ _ (H0+1) (2*l2.length) s (s+1) a ae b be W4 c0 c1 d0 d1 ch (by omega) ci cj ck (by omega) cm cn (by omega) (by omega));clear c0 c1 d0 d1;rintro e act W5 h;cases e with
   |normal=>
    obtain ⟨_,_,_,_,_,_,_,_,rfl,a7⟩:=h;have fg:=a7.size;have c7:=WS de (by omega) a7;have bq:=(a7.block d (by omega)).trans bo;have br:=(a7.block H0 (by omega)).trans bp;have b5:=Vs du (Zc a7);have ax:=(a7.block s (by omega)).trans ap;have ay:=(a7.block (s+1) (by omega)).trans aq;clear de bo bp du ap aq a7;have e2:=Q5e (a:=a) (ae:=ae) (b:=b) (be:=be) (fun h=>cx (by rw [h.1,h.2]));generalize fk:(2*a+ae).toNat=ia at *
    generalize f4:(2*b+be).toNat=ib at *
    have c0:W5.cell? ⟨s,0,none⟩=some (.int .i64 a):=by rw [Qdu ax];rfl
    have c1:W5.cell? ⟨s,1,none⟩=some (.int .i64 ae):=by rw [Qdu ax];rfl
    have d0:W5.cell? ⟨s+1,0,none⟩=some (.int .i64 b):=by rw [Qdu ay];rfl
    have d1:W5.cell? ⟨s+1,1,none⟩=some (.int .i64 be):=by rw [Qdu ay];rfl
    dsimp only [Exit.then]
    go_wp2
    have jx:=Q1C b5 bj hx a9;have au:=E8 b5 bj;refine Code.wp_mono ?_ (Tryz.links_r11 _ _ _ _ _ _ _ _ _ _ _ _ _ _ _ _ _ _ _ _ _ _ _ _ _ _ _ _ _ _ _ _ _ _ _ _ _ _ _ _ _ _ _ _ _ _ _ _ _ _ _ _ _ _ _ _ _ _ _ _ _ _ _ _ _ _ _ _ _ _ _ _ _ _ _ _ _ (H0+1) ia s (s+1) x.length b7 b6 a ae b be W5 c0 c1 d0 d1 au (BJ cy jx.1 jx.2));clear c0 c1 d0 d1 jx au;rintro e act W6 h;cases e with
    |normal=>
     obtain ⟨_,_,_,_,_,_,rfl,bi⟩:=h;have dn:=bi.size;have d5:=WS c7 (by omega) bi;have ai:=(bi.block d (by omega)).trans bq;have bt:=(bi.block H0 (by omega)).trans br;have b8:=Vs b5 (Zc bi);clear c7 bq br b5 ax ay bi;dsimp only [Exit.then]
     go_wp2
     have c0:W6.cell? ⟨d,0,none⟩=some (.int .i64 a):=by rw [Qdu ai];rfl
     have c1:W6.cell? ⟨d,1,none⟩=some (.int .i64 ae):=by rw [Qdu ai];rfl
     have g:W6.cell? ⟨d,2,none⟩=some (.int .i64 b):=by rw [Qdu ai];rfl
     have m:W6.cell? ⟨d,3,none⟩=some (.int .i64 be):=by rw [Qdu ai];rfl
     have n:W6.cell? ⟨d,4,none⟩=some (.int .i64 p):=by rw [Qdu ai];rfl
     have o:W6.cell? ⟨d,5,none⟩=some (.int .i64 q):=by rw [Qdu ai];rfl
     have jx:=Q1C b8 bj hx a9;have au:=E8 b8 bj;refine Code.wp_mono ?_ (Tryz.links_r13 _ _ _ _ _ _ _ _ _ _ _ _ _ _ _ _ _ _ _ _ _ _ _ _ _ _ _ _ _ _ _ _ _ _ _ _ _ _ _ _ _ _ _ _ _ _ _ _ _ _ _ _ _ _ _ _ _ _ _ _ _ _ _ _ _ _ _ _ _ _ _ _ _ _ _ _ _ _ (H0+1) ia d x.length b7 b6 a ae b be p q W6 c0 c1 g m n o au (C4 co jx.1 jx.2));clear c0 c1 g m n o jx au;rintro e act W7 h;cases e with
     |normal=>
      obtain ⟨_,_,_,_,_,_,rfl,bm⟩:=h;have dp:=bm.size;have c9:=WS d5 (by omega) bm;have aj:=(bm.block d (by omega)).trans ai;have bu:=(bm.block H0 (by omega)).trans bt;have cc:=Vs b8 (Zc bm);clear d5 ai bt b8 bm;dsimp only [Exit.then]
      go_wp2
      have c0:W7.cell? ⟨d,0,none⟩=some (.int .i64 a):=by rw [Qdu aj];rfl
      have c1:W7.cell? ⟨d,1,none⟩=some (.int .i64 ae):=by rw [Qdu aj];rfl
      have g:W7.cell? ⟨d,2,none⟩=some (.int .i64 b):=by rw [Qdu aj];rfl
      have m:W7.cell? ⟨d,3,none⟩=some (.int .i64 be):=by rw [Qdu aj];rfl
      have n:W7.cell? ⟨d,4,none⟩=some (.int .i64 p):=by rw [Qdu aj];rfl
      have o:W7.cell? ⟨d,5,none⟩=some (.int .i64 q):=by rw [Qdu aj];rfl
      have jx:=Q1C cc b9 hy a9;have au:=E8 cc b9;refine Code.wp_mono ?_ (Tryz.links_r14 _ _ _ _ _ _ _ _ _ _ _ _ _ _ _ _ _ _ _ _ _ _ _ _ _ _ _ _ _ _ _ _ _ _ _ _ _ _ _ _ _ _ _ _ _ _ _ _ _ _ _ _ _ _ _ _ _ _ _ _ _ _ _ _ _ _ _ _ _ _ _ _ _ _ _ _ _ _ (H0+1) ib d y.length ce cg a ae b be p q W7 c0 c1 g m n o au (C4 cp jx.1 jx.2));clear c0 c1 g m n o jx au;rintro e act W8 h;cases e with
      |normal=>
       obtain ⟨_,_,_,_,_,_,rfl,bl⟩:=h;have dq:=bl.size;have dx:=WS c9 (by omega) bl;have ak:=(bl.block d (by omega)).trans aj;have bv:=(bl.block H0 (by omega)).trans bu;have d6:=Vs cc (Zc bl);clear c9 aj bu cc bl;dsimp only [Exit.then]
       go_wp2
       have c0:W8.cell? ⟨d,0,none⟩=some (.int .i64 a):=by rw [Qdu ak];rfl
       have c1:W8.cell? ⟨d,1,none⟩=some (.int .i64 ae):=by rw [Qdu ak];rfl
       have g:W8.cell? ⟨d,2,none⟩=some (.int .i64 b):=by rw [Qdu ak];rfl
       have m:W8.cell? ⟨d,3,none⟩=some (.int .i64 be):=by rw [Qdu ak];rfl
       have n:W8.cell? ⟨d,4,none⟩=some (.int .i64 p):=by rw [Qdu ak];rfl
       have o:W8.cell? ⟨d,5,none⟩=some (.int .i64 q):=by rw [Qdu ak];rfl
       refine Code.wp_mono ?_ (Tryz.links_r16 _ _ _ _ _ _ _ _ _ _ _ _ _ _ _ _ _ _ _ _ _ _ _ _ _ _ _ _ _ _ _ _ _ _ _ _ _ _ _ _ _ _ _ _ _ _ _ _ _ _ _ _ _ _ _ _ _ _ _ _ _ _ _ _ _ _ _ _ _ _ _ _ _ _ _ _ _ _ (H0+1) (H0+1) (2*l2.length) ia d b7 b6 a ae b be p q hd ll x W8 c0 c1 g m n o d6 bj hx (by omega) (by omega) (by omega) (fun e=>by have:=(bc d e).2;omega));clear c0 c1 g m n o;rintro e act W9 h;cases e with
       |normal=>
        obtain ⟨_,_,_,_,_,_,_,_,xx,rfl,ep,b1⟩:=h;have dr:=b1.size;have eo:=DM dx b1 (by omega) (by omega) (fun c hc=>by have:=(bc c hc).1;omega);have am:=(b1.block d (by omega) (by omega) (fun e=>by have:=(bc d e).2;omega)).trans ak;have cz:=(b1.block H0 (by omega) (by omega) (fun e=>by have:=(bc H0 e).1;omega)).trans bv;clear dx ak bv d6 b1;have da:(hd.set ia xx)[ib]? = some (.slice cg y.length ce):=by rw [QdR,if_neg cx];exact b9
        have bx:(ll.set ia (x++[[D.int .i64 a,.int .i64 ae,.int .i64 b,.int .i64 be,.int .i64 p,.int .i64 q]]))[ib]? = some y:=by rw [QdR,if_neg cx];exact hy
        dsimp only [Exit.then]
        go_wp2
        have c0:W9.cell? ⟨d,0,none⟩=some (.int .i64 a):=by rw [Qdu am];rfl
        have c1:W9.cell? ⟨d,1,none⟩=some (.int .i64 ae):=by rw [Qdu am];rfl
        have g:W9.cell? ⟨d,2,none⟩=some (.int .i64 b):=by rw [Qdu am];rfl
        have m:W9.cell? ⟨d,3,none⟩=some (.int .i64 be):=by rw [Qdu am];rfl
        have n:W9.cell? ⟨d,4,none⟩=some (.int .i64 p):=by rw [Qdu am];rfl
        have o:W9.cell? ⟨d,5,none⟩=some (.int .i64 q):=by rw [Qdu am];rfl
        refine Code.wp_mono ?_ (Tryz.links_r17 _ _ _ _ _ _ _ _ _ _ _ _ _ _ _ _ _ _ _ _ _ _ _ _ _ _ _ _ _ _ _ _ _ _ _ _ _ _ _ _ _ _ _ _ _ _ _ _ _ _ _ _ _ _ _ _ _ _ _ _ _ _ _ _ _ _ _ _ _ _ _ _ _ _ _ _ _ _ (H0+1) (H0+1) (2*l2.length) ib d ce cg a ae b be p q _ _ y W9 c0 c1 g m n o ep da bx (by omega) (by omega) (by omega) (fun e=>by have:=(b2 d e).2;omega));clear c0 c1 g m n o;rintro e act W10 h;cases e with
        |normal=>
         obtain ⟨_,_,_,_,_,_,_,_,yy,rfl,d2,cw⟩:=h;have d3:=DM eo cw (by omega) (by omega) (fun c hc=>by have:=(b2 c hc).1;omega);have db:=(cw.block H0 (by omega) (by omega) (fun e=>by have:=(b2 H0 e).1;omega)).trans cz;have cq:=Q3G (Q3G a9 hx (by rfl)) bx (row:=[D.int .i64 a,.int .i64 ae,.int .i64 b,.int .i64 be,.int .i64 p,.int .i64 q]) (by rfl)
         go_wp2
         refine ⟨⟨j+1,_,_,by omega,by rw [Int.natCast_add];rfl,d2,by simpa using c8,c3,cq,db,d3⟩,?_⟩;simp only [intOf];omega
        |_=>exact h.elim
       |_=>exact h.elim
      |_=>exact h.elim
     |_=>exact h.elim
    |_=>exact h.elim
   |_=>exact h.elim
  ·go_wp2
   refine bodyPost_ret (results_tmp rfl _ _ _) rfl ?_;rw [<- en] at hF;exact ⟨rfl,hF⟩

theorem Qbv {S:Nat->Prop} {w:World} {xs:List D}:∀ {vs:List Value},vs.length=xs.length->(∀ (i:Nat) (v:Value) (x:D),vs[i]? = some v->xs[i]? = some x->Rd S w v x)->RdLs S w vs xs:=by
 induction xs with
 |nil=>intro vs h _;have:vs=[]:=List.eq_nil_of_length_eq_zero h;subst this;exact .nil
 |cons x xs ih=>
  intro vs h hr
  match vs,h with
  |v::vs,h=>exact .cons (hr 0 v x rfl rfl) (ih (by simpa using h) fun i u y a h2=>hr (i+1) u y (by simpa using a) (by simpa using h2))
theorem Q0E {β:Nat->Option Nat} {S:Nat->Prop} {h:Nat->Option Ob} {w:World} {tm:Nat->Value} {v:Value} {xs:List D} (hv:RdA β S h w tm v (.ag (xs.map .d))):∃ vs:List Value,v = .agg vs.toArray/\RdLs S w vs xs:=by
 cases hv with
 |ag cs l hl hr=>
  obtain ⟨vs⟩:=cs;refine ⟨vs,rfl,Qbv (by simpa using hl) fun i u x a h2=>?_⟩;have:=hr i (.d x) (by simp [h2]);simp [Array.getD,(Qdw.1 a).1] at this;rw [(Qdw.1 a).2] at this;cases this with
  |d _ _ q=>exact q
  |dang _ _ _ hl=>cases hl
 |dang v av l hl=>cases hl
theorem Q5y {β:Nat->Option Nat} {S:Nat->Prop} {h:Nat->Option Ob} {w:World} {args:List Value} {a:AV} (hA:ArgsRd β S h w args [a]):∃ v,args=[v]/\RdA β S h w tm0 v a:=Q3c hA
theorem Q5B {β:Nat->Option Nat} {S:Nat->Prop} {h:Nat->Option Ob} {w:World} {args:List Value} {a b:AV} (hA:ArgsRd β S h w args [a,b]):∃ v u,args=[v,u]/\RdA β S h w tm0 v a/\RdA β S h w tm0 u b:=by
 obtain ⟨c,h2⟩:=hA
 match args,c with
 |[v,u],_=>exact ⟨v,u,rfl,h2 0 v a rfl rfl,h2 1 u b rfl rfl⟩
theorem Bl (n:Nat) (l0 l1 l2 a:LL) (res:Int) {hl:Nat->Option Ob} (h:YO n l0 l1 l2 a some=some res):Z9 Tryz.prog 94 [.ag [.d (D.sl 1 l0),.d (D.sl 1 l1),.d (D.sl 5 l2),.d (D.sl 6 a)]] hl ⟨.d (D.int .i64 res),[],[]⟩:=by
 obtain ⟨am,h⟩:=QW h;injection h with h
 subst h;refine SQ (fn:=Tryz.f94) (by kernel_rfl) (by kernel_rfl) (by kernel_rfl) rfl rfl fun S w args hS hA=>?_
 obtain ⟨v,rfl,hv⟩:=Q5y hA;obtain ⟨vs,rfl,hr⟩:=Q0E (xs:=[D.sl 1 l0,.sl 1 l1,.sl 5 l2,.sl 6 a]) hv;cases hr with
 |cons c t=>
  cases t with
  |cons d t=>
   cases t with
   |cons h2 t=>
    cases t with
    |cons f t=>
     cases t;have ak:=am;simp only [KN,QdG,Bool.not_eq_true'] at ak;obtain ⟨⟨⟨⟨⟨⟨⟨⟨m0,m1⟩,m2⟩,m3⟩,j⟩,k⟩,l⟩,ns⟩,nl⟩:=ak;refine (Tryz.layout_calls S w hS l0 l1 l2 a _ _ _ _ c d h2 f am fun w' an k0 k1 g i=>Tryz.links_calls S w' an l0 l1 l2 a _ _ _ _ k0 k1 g i (QdD m2) (QdD m3) nl).mono fun e w' ⟨he,hB⟩=>?_
     exact ⟨_,S,he,fun b h=>h,fun b h=>.inl h,fun b h=>QdF (hS b h) hB.size,.d _ _ (.int _ _),hB⟩

end Go.Vx
namespace Go.Proofs
open Go.RowKit
theorem Dq {P:Program} {w:World} (a:Addr) (m:Mode) (f:Fn) (x y:Array Value):(store a (.func f x y) m).run P w=stored P w a (.func f x y) m:=run_store P w a _ m rfl
attribute [local go_sem] Dq
def JA (r:Nat->Int):Nat->Nat->Int
 |0,_=>0
 |n+1,k=>if r k=0 then JA r n (k+1) else r k
theorem HB (r:Nat->Int):∀ (n k m:Nat),(∀ j,k<=j->j<k+m->r j=0)->JA r (m+n) k=JA r n (k+m)
 |n,k,0,_=>by simp
 |n,k,m+1,h=>by
  rw [show m+1+n=(m+n)+1 by omega];simp only [JA];rw [if_pos (h k (QdI _) (by omega)),HB r n (k+1) m (fun j a h2=>h j (by omega) (by omega))];rw [show k+1+m=k+(m+1) by omega]
theorem Below.of {n:Nat} {w w':World} (a:w'.os=w.os) (h2:w'.tape=w.tape) (c:w'.output=w.output) (d:w.heap.size<=w'.heap.size) (e:∀ b,b<n->w'.heap[b]? = w.heap[b]?):Below n w w':=by
 exact ⟨a,h2,c,d,e⟩
set_option maxHeartbeats 4000000 in
set_option maxRecDepth 100000 in
theorem Tryz.plancheck_calls (w:World) (a0 a1 a2 a3 p0 p1 f g l m n o:Value) (r:Nat->Int)
  (h:∀ k:Nat,k<8->∀ w':World,w.heap.size<=w'.heap.size->(∀ b,b<w.heap.size->w'.heap[b]? = w.heap[b]?) ->
   Calls Tryz.prog (51+k) #[.agg #[a0,a1,a2,a3],.agg #[p0,p1,f,g,l,m,n,o]] w' fun e ax=>e = .returned (.int .i64 (r k))/\Below w'.heap.size w' ax)
  (c:∀ x∈[a0,a1,a2,a3,p0,p1,f,g,l,m,n,o],x.oneCell'=true) :
  Calls Tryz.prog 25 #[.agg #[a0,a1,a2,a3],.agg #[p0,p1,f,g,l,m,n,o]] w fun e w'=>e = .returned (.int .i64 (JA r 8 0))/\Below w.heap.size w w':=by
 go_enter Tryz.func25,Tryz.ntmps25
 go_wp2
 go_loopw [11] (fun i wr=>∃ k:Nat,k<=8/\i = .int .i64 k/\(∀ j,j<k->r j=0)/\wr.heap[w.heap.size]? = some (.cells #[a0,a1,a2,a3] 27 (0,0))/\wr.heap[w.heap.size+1]? = some (.cells #[p0,p1,f,g,l,m,n,o] 36 (0,0))/\Below w.heap.size w wr)
  (fun i _=>8-(intOf i).toNat)
 case atStart=>
  refine ⟨0,by omega,rfl,fun j hj=>absurd hj (by omega),?_,?_,?_⟩
  ·rw [QdK _ _ _ (by simp;omega),QdK _ _ _ (by simp)];exact heap_alloc_new w _
  ·rw [QdK _ _ _ (by simp),show w.heap.size+1=(w.alloc (.cells #[a0,a1,a2,a3] 27)).heap.size by simp];exact heap_alloc_new _ _
  ·refine Below.of rfl rfl rfl (by simp;omega) fun b hb=>?_
   rw [QdK _ _ _ (by simp;omega),QdK _ _ _ (by simp;omega),QdK _ _ _ hb]
 case round=>
  obtain ⟨k,hk,rfl,hz,d,a,hB⟩:=hrel;by_cases aq:k<8
  ·have a6:((k:Int)<8):=by omega
   have c0:wr.cell? ⟨w.heap.size,0,none⟩=some a0:=by rw [Qdu d];rfl
   have c1:wr.cell? ⟨w.heap.size,1,none⟩=some a1:=by rw [Qdu d];rfl
   have p:wr.cell? ⟨w.heap.size,2,none⟩=some a2:=by rw [Qdu d];rfl
   have q:wr.cell? ⟨w.heap.size,3,none⟩=some a3:=by rw [Qdu d];rfl
   have d0:wr.cell? ⟨w.heap.size+1,0,none⟩=some p0:=by rw [Qdu a];rfl
   have d1:wr.cell? ⟨w.heap.size+1,1,none⟩=some p1:=by rw [Qdu a];rfl
   have s:wr.cell? ⟨w.heap.size+1,2,none⟩=some f:=by rw [Qdu a];rfl
   have t:wr.cell? ⟨w.heap.size+1,3,none⟩=some g:=by rw [Qdu a];rfl
   have u:wr.cell? ⟨w.heap.size+1,4,none⟩=some l:=by rw [Qdu a];rfl
   have v:wr.cell? ⟨w.heap.size+1,5,none⟩=some m:=by rw [Qdu a];rfl
   have y:wr.cell? ⟨w.heap.size+1,6,none⟩=some n:=by rw [Qdu a];rfl
   have z:wr.cell? ⟨w.heap.size+1,7,none⟩=some o:=by rw [Qdu a];rfl
   have hw:wrap64 ((k:Int)+1)=((k+1:Nat):Int):=by unfold wrap64;omega
   have ay:∀ w:World,(Instr.index 134 (.agg #[.func (.func 51) #[] #[],.func (.func 52) #[] #[],.func (.func 53) #[] #[],.func (.func 54) #[] #[],.func (.func 55) #[] #[],.func (.func 56) #[] #[],.func (.func 57) #[] #[],.func (.func 58) #[] #[]]) (.int .i64 k)).run Tryz.prog w = .ok (.func (.func (51+k)) #[] #[]) w:=by
    intro w;obtain rfl | rfl | rfl | rfl | rfl | rfl | rfl | rfl:k=0\/k=1\/k=2\/k=3\/k=4\/k=5\/k=6\/k=7:=by omega
    all_goals rfl
   have a8:∀ (w:World) (ar:Array Value),(callFunc (51+k) ar).run Tryz.prog w = .ok (.enter (51+k) ar) w:=by
    intro w ar;obtain rfl | rfl | rfl | rfl | rfl | rfl | rfl | rfl:k=0\/k=1\/k=2\/k=3\/k=4\/k=5\/k=6\/k=7:=by omega
    all_goals rfl
   have hc:=h k aq wr hB.size hB.block;clear hw
   go_wp2
   refine hc.mono ?_;rintro e w2 ⟨rfl,ak⟩;have ao:Below w.heap.size w w2:=hB.trans ⟨ak.os,ak.tape,ak.output,ak.size,fun b hb=>ak.block b (QdF hb hB.size)⟩;have l0:=(QdN.1 d).1;have l1:=(QdN.1 a).1;by_cases hr:r k=0
   ·rw [hr]
    go_wp2
    go_roundw
    case rel=>
     refine ⟨k+1,by omega,rfl,fun j hj=>?_,(ak.block _ l0).trans d,(ak.block _ l1).trans a,ao⟩;by_cases e:j=k
     ·rw [e];exact hr
     ·exact hz j (by omega)
    case measure=>simp [intOf];omega
   ·have am:JA r 8 0=r k:=by
     have e:=HB r (8-k) 0 k fun j _ h2=>hz j (by omega)
     rw [show k+(8-k)=8 by omega] at e;rw [e,show 8-k=(7-k)+1 by omega,QdQ];simp [JA,hr]
    go_wp2
    refine bodyPost_ret (results_tmp rfl _ _ _) rfl ?_;exact ⟨by rw [am];rfl,ao⟩
  ·have am:JA r 8 0=0:=by
    have e:=HB r 0 0 8 fun j _ h2=>hz j (by omega)
    exact e
   go_wp2
   refine bodyPost_ret (results_tmp rfl _ _ _) rfl ?_;exact ⟨by rw [am];rfl,hB⟩
end Go.Proofs
namespace Go.Vx
open Go.Proofs
def UQ (n:Nat):GC:=fun _ _ g ak _ k=>match ak with
 | [c0]=>
  prG c0 fun l0=>(match l0 with
  | [a,b,c,d]=>prS g 1 a fun e=>prS g 1 b fun f=>prS g 5 c fun h=>prS g 6 d fun i=>
  gb g (YO n e f h i some) 0 fun r=>k ⟨.d (D.int .i64 r),[],[]⟩
  | _=>none)
 | _=>none
theorem GP (n:Nat):Ul Tryz.prog 94 (UQ n):=by
  intro R am g an hl k r h
  unfold UQ at h
  split at h
  rotate_left
  · cases h
  replace h:=B5 h
  obtain ⟨l0,h,e⟩:=h
  subst e
  split at h
  rotate_left
  · cases h
  replace h:=W0 h
  obtain ⟨a,h,f⟩:=h
  replace h:=W0 h
  obtain ⟨b,h,i⟩:=h
  replace h:=W0 h
  obtain ⟨c,h,j⟩:=h
  replace h:=W0 h
  obtain ⟨d,h,l⟩:=h
  replace h:=Qu h
  obtain ⟨res,h,hr⟩:=h
  exact ⟨_,h,fun hg=>Z9.conv (avs':=[.ag [.d (D.sl 1 a),.d (D.sl 1 b),.d (D.sl 5 c),.d (D.sl 6 d)]]) (.cons (.ag (.cons (f hg) (.cons (i hg) (.cons (j hg) (.cons (l hg) .nil))))) .nil) (Bl n a b c d res (hr hg))⟩
end Go.Vx
set_option maxRecDepth 100000
namespace Go.Vx
open Go.Proofs
noncomputable def M2 (n:Nat):VC:=⟨Gb [(94,UQ n)],gtt,[cO 0 [2,3] [2,3],cO 1 [3,7] [3],cK 2 [4],cO 3 [3,11] [3],cO 4 [3,11] [3],cO 5 [3,11] [3],cO 6 [3,11] [3],cO 7 [3,11] [3],cO 8 [3,11] [3],cO 9 [3,11] [3],cK 10 [4],cO 11 [3,41,42,43] [3],cO 12 (3::rg1 41 4 []) [3],cO 13 [3,6,41,42,43] [3,6],cO 14 [3,41,42,43,50] [3],cK 15 [4],cO 16 [3,41,42,43] [3],cK 17 [59],cK 18 [4],cK 19 [4]]⟩
theorem KC (n:Nat):VCOk Tryz.prog (M2 n):=gVC (U8 ⟨GP n,trivial⟩)
noncomputable def RO (n:Nat) (m:Nat):LpE Tryz.prog:=mkL (KC n) nT 12 (cA [1,1,0,1,2,2] (Q6 Tryz.f51)) ⟨60,[(3,.ptr 3 0),(41,.l 4),(42,tI),(43,tI)],[(3,.box [tI,.l 5,.l 2,.l 4,.l 7,.l 4,.l 5,.l 3])]⟩ [yL,yI,yI,yI,yL,yL,yL,yL,yL,yL,yL] (fun m R k b c a d e f g h i j l=>YV n b c (k .ret ⟨60,[(4,dI (7:Int))],[]⟩) (fun a o=>k (.exit 1) ⟨60,[(3,.ptr 3 0),(41,dL 4 b),(42,dI c),(43,dI a),(44,dB o)],[(3,.box [dI d,dL 5 e,dL 2 f,dL 4 g,dL 7 h,dL 4 i,dL 5 j,dL 3 l])]⟩) m a) m
noncomputable def H3 (n:Nat):EnP Tryz.prog 51:=mkE (KC n) [RO n n] 51 Tryz.f51 [[0]] [eA [qL 1,qL 1,qL 5,qL 6],eA [qI,qL 5,qL 2,qL 4,qL 7,qL 4,qL 5,qL 3]] [sI] (pK (Wt n))
noncomputable def VG (n:Nat):VB:=Xa [] [cO 0 [1,2] [2,1000000],cO 1 [3] [1000000]]
noncomputable def J1 (n:Nat):EnP Tryz.prog 97:=mkG (VG n).ok nT 97 Tryz.f97 [eA [qT,qI,qI,qI,qI],eP 1000000 5,sT,sI,sI,sI,sI] [sB,eI 1000000 5,sT,sI,sI,sI,sI] [] (pK (WM n))

noncomputable def Xg (n:Nat):VB:=Xa [⟨97,J1 n⟩] [cO 0 [0,1] [1000000],cO 1 [0,1,7,8] [1000000],cO 2 [0,1,7,8,9] [1000000],cO 3 [0,1,5,7,8] [1000000],cO 4 [0,1,5,7,8,16] [1000000],cO 5 [4] [1000000],cO 6 [0,1,7,8] [1000000],cO 7 [4] [1000000]]
noncomputable def Yl (n:Nat) (m:Nat):LpE Tryz.prog:=mkL (Xg n).ok nT 2 (cA [1,0,1,2,2] (Q6 Tryz.f134)) ⟨19,[(0,.l 5),(1,.fn 97 [.ptr 1000000 0]),(7,tI),(8,tI)],[(1000000,.box [.t,tI,tI,tI,tI])]⟩ [yL,yI,yI,yT,yI,yI,yI,yI] (fun m R k g h2 a b c d e f=>QG n g h2 (fun a h i j l o=>k .ret ⟨19,[(4,dI a)],[(1000000,.box [dT h,dI i,dI j,dI l,dI o])]⟩) (fun a p b c d e f=>k (.exit 0) ⟨19,[(0,dL 5 g),(1,.fn 97 [.ptr 1000000 0]),(7,dI h2),(8,dI a),(9,dB p)],[(1000000,.box [dT b,dI c,dI d,dI e,dI f])]⟩) m a b c d e f) m
noncomputable def Yo (n:Nat):EnP Tryz.prog 134:=mkG (Xg n).ok [Yl n n] 134 Tryz.f134 [sL 5,eF 97 1,eP 1000000 5,sT,sI,sI,sI,sI] [sI,eI 1000000 5,sT,sI,sI,sI,sI] [] (pK (Xr n))

noncomputable def Y8 (n:Nat):VB:=Xa [⟨134,Yo n⟩] [cO 0 [0,1] [1000000],cO 1 [4] [1000000]]
noncomputable def Yf (n:Nat):EnP Tryz.prog 96:=mkG (Y8 n).ok nT 96 Tryz.f96 [sL 5,eF 97 1,eP 1000000 5,sT,sI,sI,sI,sI] [sB,eI 1000000 5,sT,sI,sI,sI,sI] [] (pK (Xf n))

noncomputable def NX (n:Nat):VB:=Xa [] [cO 0 [1] [1],cK 1 [2]]
noncomputable def JY (n:Nat):EnP Tryz.prog 98:=mkE (NX n).ok nT 98 Tryz.f98 [[0]] [eA [qT,qI,qI,qI,qI]] [sB] (pK (Wg n))

noncomputable def GT (n:Nat):VB:=Xa [⟨95,Ko n⟩,⟨96,Yf n⟩,⟨98,JY n⟩] [cO 0 [3] [3],cO 1 [3,8,9,10] [3],cO 2 [3,8,9,10,11] [3],cO 3 [3,5,6,8,9,10] [3,6],cO 4 [3,5,6,8,9,10,15] [3,6],cK 5 [4],cO 6 [3,6,8,9,10,20] [3,6],cK 7 [4],cO 8 [3,8,9,10,27] [3],cK 9 [4],cO 10 [3,8,9,10] [3],cK 11 [4]]
noncomputable def SL (n:Nat) (m:Nat):LpE Tryz.prog:=mkL (GT n).ok nT 2 (cA [1,0,1,2,2] (Q6 Tryz.f52)) ⟨32,[(3,.ptr 3 0),(8,.l 5),(9,tI),(10,tI)],[(3,.box [tI,.l 5,.l 2,.l 4,.l 7,.l 4,.l 5,.l 3])]⟩ [yL,yI,yI,yI,yL,yL,yL,yL,yL,yL,yL] (fun m R k b h2 a d c e f g h i j=>V0 n b h2 c (fun l=>k .ret ⟨32,[(4,dI l)],[]⟩) (fun a o=>k (.exit 0) ⟨32,[(3,.ptr 3 0),(8,dL 5 b),(9,dI h2),(10,dI a),(11,dB o)],[(3,.box [dI d,dL 5 c,dL 2 e,dL 4 f,dL 7 g,dL 4 h,dL 5 i,dL 3 j])]⟩) m a) m
noncomputable def Kr (n:Nat):EnP Tryz.prog 52:=mkE (GT n).ok [SL n n] 52 Tryz.f52 [[0]] [eA [qL 1,qL 1,qL 5,qL 6],eA [qI,qL 5,qL 2,qL 4,qL 7,qL 4,qL 5,qL 3]] [sI] (pK (ZP n))

noncomputable def FM (n:Nat):VB:=Xa [] [cO 0 [2,3] [2,3],cK 1 [4]]
noncomputable def SD (n:Nat):EnP Tryz.prog 162:=mkE (FM n).ok nT 162 Tryz.f162 [[0]] [eA [qL 1,qL 1,qL 5,qL 6],eA [qI,qI]] [sB] (pK (TV n))

noncomputable def LJ (n:Nat):VB:=Xa [] [cO 0 [1,2] [1,2],cO 1 [1,2,5] [1,2],cO 2 [2] [2],cO 3 [2] [2]]
noncomputable def Ez (n:Nat):EnP Tryz.prog 181:=mkE (LJ n).ok nT 181 Tryz.f181 [[0,0]] [eA [qI,qI]] [eA [qI,qI]] (pK (T4 n))

noncomputable def MF (n:Nat):VB:=Xa [] [cO 0 [1,2] [1,2],cO 1 [1,2,5] [1,2],cO 2 [2] [2],cO 3 [2] [2]]
noncomputable def LP (n:Nat):EnP Tryz.prog 182:=mkE (MF n).ok nT 182 Tryz.f182 [[0,0]] [eA [qI,qI]] [eA [qI,qI]] (pK (SC n))

noncomputable def K3 (n:Nat):VB:=Xa [⟨181,Ez n⟩,⟨182,LP n⟩] [cO 0 [3,4,5] [3,4,5],cO 1 [3,8,9] [3,8,9],cO 2 [8,9,20,21,22] [8,9],cO 3 [8,9,20,21,22,23] [8,9],cO 4 [8,9,11,20,21,22] [8,9,11],cO 5 [8,9,11,12,13,20,21,22] [8,9,11,12,13],cO 6 [8,9,11,20,21,22,53] [8,9,11],cK 7 [6,7],cO 8 [8,9,20,21,22] [8,9],cK 9 [6,7]]
noncomputable def R2 (n:Nat) (m:Nat):LpE Tryz.prog:=mkL (K3 n).ok nT 3 (cA [1,1,0,1,2,2] (Q6 Tryz.f163)) ⟨57,[(8,.ptr 8 0),(9,.ptr 9 0),(20,.l 6),(21,tI),(22,tI)],[(8,.box [tI,tI]),(9,.box [tI,tI])]⟩ [yL,yI,yI,yI,yI,yI,yI] (fun m R k b c a d e f g=>V8 n b c d e f g (fun h=>k .ret ⟨57,[(6,dI h),(7,dB true)],[]⟩) (fun a i=>k (.exit 0) ⟨57,[(8,.ptr 8 0),(9,.ptr 9 0),(20,dL 6 b),(21,dI c),(22,dI a),(23,dB i)],[(8,.box [dI d,dI e]),(9,.box [dI f,dI g])]⟩) m a) m
noncomputable def KA (n:Nat):EnP Tryz.prog 163:=mkE (K3 n).ok [R2 n n] 163 Tryz.f163 [[0],[0]] [eA [qL 1,qL 1,qL 5,qL 6],eA [qI,qI],eA [qI,qI]] [eT 2,sI,sB] (pK (UX n))

noncomputable def Dw (n:Nat):VC:=⟨Gb [(94,UQ n),(162,(SD n).E),(163,(KA n).E)],gtt,[cO 0 [2,3] [2,3],cO 1 [2,3,16] [2,3],cK 2 [4,5],cO 3 [2,3,20] [2,3],cO 4 [2,3,20] [2,3],cK 5 [4,5],cO 6 [2,3,28] [2,3],cO 7 [2,3,28] [2,3],cK 8 [4,5],cO 9 [2,3,40,41,42] [2,3],cO 10 [2,3,40,41,42,43] [2,3],cO 11 [2,3,7,40,41,42] [2,3,7],cO 12 [2,3,40,41,42,49] [2,3],cK 13 [4,5],cO 14 [2,3,40,41,42] [2,3],cO 15 [2,3,8] [2,3,54],cO 16 [2,3,8,56,57,58] [2,3,54],cO 17 [2,3,8,56,57,58,59] [2,3,54],cO 18 [2,3,8,10,56,57,58] [2,3,10,54],cO 19 [2,3,8,10,56,57,58,66] [2,3,10,54],cK 20 [4,5],cO 21 [2,3,8,56,57,58] [2,3,54],cO 22 [2,3,8,56,57,58] [2,3,54],cO 23 [2,3,11] [2,3],(24,⟨[2,3,11,74,75,76],[(2,2),(3,3)],[(11,1011,3,1)],[],[]⟩),cO 25 [2,3,11,74,75,76,77] [2,3,1011],cO 26 [2,3,11,12,13,74,75,76] [2,3,13,1011],cO 27 [2,3,11,14,15,74,75,76] [2,3,1011],cO 28 [2,3,11,14,74,75,76,93] [2,3,1011],cK 29 [4,5],cO 30 [2,3,11,74,75,76] [2,3,97],cO 31 [2,3,11,74,75,76] [2,3,97],cO 32 [4,5] [1011],(3000000025,⟨[2,3,11,74,75,76],(zp [2,3,97,1011] [2,3,1011,1011]),[],[],[]⟩)]⟩
theorem VN (n:Nat):VCOk Tryz.prog (Dw n):=gVC (U8 ⟨GP n,⟨(SD n).ok,⟨(KA n).ok,trivial⟩⟩⟩)
noncomputable def FX (n:Nat) (m:Nat):LpE Tryz.prog:=mkL (VN n) nT 10 (cA [1,1,0,1,2,2] (Q6 Tryz.f135)) ⟨100,[(2,.ptr 2 0),(3,.ptr 3 0),(40,.l 2),(41,tI),(42,tI)],[(2,.box [.l 1,.l 1,.l 5,.l 6]),(3,.box [.l 2,tI])]⟩ [yL,yI,yI,yL,yL,yL,yL,yL,yI] (fun m R k b c a d e f g h i=>ZD n b c d e f g (k .ret ⟨100,[(4,.nil),(5,dI (4:Int))],[]⟩) (fun a j=>k (.exit 1) ⟨100,[(2,.ptr 2 0),(3,.ptr 3 0),(40,dL 2 b),(41,dI c),(42,dI a),(43,dB j)],[(2,.box [dL 1 d,dL 1 e,dL 5 f,dL 6 g]),(3,.box [dL 2 h,dI i])]⟩) m a) m
noncomputable def Ey (n:Nat) (m:Nat):LpE Tryz.prog:=mkL (VN n) nT 17 (cA [1,1,1,1,0,1,2,2] (Q6 Tryz.f135)) ⟨100,[(2,.ptr 2 0),(3,.ptr 3 0),(8,.arr 54),(56,.l 2),(57,tI),(58,tI)],[(2,.box [.l 1,.l 1,.l 5,.l 6]),(3,.box [.l 2,tI]),(54,.arr 4 1)]⟩ [yL,yI,yI,yL,yL,yL,yL,yL,yI,yL] (fun m R k c d a e f g h i j b=>Vr n c d (k .ret ⟨100,[(4,.nil),(5,dI (5:Int))],[]⟩) (fun a l b=>k (.exit 3) ⟨100,[(2,.ptr 2 0),(3,.ptr 3 0),(8,.arr 54),(56,dL 2 c),(57,dI d),(58,dI a),(59,dB l)],[(2,.box [dL 1 e,dL 1 f,dL 5 g,dL 6 h]),(3,.box [dL 2 i,dI j]),(54,.arr 4 1 b)]⟩) m a b) m
noncomputable def E1 (n:Nat) (m:Nat):LpE Tryz.prog:=mkL (VN n) nT 25 (cA [1,1,1,1,1,1,0,1,2,2] (Q6 Tryz.f135)) ⟨100,[(2,.ptr 2 0),(3,.ptr 3 0),(11,.arr 1011),(74,.l 2),(75,tI),(76,tI)],[(2,.box [.l 1,.l 1,.l 5,.l 6]),(3,.box [.l 2,tI]),(1011,.arr 3 1)]⟩ [yL,yI,yI,yL,yL,yL,yL,yL,yI,yL] (fun m R k c d a e f g h i j b=>Zx n c d e f g h i (k .ret ⟨100,[(4,.nil),(5,dI (11:Int))],[]⟩) (fun a l b=>k (.exit 5) ⟨100,[(2,.ptr 2 0),(3,.ptr 3 0),(11,.arr 1011),(74,dL 2 c),(75,dI d),(76,dI a),(77,dB l)],[(2,.box [dL 1 e,dL 1 f,dL 5 g,dL 6 h]),(3,.box [dL 2 i,dI j]),(1011,.arr 3 1 b)]⟩) m a b) m
noncomputable def Dk (n:Nat):EnP Tryz.prog 135:=mkE (VN n) [FX n n,Ey n n,E1 n n] 135 Tryz.f135 [[1],[0]] [eA [qL 1,qL 1,qL 5,qL 6],eA [qL 2,qI]] [eT 2,sL 1,sI] (pK (JR n))

noncomputable def Da (n:Nat):VB:=Xa [⟨135,Dk n⟩] [cO 0 [2,3] [2,3],cK 1 [6],cK 2 [4]]
noncomputable def HH (n:Nat):EnP Tryz.prog 99:=mkE (Da n).ok nT 99 Tryz.f99 [[0]] [eA [qL 1,qL 1,qL 5,qL 6],eA [qL 2,qI]] [sI] (pK (K2 n))

noncomputable def GZ (n:Nat):VB:=Xa [⟨99,HH n⟩] [cO 0 [2,3] [2,3],cO 1 [2,9,10,11] [2],cO 2 (2::rg1 9 4 []) [2],cO 3 [2,6,9,10,11] [2,6],cO 4 [2,7,9,10,11] [2],cO 5 [2,7,9,10,11,19] [2],cK 6 [4],cO 7 [2,9,10,11] [2],cK 8 [4]]
noncomputable def Rh (n:Nat) (m:Nat):LpE Tryz.prog:=mkL (GZ n).ok nT 2 (cA [1,0,1,2,2] (Q6 Tryz.f53)) ⟨22,[(2,.ptr 2 0),(9,.l 2),(10,tI),(11,tI)],[(2,.box [.l 1,.l 1,.l 5,.l 6])]⟩ [yL,yI,yI,yL,yL,yL,yL] (fun m R k b h2 a c d e f=>Yp n b h2 c d e f (fun g=>k .ret ⟨22,[(4,dI g)],[]⟩) (fun a h=>k (.exit 0) ⟨22,[(2,.ptr 2 0),(9,dL 2 b),(10,dI h2),(11,dI a),(12,dB h)],[(2,.box [dL 1 c,dL 1 d,dL 5 e,dL 6 f])]⟩) m a) m
noncomputable def Kw (n:Nat):EnP Tryz.prog 53:=mkE (GZ n).ok [Rh n n] 53 Tryz.f53 [[0]] [eA [qL 1,qL 1,qL 5,qL 6],eA [qI,qL 5,qL 2,qL 4,qL 7,qL 4,qL 5,qL 3]] [sI] (pK (ZN n))

noncomputable def VZ (n:Nat):VB:=Xa [] [cO 0 [1,2] [2,1000000],cO 1 [3] [1000000]]
noncomputable def Jh (n:Nat):EnP Tryz.prog 101:=mkG (VZ n).ok nT 101 Tryz.f101 [eA [qT,qI,qI,qL 4],eP 1000000 4,sT,sI,sI,sL 4] [sB,eI 1000000 4,sT,sI,sI,sL 4] [] (pK (Z3 n))

noncomputable def Xo (n:Nat):VB:=Xa [⟨101,Jh n⟩] [cO 0 [0,1] [1000000],cO 1 [0,1,7,8] [1000000],cO 2 [0,1,7,8,9] [1000000],cO 3 [0,1,5,7,8] [1000000],cO 4 [0,1,5,7,8,16] [1000000],cO 5 [4] [1000000],cO 6 [0,1,7,8] [1000000],cO 7 [4] [1000000]]
noncomputable def YA (n:Nat) (m:Nat):LpE Tryz.prog:=mkL (Xo n).ok nT 2 (cA [1,0,1,2,2] (Q6 Tryz.f136)) ⟨19,[(0,.l 4),(1,.fn 101 [.ptr 1000000 0]),(7,tI),(8,tI)],[(1000000,.box [.t,tI,tI,.l 4])]⟩ [yL,yI,yI,yT,yI,yI,yL] (fun m R k f h2 a b c d e=>Q9 n f h2 (fun a g h i j=>k .ret ⟨19,[(4,dI a)],[(1000000,.box [dT g,dI h,dI i,dL 4 j])]⟩) (fun a l b c d e=>k (.exit 0) ⟨19,[(0,dL 4 f),(1,.fn 101 [.ptr 1000000 0]),(7,dI h2),(8,dI a),(9,dB l)],[(1000000,.box [dT b,dI c,dI d,dL 4 e])]⟩) m a b c d e) m
noncomputable def YG (n:Nat):EnP Tryz.prog 136:=mkG (Xo n).ok [YA n n] 136 Tryz.f136 [sL 4,eF 101 1,eP 1000000 4,sT,sI,sI,sL 4] [sI,eI 1000000 4,sT,sI,sI,sL 4] [] (pK (QN n))

noncomputable def Yi (n:Nat):VB:=Xa [⟨136,YG n⟩] [cO 0 [0,1] [1000000],cO 1 [4] [1000000]]
noncomputable def Yk (n:Nat):EnP Tryz.prog 100:=mkG (Yi n).ok nT 100 Tryz.f100 [sL 4,eF 101 1,eP 1000000 4,sT,sI,sI,sL 4] [sB,eI 1000000 4,sT,sI,sI,sL 4] [] (pK (Ql n))

noncomputable def Dx (n:Nat):VB:=Xa [] [cK 0 [0],cK 1 [2]]
noncomputable def Nq (n:Nat):EnP Tryz.prog 102:=mkE (Dx n).ok nT 102 Tryz.f102 [[0]] [sI] [sB] (pK (GO n))

noncomputable def EY (n:Nat):VB:=Xa [] [cO 0 [1,2,3] [3],cK 1 [6]]
noncomputable def Te (n:Nat):EnP Tryz.prog 105:=mkE (EY n).ok nT 105 Tryz.f105 [[0]] [eA [qI,qL 5,qL 2,qL 4,qL 7,qL 4,qL 5,qL 3],sI,sI] [sB] (pK (Ji n))

end Go.Vx
namespace Go.Vx
variable {R:Type}
def Ph (n:Nat) (a0 a1:Int) (K:Int->Int->oP R):oP R:= gb true (Eb 32) () fun a=>K (IntKind.wrap .u32 (shR .u64 (IntKind.wrap .u64 ((IntKind.wrap .u64 a0)*(IntKind.wrap .u64 a1))) 32)) (IntKind.wrap .u32 (IntKind.wrap .u64 ((IntKind.wrap .u64 a0)*(IntKind.wrap .u64 a1))))
def GS (n:Nat) (a0 a1:Int) (K:Int->Int->oP R):oP R:= gb true (Eb 32) () fun a=>gb true (Eb 32) () fun b=>gb true (Eb 32) () fun c=>gb true (Eb 32) () fun d=>gb true (Eb 32) () fun e=>K (IntKind.wrap .u64 ((IntKind.wrap .u64 ((IntKind.wrap .u64 ((shR .u64 a0 32)*(shR .u64 a1 32)))+(shR .u64 (IntKind.wrap .u64 ((IntKind.wrap .u64 ((shR .u64 a0 32)*(Q2n .u64 a1 4294967295)))+(shR .u64 (IntKind.wrap .u64 ((Q2n .u64 a0 4294967295)*(Q2n .u64 a1 4294967295))) 32))) 32)))+(shR .u64 (IntKind.wrap .u64 ((Q2n .u64 (IntKind.wrap .u64 ((IntKind.wrap .u64 ((shR .u64 a0 32)*(Q2n .u64 a1 4294967295)))+(shR .u64 (IntKind.wrap .u64 ((Q2n .u64 a0 4294967295)*(Q2n .u64 a1 4294967295))) 32))) 4294967295)+(IntKind.wrap .u64 ((Q2n .u64 a0 4294967295)*(shR .u64 a1 32))))) 32))) (IntKind.wrap .u64 (a0*a1))

def GD (n:Nat) (a0 a1:Int) (K:Int->Int->oP R):oP R:= bif false then gb true (Ph n (IntKind.wrap .u32 a0) (IntKind.wrap .u32 a1) Tu2) (0,0) fun a=>K (IntKind.wrap .u64 a.1) (IntKind.wrap .u64 a.2) else gb true (GS n a0 a1 Tu2) (0,0) fun c=>K c.1 c.2

end Go.Vx
set_option maxRecDepth 100000
namespace Go.Vx
open Go.Proofs
noncomputable def RV (n:Nat):VB:=Xa [] [cK 0 [0,1],cK 1 [6],cK 2 [4,5]]
noncomputable def Mv (n:Nat):EnP Tryz.prog 198:=mkE (RV n).ok nT 198 Tryz.f198 [[0],[0]] [eD (.i .u32),eD (.i .u32)] [eT 2,eD (.i .u32),eD (.i .u32)] (pK (Ph n))
noncomputable def Nd (n:Nat):VB:=Xa [] [cK 0 [0,1],cK 1 [0,1,6],cK 2 [0,1,6,7],cK 3 [0,1,6,7,8],cK 4 [0,1,6,7,8,9],cK 5 [0,1,6,7,8,9,10],cK 6 [0,1,6,7,9,11],cK 7 [0,1,6,7,9,11,12],cK 8 [0,1,6,7,9,12,13],cK 9 [0,1,7,9,12,13],cK 10 [0,1,4],cK 11 [4,5]]
noncomputable def M8 (n:Nat):EnP Tryz.prog 199:=mkE (Nd n).ok nT 199 Tryz.f199 [[0],[0]] [eD (.i .u64),eD (.i .u64)] [eT 2,eD (.i .u64),eD (.i .u64)] (pK (GS n))

noncomputable def Lu (n:Nat):VB:=Xa [⟨198,Mv n⟩,⟨199,M8 n⟩] [cK 0 [0,1],cK 1 [6,7],cK 2 [4,5],cK 3 [8,9],cK 4 [4,5]]
noncomputable def P1 (n:Nat):EnP Tryz.prog 191:=mkE (Lu n).ok nT 191 Tryz.f191 [[0],[0]] [eD (.i .u64),eD (.i .u64)] [eT 2,eD (.i .u64),eD (.i .u64)] (pK (GD n))

end Go.Vx
namespace Go.Vx
open Go.Proofs Go.RowKit
section
variable {P:Program}
theorem Cj (w:World) (dT sT ty ak:TypeId) (g o am aq k:Nat) (a:Addr) (ao au:Nat) (an:Array Value) (t:TypeId) (cs:List Value)
  (hu:P.underlying dT=some (.slice ak)) (hs:(P.info? ak).map (·.size)=some k)
  (hg:w.heap[g]? = some (.cells an t (0,0))) (hn:cs.length=Nat.min ao am*k)
  (aw:∀ j v,cs[j]? = some v->w.cell? (a.add j)=some v) (ar:o+cs.length<=an.size) (b:∀ v∈cs,v.oneCell'=true) :
  (Builtin.copy_ #[dT,sT] ty #[.slice (some ⟨g,o,none⟩) am aq,.slice (some a) ao au]).run P w =
   .ok (goInt (Nat.min ao am)) (w.setRow g (an.toList.take o++cs++an.toList.drop (o+cs.length)).toArray):=by
 have hl:=run_loadCells_list (P:=P) w a cs aw;have ax:=run_storeCells_at P g o t cs 0 an w hg (by simpa using ar) b;cases hq:P.info? ak with
 |none=>simp [hq] at hs
 |some i=>
  have hi:i.size=k:=by simpa [hq] using hs
  simp [Builtin.copy_,run_underlying hu,Builtin.lenOf,Builtin.firstCells,sizeOf,typeInfo,hq,hi,<- hn,hl,ax]
theorem Q05 (w:World) (dT sT ty ak:TypeId) (g o am aq k:Nat) (a:Addr) (an ar:Nat) (ao:Array Value) (t:TypeId) (cs:List Value) (m:Nat)
  (hu:P.underlying dT=some (.slice ak)) (hs:(P.info? ak).map (·.size)=some k)
  (hg:w.heap[g]? = some (.cells ao t (0,0))) (hm:Nat.min an am=m) (hn:cs.length=m*k)
  (aw:∀ j v,cs[j]? = some v->w.cell? (a.add j)=some v) (au:o+cs.length<=ao.size) (c:∀ v∈cs,v.oneCell'=true) :
  ∃ w',(Builtin.copy_ #[dT,sT] ty #[.slice (some ⟨g,o,none⟩) am aq,.slice (some a) an ar]).run P w = .ok (.int .i64 (m:Int)) w' /\
   w'.heap[g]? = some (.cells (splice ao.toList o cs).toArray t (0,0))/\(∀ n,n<=g->∀ w0:World,Below n w0 w->Below n w0 w'):=by
 subst hm;refine ⟨_,Cj w dT sT ty ak g o am aq k a an ar ao t cs hu hs hg hn aw au c,by simpa [splice] using setRow_heap w g _ _ t _ hg,fun n hn w0 h=>⟨h.os,h.tape,h.output,by simpa [World.setRow] using h.size,fun b hb=>(setRow_other w g b _ (by omega)).trans (h.block b hb)⟩⟩
theorem D0 {w:World} {au:Array Oper} {o:Oper} {a:Act} {K:Act->World->Prop} {Q:Exit->Act->World->Prop} {E:Prop} (a6:o.guard=none) (d s:Operand) (dT sT:TypeId)
  (ho:o.op = .call { callee:=.builtin .copy,args:=#[d,s],argTypes:=#[dT,sT] }) (ak:TypeId) (k:Nat) (hu:P.underlying dT=some (.slice ak)) (a7:(P.info? ak).map (·.size)=some k)
  (g off am aq:Nat) (ad:Addr) (an ar:Nat) (hd:a.eval d = .slice (some ⟨g,off,none⟩) am aq) (hs:a.eval s = .slice (some ad) an ar)
  (ao:Array Value) (t:TypeId) (hg:w.heap[g]? = some (.cells ao t (0,0))) (cs:List Value) (m:Nat) (hm:Nat.min an am=m) (hn:cs.length=m*k)
  (ay:∀ j v,cs[j]? = some v->w.cell? (ad.add j)=some v) (aw:off+cs.length<=ao.size) (b:∀ v∈cs,v.oneCell'=true)
  (h:∀ w',w'.heap[g]? = some (.cells (splice ao.toList off cs).toArray t (0,0))->(∀ n,n<=g->∀ w0:World,Below n w0 w->Below n w0 w')->K (a.put o.dst (.int .i64 (m:Int))) w') :
  if Region.wanted o (yielded au a.tmps)=true then Oper.wp P o a w K Q else E:=by
 have hw:Region.wanted o (yielded au a.tmps)=true:=by simp [Region.wanted,a6]
 rw [if_pos hw];obtain ⟨w',ax,h2,c⟩:=Q05 (P:=P) w dT sT o.type ak g off am aq k ad an ar ao t cs m hu a7 hg hm hn ay aw b;unfold Oper.wp;simp [execOp,ho,resolve,invoke,builtin,hd,hs,ax,Result.andThen];exact h w' h2 c
end
def Ss (a b:Value):Nat->List Value
 |0=>[]
 |m+1=>a::b::Ss a b m
theorem Ws (a b:Value):∀ m,(Ss a b m).length=m*2
 |0=>rfl
 |m+1=>by simp [Ss,Ws a b m];omega
theorem CB (a b:Value) (k:Nat):∀ m,Ss a b (m+k)=Ss a b m++Ss a b k
 |0=>by simp [Ss]
 |m+1=>by rw [show m+1+k=(m+k)+1 by omega];simp [Ss,CB a b k m]
theorem Q4s (a b:Value) {m k:Nat} (h:m<=k):(Ss a b k).take (m*2)=Ss a b m:=by
 obtain ⟨d,rfl⟩:=Nat.exists_eq_add_of_le h;rw [CB,List.take_append_of_le_length (by rw [Ws];omega),QdL (by rw [Ws];omega)]
theorem Cp {a b:Value}:∀ {m:Nat} {v:Value},v∈Ss a b m->v=a\/v=b
 |m+1,v,h=>by
  simp only [Ss,List.mem_cons] at h;rcases h with h | h | h
  ·exact .inl h
  ·exact .inr h
  ·exact Cp h
theorem Q4P (a b:Value):∀ (m i:Nat),i<m->(Ss a b m)[i*2]? = some a/\(Ss a b m)[i*2+1]? = some b
 |m+1,0,h=>by simp [Ss]
 |m+1,i+1,h=>by
  have:=Q4P a b m i (by omega);rw [show (i+1)*2=i*2+1+1 by omega];simpa [Ss] using this
theorem mul_one (c:Nat) (hc:c<=100000):GD 0 1 (c:Int) (fun a b=>some (a,b))=some (0,(c:Int)):=by
 have d:shR .u64 1 (32:Int)=0:=by decide
 have h2:shR .u64 (c:Int) (32:Int)=0:=by
  show (c:Int).fdiv (2 ^ (min (32:Int).toNat IntKind.u64.bits))=0;rw [show (min (32:Int).toNat IntKind.u64.bits)=32 from rfl,Int.fdiv_eq_ediv_of_nonneg _ (by decide)];omega
 have e:Q2n .u64 1 (4294967295:Int)=1:=by decide
 have f:Q2n .u64 (c:Int) (4294967295:Int)=(c:Int):=by
  unfold Q2n;rw [BitVec.toNat_and,IntKind.wrap_u64];have e1:(BitVec.ofInt IntKind.u64.bits (c:Int)).toNat=c:=by
   rw [BitVec.toNat_ofInt];show ((c:Int) % ((2 ^ 64:Nat):Int)).toNat=c;omega
  have e2:(BitVec.ofInt IntKind.u64.bits (4294967295:Int)).toNat=2 ^ 32-1:=by decide
  rw [e1,e2,Nat.and_two_pow_sub_one_eq_mod];omega
 have w0:IntKind.u64.wrap 0=0:=by decide
 have wc:IntKind.u64.wrap (c:Int)=(c:Int):=by rw [IntKind.wrap_u64];omega
 have s0:shR .u64 0 (32:Int)=0:=by decide
 have a0:Q2n .u64 0 (4294967295:Int)=0:=by decide
 simp only [GD,GS,QdC,Eb,d,h2,e,f,gb,Int.zero_mul,Int.one_mul,Int.mul_zero,Int.add_zero,w0,wc,s0,a0];rfl
theorem Q1h {β:Nat->Option Nat} {S:Nat->Prop} {h:Nat->Option Ob} {w:World} {tm:Nat->Value} {v:Value} {k:IntKind} {n:Int} (h:RdA β S h w tm v (.d (.int k n))):v = .int k n:=by
 cases h with
 |d _ _ q=>exact Ti q
 |dang _ _ _ hl=>cases hl
theorem Q47 (c:Nat) (hc:c<=100000) (w:World):Calls Tryz.prog 191 #[.int .u64 1,.int .u64 (c:Int)] w fun e w'=>e = .returned (.tuple #[.int .u64 0,.int .u64 c])/\RowKit.Below w.heap.size w w':=by
 have he:(P1 0).E Dl 0 true [.d (.int .u64 1),.d (.int .u64 (c:Int))] (fun _=>none) some=some ⟨.tup [.d (D.int .u64 0),.d (D.int .u64 (c:Int))],[],[]⟩:=by
  show gb true (GD 0 1 (c:Int) (fun f g=>some (f,g))) (0,0) (fun r=>(some ⟨.tup [.d (D.int .u64 r.1),.d (D.int .u64 r.2)],[],[]⟩:Option Dl))=_;rw [mul_one c hc];rfl
 refine (Fm (S:=fun _=>False) (XM ((P1 0).ok) he) (fun _ h=>h.elim) (G6 (.d _ _ (.int _ _)) (.d _ _ (.int _ _)))).mono fun e w' ⟨v,S',i,h2,j⟩=>⟨?_,j⟩
 rw [i];cases h2 with
 |tup cs l hl hr=>
  have d:=Q1h (hr 0 _ rfl);have q1:=Q1h (hr 1 _ rfl);obtain ⟨l⟩:=cs
  match l,hl with
  |[a,b],_=>
   simp at d q1;rw [d,q1]
 |dang v av l hl=>cases hl
noncomputable def Q80:Code:=(Vy (Tryz.f183.body.getD .skip)).getD 9 .skip
set_option maxHeartbeats 8000000 in
set_option maxRecDepth 100000 in
theorem Tryz.repeat_r9 (d f g i l o p q r s t u x y z aa ab ac ad ae ag ah ai aj ak al am an ao ap aq ar au av aw ax az ba bb bc bd be bg bh bi ay a b:Value) (H c m k:Nat) (cu:Array Value) (w:World) (bj:m<c) (ca:(m:Int)<(c:Int)) (hk:Nat.min m (c-m)=k) (a7:w.heap[H]? = some (.cells cu 227 (0,0))) (h0:(0:Int)<=(m:Int)) (co:(m:Int)<=(c:Int))
  (bv:∀ (j:Nat) (v:Value),(Ss a b k)[j]? = some v->w.drew.cell? ((⟨H,0,none⟩:Addr).add j)=some v) (bu:m*2+(Ss a b k).length<=cu.size) (a9:∀ v∈Ss a b k,v.oneCell'=true) (cq:IntKind.i64.wrap ((m:Int)+(k:Int))=((m+k:Nat):Int)) :
  Code.wp Tryz.prog Q80 (Q22 fun act w'=>∃ (bk bl bm bn bo bp bq br bt:Value),act=⟨(d::f::g::i::l::o::p::.slice (some ⟨H,0,none⟩) c c::.int .i64 ((m:Int)+(k:Int))::q::r::s::t::u::x::y::z::aa::ab::ac::ad::ae::ag::ah::ai::aj::ak::al::am::an::ao::ap::aq::ar::au::av::aw::ax::bk::bl::bm::bn::bo::bp::bq::br::bt::ay::[]).toArray,[]⟩/\w'.heap[H]? = some (.cells (splice cu.toList (m*2) (Ss a b k)).toArray 227 (0,0))/\(∀ n,n<=H->∀ w0:World,Below n w0 w->Below n w0 w')) ⟨(d::f::g::i::l::o::p::.slice (some ⟨H,0,none⟩) c c::.int .i64 (m:Int)::q::r::s::t::u::x::y::z::aa::ab::ac::ad::ae::ag::ah::ai::aj::ak::al::am::an::ao::ap::aq::ar::au::av::aw::ax::az::ba::bb::bc::bd::be::bg::bh::bi::ay::[]).toArray,[]⟩ w:=by
 conv=>arg 2;whnf
 have mixed:Tryz.prog.follows .mixedOrders=true:=by kernel_rfl
 have bx:(Tryz.prog.info? 227).map (·.size)=some 2:=by kernel_rfl
 have b1:c=m->0=m*2:=fun e=>absurd e (Nat.ne_of_gt bj)
 have a6:w.drew.heap[H]? = some (.cells cu 227 (0,0)):=a7
 go_region_law (first
  |(refine D0 (by rfl) _ _ 194 194 (by rfl) 227 2 Tryz.underlying194 bx H (m*2) (c-m) (c-m) ⟨H,0,none⟩ m c (by go_simp;exact b1) (by go_simp) cu 227 a6 (Ss a b k) k hk (Ws _ _ _) bv bu a9 ?_;intro w3 bz b0))
 all_goals
  dsimp only [Q22];exact ⟨_,_,_,_,_,_,_,_,_,rfl,bz,fun n hn w0 h=>b0 n hn w0 (h.trans ⟨rfl,rfl,rfl,QdI _,fun _ _=>rfl⟩)⟩
theorem Q2X {a b:Value} {m k:Nat} {L:List Value} (ak:L.take (m*2)=Ss a b m):(splice L (m*2) (Ss a b k)).take ((m+k)*2)=Ss a b (m+k):=by
 simp only [splice];rw [ak,List.take_append,QdL (by rw [Ws];omega),Ws,List.take_append_of_le_length (by rw [Ws];omega),QdL (by rw [Ws];omega),CB]
theorem Q8Q {m k c:Nat} (h:m+k<=c) (hk:0<k):c-(intOf (.int .i64 ((m:Int)+(k:Int)))).toNat<c-(intOf (.int .i64 (m:Int))).toNat:=by
 simp only [intOf];omega
set_option maxHeartbeats 4000000 in
set_option maxRecDepth 100000 in
theorem Tryz.repeat_calls (w:World) (ad:Addr) (cap c:Nat) (b d:Value) (hc:c<=100000) (n:w.cell? (ad.add 0)=some b) (q:w.cell? (ad.add 1)=some d) (y:b.oneCell'=true) (o1:d.oneCell'=true) :
  Calls Tryz.prog 183 #[.slice (some ad) 1 cap,.int .i64 (c:Int)] w fun e w'=>∃ (H:Nat) (ak:Array Value),e = .returned (.slice (some ⟨H,0,none⟩) c c)/\w.heap.size<=H/\w'.heap[H]? = some (.cells ak 227 (0,0))/\ak.size=c*2/\ak.toList=Ss b d c/\Below w.heap.size w w':=by
 obtain ⟨r,hi,s⟩:=QdM.1 (show (Tryz.prog.info? 227).map (fun i=>(i.zero.isSome,i.size,i.bytes))=some (true,2,16) by kernel_rfl);obtain ⟨hz,f⟩:=Prod.mk.inj s;obtain ⟨f,t⟩:=Prod.mk.inj f;obtain ⟨z,hz⟩:=Option.isSome_iff_exists.1 hz;have ay:∀ w:World,∃ ak:Array Value,ak.size=c*2/\(Instr.makeSlice 194 (.int .i64 (c:Int)) (.int .i64 (c:Int))).run Tryz.prog w = .ok (.slice (some ⟨w.heap.size,0,none⟩) c c) (w.alloc (.cells ak 227)):=by
  intro w;refine ⟨madeCells z.cells (c*2),size_madeCells _ _,?_⟩;have:=run_make (P:=Tryz.prog) w 194 227 r z Tryz.underlying194 hi hz .i64 .i64 (c:Int) (c:Int) (by omega) (by omega) (by rw [t];omega) (by omega);rw [f] at this;exact this
 have bd:(Tryz.prog.info? 227).map (·.size)=some 2:=by rw [hi];simp [f]
 have b3:IntKind.u64.wrap (c:Int)=(c:Int):=by rw [IntKind.wrap_u64];omega
 have b0:IntKind.i64.wrap (c:Int)=(c:Int):=by rw [IntKind.wrap_i64];omega
 have g0:(0:Int)<=(c:Int):=by omega
 have g1:¬ (9223372036854775807:Int)<(c:Int):=by omega
 go_enter Tryz.func183,Tryz.ntmps183
 go_wp2_with (go_at_call 191;refine (Q47 c hc _).mono ?_)
 rintro e w1 rfl hB;obtain ⟨ak,bl,bh⟩:=ay w1;clear ay;have au:=ZU hB (QdI _) (.cells ak 227);have a8:∀ a:Addr,a.block<w.heap.size->(w1.alloc (.cells ak 227)).cell? a=w.cell? a:=fun a ha=>FY (au.block _ ha)
 have b4:=fun (j:Nat)=>UP ad j
 have bj:ad.block<w.heap.size:=by have:=World.block_lt_of_cell? w _ n;rwa [UP] at this
 have hH:(w1.alloc (.cells ak 227)).heap[w1.heap.size]? = some (.cells ak 227 (0,0)):=heap_alloc_new w1 _;obtain ⟨m0,o⟩:∃ m0,Nat.min 1 c=m0:=⟨_,rfl⟩;have p:m0<=1/\m0<=c/\(0<c->0<m0):=by rw [<- o];simp only [Nat.min_def];split <;> omega
 obtain ⟨w2,a6,bn,bu⟩:=Q05 (P:=Tryz.prog) (w1.alloc (.cells ak 227)) 194 194 3 227 w1.heap.size 0 c c 2 ad 1 cap ak 227 (Ss b d m0) m0 Tryz.underlying194 bd hH o (Ws _ _ _)
  (fun j v hj=>by
   have g:=(Qdw.1 hj).1;rw [Ws] at g;rw [a8 _ (by rw [UP];exact bj)];have hm:m0=1:=by omega
   subst hm;obtain rfl | rfl:j=0\/j=1:=by omega
   ·simp [Ss] at hj;rw [<- hj];exact n
   ·simp [Ss] at hj;rw [<- hj];exact q)
  (by rw [Ws];omega) (fun v hv=>by rcases Cp hv with rfl | rfl <;> assumption)
 have bk:=bu w.heap.size hB.size w au;have aw:=hB.size;generalize bx:w1.heap.size=H at *
 go_wp2
 go_loopw [8] (fun i wr=>∃ (m:Nat) (cu:Array Value),i = .int .i64 (m:Int)/\m<=c/\(0<c->0<m)/\wr.heap[H]? = some (.cells cu 227 (0,0))/\cu.size=c*2/\cu.toList.take (m*2)=Ss b d m/\Below w.heap.size w wr)
  (fun i _=>c-(intOf i).toNat)
 case atStart=>
  refine ⟨m0,_,rfl,p.2.1,p.2.2,bn,?_,?_,bk⟩
  ·simp only [List.size_toArray];rw [length_splice _ _ _ (by rw [Ws];simp;omega)];simpa using bl
  ·simp only [splice,List.take_zero,List.nil_append];rw [List.take_append_of_le_length (by rw [Ws];exact QdI _),QdL (by rw [Ws];exact QdI _)]
 case round=>
  obtain ⟨m,cu,rfl,b2,br,am,aq,ar,hF⟩:=hrel;clear bh a6;by_cases u:m<c
  ·have a7:((m:Int)<(c:Int)):=by omega
   have hp:0<m:=br (by omega);obtain ⟨k,hk⟩:∃ k,Nat.min m (c-m)=k:=⟨_,rfl⟩;have l:k<=m/\m+k<=c/\0<k:=by rw [<- hk];simp only [Nat.min_def];split <;> omega
   have e1:(if c=m then (some ⟨H,0,none⟩:Option Addr) else (some (⟨H,0,none⟩:Addr)).map (·.add (m*2)))=some ⟨H,m*2,none⟩:=by
    rw [if_neg (by omega)];simp [JS]
   have a9:∀ (j:Nat) (v:Value),(Ss b d k)[j]? = some v->wr.drew.cell? ((⟨H,0,none⟩:Addr).add j)=some v:=by
    intro j v hj;have g:=(Qdw.1 hj).1;rw [Ws] at g;rw [JS,QdQ];show wr.cell? _=_;rw [cell_of_row wr H j cu 227 (0,0) am,<- Array.getElem?_toList];have e:(cu.toList.take (m*2))[j]? = some v:=by
     rw [ar];have e2:=Q4s b d l.1;rw [<- e2,List.getElem?_take,if_pos g] at hj;exact hj
    rw [List.getElem?_take] at e;split at e
    ·exact e
    ·cases e
   have ao:m*2+(Ss b d k).length<=cu.size:=by rw [Ws];omega
   have ax:∀ v∈Ss b d k,v.oneCell'=true:=fun v hv=>by rcases Cp hv with rfl | rfl <;> assumption
   have bc:wr.drew.heap[H]? = some (.cells cu 227 (0,0)):=am;have bp:IntKind.i64.wrap ((m:Int)+(k:Int))=((m+k:Nat):Int):=by rw [IntKind.wrap_i64];omega
   go_wp2
   refine Code.wp_mono ?_ (Tryz.repeat_r9 _ _ _ _ _ _ _ _ _ _ _ _ _ _ _ _ _ _ _ _ _ _ _ _ _ _ _ _ _ _ _ _ _ _ _ _ _ _ _ _ _ _ _ _ _ _ b d H c m k cu wr u a7 hk am (by omega) (by omega) a9 ao ax bp);rintro e act w3 h;cases e with
   |normal=>
    obtain ⟨_,_,_,_,_,_,_,_,_,rfl,bi,bo⟩:=h
    go_wp2
    refine ⟨⟨m+k,_,by rw [Int.natCast_add],l.2.1,fun _=>QdF hp (Nat.le_add_right m k),bi,?_,?_,bo _ aw w hF⟩,?_⟩
    ·simp only [List.size_toArray];rw [length_splice _ _ _ (by simpa using ao)];simpa using aq
    ·exact Q2X ar
    ·exact Q8Q l.2.1 l.2.2
   |_=>exact h.elim
  ·have x:m=c:=by omega
   subst x
   go_wp2
   refine bodyPost_ret (results_tmp rfl _ _ _) rfl ?_;refine ⟨H,cu,rfl,aw,am,aq,?_,hF⟩;rw [<- ar,QdL (by simpa using Nat.le_of_eq aq)]
theorem Q6L {S:Nat->Prop} {w:World} {v:Value} {x:D} (h:Rd S w v x):v.oneCell'=true:=by cases h <;> rfl
theorem Q5g {S:Nat->Prop} {w:World} {H c:Nat} {ak:Array Value} {a d:Value} {f g:D} (k:Rd S w a f) (l:Rd S w d g) (hH:w.heap[H]? = some (.cells ak 227 (0,0))) (am:ak.toList=Ss a d c) :
  Rd (fun b=>S b\/b=H) w (.slice (some ⟨H,0,none⟩) c c) (.sl 2 (List.replicate c [f,g])):=by
 have e:=Rd.sl (S:=fun b=>S b\/b=H) (w:=w) ⟨H,0,none⟩ c 2 (List.replicate c [f,g]) (fun i j=>if j=0 then a else d) (.inr rfl) (by simp) (fun i r hr=>?_) (fun i j r x hr hx=>?_) (fun i j r x hr hx=>?_)
 ·simpa using e
 ·obtain ⟨_,rfl⟩:=QdH.1 (Qdx hr);rfl
 ·have hi:i<c:=by have:=(Qdw.1 hr).1;simpa using this
  obtain ⟨_,rfl⟩:=QdH.1 (Qdx hr);have hj:=(Qdw.1 hx).1;simp at hj;rw [JS,QdQ,cell_of_row w H _ ak 227 (0,0) hH,<- Array.getElem?_toList,am];have:=Q4P a d c i hi;obtain rfl | rfl:j=0\/j=1:=by omega
  ·simpa using this.1
  ·simpa using this.2
 ·obtain ⟨_,rfl⟩:=QdH.1 (Qdx hr);have hj:=(Qdw.1 hx).1;simp at hj;obtain rfl | rfl:j=0\/j=1:=by omega
  ·simp at hx;subst hx;simpa using k.mono (fun _ h=>.inl h) (fun _ _=>rfl)
  ·simp at hx;subst hx;simpa using l.mono (fun _ h=>.inl h) (fun _ _=>rfl)
theorem B3 (n:Nat) (a0:LL) (a1:Int) (res:LL) {hl:Nat->Option Ob} (h:Qb n a0 a1 some=some res):Z9 Tryz.prog 183 [.d (D.sl 2 a0),.d (D.int .i64 a1)] hl ⟨.d (D.sl 2 res),[],[]⟩:=by
 unfold Qb at h;obtain ⟨hc,h⟩:=QW h;simp only [QdG,decide_eq_true_eq] at hc;obtain ⟨⟨e1,hp⟩,hq⟩:=hc;have e1:=Nat.eq_of_beq_eq_true e1;injection h with h
 obtain ⟨c,rfl⟩:=Int.eq_ofNat_of_zero_le hp
 match a0,e1 with
 |[row],_=>
  subst h;refine SQ (fn:=Tryz.f183) (by kernel_rfl) (by kernel_rfl) (by kernel_rfl) rfl rfl fun S w args hS hA=>?_
  obtain ⟨hl,hA⟩:=hA
  match args,hl with
  |[i,j],_=>
   have a:=hA 0 _ _ rfl rfl;have q1:=Q1h (hA 1 _ _ rfl rfl);subst q1;cases a with
   |dang _ _ _ hl=>cases hl
   |d _ _ a=>
    cases a with
    |sl ad cap _ _ cf a8 ay ar ak ao=>
     have an:=ar 0 row rfl
     match row,an with
     |[k,l],_=>
      have k0:=ak 0 0 _ _ rfl rfl;have k1:=ak 0 1 _ _ rfl rfl;have f:=ao 0 0 _ _ rfl rfl;have g:=ao 0 1 _ _ rfl rfl;refine (Tryz.repeat_calls w ad cap c (cf 0 0) (cf 0 1) (by omega) k0 k1 (Q6L f) (Q6L g)).mono fun e w' ⟨H,a9,he,hH,am,bc,au,hB⟩=>?_
      have a7:H<w'.heap.size:=(QdN.1 am).1;refine ⟨_,fun b=>S b\/b=H,he,fun b h=>.inl h,fun b h=>h.elim .inl fun e=>.inr (by omega),fun b h=>h.elim (fun h=>QdF (hS b h) hB.size) (fun e=>by omega),.d _ _ ?_,hB⟩;exact Q5g (Rd.mono (fun _ h=>h) (fun b hb=>hB.block b (hS b hb)) f) (Rd.mono (fun _ h=>h) (fun b hb=>hB.block b (hS b hb)) g) am au
end Go.Vx
namespace Go.Vx
open Go.Proofs
def X1 (n:Nat):GC:=fun _ _ g ak _ k=>match ak with
 | [c0,c1]=>prS g 2 c0 fun a0=>prI g .i64 c1 fun a1=>
  gb g (Qb n a0 a1 some) [] fun r=>k ⟨.d (D.sl 2 r),[],[]⟩
 | _=>none
theorem Zg (n:Nat):Ul Tryz.prog 183 (X1 n):=by
  intro R am g an hl k r h
  unfold X1 at h
  split at h
  rotate_left
  · cases h
  replace h:=W0 h
  obtain ⟨a0,h,a⟩:=h
  replace h:=VA h
  obtain ⟨a1,h,b⟩:=h
  replace h:=Qu h
  obtain ⟨res,h,hr⟩:=h
  exact ⟨_,h,fun hg=>Z9.conv (avs':=[.d (D.sl 2 a0),.d (D.int .i64 a1)]) (.cons (a hg) (.cons (b hg) .nil)) (B3 n a0 a1 res (hr hg))⟩
end Go.Vx
set_option maxRecDepth 100000
namespace Go.Vx
open Go.Proofs
noncomputable def Bf (n:Nat):VC:=⟨Gb [(99,(HH n).E),(183,X1 n)],gtt,[cO 0 [2,3] [2,3],cO 1 [2,3,7] [2,3],cO 2 [2,3,7,17] [2,3],cK 3 [4,5,6],cO 4 [2,3,8] [2,3],(5,⟨[2,3,8,27,28,29],[(2,2),(3,3)],[(8,1008,227,2)],[],[]⟩),cO 6 [2,3,8,27,28,29,30] [2,3,1008],cO 7 [2,3,8,10,27,28,29] [2,3,10,1008],cO 8 [2,3,8,10,11,27,28,29] [2,3,10,11,1008],cO 9 [2,3,8,10,11,12,27,28,29] [2,3,10,11,12,1008],cO 10 [2,3,8,11,12,27,28,29,46] [2,3,11,12,1008],cO 11 [2,3,8,11,12,27,28,29] [2,3,11,12,1008],cO 12 [2,3,8,27,28,29] [2,3,57],cO 13 [2,3,8,27,28,29] [2,3,57],cO 14 [2,3,8,61] [2,3,1008],cK 15 [4,5,6],cO 16 [4,5,6] [1008],(3000000006,⟨[2,3,8,27,28,29],(zp [2,3,57,1008] [2,3,1008,1008]),[],[],[]⟩)]⟩
theorem SH (n:Nat):VCOk Tryz.prog (Bf n):=gVC (U8 ⟨(HH n).ok,⟨Zg n,trivial⟩⟩)
noncomputable def EX (n:Nat) (m:Nat):LpE Tryz.prog:=mkL (SH n) nT 6 (cA [1,1,1,0,1,2,2] (Q6 Tryz.f164)) ⟨73,[(2,.ptr 2 0),(3,.ptr 3 0),(8,.arr 1008),(27,.l 2),(28,tI),(29,tI)],[(2,.box [.l 1,.l 1,.l 5,.l 6]),(3,.box [.l 2,tI]),(1008,.arr 227 2)]⟩ [yL,yI,yI,yL,yL,yL,yL,yL,yI,yL] (fun m R k c d a f g e h i j b=>Za n c d e (fun a l b=>k (.exit 0) ⟨73,[(2,.ptr 2 0),(3,.ptr 3 0),(8,.arr 1008),(27,dL 2 c),(28,dI d),(29,dI a),(30,dB l)],[(2,.box [dL 1 f,dL 1 g,dL 5 e,dL 6 h]),(3,.box [dL 2 i,dI j]),(1008,.arr 227 2 b)]⟩) m a b) m
noncomputable def Bq (n:Nat):EnP Tryz.prog 164:=mkE (SH n) [EX n n] 164 Tryz.f164 [[2],[0],[0]] [eA [qL 1,qL 1,qL 5,qL 6],eA [qL 2,qI]] [eT 3,sL 2,sI,sI] (pK (HG n))
noncomputable def Pw (n:Nat):VB:=Xa [] [cO 0 [1] [1],cK 1 [2]]
noncomputable def Gh (n:Nat):EnP Tryz.prog 165:=mkE (Pw n).ok nT 165 Tryz.f165 [[2]] [eA [qL 2,qI]] [sL 2] (pK (ZY n))

noncomputable def TY (n:Nat):VB:=Xa [⟨164,Bq n⟩,⟨98,JY n⟩,⟨165,Gh n⟩] [cO 0 [3,4,5,6] [3,4,5,6],cO 1 (rg1 3 4 [8,9,10]) [3,4,5,6],cO 2 (rg1 3 4 [8,9,10,21]) [3,4,5,6],cO 3 [6,7] [6],cO 4 (rg1 3 4 [8,9,26]) [3,4,5,6],cO 5 [6,7] [6],cO 6 [3,5,6,8,9,29,30,31] [3,5,6],cO 7 [3,5,6,8,9,29,30,31,32] [3,5,6],cO 8 [3,5,6,8,9,12,29,30,31] [3,5,6,12],cO 9 [3,5,6,8,9,29,30,31,45] [3,5,6],cO 10 [6,7] [6],cO 11 [3,5,6,8,9,29,30,31] [3,5,6],cO 12 [6,7] [6]]
noncomputable def FS (n:Nat) (m:Nat):LpE Tryz.prog:=mkL (TY n).ok nT 7 (cA [1,1,1,1,0,1,2,2] (Q6 Tryz.f138)) ⟨51,[(3,.ptr 3 0),(5,.ptr 5 0),(6,.ptr 6 0),(8,.l 2),(9,tI),(29,.l 2),(30,tI),(31,tI)],[(3,.box [.l 1,.l 1,.l 5,.l 6]),(5,.box [.t,tI,tI,tI,tI]),(6,.box [.nil,.ci .i64 0])]⟩ [yL,yI,yL,yI,yI,yL,yL,yL,yL,yT,yI,yI,yI,yI] (fun m R k f g b c a h i d j l e o p q=>Zz n b c d e (k .ret ⟨51,[(6,.ptr 6 0),(7,dI (12:Int))],[(6,.box [.nil,dI (0:Int)])]⟩) (fun a r=>k (.exit 0) ⟨51,[(3,.ptr 3 0),(5,.ptr 5 0),(6,.ptr 6 0),(8,dL 2 f),(9,dI g),(29,dL 2 b),(30,dI c),(31,dI a),(32,dB r)],[(3,.box [dL 1 h,dL 1 i,dL 5 d,dL 6 j]),(5,.box [dT l,dI e,dI o,dI p,dI q]),(6,.box [.nil,dI (0:Int)])]⟩) m a) m
noncomputable def SE (n:Nat):EnP Tryz.prog 138:=mkE (TY n).ok [FS n n] 138 Tryz.f138 [[2,0],[0]] [eA [qL 1,qL 1,qL 5,qL 6],eA [qL 2,qI],eA [qT,qI,qI,qI,qI]] [eT 2,eA [qL 2,qI],sI] (pK (JQ n))

noncomputable def Lg (n:Nat):VB:=Xa [⟨138,SE n⟩] [cO 0 [3,4,5] [3,4,5],cK 1 [8],cK 2 [6]]
noncomputable def Pg (n:Nat):EnP Tryz.prog 111:=mkE (Lg n).ok nT 111 Tryz.f111 [[0]] [eA [qL 1,qL 1,qL 5,qL 6],eA [qL 2,qI],eA [qT,qI,qI,qI,qI]] [sI] (pK (Vo n))

noncomputable def Bm (n:Nat):VB:=Xa [] [cO 0 [2,3] [2,3],cK 1 [4]]
noncomputable def P0 (n:Nat):EnP Tryz.prog 107:=mkE (Bm n).ok nT 107 Tryz.f107 [[0]] [eA [qI,qL 5,qL 2,qL 4,qL 7,qL 4,qL 5,qL 3],eA [qI,qI,qI,qI]] [sI] (pK (GE n))

noncomputable def BM (n:Nat):VB:=Xa [] [cO 0 [2,3] [2,3],cK 1 [5,6],cK 2 [4]]
noncomputable def Ra (n:Nat):EnP Tryz.prog 106:=mkE (BM n).ok nT 106 Tryz.f106 [[0]] [eA [qI,qL 5,qL 2,qL 4,qL 7,qL 4,qL 5,qL 3],eA [qI,qI,qI,qI]] [sI] (pK (He n))

noncomputable def Mh (n:Nat):VB:=Xa [⟨105,Te n⟩,⟨111,Pg n⟩,⟨107,P0 n⟩,⟨106,Ra n⟩] [cO 0 [3,4,5,6] [4,5,6],cO 1 (rg1 3 4 [9]) [4,5,6,9],cO 2 (rg1 3 4 [9,16]) [4,5,6,9],cO 3 (rg1 3 4 [9,16]) [4,5,6,9],cO 4 (rg1 3 4 [9,16]) [4,5,6,9],cO 5 (rg1 3 4 [9,16]) [4,5,6,9],cO 6 (rg1 3 4 [9,16]) [4,5,6,9],cO 7 (rg1 3 4 [9,16]) [4,5,6,9],cK 8 [8],cO 9 [3,5,6,9,10] [5,6,9],cO 10 [3,5,6,9,10,72] [5,6,9],cK 11 [8],cK 12 [89],cK 13 [8],cK 14 [8]]
noncomputable def LU (n:Nat):EnP Tryz.prog 103:=mkE (Mh n).ok nT 103 Tryz.f103 [[0]] [eA [qL 1,qL 1,qL 5,qL 6],eA [qI,qL 5,qL 2,qL 4,qL 7,qL 4,qL 5,qL 3],eA [qT,qI,qI,qL 4],sI] [sI] (pK (UU n))

noncomputable def VD (n:Nat):VB:=Xa [⟨95,Ko n⟩,⟨100,Yk n⟩,⟨102,Nq n⟩,⟨103,LU n⟩] [cO 0 [2,3] [2,3],cO 1 [2,3,10,11,12] [2,3],cO 2 [2,3,10,11,12,13] [2,3],cO 3 [2,3,5,6,10,11,12] [2,3,6],cO 4 [2,3,5,6,10,11,12,17] [2,3,6],cK 5 [4],cO 6 [2,3,6,10,11,12,22] [2,3,6],cK 7 [4],cO 8 [2,3,6,10,11,12,29] [2,3,6],cO 9 [2,3,6,10,11,12,29] [2,3,6],cO 10 [2,3,6,10,11,12,29] [2,3,6],cK 11 [4],cO 12 [2,3,6,10,11,12,43] [2,3,6],cK 13 [4],cO 14 [2,3,6,10,11,12,50,51] [2,3,6],cO 15 [2,3,6,10,11,12,50,51,52] [2,3,6],cO 16 [2,3,6,7,10,11,12,50,51] [2,3,6],cO 17 [2,3,6,8,10,11,12,50,51] [2,3,6],cO 18 [2,3,6,8,10,11,12,50,51,60] [2,3,6],cK 19 [4],cO 20 [2,3,6,10,11,12,50,51] [2,3,6],cO 21 [2,3,10,11,12] [2,3],cK 22 [4]]
noncomputable def Nx (n:Nat) (m:Nat):LpE Tryz.prog:=mkL (VD n).ok nT 15 (cA [1,0,1,2,2,1,1,0,2,1,1,1,2,2] (Q6 Tryz.f54)) ⟨64,[(2,.ptr 2 0),(3,.ptr 3 0),(6,.ptr 6 0),(10,.l 4),(11,tI),(12,tI),(50,tI),(51,tI)],[(2,.box [.l 1,.l 1,.l 5,.l 6]),(3,.box [tI,.l 5,.l 2,.l 4,.l 7,.l 4,.l 5,.l 3]),(6,.box [.t,tI,tI,.l 4])]⟩ [yL,yI,yI,yI,yI,yL,yL,yL,yL,yI,yL,yL,yL,yL,yL,yL,yL,yT,yI,yI,yL] (fun m R k v x y b a c d e f g h i j l o p q r s t u=>YU n b c d e f g h i j l o p q r s t u (fun z=>k .ret ⟨64,[(4,dI z)],[]⟩) (fun a aa=>k (.exit 3) ⟨64,[(2,.ptr 2 0),(3,.ptr 3 0),(6,.ptr 6 0),(10,dL 4 v),(11,dI x),(12,dI y),(50,dI b),(51,dI a),(52,dB aa)],[(2,.box [dL 1 c,dL 1 d,dL 5 e,dL 6 f]),(3,.box [dI g,dL 5 h,dL 2 i,dL 4 j,dL 7 l,dL 4 o,dL 5 p,dL 3 q]),(6,.box [dT r,dI s,dI t,dL 4 u])]⟩) m a) m
noncomputable def RU (n:Nat) (m:Nat):LpE Tryz.prog:=mkL (VD n).ok [Nx n n] 2 (cA [1,0,1,2,2] (Q6 Tryz.f54)) ⟨64,[(2,.ptr 2 0),(3,.ptr 3 0),(10,.l 4),(11,tI),(12,tI)],[(2,.box [.l 1,.l 1,.l 5,.l 6]),(3,.box [tI,.l 5,.l 2,.l 4,.l 7,.l 4,.l 5,.l 3])]⟩ [yL,yI,yI,yL,yL,yL,yL,yI,yL,yL,yL,yL,yL,yL,yL] (fun m R k b h2 a c d e f g h i j l o p q=>YT n b h2 c d e f g h i j l o p q (fun r=>k .ret ⟨64,[(4,dI r)],[]⟩) (fun a s=>k (.exit 0) ⟨64,[(2,.ptr 2 0),(3,.ptr 3 0),(10,dL 4 b),(11,dI h2),(12,dI a),(13,dB s)],[(2,.box [dL 1 c,dL 1 d,dL 5 e,dL 6 f]),(3,.box [dI g,dL 5 h,dL 2 i,dL 4 j,dL 7 l,dL 4 o,dL 5 p,dL 3 q])]⟩) m a) m
noncomputable def Hz (n:Nat):EnP Tryz.prog 54:=mkE (VD n).ok [RU n n] 54 Tryz.f54 [[0]] [eA [qL 1,qL 1,qL 5,qL 6],eA [qI,qL 5,qL 2,qL 4,qL 7,qL 4,qL 5,qL 3]] [sI] (pK (WI n))

noncomputable def EH (n:Nat):VB:=Xa [] [cO 0 [1,2] [2],cK 1 [4]]
noncomputable def SA (n:Nat):EnP Tryz.prog 108:=mkE (EH n).ok nT 108 Tryz.f108 [[0]] [eA [qI,qL 5,qL 2,qL 4,qL 7,qL 4,qL 5,qL 3],sI] [sB] (pK (Vb n))

noncomputable def EC (n:Nat):VB:=Xa [⟨108,SA n⟩] [cO 0 [1,2,3] [3],cK 1 [6]]
noncomputable def Sv (n:Nat):EnP Tryz.prog 104:=mkE (EC n).ok nT 104 Tryz.f104 [[0]] [eA [qI,qL 5,qL 2,qL 4,qL 7,qL 4,qL 5,qL 3],sI,sI] [sB] (pK (ZV n))

noncomputable def Gd (n:Nat):VB:=Xa [⟨104,Sv n⟩,⟨105,Te n⟩,⟨102,Nq n⟩,⟨106,Ra n⟩,⟨107,P0 n⟩] [cO 0 [2,3] [2,3],cO 1 [2,3,10,11,12] [2,3],cO 2 [2,3,10,11,12,13] [2,3],cO 3 [2,3,6,10,11,12] [2,3,6],cO 4 [2,3,6,10,11,12,53] [2,3,6],cK 5 [4],cO 6 [2,3,6,7,10,11,12] [2,3,6],cO 7 [2,3,7,8,10,11,12] [2,3],cO 8 [2,3,10,11,12,96] [2,3],cK 9 [4],cO 10 [2,3,10,11,12] [2,3],cK 11 [4]]
noncomputable def Sf (n:Nat) (m:Nat):LpE Tryz.prog:=mkL (Gd n).ok nT 2 (cA [1,0,1,2,2] (Q6 Tryz.f55)) ⟨98,[(2,.ptr 2 0),(3,.ptr 3 0),(10,.l 7),(11,tI),(12,tI)],[(2,.box [.l 1,.l 1,.l 5,.l 6]),(3,.box [tI,.l 5,.l 2,.l 4,.l 7,.l 4,.l 5,.l 3])]⟩ [yL,yI,yI,yL,yL,yL,yL,yI,yL,yL,yL,yL,yL,yL,yL] (fun m R k b h2 a o p c q d e f g h i j l=>Ye n b h2 c d e f g h i j l (fun r=>k .ret ⟨98,[(4,dI r)],[]⟩) (fun a s=>k (.exit 0) ⟨98,[(2,.ptr 2 0),(3,.ptr 3 0),(10,dL 7 b),(11,dI h2),(12,dI a),(13,dB s)],[(2,.box [dL 1 o,dL 1 p,dL 5 c,dL 6 q]),(3,.box [dI d,dL 5 e,dL 2 f,dL 4 g,dL 7 h,dL 4 i,dL 5 j,dL 3 l])]⟩) m a) m
noncomputable def GW (n:Nat):EnP Tryz.prog 55:=mkE (Gd n).ok [Sf n n] 55 Tryz.f55 [[0]] [eA [qL 1,qL 1,qL 5,qL 6],eA [qI,qL 5,qL 2,qL 4,qL 7,qL 4,qL 5,qL 3]] [sI] (pK (Zo n))

noncomputable def J4 (n:Nat):VB:=Xa [] [cO 0 [1,2] [2,1000000],cO 1 [3] [1000000]]
noncomputable def Jj (n:Nat):EnP Tryz.prog 110:=mkG (J4 n).ok nT 110 Tryz.f110 [eA [qI,qI,qI,qI],eP 1000000 4,sI,sI,sI,sI] [sB,eI 1000000 4,sI,sI,sI,sI] [] (pK (Z1 n))

noncomputable def Xp (n:Nat):VB:=Xa [⟨110,Jj n⟩] [cO 0 [0,1] [1000000],cO 1 [0,1,7,8] [1000000],cO 2 [0,1,7,8,9] [1000000],cO 3 [0,1,5,7,8] [1000000],cO 4 [0,1,5,7,8,16] [1000000],cO 5 [4] [1000000],cO 6 [0,1,7,8] [1000000],cO 7 [4] [1000000]]
noncomputable def YC (n:Nat) (m:Nat):LpE Tryz.prog:=mkL (Xp n).ok nT 2 (cA [1,0,1,2,2] (Q6 Tryz.f137)) ⟨19,[(0,.l 4),(1,.fn 110 [.ptr 1000000 0]),(7,tI),(8,tI)],[(1000000,.box [tI,tI,tI,tI])]⟩ [yL,yI,yI,yI,yI,yI,yI] (fun m R k f h2 a b c d e=>Qa n f h2 (fun a g h i j=>k .ret ⟨19,[(4,dI a)],[(1000000,.box [dI g,dI h,dI i,dI j])]⟩) (fun a l b c d e=>k (.exit 0) ⟨19,[(0,dL 4 f),(1,.fn 110 [.ptr 1000000 0]),(7,dI h2),(8,dI a),(9,dB l)],[(1000000,.box [dI b,dI c,dI d,dI e])]⟩) m a b c d e) m
noncomputable def YH (n:Nat):EnP Tryz.prog 137:=mkG (Xp n).ok [YC n n] 137 Tryz.f137 [sL 4,eF 110 1,eP 1000000 4,sI,sI,sI,sI] [sI,eI 1000000 4,sI,sI,sI,sI] [] (pK (QO n))

noncomputable def Yj (n:Nat):VB:=Xa [⟨137,YH n⟩] [cO 0 [0,1] [1000000],cO 1 [4] [1000000]]
noncomputable def Yn (n:Nat):EnP Tryz.prog 109:=mkG (Yj n).ok nT 109 Tryz.f109 [sL 4,eF 110 1,eP 1000000 4,sI,sI,sI,sI] [sB,eI 1000000 4,sI,sI,sI,sI] [] (pK (Qk n))

noncomputable def Kl (n:Nat):VB:=Xa [⟨108,SA n⟩,⟨105,Te n⟩,⟨109,Yn n⟩,⟨106,Ra n⟩,⟨107,P0 n⟩] [cO 0 [3] [3],cO 1 [3,10,11,12] [3],cO 2 (3::rg1 10 4 []) [3],cO 3 [3,5,6,10,11,12] [3,6],cO 4 [3,5,6,10,11,12,37] [3,6],cK 5 [4],cO 6 [3,6,10,11,12,43] [3,6],cK 7 [4],cO 8 [3,7,8,10,11,12] [3,7,8],cO 9 [3,10,11,12,79] [3],cK 10 [4],cO 11 [3,10,11,12] [3],cK 12 [4]]
noncomputable def N7 (n:Nat) (m:Nat):LpE Tryz.prog:=mkL (Kl n).ok nT 2 (cA [1,0,1,2,2] (Q6 Tryz.f56)) ⟨81,[(3,.ptr 3 0),(10,.l 4),(11,tI),(12,tI)],[(3,.box [tI,.l 5,.l 2,.l 4,.l 7,.l 4,.l 5,.l 3])]⟩ [yL,yI,yI,yI,yL,yL,yL,yL,yL,yL,yL] (fun m R k b h2 a c d e f g h i j=>YZ n b h2 c d e f g h i j (fun l=>k .ret ⟨81,[(4,dI l)],[]⟩) (fun a o=>k (.exit 0) ⟨81,[(3,.ptr 3 0),(10,dL 4 b),(11,dI h2),(12,dI a),(13,dB o)],[(3,.box [dI c,dL 5 d,dL 2 e,dL 4 f,dL 7 g,dL 4 h,dL 5 i,dL 3 j])]⟩) m a) m
noncomputable def Hh (n:Nat):EnP Tryz.prog 56:=mkE (Kl n).ok [N7 n n] 56 Tryz.f56 [[0]] [eA [qL 1,qL 1,qL 5,qL 6],eA [qI,qL 5,qL 2,qL 4,qL 7,qL 4,qL 5,qL 3]] [sI] (pK (WH n))

noncomputable def Kx (n:Nat):VB:=Xa [⟨104,Sv n⟩] [cO 0 [3] [3],cO 1 [3,8,9,10] [3],cO 2 [3,8,9,10,11] [3],cO 3 [3,6,8,9,10] [3,6],cO 4 [3,8,9,10,55] [3],cK 5 [4],cO 6 [3,8,9,10] [3],cK 7 [4]]
noncomputable def N9 (n:Nat) (m:Nat):LpE Tryz.prog:=mkL (Kx n).ok nT 2 (cA [1,0,1,2,2] (Q6 Tryz.f57)) ⟨57,[(3,.ptr 3 0),(8,.l 5),(9,tI),(10,tI)],[(3,.box [tI,.l 5,.l 2,.l 4,.l 7,.l 4,.l 5,.l 3])]⟩ [yL,yI,yI,yI,yL,yL,yL,yL,yL,yL,yL] (fun m R k b h2 a c d e f g h i j=>YQ n b h2 c d e f g h i j (k .ret ⟨57,[(4,dI (4:Int))],[]⟩) (fun a l=>k (.exit 0) ⟨57,[(3,.ptr 3 0),(8,dL 5 b),(9,dI h2),(10,dI a),(11,dB l)],[(3,.box [dI c,dL 5 d,dL 2 e,dL 4 f,dL 7 g,dL 4 h,dL 5 i,dL 3 j])]⟩) m a) m
noncomputable def Hq (n:Nat):EnP Tryz.prog 57:=mkE (Kx n).ok [N9 n n] 57 Tryz.f57 [[0]] [eA [qL 1,qL 1,qL 5,qL 6],eA [qI,qL 5,qL 2,qL 4,qL 7,qL 4,qL 5,qL 3]] [sI] (pK (Wz n))

noncomputable def Ga (n:Nat):VB:=Xa [] [cO 0 [2,3] [2,3],cO 1 [2,8,9,10] [2],cO 2 [2,8,9,10,11] [2],cO 3 [2,6,8,9,10] [2,6],cO 4 [2,8,9,10,54] [2],cK 5 [4],cO 6 [2,8,9,10] [2],cK 7 [4]]
noncomputable def So (n:Nat) (m:Nat):LpE Tryz.prog:=mkL (Ga n).ok nT 2 (cA [1,0,1,2,2] (Q6 Tryz.f58)) ⟨56,[(2,.ptr 2 0),(8,.l 3),(9,tI),(10,tI)],[(2,.box [.l 1,.l 1,.l 5,.l 6])]⟩ [yL,yI,yI,yL,yL,yL,yL] (fun m R k b h2 a c d e f=>Yd n b h2 c (k .ret ⟨56,[(4,dI (4:Int))],[]⟩) (fun a g=>k (.exit 0) ⟨56,[(2,.ptr 2 0),(8,dL 3 b),(9,dI h2),(10,dI a),(11,dB g)],[(2,.box [dL 1 c,dL 1 d,dL 5 e,dL 6 f])]⟩) m a) m
noncomputable def GN (n:Nat):EnP Tryz.prog 58:=mkE (Ga n).ok [So n n] 58 Tryz.f58 [[0]] [eA [qL 1,qL 1,qL 5,qL 6],eA [qI,qL 5,qL 2,qL 4,qL 7,qL 4,qL 5,qL 3]] [sI] (pK (Zh n))

end Go.Vx
