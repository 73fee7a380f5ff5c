/- Part of a proof. No conditions of their own. -/
import Derived.Test.YtfgfecgjcggccaaGreatTE
import Derived.Test.YtfgfecgjcggccaaGreatTB
import Derived.Test.YtfgfecgjcggccaaGreatTD
import Derived.Test.YtfgfecgjcggccaaGreatProg
import Derived.Test.YtfgfecgjcggccaaGreatTC
import Derived.Maps.Own
import Derived.Maps.Views
import Derived.StringKeys
import Derived.WalkKit
import Derived.Deep.AppendLies
import Derived.Laws.Rows
import Derived.OneCell
import Derived.Lib.LaidTab
import Derived.Orders
import Derived.LoopTactic
import Derived.Lib.Builder
import Derived.Carry
import Derived.Deep.RegionHeld3
import Derived.Deep.RegionLaw
import Derived.StillTailTactics
import Derived.OrdersHeld
set_option linter.unusedVariables false
set_option linter.unusedSimpArgs false
abbrev Qew:=@Go.Lib.cell_of_heap
abbrev Qex:=@List.getElem?_cons_zero
abbrev Qey:=@cond_false
abbrev Qez:=@List.mem_of_getElem?
abbrev QeA:=@List.mem_append
abbrev QeB:=@List.getElem?_eq_getElem
abbrev QeC:=@List.getElem?_eq_some_iff
abbrev QeD:=@List.getElem?_cons_succ
abbrev QeE:=@decide_eq_true
abbrev QeF:=@Nat.le_of_ble_eq_true
abbrev QeG:=@List.append_assoc
abbrev QeH:=@Bool.and_eq_true
abbrev QeI:=@List.length_append
abbrev QeJ:=@Nat.lt_of_lt_of_le
abbrev QeK:=@Nat.le_refl
abbrev QeL:=@Bool.not_true
abbrev QeM:=@Go.Lib.alloc_old
abbrev QeN:=@List.mem_map
abbrev QeO:=@Int.emod_nonneg
abbrev QeP:=@Int.emod_lt_of_pos
abbrev QeQ:=@List.getElem?_set
abbrev QeR:=@Option.map_eq_some_iff
abbrev QeS:=@List.mem_replicate
abbrev QeT:=@List.mem_singleton
abbrev QeU:=@List.map_append
abbrev QeV:=@Nat.le_trans
namespace Go.Vx
theorem Q7t {n:Nat} {t:Int} {k0:Option Bool} {k1:Int->Bool->Option Bool} (c:k0=some false) (d:∀ a b,k1 a b=some true) {O:List Occ} (hl:O.length<=1000):∀ (ak:List Occ) (j m:Nat),O.drop j=ak->ak.length<m->∃ b,W0 n t (O.map enc) ((O.length:Nat):Int) k0 k1 m (j:Int)=some b
 |[],j,m+1,hd,_=>by
  have:=Y7 hd;exact ⟨true,by rw [W0,show decide ((j:Int)<((O.length:Nat):Int))=false by simpa using this,Qey,d]⟩
 |q::ak,j,m+1,hd,hm=>by
  obtain ⟨e,am,hj⟩:=XG hd;obtain ⟨b,ih⟩:=Q7t c d hl ak (j+1) m am (by simpa using hm);rw [W0,Qk hj,cond_true,QT e];simp -implicitDefEqProofs only [Q0,Fv,Fy,D9,Q1,Xa (show j<=1000 by omega)];generalize decide (wJ (q.2.2-q.2.1)>t)=z;cases z
  ·exact ⟨b,ih⟩
  ·exact ⟨false,c⟩
theorem Qaf {t:Int} {O:List Occ} (a:1<=t) (c:t<=7200) (hO:OL (-1) O) (hl:O.length<=300):∃ b,GF 400 t (O.map enc) (some:Bool->Option Bool)=some b:=by
 unfold GF;rw [show decide (t<1)=false from decide_eq_false (by omega),show decide (t>7200)=false from decide_eq_false (by omega),Q1t hl hO];simp -implicitDefEqProofs only [Qey,Q0,QeL,Bool.not_false,List.length_map];exact Q7t rfl (fun _ _=>rfl) (by omega) O 0 400 rfl (by omega)
namespace Cx
variable {R:Type} {n:Nat} {X:Cx} (h:X.OK) {per:Int} {Ch Sy De:LL} {F E A Oc Rn J:LL} {w0 w1 w2 w3:Int}
theorem Q9E {O:List Occ} (hl:O.length<=1000) {x y z la:Int} {k0:Int->Bool->LL->LL->LL->LL->LL->LL->LL->Int->LL->LL->LL->LL->LL->LL->LL->LL->LL->LL->Int->Int->Int->Int->Int->Bool->oP R} {Kc:Bool->oP R} (hk:∀ a b c,k0 a b F E A X.G.St X.G.Pt X.G.Se X.G.Li per X.skR X.Ro X.Ls Ch (X.T.map tuR) Sy De Oc Rn J per w0 w1 w2 w3 c=Kc c):∀ (ak:List Occ) (j m:Nat) (c:Bool),O.drop j=ak->ak.length<m->∃ c',X8 n (O.map enc) ((O.length:Nat):Int) la (Q5 x) (Q5 y) (Q5 z) k0 m (j:Int) F E A X.G.St X.G.Pt X.G.Se X.G.Li per X.skR X.Ro X.Ls Ch (X.T.map tuR) Sy De Oc Rn J per w0 w1 w2 w3 c=Kc c'
 |[],j,m+1,c,hd,_=>by
  have:=Y7 hd;exact ⟨c,by rw [X8,show decide ((j:Int)<((O.length:Nat):Int))=false by simpa using this,Qey,hk]⟩
 |q::ak,j,m+1,c,hd,hm=>by
  obtain ⟨e,am,hj⟩:=XG hd;have ih:=fun c=>Q9E (la:=la) (x:=x) (y:=y) (z:=z) hl hk ak (j+1) m c am (by simpa using hm)
  rw [X8,Qk hj,cond_true,QT e];simp -implicitDefEqProofs only [Q0,Fv,Fy,D9,Q1,Xa (show j<=1000 by omega)];unfold XL;simp -implicitDefEqProofs only [Q0];generalize (bif (x == q.1) then decide (wJ (la+q.2.1)<=z) else false)=g;cases g
  ·exact ih c
  ·exact ih _
theorem Qa9 {Oa:List Occ} (ha:Oa.length<=300) {O:List Occ} (hl:O.length<=300) {jb la:Int} (hb:Q2 Oc jb=some [D.sl 3 (O.map enc)]) {k0:Int->Bool->LL->LL->LL->LL->LL->LL->LL->Int->LL->LL->LL->LL->LL->LL->LL->LL->LL->LL->Int->Int->Int->Int->Int->Bool->oP R} {Kc:Bool->oP R} (hk:∀ a b c,k0 a b F E A X.G.St X.G.Pt X.G.Se X.G.Li per X.skR X.Ro X.Ls Ch (X.T.map tuR) Sy De Oc Rn J per w0 w1 w2 w3 c=Kc c):∀ (an:List Occ) (j m:Nat) (c:Bool),Oa.drop j=an->an.length<m->∃ c',QO 400 (Oa.map enc) ((Oa.length:Nat):Int) jb la k0 m (j:Int) F E A X.G.St X.G.Pt X.G.Se X.G.Li per X.skR X.Ro X.Ls Ch (X.T.map tuR) Sy De Oc Rn J per w0 w1 w2 w3 c=Kc c'
 |[],j,m+1,c,hd,_=>by
  have:=Y7 hd;exact ⟨c,by rw [QO,show decide ((j:Int)<((Oa.length:Nat):Int))=false by simpa using this,Qey,hk]⟩
 |q::an,j,m+1,c,hd,hm=>by
  obtain ⟨e,aq,hj⟩:=XG hd;rw [QO,Qk hj,cond_true,QT e,hb];simp -implicitDefEqProofs only [Q0,Fv,Fy,D9,Qex,X6,List.length_map,Xa (show j<=1000 by omega)];obtain ⟨c1,d⟩:=Q9E (n:=400) (F:=F) (E:=E) (A:=A) (Oc:=Oc) (Rn:=Rn) (J:=J) (per:=per) (Ch:=Ch) (Sy:=Sy) (De:=De) (w0:=w0) (w1:=w1) (w2:=w2) (w3:=w3) (X:=X) (O:=O) (by omega) (x:=q.1) (y:=q.2.1) (z:=q.2.2) (la:=la) (Kc:=fun c=>QO 400 (Oa.map enc) ((Oa.length:Nat):Int) jb la k0 m ((j+1:Nat):Int) F E A X.G.St X.G.Pt X.G.Se X.G.Li per X.skR X.Ro X.Ls Ch (X.T.map tuR) Sy De Oc Rn J per w0 w1 w2 w3 c) (k0:=fun ao ap f g i k l o p r s t u v aa ab ac ad ae ag ah ai aj ak al am=>QO 400 (Oa.map enc) ((Oa.length:Nat):Int) jb la k0 m ((j+1:Nat):Int) f g i k l o p r s t u v aa ab ac ad ae ag ah ai aj ak al am) (fun _ _ _=>rfl) O 0 400 c rfl (by omega);obtain ⟨c2,h2⟩:=Qa9 ha hl hb hk an (j+1) m c1 aq (by simpa using hm);exact ⟨c2,d.trans h2⟩
include h
theorem Q7T:∀ j∈X.jns,∃ i k i' k',i<X.Ls.length/\k<X.nr i/\i'<X.Ls.length/\k'<X.nr i'/\j.1=base X.nr i+k/\j.2.1=base X.nr i'+k':=by
 intro j hj;rcases QeA.1 hj with hj | hj
 ·obtain ⟨a,ha⟩:=List.getElem?_of_mem hj;have ak:=(QeC.1 ha).1;rw [Q4T] at ak;obtain ⟨i,k,b,h2,c⟩:=FX ak;have:=Mu (nr:=fun i=>X.nr i-1) (f:=X.j1) h2 b;rw [<- c,show flat (fun i=>X.nr i-1) X.j1 X.L=X.jL X.L from rfl,ha] at this;cases this;exact ⟨i,k,i,k+1,b,by omega,b,by omega,rfl,rfl⟩
 ·obtain ⟨t,ht,rfl⟩:=QeN.1 hj;have b:=(h.tr t ht).1;have h2:=(h.tr t ht).2.1;have d:=(line h b).2.1;have e:=(line h h2).2.1;exact ⟨t.1,X.nr t.1-1,t.2.1,0,b,by omega,h2,by omega,rfl,rfl⟩
theorem BE:X.jns.length<=30:=by
 have:=Q8T h (i:=X.L) (QeK _);have:=h.tl;unfold jns;rw [QeI,List.length_map];omega
theorem Q7Q {k0:LL->LL->LL->LL->LL->LL->LL->Int->LL->LL->LL->LL->LL->LL->LL->LL->LL->LL->Int->oP R} {k1:Int->Bool->LL->LL->LL->LL->LL->LL->LL->Int->LL->LL->LL->LL->LL->LL->LL->LL->LL->LL->Int->oP R} {Kc:Bool->oP R} (d:k0 F E A X.G.St X.G.Pt X.G.Se X.G.Li per X.skR X.Ro X.Ls Ch (X.T.map tuR) Sy De (Ut (X.occs X.L)) Rn (X.jns.map tuR) per=Kc false) (f:∀ a b,k1 a b F E A X.G.St X.G.Pt X.G.Se X.G.Li per X.skR X.Ro X.Ls Ch (X.T.map tuR) Sy De (Ut (X.occs X.L)) Rn (X.jns.map tuR) per=Kc true):∀ (ar:List Tup) (j m:Nat),X.jns.drop j=ar->ar.length<m->∃ c,Xl 400 (X.jns.map tuR) ((X.jns.length:Nat):Int) k0 k1 m (j:Int) F E A X.G.St X.G.Pt X.G.Se X.G.Li per X.skR X.Ro X.Ls Ch (X.T.map tuR) Sy De (Ut (X.occs X.L)) Rn (X.jns.map tuR) per=Kc c
 |[],j,m+1,hd,_=>by
  have:=Y7 hd;exact ⟨true,by rw [Xl,show decide ((j:Int)<((X.jns.length:Nat):Int))=false by simpa using this,Qey,f]⟩
 |(a,b,la,mo)::ar,j,m+1,hd,hm=>by
  obtain ⟨e,ax,hj⟩:=XG hd;have a9:=BE h;obtain ⟨i,k,i',k',g1,g,l,n,o,p⟩:=Q7T h (a,b,la,mo) (Qez e);dsimp only at o p;subst o p;have o1:=(Q0d h g1 g).2;have o2:=(Q0d h l n).2;rw [Xl,Qk hj,cond_true,QT e];simp -implicitDefEqProofs only [Q0,tuR,Qex,QeD,Q1,Xa (show j<=1000 by omega)];unfold WZ;rw [Q0e g1 g];simp -implicitDefEqProofs only [Q0,Qex,X6,List.length_map];obtain ⟨c,hc⟩:=Qa9 (F:=F) (E:=E) (A:=A) (Oc:=Ut (X.occs X.L)) (Rn:=Rn) (J:=X.jns.map tuR) (per:=per) (Ch:=Ch) (Sy:=Sy) (De:=De) (w0:=((base X.nr i+k:Nat):Int)) (w1:=((base X.nr i'+k':Nat):Int)) (w2:=la) (w3:=mo) (X:=X) (Oa:=X.occ i k) (by omega) (O:=X.occ i' k') (by omega) (la:=la) (Q0e l n) (Kc:=fun c=>some (X.G.St,X.G.Pt,X.G.Se,X.G.Li,per,X.skR,X.Ro,X.Ls,Ch,X.T.map tuR,Sy,De,F,Ut (X.occs X.L),Rn,X.jns.map tuR,per,E,A,((base X.nr i+k:Nat):Int),((base X.nr i'+k':Nat):Int),la,mo,c)) (k0:=fun av aw q r s u v x y z aa ab ac ad ae ag ah ai aj ak al am an ao ap aq=>some (u,v,x,y,z,aa,ab,ac,ad,ae,ag,ah,q,ai,aj,ak,al,r,s,am,an,ao,ap,aq)) (fun _ _ _=>rfl) (X.occ i k) 0 400 false rfl (by omega);have bc:=hc;rw [show List.map tuR X.jns=List.map (fun t=>[Q5 t.1,Q5 t.2.1,Q5 t.2.2.1,Q5 t.2.2.2]) X.jns from rfl,show List.map tuR X.T=List.map (fun t=>[Q5 t.1,Q5 t.2.1,Q5 t.2.2.1,Q5 t.2.2.2]) X.T from rfl] at *
  rw [show ((0:Nat):Int)=0 from rfl] at hc;rw [hc,Q0];dsimp only;cases c
  ·exact Q7Q d f ar (j+1) m ax (by simpa using hm)
  ·exact ⟨false,d⟩
end Cx
namespace Cx
def aR (X:Cx) (i k:Nat):List D:=[Q5 1,Q5 ((2*(base X.nr i+k):Nat):Int),Q5 ((2*(base X.nr i+k)+1:Nat):Int),Q5 (X.run i k),Q5 (X.run i k+X.ex i k),Q5 (X.w i)]
def aD (X:Cx) (i k:Nat):List D:=[Q5 2,Q5 ((2*(base X.nr i+k)+1:Nat):Int),Q5 ((2*(base X.nr i+k+1):Nat):Int),Q5 (X.mn i k),Q5 (X.mx i k),Q5 (X.w i)]
def pl (X:Cx) (i:Nat):Nat->LL
 |0=>[]
 |k+1=>pl X i k++[X.aR i k]++(if k<X.nr i-1 then [X.aD i k] else [])
def pls (X:Cx):Nat->LL
 |0=>[]
 |i+1=>pls X i++X.pl i (X.nr i)
def chE (X:Cx) (row:List D):List D:=match row with
 |[.int _ f,.int _ fr,.int _ t,.int _ tr,mn,mx,w]=>[Q5 3,Q5 ((2*(base X.nr f.toNat+fr.toNat)+1:Nat):Int),Q5 ((2*(base X.nr t.toNat+tr.toNat):Nat):Int),mn,mx,w]
 |_=>[]
def tuE (X:Cx) (t:Tup):List D:=[Q5 4,Q5 ((2*(base X.nr t.1+(X.nr t.1-1))+1:Nat):Int),Q5 ((2*(base X.nr t.2.1+0):Nat):Int),Q5 t.2.2.1,Q5 t.2.2.2,Q5 1]
def syE (X:Cx) (row:List D):List D:=match row with
 |[_,_,_,_,o]=>[Q5 5,Q5 ((2*(base X.nr 0+0):Nat):Int),Q5 ((2*(base X.nr 1+0):Nat):Int),o,o,Q5 0]
 |_=>[]
def planned (X:Cx) (Ch Sy:LL):LL:=X.pls X.L++Ch.map X.chE++X.T.map X.tuE++Sy.map X.syE
variable {R:Type} {n:Nat} {X:Cx}
theorem Q66 {i:Nat}:∀ {k:Nat},(X.pl i k).length<=2*k
 |0=>QeK _
 |k+1=>by
  have:=Q66 (i:=i) (k:=k);rw [pl,QeI,QeI];split <;> simp <;> omega
theorem A0:∀ {i:Nat},(X.pls i).length<=2*base X.nr i
 |0=>QeK _
 |i+1=>by
  have:=A0 (i:=i);have:=Q66 (X:=X) (i:=i) (k:=X.nr i);rw [pls,QeI,base];omega
structure LsOK (X:Cx) (per:Int) (Ch Sy:LL):Prop where
 ch:∀ row∈Ch,∃ (f fr t tr:Nat) (mn mx w:Int),row=[Q5 f,Q5 fr,Q5 t,Q5 tr,Q5 mn,Q5 mx,Q5 w]/\f<X.Ls.length/\fr<X.nr f/\t<X.Ls.length/\tr<X.nr t/\(0<=mn/\mn<20/\mn<=mx/\mx<mn+per)/\0<=w/\w<3
 chl:Ch.length<=2
 sy:∀ row∈Sy,∃ o:Int,row=[Q5 0,Q5 0,Q5 1,Q5 0,Q5 o]/\0<=o/\o<per/\2<=X.Ls.length
 syl:Sy.length<=1
variable (h:X.OK) {per:Int} {Ch Sy De:LL} (hl:X.LsOK per Ch Sy)
theorem Q9d {O Rn J E A:LL} (hA:A.length<=1000) {a1 a2 a3 a4 a5 a:Int} (K:LL->LL->LL->LL->Int->LL->LL->LL->LL->LL->LL->LL->LL->LL->LL->LL->Int->LL->LL->oP R):X2 n X.G.St X.G.Pt X.G.Se X.G.Li per X.skR X.Ro X.Ls Ch (X.T.map tuR) Sy De (X.fst X.L) O Rn J per E A a1 a2 a3 a4 a5 a K=K X.G.St X.G.Pt X.G.Se X.G.Li per X.skR X.Ro X.Ls Ch (X.T.map tuR) Sy De (X.fst X.L) O Rn J per E (A++[[Q5 a1,Q5 a2,Q5 a3,Q5 a4,Q5 a5,Q5 a]]):=by
 unfold X2;rw [XR (by simp;omega),Q0]
include h
theorem Qbh {i:Nat} (hi:i<X.Ls.length) {E J:LL} {k0:Int->Bool->LL->LL->LL->LL->LL->LL->LL->Int->LL->LL->LL->LL->LL->LL->LL->LL->LL->LL->Int->oP R}:Qq 400 (i:Int) (Pe X.Ls i) ((X.nr i:Nat):Int) (Q5 (X.w i)) (D.sl 4 (Pe X.Ls i)) k0 400 0 (X.fst X.L) E (X.pls i) X.G.St X.G.Pt X.G.Se X.G.Li per X.skR X.Ro X.Ls Ch (X.T.map tuR) Sy De (Ut (X.occs X.L)) (encI (X.runs X.L)) J per=k0 ((X.nr i:Nat):Int) false (X.fst X.L) E (X.pls i++X.pl i (X.nr i)) X.G.St X.G.Pt X.G.Se X.G.Li per X.skR X.Ro X.Ls Ch (X.T.map tuR) Sy De (Ut (X.occs X.L)) (encI (X.runs X.L)) J per:=by
 have hn:=(line h hi).2.1;have hb:=Jd h (i:=i) (by omega);have hp:=A0 (X:=X) (i:=i);have hw:wJ (((List.length (Pe X.Ls i):Nat):Int)-1)=((X.nr i-1:Nat):Int):=Vi (k:=X.nr i) (by omega) (by omega);refine QR (r:=fun m k=>Qq 400 (i:Int) (Pe X.Ls i) ((X.nr i:Nat):Int) (Q5 (X.w i)) (D.sl 4 (Pe X.Ls i)) k0 m k (X.fst X.L) E (X.pls i++X.pl i k.toNat) X.G.St X.G.Pt X.G.Se X.G.Li per X.skR X.Ro X.Ls Ch (X.T.map tuR) Sy De (Ut (X.occs X.L)) (encI (X.runs X.L)) J per) (N:=X.nr i) (fun m k hk=>?_) (fun m=>?_) (X.nr i) 400 0 (by omega) (by omega) |> Eq.trans (by simp [pl])
 ·simp only [Int.toNat_natCast];have r:=rd h hi hk;have b:=r.ex0;have e1:=r.ex1;have hr:=Q1S h hi hk;have ak:Q2 (Pe X.Ls i) (k:Int)=some [Q5 (rF X.Ls i k 0),Q5 (X.ex i k),Q5 (X.mn i k),Q5 (X.mx i k)]:=by rw [Qp,r.row]
  have ao:=Q66 (X:=X) (i:=i) (k:=k);have am:=Q7s (X:=X) hi hk;rw [Qq,Qk hk,cond_true,ak];simp -implicitDefEqProofs only [Q0,Qex,QeD,Q1,X6,hw,Cy (n:=400) h hi (show k<=10 by omega),am,Xa (show k<=1000 by omega),Q7K (n:=400) (show base X.nr i+k<=1000 by omega),Qbc (n:=400) (show base X.nr i+k<=1000 by omega),Xa (show base X.nr i+k<=1000 by omega),Q7K (n:=400) (show base X.nr i+k+1<=1000 by omega),Qf (x:=X.run i k+X.ex i k) (by omega) (by omega),Q9d (n:=400) (A:=X.pls i++X.pl i k) (by simp;omega),Q9d (n:=400) (A:=X.pls i++X.pl i k++[[Q5 1,Q5 ((2*(base X.nr i+k):Nat):Int),Q5 ((2*(base X.nr i+k)+1:Nat):Int),Q5 (X.run i k),Q5 (X.run i k+X.ex i k),Q5 (X.w i)]]) (by simp;omega)];by_cases a:k<X.nr i-1
  ·rw [Qk a,cond_true,pl,if_pos a,<- QeG,<- QeG];rfl
  ·rw [show decide ((k:Int)<((X.nr i-1:Nat):Int))=false from decide_eq_false (by omega),Qey,pl,if_neg a,List.append_nil,<- QeG];rfl
 ·simp only [Int.toNat_natCast];rw [Qq,Xb,Qey]
include hl
theorem Q6v {E J:LL} (K:LL->LL->LL->LL->Int->LL->LL->LL->LL->LL->LL->LL->LL->LL->LL->LL->Int->LL->LL->oP R):XV 400 X.G.St X.G.Pt X.G.Se X.G.Li per X.skR X.Ro X.Ls Ch (X.T.map tuR) Sy De (X.fst X.L) (Ut (X.occs X.L)) (encI (X.runs X.L)) J per E [] K=K X.G.St X.G.Pt X.G.Se X.G.Li per X.skR X.Ro X.Ls Ch (X.T.map tuR) Sy De (X.fst X.L) (Ut (X.occs X.L)) (encI (X.runs X.L)) J per E (X.planned Ch Sy):=by
 have l1:=h.l1;have tl:=h.tl;have hp:=A0 (X:=X) (i:=X.L);have hb:=base_le h;have chl:=hl.chl;have syl:=hl.syl;unfold XV;have s2:∀ k0:Int->Bool->LL->LL->LL->LL->LL->LL->LL->Int->LL->LL->LL->LL->LL->LL->LL->LL->LL->LL->Int->oP R,QA 400 X.Ls ((X.Ls.length:Nat):Int) k0 400 0 (X.fst X.L) E [] X.G.St X.G.Pt X.G.Se X.G.Li per X.skR X.Ro X.Ls Ch (X.T.map tuR) Sy De (Ut (X.occs X.L)) (encI (X.runs X.L)) J per=k0 ((X.Ls.length:Nat):Int) false (X.fst X.L) E (X.pls X.L) X.G.St X.G.Pt X.G.Se X.G.Li per X.skR X.Ro X.Ls Ch (X.T.map tuR) Sy De (Ut (X.occs X.L)) (encI (X.runs X.L)) J per:=by
  intro k0;refine QR (r:=fun m i=>QA 400 X.Ls ((X.Ls.length:Nat):Int) k0 m i (X.fst X.L) E (X.pls i.toNat) X.G.St X.G.Pt X.G.Se X.G.Li per X.skR X.Ro X.Ls Ch (X.T.map tuR) Sy De (Ut (X.occs X.L)) (encI (X.runs X.L)) J per) (N:=X.Ls.length) (fun m i hi=>?_) (fun m=>?_) X.Ls.length 400 0 (by omega) (by omega)
  ·simp only [Int.toNat_natCast];rw [QA,Qk hi,cond_true,Qp,(line h hi).1];simp -implicitDefEqProofs only [Q0,Qex,QeD,X6,Xa (show i<=1000 by omega)];exact Qbh h hi
  ·simp only [Int.toNat_natCast];rw [QA,Xb,Qey];rfl
 have s3:∀ k0:Int->Bool->LL->LL->LL->LL->LL->LL->LL->Int->LL->LL->LL->LL->LL->LL->LL->LL->LL->LL->Int->oP R,QC 400 Ch ((Ch.length:Nat):Int) k0 400 0 (X.fst X.L) E (X.pls X.L) X.G.St X.G.Pt X.G.Se X.G.Li per X.skR X.Ro X.Ls Ch (X.T.map tuR) Sy De (Ut (X.occs X.L)) (encI (X.runs X.L)) J per=k0 ((Ch.length:Nat):Int) false (X.fst X.L) E (X.pls X.L++Ch.map X.chE) X.G.St X.G.Pt X.G.Se X.G.Li per X.skR X.Ro X.Ls Ch (X.T.map tuR) Sy De (Ut (X.occs X.L)) (encI (X.runs X.L)) J per:=by
  intro k0;refine QR (r:=fun m j=>QC 400 Ch ((Ch.length:Nat):Int) k0 m j (X.fst X.L) E (X.pls X.L++(Ch.take j.toNat).map X.chE) X.G.St X.G.Pt X.G.Se X.G.Li per X.skR X.Ro X.Ls Ch (X.T.map tuR) Sy De (Ut (X.occs X.L)) (encI (X.runs X.L)) J per) (N:=Ch.length) (fun m j hj=>?_) (fun m=>?_) Ch.length 400 0 (by omega) (by omega) |> Eq.trans (by simp)
  ·simp only [Int.toNat_natCast];obtain ⟨row,e⟩:∃ q,Ch[j]? = some q:=⟨Ch[j],QeB hj⟩;obtain ⟨f,fr,t,tr,mn,mx,w,rfl,g1,g2,g,g4,g5,g6⟩:=hl.ch row (Qez e);have nf:=(line h g1).2.1;have nt:=(line h g).2.1;have bf:=Jd h (i:=f) (by omega);have bt:=Jd h (i:=t) (by omega);rw [QC,Qk hj,cond_true,Qp,e,Uc e,QeU,<- QeG];simp -implicitDefEqProofs only [Q0,Qex,QeD,Q1,Cy (n:=400) h g1 (show fr<=10 by omega),Cy (n:=400) h g (show tr<=10 by omega),Xa (show j<=1000 by omega),Qbc (n:=400) (show base X.nr f+fr<=1000 by omega),Q7K (n:=400) (show base X.nr t+tr<=1000 by omega),Q9d (n:=400) (A:=X.pls X.L++(Ch.take j).map X.chE) (by simp;omega)];rfl
  ·simp only [Int.toNat_natCast];rw [QC,Xb,Qey,List.take_length]
 have s4:∀ k0:Int->Bool->LL->LL->LL->LL->LL->LL->LL->Int->LL->LL->LL->LL->LL->LL->LL->LL->LL->LL->Int->oP R,QB 400 (X.T.map tuR) ((X.T.length:Nat):Int) k0 400 0 (X.fst X.L) E (X.pls X.L++Ch.map X.chE) X.G.St X.G.Pt X.G.Se X.G.Li per X.skR X.Ro X.Ls Ch (X.T.map tuR) Sy De (Ut (X.occs X.L)) (encI (X.runs X.L)) J per=k0 ((X.T.length:Nat):Int) false (X.fst X.L) E (X.pls X.L++Ch.map X.chE++X.T.map X.tuE) X.G.St X.G.Pt X.G.Se X.G.Li per X.skR X.Ro X.Ls Ch (X.T.map tuR) Sy De (Ut (X.occs X.L)) (encI (X.runs X.L)) J per:=by
  intro k0;refine QR (r:=fun m j=>QB 400 (X.T.map tuR) ((X.T.length:Nat):Int) k0 m j (X.fst X.L) E (X.pls X.L++Ch.map X.chE++(X.T.take j.toNat).map X.tuE) X.G.St X.G.Pt X.G.Se X.G.Li per X.skR X.Ro X.Ls Ch (X.T.map tuR) Sy De (Ut (X.occs X.L)) (encI (X.runs X.L)) J per) (N:=X.T.length) (fun m j hj=>?_) (fun m=>?_) X.T.length 400 0 (by omega) (by omega) |> Eq.trans (by simp)
  ·simp only [Int.toNat_natCast];obtain ⟨⟨a,b,lo,hi⟩,e⟩:∃ q,X.T[j]? = some q:=⟨X.T[j],QeB hj⟩;have ht:=h.tr _ (Qez e);have g1:a<X.Ls.length:=ht.1;have g:b<X.Ls.length:=ht.2.1;have nf:=(line h g1).2.1;have bf:=Jd h (i:=a) (by omega);have bt:=Jd h (i:=b) (by omega);have ak:Q2 (X.T.map tuR) (j:Int)=some [Q5 a,Q5 b,Q5 lo,Q5 hi]:=QT e;have e9:X.pls X.L++Ch.map X.chE++(X.T.take (j+1)).map X.tuE=X.pls X.L++Ch.map X.chE++(X.T.take j).map X.tuE++[X.tuE (a,b,lo,hi)]:=by rw [Uc e,QeU,<- QeG];rfl
   have c:=Cy (R:=Int × LL × LL × LL × LL × Int × LL × LL × LL × LL × LL × LL × LL × LL × LL × LL × LL × Int × LL × LL) (n:=400) h (per:=per) (Ch:=Ch) (Sy:=Sy) (De:=De) g (Nat.zero_le 10) (O:=Ut (X.occs X.L)) (Rn:=encI (X.runs X.L)) (J:=J) (E:=E) (A:=X.pls X.L++Ch.map X.chE++(X.T.take j).map X.tuE) Tu20;rw [show ((0:Nat):Int)=0 from rfl] at c;rw [QB,Qk hj,cond_true,ak,e9];simp -implicitDefEqProofs only [Q0,Qex,QeD,Q1,Q9P (n:=400) h g1,c,Xa (show j<=1000 by omega),Qbc (n:=400) (show base X.nr a+(X.nr a-1)<=1000 by omega),Q7K (n:=400) (show base X.nr b+0<=1000 by omega),Q9d (n:=400) (A:=X.pls X.L++Ch.map X.chE++(X.T.take j).map X.tuE) (by simp;omega)];rfl
  ·simp only [Int.toNat_natCast];rw [QB,Xb,Qey,List.take_length]
 have s5:∀ k0:Int->Bool->LL->LL->LL->LL->LL->LL->LL->Int->LL->LL->LL->LL->LL->LL->LL->LL->LL->LL->Int->oP R,QD 400 Sy ((Sy.length:Nat):Int) k0 400 0 (X.fst X.L) E (X.pls X.L++Ch.map X.chE++X.T.map X.tuE) X.G.St X.G.Pt X.G.Se X.G.Li per X.skR X.Ro X.Ls Ch (X.T.map tuR) Sy De (Ut (X.occs X.L)) (encI (X.runs X.L)) J per=k0 ((Sy.length:Nat):Int) false (X.fst X.L) E (X.planned Ch Sy) X.G.St X.G.Pt X.G.Se X.G.Li per X.skR X.Ro X.Ls Ch (X.T.map tuR) Sy De (Ut (X.occs X.L)) (encI (X.runs X.L)) J per:=by
  intro k0;refine QR (r:=fun m j=>QD 400 Sy ((Sy.length:Nat):Int) k0 m j (X.fst X.L) E (X.pls X.L++Ch.map X.chE++X.T.map X.tuE++(Sy.take j.toNat).map X.syE) X.G.St X.G.Pt X.G.Se X.G.Li per X.skR X.Ro X.Ls Ch (X.T.map tuR) Sy De (Ut (X.occs X.L)) (encI (X.runs X.L)) J per) (N:=Sy.length) (fun m j hj=>?_) (fun m=>?_) Sy.length 400 0 (by omega) (by omega) |> Eq.trans (by simp)
  ·simp only [Int.toNat_natCast];obtain ⟨row,e⟩:∃ q,Sy[j]? = some q:=⟨Sy[j],QeB hj⟩;obtain ⟨o,rfl,g1,g2,g⟩:=hl.sy row (Qez e);have bt:=Jd h (i:=1) (by omega);have c:=fun A=>Cy (R:=Int × LL × LL × LL × LL × Int × LL × LL × LL × LL × LL × LL × LL × LL × LL × LL × LL × Int × LL × LL) (n:=400) h (per:=per) (Ch:=Ch) (Sy:=Sy) (De:=De) (show 0<X.Ls.length by omega) (Nat.zero_le 10) (O:=Ut (X.occs X.L)) (Rn:=encI (X.runs X.L)) (J:=J) (E:=E) (A:=A) Tu20
   have d:=fun A=>Cy (R:=Int × LL × LL × LL × LL × Int × LL × LL × LL × LL × LL × LL × LL × LL × LL × LL × LL × Int × LL × LL) (n:=400) h (per:=per) (Ch:=Ch) (Sy:=Sy) (De:=De) (show 1<X.Ls.length by omega) (Nat.zero_le 10) (O:=Ut (X.occs X.L)) (Rn:=encI (X.runs X.L)) (J:=J) (E:=E) (A:=A) Tu20
   simp only [show ((0:Nat):Int)=0 from rfl,show ((1:Nat):Int)=1 from rfl] at c d;rw [QD,Qk hj,cond_true,Qp,e,Uc e,QeU,<- QeG];simp -implicitDefEqProofs only [Q0,Qex,QeD,Q1,c,d,Xa (show j<=1000 by omega),Q7K (n:=400) (show base X.nr 0+0<=1000 by simp [base]),Q7K (n:=400) (show base X.nr 1+0<=1000 by omega),Q9d (n:=400) (A:=X.pls X.L++Ch.map X.chE++X.T.map X.tuE++(Sy.take j).map X.syE) (by simp;omega)];rfl
  ·simp only [Int.toNat_natCast];rw [QD,Xb,Qey,List.take_length];rfl
 rw [s2,s3,List.length_map,s4,s5]
end Cx

theorem MI {R:Type} {n:Nat} {O:List Occ} (hl:O.length<=1000) {q:Int->Bool} {K:LL->oP R} {k0:Int->Bool->LL->oP R} (hk:∀ a b w,k0 a b w=K w):∀ (ak P:List Occ) (j m:Nat),O.drop j=ak->ak.length<m->P.length<=j->XH n (O.map enc) ((O.length:Nat):Int) q k0 m (j:Int) (P.map enc)=K ((P++ak.filter fun o=>!q o.1).map enc)
 |[],P,j,m+1,hd,_,_=>by
  have:=Y7 hd;rw [XH,show decide ((j:Int)<((O.length:Nat):Int))=false by simpa using this,Qey,hk,List.filter_nil,List.append_nil]
 |o::ak,P,j,m+1,hd,hm,hP=>by
  obtain ⟨e,am,hj⟩:=XG hd;rw [XH,Qk hj,cond_true,QT e];simp -implicitDefEqProofs only [Q0,Fv,Fy,D9,Q1,Xa (show j<=1000 by omega),XR (show ((P.map enc).length+[[Q5 o.1,Q5 o.2.1,Q5 o.2.2]].length)*24<=100000 by simp;omega)];rw [List.filter_cons];cases hq:q o.1 with
  |true=>
   rw [QeL,Qey,if_neg (by simp)];exact MI hl hk ak P (j+1) m am (by simpa using hm) (by omega)
  |false=>
   rw [Bool.not_false,cond_true,if_pos rfl];have:=MI (n:=n) (q:=q) hl hk ak (P++[o]) (j+1) m am (by simpa using hm) (by simp;omega);rw [QeU,QeG] at this;exact this
theorem Q3e {R:Type} {O:List Occ} (hl:O.length<=300) {q:Int->Bool} (K:LL->(Int->Bool)->oP R):Wh 400 (O.map enc) q K=K ((O.filter fun o=>!q o.1).map enc) q:=by
 unfold Wh;rw [List.length_map];exact MI (by omega) (K:=fun w=>K w q) (fun _ _ _=>rfl) O [] 0 400 rfl (by omega) (by simp)
namespace Cx
variable {R:Type} {n:Nat} {X:Cx} (h:X.OK) {per:Int} {Ch Sy De:LL} {F E A Oc Rn J:LL}
theorem map1 {O:List Occ} (hl:O.length<=1000) {x y z la:Int} {k0:Int->Bool->(Int->Bool)->oP R} {Kc:(Int->Bool)->oP R} (hk:∀ a b c,k0 a b c=Kc c):∀ (ak:List Occ) (j m:Nat) (c:Int->Bool),O.drop j=ak->ak.length<m->∃ c',X9 n (O.map enc) ((O.length:Nat):Int) la (Q5 x) (Q5 y) (Q5 z) k0 m (j:Int) c=Kc c'
 |[],j,m+1,c,hd,_=>by
  have:=Y7 hd;exact ⟨c,by rw [X9,show decide ((j:Int)<((O.length:Nat):Int))=false by simpa using this,Qey,hk]⟩
 |q::ak,j,m+1,c,hd,hm=>by
  obtain ⟨e,am,hj⟩:=XG hd;have ih:=fun c=>map1 (la:=la) (x:=x) (y:=y) (z:=z) hl hk ak (j+1) m c am (by simpa using hm)
  rw [X9,Qk hj,cond_true,QT e];simp -implicitDefEqProofs only [Q0,Fv,Fy,D9,Q1,Xa (show j<=1000 by omega)];unfold Xe;simp -implicitDefEqProofs only [Q0];generalize (bif (x == q.1) then decide (wJ (la+q.2.1)<=z) else false)=g;cases g
  ·exact ih c
  ·exact ih _
theorem Qce {Oa:List Occ} (ha:Oa.length<=300) {O:List Occ} (hl:O.length<=300) {jb la:Int} (hb:Q2 Oc jb=some [D.sl 3 (O.map enc)]) {k0:Int->Bool->(Int->Bool)->oP R} {Kc:(Int->Bool)->oP R} (hk:∀ a b c,k0 a b c=Kc c):∀ (ak:List Occ) (j m:Nat) (c:Int->Bool),Oa.drop j=ak->ak.length<m->∃ c',QP 400 (Oa.map enc) ((Oa.length:Nat):Int) jb la Oc k0 m (j:Int) c=Kc c'
 |[],j,m+1,c,hd,_=>by
  have:=Y7 hd;exact ⟨c,by rw [QP,show decide ((j:Int)<((Oa.length:Nat):Int))=false by simpa using this,Qey,hk]⟩
 |q::ak,j,m+1,c,hd,hm=>by
  obtain ⟨e,am,hj⟩:=XG hd;rw [QP,Qk hj,cond_true,QT e,hb];simp -implicitDefEqProofs only [Q0,Fv,Fy,D9,Qex,X6,List.length_map,Xa (show j<=1000 by omega)];obtain ⟨c1,d⟩:=map1 (n:=400) (O:=O) (by omega) (x:=q.1) (y:=q.2.1) (z:=q.2.2) (la:=la) (Kc:=fun c=>QP 400 (Oa.map enc) ((Oa.length:Nat):Int) jb la Oc k0 m ((j+1:Nat):Int) c) (k0:=fun _ _ c=>QP 400 (Oa.map enc) ((Oa.length:Nat):Int) jb la Oc k0 m ((j+1:Nat):Int) c) (fun _ _ _=>rfl) O 0 400 c rfl (by omega);obtain ⟨f,h2⟩:=Qce ha hl hb hk ak (j+1) m c1 am (by simpa using hm);exact ⟨f,d.trans h2⟩
def NJ (X:Cx) (a b:Nat):Prop:=∀ j∈X.jns,¬ (j.1=a/\j.2.1=b)/\¬ (j.1=b/\j.2.1=a)
include h
theorem Q61 {a b:Nat} {k0:Int->Bool->(Int->Bool)->LL->LL->LL->LL->LL->LL->LL->Int->LL->LL->LL->LL->LL->LL->LL->LL->LL->LL->Int->oP R} {Kq:(Int->Bool)->oP R} (hk:∀ u v q,k0 u v q F E A X.G.St X.G.Pt X.G.Se X.G.Li per X.skR X.Ro X.Ls Ch (X.T.map tuR) Sy De (Ut (X.occs X.L)) Rn (X.jns.map tuR) per=Kq q):∀ (am:List Tup) (j m:Nat) (q:Int->Bool),X.jns.drop j=am->am.length<m ->
  ∃ q',Qr 400 (a:Int) (b:Int) (X.jns.map tuR) ((X.jns.length:Nat):Int) k0 m (j:Int) q F E A X.G.St X.G.Pt X.G.Se X.G.Li per X.skR X.Ro X.Ls Ch (X.T.map tuR) Sy De (Ut (X.occs X.L)) Rn (X.jns.map tuR) per=Kq q'/\((∀ t∈am,¬ (t.1=a/\t.2.1=b)/\¬ (t.1=b/\t.2.1=a))->q'=q)
 |[],j,m+1,q,hd,_=>by
  have:=Y7 hd;exact ⟨q,by rw [Qr,show decide ((j:Int)<((X.jns.length:Nat):Int))=false by simpa using this,Qey,hk],fun _=>rfl⟩
 |(c,d,la,mo)::am,j,m+1,q,hd,hm=>by
  obtain ⟨e,ao,hj⟩:=XG hd;have aw:=BE h;obtain ⟨i,k,i',k',g1,n,o,p,l,r⟩:=Q7T h (c,d,la,mo) (Qez e);dsimp only at l r;have y:=(Q0d h g1 n).2;have z:=(Q0d h o p).2;have an:Q2 (X.jns.map tuR) (j:Int)=some [Q5 c,Q5 d,Q5 la,Q5 mo]:=QT e;have ih:=fun q=>Q61 (a:=a) (b:=b) hk am (j+1) m q ao (by simpa using hm)
  rw [Qr,Qk hj,cond_true,an];simp -implicitDefEqProofs only [Q0,Qex,QeD,Q1,Xa (show j<=1000 by omega)];by_cases hc:(c=a/\d=b)\/(c=b/\d=a)
  ·have ak:(bif bif (c:Int) == (a:Int) then (d:Int) == (b:Int) else false then true else bif (c:Int) == (b:Int) then (d:Int) == (a:Int) else false)=true:=by
    rcases hc with ⟨rfl,rfl⟩ | ⟨rfl,rfl⟩
    ·simp
    ·simp
   rw [ak,cond_true];unfold U6;rw [l,Q0e g1 n];simp -implicitDefEqProofs only [Q0,Qex,X6,List.length_map];obtain ⟨q1,g⟩:=Qce (Oc:=Ut (X.occs X.L)) (Oa:=X.occ i k) (by omega) (O:=X.occ i' k') (by omega) (jb:=(d:Int)) (la:=la) (by rw [r];exact Q0e o p) (Kc:=fun c=>some (X.G.St,X.G.Pt,X.G.Se,X.G.Li,per,X.skR,X.Ro,X.Ls,Ch,X.T.map tuR,Sy,De,F,Ut (X.occs X.L),Rn,X.jns.map tuR,per,E,A,c)) (k0:=fun aa ab s=>some (X.G.St,X.G.Pt,X.G.Se,X.G.Li,per,X.skR,X.Ro,X.Ls,Ch,X.T.map tuR,Sy,De,F,Ut (X.occs X.L),Rn,X.jns.map tuR,per,E,A,s)) (fun _ _ _=>rfl) (X.occ i k) 0 400 q rfl (by omega);rw [show ((0:Nat):Int)=0 from rfl] at g;rw [g,Q0];dsimp only;obtain ⟨q2,h2,_⟩:=ih q1;refine ⟨q2,h2,fun hn=>?_⟩;have:=hn _ (.head _);dsimp only at this;rw [<- l] at this;exact (hc.elim this.1 this.2).elim
  ·have ak:(bif bif (c:Int) == (a:Int) then (d:Int) == (b:Int) else false then true else bif (c:Int) == (b:Int) then (d:Int) == (a:Int) else false)=false:=by
    by_cases g:c=a
    ·by_cases h2:d=b
     ·exact (hc (.inl ⟨g,h2⟩)).elim
     ·rw [show ((d:Int) == (b:Int))=false by simp;omega];by_cases f:c=b
      ·rw [show ((d:Int) == (a:Int))=false by simp;intro x;exact hc (.inr ⟨f,by omega⟩)];simp
      ·rw [show ((c:Int) == (b:Int))=false by simp;omega];simp
    ·rw [show ((c:Int) == (a:Int))=false by simp;omega,Qey,Qey];by_cases f:c=b
     ·rw [show ((d:Int) == (a:Int))=false by simp;intro x;exact hc (.inr ⟨f,by omega⟩)];simp
     ·rw [show ((c:Int) == (b:Int))=false by simp;omega,Qey]
   rw [ak,Qey];obtain ⟨q2,h2,f⟩:=ih q;exact ⟨q2,h2,fun hn=>f fun t ht=>hn t (.tail _ ht)⟩
theorem QbN {a b:Nat}:∃ q,XD 400 X.G.St X.G.Pt X.G.Se X.G.Li per X.skR X.Ro X.Ls Ch (X.T.map tuR) Sy De F (Ut (X.occs X.L)) Rn (X.jns.map tuR) per E A (a:Int) (b:Int) Tu20=some (q,X.G.St,X.G.Pt,X.G.Se,X.G.Li,per,X.skR,X.Ro,X.Ls,Ch,X.T.map tuR,Sy,De,F,Ut (X.occs X.L),Rn,X.jns.map tuR,per,E,A)/\(X.NJ a b->q=fun _=>false):=by
 unfold XD;rw [List.length_map];obtain ⟨q,z,h2⟩:=Q61 h (F:=F) (E:=E) (A:=A) (Rn:=Rn) (per:=per) (Ch:=Ch) (Sy:=Sy) (De:=De) (a:=a) (b:=b) (Kq:=fun q=>some (q,X.G.St,X.G.Pt,X.G.Se,X.G.Li,per,X.skR,X.Ro,X.Ls,Ch,X.T.map tuR,Sy,De,F,Ut (X.occs X.L),Rn,X.jns.map tuR,per,E,A)) (k0:=fun ax ay aa ab ac ad ae ag ah ai aj ak al am an ao ap aq ar au av aw=>some (aa,ae,ag,ah,ai,aj,ak,al,am,an,ao,ap,aq,ab,ar,au,av,aw,ac,ad)) (fun _ _ _=>rfl) X.jns 0 400 (fun _=>false) rfl (by have:=BE h;omega);exact ⟨q,z,h2⟩
omit h in
def occN (X:Cx) (a:Nat):List Occ:=(X.occs X.L).getD a []
omit h in
def N (X:Cx):Nat:=base X.nr X.L
theorem occN_ok {a:Nat} (ha:a<X.N):Q2 (Ut (X.occs X.L)) (a:Int)=some [D.sl 3 ((X.occN a).map enc)]/\OL (-1) (X.occN a)/\(X.occN a).length<=6:=by
 obtain ⟨i,k,b,h2,rfl⟩:=FX ha;have e:X.occN (base X.nr i+k)=X.occ i k:=by
  unfold occN;rw [List.getD_eq_getElem?_getD,show (X.occs X.L)[base X.nr i+k]? = some (X.occ i k) from Mu h2 b];rfl
 rw [e];exact ⟨Q0e b h2,Q0d h b h2⟩
omit h in
def rowH (a b:Nat) (w:Sp2):List D:=[Q5 6,Q5 ((2*a:Nat):Int),Q5 ((2*b:Nat):Int),Q5 w.1,Q5 w.2,Q5 0]
omit h in
theorem Qbg {a b:Nat} (ha:a<=100) (hb:b<=100) {W:List Sp2} (hW:W.length<=12) {k0:Int->Bool->LL->LL->LL->LL->LL->LL->LL->Int->LL->LL->LL->LL->LL->LL->LL->LL->LL->LL->Int->oP R} (hA:A.length<=900):Qv 400 (a:Int) (b:Int) (W.map XC) ((W.length:Nat):Int) k0 400 0 (X.fst X.L) E A X.G.St X.G.Pt X.G.Se X.G.Li per X.skR X.Ro X.Ls Ch (X.T.map tuR) Sy De Oc Rn J per=k0 ((W.length:Nat):Int) false (X.fst X.L) E (A++W.map (rowH a b)) X.G.St X.G.Pt X.G.Se X.G.Li per X.skR X.Ro X.Ls Ch (X.T.map tuR) Sy De Oc Rn J per:=by
 refine QR (r:=fun m j=>Qv 400 (a:Int) (b:Int) (W.map XC) ((W.length:Nat):Int) k0 m j (X.fst X.L) E (A++(W.take j.toNat).map (rowH a b)) X.G.St X.G.Pt X.G.Se X.G.Li per X.skR X.Ro X.Ls Ch (X.T.map tuR) Sy De Oc Rn J per) (N:=W.length) (fun m j hj=>?_) (fun m=>?_) W.length 400 0 (by omega) (by omega) |> Eq.trans (by simp)
 ·simp only [Int.toNat_natCast];obtain ⟨w,e⟩:∃ q,W[j]? = some q:=⟨W[j],QeB hj⟩;rw [Qv,Qk hj,cond_true,QT e,Uc e,QeU,<- QeG];simp -implicitDefEqProofs only [Q0,Q6j,Q4O,Q1,Xa (show j<=1000 by omega),Q7K (n:=400) (show a<=1000 by omega),Q7K (n:=400) (show b<=1000 by omega),Q9d (n:=400) (A:=A++(W.take j).map (rowH a b)) (by simp;omega)];rfl
 ·simp only [Int.toNat_natCast];rw [Qv,Xb,Qey,List.take_length]
omit h in
structure HdOK (X:Cx) (per:Int) (S:Nat->Nat->Prop) (H:LL):Prop where
 row:∀ r∈H,∃ a b w,S a b/\r=rowH a b w/\0<=w.1/\w.1<=w.2/\w.2<w.1+per/\w.2<=2*per
 win:∀ a b,S a b->X.NJ a b->∃ W,WinR per (X.occN a) (X.occN b) W/\∀ w,rowH a b w∈H↔w∈W
omit h in
theorem N6 {a b a' b':Nat} {w w':Sp2} (e:rowH a b w=rowH a' b' w'):a=a'/\b=b'/\w=w':=by
 unfold rowH at e;simp only [List.cons.injEq,D.int.injEq,true_and,and_true] at e;obtain ⟨e1,e2,c,d⟩:=e;exact ⟨by omega,by omega,Prod.ext c d⟩
theorem Qa8 (p0:2<=per) (p1:per<=300) {a:Nat} {k0:Int->LL->LL->LL->LL->LL->LL->LL->Int->LL->LL->LL->LL->LL->LL->LL->LL->LL->LL->Int->oP R} {k1:Int->Bool->LL->LL->LL->LL->LL->LL->LL->Int->LL->LL->LL->LL->LL->LL->LL->LL->LL->LL->Int->oP R} {Ke K1:LL->oP R} (g:∀ A,k0 13 (X.fst X.L) E A X.G.St X.G.Pt X.G.Se X.G.Li per X.skR X.Ro X.Ls Ch (X.T.map tuR) Sy De (Ut (X.occs X.L)) Rn (X.jns.map tuR) per=Ke A) (i:∀ u v A,k1 u v (X.fst X.L) E A X.G.St X.G.Pt X.G.Se X.G.Li per X.skR X.Ro X.Ls Ch (X.T.map tuR) Sy De (Ut (X.occs X.L)) Rn (X.jns.map tuR) per=K1 A):∀ (c m b:Nat) (A:LL),b+c=X.N->c<m->A.length+12*c<=900->a<X.N ->
  (∃ A',Qx 400 (a:Int) k0 k1 m (b:Int) (X.fst X.L) E A X.G.St X.G.Pt X.G.Se X.G.Li per X.skR X.Ro X.Ls Ch (X.T.map tuR) Sy De (Ut (X.occs X.L)) Rn (X.jns.map tuR) per=Ke A')\/∃ H:LL,Qx 400 (a:Int) k0 k1 m (b:Int) (X.fst X.L) E A X.G.St X.G.Pt X.G.Se X.G.Li per X.skR X.Ro X.Ls Ch (X.T.map tuR) Sy De (Ut (X.occs X.L)) Rn (X.jns.map tuR) per=K1 (A++H)/\H.length<=12*c/\X.HdOK per (fun a' b'=>a'=a/\b<=b'/\b'<X.N) H
 |0,m+1,b,A,hb,_,_,ha=>by
  have am:(Ut (X.occs X.L)).length=X.N:=by rw [Tl];exact WX
  refine .inr ⟨[],?_,QeK _,⟨fun r hr=>(nomatch hr),fun a' b' hs=>by omega⟩⟩;rw [Qx,am,show decide ((b:Int)<((X.N:Nat):Int))=false from decide_eq_false (by omega),Qey,i,List.append_nil]
 |c+1,m+1,b,A,hb,hm,hA,ha=>by
  have am:(Ut (X.occs X.L)).length=X.N:=by rw [Tl];exact WX
  have hN:=base_le h;have ax:X.N<=6:=hN;have an:b<X.N:=by omega
  obtain ⟨a1,a2,a3⟩:=occN_ok h ha;obtain ⟨b1,b2,k⟩:=occN_ok h an;obtain ⟨q,q1,q2⟩:=QbN h (F:=X.fst X.L) (E:=E) (A:=A) (Rn:=Rn) (per:=per) (Ch:=Ch) (Sy:=Sy) (De:=De) (a:=a) (b:=b);have fa:∀ O:List Occ,O.length<=6->(O.filter fun o=>!q o.1).length<=6:=fun O hO=>QeV (List.length_filter_le _ _) hO
  rw [Qx,am,Qk an,cond_true,q1,Q0];dsimp only;rw [a1,b1];simp -implicitDefEqProofs only [Q0,Qex,X6,Q3e (O:=X.occN a) (show (X.occN a).length<=300 by omega),Q3e (O:=X.occN b) (show (X.occN b).length<=300 by omega),Xa (show b<=1000 by omega)];rcases Q6S (t:=per) p0 (by omega) (a2.filter (p:=fun o=>!q o.1)) (b2.filter (p:=fun o=>!q o.1)) (fa _ a3) (fa _ k) with hw | ⟨W,hw,hW⟩
  ·left;rw [hw,Q0];exact ⟨A,g A⟩
  ·rw [hw,Q0];dsimp only;rw [Q8 (by rfl),List.length_map,Qbg (by omega) (by omega) hW.len (by omega)];have a6:=hW.len;rcases Qa8 p0 p1 g i c m (b+1) (A++W.map (rowH a b)) (by omega) (by omega) (by simp;omega) ha with d | ⟨H,d,h2,f⟩
   ·exact .inl d
   ·refine .inr ⟨W.map (rowH a b)++H,by rw [d,QeG],by simp;omega,⟨fun r hr=>?_,fun a' b' hs hn=>?_⟩⟩
    ·rcases QeA.1 hr with hr | hr
     ·obtain ⟨w,hw,rfl⟩:=QeN.1 hr;exact ⟨a,b,w,⟨rfl,QeK _,an⟩,rfl,hW.rng w hw⟩
     ·obtain ⟨a',b',w,hs,e,hr⟩:=f.row r hr;exact ⟨a',b',w,⟨hs.1,by omega,hs.2.2⟩,e,hr⟩
    ·obtain ⟨rfl,n,l⟩:=hs;by_cases ar:b'=b
     ·subst ar;have hq:=q2 hn;subst hq;have ef:∀ O:List Occ,(O.filter fun o=>!(false:Bool))=O:=fun O=>by simp
      rw [ef,ef] at hW;refine ⟨W,hW,fun w=>?_⟩;rw [QeA,QeN];constructor
      ·rintro (⟨w',ak,e⟩ | hr)
       ·rw [<- (N6 e).2.2];exact ak
       ·obtain ⟨a2,b2,w2,hs,e,_⟩:=f.row _ hr;have:=(N6 e).2.1;omega
      ·exact fun ak=>.inl ⟨w,ak,rfl⟩
     ·obtain ⟨W',g1,j⟩:=f.win a' b' ⟨rfl,by omega,l⟩ hn;refine ⟨W',g1,fun w=>?_⟩;rw [QeA,QeN];constructor
      ·rintro (⟨w',ak,e⟩ | hr)
       ·have:=(N6 e).2.1;omega
       ·exact (j w).1 hr
      ·exact fun ak=>.inr ((j w).2 ak)
theorem Qac (p0:2<=per) (p1:per<=300) {k0:Int->LL->LL->LL->LL->LL->LL->LL->Int->LL->LL->LL->LL->LL->LL->LL->LL->LL->LL->Int->oP R} {k1:Int->Bool->LL->LL->LL->LL->LL->LL->LL->Int->LL->LL->LL->LL->LL->LL->LL->LL->LL->LL->Int->oP R} {Ke K1:LL->oP R} (i:∀ A,k0 13 (X.fst X.L) E A X.G.St X.G.Pt X.G.Se X.G.Li per X.skR X.Ro X.Ls Ch (X.T.map tuR) Sy De (Ut (X.occs X.L)) Rn (X.jns.map tuR) per=Ke A) (j:∀ u v A,k1 u v (X.fst X.L) E A X.G.St X.G.Pt X.G.Se X.G.Li per X.skR X.Ro X.Ls Ch (X.T.map tuR) Sy De (Ut (X.occs X.L)) Rn (X.jns.map tuR) per=K1 A):∀ (c m a:Nat) (A:LL),a+c=X.N->c<m->A.length+72*c<=800 ->
  (∃ A',Qi 400 ((X.N:Nat):Int) k0 k1 m (a:Int) (X.fst X.L) E A X.G.St X.G.Pt X.G.Se X.G.Li per X.skR X.Ro X.Ls Ch (X.T.map tuR) Sy De (Ut (X.occs X.L)) Rn (X.jns.map tuR) per=Ke A')\/∃ H:LL,Qi 400 ((X.N:Nat):Int) k0 k1 m (a:Int) (X.fst X.L) E A X.G.St X.G.Pt X.G.Se X.G.Li per X.skR X.Ro X.Ls Ch (X.T.map tuR) Sy De (Ut (X.occs X.L)) Rn (X.jns.map tuR) per=K1 (A++H)/\H.length<=6*(c*c)/\X.HdOK per (fun a' b'=>a<=a'/\a'<b'/\b'<X.N) H
 |0,m+1,a,A,hb,_,_=>by
  refine .inr ⟨[],?_,QeK _,⟨fun r hr=>(nomatch hr),fun a' b' hs=>by omega⟩⟩;rw [Qi,show decide ((a:Int)<((X.N:Nat):Int))=false from decide_eq_false (by omega),Qey,j,List.append_nil]
 |c+1,m+1,a,A,hb,hm,hA=>by
  have br:X.N<=6:=base_le h;rw [Qi,Qk (show a<X.N by omega),cond_true,Xa (show a<=1000 by omega)];rcases Qa8 h p0 p1 (E:=E) (Rn:=Rn) (Ch:=Ch) (Sy:=Sy) (De:=De) (a:=a) (Ke:=Ke) (k0:=fun k l n o p q s t x y z aa ab ac ad ae ag ah ai aj=>k0 k l n o p q s t x y z aa ab ac ad ae ag ah ai aj) (K1:=fun A=>Qi 400 ((X.N:Nat):Int) k0 k1 m ((a+1:Nat):Int) (X.fst X.L) E A X.G.St X.G.Pt X.G.Se X.G.Li per X.skR X.Ro X.Ls Ch (X.T.map tuR) Sy De (Ut (X.occs X.L)) Rn (X.jns.map tuR) per) (k1:=fun bh bi ak al am an ao ap aq ar au av aw ax ay az ba bb bc bd be=>Qi 400 ((X.N:Nat):Int) k0 k1 m ((a+1:Nat):Int) ak al am an ao ap aq ar au av aw ax ay az ba bb bc bd be) i (fun _ _ _=>rfl) (X.N-(a+1)) 400 (a+1) A (by omega) (by omega) (by omega) (by omega) with d | ⟨H,d,h2,f⟩
  ·exact .inl d
  ·rcases Qac p0 p1 i j c m (a+1) (A++H) (by omega) (by omega) (by simp;omega) with ⟨A',g1⟩ | ⟨H',g1,g2,g⟩
   ·exact .inl ⟨A',d.trans g1⟩
   ·refine .inr ⟨H++H',by rw [d];exact g1.trans (by rw [QeG]),?_,⟨fun r hr=>?_,fun a' b' hs hn=>?_⟩⟩
    ·have:(c+1)*(c+1)=c*c+2*c+1:=by rw [Nat.succ_mul,Nat.mul_succ];omega
     rw [QeI];omega
    ·rcases QeA.1 hr with hr | hr
     ·obtain ⟨a',b',w,hs,e,hr⟩:=f.row r hr;exact ⟨a',b',w,⟨by omega,by omega,by omega⟩,e,hr⟩
     ·obtain ⟨a',b',w,hs,e,hr⟩:=g.row r hr;exact ⟨a',b',w,⟨by omega,hs.2⟩,e,hr⟩
    ·by_cases a7:a'=a
     ·obtain ⟨W,k1,b⟩:=f.win a' b' ⟨a7,by omega,hs.2.2⟩ hn;refine ⟨W,k1,fun w=>?_⟩;rw [QeA];constructor
      ·rintro (hr | hr)
       ·exact (b w).1 hr
       ·obtain ⟨a2,b2,w2,bg,e,_⟩:=g.row _ hr;have:=(N6 e).1;omega
      ·exact fun hw=>.inl ((b w).2 hw)
     ·obtain ⟨W,k1,b⟩:=g.win a' b' ⟨by omega,hs.2⟩ hn;refine ⟨W,k1,fun w=>?_⟩;rw [QeA];constructor
      ·rintro (hr | hr)
       ·obtain ⟨a2,b2,w2,bg,e,_⟩:=f.row _ hr;have:=(N6 e).1;omega
       ·exact (b w).1 hr
      ·exact fun hw=>.inr ((b w).2 hw)
end Cx

namespace Cx
variable {X:Cx} (h:X.OK) {per:Int} {Ch Sy De:LL} (hl:X.LsOK per Ch Sy)
theorem Q7O {t:Int} (d:1<=t) (f:t<=7200) {R:Type} {Kc:Bool->oP R} {k0:oP R} (g:k0=Kc false) {k1:Int->Bool->oP R} (i:∀ a b,∃ c,k1 a b=Kc c) {L:List (List Occ)} (hO:∀ o∈L,OL (-1) o/\o.length<=6) (am:L.length<=100):∀ (ak:List (List Occ)) (j m:Nat),L.drop j=ak->ak.length<m->∃ c,Xi 400 (Ut L) ((L.length:Nat):Int) t k0 k1 m (j:Int)=Kc c
 |[],j,m+1,hd,_=>by
  have:=Y7 hd;obtain ⟨c,hc⟩:=i (j:Int) (decide ((j:Int)<((L.length:Nat):Int)));refine ⟨c,?_⟩;rw [Xi,hc,show decide ((j:Int)<((L.length:Nat):Int))=false by simpa using this,Qey]
 |o::ak,j,m+1,hd,hm=>by
  obtain ⟨e,ao,hj⟩:=XG hd;have ho:=hO o (Qez e);obtain ⟨b,hb⟩:=Qaf d f ho.1 (by omega);have an:Q2 (Ut L) (j:Int)=some [D.sl 3 (o.map enc)]:=QT e;obtain ⟨c,ih⟩:=Q7O d f (k0:=k0) g i hO am ak (j+1) m ao (by simpa using hm);rw [Xi,Qk hj,cond_true,an];simp -implicitDefEqProofs only [Q0,Qex,X6,hb,Xa (show j<=1000 by omega)];cases b
  ·exact ⟨false,g⟩
  ·exact ⟨c,ih⟩
include h
theorem Q8U:∀ o∈X.occs X.L,OL (-1) o/\o.length<=6:=by
 intro o ho;obtain ⟨a,ha⟩:=List.getElem?_of_mem ho;have ak:=(QeC.1 ha).1;rw [show (X.occs X.L).length=X.N from WX] at ak;obtain ⟨b,h2⟩:=(occN_ok h ak).2;unfold occN at b h2;rw [List.getD_eq_getElem?_getD,ha] at b h2;exact ⟨b,h2⟩
theorem Q9B (p0:1<=per) (p1:per<=300) {E A Rn:LL}:∃ c,Z2 400 X.G.St X.G.Pt X.G.Se X.G.Li per X.skR X.Ro X.Ls Ch (X.T.map tuR) Sy De (X.fst X.L) (Ut (X.occs X.L)) Rn (X.jns.map tuR) per E A Tu20=some (c,X.G.St,X.G.Pt,X.G.Se,X.G.Li,per,X.skR,X.Ro,X.Ls,Ch,X.T.map tuR,Sy,De,X.fst X.L,Ut (X.occs X.L),Rn,X.jns.map tuR,per,E,A):=by
 have ak:(X.occs X.L).length=X.N:=WX;have hN:X.N<=6:=base_le h;have hj:=BE h;unfold Z2;rw [Tl];refine Q7O (t:=per) p0 (by omega) (Kc:=fun c=>some (c,X.G.St,X.G.Pt,X.G.Se,X.G.Li,per,X.skR,X.Ro,X.Ls,Ch,X.T.map tuR,Sy,De,X.fst X.L,Ut (X.occs X.L),Rn,X.jns.map tuR,per,E,A)) rfl (fun a b=>?_) (Q8U h) (by omega) (X.occs X.L) 0 400 rfl (by omega);rw [List.length_map];exact Q7Q h (F:=X.fst X.L) (E:=E) (A:=A) (Rn:=Rn) (per:=per) (Ch:=Ch) (Sy:=Sy) (De:=De) (Kc:=fun c=>some (c,X.G.St,X.G.Pt,X.G.Se,X.G.Li,per,X.skR,X.Ro,X.Ls,Ch,X.T.map tuR,Sy,De,X.fst X.L,Ut (X.occs X.L),Rn,X.jns.map tuR,per,E,A)) rfl (fun _ _=>rfl) X.jns 0 400 rfl (by omega)
include hl
theorem buildP (p0:2<=per) (p1:per<=300) (hc:UO 400 X.G.St X.G.Pt X.G.Se X.G.Li per X.skR X.Ro X.Ls Ch (X.T.map tuR) Sy De (some:Int->Option Int)=some 0) :
  (∃ e:Int,(e=13\/e=7)/\Wl 400 X.G.St X.G.Pt X.G.Se X.G.Li per X.skR X.Ro X.Ls Ch (X.T.map tuR) Sy De Tu4=some (0,[],[],e)) \/
  ∃ H:LL,X.HdOK per (fun a b=>0<=a/\a<b/\b<X.N) H/\(X.planned Ch Sy++H).length<=300/\Wl 400 X.G.St X.G.Pt X.G.Se X.G.Li per X.skR X.Ro X.Ls Ch (X.T.map tuR) Sy De Tu4=some (per,X.evs X.L,X.planned Ch Sy++H,0):=by
 have hN:base X.nr X.L<=6:=base_le h;have a7:(Ut (X.occs X.L)).length=X.N:=by rw [Tl];exact WX
 have a6:X.N<=6:=hN;have bi:(X.planned Ch Sy).length<=40:=by
  have:=A0 (X:=X) (i:=X.L);have:=hl.chl;have:=hl.syl;have:=h.tl;unfold planned;simp only [QeI,List.length_map];omega
 obtain ⟨c,a8⟩:=Q9B h (by omega) p1 (E:=X.evs X.L) (A:=[]) (Rn:=encI (X.runs X.L)) (Ch:=Ch) (Sy:=Sy) (De:=De);unfold Wl;rw [hc,Q0,Q8 (by rfl),Q8h h,Q0];dsimp only;rw [evs_len,Q8 (decide_eq_false (by omega)),Qai h hc,Q0];dsimp only;rw [Q8 (by rfl),Q9s h,Q0];dsimp only;rw [a8,Q0];dsimp only;cases c
 ·exact .inl ⟨13,.inl rfl,rfl⟩
 rw [Q8 (by rfl),Q6v h hl,Q0];dsimp only;unfold YP;rw [a7];rcases Qac h p0 p1 (R:=Int × LL × LL × LL × LL × Int × LL × LL × LL × LL × LL × LL × LL × LL × LL × LL × LL × Int × LL × LL) (E:=X.evs X.L) (Rn:=encI (X.runs X.L)) (Ch:=Ch) (Sy:=Sy) (De:=De) (Ke:=fun A=>some (13,X.G.St,X.G.Pt,X.G.Se,X.G.Li,per,X.skR,X.Ro,X.Ls,Ch,X.T.map tuR,Sy,De,X.fst X.L,Ut (X.occs X.L),encI (X.runs X.L),X.jns.map tuR,per,X.evs X.L,A)) (K1:=fun A=>some (0,X.G.St,X.G.Pt,X.G.Se,X.G.Li,per,X.skR,X.Ro,X.Ls,Ch,X.T.map tuR,Sy,De,X.fst X.L,Ut (X.occs X.L),encI (X.runs X.L),X.jns.map tuR,per,X.evs X.L,A)) (k0:=fun l m n o p q r s t u v x y z aa ab ac ad ae ag=>some (l,p,q,r,s,t,u,v,x,y,z,aa,ab,m,ac,ad,ae,ag,n,o)) (k1:=fun bc bd ah ai aj ak al am an ao ap aq ar au av aw ax ay az ba bb=>some (0,ak,al,am,an,ao,ap,aq,ar,au,av,aw,ax,ah,ay,az,ba,bb,ai,aj)) (fun _=>rfl) (fun _ _ _=>rfl) X.N 400 0 (X.planned Ch Sy) (by omega) (by omega) (by omega) with ⟨A',d⟩ | ⟨H,d,h3,h2⟩
 ·rw [show ((0:Nat):Int)=0 from rfl] at d;rw [d,Q0];exact .inl ⟨13,.inl rfl,rfl⟩
 ·rw [show ((0:Nat):Int)=0 from rfl] at d;rw [d,Q0];dsimp only;rw [Q8 (by rfl)];have bg:=Nat.mul_le_mul a6 a6;have hg:(X.planned Ch Sy++H).length<=300:=by rw [QeI];omega
  rw [Q8 (decide_eq_false (by omega))];exact .inr ⟨H,h2,hg,rfl⟩
end Cx

end Go.Vx
namespace Go.Vx
variable {R:Type}
def RD (n:Nat)  (K:Int->LL->LL->oP R):oP R:= K 10 [[Q5 1,Q5 0,Q5 0],[Q5 2,Q5 0,Q5 0]] [[Q5 1,Q5 0,Q5 1,Q5 3,Q5 5,Q5 2]]
def VJ (n:Nat) (b:Int) (a c:LL) (a1:Int) (K:Bool->oP R):oP R:= K (bif decide (a1>=0) then (decide (a1<(a.length:Int))) else false)

def ZX (n:Nat) (p:LL) (h2 e:Int) (h i:LL) (k0:oP R) (k1:Int->Bool->oP R):Nat->Int->oP R
 | 0,_=>none
 | m+1,c=>bif decide (c<h2) then gb true (Q2 p c) [] fun a=>gb true (a[0]?) oF fun ac=>gb true (a[1]?) oF fun q=>gb true (a[2]?) oF fun r=>gb true (a[3]?) oF fun j=>gb true (a[4]?) oF fun k=>gb true (a[5]?) oF fun s=>gb true (pIw q) 0 fun u=>gb true (VJ n e h i u some) false fun d=>gb (!(!d)) (pIw r) 0 fun v=>gb (!(!d)) (VJ n e h i v some) false fun l=>gb (!(bif !d then true else (!l))) (pIw q) 0 fun x=>gb (!(bif !d then true else (!l))) (pIw r) 0 fun y=>bif (bif (bif !d then true else (!l)) then true else (x == y)) then k0 else gb true (pIw j) 0 fun b=>gb (!(decide (b<(-65536:Int)))) (pIw j) 0 fun f=>gb (!(decide (b<(-65536:Int)))) (pIw k) 0 fun g=>gb (!(bif (decide (b<(-65536:Int))) then true else (decide (f>g)))) (pIw k) 0 fun o=>gb (!(bif (bif (decide (b<(-65536:Int))) then true else (decide (f>g))) then true else (decide (o>65536)))) (pIw k) 0 fun z=>gb (!(bif (bif (decide (b<(-65536:Int))) then true else (decide (f>g))) then true else (decide (o>65536)))) (pIw j) 0 fun aa=>bif (bif (bif (bif (decide (b<(-65536:Int))) then true else (decide (f>g))) then true else (decide (o>65536))) then true else (decide ((wJ (z-aa))>=e))) then k0 else gb true (pIw s) 0 fun t=>gb (!(decide (t<0))) (pIw s) 0 fun ab=>bif (bif decide (t<0) then true else (decide (ab>1048576))) then k0 else ZX n p h2 e h i k0 k1 m (wJ (c+1)) else k1 c (decide (c<h2))
def Je (n:Nat) (b:Int) (c a:LL) (K:Bool->oP R):oP R:= bif (bif (bif (bif decide (b<2) then true else (decide (b>7200))) then true else (decide ((c.length:Int)>48))) then true else (decide ((a.length:Int)>512))) then K false else ZX n a (a.length:Int) b c a (K false) (fun d e=>K true) n 0

def WR (n:Nat) (h2:LL) (b c:Int) (k0:oP R) (k1:Int->Bool->oP R):Nat->Int->oP R
 | 0,_=>none
 | m+1,a=>bif decide (a<b) then gb true (Q2 h2 a) [] fun e=>gb true (e[0]?) oF fun f=>gb true (pIw f) 0 fun d=>bif (bif decide (d<0) then true else (decide (d>=c))) then k0 else WR n h2 b c k0 k1 m (wJ (a+1)) else k1 a (decide (a<b))
def G7 (n:Nat) (a:Int) (b c a1:LL) (K:Bool->oP R):oP R:= gb true (Je n a b c some) false fun d=>bif (bif !d then true else ((a1.length:Int) != (b.length:Int))) then K false else WR n a1 (a1.length:Int) a (K false) (fun e f=>K true) n 0

def Vb (n:Nat) (b:Int) (l m a1:LL) (o c d a p q:Int) (K:Int->oP R):oP R:= gb true (Q2 a1 d) [] fun e=>gb true (e[0]?) oF fun f=>gb true (pIw f) 0 fun g=>gb true (Q2 a1 c) [] fun h=>gb true (h[0]?) oF fun i=>gb true (pIw i) 0 fun j=>gb true (Pv n (wJ ((wJ (g-j))-a)) b some) 0 fun k=>K (wJ (a+k))

def ZZ (n:Nat) (h2 d:LL) (c e:Int) (f g:LL) (k0:Int->oP R) (k1:Int->Bool->oP R):Nat->Int->oP R
 | 0,_=>none
 | m+1,a=>bif decide (a<c) then gb true (Q2 d a) [] fun b=>gb true (b[0]?) oF fun i=>gb true (b[1]?) oF fun j=>gb true (b[2]?) oF fun k=>gb true (b[3]?) oF fun l=>gb true (b[4]?) oF fun h=>gb true (b[5]?) oF fun o=>gb true (pIw i) 0 fun p=>gb true (pIw j) 0 fun q=>gb true (pIw k) 0 fun r=>gb true (pIw l) 0 fun s=>gb true (pIw h) 0 fun t=>gb true (pIw o) 0 fun u=>gb true (Vb n e f g h2 p q r s t u some) 0 fun v=>gb true (pIw h) 0 fun x=>bif decide (v>x) then k0 a else ZZ n h2 d c e f g k0 k1 m (wJ (a+1)) else k1 a (decide (a<c))
def GE (n:Nat) (b:Int) (c a a1:LL) (K:Int->Bool->oP R):oP R:= gb true (G7 n b c a a1 some) false fun d=>bif !d then K 0 false else ZZ n a1 a (a.length:Int) b c a (fun e=>K e true) (fun f g=>K 0 false) n 0

def ZH (n:Nat)  (K:Bool->oP R):oP R:= gb true (RD n  Tu3) (0,[],[]) fun a=>gb true (GE n a.1 a.2.1 a.2.2 [[Q5 0],[Q5 7]] Tu2) (0,false) fun c=>gb true (RD n  Tu3) (0,[],[]) fun d=>gb true (Je n d.1 d.2.1 d.2.2 some) false fun e=>K (bif e then c.2 else false)

def Tq (n:Nat) (a0 a1 a2:Int) (K:Bool->oP R):oP R:= K (bif decide (a0>=a1) then (decide (a0<=a2)) else false)

def Ul (n:Nat) (j:Int) (l k:LL) (k0:oP R) (k1:Int->Bool->oP R):Nat->Int->oP R
 | 0,_=>none
 | m+1,h2=>bif (decide (h2<(k.length:Int))) then gb true (Q2 k h2) [] fun g=>gb true (g[0]?) oF fun aa=>gb true (g[1]?) oF fun s=>gb true (g[2]?) oF fun t=>gb true (g[3]?) oF fun o=>gb true (g[4]?) oF fun p=>gb true (g[5]?) oF fun u=>gb true (pIw s) 0 fun v=>gb true (Tq n v 0 (wJ ((l.length:Int)-1)) some) false fun a=>gb (!(!a)) (pIw t) 0 fun x=>gb (!(!a)) (Tq n x 0 (wJ ((l.length:Int)-1)) some) false fun b=>gb (!(bif !a then true else (!b))) (pIw s) 0 fun c=>gb (!(bif !a then true else (!b))) (pIw t) 0 fun d=>gb (!(bif (bif !a then true else (!b)) then true else (c == d))) (pIw o) 0 fun e=>gb (!(bif (bif (bif !a then true else (!b)) then true else (c == d)) then true else (decide (e<(-65536:Int))))) (pIw p) 0 fun f=>gb (!(bif (bif (bif (bif !a then true else (!b)) then true else (c == d)) then true else (decide (e<(-65536:Int)))) then true else (decide (f>65536)))) (pIw o) 0 fun h=>gb (!(bif (bif (bif (bif !a then true else (!b)) then true else (c == d)) then true else (decide (e<(-65536:Int)))) then true else (decide (f>65536)))) (pIw p) 0 fun i=>gb (!(bif (bif (bif (bif (bif !a then true else (!b)) then true else (c == d)) then true else (decide (e<(-65536:Int)))) then true else (decide (f>65536))) then true else (decide (h>i)))) (pIw p) 0 fun q=>gb (!(bif (bif (bif (bif (bif !a then true else (!b)) then true else (c == d)) then true else (decide (e<(-65536:Int)))) then true else (decide (f>65536))) then true else (decide (h>i)))) (pIw o) 0 fun r=>gb (!(bif (bif (bif (bif (bif (bif !a then true else (!b)) then true else (c == d)) then true else (decide (e<(-65536:Int)))) then true else (decide (f>65536))) then true else (decide (h>i))) then true else (decide ((wJ (q-r))>=j)))) (pIw u) 0 fun y=>gb (!(bif (bif (bif (bif (bif (bif !a then true else (!b)) then true else (c == d)) then true else (decide (e<(-65536:Int)))) then true else (decide (f>65536))) then true else (decide (h>i))) then true else (decide ((wJ (q-r))>=j)))) (Tq n y 0 1048576 some) false fun z=>bif (bif (bif (bif (bif (bif (bif (bif !a then true else (!b)) then true else (c == d)) then true else (decide (e<(-65536:Int)))) then true else (decide (f>65536))) then true else (decide (h>i))) then true else (decide ((wJ (q-r))>=j))) then true else (!z)) then k0 else Ul n j l k k0 k1 m (wJ (h2+1)) else k1 h2 (decide (h2<(k.length:Int)))
def K6 (n:Nat) (a:Int) (b c:LL) (K:Bool->oP R):oP R:= gb true (Tq n a 2 7200 some) false fun d=>bif (bif (bif !d then true else (decide ((b.length:Int)>48))) then true else (decide ((c.length:Int)>512))) then K false else Ul n a b c (K false) (fun e f=>K true) n 0

end Go.Vx
namespace Go.Vx
end Go.Vx
namespace Go.Vx
variable {R:Type}
def UL (n:Nat) (c e:Int) (k0:Int->Bool->LL->LL->Int->oP R):Nat->Int->LL->LL->Int->oP R
 | 0,_,_,_,_=>none
 | m+1,a,b,f,g=>bif decide (a<c) then gb true (Q4 n f g e Tu3) (0,[],0) fun d=>gb true (inB (b.length) a) () fun l=>gb true (b[a.toNat]?) [] fun k=>UL n c e k0 m (wJ (a+1)) (List.set b a.toNat (List.set k 0 (Q5 d.1))) d.2.1 d.2.2 else k0 a (decide (a<c)) b f g
def HY (n:Nat) (c:Int) (a f a1:LL) (K:LL->oP R):oP R:= gb true (S4 n a1 Tu2) ([],0) fun b=>gb true (bif decide (0<=(a.length:Int))&&decide ((a.length:Int)<=(a.length:Int)) then some () else none) () fun g=>gb true (YD (Int.toNat (a.length:Int)*8)) () fun h=>UL n ((List.length (List.replicate (Int.toNat (a.length:Int)) [Q5 0]):Nat):Int) c (fun i j e k l=>K e) n 0 (List.replicate (Int.toNat (a.length:Int)) [Q5 0]) b.1 b.2
def WI (n:Nat) (d h2 e:Int) (g:LL) (k0:oP R) (k1:Int->Bool->oP R):Nat->Int->oP R
 | 0,_=>none
 | m+1,b=>bif decide (b<e) then gb true (Q2 g b) [] fun a=>gb true (a[0]?) oF fun h=>gb true (a[1]?) oF fun j=>gb true (a[2]?) oF fun k=>gb true (a[3]?) oF fun o=>gb true (a[4]?) oF fun p=>gb true (a[5]?) oF fun q=>gb true (pIw h) 0 fun c=>gb (!(c == 2)) (pIw h) 0 fun f=>gb (bif (c == 2) then true else (f == 4)) (pIw j) 0 fun i=>gb (bif (bif (c == 2) then true else (f == 4)) then (i == (wJ ((wJ (2*d))+1))) else false) (pIw k) 0 fun l=>bif (bif (bif (bif (c == 2) then true else (f == 4)) then (i == (wJ ((wJ (2*d))+1))) else false) then (l == (wJ (2*h2))) else false) then k0 else WI n d h2 e g k0 k1 m (wJ (b+1)) else k1 b (decide (b<e))
def Uz (n:Nat) (b:Int) (c a:LL) (a1 a2:Int) (K:Bool->oP R):oP R:= WI n a1 a2 (a.length:Int) a (K true) (fun d e=>K false) n 0

def Uh (n:Nat) (b:Int) (c d a1:LL) (K:Bool->oP R):oP R:= gb true (GE n b c d a1 Tu2) (0,false) fun a=>gb (!a.2) (G7 n b c d a1 some) false fun f=>K (bif (!a.2) then f else false)

def law11_NetworkHeadwaysSeparate (n:Nat) (a0 a1:LL) (a2 a3:Int) (K:Bool->oP R):oP R:= gb true (Nq n a0 Tu12) ([],[],[],[],0,[],[],[],[],[],[],[]) fun a=>gb true (Wl n a.1 a.2.1 a.2.2.1 a.2.2.2.1 a.2.2.2.2.1 a.2.2.2.2.2.1 a.2.2.2.2.2.2.1 a.2.2.2.2.2.2.2.1 a.2.2.2.2.2.2.2.2.1 a.2.2.2.2.2.2.2.2.2.1 a.2.2.2.2.2.2.2.2.2.2.1 a.2.2.2.2.2.2.2.2.2.2.2 Tu4) (0,[],[],0) fun b=>bif (b.2.2.2 != 0) then gb true (ZH n  some) false fun h=>K h else gb true (HY n b.1 b.2.1 b.2.2.1 a1 some) [] fun g=>gb true (JF n a.1 a.2.1 a.2.2.1 a.2.2.2.1 a.2.2.2.2.1 a.2.2.2.2.2.1 a.2.2.2.2.2.2.1 a.2.2.2.2.2.2.2.1 a.2.2.2.2.2.2.2.2.1 a.2.2.2.2.2.2.2.2.2.1 a.2.2.2.2.2.2.2.2.2.2.1 a.2.2.2.2.2.2.2.2.2.2.2 Tu3) ([],[],0) fun e=>gb (!((g.length:Int) != (wJ (2*(e.1.length:Int))))) (K6 n b.1 b.2.1 b.2.2.1 some) false fun j=>bif (bif ((g.length:Int) != (wJ (2*(e.1.length:Int)))) then true else (!j)) then K false else gb true (Ge n a2 (e.1.length:Int) some) 0 fun c=>gb true (Ge n a3 (e.1.length:Int) some) 0 fun d=>gb (!(c == d)) (Uz n b.1 b.2.1 b.2.2.1 c d some) false fun i=>gb (!(bif (c == d) then true else i)) (Uz n b.1 b.2.1 b.2.2.1 d c some) false fun k=>bif (bif (bif (c == d) then true else i) then true else k) then gb true (ZH n  some) false fun l=>K l else gb true (Q2 e.1 c) [] fun o=>gb true (o[0]?) oF fun p=>gb true (pSl 3 p) [] fun q=>gb true (Q2 e.1 d) [] fun r=>gb true (r[0]?) oF fun s=>gb true (pSl 3 s) [] fun t=>gb true (V1 n a.2.2.2.2.1 q t Tu2) ([],0) fun u=>gb true (Q2 g (wJ (2*d))) [] fun v=>gb true (v[0]?) oF fun x=>gb true (pIw x) 0 fun y=>gb true (Q2 g (wJ (2*c))) [] fun z=>gb true (z[0]?) oF fun aa=>gb true (pIw aa) 0 fun ab=>gb true (NC n a.2.2.2.2.1 u.1 (wJ (y-ab)) some) false fun ac=>bif !ac then gb true (ZH n  some) false fun ad=>K ad else gb true (ZH n  some) false fun m=>gb m (Uh n b.1 b.2.1 b.2.2.1 g some) false fun ae=>K (bif m then (!ae) else false)

end Go.Vx
namespace Go.Vx

abbrev Ac:=Int × Int × Int × Int × Int × Int
def Mb (q:Ac):List D:=[Q5 q.1,Q5 q.2.1,Q5 q.2.2.1,Q5 q.2.2.2.1,Q5 q.2.2.2.2.1,Q5 q.2.2.2.2.2]
structure AcOK (per:Int) (N:Nat) (q:Ac):Prop where
 f0:0<=q.2.1
 f1:q.2.1<N
 t0:0<=q.2.2.1
 t1:q.2.2.1<N
 ft:q.2.1≠q.2.2.1
 m0:0<=q.2.2.2.1
 m1:q.2.2.2.1<=q.2.2.2.2.1
 m2:q.2.2.2.2.1<q.2.2.2.1+per
 m3:q.2.2.2.2.1<=10000
 w0:0<=q.2.2.2.2.2
 w1:q.2.2.2.2.2<=10
theorem Q4Q {P:Ac->Prop}:∀ {A:LL},(∀ r∈A,∃ q,r=Mb q/\P q)->∃ L:List Ac,A=L.map Mb/\∀ q∈L,P q
 |[],_=>⟨[],rfl,fun _ h=>(nomatch h)⟩
 |r::A,h=>by
  obtain ⟨q,rfl,hq⟩:=h r (.head _);obtain ⟨L,rfl,hL⟩:=Q4Q fun r hr=>h r (.tail _ hr)
  refine ⟨q::L,rfl,fun p hp=>?_⟩;cases hp with
  |head=>exact hq
  |tail _ hp=>exact hL p hp
section
variable {q:Ac}
theorem a0:(Mb q)[0]? = some (Q5 q.1):=rfl
theorem a1:(Mb q)[1]? = some (Q5 q.2.1):=rfl
theorem a2:(Mb q)[2]? = some (Q5 q.2.2.1):=rfl
theorem a3:(Mb q)[3]? = some (Q5 q.2.2.2.1):=rfl
theorem a4:(Mb q)[4]? = some (Q5 q.2.2.2.2.1):=rfl
theorem a5:(Mb q)[5]? = some (Q5 q.2.2.2.2.2):=rfl
end
section
variable {R:Type} {n:Nat} {per:Int} (p0:2<=per) (p1:per<=300) {E:LL} (hE:E.length<=48) {L:List Ac} (hL:L.length<=300) (hq:∀ q∈L,AcOK per E.length q)
include p0 p1 hE hL hq
theorem Q9K:K6 400 per E (L.map Mb) (some:Bool->Option Bool)=some true:=by
 have ak:∀ {x lo hi:Int},lo<=x->x<=hi->Tq 400 x lo hi (some:Bool->Option Bool)=some true:=fun a b=>by
  unfold Tq;rw [QeE a,QeE b];rfl
 unfold K6;rw [ak p0 (show per<=7200 by omega),Q0,List.length_map,show decide (((E.length:Nat):Int)>48)=false from decide_eq_false (by omega),show decide (((L.length:Nat):Int)>512)=false from decide_eq_false (by omega),Q8 (by rfl)];refine QR (r:=fun m j=>Ul 400 per E (L.map Mb) (some false) (fun _ _=>some true) m j) (N:=L.length) (fun m j hj=>?_) (fun m=>?_) L.length 400 0 (by omega) (by omega)
 ·obtain ⟨q,e⟩:∃ q,L[j]? = some q:=⟨L[j],QeB hj⟩;obtain ⟨f0,f1,t0,t1,ft,m0,m1,m2,m3,w0,w1⟩:=hq q (Qez e);have hw:wJ (((E.length:Nat):Int)-1)=((E.length-1:Nat):Int):=Vi (by omega) (by omega);rw [Ul,List.length_map,Qk hj,cond_true,QT e,hw];simp -implicitDefEqProofs only [Q0,a0,a1,a2,a3,a4,a5,Q1,Xa (show j<=1000 by omega),ak f0 (show q.2.1<=((E.length-1:Nat):Int) by omega),ak t0 (show q.2.2.1<=((E.length-1:Nat):Int) by omega),ak w0 (show q.2.2.2.2.2<=1048576 by omega),QeL,Qey,show (q.2.1 == q.2.2.1)=false by simpa using ft,show decide (q.2.2.2.1 < -65536)=false from decide_eq_false (by omega),show decide (q.2.2.2.2.1>65536)=false from decide_eq_false (by omega),show decide (q.2.2.2.1>q.2.2.2.2.1)=false from decide_eq_false (by omega),Qf (x:=q.2.2.2.2.1-q.2.2.2.1) (by omega) (by omega),show decide (q.2.2.2.2.1-q.2.2.2.1>=per)=false from decide_eq_false (by omega)]
 ·rw [Ul,List.length_map,Xb,Qey]
theorem Qax:Je 400 per E (L.map Mb) (some:Bool->Option Bool)=some true:=by
 unfold Je;rw [List.length_map,show decide (per<2)=false from decide_eq_false (by omega),show decide (per>7200)=false from decide_eq_false (by omega),show decide (((E.length:Nat):Int)>48)=false from decide_eq_false (by omega),show decide (((L.length:Nat):Int)>512)=false from decide_eq_false (by omega),Q8 (by rfl)];refine QR (r:=fun m j=>ZX 400 (L.map Mb) ((L.length:Nat):Int) per E (L.map Mb) (some false) (fun _ _=>some true) m j) (N:=L.length) (fun m j hj=>?_) (fun m=>?_) L.length 400 0 (by omega) (by omega)
 ·obtain ⟨q,e⟩:∃ q,L[j]? = some q:=⟨L[j],QeB hj⟩;obtain ⟨f0,f1,t0,t1,ft,m0,m1,m2,m3,w0,w1⟩:=hq q (Qez e);rw [ZX,Qk hj,cond_true,QT e];unfold VJ;simp -implicitDefEqProofs only [Q0,a0,a1,a2,a3,a4,a5,Q1,Xa (show j<=1000 by omega),show decide (q.2.1>=0)=true from QeE f0,show decide (q.2.2.1>=0)=true from QeE t0,show decide (q.2.1<((E.length:Nat):Int))=true from QeE f1,show decide (q.2.2.1<((E.length:Nat):Int))=true from QeE t1,cond_true,QeL,Qey,show (q.2.1 == q.2.2.1)=false by simpa using ft,show decide (q.2.2.2.1 < -65536)=false from decide_eq_false (by omega),show decide (q.2.2.2.2.1>65536)=false from decide_eq_false (by omega),show decide (q.2.2.2.1>q.2.2.2.2.1)=false from decide_eq_false (by omega),Qf (x:=q.2.2.2.2.1-q.2.2.2.1) (by omega) (by omega),show decide (q.2.2.2.2.1-q.2.2.2.1>=per)=false from decide_eq_false (by omega),show decide (q.2.2.2.2.2<0)=false from decide_eq_false (by omega),show decide (q.2.2.2.2.2>1048576)=false from decide_eq_false (by omega)]
 ·rw [ZX,Xb,Qey]
theorem Qc1 {T:List Int} (hT:T.length=E.length) (ht:∀ x∈T,0<=x/\x<per):G7 400 per E (L.map Mb) (encI T) (some:Bool->Option Bool)=some true:=by
 unfold G7;rw [Qax p0 p1 hE hL hq,Q0,Vj,hT,show (((E.length:Nat):Int) != ((E.length:Nat):Int))=false by simp,Q8 (by rfl)];refine QR (r:=fun m j=>WR 400 (encI T) ((E.length:Nat):Int) per (some false) (fun _ _=>some true) m j) (N:=E.length) (fun m j hj=>?_) (fun m=>?_) E.length 400 0 (by omega) (by omega)
 ·obtain ⟨x,e⟩:∃ q,T[j]? = some q:=⟨T[j],QeB (by omega)⟩;have:=ht x (Qez e);rw [WR,Qk hj,cond_true,No e];simp -implicitDefEqProofs only [Q0,Qex,Q1,show decide (x<0)=false from decide_eq_false (by omega),show decide (x>=per)=false from decide_eq_false (by omega),Qey,Xa (show j<=1000 by omega)]
 ·rw [WR,Xb,Qey]
end
def dur (per:Int) (T:List Int) (q:Ac):Int:=q.2.2.2.1+(T.getD q.2.2.1.toNat 0-T.getD q.2.1.toNat 0-q.2.2.2.1) % per
section
variable {R:Type} {n:Nat} {per:Int} (p0:2<=per) (p1:per<=300) {E:LL} (hE:E.length<=48) {L:List Ac} (hL:L.length<=300) (hq:∀ q∈L,AcOK per E.length q) {T:List Int} (hT:T.length=E.length) (ht:∀ x∈T,0<=x/\x<per)
theorem BQ (hT:T.length=E.length) {x:Int} (a:0<=x) (b:x<E.length):Q2 (encI T) x=some [Q5 (T.getD x.toNat 0)]/\T.getD x.toNat 0∈T:=by
 obtain ⟨k,rfl⟩:∃ k:Nat,x=k:=⟨x.toNat,by omega⟩;have e:=QeB (l:=T) (i:=k) (by omega);rw [Int.toNat_natCast,List.getD_eq_getElem?_getD,e,Option.getD_some];exact ⟨No e,List.getElem_mem _⟩
include p0 p1 hT ht in
theorem Qcz {q:Ac} (h:AcOK per E.length q) {A:LL} (K:Int->oP R):Vb n per E A (encI T) q.1 q.2.1 q.2.2.1 q.2.2.2.1 q.2.2.2.2.1 q.2.2.2.2.2 K=K (dur per T q):=by
 obtain ⟨f0,f1,t0,t1,ft,m0,m1,m2,m3,w0,w1⟩:=h;obtain ⟨e1,e2⟩:=BQ hT t0 t1;obtain ⟨g1,b⟩:=BQ hT f0 f1;have a:=ht _ e2;have h2:=ht _ b;unfold Vb dur;rw [e1,g1];simp -implicitDefEqProofs only [Q0,Qex,Q1];revert a h2;generalize T.getD q.2.2.1.toNat 0=x;generalize T.getD q.2.1.toNat 0=y;intro a h2;have c:=QeO (x-y-q.2.2.2.1) (show per≠0 by omega);have d:=QeP (x-y-q.2.2.2.1) (show 0<per by omega);rw [Qf (x:=x-y) (by omega) (by omega),Qf (x:=x-y-q.2.2.2.1) (by omega) (by omega),Qbp (by omega) (by omega) (by omega) (by omega),Q0,Qf (by omega) (by omega)]
include p0 p1 hE hL hq hT ht
theorem Q2K:∀ (ak:List Ac) (j m:Nat),L.drop j=ak->ak.length<m->∃ i b,ZZ 400 (encI T) (L.map Mb) ((L.length:Nat):Int) per E (L.map Mb) (fun a=>(some (a,true):Option (Int × Bool))) (fun _ _=>some (0,false)) m (j:Int)=some (i,b)/\(b=true↔∃ q∈ak,q.2.2.2.2.1<dur per T q)
 |[],j,m+1,hd,_=>by
  have _:=hE;have:=Y7 hd;refine ⟨0,false,?_,fun h=>(nomatch h),fun ⟨_,h,_⟩=>(nomatch h)⟩;rw [ZZ,show decide ((j:Int)<((L.length:Nat):Int))=false by simpa using this,Qey]
 |q::ak,j,m+1,hd,hm=>by
  obtain ⟨e,an,hj⟩:=XG hd;obtain ⟨i,b,c,h2⟩:=Q2K ak (j+1) m an (by simpa using hm);rw [ZZ,Qk hj,cond_true,QT e];simp -implicitDefEqProofs only [Q0,a0,a1,a2,a3,a4,a5,Q1,Xa (show j<=1000 by omega),Qcz (n:=400) p0 p1 hT ht (hq q (Qez e))];by_cases hv:q.2.2.2.2.1<dur per T q
  ·rw [show decide (dur per T q>q.2.2.2.2.1)=true from QeE hv,cond_true];exact ⟨_,true,rfl,fun _=>⟨q,.head _,hv⟩,fun _=>rfl⟩
  ·rw [show decide (dur per T q>q.2.2.2.2.1)=false from decide_eq_false hv,Qey];refine ⟨i,b,c,h2.trans ⟨fun ⟨p,hp,h⟩=>⟨p,.tail _ hp,h⟩,?_⟩⟩;rintro ⟨p,hp,h⟩;cases hp with
   |head=>exact (hv h).elim
   |tail _ hp=>exact ⟨p,hp,h⟩
theorem Qbf:∃ b,Uh 400 per E (L.map Mb) (encI T) (some:Bool->Option Bool)=some b/\((∃ q∈L,q.2.2.2.2.1<dur per T q)->b=false):=by
 obtain ⟨i,b,a,h2⟩:=Q2K p0 p1 hE hL hq hT ht L 0 400 rfl (by omega);have hg:=Qc1 p0 p1 hE hL hq hT ht;refine ⟨!b,?_,fun h=>by rw [h2.2 h];rfl⟩;unfold Uh GE;rw [hg,Q0,QeL,Qey,List.length_map,show ((0:Nat):Int)=0 from rfl] at *
 rw [show (0:Int)=0 from rfl,a,Q0,Q0];cases b <;> rfl
end
section
variable {per:Int} {E:LL} {L:List Ac} (hL:L.length<=300)
include hL
theorem Q0f {a b:Nat} (ha:a<=1000) (hb:b<=1000):∀ (am:List Ac) (j m:Nat),L.drop j=am->am.length<m->∃ z,WI 400 (a:Int) (b:Int) ((L.length:Nat):Int) (L.map Mb) (some true) (fun _ _=>some false) m (j:Int)=some z/\(z=true↔∃ q∈am,(q.1=2\/q.1=4)/\q.2.1=2*a+1/\q.2.2.1=2*b)
 |[],j,m+1,hd,_=>by
  have:=Y7 hd;refine ⟨false,?_,fun h=>(nomatch h),fun ⟨_,h,_⟩=>(nomatch h)⟩;rw [WI,show decide ((j:Int)<((L.length:Nat):Int))=false by simpa using this,Qey]
 |q::am,j,m+1,hd,hm=>by
  obtain ⟨e,an,hj⟩:=XG hd;obtain ⟨z,c,h2⟩:=Q0f ha hb am (j+1) m an (by simpa using hm);rw [WI,Qk hj,cond_true,QT e];simp -implicitDefEqProofs only [Q0,a0,a1,a2,a3,a4,a5,Q1,Xa (show j<=1000 by omega),Qf (x:=2*(a:Int)) (by omega) (by omega),Qf (x:=2*(a:Int)+1) (by omega) (by omega),Qf (x:=2*(b:Int)) (by omega) (by omega)];by_cases hc:(q.1=2\/q.1=4)/\q.2.1=2*a+1/\q.2.2.1=2*b
  ·have ak:(bif bif bif q.1 == 2 then true else q.1 == 4 then q.2.1 == 2*(a:Int)+1 else false then q.2.2.1 == 2*(b:Int) else false)=true:=by
    obtain ⟨g1 | g1,d,f⟩:=hc <;> simp [g1,d,f]
   rw [ak,cond_true];exact ⟨true,rfl,fun _=>⟨q,.head _,hc⟩,fun _=>rfl⟩
  ·have ak:(bif bif bif q.1 == 2 then true else q.1 == 4 then q.2.1 == 2*(a:Int)+1 else false then q.2.2.1 == 2*(b:Int) else false)=false:=by
    cases hz:(bif bif bif q.1 == 2 then true else q.1 == 4 then q.2.1 == 2*(a:Int)+1 else false then q.2.2.1 == 2*(b:Int) else false) with
    |false=>rfl
    |true=>
     refine (hc ?_).elim;simp only [Bool.cond_eq_ite,Bool.if_true_left,Bool.if_false_right,QeH,Bool.or_eq_true,beq_iff_eq,decide_eq_true_eq] at hz;simpa [and_assoc] using hz
   rw [ak,Qey];refine ⟨z,c,h2.trans ⟨fun ⟨p,hp,h⟩=>⟨p,.tail _ hp,h⟩,?_⟩⟩;rintro ⟨p,hp,h⟩;cases hp with
   |head=>exact (hc h).elim
   |tail _ hp=>exact ⟨p,hp,h⟩
theorem Q54 {a b:Nat} (ha:a<=1000) (hb:b<=1000):∃ z,Uz 400 per E (L.map Mb) (a:Int) (b:Int) (some:Bool->Option Bool)=some z/\(z=true↔∃ q∈L,(q.1=2\/q.1=4)/\q.2.1=2*a+1/\q.2.2.1=2*b):=by
 unfold Uz;rw [List.length_map];exact Q0f hL ha hb L 0 400 rfl (by omega)
end
theorem Q7l:ZH 400 (some:Bool->Option Bool)=some true:=by kernel_rfl
theorem Q2A {R:Type} {l:List Int} (hl:l.length<=9223372036854775807) {per:Int} (p0:2<=per) (p1:per<=300) {N:Nat} (hN:N<=100) {K:LL->oP R} {k0:Int->Bool->LL->LL->Int->oP R} (hk:∀ a b w x y,k0 a b w x y=K w):∀ (c m i j:Nat) (T:List Int),i+c=N->c<m->T.length=N->(∀ x∈T,0<=x/\x<per)->j<=l.length->∃ T':List Int,UL 400 ((N:Nat):Int) per k0 m (i:Int) (encI T) (encI l) (j:Int)=K (encI T')/\T'.length=N/\∀ x∈T',0<=x/\x<per
 |0,m+1,i,j,T,hi,_,hT,ht,_=>by
  refine ⟨T,?_,hT,ht⟩;rw [UL,show decide ((i:Int)<((N:Nat):Int))=false from decide_eq_false (by omega),Qey,hk]
 |c+1,m+1,i,j,T,hi,hm,hT,ht,hj=>by
  obtain ⟨v,j',d,f,ak,hv⟩:=Q5C 400 hl hj (m:=per) (by omega) (by omega);have e:(encI T)[i]? = some [Q5 T[i]]:=by simp [encI]
  obtain ⟨T',g,h2⟩:=Q2A hl p0 p1 hN hk c m (i+1) j' (T.set i v) (by omega) (by omega) (by simpa using hT) (fun x hx=>by
   rcases List.mem_or_eq_of_mem_set hx with h | h
   ·exact ht x h
   ·rw [h];exact ⟨d,f⟩) ak
  refine ⟨T',?_,h2⟩;rw [UL,Qk (show i<N by omega),cond_true,hv,Q0,Vj,ZG (by omega) (by omega),Q0,Int.toNat_natCast,e,Q0,Xa (by omega),<- g];congr 1;simp [encI,List.map_set]
theorem Qa2 {l:List Int} (hl:l.length<=9223372036854775807) {per:Int} (p0:2<=per) (p1:per<=300) {E A:LL} (hE:E.length<=48):∃ T:List Int,HY 400 per E A (encI l) (some:LL->Option LL)=some (encI T)/\T.length=E.length/\∀ x∈T,0<=x/\x<per:=by
 obtain ⟨T,a,h2⟩:=Q2A hl p0 p1 (N:=E.length) (by omega) (K:=(some:LL->Option LL)) (k0:=fun _ _ w _ _=>some w) (fun _ _ _ _ _=>rfl) E.length 400 0 0 (List.replicate E.length 0) (by omega) (by omega) (by simp) (fun x hx=>by rw [List.eq_of_mem_replicate hx];omega) (by omega);refine ⟨T,?_,h2⟩;unfold HY S4;rw [Q0];rw [show (bif decide ((0:Int)<=((E.length:Nat):Int))&&decide (((E.length:Nat):Int)<=((E.length:Nat):Int)) then some () else none)=some () by rw [QJ (by simp)],Q0,Int.toNat_natCast,XR (by omega),Q0,List.length_replicate];rw [show List.replicate E.length [D.int .i64 (0:Int)]=encI (List.replicate E.length 0) by simp [encI]];exact a

theorem OL.uniq:∀ {l:Int} {O:List Occ},OL l O->∀ {p q:Occ},p∈O->q∈O->p.1=q.1->p=q
 |_,[],_,_,_,h,_,_=>nomatch h
 |l,(x,a,b)::r,⟨d,h2,f,g,i,c⟩,p,q,hp,hq,e=>by
  cases hp with
  |head=>
   cases hq with
   |head=>rfl
   |tail _ hq=>have:=(c.mem q hq).1;dsimp only at e;omega
  |tail _ hp=>
   cases hq with
   |head=>have:=(c.mem p hp).1;dsimp only at e;omega
   |tail _ hq=>exact c.uniq hp hq e
theorem Q7N {t:Int} {A A' B:List Occ} {y:Int}:FB t (A++A') B y↔FB t A B y\/FB t A' B y:=by
 constructor
 ·rintro ⟨x,a,b,c,d,e,h2,f⟩;rcases QeA.1 e with e | e
  ·exact .inl ⟨x,a,b,c,d,e,h2,f⟩
  ·exact .inr ⟨x,a,b,c,d,e,h2,f⟩
 ·rintro (⟨x,a,b,c,d,e,h2,f⟩ | ⟨x,a,b,c,d,e,h2,f⟩)
  ·exact ⟨x,a,b,c,d,List.mem_append_left _ e,h2,f⟩
  ·exact ⟨x,a,b,c,d,List.mem_append_right _ e,h2,f⟩
def DM (f:Nat->Bool) (n:Nat):LL:=(List.range n).map fun i=>[D.bool (f i)]
theorem E1 {f:Nat->Bool} {n:Nat}:(DM f n).length=n:=by simp [DM]
theorem A4 {f:Nat->Bool} {n i:Nat} (h:i<n):(DM f n)[i]? = some [D.bool (f i)]:=by simp [DM,h]
theorem Q6K {f g:Nat->Bool} {n i:Nat} (h:∀ y,y<n->g y=if y=i then true else f y):(DM f n).set i [D.bool true]=DM g n:=by
 apply List.ext_getElem?;intro j;rw [QeQ,E1];by_cases hj:j<n
 ·rw [A4 hj,A4 hj,h j hj];by_cases ak:i=j
  ·subst ak;rw [if_pos rfl,if_pos hj,if_pos rfl]
  ·rw [if_neg ak,if_neg (fun e=>ak e.symm)]
 ·rw [List.getElem?_eq_none (by rw [E1];omega),List.getElem?_eq_none (by rw [E1];omega)];by_cases ak:i=j
  ·subst ak;rw [if_pos rfl,if_neg hj]
  ·rw [if_neg ak]
section
variable {R:Type} {n:Nat} {t:Int}
theorem Q2G {O:List Occ} (hl:O.length<=1000) {k0:oP R} {k1:Int->Bool->oP R} {E:oP R} (hk:∀ b c,k1 b c=E):∀ (ak:List Occ) (i m:Nat) (last:Int),O.drop i=ak->ak.length<m -> -1<=last->OL last ak->(0<i->∃ a b,O[i-1]? = some (last,a,b))->Yq n (O.map enc) k0 k1 m (i:Int)=E
 |[],i,m+1,last,hd,_,_,_,_=>by
  have:=Y7 hd;rw [Yq,List.length_map,show decide ((i:Int)<((O.length:Nat):Int))=false by simpa using this,Qey,hk]
 |(x,a,b)::ak,i,m+1,last,hd,hm,ao,⟨g,h2,h,j,k,d⟩,hp=>by
  obtain ⟨e,am,hi⟩:=XG hd;have ih:=Q2G (k0:=k0) hl hk ak (i+1) m x am (by simpa using hm) (by omega) d (fun _=>⟨a,b,e⟩);rw [Yq,List.length_map,Qk hi,cond_true,QT e];simp -implicitDefEqProofs only [Q0,Fv,Fy,D9,Q1,show decide (x<0)=false from decide_eq_false (by omega),Bool.not_false,Bool.true_and,Qey,Xa (show i<=1000 by omega)];have rest:∀ z:Bool,z=false->(bif bif bif bif z then true else decide (a<(-65536:Int)) then true else decide (b>(65536:Int)) then true else decide (a>=b) then k0 else Yq n (O.map enc) k0 k1 m ((i+1:Nat):Int))=E:=fun z hz=>by
   rw [hz,show decide (a < -65536)=false from decide_eq_false (by omega),show decide (b>65536)=false from decide_eq_false (by omega),show decide (a>=b)=false from decide_eq_false (by omega)];exact ih
  by_cases f:i=0
  ·subst f;simp -implicitDefEqProofs only [show decide (((0:Nat):Int)>0)=false from rfl,gbF,Qey];exact rest false rfl
  ·obtain ⟨a',b',e'⟩:=hp (by omega);rw [Vi (show i<=1000 by omega) (by omega),QT e'];simp -implicitDefEqProofs only [Q0,Fv,Q1,show decide ((i:Int)>0)=true from QeE (by omega),cond_true];exact rest _ (decide_eq_false (by omega))
theorem Q7J {O:List Occ} (hl:O.length<=300) (h:OL (-1) O):V8 400 (O.map enc) (some:Bool->Option Bool)=some true:=by
 unfold V8;exact Q2G (by omega) (fun _ _=>rfl) O 0 400 (-1) rfl (by omega) (by omega) h (fun h=>by omega)
theorem Q53 {O:List Occ} (hl:O.length<=1000) {x:Int} {K:D->D->D->Bool->oP R} {k0:D->D->D->oP R} {k1:Int->Bool->oP R} (g:∀ a b c,k0 a b c=K a b c true) (h:∀ a b,k1 a b=K (Q5 0) (Q5 0) (Q5 0) false):∀ (ak:List Occ) (i m:Nat),O.drop i=ak->ak.length<m->(∃ c d,(x,c,d)∈ak/\Wj n (O.map enc) x k0 k1 m (i:Int)=K (Q5 x) (Q5 c) (Q5 d) true)\/((∀ p∈ak,p.1≠x)/\Wj n (O.map enc) x k0 k1 m (i:Int)=K (Q5 0) (Q5 0) (Q5 0) false)
 |[],i,m+1,hd,_=>by
  have:=Y7 hd;refine .inr ⟨fun p hp=>(nomatch hp),?_⟩;rw [Wj,List.length_map,show decide ((i:Int)<((O.length:Nat):Int))=false by simpa using this,Qey,h]
 |(x',a,b)::ak,i,m+1,hd,hm=>by
  obtain ⟨e,am,hi⟩:=XG hd;rw [Wj,List.length_map,Qk hi,cond_true,QT e];simp -implicitDefEqProofs only [Q0,Fv,Fy,D9,Q1,Xa (show i<=1000 by omega),g];by_cases hx:x'=x
  ·subst hx;exact .inl ⟨a,b,.head _,by rw [show (x' == x')=true by simp,cond_true]⟩
  ·rw [show (x' == x)=false by simpa using hx,Qey];rcases Q53 hl g h ak (i+1) m am (by simpa using hm) with ⟨c,d,f,h2⟩ | ⟨f,h2⟩
   ·exact .inl ⟨c,d,.tail _ f,h2⟩
   ·refine .inr ⟨fun p hp=>?_,h2⟩;cases hp with
    |head=>exact hx
    |tail _ hp=>exact f p hp
theorem Qa3 {f k y:Int} (a:1<=t) (hy:0<=y) (ak:y<t) (hk:0<=k) (am:k<t):y=(f+k) % t↔(y-f) % t=k:=by
 constructor
 ·intro h;rw [h,Int.sub_emod,Int.emod_emod,<- Int.sub_emod,show f+k-f=k by omega];exact Int.emod_eq_of_lt hk am
 ·intro h;rw [<- h,Int.add_emod,Int.emod_emod,<- Int.add_emod,show f+(y-f)=y by omega];exact (Int.emod_eq_of_lt hy ak).symm
theorem Q90 (c:1<=t) (o:t<=300) {K:LL->oP R} {k0:Int->Bool->LL->oP R} (hk:∀ a b w,k0 a b w=K w) {A:List Occ} {i:Nat} {x a b d nn:Int} (e:A[i]? = some (x,a,b)) (ha : -1000<=a) (au:a<=20000) (hd : -1000<=d) (ar:d<=20000) {f:Nat->Bool} :
  ∃ g:Nat->Bool,YA n t (A.map enc) (i:Int) nn (Q5 d) k0 400 0 (DM f t.toNat)=K (DM g t.toNat)/\∀ y,y<t.toNat->(g y=true↔f y=true\/((y:Int)-(a-d+1)) % t<nn):=by
 let N:Nat:=(if nn<t then nn else t).toNat;have hN:(N:Int)=if nn<0 then 0 else if nn<t then nn else t:=by
  show (((if nn<t then nn else t).toNat:Nat):Int)=_;split <;> split <;> omega
 have am:(N:Int)<=t:=by rw [hN];split <;> (try split) <;> omega
 have aq:(N:Int)<=nn\/N=0:=by
  by_cases h:nn<0
  ·rw [if_pos h] at hN;right;omega
  ·rw [if_neg h] at hN;left;rw [hN];split <;> omega
 refine ⟨fun y=>f y||decide (((y:Int)-(a-d+1)) % t<(N:Int)),?_,fun y hy=>?_⟩
 ·have j:DM f t.toNat=DM (fun y=>f y||decide (((y:Int)-(a-d+1)) % t<((0:Nat):Int))) t.toNat:=by
   unfold DM;apply List.map_congr_left;intro y _;have:=QeO ((y:Int)-(a-d+1)) (show t≠0 by omega);show [D.bool (f y)]=[D.bool (f y||decide (((y:Int)-(a-d+1)) % t<((0:Nat):Int)))];rw [show decide (((y:Int)-(a-d+1)) % t<((0:Nat):Int))=false from decide_eq_false (by omega),Bool.or_false]
  rw [j];refine QR (r:=fun m k=>YA n t (A.map enc) (i:Int) nn (Q5 d) k0 m k (DM (fun y=>f y||decide (((y:Int)-(a-d+1)) % t<k)) t.toNat)) (N:=N) (fun m k an=>?_) (fun m=>?_) N 400 0 (by omega) (by omega)
  ·have l:=QeO (a-d+1+(k:Int)) (show t≠0 by omega);have p:=QeP (a-d+1+(k:Int)) (show 0<t by omega);rw [YA,show decide ((k:Int)<nn)=true from QeE (by omega),show decide ((k:Int)<t)=true from QeE (by omega),cond_true,cond_true,QT e];simp -implicitDefEqProofs only [Q0,Fy,Q1,Qf (x:=a-d) (by omega) (by omega),Qf (x:=a-d+1) (by omega) (by omega),Qf (x:=a-d+1+(k:Int)) (by omega) (by omega),Qc6 (n:=n) (x:=a-d+1+(k:Int)) c (show t<=7200 by omega) (by omega) (by omega),E1,ZG (len:=t.toNat) l (by omega),A4 (f:=fun y=>f y||decide (((y:Int)-(a-d+1)) % t<(k:Int))) (n:=t.toNat) (i:=((a-d+1+(k:Int)) % t).toNat) (by omega),List.set_cons_zero];rw [Q6K (g:=fun y=>f y||decide (((y:Int)-(a-d+1)) % t<((k+1:Nat):Int))) (fun y hy=>?_),Qf (by omega) (by omega)]
   ·rfl
   ·have hd:=Qa3 (t:=t) (f:=a-d+1) (k:=k) (y:=y) c (by omega) (by omega) (by omega) (by omega);by_cases ak:y=((a-d+1+(k:Int)) % t).toNat
    ·rw [if_pos ak,show decide (((y:Int)-(a-d+1)) % t<((k+1:Nat):Int))=true from QeE (by have:=hd.1 (by omega);omega),Bool.or_true]
    ·rw [if_neg ak];congr 1;rw [decide_eq_decide];have:¬ ((y:Int)-(a-d+1)) % t=(k:Int):=fun h=>ak (by have:=hd.2 h;omega)
     omega
  ·rw [YA];rw [show (bif decide ((N:Int)<nn) then decide ((N:Int)<t) else false)=false by
    by_cases h:(N:Int)<nn
    ·rw [QeE h,cond_true];exact decide_eq_false (by rw [hN];split <;> (try split) <;> omega)
    ·rw [decide_eq_false h,Qey],Qey,hk]
 ·have q:=QeO ((y:Int)-(a-d+1)) (show t≠0 by omega);have s:=QeP ((y:Int)-(a-d+1)) (show 0<t by omega);rw [Bool.or_eq_true,decide_eq_true_eq];refine or_congr_right ?_;rw [hN];split <;> (try split) <;> omega
theorem Bp (l:1<=t) (o:t<=300) {K:LL->oP R} {k0:Int->Bool->LL->oP R} (hk:∀ a b w,k0 a b w=K w) {A B:List Occ} (hA:OL (-1) A) (hB:OL (-1) B) (lA:A.length<=100) (lB:B.length<=300):∀ (ak P:List Occ) (m:Nat) (f:Nat->Bool),A=P++ak->ak.length<m->(∀ y,y<t.toNat->(f y=true↔FB t P B y)) ->
  ∃ g:Nat->Bool,Xx 400 t (A.map enc) (B.map enc) k0 m ((P.length:Nat):Int) (DM f t.toNat)=K (DM g t.toNat)/\∀ y,y<t.toNat->(g y=true↔FB t A B y)
 |[],P,m+1,f,hP,_,hf=>by
  rw [List.append_nil] at hP;subst hP;refine ⟨f,?_,hf⟩;rw [Xx,List.length_map,Xb,Qey,hk]
 |(x,a,b)::ak,P,m+1,f,hP,hm,hf=>by
  have e:A[P.length]? = some (x,a,b):=by rw [hP,List.getElem?_append_right (QeK _),Nat.sub_self];rfl
  have hi:P.length<A.length:=by rw [hP];simp
  have hq:=hA.mem (x,a,b) (Qez e);dsimp only at hq;have an:A=(P++[(x,a,b)])++ak:=by rw [hP];simp
  have am:=Q53 (n:=400) (O:=B) (x:=x) (K:=fun i j k z=>(some (i,j,k,z):Option (D × D × D × Bool))) (k0:=fun i j k=>some (i,j,k,true)) (k1:=fun _ _=>some (Q5 0,Q5 0,Q5 0,false)) (by omega) (fun _ _ _=>rfl) (fun _ _=>rfl) B 0 400 rfl (by omega);rw [Xx,List.length_map,Qk hi,cond_true,QT e];simp -implicitDefEqProofs only [Q0,Fv,Fy,D9,Q1];unfold EY;have nx:wJ ((P.length:Int)+1)=(((P++[(x,a,b)]).length:Nat):Int):=by rw [Qf (by omega) (by omega)];simp
  rw [nx];rcases am with ⟨c,d,g1,p⟩ | ⟨g1,p⟩
  ·have q:=hB.mem (x,c,d) g1;dsimp only at q;rw [show Wj 400 (B.map enc) x (fun i j k=>(some (i,j,k,true):Option (D × D × D × Bool))) (fun r s=>some (D.int .i64 (0:Int),D.int .i64 (0:Int),D.int .i64 (0:Int),false)) 400 0=some (Q5 x,Q5 c,Q5 d,true) from p];simp -implicitDefEqProofs only [Q0,QeL,Qey,Q1];have ar:wJ (wJ (wJ (wJ (b-a)+d)-c)-1)=b-a+d-c-1:=by
    rw [Qf (x:=b-a) (by omega) (by omega),Qf (x:=b-a+d) (by omega) (by omega),Qf (x:=b-a+d-c) (by omega) (by omega),Qf (by omega) (by omega)]
   rw [ar];obtain ⟨g,k1,u⟩:=Q90 (n:=400) (nn:=b-a+d-c-1) l o (K:=fun w=>Xx 400 t (A.map enc) (B.map enc) k0 m (((P++[(x,a,b)]).length:Nat):Int) w) (k0:=fun _ _ w=>Xx 400 t (A.map enc) (B.map enc) k0 m (((P++[(x,a,b)]).length:Nat):Int) w) (fun _ _ _=>rfl) (f:=f) e (d:=d) (by omega) (by omega) (by omega) (by omega);rw [k1];refine Bp l o hk hA hB lA lB ak _ m g an (by simpa using hm) (fun y hy=>?_);rw [u y hy,Q7N,hf y hy];refine or_congr_right ⟨fun h=>⟨x,a,b,c,d,.head _,g1,h⟩,?_⟩;rintro ⟨x',a',b',c',d',q1,q2,q3⟩;cases q1 with
   |head=>
    cases hB.uniq q2 g1 rfl;exact q3
   |tail _ q1=>nomatch q1
  ·rw [show Wj 400 (B.map enc) x (fun i j k=>(some (i,j,k,true):Option (D × D × D × Bool))) (fun r s=>some (D.int .i64 (0:Int),D.int .i64 (0:Int),D.int .i64 (0:Int),false)) 400 0=some (Q5 0,Q5 0,Q5 0,false) from p];simp -implicitDefEqProofs only [Q0,Bool.not_false,cond_true];refine Bp l o hk hA hB lA lB ak _ m f an (by simpa using hm) (fun y hy=>?_);rw [Q7N,hf y hy];refine ⟨.inl,fun h=>h.elim id ?_⟩;rintro ⟨x',a',b',c',d',q1,q2,q3⟩;cases q1 with
   |head=>exact (g1 _ q2 rfl).elim
   |tail _ q1=>nomatch q1
theorem VS.app {t t':Int} {a b:Int}:∀ {l:Int} {M:List Sp2},VS t l M->(∀ q∈M,q.2<a)->l<a->a<b->b<=t'->t<=t'->VS t' l (M++[(a,b)])
 |l,[],_,_,e,h2,f,_=>⟨e,h2,f,trivial⟩
 |l,(c,d)::M,⟨e,h2,f,g⟩,hq,g1,i,j,k=>⟨e,h2,by omega,g.app (fun q h=>hq q (.tail _ h)) (hq (c,d) (.head _)) i j k⟩
theorem VS.ext {t t':Int} {c d d':Int}:∀ {l:Int} {M:List Sp2},VS t l (M++[(c,d)])->d<=d'->d'<=t'->t<=t'->VS t' l (M++[(c,d')])
 |l,[],⟨e,h2,h,_⟩,g1,f,g=>⟨e,by omega,f,trivial⟩
 |l,(a,b)::M,⟨e,h2,h,i⟩,g1,f,g=>⟨e,h2,by omega,i.ext g1 f g⟩
theorem VS.monoT {t t':Int} (h:t<=t'):∀ {l:Int} {M:List Sp2},VS t l M->VS t' l M
 |_,[],_=>trivial
 |_,(a,b)::M,⟨c,h2,e,d⟩=>⟨c,h2,by omega,d.monoT h⟩
theorem VS.lastlt {t c d:Int}:∀ {l:Int} {M:List Sp2},VS t l (M++[(c,d)])->(∀ q∈M,q.2<c)/\c<d/\d<=t
 |l,[],⟨g,h2,f,_⟩=>⟨fun q hq=>(nomatch hq),h2,f⟩
 |l,(a,b)::M,⟨g,h2,f,e⟩=>by
  have ih:=e.lastlt;refine ⟨fun q hq=>?_,ih.2⟩;cases hq with
  |head=>
   cases M with
   |nil=>exact e.1
   |cons p M=>have:=ih.1 p (.head _);have:=e.1;have:=e.2.1;dsimp only at *;omega
  |tail _ hq=>exact ih.1 q hq
theorem Q3b (i:1<=t) (e:t<=300) {f:Nat->Bool} {K:LL->oP R} {k0:Int->Bool->LL->oP R} (hk:∀ a b w,k0 a b w=K w):∀ (c m x:Nat) (acc:List Sp2),(x:Int)+c=t->c<m->VS x (-1) acc->acc.length<=x->(∀ y:Nat,InS y acc↔y<x/\f y=true) ->
  ∃ F:List Sp2,Xz n t (DM f t.toNat) k0 m (x:Int) (acc.map XC)=K (F.map XC)/\VS t (-1) F/\F.length<=300/\∀ y:Nat,y<t.toNat->(InS y F↔f y=true)
 |0,m+1,x,acc,hx,_,hv,hl,hf=>by
  refine ⟨acc,?_,hv.monoT (by omega),by omega,fun y hy=>?_⟩
  ·rw [Xz,show decide ((x:Int)<t)=false from decide_eq_false (by omega),Qey,hk]
  ·rw [hf];exact ⟨fun h=>h.2,fun h=>⟨by omega,h⟩⟩
 |c+1,m+1,x,acc,hx,hm,hv,hl,hf=>by
  have a6:(x:Int)<t:=by omega
  have ax:Q2 (DM f t.toNat) (x:Int)=some [D.bool (f x)]:=by rw [Qp];exact A4 (by omega)
  rw [Xz,show decide ((x:Int)<t)=true from QeE a6,cond_true,ax];simp -implicitDefEqProofs only [Q0,Qex,Q1R,Xa (show x<=1000 by omega)];have next:∀ ak:List Sp2,VS ((x+1:Nat):Int) (-1) ak->ak.length<=x+1->(∀ y:Nat,InS y ak↔y<x+1/\f y=true)->∃ F:List Sp2,Xz n t (DM f t.toNat) k0 m ((x+1:Nat):Int) (ak.map XC)=K (F.map XC)/\VS t (-1) F/\F.length<=300/\∀ y:Nat,y<t.toNat->(InS y F↔f y=true):=fun ak g1 d j=>Q3b i e hk c m (x+1) ak (by omega) (by omega) g1 d j
  cases an:f x with
  |false=>
   rw [Bool.not_false,cond_true];refine next acc (hv.monoT (by omega)) (by omega) (fun y=>?_)
   rw [hf];constructor
   ·exact fun h=>⟨by omega,h.2⟩
   ·rintro ⟨e,h2⟩;refine ⟨?_,h2⟩;by_cases hy:y=x
    ·subst hy;rw [an] at h2;cases h2
    ·omega
  |true=>
   rw [QeL,Qey];have au:(∀ q∈acc,q.2<(x:Int))->∃ F:List Sp2,Xz n t (DM f t.toNat) k0 m ((x+1:Nat):Int) (acc.map XC++[[D.int .i64 (x:Int),D.int .i64 ((x+1:Nat):Int)]])=K (F.map XC)/\VS t (-1) F/\F.length<=300/\∀ y:Nat,y<t.toNat->(InS y F↔f y=true):=fun ay=>by
    have:=next (acc++[((x:Int),((x+1:Nat):Int))]) (hv.app ay (by omega) (by omega) (by omega) (by omega)) (by simp;omega) (fun y=>?_)
    ·rw [QeU] at this;exact this
    ·rw [D8,hf,UR];dsimp only;constructor
     ·rintro (h | h | h)
      ·exact ⟨by omega,h.2⟩
      ·obtain rfl:y=x:=by omega
       exact ⟨by omega,an⟩
      ·exact absurd h He
     ·rintro ⟨g1,d⟩;by_cases hy:y=x
      ·exact .inr (.inl (by omega))
      ·exact .inl ⟨by omega,d⟩
   rcases List.eq_nil_or_concat acc with rfl | ⟨M,⟨a,b⟩,rfl⟩
   ·rw [show decide (((((([]:List Sp2).map XC).length:Nat)):Int)>0)=false from rfl];simp -implicitDefEqProofs only [gbF,Qey];rw [XR (by simp),Q0];exact au (fun q hq=>nomatch hq)
   ·rw [List.concat_eq_append] at *
    have a8:M.length+1<=x:=by simpa using hl
    have hlast:=hv.lastlt;have e1:(M++[(a,b)]).map XC=M.map XC++XC (a,b)::[]:=by simp
    have g:((M++[(a,b)]).map XC)[M.length]? = some (XC (a,b)):=by rw [e1];exact Q9i (by simp)
    have s:((M++[(a,b)]).map XC).set M.length (XC (a,((x+1:Nat):Int)))=(M++[(a,((x+1:Nat):Int))]).map XC:=by rw [e1,Q9o (by simp)];simp
    have aw:((M++[(a,b)]).map XC).length=M.length+1:=by simp
    rw [aw,Vi (show M.length+1<=1000 by omega) (by omega),Nat.add_sub_cancel,ZG (by omega) (by omega),show decide (((M.length+1:Nat):Int)>0)=true from QeE (by omega)];simp -implicitDefEqProofs only [Q0,Int.toNat_natCast,g,Q4O,Q1,QbA,cond_true,s];by_cases ar:b=(x:Int)
    ·rw [show (b == (x:Int))=true by simpa using ar,cond_true];refine next _ (hv.ext (by omega) (by omega) (by omega)) (by simp;omega) (fun y=>?_)
     have am:=hf y;rw [D8,UR] at am ⊢;dsimp only at am ⊢;constructor
     ·rintro (h | h | h)
      ·have:=am.1 (.inl h);exact ⟨by omega,this.2⟩
      ·by_cases hy:y=x
       ·subst hy;exact ⟨by omega,an⟩
       ·have:=am.1 (.inr (.inl (by omega)));exact ⟨by omega,this.2⟩
      ·exact absurd h He
     ·rintro ⟨g1,d⟩;by_cases hy:y=x
      ·exact .inr (.inl (by omega))
      ·rcases am.2 ⟨by omega,d⟩ with h | h | h
       ·exact .inl h
       ·exact .inr (.inl (by omega))
       ·exact absurd h He
    ·rw [show (b == (x:Int))=false by simpa using ar,Qey,XR (by simp;omega),Q0];refine au (fun q hq=>?_);rcases QeA.1 hq with h | h
     ·have:=hlast.1 q h;omega
     ·obtain rfl:=QeT.1 h;dsimp only;omega
theorem Ar {l:List Sp2} (hl:l.length<=1000) {k0:oP R} {k1:Int->Int->Bool->oP R} {E:oP R} (hk:∀ a b c,k1 a b c=E):∀ (ak:List Sp2) (i m:Nat) (last:Int),l.drop i=ak->ak.length<m -> -1<=last->VS t last ak->Yb n t (l.map XC) k0 k1 m last (i:Int)=E
 |[],i,m+1,last,hd,_,_,_=>by
  have:=Y7 hd;rw [Yb,List.length_map,show decide ((i:Int)<((l.length:Nat):Int))=false by simpa using this,Qey,hk]
 |(a,b)::ak,i,m+1,last,hd,hm,an,⟨f,h2,g,d⟩=>by
  obtain ⟨e,am,hi⟩:=XG hd;rw [Yb,List.length_map,Qk hi,cond_true,QT e];simp -implicitDefEqProofs only [Q0,Q6j,Q4O,Q1,show decide (a<=last)=false from decide_eq_false (by omega),show decide (a<0)=false from decide_eq_false (by omega),show decide (b<=a)=false from decide_eq_false (by omega),show decide (b>t)=false from decide_eq_false (by omega),Qey,Xa (show i<=1000 by omega)];exact Ar hl hk ak (i+1) m b am (by simpa using hm) (by omega) d
theorem Q7n {l:List Sp2} (hl:l.length<=1000) {v:Int} {k0:Option Bool} {k1:Int->Bool->Option Bool} (d:k0=some true) (hk:∀ b c,k1 b c=some false):∀ (ak:List Sp2) (i m:Nat),l.drop i=ak->ak.length<m->∃ b,JB n (l.map XC) v k0 k1 m (i:Int)=some b/\(b=true↔InS v ak)
 |[],i,m+1,hd,_=>by
  have:=Y7 hd;refine ⟨false,?_,fun h=>(nomatch h),fun h=>absurd h He⟩;rw [JB,List.length_map,show decide ((i:Int)<((l.length:Nat):Int))=false by simpa using this,Qey,hk]
 |(a,b)::ak,i,m+1,hd,hm=>by
  obtain ⟨e,ao,hi⟩:=XG hd;obtain ⟨z,f,h2⟩:=Q7n hl d hk ak (i+1) m ao (by simpa using hm);rw [JB,List.length_map,Qk hi,cond_true,QT e];simp -implicitDefEqProofs only [Q0,Q6j,Q4O,Q1,Xa (show i<=1000 by omega),UR];by_cases hv:a<=v/\v<b
  ·rw [show decide (v>=a)=true from QeE hv.1,show decide (v<b)=true from QeE hv.2];exact ⟨true,d,fun _=>.inl hv,fun _=>rfl⟩
  ·rw [show (bif decide (v>=a) then decide (v<b) else false)=false by
    by_cases am:v>=a
    ·rw [QeE am,cond_true];exact decide_eq_false (by omega)
    ·rw [decide_eq_false am,Qey],Qey]
   exact ⟨z,f,fun h=>.inr (h2.1 h),fun h=>h2.2 (h.resolve_left hv)⟩
theorem QbR {A B:List Occ} (a:1<=t) (c:t<=300) (hA:OL (-1) A) (hB:OL (-1) B) (lA:A.length<=6) (lB:B.length<=6):∃ F:List Sp2,V1 400 t (A.map enc) (B.map enc) Tu2=some (F.map XC,(0:Int))/\∀ v:Int,-1000000<=v->v<=1000000->∃ b,NC 400 t (F.map XC) v (some:Bool->Option Bool)=some b/\(b=true↔FB t A B (v % t)):=by
 obtain ⟨f,f1,i⟩:=Bp a c (K:=fun w=>(some (w,(0:Int)):Option (LL × Int))) (k0:=fun _ _ w=>some (w,(0:Int))) (fun _ _ _=>rfl) hA hB (by omega) (by omega) A [] 400 (fun _=>false) rfl (by omega) (fun y _=>⟨fun h=>(nomatch h),fun ⟨_,_,_,_,_,h,_⟩=>(nomatch h)⟩);obtain ⟨F,g1,j,o,k⟩:=Q3b (n:=400) a c (f:=f) (K:=fun w=>(some (w,(0:Int)):Option (LL × Int))) (k0:=fun _ _ w=>some (w,(0:Int))) (fun _ _ _=>rfl) t.toNat 400 0 [] (by omega) (by omega) trivial (by simp) (fun y=>⟨fun h=>absurd h He,fun h=>by omega⟩);refine ⟨F,?_,fun v p q=>?_⟩
 ·unfold V1 H6;rw [Q21 a (show t<=7200 by omega),Q7J (by omega) hA,Q7J (by omega) hB];simp -implicitDefEqProofs only [Q0,QeL,Bool.not_false,Qey];rw [show (bif decide ((0:Int)<=t)&&decide (t<=t) then some () else none)=some () by rw [QJ (by simp;omega)],Q0,XR (by omega),Q0];have e:List.replicate t.toNat [D.bool false]=DM (fun _=>false) t.toNat:=by unfold DM;rw [List.map_const',List.length_range]
  rw [e,show Xx 400 t (A.map enc) (B.map enc) (fun r s m=>(some (m,(0:Int)):Option (LL × Int))) 400 0 (DM (fun _=>false) t.toNat)=_ from f1,Q0,Q8 (by rfl)];exact g1
 ·have u:=QeO v (show t≠0 by omega);have e1:=QeP v (show 0<t by omega);unfold NC K4;rw [show decide (t<1)=false from decide_eq_false (by omega),show decide (t>7200)=false from decide_eq_false (by omega),Qey,Qey];rw [show Yb 400 t (F.map XC) (some false) (fun x z aa=>(some true:Option Bool)) 400 (-1) 0=some true from Ar (by omega) (fun _ _ _=>rfl) F 0 400 (-1) rfl (by omega) (by omega) j,Q0,QeL,Qey,Qc6 a (by omega) (by omega) (by omega),Q0];obtain ⟨b,b1,b2⟩:=Q7n (n:=400) (l:=F) (v:=v % t) (k0:=some true) (k1:=fun _ _=>some false) (by omega) rfl (fun _ _=>rfl) F 0 400 rfl (by omega);refine ⟨b,b1,?_⟩;have:=k (v % t).toNat (by omega);rw [show (((v % t).toNat:Nat):Int)=v % t by omega] at this;rw [b2,this,i _ (by omega),show (((v % t).toNat:Nat):Int)=v % t by omega]
end

theorem K3.lt {X:Cx} {f k:Nat} {r:List D} (h:K3 X.Ls f k r):f<X.Ls.length/\k<X.nr f:=by
 obtain ⟨nm,w,rides,a,h2⟩:=h;refine ⟨(QeC.1 a).1,?_⟩;have e:Pe X.Ls f=rides:=by unfold Pe;rw [a]
 unfold Cx.nr;rw [e];exact (QeC.1 h2).1
theorem PlanR.lsOK {X:Cx} {per:Int} {Sk Ch Tu Sy De:LL} (h:PlanR X.G per Sk X.Ro X.Ls Ch Tu Sy De):X.LsOK per Ch Sy where
 ch:=fun row hr=>by
  obtain ⟨f,fr,t,tr,mn,mx,w,r,r',x,y,x',y',b,b',i,e,a,h2,g,j,k,c,d,_⟩:=h.ch row hr;exact ⟨f,fr,t,tr,mn,mx,w,e,a.lt.1,a.lt.2,h2.lt.1,h2.lt.2,c,d⟩
 chl:=h.chl
 sy:=fun row hr=>h.sy row hr
 syl:=h.syl
namespace Cx
variable {X:Cx} (h:X.OK) {per:Int} {Ch Sy De:LL} (hl:X.LsOK per Ch Sy) (p0:90<=per) (p1:per<=300)
theorem Q7P {i:Nat} {r:List D}:∀ {K:Nat},r∈X.pl i K↔∃ k,k<K/\(r=X.aR i k\/(k<X.nr i-1/\r=X.aD i k))
 |0=>⟨fun h=>(nomatch h),fun ⟨_,h,_⟩=>by omega⟩
 |K+1=>by
  rw [pl,QeA,QeA,Q7P];constructor
  ·rintro ((⟨k,a,h2⟩ | h) | h)
   ·exact ⟨k,by omega,h2⟩
   ·exact ⟨K,by omega,.inl (QeT.1 h)⟩
   ·by_cases hc:K<X.nr i-1
    ·rw [if_pos hc] at h;exact ⟨K,by omega,.inr ⟨hc,QeT.1 h⟩⟩
    ·rw [if_neg hc] at h;nomatch h
  ·rintro ⟨k,a,h2⟩;by_cases hk:k=K
   ·subst hk;rcases h2 with h2 | ⟨h2,b⟩
    ·exact .inl (.inr (QeT.2 h2))
    ·rw [if_pos h2];exact .inr (QeT.2 b)
   ·exact .inl (.inl ⟨k,by omega,h2⟩)
theorem Q2b {r:List D}:∀ {L:Nat},r∈X.pls L↔∃ i k,i<L/\k<X.nr i/\(r=X.aR i k\/(k<X.nr i-1/\r=X.aD i k))
 |0=>⟨fun h=>(nomatch h),fun ⟨_,_,h,_⟩=>by omega⟩
 |L+1=>by
  rw [pls,QeA,Q2b,Q7P];constructor
  ·rintro (⟨i,k,a,h2⟩ | ⟨k,a,h2⟩)
   ·exact ⟨i,k,by omega,h2⟩
   ·exact ⟨L,k,by omega,a,h2⟩
  ·rintro ⟨i,k,a,h2,b⟩;by_cases hi:i=L
   ·subst hi;exact .inr ⟨k,h2,b⟩
   ·exact .inl ⟨i,k,by omega,h2,b⟩
theorem num_lt {i k:Nat} (hi:i<X.Ls.length) (hk:k<X.nr i):base X.nr i+k<X.N:=by
 have:=Nn (nr:=X.nr) (i:=i) (j:=X.L) hi;unfold N;omega
include h hl p0 p1
theorem Q3Y:∀ r∈X.planned Ch Sy,∃ q,r=Mb q/\AcOK per (2*X.N) q/\q.1≠6:=by
 intro r hr;unfold planned at hr;rw [QeA,QeA,QeA,Q2b,QeN,QeN,QeN] at hr;rcases hr with ((⟨i,k,a,h2,c | ⟨l,c⟩⟩ | ⟨row,a,h2⟩) | ⟨t,a,h2⟩) | ⟨row,a,h2⟩
 ·have r:=rd h a h2;have hr:=Q1S h a h2;have hw:=(line h a).2.2;have hn:=num_lt a h2;have m:=r.ex0;have e1:=r.ex1;refine ⟨(1,((2*(base X.nr i+k):Nat):Int),((2*(base X.nr i+k)+1:Nat):Int),X.run i k,X.run i k+X.ex i k,X.w i),c,?_,(by decide:(1:Int)≠6)⟩;constructor <;> dsimp only <;> omega
 ·have r:=rd h a h2;have hw:=(line h a).2.2;have hn:=num_lt (X:=X) a (show k+1<X.nr i by omega);have e2:=r.mn0;have n:=r.mn1;have p:=r.mn2;have s:=r.mn3;refine ⟨(2,((2*(base X.nr i+k)+1:Nat):Int),((2*(base X.nr i+k+1):Nat):Int),X.mn i k,X.mx i k,X.w i),c,?_,(by decide:(2:Int)≠6)⟩;constructor <;> dsimp only <;> omega
 ·obtain ⟨f,fr,t,tr,mn,mx,w,rfl,g1,b,d,j,u,v⟩:=hl.ch row a;have e:=num_lt g1 b;have g:=num_lt d j;refine ⟨(3,((2*(base X.nr f+fr)+1:Nat):Int),((2*(base X.nr t+tr):Nat):Int),mn,mx,w),h2.symm,?_,(by decide:(3:Int)≠6)⟩;constructor <;> dsimp only <;> omega
 ·have ht:=h.tr t a;have g1:=ht.1;have b:=ht.2.1;have t1:=ht.2.2.1;have t2:=ht.2.2.2.1;have x:=ht.2.2.2.2.1;have y:=ht.2.2.2.2.2.1;have m1:=(line h g1).2.1;have m2:=(line h b).2.1;have e:=num_lt g1 (show X.nr t.1-1<X.nr t.1 by omega);have g:=num_lt b (show 0<X.nr t.2.1 by omega);refine ⟨(4,((2*(base X.nr t.1+(X.nr t.1-1))+1:Nat):Int),((2*(base X.nr t.2.1+0):Nat):Int),t.2.2.1,t.2.2.2,1),h2.symm,?_,(by decide:(4:Int)≠6)⟩;constructor <;> dsimp only <;> omega
 ·obtain ⟨o,rfl,g1,b,d⟩:=hl.sy row a;have m1:=(line h (show 0<X.Ls.length by omega)).2.1;have m2:=(line h (show 1<X.Ls.length by omega)).2.1;have e:=num_lt (X:=X) (show 0<X.Ls.length by omega) (show 0<X.nr 0 by omega);have g:=num_lt (X:=X) (show 1<X.Ls.length by omega) (show 0<X.nr 1 by omega);have b1:base X.nr 1=X.nr 0:=by simp [base]
  have b0:base X.nr 0=0:=rfl;refine ⟨(5,((2*(base X.nr 0+0):Nat):Int),((2*(base X.nr 1+0):Nat):Int),o,o,0),h2.symm,?_,(by decide:(5:Int)≠6)⟩;constructor <;> dsimp only <;> omega
theorem acts_ok {H:LL} (hH:X.HdOK per (fun a b=>0<=a/\a<b/\b<X.N) H):∃ L:List Ac,X.planned Ch Sy++H=L.map Mb/\∀ q∈L,AcOK per (2*X.N) q:=by
 refine Q4Q fun r hr=>?_
 rcases QeA.1 hr with hr | hr
 ·obtain ⟨q,e,hq,_⟩:=Q3Y h hl p0 p1 r hr;exact ⟨q,e,hq⟩
 ·obtain ⟨a,b,w,hs,e,g1,c,d,f⟩:=hH.row r hr;refine ⟨(6,((2*a:Nat):Int),((2*b:Nat):Int),w.1,w.2,0),e,?_⟩;constructor <;> dsimp only <;> omega
omit hl p0 p1 in
theorem join_act {j:Tup} (hj:j∈X.jns):∃ q:Ac,Mb q∈X.planned Ch Sy/\(q.1=2\/q.1=4)/\q.2.1=2*(j.1:Int)+1/\q.2.2.1=2*(j.2.1:Int):=by
 have _:=h.l0;rcases QeA.1 hj with hj | hj
 ·obtain ⟨a,ha⟩:=List.getElem?_of_mem hj;have ak:=(QeC.1 ha).1;rw [Q4T] at ak;obtain ⟨i,k,b,h2,c⟩:=FX ak;have:=Mu (nr:=fun i=>X.nr i-1) (f:=X.j1) h2 b;rw [<- c,show flat (fun i=>X.nr i-1) X.j1 X.L=X.jL X.L from rfl,ha] at this;cases this;refine ⟨(2,((2*(base X.nr i+k)+1:Nat):Int),((2*(base X.nr i+k+1):Nat):Int),X.mn i k,X.mx i k,X.w i),?_,.inl rfl,?_,?_⟩
  ·unfold planned;rw [QeA,QeA,QeA];exact .inl (.inl (.inl (Q2b.2 ⟨i,k,b,by omega,.inr ⟨h2,rfl⟩⟩)))
  ·unfold j1;dsimp only;omega
  ·unfold j1;dsimp only;omega
 ·obtain ⟨t,ht,rfl⟩:=QeN.1 hj;refine ⟨(4,((2*(base X.nr t.1+(X.nr t.1-1))+1:Nat):Int),((2*(base X.nr t.2.1+0):Nat):Int),t.2.2.1,t.2.2.2,1),?_,.inr rfl,?_,?_⟩
  ·unfold planned;rw [QeA,QeA];exact .inl (.inr (QeN.2 ⟨t,ht,rfl⟩))
  ·unfold jT;dsimp only;omega
  ·unfold jT;dsimp only;omega
end Cx
theorem Q3k {p q:Ac} (e:Mb p=Mb q):p=q:=by
 obtain ⟨a,b,c,d,f,g⟩:=p;obtain ⟨a',b',c',d',f',g'⟩:=q;unfold Mb at e;simp only [List.cons.injEq,D.int.injEq,true_and,and_true] at e;obtain ⟨e1,e2,h,i,j,k⟩:=e;subst e1 e2 h i j k;rfl
theorem Q9y {t v:Int} {A B:List Occ} (ht:1<=t) (h:FB t A B (v % t)):FB t B A ((-v) % t):=by
 obtain ⟨x,a,b,c,d,e,h2,g⟩:=h;refine ⟨x,c,d,a,b,h2,e,?_⟩;have e1:∀ y f:Int,(y % t-f) % t=(y-f) % t:=fun y f=>by rw [Int.sub_emod,Int.emod_emod,<- Int.sub_emod]
 rw [e1] at g ⊢;have j:=QeO (v-(a-d+1)) (show t≠0 by omega);have e2:(-v-(c-b+1)) % t=(b-a+d-c-1-1-(v-(a-d+1)) % t) % t:=by
  rw [Q7R];congr 1;omega
 have i:∀ z:Int,0<=z->z % t<=z:=fun z hz=>by
  have:=Int.mul_ediv_add_emod z t;have:=Int.mul_nonneg (show 0<=t by omega) (Int.ediv_nonneg hz (show 0<=t by omega));omega
 have:=i (b-a+d-c-1-1-(v-(a-d+1)) % t) (by omega);omega

def Qcj (a1:LL) (a2 a3:Int) (St Pt Se Li:LL) (per:Int) (Sk Ro Ls Ch Tu Sy De:LL):Option Bool:=
 gb true (Wl 400 St Pt Se Li per Sk Ro Ls Ch Tu Sy De Tu4) (0,[],[],0) fun a=>
 bif (a.2.2.2 != (0:Int)) then
  gb true (ZH 400 some) false fun h=>some h
 else
  gb true (HY 400 a.1 a.2.1 a.2.2.1 a1 some) [] fun g=>
  gb true (JF 400 St Pt Se Li per Sk Ro Ls Ch Tu Sy De Tu3) ([],[],0) fun d=>
  gb (!(((List.length g:Nat):Int) != (wJ ((2:Int)*((List.length d.1:Nat):Int))))) (K6 400 a.1 a.2.1 a.2.2.1 some) false fun k=>
  bif (bif (((List.length g:Nat):Int) != (wJ ((2:Int)*((List.length d.1:Nat):Int)))) then true else (!k)) then
   some false
  else
   gb true (Ge 400 a2 ((List.length d.1:Nat):Int) some) 0 fun b=>
   gb true (Ge 400 a3 ((List.length d.1:Nat):Int) some) 0 fun c=>
   gb (!(b == c)) (Uz 400 a.1 a.2.1 a.2.2.1 b c some) false fun i=>
   gb (!(bif (b == c) then true else i)) (Uz 400 a.1 a.2.1 a.2.2.1 c b some) false fun l=>
   bif (bif (bif (b == c) then true else i) then true else l) then
    gb true (ZH 400 some) false fun m=>some m
   else
    gb true (Q2 d.1 b) [] fun n=>
    gb true (n[0]?) oF fun o=>
    gb true (pSl 3 o) [] fun p=>
    gb true (Q2 d.1 c) [] fun q=>
    gb true (q[0]?) oF fun r=>
    gb true (pSl 3 r) [] fun s=>
    gb true (V1 400 per p s Tu2) ([],0) fun t=>
    gb true (Q2 g (wJ ((2:Int)*c))) [] fun u=>
    gb true (u[0]?) oF fun v=>
    gb true (pIw v) 0 fun x=>
    gb true (Q2 g (wJ ((2:Int)*b))) [] fun y=>
    gb true (y[0]?) oF fun z=>
    gb true (pIw z) 0 fun aa=>
    gb true (NC 400 per t.1 (wJ (x-aa)) some) false fun ab=>
    bif (!ab) then
     gb true (ZH 400 some) false fun ac=>some ac
    else
     gb true (ZH 400 some) false fun j=>
     gb j (Uh 400 a.1 a.2.1 a.2.2.1 g some) false fun ad=>
     some (bif j then (!ad) else false)
theorem Q35 {per:Int} {T:List Int} {a b:Nat} {w:Sp2} (h:Q8p per w ((T.getD (2*b) 0-T.getD (2*a) 0) % per)):w.2<dur per T (6,((2*a:Nat):Int),((2*b:Nat):Int),w.1,w.2,0):=by
 unfold Q8p at h;unfold dur;dsimp only;rw [Int.toNat_natCast,Int.toNat_natCast];rw [Int.sub_emod,Int.emod_emod,<- Int.sub_emod] at h;exact h
theorem NJ.symm' {X:Cx} {a b:Nat} (h:X.NJ a b):X.NJ b a:=fun j hj=>⟨(h j hj).2,(h j hj).1⟩
theorem Q8E {G:Geo} {per:Int} {Sk Ro Ls Ch Tu Sy De:LL} (hp:PlanR G per Sk Ro Ls Ch Tu Sy De) {l:List Int} (bh:l.length<=9223372036854775807) (a2 a3:Int):Qcj (encI l) a2 a3 G.St G.Pt G.Se G.Li per Sk Ro Ls Ch Tu Sy De=some true:=by
 have hc:UO 400 G.St G.Pt G.Se G.Li per Sk Ro Ls Ch Tu Sy De (some:Int->Option Int)=some 0:=Q8g hp some;have v:=QbB hp;have p0:=hp.p0;have p1:=hp.p1;obtain ⟨X,h,rfl,rfl,rfl,rfl,rfl⟩:=hp.cx;have hl:=hp.lsOK;have hN:X.N<=6:=Cx.base_le h;have bq:1<=X.N:=by
  have:=(Cx.line h (i:=0) (by have:=h.l0;omega)).2.1;have:=Cx.num_lt (X:=X) (i:=0) (k:=0) (by have:=h.l0;omega) (by omega);omega
 have hE:(X.evs X.L).length=2*X.N:=Cx.evs_len;have hr:(Ut (X.occs X.L)).length=X.N:=by rw [Tl];exact WX
 have aw:(gb true (ZH 400 some) false fun c=>(some c:Option Bool))=some true:=by rw [Q7l,Q0]
 unfold Qcj;simp -implicitDefEqProofs only [aw];rcases Cx.buildP h hl (De:=De) (by omega) p1 hc with ⟨e,he,hb⟩ | ⟨H,hH,am,hb⟩
 ·rw [show Wl 400 X.G.St X.G.Pt X.G.Se X.G.Li per [[D.str X.nm,Q5 X.tl,Q5 X.sp,Q5 X.ac,Q5 X.br]] X.Ro X.Ls Ch (X.T.map tuR) Sy De Tu4=_ from hb,Q0];dsimp only;rcases he with rfl | rfl <;> rfl
 ·obtain ⟨L,hA,hL⟩:=Cx.acts_ok h hl p0 p1 hH;rw [hA] at hb am;rw [List.length_map] at am;have ay:∀ q∈L,AcOK per (X.evs X.L).length q:=by rw [hE];exact hL
  obtain ⟨T,t1,t2,n⟩:=Qa2 bh (per:=per) (by omega) p1 (E:=X.evs X.L) (A:=L.map Mb) (by omega);rw [show Wl 400 X.G.St X.G.Pt X.G.Se X.G.Li per [[D.str X.nm,Q5 X.tl,Q5 X.sp,Q5 X.ac,Q5 X.br]] X.Ro X.Ls Ch (X.T.map tuR) Sy De Tu4=_ from hb,Q0];dsimp only;rw [Q8 (by rfl),t1,Q0,show JF 400 X.G.St X.G.Pt X.G.Se X.G.Li per [[D.str X.nm,Q5 X.tl,Q5 X.sp,Q5 X.ac,Q5 X.br]] X.Ro X.Ls Ch (X.T.map tuR) Sy De Tu3=_ from Cx.ridesQ h v,Q0];dsimp only;rw [Vj,t2,hr,hE,Qf (x:=2*((X.N:Nat):Int)) (by omega) (by omega),show (((2*X.N:Nat):Int) != 2*((X.N:Nat):Int))=false by simp,Q9K (by omega) p1 (by omega) am ay,Q0,Q8 (by rfl),Q8x 400 a2 (m:=((X.N:Nat):Int)) (by omega) (by omega),Q0,Q8x 400 a3 (m:=((X.N:Nat):Int)) (by omega) (by omega),Q0];have s:=HX a2 (show 0<((X.N:Nat):Int) by omega);have u:=HX a3 (show 0<((X.N:Nat):Int) by omega);revert s u;generalize pick a2 ((X.N:Nat):Int)=pa;generalize pick a3 ((X.N:Nat):Int)=pb;intro s u;obtain ⟨a,rfl⟩:∃ a:Nat,pa=a:=⟨pa.toNat,by omega⟩;obtain ⟨b,rfl⟩:∃ b:Nat,pb=b:=⟨pb.toNat,by omega⟩;obtain ⟨o,j1,y⟩:=Q54 (per:=per) (E:=X.evs X.L) am (a:=a) (b:=b) (by omega) (by omega);obtain ⟨r,j3,j4⟩:=Q54 (per:=per) (E:=X.evs X.L) am (a:=b) (b:=a) (by omega) (by omega);rw [j1,j3,Q0,Q0];by_cases hz:(bif bif ((a:Int) == (b:Int)) then true else o then true else r)=true
  ·rw [hz,cond_true]
  have au:=Bool.eq_false_iff.2 hz;rw [au,Qey];have bi:a≠b:=fun e=>hz (by rw [e];simp)
  rw [show ((a:Int) == (b:Int))=false by simp;omega,Qey] at au;obtain ⟨ac,ad⟩:o=false/\r=false:=by cases o <;> cases r <;> simp_all
  have nj:X.NJ a b:=fun j hj=>by
   obtain ⟨q,q1,q2,q3,q4⟩:=Cx.join_act (Ch:=Ch) (Sy:=Sy) h hj;have hq:q∈L:=by
    have hm:Mb q∈X.planned Ch Sy++H:=List.mem_append_left _ q1;rw [hA] at hm;obtain ⟨p,hp,e⟩:=QeN.1 hm;rw [<- Q3k e];exact hp
   constructor
   ·rintro ⟨e1,e2⟩;have:=y.2 ⟨q,hq,q2,by rw [q3,e1],by rw [q4,e2]⟩;rw [ac] at this;cases this
   ·rintro ⟨e1,e2⟩;have:=j4.2 ⟨q,hq,q2,by rw [q3,e1],by rw [q4,e2]⟩;rw [ad] at this;cases this
  obtain ⟨ae,ag,ah⟩:=Cx.occN_ok h (a:=a) (by omega);obtain ⟨ai,aj,ak⟩:=Cx.occN_ok h (a:=b) (by omega);obtain ⟨F,f1,f2⟩:=QbR (t:=per) (by omega) p1 ag aj ah ak;obtain ⟨ta,bd⟩:=BQ (E:=X.evs X.L) t2 (x:=((2*a:Nat):Int)) (by omega) (by omega);obtain ⟨tb,a8⟩:=BQ (E:=X.evs X.L) t2 (x:=((2*b:Nat):Int)) (by omega) (by omega);have ra:=n _ bd;have rb:=n _ a8;rw [Int.toNat_natCast] at ta tb ra rb;obtain ⟨z,z3,z4⟩:=f2 (T.getD (2*b) 0-T.getD (2*a) 0) (by omega) (by omega);rw [ae,ai,show wJ (2*(b:Int))=((2*b:Nat):Int) from (Qf (by omega) (by omega)).trans (by omega),show wJ (2*(a:Int))=((2*a:Nat):Int) from (Qf (by omega) (by omega)).trans (by omega),ta,tb];simp -implicitDefEqProofs only [Q0,Qex,X6,Q1,f1,Qf (x:=T.getD (2*b) 0-T.getD (2*a) 0) (by omega) (by omega),z3];cases z
  ·rfl
  rw [QeL,Qey,Q7l,Q0];obtain ⟨fe,e1,e2⟩:=Qbf (by omega) p1 (by omega) am ay t2 n;rw [e1,Q0,cond_true,e2 ?_]
  ·rfl
  ·have a6:=z4.1 rfl;have m0:=QeO (T.getD (2*b) 0-T.getD (2*a) 0) (show per≠0 by omega);have m1:=QeP (T.getD (2*b) 0-T.getD (2*a) 0) (show 0<per by omega);have ao:∀ {a b:Nat} {w:Sp2},Cx.rowH a b w∈H->((6,((2*a:Nat):Int),((2*b:Nat):Int),w.1,w.2,0):Ac)∈L:=fun {a b w} hm=>by
    have hm:Cx.rowH a b w∈X.planned Ch Sy++H:=List.mem_append_right _ hm;rw [hA] at hm;obtain ⟨p,hp,e⟩:=QeN.1 hm;have:=Q3k (q:=(6,((2*a:Nat):Int),((2*b:Nat):Int),w.1,w.2,0)) e;rw [<- this];exact hp
   rcases Nat.lt_or_gt_of_ne bi with aq | aq
   ·obtain ⟨W,w1,w2⟩:=hH.win a b ⟨by omega,aq,by omega⟩ nj;obtain ⟨w,hw,hv⟩:=(w1.viol _ m0 m1).2 a6;exact ⟨_,ao ((w2 w).2 hw),Q35 hv⟩
   ·obtain ⟨W,w1,w2⟩:=hH.win b a ⟨by omega,aq,by omega⟩ (NJ.symm' nj);have an:=Q9y (by omega) a6;rw [show -(T.getD (2*b) 0-T.getD (2*a) 0)=T.getD (2*a) 0-T.getD (2*b) 0 by omega] at an;obtain ⟨w,hw,hv⟩:=(w1.viol _ (QeO _ (by omega)) (QeP _ (by omega))).2 an;exact ⟨_,ao ((w2 w).2 hw),Q35 hv⟩
theorem separateA {l l':List Int} (hl:l.length<=9223372036854775807) (ak:l'.length<=9223372036854775807) (a b:Int):law11_NetworkHeadwaysSeparate 400 (encI l) (encI l') a b some=some true:=by
 refine okS ?_;unfold law11_NetworkHeadwaysSeparate;exact okB (QbM hl fun G per Sk Ro Ls Ch Tu Sy De h=>okI ⟨true,Q8E h ak a b,rfl⟩)

end Go.Vx
namespace Go.Vx
open Go.Proofs
abbrev nT:List (LpE Tryz.prog):=[]
def gtt:TT:=[(3,⟨.int .i64,1,8,[.int .i64 0],[.int .i64 0],[],none⟩),(4,⟨.bool,1,1,[.bool false],[.bool false],[],none⟩),(5,⟨.int .u8,1,1,[.int .u8 0],[.int .u8 0],[],none⟩),(9,⟨.str,1,16,[.string ⟨#[]⟩],[.str []],[],none⟩),(22,⟨.sl 3 1,1,24,[.slice none 0 0],[.sl 1 []],[],none⟩),(23,⟨.sl 9 1,1,24,[.slice none 0 0],[.sl 1 []],[],none⟩),(24,⟨.sl 86 5,1,24,[.slice none 0 0],[.sl 5 []],[],none⟩),(25,⟨.sl 176 6,1,24,[.slice none 0 0],[.sl 6 []],[],none⟩),(27,⟨.struct,4,96,[.slice none 0 0,.slice none 0 0,.slice none 0 0,.slice none 0 0],[.sl 1 [],.sl 1 [],.sl 5 [],.sl 6 []],[(0,23),(1,23),(2,24),(3,25)],none⟩),(28,⟨.sl 73 5,1,24,[.slice none 0 0],[.sl 5 []],[],none⟩),(29,⟨.sl 111 2,1,24,[.slice none 0 0],[.sl 2 []],[],none⟩),(30,⟨.sl 84 4,1,24,[.slice none 0 0],[.sl 4 []],[],none⟩),(31,⟨.sl 81 7,1,24,[.slice none 0 0],[.sl 7 []],[],none⟩),(32,⟨.sl 104 4,1,24,[.slice none 0 0],[.sl 4 []],[],none⟩),(33,⟨.sl 89 5,1,24,[.slice none 0 0],[.sl 5 []],[],none⟩),(34,⟨.sl 91 3,1,24,[.slice none 0 0],[.sl 3 []],[],none⟩),(36,⟨.struct,8,176,[.int .i64 0,.slice none 0 0,.slice none 0 0,.slice none 0 0,.slice none 0 0,.slice none 0 0,.slice none 0 0,.slice none 0 0],[.int .i64 0,.sl 5 [],.sl 2 [],.sl 4 [],.sl 7 [],.sl 4 [],.sl 5 [],.sl 3 []],[(0,3),(1,28),(2,29),(3,30),(4,31),(5,32),(6,33),(7,34)],none⟩),(39,⟨.sl 54 3,1,24,[.slice none 0 0],[.sl 3 []],[],none⟩),(40,⟨.sl 52 6,1,24,[.slice none 0 0],[.sl 6 []],[],none⟩),(42,⟨.struct,3,56,[.int .i64 0,.slice none 0 0,.slice none 0 0],[.int .i64 0,.sl 3 [],.sl 6 []],[(0,3),(1,39),(2,40)],none⟩),(43,⟨.int .i64,1,8,[.int .i64 0],[.int .i64 0],[],none⟩),(47,⟨.sl 62 1,1,24,[.slice none 0 0],[.sl 1 []],[],none⟩),(52,⟨.struct,6,48,[.int .i64 0,.int .i64 0,.int .i64 0,.int .i64 0,.int .i64 0,.int .i64 0],[.int .i64 0,.int .i64 0,.int .i64 0,.int .i64 0,.int .i64 0,.int .i64 0],[(0,3),(1,3),(2,3),(3,3),(4,3),(5,3)],some [.int .i64,.int .i64,.int .i64,.int .i64,.int .i64,.int .i64]⟩),(54,⟨.struct,3,24,[.int .i64 0,.int .i64 0,.int .i64 0],[.int .i64 0,.int .i64 0,.int .i64 0],[(0,3),(1,3),(2,3)],some [.int .i64,.int .i64,.int .i64]⟩),(59,⟨.sl 119 2,1,24,[.slice none 0 0],[.sl 2 []],[],none⟩),(62,⟨.sl 142 3,1,24,[.slice none 0 0],[.sl 3 []],[],none⟩),(73,⟨.struct,5,48,[.string ⟨#[]⟩,.int .i64 0,.int .i64 0,.int .i64 0,.int .i64 0],[.str [],.int .i64 0,.int .i64 0,.int .i64 0,.int .i64 0],[(0,9),(1,3),(2,3),(3,3),(4,3)],some [.str,.int .i64,.int .i64,.int .i64,.int .i64]⟩),(76,⟨.sl 22 1,1,24,[.slice none 0 0],[.sl 1 []],[],none⟩),(78,⟨.struct,7,168,[.slice none 0 0,.slice none 0 0,.slice none 0 0,.slice none 0 0,.slice none 0 0,.slice none 0 0,.slice none 0 0],[.sl 1 [],.sl 1 [],.sl 5 [],.sl 6 [],.sl 1 [],.sl 1 [],.sl 1 []],[(0,27),(4,76),(5,76),(6,76)],none⟩),(81,⟨.struct,7,56,[.int .i64 0,.int .i64 0,.int .i64 0,.int .i64 0,.int .i64 0,.int .i64 0,.int .i64 0],[.int .i64 0,.int .i64 0,.int .i64 0,.int .i64 0,.int .i64 0,.int .i64 0,.int .i64 0],[(0,3),(1,3),(2,3),(3,3),(4,3),(5,3),(6,3)],some [.int .i64,.int .i64,.int .i64,.int .i64,.int .i64,.int .i64,.int .i64]⟩),(82,⟨.sl 102 4,1,24,[.slice none 0 0],[.sl 4 []],[],none⟩),(84,⟨.struct,4,56,[.string ⟨#[]⟩,.int .i64 0,.int .i64 0,.slice none 0 0],[.str [],.int .i64 0,.int .i64 0,.sl 4 []],[(0,9),(1,3),(2,3),(3,82)],none⟩),(86,⟨.struct,5,48,[.string ⟨#[]⟩,.int .i64 0,.int .i64 0,.int .i64 0,.int .i64 0],[.str [],.int .i64 0,.int .i64 0,.int .i64 0,.int .i64 0],[(0,9),(1,3),(2,3),(3,3),(4,3)],some [.str,.int .i64,.int .i64,.int .i64,.int .i64]⟩),(89,⟨.struct,5,40,[.int .i64 0,.int .i64 0,.int .i64 0,.int .i64 0,.int .i64 0],[.int .i64 0,.int .i64 0,.int .i64 0,.int .i64 0,.int .i64 0],[(0,3),(1,3),(2,3),(3,3),(4,3)],some [.int .i64,.int .i64,.int .i64,.int .i64,.int .i64]⟩),(91,⟨.struct,3,24,[.int .i64 0,.int .i64 0,.int .i64 0],[.int .i64 0,.int .i64 0,.int .i64 0],[(0,3),(1,3),(2,3)],some [.int .i64,.int .i64,.int .i64]⟩),(93,⟨.ptr,1,8,[.pointer none],[],[],none⟩),(94,⟨.sl 139 4,1,24,[.slice none 0 0],[.sl 4 []],[],none⟩),(96,⟨.struct,19,424,[.slice none 0 0,.slice none 0 0,.slice none 0 0,.slice none 0 0,.int .i64 0,.slice none 0 0,.slice none 0 0,.slice none 0 0,.slice none 0 0,.slice none 0 0,.slice none 0 0,.slice none 0 0,.slice none 0 0,.slice none 0 0,.slice none 0 0,.slice none 0 0,.int .i64 0,.slice none 0 0,.slice none 0 0],[.sl 1 [],.sl 1 [],.sl 5 [],.sl 6 [],.int .i64 0,.sl 5 [],.sl 2 [],.sl 4 [],.sl 7 [],.sl 4 [],.sl 5 [],.sl 3 [],.sl 1 [],.sl 1 [],.sl 1 [],.sl 4 [],.int .i64 0,.sl 3 [],.sl 6 []],[(0,27),(4,36),(12,22),(13,47),(14,22),(15,94),(16,42)],none⟩),(102,⟨.struct,4,32,[.int .i64 0,.int .i64 0,.int .i64 0,.int .i64 0],[.int .i64 0,.int .i64 0,.int .i64 0,.int .i64 0],[(0,3),(1,3),(2,3),(3,3)],some [.int .i64,.int .i64,.int .i64,.int .i64]⟩),(104,⟨.struct,4,32,[.int .i64 0,.int .i64 0,.int .i64 0,.int .i64 0],[.int .i64 0,.int .i64 0,.int .i64 0,.int .i64 0],[(0,3),(1,3),(2,3),(3,3)],some [.int .i64,.int .i64,.int .i64,.int .i64]⟩),(109,⟨.sl 133 2,1,24,[.slice none 0 0],[.sl 2 []],[],none⟩),(111,⟨.struct,2,32,[.slice none 0 0,.int .i64 0],[.sl 2 [],.int .i64 0],[(0,109),(1,3)],none⟩),(114,⟨.int .u64,1,8,[.int .u64 0],[.int .u64 0],[],none⟩),(115,⟨.sl 4 1,1,24,[.slice none 0 0],[.sl 1 []],[],none⟩),(119,⟨.struct,2,16,[.int .i64 0,.int .i64 0],[.int .i64 0,.int .i64 0],[(0,3),(1,3)],some [.int .i64,.int .i64]⟩),(123,⟨.struct,2,32,[.slice none 0 0,.int .i64 0],[.sl 1 [],.int .i64 0],[(0,22),(1,3)],none⟩),(129,⟨.array 3 1 3,3,24,[.int .i64 0,.int .i64 0,.int .i64 0],[.int .i64 0,.int .i64 0,.int .i64 0],[(0,3),(1,3),(2,3)],none⟩),(131,⟨.array 4 1 4,4,4,[.bool false,.bool false,.bool false,.bool false],[.bool false,.bool false,.bool false,.bool false],[(0,4),(1,4),(2,4),(3,4)],none⟩),(133,⟨.struct,2,16,[.int .i64 0,.int .i64 0],[.int .i64 0,.int .i64 0],[(0,3),(1,3)],some [.int .i64,.int .i64]⟩),(139,⟨.struct,4,32,[.int .i64 0,.int .i64 0,.int .i64 0,.int .i64 0],[.int .i64 0,.int .i64 0,.int .i64 0,.int .i64 0],[(0,3),(1,3),(2,3),(3,3)],some [.int .i64,.int .i64,.int .i64,.int .i64]⟩),(142,⟨.struct,3,24,[.int .i64 0,.int .i64 0,.int .i64 0],[.int .i64 0,.int .i64 0,.int .i64 0],[(0,3),(1,3),(2,3)],some [.int .i64,.int .i64,.int .i64]⟩),(145,⟨.mpb,1,8,[.map none],[],[],none⟩),(147,⟨.sl 152 2,1,24,[.slice none 0 0],[.sl 2 []],[],none⟩),(152,⟨.struct,2,16,[.int .i64 0,.int .i64 0],[.int .i64 0,.int .i64 0],[(0,3),(1,3)],some [.int .i64,.int .i64]⟩),(166,⟨.struct,2,48,[.slice none 0 0,.slice none 0 0],[.sl 1 [],.sl 3 []],[(0,115),(1,62)],none⟩),(169,⟨.struct,4,32,[.int .i64 0,.int .i64 0,.int .i64 0,.int .i64 0],[.int .i64 0,.int .i64 0,.int .i64 0,.int .i64 0],[(0,133),(2,3),(3,3)],some [.int .i64,.int .i64,.int .i64,.int .i64]⟩),(176,⟨.struct,6,48,[.int .i64 0,.int .i64 0,.int .i64 0,.int .i64 0,.int .i64 0,.int .i64 0],[.int .i64 0,.int .i64 0,.int .i64 0,.int .i64 0,.int .i64 0,.int .i64 0],[(0,3),(1,3),(2,3),(3,3),(4,3),(5,3)],some [.int .i64,.int .i64,.int .i64,.int .i64,.int .i64,.int .i64]⟩),(194,⟨.sl 227 2,1,24,[.slice none 0 0],[.sl 2 []],[],none⟩),(199,⟨.sl 169 4,1,24,[.slice none 0 0],[.sl 4 []],[],none⟩),(211,⟨.struct,2,32,[.slice none 0 0,.int .i64 0],[.sl 2 [],.int .i64 0],[(0,194),(1,3)],none⟩),(214,⟨.sl 142 3,1,24,[.slice none 0 0],[.sl 3 []],[],none⟩),(223,⟨.struct,2,16,[.int .i64 0,.int .i64 0],[.int .i64 0,.int .i64 0],[(0,3),(1,3)],some [.int .i64,.int .i64]⟩),(227,⟨.struct,2,16,[.int .i64 0,.int .i64 0],[.int .i64 0,.int .i64 0],[(0,3),(1,3)],some [.int .i64,.int .i64]⟩),(231,⟨.struct,2,16,[.int .i64 0,.int .i64 0],[.int .i64 0,.int .i64 0],[(0,3),(1,3)],some [.int .i64,.int .i64]⟩),(252,⟨.struct,2,16,[.int .i64 0,.int .i64 0],[.int .i64 0,.int .i64 0],[(0,3),(1,3)],some [.int .i64,.int .i64]⟩),(257,⟨.sl 59 1,1,24,[.slice none 0 0],[.sl 1 []],[],none⟩),(266,⟨.int .u32,1,4,[.int .u32 0],[.int .u32 0],[],none⟩),(269,⟨.int .u64,1,8,[.int .u64 0],[.int .u64 0],[],none⟩),(281,⟨.int .u64,1,8,[.int .u64 0],[.int .u64 0],[],none⟩)]
theorem Qa1:TOk Tryz.prog gtt:=(show Q9j Tryz.prog [3,4,5,9,22,23,24,25,27,28,29,30,31,32,33,34,36,39,40,42,43,47,52,54,59,62,73,76,78,81,82,84,86,89,91,93,94,96,102,104,109,111,114,115,119,123,129,131,133,139,142,145,147,152,166,169,176,194,199,211,214,223,227,231,252,257,266,269,281]=gtt by kernel_rfl)▸Q8n _
theorem gVC {spec:Q1j} {cfg:List (Nat × Cfg)} (h:Ll Tryz.prog spec):VCOk Tryz.prog ⟨spec,gtt,cfg⟩:=⟨h,Qa1,by kernel_rfl⟩
structure VB where
 C:VC
 ok:VCOk Tryz.prog C
def Qa7 (l:List ((f:Nat) × EnP Tryz.prog f)):List (Nat × GV):=l.map fun e=>(e.1,e.2.E)
theorem Q3q:∀ l,Q30 Tryz.prog (Qa7 l)
 | []=>trivial
 | e::r=>⟨e.2.ok,Q3q r⟩
noncomputable def X5 (l:List ((f:Nat) × EnP Tryz.prog f)) (cfg:List (Nat × Cfg)):VB:=⟨⟨Gv (Qa7 l),gtt,cfg⟩,gVC (Ug (Q3q l))⟩
end Go.Vx
set_option maxRecDepth 100000
namespace Go.Vx
open Go.Proofs
noncomputable def AB (n:Nat):VB:=X5 [] [cK 0 [0],cO 1 [2] [5]]
noncomputable def Dw (n:Nat):EnP Tryz.prog 18:=mkG (AB n).ok nT 18 Tryz.f18 [sL 1] [eP 5 2,sL 1,sI] [5] (pK (S4 n))
noncomputable def Q0Q (n:Nat):VB:=X5 [] [cK 0 [0,1],cK 1 [4]]
noncomputable def Di (n:Nat):EnP Tryz.prog 12:=mkE (Q0Q n).ok nT 12 Tryz.f12 [[0]] [sI,sI] [sI] (pK (Ge n))

noncomputable def Re (n:Nat):VB:=X5 [⟨12,Di n⟩] [cO 0 [0,1] [1000000],cO 1 [0,1,14] [1000000],cO 2 [4] [1000000],cO 3 [0,1] [1000000],cO 4 [4] [1000000]]
noncomputable def YX (n:Nat):EnP Tryz.prog 20:=mkG (Re n).ok nT 20 Tryz.f20 [eP 1000000 2,sL 1,sI,sI] [sI,eI 1000000 2,sL 1,sI] [] (pK (Q4 n))

noncomputable def BA (n:Nat):VB:=X5 [] [cK 0 [0,1],cK 1 [4]]
noncomputable def S1 (n:Nat):EnP Tryz.prog 45:=mkE (BA n).ok nT 45 Tryz.f45 [[0]] [sT,sI] [sT] (pK (Uk n))

noncomputable def P2 (n:Nat):VB:=X5 [⟨20,YX n⟩] [cO 0 [0,1,2,6] [6,1000000],cO 1 [6] [6,1000000]]
noncomputable def S6 (n:Nat):EnP Tryz.prog 46:=mkG (P2 n).ok nT 46 Tryz.f46 [eP 1000000 2,sL 1,sI,sT,sI] [eA [qT,qI,qI,qI,qI],eI 1000000 2,sL 1,sI] [] (pK (ZA n))

noncomputable def P8 (n:Nat):VB:=X5 [] [(0,⟨[0,3],(zp (3::rg1 1000000 8 []) (3::1000000::rg1 98000 7 [])),[],[],[]⟩),(1,⟨[0],(zp (13::98000::98001::rg1 98003 4 [1000000]) (98002::98000::98001::rg1 98003 4 [1000000])),[],[],[]⟩),cO 2 [4] (rg1 98000 7 [1000000])]
noncomputable def PH (n:Nat):EnP Tryz.prog 47:=mkG (P8 n).ok nT 47 Tryz.f47 [eP 1000000 7,eR 1000001 9 1,eR 1000002 9 1,eR 1000003 86 5,eR 1000004 176 6,eR 1000005 22 1,eR 1000006 22 1,eR 1000007 22 1,eA [qT,qI,qI,qI,qI]] [sI,eI 1000000 7,eR 98000 9 1,eR 98001 9 1,eR 98002 86 5,eR 98003 176 6,eR 98004 22 1,eR 98005 22 1,eR 98006 22 1,eG 1000001,eG 1000002,eG 1000003,eG 1000004,eG 1000005,eG 1000006,eG 1000007] [98000,98001,98002,98003,98004,98005,98006] (pK (YC n))

noncomputable def Tc (n:Nat):VB:=X5 [] [(0,⟨[],(zp (22::rg1 1000000 4 (rg1 1000005 3 [])) (98003::1000000::rg1 98000 3 (rg1 98004 3 []))),[],[],[]⟩)]
noncomputable def Jr (n:Nat):EnP Tryz.prog 48:=mkG (Tc n).ok nT 48 Tryz.f48 [eP 1000000 7,eR 1000001 9 1,eR 1000002 9 1,eR 1000003 86 5,eR 1000004 176 6,eR 1000005 22 1,eR 1000006 22 1,eR 1000007 22 1,sI,sI,sI,sI] [eT 0,eI 1000000 7,eR 98000 9 1,eR 98001 9 1,eR 98002 86 5,eR 98003 176 6,eR 98004 22 1,eR 98005 22 1,eR 98006 22 1,eG 1000001,eG 1000002,eG 1000003,eG 1000004,eG 1000005,eG 1000006,eG 1000007] [98000,98001,98002,98003,98004,98005,98006] (pK (XN n))

noncomputable def HF (n:Nat):VB:=X5 [⟨45,S1 n⟩] [(0,⟨[0],(zp (rg1 1000000 8 []) (1000000::rg1 98000 7 [])),[],[],[]⟩),(1,⟨[0],(zp (17::98000::rg1 98002 5 [1000000]) (98001::98000::rg1 98002 5 [1000000])),[],[],[]⟩),cO 2 [2] (rg1 98000 7 [1000000])]
noncomputable def Tk (n:Nat):EnP Tryz.prog 93:=mkG (HF n).ok nT 93 Tryz.f93 [eP 1000000 7,eR 1000001 9 1,eR 1000002 9 1,eR 1000003 86 5,eR 1000004 176 6,eR 1000005 22 1,eR 1000006 22 1,eR 1000007 22 1] [sI,eI 1000000 7,eR 98000 9 1,eR 98001 9 1,eR 98002 86 5,eR 98003 176 6,eR 98004 22 1,eR 98005 22 1,eR 98006 22 1,eG 1000001,eG 1000002,eG 1000003,eG 1000004,eG 1000005,eG 1000006,eG 1000007] [98000,98001,98002,98003,98004,98005,98006] (pK (YQ n))

noncomputable def Jq (n:Nat):VB:=X5 [⟨93,Tk n⟩,⟨48,Jr n⟩] [(0,⟨(rg1 0 4 [8]),(zp (rg1 1000000 8 []) (1000000::rg1 98000 7 [])),[],[],[]⟩),cO 1 (rg1 0 4 [8,12]) (rg1 98000 7 [1000000]),(2,⟨(rg1 0 4 [8]),(zp (rg5 50014 7 [1000000]) (rg1 98000 7 [1000000])),[],[],[]⟩),cO 3 (rg1 0 4 [8,16,17]) (rg1 98000 7 [1000000]),cO 4 (rg1 0 4 [8,16,17,18]) (rg1 98000 7 [1000000]),cO 5 (rg1 0 4 [8,9,16,17]) (rg1 98000 7 [1000000]),cO 6 (rg1 0 4 [8,9,16,17,20]) (rg1 98000 7 [1000000]),(7,⟨(rg1 0 4 [8,16,17]),(zp (rg5 50029 7 [1000000]) (rg1 98000 7 [1000000])),[],[],[]⟩),(8,⟨(rg1 0 4 [8,16,17]),(zp (rg5 50038 7 [1000000]) (rg1 98000 7 [1000000])),[],[],[]⟩),cO 9 (rg1 0 4 [8,16,17]) (rg1 98000 7 [1000000])]
noncomputable def Pb (n:Nat) (m:Nat):LpE Tryz.prog:=mkL (Jq n).ok nT 4 (cA [1,1,1,2,2] (Q6 Tryz.f49)) ⟨40,[(0,.ptr 1000000 0),(1,tI),(2,.l 1),(3,.b),(8,tI),(16,tI),(17,tI)],[(98000,.arr 9 1),(98001,.arr 9 1),(98002,.arr 86 5),(98003,.arr 176 6),(98004,.arr 22 1),(98005,.arr 22 1),(98006,.arr 22 1),(1000000,.box [.arr 98000,.arr 98001,.arr 98002,.arr 98003,.arr 98004,.arr 98005,.arr 98006])]⟩ [yI,yL,yB,yI,yI,yI,yL,yL,yL,yL,yL,yL,yL] (fun m R k i j l o p a b c d e f g h=>Qs n i j l o p (fun a q b c d e f g h=>k (.exit 0) ⟨40,[(0,.ptr 1000000 0),(1,dI i),(2,dL 1 j),(3,dB l),(8,dI o),(16,dI p),(17,dI a),(18,dB q)],[(98000,.arr 9 1 b),(98001,.arr 9 1 c),(98002,.arr 86 5 d),(98003,.arr 176 6 e),(98004,.arr 22 1 f),(98005,.arr 22 1 g),(98006,.arr 22 1 h),(1000000,.box [.arr 98000,.arr 98001,.arr 98002,.arr 98003,.arr 98004,.arr 98005,.arr 98006])]⟩) m a b c d e f g h) m
noncomputable def Pz (n:Nat):EnP Tryz.prog 49:=mkG (Jq n).ok [Pb n n] 49 Tryz.f49 [eP 1000000 7,eR 1000001 9 1,eR 1000002 9 1,eR 1000003 86 5,eR 1000004 176 6,eR 1000005 22 1,eR 1000006 22 1,eR 1000007 22 1,sI,sL 1,sB] [eT 0,eI 1000000 7,eR 98000 9 1,eR 98001 9 1,eR 98002 86 5,eR 98003 176 6,eR 98004 22 1,eR 98005 22 1,eR 98006 22 1,eG 1000001,eG 1000002,eG 1000003,eG 1000004,eG 1000005,eG 1000006,eG 1000007] [98000,98001,98002,98003,98004,98005,98006] (pK (WY n))

noncomputable def Jy (n:Nat):VB:=X5 [⟨20,YX n⟩,⟨45,S1 n⟩,⟨46,S6 n⟩,⟨47,PH n⟩,⟨48,Jr n⟩,⟨49,Pz n⟩] [cO 0 [0] [1000000],cO 1 [0,3] [14,1000000],cO 2 [0,3,4] [14,1000000],(3,⟨[0,3,4,5],[(14,14),(1000000,1000000)],[],[(14,0,501400,9,1),(14,1,501401,9,1),(14,2,501402,86,5),(14,3,501403,176,6),(14,4,501404,22,1),(14,5,501405,22,1),(14,6,501406,22,1)],[]⟩),cO 4 [0,3,4,5,20] (14::rg1 501400 7 [1000000]),cO 5 [0,3,4,5] (14::32::67::rg1 501401 3 [501405,501406,1000000]),cO 6 [0,3,4,5] (14::32::rg1 501401 6 [1000000]),cO 7 [0,3,4,5,6] (14::32::rg1 501401 6 [1000000]),(8,⟨(0::rg1 3 5 []),(zp (14::32::rg1 501401 6 [1000000]) (14::32::rg1 501401 6 [1000000])),[(6,1006,3,1)],[],[]⟩),cO 9 (0::rg1 3 5 [40]) (14::32::1006::rg1 501401 6 [1000000]),cO 10 (0::rg1 3 5 []) (14::59::rg5 50057 7 [1000000]),cO 11 (0::rg1 3 6 []) (8::14::32::1006::rg1 501401 6 [1000000]),cO 12 (0::rg1 3 6 []) (8::14::32::1006::rg1 501401 6 [1000000]),cO 13 (0::rg1 3 5 []) (14::59::rg5 50057 7 [1000000]),cO 14 [0,3,4,5] (14::32::67::rg1 501401 3 [501405,501406,1000000]),cO 15 [0,3,4,9] (14::rg1 501400 7 [1000000]),cO 16 [0,3,4,9,73] (14::rg1 501400 7 [1000000]),cO 17 [0,3,4,9] (14::147::rg5 50139 5 [350139,1000000]),cO 18 [0,3,4,9,10] (14::rg1 501400 7 [1000000]),(19,⟨[0,3,4,9,10,11],(zp (14::rg1 501400 7 [1000000]) (14::rg1 501400 7 [1000000])),[(10,1010,3,1)],[],[]⟩),cO 20 [0,3,4,9,10,11,80] (14::1010::rg1 501400 7 [1000000]),cO 21 [0,3,4,9,10,11] (14::93::rg5 50091 7 [1000000]),cO 22 [0,3,4,9,10,11] (14::93::rg5 50091 7 [1000000]),cO 23 [0,3,4,9,10,12] (14::1010::rg1 501400 7 [1000000]),cO 24 [0,3,4,9,10,12,98] (14::1010::rg1 501400 7 [1000000]),cO 25 [0,3,4,9,10,12] (14::1010::rg5 50111 7 [1000000]),cO 26 [0,3,4,9,10,12] (14::1010::rg5 50111 7 [1000000]),cO 27 [0,3,4,9,10] (14::1010::rg5 50123 7 [1000000]),cO 28 [0,3,4,9,10] (14::1010::rg5 50139 7 [1000000]),cO 29 [0,3,4,9] (14::147::rg5 50139 5 [350139,1000000]),cO 30 [2] (14::rg1 501400 7 [1000000]),(3000000004,⟨[0,3,4,5],(zp (14::32::rg1 501400 4 (67::rg1 501404 3 [1000000])) (14::501400::rg1 501400 5 (rg1 501404 3 [1000000]))),[],[],[]⟩),(3000000009,⟨(0::rg1 3 5 []),(zp [14,32,50057,59,1006,100057,501401,150057,501402,200057,501403,250057,501404,300057,501405,350057,501406,1000000] [14,32,32,1006,1006,501401,501401,501402,501402,501403,501403,501404,501404,501405,501405,501406,501406,1000000]),[],[],[]⟩),(3000000016,⟨[0,3,4,9],(zp [14,50139,501400,100139,501401,150139,501402,200139,501403,250139,501404,147,501405,350139,501406,1000000] [14,501400,501400,501401,501401,501402,501402,501403,501403,501404,501404,501405,501405,501406,501406,1000000]),[],[],[]⟩),(3000000020,⟨[0,3,4,9,10,11],(zp [14,93,1010,50091,501400,100091,501401,150091,501402,200091,501403,250091,501404,300091,501405,350091,501406,1000000] [14,1010,1010,501400,501400,501401,501401,501402,501402,501403,501403,501404,501404,501405,501405,501406,501406,1000000]),[],[],[]⟩),(3000000024,⟨[0,3,4,9,10,12],(zp [14,1010,50111,501400,100111,501401,150111,501402,200111,501403,250111,501404,300111,501405,350111,501406,1000000] [14,1010,501400,501400,501401,501401,501402,501402,501403,501403,501404,501404,501405,501405,501406,501406,1000000]),[],[],[]⟩)]
noncomputable def Q2v (n:Nat) (m:Nat):LpE Tryz.prog:=mkL (Jy n).ok nT 9 (cA [1,1,1,0,1,2,2,1,0,2,1,1,0,1,2,2] (Q6 Tryz.f19)) ⟨151,[(0,.ptr 1000000 0),(3,.ptr 14 0),(4,tI),(5,tI),(6,.arr 1006),(7,tI)],[(14,.box [.arr 32,.arr 501401,.arr 501402,.arr 501403,.arr 501404,.arr 501405,.arr 501406]),(32,.arr 9 1),(1006,.arr 3 1),(501401,.arr 9 1),(501402,.arr 86 5),(501403,.arr 176 6),(501404,.arr 22 1),(501405,.arr 22 1),(501406,.arr 22 1),(1000000,.box [.l 1,tI])]⟩ [yI,yI,yI,yL,yL,yL,yL,yL,yL,yL,yL,yL,yI] (fun m R k p o a b c d e f g h i j l=>Vm n o (fun a q b c d e f g h i j l=>k (.exit 2) ⟨151,[(0,.ptr 1000000 0),(3,.ptr 14 0),(4,dI p),(5,dI o),(6,.arr 1006),(7,dI a),(40,dB q)],[(14,.box [.arr 32,.arr 501401,.arr 501402,.arr 501403,.arr 501404,.arr 501405,.arr 501406]),(32,.arr 9 1 b),(1006,.arr 3 1 c),(501401,.arr 9 1 d),(501402,.arr 86 5 e),(501403,.arr 176 6 f),(501404,.arr 22 1 g),(501405,.arr 22 1 h),(501406,.arr 22 1 i),(1000000,.box [dL 1 j,dI l])]⟩) m a b c d e f g h i j l) m
noncomputable def Q2k (n:Nat) (m:Nat):LpE Tryz.prog:=mkL (Jy n).ok [Q2v n n] 4 (cA [1,1,1,0,1,2,2] (Q6 Tryz.f19)) ⟨151,[(0,.ptr 1000000 0),(3,.ptr 14 0),(4,tI),(5,tI)],[(14,.box [.arr 501400,.arr 501401,.arr 501402,.arr 501403,.arr 501404,.arr 501405,.arr 501406]),(501400,.arr 9 1),(501401,.arr 9 1),(501402,.arr 86 5),(501403,.arr 176 6),(501404,.arr 22 1),(501405,.arr 22 1),(501406,.arr 22 1),(1000000,.box [.l 1,tI])]⟩ [yI,yI,yL,yL,yL,yL,yL,yL,yL,yL,yI] (fun m R k h2 a b c d e f g h i j=>Wr n h2 (fun a l b c d e f g h i j=>k (.exit 0) ⟨151,[(0,.ptr 1000000 0),(3,.ptr 14 0),(4,dI h2),(5,dI a),(20,dB l)],[(14,.box [.arr 501400,.arr 501401,.arr 501402,.arr 501403,.arr 501404,.arr 501405,.arr 501406]),(501400,.arr 9 1 b),(501401,.arr 9 1 c),(501402,.arr 86 5 d),(501403,.arr 176 6 e),(501404,.arr 22 1 f),(501405,.arr 22 1 g),(501406,.arr 22 1 h),(1000000,.box [dL 1 i,dI j])]⟩) m a b c d e f g h i j) m
noncomputable def Q2f (n:Nat) (m:Nat):LpE Tryz.prog:=mkL (Jy n).ok nT 20 (cA [1,1,1,1,0,1,2,2,1,0,2,1,0,1,2,2] (Q6 Tryz.f19)) ⟨151,[(0,.ptr 1000000 0),(3,.ptr 14 0),(4,tI),(9,tI),(10,.arr 1010),(11,tI)],[(14,.box [.arr 501400,.arr 501401,.arr 501402,.arr 501403,.arr 501404,.arr 501405,.arr 501406]),(1010,.arr 3 1),(501400,.arr 9 1),(501401,.arr 9 1),(501402,.arr 86 5),(501403,.arr 176 6),(501404,.arr 22 1),(501405,.arr 22 1),(501406,.arr 22 1),(1000000,.box [.l 1,tI])]⟩ [yI,yI,yI,yL,yL,yL,yL,yL,yL,yL,yL,yL,yI] (fun m R k p o a b c d e f g h i j l=>Vl n o (fun a q b c d e f g h i j l=>k (.exit 6) ⟨151,[(0,.ptr 1000000 0),(3,.ptr 14 0),(4,dI p),(9,dI o),(10,.arr 1010),(11,dI a),(80,dB q)],[(14,.box [.arr 501400,.arr 501401,.arr 501402,.arr 501403,.arr 501404,.arr 501405,.arr 501406]),(1010,.arr 3 1 b),(501400,.arr 9 1 c),(501401,.arr 9 1 d),(501402,.arr 86 5 e),(501403,.arr 176 6 f),(501404,.arr 22 1 g),(501405,.arr 22 1 h),(501406,.arr 22 1 i),(1000000,.box [dL 1 j,dI l])]⟩) m a b c d e f g h i j l) m
noncomputable def Q1m (n:Nat) (m:Nat):LpE Tryz.prog:=mkL (Jy n).ok nT 24 (cA [1,1,1,1,0,1,2,2,1,0,2,1,1,0,1,2,2] (Q6 Tryz.f19)) ⟨151,[(0,.ptr 1000000 0),(3,.ptr 14 0),(4,tI),(9,tI),(10,.arr 1010),(12,tI)],[(14,.box [.arr 501400,.arr 501401,.arr 501402,.arr 501403,.arr 501404,.arr 501405,.arr 501406]),(1010,.arr 3 1),(501400,.arr 9 1),(501401,.arr 9 1),(501402,.arr 86 5),(501403,.arr 176 6),(501404,.arr 22 1),(501405,.arr 22 1),(501406,.arr 22 1),(1000000,.box [.l 1,tI])]⟩ [yI,yI,yI,yL,yL,yL,yL,yL,yL,yL,yL,yL,yI] (fun m R k j l a i b c d e f g h o p=>T2 n i (fun a q b c d e f g h=>k (.exit 8) ⟨151,[(0,.ptr 1000000 0),(3,.ptr 14 0),(4,dI j),(9,dI l),(10,.arr 1010),(12,dI a),(98,dB q)],[(14,.box [.arr 501400,.arr 501401,.arr 501402,.arr 501403,.arr 501404,.arr 501405,.arr 501406]),(1010,.arr 3 1 i),(501400,.arr 9 1 b),(501401,.arr 9 1 c),(501402,.arr 86 5 d),(501403,.arr 176 6 e),(501404,.arr 22 1 f),(501405,.arr 22 1 g),(501406,.arr 22 1 h),(1000000,.box [dL 1 o,dI p])]⟩) m a b c d e f g h) m
noncomputable def Q1J (n:Nat) (m:Nat):LpE Tryz.prog:=mkL (Jy n).ok [Q2f n n,Q1m n n] 16 (cA [1,1,1,1,0,1,2,2] (Q6 Tryz.f19)) ⟨151,[(0,.ptr 1000000 0),(3,.ptr 14 0),(4,tI),(9,tI)],[(14,.box [.arr 501400,.arr 501401,.arr 501402,.arr 501403,.arr 501404,.arr 501405,.arr 501406]),(501400,.arr 9 1),(501401,.arr 9 1),(501402,.arr 86 5),(501403,.arr 176 6),(501404,.arr 22 1),(501405,.arr 22 1),(501406,.arr 22 1),(1000000,.box [.l 1,tI])]⟩ [yI,yI,yL,yL,yL,yL,yL,yL,yL,yL,yI] (fun m R k l a b c d e f g h i j=>Wm n l (fun a o b c d e f g h i j=>k (.exit 4) ⟨151,[(0,.ptr 1000000 0),(3,.ptr 14 0),(4,dI l),(9,dI a),(73,dB o)],[(14,.box [.arr 501400,.arr 501401,.arr 501402,.arr 501403,.arr 501404,.arr 501405,.arr 501406]),(501400,.arr 9 1 b),(501401,.arr 9 1 c),(501402,.arr 86 5 d),(501403,.arr 176 6 e),(501404,.arr 22 1 f),(501405,.arr 22 1 g),(501406,.arr 22 1 h),(1000000,.box [dL 1 i,dI j])]⟩) m a b c d e f g h i j) m
noncomputable def Q3T (n:Nat):EnP Tryz.prog 19:=mkG (Jy n).ok [Q2k n n,Q1J n n] 19 Tryz.f19 [eP 1000000 2,sL 1,sI] [eP 14 7,eR 501400 9 1,eR 501401 9 1,eR 501402 86 5,eR 501403 176 6,eR 501404 22 1,eR 501405 22 1,eR 501406 22 1,eI 1000000 2,sL 1,sI] [14,501400,501401,501402,501403,501404,501405,501406] (pK (E3 n))

noncomputable def WL (n:Nat):VB:=X5 [] [(0,⟨(rg1 0 5 [10]),(zp (10::rg1 1000000 8 []) (10::1000000::rg1 98000 7 [])),[],[],[]⟩),cO 1 (rg1 1 4 [10,11,12]) (10::rg1 98000 7 [1000000]),cO 2 (rg1 1 4 (rg1 10 4 [])) (10::13::rg1 98000 7 [1000000]),cO 3 [1,2,3,10,11,12,13,27] (10::13::rg1 98000 7 [1000000]),cO 4 [1,3,10,11,12,13] (10::13::45::rg1 98000 7 [1000000]),cO 5 (1::3::rg1 10 4 [48,49]) (10::13::45::rg1 98000 7 [1000000]),cO 6 (1::3::rg1 10 4 [48,49,50]) (10::13::45::rg1 98000 7 [1000000]),cO 7 (1::3::rg1 10 5 [48,49]) (10::13::45::rg1 98000 7 [1000000]),cO 8 (1::3::rg1 10 4 [48,49]) (10::13::60::rg1 98000 7 [1000000]),cO 9 (1::3::rg1 10 4 [48,49]) (10::13::60::rg1 98000 7 [1000000]),cO 10 [10,13] (10::13::82::rg1 98000 7 [1000000]),(11,⟨[10],(zp (10::rg1 98000 7 [1000000,82]) (10::rg1 98000 7 [1000000,96001])),[],[],[]⟩),cO 12 [1,2,10,11,12,13] (10::13::104::rg1 98000 7 [1000000]),cO 13 (1::2::rg1 10 4 [15]) (10::13::104::rg1 98000 7 [1000000]),cO 14 (1::2::rg1 10 4 [15,110]) (10::13::104::rg1 98000 7 [1000000]),cO 15 (1::2::rg1 10 4 [15]) (10::13::121::rg1 98000 7 [1000000]),cO 16 (1::2::rg1 10 4 [15]) (10::13::121::rg1 98000 7 [1000000]),cO 17 [10,13] (10::13::140::rg1 98000 7 [1000000]),(18,⟨[10],(zp (10::rg1 98000 7 [1000000,140]) (10::rg1 98000 7 [1000000,96001])),[],[],[]⟩),(3000000006,⟨(1::3::rg1 10 4 [48,49]),(zp (10::13::45::60::rg1 98000 7 [1000000]) (10::13::45::45::rg1 98000 7 [1000000])),[],[],[]⟩),(3000000014,⟨(1::2::rg1 10 4 [15]),(zp (10::13::104::121::rg1 98000 7 [1000000]) (10::13::104::104::rg1 98000 7 [1000000])),[],[],[]⟩)]
noncomputable def HP (n:Nat) (m:Nat):LpE Tryz.prog:=mkL (WL n).ok nT 6 (cA [1,1,1,0,1,3,1,0,1,2,2] (Q6 Tryz.f50)) ⟨143,[(1,tI),(3,tI),(10,.ptr 10 0),(11,.l 1),(12,.arr 98004),(13,.ptr 13 0),(48,tI),(49,tI)],[(10,.box [.nil,.ci .i64 0]),(13,.box [.arr 45,.ci .i64 0]),(45,.arr 133 2),(98000,.arr 9 1),(98001,.arr 9 1),(98002,.arr 86 5),(98003,.arr 176 6),(98004,.arr 22 1),(98005,.arr 22 1),(98006,.arr 22 1),(1000000,.box [.arr 98000,.arr 98001,.arr 98002,.arr 98003,.arr 98004,.arr 98005,.arr 98006])]⟩ [yI,yI,yL,yI,yI,yL,yL,yL,yL,yL,yL,yL,yL] (fun m R k e f c d a b g h i j l o p=>YW n c d (fun a q b=>k (.exit 0) ⟨143,[(1,dI e),(3,dI f),(10,.ptr 10 0),(11,dL 1 c),(12,.arr 98004),(13,.ptr 13 0),(48,dI d),(49,dI a),(50,dB q)],[(10,.box [.nil,dI (0:Int)]),(13,.box [.arr 45,dI (0:Int)]),(45,.arr 133 2 b),(98000,.arr 9 1 g),(98001,.arr 9 1 h),(98002,.arr 86 5 i),(98003,.arr 176 6 j),(98004,.arr 22 1 l),(98005,.arr 22 1 o),(98006,.arr 22 1 p),(1000000,.box [.arr 98000,.arr 98001,.arr 98002,.arr 98003,.arr 98004,.arr 98005,.arr 98006])]⟩) m a b) m
noncomputable def Hs (n:Nat) (m:Nat):LpE Tryz.prog:=mkL (WL n).ok nT 14 (cA [1,1,1,1,1,0,1,2,2] (Q6 Tryz.f50)) ⟨143,[(1,tI),(2,tI),(10,.ptr 10 0),(11,.l 1),(12,.arr 98004),(13,.ptr 13 0),(15,tI)],[(10,.box [.nil,.ci .i64 0]),(13,.box [.arr 104,.ci .i64 0]),(104,.arr 133 2),(98000,.arr 9 1),(98001,.arr 9 1),(98002,.arr 86 5),(98003,.arr 176 6),(98004,.arr 22 1),(98005,.arr 22 1),(98006,.arr 22 1),(1000000,.box [.arr 98000,.arr 98001,.arr 98002,.arr 98003,.arr 98004,.arr 98005,.arr 98006])]⟩ [yI,yI,yL,yI,yL,yL,yL,yL,yL,yL,yL,yL] (fun m R k d e c a b f g h i j l o=>Z3 n c (fun a p b=>k (.exit 2) ⟨143,[(1,dI d),(2,dI e),(10,.ptr 10 0),(11,dL 1 c),(12,.arr 98004),(13,.ptr 13 0),(15,dI a),(110,dB p)],[(10,.box [.nil,dI (0:Int)]),(13,.box [.arr 104,dI (0:Int)]),(104,.arr 133 2 b),(98000,.arr 9 1 f),(98001,.arr 9 1 g),(98002,.arr 86 5 h),(98003,.arr 176 6 i),(98004,.arr 22 1 j),(98005,.arr 22 1 l),(98006,.arr 22 1 o),(1000000,.box [.arr 98000,.arr 98001,.arr 98002,.arr 98003,.arr 98004,.arr 98005,.arr 98006])]⟩) m a b) m
noncomputable def TD (n:Nat):EnP Tryz.prog 50:=mkG (WL n).ok [HP n n,Hs n n] 50 Tryz.f50 [eP 1000000 7,eR 1000001 9 1,eR 1000002 9 1,eR 1000003 86 5,eR 1000004 176 6,eR 1000005 22 1,eR 1000006 22 1,eR 1000007 22 1,sI,sI,sI,sB] [eO 2,eR 96001 133 2,sI,eI 1000000 7,eR 98000 9 1,eR 98001 9 1,eR 98002 86 5,eR 98003 176 6,eR 98004 22 1,eR 98005 22 1,eR 98006 22 1,eG 1000001,eG 1000002,eG 1000003,eG 1000004,eG 1000005,eG 1000006,eG 1000007] [96001,98000,98001,98002,98003,98004,98005,98006] (pK (Y1 n))

noncomputable def U8 (n:Nat):VB:=X5 [⟨45,S1 n⟩,⟨20,YX n⟩,⟨50,TD n⟩] [(0,⟨(rg1 0 5 [10]),(zp (10::rg1 1000000 17 []) (10::1000000::rg1 98000 7 (1000008::1000009::rg1 98361 7 []))),[],[],[]⟩),cO 1 (rg1 0 5 [10,11]) (10::11::rg1 98000 7 (rg1 98361 7 [1000000,1000008,1000009])),cO 2 (rg1 0 5 [10,11,25]) (10::11::rg1 98000 7 (rg1 98361 7 [1000000,1000008,1000009])),cO 3 (rg1 0 5 [10,11,25,26]) (10::11::rg1 98000 7 (rg1 98361 7 [1000000,1000008,1000009])),cO 4 (rg1 0 5 [10,11,12,25]) (10::11::rg1 98000 7 (rg1 98361 7 [1000000,1000008,1000009])),cO 5 (rg1 0 5 [10,11,25]) (10::11::rg1 98000 7 (rg1 98361 7 [1000000,1000008,1000009])),cO 6 (rg1 0 5 [10,11,25]) (10::11::rg1 98000 7 (rg1 98361 7 [1000000,1000008,1000009])),(7,⟨(rg1 0 5 [10,11,13]),(zp (10::11::rg1 98000 7 (rg1 98361 7 [1000000,1000008,1000009])) (10::11::rg1 98000 7 (rg1 98361 7 [1000000,1000008,1000009]))),[],[(10,3,1103,102,4)],[]⟩),cO 8 (rg1 0 5 [10,11,13,35]) (10::11::1103::rg1 98000 7 (rg1 98361 7 [1000000,1000008,1000009])),cO 9 (rg1 0 5 [10,11,13]) (10::11::92::rg1 98000 7 (rg1 98361 7 [1000000,1000008,1000009])),cO 10 (rg1 0 5 [10,11,13,14]) (10::11::1103::rg1 98000 7 (rg1 98361 7 [1000000,1000008,1000009])),cO 11 (rg1 0 5 [10,11,13,14,40]) (10::11::1103::rg1 98000 7 (rg1 98361 7 [1000000,1000008,1000009])),cO 12 (rg1 0 5 [10,11,13,14]) (10::11::1103::rg1 98000 7 (rg1 98361 7 [1000000,1000008,1000009])),(13,⟨(rg1 0 5 [10,11,13]),(zp (10::11::62::1103::98361::rg1 98363 5 (rg5 100060 7 [1000000,1000008,1000009])) (10::11::98362::1103::98361::rg1 98363 5 (rg1 98000 7 [1000000,1000008,1000009]))),[],[],[]⟩),cO 14 (rg1 0 5 [10,11,13,15]) (10::11::15::1103::rg1 98000 7 (rg1 98361 7 [1000000,1000008,1000009])),cO 15 (rg1 0 5 [10,11,13,15,77]) (10::11::15::1103::rg1 98000 7 (rg1 98361 7 [1000000,1000008,1000009])),cO 16 (rg1 0 5 [10,11,13,15]) (10::11::15::1103::rg1 98000 7 (rg1 98361 7 [1000000,1000008,1000009])),cO 17 (rg1 0 5 [10,11,13,15]) (10::11::15::1103::rg1 98000 7 (rg1 98361 7 [1000000,1000008,1000009])),cO 18 (rg1 0 5 [10,11,13]) (10::11::92::rg1 98000 7 (rg1 98361 7 [1000000,1000008,1000009])),(19,⟨[],(zp (101::rg1 98000 7 (98361::98362::rg1 98364 4 [1000000,1000008,1000009])) (98363::rg1 98000 7 (98361::98362::rg1 98364 4 [1000000,1000008,1000009]))),[],[],[]⟩),(3000000008,⟨(rg1 0 5 [10,11,13]),(zp (10::11::92::1103::rg1 98000 7 (rg1 98361 7 [1000000,1000008,1000009])) (10::11::1103::1103::rg1 98000 7 (rg1 98361 7 [1000000,1000008,1000009]))),[],[],[]⟩)]
noncomputable def Th (n:Nat) (m:Nat):LpE Tryz.prog:=mkL (U8 n).ok nT 3 (cA [1,1,0,1,2,2] (Q6 Tryz.f21)) ⟨104,[(0,.ptr 1000000 0),(1,.ptr 1000008 0),(2,.ptr 1000009 0),(3,.b),(4,tI),(10,.ptr 10 0),(11,.ac 11 0 0),(25,tI)],[(10,.box [.t,.ci .i64 0,tI,.nil]),(11,.arr 129 1),(98000,.arr 9 1),(98001,.arr 9 1),(98002,.arr 86 5),(98003,.arr 176 6),(98004,.arr 22 1),(98005,.arr 22 1),(98006,.arr 22 1),(98361,.arr 73 5),(98362,.arr 111 2),(98363,.arr 84 4),(98364,.arr 81 7),(98365,.arr 104 4),(98366,.arr 89 5),(98367,.arr 91 3),(1000000,.box [.arr 98000,.arr 98001,.arr 98002,.arr 98003,.arr 98004,.arr 98005,.arr 98006]),(1000008,.box [.l 1,tI]),(1000009,.box [tI,.arr 98361,.arr 98362,.arr 98363,.arr 98364,.arr 98365,.arr 98366,.arr 98367])]⟩ [yB,yI,yI,yT,yI,yL,yL,yL,yL,yL,yL,yL,yL,yL,yL,yL,yL,yL,yL,yL,yL,yI,yI] (fun m R k e f a g h b i j l o p q r s t u v x y z c d aa=>Zb n  (fun a ab b c d=>k (.exit 0) ⟨104,[(0,.ptr 1000000 0),(1,.ptr 1000008 0),(2,.ptr 1000009 0),(3,dB e),(4,dI f),(10,.ptr 10 0),(11,.ap 11 0 0),(25,dI a),(26,dB ab)],[(10,.box [dT g,dI (0:Int),dI h,.nil]),(11,.arr 129 1 b),(98000,.arr 9 1 i),(98001,.arr 9 1 j),(98002,.arr 86 5 l),(98003,.arr 176 6 o),(98004,.arr 22 1 p),(98005,.arr 22 1 q),(98006,.arr 22 1 r),(98361,.arr 73 5 s),(98362,.arr 111 2 t),(98363,.arr 84 4 u),(98364,.arr 81 7 v),(98365,.arr 104 4 x),(98366,.arr 89 5 y),(98367,.arr 91 3 z),(1000000,.box [.arr 98000,.arr 98001,.arr 98002,.arr 98003,.arr 98004,.arr 98005,.arr 98006]),(1000008,.box [dL 1 c,dI d]),(1000009,.box [dI aa,.arr 98361,.arr 98362,.arr 98363,.arr 98364,.arr 98365,.arr 98366,.arr 98367])]⟩) m a b c d) m
noncomputable def Tz (n:Nat) (m:Nat):LpE Tryz.prog:=mkL (U8 n).ok nT 8 (cA [1,1,1,0,1,2,2] (Q6 Tryz.f21)) ⟨104,[(0,.ptr 1000000 0),(1,.ptr 1000008 0),(2,.ptr 1000009 0),(3,.b),(4,tI),(10,.ptr 10 0),(11,.ac 11 0 0),(13,tI)],[(10,.box [.t,.ci .i64 0,tI,.arr 1103]),(11,.arr 129 1),(1103,.arr 102 4),(98000,.arr 9 1),(98001,.arr 9 1),(98002,.arr 86 5),(98003,.arr 176 6),(98004,.arr 22 1),(98005,.arr 22 1),(98006,.arr 22 1),(98361,.arr 73 5),(98362,.arr 111 2),(98363,.arr 84 4),(98364,.arr 81 7),(98365,.arr 104 4),(98366,.arr 89 5),(98367,.arr 91 3),(1000000,.box [.arr 98000,.arr 98001,.arr 98002,.arr 98003,.arr 98004,.arr 98005,.arr 98006]),(1000008,.box [.l 1,tI]),(1000009,.box [tI,.arr 98361,.arr 98362,.arr 98363,.arr 98364,.arr 98365,.arr 98366,.arr 98367])]⟩ [yB,yI,yI,yT,yI,yL,yL,yL,yL,yL,yL,yL,yL,yL,yL,yL,yL,yL,yL,yL,yL,yL,yI,yI] (fun m R k p q a s t r b c d e f g h i u j v x y z aa l o ab=>Qy n p q r (fun a ac b c d e f g h i j l o=>k (.exit 2) ⟨104,[(0,.ptr 1000000 0),(1,.ptr 1000008 0),(2,.ptr 1000009 0),(3,dB p),(4,dI q),(10,.ptr 10 0),(11,.ap 11 0 0),(13,dI a),(35,dB ac)],[(10,.box [dT s,dI (0:Int),dI t,.arr 1103]),(11,.arr 129 1 r),(1103,.arr 102 4 b),(98000,.arr 9 1 c),(98001,.arr 9 1 d),(98002,.arr 86 5 e),(98003,.arr 176 6 f),(98004,.arr 22 1 g),(98005,.arr 22 1 h),(98006,.arr 22 1 i),(98361,.arr 73 5 u),(98362,.arr 111 2 j),(98363,.arr 84 4 v),(98364,.arr 81 7 x),(98365,.arr 104 4 y),(98366,.arr 89 5 z),(98367,.arr 91 3 aa),(1000000,.box [.arr 98000,.arr 98001,.arr 98002,.arr 98003,.arr 98004,.arr 98005,.arr 98006]),(1000008,.box [dL 1 l,dI o]),(1000009,.box [dI ab,.arr 98361,.arr 98362,.arr 98363,.arr 98364,.arr 98365,.arr 98366,.arr 98367])]⟩) m a b c d e f g h i j l o) m
noncomputable def P7 (n:Nat):EnP Tryz.prog 21:=mkG (U8 n).ok [Th n n,Tz n n] 21 Tryz.f21 [eP 1000000 7,eR 1000001 9 1,eR 1000002 9 1,eR 1000003 86 5,eR 1000004 176 6,eR 1000005 22 1,eR 1000006 22 1,eR 1000007 22 1,eP 1000008 2,sL 1,sI,eP 1000009 8,sI,eR 1000010 73 5,eR 1000011 111 2,eR 1000012 84 4,eR 1000013 81 7,eR 1000014 104 4,eR 1000015 89 5,eR 1000016 91 3,sB,sI] [eT 0,eI 1000000 7,eR 98000 9 1,eR 98001 9 1,eR 98002 86 5,eR 98003 176 6,eR 98004 22 1,eR 98005 22 1,eR 98006 22 1,eI 1000008 2,sL 1,sI,eI 1000009 8,sI,eR 98361 73 5,eR 98362 111 2,eR 98363 84 4,eR 98364 81 7,eR 98365 104 4,eR 98366 89 5,eR 98367 91 3,eG 1000001,eG 1000002,eG 1000003,eG 1000004,eG 1000005,eG 1000006,eG 1000007,eG 1000010,eG 1000011,eG 1000012,eG 1000013,eG 1000014,eG 1000015,eG 1000016] [98000,98001,98002,98003,98004,98005,98006,98361,98362,98363,98364,98365,98366,98367] (pK (Wz n))

noncomputable def Q0i (n:Nat):VB:=X5 [] [cO 0 [1,2,3] [3],cO 1 [7] [7],cK 2 [6]]
noncomputable def D6 (n:Nat):EnP Tryz.prog 23:=mkE (Q0i n).ok nT 23 Tryz.f23 [[0]] [eA [qI,qL 5,qL 2,qL 4,qL 7,qL 4,qL 5,qL 3],sI,sI] [sI] (pK (PT n))

noncomputable def Af (n:Nat):VB:=X5 [] [cO 0 [1,2,3] [3],cK 1 [6]]
noncomputable def LM (n:Nat):EnP Tryz.prog 24:=mkE (Af n).ok nT 24 Tryz.f24 [[0]] [eA [qI,qL 5,qL 2,qL 4,qL 7,qL 4,qL 5,qL 3],sI,sI] [sI] (pK (Ht n))

noncomputable def Gp (n:Nat):VB:=X5 [⟨20,YX n⟩,⟨23,D6 n⟩,⟨24,LM n⟩] [(0,⟨[0,1,4,5],(zp (4::5::rg1 1000000 9 []) (4::5::1000000::1000001::rg1 98041 7 [])),[],[],[]⟩),cO 1 [0,1,4,5,13,14] (4::5::rg1 98041 7 [1000000,1000001]),cO 2 [0,1,4,5,13,14,15] (4::5::rg1 98041 7 [1000000,1000001]),cO 3 [0,1,4,5,6,13,14] (4::5::rg1 98041 7 [1000000,1000001]),cO 4 [0,1,4,5,6,13,14,21,22] (4::5::rg1 98041 7 [1000000,1000001]),cO 5 [0,1,4,5,6,13,14,21,22,23] (4::5::rg1 98041 7 [1000000,1000001]),cO 6 [0,1,4,5,6,7,13,14,21,22] (4::5::rg1 98041 7 [1000000,1000001]),cO 7 [0,1,4,5,6,7,13,14,21,22,62] (4::5::rg1 98041 7 [1000000,1000001]),cO 8 [0,1,4,5,6,7,13,14,21,22] (4::5::rg1 98041 7 [1000000,1000001]),cO 9 (0::1::rg1 4 5 [13,14,21,22]) (4::5::rg1 98041 7 [1000000,1000001]),(10,⟨[0,1,4,5,6,13,14,21,22],(zp (4::5::84::rg1 98041 4 [98046,98047,1000000,1000001]) (4::5::98045::rg1 98041 4 [98046,98047,1000000,1000001])),[],[],[]⟩),cO 11 [0,1,4,5,6,13,14,21,22] (4::5::rg1 98041 7 [1000000,1000001]),cO 12 [0,1,4,5,13,14] (4::5::rg1 98041 7 [1000000,1000001])]
noncomputable def FE (n:Nat) (m:Nat):LpE Tryz.prog:=mkL (Gp n).ok nT 5 (cA [1,1,2,2,1,1,0,2,1,1,2,2] (Q6 Tryz.f22)) ⟨89,[(0,.ptr 1000000 0),(1,.ptr 1000001 0),(4,.ac 4 0 0),(5,.ac 5 0 0),(6,tI),(13,tI),(14,tI),(21,tI),(22,tI)],[(4,.arr 131 1),(5,.arr 131 1),(98041,.arr 73 5),(98042,.arr 111 2),(98043,.arr 84 4),(98044,.arr 81 7),(98045,.arr 104 4),(98046,.arr 89 5),(98047,.arr 91 3),(1000000,.box [.l 1,tI]),(1000001,.box [tI,.arr 98041,.arr 98042,.arr 98043,.arr 98044,.arr 98045,.arr 98046,.arr 98047])]⟩ [yI,yI,yI,yI,yI,yL,yL,yL,yL,yL,yL,yL,yL,yL,yL,yI,yI] (fun m R k g s t h a b c i j l o d p q e f r=>XW n g h i j l o p q r (fun a u b c d e f=>k (.exit 2) ⟨89,[(0,.ptr 1000000 0),(1,.ptr 1000001 0),(4,.ap 4 0 0),(5,.ap 5 0 0),(6,dI g),(13,dI s),(14,dI t),(21,dI h),(22,dI a),(23,dB u)],[(4,.arr 131 1 b),(5,.arr 131 1 c),(98041,.arr 73 5 i),(98042,.arr 111 2 j),(98043,.arr 84 4 l),(98044,.arr 81 7 o),(98045,.arr 104 4 d),(98046,.arr 89 5 p),(98047,.arr 91 3 q),(1000000,.box [dL 1 e,dI f]),(1000001,.box [dI r,.arr 98041,.arr 98042,.arr 98043,.arr 98044,.arr 98045,.arr 98046,.arr 98047])]⟩) m a b c d e f) m
noncomputable def FG (n:Nat) (m:Nat):LpE Tryz.prog:=mkL (Gp n).ok [FE n n] 2 (cA [1,1,2,2] (Q6 Tryz.f22)) ⟨89,[(0,.ptr 1000000 0),(1,.ptr 1000001 0),(4,.ac 4 0 0),(5,.ac 5 0 0),(13,tI),(14,tI)],[(4,.arr 131 1),(5,.arr 131 1),(98041,.arr 73 5),(98042,.arr 111 2),(98043,.arr 84 4),(98044,.arr 81 7),(98045,.arr 104 4),(98046,.arr 89 5),(98047,.arr 91 3),(1000000,.box [.l 1,tI]),(1000001,.box [tI,.arr 98041,.arr 98042,.arr 98043,.arr 98044,.arr 98045,.arr 98046,.arr 98047])]⟩ [yI,yI,yL,yL,yL,yL,yL,yL,yL,yL,yL,yL,yI,yI] (fun m R k f h2 a b g h i j c l o d e p=>ZR n f g h i j l o p (fun h2 q a b c d e=>k (.exit 0) ⟨89,[(0,.ptr 1000000 0),(1,.ptr 1000001 0),(4,.ap 4 0 0),(5,.ap 5 0 0),(13,dI f),(14,dI h2),(15,dB q)],[(4,.arr 131 1 a),(5,.arr 131 1 b),(98041,.arr 73 5 g),(98042,.arr 111 2 h),(98043,.arr 84 4 i),(98044,.arr 81 7 j),(98045,.arr 104 4 c),(98046,.arr 89 5 l),(98047,.arr 91 3 o),(1000000,.box [dL 1 d,dI e]),(1000001,.box [dI p,.arr 98041,.arr 98042,.arr 98043,.arr 98044,.arr 98045,.arr 98046,.arr 98047])]⟩) m h2 a b c d e) m
noncomputable def Ek (n:Nat):EnP Tryz.prog 22:=mkG (Gp n).ok [FG n n] 22 Tryz.f22 [eP 1000000 2,sL 1,sI,eP 1000001 8,sI,eR 1000002 73 5,eR 1000003 111 2,eR 1000004 84 4,eR 1000005 81 7,eR 1000006 104 4,eR 1000007 89 5,eR 1000008 91 3] [eT 0,eI 1000000 2,sL 1,sI,eI 1000001 8,sI,eR 98041 73 5,eR 98042 111 2,eR 98043 84 4,eR 98044 81 7,eR 98045 104 4,eR 98046 89 5,eR 98047 91 3,eG 1000002,eG 1000003,eG 1000004,eG 1000005,eG 1000006,eG 1000007,eG 1000008] [98041,98042,98043,98044,98045,98046,98047] (pK (GU n))

noncomputable def LG:Code:=cA [1,1,1,1,1,1,1,1,0,1,2,2] (Q6 Tryz.f6)
noncomputable def G2 (n:Nat):VB:=X5 [⟨18,Dw n⟩,⟨19,Q3T n⟩,⟨20,YX n⟩,⟨21,P7 n⟩,⟨22,Ek n⟩,⟨23,D6 n⟩,⟨24,LM n⟩] [cO 0 [0,2,3] [2,3],cO 1 [2,3,4] [2,3,50013],cO 2 [2,3,4,5] (2::3::50013::rg5 50015 8 []),cO 3 (rg1 2 5 []) (2::3::6::37::50013::rg5 50015 8 []),(4,⟨(rg1 2 6 []),(zp (2::3::6::37::50013::rg5 50015 8 []) (2::3::6::37::50013::rg5 50015 8 [])),[],[(6,2,500602,111,2),(6,3,500603,84,4),(6,4,500604,81,7),(6,5,500605,104,4),(6,6,500606,89,5),(6,7,500607,91,3)],[]⟩),cO 5 (rg1 2 6 [43]) (2::3::6::37::50013::rg5 50015 8 (rg1 500602 6 [])),cO 6 (rg1 2 6 []) (2::3::6::50013::50015::rg5 50059 14 []),cO 7 (rg1 2 6 []) (2::3::6::50013::50015::rg5 50059 14 []),cO 8 (rg1 2 5 []) [2,3,6,50013,50015,50061,100015,100061,150015,150061,200015,200061,250015,250061,300015,300061,350015,350061,400015],cO 9 (rg1 2 5 [8]) [2,3,6,50013,50015,50061,100015,100061,150015,150061,200015,200061,250015,250061,300015,300061,350015,350061,400015],cO 10 (rg1 2 5 [8,71]) [2,3,6,50013,50015,50061,100015,100061,150015,150061,200015,200061,250015,250061,300015,300061,350015,350061,400015],cO 11 (rg1 2 5 [8]) [2,3,6,156,50013,50015,50061,100015,100061,150015,150061,200015,250015,250061,300015,300061,350015,350061,400015,200061],cO 12 (rg1 2 5 [8,9]) [2,3,6,9,50013,50015,50061,100015,100061,150015,150061,200015,200061,250015,250061,300015,300061,350015,350061,400015],cO 13 (rg1 2 5 [8,9]) [2,3,6,9,50013,50015,50061,100015,100061,150015,150061,200015,200061,250015,250061,300015,300061,350015,350061,400015],cO 14 (rg1 2 5 [8,9]) [2,3,6,9,50013,50015,50061,100015,100061,150015,150061,200015,200061,250015,250061,300015,300061,350015,350061,400015],cO 15 (rg1 2 5 [8,9]) [2,3,6,9,50013,50015,50061,100015,100061,150015,150061,200015,200061,250015,250061,300015,300061,350015,350061,400015],cO 16 (rg1 2 5 [8,9]) [2,3,6,9,50013,50015,50061,100015,100061,150015,150061,200015,200061,250015,250061,300015,300061,350015,350061,400015],cO 17 (rg1 2 5 [8,9,151]) [2,3,6,9,50013,50015,50061,100015,100061,150015,150061,200015,200061,250015,250061,300015,300061,350015,350061,400015],cO 18 (rg1 2 5 [8]) [2,3,6,156,50013,50015,50061,100015,100061,150015,150061,200015,250015,250061,300015,300061,350015,350061,400015],cO 19 (rg1 2 5 [166]) [2,3,6,50013,50015,50061,100015,100061,150015,150061,200015,200061,250015,250061,300015,300061,350015,350061,400015],cO 20 (rg1 2 5 []) [2,3,6,175,50013,50015,50061,100015,100061,150015,150061,200015,200061,250015,250061,300015,350015,350061,400015],cO 21 (rg1 2 5 [10]) [2,3,6,175,50013,50015,50061,100015,100061,150015,150061,200015,200061,250015,250061,300015,350015,350061,400015,300061],cO 22 (rg1 2 5 [10,180]) [2,3,6,175,50013,50015,50061,100015,100061,150015,150061,200015,200061,250015,250061,300015,350015,350061,400015,300061],cO 23 (rg1 2 5 [10]) [2,3,6,175,218,50013,50015,50061,100015,100061,150015,150061,200015,200061,250015,250061,300015,350015,400015,300061],cO 24 (rg1 2 5 [10,11]) [2,3,6,175,50013,50015,50061,100015,100061,150015,150061,200015,200061,250015,250061,300015,350015,350061,400015,300061],cO 25 (rg1 2 5 [10]) [2,3,6,175,218,50013,50015,50061,100015,100061,150015,150061,200015,200061,250015,250061,300015,350015,400015,300061],cO 26 [2,3] [2,3,175,50061,100015,100061,150015,150061,200015,200061,250015,250061,350061,300061],(3000000005,⟨(rg1 2 6 []),(zp [2,3,6,37,400059,50013,50015,50059,100015,100059,150015,150059,200015,200059,250015,250059,300015,300059,350015,350059,400015,450059,500602,500059,500603,500604,550059,500605,600059,500606,650059,500607,700059] [2,3,6,37,37,50013,50015,100015,100015,150015,150015,200015,200015,250015,250015,300015,300015,350015,350015,400015,400015,500602,500602,500603,500603,500604,500604,500605,500605,500606,500606,500607,500607]),[],[],[]⟩),(3000000010,⟨(rg1 2 5 [8]),(zp [2,3,6,50013,50015,50061,100015,100061,150015,150061,200015,156,200061,250015,250061,300015,300061,350015,350061,400015] [2,3,6,50013,50015,50061,100015,100061,150015,150061,200015,200061,200061,250015,250061,300015,300061,350015,350061,400015]),[],[],[]⟩),(3000000022,⟨(rg1 2 5 [10]),(zp [2,3,6,175,50013,50015,50061,100015,100061,150015,150061,200015,200061,250015,250061,300015,300061,350015,218,350061,400015] [2,3,6,175,50013,50015,50061,100015,100061,150015,150061,200015,200061,250015,250061,300015,300061,350015,350061,350061,400015]),[],[],[]⟩)]
noncomputable def Q06 (n:Nat) (m:Nat):LpE Tryz.prog:=mkL (G2 n).ok nT 5 (cA [1,1,1,1,0,1,2,2] (Q6 Tryz.f6)) ⟨225,[(2,.ptr 2 0),(3,.ptr 3 0),(4,.ptr 50013 0),(5,.ptr 50015 0),(6,.ptr 6 0),(7,tI)],[(2,.box [.nil,.nil,.nil,.nil]),(3,.box [.ci .i64 0,.nil,.nil,.nil,.nil,.nil,.nil,.nil]),(6,.box [tI,.arr 37,.arr 500602,.arr 500603,.arr 500604,.arr 500605,.arr 500606,.arr 500607]),(37,.arr 73 5),(50013,.box [.l 1,tI]),(50015,.box [.arr 100015,.arr 150015,.arr 200015,.arr 250015,.arr 300015,.arr 350015,.arr 400015]),(100015,.arr 9 1),(150015,.arr 9 1),(200015,.arr 86 5),(250015,.arr 176 6),(300015,.arr 22 1),(350015,.arr 22 1),(400015,.arr 22 1),(500602,.arr 111 2),(500603,.arr 84 4),(500604,.arr 81 7),(500605,.arr 104 4),(500606,.arr 89 5),(500607,.arr 91 3)]⟩ [yI,yI,yL,yL,yI,yL,yL,yL,yL,yL,yL,yL,yL,yL,yL,yL,yL,yL] (fun m R k a b c d e f g h i j l o p q r s t u=>Vt n  (fun a v b c d e f g h i j l o p q r s t u=>k (.exit 0) ⟨225,[(2,.ptr 2 0),(3,.ptr 3 0),(4,.ptr 50013 0),(5,.ptr 50015 0),(6,.ptr 6 0),(7,dI a),(43,dB v)],[(2,.box [.nil,.nil,.nil,.nil]),(3,.box [dI (0:Int),.nil,.nil,.nil,.nil,.nil,.nil,.nil]),(6,.box [dI b,.arr 37,.arr 500602,.arr 500603,.arr 500604,.arr 500605,.arr 500606,.arr 500607]),(37,.arr 73 5 c),(50013,.box [dL 1 d,dI e]),(50015,.box [.arr 100015,.arr 150015,.arr 200015,.arr 250015,.arr 300015,.arr 350015,.arr 400015]),(100015,.arr 9 1 f),(150015,.arr 9 1 g),(200015,.arr 86 5 h),(250015,.arr 176 6 i),(300015,.arr 22 1 j),(350015,.arr 22 1 l),(400015,.arr 22 1 o),(500602,.arr 111 2 p),(500603,.arr 84 4 q),(500604,.arr 81 7 r),(500605,.arr 104 4 s),(500606,.arr 89 5 t),(500607,.arr 91 3 u)]⟩) m a b c d e f g h i j l o p q r s t u) m
noncomputable def AE (n:Nat) (m:Nat):LpE Tryz.prog:=mkL (G2 n).ok nT 10 (cA [1,1,1,1,1,1,0,1,2,2] (Q6 Tryz.f6)) ⟨225,[(2,.ptr 2 0),(3,.ptr 3 0),(4,.ptr 50013 0),(5,.ptr 50015 0),(6,.ptr 6 0),(8,tI)],[(2,.box [.nil,.nil,.nil,.nil]),(3,.box [.ci .i64 0,.nil,.nil,.nil,.nil,.nil,.nil,.nil]),(6,.box [tI,.arr 50061,.arr 100061,.arr 150061,.arr 200061,.arr 250061,.arr 300061,.arr 350061]),(50013,.box [.l 1,tI]),(50015,.box [.arr 100015,.arr 150015,.arr 200015,.arr 250015,.arr 300015,.arr 350015,.arr 400015]),(50061,.arr 73 5),(100015,.arr 9 1),(100061,.arr 111 2),(150015,.arr 9 1),(150061,.arr 84 4),(200015,.arr 86 5),(200061,.arr 81 7),(250015,.arr 176 6),(250061,.arr 104 4),(300015,.arr 22 1),(300061,.arr 89 5),(350015,.arr 22 1),(350061,.arr 91 3),(400015,.arr 22 1)]⟩ [yI,yI,yL,yI,yL,yL,yL,yL,yL,yL,yL,yL,yL,yL,yL,yL,yL,yL] (fun m R k a e b c f p g q h i d r j s l t o u=>UC n e f g h i j l o (fun a v b c d=>k (.exit 2) ⟨225,[(2,.ptr 2 0),(3,.ptr 3 0),(4,.ptr 50013 0),(5,.ptr 50015 0),(6,.ptr 6 0),(8,dI a),(71,dB v)],[(2,.box [.nil,.nil,.nil,.nil]),(3,.box [dI (0:Int),.nil,.nil,.nil,.nil,.nil,.nil,.nil]),(6,.box [dI e,.arr 50061,.arr 100061,.arr 150061,.arr 200061,.arr 250061,.arr 300061,.arr 350061]),(50013,.box [dL 1 b,dI c]),(50015,.box [.arr 100015,.arr 150015,.arr 200015,.arr 250015,.arr 300015,.arr 350015,.arr 400015]),(50061,.arr 73 5 f),(100015,.arr 9 1 p),(100061,.arr 111 2 g),(150015,.arr 9 1 q),(150061,.arr 84 4 h),(200015,.arr 86 5 i),(200061,.arr 81 7 d),(250015,.arr 176 6 r),(250061,.arr 104 4 j),(300015,.arr 22 1 s),(300061,.arr 89 5 l),(350015,.arr 22 1 t),(350061,.arr 91 3 o),(400015,.arr 22 1 u)]⟩) m a b c d) m
noncomputable def Q0y (n:Nat) (m:Nat):LpE Tryz.prog:=mkL (G2 n).ok nT 22 LG ⟨225,[(2,.ptr 2 0),(3,.ptr 3 0),(4,.ptr 50013 0),(5,.ptr 50015 0),(6,.ptr 6 0),(10,tI)],[(2,.box [.nil,.nil,.nil,.nil]),(3,.box [tI,.nil,.nil,.nil,.nil,.nil,.nil,.nil]),(6,.box [tI,.arr 50061,.arr 100061,.arr 150061,.arr 200061,.arr 250061,.arr 175,.arr 350061]),(175,.arr 89 5),(50013,.box [.l 1,tI]),(50015,.box [.arr 100015,.arr 150015,.arr 200015,.arr 250015,.arr 300015,.arr 350015,.arr 400015]),(50061,.arr 73 5),(100015,.arr 9 1),(100061,.arr 111 2),(150015,.arr 9 1),(150061,.arr 84 4),(200015,.arr 86 5),(200061,.arr 81 7),(250015,.arr 176 6),(250061,.arr 104 4),(300015,.arr 22 1),(350015,.arr 22 1),(350061,.arr 91 3),(400015,.arr 22 1)]⟩ [yI,yI,yI,yL,yL,yI,yL,yL,yL,yL,yL,yL,yL,yL,yL,yL,yL,yL,yL] (fun m R k a f g h b c i e j l o p q r s t u d v=>WS n e (fun a x b c d=>k (.exit 4) ⟨225,[(2,.ptr 2 0),(3,.ptr 3 0),(4,.ptr 50013 0),(5,.ptr 50015 0),(6,.ptr 6 0),(10,dI a),(180,dB x)],[(2,.box [.nil,.nil,.nil,.nil]),(3,.box [dI f,.nil,.nil,.nil,.nil,.nil,.nil,.nil]),(6,.box [dI g,.arr 50061,.arr 100061,.arr 150061,.arr 200061,.arr 250061,.arr 175,.arr 350061]),(175,.arr 89 5 h),(50013,.box [dL 1 b,dI c]),(50015,.box [.arr 100015,.arr 150015,.arr 200015,.arr 250015,.arr 300015,.arr 350015,.arr 400015]),(50061,.arr 73 5 i),(100015,.arr 9 1 e),(100061,.arr 111 2 j),(150015,.arr 9 1 l),(150061,.arr 84 4 o),(200015,.arr 86 5 p),(200061,.arr 81 7 q),(250015,.arr 176 6 r),(250061,.arr 104 4 s),(300015,.arr 22 1 t),(350015,.arr 22 1 u),(350061,.arr 91 3 d),(400015,.arr 22 1 v)]⟩) m a b c d) m
noncomputable def Q16 (n:Nat) (m:Nat):LpE Tryz.prog:=mkL (G2 n).ok nT 22 LG ⟨225,[(2,.ptr 2 0),(3,.ptr 3 0),(4,.ptr 50013 0),(5,.ptr 50015 0),(6,.ptr 6 0),(10,tI)],[(2,.box [.nil,.nil,.nil,.nil]),(3,.box [tI,.nil,.nil,.nil,.nil,.nil,.nil,.nil]),(6,.box [tI,.arr 50061,.arr 100061,.arr 150061,.arr 200061,.arr 250061,.arr 300061,.arr 350061]),(50013,.box [.l 1,tI]),(50015,.box [.arr 100015,.arr 150015,.arr 200015,.arr 250015,.arr 300015,.arr 350015,.arr 400015]),(50061,.arr 73 5),(100015,.arr 9 1),(100061,.arr 111 2),(150015,.arr 9 1),(150061,.arr 84 4),(200015,.arr 86 5),(200061,.arr 81 7),(250015,.arr 176 6),(250061,.arr 104 4),(300015,.arr 22 1),(300061,.arr 89 5),(350015,.arr 22 1),(350061,.arr 91 3),(400015,.arr 22 1)]⟩ [yI,yI,yI,yL,yI,yL,yL,yL,yL,yL,yL,yL,yL,yL,yL,yL,yL,yL,yL] (fun m R k a f g b c h e i j l o p q r s t u d v=>G1 n e (fun a x b c d=>k (.exit 4) ⟨225,[(2,.ptr 2 0),(3,.ptr 3 0),(4,.ptr 50013 0),(5,.ptr 50015 0),(6,.ptr 6 0),(10,dI a),(180,dB x)],[(2,.box [.nil,.nil,.nil,.nil]),(3,.box [dI f,.nil,.nil,.nil,.nil,.nil,.nil,.nil]),(6,.box [dI g,.arr 50061,.arr 100061,.arr 150061,.arr 200061,.arr 250061,.arr 300061,.arr 350061]),(50013,.box [dL 1 b,dI c]),(50015,.box [.arr 100015,.arr 150015,.arr 200015,.arr 250015,.arr 300015,.arr 350015,.arr 400015]),(50061,.arr 73 5 h),(100015,.arr 9 1 e),(100061,.arr 111 2 i),(150015,.arr 9 1 j),(150061,.arr 84 4 l),(200015,.arr 86 5 o),(200061,.arr 81 7 p),(250015,.arr 176 6 q),(250061,.arr 104 4 r),(300015,.arr 22 1 s),(350015,.arr 22 1 u),(350061,.arr 91 3 d),(400015,.arr 22 1 v),(300061,.arr 89 5 t)]⟩) m a b c d) m
noncomputable def Q1l (n:Nat):EnP Tryz.prog 6:=mkE (G2 n).ok [Q06 n n,AE n n,orL (Q0y n n) (Q16 n n)] 6 Tryz.f6 [[1,1,5,6],[0,5,2,4,7,4,5,3]] [sL 1] [eT 2,eA [qL 1,qL 1,qL 5,qL 6],eA [qI,qL 5,qL 2,qL 4,qL 7,qL 4,qL 5,qL 3]] (pK (Nq n))

end Go.Vx
namespace Go.Vx
open Go.RowKit Go.Maps Go.WideMaps
theorem XO {P:Program} {f:Nat} {e:GV} (hE:Uu P f e) {ak:List AV} {dl:Dl} (h:e Dl 0 true ak (fun _=>none) some=some dl):Ze P f ak (fun _=>none) dl:=by
 obtain ⟨d,k1,a⟩:=hE Dl 0 true ak _ some dl h;cases k1;exact a rfl
theorem FZ {P:Program} {f:Nat} {ak:List AV} {hl:Nat->Option Ob} {av:AV} (h:Ze P f ak hl ⟨av,[],[]⟩) {S:Nat->Prop} {w:World} (hS:∀ b,S b->b<w.heap.size) {args:List Value} (hA:ArgsRd (fun _=>none) S (fun _=>none) w args ak) :
  Calls P f args.toArray w fun e w'=>∃ v S',e = .returned v/\RdA (fun _=>none) S' (fun _=>none) w' tm0 v av/\RowKit.Below w.heap.size w w':=by
 refine (h.2 (fun _=>none) S (fun _=>none) w args ⟨fun l o h=>(by cases h),fun l l' b h=>(by cases h),fun l b h=>(by cases h),hS⟩ hA (fun l hl=>(by rcases hl with hl | hl <;> simp [wrL] at hl))).mono fun e w' ⟨v,β',S',he,hc⟩=>?_
 have hβ:β'=fun _=>none:=funext fun l=>hc.bsame l (by simp [wrL])
 subst hβ;refine ⟨v,S',he,?_,⟨hc.fr.os,hc.fr.tape,hc.fr.output,hc.fr.size,fun b hb=>hc.fr.block b hb (fun ⟨l,a,_⟩=>by simp [wrL] at a)⟩⟩;exact hc.res.mono (fun _ h=>h) (fun _ _=>rfl) (fun l _=>⟨rfl,fun h=>h,fun e s rows h=>(by cases h),fun b cs ty fz h=>(by cases h),fun t f h=>(by cases h)⟩) (fun _ _=>rfl)
theorem HE {P:Program} {f:Nat} {ak:List AV} {hl:Nat->Option Ob} {r:Bool} (h:Ze P f ak hl ⟨.d (D.bool r),[],[]⟩) {S:Nat->Prop} {w:World} (hS:∀ b,S b->b<w.heap.size) {args:List Value} (hA:ArgsRd (fun _=>none) S (fun _=>none) w args ak) :
  Calls P f args.toArray w fun e w'=>e = .returned (.bool r)/\RowKit.Below w.heap.size w w':=by
 refine (FZ h hS hA).mono fun e w' ⟨v,S',he,hr,hb⟩=>⟨?_,hb⟩
 cases hr with
 |d v x hx=>cases hx;exact he
 |dang v av l hl=>cases hl
theorem J6 {P:Program} {f:Nat} {ak:List AV} {hl:Nat->Option Ob} {k:IntKind} {r:Int} (h:Ze P f ak hl ⟨.d (D.int k r),[],[]⟩) {S:Nat->Prop} {w:World} (hS:∀ b,S b->b<w.heap.size) {args:List Value} (hA:ArgsRd (fun _=>none) S (fun _=>none) w args ak) :
  Calls P f args.toArray w fun e w'=>e = .returned (.int k r)/\RowKit.Below w.heap.size w w':=by
 refine (FZ h hS hA).mono fun e w' ⟨v,S',he,hr,hb⟩=>⟨?_,hb⟩
 cases hr with
 |d v x hx=>cases hx;exact he
 |dang v av l hl=>cases hl
def Ak (w:World) (P:Program) (b n:Nat) (ak:List (List UInt8)):Prop:=
 ∃ D:DataW Unit,w.ownsMap P 9 (plainElem P 4) b n D/\Go.Maps.IsMap D/\∀ s,D.atKey (.string s) (.lit (.bool false)) = .lit (.bool (ak.contains s))
theorem Ak.made (P:Program) (w:World):Ak (w.alloc (.map #[] 0)) P w.heap.size 0 []:=
 ⟨.map [],World.ownsMap_made w P 9 _,Go.Maps.isMap_empty,fun s=>rfl⟩
section
variable {P:Program} (h9:P.underlying 9=some .string) (h4:P.underlying 4=some .bool) {T:TypeId} (hT:P.underlying T=some (.map 9 4))
include h9 h4 hT
theorem Ak.lookup {w:World} {b n:Nat} {ak:List (List UInt8)} (h:Ak w P b n ak) (hz:(zeroValue 4).run P w = .ok (.bool false) w) {s:List UInt8} (hs:s.length<=maxLen) :
  (Instr.lookup T (.map (some b)) (.string ⟨⟨s⟩⟩) false).run P w = .ok (.bool (ak.contains s)) w:=by
 obtain ⟨D,hD,_,hat⟩:=h;obtain ⟨v,ps,an,hv⟩:=hD.lookup (string_keyed h9) hT hz (zd:=.lit (.bool false)) (zp:=[]) (plainElem_bool h4 false) (keyOf_string_mk (s:=⟨⟨s⟩⟩) h9 hs);have e:=hat s;simp only at hv;rw [e] at hv;unfold plainElem at hv;rw [h4] at hv;cases v <;> simp at hv;rw [an,hv.1];simp
theorem Ak.update {w:World} {b n:Nat} {ak:List (List UInt8)} (h:Ak w P b n ak) (hn:n<maxLen) {s:List UInt8} (hs:s.length<=maxLen) :
  ∃ w',(Instr.mapUpdate T (.map (some b)) (.string ⟨⟨s⟩⟩) (.bool true)).run P w = .ok () w'/\Ak w' P b (n+1) (s::ak)/\w.grownBy w' (some b):=by
 obtain ⟨D,hD,hm,hat⟩:=h;obtain ⟨w',an,am,hg⟩:=hD.update (string_keyed h9) hT hn (keyOf_string_mk (s:=⟨⟨s⟩⟩) h9 hs) (plainElem_bool (H:=Unit) h4 true);refine ⟨w',an,⟨_,am,hm.put _ _,fun t=>?_⟩,hg⟩;have hk:WideAt.IsKeyLit (.string s):=(string_keyed h9).key (keyOf_string_mk (s:=⟨⟨s⟩⟩) h9 hs);by_cases e:t=s
 ·subst e;rw [show (ByteArray.mk ⟨t⟩).data.toList=t from rfl,Go.Maps.atKey_put_same hm hk];simp
 ·rw [show (ByteArray.mk ⟨s⟩).data.toList=s from rfl,Go.Maps.atKey_put_other (by simpa using e),hat t];simp [e]
end
theorem Ak.kept {P:Program} {w w':World} {b n:Nat} {ak:List (List UInt8)} {row:Option Nat} (h:Ak w P b n ak) (hg:w.grownBy w' row) (am:some b≠row):Ak w' P b n ak:=by
 obtain ⟨D,hD,hm,hat⟩:=h;exact ⟨D,hD.kept hg am,hm,hat⟩
theorem Ak.lt {P:Program} {w:World} {b n:Nat} {ak:List (List UInt8)} (h:Ak w P b n ak):b<w.heap.size:=by
 obtain ⟨D,hD,hm,hat⟩:=h;exact hD.lt
theorem Zh {w w':World} (h:RowKit.Below w.heap.size w w'):w.grownBy w' none:=⟨h.os,h.tape,h.output,h.size,fun b hb _=>h.block b hb⟩
def VR:Code->List Code
 |.region i o d=>[.region i o d]
 |.loop c=>VR c
 |.seq a b=>VR a++VR b
 |.block _ c=>VR c
 |.scope c=>VR c
 |.cond _ a b=>VR a++VR b
 |_=>[]
def Q2T (Q:Act->World->Prop):Exit->Act->World->Prop
 |.normal,a,w=>Q a w
 |_,_,_=>False
theorem Rh {P : Program} {f : Nat} {fn : Func} (hf : P.funcs[f]? = some fn) (hb : fn.body.isSome = true) (hn : (fn.name == "runtime.NumGoroutine") = false) {avs : List AV} {av : AV} {hl : Nat -> Option Ob} {rd : List Nat} (hlf : lf av = true) (hA : lfL avs = true)
  (h:∀ (S:Nat->Prop) (w:World) (args:List Value),(∀ b,S b->b<w.heap.size)->ArgsRd (fun _=>none) S (fun _=>none) w args avs->Calls P f args.toArray w fun e w'=>∃ (v:Value) (S':Nat->Prop),e = .returned v/\(∀ b,S b->S' b)/\(∀ b,S' b->S b\/w.heap.size<=b)/\(∀ b,S' b->b<w'.heap.size) /\
   RdA (fun _=>none) S' (fun _=>none) w' tm0 v av/\RowKit.Below w.heap.size w w'):Ze P f avs hl ⟨av,[],rd⟩:=by
 refine ⟨⟨fn,hf,hb,hn⟩,fun β S h' w args hO hAr _=>?_⟩;refine (h S w args hO.sb ⟨hAr.1,fun i v av' a h2=>Nf (CC hA h2) (fun _ h=>h) (fun _ _=>rfl) (hAr.2 i v av' a h2)⟩).mono fun e w' ⟨v,S',he,hs,hsf,hsb,hr,hbel⟩=>?_
 refine ⟨v,β,S',he,⟨hs,fun b hS=>(hsf b hS).elim .inl fun h=>.inr (.inl h),hsb,Q2h hbel,fun _ _=>rfl,fun l o hl'=>by simp [wrL] at hl',fun l hl'=>by simp [wrL] at hl',fun l b hl'=>by simp [wrL] at hl',fun l l' b hl'=>by simp [wrL] at hl',fun l hl'=>by simp [wrL] at hl',?_,fun t=>Q19 t _ hlf⟩⟩;exact Nf hlf (fun _ h=>h) (fun _ _=>rfl) hr
end Go.Vx
namespace Go.Vx
def dV:D->Value
 |.int k n=>.int k n
 |.bool b=>.bool b
 |.str s=>.string ⟨⟨s⟩⟩
 |.sl _ _=>undef
def cellsOf (l:LL):List Value:=l.flatMap fun r=>r.map dV
theorem Q13 (l:LL) (r:List D):cellsOf (l++[r])=cellsOf l++r.map dV:=by simp [cellsOf]
structure NestK (e1 e2 k:Nat) (w:World) (B:Nat) (v:Value) (hd:List Value) (ll:List LL):Prop where
 row:w.ownsRow B e1 1 v ll.length hd
 each:∀ (i:Nat) (h:Value) (l:LL),hd[i]? = some h->ll[i]? = some l->w.ownsRow B e2 k h l.length (cellsOf l)
 outer:∀ (i:Nat) (h:Value) (b:Nat),hd[i]? = some h->h.ownBlock=some b->v.ownBlock≠some b
 apart:∀ (i j:Nat) (h h':Value) (b:Nat),hd[i]? = some h->hd[j]? = some h'->h.ownBlock=some b->h'.ownBlock=some b->i=j
section
variable {e1 e2 k:Nat}
theorem NestK.len {w:World} {B:Nat} {v:Value} {hd:List Value} {ll:List LL} (h:NestK e1 e2 k w B v hd ll):hd.length=ll.length:=by have:=h.row.1;omega
theorem NestK.kept {w w':World} {B:Nat} {v:Value} {hd:List Value} {ll:List LL} {row:Option Nat} (h:NestK e1 e2 k w B v hd ll) (hg:w.grownBy w' row)
  (a:v.ownBlock=none\/v.ownBlock≠row) (h2:∀ x∈hd,x.ownBlock=none\/x.ownBlock≠row):NestK e1 e2 k w' B v hd ll:=
 ⟨h.row.kept hg a,fun i x l hx hl=>(h.each i x l hx hl).kept hg (h2 x (Qez hx)),h.outer,h.apart⟩
theorem NestK.blk {w:World} {B:Nat} {v:Value} {hd:List Value} {ll:List LL} (h:NestK e1 e2 k w B v hd ll) {i:Nat} {x:Value} {b:Nat} (hx:hd[i]? = some x) (hb:x.ownBlock=some b):B<=b/\b<w.heap.size:=by
 have hi:i<ll.length:=by rw [<- h.len];exact (QeC.1 hx).1
 exact (h.each i x ll[i] hx (QeB hi)).lt b hb
theorem Q0R {w:World} {base e n:Nat} {v:Value} {xs:List Value} {b i:Nat} (h:w.ownsRow base e 1 v n xs) (hb:v.ownBlock=some b) (hi:i<n) (u:Value):(w.setCell ⟨b,i,none⟩ u).ownsRow base e 1 v n (xs.set i u):=by
 obtain ⟨a,h2⟩:=h;refine ⟨by simpa using a,?_⟩;rcases h2 with ⟨rfl,rfl⟩ | ⟨g,cap,ak,rfl,hg,hh,hn,hc,hs,ht⟩
 ·omega
 ·simp [Value.ownBlock] at hb;subst hb;refine .inr ⟨g,cap,_,rfl,hg,heap_setCell_same w g i ak e u hh,hn,hc,by simpa using hs,?_⟩;rw [<- ht];simp [List.take_set]
theorem RT {w:World} {base e s n:Nat} {v:Value} {xs:List Value} (h:w.ownsRow base e s v n xs) {a:Addr} (ha:v.ownBlock≠some a.block) (u:Value):(w.setCell a u).ownsRow base e s v n xs:=by
 refine ⟨h.1,?_⟩;rcases h.2 with h2 | ⟨g,cap,ak,rfl,hg,hh,hn,hc,hs,ht⟩
 ·exact .inl h2
 ·refine .inr ⟨g,cap,ak,rfl,hg,?_,hn,hc,hs,ht⟩;rw [heap_setCell_other w a g u (fun e=>ha (by simp [Value.ownBlock,e]))];exact hh
theorem NestK.grow {w w1:World} {B:Nat} {v x x':Value} {hd:List Value} {ll:List LL} {l:LL} {s:List D} {g H i vb:Nat} (h:NestK e1 e2 k w B v hd ll)
  (hx:hd[i]? = some x) (hl:ll[i]? = some l) (a6:w1.ownsRow B e2 k x' (l.length+1) (cellsOf l++s.map dV)) (hg:w.grownBy w1 x.ownBlock) (am:x'.ownBlock=some g) (hat:x.ownBlock=some g\/g=H) (hH:w.heap.size=H)
  (hv:v.ownBlock=some vb):NestK e1 e2 k (w1.setCell ⟨vb,i,none⟩ x') B v (hd.set i x') (ll.set i (l++[s])):=by
 have hi:i<ll.length:=(QeC.1 hl).1;have bc:=(h.row.lt vb hv).2;have a7:g≠vb:=by
  intro e;subst e;rcases hat with a | a
  ·exact h.outer i x g hx a hv
  ·omega
 have aq:w1.ownsRow B e1 1 v ll.length hd:=by
  refine h.row.kept hg (.inr fun e=>?_);rw [hv] at e;exact h.outer i x vb hx e.symm hv
 have ax:∀ (j:Nat) (y:Value) (b:Nat),hd[j]? = some y->y.ownBlock=some b->j≠i->b≠g:=by
  intro j y b hy hb a8 e;subst e;rcases hat with a | a
  ·exact a8 (h.apart j i y x b hy hx hb a)
  ·have:=(h.blk hy hb).2;omega
 refine ⟨?_,fun j y k hy hk=>?_,fun j y b hy hb=>?_,fun j k y z b hy hz ao an=>?_⟩
 ·rw [List.length_set];exact Q0R aq hv hi x'
 ·rw [QeQ] at hy hk;by_cases e:i=j
  ·subst e;have a:i<hd.length:=by rw [h.len];exact hi
   simp only [if_true,a,hi,Option.some.injEq] at hy hk;subst hy hk;refine RT (by simpa [Q13] using a6) ?_ _;rw [am];intro e;exact a7 (Option.some.inj e)
  ·rw [if_neg e] at hy hk;refine RT ((h.each j y k hy hk).kept hg ?_) ?_ _
   ·cases hb:y.ownBlock with
    |none=>exact .inl rfl
    |some b=>exact .inr fun e2=>e (h.apart j i y x b hy hx hb e2.symm).symm
   ·intro e2;exact h.outer j y vb hy e2 hv
 ·rw [QeQ] at hy;by_cases e:i=j
  ·subst e;have a:i<hd.length:=by rw [h.len];exact hi
   simp only [if_true,a,Option.some.injEq] at hy;subst hy;rw [am] at hb;cases hb;rw [hv];intro e2;exact a7 (Option.some.inj e2).symm
  ·rw [if_neg e] at hy;exact h.outer j y b hy hb
 ·rw [QeQ] at hy hz;have a:i<hd.length:=by rw [h.len];exact hi
  by_cases e:i=j
  ·by_cases e2:i=k
   ·omega
   ·subst e;rw [if_neg e2] at hz;simp only [if_true,a,Option.some.injEq] at hy;subst hy;rw [am] at ao;cases ao;exact absurd rfl (ax k z g hz an (fun h=>e2 h.symm))
  ·rw [if_neg e] at hy;by_cases e2:i=k
   ·subst e2;simp only [if_true,a,Option.some.injEq] at hz;subst hz;rw [am] at an;cases an;exact absurd rfl (ax j y g hy ao (fun h=>e h.symm))
   ·rw [if_neg e2] at hz;exact h.apart j k y z b hy hz ao an
end
def Ly (k:Nat) (r:List D):Bool:=Nat.beq r.length k&&r.all fun | .int .i64 _=>true | _=>false
theorem CT {k:Nat}:∀ (l:LL) (i j:Nat) (r:List D) (x:D),(∀ r∈l,r.length=k)->l[i]? = some r->r[j]? = some x->(cellsOf l)[i*k+j]? = some (dV x)
 |[],i,j,r,x,_,a,_=>by simp at a
 |b::l,0,j,r,x,hk,a,h2=>by
  simp only [Qex,Option.some.injEq] at a;subst a;have hj:=(QeC.1 h2).1;simp only [cellsOf,List.flatMap_cons,Nat.zero_mul,Nat.zero_add];rw [List.getElem?_append_left (by simpa using hj),List.getElem?_map,h2];rfl
 |b::l,i+1,j,r,x,hk,a,h2=>by
  have ih:=CT l i j r x (fun q hq=>hk q (by simp [hq])) (by simpa using a) h2;have c:=hk b (by simp);simp only [cellsOf,List.flatMap_cons];rw [List.getElem?_append_right (by simp [c];rw [Nat.succ_mul];omega)];rw [show (i+1)*k+j-(b.map dV).length=i*k+j by simp [c];rw [Nat.succ_mul];omega];exact ih
theorem Qay {w:World} {B e k:Nat} {x:Value} {l:LL} (h:w.ownsRow B e k x l.length (cellsOf l)) (hk:∀ r∈l,Ly k r=true) {S:Nat->Prop} (hS:∀ b,x.ownBlock=some b->S b):Rd S w x (.sl k l):=by
 have ak:∀ r∈l,r.length=k:=fun r hr=>by
  have:=hk r hr;simp only [Ly,QeH] at this;exact Nat.eq_of_beq_eq_true this.1
 rcases h.2 with ⟨rfl,c⟩ | ⟨g,cap,am,rfl,hg,hh,hn,hc,hs,ht⟩
 ·have:l=[]:=List.eq_nil_of_length_eq_zero c;subst this;exact .sl0 none 0 k
 ·refine .sl ⟨g,0,none⟩ cap k l (fun i j=>dV ((l.getD i []).getD j (.bool false))) (hS g rfl) hn (fun i r hi=>ak r (Qez hi)) (fun i j r y hi hj=>?_) (fun i j r y hi hj=>?_)
  ·have a:=CT l i j r y ak hi hj;have aq:i*k+j<am.size:=by
    have d:=(QeC.1 a).1;rw [h.1] at d;have:l.length*k<=cap*k:=Nat.mul_le_mul_right k hn;omega
   rw [Gc,Nat.zero_add,cell_of_row w g (i*k+j) am e (0,0) hh];rw [<- ht,List.getElem?_take] at a;split at a
   ·rw [<- Array.getElem?_toList,a];simp [List.getD,hi,hj]
   ·cases a
  ·have hq:=hk r (Qez hi);simp only [Ly,QeH,List.all_eq_true] at hq;have hy:=hq.2 y (Qez hj);simp only [List.getD,hi,hj,Option.getD_some];split at hy
   ·exact .int _ _
   ·cases hy
end Go.Vx
set_option maxRecDepth 100000
namespace Go.Vx
open Go.Proofs
noncomputable def Hi (n:Nat):VB:=X5 [] [cO 0 [2,3] [2,3],cK 1 [4]]
noncomputable def VP (n:Nat):EnP Tryz.prog 130:=mkE (Hi n).ok nT 130 Tryz.f130 [[0]] [eA [qL 1,qL 1,qL 5,qL 6],eA [qT,qI,qI,qI,qI]] [sB] (pK (Xc n))
noncomputable def MJ (n:Nat):VB:=X5 [] [cK 0 [0],cK 1 [2]]
noncomputable def Fz (n:Nat):EnP Tryz.prog 132:=mkE (MJ n).ok nT 132 Tryz.f132 [[0]] [eD (.i .u8)] [sB] (pK (H9 n))

noncomputable def F1 (n:Nat):VB:=X5 [] [cK 0 [0],cK 1 [2]]
noncomputable def Dk (n:Nat):EnP Tryz.prog 133:=mkE (F1 n).ok nT 133 Tryz.f133 [[0]] [eD (.i .u8)] [sB] (pK (Nu n))

noncomputable def NY (n:Nat):VB:=X5 [⟨132,Fz n⟩,⟨133,Dk n⟩] [cK 0 [0],cK 1 [0,17],cK 2 [2],cK 3 [0,19,20],cK 4 [0,19,20,21],cK 5 [0,3,19,20],cK 6 [0,19,20,40],cK 7 [2],cK 8 [0,19,20],cK 9 [2]]
noncomputable def A9 (n:Nat) (m:Nat):LpE Tryz.prog:=mkL (NY n).ok nT 4 (cA [1,1,0,1,2,2] (Q6 Tryz.f95)) ⟨42,[(0,.t),(19,tI),(20,tI)],[]⟩ [yT,yI,yI] (fun m R k b c a=>T5 n b c (k .ret ⟨42,[(2,dB false)],[]⟩) (fun a d=>k (.exit 0) ⟨42,[(0,dT b),(19,dI c),(20,dI a),(21,dB d)],[]⟩) m a) m
noncomputable def KG (n:Nat):EnP Tryz.prog 95:=mkE (NY n).ok [A9 n n] 95 Tryz.f95 [[0]] [sT] [sB] (pK (JG n))

end Go.Vx
namespace Go.Vx
open Go.Proofs Go.RowKit
theorem Q4f {n:Nat} {s:List UInt8} (h:JG n s some=some true) (w:World):Calls Tryz.prog 95 #[.string ⟨⟨s⟩⟩] w fun e w'=>e = .returned (.bool true)/\RowKit.Below w.heap.size w w':=by
 have he:(KG n).E Dl 0 true [.d (.str s)] (fun _=>none) some=some ⟨.d (.bool true),[],[]⟩:=by
  show gb true (JG n s some) false (fun r=>(some ⟨.d (D.bool r),[],[]⟩:Option Dl))=_;rw [h];rfl
 refine HE (XO ((KG n).ok) he) (S:=fun _=>False) (fun _ h=>h.elim) (args:=[.string ⟨⟨s⟩⟩]) ⟨rfl,fun i v av a h2=>?_⟩
 match i,a,h2 with
 |0,a,h2=>
  simp only [Qex,Option.some.injEq] at a h2;subst a h2;exact .d _ _ (.str ⟨⟨s⟩⟩)
set_option maxHeartbeats 4000000 in
set_option maxRecDepth 100000 in
theorem Tryz.checkName_calls {N:Nat} (w:World) (b n:Nat) (ak:List (List UInt8)) (s:List UInt8) (h:Ak w Tryz.prog b n ak) (hn:n<1000) (hs:Q7z N ak s=true) :
  Calls Tryz.prog 129 #[.string ⟨⟨s⟩⟩,.map (some b)] w fun e w'=>e = .returned (.int .i64 0)/\Ak w' Tryz.prog b (n+1) (s::ak)/\w.grownBy w' (some b):=by
 simp only [Q7z,QeH,Bool.not_eq_true'] at hs;obtain ⟨⟨hl,hN⟩,hc⟩:=hs;have hl:=QeF hl;have ao:s.length<=maxLen:=by unfold maxLen;omega
 have ar:n<maxLen:=by unfold maxLen;omega
 have hz:∀ w:World,(zeroValue 4).run Tryz.prog w = .ok (.bool false) w:=fun w=>by kernel_rfl
 go_enter Tryz.func129,Tryz.ntmps129
 go_wp2_with (go_at_call 95;refine (Q4f (PQ hN) _).mono ?_)
 rintro e w1 ⟨rfl,hB⟩;have c:=h.kept (Zh hB) (by simp);have an:=c.lookup Tryz.underlying9 Tryz.underlying4 Tryz.underlying202 (hz w1) ao;rw [hc] at an;obtain ⟨w2,au,h2,a⟩:=c.update Tryz.underlying9 Tryz.underlying4 Tryz.underlying202 ar ao
 go_wp2
 refine bodyPost_ret (results_tmp rfl _ _ _) rfl ?_;exact ⟨rfl,h2,⟨a.os.trans hB.os,a.tape.trans hB.tape,a.output.trans hB.output,QeV hB.size a.size,fun k hk aq=>(a.block k (QeJ hk hB.size) aq).trans (hB.block k hk)⟩⟩
theorem Q51 {β:Nat->Option Nat} {S:Nat->Prop} {h:Nat->Option Ob} {w:World} {b:Value} {a0:AV} (c:RdA β S h w tm0 b a0):ArgsRd β S h w [b] [a0]:=by
 refine ⟨rfl,fun i v av a h2=>?_⟩
 match i,a,h2 with
 |0,a,h2=>simp only [Qex,Option.some.injEq] at a h2;subst a h2;exact c
theorem Gs {β:Nat->Option Nat} {S:Nat->Prop} {h:Nat->Option Ob} {w:World} {b c:Value} {a0 a1:AV} (d:RdA β S h w tm0 b a0) (ak:RdA β S h w tm0 c a1):ArgsRd β S h w [b,c] [a0,a1]:=by
 refine ⟨rfl,fun i v av a h2=>?_⟩
 match i,a,h2 with
 |0,a,h2=>simp only [Qex,Option.some.injEq] at a h2;subst a h2;exact d
 |1,a,h2=>simp only [QeD,Qex,Option.some.injEq] at a h2;subst a h2;exact ak
theorem Q8e {β:Nat->Option Nat} {S:Nat->Prop} {h:Nat->Option Ob} {w:World} {b c d:Value} {a0 a1 a2:AV} (e:RdA β S h w tm0 b a0) (am:RdA β S h w tm0 c a1) (ak:RdA β S h w tm0 d a2):ArgsRd β S h w [b,c,d] [a0,a1,a2]:=by
 refine ⟨rfl,fun i v av a h2=>?_⟩
 match i,a,h2 with
 |0,a,h2=>simp only [Qex,Option.some.injEq] at a h2;subst a h2;exact e
 |1,a,h2=>simp only [QeD,Qex,Option.some.injEq] at a h2;subst a h2;exact am
 |2,a,h2=>simp only [QeD,Qex,Option.some.injEq] at a h2;subst a h2;exact ak
inductive RdLs (S:Nat->Prop) (w:World):List Value->List D->Prop
 |nil:RdLs S w [] []
 |cons {v:Value} {x:D} {vs:List Value} {xs:List D} (h:Rd S w v x) (t:RdLs S w vs xs):RdLs S w (v::vs) (x::xs)
theorem RdLs.agg {S:Nat->Prop} {w:World}:∀ {vs:List Value} {xs:List D},RdLs S w vs xs->RdA (fun _=>none) S (fun _=>none) w tm0 (.agg vs.toArray) (.ag (xs.map .d))
 |vs,xs,h=>by
  have hl:∀ {vs:List Value} {xs:List D},RdLs S w vs xs->vs.length=xs.length:=by
   intro vs xs h;induction h with
   |nil=>rfl
   |cons _ _ ih=>simp [ih]
  have hr:∀ {vs:List Value} {xs:List D},RdLs S w vs xs->∀ (i:Nat) (x:D),xs[i]? = some x->Rd S w (vs.toArray.getD i undef) x:=by
   intro vs xs h;induction h with
   |nil=>intro i x hx;simp at hx
   |cons a t ih=>
    intro i x hx;cases i with
    |zero=>simp only [Qex,Option.some.injEq] at hx;subst hx;simpa using a
    |succ i=>
     have:=ih i x (by simpa using hx);simpa using this
  refine .ag _ _ (by simp [hl h]) fun i x hx=>?_
  rw [List.getElem?_map,QeR] at hx;obtain ⟨d,hd,rfl⟩:=hx;exact .d _ _ (hr h i d hd)
theorem Rd.keep {S:Nat->Prop} {w w':World} {v:Value} {x:D} {m:Nat} (h:Rd S w v x) (hS:∀ b,S b->b<m) (hw:∀ b,b<m->w'.heap[b]? = w.heap[b]?):Rd S w' v x:=h.mono (fun _ h=>h) fun b hb=>hw b (hS b hb)
theorem G3 {S:Nat->Prop} {w:World} {v:Value} {k:Nat} {rows:LL} (h:Rd S w v (.sl k rows)):∃ ad cap,v = .slice ad rows.length cap:=by
 cases h with
 |sl0 a cap=>exact ⟨a,cap,rfl⟩
 |sl ad cap=>exact ⟨some ad,cap,rfl⟩
theorem Q5P {S:Nat->Prop} {w:World} {ad:Option Addr} {n cap k:Nat} {rows:LL} (h:Rd S w (.slice ad n cap) (.sl k rows)) {i:Nat} {row:List D} (hi:rows[i]? = some row) :
  ∃ a,ad=some a/\S a.block/\row.length=k/\∀ (j:Nat) (x:D),row[j]? = some x->∃ v,w.cell? (a.add (i*k+j))=some v/\Rd S w v x:=by
 cases h with
 |sl0 a cap=>simp at hi
 |sl a cap _ _ c hS am ak hc hr=>exact ⟨a,rfl,hS,ak i row hi,fun j x hx=>⟨_,hc i j row x hi hx,hr i j row x hi hx⟩⟩
theorem Db {n:Nat} {w w1 w2:World} {b:Nat} (h:Below n w w1) (hn:n<=w.heap.size) (hb:n<=b) (hg:w1.grownBy w2 (some b)):Below n w w2:=
 ⟨hg.os.trans h.os,hg.tape.trans h.tape,hg.output.trans h.output,QeV h.size hg.size,fun k hk=>(hg.block k (by have:=h.size;omega) (by simp;omega)).trans (h.block k hk)⟩
theorem Wb {n:Nat} {w w1:World} (h:Below n w w1) (hn:n<=w.heap.size) (o:Obj):Below n w (w1.alloc o):=
 ⟨h.os,h.tape,h.output,by have:=h.size;simp;omega,fun k hk=>(QeM w1 o k (by have:=h.size;omega)).trans (h.block k hk)⟩
theorem U1 {n:Nat} {w w1 w2:World} (h:Below n w w1) (hn:n<=w.heap.size) (h2:Below w1.heap.size w1 w2):Below n w w2:=
 ⟨h2.os.trans h.os,h2.tape.trans h.tape,h2.output.trans h.output,QeV h.size h2.size,fun k hk=>(h2.block k (by have:=h.size;omega)).trans (h.block k hk)⟩
theorem GM (ad:Addr) (i j:Nat) (hj:j≠0):ad.add (i+j)=⟨(ad.add i).block,(ad.add i).off+j,none⟩:=by
 have a:(ad.add i).add j=ad.add (i+j):=by
  unfold Addr.add;by_cases hi:i=0 <;> simp [hi,hj,Nat.add_assoc]
 rw [<- a];generalize ad.add i=x;unfold Addr.add;rw [if_neg hj]
theorem B8 {N:Nat} {ak:List (List UInt8)} {l:LL} {j:Nat} (hj:j<l.length) (h:KH N ak (l.drop j)=true) :
  ∃ s,l[j]? = some [D.str s]/\Q7z N ak s=true/\KH N (s::ak) (l.drop (j+1))=true:=by
 rw [List.drop_eq_getElem_cons hj] at h;unfold KH at h;split at h
 ·rename_i s e;simp only [QeH] at h;exact ⟨s,by rw [QeB hj,e],h.1,h.2⟩
 ·cases h
theorem Q0u {N:Nat} {l0 l1 l2 f:LL} {ak:List (List UInt8)} {l:LL} {j:Nat} (hj:j<l.length) (h:H4 N l0 l1 l2 f ak (l.drop j)=true) :
  ∃ s a b c d,l[j]? = some [D.str s,.int .i64 a,.int .i64 b,.int .i64 c,.int .i64 d]/\Q7z N ak s=true/\Xc N l0 l1 l2 f s a b c d some=some true/\H4 N l0 l1 l2 f (s::ak) (l.drop (j+1))=true:=by
 rw [List.drop_eq_getElem_cons hj] at h;unfold H4 at h;split at h
 ·rename_i s a b c d e;simp only [QeH] at h;exact ⟨s,a,b,c,d,by rw [QeB hj,e],h.1.1,PQ h.1.2,h.2⟩
 ·cases h
theorem Q7y {S:Nat->Prop} {w:World} {v:Value} {s:List UInt8} (h:Rd S w v (.str s)):v = .string ⟨⟨s⟩⟩:=by cases h;rfl
theorem TJ {S:Nat->Prop} {w:World} {v:Value} {k:IntKind} {n:Int} (h:Rd S w v (.int k n)):v = .int k n:=by cases h;rfl
theorem Q3I {N:Nat} {l0 l1 l2 f:LL} {s:List UInt8} {a b c d:Int} (h:Xc N l0 l1 l2 f s a b c d some=some true) {S:Nat->Prop} {w:World} (hS:∀ b,S b->b<w.heap.size) {g i j k:Value}
  (l:Rd S w g (.sl 1 l0)) (m:Rd S w i (.sl 1 l1)) (h2:Rd S w j (.sl 5 l2)) (n:Rd S w k (.sl 6 f)) :
  Calls Tryz.prog 130 #[.agg #[g,i,j,k],.agg #[.string ⟨⟨s⟩⟩,.int .i64 a,.int .i64 b,.int .i64 c,.int .i64 d]] w fun e w'=>e = .returned (.bool true)/\RowKit.Below w.heap.size w w':=by
 have he:(VP N).E Dl 0 true [.ag ([D.sl 1 l0,.sl 1 l1,.sl 5 l2,.sl 6 f].map .d),.ag ([D.str s,.int .i64 a,.int .i64 b,.int .i64 c,.int .i64 d].map .d)] (fun _=>none) some=some ⟨.d (.bool true),[],[]⟩:=by
  show gb true (Xc N l0 l1 l2 f s a b c d some) false (fun r=>(some ⟨.d (D.bool r),[],[]⟩:Option Dl))=_;rw [h];rfl
 exact HE (XO ((VP N).ok) he) hS (Gs (RdLs.agg (.cons l (.cons m (.cons h2 (.cons n .nil))))) (RdLs.agg (.cons (.str ⟨⟨s⟩⟩) (.cons (.int _ _) (.cons (.int _ _) (.cons (.int _ _) (.cons (.int _ _) .nil)))))))
set_option maxHeartbeats 8000000 in
set_option maxRecDepth 100000 in
theorem Tryz.layout_calls {N:Nat} (S:Nat->Prop) (w:World) (hS:∀ b,S b->b<w.heap.size) (l0 l1 l2 d:LL) (v x y z:Value) (h0:Rd S w v (.sl 1 l0)) (h1:Rd S w x (.sl 1 l1)) (h2:Rd S w y (.sl 5 l2)) (h3:Rd S w z (.sl 6 d)) (bu:H5 N l0 l1 l2 d=true)
  (hL:∀ w':World,(∀ b,S b->b<w'.heap.size)->Rd S w' v (.sl 1 l0)->Rd S w' x (.sl 1 l1)->Rd S w' y (.sl 5 l2)->Rd S w' z (.sl 6 d)->Calls Tryz.prog 131 #[.agg #[v,x,y,z]] w' fun e b8=>e = .returned (.int .i64 0)/\Below w'.heap.size w' b8) :
  Calls Tryz.prog 94 #[.agg #[v,x,y,z]] w fun e w'=>e = .returned (.int .i64 0)/\Below w.heap.size w w':=by
 simp only [H5,QeH,Bool.not_eq_true'] at bu;obtain ⟨⟨⟨⟨⟨⟨⟨⟨m0,m1⟩,m2⟩,m3⟩,m4⟩,n0⟩,n1⟩,ns⟩,nl⟩:=bu;have m0:=QeF m0;have m1:=QeF m1;have m2:=QeF m2;have m3:=QeF m3;have m4:l2.length≠0:=fun e=>by rw [e] at m4;cases m4
 obtain ⟨f,g,rfl⟩:=G3 h0;obtain ⟨h,m,rfl⟩:=G3 h1;obtain ⟨p,o,rfl⟩:=G3 h2;obtain ⟨q,r,rfl⟩:=G3 h3;have q0:¬ (24:Int)<(l0.length:Int):=by omega
 have q1:¬ (48:Int)<(l1.length:Int):=by omega
 have q2:¬ (96:Int)<(l2.length:Int):=by omega
 have q3:¬ (192:Int)<(d.length:Int):=by omega
 have q4:¬ ((l2.length:Int)=0):=by omega
 have bd:(w.alloc (.cells #[.slice f l0.length g,.slice h l1.length m,.slice p l2.length o,.slice q d.length r] 27)).heap[w.heap.size]? = some (.cells #[.slice f l0.length g,.slice h l1.length m,.slice p l2.length o,.slice q d.length r] 27 (0,0)):=heap_alloc_new w _;have au:Below w.heap.size w (w.alloc (.cells #[.slice f l0.length g,.slice h l1.length m,.slice p l2.length o,.slice q d.length r] 27)):=Wb (Below.refl _ _) (QeK _) _;have bh:(w.alloc (.cells #[.slice f l0.length g,.slice h l1.length m,.slice p l2.length o,.slice q d.length r] 27)).heap.size=w.heap.size+1:=by simp
 have cu:∀ w:World,(Instr.makeMap 202 none).run Tryz.prog w = .ok (.map (some w.heap.size)) (w.alloc (.map #[] 0)):=fun w=>run_makeMap 202 w
 go_enter Tryz.func94,Tryz.ntmps94
 go_wp2
 generalize w.alloc (.cells #[.slice f l0.length g,.slice h l1.length m,.slice p l2.length o,.slice q d.length r] 27)=w1 at *
 go_loopw [40] (fun i wr=>∃ k:Nat,k<=2/\i = .int .i64 k/\Below (w.heap.size+1) w1 wr)
  (fun i _=>2-(intOf i).toNat)
 case atStart=>exact ⟨0,by omega,rfl,Below.refl _ _⟩
 case round=>
  obtain ⟨k,hk,rfl,hF⟩:=hrel;by_cases b5:k<2
  ·have cf:((k:Int)<2):=by omega
   obtain ⟨ad,l,cap,ce,hv,hl,hm⟩:∃ (ad:Option Addr) (l:LL) (cap:Nat),(∀ w:World,(Instr.index 201 (.agg #[.slice f l0.length g,.slice h l1.length m]) (.int .i64 k)).run Tryz.prog w = .ok (.slice ad l.length cap) w)/\Rd S w (.slice ad l.length cap) (.sl 1 l)/\KH N [] l=true/\l.length<=48:=by
    obtain rfl | rfl:k=0\/k=1:=by omega
    ·exact ⟨f,l0,g,fun _=>rfl,h0,n0,by omega⟩
    ·exact ⟨h,l1,m,fun _=>rfl,h1,n1,by omega⟩
   have ag:w.heap.size+1<=wr.heap.size:=by have:=hF.size;omega
   have hM:=Ak.made Tryz.prog wr;have bi:=Wb hF (by omega) (.map #[] 0)
   go_wp2
   generalize wr.alloc (.map #[] 0)=w2 at *
   generalize wr.heap.size=b at *
   clear hF
   go_loopw [46] (fun i wr=>∃ (j:Nat) (ao:List (List UInt8)),j<=l.length/\i = .int .i64 j/\Ak wr Tryz.prog b j ao/\KH N ao (l.drop j)=true/\Below (w.heap.size+1) w1 wr)
    (fun i _=>l.length-(intOf i).toNat)
   case atStart=>exact ⟨0,[],by omega,rfl,hM,hl,bi⟩
   case round=>
    obtain ⟨j,ao,hj,rfl,a9,bo,ar⟩:=hrel;by_cases a7:j<l.length
    ·have bz:((j:Int)<(l.length:Int)):=by omega
     obtain ⟨s,bc,hN,ax⟩:=B8 a7 bo;have bj:=Rd.keep (w':=wr) hv hS fun c hc=>(ar.block c (by omega)).trans (au.block c hc)
     obtain ⟨a,rfl,_,_,ak⟩:=Q5P bj bc;obtain ⟨u,hc,hu⟩:=ak 0 _ rfl;rw [Q7y hu,Nat.mul_one,Nat.add_zero] at hc
     go_wp2_with (go_at_call 129;refine (Tryz.checkName_calls wr b j ao s a9 (by omega) hN).mono ?_)
     rintro e w3 ⟨rfl,bn,t⟩;have ay:=Db ar (by omega) ag t
     go_wp2
     go_roundw
     all_goals first
      |exact ⟨j+1,s::ao,a7,by go_num,bn,ax,ay⟩
      |(simp [intOf];omega)
    ·go_wp2
     go_roundw
     all_goals first
      |exact ⟨k+1,b5,by go_num,ar⟩
      |(simp [intOf];omega)
  ·skip
   have ag:w.heap.size+1<=wr.heap.size:=by have:=hF.size;omega
   have hM:=Ak.made Tryz.prog wr;have bi:=Wb hF (by omega) (.map #[] 0);have aq:=(bi.block _ (Nat.lt_succ_self _)).trans bd;have c2:(wr.alloc (.map #[] 0)).cell? ⟨w.heap.size,2,none⟩=some (.slice p l2.length o):=by rw [Qew aq];rfl
   go_wp2
   clear aq c2;generalize wr.alloc (.map #[] 0)=w2 at *
   generalize wr.heap.size=b at *
   go_loopw [62] (fun i wr=>∃ (j:Nat) (ao:List (List UInt8)),j<=l2.length/\i = .int .i64 j/\Ak wr Tryz.prog b j ao/\H4 N l0 l1 l2 d ao (l2.drop j)=true/\Below (w.heap.size+1) w1 wr)
    (fun i _=>l2.length-(intOf i).toNat)
   case atStart=>exact ⟨0,[],by omega,rfl,hM,ns,bi⟩
   case round=>
    obtain ⟨j,ao,hj,rfl,a9,bo,ar⟩:=hrel;by_cases a7:j<l2.length
    ·have bz:((j:Int)<(l2.length:Int)):=by omega
     obtain ⟨s,sa,sb,sc,sd,bc,hN,b0,ax⟩:=Q0u a7 bo;have b4:∀ c,c<w.heap.size->wr.heap[c]? = w.heap[c]?:=fun c hc=>(ar.block c (by omega)).trans (au.block c hc)
     have bj:=Rd.keep (w':=wr) h2 hS b4;obtain ⟨a,rfl,_,_,ak⟩:=Q5P bj bc;obtain ⟨u0,x0,y0⟩:=ak 0 _ rfl;obtain ⟨u1,x1,y1⟩:=ak 1 _ rfl;obtain ⟨cq,x2,y2⟩:=ak 2 _ rfl;obtain ⟨c7,x3,y3⟩:=ak 3 _ rfl;obtain ⟨c3,x4,y4⟩:=ak 4 _ rfl;rw [Q7y y0,Nat.add_zero] at x0;rw [TJ y1,GM _ _ _ (by decide)] at x1;rw [TJ y2,GM _ _ _ (by decide)] at x2;rw [TJ y3,GM _ _ _ (by decide)] at x3;rw [TJ y4,GM _ _ _ (by decide)] at x4;clear ak y0 y1 y2 y3 y4 bj;have am:wr.grownBy (wr.alloc (.cells #[.string ⟨⟨s⟩⟩,.int .i64 sa,.int .i64 sb,.int .i64 sc,.int .i64 sd] 86)) none:=World.grownBy_alloc wr _ none;have br:=Wb ar (by omega) (.cells #[.string ⟨⟨s⟩⟩,.int .i64 sa,.int .i64 sb,.int .i64 sc,.int .i64 sd] 86);have bx:=a9.kept am (by simp);have an:(wr.alloc (.cells #[.string ⟨⟨s⟩⟩,.int .i64 sa,.int .i64 sb,.int .i64 sc,.int .i64 sd] 86)).heap[wr.heap.size]? = some (.cells #[.string ⟨⟨s⟩⟩,.int .i64 sa,.int .i64 sb,.int .i64 sc,.int .i64 sd] 86 (0,0)):=heap_alloc_new wr _;have cz:b<wr.heap.size:=a9.lt;have bk:w.heap.size+1<=wr.heap.size:=by have:=ar.size;omega
     go_wp2_with (go_at_call 129;refine (Tryz.checkName_calls (wr.alloc (.cells #[.string ⟨⟨s⟩⟩,.int .i64 sa,.int .i64 sb,.int .i64 sc,.int .i64 sd] 86)) b j ao s bx (by omega) hN).mono ?_)
     rintro e w3 ⟨rfl,bn,t⟩;have ay:=Db br (by omega) ag t;have aq:=(ay.block _ (Nat.lt_succ_self _)).trans bd;have a8:=(t.block wr.heap.size (by simp) (by simp;omega)).trans an;clear br bx an am t a9 ar;have z0:w3.cell? ⟨w.heap.size,0,none⟩=some (.slice f l0.length g):=by rw [Qew aq];rfl
     have z1:w3.cell? ⟨w.heap.size,1,none⟩=some (.slice h l1.length m):=by rw [Qew aq];rfl
     have z2:w3.cell? ⟨w.heap.size,2,none⟩=some (.slice (some a) l2.length o):=by rw [Qew aq];rfl
     have z3:w3.cell? ⟨w.heap.size,3,none⟩=some (.slice q d.length r):=by rw [Qew aq];rfl
     have y0:w3.cell? ⟨wr.heap.size,0,none⟩=some (.string ⟨⟨s⟩⟩):=by rw [Qew a8];rfl
     have y1:w3.cell? ⟨wr.heap.size,1,none⟩=some (.int .i64 sa):=by rw [Qew a8];rfl
     have y2:w3.cell? ⟨wr.heap.size,2,none⟩=some (.int .i64 sb):=by rw [Qew a8];rfl
     have y3:w3.cell? ⟨wr.heap.size,3,none⟩=some (.int .i64 sc):=by rw [Qew a8];rfl
     have y4:w3.cell? ⟨wr.heap.size,4,none⟩=some (.int .i64 sd):=by rw [Qew a8];rfl
     have n:∀ c,c<w.heap.size->w3.heap[c]? = w.heap[c]?:=fun c hc=>(ay.block c (by omega)).trans (au.block c hc)
     have bl:∀ c,S c->c<w3.heap.size:=fun c hc=>by have:=hS c hc;have:=ay.size;omega
     have g0:=Rd.keep h0 hS n;have g1:=Rd.keep h1 hS n;have g2:=Rd.keep h2 hS n;have g3:=Rd.keep h3 hS n
     go_wp2_with (go_at_call 130;refine (Q3I b0 bl g0 g1 g2 g3).mono ?_)
     rintro e w4 ⟨rfl,bg⟩;have b1:=bn.kept (Zh bg) (by simp);have aw:=U1 ay (by omega) bg
     go_wp2
     go_roundw
     all_goals first
      |exact ⟨j+1,s::ao,a7,by go_num,b1,ax,aw⟩
      |(simp [intOf];omega)
    ·have aq:=(ar.block _ (Nat.lt_succ_self _)).trans bd;have z0:wr.cell? ⟨w.heap.size,0,none⟩=some (.slice f l0.length g):=by rw [Qew aq];rfl
     have z1:wr.cell? ⟨w.heap.size,1,none⟩=some (.slice h l1.length m):=by rw [Qew aq];rfl
     have z2:wr.cell? ⟨w.heap.size,2,none⟩=some (.slice p l2.length o):=by rw [Qew aq];rfl
     have z3:wr.cell? ⟨w.heap.size,3,none⟩=some (.slice q d.length r):=by rw [Qew aq];rfl
     have n:∀ c,c<w.heap.size->wr.heap[c]? = w.heap[c]?:=fun c hc=>(ar.block c (by omega)).trans (au.block c hc)
     have bl:∀ c,S c->c<wr.heap.size:=fun c hc=>by have:=hS c hc;have:=ar.size;omega
     have bm:=hL wr bl (Rd.keep h0 hS n) (Rd.keep h1 hS n) (Rd.keep h2 hS n) (Rd.keep h3 hS n)
     go_wp2_with (go_at_call 131;refine bm.mono ?_)
     rintro e w4 ⟨rfl,bg⟩;have aw:=U1 ar (by omega) bg
     go_wp2
     refine bodyPost_ret (results_tmp rfl _ _ _) rfl ?_;exact ⟨rfl,aw.os.trans au.os,aw.tape.trans au.tape,aw.output.trans au.output,by have:=aw.size;omega,fun c hc=>(aw.block c (by omega)).trans (au.block c hc)⟩

end Go.Vx
set_option maxRecDepth 100000
namespace Go.Vx
open Go.Proofs
noncomputable def DO (n:Nat):VB:=X5 [] [cO 0 [1,2,3] [1,2,3],cO 1 [2,3] [2,3]]
noncomputable def GS (n:Nat):EnP Tryz.prog 158:=mkE (DO n).ok nT 158 Tryz.f158 [[0,0],[0,0]] [eA [qI,qI,qI,qI,qI,qI]] [eT 2,eA [qI,qI],eA [qI,qI]] (pK (RK n))
noncomputable def TL (n:Nat):VB:=X5 [⟨158,GS n⟩] [cO 0 [0,4,5] [4,5],cO 1 [4,5,11,12,13] [4,5],cO 2 [4,5,11,12,13,14] [4,5],cO 3 [4,5,8,11,12,13] [4,5,8],cO 4 (4::5::rg1 9 5 []) [4,5,9,10],cO 5 [4,5,11,12,13,39] [4,5],cK 6 [6],cO 7 [4,5,11,12,13] [4,5],cK 8 [6]]
noncomputable def Fb (n:Nat) (m:Nat):LpE Tryz.prog:=mkL (TL n).ok nT 2 (cA [1,0,1,2,2] (Q6 Tryz.f160)) ⟨41,[(4,.ptr 4 0),(5,.ptr 5 0),(11,.l 6),(12,tI),(13,tI)],[(4,.box [tI,tI]),(5,.box [tI,tI])]⟩ [yL,yI,yI,yI,yI,yI,yI] (fun m R k b h2 a c d e f=>Gl n b h2 c d e f (k .ret ⟨41,[(6,dB true)],[]⟩) (fun a g=>k (.exit 0) ⟨41,[(4,.ptr 4 0),(5,.ptr 5 0),(11,dL 6 b),(12,dI h2),(13,dI a),(14,dB g)],[(4,.box [dI c,dI d]),(5,.box [dI e,dI f])]⟩) m a) m
noncomputable def Pr (n:Nat):EnP Tryz.prog 160:=mkE (TL n).ok [Fb n n] 160 Tryz.f160 [[0]] [sL 6,eA [qI,qI],eA [qI,qI]] [sB] (pK (J3 n))

noncomputable def DQ (n:Nat):VB:=X5 [] [cO 0 [1,2] [2],cO 1 [1,2,7] [2],cK 2 [4],cK 3 [4]]
noncomputable def NW (n:Nat):EnP Tryz.prog 161:=mkE (DQ n).ok nT 161 Tryz.f161 [[0]] [eA [qI,qI,qI,qI,qI,qI],sL 6] [sB] (pK (Vo n))

noncomputable def Pk (n:Nat):VB:=X5 [] [cO 0 [2,3] [2,3],cK 1 [4]]
noncomputable def GA (n:Nat):EnP Tryz.prog 157:=mkE (Pk n).ok nT 157 Tryz.f157 [[0]] [eA [qL 1,qL 1,qL 5,qL 6],eA [qI,qI,qI,qI,qI,qI]] [sB] (pK (XQ n))

end Go.Vx
namespace Go.Vx
variable {R:Type}
def Gq (n:Nat) (a b:Int) (K:Int->oP R):oP R:= K (wJ ((wJ (2*a))+b))
end Go.Vx
set_option maxRecDepth 100000
namespace Go.Vx
open Go.Proofs
noncomputable def Rg (n:Nat):VB:=X5 [] [cO 0 [1] [1],cK 1 [2]]
noncomputable def KF (n:Nat):EnP Tryz.prog 159:=mkE (Rg n).ok nT 159 Tryz.f159 [[0]] [eA [qI,qI]] [sI] (pK (Gq n))
end Go.Vx
namespace Go.Vx
open Go.Proofs Go.RowKit
theorem Q4d {w w':World} {a:Addr} {u:Value} (hB:Below w.heap.size w w') (h:w.cell? a=some u):w'.cell? a=some u:=by
 rw [World.cell?_of_block (hB.block a.block (World.block_lt_of_cell? w a h))];exact h
theorem Sr (w:World):Below w.heap.size w w.drew:=⟨rfl,rfl,rfl,QeK _,fun _ _=>rfl⟩
theorem Sm {w w1 w2:World} (h:Below w.heap.size w w1) (h2:Below w1.heap.size w1 w2):Below w.heap.size w w2:=U1 h (QeK _) h2
theorem Q3a {β:Nat->Option Nat} {S:Nat->Prop} {h:Nat->Option Ob} {w:World} {tm:Nat->Value} {v:Value} {k:IntKind} {n:Int} (h:RdA β S h w tm v (.d (.int k n))):v = .int k n:=by
 cases h with
 |d _ _ q=>exact TJ q
 |dang _ _ _ hl=>cases hl
theorem Q4u {β:Nat->Option Nat} {S:Nat->Prop} {h:Nat->Option Ob} {w:World} {tm:Nat->Value} {v:Value} {k k':IntKind} {n m:Int} (h:RdA β S h w tm v (.ag [.d (.int k n),.d (.int k' m)])):v = .agg #[.int k n,.int k' m]:=by
 cases h with
 |ag cs l hl hr=>
  have c:=Q3a (hr 0 _ rfl);have q1:=Q3a (hr 1 _ rfl);obtain ⟨l⟩:=cs
  match l,hl with
  |[a,b],_=>
   simp at c q1;rw [c,q1]
 |dang _ _ _ hl=>cases hl
theorem Tryz.index_calls (w:World) (a b:Int) (a0:0<=a) (a1:a<1000) (b0:0<=b) (b1:b<=1) :
  Calls Tryz.prog 159 #[.agg #[.int .i64 a,.int .i64 b]] w fun e w'=>e = .returned (.int .i64 (2*a+b))/\Below w.heap.size w w':=by
 have e1:IntKind.i64.wrap (2*a)=2*a:=by rw [IntKind.wrap_i64];omega
 have e2:IntKind.i64.wrap (2*a+b)=2*a+b:=by rw [IntKind.wrap_i64];omega
 have hp:Gq 0 a b some=some (2*a+b):=by
  show some (IntKind.i64.wrap (IntKind.i64.wrap (2*a)+b))=_;rw [e1,e2]
 have he:(KF 0).E Dl 0 true [.ag ([D.int .i64 a,D.int .i64 b].map .d)] (fun _=>none) some=some ⟨.d (D.int .i64 (2*a+b)),[],[]⟩:=by
  show gb true (Gq 0 a b some) 0 (fun r=>(some ⟨.d (D.int .i64 r),[],[]⟩:Option Dl))=_;rw [hp];rfl
 exact J6 (S:=fun _=>False) (XO ((KF 0).ok) he) (fun _ h=>h.elim) (Q51 (RdLs.agg (.cons (.int _ _) (.cons (.int _ _) .nil))))
set_option maxHeartbeats 4000000 in
theorem Tryz.ends_calls (w:World) (a ae b be p q:Int) :
  Calls Tryz.prog 158 #[.agg #[.int .i64 a,.int .i64 ae,.int .i64 b,.int .i64 be,.int .i64 p,.int .i64 q]] w fun e w'=>e = .returned (.tuple #[.agg #[.int .i64 a,.int .i64 ae],.agg #[.int .i64 b,.int .i64 be]])/\Below w.heap.size w w':=by
 have he:(GS 0).E Dl 0 true [.ag ([D.int .i64 a,D.int .i64 ae,D.int .i64 b,D.int .i64 be,D.int .i64 p,D.int .i64 q].map .d)] (fun _=>none) some=some ⟨.tup [.ag ([D.int .i64 a,D.int .i64 ae].map .d),.ag ([D.int .i64 b,D.int .i64 be].map .d)],[],[]⟩:=rfl;refine (FZ (S:=fun _=>False) (XO ((GS 0).ok) he) (fun _ h=>h.elim) (Q51 (RdLs.agg (.cons (.int _ _) (.cons (.int _ _) (.cons (.int _ _) (.cons (.int _ _) (.cons (.int _ _) (.cons (.int _ _) .nil))))))))).mono fun e w' ⟨v,S',d,h2,f⟩=>⟨?_,f⟩
 rw [d];cases h2 with
 |tup cs l hl hr=>
  have c:=Q4u (hr 0 _ rfl);have q1:=Q4u (hr 1 _ rfl);obtain ⟨l⟩:=cs
  match l,hl with
  |[a,b],_=>
   simp at c q1;rw [c,q1]
 |dang v av l hl=>cases hl
theorem VN {e1 e2 k:Nat} {w w':World} {B:Nat} {v:Value} {hd:List Value} {ll:List LL} (h:NestK e1 e2 k w B v hd ll) (hg:w.grownBy w' none):NestK e1 e2 k w' B v hd ll:=
 h.kept hg (Classical.em _) (fun x _=>Classical.em _)
structure Grew (w w':World) (vb:Nat) (x x':Value):Prop where
 own:∀ b,x'.ownBlock=some b->x.ownBlock=some b\/w.heap.size<=b
 os:w'.os=w.os
 tape:w'.tape=w.tape
 output:w'.output=w.output
 size:w.heap.size<=w'.heap.size
 block:∀ b,b<w.heap.size->b≠vb->x.ownBlock≠some b->w'.heap[b]? = w.heap[b]?
theorem Q0K {w W1 W2:World} {B vb N i n g c:Nat} {x:Value} {hd:List Value} {ll:List LL} {l:LL} {row:List D} (hN:NestK 25 176 6 w B (.slice (some ⟨vb,0,none⟩) N N) hd ll) (hx:hd[i]? = some x) (hl:ll[i]? = some l) (hn:n=l.length)
  (a:w.grownBy W1 none) (am:W2.ownsRow B 176 6 (.slice (some ⟨g,0,none⟩) (n+1) c) (n+1) (cellsOf l++row.map dV)) (ak:W1.grownBy W2 x.ownBlock) (hat:x.ownBlock=some g\/g=W1.heap.size) :
  NestK 25 176 6 (W2.setCell ⟨vb,i,none⟩ (.slice (some ⟨g,0,none⟩) (n+1) c)) B (.slice (some ⟨vb,0,none⟩) N N) (hd.set i (.slice (some ⟨g,0,none⟩) (n+1) c)) (ll.set i (l++[row])) /\
   Grew w (W2.setCell ⟨vb,i,none⟩ (.slice (some ⟨g,0,none⟩) (n+1) c)) vb x (.slice (some ⟨g,0,none⟩) (n+1) c):=by
 subst hn;have d:=VN hN a;have s1:=a.size;have s2:=ak.size;refine ⟨d.grow hx hl am ak rfl hat rfl rfl,⟨fun b hb=>?_,?_,?_,?_,?_,fun b hb h2 f=>?_⟩⟩
 ·simp only [Value.ownBlock,Option.some.injEq] at hb;subst hb;rcases hat with h | h
  ·exact .inl h
  ·exact .inr (by omega)
 ·exact ak.os.trans a.os
 ·exact ak.tape.trans a.tape
 ·exact ak.output.trans a.output
 ·simp;omega
 ·rw [heap_setCell_other _ _ _ _ (fun e=>h2 e)];rw [ak.block b (by omega) (fun e=>f e.symm),a.block b hb (by simp)]
noncomputable def Q8j:Code:=(VR (Tryz.f131.body.getD .skip)).getD 8 .skip
set_option maxHeartbeats 8000000 in
set_option maxRecDepth 100000 in
theorem Tryz.links_r8 (f g h i j u8 u9 k l m n o p q r s t u v x y z aa ab ac ad ag ah cg ch ci cj ck cm cn co ai aj ak al am an ao ap aq ar au av aw ax ay az ba bb bc bd bg bh bi bj bk a6 bl bm bn bo bp bq br bt bu bv bx bz ca cb cc:Value) (vb N c d:Nat) (a ae b be:Int) (w:World) (c0:w.cell? ⟨c,0,none⟩=some (.int .i64 a)) (c1:w.cell? ⟨c,1,none⟩=some (.int .i64 ae)) (d0:w.cell? ⟨d,0,none⟩=some (.int .i64 b)) (d1:w.cell? ⟨d,1,none⟩=some (.int .i64 be)) (a0:0<=a) (a1:a<1000) (e0:0<=ae) (e1:ae<=1) (b0:0<=b) (b1:b<1000) (f0:0<=be) (f1:be<=1) (h1:2*a+ae<(N:Int)) (h2:2*b+be<(N:Int)) :
  Code.wp Tryz.prog Q8j (Q2T fun act w'=>∃ (cp cq cr cs ct cu cv cw:Value) ,act=⟨(f::g::h::.slice (some ⟨vb,0,none⟩) N N::i::j::.pointer (some ⟨c,0,none⟩)::.pointer (some ⟨d,0,none⟩)::.pointer (some ⟨vb,(2*a+ae).toNat,none⟩)::.pointer (some ⟨vb,(2*b+be).toNat,none⟩)::k::l::m::n::o::p::q::r::s::t::u::v::x::y::z::aa::ab::ac::ad::ag::ah::cp::cq::cr::cs::ct::cu::cv::cw::ai::aj::ak::al::am::an::ao::ap::aq::ar::au::av::aw::ax::ay::az::ba::bb::bc::bd::bg::bh::bi::bj::bk::a6::bl::bm::bn::bo::bp::bq::br::bt::bu::bv::bx::bz::ca::cb::cc::[]).toArray,[]⟩/\Below w.heap.size w w') ⟨(f::g::h::.slice (some ⟨vb,0,none⟩) N N::i::j::.pointer (some ⟨c,0,none⟩)::.pointer (some ⟨d,0,none⟩)::u8::u9::k::l::m::n::o::p::q::r::s::t::u::v::x::y::z::aa::ab::ac::ad::ag::ah::cg::ch::ci::cj::ck::cm::cn::co::ai::aj::ak::al::am::an::ao::ap::aq::ar::au::av::aw::ax::ay::az::ba::bb::bc::bd::bg::bh::bi::bj::bk::a6::bl::bm::bn::bo::bp::bq::br::bt::bu::bv::bx::bz::ca::cb::cc::[]).toArray,[]⟩ w:=by
 conv=>arg 2;whnf
 have mixed:Tryz.prog.follows .mixedOrders=true:=by kernel_rfl
 have y0:w.drew.cell? ⟨c,0,none⟩=some (.int .i64 a):=c0;have y1:w.drew.cell? ⟨c,1,none⟩=some (.int .i64 ae):=c1;have y2:w.drew.cell? ⟨d,0,none⟩=some (.int .i64 b):=d0;have y3:w.drew.cell? ⟨d,1,none⟩=some (.int .i64 be):=d1;have g1:0<=2*a+ae:=by omega
 have g2:0<=2*b+be:=by omega
 clear c0 c1 d0 d1
 go_region_held3 (fun w'=>w'.cell? ⟨c,0,none⟩=some (.int .i64 a)/\w'.cell? ⟨c,1,none⟩=some (.int .i64 ae)/\w'.cell? ⟨d,0,none⟩=some (.int .i64 b)/\w'.cell? ⟨d,1,none⟩=some (.int .i64 be))
  (first
   |exact ⟨y0,y1,y2,y3⟩
   |(refine ⟨?_,?_,?_,?_⟩ <;> (repeat (first | assumption | refine Q4d (by assumption) ?_))))
  (first
   |(go_at_call 159;refine (Tryz.index_calls _ _ _ (by assumption) (by assumption) (by assumption) (by assumption)).mono ?_;rintro e W1 ⟨rfl,de⟩))
 all_goals
  dsimp only [Q2T];refine ⟨_,_,_,_,_,_,_,_,rfl,?_⟩
  repeat (first | exact Sr _ | refine Sm ?_ (by assumption))
noncomputable def Q6M:Code:=(VR (Tryz.f131.body.getD .skip)).getD 11 .skip
set_option maxHeartbeats 8000000 in
set_option maxRecDepth 100000 in
theorem Tryz.links_r11 (f g h j k l m o p q r s t u v x y z aa ab ac ag ah ai aj ak al am an ao ap aq ar au av aw ax ay az ba ck cm cn co cp cq cr bb bc bd bg bh bi bj bk bl bm bn bo bp bq a6 br bt bu bv bx bz ca cb cc ce cf cg ch ci cj:Value) (vb i c d n cap:Nat) (ad:Option Addr) (a ae b be:Int) (w:World) (c0:w.cell? ⟨c,0,none⟩=some (.int .i64 a)) (c1:w.cell? ⟨c,1,none⟩=some (.int .i64 ae)) (d0:w.cell? ⟨d,0,none⟩=some (.int .i64 b)) (d1:w.cell? ⟨d,1,none⟩=some (.int .i64 be)) (cx:w.cell? ⟨vb,i,none⟩=some (.slice ad n cap))
  (hc:Calls Tryz.prog 160 #[.slice ad n cap,.agg #[.int .i64 a,.int .i64 ae],.agg #[.int .i64 b,.int .i64 be]] w.drew fun e w'=>e = .returned (.bool false)/\Below w.drew.heap.size w.drew w') :
  Code.wp Tryz.prog Q6M (Q2T fun act w'=>∃ (cs ct cu cv cw cy:Value) ,act=⟨(f::g::h::j::k::l::.pointer (some ⟨c,0,none⟩)::.pointer (some ⟨d,0,none⟩)::.pointer (some ⟨vb,i,none⟩)::m::o::p::q::r::s::t::u::v::x::y::z::aa::ab::ac::ag::ah::ai::aj::ak::al::am::an::ao::ap::aq::ar::au::av::aw::ax::ay::az::ba::.bool false::cs::ct::cu::cv::cw::cy::bb::bc::bd::bg::bh::bi::bj::bk::bl::bm::bn::bo::bp::bq::a6::br::bt::bu::bv::bx::bz::ca::cb::cc::ce::cf::cg::ch::ci::cj::[]).toArray,[]⟩/\Below w.heap.size w w') ⟨(f::g::h::j::k::l::.pointer (some ⟨c,0,none⟩)::.pointer (some ⟨d,0,none⟩)::.pointer (some ⟨vb,i,none⟩)::m::o::p::q::r::s::t::u::v::x::y::z::aa::ab::ac::ag::ah::ai::aj::ak::al::am::an::ao::ap::aq::ar::au::av::aw::ax::ay::az::ba::ck::cm::cn::co::cp::cq::cr::bb::bc::bd::bg::bh::bi::bj::bk::bl::bm::bn::bo::bp::bq::a6::br::bt::bu::bv::bx::bz::ca::cb::cc::ce::cf::cg::ch::ci::cj::[]).toArray,[]⟩ w:=by
 conv=>arg 2;whnf
 have mixed:Tryz.prog.follows .mixedOrders=true:=by kernel_rfl
 have y0:w.drew.cell? ⟨c,0,none⟩=some (.int .i64 a):=c0;have y1:w.drew.cell? ⟨c,1,none⟩=some (.int .i64 ae):=c1;have y2:w.drew.cell? ⟨d,0,none⟩=some (.int .i64 b):=d0;have y3:w.drew.cell? ⟨d,1,none⟩=some (.int .i64 be):=d1;have y4:w.drew.cell? ⟨vb,i,none⟩=some (.slice ad n cap):=cx;clear c0 c1 d0 d1 cx
 go_region_law (first
   |(go_simp;refine hc.mono ?_;rintro e W1 ⟨rfl,cz⟩))
 all_goals
  dsimp only [Q2T];refine ⟨_,_,_,_,_,_,rfl,?_⟩;exact Sm (Sr w) cz
noncomputable def Q6H:Code:=(VR (Tryz.f131.body.getD .skip)).getD 13 .skip
set_option maxHeartbeats 8000000 in
set_option maxRecDepth 100000 in
theorem Tryz.links_r13 (d f g h j k l m o r s t u v x y z aa ab ac ag ah ai aj ak al am an ao ap aq ar au av aw ax ay az ba bb bc bd bg bh bi bj bk bl cr cs ct cu cv cw cy bm bn bo bp bq br bt a6 bu bv bx bz ca cb cc ce cf cg ch ci cj ck cm:Value) (vb i c n cap:Nat) (ad:Option Addr) (a ae b be p q:Int) (w:World) (c0:w.cell? ⟨c,0,none⟩=some (.int .i64 a)) (c1:w.cell? ⟨c,1,none⟩=some (.int .i64 ae)) (c2:w.cell? ⟨c,2,none⟩=some (.int .i64 b)) (c3:w.cell? ⟨c,3,none⟩=some (.int .i64 be)) (c4:w.cell? ⟨c,4,none⟩=some (.int .i64 p)) (c5:w.cell? ⟨c,5,none⟩=some (.int .i64 q)) (cx:w.cell? ⟨vb,i,none⟩=some (.slice ad n cap))
  (hc:Calls Tryz.prog 161 #[.agg #[.int .i64 a,.int .i64 ae,.int .i64 b,.int .i64 be,.int .i64 p,.int .i64 q],.slice ad n cap] w.drew fun e w'=>e = .returned (.bool true)/\Below w.drew.heap.size w.drew w') :
  Code.wp Tryz.prog Q6H (Q2T fun act w'=>∃ (cz da db dc dd de:Value) ,act=⟨(d::f::g::h::j::.pointer (some ⟨c,0,none⟩)::k::l::.pointer (some ⟨vb,i,none⟩)::m::o::r::s::t::u::v::x::y::z::aa::ab::ac::ag::ah::ai::aj::ak::al::am::an::ao::ap::aq::ar::au::av::aw::ax::ay::az::ba::bb::bc::bd::bg::bh::bi::bj::bk::bl::.bool false::cz::da::db::dc::dd::de::bm::bn::bo::bp::bq::br::bt::a6::bu::bv::bx::bz::ca::cb::cc::ce::cf::cg::ch::ci::cj::ck::cm::[]).toArray,[]⟩/\Below w.heap.size w w') ⟨(d::f::g::h::j::.pointer (some ⟨c,0,none⟩)::k::l::.pointer (some ⟨vb,i,none⟩)::m::o::r::s::t::u::v::x::y::z::aa::ab::ac::ag::ah::ai::aj::ak::al::am::an::ao::ap::aq::ar::au::av::aw::ax::ay::az::ba::bb::bc::bd::bg::bh::bi::bj::bk::bl::cr::cs::ct::cu::cv::cw::cy::bm::bn::bo::bp::bq::br::bt::a6::bu::bv::bx::bz::ca::cb::cc::ce::cf::cg::ch::ci::cj::ck::cm::[]).toArray,[]⟩ w:=by
 conv=>arg 2;whnf
 have mixed:Tryz.prog.follows .mixedOrders=true:=by kernel_rfl
 have y0:w.drew.cell? ⟨c,0,none⟩=some (.int .i64 a):=c0;have y1:w.drew.cell? ⟨c,1,none⟩=some (.int .i64 ae):=c1;have y2:w.drew.cell? ⟨c,2,none⟩=some (.int .i64 b):=c2;have y3:w.drew.cell? ⟨c,3,none⟩=some (.int .i64 be):=c3;have y5:w.drew.cell? ⟨c,4,none⟩=some (.int .i64 p):=c4;have y6:w.drew.cell? ⟨c,5,none⟩=some (.int .i64 q):=c5;have y4:w.drew.cell? ⟨vb,i,none⟩=some (.slice ad n cap):=cx;clear c0 c1 c2 c3 c4 c5 cx
 go_region_law (first
   |(go_simp;refine hc.mono ?_;rintro e W1 ⟨rfl,df⟩))
 all_goals
  dsimp only [Q2T];refine ⟨_,_,_,_,_,_,rfl,?_⟩;exact Sm (Sr w) df
noncomputable def Q7f:Code:=(VR (Tryz.f131.body.getD .skip)).getD 14 .skip
set_option maxHeartbeats 8000000 in
set_option maxRecDepth 100000 in
theorem Tryz.links_r14 (d f g h j k l m o r s t u v x y z aa ab ac ag ah ai aj ak al am an ao ap aq ar au av aw ax ay az ba bb bc bd bg bh bi bj bk bl cr bm bn bo bp bq br cs ct cu cv cw cy bt a6 bu bv bx bz ca cb cc ce cf cg ch ci cj ck cm:Value) (vb i c n cap:Nat) (ad:Option Addr) (a ae b be p q:Int) (w:World) (c0:w.cell? ⟨c,0,none⟩=some (.int .i64 a)) (c1:w.cell? ⟨c,1,none⟩=some (.int .i64 ae)) (c2:w.cell? ⟨c,2,none⟩=some (.int .i64 b)) (c3:w.cell? ⟨c,3,none⟩=some (.int .i64 be)) (c4:w.cell? ⟨c,4,none⟩=some (.int .i64 p)) (c5:w.cell? ⟨c,5,none⟩=some (.int .i64 q)) (cx:w.cell? ⟨vb,i,none⟩=some (.slice ad n cap))
  (hc:Calls Tryz.prog 161 #[.agg #[.int .i64 a,.int .i64 ae,.int .i64 b,.int .i64 be,.int .i64 p,.int .i64 q],.slice ad n cap] w.drew fun e w'=>e = .returned (.bool true)/\Below w.drew.heap.size w.drew w') :
  Code.wp Tryz.prog Q7f (Q2T fun act w'=>∃ (cz da db dc dd de:Value) ,act=⟨(d::f::g::h::j::.pointer (some ⟨c,0,none⟩)::k::l::m::.pointer (some ⟨vb,i,none⟩)::o::r::s::t::u::v::x::y::z::aa::ab::ac::ag::ah::ai::aj::ak::al::am::an::ao::ap::aq::ar::au::av::aw::ax::ay::az::ba::bb::bc::bd::bg::bh::bi::bj::bk::bl::.bool false::bm::bn::bo::bp::bq::br::cz::da::db::dc::dd::de::bt::a6::bu::bv::bx::bz::ca::cb::cc::ce::cf::cg::ch::ci::cj::ck::cm::[]).toArray,[]⟩/\Below w.heap.size w w') ⟨(d::f::g::h::j::.pointer (some ⟨c,0,none⟩)::k::l::m::.pointer (some ⟨vb,i,none⟩)::o::r::s::t::u::v::x::y::z::aa::ab::ac::ag::ah::ai::aj::ak::al::am::an::ao::ap::aq::ar::au::av::aw::ax::ay::az::ba::bb::bc::bd::bg::bh::bi::bj::bk::bl::cr::bm::bn::bo::bp::bq::br::cs::ct::cu::cv::cw::cy::bt::a6::bu::bv::bx::bz::ca::cb::cc::ce::cf::cg::ch::ci::cj::ck::cm::[]).toArray,[]⟩ w:=by
 conv=>arg 2;whnf
 have mixed:Tryz.prog.follows .mixedOrders=true:=by kernel_rfl
 have y0:w.drew.cell? ⟨c,0,none⟩=some (.int .i64 a):=c0;have y1:w.drew.cell? ⟨c,1,none⟩=some (.int .i64 ae):=c1;have y2:w.drew.cell? ⟨c,2,none⟩=some (.int .i64 b):=c2;have y3:w.drew.cell? ⟨c,3,none⟩=some (.int .i64 be):=c3;have y5:w.drew.cell? ⟨c,4,none⟩=some (.int .i64 p):=c4;have y6:w.drew.cell? ⟨c,5,none⟩=some (.int .i64 q):=c5;have y4:w.drew.cell? ⟨vb,i,none⟩=some (.slice ad n cap):=cx;clear c0 c1 c2 c3 c4 c5 cx
 go_region_law (first
   |(go_simp;refine hc.mono ?_;rintro e W1 ⟨rfl,df⟩))
 all_goals
  dsimp only [Q2T];refine ⟨_,_,_,_,_,_,rfl,?_⟩;exact Sm (Sr w) df
noncomputable def Q6E:Code:=(VR (Tryz.f131.body.getD .skip)).getD 16 .skip
set_option maxHeartbeats 8000000 in
set_option maxRecDepth 100000 in
theorem Tryz.links_r16 (m n o r s t v x y z aa ab ac ag ah ai aj ak al am an ao ap aq ar au av aw ax ay az ba bb bc bd bg bh bi bj bk bl bm bn bo bp bq br bt bu bv bx bz ca cb cc ce cf cg ch ci cj cv b8 cw cx cy cz da db ck cm cn co cp cq cr cs ct:Value) (B vb N i c cap:Nat) (ad:Option Addr) (a ae b be p q:Int) (hd:List Value) (ll:List LL) (l:LL) (w:World) (c0:w.cell? ⟨c,0,none⟩=some (.int .i64 a)) (c1:w.cell? ⟨c,1,none⟩=some (.int .i64 ae)) (c2:w.cell? ⟨c,2,none⟩=some (.int .i64 b)) (c3:w.cell? ⟨c,3,none⟩=some (.int .i64 be)) (c4:w.cell? ⟨c,4,none⟩=some (.int .i64 p)) (c5:w.cell? ⟨c,5,none⟩=some (.int .i64 q))
  (hN:NestK 25 176 6 w B (.slice (some ⟨vb,0,none⟩) N N) hd ll) (hx:hd[i]? = some (.slice ad l.length cap)) (hl:ll[i]? = some l) (dy:l.length<=1000) (hB:B<=w.heap.size) (dz:c≠vb) (ea:(Value.slice ad l.length cap).ownBlock≠some c) :
  Code.wp Tryz.prog Q6E (Q2T fun act w'=>∃ (df dg dh di dj dk dl dn:Value) (xx:Value),act=⟨(m::n::o::r::s::.pointer (some ⟨c,0,none⟩)::t::v::.pointer (some ⟨vb,i,none⟩)::x::y::z::aa::ab::ac::ag::ah::ai::aj::ak::al::am::an::ao::ap::aq::ar::au::av::aw::ax::ay::az::ba::bb::bc::bd::bg::bh::bi::bj::bk::bl::bm::bn::bo::bp::bq::br::bt::bu::bv::bx::bz::ca::cb::cc::ce::cf::cg::ch::ci::cj::df::dg::dh::di::dj::dk::dl::dn::ck::cm::cn::co::cp::cq::cr::cs::ct::[]).toArray,[]⟩/\NestK 25 176 6 w' B (.slice (some ⟨vb,0,none⟩) N N) (hd.set i xx) (ll.set i (l++[[D.int .i64 a,.int .i64 ae,.int .i64 b,.int .i64 be,.int .i64 p,.int .i64 q]]))/\Grew w w' vb (.slice ad l.length cap) xx) ⟨(m::n::o::r::s::.pointer (some ⟨c,0,none⟩)::t::v::.pointer (some ⟨vb,i,none⟩)::x::y::z::aa::ab::ac::ag::ah::ai::aj::ak::al::am::an::ao::ap::aq::ar::au::av::aw::ax::ay::az::ba::bb::bc::bd::bg::bh::bi::bj::bk::bl::bm::bn::bo::bp::bq::br::bt::bu::bv::bx::bz::ca::cb::cc::ce::cf::cg::ch::ci::cj::cv::b8::cw::cx::cy::cz::da::db::ck::cm::cn::co::cp::cq::cr::cs::ct::[]).toArray,[]⟩ w:=by
 conv=>arg 2;whnf
 have mixed:Tryz.prog.follows .mixedOrders=true:=by kernel_rfl
 obtain ⟨i0,hi,dq⟩:=QeR.1 (show (Tryz.prog.info? 176).map (fun i=>(i.zero,i.size,i.bytes))=some (some (.agg #[.int .i64 0,.int .i64 0,.int .i64 0,.int .i64 0,.int .i64 0,.int .i64 0]),6,48) by kernel_rfl);obtain ⟨hz,f⟩:=Prod.mk.inj dq;obtain ⟨f,dr⟩:=Prod.mk.inj f;have b3:=(hN.row.lt vb rfl).2;have b7:=hN.each _ _ _ hx hl;have ds:w.cell? ⟨vb,i,none⟩=some (.slice ad l.length cap):=by
  have:=hN.row.cells (g:=vb) rfl i _ hx;rwa [Gc,Nat.zero_add] at this
 have b1:(Value.slice ad l.length cap).ownBlock≠some vb:=fun e=>hN.outer _ _ _ hx e rfl
 obtain ⟨a9,b4⟩:∃ a9,w.drew.heap[vb]? = some (.cells a9 25 (0,0)):=by
  rcases hN.row.2 with ⟨e,_⟩ | ⟨g,d1,a9,e,_,hg,_⟩
  ·cases e
  ·cases e;exact ⟨a9,hg⟩
 have q1:l.length+1<=maxLen:=by unfold maxLen;omega
 have q2:(l.length+1)*48<=140737488355328:=by omega
 have q3:∀ u∈[Value.int .i64 a,.int .i64 ae,.int .i64 b,.int .i64 be,.int .i64 p,.int .i64 q],u.oneCell'=true:=by simp [Value.oneCell']
 have y0:w.drew.cell? ⟨c,0,none⟩=some (.int .i64 a):=c0;have y1:w.drew.cell? ⟨c,1,none⟩=some (.int .i64 ae):=c1;have y2:w.drew.cell? ⟨c,2,none⟩=some (.int .i64 b):=c2;have y3:w.drew.cell? ⟨c,3,none⟩=some (.int .i64 be):=c3;have y5:w.drew.cell? ⟨c,4,none⟩=some (.int .i64 p):=c4;have y6:w.drew.cell? ⟨c,5,none⟩=some (.int .i64 q):=c5;have y4:w.drew.cell? ⟨vb,i,none⟩=some (.slice ad l.length cap):=ds;have d:w.drew.grownBy (w.drew.alloc (.cells #[.int .i64 a,.int .i64 ae,.int .i64 b,.int .i64 be,.int .i64 p,.int .i64 q] 176)) none:=World.grownBy_alloc _ _ none;have du:w.drew.ownsRow B 176 6 (.slice ad l.length cap) l.length (cellsOf l):=b7;have dw:(w.drew.alloc (.cells #[.int .i64 a,.int .i64 ae,.int .i64 b,.int .i64 be,.int .i64 p,.int .i64 q] 176)).ownsRow B 176 6 (.slice ad l.length cap) l.length (cellsOf l):=World.ownsRow.kept (w:=w.drew) du d (Classical.em _);have dx:∀ (j:Nat) (u:Value),[Value.int .i64 a,.int .i64 ae,.int .i64 b,.int .i64 be,.int .i64 p,.int .i64 q][j]? = some u->(w.drew.alloc (.cells #[.int .i64 a,.int .i64 ae,.int .i64 b,.int .i64 be,.int .i64 p,.int .i64 q] 176)).cell? ((⟨w.drew.heap.size,0,none⟩:Addr).add j)=some u:=World.news_of_block (heap_alloc_new _ _);have h:w.drew.heap.size<=(w.drew.alloc (.cells #[.int .i64 a,.int .i64 ae,.int .i64 b,.int .i64 be,.int .i64 p,.int .i64 q] 176)).heap.size:=d.size;have b5:B<=(w.drew.alloc (.cells #[.int .i64 a,.int .i64 ae,.int .i64 b,.int .i64 be,.int .i64 p,.int .i64 q] 176)).heap.size:=QeV hB h;have a6:vb<w.drew.heap.size:=b3;have b0:=(d.block vb a6 (fun e=>by cases e)).trans b4;have k:=d.cell_far ⟨vb,i,none⟩ a6 (fun e=>by cases e);have k:=k.trans y4;have de:(1:Nat)*6=6:=rfl
 go_region_law (first
   |(refine step_append_lies (w.drew.alloc (.cells #[.int .i64 a,.int .i64 ae,.int .i64 b,.int .i64 be,.int .i64 p,.int .i64 q] 176)) (by rfl) _ _ 25 (by rfl) B 176 i0 (.agg #[.int .i64 0,.int .i64 0,.int .i64 0,.int .i64 0,.int .i64 0,.int .i64 0]) 6 48 Tryz.underlying25 hi hz f dr (by rfl) (by decide) _ l.length (cellsOf l) (by rfl) dw ⟨w.drew.heap.size,0,none⟩ 1 1 [Value.int .i64 a,.int .i64 ae,.int .i64 b,.int .i64 be,.int .i64 p,.int .i64 q] (by rfl) rfl dx q3 (by decide) q1 q2 b5 _ rfl ?_;intro g c2 W2 b2 a8 hat e8;
     have rx:=(a8.cell_far ⟨vb,i,none⟩ (QeJ a6 h) (fun e=>b1 e.symm)).trans k;
     have rf:=frozen_of_row W2 vb i a9 25 ((a8.block vb (QeJ a6 h) (fun e=>b1 e.symm)).trans b0)))
 all_goals
  dsimp only [Q2T];have E:=Q0K (w:=w.drew) (row:=[D.int .i64 a,.int .i64 ae,.int .i64 b,.int .i64 be,.int .i64 p,.int .i64 q]) ⟨hN.row,hN.each,hN.outer,hN.apart⟩ hx hl rfl d b2 a8 hat;exact ⟨_,_,_,_,_,_,_,_,_,rfl,E.1,⟨E.2.own,E.2.os,E.2.tape,E.2.output,E.2.size,E.2.block⟩⟩
noncomputable def Q6I:Code:=(VR (Tryz.f131.body.getD .skip)).getD 17 .skip
set_option maxHeartbeats 8000000 in
set_option maxRecDepth 100000 in
theorem Tryz.links_r17 (m n o r s t v x y z aa ab ac ag ah ai aj ak al am an ao ap aq ar au av aw ax ay az ba bb bc bd bg bh bi bj bk bl bm bn bo bp bq br bt bu bv bx bz ca cb cc ce cf cg ch ci cj ck b5 cm cn co cp cq cr cu cv cw cx cy cz da db cs:Value) (B vb N i c cap:Nat) (ad:Option Addr) (a ae b be p q:Int) (hd:List Value) (ll:List LL) (l:LL) (w:World) (c0:w.cell? ⟨c,0,none⟩=some (.int .i64 a)) (c1:w.cell? ⟨c,1,none⟩=some (.int .i64 ae)) (c2:w.cell? ⟨c,2,none⟩=some (.int .i64 b)) (c3:w.cell? ⟨c,3,none⟩=some (.int .i64 be)) (c4:w.cell? ⟨c,4,none⟩=some (.int .i64 p)) (c5:w.cell? ⟨c,5,none⟩=some (.int .i64 q))
  (hN:NestK 25 176 6 w B (.slice (some ⟨vb,0,none⟩) N N) hd ll) (hx:hd[i]? = some (.slice ad l.length cap)) (hl:ll[i]? = some l) (dy:l.length<=1000) (hB:B<=w.heap.size) (dz:c≠vb) (ea:(Value.slice ad l.length cap).ownBlock≠some c) :
  Code.wp Tryz.prog Q6I (Q2T fun act w'=>∃ (df dg dh di dj dk dl dn:Value) (xx:Value),act=⟨(m::n::o::r::s::.pointer (some ⟨c,0,none⟩)::t::v::x::.pointer (some ⟨vb,i,none⟩)::y::z::aa::ab::ac::ag::ah::ai::aj::ak::al::am::an::ao::ap::aq::ar::au::av::aw::ax::ay::az::ba::bb::bc::bd::bg::bh::bi::bj::bk::bl::bm::bn::bo::bp::bq::br::bt::bu::bv::bx::bz::ca::cb::cc::ce::cf::cg::ch::ci::cj::ck::b5::cm::cn::co::cp::cq::cr::df::dg::dh::di::dj::dk::dl::dn::cs::[]).toArray,[]⟩/\NestK 25 176 6 w' B (.slice (some ⟨vb,0,none⟩) N N) (hd.set i xx) (ll.set i (l++[[D.int .i64 a,.int .i64 ae,.int .i64 b,.int .i64 be,.int .i64 p,.int .i64 q]]))/\Grew w w' vb (.slice ad l.length cap) xx) ⟨(m::n::o::r::s::.pointer (some ⟨c,0,none⟩)::t::v::x::.pointer (some ⟨vb,i,none⟩)::y::z::aa::ab::ac::ag::ah::ai::aj::ak::al::am::an::ao::ap::aq::ar::au::av::aw::ax::ay::az::ba::bb::bc::bd::bg::bh::bi::bj::bk::bl::bm::bn::bo::bp::bq::br::bt::bu::bv::bx::bz::ca::cb::cc::ce::cf::cg::ch::ci::cj::ck::b5::cm::cn::co::cp::cq::cr::cu::cv::cw::cx::cy::cz::da::db::cs::[]).toArray,[]⟩ w:=by
 conv=>arg 2;whnf
 have mixed:Tryz.prog.follows .mixedOrders=true:=by kernel_rfl
 obtain ⟨i0,hi,dq⟩:=QeR.1 (show (Tryz.prog.info? 176).map (fun i=>(i.zero,i.size,i.bytes))=some (some (.agg #[.int .i64 0,.int .i64 0,.int .i64 0,.int .i64 0,.int .i64 0,.int .i64 0]),6,48) by kernel_rfl);obtain ⟨hz,f⟩:=Prod.mk.inj dq;obtain ⟨f,dr⟩:=Prod.mk.inj f;have b3:=(hN.row.lt vb rfl).2;have b8:=hN.each _ _ _ hx hl;have ds:w.cell? ⟨vb,i,none⟩=some (.slice ad l.length cap):=by
  have:=hN.row.cells (g:=vb) rfl i _ hx;rwa [Gc,Nat.zero_add] at this
 have b1:(Value.slice ad l.length cap).ownBlock≠some vb:=fun e=>hN.outer _ _ _ hx e rfl
 obtain ⟨a9,b4⟩:∃ a9,w.drew.heap[vb]? = some (.cells a9 25 (0,0)):=by
  rcases hN.row.2 with ⟨e,_⟩ | ⟨g,d2,a9,e,_,hg,_⟩
  ·cases e
  ·cases e;exact ⟨a9,hg⟩
 have q1:l.length+1<=maxLen:=by unfold maxLen;omega
 have q2:(l.length+1)*48<=140737488355328:=by omega
 have q3:∀ u∈[Value.int .i64 a,.int .i64 ae,.int .i64 b,.int .i64 be,.int .i64 p,.int .i64 q],u.oneCell'=true:=by simp [Value.oneCell']
 have y0:w.drew.cell? ⟨c,0,none⟩=some (.int .i64 a):=c0;have y1:w.drew.cell? ⟨c,1,none⟩=some (.int .i64 ae):=c1;have y2:w.drew.cell? ⟨c,2,none⟩=some (.int .i64 b):=c2;have y3:w.drew.cell? ⟨c,3,none⟩=some (.int .i64 be):=c3;have y5:w.drew.cell? ⟨c,4,none⟩=some (.int .i64 p):=c4;have y6:w.drew.cell? ⟨c,5,none⟩=some (.int .i64 q):=c5;have y4:w.drew.cell? ⟨vb,i,none⟩=some (.slice ad l.length cap):=ds;have d:w.drew.grownBy (w.drew.alloc (.cells #[.int .i64 a,.int .i64 ae,.int .i64 b,.int .i64 be,.int .i64 p,.int .i64 q] 176)) none:=World.grownBy_alloc _ _ none;have du:w.drew.ownsRow B 176 6 (.slice ad l.length cap) l.length (cellsOf l):=b8;have dw:(w.drew.alloc (.cells #[.int .i64 a,.int .i64 ae,.int .i64 b,.int .i64 be,.int .i64 p,.int .i64 q] 176)).ownsRow B 176 6 (.slice ad l.length cap) l.length (cellsOf l):=World.ownsRow.kept (w:=w.drew) du d (Classical.em _);have dx:∀ (j:Nat) (u:Value),[Value.int .i64 a,.int .i64 ae,.int .i64 b,.int .i64 be,.int .i64 p,.int .i64 q][j]? = some u->(w.drew.alloc (.cells #[.int .i64 a,.int .i64 ae,.int .i64 b,.int .i64 be,.int .i64 p,.int .i64 q] 176)).cell? ((⟨w.drew.heap.size,0,none⟩:Addr).add j)=some u:=World.news_of_block (heap_alloc_new _ _);have h:w.drew.heap.size<=(w.drew.alloc (.cells #[.int .i64 a,.int .i64 ae,.int .i64 b,.int .i64 be,.int .i64 p,.int .i64 q] 176)).heap.size:=d.size;have b6:B<=(w.drew.alloc (.cells #[.int .i64 a,.int .i64 ae,.int .i64 b,.int .i64 be,.int .i64 p,.int .i64 q] 176)).heap.size:=QeV hB h;have a6:vb<w.drew.heap.size:=b3;have b0:=(d.block vb a6 (fun e=>by cases e)).trans b4;have k:=d.cell_far ⟨vb,i,none⟩ a6 (fun e=>by cases e);have k:=k.trans y4;have dp:(1:Nat)*6=6:=rfl
 go_region_law (first
   |(refine step_append_lies (w.drew.alloc (.cells #[.int .i64 a,.int .i64 ae,.int .i64 b,.int .i64 be,.int .i64 p,.int .i64 q] 176)) (by rfl) _ _ 25 (by rfl) B 176 i0 (.agg #[.int .i64 0,.int .i64 0,.int .i64 0,.int .i64 0,.int .i64 0,.int .i64 0]) 6 48 Tryz.underlying25 hi hz f dr (by rfl) (by decide) _ l.length (cellsOf l) (by rfl) dw ⟨w.drew.heap.size,0,none⟩ 1 1 [Value.int .i64 a,.int .i64 ae,.int .i64 b,.int .i64 be,.int .i64 p,.int .i64 q] (by rfl) rfl dx q3 (by decide) q1 q2 b6 _ rfl ?_;intro g c2 W2 b2 a8 hat fa;
     have rx:=(a8.cell_far ⟨vb,i,none⟩ (QeJ a6 h) (fun e=>b1 e.symm)).trans k;
     have rf:=frozen_of_row W2 vb i a9 25 ((a8.block vb (QeJ a6 h) (fun e=>b1 e.symm)).trans b0)))
 all_goals
  dsimp only [Q2T];have E:=Q0K (w:=w.drew) (row:=[D.int .i64 a,.int .i64 ae,.int .i64 b,.int .i64 be,.int .i64 p,.int .i64 q]) ⟨hN.row,hN.each,hN.outer,hN.apart⟩ hx hl rfl d b2 a8 hat;exact ⟨_,_,_,_,_,_,_,_,_,rfl,E.1,⟨E.2.own,E.2.os,E.2.tape,E.2.output,E.2.size,E.2.block⟩⟩
theorem Q3Z {N:Nat} {l0 l1 l2 c:LL} {a ae b be p q:Int} (h:XQ N l0 l1 l2 c a ae b be p q some=some true) {S:Nat->Prop} {w:World} (hS:∀ b,S b->b<w.heap.size) {d f g i:Value}
  (j:Rd S w d (.sl 1 l0)) (k:Rd S w f (.sl 1 l1)) (h2:Rd S w g (.sl 5 l2)) (l:Rd S w i (.sl 6 c)) :
  Calls Tryz.prog 157 #[.agg #[d,f,g,i],.agg #[.int .i64 a,.int .i64 ae,.int .i64 b,.int .i64 be,.int .i64 p,.int .i64 q]] w fun e w'=>e = .returned (.bool true)/\RowKit.Below w.heap.size w w':=by
 have he:(GA N).E Dl 0 true [.ag ([D.sl 1 l0,.sl 1 l1,.sl 5 l2,.sl 6 c].map .d),.ag ([D.int .i64 a,.int .i64 ae,.int .i64 b,.int .i64 be,.int .i64 p,.int .i64 q].map .d)] (fun _=>none) some=some ⟨.d (.bool true),[],[]⟩:=by
  show gb true (XQ N l0 l1 l2 c a ae b be p q some) false (fun r=>(some ⟨.d (D.bool r),[],[]⟩:Option Dl))=_;rw [h];rfl
 exact HE (XO ((GA N).ok) he) hS (Gs (RdLs.agg (.cons j (.cons k (.cons h2 (.cons l .nil))))) (RdLs.agg (.cons (.int _ _) (.cons (.int _ _) (.cons (.int _ _) (.cons (.int _ _) (.cons (.int _ _) (.cons (.int _ _) .nil))))))))
theorem Aw {N:Nat} {x:LL} {a ae b be:Int} (h:J3 N x a ae b be some=some false) {S:Nat->Prop} {w:World} (hS:∀ b,S b->b<w.heap.size) {v:Value} (hv:Rd S w v (.sl 6 x)) :
  Calls Tryz.prog 160 #[v,.agg #[.int .i64 a,.int .i64 ae],.agg #[.int .i64 b,.int .i64 be]] w fun e w'=>e = .returned (.bool false)/\RowKit.Below w.heap.size w w':=by
 have he:(Pr N).E Dl 0 true [.d (.sl 6 x),.ag ([D.int .i64 a,.int .i64 ae].map .d),.ag ([D.int .i64 b,.int .i64 be].map .d)] (fun _=>none) some=some ⟨.d (.bool false),[],[]⟩:=by
  show gb true (J3 N x a ae b be some) false (fun r=>(some ⟨.d (D.bool r),[],[]⟩:Option Dl))=_;rw [h];rfl
 exact HE (XO ((Pr N).ok) he) hS (Q8e (.d _ _ hv) (RdLs.agg (.cons (.int _ _) (.cons (.int _ _) .nil))) (RdLs.agg (.cons (.int _ _) (.cons (.int _ _) .nil))))
theorem CM {N:Nat} {x:LL} {a ae b be p q:Int} (h:Vo N a ae b be p q x some=some true) {S:Nat->Prop} {w:World} (hS:∀ b,S b->b<w.heap.size) {v:Value} (hv:Rd S w v (.sl 6 x)) :
  Calls Tryz.prog 161 #[.agg #[.int .i64 a,.int .i64 ae,.int .i64 b,.int .i64 be,.int .i64 p,.int .i64 q],v] w fun e w'=>e = .returned (.bool true)/\RowKit.Below w.heap.size w w':=by
 have he:(NW N).E Dl 0 true [.ag ([D.int .i64 a,.int .i64 ae,.int .i64 b,.int .i64 be,.int .i64 p,.int .i64 q].map .d),.d (.sl 6 x)] (fun _=>none) some=some ⟨.d (.bool true),[],[]⟩:=by
  show gb true (Vo N a ae b be p q x some) false (fun r=>(some ⟨.d (D.bool r),[],[]⟩:Option Dl))=_;rw [h];rfl
 exact HE (XO ((NW N).ok) he) hS (Gs (RdLs.agg (.cons (.int _ _) (.cons (.int _ _) (.cons (.int _ _) (.cons (.int _ _) (.cons (.int _ _) (.cons (.int _ _) .nil))))))) (.d _ _ hv))
theorem BH {N:Nat} {l0 l1 l2 d:LL} {st:List LL} {l:LL} {j:Nat} (hj:j<l.length) (h:JV N l0 l1 l2 d st (l.drop j)=true) :
  ∃ a ae b be p q x y,l[j]? = some [D.int .i64 a,.int .i64 ae,.int .i64 b,.int .i64 be,.int .i64 p,.int .i64 q]/\((0<=a/\a<l2.length)/\(0<=ae/\ae<=1)/\(0<=b/\b<l2.length)/\(0<=be/\be<=1)) /\
   XQ N l0 l1 l2 d a ae b be p q some=some true/\(2*a+ae).toNat≠(2*b+be).toNat/\st[(2*a+ae).toNat]? = some x/\st[(2*b+be).toNat]? = some y /\
   J3 N x a ae b be some=some false/\Vo N a ae b be p q x some=some true/\Vo N a ae b be p q y some=some true/\x.length<=1/\y.length<=1 /\
   JV N l0 l1 l2 d ((st.set (2*a+ae).toNat (x++[[D.int .i64 a,.int .i64 ae,.int .i64 b,.int .i64 be,.int .i64 p,.int .i64 q]])).set (2*b+be).toNat (y++[[D.int .i64 a,.int .i64 ae,.int .i64 b,.int .i64 be,.int .i64 p,.int .i64 q]])) (l.drop (j+1))=true:=by
 rw [List.drop_eq_getElem_cons hj] at h;unfold JV at h;split at h
 ·rename_i a ae b be p q e;simp only [QeH,Bool.not_eq_true',decide_eq_true_eq] at h;obtain ⟨⟨⟨g1,f⟩,g⟩,c⟩:=h;split at c
  ·rename_i x y hx hy;simp only [QeH] at c;obtain ⟨⟨⟨⟨⟨k1,i⟩,k⟩,m⟩,n⟩,o⟩:=c;refine ⟨a,ae,b,be,p,q,x,y,by rw [QeB hj,e],?_,PQ f,?_,hx,hy,Q5v k1,PQ i,PQ k,QeF m,QeF n,by rw [<- e];exact o⟩
   ·obtain ⟨⟨⟨⟨⟨⟨⟨r,s⟩,t⟩,u⟩,v⟩,z⟩,z7⟩,z8⟩:=g1;exact ⟨⟨r,s⟩,⟨t,u⟩,⟨v,z⟩,⟨z7,z8⟩⟩
   ·exact Nat.ne_of_beq_eq_false g
  ·cases c
 ·cases h
theorem Q4c {w w1:World} {B N vb:Nat} (h:w1.ownsRow B 25 1 (.slice (some ⟨vb,0,none⟩) N N) N (List.replicate N (.slice none 0 0))):NestK 25 176 6 w1 B (.slice (some ⟨vb,0,none⟩) N N) (List.replicate N (.slice none 0 0)) (List.replicate N []):=by
 refine ⟨by simpa using h,fun i x l hx hl=>?_,fun i x b hx hb=>?_,fun i j x y b hx hy ak ao=>?_⟩
 ·have e1:=Qez hx;have e2:=Qez hl;obtain ⟨_,rfl⟩:=QeS.1 e1;obtain ⟨_,rfl⟩:=QeS.1 e2;exact World.ownsRow_nil w1 B 176 6
 ·obtain ⟨_,rfl⟩:=QeS.1 (Qez hx);cases hb
 ·obtain ⟨_,rfl⟩:=QeS.1 (Qez hx);cases ak
theorem Q5t {w:World} {B i:Nat} {v:Value} {hd:List Value} {ll:List LL} {l:LL} (h:NestK 25 176 6 w B v hd ll) (hl:ll[i]? = some l):∃ (ad:Option Addr) (cap:Nat),hd[i]? = some (.slice ad l.length cap):=by
 have hi:i<hd.length:=by rw [h.len];exact (QeC.1 hl).1
 have hx:=QeB hi;rcases (h.each i hd[i] l hx hl).2 with ⟨e,a⟩ | ⟨g,cap,am,e,_⟩
 ·exact ⟨none,0,by rw [hx,e,a]⟩
 ·exact ⟨some ⟨g,0,none⟩,cap,by rw [hx,e]⟩
theorem Q2r {w:World} {B i:Nat} {v x:Value} {hd:List Value} {ll:List LL} {l:LL} (h:NestK 25 176 6 w B v hd ll) (hx:hd[i]? = some x) (hl:ll[i]? = some l) (ak:∀ l∈ll,∀ r∈l,Ly 6 r=true) :
  (∀ b,x.ownBlock=some b->b<w.drew.heap.size)/\Rd (fun b=>x.ownBlock=some b) w.drew x (.sl 6 l):=
 ⟨fun b hb=>(h.blk hx hb).2,Rd.mono (w:=w) (w':=w.drew) (fun _ h=>h) (fun _ _=>rfl) (Qay (w:=w) (h.each i x l hx hl) (ak l (Qez hl)) (fun _ h=>h))⟩
theorem EL {w:World} {B vb N i:Nat} {x:Value} {hd:List Value} {ll:List LL} (h:NestK 25 176 6 w B (.slice (some ⟨vb,0,none⟩) N N) hd ll) (hx:hd[i]? = some x):w.cell? ⟨vb,i,none⟩=some x:=by
 have:=h.row.cells (g:=vb) rfl i _ hx;rwa [Gc,Nat.zero_add] at this
theorem Q4A {ll:List LL} {i:Nat} {x:LL} {row:List D} (h:∀ l∈ll,∀ r∈l,Ly 6 r=true) (hx:ll[i]? = some x) (hr:Ly 6 row=true):∀ l∈ll.set i (x++[row]),∀ r∈l,Ly 6 r=true:=by
 intro l hl r ak;rcases List.mem_or_eq_of_mem_set hl with a | rfl
 ·exact h l a r ak
 ·rcases QeA.1 ak with a | a
  ·exact h x (Qez hx) r a
  ·simp at a;subst a;exact hr
theorem Ct {w0 w w':World} {n vb:Nat} {x x':Value} (h:Below n w0 w) (hg:Grew w w' vb x x') (hn:n<=w.heap.size) (hv:n<=vb) (hx:∀ c,x.ownBlock=some c->n<=c):Below n w0 w':=
 ⟨hg.os.trans h.os,hg.tape.trans h.tape,hg.output.trans h.output,QeV h.size hg.size,fun k hk=>(hg.block k (by omega) (by omega) (fun e=>by have:=hx k e;omega)).trans (h.block k hk)⟩
theorem Q6c {a ae b be:Int} (h:¬ (a=b/\ae=be)) (w:World):(binOp .eql 231 (.agg #[.int .i64 a,.int .i64 ae]) (.agg #[.int .i64 b,.int .i64 be])).run Tryz.prog w = .ok (.bool false) w:=by
 go_simp
 exact fun e1 e2=>h ⟨e1,e2⟩
set_option maxHeartbeats 16000000 in
set_option maxRecDepth 100000 in
theorem Tryz.links_calls {N:Nat} (S:Nat->Prop) (w:World) (hS:∀ b,S b->b<w.heap.size) (l0 l1 l2 f:LL) (v0 v1 v2 v3:Value) (h0:Rd S w v0 (.sl 1 l0)) (h1:Rd S w v1 (.sl 1 l1)) (h2:Rd S w v2 (.sl 5 l2)) (h3:Rd S w v3 (.sl 6 f))
  (m2:l2.length<=96) (m3:f.length<=192) (dt:JV N l0 l1 l2 f (List.replicate (2*l2.length) []) f=true) :
  Calls Tryz.prog 131 #[.agg #[v0,v1,v2,v3]] w fun e w'=>e = .returned (.int .i64 0)/\Below w.heap.size w w':=by
 obtain ⟨z,aa,rfl⟩:=G3 h0;obtain ⟨ab,ac,rfl⟩:=G3 h1;obtain ⟨t,u,rfl⟩:=G3 h2;obtain ⟨ad,v,rfl⟩:=G3 h3;obtain ⟨i0,hi,ca⟩:=QeR.1 (show (Tryz.prog.info? 25).map (fun i=>(i.zero,i.size,i.bytes))=some (some (.slice none 0 0),1,24) by kernel_rfl);obtain ⟨hz,av⟩:=Prod.mk.inj ca;obtain ⟨av,cb⟩:=Prod.mk.inj av;have d4:∀ w:World,∃ w',(Instr.makeSlice 228 (.int .i64 (2*(l2.length:Int))) (.int .i64 (2*(l2.length:Int)))).run Tryz.prog w = .ok (.slice (some ⟨w.heap.size,0,none⟩) (2*l2.length) (2*l2.length)) w' /\
   w'.ownsRow w.heap.size 25 1 (.slice (some ⟨w.heap.size,0,none⟩) (2*l2.length) (2*l2.length)) (2*l2.length) (List.replicate (2*l2.length) (.slice none 0 0))/\w.grownBy w' none:=by
  intro w;obtain ⟨w',r1,r2,r3⟩:=run_make_full w w.heap.size 228 25 i0 (.slice none 0 0) 1 Tryz.underlying228 hi hz av .i64 .i64 (2*l2.length) (by rw [cb];omega) (by unfold maxLen;omega) (QeK _);refine ⟨w',by rw [<- r1];simp,?_,r3⟩;have e:(madeCells (Value.slice none 0 0).cells (2*l2.length*1)).toList=List.replicate (2*l2.length) (.slice none 0 0):=by
   apply List.ext_getElem
   ·simp [size_madeCells]
   ·intro i h1 h2;simp [madeCells,Value.cells,Nat.mod_one]
  rw [<- e];exact r2
 have fz:wrap64 (2*(l2.length:Int))=2*(l2.length:Int):=by unfold wrap64;omega
 have b4:(w.alloc (.cells #[.slice z l0.length aa,.slice ab l1.length ac,.slice t l2.length u,.slice ad f.length v] 27)).heap[w.heap.size]? = some (.cells #[.slice z l0.length aa,.slice ab l1.length ac,.slice t l2.length u,.slice ad f.length v] 27 (0,0)):=heap_alloc_new w _;have bd:Below w.heap.size w (w.alloc (.cells #[.slice z l0.length aa,.slice ab l1.length ac,.slice t l2.length u,.slice ad f.length v] 27)):=Wb (Below.refl _ _) (QeK _) _;have bg:(w.alloc (.cells #[.slice z l0.length aa,.slice ab l1.length ac,.slice t l2.length u,.slice ad f.length v] 27)).heap.size=w.heap.size+1:=by simp
 obtain ⟨w2,cr,b3,aw⟩:=d4 (w.alloc (.cells #[.slice z l0.length aa,.slice ab l1.length ac,.slice t l2.length u,.slice ad f.length v] 27));have a8:=(aw.block w.heap.size (by simp) (by simp)).trans b4;have a6:Below w.heap.size w w2:=⟨aw.os.trans bd.os,aw.tape.trans bd.tape,aw.output.trans bd.output,QeV bd.size aw.size,fun b hb=>(aw.block b (by omega) (by simp)).trans (bd.block b hb)⟩;have ej:=aw.size;rw [bg] at cr b3 ej;have df:=Q4c (w:=w) b3;clear d4 aw b3;have y2:(w.alloc (.cells #[.slice z l0.length aa,.slice ab l1.length ac,.slice t l2.length u,.slice ad f.length v] 27)).cell? ⟨w.heap.size,2,none⟩=some (.slice t l2.length u):=by rw [Qew b4];rfl
 have z3:w2.cell? ⟨w.heap.size,3,none⟩=some (.slice ad f.length v):=by rw [Qew a8];rfl
 go_enter Tryz.func131,Tryz.ntmps131
 go_wp2
 clear cr b4 y2 z3 bd bg;generalize en:w.heap.size=H0 at *
 go_loopw [18] (fun i wr=>∃ (j:Nat) (hd:List Value) (ll:List LL),j<=f.length/\i = .int .i64 j/\NestK 25 176 6 wr (H0+1) (.slice (some ⟨H0+1,0,none⟩) (2*l2.length) (2*l2.length)) hd ll/\ll.length=2*l2.length /\
   JV N l0 l1 l2 f ll (f.drop j)=true/\(∀ l∈ll,∀ r∈l,Ly 6 r=true)/\wr.heap[H0]? = some (.cells #[.slice z l0.length aa,.slice ab l1.length ac,.slice t l2.length u,.slice ad f.length v] 27 (0,0))/\Below H0 w wr)
  (fun i _=>f.length-(intOf i).toNat)
 case atStart=>
  refine ⟨0,_,_,Nat.zero_le _,rfl,df,by simp,by simpa using dt,fun l hl r hr=>?_,a8,a6⟩;obtain ⟨_,rfl⟩:=QeS.1 hl;cases hr
 case round=>
  obtain ⟨j,hd,ll,hj,rfl,hN,c8,ee,a9,dy,hF⟩:=hrel;clear df dt a8 a6;by_cases ec:j<f.length
  ·have e9:((j:Int)<(f.length:Int)):=by omega
   obtain ⟨a,ae,b,be,p,q,x,y,ek,⟨⟨ch,dc⟩,⟨ci,cj⟩,⟨ck,dd⟩,⟨cm,cn⟩⟩,cf,cx,hx,hy,cy,co,cp,fm,f7,c3⟩:=BH ec ee;have ef:∀ c,c<H0->wr.heap[c]? = w.heap[c]?:=fun c hc=>hF.block c hc
   have gk:∀ c,S c->c<wr.heap.size:=fun c hc=>by have:=hS c hc;have:=hF.size;omega
   have bh:=Rd.keep (w':=wr) h3 hS ef;obtain ⟨a3,rfl,_,_,ar⟩:=Q5P bh ek;obtain ⟨u0,x0,q0⟩:=ar 0 _ rfl;obtain ⟨u1,x1,q1⟩:=ar 1 _ rfl;obtain ⟨fp,x2,q2⟩:=ar 2 _ rfl;obtain ⟨ga,x3,q3⟩:=ar 3 _ rfl;obtain ⟨f5,x4,q4⟩:=ar 4 _ rfl;obtain ⟨fx,x5,q5⟩:=ar 5 _ rfl;rw [TJ q0,Nat.add_zero] at x0;rw [TJ q1,GM _ _ _ (by decide)] at x1;rw [TJ q2,GM _ _ _ (by decide)] at x2;rw [TJ q3,GM _ _ _ (by decide)] at x3;rw [TJ q4,GM _ _ _ (by decide)] at x4;rw [TJ q5,GM _ _ _ (by decide)] at x5;clear ar q0 q1 q2 q3 q4 q5 bh;have dg:H0+1<=wr.heap.size:=(Array.getElem?_eq_some_iff.1 dy).1;have gg:H0+1<wr.heap.size:=(hN.row.lt (H0+1) rfl).2;obtain ⟨b6,b7,bj⟩:=Q5t hN hx;obtain ⟨cg,ce,b9⟩:=Q5t hN hy;have bc:∀ c,(Value.slice b6 x.length b7).ownBlock=some c->H0+1<=c/\c<wr.heap.size:=fun c hc=>hN.blk bj hc
   have b2:∀ c,(Value.slice cg y.length ce).ownBlock=some c->H0+1<=c/\c<wr.heap.size:=fun c hc=>hN.blk b9 hc
   have bk:wr.grownBy (wr.alloc (.cells #[.int .i64 a,.int .i64 ae,.int .i64 b,.int .i64 be,.int .i64 p,.int .i64 q] 176)) none:=World.grownBy_alloc wr _ none;have ag:(wr.alloc (.cells #[.int .i64 a,.int .i64 ae,.int .i64 b,.int .i64 be,.int .i64 p,.int .i64 q] 176)).heap[wr.heap.size]? = some (.cells #[.int .i64 a,.int .i64 ae,.int .i64 b,.int .i64 be,.int .i64 p,.int .i64 q] 176 (0,0)):=heap_alloc_new wr _;have d7:=VN hN bk;have c4:=Wb hF (by omega) (.cells #[.int .i64 a,.int .i64 ae,.int .i64 b,.int .i64 be,.int .i64 p,.int .i64 q] 176);have al:=(bk.block H0 (by omega) (by simp)).trans dy;have dh:(wr.alloc (.cells #[.int .i64 a,.int .i64 ae,.int .i64 b,.int .i64 be,.int .i64 p,.int .i64 q] 176)).heap.size=wr.heap.size+1:=by simp
   generalize em:wr.alloc (.cells #[.int .i64 a,.int .i64 ae,.int .i64 b,.int .i64 be,.int .i64 p,.int .i64 q] 176)=W1 at *
   generalize di:wr.heap.size=d at *
   have an:∀ c,c<H0->W1.heap[c]? = w.heap[c]?:=fun c hc=>c4.block c hc
   have cv:∀ c,S c->c<W1.heap.size:=fun c hc=>by have:=hS c hc;omega
   have k0:=Rd.keep (w':=W1) h0 hS an;have k1:=Rd.keep (w':=W1) h1 hS an;have k2:=Rd.keep (w':=W1) h2 hS an;have k3:=Rd.keep (w':=W1) h3 hS an;have z0:W1.cell? ⟨H0,0,none⟩=some (.slice z l0.length aa):=by rw [Qew al];rfl
   have z1:W1.cell? ⟨H0,1,none⟩=some (.slice ab l1.length ac):=by rw [Qew al];rfl
   have z2:W1.cell? ⟨H0,2,none⟩=some (.slice t l2.length u):=by rw [Qew al];rfl
   have z3:W1.cell? ⟨H0,3,none⟩=some (.slice (some a3) f.length v):=by rw [Qew al];rfl
   have c0:W1.cell? ⟨d,0,none⟩=some (.int .i64 a):=by rw [Qew ag];rfl
   have c1:W1.cell? ⟨d,1,none⟩=some (.int .i64 ae):=by rw [Qew ag];rfl
   have g:W1.cell? ⟨d,2,none⟩=some (.int .i64 b):=by rw [Qew ag];rfl
   have m:W1.cell? ⟨d,3,none⟩=some (.int .i64 be):=by rw [Qew ag];rfl
   have n:W1.cell? ⟨d,4,none⟩=some (.int .i64 p):=by rw [Qew ag];rfl
   have o:W1.cell? ⟨d,5,none⟩=some (.int .i64 q):=by rw [Qew ag];rfl
   go_wp2_with (go_at_call 157;refine (Q3Z cf cv k0 k1 k2 k3).mono ?_)
   rintro e W2 ⟨rfl,a6⟩;have ah:=(a6.block d (by omega)).trans ag;have bn:=(a6.block H0 (by omega)).trans al;have dw:=VN d7 (Zh a6);have d9:=U1 c4 (by omega) a6;have dj:=a6.size;clear c0 c1 g m n o z0 z1 z2 z3 k0 k1 k2 k3 an cv ag al d7 c4;have c0:W2.cell? ⟨d,0,none⟩=some (.int .i64 a):=by rw [Qew ah];rfl
   have c1:W2.cell? ⟨d,1,none⟩=some (.int .i64 ae):=by rw [Qew ah];rfl
   have g:W2.cell? ⟨d,2,none⟩=some (.int .i64 b):=by rw [Qew ah];rfl
   have m:W2.cell? ⟨d,3,none⟩=some (.int .i64 be):=by rw [Qew ah];rfl
   have n:W2.cell? ⟨d,4,none⟩=some (.int .i64 p):=by rw [Qew ah];rfl
   have o:W2.cell? ⟨d,5,none⟩=some (.int .i64 q):=by rw [Qew ah];rfl
   go_wp2_with (go_at_call 158;refine (Tryz.ends_calls W2 a ae b be p q).mono ?_)
   rintro e W3 ⟨rfl,b0⟩
   go_wp2
   clear c0 c1 g m n o;have dk:=b0.size;have ao:W3.grownBy ((W3.alloc (.cells #[.int .i64 a,.int .i64 ae] 231)).alloc (.cells #[.int .i64 b,.int .i64 be] 231)) none:=⟨rfl,rfl,rfl,by simp;omega,fun k hk _=>by rw [QeM _ _ _ (by simp;omega),QeM _ _ _ hk]⟩;have de:=Wb (Wb (U1 d9 (by omega) b0) (by omega) (.cells #[.int .i64 a,.int .i64 ae] 231)) (by omega) (.cells #[.int .i64 b,.int .i64 be] 231);have bo:=(ao.block d (by omega) (by simp)).trans ((b0.block d (by omega)).trans ah);have bp:=(ao.block H0 (by omega) (by simp)).trans ((b0.block H0 (by omega)).trans bn);have du:=VN (VN dw (Zh b0)) ao;have ap:((W3.alloc (.cells #[.int .i64 a,.int .i64 ae] 231)).alloc (.cells #[.int .i64 b,.int .i64 be] 231)).heap[W3.heap.size]? = some (.cells #[.int .i64 a,.int .i64 ae] 231 (0,0)):=by
    rw [QeM _ _ _ (by simp)];exact heap_alloc_new _ _
   have aq:((W3.alloc (.cells #[.int .i64 a,.int .i64 ae] 231)).alloc (.cells #[.int .i64 b,.int .i64 be] 231)).heap[W3.heap.size+1]? = some (.cells #[.int .i64 b,.int .i64 be] 231 (0,0)):=by
    have:=heap_alloc_new (W3.alloc (.cells #[.int .i64 a,.int .i64 ae] 231)) (.cells #[.int .i64 b,.int .i64 be] 231);simpa using this
   have dl:((W3.alloc (.cells #[.int .i64 a,.int .i64 ae] 231)).alloc (.cells #[.int .i64 b,.int .i64 be] 231)).heap.size=W3.heap.size+2:=by simp
   clear ao ah bn dw d9;generalize eg:(W3.alloc (.cells #[.int .i64 a,.int .i64 ae] 231)).alloc (.cells #[.int .i64 b,.int .i64 be] 231)=W4 at *
   generalize e0:W3.heap.size=s at *
   have fb:d<W2.heap.size:=by omega
   clear eg em;have c0:W4.cell? ⟨s,0,none⟩=some (.int .i64 a):=by rw [Qew ap];rfl
   have c1:W4.cell? ⟨s,1,none⟩=some (.int .i64 ae):=by rw [Qew ap];rfl
   have d0:W4.cell? ⟨s+1,0,none⟩=some (.int .i64 b):=by rw [Qew aq];rfl
   have d1:W4.cell? ⟨s+1,1,none⟩=some (.int .i64 be):=by rw [Qew aq];rfl
   refine Code.wp_mono ?_ (Tryz.links_r8 _ _ _ _ _ _ _ _ _ _ _ _ _ _ _ _ _ _ _ _ _ _ _ _ _ _ _ _ _ _ _ _ _ _ _ _ _ _ _ _ _ _ _ _ _ _ _ _ _ _ _ _ _ _ _ _ _ _ _ _ _ _ _ _ _ _ _ _ _ _ _ _ _ _ _ _ _ (H0+1) (2*l2.length) s (s+1) a ae b be W4 c0 c1 d0 d1 ch (by omega) ci cj ck (by omega) cm cn (by omega) (by omega));clear c0 c1 d0 d1;rintro e act W5 h;cases e with
   |normal=>
    obtain ⟨_,_,_,_,_,_,_,_,rfl,a7⟩:=h;have fg:=a7.size;have c7:=U1 de (by omega) a7;have bq:=(a7.block d (by omega)).trans bo;have br:=(a7.block H0 (by omega)).trans bp;have b5:=VN du (Zh a7);have ax:=(a7.block s (by omega)).trans ap;have ay:=(a7.block (s+1) (by omega)).trans aq;clear de bo bp du ap aq a7;have e2:=Q6c (a:=a) (ae:=ae) (b:=b) (be:=be) (fun h=>cx (by rw [h.1,h.2]));generalize fk:(2*a+ae).toNat=ia at *
    generalize f4:(2*b+be).toNat=ib at *
    have c0:W5.cell? ⟨s,0,none⟩=some (.int .i64 a):=by rw [Qew ax];rfl
    have c1:W5.cell? ⟨s,1,none⟩=some (.int .i64 ae):=by rw [Qew ax];rfl
    have d0:W5.cell? ⟨s+1,0,none⟩=some (.int .i64 b):=by rw [Qew ay];rfl
    have d1:W5.cell? ⟨s+1,1,none⟩=some (.int .i64 be):=by rw [Qew ay];rfl
    dsimp only [Exit.then]
    go_wp2
    have jx:=Q2r b5 bj hx a9;have au:=EL b5 bj;refine Code.wp_mono ?_ (Tryz.links_r11 _ _ _ _ _ _ _ _ _ _ _ _ _ _ _ _ _ _ _ _ _ _ _ _ _ _ _ _ _ _ _ _ _ _ _ _ _ _ _ _ _ _ _ _ _ _ _ _ _ _ _ _ _ _ _ _ _ _ _ _ _ _ _ _ _ _ _ _ _ _ _ _ _ _ _ _ _ (H0+1) ia s (s+1) x.length b7 b6 a ae b be W5 c0 c1 d0 d1 au (Aw cy jx.1 jx.2));clear c0 c1 d0 d1 jx au;rintro e act W6 h;cases e with
    |normal=>
     obtain ⟨_,_,_,_,_,_,rfl,bi⟩:=h;have dn:=bi.size;have d5:=U1 c7 (by omega) bi;have ai:=(bi.block d (by omega)).trans bq;have bt:=(bi.block H0 (by omega)).trans br;have b8:=VN b5 (Zh bi);clear c7 bq br b5 ax ay bi;dsimp only [Exit.then]
     go_wp2
     have c0:W6.cell? ⟨d,0,none⟩=some (.int .i64 a):=by rw [Qew ai];rfl
     have c1:W6.cell? ⟨d,1,none⟩=some (.int .i64 ae):=by rw [Qew ai];rfl
     have g:W6.cell? ⟨d,2,none⟩=some (.int .i64 b):=by rw [Qew ai];rfl
     have m:W6.cell? ⟨d,3,none⟩=some (.int .i64 be):=by rw [Qew ai];rfl
     have n:W6.cell? ⟨d,4,none⟩=some (.int .i64 p):=by rw [Qew ai];rfl
     have o:W6.cell? ⟨d,5,none⟩=some (.int .i64 q):=by rw [Qew ai];rfl
     have jx:=Q2r b8 bj hx a9;have au:=EL b8 bj;refine Code.wp_mono ?_ (Tryz.links_r13 _ _ _ _ _ _ _ _ _ _ _ _ _ _ _ _ _ _ _ _ _ _ _ _ _ _ _ _ _ _ _ _ _ _ _ _ _ _ _ _ _ _ _ _ _ _ _ _ _ _ _ _ _ _ _ _ _ _ _ _ _ _ _ _ _ _ _ _ _ _ _ _ _ _ _ _ _ _ (H0+1) ia d x.length b7 b6 a ae b be p q W6 c0 c1 g m n o au (CM co jx.1 jx.2));clear c0 c1 g m n o jx au;rintro e act W7 h;cases e with
     |normal=>
      obtain ⟨_,_,_,_,_,_,rfl,bm⟩:=h;have dp:=bm.size;have c9:=U1 d5 (by omega) bm;have aj:=(bm.block d (by omega)).trans ai;have bu:=(bm.block H0 (by omega)).trans bt;have cc:=VN b8 (Zh bm);clear d5 ai bt b8 bm;dsimp only [Exit.then]
      go_wp2
      have c0:W7.cell? ⟨d,0,none⟩=some (.int .i64 a):=by rw [Qew aj];rfl
      have c1:W7.cell? ⟨d,1,none⟩=some (.int .i64 ae):=by rw [Qew aj];rfl
      have g:W7.cell? ⟨d,2,none⟩=some (.int .i64 b):=by rw [Qew aj];rfl
      have m:W7.cell? ⟨d,3,none⟩=some (.int .i64 be):=by rw [Qew aj];rfl
      have n:W7.cell? ⟨d,4,none⟩=some (.int .i64 p):=by rw [Qew aj];rfl
      have o:W7.cell? ⟨d,5,none⟩=some (.int .i64 q):=by rw [Qew aj];rfl
      have jx:=Q2r cc b9 hy a9;have au:=EL cc b9;refine Code.wp_mono ?_ (Tryz.links_r14 _ _ _ _ _ _ _ _ _ _ _ _ _ _ _ _ _ _ _ _ _ _ _ _ _ _ _ _ _ _ _ _ _ _ _ _ _ _ _ _ _ _ _ _ _ _ _ _ _ _ _ _ _ _ _ _ _ _ _ _ _ _ _ _ _ _ _ _ _ _ _ _ _ _ _ _ _ _ (H0+1) ib d y.length ce cg a ae b be p q W7 c0 c1 g m n o au (CM cp jx.1 jx.2));clear c0 c1 g m n o jx au;rintro e act W8 h;cases e with
      |normal=>
       obtain ⟨_,_,_,_,_,_,rfl,bl⟩:=h;have dq:=bl.size;have dx:=U1 c9 (by omega) bl;have ak:=(bl.block d (by omega)).trans aj;have bv:=(bl.block H0 (by omega)).trans bu;have d6:=VN cc (Zh bl);clear c9 aj bu cc bl;dsimp only [Exit.then]
       go_wp2
       have c0:W8.cell? ⟨d,0,none⟩=some (.int .i64 a):=by rw [Qew ak];rfl
       have c1:W8.cell? ⟨d,1,none⟩=some (.int .i64 ae):=by rw [Qew ak];rfl
       have g:W8.cell? ⟨d,2,none⟩=some (.int .i64 b):=by rw [Qew ak];rfl
       have m:W8.cell? ⟨d,3,none⟩=some (.int .i64 be):=by rw [Qew ak];rfl
       have n:W8.cell? ⟨d,4,none⟩=some (.int .i64 p):=by rw [Qew ak];rfl
       have o:W8.cell? ⟨d,5,none⟩=some (.int .i64 q):=by rw [Qew ak];rfl
       refine Code.wp_mono ?_ (Tryz.links_r16 _ _ _ _ _ _ _ _ _ _ _ _ _ _ _ _ _ _ _ _ _ _ _ _ _ _ _ _ _ _ _ _ _ _ _ _ _ _ _ _ _ _ _ _ _ _ _ _ _ _ _ _ _ _ _ _ _ _ _ _ _ _ _ _ _ _ _ _ _ _ _ _ _ _ _ _ _ _ (H0+1) (H0+1) (2*l2.length) ia d b7 b6 a ae b be p q hd ll x W8 c0 c1 g m n o d6 bj hx (by omega) (by omega) (by omega) (fun e=>by have:=(bc d e).2;omega));clear c0 c1 g m n o;rintro e act W9 h;cases e with
       |normal=>
        obtain ⟨_,_,_,_,_,_,_,_,xx,rfl,ep,b1⟩:=h;have dr:=b1.size;have eo:=Ct dx b1 (by omega) (by omega) (fun c hc=>by have:=(bc c hc).1;omega);have am:=(b1.block d (by omega) (by omega) (fun e=>by have:=(bc d e).2;omega)).trans ak;have cz:=(b1.block H0 (by omega) (by omega) (fun e=>by have:=(bc H0 e).1;omega)).trans bv;clear dx ak bv d6 b1;have da:(hd.set ia xx)[ib]? = some (.slice cg y.length ce):=by rw [QeQ,if_neg cx];exact b9
        have bx:(ll.set ia (x++[[D.int .i64 a,.int .i64 ae,.int .i64 b,.int .i64 be,.int .i64 p,.int .i64 q]]))[ib]? = some y:=by rw [QeQ,if_neg cx];exact hy
        dsimp only [Exit.then]
        go_wp2
        have c0:W9.cell? ⟨d,0,none⟩=some (.int .i64 a):=by rw [Qew am];rfl
        have c1:W9.cell? ⟨d,1,none⟩=some (.int .i64 ae):=by rw [Qew am];rfl
        have g:W9.cell? ⟨d,2,none⟩=some (.int .i64 b):=by rw [Qew am];rfl
        have m:W9.cell? ⟨d,3,none⟩=some (.int .i64 be):=by rw [Qew am];rfl
        have n:W9.cell? ⟨d,4,none⟩=some (.int .i64 p):=by rw [Qew am];rfl
        have o:W9.cell? ⟨d,5,none⟩=some (.int .i64 q):=by rw [Qew am];rfl
        refine Code.wp_mono ?_ (Tryz.links_r17 _ _ _ _ _ _ _ _ _ _ _ _ _ _ _ _ _ _ _ _ _ _ _ _ _ _ _ _ _ _ _ _ _ _ _ _ _ _ _ _ _ _ _ _ _ _ _ _ _ _ _ _ _ _ _ _ _ _ _ _ _ _ _ _ _ _ _ _ _ _ _ _ _ _ _ _ _ _ (H0+1) (H0+1) (2*l2.length) ib d ce cg a ae b be p q _ _ y W9 c0 c1 g m n o ep da bx (by omega) (by omega) (by omega) (fun e=>by have:=(b2 d e).2;omega));clear c0 c1 g m n o;rintro e act W10 h;cases e with
        |normal=>
         obtain ⟨_,_,_,_,_,_,_,_,yy,rfl,d2,cw⟩:=h;have d3:=Ct eo cw (by omega) (by omega) (fun c hc=>by have:=(b2 c hc).1;omega);have db:=(cw.block H0 (by omega) (by omega) (fun e=>by have:=(b2 H0 e).1;omega)).trans cz;have cq:=Q4A (Q4A a9 hx (by rfl)) bx (row:=[D.int .i64 a,.int .i64 ae,.int .i64 b,.int .i64 be,.int .i64 p,.int .i64 q]) (by rfl)
         go_wp2
         refine ⟨⟨j+1,_,_,by omega,by rw [Int.natCast_add];rfl,d2,by simpa using c8,c3,cq,db,d3⟩,?_⟩;simp only [intOf];omega
        |_=>exact h.elim
       |_=>exact h.elim
      |_=>exact h.elim
     |_=>exact h.elim
    |_=>exact h.elim
   |_=>exact h.elim
  ·go_wp2
   refine bodyPost_ret (results_tmp rfl _ _ _) rfl ?_;rw [<- en] at hF;exact ⟨rfl,hF⟩

theorem QcA {S:Nat->Prop} {w:World} {xs:List D}:∀ {vs:List Value},vs.length=xs.length->(∀ (i:Nat) (v:Value) (x:D),vs[i]? = some v->xs[i]? = some x->Rd S w v x)->RdLs S w vs xs:=by
 induction xs with
 |nil=>intro vs h _;have:vs=[]:=List.eq_nil_of_length_eq_zero h;subst this;exact .nil
 |cons x xs ih=>
  intro vs h hr
  match vs,h with
  |v::vs,h=>exact .cons (hr 0 v x rfl rfl) (ih (by simpa using h) fun i u y a h2=>hr (i+1) u y (by simpa using a) (by simpa using h2))
theorem Q1p {β:Nat->Option Nat} {S:Nat->Prop} {h:Nat->Option Ob} {w:World} {tm:Nat->Value} {v:Value} {xs:List D} (hv:RdA β S h w tm v (.ag (xs.map .d))):∃ vs:List Value,v = .agg vs.toArray/\RdLs S w vs xs:=by
 cases hv with
 |ag cs l hl hr=>
  obtain ⟨vs⟩:=cs;refine ⟨vs,rfl,QcA (by simpa using hl) fun i u x a h2=>?_⟩;have:=hr i (.d x) (by simp [h2]);simp [Array.getD,(QeC.1 a).1] at this;rw [(QeC.1 a).2] at this;cases this with
  |d _ _ q=>exact q
  |dang _ _ _ hl=>cases hl
 |dang v av l hl=>cases hl
theorem Q6w {β:Nat->Option Nat} {S:Nat->Prop} {h:Nat->Option Ob} {w:World} {args:List Value} {a:AV} (hA:ArgsRd β S h w args [a]):∃ v,args=[v]/\RdA β S h w tm0 v a:=Q46 hA
theorem Q6z {β:Nat->Option Nat} {S:Nat->Prop} {h:Nat->Option Ob} {w:World} {args:List Value} {a b:AV} (hA:ArgsRd β S h w args [a,b]):∃ v u,args=[v,u]/\RdA β S h w tm0 v a/\RdA β S h w tm0 u b:=by
 obtain ⟨c,h2⟩:=hA
 match args,c with
 |[v,u],_=>exact ⟨v,u,rfl,h2 0 v a rfl rfl,h2 1 u b rfl rfl⟩
theorem A6 (n:Nat) (l0 l1 l2 a:LL) (res:Int) {hl:Nat->Option Ob} (h:YS n l0 l1 l2 a some=some res):Ze Tryz.prog 94 [.ag [.d (D.sl 1 l0),.d (D.sl 1 l1),.d (D.sl 5 l2),.d (D.sl 6 a)]] hl ⟨.d (D.int .i64 res),[],[]⟩:=by
 obtain ⟨am,h⟩:=QX h;injection h with h
 subst h;refine Rh (fn:=Tryz.f94) (by kernel_rfl) (by kernel_rfl) (by kernel_rfl) rfl rfl fun S w args hS hA=>?_
 obtain ⟨v,rfl,hv⟩:=Q6w hA;obtain ⟨vs,rfl,hr⟩:=Q1p (xs:=[D.sl 1 l0,.sl 1 l1,.sl 5 l2,.sl 6 a]) hv;cases hr with
 |cons c t=>
  cases t with
  |cons d t=>
   cases t with
   |cons h2 t=>
    cases t with
    |cons f t=>
     cases t;have ak:=am;simp only [H5,QeH,Bool.not_eq_true'] at ak;obtain ⟨⟨⟨⟨⟨⟨⟨⟨m0,m1⟩,m2⟩,m3⟩,j⟩,k⟩,l⟩,ns⟩,nl⟩:=ak;refine (Tryz.layout_calls S w hS l0 l1 l2 a _ _ _ _ c d h2 f am fun w' an k0 k1 g i=>Tryz.links_calls S w' an l0 l1 l2 a _ _ _ _ k0 k1 g i (QeF m2) (QeF m3) nl).mono fun e w' ⟨he,hB⟩=>?_
     exact ⟨_,S,he,fun b h=>h,fun b h=>.inl h,fun b h=>QeJ (hS b h) hB.size,.d _ _ (.int _ _),hB⟩

end Go.Vx
namespace Go.Proofs
open Go.RowKit
theorem C7 {P:Program} {w:World} (a:Addr) (m:Mode) (f:Fn) (x y:Array Value):(store a (.func f x y) m).run P w=stored P w a (.func f x y) m:=run_store P w a _ m rfl
attribute [local go_sem] C7
def JU (r:Nat->Int):Nat->Nat->Int
 |0,_=>0
 |n+1,k=>if r k=0 then JU r n (k+1) else r k
theorem T1 (r:Nat->Int):∀ (n k m:Nat),(∀ j,k<=j->j<k+m->r j=0)->JU r (m+n) k=JU r n (k+m)
 |n,k,0,_=>by simp
 |n,k,m+1,h=>by
  rw [show m+1+n=(m+n)+1 by omega];simp only [JU];rw [if_pos (h k (QeK _) (by omega)),T1 r n (k+1) m (fun j a h2=>h j (by omega) (by omega))];rw [show k+1+m=k+(m+1) by omega]
theorem Below.of {n:Nat} {w w':World} (a:w'.os=w.os) (h2:w'.tape=w.tape) (c:w'.output=w.output) (d:w.heap.size<=w'.heap.size) (e:∀ b,b<n->w'.heap[b]? = w.heap[b]?):Below n w w':=by
 exact ⟨a,h2,c,d,e⟩
set_option maxHeartbeats 4000000 in
set_option maxRecDepth 100000 in
theorem Tryz.plancheck_calls (w:World) (a0 a1 a2 a3 p0 p1 f g l m n o:Value) (r:Nat->Int)
  (h:∀ k:Nat,k<8->∀ w':World,w.heap.size<=w'.heap.size->(∀ b,b<w.heap.size->w'.heap[b]? = w.heap[b]?) ->
   Calls Tryz.prog (51+k) #[.agg #[a0,a1,a2,a3],.agg #[p0,p1,f,g,l,m,n,o]] w' fun e ax=>e = .returned (.int .i64 (r k))/\Below w'.heap.size w' ax)
  (c:∀ x∈[a0,a1,a2,a3,p0,p1,f,g,l,m,n,o],x.oneCell'=true) :
  Calls Tryz.prog 25 #[.agg #[a0,a1,a2,a3],.agg #[p0,p1,f,g,l,m,n,o]] w fun e w'=>e = .returned (.int .i64 (JU r 8 0))/\Below w.heap.size w w':=by
 go_enter Tryz.func25,Tryz.ntmps25
 go_wp2
 go_loopw [11] (fun i wr=>∃ k:Nat,k<=8/\i = .int .i64 k/\(∀ j,j<k->r j=0)/\wr.heap[w.heap.size]? = some (.cells #[a0,a1,a2,a3] 27 (0,0))/\wr.heap[w.heap.size+1]? = some (.cells #[p0,p1,f,g,l,m,n,o] 36 (0,0))/\Below w.heap.size w wr)
  (fun i _=>8-(intOf i).toNat)
 case atStart=>
  refine ⟨0,by omega,rfl,fun j hj=>absurd hj (by omega),?_,?_,?_⟩
  ·rw [QeM _ _ _ (by simp;omega),QeM _ _ _ (by simp)];exact heap_alloc_new w _
  ·rw [QeM _ _ _ (by simp),show w.heap.size+1=(w.alloc (.cells #[a0,a1,a2,a3] 27)).heap.size by simp];exact heap_alloc_new _ _
  ·refine Below.of rfl rfl rfl (by simp;omega) fun b hb=>?_
   rw [QeM _ _ _ (by simp;omega),QeM _ _ _ (by simp;omega),QeM _ _ _ hb]
 case round=>
  obtain ⟨k,hk,rfl,hz,d,a,hB⟩:=hrel;by_cases aq:k<8
  ·have a6:((k:Int)<8):=by omega
   have c0:wr.cell? ⟨w.heap.size,0,none⟩=some a0:=by rw [Qew d];rfl
   have c1:wr.cell? ⟨w.heap.size,1,none⟩=some a1:=by rw [Qew d];rfl
   have p:wr.cell? ⟨w.heap.size,2,none⟩=some a2:=by rw [Qew d];rfl
   have q:wr.cell? ⟨w.heap.size,3,none⟩=some a3:=by rw [Qew d];rfl
   have d0:wr.cell? ⟨w.heap.size+1,0,none⟩=some p0:=by rw [Qew a];rfl
   have d1:wr.cell? ⟨w.heap.size+1,1,none⟩=some p1:=by rw [Qew a];rfl
   have s:wr.cell? ⟨w.heap.size+1,2,none⟩=some f:=by rw [Qew a];rfl
   have t:wr.cell? ⟨w.heap.size+1,3,none⟩=some g:=by rw [Qew a];rfl
   have u:wr.cell? ⟨w.heap.size+1,4,none⟩=some l:=by rw [Qew a];rfl
   have v:wr.cell? ⟨w.heap.size+1,5,none⟩=some m:=by rw [Qew a];rfl
   have y:wr.cell? ⟨w.heap.size+1,6,none⟩=some n:=by rw [Qew a];rfl
   have z:wr.cell? ⟨w.heap.size+1,7,none⟩=some o:=by rw [Qew a];rfl
   have hw:wrap64 ((k:Int)+1)=((k+1:Nat):Int):=by unfold wrap64;omega
   have ay:∀ w:World,(Instr.index 134 (.agg #[.func (.func 51) #[] #[],.func (.func 52) #[] #[],.func (.func 53) #[] #[],.func (.func 54) #[] #[],.func (.func 55) #[] #[],.func (.func 56) #[] #[],.func (.func 57) #[] #[],.func (.func 58) #[] #[]]) (.int .i64 k)).run Tryz.prog w = .ok (.func (.func (51+k)) #[] #[]) w:=by
    intro w;obtain rfl | rfl | rfl | rfl | rfl | rfl | rfl | rfl:k=0\/k=1\/k=2\/k=3\/k=4\/k=5\/k=6\/k=7:=by omega
    all_goals rfl
   have a8:∀ (w:World) (ar:Array Value),(callFunc (51+k) ar).run Tryz.prog w = .ok (.enter (51+k) ar) w:=by
    intro w ar;obtain rfl | rfl | rfl | rfl | rfl | rfl | rfl | rfl:k=0\/k=1\/k=2\/k=3\/k=4\/k=5\/k=6\/k=7:=by omega
    all_goals rfl
   have hc:=h k aq wr hB.size hB.block;clear hw
   go_wp2
   refine hc.mono ?_;rintro e w2 ⟨rfl,ak⟩;have ao:Below w.heap.size w w2:=hB.trans ⟨ak.os,ak.tape,ak.output,ak.size,fun b hb=>ak.block b (QeJ hb hB.size)⟩;have l0:=(Array.getElem?_eq_some_iff.1 d).1;have l1:=(Array.getElem?_eq_some_iff.1 a).1;by_cases hr:r k=0
   ·rw [hr]
    go_wp2
    go_roundw
    case rel=>
     refine ⟨k+1,by omega,rfl,fun j hj=>?_,(ak.block _ l0).trans d,(ak.block _ l1).trans a,ao⟩;by_cases e:j=k
     ·rw [e];exact hr
     ·exact hz j (by omega)
    case measure=>simp [intOf];omega
   ·have am:JU r 8 0=r k:=by
     have e:=T1 r (8-k) 0 k fun j _ h2=>hz j (by omega)
     rw [show k+(8-k)=8 by omega] at e;rw [e,show 8-k=(7-k)+1 by omega,Nat.zero_add];simp [JU,hr]
    go_wp2
    refine bodyPost_ret (results_tmp rfl _ _ _) rfl ?_;exact ⟨by rw [am];rfl,ao⟩
  ·have am:JU r 8 0=0:=by
    have e:=T1 r 0 0 8 fun j _ h2=>hz j (by omega)
    exact e
   go_wp2
   refine bodyPost_ret (results_tmp rfl _ _ _) rfl ?_;exact ⟨by rw [am];rfl,hB⟩
end Go.Proofs
namespace Go.Vx
open Go.Proofs
def V3 (n:Nat):GV:=fun _ _ g ak _ k=>match ak with
 | [c0]=>
  prG c0 fun l0=>(match l0 with
  | [a,b,c,d]=>prS g 1 a fun e=>prS g 1 b fun f=>prS g 5 c fun h=>prS g 6 d fun i=>
  gb g (YS n e f h i some) 0 fun r=>k ⟨.d (D.int .i64 r),[],[]⟩
  | _=>none)
 | _=>none
theorem Ka (n:Nat):Uu Tryz.prog 94 (V3 n):=by
  intro R am g an hl k r h
  unfold V3 at h
  split at h
  rotate_left
  · cases h
  replace h:=BN h
  obtain ⟨l0,h,e⟩:=h
  subst e
  split at h
  rotate_left
  · cases h
  replace h:=Wg h
  obtain ⟨a,h,f⟩:=h
  replace h:=Wg h
  obtain ⟨b,h,i⟩:=h
  replace h:=Wg h
  obtain ⟨c,h,j⟩:=h
  replace h:=Wg h
  obtain ⟨d,h,l⟩:=h
  replace h:=Qt h
  obtain ⟨res,h,hr⟩:=h
  exact ⟨_,h,fun hg=>Ze.conv (avs':=[.ag [.d (D.sl 1 a),.d (D.sl 1 b),.d (D.sl 5 c),.d (D.sl 6 d)]]) (.cons (.ag (.cons (f hg) (.cons (i hg) (.cons (j hg) (.cons (l hg) .nil))))) .nil) (A6 n a b c d res (hr hg))⟩
end Go.Vx
set_option maxRecDepth 100000
namespace Go.Vx
open Go.Proofs
noncomputable def Mx (n:Nat):VC:=⟨Gv [(94,V3 n)],gtt,[cO 0 [2,3] [2,3],cO 1 [3,7] [3],cK 2 [4],cO 3 [3,11] [3],cO 4 [3,11] [3],cO 5 [3,11] [3],cO 6 [3,11] [3],cO 7 [3,11] [3],cO 8 [3,11] [3],cO 9 [3,11] [3],cK 10 [4],cO 11 [3,41,42,43] [3],cO 12 (3::rg1 41 4 []) [3],cO 13 [3,6,41,42,43] [3,6],cO 14 [3,41,42,43,50] [3],cK 15 [4],cO 16 [3,41,42,43] [3],cK 17 [59],cK 18 [4],cK 19 [4]]⟩
theorem KT (n:Nat):VCOk Tryz.prog (Mx n):=gVC (Ug ⟨Ka n,trivial⟩)
noncomputable def Nd (n:Nat) (m:Nat):LpE Tryz.prog:=mkL (KT n) nT 12 (cA [1,1,0,1,2,2] (Q6 Tryz.f51)) ⟨60,[(3,.ptr 3 0),(41,.l 4),(42,tI),(43,tI)],[(3,.box [tI,.l 5,.l 2,.l 4,.l 7,.l 4,.l 5,.l 3])]⟩ [yL,yI,yI,yI,yL,yL,yL,yL,yL,yL,yL] (fun m R k b c a d e f g h i j l=>Z0 n b c (k .ret ⟨60,[(4,dI (7:Int))],[]⟩) (fun a o=>k (.exit 1) ⟨60,[(3,.ptr 3 0),(41,dL 4 b),(42,dI c),(43,dI a),(44,dB o)],[(3,.box [dI d,dL 5 e,dL 2 f,dL 4 g,dL 7 h,dL 4 i,dL 5 j,dL 3 l])]⟩) m a) m
noncomputable def Hn (n:Nat):EnP Tryz.prog 51:=mkE (KT n) [Nd n n] 51 Tryz.f51 [[0]] [eA [qL 1,qL 1,qL 5,qL 6],eA [qI,qL 5,qL 2,qL 4,qL 7,qL 4,qL 5,qL 3]] [sI] (pK (WB n))
noncomputable def VY (n:Nat):VB:=X5 [] [cO 0 [1,2] [2,1000000],cO 1 [3] [1000000]]
noncomputable def Jj (n:Nat):EnP Tryz.prog 97:=mkG (VY n).ok nT 97 Tryz.f97 [eA [qT,qI,qI,qI,qI],eP 1000000 5,sT,sI,sI,sI,sI] [sB,eI 1000000 5,sT,sI,sI,sI,sI] [] (pK (WV n))

noncomputable def Xg (n:Nat):VB:=X5 [⟨97,Jj n⟩] [cO 0 [0,1] [1000000],cO 1 [0,1,7,8] [1000000],cO 2 [0,1,7,8,9] [1000000],cO 3 [0,1,5,7,8] [1000000],cO 4 [0,1,5,7,8,16] [1000000],cO 5 [4] [1000000],cO 6 [0,1,7,8] [1000000],cO 7 [4] [1000000]]
noncomputable def Yo (n:Nat) (m:Nat):LpE Tryz.prog:=mkL (Xg n).ok nT 2 (cA [1,0,1,2,2] (Q6 Tryz.f134)) ⟨19,[(0,.l 5),(1,.fn 97 [.ptr 1000000 0]),(7,tI),(8,tI)],[(1000000,.box [.t,tI,tI,tI,tI])]⟩ [yL,yI,yI,yT,yI,yI,yI,yI] (fun m R k g h2 a b c d e f=>QF n g h2 (fun a h i j l o=>k .ret ⟨19,[(4,dI a)],[(1000000,.box [dT h,dI i,dI j,dI l,dI o])]⟩) (fun a p b c d e f=>k (.exit 0) ⟨19,[(0,dL 5 g),(1,.fn 97 [.ptr 1000000 0]),(7,dI h2),(8,dI a),(9,dB p)],[(1000000,.box [dT b,dI c,dI d,dI e,dI f])]⟩) m a b c d e f) m
noncomputable def Yr (n:Nat):EnP Tryz.prog 134:=mkG (Xg n).ok [Yo n n] 134 Tryz.f134 [sL 5,eF 97 1,eP 1000000 5,sT,sI,sI,sI,sI] [sI,eI 1000000 5,sT,sI,sI,sI,sI] [] (pK (Xq n))

noncomputable def Ya (n:Nat):VB:=X5 [⟨134,Yr n⟩] [cO 0 [0,1] [1000000],cO 1 [4] [1000000]]
noncomputable def Yi (n:Nat):EnP Tryz.prog 96:=mkG (Ya n).ok nT 96 Tryz.f96 [sL 5,eF 97 1,eP 1000000 5,sT,sI,sI,sI,sI] [sB,eI 1000000 5,sT,sI,sI,sI,sI] [] (pK (Xf n))

noncomputable def Mq (n:Nat):VB:=X5 [] [cO 0 [1] [1],cK 1 [2]]
noncomputable def Gj (n:Nat):EnP Tryz.prog 98:=mkE (Mq n).ok nT 98 Tryz.f98 [[0]] [eA [qT,qI,qI,qI,qI]] [sB] (pK (Wo n))

noncomputable def Kg (n:Nat):VB:=X5 [⟨95,KG n⟩,⟨96,Yi n⟩,⟨98,Gj n⟩] [cO 0 [3] [3],cO 1 [3,8,9,10] [3],cO 2 [3,8,9,10,11] [3],cO 3 [3,5,6,8,9,10] [3,6],cO 4 [3,5,6,8,9,10,15] [3,6],cK 5 [4],cO 6 [3,6,8,9,10,20] [3,6],cK 7 [4],cO 8 [3,8,9,10,27] [3],cK 9 [4],cO 10 [3,8,9,10] [3],cK 11 [4]]
noncomputable def Ra (n:Nat) (m:Nat):LpE Tryz.prog:=mkL (Kg n).ok nT 2 (cA [1,0,1,2,2] (Q6 Tryz.f52)) ⟨32,[(3,.ptr 3 0),(8,.l 5),(9,tI),(10,tI)],[(3,.box [tI,.l 5,.l 2,.l 4,.l 7,.l 4,.l 5,.l 3])]⟩ [yL,yI,yI,yI,yL,yL,yL,yL,yL,yL,yL] (fun m R k b h2 a d c e f g h i j=>Vf n b h2 c (fun l=>k .ret ⟨32,[(4,dI l)],[]⟩) (fun a o=>k (.exit 0) ⟨32,[(3,.ptr 3 0),(8,dL 5 b),(9,dI h2),(10,dI a),(11,dB o)],[(3,.box [dI d,dL 5 c,dL 2 e,dL 4 f,dL 7 g,dL 4 h,dL 5 i,dL 3 j])]⟩) m a) m
noncomputable def KI (n:Nat):EnP Tryz.prog 52:=mkE (Kg n).ok [Ra n n] 52 Tryz.f52 [[0]] [eA [qL 1,qL 1,qL 5,qL 6],eA [qI,qL 5,qL 2,qL 4,qL 7,qL 4,qL 5,qL 3]] [sI] (pK (ZV n))

noncomputable def En (n:Nat):VB:=X5 [] [cO 0 [2,3] [2,3],cK 1 [4]]
noncomputable def R2 (n:Nat):EnP Tryz.prog 162:=mkE (En n).ok nT 162 Tryz.f162 [[0]] [eA [qL 1,qL 1,qL 5,qL 6],eA [qI,qI]] [sB] (pK (Pi n))

noncomputable def Fj (n:Nat):VB:=X5 [] [cO 0 [1,2] [1,2],cO 1 [1,2,5] [1,2],cO 2 [2] [2],cO 3 [2] [2]]
noncomputable def Dg (n:Nat):EnP Tryz.prog 181:=mkE (Fj n).ok nT 181 Tryz.f181 [[0,0]] [eA [qI,qI]] [eA [qI,qI]] (pK (Tv n))

noncomputable def Ld (n:Nat):VB:=X5 [] [cO 0 [1,2] [1,2],cO 1 [1,2,5] [1,2],cO 2 [2] [2],cO 3 [2] [2]]
noncomputable def Fp (n:Nat):EnP Tryz.prog 182:=mkE (Ld n).ok nT 182 Tryz.f182 [[0,0]] [eA [qI,qI]] [eA [qI,qI]] (pK (R1 n))

noncomputable def Ko (n:Nat):VB:=X5 [⟨181,Dg n⟩,⟨182,Fp n⟩] [cO 0 [3,4,5] [3,4,5],cO 1 [3,8,9] [3,8,9],cO 2 [8,9,20,21,22] [8,9],cO 3 [8,9,20,21,22,23] [8,9],cO 4 [8,9,11,20,21,22] [8,9,11],cO 5 [8,9,11,12,13,20,21,22] [8,9,11,12,13],cO 6 [8,9,11,20,21,22,53] [8,9,11],cK 7 [6,7],cO 8 [8,9,20,21,22] [8,9],cK 9 [6,7]]
noncomputable def Rt (n:Nat) (m:Nat):LpE Tryz.prog:=mkL (Ko n).ok nT 3 (cA [1,1,0,1,2,2] (Q6 Tryz.f163)) ⟨57,[(8,.ptr 8 0),(9,.ptr 9 0),(20,.l 6),(21,tI),(22,tI)],[(8,.box [tI,tI]),(9,.box [tI,tI])]⟩ [yL,yI,yI,yI,yI,yI,yI] (fun m R k b c a d e f g=>Vp n b c d e f g (fun h=>k .ret ⟨57,[(6,dI h),(7,dB true)],[]⟩) (fun a i=>k (.exit 0) ⟨57,[(8,.ptr 8 0),(9,.ptr 9 0),(20,dL 6 b),(21,dI c),(22,dI a),(23,dB i)],[(8,.box [dI d,dI e]),(9,.box [dI f,dI g])]⟩) m a) m
noncomputable def KR (n:Nat):EnP Tryz.prog 163:=mkE (Ko n).ok [Rt n n] 163 Tryz.f163 [[0],[0]] [eA [qL 1,qL 1,qL 5,qL 6],eA [qI,qI],eA [qI,qI]] [eT 2,sI,sB] (pK (Vc n))

noncomputable def Cd (n:Nat):VC:=⟨Gv [(94,V3 n),(162,(R2 n).E),(163,(KR n).E)],gtt,[cO 0 [2,3] [2,3],cO 1 [2,3,16] [2,3],cK 2 [4,5],cO 3 [2,3,20] [2,3],cO 4 [2,3,20] [2,3],cK 5 [4,5],cO 6 [2,3,28] [2,3],cO 7 [2,3,28] [2,3],cK 8 [4,5],cO 9 [2,3,40,41,42] [2,3],cO 10 [2,3,40,41,42,43] [2,3],cO 11 [2,3,7,40,41,42] [2,3,7],cO 12 [2,3,40,41,42,49] [2,3],cK 13 [4,5],cO 14 [2,3,40,41,42] [2,3],cO 15 [2,3,8] [2,3,54],cO 16 [2,3,8,56,57,58] [2,3,54],cO 17 [2,3,8,56,57,58,59] [2,3,54],cO 18 [2,3,8,10,56,57,58] [2,3,10,54],cO 19 [2,3,8,10,56,57,58,66] [2,3,10,54],cK 20 [4,5],cO 21 [2,3,8,56,57,58] [2,3,54],cO 22 [2,3,8,56,57,58] [2,3,54],cO 23 [2,3,11] [2,3],(24,⟨[2,3,11,74,75,76],[(2,2),(3,3)],[(11,1011,3,1)],[],[]⟩),cO 25 [2,3,11,74,75,76,77] [2,3,1011],cO 26 [2,3,11,12,13,74,75,76] [2,3,13,1011],cO 27 [2,3,11,14,15,74,75,76] [2,3,1011],cO 28 [2,3,11,14,74,75,76,93] [2,3,1011],cK 29 [4,5],cO 30 [2,3,11,74,75,76] [2,3,97],cO 31 [2,3,11,74,75,76] [2,3,97],cO 32 [4,5] [1011],(3000000025,⟨[2,3,11,74,75,76],(zp [2,3,97,1011] [2,3,1011,1011]),[],[],[]⟩)]⟩
theorem J5 (n:Nat):VCOk Tryz.prog (Cd n):=gVC (Ug ⟨Ka n,⟨(R2 n).ok,⟨(KR n).ok,trivial⟩⟩⟩)
noncomputable def EA (n:Nat) (m:Nat):LpE Tryz.prog:=mkL (J5 n) nT 10 (cA [1,1,0,1,2,2] (Q6 Tryz.f135)) ⟨100,[(2,.ptr 2 0),(3,.ptr 3 0),(40,.l 2),(41,tI),(42,tI)],[(2,.box [.l 1,.l 1,.l 5,.l 6]),(3,.box [.l 2,tI])]⟩ [yL,yI,yI,yL,yL,yL,yL,yL,yI] (fun m R k b c a d e f g h i=>ZK n b c d e f g (k .ret ⟨100,[(4,.nil),(5,dI (4:Int))],[]⟩) (fun a j=>k (.exit 1) ⟨100,[(2,.ptr 2 0),(3,.ptr 3 0),(40,dL 2 b),(41,dI c),(42,dI a),(43,dB j)],[(2,.box [dL 1 d,dL 1 e,dL 5 f,dL 6 g]),(3,.box [dL 2 h,dI i])]⟩) m a) m
noncomputable def Df (n:Nat) (m:Nat):LpE Tryz.prog:=mkL (J5 n) nT 17 (cA [1,1,1,1,0,1,2,2] (Q6 Tryz.f135)) ⟨100,[(2,.ptr 2 0),(3,.ptr 3 0),(8,.arr 54),(56,.l 2),(57,tI),(58,tI)],[(2,.box [.l 1,.l 1,.l 5,.l 6]),(3,.box [.l 2,tI]),(54,.arr 4 1)]⟩ [yL,yI,yI,yL,yL,yL,yL,yL,yI,yL] (fun m R k c d a e f g h i j b=>VM n c d (k .ret ⟨100,[(4,.nil),(5,dI (5:Int))],[]⟩) (fun a l b=>k (.exit 3) ⟨100,[(2,.ptr 2 0),(3,.ptr 3 0),(8,.arr 54),(56,dL 2 c),(57,dI d),(58,dI a),(59,dB l)],[(2,.box [dL 1 e,dL 1 f,dL 5 g,dL 6 h]),(3,.box [dL 2 i,dI j]),(54,.arr 4 1 b)]⟩) m a b) m
noncomputable def EE (n:Nat) (m:Nat):LpE Tryz.prog:=mkL (J5 n) nT 25 (cA [1,1,1,1,1,1,0,1,2,2] (Q6 Tryz.f135)) ⟨100,[(2,.ptr 2 0),(3,.ptr 3 0),(11,.arr 1011),(74,.l 2),(75,tI),(76,tI)],[(2,.box [.l 1,.l 1,.l 5,.l 6]),(3,.box [.l 2,tI]),(1011,.arr 3 1)]⟩ [yL,yI,yI,yL,yL,yL,yL,yL,yI,yL] (fun m R k c d a e f g h i j b=>ZC n c d e f g h i (k .ret ⟨100,[(4,.nil),(5,dI (11:Int))],[]⟩) (fun a l b=>k (.exit 5) ⟨100,[(2,.ptr 2 0),(3,.ptr 3 0),(11,.arr 1011),(74,dL 2 c),(75,dI d),(76,dI a),(77,dB l)],[(2,.box [dL 1 e,dL 1 f,dL 5 g,dL 6 h]),(3,.box [dL 2 i,dI j]),(1011,.arr 3 1 b)]⟩) m a b) m
noncomputable def C2 (n:Nat):EnP Tryz.prog 135:=mkE (J5 n) [EA n n,Df n n,EE n n] 135 Tryz.f135 [[1],[0]] [eA [qL 1,qL 1,qL 5,qL 6],eA [qL 2,qI]] [eT 2,sL 1,sI] (pK (Gb n))

noncomputable def DT (n:Nat):VB:=X5 [⟨135,C2 n⟩] [cO 0 [2,3] [2,3],cK 1 [6],cK 2 [4]]
noncomputable def T7 (n:Nat):EnP Tryz.prog 99:=mkE (DT n).ok nT 99 Tryz.f99 [[0]] [eA [qL 1,qL 1,qL 5,qL 6],eA [qL 2,qI]] [sI] (pK (Kn n))

noncomputable def Km (n:Nat):VB:=X5 [⟨99,T7 n⟩] [cO 0 [2,3] [2,3],cO 1 [2,9,10,11] [2],cO 2 (2::rg1 9 4 []) [2],cO 3 [2,6,9,10,11] [2,6],cO 4 [2,7,9,10,11] [2],cO 5 [2,7,9,10,11,19] [2],cK 6 [4],cO 7 [2,9,10,11] [2],cK 8 [4]]
noncomputable def RH (n:Nat) (m:Nat):LpE Tryz.prog:=mkL (Km n).ok nT 2 (cA [1,0,1,2,2] (Q6 Tryz.f53)) ⟨22,[(2,.ptr 2 0),(9,.l 2),(10,tI),(11,tI)],[(2,.box [.l 1,.l 1,.l 5,.l 6])]⟩ [yL,yI,yI,yL,yL,yL,yL] (fun m R k b h2 a c d e f=>Ys n b h2 c d e f (fun g=>k .ret ⟨22,[(4,dI g)],[]⟩) (fun a h=>k (.exit 0) ⟨22,[(2,.ptr 2 0),(9,dL 2 b),(10,dI h2),(11,dI a),(12,dB h)],[(2,.box [dL 1 c,dL 1 d,dL 5 e,dL 6 f])]⟩) m a) m
noncomputable def KN (n:Nat):EnP Tryz.prog 53:=mkE (Km n).ok [RH n n] 53 Tryz.f53 [[0]] [eA [qL 1,qL 1,qL 5,qL 6],eA [qI,qL 5,qL 2,qL 4,qL 7,qL 4,qL 5,qL 3]] [sI] (pK (ZT n))

noncomputable def Jh (n:Nat):VB:=X5 [] [cO 0 [1,2] [2,1000000],cO 1 [3] [1000000]]
noncomputable def Jz (n:Nat):EnP Tryz.prog 101:=mkG (Jh n).ok nT 101 Tryz.f101 [eA [qT,qI,qI,qL 4],eP 1000000 4,sT,sI,sI,sL 4] [sB,eI 1000000 4,sT,sI,sI,sL 4] [] (pK (Z8 n))

noncomputable def Xn (n:Nat):VB:=X5 [⟨101,Jz n⟩] [cO 0 [0,1] [1000000],cO 1 [0,1,7,8] [1000000],cO 2 [0,1,7,8,9] [1000000],cO 3 [0,1,5,7,8] [1000000],cO 4 [0,1,5,7,8,16] [1000000],cO 5 [4] [1000000],cO 6 [0,1,7,8] [1000000],cO 7 [4] [1000000]]
noncomputable def YF (n:Nat) (m:Nat):LpE Tryz.prog:=mkL (Xn n).ok nT 2 (cA [1,0,1,2,2] (Q6 Tryz.f136)) ⟨19,[(0,.l 4),(1,.fn 101 [.ptr 1000000 0]),(7,tI),(8,tI)],[(1000000,.box [.t,tI,tI,.l 4])]⟩ [yL,yI,yI,yT,yI,yI,yL] (fun m R k f h2 a b c d e=>Q9 n f h2 (fun a g h i j=>k .ret ⟨19,[(4,dI a)],[(1000000,.box [dT g,dI h,dI i,dL 4 j])]⟩) (fun a l b c d e=>k (.exit 0) ⟨19,[(0,dL 4 f),(1,.fn 101 [.ptr 1000000 0]),(7,dI h2),(8,dI a),(9,dB l)],[(1000000,.box [dT b,dI c,dI d,dL 4 e])]⟩) m a b c d e) m
noncomputable def YK (n:Nat):EnP Tryz.prog 136:=mkG (Xn n).ok [YF n n] 136 Tryz.f136 [sL 4,eF 101 1,eP 1000000 4,sT,sI,sI,sL 4] [sI,eI 1000000 4,sT,sI,sI,sL 4] [] (pK (QM n))

end Go.Vx
