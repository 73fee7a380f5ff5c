/- Part of a proof. No conditions of their own. -/
import Derived.Test.YtnfomkijfeokoaaGreatTF
import Derived.Test.YtnfomkijfeokoaaGreatTB
import Derived.Test.YtnfomkijfeokoaaGreatTE
import Derived.Test.YtnfomkijfeokoaaGreatTC
import Derived.Maps.Own
import Derived.Maps.Views
import Derived.StringKeys
import Derived.WalkKit
import Derived.Deep.AppendLies
import Derived.Laws.Rows
import Derived.OneCell
import Derived.Lib.LaidTab
import Derived.Test.YtnfomkijfeokoaaGreatTD
import Derived.Orders
import Derived.LoopTactic
import Derived.Lib.Builder
import Derived.Carry
import Derived.Deep.RegionHeld3
import Derived.Deep.RegionLaw
import Derived.StillTailTactics
import Derived.OrdersHeld
import Derived.Test.YtnfomkijfeokoaaGreatProg
import Derived.Laws.CopyOwn
import Derived.Deep.OwnRows
set_option linter.unusedVariables false
set_option linter.unusedSimpArgs false
set_option linter.unusedSectionVars false
noncomputable section
abbrev Qqo:=@List.mem_of_getElem?
abbrev Qqp:=@Go.Lib.cell_of_heap
abbrev Qqq:=@List.getElem?_eq_some_iff
abbrev Qqr:=@List.getElem?_eq_getElem
abbrev Qqs:=@List.getD_eq_getElem?_getD
abbrev Qqt:=@Nat.le_refl
abbrev Qqu:=@Bool.and_eq_true
abbrev Qqv:=@List.getElem?_cons_zero
abbrev Qqw:=@Nat.le_of_ble_eq_true
abbrev Qqx:=@Nat.lt_of_lt_of_le
abbrev Qqy:=@List.all_eq_true
abbrev Qqz:=@List.mem_replicate
abbrev QqA:=@Nat.eq_of_beq_eq_true
abbrev QqB:=@List.any_eq_true
abbrev QqC:=@Go.Lib.alloc_old
abbrev QqD:=@Bool.not_eq_true'
abbrev QqE:=@List.getElem?_set_self
abbrev QqF:=@List.take_of_length_le
abbrev QqG:=@Option.map_eq_some_iff
abbrev QqH:=@Array.getElem?_eq_some_iff
abbrev QqI:=@List.mem_append_right
abbrev QqJ:=@Int.mul_le_mul_of_nonneg_right
abbrev QqK:=@Nat.le_trans
abbrev QqL:=@Option.getD_some
abbrev QqM:=@cond_true
abbrev QqN:=@List.mem_filter
abbrev QqO:=@Nat.zero_add
abbrev QqP:=@List.getElem?_set
namespace Go.Vx
def Sub (T T':List Occ):Prop:=T.length=T'.length/\∀ (r:Nat) (x a b:Int),T[r]? = some (x,a,b)->a<b->x=(r:Int)/\∃ a' b',T'[r]? = some ((r:Int),a',b')/\a'<=a/\b<=b'
theorem Sub.add {T T':List Occ} (h:Sub T T') {r:Nat} {f t f' t':Int} (g:f'<=f) (h2:t<=t') (m:f<t):Sub (NH T r f t) (NH T' r f' t'):=by
 refine ⟨by rw [PO,PO,h.1],fun c x a b e aj=>?_⟩;have hl:=h.1;by_cases hr:r<T.length
 ·obtain ⟨⟨i,a1,b1⟩,e1⟩:∃ q,T[r]? = some q:=⟨T[r],Qqr hr⟩;obtain ⟨⟨n,a2,b2⟩,e2⟩:∃ q,T'[r]? = some q:=⟨T'[r],Qqr Q0⟩;have hs:=h.2 r i a1 b1 e1;rw [e2] at hs;unfold NH at e ⊢;rw [e1] at e;rw [e2];dsimp only at e ⊢;by_cases ac:r=c
  ·subst ac;by_cases hc:a1<b1
   ·obtain ⟨_,a',b',e',g1,d⟩:=hs hc;cases e';rw [if_pos hc,QqE hr] at e;rw [if_pos Q0,QqE Q0];cases e;refine ⟨rfl,_,_,rfl,?_,?_⟩ <;> split <;> split <;> omega
   ·rw [if_neg hc,QqE hr] at e;cases e;refine ⟨rfl,?_⟩;split
    ·refine ⟨_,_,by rw [QqE Q0],?_,?_⟩ <;> split <;> omega
    ·exact ⟨_,_,by rw [QqE Q0],g,h2⟩
  ·have j:T[c]? = some (x,a,b):=by
    split at e
    ·rwa [List.getElem?_set_ne ac] at e
    ·rwa [List.getElem?_set_ne ac] at e
   obtain ⟨g0,a',b',g1,d⟩:=h.2 c x a b j aj;refine ⟨g0,a',b',?_,d⟩;split
   ·rwa [List.getElem?_set_ne ac]
   ·rwa [List.getElem?_set_ne ac]
 ·have k:T[r]? = none:=List.getElem?_eq_none Q0;have l:T'[r]? = none:=List.getElem?_eq_none Q0;unfold NH at e ⊢;rw [k] at e;rw [l];exact h.2 c x a b e aj
theorem Q2b {s:LL} {f g f' g':Nat->Int} (N NP:Nat) (Li:LL) (h:∀ i,i<s.length->f' i<=f i/\g i<=g' i/\f i<g i/\(1<=i->f i<g (i-1))):∀ {i:Nat},i<=s.length->Sub (Tz N NP Li s f g i) (Tz N NP Li s f' g' i)
 |0,_=>⟨rfl,fun r x a b e ac=>by
  obtain ⟨c,h2⟩:=Qqq.1 e;simp only [Tz,List.getElem_replicate] at h2;cases h2;omega⟩
 |i+1,hi=>by
  have ih:=Q2b N NP Li h (i:=i) Q0;have a:=h i Q0;rw [Tz,Tz];split
  ·exact ih.add a.1 a.2.1 a.2.2.1
  ·have b:=h (i-1) Q0;split
   ·exact ih.add a.1 a.2.1 a.2.2.1
   ·exact (ih.add a.1 a.2.1 a.2.2.1).add a.1 b.2.1 (a.2.2.2 Q0)
namespace Cx
variable {X:Cx} (h:X.OK)
include h
theorem Qdw {i k:Nat} (hi:i<X.Ls.length) (hk:k<X.nr i):∀ q∈X.stair i k,∃ p∈X.occ i k,p.1=q.1/\p.2.1<=q.2.1/\q.2.2<=p.2.2:=by
 intro q hq;have hr:=(rd h hi hk).rt;have b:=Qgf h hi hk;have ac:=fun j (hj:j<(X.st i k).length)=>Qgt hr (nm:=X.nm) h.sk (Int.le_refl 0) Q0 (Int.le_refl 0) Q0 hj
 obtain ⟨x,a,c⟩:=q;have hm:=QqN.1 hq;obtain ⟨r,ak⟩:=List.getElem?_of_mem hm.1;have aj:a<c:=by simpa [Px] using hm.2
 have hs:=Q2b X.G.Se.length X.G.Pt.length X.G.Li (s:=X.st i k) (f:=fr X.G.Se (X.st i k) (X.rn i k) 0) (g:=tu X.G.Se (X.st i k) (X.rn i k) 0) (f':=fr X.G.Se (X.st i k) (X.rn i k) (bf k)) (g':=tu X.G.Se (X.st i k) (X.rn i k) (X.af i k)) (fun j hj=>⟨by unfold fr;split <;> omega,by unfold tu;split <;> omega,(ac j hj).2.1,(ac j hj).2.2.2⟩) (Qqt _);obtain ⟨e,a',b',e',d,h2⟩:=hs.2 r x a c ak aj;exact ⟨_,QqN.2 ⟨Qqo e',by simp only [Px,decide_eq_true_eq];omega⟩,e.symm,d,h2⟩
theorem Qcm {i k:Nat} (hi:i<X.Ls.length) (hk:k<X.nr i) {j:Nat} (hj:j<(X.st i k).length):∃ p∈X.occ i k,p.1=(sec (X.st i k) j:Int)/\p.2.1<=fr X.G.Se (X.st i k) (X.rn i k) (bf k) j/\tu X.G.Se (X.st i k) (X.rn i k) (X.af i k) j<=p.2.2:=by
 have hr:=(rd h hi hk).rt;have b:=Qgf h hi hk;have ac:=fun j (hj:j<(X.st i k).length)=>Qgt hr (nm:=X.nm) h.sk b.1.1 Q0 b.2.1 Q0 hj
 have m:=fun j (hj:j<(X.st i k).length)=>Qd9 hr (nm:=X.nm) h.sk b.1.1 b.1.2 b.2.1 b.2.2 hj
 obtain ⟨x,a,c,e,d,h2,l⟩:=Q6f (N:=X.G.Se.length) (NP:=X.G.Pt.length) (Li:=X.G.Li) (s:=X.st i k) (f:=fr X.G.Se (X.st i k) (X.rn i k) (bf k)) (g:=tu X.G.Se (X.st i k) (X.rn i k) (X.af i k)) (fun j hj=>Qcy h hi hk hj) (fun j hj=>(ac j hj).2.1) (fun j d hj=>(ac j hj).2.2.2 d) (j:=j) (i:=(X.st i k).length) hj (Qqt _);obtain ⟨e1,a',b',e',g1,n⟩:=(Q2b _ _ _ (fun j hj=>⟨Int.le_refl _,Int.le_refl _,(ac j hj).2.1,(ac j hj).2.2.2⟩) (Qqt _)).2 _ x a c e l;rw [e1] at e;exact ⟨_,QqN.2 ⟨Qqo e,by simpa [Px] using l⟩,rfl,d,h2⟩
theorem Q9D {i:Nat} (hi:i<X.Ls.length) (hk:0<X.nr i):∃ p∈X.occ i 0,p.1=(sec (X.st i 0) 0:Int)/\p.2.1 <= -60/\0<=p.2.2:=by
 have hr:=(rd h hi hk).rt;have l2:=hr.l2;obtain ⟨p,hp,e,b,h2⟩:=Qcm h hi hk (j:=0) Q0;have hL:=Q1J hr (nm:=X.nm) h.sk (i:=0) (j:=0) (Qqt _) Q0;have hc:=Lu (a:=fLV X.G.Se (X.st i 0) (X.rn i 0) 0) (by have:X.rn i 0=Zc X.G.Se (X.st i 0) X.nm X.tl X.sp X.ac X.br:=rfl;rw [this];omega) (show (1:Int)<=1000 by decide);refine ⟨p,hp,e,?_,?_⟩
 ·unfold fr bf at b;simpa using b
 ·unfold tu at h2;rw [if_pos Q0] at h2;omega
theorem Qcc {i k:Nat} (hi:i<X.Ls.length) (hk:k<X.nr i):∃ p∈X.occ i k,p.1=(sec (X.st i k) ((X.st i k).length-1):Int)/\p.2.1<=X.run i k/\X.run i k+X.af i k<=p.2.2:=by
 have hr:=(rd h hi hk).rt;have l2:=hr.l2;obtain ⟨p,hp,e,b,h2⟩:=Qcm h hi hk (j:=(X.st i k).length-1) Q0;refine ⟨p,hp,e,?_,?_⟩
 ·have ak:=Q1J hr (nm:=X.nm) h.sk (i:=(X.st i k).length-2) (j:=(X.st i k).length-1) Q0 Q0;have er:X.rn i k=Zc X.G.Se (X.st i k) X.nm X.tl X.sp X.ac X.br:=rfl;rw [<- er] at ak;have aj:fLV X.G.Se (X.st i k) (X.rn i k) ((X.st i k).length-1)=(X.rn i k).T (X.rn i k).N:=by unfold fLV;rw [if_neg Q0]
  rw [aj] at ak;have an:=Lu (a:=(X.rn i k).T (X.rn i k).N) Q0 (show (1:Int)<=1000 by decide);have eS:X.run i k=cd ((X.rn i k).T (X.rn i k).N) 1000:=rfl;unfold fr at b;rw [if_neg Q0,show (X.st i k).length-1-1=(X.st i k).length-2 by omega] at b;omega
 ·unfold tu at h2;rw [if_neg Q0] at h2;exact h2
end Cx
def QgN:List D->Int
 |[_,_,_,_,.int _ m,_]=>m
 |_=>0
def Fs (per:Int) (tl:List Int) (A:LL):Prop:=∀ r∈A,VK tl per r<=QgN r
namespace Cx
variable {X:Cx} {per:Int}
theorem QaV {J:List Tup} {a:Nat}:∀ {c b0:Nat} {H:LL},X.hdw per J a c b0=some H->∀ b,b0<=b->b<b0+c->∃ W,X.WV per J a b=some W/\∀ w∈W,Q67 a b w∈H
 |0,b0,H,e,b,d,h2=>by omega
 |c+1,b0,H,e,b,d,h2=>by
  rw [hdw] at e;cases ew:X.WV per J a b0 with
  |none=>rw [ew] at e;cases e
  |some W=>
   rw [ew] at e;cases eh:X.hdw per J a c (b0+1) with
   |none=>simp only [eh] at e;cases e
   |some H'=>
    simp only [eh] at e;cases e;by_cases hb:b=b0
    ·subst hb;exact ⟨W,ew,fun w hw=>List.mem_append_left _ (List.mem_map.2 ⟨w,hw,rfl⟩)⟩
    ·obtain ⟨W',f,g⟩:=QaV eh b Q0 Q0;exact ⟨W',f,fun w hw=>QqI _ (g w hw)⟩
theorem Q6X {J:List Tup}:∀ {c a0:Nat} {H:LL},X.hdws per J c a0=some H->∀ a b,a0<=a->a<b->b<a0+c->∃ W,X.WV per J a b=some W/\∀ w∈W,Q67 a b w∈H
 |0,a0,H,e,a,b,g,h2,h=>by omega
 |c+1,a0,H,e,a,b,g,h2,h=>by
  rw [hdws] at e;cases ew:X.hdw per J a0 c (a0+1) with
  |none=>rw [ew] at e;cases e
  |some W=>
   rw [ew] at e;cases eh:X.hdws per J c (a0+1) with
   |none=>simp only [eh] at e;cases e
   |some H'=>
    simp only [eh] at e;cases e;by_cases ha:a=a0
    ·subst ha;obtain ⟨W',d,f⟩:=QaV ew b Q0 Q0;exact ⟨W',d,fun w hw=>List.mem_append_left _ (f w hw)⟩
    ·obtain ⟨W',d,f⟩:=Q6X eh a b Q0 h2 Q0;exact ⟨W',d,fun w hw=>QqI _ (f w hw)⟩
variable (h:X.OK)
include h
theorem Qio (p0:2<=per) (p1:per<=300) {J:List Tup} {a b:Nat} (ha:a<X.N) (hb:b<X.N) {W:List Sp2} (e:X.WV per J a b=some W) {y:Int} (g:0<=y) (i:y<per) (hf:FB per (X.fil J a b) (X.fil J b a) y):∃ w∈W,w.2<w.1+(y-w.1) % per:=by
 have oa:=Q7D h (J:=J) (b:=b) ha;have ob:=Q7D h (J:=J) (b:=a) hb;obtain ⟨F,G,g1,o,j,k,l⟩:=Q7h p0 (show per<=7200 by omega) oa.1 ob.1 oa.2 ob.2;have hr:=g1.rng;have eW:W=G.map (Bk per):=by
  unfold WV at e;rw [l] at e;by_cases hc:cnt F=per
  ·rw [if_pos hc] at e;cases e
  ·rw [if_neg hc] at e;dsimp only at e;rw [if_pos rfl,List.map_map] at e;have:=Option.some.inj e;rw [<- this];refine (List.map_congr_left fun q _=>?_).trans (List.map_id _);rfl
 have ac:∀ {z c:Int},0<=z+c->z+c<per->c=per\/c=0->z % per=z+c:=fun {z c} m h2 n=>by
  rcases n with rfl | rfl
  ·rw [<- Int.add_emod_right,Int.emod_eq_of_lt m h2]
  ·rw [Int.emod_eq_of_lt Q0 Q0];omega
 obtain ⟨q,hq,d,f⟩:=(j y g i).2 hf;have ao:=hr q hq;rcases k with ⟨rfl,_⟩ | ⟨b',M,c,rfl,rfl⟩
 ·refine ⟨Bk per q,by rw [eW];exact List.mem_map.2 ⟨q,hq,rfl⟩,?_⟩;unfold Bk;dsimp only;rw [ac (z:=y-q.2) (c:=per) Q0 Q0 (.inl rfl)];omega
 ·have hc:=hr (c,per) (.tail _ (QqI _ (.head _)));have ak:=hr (0,b') (.head _);dsimp only at hc ak;have two:q∈M\/(q=(0,b')\/q=(c,per)):=by
   rcases List.mem_cons.1 hq with h | h
   ·exact .inr (.inl h)
   ·rcases List.mem_append.1 h with h | h
    ·exact .inl h
    ·exact .inr (.inr (List.mem_singleton.1 h))
  rcases two with hm | hm
  ·refine ⟨Bk per q,by rw [eW];exact List.mem_map.2 ⟨q,List.mem_append_left _ hm,rfl⟩,?_⟩;unfold Bk;dsimp only;rw [ac (z:=y-q.2) (c:=per) Q0 Q0 (.inl rfl)];omega
  ·refine ⟨Bk per (c,per+b'),by rw [eW];exact List.mem_map.2 ⟨_,QqI _ (.head _),rfl⟩,?_⟩;unfold Bk;dsimp only;have e1:(y-(per+b')) % per=(y-b') % per:=by rw [show y-(per+b')=y-b'-per by omega,Int.sub_emod_right]
   rw [e1];rcases hm with rfl | rfl
   ·dsimp only at d f;rw [ac (z:=y-b') (c:=per) Q0 Q0 (.inl rfl)];omega
   ·dsimp only at d f;by_cases hy:y<b'
    ·rw [ac (z:=y-b') (c:=per) Q0 Q0 (.inl rfl)];omega
    ·rw [ac (z:=y-b') (c:=0) Q0 Q0 (.inr rfl)];omega
def dep (tl:List Int) (a:Nat):Int:=tat tl ((2*a:Nat):Int)
omit h in
theorem Qbw {x:Int} (hp:0<per) (hx:0<=x):x % per<=x:=by
 have:=Int.mul_ediv_add_emod x per;have:=Int.mul_nonneg (show 0<=per by omega) (Int.ediv_nonneg hx (show 0<=per by omega));omega
theorem Qju (p0:2<=per) (p1:per<=300) {J:List Tup} {H A:LL} {tl:List Int} (eh:X.hdws per J X.N 0=some H) (hA:∀ r∈H,r∈A) (fs:Fs per tl A) {a b:Nat} (ak:a<b) (hb:b<X.N) {p q:Occ} (hp:p∈X.fil J a b) (hq:q∈X.fil J b a) (e:p.1=q.1) {d c:Int} (hd:d=dep tl b-dep tl a+c*per) (f:p.2.1-q.2.2<d) (h2:d<p.2.2-q.2.1):False:=by
 obtain ⟨W,e1,e2⟩:=Q6X eh a b (Nat.zero_le _) ak Q0;have g:=Int.emod_nonneg (dep tl b-dep tl a) (show per≠0 by omega);have i:=Int.emod_lt_of_pos (dep tl b-dep tl a) (show 0<per by omega);have hf:FB per (X.fil J a b) (X.fil J b a) ((dep tl b-dep tl a) % per):=by
  obtain ⟨x,pa,pb⟩:=p;obtain ⟨x',qa,qb⟩:=q;dsimp only at e f h2;subst e;refine ⟨x,pa,pb,qa,qb,hp,hq,?_⟩;have j:((dep tl b-dep tl a) % per-(pa-qb+1)) % per=(d-(pa-qb+1)) % per:=by
   rw [Int.sub_emod,Int.emod_emod,<- Int.sub_emod,hd,show dep tl b-dep tl a+c*per-(pa-qb+1)=dep tl b-dep tl a-(pa-qb+1)+c*per by omega,Int.add_mul_emod_self_right]
  rw [j];have:=Qbw (per:=per) (x:=d-(pa-qb+1)) Q0 Q0;omega
 obtain ⟨w,hw,hv⟩:=Qio h p0 p1 (show a<X.N by omega) hb e1 g i hf;have hr:=fs _ (hA _ (e2 w hw));unfold Q67 QgN VK dur at hr;dsimp only at hr;rw [Int.sub_emod,Int.emod_emod,<- Int.sub_emod] at hv;unfold dep at hv;omega
end Cx
theorem Q96 {o:oP Nat} {b:Nat} (h:eqO o b=true):o=some b:=by
 cases o with
 |none=>cases h
 |some a=>rw [QqA h]
structure RsT (T:List Tup) (rs:List (List Nat×Bool)):Prop where
 uq:∀ {j j' x x':Nat} {r r':List Nat×Bool} {i:Nat},rs[j]? = some r->rs[j']? = some r'->r.1[x]? = some i->r'.1[x']? = some i->j=j'/\x=x'
 tu:∀ t∈T,∃ (j:Nat) (r:List Nat×Bool) (x:Nat),rs[j]? = some r/\r.1[x]? = some t.1/\nx r x=some t.2.1
 sx:∀ {r:List Nat×Bool},r∈rs->∀ {x i b:Nat},r.1[x]? = some i->nx r x=some b->∃ t∈T,t.1=i/\t.2.1=b
theorem Qbp {T:List Tup} {rs:List (List Nat×Bool)} (h:QbS T rs=true):RsT T rs:=by
 unfold QbS at h;rw [Qqu,Qqu] at h;obtain ⟨c,h2,d⟩:=h;have hp:∀ {j x:Nat} {r:List Nat×Bool} {i:Nat},rs[j]? = some r->r.1[x]? = some i->Qia rs i=(j,x):=fun {j x r i} e1 e2=>by
  have a:=Qqy.1 c j (List.mem_range.2 (Qqq.1 e1).1);rw [Qqs,e1,QqL] at a;have b:=Qqy.1 a x (List.mem_range.2 (Qqq.1 e2).1);rw [Qqs,e2,QqL,Qqu] at b;exact Prod.ext (QqA b.1) (QqA b.2)
 refine ⟨fun e1 e2 e f=>?_,fun t ht=>?_,fun {r} hr {x i b} e1 e2=>?_⟩
 ·have:=(hp e1 e).symm.trans (hp e2 f);exact ⟨congrArg Prod.fst this,congrArg Prod.snd this⟩
 ·obtain ⟨r,hr,a⟩:=QqB.1 (Qqy.1 h2 t ht);obtain ⟨x,hx,b⟩:=QqB.1 a;rw [Qqu] at b;obtain ⟨j,hj⟩:=List.getElem?_of_mem hr;exact ⟨j,r,x,hj,Q96 b.1,Q96 b.2⟩
 ·have a:=Qqy.1 (Qqy.1 d r hr) x (List.mem_range.2 (Qqq.1 e1).1);rw [e2] at a;obtain ⟨t,ht,b⟩:=QqB.1 a;rw [Qqu,e1] at b;exact ⟨t,ht,Option.some.inj (Q96 b.1).symm,QqA b.2⟩
theorem Qdl {r:List Nat×Bool} {x b:Nat} (h:nx r x=some b):r.1[x+1]? = some b\/(r.2=true/\r.1.length<=x+1/\r.1[0]? = some b):=by
 unfold nx at h;cases hc:Nat.blt (x+1) r.1.length with
 |true=>rw [hc,QqM] at h;exact .inl h
 |false=>
  rw [hc,cond_false] at h;cases h2:r.2 with
  |false=>rw [h2] at h;cases h
  |true=>
   rw [h2,QqM] at h;refine .inr ⟨rfl,?_,h⟩;by_cases hl:x+1<r.1.length
   ·rw [show Nat.blt (x+1) r.1.length=true from Nat.ble_eq_true_of_le hl] at hc;cases hc
   ·omega
theorem QeY {r:List Nat×Bool} {x b:Nat} (h:r.1[x+1]? = some b):nx r x=some b:=by
 unfold nx;rw [show Nat.blt (x+1) r.1.length=true from Nat.ble_eq_true_of_le (Qqq.1 h).1,QqM,h]
theorem Qcx {r:List Nat×Bool} {x b:Nat} (hl:r.1.length<=x+1) (hc:r.2=true) (h:r.1[0]? = some b):nx r x=some b:=by
 unfold nx;rw [show Nat.blt (x+1) r.1.length=false from Bool.eq_false_iff.2 fun e=>by have:=Qqw e;omega,cond_false,hc,QqM,h]
namespace Cx
variable {X:Cx} {per:Int} {Ch Sy A:LL} {tl:List Int}
def rideD (X:Cx) (per:Int) (tl:List Int) (i:Nat) (d:Int):Nat->Int
 |0=>d
 |k+1=>X.endV per tl i k (rideD X per tl i d k)
def lineD (X:Cx) (per:Int) (tl:List Int) (ls:List Nat) (d:Int):Nat->Int
 |0=>d
 |x+1=>X.rideD per tl (ls.getD x 0) (lineD X per tl ls d x) (X.nr (ls.getD x 0))
theorem AM {mv c:Bool} {idx train:Nat} {laps:Int} {i:Nat} {s:Int×List U}:∀ {k:Nat},(X.rideM per tl mv c idx train laps i s k).1=X.rideD per tl i s.1 k
 |0=>rfl
 |k+1=>by
  rw [rideM,rideD,<- AM (mv:=mv) (c:=c) (idx:=idx) (train:=train) (laps:=laps)];rfl
theorem By {mv c:Bool} {train:Nat} {laps:Int} {ls:List Nat} {s:Int×List U}:∀ {x:Nat},(X.lineM per tl mv c train laps ls s x).1=X.lineD per tl ls s.1 x
 |0=>rfl
 |x+1=>by
  rw [lineM,lineD,AM,By]
def SrcR (X:Cx) (i k:Nat) (d:Int) (train:Nat) (laps:Int) (u:U):Prop:=u.2.1=train/\u.2.2.2.2=laps/\∃ p∈X.occ i k,p.1=(u.1:Int)/\d+p.2.1<=u.2.2.1/\u.2.2.1+u.2.2.2.1<=d+p.2.2
def dpt (X:Cx) (per:Int) (tl:List Int) (r:List Nat×Bool) (x i k:Nat):Int:=X.rideD per tl i (X.lineD per tl r.1 (dep tl (base X.nr (r.1.getD 0 0))) x) k
def Src (X:Cx) (per:Int) (tl:List Int) (rs:List (List Nat×Bool)) (u:U):Prop:=∃ (j:Nat) (r:List Nat×Bool) (x i k:Nat),rs[j]? = some r/\r.1[x]? = some i/\k<X.nr i/\X.SrcR i k (X.dpt per tl r x i k) j (X.lapsV per tl r.1 r.2) u
variable (g:X.Gd per Ch Sy A tl) (fs:Fs per tl A)
include g fs
theorem Gd.run_f {i k:Nat} (hi:i<X.Ls.length) (hk:k<X.nr i):X.run i k<=X.runV per tl i k/\X.runV per tl i k<=X.run i k+X.ex i k:=by
 have p0:=g.p0;have a:=fs _ (g.run_mem hi hk);refine ⟨?_,a⟩;unfold runV aR VK dur;dsimp only;have:=Int.emod_nonneg (Vx.tat tl ((2*(base X.nr i+k)+1:Nat):Int)-Vx.tat tl ((2*(base X.nr i+k):Nat):Int)-X.run i k) (show per≠0 by omega);omega
theorem Gd.dw_f {i k:Nat} (hi:i<X.Ls.length) (hk:k<X.nr i-1):X.gapV per tl i k=(VK tl per (X.aD i k),true)/\X.mn i k<=VK tl per (X.aD i k)/\VK tl per (X.aD i k)<=X.mx i k:=by
 have p0:=g.p0;have a:=fs _ (Qqo ((g.runAt hi (show k<X.nr i by omega)).2 hk));refine ⟨by unfold gapV;rw [if_pos hk],?_,a⟩;unfold aD VK dur;dsimp only;have:=Int.emod_nonneg (Vx.tat tl ((2*(base X.nr i+k+1):Nat):Int)-Vx.tat tl ((2*(base X.nr i+k)+1:Nat):Int)-X.mn i k) (show per≠0 by omega);omega
theorem Gd.tu_f {t:Tup} (ht:t∈X.T):t.2.2.1<=VK tl per (X.tuE t)/\VK tl per (X.tuE t)<=t.2.2.2:=by
 have p0:=g.p0;have a:=fs _ (g.turn_mem ht);refine ⟨?_,a⟩;unfold tuE VK dur;dsimp only;have:=Int.emod_nonneg (Vx.tat tl ((2*(base X.nr t.2.1+0):Nat):Int)-Vx.tat tl ((2*(base X.nr t.1+(X.nr t.1-1))+1:Nat):Int)-t.2.2.1) (show per≠0 by omega);omega
theorem Gd.end_f {i k:Nat} (hi:i<X.Ls.length) (hk:k<X.nr i) {d:Int}:X.endV per tl i k d<=d+X.run i k+X.af i k:=by
 have hr:=g.run_f fs hi hk;unfold endV af;by_cases a:k<X.nr i-1
 ·have hd:=g.dw_f fs hi a;rw [hd.1,if_pos rfl,if_neg Q0];dsimp only;omega
 ·rw [if_pos (show k=X.nr i-1 by omega)];unfold gapV rest;rw [if_neg a];cases e:X.tn i with
  |none=>dsimp only;rw [if_neg Bool.false_ne_true];omega
  |some t=>
   have ht:=g.tu_f fs (C5 e).1;dsimp only;rw [if_pos rfl];split <;> omega
theorem Gd.stM_src {mv c:Bool} {idx train:Nat} {laps:Int} {i k:Nat} (hi:i<X.Ls.length) (hk:k<X.nr i) {s:Int×List U}:∀ u∈(X.stM per tl mv c idx train laps i k s).2,u∈s.2\/X.SrcR i k s.1 train laps u:=by
 refine Q64 (fun u hu=>.inl hu) (fun hc=>.inr ⟨rfl,rfl,?_⟩) (fun _ q hq=>.inr ⟨rfl,rfl,?_⟩) fun hl=>.inr ⟨rfl,rfl,?_⟩
 ·obtain ⟨_,_,rfl⟩:=hc;obtain ⟨p,hp,e,a,h2⟩:=Q9D g.ok hi hk;exact ⟨p,hp,e,by dsimp only;omega,by dsimp only;omega⟩
 ·obtain ⟨p,hp,e,a,h2⟩:=Qdw g.ok hi hk q hq;have:=(Q9Y g.ok hi hk).1 q hq;exact ⟨p,hp,by dsimp only;omega,by dsimp only;omega,by dsimp only;omega⟩
 ·obtain ⟨p,hp,e,a,h2⟩:=Qcc g.ok hi hk;have:=g.end_f fs hi hk (d:=s.1);exact ⟨p,hp,e,by dsimp only;omega,by dsimp only;omega⟩
theorem Gd.rideM_src {mv c:Bool} {idx train:Nat} {laps:Int} {i:Nat} (hi:i<X.Ls.length) {s:Int×List U}:∀ {k:Nat},k<=X.nr i->∀ u∈(X.rideM per tl mv c idx train laps i s k).2,u∈s.2\/∃ k',k'<k/\X.SrcR i k' (X.rideD per tl i s.1 k') train laps u
 |0,_,u,hu=>.inl hu
 |k+1,hk,u,hu=>by
  rw [rideM] at hu;rcases g.stM_src fs hi Q0 u hu with hu | hu
  ·rcases Gd.rideM_src hi (k:=k) Q0 u hu with h | ⟨k',a,h2⟩
   ·exact .inl h
   ·exact .inr ⟨k',Q0,h2⟩
  ·rw [AM] at hu;exact .inr ⟨k,Q0,hu⟩
theorem Gd.lineM_src {mv c:Bool} {train:Nat} {laps:Int} {ls:List Nat} (ac:∀ i∈ls,i<X.Ls.length) {s:Int×List U}:∀ {x:Nat},x<=ls.length->∀ u∈(X.lineM per tl mv c train laps ls s x).2,u∈s.2\/∃ (x' i k:Nat),ls[x']? = some i/\k<X.nr i/\X.SrcR i k (X.rideD per tl i (X.lineD per tl ls s.1 x') k) train laps u
 |0,_,u,hu=>.inl hu
 |x+1,hx,u,hu=>by
  have e:=Qqr (l:=ls) (i:=x) Q0;have hd:ls.getD x 0=ls[x]:=by rw [Qqs,e];rfl
  rw [lineM,hd] at hu;rcases g.rideM_src fs (ac _ (Qqo e)) (Qqt _) u hu with hu | ⟨k,a,h2⟩
  ·exact Gd.lineM_src ac (x:=x) Q0 u hu
  ·rw [By] at h2;exact .inr ⟨x,_,k,e,a,h2⟩
theorem Gd.usesM_src {mv:Bool} {rs:List (List Nat×Bool)} (hr:X.RsOK rs):∀ {j:Nat},j<=rs.length->∀ u∈X.usesM per tl mv rs j,X.Src per tl rs u
 |0,_,u,hu=>nomatch hu
 |j+1,hj,u,hu=>by
  have e:=Qqr (l:=rs) (i:=j) Q0;have hd:rs.getD j ([],false)=rs[j]:=by rw [Qqs,e];rfl
  rw [usesM,hd] at hu;unfold trainM at hu;rcases g.lineM_src fs (hr.ls _ (Qqo e)).2 (Qqt _) u hu with hu | ⟨x,i,k,a,h2,b⟩
  ·exact Gd.usesM_src hr Q0 u hu
  ·exact ⟨j,_,x,i,k,e,a,h2,b⟩
end Cx
def Cg (per x y:Int):Prop:=∃ c:Int,x=y+c*per
theorem Q7Q {tl:List Int} {per f t mn:Int}:Cg per (dur tl per f t mn) (tat tl t-tat tl f):=by
 refine ⟨-((tat tl t-tat tl f-mn) / per),?_⟩;unfold dur;rw [Int.emod_def,Int.neg_mul,Int.mul_comm];omega
theorem QcL {z per:Int} (a : -per<z*per) (h2:z*per<per) (b:0<per):z=0:=by
 rcases Int.lt_trichotomy z 0 with h | h | h
 ·have:=QqJ (show z <= -1 by omega) (show 0<=per by omega);omega
 ·exact h
 ·have:=QqJ (show 1<=z by omega) (show 0<=per by omega);omega
theorem Q2h {l:Int} {O:List Occ} (h:OL l O) {p q:Occ} (hp:p∈O) (hq:q∈O) (e:p.1=q.1):p=q:=by
 have a:=(Q6q h hp).2;have b:=(Q6q h hq).2;rw [<- a,<- b,e]
namespace Cx
variable {X:Cx} {per:Int} {Ch Sy A:LL} {tl:List Int}
theorem Dc {i k:Nat} (hi:i<X.Ls.length) (hk:k<X.nr i):X.occN (base X.nr i+k)=X.occ i k:=by
 unfold occN;rw [Qqs,show (X.occs X.L)[base X.nr i+k]? = some (X.occ i k) from LK hk hi];rfl
variable (g:X.Gd per Ch Sy A tl) (fs:Fs per tl A) {rs:List (List Nat×Bool)} (hr:X.RsOK rs) (ht:RsT X.T rs)
include g fs
theorem Gd.ride_cg {i:Nat} (hi:i<X.Ls.length) {d:Int} (hd:Cg per d (dep tl (base X.nr i))):∀ {k:Nat},k<X.nr i->Cg per (X.rideD per tl i d k) (dep tl (base X.nr i+k))
 |0,_=>hd
 |k+1,hk=>by
  obtain ⟨c1,a⟩:=Gd.ride_cg hi hd (k:=k) Q0;obtain ⟨b,h2⟩:=Q7Q (tl:=tl) (per:=per) (f:=((2*(base X.nr i+k):Nat):Int)) (t:=((2*(base X.nr i+k)+1:Nat):Int)) (mn:=X.run i k);obtain ⟨c,e⟩:=Q7Q (tl:=tl) (per:=per) (f:=((2*(base X.nr i+k)+1:Nat):Int)) (t:=((2*(base X.nr i+k+1):Nat):Int)) (mn:=X.mn i k);have hg:=(g.dw_f fs hi (show k<X.nr i-1 by omega)).1;have e2:X.runV per tl i k=dur tl per ((2*(base X.nr i+k):Nat):Int) ((2*(base X.nr i+k)+1:Nat):Int) (X.run i k):=rfl;have h:VK tl per (X.aD i k)=dur tl per ((2*(base X.nr i+k)+1:Nat):Int) ((2*(base X.nr i+k+1):Nat):Int) (X.mn i k):=rfl;rw [<- e2] at h2;rw [<- h] at e;refine ⟨c1+b+c,?_⟩;rw [rideD,endV,hg,if_pos rfl,Int.add_mul,Int.add_mul,<- Nat.add_assoc];unfold dep at a ⊢;dsimp only;omega
theorem Gd.turn_end {t:Tup} (hT:t∈X.T) {d:Int}:X.endV per tl t.1 (X.nr t.1-1) d=d+X.runV per tl t.1 (X.nr t.1-1)+VK tl per (X.tuE t):=by
 unfold endV gapV;rw [if_neg (show ¬ X.nr t.1-1<X.nr t.1-1 by omega),Qe3 g.ok hT];rfl
theorem Gd.turn_cg {t:Tup} (hT:t∈X.T) {d:Int} (hd:Cg per d (dep tl (base X.nr t.1+(X.nr t.1-1)))):Cg per (X.endV per tl t.1 (X.nr t.1-1) d) (dep tl (base X.nr t.2.1)):=by
 obtain ⟨c1,b⟩:=hd;obtain ⟨c,h2⟩:=Q7Q (tl:=tl) (per:=per) (f:=((2*(base X.nr t.1+(X.nr t.1-1)):Nat):Int)) (t:=((2*(base X.nr t.1+(X.nr t.1-1))+1:Nat):Int)) (mn:=X.run t.1 (X.nr t.1-1));obtain ⟨e,a⟩:=Q7Q (tl:=tl) (per:=per) (f:=((2*(base X.nr t.1+(X.nr t.1-1))+1:Nat):Int)) (t:=((2*(base X.nr t.2.1+0):Nat):Int)) (mn:=t.2.2.1);have e2:X.runV per tl t.1 (X.nr t.1-1)=dur tl per ((2*(base X.nr t.1+(X.nr t.1-1)):Nat):Int) ((2*(base X.nr t.1+(X.nr t.1-1))+1:Nat):Int) (X.run t.1 (X.nr t.1-1)):=rfl;have h:VK tl per (X.tuE t)=dur tl per ((2*(base X.nr t.1+(X.nr t.1-1))+1:Nat):Int) ((2*(base X.nr t.2.1+0):Nat):Int) t.2.2.1:=rfl;rw [<- e2] at h2;rw [<- h] at a;refine ⟨c1+c+e,?_⟩;rw [g.turn_end fs hT,Int.add_mul,Int.add_mul];unfold dep at b ⊢;rw [Nat.add_zero] at a;omega
include hr ht
theorem Gd.lineD_succ {j:Nat} {r:List Nat×Bool} (hj:rs[j]? = some r) {x i:Nat} (hx:r.1[x]? = some i):X.lineD per tl r.1 (dep tl (base X.nr (r.1.getD 0 0))) (x+1)=X.endV per tl i (X.nr i-1) (X.dpt per tl r x i (X.nr i-1)):=by
 have hi:=(hr.ls r (Qqo hj)).2 i (Qqo hx);have hn:=(JM g.ok hi).2.1;rw [lineD,Qqs (l:=r.1) (i:=x),hx,QqL];have:X.nr i=(X.nr i-1)+1:=Q0
 conv=>lhs;rw [this]
 rfl
theorem Gd.line_cg {j:Nat} {r:List Nat×Bool} (hj:rs[j]? = some r):∀ {x i:Nat},r.1[x]? = some i->Cg per (X.lineD per tl r.1 (dep tl (base X.nr (r.1.getD 0 0))) x) (dep tl (base X.nr i))
 |0,i,hx=>⟨0,by rw [lineD,Qqs,hx,QqL];omega⟩
 |x+1,i,hx=>by
  have hl:=(Qqq.1 hx).1;have e:=Qqr (l:=r.1) (i:=x) Q0;have hi:=(hr.ls r (Qqo hj)).2 _ (Qqo e);have hn:=(JM g.ok hi).2.1;obtain ⟨t,hT,e1,e2⟩:=ht.sx (Qqo hj) e (QeY hx);have ih:=Gd.line_cg hj e;rw [g.lineD_succ fs hr ht hj e,<- e2,<- e1];rw [<- e1] at ih hi hn;exact g.turn_cg fs hT (g.ride_cg fs hi ih Q0)
theorem Gd.dpt_cg {j:Nat} {r:List Nat×Bool} (hj:rs[j]? = some r) {x i k:Nat} (hx:r.1[x]? = some i) (hk:k<X.nr i):Cg per (X.dpt per tl r x i k) (dep tl (base X.nr i+k)):=
 g.ride_cg fs ((hr.ls r (Qqo hj)).2 _ (Qqo hx)) (g.line_cg fs hr ht hj hx) hk
theorem Gd.lap {j:Nat} {r:List Nat×Bool} (hj:rs[j]? = some r) (hc:r.2=true):X.lineD per tl r.1 (dep tl (base X.nr (r.1.getD 0 0))) r.1.length=dep tl (base X.nr (r.1.getD 0 0))+X.lapsV per tl r.1 r.2*per:=by
 have p0:=g.p0;have hm:=Qqo hj;have ak:=hr.ls r hm;have a:=Qqr (l:=r.1) (i:=0) Q0;have f:r.1.getD 0 0=r.1[0]:=by rw [Qqs,a];rfl
 have ar:∀ {x:Nat},x<r.1.length->∃ b,nx r x=some b:=fun {x} hx=>by
  by_cases h:x+1<r.1.length
  ·exact ⟨_,QeY (Qqr h)⟩
  ·exact ⟨_,Qcx Q0 hc a⟩
 have ac:∀ {x:Nat},x<=r.1.length->X.lineD per tl r.1 (dep tl (base X.nr (r.1.getD 0 0))) x=dep tl (base X.nr (r.1.getD 0 0))+X.sumL per tl (r.1.take x):=by
  intro x;induction x with
  |zero=>intro _;simp [lineD,sumL]
  |succ x ih=>
   intro hx;have e:=Qqr (l:=r.1) (i:=x) Q0;have hi:=ak.2 _ (Qqo e);obtain ⟨b,hb⟩:=ar (x:=x) Q0;obtain ⟨t,hT,e1,e2⟩:=ht.sx hm e hb;have hR:∀ {k:Nat} {d:Int},k<=X.nr r.1[x]->X.rideD per tl r.1[x] d k=d+X.sumR per tl r.1[x] k:=by
    intro k d;induction k with
    |zero=>intro _;simp [rideD,sumR]
    |succ k au=>
     intro hk;have hg:(X.gapV per tl r.1[x] k).2=true:=by
      unfold gapV;split
      ·rfl
      ·rw [<- e1,Qe3 g.ok hT]
     rw [rideD,endV,if_pos hg,au Q0,sumR];omega
   rw [lineD,AA g e,Qqs (l:=r.1) (i:=x),e,QqL,hR (Qqt _),ih Q0];omega
 have hl:=ac (Qqt r.1.length);rw [List.take_length] at hl;have e:=Qqr (l:=r.1) (i:=r.1.length-1) Q0;have hi:=ak.2 _ (Qqo e);have hn:=(JM g.ok hi).2.1;obtain ⟨t,hT,e1,e2⟩:=ht.sx hm e (Qcx Q0 hc a);have aj:=g.lineD_succ fs hr ht hj e;rw [show r.1.length-1+1=r.1.length by omega,<- e1] at aj;rw [<- e1] at e hn;obtain ⟨c,ao⟩:=g.turn_cg fs hT (g.dpt_cg fs hr ht hj e (show X.nr t.1-1<X.nr t.1 by omega));rw [<- aj,e2,<- f,hl] at ao;have hs:X.sumL per tl r.1=c*per:=Q0
 rw [hl];unfold lapsV;rw [hc,QqM,hs,Int.mul_tdiv_cancel _ Q0]
theorem Gd.join_rel {t:Tup} (hT:t∈X.jns) {j:Nat} {r:List Nat×Bool} (hj:rs[j]? = some r) {x i k:Nat} (hx:r.1[x]? = some i) (hk:k<X.nr i) (e:t.1=base X.nr i+k):∃ x' i' k',r.1[x']? = some i'/\k'<X.nr i'/\t.2.1=base X.nr i'+k'/\∃ δ m:Int,t.2.2.1<=δ/\δ<=t.2.2.2/\X.dpt per tl r x i k+δ=X.dpt per tl r x' i' k'+m*X.lapsV per tl r.1 r.2*per:=by
 have hm:=Qqo hj;have hi:=(hr.ls r hm).2 _ (Qqo hx);rcases Q5H.1 hT with ⟨d,k0,n,h2,rfl⟩ | ⟨u,hu,rfl⟩
 ·obtain ⟨rfl,rfl⟩:=Pe (nr:=X.nr) (show k0<X.nr d by omega) hk e;have a:=g.run_f fs hi hk;have b:=g.dw_f fs hi h2;refine ⟨x,d,k0+1,hx,Q0,rfl,X.runV per tl d k0+VK tl per (X.aD d k0),0,by unfold j1;dsimp only;omega,by unfold j1;dsimp only;omega,?_⟩;unfold dpt;rw [rideD,endV,b.1,if_pos rfl];dsimp only;omega
 ·have ac:=g.ok.tr u hu;have hn:=(JM g.ok ac.1).2.1;have an:=(JM g.ok ac.2.1).2.1;obtain ⟨rfl,rfl⟩:=Pe (nr:=X.nr) (show X.nr u.1-1<X.nr u.1 by omega) hk e;obtain ⟨j1,o,p,g1,h,c⟩:=ht.tu u hu;obtain ⟨rfl,rfl⟩:=ht.uq hj g1 hx h;rw [hj] at g1;cases g1;have a:=g.run_f fs hi hk;have b:=g.tu_f fs hu;have hs:=g.lineD_succ fs hr ht hj hx;rw [g.turn_end fs hu] at hs;rcases Qdl c with c | ⟨l,q,c⟩
  ·refine ⟨x+1,u.2.1,0,c,Q0,rfl,X.runV per tl u.1 (X.nr u.1-1)+VK tl per (X.tuE u),0,by unfold jT;dsimp only;omega,by unfold jT;dsimp only;omega,?_⟩;have f:X.dpt per tl r (x+1) u.2.1 0=X.lineD per tl r.1 (dep tl (base X.nr (r.1.getD 0 0))) (x+1):=rfl;rw [f,hs];omega
  ·have hl:=(Qqq.1 hx).1;refine ⟨0,u.2.1,0,c,Q0,rfl,X.runV per tl u.1 (X.nr u.1-1)+VK tl per (X.tuE u),1,by unfold jT;dsimp only;omega,by unfold jT;dsimp only;omega,?_⟩;have f:X.dpt per tl r 0 u.2.1 0=dep tl (base X.nr (r.1.getD 0 0)):=rfl;have aj:=g.lap fs hr ht hj l;rw [show r.1.length=x+1 by omega,hs] at aj;rw [f,Int.one_mul];omega
theorem Gd.tied {t:Tup} (hT:t∈X.jns) (ha:X.aloneJ per X.jns=true) {j:Nat} {r:List Nat×Bool} (hj:rs[j]? = some r) {x i k:Nat} (hx:r.1[x]? = some i) (hk:k<X.nr i) (e:t.1=base X.nr i+k) {j':Nat} {r':List Nat×Bool} (aj:rs[j']? = some r') {x' i' k':Nat} (aq:r'.1[x']? = some i') (ac:k'<X.nr i') (e':t.2.1=base X.nr i'+k') {p q:Occ} (hp:p∈X.occ i k) (hq:q∈X.occ i' k') (ax:p.1=q.1) (aw:Q1x t.2.2.1 (X.occN t.1) (X.occN t.2.1) p.1=true) {z:Int} (d:X.dpt per tl r x i k+p.2.1<X.dpt per tl r' x' i' k'+z*per+q.2.2) (h2:X.dpt per tl r' x' i' k'+z*per+q.2.1<X.dpt per tl r x i k+p.2.2):j=j'/\X.lapsV per tl r.1 r.2 ∣ z:=by
 have p0:=g.p0;have hi:=(hr.ls r (Qqo hj)).2 _ (Qqo hx);have an:=(hr.ls r' (Qqo aj)).2 _ (Qqo aq);obtain ⟨f,h,l,a,b,c,δ,m,n,s,u⟩:=g.join_rel fs hr ht hT hj hx hk e;obtain ⟨rfl,rfl⟩:=Pe (nr:=X.nr) ac b (e'.symm.trans c);obtain ⟨rfl,rfl⟩:=ht.uq hj aj a aq;rw [hj] at aj;cases aj;have oi:=Q72 g.ok hi hk;have az:=Q72 g.ok an ac;rw [e,e',Dc hi hk,Dc an ac] at aw;obtain ⟨y,hy,hb⟩:=QqB.1 aw;obtain ⟨w,hw,hb⟩:=QqB.1 hb;cases hc:tie t.2.2.1 y w with
 |false=>rw [hc] at hb;cases hb
 |true=>
  rw [hc,QqM,beq_iff_eq] at hb;obtain rfl:=Q2h oi.1 hy hp hb;have ay:y.1=w.1:=by
   unfold tie at hc;cases au:y.1 == w.1 with
   |false=>rw [au] at hc;cases hc
   |true=>exact eq_of_beq au
  obtain rfl:=Q2h az.1 hw hq (ay.symm.trans ax);unfold aloneJ at ha;cases ak:(X.occs X.L).all (fun o=>o.all (SJ per)) with
  |false=>rw [ak] at ha;cases ha
  |true=>
   rw [ak,QqM] at ha;have hb:=Qqy.1 ha t hT;rw [QqD,e,e',Dc hi hk,Dc an ac] at hb;have hh:BA per t.2.2.1 t.2.2.2 y w=false:=by
    cases hx:BA per t.2.2.1 t.2.2.2 y w with
    |false=>rfl
    |true=>
     have:Q8D per t.2.2.1 t.2.2.2 (X.occ i k) (X.occ i' k')=true:=QqB.2 ⟨y,hy,QqB.2 ⟨w,hw,by rw [hc,QqM,hx]⟩⟩;rw [this] at hb;cases hb
   unfold BA at hh;have hh:=of_decide_eq_false hh;refine ⟨rfl,m,?_⟩;have hz:z-m*X.lapsV per tl r.1 r.2=0:=by
    refine QcL (per:=per) ?_ ?_ Q0
    ·rw [Int.sub_mul];split at hh <;> split at hh <;> omega
    ·rw [Int.sub_mul];split at hh <;> split at hh <;> omega
   rw [Int.mul_comm];omega
theorem Gd.noConA {H:LL} (eh:X.hdws per X.jns X.N 0=some H) (hA:∀ r∈H,r∈A) (ha:X.aloneJ per X.jns=true) {j:Nat} {r:List Nat×Bool} (hj:rs[j]? = some r) {x i k:Nat} (hx:r.1[x]? = some i) (hk:k<X.nr i) {j':Nat} {r':List Nat×Bool} (ac:rs[j']? = some r') {x' i' k':Nat} (ao:r'.1[x']? = some i') (an:k'<X.nr i') (a3:base X.nr i+k<=base X.nr i'+k') {p q:Occ} (hp:p∈X.occ i k) (hq:q∈X.occ i' k') (ak:p.1=q.1) {z:Int} (l:X.dpt per tl r x i k+p.2.1<X.dpt per tl r' x' i' k'+z*per+q.2.2) (h2:X.dpt per tl r' x' i' k'+z*per+q.2.1<X.dpt per tl r x i k+p.2.2):j=j'/\X.lapsV per tl r.1 r.2 ∣ z:=by
 have p0:=g.p0;have p1:=g.p1;have hi:=(hr.ls r (Qqo hj)).2 _ (Qqo hx);have aw:=(hr.ls r' (Qqo ac)).2 _ (Qqo ao);by_cases ax:base X.nr i+k=base X.nr i'+k'
 ·obtain ⟨rfl,rfl⟩:=Pe hk an ax;obtain ⟨rfl,rfl⟩:=ht.uq hj ac hx ao;rw [hj] at ac;cases ac;obtain rfl:=Q2h (Q72 g.ok hi hk).1 hp hq ak;unfold aloneJ at ha;cases aq:(X.occs X.L).all (fun o=>o.all (SJ per)) with
  |false=>rw [aq] at ha;cases ha
  |true=>
   have hm:X.occ i k∈X.occs X.L:=Qqo (LK (nr:=X.nr) (f:=X.occ) hk hi);have hf:=Qqy.1 (Qqy.1 aq _ hm) _ hp;unfold SJ at hf;rw [QqD] at hf;have hf:=of_decide_eq_false hf;have:=QcL (z:=z) (per:=per) Q0 Q0 Q0;exact ⟨rfl,by rw [this];exact Int.dvd_zero _⟩
 ·have hb:=QcU g.ok aw an;cases ar:X.TRb X.jns (base X.nr i+k) (base X.nr i'+k') p.1 with
  |false=>
   obtain ⟨c1,n⟩:=g.dpt_cg fs hr ht hj hx hk;obtain ⟨m,s⟩:=g.dpt_cg fs hr ht ac ao an;refine absurd (Qju g.ok p0 p1 eh hA fs (a:=base X.nr i+k) (b:=base X.nr i'+k') Q0 hb (p:=p) (q:=q) ?_ ?_ ak (d:=X.dpt per tl r' x' i' k'+z*per-X.dpt per tl r x i k) (c:=m+z-c1) ?_ Q0 Q0) (fun h=>h)
   ·unfold fil;rw [Dc hi hk];exact QqN.2 ⟨hp,by rw [ar];rfl⟩
   ·unfold fil;rw [Dc aw an];exact QqN.2 ⟨hq,by rw [Q6H,<- ak,ar];rfl⟩
   ·rw [Int.sub_mul,Int.add_mul];omega
  |true=>
   obtain ⟨t,hT,hb⟩:=QqB.1 ar;cases aj:jab (base X.nr i+k) (base X.nr i'+k') t with
   |false=>rw [aj] at hb;cases hb
   |true=>
    rw [aj,QqM] at hb;have hc:(t.1=base X.nr i+k/\t.2.1=base X.nr i'+k')\/(t.1=base X.nr i'+k'/\t.2.1=base X.nr i+k):=by
     unfold jab at aj;simp only [Bool.cond_true_left,Bool.cond_false_right,Bool.or_eq_true,Qqu,beq_iff_eq] at aj;omega
    rcases hc with ⟨e,e'⟩ | ⟨e,e'⟩
    ·exact g.tied fs hr ht hT ha hj hx hk e ac ao an e' hp hq ak hb l h2
    ·rw [ak] at hb;obtain ⟨rfl,h⟩:=g.tied fs hr ht hT ha ac ao an e hj hx hk e' hq hp ak.symm hb (z := -z) (by rw [Int.neg_mul];omega) (by rw [Int.neg_mul];omega);rw [hj] at ac;cases ac;exact ⟨rfl,Int.dvd_neg.1 h⟩
theorem Gd.noCon {H:LL} (eh:X.hdws per X.jns X.N 0=some H) (hA:∀ r∈H,r∈A) (ha:X.aloneJ per X.jns=true) {u v:U} (hu:X.Src per tl rs u) (hv:X.Src per tl rs v) (aq:u.1=v.1) {z:Int} (a:u.2.2.1<v.2.2.1+z*per+v.2.2.2.1) (h2:v.2.2.1+z*per<u.2.2.1+u.2.2.2.1):u.2.1=v.2.1/\u.2.2.2.2 ∣ z:=by
 obtain ⟨j,r,x,i,k,hj,hx,hk,a1,a2,p,hp,b,c,d⟩:=hu;obtain ⟨j',r',x',i',k',ac,aj,ak,b1,b2,q,hq,e,f,l⟩:=hv;rw [a1,a2,b1];by_cases an:base X.nr i+k<=base X.nr i'+k'
 ·exact g.noConA fs hr ht eh hA ha hj hx hk ac aj ak an hp hq Q0 Q0 Q0
 ·obtain ⟨rfl,h⟩:=g.noConA fs hr ht eh hA ha ac aj ak hj hx hk Q0 hq hp Q0 (z := -z) (by rw [Int.neg_mul];omega) (by rw [Int.neg_mul];omega);rw [hj] at ac;cases ac;exact ⟨rfl,Int.dvd_neg.1 h⟩
end Cx
def R2 (u v:U):Prop:=u.2.1=v.2.1->u.2.2.1+u.2.2.2.1<=v.2.2.1
def SI (j:Nat) (lo d:Int) (us:List U):Prop:=us.Pairwise R2/\∀ x∈us,x.2.1=j->lo<=x.2.2.1/\x.2.2.1+x.2.2.2.1<=d
theorem SI.add {j:Nat} {lo d d':Int} {us:List U} {u:U} (h:SI j lo d us) (hj:u.2.1=j) (a:d<=u.2.2.1) (b:lo<=u.2.2.1) (h2:u.2.2.1+u.2.2.2.1<=d') (c:d<=d'):SI j lo d' (DB us u):=by
 unfold DB;split
 ·refine ⟨List.pairwise_append.2 ⟨h.1,List.pairwise_singleton ..,fun x hx y hy=>?_⟩,fun x hx e=>?_⟩
  ·obtain rfl:=List.mem_singleton.1 hy;intro e;have:=h.2 x hx (e.trans hj);omega
  ·rcases List.mem_append.1 hx with hx | hx
   ·have:=h.2 x hx e;omega
   ·obtain rfl:=List.mem_singleton.1 hx;omega
 ·exact ⟨h.1,fun x hx e=>by have:=h.2 x hx e;omega⟩
namespace Cx
variable {X:Cx} {per:Int} {Ch Sy A:LL} {tl:List Int}
variable (g:X.Gd per Ch Sy A tl) (fs:Fs per tl A)
include g fs
theorem Gd.end_g {i k:Nat} (hi:i<X.Ls.length) (hk:k<X.nr i) {d:Int}:d+X.run i k<=X.endV per tl i k d:=by
 have hr:=g.run_f fs hi hk;have r:=rd g.ok hi hk;unfold endV;by_cases a:k<X.nr i-1
 ·have hd:=g.dw_f fs hi a;have:=r.mn0;rw [hd.1,if_pos rfl];dsimp only;omega
 ·unfold gapV;rw [if_neg a];cases e:X.tn i with
  |none=>dsimp only;rw [if_neg Bool.false_ne_true];omega
  |some t=>
   have ht:=g.tu_f fs (C5 e).1;have b:=(g.ok.tr t (C5 e).1).2.2.1;dsimp only;rw [if_pos rfl];omega
theorem Gd.stM_ord {c:Bool} {idx j:Nat} {lo laps:Int} {i k:Nat} (hi:i<X.Ls.length) (hk:k<X.nr i) {s:Int×List U} (h:SI j lo s.1 s.2) (a:c=false/\idx=0/\k=0->(∀ x∈s.2,x.2.1≠j)/\lo<=s.1-60) (hl:lo<=s.1):SI j lo (X.stM per tl false c idx j laps i k s).1 (X.stM per tl false c idx j laps i k s).2/\s.1<=(X.stM per tl false c idx j laps i k s).1:=by
 have he:=g.end_g fs hi hk (d:=s.1);have hr:=S7 g.ok hi hk;unfold stM;rw [cond_false];refine ⟨SI.add (d:=s.1) ?_ rfl (by dsimp only;omega) (by dsimp only;omega) (by dsimp only;omega) (by dsimp only;omega),by dsimp only;omega⟩;split
 ·obtain ⟨g1,b⟩:=a (by assumption);exact SI.add (d:=s.1-60) ⟨h.1,fun x hx e=>absurd e (g1 x hx)⟩ rfl (Int.le_refl _) b (by dsimp only;omega) Q0
 ·exact h
theorem Gd.rideM_ord {c:Bool} {idx j:Nat} {lo laps:Int} {i:Nat} (hi:i<X.Ls.length) {s:Int×List U} (h:SI j lo s.1 s.2) (a:c=false/\idx=0->(∀ x∈s.2,x.2.1≠j)/\lo<=s.1-60) (hl:lo<=s.1):∀ {k:Nat},k<=X.nr i->SI j lo (X.rideM per tl false c idx j laps i s k).1 (X.rideM per tl false c idx j laps i s k).2/\s.1<=(X.rideM per tl false c idx j laps i s k).1
 |0,_=>⟨h,Int.le_refl _⟩
 |k+1,hk=>by
  have ih:=Gd.rideM_ord hi h a hl (laps:=laps) (k:=k) Q0;rw [rideM];have:=g.stM_ord fs (c:=c) (idx:=idx) (laps:=laps) hi (show k<X.nr i by omega) ih.1 (fun ⟨e1,e2,b⟩=>by subst b;exact a ⟨e1,e2⟩) Q0;exact ⟨this.1,Q0⟩
theorem Gd.lineM_ord {c:Bool} {j:Nat} {lo laps:Int} {ls:List Nat} (ac:∀ i∈ls,i<X.Ls.length) {s:Int×List U} (h:∀ x∈s.2,x.2.1≠j) (hp:s.2.Pairwise R2) (a:c=false->lo<=s.1-60) (hl:lo<=s.1):∀ {x:Nat},x<=ls.length->SI j lo (X.lineM per tl false c j laps ls s x).1 (X.lineM per tl false c j laps ls s x).2/\s.1<=(X.lineM per tl false c j laps ls s x).1
 |0,_=>⟨⟨hp,fun x hx e=>absurd e (h x hx)⟩,Int.le_refl _⟩
 |x+1,hx=>by
  have ih:=Gd.lineM_ord ac h hp a hl (laps:=laps) (x:=x) Q0;have e:=Qqr (l:=ls) (i:=x) Q0;have hd:ls.getD x 0=ls[x]:=by rw [Qqs,e];rfl
  rw [lineM,hd];have:=g.rideM_ord fs (c:=c) (idx:=x) (laps:=laps) (ac _ (Qqo e)) ih.1 (fun ⟨e1,e2⟩=>by subst e2;exact ⟨h,a e1⟩) Q0 (Qqt _);exact ⟨this.1,Q0⟩
variable {rs:List (List Nat×Bool)} (hr:X.RsOK rs) (ht:RsT X.T rs)
include hr ht
theorem Gd.usesM_ord:∀ {j:Nat},j<=rs.length->(X.usesM per tl false rs j).Pairwise R2/\(∀ x∈X.usesM per tl false rs j,x.2.1<j)/\∀ x∈X.usesM per tl false rs j,∀ r,rs[x.2.1]? = some r->r.2=true->dep tl (base X.nr (r.1.getD 0 0))<=x.2.2.1/\x.2.2.1+x.2.2.2.1<=dep tl (base X.nr (r.1.getD 0 0))+X.lapsV per tl r.1 r.2*per
 |0,_=>⟨List.Pairwise.nil,fun x hx=>(nomatch hx),fun x hx=>(nomatch hx)⟩
 |j+1,hj=>by
  obtain ⟨d,a,f⟩:=Gd.usesM_ord (j:=j) Q0;have e:=Qqr (l:=rs) (i:=j) Q0;have hd:rs.getD j ([],false)=rs[j]:=by rw [Qqs,e];rfl
  have ak:=(hr.ls _ (Qqo e)).2;have hn:∀ x∈X.usesM per tl false rs j,x.2.1≠j:=fun x hx=>by have:=a x hx;omega
  rw [usesM,hd];unfold trainM;generalize hs:(Vx.tat tl ((2*base X.nr (rs[j].1.getD 0 0):Nat):Int),X.usesM per tl false rs j)=s;have m:s.1=dep tl (base X.nr (rs[j].1.getD 0 0)):=by rw [<- hs];rfl
  have n:s.2=X.usesM per tl false rs j:=by rw [<- hs]
  rw [<- n] at hn d a f;have ho:=g.lineM_ord fs (c:=rs[j].2) (laps:=X.lapsV per tl rs[j].1 rs[j].2) (lo:=if rs[j].2=true then s.1 else s.1-60) ak hn d (fun h=>by rw [h,if_neg Bool.false_ne_true];omega) (by split <;> omega) (Qqt _);have hm:=g.lineM_src fs (mv:=false) (c:=rs[j].2) (train:=j) (laps:=X.lapsV per tl rs[j].1 rs[j].2) ak (s:=s) (Qqt _);refine ⟨ho.1.1,fun x hx=>?_,fun x hx r ac hc=>?_⟩
  ·rcases hm x hx with h | ⟨x',i,k,_,_,b⟩
   ·have:=a x h;omega
   ·have:=b.1;omega
  ·rcases hm x hx with h | ⟨x',i,k,_,_,b⟩
   ·exact f x h r ac hc
   ·have aj:=b.1;rw [aj,e] at ac;cases ac;have hb:=ho.1.2 x hx aj;rw [hc,if_pos rfl,By,m,g.lap fs hr ht e hc] at hb;exact hb
theorem Gd.noMeet {H:LL} (eh:X.hdws per X.jns X.N 0=some H) (hA:∀ r∈H,r∈A) (ha:X.aloneJ per X.jns=true):(X.usesM per tl false rs rs.length).Pairwise fun u v=>u.1=v.1->∀ z:Int,u.2.2.1<v.2.2.1+z*per+v.2.2.2.1->v.2.2.1+z*per<u.2.2.1+u.2.2.2.1->False:=by
 have p0:=g.p0;obtain ⟨n,_,f⟩:=g.usesM_ord fs hr ht (Qqt rs.length);have ac:=g.usesM_src fs (mv:=false) hr (Qqt rs.length);refine List.Pairwise.imp_of_mem (fun {u v} hu hv ak e z c d=>?_) n;obtain ⟨e1,hz⟩:=g.noCon fs hr ht eh hA ha (ac u hu) (ac v hv) e c d;have ho:=ak e1;obtain ⟨j,r,x,i,k,g1,o,p,h,l,_⟩:=ac u hu;cases hc:r.2 with
 |false=>
  rw [l] at hz;unfold lapsV at hz;rw [hc,cond_false] at hz;have:=Int.zero_dvd.1 hz;subst this;omega
 |true=>
  have a:=f u hu r (by rw [h];exact g1) hc;have b:=f v hv r (by rw [<- e1,h];exact g1) hc;obtain ⟨m,rfl⟩:=hz;rw [l] at c d;rw [Int.mul_comm _ m,Int.mul_assoc] at c d;rcases Int.lt_trichotomy m 0 with hm | hm | hm
  ·have:=QqJ (show m <= -1 by omega) (show 0<=X.lapsV per tl r.1 r.2*per by omega);omega
  ·subst hm;omega
  ·have:=Int.mul_nonneg (show 0<=m by omega) (show 0<=X.lapsV per tl r.1 r.2*per by omega);omega
end Cx
theorem FsB.fs {A:LL} {per:Int} {N:Nat} {tl:List Int} (hr:∀ r∈A,R6 r) (hc:∀ r∈A,chk per N r=true) (h:FsB A per N tl):Fs per tl A:=fun r hm=>by
 obtain ⟨kd,f,t,mn,mx,q,rfl⟩:=hr r hm;have:=Q2w (hc _ hm);exact h kd f t mn mx q hm Q0 Q0 Q0 Q0
abbrev L19:=Int ⊕ (LL×LL×LL×LL×Int×LL×LL×LL×LL×LL×LL×LL×Int×LL×LL×LL×LL×LL×Int)
theorem Qfc:VY 400 (some:Bool->oP Bool)=some true:=by kernel_rfl
section
variable {n:Nat} {a0 a1 a2 a3:LL} {p:Int} {b1 b2 b3 b4 b5 b6 b7 t:LL} {s:Int} {us rr:LL}
theorem Qfv (c:0<=s) (d:s<(a0.length:Int)) (hs:G7 n a0 a1 a2 a3 p b1 b2 b3 b4 b5 b6 b7 t false Tu2=some (us,0)) (hc:Vu n a0 a1 a2 a3 p b1 b2 b3 b4 b5 b6 b7 some=some 0) (hr:Xq n b3 b5 some=some rr):Jk n a0 a1 a2 a3 p b1 b2 b3 b4 b5 b6 b7 t s Tu2=Yg n s rr us (us.length:Int) a2 p b1 b3 (some ([],7)) (fun _ _ w=>some (w,0)) n 0 []:=by
 unfold Jk Tc Te;rw [hs,Qh,Qh,hc,Qh,hr];show (bif (bif decide (s<0) then true else decide (s>=(a0.length:Int))) then some ([],(4:Int)) else _)=_;rw [show (bif decide (s<0) then true else decide (s>=(a0.length:Int)))=false by simp only [Bool.cond_true_left,Bool.or_eq_false_iff,decide_eq_false_iff_not];omega];rfl
theorem QdH {q:Int} {E A W1 W2:LL} {K:oP (LL×Int)} (hb:Gg n a0 a1 a2 a3 p b1 b2 b3 b4 b5 b6 b7 Tu4=some (q,E,A,0)) (hg:KS n q E A t some=some true) (hr:Js n b3 b5 some=some rr)
  (hl:∀ k0:LL->LL->oP L19,Ws n rr (rr.length:Int) a0 a1 a2 a3 p b1 b2 b3 b4 b5 b6 b7 q A t (fun _ _ u v=>k0 u v) n 0 [] []=k0 W1 W2) (hk:Z0 n (W1.length:Int) W1 W2 (fun _ _ w=>some (w,(0:Int))) n 0 []=K) :
  Hx n a0 a1 a2 a3 p b1 b2 b3 b4 b5 b6 b7 t Tu2=K:=by
 have e:MU n a0 a1 a2 a3 p b1 b2 b3 b4 b5 b6 b7 t (fun a=>(some (.inl a):oP L19)) (fun a c d b f g r6 h i j k l m o r s x y z=>some (.inr (a,c,d,b,f,g,r6,h,i,j,k,l,m,o,r,s,x,y,z)))=some (.inr (a0,a1,a2,a3,p,b1,b2,b3,b4,b5,b6,b7,q,E,A,t,W1,W2,0)):=by
  unfold MU;rw [hb,Qh];show (gb true (KS n q E A t some) false fun d=>bif (!d) then (some (.inl (1:Int)):oP L19) else gb true (Js n b3 b5 some) [] fun b=>Ws n b ((List.length b:Nat):Int) a0 a1 a2 a3 p b1 b2 b3 b4 b5 b6 b7 q A t (fun ac ad aa ab=>(some (.inr (a0,a1,a2,a3,p,b1,b2,b3,b4,b5,b6,b7,q,E,A,t,aa,ab,(0:Int))):oP L19)) n (0:Int) [] [])=_;rw [hg,Qh,hr];exact hl fun u v=>some (.inr (a0,a1,a2,a3,p,b1,b2,b3,b4,b5,b6,b7,q,E,A,t,u,v,(0:Int)))
 rw [<- hk];unfold Hx;rw [e];rfl
theorem QbD {l:LL} {q e:Int} {E A:LL} {w:Int} (hp:SP n l Tu12=some (a0,a1,a2,a3,p,b1,b2,b3,b4,b5,b6,b7)) (hb:Gg n a0 a1 a2 a3 p b1 b2 b3 b4 b5 b6 b7 Tu4=some (q,E,A,e)) (ha:VY n (some:Bool->oP Bool)=some true)
  (hx:e=0->∃ t u e2,Va n q E A 3000 Tu3=some (t,u,e2)/\(e2=0->∃ st us V C,SZ n w (a0.length:Int) some=some st/\Jk n a0 a1 a2 a3 p b1 b2 b3 b4 b5 b6 b7 t st Tu2=some (V,0)/\Hx n a0 a1 a2 a3 p b1 b2 b3 b4 b5 b6 b7 t Tu2=some (us,0) /\
   (∀ (k0:Bool->oP Bool) (k1:LL->oP Bool),QX n st us (us.length:Int) a2 p k0 (fun _ _ w=>k1 w) n 0 []=k1 C)/\ZN n p V C (some:Bool->oP Bool)=some true)):law20_PlatformAsPlanned n l w some=some true:=by
 unfold law20_PlatformAsPlanned;rw [hp,Qh];dsimp only;rw [hb,Qh];dsimp only;by_cases he:e=0
 rotate_left
 ·rw [show (e != 0)=true by simpa using he,QqM,ha,Qh]
 subst he;obtain ⟨t,u,e2,r,h2⟩:=hx rfl;rw [bne_self_eq_false,cond_false,r,Qh];dsimp only;by_cases he:e2=0
 rotate_left
 ·rw [show (e2 != 0)=true by simpa using he,QqM,ha,Qh]
 subst he;obtain ⟨st,us,V,C,g1,s,v,x,y⟩:=h2 rfl;rw [bne_self_eq_false,cond_false,g1,Qh,s,Qh];dsimp only;rw [bne_self_eq_false,cond_false,v,Qh];dsimp only;rw [x (fun z=>some z) (fun aa=>gb true (VY n some) false fun f=>gb f (ZN n p V aa some) false fun ab=>some (bif f then ab else false)),ha,Qh,y,Qh];rfl
end
namespace Cx
variable {X:Cx} {per:Int} {Ch Sy A:LL} {tl:List Int}
theorem Qfr {c:Bool} {idx train:Nat} {laps:Int} {i k:Nat} {s:Int×List U}:(X.stM per tl false c idx train laps i k s).2.length<=s.2.length+2:=by
 unfold stM;rw [cond_false];refine QqK RN ?_;split
 ·exact Nat.add_le_add_right RN 1
 ·omega
theorem Q7J {c:Bool} {idx train:Nat} {laps:Int} {i:Nat} {s:Int×List U}:∀ {k:Nat},(X.rideM per tl false c idx train laps i s k).2.length<=s.2.length+2*k
 |0=>Qqt _
 |k+1=>by
  have:=Q7J (c:=c) (idx:=idx) (train:=train) (laps:=laps) (i:=i) (s:=s) (k:=k);rw [rideM];have:=Qfr (X:=X) (per:=per) (tl:=tl) (c:=c) (idx:=idx) (train:=train) (laps:=laps) (i:=i) (k:=k) (s:=X.rideM per tl false c idx train laps i s k);omega
variable (g:X.Gd per Ch Sy A tl)
include g
theorem Gd.lineM_l2 {c:Bool} {train:Nat} {laps:Int} {ls:List Nat} (ac:∀ i∈ls,i<X.Ls.length) {s:Int×List U}:∀ {x:Nat},x<=ls.length->(X.lineM per tl false c train laps ls s x).2.length<=s.2.length+4*x
 |0,_=>Qqt _
 |x+1,hx=>by
  have ih:=Gd.lineM_l2 (c:=c) (train:=train) (laps:=laps) ac (s:=s) (x:=x) Q0;have e:=Qqr (l:=ls) (i:=x) Q0;have hn:=(JM g.ok (ac _ (Qqo e))).2.1;have hd:ls.getD x 0=ls[x]:=by rw [Qqs,e];rfl
  rw [lineM,hd];have:=Q7J (X:=X) (per:=per) (tl:=tl) (c:=c) (idx:=x) (train:=train) (laps:=laps) (i:=ls[x]) (s:=X.lineM per tl false c train laps ls s x) (k:=X.nr ls[x]);omega
theorem Gd.usesM_l2 {rs:List (List Nat×Bool)} (hr:X.RsOK rs):∀ {j:Nat},j<=rs.length->(X.usesM per tl false rs j).length<=4*Q3j (rs.take j)
 |0,_=>Nat.zero_le _
 |j+1,hj=>by
  have ih:=Gd.usesM_l2 hr (j:=j) Q0;have e:=Qqr (l:=rs) (i:=j) Q0;have hd:rs.getD j ([],false)=rs[j]:=by rw [Qqs,e];rfl
  have:=g.lineM_l2 (c:=rs[j].2) (train:=j) (laps:=X.lapsV per tl rs[j].1 rs[j].2) (hr.ls _ (Qqo e)).2 (s:=(Vx.tat tl ((2*base X.nr (rs[j].1.getD 0 0):Nat):Int),X.usesM per tl false rs j)) (Qqt _);rw [usesM,hd,Q6u e];unfold trainM;dsimp only at this;omega
theorem Gd.src_len {rs:List (List Nat×Bool)} (hr:X.RsOK rs) (ha:X.aloneJ per X.jns=true) {u:U} (hu:X.Src per tl rs u):u.2.2.2.1<=per:=by
 obtain ⟨j,r,x,i,k,hj,hx,hk,a1,a2,p,hp,a3,a,b⟩:=hu;have hi:=(hr.ls r (Qqo hj)).2 _ (Qqo hx);unfold aloneJ at ha;cases ac:(X.occs X.L).all (fun o=>o.all (SJ per)) with
 |false=>rw [ac] at ha;cases ha
 |true=>
  have hm:X.occ i k∈X.occs X.L:=Qqo (LK (nr:=X.nr) (f:=X.occ) hk hi);have hf:=Qqy.1 (Qqy.1 ac _ hm) _ hp;unfold SJ at hf;rw [QqD] at hf;have hf:=of_decide_eq_false hf;omega
end Cx
theorem plannedA {l:List Int} (hl:l.length<=9223372036854775807) (w:Int):law20_PlatformAsPlanned 400 (encI l) w some=some true:=by
 have hp:SP 400 (encI l) Tu12∈(fun r=>∃ (G:Geo) (per:Int) (Sk Ro Ls Ch Tu Sy De:LL),PlanR G per Sk Ro Ls Ch Tu Sy De/\r=(G.St,G.Pt,G.Se,G.Li,per,Sk,Ro,Ls,Ch,Tu,Sy,De)):=Qi6 hl fun G per Sk Ro Ls Ch Tu Sy De h=>okI ⟨G,per,Sk,Ro,Ls,Ch,Tu,Sy,De,h,rfl⟩
 obtain ⟨_,hp,G,per,Sk,Ro,Ls,Ch,Tu,Sy,De,hR,rfl⟩:=hp;obtain ⟨X,h,rfl,rfl,rfl,rfl,rfl⟩:=hR.cx;have an:=hR.lsOK;have p0:2<=per:=by have:=hR.p0;omega
 have p1:=hR.p1;have hc:Vu 400 X.G.St X.G.Pt X.G.Se X.G.Li per X.skR X.Ro X.Ls Ch (X.T.map tuR) Sy De (some:Int->oP Int)=some 0:=Qdz hR some;have aa:UU 400 X.G.St X.G.Pt X.G.Se X.G.Li per X.skR X.Ro X.Ls Ch (X.T.map tuR) Sy De (some:Int->oP Int)=some 0:=QhR hR;have hN:X.N<=6:=Cx.base_le h;have bh:=Cx.buildP h an p0 p1 hc;have a5:=Cx.buildR h an p0 p1 aa;have br:=(MY h.g.lay).2;cases ev:X.netV per X.jns Ch Sy with
 |mk q r=>
 obtain ⟨E,A,e⟩:=r;rw [ev] at bh a5;refine QbD hp a5 Qfc fun he=>?_
 subst he;unfold Cx.netV at ev;cases ha:X.aloneJ per X.jns with
 |false=>
  rw [ha] at ev;cases ev
 |true=>
  rw [ha,QqM] at ev;cases eh:X.hdws per X.jns X.N 0 with
  |none=>
   rw [eh] at ev;cases ev
  |some H=>
   rw [eh] at ev;cases ev;have hH:=Cx.hdws_rows eh;have bq:=Cx.planned_len h an;have bo:=Cx.hdws_len h p0 p1 Q0 eh;have hA:(X.planned Ch Sy++H).length<400:=by rw [List.length_append];omega
   have bc:(X.evs X.L).length=2*X.N:=Cx.evs_len;have hE:(X.evs X.L).length<=48:=Q0
   have i:∀ r∈X.planned Ch Sy++H,R6 r:=fun r hr=>Cx.act_r6 h an hH hr
   have ao:=QcM p0 p1 hE Q0 i hA;cases ak:(X.planned Ch Sy++H).all (chk per (X.evs X.L).length) with
   |false=>
    rw [ak] at ao;obtain ⟨res,us,hf⟩:=Qhv ao;exact ⟨_,_,_,hf,fun e=>nomatch e⟩
   |true=>
    rw [ak] at ao;have az:=Qqy.1 ak;obtain ⟨res,us,e,hf,hv⟩:=Qiw p0 p1 hE hA i az rfl ao;refine ⟨_,_,_,hf,fun he=>?_⟩;obtain ⟨tl,rfl,hT,hF⟩:=hv he;have g:X.Gd per Ch Sy (X.planned Ch Sy++H) tl:=⟨h,an,p0,p1,⟨H,rfl,hH⟩,hA,by rw [hT.1,bc],hT.2,fun r hr=>by have:=az r hr;rw [bc] at this;exact this⟩;have fs:Fs per tl (X.planned Ch Sy++H):=hF.fs i az;have hg:=QfW p0 p1 hE Q0 i hA (tl:=tl);rw [Qbx ak hT] at hg;obtain ⟨rs,f,j,k,m,n,r6,o⟩:=Cx.rotsP h;have ac:X.RsOK rs:=⟨m,n⟩;have a8:=Qbp o;have ar:(Q3h rs).length=rs.length:=by simp [Q3h]
    have hu:=Qc6 (mv:=false) bh hg.1 k (Cx.firstsP h) f (fun k0=>by rw [ar];exact g.usesP (mv:=false) ac k0);have ax:=g.usesM_ord fs ac a8 (Qqt rs.length);have a9:=g.noMeet fs ac a8 eh (fun r hr=>QqI _ hr) ha;have ay:=g.usesM_src fs (mv:=false) ac (Qqt rs.length);have p:=g.usesM_l2 ac (Qqt rs.length);rw [List.take_length] at p;have aq:=g.usesM_okS ac;have a4:=g.usesM_okN (mv:=false) ac;obtain ⟨W,w1,w2,w3⟩:=g.usesR (R:=L19) (De:=De) ac;have bz:X.G.St.length<=1000:=by have:=h.g.st;have:=h.g.hN;omega
    have aw:(0:Int)<(X.G.St.length:Int):=by have:=h.g.st;have:=h.g.hN;omega
    have bi:=L4 w aw;have au:=QdH (K:=some ((X.usesM per tl false rs rs.length).map Fd,0)) a5 hg.2 j (fun k0=>by rw [ar];exact w1 k0) (by
     have:=Qdr (R:=LL×Int) (W:=W) Q0 (fun w=>some (w,(0:Int)));rw [w2] at this;rw [show (enW W).length=W.length by simp [enW]];exact this)
    generalize X.usesM per tl false rs rs.length=us at hu ax a9 ay p aq a4 au;have a7:us.length<=12:=Q0
    have bb:∀ u∈us,u.2.2.2.1<=per:=fun u hu=>g.src_len ac ha (ay u hu)
    refine ⟨pick w (X.G.St.length:Int),us.map Fd,((inS X.G.Se (pick w (X.G.St.length:Int)) us).map (Q3d X.G.Se per (pick w (X.G.St.length:Int)) X.tl)).map Q56,encI ((inS X.G.Se (pick w (X.G.St.length:Int)) us).map fun u=>(u.1:Int)),Qg1 400 w aw Q0 some,?_,au,fun k0 k1=>by rw [List.length_map];exact Cx.tracksL h a7 aq bb _ k0 k1,?_⟩
    ·refine (Qfv bi.1 bi.2 hu hc f).trans ?_;rw [List.length_map];exact Cx.visP h p0 p1 ac a7 aq a4 ax.2.1 _ _ (fun w=>some (w,0))
    ·have a6:∀ u∈inS X.G.Se (pick w (X.G.St.length:Int)) us,u∈us/\sta X.G.Se u=pick w (X.G.St.length:Int):=fun u hu=>by
      have:=QqN.1 hu;exact ⟨this.1,by simpa using this.2⟩
     refine Qee p0 p1 (QqK Q5z a7) (fun u hu=>a4 u (a6 u hu).1) (fun u hu=>bb u (a6 u hu).1) (List.Pairwise.filter _ a9) fun u hu=>?_
     obtain ⟨ad,s⟩:=a6 u hu;obtain ⟨nm,a,b,c,st,d,f2,f3,f4⟩:=aq u ad;rw [Qar d] at s;have aj:=h.sk.t2;have hg:X.G.Se.getD u.1 []=[D.str nm,Ql a,Ql b,Ql c,Ql st]:=by
      rw [Qq] at d;rw [Qqs,d];rfl
     have hx:u.1<X.G.Se.length:=by
      rw [Qq] at d;exact (Qqq.1 d).1
     refine Q9W Q0 ?_ hx;rw [hg,s];show (bif pick w (X.G.St.length:Int) == pick w (X.G.St.length:Int) then decide (a>=X.tl) else false)=true;rw [beq_self_eq_true,QqM,decide_eq_true Q0]
end Go.Vx
namespace Go.Vx
open Go.RowKit Go.Maps Go.WideMaps
theorem Yy {P:Program} {f:Nat} {e:Sf} (hE:J9 P f e) {ac:List AV} {dl:Dl} (h:e Dl 0 true ac (fun _=>none) some=some dl):Wp P f ac (fun _=>none) dl:=by
 obtain ⟨d,k1,a⟩:=hE Dl 0 true ac _ some dl h;cases k1;exact a rfl
theorem Bv {P:Program} {f:Nat} {ac:List AV} {hl:Nat->oP Ob} {av:AV} (h:Wp P f ac hl ⟨av,[],[]⟩) {S:Nat->Prop} {w:World} (hS:∀ b,S b->b<w.heap.size) {args:List Value} (hA:ArgsRd (fun _=>none) S (fun _=>none) w args ac) :
  Calls P f args.toArray w fun e w'=>∃ v S',e = .returned v/\RdA (fun _=>none) S' (fun _=>none) w' tm0 v av/\RowKit.Below w.heap.size w w':=by
 refine (h.2 (fun _=>none) S (fun _=>none) w args ⟨fun l o h=>(by cases h),fun l l' b h=>(by cases h),fun l b h=>(by cases h),hS⟩ hA (fun l hl=>(by rcases hl with hl | hl <;> simp [wrL] at hl))).mono fun e w' ⟨v,β',S',he,hc⟩=>?_
 have hβ:β'=fun _=>none:=funext fun l=>hc.bsame l (by simp [wrL])
 subst hβ;refine ⟨v,S',he,?_,⟨hc.fr.os,hc.fr.tape,hc.fr.output,hc.fr.size,fun b hb=>hc.fr.block b hb (fun ⟨l,a,_⟩=>by simp [wrL] at a)⟩⟩;exact hc.res.mono (fun _ h=>h) (fun _ _=>rfl) (fun l _=>⟨rfl,fun h=>h,fun e s rows h=>(by cases h),fun b cs ty fz h=>(by cases h),fun t f h=>(by cases h)⟩) (fun _ _=>rfl)
theorem SL {P:Program} {f:Nat} {ac:List AV} {hl:Nat->oP Ob} {r:Bool} (h:Wp P f ac hl ⟨.d (D.bool r),[],[]⟩) {S:Nat->Prop} {w:World} (hS:∀ b,S b->b<w.heap.size) {args:List Value} (hA:ArgsRd (fun _=>none) S (fun _=>none) w args ac) :
  Calls P f args.toArray w fun e w'=>e = .returned (.bool r)/\RowKit.Below w.heap.size w w':=by
 refine (Bv h hS hA).mono fun e w' ⟨v,S',he,hr,hb⟩=>⟨?_,hb⟩
 cases hr with
 |d v x hx=>cases hx;exact he
 |dang v av l hl=>cases hl
theorem Kk {P:Program} {f:Nat} {ac:List AV} {hl:Nat->oP Ob} {k:IntKind} {r:Int} (h:Wp P f ac hl ⟨.d (D.int k r),[],[]⟩) {S:Nat->Prop} {w:World} (hS:∀ b,S b->b<w.heap.size) {args:List Value} (hA:ArgsRd (fun _=>none) S (fun _=>none) w args ac) :
  Calls P f args.toArray w fun e w'=>e = .returned (.int k r)/\RowKit.Below w.heap.size w w':=by
 refine (Bv h hS hA).mono fun e w' ⟨v,S',he,hr,hb⟩=>⟨?_,hb⟩
 cases hr with
 |d v x hx=>cases hx;exact he
 |dang v av l hl=>cases hl
def Q3e (w:World) (P:Program) (b n:Nat) (ac:List (List UInt8)):Prop:=
 ∃ D:DataW Unit,w.ownsMap P 9 (plainElem P 4) b n D/\Go.Maps.IsMap D/\∀ s,D.atKey (.string s) (.lit (.bool false)) = .lit (.bool (ac.contains s))
theorem Q3e.made (P:Program) (w:World):Q3e (w.alloc (.map #[] 0)) P w.heap.size 0 []:=
 ⟨.map [],World.ownsMap_made w P 9 _,Go.Maps.isMap_empty,fun s=>rfl⟩
section
variable {P:Program} (h9:P.underlying 9=some .string) (h4:P.underlying 4=some .bool) {T:TypeId} (hT:P.underlying T=some (.map 9 4))
include h9 h4 hT
theorem Q3e.lookup {w:World} {b n:Nat} {ac:List (List UInt8)} (h:Q3e w P b n ac) (hz:(zeroValue 4).run P w = .ok (.bool false) w) {s:List UInt8} (hs:s.length<=maxLen) :
  (Instr.lookup T (.map (some b)) (.string ⟨⟨s⟩⟩) false).run P w = .ok (.bool (ac.contains s)) w:=by
 obtain ⟨D,hD,_,hat⟩:=h;obtain ⟨v,ps,ak,hv⟩:=hD.lookup (string_keyed h9) hT hz (zd:=.lit (.bool false)) (zp:=[]) (plainElem_bool h4 false) (keyOf_string_mk (s:=⟨⟨s⟩⟩) h9 hs);have e:=hat s;simp only at hv;rw [e] at hv;unfold plainElem at hv;rw [h4] at hv;cases v <;> simp at hv;rw [ak,hv.1];simp
theorem Q3e.update {w:World} {b n:Nat} {ac:List (List UInt8)} (h:Q3e w P b n ac) (hn:n<maxLen) {s:List UInt8} (hs:s.length<=maxLen) :
  ∃ w',(Instr.mapUpdate T (.map (some b)) (.string ⟨⟨s⟩⟩) (.bool true)).run P w = .ok () w'/\Q3e w' P b (n+1) (s::ac)/\w.grownBy w' (some b):=by
 obtain ⟨D,hD,hm,hat⟩:=h;obtain ⟨w',ak,aj,hg⟩:=hD.update (string_keyed h9) hT hn (keyOf_string_mk (s:=⟨⟨s⟩⟩) h9 hs) (plainElem_bool (H:=Unit) h4 true);refine ⟨w',ak,⟨_,aj,hm.put _ _,fun t=>?_⟩,hg⟩;have hk:WideAt.IsKeyLit (.string s):=(string_keyed h9).key (keyOf_string_mk (s:=⟨⟨s⟩⟩) h9 hs);by_cases e:t=s
 ·subst e;rw [show (ByteArray.mk ⟨t⟩).data.toList=t from rfl,Go.Maps.atKey_put_same hm hk];simp
 ·rw [show (ByteArray.mk ⟨s⟩).data.toList=s from rfl,Go.Maps.atKey_put_other (by simpa using e),hat t];simp [e]
end
theorem Q3e.kept {P:Program} {w w':World} {b n:Nat} {ac:List (List UInt8)} {row:oP Nat} (h:Q3e w P b n ac) (hg:w.grownBy w' row) (aj:some b≠row):Q3e w' P b n ac:=by
 obtain ⟨D,hD,hm,hat⟩:=h;exact ⟨D,hD.kept hg aj,hm,hat⟩
theorem Q3e.lt {P:Program} {w:World} {b n:Nat} {ac:List (List UInt8)} (h:Q3e w P b n ac):b<w.heap.size:=by
 obtain ⟨D,hD,hm,hat⟩:=h;exact hD.lt
theorem WH {w w':World} (h:RowKit.Below w.heap.size w w'):w.grownBy w' none:=⟨h.os,h.tape,h.output,h.size,fun b hb _=>h.block b hb⟩
def GX:Code->List Code
 |.region i o d=>[.region i o d]
 |.loop c=>GX c
 |.seq a b=>GX a++GX b
 |.block _ c=>GX c
 |.scope c=>GX c
 |.cond _ a b=>GX a++GX b
 |_=>[]
def Q6T (Q:Act->World->Prop):Exit->Act->World->Prop
 |.normal,a,w=>Q a w
 |_,_,_=>False
theorem LG {P : Program} {f : Nat} {fn : Func} (hf : P.funcs[f]? = some fn) (hb : fn.body.isSome = true) (hn : (fn.name == "runtime.NumGoroutine") = false) {avs : List AV} {av : AV} {hl : Nat -> oP Ob} {rd : List Nat} (hlf : lf av = true) (hA : lfL avs = true)
  (h:∀ (S:Nat->Prop) (w:World) (args:List Value),(∀ b,S b->b<w.heap.size)->ArgsRd (fun _=>none) S (fun _=>none) w args avs->Calls P f args.toArray w fun e w'=>∃ (v:Value) (S':Nat->Prop),e = .returned v/\(∀ b,S b->S' b)/\(∀ b,S' b->S b\/w.heap.size<=b)/\(∀ b,S' b->b<w'.heap.size) /\
   RdA (fun _=>none) S' (fun _=>none) w' tm0 v av/\RowKit.Below w.heap.size w w'):Wp P f avs hl ⟨av,[],rd⟩:=by
 refine ⟨⟨fn,hf,hb,hn⟩,fun β S h' w args hO hAr _=>?_⟩;refine (h S w args hO.sb ⟨hAr.1,fun i v av' a h2=>FN (Q1n hA h2) (fun _ h=>h) (fun _ _=>rfl) (hAr.2 i v av' a h2)⟩).mono fun e w' ⟨v,S',he,hs,hsf,hsb,hr,hbel⟩=>?_
 refine ⟨v,β,S',he,⟨hs,fun b hS=>(hsf b hS).elim .inl fun h=>.inr (.inl h),hsb,Q6c hbel,fun _ _=>rfl,fun l o hl'=>by simp [wrL] at hl',fun l hl'=>by simp [wrL] at hl',fun l b hl'=>by simp [wrL] at hl',fun l l' b hl'=>by simp [wrL] at hl',fun l hl'=>by simp [wrL] at hl',?_,fun t=>Q4Y t _ hlf⟩⟩;exact FN hlf (fun _ h=>h) (fun _ _=>rfl) hr
end Go.Vx
namespace Go.Vx
def dV:D->Value
 |.int k n=>.int k n
 |.bool b=>.bool b
 |.str s=>.string ⟨⟨s⟩⟩
 |.sl _ _=>undef
def cellsOf (l:LL):List Value:=l.flatMap fun r=>r.map dV
theorem Q4R (l:LL) (r:List D):cellsOf (l++[r])=cellsOf l++r.map dV:=by simp [cellsOf]
structure NestK (e1 e2 k:Nat) (w:World) (B:Nat) (v:Value) (hd:List Value) (ll:List LL):Prop where
 row:w.ownsRow B e1 1 v ll.length hd
 each:∀ (i:Nat) (h:Value) (l:LL),hd[i]? = some h->ll[i]? = some l->w.ownsRow B e2 k h l.length (cellsOf l)
 outer:∀ (i:Nat) (h:Value) (b:Nat),hd[i]? = some h->h.ownBlock=some b->v.ownBlock≠some b
 apart:∀ (i j:Nat) (h h':Value) (b:Nat),hd[i]? = some h->hd[j]? = some h'->h.ownBlock=some b->h'.ownBlock=some b->i=j
section
variable {e1 e2 k:Nat}
theorem NestK.len {w:World} {B:Nat} {v:Value} {hd:List Value} {ll:List LL} (h:NestK e1 e2 k w B v hd ll):hd.length=ll.length:=by have:=h.row.1;omega
theorem NestK.kept {w w':World} {B:Nat} {v:Value} {hd:List Value} {ll:List LL} {row:oP Nat} (h:NestK e1 e2 k w B v hd ll) (hg:w.grownBy w' row)
  (a:v.ownBlock=none\/v.ownBlock≠row) (h2:∀ x∈hd,x.ownBlock=none\/x.ownBlock≠row):NestK e1 e2 k w' B v hd ll:=
 ⟨h.row.kept hg a,fun i x l hx hl=>(h.each i x l hx hl).kept hg (h2 x (Qqo hx)),h.outer,h.apart⟩
theorem NestK.blk {w:World} {B:Nat} {v:Value} {hd:List Value} {ll:List LL} (h:NestK e1 e2 k w B v hd ll) {i:Nat} {x:Value} {b:Nat} (hx:hd[i]? = some x) (hb:x.ownBlock=some b):B<=b/\b<w.heap.size:=by
 have hi:i<ll.length:=by rw [<- h.len];exact (Qqq.1 hx).1
 exact (h.each i x ll[i] hx (Qqr hi)).lt b hb
theorem Q4D {w:World} {base e n:Nat} {v:Value} {xs:List Value} {b i:Nat} (h:w.ownsRow base e 1 v n xs) (hb:v.ownBlock=some b) (hi:i<n) (u:Value):(w.setCell ⟨b,i,none⟩ u).ownsRow base e 1 v n (xs.set i u):=by
 obtain ⟨a,h2⟩:=h;refine ⟨by simpa using a,?_⟩;rcases h2 with ⟨rfl,rfl⟩ | ⟨g,cap,ac,rfl,hg,hh,hn,hc,hs,ht⟩
 ·omega
 ·simp [Value.ownBlock] at hb;subst hb;refine .inr ⟨g,cap,_,rfl,hg,heap_setCell_same w g i ac e u hh,hn,hc,by simpa using hs,?_⟩;rw [<- ht];simp [List.take_set]
theorem Fm {w:World} {base e s n:Nat} {v:Value} {xs:List Value} (h:w.ownsRow base e s v n xs) {a:Addr} (ha:v.ownBlock≠some a.block) (u:Value):(w.setCell a u).ownsRow base e s v n xs:=by
 refine ⟨h.1,?_⟩;rcases h.2 with h2 | ⟨g,cap,ac,rfl,hg,hh,hn,hc,hs,ht⟩
 ·exact .inl h2
 ·refine .inr ⟨g,cap,ac,rfl,hg,?_,hn,hc,hs,ht⟩;rw [heap_setCell_other w a g u (fun e=>ha (by simp [Value.ownBlock,e]))];exact hh
theorem NestK.grow {w c:World} {B:Nat} {v x x':Value} {hd:List Value} {ll:List LL} {l:LL} {s:List D} {g H i vb:Nat} (h:NestK e1 e2 k w B v hd ll)
  (hx:hd[i]? = some x) (hl:ll[i]? = some l) (ay:c.ownsRow B e2 k x' (l.length+1) (cellsOf l++s.map dV)) (hg:w.grownBy c x.ownBlock) (aj:x'.ownBlock=some g) (hat:x.ownBlock=some g\/g=H) (hH:w.heap.size=H)
  (hv:v.ownBlock=some vb):NestK e1 e2 k (c.setCell ⟨vb,i,none⟩ x') B v (hd.set i x') (ll.set i (l++[s])):=by
 have hi:i<ll.length:=(Qqq.1 hl).1;have a4:=(h.row.lt vb hv).2;have az:g≠vb:=by
  intro e;subst e;rcases hat with a | a
  ·exact h.outer i x g hx a hv
  ·omega
 have ao:c.ownsRow B e1 1 v ll.length hd:=by
  refine h.row.kept hg (.inr fun e=>?_);rw [hv] at e;exact h.outer i x vb hx e.symm hv
 have aw:∀ (j:Nat) (y:Value) (b:Nat),hd[j]? = some y->y.ownBlock=some b->j≠i->b≠g:=by
  intro j y b hy hb a2 e;subst e;rcases hat with a | a
  ·exact a2 (h.apart j i y x b hy hx hb a)
  ·have:=(h.blk hy hb).2;omega
 refine ⟨?_,fun j y k hy hk=>?_,fun j y b hy hb=>?_,fun j k y z b hy hz an ak=>?_⟩
 ·rw [List.length_set];exact Q4D ao hv hi x'
 ·rw [QqP] at hy hk;by_cases e:i=j
  ·subst e;have a:i<hd.length:=by rw [h.len];exact hi
   simp only [if_true,a,hi,Option.some.injEq] at hy hk;subst hy hk;refine Fm (by simpa [Q4R] using ay) ?_ _;rw [aj];intro e;exact az (Option.some.inj e)
  ·rw [if_neg e] at hy hk;refine Fm ((h.each j y k hy hk).kept hg ?_) ?_ _
   ·cases hb:y.ownBlock with
    |none=>exact .inl rfl
    |some b=>exact .inr fun e2=>e (h.apart j i y x b hy hx hb e2.symm).symm
   ·intro e2;exact h.outer j y vb hy e2 hv
 ·rw [QqP] at hy;by_cases e:i=j
  ·subst e;have a:i<hd.length:=by rw [h.len];exact hi
   simp only [if_true,a,Option.some.injEq] at hy;subst hy;rw [aj] at hb;cases hb;rw [hv];intro e2;exact az (Option.some.inj e2).symm
  ·rw [if_neg e] at hy;exact h.outer j y b hy hb
 ·rw [QqP] at hy hz;have a:i<hd.length:=by rw [h.len];exact hi
  by_cases e:i=j
  ·by_cases e2:i=k
   ·omega
   ·subst e;rw [if_neg e2] at hz;simp only [if_true,a,Option.some.injEq] at hy;subst hy;rw [aj] at an;cases an;exact absurd rfl (aw k z g hz ak (fun h=>e2 h.symm))
  ·rw [if_neg e] at hy;by_cases e2:i=k
   ·subst e2;simp only [if_true,a,Option.some.injEq] at hz;subst hz;rw [aj] at ak;cases ak;exact absurd rfl (aw j y g hy an (fun h=>e h.symm))
   ·rw [if_neg e2] at hz;exact h.apart j k y z b hy hz an ak
end
def Ci (k:Nat) (r:List D):Bool:=Nat.beq r.length k&&r.all fun | .int .i64 _=>true | _=>false
theorem Q1E {k:Nat}:∀ (l:LL) (i j:Nat) (r:List D) (x:D),(∀ r∈l,r.length=k)->l[i]? = some r->r[j]? = some x->(cellsOf l)[i*k+j]? = some (dV x)
 |[],i,j,r,x,_,a,_=>by simp at a
 |b::l,0,j,r,x,hk,a,h2=>by
  simp only [Qqv,Option.some.injEq] at a;subst a;have hj:=(Qqq.1 h2).1;simp only [cellsOf,List.flatMap_cons,Nat.zero_mul,QqO];rw [List.getElem?_append_left (by simpa using hj),List.getElem?_map,h2];rfl
 |b::l,i+1,j,r,x,hk,a,h2=>by
  have ih:=Q1E l i j r x (fun q hq=>hk q (by simp [hq])) (by simpa using a) h2;have c:=hk b Q2;simp only [cellsOf,List.flatMap_cons];rw [List.getElem?_append_right (by simp [c];rw [Nat.succ_mul];omega)];rw [show (i+1)*k+j-(b.map dV).length=i*k+j by simp [c];rw [Nat.succ_mul];omega];exact ih
theorem Qgv {w:World} {B e k:Nat} {x:Value} {l:LL} (h:w.ownsRow B e k x l.length (cellsOf l)) (hk:∀ r∈l,Ci k r=true) {S:Nat->Prop} (hS:∀ b,x.ownBlock=some b->S b):Rd S w x (.sl k l):=by
 have ac:∀ r∈l,r.length=k:=fun r hr=>by
  have:=hk r hr;simp only [Ci,Qqu] at this;exact QqA this.1
 rcases h.2 with ⟨rfl,c⟩ | ⟨g,cap,aj,rfl,hg,hh,hn,hc,hs,ht⟩
 ·have:l=[]:=List.eq_nil_of_length_eq_zero c;subst this;exact .sl0 none 0 k
 ·refine .sl ⟨g,0,none⟩ cap k l (fun i j=>dV ((l.getD i []).getD j (.bool false))) (hS g rfl) hn (fun i r hi=>ac r (Qqo hi)) (fun i j r y hi hj=>?_) (fun i j r y hi hj=>?_)
  ·have a:=Q1E l i j r y ac hi hj;have ao:i*k+j<aj.size:=by
    have d:=(Qqq.1 a).1;rw [h.1] at d;have:l.length*k<=cap*k:=Nat.mul_le_mul_right k hn;omega
   rw [HQ,QqO,cell_of_row w g (i*k+j) aj e (0,0) hh];rw [<- ht,List.getElem?_take] at a;split at a
   ·rw [<- Array.getElem?_toList,a];simp [List.getD,hi,hj]
   ·cases a
  ·have hq:=hk r (Qqo hi);simp only [Ci,Qqu,Qqy] at hq;have hy:=hq.2 y (Qqo hj);simp only [List.getD,hi,hj,QqL];split at hy
   ·exact .int _ _
   ·cases hy
end Go.Vx
namespace Go.Vx
open Go.Proofs Go.RowKit
theorem Q8p {n:Nat} {s:List UInt8} (h:H7 n s some=some true) (w:World):Calls Tryz.prog 159 #[.string ⟨⟨s⟩⟩] w fun e w'=>e = .returned (.bool true)/\RowKit.Below w.heap.size w w':=by
 have he:(PF n).E Dl 0 true [.d (.str s)] (fun _=>none) some=some ⟨.d (.bool true),[],[]⟩:=by
  show gb true (H7 n s some) false (fun r=>(some ⟨.d (D.bool r),[],[]⟩:oP Dl))=_;rw [h];rfl
 refine SL (Yy ((PF n).ok) he) (S:=fun _=>False) (fun _ h=>h.elim) (args:=[.string ⟨⟨s⟩⟩]) ⟨rfl,fun i v av a h2=>?_⟩
 match i,a,h2 with
 |0,a,h2=>
  simp only [Qqv,Option.some.injEq] at a h2;subst a h2;exact .d _ _ (.str ⟨⟨s⟩⟩)
set_option maxHeartbeats 4000000 in
set_option maxRecDepth 100000 in
theorem Tryz.checkName_calls {N:Nat} (w:World) (b n:Nat) (ac:List (List UInt8)) (s:List UInt8) (h:Q3e w Tryz.prog b n ac) (hn:n<1000) (hs:QcG N ac s=true) :
  Calls Tryz.prog 211 #[.string ⟨⟨s⟩⟩,.map (some b)] w fun e w'=>e = .returned (.int .i64 0)/\Q3e w' Tryz.prog b (n+1) (s::ac)/\w.grownBy w' (some b):=by
 simp only [QcG,Qqu,QqD] at hs;obtain ⟨⟨hl,hN⟩,hc⟩:=hs;have hl:=Qqw hl;have an:s.length<=maxLen:=by unfold maxLen;omega
 have aq:n<maxLen:=by unfold maxLen;omega
 have hz:∀ w:World,(zeroValue 4).run Tryz.prog w = .ok (.bool false) w:=fun w=>by kernel_rfl
 go_enter Tryz.func211,Tryz.ntmps211
 go_wp2_with (go_at_call 159;refine (Q8p (Mm hN) _).mono ?_)
 rintro e d ⟨rfl,hB⟩;have c:=h.kept (WH hB) Q2;have ak:=c.lookup Tryz.underlying9 Tryz.underlying4 Tryz.underlying289 (hz d) an;rw [hc] at ak;obtain ⟨f,ar,h2,a⟩:=c.update Tryz.underlying9 Tryz.underlying4 Tryz.underlying289 aq an
 go_wp2
 refine bodyPost_ret (results_tmp rfl _ _ _) rfl ?_;exact ⟨rfl,h2,⟨a.os.trans hB.os,a.tape.trans hB.tape,a.output.trans hB.output,QqK hB.size a.size,fun k hk ao=>(a.block k (Qqx hk hB.size) ao).trans (hB.block k hk)⟩⟩
theorem Q9j {β:Nat->oP Nat} {S:Nat->Prop} {h:Nat->oP Ob} {w:World} {b:Value} {a0:AV} (c:RdA β S h w tm0 b a0):ArgsRd β S h w [b] [a0]:=by
 refine ⟨rfl,fun i v av a h2=>?_⟩
 match i,a,h2 with
 |0,a,h2=>simp only [Qqv,Option.some.injEq] at a h2;subst a h2;exact c
theorem Ta {β:Nat->oP Nat} {S:Nat->Prop} {h:Nat->oP Ob} {w:World} {b c:Value} {a0 a1:AV} (d:RdA β S h w tm0 b a0) (ac:RdA β S h w tm0 c a1):ArgsRd β S h w [b,c] [a0,a1]:=by
 refine ⟨rfl,fun i v av a h2=>?_⟩
 match i,a,h2 with
 |0,a,h2=>simp only [Qqv,Option.some.injEq] at a h2;subst a h2;exact d
 |1,a,h2=>simp only [List.getElem?_cons_succ,Qqv,Option.some.injEq] at a h2;subst a h2;exact ac
theorem Qdx {β:Nat->oP Nat} {S:Nat->Prop} {h:Nat->oP Ob} {w:World} {b c d:Value} {a0 a1 a2:AV} (e:RdA β S h w tm0 b a0) (aj:RdA β S h w tm0 c a1) (ac:RdA β S h w tm0 d a2):ArgsRd β S h w [b,c,d] [a0,a1,a2]:=by
 refine ⟨rfl,fun i v av a h2=>?_⟩
 match i,a,h2 with
 |0,a,h2=>simp only [Qqv,Option.some.injEq] at a h2;subst a h2;exact e
 |1,a,h2=>simp only [List.getElem?_cons_succ,Qqv,Option.some.injEq] at a h2;subst a h2;exact aj
 |2,a,h2=>simp only [List.getElem?_cons_succ,Qqv,Option.some.injEq] at a h2;subst a h2;exact ac
inductive RdLs (S:Nat->Prop) (w:World):List Value->List D->Prop
 |nil:RdLs S w [] []
 |cons {v:Value} {x:D} {vs:List Value} {xs:List D} (h:Rd S w v x) (t:RdLs S w vs xs):RdLs S w (v::vs) (x::xs)
theorem RdLs.agg {S:Nat->Prop} {w:World}:∀ {vs:List Value} {xs:List D},RdLs S w vs xs->RdA (fun _=>none) S (fun _=>none) w tm0 (.agg vs.toArray) (.ag (xs.map .d))
 |vs,xs,h=>by
  have hl:∀ {vs:List Value} {xs:List D},RdLs S w vs xs->vs.length=xs.length:=by
   intro vs xs h;induction h with
   |nil=>rfl
   |cons _ _ ih=>simp [ih]
  have hr:∀ {vs:List Value} {xs:List D},RdLs S w vs xs->∀ (i:Nat) (x:D),xs[i]? = some x->Rd S w (vs.toArray.getD i undef) x:=by
   intro vs xs h;induction h with
   |nil=>intro i x hx;simp at hx
   |cons a t ih=>
    intro i x hx;cases i with
    |zero=>simp only [Qqv,Option.some.injEq] at hx;subst hx;simpa using a
    |succ i=>
     have:=ih i x (by simpa using hx);simpa using this
  refine .ag _ _ (by simp [hl h]) fun i x hx=>?_
  rw [List.getElem?_map,QqG] at hx;obtain ⟨d,hd,rfl⟩:=hx;exact .d _ _ (hr h i d hd)
theorem Rd.keep {S:Nat->Prop} {w w':World} {v:Value} {x:D} {m:Nat} (h:Rd S w v x) (hS:∀ b,S b->b<m) (hw:∀ b,b<m->w'.heap[b]? = w.heap[b]?):Rd S w' v x:=h.mono (fun _ h=>h) fun b hb=>hw b (hS b hb)
theorem HD {S:Nat->Prop} {w:World} {v:Value} {k:Nat} {rows:LL} (h:Rd S w v (.sl k rows)):∃ ad cap,v = .slice ad rows.length cap:=by
 cases h with
 |sl0 a cap=>exact ⟨a,cap,rfl⟩
 |sl ad cap=>exact ⟨some ad,cap,rfl⟩
theorem Qau {S:Nat->Prop} {w:World} {ad:oP Addr} {n cap k:Nat} {rows:LL} (h:Rd S w (.slice ad n cap) (.sl k rows)) {i:Nat} {row:List D} (hi:rows[i]? = some row) :
  ∃ a,ad=some a/\S a.block/\row.length=k/\∀ (j:Nat) (x:D),row[j]? = some x->∃ v,w.cell? (a.add (i*k+j))=some v/\Rd S w v x:=by
 cases h with
 |sl0 a cap=>simp at hi
 |sl a cap _ _ c hS aj ac hc hr=>exact ⟨a,rfl,hS,ac i row hi,fun j x hx=>⟨_,hc i j row x hi hx,hr i j row x hi hx⟩⟩
theorem AP {n:Nat} {w a c:World} {b:Nat} (h:Below n w a) (hn:n<=w.heap.size) (hb:n<=b) (hg:a.grownBy c (some b)):Below n w c:=
 ⟨hg.os.trans h.os,hg.tape.trans h.tape,hg.output.trans h.output,QqK h.size hg.size,fun k hk=>(hg.block k (by have:=h.size;omega) Q3).trans (h.block k hk)⟩
theorem UH {n:Nat} {w a:World} (h:Below n w a) (hn:n<=w.heap.size) (o:Obj):Below n w (a.alloc o):=
 ⟨h.os,h.tape,h.output,by have:=h.size;simp;omega,fun k hk=>(QqC a o k (by have:=h.size;omega)).trans (h.block k hk)⟩
theorem VP {n:Nat} {w a b:World} (h:Below n w a) (hn:n<=w.heap.size) (h2:Below a.heap.size a b):Below n w b:=
 ⟨h2.os.trans h.os,h2.tape.trans h.tape,h2.output.trans h.output,QqK h.size h2.size,fun k hk=>(h2.block k (by have:=h.size;omega)).trans (h.block k hk)⟩
theorem TH (ad:Addr) (i j:Nat) (hj:j≠0):ad.add (i+j)=⟨(ad.add i).block,(ad.add i).off+j,none⟩:=by
 have a:(ad.add i).add j=ad.add (i+j):=by
  unfold Addr.add;by_cases hi:i=0 <;> simp [hi,hj,Nat.add_assoc]
 rw [<- a];generalize ad.add i=x;unfold Addr.add;rw [if_neg hj]
theorem Q1V {N:Nat} {ac:List (List UInt8)} {l:LL} {j:Nat} (hj:j<l.length) (h:PG N ac (l.drop j)=true) :
  ∃ s,l[j]? = some [D.str s]/\QcG N ac s=true/\PG N (s::ac) (l.drop (j+1))=true:=by
 rw [List.drop_eq_getElem_cons hj] at h;unfold PG at h;split at h
 ·rename_i s e;simp only [Qqu] at h;exact ⟨s,by rw [Qqr hj,e],h.1,h.2⟩
 ·cases h
theorem Q4i {N:Nat} {l0 l1 l2 f:LL} {ac:List (List UInt8)} {l:LL} {j:Nat} (hj:j<l.length) (h:T6 N l0 l1 l2 f ac (l.drop j)=true) :
  ∃ s a b c d,l[j]? = some [D.str s,.int .i64 a,.int .i64 b,.int .i64 c,.int .i64 d]/\QcG N ac s=true/\XC N l0 l1 l2 f s a b c d some=some true/\T6 N l0 l1 l2 f (s::ac) (l.drop (j+1))=true:=by
 rw [List.drop_eq_getElem_cons hj] at h;unfold T6 at h;split at h
 ·rename_i s a b c d e;simp only [Qqu] at h;exact ⟨s,a,b,c,d,by rw [Qqr hj,e],h.1.1,Mm h.1.2,h.2⟩
 ·cases h
theorem QcF {S:Nat->Prop} {w:World} {v:Value} {s:List UInt8} (h:Rd S w v (.str s)):v = .string ⟨⟨s⟩⟩:=by cases h;rfl
theorem Nc {S:Nat->Prop} {w:World} {v:Value} {k:IntKind} {n:Int} (h:Rd S w v (.int k n)):v = .int k n:=by cases h;rfl
theorem Q7W {N:Nat} {l0 l1 l2 f:LL} {s:List UInt8} {a b c d:Int} (h:XC N l0 l1 l2 f s a b c d some=some true) {S:Nat->Prop} {w:World} (hS:∀ b,S b->b<w.heap.size) {g i j k:Value}
  (l:Rd S w g (.sl 1 l0)) (m:Rd S w i (.sl 1 l1)) (h2:Rd S w j (.sl 5 l2)) (n:Rd S w k (.sl 6 f)) :
  Calls Tryz.prog 212 #[.agg #[g,i,j,k],.agg #[.string ⟨⟨s⟩⟩,.int .i64 a,.int .i64 b,.int .i64 c,.int .i64 d]] w fun e w'=>e = .returned (.bool true)/\RowKit.Below w.heap.size w w':=by
 have he:(GW N).E Dl 0 true [.ag ([D.sl 1 l0,.sl 1 l1,.sl 5 l2,.sl 6 f].map .d),.ag ([D.str s,.int .i64 a,.int .i64 b,.int .i64 c,.int .i64 d].map .d)] (fun _=>none) some=some ⟨.d (.bool true),[],[]⟩:=by
  show gb true (XC N l0 l1 l2 f s a b c d some) false (fun r=>(some ⟨.d (D.bool r),[],[]⟩:oP Dl))=_;rw [h];rfl
 exact SL (Yy ((GW N).ok) he) hS (Ta (RdLs.agg (.cons l (.cons m (.cons h2 (.cons n .nil))))) (RdLs.agg (.cons (.str ⟨⟨s⟩⟩) (.cons (.int _ _) (.cons (.int _ _) (.cons (.int _ _) (.cons (.int _ _) .nil)))))))
set_option maxHeartbeats 8000000 in
set_option maxRecDepth 100000 in
theorem Tryz.layout_calls {N:Nat} (S:Nat->Prop) (w:World) (hS:∀ b,S b->b<w.heap.size) (l0 l1 l2 d:LL) (x y z v3:Value) (h0:Rd S w x (.sl 1 l0)) (h1:Rd S w y (.sl 1 l1)) (h2:Rd S w z (.sl 5 l2)) (h3:Rd S w v3 (.sl 6 d)) (bh:Pb N l0 l1 l2 d=true)
  (hL:∀ w':World,(∀ b,S b->b<w'.heap.size)->Rd S w' x (.sl 1 l0)->Rd S w' y (.sl 1 l1)->Rd S w' z (.sl 5 l2)->Rd S w' v3 (.sl 6 d)->Calls Tryz.prog 213 #[.agg #[x,y,z,v3]] w' fun e b0=>e = .returned (.int .i64 0)/\Below w'.heap.size w' b0) :
  Calls Tryz.prog 158 #[.agg #[x,y,z,v3]] w fun e w'=>e = .returned (.int .i64 0)/\Below w.heap.size w w':=by
 simp only [Pb,Qqu,QqD] at bh;obtain ⟨⟨⟨⟨⟨⟨⟨⟨m0,m1⟩,m2⟩,m3⟩,m4⟩,n0⟩,n1⟩,ns⟩,nl⟩:=bh;have m0:=Qqw m0;have m1:=Qqw m1;have m2:=Qqw m2;have m3:=Qqw m3;have m4:l2.length≠0:=fun e=>by rw [e] at m4;cases m4
 obtain ⟨g,h,rfl⟩:=HD h0;obtain ⟨m,n,rfl⟩:=HD h1;obtain ⟨q,p,rfl⟩:=HD h2;obtain ⟨r,t,rfl⟩:=HD h3;have q0:¬ (24:Int)<(l0.length:Int):=Q0
 have q1:¬ (48:Int)<(l1.length:Int):=Q0
 have q2:¬ (96:Int)<(l2.length:Int):=Q0
 have q3:¬ (192:Int)<(d.length:Int):=Q0
 have q4:¬ ((l2.length:Int)=0):=Q0
 have a3:(w.alloc (.cells #[.slice g l0.length h,.slice m l1.length n,.slice q l2.length p,.slice r d.length t] 27)).heap[w.heap.size]? = some (.cells #[.slice g l0.length h,.slice m l1.length n,.slice q l2.length p,.slice r d.length t] 27 (0,0)):=heap_alloc_new w _;have ao:Below w.heap.size w (w.alloc (.cells #[.slice g l0.length h,.slice m l1.length n,.slice q l2.length p,.slice r d.length t] 27)):=UH (Below.refl _ _) (Qqt _) _;have bt:(w.alloc (.cells #[.slice g l0.length h,.slice m l1.length n,.slice q l2.length p,.slice r d.length t] 27)).heap.size=w.heap.size+1:=by simp
 have cn:∀ w:World,(Instr.makeMap 289 none).run Tryz.prog w = .ok (.map (some w.heap.size)) (w.alloc (.map #[] 0)):=fun w=>run_makeMap 289 w
 go_enter Tryz.func158,Tryz.ntmps158
 go_wp2
 generalize w.alloc (.cells #[.slice g l0.length h,.slice m l1.length n,.slice q l2.length p,.slice r d.length t] 27)=w1 at *
 go_loopw [40] (fun i wr=>∃ k:Nat,k<=2/\i = .int .i64 k/\Below (w.heap.size+1) w1 wr)
  (fun i _=>2-(intOf i).toNat)
 case atStart=>exact ⟨0,Q0,rfl,Below.refl _ _⟩
 case round=>
  obtain ⟨k,hk,rfl,hF⟩:=hrel;by_cases br:k<2
  ·have ca:((k:Int)<2):=Q0
   obtain ⟨ad,l,cap,b9,hv,hl,hm⟩:∃ (ad:oP Addr) (l:LL) (cap:Nat),(∀ w:World,(Instr.index 288 (.agg #[.slice g l0.length h,.slice m l1.length n]) (.int .i64 k)).run Tryz.prog w = .ok (.slice ad l.length cap) w)/\Rd S w (.slice ad l.length cap) (.sl 1 l)/\PG N [] l=true/\l.length<=48:=by
    obtain rfl | rfl:k=0\/k=1:=Q0
    ·exact ⟨g,l0,h,fun _=>rfl,h0,n0,Q0⟩
    ·exact ⟨m,l1,n,fun _=>rfl,h1,n1,Q0⟩
   have ai:w.heap.size+1<=wr.heap.size:=by have:=hF.size;omega
   have hM:=Q3e.made Tryz.prog wr;have a5:=UH hF Q0 (.map #[] 0)
   go_wp2
   generalize wr.alloc (.map #[] 0)=w2 at *
   generalize wr.heap.size=b at *
   clear hF
   go_loopw [46] (fun i wr=>∃ (j:Nat) (aj:List (List UInt8)),j<=l.length/\i = .int .i64 j/\Q3e wr Tryz.prog b j aj/\PG N aj (l.drop j)=true/\Below (w.heap.size+1) w1 wr)
    (fun i _=>l.length-(intOf i).toNat)
   case atStart=>exact ⟨0,[],Q0,rfl,hM,hl,a5⟩
   case round=>
    obtain ⟨j,aj,hj,rfl,az,ba,an⟩:=hrel;by_cases ax:j<l.length
    ·have bk:((j:Int)<(l.length:Int)):=Q0
     obtain ⟨s,a2,hN,ar⟩:=Q1V ax ba;have a6:=Rd.keep (w':=wr) hv hS fun c hc=>(an.block c Q0).trans (ao.block c hc)
     obtain ⟨a,rfl,_,_,ac⟩:=Qau a6 a2;obtain ⟨u,hc,hu⟩:=ac 0 _ rfl;rw [QcF hu,Nat.mul_one,Nat.add_zero] at hc
     go_wp2_with (go_at_call 211;refine (Tryz.checkName_calls wr b j aj s az Q0 hN).mono ?_)
     rintro e f ⟨rfl,a9,v⟩;have aw:=AP an Q0 ai v
     go_wp2
     go_roundw
     all_goals first
      |exact ⟨j+1,s::aj,ax,by go_num,a9,ar,aw⟩
      |(simp [intOf];omega)
    ·go_wp2
     go_roundw
     all_goals first
      |exact ⟨k+1,br,by go_num,an⟩
      |(simp [intOf];omega)
  ·skip
   have ai:w.heap.size+1<=wr.heap.size:=by have:=hF.size;omega
   have hM:=Q3e.made Tryz.prog wr;have a5:=UH hF Q0 (.map #[] 0);have ak:=(a5.block _ (Nat.lt_succ_self _)).trans a3;have c2:(wr.alloc (.map #[] 0)).cell? ⟨w.heap.size,2,none⟩=some (.slice q l2.length p):=by rw [Qqp ak];rfl
   go_wp2
   clear ak c2;generalize wr.alloc (.map #[] 0)=w2 at *
   generalize wr.heap.size=b at *
   go_loopw [62] (fun i wr=>∃ (j:Nat) (aj:List (List UInt8)),j<=l2.length/\i = .int .i64 j/\Q3e wr Tryz.prog b j aj/\T6 N l0 l1 l2 d aj (l2.drop j)=true/\Below (w.heap.size+1) w1 wr)
    (fun i _=>l2.length-(intOf i).toNat)
   case atStart=>exact ⟨0,[],Q0,rfl,hM,ns,a5⟩
   case round=>
    obtain ⟨j,aj,hj,rfl,az,ba,an⟩:=hrel;by_cases ax:j<l2.length
    ·have bk:((j:Int)<(l2.length:Int)):=Q0
     obtain ⟨s,sa,sb,sc,sd,a2,hN,bl,ar⟩:=Q4i ax ba;have bq:∀ c,c<w.heap.size->wr.heap[c]? = w.heap[c]?:=fun c hc=>(an.block c Q0).trans (ao.block c hc)
     have a6:=Rd.keep (w':=wr) h2 hS bq;obtain ⟨a,rfl,_,_,ac⟩:=Qau a6 a2;obtain ⟨u0,x0,y0⟩:=ac 0 _ rfl;obtain ⟨u1,x1,y1⟩:=ac 1 _ rfl;obtain ⟨ck,x2,y2⟩:=ac 2 _ rfl;obtain ⟨cz,x3,y3⟩:=ac 3 _ rfl;obtain ⟨cw,x4,y4⟩:=ac 4 _ rfl;rw [QcF y0,Nat.add_zero] at x0;rw [Nc y1,TH _ _ _ Q1] at x1;rw [Nc y2,TH _ _ _ Q1] at x2;rw [Nc y3,TH _ _ _ Q1] at x3;rw [Nc y4,TH _ _ _ Q1] at x4;clear ac y0 y1 y2 y3 y4 a6;have au:wr.grownBy (wr.alloc (.cells #[.string ⟨⟨s⟩⟩,.int .i64 sa,.int .i64 sb,.int .i64 sc,.int .i64 sd] 57)) none:=World.grownBy_alloc wr _ none;have bg:=UH an Q0 (.cells #[.string ⟨⟨s⟩⟩,.int .i64 sa,.int .i64 sb,.int .i64 sc,.int .i64 sd] 57);have bj:=az.kept au Q2;have av:(wr.alloc (.cells #[.string ⟨⟨s⟩⟩,.int .i64 sa,.int .i64 sb,.int .i64 sc,.int .i64 sd] 57)).heap[wr.heap.size]? = some (.cells #[.string ⟨⟨s⟩⟩,.int .i64 sa,.int .i64 sb,.int .i64 sc,.int .i64 sd] 57 (0,0)):=heap_alloc_new wr _;have cu:b<wr.heap.size:=az.lt;have bx:w.heap.size+1<=wr.heap.size:=by have:=an.size;omega
     go_wp2_with (go_at_call 211;refine (Tryz.checkName_calls (wr.alloc (.cells #[.string ⟨⟨s⟩⟩,.int .i64 sa,.int .i64 sb,.int .i64 sc,.int .i64 sd] 57)) b j aj s bj Q0 hN).mono ?_)
     rintro e f ⟨rfl,a9,v⟩;have aw:=AP bg Q0 ai v;have ak:=(aw.block _ (Nat.lt_succ_self _)).trans a3;have ay:=(v.block wr.heap.size Q2 Q3).trans av;clear bg bj av au v az an;have z0:f.cell? ⟨w.heap.size,0,none⟩=some (.slice g l0.length h):=by rw [Qqp ak];rfl
     have z1:f.cell? ⟨w.heap.size,1,none⟩=some (.slice m l1.length n):=by rw [Qqp ak];rfl
     have z2:f.cell? ⟨w.heap.size,2,none⟩=some (.slice (some a) l2.length p):=by rw [Qqp ak];rfl
     have z3:f.cell? ⟨w.heap.size,3,none⟩=some (.slice r d.length t):=by rw [Qqp ak];rfl
     have y0:f.cell? ⟨wr.heap.size,0,none⟩=some (.string ⟨⟨s⟩⟩):=by rw [Qqp ay];rfl
     have y1:f.cell? ⟨wr.heap.size,1,none⟩=some (.int .i64 sa):=by rw [Qqp ay];rfl
     have y2:f.cell? ⟨wr.heap.size,2,none⟩=some (.int .i64 sb):=by rw [Qqp ay];rfl
     have y3:f.cell? ⟨wr.heap.size,3,none⟩=some (.int .i64 sc):=by rw [Qqp ay];rfl
     have y4:f.cell? ⟨wr.heap.size,4,none⟩=some (.int .i64 sd):=by rw [Qqp ay];rfl
     have o:∀ c,c<w.heap.size->f.heap[c]? = w.heap[c]?:=fun c hc=>(aw.block c Q0).trans (ao.block c hc)
     have a7:∀ c,S c->c<f.heap.size:=fun c hc=>by have:=hS c hc;have:=aw.size;omega
     have g0:=Rd.keep h0 hS o;have g1:=Rd.keep h1 hS o;have g2:=Rd.keep h2 hS o;have g3:=Rd.keep h3 hS o
     go_wp2_with (go_at_call 212;refine (Q7W bl a7 g0 g1 g2 g3).mono ?_)
     rintro e w4 ⟨rfl,a4⟩;have bn:=a9.kept (WH a4) Q2;have aq:=VP aw Q0 a4
     go_wp2
     go_roundw
     all_goals first
      |exact ⟨j+1,s::aj,ax,by go_num,bn,ar,aq⟩
      |(simp [intOf];omega)
    ·have ak:=(an.block _ (Nat.lt_succ_self _)).trans a3;have z0:wr.cell? ⟨w.heap.size,0,none⟩=some (.slice g l0.length h):=by rw [Qqp ak];rfl
     have z1:wr.cell? ⟨w.heap.size,1,none⟩=some (.slice m l1.length n):=by rw [Qqp ak];rfl
     have z2:wr.cell? ⟨w.heap.size,2,none⟩=some (.slice q l2.length p):=by rw [Qqp ak];rfl
     have z3:wr.cell? ⟨w.heap.size,3,none⟩=some (.slice r d.length t):=by rw [Qqp ak];rfl
     have o:∀ c,c<w.heap.size->wr.heap[c]? = w.heap[c]?:=fun c hc=>(an.block c Q0).trans (ao.block c hc)
     have a7:∀ c,S c->c<wr.heap.size:=fun c hc=>by have:=hS c hc;have:=an.size;omega
     have a8:=hL wr a7 (Rd.keep h0 hS o) (Rd.keep h1 hS o) (Rd.keep h2 hS o) (Rd.keep h3 hS o)
     go_wp2_with (go_at_call 213;refine a8.mono ?_)
     rintro e w4 ⟨rfl,a4⟩;have aq:=VP an Q0 a4
     go_wp2
     refine bodyPost_ret (results_tmp rfl _ _ _) rfl ?_;exact ⟨rfl,aq.os.trans ao.os,aq.tape.trans ao.tape,aq.output.trans ao.output,by have:=aq.size;omega,fun c hc=>(aq.block c Q0).trans (ao.block c hc)⟩
section
theorem Q8n {w w':World} {a:Addr} {u:Value} (hB:Below w.heap.size w w') (h:w.cell? a=some u):w'.cell? a=some u:=by
 rw [World.cell?_of_block (hB.block a.block (World.block_lt_of_cell? w a h))];exact h
theorem MP (w:World):Below w.heap.size w w.drew:=⟨rfl,rfl,rfl,Qqt _,fun _ _=>rfl⟩
theorem MJ {w a b:World} (h:Below w.heap.size w a) (h2:Below a.heap.size a b):Below w.heap.size w b:=VP h (Qqt _) h2
theorem Q7b {β:Nat->oP Nat} {S:Nat->Prop} {h:Nat->oP Ob} {w:World} {tm:Nat->Value} {v:Value} {k:IntKind} {n:Int} (h:RdA β S h w tm v (.d (.int k n))):v = .int k n:=by
 cases h with
 |d _ _ q=>exact Nc q
 |dang _ _ _ hl=>cases hl
theorem Q8H {β:Nat->oP Nat} {S:Nat->Prop} {h:Nat->oP Ob} {w:World} {tm:Nat->Value} {v:Value} {k k':IntKind} {n m:Int} (h:RdA β S h w tm v (.ag [.d (.int k n),.d (.int k' m)])):v = .agg #[.int k n,.int k' m]:=by
 cases h with
 |ag cs l hl hr=>
  have c:=Q7b (hr 0 _ rfl);have d:=Q7b (hr 1 _ rfl);obtain ⟨l⟩:=cs
  match l,hl with
  |[a,b],_=>
   simp at c d;rw [c,d]
 |dang _ _ _ hl=>cases hl
theorem Tryz.index_calls (w:World) (a b:Int) (a0:0<=a) (a1:a<1000) (b0:0<=b) (b1:b<=1) :
  Calls Tryz.prog 252 #[.agg #[.int .i64 a,.int .i64 b]] w fun e w'=>e = .returned (.int .i64 (2*a+b))/\Below w.heap.size w w':=by
 have e1:IntKind.i64.wrap (2*a)=2*a:=by rw [IntKind.wrap_i64];omega
 have e2:IntKind.i64.wrap (2*a+b)=2*a+b:=by rw [IntKind.wrap_i64];omega
 have hp:T8 0 a b some=some (2*a+b):=by
  show some (IntKind.i64.wrap (IntKind.i64.wrap (2*a)+b))=_;rw [e1,e2]
 have he:(PE 0).E Dl 0 true [.ag ([D.int .i64 a,D.int .i64 b].map .d)] (fun _=>none) some=some ⟨.d (D.int .i64 (2*a+b)),[],[]⟩:=by
  show gb true (T8 0 a b some) 0 (fun r=>(some ⟨.d (D.int .i64 r),[],[]⟩:oP Dl))=_;rw [hp];rfl
 exact Kk (S:=fun _=>False) (Yy ((PE 0).ok) he) (fun _ h=>h.elim) (Q9j (RdLs.agg (.cons (.int _ _) (.cons (.int _ _) .nil))))
set_option maxHeartbeats 4000000 in
theorem Tryz.ends_calls (w:World) (a ae b be p q:Int) :
  Calls Tryz.prog 251 #[.agg #[.int .i64 a,.int .i64 ae,.int .i64 b,.int .i64 be,.int .i64 p,.int .i64 q]] w fun e w'=>e = .returned (.tuple #[.agg #[.int .i64 a,.int .i64 ae],.agg #[.int .i64 b,.int .i64 be]])/\Below w.heap.size w w':=by
 have he:(TR 0).E Dl 0 true [.ag ([D.int .i64 a,D.int .i64 ae,D.int .i64 b,D.int .i64 be,D.int .i64 p,D.int .i64 q].map .d)] (fun _=>none) some=some ⟨.tup [.ag ([D.int .i64 a,D.int .i64 ae].map .d),.ag ([D.int .i64 b,D.int .i64 be].map .d)],[],[]⟩:=rfl;refine (Bv (S:=fun _=>False) (Yy ((TR 0).ok) he) (fun _ h=>h.elim) (Q9j (RdLs.agg (.cons (.int _ _) (.cons (.int _ _) (.cons (.int _ _) (.cons (.int _ _) (.cons (.int _ _) (.cons (.int _ _) .nil))))))))).mono fun e w' ⟨v,S',f,h2,g⟩=>⟨?_,g⟩
 rw [f];cases h2 with
 |tup cs l hl hr=>
  have c:=Q8H (hr 0 _ rfl);have d:=Q8H (hr 1 _ rfl);obtain ⟨l⟩:=cs
  match l,hl with
  |[a,b],_=>
   simp at c d;rw [c,d]
 |dang v av l hl=>cases hl
theorem six {w:World} {p t:Nat} {a b c d e f:Value} (h:w.heap[p]? = some (.cells #[a,b,c,d,e,f] t (0,0))):w.cell? ⟨p,0,none⟩=some a/\w.cell? ⟨p,1,none⟩=some b/\w.cell? ⟨p,2,none⟩=some c/\w.cell? ⟨p,3,none⟩=some d/\w.cell? ⟨p,4,none⟩=some e/\w.cell? ⟨p,5,none⟩=some f:=by
 refine ⟨?_,?_,?_,?_,?_,?_⟩ <;> rw [Qqp h] <;> rfl
theorem GU {e1 e2 k:Nat} {w w':World} {B:Nat} {v:Value} {hd:List Value} {ll:List LL} (h:NestK e1 e2 k w B v hd ll) (hg:w.grownBy w' none):NestK e1 e2 k w' B v hd ll:=
 h.kept hg (Classical.em _) (fun x _=>Classical.em _)
structure Grew (w w':World) (vb:Nat) (x x':Value):Prop where
 own:∀ b,x'.ownBlock=some b->x.ownBlock=some b\/w.heap.size<=b
 os:w'.os=w.os
 tape:w'.tape=w.tape
 output:w'.output=w.output
 size:w.heap.size<=w'.heap.size
 block:∀ b,b<w.heap.size->b≠vb->x.ownBlock≠some b->w'.heap[b]? = w.heap[b]?
theorem Q4x {w W1 W2:World} {B vb N i n g c:Nat} {x:Value} {hd:List Value} {ll:List LL} {l:LL} {row:List D} (hN:NestK 25 193 6 w B (.slice (some ⟨vb,0,none⟩) N N) hd ll) (hx:hd[i]? = some x) (hl:ll[i]? = some l) (hn:n=l.length)
  (a:w.grownBy W1 none) (aj:W2.ownsRow B 193 6 (.slice (some ⟨g,0,none⟩) (n+1) c) (n+1) (cellsOf l++row.map dV)) (ac:W1.grownBy W2 x.ownBlock) (hat:x.ownBlock=some g\/g=W1.heap.size) :
  NestK 25 193 6 (W2.setCell ⟨vb,i,none⟩ (.slice (some ⟨g,0,none⟩) (n+1) c)) B (.slice (some ⟨vb,0,none⟩) N N) (hd.set i (.slice (some ⟨g,0,none⟩) (n+1) c)) (ll.set i (l++[row])) /\
   Grew w (W2.setCell ⟨vb,i,none⟩ (.slice (some ⟨g,0,none⟩) (n+1) c)) vb x (.slice (some ⟨g,0,none⟩) (n+1) c):=by
 subst hn;have d:=GU hN a;have s1:=a.size;have s2:=ac.size;refine ⟨d.grow hx hl aj ac rfl hat rfl rfl,⟨fun b hb=>?_,?_,?_,?_,?_,fun b hb h2 f=>?_⟩⟩
 ·simp only [Value.ownBlock,Option.some.injEq] at hb;subst hb;rcases hat with h | h
  ·exact .inl h
  ·exact .inr Q0
 ·exact ac.os.trans a.os
 ·exact ac.tape.trans a.tape
 ·exact ac.output.trans a.output
 ·simp;omega
 ·rw [heap_setCell_other _ _ _ _ (fun e=>h2 e)];rw [ac.block b Q0 (fun e=>f e.symm),a.block b hb Q2]
variable {u0 u1 u2 u3 u4 u5 u6 u7 u8 u9 u10 u11 u12 u13 u14 u15 u16 u17 u18 u19 u20 u21 u22 u23 u24 u25 u26 u27 u28 u29 u30 u31 u32 u33 u34 u35 u36 u37 u38 u39 u40 u41 u42 u43 u44 u45 u46 u47 u48 u49 u50 u51 u52 u53 u54 u55 u56 u57 u58 u59 u60 u61 u62 u63 u64 u65 u66 u67 u68 u69 u70 u71 u72 u73 u74 u75 u76 u77 u78 u79:Value}
noncomputable def Qdt:Code:=(GX (Tryz.f213.body.getD .skip)).getD 8 .skip
set_option maxHeartbeats 8000000 in
set_option maxRecDepth 100000 in
theorem Tryz.links_r8 (vb N c d:Nat) (a ae b be:Int) (w:World) (c0:w.cell? ⟨c,0,none⟩=some (.int .i64 a)) (c1:w.cell? ⟨c,1,none⟩=some (.int .i64 ae)) (d0:w.cell? ⟨d,0,none⟩=some (.int .i64 b)) (d1:w.cell? ⟨d,1,none⟩=some (.int .i64 be)) (a0:0<=a) (a1:a<1000) (r:0<=ae) (e1:ae<=1) (b0:0<=b) (b1:b<1000) (s:0<=be) (t:be<=1) (u:2*a+ae<(N:Int)) (h2:2*b+be<(N:Int)) :
  Code.wp Tryz.prog Qdt (Q6T fun act w'=>∃ (f g h i j k l m:Value) ,act=⟨(u0::u1::u2::.slice (some ⟨vb,0,none⟩) N N::u4::u5::.pointer (some ⟨c,0,none⟩)::.pointer (some ⟨d,0,none⟩)::.pointer (some ⟨vb,(2*a+ae).toNat,none⟩)::.pointer (some ⟨vb,(2*b+be).toNat,none⟩)::u10::u11::u12::u13::u14::u15::u16::u17::u18::u19::u20::u21::u22::u23::u24::u25::u26::u27::u28::u29::u30::f::g::h::i::j::k::l::m::u39::u40::u41::u42::u43::u44::u45::u46::u47::u48::u49::u50::u51::u52::u53::u54::u55::u56::u57::u58::u59::u60::u61::u62::u63::u64::u65::u66::u67::u68::u69::u70::u71::u72::u73::u74::u75::u76::u77::u78::u79::[]).toArray,[]⟩/\Below w.heap.size w w') ⟨(u0::u1::u2::.slice (some ⟨vb,0,none⟩) N N::u4::u5::.pointer (some ⟨c,0,none⟩)::.pointer (some ⟨d,0,none⟩)::u8::u9::u10::u11::u12::u13::u14::u15::u16::u17::u18::u19::u20::u21::u22::u23::u24::u25::u26::u27::u28::u29::u30::u31::u32::u33::u34::u35::u36::u37::u38::u39::u40::u41::u42::u43::u44::u45::u46::u47::u48::u49::u50::u51::u52::u53::u54::u55::u56::u57::u58::u59::u60::u61::u62::u63::u64::u65::u66::u67::u68::u69::u70::u71::u72::u73::u74::u75::u76::u77::u78::u79::[]).toArray,[]⟩ w:=by
 conv=>arg 2;whnf
 have mixed:Tryz.prog.follows .mixedOrders=true:=by kernel_rfl
 have n:w.drew.cell? ⟨c,0,none⟩=some (.int .i64 a):=c0;have o:w.drew.cell? ⟨c,1,none⟩=some (.int .i64 ae):=c1;have p:w.drew.cell? ⟨d,0,none⟩=some (.int .i64 b):=d0;have q:w.drew.cell? ⟨d,1,none⟩=some (.int .i64 be):=d1;have g1:0<=2*a+ae:=Q0
 have v:0<=2*b+be:=Q0
 clear c0 c1 d0 d1
 go_region_held3 (fun w'=>w'.cell? ⟨c,0,none⟩=some (.int .i64 a)/\w'.cell? ⟨c,1,none⟩=some (.int .i64 ae)/\w'.cell? ⟨d,0,none⟩=some (.int .i64 b)/\w'.cell? ⟨d,1,none⟩=some (.int .i64 be))
  (first
   |exact ⟨n,o,p,q⟩
   |(refine ⟨?_,?_,?_,?_⟩ <;> (repeat (first | assumption | refine Q8n (by assumption) ?_))))
  (first
   |(go_at_call 252;refine (Tryz.index_calls _ _ _ (by assumption) (by assumption) (by assumption) (by assumption)).mono ?_;rintro e W1 ⟨rfl,x⟩))
 all_goals
  dsimp only [Q6T];refine ⟨_,_,_,_,_,_,_,_,rfl,?_⟩
  repeat (first | exact MP _ | refine MJ ?_ (by assumption))
noncomputable def Qbr:Code:=(GX (Tryz.f213.body.getD .skip)).getD 11 .skip
set_option maxHeartbeats 8000000 in
set_option maxRecDepth 100000 in
theorem Tryz.links_r11 (vb i c d n cap:Nat) (ad:oP Addr) (a ae b be:Int) (w:World) (c0:w.cell? ⟨c,0,none⟩=some (.int .i64 a)) (c1:w.cell? ⟨c,1,none⟩=some (.int .i64 ae)) (d0:w.cell? ⟨d,0,none⟩=some (.int .i64 b)) (d1:w.cell? ⟨d,1,none⟩=some (.int .i64 be)) (cx:w.cell? ⟨vb,i,none⟩=some (.slice ad n cap))
  (hc:Calls Tryz.prog 253 #[.slice ad n cap,.agg #[.int .i64 a,.int .i64 ae],.agg #[.int .i64 b,.int .i64 be]] w.drew fun e w'=>e = .returned (.bool false)/\Below w.drew.heap.size w.drew w') :
  Code.wp Tryz.prog Qbr (Q6T fun act w'=>∃ (f g h j k l:Value) ,act=⟨(u0::u1::u2::u3::u4::u5::.pointer (some ⟨c,0,none⟩)::.pointer (some ⟨d,0,none⟩)::.pointer (some ⟨vb,i,none⟩)::u9::u10::u11::u12::u13::u14::u15::u16::u17::u18::u19::u20::u21::u22::u23::u24::u25::u26::u27::u28::u29::u30::u31::u32::u33::u34::u35::u36::u37::u38::u39::u40::u41::u42::.bool false::f::g::h::j::k::l::u50::u51::u52::u53::u54::u55::u56::u57::u58::u59::u60::u61::u62::u63::u64::u65::u66::u67::u68::u69::u70::u71::u72::u73::u74::u75::u76::u77::u78::u79::[]).toArray,[]⟩/\Below w.heap.size w w') ⟨(u0::u1::u2::u3::u4::u5::.pointer (some ⟨c,0,none⟩)::.pointer (some ⟨d,0,none⟩)::.pointer (some ⟨vb,i,none⟩)::u9::u10::u11::u12::u13::u14::u15::u16::u17::u18::u19::u20::u21::u22::u23::u24::u25::u26::u27::u28::u29::u30::u31::u32::u33::u34::u35::u36::u37::u38::u39::u40::u41::u42::u43::u44::u45::u46::u47::u48::u49::u50::u51::u52::u53::u54::u55::u56::u57::u58::u59::u60::u61::u62::u63::u64::u65::u66::u67::u68::u69::u70::u71::u72::u73::u74::u75::u76::u77::u78::u79::[]).toArray,[]⟩ w:=by
 conv=>arg 2;whnf
 have mixed:Tryz.prog.follows .mixedOrders=true:=by kernel_rfl
 have o:w.drew.cell? ⟨c,0,none⟩=some (.int .i64 a):=c0;have p:w.drew.cell? ⟨c,1,none⟩=some (.int .i64 ae):=c1;have q:w.drew.cell? ⟨d,0,none⟩=some (.int .i64 b):=d0;have r:w.drew.cell? ⟨d,1,none⟩=some (.int .i64 be):=d1;have s:w.drew.cell? ⟨vb,i,none⟩=some (.slice ad n cap):=cx;clear c0 c1 d0 d1 cx
 go_region_law (first
   |(go_simp;refine hc.mono ?_;rintro e W1 ⟨rfl,m⟩))
 all_goals
  dsimp only [Q6T];refine ⟨_,_,_,_,_,_,rfl,?_⟩;exact MJ (MP w) m
noncomputable def QbQ:Code:=(GX (Tryz.f213.body.getD .skip)).getD 13 .skip
set_option maxHeartbeats 8000000 in
set_option maxRecDepth 100000 in
theorem Tryz.links_r13 (vb i c n cap:Nat) (ad:oP Addr) (a ae b be p q:Int) (w:World) (ac:w.heap[c]? = some (.cells #[.int .i64 a,.int .i64 ae,.int .i64 b,.int .i64 be,.int .i64 p,.int .i64 q] 193 (0,0))) (cx:w.cell? ⟨vb,i,none⟩=some (.slice ad n cap))
  (hc:Calls Tryz.prog 254 #[.agg #[.int .i64 a,.int .i64 ae,.int .i64 b,.int .i64 be,.int .i64 p,.int .i64 q],.slice ad n cap] w.drew fun e w'=>e = .returned (.bool true)/\Below w.drew.heap.size w.drew w') :
  Code.wp Tryz.prog QbQ (Q6T fun act w'=>∃ (d f g h j k:Value) ,act=⟨(u0::u1::u2::u3::u4::.pointer (some ⟨c,0,none⟩)::u6::u7::.pointer (some ⟨vb,i,none⟩)::u9::u10::u11::u12::u13::u14::u15::u16::u17::u18::u19::u20::u21::u22::u23::u24::u25::u26::u27::u28::u29::u30::u31::u32::u33::u34::u35::u36::u37::u38::u39::u40::u41::u42::u43::u44::u45::u46::u47::u48::u49::.bool false::d::f::g::h::j::k::u57::u58::u59::u60::u61::u62::u63::u64::u65::u66::u67::u68::u69::u70::u71::u72::u73::u74::u75::u76::u77::u78::u79::[]).toArray,[]⟩/\Below w.heap.size w w') ⟨(u0::u1::u2::u3::u4::.pointer (some ⟨c,0,none⟩)::u6::u7::.pointer (some ⟨vb,i,none⟩)::u9::u10::u11::u12::u13::u14::u15::u16::u17::u18::u19::u20::u21::u22::u23::u24::u25::u26::u27::u28::u29::u30::u31::u32::u33::u34::u35::u36::u37::u38::u39::u40::u41::u42::u43::u44::u45::u46::u47::u48::u49::u50::u51::u52::u53::u54::u55::u56::u57::u58::u59::u60::u61::u62::u63::u64::u65::u66::u67::u68::u69::u70::u71::u72::u73::u74::u75::u76::u77::u78::u79::[]).toArray,[]⟩ w:=by
 conv=>arg 2;whnf
 have mixed:Tryz.prog.follows .mixedOrders=true:=by kernel_rfl
 obtain ⟨m,o,r,s,t,u⟩:=six (w:=w.drew) ac;have v:w.drew.cell? ⟨vb,i,none⟩=some (.slice ad n cap):=cx;clear ac cx
 go_region_law (first
   |(go_simp;refine hc.mono ?_;rintro e W1 ⟨rfl,l⟩))
 all_goals
  dsimp only [Q6T];refine ⟨_,_,_,_,_,_,rfl,?_⟩;exact MJ (MP w) l
noncomputable def QbN:Code:=(GX (Tryz.f213.body.getD .skip)).getD 14 .skip
set_option maxHeartbeats 8000000 in
set_option maxRecDepth 100000 in
theorem Tryz.links_r14 (vb i c n cap:Nat) (ad:oP Addr) (a ae b be p q:Int) (w:World) (ac:w.heap[c]? = some (.cells #[.int .i64 a,.int .i64 ae,.int .i64 b,.int .i64 be,.int .i64 p,.int .i64 q] 193 (0,0))) (cx:w.cell? ⟨vb,i,none⟩=some (.slice ad n cap))
  (hc:Calls Tryz.prog 254 #[.agg #[.int .i64 a,.int .i64 ae,.int .i64 b,.int .i64 be,.int .i64 p,.int .i64 q],.slice ad n cap] w.drew fun e w'=>e = .returned (.bool true)/\Below w.drew.heap.size w.drew w') :
  Code.wp Tryz.prog QbN (Q6T fun act w'=>∃ (d f g h j k:Value) ,act=⟨(u0::u1::u2::u3::u4::.pointer (some ⟨c,0,none⟩)::u6::u7::u8::.pointer (some ⟨vb,i,none⟩)::u10::u11::u12::u13::u14::u15::u16::u17::u18::u19::u20::u21::u22::u23::u24::u25::u26::u27::u28::u29::u30::u31::u32::u33::u34::u35::u36::u37::u38::u39::u40::u41::u42::u43::u44::u45::u46::u47::u48::u49::.bool false::u51::u52::u53::u54::u55::u56::d::f::g::h::j::k::u63::u64::u65::u66::u67::u68::u69::u70::u71::u72::u73::u74::u75::u76::u77::u78::u79::[]).toArray,[]⟩/\Below w.heap.size w w') ⟨(u0::u1::u2::u3::u4::.pointer (some ⟨c,0,none⟩)::u6::u7::u8::.pointer (some ⟨vb,i,none⟩)::u10::u11::u12::u13::u14::u15::u16::u17::u18::u19::u20::u21::u22::u23::u24::u25::u26::u27::u28::u29::u30::u31::u32::u33::u34::u35::u36::u37::u38::u39::u40::u41::u42::u43::u44::u45::u46::u47::u48::u49::u50::u51::u52::u53::u54::u55::u56::u57::u58::u59::u60::u61::u62::u63::u64::u65::u66::u67::u68::u69::u70::u71::u72::u73::u74::u75::u76::u77::u78::u79::[]).toArray,[]⟩ w:=by
 conv=>arg 2;whnf
 have mixed:Tryz.prog.follows .mixedOrders=true:=by kernel_rfl
 obtain ⟨m,o,r,s,t,u⟩:=six (w:=w.drew) ac;have v:w.drew.cell? ⟨vb,i,none⟩=some (.slice ad n cap):=cx;clear ac cx
 go_region_law (first
   |(go_simp;refine hc.mono ?_;rintro e W1 ⟨rfl,l⟩))
 all_goals
  dsimp only [Q6T];refine ⟨_,_,_,_,_,_,rfl,?_⟩;exact MJ (MP w) l
noncomputable def Qbd:Code:=(GX (Tryz.f213.body.getD .skip)).getD 16 .skip
set_option maxHeartbeats 8000000 in
set_option maxRecDepth 100000 in
theorem Tryz.links_r16 (B vb N i c cap:Nat) (ad:oP Addr) (a ae b be p q:Int) (hd:List Value) (ll:List LL) (l:LL) (w:World) (a3:w.heap[c]? = some (.cells #[.int .i64 a,.int .i64 ae,.int .i64 b,.int .i64 be,.int .i64 p,.int .i64 q] 193 (0,0)))
  (hN:NestK 25 193 6 w B (.slice (some ⟨vb,0,none⟩) N N) hd ll) (hx:hd[i]? = some (.slice ad l.length cap)) (hl:ll[i]? = some l) (am:l.length<=1000) (hB:B<=w.heap.size) (an:c≠vb) (ao:(Value.slice ad l.length cap).ownBlock≠some c) :
  Code.wp Tryz.prog Qbd (Q6T fun act w'=>∃ (m n o r s t v x:Value) (xx:Value),act=⟨(u0::u1::u2::u3::u4::.pointer (some ⟨c,0,none⟩)::u6::u7::.pointer (some ⟨vb,i,none⟩)::u9::u10::u11::u12::u13::u14::u15::u16::u17::u18::u19::u20::u21::u22::u23::u24::u25::u26::u27::u28::u29::u30::u31::u32::u33::u34::u35::u36::u37::u38::u39::u40::u41::u42::u43::u44::u45::u46::u47::u48::u49::u50::u51::u52::u53::u54::u55::u56::u57::u58::u59::u60::u61::u62::m::n::o::r::s::t::v::x::u71::u72::u73::u74::u75::u76::u77::u78::u79::[]).toArray,[]⟩/\NestK 25 193 6 w' B (.slice (some ⟨vb,0,none⟩) N N) (hd.set i xx) (ll.set i (l++[[D.int .i64 a,.int .i64 ae,.int .i64 b,.int .i64 be,.int .i64 p,.int .i64 q]]))/\Grew w w' vb (.slice ad l.length cap) xx) ⟨(u0::u1::u2::u3::u4::.pointer (some ⟨c,0,none⟩)::u6::u7::.pointer (some ⟨vb,i,none⟩)::u9::u10::u11::u12::u13::u14::u15::u16::u17::u18::u19::u20::u21::u22::u23::u24::u25::u26::u27::u28::u29::u30::u31::u32::u33::u34::u35::u36::u37::u38::u39::u40::u41::u42::u43::u44::u45::u46::u47::u48::u49::u50::u51::u52::u53::u54::u55::u56::u57::u58::u59::u60::u61::u62::u63::u64::u65::u66::u67::u68::u69::u70::u71::u72::u73::u74::u75::u76::u77::u78::u79::[]).toArray,[]⟩ w:=by
 conv=>arg 2;whnf
 have mixed:Tryz.prog.follows .mixedOrders=true:=by kernel_rfl
 obtain ⟨y,hi,z⟩:=QqG.1 (show (Tryz.prog.info? 193).map (fun i=>(i.zero,i.size,i.bytes))=some (some (.agg #[.int .i64 0,.int .i64 0,.int .i64 0,.int .i64 0,.int .i64 0,.int .i64 0]),6,48) by kernel_rfl);obtain ⟨hz,f⟩:=Prod.mk.inj z;obtain ⟨f,aa⟩:=Prod.mk.inj f;have az:=(hN.row.lt vb rfl).2;have a6:=hN.each _ _ _ hx hl;have ab:w.cell? ⟨vb,i,none⟩=some (.slice ad l.length cap):=by
  have:=hN.row.cells (g:=vb) rfl i _ hx;rwa [HQ,QqO] at this
 have ax:(Value.slice ad l.length cap).ownBlock≠some vb:=fun e=>hN.outer _ _ _ hx e rfl
 obtain ⟨au,a2⟩:∃ au,w.drew.heap[vb]? = some (.cells au 25 (0,0)):=by
  rcases hN.row.2 with ⟨e,_⟩ | ⟨g,a8,au,e,_,hg,_⟩
  ·cases e
  ·cases e;exact ⟨au,hg⟩
 have q1:l.length+1<=maxLen:=by unfold maxLen;omega
 have q2:(l.length+1)*48<=140737488355328:=Q0
 have q3:∀ u∈[Value.int .i64 a,.int .i64 ae,.int .i64 b,.int .i64 be,.int .i64 p,.int .i64 q],u.oneCell'=true:=by simp [Value.oneCell']
 obtain ⟨y0,y1,y2,y3,y5,y6⟩:=six (w:=w.drew) a3;have y4:w.drew.cell? ⟨vb,i,none⟩=some (.slice ad l.length cap):=ab;have d:w.drew.grownBy (w.drew.alloc (.cells #[.int .i64 a,.int .i64 ae,.int .i64 b,.int .i64 be,.int .i64 p,.int .i64 q] 193)) none:=World.grownBy_alloc _ _ none;have aj:w.drew.ownsRow B 193 6 (.slice ad l.length cap) l.length (cellsOf l):=a6;have ak:(w.drew.alloc (.cells #[.int .i64 a,.int .i64 ae,.int .i64 b,.int .i64 be,.int .i64 p,.int .i64 q] 193)).ownsRow B 193 6 (.slice ad l.length cap) l.length (cellsOf l):=World.ownsRow.kept (w:=w.drew) aj d (Classical.em _);have al:∀ (j:Nat) (u:Value),[Value.int .i64 a,.int .i64 ae,.int .i64 b,.int .i64 be,.int .i64 p,.int .i64 q][j]? = some u->(w.drew.alloc (.cells #[.int .i64 a,.int .i64 ae,.int .i64 b,.int .i64 be,.int .i64 p,.int .i64 q] 193)).cell? ((⟨w.drew.heap.size,0,none⟩:Addr).add j)=some u:=World.news_of_block (heap_alloc_new _ _);have h:w.drew.heap.size<=(w.drew.alloc (.cells #[.int .i64 a,.int .i64 ae,.int .i64 b,.int .i64 be,.int .i64 p,.int .i64 q] 193)).heap.size:=d.size;have a4:B<=(w.drew.alloc (.cells #[.int .i64 a,.int .i64 ae,.int .i64 b,.int .i64 be,.int .i64 p,.int .i64 q] 193)).heap.size:=QqK hB h;have ac:vb<w.drew.heap.size:=az;have aw:=(d.block vb ac (fun e=>by cases e)).trans a2;have k:=d.cell_far ⟨vb,i,none⟩ ac (fun e=>by cases e);have k:=k.trans y4;have a7:(1:Nat)*6=6:=rfl
 go_region_law (first
   |(refine step_append_lies (w.drew.alloc (.cells #[.int .i64 a,.int .i64 ae,.int .i64 b,.int .i64 be,.int .i64 p,.int .i64 q] 193)) (by rfl) _ _ 25 (by rfl) B 193 y (.agg #[.int .i64 0,.int .i64 0,.int .i64 0,.int .i64 0,.int .i64 0,.int .i64 0]) 6 48 Tryz.underlying25 hi hz f aa (by rfl) Q1 _ l.length (cellsOf l) (by rfl) ak ⟨w.drew.heap.size,0,none⟩ 1 1 [Value.int .i64 a,.int .i64 ae,.int .i64 b,.int .i64 be,.int .i64 p,.int .i64 q] (by rfl) rfl al q3 Q1 q1 q2 a4 _ rfl ?_;intro g c2 W2 ay ar hat bc;
     have rx:=(ar.cell_far ⟨vb,i,none⟩ (Qqx ac h) (fun e=>ax e.symm)).trans k;
     have rf:=frozen_of_row W2 vb i au 25 ((ar.block vb (Qqx ac h) (fun e=>ax e.symm)).trans aw)))
 all_goals
  dsimp only [Q6T];have E:=Q4x (w:=w.drew) (row:=[D.int .i64 a,.int .i64 ae,.int .i64 b,.int .i64 be,.int .i64 p,.int .i64 q]) ⟨hN.row,hN.each,hN.outer,hN.apart⟩ hx hl rfl d ay ar hat;exact ⟨_,_,_,_,_,_,_,_,_,rfl,E.1,⟨E.2.own,E.2.os,E.2.tape,E.2.output,E.2.size,E.2.block⟩⟩
noncomputable def QbY:Code:=(GX (Tryz.f213.body.getD .skip)).getD 17 .skip
set_option maxHeartbeats 8000000 in
set_option maxRecDepth 100000 in
theorem Tryz.links_r17 (B vb N i c cap:Nat) (ad:oP Addr) (a ae b be p q:Int) (hd:List Value) (ll:List LL) (l:LL) (w:World) (a3:w.heap[c]? = some (.cells #[.int .i64 a,.int .i64 ae,.int .i64 b,.int .i64 be,.int .i64 p,.int .i64 q] 193 (0,0)))
  (hN:NestK 25 193 6 w B (.slice (some ⟨vb,0,none⟩) N N) hd ll) (hx:hd[i]? = some (.slice ad l.length cap)) (hl:ll[i]? = some l) (am:l.length<=1000) (hB:B<=w.heap.size) (an:c≠vb) (ao:(Value.slice ad l.length cap).ownBlock≠some c) :
  Code.wp Tryz.prog QbY (Q6T fun act w'=>∃ (m n o r s t v x:Value) (xx:Value),act=⟨(u0::u1::u2::u3::u4::.pointer (some ⟨c,0,none⟩)::u6::u7::u8::.pointer (some ⟨vb,i,none⟩)::u10::u11::u12::u13::u14::u15::u16::u17::u18::u19::u20::u21::u22::u23::u24::u25::u26::u27::u28::u29::u30::u31::u32::u33::u34::u35::u36::u37::u38::u39::u40::u41::u42::u43::u44::u45::u46::u47::u48::u49::u50::u51::u52::u53::u54::u55::u56::u57::u58::u59::u60::u61::u62::u63::u64::u65::u66::u67::u68::u69::u70::m::n::o::r::s::t::v::x::u79::[]).toArray,[]⟩/\NestK 25 193 6 w' B (.slice (some ⟨vb,0,none⟩) N N) (hd.set i xx) (ll.set i (l++[[D.int .i64 a,.int .i64 ae,.int .i64 b,.int .i64 be,.int .i64 p,.int .i64 q]]))/\Grew w w' vb (.slice ad l.length cap) xx) ⟨(u0::u1::u2::u3::u4::.pointer (some ⟨c,0,none⟩)::u6::u7::u8::.pointer (some ⟨vb,i,none⟩)::u10::u11::u12::u13::u14::u15::u16::u17::u18::u19::u20::u21::u22::u23::u24::u25::u26::u27::u28::u29::u30::u31::u32::u33::u34::u35::u36::u37::u38::u39::u40::u41::u42::u43::u44::u45::u46::u47::u48::u49::u50::u51::u52::u53::u54::u55::u56::u57::u58::u59::u60::u61::u62::u63::u64::u65::u66::u67::u68::u69::u70::u71::u72::u73::u74::u75::u76::u77::u78::u79::[]).toArray,[]⟩ w:=by
 conv=>arg 2;whnf
 have mixed:Tryz.prog.follows .mixedOrders=true:=by kernel_rfl
 obtain ⟨y,hi,z⟩:=QqG.1 (show (Tryz.prog.info? 193).map (fun i=>(i.zero,i.size,i.bytes))=some (some (.agg #[.int .i64 0,.int .i64 0,.int .i64 0,.int .i64 0,.int .i64 0,.int .i64 0]),6,48) by kernel_rfl);obtain ⟨hz,f⟩:=Prod.mk.inj z;obtain ⟨f,aa⟩:=Prod.mk.inj f;have az:=(hN.row.lt vb rfl).2;have a6:=hN.each _ _ _ hx hl;have ab:w.cell? ⟨vb,i,none⟩=some (.slice ad l.length cap):=by
  have:=hN.row.cells (g:=vb) rfl i _ hx;rwa [HQ,QqO] at this
 have ax:(Value.slice ad l.length cap).ownBlock≠some vb:=fun e=>hN.outer _ _ _ hx e rfl
 obtain ⟨au,a2⟩:∃ au,w.drew.heap[vb]? = some (.cells au 25 (0,0)):=by
  rcases hN.row.2 with ⟨e,_⟩ | ⟨g,a8,au,e,_,hg,_⟩
  ·cases e
  ·cases e;exact ⟨au,hg⟩
 have q1:l.length+1<=maxLen:=by unfold maxLen;omega
 have q2:(l.length+1)*48<=140737488355328:=Q0
 have q3:∀ u∈[Value.int .i64 a,.int .i64 ae,.int .i64 b,.int .i64 be,.int .i64 p,.int .i64 q],u.oneCell'=true:=by simp [Value.oneCell']
 obtain ⟨y0,y1,y2,y3,y5,y6⟩:=six (w:=w.drew) a3;have y4:w.drew.cell? ⟨vb,i,none⟩=some (.slice ad l.length cap):=ab;have d:w.drew.grownBy (w.drew.alloc (.cells #[.int .i64 a,.int .i64 ae,.int .i64 b,.int .i64 be,.int .i64 p,.int .i64 q] 193)) none:=World.grownBy_alloc _ _ none;have aj:w.drew.ownsRow B 193 6 (.slice ad l.length cap) l.length (cellsOf l):=a6;have ak:(w.drew.alloc (.cells #[.int .i64 a,.int .i64 ae,.int .i64 b,.int .i64 be,.int .i64 p,.int .i64 q] 193)).ownsRow B 193 6 (.slice ad l.length cap) l.length (cellsOf l):=World.ownsRow.kept (w:=w.drew) aj d (Classical.em _);have al:∀ (j:Nat) (u:Value),[Value.int .i64 a,.int .i64 ae,.int .i64 b,.int .i64 be,.int .i64 p,.int .i64 q][j]? = some u->(w.drew.alloc (.cells #[.int .i64 a,.int .i64 ae,.int .i64 b,.int .i64 be,.int .i64 p,.int .i64 q] 193)).cell? ((⟨w.drew.heap.size,0,none⟩:Addr).add j)=some u:=World.news_of_block (heap_alloc_new _ _);have h:w.drew.heap.size<=(w.drew.alloc (.cells #[.int .i64 a,.int .i64 ae,.int .i64 b,.int .i64 be,.int .i64 p,.int .i64 q] 193)).heap.size:=d.size;have a4:B<=(w.drew.alloc (.cells #[.int .i64 a,.int .i64 ae,.int .i64 b,.int .i64 be,.int .i64 p,.int .i64 q] 193)).heap.size:=QqK hB h;have ac:vb<w.drew.heap.size:=az;have aw:=(d.block vb ac (fun e=>by cases e)).trans a2;have k:=d.cell_far ⟨vb,i,none⟩ ac (fun e=>by cases e);have k:=k.trans y4;have a7:(1:Nat)*6=6:=rfl
 go_region_law (first
   |(refine step_append_lies (w.drew.alloc (.cells #[.int .i64 a,.int .i64 ae,.int .i64 b,.int .i64 be,.int .i64 p,.int .i64 q] 193)) (by rfl) _ _ 25 (by rfl) B 193 y (.agg #[.int .i64 0,.int .i64 0,.int .i64 0,.int .i64 0,.int .i64 0,.int .i64 0]) 6 48 Tryz.underlying25 hi hz f aa (by rfl) Q1 _ l.length (cellsOf l) (by rfl) ak ⟨w.drew.heap.size,0,none⟩ 1 1 [Value.int .i64 a,.int .i64 ae,.int .i64 b,.int .i64 be,.int .i64 p,.int .i64 q] (by rfl) rfl al q3 Q1 q1 q2 a4 _ rfl ?_;intro g c2 W2 ay ar hat bc;
     have rx:=(ar.cell_far ⟨vb,i,none⟩ (Qqx ac h) (fun e=>ax e.symm)).trans k;
     have rf:=frozen_of_row W2 vb i au 25 ((ar.block vb (Qqx ac h) (fun e=>ax e.symm)).trans aw)))
 all_goals
  dsimp only [Q6T];have E:=Q4x (w:=w.drew) (row:=[D.int .i64 a,.int .i64 ae,.int .i64 b,.int .i64 be,.int .i64 p,.int .i64 q]) ⟨hN.row,hN.each,hN.outer,hN.apart⟩ hx hl rfl d ay ar hat;exact ⟨_,_,_,_,_,_,_,_,_,rfl,E.1,⟨E.2.own,E.2.os,E.2.tape,E.2.output,E.2.size,E.2.block⟩⟩
end
theorem Q8b {N:Nat} {l0 l1 l2 c:LL} {a ae b be p q:Int} (h:YA N l0 l1 l2 c a ae b be p q some=some true) {S:Nat->Prop} {w:World} (hS:∀ b,S b->b<w.heap.size) {d f g i:Value}
  (j:Rd S w d (.sl 1 l0)) (k:Rd S w f (.sl 1 l1)) (h2:Rd S w g (.sl 5 l2)) (l:Rd S w i (.sl 6 c)) :
  Calls Tryz.prog 250 #[.agg #[d,f,g,i],.agg #[.int .i64 a,.int .i64 ae,.int .i64 b,.int .i64 be,.int .i64 p,.int .i64 q]] w fun e w'=>e = .returned (.bool true)/\RowKit.Below w.heap.size w w':=by
 have he:(Tk N).E Dl 0 true [.ag ([D.sl 1 l0,.sl 1 l1,.sl 5 l2,.sl 6 c].map .d),.ag ([D.int .i64 a,.int .i64 ae,.int .i64 b,.int .i64 be,.int .i64 p,.int .i64 q].map .d)] (fun _=>none) some=some ⟨.d (.bool true),[],[]⟩:=by
  show gb true (YA N l0 l1 l2 c a ae b be p q some) false (fun r=>(some ⟨.d (D.bool r),[],[]⟩:oP Dl))=_;rw [h];rfl
 exact SL (Yy ((Tk N).ok) he) hS (Ta (RdLs.agg (.cons j (.cons k (.cons h2 (.cons l .nil))))) (RdLs.agg (.cons (.int _ _) (.cons (.int _ _) (.cons (.int _ _) (.cons (.int _ _) (.cons (.int _ _) (.cons (.int _ _) .nil))))))))
theorem Q3q {N:Nat} {x:LL} {a ae b be:Int} (h:Kf N x a ae b be some=some false) {S:Nat->Prop} {w:World} (hS:∀ b,S b->b<w.heap.size) {v:Value} (hv:Rd S w v (.sl 6 x)) :
  Calls Tryz.prog 253 #[v,.agg #[.int .i64 a,.int .i64 ae],.agg #[.int .i64 b,.int .i64 be]] w fun e w'=>e = .returned (.bool false)/\RowKit.Below w.heap.size w w':=by
 have he:(NZ N).E Dl 0 true [.d (.sl 6 x),.ag ([D.int .i64 a,.int .i64 ae].map .d),.ag ([D.int .i64 b,.int .i64 be].map .d)] (fun _=>none) some=some ⟨.d (.bool false),[],[]⟩:=by
  show gb true (Kf N x a ae b be some) false (fun r=>(some ⟨.d (D.bool r),[],[]⟩:oP Dl))=_;rw [h];rfl
 exact SL (Yy ((NZ N).ok) he) hS (Qdx (.d _ _ hv) (RdLs.agg (.cons (.int _ _) (.cons (.int _ _) .nil))) (RdLs.agg (.cons (.int _ _) (.cons (.int _ _) .nil))))
theorem Q1w {N:Nat} {x:LL} {a ae b be p q:Int} (h:Gq N a ae b be p q x some=some true) {S:Nat->Prop} {w:World} (hS:∀ b,S b->b<w.heap.size) {v:Value} (hv:Rd S w v (.sl 6 x)) :
  Calls Tryz.prog 254 #[.agg #[.int .i64 a,.int .i64 ae,.int .i64 b,.int .i64 be,.int .i64 p,.int .i64 q],v] w fun e w'=>e = .returned (.bool true)/\RowKit.Below w.heap.size w w':=by
 have he:(Ey N).E Dl 0 true [.ag ([D.int .i64 a,.int .i64 ae,.int .i64 b,.int .i64 be,.int .i64 p,.int .i64 q].map .d),.d (.sl 6 x)] (fun _=>none) some=some ⟨.d (.bool true),[],[]⟩:=by
  show gb true (Gq N a ae b be p q x some) false (fun r=>(some ⟨.d (D.bool r),[],[]⟩:oP Dl))=_;rw [h];rfl
 exact SL (Yy ((Ey N).ok) he) hS (Ta (RdLs.agg (.cons (.int _ _) (.cons (.int _ _) (.cons (.int _ _) (.cons (.int _ _) (.cons (.int _ _) (.cons (.int _ _) .nil))))))) (.d _ _ hv))
theorem Q2x {N:Nat} {l0 l1 l2 d:LL} {st:List LL} {l:LL} {j:Nat} (hj:j<l.length) (h:Hr N l0 l1 l2 d st (l.drop j)=true) :
  ∃ a ae b be p q x y,l[j]? = some [D.int .i64 a,.int .i64 ae,.int .i64 b,.int .i64 be,.int .i64 p,.int .i64 q]/\((0<=a/\a<l2.length)/\(0<=ae/\ae<=1)/\(0<=b/\b<l2.length)/\(0<=be/\be<=1)) /\
   YA N l0 l1 l2 d a ae b be p q some=some true/\(2*a+ae).toNat≠(2*b+be).toNat/\st[(2*a+ae).toNat]? = some x/\st[(2*b+be).toNat]? = some y /\
   Kf N x a ae b be some=some false/\Gq N a ae b be p q x some=some true/\Gq N a ae b be p q y some=some true/\x.length<=1/\y.length<=1 /\
   Hr N l0 l1 l2 d ((st.set (2*a+ae).toNat (x++[[D.int .i64 a,.int .i64 ae,.int .i64 b,.int .i64 be,.int .i64 p,.int .i64 q]])).set (2*b+be).toNat (y++[[D.int .i64 a,.int .i64 ae,.int .i64 b,.int .i64 be,.int .i64 p,.int .i64 q]])) (l.drop (j+1))=true:=by
 rw [List.drop_eq_getElem_cons hj] at h;unfold Hr at h;split at h
 ·rename_i a ae b be p q e;simp only [Qqu,QqD,decide_eq_true_eq] at h;obtain ⟨⟨⟨g1,f⟩,g⟩,c⟩:=h;split at c
  ·rename_i x y hx hy;simp only [Qqu] at c;obtain ⟨⟨⟨⟨⟨k1,i⟩,k⟩,m⟩,n⟩,k6⟩:=c;refine ⟨a,ae,b,be,p,q,x,y,by rw [Qqr hj,e],?_,Mm f,?_,hx,hy,Qa1 k1,Mm i,Mm k,Qqw m,Qqw n,by rw [<- e];exact k6⟩
   ·obtain ⟨⟨⟨⟨⟨⟨⟨o,r⟩,s⟩,t⟩,u⟩,v⟩,z⟩,z8⟩:=g1;exact ⟨⟨o,r⟩,⟨s,t⟩,⟨u,v⟩,⟨z,z8⟩⟩
   ·exact Nat.ne_of_beq_eq_false g
  ·cases c
 ·cases h
theorem Q8m {w a:World} {B N vb:Nat} (h:a.ownsRow B 25 1 (.slice (some ⟨vb,0,none⟩) N N) N (List.replicate N (.slice none 0 0))):NestK 25 193 6 a B (.slice (some ⟨vb,0,none⟩) N N) (List.replicate N (.slice none 0 0)) (List.replicate N []):=by
 refine ⟨by simpa using h,fun i x l hx hl=>?_,fun i x b hx hb=>?_,fun i j x y b hx hy ac ak=>?_⟩
 ·have e1:=Qqo hx;have e2:=Qqo hl;obtain ⟨_,rfl⟩:=Qqz.1 e1;obtain ⟨_,rfl⟩:=Qqz.1 e2;exact World.ownsRow_nil a B 193 6
 ·obtain ⟨_,rfl⟩:=Qqz.1 (Qqo hx);cases hb
 ·obtain ⟨_,rfl⟩:=Qqz.1 (Qqo hx);cases ac
theorem Q9Z {w:World} {B i:Nat} {v:Value} {hd:List Value} {ll:List LL} {l:LL} (h:NestK 25 193 6 w B v hd ll) (hl:ll[i]? = some l):∃ (ad:oP Addr) (cap:Nat),hd[i]? = some (.slice ad l.length cap):=by
 have hi:i<hd.length:=by rw [h.len];exact (Qqq.1 hl).1
 have hx:=Qqr hi;rcases (h.each i hd[i] l hx hl).2 with ⟨e,a⟩ | ⟨g,cap,aj,e,_⟩
 ·exact ⟨none,0,by rw [hx,e,a]⟩
 ·exact ⟨some ⟨g,0,none⟩,cap,by rw [hx,e]⟩
theorem Q6m {w:World} {B i:Nat} {v x:Value} {hd:List Value} {ll:List LL} {l:LL} (h:NestK 25 193 6 w B v hd ll) (hx:hd[i]? = some x) (hl:ll[i]? = some l) (ac:∀ l∈ll,∀ r∈l,Ci 6 r=true) :
  (∀ b,x.ownBlock=some b->b<w.drew.heap.size)/\Rd (fun b=>x.ownBlock=some b) w.drew x (.sl 6 l):=
 ⟨fun b hb=>(h.blk hx hb).2,Rd.mono (w:=w) (w':=w.drew) (fun _ h=>h) (fun _ _=>rfl) (Qgv (w:=w) (h.each i x l hx hl) (ac l (Qqo hl)) (fun _ h=>h))⟩
theorem Al {w:World} {B vb N i:Nat} {x:Value} {hd:List Value} {ll:List LL} (h:NestK 25 193 6 w B (.slice (some ⟨vb,0,none⟩) N N) hd ll) (hx:hd[i]? = some x):w.cell? ⟨vb,i,none⟩=some x:=by
 have:=h.row.cells (g:=vb) rfl i _ hx;rwa [HQ,QqO] at this
theorem Q8O {ll:List LL} {i:Nat} {x:LL} {row:List D} (h:∀ l∈ll,∀ r∈l,Ci 6 r=true) (hx:ll[i]? = some x) (hr:Ci 6 row=true):∀ l∈ll.set i (x++[row]),∀ r∈l,Ci 6 r=true:=by
 intro l hl r ac;rcases List.mem_or_eq_of_mem_set hl with a | rfl
 ·exact h l a r ac
 ·rcases List.mem_append.1 ac with a | a
  ·exact h x (Qqo hx) r a
  ·simp at a;subst a;exact hr
theorem Q1f {w0 w w':World} {n vb:Nat} {x x':Value} (h:Below n w0 w) (hg:Grew w w' vb x x') (hn:n<=w.heap.size) (hv:n<=vb) (hx:∀ c,x.ownBlock=some c->n<=c):Below n w0 w':=
 ⟨hg.os.trans h.os,hg.tape.trans h.tape,hg.output.trans h.output,QqK h.size hg.size,fun k hk=>(hg.block k Q0 Q0 (fun e=>by have:=hx k e;omega)).trans (h.block k hk)⟩
theorem QaU {a ae b be:Int} (h:¬ (a=b/\ae=be)) (w:World):(binOp .eql 323 (.agg #[.int .i64 a,.int .i64 ae]) (.agg #[.int .i64 b,.int .i64 be])).run Tryz.prog w = .ok (.bool false) w:=by
 go_simp
 exact fun e1 e2=>h ⟨e1,e2⟩
set_option maxHeartbeats 16000000 in
set_option maxRecDepth 100000 in
theorem Tryz.links_calls {N:Nat} (S:Nat->Prop) (w:World) (hS:∀ b,S b->b<w.heap.size) (l0 l1 l2 d:LL) (v0 v1 v2 v3:Value) (h0:Rd S w v0 (.sl 1 l0)) (h1:Rd S w v1 (.sl 1 l1)) (h2:Rd S w v2 (.sl 5 l2)) (h3:Rd S w v3 (.sl 6 d))
  (m2:l2.length<=96) (m3:d.length<=192) (c6:Hr N l0 l1 l2 d (List.replicate (2*l2.length) []) d=true) :
  Calls Tryz.prog 213 #[.agg #[v0,v1,v2,v3]] w fun e w'=>e = .returned (.int .i64 0)/\Below w.heap.size w w':=by
 obtain ⟨s,t,rfl⟩:=HD h0;obtain ⟨u,v,rfl⟩:=HD h1;obtain ⟨m,n,rfl⟩:=HD h2;obtain ⟨z,o,rfl⟩:=HD h3;obtain ⟨i0,hi,cf⟩:=QqG.1 (show (Tryz.prog.info? 25).map (fun i=>(i.zero,i.size,i.bytes))=some (some (.slice none 0 0),1,24) by kernel_rfl);obtain ⟨hz,aj⟩:=Prod.mk.inj cf;obtain ⟨aj,cg⟩:=Prod.mk.inj aj;have di:∀ w:World,∃ w',(Instr.makeSlice 320 (.int .i64 (2*(l2.length:Int))) (.int .i64 (2*(l2.length:Int)))).run Tryz.prog w = .ok (.slice (some ⟨w.heap.size,0,none⟩) (2*l2.length) (2*l2.length)) w' /\
   w'.ownsRow w.heap.size 25 1 (.slice (some ⟨w.heap.size,0,none⟩) (2*l2.length) (2*l2.length)) (2*l2.length) (List.replicate (2*l2.length) (.slice none 0 0))/\w.grownBy w' none:=by
  intro w;obtain ⟨w',r1,r2,r3⟩:=run_make_full w w.heap.size 320 25 i0 (.slice none 0 0) 1 Tryz.underlying320 hi hz aj .i64 .i64 (2*l2.length) (by rw [cg];omega) (by unfold maxLen;omega) (Qqt _);refine ⟨w',by rw [<- r1];simp,?_,r3⟩;have e:(madeCells (Value.slice none 0 0).cells (2*l2.length*1)).toList=List.replicate (2*l2.length) (.slice none 0 0):=by
   apply List.ext_getElem
   ·simp [size_madeCells]
   ·intro i h1 h2;simp [madeCells,Value.cells,Nat.mod_one]
  rw [<- e];exact r2
 have f4:wrap64 (2*(l2.length:Int))=2*(l2.length:Int):=by unfold wrap64;omega
 have bk:(w.alloc (.cells #[.slice s l0.length t,.slice u l1.length v,.slice m l2.length n,.slice z d.length o] 27)).heap[w.heap.size]? = some (.cells #[.slice s l0.length t,.slice u l1.length v,.slice m l2.length n,.slice z d.length o] 27 (0,0)):=heap_alloc_new w _;have a6:Below w.heap.size w (w.alloc (.cells #[.slice s l0.length t,.slice u l1.length v,.slice m l2.length n,.slice z d.length o] 27)):=UH (Below.refl _ _) (Qqt _) _;have bd:(w.alloc (.cells #[.slice s l0.length t,.slice u l1.length v,.slice m l2.length n,.slice z d.length o] 27)).heap.size=w.heap.size+1:=by simp
 obtain ⟨w2,b5,bj,ao⟩:=di (w.alloc (.cells #[.slice s l0.length t,.slice u l1.length v,.slice m l2.length n,.slice z d.length o] 27));have a2:=(ao.block w.heap.size Q2 Q2).trans bk;have ay:Below w.heap.size w w2:=⟨ao.os.trans a6.os,ao.tape.trans a6.tape,ao.output.trans a6.output,QqK a6.size ao.size,fun b hb=>(ao.block b Q0 Q2).trans (a6.block b hb)⟩;have ef:=ao.size;rw [bd] at b5 bj ef;have cz:=Q8m (w:=w) bj;clear di ao bj;have y2:(w.alloc (.cells #[.slice s l0.length t,.slice u l1.length v,.slice m l2.length n,.slice z d.length o] 27)).cell? ⟨w.heap.size,2,none⟩=some (.slice m l2.length n):=by rw [Qqp bk];rfl
 have z3:w2.cell? ⟨w.heap.size,3,none⟩=some (.slice z d.length o):=by rw [Qqp a2];rfl
 go_enter Tryz.func213,Tryz.ntmps213
 go_wp2
 clear b5 bk y2 z3 a6 bd;generalize ej:w.heap.size=H0 at *
 go_loopw [18] (fun i wr=>∃ (j:Nat) (hd:List Value) (ll:List LL),j<=d.length/\i = .int .i64 j/\NestK 25 193 6 wr (H0+1) (.slice (some ⟨H0+1,0,none⟩) (2*l2.length) (2*l2.length)) hd ll/\ll.length=2*l2.length /\
   Hr N l0 l1 l2 d ll (d.drop j)=true/\(∀ l∈ll,∀ r∈l,Ci 6 r=true)/\wr.heap[H0]? = some (.cells #[.slice s l0.length t,.slice u l1.length v,.slice m l2.length n,.slice z d.length o] 27 (0,0))/\Below H0 w wr)
  (fun i _=>d.length-(intOf i).toNat)
 case atStart=>
  refine ⟨0,_,_,Nat.zero_le _,rfl,cz,by simp,by simpa using c6,fun l hl r hr=>?_,a2,ay⟩;obtain ⟨_,rfl⟩:=Qqz.1 hl;cases hr
 case round=>
  obtain ⟨j,hd,ll,hj,rfl,hN,cw,d6,a4,da,hF⟩:=hrel;clear cz c6 a2 ay;by_cases d4:j<d.length
  ·have fa:((j:Int)<(d.length:Int)):=Q0
   obtain ⟨a,ae,b,be,p,q,x,y,eh,⟨⟨cm,dk⟩,⟨cn,co⟩,⟨cp,dl⟩,⟨cq,cr⟩⟩,b2,b8,hx,hy,b9,cs,ct,fu,ge,cj⟩:=Q2x d4 d6;have d9:∀ c,c<H0->wr.heap[c]? = w.heap[c]?:=fun c hc=>hF.block c hc
   have gq:∀ c,S c->c<wr.heap.size:=fun c hc=>by have:=hS c hc;have:=hF.size;omega
   have bh:=Rd.keep (w':=wr) h3 hS d9;obtain ⟨a3,rfl,_,_,ak⟩:=Qau bh eh;obtain ⟨u0,x0,q0⟩:=ak 0 _ rfl;obtain ⟨u1,x1,q1⟩:=ak 1 _ rfl;obtain ⟨fw,x2,q2⟩:=ak 2 _ rfl;obtain ⟨gh,x3,q3⟩:=ak 3 _ rfl;obtain ⟨f7,x4,q4⟩:=ak 4 _ rfl;obtain ⟨f2,x5,q5⟩:=ak 5 _ rfl;rw [Nc q0,Nat.add_zero] at x0;rw [Nc q1,TH _ _ _ Q1] at x1;rw [Nc q2,TH _ _ _ Q1] at x2;rw [Nc q3,TH _ _ _ Q1] at x3;rw [Nc q4,TH _ _ _ Q1] at x4;rw [Nc q5,TH _ _ _ Q1] at x5;clear ak q0 q1 q2 q3 q4 q5 bh;have dq:H0+1<=wr.heap.size:=(QqH.1 da).1;have gm:H0+1<wr.heap.size:=(hN.row.lt (H0+1) rfl).2;obtain ⟨bm,bn,a8⟩:=Q9Z hN hx;obtain ⟨b3,b1,bq⟩:=Q9Z hN hy;have a5:∀ c,(Value.slice bm x.length bn).ownBlock=some c->H0+1<=c/\c<wr.heap.size:=fun c hc=>hN.blk a8 hc
   have bi:∀ c,(Value.slice b3 y.length b1).ownBlock=some c->H0+1<=c/\c<wr.heap.size:=fun c hc=>hN.blk bq hc
   have bo:wr.grownBy (wr.alloc (.cells #[.int .i64 a,.int .i64 ae,.int .i64 b,.int .i64 be,.int .i64 p,.int .i64 q] 193)) none:=World.grownBy_alloc wr _ none;have al:(wr.alloc (.cells #[.int .i64 a,.int .i64 ae,.int .i64 b,.int .i64 be,.int .i64 p,.int .i64 q] 193)).heap[wr.heap.size]? = some (.cells #[.int .i64 a,.int .i64 ae,.int .i64 b,.int .i64 be,.int .i64 p,.int .i64 q] 193 (0,0)):=heap_alloc_new wr _;have dp:=GU hN bo;have ck:=UH hF Q0 (.cells #[.int .i64 a,.int .i64 ae,.int .i64 b,.int .i64 be,.int .i64 p,.int .i64 q] 193);have aa:=(bo.block H0 Q0 Q2).trans da;have dr:(wr.alloc (.cells #[.int .i64 a,.int .i64 ae,.int .i64 b,.int .i64 be,.int .i64 p,.int .i64 q] 193)).heap.size=wr.heap.size+1:=by simp
   generalize ei:wr.alloc (.cells #[.int .i64 a,.int .i64 ae,.int .i64 b,.int .i64 be,.int .i64 p,.int .i64 q] 193)=W1 at *
   generalize ds:wr.heap.size=f at *
   have ab:∀ c,c<H0->W1.heap[c]? = w.heap[c]?:=fun c hc=>ck.block c hc
   have b6:∀ c,S c->c<W1.heap.size:=fun c hc=>by have:=hS c hc;omega
   have k0:=Rd.keep (w':=W1) h0 hS ab;have k1:=Rd.keep (w':=W1) h1 hS ab;have k2:=Rd.keep (w':=W1) h2 hS ab;have k3:=Rd.keep (w':=W1) h3 hS ab;have z0:W1.cell? ⟨H0,0,none⟩=some (.slice s l0.length t):=by rw [Qqp aa];rfl
   have z1:W1.cell? ⟨H0,1,none⟩=some (.slice u l1.length v):=by rw [Qqp aa];rfl
   have z2:W1.cell? ⟨H0,2,none⟩=some (.slice m l2.length n):=by rw [Qqp aa];rfl
   have z3:W1.cell? ⟨H0,3,none⟩=some (.slice (some a3) d.length o):=by rw [Qqp aa];rfl
   obtain ⟨c0,c1,c2,c3,c4,c5⟩:=six al
   go_wp2_with (go_at_call 250;refine (Q8b b2 b6 k0 k1 k2 k3).mono ?_)
   rintro e W2 ⟨rfl,ay⟩;have aq:=(ay.block f Q0).trans al;have br:=(ay.block H0 Q0).trans aa;have c8:=GU dp (WH ay);have d2:=VP ck Q0 ay;have dt:=ay.size;clear c0 c1 c2 c3 c4 c5 z0 z1 z2 z3 k0 k1 k2 k3 ab b6 al aa dp ck;obtain ⟨c0,c1,c2,c3,c4,c5⟩:=six aq
   go_wp2_with (go_at_call 251;refine (Tryz.ends_calls W2 a ae b be p q).mono ?_)
   rintro e W3 ⟨rfl,bc⟩
   go_wp2
   clear c0 c1 c2 c3 c4 c5;have du:=bc.size;have ac:W3.grownBy ((W3.alloc (.cells #[.int .i64 a,.int .i64 ae] 323)).alloc (.cells #[.int .i64 b,.int .i64 be] 323)) none:=⟨rfl,rfl,rfl,by simp;omega,fun k hk _=>by rw [QqC _ _ _ Q3,QqC _ _ _ hk]⟩;have cy:=UH (UH (VP d2 Q0 bc) Q0 (.cells #[.int .i64 a,.int .i64 ae] 323)) Q0 (.cells #[.int .i64 b,.int .i64 be] 323);have bt:=(ac.block f Q0 Q2).trans ((bc.block f Q0).trans aq);have bu:=(ac.block H0 Q0 Q2).trans ((bc.block H0 Q0).trans br);have c7:=GU (GU c8 (WH bc)) ac;have ad:((W3.alloc (.cells #[.int .i64 a,.int .i64 ae] 323)).alloc (.cells #[.int .i64 b,.int .i64 be] 323)).heap[W3.heap.size]? = some (.cells #[.int .i64 a,.int .i64 ae] 323 (0,0)):=by
    rw [QqC _ _ _ Q2];exact heap_alloc_new _ _
   have ag:((W3.alloc (.cells #[.int .i64 a,.int .i64 ae] 323)).alloc (.cells #[.int .i64 b,.int .i64 be] 323)).heap[W3.heap.size+1]? = some (.cells #[.int .i64 b,.int .i64 be] 323 (0,0)):=by
    have:=heap_alloc_new (W3.alloc (.cells #[.int .i64 a,.int .i64 ae] 323)) (.cells #[.int .i64 b,.int .i64 be] 323);simpa using this
   have dw:((W3.alloc (.cells #[.int .i64 a,.int .i64 ae] 323)).alloc (.cells #[.int .i64 b,.int .i64 be] 323)).heap.size=W3.heap.size+2:=by simp
   clear ac aq br c8 d2;generalize eb:(W3.alloc (.cells #[.int .i64 a,.int .i64 ae] 323)).alloc (.cells #[.int .i64 b,.int .i64 be] 323)=W4 at *
   generalize e1:W3.heap.size=g at *
   have fe:f<W2.heap.size:=Q0
   clear eb ei;have c0:W4.cell? ⟨g,0,none⟩=some (.int .i64 a):=by rw [Qqp ad];rfl
   have c1:W4.cell? ⟨g,1,none⟩=some (.int .i64 ae):=by rw [Qqp ad];rfl
   have d0:W4.cell? ⟨g+1,0,none⟩=some (.int .i64 b):=by rw [Qqp ag];rfl
   have d1:W4.cell? ⟨g+1,1,none⟩=some (.int .i64 be):=by rw [Qqp ag];rfl
   refine Code.wp_mono ?_ (Tryz.links_r8 (H0+1) (2*l2.length) g (g+1) a ae b be W4 c0 c1 d0 d1 cm Q0 cn co cp Q0 cq cr Q0 Q0);clear c0 c1 d0 d1;rintro e act W5 h;cases e with
   |normal=>
    obtain ⟨_,_,_,_,_,_,_,_,rfl,az⟩:=h;have fj:=az.size;have cu:=VP cy Q0 az;have bv:=(az.block f Q0).trans bt;have bx:=(az.block H0 Q0).trans bu;have bl:=GU c7 (WH az);have ar:=(az.block g Q0).trans ad;have au:=(az.block (g+1) Q0).trans ag;clear cy bt bu c7 ad ag az;have e4:=QaU (a:=a) (ae:=ae) (b:=b) (be:=be) (fun h=>b8 (by rw [h.1,h.2]));generalize ft:(2*a+ae).toNat=ia at *
    generalize f9:(2*b+be).toNat=ib at *
    have c0:W5.cell? ⟨g,0,none⟩=some (.int .i64 a):=by rw [Qqp ar];rfl
    have c1:W5.cell? ⟨g,1,none⟩=some (.int .i64 ae):=by rw [Qqp ar];rfl
    have d0:W5.cell? ⟨g+1,0,none⟩=some (.int .i64 b):=by rw [Qqp au];rfl
    have d1:W5.cell? ⟨g+1,1,none⟩=some (.int .i64 be):=by rw [Qqp au];rfl
    dsimp only [Exit.then]
    go_wp2
    have jx:=Q6m bl a8 hx a4;have an:=Al bl a8;refine Code.wp_mono ?_ (Tryz.links_r11 (H0+1) ia g (g+1) x.length bn bm a ae b be W5 c0 c1 d0 d1 an (Q3q b9 jx.1 jx.2));clear c0 c1 d0 d1 jx an;rintro e act W6 h;cases e with
    |normal=>
     obtain ⟨_,_,_,_,_,_,rfl,a7⟩:=h;have dx:=a7.size;have dj:=VP cu Q0 a7;have av:=(a7.block f Q0).trans bv;have bz:=(a7.block H0 Q0).trans bx;have bp:=GU bl (WH a7);clear cu bv bx bl ar au a7;dsimp only [Exit.then]
     go_wp2
     have jx:=Q6m bp a8 hx a4;have an:=Al bp a8;refine Code.wp_mono ?_ (Tryz.links_r13 (H0+1) ia f x.length bn bm a ae b be p q W6 av an (Q1w cs jx.1 jx.2));clear jx an;rintro e act W7 h;cases e with
     |normal=>
      obtain ⟨_,_,_,_,_,_,rfl,ba⟩:=h;have dy:=ba.size;have cx:=VP dj Q0 ba;have aw:=(ba.block f Q0).trans av;have ca:=(ba.block H0 Q0).trans bz;have b0:=GU bp (WH ba);clear dj av bz bp ba;dsimp only [Exit.then]
      go_wp2
      have jx:=Q6m b0 bq hy a4;have an:=Al b0 bq;refine Code.wp_mono ?_ (Tryz.links_r14 (H0+1) ib f y.length b1 b3 a ae b be p q W7 aw an (Q1w ct jx.1 jx.2));clear jx an;rintro e act W8 h;cases e with
      |normal=>
       obtain ⟨_,_,_,_,_,_,rfl,a9⟩:=h;have dz:=a9.size;have c9:=VP cx Q0 a9;have ax:=(a9.block f Q0).trans aw;have cb:=(a9.block H0 Q0).trans ca;have dn:=GU b0 (WH a9);clear cx aw ca b0 a9;dsimp only [Exit.then]
       go_wp2
       refine Code.wp_mono ?_ (Tryz.links_r16 (H0+1) (H0+1) (2*l2.length) ia f bn bm a ae b be p q hd ll x W8 ax dn a8 hx Q0 Q0 Q0 (fun e=>by have:=(a5 f e).2;omega));rintro e act W9 h;cases e with
       |normal=>
        obtain ⟨_,_,_,_,_,_,_,_,xx,rfl,eo,bg⟩:=h;have ea:=bg.size;have ek:=Q1f c9 bg Q0 Q0 (fun c hc=>by have:=(a5 c hc).1;omega);have de:=(bg.block f Q0 Q0 (fun e=>by have:=(a5 f e).2;omega)).trans ax;have df:=(bg.block H0 Q0 Q0 (fun e=>by have:=(a5 H0 e).1;omega)).trans cb;clear c9 ax cb dn bg;have dg:(hd.set ia xx)[ib]? = some (.slice b3 y.length b1):=by rw [QqP,if_neg b8];exact bq
        have cc:(ll.set ia (x++[[D.int .i64 a,.int .i64 ae,.int .i64 b,.int .i64 be,.int .i64 p,.int .i64 q]]))[ib]? = some y:=by rw [QqP,if_neg b8];exact hy
        dsimp only [Exit.then]
        go_wp2
        refine Code.wp_mono ?_ (Tryz.links_r17 (H0+1) (H0+1) (2*l2.length) ib f b1 b3 a ae b be p q _ _ y W9 de eo dg cc Q0 Q0 Q0 (fun e=>by have:=(bi f e).2;omega));rintro e act W10 h;cases e with
        |normal=>
         obtain ⟨_,_,_,_,_,_,_,_,yy,rfl,dc,b7⟩:=h;have dd:=Q1f ek b7 Q0 Q0 (fun c hc=>by have:=(bi c hc).1;omega);have dh:=(b7.block H0 Q0 Q0 (fun e=>by have:=(bi H0 e).1;omega)).trans df;have b4:=Q8O (Q8O a4 hx (by rfl)) cc (row:=[D.int .i64 a,.int .i64 ae,.int .i64 b,.int .i64 be,.int .i64 p,.int .i64 q]) (by rfl)
         go_wp2
         refine ⟨⟨j+1,_,_,Q0,by rw [Int.natCast_add];rfl,dc,by simpa using cw,cj,b4,dh,dd⟩,?_⟩;simp only [intOf];omega
        |_=>exact h.elim
       |_=>exact h.elim
      |_=>exact h.elim
     |_=>exact h.elim
    |_=>exact h.elim
   |_=>exact h.elim
  ·go_wp2
   refine bodyPost_ret (results_tmp rfl _ _ _) rfl ?_;rw [<- ej] at hF;exact ⟨rfl,hF⟩
theorem Qja {S:Nat->Prop} {w:World} {xs:List D}:∀ {vs:List Value},vs.length=xs.length->(∀ (i:Nat) (v:Value) (x:D),vs[i]? = some v->xs[i]? = some x->Rd S w v x)->RdLs S w vs xs:=by
 induction xs with
 |nil=>intro vs h _;have:vs=[]:=List.eq_nil_of_length_eq_zero h;subst this;exact .nil
 |cons x xs ih=>
  intro vs h hr
  match vs,h with
  |v::vs,h=>exact .cons (hr 0 v x rfl rfl) (ih (by simpa using h) fun i u y a h2=>hr (i+1) u y (by simpa using a) (by simpa using h2))
theorem Q5e {β:Nat->oP Nat} {S:Nat->Prop} {h:Nat->oP Ob} {w:World} {tm:Nat->Value} {v:Value} {xs:List D} (hv:RdA β S h w tm v (.ag (xs.map .d))):∃ vs:List Value,v = .agg vs.toArray/\RdLs S w vs xs:=by
 cases hv with
 |ag cs l hl hr=>
  obtain ⟨vs⟩:=cs;refine ⟨vs,rfl,Qja (by simpa using hl) fun i u x a h2=>?_⟩;have:=hr i (.d x) (by simp [h2]);simp [Array.getD,(Qqq.1 a).1] at this;rw [(Qqq.1 a).2] at this;cases this with
  |d _ _ q=>exact q
  |dang _ _ _ hl=>cases hl
 |dang v av l hl=>cases hl
theorem Qbm {β:Nat->oP Nat} {S:Nat->Prop} {h:Nat->oP Ob} {w:World} {args:List Value} {a:AV} (hA:ArgsRd β S h w args [a]):∃ v,args=[v]/\RdA β S h w tm0 v a:=Q8h hA
theorem Qbs {β:Nat->oP Nat} {S:Nat->Prop} {h:Nat->oP Ob} {w:World} {args:List Value} {a b:AV} (hA:ArgsRd β S h w args [a,b]):∃ v u,args=[v,u]/\RdA β S h w tm0 v a/\RdA β S h w tm0 u b:=by
 obtain ⟨c,h2⟩:=hA
 match args,c with
 |[v,u],_=>exact ⟨v,u,rfl,h2 0 v a rfl rfl,h2 1 u b rfl rfl⟩
theorem Q30 (n:Nat) (l0 l1 l2 a:LL) (res:Int) {hl:Nat->oP Ob} (h:ZP n l0 l1 l2 a some=some res):Wp Tryz.prog 158 [.ag [.d (D.sl 1 l0),.d (D.sl 1 l1),.d (D.sl 5 l2),.d (D.sl 6 a)]] hl ⟨.d (D.int .i64 res),[],[]⟩:=by
 obtain ⟨aj,h⟩:=Y3 h;injection h with h
 subst h;refine LG (fn:=Tryz.f158) (by kernel_rfl) (by kernel_rfl) (by kernel_rfl) rfl rfl fun S w args hS hA=>?_
 obtain ⟨v,rfl,hv⟩:=Qbm hA;obtain ⟨vs,rfl,hr⟩:=Q5e (xs:=[D.sl 1 l0,.sl 1 l1,.sl 5 l2,.sl 6 a]) hv;cases hr with
 |cons c t=>
  cases t with
  |cons d t=>
   cases t with
   |cons h2 t=>
    cases t with
    |cons f t=>
     cases t;have ac:=aj;simp only [Pb,Qqu,QqD] at ac;obtain ⟨⟨⟨⟨⟨⟨⟨⟨l,m⟩,g⟩,i⟩,o⟩,p⟩,q⟩,ns⟩,nl⟩:=ac;refine (Tryz.layout_calls S w hS l0 l1 l2 a _ _ _ _ c d h2 f aj fun w' ak k0 k1 j k=>Tryz.links_calls S w' ak l0 l1 l2 a _ _ _ _ k0 k1 j k (Qqw g) (Qqw i) nl).mono fun e w' ⟨he,hB⟩=>?_
     exact ⟨_,S,he,fun b h=>h,fun b h=>.inl h,fun b h=>Qqx (hS b h) hB.size,.d _ _ (.int _ _),hB⟩
end Go.Vx
namespace Go.Proofs
open Go.RowKit
theorem Q0K {P:Program} {w:World} (a:Addr) (m:Mode) (f:Fn) (x y:Array Value):(store a (.func f x y) m).run P w=stored P w a (.func f x y) m:=run_store P w a _ m rfl
attribute [local go_sem] Q0K
def Hp (r:Nat->Int):Nat->Nat->Int
 |0,_=>0
 |n+1,k=>if r k=0 then Hp r n (k+1) else r k
theorem Rc (r:Nat->Int):∀ (n k m:Nat),(∀ j,k<=j->j<k+m->r j=0)->Hp r (m+n) k=Hp r n (k+m)
 |n,k,0,_=>by simp
 |n,k,m+1,h=>by
  rw [show m+1+n=(m+n)+1 by omega];simp only [Hp];rw [if_pos (h k (Qqt _) Q0),Rc r n (k+1) m (fun j a h2=>h j Q0 Q0)];rw [show k+1+m=k+(m+1) by omega]
theorem Below.of {n:Nat} {w w':World} (a:w'.os=w.os) (h2:w'.tape=w.tape) (c:w'.output=w.output) (d:w.heap.size<=w'.heap.size) (e:∀ b,b<n->w'.heap[b]? = w.heap[b]?):Below n w w':=by
 exact ⟨a,h2,c,d,e⟩
set_option maxHeartbeats 4000000 in
set_option maxRecDepth 100000 in
theorem Tryz.plancheck_calls (w:World) (a0 a1 a2 d p0 p1 g l m n o p:Value) (r:Nat->Int)
  (h:∀ k:Nat,k<8->∀ w':World,w.heap.size<=w'.heap.size->(∀ b,b<w.heap.size->w'.heap[b]? = w.heap[b]?) ->
   Calls Tryz.prog (109+k) #[.agg #[a0,a1,a2,d],.agg #[p0,p1,g,l,m,n,o,p]] w' fun e aw=>e = .returned (.int .i64 (r k))/\Below w'.heap.size w' aw)
  (c:∀ x∈[a0,a1,a2,d,p0,p1,g,l,m,n,o,p],x.oneCell'=true) :
  Calls Tryz.prog 73 #[.agg #[a0,a1,a2,d],.agg #[p0,p1,g,l,m,n,o,p]] w fun e w'=>e = .returned (.int .i64 (Hp r 8 0))/\Below w.heap.size w w':=by
 go_enter Tryz.func73,Tryz.ntmps73
 go_wp2
 go_loopw [11] (fun i wr=>∃ k:Nat,k<=8/\i = .int .i64 k/\(∀ j,j<k->r j=0)/\wr.heap[w.heap.size]? = some (.cells #[a0,a1,a2,d] 27 (0,0))/\wr.heap[w.heap.size+1]? = some (.cells #[p0,p1,g,l,m,n,o,p] 36 (0,0))/\Below w.heap.size w wr)
  (fun i _=>8-(intOf i).toNat)
 case atStart=>
  refine ⟨0,Q0,rfl,fun j hj=>absurd hj Q0,?_,?_,?_⟩
  ·rw [QqC _ _ _ Q3,QqC _ _ _ Q2];exact heap_alloc_new w _
  ·rw [QqC _ _ _ Q2,show w.heap.size+1=(w.alloc (.cells #[a0,a1,a2,d] 27)).heap.size by simp];exact heap_alloc_new _ _
  ·refine Below.of rfl rfl rfl Q3 fun b hb=>?_
   rw [QqC _ _ _ Q3,QqC _ _ _ Q3,QqC _ _ _ hb]
 case round=>
  obtain ⟨k,hk,rfl,hz,f,a,hB⟩:=hrel;by_cases ao:k<8
  ·have ay:((k:Int)<8):=Q0
   have c0:wr.cell? ⟨w.heap.size,0,none⟩=some a0:=by rw [Qqp f];rfl
   have c1:wr.cell? ⟨w.heap.size,1,none⟩=some a1:=by rw [Qqp f];rfl
   have s:wr.cell? ⟨w.heap.size,2,none⟩=some a2:=by rw [Qqp f];rfl
   have t:wr.cell? ⟨w.heap.size,3,none⟩=some d:=by rw [Qqp f];rfl
   have d0:wr.cell? ⟨w.heap.size+1,0,none⟩=some p0:=by rw [Qqp a];rfl
   have d1:wr.cell? ⟨w.heap.size+1,1,none⟩=some p1:=by rw [Qqp a];rfl
   have u:wr.cell? ⟨w.heap.size+1,2,none⟩=some g:=by rw [Qqp a];rfl
   have v:wr.cell? ⟨w.heap.size+1,3,none⟩=some l:=by rw [Qqp a];rfl
   have y:wr.cell? ⟨w.heap.size+1,4,none⟩=some m:=by rw [Qqp a];rfl
   have z:wr.cell? ⟨w.heap.size+1,5,none⟩=some n:=by rw [Qqp a];rfl
   have d6:wr.cell? ⟨w.heap.size+1,6,none⟩=some o:=by rw [Qqp a];rfl
   have d7:wr.cell? ⟨w.heap.size+1,7,none⟩=some p:=by rw [Qqp a];rfl
   have hw:wrap64 ((k:Int)+1)=((k+1:Nat):Int):=by unfold wrap64;omega
   have ax:∀ w:World,(Instr.index 218 (.agg #[.func (.func 109) #[] #[],.func (.func 110) #[] #[],.func (.func 111) #[] #[],.func (.func 112) #[] #[],.func (.func 113) #[] #[],.func (.func 114) #[] #[],.func (.func 115) #[] #[],.func (.func 116) #[] #[]]) (.int .i64 k)).run Tryz.prog w = .ok (.func (.func (109+k)) #[] #[]) w:=by
    intro w;obtain rfl | rfl | rfl | rfl | rfl | rfl | rfl | rfl:k=0\/k=1\/k=2\/k=3\/k=4\/k=5\/k=6\/k=7:=Q0
    all_goals rfl
   have az:∀ (w:World) (ar:Array Value),(callFunc (109+k) ar).run Tryz.prog w = .ok (.enter (109+k) ar) w:=by
    intro w ar;obtain rfl | rfl | rfl | rfl | rfl | rfl | rfl | rfl:k=0\/k=1\/k=2\/k=3\/k=4\/k=5\/k=6\/k=7:=Q0
    all_goals rfl
   have hc:=h k ao wr hB.size hB.block;clear hw
   go_wp2
   refine hc.mono ?_;rintro e q ⟨rfl,ac⟩;have an:Below w.heap.size w q:=hB.trans ⟨ac.os,ac.tape,ac.output,ac.size,fun b hb=>ac.block b (Qqx hb hB.size)⟩;have l0:=(QqH.1 f).1;have l1:=(QqH.1 a).1;by_cases hr:r k=0
   ·rw [hr]
    go_wp2
    go_roundw
    case rel=>
     refine ⟨k+1,Q0,rfl,fun j hj=>?_,(ac.block _ l0).trans f,(ac.block _ l1).trans a,an⟩;by_cases e:j=k
     ·rw [e];exact hr
     ·exact hz j Q0
    case measure=>simp [intOf];omega
   ·have aj:Hp r 8 0=r k:=by
     have e:=Rc r (8-k) 0 k fun j _ h2=>hz j Q0
     rw [show k+(8-k)=8 by omega] at e;rw [e,show 8-k=(7-k)+1 by omega,QqO];simp [Hp,hr]
    go_wp2
    refine bodyPost_ret (results_tmp rfl _ _ _) rfl ?_;exact ⟨by rw [aj];rfl,an⟩
  ·have aj:Hp r 8 0=0:=by
    have e:=Rc r 0 0 8 fun j _ h2=>hz j Q0
    exact e
   go_wp2
   refine bodyPost_ret (results_tmp rfl _ _ _) rfl ?_;exact ⟨by rw [aj];rfl,hB⟩
end Go.Proofs
namespace Go.Vx
open Go.Proofs
variable (n:Nat)
def JZ (n:Nat):Sf:=fun _ _ g ac _ k=>match ac with
 | [c0]=>
  prG c0 fun l0=>(match l0 with
  | [a,b,c,d]=>prS g 1 a fun e=>prS g 1 b fun f=>prS g 5 c fun h=>prS g 6 d fun i=>
  gb g (ZP n e f h i some) 0 fun r=>k ⟨.d (D.int .i64 r),[],[]⟩
  | _=>none)
 | _=>none
theorem P8 (n:Nat):J9 Tryz.prog 158 (JZ n):=by
  intro R aj g ak hl k r h
  unfold JZ at h
  split at h
  rotate_left
  · cases h
  replace h:=Q2C h
  obtain ⟨l0,h,e⟩:=h
  subst e
  split at h
  rotate_left
  · cases h
  replace h:=UO h
  obtain ⟨a,h,f⟩:=h
  replace h:=UO h
  obtain ⟨b,h,i⟩:=h
  replace h:=UO h
  obtain ⟨c,h,j⟩:=h
  replace h:=UO h
  obtain ⟨d,h,l⟩:=h
  replace h:=X6 h
  obtain ⟨res,h,hr⟩:=h
  exact ⟨_,h,fun hg=>Wp.conv (avs':=[.ag [.d (D.sl 1 a),.d (D.sl 1 b),.d (D.sl 5 c),.d (D.sl 6 d)]]) (.cons (.ag (.cons (f hg) (.cons (i hg) (.cons (j hg) (.cons (l hg) .nil))))) .nil) (Q30 n a b c d res (hr hg))⟩
end Go.Vx
set_option maxRecDepth 100000
namespace Go.Vx
open Go.Proofs
variable (n:Nat)
def PR:BZ9:=Xa [⟨158,⟨JZ n,P8 n⟩⟩] []
def FL:LZ9:=mkU (PR n).ok nT 12 Tryz.f109 [QlB,(41,.l 4),(42,tI),(43,tI)] [Qmp] 22 [.f .ret [(4,.ci .i64 7)] [] [],xE 1 [(44,.b)]] @Wa n
def Sq:EZ9 109:=mkD (PR n).ok [FL n n] 109 Tryz.f109 0 @Vk n
def Km:BZ9:=Xa [⟨158,⟨JZ n,P8 n⟩⟩,⟨255,Q0L n⟩,⟨256,Er n⟩] [(24,⟨[],[],[(11,1011,3,1)],[],[]⟩)]
def Ac:LZ9:=mkU (Km n).ok nT 10 Tryz.f217 [QlA,QlB,(40,.l 2),(41,tI),(42,tI)] QnT 1102 [.f .ret [(4,.nil),(5,.ci .i64 4)] [] [],xE 1 [(43,.b)]] @Uj n
def AT:LZ9:=mkU (Km n).ok nT 17 Tryz.f217 [QlA,QlB,(8,.arr 54),(56,.l 2),(57,tI),(58,tI)] [Qm9,QnU,(54,.arr 4 1)] 39388 [.f .ret [(4,.nil),(5,.ci .i64 5)] [] [],xE 3 [(59,.b)]] @GS n
def Ag:LZ9:=mkU (Km n).ok nT 25 Tryz.f217 [QlA,QlB,(11,.arr 1011),(74,.l 2),(75,tI),(76,tI)] [Qm9,QnU,(1011,.arr 3 1)] 42655 [.f .ret [(4,.nil),(5,.ci .i64 11)] [] [],xE 5 [(77,.b)]] @U8 n
def Q0B:EZ9 217:=mkD (Km n).ok [Ac n n,AT n n,Ag n n] 217 Tryz.f217 0 @HP n
def FD:EZ9 163:=mkD (Xa [⟨217,Q0B n⟩] []).ok nT 163 Tryz.f163 0 @Pn n
def Pm:BZ9:=Xa [⟨163,FD n⟩] []
def F6:LZ9:=mkU (Pm n).ok nT 2 Tryz.f111 [QlA,(9,.l 2),QlY,Qlg] [Qm9] 1102 [.f .ret [(4,tI)] [] [0],xE 0 [(12,.b)]] @Zn n
def PL:EZ9 111:=mkD (Pm n).ok [F6 n n] 111 Tryz.f111 0 @Ux n
end Go.Vx
namespace Go.Vx
open Go.Proofs Go.RowKit
section
variable {P:Program}
theorem Q1M (w:World) (dT sT ty ac:TypeId) (g o aj ao k:Nat) (a:Addr) (an ar:Nat) (ak:Array Value) (t:TypeId) (cs:List Value)
  (hu:P.underlying dT=some (.slice ac)) (hs:(P.info? ac).map (·.size)=some k)
  (hg:w.heap[g]? = some (.cells ak t (0,0))) (hn:cs.length=Nat.min an aj*k)
  (au:∀ j v,cs[j]? = some v->w.cell? (a.add j)=some v) (aq:o+cs.length<=ak.size) (b:∀ v∈cs,v.oneCell'=true) :
  (Builtin.copy_ #[dT,sT] ty #[.slice (some ⟨g,o,none⟩) aj ao,.slice (some a) an ar]).run P w =
   .ok (goInt (Nat.min an aj)) (w.setRow g (ak.toList.take o++cs++ak.toList.drop (o+cs.length)).toArray):=by
 have hl:=run_loadCells_list (P:=P) w a cs au;have aw:=run_storeCells_at P g o t cs 0 ak w hg (by simpa using aq) b;cases hq:P.info? ac with
 |none=>simp [hq] at hs
 |some i=>
  have hi:i.size=k:=by simpa [hq] using hs
  simp [Builtin.copy_,run_underlying hu,Builtin.lenOf,Builtin.firstCells,sizeOf,typeInfo,hq,hi,<- hn,hl,aw]
theorem Q4E (w:World) (dT sT ty ac:TypeId) (g o aj ao k:Nat) (a:Addr) (ak aq:Nat) (an:Array Value) (t:TypeId) (cs:List Value) (m:Nat)
  (hu:P.underlying dT=some (.slice ac)) (hs:(P.info? ac).map (·.size)=some k)
  (hg:w.heap[g]? = some (.cells an t (0,0))) (hm:Nat.min ak aj=m) (hn:cs.length=m*k)
  (au:∀ j v,cs[j]? = some v->w.cell? (a.add j)=some v) (ar:o+cs.length<=an.size) (c:∀ v∈cs,v.oneCell'=true) :
  ∃ w',(Builtin.copy_ #[dT,sT] ty #[.slice (some ⟨g,o,none⟩) aj ao,.slice (some a) ak aq]).run P w = .ok (.int .i64 (m:Int)) w' /\
   w'.heap[g]? = some (.cells (splice an.toList o cs).toArray t (0,0))/\(∀ n,n<=g->∀ w0:World,Below n w0 w->Below n w0 w'):=by
 subst hm;refine ⟨_,Q1M w dT sT ty ac g o aj ao k a ak aq an t cs hu hs hg hn au ar c,by simpa [splice] using setRow_heap w g _ _ t _ hg,fun n hn w0 h=>⟨h.os,h.tape,h.output,by simpa [World.setRow] using h.size,fun b hb=>(setRow_other w g b _ Q0).trans (h.block b hb)⟩⟩
theorem Q0m {w:World} {ar:Array Oper} {o:Oper} {a:Act} {K:Act->World->Prop} {Q:Exit->Act->World->Prop} {E:Prop} (ay:o.guard=none) (d s:Operand) (dT sT:TypeId)
  (ho:o.op = .call { callee:=.builtin .copy,args:=#[d,s],argTypes:=#[dT,sT] }) (ac:TypeId) (k:Nat) (hu:P.underlying dT=some (.slice ac)) (az:(P.info? ac).map (·.size)=some k)
  (g off aj ao:Nat) (ad:Addr) (ak aq:Nat) (hd:a.eval d = .slice (some ⟨g,off,none⟩) aj ao) (hs:a.eval s = .slice (some ad) ak aq)
  (an:Array Value) (t:TypeId) (hg:w.heap[g]? = some (.cells an t (0,0))) (cs:List Value) (m:Nat) (hm:Nat.min ak aj=m) (hn:cs.length=m*k)
  (ax:∀ j v,cs[j]? = some v->w.cell? (ad.add j)=some v) (au:off+cs.length<=an.size) (b:∀ v∈cs,v.oneCell'=true)
  (h:∀ w',w'.heap[g]? = some (.cells (splice an.toList off cs).toArray t (0,0))->(∀ n,n<=g->∀ w0:World,Below n w0 w->Below n w0 w')->K (a.put o.dst (.int .i64 (m:Int))) w') :
  if Region.wanted o (yielded ar a.tmps)=true then Oper.wp P o a w K Q else E:=by
 have hw:Region.wanted o (yielded ar a.tmps)=true:=by simp [Region.wanted,ay]
 rw [if_pos hw];obtain ⟨w',aw,h2,c⟩:=Q4E (P:=P) w dT sT o.type ac g off aj ao k ad ak aq an t cs m hu az hg hm hn ax au b;unfold Oper.wp;simp [execOp,ho,resolve,invoke,builtin,hd,hs,aw,Result.andThen];exact h w' h2 c
end
def Lg (a b:Value):Nat->List Value
 |0=>[]
 |m+1=>a::b::Lg a b m
theorem Vi (a b:Value):∀ m,(Lg a b m).length=m*2
 |0=>rfl
 |m+1=>by simp [Lg,Vi a b m];omega
theorem Q23 (a b:Value) (k:Nat):∀ m,Lg a b (m+k)=Lg a b m++Lg a b k
 |0=>by simp [Lg]
 |m+1=>by rw [show m+1+k=(m+k)+1 by omega];simp [Lg,Q23 a b k m]
theorem Q9S (a b:Value) {m k:Nat} (h:m<=k):(Lg a b k).take (m*2)=Lg a b m:=by
 obtain ⟨d,rfl⟩:=Nat.exists_eq_add_of_le h;rw [Q23,List.take_append_of_le_length (by rw [Vi];omega),QqF (by rw [Vi];omega)]
theorem Q1S {a b:Value}:∀ {m:Nat} {v:Value},v∈Lg a b m->v=a\/v=b
 |m+1,v,h=>by
  simp only [Lg,List.mem_cons] at h;rcases h with h | h | h
  ·exact .inl h
  ·exact .inr h
  ·exact Q1S h
theorem Qaq (a b:Value):∀ (m i:Nat),i<m->(Lg a b m)[i*2]? = some a/\(Lg a b m)[i*2+1]? = some b
 |m+1,0,h=>by simp [Lg]
 |m+1,i+1,h=>by
  have:=Qaq a b m i Q0;rw [show (i+1)*2=i*2+1+1 by omega];simpa [Lg] using this
theorem mul_one (c:Nat) (hc:c<=100000):TV 0 1 (c:Int) (fun a b=>some (a,b))=some (0,(c:Int)):=by
 have d:shR .u64 1 (32:Int)=0:=by decide
 have h2:shR .u64 (c:Int) (32:Int)=0:=by
  show (c:Int).fdiv (2 ^ (min (32:Int).toNat IntKind.u64.bits))=0;rw [show (min (32:Int).toNat IntKind.u64.bits)=32 from rfl,Int.fdiv_eq_ediv_of_nonneg _ Q1];omega
 have e:Q7g .u64 1 (4294967295:Int)=1:=by decide
 have f:Q7g .u64 (c:Int) (4294967295:Int)=(c:Int):=by
  unfold Q7g;rw [BitVec.toNat_and,IntKind.wrap_u64];have e1:(BitVec.ofInt IntKind.u64.bits (c:Int)).toNat=c:=by
   rw [BitVec.toNat_ofInt];show ((c:Int) % ((2 ^ 64:Nat):Int)).toNat=c;omega
  have e2:(BitVec.ofInt IntKind.u64.bits (4294967295:Int)).toNat=2 ^ 32-1:=by decide
  rw [e1,e2,Nat.and_two_pow_sub_one_eq_mod];omega
 have w0:IntKind.u64.wrap 0=0:=by decide
 have wc:IntKind.u64.wrap (c:Int)=(c:Int):=by rw [IntKind.wrap_u64];omega
 have s0:shR .u64 0 (32:Int)=0:=by decide
 have a0:Q7g .u64 0 (4294967295:Int)=0:=by decide
 simp only [TV,Pg,cond_false,Ap,d,h2,e,f,gb,Int.zero_mul,Int.one_mul,Int.mul_zero,Int.add_zero,w0,wc,s0,a0];rfl
theorem Q5X {β:Nat->oP Nat} {S:Nat->Prop} {h:Nat->oP Ob} {w:World} {tm:Nat->Value} {v:Value} {k:IntKind} {n:Int} (h:RdA β S h w tm v (.d (.int k n))):v = .int k n:=by
 cases h with
 |d _ _ q=>exact Nc q
 |dang _ _ _ hl=>cases hl
theorem Q9p (c:Nat) (hc:c<=100000) (w:World):Calls Tryz.prog 291 #[.int .u64 1,.int .u64 (c:Int)] w fun e w'=>e = .returned (.tuple #[.int .u64 0,.int .u64 c])/\RowKit.Below w.heap.size w w':=by
 have he:(NW 0).E Dl 0 true [.d (.int .u64 1),.d (.int .u64 (c:Int))] (fun _=>none) some=some ⟨.tup [.d (D.int .u64 0),.d (D.int .u64 (c:Int))],[],[]⟩:=by
  show gb true (TV 0 1 (c:Int) (fun g i=>some (g,i))) (0,0) (fun r=>(some ⟨.tup [.d (D.int .u64 r.1),.d (D.int .u64 r.2)],[],[]⟩:oP Dl))=_;rw [mul_one c hc];rfl
 refine (Bv (S:=fun _=>False) (Yy ((NW 0).ok) he) (fun _ h=>h.elim) (Ta (.d _ _ (.int _ _)) (.d _ _ (.int _ _)))).mono fun e w' ⟨v,S',j,h2,k⟩=>⟨?_,k⟩
 rw [j];cases h2 with
 |tup cs l hl hr=>
  have d:=Q5X (hr 0 _ rfl);have f:=Q5X (hr 1 _ rfl);obtain ⟨l⟩:=cs
  match l,hl with
  |[a,b],_=>
   simp at d f;rw [d,f]
 |dang v av l hl=>cases hl
noncomputable def Qda:Code:=(GX (Tryz.f284.body.getD .skip)).getD 9 .skip
set_option maxHeartbeats 8000000 in
set_option maxRecDepth 100000 in
theorem Tryz.repeat_r9 (d f u2 u3 g i l o p q r s t u x y z aa ab ac ad ae ag ah ai aj ak al am an ao ap aq ar au av ax ay az ba bb bc bd be bg aw a b:Value) (H c m k:Nat) (cu:Array Value) (w:World) (bh:m<c) (b5:(m:Int)<(c:Int)) (hk:Nat.min m (c-m)=k) (a3:w.heap[H]? = some (.cells cu 287 (0,0))) (h0:(0:Int)<=(m:Int)) (cf:(m:Int)<=(c:Int))
  (a7:∀ (j:Nat) (v:Value),(Lg a b k)[j]? = some v->w.drew.cell? ((⟨H,0,none⟩:Addr).add j)=some v) (a6:m*2+(Lg a b k).length<=cu.size) (a5:∀ v∈Lg a b k,v.oneCell'=true) (cj:IntKind.i64.wrap ((m:Int)+(k:Int))=((m+k:Nat):Int)) :
  Code.wp Tryz.prog Qda (Q6T fun act w'=>∃ (bi bj bk bl bm bn bo bp bq:Value),act=⟨(d::f::u2::u3::g::i::l::.slice (some ⟨H,0,none⟩) c c::.int .i64 ((m:Int)+(k:Int))::o::p::q::r::s::t::u::x::y::z::aa::ab::ac::ad::ae::ag::ah::ai::aj::ak::al::am::an::ao::ap::aq::ar::au::av::bi::bj::bk::bl::bm::bn::bo::bp::bq::aw::[]).toArray,[]⟩/\w'.heap[H]? = some (.cells (splice cu.toList (m*2) (Lg a b k)).toArray 287 (0,0))/\(∀ n,n<=H->∀ w0:World,Below n w0 w->Below n w0 w')) ⟨(d::f::u2::u3::g::i::l::.slice (some ⟨H,0,none⟩) c c::.int .i64 (m:Int)::o::p::q::r::s::t::u::x::y::z::aa::ab::ac::ad::ae::ag::ah::ai::aj::ak::al::am::an::ao::ap::aq::ar::au::av::ax::ay::az::ba::bb::bc::bd::be::bg::aw::[]).toArray,[]⟩ w:=by
 conv=>arg 2;whnf
 have mixed:Tryz.prog.follows .mixedOrders=true:=by kernel_rfl
 have a8:(Tryz.prog.info? 287).map (·.size)=some 2:=by kernel_rfl
 have bv:c=m->0=m*2:=fun e=>absurd e (Nat.ne_of_gt bh)
 have a2:w.drew.heap[H]? = some (.cells cu 287 (0,0)):=a3
 go_region_law (first
  |(refine Q0m (by rfl) _ _ 243 243 (by rfl) 287 2 Tryz.underlying243 a8 H (m*2) (c-m) (c-m) ⟨H,0,none⟩ m c (by go_simp;exact bv) (by go_simp) cu 287 a2 (Lg a b k) k hk (Vi _ _ _) a7 a6 a5 ?_;intro w3 a9 br))
 all_goals
  dsimp only [Q6T];exact ⟨_,_,_,_,_,_,_,_,_,rfl,a9,fun n hn w0 h=>br n hn w0 (h.trans ⟨rfl,rfl,rfl,Qqt _,fun _ _=>rfl⟩)⟩
theorem Q84 {a b:Value} {m k:Nat} {L:List Value} (ac:L.take (m*2)=Lg a b m):(splice L (m*2) (Lg a b k)).take ((m+k)*2)=Lg a b (m+k):=by
 simp only [splice];rw [ac,List.take_append,QqF (by rw [Vi];omega),Vi,List.take_append_of_le_length (by rw [Vi];omega),QqF (by rw [Vi];omega),Q23]
theorem Qfp {m k c:Nat} (h:m+k<=c) (hk:0<k):c-(intOf (.int .i64 ((m:Int)+(k:Int)))).toNat<c-(intOf (.int .i64 (m:Int))).toNat:=by
 simp only [intOf];omega
set_option maxHeartbeats 4000000 in
set_option maxRecDepth 100000 in
theorem Tryz.repeat_calls (w:World) (ad:Addr) (cap c:Nat) (b d:Value) (hc:c<=100000) (p:w.cell? (ad.add 0)=some b) (s:w.cell? (ad.add 1)=some d) (o0:b.oneCell'=true) (o1:d.oneCell'=true) :
  Calls Tryz.prog 284 #[.slice (some ad) 1 cap,.int .i64 (c:Int)] w fun e w'=>∃ (H:Nat) (ac:Array Value),e = .returned (.slice (some ⟨H,0,none⟩) c c)/\w.heap.size<=H/\w'.heap[H]? = some (.cells ac 287 (0,0))/\ac.size=c*2/\ac.toList=Lg b d c/\Below w.heap.size w w':=by
 obtain ⟨t,hi,u⟩:=QqG.1 (show (Tryz.prog.info? 287).map (fun i=>(i.zero.isSome,i.size,i.bytes))=some (true,2,16) by kernel_rfl);obtain ⟨hz,l⟩:=Prod.mk.inj u;obtain ⟨l,x⟩:=Prod.mk.inj l;obtain ⟨z,hz⟩:=Option.isSome_iff_exists.1 hz;have ax:∀ w:World,∃ ac:Array Value,ac.size=c*2/\(Instr.makeSlice 243 (.int .i64 (c:Int)) (.int .i64 (c:Int))).run Tryz.prog w = .ok (.slice (some ⟨w.heap.size,0,none⟩) c c) (w.alloc (.cells ac 287)):=by
  intro w;refine ⟨madeCells z.cells (c*2),size_madeCells _ _,?_⟩;have:=run_make (P:=Tryz.prog) w 243 287 t z Tryz.underlying243 hi hz .i64 .i64 (c:Int) (c:Int) Q0 Q0 (by rw [x];omega) Q0;rw [l] at this;exact this
 have a5:(Tryz.prog.info? 287).map (·.size)=some 2:=by rw [hi];simp [l]
 have br:IntKind.u64.wrap (c:Int)=(c:Int):=by rw [IntKind.wrap_u64];omega
 have bp:IntKind.i64.wrap (c:Int)=(c:Int):=by rw [IntKind.wrap_i64];omega
 have g0:(0:Int)<=(c:Int):=Q0
 have g1:¬ (9223372036854775807:Int)<(c:Int):=Q0
 go_enter Tryz.func284,Tryz.ntmps284
 go_wp2_with (go_at_call 291;refine (Q9p c hc _).mono ?_)
 rintro e g rfl hB;obtain ⟨ac,bb,a7⟩:=ax g;clear ax;have ar:=UH hB (Qqt _) (.cells ac 287);have a2:∀ a:Addr,a.block<w.heap.size->(g.alloc (.cells ac 287)).cell? a=w.cell? a:=fun a ha=>Ae (ar.block _ ha)
 have bv:=fun (j:Nat)=>JY ad j
 have a9:ad.block<w.heap.size:=by have:=World.block_lt_of_cell? w _ p;rwa [JY] at this
 have hH:(g.alloc (.cells ac 287)).heap[g.heap.size]? = some (.cells ac 287 (0,0)):=heap_alloc_new g _;obtain ⟨f,q⟩:∃ f,Nat.min 1 c=f:=⟨_,rfl⟩;have r:f<=1/\f<=c/\(0<c->0<f):=by rw [<- q];simp only [Nat.min_def];split <;> omega
 obtain ⟨w2,ay,bg,bl⟩:=Q4E (P:=Tryz.prog) (g.alloc (.cells ac 287)) 243 243 3 287 g.heap.size 0 c c 2 ad 1 cap ac 287 (Lg b d f) f Tryz.underlying243 a5 hH q (Vi _ _ _)
  (fun j v hj=>by
   have n:=(Qqq.1 hj).1;rw [Vi] at n;rw [a2 _ (by rw [JY];exact a9)];have hm:f=1:=Q0
   subst hm;obtain rfl | rfl:j=0\/j=1:=Q0
   ·simp [Lg] at hj;rw [<- hj];exact p
   ·simp [Lg] at hj;rw [<- hj];exact s)
  (by rw [Vi];omega) (fun v hv=>by rcases Q1S hv with rfl | rfl <;> assumption)
 have ba:=bl w.heap.size hB.size w ar;have au:=hB.size;generalize bn:g.heap.size=H at *
 go_wp2
 go_loopw [8] (fun i wr=>∃ (m:Nat) (cu:Array Value),i = .int .i64 (m:Int)/\m<=c/\(0<c->0<m)/\wr.heap[H]? = some (.cells cu 287 (0,0))/\cu.size=c*2/\cu.toList.take (m*2)=Lg b d m/\Below w.heap.size w wr)
  (fun i _=>c-(intOf i).toNat)
 case atStart=>
  refine ⟨f,_,rfl,r.2.1,r.2.2,bg,?_,?_,ba⟩
  ·simp only [List.size_toArray];rw [length_splice _ _ _ (by rw [Vi];simp;omega)];simpa using bb
  ·simp only [splice,List.take_zero,List.nil_append];rw [List.take_append_of_le_length (by rw [Vi];exact Qqt _),QqF (by rw [Vi];exact Qqt _)]
 case round=>
  obtain ⟨m,cu,rfl,bq,bk,aj,ao,aq,hF⟩:=hrel;clear a7 ay;by_cases y:m<c
  ·have az:((m:Int)<(c:Int)):=Q0
   have hp:0<m:=bk Q0;obtain ⟨k,hk⟩:∃ k,Nat.min m (c-m)=k:=⟨_,rfl⟩;have o:k<=m/\m+k<=c/\0<k:=by rw [<- hk];simp only [Nat.min_def];split <;> omega
   have e1:(if c=m then (some ⟨H,0,none⟩:oP Addr) else (some (⟨H,0,none⟩:Addr)).map (·.add (m*2)))=some ⟨H,m*2,none⟩:=by
    rw [if_neg Q0];simp [HQ]
   have a3:∀ (j:Nat) (v:Value),(Lg b d k)[j]? = some v->wr.drew.cell? ((⟨H,0,none⟩:Addr).add j)=some v:=by
    intro j v hj;have n:=(Qqq.1 hj).1;rw [Vi] at n;rw [HQ,QqO];show wr.cell? _=_;rw [cell_of_row wr H j cu 287 (0,0) aj,<- Array.getElem?_toList];have e:(cu.toList.take (m*2))[j]? = some v:=by
     rw [aq];have e2:=Q9S b d o.1;rw [<- e2,List.getElem?_take,if_pos n] at hj;exact hj
    rw [List.getElem?_take] at e;split at e
    ·exact e
    ·cases e
   have an:m*2+(Lg b d k).length<=cu.size:=by rw [Vi];omega
   have aw:∀ v∈Lg b d k,v.oneCell'=true:=fun v hv=>by rcases Q1S hv with rfl | rfl <;> assumption
   have a4:wr.drew.heap[H]? = some (.cells cu 287 (0,0)):=aj;have bi:IntKind.i64.wrap ((m:Int)+(k:Int))=((m+k:Nat):Int):=by rw [IntKind.wrap_i64];omega
   go_wp2
   refine Code.wp_mono ?_ (Tryz.repeat_r9 _ _ _ _ _ _ _ _ _ _ _ _ _ _ _ _ _ _ _ _ _ _ _ _ _ _ _ _ _ _ _ _ _ _ _ _ _ _ _ _ _ _ _ _ _ _ b d H c m k cu wr y az hk aj Q0 Q0 a3 an aw bi);rintro e act w3 h;cases e with
   |normal=>
    obtain ⟨_,_,_,_,_,_,_,_,_,rfl,a8,bh⟩:=h
    go_wp2
    refine ⟨⟨m+k,_,by rw [Int.natCast_add],o.2.1,fun _=>Qqx hp (Nat.le_add_right m k),a8,?_,?_,bh _ au w hF⟩,?_⟩
    ·simp only [List.size_toArray];rw [length_splice _ _ _ (by simpa using an)];simpa using ao
    ·exact Q84 aq
    ·exact Qfp o.2.1 o.2.2
   |_=>exact h.elim
  ·have aa:m=c:=Q0
   subst aa
   go_wp2
   refine bodyPost_ret (results_tmp rfl _ _ _) rfl ?_;refine ⟨H,cu,rfl,au,aj,ao,?_,hF⟩;rw [<- aq,QqF (by simpa using Nat.le_of_eq ao)]
theorem QcQ {S:Nat->Prop} {w:World} {v:Value} {x:D} (h:Rd S w v x):v.oneCell'=true:=by cases h <;> rfl
theorem QaX {S:Nat->Prop} {w:World} {H c:Nat} {ac:Array Value} {a d:Value} {f g:D} (k:Rd S w a f) (l:Rd S w d g) (hH:w.heap[H]? = some (.cells ac 287 (0,0))) (aj:ac.toList=Lg a d c) :
  Rd (fun b=>S b\/b=H) w (.slice (some ⟨H,0,none⟩) c c) (.sl 2 (List.replicate c [f,g])):=by
 have e:=Rd.sl (S:=fun b=>S b\/b=H) (w:=w) ⟨H,0,none⟩ c 2 (List.replicate c [f,g]) (fun i j=>if j=0 then a else d) (.inr rfl) Q2 (fun i r hr=>?_) (fun i j r x hr hx=>?_) (fun i j r x hr hx=>?_)
 ·simpa using e
 ·obtain ⟨_,rfl⟩:=Qqz.1 (Qqo hr);rfl
 ·have hi:i<c:=by have:=(Qqq.1 hr).1;simpa using this
  obtain ⟨_,rfl⟩:=Qqz.1 (Qqo hr);have hj:=(Qqq.1 hx).1;simp at hj;rw [HQ,QqO,cell_of_row w H _ ac 287 (0,0) hH,<- Array.getElem?_toList,aj];have:=Qaq a d c i hi;obtain rfl | rfl:j=0\/j=1:=Q0
  ·simpa using this.1
  ·simpa using this.2
 ·obtain ⟨_,rfl⟩:=Qqz.1 (Qqo hr);have hj:=(Qqq.1 hx).1;simp at hj;obtain rfl | rfl:j=0\/j=1:=Q0
  ·simp at hx;subst hx;simpa using k.mono (fun _ h=>.inl h) (fun _ _=>rfl)
  ·simp at hx;subst hx;simpa using l.mono (fun _ h=>.inl h) (fun _ _=>rfl)
theorem Q2B (n:Nat) (a0:LL) (a1:Int) (res:LL) {hl:Nat->oP Ob} (h:Qv n a0 a1 some=some res):Wp Tryz.prog 284 [.d (D.sl 2 a0),.d (D.int .i64 a1)] hl ⟨.d (D.sl 2 res),[],[]⟩:=by
 unfold Qv at h;obtain ⟨hc,h⟩:=Y3 h;simp only [Qqu,decide_eq_true_eq] at hc;obtain ⟨⟨e1,hp⟩,hq⟩:=hc;have e1:=QqA e1;injection h with h
 obtain ⟨c,rfl⟩:=Int.eq_ofNat_of_zero_le hp
 match a0,e1 with
 |[row],_=>
  subst h;refine LG (fn:=Tryz.f284) (by kernel_rfl) (by kernel_rfl) (by kernel_rfl) rfl rfl fun S w args hS hA=>?_
  obtain ⟨hl,hA⟩:=hA
  match args,hl with
  |[j,k],_=>
   have a:=hA 0 _ _ rfl rfl;have i:=Q5X (hA 1 _ _ rfl rfl);subst i;cases a with
   |dang _ _ _ hl=>cases hl
   |d _ _ a=>
    cases a with
    |sl ad cap _ _ cf az aw aq ac an=>
     have ak:=aq 0 row rfl
     match row,ak with
     |[l,m],_=>
      have k0:=ac 0 0 _ _ rfl rfl;have k1:=ac 0 1 _ _ rfl rfl;have f:=an 0 0 _ _ rfl rfl;have g:=an 0 1 _ _ rfl rfl;refine (Tryz.repeat_calls w ad cap c (cf 0 0) (cf 0 1) Q0 k0 k1 (QcQ f) (QcQ g)).mono fun e w' ⟨H,a2,he,hH,aj,a3,ar,hB⟩=>?_
      have ay:H<w'.heap.size:=(QqH.1 aj).1;refine ⟨_,fun b=>S b\/b=H,he,fun b h=>.inl h,fun b h=>h.elim .inl fun e=>.inr Q0,fun b h=>h.elim (fun h=>Qqx (hS b h) hB.size) (fun e=>by omega),.d _ _ ?_,hB⟩;exact QaX (Rd.mono (fun _ h=>h) (fun b hb=>hB.block b (hS b hb)) f) (Rd.mono (fun _ h=>h) (fun b hb=>hB.block b (hS b hb)) g) aj ar
end Go.Vx
namespace Go.Vx
open Go.Proofs
variable (n:Nat)
def Xs (n:Nat):Sf:=fun _ _ g ac _ k=>match ac with
 | [c0,c1]=>prS g 2 c0 fun a0=>prI g .i64 c1 fun a1=>
  gb g (Qv n a0 a1 some) [] fun r=>k ⟨.d (D.sl 2 r),[],[]⟩
 | _=>none
theorem WM (n:Nat):J9 Tryz.prog 284 (Xs n):=by
  intro R aj g ak hl k r h
  unfold Xs at h
  split at h
  rotate_left
  · cases h
  replace h:=UO h
  obtain ⟨a0,h,a⟩:=h
  replace h:=Q2c h
  obtain ⟨a1,h,b⟩:=h
  replace h:=X6 h
  obtain ⟨res,h,hr⟩:=h
  exact ⟨_,h,fun hg=>Wp.conv (avs':=[.d (D.sl 2 a0),.d (D.int .i64 a1)]) (.cons (a hg) (.cons (b hg) .nil)) (Q2B n a0 a1 res (hr hg))⟩
end Go.Vx
set_option maxRecDepth 100000
namespace Go.Vx
open Go.Proofs
variable (n:Nat)
def Lt:BZ9:=Xa [⟨163,FD n⟩,⟨284,⟨Xs n,WM n⟩⟩] [(5,⟨[],[],[(8,1008,287,2)],[],[]⟩)]
def Q0e:LZ9:=mkU (Lt n).ok nT 6 Tryz.f273 [QlA,QlB,Qmi,(27,.l 2),(28,tI),(29,tI)] [Qm9,QnU,(1008,.arr 287 2)] 39631 [xE 0 [(30,.b)]] @WE n
def Q34:EZ9 273:=mkD (Lt n).ok [Q0e n n] 273 Tryz.f273 0 @Rk n
def NT:BZ9:=Xa [⟨273,Q34 n⟩,⟨162,T0 n⟩,⟨269,Tl n⟩] []
def A6:LZ9:=mkU (NT n).ok nT 7 Tryz.f257 [QlB,Qm4,QlE,(8,.l 2),Qlf,(29,.l 2),(30,tI),(31,tI)] [Qm6,Qml,(6,.box Qlj)] 61434 [.f .ret [(6,.ptr 6 0),(7,.ci .i64 12)] [(6,.box Qlj)] [],xE 0 [(32,.b)]] @Ub n
def Lv:EZ9 257:=mkD (NT n).ok [A6 n n] 257 Tryz.f257 0 @HO n
def Ma:EZ9 219:=mkD (Xa [⟨257,Lv n⟩] []).ok nT 219 Tryz.f219 0 @GN n
def CX:EZ9 167:=mkD (Xa [⟨169,N8 n⟩,⟨219,Ma n⟩,⟨171,NV n⟩,⟨170,F1 n⟩] []).ok nT 167 Tryz.f167 0 @G4 n
def GZ:BZ9:=Xa [⟨159,PF n⟩,⟨164,Zh n⟩,⟨166,Et n⟩,⟨167,CX n⟩] []
def EF:LZ9:=mkU (GZ n).ok nT 15 Tryz.f112 [QlA,QlB,QlE,QmM,Qlg,Qli,(50,tI),(51,tI)] [Qm9,Qmp,(6,bT 87 [])] 5230176669 [.f .ret [(4,tI)] [] [0],xE 3 [(52,.b)]] @W0 n
def FQ:LZ9:=mkU (GZ n).ok [EF n n] 2 Tryz.f112 [QlA,QlB,QmM,Qlg,Qli] Qmo 7174462 [.f .ret [(4,tI)] [] [0],xE 0 [(13,.b)]] @ZZ n
def Rb:EZ9 112:=mkD (GZ n).ok [FQ n n] 112 Tryz.f112 0 @Vz n
end Go.Vx
namespace Go.Vx
open Go.Proofs Go.RowKit
theorem Q8j {S:Nat->Prop} {w:World} {v:Value} {x:D} (h:Rd S w v x):v.oneCell'=true:=by cases h <;> rfl
theorem RdLs.one {S:Nat->Prop} {w:World} {vs:List Value} {xs:List D} (h:RdLs S w vs xs):∀ x∈vs,x.oneCell'=true:=by
 induction h with
 |nil=>simp
 |cons h _ ih=>
  intro x hx;rcases List.mem_cons.1 hx with rfl | hx
  ·exact Q8j h
  ·exact ih x hx
theorem RdLs.len {S:Nat->Prop} {w:World} {vs:List Value} {xs:List D} (h:RdLs S w vs xs):vs.length=xs.length:=by
 induction h with
 |nil=>rfl
 |cons _ _ ih=>simp [ih]
theorem RdLs.keep {S:Nat->Prop} {w w':World} {m:Nat} {vs:List Value} {xs:List D} (h:RdLs S w vs xs) (hS:∀ b,S b->b<m) (hw:∀ b,b<m->w'.heap[b]? = w.heap[b]?):RdLs S w' vs xs:=by
 induction h with
 |nil=>exact .nil
 |cons h _ ih=>exact .cons (Rd.keep h hS hw) ih
def HY (a b c d:LL):List D:=[D.sl 1 a,D.sl 1 b,D.sl 5 c,D.sl 6 d]
def HM (a:Int) (b c d e f g h:LL):List D:=[D.int .i64 a,D.sl 5 b,D.sl 2 c,D.sl 4 d,D.sl 7 e,D.sl 4 f,D.sl 5 g,D.sl 3 h]
theorem B8 {n:Nat} {a c d f:LL} {g:Int} {i j k l m o p:LL} (h:Vk n a c d f g i j k l m o p some=some 0) {S:Nat->Prop} {w:World} (hS:∀ b,S b->b<w.heap.size) {vs us:List Value} (q:RdLs S w vs (HY a c d f)) (s:RdLs S w us (HM g i j k l m o p)) :
  Calls Tryz.prog 109 #[.agg vs.toArray,.agg us.toArray] w fun e w'=>e = .returned (.int .i64 0)/\Below w.heap.size w w':=by
 have he:(Sq n).E Dl 0 true [.ag ((HY a c d f).map .d),.ag ((HM g i j k l m o p).map .d)] (fun _=>none) some=some ⟨.d (.int .i64 0),[],[]⟩:=by
  show gb true (Vk n a c d f g i j k l m o p some) 0 (fun r=>(some ⟨.d (D.int .i64 r),[],[]⟩:oP Dl))=_;rw [h];rfl
 exact Kk (Yy ((Sq n).ok) he) hS (Ta (RdLs.agg q) (RdLs.agg s))
theorem DI {n:Nat} {a c d f:LL} {g:Int} {i j k l m o p:LL} (h:Uz n a c d f g i j k l m o p some=some 0) {S:Nat->Prop} {w:World} (hS:∀ b,S b->b<w.heap.size) {vs us:List Value} (q:RdLs S w vs (HY a c d f)) (s:RdLs S w us (HM g i j k l m o p)) :
  Calls Tryz.prog 110 #[.agg vs.toArray,.agg us.toArray] w fun e w'=>e = .returned (.int .i64 0)/\Below w.heap.size w w':=by
 have he:(PH n).E Dl 0 true [.ag ((HY a c d f).map .d),.ag ((HM g i j k l m o p).map .d)] (fun _=>none) some=some ⟨.d (.int .i64 0),[],[]⟩:=by
  show gb true (Uz n a c d f g i j k l m o p some) 0 (fun r=>(some ⟨.d (D.int .i64 r),[],[]⟩:oP Dl))=_;rw [h];rfl
 exact Kk (Yy ((PH n).ok) he) hS (Ta (RdLs.agg q) (RdLs.agg s))
theorem DS {n:Nat} {a c d f:LL} {g:Int} {i j k l m o p:LL} (h:Ux n a c d f g i j k l m o p some=some 0) {S:Nat->Prop} {w:World} (hS:∀ b,S b->b<w.heap.size) {vs us:List Value} (q:RdLs S w vs (HY a c d f)) (s:RdLs S w us (HM g i j k l m o p)) :
  Calls Tryz.prog 111 #[.agg vs.toArray,.agg us.toArray] w fun e w'=>e = .returned (.int .i64 0)/\Below w.heap.size w w':=by
 have he:(PL n).E Dl 0 true [.ag ((HY a c d f).map .d),.ag ((HM g i j k l m o p).map .d)] (fun _=>none) some=some ⟨.d (.int .i64 0),[],[]⟩:=by
  show gb true (Ux n a c d f g i j k l m o p some) 0 (fun r=>(some ⟨.d (D.int .i64 r),[],[]⟩:oP Dl))=_;rw [h];rfl
 exact Kk (Yy ((PL n).ok) he) hS (Ta (RdLs.agg q) (RdLs.agg s))
theorem Ba {n:Nat} {a c d f:LL} {g:Int} {i j k l m o p:LL} (h:Vz n a c d f g i j k l m o p some=some 0) {S:Nat->Prop} {w:World} (hS:∀ b,S b->b<w.heap.size) {vs us:List Value} (q:RdLs S w vs (HY a c d f)) (s:RdLs S w us (HM g i j k l m o p)) :
  Calls Tryz.prog 112 #[.agg vs.toArray,.agg us.toArray] w fun e w'=>e = .returned (.int .i64 0)/\Below w.heap.size w w':=by
 have he:(Rb n).E Dl 0 true [.ag ((HY a c d f).map .d),.ag ((HM g i j k l m o p).map .d)] (fun _=>none) some=some ⟨.d (.int .i64 0),[],[]⟩:=by
  show gb true (Vz n a c d f g i j k l m o p some) 0 (fun r=>(some ⟨.d (D.int .i64 r),[],[]⟩:oP Dl))=_;rw [h];rfl
 exact Kk (Yy ((Rb n).ok) he) hS (Ta (RdLs.agg q) (RdLs.agg s))
theorem FJ {n:Nat} {a c d f:LL} {g:Int} {i j k l m o p:LL} (h:WY n a c d f g i j k l m o p some=some 0) {S:Nat->Prop} {w:World} (hS:∀ b,S b->b<w.heap.size) {vs us:List Value} (q:RdLs S w vs (HY a c d f)) (s:RdLs S w us (HM g i j k l m o p)) :
  Calls Tryz.prog 113 #[.agg vs.toArray,.agg us.toArray] w fun e w'=>e = .returned (.int .i64 0)/\Below w.heap.size w w':=by
 have he:(Pk n).E Dl 0 true [.ag ((HY a c d f).map .d),.ag ((HM g i j k l m o p).map .d)] (fun _=>none) some=some ⟨.d (.int .i64 0),[],[]⟩:=by
  show gb true (WY n a c d f g i j k l m o p some) 0 (fun r=>(some ⟨.d (D.int .i64 r),[],[]⟩:oP Dl))=_;rw [h];rfl
 exact Kk (Yy ((Pk n).ok) he) hS (Ta (RdLs.agg q) (RdLs.agg s))
theorem Cz {n:Nat} {a c d f:LL} {g:Int} {i j k l m o p:LL} (h:Vy n a c d f g i j k l m o p some=some 0) {S:Nat->Prop} {w:World} (hS:∀ b,S b->b<w.heap.size) {vs us:List Value} (q:RdLs S w vs (HY a c d f)) (s:RdLs S w us (HM g i j k l m o p)) :
  Calls Tryz.prog 114 #[.agg vs.toArray,.agg us.toArray] w fun e w'=>e = .returned (.int .i64 0)/\Below w.heap.size w w':=by
 have he:(SK n).E Dl 0 true [.ag ((HY a c d f).map .d),.ag ((HM g i j k l m o p).map .d)] (fun _=>none) some=some ⟨.d (.int .i64 0),[],[]⟩:=by
  show gb true (Vy n a c d f g i j k l m o p some) 0 (fun r=>(some ⟨.d (D.int .i64 r),[],[]⟩:oP Dl))=_;rw [h];rfl
 exact Kk (Yy ((SK n).ok) he) hS (Ta (RdLs.agg q) (RdLs.agg s))
theorem Cu {n:Nat} {a c d f:LL} {g:Int} {i j k l m o p:LL} (h:Vo n a c d f g i j k l m o p some=some 0) {S:Nat->Prop} {w:World} (hS:∀ b,S b->b<w.heap.size) {vs us:List Value} (q:RdLs S w vs (HY a c d f)) (s:RdLs S w us (HM g i j k l m o p)) :
  Calls Tryz.prog 115 #[.agg vs.toArray,.agg us.toArray] w fun e w'=>e = .returned (.int .i64 0)/\Below w.heap.size w w':=by
 have he:(SX n).E Dl 0 true [.ag ((HY a c d f).map .d),.ag ((HM g i j k l m o p).map .d)] (fun _=>none) some=some ⟨.d (.int .i64 0),[],[]⟩:=by
  show gb true (Vo n a c d f g i j k l m o p some) 0 (fun r=>(some ⟨.d (D.int .i64 r),[],[]⟩:oP Dl))=_;rw [h];rfl
 exact Kk (Yy ((SX n).ok) he) hS (Ta (RdLs.agg q) (RdLs.agg s))
theorem Ek {n:Nat} {a c d f:LL} {g:Int} {i j k l m o p:LL} (h:WN n a c d f g i j k l m o p some=some 0) {S:Nat->Prop} {w:World} (hS:∀ b,S b->b<w.heap.size) {vs us:List Value} (q:RdLs S w vs (HY a c d f)) (s:RdLs S w us (HM g i j k l m o p)) :
  Calls Tryz.prog 116 #[.agg vs.toArray,.agg us.toArray] w fun e w'=>e = .returned (.int .i64 0)/\Below w.heap.size w w':=by
 have he:(P2 n).E Dl 0 true [.ag ((HY a c d f).map .d),.ag ((HM g i j k l m o p).map .d)] (fun _=>none) some=some ⟨.d (.int .i64 0),[],[]⟩:=by
  show gb true (WN n a c d f g i j k l m o p some) 0 (fun r=>(some ⟨.d (D.int .i64 r),[],[]⟩:oP Dl))=_;rw [h];rfl
 exact Kk (Yy ((P2 n).ok) he) hS (Ta (RdLs.agg q) (RdLs.agg s))
theorem Ev:∀ (n k:Nat),Hp (fun _=>0) n k=0
 |0,_=>rfl
 |n+1,k=>by simp [Hp,Ev n (k+1)]
theorem Q5O (n:Nat) (a c d f:LL) (g:Int) (i j l m o p q:LL) (res:Int) {hl:Nat->oP Ob} (h:Vu n a c d f g i j l m o p q some=some res):Wp Tryz.prog 73 [.ag [.d (D.sl 1 a),.d (D.sl 1 c),.d (D.sl 5 d),.d (D.sl 6 f)],.ag [.d (D.int .i64 g),.d (D.sl 5 i),.d (D.sl 2 j),.d (D.sl 4 l),.d (D.sl 7 m),.d (D.sl 4 o),.d (D.sl 5 p),.d (D.sl 3 q)]] hl ⟨.d (D.int .i64 res),[],[]⟩:=by
 obtain ⟨an,h⟩:=Y3 h;injection h with h
 subst h;simp only [Qa7,Qqu] at an;obtain ⟨⟨⟨⟨⟨⟨⟨k0,k1⟩,k2⟩,k3⟩,k4⟩,k5⟩,k6⟩,k7⟩:=an;refine LG (fn:=Tryz.f73) (by kernel_rfl) (by kernel_rfl) (by kernel_rfl) rfl rfl fun S w args hS hA=>?_
 obtain ⟨v,u,rfl,hv,hu⟩:=Qbs hA;obtain ⟨vs,rfl,hr⟩:=Q5e (xs:=HY a c d f) hv;obtain ⟨us,rfl,hq⟩:=Q5e (xs:=HM g i j l m o p q) hu;have al:=hr.len;have am:=hq.len
 match vs,us,al,am with
 |[r,s,t,y],[z,u1,u2,u3,u4,u5,u6,u7],_,_=>
  refine (Tryz.plancheck_calls w r s t y z u1 u2 u3 u4 u5 u6 u7 (fun _=>0) (fun k hk w' hs hw=>?_) (fun x hx=>?_)).mono fun e w' ⟨he,hB⟩=>?_
  ·have aj:∀ b,S b->b<w'.heap.size:=fun b hb=>Qqx (hS b hb) hs
   have ac:=hr.keep hS hw;have ak:=hq.keep hS hw;obtain rfl | rfl | rfl | rfl | rfl | rfl | rfl | rfl:k=0\/k=1\/k=2\/k=3\/k=4\/k=5\/k=6\/k=7:=Q0
   ·exact B8 (Jn k0) aj ac ak
   ·exact DI (Jn k1) aj ac ak
   ·exact DS (Jn k2) aj ac ak
   ·exact Ba (Jn k3) aj ac ak
   ·exact FJ (Jn k4) aj ac ak
   ·exact Cz (Jn k5) aj ac ak
   ·exact Cu (Jn k6) aj ac ak
   ·exact Ek (Jn k7) aj ac ak
  ·rcases List.mem_append.1 (show x∈[r,s,t,y]++[z,u1,u2,u3,u4,u5,u6,u7] from hx) with h | h
   ·exact hr.one x h
   ·exact hq.one x h
  ·rw [Ev] at he;exact ⟨_,S,he,fun b h=>h,fun b h=>.inl h,fun b h=>Qqx (hS b h) hB.size,.d _ _ (.int _ _),hB⟩
end Go.Vx
namespace Go.Vx
open Go.Proofs
variable (n:Nat)
def HJ (n:Nat):Sf:=fun _ _ g aj _ k=>match aj with
 | [c0,c1]=>
  prG c0 fun l0=>(match l0 with
  | [a,b,c,d]=>prS g 1 a fun e=>prS g 1 b fun f=>prS g 5 c fun h=>prS g 6 d fun i=>
  prG c1 fun l1=>(match l1 with
  | [j,l,m,o,p,q,s,t]=>prI g .i64 j fun u=>prS g 5 l fun v=>prS g 2 m fun x=>prS g 4 o fun y=>prS g 7 p fun z=>prS g 4 q fun aa=>prS g 5 s fun ab=>prS g 3 t fun ac=>
  gb g (Vu n e f h i u v x y z aa ab ac some) 0 fun r=>k ⟨.d (D.int .i64 r),[],[]⟩
  | _=>none)
  | _=>none)
 | _=>none
theorem RM (n:Nat):J9 Tryz.prog 73 (HJ n):=by
  intro R ak g an hl k r h
  unfold HJ at h
  split at h
  rotate_left
  · cases h
  replace h:=Q2C h
  obtain ⟨l0,h,q⟩:=h
  subst q
  split at h
  rotate_left
  · cases h
  replace h:=UO h
  obtain ⟨a,h,s⟩:=h
  replace h:=UO h
  obtain ⟨b,h,t⟩:=h
  replace h:=UO h
  obtain ⟨c,h,u⟩:=h
  replace h:=UO h
  obtain ⟨d,h,v⟩:=h
  replace h:=Q2C h
  obtain ⟨l1,h,e1⟩:=h
  subst e1
  split at h
  rotate_left
  · cases h
  replace h:=Q2c h
  obtain ⟨e,h,x⟩:=h
  replace h:=UO h
  obtain ⟨f,h,y⟩:=h
  replace h:=UO h
  obtain ⟨i,h,z⟩:=h
  replace h:=UO h
  obtain ⟨j,h,aa⟩:=h
  replace h:=UO h
  obtain ⟨l,h,ab⟩:=h
  replace h:=UO h
  obtain ⟨m,h,ac⟩:=h
  replace h:=UO h
  obtain ⟨o,h,ad⟩:=h
  replace h:=UO h
  obtain ⟨p,h,ae⟩:=h
  replace h:=X6 h
  obtain ⟨res,h,hr⟩:=h
  exact ⟨_,h,fun hg=>Wp.conv (avs':=[.ag [.d (D.sl 1 a),.d (D.sl 1 b),.d (D.sl 5 c),.d (D.sl 6 d)],.ag [.d (D.int .i64 e),.d (D.sl 5 f),.d (D.sl 2 i),.d (D.sl 4 j),.d (D.sl 7 l),.d (D.sl 4 m),.d (D.sl 5 o),.d (D.sl 3 p)]]) (.cons (.ag (.cons (s hg) (.cons (t hg) (.cons (u hg) (.cons (v hg) .nil))))) (.cons (.ag (.cons (x hg) (.cons (y hg) (.cons (z hg) (.cons (aa hg) (.cons (ab hg) (.cons (ac hg) (.cons (ad hg) (.cons (ae hg) .nil))))))))) .nil)) (Q5O n a b c d e f i j l m o p res (hr hg))⟩
end Go.Vx
set_option maxRecDepth 100000
namespace Go.Vx
open Go.Proofs
variable (n:Nat)
def SY:BZ9:=Xa [⟨257,Lv n⟩,⟨268,B1 n⟩,⟨269,Tl n⟩,⟨239,EH n⟩] [(7,⟨[],[],[(6,1006,3,1),(7,1007,3,1)],[],[]⟩)]
def DC:LZ9:=mkU (SY n).ok nT 8 Tryz.f238 [QlB,Qm4,Ql3,Qmu,(11,.l 1),(13,.l 2),Qlt,(38,.l 2),(39,tI),(40,tI)] [Qm6,Qml,(1006,.arr 3 1),(1007,.arr 3 1)] 114975580 [xE 0 [(41,.b)]] @Yd n
def CK:EZ9 238:=mkD (SY n).ok [DC n n] 238 Tryz.f238 0 @Hu n
def Q3Q:EZ9 282:=mkD (Xa [⟨158,⟨JZ n,P8 n⟩⟩] []).ok nT 282 Tryz.f282 0 @MI n
def Ll:BZ9:=Xa [⟨282,Q3Q n⟩,⟨251,TR n⟩,⟨283,Q0z n⟩] [(7,⟨[],[],[(6,1006,210,4)],[],[]⟩)]
def Q0R:LZ9:=mkU (Ll n).ok nT 8 Tryz.f270 [Qm4,Ql3,(23,.l 6),(24,tI),(25,tI)] [QnS,(1006,.arr 210 4)] 616 [xE 0 [(26,.b)]] @WJ n
def Q2J:EZ9 270:=mkD (Ll n).ok [Q0R n n] 270 Tryz.f270 0 @LY n
def GF:BZ9:=Xa [⟨270,Q2J n⟩] []
def R5:LZ9:=mkU (GF n).ok nT 2 Tryz.f243 [Qm4,(11,.l 4),Qli,Qlq] [QnS] 130 [.f .ret [(6,tI)] [] [0],xE 0 [(14,.b)]] @ZU n
def RI:EZ9 243:=mkD (GF n).ok [R5 n n] 243 Tryz.f243 0 @ZK n
def VM:BZ9:=Xa [⟨238,CK n⟩,⟨239,EH n⟩,⟨240,Q03 n⟩,⟨241,F8 n⟩,⟨242,RC n⟩,⟨243,RI n⟩,⟨244,M9 n⟩] []
def RO:LZ9:=mkU (VM n).ok nT 7 Tryz.f204 [Ql1,Qm4,QlE,(13,.l 1),(14,.l 1),Qln,(17,tI),(18,.arr 48),QmR] [(5,bT 27 []),(6,.box Qmf),(48,.arr 170 3)] 1063461 [xE 0 [(51,.b)]] @Y4 n
def RK:LZ9:=mkU (VM n).ok nT 14 Tryz.f204 [Qm4,QlE,Qln,(17,tI),(18,.arr 84),(20,.ptr 20 0),(21,.arr 50095),(97,.l 2),(98,tI),(99,tI)] [(5,bT 27 []),(6,.box Qmf),(20,.box [.ci .i64 0,tI,tI]),(84,.arr 170 3),(50095,.arr 170 3)] 13492776 [xE 2 [(100,.b)]] @QB n
def KL:EZ9 204:=mkD (VM n).ok [RO n n,RK n n] 204 Tryz.f204 0 @Wo n
def Aq:EZ9 190:=mkD (Xa [⟨219,Ma n⟩,⟨204,KL n⟩] []).ok nT 190 Tryz.f190 0 @WA n
def T3:BZ9:=Xa [⟨73,⟨HJ n,RM n⟩⟩,⟨189,Q0i n⟩,⟨190,Aq n⟩] [(5,⟨[],[],[(7,1007,97,1),(8,1008,3,1)],[],[]⟩)]
def CW:LZ9:=mkU (T3 n).ok nT 9 Tryz.f134 [QlA,QlB,Qmu,Qmi,Qlf,Qll,(23,.l 4),(24,tI),(25,tI),(31,.l 4),(32,tI),(33,tI)] [Qm9,Qmp,(10,.box Qme),Qmy,Qmz] 788594406049 [.f .ret [(4,.nil),(5,.nil),(6,tI)] [] [0],xE 2 [(34,.b)]] @Yo n
def CI:LZ9:=mkU (T3 n).ok [CW n n] 6 Tryz.f134 [QlA,QlB,Qmu,Qmi,(23,.l 4),(24,tI),(25,tI)] QmA 121965718 [.f .ret [(4,.nil),(5,.nil),(6,tI)] [] [0],xE 0 [(26,.b)]] @Wh n
def AI:EZ9 134:=mkD (T3 n).ok [CI n n] 134 Tryz.f134 0 @TE n
def BE:EZ9 81:=mkD (Xa [⟨73,⟨HJ n,RM n⟩⟩,⟨133,HK n⟩,⟨134,AI n⟩,⟨135,T5 n⟩,⟨136,Pq n⟩,⟨137,H3 n⟩,⟨138,KG n⟩] [(3,⟨[],[],[],[(20,12,2812,3,1),(20,13,2813,97,1),(20,14,2814,3,1),(20,15,2815,273,4),(20,17,2817,104,3),(20,18,2818,67,6)],[]⟩)]).ok nT 81 Tryz.f81 0 @Kw n
def Dt:EZ9 142:=mkD (Xa [⟨204,KL n⟩] []).ok nT 142 Tryz.f142 0 @Jt n
def YU:BZ9:=Xa [⟨140,Pw n⟩,⟨141,Jc n⟩,⟨142,Dt n⟩,⟨143,JW n⟩,⟨144,Jl n⟩] []
def TW:LZ9:=mkU (YU n).ok nT 17 Tryz.f84 [QlB,Qm4,Qnz,QkP,Qlf,QlY,(11,.ptr 11 0),Qli,(14,.ptr 14 0),QkQ,(46,.l 1),(47,tI),(48,tI),(77,.l 4),(78,tI),(79,tI),(128,.l 3),(129,tI),(130,tI)] [(3,.box Qnh),(4,.box [tI]),Qo3,(6,.box [tI]),(11,.box [.x,.x,.x,.x,.x]),(14,.box [.x,.x]),Qnv,Qnw,Qo2] 5083869477025 [xE 4 [(131,.b)]] @X2 n
def TN:LZ9:=mkU (YU n).ok [TW n n] 9 Tryz.f84 [QlB,Qm4,Qnz,QkP,Qlf,QlY,(11,.ptr 11 0),(46,.l 1),(47,tI),(48,tI),(77,.l 4),(78,tI),(79,tI)] [(3,.box Qnh),(4,.box [tI]),Qo3,(6,.box [tI]),(11,.box [.x,.x,.x,.x,.x]),Qnv,Qnw,Qo2] 2019825192481251836 [xE 2 [(80,.b)]] @QG n
def Tw:LZ9:=mkU (YU n).ok [TN n n] 5 Tryz.f84 [QlB,Qm4,Qnz,QkP,(46,.l 1),(47,tI),(48,tI)] [(3,.box Qnh),(4,.box [tI]),Qo3,(6,.box [tI]),Qnv,Qnw,Qo2] 34205931341042 [xE 0 [(49,.b)]] @XM n
def P7:EZ9 84:=mkW (YU n).ok [Tw n n] 84 Tryz.f84 (pT 1000000 188 Qns [sI,eA [qL 1,qB]]) [eT 0] [] 11792 1048575 @ZD n
def H6:BZ9:=Xa [⟨81,BE n⟩,⟨82,Q0n n⟩,⟨83,SS n⟩,⟨74,HI n⟩,⟨84,P7 n⟩] [(8,⟨[],[],[],[(39,18,1408,3,1)],[]⟩),(15,⟨[],[],[],[(39,20,503920,59,5)],[]⟩)]
def D2:LZ9:=mkU (H6 n).ok nT 9 Tryz.f48 [Qm4,(12,.ptr 39 0),Qlq,(41,.l 4),(42,tI),(43,tI)] [(5,bT 36 []),(39,bT 188 [(18,.arr 1408),(19,.ci .i64 0),(20,.nil)]),(1408,.arr 3 1)] 411782264189366 [xE 0 [(44,.b)]] @Yc n
def D9:LZ9:=mkU (H6 n).ok nT 16 Tryz.f48 [(12,.ptr 39 0),(68,.l 2),(69,tI),(70,tI)] [(39,bT 188 [(18,.arr 1408),(20,.arr 503920)]),(1408,.arr 3 1),(503920,.arr 59 5)] 235307989435 [xE 2 [(71,.b)]] @XS n
def CY:EZ9 48:=mkD (H6 n).ok [D2 n n,D9 n n] 48 Tryz.f48 0 @G7 n
def Ft:EZ9 38:=mkD (Xa [⟨48,CY n⟩] []).ok nT 38 Tryz.f38 0 @Te n
def EM:EZ9 39:=mkD (Xa [⟨73,⟨HJ n,RM n⟩⟩,⟨74,HI n⟩] []).ok nT 39 Tryz.f39 0 @Tc n
def PP:BZ9:=Xa [⟨38,Ft n⟩,⟨39,EM n⟩,⟨40,Na n⟩,⟨41,Dv n⟩] [(8,⟨[],[],[(14,1014,128,3)],[],[]⟩)]
def FK:LZ9:=mkU (PP n).ok nT 9 Tryz.f11 [Qlk,Qmk,Qm4,(12,.l 2),(14,.arr 1014),(43,.l 5),(44,tI),(45,tI)] [(4,bT 27 []),(5,bT 36 []),(1014,.arr 128 3)] 258892888 [.f .ret [(8,.nil),(9,.ci .i64 7)] [] [],xE 0 [(46,.b)]] @Yg n
def DU:EZ9 11:=mkD (PP n).ok [FK n n] 11 Tryz.f11 0 @Jk n
def law20_PlatformAsPlanned_VB:BZ9:=Xa [⟨6,Q5a n⟩,⟨7,EB n⟩,⟨8,Q2f n⟩,⟨9,B0 n⟩,⟨10,AX n⟩,⟨11,DU n⟩,⟨12,Q0l n⟩,⟨13,Ra n⟩] [(14,⟨[],[],[(15,1015,3,1)],[],[]⟩)]
def law20_PlatformAsPlanned_l1:LZ9:=mkU (law20_PlatformAsPlanned_VB n).ok nT 15 Tryz.f3 [QkO,Qm4,QlE,(11,.l 3),(13,.l 5),(15,.arr 1015),(68,tI),(69,tI)] [(5,bT 27 []),(6,bT 36 []),(1015,.arr 3 1)] 258302395 [.f .ret [(4,.b)] [] [0],xE 0 [(70,.b)]] @QX n
end Go.Vx
