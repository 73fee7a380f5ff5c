/- Part of a proof. No conditions of their own. -/
import Derived.Test.YtiibkjjkoapefaaGreatTF
import Derived.Test.YtiibkjjkoapefaaGreatTB
import Derived.Test.YtiibkjjkoapefaaGreatTD
import Derived.Test.YtiibkjjkoapefaaGreatTE
import Derived.Test.YtiibkjjkoapefaaGreatTC
import Derived.Maps.Own
import Derived.Maps.Views
import Derived.StringKeys
import Derived.WalkKit
import Derived.Deep.AppendLies
import Derived.Laws.Rows
import Derived.OneCell
import Derived.Lib.LaidTab
import Derived.Orders
import Derived.LoopTactic
import Derived.Lib.Builder
import Derived.Carry
import Derived.Deep.RegionHeld3
import Derived.Deep.RegionLaw
import Derived.StillTailTactics
import Derived.OrdersHeld
import Derived.Test.YtiibkjjkoapefaaGreatProg
import Derived.RegionTactic
import Derived.BigRegion
import Derived.Deep.RegionLawGrows
import Derived.MapKept
import Derived.Deep.RegionWith
import Derived.Laws.CopyOwn
import Derived.Deep.OwnRows
set_option linter.unusedVariables false
set_option linter.unusedSimpArgs false
set_option linter.unusedSectionVars false
noncomputable section
abbrev QjT:=@Go.Lib.cell_of_heap
abbrev QjU:=@List.mem_of_getElem?
abbrev QjV:=@List.getElem?_eq_getElem
abbrev QjW:=@List.getElem?_cons_zero
abbrev QjX:=@List.getElem?_eq_some_iff
abbrev QjY:=@List.getD_eq_getElem?_getD
abbrev QjZ:=@Go.Lib.alloc_old
abbrev Qk0:=@List.getElem?_cons_succ
abbrev Qk1:=@Nat.lt_of_lt_of_le
abbrev Qk2:=@Nat.le_refl
abbrev Qk3:=@Nat.le_of_ble_eq_true
abbrev Qk4:=@Bool.and_eq_true
abbrev Qk5:=@cond_true
abbrev Qk6:=@Int.toNat_natCast
abbrev Qk7:=@List.mem_replicate
abbrev Qk8:=@Option.map_eq_some_iff
abbrev Qk9:=@List.take_of_length_le
abbrev Qka:=@Array.getElem?_eq_some_iff
abbrev Qkb:=@Go.Proofs.Tryz.underlying3
abbrev Qkc:=@Array.getElem?_toList
abbrev Qkd:=@Nat.le_trans
abbrev Qke:=@Nat.zero_add
abbrev Qkf:=@decide_eq_false
abbrev Qkg:=@Bool.not_eq_true'
abbrev Qkh:=@List.getElem?_map
abbrev Qki:=@List.getElem?_set
namespace Go.Vx
abbrev U:=Nat × Nat × Int × Int × Int
def Br (u:U):List D:=[Q4 (u.1:Int),Q4 (u.2.1:Int),Q4 u.2.2.1,Q4 u.2.2.2.1,Q4 u.2.2.2.2]
def Rp (us:List U) (u:U):List U:=if 0<u.2.2.2.1 then us++[u] else us
theorem Fb {us:List U} {u:U}:(Rp us u).length<=us.length+1:=by
 unfold Rp;split <;> simp
namespace Cx
variable {X:Cx} {per:Int} {Ch Sy A:LL} {tl:List Int}
def endV (X:Cx) (per:Int) (tl:List Int) (i k:Nat) (at':Int):Int:=at'+X.runV per tl i k+(if (X.gapV per tl i k).2=true then (X.gapV per tl i k).1 else 60)
def occU (train:Nat) (laps at':Int) (us:List U) (l:List Occ):List U:=l.foldl (fun us o=>Rp us (o.1.toNat,train,at'+o.2.1,o.2.2-o.2.1,laps)) us
def stM (X:Cx) (per:Int) (tl:List Int) (mv c:Bool) (idx train:Nat) (laps:Int) (i k:Nat) (s:Int × List U):Int × List U:=
 (X.endV per tl i k s.1,Rp (bif mv then occU train laps s.1 (if c=false/\idx=0/\k=0 then Rp s.2 (sec (X.st i k) 0,train,s.1-60,60,laps) else s.2) (X.stair i k) else if c=false/\idx=0/\k=0 then Rp s.2 (sec (X.st i k) 0,train,s.1-60,60,laps) else s.2) (sec (X.st i k) ((X.st i k).length-1),train,s.1+X.run i k,X.endV per tl i k s.1-s.1-X.run i k,laps))
def rideM (X:Cx) (per:Int) (tl:List Int) (mv c:Bool) (idx train:Nat) (laps:Int) (i:Nat) (s:Int × List U):Nat->Int × List U
 |0=>s
 |k+1=>X.stM per tl mv c idx train laps i k (rideM X per tl mv c idx train laps i s k)
def lineM (X:Cx) (per:Int) (tl:List Int) (mv c:Bool) (train:Nat) (laps:Int) (ls:List Nat) (s:Int × List U):Nat->Int × List U
 |0=>s
 |j+1=>X.rideM per tl mv c j train laps (ls.getD j 0) (lineM X per tl mv c train laps ls s j) (X.nr (ls.getD j 0))
def trainM (X:Cx) (per:Int) (tl:List Int) (mv:Bool) (us:List U) (train:Nat) (r:List Nat × Bool):List U:=(X.lineM per tl mv r.2 train (X.lapsV per tl r.1 r.2) r.1 (tat tl ((2*base X.nr (r.1.getD 0 0):Nat):Int),us) r.1.length).2
def usesM (X:Cx) (per:Int) (tl:List Int) (mv:Bool) (rs:List (List Nat × Bool)):Nat->List U
 |0=>[]
 |j+1=>X.trainM per tl mv (usesM X per tl mv rs j) j (rs.getD j ([],false))
variable (g:X.Gd per Ch Sy A tl)
include g
theorem Gd.endV_rng {i k:Nat} (hi:i<X.Ls.length) (hk:k<X.nr i) {a:Int}:a-140000<=X.endV per tl i k a/\X.endV per tl i k a<=a+140000:=by
 have b:=g.runV_rng hi hk;have h2:=g.gapV_rng hi hk;unfold endV;split <;> omega
omit g in
theorem C9 {train:Nat} {laps a:Int}:∀ {l:List Occ} {us:List U},(occU train laps a us l).length<=us.length+l.length
 |[],us=>by simp [occU]
 |o::l,us=>by
  have:=C9 (train:=train) (laps:=laps) (a:=a) (l:=l) (us:=Rp us (o.1.toNat,train,a+o.2.1,o.2.2-o.2.1,laps));have:=Fb (us:=us) (u:=(o.1.toNat,train,a+o.2.1,o.2.2-o.2.1,laps));rw [List.length_cons];unfold occU at *
  rw [List.foldl_cons];omega
theorem Gd.rideM_rng {mv c:Bool} {idx train:Nat} {laps:Int} {i:Nat} (hi:i<X.Ls.length) {s:Int × List U}:∀ {k:Nat},k<=X.nr i->s.1-140000*(k:Int)<=(X.rideM per tl mv c idx train laps i s k).1/\(X.rideM per tl mv c idx train laps i s k).1<=s.1+140000*(k:Int)/\(X.rideM per tl mv c idx train laps i s k).2.length<=s.2.length+8*k
 |0,_=>by simp [rideM]
 |k+1,hk=>by
  have ih:=Gd.rideM_rng (mv:=mv) (c:=c) (idx:=idx) (train:=train) (laps:=laps) hi (s:=s) (k:=k) (by omega);have he:=g.endV_rng hi (show k<X.nr i by omega) (a:=(X.rideM per tl mv c idx train laps i s k).1);rw [rideM];unfold stM;refine ⟨by dsimp only;omega,by dsimp only;omega,Qkd Fb ?_⟩;have b:=(Ck g.ok hi (show k<X.nr i by omega)).2;have hf:(if c=false/\idx=0/\k=0 then Rp (X.rideM per tl mv c idx train laps i s k).2 (sec (X.st i k) 0,train,(X.rideM per tl mv c idx train laps i s k).1-60,60,laps) else (X.rideM per tl mv c idx train laps i s k).2).length<=(X.rideM per tl mv c idx train laps i s k).2.length+1:=by
   split
   ·exact Fb
   ·omega
  cases mv with
  |false=>rw [cond_false];omega
  |true=>
   rw [Qk5];have:=C9 (train:=train) (laps:=laps) (a:=(X.rideM per tl true c idx train laps i s k).1) (l:=X.stair i k) (us:=if c=false/\idx=0/\k=0 then Rp (X.rideM per tl true c idx train laps i s k).2 (sec (X.st i k) 0,train,(X.rideM per tl true c idx train laps i s k).1-60,60,laps) else (X.rideM per tl true c idx train laps i s k).2);omega
theorem Gd.lineM_rng {mv c:Bool} {train:Nat} {laps:Int} {ls:List Nat} (ac:∀ i∈ls,i<X.Ls.length) {s:Int × List U}:∀ {j:Nat},j<=ls.length->s.1-280000*(j:Int)<=(X.lineM per tl mv c train laps ls s j).1/\(X.lineM per tl mv c train laps ls s j).1<=s.1+280000*(j:Int)/\(X.lineM per tl mv c train laps ls s j).2.length<=s.2.length+16*j
 |0,_=>by simp [lineM]
 |j+1,hj=>by
  have ih:=Gd.lineM_rng (mv:=mv) (c:=c) (train:=train) (laps:=laps) ac (s:=s) (j:=j) (by omega);have e:=QjV (l:=ls) (i:=j) (by omega);have hi:=ac _ (QjU e);have hn:=(H9 g.ok hi).2.1;have hd:ls.getD j 0=ls[j]:=by rw [QjY,e];rfl
  rw [lineM,hd];have:=g.rideM_rng (mv:=mv) (c:=c) (idx:=j) (train:=train) (laps:=laps) hi (s:=X.lineM per tl mv c train laps ls s j) (Qk2 (X.nr ls[j]));omega
omit g in
theorem Q9l {rs:List (List Nat × Bool)}:∀ {j:Nat} {r:List Nat × Bool},rs[j]? = some r->Q3u (rs.take (j+1))=Q3u (rs.take j)+r.1.length:=by
 induction rs with
 |nil=>exact fun h=>by simp at h
 |cons a rs ih=>
  intro j r e;cases j with
  |zero=>cases e;simp [Q3u]
  |succ j=>
   have:=ih (j:=j) (by simpa using e);rw [List.take_succ_cons,List.take_succ_cons,Q3u,Q3u,this];omega
omit g in
theorem Q7K {rs:List (List Nat × Bool)}:∀ {j:Nat},Q3u (rs.take j)<=Q3u rs:=by
 induction rs with
 |nil=>simp
 |cons a rs ih=>
  intro j;cases j with
  |zero=>exact Nat.zero_le _
  |succ j=>rw [List.take_succ_cons,Q3u,Q3u];exact Nat.add_le_add_left ih _
structure RsOK (X:Cx) (rs:List (List Nat × Bool)):Prop where
 ls:∀ r∈rs,1<=r.1.length/\∀ i∈r.1,i<X.Ls.length
 sum:Q3u rs<=3
omit g in
theorem RsOK.len3 {rs:List (List Nat × Bool)} (hr:X.RsOK rs) {j:Nat} {r:List Nat × Bool} (e:rs[j]? = some r):r.1.length<=3:=by
 have:=Q9l e;have:=Q7K (rs:=rs) (j:=j+1);have:=hr.sum;omega
omit g in
theorem RsOK.n3:∀ {rs:List (List Nat × Bool)},X.RsOK rs->rs.length<=Q3u rs
 |[],_=>Qk2 _
 |a::rs,hr=>by
  have:=hr.ls a (.head _);have ih:=RsOK.n3 (rs:=rs) ⟨fun r h=>hr.ls r (.tail _ h),by have:=hr.sum;rw [Q3u] at this;omega⟩;rw [List.length_cons,Q3u];omega
omit g in
theorem Q58 {P:List U->Prop} {train:Nat} {laps a:Int}:∀ {l:List Occ} {us:List U},(∀ us u,P us->u.2.1=train->P (Rp us u))->P us->P (occU train laps a us l)
 |[],us,_,h=>h
 |o::l,us,hP,h=>by
  unfold occU;rw [List.foldl_cons];exact Q58 hP (hP _ _ h rfl)
omit g in
theorem QbP {P:List U->Prop} {mv c:Bool} {idx train:Nat} {laps:Int} (hP:∀ us u,P us->u.2.1=train->P (Rp us u)) {i k:Nat} {s:Int × List U} (h:P s.2):P (X.stM per tl mv c idx train laps i k s).2:=by
 unfold stM;refine hP _ _ ?_ rfl;have hf:P (if c=false/\idx=0/\k=0 then Rp s.2 (sec (X.st i k) 0,train,s.1-60,60,laps) else s.2):=by
  split
  ·exact hP _ _ h rfl
  ·exact h
 cases mv with
 |false=>exact hf
 |true=>exact Q58 hP hf
omit g in
theorem Q3H {P:List U->Prop} {mv c:Bool} {idx train:Nat} {laps:Int} (hP:∀ us u,P us->u.2.1=train->P (Rp us u)) {i:Nat} {s:Int × List U} (h:P s.2):∀ {k:Nat},P (X.rideM per tl mv c idx train laps i s k).2
 |0=>h
 |k+1=>by
  rw [rideM];exact QbP hP (Q3H hP h)
omit g in
theorem LK {P:List U->Prop} {mv c:Bool} {train:Nat} {laps:Int} {ls:List Nat} (hP:∀ us u,P us->u.2.1=train->P (Rp us u)) {s:Int × List U} (h:P s.2):∀ {j:Nat},P (X.lineM per tl mv c train laps ls s j).2
 |0=>h
 |j+1=>by
  rw [lineM];exact Q3H hP (LK hP h)
end Cx
theorem Q9P {a b:List U} {u:U} (h:a.Sublist b):(Rp a u).Sublist (Rp b u):=by
 grind [Rp]
theorem QcC {a b:List U} {u:U} (h:a.Sublist b):a.Sublist (Rp b u):=by
 grind [Rp,List.sublist_append_left]
theorem P2 {us:List U} {u v:U} (h:v∈Rp us u):v∈us\/v=u/\0<u.2.2.2.1:=by
 grind [Rp]
theorem NY {us:List U} {u v:U} (h:v∈us):v∈Rp us u:=by
 grind [Rp,List.mem_append_left]
theorem C4 {us:List U} {u:U} (h:0<u.2.2.2.1):u∈Rp us u:=by
 grind [Rp]
structure CovI (t:Nat) (lo hi:Int) (us:List U):Prop where
 le:lo<=hi
 nn:0<=hi
 bd:∀ u∈us,u.2.1=t->u.2.2.1<=hi/\lo<=u.2.2.1+u.2.2.2.1
 cv:∀ s,lo<=s->s<hi->∃ u∈us,u.2.1=t/\u.2.2.1<=s/\s<u.2.2.1+u.2.2.2.1
theorem CovI.other {t:Nat} {lo hi:Int} {us:List U} (h:CovI t lo hi us) {u:U} (hu:u.2.1≠t):CovI t lo hi (Rp us u) where
 le:=h.le
 nn:=h.nn
 bd:=fun v hv e=>by
  rcases P2 hv with hv | ⟨rfl,_⟩
  ·exact h.bd v hv e
  ·exact absurd e hu
 cv:=fun s a b=>by
  obtain ⟨v,hv,r⟩:=h.cv s a b;exact ⟨v,NY hv,r⟩
theorem CovI.mid {t:Nat} {lo hi:Int} {us:List U} (h:CovI t lo hi us) {u:U} (a:u.2.2.1<=hi) (h2:lo<=u.2.2.1+u.2.2.2.1):CovI t lo hi (Rp us u) where
 le:=h.le
 nn:=h.nn
 bd:=fun v hv e=>by
  rcases P2 hv with hv | ⟨rfl,_⟩
  ·exact h.bd v hv e
  ·exact ⟨a,h2⟩
 cv:=fun s b a=>by
  obtain ⟨v,hv,r⟩:=h.cv s b a;exact ⟨v,NY hv,r⟩
theorem CovI.post {t:Nat} {lo hi ac:Int} {us:List U} (h:CovI t lo hi us) {u:U} (ht:u.2.1=t) (c:u.2.2.1=hi) (h2:u.2.2.2.1=ac-hi) (a:hi<=ac):CovI t lo ac (Rp us u) where
 le:=Int.le_trans h.le a
 nn:=Int.le_trans h.nn a
 bd:=fun v hv e=>by
  have:=h.le;rcases P2 hv with hv | ⟨rfl,_⟩
  ·have:=h.bd v hv e;omega
  ·omega
 cv:=fun s b hs=>by
  by_cases hc:s<hi
  ·obtain ⟨v,hv,r⟩:=h.cv s b hc;exact ⟨v,NY hv,r⟩
  ·exact ⟨u,C4 (by omega),ht,by omega,by omega⟩
theorem CovI.pre {t:Nat} {lo ac hi:Int} {us:List U} (h:CovI t lo hi us) {u:U} (ht:u.2.1=t) (b:u.2.2.1=ac) (h2:u.2.2.2.1=lo-ac) (a:ac<=lo):CovI t ac hi (Rp us u) where
 le:=Int.le_trans a h.le
 nn:=h.nn
 bd:=fun v hv e=>by
  have:=h.le;rcases P2 hv with hv | ⟨rfl,_⟩
  ·have:=h.bd v hv e;omega
  ·omega
 cv:=fun s c hs=>by
  by_cases hc:lo<=s
  ·obtain ⟨v,hv,r⟩:=h.cv s hc hs;exact ⟨v,NY hv,r⟩
  ·exact ⟨u,C4 (by omega),ht,by omega,by omega⟩
theorem CovI.any {t:Nat} {lo hi:Int} {us:List U} (h:CovI t lo hi us) {u v:U} (hu:u∈us) (hv:v∈us) (tu:u.2.1=t) (tv:v.2.1=t) {s:Int} (c:u.2.2.1<=s) (h2:s<v.2.2.1+v.2.2.2.1):∃ w∈us,w.2.1=t/\w.2.2.1<=s/\s<w.2.2.1+w.2.2.2.1:=by
 have bu:=h.bd u hu tu;have bv:=h.bd v hv tv;by_cases a:s<lo
 ·grind
 ·by_cases b:s<hi
  ·exact h.cv s (by omega) b
  grind
namespace Cx
variable {X:Cx} {per:Int} {Ch Sy A:LL} {tl:List Int}
theorem Q4w {train:Nat} {laps a:Int} {c:List U}:∀ {l:List Occ} {us:List U},c.Sublist us->c.Sublist (occU train laps a us l):=fun {l us} h=>by
 induction l generalizing us with
 |nil=>exact h
 |cons o l ih=>exact ih (QcC h)
theorem Q6b {train:Nat} {laps a:Int} {l:List Occ} {us:List U} {q:Occ} (hq:q∈l) (hl:q.2.1<q.2.2):(q.1.toNat,train,a+q.2.1,q.2.2-q.2.1,laps)∈occU train laps a us l:=by
 induction l generalizing us with
 |nil=>nomatch hq
 |cons o l ih=>
  cases hq with
  |head=>
   have b:(q.1.toNat,train,a+q.2.1,q.2.2-q.2.1,laps)∈Rp us (q.1.toNat,train,a+q.2.1,q.2.2-q.2.1,laps):=C4 (by simp_all);exact (Q4w (train:=train) (laps:=laps) (a:=a) (l:=l) (.refl (Rp us (q.1.toNat,train,a+q.2.1,q.2.2-q.2.1,laps)))).subset b
  |tail _ hq=>exact ih hq
theorem Q5F {train:Nat} {laps a:Int} {P:U->Prop} {l:List Occ} (hl:∀ q∈l,P (q.1.toNat,train,a+q.2.1,q.2.2-q.2.1,laps)):∀ {us:List U},(∀ u∈us,P u)->∀ u∈occU train laps a us l,P u:=by
 induction l with
 |nil=>exact fun h=>h
 |cons o l ih=>
  intro us h;refine ih (fun q hq=>hl q (.tail _ hq)) fun u hu=>?_
  rcases P2 hu with hu | ⟨rfl,_⟩
  all_goals grind
theorem Qbv {c:Bool} {idx train:Nat} {laps:Int} {i k:Nat} {s s':Int × List U} (a:s.1=s'.1) (h2:s.2.Sublist s'.2):(X.stM per tl false c idx train laps i k s).1=(X.stM per tl true c idx train laps i k s').1/\(X.stM per tl false c idx train laps i k s).2.Sublist (X.stM per tl true c idx train laps i k s').2:=by
 grind [stM,Q4w,Q9P]
theorem Q2h {c:Bool} {idx train:Nat} {laps:Int} {i:Nat} {s s':Int × List U} (a:s.1=s'.1) (h2:s.2.Sublist s'.2):∀ {k:Nat},(X.rideM per tl false c idx train laps i s k).1=(X.rideM per tl true c idx train laps i s' k).1/\(X.rideM per tl false c idx train laps i s k).2.Sublist (X.rideM per tl true c idx train laps i s' k).2
 |0=>⟨a,h2⟩
 |k+1=>by
  have ih:=Q2h (c:=c) (idx:=idx) (train:=train) (laps:=laps) (i:=i) a h2 (k:=k);rw [rideM,rideM];exact Qbv ih.1 ih.2
theorem Q31 {c:Bool} {train:Nat} {laps:Int} {ls:List Nat} {s s':Int × List U} (a:s.1=s'.1) (h2:s.2.Sublist s'.2):∀ {j:Nat},(X.lineM per tl false c train laps ls s j).1=(X.lineM per tl true c train laps ls s' j).1/\(X.lineM per tl false c train laps ls s j).2.Sublist (X.lineM per tl true c train laps ls s' j).2
 |0=>⟨a,h2⟩
 |j+1=>by
  have ih:=Q31 (c:=c) (train:=train) (laps:=laps) (ls:=ls) a h2 (j:=j);rw [lineM,lineM];exact Q2h ih.1 ih.2
theorem usesM_sub {rs:List (List Nat × Bool)}:∀ {j:Nat},(X.usesM per tl false rs j).Sublist (X.usesM per tl true rs j)
 |0=>.refl _
 |j+1=>by
  rw [usesM,usesM];unfold trainM;exact (Q31 (s:=(_,X.usesM per tl false rs j)) (s':=(_,X.usesM per tl true rs j)) rfl usesM_sub).2
variable (g:X.Gd per Ch Sy A tl)
include g
theorem Gd.runV_ge {i k:Nat} (hi:i<X.Ls.length) (hk:k<X.nr i):X.run i k<=X.runV per tl i k:=by
 have p0:=g.p0;unfold runV aR Mo dur;have:=Int.emod_nonneg (Vx.tat tl ((2*(base X.nr i+k)+1:Nat):Int)-Vx.tat tl ((2*(base X.nr i+k):Nat):Int)-X.run i k) (show per≠0 by omega)
 grind
theorem Gd.gapV_ge {i k:Nat} (hi:i<X.Ls.length) (hk:k<X.nr i):0<=(X.gapV per tl i k).1/\(k=X.nr i-1->(X.gapV per tl i k).2=true->10<=(X.gapV per tl i k).1):=by
 have p0:=g.p0;have r:=rd g.ok hi hk;have:=r.mn0;unfold gapV;split
 ·have:=Int.emod_nonneg (Vx.tat tl ((2*(base X.nr i+k+1):Nat):Int)-Vx.tat tl ((2*(base X.nr i+k)+1:Nat):Int)-X.mn i k) (show per≠0 by omega)
  grind [aD,Mo,dur]
 ·cases e:X.tn i with
  |none=>simp
  |some t=>
   have ht:=(g.ok.tr t (Q2p e).1).2.2.1;have:=Int.emod_nonneg (Vx.tat tl ((2*(base X.nr t.2.1+0):Nat):Int)-Vx.tat tl ((2*(base X.nr t.1+(X.nr t.1-1))+1:Nat):Int)-t.2.2.1) (show per≠0 by omega)
   grind [tuE,Mo,dur]
theorem Gd.endV_ge {i k:Nat} (hi:i<X.Ls.length) (hk:k<X.nr i) {a:Int}:a+X.run i k<=X.endV per tl i k a/\(k=X.nr i-1->a+X.run i k<X.endV per tl i k a):=by
 have b:=g.runV_ge hi hk;have h2:=g.gapV_ge hi hk
 grind [endV]
theorem Gd.stM_cov {c:Bool} {idx train:Nat} {laps:Int} {i k:Nat} (hi:i<X.Ls.length) (hk:k<X.nr i) {s:Int × List U} {lo:Int} (h:CovI train lo s.1 s.2) (hf:c=false/\idx=0/\k=0->lo=s.1):∃ ac,CovI train ac (X.stM per tl true c idx train laps i k s).1 (X.stM per tl true c idx train laps i k s).2/\∃ u∈(X.stM per tl true c idx train laps i k s).2,u.2.1=train/\u.1<X.G.Se.length/\0<u.2.2.1+u.2.2.2.1:=by
 have he:=(g.endV_ge hi hk (a:=s.1)).1;obtain ⟨d,⟨j,f,o,p⟩,l⟩:=Q8s g.ok hi hk;have hr:=SB g.ok hi hk;have b:∃ ac,CovI train ac s.1 (if c=false/\idx=0/\k=0 then Rp s.2 (sec (X.st i k) 0,train,s.1-60,60,laps) else s.2):=by
  split
  ·have:=hf (by assumption);exact ⟨s.1-60,h.pre rfl (by dsimp only) (by dsimp only;omega) (by omega)⟩
  ·exact ⟨lo,h⟩
 obtain ⟨ac,b⟩:=b;unfold stM;rw [Qk5];generalize (if c=false/\idx=0/\k=0 then Rp s.2 (sec (X.st i k) 0,train,s.1-60,60,laps) else s.2)=us at b;have aq:=b.le;have m:CovI train ac (s.1+X.run i k) (occU train laps s.1 us (X.stair i k)):=by
  have ao:=b.nn;refine ⟨by omega,by omega,fun u hu e=>?_,fun t n x=>?_⟩
  ·refine Q5F (P:=fun u=>u.2.1=train->u.2.2.1<=s.1+X.run i k/\ac<=u.2.2.1+u.2.2.2.1) (fun q hq _=>?_) (fun u hu e=>?_) u hu e
   ·have:=d q hq;dsimp only;omega
   ·have:=b.bd u hu e;omega
  ·by_cases ht:t<s.1
   ·obtain ⟨v,hv,r⟩:=b.cv t n ht;exact ⟨v,(Q4w (.refl us)).subset hv,r⟩
   ·obtain ⟨q,hq,h2,y⟩:=l (t-s.1) (by omega) (by omega);have:=d q hq;exact ⟨_,Q6b hq (by omega),rfl,by dsimp only;omega,by dsimp only;omega⟩
 refine ⟨ac,m.post rfl rfl (by dsimp only;omega) (by omega),_,NY (Q6b f (d j f).2.1),rfl,?_⟩;have:=d j f;have:=b.nn;dsimp only;omega
theorem Gd.rideM_cov {c:Bool} {idx train:Nat} {laps:Int} {i:Nat} (hi:i<X.Ls.length) {s:Int × List U} {lo:Int} (h:CovI train lo s.1 s.2) (hf:c=false/\idx=0->lo=s.1):∀ {k:Nat},k<X.nr i->∃ ac,CovI train ac (X.rideM per tl true c idx train laps i s (k+1)).1 (X.rideM per tl true c idx train laps i s (k+1)).2/\∃ u∈(X.rideM per tl true c idx train laps i s (k+1)).2,u.2.1=train/\u.1<X.G.Se.length/\0<u.2.2.1+u.2.2.2.1
 |0,hk=>by
  rw [rideM];exact g.stM_cov hi hk h fun e=>hf ⟨e.1,e.2.1⟩
 |k+1,hk=>by
  obtain ⟨ac,ih,_⟩:=Gd.rideM_cov (c:=c) (idx:=idx) (train:=train) (laps:=laps) hi h hf (k:=k) (by omega);rw [rideM];exact g.stM_cov hi hk ih fun e=>by omega
theorem Gd.lineM_cov {c:Bool} {train:Nat} {laps:Int} {ls:List Nat} (aj:∀ i∈ls,i<X.Ls.length) {s:Int × List U} (h:CovI train s.1 s.1 s.2):∀ {j:Nat},j<ls.length->∃ ac,CovI train ac (X.lineM per tl true c train laps ls s (j+1)).1 (X.lineM per tl true c train laps ls s (j+1)).2/\∃ u∈(X.lineM per tl true c train laps ls s (j+1)).2,u.2.1=train/\u.1<X.G.Se.length/\0<u.2.2.1+u.2.2.2.1:=by
 have step:∀ {j:Nat},j<ls.length->∀ {lo:Int},CovI train lo (X.lineM per tl true c train laps ls s j).1 (X.lineM per tl true c train laps ls s j).2->(j=0->lo=(X.lineM per tl true c train laps ls s j).1)->∃ ac,CovI train ac (X.lineM per tl true c train laps ls s (j+1)).1 (X.lineM per tl true c train laps ls s (j+1)).2/\∃ u∈(X.lineM per tl true c train laps ls s (j+1)).2,u.2.1=train/\u.1<X.G.Se.length/\0<u.2.2.1+u.2.2.2.1:=by
  intro j hj lo hc a;have e:=QjV (l:=ls) (i:=j) hj;have hi:=aj _ (QjU e);have hd:ls.getD j 0=ls[j]:=by simp_all
  have hn:=(H9 g.ok hi).2.1;obtain ⟨n,hn⟩:∃ n,X.nr ls[j]=n+1:=⟨X.nr ls[j]-1,by omega⟩;rw [lineM,hd,hn];exact g.rideM_cov hi hc (fun e=>a e.2) (by omega)
 intro j;induction j with
 |zero=>exact fun hj=>step hj h fun _=>rfl
 |succ j ih=>
  grind
structure UsOK (X:Cx) (n:Nat) (us:List U):Prop where
 lt:∀ u∈us,u.2.1<n
 cv:∀ t,t<n->∃ lo hi,CovI t lo hi us
 se:∀ t,t<n->∃ u∈us,u.2.1=t/\u.1<X.G.Se.length/\0<u.2.2.1+u.2.2.2.1
theorem Gd.usesM_cov {rs:List (List Nat × Bool)} (hr:∀ r∈rs,1<=r.1.length/\∀ i∈r.1,i<X.Ls.length):∀ {j:Nat},j<=rs.length->X.UsOK j (X.usesM per tl true rs j)
 |0,_=>⟨fun u hu=>(by nomatch hu),fun t ht=>absurd ht (Nat.not_lt_zero t),fun t ht=>absurd ht (Nat.not_lt_zero t)⟩
 |j+1,hj=>by
  have ih:=Gd.usesM_cov hr (j:=j) (by omega);have e:=QjV (l:=rs) (i:=j) (by omega);have hd:rs.getD j ([],false)=rs[j]:=by rw [QjY,e];rfl
  have ao:=hr _ (QjU e);obtain ⟨n,hn⟩:∃ n,rs[j].1.length=n+1:=⟨rs[j].1.length-1,by omega⟩;rw [usesM,hd];unfold trainM;have a:=QjV (l:=rs[j].1) (i:=0) (by omega);have b:=ao.2 _ (QjU a);have f:rs[j].1.getD 0 0=rs[j].1[0]:=by rw [QjY,a];rfl
  have ar:=Qcn g.ok b (k:=0) (by have:=(H9 g.ok b).2.1;omega);have ac:=(g.tat (i:=((2*base X.nr rs[j].1[0]:Nat):Int)) (by omega) (by omega)).2.1;rw [<- f] at ac;generalize X.lapsV per tl rs[j].1 rs[j].2=laps;generalize Vx.tat tl ((2*base X.nr (rs[j].1.getD 0 0):Nat):Int)=dep at ac ⊢;have d:CovI j dep dep (X.usesM per tl true rs j):=⟨Int.le_refl _,ac,fun u hu e=>absurd (ih.lt u hu) (by omega),fun s d o=>by omega⟩;obtain ⟨lo,c1,m⟩:=g.lineM_cov (c:=rs[j].2) (train:=j) (laps:=laps) ao.2 (s:=(dep,X.usesM per tl true rs j)) d (j:=n) (by omega);rw [hn];refine ⟨?_,fun t ht=>?_,fun t ht=>?_⟩
  ·refine LK (P:=fun us=>∀ u∈us,u.2.1<j+1) (fun us u h hu v hv=>?_) fun u hu=>Nat.lt_succ_of_lt (ih.lt u hu)
   rcases P2 hv with hv | ⟨rfl,_⟩
   ·exact h v hv
   ·omega
  ·by_cases ak:t=j
   ·subst ak;exact ⟨_,_,c1⟩
   ·obtain ⟨lo,hi,hc⟩:=ih.cv t (by omega);exact ⟨lo,hi,LK (P:=fun us=>CovI t lo hi us) (fun us u h hu=>h.other (by omega)) hc⟩
  ·by_cases ak:t=j
   ·subst ak;exact m
   ·obtain ⟨u,hu,r⟩:=ih.se t (by omega);exact ⟨u,LK (P:=fun us=>u∈us) (fun us v h _=>NY h) hu,r⟩
end Cx
def Qgn (Se:LL) (u:U):Prop:=∃ (nm:List UInt8) (a b c st:Int),Q1 Se (u.1:Int)=some [D.str nm,Q4 a,Q4 b,Q4 c,Q4 st]/\0<=st
def Qd5 (u:U):Prop := -9000000<=u.2.2.1/\u.2.2.1<=9000000/\0<u.2.2.2.1/\u.2.2.2.1<=1000000
theorem Q8O {G:Geo} {s:LL} {x d:Int} {j:Nat} (hx:Sta G x) (e:s[j]? = some [Q4 x,Q4 d]):∃ (nm:List UInt8) (a b c st:Int),Q1 G.Se (sec s j:Int)=some [D.str nm,Q4 a,Q4 b,Q4 c,Q4 st]/\0<=st:=by
 obtain ⟨nm,a,b,c,st,f,h2⟩:=hx;have ac:=(KJ f).1;have g:0<=x:=by
  unfold inB at ac;by_cases hc:0<=x
  ·exact hc
  ·rw [Qkf hc,Bool.false_and] at ac;cases ac
 have aj:((sec s j:Nat):Int)=x:=by
  unfold sec;rw [QjY,e];show ((x.toNat:Nat):Int)=x;omega
 rw [aj];exact ⟨nm,a,b,c,st,f,h2⟩
namespace Cx
variable {X:Cx}
theorem QaM (h:X.OK) {i k:Nat} (hi:i<X.Ls.length) (hk:k<X.nr i):(∃ (nm:List UInt8) (a b c st:Int),Q1 X.G.Se (sec (X.st i k) 0:Int)=some [D.str nm,Q4 a,Q4 b,Q4 c,Q4 st]/\0<=st)/\∃ (nm:List UInt8) (a b c st:Int),Q1 X.G.Se (sec (X.st i k) ((X.st i k).length-1):Int)=some [D.str nm,Q4 a,Q4 b,Q4 c,Q4 st]/\0<=st:=by
 obtain ⟨w,rides,g,h2,o,j⟩:=h.gd.ls i _ (QjV hi);have e:X.Ls[i]? = some [D.str (nmN i),Q4 0,Q4 w,D.sl 4 rides]:=by rw [QjV hi,g]
 have er:GI X.Ls i=rides:=by unfold GI;rw [e]
 have hr:∃ r x y b,rides[k]? = some r/\TH X.G X.Ro r x y b:=by
  unfold nr at hk;rw [er] at hk;rcases j with ⟨r,x,y,rfl,h⟩ | ⟨r,r',x,y,z,rfl,h,h'⟩
  ·obtain rfl:k=0:=by simpa using hk
   exact ⟨r,x,y,_,rfl,h⟩
  ·obtain rfl | rfl:k=0\/k=1:=by simp at hk;omega
   ·exact ⟨r,x,y,_,rfl,h⟩
   ·exact ⟨r',y,z,_,rfl,h'⟩
 obtain ⟨r,x,y,b,hr,rt,ex,mn,mx,s,rfl,l,d,p,q,t⟩:=hr;have eg:(GI X.Ls i).getD k []=[Q4 rt,Q4 ex,Q4 mn,Q4 mx]:=by rw [er,QjY,hr];rfl
 have m:rF X.Ls i k 0=rt:=by unfold rF;rw [eg];rfl
 have es:X.st i k=s:=by unfold st Qgb;rw [m,Qk6,l]
 rw [es];have l2:=d.l2;obtain ⟨d0,n⟩:=d.fst;obtain ⟨d1,f⟩:=d.lst;rw [show ((s.length:Nat):Int)-1=((s.length-1:Nat):Int) by omega,Qe] at f;exact ⟨Q8O d.sx n,Q8O d.sy f⟩
variable {per:Int} {Ch Sy A:LL} {tl:List Int}
theorem Q8F {P:U->Prop} {mv c:Bool} {idx train:Nat} {laps:Int} {i k:Nat} {s:Int × List U} (a:∀ u∈s.2,P u) (b:c=false/\idx=0/\k=0->P (sec (X.st i k) 0,train,s.1-60,60,laps)) (h2:mv=true->∀ q∈X.stair i k,P (q.1.toNat,train,s.1+q.2.1,q.2.2-q.2.1,laps)) (d:0<X.endV per tl i k s.1-s.1-X.run i k->P (sec (X.st i k) ((X.st i k).length-1),train,s.1+X.run i k,X.endV per tl i k s.1-s.1-X.run i k,laps)):∀ u∈(X.stM per tl mv c idx train laps i k s).2,P u:=by
 unfold stM;intro u hu;rcases P2 hu with hu | ⟨rfl,hl⟩
 ·have hf:∀ u∈(if c=false/\idx=0/\k=0 then Rp s.2 (sec (X.st i k) 0,train,s.1-60,60,laps) else s.2),P u:=by
   split
   ·intro u hu;rcases P2 hu with hu | ⟨rfl,_⟩
    ·exact a u hu
    ·exact b (by assumption)
   ·exact a
  cases mv with
  |false=>exact hf u hu
  |true=>exact Q5F (h2 rfl) hf u hu
 ·exact d hl
variable (g:X.Gd per Ch Sy A tl)
include g
theorem Gd.stM_okN {mv c:Bool} {idx train:Nat} {laps:Int} {i k:Nat} (hi:i<X.Ls.length) (hk:k<X.nr i) {s:Int × List U} (s0 : -5500000<=s.1) (s1:s.1<=5500000) (h:∀ u∈s.2,Qd5 u):∀ u∈(X.stM per tl mv c idx train laps i k s).2,Qd5 u:=by
 have he:=g.endV_rng hi hk (a:=s.1);have hr:=SB g.ok hi hk;refine Q8F h (fun _=>⟨by dsimp only;omega,by dsimp only;omega,by dsimp only;omega,by dsimp only;omega⟩) (fun _ q hq=>?_) fun hl=>⟨by dsimp only;omega,by dsimp only;omega,hl,by dsimp only;omega⟩
 have:=(Ck g.ok hi hk).1.mem q hq;exact ⟨by dsimp only;omega,by dsimp only;omega,by dsimp only;omega,by dsimp only;omega⟩
theorem Gd.rideM_all {P:U->Prop} {mv c:Bool} {idx train:Nat} {laps:Int} {i:Nat} (hi:i<X.Ls.length) (H:∀ (k:Nat) (s:Int × List U),k<X.nr i -> -5500000<=s.1->s.1<=5500000->(∀ u∈s.2,P u)->∀ u∈(X.stM per tl mv c idx train laps i k s).2,P u) {s:Int × List U} (s0 : -5000000<=s.1) (s1:s.1<=5000000) (hs:∀ u∈s.2,P u):∀ {k:Nat},k<=X.nr i->∀ u∈(X.rideM per tl mv c idx train laps i s k).2,P u
 |0,_=>hs
 |k+1,hk=>by
  have hn:=(H9 g.ok hi).2.1;have ih:=Gd.rideM_all hi H s0 s1 hs (k:=k) (by omega);have hb:=g.rideM_rng (mv:=mv) (c:=c) (idx:=idx) (train:=train) (laps:=laps) hi (s:=s) (k:=k) (by omega);rw [rideM];exact H k _ (by omega) (by omega) (by omega) ih
theorem Gd.lineM_all {P:U->Prop} {mv c:Bool} {train:Nat} {laps:Int} {ls:List Nat} (ac:∀ i∈ls,i<X.Ls.length) (aj:ls.length<=3) (H:∀ (idx i k:Nat) (s:Int × List U),i<X.Ls.length->k<X.nr i -> -5500000<=s.1->s.1<=5500000->(∀ u∈s.2,P u)->∀ u∈(X.stM per tl mv c idx train laps i k s).2,P u) {s:Int × List U} (s0:0<=s.1) (s1:s.1<=300) (hs:∀ u∈s.2,P u):∀ {j:Nat},j<=ls.length->∀ u∈(X.lineM per tl mv c train laps ls s j).2,P u
 |0,_=>hs
 |j+1,hj=>by
  have e:=QjV (l:=ls) (i:=j) (by omega);have hi:=ac _ (QjU e);have hd:ls.getD j 0=ls[j]:=by rw [QjY,e];rfl
  have hb:=g.lineM_rng (mv:=mv) (c:=c) (train:=train) (laps:=laps) ac (s:=s) (j:=j) (by omega);have ih:=Gd.lineM_all ac aj H s0 s1 hs (j:=j) (by omega);rw [lineM,hd];exact g.rideM_all hi (fun k s hk=>H j _ k s hi hk) (by omega) (by omega) ih (Qk2 _)
theorem Gd.usesM_all {P:U->Prop} {mv:Bool} {rs:List (List Nat × Bool)} (hr:X.RsOK rs) (H:∀ (c:Bool) (train:Nat) (laps:Int) (idx i k:Nat) (s:Int × List U),i<X.Ls.length->k<X.nr i -> -5500000<=s.1->s.1<=5500000->(∀ u∈s.2,P u)->∀ u∈(X.stM per tl mv c idx train laps i k s).2,P u):∀ {j:Nat},j<=rs.length->∀ u∈X.usesM per tl mv rs j,P u
 |0,_=>fun u hu=>(by nomatch hu)
 |j+1,hj=>by
  have e:=QjV (l:=rs) (i:=j) (by omega);have hd:rs.getD j ([],false)=rs[j]:=by rw [QjY,e];rfl
  have ac:=hr.ls _ (QjU e);have a:=QjV (l:=rs[j].1) (i:=0) (by omega);have b:=ac.2 _ (QjU a);have d:rs[j].1.getD 0 0=rs[j].1[0]:=by rw [QjY,a];rfl
  have f:=Ye g.ok (i:=rs[j].1[0]) (by omega);have ak:=Qcn g.ok b (k:=0) (by have:=(H9 g.ok b).2.1;omega);have ht:=g.tat (i:=((2*base X.nr rs[j].1[0]:Nat):Int)) (by omega) (by omega);have p1:=g.p1;rw [usesM,hd];unfold trainM;rw [d];exact g.lineM_all ac.2 (hr.len3 e) (fun idx i k s=>H _ _ _ idx i k s) (by dsimp only;omega) (by dsimp only;omega) (Gd.usesM_all hr H (by omega)) (Qk2 _)
theorem Gd.usesM_okN {mv:Bool} {rs:List (List Nat × Bool)} (hr:X.RsOK rs):∀ u∈X.usesM per tl mv rs rs.length,Qd5 u:=g.usesM_all hr (fun c train laps idx i k s hi hk s0 s1 h=>g.stM_okN hi hk s0 s1 h) (Qk2 _)
theorem Gd.usesM_okS {rs:List (List Nat × Bool)} (hr:X.RsOK rs):∀ u∈X.usesM per tl false rs rs.length,Qgn X.G.Se u:=g.usesM_all (P:=Qgn X.G.Se) (mv:=false) hr (fun c train laps idx i k s hi hk s0 s1 h=>Q8F h (fun _=>(QaM g.ok hi hk).1) (fun e=>absurd e Bool.false_ne_true) fun _=>(QaM g.ok hi hk).2) (Qk2 _)
theorem Gd.usesM_one {mv:Bool} {rs:List (List Nat × Bool)} (hr:X.RsOK rs) (b:1<=rs.length):∃ u,u∈X.usesM per tl mv rs rs.length:=by
 obtain ⟨n,hn⟩:∃ n,rs.length=n+1:=⟨rs.length-1,by omega⟩;have e:=QjV (l:=rs) (i:=n) (by omega);have hd:rs.getD n ([],false)=rs[n]:=by rw [QjY,e];rfl
 have ac:=hr.ls _ (QjU e);obtain ⟨m,hm⟩:∃ m,rs[n].1.length=m+1:=⟨rs[n].1.length-1,by omega⟩;have e':=QjV (l:=rs[n].1) (i:=m) (by omega);have hi:=ac.2 _ (QjU e');have aj:rs[n].1.getD m 0=rs[n].1[m]:=by rw [QjY,e'];rfl
 have ak:=(H9 g.ok hi).2.1;obtain ⟨k,hk⟩:∃ k,X.nr rs[n].1[m]=k+1:=⟨X.nr rs[n].1[m]-1,by omega⟩;rw [hn,usesM,hd];unfold trainM;rw [hm,lineM,aj,hk,rideM];generalize X.rideM per tl mv rs[n].2 m n (X.lapsV per tl rs[n].1 rs[n].2) rs[n].1[m] _ k=s;have:=(g.endV_ge hi (k:=k) (by omega) (a:=s.1)).2 (by omega);unfold stM;exact ⟨_,C4 (by dsimp only;omega)⟩
end Cx
end Go.Vx
namespace Go.Vx
variable {R:Type} (n:Nat)
def QJ (d:Int) (e:LL) (b f g:Int) (k0:Int->Bool->LL->oP R):Nat->Int->LL->oP R
 | 0,_,_=>none
 | m+1,a,h=>bif decide (a<b) then gb true (Q1 e a) [] fun c=>gb true (c[0]?) oF fun j=>gb true (c[1]?) oF fun i=>gb true (c[2]?) oF fun k=>gb true (pIw j) 0 fun l=>gb true (pIw i) 0 fun o=>gb true (pIw k) 0 fun p=>gb true (pIw i) 0 fun q=>gb true (Q8 n l (wJ (d+o)) (wJ (p-q)) h f g some) [] fun r=>QJ d e b f g k0 m (wJ (a+1)) r else k0 a (decide (a<b)) h
def Qn (ai c:Int) (aj:LL) (s h:Int) (ak:Bool) (i:Int) (t u v x y:D) (d z aa ab ac al o p:LL) (e:Int) (f g:LL) (ad:Bool) (q:LL) (r:Int) (k0:Int->Int->Bool->LL->oP R):Nat->Int->Int->LL->oP R
 | 0,_,_,_=>none
 | m+1,a,b,am=>bif decide (b<s) then gb true (Q1 aj b) [] fun an=>gb true (an[0]?) oF fun bo=>gb true (an[1]?) oF fun dt=>gb true (an[2]?) oF fun du=>gb true (an[3]?) oF fun dw=>gb true (pIw bo) 0 fun bp=>gb true (Q1 al bp) [] fun ap=>gb true (ap[0]?) oF fun j=>gb true (ap[1]?) oF fun ae=>bif (bif (bif !ak then (ai == 0) else false) then (b == 0) else false) then gb true (pSl 2 j) [] fun bq=>gb true (Q1 bq 0) [] fun br=>gb true (br[0]?) oF fun bt=>gb true (pIw bt) 0 fun bu=>gb true (Q8 n bu (wJ (a-60)) 60 am h i some) [] fun aq=>gb true (pSl 2 j) [] fun bv=>gb true (pIw ae) 0 fun bx=>gb true (RD t) [] fun bz=>gb true (pIw u) 0 fun ca=>gb true (pIw v) 0 fun cb=>gb true (pIw x) 0 fun cc=>gb true (pIw y) 0 fun ce=>gb true (VU n z aa ab ac bv bx bz ca cb cc ce Tu3) ([],0,0) fun ag=>bif ad then QJ n a ag.1 (ag.1.length:Int) h i (fun dx dy cf=>gb true (Xl n e f g d c b some) 0 fun ar=>jn (fun (au av:Int)=>gb true (pSl 2 j) [] fun cg=>gb true (pSl 2 j) [] fun ch=>gb true (pIw ae) 0 fun ci=>gb true (Q1 cg (wJ ((wJ ((ch.length:Int)-ci))-1))) [] fun cj=>gb true (cj[0]?) oF fun ck=>gb true (pIw ck) 0 fun cm=>gb true (Q8 n cm (wJ (a+au)) (wJ ((wJ (av-a))-au)) cf h i some) [] fun cn=>Qn ai c aj s h ak i t u v x y d z aa ab ac al o p e f g ad q r k0 m av (wJ (b+1)) cn) fun aw=>gb true (X0 n o p e f g q d r c b Tu2) (0,false) fun ax=>bif ax.2 then aw ag.2.1 (wJ ((wJ (a+ar))+ax.1)) else aw ag.2.1 (wJ ((wJ (a+ar))+60))) n 0 aq else gb true (Xl n e f g d c b some) 0 fun ay=>jn (fun (az ba:Int)=>gb true (pSl 2 j) [] fun co=>gb true (pSl 2 j) [] fun cp=>gb true (pIw ae) 0 fun cq=>gb true (Q1 co (wJ ((wJ ((cp.length:Int)-cq))-1))) [] fun cr=>gb true (cr[0]?) oF fun cs=>gb true (pIw cs) 0 fun ct=>gb true (Q8 n ct (wJ (a+az)) (wJ ((wJ (ba-a))-az)) aq h i some) [] fun cu=>Qn ai c aj s h ak i t u v x y d z aa ab ac al o p e f g ad q r k0 m ba (wJ (b+1)) cu) fun bb=>gb true (X0 n o p e f g q d r c b Tu2) (0,false) fun bc=>bif bc.2 then bb ag.2.1 (wJ ((wJ (a+ay))+bc.1)) else bb ag.2.1 (wJ ((wJ (a+ay))+60)) else gb true (pSl 2 j) [] fun cv=>gb true (pIw ae) 0 fun cw=>gb true (RD t) [] fun cx=>gb true (pIw u) 0 fun cy=>gb true (pIw v) 0 fun cz=>gb true (pIw x) 0 fun da=>gb true (pIw y) 0 fun db=>gb true (VU n z aa ab ac cv cw cx cy cz da db Tu3) ([],0,0) fun ah=>bif ad then QJ n a ah.1 (ah.1.length:Int) h i (fun dz ea dc=>gb true (Xl n e f g d c b some) 0 fun bd=>jn (fun (be bg:Int)=>gb true (pSl 2 j) [] fun dd=>gb true (pSl 2 j) [] fun de=>gb true (pIw ae) 0 fun df=>gb true (Q1 dd (wJ ((wJ ((de.length:Int)-df))-1))) [] fun dg=>gb true (dg[0]?) oF fun dh=>gb true (pIw dh) 0 fun di=>gb true (Q8 n di (wJ (a+be)) (wJ ((wJ (bg-a))-be)) dc h i some) [] fun dj=>Qn ai c aj s h ak i t u v x y d z aa ab ac al o p e f g ad q r k0 m bg (wJ (b+1)) dj) fun bh=>gb true (X0 n o p e f g q d r c b Tu2) (0,false) fun bi=>bif bi.2 then bh ah.2.1 (wJ ((wJ (a+bd))+bi.1)) else bh ah.2.1 (wJ ((wJ (a+bd))+60))) n 0 am else gb true (Xl n e f g d c b some) 0 fun bj=>jn (fun (bk bl:Int)=>gb true (pSl 2 j) [] fun dk=>gb true (pSl 2 j) [] fun dl=>gb true (pIw ae) 0 fun dn=>gb true (Q1 dk (wJ ((wJ ((dl.length:Int)-dn))-1))) [] fun dp=>gb true (dp[0]?) oF fun dq=>gb true (pIw dq) 0 fun dr=>gb true (Q8 n dr (wJ (a+bk)) (wJ ((wJ (bl-a))-bk)) am h i some) [] fun ds=>Qn ai c aj s h ak i t u v x y d z aa ab ac al o p e f g ad q r k0 m bl (wJ (b+1)) ds) fun bm=>gb true (X0 n o p e f g q d r c b Tu2) (0,false) fun bn=>bif bn.2 then bm ah.2.1 (wJ ((wJ (a+bj))+bn.1)) else bm ah.2.1 (wJ ((wJ (a+bj))+60)) else k0 a b (decide (b<s)) am
def Xp (f:LL) (d g:Int) (h:Bool) (i:Int) (j k l o p q r c s:LL) (t:Int) (u v:LL) (x:Bool) (y:LL) (z:Int) (k0:Int->Int->Bool->LL->oP R):Nat->Int->Int->LL->oP R
 | 0,_,_,_=>none
 | m+1,aa,a,ab=>bif decide (a<d) then gb true (Q1 f a) [] fun ad=>gb true (ad[0]?) oF fun ae=>gb true (pIw ae) 0 fun e=>gb true (Q1 c e) [] fun ag=>gb true (ag[1]?) oF fun ah=>gb true (pIw ah) 0 fun ai=>gb true (Q1 q ai) [] fun b=>gb true (b[0]?) oF fun aj=>gb true (b[1]?) oF fun ak=>gb true (b[2]?) oF fun al=>gb true (b[3]?) oF fun am=>gb true (b[4]?) oF fun an=>gb true (Q1 c e) [] fun ao=>gb true (ao[3]?) oF fun ap=>gb true (pSl 4 ap) [] fun ac=>Qn n a e ac (ac.length:Int) g h i aj ak al am an j k l o p r c s t u v x y z (fun aq au av ar=>Xp f d g h i j k l o p q r c s t u v x y z k0 m aq (wJ (a+1)) ar) n aa 0 ab else k0 aa a (decide (a<d)) ab
def Zc (l m o p q r d e:LL) (f:Int) (g c:LL) (s:Bool) (h a:LL) (i:Int) (t:LL) (a1:Int) (b:LL) (j:Bool) (K:LL->oP R):oP R:= gb true (ZD n d e f g c h a i b j some) 0 fun u=>gb true (Q1 b 0) [] fun v=>gb true (v[0]?) oF fun x=>gb true (pIw x) 0 fun k=>gb true (inB (a.length) k) () fun u5=>gb true (a[k.toNat]?) [] fun r6=>gb true (r6[0]?) oF fun y=>gb true (pIw y) 0 fun z=>gb true (Q1 c (wJ (2*z))) [] fun r9=>gb true (r9[0]?) oF fun ab=>gb true (pIw ab) 0 fun ac=>Xp n b (b.length:Int) a1 j u a l m o p q r d e f g c s h i (fun ag ah ai ad=>K ad) n ac 0 t
def XO (n:Nat) (f:LL) (d:Int) (k0:Int->Int->Bool->LL->oP R):Nat->Int->Int->LL->oP R
 | 0,_,_,_=>none
 | m+1,b,a,e=>bif decide (a<d) then gb true (Q1 f a) [] fun c=>gb true (c[0]?) oF fun i=>gb true (c[1]?) oF fun j=>gb true (c[2]?) oF fun k=>gb true (c[3]?) oF fun g=>gb true (Yf ((e.length+[[Q4 b]].length)*8)) () fun l=>gb true (pSl 4 g) [] fun h=>XO n f d k0 m (wJ (b+(h.length:Int))) (wJ (a+1)) (e++[[Q4 b]]) else k0 b a (decide (a<d)) e
def Xv (c:LL) (b:Int) (d e f g h i j k:LL) (l:Int) (o p:LL) (q:Bool) (r:LL) (s:Int) (t:LL) (k0:Int->Bool->LL->oP R):Nat->Int->LL->oP R
 | 0,_,_=>none
 | m+1,a,u=>bif decide (a<b) then gb true (Q1 c a) [] fun v=>gb true (v[0]?) oF fun x=>gb true (v[1]?) oF fun y=>gb true (pSl 1 x) [] fun z=>gb true (Kl y) false fun aa=>gb true (Zc n d e f g h i j k l o p q r t s u a z aa some) [] fun ab=>Xv c b d e f g h i j k l o p q r s t k0 m (wJ (a+1)) ab else k0 a (decide (a<b)) u
def UC (f g h i:LL) (o:Int) (j k b l c p q a2:LL) (r:Bool) (K:LL->Int->oP R):oP R:= gb true (GH n f g h i o j k b l c p q Tu4) (0,[],[],0) fun a=>bif (a.2.2.2 != 0) then K [] a.2.2.2 else gb true (JU n a.1 a.2.1 a.2.2.1 a2 some) false fun d=>bif !d then K [] 1 else gb true (Zl n b c some) [] fun e=>XO n b (b.length:Int) (fun t x y u=>gb true (XH n b c some) [] fun m=>Xv n m (m.length:Int) f g h i j k b l a.1 a.2.2.1 a2 r e t u (fun z aa v=>K v 0) n 0 []) n 0 0 []
end Go.Vx
namespace Go.Vx
theorem Q9u {R:Type} {n res train:Nat} {us:List U} (hl:us.length<=1000) {fr len laps:Int} (K:LL->oP R):Q8 n (res:Int) fr len (us.map Br) (train:Int) laps K=K ((Rp us (res,train,fr,len,laps)).map Br):=by
 unfold Q8 Rp;by_cases h:0<len
 ·rw [show decide (len>0)=true from decide_eq_true h,Qk5,if_pos h,XF (by simp;omega),Q0,List.map_append];rfl
 ·rw [show decide (len>0)=false from Qkf h,cond_false,if_neg h]
theorem Qhw {R:Type} {n train:Nat} {us:List U} (hl:us.length<=1000) {x fr len laps:Int} (hx:0<=x) (K:LL->oP R):Q8 n x fr len (us.map Br) (train:Int) laps K=K ((Rp us (x.toNat,train,fr,len,laps)).map Br):=by
 obtain ⟨m,rfl⟩:=Int.eq_ofNat_of_zero_le hx;exact Q9u hl K
theorem Qes {R:Type} {train:Nat} {laps a:Int} (a0 : -6000000<=a) (a1:a<=6000000) {l:List Occ} (hl:∀ q∈l,0<=q.1 /\ -1000<=q.2.1/\q.2.1<q.2.2/\q.2.2<=20000) {us:List U} (hu:us.length<=600) (b:l.length<=6) {K:LL->oP R} :
  QJ 400 a (l.map enc) (((l.map enc).length:Nat):Int) (train:Int) laps (fun _ _ w=>K w) 400 0 (us.map Br)=K ((Cx.occU train laps a us l).map Br):=by
 have go:∀ (ac:List Occ) (i m:Nat) (us:List U),l.drop i=ac->ac.length<m->us.length+ac.length<=700->QJ 400 a (l.map enc) (((l.map enc).length:Nat):Int) (train:Int) laps (fun _ _ w=>K w) m (i:Int) (us.map Br)=K ((Cx.occU train laps a us ac).map Br):=by
  intro ac;induction ac with
  |nil=>
   intro i m us hd hm aj;obtain ⟨m,rfl⟩:∃ k,m=k+1:=⟨m-1,by simp at hm;omega⟩;have:=Ua hd;rw [QJ,List.length_map,show decide ((i:Int)<((l.length:Nat):Int))=false by simpa using this,cond_false];rfl
  |cons q ac ih=>
   intro i m us hd hm aj;obtain ⟨m,rfl⟩:∃ k,m=k+1:=⟨m-1,by simp at hm;omega⟩;obtain ⟨e,an,ak⟩:=Yh hd;have hq:=hl q (QjU e);have eq:Q1 (l.map enc) (i:Int)=some [Q4 q.1,Q4 q.2.1,Q4 q.2.2]:=by rw [Qe,Qkh,e];rfl
   have aq:=Fb (us:=us) (u:=(q.1.toNat,train,a+q.2.1,q.2.2-q.2.1,laps));rw [List.length_cons] at hm aj;rw [QJ,List.length_map,Qc ak,Qk5,eq];simp -implicitDefEqProofs only [Q0,QjW,Qk0,Q2,Q7 (x:=a+q.2.1) (by omega) (by omega),Q7 (x:=q.2.2-q.2.1) (by omega) (by omega),Qs (show i<=1000 by omega)];rw [Qhw (by omega) hq.1,Q0,<- List.length_map (f:=enc)];exact ih (i+1) m _ an (by omega) (by omega)
 exact go l 0 400 us rfl (by omega) (by omega)
namespace Cx
variable {X:Cx} {per:Int} {Ch Sy A:LL} {tl:List Int}
variable (g:X.Gd per Ch Sy A tl)
include g
variable {R:Type}
theorem Gd.ridesM {mv c:Bool} {idx train:Nat} {laps:Int} {i:Nat} (hi:i<X.Ls.length) {s:Int × List U} (s0 : -5000000<=s.1) (s1:s.1<=5000000) (sl:s.2.length<=500) (aw:idx<=100) {k0:Int->Int->Bool->LL->oP R} :
  Qn 400 (idx:Int) (i:Int) (GI X.Ls i) ((X.nr i:Nat):Int) (train:Int) c laps (D.str X.nm) (Q4 X.tl) (Q4 X.sp) (Q4 X.ac) (Q4 X.br) (X.fst X.L) X.G.St X.G.Pt X.G.Se X.G.Li X.Ro X.Ls Ch per A (encI tl) mv (encI ((List.range X.L).map (tix X.T))) ((X.N:Nat):Int) k0 400 s.1 0 (s.2.map Br)=k0 (X.rideM per tl mv c idx train laps i s (X.nr i)).1 ((X.nr i:Nat):Int) false ((X.rideM per tl mv c idx train laps i s (X.nr i)).2.map Br):=by
 have hn:=(H9 g.ok hi).2.1;refine Qv (r:=fun m k=>Qn 400 (idx:Int) (i:Int) (GI X.Ls i) ((X.nr i:Nat):Int) (train:Int) c laps (D.str X.nm) (Q4 X.tl) (Q4 X.sp) (Q4 X.ac) (Q4 X.br) (X.fst X.L) X.G.St X.G.Pt X.G.Se X.G.Li X.Ro X.Ls Ch per A (encI tl) mv (encI ((List.range X.L).map (tix X.T))) ((X.N:Nat):Int) k0 m (X.rideM per tl mv c idx train laps i s k.toNat).1 k ((X.rideM per tl mv c idx train laps i s k.toNat).2.map Br)) (N:=X.nr i) (fun m k hk=>?_) (fun m=>?_) (X.nr i) 400 0 (by omega) (by omega)
 ·simp only [Qk6];have r:=rd g.ok hi hk;have hr:=SB g.ok hi hk;have l2:=r.rt.l2;have l24:=r.rt.l24;have hb:=g.rideM_rng (mv:=mv) (c:=c) (idx:=idx) (train:=train) (laps:=laps) hi (s:=s) (k:=k) (by omega);have f:=g.runV_rng hi hk;have h2:=g.gapV_rng hi hk;obtain ⟨d0,_,_,_,_,_,h,_⟩:=QbN r.rt (j:=0) (by omega);obtain ⟨d1,_,_,_,_,_,e1,_⟩:=QbN r.rt (j:=(X.st i k).length-1) (by omega);have ar:Q1 (GI X.Ls i) (k:Int)=some [Q4 (rF X.Ls i k 0),Q4 (X.ex i k),Q4 (X.mn i k),Q4 (X.mx i k)]:=by rw [Qe,r.row]
  have n:Q1 (X.st i k) 0=some [Q4 (sec (X.st i k) 0:Int),Q4 d0]:=h;have p:Q1 (X.st i k) (((X.st i k).length-1:Nat):Int)=some [Q4 (sec (X.st i k) ((X.st i k).length-1):Int),Q4 d1]:=by rw [Qe,e1]
  have hw:wJ (wJ ((((X.st i k).length:Nat):Int)-0)-1)=(((X.st i k).length-1:Nat):Int):=by rw [Q7 (x:=(((X.st i k).length:Nat):Int)-0) (by omega) (by omega),Q7 (by omega) (by omega)];omega
  rw [rideM];generalize X.rideM per tl mv c idx train laps i s k=q at hb ⊢;have he:=g.endV_rng hi hk (a:=q.1);have aj:(X.gapV per tl i k).2=true->wJ (wJ (q.1+X.runV per tl i k)+(X.gapV per tl i k).1)=X.endV per tl i k q.1:=fun hg=>by
   unfold endV;rw [Q7 (x:=q.1+X.runV per tl i k) (by omega) (by omega),if_pos hg,Q7 (by omega) (by omega)]
  have ak:(X.gapV per tl i k).2=false->wJ (wJ (q.1+X.runV per tl i k)+60)=X.endV per tl i k q.1:=fun hg=>by
   unfold endV;rw [Q7 (x:=q.1+X.runV per tl i k) (by omega) (by omega),hg,if_neg Bool.false_ne_true,Q7 (by omega) (by omega)]
  rw [Qn,Qc hk,Qk5,ar];simp -implicitDefEqProofs only [jn,Q0,QjW,Qk0,Q2,QH,Xx,r.ro,QdR g.ok hi hk,g.runP hi hk,g.gapP hi hk,cond_false,hw,n,p,Qs (show k<=1000 by omega),Q7 (x:=q.1-60) (by omega) (by omega)];have fb:(bif (bif (bif !c then ((idx:Int) == 0) else false) then ((k:Int) == 0) else false) then true else false)=decide (c=false/\idx=0/\k=0):=by
   cases c
   ·by_cases f:idx=0
    ·by_cases h2:k=0
     ·subst f h2;rfl
     ·rw [show ((k:Int) == 0)=false by simp;omega,Qkf (by simp [h2])];cases (bif !false then ((idx:Int) == 0) else false) <;> rfl
    ·rw [show ((idx:Int) == 0)=false by simp;omega,Qkf (by simp [f])];rfl
   ·rw [Qkf (by simp)];rfl
  have au:(bif (bif !c then ((idx:Int) == 0) else false) then ((k:Int) == 0) else false)=decide (c=false/\idx=0/\k=0):=by
   rw [<- fb];cases (bif (bif !c then ((idx:Int) == 0) else false) then ((k:Int) == 0) else false) <;> rfl
  rw [au];unfold stM;have b:=Q7 (x:=q.1+X.run i k) (by omega) (by omega);have d:=Q7 (x:=X.endV per tl i k q.1-q.1) (by omega) (by omega);have e:=Q7 (x:=X.endV per tl i k q.1-q.1-X.run i k) (by omega) (by omega);have ho:=Ck g.ok hi hk;have hx:=(Q8s g.ok hi hk).1;have ao:∀ o∈X.stair i k,0<=o.1 /\ -1000<=o.2.1/\o.2.1<o.2.2/\o.2.2<=20000:=fun o aq=>by
   have f:=ho.1.mem o aq;have h2:=hx o aq;exact ⟨h2.1,f.2.1,h2.2.1,f.2.2.2.1⟩
  by_cases hf:c=false/\idx=0/\k=0
  ·have t:=Fb (us:=q.2) (u:=(sec (X.st i k) 0,train,q.1-60,60,laps));rw [decide_eq_true hf,Qk5,if_pos hf,Q9u (by omega),Q0];generalize Rp q.2 (sec (X.st i k) 0,train,q.1-60,60,laps)=us at t ⊢;have v:=C9 (train:=train) (laps:=laps) (a:=q.1) (l:=X.stair i k) (us:=us);cases mv
   ·simp -implicitDefEqProofs only [cond_false];cases hg:(X.gapV per tl i k).2
    ·rw [cond_false,ak hg,b,d,e,Q9u (by omega),Q0]
    ·rw [Qk5,aj hg,b,d,e,Q9u (by omega),Q0]
   ·simp -implicitDefEqProofs only [Qk5];rw [Qes (by omega) (by omega) ao (by omega) ho.2];cases hg:(X.gapV per tl i k).2
    ·rw [cond_false,ak hg,b,d,e,Q9u (by omega),Q0]
    ·rw [Qk5,aj hg,b,d,e,Q9u (by omega),Q0]
  ·rw [Qkf hf,cond_false,if_neg hf];have v:=C9 (train:=train) (laps:=laps) (a:=q.1) (l:=X.stair i k) (us:=q.2);cases mv
   ·simp -implicitDefEqProofs only [cond_false];cases hg:(X.gapV per tl i k).2
    ·rw [cond_false,ak hg,b,d,e,Q9u (by omega),Q0]
    ·rw [Qk5,aj hg,b,d,e,Q9u (by omega),Q0]
   ·simp -implicitDefEqProofs only [Qk5];rw [Qes (by omega) (by omega) ao (by omega) ho.2];cases hg:(X.gapV per tl i k).2
    ·rw [cond_false,ak hg,b,d,e,Q9u (by omega),Q0]
    ·rw [Qk5,aj hg,b,d,e,Q9u (by omega),Q0]
 ·simp only [Qk6];rw [Qn,Qi,cond_false]
theorem Gd.trainP {mv:Bool} {us:List U} (aq:us.length<=300) {train:Nat} {r:List Nat × Bool} (f:1<=r.1.length) (h:r.1.length<=3) (hr:∀ i∈r.1,i<X.Ls.length) (K:LL->oP R) :
  Zc 400 X.G.St X.G.Pt X.G.Se X.G.Li X.skR X.Ro X.Ls Ch per A (encI tl) mv (encI ((List.range X.L).map (tix X.T))) (X.fst X.L) ((X.N:Nat):Int) (us.map Br) (train:Int) (Q5r r.1) r.2 K=K ((X.trainM per tl mv us train r).map Br):=by
 obtain ⟨ls,c⟩:=r;dsimp only at f h hr ⊢;have hN:X.N<=6:=base_le g.ok;have p1:=g.p1;have b:=QjV (l:=ls) (i:=0) (by omega);have d:=hr _ (QjU b);have o:ls.getD 0 0=ls[0]:=by rw [QjY,b];rfl
 have q:=Ye g.ok (i:=ls[0]) (by omega);have ar:=Qcn g.ok d (k:=0) (by have:=(H9 g.ok d).2.1;omega);have ht:=g.tat (i:=((2*base X.nr ls[0]:Nat):Int)) (by omega) (by omega);have er:Q1 (Q5r ls) 0=some [Q4 (ls[0]:Int)]:=Q4W (j:=0) b;have ef:=Q6d (X:=X) (i:=ls[0]) (L:=X.L) d;rw [Qe] at ef;have el:(X.fst X.L).length=X.Ls.length:=by simp [fst,encI,L]
 have aj:Q1 X.skR 0=some [D.str X.nm,Q4 X.tl,Q4 X.sp,Q4 X.ac,Q4 X.br]:=rfl;unfold Zc trainM;rw [g.lapsP hr (by omega),Q0,er];dsimp only;rw [o,show (Q5r ls).length=ls.length by simp [Q5r]];generalize X.lapsV per tl ls c=laps;simp -implicitDefEqProofs only [Q0,QjW,Q2,Y0 (len:=(X.fst X.L).length) (n:=((ls[0]:Nat):Int)) (by omega) (by omega),Qk6,ef,M9 (a:=base X.nr ls[0]) (by omega),ht.1];refine Qv (r:=fun m j=>Xp 400 (Q5r ls) ((ls.length:Nat):Int) (train:Int) c laps (X.fst X.L) X.G.St X.G.Pt X.G.Se X.G.Li X.skR X.Ro X.Ls Ch per A (encI tl) mv (encI ((List.range X.L).map (tix X.T))) ((X.N:Nat):Int) (fun t u v p=>K p) m (X.lineM per tl mv c train laps ls (Vx.tat tl ((2*base X.nr ls[0]:Nat):Int),us) j.toNat).1 j ((X.lineM per tl mv c train laps ls (Vx.tat tl ((2*base X.nr ls[0]:Nat):Int),us) j.toNat).2.map Br)) (N:=ls.length) (fun m j hj=>?_) (fun m=>?_) ls.length 400 0 (by omega) (by omega)
 ·simp only [Qk6];have e:=QjV hj;have hi:=hr _ (QjU e);have hd:ls.getD j 0=ls[j]:=by rw [QjY,e];rfl
  have hb:=g.lineM_rng (mv:=mv) (c:=c) (train:=train) (laps:=laps) hr (s:=(Vx.tat tl ((2*base X.nr ls[0]:Nat):Int),us)) (j:=j) (by omega);dsimp only at hb;rw [lineM,hd];rw [Xp,Qc hj,Qk5,Q4W e];simp -implicitDefEqProofs only [Q0,QjW,Qk0,Q2,QH,Qe,(H9 g.ok hi).1,aj,Qs (show j<=1000 by omega)];exact g.ridesM hi (s:=X.lineM per tl mv c train laps ls (Vx.tat tl ((2*base X.nr ls[0]:Nat):Int),us) j) (by omega) (by omega) (by omega) (by omega)
 ·simp only [Qk6];rw [Xp,Qi,cond_false]
theorem Gd.usesM_len {mv:Bool} {rs:List (List Nat × Bool)} (hr:X.RsOK rs):∀ {j:Nat},j<=rs.length->(X.usesM per tl mv rs j).length<=16*Q3u (rs.take j)
 |0,_=>Nat.zero_le _
 |j+1,hj=>by
  have ih:=Gd.usesM_len (mv:=mv) hr (j:=j) (by omega);have e:=QjV (l:=rs) (i:=j) (by omega);have hd:rs.getD j ([],false)=rs[j]:=by rw [QjY,e];rfl
  have ac:=hr.ls _ (QjU e);have:=g.lineM_rng (mv:=mv) (c:=rs[j].2) (train:=j) (laps:=X.lapsV per tl rs[j].1 rs[j].2) ac.2 (s:=(Vx.tat tl ((2*base X.nr (rs[j].1.getD 0 0):Nat):Int),X.usesM per tl mv rs j)) (Qk2 rs[j].1.length);rw [usesM,hd,Q9l e];unfold trainM;dsimp only at this;omega
theorem Gd.usesP {mv:Bool} {rs:List (List Nat × Bool)} (hr:X.RsOK rs) (k0:LL->oP R):Xv 400 (Qbl rs) ((rs.length:Nat):Int) X.G.St X.G.Pt X.G.Se X.G.Li X.skR X.Ro X.Ls Ch per A (encI tl) mv (encI ((List.range X.L).map (tix X.T))) ((X.N:Nat):Int) (X.fst X.L) (fun _ _ w=>k0 w) 400 0 []=k0 ((X.usesM per tl mv rs rs.length).map Br):=by
 have n3:=hr.n3;have hs:=hr.sum;refine Qv (r:=fun m j=>Xv 400 (Qbl rs) ((rs.length:Nat):Int) X.G.St X.G.Pt X.G.Se X.G.Li X.skR X.Ro X.Ls Ch per A (encI tl) mv (encI ((List.range X.L).map (tix X.T))) ((X.N:Nat):Int) (X.fst X.L) (fun _ _ w=>k0 w) m j ((X.usesM per tl mv rs j.toNat).map Br)) (N:=rs.length) (fun m j hj=>?_) (fun m=>?_) rs.length 400 0 (by omega) (by omega)
 ·simp only [Qk6];have e:=QjV hj;have hd:rs.getD j ([],false)=rs[j]:=by rw [QjY,e];rfl
  have aj:=hr.ls _ (QjU e);have a:=hr.len3 e;have ak:=g.usesM_len (mv:=mv) hr (j:=j) (by omega);have:=Q7K (rs:=rs) (j:=j);have ac:Q1 (Qbl rs) (j:Int)=some [D.sl 1 (Q5r rs[j].1),D.bool rs[j].2]:=by rw [Qe];unfold Qbl;rw [Qkh,e];rfl
  rw [Xv,Qc hj,Qk5,ac,usesM,hd];simp -implicitDefEqProofs only [Q0,QjW,Qk0,QH,N3,g.trainP (show (X.usesM per tl mv rs j).length<=300 by omega) aj.1 a aj.2,Qs (show j<=1000 by omega)]
 ·simp only [Qk6];rw [Xv,Qi,cond_false]
end Cx
end Go.Vx
namespace Go.Vx
variable {R:Type} (n:Nat)
def P8 (b c d e:LL) (f:Int) (g h i j k l m a2:LL) (K:LL->Int->oP R):oP R:= gb true (UC n b c d e f g h i j k l m a2 true Tu2) ([],0) fun a=>K a.1 a.2
end Go.Vx
namespace Go.Vx
theorem T4.lt {X:Cx} {f k:Nat} {r:List D} (h:T4 X.Ls f k r):f<X.Ls.length/\k<X.nr f:=by
 obtain ⟨nm,w,rides,a,h2⟩:=h;refine ⟨(QjX.1 a).1,?_⟩;have e:GI X.Ls f=rides:=by unfold GI;rw [a]
 unfold Cx.nr;rw [e];exact (QjX.1 h2).1
theorem PlanR.lsOK {X:Cx} {per:Int} {Sk Ch Tu Sy De:LL} (h:PlanR X.G per Sk X.Ro X.Ls Ch Tu Sy De):X.LsOK per Ch Sy where
 ch:=fun row hr=>by
  obtain ⟨f,fr,t,tr,mn,mx,w,r,r',x,y,x',y',b,b',i,e,a,h2,g,j,k,c,d,_⟩:=h.ch row hr;exact ⟨f,fr,t,tr,mn,mx,w,e,a.lt.1,a.lt.2,h2.lt.1,h2.lt.2,c,d⟩
 chl:=h.chl
 sy:=fun row hr=>h.sy row hr
 syl:=h.syl
theorem Q43 {us:List U} {i:Nat} {u:U} (e:us[i]? = some u):Q1 (us.map Br) (i:Int)=some [Q4 (u.1:Int),Q4 (u.2.1:Int),Q4 u.2.2.1,Q4 u.2.2.2.1,Q4 u.2.2.2.2]:=by
 rw [Qe,Qkh,e];rfl
theorem Qa0 {per:Int} {E A:LL} {w:List Int} (a:A.all (chk per E.length)=true) (h2:TG per E.length w):Q6x per E A w=true:=by
 unfold Q6x;rw [a,h2.1];simp only [Bool.not_true,cond_false,bne_self_eq_false,List.all_eq_true,Qkg,Bool.cond_true_left,Bool.or_eq_false_iff,decide_eq_false_iff_not];intro x hx;have:=h2.2 x hx;omega
section
variable {n:Nat} {a0 a1 a2 a3:LL} {p:Int} {b1 b2 b3 b4 b5 b6 b7 t:LL}
theorem Qaw {q m:Int} {E A rr tu fs us:LL} {mv:Bool} (hb:GH n a0 a1 a2 a3 p b1 b2 b3 b4 b5 b6 b7 Tu4=some (q,E,A,0)) (hg:JU n q E A t some=some true) (ht:Zl n b3 b5 some=some tu) (hf:∀ k0:Int->LL->Option (LL × Int),XO n b3 ((b3.length:Nat):Int) (fun a _ _ w=>k0 a w) n 0 0 []=k0 m fs) (hr:XH n b3 b5 some=some rr)
  (hl:∀ k0:LL->Option (LL × Int),Xv n rr ((rr.length:Nat):Int) a0 a1 a2 a3 b1 b2 b3 b4 q A t mv tu m fs (fun _ _ w=>k0 w) n 0 []=k0 us):UC n a0 a1 a2 a3 p b1 b2 b3 b4 b5 b6 b7 t mv Tu2=some (us,0):=by
 unfold UC;rw [hb];show (gb true (JU n q E A t some) false fun h=>bif (!h) then some ([],(1:Int)) else gb true (Zl n b3 b5 some) [] fun i=>XO n b3 ((List.length b3:Nat):Int) (fun c l o d=>gb true (XH n b3 b5 some) [] fun b=>Xv n b ((List.length b:Nat):Int) a0 a1 a2 a3 b1 b2 b3 b4 q A t mv i c d (fun j k e=>some (e,(0:Int))) n (0:Int) []) n (0:Int) (0:Int) [])=_;rw [hg,Q0,ht];show (XO n b3 ((List.length b3:Nat):Int) (fun c l o d=>gb true (XH n b3 b5 some) [] fun b=>Xv n b ((List.length b:Nat):Int) a0 a1 a2 a3 b1 b2 b3 b4 q A t mv tu c d (fun j k e=>some (e,(0:Int))) n (0:Int) []) n (0:Int) (0:Int) [])=_;rw [hf (fun c d=>gb true (XH n b3 b5 some) [] fun b=>Xv n b ((List.length b:Nat):Int) a0 a1 a2 a3 b1 b2 b3 b4 q A t mv tu c d (fun j k e=>some (e,(0:Int))) n (0:Int) []),hr,Q0,hl (fun w=>some (w,(0:Int)))]
theorem QcG {l:LL} {q e:Int} {E A:LL} (hp:PQ n l Tu12=some (a0,a1,a2,a3,p,b1,b2,b3,b4,b5,b6,b7)) (hb:T8 n a0 a1 a2 a3 p b1 b2 b3 b4 b5 b6 b7 Tu4=some (q,E,A,e)) :
  JV n l Tu14=bif e != 0 then some (a0,a1,a2,a3,p,b1,b2,b3,b4,b5,b6,b7,[],false) else gb true (UF n q E A 3000 Tu3) ([],0,0) fun a=>some (a0,a1,a2,a3,p,b1,b2,b3,b4,b5,b6,b7,a.1,a.2.2 == 0):=by
 unfold JV;rw [hp,Q0];dsimp only;rw [hb,Q0]
end
namespace Cx
variable {X:Cx} (h:X.OK) {per:Int} {Ch Sy De:LL} (hl:X.LsOK per Ch Sy) {R:Type}
include h
theorem firstsP (k0:Int->LL->oP R):XO 400 X.Ls ((X.Ls.length:Nat):Int) (fun a _ _ w=>k0 a w) 400 0 0 []=k0 ((X.N:Nat):Int) (X.fst X.L):=by
 have l1:=h.l1;refine Qv (r:=fun m i=>XO 400 X.Ls ((X.Ls.length:Nat):Int) (fun a _ _ w=>k0 a w) m ((base X.nr i.toNat:Nat):Int) i (X.fst i.toNat)) (N:=X.Ls.length) (fun m i hi=>?_) (fun m=>?_) X.Ls.length 400 0 (by omega) (by omega)
 ·simp only [Qk6];have hb:=Ye h (i:=i) (by omega);have hn:=(H9 h hi).2.1;have e2:X.fst i++[[D.int .i64 (base X.nr i:Int)]]=X.fst (i+1):=by simp [fst,encI,List.range_succ]
  have c:(X.fst i).length=i:=by simp [fst,encI]
  have ha:wJ (((base X.nr i:Nat):Int)+(((GI X.Ls i).length:Nat):Int))=((base X.nr (i+1):Nat):Int):=Qa4 (a:=base X.nr i) (b:=X.nr i) (by omega);rw [XO,Qc hi,Qk5,Qe,(H9 h hi).1];simp -implicitDefEqProofs only [Q0,QjW,Qk0,QH,Qs (show i<=1000 by omega),e2,ha,XF (show ((X.fst i).length+[[D.int .i64 (base X.nr i:Int)]].length)*8<=100000 by rw [c];simp;omega)]
 ·simp only [Qk6];rw [XO,Qi,cond_false];rfl
end Cx
structure Sol (Se:LL) (us ss:List U):Prop where
 len:us.length<=48/\ss.length<=48
 sub:ss.Sublist us
 one:us≠[]/\ss≠[]
 st:∀ u∈ss,Qgn Se u
 nu:∀ u∈us,Qd5 u
 cv:∃ n,(∀ u∈us,u.2.1<n)/\(∀ t,t<n->∃ lo hi,CovI t lo hi us)/\∀ t,t<n->∃ u∈us,u.2.1=t/\u.1<Se.length/\0<u.2.2.1+u.2.2.2.1
theorem Qcl {l:List Int} (hl:l.length<=9223372036854775807):∃ (a0 a1 a2 a3:LL) (p:Int) (b1 b2 b3 b4 b5 b6 b7 t:LL) (ok:Bool),JV 400 (encI l) Tu14=some (a0,a1,a2,a3,p,b1,b2,b3,b4,b5,b6,b7,t,ok) /\
  (ok=true->a2.length<=1000/\∃ us ss:List U,Sol a2 us ss/\UC 400 a0 a1 a2 a3 p b1 b2 b3 b4 b5 b6 b7 t true Tu2=some (us.map Br,0)/\UC 400 a0 a1 a2 a3 p b1 b2 b3 b4 b5 b6 b7 t false Tu2=some (ss.map Br,0)):=by
 have hp:PQ 400 (encI l) Tu12∈(fun r=>∃ (G:Geo) (per:Int) (Sk Ro Ls Ch Tu Sy De:LL),PlanR G per Sk Ro Ls Ch Tu Sy De/\r=(G.St,G.Pt,G.Se,G.Li,per,Sk,Ro,Ls,Ch,Tu,Sy,De)):=Qgq hl fun G per Sk Ro Ls Ch Tu Sy De h=>okI ⟨G,per,Sk,Ro,Ls,Ch,Tu,Sy,De,h,rfl⟩
 obtain ⟨_,hp,G,per,Sk,Ro,Ls,Ch,Tu,Sy,De,hR,rfl⟩:=hp;obtain ⟨X,h,rfl,rfl,rfl,rfl,rfl⟩:=hR.cx;have an:=hR.lsOK;have p0:2<=per:=by have:=hR.p0;omega
 have p1:=hR.p1;have hc:J9 400 X.G.St X.G.Pt X.G.Se X.G.Li per X.skR X.Ro X.Ls Ch (X.T.map tuR) Sy De (some:Int->Option Int)=some 0:=QbR hR some;have x:Uk 400 X.G.St X.G.Pt X.G.Se X.G.Li per X.skR X.Ro X.Ls Ch (X.T.map tuR) Sy De (some:Int->Option Int)=some 0:=Qg9 hR;have hN:X.N<=6:=Cx.base_le h;have ay:=Cx.buildP h an p0 p1 hc;have aw:=Cx.buildR h an p0 p1 x;have bh:=(F5 h.g.lay).2;cases ev:X.netV per X.jns Ch Sy with
 |mk q r=>
 obtain ⟨E,A,e⟩:=r;rw [ev] at ay aw;have hs:=QcG hp aw;by_cases he:e=0
 rotate_left
 ·rw [show (e != 0)=true by simpa using he,Qk5] at hs;exact ⟨_,_,_,_,_,_,_,_,_,_,_,_,_,_,hs,fun e=>nomatch e⟩
 subst he;rw [bne_self_eq_false,cond_false] at hs;unfold Cx.netV at ev;cases ha:X.aloneJ per X.jns with
 |false=>
  rw [ha] at ev;cases ev
 |true=>
  rw [ha,Qk5] at ev;cases eh:X.hdws per X.jns X.N 0 with
  |none=>
   rw [eh] at ev;cases ev
  |some H=>
   rw [eh] at ev;cases ev;have hH:=Cx.hdws_rows eh;have bc:=Cx.planned_len h an;have bb:=Cx.hdws_len h p0 p1 (by omega) eh;have hA:(X.planned Ch Sy++H).length<400:=by rw [List.length_append];omega
   have ax:(X.evs X.L).length=2*X.N:=Cx.evs_len;have hE:(X.evs X.L).length<=48:=by omega
   have s:∀ r∈X.planned Ch Sy++H,R6 r:=fun r hr=>Cx.act_r6 h an hH hr
   have ao:=Qb7 p0 p1 hE (by omega) s hA;cases aj:(X.planned Ch Sy++H).all (chk per (X.evs X.L).length) with
   |false=>
    rw [aj] at ao;obtain ⟨res,us,hf⟩:=QfL ao;rw [hf,Q0] at hs;exact ⟨_,_,_,_,_,_,_,_,_,_,_,_,_,_,hs,fun e=>nomatch e⟩
   |true=>
    rw [aj] at ao;have ar:=List.all_eq_true.1 aj;obtain ⟨res,us,e,hf,hv⟩:=QgS p0 p1 hE hA s ar rfl ao;rw [hf,Q0] at hs;refine ⟨_,_,_,_,_,_,_,_,_,_,_,_,_,_,hs,fun a5=>?_⟩;have he:e=0:=by simpa using a5
    obtain ⟨tl,rfl,hT⟩:=hv he;have g:X.Gd per Ch Sy (X.planned Ch Sy++H) tl:=⟨h,an,p0,p1,⟨H,rfl,hH⟩,hA,by rw [hT.1,ax],hT.2,fun r hr=>by have:=ar r hr;rw [ax] at this;exact this⟩;have hg:=(Qej p0 p1 hE (by omega) s hA (tl:=tl)).1;rw [Qa0 aj hT] at hg;obtain ⟨rs,a,c,d,f,r6⟩:=Cx.rotsP h;have ac:X.RsOK rs:=⟨d,f⟩;have au:(Qbl rs).length=rs.length:=by simp [Qbl]
    have hu:=fun mv=>Qaw (mv:=mv) ay hg c (Cx.firstsP h) a (fun k0=>by rw [au];exact g.usesP (mv:=mv) ac k0)
    have l1:=g.usesM_len (mv:=true) ac (Qk2 rs.length);have l2:=g.usesM_len (mv:=false) ac (Qk2 rs.length);rw [List.take_length] at l1 l2;have ak:=g.usesM_cov ac.ls (Qk2 rs.length);obtain ⟨u1,y⟩:=g.usesM_one (mv:=true) ac r6;obtain ⟨u2,z⟩:=g.usesM_one (mv:=false) ac r6;exact ⟨by omega,X.usesM per tl true rs rs.length,X.usesM per tl false rs rs.length,⟨⟨by omega,by omega⟩,Cx.usesM_sub,⟨List.ne_nil_of_mem y,List.ne_nil_of_mem z⟩,g.usesM_okS ac,g.usesM_okN ac,rs.length,ak.lt,ak.cv,ak.se⟩,hu true,hu false⟩
theorem Qec:Kj 400 (some:Bool->Option Bool)=some true:=by kernel_rfl
end Go.Vx
namespace Go.Vx
variable {R:Type} (n:Nat)
def Qk (n:Nat) (c:Int) (b:LL) (f:Int) (g:LL) (k0:Int->Int->Bool->Int->Bool->oP R):Nat->Int->Int->Bool->Int->oP R
 | 0,_,_,_,_=>none
 | m+1,h,d,e,a=>bif decide (a<f) then gb true (Q1 b a) [] fun p=>gb true (p[1]?) oF fun q=>gb true (pIw q) 0 fun i=>gb (i == c) (Q1 b a) [] fun r=>gb (i == c) (r[0]?) oF fun s=>gb (i == c) (pIw s) 0 fun t=>bif (bif (i == c) then (decide (t<(g.length:Int))) else false) then gb (!(!e)) (Q1 b a) [] fun u=>gb (!(!e)) (u[2]?) oF fun v=>gb (!(!e)) (pIw v) 0 fun x=>bif (bif !e then true else (decide (x<h))) then gb true (Q1 b a) [] fun y=>gb true (y[2]?) oF fun z=>gb true (pIw z) 0 fun aa=>gb true (Q1 b a) [] fun ab=>gb true (ab[2]?) oF fun ac=>gb true (pIw ac) 0 fun j=>gb true (Q1 b a) [] fun ad=>gb true (ad[3]?) oF fun ae=>gb true (pIw ae) 0 fun k=>Qk n c b f g k0 m aa (if d<(wJ (j+k)) then (wJ (j+k)) else d) true (wJ (a+1)) else gb true (Q1 b a) [] fun ag=>gb true (ag[2]?) oF fun ah=>gb true (pIw ah) 0 fun l=>gb true (Q1 b a) [] fun ai=>gb true (ai[3]?) oF fun aj=>gb true (pIw aj) 0 fun o=>Qk n c b f g k0 m h (if d<(wJ (l+o)) then (wJ (l+o)) else d) true (wJ (a+1)) else Qk n c b f g k0 m h d e (wJ (a+1)) else k0 h d e a (decide (a<f))
def QN (a:Int) (f:LL) (c g:Int) (k0:Bool->oP R) (k1:Int->Bool->oP R):Nat->Int->oP R
 | 0,_=>none
 | m+1,d=>bif decide (d<g) then gb true (Q1 f d) [] fun h=>gb true (h[1]?) oF fun i=>gb true (pIw i) 0 fun b=>gb (b == a) (Q1 f d) [] fun j=>gb (b == a) (j[2]?) oF fun k=>gb (b == a) (pIw k) 0 fun e=>gb (bif (b == a) then (decide (e<=c)) else false) (Q1 f d) [] fun l=>gb (bif (b == a) then (decide (e<=c)) else false) (l[2]?) oF fun o=>gb (bif (b == a) then (decide (e<=c)) else false) (pIw o) 0 fun p=>gb (bif (b == a) then (decide (e<=c)) else false) (Q1 f d) [] fun q=>gb (bif (b == a) then (decide (e<=c)) else false) (q[3]?) oF fun r=>gb (bif (b == a) then (decide (e<=c)) else false) (pIw r) 0 fun s=>bif (bif (bif (b == a) then (decide (e<=c)) else false) then (decide (c<(wJ (p+s)))) else false) then gb true (Kj n some) false fun t=>k0 t else QN a f c g k0 k1 m (wJ (d+1)) else k1 d (decide (d<g))
def law19_OccupancyTrainIsSomewhere (a0:LL) (a1 a2:Int) (K:Bool->oP R):oP R:= gb true (JV n a0 Tu14) ([],[],[],[],0,[],[],[],[],[],[],[],[],false) fun a=>bif (!a.2.2.2.2.2.2.2.2.2.2.2.2.2) then gb true (Kj n some) false fun d=>K d else gb true (P8 n a.1 a.2.1 a.2.2.1 a.2.2.2.1 a.2.2.2.2.1 a.2.2.2.2.2.1 a.2.2.2.2.2.2.1 a.2.2.2.2.2.2.2.1 a.2.2.2.2.2.2.2.2.1 a.2.2.2.2.2.2.2.2.2.1 a.2.2.2.2.2.2.2.2.2.2.1 a.2.2.2.2.2.2.2.2.2.2.2.1 a.2.2.2.2.2.2.2.2.2.2.2.2.1 Tu2) ([],0) fun b=>bif (bif (b.2 != 0) then true else ((b.1.length:Int) == 0)) then K false else gb true (Tm n a1 (b.1.length:Int) some) 0 fun e=>gb true (Q1 b.1 e) [] fun f=>gb true (f[1]?) oF fun r=>gb true (pIw r) 0 fun h=>Qk n h b.1 (b.1.length:Int) a.2.2.1 (fun g i u v x=>gb true (Tm n a2 (if 1<(wJ (i-g)) then (wJ (i-g)) else 1) some) 0 fun s=>QN n h b.1 (wJ (g+s)) (b.1.length:Int) (fun t=>K t) (fun y z=>K false) n 0) n 0 0 false 0
end Go.Vx
namespace Go.Vx
structure FE (us:List U) (N t:Nat) (i:Nat) (fi en:Int) (any:Bool):Prop where
 f:any=true->∃ u∈us,u.2.1=t/\u.2.2.1=fi
 e:en=0\/∃ u∈us,u.2.1=t/\u.2.2.1+u.2.2.2.1=en
 le:∀ j u,j<i->us[j]? = some u->u.2.1=t->u.1<N->any=true/\u.2.2.1+u.2.2.2.1<=en
theorem Q5v {n:Nat} {Se:LL} {us:List U} (hu:us.length<=48) (hN:∀ u∈us,Qd5 u) {t:Nat} {k0:Int->Int->Bool->Int->Bool->Option Bool}:∀ (aj:List U) (i m:Nat) (fi en:Int) (ac:Bool),us.drop i=aj->aj.length<m->i<=us.length->FE us Se.length t i fi en ac ->
  ∃ fi' aw an,FE us Se.length t us.length fi' aw an/\Qk n (t:Int) (us.map Br) ((us.length:Nat):Int) Se k0 m fi en ac (i:Int)=k0 fi' aw an ((us.length:Nat):Int) false
 |[],i,m,fi,en,ac,hd,hm,hi,hF=>by
  obtain ⟨m,rfl⟩:∃ k,m=k+1:=⟨m-1,by simp at hm;omega⟩;have a:=Ua hd;obtain rfl:i=us.length:=by omega
  exact ⟨fi,en,ac,hF,by rw [Qk,Qi,cond_false]⟩
 |u::aj,i,m,fi,en,ac,hd,hm,hi,hF=>by
  obtain ⟨m,rfl⟩:∃ k,m=k+1:=⟨m-1,by simp at hm;omega⟩;obtain ⟨e,ar,az⟩:=Yh hd;rw [List.length_cons] at hm;have ak:=QjU e;have hn:=hN u ak;have hg : -9000000<=u.2.2.1/\u.2.2.1<=9000000/\0<u.2.2.2.1/\u.2.2.2.1<=1000000:=hn;rw [Qk,Qc az,Qk5,Q43 e];simp -implicitDefEqProofs only [Q0,QjW,Qk0,Q2,Qs (show i<=1000 by omega),Q7 (x:=u.2.2.1+u.2.2.2.1) (by omega) (by omega)];by_cases hs:u.2.1=t/\u.1<Se.length
  ·rw [show (((u.2.1:Nat):Int) == (t:Int))=true by rw [hs.1];simp,Qk5,show decide (((u.1:Nat):Int)<((Se.length:Nat):Int))=true from decide_eq_true (by omega),Qk5];have key:∀ fi',(fi'=u.2.2.1\/ac=true/\fi'=fi)->FE us Se.length t (i+1) fi' (if en<u.2.2.1+u.2.2.2.1 then u.2.2.1+u.2.2.2.1 else en) true:=fun fi' hf=>by
    refine ⟨fun _=>?_,?_,fun j v hj ev tv sv=>?_⟩
    ·rcases hf with rfl | ⟨ha,rfl⟩
     ·exact ⟨u,ak,hs.1,rfl⟩
     ·exact hF.f ha
    ·split
     ·exact .inr ⟨u,ak,hs.1,rfl⟩
     ·exact hF.e
    ·refine ⟨rfl,?_⟩;by_cases ao:j=i
     ·subst ao;rw [e] at ev;cases ev;split <;> omega
     ·have:=(hF.le j v (by omega) ev tv sv).2;split <;> omega
   cases hb:(bif !ac then true else decide (u.2.2.1<fi)) with
   |true=>
    rw [Qk5];exact Q5v hu hN aj (i+1) m _ _ true ar (by omega) (by omega) (key _ (.inl rfl))
   |false=>
    rw [cond_false];have ha:ac=true:=by cases ac <;> simp at hb ⊢
    exact Q5v hu hN aj (i+1) m _ _ true ar (by omega) (by omega) (key _ (.inr ⟨ha,rfl⟩))
  ·rw [show (bif (((u.2.1:Nat):Int) == (t:Int)) then decide (((u.1:Nat):Int)<((Se.length:Nat):Int)) else false)=false by
    rw [Bool.cond_false_right,Bool.and_eq_false_iff,beq_eq_false_iff_ne,decide_eq_false_iff_not];omega,cond_false]
   refine Q5v hu hN aj (i+1) m _ _ ac ar (by omega) (by omega) ⟨hF.f,hF.e,fun j v hj ev tv sv=>?_⟩;by_cases ao:j=i
   ·subst ao;rw [e] at ev;cases ev;exact absurd ⟨tv,sv⟩ hs
   ·exact hF.le j v (by omega) ev tv sv
theorem Qe0 {n:Nat} {us:List U} (hu:us.length<=48) (hN:∀ u∈us,Qd5 u) (ha:Kj n (some:Bool->Option Bool)=some true) {t:Nat} {s:Int} {k0:Bool->Option Bool} {k1:Int->Bool->Option Bool}:∀ (ac:List U) (i m:Nat),us.drop i=ac->ac.length<m->i<=us.length->(∃ u∈ac,u.2.1=t/\u.2.2.1<=s/\s<u.2.2.1+u.2.2.2.1) ->
  QN n (t:Int) (us.map Br) s ((us.length:Nat):Int) k0 k1 m (i:Int)=k0 true
 |[],i,m,hd,hm,hi,hx=>by
  obtain ⟨u,hu,_⟩:=hx;nomatch hu
 |u::ac,i,m,hd,hm,hi,hx=>by
  obtain ⟨m,rfl⟩:∃ k,m=k+1:=⟨m-1,by simp at hm;omega⟩;obtain ⟨e,ao,aj⟩:=Yh hd;rw [List.length_cons] at hm;have hg : -9000000<=u.2.2.1/\u.2.2.1<=9000000/\0<u.2.2.2.1/\u.2.2.2.1<=1000000:=hN u (QjU e);rw [QN,Qc aj,Qk5,Q43 e];simp -implicitDefEqProofs only [Q0,QjW,Qk0,Q2,Qs (show i<=1000 by omega),Q7 (x:=u.2.2.1+u.2.2.2.1) (by omega) (by omega)];cases hb:(bif (bif (((u.2.1:Nat):Int) == (t:Int)) then (decide (u.2.2.1<=s)) else false) then (decide (s<u.2.2.1+u.2.2.2.1)) else false) with
  |true=>rw [Qk5,ha,Q0]
  |false=>
   rw [cond_false];refine Qe0 hu hN ha ac (i+1) m ao (by omega) (by omega) ?_;obtain ⟨v,hv,r⟩:=hx;cases hv with
   |head=>
    simp only [Bool.cond_false_right,Bool.and_eq_false_iff,beq_eq_false_iff_ne,decide_eq_false_iff_not] at hb;omega
   |tail _ hv=>exact ⟨v,hv,r⟩
theorem Qaf {n:Nat} {l a0 a1 a2 g:LL} {p:Int} {b1 b2 i k o r s t:LL} {ok:Bool} {tr ac:Int} (hn:n=400) (hs:JV n l Tu14=some (a0,a1,a2,g,p,b1,b2,i,k,o,r,s,t,ok)) (ha:Kj n (some:Bool->Option Bool)=some true)
  (hx:ok=true->∃ us ss:List U,Sol a2 us ss/\UC n a0 a1 a2 g p b1 b2 i k o r s t true Tu2=some (us.map Br,0)):law19_OccupancyTrainIsSomewhere n l tr ac some=some true:=by
 unfold law19_OccupancyTrainIsSomewhere P8;rw [hs,Q0];dsimp only;cases ok with
 |false=>rw [Bool.not_false,Qk5,ha,Q0]
 |true=>
  obtain ⟨us,ss,hS,h1⟩:=hx rfl;have a5:=hS.len.1;have bb:us.length≠0:=fun h=>hS.one.1 (List.length_eq_zero_iff.1 h)
  rw [Bool.not_true,cond_false,h1,Q0,Q0];dsimp only;rw [List.length_map,show (((us.length:Nat):Int) == 0)=false by simp;exact fun h=>hS.one.1 h,bne_self_eq_false,cond_false,cond_false,Qcd n tr (m:=((us.length:Nat):Int)) (by omega) (by omega),Q0];have hp:=S8 tr (m:=((us.length:Nat):Int)) (by omega);obtain ⟨q,hq⟩:=Int.eq_ofNat_of_zero_le hp.1;have a6:q<us.length:=by omega
  have eq:=QjV a6;rw [hq,Q43 eq];simp -implicitDefEqProofs only [Q0,QjW,Qk0,Q2];obtain ⟨N,c1,c2,c3⟩:=hS.cv;have aq:=c1 us[q] (List.getElem_mem a6);generalize us[q].2.1=tt at aq ⊢;obtain ⟨lo,hi,hc⟩:=c2 tt aq;obtain ⟨v,hv,vt,vs,v0⟩:=c3 tt aq;obtain ⟨j,ej⟩:=List.getElem?_of_mem hv;have a7:=(QjX.1 ej).1;obtain ⟨fi,en,bh,hF,hr⟩:=Q5v (n:=n) (Se:=a2) a5 hS.nu (t:=tt) (k0:=fun e y aw ax ay=>gb true (Tm n ac (if (1:Int)<(wJ (y-e)) then (wJ (y-e)) else (1:Int)) some) 0 fun ar=>QN n (tt:Int) (us.map Br) (wJ (e+ar)) ((us.length:Nat):Int) (fun au=>some au) (fun az ba=>some false) n (0:Int)) us 0 n 0 0 false rfl (by omega) (by omega) ⟨fun h=>(by nomatch h),.inl rfl,fun j u hj=>by omega⟩;refine hr.trans ?_;obtain ⟨a4,bl⟩:=hF.le j v a7 ej vt vs;obtain ⟨a,f,t0,f0⟩:=hF.f a4;obtain ⟨b,ab,t1,f1⟩:∃ u∈us,u.2.1=tt/\u.2.2.1+u.2.2.2.1=en:=by
   rcases hF.e with h | h
   ·omega
   ·exact h
  have g0 : -9000000<=a.2.2.1/\a.2.2.1<=9000000/\0<a.2.2.2.1/\a.2.2.2.1<=1000000:=hS.nu a f;have g1 : -9000000<=b.2.2.1/\b.2.2.1<=9000000/\0<b.2.2.2.1/\b.2.2.2.1<=1000000:=hS.nu b ab;rw [Q7 (x:=en-fi) (by omega) (by omega)];have hm:0<(if (1:Int)<en-fi then en-fi else 1)/\(if (1:Int)<en-fi then en-fi else 1)<=30000000:=by split <;> omega
  rw [Qcd n ac hm.1 (by omega),Q0];have a3:=S8 ac hm.1;generalize pick ac (if (1:Int)<en-fi then en-fi else 1)=z at a3 ⊢;rw [Q7 (x:=fi+z) (by omega) (by omega)];refine Qe0 a5 hS.nu ha us 0 n rfl (by omega) (by omega) ?_;by_cases hd:(1:Int)<en-fi
  ·rw [if_pos hd] at a3;exact hc.any f ab t0 t1 (by omega) (by omega)
  ·rw [if_neg hd] at a3;exact ⟨a,f,t0,by omega,by omega⟩
theorem somewhereA {l:List Int} (hl:l.length<=9223372036854775807) (train ac:Int):law19_OccupancyTrainIsSomewhere 400 (encI l) train ac some=some true:=by
 obtain ⟨a0,a1,a2,b,p,b1,b2,c,d,e,f,g,t,ok,hs,hx⟩:=Qcl hl;exact Qaf rfl hs Qec fun h=>by
  obtain ⟨_,us,ss,a,h2,_⟩:=hx h;exact ⟨us,ss,a,h2⟩
end Go.Vx
namespace Go.Vx
open Go.RowKit Go.Maps Go.WideMaps
theorem XR {P:Program} {f:Nat} {e:TK} (hE:Ve P f e) {ac:List AV} {dl:Dl} (h:e Dl 0 true ac (fun _=>none) some=some dl):Zh P f ac (fun _=>none) dl:=by
 obtain ⟨d,k1,a⟩:=hE Dl 0 true ac _ some dl h;cases k1;exact a rfl
theorem Ci {P:Program} {f:Nat} {ac:List AV} {hl:Nat->Option Ob} {av:AV} (h:Zh P f ac hl ⟨av,[],[]⟩) {S:Nat->Prop} {w:World} (hS:∀ b,S b->b<w.heap.size) {args:List Value} (hA:ArgsRd (fun _=>none) S (fun _=>none) w args ac) :
  Calls P f args.toArray w fun e w'=>∃ v S',e = .returned v/\RdA (fun _=>none) S' (fun _=>none) w' tm0 v av/\RowKit.Below w.heap.size w w':=by
 refine (h.2 (fun _=>none) S (fun _=>none) w args ⟨fun l o h=>(by cases h),fun l l' b h=>(by cases h),fun l b h=>(by cases h),hS⟩ hA (fun l hl=>(by rcases hl with hl | hl <;> simp [wrL] at hl))).mono fun e w' ⟨v,β',S',he,hc⟩=>?_
 have hβ:β'=fun _=>none:=funext fun l=>hc.bsame l (by simp [wrL])
 subst hβ;refine ⟨v,S',he,?_,⟨hc.fr.os,hc.fr.tape,hc.fr.output,hc.fr.size,fun b hb=>hc.fr.block b hb (fun ⟨l,a,_⟩=>by simp [wrL] at a)⟩⟩;exact hc.res.mono (fun _ h=>h) (fun _ _=>rfl) (fun l _=>⟨rfl,fun h=>h,fun e s rows h=>(by cases h),fun b cs ty fz h=>(by cases h),fun t f h=>(by cases h)⟩) (fun _ _=>rfl)
theorem Kb {P:Program} {f:Nat} {ac:List AV} {hl:Nat->Option Ob} {r:Bool} (h:Zh P f ac hl ⟨.d (D.bool r),[],[]⟩) {S:Nat->Prop} {w:World} (hS:∀ b,S b->b<w.heap.size) {args:List Value} (hA:ArgsRd (fun _=>none) S (fun _=>none) w args ac) :
  Calls P f args.toArray w fun e w'=>e = .returned (.bool r)/\RowKit.Below w.heap.size w w':=by
 refine (Ci h hS hA).mono fun e w' ⟨v,S',he,hr,hb⟩=>⟨?_,hb⟩
 cases hr with
 |d v x hx=>cases hx;exact he
 |dang v av l hl=>cases hl
theorem Gy {P:Program} {f:Nat} {ac:List AV} {hl:Nat->Option Ob} {k:IntKind} {r:Int} (h:Zh P f ac hl ⟨.d (D.int k r),[],[]⟩) {S:Nat->Prop} {w:World} (hS:∀ b,S b->b<w.heap.size) {args:List Value} (hA:ArgsRd (fun _=>none) S (fun _=>none) w args ac) :
  Calls P f args.toArray w fun e w'=>e = .returned (.int k r)/\RowKit.Below w.heap.size w w':=by
 refine (Ci h hS hA).mono fun e w' ⟨v,S',he,hr,hb⟩=>⟨?_,hb⟩
 cases hr with
 |d v x hx=>cases hx;exact he
 |dang v av l hl=>cases hl
def Q1P (w:World) (P:Program) (b n:Nat) (ac:List (List UInt8)):Prop:=
 ∃ D:DataW Unit,w.ownsMap P 9 (plainElem P 4) b n D/\Go.Maps.IsMap D/\∀ s,D.atKey (.string s) (.lit (.bool false)) = .lit (.bool (ac.contains s))
theorem Q1P.made (P:Program) (w:World):Q1P (w.alloc (.map #[] 0)) P w.heap.size 0 []:=
 ⟨.map [],World.ownsMap_made w P 9 _,Go.Maps.isMap_empty,fun s=>rfl⟩
section
variable {P:Program} (h9:P.underlying 9=some .string) (h4:P.underlying 4=some .bool) {T:TypeId} (hT:P.underlying T=some (.map 9 4))
include h9 h4 hT
theorem Q1P.lookup {w:World} {b n:Nat} {ac:List (List UInt8)} (h:Q1P w P b n ac) (hz:(zeroValue 4).run P w = .ok (.bool false) w) {s:List UInt8} (hs:s.length<=maxLen) :
  (Instr.lookup T (.map (some b)) (.string ⟨⟨s⟩⟩) false).run P w = .ok (.bool (ac.contains s)) w:=by
 obtain ⟨D,hD,_,hat⟩:=h;obtain ⟨v,ps,ak,hv⟩:=hD.lookup (string_keyed h9) hT hz (zd:=.lit (.bool false)) (zp:=[]) (plainElem_bool h4 false) (keyOf_string_mk (s:=⟨⟨s⟩⟩) h9 hs);have e:=hat s;simp only at hv;rw [e] at hv;unfold plainElem at hv;rw [h4] at hv;cases v <;> simp at hv;rw [ak,hv.1];simp
theorem Q1P.update {w:World} {b n:Nat} {ac:List (List UInt8)} (h:Q1P w P b n ac) (hn:n<maxLen) {s:List UInt8} (hs:s.length<=maxLen) :
  ∃ w',(Instr.mapUpdate T (.map (some b)) (.string ⟨⟨s⟩⟩) (.bool true)).run P w = .ok () w'/\Q1P w' P b (n+1) (s::ac)/\w.grownBy w' (some b):=by
 obtain ⟨D,hD,hm,hat⟩:=h;obtain ⟨w',ak,aj,hg⟩:=hD.update (string_keyed h9) hT hn (keyOf_string_mk (s:=⟨⟨s⟩⟩) h9 hs) (plainElem_bool (H:=Unit) h4 true);refine ⟨w',ak,⟨_,aj,hm.put _ _,fun t=>?_⟩,hg⟩;have hk:WideAt.IsKeyLit (.string s):=(string_keyed h9).key (keyOf_string_mk (s:=⟨⟨s⟩⟩) h9 hs);by_cases e:t=s
 ·subst e;rw [show (ByteArray.mk ⟨t⟩).data.toList=t from rfl,Go.Maps.atKey_put_same hm hk];simp
 ·rw [show (ByteArray.mk ⟨s⟩).data.toList=s from rfl,Go.Maps.atKey_put_other (by simpa using e),hat t];simp [e]
end
theorem Q1P.kept {P:Program} {w w':World} {b n:Nat} {ac:List (List UInt8)} {row:Option Nat} (h:Q1P w P b n ac) (hg:w.grownBy w' row) (aj:some b≠row):Q1P w' P b n ac:=by
 obtain ⟨D,hD,hm,hat⟩:=h;exact ⟨D,hD.kept hg aj,hm,hat⟩
theorem Q1P.lt {P:Program} {w:World} {b n:Nat} {ac:List (List UInt8)} (h:Q1P w P b n ac):b<w.heap.size:=by
 obtain ⟨D,hD,hm,hat⟩:=h;exact hD.lt
theorem Wb {w w':World} (h:RowKit.Below w.heap.size w w'):w.grownBy w' none:=⟨h.os,h.tape,h.output,h.size,fun b hb _=>h.block b hb⟩
def Gi:Code->List Code
 |.region i o d=>[.region i o d]
 |.loop c=>Gi c
 |.seq a b=>Gi a++Gi b
 |.block _ c=>Gi c
 |.scope c=>Gi c
 |.cond _ a b=>Gi a++Gi b
 |_=>[]
def Q5u (Q:Act->World->Prop):Exit->Act->World->Prop
 |.normal,a,w=>Q a w
 |_,_,_=>False
theorem Si {P : Program} {f : Nat} {fn : Func} (hf : P.funcs[f]? = some fn) (hb : fn.body.isSome = true) (hn : (fn.name == "runtime.NumGoroutine") = false) {avs : List AV} {av : AV} {hl : Nat -> Option Ob} {rd : List Nat} (hlf : lf av = true) (hA : lfL avs = true)
  (h:∀ (S:Nat->Prop) (w:World) (args:List Value),(∀ b,S b->b<w.heap.size)->ArgsRd (fun _=>none) S (fun _=>none) w args avs->Calls P f args.toArray w fun e w'=>∃ (v:Value) (S':Nat->Prop),e = .returned v/\(∀ b,S b->S' b)/\(∀ b,S' b->S b\/w.heap.size<=b)/\(∀ b,S' b->b<w'.heap.size) /\
   RdA (fun _=>none) S' (fun _=>none) w' tm0 v av/\RowKit.Below w.heap.size w w'):Zh P f avs hl ⟨av,[],rd⟩:=by
 refine ⟨⟨fn,hf,hb,hn⟩,fun β S h' w args hO hAr _=>?_⟩;refine (h S w args hO.sb ⟨hAr.1,fun i v av' a h2=>LB (Q06 hA h2) (fun _ h=>h) (fun _ _=>rfl) (hAr.2 i v av' a h2)⟩).mono fun e w' ⟨v,S',he,hs,hsf,hsb,hr,hbel⟩=>?_
 refine ⟨v,β,S',he,⟨hs,fun b hS=>(hsf b hS).elim .inl fun h=>.inr (.inl h),hsb,Q4O hbel,fun _ _=>rfl,fun l o hl'=>by simp [wrL] at hl',fun l hl'=>by simp [wrL] at hl',fun l b hl'=>by simp [wrL] at hl',fun l l' b hl'=>by simp [wrL] at hl',fun l hl'=>by simp [wrL] at hl',?_,fun t=>Q3B t _ hlf⟩⟩;exact LB hlf (fun _ h=>h) (fun _ _=>rfl) hr
end Go.Vx
namespace Go.Vx
def dV:D->Value
 |.int k n=>.int k n
 |.bool b=>.bool b
 |.str s=>.string ⟨⟨s⟩⟩
 |.sl _ _=>undef
def cellsOf (l:LL):List Value:=l.flatMap fun r=>r.map dV
theorem Q3s (l:LL) (r:List D):cellsOf (l++[r])=cellsOf l++r.map dV:=by simp [cellsOf]
structure NestK (e1 e2 k:Nat) (w:World) (B:Nat) (v:Value) (hd:List Value) (ll:List LL):Prop where
 row:w.ownsRow B e1 1 v ll.length hd
 each:∀ (i:Nat) (h:Value) (l:LL),hd[i]? = some h->ll[i]? = some l->w.ownsRow B e2 k h l.length (cellsOf l)
 outer:∀ (i:Nat) (h:Value) (b:Nat),hd[i]? = some h->h.ownBlock=some b->v.ownBlock≠some b
 apart:∀ (i j:Nat) (h h':Value) (b:Nat),hd[i]? = some h->hd[j]? = some h'->h.ownBlock=some b->h'.ownBlock=some b->i=j
section
variable {e1 e2 k:Nat}
theorem NestK.len {w:World} {B:Nat} {v:Value} {hd:List Value} {ll:List LL} (h:NestK e1 e2 k w B v hd ll):hd.length=ll.length:=by have:=h.row.1;omega
theorem NestK.kept {w w':World} {B:Nat} {v:Value} {hd:List Value} {ll:List LL} {row:Option Nat} (h:NestK e1 e2 k w B v hd ll) (hg:w.grownBy w' row)
  (a:v.ownBlock=none\/v.ownBlock≠row) (h2:∀ x∈hd,x.ownBlock=none\/x.ownBlock≠row):NestK e1 e2 k w' B v hd ll:=
 ⟨h.row.kept hg a,fun i x l hx hl=>(h.each i x l hx hl).kept hg (h2 x (QjU hx)),h.outer,h.apart⟩
theorem NestK.blk {w:World} {B:Nat} {v:Value} {hd:List Value} {ll:List LL} (h:NestK e1 e2 k w B v hd ll) {i:Nat} {x:Value} {b:Nat} (hx:hd[i]? = some x) (hb:x.ownBlock=some b):B<=b/\b<w.heap.size:=by
 have hi:i<ll.length:=by rw [<- h.len];exact (QjX.1 hx).1
 exact (h.each i x ll[i] hx (QjV hi)).lt b hb
theorem Q3f {w:World} {base e n:Nat} {v:Value} {xs:List Value} {b i:Nat} (h:w.ownsRow base e 1 v n xs) (hb:v.ownBlock=some b) (hi:i<n) (u:Value):(w.setCell ⟨b,i,none⟩ u).ownsRow base e 1 v n (xs.set i u):=by
 obtain ⟨a,h2⟩:=h;refine ⟨by simpa using a,?_⟩;rcases h2 with ⟨rfl,rfl⟩ | ⟨g,cap,ac,rfl,hg,hh,hn,hc,hs,ht⟩
 ·omega
 ·simp [Value.ownBlock] at hb;subst hb;refine .inr ⟨g,cap,_,rfl,hg,heap_setCell_same w g i ac e u hh,hn,hc,by simpa using hs,?_⟩;rw [<- ht];simp [List.take_set]
theorem Ld {w:World} {base e s n:Nat} {v:Value} {xs:List Value} (h:w.ownsRow base e s v n xs) {a:Addr} (ha:v.ownBlock≠some a.block) (u:Value):(w.setCell a u).ownsRow base e s v n xs:=by
 refine ⟨h.1,?_⟩;rcases h.2 with h2 | ⟨g,cap,ac,rfl,hg,hh,hn,hc,hs,ht⟩
 ·exact .inl h2
 ·refine .inr ⟨g,cap,ac,rfl,hg,?_,hn,hc,hs,ht⟩;rw [heap_setCell_other w a g u (fun e=>ha (by simp [Value.ownBlock,e]))];exact hh
theorem NestK.grow {w w1:World} {B:Nat} {v x x':Value} {hd:List Value} {ll:List LL} {l:LL} {s:List D} {g H i vb:Nat} (h:NestK e1 e2 k w B v hd ll)
  (hx:hd[i]? = some x) (hl:ll[i]? = some l) (ay:w1.ownsRow B e2 k x' (l.length+1) (cellsOf l++s.map dV)) (hg:w.grownBy w1 x.ownBlock) (aj:x'.ownBlock=some g) (hat:x.ownBlock=some g\/g=H) (hH:w.heap.size=H)
  (hv:v.ownBlock=some vb):NestK e1 e2 k (w1.setCell ⟨vb,i,none⟩ x') B v (hd.set i x') (ll.set i (l++[s])):=by
 have hi:i<ll.length:=(QjX.1 hl).1;have a4:=(h.row.lt vb hv).2;have az:g≠vb:=by
  intro e;subst e;rcases hat with a | a
  ·exact h.outer i x g hx a hv
  ·omega
 have ao:w1.ownsRow B e1 1 v ll.length hd:=by
  refine h.row.kept hg (.inr fun e=>?_);rw [hv] at e;exact h.outer i x vb hx e.symm hv
 have aw:∀ (j:Nat) (y:Value) (b:Nat),hd[j]? = some y->y.ownBlock=some b->j≠i->b≠g:=by
  intro j y b hy hb a2 e;subst e;rcases hat with a | a
  ·exact a2 (h.apart j i y x b hy hx hb a)
  ·have:=(h.blk hy hb).2;omega
 refine ⟨?_,fun j y k hy hk=>?_,fun j y b hy hb=>?_,fun j k y z b hy hz an ak=>?_⟩
 ·rw [List.length_set];exact Q3f ao hv hi x'
 ·rw [Qki] at hy hk;by_cases e:i=j
  ·subst e;have a:i<hd.length:=by rw [h.len];exact hi
   simp only [if_true,a,hi,Option.some.injEq] at hy hk;subst hy hk;refine Ld (by simpa [Q3s] using ay) ?_ _;rw [aj];intro e;exact az (Option.some.inj e)
  ·rw [if_neg e] at hy hk;refine Ld ((h.each j y k hy hk).kept hg ?_) ?_ _
   ·cases hb:y.ownBlock with
    |none=>exact .inl rfl
    |some b=>exact .inr fun e2=>e (h.apart j i y x b hy hx hb e2.symm).symm
   ·intro e2;exact h.outer j y vb hy e2 hv
 ·rw [Qki] at hy;by_cases e:i=j
  ·subst e;have a:i<hd.length:=by rw [h.len];exact hi
   simp only [if_true,a,Option.some.injEq] at hy;subst hy;rw [aj] at hb;cases hb;rw [hv];intro e2;exact az (Option.some.inj e2).symm
  ·rw [if_neg e] at hy;exact h.outer j y b hy hb
 ·rw [Qki] at hy hz;have a:i<hd.length:=by rw [h.len];exact hi
  by_cases e:i=j
  ·by_cases e2:i=k
   ·omega
   ·subst e;rw [if_neg e2] at hz;simp only [if_true,a,Option.some.injEq] at hy;subst hy;rw [aj] at an;cases an;exact absurd rfl (aw k z g hz ak (fun h=>e2 h.symm))
  ·rw [if_neg e] at hy;by_cases e2:i=k
   ·subst e2;simp only [if_true,a,Option.some.injEq] at hz;subst hz;rw [aj] at ak;cases ak;exact absurd rfl (aw j y g hy an (fun h=>e h.symm))
   ·rw [if_neg e2] at hz;exact h.apart j k y z b hy hz an ak
end
def D5 (k:Nat) (r:List D):Bool:=Nat.beq r.length k&&r.all fun | .int .i64 _=>true | _=>false
theorem Q0n {k:Nat}:∀ (l:LL) (i j:Nat) (r:List D) (x:D),(∀ r∈l,r.length=k)->l[i]? = some r->r[j]? = some x->(cellsOf l)[i*k+j]? = some (dV x)
 |[],i,j,r,x,_,a,_=>by simp at a
 |b::l,0,j,r,x,hk,a,h2=>by
  simp only [QjW,Option.some.injEq] at a;subst a;have hj:=(QjX.1 h2).1;simp only [cellsOf,List.flatMap_cons,Nat.zero_mul,Qke];rw [List.getElem?_append_left (by simpa using hj),Qkh,h2];rfl
 |b::l,i+1,j,r,x,hk,a,h2=>by
  have ih:=Q0n l i j r x (fun q hq=>hk q (by simp [hq])) (by simpa using a) h2;have c:=hk b (by simp);simp only [cellsOf,List.flatMap_cons];rw [List.getElem?_append_right (by simp [c];rw [Nat.succ_mul];omega)];rw [show (i+1)*k+j-(b.map dV).length=i*k+j by simp [c];rw [Nat.succ_mul];omega];exact ih
theorem QeO {w:World} {B e k:Nat} {x:Value} {l:LL} (h:w.ownsRow B e k x l.length (cellsOf l)) (hk:∀ r∈l,D5 k r=true) {S:Nat->Prop} (hS:∀ b,x.ownBlock=some b->S b):Rd S w x (.sl k l):=by
 have ac:∀ r∈l,r.length=k:=fun r hr=>by
  have:=hk r hr;simp only [D5,Qk4] at this;exact Nat.eq_of_beq_eq_true this.1
 rcases h.2 with ⟨rfl,c⟩ | ⟨g,cap,aj,rfl,hg,hh,hn,hc,hs,ht⟩
 ·have:l=[]:=List.eq_nil_of_length_eq_zero c;subst this;exact .sl0 none 0 k
 ·refine .sl ⟨g,0,none⟩ cap k l (fun i j=>dV ((l.getD i []).getD j (.bool false))) (hS g rfl) hn (fun i r hi=>ac r (QjU hi)) (fun i j r y hi hj=>?_) (fun i j r y hi hj=>?_)
  ·have a:=Q0n l i j r y ac hi hj;have ao:i*k+j<aj.size:=by
    have d:=(QjX.1 a).1;rw [h.1] at d;have:l.length*k<=cap*k:=Nat.mul_le_mul_right k hn;omega
   rw [H3,Qke,cell_of_row w g (i*k+j) aj e (0,0) hh];rw [<- ht,List.getElem?_take] at a;split at a
   ·rw [<- Qkc,a];simp [List.getD,hi,hj]
   ·cases a
  ·have hq:=hk r (QjU hi);simp only [D5,Qk4,List.all_eq_true] at hq;have hy:=hq.2 y (QjU hj);simp only [List.getD,hi,hj,Option.getD_some];split at hy
   ·exact .int _ _
   ·cases hy
end Go.Vx
namespace Go.Vx
open Go.Proofs Go.RowKit
theorem Q6Y {n:Nat} {s:List UInt8} (h:Kp n s some=some true) (w:World):Calls Tryz.prog 167 #[.string ⟨⟨s⟩⟩] w fun e w'=>e = .returned (.bool true)/\RowKit.Below w.heap.size w w':=by
 have he:(TR n).E Dl 0 true [.d (.str s)] (fun _=>none) some=some ⟨.d (.bool true),[],[]⟩:=by
  show gb true (Kp n s some) false (fun r=>(some ⟨.d (D.bool r),[],[]⟩:Option Dl))=_;rw [h];rfl
 refine Kb (XR ((TR n).ok) he) (S:=fun _=>False) (fun _ h=>h.elim) (args:=[.string ⟨⟨s⟩⟩]) ⟨rfl,fun i v av a h2=>?_⟩
 match i,a,h2 with
 |0,a,h2=>
  simp only [QjW,Option.some.injEq] at a h2;subst a h2;exact .d _ _ (.str ⟨⟨s⟩⟩)
set_option maxHeartbeats 4000000 in
set_option maxRecDepth 100000 in
theorem Tryz.checkName_calls {N:Nat} (w:World) (b n:Nat) (ac:List (List UInt8)) (s:List UInt8) (h:Q1P w Tryz.prog b n ac) (hn:n<1000) (hs:Qb2 N ac s=true) :
  Calls Tryz.prog 209 #[.string ⟨⟨s⟩⟩,.map (some b)] w fun e w'=>e = .returned (.int .i64 0)/\Q1P w' Tryz.prog b (n+1) (s::ac)/\w.grownBy w' (some b):=by
 simp only [Qb2,Qk4,Qkg] at hs;obtain ⟨⟨hl,hN⟩,hc⟩:=hs;have hl:=Qk3 hl;have an:s.length<=maxLen:=by unfold maxLen;omega
 have aq:n<maxLen:=by unfold maxLen;omega
 have hz:∀ w:World,(zeroValue 4).run Tryz.prog w = .ok (.bool false) w:=fun w=>by kernel_rfl
 go_enter Tryz.func209,Tryz.ntmps209
 go_wp2_with (go_at_call 167;refine (Q6Y (Ni hN) _).mono ?_)
 rintro e w1 ⟨rfl,hB⟩;have c:=h.kept (Wb hB) (by simp);have ak:=c.lookup Tryz.underlying9 Tryz.underlying4 Tryz.underlying288 (hz w1) an;rw [hc] at ak;obtain ⟨d,ar,h2,a⟩:=c.update Tryz.underlying9 Tryz.underlying4 Tryz.underlying288 aq an
 go_wp2
 refine bodyPost_ret (results_tmp rfl _ _ _) rfl ?_;exact ⟨rfl,h2,⟨a.os.trans hB.os,a.tape.trans hB.tape,a.output.trans hB.output,Qkd hB.size a.size,fun k hk ao=>(a.block k (Qk1 hk hB.size) ao).trans (hB.block k hk)⟩⟩
theorem Q7S {β:Nat->Option Nat} {S:Nat->Prop} {h:Nat->Option Ob} {w:World} {b:Value} {a0:AV} (c:RdA β S h w tm0 b a0):ArgsRd β S h w [b] [a0]:=by
 refine ⟨rfl,fun i v av a h2=>?_⟩
 match i,a,h2 with
 |0,a,h2=>simp only [QjW,Option.some.injEq] at a h2;subst a h2;exact c
theorem Kn {β:Nat->Option Nat} {S:Nat->Prop} {h:Nat->Option Ob} {w:World} {b c:Value} {a0 a1:AV} (d:RdA β S h w tm0 b a0) (ac:RdA β S h w tm0 c a1):ArgsRd β S h w [b,c] [a0,a1]:=by
 refine ⟨rfl,fun i v av a h2=>?_⟩
 match i,a,h2 with
 |0,a,h2=>simp only [QjW,Option.some.injEq] at a h2;subst a h2;exact d
 |1,a,h2=>simp only [Qk0,QjW,Option.some.injEq] at a h2;subst a h2;exact ac
theorem Q7Q {β:Nat->Option Nat} {S:Nat->Prop} {h:Nat->Option Ob} {w:World} {b c d:Value} {a0 a1 a2:AV} (e:RdA β S h w tm0 b a0) (aj:RdA β S h w tm0 c a1) (ac:RdA β S h w tm0 d a2):ArgsRd β S h w [b,c,d] [a0,a1,a2]:=by
 refine ⟨rfl,fun i v av a h2=>?_⟩
 match i,a,h2 with
 |0,a,h2=>simp only [QjW,Option.some.injEq] at a h2;subst a h2;exact e
 |1,a,h2=>simp only [Qk0,QjW,Option.some.injEq] at a h2;subst a h2;exact aj
 |2,a,h2=>simp only [Qk0,QjW,Option.some.injEq] at a h2;subst a h2;exact ac
inductive RdLs (S:Nat->Prop) (w:World):List Value->List D->Prop
 |nil:RdLs S w [] []
 |cons {v:Value} {x:D} {vs:List Value} {xs:List D} (h:Rd S w v x) (t:RdLs S w vs xs):RdLs S w (v::vs) (x::xs)
theorem RdLs.agg {S:Nat->Prop} {w:World}:∀ {vs:List Value} {xs:List D},RdLs S w vs xs->RdA (fun _=>none) S (fun _=>none) w tm0 (.agg vs.toArray) (.ag (xs.map .d))
 |vs,xs,h=>by
  have hl:∀ {vs:List Value} {xs:List D},RdLs S w vs xs->vs.length=xs.length:=by
   intro vs xs h;induction h with
   |nil=>rfl
   |cons _ _ ih=>simp [ih]
  have hr:∀ {vs:List Value} {xs:List D},RdLs S w vs xs->∀ (i:Nat) (x:D),xs[i]? = some x->Rd S w (vs.toArray.getD i undef) x:=by
   intro vs xs h;induction h with
   |nil=>intro i x hx;simp at hx
   |cons a t ih=>
    intro i x hx;cases i with
    |zero=>simp only [QjW,Option.some.injEq] at hx;subst hx;simpa using a
    |succ i=>
     have:=ih i x (by simpa using hx);simpa using this
  refine .ag _ _ (by simp [hl h]) fun i x hx=>?_
  rw [Qkh,Qk8] at hx;obtain ⟨d,hd,rfl⟩:=hx;exact .d _ _ (hr h i d hd)
theorem Rd.keep {S:Nat->Prop} {w w':World} {v:Value} {x:D} {m:Nat} (h:Rd S w v x) (hS:∀ b,S b->b<m) (hw:∀ b,b<m->w'.heap[b]? = w.heap[b]?):Rd S w' v x:=h.mono (fun _ h=>h) fun b hb=>hw b (hS b hb)
theorem Gc {S:Nat->Prop} {w:World} {v:Value} {k:Nat} {rows:LL} (h:Rd S w v (.sl k rows)):∃ ad cap,v = .slice ad rows.length cap:=by
 cases h with
 |sl0 a cap=>exact ⟨a,cap,rfl⟩
 |sl ad cap=>exact ⟨some ad,cap,rfl⟩
theorem Q66 {S:Nat->Prop} {w:World} {ad:Option Addr} {n cap k:Nat} {rows:LL} (h:Rd S w (.slice ad n cap) (.sl k rows)) {i:Nat} {row:List D} (hi:rows[i]? = some row) :
  ∃ a,ad=some a/\S a.block/\row.length=k/\∀ (j:Nat) (x:D),row[j]? = some x->∃ v,w.cell? (a.add (i*k+j))=some v/\Rd S w v x:=by
 cases h with
 |sl0 a cap=>simp at hi
 |sl a cap _ _ c hS aj ac hc hr=>exact ⟨a,rfl,hS,ac i row hi,fun j x hx=>⟨_,hc i j row x hi hx,hr i j row x hi hx⟩⟩
theorem Bv {n:Nat} {w w1 a:World} {b:Nat} (h:Below n w w1) (hn:n<=w.heap.size) (hb:n<=b) (hg:w1.grownBy a (some b)):Below n w a:=
 ⟨hg.os.trans h.os,hg.tape.trans h.tape,hg.output.trans h.output,Qkd h.size hg.size,fun k hk=>(hg.block k (by have:=h.size;omega) (by simp;omega)).trans (h.block k hk)⟩
theorem U9 {n:Nat} {w w1:World} (h:Below n w w1) (hn:n<=w.heap.size) (o:Obj):Below n w (w1.alloc o):=
 ⟨h.os,h.tape,h.output,by have:=h.size;simp;omega,fun k hk=>(QjZ w1 o k (by have:=h.size;omega)).trans (h.block k hk)⟩
theorem Uw {n:Nat} {w w1 a:World} (h:Below n w w1) (hn:n<=w.heap.size) (h2:Below w1.heap.size w1 a):Below n w a:=
 ⟨h2.os.trans h.os,h2.tape.trans h.tape,h2.output.trans h.output,Qkd h.size h2.size,fun k hk=>(h2.block k (by have:=h.size;omega)).trans (h.block k hk)⟩
theorem J7 (ad:Addr) (i j:Nat) (hj:j≠0):ad.add (i+j)=⟨(ad.add i).block,(ad.add i).off+j,none⟩:=by
 have a:(ad.add i).add j=ad.add (i+j):=by
  unfold Addr.add;by_cases hi:i=0 <;> simp [hi,hj,Nat.add_assoc]
 rw [<- a];generalize ad.add i=x;unfold Addr.add;rw [if_neg hj]
theorem Q0D {N:Nat} {ac:List (List UInt8)} {l:LL} {j:Nat} (hj:j<l.length) (h:TU N ac (l.drop j)=true) :
  ∃ s,l[j]? = some [D.str s]/\Qb2 N ac s=true/\TU N (s::ac) (l.drop (j+1))=true:=by
 rw [List.drop_eq_getElem_cons hj] at h;unfold TU at h;split at h
 ·rename_i s e;simp only [Qk4] at h;exact ⟨s,by rw [QjV hj,e],h.1,h.2⟩
 ·cases h
theorem Q2T {N:Nat} {l0 l1 l2 f:LL} {ac:List (List UInt8)} {l:LL} {j:Nat} (hj:j<l.length) (h:Pf N l0 l1 l2 f ac (l.drop j)=true) :
  ∃ s a b c d,l[j]? = some [D.str s,.int .i64 a,.int .i64 b,.int .i64 c,.int .i64 d]/\Qb2 N ac s=true/\Xi N l0 l1 l2 f s a b c d some=some true/\Pf N l0 l1 l2 f (s::ac) (l.drop (j+1))=true:=by
 rw [List.drop_eq_getElem_cons hj] at h;unfold Pf at h;split at h
 ·rename_i s a b c d e;simp only [Qk4] at h;exact ⟨s,a,b,c,d,by rw [QjV hj,e],h.1.1,Ni h.1.2,h.2⟩
 ·cases h
theorem Qb1 {S:Nat->Prop} {w:World} {v:Value} {s:List UInt8} (h:Rd S w v (.str s)):v = .string ⟨⟨s⟩⟩:=by cases h;rfl
theorem GU {S:Nat->Prop} {w:World} {v:Value} {k:IntKind} {n:Int} (h:Rd S w v (.int k n)):v = .int k n:=by cases h;rfl
theorem Q6u {N:Nat} {l0 l1 l2 f:LL} {s:List UInt8} {a b c d:Int} (h:Xi N l0 l1 l2 f s a b c d some=some true) {S:Nat->Prop} {w:World} (hS:∀ b,S b->b<w.heap.size) {g i j k:Value}
  (l:Rd S w g (.sl 1 l0)) (m:Rd S w i (.sl 1 l1)) (h2:Rd S w j (.sl 5 l2)) (n:Rd S w k (.sl 6 f)) :
  Calls Tryz.prog 210 #[.agg #[g,i,j,k],.agg #[.string ⟨⟨s⟩⟩,.int .i64 a,.int .i64 b,.int .i64 c,.int .i64 d]] w fun e w'=>e = .returned (.bool true)/\RowKit.Below w.heap.size w w':=by
 have he:(Gh N).E Dl 0 true [.ag ([D.sl 1 l0,.sl 1 l1,.sl 5 l2,.sl 6 f].map .d),.ag ([D.str s,.int .i64 a,.int .i64 b,.int .i64 c,.int .i64 d].map .d)] (fun _=>none) some=some ⟨.d (.bool true),[],[]⟩:=by
  show gb true (Xi N l0 l1 l2 f s a b c d some) false (fun r=>(some ⟨.d (D.bool r),[],[]⟩:Option Dl))=_;rw [h];rfl
 exact Kb (XR ((Gh N).ok) he) hS (Kn (RdLs.agg (.cons l (.cons m (.cons h2 (.cons n .nil))))) (RdLs.agg (.cons (.str ⟨⟨s⟩⟩) (.cons (.int _ _) (.cons (.int _ _) (.cons (.int _ _) (.cons (.int _ _) .nil)))))))
set_option maxHeartbeats 8000000 in
set_option maxRecDepth 100000 in
theorem Tryz.layout_calls {N:Nat} (S:Nat->Prop) (w:World) (hS:∀ b,S b->b<w.heap.size) (l0 l1 l2 d:LL) (x y z v3:Value) (h0:Rd S w x (.sl 1 l0)) (h1:Rd S w y (.sl 1 l1)) (h2:Rd S w z (.sl 5 l2)) (h3:Rd S w v3 (.sl 6 d)) (bi:Pg N l0 l1 l2 d=true)
  (hL:∀ w':World,(∀ b,S b->b<w'.heap.size)->Rd S w' x (.sl 1 l0)->Rd S w' y (.sl 1 l1)->Rd S w' z (.sl 5 l2)->Rd S w' v3 (.sl 6 d)->Calls Tryz.prog 211 #[.agg #[x,y,z,v3]] w' fun e b1=>e = .returned (.int .i64 0)/\Below w'.heap.size w' b1) :
  Calls Tryz.prog 166 #[.agg #[x,y,z,v3]] w fun e w'=>e = .returned (.int .i64 0)/\Below w.heap.size w w':=by
 simp only [Pg,Qk4,Qkg] at bi;obtain ⟨⟨⟨⟨⟨⟨⟨⟨m0,m1⟩,m2⟩,m3⟩,m4⟩,n0⟩,n1⟩,ns⟩,nl⟩:=bi;have m0:=Qk3 m0;have m1:=Qk3 m1;have m2:=Qk3 m2;have m3:=Qk3 m3;have m4:l2.length≠0:=fun e=>by rw [e] at m4;cases m4
 obtain ⟨g,h,rfl⟩:=Gc h0;obtain ⟨m,n,rfl⟩:=Gc h1;obtain ⟨q,p,rfl⟩:=Gc h2;obtain ⟨r,t,rfl⟩:=Gc h3;have q0:¬ (24:Int)<(l0.length:Int):=by omega
 have q1:¬ (48:Int)<(l1.length:Int):=by omega
 have q2:¬ (96:Int)<(l2.length:Int):=by omega
 have q3:¬ (192:Int)<(d.length:Int):=by omega
 have q4:¬ ((l2.length:Int)=0):=by omega
 have a4:(w.alloc (.cells #[.slice g l0.length h,.slice m l1.length n,.slice q l2.length p,.slice r d.length t] 27)).heap[w.heap.size]? = some (.cells #[.slice g l0.length h,.slice m l1.length n,.slice q l2.length p,.slice r d.length t] 27 (0,0)):=heap_alloc_new w _;have ao:Below w.heap.size w (w.alloc (.cells #[.slice g l0.length h,.slice m l1.length n,.slice q l2.length p,.slice r d.length t] 27)):=U9 (Below.refl _ _) (Qk2 _) _;have br:(w.alloc (.cells #[.slice g l0.length h,.slice m l1.length n,.slice q l2.length p,.slice r d.length t] 27)).heap.size=w.heap.size+1:=by simp
 have cp:∀ w:World,(Instr.makeMap 288 none).run Tryz.prog w = .ok (.map (some w.heap.size)) (w.alloc (.map #[] 0)):=fun w=>run_makeMap 288 w
 go_enter Tryz.func166,Tryz.ntmps166
 go_wp2
 generalize w.alloc (.cells #[.slice g l0.length h,.slice m l1.length n,.slice q l2.length p,.slice r d.length t] 27)=w1 at *
 go_loopw [40] (fun i wr=>∃ k:Nat,k<=2/\i = .int .i64 k/\Below (w.heap.size+1) w1 wr)
  (fun i _=>2-(intOf i).toNat)
 case atStart=>exact ⟨0,by omega,rfl,Below.refl _ _⟩
 case round=>
  obtain ⟨k,hk,rfl,hF⟩:=hrel;by_cases bx:k<2
  ·have cc:((k:Int)<2):=by omega
   obtain ⟨ad,l,cap,cb,hv,hl,hm⟩:∃ (ad:Option Addr) (l:LL) (cap:Nat),(∀ w:World,(Instr.index 287 (.agg #[.slice g l0.length h,.slice m l1.length n]) (.int .i64 k)).run Tryz.prog w = .ok (.slice ad l.length cap) w)/\Rd S w (.slice ad l.length cap) (.sl 1 l)/\TU N [] l=true/\l.length<=48:=by
    obtain rfl | rfl:k=0\/k=1:=by omega
    ·exact ⟨g,l0,h,fun _=>rfl,h0,n0,by omega⟩
    ·exact ⟨m,l1,n,fun _=>rfl,h1,n1,by omega⟩
   have ah:w.heap.size+1<=wr.heap.size:=by have:=hF.size;omega
   have hM:=Q1P.made Tryz.prog wr;have a6:=U9 hF (by omega) (.map #[] 0)
   go_wp2
   generalize wr.alloc (.map #[] 0)=w2 at *
   generalize wr.heap.size=b at *
   clear hF
   go_loopw [46] (fun i wr=>∃ (j:Nat) (aj:List (List UInt8)),j<=l.length/\i = .int .i64 j/\Q1P wr Tryz.prog b j aj/\TU N aj (l.drop j)=true/\Below (w.heap.size+1) w1 wr)
    (fun i _=>l.length-(intOf i).toNat)
   case atStart=>exact ⟨0,[],by omega,rfl,hM,hl,a6⟩
   case round=>
    obtain ⟨j,aj,hj,rfl,a2,bb,an⟩:=hrel;by_cases ay:j<l.length
    ·have bk:((j:Int)<(l.length:Int)):=by omega
     obtain ⟨s,a3,hN,aw⟩:=Q0D ay bb;have a7:=Rd.keep (w':=wr) hv hS fun c hc=>(an.block c (by omega)).trans (ao.block c hc)
     obtain ⟨a,rfl,_,_,ac⟩:=Q66 a7 a3;obtain ⟨u,hc,hu⟩:=ac 0 _ rfl;rw [Qb1 hu,Nat.mul_one,Nat.add_zero] at hc
     go_wp2_with (go_at_call 209;refine (Tryz.checkName_calls wr b j aj s a2 (by omega) hN).mono ?_)
     rintro e f ⟨rfl,ba,v⟩;have ax:=Bv an (by omega) ah v
     go_wp2
     go_roundw
     all_goals first
      |exact ⟨j+1,s::aj,ay,by go_num,ba,aw,ax⟩
      |(simp [intOf];omega)
    ·go_wp2
     go_roundw
     all_goals first
      |exact ⟨k+1,bx,by go_num,an⟩
      |(simp [intOf];omega)
  ·skip
   have ah:w.heap.size+1<=wr.heap.size:=by have:=hF.size;omega
   have hM:=Q1P.made Tryz.prog wr;have a6:=U9 hF (by omega) (.map #[] 0);have ak:=(a6.block _ (Nat.lt_succ_self _)).trans a4;have c2:(wr.alloc (.map #[] 0)).cell? ⟨w.heap.size,2,none⟩=some (.slice q l2.length p):=by rw [QjT ak];rfl
   go_wp2
   clear ak c2;generalize wr.alloc (.map #[] 0)=w2 at *
   generalize wr.heap.size=b at *
   go_loopw [62] (fun i wr=>∃ (j:Nat) (aj:List (List UInt8)),j<=l2.length/\i = .int .i64 j/\Q1P wr Tryz.prog b j aj/\Pf N l0 l1 l2 d aj (l2.drop j)=true/\Below (w.heap.size+1) w1 wr)
    (fun i _=>l2.length-(intOf i).toNat)
   case atStart=>exact ⟨0,[],by omega,rfl,hM,ns,a6⟩
   case round=>
    obtain ⟨j,aj,hj,rfl,a2,bb,an⟩:=hrel;by_cases ay:j<l2.length
    ·have bk:((j:Int)<(l2.length:Int)):=by omega
     obtain ⟨s,sa,sb,sc,sd,a3,hN,bl,aw⟩:=Q2T ay bb;have bq:∀ c,c<w.heap.size->wr.heap[c]? = w.heap[c]?:=fun c hc=>(an.block c (by omega)).trans (ao.block c hc)
     have a7:=Rd.keep (w':=wr) h2 hS bq;obtain ⟨a,rfl,_,_,ac⟩:=Q66 a7 a3;obtain ⟨u0,x0,y0⟩:=ac 0 _ rfl;obtain ⟨u1,x1,y1⟩:=ac 1 _ rfl;obtain ⟨cn,x2,y2⟩:=ac 2 _ rfl;obtain ⟨c5,x3,y3⟩:=ac 3 _ rfl;obtain ⟨cy,x4,y4⟩:=ac 4 _ rfl;rw [Qb1 y0,Nat.add_zero] at x0;rw [GU y1,J7 _ _ _ (by decide)] at x1;rw [GU y2,J7 _ _ _ (by decide)] at x2;rw [GU y3,J7 _ _ _ (by decide)] at x3;rw [GU y4,J7 _ _ _ (by decide)] at x4;clear ac y0 y1 y2 y3 y4 a7;have ar:wr.grownBy (wr.alloc (.cells #[.string ⟨⟨s⟩⟩,.int .i64 sa,.int .i64 sb,.int .i64 sc,.int .i64 sd] 49)) none:=World.grownBy_alloc wr _ none;have bh:=U9 an (by omega) (.cells #[.string ⟨⟨s⟩⟩,.int .i64 sa,.int .i64 sb,.int .i64 sc,.int .i64 sd] 49);have bj:=a2.kept ar (by simp);have au:(wr.alloc (.cells #[.string ⟨⟨s⟩⟩,.int .i64 sa,.int .i64 sb,.int .i64 sc,.int .i64 sd] 49)).heap[wr.heap.size]? = some (.cells #[.string ⟨⟨s⟩⟩,.int .i64 sa,.int .i64 sb,.int .i64 sc,.int .i64 sd] 49 (0,0)):=heap_alloc_new wr _;have cx:b<wr.heap.size:=a2.lt;have bv:w.heap.size+1<=wr.heap.size:=by have:=an.size;omega
     go_wp2_with (go_at_call 209;refine (Tryz.checkName_calls (wr.alloc (.cells #[.string ⟨⟨s⟩⟩,.int .i64 sa,.int .i64 sb,.int .i64 sc,.int .i64 sd] 49)) b j aj s bj (by omega) hN).mono ?_)
     rintro e f ⟨rfl,ba,v⟩;have ax:=Bv bh (by omega) ah v;have ak:=(ax.block _ (Nat.lt_succ_self _)).trans a4;have az:=(v.block wr.heap.size (by simp) (by simp;omega)).trans au;clear bh bj au ar v a2 an;have z0:f.cell? ⟨w.heap.size,0,none⟩=some (.slice g l0.length h):=by rw [QjT ak];rfl
     have z1:f.cell? ⟨w.heap.size,1,none⟩=some (.slice m l1.length n):=by rw [QjT ak];rfl
     have z2:f.cell? ⟨w.heap.size,2,none⟩=some (.slice (some a) l2.length p):=by rw [QjT ak];rfl
     have z3:f.cell? ⟨w.heap.size,3,none⟩=some (.slice r d.length t):=by rw [QjT ak];rfl
     have y0:f.cell? ⟨wr.heap.size,0,none⟩=some (.string ⟨⟨s⟩⟩):=by rw [QjT az];rfl
     have y1:f.cell? ⟨wr.heap.size,1,none⟩=some (.int .i64 sa):=by rw [QjT az];rfl
     have y2:f.cell? ⟨wr.heap.size,2,none⟩=some (.int .i64 sb):=by rw [QjT az];rfl
     have y3:f.cell? ⟨wr.heap.size,3,none⟩=some (.int .i64 sc):=by rw [QjT az];rfl
     have y4:f.cell? ⟨wr.heap.size,4,none⟩=some (.int .i64 sd):=by rw [QjT az];rfl
     have o:∀ c,c<w.heap.size->f.heap[c]? = w.heap[c]?:=fun c hc=>(ax.block c (by omega)).trans (ao.block c hc)
     have a8:∀ c,S c->c<f.heap.size:=fun c hc=>by have:=hS c hc;have:=ax.size;omega
     have g0:=Rd.keep h0 hS o;have g1:=Rd.keep h1 hS o;have g2:=Rd.keep h2 hS o;have g3:=Rd.keep h3 hS o
     go_wp2_with (go_at_call 210;refine (Q6u bl a8 g0 g1 g2 g3).mono ?_)
     rintro e w4 ⟨rfl,a5⟩;have bn:=ba.kept (Wb a5) (by simp);have aq:=Uw ax (by omega) a5
     go_wp2
     go_roundw
     all_goals first
      |exact ⟨j+1,s::aj,ay,by go_num,bn,aw,aq⟩
      |(simp [intOf];omega)
    ·have ak:=(an.block _ (Nat.lt_succ_self _)).trans a4;have z0:wr.cell? ⟨w.heap.size,0,none⟩=some (.slice g l0.length h):=by rw [QjT ak];rfl
     have z1:wr.cell? ⟨w.heap.size,1,none⟩=some (.slice m l1.length n):=by rw [QjT ak];rfl
     have z2:wr.cell? ⟨w.heap.size,2,none⟩=some (.slice q l2.length p):=by rw [QjT ak];rfl
     have z3:wr.cell? ⟨w.heap.size,3,none⟩=some (.slice r d.length t):=by rw [QjT ak];rfl
     have o:∀ c,c<w.heap.size->wr.heap[c]? = w.heap[c]?:=fun c hc=>(an.block c (by omega)).trans (ao.block c hc)
     have a8:∀ c,S c->c<wr.heap.size:=fun c hc=>by have:=hS c hc;have:=an.size;omega
     have a9:=hL wr a8 (Rd.keep h0 hS o) (Rd.keep h1 hS o) (Rd.keep h2 hS o) (Rd.keep h3 hS o)
     go_wp2_with (go_at_call 211;refine a9.mono ?_)
     rintro e w4 ⟨rfl,a5⟩;have aq:=Uw an (by omega) a5
     go_wp2
     refine bodyPost_ret (results_tmp rfl _ _ _) rfl ?_;exact ⟨rfl,aq.os.trans ao.os,aq.tape.trans ao.tape,aq.output.trans ao.output,by have:=aq.size;omega,fun c hc=>(aq.block c (by omega)).trans (ao.block c hc)⟩
theorem Q6W {w w':World} {a:Addr} {u:Value} (hB:Below w.heap.size w w') (h:w.cell? a=some u):w'.cell? a=some u:=by
 rw [World.cell?_of_block (hB.block a.block (World.block_lt_of_cell? w a h))];exact h
theorem NM (w:World):Below w.heap.size w w.drew:=⟨rfl,rfl,rfl,Qk2 _,fun _ _=>rfl⟩
theorem NG {w w1 a:World} (h:Below w.heap.size w w1) (h2:Below w1.heap.size w1 a):Below w.heap.size w a:=Uw h (Qk2 _) h2
theorem Q5M {β:Nat->Option Nat} {S:Nat->Prop} {h:Nat->Option Ob} {w:World} {tm:Nat->Value} {v:Value} {k:IntKind} {n:Int} (h:RdA β S h w tm v (.d (.int k n))):v = .int k n:=by
 cases h with
 |d _ _ q=>exact GU q
 |dang _ _ _ hl=>cases hl
theorem Q7i {β:Nat->Option Nat} {S:Nat->Prop} {h:Nat->Option Ob} {w:World} {tm:Nat->Value} {v:Value} {k k':IntKind} {n m:Int} (h:RdA β S h w tm v (.ag [.d (.int k n),.d (.int k' m)])):v = .agg #[.int k n,.int k' m]:=by
 cases h with
 |ag cs l hl hr=>
  have c:=Q5M (hr 0 _ rfl);have d:=Q5M (hr 1 _ rfl);obtain ⟨l⟩:=cs
  match l,hl with
  |[a,b],_=>
   simp at c d;rw [c,d]
 |dang _ _ _ hl=>cases hl
theorem Tryz.index_calls (w:World) (a b:Int) (a0:0<=a) (a1:a<1000) (b0:0<=b) (b1:b<=1) :
  Calls Tryz.prog 238 #[.agg #[.int .i64 a,.int .i64 b]] w fun e w'=>e = .returned (.int .i64 (2*a+b))/\Below w.heap.size w w':=by
 have e1:IntKind.i64.wrap (2*a)=2*a:=by rw [IntKind.wrap_i64];omega
 have e2:IntKind.i64.wrap (2*a+b)=2*a+b:=by rw [IntKind.wrap_i64];omega
 have hp:Hn 0 a b some=some (2*a+b):=by
  show some (IntKind.i64.wrap (IntKind.i64.wrap (2*a)+b))=_;rw [e1,e2]
 have he:(TQ 0).E Dl 0 true [.ag ([D.int .i64 a,D.int .i64 b].map .d)] (fun _=>none) some=some ⟨.d (D.int .i64 (2*a+b)),[],[]⟩:=by
  show gb true (Hn 0 a b some) 0 (fun r=>(some ⟨.d (D.int .i64 r),[],[]⟩:Option Dl))=_;rw [hp];rfl
 exact Gy (S:=fun _=>False) (XR ((TQ 0).ok) he) (fun _ h=>h.elim) (Q7S (RdLs.agg (.cons (.int _ _) (.cons (.int _ _) .nil))))
set_option maxHeartbeats 4000000 in
theorem Tryz.ends_calls (w:World) (a ae b be p q:Int) :
  Calls Tryz.prog 237 #[.agg #[.int .i64 a,.int .i64 ae,.int .i64 b,.int .i64 be,.int .i64 p,.int .i64 q]] w fun e w'=>e = .returned (.tuple #[.agg #[.int .i64 a,.int .i64 ae],.agg #[.int .i64 b,.int .i64 be]])/\Below w.heap.size w w':=by
 have he:(HW 0).E Dl 0 true [.ag ([D.int .i64 a,D.int .i64 ae,D.int .i64 b,D.int .i64 be,D.int .i64 p,D.int .i64 q].map .d)] (fun _=>none) some=some ⟨.tup [.ag ([D.int .i64 a,D.int .i64 ae].map .d),.ag ([D.int .i64 b,D.int .i64 be].map .d)],[],[]⟩:=rfl;refine (Ci (S:=fun _=>False) (XR ((HW 0).ok) he) (fun _ h=>h.elim) (Q7S (RdLs.agg (.cons (.int _ _) (.cons (.int _ _) (.cons (.int _ _) (.cons (.int _ _) (.cons (.int _ _) (.cons (.int _ _) .nil))))))))).mono fun e w' ⟨v,S',f,h2,g⟩=>⟨?_,g⟩
 rw [f];cases h2 with
 |tup cs l hl hr=>
  have c:=Q7i (hr 0 _ rfl);have d:=Q7i (hr 1 _ rfl);obtain ⟨l⟩:=cs
  match l,hl with
  |[a,b],_=>
   simp at c d;rw [c,d]
 |dang v av l hl=>cases hl
theorem Gf {e1 e2 k:Nat} {w w':World} {B:Nat} {v:Value} {hd:List Value} {ll:List LL} (h:NestK e1 e2 k w B v hd ll) (hg:w.grownBy w' none):NestK e1 e2 k w' B v hd ll:=
 h.kept hg (Classical.em _) (fun x _=>Classical.em _)
structure Grew (w w':World) (vb:Nat) (x x':Value):Prop where
 own:∀ b,x'.ownBlock=some b->x.ownBlock=some b\/w.heap.size<=b
 os:w'.os=w.os
 tape:w'.tape=w.tape
 output:w'.output=w.output
 size:w.heap.size<=w'.heap.size
 block:∀ b,b<w.heap.size->b≠vb->x.ownBlock≠some b->w'.heap[b]? = w.heap[b]?
theorem Q39 {w W1 W2:World} {B vb N i n g c:Nat} {x:Value} {hd:List Value} {ll:List LL} {l:LL} {row:List D} (hN:NestK 25 186 6 w B (.slice (some ⟨vb,0,none⟩) N N) hd ll) (hx:hd[i]? = some x) (hl:ll[i]? = some l) (hn:n=l.length)
  (a:w.grownBy W1 none) (aj:W2.ownsRow B 186 6 (.slice (some ⟨g,0,none⟩) (n+1) c) (n+1) (cellsOf l++row.map dV)) (ac:W1.grownBy W2 x.ownBlock) (hat:x.ownBlock=some g\/g=W1.heap.size) :
  NestK 25 186 6 (W2.setCell ⟨vb,i,none⟩ (.slice (some ⟨g,0,none⟩) (n+1) c)) B (.slice (some ⟨vb,0,none⟩) N N) (hd.set i (.slice (some ⟨g,0,none⟩) (n+1) c)) (ll.set i (l++[row])) /\
   Grew w (W2.setCell ⟨vb,i,none⟩ (.slice (some ⟨g,0,none⟩) (n+1) c)) vb x (.slice (some ⟨g,0,none⟩) (n+1) c):=by
 subst hn;have d:=Gf hN a;have s1:=a.size;have s2:=ac.size;refine ⟨d.grow hx hl aj ac rfl hat rfl rfl,⟨fun b hb=>?_,?_,?_,?_,?_,fun b hb h2 f=>?_⟩⟩
 ·simp only [Value.ownBlock,Option.some.injEq] at hb;subst hb;rcases hat with h | h
  ·exact .inl h
  ·exact .inr (by omega)
 ·exact ac.os.trans a.os
 ·exact ac.tape.trans a.tape
 ·exact ac.output.trans a.output
 ·simp;omega
 ·rw [heap_setCell_other _ _ _ _ (fun e=>h2 e)];rw [ac.block b (by omega) (fun e=>f e.symm),a.block b hb (by simp)]
noncomputable def QbQ:Code:=(Gi (Tryz.f211.body.getD .skip)).getD 8 .skip
set_option maxHeartbeats 8000000 in
set_option maxRecDepth 100000 in
theorem Tryz.links_r8 (f g u2 h i u8 u9 j k l m n o p q r s t u v x y z aa ab ac ad ag cf cg ch ci cj ck cm cn ah ai aj ak al am an ao ap aq ar au av aw ax ay az ba bb bc bd bg bh bi bj a2 bk bl bm bn bo bp bq br bt bu bv bx bz ca cb:Value) (vb N c d:Nat) (a ae b be:Int) (w:World) (c0:w.cell? ⟨c,0,none⟩=some (.int .i64 a)) (c1:w.cell? ⟨c,1,none⟩=some (.int .i64 ae)) (d0:w.cell? ⟨d,0,none⟩=some (.int .i64 b)) (d1:w.cell? ⟨d,1,none⟩=some (.int .i64 be)) (a0:0<=a) (a1:a<1000) (e0:0<=ae) (e1:ae<=1) (b0:0<=b) (b1:b<1000) (f0:0<=be) (f1:be<=1) (h1:2*a+ae<(N:Int)) (h2:2*b+be<(N:Int)) :
  Code.wp Tryz.prog QbQ (Q5u fun act w'=>∃ (co cp cq cr cs ct cu cv:Value) ,act=⟨(f::g::u2::.slice (some ⟨vb,0,none⟩) N N::h::i::.pointer (some ⟨c,0,none⟩)::.pointer (some ⟨d,0,none⟩)::.pointer (some ⟨vb,(2*a+ae).toNat,none⟩)::.pointer (some ⟨vb,(2*b+be).toNat,none⟩)::j::k::l::m::n::o::p::q::r::s::t::u::v::x::y::z::aa::ab::ac::ad::ag::co::cp::cq::cr::cs::ct::cu::cv::ah::ai::aj::ak::al::am::an::ao::ap::aq::ar::au::av::aw::ax::ay::az::ba::bb::bc::bd::bg::bh::bi::bj::a2::bk::bl::bm::bn::bo::bp::bq::br::bt::bu::bv::bx::bz::ca::cb::[]).toArray,[]⟩/\Below w.heap.size w w') ⟨(f::g::u2::.slice (some ⟨vb,0,none⟩) N N::h::i::.pointer (some ⟨c,0,none⟩)::.pointer (some ⟨d,0,none⟩)::u8::u9::j::k::l::m::n::o::p::q::r::s::t::u::v::x::y::z::aa::ab::ac::ad::ag::cf::cg::ch::ci::cj::ck::cm::cn::ah::ai::aj::ak::al::am::an::ao::ap::aq::ar::au::av::aw::ax::ay::az::ba::bb::bc::bd::bg::bh::bi::bj::a2::bk::bl::bm::bn::bo::bp::bq::br::bt::bu::bv::bx::bz::ca::cb::[]).toArray,[]⟩ w:=by
 conv=>arg 2;whnf
 have mixed:Tryz.prog.follows .mixedOrders=true:=by kernel_rfl
 have y0:w.drew.cell? ⟨c,0,none⟩=some (.int .i64 a):=c0;have y1:w.drew.cell? ⟨c,1,none⟩=some (.int .i64 ae):=c1;have y2:w.drew.cell? ⟨d,0,none⟩=some (.int .i64 b):=d0;have y3:w.drew.cell? ⟨d,1,none⟩=some (.int .i64 be):=d1;have g1:0<=2*a+ae:=by omega
 have g2:0<=2*b+be:=by omega
 clear c0 c1 d0 d1
 go_region_held3 (fun w'=>w'.cell? ⟨c,0,none⟩=some (.int .i64 a)/\w'.cell? ⟨c,1,none⟩=some (.int .i64 ae)/\w'.cell? ⟨d,0,none⟩=some (.int .i64 b)/\w'.cell? ⟨d,1,none⟩=some (.int .i64 be))
  (first
   |exact ⟨y0,y1,y2,y3⟩
   |(refine ⟨?_,?_,?_,?_⟩ <;> (repeat (first | assumption | refine Q6W (by assumption) ?_))))
  (first
   |(go_at_call 238;refine (Tryz.index_calls _ _ _ (by assumption) (by assumption) (by assumption) (by assumption)).mono ?_;rintro e W1 ⟨rfl,df⟩))
 all_goals
  dsimp only [Q5u];refine ⟨_,_,_,_,_,_,_,_,rfl,?_⟩
  repeat (first | exact NM _ | refine NG ?_ (by assumption))
noncomputable def Q9M:Code:=(Gi (Tryz.f211.body.getD .skip)).getD 11 .skip
set_option maxHeartbeats 8000000 in
set_option maxRecDepth 100000 in
theorem Tryz.links_r11 (f g u2 u3 h j k l m o p q r s t u v x y z aa ab ac ag ah ai aj ak al am an ao ap aq ar au av aw ax ay ci cj ck cm cn co cp az ba bb bc bd bg bh bi bj bk bl bm bn bo a2 bp bq br bt bu bv bx bz ca cb cc ce cf cg ch:Value) (vb i c d n cap:Nat) (ad:Option Addr) (a ae b be:Int) (w:World) (c0:w.cell? ⟨c,0,none⟩=some (.int .i64 a)) (c1:w.cell? ⟨c,1,none⟩=some (.int .i64 ae)) (d0:w.cell? ⟨d,0,none⟩=some (.int .i64 b)) (d1:w.cell? ⟨d,1,none⟩=some (.int .i64 be)) (cx:w.cell? ⟨vb,i,none⟩=some (.slice ad n cap))
  (hc:Calls Tryz.prog 239 #[.slice ad n cap,.agg #[.int .i64 a,.int .i64 ae],.agg #[.int .i64 b,.int .i64 be]] w.drew fun e w'=>e = .returned (.bool false)/\Below w.drew.heap.size w.drew w') :
  Code.wp Tryz.prog Q9M (Q5u fun act w'=>∃ (cq cr cs ct cu cv:Value) ,act=⟨(f::g::u2::u3::h::j::.pointer (some ⟨c,0,none⟩)::.pointer (some ⟨d,0,none⟩)::.pointer (some ⟨vb,i,none⟩)::k::l::m::o::p::q::r::s::t::u::v::x::y::z::aa::ab::ac::ag::ah::ai::aj::ak::al::am::an::ao::ap::aq::ar::au::av::aw::ax::ay::.bool false::cq::cr::cs::ct::cu::cv::az::ba::bb::bc::bd::bg::bh::bi::bj::bk::bl::bm::bn::bo::a2::bp::bq::br::bt::bu::bv::bx::bz::ca::cb::cc::ce::cf::cg::ch::[]).toArray,[]⟩/\Below w.heap.size w w') ⟨(f::g::u2::u3::h::j::.pointer (some ⟨c,0,none⟩)::.pointer (some ⟨d,0,none⟩)::.pointer (some ⟨vb,i,none⟩)::k::l::m::o::p::q::r::s::t::u::v::x::y::z::aa::ab::ac::ag::ah::ai::aj::ak::al::am::an::ao::ap::aq::ar::au::av::aw::ax::ay::ci::cj::ck::cm::cn::co::cp::az::ba::bb::bc::bd::bg::bh::bi::bj::bk::bl::bm::bn::bo::a2::bp::bq::br::bt::bu::bv::bx::bz::ca::cb::cc::ce::cf::cg::ch::[]).toArray,[]⟩ w:=by
 conv=>arg 2;whnf
 have mixed:Tryz.prog.follows .mixedOrders=true:=by kernel_rfl
 have y0:w.drew.cell? ⟨c,0,none⟩=some (.int .i64 a):=c0;have y1:w.drew.cell? ⟨c,1,none⟩=some (.int .i64 ae):=c1;have y2:w.drew.cell? ⟨d,0,none⟩=some (.int .i64 b):=d0;have y3:w.drew.cell? ⟨d,1,none⟩=some (.int .i64 be):=d1;have y4:w.drew.cell? ⟨vb,i,none⟩=some (.slice ad n cap):=cx;clear c0 c1 d0 d1 cx
 go_region_law (first
   |(go_simp;refine hc.mono ?_;rintro e W1 ⟨rfl,cw⟩))
 all_goals
  dsimp only [Q5u];refine ⟨_,_,_,_,_,_,rfl,?_⟩;exact NG (NM w) cw
noncomputable def Q9J:Code:=(Gi (Tryz.f211.body.getD .skip)).getD 13 .skip
set_option maxHeartbeats 8000000 in
set_option maxRecDepth 100000 in
theorem Tryz.links_r13 (d f u2 u3 g h j k l m o r s t u v x y z aa ab ac ag ah ai aj ak al am an ao ap aq ar au av aw ax ay az ba bb bc bd bg bh bi bj cp cq cr cs ct cu cv bk bl bm bn bo bp bq a2 br bt bu bv bx bz ca cb cc ce cf cg ch ci cj:Value) (vb i c n cap:Nat) (ad:Option Addr) (a ae b be p q:Int) (w:World) (c0:w.cell? ⟨c,0,none⟩=some (.int .i64 a)) (c1:w.cell? ⟨c,1,none⟩=some (.int .i64 ae)) (c2:w.cell? ⟨c,2,none⟩=some (.int .i64 b)) (c3:w.cell? ⟨c,3,none⟩=some (.int .i64 be)) (c4:w.cell? ⟨c,4,none⟩=some (.int .i64 p)) (c5:w.cell? ⟨c,5,none⟩=some (.int .i64 q)) (cx:w.cell? ⟨vb,i,none⟩=some (.slice ad n cap))
  (hc:Calls Tryz.prog 240 #[.agg #[.int .i64 a,.int .i64 ae,.int .i64 b,.int .i64 be,.int .i64 p,.int .i64 q],.slice ad n cap] w.drew fun e w'=>e = .returned (.bool true)/\Below w.drew.heap.size w.drew w') :
  Code.wp Tryz.prog Q9J (Q5u fun act w'=>∃ (cw cy cz da db dc:Value) ,act=⟨(d::f::u2::u3::g::.pointer (some ⟨c,0,none⟩)::h::j::.pointer (some ⟨vb,i,none⟩)::k::l::m::o::r::s::t::u::v::x::y::z::aa::ab::ac::ag::ah::ai::aj::ak::al::am::an::ao::ap::aq::ar::au::av::aw::ax::ay::az::ba::bb::bc::bd::bg::bh::bi::bj::.bool false::cw::cy::cz::da::db::dc::bk::bl::bm::bn::bo::bp::bq::a2::br::bt::bu::bv::bx::bz::ca::cb::cc::ce::cf::cg::ch::ci::cj::[]).toArray,[]⟩/\Below w.heap.size w w') ⟨(d::f::u2::u3::g::.pointer (some ⟨c,0,none⟩)::h::j::.pointer (some ⟨vb,i,none⟩)::k::l::m::o::r::s::t::u::v::x::y::z::aa::ab::ac::ag::ah::ai::aj::ak::al::am::an::ao::ap::aq::ar::au::av::aw::ax::ay::az::ba::bb::bc::bd::bg::bh::bi::bj::cp::cq::cr::cs::ct::cu::cv::bk::bl::bm::bn::bo::bp::bq::a2::br::bt::bu::bv::bx::bz::ca::cb::cc::ce::cf::cg::ch::ci::cj::[]).toArray,[]⟩ w:=by
 conv=>arg 2;whnf
 have mixed:Tryz.prog.follows .mixedOrders=true:=by kernel_rfl
 have y0:w.drew.cell? ⟨c,0,none⟩=some (.int .i64 a):=c0;have y1:w.drew.cell? ⟨c,1,none⟩=some (.int .i64 ae):=c1;have y2:w.drew.cell? ⟨c,2,none⟩=some (.int .i64 b):=c2;have y3:w.drew.cell? ⟨c,3,none⟩=some (.int .i64 be):=c3;have y5:w.drew.cell? ⟨c,4,none⟩=some (.int .i64 p):=c4;have y6:w.drew.cell? ⟨c,5,none⟩=some (.int .i64 q):=c5;have y4:w.drew.cell? ⟨vb,i,none⟩=some (.slice ad n cap):=cx;clear c0 c1 c2 c3 c4 c5 cx
 go_region_law (first
   |(go_simp;refine hc.mono ?_;rintro e W1 ⟨rfl,dd⟩))
 all_goals
  dsimp only [Q5u];refine ⟨_,_,_,_,_,_,rfl,?_⟩;exact NG (NM w) dd
noncomputable def Q9L:Code:=(Gi (Tryz.f211.body.getD .skip)).getD 14 .skip
set_option maxHeartbeats 8000000 in
set_option maxRecDepth 100000 in
theorem Tryz.links_r14 (d f u2 u3 g h j k l m o r s t u v x y z aa ab ac ag ah ai aj ak al am an ao ap aq ar au av aw ax ay az ba bb bc bd bg bh bi bj cp bk bl bm bn bo bp cq cr cs ct cu cv bq a2 br bt bu bv bx bz ca cb cc ce cf cg ch ci cj:Value) (vb i c n cap:Nat) (ad:Option Addr) (a ae b be p q:Int) (w:World) (c0:w.cell? ⟨c,0,none⟩=some (.int .i64 a)) (c1:w.cell? ⟨c,1,none⟩=some (.int .i64 ae)) (c2:w.cell? ⟨c,2,none⟩=some (.int .i64 b)) (c3:w.cell? ⟨c,3,none⟩=some (.int .i64 be)) (c4:w.cell? ⟨c,4,none⟩=some (.int .i64 p)) (c5:w.cell? ⟨c,5,none⟩=some (.int .i64 q)) (cx:w.cell? ⟨vb,i,none⟩=some (.slice ad n cap))
  (hc:Calls Tryz.prog 240 #[.agg #[.int .i64 a,.int .i64 ae,.int .i64 b,.int .i64 be,.int .i64 p,.int .i64 q],.slice ad n cap] w.drew fun e w'=>e = .returned (.bool true)/\Below w.drew.heap.size w.drew w') :
  Code.wp Tryz.prog Q9L (Q5u fun act w'=>∃ (cw cy cz da db dc:Value) ,act=⟨(d::f::u2::u3::g::.pointer (some ⟨c,0,none⟩)::h::j::k::.pointer (some ⟨vb,i,none⟩)::l::m::o::r::s::t::u::v::x::y::z::aa::ab::ac::ag::ah::ai::aj::ak::al::am::an::ao::ap::aq::ar::au::av::aw::ax::ay::az::ba::bb::bc::bd::bg::bh::bi::bj::.bool false::bk::bl::bm::bn::bo::bp::cw::cy::cz::da::db::dc::bq::a2::br::bt::bu::bv::bx::bz::ca::cb::cc::ce::cf::cg::ch::ci::cj::[]).toArray,[]⟩/\Below w.heap.size w w') ⟨(d::f::u2::u3::g::.pointer (some ⟨c,0,none⟩)::h::j::k::.pointer (some ⟨vb,i,none⟩)::l::m::o::r::s::t::u::v::x::y::z::aa::ab::ac::ag::ah::ai::aj::ak::al::am::an::ao::ap::aq::ar::au::av::aw::ax::ay::az::ba::bb::bc::bd::bg::bh::bi::bj::cp::bk::bl::bm::bn::bo::bp::cq::cr::cs::ct::cu::cv::bq::a2::br::bt::bu::bv::bx::bz::ca::cb::cc::ce::cf::cg::ch::ci::cj::[]).toArray,[]⟩ w:=by
 conv=>arg 2;whnf
 have mixed:Tryz.prog.follows .mixedOrders=true:=by kernel_rfl
 have y0:w.drew.cell? ⟨c,0,none⟩=some (.int .i64 a):=c0;have y1:w.drew.cell? ⟨c,1,none⟩=some (.int .i64 ae):=c1;have y2:w.drew.cell? ⟨c,2,none⟩=some (.int .i64 b):=c2;have y3:w.drew.cell? ⟨c,3,none⟩=some (.int .i64 be):=c3;have y5:w.drew.cell? ⟨c,4,none⟩=some (.int .i64 p):=c4;have y6:w.drew.cell? ⟨c,5,none⟩=some (.int .i64 q):=c5;have y4:w.drew.cell? ⟨vb,i,none⟩=some (.slice ad n cap):=cx;clear c0 c1 c2 c3 c4 c5 cx
 go_region_law (first
   |(go_simp;refine hc.mono ?_;rintro e W1 ⟨rfl,dd⟩))
 all_goals
  dsimp only [Q5u];refine ⟨_,_,_,_,_,_,rfl,?_⟩;exact NG (NM w) dd
noncomputable def Qah:Code:=(Gi (Tryz.f211.body.getD .skip)).getD 16 .skip
set_option maxHeartbeats 8000000 in
set_option maxRecDepth 100000 in
theorem Tryz.links_r16 (m n u2 u3 o r s t v x y z aa ab ac ag ah ai aj ak al am an ao ap aq ar au av aw ax ay az ba bb bc bd bg bh bi bj bk bl bm bn bo bp bq br bt bu bv bx bz ca cb cc ce cf cg ch ct b4 cu cv cw cx cy cz ci cj ck cm cn co cp cq cr:Value) (B vb N i c cap:Nat) (ad:Option Addr) (a ae b be p q:Int) (hd:List Value) (ll:List LL) (l:LL) (w:World) (c0:w.cell? ⟨c,0,none⟩=some (.int .i64 a)) (c1:w.cell? ⟨c,1,none⟩=some (.int .i64 ae)) (c2:w.cell? ⟨c,2,none⟩=some (.int .i64 b)) (c3:w.cell? ⟨c,3,none⟩=some (.int .i64 be)) (c4:w.cell? ⟨c,4,none⟩=some (.int .i64 p)) (c5:w.cell? ⟨c,5,none⟩=some (.int .i64 q))
  (hN:NestK 25 186 6 w B (.slice (some ⟨vb,0,none⟩) N N) hd ll) (hx:hd[i]? = some (.slice ad l.length cap)) (hl:ll[i]? = some l) (dz:l.length<=1000) (hB:B<=w.heap.size) (ea:c≠vb) (eb:(Value.slice ad l.length cap).ownBlock≠some c) :
  Code.wp Tryz.prog Qah (Q5u fun act w'=>∃ (dd de df dg dh di dj dk:Value) (xx:Value),act=⟨(m::n::u2::u3::o::.pointer (some ⟨c,0,none⟩)::r::s::.pointer (some ⟨vb,i,none⟩)::t::v::x::y::z::aa::ab::ac::ag::ah::ai::aj::ak::al::am::an::ao::ap::aq::ar::au::av::aw::ax::ay::az::ba::bb::bc::bd::bg::bh::bi::bj::bk::bl::bm::bn::bo::bp::bq::br::bt::bu::bv::bx::bz::ca::cb::cc::ce::cf::cg::ch::dd::de::df::dg::dh::di::dj::dk::ci::cj::ck::cm::cn::co::cp::cq::cr::[]).toArray,[]⟩/\NestK 25 186 6 w' B (.slice (some ⟨vb,0,none⟩) N N) (hd.set i xx) (ll.set i (l++[[D.int .i64 a,.int .i64 ae,.int .i64 b,.int .i64 be,.int .i64 p,.int .i64 q]]))/\Grew w w' vb (.slice ad l.length cap) xx) ⟨(m::n::u2::u3::o::.pointer (some ⟨c,0,none⟩)::r::s::.pointer (some ⟨vb,i,none⟩)::t::v::x::y::z::aa::ab::ac::ag::ah::ai::aj::ak::al::am::an::ao::ap::aq::ar::au::av::aw::ax::ay::az::ba::bb::bc::bd::bg::bh::bi::bj::bk::bl::bm::bn::bo::bp::bq::br::bt::bu::bv::bx::bz::ca::cb::cc::ce::cf::cg::ch::ct::b4::cu::cv::cw::cx::cy::cz::ci::cj::ck::cm::cn::co::cp::cq::cr::[]).toArray,[]⟩ w:=by
 conv=>arg 2;whnf
 have mixed:Tryz.prog.follows .mixedOrders=true:=by kernel_rfl
 obtain ⟨i0,hi,dn⟩:=Qk8.1 (show (Tryz.prog.info? 186).map (fun i=>(i.zero,i.size,i.bytes))=some (some (.agg #[.int .i64 0,.int .i64 0,.int .i64 0,.int .i64 0,.int .i64 0,.int .i64 0]),6,48) by kernel_rfl);obtain ⟨hz,f⟩:=Prod.mk.inj dn;obtain ⟨f,dp⟩:=Prod.mk.inj f;have a9:=(hN.row.lt vb rfl).2;have b3:=hN.each _ _ _ hx hl;have dq:w.cell? ⟨vb,i,none⟩=some (.slice ad l.length cap):=by
  have:=hN.row.cells (g:=vb) rfl i _ hx;rwa [H3,Qke] at this
 have a7:(Value.slice ad l.length cap).ownBlock≠some vb:=fun e=>hN.outer _ _ _ hx e rfl
 obtain ⟨a5,b0⟩:∃ a5,w.drew.heap[vb]? = some (.cells a5 25 (0,0)):=by
  rcases hN.row.2 with ⟨e,_⟩ | ⟨g,dc,a5,e,_,hg,_⟩
  ·cases e
  ·cases e;exact ⟨a5,hg⟩
 have q1:l.length+1<=maxLen:=by unfold maxLen;omega
 have q2:(l.length+1)*48<=140737488355328:=by omega
 have q3:∀ u∈[Value.int .i64 a,.int .i64 ae,.int .i64 b,.int .i64 be,.int .i64 p,.int .i64 q],u.oneCell'=true:=by simp [Value.oneCell']
 have y0:w.drew.cell? ⟨c,0,none⟩=some (.int .i64 a):=c0;have y1:w.drew.cell? ⟨c,1,none⟩=some (.int .i64 ae):=c1;have y2:w.drew.cell? ⟨c,2,none⟩=some (.int .i64 b):=c2;have y3:w.drew.cell? ⟨c,3,none⟩=some (.int .i64 be):=c3;have y5:w.drew.cell? ⟨c,4,none⟩=some (.int .i64 p):=c4;have y6:w.drew.cell? ⟨c,5,none⟩=some (.int .i64 q):=c5;have y4:w.drew.cell? ⟨vb,i,none⟩=some (.slice ad l.length cap):=dq;have d:w.drew.grownBy (w.drew.alloc (.cells #[.int .i64 a,.int .i64 ae,.int .i64 b,.int .i64 be,.int .i64 p,.int .i64 q] 186)) none:=World.grownBy_alloc _ _ none;have dw:w.drew.ownsRow B 186 6 (.slice ad l.length cap) l.length (cellsOf l):=b3;have dx:(w.drew.alloc (.cells #[.int .i64 a,.int .i64 ae,.int .i64 b,.int .i64 be,.int .i64 p,.int .i64 q] 186)).ownsRow B 186 6 (.slice ad l.length cap) l.length (cellsOf l):=World.ownsRow.kept (w:=w.drew) dw d (Classical.em _);have dy:∀ (j:Nat) (u:Value),[Value.int .i64 a,.int .i64 ae,.int .i64 b,.int .i64 be,.int .i64 p,.int .i64 q][j]? = some u->(w.drew.alloc (.cells #[.int .i64 a,.int .i64 ae,.int .i64 b,.int .i64 be,.int .i64 p,.int .i64 q] 186)).cell? ((⟨w.drew.heap.size,0,none⟩:Addr).add j)=some u:=World.news_of_block (heap_alloc_new _ _);have h:w.drew.heap.size<=(w.drew.alloc (.cells #[.int .i64 a,.int .i64 ae,.int .i64 b,.int .i64 be,.int .i64 p,.int .i64 q] 186)).heap.size:=d.size;have b1:B<=(w.drew.alloc (.cells #[.int .i64 a,.int .i64 ae,.int .i64 b,.int .i64 be,.int .i64 p,.int .i64 q] 186)).heap.size:=Qkd hB h;have a2:vb<w.drew.heap.size:=a9;have a6:=(d.block vb a2 (fun e=>by cases e)).trans b0;have k:=d.cell_far ⟨vb,i,none⟩ a2 (fun e=>by cases e);have k:=k.trans y4;have c8:(1:Nat)*6=6:=rfl
 go_region_law (first
   |(refine step_append_lies (w.drew.alloc (.cells #[.int .i64 a,.int .i64 ae,.int .i64 b,.int .i64 be,.int .i64 p,.int .i64 q] 186)) (by rfl) _ _ 25 (by rfl) B 186 i0 (.agg #[.int .i64 0,.int .i64 0,.int .i64 0,.int .i64 0,.int .i64 0,.int .i64 0]) 6 48 Tryz.underlying25 hi hz f dp (by rfl) (by decide) _ l.length (cellsOf l) (by rfl) dx ⟨w.drew.heap.size,0,none⟩ 1 1 [Value.int .i64 a,.int .i64 ae,.int .i64 b,.int .i64 be,.int .i64 p,.int .i64 q] (by rfl) rfl dy q3 (by decide) q1 q2 b1 _ rfl ?_;intro g c2 W2 a8 a4 hat e5;
     have rx:=(a4.cell_far ⟨vb,i,none⟩ (Qk1 a2 h) (fun e=>a7 e.symm)).trans k;
     have rf:=frozen_of_row W2 vb i a5 25 ((a4.block vb (Qk1 a2 h) (fun e=>a7 e.symm)).trans a6)))
 all_goals
  dsimp only [Q5u];have E:=Q39 (w:=w.drew) (row:=[D.int .i64 a,.int .i64 ae,.int .i64 b,.int .i64 be,.int .i64 p,.int .i64 q]) ⟨hN.row,hN.each,hN.outer,hN.apart⟩ hx hl rfl d a8 a4 hat;exact ⟨_,_,_,_,_,_,_,_,_,rfl,E.1,⟨E.2.own,E.2.os,E.2.tape,E.2.output,E.2.size,E.2.block⟩⟩
noncomputable def Qa7:Code:=(Gi (Tryz.f211.body.getD .skip)).getD 17 .skip
set_option maxHeartbeats 8000000 in
set_option maxRecDepth 100000 in
theorem Tryz.links_r17 (m n u2 u3 o r s t v x y z aa ab ac ag ah ai aj ak al am an ao ap aq ar au av aw ax ay az ba bb bc bd bg bh bi bj bk bl bm bn bo bp bq br bt bu bv bx bz ca cb cc ce cf cg ch ci b1 cj ck cm cn co cp cs ct cu cv cw cx cy cz cq:Value) (B vb N i c cap:Nat) (ad:Option Addr) (a ae b be p q:Int) (hd:List Value) (ll:List LL) (l:LL) (w:World) (c0:w.cell? ⟨c,0,none⟩=some (.int .i64 a)) (c1:w.cell? ⟨c,1,none⟩=some (.int .i64 ae)) (c2:w.cell? ⟨c,2,none⟩=some (.int .i64 b)) (c3:w.cell? ⟨c,3,none⟩=some (.int .i64 be)) (c4:w.cell? ⟨c,4,none⟩=some (.int .i64 p)) (c5:w.cell? ⟨c,5,none⟩=some (.int .i64 q))
  (hN:NestK 25 186 6 w B (.slice (some ⟨vb,0,none⟩) N N) hd ll) (hx:hd[i]? = some (.slice ad l.length cap)) (hl:ll[i]? = some l) (dz:l.length<=1000) (hB:B<=w.heap.size) (ea:c≠vb) (eb:(Value.slice ad l.length cap).ownBlock≠some c) :
  Code.wp Tryz.prog Qa7 (Q5u fun act w'=>∃ (dd de df dg dh di dj dk:Value) (xx:Value),act=⟨(m::n::u2::u3::o::.pointer (some ⟨c,0,none⟩)::r::s::t::.pointer (some ⟨vb,i,none⟩)::v::x::y::z::aa::ab::ac::ag::ah::ai::aj::ak::al::am::an::ao::ap::aq::ar::au::av::aw::ax::ay::az::ba::bb::bc::bd::bg::bh::bi::bj::bk::bl::bm::bn::bo::bp::bq::br::bt::bu::bv::bx::bz::ca::cb::cc::ce::cf::cg::ch::ci::b1::cj::ck::cm::cn::co::cp::dd::de::df::dg::dh::di::dj::dk::cq::[]).toArray,[]⟩/\NestK 25 186 6 w' B (.slice (some ⟨vb,0,none⟩) N N) (hd.set i xx) (ll.set i (l++[[D.int .i64 a,.int .i64 ae,.int .i64 b,.int .i64 be,.int .i64 p,.int .i64 q]]))/\Grew w w' vb (.slice ad l.length cap) xx) ⟨(m::n::u2::u3::o::.pointer (some ⟨c,0,none⟩)::r::s::t::.pointer (some ⟨vb,i,none⟩)::v::x::y::z::aa::ab::ac::ag::ah::ai::aj::ak::al::am::an::ao::ap::aq::ar::au::av::aw::ax::ay::az::ba::bb::bc::bd::bg::bh::bi::bj::bk::bl::bm::bn::bo::bp::bq::br::bt::bu::bv::bx::bz::ca::cb::cc::ce::cf::cg::ch::ci::b1::cj::ck::cm::cn::co::cp::cs::ct::cu::cv::cw::cx::cy::cz::cq::[]).toArray,[]⟩ w:=by
 conv=>arg 2;whnf
 have mixed:Tryz.prog.follows .mixedOrders=true:=by kernel_rfl
 obtain ⟨i0,hi,dn⟩:=Qk8.1 (show (Tryz.prog.info? 186).map (fun i=>(i.zero,i.size,i.bytes))=some (some (.agg #[.int .i64 0,.int .i64 0,.int .i64 0,.int .i64 0,.int .i64 0,.int .i64 0]),6,48) by kernel_rfl);obtain ⟨hz,f⟩:=Prod.mk.inj dn;obtain ⟨f,dp⟩:=Prod.mk.inj f;have a9:=(hN.row.lt vb rfl).2;have b4:=hN.each _ _ _ hx hl;have dq:w.cell? ⟨vb,i,none⟩=some (.slice ad l.length cap):=by
  have:=hN.row.cells (g:=vb) rfl i _ hx;rwa [H3,Qke] at this
 have a7:(Value.slice ad l.length cap).ownBlock≠some vb:=fun e=>hN.outer _ _ _ hx e rfl
 obtain ⟨a5,b0⟩:∃ a5,w.drew.heap[vb]? = some (.cells a5 25 (0,0)):=by
  rcases hN.row.2 with ⟨e,_⟩ | ⟨g,db,a5,e,_,hg,_⟩
  ·cases e
  ·cases e;exact ⟨a5,hg⟩
 have q1:l.length+1<=maxLen:=by unfold maxLen;omega
 have q2:(l.length+1)*48<=140737488355328:=by omega
 have q3:∀ u∈[Value.int .i64 a,.int .i64 ae,.int .i64 b,.int .i64 be,.int .i64 p,.int .i64 q],u.oneCell'=true:=by simp [Value.oneCell']
 have y0:w.drew.cell? ⟨c,0,none⟩=some (.int .i64 a):=c0;have y1:w.drew.cell? ⟨c,1,none⟩=some (.int .i64 ae):=c1;have y2:w.drew.cell? ⟨c,2,none⟩=some (.int .i64 b):=c2;have y3:w.drew.cell? ⟨c,3,none⟩=some (.int .i64 be):=c3;have y5:w.drew.cell? ⟨c,4,none⟩=some (.int .i64 p):=c4;have y6:w.drew.cell? ⟨c,5,none⟩=some (.int .i64 q):=c5;have y4:w.drew.cell? ⟨vb,i,none⟩=some (.slice ad l.length cap):=dq;have d:w.drew.grownBy (w.drew.alloc (.cells #[.int .i64 a,.int .i64 ae,.int .i64 b,.int .i64 be,.int .i64 p,.int .i64 q] 186)) none:=World.grownBy_alloc _ _ none;have dw:w.drew.ownsRow B 186 6 (.slice ad l.length cap) l.length (cellsOf l):=b4;have dx:(w.drew.alloc (.cells #[.int .i64 a,.int .i64 ae,.int .i64 b,.int .i64 be,.int .i64 p,.int .i64 q] 186)).ownsRow B 186 6 (.slice ad l.length cap) l.length (cellsOf l):=World.ownsRow.kept (w:=w.drew) dw d (Classical.em _);have dy:∀ (j:Nat) (u:Value),[Value.int .i64 a,.int .i64 ae,.int .i64 b,.int .i64 be,.int .i64 p,.int .i64 q][j]? = some u->(w.drew.alloc (.cells #[.int .i64 a,.int .i64 ae,.int .i64 b,.int .i64 be,.int .i64 p,.int .i64 q] 186)).cell? ((⟨w.drew.heap.size,0,none⟩:Addr).add j)=some u:=World.news_of_block (heap_alloc_new _ _);have h:w.drew.heap.size<=(w.drew.alloc (.cells #[.int .i64 a,.int .i64 ae,.int .i64 b,.int .i64 be,.int .i64 p,.int .i64 q] 186)).heap.size:=d.size;have b2:B<=(w.drew.alloc (.cells #[.int .i64 a,.int .i64 ae,.int .i64 b,.int .i64 be,.int .i64 p,.int .i64 q] 186)).heap.size:=Qkd hB h;have a2:vb<w.drew.heap.size:=a9;have a6:=(d.block vb a2 (fun e=>by cases e)).trans b0;have k:=d.cell_far ⟨vb,i,none⟩ a2 (fun e=>by cases e);have k:=k.trans y4;have c7:(1:Nat)*6=6:=rfl
 go_region_law (first
   |(refine step_append_lies (w.drew.alloc (.cells #[.int .i64 a,.int .i64 ae,.int .i64 b,.int .i64 be,.int .i64 p,.int .i64 q] 186)) (by rfl) _ _ 25 (by rfl) B 186 i0 (.agg #[.int .i64 0,.int .i64 0,.int .i64 0,.int .i64 0,.int .i64 0,.int .i64 0]) 6 48 Tryz.underlying25 hi hz f dp (by rfl) (by decide) _ l.length (cellsOf l) (by rfl) dx ⟨w.drew.heap.size,0,none⟩ 1 1 [Value.int .i64 a,.int .i64 ae,.int .i64 b,.int .i64 be,.int .i64 p,.int .i64 q] (by rfl) rfl dy q3 (by decide) q1 q2 b2 _ rfl ?_;intro g c2 W2 a8 a4 hat e3;
     have rx:=(a4.cell_far ⟨vb,i,none⟩ (Qk1 a2 h) (fun e=>a7 e.symm)).trans k;
     have rf:=frozen_of_row W2 vb i a5 25 ((a4.block vb (Qk1 a2 h) (fun e=>a7 e.symm)).trans a6)))
 all_goals
  dsimp only [Q5u];have E:=Q39 (w:=w.drew) (row:=[D.int .i64 a,.int .i64 ae,.int .i64 b,.int .i64 be,.int .i64 p,.int .i64 q]) ⟨hN.row,hN.each,hN.outer,hN.apart⟩ hx hl rfl d a8 a4 hat;exact ⟨_,_,_,_,_,_,_,_,_,rfl,E.1,⟨E.2.own,E.2.os,E.2.tape,E.2.output,E.2.size,E.2.block⟩⟩
theorem Q6K {N:Nat} {l0 l1 l2 c:LL} {a ae b be p q:Int} (h:Yc N l0 l1 l2 c a ae b be p q some=some true) {S:Nat->Prop} {w:World} (hS:∀ b,S b->b<w.heap.size) {d f g i:Value}
  (j:Rd S w d (.sl 1 l0)) (k:Rd S w f (.sl 1 l1)) (h2:Rd S w g (.sl 5 l2)) (l:Rd S w i (.sl 6 c)) :
  Calls Tryz.prog 236 #[.agg #[d,f,g,i],.agg #[.int .i64 a,.int .i64 ae,.int .i64 b,.int .i64 be,.int .i64 p,.int .i64 q]] w fun e w'=>e = .returned (.bool true)/\RowKit.Below w.heap.size w w':=by
 have he:(Hy N).E Dl 0 true [.ag ([D.sl 1 l0,.sl 1 l1,.sl 5 l2,.sl 6 c].map .d),.ag ([D.int .i64 a,.int .i64 ae,.int .i64 b,.int .i64 be,.int .i64 p,.int .i64 q].map .d)] (fun _=>none) some=some ⟨.d (.bool true),[],[]⟩:=by
  show gb true (Yc N l0 l1 l2 c a ae b be p q some) false (fun r=>(some ⟨.d (D.bool r),[],[]⟩:Option Dl))=_;rw [h];rfl
 exact Kb (XR ((Hy N).ok) he) hS (Kn (RdLs.agg (.cons j (.cons k (.cons h2 (.cons l .nil))))) (RdLs.agg (.cons (.int _ _) (.cons (.int _ _) (.cons (.int _ _) (.cons (.int _ _) (.cons (.int _ _) (.cons (.int _ _) .nil))))))))
theorem Q20 {N:Nat} {x:LL} {a ae b be:Int} (h:Gs N x a ae b be some=some false) {S:Nat->Prop} {w:World} (hS:∀ b,S b->b<w.heap.size) {v:Value} (hv:Rd S w v (.sl 6 x)) :
  Calls Tryz.prog 239 #[v,.agg #[.int .i64 a,.int .i64 ae],.agg #[.int .i64 b,.int .i64 be]] w fun e w'=>e = .returned (.bool false)/\RowKit.Below w.heap.size w w':=by
 have he:(RR N).E Dl 0 true [.d (.sl 6 x),.ag ([D.int .i64 a,.int .i64 ae].map .d),.ag ([D.int .i64 b,.int .i64 be].map .d)] (fun _=>none) some=some ⟨.d (.bool false),[],[]⟩:=by
  show gb true (Gs N x a ae b be some) false (fun r=>(some ⟨.d (D.bool r),[],[]⟩:Option Dl))=_;rw [h];rfl
 exact Kb (XR ((RR N).ok) he) hS (Q7Q (.d _ _ hv) (RdLs.agg (.cons (.int _ _) (.cons (.int _ _) .nil))) (RdLs.agg (.cons (.int _ _) (.cons (.int _ _) .nil))))
theorem Q0g {N:Nat} {x:LL} {a ae b be p q:Int} (h:JO N a ae b be p q x some=some true) {S:Nat->Prop} {w:World} (hS:∀ b,S b->b<w.heap.size) {v:Value} (hv:Rd S w v (.sl 6 x)) :
  Calls Tryz.prog 240 #[.agg #[.int .i64 a,.int .i64 ae,.int .i64 b,.int .i64 be,.int .i64 p,.int .i64 q],v] w fun e w'=>e = .returned (.bool true)/\RowKit.Below w.heap.size w w':=by
 have he:(Fs N).E Dl 0 true [.ag ([D.int .i64 a,.int .i64 ae,.int .i64 b,.int .i64 be,.int .i64 p,.int .i64 q].map .d),.d (.sl 6 x)] (fun _=>none) some=some ⟨.d (.bool true),[],[]⟩:=by
  show gb true (JO N a ae b be p q x some) false (fun r=>(some ⟨.d (D.bool r),[],[]⟩:Option Dl))=_;rw [h];rfl
 exact Kb (XR ((Fs N).ok) he) hS (Kn (RdLs.agg (.cons (.int _ _) (.cons (.int _ _) (.cons (.int _ _) (.cons (.int _ _) (.cons (.int _ _) (.cons (.int _ _) .nil))))))) (.d _ _ hv))
theorem Q1b {N:Nat} {l0 l1 l2 d:LL} {st:List LL} {l:LL} {j:Nat} (hj:j<l.length) (h:KK N l0 l1 l2 d st (l.drop j)=true) :
  ∃ a ae b be p q x y,l[j]? = some [D.int .i64 a,.int .i64 ae,.int .i64 b,.int .i64 be,.int .i64 p,.int .i64 q]/\((0<=a/\a<l2.length)/\(0<=ae/\ae<=1)/\(0<=b/\b<l2.length)/\(0<=be/\be<=1)) /\
   Yc N l0 l1 l2 d a ae b be p q some=some true/\(2*a+ae).toNat≠(2*b+be).toNat/\st[(2*a+ae).toNat]? = some x/\st[(2*b+be).toNat]? = some y /\
   Gs N x a ae b be some=some false/\JO N a ae b be p q x some=some true/\JO N a ae b be p q y some=some true/\x.length<=1/\y.length<=1 /\
   KK N l0 l1 l2 d ((st.set (2*a+ae).toNat (x++[[D.int .i64 a,.int .i64 ae,.int .i64 b,.int .i64 be,.int .i64 p,.int .i64 q]])).set (2*b+be).toNat (y++[[D.int .i64 a,.int .i64 ae,.int .i64 b,.int .i64 be,.int .i64 p,.int .i64 q]])) (l.drop (j+1))=true:=by
 rw [List.drop_eq_getElem_cons hj] at h;unfold KK at h;split at h
 ·rename_i a ae b be p q e;simp only [Qk4,Qkg,decide_eq_true_eq] at h;obtain ⟨⟨⟨g1,f⟩,g⟩,c⟩:=h;split at c
  ·rename_i x y hx hy;simp only [Qk4] at c;obtain ⟨⟨⟨⟨⟨k1,i⟩,k⟩,m⟩,n⟩,o⟩:=c;refine ⟨a,ae,b,be,p,q,x,y,by rw [QjV hj,e],?_,Ni f,?_,hx,hy,Q8w k1,Ni i,Ni k,Qk3 m,Qk3 n,by rw [<- e];exact o⟩
   ·obtain ⟨⟨⟨⟨⟨⟨⟨r,s⟩,t⟩,u⟩,v⟩,z⟩,z7⟩,z8⟩:=g1;exact ⟨⟨r,s⟩,⟨t,u⟩,⟨v,z⟩,⟨z7,z8⟩⟩
   ·exact Nat.ne_of_beq_eq_false g
  ·cases c
 ·cases h
theorem Q6V {w w1:World} {B N vb:Nat} (h:w1.ownsRow B 25 1 (.slice (some ⟨vb,0,none⟩) N N) N (List.replicate N (.slice none 0 0))):NestK 25 186 6 w1 B (.slice (some ⟨vb,0,none⟩) N N) (List.replicate N (.slice none 0 0)) (List.replicate N []):=by
 refine ⟨by simpa using h,fun i x l hx hl=>?_,fun i x b hx hb=>?_,fun i j x y b hx hy ac an=>?_⟩
 ·have e1:=QjU hx;have e2:=QjU hl;obtain ⟨_,rfl⟩:=Qk7.1 e1;obtain ⟨_,rfl⟩:=Qk7.1 e2;exact World.ownsRow_nil w1 B 186 6
 ·obtain ⟨_,rfl⟩:=Qk7.1 (QjU hx);cases hb
 ·obtain ⟨_,rfl⟩:=Qk7.1 (QjU hx);cases ac
theorem Q8u {w:World} {B i:Nat} {v:Value} {hd:List Value} {ll:List LL} {l:LL} (h:NestK 25 186 6 w B v hd ll) (hl:ll[i]? = some l):∃ (ad:Option Addr) (cap:Nat),hd[i]? = some (.slice ad l.length cap):=by
 have hi:i<hd.length:=by rw [h.len];exact (QjX.1 hl).1
 have hx:=QjV hi;rcases (h.each i hd[i] l hx hl).2 with ⟨e,a⟩ | ⟨g,cap,aj,e,_⟩
 ·exact ⟨none,0,by rw [hx,e,a]⟩
 ·exact ⟨some ⟨g,0,none⟩,cap,by rw [hx,e]⟩
theorem Q4Z {w:World} {B i:Nat} {v x:Value} {hd:List Value} {ll:List LL} {l:LL} (h:NestK 25 186 6 w B v hd ll) (hx:hd[i]? = some x) (hl:ll[i]? = some l) (ac:∀ l∈ll,∀ r∈l,D5 6 r=true) :
  (∀ b,x.ownBlock=some b->b<w.drew.heap.size)/\Rd (fun b=>x.ownBlock=some b) w.drew x (.sl 6 l):=
 ⟨fun b hb=>(h.blk hx hb).2,Rd.mono (w:=w) (w':=w.drew) (fun _ h=>h) (fun _ _=>rfl) (QeO (w:=w) (h.each i x l hx hl) (ac l (QjU hl)) (fun _ h=>h))⟩
theorem B4 {w:World} {B vb N i:Nat} {x:Value} {hd:List Value} {ll:List LL} (h:NestK 25 186 6 w B (.slice (some ⟨vb,0,none⟩) N N) hd ll) (hx:hd[i]? = some x):w.cell? ⟨vb,i,none⟩=some x:=by
 have:=h.row.cells (g:=vb) rfl i _ hx;rwa [H3,Qke] at this
theorem Q7p {ll:List LL} {i:Nat} {x:LL} {row:List D} (h:∀ l∈ll,∀ r∈l,D5 6 r=true) (hx:ll[i]? = some x) (hr:D5 6 row=true):∀ l∈ll.set i (x++[row]),∀ r∈l,D5 6 r=true:=by
 intro l hl r ac;rcases List.mem_or_eq_of_mem_set hl with a | rfl
 ·exact h l a r ac
 ·rcases List.mem_append.1 ac with a | a
  ·exact h x (QjU hx) r a
  ·simp at a;subst a;exact hr
theorem AY {w0 w w':World} {n vb:Nat} {x x':Value} (h:Below n w0 w) (hg:Grew w w' vb x x') (hn:n<=w.heap.size) (hv:n<=vb) (hx:∀ c,x.ownBlock=some c->n<=c):Below n w0 w':=
 ⟨hg.os.trans h.os,hg.tape.trans h.tape,hg.output.trans h.output,Qkd h.size hg.size,fun k hk=>(hg.block k (by omega) (by omega) (fun e=>by have:=hx k e;omega)).trans (h.block k hk)⟩
theorem Q9p {a ae b be:Int} (h:¬ (a=b/\ae=be)) (w:World):(binOp .eql 314 (.agg #[.int .i64 a,.int .i64 ae]) (.agg #[.int .i64 b,.int .i64 be])).run Tryz.prog w = .ok (.bool false) w:=by
 go_simp
 exact fun e1 e2=>h ⟨e1,e2⟩
set_option maxHeartbeats 16000000 in
set_option maxRecDepth 100000 in
theorem Tryz.links_calls {N:Nat} (S:Nat->Prop) (w:World) (hS:∀ b,S b->b<w.heap.size) (l0 l1 l2 f:LL) (v0 v1 v2 v3:Value) (h0:Rd S w v0 (.sl 1 l0)) (h1:Rd S w v1 (.sl 1 l1)) (h2:Rd S w v2 (.sl 5 l2)) (h3:Rd S w v3 (.sl 6 f))
  (m2:l2.length<=96) (m3:f.length<=192) (c5:KK N l0 l1 l2 f (List.replicate (2*l2.length) []) f=true) :
  Calls Tryz.prog 211 #[.agg #[v0,v1,v2,v3]] w fun e w'=>e = .returned (.int .i64 0)/\Below w.heap.size w w':=by
 obtain ⟨z,aa,rfl⟩:=Gc h0;obtain ⟨ab,ac,rfl⟩:=Gc h1;obtain ⟨t,u,rfl⟩:=Gc h2;obtain ⟨ad,v,rfl⟩:=Gc h3;obtain ⟨i0,hi,cg⟩:=Qk8.1 (show (Tryz.prog.info? 25).map (fun i=>(i.zero,i.size,i.bytes))=some (some (.slice none 0 0),1,24) by kernel_rfl);obtain ⟨hz,av⟩:=Prod.mk.inj cg;obtain ⟨av,ch⟩:=Prod.mk.inj av;have dc:∀ w:World,∃ w',(Instr.makeSlice 311 (.int .i64 (2*(l2.length:Int))) (.int .i64 (2*(l2.length:Int)))).run Tryz.prog w = .ok (.slice (some ⟨w.heap.size,0,none⟩) (2*l2.length) (2*l2.length)) w' /\
   w'.ownsRow w.heap.size 25 1 (.slice (some ⟨w.heap.size,0,none⟩) (2*l2.length) (2*l2.length)) (2*l2.length) (List.replicate (2*l2.length) (.slice none 0 0))/\w.grownBy w' none:=by
  intro w;obtain ⟨w',r1,r2,r3⟩:=run_make_full w w.heap.size 311 25 i0 (.slice none 0 0) 1 Tryz.underlying311 hi hz av .i64 .i64 (2*l2.length) (by rw [ch];omega) (by unfold maxLen;omega) (Qk2 _);refine ⟨w',by rw [<- r1];simp,?_,r3⟩;have e:(madeCells (Value.slice none 0 0).cells (2*l2.length*1)).toList=List.replicate (2*l2.length) (.slice none 0 0):=by
   apply List.ext_getElem
   ·simp [size_madeCells]
   ·intro i h1 h2;simp [madeCells,Value.cells,Nat.mod_one]
  rw [<- e];exact r2
 have fx:wrap64 (2*(l2.length:Int))=2*(l2.length:Int):=by unfold wrap64;omega
 have bm:(w.alloc (.cells #[.slice z l0.length aa,.slice ab l1.length ac,.slice t l2.length u,.slice ad f.length v] 27)).heap[w.heap.size]? = some (.cells #[.slice z l0.length aa,.slice ab l1.length ac,.slice t l2.length u,.slice ad f.length v] 27 (0,0)):=heap_alloc_new w _;have a7:Below w.heap.size w (w.alloc (.cells #[.slice z l0.length aa,.slice ab l1.length ac,.slice t l2.length u,.slice ad f.length v] 27)):=U9 (Below.refl _ _) (Qk2 _) _;have bg:(w.alloc (.cells #[.slice z l0.length aa,.slice ab l1.length ac,.slice t l2.length u,.slice ad f.length v] 27)).heap.size=w.heap.size+1:=by simp
 obtain ⟨w2,b7,bl,aw⟩:=dc (w.alloc (.cells #[.slice z l0.length aa,.slice ab l1.length ac,.slice t l2.length u,.slice ad f.length v] 27));have a4:=(aw.block w.heap.size (by simp) (by simp)).trans bm;have az:Below w.heap.size w w2:=⟨aw.os.trans a7.os,aw.tape.trans a7.tape,aw.output.trans a7.output,Qkd a7.size aw.size,fun b hb=>(aw.block b (by omega) (by simp)).trans (a7.block b hb)⟩;have eb:=aw.size;rw [bg] at b7 bl eb;have c4:=Q6V (w:=w) bl;clear dc aw bl;have y2:(w.alloc (.cells #[.slice z l0.length aa,.slice ab l1.length ac,.slice t l2.length u,.slice ad f.length v] 27)).cell? ⟨w.heap.size,2,none⟩=some (.slice t l2.length u):=by rw [QjT bm];rfl
 have z3:w2.cell? ⟨w.heap.size,3,none⟩=some (.slice ad f.length v):=by rw [QjT a4];rfl
 go_enter Tryz.func211,Tryz.ntmps211
 go_wp2
 clear b7 bm y2 z3 a7 bg;generalize ee:w.heap.size=H0 at *
 go_loopw [18] (fun i wr=>∃ (j:Nat) (hd:List Value) (ll:List LL),j<=f.length/\i = .int .i64 j/\NestK 25 186 6 wr (H0+1) (.slice (some ⟨H0+1,0,none⟩) (2*l2.length) (2*l2.length)) hd ll/\ll.length=2*l2.length /\
   KK N l0 l1 l2 f ll (f.drop j)=true/\(∀ l∈ll,∀ r∈l,D5 6 r=true)/\wr.heap[H0]? = some (.cells #[.slice z l0.length aa,.slice ab l1.length ac,.slice t l2.length u,.slice ad f.length v] 27 (0,0))/\Below H0 w wr)
  (fun i _=>f.length-(intOf i).toNat)
 case atStart=>
  refine ⟨0,_,_,Nat.zero_le _,rfl,c4,by simp,by simpa using c5,fun l hl r hr=>?_,a4,az⟩;obtain ⟨_,rfl⟩:=Qk7.1 hl;cases hr
 case round=>
  obtain ⟨j,hd,ll,hj,rfl,hN,cz,d5,a5,c9,hF⟩:=hrel;clear c4 c5 a4 az;by_cases d3:j<f.length
  ·have e2:((j:Int)<(f.length:Int)):=by omega
   obtain ⟨a,ae,b,be,p,q,x,y,ec,⟨⟨cn,dk⟩,⟨co,cp⟩,⟨cq,dl⟩,⟨cr,cs⟩⟩,b3,cj,hx,hy,ck,ct,cu,fk,f4,cw⟩:=Q1b d3 d5;have d6:∀ c,c<H0->wr.heap[c]? = w.heap[c]?:=fun c hc=>hF.block c hc
   have gh:∀ c,S c->c<wr.heap.size:=fun c hc=>by have:=hS c hc;have:=hF.size;omega
   have bi:=Rd.keep (w':=wr) h3 hS d6;obtain ⟨a3,rfl,_,_,ar⟩:=Q66 bi ec;obtain ⟨u0,x0,q0⟩:=ar 0 _ rfl;obtain ⟨u1,x1,q1⟩:=ar 1 _ rfl;obtain ⟨fo,x2,q2⟩:=ar 2 _ rfl;obtain ⟨f7,x3,q3⟩:=ar 3 _ rfl;obtain ⟨fz,x4,q4⟩:=ar 4 _ rfl;obtain ⟨fv,x5,q5⟩:=ar 5 _ rfl;rw [GU q0,Nat.add_zero] at x0;rw [GU q1,J7 _ _ _ (by decide)] at x1;rw [GU q2,J7 _ _ _ (by decide)] at x2;rw [GU q3,J7 _ _ _ (by decide)] at x3;rw [GU q4,J7 _ _ _ (by decide)] at x4;rw [GU q5,J7 _ _ _ (by decide)] at x5;clear ar q0 q1 q2 q3 q4 q5 bi;have dq:H0+1<=wr.heap.size:=(Qka.1 c9).1;have ge:H0+1<wr.heap.size:=(hN.row.lt (H0+1) rfl).2;obtain ⟨bo,bq,a9⟩:=Q8u hN hx;obtain ⟨b4,b2,b0⟩:=Q8u hN hy;have a6:∀ c,(Value.slice bo x.length bq).ownBlock=some c->H0+1<=c/\c<wr.heap.size:=fun c hc=>hN.blk a9 hc
   have bk:∀ c,(Value.slice b4 y.length b2).ownBlock=some c->H0+1<=c/\c<wr.heap.size:=fun c hc=>hN.blk b0 hc
   have bp:wr.grownBy (wr.alloc (.cells #[.int .i64 a,.int .i64 ae,.int .i64 b,.int .i64 be,.int .i64 p,.int .i64 q] 186)) none:=World.grownBy_alloc wr _ none;have ag:(wr.alloc (.cells #[.int .i64 a,.int .i64 ae,.int .i64 b,.int .i64 be,.int .i64 p,.int .i64 q] 186)).heap[wr.heap.size]? = some (.cells #[.int .i64 a,.int .i64 ae,.int .i64 b,.int .i64 be,.int .i64 p,.int .i64 q] 186 (0,0)):=heap_alloc_new wr _;have di:=Gf hN bp;have cx:=U9 hF (by omega) (.cells #[.int .i64 a,.int .i64 ae,.int .i64 b,.int .i64 be,.int .i64 p,.int .i64 q] 186);have al:=(bp.block H0 (by omega) (by simp)).trans c9;have dr:(wr.alloc (.cells #[.int .i64 a,.int .i64 ae,.int .i64 b,.int .i64 be,.int .i64 p,.int .i64 q] 186)).heap.size=wr.heap.size+1:=by simp
   generalize ed:wr.alloc (.cells #[.int .i64 a,.int .i64 ae,.int .i64 b,.int .i64 be,.int .i64 p,.int .i64 q] 186)=W1 at *
   generalize ds:wr.heap.size=d at *
   have an:∀ c,c<H0->W1.heap[c]? = w.heap[c]?:=fun c hc=>cx.block c hc
   have b9:∀ c,S c->c<W1.heap.size:=fun c hc=>by have:=hS c hc;omega
   have k0:=Rd.keep (w':=W1) h0 hS an;have k1:=Rd.keep (w':=W1) h1 hS an;have k2:=Rd.keep (w':=W1) h2 hS an;have k3:=Rd.keep (w':=W1) h3 hS an;have z0:W1.cell? ⟨H0,0,none⟩=some (.slice z l0.length aa):=by rw [QjT al];rfl
   have z1:W1.cell? ⟨H0,1,none⟩=some (.slice ab l1.length ac):=by rw [QjT al];rfl
   have z2:W1.cell? ⟨H0,2,none⟩=some (.slice t l2.length u):=by rw [QjT al];rfl
   have z3:W1.cell? ⟨H0,3,none⟩=some (.slice (some a3) f.length v):=by rw [QjT al];rfl
   have c0:W1.cell? ⟨d,0,none⟩=some (.int .i64 a):=by rw [QjT ag];rfl
   have c1:W1.cell? ⟨d,1,none⟩=some (.int .i64 ae):=by rw [QjT ag];rfl
   have g:W1.cell? ⟨d,2,none⟩=some (.int .i64 b):=by rw [QjT ag];rfl
   have m:W1.cell? ⟨d,3,none⟩=some (.int .i64 be):=by rw [QjT ag];rfl
   have n:W1.cell? ⟨d,4,none⟩=some (.int .i64 p):=by rw [QjT ag];rfl
   have o:W1.cell? ⟨d,5,none⟩=some (.int .i64 q):=by rw [QjT ag];rfl
   go_wp2_with (go_at_call 236;refine (Q6K b3 b9 k0 k1 k2 k3).mono ?_)
   rintro e W2 ⟨rfl,az⟩;have ah:=(az.block d (by omega)).trans ag;have bt:=(az.block H0 (by omega)).trans al;have c7:=Gf di (Wb az);have dn:=Uw cx (by omega) az;have dt:=az.size;clear c0 c1 g m n o z0 z1 z2 z3 k0 k1 k2 k3 an b9 ag al di cx;have c0:W2.cell? ⟨d,0,none⟩=some (.int .i64 a):=by rw [QjT ah];rfl
   have c1:W2.cell? ⟨d,1,none⟩=some (.int .i64 ae):=by rw [QjT ah];rfl
   have g:W2.cell? ⟨d,2,none⟩=some (.int .i64 b):=by rw [QjT ah];rfl
   have m:W2.cell? ⟨d,3,none⟩=some (.int .i64 be):=by rw [QjT ah];rfl
   have n:W2.cell? ⟨d,4,none⟩=some (.int .i64 p):=by rw [QjT ah];rfl
   have o:W2.cell? ⟨d,5,none⟩=some (.int .i64 q):=by rw [QjT ah];rfl
   go_wp2_with (go_at_call 237;refine (Tryz.ends_calls W2 a ae b be p q).mono ?_)
   rintro e W3 ⟨rfl,bh⟩
   go_wp2
   clear c0 c1 g m n o;have du:=bh.size;have ao:W3.grownBy ((W3.alloc (.cells #[.int .i64 a,.int .i64 ae] 314)).alloc (.cells #[.int .i64 b,.int .i64 be] 314)) none:=⟨rfl,rfl,rfl,by simp;omega,fun k hk _=>by rw [QjZ _ _ _ (by simp;omega),QjZ _ _ _ hk]⟩;have c3:=U9 (U9 (Uw dn (by omega) bh) (by omega) (.cells #[.int .i64 a,.int .i64 ae] 314)) (by omega) (.cells #[.int .i64 b,.int .i64 be] 314);have bu:=(ao.block d (by omega) (by simp)).trans ((bh.block d (by omega)).trans ah);have bv:=(ao.block H0 (by omega) (by simp)).trans ((bh.block H0 (by omega)).trans bt);have c6:=Gf (Gf c7 (Wb bh)) ao;have ap:((W3.alloc (.cells #[.int .i64 a,.int .i64 ae] 314)).alloc (.cells #[.int .i64 b,.int .i64 be] 314)).heap[W3.heap.size]? = some (.cells #[.int .i64 a,.int .i64 ae] 314 (0,0)):=by
    rw [QjZ _ _ _ (by simp)];exact heap_alloc_new _ _
   have aq:((W3.alloc (.cells #[.int .i64 a,.int .i64 ae] 314)).alloc (.cells #[.int .i64 b,.int .i64 be] 314)).heap[W3.heap.size+1]? = some (.cells #[.int .i64 b,.int .i64 be] 314 (0,0)):=by
    have:=heap_alloc_new (W3.alloc (.cells #[.int .i64 a,.int .i64 ae] 314)) (.cells #[.int .i64 b,.int .i64 be] 314);simpa using this
   have dw:((W3.alloc (.cells #[.int .i64 a,.int .i64 ae] 314)).alloc (.cells #[.int .i64 b,.int .i64 be] 314)).heap.size=W3.heap.size+2:=by simp
   clear ao ah bt c7 dn;generalize d7:(W3.alloc (.cells #[.int .i64 a,.int .i64 ae] 314)).alloc (.cells #[.int .i64 b,.int .i64 be] 314)=W4 at *
   generalize er:W3.heap.size=s at *
   have e5:d<W2.heap.size:=by omega
   clear d7 ed;have c0:W4.cell? ⟨s,0,none⟩=some (.int .i64 a):=by rw [QjT ap];rfl
   have c1:W4.cell? ⟨s,1,none⟩=some (.int .i64 ae):=by rw [QjT ap];rfl
   have d0:W4.cell? ⟨s+1,0,none⟩=some (.int .i64 b):=by rw [QjT aq];rfl
   have d1:W4.cell? ⟨s+1,1,none⟩=some (.int .i64 be):=by rw [QjT aq];rfl
   refine Code.wp_mono ?_ (Tryz.links_r8 _ _ _ _ _ _ _ _ _ _ _ _ _ _ _ _ _ _ _ _ _ _ _ _ _ _ _ _ _ _ _ _ _ _ _ _ _ _ _ _ _ _ _ _ _ _ _ _ _ _ _ _ _ _ _ _ _ _ _ _ _ _ _ _ _ _ _ _ _ _ _ _ _ _ _ _ _ (H0+1) (2*l2.length) s (s+1) a ae b be W4 c0 c1 d0 d1 cn (by omega) co cp cq (by omega) cr cs (by omega) (by omega));clear c0 c1 d0 d1;rintro e act W5 h;cases e with
   |normal=>
    obtain ⟨_,_,_,_,_,_,_,_,rfl,a2⟩:=h;have fb:=a2.size;have cy:=Uw c3 (by omega) a2;have bx:=(a2.block d (by omega)).trans bu;have bz:=(a2.block H0 (by omega)).trans bv;have bn:=Gf c6 (Wb a2);have ax:=(a2.block s (by omega)).trans ap;have ay:=(a2.block (s+1) (by omega)).trans aq;clear c3 bu bv c6 ap aq a2;have et:=Q9p (a:=a) (ae:=ae) (b:=b) (be:=be) (fun h=>cj (by rw [h.1,h.2]));generalize fj:(2*a+ae).toNat=ia at *
    generalize f1:(2*b+be).toNat=ib at *
    have c0:W5.cell? ⟨s,0,none⟩=some (.int .i64 a):=by rw [QjT ax];rfl
    have c1:W5.cell? ⟨s,1,none⟩=some (.int .i64 ae):=by rw [QjT ax];rfl
    have d0:W5.cell? ⟨s+1,0,none⟩=some (.int .i64 b):=by rw [QjT ay];rfl
    have d1:W5.cell? ⟨s+1,1,none⟩=some (.int .i64 be):=by rw [QjT ay];rfl
    dsimp only [Exit.then]
    go_wp2
    have jx:=Q4Z bn a9 hx a5;have au:=B4 bn a9;refine Code.wp_mono ?_ (Tryz.links_r11 _ _ _ _ _ _ _ _ _ _ _ _ _ _ _ _ _ _ _ _ _ _ _ _ _ _ _ _ _ _ _ _ _ _ _ _ _ _ _ _ _ _ _ _ _ _ _ _ _ _ _ _ _ _ _ _ _ _ _ _ _ _ _ _ _ _ _ _ _ _ _ _ _ _ _ _ _ (H0+1) ia s (s+1) x.length bq bo a ae b be W5 c0 c1 d0 d1 au (Q20 ck jx.1 jx.2));clear c0 c1 d0 d1 jx au;rintro e act W6 h;cases e with
    |normal=>
     obtain ⟨_,_,_,_,_,_,rfl,a8⟩:=h;have dx:=a8.size;have dd:=Uw cy (by omega) a8;have ai:=(a8.block d (by omega)).trans bx;have ca:=(a8.block H0 (by omega)).trans bz;have br:=Gf bn (Wb a8);clear cy bx bz bn ax ay a8;dsimp only [Exit.then]
     go_wp2
     have c0:W6.cell? ⟨d,0,none⟩=some (.int .i64 a):=by rw [QjT ai];rfl
     have c1:W6.cell? ⟨d,1,none⟩=some (.int .i64 ae):=by rw [QjT ai];rfl
     have g:W6.cell? ⟨d,2,none⟩=some (.int .i64 b):=by rw [QjT ai];rfl
     have m:W6.cell? ⟨d,3,none⟩=some (.int .i64 be):=by rw [QjT ai];rfl
     have n:W6.cell? ⟨d,4,none⟩=some (.int .i64 p):=by rw [QjT ai];rfl
     have o:W6.cell? ⟨d,5,none⟩=some (.int .i64 q):=by rw [QjT ai];rfl
     have jx:=Q4Z br a9 hx a5;have au:=B4 br a9;refine Code.wp_mono ?_ (Tryz.links_r13 _ _ _ _ _ _ _ _ _ _ _ _ _ _ _ _ _ _ _ _ _ _ _ _ _ _ _ _ _ _ _ _ _ _ _ _ _ _ _ _ _ _ _ _ _ _ _ _ _ _ _ _ _ _ _ _ _ _ _ _ _ _ _ _ _ _ _ _ _ _ _ _ _ _ _ _ _ _ (H0+1) ia d x.length bq bo a ae b be p q W6 c0 c1 g m n o au (Q0g ct jx.1 jx.2));clear c0 c1 g m n o jx au;rintro e act W7 h;cases e with
     |normal=>
      obtain ⟨_,_,_,_,_,_,rfl,bb⟩:=h;have dy:=bb.size;have c2:=Uw dd (by omega) bb;have aj:=(bb.block d (by omega)).trans ai;have cb:=(bb.block H0 (by omega)).trans ca;have b1:=Gf br (Wb bb);clear dd ai ca br bb;dsimp only [Exit.then]
      go_wp2
      have c0:W7.cell? ⟨d,0,none⟩=some (.int .i64 a):=by rw [QjT aj];rfl
      have c1:W7.cell? ⟨d,1,none⟩=some (.int .i64 ae):=by rw [QjT aj];rfl
      have g:W7.cell? ⟨d,2,none⟩=some (.int .i64 b):=by rw [QjT aj];rfl
      have m:W7.cell? ⟨d,3,none⟩=some (.int .i64 be):=by rw [QjT aj];rfl
      have n:W7.cell? ⟨d,4,none⟩=some (.int .i64 p):=by rw [QjT aj];rfl
      have o:W7.cell? ⟨d,5,none⟩=some (.int .i64 q):=by rw [QjT aj];rfl
      have jx:=Q4Z b1 b0 hy a5;have au:=B4 b1 b0;refine Code.wp_mono ?_ (Tryz.links_r14 _ _ _ _ _ _ _ _ _ _ _ _ _ _ _ _ _ _ _ _ _ _ _ _ _ _ _ _ _ _ _ _ _ _ _ _ _ _ _ _ _ _ _ _ _ _ _ _ _ _ _ _ _ _ _ _ _ _ _ _ _ _ _ _ _ _ _ _ _ _ _ _ _ _ _ _ _ _ (H0+1) ib d y.length b2 b4 a ae b be p q W7 c0 c1 g m n o au (Q0g cu jx.1 jx.2));clear c0 c1 g m n o jx au;rintro e act W8 h;cases e with
      |normal=>
       obtain ⟨_,_,_,_,_,_,rfl,ba⟩:=h;have dz:=ba.size;have c8:=Uw c2 (by omega) ba;have ak:=(ba.block d (by omega)).trans aj;have cc:=(ba.block H0 (by omega)).trans cb;have de:=Gf b1 (Wb ba);clear c2 aj cb b1 ba;dsimp only [Exit.then]
       go_wp2
       have c0:W8.cell? ⟨d,0,none⟩=some (.int .i64 a):=by rw [QjT ak];rfl
       have c1:W8.cell? ⟨d,1,none⟩=some (.int .i64 ae):=by rw [QjT ak];rfl
       have g:W8.cell? ⟨d,2,none⟩=some (.int .i64 b):=by rw [QjT ak];rfl
       have m:W8.cell? ⟨d,3,none⟩=some (.int .i64 be):=by rw [QjT ak];rfl
       have n:W8.cell? ⟨d,4,none⟩=some (.int .i64 p):=by rw [QjT ak];rfl
       have o:W8.cell? ⟨d,5,none⟩=some (.int .i64 q):=by rw [QjT ak];rfl
       refine Code.wp_mono ?_ (Tryz.links_r16 _ _ _ _ _ _ _ _ _ _ _ _ _ _ _ _ _ _ _ _ _ _ _ _ _ _ _ _ _ _ _ _ _ _ _ _ _ _ _ _ _ _ _ _ _ _ _ _ _ _ _ _ _ _ _ _ _ _ _ _ _ _ _ _ _ _ _ _ _ _ _ _ _ _ _ _ _ _ (H0+1) (H0+1) (2*l2.length) ia d bq bo a ae b be p q hd ll x W8 c0 c1 g m n o de a9 hx (by omega) (by omega) (by omega) (fun e=>by have:=(a6 d e).2;omega));clear c0 c1 g m n o;rintro e act W9 h;cases e with
       |normal=>
        obtain ⟨_,_,_,_,_,_,_,_,xx,rfl,eg,bj⟩:=h;have ea:=bj.size;have ef:=AY c8 bj (by omega) (by omega) (fun c hc=>by have:=(a6 c hc).1;omega);have am:=(bj.block d (by omega) (by omega) (fun e=>by have:=(a6 d e).2;omega)).trans ak;have df:=(bj.block H0 (by omega) (by omega) (fun e=>by have:=(a6 H0 e).1;omega)).trans cc;clear c8 ak cc de bj;have dg:(hd.set ia xx)[ib]? = some (.slice b4 y.length b2):=by rw [Qki,if_neg cj];exact b0
        have ce:(ll.set ia (x++[[D.int .i64 a,.int .i64 ae,.int .i64 b,.int .i64 be,.int .i64 p,.int .i64 q]]))[ib]? = some y:=by rw [Qki,if_neg cj];exact hy
        dsimp only [Exit.then]
        go_wp2
        have c0:W9.cell? ⟨d,0,none⟩=some (.int .i64 a):=by rw [QjT am];rfl
        have c1:W9.cell? ⟨d,1,none⟩=some (.int .i64 ae):=by rw [QjT am];rfl
        have g:W9.cell? ⟨d,2,none⟩=some (.int .i64 b):=by rw [QjT am];rfl
        have m:W9.cell? ⟨d,3,none⟩=some (.int .i64 be):=by rw [QjT am];rfl
        have n:W9.cell? ⟨d,4,none⟩=some (.int .i64 p):=by rw [QjT am];rfl
        have o:W9.cell? ⟨d,5,none⟩=some (.int .i64 q):=by rw [QjT am];rfl
        refine Code.wp_mono ?_ (Tryz.links_r17 _ _ _ _ _ _ _ _ _ _ _ _ _ _ _ _ _ _ _ _ _ _ _ _ _ _ _ _ _ _ _ _ _ _ _ _ _ _ _ _ _ _ _ _ _ _ _ _ _ _ _ _ _ _ _ _ _ _ _ _ _ _ _ _ _ _ _ _ _ _ _ _ _ _ _ _ _ _ (H0+1) (H0+1) (2*l2.length) ib d b2 b4 a ae b be p q _ _ y W9 c0 c1 g m n o eg dg ce (by omega) (by omega) (by omega) (fun e=>by have:=(bk d e).2;omega));clear c0 c1 g m n o;rintro e act W10 h;cases e with
        |normal=>
         obtain ⟨_,_,_,_,_,_,_,_,yy,rfl,da,cf⟩:=h;have db:=AY ef cf (by omega) (by omega) (fun c hc=>by have:=(bk c hc).1;omega);have dh:=(cf.block H0 (by omega) (by omega) (fun e=>by have:=(bk H0 e).1;omega)).trans df;have b5:=Q7p (Q7p a5 hx (by rfl)) ce (row:=[D.int .i64 a,.int .i64 ae,.int .i64 b,.int .i64 be,.int .i64 p,.int .i64 q]) (by rfl)
         go_wp2
         refine ⟨⟨j+1,_,_,by omega,by rw [Int.natCast_add];rfl,da,by simpa using cz,cw,b5,dh,db⟩,?_⟩;simp only [intOf];omega
        |_=>exact h.elim
       |_=>exact h.elim
      |_=>exact h.elim
     |_=>exact h.elim
    |_=>exact h.elim
   |_=>exact h.elim
  ·go_wp2
   refine bodyPost_ret (results_tmp rfl _ _ _) rfl ?_;rw [<- ee] at hF;exact ⟨rfl,hF⟩
theorem Qhu {S:Nat->Prop} {w:World} {xs:List D}:∀ {vs:List Value},vs.length=xs.length->(∀ (i:Nat) (v:Value) (x:D),vs[i]? = some v->xs[i]? = some x->Rd S w v x)->RdLs S w vs xs:=by
 induction xs with
 |nil=>intro vs h _;have:vs=[]:=List.eq_nil_of_length_eq_zero h;subst this;exact .nil
 |cons x xs ih=>
  intro vs h hr
  match vs,h with
  |v::vs,h=>exact .cons (hr 0 v x rfl rfl) (ih (by simpa using h) fun i u y a h2=>hr (i+1) u y (by simpa using a) (by simpa using h2))
theorem Q3Q {β:Nat->Option Nat} {S:Nat->Prop} {h:Nat->Option Ob} {w:World} {tm:Nat->Value} {v:Value} {xs:List D} (hv:RdA β S h w tm v (.ag (xs.map .d))):∃ vs:List Value,v = .agg vs.toArray/\RdLs S w vs xs:=by
 cases hv with
 |ag cs l hl hr=>
  obtain ⟨vs⟩:=cs;refine ⟨vs,rfl,Qhu (by simpa using hl) fun i u x a h2=>?_⟩;have:=hr i (.d x) (by simp [h2]);simp [Array.getD,(QjX.1 a).1] at this;rw [(QjX.1 a).2] at this;cases this with
  |d _ _ q=>exact q
  |dang _ _ _ hl=>cases hl
 |dang v av l hl=>cases hl
theorem Q9T {β:Nat->Option Nat} {S:Nat->Prop} {h:Nat->Option Ob} {w:World} {args:List Value} {a:AV} (hA:ArgsRd β S h w args [a]):∃ v,args=[v]/\RdA β S h w tm0 v a:=Q6Q hA
theorem Q5q {β:Nat->Option Nat} {S:Nat->Prop} {h:Nat->Option Ob} {w:World} {args:List Value} {a b:AV} (hA:ArgsRd β S h w args [a,b]):∃ v u,args=[v,u]/\RdA β S h w tm0 v a/\RdA β S h w tm0 u b:=by
 obtain ⟨c,h2⟩:=hA
 match args,c with
 |[v,u],_=>exact ⟨v,u,rfl,h2 0 v a rfl rfl,h2 1 u b rfl rfl⟩
theorem Q1C (n:Nat) (l0 l1 l2 a:LL) (res:Int) {hl:Nat->Option Ob} (h:Zo n l0 l1 l2 a some=some res):Zh Tryz.prog 166 [.ag [.d (D.sl 1 l0),.d (D.sl 1 l1),.d (D.sl 5 l2),.d (D.sl 6 a)]] hl ⟨.d (D.int .i64 res),[],[]⟩:=by
 obtain ⟨aj,h⟩:=XB h;injection h with h
 subst h;refine Si (fn:=Tryz.f166) (by kernel_rfl) (by kernel_rfl) (by kernel_rfl) rfl rfl fun S w args hS hA=>?_
 obtain ⟨v,rfl,hv⟩:=Q9T hA;obtain ⟨vs,rfl,hr⟩:=Q3Q (xs:=[D.sl 1 l0,.sl 1 l1,.sl 5 l2,.sl 6 a]) hv;cases hr with
 |cons c t=>
  cases t with
  |cons d t=>
   cases t with
   |cons h2 t=>
    cases t with
    |cons f t=>
     cases t;have ac:=aj;simp only [Pg,Qk4,Qkg] at ac;obtain ⟨⟨⟨⟨⟨⟨⟨⟨l,m⟩,g⟩,i⟩,o⟩,p⟩,q⟩,ns⟩,nl⟩:=ac;refine (Tryz.layout_calls S w hS l0 l1 l2 a _ _ _ _ c d h2 f aj fun w' ak k0 k1 j k=>Tryz.links_calls S w' ak l0 l1 l2 a _ _ _ _ k0 k1 j k (Qk3 g) (Qk3 i) nl).mono fun e w' ⟨he,hB⟩=>?_
     exact ⟨_,S,he,fun b h=>h,fun b h=>.inl h,fun b h=>Qk1 (hS b h) hB.size,.d _ _ (.int _ _),hB⟩
end Go.Vx
namespace Go.Proofs
open Go.RowKit Go.Vx
theorem Bg:Instr.findNow (.int .i64) (.int .i64 (0:Int)) ([]:List MapEntry) 0=some none:=rfl
theorem E9 {w:World} {b ac:Nat} (hb:w.heap[b]? = some (.map #[] ac)):(Instr.lookup 168 (.map (some b)) (.int .i64 0) false).run Tryz.prog w = .ok (.slice none 0 0) w:=by
 have hc:(Instr.checkKey true 10000 3 (.int .i64 0)).run Tryz.prog w = .ok () w:=MapKept.run_checkKey (k:=.int .i64 0) Qkb (by simp [MapKept.IsKey]) true 9999;have hz:(zeroValue 22).run Tryz.prog w = .ok (.slice none 0 0) w:=Tryz.zeroValue22 w;simp [Instr.lookup,run_underlying Tryz.underlying168,MapKept.run_getObj_map hb,hc,MapKept.run_findKey Qkb Bg,hz,Result.andThen]
theorem Q75 {w:World} {b ac:Nat} (v:Value) (hb:w.heap[b]? = some (.map #[] ac)):(Instr.mapUpdate 168 (.map (some b)) (.int .i64 0) v).run Tryz.prog w = .ok () { w with heap:=w.heap.setIfInBounds b (.map #[{ key:=.int .i64 0,val:=v,born:=ac }] (ac+1)) }:=by
 have hc:(Instr.checkKey false 10000 3 (.int .i64 0)).run Tryz.prog w = .ok () w:=MapKept.run_checkKey (k:=.int .i64 0) Qkb (by simp [MapKept.IsKey]) false 9999;simp [Instr.mapUpdate,run_underlying Tryz.underlying168,MapKept.run_getObj_map hb,hc,MapKept.run_findKey Qkb Bg,MapKept.run_setObj_map _ hb,Result.andThen]
theorem EN {w:World} {a:Addr} {v:Value} (h:w.cell? a=some v):a.block<w.heap.size:=by
 by_cases hb:a.block<w.heap.size
 ·exact hb
 ·unfold World.cell? at h;rw [Array.getElem?_eq_none (by omega)] at h;simp at h
theorem Xu {w w':World} {a:Addr} {v:Value} (h:w.cell? a=some v) (hb:w'.heap[a.block]? = w.heap[a.block]?):w'.cell? a=some v:=by
 unfold World.cell? at *
 rw [hb];exact h
def VF (w wr:World):Prop:=w.heap.size+3<=wr.heap.size/\Below w.heap.size w wr/\wr.cell? ⟨w.heap.size+1,0,none⟩=some (.int .i64 0)/\∃ g c,wr.heap[w.heap.size]? = some (.map #[{ key:=.int .i64 0,val:=.slice (some ⟨g,0,none⟩) 1 c,born:=0 }] 1)/\wr.cell? ⟨g,0,none⟩=some (.int .i64 0)
theorem QgN {w w2 w1 w':World} {v':Value} {B:Nat} (gs:w2.heap.size=w.heap.size+3) (gB:Below w.heap.size w w2) (g2:w2.heap[w.heap.size+1]? = some (.cells #[.int .i64 0] 3 (0,0))) (au:∀ k,k<w2.heap.size->w1.heap[k]? = w2.heap[k]?) (ho:w1.os=w2.os) (ht:w1.tape=w2.tape) (hu:w1.output=w2.output) (hz:w2.heap.size<=w1.heap.size) (hB:w.heap.size+3<=B) (ak:w'.ownsRow B 3 1 v' (0+1) ([]++[.int .i64 0])) (ac:w1.grownBy w' none) :
  VF w { heap:=w'.heap.setIfInBounds w.heap.size (.map #[{ key:=.int .i64 0,val:=v',born:=0 }] 1),tape:=w'.tape,drawn:=w'.drawn,os:=w'.os,output:=w'.output }:=by
 have az:=ac.size;obtain ⟨_,⟨_,h⟩ | ⟨g,cap,an,rfl,hg,hh,h1,_,h2,h3⟩⟩:=ak
 ·omega
 have hk:∀ k,k<w2.heap.size->k≠w.heap.size->(w'.heap.setIfInBounds w.heap.size (Obj.map #[{ key:=.int .i64 0,val:=.slice (some ⟨g,0,none⟩) (0+1) cap,born:=0 }] 1))[k]? = w2.heap[k]?:=fun k hk aq=>by
  rw [Array.getElem?_setIfInBounds_ne (Ne.symm aq)];exact (ac.block k (by omega) (by simp)).trans (au k hk)
 refine ⟨by simp;omega,⟨ac.os.trans (ho.trans gB.os),ac.tape.trans (ht.trans gB.tape),ac.output.trans (hu.trans gB.output),by simp;omega,fun k ar=>(hk k (by omega) (by omega)).trans (gB.block k ar)⟩,?_,g,cap,?_,?_⟩
 ·rw [QjT ((hk _ (by omega) (by omega)).trans g2)];rfl
 ·simp only [Array.getElem?_setIfInBounds];rw [if_pos trivial,if_pos (by omega)]
 ·have aw:(w'.heap.setIfInBounds w.heap.size (Obj.map #[{ key:=.int .i64 0,val:=.slice (some ⟨g,0,none⟩) (0+1) cap,born:=0 }] 1))[g]? = some (.cells an 3 (0,0)):=by
   rw [Array.getElem?_setIfInBounds_ne (by omega)];exact hh
  rw [QjT aw];have:(an.toList.take ((0+1)*1))[0]? = some (.int .i64 0):=by rw [h3];rfl
  rw [List.getElem?_take,if_pos (by omega),Qkc] at this;exact this
theorem Q0d {w:World} {b ac:Nat} {v:Value} (hb:w.heap[b]? = some (.map #[{ key:=.int .i64 0,val:=v,born:=0 }] ac)):(Instr.lookup 168 (.map (some b)) (.int .i64 0) false).run Tryz.prog w = .ok v w:=by
 have hc:(Instr.checkKey false 10000 3 (.int .i64 0)).run Tryz.prog w = .ok () w:=MapKept.run_checkKey (k:=.int .i64 0) Qkb (by simp [MapKept.IsKey]) false 9999;have hf:Instr.findNow (.int .i64) (.int .i64 (0:Int)) [({ key:=.int .i64 0,val:=v,born:=0 }:MapEntry)] 0=some (some (0,v)):=rfl;simp [Instr.lookup,run_underlying Tryz.underlying168,MapKept.run_getObj_map hb,hc,MapKept.run_findKey Qkb hf,Result.andThen]
theorem i3:∃ i,Tryz.prog.info? 3=some i/\i.zero=some (.int .i64 0)/\i.size=1/\i.bytes=8:=by
 have h:(Tryz.prog.info? 3).map (fun i=>(i.zero,i.size,i.bytes))=some (some (.int .i64 0),1,8):=by kernel_rfl
 obtain ⟨i,h1,h2⟩:=Qk8.1 h;simp only [Prod.mk.injEq] at h2;exact ⟨i,h1,h2⟩
theorem Q6B (w:World):Calls Tryz.prog 64 #[.int .i64 5,.agg #[.int .i64 0,.int .i64 3,.int .i64 1,.int .i64 2,.int .i64 0],.agg #[.int .i64 0,.int .i64 3,.int .i64 1,.int .i64 2,.int .i64 0]] w fun e w'=>e = .returned (.bool false)/\RowKit.Below w.heap.size w w':=by
 have he:(Hu 9).E Dl 0 true [.d (.int .i64 5),.ag ([D.int .i64 0,.int .i64 3,.int .i64 1,.int .i64 2,.int .i64 0].map .d),.ag ([D.int .i64 0,.int .i64 3,.int .i64 1,.int .i64 2,.int .i64 0].map .d)] (fun _=>none) some=some ⟨.d (.bool false),[],[]⟩:=by kernel_rfl
 have hu:RdLs (fun _=>False) w [.int .i64 0,.int .i64 3,.int .i64 1,.int .i64 2,.int .i64 0] [D.int .i64 0,.int .i64 3,.int .i64 1,.int .i64 2,.int .i64 0]:=.cons (.int _ _) (.cons (.int _ _) (.cons (.int _ _) (.cons (.int _ _) (.cons (.int _ _) .nil))));exact Kb (XR ((Hu 9).ok) he) (S:=fun _=>False) (fun _ h=>h.elim) (Q7Q (.d _ _ (.int _ _)) hu.agg hu.agg)
set_option maxHeartbeats 1000000 in
set_option maxRecDepth 100000 in
theorem Tryz.visit1 (w:World) (a:Addr) (cap:Nat) (fv:Value) (h0:w.cell? a=some (.int .i64 0)) (h1:w.cell? ⟨a.block,a.off+1,none⟩=some (.int .i64 3)) (h2:w.cell? ⟨a.block,a.off+2,none⟩=some (.int .i64 1)) (h3:w.cell? ⟨a.block,a.off+3,none⟩=some (.int .i64 2)) (h4:w.cell? ⟨a.block,a.off+4,none⟩=some (.int .i64 0)) :
  Calls Tryz.prog 34 #[.int .i64 5,.slice (some a) 1 cap,fv] w fun e w'=>e = .returned (.tuple #[])/\Below w.heap.size w w':=by
 have ac:=EN h0;have bq:∀ w:World,(Instr.makeMap 168 none).run Tryz.prog w = .ok (.map (some w.heap.size)) (w.alloc (.map #[] 0)):=fun w=>run_makeMap 168 w
 have b0:∀ w:World,(Instr.makeSlice 22 (.int .i64 1) (.int .i64 1)).run Tryz.prog w = .ok (.slice (some ⟨w.heap.size,0,none⟩) 1 1) (w.alloc (.cells #[.int .i64 0] 3)):=fun w=>by kernel_rfl
 go_enter Tryz.func34,Tryz.ntmps34
 go_wp2
 go_loopw [8,9,20] (fun i8 i9 i wr=>i = .int .i64 0/\wr.heap.size=w.heap.size+2/\wr.heap[w.heap.size]? = some (.map #[] 0)/\wr.heap[w.heap.size+1]? = some (.cells #[.int .i64 0] 3 (0,0))/\Below w.heap.size w wr\/i = .int .i64 1/\VF w wr)
  (fun _ _ i _=>1-(intOf i).toNat)
 case atStart=>exact .inl ⟨rfl,by simp,by rw [QjZ _ _ _ (by simp)];exact heap_alloc_new w _,by rw [show w.heap.size+1=(w.alloc (.map #[] 0)).heap.size by simp];exact heap_alloc_new _ _,⟨rfl,rfl,rfl,by simp;omega,fun k hk=>by rw [QjZ _ _ _ (by simp;omega),QjZ _ _ _ hk]⟩⟩
 case round=>
  rcases hrel with ⟨rfl,hs,hM,hP,hB⟩ | ⟨rfl,hV⟩
  ·have d0:=Xu h0 (hB.block _ ac);have d1:=Xu h1 (hB.block _ ac);have d2:=Xu h2 (hB.block _ ac);have d3:=Xu h3 (hB.block _ ac);have d4:=Xu h4 (hB.block _ ac);have f1:(wr.alloc (.cells #[.int .i64 0,.int .i64 3,.int .i64 1,.int .i64 2,.int .i64 0] 45)).heap[w.heap.size]? = some (.map #[] 0):=by rw [QjZ _ _ _ (by omega)];exact hM
   have aq:=E9 f1;have f2:(wr.alloc (.cells #[.int .i64 0,.int .i64 3,.int .i64 1,.int .i64 2,.int .i64 0] 45)).heap[w.heap.size+1]? = some (.cells #[.int .i64 0] 3 (0,0)):=by rw [QjZ _ _ _ (by omega)];exact hP
   have f3:(wr.alloc (.cells #[.int .i64 0,.int .i64 3,.int .i64 1,.int .i64 2,.int .i64 0] 45)).cell? ⟨w.heap.size+1,0,none⟩=some (.int .i64 0):=by rw [QjT f2];rfl
   have f4:=Lib.frozen_of_heap f2 0
   go_wp2
   have an:∀ k,k≠w.heap.size+1->(wr.setCell ⟨w.heap.size+1,0,none⟩ (.int .i64 0)).heap[k]? = wr.heap[k]?:=fun k hk=>Below.heap_setCell wr ⟨w.heap.size+1,0,none⟩ _ k hk
   have ar:(wr.setCell ⟨w.heap.size+1,0,none⟩ (.int .i64 0)).heap.size=w.heap.size+2:=by simp [World.setCell,hs]
   have g1:((wr.setCell ⟨w.heap.size+1,0,none⟩ (.int .i64 0)).alloc (.cells #[.int .i64 0,.int .i64 3,.int .i64 1,.int .i64 2,.int .i64 0] 45)).heap[w.heap.size]? = some (.map #[] 0):=by rw [QjZ _ _ _ (by omega),an _ (by omega)];exact hM
   have g2:((wr.setCell ⟨w.heap.size+1,0,none⟩ (.int .i64 0)).alloc (.cells #[.int .i64 0,.int .i64 3,.int .i64 1,.int .i64 2,.int .i64 0] 45)).heap[w.heap.size+1]? = some (.cells #[.int .i64 0] 3 (0,0)):=by rw [QjZ _ _ _ (by omega)];unfold World.setCell;dsimp only;rw [Array.getElem?_modify,if_pos rfl,hP];rfl
   have g3:((wr.setCell ⟨w.heap.size+1,0,none⟩ (.int .i64 0)).alloc (.cells #[.int .i64 0,.int .i64 3,.int .i64 1,.int .i64 2,.int .i64 0] 45)).heap[w.heap.size+2]? = some (.cells #[.int .i64 0,.int .i64 3,.int .i64 1,.int .i64 2,.int .i64 0] 45 (0,0)):=by rw [<- ar];exact heap_alloc_new _ _
   have gB:Below w.heap.size w ((wr.setCell ⟨w.heap.size+1,0,none⟩ (.int .i64 0)).alloc (.cells #[.int .i64 0,.int .i64 3,.int .i64 1,.int .i64 2,.int .i64 0] 45)):=⟨hB.os,hB.tape,hB.output,by simp [World.setCell];omega,fun k hk=>by rw [QjZ _ _ _ (by omega),an _ (by omega)];exact hB.block k hk⟩;have gs:((wr.setCell ⟨w.heap.size+1,0,none⟩ (.int .i64 0)).alloc (.cells #[.int .i64 0,.int .i64 3,.int .i64 1,.int .i64 2,.int .i64 0] 45)).heap.size=w.heap.size+3:=by simp [World.setCell,hs]
   generalize ((wr.setCell ⟨w.heap.size+1,0,none⟩ (.int .i64 0)).alloc (.cells #[.int .i64 0,.int .i64 3,.int .i64 1,.int .i64 2,.int .i64 0] 45))=w2 at *
   clear hM hP hB hs d0 d1 d2 d3 d4 f1 aq f2 f3 f4 an ar;have q1:(w2.alloc (.cells #[.int .i64 0] 3)).heap[w.heap.size]? = some (.map #[] 0):=by rw [QjZ _ _ _ (by omega)];exact g1
   have bi:=E9 (w:=w2.drew) g1;have bh:=E9 (w:=(w2.alloc (.cells #[.int .i64 0] 3)).drew) q1;have q2:(w2.alloc (.cells #[.int .i64 0] 3)).drew.cell? ⟨w.heap.size+3,0,none⟩=some (.int .i64 0):=by
    have:=QjT (heap_alloc_new w2 (.cells #[.int .i64 0] 3)) 0;rw [gs] at this;exact this
   obtain ⟨i0,bc,a6,bg,bb⟩:∃ i,Tryz.prog.info? 3=some i/\i.zero=some (.int .i64 0)/\i.size=1/\i.bytes=8:=i3;have e3:w2.cell? ⟨w.heap.size+2,0,none⟩=some (.int .i64 0):=by rw [QjT g3];rfl
   go_region_law (refine step_append_grows rfl (.tmp 39) (.tmp 41) 22 rfl 3 i0 (.int .i64 0) 1 8 Tryz.underlying22 bc a6 bg bb rfl (by decide) none 0 0 [] (by simp [Act.eval,Act.put]) (fun _=>⟨rfl,rfl⟩) rfl (by simp) ⟨w.heap.size+3,0,none⟩ 1 1 [.int .i64 0] (by simp [Act.eval,Act.put,gs]) rfl (fun j u hj=>by rcases j with _ | j <;> simp at hj;subst hj;exact q2) (by simp [Value.oneCell']) (by decide) (by decide) (by decide) ?_;intro v' w' ax ak;have b2:=Q75 (w:=w') v' ((ak.block w.heap.size (by simp;omega) (by simp)).trans q1);have e4:w'.cell? ⟨w.heap.size+2,0,none⟩=some (.int .i64 0):=Xu e3 ((ak.block (w.heap.size+2) (by simp;omega) (by simp)).trans (QjZ w2 _ _ (by omega))))
   all_goals
    have hV:=QgN gs gB g2 (w1:=(w2.alloc (.cells #[.int .i64 0] 3)).drew) (fun k hk=>QjZ w2 _ k hk) rfl rfl rfl (by simp) (by simp <;> omega) ax ak
    go_wp2
    go_roundw
    all_goals first
     |exact .inr ⟨by go_num,hV⟩
     |(simp [intOf] <;> omega)
  ·go_wp2
   go_loopw [10,11,13,46] (fun bv bo a9 i wr=>i = .int .i64 0/\VF w wr\/i = .int .i64 1/\Below w.heap.size w wr)
    (fun _ _ _ i _=>1-(intOf i).toNat)
   case atStart=>exact .inl ⟨rfl,hV⟩
   case round=>
    rcases hrel with ⟨rfl,hV⟩ | ⟨rfl,hB⟩
    ·obtain ⟨hs,hB,hP,g,c,hM,hG⟩:=hV;have d0:=Xu h0 (hB.block _ ac);have d1:=Xu h1 (hB.block _ ac);have d2:=Xu h2 (hB.block _ ac);have d3:=Xu h3 (hB.block _ ac);have d4:=Xu h4 (hB.block _ ac)
     go_wp2
     have k0:w.heap.size<wr.heap.size:=by omega
     have k1:(wr.alloc (.cells #[.int .i64 0,.int .i64 3,.int .i64 1,.int .i64 2,.int .i64 0] 45)).heap[w.heap.size]? = some (.map #[{ key:=.int .i64 0,val:=.slice (some ⟨g,0,none⟩) 1 c,born:=0 }] 1):=(QjZ wr _ _ k0).trans hM;have k2:=Xu hP (QjZ wr (.cells #[.int .i64 0,.int .i64 3,.int .i64 1,.int .i64 2,.int .i64 0] 45) _ (EN hP));have k4:=Xu hG (QjZ wr (.cells #[.int .i64 0,.int .i64 3,.int .i64 1,.int .i64 2,.int .i64 0] 45) _ (EN hG));have hu:=heap_alloc_new wr (.cells #[.int .i64 0,.int .i64 3,.int .i64 1,.int .i64 2,.int .i64 0] 45);have kB:Below w.heap.size w (wr.alloc (.cells #[.int .i64 0,.int .i64 3,.int .i64 1,.int .i64 2,.int .i64 0] 45)):=⟨hB.os,hB.tape,hB.output,by simp;omega,fun k hk=>(QjZ wr _ _ (by omega)).trans (hB.block k hk)⟩;generalize (wr.alloc (.cells #[.int .i64 0,.int .i64 3,.int .i64 1,.int .i64 2,.int .i64 0] 45))=w3 at *
     generalize wr.heap.size=ub at *
     clear hM hP hG hB d0 d1 d2 d3 d4;have aq:=Q0d (w:=w3.drew) k1;have bj:=Q0d k1;have u0:w3.cell? ⟨ub,0,none⟩=some (.int .i64 0):=by rw [QjT hu];rfl
     have u1:w3.cell? ⟨ub,1,none⟩=some (.int .i64 3):=by rw [QjT hu];rfl
     have u2:w3.cell? ⟨ub,2,none⟩=some (.int .i64 1):=by rw [QjT hu];rfl
     have u3:w3.cell? ⟨ub,3,none⟩=some (.int .i64 2):=by rw [QjT hu];rfl
     have u4:w3.cell? ⟨ub,4,none⟩=some (.int .i64 0):=by rw [QjT hu];rfl
     have d0:=Xu h0 (kB.block _ ac);have d1:=Xu h1 (kB.block _ ac);have d2:=Xu h2 (kB.block _ ac);have d3:=Xu h3 (kB.block _ ac);have d4:=Xu h4 (kB.block _ ac)
     go_region
     go_wp2
     go_loopw [13,61] (fun a9 i wr=>i = .int .i64 0/\wr=w3.drew\/i = .int .i64 1/\Below w.heap.size w wr)
      (fun _ i _=>1-(intOf i).toNat)
     case atStart=>exact .inl ⟨rfl,rfl⟩
     case round=>
      rcases hrel with ⟨rfl,rfl⟩ | ⟨rfl,hB⟩
      ·go_wp2
       first | go_region_with (go_at_call 64;refine (Q6B _).mono ?_;rintro e w4 ⟨rfl,a7⟩) | done
       all_goals
        have ba:Below w.heap.size w w4:=Uw (w1:=w3.drew.drew) ⟨kB.os,kB.tape,kB.output,kB.size,kB.block⟩ (Qk2 _) a7
        go_wp2
        go_roundw
        all_goals first
         |exact .inr ⟨by go_num,ba⟩
         |(simp [intOf] <;> omega)
      ·go_wp2
       go_roundw
       all_goals first
        |exact .inr ⟨by go_num,hB⟩
        |(simp [intOf] <;> omega)
    ·go_wp2
     go_end0
     exact ⟨rfl,hB⟩
abbrev LU:LL:=[[D.int .i64 0,.int .i64 3,.int .i64 1,.int .i64 2,.int .i64 0]]
theorem Q42 {S:Nat->Prop} {w:World} (hS:∀ b,S b->b<w.heap.size) {v:Value} (hv:Rd S w v (.sl 5 LU)):Calls Tryz.prog 33 #[.int .i64 5,v] w fun e w'=>e = .returned (.bool true)/\RowKit.Below w.heap.size w w':=by
 have he:(Ki 9).E Dl 0 true [.d (.int .i64 5),.d (.sl 5 LU)] (fun _=>none) some=some ⟨.d (.bool true),[],[]⟩:=by kernel_rfl
 exact Kb (XR ((Ki 9).ok) he) hS (Kn (.d _ _ (.int _ _)) (.d _ _ hv))
set_option maxHeartbeats 1000000 in
set_option maxRecDepth 100000 in
theorem Tryz.free1 {S:Nat->Prop} {w:World} (hS:∀ b,S b->b<w.heap.size) (a:Addr) (cap:Nat) (hv:Rd S w (.slice (some a) 1 cap) (.sl 5 LU)) (h0:w.cell? a=some (.int .i64 0)) (h1:w.cell? ⟨a.block,a.off+1,none⟩=some (.int .i64 3)) (h2:w.cell? ⟨a.block,a.off+2,none⟩=some (.int .i64 1)) (h3:w.cell? ⟨a.block,a.off+3,none⟩=some (.int .i64 2)) (h4:w.cell? ⟨a.block,a.off+4,none⟩=some (.int .i64 0)) :
  Calls Tryz.prog 13 #[.int .i64 5,.slice (some a) 1 cap] w fun e w'=>e = .returned (.bool true)/\Below w.heap.size w w':=by
 have aj:=EN h0
 go_enter Tryz.func13,Tryz.ntmps13
 go_wp2_with (go_at_call 33;refine (Q42 hS hv).mono ?_)
 rintro e w1 ⟨rfl,hB⟩;have hk:∀ k,k<w.heap.size->(w1.alloc (.cells #[.bool true] 4)).heap[k]? = w.heap[k]?:=fun k hk=>(QjZ w1 _ k (by have:=hB.size;omega)).trans (hB.block k hk)
 have d0:=Xu h0 (hk _ aj);have d1:=Xu h1 (hk _ aj);have d2:=Xu h2 (hk _ aj);have d3:=Xu h3 (hk _ aj);have d4:=Xu h4 (hk _ aj);have hw:=heap_alloc_new w1 (.cells #[.bool true] 4);have au:w.heap.size<=w1.heap.size:=hB.size;have aw:(w1.alloc (.cells #[.bool true] 4)).heap.size=w1.heap.size+1:=by simp
 go_wp2_with (go_at_call 34;refine (Tryz.visit1 (w1.alloc (.cells #[.bool true] 4)) a cap _ d0 d1 d2 d3 d4).mono ?_)
 rintro e w2 ⟨rfl,ac⟩;have hf:w2.cell? ⟨w1.heap.size,0,none⟩=some (.bool true):=by rw [QjT ((ac.block _ (by omega)).trans hw)];rfl
 go_wp2
 refine bodyPost_ret (results_tmp rfl _ _ _) rfl ?_;exact ⟨rfl,ac.os.trans hB.os,ac.tape.trans hB.tape,ac.output.trans hB.output,by have:=ac.size;omega,fun k an=>(ac.block k (by omega)).trans (hk k an)⟩
theorem Q9E {t:Int} {rows:LL} (h:QcD t rows=true):t=5/\rows=LU:=by
 unfold QcD at h;split at h
 ·simp only [Qk4,decide_eq_true_eq] at h;obtain ⟨rfl,rfl,rfl,rfl,rfl,rfl⟩:=h;exact ⟨rfl,rfl⟩
 ·cases h
theorem rdD {S:Nat->Prop} {w:World} {v:Value} {x:Go.Vx.D} (h:RdA (fun _=>none) S (fun _=>none) w tm0 v (.d x)):Rd S w v x:=by
 cases h with
 |d _ _ q=>exact q
 |dang v av l hl=>cases hl
theorem Q4n (n:Nat) (a0:Int) (a1:LL) (res:Bool) {hl:Nat->Option Ob} (h:Po n a0 a1 some=some res):Zh Tryz.prog 13 [.d (.int .i64 a0),.d (.sl 5 a1)] hl ⟨.d (.bool res),[],[]⟩:=by
 obtain ⟨an,h⟩:=XB h;injection h with h
 subst h;obtain ⟨rfl,rfl⟩:=Q9E an;refine Si (fn:=Tryz.f13) (by kernel_rfl) (by kernel_rfl) (by kernel_rfl) rfl rfl fun S w args hS hA=>?_
 obtain ⟨v,u,rfl,hv,hu⟩:=Q5q hA;have hv:=GU (rdD hv);subst hv;have hu:=rdD hu;obtain ⟨ad,cap,rfl⟩:=Gc hu;obtain ⟨a,rfl,ha,_,ac⟩:=Q66 (i:=0) hu rfl;obtain ⟨u0,x0,y0⟩:=ac 0 _ rfl;obtain ⟨u1,x1,y1⟩:=ac 1 _ rfl;obtain ⟨u2,x2,y2⟩:=ac 2 _ rfl;obtain ⟨u3,x3,y3⟩:=ac 3 _ rfl;obtain ⟨u4,x4,y4⟩:=ac 4 _ rfl;have e0:a.add (0*5)=a:=by simp [Addr.add]
 rw [GU y0,Nat.add_zero,e0] at x0;rw [GU y1,J7 _ _ _ (by decide),e0] at x1;rw [GU y2,J7 _ _ _ (by decide),e0] at x2;rw [GU y3,J7 _ _ _ (by decide),e0] at x3;rw [GU y4,J7 _ _ _ (by decide),e0] at x4;refine (Tryz.free1 hS a cap hu x0 x1 x2 x3 x4).mono fun e w' ⟨he,hB⟩=>?_
 exact ⟨_,S,he,fun b h=>h,fun b h=>.inl h,fun b h=>Qk1 (hS b h) hB.size,.d _ _ (.bool _),hB⟩
end Go.Proofs
namespace Go.Vx
open Go.Proofs
variable (n:Nat)
def Hl (n:Nat):TK:=fun _ _ g ac _ k=>match ac with
 | [c0,c1]=>prI g .i64 c0 fun a0=>prS g 5 c1 fun a1=>gb g (Po n a0 a1 some) false fun r=>k ⟨.d (D.bool r),[],[]⟩
 | _=>none
theorem E2 (n:Nat):Ve Tryz.prog 13 (Hl n):=by
  intro R aj g ak hl k r h
  unfold Hl at h
  split at h
  rotate_left
  · cases h
  obtain ⟨a0,h,a⟩:=C8 h
  obtain ⟨a1,h,b⟩:=WL h
  obtain ⟨res,h,hr⟩:=QM h
  exact ⟨_,h,fun hg=>Zh.conv (.cons (a hg) (.cons (b hg) .nil)) (Q4n n a0 a1 res (hr hg))⟩
end Go.Vx
set_option maxRecDepth 100000
namespace Go.Vx
open Go.Proofs
variable (n:Nat)
def Q1j:EZ9 6:=mkD (Xa [⟨13,⟨Hl n,E2 n⟩⟩,⟨15,A4 n⟩,⟨14,CM n⟩] [(1,⟨[],[],[],[],[3]⟩)]).ok nT 6 Tryz.f6 0 @Kj n
end Go.Vx
namespace Go.Proofs
open Go.RowKit
theorem As {P:Program} {w:World} (a:Addr) (m:Mode) (f:Fn) (x y:Array Value):(store a (.func f x y) m).run P w=stored P w a (.func f x y) m:=run_store P w a _ m rfl
attribute [local go_sem] As
def KI (r:Nat->Int):Nat->Nat->Int
 |0,_=>0
 |n+1,k=>if r k=0 then KI r n (k+1) else r k
theorem Sb (r:Nat->Int):∀ (n k m:Nat),(∀ j,k<=j->j<k+m->r j=0)->KI r (m+n) k=KI r n (k+m)
 |n,k,0,_=>by simp
 |n,k,m+1,h=>by
  rw [show m+1+n=(m+n)+1 by omega];simp only [KI];rw [if_pos (h k (Qk2 _) (by omega)),Sb r n (k+1) m (fun j a h2=>h j (by omega) (by omega))];rw [show k+1+m=k+(m+1) by omega]
theorem Below.of {n:Nat} {w w':World} (a:w'.os=w.os) (h2:w'.tape=w.tape) (c:w'.output=w.output) (d:w.heap.size<=w'.heap.size) (e:∀ b,b<n->w'.heap[b]? = w.heap[b]?):Below n w w':=by
 exact ⟨a,h2,c,d,e⟩
set_option maxHeartbeats 4000000 in
set_option maxRecDepth 100000 in
theorem Tryz.plancheck_calls (w:World) (a0 a1 a2 d p0 p1 g l m n o p:Value) (r:Nat->Int)
  (h:∀ k:Nat,k<8->∀ w':World,w.heap.size<=w'.heap.size->(∀ b,b<w.heap.size->w'.heap[b]? = w.heap[b]?) ->
   Calls Tryz.prog (119+k) #[.agg #[a0,a1,a2,d],.agg #[p0,p1,g,l,m,n,o,p]] w' fun e aw=>e = .returned (.int .i64 (r k))/\Below w'.heap.size w' aw)
  (c:∀ x∈[a0,a1,a2,d,p0,p1,g,l,m,n,o,p],x.oneCell'=true) :
  Calls Tryz.prog 67 #[.agg #[a0,a1,a2,d],.agg #[p0,p1,g,l,m,n,o,p]] w fun e w'=>e = .returned (.int .i64 (KI r 8 0))/\Below w.heap.size w w':=by
 go_enter Tryz.func67,Tryz.ntmps67
 go_wp2
 go_loopw [11] (fun i wr=>∃ k:Nat,k<=8/\i = .int .i64 k/\(∀ j,j<k->r j=0)/\wr.heap[w.heap.size]? = some (.cells #[a0,a1,a2,d] 27 (0,0))/\wr.heap[w.heap.size+1]? = some (.cells #[p0,p1,g,l,m,n,o,p] 36 (0,0))/\Below w.heap.size w wr)
  (fun i _=>8-(intOf i).toNat)
 case atStart=>
  refine ⟨0,by omega,rfl,fun j hj=>absurd hj (by omega),?_,?_,?_⟩
  ·rw [QjZ _ _ _ (by simp;omega),QjZ _ _ _ (by simp)];exact heap_alloc_new w _
  ·rw [QjZ _ _ _ (by simp),show w.heap.size+1=(w.alloc (.cells #[a0,a1,a2,d] 27)).heap.size by simp];exact heap_alloc_new _ _
  ·refine Below.of rfl rfl rfl (by simp;omega) fun b hb=>?_
   rw [QjZ _ _ _ (by simp;omega),QjZ _ _ _ (by simp;omega),QjZ _ _ _ hb]
 case round=>
  obtain ⟨k,hk,rfl,hz,f,a,hB⟩:=hrel;by_cases ao:k<8
  ·have ay:((k:Int)<8):=by omega
   have c0:wr.cell? ⟨w.heap.size,0,none⟩=some a0:=by rw [QjT f];rfl
   have c1:wr.cell? ⟨w.heap.size,1,none⟩=some a1:=by rw [QjT f];rfl
   have s:wr.cell? ⟨w.heap.size,2,none⟩=some a2:=by rw [QjT f];rfl
   have t:wr.cell? ⟨w.heap.size,3,none⟩=some d:=by rw [QjT f];rfl
   have d0:wr.cell? ⟨w.heap.size+1,0,none⟩=some p0:=by rw [QjT a];rfl
   have d1:wr.cell? ⟨w.heap.size+1,1,none⟩=some p1:=by rw [QjT a];rfl
   have u:wr.cell? ⟨w.heap.size+1,2,none⟩=some g:=by rw [QjT a];rfl
   have v:wr.cell? ⟨w.heap.size+1,3,none⟩=some l:=by rw [QjT a];rfl
   have y:wr.cell? ⟨w.heap.size+1,4,none⟩=some m:=by rw [QjT a];rfl
   have z:wr.cell? ⟨w.heap.size+1,5,none⟩=some n:=by rw [QjT a];rfl
   have d6:wr.cell? ⟨w.heap.size+1,6,none⟩=some o:=by rw [QjT a];rfl
   have d7:wr.cell? ⟨w.heap.size+1,7,none⟩=some p:=by rw [QjT a];rfl
   have hw:wrap64 ((k:Int)+1)=((k+1:Nat):Int):=by unfold wrap64;omega
   have ax:∀ w:World,(Instr.index 221 (.agg #[.func (.func 119) #[] #[],.func (.func 120) #[] #[],.func (.func 121) #[] #[],.func (.func 122) #[] #[],.func (.func 123) #[] #[],.func (.func 124) #[] #[],.func (.func 125) #[] #[],.func (.func 126) #[] #[]]) (.int .i64 k)).run Tryz.prog w = .ok (.func (.func (119+k)) #[] #[]) w:=by
    intro w;obtain rfl | rfl | rfl | rfl | rfl | rfl | rfl | rfl:k=0\/k=1\/k=2\/k=3\/k=4\/k=5\/k=6\/k=7:=by omega
    all_goals rfl
   have az:∀ (w:World) (ar:Array Value),(callFunc (119+k) ar).run Tryz.prog w = .ok (.enter (119+k) ar) w:=by
    intro w ar;obtain rfl | rfl | rfl | rfl | rfl | rfl | rfl | rfl:k=0\/k=1\/k=2\/k=3\/k=4\/k=5\/k=6\/k=7:=by omega
    all_goals rfl
   have hc:=h k ao wr hB.size hB.block;clear hw
   go_wp2
   refine hc.mono ?_;rintro e q ⟨rfl,ac⟩;have an:Below w.heap.size w q:=hB.trans ⟨ac.os,ac.tape,ac.output,ac.size,fun b hb=>ac.block b (Qk1 hb hB.size)⟩;have l0:=(Qka.1 f).1;have l1:=(Qka.1 a).1;by_cases hr:r k=0
   ·rw [hr]
    go_wp2
    go_roundw
    case rel=>
     refine ⟨k+1,by omega,rfl,fun j hj=>?_,(ac.block _ l0).trans f,(ac.block _ l1).trans a,an⟩;by_cases e:j=k
     ·rw [e];exact hr
     ·exact hz j (by omega)
    case measure=>simp [intOf];omega
   ·have aj:KI r 8 0=r k:=by
     have e:=Sb r (8-k) 0 k fun j _ h2=>hz j (by omega)
     rw [show k+(8-k)=8 by omega] at e;rw [e,show 8-k=(7-k)+1 by omega,Qke];simp [KI,hr]
    go_wp2
    refine bodyPost_ret (results_tmp rfl _ _ _) rfl ?_;exact ⟨by rw [aj];rfl,an⟩
  ·have aj:KI r 8 0=0:=by
    have e:=Sb r 0 0 8 fun j _ h2=>hz j (by omega)
    exact e
   go_wp2
   refine bodyPost_ret (results_tmp rfl _ _ _) rfl ?_;exact ⟨by rw [aj];rfl,hB⟩
end Go.Proofs
namespace Go.Vx
open Go.Proofs
variable (n:Nat)
def Ju (n:Nat):TK:=fun _ _ g ac _ k=>match ac with
 | [c0]=>
  prG c0 fun l0=>(match l0 with
  | [a,b,c,d]=>prS g 1 a fun e=>prS g 1 b fun f=>prS g 5 c fun h=>prS g 6 d fun i=>
  gb g (Zo n e f h i some) 0 fun r=>k ⟨.d (D.int .i64 r),[],[]⟩
  | _=>none)
 | _=>none
theorem Tf (n:Nat):Ve Tryz.prog 166 (Ju n):=by
  intro R aj g ak hl k r h
  unfold Ju at h
  split at h
  rotate_left
  · cases h
  replace h:=Q1g h
  obtain ⟨l0,h,e⟩:=h
  subst e
  split at h
  rotate_left
  · cases h
  replace h:=WL h
  obtain ⟨a,h,f⟩:=h
  replace h:=WL h
  obtain ⟨b,h,i⟩:=h
  replace h:=WL h
  obtain ⟨c,h,j⟩:=h
  replace h:=WL h
  obtain ⟨d,h,l⟩:=h
  replace h:=QM h
  obtain ⟨res,h,hr⟩:=h
  exact ⟨_,h,fun hg=>Zh.conv (avs':=[.ag [.d (D.sl 1 a),.d (D.sl 1 b),.d (D.sl 5 c),.d (D.sl 6 d)]]) (.cons (.ag (.cons (f hg) (.cons (i hg) (.cons (j hg) (.cons (l hg) .nil))))) .nil) (Q1C n a b c d res (hr hg))⟩
end Go.Vx
set_option maxRecDepth 100000
namespace Go.Vx
open Go.Proofs
variable (n:Nat)
def P4:BZ9:=Xa [⟨166,⟨Ju n,Tf n⟩⟩] []
def Lz:LZ9:=mkU (P4 n).ok nT 12 Tryz.f119 [(3,.ptr 3 0),(41,.l 4),(42,tI),(43,tI)] [(3,bT 36 [])] 22 [.f .ret [(4,.ci .i64 7)] [] [],xE 1 [(44,.b)]] @Zz n
def Pz:EZ9 119:=mkD (P4 n).ok [Lz n n] 119 Tryz.f119 0 @UO n
def GA:BZ9:=Xa [⟨166,⟨Ju n,Tf n⟩⟩,⟨241,Au n⟩,⟨242,Fj n⟩] [(24,⟨[],[],[(11,1011,3,1)],[],[]⟩)]
def CV:LZ9:=mkU (GA n).ok nT 10 Tryz.f215 [(2,.ptr 2 0),(3,.ptr 3 0),(40,.l 2),(41,tI),(42,tI)] [(2,bT 27 []),(3,.box [.l 2,tI])] 1102 [.f .ret [(4,.nil),(5,.ci .i64 4)] [] [],xE 1 [(43,.b)]] @WI n
def Bz:LZ9:=mkU (GA n).ok nT 17 Tryz.f215 [(2,.ptr 2 0),(3,.ptr 3 0),(8,.arr 54),(56,.l 2),(57,tI),(58,tI)] [(2,bT 27 []),(3,.box [.l 2,tI]),(54,.arr 4 1)] 39388 [.f .ret [(4,.nil),(5,.ci .i64 5)] [] [],xE 3 [(59,.b)]] @Gb n
def CY:LZ9:=mkU (GA n).ok nT 25 Tryz.f215 [(2,.ptr 2 0),(3,.ptr 3 0),(11,.arr 1011),(74,.l 2),(75,tI),(76,tI)] [(2,bT 27 []),(3,.box [.l 2,tI]),(1011,.arr 3 1)] 42655 [.f .ret [(4,.nil),(5,.ci .i64 11)] [] [],xE 5 [(77,.b)]] @Wx n
def Aj:EZ9 215:=mkD (GA n).ok [CV n n,Bz n n,CY n n] 215 Tryz.f215 0 @KZ n
def Lr:EZ9 171:=mkD (Xa [⟨215,Aj n⟩] []).ok nT 171 Tryz.f171 0 @Tv n
def Tt:BZ9:=Xa [⟨171,Lr n⟩] []
def MT:LZ9:=mkU (Tt n).ok nT 2 Tryz.f121 [(2,.ptr 2 0),(9,.l 2),(10,tI),(11,tI)] [(2,bT 27 [])] 1102 [.f .ret [(4,tI)] [] [0],xE 0 [(12,.b)]] @YW n
def TZ:EZ9 121:=mkD (Tt n).ok [MT n n] 121 Tryz.f121 0 @U0 n
end Go.Vx
namespace Go.Vx
open Go.Proofs Go.RowKit
section
variable {P:Program}
theorem Q0u (w:World) (dT sT ty ac:TypeId) (g o aj ao k:Nat) (a:Addr) (an ar:Nat) (ak:Array Value) (t:TypeId) (cs:List Value)
  (hu:P.underlying dT=some (.slice ac)) (hs:(P.info? ac).map (·.size)=some k)
  (hg:w.heap[g]? = some (.cells ak t (0,0))) (hn:cs.length=Nat.min an aj*k)
  (au:∀ j v,cs[j]? = some v->w.cell? (a.add j)=some v) (aq:o+cs.length<=ak.size) (b:∀ v∈cs,v.oneCell'=true) :
  (Builtin.copy_ #[dT,sT] ty #[.slice (some ⟨g,o,none⟩) aj ao,.slice (some a) an ar]).run P w =
   .ok (goInt (Nat.min an aj)) (w.setRow g (ak.toList.take o++cs++ak.toList.drop (o+cs.length)).toArray):=by
 have hl:=run_loadCells_list (P:=P) w a cs au;have aw:=run_storeCells_at P g o t cs 0 ak w hg (by simpa using aq) b;cases hq:P.info? ac with
 |none=>simp [hq] at hs
 |some i=>
  have hi:i.size=k:=by simpa [hq] using hs
  simp [Builtin.copy_,run_underlying hu,Builtin.lenOf,Builtin.firstCells,sizeOf,typeInfo,hq,hi,<- hn,hl,aw]
theorem Q3g (w:World) (dT sT ty ac:TypeId) (g o aj ao k:Nat) (a:Addr) (ak aq:Nat) (an:Array Value) (t:TypeId) (cs:List Value) (m:Nat)
  (hu:P.underlying dT=some (.slice ac)) (hs:(P.info? ac).map (·.size)=some k)
  (hg:w.heap[g]? = some (.cells an t (0,0))) (hm:Nat.min ak aj=m) (hn:cs.length=m*k)
  (au:∀ j v,cs[j]? = some v->w.cell? (a.add j)=some v) (ar:o+cs.length<=an.size) (c:∀ v∈cs,v.oneCell'=true) :
  ∃ w',(Builtin.copy_ #[dT,sT] ty #[.slice (some ⟨g,o,none⟩) aj ao,.slice (some a) ak aq]).run P w = .ok (.int .i64 (m:Int)) w' /\
   w'.heap[g]? = some (.cells (splice an.toList o cs).toArray t (0,0))/\(∀ n,n<=g->∀ w0:World,Below n w0 w->Below n w0 w'):=by
 subst hm;refine ⟨_,Q0u w dT sT ty ac g o aj ao k a ak aq an t cs hu hs hg hn au ar c,by simpa [splice] using setRow_heap w g _ _ t _ hg,fun n hn w0 h=>⟨h.os,h.tape,h.output,by simpa [World.setRow] using h.size,fun b hb=>(setRow_other w g b _ (by omega)).trans (h.block b hb)⟩⟩
theorem BZ {w:World} {ar:Array Oper} {o:Oper} {a:Act} {K:Act->World->Prop} {Q:Exit->Act->World->Prop} {E:Prop} (ay:o.guard=none) (d s:Operand) (dT sT:TypeId)
  (ho:o.op = .call { callee:=.builtin .copy,args:=#[d,s],argTypes:=#[dT,sT] }) (ac:TypeId) (k:Nat) (hu:P.underlying dT=some (.slice ac)) (az:(P.info? ac).map (·.size)=some k)
  (g off aj ao:Nat) (ad:Addr) (ak aq:Nat) (hd:a.eval d = .slice (some ⟨g,off,none⟩) aj ao) (hs:a.eval s = .slice (some ad) ak aq)
  (an:Array Value) (t:TypeId) (hg:w.heap[g]? = some (.cells an t (0,0))) (cs:List Value) (m:Nat) (hm:Nat.min ak aj=m) (hn:cs.length=m*k)
  (ax:∀ j v,cs[j]? = some v->w.cell? (ad.add j)=some v) (au:off+cs.length<=an.size) (b:∀ v∈cs,v.oneCell'=true)
  (h:∀ w',w'.heap[g]? = some (.cells (splice an.toList off cs).toArray t (0,0))->(∀ n,n<=g->∀ w0:World,Below n w0 w->Below n w0 w')->K (a.put o.dst (.int .i64 (m:Int))) w') :
  if Region.wanted o (yielded ar a.tmps)=true then Oper.wp P o a w K Q else E:=by
 have hw:Region.wanted o (yielded ar a.tmps)=true:=by simp [Region.wanted,ay]
 rw [if_pos hw];obtain ⟨w',aw,h2,c⟩:=Q3g (P:=P) w dT sT o.type ac g off aj ao k ad ak aq an t cs m hu az hg hm hn ax au b;unfold Oper.wp;simp [execOp,ho,resolve,invoke,builtin,hd,hs,aw,Result.andThen];exact h w' h2 c
end
def Ma (a b:Value):Nat->List Value
 |0=>[]
 |m+1=>a::b::Ma a b m
theorem UN (a b:Value):∀ m,(Ma a b m).length=m*2
 |0=>rfl
 |m+1=>by simp [Ma,UN a b m];omega
theorem Q0L (a b:Value) (k:Nat):∀ m,Ma a b (m+k)=Ma a b m++Ma a b k
 |0=>by simp [Ma]
 |m+1=>by rw [show m+1+k=(m+k)+1 by omega];simp [Ma,Q0L a b k m]
theorem Q8o (a b:Value) {m k:Nat} (h:m<=k):(Ma a b k).take (m*2)=Ma a b m:=by
 obtain ⟨d,rfl⟩:=Nat.exists_eq_add_of_le h;rw [Q0L,List.take_append_of_le_length (by rw [UN];omega),Qk9 (by rw [UN];omega)]
theorem Q0A {a b:Value}:∀ {m:Nat} {v:Value},v∈Ma a b m->v=a\/v=b
 |m+1,v,h=>by
  simp only [Ma,List.mem_cons] at h;rcases h with h | h | h
  ·exact .inl h
  ·exact .inr h
  ·exact Q0A h
theorem Q8W (a b:Value):∀ (m i:Nat),i<m->(Ma a b m)[i*2]? = some a/\(Ma a b m)[i*2+1]? = some b
 |m+1,0,h=>by simp [Ma]
 |m+1,i+1,h=>by
  have:=Q8W a b m i (by omega);rw [show (i+1)*2=i*2+1+1 by omega];simpa [Ma] using this
theorem mul_one (c:Nat) (hc:c<=100000):HY 0 1 (c:Int) (fun a b=>some (a,b))=some (0,(c:Int)):=by
 have d:shR .u64 1 (32:Int)=0:=by decide
 have h2:shR .u64 (c:Int) (32:Int)=0:=by
  show (c:Int).fdiv (2 ^ (min (32:Int).toNat IntKind.u64.bits))=0;rw [show (min (32:Int).toNat IntKind.u64.bits)=32 from rfl,Int.fdiv_eq_ediv_of_nonneg _ (by decide)];omega
 have e:Q5Q .u64 1 (4294967295:Int)=1:=by decide
 have f:Q5Q .u64 (c:Int) (4294967295:Int)=(c:Int):=by
  unfold Q5Q;rw [BitVec.toNat_and,IntKind.wrap_u64];have e1:(BitVec.ofInt IntKind.u64.bits (c:Int)).toNat=c:=by
   rw [BitVec.toNat_ofInt];show ((c:Int) % ((2 ^ 64:Nat):Int)).toNat=c;omega
  have e2:(BitVec.ofInt IntKind.u64.bits (4294967295:Int)).toNat=2 ^ 32-1:=by decide
  rw [e1,e2,Nat.and_two_pow_sub_one_eq_mod];omega
 have w0:IntKind.u64.wrap 0=0:=by decide
 have wc:IntKind.u64.wrap (c:Int)=(c:Int):=by rw [IntKind.wrap_u64];omega
 have s0:shR .u64 0 (32:Int)=0:=by decide
 have a0:Q5Q .u64 0 (4294967295:Int)=0:=by decide
 simp only [HY,Tk,cond_false,B6,d,h2,e,f,gb,Int.zero_mul,Int.one_mul,Int.mul_zero,Int.add_zero,w0,wc,s0,a0];rfl
theorem Q4B {β:Nat->Option Nat} {S:Nat->Prop} {h:Nat->Option Ob} {w:World} {tm:Nat->Value} {v:Value} {k:IntKind} {n:Int} (h:RdA β S h w tm v (.d (.int k n))):v = .int k n:=by
 cases h with
 |d _ _ q=>exact GU q
 |dang _ _ _ hl=>cases hl
theorem Q7X (c:Nat) (hc:c<=100000) (w:World):Calls Tryz.prog 263 #[.int .u64 1,.int .u64 (c:Int)] w fun e w'=>e = .returned (.tuple #[.int .u64 0,.int .u64 c])/\RowKit.Below w.heap.size w w':=by
 have he:(RP 0).E Dl 0 true [.d (.int .u64 1),.d (.int .u64 (c:Int))] (fun _=>none) some=some ⟨.tup [.d (D.int .u64 0),.d (D.int .u64 (c:Int))],[],[]⟩:=by
  show gb true (HY 0 1 (c:Int) (fun g i=>some (g,i))) (0,0) (fun r=>(some ⟨.tup [.d (D.int .u64 r.1),.d (D.int .u64 r.2)],[],[]⟩:Option Dl))=_;rw [mul_one c hc];rfl
 refine (Ci (S:=fun _=>False) (XR ((RP 0).ok) he) (fun _ h=>h.elim) (Kn (.d _ _ (.int _ _)) (.d _ _ (.int _ _)))).mono fun e w' ⟨v,S',j,h2,k⟩=>⟨?_,k⟩
 rw [j];cases h2 with
 |tup cs l hl hr=>
  have d:=Q4B (hr 0 _ rfl);have f:=Q4B (hr 1 _ rfl);obtain ⟨l⟩:=cs
  match l,hl with
  |[a,b],_=>
   simp at d f;rw [d,f]
 |dang v av l hl=>cases hl
noncomputable def Qcq:Code:=(Gi (Tryz.f256.body.getD .skip)).getD 9 .skip
set_option maxHeartbeats 8000000 in
set_option maxRecDepth 100000 in
theorem Tryz.repeat_r9 (d f u2 u3 g i l o p q r s t u x y z aa ab ac ad ae ag ah ai aj ak al am an ao ap aq ar au av ax ay az ba bb bc bd be bg aw a b:Value) (H c m k:Nat) (cu:Array Value) (w:World) (bh:m<c) (b5:(m:Int)<(c:Int)) (hk:Nat.min m (c-m)=k) (a3:w.heap[H]? = some (.cells cu 283 (0,0))) (h0:(0:Int)<=(m:Int)) (cf:(m:Int)<=(c:Int))
  (a7:∀ (j:Nat) (v:Value),(Ma a b k)[j]? = some v->w.drew.cell? ((⟨H,0,none⟩:Addr).add j)=some v) (a6:m*2+(Ma a b k).length<=cu.size) (a5:∀ v∈Ma a b k,v.oneCell'=true) (cj:IntKind.i64.wrap ((m:Int)+(k:Int))=((m+k:Nat):Int)) :
  Code.wp Tryz.prog Qcq (Q5u fun act w'=>∃ (bi bj bk bl bm bn bo bp bq:Value),act=⟨(d::f::u2::u3::g::i::l::.slice (some ⟨H,0,none⟩) c c::.int .i64 ((m:Int)+(k:Int))::o::p::q::r::s::t::u::x::y::z::aa::ab::ac::ad::ae::ag::ah::ai::aj::ak::al::am::an::ao::ap::aq::ar::au::av::bi::bj::bk::bl::bm::bn::bo::bp::bq::aw::[]).toArray,[]⟩/\w'.heap[H]? = some (.cells (splice cu.toList (m*2) (Ma a b k)).toArray 283 (0,0))/\(∀ n,n<=H->∀ w0:World,Below n w0 w->Below n w0 w')) ⟨(d::f::u2::u3::g::i::l::.slice (some ⟨H,0,none⟩) c c::.int .i64 (m:Int)::o::p::q::r::s::t::u::x::y::z::aa::ab::ac::ad::ae::ag::ah::ai::aj::ak::al::am::an::ao::ap::aq::ar::au::av::ax::ay::az::ba::bb::bc::bd::be::bg::aw::[]).toArray,[]⟩ w:=by
 conv=>arg 2;whnf
 have mixed:Tryz.prog.follows .mixedOrders=true:=by kernel_rfl
 have a8:(Tryz.prog.info? 283).map (·.size)=some 2:=by kernel_rfl
 have bv:c=m->0=m*2:=fun e=>absurd e (Nat.ne_of_gt bh)
 have a2:w.drew.heap[H]? = some (.cells cu 283 (0,0)):=a3
 go_region_law (first
  |(refine BZ (by rfl) _ _ 239 239 (by rfl) 283 2 Tryz.underlying239 a8 H (m*2) (c-m) (c-m) ⟨H,0,none⟩ m c (by go_simp;exact bv) (by go_simp) cu 283 a2 (Ma a b k) k hk (UN _ _ _) a7 a6 a5 ?_;intro w3 a9 br))
 all_goals
  dsimp only [Q5u];exact ⟨_,_,_,_,_,_,_,_,_,rfl,a9,fun n hn w0 h=>br n hn w0 (h.trans ⟨rfl,rfl,rfl,Qk2 _,fun _ _=>rfl⟩)⟩
theorem Q6D {a b:Value} {m k:Nat} {L:List Value} (ac:L.take (m*2)=Ma a b m):(splice L (m*2) (Ma a b k)).take ((m+k)*2)=Ma a b (m+k):=by
 simp only [splice];rw [ac,List.take_append,Qk9 (by rw [UN];omega),UN,List.take_append_of_le_length (by rw [UN];omega),Qk9 (by rw [UN];omega),Q0L]
theorem QdM {m k c:Nat} (h:m+k<=c) (hk:0<k):c-(intOf (.int .i64 ((m:Int)+(k:Int)))).toNat<c-(intOf (.int .i64 (m:Int))).toNat:=by
 simp only [intOf];omega
set_option maxHeartbeats 4000000 in
set_option maxRecDepth 100000 in
theorem Tryz.repeat_calls (w:World) (ad:Addr) (cap c:Nat) (b d:Value) (hc:c<=100000) (o:w.cell? (ad.add 0)=some b) (r:w.cell? (ad.add 1)=some d) (o0:b.oneCell'=true) (o1:d.oneCell'=true) :
  Calls Tryz.prog 256 #[.slice (some ad) 1 cap,.int .i64 (c:Int)] w fun e w'=>∃ (H:Nat) (ac:Array Value),e = .returned (.slice (some ⟨H,0,none⟩) c c)/\w.heap.size<=H/\w'.heap[H]? = some (.cells ac 283 (0,0))/\ac.size=c*2/\ac.toList=Ma b d c/\Below w.heap.size w w':=by
 obtain ⟨s,hi,t⟩:=Qk8.1 (show (Tryz.prog.info? 283).map (fun i=>(i.zero.isSome,i.size,i.bytes))=some (true,2,16) by kernel_rfl);obtain ⟨hz,g⟩:=Prod.mk.inj t;obtain ⟨g,u⟩:=Prod.mk.inj g;obtain ⟨z,hz⟩:=Option.isSome_iff_exists.1 hz;have ax:∀ w:World,∃ ac:Array Value,ac.size=c*2/\(Instr.makeSlice 239 (.int .i64 (c:Int)) (.int .i64 (c:Int))).run Tryz.prog w = .ok (.slice (some ⟨w.heap.size,0,none⟩) c c) (w.alloc (.cells ac 283)):=by
  intro w;refine ⟨madeCells z.cells (c*2),size_madeCells _ _,?_⟩;have:=run_make (P:=Tryz.prog) w 239 283 s z Tryz.underlying239 hi hz .i64 .i64 (c:Int) (c:Int) (by omega) (by omega) (by rw [u];omega) (by omega);rw [g] at this;exact this
 have a5:(Tryz.prog.info? 283).map (·.size)=some 2:=by rw [hi];simp [g]
 have br:IntKind.u64.wrap (c:Int)=(c:Int):=by rw [IntKind.wrap_u64];omega
 have bo:IntKind.i64.wrap (c:Int)=(c:Int):=by rw [IntKind.wrap_i64];omega
 have g0:(0:Int)<=(c:Int):=by omega
 have g1:¬ (9223372036854775807:Int)<(c:Int):=by omega
 go_enter Tryz.func256,Tryz.ntmps256
 go_wp2_with (go_at_call 263;refine (Q7X c hc _).mono ?_)
 rintro e w1 rfl hB;obtain ⟨ac,bb,a7⟩:=ax w1;clear ax;have ar:=U9 hB (Qk2 _) (.cells ac 283);have a2:∀ a:Addr,a.block<w.heap.size->(w1.alloc (.cells ac 283)).cell? a=w.cell? a:=fun a ha=>Xu (ar.block _ ha)
 have bv:=fun (j:Nat)=>Jt ad j
 have a9:ad.block<w.heap.size:=by have:=World.block_lt_of_cell? w _ o;rwa [Jt] at this
 have hH:(w1.alloc (.cells ac 283)).heap[w1.heap.size]? = some (.cells ac 283 (0,0)):=heap_alloc_new w1 _;obtain ⟨f,p⟩:∃ f,Nat.min 1 c=f:=⟨_,rfl⟩;have q:f<=1/\f<=c/\(0<c->0<f):=by rw [<- p];simp only [Nat.min_def];split <;> omega
 obtain ⟨w2,ay,bg,bl⟩:=Q3g (P:=Tryz.prog) (w1.alloc (.cells ac 283)) 239 239 3 283 w1.heap.size 0 c c 2 ad 1 cap ac 283 (Ma b d f) f Tryz.underlying239 a5 hH p (UN _ _ _)
  (fun j v hj=>by
   have l:=(QjX.1 hj).1;rw [UN] at l;rw [a2 _ (by rw [Jt];exact a9)];have hm:f=1:=by omega
   subst hm;obtain rfl | rfl:j=0\/j=1:=by omega
   ·simp [Ma] at hj;rw [<- hj];exact o
   ·simp [Ma] at hj;rw [<- hj];exact r)
  (by rw [UN];omega) (fun v hv=>by rcases Q0A hv with rfl | rfl <;> assumption)
 have ba:=bl w.heap.size hB.size w ar;have au:=hB.size;generalize bm:w1.heap.size=H at *
 go_wp2
 go_loopw [8] (fun i wr=>∃ (m:Nat) (cu:Array Value),i = .int .i64 (m:Int)/\m<=c/\(0<c->0<m)/\wr.heap[H]? = some (.cells cu 283 (0,0))/\cu.size=c*2/\cu.toList.take (m*2)=Ma b d m/\Below w.heap.size w wr)
  (fun i _=>c-(intOf i).toNat)
 case atStart=>
  refine ⟨f,_,rfl,q.2.1,q.2.2,bg,?_,?_,ba⟩
  ·simp only [List.size_toArray];rw [length_splice _ _ _ (by rw [UN];simp;omega)];simpa using bb
  ·simp only [splice,List.take_zero,List.nil_append];rw [List.take_append_of_le_length (by rw [UN];exact Qk2 _),Qk9 (by rw [UN];exact Qk2 _)]
 case round=>
  obtain ⟨m,cu,rfl,bq,bk,aj,ao,aq,hF⟩:=hrel;clear a7 ay;by_cases x:m<c
  ·have az:((m:Int)<(c:Int)):=by omega
   have hp:0<m:=bk (by omega);obtain ⟨k,hk⟩:∃ k,Nat.min m (c-m)=k:=⟨_,rfl⟩;have n:k<=m/\m+k<=c/\0<k:=by rw [<- hk];simp only [Nat.min_def];split <;> omega
   have e1:(if c=m then (some ⟨H,0,none⟩:Option Addr) else (some (⟨H,0,none⟩:Addr)).map (·.add (m*2)))=some ⟨H,m*2,none⟩:=by
    rw [if_neg (by omega)];simp [H3]
   have a3:∀ (j:Nat) (v:Value),(Ma b d k)[j]? = some v->wr.drew.cell? ((⟨H,0,none⟩:Addr).add j)=some v:=by
    intro j v hj;have l:=(QjX.1 hj).1;rw [UN] at l;rw [H3,Qke];show wr.cell? _=_;rw [cell_of_row wr H j cu 283 (0,0) aj,<- Qkc];have e:(cu.toList.take (m*2))[j]? = some v:=by
     rw [aq];have e2:=Q8o b d n.1;rw [<- e2,List.getElem?_take,if_pos l] at hj;exact hj
    rw [List.getElem?_take] at e;split at e
    ·exact e
    ·cases e
   have an:m*2+(Ma b d k).length<=cu.size:=by rw [UN];omega
   have aw:∀ v∈Ma b d k,v.oneCell'=true:=fun v hv=>by rcases Q0A hv with rfl | rfl <;> assumption
   have a4:wr.drew.heap[H]? = some (.cells cu 283 (0,0)):=aj;have bi:IntKind.i64.wrap ((m:Int)+(k:Int))=((m+k:Nat):Int):=by rw [IntKind.wrap_i64];omega
   go_wp2
   refine Code.wp_mono ?_ (Tryz.repeat_r9 _ _ _ _ _ _ _ _ _ _ _ _ _ _ _ _ _ _ _ _ _ _ _ _ _ _ _ _ _ _ _ _ _ _ _ _ _ _ _ _ _ _ _ _ _ _ b d H c m k cu wr x az hk aj (by omega) (by omega) a3 an aw bi);rintro e act w3 h;cases e with
   |normal=>
    obtain ⟨_,_,_,_,_,_,_,_,_,rfl,a8,bh⟩:=h
    go_wp2
    refine ⟨⟨m+k,_,by rw [Int.natCast_add],n.2.1,fun _=>Qk1 hp (Nat.le_add_right m k),a8,?_,?_,bh _ au w hF⟩,?_⟩
    ·simp only [List.size_toArray];rw [length_splice _ _ _ (by simpa using an)];simpa using ao
    ·exact Q6D aq
    ·exact QdM n.2.1 n.2.2
   |_=>exact h.elim
  ·have y:m=c:=by omega
   subst y
   go_wp2
   refine bodyPost_ret (results_tmp rfl _ _ _) rfl ?_;refine ⟨H,cu,rfl,au,aj,ao,?_,hF⟩;rw [<- aq,Qk9 (by simpa using Nat.le_of_eq ao)]
theorem Qbb {S:Nat->Prop} {w:World} {v:Value} {x:D} (h:Rd S w v x):v.oneCell'=true:=by cases h <;> rfl
theorem Q9r {S:Nat->Prop} {w:World} {H c:Nat} {ac:Array Value} {a d:Value} {f g:D} (k:Rd S w a f) (l:Rd S w d g) (hH:w.heap[H]? = some (.cells ac 283 (0,0))) (aj:ac.toList=Ma a d c) :
  Rd (fun b=>S b\/b=H) w (.slice (some ⟨H,0,none⟩) c c) (.sl 2 (List.replicate c [f,g])):=by
 have e:=Rd.sl (S:=fun b=>S b\/b=H) (w:=w) ⟨H,0,none⟩ c 2 (List.replicate c [f,g]) (fun i j=>if j=0 then a else d) (.inr rfl) (by simp) (fun i r hr=>?_) (fun i j r x hr hx=>?_) (fun i j r x hr hx=>?_)
 ·simpa using e
 ·obtain ⟨_,rfl⟩:=Qk7.1 (QjU hr);rfl
 ·have hi:i<c:=by have:=(QjX.1 hr).1;simpa using this
  obtain ⟨_,rfl⟩:=Qk7.1 (QjU hr);have hj:=(QjX.1 hx).1;simp at hj;rw [H3,Qke,cell_of_row w H _ ac 283 (0,0) hH,<- Qkc,aj];have:=Q8W a d c i hi;obtain rfl | rfl:j=0\/j=1:=by omega
  ·simpa using this.1
  ·simpa using this.2
 ·obtain ⟨_,rfl⟩:=Qk7.1 (QjU hr);have hj:=(QjX.1 hx).1;simp at hj;obtain rfl | rfl:j=0\/j=1:=by omega
  ·simp at hx;subst hx;simpa using k.mono (fun _ h=>.inl h) (fun _ _=>rfl)
  ·simp at hx;subst hx;simpa using l.mono (fun _ h=>.inl h) (fun _ _=>rfl)
theorem Q1f (n:Nat) (a0:LL) (a1:Int) (res:LL) {hl:Nat->Option Ob} (h:Qd n a0 a1 some=some res):Zh Tryz.prog 256 [.d (D.sl 2 a0),.d (D.int .i64 a1)] hl ⟨.d (D.sl 2 res),[],[]⟩:=by
 unfold Qd at h;obtain ⟨hc,h⟩:=XB h;simp only [Qk4,decide_eq_true_eq] at hc;obtain ⟨⟨e1,hp⟩,hq⟩:=hc;have e1:=Nat.eq_of_beq_eq_true e1;injection h with h
 obtain ⟨c,rfl⟩:=Int.eq_ofNat_of_zero_le hp
 match a0,e1 with
 |[row],_=>
  subst h;refine Si (fn:=Tryz.f256) (by kernel_rfl) (by kernel_rfl) (by kernel_rfl) rfl rfl fun S w args hS hA=>?_
  obtain ⟨hl,hA⟩:=hA
  match args,hl with
  |[j,k],_=>
   have a:=hA 0 _ _ rfl rfl;have i:=Q4B (hA 1 _ _ rfl rfl);subst i;cases a with
   |dang _ _ _ hl=>cases hl
   |d _ _ a=>
    cases a with
    |sl ad cap _ _ cf az aw aq ac an=>
     have ak:=aq 0 row rfl
     match row,ak with
     |[l,m],_=>
      have k0:=ac 0 0 _ _ rfl rfl;have k1:=ac 0 1 _ _ rfl rfl;have f:=an 0 0 _ _ rfl rfl;have g:=an 0 1 _ _ rfl rfl;refine (Tryz.repeat_calls w ad cap c (cf 0 0) (cf 0 1) (by omega) k0 k1 (Qbb f) (Qbb g)).mono fun e w' ⟨H,a2,he,hH,aj,a3,ar,hB⟩=>?_
      have ay:H<w'.heap.size:=(Qka.1 aj).1;refine ⟨_,fun b=>S b\/b=H,he,fun b h=>.inl h,fun b h=>h.elim .inl fun e=>.inr (by omega),fun b h=>h.elim (fun h=>Qk1 (hS b h) hB.size) (fun e=>by omega),.d _ _ ?_,hB⟩;exact Q9r (Rd.mono (fun _ h=>h) (fun b hb=>hB.block b (hS b hb)) f) (Rd.mono (fun _ h=>h) (fun b hb=>hB.block b (hS b hb)) g) aj ar
end Go.Vx
namespace Go.Vx
open Go.Proofs
variable (n:Nat)
def X8 (n:Nat):TK:=fun _ _ g ac _ k=>match ac with
 | [c0,c1]=>prS g 2 c0 fun a0=>prI g .i64 c1 fun a1=>
  gb g (Qd n a0 a1 some) [] fun r=>k ⟨.d (D.sl 2 r),[],[]⟩
 | _=>none
theorem Wf (n:Nat):Ve Tryz.prog 256 (X8 n):=by
  intro R aj g ak hl k r h
  unfold X8 at h
  split at h
  rotate_left
  · cases h
  replace h:=WL h
  obtain ⟨a0,h,a⟩:=h
  replace h:=C8 h
  obtain ⟨a1,h,b⟩:=h
  replace h:=QM h
  obtain ⟨res,h,hr⟩:=h
  exact ⟨_,h,fun hg=>Zh.conv (avs':=[.d (D.sl 2 a0),.d (D.int .i64 a1)]) (.cons (a hg) (.cons (b hg) .nil)) (Q1f n a0 a1 res (hr hg))⟩
end Go.Vx
set_option maxRecDepth 100000
namespace Go.Vx
open Go.Proofs
variable (n:Nat)
def Mk:BZ9:=Xa [⟨171,Lr n⟩,⟨256,⟨X8 n,Wf n⟩⟩] [(5,⟨[],[],[(8,1008,283,2)],[],[]⟩)]
def BS:LZ9:=mkU (Mk n).ok nT 6 Tryz.f243 [(2,.ptr 2 0),(3,.ptr 3 0),(8,.arr 1008),(27,.l 2),(28,tI),(29,tI)] [(2,bT 27 []),(3,.box [.l 2,tI]),(1008,.arr 283 2)] 39631 [xE 0 [(30,.b)]] @ZZ n
def Q1G:EZ9 243:=mkD (Mk n).ok [BS n n] 243 Tryz.f243 0 @Sj n
def RK:BZ9:=Xa [⟨243,Q1G n⟩,⟨170,He n⟩,⟨229,Hz n⟩] []
def CQ:LZ9:=mkU (RK n).ok nT 7 Tryz.f218 [(3,.ptr 3 0),(5,.ptr 5 0),(6,.ptr 6 0),(8,.l 2),(9,tI),(29,.l 2),(30,tI),(31,tI)] [(3,bT 27 []),(5,bT 72 []),(6,.box [.nil,.ci .i64 0])] 61434 [.f .ret [(6,.ptr 6 0),(7,.ci .i64 12)] [(6,.box [.nil,.ci .i64 0])] [],xE 0 [(32,.b)]] @WA n
def Ml:EZ9 218:=mkD (RK n).ok [CQ n n] 218 Tryz.f218 0 @KY n
def N6:EZ9 183:=mkD (Xa [⟨218,Ml n⟩] []).ok nT 183 Tryz.f183 0 @G7 n
def DL:EZ9 175:=mkD (Xa [⟨177,R2 n⟩,⟨183,N6 n⟩,⟨179,RN n⟩,⟨178,MO n⟩] []).ok nT 175 Tryz.f175 0 @Jy n
def Gk:BZ9:=Xa [⟨167,TR n⟩,⟨172,YP n⟩,⟨174,Fl n⟩,⟨175,DL n⟩] []
def Fx:LZ9:=mkU (Gk n).ok nT 15 Tryz.f122 [(2,.ptr 2 0),(3,.ptr 3 0),(6,.ptr 6 0),(10,.l 4),(11,tI),(12,tI),(50,tI),(51,tI)] [(2,bT 27 []),(3,bT 36 []),(6,bT 83 [])] 5230176669 [.f .ret [(4,tI)] [] [0],xE 3 [(52,.b)]] @Zy n
def LE:LZ9:=mkU (Gk n).ok [Fx n n] 2 Tryz.f122 [(2,.ptr 2 0),(3,.ptr 3 0),(10,.l 4),(11,tI),(12,tI)] [(2,bT 27 []),(3,bT 36 [])] 7174462 [.f .ret [(4,tI)] [] [0],xE 0 [(13,.b)]] @Zx n
def Sa:EZ9 122:=mkD (Gk n).ok [LE n n] 122 Tryz.f122 0 @V1 n
end Go.Vx
namespace Go.Vx
open Go.Proofs Go.RowKit
theorem Q6S {S:Nat->Prop} {w:World} {v:Value} {x:D} (h:Rd S w v x):v.oneCell'=true:=by cases h <;> rfl
theorem RdLs.one {S:Nat->Prop} {w:World} {vs:List Value} {xs:List D} (h:RdLs S w vs xs):∀ x∈vs,x.oneCell'=true:=by
 induction h with
 |nil=>simp
 |cons h _ ih=>
  intro x hx;rcases List.mem_cons.1 hx with rfl | hx
  ·exact Q6S h
  ·exact ih x hx
theorem RdLs.len {S:Nat->Prop} {w:World} {vs:List Value} {xs:List D} (h:RdLs S w vs xs):vs.length=xs.length:=by
 induction h with
 |nil=>rfl
 |cons _ _ ih=>simp [ih]
theorem RdLs.keep {S:Nat->Prop} {w w':World} {m:Nat} {vs:List Value} {xs:List D} (h:RdLs S w vs xs) (hS:∀ b,S b->b<m) (hw:∀ b,b<m->w'.heap[b]? = w.heap[b]?):RdLs S w' vs xs:=by
 induction h with
 |nil=>exact .nil
 |cons h _ ih=>exact .cons (Rd.keep h hS hw) ih
def Hc (a b c d:LL):List D:=[D.sl 1 a,D.sl 1 b,D.sl 5 c,D.sl 6 d]
def KW (a:Int) (b c d e f g h:LL):List D:=[D.int .i64 a,D.sl 5 b,D.sl 2 c,D.sl 4 d,D.sl 7 e,D.sl 4 f,D.sl 5 g,D.sl 3 h]
theorem DV {n:Nat} {a c d f:LL} {g:Int} {i j k l m o p:LL} (h:UO n a c d f g i j k l m o p some=some 0) {S:Nat->Prop} {w:World} (hS:∀ b,S b->b<w.heap.size) {vs us:List Value} (q:RdLs S w vs (Hc a c d f)) (s:RdLs S w us (KW g i j k l m o p)) :
  Calls Tryz.prog 119 #[.agg vs.toArray,.agg us.toArray] w fun e w'=>e = .returned (.int .i64 0)/\Below w.heap.size w w':=by
 have he:(Pz n).E Dl 0 true [.ag ((Hc a c d f).map .d),.ag ((KW g i j k l m o p).map .d)] (fun _=>none) some=some ⟨.d (.int .i64 0),[],[]⟩:=by
  show gb true (UO n a c d f g i j k l m o p some) 0 (fun r=>(some ⟨.d (D.int .i64 r),[],[]⟩:Option Dl))=_;rw [h];rfl
 exact Gy (XR ((Pz n).ok) he) hS (Kn (RdLs.agg q) (RdLs.agg s))
theorem Ez {n:Nat} {a c d f:LL} {g:Int} {i j k l m o p:LL} (h:U2 n a c d f g i j k l m o p some=some 0) {S:Nat->Prop} {w:World} (hS:∀ b,S b->b<w.heap.size) {vs us:List Value} (q:RdLs S w vs (Hc a c d f)) (s:RdLs S w us (KW g i j k l m o p)) :
  Calls Tryz.prog 120 #[.agg vs.toArray,.agg us.toArray] w fun e w'=>e = .returned (.int .i64 0)/\Below w.heap.size w w':=by
 have he:(TV n).E Dl 0 true [.ag ((Hc a c d f).map .d),.ag ((KW g i j k l m o p).map .d)] (fun _=>none) some=some ⟨.d (.int .i64 0),[],[]⟩:=by
  show gb true (U2 n a c d f g i j k l m o p some) 0 (fun r=>(some ⟨.d (D.int .i64 r),[],[]⟩:Option Dl))=_;rw [h];rfl
 exact Gy (XR ((TV n).ok) he) hS (Kn (RdLs.agg q) (RdLs.agg s))
theorem EI {n:Nat} {a c d f:LL} {g:Int} {i j k l m o p:LL} (h:U0 n a c d f g i j k l m o p some=some 0) {S:Nat->Prop} {w:World} (hS:∀ b,S b->b<w.heap.size) {vs us:List Value} (q:RdLs S w vs (Hc a c d f)) (s:RdLs S w us (KW g i j k l m o p)) :
  Calls Tryz.prog 121 #[.agg vs.toArray,.agg us.toArray] w fun e w'=>e = .returned (.int .i64 0)/\Below w.heap.size w w':=by
 have he:(TZ n).E Dl 0 true [.ag ((Hc a c d f).map .d),.ag ((KW g i j k l m o p).map .d)] (fun _=>none) some=some ⟨.d (.int .i64 0),[],[]⟩:=by
  show gb true (U0 n a c d f g i j k l m o p some) 0 (fun r=>(some ⟨.d (D.int .i64 r),[],[]⟩:Option Dl))=_;rw [h];rfl
 exact Gy (XR ((TZ n).ok) he) hS (Kn (RdLs.agg q) (RdLs.agg s))
theorem DX {n:Nat} {a c d f:LL} {g:Int} {i j k l m o p:LL} (h:V1 n a c d f g i j k l m o p some=some 0) {S:Nat->Prop} {w:World} (hS:∀ b,S b->b<w.heap.size) {vs us:List Value} (q:RdLs S w vs (Hc a c d f)) (s:RdLs S w us (KW g i j k l m o p)) :
  Calls Tryz.prog 122 #[.agg vs.toArray,.agg us.toArray] w fun e w'=>e = .returned (.int .i64 0)/\Below w.heap.size w w':=by
 have he:(Sa n).E Dl 0 true [.ag ((Hc a c d f).map .d),.ag ((KW g i j k l m o p).map .d)] (fun _=>none) some=some ⟨.d (.int .i64 0),[],[]⟩:=by
  show gb true (V1 n a c d f g i j k l m o p some) 0 (fun r=>(some ⟨.d (D.int .i64 r),[],[]⟩:Option Dl))=_;rw [h];rfl
 exact Gy (XR ((Sa n).ok) he) hS (Kn (RdLs.agg q) (RdLs.agg s))
theorem Ly {n:Nat} {a c d f:LL} {g:Int} {i j k l m o p:LL} (h:Wn n a c d f g i j k l m o p some=some 0) {S:Nat->Prop} {w:World} (hS:∀ b,S b->b<w.heap.size) {vs us:List Value} (q:RdLs S w vs (Hc a c d f)) (s:RdLs S w us (KW g i j k l m o p)) :
  Calls Tryz.prog 123 #[.agg vs.toArray,.agg us.toArray] w fun e w'=>e = .returned (.int .i64 0)/\Below w.heap.size w w':=by
 have he:(Tq n).E Dl 0 true [.ag ((Hc a c d f).map .d),.ag ((KW g i j k l m o p).map .d)] (fun _=>none) some=some ⟨.d (.int .i64 0),[],[]⟩:=by
  show gb true (Wn n a c d f g i j k l m o p some) 0 (fun r=>(some ⟨.d (D.int .i64 r),[],[]⟩:Option Dl))=_;rw [h];rfl
 exact Gy (XR ((Tq n).ok) he) hS (Kn (RdLs.agg q) (RdLs.agg s))
theorem Dn {n:Nat} {a c d f:LL} {g:Int} {i j k l m o p:LL} (h:V0 n a c d f g i j k l m o p some=some 0) {S:Nat->Prop} {w:World} (hS:∀ b,S b->b<w.heap.size) {vs us:List Value} (q:RdLs S w vs (Hc a c d f)) (s:RdLs S w us (KW g i j k l m o p)) :
  Calls Tryz.prog 124 #[.agg vs.toArray,.agg us.toArray] w fun e w'=>e = .returned (.int .i64 0)/\Below w.heap.size w w':=by
 have he:(PN n).E Dl 0 true [.ag ((Hc a c d f).map .d),.ag ((KW g i j k l m o p).map .d)] (fun _=>none) some=some ⟨.d (.int .i64 0),[],[]⟩:=by
  show gb true (V0 n a c d f g i j k l m o p some) 0 (fun r=>(some ⟨.d (D.int .i64 r),[],[]⟩:Option Dl))=_;rw [h];rfl
 exact Gy (XR ((PN n).ok) he) hS (Kn (RdLs.agg q) (RdLs.agg s))
theorem Dj {n:Nat} {a c d f:LL} {g:Int} {i j k l m o p:LL} (h:US n a c d f g i j k l m o p some=some 0) {S:Nat->Prop} {w:World} (hS:∀ b,S b->b<w.heap.size) {vs us:List Value} (q:RdLs S w vs (Hc a c d f)) (s:RdLs S w us (KW g i j k l m o p)) :
  Calls Tryz.prog 125 #[.agg vs.toArray,.agg us.toArray] w fun e w'=>e = .returned (.int .i64 0)/\Below w.heap.size w w':=by
 have he:(PW n).E Dl 0 true [.ag ((Hc a c d f).map .d),.ag ((KW g i j k l m o p).map .d)] (fun _=>none) some=some ⟨.d (.int .i64 0),[],[]⟩:=by
  show gb true (US n a c d f g i j k l m o p some) 0 (fun r=>(some ⟨.d (D.int .i64 r),[],[]⟩:Option Dl))=_;rw [h];rfl
 exact Gy (XR ((PW n).ok) he) hS (Kn (RdLs.agg q) (RdLs.agg s))
theorem Fd {n:Nat} {a c d f:LL} {g:Int} {i j k l m o p:LL} (h:Wg n a c d f g i j k l m o p some=some 0) {S:Nat->Prop} {w:World} (hS:∀ b,S b->b<w.heap.size) {vs us:List Value} (q:RdLs S w vs (Hc a c d f)) (s:RdLs S w us (KW g i j k l m o p)) :
  Calls Tryz.prog 126 #[.agg vs.toArray,.agg us.toArray] w fun e w'=>e = .returned (.int .i64 0)/\Below w.heap.size w w':=by
 have he:(T7 n).E Dl 0 true [.ag ((Hc a c d f).map .d),.ag ((KW g i j k l m o p).map .d)] (fun _=>none) some=some ⟨.d (.int .i64 0),[],[]⟩:=by
  show gb true (Wg n a c d f g i j k l m o p some) 0 (fun r=>(some ⟨.d (D.int .i64 r),[],[]⟩:Option Dl))=_;rw [h];rfl
 exact Gy (XR ((T7 n).ok) he) hS (Kn (RdLs.agg q) (RdLs.agg s))
theorem Fo:∀ (n k:Nat),KI (fun _=>0) n k=0
 |0,_=>rfl
 |n+1,k=>by simp [KI,Fo n (k+1)]
theorem Q4s (n:Nat) (a c d f:LL) (g:Int) (i j l m o p q:LL) (res:Int) {hl:Nat->Option Ob} (h:J9 n a c d f g i j l m o p q some=some res):Zh Tryz.prog 67 [.ag [.d (D.sl 1 a),.d (D.sl 1 c),.d (D.sl 5 d),.d (D.sl 6 f)],.ag [.d (D.int .i64 g),.d (D.sl 5 i),.d (D.sl 2 j),.d (D.sl 4 l),.d (D.sl 7 m),.d (D.sl 4 o),.d (D.sl 5 p),.d (D.sl 3 q)]] hl ⟨.d (D.int .i64 res),[],[]⟩:=by
 obtain ⟨ao,h⟩:=XB h;injection h with h
 subst h;simp only [Q8C,Qk4] at ao;obtain ⟨⟨⟨⟨⟨⟨⟨k0,k1⟩,k2⟩,k3⟩,k4⟩,k5⟩,k6⟩,k7⟩:=ao;refine Si (fn:=Tryz.f67) (by kernel_rfl) (by kernel_rfl) (by kernel_rfl) rfl rfl fun S w args hS hA=>?_
 obtain ⟨v,u,rfl,hv,hu⟩:=Q5q hA;obtain ⟨vs,rfl,hr⟩:=Q3Q (xs:=Hc a c d f) hv;obtain ⟨us,rfl,hq⟩:=Q3Q (xs:=KW g i j l m o p q) hu;have am:=hr.len;have an:=hq.len
 match vs,us,am,an with
 |[r,s,t,y],[z,u1,u2,u3,u4,u5,u6,u7],_,_=>
  refine (Tryz.plancheck_calls w r s t y z u1 u2 u3 u4 u5 u6 u7 (fun _=>0) (fun k hk w' hs hw=>?_) (fun x hx=>?_)).mono fun e w' ⟨he,hB⟩=>?_
  ·have aj:∀ b,S b->b<w'.heap.size:=fun b hb=>Qk1 (hS b hb) hs
   have ac:=hr.keep hS hw;have ak:=hq.keep hS hw;obtain rfl | rfl | rfl | rfl | rfl | rfl | rfl | rfl:k=0\/k=1\/k=2\/k=3\/k=4\/k=5\/k=6\/k=7:=by omega
   ·exact DV (VO k0) aj ac ak
   ·exact Ez (VO k1) aj ac ak
   ·exact EI (VO k2) aj ac ak
   ·exact DX (VO k3) aj ac ak
   ·exact Ly (VO k4) aj ac ak
   ·exact Dn (VO k5) aj ac ak
   ·exact Dj (VO k6) aj ac ak
   ·exact Fd (VO k7) aj ac ak
  ·rcases List.mem_append.1 (show x∈[r,s,t,y]++[z,u1,u2,u3,u4,u5,u6,u7] from hx) with h | h
   ·exact hr.one x h
   ·exact hq.one x h
  ·rw [Fo] at he;exact ⟨_,S,he,fun b h=>h,fun b h=>.inl h,fun b h=>Qk1 (hS b h) hB.size,.d _ _ (.int _ _),hB⟩
end Go.Vx
namespace Go.Vx
open Go.Proofs
variable (n:Nat)
def TX (n:Nat):TK:=fun _ _ g aj _ k=>match aj with
 | [c0,c1]=>
  prG c0 fun l0=>(match l0 with
  | [a,b,c,d]=>prS g 1 a fun e=>prS g 1 b fun f=>prS g 5 c fun h=>prS g 6 d fun i=>
  prG c1 fun l1=>(match l1 with
  | [j,l,m,o,p,q,s,t]=>prI g .i64 j fun u=>prS g 5 l fun v=>prS g 2 m fun x=>prS g 4 o fun y=>prS g 7 p fun z=>prS g 4 q fun aa=>prS g 5 s fun ab=>prS g 3 t fun ac=>
  gb g (J9 n e f h i u v x y z aa ab ac some) 0 fun r=>k ⟨.d (D.int .i64 r),[],[]⟩
  | _=>none)
  | _=>none)
 | _=>none
theorem F8 (n:Nat):Ve Tryz.prog 67 (TX n):=by
  intro R ak g an hl k r h
  unfold TX at h
  split at h
  rotate_left
  · cases h
  replace h:=Q1g h
  obtain ⟨l0,h,q⟩:=h
  subst q
  split at h
  rotate_left
  · cases h
  replace h:=WL h
  obtain ⟨a,h,s⟩:=h
  replace h:=WL h
  obtain ⟨b,h,t⟩:=h
  replace h:=WL h
  obtain ⟨c,h,u⟩:=h
  replace h:=WL h
  obtain ⟨d,h,v⟩:=h
  replace h:=Q1g h
  obtain ⟨l1,h,e1⟩:=h
  subst e1
  split at h
  rotate_left
  · cases h
  replace h:=C8 h
  obtain ⟨e,h,x⟩:=h
  replace h:=WL h
  obtain ⟨f,h,y⟩:=h
  replace h:=WL h
  obtain ⟨i,h,z⟩:=h
  replace h:=WL h
  obtain ⟨j,h,aa⟩:=h
  replace h:=WL h
  obtain ⟨l,h,ab⟩:=h
  replace h:=WL h
  obtain ⟨m,h,ac⟩:=h
  replace h:=WL h
  obtain ⟨o,h,ad⟩:=h
  replace h:=WL h
  obtain ⟨p,h,ae⟩:=h
  replace h:=QM h
  obtain ⟨res,h,hr⟩:=h
  exact ⟨_,h,fun hg=>Zh.conv (avs':=[.ag [.d (D.sl 1 a),.d (D.sl 1 b),.d (D.sl 5 c),.d (D.sl 6 d)],.ag [.d (D.int .i64 e),.d (D.sl 5 f),.d (D.sl 2 i),.d (D.sl 4 j),.d (D.sl 7 l),.d (D.sl 4 m),.d (D.sl 5 o),.d (D.sl 3 p)]]) (.cons (.ag (.cons (s hg) (.cons (t hg) (.cons (u hg) (.cons (v hg) .nil))))) (.cons (.ag (.cons (x hg) (.cons (y hg) (.cons (z hg) (.cons (aa hg) (.cons (ab hg) (.cons (ac hg) (.cons (ad hg) (.cons (ae hg) .nil))))))))) .nil)) (Q4s n a b c d e f i j l m o p res (hr hg))⟩
end Go.Vx
set_option maxRecDepth 100000
namespace Go.Vx
open Go.Proofs
variable (n:Nat)
def PY:BZ9:=Xa [⟨218,Ml n⟩,⟨228,DP n⟩,⟨229,Hz n⟩,⟨197,Fz n⟩] [(7,⟨[],[],[(6,1006,3,1),(7,1007,3,1)],[],[]⟩)]
def Et:LZ9:=mkU (PY n).ok nT 8 Tryz.f196 [(3,.ptr 3 0),(5,.ptr 5 0),(6,.arr 1006),(7,.arr 1007),(11,.l 1),(13,.l 2),(14,tI),(38,.l 2),(39,tI),(40,tI)] [(3,bT 27 []),(5,bT 72 []),(1006,.arr 3 1),(1007,.arr 3 1)] 114975580 [xE 0 [(41,.b)]] @XP n
def Dy:EZ9 196:=mkD (PY n).ok [Et n n] 196 Tryz.f196 0 @KL n
def Q2r:EZ9 252:=mkD (Xa [⟨166,⟨Ju n,Tf n⟩⟩] []).ok nT 252 Tryz.f252 0 @NF n
def Me:BZ9:=Xa [⟨252,Q2r n⟩,⟨237,HW n⟩,⟨253,Ah n⟩] [(7,⟨[],[],[(6,1006,202,4)],[],[]⟩)]
def Az:LZ9:=mkU (Me n).ok nT 8 Tryz.f230 [(5,.ptr 5 0),(6,.arr 1006),(23,.l 6),(24,tI),(25,tI)] [(5,.box [tI,tI]),(1006,.arr 202 4)] 616 [xE 0 [(26,.b)]] @Wd n
def Q1o:EZ9 230:=mkD (Me n).ok [Az n n] 230 Tryz.f230 0 @MM n
def G0:BZ9:=Xa [⟨230,Q1o n⟩] []
def S5:LZ9:=mkU (G0 n).ok nT 2 Tryz.f201 [(5,.ptr 5 0),(11,.l 4),(12,tI),(13,tI)] [(5,.box [tI,tI])] 130 [.f .ret [(6,tI)] [] [0],xE 0 [(14,.b)]] @Zt n
def SH:EZ9 201:=mkD (G0 n).ok [S5 n n] 201 Tryz.f201 0 @Zk n
def Vc:BZ9:=Xa [⟨196,Dy n⟩,⟨197,Fz n⟩,⟨198,BH n⟩,⟨199,MV n⟩,⟨200,SC n⟩,⟨201,SH n⟩,⟨202,N5 n⟩] []
def SL:LZ9:=mkU (Vc n).ok nT 7 Tryz.f144 [(4,tI),(5,.ptr 5 0),(6,.ptr 6 0),(13,.l 1),(14,.l 1),(15,tI),(17,tI),(18,.arr 48),(19,tI)] [(5,bT 27 []),(6,.box [.l 2,tI]),(48,.arr 159 3)] 1063461 [xE 0 [(51,.b)]] @XI n
def SJ:LZ9:=mkU (Vc n).ok nT 14 Tryz.f144 [(5,.ptr 5 0),(6,.ptr 6 0),(15,tI),(17,tI),(18,.arr 84),(20,.ptr 20 0),(21,.arr 50095),(97,.l 2),(98,tI),(99,tI)] [(5,bT 27 []),(6,.box [.l 2,tI]),(20,.box [.ci .i64 0,tI,tI]),(84,.arr 159 3),(50095,.arr 159 3)] 13492776 [xE 2 [(100,.b)]] @Qj n
def GZ:EZ9 144:=mkD (Vc n).ok [SL n n,SJ n n] 144 Tryz.f144 0 @ZM n
def B7:EZ9 128:=mkD (Xa [⟨183,N6 n⟩,⟨144,GZ n⟩] []).ok nT 128 Tryz.f128 0 @ZV n
def Hi:BZ9:=Xa [⟨67,⟨TX n,F8 n⟩⟩,⟨127,BW n⟩,⟨128,B7 n⟩] [(5,⟨[],[],[(7,1007,93,1),(8,1008,3,1)],[],[]⟩)]
def DJ:LZ9:=mkU (Hi n).ok nT 9 Tryz.f69 [(2,.ptr 2 0),(3,.ptr 3 0),(7,.arr 1007),(8,.arr 1008),(9,tI),(10,.ptr 10 0),(23,.l 4),(24,tI),(25,tI),(31,.l 4),(32,tI),(33,tI)] [(2,bT 27 []),(3,bT 36 []),(10,.box [.x,.x,.x,.x]),(1007,.arr 93 1),(1008,.arr 3 1)] 788594406049 [.f .ret [(4,.nil),(5,.nil),(6,tI)] [] [0],xE 2 [(34,.b)]] @XZ n
def Dv:LZ9:=mkU (Hi n).ok [DJ n n] 6 Tryz.f69 [(2,.ptr 2 0),(3,.ptr 3 0),(7,.arr 1007),(8,.arr 1008),(23,.l 4),(24,tI),(25,tI)] [(2,bT 27 []),(3,bT 36 []),(1007,.arr 93 1),(1008,.arr 3 1)] 121965718 [.f .ret [(4,.nil),(5,.nil),(6,tI)] [] [0],xE 0 [(26,.b)]] @ZF n
def Bo:EZ9 69:=mkD (Hi n).ok [Dv n n] 69 Tryz.f69 0 @HN n
def Cq:EZ9 39:=mkD (Xa [⟨67,⟨TX n,F8 n⟩⟩,⟨68,KV n⟩,⟨69,Bo n⟩,⟨70,Hk n⟩,⟨71,Tz n⟩,⟨72,Kk n⟩,⟨73,GR n⟩] [(3,⟨[],[],[],[(20,12,2812,3,1),(20,13,2813,93,1),(20,14,2814,3,1),(20,15,2815,224,4),(20,17,2817,100,3),(20,18,2818,110,6)],[]⟩)]).ok nT 39 Tryz.f39 0 @GH n
def El:EZ9 81:=mkD (Xa [⟨144,GZ n⟩] []).ok nT 81 Tryz.f81 0 @VU n
def Yw:BZ9:=Xa [⟨79,TF n⟩,⟨80,VA n⟩,⟨81,El n⟩,⟨82,Jp n⟩,⟨83,VM n⟩] []
def HZ:LZ9:=mkU (Yw n).ok nT 17 Tryz.f43 [(3,.ptr 3 0),(5,.ptr 5 0),(7,.fn 80 [.ptr 3 0,.ptr 4 0,.ptr 6 0]),(8,tI),(9,tI),(10,tI),(11,.ptr 11 0),(12,tI),(14,.ptr 14 0),(16,tI),(46,.l 1),(47,tI),(48,tI),(77,.l 4),(78,tI),(79,tI),(128,.l 3),(129,tI),(130,tI)] [(3,.box [.ptr 1000000 0]),(4,.box [tI]),(5,.box [.l 1,.b]),(6,.box [tI]),(11,.box [.x,.x,.x,.x,.x]),(14,.box [.x,.x]),(98018,.arr 3 1),(98020,.arr 45 5),(1000000,bT 125 [(18,.arr 98018),(20,.arr 98020)])] 5083869477025 [xE 4 [(131,.b)]] @QJ n
def HS:LZ9:=mkU (Yw n).ok [HZ n n] 9 Tryz.f43 [(3,.ptr 3 0),(5,.ptr 5 0),(7,.fn 80 [.ptr 3 0,.ptr 4 0,.ptr 6 0]),(8,tI),(9,tI),(10,tI),(11,.ptr 11 0),(46,.l 1),(47,tI),(48,tI),(77,.l 4),(78,tI),(79,tI)] [(3,.box [.ptr 1000000 0]),(4,.box [tI]),(5,.box [.l 1,.b]),(6,.box [tI]),(11,.box [.x,.x,.x,.x,.x]),(98018,.arr 3 1),(98020,.arr 45 5),(1000000,bT 125 [(18,.arr 98018),(20,.arr 98020)])] 2019825192481251836 [xE 2 [(80,.b)]] @Qn n
def HF:LZ9:=mkU (Yw n).ok [HS n n] 5 Tryz.f43 [(3,.ptr 3 0),(5,.ptr 5 0),(7,.fn 80 [.ptr 3 0,.ptr 4 0,.ptr 6 0]),(8,tI),(46,.l 1),(47,tI),(48,tI)] [(3,.box [.ptr 1000000 0]),(4,.box [tI]),(5,.box [.l 1,.b]),(6,.box [tI]),(98018,.arr 3 1),(98020,.arr 45 5),(1000000,bT 125 [(18,.arr 98018),(20,.arr 98020)])] 34205931341042 [xE 0 [(49,.b)]] @Xp n
def Te:EZ9 43:=mkW (Yw n).ok [HF n n] 43 Tryz.f43 (pT 1000000 125 [(18,eR 1000001 3 1),(20,eR 1000002 45 5)] [sI,eA [qL 1,qB]]) [eT 0] [] 11792 1048575 @Zc n
def Ko:BZ9:=Xa [⟨39,Cq n⟩,⟨40,A0 n⟩,⟨41,PS n⟩,⟨42,N4 n⟩,⟨43,Te n⟩] [(8,⟨[],[],[],[(39,18,1408,3,1)],[]⟩),(15,⟨[],[],[],[(39,20,503920,45,5)],[]⟩)]
def FU:LZ9:=mkU (Ko n).ok nT 9 Tryz.f16 [(5,.ptr 5 0),(12,.ptr 39 0),(13,tI),(41,.l 4),(42,tI),(43,tI)] [(5,bT 36 []),(39,bT 125 [(18,.arr 1408),(19,.ci .i64 0),(20,.nil)]),(1408,.arr 3 1)] 411782264189366 [xE 0 [(44,.b)]] @XO n
def E5:LZ9:=mkU (Ko n).ok nT 16 Tryz.f16 [(12,.ptr 39 0),(68,.l 2),(69,tI),(70,tI)] [(39,bT 125 [(18,.arr 1408),(20,.arr 503920)]),(1408,.arr 3 1),(503920,.arr 45 5)] 235307989435 [xE 2 [(71,.b)]] @Xv n
def DM:EZ9 16:=mkD (Ko n).ok [FU n n,E5 n n] 16 Tryz.f16 0 @UC n
def DB:EZ9 7:=mkD (Xa [⟨16,DM n⟩] []).ok nT 7 Tryz.f7 0 @P8 n
def law19_OccupancyTrainIsSomewhere_VB:BZ9:=Xa [⟨5,Ac n⟩,⟨6,Q1j n⟩,⟨7,DB n⟩,⟨8,BC n⟩] []
def law19_OccupancyTrainIsSomewhere_l1:LZ9:=mkU (law19_OccupancyTrainIsSomewhere_VB n).ok nT 10 Tryz.f3 [(1,tI),(2,tI),(7,.ptr 7 0),(11,.l 5),(13,tI),(14,tI),(15,.b),(52,tI),(53,tI)] [(7,bT 27 [])] 64864 [xE 0 [(54,.b)]] @Qk n
def law19_OccupancyTrainIsSomewhere_l2:LZ9:=mkU (law19_OccupancyTrainIsSomewhere_VB n).ok nT 20 Tryz.f3 [(1,tI),(11,.l 5),(17,tI),(113,tI),(114,tI)] [] 202 [.f .ret [(6,.b)] [] [0],xE 2 [(115,.b)]] @QN n
end Go.Vx
