/- Part of a proof. No conditions of their own. -/
import Derived.Test.YtfgfecgjcggccaaGreatTF
import Derived.Test.YtfgfecgjcggccaaGreatTD
import Derived.Test.YtfgfecgjcggccaaGreatProg
import Derived.Test.YtfgfecgjcggccaaGreatTC
import Derived.Test.YtfgfecgjcggccaaGreatTE
set_option linter.unusedVariables false
set_option linter.unusedSimpArgs false
abbrev QdS:=@Option.bind_eq_some_iff
abbrev QdT:=@Bool.and_eq_true
namespace Go.Vx
open Go.Proofs Go.RowKit
theorem Q3e {S:Nat->Prop} {w:World} {v:Value} {x:D} (h:Rd S w v x):v.oneCell'=true:=by cases h <;> rfl
theorem RdLs.one {S:Nat->Prop} {w:World} {vs:List Value} {xs:List D} (h:RdLs S w vs xs):∀ x∈vs,x.oneCell'=true:=by
 induction h with
 |nil=>simp
 |cons h _ ih=>
  intro x hx;rcases List.mem_cons.1 hx with rfl | hx
  ·exact Q3e h
  ·exact ih x hx
theorem RdLs.len {S:Nat->Prop} {w:World} {vs:List Value} {xs:List D} (h:RdLs S w vs xs):vs.length=xs.length:=by
 induction h with
 |nil=>rfl
 |cons _ _ ih=>simp [ih]
theorem RdLs.keep {S:Nat->Prop} {w w':World} {m:Nat} {vs:List Value} {xs:List D} (h:RdLs S w vs xs) (hS:∀ b,S b->b<m) (hw:∀ b,b<m->w'.heap[b]? = w.heap[b]?):RdLs S w' vs xs:=by
 induction h with
 |nil=>exact .nil
 |cons h _ ih=>exact .cons (Rd.keep h hS hw) ih
def JX (a b c d:LL):List D:=[D.sl 1 a,D.sl 1 b,D.sl 5 c,D.sl 6 d]
def JO (a:Int) (b c d e f g h:LL):List D:=[D.int .i64 a,D.sl 5 b,D.sl 2 c,D.sl 4 d,D.sl 7 e,D.sl 4 f,D.sl 5 g,D.sl 3 h]
theorem F1 {n:Nat} {a c d f:LL} {g:Int} {i j k l m o p:LL} (h:Wt n a c d f g i j k l m o p some=some 0) {S:Nat->Prop} {w:World} (hS:∀ b,S b->b<w.heap.size) {vs us:List Value} (q:RdLs S w vs (JX a c d f)) (s:RdLs S w us (JO g i j k l m o p)) :
  Calls Tryz.prog 51 #[.agg vs.toArray,.agg us.toArray] w fun e w'=>e = .returned (.int .i64 0)/\Below w.heap.size w w':=by
 have he:(H3 n).E Dl 0 true [.ag ((JX a c d f).map .d),.ag ((JO g i j k l m o p).map .d)] (fun _=>none) some=some ⟨.d (.int .i64 0),[],[]⟩:=by
  show gb true (Wt n a c d f g i j k l m o p some) 0 (fun r=>(some ⟨.d (D.int .i64 r),[],[]⟩:Option Dl))=_;rw [h];rfl
 exact VO (XM ((H3 n).ok) he) hS (G6 (RdLs.agg q) (RdLs.agg s))
theorem Mu {n:Nat} {a c d f:LL} {g:Int} {i j k l m o p:LL} (h:ZP n a c d f g i j k l m o p some=some 0) {S:Nat->Prop} {w:World} (hS:∀ b,S b->b<w.heap.size) {vs us:List Value} (q:RdLs S w vs (JX a c d f)) (s:RdLs S w us (JO g i j k l m o p)) :
  Calls Tryz.prog 52 #[.agg vs.toArray,.agg us.toArray] w fun e w'=>e = .returned (.int .i64 0)/\Below w.heap.size w w':=by
 have he:(Kr n).E Dl 0 true [.ag ((JX a c d f).map .d),.ag ((JO g i j k l m o p).map .d)] (fun _=>none) some=some ⟨.d (.int .i64 0),[],[]⟩:=by
  show gb true (ZP n a c d f g i j k l m o p some) 0 (fun r=>(some ⟨.d (D.int .i64 r),[],[]⟩:Option Dl))=_;rw [h];rfl
 exact VO (XM ((Kr n).ok) he) hS (G6 (RdLs.agg q) (RdLs.agg s))
theorem Mz {n:Nat} {a c d f:LL} {g:Int} {i j k l m o p:LL} (h:ZN n a c d f g i j k l m o p some=some 0) {S:Nat->Prop} {w:World} (hS:∀ b,S b->b<w.heap.size) {vs us:List Value} (q:RdLs S w vs (JX a c d f)) (s:RdLs S w us (JO g i j k l m o p)) :
  Calls Tryz.prog 53 #[.agg vs.toArray,.agg us.toArray] w fun e w'=>e = .returned (.int .i64 0)/\Below w.heap.size w w':=by
 have he:(Kw n).E Dl 0 true [.ag ((JX a c d f).map .d),.ag ((JO g i j k l m o p).map .d)] (fun _=>none) some=some ⟨.d (.int .i64 0),[],[]⟩:=by
  show gb true (ZN n a c d f g i j k l m o p some) 0 (fun r=>(some ⟨.d (D.int .i64 r),[],[]⟩:Option Dl))=_;rw [h];rfl
 exact VO (XM ((Kw n).ok) he) hS (G6 (RdLs.agg q) (RdLs.agg s))
theorem F3 {n:Nat} {a c d f:LL} {g:Int} {i j k l m o p:LL} (h:WI n a c d f g i j k l m o p some=some 0) {S:Nat->Prop} {w:World} (hS:∀ b,S b->b<w.heap.size) {vs us:List Value} (q:RdLs S w vs (JX a c d f)) (s:RdLs S w us (JO g i j k l m o p)) :
  Calls Tryz.prog 54 #[.agg vs.toArray,.agg us.toArray] w fun e w'=>e = .returned (.int .i64 0)/\Below w.heap.size w w':=by
 have he:(Hz n).E Dl 0 true [.ag ((JX a c d f).map .d),.ag ((JO g i j k l m o p).map .d)] (fun _=>none) some=some ⟨.d (.int .i64 0),[],[]⟩:=by
  show gb true (WI n a c d f g i j k l m o p some) 0 (fun r=>(some ⟨.d (D.int .i64 r),[],[]⟩:Option Dl))=_;rw [h];rfl
 exact VO (XM ((Hz n).ok) he) hS (G6 (RdLs.agg q) (RdLs.agg s))
theorem RN {n:Nat} {a c d f:LL} {g:Int} {i j k l m o p:LL} (h:Zo n a c d f g i j k l m o p some=some 0) {S:Nat->Prop} {w:World} (hS:∀ b,S b->b<w.heap.size) {vs us:List Value} (q:RdLs S w vs (JX a c d f)) (s:RdLs S w us (JO g i j k l m o p)) :
  Calls Tryz.prog 55 #[.agg vs.toArray,.agg us.toArray] w fun e w'=>e = .returned (.int .i64 0)/\Below w.heap.size w w':=by
 have he:(GW n).E Dl 0 true [.ag ((JX a c d f).map .d),.ag ((JO g i j k l m o p).map .d)] (fun _=>none) some=some ⟨.d (.int .i64 0),[],[]⟩:=by
  show gb true (Zo n a c d f g i j k l m o p some) 0 (fun r=>(some ⟨.d (D.int .i64 r),[],[]⟩:Option Dl))=_;rw [h];rfl
 exact VO (XM ((GW n).ok) he) hS (G6 (RdLs.agg q) (RdLs.agg s))
theorem Lk {n:Nat} {a c d f:LL} {g:Int} {i j k l m o p:LL} (h:WH n a c d f g i j k l m o p some=some 0) {S:Nat->Prop} {w:World} (hS:∀ b,S b->b<w.heap.size) {vs us:List Value} (q:RdLs S w vs (JX a c d f)) (s:RdLs S w us (JO g i j k l m o p)) :
  Calls Tryz.prog 56 #[.agg vs.toArray,.agg us.toArray] w fun e w'=>e = .returned (.int .i64 0)/\Below w.heap.size w w':=by
 have he:(Hh n).E Dl 0 true [.ag ((JX a c d f).map .d),.ag ((JO g i j k l m o p).map .d)] (fun _=>none) some=some ⟨.d (.int .i64 0),[],[]⟩:=by
  show gb true (WH n a c d f g i j k l m o p some) 0 (fun r=>(some ⟨.d (D.int .i64 r),[],[]⟩:Option Dl))=_;rw [h];rfl
 exact VO (XM ((Hh n).ok) he) hS (G6 (RdLs.agg q) (RdLs.agg s))
theorem Le {n:Nat} {a c d f:LL} {g:Int} {i j k l m o p:LL} (h:Wz n a c d f g i j k l m o p some=some 0) {S:Nat->Prop} {w:World} (hS:∀ b,S b->b<w.heap.size) {vs us:List Value} (q:RdLs S w vs (JX a c d f)) (s:RdLs S w us (JO g i j k l m o p)) :
  Calls Tryz.prog 57 #[.agg vs.toArray,.agg us.toArray] w fun e w'=>e = .returned (.int .i64 0)/\Below w.heap.size w w':=by
 have he:(Hq n).E Dl 0 true [.ag ((JX a c d f).map .d),.ag ((JO g i j k l m o p).map .d)] (fun _=>none) some=some ⟨.d (.int .i64 0),[],[]⟩:=by
  show gb true (Wz n a c d f g i j k l m o p some) 0 (fun r=>(some ⟨.d (D.int .i64 r),[],[]⟩:Option Dl))=_;rw [h];rfl
 exact VO (XM ((Hq n).ok) he) hS (G6 (RdLs.agg q) (RdLs.agg s))
theorem Nk {n:Nat} {a c d f:LL} {g:Int} {i j k l m o p:LL} (h:Zh n a c d f g i j k l m o p some=some 0) {S:Nat->Prop} {w:World} (hS:∀ b,S b->b<w.heap.size) {vs us:List Value} (q:RdLs S w vs (JX a c d f)) (s:RdLs S w us (JO g i j k l m o p)) :
  Calls Tryz.prog 58 #[.agg vs.toArray,.agg us.toArray] w fun e w'=>e = .returned (.int .i64 0)/\Below w.heap.size w w':=by
 have he:(GN n).E Dl 0 true [.ag ((JX a c d f).map .d),.ag ((JO g i j k l m o p).map .d)] (fun _=>none) some=some ⟨.d (.int .i64 0),[],[]⟩:=by
  show gb true (Zh n a c d f g i j k l m o p some) 0 (fun r=>(some ⟨.d (D.int .i64 r),[],[]⟩:Option Dl))=_;rw [h];rfl
 exact VO (XM ((GN n).ok) he) hS (G6 (RdLs.agg q) (RdLs.agg s))
theorem Nr:∀ (n k:Nat),JA (fun _=>0) n k=0
 |0,_=>rfl
 |n+1,k=>by simp [JA,Nr n (k+1)]
theorem Q1a (n:Nat) (a c d f:LL) (g:Int) (i j l m o p q:LL) (res:Int) {hl:Nat->Option Ob} (h:UC n a c d f g i j l m o p q some=some res):Z9 Tryz.prog 25 [.ag [.d (D.sl 1 a),.d (D.sl 1 c),.d (D.sl 5 d),.d (D.sl 6 f)],.ag [.d (D.int .i64 g),.d (D.sl 5 i),.d (D.sl 2 j),.d (D.sl 4 l),.d (D.sl 7 m),.d (D.sl 4 o),.d (D.sl 5 p),.d (D.sl 3 q)]] hl ⟨.d (D.int .i64 res),[],[]⟩:=by
 obtain ⟨aq,h⟩:=QW h;injection h with h
 subst h;simp only [Q4C,QdT] at aq;obtain ⟨⟨⟨⟨⟨⟨⟨k0,k1⟩,k2⟩,k3⟩,k4⟩,k5⟩,k6⟩,k7⟩:=aq;refine SQ (fn:=Tryz.f25) (by kernel_rfl) (by kernel_rfl) (by kernel_rfl) rfl rfl fun S w args hS hA=>?_
 obtain ⟨v,u,rfl,hv,hu⟩:=Q5B hA;obtain ⟨vs,rfl,hr⟩:=Q0E (xs:=JX a c d f) hv;obtain ⟨us,rfl,hq⟩:=Q0E (xs:=JO g i j l m o p q) hu;have ao:=hr.len;have ap:=hq.len
 match vs,us,ao,ap with
 |[r,s,t,y],[z,u1,u2,u3,u4,u5,u6,u7],_,_=>
  refine (Tryz.plancheck_calls w r s t y z u1 u2 u3 u4 u5 u6 u7 (fun _=>0) (fun k hk w' hs hw=>?_) (fun x hx=>?_)).mono fun e w' ⟨he,hB⟩=>?_
  ·have am:∀ b,S b->b<w'.heap.size:=fun b hb=>Nat.lt_of_lt_of_le (hS b hb) hs
   have ak:=hr.keep hS hw;have an:=hq.keep hS hw;obtain rfl | rfl | rfl | rfl | rfl | rfl | rfl | rfl:k=0\/k=1\/k=2\/k=3\/k=4\/k=5\/k=6\/k=7:=by omega
   ·exact F1 (Uo k0) am ak an
   ·exact Mu (Uo k1) am ak an
   ·exact Mz (Uo k2) am ak an
   ·exact F3 (Uo k3) am ak an
   ·exact RN (Uo k4) am ak an
   ·exact Lk (Uo k5) am ak an
   ·exact Le (Uo k6) am ak an
   ·exact Nk (Uo k7) am ak an
  ·rcases List.mem_append.1 (show x∈[r,s,t,y]++[z,u1,u2,u3,u4,u5,u6,u7] from hx) with h | h
   ·exact hr.one x h
   ·exact hq.one x h
  ·rw [Nr] at he;exact ⟨_,S,he,fun b h=>h,fun b h=>.inl h,fun b h=>Nat.lt_of_lt_of_le (hS b h) hB.size,.d _ _ (.int _ _),hB⟩
end Go.Vx
namespace Go.Vx
open Go.Proofs
def Ku (n:Nat):GC:=fun _ _ g ak _ k=>match ak with
 | [c0,c1]=>
  prG c0 fun l0=>(match l0 with
  | [a,b,c,d]=>prS g 1 a fun e=>prS g 1 b fun f=>prS g 5 c fun h=>prS g 6 d fun i=>
  prG c1 fun l1=>(match l1 with
  | [j,l,m,o,p,q,s,t]=>prI g .i64 j fun u=>prS g 5 l fun v=>prS g 2 m fun x=>prS g 4 o fun y=>prS g 7 p fun z=>prS g 4 q fun aa=>prS g 5 s fun ab=>prS g 3 t fun ac=>
  gb g (UC n e f h i u v x y z aa ab ac some) 0 fun r=>k ⟨.d (D.int .i64 r),[],[]⟩
  | _=>none)
  | _=>none)
 | _=>none
theorem Nh (n:Nat):Ul Tryz.prog 25 (Ku n):=by
  intro R am g an hl k r h
  unfold Ku at h
  split at h
  rotate_left
  · cases h
  replace h:=B5 h
  obtain ⟨l0,h,q⟩:=h
  subst q
  split at h
  rotate_left
  · cases h
  replace h:=W0 h
  obtain ⟨a,h,s⟩:=h
  replace h:=W0 h
  obtain ⟨b,h,t⟩:=h
  replace h:=W0 h
  obtain ⟨c,h,u⟩:=h
  replace h:=W0 h
  obtain ⟨d,h,v⟩:=h
  replace h:=B5 h
  obtain ⟨l1,h,e1⟩:=h
  subst e1
  split at h
  rotate_left
  · cases h
  replace h:=VA h
  obtain ⟨e,h,x⟩:=h
  replace h:=W0 h
  obtain ⟨f,h,y⟩:=h
  replace h:=W0 h
  obtain ⟨i,h,z⟩:=h
  replace h:=W0 h
  obtain ⟨j,h,aa⟩:=h
  replace h:=W0 h
  obtain ⟨l,h,ab⟩:=h
  replace h:=W0 h
  obtain ⟨m,h,ac⟩:=h
  replace h:=W0 h
  obtain ⟨o,h,ad⟩:=h
  replace h:=W0 h
  obtain ⟨p,h,ae⟩:=h
  replace h:=Qu h
  obtain ⟨res,h,hr⟩:=h
  exact ⟨_,h,fun hg=>Z9.conv (avs':=[.ag [.d (D.sl 1 a),.d (D.sl 1 b),.d (D.sl 5 c),.d (D.sl 6 d)],.ag [.d (D.int .i64 e),.d (D.sl 5 f),.d (D.sl 2 i),.d (D.sl 4 j),.d (D.sl 7 l),.d (D.sl 4 m),.d (D.sl 5 o),.d (D.sl 3 p)]]) (.cons (.ag (.cons (s hg) (.cons (t hg) (.cons (u hg) (.cons (v hg) .nil))))) (.cons (.ag (.cons (x hg) (.cons (y hg) (.cons (z hg) (.cons (aa hg) (.cons (ab hg) (.cons (ac hg) (.cons (ad hg) (.cons (ae hg) .nil))))))))) .nil)) (Q1a n a b c d e f i j l m o p res (hr hg))⟩
end Go.Vx
set_option maxRecDepth 100000
namespace Go.Vx
open Go.Proofs
noncomputable def Ys (n:Nat):VB:=Xa [] [(0,⟨[0,9,10,11],(zp (rg1 1000000 7 []) (1000000::rg1 98012 4 [98017,98018])),[],[],[]⟩),cO 1 (0::rg1 9 4 []) (rg1 98012 4 [98017,98018,1000000]),cO 2 [0,2,3,9,10,11] (3::rg1 98012 4 [98017,98018,1000000]),(3,⟨[0,2,3,9,10,11],(zp (3::29::rg1 98013 3 [98017,98018,1000000]) (3::rg1 98012 4 [98017,98018,1000000])),[],[],[]⟩),cO 4 [0,2,9,10,11,34,35] (rg1 98012 4 [98017,98018,1000000]),cO 5 [0,2,9,10,11,34,35,36] (rg1 98012 4 [98017,98018,1000000]),cO 6 [0,2,4,9,10,11,34,35] (rg1 98012 4 [98017,98018,1000000]),(7,⟨[0,2,9,10,11,34,35],(zp (51::rg1 98012 4 [98018,1000000]) (98017::rg1 98012 4 [98018,1000000])),[],[],[]⟩),cO 8 [0,2,9,10,11,34,35] (rg1 98012 4 [98017,98018,1000000]),cO 9 [0,9,10,11] (rg1 98012 4 [98017,98018,1000000]),cO 3000000001 [0,9,10,11] (rg1 98012 4 [98017,98018,1000000])]
noncomputable def Jb (n:Nat) (m:Nat):LpE Tryz.prog:=mkL (Ys n).ok nT 5 (cA [1,2,2,1,1,0,2,1,1,1,2,2] (Q6 Tryz.f26)) ⟨57,[(0,.ptr 1000000 0),(2,tI),(9,.l 4),(10,tI),(11,tI),(34,tI),(35,tI)],[(98012,.arr 3 1),(98013,.arr 62 1),(98014,.arr 3 1),(98015,.arr 139 4),(98017,.arr 54 3),(98018,.arr 52 6),(1000000,.box [.l 1,.l 1,.l 5,.l 6,tI,.l 5,.l 2,.l 4,.l 7,.l 4,.l 5,.l 3,.arr 98012,.arr 98013,.arr 98014,.arr 98015,tI,.arr 98017,.arr 98018])]⟩ [yI,yL,yI,yI,yI,yI,yL,yL,yL,yL,yL,yL,yL,yL,yL,yL,yI,yL,yL,yL,yL,yL,yL,yL,yI] (fun m R k (c:Int) (e:LL) (f g d a:Int) (h i j l b o p q r s:LL) (t:Int) (u v x y z aa ab:LL) (ac:Int)=>QV n c d (fun a ad b=>k (.exit 2) ⟨57,[(0,.ptr 1000000 0),(2,dI c),(9,dL 4 e),(10,dI f),(11,dI g),(34,dI d),(35,dI a),(36,dB ad)],[(98012,.arr 3 1 h),(98013,.arr 62 1 i),(98014,.arr 3 1 j),(98015,.arr 139 4 l),(98017,.arr 54 3 b),(98018,.arr 52 6 o),(1000000,.box [dL 1 p,dL 1 q,dL 5 r,dL 6 s,dI t,dL 5 u,dL 2 v,dL 4 x,dL 7 y,dL 4 z,dL 5 aa,dL 3 ab,.arr 98012,.arr 98013,.arr 98014,.arr 98015,dI ac,.arr 98017,.arr 98018])]⟩) m a b) m
noncomputable def Jk (n:Nat) (m:Nat):LpE Tryz.prog:=mkL (Ys n).ok [Jb n n] 1 (cA [1,2,2] (Q6 Tryz.f26)) ⟨57,[(0,.ptr 1000000 0),(9,.l 4),(10,tI),(11,tI)],[(98012,.arr 3 1),(98013,.arr 62 1),(98014,.arr 3 1),(98015,.arr 139 4),(98017,.arr 54 3),(98018,.arr 52 6),(1000000,.box [.l 1,.l 1,.l 5,.l 6,tI,.l 5,.l 2,.l 4,.l 7,.l 4,.l 5,.l 3,.arr 98012,.arr 98013,.arr 98014,.arr 98015,tI,.arr 98017,.arr 98018])]⟩ [yL,yI,yI,yL,yL,yL,yL,yL,yL,yL,yL,yL,yL,yI,yL,yL,yL,yL,yL,yL,yL,yI] (fun m R k d h2 a b e f g c h i j l o p q r s t u v x y=>QI n d h2 (fun a z b c=>k (.exit 0) ⟨57,[(0,.ptr 1000000 0),(9,dL 4 d),(10,dI h2),(11,dI a),(12,dB z)],[(98012,.arr 3 1 b),(98013,.arr 62 1 e),(98014,.arr 3 1 f),(98015,.arr 139 4 g),(98017,.arr 54 3 c),(98018,.arr 52 6 h),(1000000,.box [dL 1 i,dL 1 j,dL 5 l,dL 6 o,dI p,dL 5 q,dL 2 r,dL 4 s,dL 7 t,dL 4 u,dL 5 v,dL 3 x,.arr 98012,.arr 98013,.arr 98014,.arr 98015,dI y,.arr 98017,.arr 98018])]⟩) m a b c) m
noncomputable def WL (n:Nat):EnP Tryz.prog 26:=mkG (Ys n).ok [Jk n n] 26 Tryz.f26 [eP 1000000 19,sL 1,sL 1,sL 5,sL 6,sI,sL 5,sL 2,sL 4,sL 7,sL 4,sL 5,sL 3,eR 1000001 3 1,eR 1000002 62 1,eR 1000003 3 1,eR 1000004 139 4,sI,eR 1000005 54 3,eR 1000006 52 6] [eT 0,eI 1000000 19,sL 1,sL 1,sL 5,sL 6,sI,sL 5,sL 2,sL 4,sL 7,sL 4,sL 5,sL 3,eR 98012 3 1,eR 98013 62 1,eR 98014 3 1,eR 98015 139 4,sI,eR 98017 54 3,eR 98018 52 6,eG 1000001,eG 1000002,eG 1000003,eG 1000004,eG 1000005,eG 1000006] [98012,98013,98014,98015,98017,98018] (pK (XZ n))
noncomputable def Pr (n:Nat):VB:=Xa [] [cO 0 [1,2] [2],cK 1 [1,8,9,10],cK 2 [1,8,9,10,11],cO 3 [1,6,8,9,10] [6],cO 4 [1,6,8,9,10,17] [6],cK 5 [4],cK 6 [1,8,9,10],cK 7 [4]]
noncomputable def Ek (n:Nat) (m:Nat):LpE Tryz.prog:=mkL (Pr n).ok nT 2 (cA [1,0,1,2,2] (Q6 Tryz.f59)) ⟨22,[(1,tI),(8,.l 4),(9,tI),(10,tI)],[]⟩ [yI,yL,yI,yI] (fun m R k b h2 c a=>WE n b h2 c (fun d=>k .ret ⟨22,[(4,dI d)],[]⟩) (fun a e=>k (.exit 0) ⟨22,[(1,dI b),(8,dL 4 h2),(9,dI c),(10,dI a),(11,dB e)],[]⟩) m a) m
noncomputable def Sw (n:Nat):EnP Tryz.prog 59:=mkE (Pr n).ok [Ek n n] 59 Tryz.f59 [[0]] [eA [qI,qL 5,qL 2,qL 4,qL 7,qL 4,qL 5,qL 3],sI] [sI] (pK (JG n))

noncomputable def Gi (n:Nat):VB:=Xa [⟨98,JY n⟩] [cO 0 [0,1,5] [5],cK 1 [0,1,9],cK 2 [6],cK 3 [0,1,13],cK 4 [6],cK 5 [0,1,17,18,19],cK 6 [0,1,17,18,19,20],cO 7 [0,1,8,17,18,19] [8],cK 8 [0,1,17,18,19,40],cK 9 [6],cK 10 [0,1,17,18,19],cK 11 [50],cK 12 [6],cK 13 [6]]
noncomputable def Sj (n:Nat) (m:Nat):LpE Tryz.prog:=mkL (Gi n).ok nT 6 (cA [1,1,0,1,2,2] (Q6 Tryz.f192)) ⟨51,[(0,.l 2),(1,tI),(17,.l 2),(18,tI),(19,tI)],[]⟩ [yL,yI,yL,yI,yI] (fun m R k h2 d b c a=>Yb n b c (k .ret ⟨51,[(6,dI (4:Int))],[]⟩) (fun a e=>k (.exit 1) ⟨51,[(0,dL 2 h2),(1,dI d),(17,dL 2 b),(18,dI c),(19,dI a),(20,dB e)],[]⟩) m a) m
noncomputable def Ri (n:Nat):EnP Tryz.prog 192:=mkE (Gi n).ok [Sj n n] 192 Tryz.f192 [[0]] [sL 2,sI,eA [qT,qI,qI,qI,qI]] [sI] (pK (UB n))

noncomputable def Hx (n:Nat):VB:=Xa [] [cO 0 [0,1,5] [5],cO 1 [0,1,5,7] [5],cK 2 [7,20,21,22],cK 3 (7::rg1 20 4 []),cO 4 [7,9,20,21,22] [9],cK 5 [7,20,21,22],cK 6 [7,20,21,22],cK 7 [6]]
noncomputable def Ml (n:Nat) (m:Nat):LpE Tryz.prog:=mkL (Hx n).ok nT 3 (cA [1,1,0,1,2,2] (Q6 Tryz.f200)) ⟨32,[(7,tI),(20,.l 2),(21,tI),(22,tI)],[]⟩ [yI,yL,yI,yI] (fun m R k h2 b c a=>Zq n b c (fun h2 a d=>k (.exit 0) ⟨32,[(7,dI h2),(20,dL 2 b),(21,dI c),(22,dI a),(23,dB d)],[]⟩) m h2 a) m
noncomputable def Ll (n:Nat):EnP Tryz.prog 200:=mkE (Hx n).ok [Ml n n] 200 Tryz.f200 [[0]] [sL 2,sI,eA [qT,qI,qI,qI,qI]] [sI] (pK (UV n))

noncomputable def Lq (n:Nat):VB:=Xa [] [cO 0 [2,3] [2,3],cO 1 [2,3,5] [2,3],cO 2 [2,3,5,10] [2,3],cK 3 [5],cK 4 [4]]
noncomputable def Et (n:Nat):EnP Tryz.prog 201:=mkE (Lq n).ok nT 201 Tryz.f201 [[0]] [eA [qI,qI],eA [qT,qI,qI,qI,qI]] [sI] (pK (Gv n))

noncomputable def Lx (n:Nat):VB:=Xa [] [cO 0 [2,3] [2,3],cO 1 [2,3,5] [2,3],cO 2 [2,3,5,10] [2,3],cK 3 [5],cK 4 [4]]
noncomputable def El (n:Nat):EnP Tryz.prog 202:=mkE (Lx n).ok nT 202 Tryz.f202 [[0]] [eA [qI,qI],eA [qT,qI,qI,qI,qI]] [sI] (pK (Gj n))

noncomputable def V3 (n:Nat):VB:=Xa [⟨200,Ll n⟩,⟨201,Et n⟩,⟨202,El n⟩] [cO 0 [0,1,5] [5],cO 1 [0,1,5,7] [5],cO 2 [0,1,5,7,8] [5,20],cO 3 [0,1,5,7,8,9] [5,20],cO 4 [0,1,5,7,8,9,10] [5,20],cO 5 [0,1,5,7,8,9,10,29] [5,20],cO 6 [0,1,5,7,8,9,10] [5,20],cO 7 [0,1,5,7,8,9,10,11] [5,20],cO 8 [0,1,5,7,8,10,11,12] [5,20],cO 9 [0,1,5,7,8,10,11] [5,20],cO 10 [0,1,5,7,8,9,10] [5,20],cO 11 [0,1,5,8,13] [5,20],cO 12 [0,1,5,8,13,68] [5,20],cO 13 [0,1,5,8,13] [5,20],cO 14 [0,1,5,8,13] [5,20],cO 15 [6] [20]]
noncomputable def R1 (n:Nat) (m:Nat):LpE Tryz.prog:=mkL (V3 n).ok nT 5 (cA [1,1,1,1,0,1,2,2] (Q6 Tryz.f193)) ⟨98,[(0,.l 2),(1,tI),(5,.ptr 5 0),(7,tI),(8,.arr 20),(9,tI),(10,tI)],[(5,.box [.t,tI,tI,tI,tI]),(20,.arr 3 1)]⟩ [yL,yI,yI,yI,yI,yT,yI,yI,yI,yI,yL] (fun m R k d e f a b g h i j l c=>XU n d e f g h i j l (fun a b o c=>k (.exit 0) ⟨98,[(0,dL 2 d),(1,dI e),(5,.ptr 5 0),(7,dI f),(8,.arr 20),(9,dI a),(10,dI b),(29,dB o)],[(5,.box [dT g,dI h,dI i,dI j,dI l]),(20,.arr 3 1 c)]⟩) m a b c) m
noncomputable def Rj (n:Nat) (m:Nat):LpE Tryz.prog:=mkL (V3 n).ok nT 12 (cA [1,1,1,1,1,0,1,2,2] (Q6 Tryz.f193)) ⟨98,[(0,.l 2),(1,tI),(5,.ptr 5 0),(8,.arr 20),(13,tI)],[(5,.box [.t,tI,tI,tI,tI]),(20,.arr 3 1)]⟩ [yL,yI,yI,yT,yI,yI,yI,yI,yL] (fun m R k c d a e f g h i b=>Yt n c d e f g h i (fun a j b=>k (.exit 2) ⟨98,[(0,dL 2 c),(1,dI d),(5,.ptr 5 0),(8,.arr 20),(13,dI a),(68,dB j)],[(5,.box [dT e,dI f,dI g,dI h,dI i]),(20,.arr 3 1 b)]⟩) m a b) m
noncomputable def N6 (n:Nat):EnP Tryz.prog 193:=mkG (V3 n).ok [R1 n n,Rj n n] 193 Tryz.f193 [sL 2,sI,eA [qT,qI,qI,qI,qI]] [eR 20 3 1] [20] (pK (UZ n))

noncomputable def Nb (n:Nat):VB:=Xa [] [cK 0 [0],cK 1 [0,3],cK 2 [0,3,4],cK 3 [0,3,4,7],cK 4 [0,3,4],cK 5 [0,3,4,5],cK 6 [0,3,4,5,17],cK 7 [0,3,4],cK 8 [2]]
noncomputable def CV (n:Nat) (m:Nat):LpE Tryz.prog:=mkL (Nb n).ok nT 3 (cA [1,1,0,1,2,2] (Q6 Tryz.f194)) ⟨20,[(0,tI),(3,tI),(4,tI)],[]⟩ [yI,yI,yI] (fun m R k b h2 a=>WZ n b (fun h2 a c=>k (.exit 0) ⟨20,[(0,dI b),(3,dI h2),(4,dI a),(7,dB c)],[]⟩) m h2 a) m
noncomputable def AD (n:Nat):EnP Tryz.prog 194:=mkE (Nb n).ok [CV n n] 194 Tryz.f194 [[0]] [sI] [sI] (pK (Hd n))

noncomputable def Kv (n:Nat):VB:=Xa [⟨192,Ri n⟩,⟨193,N6 n⟩,⟨194,AD n⟩] [cO 0 [0,1,5] [5],cO 1 [0,1,5,8] [5],cO 2 [0,1,5,8,17] [5],cK 3 [6,7],cO 4 [9] [50022],cO 5 [9,23,24,25] [50022],cO 6 (9::rg1 23 4 []) [50022],cO 7 [9,10,11,23,24,25] [50022],cO 8 [9,23,24,25] [50022],cO 9 [9,23,24,25] [50022],cO 10 [6,7] [50022]]
noncomputable def Nm (n:Nat) (m:Nat):LpE Tryz.prog:=mkL (Kv n).ok nT 6 (cA [1,1,1,0,1,2,2] (Q6 Tryz.f184)) ⟨37,[(9,.arr 50022),(23,.arr 50022),(24,tI),(25,tI)],[(50022,.arr 3 1)]⟩ [yI,yI,yL] (fun m R k c a b=>YW n c (fun a d b=>k (.exit 0) ⟨37,[(9,.arr 50022),(23,.arr 50022),(24,dI c),(25,dI a),(26,dB d)],[(50022,.arr 3 1 b)]⟩) m a b) m
noncomputable def ME (n:Nat):EnP Tryz.prog 184:=mkE (Kv n).ok [Nm n n] 184 Tryz.f184 [[1],[0]] [sL 2,sI,eA [qT,qI,qI,qI,qI]] [eT 2,sL 1,sI] (pK (Vq n))

noncomputable def LM (n:Nat):VB:=Xa [] [cK 0 [0,1],cK 1 [0,1,8],cK 2 [4,5],cK 3 [0,1,6],cK 4 [6,15],cK 5 [6],cK 6 [4,5]]
noncomputable def PM (n:Nat):EnP Tryz.prog 167:=mkE (LM n).ok nT 167 Tryz.f167 [[0],[0]] [sI,sI] [eT 2,sI,sI] (pK (VU n))

noncomputable def Hn (n:Nat):VB:=Xa [⟨184,ME n⟩,⟨167,PM n⟩] [cO 0 [0,1,5] [5],cK 1 [8,9],cK 2 [8,9,22],cK 3 [6,7],cO 4 [8,10] [26],cO 5 [8,10,11] [26],cO 6 [8,10,11,30] [26],cO 7 [8,10,11] [26],cO 8 [8,10,11,12] [26],cO 9 [8,10,11] [26],cO 10 [6,7] [26]]
noncomputable def NT (n:Nat) (m:Nat):LpE Tryz.prog:=mkL (Hn n).ok nT 6 (cA [1,1,1,1,0,1,2,2] (Q6 Tryz.f166)) ⟨58,[(8,.l 1),(10,.arr 26),(11,tI)],[(26,.arr 3 1)]⟩ [yL,yI,yL] (fun m R k c a b=>Zu n c (fun a d b=>k (.exit 0) ⟨58,[(8,dL 1 c),(10,.arr 26),(11,dI a),(30,dB d)],[(26,.arr 3 1 b)]⟩) m a b) m
noncomputable def LW (n:Nat):EnP Tryz.prog 166:=mkE (Hn n).ok [NT n n] 166 Tryz.f166 [[1],[0]] [sL 2,sI,eA [qT,qI,qI,qI,qI]] [eT 2,sL 1,sI] (pK (UO n))

noncomputable def Dj (n:Nat):VB:=Xa [⟨167,PM n⟩] [cK 0 [0],cK 1 [3],cK 2 [2]]
noncomputable def Td (n:Nat):EnP Tryz.prog 140:=mkE (Dj n).ok nT 140 Tryz.f140 [[0]] [sI] [sI] (pK (V1 n))

noncomputable def Hr (n:Nat):VB:=Xa [⟨138,SE n⟩,⟨166,LW n⟩,⟨165,Gh n⟩,⟨140,Td n⟩] [cO 0 (rg1 3 5 []) [3,4,5],cO 1 (rg1 3 5 [9,10]) [3,4,5,10],cO 2 (rg1 3 5 [9,10,25]) [3,4,5,10],cK 3 [6,7,8,9],cO 4 (rg1 3 5 [11]) [3,4,5],cO 5 [3,5,6,7,11,13] [3,5],cO 6 [3,5,6,7,11,13,14] [3,5],(7,⟨[3,5,6,7,11,13,14,38,39,40],[(3,3),(5,5)],[(6,1006,3,1),(7,1007,3,1)],[],[]⟩),cO 8 [3,5,6,7,11,13,14,38,39,40,41] [3,5,1006,1007],cO 9 [3,5,6,7,11,13,14,15,16,38,39,40] [3,5,16,1006,1007],cO 10 [3,5,6,7,11,13,14,15,16,38,39,40] [3,5,16,51,1007],cO 11 [3,5,6,7,11,13,14,15,16,38,39,40,53] [3,5,16,51,1007],cO 12 [3,5,6,7,11,13,14,15,38,39,40] [3,5,51,1007],cO 13 [3,5,6,7,11,13,14,38,39,40,67] [3,5,51,1007],cO 14 [3,5,6,7,11,13,14,38,39,40] [3,5,51,77],cO 15 [3,5,6,7,11,13,14,38,39,40] [3,5,51,77,1007],cO 16 [6,7,11,14] [85,1006],cO 17 [6,7,8,9] [85,1006],(3000000008,⟨[3,5,6,7,11,13,14,38,39,40],(zp [3,5,51,1006,77,1007] [3,5,1006,1006,1007,1007]),[],[],[]⟩)]
noncomputable def Mn (n:Nat) (m:Nat):LpE Tryz.prog:=mkL (Hr n).ok nT 8 (cA [1,1,1,1,1,1,0,1,2,2] (Q6 Tryz.f139)) ⟨93,[(3,.ptr 3 0),(5,.ptr 5 0),(6,.arr 1006),(7,.arr 1007),(11,.l 1),(13,.l 2),(14,tI),(38,.l 2),(39,tI),(40,tI)],[(3,.box [.l 1,.l 1,.l 5,.l 6]),(5,.box [.t,tI,tI,tI,tI]),(1006,.arr 3 1),(1007,.arr 3 1)]⟩ [yL,yL,yI,yL,yI,yI,yL,yL,yL,yL,yT,yI,yI,yI,yI,yL,yL] (fun m R k e f a g h b l o i p q j r s t c d=>Xy n e f g h i j (fun a b u c d=>k (.exit 0) ⟨93,[(3,.ptr 3 0),(5,.ptr 5 0),(6,.arr 1006),(7,.arr 1007),(11,dL 1 e),(13,dL 2 f),(14,dI a),(38,dL 2 g),(39,dI h),(40,dI b),(41,dB u)],[(3,.box [dL 1 l,dL 1 o,dL 5 i,dL 6 p]),(5,.box [dT q,dI j,dI r,dI s,dI t]),(1006,.arr 3 1 c),(1007,.arr 3 1 d)]⟩) m a b c d) m
noncomputable def Ts (n:Nat):EnP Tryz.prog 139:=mkE (Hr n).ok [Mn n n] 139 Tryz.f139 [[1],[1],[0],[0]] [eA [qL 1,qL 1,qL 5,qL 6],eA [qL 2,qI],eA [qT,qI,qI,qI,qI]] [eT 4,sL 1,sL 1,sI,sI] (pK (JC n))

noncomputable def NS (n:Nat):VB:=Xa [] [cK 0 [0,1],cK 1 [0,1,8],cK 2 [4,5],cK 3 [0,1,6],cK 4 [6,15],cK 5 [6],cK 6 [4,5]]
noncomputable def LD (n:Nat):EnP Tryz.prog 168:=mkE (NS n).ok nT 168 Tryz.f168 [[0],[0]] [sI,sI] [eT 2,sI,sI] (pK (KF n))

noncomputable def LN (n:Nat):VB:=Xa [⟨168,LD n⟩] [cK 0 [0],cK 1 [3],cK 2 [2]]
noncomputable def PB (n:Nat):EnP Tryz.prog 141:=mkE (LN n).ok nT 141 Tryz.f141 [[0]] [sI] [sI] (pK (WT n))

noncomputable def Si (n:Nat):VB:=Xa [] [cO 0 [1] [1],cO 1 [2] [10]]
noncomputable def GY (n:Nat):EnP Tryz.prog 142:=mkG (Si n).ok nT 142 Tryz.f142 [eA [qL 1,qL 1,qL 5,qL 6]] [eR 10 142 3] [10] (pK (Ux n))

noncomputable def Vf (n:Nat):VB:=Xa [] [cO 0 [1,2,3,8] [1000000],cO 1 [1,2,3,8,20] [1000000],cO 2 [1,2,3,8] [1000000],cO 3 [] [1000000]]
def WC:AV->List (Nat × Ob)->Option (LL):=fun av H=>(look H 1000000).bind fun a=>match av,a with
 | .tup [],.arr p0 p1 b=>bif Nat.beq p0 142&&(Nat.beq p1 3) then some b else none
 | _,_=>none
theorem KV (n:Nat) (a:LL) (a1 a2 a3:Int):vfnT (Vf n).C nT Tryz.f143 [.arr 1000000,.d (D.int .i64 a1),.d (D.int .i64 a2),.d (D.int .i64 a3)] [(1000000,.arr 142 3 a)] WC=QT n a a1 a2 a3 some:=by kernel_rfl
def WX (n:Nat):GC:=fun _ am g ak hl k=>match ak with
 | [.gd _ _ .nil]=>bif g then none else k ⟨.nil,[],[]⟩
 | [c0,c1,b,c]=>prR hl 142 3 c0 fun l0 a=>prI g .i64 c1 fun a1=>prI g .i64 b fun a2=>prI g .i64 c fun a3=>
  bif Ho hl [(1000000,l0)] [] then gb g (QT n a a1 a2 a3 some) [] fun r=>gb g (K9 r (List.length a)) () fun _=>k ⟨.tup [],[(l0,some (.arr 142 3 r))],[l0]⟩ else none
 | _=>none
theorem Hk (n:Nat):Ul Tryz.prog 143 (WX n):=by
  intro R ao g ar hl k r h
  unfold WX at h
  split at h
  · exact Hm h
  rotate_left
  · cases h
  obtain ⟨l0,a,h,c,d⟩:=N2 h
  obtain ⟨a1,h,e⟩:=VA h
  obtain ⟨a2,h,f⟩:=VA h
  obtain ⟨a3,h,i⟩:=VA h
  obtain ⟨hc,h⟩:=QW h
  obtain ⟨res,h,hr⟩:=Qu h
  obtain ⟨_,h,ak⟩:=Qu h
  have hL:=h
  subst c
  refine ⟨_,hL,fun hg=>MA (K:=WC) (res:=res) (Vf n).ok nT (fn:=Tryz.f143) (ρ:=[(1000000,l0)]) (ν:=[]) (avs':=[.arr 1000000,.d (D.int .i64 a1),.d (D.int .i64 a2),.d (D.int .i64 a3)]) (H:=[(1000000,.arr 142 3 a)]) (.cons (.own rfl rfl) (.cons (.data rfl (e hg)) (.cons (.data rfl (f hg)) (.cons (.data rfl (i hg)) (.nil))))) hc (⟨⟨by decide,_,_,d,rfl,.arr _ _ _⟩,trivial⟩) ?_ ?_⟩
  · exact (KV n a a1 a2 a3).trans (hr hg)
  · intro av H' hx
    unfold WC at hx
    simp only [QdS] at hx
    obtain ⟨j,b,hx⟩:=hx
    split at hx
    rotate_left
    · cases hx
    replace hx:=QW hx
    obtain ⟨an,hx⟩:=hx
    simp only [QdT,Nat.beq_eq] at an
    obtain ⟨rfl,rfl⟩:=an
    injection hx with hx
    subst hx
    refine ⟨rfl,?_,trivial,⟨KY rfl b (GF (ak hg)),trivial⟩⟩
    simp only [List.cons_append,List.nil_append,KE,b,Option.map_some,Option.map_none]
    rfl

noncomputable def BW (n:Nat):VC:=⟨Gb [(94,UQ n)],gtt,[cO 0 [2,3] [2,3],cK 1 [4]]⟩
theorem CN (n:Nat):VCOk Tryz.prog (BW n):=gVC (U8 ⟨GP n,trivial⟩)
noncomputable def Ab (n:Nat):EnP Tryz.prog 185:=mkE (CN n) nT 185 Tryz.f185 [[0]] [eA [qL 1,qL 1,qL 5,qL 6],eA [qI,qI]] [sB] (pK (PS n))

noncomputable def E6 (n:Nat):VB:=Xa [] [cO 0 [1,2] [1,2],cO 1 [1,2,5] [1,2],cO 2 [2] [2],cO 3 [2] [2]]
noncomputable def Dh (n:Nat):EnP Tryz.prog 186:=mkE (E6 n).ok nT 186 Tryz.f186 [[0,0]] [eA [qI,qI]] [eA [qI,qI]] (pK (Pp n))

noncomputable def Sx (n:Nat):VB:=Xa [⟨185,Ab n⟩,⟨158,Gz n⟩,⟨186,Dh n⟩] [cO 0 [2,3] [2,3],cO 1 [2,3,14] [2,3],cK 2 [4],cO 3 [2,3,5] [2,3,5],cO 4 [2,5,20] [2,5],cO 5 [2,5] [2,5],cO 6 [2,5,6] [2,5],(7,⟨[5,6,23,24,25],[(5,5)],[(6,1006,169,4)],[],[]⟩),cO 8 [5,6,23,24,25,26] [5,1006],cO 9 [5,6,8,23,24,25] [5,8,1006],cO 10 [5,6,8,9,10,23,24,25] [5,8,9,10,1006],cO 11 [5,6,8,9,10,23,24,25,34] [5,8,9,10,1006],cO 12 [5,6,8,9,10,23,24,25,34,35] [5,8,9,10,1006],cO 13 [5,6,23,24,25] [5,47],cO 14 [5,6,8,9,23,24,25,48] [5,8,9,1006],cO 15 [5,6,23,24,25] [5,60],cO 16 [5,6,23,24,25] [5,47,60,1006],cO 17 [4] [1006],(3000000008,⟨[5,6,23,24,25],(zp [5,47,60,1006] [5,1006,1006,1006]),[],[],[]⟩)]
noncomputable def Ds (n:Nat) (m:Nat):LpE Tryz.prog:=mkL (Sx n).ok nT 8 (cA [1,1,1,1,1,0,1,2,2] (Q6 Tryz.f169)) ⟨63,[(5,.ptr 5 0),(6,.arr 1006),(23,.l 6),(24,tI),(25,tI)],[(5,.box [tI,tI]),(1006,.arr 169 4)]⟩ [yL,yI,yI,yI,yI,yL] (fun m R k c d a e f b=>Ze n c d e f (fun a g b=>k (.exit 0) ⟨63,[(5,.ptr 5 0),(6,.arr 1006),(23,dL 6 c),(24,dI d),(25,dI a),(26,dB g)],[(5,.box [dI e,dI f]),(1006,.arr 169 4 b)]⟩) m a b) m
noncomputable def Ba (n:Nat):EnP Tryz.prog 169:=mkE (Sx n).ok [Ds n n] 169 Tryz.f169 [[4]] [eA [qL 1,qL 1,qL 5,qL 6],eA [qI,qI]] [sL 4] (pK (R7 n))

noncomputable def Vj (n:Nat):VB:=Xa [⟨169,Ba n⟩] [cO 0 [3,4,5] [3,4,5],cO 1 [5,11,12,13] [5],cO 2 (5::rg1 11 4 []) [5],cO 3 [5,8,11,12,13] [5,8],cO 4 [5,8,11,12,13,20] [5,8],cK 5 [6],cO 6 [5,11,12,13] [5],cK 7 [6]]
noncomputable def Hw (n:Nat) (m:Nat):LpE Tryz.prog:=mkL (Vj n).ok nT 2 (cA [1,0,1,2,2] (Q6 Tryz.f144)) ⟨24,[(5,.ptr 5 0),(11,.l 4),(12,tI),(13,tI)],[(5,.box [tI,tI])]⟩ [yL,yI,yI,yI,yI] (fun m R k h2 b a c d=>YR n h2 b c d (fun e=>k .ret ⟨24,[(6,dI e)],[]⟩) (fun a f=>k (.exit 0) ⟨24,[(5,.ptr 5 0),(11,dL 4 h2),(12,dI b),(13,dI a),(14,dB f)],[(5,.box [dI c,dI d])]⟩) m a) m
noncomputable def VJ (n:Nat):EnP Tryz.prog 144:=mkE (Vj n).ok [Hw n n] 144 Tryz.f144 [[0]] [eA [qL 1,qL 1,qL 5,qL 6],eA [qI,qI],eA [qI,qI]] [sI] (pK (YJ n))

noncomputable def Ja (n:Nat):VB:=Xa [] [cK 0 [0],cK 1 [0,3],(2,⟨[3,6,7,8],[],[(3,1003,142,3)],[],[]⟩),cO 3 [3,6,7,8,9] [1003],cO 4 [3,5,6,7,8] [5,1003],cO 5 [3,5,6,7,8,16] [5,1003],cO 6 [3,6,7,8] [20],cO 7 [3,6,7,8] [20,1003],cO 8 [2] [1003],(3000000003,⟨[3,6,7,8],[(20,1003),(1003,1003)],[],[],[]⟩)]
noncomputable def TE (n:Nat) (m:Nat):LpE Tryz.prog:=mkL (Ja n).ok nT 3 (cA [1,1,0,1,2,2] (Q6 Tryz.f145)) ⟨23,[(3,.arr 1003),(6,.l 3),(7,tI),(8,tI)],[(1003,.arr 142 3)]⟩ [yL,yI,yI,yL] (fun m R k c h2 a b=>Xz n c h2 (fun a d b=>k (.exit 0) ⟨23,[(3,.arr 1003),(6,dL 3 c),(7,dI h2),(8,dI a),(9,dB d)],[(1003,.arr 142 3 b)]⟩) m a b) m
noncomputable def JN (n:Nat):EnP Tryz.prog 145:=mkG (Ja n).ok [TE n n] 145 Tryz.f145 [sL 3] [eR 1003 142 3] [1003] (pK (U1 n))

noncomputable def TC (n:Nat):VC:=⟨Gb [(139,(Ts n).E),(140,(Td n).E),(141,(PB n).E),(142,(GY n).E),(143,WX n),(144,(VJ n).E),(145,(JN n).E)],gtt,[cO 0 (rg1 3 5 []) [5,6,7],cO 1 (rg1 3 4 (rg1 13 4 [])) [5,6],cO 2 (rg1 3 4 (rg1 13 4 [35])) [5,6],cK 3 [10,11,12],cO 4 (rg1 3 4 [13,14,15,17]) [5,6],cO 5 [4,5,6,13,14,15,17,18] [5,6,48],cO 6 [4,5,6,13,14,15,17,18,19] [5,6,48],cO 7 [4,5,6,13,14,15,17,18,19,51] [5,6,48],cO 8 [4,5,6,13,14,15,17,18,19] [5,6,70],cO 9 [4,5,6,13,14,15,17,18,19] [5,6,70],cO 10 [5,6,13,15,17,18] [5,6,84],cO 11 [5,6,15,17,18,20] [5,6,20,84],cO 12 [5,6,15,17,18,20,21] [5,6,20,84,50095],cO 13 [5,6,15,17,18,20,21,97,98,99] [5,6,20,84,50095],cO 14 [5,6,15,17,18,20,21,97,98,99,100] [5,6,20,84,50095],cO 15 [5,6,15,17,18,20,21,22,23,97,98,99] [5,6,20,23,84,50095],cO 16 [5,6,15,17,18,20,21,22,23,97,98,99,106] [5,6,20,23,84,50095],cO 17 [5,6,15,17,18,20,21,22,23,97,98,99] [5,6,20,23,110,50095],cO 18 [5,6,15,17,18,20,21,22,23,97,98,99] [5,6,20,23,110,50095,84],cO 19 [5,6,15,17,18,20,21,22,23,97,98,99,126] [5,6,20,23,110,50095,84],cO 20 [5,6,15,17,18,20,21,22,24,97,98,99] [5,6,20,110,50095,84],cO 21 [5,6,15,17,18,20,21,97,98,99] [5,6,20,110,50095,84],cO 22 [5,6,15,17,18,20,21,22,24,97,98,99,147] [5,6,20,110,50095,84],cO 23 [5,6,15,17,18,20,21,22,24,97,98,99,150] [5,6,20,110,50095,84],cO 24 [5,6,15,17,18,20,21,97,98,99] [5,6,20,110,50095,84],cO 25 [5,6,15,17,18,20,21,97,98,99] [5,6,20,110,50095,84],cO 26 [10,11,12] [50174],(3000000007,⟨[4,5,6,13,14,15,17,18,19],(zp [5,6,48,70] [5,6,48,48]),[],[],[]⟩),(3000000014,⟨[5,6,15,17,18,20,21,97,98,99],(zp [5,6,20,84,110,50095] [5,6,20,84,84,50095]),[],[],[]⟩)]⟩
theorem WR (n:Nat):VCOk Tryz.prog (TC n):=gVC (U8 ⟨(Ts n).ok,⟨(Td n).ok,⟨(PB n).ok,⟨(GY n).ok,⟨Hk n,⟨(VJ n).ok,⟨(JN n).ok,trivial⟩⟩⟩⟩⟩⟩⟩)
noncomputable def T2 (n:Nat) (m:Nat):LpE Tryz.prog:=mkL (WR n) nT 7 (cA [1,1,1,1,1,0,1,2,2] (Q6 Tryz.f112)) ⟨176,[(4,tI),(5,.ptr 5 0),(6,.ptr 6 0),(13,.l 1),(14,.l 1),(15,tI),(17,tI),(18,.arr 48),(19,tI)],[(5,.box [.l 1,.l 1,.l 5,.l 6]),(6,.box [.l 2,tI]),(48,.arr 142 3)]⟩ [yI,yL,yL,yI,yI,yI,yL,yL,yL,yL,yL,yI,yL] (fun m R k f c d g e a h i j l o p b=>Xt n c d e (fun a q b=>k (.exit 0) ⟨176,[(4,dI f),(5,.ptr 5 0),(6,.ptr 6 0),(13,dL 1 c),(14,dL 1 d),(15,dI g),(17,dI e),(18,.arr 48),(19,dI a),(51,dB q)],[(5,.box [dL 1 h,dL 1 i,dL 5 j,dL 6 l]),(6,.box [dL 2 o,dI p]),(48,.arr 142 3 b)]⟩) m a b) m
noncomputable def HZ (n:Nat) (m:Nat):LpE Tryz.prog:=mkL (WR n) nT 14 (cA [1,1,1,1,1,1,1,1,1,0,1,2,2] (Q6 Tryz.f112)) ⟨176,[(5,.ptr 5 0),(6,.ptr 6 0),(15,tI),(17,tI),(18,.arr 84),(20,.ptr 20 0),(21,.arr 50095),(97,.l 2),(98,tI),(99,tI)],[(5,.box [.l 1,.l 1,.l 5,.l 6]),(6,.box [.l 2,tI]),(20,.box [.ci .i64 0,tI,tI]),(84,.arr 142 3),(50095,.arr 142 3)]⟩ [yI,yI,yL,yI,yI,yL,yL,yL,yL,yL,yI,yI,yI,yL,yL] (fun m R k q d e f a g h i j l r o p b c=>Qg n d e f g h i j l o p (fun a s b c=>k (.exit 2) ⟨176,[(5,.ptr 5 0),(6,.ptr 6 0),(15,dI q),(17,dI d),(18,.arr 84),(20,.ptr 20 0),(21,.arr 50095),(97,dL 2 e),(98,dI f),(99,dI a),(100,dB s)],[(5,.box [dL 1 g,dL 1 h,dL 5 i,dL 6 j]),(6,.box [dL 2 l,dI r]),(20,.box [dI (0:Int),dI o,dI p]),(84,.arr 142 3 b),(50095,.arr 142 3 c)]⟩) m a b c) m
noncomputable def TK (n:Nat):EnP Tryz.prog 112:=mkE (WR n) [T2 n n,HZ n n] 112 Tryz.f112 [[3],[0],[0]] [eA [qL 1,qL 1,qL 5,qL 6],eA [qL 2,qI],eA [qT,qI,qI,qI,qI],sI,sI] [eT 3,sL 3,sI,sI] (pK (UH n))

noncomputable def Lm (n:Nat):VB:=Xa [⟨111,Pg n⟩,⟨112,TK n⟩] [cO 0 (rg1 3 5 []) [5,6,7],cO 1 (rg1 3 5 [13]) [5,6,7],cO 2 (rg1 3 5 [13,19]) [5,6,7],cK 3 [10,11,12],cO 4 (rg1 3 5 [34]) [5,6,7],cK 5 [10,11,12],cK 6 [10,11,12]]
noncomputable def Po (n:Nat):EnP Tryz.prog 60:=mkE (Lm n).ok nT 60 Tryz.f60 [[3],[0],[0]] [eA [qL 1,qL 1,qL 5,qL 6],eA [qL 2,qI],eA [qT,qI,qI,qI,qI],sI,sI] [eT 3,sL 3,sI,sI] (pK (Wc n))

noncomputable def Ep (n:Nat):VC:=⟨Gb [(25,Ku n),(59,(Sw n).E),(60,(Po n).E)],gtt,[cO 0 [2,3] [2,3],cO 1 [2,3,21] [2,3],cK 2 [4,5,6],cO 3 [2,3,7] [2,3],cO 4 [2,3,7,8] [2,3],(5,⟨[2,3,7,8,23,24,25],[(2,2),(3,3)],[(7,1007,62,1),(8,1008,3,1)],[],[]⟩),cO 6 [2,3,7,8,23,24,25,26] [2,3,1007,1008],cO 7 [2,3,7,8,9,10,23,24,25] [2,3,10,1007,1008],cO 8 [2,3,7,8,9,10,23,24,25,31,32,33] [2,3,10,1007,1008],cO 9 [2,3,7,8,9,10,23,24,25,31,32,33,34] [2,3,10,1007,1008],cO 10 (2::3::rg1 7 6 [23,24,25,31,32,33]) [2,3,10,12,1007,1008],cO 11 (2::3::rg1 7 8 [23,24,25,31,32,33]) [2,3,10,12,1007,1008],cO 12 (2::3::rg1 7 8 [23,24,25,31,32,33,44]) [2,3,10,12,1007,1008],cO 13 (2::3::rg1 7 8 [23,24,25,31,32,33]) [2,3,10,12,1007,1008],cO 14 [2,3,7,8,9,10,12,13,14,23,24,25,31,32,33,50] [2,3,10,12,1007,1008],cO 15 [2,3,7,8,9,10,12,13,14,23,24,25,31,32,33] [2,3,10,12,1007,1008],cO 16 [2,3,7,8,9,10,15,16,17,23,24,25,31,32,33] [2,3,10,1007,1008],cO 17 [2,3,7,8,9,10,15,16,17,23,24,25,31,32,33,78] [2,3,10,1007,1008],cK 18 [4,5,6],cO 19 [2,3,7,8,9,10,16,23,24,25,31,32,33] [2,3,10,83,1008],cO 20 [2,3,7,8,9,10,23,24,25,31,32,33] [2,3,10,83,87],cO 21 [2,3,7,8,9,10,23,24,25,31,32,33] [2,3,10,83,87],cO 22 [2,3,7,8,23,24,25] [2,3,1007,1008],cO 23 [4,5,6] [1007,1008],cO 3000000006 [2,3,7,8,23,24,25] [2,3,1007,1008],(3000000009,⟨[2,3,7,8,9,10,23,24,25,31,32,33],(zp [2,3,10,83,1007,87,1008] [2,3,10,1007,1007,1008,1008]),[],[],[]⟩)]⟩
theorem G2 (n:Nat):VCOk Tryz.prog (Ep n):=gVC (U8 ⟨Nh n,⟨(Sw n).ok,⟨(Po n).ok,trivial⟩⟩⟩)
noncomputable def LS (n:Nat) (m:Nat):LpE Tryz.prog:=mkL (G2 n) nT 9 (cA [1,1,1,1,0,1,2,2,1,1,0,2,1,1,2,2] (Q6 Tryz.f27)) ⟨92,[(2,.ptr 2 0),(3,.ptr 3 0),(7,.arr 1007),(8,.arr 1008),(9,tI),(10,.ptr 10 0),(23,.l 4),(24,tI),(25,tI),(31,.l 4),(32,tI),(33,tI)],[(2,.box [.l 1,.l 1,.l 5,.l 6]),(3,.box [tI,.l 5,.l 2,.l 4,.l 7,.l 4,.l 5,.l 3]),(10,.box [.x,.x,.x,.x]),(1007,.arr 62 1),(1008,.arr 3 1)]⟩ [yI,yL,yI,yI,yL,yI,yI,yL,yL,yL,yL,yI,yL,yL,yL,yL,yL,yL,yL,yD,yD,yD,yD,yL,yL] (fun m R k (d:Int) (y:LL) (z aa:Int) (e:LL) (f a:Int) (g h i j:LL) (l:Int) (o p q r s t u:LL) (ab v ac x:D) (b c:LL)=>XI n d e f g h i j l o p q r s t u v x (fun ad=>k .ret ⟨92,[(4,.nil),(5,.nil),(6,dI ad)],[]⟩) (fun a ae b c=>k (.exit 2) ⟨92,[(2,.ptr 2 0),(3,.ptr 3 0),(7,.arr 1007),(8,.arr 1008),(9,dI d),(10,.ptr 10 0),(23,dL 4 y),(24,dI z),(25,dI aa),(31,dL 4 e),(32,dI f),(33,dI a),(34,dB ae)],[(2,.box [dL 1 g,dL 1 h,dL 5 i,dL 6 j]),(3,.box [dI l,dL 5 o,dL 2 p,dL 4 q,dL 7 r,dL 4 s,dL 5 t,dL 3 u]),(10,.box [.d ab,.d v,.d ac,.d x]),(1007,.arr 62 1 b),(1008,.arr 3 1 c)]⟩) m a b c) m
noncomputable def Lw (n:Nat) (m:Nat):LpE Tryz.prog:=mkL (G2 n) [LS n n] 6 (cA [1,1,1,1,0,1,2,2] (Q6 Tryz.f27)) ⟨92,[(2,.ptr 2 0),(3,.ptr 3 0),(7,.arr 1007),(8,.arr 1008),(23,.l 4),(24,tI),(25,tI)],[(2,.box [.l 1,.l 1,.l 5,.l 6]),(3,.box [tI,.l 5,.l 2,.l 4,.l 7,.l 4,.l 5,.l 3]),(1007,.arr 62 1),(1008,.arr 3 1)]⟩ [yL,yI,yI,yL,yL,yL,yL,yI,yL,yL,yL,yL,yL,yL,yL,yL,yL] (fun m R k h2 d a e f g h i j l o p q r s b c=>Z0 n h2 d e f g h i j l o p q r s (fun t=>k .ret ⟨92,[(4,.nil),(5,.nil),(6,dI t)],[]⟩) (fun a u b c=>k (.exit 0) ⟨92,[(2,.ptr 2 0),(3,.ptr 3 0),(7,.arr 1007),(8,.arr 1008),(23,dL 4 h2),(24,dI d),(25,dI a),(26,dB u)],[(2,.box [dL 1 e,dL 1 f,dL 5 g,dL 6 h]),(3,.box [dI i,dL 5 j,dL 2 l,dL 4 o,dL 7 p,dL 4 q,dL 5 r,dL 3 s]),(1007,.arr 62 1 b),(1008,.arr 3 1 c)]⟩) m a b c) m
noncomputable def Ps (n:Nat):EnP Tryz.prog 27:=mkE (G2 n) [Lw n n] 27 Tryz.f27 [[1],[1],[0]] [eA [qL 1,qL 1,qL 5,qL 6],eA [qI,qL 5,qL 2,qL 4,qL 7,qL 4,qL 5,qL 3]] [eT 3,sL 1,sL 1,sI] (pK (Gr n))

noncomputable def Ki (n:Nat):VB:=Xa [] [(0,⟨[0,1,2],(zp (rg1 1000000 5 []) [1000000,98012,98015,98017,98018]),[],[],[]⟩),cO 1 [6] [98012,98015,98017,98018,1000000]]
noncomputable def UT (n:Nat):EnP Tryz.prog 62:=mkG (Ki n).ok nT 62 Tryz.f62 [eP 1000000 19,sL 1,sL 1,sL 5,sL 6,sI,sL 5,sL 2,sL 4,sL 7,sL 4,sL 5,sL 3,eR 1000001 3 1,sL 1,sL 1,eR 1000002 139 4,sI,eR 1000003 54 3,eR 1000004 52 6,sI,sI] [sI,eI 1000000 19,sL 1,sL 1,sL 5,sL 6,sI,sL 5,sL 2,sL 4,sL 7,sL 4,sL 5,sL 3,eR 98012 3 1,sL 1,sL 1,eR 98015 139 4,sI,eR 98017 54 3,eR 98018 52 6,eG 1000001,eG 1000002,eG 1000003,eG 1000004] [98012,98015,98017,98018] (pK (Xu n))

noncomputable def G7 (n:Nat):VB:=Xa [] [(0,⟨(rg1 0 6 [12]),(zp (rg1 1000000 5 []) [1000000,98012,98015,98017,98018]),[],[],[]⟩),(1,⟨[],(zp [37,98012,98017,98018,1000000] [98015,98012,98017,98018,1000000]),[],[],[]⟩)]
noncomputable def Gx (n:Nat):EnP Tryz.prog 61:=mkG (G7 n).ok nT 61 Tryz.f61 [eP 1000000 19,sL 1,sL 1,sL 5,sL 6,sI,sL 5,sL 2,sL 4,sL 7,sL 4,sL 5,sL 3,eR 1000001 3 1,sL 1,sL 1,eR 1000002 139 4,sI,eR 1000003 54 3,eR 1000004 52 6,sI,sI,sI,sI,sI] [eT 0,eI 1000000 19,sL 1,sL 1,sL 5,sL 6,sI,sL 5,sL 2,sL 4,sL 7,sL 4,sL 5,sL 3,eR 98012 3 1,sL 1,sL 1,eR 98015 139 4,sI,eR 98017 54 3,eR 98018 52 6,eG 1000001,eG 1000002,eG 1000003,eG 1000004] [98012,98015,98017,98018] (pK (XK n))

noncomputable def Kb (n:Nat):VB:=Xa [⟨62,UT n⟩] [(0,⟨[0,1],(zp (rg1 1000000 5 []) [1000000,98012,98015,98017,98018]),[],[],[]⟩),(1,⟨[4],(zp (rg5 50018 4 [1000000]) [98012,98015,98017,98018,1000000]),[],[],[]⟩)]
noncomputable def KG (n:Nat):EnP Tryz.prog 63:=mkG (Kb n).ok nT 63 Tryz.f63 [eP 1000000 19,sL 1,sL 1,sL 5,sL 6,sI,sL 5,sL 2,sL 4,sL 7,sL 4,sL 5,sL 3,eR 1000001 3 1,sL 1,sL 1,eR 1000002 139 4,sI,eR 1000003 54 3,eR 1000004 52 6,sI] [sI,eI 1000000 19,sL 1,sL 1,sL 5,sL 6,sI,sL 5,sL 2,sL 4,sL 7,sL 4,sL 5,sL 3,eR 98012 3 1,sL 1,sL 1,eR 98015 139 4,sI,eR 98017 54 3,eR 98018 52 6,eG 1000001,eG 1000002,eG 1000003,eG 1000004] [98012,98015,98017,98018] (pK (Z8 n))

noncomputable def XN (n:Nat):VB:=Xa [⟨62,UT n⟩,⟨61,Gx n⟩,⟨63,KG n⟩] [(0,⟨[0,13,14,15],(zp (rg1 1000000 5 []) [1000000,98012,98015,98017,98018]),[],[],[]⟩),cO 1 (0::rg1 13 4 []) [98012,98015,98017,98018,1000000],cO 2 [0,2,3,13,14,15] [3,98012,98015,98017,98018,1000000],cO 3 [0,2,13,14,15,26,27,28] [98012,98015,98017,98018,1000000],cO 4 [0,2,13,14,15,26,27,28,29] [98012,98015,98017,98018,1000000],cO 5 [0,2,4,5,13,14,15,26,27,28] [5,98012,98015,98017,98018,1000000],(6,⟨[0,2,13,14,15,26,27,28],(zp (rg5 50049 4 [1000000]) [98012,98015,98017,98018,1000000]),[],[],[]⟩),cO 7 [0,2,13,14,15,26,27,28] [98012,98015,98017,98018,1000000],cO 8 [0,13,14,15] [98012,98015,98017,98018,1000000],cO 9 [0,56,57,58] [98012,98015,98017,98018,1000000],cO 10 (0::rg1 56 4 []) [98012,98015,98017,98018,1000000],cO 11 [0,7,56,57,58] [7,98012,98015,98017,98018,1000000],cO 12 [0,7,8,56,57,58] [7,98012,98015,98017,98018,1000000],(13,⟨[0,56,57,58],(zp (rg5 50092 4 [1000000]) [98012,98015,98017,98018,1000000]),[],[],[]⟩),cO 14 [0,56,57,58] [98012,98015,98017,98018,1000000],cO 3000000001 [0,13,14,15] [98012,98015,98017,98018,1000000]]
noncomputable def JF (n:Nat) (m:Nat):LpE Tryz.prog:=mkL (XN n).ok nT 4 (cA [0,1,2,2,1,1,0,2,1,1,2,2] (Q6 Tryz.f28)) ⟨94,[(0,.ptr 1000000 0),(2,tI),(13,.l 4),(14,tI),(15,tI),(26,.l 4),(27,tI),(28,tI)],[(98012,.arr 3 1),(98015,.arr 139 4),(98017,.arr 54 3),(98018,.arr 52 6),(1000000,.box [.l 1,.l 1,.l 5,.l 6,tI,.l 5,.l 2,.l 4,.l 7,.l 4,.l 5,.l 3,.arr 98012,.l 1,.l 1,.arr 98015,tI,.arr 98017,.arr 98018])]⟩ [yI,yL,yI,yI,yL,yI,yI,yL,yL,yL,yL,yL,yL,yL,yL,yI,yL,yL,yL,yL,yL,yL,yL,yL,yL,yI] (fun m R k (y:Int) (ab:LL) (ac ad:Int) (z:LL) (aa a:Int) (b c d e f g h i:LL) (j:Int) (l o p q r s t u v:LL) (x:Int)=>X4 n y z aa (fun a ae b c d e f g h i j l o p q r s t u v x=>k (.exit 2) ⟨94,[(0,.ptr 1000000 0),(2,dI y),(13,dL 4 ab),(14,dI ac),(15,dI ad),(26,dL 4 z),(27,dI aa),(28,dI a),(29,dB ae)],[(98012,.arr 3 1 b),(98015,.arr 139 4 c),(98017,.arr 54 3 d),(98018,.arr 52 6 e),(1000000,.box [dL 1 f,dL 1 g,dL 5 h,dL 6 i,dI j,dL 5 l,dL 2 o,dL 4 p,dL 7 q,dL 4 r,dL 5 s,dL 3 t,.arr 98012,dL 1 u,dL 1 v,.arr 98015,dI x,.arr 98017,.arr 98018])]⟩) m a b c d e f g h i j l o p q r s t u v x) m
noncomputable def JL (n:Nat) (m:Nat):LpE Tryz.prog:=mkL (XN n).ok [JF n n] 1 (cA [0,1,2,2] (Q6 Tryz.f28)) ⟨94,[(0,.ptr 1000000 0),(13,.l 4),(14,tI),(15,tI)],[(98012,.arr 3 1),(98015,.arr 139 4),(98017,.arr 54 3),(98018,.arr 52 6),(1000000,.box [.l 1,.l 1,.l 5,.l 6,tI,.l 5,.l 2,.l 4,.l 7,.l 4,.l 5,.l 3,.arr 98012,.l 1,.l 1,.arr 98015,tI,.arr 98017,.arr 98018])]⟩ [yL,yI,yI,yL,yL,yL,yL,yL,yL,yL,yL,yI,yL,yL,yL,yL,yL,yL,yL,yL,yL,yI] (fun m R k y h2 a b c d e f g h i j l o p q r s t u v x=>Qv n y h2 (fun a z b c d e f g h i j l o p q r s t u v x=>k (.exit 0) ⟨94,[(0,.ptr 1000000 0),(13,dL 4 y),(14,dI h2),(15,dI a),(16,dB z)],[(98012,.arr 3 1 b),(98015,.arr 139 4 c),(98017,.arr 54 3 d),(98018,.arr 52 6 e),(1000000,.box [dL 1 f,dL 1 g,dL 5 h,dL 6 i,dI j,dL 5 l,dL 2 o,dL 4 p,dL 7 q,dL 4 r,dL 5 s,dL 3 t,.arr 98012,dL 1 u,dL 1 v,.arr 98015,dI x,.arr 98017,.arr 98018])]⟩) m a b c d e f g h i j l o p q r s t u v x) m
noncomputable def JU (n:Nat) (m:Nat):LpE Tryz.prog:=mkL (XN n).ok nT 10 (cA [1,1,2,2] (Q6 Tryz.f28)) ⟨94,[(0,.ptr 1000000 0),(56,.l 4),(57,tI),(58,tI)],[(98012,.arr 3 1),(98015,.arr 139 4),(98017,.arr 54 3),(98018,.arr 52 6),(1000000,.box [.l 1,.l 1,.l 5,.l 6,tI,.l 5,.l 2,.l 4,.l 7,.l 4,.l 5,.l 3,.arr 98012,.l 1,.l 1,.arr 98015,tI,.arr 98017,.arr 98018])]⟩ [yL,yI,yI,yL,yL,yL,yL,yL,yL,yL,yL,yI,yL,yL,yL,yL,yL,yL,yL,yL,yL,yI] (fun m R k y z a b c d e f g h i j l o p q r s t u v x=>X3 n y z (fun a aa b c d e f g h i j l o p q r s t u v x=>k (.exit 4) ⟨94,[(0,.ptr 1000000 0),(56,dL 4 y),(57,dI z),(58,dI a),(59,dB aa)],[(98012,.arr 3 1 b),(98015,.arr 139 4 c),(98017,.arr 54 3 d),(98018,.arr 52 6 e),(1000000,.box [dL 1 f,dL 1 g,dL 5 h,dL 6 i,dI j,dL 5 l,dL 2 o,dL 4 p,dL 7 q,dL 4 r,dL 5 s,dL 3 t,.arr 98012,dL 1 u,dL 1 v,.arr 98015,dI x,.arr 98017,.arr 98018])]⟩) m a b c d e f g h i j l o p q r s t u v x) m
noncomputable def U5 (n:Nat):EnP Tryz.prog 28:=mkG (XN n).ok [JL n n,JU n n] 28 Tryz.f28 [eP 1000000 19,sL 1,sL 1,sL 5,sL 6,sI,sL 5,sL 2,sL 4,sL 7,sL 4,sL 5,sL 3,eR 1000001 3 1,sL 1,sL 1,eR 1000002 139 4,sI,eR 1000003 54 3,eR 1000004 52 6] [eT 0,eI 1000000 19,sL 1,sL 1,sL 5,sL 6,sI,sL 5,sL 2,sL 4,sL 7,sL 4,sL 5,sL 3,eR 98012 3 1,sL 1,sL 1,eR 98015 139 4,sI,eR 98017 54 3,eR 98018 52 6,eG 1000001,eG 1000002,eG 1000003,eG 1000004] [98012,98015,98017,98018] (pK (Y6 n))

noncomputable def Ty (n:Nat):VB:=Xa [] [cK 0 [0],cK 1 [0,3],cK 2 [3,6,7,8],cK 3 [3,6,7,8,9],cO 4 [3,5,6,7,8] [5],cO 5 (rg1 5 4 [32]) [5],cK 6 [2],cK 7 [3,6,7,8],cK 8 [3,6,7,8],cK 9 [2]]
noncomputable def Lr (n:Nat) (m:Nat):LpE Tryz.prog:=mkL (Ty n).ok nT 3 (cA [1,1,0,1,2,2] (Q6 Tryz.f113)) ⟨36,[(3,tI),(6,.l 3),(7,tI),(8,tI)],[]⟩ [yI,yL,yI,yI] (fun m R k a h2 c b=>ZQ n h2 c (k .ret ⟨36,[(2,dB false)],[]⟩) (fun a b d=>k (.exit 0) ⟨36,[(3,dI a),(6,dL 3 h2),(7,dI c),(8,dI b),(9,dB d)],[]⟩) m a b) m
noncomputable def TQ (n:Nat):EnP Tryz.prog 113:=mkE (Ty n).ok [Lr n n] 113 Tryz.f113 [[0]] [sL 3] [sB] (pK (UE n))

noncomputable def Tv (n:Nat):VB:=Xa [⟨113,TQ n⟩] [cK 0 [0,1],cK 1 [0,1,17],cK 2 [4],cK 3 [0,18,19,20],cK 4 (0::rg1 18 4 []),cO 5 [0,6,18,19,20] [6],cK 6 [0,18,19,20,30],cK 7 [4],cK 8 [0,18,19,20],cK 9 [4]]
noncomputable def LE (n:Nat) (m:Nat):LpE Tryz.prog:=mkL (Tv n).ok nT 4 (cA [1,1,0,1,2,2] (Q6 Tryz.f64)) ⟨32,[(0,tI),(18,.l 3),(19,tI),(20,tI)],[]⟩ [yI,yL,yI,yI] (fun m R k h2 b c a=>ZS n h2 b c (k .ret ⟨32,[(4,dB false)],[]⟩) (fun a d=>k (.exit 0) ⟨32,[(0,dI h2),(18,dL 3 b),(19,dI c),(20,dI a),(21,dB d)],[]⟩) m a) m
noncomputable def Ei (n:Nat):EnP Tryz.prog 64:=mkE (Tv n).ok [LE n n] 64 Tryz.f64 [[0]] [sI,sL 3] [sB] (pK (Gk n))

noncomputable def Uf (n:Nat):VB:=Xa [] [(0,⟨(rg1 2 5 []),(zp (5::6::rg1 1000000 7 []) (5::6::rg1 1000000 4 [98132,98137,98138])),[],[],[]⟩),cO 1 [3,4,7,8] (98132::98137::98138::rg1 1000000 4 []),cO 2 [] (98132::98137::98138::rg1 1000000 4 [])]
noncomputable def Uj (n:Nat):EnP Tryz.prog 66:=mkG (Uf n).ok nT 66 Tryz.f66 [eA [qI,qI,qI],eA [qI,qI,qI],eP 1000000 4,sI,sI,sI,sI,eP 1000001 1,sB,eP 1000002 1,eP 1000003 19,sL 1,sL 1,sL 5,sL 6,sI,sL 5,sL 2,sL 4,sL 7,sL 4,sL 5,sL 3,eR 1000004 3 1,sL 1,sL 1,sL 4,sI,eR 1000005 54 3,eR 1000006 52 6] [eT 0,eI 1000000 4,sI,sI,sI,sI,eI 1000001 1,sB,eI 1000002 1,eS 1000003,eI 1000003 19,sL 1,sL 1,sL 5,sL 6,sI,sL 5,sL 2,sL 4,sL 7,sL 4,sL 5,sL 3,eR 98132 3 1,sL 1,sL 1,sL 4,sI,eR 98137 54 3,eR 98138 52 6,eG 1000004,eG 1000005,eG 1000006] [98132,98137,98138] (pK (XJ n))

noncomputable def ZI (n:Nat):VB:=Xa [⟨66,Uj n⟩] [(0,⟨[0,2,4],(zp (4::rg1 1000000 7 []) [4,1000000,98012,98017,98018,1000004,1000005,1000006]),[],[],[]⟩),cO 1 [0,2,4,17,18,19] [4,98012,98017,98018,1000000,1000004,1000005,1000006],cO 2 [0,2,4,17,18,19,20] [4,98012,98017,98018,1000000,1000004,1000005,1000006],cO 3 [0,2,4,7,17,18,19] [4,7,98012,98017,98018,1000000,1000004,1000005,1000006],cO 4 [0,2,4,7,17,18,19,30,31,32] [4,7,98012,98017,98018,1000000,1000004,1000005,1000006],cO 5 [0,2,4,7,17,18,19,30,31,32,33] [4,7,98012,98017,98018,1000000,1000004,1000005,1000006],cO 6 [0,2,4,7,9,17,18,19,30,31,32] [4,7,9,98012,98017,98018,1000000,1000004,1000005,1000006],cO 7 [0,2,4,7,9,17,18,19,30,31,32,50] [4,7,9,98012,98017,98018,1000000,1000004,1000005,1000006],(8,⟨[0,2,4,7,17,18,19,30,31,32],(zp (4::7::rg5 50054 3 (1000000::rg1 1000004 3 [])) [4,7,98012,98017,98018,1000000,1000004,1000005,1000006]),[],[],[]⟩),cO 9 [0,2,4,7,17,18,19,30,31,32] [4,7,98012,98017,98018,1000000,1000004,1000005,1000006],cO 10 [0,2,4,17,18,19] [4,98012,98017,98018,1000000,1000004,1000005,1000006]]
noncomputable def Kg (n:Nat) (m:Nat):LpE Tryz.prog:=mkL (ZI n).ok nT 5 (cA [1,1,2,2,1,1,0,2,1,1,2,2] (Q6 Tryz.f65)) ⟨57,[(0,.ptr 1000000 0),(2,.fn 66 [.ptr 1000004 0,.ptr 1000005 0,.ptr 1000006 0]),(4,.ptr 4 0),(7,.ptr 7 0),(17,.l 3),(18,tI),(19,tI),(30,.l 3),(31,tI),(32,tI)],[(4,.box [tI,tI,tI,tI]),(7,.box [.x,.x,.x]),(98012,.arr 3 1),(98017,.arr 54 3),(98018,.arr 52 6),(1000000,.box [.l 1,.l 1,.l 5,.l 6,tI,.l 5,.l 2,.l 4,.l 7,.l 4,.l 5,.l 3,.arr 98012,.l 1,.l 1,.l 4,tI,.arr 98017,.arr 98018]),(1000004,.box [tI,tI,tI,tI]),(1000005,.box [.b]),(1000006,.box [.ptr 1000000 0])]⟩ [yL,yI,yI,yL,yI,yI,yI,yI,yI,yI,yD,yD,yD,yL,yL,yL,yL,yL,yL,yL,yI,yL,yL,yL,yL,yL,yL,yL,yL,yL,yL,yI,yI,yI,yI,yI,yB] (fun m R k (ak:LL) (al am:Int) (ad:LL) (ae a an ao ag ap:Int) (ah ai aj:D) (b c d e f g h:LL) (i:Int) (j l o p q r s t u v:LL) (x y z aa ab:Int) (ac:Bool)=>X7 n ad ae ag ah ai aj (fun a aq b c d e f g h i j l o p q r s t u v x y z aa ab ac=>k (.exit 2) ⟨57,[(0,.ptr 1000000 0),(2,.fn 66 [.ptr 1000004 0,.ptr 1000005 0,.ptr 1000006 0]),(4,.ptr 4 0),(7,.ptr 7 0),(17,dL 3 ak),(18,dI al),(19,dI am),(30,dL 3 ad),(31,dI ae),(32,dI a),(33,dB aq)],[(4,.box [dI an,dI ao,dI ag,dI ap]),(7,.box [.d ah,.d ai,.d aj]),(98012,.arr 3 1 b),(98017,.arr 54 3 c),(98018,.arr 52 6 d),(1000000,.box [dL 1 e,dL 1 f,dL 5 g,dL 6 h,dI i,dL 5 j,dL 2 l,dL 4 o,dL 7 p,dL 4 q,dL 5 r,dL 3 s,.arr 98012,dL 1 t,dL 1 u,dL 4 v,dI x,.arr 98017,.arr 98018]),(1000004,.box [dI y,dI z,dI aa,dI ab]),(1000005,.box [dB ac]),(1000006,.box [.ptr 1000000 0])]⟩) m a b c d e f g h i j l o p q r s t u v x y z aa ab ac) m
noncomputable def K6 (n:Nat) (m:Nat):LpE Tryz.prog:=mkL (ZI n).ok [Kg n n] 2 (cA [1,1,2,2] (Q6 Tryz.f65)) ⟨57,[(0,.ptr 1000000 0),(2,.fn 66 [.ptr 1000004 0,.ptr 1000005 0,.ptr 1000006 0]),(4,.ptr 4 0),(17,.l 3),(18,tI),(19,tI)],[(4,.box [tI,tI,tI,tI]),(98012,.arr 3 1),(98017,.arr 54 3),(98018,.arr 52 6),(1000000,.box [.l 1,.l 1,.l 5,.l 6,tI,.l 5,.l 2,.l 4,.l 7,.l 4,.l 5,.l 3,.arr 98012,.l 1,.l 1,.l 4,tI,.arr 98017,.arr 98018]),(1000004,.box [tI,tI,tI,tI]),(1000005,.box [.b]),(1000006,.box [.ptr 1000000 0])]⟩ [yL,yI,yI,yI,yI,yI,yI,yL,yL,yL,yL,yL,yL,yL,yI,yL,yL,yL,yL,yL,yL,yL,yL,yL,yL,yI,yI,yI,yI,yI,yB] (fun m R k (h4:LL) (h5 a h7 h8 h9 aj:Int) (b c d e f g h:LL) (i:Int) (j l o p q r s t u v:LL) (x y z aa ab:Int) (ac:Bool)=>QP n h4 h5 h8 h9 (fun a ak b c d e f g h i j l o p q r s t u v x y z aa ab ac=>k (.exit 0) ⟨57,[(0,.ptr 1000000 0),(2,.fn 66 [.ptr 1000004 0,.ptr 1000005 0,.ptr 1000006 0]),(4,.ptr 4 0),(17,dL 3 h4),(18,dI h5),(19,dI a),(20,dB ak)],[(4,.box [dI h7,dI h8,dI h9,dI aj]),(98012,.arr 3 1 b),(98017,.arr 54 3 c),(98018,.arr 52 6 d),(1000000,.box [dL 1 e,dL 1 f,dL 5 g,dL 6 h,dI i,dL 5 j,dL 2 l,dL 4 o,dL 7 p,dL 4 q,dL 5 r,dL 3 s,.arr 98012,dL 1 t,dL 1 u,dL 4 v,dI x,.arr 98017,.arr 98018]),(1000004,.box [dI y,dI z,dI aa,dI ab]),(1000005,.box [dB ac]),(1000006,.box [.ptr 1000000 0])]⟩) m a b c d e f g h i j l o p q r s t u v x y z aa ab ac) m
noncomputable def KT (n:Nat):EnP Tryz.prog 65:=mkG (ZI n).ok [K6 n n] 65 Tryz.f65 [eP 1000000 19,sL 1,sL 1,sL 5,sL 6,sI,sL 5,sL 2,sL 4,sL 7,sL 4,sL 5,sL 3,eR 1000001 3 1,sL 1,sL 1,sL 4,sI,eR 1000002 54 3,eR 1000003 52 6,eA [qI,qI,qI,qI],eF 66 3,eP 1000004 4,sI,sI,sI,sI,eP 1000005 1,sB,eP 1000006 1,eS 1000000] [eT 0,eI 1000000 19,sL 1,sL 1,sL 5,sL 6,sI,sL 5,sL 2,sL 4,sL 7,sL 4,sL 5,sL 3,eR 98012 3 1,sL 1,sL 1,sL 4,sI,eR 98017 54 3,eR 98018 52 6,eI 1000004 4,sI,sI,sI,sI,eI 1000005 1,sB,eI 1000006 1,eS 1000000,eG 1000001,eG 1000002,eG 1000003] [98012,98017,98018] (pK (WQ n))

noncomputable def ZC (n:Nat):VB:=Xa [⟨64,Ei n⟩,⟨65,KT n⟩] [(0,⟨[1],(zp (1::rg1 1000000 5 []) [1,1000000,98012,98015,98017,98018]),[],[],[]⟩),cO 1 [1,11,12,13] [1,98012,98015,98017,98018,1000000],cO 2 (1::rg1 11 4 []) [1,98012,98015,98017,98018,1000000],cO 3 [1,4,11,12,13] [1,98012,98015,98017,98018,1000000],cO 4 [1,11,12,13,24] [1,98012,98015,98017,98018,1000000],(5,⟨[2],(zp [98012,98015,98017,98018,1000000] [98012,98015,98017,98018,1000000]),[],[],[98015]⟩),cO 6 [1,11,12,13] [1,98012,98015,98017,98018,1000000],(7,⟨[1,29,30,31],(zp [1,98012,98017,98018,1000000] [1,98012,98017,98018,1000000]),[],[],[98015]⟩),cO 8 (1::rg1 29 4 []) [1,98012,98017,98018,1000000],cO 9 [1,6,29,30,31] [1,6,98012,98017,98018,1000000],cO 10 [1,6,7,29,30,31] [1,6,7,98012,98017,98018,1000000],(11,⟨[1,7,29,30,31],(zp (1::7::rg5 50038 3 [1000000]) [1,7,98012,98017,98018,1000000]),[],[],[]⟩),cO 12 [1,29,30,31,39] [1,98012,98017,98018,1000000],cO 13 [2] [98012,98017,98018,1000000],cO 14 [1,29,30,31] [1,98012,98017,98018,1000000],cO 15 [2] [98012,98017,98018,1000000]]
noncomputable def GU (n:Nat) (m:Nat):LpE Tryz.prog:=mkL (ZC n).ok nT 2 (cA [1,0,1,2,2] (Q6 Tryz.f29)) ⟨41,[(1,.ptr 1 0),(11,.l 1),(12,tI),(13,tI)],[(1,.box [.ptr 1000000 0]),(98012,.arr 3 1),(98015,.arr 139 4),(98017,.arr 54 3),(98018,.arr 52 6),(1000000,.box [.l 1,.l 1,.l 5,.l 6,tI,.l 5,.l 2,.l 4,.l 7,.l 4,.l 5,.l 3,.arr 98012,.l 1,.l 1,.arr 98015,tI,.arr 98017,.arr 98018])]⟩ [yL,yI,yI,yL,yL,yL,yL,yL,yL,yL,yL,yI,yL,yL,yL,yL,yL,yL,yL,yL,yL,yI] (fun m R k c h2 a d e f g h i j l b o p q r s t u v x y=>Xj n c h2 b (k .ret ⟨41,[(2,dB false)],[(98012,.arr 3 1 d),(98017,.arr 54 3 f),(98018,.arr 52 6 g),(1000000,.box [dL 1 h,dL 1 i,dL 5 j,dL 6 l,dI b,dL 5 o,dL 2 p,dL 4 q,dL 7 r,dL 4 s,dL 5 t,dL 3 u,.arr 98012,dL 1 v,dL 1 x,dL 4 e,dI y,.arr 98017,.arr 98018])]⟩) (fun a z=>k (.exit 0) ⟨41,[(1,.ptr 1 0),(11,dL 1 c),(12,dI h2),(13,dI a),(14,dB z)],[(1,.box [.ptr 1000000 0]),(98012,.arr 3 1 d),(98015,.arr 139 4 e),(98017,.arr 54 3 f),(98018,.arr 52 6 g),(1000000,.box [dL 1 h,dL 1 i,dL 5 j,dL 6 l,dI b,dL 5 o,dL 2 p,dL 4 q,dL 7 r,dL 4 s,dL 5 t,dL 3 u,.arr 98012,dL 1 v,dL 1 x,.arr 98015,dI y,.arr 98017,.arr 98018])]⟩) m a) m
noncomputable def GX (n:Nat) (m:Nat):LpE Tryz.prog:=mkL (ZC n).ok nT 8 (cA [1,1,0,1,2,2] (Q6 Tryz.f29)) ⟨41,[(1,.ptr 1 0),(29,.l 4),(30,tI),(31,tI)],[(1,.box [.ptr 1000000 0]),(98012,.arr 3 1),(98017,.arr 54 3),(98018,.arr 52 6),(1000000,.box [.l 1,.l 1,.l 5,.l 6,tI,.l 5,.l 2,.l 4,.l 7,.l 4,.l 5,.l 3,.arr 98012,.l 1,.l 1,.l 4,tI,.arr 98017,.arr 98018])]⟩ [yL,yI,yI,yL,yL,yL,yL,yL,yL,yL,yI,yL,yL,yL,yL,yL,yL,yL,yL,yL,yL,yI] (fun m R k y z a b c d e f g h i j l o p q r s t u v x=>Xm n y z (fun aa ab ac ad ae ag ah ai aj ak al am an ao ap aq ar au av=>k .ret ⟨41,[(2,dB false)],[(98012,.arr 3 1 aa),(98017,.arr 54 3 ab),(98018,.arr 52 6 ac),(1000000,.box [dL 1 ad,dL 1 ae,dL 5 ag,dL 6 ah,dI ai,dL 5 aj,dL 2 ak,dL 4 al,dL 7 am,dL 4 an,dL 5 ao,dL 3 ap,.arr 98012,dL 1 aq,dL 1 ar,dL 4 au,dI av,.arr 98017,.arr 98018])]⟩) (fun a aw b c d e f g h i j l o p q r s t u v x=>k (.exit 2) ⟨41,[(1,.ptr 1 0),(29,dL 4 y),(30,dI z),(31,dI a),(32,dB aw)],[(1,.box [.ptr 1000000 0]),(98012,.arr 3 1 b),(98017,.arr 54 3 c),(98018,.arr 52 6 d),(1000000,.box [dL 1 e,dL 1 f,dL 5 g,dL 6 h,dI i,dL 5 j,dL 2 l,dL 4 o,dL 7 p,dL 4 q,dL 5 r,dL 3 s,.arr 98012,dL 1 t,dL 1 u,dL 4 v,dI x,.arr 98017,.arr 98018])]⟩) m a b c d e f g h i j l o p q r s t u v x) m
noncomputable def UF (n:Nat):EnP Tryz.prog 29:=mkG (ZC n).ok [GU n n,GX n n] 29 Tryz.f29 [eP 1000000 19,sL 1,sL 1,sL 5,sL 6,sI,sL 5,sL 2,sL 4,sL 7,sL 4,sL 5,sL 3,eR 1000001 3 1,sL 1,sL 1,eR 1000002 139 4,sI,eR 1000003 54 3,eR 1000004 52 6] [sB,eI 1000000 19,sL 1,sL 1,sL 5,sL 6,sI,sL 5,sL 2,sL 4,sL 7,sL 4,sL 5,sL 3,eR 98012 3 1,sL 1,sL 1,sL 4,sI,eR 98017 54 3,eR 98018 52 6,eG 1000001,eG 1000002,eG 1000003,eG 1000004] [98012,98017,98018] (pK (YX n))

noncomputable def K8 (n:Nat):VB:=Xa [] [(0,⟨[0,1,2],(zp (rg1 1000000 4 []) [1000000,98012,98017,98018]),[],[],[]⟩),cO 1 [6] [98012,98017,98018,1000000]]
noncomputable def US (n:Nat):EnP Tryz.prog 62:=mkG (K8 n).ok nT 62 Tryz.f62 [eP 1000000 19,sL 1,sL 1,sL 5,sL 6,sI,sL 5,sL 2,sL 4,sL 7,sL 4,sL 5,sL 3,eR 1000001 3 1,sL 1,sL 1,sL 4,sI,eR 1000002 54 3,eR 1000003 52 6,sI,sI] [sI,eI 1000000 19,sL 1,sL 1,sL 5,sL 6,sI,sL 5,sL 2,sL 4,sL 7,sL 4,sL 5,sL 3,eR 98012 3 1,sL 1,sL 1,sL 4,sI,eR 98017 54 3,eR 98018 52 6,eG 1000001,eG 1000002,eG 1000003] [98012,98017,98018] (pK (QS n))

noncomputable def NR (n:Nat):VB:=Xa [] [cK 0 [0],cK 1 [2]]
noncomputable def Tq (n:Nat):EnP Tryz.prog 68:=mkE (NR n).ok nT 68 Tryz.f68 [[0]] [sI] [sI] (pK (XQ n))

noncomputable def Mr (n:Nat):VB:=Xa [] [cK 0 [0],cK 1 [2]]
noncomputable def Lo (n:Nat):EnP Tryz.prog 69:=mkE (Mr n).ok nT 69 Tryz.f69 [[0]] [sI] [sI] (pK (Wh n))

noncomputable def KH (n:Nat):VB:=Xa [] [(0,⟨[],(zp (28::rg1 1000000 3 []) [98018,1000000,98012,98017]),[],[],[]⟩)]
noncomputable def Vh (n:Nat):EnP Tryz.prog 67:=mkG (KH n).ok nT 67 Tryz.f67 [eP 1000000 19,sL 1,sL 1,sL 5,sL 6,sI,sL 5,sL 2,sL 4,sL 7,sL 4,sL 5,sL 3,eR 1000001 3 1,sL 1,sL 1,sL 4,sI,eR 1000002 54 3,eR 1000003 52 6,sI,sI,sI,sI,sI,sI] [eT 0,eI 1000000 19,sL 1,sL 1,sL 5,sL 6,sI,sL 5,sL 2,sL 4,sL 7,sL 4,sL 5,sL 3,eR 98012 3 1,sL 1,sL 1,sL 4,sI,eR 98017 54 3,eR 98018 52 6,eG 1000001,eG 1000002,eG 1000003] [98012,98017,98018] (pK (X2 n))

noncomputable def K7 (n:Nat):VB:=Xa [⟨62,US n⟩] [(0,⟨[0,1],(zp (rg1 1000000 4 []) [1000000,98012,98017,98018]),[],[],[]⟩),(1,⟨[4],(zp (rg5 50018 3 [1000000]) [98012,98017,98018,1000000]),[],[],[]⟩)]
noncomputable def KL (n:Nat):EnP Tryz.prog 63:=mkG (K7 n).ok nT 63 Tryz.f63 [eP 1000000 19,sL 1,sL 1,sL 5,sL 6,sI,sL 5,sL 2,sL 4,sL 7,sL 4,sL 5,sL 3,eR 1000001 3 1,sL 1,sL 1,sL 4,sI,eR 1000002 54 3,eR 1000003 52 6,sI] [sI,eI 1000000 19,sL 1,sL 1,sL 5,sL 6,sI,sL 5,sL 2,sL 4,sL 7,sL 4,sL 5,sL 3,eR 98012 3 1,sL 1,sL 1,sL 4,sI,eR 98017 54 3,eR 98018 52 6,eG 1000001,eG 1000002,eG 1000003] [98012,98017,98018] (pK (WN n))

noncomputable def QR (n:Nat):VB:=Xa [⟨62,US n⟩,⟨68,Tq n⟩,⟨69,Lo n⟩,⟨67,Vh n⟩,⟨63,KL n⟩] [(0,⟨[0,20,21,22],(zp (rg1 1000000 4 []) [1000000,98012,98017,98018]),[],[],[]⟩),cO 1 (0::rg1 20 4 []) [98012,98017,98018,1000000],cO 2 [0,2,3,20,21,22] [3,98012,98017,98018,1000000],cO 3 [0,2,3,20,21,22,28,29,30] [3,98012,98017,98018,1000000],cO 4 [0,2,3,20,21,22,28,29,30,31] [3,98012,98017,98018,1000000],cO 5 [0,2,3,4,5,20,21,22,28,29,30] [3,5,98012,98017,98018,1000000],(6,⟨(0::rg1 2 5 [20,21,22,28,29,30]),(zp (3::5::rg5 50038 3 [1000000]) [3,5,98012,98017,98018,1000000]),[],[],[]⟩),cO 7 (0::rg1 2 6 [20,21,22,28,29,30]) [3,5,98012,98017,98018,1000000],(8,⟨(0::rg1 2 5 [20,21,22,28,29,30]),(zp (3::5::rg5 50058 3 [1000000]) [3,5,98012,98017,98018,1000000]),[],[],[]⟩),cO 9 [0,2,3,5,6,20,21,22,28,29,30,64] [3,5,98012,98017,98018,1000000],(10,⟨[0,2,3,20,21,22,28,29,30],(zp (3::rg5 50077 3 [1000000]) [3,98012,98017,98018,1000000]),[],[],[]⟩),cO 11 [0,2,3,20,21,22,28,29,30] [3,98012,98017,98018,1000000],cO 12 [0,20,21,22] [98012,98017,98018,1000000],cO 13 [0,84,85,86] [98012,98017,98018,1000000],cO 14 (0::rg1 84 4 []) [98012,98017,98018,1000000],cO 15 [0,9,84,85,86] [9,98012,98017,98018,1000000],(16,⟨[0,9,10,11,84,85,86],(zp (9::rg5 50101 3 [1000000]) [9,98012,98017,98018,1000000]),[],[],[]⟩),(17,⟨[0,84,85,86],(zp (rg5 50113 3 [1000000]) [98012,98017,98018,1000000]),[],[],[]⟩),cO 18 [0,84,85,86] [98012,98017,98018,1000000],cO 19 [0,119,120,121] [98012,98017,98018,1000000],cO 20 (0::rg1 119 4 []) [98012,98017,98018,1000000],cO 21 [0,13,119,120,121] [13,98012,98017,98018,1000000],(22,⟨[0,119,120,121],(zp (rg5 50140 3 [1000000]) [98012,98017,98018,1000000]),[],[],[]⟩),cO 23 [0,119,120,121] [98012,98017,98018,1000000],cO 24 [0,146,147,148] [98012,98017,98018,1000000],cO 25 (0::rg1 146 4 []) [98012,98017,98018,1000000],cO 26 [0,15,146,147,148] [15,98012,98017,98018,1000000],(27,⟨[0,146,147,148],(zp (rg5 50171 3 [1000000]) [98012,98017,98018,1000000]),[],[],[]⟩),cO 28 [0,146,147,148] [98012,98017,98018,1000000],cO 3000000001 [0,20,21,22] [98012,98017,98018,1000000]]
noncomputable def J0 (n:Nat) (m:Nat):LpE Tryz.prog:=mkL (QR n).ok nT 4 (cA [0,1,2,2,1,1,0,2,1,1,2,2] (Q6 Tryz.f30)) ⟨173,[(0,.ptr 1000000 0),(2,tI),(3,.ptr 3 0),(20,.l 4),(21,tI),(22,tI),(28,.l 4),(29,tI),(30,tI)],[(3,.box [.x,.x,.x,.x]),(98012,.arr 3 1),(98017,.arr 54 3),(98018,.arr 52 6),(1000000,.box [.l 1,.l 1,.l 5,.l 6,tI,.l 5,.l 2,.l 4,.l 7,.l 4,.l 5,.l 3,.arr 98012,.l 1,.l 1,.l 4,tI,.arr 98017,.arr 98018])]⟩ [yI,yL,yI,yI,yL,yI,yI,yD,yD,yD,yD,yL,yL,yL,yL,yL,yL,yL,yI,yL,yL,yL,yL,yL,yL,yL,yL,yL,yL,yI] (fun m R k (y:Int) (ad:LL) (ae ag:Int) (z:LL) (aa a:Int) (ah ai ab ac:D) (b c d e f g h:LL) (i:Int) (j l o p q r s t u v:LL) (x:Int)=>Qp n y z aa ab ac (fun a aj b c d e f g h i j l o p q r s t u v x=>k (.exit 2) ⟨173,[(0,.ptr 1000000 0),(2,dI y),(3,.ptr 3 0),(20,dL 4 ad),(21,dI ae),(22,dI ag),(28,dL 4 z),(29,dI aa),(30,dI a),(31,dB aj)],[(3,.box [.d ah,.d ai,.d ab,.d ac]),(98012,.arr 3 1 b),(98017,.arr 54 3 c),(98018,.arr 52 6 d),(1000000,.box [dL 1 e,dL 1 f,dL 5 g,dL 6 h,dI i,dL 5 j,dL 2 l,dL 4 o,dL 7 p,dL 4 q,dL 5 r,dL 3 s,.arr 98012,dL 1 t,dL 1 u,dL 4 v,dI x,.arr 98017,.arr 98018])]⟩) m a b c d e f g h i j l o p q r s t u v x) m
noncomputable def J3 (n:Nat) (m:Nat):LpE Tryz.prog:=mkL (QR n).ok [J0 n n] 1 (cA [0,1,2,2] (Q6 Tryz.f30)) ⟨173,[(0,.ptr 1000000 0),(20,.l 4),(21,tI),(22,tI)],[(98012,.arr 3 1),(98017,.arr 54 3),(98018,.arr 52 6),(1000000,.box [.l 1,.l 1,.l 5,.l 6,tI,.l 5,.l 2,.l 4,.l 7,.l 4,.l 5,.l 3,.arr 98012,.l 1,.l 1,.l 4,tI,.arr 98017,.arr 98018])]⟩ [yL,yI,yI,yL,yL,yL,yL,yL,yL,yL,yI,yL,yL,yL,yL,yL,yL,yL,yL,yL,yL,yI] (fun m R k y h2 a b c d e f g h i j l o p q r s t u v x=>QB n y h2 (fun a z b c d e f g h i j l o p q r s t u v x=>k (.exit 0) ⟨173,[(0,.ptr 1000000 0),(20,dL 4 y),(21,dI h2),(22,dI a),(23,dB z)],[(98012,.arr 3 1 b),(98017,.arr 54 3 c),(98018,.arr 52 6 d),(1000000,.box [dL 1 e,dL 1 f,dL 5 g,dL 6 h,dI i,dL 5 j,dL 2 l,dL 4 o,dL 7 p,dL 4 q,dL 5 r,dL 3 s,.arr 98012,dL 1 t,dL 1 u,dL 4 v,dI x,.arr 98017,.arr 98018])]⟩) m a b c d e f g h i j l o p q r s t u v x) m
noncomputable def J2 (n:Nat) (m:Nat):LpE Tryz.prog:=mkL (QR n).ok nT 14 (cA [1,0,1,2,2] (Q6 Tryz.f30)) ⟨173,[(0,.ptr 1000000 0),(84,.l 7),(85,tI),(86,tI)],[(98012,.arr 3 1),(98017,.arr 54 3),(98018,.arr 52 6),(1000000,.box [.l 1,.l 1,.l 5,.l 6,tI,.l 5,.l 2,.l 4,.l 7,.l 4,.l 5,.l 3,.arr 98012,.l 1,.l 1,.l 4,tI,.arr 98017,.arr 98018])]⟩ [yL,yI,yI,yL,yL,yL,yL,yL,yL,yL,yI,yL,yL,yL,yL,yL,yL,yL,yL,yL,yL,yI] (fun m R k y z a b c d e f g h i j l o p q r s t u v x=>QD n y z (fun a aa b c d e f g h i j l o p q r s t u v x=>k (.exit 4) ⟨173,[(0,.ptr 1000000 0),(84,dL 7 y),(85,dI z),(86,dI a),(87,dB aa)],[(98012,.arr 3 1 b),(98017,.arr 54 3 c),(98018,.arr 52 6 d),(1000000,.box [dL 1 e,dL 1 f,dL 5 g,dL 6 h,dI i,dL 5 j,dL 2 l,dL 4 o,dL 7 p,dL 4 q,dL 5 r,dL 3 s,.arr 98012,dL 1 t,dL 1 u,dL 4 v,dI x,.arr 98017,.arr 98018])]⟩) m a b c d e f g h i j l o p q r s t u v x) m
noncomputable def J6 (n:Nat) (m:Nat):LpE Tryz.prog:=mkL (QR n).ok nT 20 (cA [1,1,0,1,2,2] (Q6 Tryz.f30)) ⟨173,[(0,.ptr 1000000 0),(119,.l 4),(120,tI),(121,tI)],[(98012,.arr 3 1),(98017,.arr 54 3),(98018,.arr 52 6),(1000000,.box [.l 1,.l 1,.l 5,.l 6,tI,.l 5,.l 2,.l 4,.l 7,.l 4,.l 5,.l 3,.arr 98012,.l 1,.l 1,.l 4,tI,.arr 98017,.arr 98018])]⟩ [yL,yI,yI,yL,yL,yL,yL,yL,yL,yL,yI,yL,yL,yL,yL,yL,yL,yL,yL,yL,yL,yI] (fun m R k y z a b c d e f g h i j l o p q r s t u v x=>QC n y z (fun a aa b c d e f g h i j l o p q r s t u v x=>k (.exit 6) ⟨173,[(0,.ptr 1000000 0),(119,dL 4 y),(120,dI z),(121,dI a),(122,dB aa)],[(98012,.arr 3 1 b),(98017,.arr 54 3 c),(98018,.arr 52 6 d),(1000000,.box [dL 1 e,dL 1 f,dL 5 g,dL 6 h,dI i,dL 5 j,dL 2 l,dL 4 o,dL 7 p,dL 4 q,dL 5 r,dL 3 s,.arr 98012,dL 1 t,dL 1 u,dL 4 v,dI x,.arr 98017,.arr 98018])]⟩) m a b c d e f g h i j l o p q r s t u v x) m
noncomputable def J7 (n:Nat) (m:Nat):LpE Tryz.prog:=mkL (QR n).ok nT 25 (cA [1,1,1,1,2,2] (Q6 Tryz.f30)) ⟨173,[(0,.ptr 1000000 0),(146,.l 5),(147,tI),(148,tI)],[(98012,.arr 3 1),(98017,.arr 54 3),(98018,.arr 52 6),(1000000,.box [.l 1,.l 1,.l 5,.l 6,tI,.l 5,.l 2,.l 4,.l 7,.l 4,.l 5,.l 3,.arr 98012,.l 1,.l 1,.l 4,tI,.arr 98017,.arr 98018])]⟩ [yL,yI,yI,yL,yL,yL,yL,yL,yL,yL,yI,yL,yL,yL,yL,yL,yL,yL,yL,yL,yL,yI] (fun m R k y z a b c d e f g h i j l o p q r s t u v x=>QE n y z (fun a aa b c d e f g h i j l o p q r s t u v x=>k (.exit 8) ⟨173,[(0,.ptr 1000000 0),(146,dL 5 y),(147,dI z),(148,dI a),(149,dB aa)],[(98012,.arr 3 1 b),(98017,.arr 54 3 c),(98018,.arr 52 6 d),(1000000,.box [dL 1 e,dL 1 f,dL 5 g,dL 6 h,dI i,dL 5 j,dL 2 l,dL 4 o,dL 7 p,dL 4 q,dL 5 r,dL 3 s,.arr 98012,dL 1 t,dL 1 u,dL 4 v,dI x,.arr 98017,.arr 98018])]⟩) m a b c d e f g h i j l o p q r s t u v x) m
noncomputable def WB (n:Nat):EnP Tryz.prog 30:=mkG (QR n).ok [J3 n n,J2 n n,J6 n n,J7 n n] 30 Tryz.f30 [eP 1000000 19,sL 1,sL 1,sL 5,sL 6,sI,sL 5,sL 2,sL 4,sL 7,sL 4,sL 5,sL 3,eR 1000001 3 1,sL 1,sL 1,sL 4,sI,eR 1000002 54 3,eR 1000003 52 6] [eT 0,eI 1000000 19,sL 1,sL 1,sL 5,sL 6,sI,sL 5,sL 2,sL 4,sL 7,sL 4,sL 5,sL 3,eR 98012 3 1,sL 1,sL 1,sL 4,sI,eR 98017 54 3,eR 98018 52 6,eG 1000001,eG 1000002,eG 1000003] [98012,98017,98018] (pK (XS n))

noncomputable def ZH (n:Nat):VB:=Xa [] [cO 0 [2,3] [3,1000000,1000001],cO 1 [] [1000000,1000001]]
noncomputable def ZZ (n:Nat):EnP Tryz.prog 114:=mkG (ZH n).ok nT 114 Tryz.f114 [eA [qI,qI,qI],eA [qI,qI,qI],eP 1000000 1,eM 1000001 145] [eT 0,eI 1000000 1,eH 1000001,eQ 1000001 145] [] (pK (Xe n))

noncomputable def ZJ (n:Nat):VB:=Xa [⟨114,ZZ n⟩] [(0,⟨[0,2,4],(zp (4::rg1 1000000 6 []) [4,1000000,98012,98017,98018,1000004,1000005]),[],[],[]⟩),cO 1 [0,2,4,17,18,19] [4,98012,98017,98018,1000000,1000004,1000005],cO 2 [0,2,4,17,18,19,20] [4,98012,98017,98018,1000000,1000004,1000005],cO 3 [0,2,4,7,17,18,19] [4,7,98012,98017,98018,1000000,1000004,1000005],cO 4 [0,2,4,7,17,18,19,30,31,32] [4,7,98012,98017,98018,1000000,1000004,1000005],cO 5 [0,2,4,7,17,18,19,30,31,32,33] [4,7,98012,98017,98018,1000000,1000004,1000005],cO 6 [0,2,4,7,9,17,18,19,30,31,32] [4,7,9,98012,98017,98018,1000000,1000004,1000005],cO 7 [0,2,4,7,9,17,18,19,30,31,32,50] [4,7,9,98012,98017,98018,1000000,1000004,1000005],cO 8 [0,2,4,7,17,18,19,30,31,32] [4,7,98012,98017,98018,1000000,1000004,1000005],cO 9 [0,2,4,7,17,18,19,30,31,32] [4,7,98012,98017,98018,1000000,1000004,1000005],cO 10 [0,2,4,17,18,19] [4,98012,98017,98018,1000000,1000004,1000005]]
noncomputable def Ka (n:Nat) (m:Nat):LpE Tryz.prog:=mkL (ZJ n).ok nT 5 (cA [1,1,2,2,1,1,0,2,1,1,2,2] (Q6 Tryz.f65)) ⟨57,[(0,.ptr 1000000 0),(2,.fn 114 [.ptr 1000004 0]),(4,.ptr 4 0),(7,.ptr 7 0),(17,.l 3),(18,tI),(19,tI),(30,.l 3),(31,tI),(32,tI)],[(4,.box [tI,tI,tI,tI]),(7,.box [.x,.x,.x]),(98012,.arr 3 1),(98017,.arr 54 3),(98018,.arr 52 6),(1000000,.box [.l 1,.l 1,.l 5,.l 6,tI,.l 5,.l 2,.l 4,.l 7,.l 4,.l 5,.l 3,.arr 98012,.l 1,.l 1,.l 4,tI,.arr 98017,.arr 98018]),(1000004,.box [.arr 1000005]),(1000005,.mp 145)]⟩ [yL,yI,yI,yL,yI,yI,yI,yI,yI,yI,yD,yD,yD,yL,yL,yL,yL,yL,yL,yL,yI,yL,yL,yL,yL,yL,yL,yL,yL,yL,yL,yI,yP] (fun m R k (i:LL) (j l:Int) (c:LL) (d a o p e q:Int) (f g h:D) (r s t u v x y:LL) (z:Int) (aa ab ac ad ae ag ah ai aj ak:LL) (al:Int) (b:Int->Bool)=>X8 n c d e f g h (fun a am b=>k (.exit 2) ⟨57,[(0,.ptr 1000000 0),(2,.fn 114 [.ptr 1000004 0]),(4,.ptr 4 0),(7,.ptr 7 0),(17,dL 3 i),(18,dI j),(19,dI l),(30,dL 3 c),(31,dI d),(32,dI a),(33,dB am)],[(4,.box [dI o,dI p,dI e,dI q]),(7,.box [.d f,.d g,.d h]),(98012,.arr 3 1 r),(98017,.arr 54 3 s),(98018,.arr 52 6 t),(1000000,.box [dL 1 u,dL 1 v,dL 5 x,dL 6 y,dI z,dL 5 aa,dL 2 ab,dL 4 ac,dL 7 ad,dL 4 ae,dL 5 ag,dL 3 ah,.arr 98012,dL 1 ai,dL 1 aj,dL 4 ak,dI al,.arr 98017,.arr 98018]),(1000004,.box [.arr 1000005]),(1000005,.mp 145 b)]⟩) m a b) m
noncomputable def Kh (n:Nat) (m:Nat):LpE Tryz.prog:=mkL (ZJ n).ok [Ka n n] 2 (cA [1,1,2,2] (Q6 Tryz.f65)) ⟨57,[(0,.ptr 1000000 0),(2,.fn 114 [.ptr 1000004 0]),(4,.ptr 4 0),(17,.l 3),(18,tI),(19,tI)],[(4,.box [tI,tI,tI,tI]),(98012,.arr 3 1),(98017,.arr 54 3),(98018,.arr 52 6),(1000000,.box [.l 1,.l 1,.l 5,.l 6,tI,.l 5,.l 2,.l 4,.l 7,.l 4,.l 5,.l 3,.arr 98012,.l 1,.l 1,.l 4,tI,.arr 98017,.arr 98018]),(1000004,.box [.arr 1000005]),(1000005,.mp 145)]⟩ [yL,yI,yI,yI,yI,yI,yI,yL,yL,yL,yL,yL,yL,yL,yI,yL,yL,yL,yL,yL,yL,yL,yL,yL,yL,yI,yP] (fun m R k (c:LL) (d a h e f i:Int) (j l o p q r s:LL) (t:Int) (u v x y z aa ab g ac ad:LL) (ae:Int) (b:Int->Bool)=>QQ n c d e f g (fun a ag b=>k (.exit 0) ⟨57,[(0,.ptr 1000000 0),(2,.fn 114 [.ptr 1000004 0]),(4,.ptr 4 0),(17,dL 3 c),(18,dI d),(19,dI a),(20,dB ag)],[(4,.box [dI h,dI e,dI f,dI i]),(98012,.arr 3 1 j),(98017,.arr 54 3 l),(98018,.arr 52 6 o),(1000000,.box [dL 1 p,dL 1 q,dL 5 r,dL 6 s,dI t,dL 5 u,dL 2 v,dL 4 x,dL 7 y,dL 4 z,dL 5 aa,dL 3 ab,.arr 98012,dL 1 g,dL 1 ac,dL 4 ad,dI ae,.arr 98017,.arr 98018]),(1000004,.box [.arr 1000005]),(1000005,.mp 145 b)]⟩) m a b) m
noncomputable def KK (n:Nat):EnP Tryz.prog 65:=mkG (ZJ n).ok [Kh n n] 65 Tryz.f65 [eP 1000000 19,sL 1,sL 1,sL 5,sL 6,sI,sL 5,sL 2,sL 4,sL 7,sL 4,sL 5,sL 3,eR 1000001 3 1,sL 1,sL 1,sL 4,sI,eR 1000002 54 3,eR 1000003 52 6,eA [qI,qI,qI,qI],eF 114 1,eP 1000004 1,eM 1000005 145] [eT 0,eI 1000000 19,sL 1,sL 1,sL 5,sL 6,sI,sL 5,sL 2,sL 4,sL 7,sL 4,sL 5,sL 3,eR 98012 3 1,sL 1,sL 1,sL 4,sI,eR 98017 54 3,eR 98018 52 6,eI 1000004 1,eH 1000005,eQ 1000005 145,eG 1000001,eG 1000002,eG 1000003] [98012,98017,98018] (pK (WY n))

noncomputable def Zy (n:Nat):VB:=Xa [⟨65,KK n⟩] [(0,⟨[0,1,2],(zp (rg1 1000000 4 []) [1000000,98012,98017,98018]),[],[],[]⟩),cO 1 [0,1,2,7] [7,10,98012,98017,98018,1000000],cO 2 [0,1,2,7,14,15,16] [7,10,98012,98017,98018,1000000],cO 3 [0,1,2,7,14,15,16,17] [7,10,98012,98017,98018,1000000],cO 4 [0,1,2,7,9,14,15,16] [7,9,10,98012,98017,98018,1000000],cO 5 [0,1,2,7,9,14,15,16,41] [7,9,10,98012,98017,98018,1000000],(6,⟨[0,1,2,7,14,15,16],(zp (7::10::rg5 50045 3 [1000000]) [7,10,98012,98017,98018,1000000]),[],[],[]⟩),cO 7 [0,1,2,7,14,15,16] [7,10,98012,98017,98018,1000000],cO 8 [6] [10,98012,98017,98018,1000000]]
noncomputable def V9 (n:Nat) (m:Nat):LpE Tryz.prog:=mkL (Zy n).ok nT 3 (cA [1,1,0,1,2,2] (Q6 Tryz.f70)) ⟨48,[(0,.ptr 1000000 0),(1,tI),(2,tI),(7,.ptr 7 0),(14,.l 4),(15,tI),(16,tI)],[(7,.box [.arr 10]),(10,.mp 145),(98012,.arr 3 1),(98017,.arr 54 3),(98018,.arr 52 6),(1000000,.box [.l 1,.l 1,.l 5,.l 6,tI,.l 5,.l 2,.l 4,.l 7,.l 4,.l 5,.l 3,.arr 98012,.l 1,.l 1,.l 4,tI,.arr 98017,.arr 98018])]⟩ [yI,yI,yL,yI,yI,yP,yL,yL,yL,yL,yL,yL,yL,yI,yL,yL,yL,yL,yL,yL,yL,yL,yL,yL,yI] (fun m R k (z h2:Int) (h3:LL) (h4 a:Int) (b:Int->Bool) (c d e f g h i:LL) (j:Int) (l o p q r s t u v x:LL) (y:Int)=>Qq n z h2 h3 h4 (fun a ac b c d e f g h i j l o p q r s t u v x y=>k (.exit 0) ⟨48,[(0,.ptr 1000000 0),(1,dI z),(2,dI h2),(7,.ptr 7 0),(14,dL 4 h3),(15,dI h4),(16,dI a),(17,dB ac)],[(7,.box [.arr 10]),(10,.mp 145 b),(98012,.arr 3 1 c),(98017,.arr 54 3 d),(98018,.arr 52 6 e),(1000000,.box [dL 1 f,dL 1 g,dL 5 h,dL 6 i,dI j,dL 5 l,dL 2 o,dL 4 p,dL 7 q,dL 4 r,dL 5 s,dL 3 t,.arr 98012,dL 1 u,dL 1 v,dL 4 x,dI y,.arr 98017,.arr 98018])]⟩) m a b c d e f g h i j l o p q r s t u v x y) m
noncomputable def Vk (n:Nat):EnP Tryz.prog 70:=mkG (Zy n).ok [V9 n n] 70 Tryz.f70 [eP 1000000 19,sL 1,sL 1,sL 5,sL 6,sI,sL 5,sL 2,sL 4,sL 7,sL 4,sL 5,sL 3,eR 1000001 3 1,sL 1,sL 1,sL 4,sI,eR 1000002 54 3,eR 1000003 52 6,sI,sI] [eM 10 145,eI 1000000 19,sL 1,sL 1,sL 5,sL 6,sI,sL 5,sL 2,sL 4,sL 7,sL 4,sL 5,sL 3,eR 98012 3 1,sL 1,sL 1,sL 4,sI,eR 98017 54 3,eR 98018 52 6,eG 1000001,eG 1000002,eG 1000003] [10,98012,98017,98018] (pK (XB n))

noncomputable def JP (n:Nat):VB:=Xa [] [cO 0 [0,1] [1000000],cO 1 [0,1,5] [1000000],(2,⟨[1,5,8,9,10],[(1000000,1000000)],[(5,1005,142,3)],[],[]⟩),cO 3 [1,5,8,9,10,11] [1005,1000000],cO 4 [1,5,7,8,9,10] [7,1005,1000000],cO 5 [1,5,7,8,9,10,18] [7,1005,1000000],cO 6 [1,5,8,9,10] [22,1000000],cO 7 [1,5,8,9,10] [22,1000000,1005],cO 8 [4] [1005,1000000],(3000000003,⟨[1,5,8,9,10],(zp [22,1005,1000000] [1005,1005,1000000]),[],[],[]⟩)]
noncomputable def P9 (n:Nat) (m:Nat):LpE Tryz.prog:=mkL (JP n).ok nT 3 (cA [1,1,0,1,2,2] (Q6 Tryz.f72)) ⟨25,[(1,.arr 1000000),(5,.arr 1005),(8,.l 3),(9,tI),(10,tI)],[(1005,.arr 142 3),(1000000,.mp 145)]⟩ [yL,yI,yI,yL,yP] (fun m R k c h2 a b d=>XE n c h2 d (fun a e b=>k (.exit 0) ⟨25,[(1,.arr 1000000),(5,.arr 1005),(8,dL 3 c),(9,dI h2),(10,dI a),(11,dB e)],[(1005,.arr 142 3 b),(1000000,.mp 145 d)]⟩) m a b) m
noncomputable def Sl (n:Nat):EnP Tryz.prog 72:=QbF (mkG (JP n).ok [P9 n n] 72 Tryz.f72 [sL 3,eM 1000000 145] [eR 1005 142 3,eQ 1000000 145] [1005] (pK (Wa n)))

noncomputable def RC (n:Nat):VB:=Xa [] [cK 0 [0],cK 1 [2]]
noncomputable def Jx (n:Nat):EnP Tryz.prog 170:=mkE (RC n).ok nT 170 Tryz.f170 [[0]] [sI] [sB] (pK (Wu n))

noncomputable def As (n:Nat):VB:=Xa [] [cK 0 [0,1],cK 1 [0,1,7],cK 2 [4],cK 3 [1,5],cK 4 [1,5,12],cK 5 [5],cK 6 [4]]
noncomputable def ET (n:Nat):EnP Tryz.prog 92:=mkE (As n).ok nT 92 Tryz.f92 [[0]] [sI,sI] [sI] (pK (P7 n))

noncomputable def HJ (n:Nat):VB:=Xa [] [cK 0 [0,1,2,3],cK 1 (rg1 0 4 [9]),(2,⟨[8],[],[(8,96001,119,2)],[],[]⟩),cK 3 (rg1 0 4 [13]),(4,⟨[8],[(21,96001)],[],[],[]⟩),cK 5 (rg1 0 4 [22]),(6,⟨[8],[(35,96001)],[],[],[]⟩),(7,⟨[8],[(47,96001)],[],[],[]⟩)]
noncomputable def TF (n:Nat):EnP Tryz.prog 171:=mkG (HJ n).ok nT 171 Tryz.f171 [eN,sI,sI,sI] [eR 96001 119 2] [96001] (pK (UJ n))

noncomputable def EO (n:Nat):VB:=Xa [⟨170,Jx n⟩,⟨92,ET n⟩,⟨171,TF n⟩] [cK 0 [0,1,2],cK 1 [0,1,2,10],(2,⟨[6,7],[],[(6,50016,119,2)],[],[]⟩),cO 3 [6,7] [50016]]
noncomputable def Dp (n:Nat):EnP Tryz.prog 148:=mkG (EO n).ok nT 148 Tryz.f148 [sI,sI,sI] [eT 2,eR 50016 119 2,sI] [50016] (pK (Kk n))

noncomputable def Tl (n:Nat):VB:=Xa [⟨170,Jx n⟩] [cK 0 [0,1],cK 1 [0,1,10],cK 2 [4],cK 3 [0,1,5],cK 4 [0,5,11,12,13],cK 5 [0,5,11,12,13,14],cO 6 [0,5,7,11,12,13] [7],cO 7 [0,7,11,12,13,33] [7],cK 8 [4],cK 9 [0,5,11,12,13],cK 10 [0,5,11,12,13],cK 11 [4]]
noncomputable def Lh (n:Nat) (m:Nat):LpE Tryz.prog:=mkL (Tl n).ok nT 5 (cA [1,1,1,0,1,2,2] (Q6 Tryz.f150)) ⟨37,[(0,tI),(5,tI),(11,.l 2),(12,tI),(13,tI)],[]⟩ [yI,yI,yL,yI,yI] (fun m R k h2 a c d b=>ZR n h2 c d (k .ret ⟨37,[(4,dB false)],[]⟩) (fun a b e=>k (.exit 0) ⟨37,[(0,dI h2),(5,dI a),(11,dL 2 c),(12,dI d),(13,dI b),(14,dB e)],[]⟩) m a b) m
noncomputable def PF (n:Nat):EnP Tryz.prog 150:=mkE (Tl n).ok [Lh n n] 150 Tryz.f150 [[0]] [sI,sL 2] [sB] (pK (Vt n))

noncomputable def Tj (n:Nat):VB:=Xa [⟨170,Jx n⟩,⟨150,PF n⟩] [cK 0 [0,1],cK 1 [0,1,9],cK 2 [4],cK 3 [0,10,11,12],cK 4 (0::rg1 10 4 []),cK 5 [0,6,10,11,12],cK 6 [0,10,11,12,19],cK 7 [4],cK 8 [0,10,11,12],cK 9 [4]]
noncomputable def LO (n:Nat) (m:Nat):LpE Tryz.prog:=mkL (Tj n).ok nT 4 (cA [1,1,0,1,2,2] (Q6 Tryz.f172)) ⟨21,[(0,tI),(10,.l 1),(11,tI),(12,tI)],[]⟩ [yI,yL,yI,yI] (fun m R k h2 b c a=>ZM n h2 b c (k .ret ⟨21,[(4,dI (1:Int))],[]⟩) (fun a d=>k (.exit 0) ⟨21,[(0,dI h2),(10,dL 1 b),(11,dI c),(12,dI a),(13,dB d)],[]⟩) m a) m
noncomputable def Py (n:Nat):EnP Tryz.prog 172:=mkE (Tj n).ok [LO n n] 172 Tryz.f172 [[0]] [sI,sL 1] [sI] (pK (Gp n))

noncomputable def Z4 (n:Nat):VB:=Xa [] [cK 0 [0,1],cK 1 [0,1,6],cK 2 [0,1],cK 3 [0,1],cK 4 [0,1,16],cO 5 [0] [25],(6,⟨[4],[(25,96001)],[(4,96001,119,2)],[],[]⟩)]
noncomputable def Zp (n:Nat):EnP Tryz.prog 190:=mkG (Z4 n).ok nT 190 Tryz.f190 [eN,sI] [eR 96001 119 2] [96001] (pK (QA n))

noncomputable def QU (n:Nat):VB:=Xa [⟨190,Zp n⟩] [cK 0 [0],cK 1 [0,3],cK 2 [0,3,9,10,11],cK 3 [0,3,9,10,11,12],cK 4 [0,3,5,9,10,11],cK 5 [0,3,9,10,11],cK 6 [0,3,9,10,11,20],cK 7 [0,3,9,10,11],cK 8 [0,3,9,10,11],cO 9 [0,6] [50024],cO 10 [6,25,26,27] [50024],cO 11 (6::rg1 25 4 []) [50024],cO 12 [6,8,25,26,27] [50024],cO 13 [6,25,26,27] [33],cO 14 [6,25,26,27] [33],cO 15 [2] [50024],(3000000011,⟨[6,25,26,27],[(33,50024),(50024,50024)],[],[],[]⟩)]
noncomputable def Zk (n:Nat) (m:Nat):LpE Tryz.prog:=mkL (QU n).ok nT 3 (cA [1,1,0,1,2,2] (Q6 Tryz.f174)) ⟨36,[(0,.l 1),(3,tI),(9,.l 1),(10,tI),(11,tI)],[]⟩ [yL,yI,yL,yI,yI] (fun m R k d h2 b c a=>Qc n b c (fun h2 a e=>k (.exit 0) ⟨36,[(0,dL 1 d),(3,dI h2),(9,dL 1 b),(10,dI c),(11,dI a),(12,dB e)],[]⟩) m h2 a) m
noncomputable def Zl (n:Nat) (m:Nat):LpE Tryz.prog:=mkL (QU n).ok nT 11 (cA [1,1,1,1,0,1,2,2] (Q6 Tryz.f174)) ⟨36,[(6,.arr 50024),(25,.l 1),(26,tI),(27,tI)],[(50024,.arr 119 2)]⟩ [yL,yI,yI,yL] (fun m R k c d a b=>Qd n c d (fun a e b=>k (.exit 2) ⟨36,[(6,.arr 50024),(25,dL 1 c),(26,dI d),(27,dI a),(28,dB e)],[(50024,.arr 119 2 b)]⟩) m a b) m
noncomputable def XH (n:Nat):EnP Tryz.prog 174:=mkG (QU n).ok [Zk n n,Zl n n] 174 Tryz.f174 [sL 1] [eR 50024 119 2] [50024] (pK (QF n))

noncomputable def Nn (n:Nat):VB:=Xa [] [cK 0 [0,2],cK 1 [0,2,4],cK 2 [0],cK 3 [0,2],cK 4 [0,2,8],cK 5 [0,2],cK 6 [0,2],cK 7 [2]]
noncomputable def NV (n:Nat):EnP Tryz.prog 211:=mkE (Nn n).ok nT 211 Tryz.f211 [[0]] [eD (.i .u32)] [sI] (pK (PJ n))

noncomputable def RB (n:Nat):VB:=Xa [] [cK 0 [0,2],cK 1 [0,2,4],cK 2 [0],cK 3 [0,2],cK 4 [0,2,8],cK 5 [0,2],cK 6 [0,2],cK 7 [0,2,14],cK 8 [0,2],cK 9 [0,2],cK 10 [2]]
noncomputable def MB (n:Nat):EnP Tryz.prog 212:=mkE (RB n).ok nT 212 Tryz.f212 [[0]] [eD (.i .u64)] [sI] (pK (P2 n))

noncomputable def LQ (n:Nat):VB:=Xa [⟨211,NV n⟩,⟨212,MB n⟩] [cK 0 [0],cK 1 [2],cK 2 [2]]
noncomputable def TU (n:Nat):EnP Tryz.prog 196:=mkE (LQ n).ok nT 196 Tryz.f196 [[0]] [eD (.i .u64)] [sI] (pK (HD n))

noncomputable def Ld (n:Nat):VB:=Xa [] [cK 0 [0],cK 1 [2]]
noncomputable def FI (n:Nat):EnP Tryz.prog 197:=mkE (Ld n).ok nT 197 Tryz.f197 [[0]] [sI] [sB] (pK (VK n))

noncomputable def RK (n:Nat):VB:=Xa [⟨197,FI n⟩] [cK 0 [0,1],cK 1 [0,1,5],cK 2 [0,1,5,6],cK 3 [0,1,6,11],cK 4 [12],cK 5 [4],cK 6 [4],cK 7 [0,1,13],cK 8 [4],cK 9 [0,1,16],cK 10 [4],cK 11 [19],cK 12 [4],cK 13 [4]]
noncomputable def Mb (n:Nat):EnP Tryz.prog 189:=mkE (RK n).ok nT 189 Tryz.f189 [[0]] [sI,sI] [sI] (pK (VX n))

noncomputable def GH (n:Nat):VB:=Xa [⟨189,Mb n⟩] [cO 0 [2,3] [2,3],cK 1 [4]]
noncomputable def Kf (n:Nat):EnP Tryz.prog 188:=mkE (GH n).ok nT 188 Tryz.f188 [[0]] [eA [qI,qI],eA [qI,qI]] [sI] (pK (Wv n))

noncomputable def Qx (n:Nat):VB:=Xa [⟨188,Kf n⟩] [cO 0 (rg1 0 4 [8]) [1000000],cO 1 (rg1 0 4 [8,14]) [1000000],cO 2 (rg1 0 4 [8]) [1000000],cO 3 (rg1 0 4 [8,9]) [1000000],cO 4 (rg1 0 4 [8,9,34]) [1000000],cO 5 (rg1 0 4 [8,9]) [1000000],cO 6 (rg1 0 4 [8,9]) [1000000]]
noncomputable def ZA (n:Nat) (m:Nat):LpE Tryz.prog:=mkL (Qx n).ok nT 4 (cA [1,2,2,1,0,2,1,2,2] (Q6 Tryz.f203)) ⟨53,[(0,.arr 1000000),(1,tI),(2,tI),(3,.fn 188 []),(8,tI),(9,tI)],[(1000000,.arr 119 2)]⟩ [yI,yI,yI,yI,yL] (fun m R k c d e a b=>Qe n c (fun a f b=>k (.exit 2) ⟨53,[(0,.arr 1000000),(1,dI c),(2,dI d),(3,.fn 188 []),(8,dI e),(9,dI a),(34,dB f)],[(1000000,.arr 119 2 b)]⟩) m a b) m
noncomputable def XC (n:Nat) (m:Nat):LpE Tryz.prog:=mkL (Qx n).ok [ZA n n] 1 (cA [1,2,2] (Q6 Tryz.f203)) ⟨53,[(0,.arr 1000000),(1,tI),(2,tI),(3,.fn 188 []),(8,tI)],[(1000000,.arr 119 2)]⟩ [yI,yI,yI,yL] (fun m R k c h2 a b=>Q7 n c h2 (fun a d b=>k (.exit 0) ⟨53,[(0,.arr 1000000),(1,dI c),(2,dI h2),(3,.fn 188 []),(8,dI a),(14,dB d)],[(1000000,.arr 119 2 b)]⟩) m a b) m
def QZ:AV->List (Nat × Ob)->Option (LL):=fun av H=>(look H 1000000).bind fun a=>match av,a with
 | .tup [],.arr p0 p1 b=>bif Nat.beq p0 119&&(Nat.beq p1 2) then some b else none
 | _,_=>none
theorem Zr (n:Nat) (a:LL) (a1 a2:Int):vfnT (Qx n).C [XC n n] Tryz.f203 [.arr 1000000,.d (D.int .i64 a1),.d (D.int .i64 a2),.fn 188 []] [(1000000,.arr 119 2 a)] QZ=QH n a a1 a2 some:=by kernel_rfl
def X5 (n:Nat):GC:=fun _ am g ak hl k=>match ak with
 | [.gd _ _ .nil]=>bif g then none else k ⟨.nil,[],[]⟩
 | [c0,c1,b,c]=>prR hl 119 2 c0 fun l0 a=>prI g .i64 c1 fun a1=>prI g .i64 b fun a2=>prF 188 c fun d=>(match d with
  | []=>
  bif Ho hl [(1000000,l0)] [] then gb g (QH n a a1 a2 some) [] fun r=>gb g (K9 r (List.length a)) () fun _=>k ⟨.tup [],[(l0,some (.arr 119 2 r))],[l0]⟩ else none
  | _=>none)
 | _=>none
theorem Zw (n:Nat):Ul Tryz.prog 203 (X5 n):=by
  intro R ao g ar hl k r h
  unfold X5 at h
  split at h
  · exact Hm h
  rotate_left
  · cases h
  obtain ⟨l0,a,h,c,d⟩:=N2 h
  obtain ⟨a1,h,e⟩:=VA h
  obtain ⟨a2,h,f⟩:=VA h
  obtain ⟨j,h,i⟩:=Ci h
  split at h
  rotate_left
  · cases h
  obtain ⟨hc,h⟩:=QW h
  obtain ⟨res,h,hr⟩:=Qu h
  obtain ⟨_,h,ak⟩:=Qu h
  have hL:=h
  subst c i
  refine ⟨_,hL,fun hg=>MA (K:=QZ) (res:=res) (Qx n).ok [XC n n] (fn:=Tryz.f203) (ρ:=[(1000000,l0)]) (ν:=[]) (avs':=[.arr 1000000,.d (D.int .i64 a1),.d (D.int .i64 a2),.fn 188 []]) (H:=[(1000000,.arr 119 2 a)]) (.cons (.own rfl rfl) (.cons (.data rfl (e hg)) (.cons (.data rfl (f hg)) (.cons (.own rfl rfl) (.nil))))) hc (⟨⟨by decide,_,_,d,rfl,.arr _ _ _⟩,trivial⟩) ?_ ?_⟩
  · exact (Zr n a a1 a2).trans (hr hg)
  · intro av H' hx
    unfold QZ at hx
    simp only [QdS] at hx
    obtain ⟨l,b,hx⟩:=hx
    split at hx
    rotate_left
    · cases hx
    replace hx:=QW hx
    obtain ⟨am,hx⟩:=hx
    simp only [QdT,Nat.beq_eq] at am
    obtain ⟨rfl,rfl⟩:=am
    injection hx with hx
    subst hx
    refine ⟨rfl,?_,trivial,⟨KY rfl b (GF (ak hg)),trivial⟩⟩
    simp only [List.cons_append,List.nil_append,KE,b,Option.map_some,Option.map_none]
    rfl

noncomputable def Y3 (n:Nat):VC:=⟨Gb [(203,X5 n)],gtt,[cO 0 (rg1 0 5 [10]) [1000000],cO 1 (rg1 0 5 [10,11]) [1000000],cO 2 (rg1 0 5 [10,11,12]) [1000000],cO 3 (rg1 0 5 [10,11,12,25]) [1000000],cO 4 [] [1000000],cO 5 (rg1 0 5 [10,11,12,32]) [1000000],cK 6 [],cO 7 (rg1 0 5 [10,11,12,39]) [1000000],cK 8 (rg1 0 5 [10,11,12]),cK 9 (rg1 0 5 [10,11,12]),cK 10 (rg1 0 5 (rg1 10 5 [])),cK 11 (rg1 0 5 (rg1 10 5 [56])),cK 12 (rg1 0 5 (rg1 10 4 [])),cK 13 (rg1 0 5 (rg1 10 4 [])),cK 14 (rg1 0 5 (rg1 10 5 [])),cK 15 (rg1 0 5 (rg1 10 4 [75])),cK 16 (rg1 0 5 (rg1 10 4 [80])),cK 17 (rg1 0 5 (rg1 10 4 [97])),cK 18 [0,2,3,4,10,11,15],cK 19 (rg1 0 5 [10,11]),cK 20 (rg1 0 5 [12,16,17]),cK 21 (rg1 0 5 [11,12,16]),cK 22 (rg1 0 5 [11,12,16,18,19]),cK 23 (rg1 0 5 [11,16,18,19,20]),cK 24 (rg1 0 5 [11,16,18,19,20,125]),cK 25 (rg1 0 5 [10,11,16]),cK 26 [0,2,3,4,10,11,16],cK 27 (rg1 0 5 [10,11]),cK 28 (rg1 0 5 [10,11,16]),cK 29 [0,1,3,4,10,11,16],cK 30 (rg1 0 5 [10,11])]⟩
theorem XV (n:Nat):VCOk Tryz.prog (Y3 n):=gVC (U8 ⟨Zw n,trivial⟩)
noncomputable def XW (n:Nat) (m:Nat):LpE Tryz.prog:=mkL (XV n) nT 2 (cA [1,1,2,2] (Q6 Tryz.f195)) ⟨148,[(0,.arr 1000000),(1,tI),(2,tI),(3,tI),(4,.fn 188 []),(10,.cb true),(11,.cb true)],[(1000000,.arr 119 2)]⟩ [yI,yI,yI,yL] (fun m R k a h2 b c=>Xl n a h2 b c (fun d=>k .ret ⟨148,[],[(1000000,.arr 119 2 d)]⟩) m ) m
def Xn:AV->List (Nat × Ob)->Option (LL):=fun av H=>(look H 1000000).bind fun a=>match av,a with
 | .tup [],.arr p0 p1 b=>bif Nat.beq p0 119&&(Nat.beq p1 2) then some b else none
 | _,_=>none
theorem Wp (n:Nat) (a:LL) (a1 a2 a3:Int):vfnT (Y3 n) [XW n n] Tryz.f195 [.arr 1000000,.d (D.int .i64 a1),.d (D.int .i64 a2),.d (D.int .i64 a3),.fn 188 []] [(1000000,.arr 119 2 a)] Xn=QY n a a1 a2 a3 some:=by kernel_rfl
def Xq (n:Nat):GC:=fun _ am g ak hl k=>match ak with
 | [.gd _ _ .nil]=>bif g then none else k ⟨.nil,[],[]⟩
 | [c0,c1,b,c,d]=>prR hl 119 2 c0 fun l0 a=>prI g .i64 c1 fun a1=>prI g .i64 b fun a2=>prI g .i64 c fun a3=>prF 188 d fun e=>(match e with
  | []=>
  bif Ho hl [(1000000,l0)] [] then gb g (QY n a a1 a2 a3 some) [] fun r=>gb g (K9 r (List.length a)) () fun _=>k ⟨.tup [],[(l0,some (.arr 119 2 r))],[l0]⟩ else none
  | _=>none)
 | _=>none
theorem Wy (n:Nat):Ul Tryz.prog 195 (Xq n):=by
  intro R ao g ar hl k r h
  unfold Xq at h
  split at h
  · exact Hm h
  rotate_left
  · cases h
  obtain ⟨l0,a,h,c,d⟩:=N2 h
  obtain ⟨a1,h,e⟩:=VA h
  obtain ⟨a2,h,f⟩:=VA h
  obtain ⟨a3,h,i⟩:=VA h
  obtain ⟨l,h,j⟩:=Ci h
  split at h
  rotate_left
  · cases h
  obtain ⟨hc,h⟩:=QW h
  obtain ⟨res,h,hr⟩:=Qu h
  obtain ⟨_,h,ak⟩:=Qu h
  have hL:=h
  subst c j
  refine ⟨_,hL,fun hg=>MA (K:=Xn) (res:=res) (XV n) [XW n n] (fn:=Tryz.f195) (ρ:=[(1000000,l0)]) (ν:=[]) (avs':=[.arr 1000000,.d (D.int .i64 a1),.d (D.int .i64 a2),.d (D.int .i64 a3),.fn 188 []]) (H:=[(1000000,.arr 119 2 a)]) (.cons (.own rfl rfl) (.cons (.data rfl (e hg)) (.cons (.data rfl (f hg)) (.cons (.data rfl (i hg)) (.cons (.own rfl rfl) (.nil)))))) hc (⟨⟨by decide,_,_,d,rfl,.arr _ _ _⟩,trivial⟩) ?_ ?_⟩
  · exact (Wp n a a1 a2 a3).trans (hr hg)
  · intro av H' hx
    unfold Xn at hx
    simp only [QdS] at hx
    obtain ⟨m,b,hx⟩:=hx
    split at hx
    rotate_left
    · cases hx
    replace hx:=QW hx
    obtain ⟨an,hx⟩:=hx
    simp only [QdT,Nat.beq_eq] at an
    obtain ⟨rfl,rfl⟩:=an
    injection hx with hx
    subst hx
    refine ⟨rfl,?_,trivial,⟨KY rfl b (GF (ak hg)),trivial⟩⟩
    simp only [List.cons_append,List.nil_append,KE,b,Option.map_some,Option.map_none]
    rfl

noncomputable def Xv (n:Nat):VC:=⟨Gb [(196,(TU n).E),(195,Xq n)],gtt,[cO 0 [0,1,4] [1000000],cO 1 [] [1000000]]⟩
theorem YE (n:Nat):VCOk Tryz.prog (Xv n):=gVC (U8 ⟨(TU n).ok,⟨Wy n,trivial⟩⟩)
def QK:AV->List (Nat × Ob)->Option (LL):=fun av H=>(look H 1000000).bind fun a=>match av,a with
 | .tup [],.arr p0 p1 b=>bif Nat.beq p0 119&&(Nat.beq p1 2) then some b else none
 | _,_=>none
theorem Yz (n:Nat) (a:LL):vfnT (Xv n) nT Tryz.f187 [.arr 1000000,.fn 188 []] [(1000000,.arr 119 2 a)] QK=Qf n a some:=by kernel_rfl
def QM (n:Nat):GC:=fun _ am g ak hl k=>match ak with
 | [.gd _ _ .nil]=>bif g then none else k ⟨.nil,[],[]⟩
 | [c0,c1]=>prR hl 119 2 c0 fun l0 a=>prF 188 c1 fun m3=>(match m3 with
  | []=>
  bif Ho hl [(1000000,l0)] [] then gb g (Qf n a some) [] fun r=>gb g (K9 r (List.length a)) () fun _=>k ⟨.tup [],[(l0,some (.arr 119 2 r))],[l0]⟩ else none
  | _=>none)
 | _=>none
theorem YI (n:Nat):Ul Tryz.prog 187 (QM n):=by
  intro R ao g ar hl k r h
  unfold QM at h
  split at h
  · exact Hm h
  rotate_left
  · cases h
  obtain ⟨l0,a,h,c,d⟩:=N2 h
  obtain ⟨m3,h,e⟩:=Ci h
  split at h
  rotate_left
  · cases h
  obtain ⟨hc,h⟩:=QW h
  obtain ⟨res,h,hr⟩:=Qu h
  obtain ⟨_,h,ak⟩:=Qu h
  have hL:=h
  subst c e
  refine ⟨_,hL,fun hg=>MA (K:=QK) (res:=res) (YE n) nT (fn:=Tryz.f187) (ρ:=[(1000000,l0)]) (ν:=[]) (avs':=[.arr 1000000,.fn 188 []]) (H:=[(1000000,.arr 119 2 a)]) (.cons (.own rfl rfl) (.cons (.own rfl rfl) (.nil))) hc (⟨⟨by decide,_,_,d,rfl,.arr _ _ _⟩,trivial⟩) ?_ ?_⟩
  · exact (Yz n a).trans (hr hg)
  · intro av H' hx
    unfold QK at hx
    simp only [QdS] at hx
    obtain ⟨f,b,hx⟩:=hx
    split at hx
    rotate_left
    · cases hx
    replace hx:=QW hx
    obtain ⟨am,hx⟩:=hx
    simp only [QdT,Nat.beq_eq] at am
    obtain ⟨rfl,rfl⟩:=am
    injection hx with hx
    subst hx
    refine ⟨rfl,?_,trivial,⟨KY rfl b (GF (ak hg)),trivial⟩⟩
    simp only [List.cons_append,List.nil_append,KE,b,Option.map_some,Option.map_none]
    rfl

noncomputable def Kt (n:Nat):VC:=⟨Gb [(187,QM n)],gtt,[cO 0 [0] [1000000],cO 1 [0] [1000000],cO 2 [0,3] [1000000],(3,⟨[3,9,10,11],[(1000000,1000000)],[(3,1003,119,2)],[],[]⟩),cO 4 (3::rg1 9 4 []) [1003,1000000],cO 5 [3,5,9,10,11] [5,1003,1000000],cO 6 [3,5,6,9,10,11] [5,1003,1000000],cO 7 [3,5,6,9,10,11,29] [5,1003,1000000],cO 8 [3,9,10,11] [1003,1000000],cO 9 [3,9,10,11] [45,1000000],cO 10 [3,9,10,11] [1003,1000000,45],cO 11 [2] [1003,1000000],(3000000004,⟨[3,9,10,11],(zp [45,1003,1000000] [1003,1003,1000000]),[],[],[]⟩)]⟩
theorem GM (n:Nat):VCOk Tryz.prog (Kt n):=gVC (U8 ⟨YI n,trivial⟩)
noncomputable def GQ (n:Nat) (m:Nat):LpE Tryz.prog:=mkL (GM n) nT 4 (cA [1,1,1,0,1,2,2] (Q6 Tryz.f173)) ⟨48,[(3,.arr 1003),(9,.arr 1000000),(10,tI),(11,tI)],[(1003,.arr 119 2),(1000000,.arr 119 2)]⟩ [yI,yI,yL,yL] (fun m R k c a b d=>X0 n c d (fun a e b=>k (.exit 0) ⟨48,[(3,.arr 1003),(9,.arr 1000000),(10,dI c),(11,dI a),(12,dB e)],[(1003,.arr 119 2 b),(1000000,.arr 119 2 d)]⟩) m a b) m
def V6:AV->List (Nat × Ob)->Option (LL × LL):=fun av H=>(look H 1000000).bind fun a=>(look H 1003).bind fun b=>match av,a,b with
 | .arr p0,.arr p1 c d,.arr e f g=>bif Nat.beq p0 1003&&(Nat.beq p1 119&&(Nat.beq c 2&&(Nat.beq e 119&&(Nat.beq f 2)))) then some (g,d) else none
 | _,_,_=>none
theorem Su (n:Nat) (a:LL):vfnT (Kt n) [GQ n n] Tryz.f173 [.arr 1000000] [(1000000,.arr 119 2 a)] V6=UY n a (fun b c=>some (b,c)):=by kernel_rfl
def VQ (n:Nat):GC:=fun _ ak g am hl k=>match am with
 | [.gd _ _ .nil]=>bif g then none else k ⟨.nil,[],[]⟩
 | [c0]=>prR hl 119 2 c0 fun l0 a=>
  bif Ho hl [(1000000,l0)] [(1003,(ak+50000))] then gb g (UY n a (fun b c=>some (b,c))) ([],[]) fun r=>gb g (K9 r.2 (List.length a)) () fun _=>k ⟨.arr (ak+50000),[(l0,some (.arr 119 2 r.2)),((ak+50000),some (.arr 119 2 r.1))],[l0]⟩ else none
 | _=>none
theorem R9 (n:Nat):Ul Tryz.prog 173 (VQ n):=by
  intro R am g ar hl k r h
  unfold VQ at h
  split at h
  · exact Hm h
  rotate_left
  · cases h
  obtain ⟨l0,a,h,d,e⟩:=N2 h
  obtain ⟨hc,h⟩:=QW h
  obtain ⟨res,h,hr⟩:=Qu h
  obtain ⟨_,h,ak⟩:=Qu h
  have hL:=h
  subst d
  refine ⟨_,hL,fun hg=>MA (K:=V6) (res:=res) (GM n) [GQ n n] (fn:=Tryz.f173) (ρ:=[(1000000,l0)]) (ν:=[(1003,(am+50000))]) (avs':=[.arr 1000000]) (H:=[(1000000,.arr 119 2 a)]) (.cons (.own rfl rfl) (.nil)) hc (⟨⟨by decide,_,_,e,rfl,.arr _ _ _⟩,trivial⟩) ?_ ?_⟩
  · exact (Su n a).trans (hr hg)
  · intro av H' hx
    unfold V6 at hx
    simp only [QdS] at hx
    obtain ⟨f,b,i,c,hx⟩:=hx
    split at hx
    rotate_left
    · cases hx
    replace hx:=QW hx
    obtain ⟨an,hx⟩:=hx
    simp only [QdT,Nat.beq_eq] at an
    obtain ⟨rfl,rfl,rfl,rfl,rfl⟩:=an
    injection hx with hx
    subst hx
    refine ⟨rfl,?_,⟨by rw [c];rfl,trivial⟩,⟨KY rfl b (GF (ak hg)),trivial⟩⟩
    simp only [List.cons_append,List.nil_append,KE,b,c,Option.map_some,Option.map_none]
    rfl

noncomputable def E9 (n:Nat):VC:=⟨Gb [(172,(Py n).E),(174,(XH n).E),(173,VQ n)],gtt,[cK 0 [0,1,2],cK 1 [1,2,8],cK 2 [1,2,8,15],(3,⟨[6,7],[],[(6,50021,119,2)],[],[]⟩),cO 4 [6,7] [50021]]⟩
theorem Ly (n:Nat):VCOk Tryz.prog (E9 n):=gVC (U8 ⟨(Py n).ok,⟨(XH n).ok,⟨R9 n,trivial⟩⟩⟩)
noncomputable def E0 (n:Nat):EnP Tryz.prog 149:=mkG (Ly n) nT 149 Tryz.f149 [sI,sL 2,sL 2] [eT 2,eR 50021 119 2,sI] [50021] (pK (Gw n))

noncomputable def Vl (n:Nat):VB:=Xa [⟨148,Dp n⟩,⟨149,E0 n⟩] [(0,⟨[2,3,4,5],(zp (4::5::rg1 1000000 3 []) [4,5,1000000,1000001,98040]),[],[],[]⟩),cO 1 [2,3,6,7] [98040,1000000,1000001],cO 2 [2,3,8] [50029,98040,1000000,1000001],(3,⟨[],(zp [50036,1000000,1000001] [98040,1000000,1000001]),[],[],[]⟩)]
noncomputable def Vn (n:Nat):EnP Tryz.prog 147:=mkG (Vl n).ok nT 147 Tryz.f147 [eA [qI,qI,qI],eA [qI,qI,qI],eP 1000000 1,sI,eP 1000001 1,eR 1000002 119 2] [eT 0,eI 1000000 1,sI,eI 1000001 1,eR 98040 119 2,eG 1000002] [98040] (pK (Yv n))

noncomputable def Gc (n:Nat):VB:=Xa [⟨147,Vn n⟩] [cO 0 [0,1,2,15] [98040,1000000,1000001],cO 1 [0,1,2,6,7] [6,7,98040,1000000,1000001],cO 2 [0,1,2,6,7,26] [6,7,98040,1000000,1000001],(3,⟨[0,1,2,6,7],(zp [6,7,50030,1000000,1000001] [6,7,98040,1000000,1000001]),[],[],[]⟩),cO 4 [0,1,2,6,7,35] [6,7,98040,1000000,1000001],cO 5 [0,1,2,6,7] [6,7,98040,1000000,1000001],cO 6 [0,1,2,42] [98040,1000000,1000001],cO 7 [0,1,2] [98040,1000000,1000001],(3000000000,⟨[0,1,2],(zp [98040,1000002,1000000,1000001] [98040,98040,1000000,1000001]),[],[],[]⟩)]
noncomputable def Sg (n:Nat) (m:Nat):LpE Tryz.prog:=mkL (Gc n).ok nT 0 (cA [2,2] (Q6 Tryz.f146)) ⟨45,[(0,.l 3),(1,.l 3),(2,.fn 147 [.ptr 1000000 0,.ptr 1000001 0])],[(98040,.arr 119 2),(1000000,.box [tI]),(1000001,.box [.arr 98040])]⟩ [yL,yL,yL,yI] (fun m R k a h2 b c=>Qn n  (fun a h2 d b c=>k (.exit 0) ⟨45,[(0,dL 3 a),(1,dL 3 h2),(2,.fn 147 [.ptr 1000000 0,.ptr 1000001 0]),(15,dB d)],[(98040,.arr 119 2 b),(1000000,.box [dI c]),(1000001,.box [.arr 98040])]⟩) m a h2 b c) m
noncomputable def ST (n:Nat):EnP Tryz.prog 146:=mkG (Gc n).ok [Sg n n] 146 Tryz.f146 [sL 3,sL 3,eF 147 2,eP 1000000 1,sI,eP 1000001 1,eR 1000002 119 2] [eT 0,eI 1000000 1,sI,eI 1000001 1,eR 98040 119 2,eG 1000002] [98040] (pK (Jv n))

noncomputable def Sq (n:Nat):VB:=Xa [⟨113,TQ n⟩,⟨146,ST n⟩] [cO 0 [1,2,3] [3],cO 1 [1,2,3,9] [3],cO 2 [1,2,3,9] [3],(3,⟨[6,7],[],[(6,50024,119,2)],[],[]⟩),cO 4 [1,2,3,14] [3],cO 5 [1,2,3,14] [3],(6,⟨[6,7],[],[(6,50024,119,2)],[],[]⟩),(7,⟨[1,2,3,8],[(3,3),(8,8)],[],[(8,0,2320,119,2)],[]⟩),cO 8 [8] [8,50024],cO 9 [6,7] [50024]]
noncomputable def R3 (n:Nat):EnP Tryz.prog 115:=mkG (Sq n).ok nT 115 Tryz.f115 [sI,sL 3,sL 3] [eT 2,eR 50024 119 2,sI] [50024] (pK (UD n))

noncomputable def Mi (n:Nat):VB:=Xa [] [cO 0 [1] [1],cK 1 [2]]
noncomputable def LY (n:Nat):EnP Tryz.prog 175:=mkE (Mi n).ok nT 175 Tryz.f175 [[0]] [eA [qI,qI]] [sI] (pK (KR n))

noncomputable def Tt (n:Nat):VB:=Xa [⟨175,LY n⟩] [cK 0 [0],cK 1 [0,3],cK 2 [3,6,7,8],cK 3 [3,6,7,8,9],cO 4 [3,5,6,7,8] [5],cK 5 [3,6,7,8],cK 6 [3,6,7,8],cK 7 [2]]
noncomputable def Ln (n:Nat) (m:Nat):LpE Tryz.prog:=mkL (Tt n).ok nT 3 (cA [1,1,0,1,2,2] (Q6 Tryz.f151)) ⟨18,[(3,tI),(6,.l 2),(7,tI),(8,tI)],[]⟩ [yI,yL,yI,yI] (fun m R k a h2 c b=>Z2 n h2 c (fun a b d=>k (.exit 0) ⟨18,[(3,dI a),(6,dL 2 h2),(7,dI c),(8,dI b),(9,dB d)],[]⟩) m a b) m
noncomputable def EA (n:Nat):EnP Tryz.prog 151:=mkE (Tt n).ok [Ln n n] 151 Tryz.f151 [[0]] [sL 2] [sI] (pK (HQ n))

noncomputable def LI (n:Nat):VB:=Xa [⟨150,PF n⟩,⟨151,EA n⟩] [cK 0 [0,1],cK 1 [1,8],cK 2 [4],cK 3 [4]]
noncomputable def FR (n:Nat):EnP Tryz.prog 116:=mkE (LI n).ok nT 116 Tryz.f116 [[0]] [sI,sL 2] [sI] (pK (GA n))

noncomputable def Ks:Code:=cA [1,1,1,1,1,1,0,1,2,2] (Q6 Tryz.f71)
noncomputable def VT (n:Nat):VB:=Xa [⟨115,R3 n⟩,⟨116,FR n⟩] [cK 0 [0,1,2],cO 1 [0,8,9] [50018],cO 2 [0,8,9,22] [50018],cK 3 [6,7],cO 4 [0,8,28] [50018],cK 5 [6,7],cO 6 [0,8,10] [50018],cO 7 [0,8,10,49] [50018],(8,⟨[0,8],[],[],[],[50018]⟩),cK 9 [0,8],cO 10 [0,8,11] [50018],(11,⟨[0,11,65,66,67],[(50018,50018)],[(11,1011,152,2)],[],[]⟩),cO 12 [0,11,65,66,67,68] [1011,50018],cO 13 [0,11,13,65,66,67] [13,1011,50018],cO 14 [0,11,65,66,67] [81,50018],cO 15 [0,11,65,66,67] [81,50018],cO 16 [6,7] [1011],(3000000012,⟨[0,11,65,66,67],(zp [81,1011,50018] [1011,1011,50018]),[],[],[]⟩)]
noncomputable def Na (n:Nat) (m:Nat):LpE Tryz.prog:=mkL (VT n).ok nT 12 Ks ⟨84,[(0,tI),(11,.arr 1011),(65,.l 2),(66,tI),(67,tI)],[(1011,.arr 152 2)]⟩ [yI,yL,yI,yI,yL] (fun m R k c d e a b=>YP n c d e (fun a f b=>k (.exit 0) ⟨84,[(0,dI c),(11,.arr 1011),(65,dL 2 d),(66,dI e),(67,dI a),(68,dB f)],[(1011,.arr 152 2 b)]⟩) m a b) m
noncomputable def RD (n:Nat) (m:Nat):LpE Tryz.prog:=mkL (VT n).ok nT 12 Ks ⟨84,[(0,tI),(11,.arr 1011),(65,.arr 50018),(66,tI),(67,tI)],[(1011,.arr 152 2),(50018,.arr 119 2)]⟩ [yI,yI,yI,yL,yL] (fun m R k c d a b e=>Y9 n c d e (fun a f b=>k (.exit 0) ⟨84,[(0,dI c),(11,.arr 1011),(65,.arr 50018),(66,dI d),(67,dI a),(68,dB f)],[(1011,.arr 152 2 b),(50018,.arr 119 2 e)]⟩) m a b) m
noncomputable def Me (n:Nat):EnP Tryz.prog 71:=mkE (VT n).ok [orL (Na n n) (RD n n)] 71 Tryz.f71 [[2],[0]] [sI,sL 3,sL 3] [eT 2,sL 2,sI] (pK (Un n))

noncomputable def XA (n:Nat):VB:=Xa [⟨70,Vk n⟩,⟨72,Sl n⟩,⟨71,Me n⟩,⟨68,Tq n⟩,⟨67,Vh n⟩] [(0,⟨[0],(zp (rg1 1000000 4 []) [1000000,98012,98017,98018]),[],[],[]⟩),cO 1 [0,14,15] [98012,98017,98018,1000000],cO 2 [0,14,15,16] [98012,98017,98018,1000000],cO 3 [0,3,14,15] [98012,98017,98018,1000000],cO 4 [0,3,4,14,15] [98012,98017,98018,1000000],cO 5 [0,3,4,14,15,26] [98012,98017,98018,1000000],cO 6 [0,3,4,14,15] [98012,98017,98018,1000000],(7,⟨[0,3,4,5,14,15],(zp (rg5 50032 4 [1000000]) [50032,98012,98017,98018,1000000]),[],[],[]⟩),cO 8 [0,3,4,6,7,14,15] [98012,98017,98018,1000000],cO 9 [0,3,4,6,7,14,15,61] [98012,98017,98018,1000000],cO 10 [2] [98012,98017,98018,1000000],cO 11 [0,3,4,14,15,63,64,65] [98012,98017,98018,1000000],cO 12 [0,3,4,14,15,63,64,65,66] [98012,98017,98018,1000000],cO 13 [0,3,4,9,14,15,63,64,65] [9,98012,98017,98018,1000000],(14,⟨[0,3,4,14,15,63,64,65],(zp (rg5 50078 3 [1000000]) [98012,98017,98018,1000000]),[],[],[]⟩),cO 15 [0,3,4,14,15,63,64,65] [98012,98017,98018,1000000],cO 16 [0,14,15] [98012,98017,98018,1000000],cO 17 [2] [98012,98017,98018,1000000]]
noncomputable def VY (n:Nat) (m:Nat):LpE Tryz.prog:=mkL (XA n).ok nT 12 (cA [1,0,1,2,2,1,1,0,2,1,1,2,2,1,0,2,1,1,1,1,2,2] (Q6 Tryz.f31)) ⟨81,[(0,.ptr 1000000 0),(3,tI),(4,tI),(14,tI),(15,tI),(63,.l 2),(64,tI),(65,tI)],[(98012,.arr 3 1),(98017,.arr 54 3),(98018,.arr 52 6),(1000000,.box [.l 1,.l 1,.l 5,.l 6,tI,.l 5,.l 2,.l 4,.l 7,.l 4,.l 5,.l 3,.arr 98012,.l 1,.l 1,.l 4,tI,.arr 98017,.arr 98018])]⟩ [yI,yI,yI,yI,yL,yI,yI,yL,yL,yL,yL,yL,yL,yL,yI,yL,yL,yL,yL,yL,yL,yL,yL,yL,yL,yI] (fun m R k (y z ac ad:Int) (aa:LL) (ab a:Int) (b c d e f g h:LL) (i:Int) (j l o p q r s t u v:LL) (x:Int)=>Qw n y z aa ab (fun a ae b c d e f g h i j l o p q r s t u v x=>k (.exit 4) ⟨81,[(0,.ptr 1000000 0),(3,dI y),(4,dI z),(14,dI ac),(15,dI ad),(63,dL 2 aa),(64,dI ab),(65,dI a),(66,dB ae)],[(98012,.arr 3 1 b),(98017,.arr 54 3 c),(98018,.arr 52 6 d),(1000000,.box [dL 1 e,dL 1 f,dL 5 g,dL 6 h,dI i,dL 5 j,dL 2 l,dL 4 o,dL 7 p,dL 4 q,dL 5 r,dL 3 s,.arr 98012,dL 1 t,dL 1 u,dL 4 v,dI x,.arr 98017,.arr 98018])]⟩) m a b c d e f g h i j l o p q r s t u v x) m
noncomputable def VM (n:Nat) (m:Nat):LpE Tryz.prog:=mkL (XA n).ok [VY n n] 5 (cA [1,0,1,2,2,1,1,0,2,1,1,2,2] (Q6 Tryz.f31)) ⟨81,[(0,.ptr 1000000 0),(3,tI),(4,tI),(14,tI),(15,tI)],[(98012,.arr 3 1),(98017,.arr 54 3),(98018,.arr 52 6),(1000000,.box [.l 1,.l 1,.l 5,.l 6,tI,.l 5,.l 2,.l 4,.l 7,.l 4,.l 5,.l 3,.arr 98012,.l 1,.l 1,.l 4,tI,.arr 98017,.arr 98018])]⟩ [yI,yI,yI,yI,yL,yL,yL,yL,yL,yL,yL,yI,yL,yL,yL,yL,yL,yL,yL,yL,yL,yL,yI] (fun m R k y a z aa b c d e f g h i j l o p q r s t u v x=>Qy n y (fun ab ac ad ae ag ah ai aj ak al am an ao ap aq ar au av aw ax=>k .ret ⟨81,[(2,dI ab)],[(98012,.arr 3 1 ac),(98017,.arr 54 3 ad),(98018,.arr 52 6 ae),(1000000,.box [dL 1 ag,dL 1 ah,dL 5 ai,dL 6 aj,dI ak,dL 5 al,dL 2 am,dL 4 an,dL 7 ao,dL 4 ap,dL 5 aq,dL 3 ar,.arr 98012,dL 1 au,dL 1 av,dL 4 aw,dI ax,.arr 98017,.arr 98018])]⟩) (fun a ay b c d e f g h i j l o p q r s t u v x=>k (.exit 2) ⟨81,[(0,.ptr 1000000 0),(3,dI y),(4,dI a),(14,dI z),(15,dI aa),(26,dB ay)],[(98012,.arr 3 1 b),(98017,.arr 54 3 c),(98018,.arr 52 6 d),(1000000,.box [dL 1 e,dL 1 f,dL 5 g,dL 6 h,dI i,dL 5 j,dL 2 l,dL 4 o,dL 7 p,dL 4 q,dL 5 r,dL 3 s,.arr 98012,dL 1 t,dL 1 u,dL 4 v,dI x,.arr 98017,.arr 98018])]⟩) m a b c d e f g h i j l o p q r s t u v x) m
noncomputable def VH (n:Nat) (m:Nat):LpE Tryz.prog:=mkL (XA n).ok [VM n n] 2 (cA [1,0,1,2,2] (Q6 Tryz.f31)) ⟨81,[(0,.ptr 1000000 0),(14,tI),(15,tI)],[(98012,.arr 3 1),(98017,.arr 54 3),(98018,.arr 52 6),(1000000,.box [.l 1,.l 1,.l 5,.l 6,tI,.l 5,.l 2,.l 4,.l 7,.l 4,.l 5,.l 3,.arr 98012,.l 1,.l 1,.l 4,tI,.arr 98017,.arr 98018])]⟩ [yI,yI,yL,yL,yL,yL,yL,yL,yL,yI,yL,yL,yL,yL,yL,yL,yL,yL,yL,yL,yI] (fun m R k x h2 a b c d e f g h i j l o p q r s t u v=>Qh n x (fun y z aa ab ac ad ae ag ah ai aj ak al am an ao ap aq ar au=>k .ret ⟨81,[(2,dI y)],[(98012,.arr 3 1 z),(98017,.arr 54 3 aa),(98018,.arr 52 6 ab),(1000000,.box [dL 1 ac,dL 1 ad,dL 5 ae,dL 6 ag,dI ah,dL 5 ai,dL 2 aj,dL 4 ak,dL 7 al,dL 4 am,dL 5 an,dL 3 ao,.arr 98012,dL 1 ap,dL 1 aq,dL 4 ar,dI au,.arr 98017,.arr 98018])]⟩) (fun h2 av a b c d e f g h i j l o p q r s t u v=>k (.exit 0) ⟨81,[(0,.ptr 1000000 0),(14,dI x),(15,dI h2),(16,dB av)],[(98012,.arr 3 1 a),(98017,.arr 54 3 b),(98018,.arr 52 6 c),(1000000,.box [dL 1 d,dL 1 e,dL 5 f,dL 6 g,dI h,dL 5 i,dL 2 j,dL 4 l,dL 7 o,dL 4 p,dL 5 q,dL 3 r,.arr 98012,dL 1 s,dL 1 t,dL 4 u,dI v,.arr 98017,.arr 98018])]⟩) m h2 a b c d e f g h i j l o p q r s t u v) m
noncomputable def Wo (n:Nat):EnP Tryz.prog 31:=mkG (XA n).ok [VH n n] 31 Tryz.f31 [eP 1000000 19,sL 1,sL 1,sL 5,sL 6,sI,sL 5,sL 2,sL 4,sL 7,sL 4,sL 5,sL 3,eR 1000001 3 1,sL 1,sL 1,sL 4,sI,eR 1000002 54 3,eR 1000003 52 6] [sI,eI 1000000 19,sL 1,sL 1,sL 5,sL 6,sI,sL 5,sL 2,sL 4,sL 7,sL 4,sL 5,sL 3,eR 98012 3 1,sL 1,sL 1,sL 4,sI,eR 98017 54 3,eR 98018 52 6,eG 1000001,eG 1000002,eG 1000003] [98012,98017,98018] (pK (YL n))

noncomputable def E5 (n:Nat):VC:=⟨Gb [(25,Ku n),(26,(WL n).E),(27,(Ps n).E),(28,(U5 n).E),(29,(UF n).E),(30,(WB n).E),(31,(Wo n).E)],gtt,[cO 0 [2,3,4] [2,3,4],cO 1 [2,3,4,12] [2,3,4],cO 2 [4,5] [4],(3,⟨[2,3,4,6],(zp [2,3,4,20] [2,3,4,20]),[],[(20,12,2812,3,1),(20,13,2813,62,1),(20,14,2814,3,1),(20,15,2815,139,4),(20,17,2817,54,3),(20,18,2818,52,6)],[]⟩),cO 4 [2,3,4,6] (2::3::4::20::rg5 50022 6 []),cO 5 [2,3,4,6,29] (2::3::4::20::rg5 50022 6 []),cO 6 [4,5] [4],cO 7 [2,3,4,6] (2::3::4::20::rg5 50022 6 []),cO 8 [4,6,7] (4::20::50022::rg5 200022 3 []),cO 9 [4,6,7,45] (4::20::50022::rg5 200022 3 []),cO 10 [4,5] [4],cO 11 [4,6] (4::20::rg5 50049 4 []),cO 12 [4,6,52] (4::20::rg5 50051 3 []),cO 13 [4,5] [4],cO 14 [4,6] (4::20::rg5 50055 3 []),cO 15 [4,6,8] (4::20::rg5 50057 3 []),cO 16 [4,6,8,59] (4::20::rg5 50057 3 []),cO 17 [4,5] [4],cO 18 [4,6,68] (4::20::rg5 50057 3 []),cO 19 [4,5] [4],cO 20 [4,5] [4,100057,150057]]⟩
theorem LH (n:Nat):VCOk Tryz.prog (E5 n):=gVC (U8 ⟨Nh n,⟨(WL n).ok,⟨(Ps n).ok,⟨(U5 n).ok,⟨(UF n).ok,⟨(WB n).ok,⟨(Wo n).ok,trivial⟩⟩⟩⟩⟩⟩⟩)
noncomputable def Fv (n:Nat):EnP Tryz.prog 7:=mkE (LH n) nT 7 Tryz.f7 [[0,3,6],[0]] [eA [qL 1,qL 1,qL 5,qL 6],eA [qI,qL 5,qL 2,qL 4,qL 7,qL 4,qL 5,qL 3]] [eT 2,eA [qI,qL 3,qL 6],sI] (pK (Wd n))

noncomputable def D2 (n:Nat):VB:=Xa [] [cO 0 [0] [0],cO 1 [0] [0,3,5]]
noncomputable def CJ (n:Nat):EnP Tryz.prog 33:=mkE (D2 n).ok nT 33 Tryz.f33 [[0,3,6]] [] [eA [qI,qL 3,qL 6]] (pK (Rc n))

noncomputable def Rq (n:Nat):VB:=Xa [] [cO 0 [1,2] [2],cK 1 [4]]
noncomputable def M5 (n:Nat):EnP Tryz.prog 73:=mkE (Rq n).ok nT 73 Tryz.f73 [[0]] [eA [qI,qL 3,qL 6],sI] [sB] (pK (GK n))

noncomputable def Tw (n:Nat):VB:=Xa [⟨73,M5 n⟩] [cO 0 [1] [1],cO 1 [1,24] [1],cK 2 [2],cO 3 [1,26,27,28] [1],cO 4 (1::rg1 26 4 []) [1],cO 5 [1,4,26,27,28] [1,4],cO 6 [1,4,26,27,28,50] [1,4],cK 7 [2],cO 8 [1,4,26,27,28,75] [1,4],cK 9 [2],cO 10 [1,26,27,28,83] [1],cK 11 [2],cO 12 [1,26,27,28] [1],cK 13 [2]]
noncomputable def LV (n:Nat) (m:Nat):LpE Tryz.prog:=mkL (Tw n).ok nT 4 (cA [1,1,0,1,2,2] (Q6 Tryz.f34)) ⟨85,[(1,.ptr 1 0),(26,.l 6),(27,tI),(28,tI)],[(1,.box [tI,.l 3,.l 6])]⟩ [yL,yI,yI,yI,yL,yL] (fun m R k b h2 a c d e=>G8 n b h2 c d e (k .ret ⟨85,[(2,dB false)],[]⟩) (fun a f=>k (.exit 0) ⟨85,[(1,.ptr 1 0),(26,dL 6 b),(27,dI h2),(28,dI a),(29,dB f)],[(1,.box [dI c,dL 3 d,dL 6 e])]⟩) m a) m
noncomputable def P3 (n:Nat):EnP Tryz.prog 34:=mkE (Tw n).ok [LV n n] 34 Tryz.f34 [[0]] [eA [qI,qL 3,qL 6]] [sB] (pK (Tf n))

noncomputable def PG (n:Nat):VB:=Xa [⟨34,P3 n⟩] [cO 0 [1,2] [2],cO 1 [1,2,17] [2],cK 2 [4],cO 3 [2,18,19,20] [2],cO 4 (2::rg1 18 4 []) [2],cO 5 [2,6,18,19,20] [2],cO 6 [2,18,19,20,31] [2],cK 7 [4],cO 8 [2,18,19,20] [2],cK 9 [4]]
noncomputable def E4 (n:Nat) (m:Nat):LpE Tryz.prog:=mkL (PG n).ok nT 4 (cA [1,1,0,1,2,2] (Q6 Tryz.f43)) ⟨33,[(2,.ptr 2 0),(18,.l 1),(19,tI),(20,tI)],[(2,.box [tI,.l 3,.l 6])]⟩ [yL,yI,yI,yI,yL,yL] (fun m R k h2 b a c d e=>K4 n h2 b c (k .ret ⟨33,[(4,dB false)],[]⟩) (fun a f=>k (.exit 0) ⟨33,[(2,.ptr 2 0),(18,dL 1 h2),(19,dI b),(20,dI a),(21,dB f)],[(2,.box [dI c,dL 3 d,dL 6 e])]⟩) m a) m
noncomputable def D1 (n:Nat):EnP Tryz.prog 43:=mkE (PG n).ok [E4 n n] 43 Tryz.f43 [[0]] [eA [qI,qL 3,qL 6],sL 1] [sB] (pK (MP n))

noncomputable def SU (n:Nat):VB:=Xa [⟨92,ET n⟩] [cO 0 [1,3,5] [3,5],cK 1 [6]]
noncomputable def Nc (n:Nat):EnP Tryz.prog 44:=mkE (SU n).ok nT 44 Tryz.f44 [[0]] [eA [qI,qL 3,qL 6],sL 1,eA [qI,qI,qI,qI,qI,qI]] [sI] (pK (Th n))

noncomputable def Tn (n:Nat):VB:=Xa [⟨43,D1 n⟩,⟨44,Nc n⟩] [cO 0 [1,2] [2],cO 1 [1,2,11] [2],cK 2 [4,5],cO 3 [1,2,13,14,15] [2],cO 4 [1,2,13,14,15,16] [2],cO 5 [1,2,6,7,13,14,15] [2,7],cO 6 [1,2,6,13,14,15,26] [2],cK 7 [4,5],cO 8 [1,2,13,14,15] [2],cK 9 [4,5]]
noncomputable def Lz (n:Nat) (m:Nat):LpE Tryz.prog:=mkL (Tn n).ok nT 4 (cA [1,1,0,1,2,2] (Q6 Tryz.f32)) ⟨29,[(1,.l 1),(2,.ptr 2 0),(13,.l 6),(14,tI),(15,tI)],[(2,.box [tI,.l 3,.l 6])]⟩ [yL,yL,yI,yI,yI,yL,yL] (fun m R k h2 b c a d e f=>G9 n h2 b c d e f (fun a=>k .ret ⟨29,[(4,dI a),(5,dB true)],[]⟩) (fun a g=>k (.exit 0) ⟨29,[(1,dL 1 h2),(2,.ptr 2 0),(13,dL 6 b),(14,dI c),(15,dI a),(16,dB g)],[(2,.box [dI d,dL 3 e,dL 6 f])]⟩) m a) m
noncomputable def EB (n:Nat):EnP Tryz.prog 32:=mkE (Tn n).ok [Lz n n] 32 Tryz.f32 [[0],[0]] [eA [qI,qL 3,qL 6],sL 1] [eT 2,sI,sB] (pK (Rx n))

noncomputable def D9 (n:Nat):VB:=Xa [⟨33,CJ n⟩,⟨32,EB n⟩,⟨34,P3 n⟩] [cK 0 [],cK 1 [2],cK 2 [0]]
noncomputable def Cs (n:Nat):EnP Tryz.prog 8:=mkE (D9 n).ok nT 8 Tryz.f8 [[0]] [] [sB] (pK (WW n))

noncomputable def Du (n:Nat):VB:=Xa [] [cK 0 [0],cK 1 [2]]
noncomputable def CM (n:Nat):EnP Tryz.prog 154:=mkE (Du n).ok nT 154 Tryz.f154 [[0]] [eD (.i .u8)] [sB] (pK (R5 n))

noncomputable def CP (n:Nat):VB:=Xa [] [cK 0 [0],cK 1 [2]]
noncomputable def Q0f (n:Nat):EnP Tryz.prog 155:=mkE (CP n).ok nT 155 Tryz.f155 [[0]] [eD (.i .u8)] [sB] (pK (C2 n))

noncomputable def MW (n:Nat):VB:=Xa [⟨154,CM n⟩,⟨155,Q0f n⟩] [cK 0 [0],cK 1 [0,17],cK 2 [2],cK 3 [0,3],cK 4 [0,3,21],cK 5 [0,3],cK 6 [0,3,41],cK 7 [2],cK 8 [2]]
noncomputable def Q07 (n:Nat) (m:Nat):LpE Tryz.prog:=mkL (MW n).ok nT 4 (cA [1,1,0,1,2,2] (Q6 Tryz.f121)) ⟨42,[(0,.t),(3,tI)],[]⟩ [yT,yI] (fun m R k b a=>Pa n b (k .ret ⟨42,[(2,dB false)],[]⟩) (fun a c=>k (.exit 0) ⟨42,[(0,dT b),(3,dI a),(21,dB c)],[]⟩) m a) m
noncomputable def Rg (n:Nat):EnP Tryz.prog 121:=mkE (MW n).ok [Q07 n n] 121 Tryz.f121 [[0]] [sT] [sB] (pK (Pq n))

noncomputable def Nw (n:Nat):VB:=Xa [⟨121,Rg n⟩] [cK 0 [0,1],cK 1 [0,1,11],cK 2 [4],cK 3 [0,1,5],cK 4 [0,1,5,14],cK 5 [0,1,5],cK 6 [0,1,5,25],cK 7 [4],cK 8 [4]]
noncomputable def CF (n:Nat) (m:Nat):LpE Tryz.prog:=mkL (Nw n).ok nT 4 (cA [1,1,0,1,2,2] (Q6 Tryz.f117)) ⟨26,[(0,.l 1),(1,tI),(5,tI)],[]⟩ [yL,yI,yI] (fun m R k b c a=>HR n b c (k .ret ⟨26,[(4,dI (5:Int))],[]⟩) (fun a d=>k (.exit 0) ⟨26,[(0,dL 1 b),(1,dI c),(5,dI a),(14,dB d)],[]⟩) m a) m
noncomputable def BE (n:Nat):EnP Tryz.prog 117:=mkE (Nw n).ok [CF n n] 117 Tryz.f117 [[0]] [sL 1,sI] [sI] (pK (PO n))

noncomputable def Ge (n:Nat):VB:=Xa [] [cO 0 [1] [1],cO 1 [1,3] [1],(2,⟨[1,3,4],[(1,1)],[(3,1003,9,1)],[],[]⟩),cO 3 [1,3,4,9] [1,1003],cO 4 [1,3,4] [1,20],cO 5 [1,3,4] [1,20],cO 6 [2] [1003],(3000000003,⟨[1,3,4],(zp [1,20,1003] [1,1003,1003]),[],[],[]⟩)]
noncomputable def Sm (n:Nat) (m:Nat):LpE Tryz.prog:=mkL (Ge n).ok nT 3 (cA [1,1,0,1,2,2] (Q6 Tryz.f118)) ⟨22,[(1,.ptr 1 0),(3,.arr 1003),(4,tI)],[(1,.box [.l 1,.l 1,.l 5,.l 6]),(1003,.arr 9 1)]⟩ [yI,yL,yL,yL,yL,yL] (fun m R k a h2 d c e b=>Yc n c (fun a f b=>k (.exit 0) ⟨22,[(1,.ptr 1 0),(3,.arr 1003),(4,dI a),(9,dB f)],[(1,.box [dL 1 h2,dL 1 d,dL 5 c,dL 6 e]),(1003,.arr 9 1 b)]⟩) m a b) m
noncomputable def SM (n:Nat):EnP Tryz.prog 118:=mkE (Ge n).ok [Sm n n] 118 Tryz.f118 [[1]] [eA [qL 1,qL 1,qL 5,qL 6]] [sL 1] (pK (Jw n))

noncomputable def Q2S (n:Nat):VB:=Xa [] [cK 0 [0,1,2],cK 1 [6]]
noncomputable def Aa (n:Nat):EnP Tryz.prog 119:=mkE (Q2S n).ok nT 119 Tryz.f119 [[0]] [sI,sI,sI] [sB] (pK (Jf n))

noncomputable def Q1f (n:Nat):VB:=Xa [] [cO 0 [2,3] [2,3],cK 1 [4]]
noncomputable def DT (n:Nat):EnP Tryz.prog 152:=mkE (Q1f n).ok nT 152 Tryz.f152 [[0]] [eA [qI,qI,qI,qI,qI,qI],eA [qI,qI]] [sB] (pK (Fc n))

noncomputable def MU (n:Nat):VB:=Xa [⟨152,DT n⟩] [cO 0 [1,3,5] [3,5],cO 1 [1,3,5,7] [3,5,7],cO 2 [1,3,5,7,8,9] [3,5,7,9],cO 3 [1,3,5,7,8,9,10] [3,5,7,9],cO 4 [1,3,5,7,8,9,10,19] [3,5,7,9],cO 5 [1,3,5,7,8,9,10] [3,5,7,9],cO 6 [1,3,5,7,8,9,10,28] [3,5,7,9],cO 7 [1,3,5,7,8,9,10] [3,5,7,9],cO 8 [1,3,5,7,8,9,10] [3,5,7,9],cK 9 [6]]
noncomputable def AR (n:Nat) (m:Nat):LpE Tryz.prog:=mkL (MU n).ok nT 4 (cA [1,1,1,0,1,2,2] (Q6 Tryz.f153)) ⟨61,[(1,tI),(3,.ptr 3 0),(5,.ptr 5 0),(7,.ptr 7 0),(8,tI),(9,.ptr 9 0),(10,tI)],[(3,.box [.l 1,.l 1,.l 5,.l 6]),(5,.box [tI,tI]),(7,.box [.x,.x,.x,.x,.x,.x]),(9,.box [.x,.x,.x,.x,.x,.x])]⟩ [yI,yI,yI,yL,yL,yL,yL,yI,yI,yD,yD,yD,yD,yD,yD,yD,yD,yD,yD,yD,yD] (fun m R k i a b p q r j l o s t u v x y c d e f g h=>Ky n i j l o (fun a b z c d e f g h=>k (.exit 0) ⟨61,[(1,dI i),(3,.ptr 3 0),(5,.ptr 5 0),(7,.ptr 7 0),(8,dI a),(9,.ptr 9 0),(10,dI b),(19,dB z)],[(3,.box [dL 1 p,dL 1 q,dL 5 r,dL 6 j]),(5,.box [dI l,dI o]),(7,.box [.d s,.d t,.d u,.d v,.d x,.d y]),(9,.box [.d c,.d d,.d e,.d f,.d g,.d h])]⟩) m a b c d e f g h) m
noncomputable def Q14 (n:Nat):EnP Tryz.prog 153:=mkE (MU n).ok [AR n n] 153 Tryz.f153 [[0]] [eA [qL 1,qL 1,qL 5,qL 6],sI,eA [qI,qI]] [sB] (pK (FO n))

noncomputable def Hc (n:Nat):VB:=Xa [⟨119,Aa n⟩,⟨152,DT n⟩,⟨153,Q14 n⟩] [cO 0 [1,2] [2],cO 1 [1,2,5] [2,5],cO 2 [1,2,5,6] [2,5],cO 3 [1,2,5,69] [2,5],cK 4 [4],cO 5 [1,2,7,8] [2,7,8],cO 6 [1,2,7,8,82] [2,7,8],cK 7 [4],cO 8 [1,2,7,8,9] [2,7,8],cO 9 [1,2,7,8,9,85] [2,7,8],cO 10 [1,2,7,8,9] [2,7,8],cO 11 [1,2,7,8,9,103] [2,7,8],cK 12 [4],cK 13 [115],cK 14 [4],cK 15 [4]]
noncomputable def NN (n:Nat) (m:Nat):LpE Tryz.prog:=mkL (Hc n).ok nT 9 (cA [1,1,1,1,1,1,0,1,2,2] (Q6 Tryz.f120)) ⟨116,[(1,tI),(2,.ptr 2 0),(7,.ptr 7 0),(8,.ptr 8 0),(9,tI)],[(2,.box [.l 1,.l 1,.l 5,.l 6]),(7,.box [tI,tI]),(8,.box [tI,tI])]⟩ [yI,yI,yL,yL,yL,yL,yI,yI,yI,yI] (fun m R k b a h i j c d e f g=>Jt n b c d e f g (k .ret ⟨116,[(4,dI (5:Int))],[]⟩) (fun a l=>k (.exit 0) ⟨116,[(1,dI b),(2,.ptr 2 0),(7,.ptr 7 0),(8,.ptr 8 0),(9,dI a),(85,dB l)],[(2,.box [dL 1 h,dL 1 i,dL 5 j,dL 6 c]),(7,.box [dI d,dI e]),(8,.box [dI f,dI g])]⟩) m a) m
noncomputable def Lj (n:Nat):EnP Tryz.prog 120:=mkE (Hc n).ok [NN n n] 120 Tryz.f120 [[0]] [eA [qL 1,qL 1,qL 5,qL 6],sI] [sI] (pK (UW n))

noncomputable def VE (n:Nat):VB:=Xa [⟨117,BE n⟩,⟨118,SM n⟩,⟨119,Aa n⟩,⟨120,Lj n⟩] [cO 0 [1] [1],cO 1 [1,34] [1],cK 2 [2],cO 3 [1,38] [1],cK 4 [2],cO 5 [1,3] [1],cO 6 [1,3,43] [1],cO 7 [1,3] [1],cO 8 [1,3,4] [1],cO 9 [1,3,4,51] [1],cK 10 [2],cO 11 [1,5] [1],cO 12 [1,5,57] [1],cO 13 [1,5] [1],cO 14 [1,5,6] [1],cO 15 [1,5,6,65] [1],cK 16 [2],cO 17 [1,7] [1],cO 18 [1,7,8] [1],cO 19 [1,7,8,73] [1],cO 20 [1,7,8] [1],cO 21 [1,7,8,9] [1],cO 22 [1,7,8,9,80] [1],cK 23 [2],cO 24 [1,7,8,10] [1,10],cO 25 [1,7,8,112] [1],cK 26 [2],cO 27 [1,11] [1],cO 28 [1,11,117] [1],cO 29 [1,11] [1],cO 30 [1,11,12] [1],cO 31 [1,11,12,124] [1],cK 32 [2],cK 33 [2]]
noncomputable def Bb (n:Nat) (m:Nat):LpE Tryz.prog:=mkL (VE n).ok nT 6 (cA [1,1,1,0,1,2,2] (Q6 Tryz.f74)) ⟨126,[(1,.ptr 1 0),(3,tI)],[(1,.box [.l 1,.l 1,.l 5,.l 6])]⟩ [yI,yL,yL,yL,yL] (fun m R k a h2 b c d=>HO n h2 (fun e=>k .ret ⟨126,[(2,dI e)],[]⟩) (fun a f=>k (.exit 0) ⟨126,[(1,.ptr 1 0),(3,dI a),(43,dB f)],[(1,.box [dL 1 h2,dL 1 b,dL 5 c,dL 6 d])]⟩) m a) m
noncomputable def CX (n:Nat) (m:Nat):LpE Tryz.prog:=mkL (VE n).ok nT 12 (cA [1,1,1,1,0,1,2,2] (Q6 Tryz.f74)) ⟨126,[(1,.ptr 1 0),(5,tI)],[(1,.box [.l 1,.l 1,.l 5,.l 6])]⟩ [yI,yL,yL,yL,yL] (fun m R k a c b d e=>HU n b (fun f=>k .ret ⟨126,[(2,dI f)],[]⟩) (fun a g=>k (.exit 2) ⟨126,[(1,.ptr 1 0),(5,dI a),(57,dB g)],[(1,.box [dL 1 c,dL 1 b,dL 5 d,dL 6 e])]⟩) m a) m
noncomputable def CR (n:Nat) (m:Nat):LpE Tryz.prog:=mkL (VE n).ok nT 19 (cA [1,1,1,1,1,1,0,1,2,2] (Q6 Tryz.f74)) ⟨126,[(1,.ptr 1 0),(7,.l 1),(8,tI)],[(1,.box [.l 1,.l 1,.l 5,.l 6])]⟩ [yL,yI,yL,yL,yL,yL] (fun m R k b a c e d f=>UA n b c d (fun g=>k .ret ⟨126,[(2,dI g)],[]⟩) (fun a h=>k (.exit 4) ⟨126,[(1,.ptr 1 0),(7,dL 1 b),(8,dI a),(73,dB h)],[(1,.box [dL 1 c,dL 1 e,dL 5 d,dL 6 f])]⟩) m a) m
noncomputable def Bp (n:Nat) (m:Nat):LpE Tryz.prog:=mkL (VE n).ok nT 28 (cA [1,1,1,1,1,1,1,0,1,2,2] (Q6 Tryz.f74)) ⟨126,[(1,.ptr 1 0),(11,tI)],[(1,.box [.l 1,.l 1,.l 5,.l 6])]⟩ [yI,yL,yL,yL,yL] (fun m R k a b c d e=>Uu n b c d e (fun f=>k .ret ⟨126,[(2,dI f)],[]⟩) (fun a g=>k (.exit 6) ⟨126,[(1,.ptr 1 0),(11,dI a),(117,dB g)],[(1,.box [dL 1 b,dL 1 c,dL 5 d,dL 6 e])]⟩) m a) m
noncomputable def MR (n:Nat):EnP Tryz.prog 74:=mkE (VE n).ok [Bb n n,CX n n,CR n n,Bp n n] 74 Tryz.f74 [[0]] [eA [qL 1,qL 1,qL 5,qL 6]] [sI] (pK (Va n))

noncomputable def MS (n:Nat):VB:=Xa [] [cO 0 [1] [1],cO 1 [1,43] [1],cK 2 [2],cO 3 [1,3] [1],cO 4 [1,3,48] [1],cO 5 [1,3] [1],cO 6 [1,3,58] [1],cK 7 [2],cK 8 [2]]
noncomputable def Q00 (n:Nat) (m:Nat):LpE Tryz.prog:=mkL (MS n).ok nT 4 (cA [1,1,0,1,2,2] (Q6 Tryz.f75)) ⟨59,[(1,.ptr 1 0),(3,tI)],[(1,.box [tI,.l 5,.l 2,.l 4,.l 7,.l 4,.l 5,.l 3])]⟩ [yI,yI,yL,yL,yL,yL,yL,yL,yL] (fun m R k a h2 c d b e f g h=>Ve n b (k .ret ⟨59,[(2,dB true)],[]⟩) (fun a i=>k (.exit 0) ⟨59,[(1,.ptr 1 0),(3,dI a),(48,dB i)],[(1,.box [dI h2,dL 5 c,dL 2 d,dL 4 b,dL 7 e,dL 4 f,dL 5 g,dL 3 h])]⟩) m a) m
noncomputable def Q1c (n:Nat):EnP Tryz.prog 75:=mkE (MS n).ok [Q00 n n] 75 Tryz.f75 [[0]] [eA [qI,qL 5,qL 2,qL 4,qL 7,qL 4,qL 5,qL 3]] [sB] (pK (Rz n))

noncomputable def Q3f (n:Nat):VB:=Xa [] [cK 0 [0,1,2],cK 1 [6]]
noncomputable def Pc (n:Nat):EnP Tryz.prog 76:=mkE (Q3f n).ok nT 76 Tryz.f76 [[0]] [sI,sI,sI] [sB] (pK (UI n))

noncomputable def Q3k (n:Nat):VB:=Xa [] [cK 0 [0,1,2],cK 1 [6]]
noncomputable def NC (n:Nat):EnP Tryz.prog 84:=mkE (Q3k n).ok nT 84 Tryz.f84 [[0]] [sI,sI,sI] [sB] (pK (G1 n))

noncomputable def RT (n:Nat):VB:=Xa [⟨84,NC n⟩] [cO 0 [1] [1],cK 1 [2]]
noncomputable def Jo (n:Nat):EnP Tryz.prog 122:=mkE (RT n).ok nT 122 Tryz.f122 [[0]] [eA [qT,qI,qI,qI,qI]] [sB] (pK (XD n))

noncomputable def KB (n:Nat):VB:=Xa [⟨121,Rg n⟩,⟨122,Jo n⟩] [cO 0 [1,2] [2],cO 1 [1,2,13] [2],cK 2 [4],cO 3 [1,2,5] [2],cO 4 [1,2,5,16] [2],cO 5 [1,2,5] [2],cO 6 [1,2,5,31] [2],cK 7 [4],cK 8 [38],cK 9 [4],cK 10 [4]]
noncomputable def RX (n:Nat) (m:Nat):LpE Tryz.prog:=mkL (KB n).ok nT 4 (cA [1,1,0,1,2,2] (Q6 Tryz.f77)) ⟨39,[(1,tI),(2,.ptr 2 0),(5,tI)],[(2,.box [tI,.l 5,.l 2,.l 4,.l 7,.l 4,.l 5,.l 3])]⟩ [yI,yI,yI,yL,yL,yL,yL,yL,yL,yL] (fun m R k b a d c e f g h i j=>VV n b c (k .ret ⟨39,[(4,dI (5:Int))],[]⟩) (fun a l=>k (.exit 0) ⟨39,[(1,dI b),(2,.ptr 2 0),(5,dI a),(16,dB l)],[(2,.box [dI d,dL 5 c,dL 2 e,dL 4 f,dL 7 g,dL 4 h,dL 5 i,dL 3 j])]⟩) m a) m
noncomputable def NO (n:Nat):EnP Tryz.prog 77:=mkE (KB n).ok [RX n n] 77 Tryz.f77 [[0]] [eA [qI,qL 5,qL 2,qL 4,qL 7,qL 4,qL 5,qL 3],sI] [sI] (pK (Vz n))

noncomputable def SG (n:Nat):VB:=Xa [] [cO 0 [2,3] [2,3],cO 1 [2,3,5] [2,3,5],cO 2 [2,5,16] [2,5],cO 3 [2,5] [2,5],cO 4 [2,5,6] [2,5],(5,⟨[2,5,6,7],[(2,2),(5,5)],[(6,1006,169,4)],[],[]⟩),cO 6 [2,5,6,7,22] [2,5,1006],cO 7 [2,5,6,7] [2,5,84,1006],cO 8 [2,5,6,7,8] [2,5,8,1006],cO 9 (2::rg1 5 5 []) [2,5,8,9,1006],cO 10 (2::rg1 5 5 [31]) [2,5,8,9,1006],cO 11 (2::rg1 5 5 []) [2,5,8,9,1006],cO 12 (2::rg1 5 5 [49]) [2,5,8,9,1006],cO 13 (2::rg1 5 5 []) [2,5,8,9,1006],cO 14 (2::rg1 5 5 [69]) [2,5,8,9,1006],cO 15 (2::rg1 5 6 []) [2,5,8,9,1006],cO 16 (2::rg1 5 6 [72]) [2,5,8,9,1006],cO 17 (2::rg1 5 6 []) [2,5,8,9,1006],cO 18 [2,5,6,7] [2,5,84],cO 19 [4] [1006],(3000000006,⟨[2,5,6,7],(zp [2,5,84,1006] [2,5,1006,1006]),[],[],[]⟩)]
noncomputable def D4 (n:Nat) (m:Nat):LpE Tryz.prog:=mkL (SG n).ok nT 6 (cA [1,1,1,1,0,1,2,2] (Q6 Tryz.f128)) ⟨86,[(2,.ptr 2 0),(5,.ptr 5 0),(6,.arr 1006),(7,tI)],[(2,.box [.l 1,.l 1,.l 5,.l 6]),(5,.box [tI,tI]),(1006,.arr 169 4)]⟩ [yI,yL,yL,yL,yL,yI,yI,yL] (fun m R k h2 e f g b c d a=>YB n b c d (fun h2 h a=>k (.exit 0) ⟨86,[(2,.ptr 2 0),(5,.ptr 5 0),(6,.arr 1006),(7,dI h2),(22,dB h)],[(2,.box [dL 1 e,dL 1 f,dL 5 g,dL 6 b]),(5,.box [dI c,dI d]),(1006,.arr 169 4 a)]⟩) m h2 a) m
noncomputable def B8 (n:Nat):EnP Tryz.prog 128:=mkE (SG n).ok [D4 n n] 128 Tryz.f128 [[4]] [eA [qL 1,qL 1,qL 5,qL 6],eA [qI,qI]] [sL 4] (pK (E2 n))

noncomputable def SF (n:Nat):VB:=Xa [⟨128,B8 n⟩] [cO 0 [3,4,5,6] [3,4,5,6],cO 1 [5,6,8] [5,6],cO 2 [5,6,8,9] [5,6],cO 3 [5,6,8,9,16] [5,6],cO 4 [5,6,8,9] [5,6],cO 5 [5,6,8,9,25] [5,6],cO 6 [6,7] [6],cO 7 [6,7] [6]]
noncomputable def D6 (n:Nat) (m:Nat):LpE Tryz.prog:=mkL (SF n).ok nT 3 (cA [1,1,0,1,2,2] (Q6 Tryz.f89)) ⟨31,[(5,.ptr 5 0),(6,.ptr 6 0),(8,.l 4),(9,tI)],[(5,.box [tI,tI]),(6,.box [.ci .i64 0,.ci .i64 0,.ci .i64 0,.ci .i64 0])]⟩ [yL,yI,yI,yI] (fun m R k h2 a b c=>KS n h2 b c (fun d e f g=>k .ret ⟨31,[(6,.ptr 6 0),(7,dB true)],[(6,.box [.d d,.d e,.d f,.d g])]⟩) (fun a h=>k (.exit 0) ⟨31,[(5,.ptr 5 0),(6,.ptr 6 0),(8,dL 4 h2),(9,dI a),(16,dB h)],[(5,.box [dI b,dI c]),(6,.box [dI (0:Int),dI (0:Int),dI (0:Int),dI (0:Int)])]⟩) m a) m
noncomputable def N4 (n:Nat):EnP Tryz.prog 89:=mkE (SF n).ok [D6 n n] 89 Tryz.f89 [[0,0,0,0],[0]] [eA [qL 1,qL 1,qL 5,qL 6],eA [qI,qI],eA [qI,qI]] [eT 2,eA [qX,qX,qX,qX],sB] (pK (V2 n))

noncomputable def ZX (n:Nat):VB:=Xa [⟨74,MR n⟩,⟨84,NC n⟩,⟨89,N4 n⟩] [cO 0 [2,3] [2,3],cO 1 [2,3,13] [2,3],cK 2 [4],cO 3 [2,3,22] [2,3],cK 4 [4],cO 5 [2,3,34] [2,3],cK 6 [4],cO 7 [2,3,5] [2,3],cO 8 [2,3,5,39] [2,3],cO 9 [2,3,5] [2,3],cO 10 [2,3,5,63] [2,3],cK 11 [4],cO 12 [2,3,6] [2,3],cO 13 [2,3,6,68] [2,3],cO 14 [2,3,6] [2,3],cO 15 [2,3,6,7] [2,3],cO 16 [2,3,6,7,73] [2,3],cO 17 [2,3,6,7] [2,3],cO 18 [2,3,6,7,88] [2,3],cK 19 [4],cO 20 [2,3,8] [2,3],cO 21 [2,3,8,93] [2,3],cO 22 [2,3,8] [2,3],cO 23 [2,3,8,10] [2,3],cO 24 [2,3,8,113] [2,3],cK 25 [4],cK 26 [4]]
noncomputable def Rs (n:Nat) (m:Nat):LpE Tryz.prog:=mkL (ZX n).ok nT 8 (cA [1,1,1,1,0,1,2,2] (Q6 Tryz.f78)) ⟨114,[(2,.ptr 2 0),(3,.ptr 3 0),(5,tI)],[(2,.box [.l 1,.l 1,.l 5,.l 6]),(3,.box [.l 2,tI])]⟩ [yI,yL,yL,yL,yL,yL,yI] (fun m R k h2 c d a e b f=>Ya n a b (k .ret ⟨114,[(4,dI (4:Int))],[]⟩) (fun h2 g=>k (.exit 0) ⟨114,[(2,.ptr 2 0),(3,.ptr 3 0),(5,dI h2),(39,dB g)],[(2,.box [dL 1 c,dL 1 d,dL 5 a,dL 6 e]),(3,.box [dL 2 b,dI f])]⟩) m h2) m
noncomputable def Rp (n:Nat) (m:Nat):LpE Tryz.prog:=mkL (ZX n).ok nT 16 (cA [1,1,1,1,1,0,1,2,2,1,0,2,1,2,2] (Q6 Tryz.f78)) ⟨114,[(2,.ptr 2 0),(3,.ptr 3 0),(6,tI),(7,tI)],[(2,.box [.l 1,.l 1,.l 5,.l 6]),(3,.box [.l 2,tI])]⟩ [yI,yI,yL,yL,yL,yL,yL,yI] (fun m R k b a d e f g c h=>VR n b c (k .ret ⟨114,[(4,dI (5:Int))],[]⟩) (fun a i=>k (.exit 4) ⟨114,[(2,.ptr 2 0),(3,.ptr 3 0),(6,dI b),(7,dI a),(73,dB i)],[(2,.box [dL 1 d,dL 1 e,dL 5 f,dL 6 g]),(3,.box [dL 2 c,dI h])]⟩) m a) m
noncomputable def RG (n:Nat) (m:Nat):LpE Tryz.prog:=mkL (ZX n).ok [Rp n n] 13 (cA [1,1,1,1,1,0,1,2,2] (Q6 Tryz.f78)) ⟨114,[(2,.ptr 2 0),(3,.ptr 3 0),(6,tI)],[(2,.box [.l 1,.l 1,.l 5,.l 6]),(3,.box [.l 2,tI])]⟩ [yI,yL,yL,yL,yL,yL,yI] (fun m R k a c d e f b g=>Ui n b (k .ret ⟨114,[(4,dI (5:Int))],[]⟩) (fun a h=>k (.exit 2) ⟨114,[(2,.ptr 2 0),(3,.ptr 3 0),(6,dI a),(68,dB h)],[(2,.box [dL 1 c,dL 1 d,dL 5 e,dL 6 f]),(3,.box [dL 2 b,dI g])]⟩) m a) m
noncomputable def N0 (n:Nat) (m:Nat):LpE Tryz.prog:=mkL (ZX n).ok nT 21 (cA [1,1,1,1,1,1,0,1,2,2] (Q6 Tryz.f78)) ⟨114,[(2,.ptr 2 0),(3,.ptr 3 0),(8,tI)],[(2,.box [.l 1,.l 1,.l 5,.l 6]),(3,.box [.l 2,tI])]⟩ [yI,yL,yL,yL,yL,yL,yI] (fun m R k a b c d e f g=>Y7 n b c d e f (k .ret ⟨114,[(4,dI (11:Int))],[]⟩) (fun a h=>k (.exit 6) ⟨114,[(2,.ptr 2 0),(3,.ptr 3 0),(8,dI a),(93,dB h)],[(2,.box [dL 1 b,dL 1 c,dL 5 d,dL 6 e]),(3,.box [dL 2 f,dI g])]⟩) m a) m
noncomputable def H2 (n:Nat):EnP Tryz.prog 78:=mkE (ZX n).ok [Rs n n,RG n n,N0 n n] 78 Tryz.f78 [[0]] [eA [qL 1,qL 1,qL 5,qL 6],eA [qL 2,qI]] [sI] (pK (Uq n))

noncomputable def Db (n:Nat):VB:=Xa [] [cO 0 [1,2,3] [3],cK 1 [6]]
noncomputable def HM (n:Nat):EnP Tryz.prog 123:=mkE (Db n).ok nT 123 Tryz.f123 [[0]] [eA [qI,qL 5,qL 2,qL 4,qL 7,qL 4,qL 5,qL 3],sI,sI] [sB] (pK (Jd n))

noncomputable def HV (n:Nat):VB:=Xa [⟨78,H2 n⟩] [cO 0 [2,3] [2,3],cO 1 [2,3,7] [2,3],cO 2 [2,3,7,17] [2,3],cK 3 [4,5,6],cO 4 [2,3,8] [2,3],(5,⟨[2,3,8,9],[(2,2),(3,3)],[(8,1008,227,2)],[],[]⟩),cO 6 [2,3,8,9,26] [2,3,1008],cO 7 [2,3,8,9] [2,3,1008],cO 8 [2,3,8,9,10] [2,3,10,1008],cO 9 [2,3,8,9,10,11] [2,3,10,1008],cO 10 [2,3,8,9,10,11,47] [2,3,10,1008],cO 11 [2,3,8,9,10,11] [2,3,10,1008],cO 12 (2::3::rg1 8 5 []) [2,3,10,1008],cO 13 (2::3::rg1 8 5 [53]) [2,3,10,1008],cO 14 (2::3::rg1 8 5 []) [2,3,10,62],cO 15 (2::3::rg1 8 5 []) [2,3,10,62],cO 16 [2,3,8,65] [2,3,1008],cK 17 [4,5,6],cO 18 [4,5,6] [1008],cO 3000000006 [2,3,8,9] [2,3,1008],(3000000013,⟨(2::3::rg1 8 5 []),(zp [2,3,10,62,1008] [2,3,10,1008,1008]),[],[],[]⟩)]
noncomputable def CT (n:Nat) (m:Nat):LpE Tryz.prog:=mkL (HV n).ok nT 13 (cA [1,1,1,0,1,2,2,1,0,2,1,1,1,1,2,2] (Q6 Tryz.f126)) ⟨77,[(2,.ptr 2 0),(3,.ptr 3 0),(8,.arr 1008),(9,tI),(10,.ptr 10 0),(11,tI),(12,tI)],[(2,.box [.l 1,.l 1,.l 5,.l 6]),(3,.box [.l 2,tI]),(10,.box [.x,.x,.x,.x,.x]),(1008,.arr 227 2)]⟩ [yI,yI,yI,yL,yL,yL,yL,yL,yI,yD,yD,yD,yD,yD,yL] (fun m R k f c a g h i j l o p d e q r b=>ZT n c d e (fun a s b=>k (.exit 2) ⟨77,[(2,.ptr 2 0),(3,.ptr 3 0),(8,.arr 1008),(9,dI f),(10,.ptr 10 0),(11,dI c),(12,dI a),(53,dB s)],[(2,.box [dL 1 g,dL 1 h,dL 5 i,dL 6 j]),(3,.box [dL 2 l,dI o]),(10,.box [.d p,.d d,.d e,.d q,.d r]),(1008,.arr 227 2 b)]⟩) m a b) m
noncomputable def CQ (n:Nat) (m:Nat):LpE Tryz.prog:=mkL (HV n).ok [CT n n] 6 (cA [1,1,1,0,1,2,2] (Q6 Tryz.f126)) ⟨77,[(2,.ptr 2 0),(3,.ptr 3 0),(8,.arr 1008),(9,tI)],[(2,.box [.l 1,.l 1,.l 5,.l 6]),(3,.box [.l 2,tI]),(1008,.arr 227 2)]⟩ [yI,yL,yL,yL,yL,yL,yI,yL] (fun m R k h2 e f b g c d a=>Wb n b c d (fun h2 h a=>k (.exit 0) ⟨77,[(2,.ptr 2 0),(3,.ptr 3 0),(8,.arr 1008),(9,dI h2),(26,dB h)],[(2,.box [dL 1 e,dL 1 f,dL 5 b,dL 6 g]),(3,.box [dL 2 c,dI d]),(1008,.arr 227 2 a)]⟩) m h2 a) m
noncomputable def MK (n:Nat):EnP Tryz.prog 126:=mkE (HV n).ok [CQ n n] 126 Tryz.f126 [[2],[0],[0]] [eA [qL 1,qL 1,qL 5,qL 6],eA [qL 2,qI]] [eT 3,sL 2,sI,sI] (pK (Hb n))

noncomputable def MG (n:Nat):VB:=Xa [⟨126,MK n⟩,⟨122,Jo n⟩] [cO 0 [3,4,5] [3,4,5],cO 1 [3,4,5,9] [3,4,5],cO 2 [3,4,5,9,19] [3,4,5],cK 3 [6],cO 4 [3,4,5,23] [3,4,5],cK 5 [6],cO 6 [3,4,5,10] [3,4,5],cO 7 [3,4,5,10,31] [3,4,5],cO 8 [3,4,5,10] [3,4,5],cO 9 [3,4,5,10,48] [3,4,5],cK 10 [6],cK 11 [6]]
noncomputable def Ag (n:Nat) (m:Nat):LpE Tryz.prog:=mkL (MG n).ok nT 7 (cA [1,1,1,0,1,2,2] (Q6 Tryz.f83)) ⟨49,[(3,.ptr 3 0),(4,.ptr 4 0),(5,.ptr 5 0),(10,tI)],[(3,.box [.l 1,.l 1,.l 5,.l 6]),(4,.box [.l 2,tI]),(5,.box [.t,tI,tI,tI,tI])]⟩ [yI,yL,yL,yL,yL,yL,yI,yT,yI,yI,yI,yI] (fun m R k a f g b h c d i e j l o=>Vi n b c d e (k .ret ⟨49,[(6,dI (12:Int))],[]⟩) (fun a p=>k (.exit 0) ⟨49,[(3,.ptr 3 0),(4,.ptr 4 0),(5,.ptr 5 0),(10,dI a),(31,dB p)],[(3,.box [dL 1 f,dL 1 g,dL 5 b,dL 6 h]),(4,.box [dL 2 c,dI d]),(5,.box [dT i,dI e,dI j,dI l,dI o])]⟩) m a) m
noncomputable def SY (n:Nat):EnP Tryz.prog 83:=mkE (MG n).ok [Ag n n] 83 Tryz.f83 [[0]] [eA [qL 1,qL 1,qL 5,qL 6],eA [qL 2,qI],eA [qT,qI,qI,qI,qI]] [sI] (pK (Ht n))

noncomputable def B4 (n:Nat):VB:=Xa [] [cO 0 [1] [1],cK 1 [2]]
noncomputable def Pv (n:Nat):EnP Tryz.prog 124:=mkE (B4 n).ok nT 124 Tryz.f124 [[0]] [eA [qL 2,qI]] [sI] (pK (GG n))

noncomputable def Q06 (n:Nat):VB:=Xa [] [cO 0 [1] [1],cK 1 [2]]
noncomputable def R4 (n:Nat):EnP Tryz.prog 125:=mkE (Q06 n).ok nT 125 Tryz.f125 [[0]] [eA [qL 2,qI]] [sI] (pK (H9 n))

noncomputable def Jc (n:Nat):VB:=Xa [⟨121,Rg n⟩,⟨76,Pc n⟩,⟨123,HM n⟩,⟨83,SY n⟩,⟨124,Pv n⟩,⟨125,R4 n⟩] [cO 0 [2,3,4] [3,4],cO 1 [2,3,4,7] [3,4,7],cO 2 [2,3,4,7,21] [3,4,7],cK 3 [6],cO 4 [2,3,4,7,8] [3,4,7],cO 5 [2,3,4,7,8,24] [3,4,7],cO 6 [2,3,4,7,8] [3,4,7],cO 7 [2,3,4,7,8,35] [3,4,7],cK 8 [6],cO 9 [3,4,7,49] [3,4,7],cK 10 [6],cO 11 [3,4,7,53] [3,4,7],cK 12 [6],cO 13 [3,4,7,9] [3,4,7],cO 14 [3,4,7,9,58] [3,4,7],cO 15 [3,4,7,9] [3,4,7],cO 16 [3,4,7,9,10] [3,4,7,10],cO 17 [3,4,7,9,10,11] [3,4,7,10],cO 18 [3,4,7,9,10,110] [3,4,7,10],cK 19 [6],cO 20 [3,4,7,9,10,12] [3,4,7,10],cO 21 [3,4,7,9,10,12,126] [3,4,7,10],cK 22 [6],cO 23 [3,4,7,9,151] [3,4,7],cK 24 [6],cK 25 [6]]
noncomputable def Mg (n:Nat) (m:Nat):LpE Tryz.prog:=mkL (Jc n).ok nT 5 (cA [1,1,1,0,1,2,2] (Q6 Tryz.f79)) ⟨152,[(2,tI),(3,.ptr 3 0),(4,.ptr 4 0),(7,.ptr 7 0),(8,tI)],[(3,.box [.l 1,.l 1,.l 5,.l 6]),(4,.box [tI,.l 5,.l 2,.l 4,.l 7,.l 4,.l 5,.l 3]),(7,.box [.x,.x,.x,.x])]⟩ [yI,yI,yL,yL,yL,yL,yI,yL,yL,yL,yL,yL,yL,yL,yD,yD,yD,yD] (fun m R k b a e f g h i j l c o p q r d s t u=>Zs n b c d (k .ret ⟨152,[(6,dI (5:Int))],[]⟩) (fun a v=>k (.exit 0) ⟨152,[(2,dI b),(3,.ptr 3 0),(4,.ptr 4 0),(7,.ptr 7 0),(8,dI a),(24,dB v)],[(3,.box [dL 1 e,dL 1 f,dL 5 g,dL 6 h]),(4,.box [dI i,dL 5 j,dL 2 l,dL 4 c,dL 7 o,dL 4 p,dL 5 q,dL 3 r]),(7,.box [.d d,.d s,.d t,.d u])]⟩) m a) m
noncomputable def Mx (n:Nat) (m:Nat):LpE Tryz.prog:=mkL (Jc n).ok nT 14 (cA [1,1,1,1,1,1,0,1,2,2] (Q6 Tryz.f79)) ⟨152,[(3,.ptr 3 0),(4,.ptr 4 0),(7,.ptr 7 0),(9,tI)],[(3,.box [.l 1,.l 1,.l 5,.l 6]),(4,.box [tI,.l 5,.l 2,.l 4,.l 7,.l 4,.l 5,.l 3]),(7,.box [.x,.x,.x,.x])]⟩ [yI,yL,yL,yL,yL,yI,yL,yL,yL,yL,yL,yL,yL,yD,yD,yD,yD] (fun m R k a b c d e f g h i j l o p s q t r=>Zj n b c d e f g h i j l o p q r (fun u=>k .ret ⟨152,[(6,dI u)],[]⟩) (fun a v=>k (.exit 2) ⟨152,[(3,.ptr 3 0),(4,.ptr 4 0),(7,.ptr 7 0),(9,dI a),(58,dB v)],[(3,.box [dL 1 b,dL 1 c,dL 5 d,dL 6 e]),(4,.box [dI f,dL 5 g,dL 2 h,dL 4 i,dL 7 j,dL 4 l,dL 5 o,dL 3 p]),(7,.box [.d s,.d q,.d t,.d r])]⟩) m a) m
noncomputable def F4 (n:Nat):EnP Tryz.prog 79:=mkE (Jc n).ok [Mg n n,Mx n n] 79 Tryz.f79 [[0]] [eA [qL 1,qL 1,qL 5,qL 6],eA [qI,qL 5,qL 2,qL 4,qL 7,qL 4,qL 5,qL 3],sI] [sI] (pK (Jy n))

noncomputable def Q0v (n:Nat):VB:=Xa [⟨76,Pc n⟩] [cO 0 [1,2,3] [3],cK 1 [6]]
noncomputable def Ex (n:Nat):EnP Tryz.prog 82:=mkE (Q0v n).ok nT 82 Tryz.f82 [[0]] [eA [qI,qL 5,qL 2,qL 4,qL 7,qL 4,qL 5,qL 3],sI,sI] [sB] (pK (UR n))

noncomputable def EV (n:Nat):VB:=Xa [] [cO 0 [1,2,3,6] [3,6],cO 1 [6] [6]]
noncomputable def KU (n:Nat):EnP Tryz.prog 38:=mkE (EV n).ok nT 38 Tryz.f38 [[2,0]] [eA [qI,qL 5,qL 2,qL 4,qL 7,qL 4,qL 5,qL 3],sI,sI] [eA [qX,qX]] (pK (XG n))

noncomputable def SK (n:Nat):VB:=Xa [⟨82,Ex n⟩,⟨123,HM n⟩,⟨76,Pc n⟩,⟨38,KU n⟩,⟨125,R4 n⟩,⟨124,Pv n⟩] [cO 0 [3,4,5] [3,4,5],cO 1 [3,4,5,46] [3,4,5],cK 2 [6],cO 3 [3,4,5,7] [3,4,5],cK 4 [7,8],cK 5 [77],cK 6 [6],cK 7 [6]]
noncomputable def Nj (n:Nat):EnP Tryz.prog 80:=mkE (SK n).ok nT 80 Tryz.f80 [[0]] [eA [qL 1,qL 1,qL 5,qL 6],eA [qI,qL 5,qL 2,qL 4,qL 7,qL 4,qL 5,qL 3],eA [qI,qI,qI,qI,qI,qI,qI]] [sI] (pK (G5 n))

noncomputable def H5 (n:Nat):VB:=Xa [⟨76,Pc n⟩,⟨123,HM n⟩,⟨38,KU n⟩,⟨125,R4 n⟩,⟨124,Pv n⟩] [cO 0 [1,2] [2],cO 1 [1,2,5] [2,5],cO 2 [1,2,5,40] [2,5],cK 3 [4],cO 4 [1,2,5,6] [2,5],cO 5 [1,2,5,6,43] [2,5],cO 6 [1,2,5,6] [2,5],cO 7 [1,2,5,6,65] [2,5],cK 8 [4],cO 9 [2,5,7,8] [2,5,7,8],cK 10 [99],cK 11 [4],cK 12 [4]]
noncomputable def M7 (n:Nat) (m:Nat):LpE Tryz.prog:=mkL (H5 n).ok nT 5 (cA [1,1,1,0,1,2,2] (Q6 Tryz.f81)) ⟨100,[(1,tI),(2,.ptr 2 0),(5,.ptr 5 0),(6,tI)],[(2,.box [tI,.l 5,.l 2,.l 4,.l 7,.l 4,.l 5,.l 3]),(5,.box [.x,.x,.x,.x])]⟩ [yI,yI,yI,yL,yL,yL,yL,yL,yL,yL,yD,yD,yD,yD] (fun m R k b a f g h i j c l o d e p q=>Zt n b c d e (k .ret ⟨100,[(4,dI (5:Int))],[]⟩) (fun a r=>k (.exit 0) ⟨100,[(1,dI b),(2,.ptr 2 0),(5,.ptr 5 0),(6,dI a),(43,dB r)],[(2,.box [dI f,dL 5 g,dL 2 h,dL 4 i,dL 7 j,dL 4 c,dL 5 l,dL 3 o]),(5,.box [.d d,.d e,.d p,.d q])]⟩) m a) m
noncomputable def Lc (n:Nat):EnP Tryz.prog 81:=mkE (H5 n).ok [M7 n n] 81 Tryz.f81 [[0]] [eA [qI,qL 5,qL 2,qL 4,qL 7,qL 4,qL 5,qL 3],sI] [sI] (pK (Jz n))

noncomputable def XX (n:Nat):VB:=Xa [⟨74,MR n⟩,⟨75,Q1c n⟩,⟨76,Pc n⟩,⟨77,NO n⟩,⟨78,H2 n⟩,⟨79,F4 n⟩,⟨80,Nj n⟩,⟨81,Lc n⟩,⟨82,Ex n⟩] [cO 0 [2,3] [2,3],cO 1 [2,3,21] [2,3],cK 2 [4],cO 3 [2,3,23] [2,3],cK 4 [4],cO 5 [2,3,27] [2,3],cK 6 [4],cO 7 [2,3,5] [2,3],cO 8 [2,3,5,32] [2,3],cO 9 [2,3,5] [2,3],cO 10 [2,3,5,6] [2,3],cO 11 [2,3,5,6,39] [2,3],cK 12 [4],cO 13 [2,3,7] [2,3],cO 14 [2,3,7,45] [2,3],cO 15 [2,3,7] [2,3],cO 16 [2,3,7,8] [2,3],cO 17 [2,3,7,8,56] [2,3],cK 18 [4],cO 19 [2,3,9] [2,3],cO 20 [2,3,9,62] [2,3],cO 21 [2,3,9] [2,3],cO 22 [2,3,9,10] [2,3],cO 23 [2,3,9,10,70] [2,3],cK 24 [4],cO 25 [2,3,11] [2,3],cO 26 [2,3,11,76] [2,3],cO 27 [2,3,11] [2,3],cO 28 [2,3,11,12] [2,3],cO 29 [2,3,11,12,88] [2,3],cK 30 [4],cO 31 [2,3,13] [2,3],cO 32 [2,3,13,94] [2,3],cO 33 [2,3,13] [2,3],cO 34 [2,3,13,14] [2,3],cO 35 [2,3,13,14,101] [2,3],cK 36 [4],cO 37 [2,3,15] [2,3],cO 38 [2,3,15,107] [2,3],cO 39 [2,3,15] [2,3],cO 40 [2,3,15,16] [2,3,16],cO 41 [2,3,15,153] [2,3],cK 42 [4],cO 43 [2,3,17] [2,3],cO 44 [2,3,17,158] [2,3],cO 45 [2,3,17] [2,3],cO 46 [2,3,17,18] [2,3,18],cO 47 [2,3,17,196] [2,3],cK 48 [4],cK 49 [4]]
noncomputable def Mq (n:Nat) (m:Nat):LpE Tryz.prog:=mkL (XX n).ok nT 8 (cA [1,1,1,1,0,1,2,2] (Q6 Tryz.f35)) ⟨197,[(2,.ptr 2 0),(3,.ptr 3 0),(5,tI)],[(2,.box [.l 1,.l 1,.l 5,.l 6]),(3,.box [tI,.l 5,.l 2,.l 4,.l 7,.l 4,.l 5,.l 3])]⟩ [yI,yL,yL,yL,yL,yI,yL,yL,yL,yL,yL,yL,yL] (fun m R k a j l o p b c d e f g h i=>Zn n b c d e f g h i (fun q=>k .ret ⟨197,[(4,dI q)],[]⟩) (fun a r=>k (.exit 0) ⟨197,[(2,.ptr 2 0),(3,.ptr 3 0),(5,dI a),(32,dB r)],[(2,.box [dL 1 j,dL 1 l,dL 5 o,dL 6 p]),(3,.box [dI b,dL 5 c,dL 2 d,dL 4 e,dL 7 f,dL 4 g,dL 5 h,dL 3 i])]⟩) m a) m
noncomputable def NM (n:Nat) (m:Nat):LpE Tryz.prog:=mkL (XX n).ok nT 14 (cA [1,1,1,1,1,0,1,2,2] (Q6 Tryz.f35)) ⟨197,[(2,.ptr 2 0),(3,.ptr 3 0),(7,tI)],[(2,.box [.l 1,.l 1,.l 5,.l 6]),(3,.box [tI,.l 5,.l 2,.l 4,.l 7,.l 4,.l 5,.l 3])]⟩ [yI,yL,yL,yL,yL,yI,yL,yL,yL,yL,yL,yL,yL] (fun m R k a b c d e g h f i j l o p=>Zi n b c d e f (fun q=>k .ret ⟨197,[(4,dI q)],[]⟩) (fun a r=>k (.exit 2) ⟨197,[(2,.ptr 2 0),(3,.ptr 3 0),(7,dI a),(45,dB r)],[(2,.box [dL 1 b,dL 1 c,dL 5 d,dL 6 e]),(3,.box [dI g,dL 5 h,dL 2 f,dL 4 i,dL 7 j,dL 4 l,dL 5 o,dL 3 p])]⟩) m a) m
noncomputable def NQ (n:Nat) (m:Nat):LpE Tryz.prog:=mkL (XX n).ok nT 20 (cA [1,1,1,1,1,1,0,1,2,2] (Q6 Tryz.f35)) ⟨197,[(2,.ptr 2 0),(3,.ptr 3 0),(9,tI)],[(2,.box [.l 1,.l 1,.l 5,.l 6]),(3,.box [tI,.l 5,.l 2,.l 4,.l 7,.l 4,.l 5,.l 3])]⟩ [yI,yL,yL,yL,yL,yI,yL,yL,yL,yL,yL,yL,yL] (fun m R k a b c d e f g h i j l o p=>Zm n b c d e f g h i j l o p (fun q=>k .ret ⟨197,[(4,dI q)],[]⟩) (fun a r=>k (.exit 4) ⟨197,[(2,.ptr 2 0),(3,.ptr 3 0),(9,dI a),(62,dB r)],[(2,.box [dL 1 b,dL 1 c,dL 5 d,dL 6 e]),(3,.box [dI f,dL 5 g,dL 2 h,dL 4 i,dL 7 j,dL 4 l,dL 5 o,dL 3 p])]⟩) m a) m
noncomputable def MD (n:Nat) (m:Nat):LpE Tryz.prog:=mkL (XX n).ok nT 26 (cA [1,1,1,1,1,1,1,0,1,2,2] (Q6 Tryz.f35)) ⟨197,[(2,.ptr 2 0),(3,.ptr 3 0),(11,tI)],[(2,.box [.l 1,.l 1,.l 5,.l 6]),(3,.box [tI,.l 5,.l 2,.l 4,.l 7,.l 4,.l 5,.l 3])]⟩ [yI,yL,yL,yL,yL,yI,yL,yL,yL,yL,yL,yL,yL] (fun m R k a b c d e f g h i j l o p=>Yx n b c d e f g h i j l o p (fun q=>k .ret ⟨197,[(4,dI q)],[]⟩) (fun a r=>k (.exit 6) ⟨197,[(2,.ptr 2 0),(3,.ptr 3 0),(11,dI a),(76,dB r)],[(2,.box [dL 1 b,dL 1 c,dL 5 d,dL 6 e]),(3,.box [dI f,dL 5 g,dL 2 h,dL 4 i,dL 7 j,dL 4 l,dL 5 o,dL 3 p])]⟩) m a) m
noncomputable def NY (n:Nat) (m:Nat):LpE Tryz.prog:=mkL (XX n).ok nT 32 (cA [1,1,1,1,1,1,1,1,0,1,2,2] (Q6 Tryz.f35)) ⟨197,[(2,.ptr 2 0),(3,.ptr 3 0),(13,tI)],[(2,.box [.l 1,.l 1,.l 5,.l 6]),(3,.box [tI,.l 5,.l 2,.l 4,.l 7,.l 4,.l 5,.l 3])]⟩ [yI,yL,yL,yL,yL,yI,yL,yL,yL,yL,yL,yL,yL] (fun m R k a j l o p b c d e f g h i=>Yu n b c d e f g h i (fun q=>k .ret ⟨197,[(4,dI q)],[]⟩) (fun a r=>k (.exit 8) ⟨197,[(2,.ptr 2 0),(3,.ptr 3 0),(13,dI a),(94,dB r)],[(2,.box [dL 1 j,dL 1 l,dL 5 o,dL 6 p]),(3,.box [dI b,dL 5 c,dL 2 d,dL 4 e,dL 7 f,dL 4 g,dL 5 h,dL 3 i])]⟩) m a) m
noncomputable def M1 (n:Nat) (m:Nat):LpE Tryz.prog:=mkL (XX n).ok nT 38 (cA [1,1,1,1,1,1,1,1,1,0,1,2,2] (Q6 Tryz.f35)) ⟨197,[(2,.ptr 2 0),(3,.ptr 3 0),(15,tI)],[(2,.box [.l 1,.l 1,.l 5,.l 6]),(3,.box [tI,.l 5,.l 2,.l 4,.l 7,.l 4,.l 5,.l 3])]⟩ [yI,yL,yL,yL,yL,yI,yL,yL,yL,yL,yL,yL,yL] (fun m R k a j l o p b c d e f g h i=>Yq n b c d e f g h i (k .ret ⟨197,[(4,dI (4:Int))],[]⟩) (fun a q=>k (.exit 10) ⟨197,[(2,.ptr 2 0),(3,.ptr 3 0),(15,dI a),(107,dB q)],[(2,.box [dL 1 j,dL 1 l,dL 5 o,dL 6 p]),(3,.box [dI b,dL 5 c,dL 2 d,dL 4 e,dL 7 f,dL 4 g,dL 5 h,dL 3 i])]⟩) m a) m
noncomputable def M3 (n:Nat) (m:Nat):LpE Tryz.prog:=mkL (XX n).ok nT 44 (cA [1,1,1,1,1,1,1,1,1,1,0,1,2,2] (Q6 Tryz.f35)) ⟨197,[(2,.ptr 2 0),(3,.ptr 3 0),(17,tI)],[(2,.box [.l 1,.l 1,.l 5,.l 6]),(3,.box [tI,.l 5,.l 2,.l 4,.l 7,.l 4,.l 5,.l 3])]⟩ [yI,yL,yL,yL,yL,yI,yL,yL,yL,yL,yL,yL,yL] (fun m R k a b d e f g h i j l o p c=>Yw n b c (k .ret ⟨197,[(4,dI (4:Int))],[]⟩) (fun a q=>k (.exit 12) ⟨197,[(2,.ptr 2 0),(3,.ptr 3 0),(17,dI a),(158,dB q)],[(2,.box [dL 1 b,dL 1 d,dL 5 e,dL 6 f]),(3,.box [dI g,dL 5 h,dL 2 i,dL 4 j,dL 7 l,dL 4 o,dL 5 p,dL 3 c])]⟩) m a) m
noncomputable def LZ (n:Nat):EnP Tryz.prog 35:=mkE (XX n).ok [Mq n n,NM n n,NQ n n,MD n n,NY n n,M1 n n,M3 n n] 35 Tryz.f35 [[0]] [eA [qL 1,qL 1,qL 5,qL 6],eA [qI,qL 5,qL 2,qL 4,qL 7,qL 4,qL 5,qL 3]] [sI] (pK (UK n))

noncomputable def N1 (n:Nat):VB:=Xa [] [cO 0 [1,2,4] [2,4],cO 1 [1,2,4,6] [2,4],cO 2 [1,2,4,6,11] [2,4],cO 3 [1,2,4,6] [2,4],cO 4 [1,2,4,6,21] [2,4],cO 5 [4,5] [4],cO 6 [4,5] [4]]
noncomputable def Cw (n:Nat) (m:Nat):LpE Tryz.prog:=mkL (N1 n).ok nT 2 (cA [1,0,1,2,2] (Q6 Tryz.f36)) ⟨28,[(1,tI),(2,.ptr 2 0),(4,.ptr 4 0),(6,tI)],[(2,.box [tI,.l 5,.l 2,.l 4,.l 7,.l 4,.l 5,.l 3]),(4,.box [.ci .i64 0,.ci .i64 0,.ci .i64 0,.ci .i64 0])]⟩ [yI,yI,yI,yL,yL,yL,yL,yL,yL,yL] (fun m R k a h2 c d e f g b h i=>Uw n a b (fun j l o p=>k .ret ⟨28,[(4,.ptr 4 0),(5,dB true)],[(4,.box [.d j,.d l,.d o,.d p])]⟩) (fun h2 q=>k (.exit 0) ⟨28,[(1,dI a),(2,.ptr 2 0),(4,.ptr 4 0),(6,dI h2),(11,dB q)],[(2,.box [dI c,dL 5 d,dL 2 e,dL 4 f,dL 7 g,dL 4 b,dL 5 h,dL 3 i]),(4,.box [dI (0:Int),dI (0:Int),dI (0:Int),dI (0:Int)])]⟩) m h2) m
noncomputable def A8 (n:Nat):EnP Tryz.prog 36:=mkE (N1 n).ok [Cw n n] 36 Tryz.f36 [[0,0,0,0],[0]] [eA [qI,qL 5,qL 2,qL 4,qL 7,qL 4,qL 5,qL 3],sI] [eT 2,eA [qX,qX,qX,qX],sB] (pK (Sa n))

noncomputable def ES (n:Nat):VB:=Xa [⟨122,Jo n⟩,⟨84,NC n⟩] [cO 0 [0,1,5] [5],cK 1 [0,1,10],cK 2 [6],cK 3 [0,1,13],cK 4 [6],cK 5 [0,1,7],cK 6 [0,1,7,17],cK 7 [0,1,7],cK 8 [0,1,7,35],cK 9 [6],cK 10 [44],cK 11 [6],cK 12 [6]]
noncomputable def Q0F (n:Nat) (m:Nat):LpE Tryz.prog:=mkL (ES n).ok nT 6 (cA [1,1,1,0,1,2,2] (Q6 Tryz.f176)) ⟨45,[(0,.l 2),(1,tI),(7,tI)],[]⟩ [yL,yI,yI] (fun m R k h2 b a=>Je n h2 (k .ret ⟨45,[(6,dI (4:Int))],[]⟩) (fun a c=>k (.exit 0) ⟨45,[(0,dL 2 h2),(1,dI b),(7,dI a),(17,dB c)],[]⟩) m a) m
noncomputable def Q32 (n:Nat):EnP Tryz.prog 176:=mkE (ES n).ok [Q0F n n] 176 Tryz.f176 [[0]] [sL 2,sI,eA [qT,qI,qI,qI,qI]] [sI] (pK (Fa n))

noncomputable def NF (n:Nat):VB:=Xa [] [cO 0 [0,1,5] [5],cO 1 [0,1,5,7] [5],cK 2 [0,1,7,8],cK 3 [0,1,7,8,18],cK 4 [0,1,7,8],cK 5 [0,1,7,8],cK 6 [6]]
noncomputable def Cn (n:Nat) (m:Nat):LpE Tryz.prog:=mkL (NF n).ok nT 3 (cA [1,1,0,1,2,2] (Q6 Tryz.f177)) ⟨29,[(0,.l 2),(1,tI),(7,tI),(8,tI)],[]⟩ [yL,yI,yI,yI] (fun m R k c h2 a b=>Ut n c h2 (fun a b d=>k (.exit 0) ⟨29,[(0,dL 2 c),(1,dI h2),(7,dI a),(8,dI b),(18,dB d)],[]⟩) m a b) m
noncomputable def BV (n:Nat):EnP Tryz.prog 177:=mkE (NF n).ok [Cn n n] 177 Tryz.f177 [[0]] [sL 2,sI,eA [qT,qI,qI,qI,qI]] [sI] (pK (H4 n))

noncomputable def Cm (n:Nat):VB:=Xa [] [cO 0 [2,3] [2,3],cO 1 [2,3,7] [2,3],cK 2 [4],cK 3 [4]]
noncomputable def A4 (n:Nat):EnP Tryz.prog 178:=mkE (Cm n).ok nT 178 Tryz.f178 [[0]] [eA [qI,qI],eA [qT,qI,qI,qI,qI]] [sI] (pK (Sc n))

noncomputable def B9 (n:Nat):VB:=Xa [] [cO 0 [2,3] [2,3],cO 1 [2,3,7] [2,3],cK 2 [4],cK 3 [4]]
noncomputable def Az (n:Nat):EnP Tryz.prog 179:=mkE (B9 n).ok nT 179 Tryz.f179 [[0]] [eA [qI,qI],eA [qT,qI,qI,qI,qI]] [sI] (pK (S8 n))

noncomputable def MN (n:Nat):VB:=Xa [] [cK 0 [0],cK 1 [0,7],cK 2 [2],cK 3 [0,3,4],cK 4 [0,3,4,10],cK 5 [0,3,4,5],cK 6 [0,3,4,5,20],cK 7 [0,3,4],cK 8 [0,3,4],cK 9 [2]]
noncomputable def Q0p (n:Nat) (m:Nat):LpE Tryz.prog:=mkL (MN n).ok nT 4 (cA [1,1,1,0,2,2] (Q6 Tryz.f180)) ⟨25,[(0,tI),(3,tI),(4,tI)],[]⟩ [yI,yI,yI] (fun m R k b h2 a=>Um n b (fun h2 a c=>k (.exit 0) ⟨25,[(0,dI b),(3,dI h2),(4,dI a),(10,dB c)],[]⟩) m h2 a) m
noncomputable def Q0C (n:Nat):EnP Tryz.prog 180:=mkE (MN n).ok [Q0p n n] 180 Tryz.f180 [[0]] [sI] [sI] (pK (PI n))

noncomputable def UN (n:Nat):VB:=Xa [⟨176,Q32 n⟩,⟨177,BV n⟩,⟨178,A4 n⟩,⟨179,Az n⟩,⟨180,Q0C n⟩] [cO 0 [0,1,5] [5],cO 1 [0,1,5,8] [5],cO 2 [0,1,5,8,21] [5],cK 3 [6,7],cO 4 [0,1,5,9] [5],cO 5 [0,1,5,9,10] [5,29],cO 6 [0,1,5,9,10,11] [5,29],cO 7 [0,1,5,9,10,11,32] [5,29],cO 8 [0,1,5,9,10,11] [5,29],cO 9 [0,1,5,9,10,11,12] [5,29],cO 10 [0,1,5,9,10,11] [5,29],cO 11 [0,1,5,9,10,13] [5,29],cO 12 [0,1,5,9,10,13,57] [5,29],cO 13 [0,1,5,9,10,13] [5,29],cO 14 [0,1,5,9,10,13] [5,29],cO 15 [0,1,5,9,10,14] [5,29],cO 16 [0,1,5,9,10,14,86] [5,29],cO 17 [0,1,5,9,10,14] [5,29],cO 18 [0,1,5,9,10,14] [5,29],cO 19 [9,10,15] [29],cO 20 [9,10,15,116] [29],cO 21 [9,10,15] [29],cO 22 [9,10,15] [29],cO 23 [6,7] [29]]
noncomputable def Dv (n:Nat) (m:Nat):LpE Tryz.prog:=mkL (UN n).ok nT 7 (cA [1,1,1,1,0,1,2,2] (Q6 Tryz.f156)) ⟨128,[(0,.l 2),(1,tI),(5,.ptr 5 0),(9,tI),(10,.arr 29),(11,tI)],[(5,.box [.t,tI,tI,tI,tI]),(29,.arr 3 1)]⟩ [yL,yI,yI,yI,yT,yI,yI,yI,yI,yL] (fun m R k c d e a f g h i j b=>Wi n c d e f g h i j (fun a l b=>k (.exit 0) ⟨128,[(0,dL 2 c),(1,dI d),(5,.ptr 5 0),(9,dI e),(10,.arr 29),(11,dI a),(32,dB l)],[(5,.box [dT f,dI g,dI h,dI i,dI j]),(29,.arr 3 1 b)]⟩) m a b) m
noncomputable def D3 (n:Nat) (m:Nat):LpE Tryz.prog:=mkL (UN n).ok nT 12 (cA [1,1,1,1,1,0,1,2,2] (Q6 Tryz.f156)) ⟨128,[(0,.l 2),(1,tI),(5,.ptr 5 0),(9,tI),(10,.arr 29),(13,tI)],[(5,.box [.t,tI,tI,tI,tI]),(29,.arr 3 1)]⟩ [yL,yI,yI,yI,yT,yI,yI,yI,yI,yL] (fun m R k c d e a f g h i j b=>Wl n c d e f g h i j (fun a l b=>k (.exit 2) ⟨128,[(0,dL 2 c),(1,dI d),(5,.ptr 5 0),(9,dI e),(10,.arr 29),(13,dI a),(57,dB l)],[(5,.box [dT f,dI g,dI h,dI i,dI j]),(29,.arr 3 1 b)]⟩) m a b) m
noncomputable def Dm (n:Nat) (m:Nat):LpE Tryz.prog:=mkL (UN n).ok nT 16 (cA [1,1,1,1,1,1,0,1,2,2] (Q6 Tryz.f156)) ⟨128,[(0,.l 2),(1,tI),(5,.ptr 5 0),(9,tI),(10,.arr 29),(14,tI)],[(5,.box [.t,tI,tI,tI,tI]),(29,.arr 3 1)]⟩ [yL,yI,yI,yI,yT,yI,yI,yI,yI,yL] (fun m R k c d j a e f g h i b=>Wm n c d e f g h i (fun a l b=>k (.exit 4) ⟨128,[(0,dL 2 c),(1,dI d),(5,.ptr 5 0),(9,dI j),(10,.arr 29),(14,dI a),(86,dB l)],[(5,.box [dT e,dI f,dI g,dI h,dI i]),(29,.arr 3 1 b)]⟩) m a b) m
noncomputable def Dc (n:Nat) (m:Nat):LpE Tryz.prog:=mkL (UN n).ok nT 20 (cA [1,1,1,1,1,1,1,0,1,2,2] (Q6 Tryz.f156)) ⟨128,[(9,tI),(10,.arr 29),(15,tI)],[(29,.arr 3 1)]⟩ [yI,yI,yL] (fun m R k c a b=>Ua n c (fun a d b=>k (.exit 6) ⟨128,[(9,dI c),(10,.arr 29),(15,dI a),(116,dB d)],[(29,.arr 3 1 b)]⟩) m a b) m
noncomputable def B7 (n:Nat):EnP Tryz.prog 156:=mkE (UN n).ok [Dv n n,D3 n n,Dm n n,Dc n n] 156 Tryz.f156 [[1],[0]] [sL 2,sI,eA [qT,qI,qI,qI,qI]] [eT 2,sL 1,sI] (pK (HX n))

noncomputable def AP (n:Nat):VB:=Xa [] [cK 0 [0,1],cK 1 [0,1,5],cK 2 [5,12],cK 3 [5],cK 4 [4]]
noncomputable def SX (n:Nat):EnP Tryz.prog 86:=mkE (AP n).ok nT 86 Tryz.f86 [[0]] [sI,sI] [sI] (pK (UM n))

noncomputable def Ny (n:Nat):VB:=Xa [⟨156,B7 n⟩,⟨86,SX n⟩] [cO 0 [0,1,5] [5],cK 1 [8,9],cK 2 [8,9,20],cK 3 [6,7],cO 4 [8,10] [24],cO 5 [8,10,11] [24],cO 6 [8,10,11,28] [24],cO 7 [8,10,11] [24],cO 8 [8,10,11] [24],cO 9 [6,7] [24]]
noncomputable def CA (n:Nat) (m:Nat):LpE Tryz.prog:=mkL (Ny n).ok nT 6 (cA [1,1,1,1,0,1,2,2] (Q6 Tryz.f127)) ⟨52,[(8,.l 1),(10,.arr 24),(11,tI)],[(24,.arr 3 1)]⟩ [yL,yI,yL] (fun m R k c a b=>Uy n c (fun a d b=>k (.exit 0) ⟨52,[(8,dL 1 c),(10,.arr 24),(11,dI a),(28,dB d)],[(24,.arr 3 1 b)]⟩) m a b) m
noncomputable def AM (n:Nat):EnP Tryz.prog 127:=mkE (Ny n).ok [CA n n] 127 Tryz.f127 [[1],[0]] [sL 2,sI,eA [qT,qI,qI,qI,qI]] [eT 2,sL 1,sI] (pK (KZ n))

noncomputable def PD (n:Nat):VB:=Xa [⟨83,SY n⟩,⟨126,MK n⟩,⟨127,AM n⟩,⟨86,SX n⟩] [cO 0 (rg1 3 5 []) [3,4,5],cO 1 (rg1 3 5 [10]) [3,4,5],cO 2 (rg1 3 5 [10,23]) [3,4,5],cK 3 [6,7,8,9],cO 4 (rg1 3 5 [11,12]) [3,4,5],cO 5 (rg1 3 5 [14]) [3,4,5],cO 6 (rg1 3 5 [14,16]) [3,4,5],(7,⟨(rg1 3 5 [14,16,17]),(zp [3,4,5] [3,4,5]),[(6,1006,3,1),(7,1007,3,1)],[],[]⟩),cO 8 (rg1 3 5 [14,16,17,46]) [3,4,5,1006,1007],cO 9 (rg1 3 5 [14,16,17]) [3,4,5,55,84],cO 10 (rg1 3 5 [14,16,17]) [3,4,5,55,1007],cO 11 (rg1 3 5 [14,16,17,57]) [3,4,5,55,1007],cO 12 (rg1 3 5 [14,16,17]) [3,4,5,55,1007],cO 13 (rg1 3 5 [14,16,17]) [3,4,5,55,84],cO 14 [6,7,8,9] [1006,1007],(3000000008,⟨(rg1 3 5 [14,16,17]),(zp [3,4,5,55,1006,84,1007] [3,4,5,1006,1006,1007,1007]),[],[],[]⟩)]
noncomputable def Fq (n:Nat) (m:Nat):LpE Tryz.prog:=mkL (PD n).ok nT 8 (cA [1,1,1,1,1,0,1,2,2] (Q6 Tryz.f85)) ⟨94,[(3,.ptr 3 0),(4,.ptr 4 0),(5,.ptr 5 0),(6,.arr 1006),(7,.arr 1007),(14,.l 1),(16,tI),(17,tI)],[(3,.box [.l 1,.l 1,.l 5,.l 6]),(4,.box [.l 2,tI]),(5,.box [.t,tI,tI,tI,tI]),(1006,.arr 3 1),(1007,.arr 3 1)]⟩ [yL,yI,yI,yL,yL,yL,yL,yL,yI,yT,yI,yI,yI,yI,yL,yL] (fun m R k e a b j l f o g h p i q r s c d=>YK n e f g h i (fun a b t c d=>k (.exit 0) ⟨94,[(3,.ptr 3 0),(4,.ptr 4 0),(5,.ptr 5 0),(6,.arr 1006),(7,.arr 1007),(14,dL 1 e),(16,dI a),(17,dI b),(46,dB t)],[(3,.box [dL 1 j,dL 1 l,dL 5 f,dL 6 o]),(4,.box [dL 2 g,dI h]),(5,.box [dT p,dI i,dI q,dI r,dI s]),(1006,.arr 3 1 c),(1007,.arr 3 1 d)]⟩) m a b c d) m
noncomputable def EZ (n:Nat):EnP Tryz.prog 85:=mkE (PD n).ok [Fq n n] 85 Tryz.f85 [[1],[1],[0],[0]] [eA [qL 1,qL 1,qL 5,qL 6],eA [qL 2,qI],eA [qT,qI,qI,qI,qI]] [eT 4,sL 1,sL 1,sI,sI] (pK (KD n))

noncomputable def Br (n:Nat):VB:=Xa [] [cK 0 [0,1],cK 1 [0,1,5],cK 2 [5,12],cK 3 [5],cK 4 [4]]
noncomputable def Q0r (n:Nat):EnP Tryz.prog 87:=mkE (Br n).ok nT 87 Tryz.f87 [[0]] [sI,sI] [sI] (pK (Ud n))

noncomputable def R0 (n:Nat):VB:=Xa [] [(0,⟨(rg1 0 4 [14]),(zp (rg1 1000000 3 []) [1000000,98000,98001]),[],[],[]⟩),cO 1 [0,1,2,3] [98000,98001,1000000],cO 2 [0,1,2,3] [98000,98001,1000000],cO 3 [] [98000,98001,1000000]]
noncomputable def RF (n:Nat):EnP Tryz.prog 88:=mkG (R0 n).ok nT 88 Tryz.f88 [eP 1000000 2,eR 1000001 4 1,eR 1000002 142 3,sI,sI,sI] [eT 0,eI 1000000 2,eR 98000 4 1,eR 98001 142 3,eG 1000001,eG 1000002] [98000,98001] (pK (Yg n))

noncomputable def Pk (n:Nat):VB:=Xa [⟨83,SY n⟩,⟨84,NC n⟩,⟨85,EZ n⟩,⟨86,SX n⟩,⟨87,Q0r n⟩,⟨88,RF n⟩,⟨89,N4 n⟩] [cO 0 (rg1 3 5 []) [5,6,7],cO 1 (rg1 3 5 [13]) [5,6,7],cO 2 (rg1 3 5 [13,34]) [5,6,7],cK 3 [10,11,12],cO 4 (rg1 3 5 [43]) [5,6,7],cK 5 [10,11,12],cO 6 (rg1 3 4 [14,15,16]) [5,6],cO 7 (rg1 3 4 [14,15,16,18]) [5,6],cO 8 (rg1 3 4 [14,15,16,18,19]) [5,6,61,63,65],cO 9 (rg1 3 4 [14,15,16,18,19,20]) [5,6,61,63,65],cO 10 [3,4,5,6,14,15,16,18,19,20,21] [5,6,61,63,65],cO 11 (rg1 3 4 (14::15::16::rg1 18 5 [])) [5,6,61,63,65],cO 12 (rg1 3 4 (14::15::16::rg1 18 5 [73])) [5,6,61,63,65],cO 13 (rg1 3 4 (14::15::16::rg1 18 5 [])) [5,6,65,50169,100169,50134,100134],cO 14 (rg1 3 4 (14::15::16::rg1 18 5 [])) [5,6,61,63,65],cO 15 (rg1 3 4 (14::15::16::rg1 18 7 [])) [5,6,61,63,65],cO 16 (rg1 3 4 (14::15::16::rg1 18 5 [84])) [5,6,61,63,65],cO 17 (rg1 3 4 (14::15::16::rg1 18 7 [])) [5,6,61,63,65],cO 18 (rg1 3 4 (14::15::16::rg1 18 5 [94])) [5,6,61,63,65],cO 19 (rg1 3 4 (14::15::16::rg1 18 7 [])) [5,6,61,63,65],cO 20 (rg1 3 4 (14::15::16::rg1 18 5 [111])) [5,6,61,63,65],cO 21 (rg1 3 4 (14::15::16::rg1 18 7 [])) [5,6,61,63,65],cO 22 (rg1 3 4 (14::15::16::rg1 18 7 [])) [5,6,65,50134,100134],cO 23 (rg1 3 4 (14::15::16::rg1 18 7 [136])) [5,6,65,50134,100134],cO 24 (rg1 3 4 (14::15::16::rg1 18 8 [])) [5,6,25,65,50134,100134],cO 25 (rg1 3 4 (14::15::16::rg1 18 8 [155])) [5,6,25,65,50134,100134],cO 26 (rg1 3 4 (14::15::16::rg1 18 8 [158])) [5,6,25,65,50134,100134],cO 27 (rg1 3 4 (14::15::16::rg1 18 8 [])) [5,6,25,65,50134,100134],cO 28 (rg1 3 4 [14,15,16,18,19,20,22,24]) [5,6,65,50169,100169],cO 29 (rg1 3 4 (14::15::16::rg1 18 5 [])) [5,6,65,50169,100169,50134,100134],cO 30 [16,18,19,27] [61,63,65],(31,⟨[16,18,19,27,28],(zp [61,63,65] [61,63,65]),[(27,1027,142,3)],[],[]⟩),cO 32 [16,18,19,27,28,173] [61,63,65,1027],cO 33 [16,18,19,27,28] [61,63,65,192,1027],cO 34 [16,18,19,27,28,182] [61,63,65,1027],cO 35 [16,18,19,27,28] [61,63,65,192],cO 36 [10,11,12] [1027],(3000000012,⟨(rg1 3 4 (14::15::16::rg1 18 5 [])),(zp [5,6,61,50134,50169,63,100134,100169,65] [5,6,61,61,61,63,63,63,65]),[],[],[]⟩),(3000000032,⟨[16,18,19,27,28],(zp [61,63,65,192,1027] [61,63,65,1027,1027]),[],[],[]⟩)]
noncomputable def An (n:Nat) (m:Nat):LpE Tryz.prog:=mkL (Pk n).ok nT 12 (cA [1,1,1,1,1,1,1,1,0,1,2,2] (Q6 Tryz.f37)) ⟨195,[(3,tI),(4,tI),(5,.ptr 5 0),(6,.ptr 6 0),(14,.l 1),(15,.l 1),(16,tI),(18,tI),(19,.ptr 65 0),(20,tI),(21,tI),(22,tI)],[(5,.box [.l 1,.l 1,.l 5,.l 6]),(6,.box [.l 2,tI]),(61,.arr 4 1),(63,.arr 142 3),(65,.box [.arr 61,.arr 63])]⟩ [yI,yI,yL,yL,yI,yI,yI,yI,yI,yL,yL,yL,yL,yL,yI,yL,yL] (fun m R k e f g h i s j a b l o p q r t c d=>Zb n e f g h i j l o p q r (fun a b u c d=>k (.exit 0) ⟨195,[(3,dI e),(4,dI f),(5,.ptr 5 0),(6,.ptr 6 0),(14,dL 1 g),(15,dL 1 h),(16,dI i),(18,dI s),(19,.ptr 65 0),(20,dI j),(21,dI a),(22,dI b),(73,dB u)],[(5,.box [dL 1 l,dL 1 o,dL 5 p,dL 6 q]),(6,.box [dL 2 r,dI t]),(61,.arr 4 1 c),(63,.arr 142 3 d),(65,.box [.arr 61,.arr 63])]⟩) m a b c d) m
noncomputable def AF (n:Nat) (m:Nat):LpE Tryz.prog:=mkL (Pk n).ok nT 32 (cA [1,1,1,1,1,1,1,1,1,1,0,1,2,2] (Q6 Tryz.f37)) ⟨195,[(16,tI),(18,tI),(19,.ptr 65 0),(27,.arr 1027),(28,tI)],[(61,.arr 4 1),(63,.arr 142 3),(65,.box [.arr 61,.arr 63]),(1027,.arr 142 3)]⟩ [yI,yI,yI,yL,yL,yL] (fun m R k f c a d e b=>WK n c d e (fun a g b=>k (.exit 3) ⟨195,[(16,dI f),(18,dI c),(19,.ptr 65 0),(27,.arr 1027),(28,dI a),(173,dB g)],[(61,.arr 4 1 d),(63,.arr 142 3 e),(65,.box [.arr 61,.arr 63]),(1027,.arr 142 3 b)]⟩) m a b) m
noncomputable def Q1y (n:Nat):EnP Tryz.prog 37:=mkE (Pk n).ok [An n n,AF n n] 37 Tryz.f37 [[3],[0],[0]] [eA [qL 1,qL 1,qL 5,qL 6],eA [qL 2,qI],eA [qT,qI,qI,qI,qI],sI,sI] [eT 3,sL 3,sI,sI] (pK (JV n))

noncomputable def KW (n:Nat):VB:=Xa [⟨35,LZ n⟩,⟨36,A8 n⟩,⟨38,KU n⟩,⟨37,Q1y n⟩] [cO 0 [2,3] [2,3],cO 1 [2,3,22] [2,3],cK 2 [4,5,6],cO 3 [2,3,7] [2,3],cO 4 [2,3,7,8] [2,3],(5,⟨[2,3,7,8,9],[(2,2),(3,3)],[(7,1007,62,1),(8,1008,3,1)],[],[]⟩),cO 6 [2,3,7,8,9,27] [2,3,1007,1008],cO 7 [2,3,7,8,9] [2,3,1007,1008],cO 8 [2,3,7,8,9,10] [2,3,10,1007,1008],cO 9 (2::3::rg1 7 5 []) [2,3,10,1007,1008],cO 10 (2::3::rg1 7 5 [39]) [2,3,10,1007,1008],cO 11 (2::3::rg1 7 5 []) [2,3,10,108,112],cO 12 (2::3::rg1 7 7 []) [2,3,10,1007,1008],cO 13 (2::3::rg1 7 7 [50]) [2,3,10,1007,1008],cO 14 (2::3::rg1 7 7 []) [2,3,10,1007,1008],cO 15 (2::3::rg1 7 9 []) [2,3,10,14,1007,1008],cO 16 (2::3::rg1 7 9 [62]) [2,3,10,14,1007,1008],cO 17 (2::3::rg1 7 7 []) [2,3,10,1007,1008],cO 18 (2::3::rg1 7 8 [76]) [2,3,10,14,1007,1008],cO 19 (2::3::rg1 7 7 []) [2,3,10,1007,1008],cO 20 (2::3::rg1 7 5 [16,17]) [2,3,10,1007,1008],cO 21 (2::3::rg1 7 5 []) [2,3,10,108,112],cO 22 [4,5,6] [1007,1008],cO 3000000006 [2,3,7,8,9] [2,3,1007,1008],(3000000010,⟨(2::3::rg1 7 5 []),(zp [2,3,10,108,1007,112,1008] [2,3,10,1007,1007,1008,1008]),[],[],[]⟩)]
noncomputable def Di (n:Nat) (m:Nat):LpE Tryz.prog:=mkL (KW n).ok nT 10 (cA [1,1,1,1,0,1,2,2,1,0,2,1,1,2,2] (Q6 Tryz.f9)) ⟨115,[(2,.ptr 2 0),(3,.ptr 3 0),(7,.arr 1007),(8,.arr 1008),(9,tI),(10,.ptr 10 0),(11,tI)],[(2,.box [.l 1,.l 1,.l 5,.l 6]),(3,.box [tI,.l 5,.l 2,.l 4,.l 7,.l 4,.l 5,.l 3]),(10,.box [.x,.x,.x,.x]),(1007,.arr 62 1),(1008,.arr 3 1)]⟩ [yI,yI,yL,yL,yL,yL,yI,yL,yL,yL,yL,yL,yL,yL,yD,yD,yD,yD,yL,yL] (fun m R k d a e f g h i j l o p q r s v t x u b c=>Y5 n d e f g h i j l o p q r s t u (fun a y b c=>k (.exit 2) ⟨115,[(2,.ptr 2 0),(3,.ptr 3 0),(7,.arr 1007),(8,.arr 1008),(9,dI d),(10,.ptr 10 0),(11,dI a),(39,dB y)],[(2,.box [dL 1 e,dL 1 f,dL 5 g,dL 6 h]),(3,.box [dI i,dL 5 j,dL 2 l,dL 4 o,dL 7 p,dL 4 q,dL 5 r,dL 3 s]),(10,.box [.d v,.d t,.d x,.d u]),(1007,.arr 62 1 b),(1008,.arr 3 1 c)]⟩) m a b c) m
noncomputable def Df (n:Nat) (m:Nat):LpE Tryz.prog:=mkL (KW n).ok [Di n n] 6 (cA [1,1,1,1,0,1,2,2] (Q6 Tryz.f9)) ⟨115,[(2,.ptr 2 0),(3,.ptr 3 0),(7,.arr 1007),(8,.arr 1008),(9,tI)],[(2,.box [.l 1,.l 1,.l 5,.l 6]),(3,.box [tI,.l 5,.l 2,.l 4,.l 7,.l 4,.l 5,.l 3]),(1007,.arr 62 1),(1008,.arr 3 1)]⟩ [yI,yL,yL,yL,yL,yI,yL,yL,yL,yL,yL,yL,yL,yL,yL] (fun m R k h2 c d e f g h i j l o p q a b=>Wk n c d e f g h i j l o p q (fun h2 r a b=>k (.exit 0) ⟨115,[(2,.ptr 2 0),(3,.ptr 3 0),(7,.arr 1007),(8,.arr 1008),(9,dI h2),(27,dB r)],[(2,.box [dL 1 c,dL 1 d,dL 5 e,dL 6 f]),(3,.box [dI g,dL 5 h,dL 2 i,dL 4 j,dL 7 l,dL 4 o,dL 5 p,dL 3 q]),(1007,.arr 62 1 a),(1008,.arr 3 1 b)]⟩) m h2 a b) m
noncomputable def Bj (n:Nat):EnP Tryz.prog 9:=mkE (KW n).ok [Df n n] 9 Tryz.f9 [[1],[1],[0]] [eA [qL 1,qL 1,qL 5,qL 6],eA [qI,qL 5,qL 2,qL 4,qL 7,qL 4,qL 5,qL 3]] [eT 3,sL 1,sL 1,sI] (pK (Jl n))

noncomputable def Q0D (n:Nat):VB:=Xa [] [cK 0 [0,1,2],cK 1 [6]]
noncomputable def Q2Z (n:Nat):EnP Tryz.prog 39:=mkE (Q0D n).ok nT 39 Tryz.f39 [[0]] [sI,sI,sI] [sB] (pK (T1 n))

noncomputable def SB (n:Nat):VB:=Xa [⟨39,Q2Z n⟩] [cO 0 [1] [1],cO 1 [1,20] [1],cK 2 [2],cO 3 [1,3] [1],cO 4 [1,3,25] [1],cO 5 [1,3] [1],cO 6 [1,3,4] [1,4],cO 7 [1,3,90] [1],cK 8 [2],cK 9 [2]]
noncomputable def Do (n:Nat) (m:Nat):LpE Tryz.prog:=mkL (SB n).ok nT 4 (cA [1,1,0,1,2,2] (Q6 Tryz.f10)) ⟨91,[(1,.ptr 1 0),(3,tI)],[(1,.box [tI,.l 3,.l 6])]⟩ [yI,yI,yL,yL] (fun m R k h2 a b c=>Uc n a b c (k .ret ⟨91,[(2,dB false)],[]⟩) (fun h2 d=>k (.exit 0) ⟨91,[(1,.ptr 1 0),(3,dI h2),(25,dB d)],[(1,.box [dI a,dL 3 b,dL 6 c])]⟩) m h2) m
noncomputable def CH (n:Nat):EnP Tryz.prog 10:=mkE (SB n).ok [Do n n] 10 Tryz.f10 [[0]] [eA [qI,qL 3,qL 6]] [sB] (pK (GL n))

noncomputable def law11_NetworkBuildIsValid_VB (n:Nat):VB:=Xa [⟨6,Q0A n⟩,⟨7,Fv n⟩,⟨8,Cs n⟩,⟨9,Bj n⟩,⟨10,CH n⟩] [cK 0 [0],cO 1 [3,4] [3,4],cO 2 [3,4,5,6] [3,4,5],cO 3 (rg1 3 4 [26]) [3,4,5],cK 4 [2],cO 5 [5,8] [5],cO 6 [5,8,60] [5],cK 7 [2],cO 8 [5,8,62,63] [5],cO 9 [5,8,62,63,64] [5],cO 10 [5,8,10,62,63] [5],cO 11 [5,8,10,11,62,63] [5],cO 12 [5,8,10,11,62,63,68,69] [5],cO 13 [5,8,10,11,62,63,68,69,70] [5],cO 14 [5,8,10,11,12,62,63,68,69] [5],cO 15 [5,8,10,11,13,62,63,68,69] [5,13],cO 16 [5,8,10,11,62,63,68,69] [5],cO 17 [5,8,10,11,62,63,68,69] [5],cO 18 [5,8,62,63,130] [5],cK 19 [2],cO 20 [5,8,62,63] [5],cK 21 [2]]
noncomputable def Gm (n:Nat) (m:Nat):LpE Tryz.prog:=mkL (law11_NetworkBuildIsValid_VB n).ok nT 13 (cA [1,1,1,1,1,1,0,1,2,2,1,1,0,2,1,1,0,1,2,2] (Q6 Tryz.f3)) ⟨133,[(5,.ptr 5 0),(8,.l 1),(10,tI),(11,.b),(62,tI),(63,tI),(68,tI),(69,tI)],[(5,.box [tI,.l 3,.l 6])]⟩ [yL,yI,yB,yI,yI,yI,yI,yI,yL,yL] (fun m R k c d a g h e b i j f=>Xd n c d e f (fun a b l=>k (.exit 2) ⟨133,[(5,.ptr 5 0),(8,dL 1 c),(10,dI d),(11,dB a),(62,dI g),(63,dI h),(68,dI e),(69,dI b),(70,dB l)],[(5,.box [dI i,dL 3 j,dL 6 f])]⟩) m a b) m
noncomputable def law11_NetworkBuildIsValid_l2 (n:Nat) (m:Nat):LpE Tryz.prog:=mkL (law11_NetworkBuildIsValid_VB n).ok [Gm n n] 9 (cA [1,1,1,1,1,1,0,1,2,2] (Q6 Tryz.f3)) ⟨133,[(5,.ptr 5 0),(8,.l 1),(62,tI),(63,tI)],[(5,.box [tI,.l 3,.l 6])]⟩ [yL,yI,yI,yI,yL,yL] (fun m R k b c a f d e=>Qs n b c d e (k .ret ⟨133,[(2,dB false)],[]⟩) (fun a g=>k (.exit 0) ⟨133,[(5,.ptr 5 0),(8,dL 1 b),(62,dI c),(63,dI a),(64,dB g)],[(5,.box [dI f,dL 3 d,dL 6 e])]⟩) m a) m

end Go.Vx
