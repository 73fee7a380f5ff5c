/- Part of a proof. No conditions of their own. -/
import Derived.Test.YtekmjonablebcaaGreatTF
import Derived.Test.YtekmjonablebcaaGreatTD
import Derived.Test.YtekmjonablebcaaGreatTE
import Derived.Orders
import Derived.LoopTactic
import Derived.Lib.Builder
import Derived.Carry
import Derived.Deep.RegionHeld3
import Derived.Deep.RegionLaw
import Derived.StillTailTactics
import Derived.OrdersHeld
import Derived.Test.YtekmjonablebcaaGreatProg
import Derived.WalkKit
import Derived.Test.YtekmjonablebcaaGreatTC
import Derived.Laws.CopyOwn
import Derived.Deep.OwnRows
import Derived.Test.YtekmjonablebcaaGreatTB
import Derived.Laws.Rows
import Derived.Deep.AppendLies
import Derived.RegionTactic
import Derived.BigRegion
set_option linter.unusedVariables false
set_option linter.unusedSimpArgs false
set_option linter.unusedSectionVars false
noncomputable section
abbrev Qrr:=@Go.Lib.cell_of_heap
abbrev Qrs:=@List.mem_of_getElem?
abbrev Qrt:=@List.getElem?_eq_some_iff
abbrev Qru:=@Nat.le_of_ble_eq_true
abbrev Qrv:=@Nat.lt_of_lt_of_le
abbrev Qrw:=@Array.getElem?_eq_some_iff
abbrev Qrx:=@List.getElem?_eq_getElem
abbrev Qry:=@Bool.and_eq_true
abbrev Qrz:=@Option.map_eq_some_iff
abbrev QrA:=@List.mem_replicate
abbrev QrB:=@List.getElem?_cons_zero
abbrev QrC:=@Array.getElem?_eq_getElem
abbrev QrD:=@if_neg
abbrev QrE:=@Array.getElem?_toList
abbrev QrF:=@Go.Lib.alloc_old
abbrev QrG:=@Go.World.grownBy_alloc
abbrev QrH:=@List.take_of_length_le
abbrev QrI:=@List.getElem?_take
abbrev QrJ:=@Nat.le_trans
abbrev QrK:=@Nat.zero_add
abbrev QrL:=@Nat.le_refl
abbrev QrM:=@Option.bind_eq_some_iff
abbrev QrN:=@Go.World.block_lt_of_cell?
abbrev QrO:=@List.mem_cons
namespace Go.Vx
open Go.Proofs Go.RowKit
theorem Q8l{n:Nat}{s:Y UInt8}(h:KF n s some=some true)(w:World):Calls Tryz.prog 162 #[.string ⟨⟨s⟩⟩] w λe w'=>e = .returned (.bool true)/\RowKit.Below w.heap.size w w':=by
 have he:(P8 n).E Dl 0 true [.d (.str s)] (λ_=>none) some=some ⟨.d (.bool true),[],[]⟩:=by
  show gb true (KF n s some) false (λr=>(some ⟨.d (D.bool r),[],[]⟩:oP Dl))=_;rw[h];rfl
 refine Sl (Ym ((P8 n).ok) he) (S:=λ_=>False) (λ_ h=>h.elim) (args:=[.string ⟨⟨s⟩⟩]) ⟨rfl,λi v av a h2=>?_⟩
 match i,a,h2 with
 |0,a,h2=>
  simp only[QrB,Option.some.injEq]at a h2;subst a h2;exact .d _ _ (.str ⟨⟨s⟩⟩)
set_option maxHeartbeats 4000000 in
set_option maxRecDepth 100000 in
theorem Tryz.checkName_calls{N:Nat}(w:World)(b n:Nat)(aa:Y (Y UInt8))(s:Y UInt8)(h:Q3f w Tryz.prog b n aa)(hn:n<1000)(hs:QcU N aa s=true) :
  Calls Tryz.prog 188 #[.string ⟨⟨s⟩⟩,.map (some b)] w λe w'=>e = .returned (.int .i64 0)/\Q3f w' Tryz.prog b (n+1) (s::aa)/\w.grownBy w' (some b):=by
 simp only[QcU,Qry,Bool.not_eq_true']at hs;obtain⟨⟨hl,hN⟩,hc⟩:=hs;have hl:=Qru hl;have aj:s.length<=maxLen:=by unfold maxLen;omega
 have am:n<maxLen:=by unfold maxLen;omega
 have hz:∀w:World,(zeroValue 4).run Tryz.prog w = .ok (.bool false) w:=λw=>by kernel_rfl
 go_enter Tryz.func188,Tryz.ntmps188
 go_wp2_with (go_at_call 162;refine(Q8l (Mc hN) _).mono ?_)
 rintro e d ⟨rfl,hB⟩;have c:=h.kept (Wl hB) Q2;have ai:=c.lookup Tryz.underlying9 Tryz.underlying4 Tryz.underlying271 (hz d) aj;rw[hc]at ai;obtain⟨w2,an,h2,a⟩:=c.update Tryz.underlying9 Tryz.underlying4 Tryz.underlying271 am aj
 go_wp2
 refine bodyPost_ret (results_tmp rfl _ _ _) rfl ?_;exact⟨rfl,h2,⟨a.os.trans hB.os,a.tape.trans hB.tape,a.output.trans hB.output,QrJ hB.size a.size,λk hk ak=>(a.block k (Qrv hk hB.size) ak).trans (hB.block k hk)⟩⟩
theorem Q9s{β:Nat->oP Nat}{S:Nat->Prop}{h:Nat->oP Ob}{w:World}{b:Value}{a0:AV}(c:RdA β S h w tm0 b a0):ArgsRd β S h w [b] [a0]:=by
 refine⟨rfl,λi v av a h2=>?_⟩
 match i,a,h2 with
 |0,a,h2=>simp only[QrB,Option.some.injEq]at a h2;subst a h2;exact c
theorem HE{β:Nat->oP Nat}{S:Nat->Prop}{h:Nat->oP Ob}{w:World}{b c:Value}{a0 a1:AV}(d:RdA β S h w tm0 b a0)(aa:RdA β S h w tm0 c a1):ArgsRd β S h w [b,c] [a0,a1]:=by
 refine⟨rfl,λi v av a h2=>?_⟩
 match i,a,h2 with
 |0,a,h2=>simp only[QrB,Option.some.injEq]at a h2;subst a h2;exact d
 |1,a,h2=>simp only[List.getElem?_cons_succ,QrB,Option.some.injEq]at a h2;subst a h2;exact aa
theorem QdM{β:Nat->oP Nat}{S:Nat->Prop}{h:Nat->oP Ob}{w:World}{b c d:Value}{a0 a1 a2:AV}(e:RdA β S h w tm0 b a0)(ac:RdA β S h w tm0 c a1)(aa:RdA β S h w tm0 d a2):ArgsRd β S h w [b,c,d] [a0,a1,a2]:=by
 refine⟨rfl,λi v av a h2=>?_⟩
 match i,a,h2 with
 |0,a,h2=>simp only[QrB,Option.some.injEq]at a h2;subst a h2;exact e
 |1,a,h2=>simp only[List.getElem?_cons_succ,QrB,Option.some.injEq]at a h2;subst a h2;exact ac
 |2,a,h2=>simp only[List.getElem?_cons_succ,QrB,Option.some.injEq]at a h2;subst a h2;exact aa
inductive RdLs(S:Nat->Prop)(w:World):List Value->List D->Prop
 |nil:RdLs S w [] []
 |cons {v:Value} {x:D} {vs:List Value} {xs:List D} (h:Rd S w v x) (t:RdLs S w vs xs):RdLs S w (v::vs) (x::xs)
theorem RdLs.agg{S:Nat->Prop}{w:World}:∀{vs:Y Value} {xs:Y D},RdLs S w vs xs->RdA (λ_=>none) S (λ_=>none) w tm0 (.agg vs.toArray) (.ag (xs.map .d))
 |vs,xs,h=>by
  have hl:∀{vs:Y Value} {xs:Y D},RdLs S w vs xs->vs.length=xs.length:=by
   intro vs xs h;induction h with
   |nil=>rfl
   |cons _ _ ih=>simp[ih]
  have hr:∀{vs:Y Value} {xs:Y D},RdLs S w vs xs->∀(i:Nat) (x:D),xs[i]? = some x->Rd S w (vs.toArray.getD i undef) x:=by
   intro vs xs h;induction h with
   |nil=>intro i x hx;simp at hx
   |cons a t ih=>
    intro i x hx;cases i with
    |zero=>simp only[QrB,Option.some.injEq]at hx;subst hx;simpa using a
    |succ i=>
     have:=ih i x (by simpa using hx);simpa using this
  refine .ag _ _ (by simp[hl h]) λi x hx=>?_
  rw[List.getElem?_map,Qrz]at hx;obtain⟨d,hd,rfl⟩:=hx;exact .d _ _ (hr h i d hd)
theorem Rd.keep{S:Nat->Prop}{w w':World}{v:Value}{x:D}{m:Nat}(h:Rd S w v x)(hS:∀b,S b->b<m)(hw:∀b,b<m->w'.heap[b]? = w.heap[b]?):Rd S w' v x:=h.mono (λ_ h=>h) λb hb=>hw b (hS b hb)
theorem He{S:Nat->Prop}{w:World}{v:Value}{k:Nat}{rows:LL}(h:Rd S w v (.sl k rows)):∃ad cap,v = .slice ad rows.length cap:=by
 cases h with
 |sl0 a cap=>exact⟨a,cap,rfl⟩
 |sl ad cap=>exact⟨some ad,cap,rfl⟩
theorem QaD{S:Nat->Prop}{w:World}{ad:oP Addr}{n cap k:Nat}{rows:LL}(h:Rd S w (.slice ad n cap) (.sl k rows)){i:Nat}{row:Y D}(hi:rows[i]? = some row) :
  ∃a,ad=some a/\S a.block/\row.length=k/\∀(j:Nat) (x:D),row[j]? = some x->∃v,w.cell? (a.add (i*k+j))=some v/\Rd S w v x:=by
 cases h with
 |sl0 a cap=>simp at hi
 |sl a cap _ _ c hS ac aa hc hr=>exact⟨a,rfl,hS,aa i row hi,λj x hx=>⟨_,hc i j row x hi hx,hr i j row x hi hx⟩⟩
theorem AD{n:Nat}{w a w2:World}{b:Nat}(h:Below n w a)(hn:n<=w.heap.size)(hb:n<=b)(hg:a.grownBy w2 (some b)):Below n w w2:=
 ⟨hg.os.trans h.os,hg.tape.trans h.tape,hg.output.trans h.output,QrJ h.size hg.size,λk hk=>(hg.block k (by have:=h.size;omega) Q3).trans (h.block k hk)⟩
theorem Ue{n:Nat}{w a:World}(h:Below n w a)(hn:n<=w.heap.size)(o:Obj):Below n w (a.alloc o):=
 ⟨h.os,h.tape,h.output,by have:=h.size;simp;omega,λk hk=>(QrF a o k (by have:=h.size;omega)).trans (h.block k hk)⟩
theorem Vg{n:Nat}{w a w2:World}(h:Below n w a)(hn:n<=w.heap.size)(h2:Below a.heap.size a w2):Below n w w2:=
 ⟨h2.os.trans h.os,h2.tape.trans h.tape,h2.output.trans h.output,QrJ h.size h2.size,λk hk=>(h2.block k (by have:=h.size;omega)).trans (h.block k hk)⟩
theorem T5(ad:Addr)(i j:Nat)(hj:j≠0):ad.add (i+j)=⟨(ad.add i).block,(ad.add i).off+j,none⟩:=by
 have a:(ad.add i).add j=ad.add (i+j):=by
  unfold Addr.add;by_cases hi:i=0<;>simp[hi,hj,Nat.add_assoc]
 rw[<- a];generalize ad.add i=x;unfold Addr.add;rw[QrD hj]
theorem Q1P{N:Nat}{aa:Y (Y UInt8)}{l:LL}{j:Nat}(hj:j<l.length)(h:P9 N aa (l.drop j)=true) :
  ∃s,l[j]? = some [D.str s]/\QcU N aa s=true/\P9 N (s::aa) (l.drop (j+1))=true:=by
 rw[List.drop_eq_getElem_cons hj]at h;unfold P9 at h;split at h
 ·rename_i s e;simp only[Qry]at h;exact⟨s,by rw[Qrx hj,e],h.1,h.2⟩
 ·cases h
theorem Q4l{N:Nat}{l0 l1 l2 f:LL}{aa:Y (Y UInt8)}{l:LL}{j:Nat}(hj:j<l.length)(h:Py N l0 l1 l2 f aa (l.drop j)=true) :
  ∃s a b c d,l[j]? = some [D.str s,.int .i64 a,.int .i64 b,.int .i64 c,.int .i64 d]/\QcU N aa s=true/\XA N l0 l1 l2 f s a b c d some=some true/\Py N l0 l1 l2 f (s::aa) (l.drop (j+1))=true:=by
 rw[List.drop_eq_getElem_cons hj]at h;unfold Py at h;split at h
 ·rename_i s a b c d e;simp only[Qry]at h;exact⟨s,a,b,c,d,by rw[Qrx hj,e],h.1.1,Mc h.1.2,h.2⟩
 ·cases h
theorem QcS{S:Nat->Prop}{w:World}{v:Value}{s:Y UInt8}(h:Rd S w v (.str s)):v = .string ⟨⟨s⟩⟩:=by cases h;rfl
theorem RW{S:Nat->Prop}{w:World}{v:Value}{k:IntKind}{n:Int}(h:Rd S w v (.int k n)):v = .int k n:=by cases h;rfl
theorem Q7Q{N:Nat}{l0 l1 l2 f:LL}{s:Y UInt8}{a b c d:Int}(h:XA N l0 l1 l2 f s a b c d some=some true){S:Nat->Prop}{w:World}(hS:∀b,S b->b<w.heap.size){g i j k:Value}(l:Rd S w g (.sl 1 l0))(m:Rd S w i (.sl 1 l1))(h2:Rd S w j (.sl 5 l2))(n:Rd S w k (.sl 6 f)) :
  Calls Tryz.prog 189 #[.agg #[g,i,j,k],.agg #[.string ⟨⟨s⟩⟩,.int .i64 a,.int .i64 b,.int .i64 c,.int .i64 d]] w λe w'=>e = .returned (.bool true)/\RowKit.Below w.heap.size w w':=by
 have he:(Gv N).E Dl 0 true [.ag ([D.sl 1 l0,.sl 1 l1,.sl 5 l2,.sl 6 f].map .d),.ag ([D.str s,.int .i64 a,.int .i64 b,.int .i64 c,.int .i64 d].map .d)] (λ_=>none) some=some ⟨.d (.bool true),[],[]⟩:=by
  show gb true (XA N l0 l1 l2 f s a b c d some) false (λr=>(some ⟨.d (D.bool r),[],[]⟩:oP Dl))=_;rw[h];rfl
 exact Sl (Ym ((Gv N).ok) he) hS (HE (RdLs.agg (.cons l (.cons m (.cons h2 (.cons n .nil))))) (RdLs.agg (.cons (.str ⟨⟨s⟩⟩) (.cons (.int _ _) (.cons (.int _ _) (.cons (.int _ _) (.cons (.int _ _) .nil)))))))
set_option maxHeartbeats 8000000 in
set_option maxRecDepth 100000 in
theorem Tryz.layout_calls{N:Nat}(S:Nat->Prop)(w:World)(hS:∀b,S b->b<w.heap.size)(l0 l1 l2 d:LL)(v x y z:Value)(h0:Rd S w v (.sl 1 l0))(h1:Rd S w x (.sl 1 l1))(h2:Rd S w y (.sl 5 l2))(h3:Rd S w z (.sl 6 d))(bh:PA N l0 l1 l2 d=true)(hL:∀w':World,(∀b,S b->b<w'.heap.size)->Rd S w' v (.sl 1 l0)->Rd S w' x (.sl 1 l1)->Rd S w' y (.sl 5 l2)->Rd S w' z (.sl 6 d)->Calls Tryz.prog 190 #[.agg #[v,x,y,z]] w' λe b2=>e = .returned (.int .i64 0)/\Below w'.heap.size w' b2) :
  Calls Tryz.prog 161 #[.agg #[v,x,y,z]] w λe w'=>e = .returned (.int .i64 0)/\Below w.heap.size w w':=by
 simp only[PA,Qry,Bool.not_eq_true']at bh;obtain⟨⟨⟨⟨⟨⟨⟨⟨m0,m1⟩,m2⟩,m3⟩,m4⟩,n0⟩,n1⟩,ns⟩,nl⟩:=bh;have m0:=Qru m0;have m1:=Qru m1;have m2:=Qru m2;have m3:=Qru m3;have m4:l2.length≠0:=λe=>by rw[e]at m4;cases m4
 obtain⟨f,g,rfl⟩:=He h0;obtain⟨h,m,rfl⟩:=He h1;obtain⟨p,o,rfl⟩:=He h2;obtain⟨q,r,rfl⟩:=He h3;have q0:¬ (24:Int)<(l0.length:Int):=I
 have q1:¬ (48:Int)<(l1.length:Int):=I
 have q2:¬ (96:Int)<(l2.length:Int):=I
 have q3:¬ (192:Int)<(d.length:Int):=I
 have q4:¬ ((l2.length:Int)=0):=I
 have a3:(w.alloc (.cells #[.slice f l0.length g,.slice h l1.length m,.slice p l2.length o,.slice q d.length r] 27)).heap[w.heap.size]? = some (.cells #[.slice f l0.length g,.slice h l1.length m,.slice p l2.length o,.slice q d.length r] 27 (0,0)):=heap_alloc_new w _;have ak:Below w.heap.size w (w.alloc (.cells #[.slice f l0.length g,.slice h l1.length m,.slice p l2.length o,.slice q d.length r] 27)):=Ue (Below.refl _ _) (QrL _) _;have bm:(w.alloc (.cells #[.slice f l0.length g,.slice h l1.length m,.slice p l2.length o,.slice q d.length r] 27)).heap.size=w.heap.size+1:=by simp
 have cp:∀w:World,(Instr.makeMap 271 none).run Tryz.prog w = .ok (.map (some w.heap.size)) (w.alloc (.map #[] 0)):=λw=>run_makeMap 271 w
 go_enter Tryz.func161,Tryz.ntmps161
 go_wp2
 generalize w.alloc (.cells #[.slice f l0.length g,.slice h l1.length m,.slice p l2.length o,.slice q d.length r] 27)=w1 at *
 go_loopw [40] (λi wr=>∃k:Nat,k<=2/\i = .int .i64 k/\Below (w.heap.size+1) w1 wr)
  (λi _=>2-(intOf i).toNat)
 case atStart=>exact⟨0,I,rfl,Below.refl _ _⟩
 case round=>
  obtain⟨k,hk,rfl,hF⟩:=hrel;by_cases bz:k<2
  ·have ce:((k:Int)<2):=I
   obtain⟨ad,l,cap,cc,hv,hl,hm⟩:∃(ad:oP Addr) (l:LL) (cap:Nat),(∀w:World,(Instr.index 270 (.agg #[.slice f l0.length g,.slice h l1.length m]) (.int .i64 k)).run Tryz.prog w = .ok (.slice ad l.length cap) w)/\Rd S w (.slice ad l.length cap) (.sl 1 l)/\P9 N [] l=true/\l.length<=48:=by
    obtain rfl | rfl:k=0\/k=1:=I
    ·exact⟨f,l0,g,λ_=>rfl,h0,n0,I⟩
    ·exact⟨h,l1,m,λ_=>rfl,h1,n1,I⟩
   have ah:w.heap.size+1<=wr.heap.size:=by have:=hF.size;omega
   have hM:=Q3f.made Tryz.prog wr;have a5:=Ue hF I (.map #[] 0)
   go_wp2
   generalize wr.alloc (.map #[] 0)=w2 at *
   generalize wr.heap.size=b at *
   clear hF
   go_loopw [46] (λi wr=>∃(j:Nat) (ac:Y (Y UInt8)),j<=l.length/\i = .int .i64 j/\Q3f wr Tryz.prog b j ac/\P9 N ac (l.drop j)=true/\Below (w.heap.size+1) w1 wr)
    (λi _=>l.length-(intOf i).toNat)
   case atStart=>exact⟨0,[],I,rfl,hM,hl,a5⟩
   case round=>
    obtain⟨j,ac,hj,rfl,az,ba,aj⟩:=hrel;by_cases ax:j<l.length
    ·have bk:((j:Int)<(l.length:Int)):=I
     obtain⟨s,a2,hN,an⟩:=Q1P ax ba;have a6:=Rd.keep (w':=wr) hv hS λc hc=>(aj.block c I).trans (ak.block c hc)
     obtain⟨a,rfl,_,_,aa⟩:=QaD a6 a2;obtain⟨u,hc,hu⟩:=aa 0 _ rfl;rw[QcS hu,Nat.mul_one,Nat.add_zero]at hc
     go_wp2_with (go_at_call 188;refine(Tryz.checkName_calls wr b j ac s az I hN).mono ?_)
     rintro e w3 ⟨rfl,a9,t⟩;have ao:=AD aj I ah t
     go_wp2
     go_roundw
     all_goals first
      |exact⟨j+1,s::ac,ax,by go_num,a9,an,ao⟩
      |(simp[intOf];omega)
    ·go_wp2
     go_roundw
     all_goals first
      |exact⟨k+1,bz,by go_num,aj⟩
      |(simp[intOf];omega)
  ·skip
   have ah:w.heap.size+1<=wr.heap.size:=by have:=hF.size;omega
   have hM:=Q3f.made Tryz.prog wr;have a5:=Ue hF I (.map #[] 0);have ai:=(a5.block _ (Nat.lt_succ_self _)).trans a3;have c2:(wr.alloc (.map #[] 0)).cell? ⟨w.heap.size,2,none⟩=some (.slice p l2.length o):=by rw[Qrr ai];rfl
   go_wp2
   clear ai c2;generalize wr.alloc (.map #[] 0)=w2 at *
   generalize wr.heap.size=b at *
   go_loopw [62] (λi wr=>∃(j:Nat) (ac:Y (Y UInt8)),j<=l2.length/\i = .int .i64 j/\Q3f wr Tryz.prog b j ac/\Py N l0 l1 l2 d ac (l2.drop j)=true/\Below (w.heap.size+1) w1 wr)
    (λi _=>l2.length-(intOf i).toNat)
   case atStart=>exact⟨0,[],I,rfl,hM,ns,a5⟩
   case round=>
    obtain⟨j,ac,hj,rfl,az,ba,aj⟩:=hrel;by_cases ax:j<l2.length
    ·have bk:((j:Int)<(l2.length:Int)):=I
     obtain⟨s,sa,sb,sc,sd,a2,hN,bl,an⟩:=Q4l ax ba;have bv:∀c,c<w.heap.size->wr.heap[c]? = w.heap[c]?:=λc hc=>(aj.block c I).trans (ak.block c hc)
     have a6:=Rd.keep (w':=wr) h2 hS bv;obtain⟨a,rfl,_,_,aa⟩:=QaD a6 a2;obtain⟨u0,x0,y0⟩:=aa 0 _ rfl;obtain⟨u1,x1,y1⟩:=aa 1 _ rfl;obtain⟨cn,x2,y2⟩:=aa 2 _ rfl;obtain⟨c3,x3,y3⟩:=aa 3 _ rfl;obtain⟨cx,x4,y4⟩:=aa 4 _ rfl;rw[QcS y0,Nat.add_zero]at x0;rw[RW y1,T5 _ _ _ Q1]at x1;rw[RW y2,T5 _ _ _ Q1]at x2;rw[RW y3,T5 _ _ _ Q1]at x3;rw[RW y4,T5 _ _ _ Q1]at x4;clear aa y0 y1 y2 y3 y4 a6;have ar:wr.grownBy (wr.alloc (.cells #[.string ⟨⟨s⟩⟩,.int .i64 sa,.int .i64 sb,.int .i64 sc,.int .i64 sd] 62)) none:=QrG wr _ none;have bg:=Ue aj I (.cells #[.string ⟨⟨s⟩⟩,.int .i64 sa,.int .i64 sb,.int .i64 sc,.int .i64 sd] 62);have bj:=az.kept ar Q2;have au:(wr.alloc (.cells #[.string ⟨⟨s⟩⟩,.int .i64 sa,.int .i64 sb,.int .i64 sc,.int .i64 sd] 62)).heap[wr.heap.size]? = some (.cells #[.string ⟨⟨s⟩⟩,.int .i64 sa,.int .i64 sb,.int .i64 sc,.int .i64 sd] 62 (0,0)):=heap_alloc_new wr _;have cw:b<wr.heap.size:=az.lt;have bp:w.heap.size+1<=wr.heap.size:=by have:=aj.size;omega
     go_wp2_with (go_at_call 188;refine(Tryz.checkName_calls (wr.alloc (.cells #[.string ⟨⟨s⟩⟩,.int .i64 sa,.int .i64 sb,.int .i64 sc,.int .i64 sd] 62)) b j ac s bj I hN).mono ?_)
     rintro e w3 ⟨rfl,a9,t⟩;have ao:=AD bg I ah t;have ai:=(ao.block _ (Nat.lt_succ_self _)).trans a3;have ay:=(t.block wr.heap.size Q2 Q3).trans au;clear bg bj au ar t az aj;have z0:w3.cell? ⟨w.heap.size,0,none⟩=some (.slice f l0.length g):=by rw[Qrr ai];rfl
     have z1:w3.cell? ⟨w.heap.size,1,none⟩=some (.slice h l1.length m):=by rw[Qrr ai];rfl
     have z2:w3.cell? ⟨w.heap.size,2,none⟩=some (.slice (some a) l2.length o):=by rw[Qrr ai];rfl
     have z3:w3.cell? ⟨w.heap.size,3,none⟩=some (.slice q d.length r):=by rw[Qrr ai];rfl
     have y0:w3.cell? ⟨wr.heap.size,0,none⟩=some (.string ⟨⟨s⟩⟩):=by rw[Qrr ay];rfl
     have y1:w3.cell? ⟨wr.heap.size,1,none⟩=some (.int .i64 sa):=by rw[Qrr ay];rfl
     have y2:w3.cell? ⟨wr.heap.size,2,none⟩=some (.int .i64 sb):=by rw[Qrr ay];rfl
     have y3:w3.cell? ⟨wr.heap.size,3,none⟩=some (.int .i64 sc):=by rw[Qrr ay];rfl
     have y4:w3.cell? ⟨wr.heap.size,4,none⟩=some (.int .i64 sd):=by rw[Qrr ay];rfl
     have n:∀c,c<w.heap.size->w3.heap[c]? = w.heap[c]?:=λc hc=>(ao.block c I).trans (ak.block c hc)
     have a7:∀c,S c->c<w3.heap.size:=λc hc=>by have:=hS c hc;have:=ao.size;omega
     have g0:=Rd.keep h0 hS n;have g1:=Rd.keep h1 hS n;have g2:=Rd.keep h2 hS n;have g3:=Rd.keep h3 hS n
     go_wp2_with (go_at_call 189;refine(Q7Q bl a7 g0 g1 g2 g3).mono ?_)
     rintro e w4 ⟨rfl,a4⟩;have bn:=a9.kept (Wl a4) Q2;have am:=Vg ao I a4
     go_wp2
     go_roundw
     all_goals first
      |exact⟨j+1,s::ac,ax,by go_num,bn,an,am⟩
      |(simp[intOf];omega)
    ·have ai:=(aj.block _ (Nat.lt_succ_self _)).trans a3;have z0:wr.cell? ⟨w.heap.size,0,none⟩=some (.slice f l0.length g):=by rw[Qrr ai];rfl
     have z1:wr.cell? ⟨w.heap.size,1,none⟩=some (.slice h l1.length m):=by rw[Qrr ai];rfl
     have z2:wr.cell? ⟨w.heap.size,2,none⟩=some (.slice p l2.length o):=by rw[Qrr ai];rfl
     have z3:wr.cell? ⟨w.heap.size,3,none⟩=some (.slice q d.length r):=by rw[Qrr ai];rfl
     have n:∀c,c<w.heap.size->wr.heap[c]? = w.heap[c]?:=λc hc=>(aj.block c I).trans (ak.block c hc)
     have a7:∀c,S c->c<wr.heap.size:=λc hc=>by have:=hS c hc;have:=aj.size;omega
     have a8:=hL wr a7 (Rd.keep h0 hS n) (Rd.keep h1 hS n) (Rd.keep h2 hS n) (Rd.keep h3 hS n)
     go_wp2_with (go_at_call 190;refine a8.mono ?_)
     rintro e w4 ⟨rfl,a4⟩;have am:=Vg aj I a4
     go_wp2
     refine bodyPost_ret (results_tmp rfl _ _ _) rfl ?_;exact⟨rfl,am.os.trans ak.os,am.tape.trans ak.tape,am.output.trans ak.output,by have:=am.size;omega,λc hc=>(am.block c I).trans (ak.block c hc)⟩
section
theorem Q8j{w w':World}{a:Addr}{u:Value}(hB:Below w.heap.size w w')(h:w.cell? a=some u):w'.cell? a=some u:=by
 rw[World.cell?_of_block (hB.block a.block (QrN w a h))];exact h
theorem ME(w:World):Below w.heap.size w w.drew:=⟨rfl,rfl,rfl,QrL _,λ_ _=>rfl⟩
theorem My{w a w2:World}(h:Below w.heap.size w a)(h2:Below a.heap.size a w2):Below w.heap.size w w2:=Vg h (QrL _) h2
theorem Q7b{β:Nat->oP Nat}{S:Nat->Prop}{h:Nat->oP Ob}{w:World}{tm:Nat->Value}{v:Value}{k:IntKind}{n:Int}(h:RdA β S h w tm v (.d (.int k n))):v = .int k n:=by
 cases h with
 |d _ _ q=>exact RW q
 |dang _ _ _ hl=>cases hl
theorem Q8G{β:Nat->oP Nat}{S:Nat->Prop}{h:Nat->oP Ob}{w:World}{tm:Nat->Value}{v:Value}{k k':IntKind}{n m:Int}(h:RdA β S h w tm v (.ag [.d (.int k n),.d (.int k' m)])):v = .agg #[.int k n,.int k' m]:=by
 cases h with
 |ag cs l hl hr=>
  have c:=Q7b (hr 0 _ rfl);have q1:=Q7b (hr 1 _ rfl);obtain⟨l⟩:=cs
  match l,hl with
  |[a,b],_=>
   simp at c q1;rw[c,q1]
 |dang _ _ _ hl=>cases hl
theorem Tryz.index_calls(w:World)(a b:Int)(a0:0<=a)(a1:a<1000)(b0:0<=b)(b1:b<=1) :
  Calls Tryz.prog 218 #[.agg #[.int .i64 a,.int .i64 b]] w λe w'=>e = .returned (.int .i64 (2*a+b))/\Below w.heap.size w w':=by
 have e1:IntKind.i64.wrap (2*a)=2*a:=by rw[IntKind.wrap_i64];omega
 have e2:IntKind.i64.wrap (2*a+b)=2*a+b:=by rw[IntKind.wrap_i64];omega
 have hp:HC 0 a b some=some (2*a+b):=by
  show some (IntKind.i64.wrap (IntKind.i64.wrap (2*a)+b))=_;rw[e1,e2]
 have he:(P7 0).E Dl 0 true [.ag ([D.int .i64 a,D.int .i64 b].map .d)] (λ_=>none) some=some ⟨.d (D.int .i64 (2*a+b)),[],[]⟩:=by
  show gb true (HC 0 a b some) 0 (λr=>(some ⟨.d (D.int .i64 r),[],[]⟩:oP Dl))=_;rw[hp];rfl
 exact GJ (S:=λ_=>False) (Ym ((P7 0).ok) he) (λ_ h=>h.elim) (Q9s (RdLs.agg (.cons (.int _ _) (.cons (.int _ _) .nil))))
set_option maxHeartbeats 4000000 in
theorem Tryz.ends_calls(w:World)(a ae b be p q:Int) :
  Calls Tryz.prog 217 #[.agg #[.int .i64 a,.int .i64 ae,.int .i64 b,.int .i64 be,.int .i64 p,.int .i64 q]] w λe w'=>e = .returned (.tuple #[.agg #[.int .i64 a,.int .i64 ae],.agg #[.int .i64 b,.int .i64 be]])/\Below w.heap.size w w':=by
 have he:(Tb 0).E Dl 0 true [.ag ([D.int .i64 a,D.int .i64 ae,D.int .i64 b,D.int .i64 be,D.int .i64 p,D.int .i64 q].map .d)] (λ_=>none) some=some ⟨.tup [.ag ([D.int .i64 a,D.int .i64 ae].map .d),.ag ([D.int .i64 b,D.int .i64 be].map .d)],[],[]⟩:=rfl;refine(Bk (S:=λ_=>False) (Ym ((Tb 0).ok) he) (λ_ h=>h.elim) (Q9s (RdLs.agg (.cons (.int _ _) (.cons (.int _ _) (.cons (.int _ _) (.cons (.int _ _) (.cons (.int _ _) (.cons (.int _ _) .nil))))))))).mono λe w' ⟨v,S',d,h2,f⟩=>⟨?_,f⟩
 rw[d];cases h2 with
 |tup cs l hl hr=>
  have c:=Q8G (hr 0 _ rfl);have q1:=Q8G (hr 1 _ rfl);obtain⟨l⟩:=cs
  match l,hl with
  |[a,b],_=>
   simp at c q1;rw[c,q1]
 |dang v av l hl=>cases hl
theorem six{w:World}{p t:Nat}{a b c d e f:Value}(h:w.heap[p]? = some (.cells #[a,b,c,d,e,f] t (0,0))):w.cell? ⟨p,0,none⟩=some a/\w.cell? ⟨p,1,none⟩=some b/\w.cell? ⟨p,2,none⟩=some c/\w.cell? ⟨p,3,none⟩=some d/\w.cell? ⟨p,4,none⟩=some e/\w.cell? ⟨p,5,none⟩=some f:=by
 refine⟨?_,?_,?_,?_,?_,?_⟩<;>rw[Qrr h]<;>rfl
theorem Gt{e1 e2 k:Nat}{w w':World}{B:Nat}{v:Value}{hd:Y Value}{ll:Y LL}(h:NestK e1 e2 k w B v hd ll)(hg:w.grownBy w' none):NestK e1 e2 k w' B v hd ll:=
 h.kept hg (Classical.em _) (λx _=>Classical.em _)
structure Grew(w w':World)(vb:Nat)(x x':Value):Prop where
 own:∀b,x'.ownBlock=some b->x.ownBlock=some b\/w.heap.size<=b
 os:w'.os=w.os
 tape:w'.tape=w.tape
 output:w'.output=w.output
 size:w.heap.size<=w'.heap.size
 block:∀b,b<w.heap.size->b≠vb->x.ownBlock≠some b->w'.heap[b]? = w.heap[b]?
theorem Q4D{w W1 W2:World}{B vb N i n g c:Nat}{x:Value}{hd:Y Value}{ll:Y LL}{l:LL}{row:Y D}(hN:NestK 25 172 6 w B (.slice (some ⟨vb,0,none⟩) N N) hd ll)(hx:hd[i]? = some x)(hl:ll[i]? = some l)(hn:n=l.length)(a:w.grownBy W1 none)(ac:W2.ownsRow B 172 6 (.slice (some ⟨g,0,none⟩) (n+1) c) (n+1) (cellsOf l++row.map dV))(aa:W1.grownBy W2 x.ownBlock)(hat:x.ownBlock=some g\/g=W1.heap.size) :
  NestK 25 172 6 (W2.setCell ⟨vb,i,none⟩ (.slice (some ⟨g,0,none⟩) (n+1) c)) B (.slice (some ⟨vb,0,none⟩) N N) (hd.set i (.slice (some ⟨g,0,none⟩) (n+1) c)) (ll.set i (l++[row])) /\
   Grew w (W2.setCell ⟨vb,i,none⟩ (.slice (some ⟨g,0,none⟩) (n+1) c)) vb x (.slice (some ⟨g,0,none⟩) (n+1) c):=by
 subst hn;have d:=Gt hN a;have s1:=a.size;have s2:=aa.size;refine⟨d.grow hx hl ac aa rfl hat rfl rfl,⟨λb hb=>?_,?_,?_,?_,?_,λb hb h2 f=>?_⟩⟩
 ·simp only[Value.ownBlock,Option.some.injEq]at hb;subst hb;rcases hat with h | h
  ·exact .inl h
  ·exact .inr I
 ·exact aa.os.trans a.os
 ·exact aa.tape.trans a.tape
 ·exact aa.output.trans a.output
 ·simp;omega
 ·rw[heap_setCell_other _ _ _ _ (λe=>h2 e)];rw[aa.block b I (λe=>f e.symm),a.block b hb Q2]
variable{u0 u1 u2 u3 u4 u5 u6 u7 u8 u9 u10 u11 u12 u13 u14 u15 u16 u17 u18 u19 u20 u21 u22 u23 u24 u25 u26 u27 u28 u29 u30 u31 u32 u33 u34 u35 u36 u37 u38 u39 u40 u41 u42 u43 u44 u45 u46 u47 u48 u49 u50 u51 u52 u53 u54 u55 u56 u57 u58 u59 u60 u61 u62 u63 u64 u65 u66 u67 u68 u69 u70 u71 u72 u73 u74 u75 u76 u77 u78 u79:Value}
def QdY:Code:=(Gw (Tryz.f190.body.getD .skip)).getD 8 .skip
set_option maxHeartbeats 8000000 in
set_option maxRecDepth 100000 in
theorem Tryz.links_r8(vb N p6 p7:Nat)(a ae b be:Int)(w:World)(c0:w.cell? ⟨p6,0,none⟩=some (.int .i64 a))(c1:w.cell? ⟨p6,1,none⟩=some (.int .i64 ae))(d0:w.cell? ⟨p7,0,none⟩=some (.int .i64 b))(d1:w.cell? ⟨p7,1,none⟩=some (.int .i64 be))(a0:0<=a)(a1:a<1000)(p:0<=ae)(e1:ae<=1)(b0:0<=b)(b1:b<1000)(q:0<=be)(r:be<=1)(s:2*a+ae<(N:Int))(h2:2*b+be<(N:Int)) :
  Code.wp Tryz.prog QdY (Q6U λact w'=>∃(c d f g h i j k:Value) ,act=⟨(u0::u1::u2::.slice (some ⟨vb,0,none⟩) N N::u4::u5::.pointer (some ⟨p6,0,none⟩)::.pointer (some ⟨p7,0,none⟩)::.pointer (some ⟨vb,(2*a+ae).toNat,none⟩)::.pointer (some ⟨vb,(2*b+be).toNat,none⟩)::u10::u11::u12::u13::u14::u15::u16::u17::u18::u19::u20::u21::u22::u23::u24::u25::u26::u27::u28::u29::u30::c::d::f::g::h::i::j::k::u39::u40::u41::u42::u43::u44::u45::u46::u47::u48::u49::u50::u51::u52::u53::u54::u55::u56::u57::u58::u59::u60::u61::u62::u63::u64::u65::u66::u67::u68::u69::u70::u71::u72::u73::u74::u75::u76::u77::u78::u79::[]).toArray,[]⟩/\Below w.heap.size w w') ⟨(u0::u1::u2::.slice (some ⟨vb,0,none⟩) N N::u4::u5::.pointer (some ⟨p6,0,none⟩)::.pointer (some ⟨p7,0,none⟩)::u8::u9::u10::u11::u12::u13::u14::u15::u16::u17::u18::u19::u20::u21::u22::u23::u24::u25::u26::u27::u28::u29::u30::u31::u32::u33::u34::u35::u36::u37::u38::u39::u40::u41::u42::u43::u44::u45::u46::u47::u48::u49::u50::u51::u52::u53::u54::u55::u56::u57::u58::u59::u60::u61::u62::u63::u64::u65::u66::u67::u68::u69::u70::u71::u72::u73::u74::u75::u76::u77::u78::u79::[]).toArray,[]⟩ w:=by
 conv=>arg 2;whnf
 have mixed:Tryz.prog.follows .mixedOrders=true:=by kernel_rfl
 have l:w.drew.cell? ⟨p6,0,none⟩=some (.int .i64 a):=c0;have m:w.drew.cell? ⟨p6,1,none⟩=some (.int .i64 ae):=c1;have n:w.drew.cell? ⟨p7,0,none⟩=some (.int .i64 b):=d0;have o:w.drew.cell? ⟨p7,1,none⟩=some (.int .i64 be):=d1;have g1:0<=2*a+ae:=I
 have t:0<=2*b+be:=I
 clear c0 c1 d0 d1
 go_region_held3 (λw'=>w'.cell? ⟨p6,0,none⟩=some (.int .i64 a)/\w'.cell? ⟨p6,1,none⟩=some (.int .i64 ae)/\w'.cell? ⟨p7,0,none⟩=some (.int .i64 b)/\w'.cell? ⟨p7,1,none⟩=some (.int .i64 be))
  (first
   |exact⟨l,m,n,o⟩
   |(refine⟨?_,?_,?_,?_⟩<;>(repeat (first | assumption | refine Q8j (by assumption) ?_))))
  (first
   |(go_at_call 218;refine(Tryz.index_calls _ _ _ (by assumption) (by assumption) (by assumption) (by assumption)).mono ?_;rintro e W1 ⟨rfl,u⟩))
 all_goals
  dsimp only[Q6U];refine⟨_,_,_,_,_,_,_,_,rfl,?_⟩
  repeat (first | exact ME _ | refine My ?_ (by assumption))
def Qcd:Code:=(Gw (Tryz.f190.body.getD .skip)).getD 11 .skip
set_option maxHeartbeats 8000000 in
set_option maxRecDepth 100000 in
theorem Tryz.links_r11(vb i p6 p7 n cap:Nat)(ad:oP Addr)(a ae b be:Int)(w:World)(c0:w.cell? ⟨p6,0,none⟩=some (.int .i64 a))(c1:w.cell? ⟨p6,1,none⟩=some (.int .i64 ae))(d0:w.cell? ⟨p7,0,none⟩=some (.int .i64 b))(d1:w.cell? ⟨p7,1,none⟩=some (.int .i64 be))(cx:w.cell? ⟨vb,i,none⟩=some (.slice ad n cap))(hc:Calls Tryz.prog 219 #[.slice ad n cap,.agg #[.int .i64 a,.int .i64 ae],.agg #[.int .i64 b,.int .i64 be]] w.drew λe w'=>e = .returned (.bool false)/\Below w.drew.heap.size w.drew w') :
  Code.wp Tryz.prog Qcd (Q6U λact w'=>∃(c d f g h j:Value) ,act=⟨(u0::u1::u2::u3::u4::u5::.pointer (some ⟨p6,0,none⟩)::.pointer (some ⟨p7,0,none⟩)::.pointer (some ⟨vb,i,none⟩)::u9::u10::u11::u12::u13::u14::u15::u16::u17::u18::u19::u20::u21::u22::u23::u24::u25::u26::u27::u28::u29::u30::u31::u32::u33::u34::u35::u36::u37::u38::u39::u40::u41::u42::.bool false::c::d::f::g::h::j::u50::u51::u52::u53::u54::u55::u56::u57::u58::u59::u60::u61::u62::u63::u64::u65::u66::u67::u68::u69::u70::u71::u72::u73::u74::u75::u76::u77::u78::u79::[]).toArray,[]⟩/\Below w.heap.size w w') ⟨(u0::u1::u2::u3::u4::u5::.pointer (some ⟨p6,0,none⟩)::.pointer (some ⟨p7,0,none⟩)::.pointer (some ⟨vb,i,none⟩)::u9::u10::u11::u12::u13::u14::u15::u16::u17::u18::u19::u20::u21::u22::u23::u24::u25::u26::u27::u28::u29::u30::u31::u32::u33::u34::u35::u36::u37::u38::u39::u40::u41::u42::u43::u44::u45::u46::u47::u48::u49::u50::u51::u52::u53::u54::u55::u56::u57::u58::u59::u60::u61::u62::u63::u64::u65::u66::u67::u68::u69::u70::u71::u72::u73::u74::u75::u76::u77::u78::u79::[]).toArray,[]⟩ w:=by
 conv=>arg 2;whnf
 have mixed:Tryz.prog.follows .mixedOrders=true:=by kernel_rfl
 have l:w.drew.cell? ⟨p6,0,none⟩=some (.int .i64 a):=c0;have m:w.drew.cell? ⟨p6,1,none⟩=some (.int .i64 ae):=c1;have o:w.drew.cell? ⟨p7,0,none⟩=some (.int .i64 b):=d0;have p:w.drew.cell? ⟨p7,1,none⟩=some (.int .i64 be):=d1;have q:w.drew.cell? ⟨vb,i,none⟩=some (.slice ad n cap):=cx;clear c0 c1 d0 d1 cx
 go_region_law (first
   |(go_simp;refine hc.mono ?_;rintro e W1 ⟨rfl,k⟩))
 all_goals
  dsimp only[Q6U];refine⟨_,_,_,_,_,_,rfl,?_⟩;exact My (ME w) k
def Qcr:Code:=(Gw (Tryz.f190.body.getD .skip)).getD 13 .skip
set_option maxHeartbeats 8000000 in
set_option maxRecDepth 100000 in
theorem Tryz.links_r13(vb i p5 n cap:Nat)(ad:oP Addr)(a ae b be p q:Int)(w:World)(aa:w.heap[p5]? = some (.cells #[.int .i64 a,.int .i64 ae,.int .i64 b,.int .i64 be,.int .i64 p,.int .i64 q] 172 (0,0)))(cx:w.cell? ⟨vb,i,none⟩=some (.slice ad n cap))(hc:Calls Tryz.prog 220 #[.agg #[.int .i64 a,.int .i64 ae,.int .i64 b,.int .i64 be,.int .i64 p,.int .i64 q],.slice ad n cap] w.drew λe w'=>e = .returned (.bool true)/\Below w.drew.heap.size w.drew w') :
  Code.wp Tryz.prog Qcr (Q6U λact w'=>∃(c d f g h j:Value) ,act=⟨(u0::u1::u2::u3::u4::.pointer (some ⟨p5,0,none⟩)::u6::u7::.pointer (some ⟨vb,i,none⟩)::u9::u10::u11::u12::u13::u14::u15::u16::u17::u18::u19::u20::u21::u22::u23::u24::u25::u26::u27::u28::u29::u30::u31::u32::u33::u34::u35::u36::u37::u38::u39::u40::u41::u42::u43::u44::u45::u46::u47::u48::u49::.bool false::c::d::f::g::h::j::u57::u58::u59::u60::u61::u62::u63::u64::u65::u66::u67::u68::u69::u70::u71::u72::u73::u74::u75::u76::u77::u78::u79::[]).toArray,[]⟩/\Below w.heap.size w w') ⟨(u0::u1::u2::u3::u4::.pointer (some ⟨p5,0,none⟩)::u6::u7::.pointer (some ⟨vb,i,none⟩)::u9::u10::u11::u12::u13::u14::u15::u16::u17::u18::u19::u20::u21::u22::u23::u24::u25::u26::u27::u28::u29::u30::u31::u32::u33::u34::u35::u36::u37::u38::u39::u40::u41::u42::u43::u44::u45::u46::u47::u48::u49::u50::u51::u52::u53::u54::u55::u56::u57::u58::u59::u60::u61::u62::u63::u64::u65::u66::u67::u68::u69::u70::u71::u72::u73::u74::u75::u76::u77::u78::u79::[]).toArray,[]⟩ w:=by
 conv=>arg 2;whnf
 have mixed:Tryz.prog.follows .mixedOrders=true:=by kernel_rfl
 obtain⟨l,m,o,r,s,t⟩:=six (w:=w.drew) aa;have u:w.drew.cell? ⟨vb,i,none⟩=some (.slice ad n cap):=cx;clear aa cx
 go_region_law (first
   |(go_simp;refine hc.mono ?_;rintro e W1 ⟨rfl,k⟩))
 all_goals
  dsimp only[Q6U];refine⟨_,_,_,_,_,_,rfl,?_⟩;exact My (ME w) k
def QbF:Code:=(Gw (Tryz.f190.body.getD .skip)).getD 14 .skip
set_option maxHeartbeats 8000000 in
set_option maxRecDepth 100000 in
theorem Tryz.links_r14(vb i p5 n cap:Nat)(ad:oP Addr)(a ae b be p q:Int)(w:World)(aa:w.heap[p5]? = some (.cells #[.int .i64 a,.int .i64 ae,.int .i64 b,.int .i64 be,.int .i64 p,.int .i64 q] 172 (0,0)))(cx:w.cell? ⟨vb,i,none⟩=some (.slice ad n cap))(hc:Calls Tryz.prog 220 #[.agg #[.int .i64 a,.int .i64 ae,.int .i64 b,.int .i64 be,.int .i64 p,.int .i64 q],.slice ad n cap] w.drew λe w'=>e = .returned (.bool true)/\Below w.drew.heap.size w.drew w') :
  Code.wp Tryz.prog QbF (Q6U λact w'=>∃(c d f g h j:Value) ,act=⟨(u0::u1::u2::u3::u4::.pointer (some ⟨p5,0,none⟩)::u6::u7::u8::.pointer (some ⟨vb,i,none⟩)::u10::u11::u12::u13::u14::u15::u16::u17::u18::u19::u20::u21::u22::u23::u24::u25::u26::u27::u28::u29::u30::u31::u32::u33::u34::u35::u36::u37::u38::u39::u40::u41::u42::u43::u44::u45::u46::u47::u48::u49::.bool false::u51::u52::u53::u54::u55::u56::c::d::f::g::h::j::u63::u64::u65::u66::u67::u68::u69::u70::u71::u72::u73::u74::u75::u76::u77::u78::u79::[]).toArray,[]⟩/\Below w.heap.size w w') ⟨(u0::u1::u2::u3::u4::.pointer (some ⟨p5,0,none⟩)::u6::u7::u8::.pointer (some ⟨vb,i,none⟩)::u10::u11::u12::u13::u14::u15::u16::u17::u18::u19::u20::u21::u22::u23::u24::u25::u26::u27::u28::u29::u30::u31::u32::u33::u34::u35::u36::u37::u38::u39::u40::u41::u42::u43::u44::u45::u46::u47::u48::u49::u50::u51::u52::u53::u54::u55::u56::u57::u58::u59::u60::u61::u62::u63::u64::u65::u66::u67::u68::u69::u70::u71::u72::u73::u74::u75::u76::u77::u78::u79::[]).toArray,[]⟩ w:=by
 conv=>arg 2;whnf
 have mixed:Tryz.prog.follows .mixedOrders=true:=by kernel_rfl
 obtain⟨l,m,o,r,s,t⟩:=six (w:=w.drew) aa;have u:w.drew.cell? ⟨vb,i,none⟩=some (.slice ad n cap):=cx;clear aa cx
 go_region_law (first
   |(go_simp;refine hc.mono ?_;rintro e W1 ⟨rfl,k⟩))
 all_goals
  dsimp only[Q6U];refine⟨_,_,_,_,_,_,rfl,?_⟩;exact My (ME w) k
def QbJ:Code:=(Gw (Tryz.f190.body.getD .skip)).getD 16 .skip
set_option maxHeartbeats 8000000 in
set_option maxRecDepth 100000 in
theorem Tryz.links_r16(B vb N i p5 cap:Nat)(ad:oP Addr)(a ae b be p q:Int)(hd:Y Value)(ll:Y LL)(l:LL)(w:World)(az:w.heap[p5]? = some (.cells #[.int .i64 a,.int .i64 ae,.int .i64 b,.int .i64 be,.int .i64 p,.int .i64 q] 172 (0,0)))(hN:NestK 25 172 6 w B (.slice (some ⟨vb,0,none⟩) N N) hd ll)(hx:hd[i]? = some (.slice ad l.length cap))(hl:ll[i]? = some l)(ak:l.length<=1000)(hB:B<=w.heap.size)(al:p5≠vb)(am:(Value.slice ad l.length cap).ownBlock≠some p5) :
  Code.wp Tryz.prog QbJ (Q6U λact w'=>∃(k m n o r s t v:Value) (xx:Value),act=⟨(u0::u1::u2::u3::u4::.pointer (some ⟨p5,0,none⟩)::u6::u7::.pointer (some ⟨vb,i,none⟩)::u9::u10::u11::u12::u13::u14::u15::u16::u17::u18::u19::u20::u21::u22::u23::u24::u25::u26::u27::u28::u29::u30::u31::u32::u33::u34::u35::u36::u37::u38::u39::u40::u41::u42::u43::u44::u45::u46::u47::u48::u49::u50::u51::u52::u53::u54::u55::u56::u57::u58::u59::u60::u61::u62::k::m::n::o::r::s::t::v::u71::u72::u73::u74::u75::u76::u77::u78::u79::[]).toArray,[]⟩/\NestK 25 172 6 w' B (.slice (some ⟨vb,0,none⟩) N N) (hd.set i xx) (ll.set i (l++[[D.int .i64 a,.int .i64 ae,.int .i64 b,.int .i64 be,.int .i64 p,.int .i64 q]]))/\Grew w w' vb (.slice ad l.length cap) xx) ⟨(u0::u1::u2::u3::u4::.pointer (some ⟨p5,0,none⟩)::u6::u7::.pointer (some ⟨vb,i,none⟩)::u9::u10::u11::u12::u13::u14::u15::u16::u17::u18::u19::u20::u21::u22::u23::u24::u25::u26::u27::u28::u29::u30::u31::u32::u33::u34::u35::u36::u37::u38::u39::u40::u41::u42::u43::u44::u45::u46::u47::u48::u49::u50::u51::u52::u53::u54::u55::u56::u57::u58::u59::u60::u61::u62::u63::u64::u65::u66::u67::u68::u69::u70::u71::u72::u73::u74::u75::u76::u77::u78::u79::[]).toArray,[]⟩ w:=by
 conv=>arg 2;whnf
 have mixed:Tryz.prog.follows .mixedOrders=true:=by kernel_rfl
 obtain⟨x,hi,y⟩:=Qrz.1 (show(Tryz.prog.info? 172).map (λi=>(i.zero,i.size,i.bytes))=some (some (.agg #[.int .i64 0,.int .i64 0,.int .i64 0,.int .i64 0,.int .i64 0,.int .i64 0]),6,48) by kernel_rfl);obtain⟨hz,d⟩:=Prod.mk.inj y;obtain⟨d,z⟩:=Prod.mk.inj d;have ax:=(hN.row.lt vb rfl).2;have a4:=hN.each _ _ _ hx hl;have aa:w.cell? ⟨vb,i,none⟩=some (.slice ad l.length cap):=by
  have:=hN.row.cells (g:=vb) rfl i _ hx;rwa [Jy,QrK]at this
 have au:(Value.slice ad l.length cap).ownBlock≠some vb:=λe=>hN.outer _ _ _ hx e rfl
 obtain⟨ao,ay⟩:∃ao,w.drew.heap[vb]? = some (.cells ao 25 (0,0)):=by
  rcases hN.row.2 with⟨e,_⟩|⟨g,a6,ao,e,_,hg,_⟩
  ·cases e
  ·cases e;exact⟨ao,hg⟩
 have q1:l.length+1<=maxLen:=by unfold maxLen;omega
 have q2:(l.length+1)*48<=140737488355328:=I
 have q3:∀u∈[Value.int .i64 a,.int .i64 ae,.int .i64 b,.int .i64 be,.int .i64 p,.int .i64 q],u.oneCell'=true:=by simp[Value.oneCell']
 obtain⟨y0,y1,y2,y3,y5,y6⟩:=six (w:=w.drew) az;have y4:w.drew.cell? ⟨vb,i,none⟩=some (.slice ad l.length cap):=aa;have c:w.drew.grownBy (w.drew.alloc (.cells #[.int .i64 a,.int .i64 ae,.int .i64 b,.int .i64 be,.int .i64 p,.int .i64 q] 172)) none:=QrG _ _ none;have ah:w.drew.ownsRow B 172 6 (.slice ad l.length cap) l.length (cellsOf l):=a4;have ai:(w.drew.alloc (.cells #[.int .i64 a,.int .i64 ae,.int .i64 b,.int .i64 be,.int .i64 p,.int .i64 q] 172)).ownsRow B 172 6 (.slice ad l.length cap) l.length (cellsOf l):=World.ownsRow.kept (w:=w.drew) ah c (Classical.em _);have aj:∀(j:Nat) (u:Value),[Value.int .i64 a,.int .i64 ae,.int .i64 b,.int .i64 be,.int .i64 p,.int .i64 q][j]? = some u->(w.drew.alloc (.cells #[.int .i64 a,.int .i64 ae,.int .i64 b,.int .i64 be,.int .i64 p,.int .i64 q] 172)).cell? ((⟨w.drew.heap.size,0,none⟩:Addr).add j)=some u:=World.news_of_block (heap_alloc_new _ _);have f:w.drew.heap.size<=(w.drew.alloc (.cells #[.int .i64 a,.int .i64 ae,.int .i64 b,.int .i64 be,.int .i64 p,.int .i64 q] 172)).heap.size:=c.size;have a2:B<=(w.drew.alloc (.cells #[.int .i64 a,.int .i64 ae,.int .i64 b,.int .i64 be,.int .i64 p,.int .i64 q] 172)).heap.size:=QrJ hB f;have ac:vb<w.drew.heap.size:=ax;have ar:=(c.block vb ac (λe=>by cases e)).trans ay;have h:=c.cell_far ⟨vb,i,none⟩ ac (λe=>by cases e);have h:=h.trans y4;have a5:(1:Nat)*6=6:=rfl
 go_region_law (first
   |(refine step_append_lies (w.drew.alloc (.cells #[.int .i64 a,.int .i64 ae,.int .i64 b,.int .i64 be,.int .i64 p,.int .i64 q] 172)) (by rfl) _ _ 25 (by rfl) B 172 x (.agg #[.int .i64 0,.int .i64 0,.int .i64 0,.int .i64 0,.int .i64 0,.int .i64 0]) 6 48 Tryz.underlying25 hi hz d z (by rfl) Q1 _ l.length (cellsOf l) (by rfl) ai ⟨w.drew.heap.size,0,none⟩ 1 1 [Value.int .i64 a,.int .i64 ae,.int .i64 b,.int .i64 be,.int .i64 p,.int .i64 q] (by rfl) rfl aj q3 Q1 q1 q2 a2 _ rfl ?_;intro g c2 W2 aw an hat bb;
     have rx:=(an.cell_far ⟨vb,i,none⟩ (Qrv ac f) (λe=>au e.symm)).trans h;
     have rf:=frozen_of_row W2 vb i ao 25 ((an.block vb (Qrv ac f) (λe=>au e.symm)).trans ar)))
 all_goals
  dsimp only[Q6U];have E:=Q4D (w:=w.drew) (row:=[D.int .i64 a,.int .i64 ae,.int .i64 b,.int .i64 be,.int .i64 p,.int .i64 q]) ⟨hN.row,hN.each,hN.outer,hN.apart⟩ hx hl rfl c aw an hat;exact⟨_,_,_,_,_,_,_,_,_,rfl,E.1,⟨E.2.own,E.2.os,E.2.tape,E.2.output,E.2.size,E.2.block⟩⟩
def Qc0:Code:=(Gw (Tryz.f190.body.getD .skip)).getD 17 .skip
set_option maxHeartbeats 8000000 in
set_option maxRecDepth 100000 in
theorem Tryz.links_r17(B vb N i p5 cap:Nat)(ad:oP Addr)(a ae b be p q:Int)(hd:Y Value)(ll:Y LL)(l:LL)(w:World)(az:w.heap[p5]? = some (.cells #[.int .i64 a,.int .i64 ae,.int .i64 b,.int .i64 be,.int .i64 p,.int .i64 q] 172 (0,0)))(hN:NestK 25 172 6 w B (.slice (some ⟨vb,0,none⟩) N N) hd ll)(hx:hd[i]? = some (.slice ad l.length cap))(hl:ll[i]? = some l)(ak:l.length<=1000)(hB:B<=w.heap.size)(al:p5≠vb)(am:(Value.slice ad l.length cap).ownBlock≠some p5) :
  Code.wp Tryz.prog Qc0 (Q6U λact w'=>∃(k m n o r s t v:Value) (xx:Value),act=⟨(u0::u1::u2::u3::u4::.pointer (some ⟨p5,0,none⟩)::u6::u7::u8::.pointer (some ⟨vb,i,none⟩)::u10::u11::u12::u13::u14::u15::u16::u17::u18::u19::u20::u21::u22::u23::u24::u25::u26::u27::u28::u29::u30::u31::u32::u33::u34::u35::u36::u37::u38::u39::u40::u41::u42::u43::u44::u45::u46::u47::u48::u49::u50::u51::u52::u53::u54::u55::u56::u57::u58::u59::u60::u61::u62::u63::u64::u65::u66::u67::u68::u69::u70::k::m::n::o::r::s::t::v::u79::[]).toArray,[]⟩/\NestK 25 172 6 w' B (.slice (some ⟨vb,0,none⟩) N N) (hd.set i xx) (ll.set i (l++[[D.int .i64 a,.int .i64 ae,.int .i64 b,.int .i64 be,.int .i64 p,.int .i64 q]]))/\Grew w w' vb (.slice ad l.length cap) xx) ⟨(u0::u1::u2::u3::u4::.pointer (some ⟨p5,0,none⟩)::u6::u7::u8::.pointer (some ⟨vb,i,none⟩)::u10::u11::u12::u13::u14::u15::u16::u17::u18::u19::u20::u21::u22::u23::u24::u25::u26::u27::u28::u29::u30::u31::u32::u33::u34::u35::u36::u37::u38::u39::u40::u41::u42::u43::u44::u45::u46::u47::u48::u49::u50::u51::u52::u53::u54::u55::u56::u57::u58::u59::u60::u61::u62::u63::u64::u65::u66::u67::u68::u69::u70::u71::u72::u73::u74::u75::u76::u77::u78::u79::[]).toArray,[]⟩ w:=by
 conv=>arg 2;whnf
 have mixed:Tryz.prog.follows .mixedOrders=true:=by kernel_rfl
 obtain⟨x,hi,y⟩:=Qrz.1 (show(Tryz.prog.info? 172).map (λi=>(i.zero,i.size,i.bytes))=some (some (.agg #[.int .i64 0,.int .i64 0,.int .i64 0,.int .i64 0,.int .i64 0,.int .i64 0]),6,48) by kernel_rfl);obtain⟨hz,d⟩:=Prod.mk.inj y;obtain⟨d,z⟩:=Prod.mk.inj d;have ax:=(hN.row.lt vb rfl).2;have a4:=hN.each _ _ _ hx hl;have aa:w.cell? ⟨vb,i,none⟩=some (.slice ad l.length cap):=by
  have:=hN.row.cells (g:=vb) rfl i _ hx;rwa [Jy,QrK]at this
 have au:(Value.slice ad l.length cap).ownBlock≠some vb:=λe=>hN.outer _ _ _ hx e rfl
 obtain⟨ao,ay⟩:∃ao,w.drew.heap[vb]? = some (.cells ao 25 (0,0)):=by
  rcases hN.row.2 with⟨e,_⟩|⟨g,a6,ao,e,_,hg,_⟩
  ·cases e
  ·cases e;exact⟨ao,hg⟩
 have q1:l.length+1<=maxLen:=by unfold maxLen;omega
 have q2:(l.length+1)*48<=140737488355328:=I
 have q3:∀u∈[Value.int .i64 a,.int .i64 ae,.int .i64 b,.int .i64 be,.int .i64 p,.int .i64 q],u.oneCell'=true:=by simp[Value.oneCell']
 obtain⟨y0,y1,y2,y3,y5,y6⟩:=six (w:=w.drew) az;have y4:w.drew.cell? ⟨vb,i,none⟩=some (.slice ad l.length cap):=aa;have c:w.drew.grownBy (w.drew.alloc (.cells #[.int .i64 a,.int .i64 ae,.int .i64 b,.int .i64 be,.int .i64 p,.int .i64 q] 172)) none:=QrG _ _ none;have ah:w.drew.ownsRow B 172 6 (.slice ad l.length cap) l.length (cellsOf l):=a4;have ai:(w.drew.alloc (.cells #[.int .i64 a,.int .i64 ae,.int .i64 b,.int .i64 be,.int .i64 p,.int .i64 q] 172)).ownsRow B 172 6 (.slice ad l.length cap) l.length (cellsOf l):=World.ownsRow.kept (w:=w.drew) ah c (Classical.em _);have aj:∀(j:Nat) (u:Value),[Value.int .i64 a,.int .i64 ae,.int .i64 b,.int .i64 be,.int .i64 p,.int .i64 q][j]? = some u->(w.drew.alloc (.cells #[.int .i64 a,.int .i64 ae,.int .i64 b,.int .i64 be,.int .i64 p,.int .i64 q] 172)).cell? ((⟨w.drew.heap.size,0,none⟩:Addr).add j)=some u:=World.news_of_block (heap_alloc_new _ _);have f:w.drew.heap.size<=(w.drew.alloc (.cells #[.int .i64 a,.int .i64 ae,.int .i64 b,.int .i64 be,.int .i64 p,.int .i64 q] 172)).heap.size:=c.size;have a2:B<=(w.drew.alloc (.cells #[.int .i64 a,.int .i64 ae,.int .i64 b,.int .i64 be,.int .i64 p,.int .i64 q] 172)).heap.size:=QrJ hB f;have ac:vb<w.drew.heap.size:=ax;have ar:=(c.block vb ac (λe=>by cases e)).trans ay;have h:=c.cell_far ⟨vb,i,none⟩ ac (λe=>by cases e);have h:=h.trans y4;have a5:(1:Nat)*6=6:=rfl
 go_region_law (first
   |(refine step_append_lies (w.drew.alloc (.cells #[.int .i64 a,.int .i64 ae,.int .i64 b,.int .i64 be,.int .i64 p,.int .i64 q] 172)) (by rfl) _ _ 25 (by rfl) B 172 x (.agg #[.int .i64 0,.int .i64 0,.int .i64 0,.int .i64 0,.int .i64 0,.int .i64 0]) 6 48 Tryz.underlying25 hi hz d z (by rfl) Q1 _ l.length (cellsOf l) (by rfl) ai ⟨w.drew.heap.size,0,none⟩ 1 1 [Value.int .i64 a,.int .i64 ae,.int .i64 b,.int .i64 be,.int .i64 p,.int .i64 q] (by rfl) rfl aj q3 Q1 q1 q2 a2 _ rfl ?_;intro g c2 W2 aw an hat bb;
     have rx:=(an.cell_far ⟨vb,i,none⟩ (Qrv ac f) (λe=>au e.symm)).trans h;
     have rf:=frozen_of_row W2 vb i ao 25 ((an.block vb (Qrv ac f) (λe=>au e.symm)).trans ar)))
 all_goals
  dsimp only[Q6U];have E:=Q4D (w:=w.drew) (row:=[D.int .i64 a,.int .i64 ae,.int .i64 b,.int .i64 be,.int .i64 p,.int .i64 q]) ⟨hN.row,hN.each,hN.outer,hN.apart⟩ hx hl rfl c aw an hat;exact⟨_,_,_,_,_,_,_,_,_,rfl,E.1,⟨E.2.own,E.2.os,E.2.tape,E.2.output,E.2.size,E.2.block⟩⟩
end
theorem Q84{N:Nat}{l0 l1 l2 c:LL}{a ae b be p q:Int}(h:Yo N l0 l1 l2 c a ae b be p q some=some true){S:Nat->Prop}{w:World}(hS:∀b,S b->b<w.heap.size){d f g i:Value}(j:Rd S w d (.sl 1 l0))(k:Rd S w f (.sl 1 l1))(h2:Rd S w g (.sl 5 l2))(l:Rd S w i (.sl 6 c)) :
  Calls Tryz.prog 216 #[.agg #[d,f,g,i],.agg #[.int .i64 a,.int .i64 ae,.int .i64 b,.int .i64 be,.int .i64 p,.int .i64 q]] w λe w'=>e = .returned (.bool true)/\RowKit.Below w.heap.size w w':=by
 have he:(HO N).E Dl 0 true [.ag ([D.sl 1 l0,.sl 1 l1,.sl 5 l2,.sl 6 c].map .d),.ag ([D.int .i64 a,.int .i64 ae,.int .i64 b,.int .i64 be,.int .i64 p,.int .i64 q].map .d)] (λ_=>none) some=some ⟨.d (.bool true),[],[]⟩:=by
  show gb true (Yo N l0 l1 l2 c a ae b be p q some) false (λr=>(some ⟨.d (D.bool r),[],[]⟩:oP Dl))=_;rw[h];rfl
 exact Sl (Ym ((HO N).ok) he) hS (HE (RdLs.agg (.cons j (.cons k (.cons h2 (.cons l .nil))))) (RdLs.agg (.cons (.int _ _) (.cons (.int _ _) (.cons (.int _ _) (.cons (.int _ _) (.cons (.int _ _) (.cons (.int _ _) .nil))))))))
theorem Q3s{N:Nat}{x:LL}{a ae b be:Int}(h:GG N x a ae b be some=some false){S:Nat->Prop}{w:World}(hS:∀b,S b->b<w.heap.size){v:Value}(hv:Rd S w v (.sl 6 x)) :
  Calls Tryz.prog 219 #[v,.agg #[.int .i64 a,.int .i64 ae],.agg #[.int .i64 b,.int .i64 be]] w λe w'=>e = .returned (.bool false)/\RowKit.Below w.heap.size w w':=by
 have he:(NN N).E Dl 0 true [.d (.sl 6 x),.ag ([D.int .i64 a,.int .i64 ae].map .d),.ag ([D.int .i64 b,.int .i64 be].map .d)] (λ_=>none) some=some ⟨.d (.bool false),[],[]⟩:=by
  show gb true (GG N x a ae b be some) false (λr=>(some ⟨.d (D.bool r),[],[]⟩:oP Dl))=_;rw[h];rfl
 exact Sl (Ym ((NN N).ok) he) hS (QdM (.d _ _ hv) (RdLs.agg (.cons (.int _ _) (.cons (.int _ _) .nil))) (RdLs.agg (.cons (.int _ _) (.cons (.int _ _) .nil))))
theorem Q1p{N:Nat}{x:LL}{a ae b be p q:Int}(h:JY N a ae b be p q x some=some true){S:Nat->Prop}{w:World}(hS:∀b,S b->b<w.heap.size){v:Value}(hv:Rd S w v (.sl 6 x)) :
  Calls Tryz.prog 220 #[.agg #[.int .i64 a,.int .i64 ae,.int .i64 b,.int .i64 be,.int .i64 p,.int .i64 q],v] w λe w'=>e = .returned (.bool true)/\RowKit.Below w.heap.size w w':=by
 have he:(Eo N).E Dl 0 true [.ag ([D.int .i64 a,.int .i64 ae,.int .i64 b,.int .i64 be,.int .i64 p,.int .i64 q].map .d),.d (.sl 6 x)] (λ_=>none) some=some ⟨.d (.bool true),[],[]⟩:=by
  show gb true (JY N a ae b be p q x some) false (λr=>(some ⟨.d (D.bool r),[],[]⟩:oP Dl))=_;rw[h];rfl
 exact Sl (Ym ((Eo N).ok) he) hS (HE (RdLs.agg (.cons (.int _ _) (.cons (.int _ _) (.cons (.int _ _) (.cons (.int _ _) (.cons (.int _ _) (.cons (.int _ _) .nil))))))) (.d _ _ hv))
theorem Q2w{N:Nat}{l0 l1 l2 d:LL}{st:Y LL}{l:LL}{j:Nat}(hj:j<l.length)(h:H3 N l0 l1 l2 d st (l.drop j)=true) :
  ∃a ae b be p q x y,l[j]? = some [D.int .i64 a,.int .i64 ae,.int .i64 b,.int .i64 be,.int .i64 p,.int .i64 q]/\((0<=a/\a<l2.length)/\(0<=ae/\ae<=1)/\(0<=b/\b<l2.length)/\(0<=be/\be<=1)) /\
   Yo N l0 l1 l2 d a ae b be p q some=some true/\(2*a+ae).toNat≠(2*b+be).toNat/\st[(2*a+ae).toNat]? = some x/\st[(2*b+be).toNat]? = some y /\
   GG N x a ae b be some=some false/\JY N a ae b be p q x some=some true/\JY N a ae b be p q y some=some true/\x.length<=1/\y.length<=1 /\
   H3 N l0 l1 l2 d ((st.set (2*a+ae).toNat (x++[[D.int .i64 a,.int .i64 ae,.int .i64 b,.int .i64 be,.int .i64 p,.int .i64 q]])).set (2*b+be).toNat (y++[[D.int .i64 a,.int .i64 ae,.int .i64 b,.int .i64 be,.int .i64 p,.int .i64 q]])) (l.drop (j+1))=true:=by
 rw[List.drop_eq_getElem_cons hj]at h;unfold H3 at h;split at h
 ·rename_i a ae b be p q e;simp only[Qry,Bool.not_eq_true',decide_eq_true_eq]at h;obtain⟨⟨⟨g1,f⟩,g⟩,c⟩:=h;split at c
  ·rename_i x y hx hy;simp only[Qry]at c;obtain⟨⟨⟨⟨⟨k1,i⟩,k⟩,m⟩,n⟩,k6⟩:=c;refine⟨a,ae,b,be,p,q,x,y,by rw[Qrx hj,e],?_,Mc f,?_,hx,hy,Qa7 k1,Mc i,Mc k,Qru m,Qru n,by rw[<- e];exact k6⟩
   ·obtain⟨⟨⟨⟨⟨⟨⟨o,r⟩,s⟩,t⟩,u⟩,v⟩,z⟩,z8⟩:=g1;exact⟨⟨o,r⟩,⟨s,t⟩,⟨u,v⟩,⟨z,z8⟩⟩
   ·exact Nat.ne_of_beq_eq_false g
  ·cases c
 ·cases h
theorem Q8h{w a:World}{B N vb:Nat}(h:a.ownsRow B 25 1 (.slice (some ⟨vb,0,none⟩) N N) N (List.replicate N (.slice none 0 0))):NestK 25 172 6 a B (.slice (some ⟨vb,0,none⟩) N N) (List.replicate N (.slice none 0 0)) (List.replicate N []):=by
 refine⟨by simpa using h,λi x l hx hl=>?_,λi x b hx hb=>?_,λi j x y b hx hy aa ai=>?_⟩
 ·have e1:=Qrs hx;have e2:=Qrs hl;obtain⟨_,rfl⟩:=QrA.1 e1;obtain⟨_,rfl⟩:=QrA.1 e2;exact World.ownsRow_nil a B 172 6
 ·obtain⟨_,rfl⟩:=QrA.1 (Qrs hx);cases hb
 ·obtain⟨_,rfl⟩:=QrA.1 (Qrs hx);cases aa
theorem Qa5{w:World}{B i:Nat}{v:Value}{hd:Y Value}{ll:Y LL}{l:LL}(h:NestK 25 172 6 w B v hd ll)(hl:ll[i]? = some l):∃(ad:oP Addr) (cap:Nat),hd[i]? = some (.slice ad l.length cap):=by
 have hi:i<hd.length:=by rw[h.len];exact(Qrt.1 hl).1
 have hx:=Qrx hi;rcases (h.each i hd[i] l hx hl).2 with⟨e,a⟩|⟨g,cap,ac,e,_⟩
 ·exact⟨none,0,by rw[hx,e,a]⟩
 ·exact⟨some ⟨g,0,none⟩,cap,by rw[hx,e]⟩
theorem Q6p{w:World}{B i:Nat}{v x:Value}{hd:Y Value}{ll:Y LL}{l:LL}(h:NestK 25 172 6 w B v hd ll)(hx:hd[i]? = some x)(hl:ll[i]? = some l)(aa:∀l∈ll,∀r∈l,Mb 6 r=true) :
  (∀b,x.ownBlock=some b->b<w.drew.heap.size)/\Rd (λb=>x.ownBlock=some b) w.drew x (.sl 6 l):=
 ⟨λb hb=>(h.blk hx hb).2,Rd.mono (w:=w) (w':=w.drew) (λ_ h=>h) (λ_ _=>rfl) (QaL (w:=w) (h.each i x l hx hl) (aa l (Qrs hl)) (λ_ h=>h))⟩
theorem A9{w:World}{B vb N i:Nat}{x:Value}{hd:Y Value}{ll:Y LL}(h:NestK 25 172 6 w B (.slice (some ⟨vb,0,none⟩) N N) hd ll)(hx:hd[i]? = some x):w.cell? ⟨vb,i,none⟩=some x:=by
 have:=h.row.cells (g:=vb) rfl i _ hx;rwa [Jy,QrK]at this
theorem Q8R{ll:Y LL}{i:Nat}{x:LL}{row:Y D}(h:∀l∈ll,∀r∈l,Mb 6 r=true)(hx:ll[i]? = some x)(hr:Mb 6 row=true):∀l∈ll.set i (x++[row]),∀r∈l,Mb 6 r=true:=by
 intro l hl r aa;rcases List.mem_or_eq_of_mem_set hl with a | rfl
 ·exact h l a r aa
 ·rcases List.mem_append.1 aa with a | a
  ·exact h x (Qrs hx) r a
  ·simp at a;subst a;exact hr
theorem Q18{w0 w w':World}{n vb:Nat}{x x':Value}(h:Below n w0 w)(hg:Grew w w' vb x x')(hn:n<=w.heap.size)(hv:n<=vb)(hx:∀c,x.ownBlock=some c->n<=c):Below n w0 w':=
 ⟨hg.os.trans h.os,hg.tape.trans h.tape,hg.output.trans h.output,QrJ h.size hg.size,λk hk=>(hg.block k I I (λe=>by have:=hx k e;omega)).trans (h.block k hk)⟩
theorem Qb6{a ae b be:Int}(h:¬ (a=b/\ae=be))(w:World):(binOp .eql 297 (.agg #[.int .i64 a,.int .i64 ae]) (.agg #[.int .i64 b,.int .i64 be])).run Tryz.prog w = .ok (.bool false) w:=by
 go_simp
 exact λe1 e2=>h ⟨e1,e2⟩
set_option maxHeartbeats 16000000 in
set_option maxRecDepth 100000 in
theorem Tryz.links_calls{N:Nat}(S:Nat->Prop)(w:World)(hS:∀b,S b->b<w.heap.size)(l0 l1 l2 d:LL)(v0 v1 v2 v3:Value)(h0:Rd S w v0 (.sl 1 l0))(h1:Rd S w v1 (.sl 1 l1))(h2:Rd S w v2 (.sl 5 l2))(h3:Rd S w v3 (.sl 6 d))(m2:l2.length<=96)(m3:d.length<=192)(db:H3 N l0 l1 l2 d (List.replicate (2*l2.length) []) d=true) :
  Calls Tryz.prog 190 #[.agg #[v0,v1,v2,v3]] w λe w'=>e = .returned (.int .i64 0)/\Below w.heap.size w w':=by
 obtain⟨n,o,rfl⟩:=He h0;obtain⟨s,t,rfl⟩:=He h1;obtain⟨f,g,rfl⟩:=He h2;obtain⟨u,m,rfl⟩:=He h3;obtain⟨i0,hi,bu⟩:=Qrz.1 (show(Tryz.prog.info? 25).map (λi=>(i.zero,i.size,i.bytes))=some (some (.slice none 0 0),1,24) by kernel_rfl);obtain⟨hz,ah⟩:=Prod.mk.inj bu;obtain⟨ah,bv⟩:=Prod.mk.inj ah;have dz:∀w:World,∃w',(Instr.makeSlice 294 (.int .i64 (2*(l2.length:Int))) (.int .i64 (2*(l2.length:Int)))).run Tryz.prog w = .ok (.slice (some ⟨w.heap.size,0,none⟩) (2*l2.length) (2*l2.length)) w' /\
   w'.ownsRow w.heap.size 25 1 (.slice (some ⟨w.heap.size,0,none⟩) (2*l2.length) (2*l2.length)) (2*l2.length) (List.replicate (2*l2.length) (.slice none 0 0))/\w.grownBy w' none:=by
  intro w;obtain⟨w',r1,r2,r3⟩:=run_make_full w w.heap.size 294 25 i0 (.slice none 0 0) 1 Tryz.underlying294 hi hz ah .i64 .i64 (2*l2.length) (by rw[bv];omega) (by unfold maxLen;omega) (QrL _);refine⟨w',by rw[<- r1];simp,?_,r3⟩;have e:(madeCells (Value.slice none 0 0).cells (2*l2.length*1)).toList=List.replicate (2*l2.length) (.slice none 0 0):=by
   apply List.ext_getElem
   ·simp[size_madeCells]
   ·intro i h1 h2;simp[madeCells,Value.cells,Nat.mod_one]
  rw[<- e];exact r2
 have f4:wrap64 (2*(l2.length:Int))=2*(l2.length:Int):=by unfold wrap64;omega
 have b0:(w.alloc (.cells #[.slice n l0.length o,.slice s l1.length t,.slice f l2.length g,.slice u d.length m] 27)).heap[w.heap.size]? = some (.cells #[.slice n l0.length o,.slice s l1.length t,.slice f l2.length g,.slice u d.length m] 27 (0,0)):=heap_alloc_new w _;have a5:Below w.heap.size w (w.alloc (.cells #[.slice n l0.length o,.slice s l1.length t,.slice f l2.length g,.slice u d.length m] 27)):=Ue (Below.refl _ _) (QrL _) _;have az:(w.alloc (.cells #[.slice n l0.length o,.slice s l1.length t,.slice f l2.length g,.slice u d.length m] 27)).heap.size=w.heap.size+1:=by simp
 obtain⟨w2,cb,bz,au⟩:=dz (w.alloc (.cells #[.slice n l0.length o,.slice s l1.length t,.slice f l2.length g,.slice u d.length m] 27));have ay:=(au.block w.heap.size Q2 Q2).trans b0;have aw:Below w.heap.size w w2:=⟨au.os.trans a5.os,au.tape.trans a5.tape,au.output.trans a5.output,QrJ a5.size au.size,λb hb=>(au.block b I Q2).trans (a5.block b hb)⟩;have eh:=au.size;rw[az]at cb bz eh;have c9:=Q8h (w:=w) bz;clear dz au bz;have y2:(w.alloc (.cells #[.slice n l0.length o,.slice s l1.length t,.slice f l2.length g,.slice u d.length m] 27)).cell? ⟨w.heap.size,2,none⟩=some (.slice f l2.length g):=by rw[Qrr b0];rfl
 have z3:w2.cell? ⟨w.heap.size,3,none⟩=some (.slice u d.length m):=by rw[Qrr ay];rfl
 go_enter Tryz.func190,Tryz.ntmps190
 go_wp2
 clear cb b0 y2 z3 a5 az;generalize em:w.heap.size=H0 at *
 go_loopw [18] (λi wr=>∃(j:Nat) (hd:Y Value) (ll:Y LL),j<=d.length/\i = .int .i64 j/\NestK 25 172 6 wr (H0+1) (.slice (some ⟨H0+1,0,none⟩) (2*l2.length) (2*l2.length)) hd ll/\ll.length=2*l2.length /\
   H3 N l0 l1 l2 d ll (d.drop j)=true/\(∀l∈ll,∀r∈l,Mb 6 r=true)/\wr.heap[H0]? = some (.cells #[.slice n l0.length o,.slice s l1.length t,.slice f l2.length g,.slice u d.length m] 27 (0,0))/\Below H0 w wr)
  (λi _=>d.length-(intOf i).toNat)
 case atStart=>
  refine⟨0,_,_,Nat.zero_le _,rfl,c9,by simp,by simpa using db,λl hl r hr=>?_,ay,aw⟩;obtain⟨_,rfl⟩:=QrA.1 hl;cases hr
 case round=>
  obtain⟨j,hd,ll,hj,rfl,hN,cw,eb,a2,du,hF⟩:=hrel;clear c9 db ay aw;by_cases d9:j<d.length
  ·have e8:((j:Int)<(d.length:Int)):=I
   obtain⟨a,ae,b,be,p,q,x,y,ej,⟨⟨ce,dd⟩,⟨cf,cg⟩,⟨ch,de⟩,⟨ci,cj⟩⟩,b8,co,hx,hy,cp,ck,cm,fu,gc,cr⟩:=Q2w d9 eb;have ed:∀c,c<H0->wr.heap[c]? = w.heap[c]?:=λc hc=>hF.block c hc
   have gp:∀c,S c->c<wr.heap.size:=λc hc=>by have:=hS c hc;have:=hF.size;omega
   have ba:=Rd.keep (w':=wr) h3 hS ed;obtain⟨a3,rfl,_,_,ai⟩:=QaD ba ej;obtain⟨u0,x0,q0⟩:=ai 0 _ rfl;obtain⟨u1,x1,q1⟩:=ai 1 _ rfl;obtain⟨fw,x2,q2⟩:=ai 2 _ rfl;obtain⟨gf,x3,q3⟩:=ai 3 _ rfl;obtain⟨ga,x4,q4⟩:=ai 4 _ rfl;obtain⟨f2,x5,q5⟩:=ai 5 _ rfl;rw[RW q0,Nat.add_zero]at x0;rw[RW q1,T5 _ _ _ Q1]at x1;rw[RW q2,T5 _ _ _ Q1]at x2;rw[RW q3,T5 _ _ _ Q1]at x3;rw[RW q4,T5 _ _ _ Q1]at x4;rw[RW q5,T5 _ _ _ Q1]at x5;clear ai q0 q1 q2 q3 q4 q5 ba;have dh:H0+1<=wr.heap.size:=(Qrw.1 du).1;have gj:H0+1<wr.heap.size:=(hN.row.lt (H0+1) rfl).2;obtain⟨b2,b3,a7⟩:=Qa5 hN hx;obtain⟨b9,b7,b5⟩:=Qa5 hN hy;have a4:∀c,(Value.slice b2 x.length b3).ownBlock=some c->H0+1<=c/\c<wr.heap.size:=λc hc=>hN.blk a7 hc
   have bi:∀c,(Value.slice b9 y.length b7).ownBlock=some c->H0+1<=c/\c<wr.heap.size:=λc hc=>hN.blk b5 hc
   have bg:wr.grownBy (wr.alloc (.cells #[.int .i64 a,.int .i64 ae,.int .i64 b,.int .i64 be,.int .i64 p,.int .i64 q] 172)) none:=QrG wr _ none;have aj:(wr.alloc (.cells #[.int .i64 a,.int .i64 ae,.int .i64 b,.int .i64 be,.int .i64 p,.int .i64 q] 172)).heap[wr.heap.size]? = some (.cells #[.int .i64 a,.int .i64 ae,.int .i64 b,.int .i64 be,.int .i64 p,.int .i64 q] 172 (0,0)):=heap_alloc_new wr _;have d4:=Gt hN bg;have cu:=Ue hF I (.cells #[.int .i64 a,.int .i64 ae,.int .i64 b,.int .i64 be,.int .i64 p,.int .i64 q] 172);have v:=(bg.block H0 I Q2).trans du;have di:(wr.alloc (.cells #[.int .i64 a,.int .i64 ae,.int .i64 b,.int .i64 be,.int .i64 p,.int .i64 q] 172)).heap.size=wr.heap.size+1:=by simp
   generalize ek:wr.alloc (.cells #[.int .i64 a,.int .i64 ae,.int .i64 b,.int .i64 be,.int .i64 p,.int .i64 q] 172)=W1 at *
   generalize dj:wr.heap.size=p5 at *
   have z:∀c,c<H0->W1.heap[c]? = w.heap[c]?:=λc hc=>cu.block c hc
   have cc:∀c,S c->c<W1.heap.size:=λc hc=>by have:=hS c hc;omega
   have k0:=Rd.keep (w':=W1) h0 hS z;have k1:=Rd.keep (w':=W1) h1 hS z;have k2:=Rd.keep (w':=W1) h2 hS z;have k3:=Rd.keep (w':=W1) h3 hS z;have z0:W1.cell? ⟨H0,0,none⟩=some (.slice n l0.length o):=by rw[Qrr v];rfl
   have z1:W1.cell? ⟨H0,1,none⟩=some (.slice s l1.length t):=by rw[Qrr v];rfl
   have z2:W1.cell? ⟨H0,2,none⟩=some (.slice f l2.length g):=by rw[Qrr v];rfl
   have z3:W1.cell? ⟨H0,3,none⟩=some (.slice (some a3) d.length m):=by rw[Qrr v];rfl
   obtain⟨c0,c1,c2,c3,c4,c5⟩:=six aj
   go_wp2_with (go_at_call 216;refine(Q84 b8 cc k0 k1 k2 k3).mono ?_)
   rintro e W2 ⟨rfl,aw⟩;have am:=(aw.block p5 I).trans aj;have bj:=(aw.block H0 I).trans v;have dg:=Gt d4 (Wl aw);have d5:=Vg cu I aw;have dk:=aw.size;clear c0 c1 c2 c3 c4 c5 z0 z1 z2 z3 k0 k1 k2 k3 z cc aj v d4 cu;obtain⟨c0,c1,c2,c3,c4,c5⟩:=six am
   go_wp2_with (go_at_call 217;refine(Tryz.ends_calls W2 a ae b be p q).mono ?_)
   rintro e W3 ⟨rfl,bc⟩
   go_wp2
   clear c0 c1 c2 c3 c4 c5;have dl:=bc.size;have aa:W3.grownBy ((W3.alloc (.cells #[.int .i64 a,.int .i64 ae] 297)).alloc (.cells #[.int .i64 b,.int .i64 be] 297)) none:=⟨rfl,rfl,rfl,by simp;omega,λk hk _=>by rw[QrF _ _ _ Q3,QrF _ _ _ hk]⟩;have c8:=Ue (Ue (Vg d5 I bc) I (.cells #[.int .i64 a,.int .i64 ae] 297)) I (.cells #[.int .i64 b,.int .i64 be] 297);have bk:=(aa.block p5 I Q2).trans ((bc.block p5 I).trans am);have bl:=(aa.block H0 I Q2).trans ((bc.block H0 I).trans bj);have df:=Gt (Gt dg (Wl bc)) aa;have ab:((W3.alloc (.cells #[.int .i64 a,.int .i64 ae] 297)).alloc (.cells #[.int .i64 b,.int .i64 be] 297)).heap[W3.heap.size]? = some (.cells #[.int .i64 a,.int .i64 ae] 297 (0,0)):=by
    rw[QrF _ _ _ Q2];exact heap_alloc_new _ _
   have ac:((W3.alloc (.cells #[.int .i64 a,.int .i64 ae] 297)).alloc (.cells #[.int .i64 b,.int .i64 be] 297)).heap[W3.heap.size+1]? = some (.cells #[.int .i64 b,.int .i64 be] 297 (0,0)):=by
    have:=heap_alloc_new (W3.alloc (.cells #[.int .i64 a,.int .i64 ae] 297)) (.cells #[.int .i64 b,.int .i64 be] 297);simpa using this
   have dn:((W3.alloc (.cells #[.int .i64 a,.int .i64 ae] 297)).alloc (.cells #[.int .i64 b,.int .i64 be] 297)).heap.size=W3.heap.size+2:=by simp
   clear aa am bj dg d5;generalize ee:(W3.alloc (.cells #[.int .i64 a,.int .i64 ae] 297)).alloc (.cells #[.int .i64 b,.int .i64 be] 297)=W4 at *
   generalize e2:W3.heap.size=p6 at *
   have fb:p5<W2.heap.size:=I
   clear ee ek;have c0:W4.cell? ⟨p6,0,none⟩=some (.int .i64 a):=by rw[Qrr ab];rfl
   have c1:W4.cell? ⟨p6,1,none⟩=some (.int .i64 ae):=by rw[Qrr ab];rfl
   have d0:W4.cell? ⟨p6+1,0,none⟩=some (.int .i64 b):=by rw[Qrr ac];rfl
   have d1:W4.cell? ⟨p6+1,1,none⟩=some (.int .i64 be):=by rw[Qrr ac];rfl
   refine Code.wp_mono ?_ (Tryz.links_r8 (H0+1) (2*l2.length) p6 (p6+1) a ae b be W4 c0 c1 d0 d1 ce I cf cg ch I ci cj I I);clear c0 c1 d0 d1;rintro e act W5 h;cases e with
   |normal=>
    obtain⟨_,_,_,_,_,_,_,_,rfl,ax⟩:=h;have fi:=ax.size;have cv:=Vg c8 I ax;have bm:=(ax.block p5 I).trans bk;have bn:=(ax.block H0 I).trans bl;have b1:=Gt df (Wl ax);have an:=(ax.block p6 I).trans ab;have ao:=(ax.block (p6+1) I).trans ac;clear c8 bk bl df ab ac ax;have e3:=Qb6 (a:=a) (ae:=ae) (b:=b) (be:=be) (λh=>co (by rw[h.1,h.2]));generalize ft:(2*a+ae).toNat=ia at *
    generalize f9:(2*b+be).toNat=ib at *
    have c0:W5.cell? ⟨p6,0,none⟩=some (.int .i64 a):=by rw[Qrr an];rfl
    have c1:W5.cell? ⟨p6,1,none⟩=some (.int .i64 ae):=by rw[Qrr an];rfl
    have d0:W5.cell? ⟨p6+1,0,none⟩=some (.int .i64 b):=by rw[Qrr ao];rfl
    have d1:W5.cell? ⟨p6+1,1,none⟩=some (.int .i64 be):=by rw[Qrr ao];rfl
    dsimp only[Exit.then]
    go_wp2
    have jx:=Q6p b1 a7 hx a2;have ak:=A9 b1 a7;refine Code.wp_mono ?_ (Tryz.links_r11 (H0+1) ia p6 (p6+1) x.length b3 b2 a ae b be W5 c0 c1 d0 d1 ak (Q3s cp jx.1 jx.2));clear c0 c1 d0 d1 jx ak;rintro e act W6 h;cases e with
    |normal=>
     obtain⟨_,_,_,_,_,_,rfl,a6⟩:=h;have dp:=a6.size;have d2:=Vg cv I a6;have ap:=(a6.block p5 I).trans bm;have bo:=(a6.block H0 I).trans bn;have b4:=Gt b1 (Wl a6);clear cv bm bn b1 an ao a6;dsimp only[Exit.then]
     go_wp2
     have jx:=Q6p b4 a7 hx a2;have ak:=A9 b4 a7;refine Code.wp_mono ?_ (Tryz.links_r13 (H0+1) ia p5 x.length b3 b2 a ae b be p q W6 ap ak (Q1p ck jx.1 jx.2));clear jx ak;rintro e act W7 h;cases e with
     |normal=>
      obtain⟨_,_,_,_,_,_,rfl,a9⟩:=h;have dq:=a9.size;have c6:=Vg d2 I a9;have aq:=(a9.block p5 I).trans ap;have bp:=(a9.block H0 I).trans bo;have b6:=Gt b4 (Wl a9);clear d2 ap bo b4 a9;dsimp only[Exit.then]
      go_wp2
      have jx:=Q6p b6 b5 hy a2;have ak:=A9 b6 b5;refine Code.wp_mono ?_ (Tryz.links_r14 (H0+1) ib p5 y.length b7 b9 a ae b be p q W7 aq ak (Q1p cm jx.1 jx.2));clear jx ak;rintro e act W8 h;cases e with
      |normal=>
       obtain⟨_,_,_,_,_,_,rfl,a8⟩:=h;have dr:=a8.size;have dt:=Vg c6 I a8;have ar:=(a8.block p5 I).trans aq;have bq:=(a8.block H0 I).trans bp;have d3:=Gt b6 (Wl a8);clear c6 aq bp b6 a8;dsimp only[Exit.then]
       go_wp2
       refine Code.wp_mono ?_ (Tryz.links_r16 (H0+1) (H0+1) (2*l2.length) ia p5 b3 b2 a ae b be p q hd ll x W8 ar d3 a7 hx I I I (λe=>by have:=(a4 p5 e).2;omega));rintro e act W9 h;cases e with
       |normal=>
        obtain⟨_,_,_,_,_,_,_,_,xx,rfl,eq,bh⟩:=h;have ds:=bh.size;have eo:=Q18 dt bh I I (λc hc=>by have:=(a4 c hc).1;omega);have cx:=(bh.block p5 I I (λe=>by have:=(a4 p5 e).2;omega)).trans ar;have cy:=(bh.block H0 I I (λe=>by have:=(a4 H0 e).1;omega)).trans bq;clear dt ar bq d3 bh;have cz:(hd.set ia xx)[ib]? = some (.slice b9 y.length b7):=by rw[List.getElem?_set,QrD co];exact b5
        have br:(ll.set ia (x++[[D.int .i64 a,.int .i64 ae,.int .i64 b,.int .i64 be,.int .i64 p,.int .i64 q]]))[ib]? = some y:=by rw[List.getElem?_set,QrD co];exact hy
        dsimp only[Exit.then]
        go_wp2
        refine Code.wp_mono ?_ (Tryz.links_r17 (H0+1) (H0+1) (2*l2.length) ib p5 b7 b9 a ae b be p q _ _ y W9 cx eq cz br I I I (λe=>by have:=(bi p5 e).2;omega));rintro e act W10 h;cases e with
        |normal=>
         obtain⟨_,_,_,_,_,_,_,_,yy,rfl,dx,cn⟩:=h;have dy:=Q18 eo cn I I (λc hc=>by have:=(bi c hc).1;omega);have da:=(cn.block H0 I I (λe=>by have:=(bi H0 e).1;omega)).trans cy;have ca:=Q8R (Q8R a2 hx (by rfl)) br (row:=[D.int .i64 a,.int .i64 ae,.int .i64 b,.int .i64 be,.int .i64 p,.int .i64 q]) (by rfl)
         go_wp2
         refine⟨⟨j+1,_,_,I,by rw[Int.natCast_add];rfl,dx,by simpa using cw,cr,ca,da,dy⟩,?_⟩;simp only[intOf];omega
        |_=>exact h.elim
       |_=>exact h.elim
      |_=>exact h.elim
     |_=>exact h.elim
    |_=>exact h.elim
   |_=>exact h.elim
  ·go_wp2
   refine bodyPost_ret (results_tmp rfl _ _ _) rfl ?_;rw[<- em]at hF;exact⟨rfl,hF⟩
theorem Qk4{S:Nat->Prop}{w:World}{xs:Y D}:∀{vs:Y Value},vs.length=xs.length->(∀(i:Nat) (v:Value) (x:D),vs[i]? = some v->xs[i]? = some x->Rd S w v x)->RdLs S w vs xs:=by
 induction xs with
 |nil=>intro vs h _;have:vs=[]:=List.eq_nil_of_length_eq_zero h;subst this;exact .nil
 |cons x xs ih=>
  intro vs h hr
  match vs,h with
  |v::vs,h=>exact .cons (hr 0 v x rfl rfl) (ih (by simpa using h) λi u y a h2=>hr (i+1) u y (by simpa using a) (by simpa using h2))
theorem Q5l{β:Nat->oP Nat}{S:Nat->Prop}{h:Nat->oP Ob}{w:World}{tm:Nat->Value}{v:Value}{xs:Y D}(hv:RdA β S h w tm v (.ag (xs.map .d))):∃vs:Y Value,v = .agg vs.toArray/\RdLs S w vs xs:=by
 cases hv with
 |ag cs l hl hr=>
  obtain⟨vs⟩:=cs;refine⟨vs,rfl,Qk4 (by simpa using hl) λi u x a h2=>?_⟩;have:=hr i (.d x) (by simp[h2]);simp[Array.getD,(Qrt.1 a).1]at this;rw[(Qrt.1 a).2]at this;cases this with
  |d _ _ q=>exact q
  |dang _ _ _ hl=>cases hl
 |dang v av l hl=>cases hl
theorem Qbu{β:Nat->oP Nat}{S:Nat->Prop}{h:Nat->oP Ob}{w:World}{args:Y Value}{a:AV}(hA:ArgsRd β S h w args [a]):∃v,args=[v]/\RdA β S h w tm0 v a:=Q8c hA
theorem Qbz{β:Nat->oP Nat}{S:Nat->Prop}{h:Nat->oP Ob}{w:World}{args:Y Value}{a b:AV}(hA:ArgsRd β S h w args [a,b]):∃v u,args=[v,u]/\RdA β S h w tm0 v a/\RdA β S h w tm0 u b:=by
 obtain⟨c,h2⟩:=hA
 match args,c with
 |[v,u],_=>exact⟨v,u,rfl,h2 0 v a rfl rfl,h2 1 u b rfl rfl⟩
theorem Q30(n:Nat)(l0 l1 l2 a:LL)(res:Int){hl:Nat->oP Ob}(h:ZA n l0 l1 l2 a some=some res):ZW Tryz.prog 161 [.ag [.d (D.sl 1 l0),.d (D.sl 1 l1),.d (D.sl 5 l2),.d (D.sl 6 a)]] hl ⟨.d (D.int .i64 res),[],[]⟩:=by
 obtain⟨ac,h⟩:=Xm h;injection h with h
 subst h;refine Lr (fn:=Tryz.f161) (by kernel_rfl) (by kernel_rfl) (by kernel_rfl) rfl rfl λS w args hS hA=>?_
 obtain⟨v,rfl,hv⟩:=Qbu hA;obtain⟨vs,rfl,hr⟩:=Q5l (xs:=[D.sl 1 l0,.sl 1 l1,.sl 5 l2,.sl 6 a]) hv;cases hr with
 |cons c t=>
  cases t with
  |cons d t=>
   cases t with
   |cons h2 t=>
    cases t with
    |cons f t=>
     cases t;have aa:=ac;simp only[PA,Qry,Bool.not_eq_true']at aa;obtain⟨⟨⟨⟨⟨⟨⟨⟨l,m⟩,g⟩,i⟩,o⟩,n0⟩,n1⟩,ns⟩,nl⟩:=aa;refine(Tryz.layout_calls S w hS l0 l1 l2 a _ _ _ _ c d h2 f ac λw' ai k0 k1 j k=>Tryz.links_calls S w' ai l0 l1 l2 a _ _ _ _ k0 k1 j k (Qru g) (Qru i) nl).mono λe w' ⟨he,hB⟩=>?_
     exact⟨_,S,he,λb h=>h,λb h=>.inl h,λb h=>Qrv (hS b h) hB.size,.d _ _ (.int _ _),hB⟩
end Go.Vx
namespace Go.Proofs
open Go.RowKit
theorem Q0E{P:Program}{w:World}(a:Addr)(m:Mode)(f:Fn)(x y:Array Value):(store a (.func f x y) m).run P w=stored P w a (.func f x y) m:=run_store P w a _ m rfl
attribute [local go_sem] Q0E
def KY(r:Nat->Int):Nat->Nat->Int
 |0,_=>0
 |n+1,k=>if r k=0 then KY r n (k+1)else r k
theorem SM(r:Nat->Int):∀(n k m:Nat),(∀j,k<=j->j<k+m->r j=0)->KY r (m+n) k=KY r n (k+m)
 |n,k,0,_=>by simp
 |n,k,m+1,h=>by
  rw[show m+1+n=(m+n)+1 by omega];simp only[KY];rw[if_pos (h k (QrL _) I),SM r n (k+1) m (λj a h2=>h j I I)];rw[show k+1+m=k+(m+1) by omega]
theorem Below.of{n:Nat}{w w':World}(a:w'.os=w.os)(h2:w'.tape=w.tape)(c:w'.output=w.output)(d:w.heap.size<=w'.heap.size)(h5:∀b,b<n->w'.heap[b]? = w.heap[b]?):Below n w w':=by
 exact⟨a,h2,c,d,h5⟩
set_option maxHeartbeats 4000000 in
set_option maxRecDepth 100000 in
theorem Tryz.plancheck_calls(w:World)(a0 a1 a2 d p0 p1 p2 p3 p4 p5 p6 p7:Value)(r:Nat->Int)(h:∀k:Nat,k<8->∀w':World,w.heap.size<=w'.heap.size->(∀b,b<w.heap.size->w'.heap[b]? = w.heap[b]?) ->
   Calls Tryz.prog (119+k) #[.agg #[a0,a1,a2,d],.agg #[p0,p1,p2,p3,p4,p5,p6,p7]] w' λe ao=>e = .returned (.int .i64 (r k))/\Below w'.heap.size w' ao)(c:∀x∈[a0,a1,a2,d,p0,p1,p2,p3,p4,p5,p6,p7],x.oneCell'=true) :
  Calls Tryz.prog 78 #[.agg #[a0,a1,a2,d],.agg #[p0,p1,p2,p3,p4,p5,p6,p7]] w λe w'=>e = .returned (.int .i64 (KY r 8 0))/\Below w.heap.size w w':=by
 go_enter Tryz.func78,Tryz.ntmps78
 go_wp2
 go_loopw [11] (λi wr=>∃k:Nat,k<=8/\i = .int .i64 k/\(∀j,j<k->r j=0)/\wr.heap[w.heap.size]? = some (.cells #[a0,a1,a2,d] 27 (0,0))/\wr.heap[w.heap.size+1]? = some (.cells #[p0,p1,p2,p3,p4,p5,p6,p7] 36 (0,0))/\Below w.heap.size w wr)
  (λi _=>8-(intOf i).toNat)
 case atStart=>
  refine⟨0,I,rfl,λj hj=>absurd hj I,?_,?_,?_⟩
  ·rw[QrF _ _ _ Q3,QrF _ _ _ Q2];exact heap_alloc_new w _
  ·rw[QrF _ _ _ Q2,show w.heap.size+1=(w.alloc (.cells #[a0,a1,a2,d] 27)).heap.size by simp];exact heap_alloc_new _ _
  ·refine Below.of rfl rfl rfl Q3 λb hb=>?_
   rw[QrF _ _ _ Q3,QrF _ _ _ Q3,QrF _ _ _ hb]
 case round=>
  obtain⟨k,hk,rfl,hz,f,a,hB⟩:=hrel;by_cases ak:k<8
  ·have aw:((k:Int)<8):=I
   have c0:wr.cell? ⟨w.heap.size,0,none⟩=some a0:=by rw[Qrr f];rfl
   have c1:wr.cell? ⟨w.heap.size,1,none⟩=some a1:=by rw[Qrr f];rfl
   have g:wr.cell? ⟨w.heap.size,2,none⟩=some a2:=by rw[Qrr f];rfl
   have c3:wr.cell? ⟨w.heap.size,3,none⟩=some d:=by rw[Qrr f];rfl
   have d0:wr.cell? ⟨w.heap.size+1,0,none⟩=some p0:=by rw[Qrr a];rfl
   have d1:wr.cell? ⟨w.heap.size+1,1,none⟩=some p1:=by rw[Qrr a];rfl
   have l:wr.cell? ⟨w.heap.size+1,2,none⟩=some p2:=by rw[Qrr a];rfl
   have m:wr.cell? ⟨w.heap.size+1,3,none⟩=some p3:=by rw[Qrr a];rfl
   have n:wr.cell? ⟨w.heap.size+1,4,none⟩=some p4:=by rw[Qrr a];rfl
   have o:wr.cell? ⟨w.heap.size+1,5,none⟩=some p5:=by rw[Qrr a];rfl
   have p:wr.cell? ⟨w.heap.size+1,6,none⟩=some p6:=by rw[Qrr a];rfl
   have q:wr.cell? ⟨w.heap.size+1,7,none⟩=some p7:=by rw[Qrr a];rfl
   have hw:wrap64 ((k:Int)+1)=((k+1:Nat):Int):=by unfold wrap64;omega
   have au:∀w:World,(Instr.index 221 (.agg #[.func (.func 119) #[] #[],.func (.func 120) #[] #[],.func (.func 121) #[] #[],.func (.func 122) #[] #[],.func (.func 123) #[] #[],.func (.func 124) #[] #[],.func (.func 125) #[] #[],.func (.func 126) #[] #[]]) (.int .i64 k)).run Tryz.prog w = .ok (.func (.func (119+k)) #[] #[]) w:=by
    intro w;obtain rfl | rfl | rfl | rfl | rfl | rfl | rfl | rfl:k=0\/k=1\/k=2\/k=3\/k=4\/k=5\/k=6\/k=7:=I
    all_goals rfl
   have ax:∀(w:World) (ar:Array Value),(callFunc (119+k) ar).run Tryz.prog w = .ok (.enter (119+k) ar) w:=by
    intro w ar;obtain rfl | rfl | rfl | rfl | rfl | rfl | rfl | rfl:k=0\/k=1\/k=2\/k=3\/k=4\/k=5\/k=6\/k=7:=I
    all_goals rfl
   have hc:=h k ak wr hB.size hB.block;clear hw
   go_wp2
   refine hc.mono ?_;rintro e w2 ⟨rfl,aa⟩;have aj:Below w.heap.size w w2:=hB.trans ⟨aa.os,aa.tape,aa.output,aa.size,λb hb=>aa.block b (Qrv hb hB.size)⟩;have l0:=(Qrw.1 f).1;have l1:=(Qrw.1 a).1;by_cases hr:r k=0
   ·rw[hr]
    go_wp2
    go_roundw
    case rel=>
     refine⟨k+1,I,rfl,λj hj=>?_,(aa.block _ l0).trans f,(aa.block _ l1).trans a,aj⟩;by_cases e:j=k
     ·rw[e];exact hr
     ·exact hz j I
    case measure=>simp[intOf];omega
   ·have ac:KY r 8 0=r k:=by
     have e:=SM r (8-k) 0 k λj _ h2=>hz j I
     rw[show k+(8-k)=8 by omega]at e;rw[e,show 8-k=(7-k)+1 by omega,QrK];simp[KY,hr]
    go_wp2
    refine bodyPost_ret (results_tmp rfl _ _ _) rfl ?_;exact⟨by rw[ac];rfl,aj⟩
  ·have ac:KY r 8 0=0:=by
    have e:=SM r 0 0 8 λj _ h2=>hz j I
    exact e
   go_wp2
   refine bodyPost_ret (results_tmp rfl _ _ _) rfl ?_;exact⟨by rw[ac];rfl,hB⟩
end Go.Proofs
namespace Go.Vx
open Go.Proofs
variable(n:Nat)
def Jw(n:Nat):PJ:=λ_ _ g aa _ k=>match aa with
|[c0]=>
  prG c0 λl0=>(match l0 with
  |[a,b,c,d]=>prS g 1 a λe=>prS g 1 b λf=>prS g 5 c λh=>prS g 6 d λi=>
  gb g (ZA n e f h i some) 0 λr=>k ⟨.d (D.int .i64 r),[],[]⟩
  |_=>none)
|_=>none
theorem Tq(n:Nat):VH Tryz.prog 161 (Jw n):=by
  intro R ac g ai hl k r h
  unfold Jw at h
  split at h
  rotate_left
  · cases h
  replace h:=Q2D h
  obtain⟨l0,h,e⟩:=h
  subst e
  split at h
  rotate_left
  · cases h
  replace h:=Ul h
  obtain⟨a,h,f⟩:=h
  replace h:=Ul h
  obtain⟨b,h,i⟩:=h
  replace h:=Ul h
  obtain⟨c,h,j⟩:=h
  replace h:=Ul h
  obtain⟨d,h,l⟩:=h
  replace h:=Qy h
  obtain⟨res,h,hr⟩:=h
  exact⟨_,h,λhg=>ZW.conv (avs':=[.ag [.d (D.sl 1 a),.d (D.sl 1 b),.d (D.sl 5 c),.d (D.sl 6 d)]]) (.cons (.ag (.cons (f hg) (.cons (i hg) (.cons (j hg) (.cons (l hg) .nil))))) .nil) (Q30 n a b c d res (hr hg))⟩
end Go.Vx
set_option maxRecDepth 100000
namespace Go.Vx
open Go.Proofs
variable(n:Nat)
def Pl:BZ9:=Xa [⟨161,⟨Jw n,Tq n⟩⟩] []
def FC:LZ9:=mkU (Pl n).ok nT 12 Tryz.f119 [Qmy,(41,.l 4),(42,tI),(43,tI)] [Qnl] 22 [.f .ret [(4,.ci .i64 7)] [] [],xE 1 [(44,.b)]] @ZM n
def PV:EZ9 119:=mkD (Pl n).ok [FC n n] 119 Tryz.f119 0 @UP n
def GK:BZ9:=Xa [⟨161,⟨Jw n,Tq n⟩⟩,⟨221,Q0F n⟩,⟨222,Eg n⟩] [(24,⟨[],[],[(11,1011,3,1)],[],[]⟩)]
def BX:LZ9:=mkU (GK n).ok nT 10 Tryz.f194 [Qmx,Qmy,(40,.l 2),(41,tI),(42,tI)] QoS 1102 [.f .ret [(4,.nil),(5,.ci .i64 4)] [] [],xE 1 [(43,.b)]] @WQ n
def AH:LZ9:=mkU (GK n).ok nT 17 Tryz.f194 [Qmx,Qmy,(8,.arr 54),(56,.l 2),(57,tI),(58,tI)] [Qn6,QoT,(54,.arr 4 1)] 39388 [.f .ret [(4,.nil),(5,.ci .i64 5)] [] [],xE 3 [(59,.b)]] @Gq n
def A0:LZ9:=mkU (GK n).ok nT 25 Tryz.f194 [Qmx,Qmy,(11,.arr 1011),(74,.l 2),(75,tI),(76,tI)] [Qn6,QoT,(1011,.arr 3 1)] 42655 [.f .ret [(4,.nil),(5,.ci .i64 11)] [] [],xE 5 [(77,.b)]] @WG n
def Q0v:EZ9 194:=mkD (GK n).ok [BX n n,AH n n,A0 n n] 194 Tryz.f194 0 @Hn n
def Fp:EZ9 166:=mkD (Xa [⟨194,Q0v n⟩] []).ok nT 166 Tryz.f166 0 @TP n
def TN:BZ9:=Xa [⟨166,Fp n⟩] []
def LW:LZ9:=mkU (TN n).ok nT 2 Tryz.f121 [Qmx,(9,.l 2),QmV,Qmc] [Qn6] 1102 [.f .ret [(4,tI)] [] [0],xE 0 [(12,.b)]] @Z5 n
def Pg:EZ9 121:=mkD (TN n).ok [LW n n] 121 Tryz.f121 0 @U3 n
end Go.Vx
namespace Go.Vx
open Go.Proofs Go.RowKit
section
variable{P:Program}
theorem Q1E(w:World)(dT sT ty aa:TypeId)(g o ac ak k:Nat)(a:Addr)(aj an:Nat)(ai:Array Value)(t:TypeId)(cs:Y Value)(hu:P.underlying dT=some (.slice aa))(hs:(P.info? aa).map (·.size)=some k)(hg:w.heap[g]? = some (.cells ai t (0,0)))(hn:cs.length=Nat.min aj ac*k)(ao:∀j v,cs[j]? = some v->w.cell? (a.add j)=some v)(am:o+cs.length<=ai.size)(b:∀v∈cs,v.oneCell'=true) :
  (Builtin.copy_ #[dT,sT] ty #[.slice (some ⟨g,o,none⟩) ac ak,.slice (some a) aj an]).run P w =
   .ok (goInt (Nat.min aj ac)) (w.setRow g (ai.toList.take o++cs++ai.toList.drop (o+cs.length)).toArray):=by
 have hl:=run_loadCells_list (P:=P) w a cs ao;have hst:=run_storeCells_at P g o t cs 0 ai w hg (by simpa using am) b;cases hq:P.info? aa with
 |none=>simp[hq]at hs
 |some i=>
  have hi:i.size=k:=by simpa[hq]using hs
  simp[Builtin.copy_,run_underlying hu,Builtin.lenOf,Builtin.firstCells,sizeOf,typeInfo,hq,hi,<- hn,hl,hst]
theorem Q4K(w:World)(dT sT ty aa:TypeId)(g o ac ak k:Nat)(a:Addr)(ai am:Nat)(aj:Array Value)(t:TypeId)(cs:Y Value)(m:Nat)(hu:P.underlying dT=some (.slice aa))(hs:(P.info? aa).map (·.size)=some k)(hg:w.heap[g]? = some (.cells aj t (0,0)))(hm:Nat.min ai ac=m)(hn:cs.length=m*k)(ao:∀j v,cs[j]? = some v->w.cell? (a.add j)=some v)(an:o+cs.length<=aj.size)(c:∀v∈cs,v.oneCell'=true) :
  ∃w',(Builtin.copy_ #[dT,sT] ty #[.slice (some ⟨g,o,none⟩) ac ak,.slice (some a) ai am]).run P w = .ok (.int .i64 (m:Int)) w' /\
   w'.heap[g]? = some (.cells (splice aj.toList o cs).toArray t (0,0))/\(∀n,n<=g->∀w0:World,Below n w0 w->Below n w0 w'):=by
 subst hm;refine⟨_,Q1E w dT sT ty aa g o ac ak k a ai am aj t cs hu hs hg hn ao an c,by simpa[splice]using setRow_heap w g _ _ t _ hg,λn hn w0 h=>⟨h.os,h.tape,h.output,by simpa[World.setRow]using h.size,λb hb=>(setRow_other w g b _ I).trans (h.block b hb)⟩⟩
theorem Q0f{w:World}{ops:Array Oper}{o:Oper}{a:Act}{K:Act->World->Prop}{Q:Exit->Act->World->Prop}{E:Prop}(au:o.guard=none)(d s:Operand)(dT sT:TypeId)(ho:o.op = .call { callee:=.builtin .copy,args:=#[d,s],argTypes:=#[dT,sT] })(aa:TypeId)(k:Nat)(hu:P.underlying dT=some (.slice aa))(aw:(P.info? aa).map (·.size)=some k)(g off ac ak:Nat)(ad:Addr)(ai am:Nat)(hd:a.eval d = .slice (some ⟨g,off,none⟩) ac ak)(hs:a.eval s = .slice (some ad) ai am)(aj:Array Value)(t:TypeId)(hg:w.heap[g]? = some (.cells aj t (0,0)))(cs:Y Value)(m:Nat)(hm:Nat.min ai ac=m)(hn:cs.length=m*k)(ar:∀j v,cs[j]? = some v->w.cell? (ad.add j)=some v)(an:off+cs.length<=aj.size)(b:∀v∈cs,v.oneCell'=true)(h:∀w',w'.heap[g]? = some (.cells (splice aj.toList off cs).toArray t (0,0))->(∀n,n<=g->∀w0:World,Below n w0 w->Below n w0 w')->K (a.put o.dst (.int .i64 (m:Int))) w') :
  if Region.wanted o (yielded ops a.tmps)=true then Oper.wp P o a w K Q else E:=by
 have hw:Region.wanted o (yielded ops a.tmps)=true:=by simp[Region.wanted,au]
 rw[if_pos hw];obtain⟨w',ao,h2,c⟩:=Q4K (P:=P) w dT sT o.type aa g off ac ak k ad ai am aj t cs m hu aw hg hm hn ar an b;unfold Oper.wp;simp[execOp,ho,resolve,invoke,builtin,hd,hs,ao,Result.andThen];exact h w' h2 c
end
def MX(a b:Value):Nat->Y Value
 |0=>[]
 |m+1=>a::b::MX a b m
theorem UO(a b:Value):∀m,(MX a b m).length=m*2
 |0=>rfl
 |m+1=>by simp[MX,UO a b m];omega
theorem Q1Z(a b:Value)(k:Nat):∀m,MX a b (m+k)=MX a b m++MX a b k
 |0=>by simp[MX]
 |m+1=>by rw[show m+1+k=(m+k)+1 by omega];simp[MX,Q1Z a b k m]
theorem Q9Z(a b:Value){m k:Nat}(h:m<=k):(MX a b k).take (m*2)=MX a b m:=by
 obtain⟨d,rfl⟩:=Nat.exists_eq_add_of_le h;rw[Q1Z,List.take_append_of_le_length (by rw[UO];omega),QrH (by rw[UO];omega)]
theorem Q1K{a b:Value}:∀{m:Nat} {v:Value},v∈MX a b m->v=a\/v=b
 |m+1,v,h=>by
  simp only[MX,QrO]at h;rcases h with h | h | h
  ·exact .inl h
  ·exact .inr h
  ·exact Q1K h
theorem Qaz(a b:Value):∀(m i:Nat),i<m->(MX a b m)[i*2]? = some a/\(MX a b m)[i*2+1]? = some b
 |m+1,0,h=>by simp[MX]
 |m+1,i+1,h=>by
  have:=Qaz a b m i I;rw[show(i+1)*2=i*2+1+1 by omega];simpa[MX]using this
theorem mul_one(c:Nat)(hc:c<=100000):Te 0 1 (c:Int) (λa b=>some (a,b))=some (0,(c:Int)):=by
 have d:shR .u64 1 (32:Int)=0:=by decide
 have h2:shR .u64 (c:Int) (32:Int)=0:=by
  show(c:Int).fdiv (2 ^ (min (32:Int).toNat IntKind.u64.bits))=0;rw[show(min (32:Int).toNat IntKind.u64.bits)=32 from rfl,Int.fdiv_eq_ediv_of_nonneg _ Q1];omega
 have e:Q7f .u64 1 (4294967295:Int)=1:=by decide
 have f:Q7f .u64 (c:Int) (4294967295:Int)=(c:Int):=by
  unfold Q7f;rw[BitVec.toNat_and,IntKind.wrap_u64];have e1:(BitVec.ofInt IntKind.u64.bits (c:Int)).toNat=c:=by
   rw[BitVec.toNat_ofInt];show((c:Int) % ((2 ^ 64:Nat):Int)).toNat=c;omega
  have e2:(BitVec.ofInt IntKind.u64.bits (4294967295:Int)).toNat=2 ^ 32-1:=by decide
  rw[e1,e2,Nat.and_two_pow_sub_one_eq_mod];omega
 have w0:IntKind.u64.wrap 0=0:=by decide
 have wc:IntKind.u64.wrap (c:Int)=(c:Int):=by rw[IntKind.wrap_u64];omega
 have s0:shR .u64 0 (32:Int)=0:=by decide
 have a0:Q7f .u64 0 (4294967295:Int)=0:=by decide
 simp only[Te,TB,cond_false,Ac,d,h2,e,f,gb,Int.zero_mul,Int.one_mul,Int.mul_zero,Int.add_zero,w0,wc,s0,a0];rfl
theorem Q62{β:Nat->oP Nat}{S:Nat->Prop}{h:Nat->oP Ob}{w:World}{tm:Nat->Value}{v:Value}{k:IntKind}{n:Int}(h:RdA β S h w tm v (.d (.int k n))):v = .int k n:=by
 cases h with
 |d _ _ q=>exact RW q
 |dang _ _ _ hl=>cases hl
theorem Q9y(c:Nat)(hc:c<=100000)(w:World):Calls Tryz.prog 245 #[.int .u64 1,.int .u64 (c:Int)] w λe w'=>e = .returned (.tuple #[.int .u64 0,.int .u64 c])/\RowKit.Below w.heap.size w w':=by
 have he:(NI 0).E Dl 0 true [.d (.int .u64 1),.d (.int .u64 (c:Int))] (λ_=>none) some=some ⟨.tup [.d (D.int .u64 0),.d (D.int .u64 (c:Int))],[],[]⟩:=by
  show gb true (Te 0 1 (c:Int) (λf g=>some (f,g))) (0,0) (λr=>(some ⟨.tup [.d (D.int .u64 r.1),.d (D.int .u64 r.2)],[],[]⟩:oP Dl))=_;rw[mul_one c hc];rfl
 refine(Bk (S:=λ_=>False) (Ym ((NI 0).ok) he) (λ_ h=>h.elim) (HE (.d _ _ (.int _ _)) (.d _ _ (.int _ _)))).mono λe w' ⟨v,S',i,h2,j⟩=>⟨?_,j⟩
 rw[i];cases h2 with
 |tup cs l hl hr=>
  have d:=Q62 (hr 0 _ rfl);have q1:=Q62 (hr 1 _ rfl);obtain⟨l⟩:=cs
  match l,hl with
  |[a,b],_=>
   simp at d q1;rw[d,q1]
 |dang v av l hl=>cases hl
def Qey:Code:=(Gw (Tryz.f237.body.getD .skip)).getD 9 .skip
set_option maxHeartbeats 8000000 in
set_option maxRecDepth 100000 in
theorem Tryz.repeat_r9(d f g i l o p q r s t u x y z aa ab ac ad ae ag ah ai aj ak al am an ao ap aq ar au av aw ax az ba bb bc bd be bg bh bi ay a b:Value)(H c m k:Nat)(cu:Array Value)(w:World)(bj:m<c)(b9:(m:Int)<(c:Int))(hk:Nat.min m (c-m)=k)(a3:w.heap[H]? = some (.cells cu 269 (0,0)))(h0:(0:Int)<=(m:Int))(cn:(m:Int)<=(c:Int))(a7:∀(j:Nat) (v:Value),(MX a b k)[j]? = some v->w.drew.cell? ((⟨H,0,none⟩:Addr).add j)=some v)(a6:m*2+(MX a b k).length<=cu.size)(a5:∀v∈MX a b k,v.oneCell'=true)(cp:IntKind.i64.wrap ((m:Int)+(k:Int))=((m+k:Nat):Int)) :
  Code.wp Tryz.prog Qey (Q6U λact w'=>∃(bk bl bm bn bo bp bq br bt:Value),act=⟨(d::f::g::i::l::o::p::.slice (some ⟨H,0,none⟩) c c::.int .i64 ((m:Int)+(k:Int))::q::r::s::t::u::x::y::z::aa::ab::ac::ad::ae::ag::ah::ai::aj::ak::al::am::an::ao::ap::aq::ar::au::av::aw::ax::bk::bl::bm::bn::bo::bp::bq::br::bt::ay::[]).toArray,[]⟩/\w'.heap[H]? = some (.cells (splice cu.toList (m*2) (MX a b k)).toArray 269 (0,0))/\(∀n,n<=H->∀w0:World,Below n w0 w->Below n w0 w')) ⟨(d::f::g::i::l::o::p::.slice (some ⟨H,0,none⟩) c c::.int .i64 (m:Int)::q::r::s::t::u::x::y::z::aa::ab::ac::ad::ae::ag::ah::ai::aj::ak::al::am::an::ao::ap::aq::ar::au::av::aw::ax::az::ba::bb::bc::bd::be::bg::bh::bi::ay::[]).toArray,[]⟩ w:=by
 conv=>arg 2;whnf
 have mixed:Tryz.prog.follows .mixedOrders=true:=by kernel_rfl
 have a8:(Tryz.prog.info? 269).map (·.size)=some 2:=by kernel_rfl
 have bz:c=m->0=m*2:=λe=>absurd e (Nat.ne_of_gt bj)
 have a2:w.drew.heap[H]? = some (.cells cu 269 (0,0)):=a3
 go_region_law (first
  |(refine Q0f (by rfl) _ _ 233 233 (by rfl) 269 2 Tryz.underlying233 a8 H (m*2) (c-m) (c-m) ⟨H,0,none⟩ m c (by go_simp;exact bz) (by go_simp) cu 269 a2 (MX a b k) k hk (UO _ _ _) a7 a6 a5 ?_;intro w3 a9 bv))
 all_goals
  dsimp only[Q6U];exact⟨_,_,_,_,_,_,_,_,_,rfl,a9,λn hn w0 h=>bv n hn w0 (h.trans ⟨rfl,rfl,rfl,QrL _,λ_ _=>rfl⟩)⟩
theorem Q7X{a b:Value}{m k:Nat}{L:Y Value}(aa:L.take (m*2)=MX a b m):(splice L (m*2) (MX a b k)).take ((m+k)*2)=MX a b (m+k):=by
 simp only[splice];rw[aa,List.take_append,QrH (by rw[UO];omega),UO,List.take_append_of_le_length (by rw[UO];omega),QrH (by rw[UO];omega),Q1Z]
theorem QfX{m k c:Nat}(h:m+k<=c)(hk:0<k):c-(intOf (.int .i64 ((m:Int)+(k:Int)))).toNat<c-(intOf (.int .i64 (m:Int))).toNat:=by
 simp only[intOf];omega
set_option maxHeartbeats 4000000 in
set_option maxRecDepth 100000 in
theorem Tryz.repeat_calls(w:World)(ad:Addr)(cap c:Nat)(b d:Value)(hc:c<=100000)(p:w.cell? (ad.add 0)=some b)(s:w.cell? (ad.add 1)=some d)(o0:b.oneCell'=true)(o1:d.oneCell'=true) :
  Calls Tryz.prog 237 #[.slice (some ad) 1 cap,.int .i64 (c:Int)] w λe w'=>∃(H:Nat) (ac:Array Value),e = .returned (.slice (some ⟨H,0,none⟩) c c)/\w.heap.size<=H/\w'.heap[H]? = some (.cells ac 269 (0,0))/\ac.size=c*2/\ac.toList=MX b d c/\Below w.heap.size w w':=by
 obtain⟨t,hi,u⟩:=Qrz.1 (show(Tryz.prog.info? 269).map (λi=>(i.zero.isSome,i.size,i.bytes))=some (true,2,16) by kernel_rfl);obtain⟨hz,l⟩:=Prod.mk.inj u;obtain⟨l,x⟩:=Prod.mk.inj l;obtain⟨z,hz⟩:=Option.isSome_iff_exists.1 hz;have aw:∀w:World,∃ac:Array Value,ac.size=c*2/\(Instr.makeSlice 233 (.int .i64 (c:Int)) (.int .i64 (c:Int))).run Tryz.prog w = .ok (.slice (some ⟨w.heap.size,0,none⟩) c c) (w.alloc (.cells ac 269)):=by
  intro w;refine⟨madeCells z.cells (c*2),size_madeCells _ _,?_⟩;have:=run_make (P:=Tryz.prog) w 233 269 t z Tryz.underlying233 hi hz .i64 .i64 (c:Int) (c:Int) I I (by rw[x];omega) I;rw[l]at this;exact this
 have a4:(Tryz.prog.info? 269).map (·.size)=some 2:=by rw[hi];simp[l]
 have br:IntKind.u64.wrap (c:Int)=(c:Int):=by rw[IntKind.wrap_u64];omega
 have bn:IntKind.i64.wrap (c:Int)=(c:Int):=by rw[IntKind.wrap_i64];omega
 have g0:(0:Int)<=(c:Int):=I
 have g1:¬ (9223372036854775807:Int)<(c:Int):=I
 go_enter Tryz.func237,Tryz.ntmps237
 go_wp2_with (go_at_call 245;refine(Q9y c hc _).mono ?_)
 rintro e g rfl hB;obtain⟨ac,ba,a6⟩:=aw g;clear aw;have ao:=Ue hB (QrL _) (.cells ac 269);have az:∀a:Addr,a.block<w.heap.size->(g.alloc (.cells ac 269)).cell? a=w.cell? a:=λa ha=>Gy (ao.block _ ha)
 have bv:=λ(j:Nat)=>Jv ad j
 have a8:ad.block<w.heap.size:=by have:=QrN w _ p;rwa [Jv]at this
 have hH:(g.alloc (.cells ac 269)).heap[g.heap.size]? = some (.cells ac 269 (0,0)):=heap_alloc_new g _;obtain⟨f,q⟩:∃f,Nat.min 1 c=f:=⟨_,rfl⟩;have r:f<=1/\f<=c/\(0<c->0<f):=by rw[<- q];simp only[Nat.min_def];split<;>omega
 obtain⟨w2,ax,bc,bj⟩:=Q4K (P:=Tryz.prog) (g.alloc (.cells ac 269)) 233 233 3 269 g.heap.size 0 c c 2 ad 1 cap ac 269 (MX b d f) f Tryz.underlying233 a4 hH q (UO _ _ _)
  (λj v hj=>by
   have n:=(Qrt.1 hj).1;rw[UO]at n;rw[az _ (by rw[Jv];exact a8)];have hm:f=1:=I
   subst hm;obtain rfl | rfl:j=0\/j=1:=I
   ·simp[MX]at hj;rw[<- hj];exact p
   ·simp[MX]at hj;rw[<- hj];exact s)
  (by rw[UO];omega) (λv hv=>by rcases Q1K hv with rfl | rfl<;>assumption)
 have a9:=bj w.heap.size hB.size w ao;have ar:=hB.size;generalize bl:g.heap.size=H at *
 go_wp2
 go_loopw [8] (λi wr=>∃(m:Nat) (cu:Array Value),i = .int .i64 (m:Int)/\m<=c/\(0<c->0<m)/\wr.heap[H]? = some (.cells cu 269 (0,0))/\cu.size=c*2/\cu.toList.take (m*2)=MX b d m/\Below w.heap.size w wr)
  (λi _=>c-(intOf i).toNat)
 case atStart=>
  refine⟨f,_,rfl,r.2.1,r.2.2,bc,?_,?_,a9⟩
  ·simp only[List.size_toArray];rw[length_splice _ _ _ (by rw[UO];simp;omega)];simpa using ba
  ·simp only[splice,List.take_zero,List.nil_append];rw[List.take_append_of_le_length (by rw[UO];exact QrL _),QrH (by rw[UO];exact QrL _)]
 case round=>
  obtain⟨m,cu,rfl,bp,bi,ai,am,an,hF⟩:=hrel;clear a6 ax;by_cases y:m<c
  ·have ay:((m:Int)<(c:Int)):=I
   have hp:0<m:=bi I;obtain⟨k,hk⟩:∃k,Nat.min m (c-m)=k:=⟨_,rfl⟩;have o:k<=m/\m+k<=c/\0<k:=by rw[<- hk];simp only[Nat.min_def];split<;>omega
   have e1:(if c=m then(some ⟨H,0,none⟩:oP Addr)else(some (⟨H,0,none⟩:Addr)).map (·.add (m*2)))=some ⟨H,m*2,none⟩:=by
    rw[QrD I];simp[Jy]
   have a2:∀(j:Nat) (v:Value),(MX b d k)[j]? = some v->wr.drew.cell? ((⟨H,0,none⟩:Addr).add j)=some v:=by
    intro j v hj;have n:=(Qrt.1 hj).1;rw[UO]at n;rw[Jy,QrK];show wr.cell? _=_;rw[cell_of_row wr H j cu 269 (0,0) ai,<- QrE];have e:(cu.toList.take (m*2))[j]? = some v:=by
     rw[an];have e2:=Q9Z b d o.1;rw[<- e2,QrI,if_pos n]at hj;exact hj
    rw[QrI]at e;split at e
    ·exact e
    ·cases e
   have ak:m*2+(MX b d k).length<=cu.size:=by rw[UO];omega
   have au:∀v∈MX b d k,v.oneCell'=true:=λv hv=>by rcases Q1K hv with rfl | rfl<;>assumption
   have a3:wr.drew.heap[H]? = some (.cells cu 269 (0,0)):=ai;have bh:IntKind.i64.wrap ((m:Int)+(k:Int))=((m+k:Nat):Int):=by rw[IntKind.wrap_i64];omega
   go_wp2
   refine Code.wp_mono ?_ (Tryz.repeat_r9 _ _ _ _ _ _ _ _ _ _ _ _ _ _ _ _ _ _ _ _ _ _ _ _ _ _ _ _ _ _ _ _ _ _ _ _ _ _ _ _ _ _ _ _ _ _ b d H c m k cu wr y ay hk ai I I a2 ak au bh);rintro e act w3 h;cases e with
   |normal=>
    obtain⟨_,_,_,_,_,_,_,_,_,rfl,a7,bg⟩:=h
    go_wp2
    refine⟨⟨m+k,_,by rw[Int.natCast_add],o.2.1,λ_=>Qrv hp (Nat.le_add_right m k),a7,?_,?_,bg _ ar w hF⟩,?_⟩
    ·simp only[List.size_toArray];rw[length_splice _ _ _ (by simpa using ak)];simpa using am
    ·exact Q7X an
    ·exact QfX o.2.1 o.2.2
   |_=>exact h.elim
  ·have aa:m=c:=I
   subst aa
   go_wp2
   refine bodyPost_ret (results_tmp rfl _ _ _) rfl ?_;refine⟨H,cu,rfl,ar,ai,am,?_,hF⟩;rw[<- an,QrH (by simpa using Nat.le_of_eq am)]
theorem Qd6{S:Nat->Prop}{w:World}{v:Value}{x:D}(h:Rd S w v x):v.oneCell'=true:=by cases h<;>rfl
theorem Qb8{S:Nat->Prop}{w:World}{H c:Nat}{aa:Array Value}{a d:Value}{f g:D}(k:Rd S w a f)(l:Rd S w d g)(hH:w.heap[H]? = some (.cells aa 269 (0,0)))(ac:aa.toList=MX a d c) :
  Rd (λb=>S b\/b=H) w (.slice (some ⟨H,0,none⟩) c c) (.sl 2 (List.replicate c [f,g])):=by
 have e:=Rd.sl (S:=λb=>S b\/b=H) (w:=w) ⟨H,0,none⟩ c 2 (List.replicate c [f,g]) (λi j=>if j=0 then a else d) (.inr rfl) Q2 (λi r hr=>?_) (λi j r x hr hx=>?_) (λi j r x hr hx=>?_)
 ·simpa using e
 ·obtain⟨_,rfl⟩:=QrA.1 (Qrs hr);rfl
 ·have hi:i<c:=by have:=(Qrt.1 hr).1;simpa using this
  obtain⟨_,rfl⟩:=QrA.1 (Qrs hr);have hj:=(Qrt.1 hx).1;simp at hj;rw[Jy,QrK,cell_of_row w H _ aa 269 (0,0) hH,<- QrE,ac];have:=Qaz a d c i hi;obtain rfl | rfl:j=0\/j=1:=I
  ·simpa using this.1
  ·simpa using this.2
 ·obtain⟨_,rfl⟩:=QrA.1 (Qrs hr);have hj:=(Qrt.1 hx).1;simp at hj;obtain rfl | rfl:j=0\/j=1:=I
  ·simp at hx;subst hx;simpa using k.mono (λ_ h=>.inl h) (λ_ _=>rfl)
  ·simp at hx;subst hx;simpa using l.mono (λ_ h=>.inl h) (λ_ _=>rfl)
theorem Q2C(n:Nat)(a0:LL)(a1:Int)(res:LL){hl:Nat->oP Ob}(h:Qu n a0 a1 some=some res):ZW Tryz.prog 237 [.d (D.sl 2 a0),.d (D.int .i64 a1)] hl ⟨.d (D.sl 2 res),[],[]⟩:=by
 unfold Qu at h;obtain⟨hc,h⟩:=Xm h;simp only[Qry,decide_eq_true_eq]at hc;obtain⟨⟨e1,hp⟩,hq⟩:=hc;have e1:=Nat.eq_of_beq_eq_true e1;injection h with h
 obtain⟨c,rfl⟩:=Int.eq_ofNat_of_zero_le hp
 match a0,e1 with
 |[row],_=>
  subst h;refine Lr (fn:=Tryz.f237) (by kernel_rfl) (by kernel_rfl) (by kernel_rfl) rfl rfl λS w args hS hA=>?_
  obtain⟨hl,hA⟩:=hA
  match args,hl with
  |[i,j],_=>
   have a:=hA 0 _ _ rfl rfl;have q1:=Q62 (hA 1 _ _ rfl rfl);subst q1;cases a with
   |dang _ _ _ hl=>cases hl
   |d _ _ a=>
    cases a with
    |sl ad cap _ _ cf ax ar am aa aj=>
     have ai:=am 0 row rfl
     match row,ai with
     |[k,l],_=>
      have k0:=aa 0 0 _ _ rfl rfl;have k1:=aa 0 1 _ _ rfl rfl;have f:=aj 0 0 _ _ rfl rfl;have g:=aj 0 1 _ _ rfl rfl;refine(Tryz.repeat_calls w ad cap c (cf 0 0) (cf 0 1) I k0 k1 (Qd6 f) (Qd6 g)).mono λe w' ⟨H,ay,he,hH,ac,az,an,hB⟩=>?_
      have aw:H<w'.heap.size:=(Qrw.1 ac).1;refine⟨_,λb=>S b\/b=H,he,λb h=>.inl h,λb h=>h.elim .inl λe=>.inr I,λb h=>h.elim (λh=>Qrv (hS b h) hB.size) (λe=>by omega),.d _ _ ?_,hB⟩;exact Qb8 (Rd.mono (λ_ h=>h) (λb hb=>hB.block b (hS b hb)) f) (Rd.mono (λ_ h=>h) (λb hb=>hB.block b (hS b hb)) g) ac an
end Go.Vx
namespace Go.Vx
open Go.Proofs
variable(n:Nat)
def Xr(n:Nat):PJ:=λ_ _ g aa _ k=>match aa with
|[c0,c1]=>prS g 2 c0 λa0=>prI g .i64 c1 λa1=>
  gb g (Qu n a0 a1 some) [] λr=>k ⟨.d (D.sl 2 r),[],[]⟩
|_=>none
theorem Wo(n:Nat):VH Tryz.prog 237 (Xr n):=by
  intro R ac g ai hl k r h
  unfold Xr at h
  split at h
  rotate_left
  · cases h
  replace h:=Ul h
  obtain⟨a0,h,a⟩:=h
  replace h:=Q2b h
  obtain⟨a1,h,b⟩:=h
  replace h:=Qy h
  obtain⟨res,h,hr⟩:=h
  exact⟨_,h,λhg=>ZW.conv (avs':=[.d (D.sl 2 a0),.d (D.int .i64 a1)]) (.cons (a hg) (.cons (b hg) .nil)) (Q2C n a0 a1 res (hr hg))⟩
end Go.Vx
set_option maxRecDepth 100000
namespace Go.Vx
open Go.Proofs
variable(n:Nat)
def Lc:BZ9:=Xa [⟨166,Fp n⟩,⟨237,⟨Xr n,Wo n⟩⟩] [(5,⟨[],[],[(8,1008,269,2)],[],[]⟩)]
def Q09:LZ9:=mkU (Lc n).ok nT 6 Tryz.f223 [Qmx,Qmy,Qne,(27,.l 2),(28,tI),(29,tI)] [Qn6,QoT,(1008,.arr 269 2)] 39631 [xE 0 [(30,.b)]] @Wi n
def Q34:EZ9 223:=mkD (Lc n).ok [Q09 n n] 223 Tryz.f223 0 @SZ n
def ND:BZ9:=Xa [⟨223,Q34 n⟩,⟨165,Hv n⟩,⟨224,HQ n⟩] []
def BS:LZ9:=mkU (ND n).ok nT 7 Tryz.f197 [Qmy,Qn1,QmB,(8,.l 2),Qmb,(29,.l 2),(30,tI),(31,tI)] [Qn3,Qnh,(6,.box Qmf)] 61434 [.f .ret [(6,.ptr 6 0),(7,.ci .i64 12)] [(6,.box Qmf)] [],xE 0 [(32,.b)]] @WI n
def Ld:EZ9 197:=mkD (ND n).ok [BS n n] 197 Tryz.f197 0 @Hm n
def NZ:EZ9 178:=mkD (Xa [⟨197,Ld n⟩] []).ok nT 178 Tryz.f178 0 @Gl n
def CR:EZ9 170:=mkD (Xa [⟨172,RR n⟩,⟨178,NZ n⟩,⟨174,NH n⟩,⟨173,LQ n⟩] []).ok nT 170 Tryz.f170 0 @JD n
def Gz:BZ9:=Xa [⟨162,P8 n⟩,⟨167,YZ n⟩,⟨169,Ej n⟩,⟨170,CR n⟩] []
def Eu:LZ9:=mkU (Gz n).ok nT 15 Tryz.f122 [Qmx,Qmy,QmB,QnJ,Qmc,Qme,(50,tI),(51,tI)] [Qn6,Qnl,(6,bT 90 [])] 5230176669 [.f .ret [(4,tI)] [] [0],xE 3 [(52,.b)]] @ZL n
def FI:LZ9:=mkU (Gz n).ok [Eu n n] 2 Tryz.f122 [Qmx,Qmy,QnJ,Qmc,Qme] Qnk 7174462 [.f .ret [(4,tI)] [] [0],xE 0 [(13,.b)]] @ZJ n
def SL:EZ9 122:=mkD (Gz n).ok [FI n n] 122 Tryz.f122 0 @V2 n
end Go.Vx
namespace Go.Vx
open Go.Proofs Go.RowKit
theorem Q8e{S:Nat->Prop}{w:World}{v:Value}{x:D}(h:Rd S w v x):v.oneCell'=true:=by cases h<;>rfl
theorem RdLs.one{S:Nat->Prop}{w:World}{vs:Y Value}{xs:Y D}(h:RdLs S w vs xs):∀x∈vs,x.oneCell'=true:=by
 induction h with
 |nil=>simp
 |cons h _ ih=>
  intro x hx;rcases QrO.1 hx with rfl | hx
  ·exact Q8e h
  ·exact ih x hx
theorem RdLs.len{S:Nat->Prop}{w:World}{vs:Y Value}{xs:Y D}(h:RdLs S w vs xs):vs.length=xs.length:=by
 induction h with
 |nil=>rfl
 |cons _ _ ih=>simp[ih]
theorem RdLs.keep{S:Nat->Prop}{w w':World}{m:Nat}{vs:Y Value}{xs:Y D}(h:RdLs S w vs xs)(hS:∀b,S b->b<m)(hw:∀b,b<m->w'.heap[b]? = w.heap[b]?):RdLs S w' vs xs:=by
 induction h with
 |nil=>exact .nil
 |cons h _ ih=>exact .cons (Rd.keep h hS hw) ih
def Hu(a b c d:LL):Y D:=[D.sl 1 a,D.sl 1 b,D.sl 5 c,D.sl 6 d]
def Hk(a:Int)(b c d e f g h:LL):Y D:=[D.int .i64 a,D.sl 5 b,D.sl 2 c,D.sl 4 d,D.sl 7 e,D.sl 4 f,D.sl 5 g,D.sl 3 h]
theorem B0{n:Nat}{a c d f:LL}{g:Int}{i j k l m o p:LL}(h:UP n a c d f g i j k l m o p some=some 0){S:Nat->Prop}{w:World}(hS:∀b,S b->b<w.heap.size){vs us:Y Value}(q:RdLs S w vs (Hu a c d f))(s:RdLs S w us (Hk g i j k l m o p)) :
  Calls Tryz.prog 119 #[.agg vs.toArray,.agg us.toArray] w λe w'=>e = .returned (.int .i64 0)/\Below w.heap.size w w':=by
 have he:(PV n).E Dl 0 true [.ag ((Hu a c d f).map .d),.ag ((Hk g i j k l m o p).map .d)] (λ_=>none) some=some ⟨.d (.int .i64 0),[],[]⟩:=by
  show gb true (UP n a c d f g i j k l m o p some) 0 (λr=>(some ⟨.d (D.int .i64 r),[],[]⟩:oP Dl))=_;rw[h];rfl
 exact GJ (Ym ((PV n).ok) he) hS (HE (RdLs.agg q) (RdLs.agg s))
theorem Dt{n:Nat}{a c d f:LL}{g:Int}{i j k l m o p:LL}(h:U5 n a c d f g i j k l m o p some=some 0){S:Nat->Prop}{w:World}(hS:∀b,S b->b<w.heap.size){vs us:Y Value}(q:RdLs S w vs (Hu a c d f))(s:RdLs S w us (Hk g i j k l m o p)) :
  Calls Tryz.prog 120 #[.agg vs.toArray,.agg us.toArray] w λe w'=>e = .returned (.int .i64 0)/\Below w.heap.size w w':=by
 have he:(Pa n).E Dl 0 true [.ag ((Hu a c d f).map .d),.ag ((Hk g i j k l m o p).map .d)] (λ_=>none) some=some ⟨.d (.int .i64 0),[],[]⟩:=by
  show gb true (U5 n a c d f g i j k l m o p some) 0 (λr=>(some ⟨.d (D.int .i64 r),[],[]⟩:oP Dl))=_;rw[h];rfl
 exact GJ (Ym ((Pa n).ok) he) hS (HE (RdLs.agg q) (RdLs.agg s))
theorem DD{n:Nat}{a c d f:LL}{g:Int}{i j k l m o p:LL}(h:U3 n a c d f g i j k l m o p some=some 0){S:Nat->Prop}{w:World}(hS:∀b,S b->b<w.heap.size){vs us:Y Value}(q:RdLs S w vs (Hu a c d f))(s:RdLs S w us (Hk g i j k l m o p)) :
  Calls Tryz.prog 121 #[.agg vs.toArray,.agg us.toArray] w λe w'=>e = .returned (.int .i64 0)/\Below w.heap.size w w':=by
 have he:(Pg n).E Dl 0 true [.ag ((Hu a c d f).map .d),.ag ((Hk g i j k l m o p).map .d)] (λ_=>none) some=some ⟨.d (.int .i64 0),[],[]⟩:=by
  show gb true (U3 n a c d f g i j k l m o p some) 0 (λr=>(some ⟨.d (D.int .i64 r),[],[]⟩:oP Dl))=_;rw[h];rfl
 exact GJ (Ym ((Pg n).ok) he) hS (HE (RdLs.agg q) (RdLs.agg s))
theorem B2{n:Nat}{a c d f:LL}{g:Int}{i j k l m o p:LL}(h:V2 n a c d f g i j k l m o p some=some 0){S:Nat->Prop}{w:World}(hS:∀b,S b->b<w.heap.size){vs us:Y Value}(q:RdLs S w vs (Hu a c d f))(s:RdLs S w us (Hk g i j k l m o p)) :
  Calls Tryz.prog 122 #[.agg vs.toArray,.agg us.toArray] w λe w'=>e = .returned (.int .i64 0)/\Below w.heap.size w w':=by
 have he:(SL n).E Dl 0 true [.ag ((Hu a c d f).map .d),.ag ((Hk g i j k l m o p).map .d)] (λ_=>none) some=some ⟨.d (.int .i64 0),[],[]⟩:=by
  show gb true (V2 n a c d f g i j k l m o p some) 0 (λr=>(some ⟨.d (D.int .i64 r),[],[]⟩:oP Dl))=_;rw[h];rfl
 exact GJ (Ym ((SL n).ok) he) hS (HE (RdLs.agg q) (RdLs.agg s))
theorem Fz{n:Nat}{a c d f:LL}{g:Int}{i j k l m o p:LL}(h:Ww n a c d f g i j k l m o p some=some 0){S:Nat->Prop}{w:World}(hS:∀b,S b->b<w.heap.size){vs us:Y Value}(q:RdLs S w vs (Hu a c d f))(s:RdLs S w us (Hk g i j k l m o p)) :
  Calls Tryz.prog 123 #[.agg vs.toArray,.agg us.toArray] w λe w'=>e = .returned (.int .i64 0)/\Below w.heap.size w w':=by
 have he:(TL n).E Dl 0 true [.ag ((Hu a c d f).map .d),.ag ((Hk g i j k l m o p).map .d)] (λ_=>none) some=some ⟨.d (.int .i64 0),[],[]⟩:=by
  show gb true (Ww n a c d f g i j k l m o p some) 0 (λr=>(some ⟨.d (D.int .i64 r),[],[]⟩:oP Dl))=_;rw[h];rfl
 exact GJ (Ym ((TL n).ok) he) hS (HE (RdLs.agg q) (RdLs.agg s))
theorem Cn{n:Nat}{a c d f:LL}{g:Int}{i j k l m o p:LL}(h:V1 n a c d f g i j k l m o p some=some 0){S:Nat->Prop}{w:World}(hS:∀b,S b->b<w.heap.size){vs us:Y Value}(q:RdLs S w vs (Hu a c d f))(s:RdLs S w us (Hk g i j k l m o p)) :
  Calls Tryz.prog 124 #[.agg vs.toArray,.agg us.toArray] w λe w'=>e = .returned (.int .i64 0)/\Below w.heap.size w w':=by
 have he:(Sj n).E Dl 0 true [.ag ((Hu a c d f).map .d),.ag ((Hk g i j k l m o p).map .d)] (λ_=>none) some=some ⟨.d (.int .i64 0),[],[]⟩:=by
  show gb true (V1 n a c d f g i j k l m o p some) 0 (λr=>(some ⟨.d (D.int .i64 r),[],[]⟩:oP Dl))=_;rw[h];rfl
 exact GJ (Ym ((Sj n).ok) he) hS (HE (RdLs.agg q) (RdLs.agg s))
theorem Cj{n:Nat}{a c d f:LL}{g:Int}{i j k l m o p:LL}(h:UT n a c d f g i j k l m o p some=some 0){S:Nat->Prop}{w:World}(hS:∀b,S b->b<w.heap.size){vs us:Y Value}(q:RdLs S w vs (Hu a c d f))(s:RdLs S w us (Hk g i j k l m o p)) :
  Calls Tryz.prog 125 #[.agg vs.toArray,.agg us.toArray] w λe w'=>e = .returned (.int .i64 0)/\Below w.heap.size w w':=by
 have he:(Sx n).E Dl 0 true [.ag ((Hu a c d f).map .d),.ag ((Hk g i j k l m o p).map .d)] (λ_=>none) some=some ⟨.d (.int .i64 0),[],[]⟩:=by
  show gb true (UT n a c d f g i j k l m o p some) 0 (λr=>(some ⟨.d (D.int .i64 r),[],[]⟩:oP Dl))=_;rw[h];rfl
 exact GJ (Ym ((Sx n).ok) he) hS (HE (RdLs.agg q) (RdLs.agg s))
theorem E9{n:Nat}{a c d f:LL}{g:Int}{i j k l m o p:LL}(h:Wp n a c d f g i j k l m o p some=some 0){S:Nat->Prop}{w:World}(hS:∀b,S b->b<w.heap.size){vs us:Y Value}(q:RdLs S w vs (Hu a c d f))(s:RdLs S w us (Hk g i j k l m o p)) :
  Calls Tryz.prog 126 #[.agg vs.toArray,.agg us.toArray] w λe w'=>e = .returned (.int .i64 0)/\Below w.heap.size w w':=by
 have he:(Tl n).E Dl 0 true [.ag ((Hu a c d f).map .d),.ag ((Hk g i j k l m o p).map .d)] (λ_=>none) some=some ⟨.d (.int .i64 0),[],[]⟩:=by
  show gb true (Wp n a c d f g i j k l m o p some) 0 (λr=>(some ⟨.d (D.int .i64 r),[],[]⟩:oP Dl))=_;rw[h];rfl
 exact GJ (Ym ((Tl n).ok) he) hS (HE (RdLs.agg q) (RdLs.agg s))
theorem Em:∀(n k:Nat),KY (λ_=>0) n k=0
 |0,_=>rfl
 |n+1,k=>by simp[KY,Em n (k+1)]
theorem Q5U(n:Nat)(a c d f:LL)(g:Int)(i j l m o p q:LL)(res:Int){hl:Nat->oP Ob}(h:Je n a c d f g i j l m o p q some=some res):ZW Tryz.prog 78 [.ag [.d (D.sl 1 a),.d (D.sl 1 c),.d (D.sl 5 d),.d (D.sl 6 f)],.ag [.d (D.int .i64 g),.d (D.sl 5 i),.d (D.sl 2 j),.d (D.sl 4 l),.d (D.sl 7 m),.d (D.sl 4 o),.d (D.sl 5 p),.d (D.sl 3 q)]] hl ⟨.d (D.int .i64 res),[],[]⟩:=by
 obtain⟨aj,h⟩:=Xm h;injection h with h
 subst h;simp only[Qaf,Qry]at aj;obtain⟨⟨⟨⟨⟨⟨⟨k0,k1⟩,k2⟩,k3⟩,k4⟩,k5⟩,k6⟩,k7⟩:=aj;refine Lr (fn:=Tryz.f78) (by kernel_rfl) (by kernel_rfl) (by kernel_rfl) rfl rfl λS w args hS hA=>?_
 obtain⟨v,u,rfl,hv,hu⟩:=Qbz hA;obtain⟨vs,rfl,hr⟩:=Q5l (xs:=Hu a c d f) hv;obtain⟨us,rfl,hq⟩:=Q5l (xs:=Hk g i j l m o p q) hu;have an:=hr.len;have ao:=hq.len
 match vs,us,an,ao with
 |[r,s,t,y],[z,u1,u2,u3,u4,u5,u6,u7],_,_=>
  refine(Tryz.plancheck_calls w r s t y z u1 u2 u3 u4 u5 u6 u7 (λ_=>0) (λk hk w' hs hw=>?_) (λx hx=>?_)).mono λe w' ⟨he,hB⟩=>?_
  ·have ac:∀b,S b->b<w'.heap.size:=λb hb=>Qrv (hS b hb) hs
   have aa:=hr.keep hS hw;have ai:=hq.keep hS hw;obtain rfl | rfl | rfl | rfl | rfl | rfl | rfl | rfl:k=0\/k=1\/k=2\/k=3\/k=4\/k=5\/k=6\/k=7:=I
   ·exact B0 (VT k0) ac aa ai
   ·exact Dt (VT k1) ac aa ai
   ·exact DD (VT k2) ac aa ai
   ·exact B2 (VT k3) ac aa ai
   ·exact Fz (VT k4) ac aa ai
   ·exact Cn (VT k5) ac aa ai
   ·exact Cj (VT k6) ac aa ai
   ·exact E9 (VT k7) ac aa ai
  ·rcases List.mem_append.1 (show x∈[r,s,t,y]++[z,u1,u2,u3,u4,u5,u6,u7]from hx)with h | h
   ·exact hr.one x h
   ·exact hq.one x h
  ·rw[Em]at he;exact⟨_,S,he,λb h=>h,λb h=>.inl h,λb h=>Qrv (hS b h) hB.size,.d _ _ (.int _ _),hB⟩
end Go.Vx
namespace Go.Vx
open Go.Proofs
variable(n:Nat)
def Pe(n:Nat):PJ:=λ_ _ g ai _ k=>match ai with
|[c0,c1]=>
  prG c0 λl0=>(match l0 with
  |[a,b,c,d]=>prS g 1 a λe=>prS g 1 b λf=>prS g 5 c λh=>prS g 6 d λi=>
  prG c1 λl1=>(match l1 with
  |[j,l,m,o,p,q,s,t]=>prI g .i64 j λu=>prS g 5 l λv=>prS g 2 m λx=>prS g 4 o λy=>prS g 7 p λz=>prS g 4 q λaa=>prS g 5 s λab=>prS g 3 t λac=>
  gb g (Je n e f h i u v x y z aa ab ac some) 0 λr=>k ⟨.d (D.int .i64 r),[],[]⟩
  |_=>none)
  |_=>none)
|_=>none
theorem E7(n:Nat):VH Tryz.prog 78 (Pe n):=by
  intro R aj g ak hl k r h
  unfold Pe at h
  split at h
  rotate_left
  · cases h
  replace h:=Q2D h
  obtain⟨l0,h,q⟩:=h
  subst q
  split at h
  rotate_left
  · cases h
  replace h:=Ul h
  obtain⟨a,h,s⟩:=h
  replace h:=Ul h
  obtain⟨b,h,t⟩:=h
  replace h:=Ul h
  obtain⟨c,h,u⟩:=h
  replace h:=Ul h
  obtain⟨d,h,v⟩:=h
  replace h:=Q2D h
  obtain⟨l1,h,e1⟩:=h
  subst e1
  split at h
  rotate_left
  · cases h
  replace h:=Q2b h
  obtain⟨e,h,x⟩:=h
  replace h:=Ul h
  obtain⟨f,h,y⟩:=h
  replace h:=Ul h
  obtain⟨i,h,z⟩:=h
  replace h:=Ul h
  obtain⟨j,h,aa⟩:=h
  replace h:=Ul h
  obtain⟨l,h,ab⟩:=h
  replace h:=Ul h
  obtain⟨m,h,ac⟩:=h
  replace h:=Ul h
  obtain⟨o,h,ad⟩:=h
  replace h:=Ul h
  obtain⟨p,h,ae⟩:=h
  replace h:=Qy h
  obtain⟨res,h,hr⟩:=h
  exact⟨_,h,λhg=>ZW.conv (avs':=[.ag [.d (D.sl 1 a),.d (D.sl 1 b),.d (D.sl 5 c),.d (D.sl 6 d)],.ag [.d (D.int .i64 e),.d (D.sl 5 f),.d (D.sl 2 i),.d (D.sl 4 j),.d (D.sl 7 l),.d (D.sl 4 m),.d (D.sl 5 o),.d (D.sl 3 p)]]) (.cons (.ag (.cons (s hg) (.cons (t hg) (.cons (u hg) (.cons (v hg) .nil))))) (.cons (.ag (.cons (x hg) (.cons (y hg) (.cons (z hg) (.cons (aa hg) (.cons (ab hg) (.cons (ac hg) (.cons (ad hg) (.cons (ae hg) .nil))))))))) .nil)) (Q5U n a b c d e f i j l m o p res (hr hg))⟩
end Go.Vx
set_option maxRecDepth 100000
namespace Go.Vx
open Go.Proofs
variable(n:Nat)
def SA:BZ9:=Xa [⟨197,Ld n⟩,⟨225,CV n⟩,⟨224,HQ n⟩,⟨199,Ex n⟩] [(7,⟨[],[],[(6,1006,3,1),(7,1007,3,1)],[],[]⟩)]
def Dn:LZ9:=mkU (SA n).ok nT 8 Tryz.f198 [Qmy,Qn1,QlZ,Qnq,Qmi,(13,.l 2),Qmr,(38,.l 2),(39,tI),(40,tI)] [Qn3,Qnh,(1006,.arr 3 1),(1007,.arr 3 1)] 114975580 [xE 0 [(41,.b)]] @Y4 n
def CA:EZ9 198:=mkD (SA n).ok [Dn n n] 198 Tryz.f198 0 @H5 n
def Q3S:EZ9 239:=mkD (Xa [⟨161,⟨Jw n,Tq n⟩⟩] []).ok nT 239 Tryz.f239 0 @Mx n
def L5:BZ9:=Xa [⟨239,Q3S n⟩,⟨217,Tb n⟩,⟨240,Q0t n⟩] [(7,⟨[],[],[(6,1006,209,4)],[],[]⟩)]
def Q0L:LZ9:=mkU (L5 n).ok nT 8 Tryz.f228 [Qn1,QlZ,(23,.l 6),(24,tI),(25,tI)] [QoR,(1006,.arr 209 4)] 616 [xE 0 [(26,.b)]] @Wn n
def Q2L:EZ9 228:=mkD (L5 n).ok [Q0L n n] 228 Tryz.f228 0 @LO n
def Gb:BZ9:=Xa [⟨228,Q2L n⟩] []
def SF:LZ9:=mkU (Gb n).ok nT 2 Tryz.f203 [Qn1,(11,.l 4),Qme,Qmo] [QoR] 130 [.f .ret [(6,tI)] [] [0],xE 0 [(14,.b)]] @ZF n
def Rq:EZ9 203:=mkD (Gb n).ok [SF n n] 203 Tryz.f203 0 @Zw n
def Vc:BZ9:=Xa [⟨198,CA n⟩,⟨199,Ex n⟩,⟨200,AS n⟩,⟨201,LY n⟩,⟨202,Rj n⟩,⟨203,Rq n⟩,⟨204,NY n⟩] []
def Rv:LZ9:=mkU (Vc n).ok nT 7 Tryz.f179 [QlX,Qn1,QmB,(13,.l 1),(14,.l 1),Qml,(17,tI),(18,.arr 48),QnO] [(5,bT 27 []),(6,.box Qnb),(48,.arr 164 3)] 1063461 [xE 0 [(51,.b)]] @XV n
def Rt:LZ9:=mkU (Vc n).ok nT 14 Tryz.f179 [Qn1,QmB,Qml,(17,tI),(18,.arr 84),(20,.ptr 20 0),(21,.arr 50095),(97,.l 2),(98,tI),(99,tI)] [(5,bT 27 []),(6,.box Qnb),(20,.box [.ci .i64 0,tI,tI]),(84,.arr 164 3),(50095,.arr 164 3)] 13492776 [xE 2 [(100,.b)]] @QA n
def Nt:EZ9 179:=mkD (Vc n).ok [Rv n n,Rt n n] 179 Tryz.f179 0 @Jk n
def Ad:EZ9 128:=mkD (Xa [⟨178,NZ n⟩,⟨179,Nt n⟩] []).ok nT 128 Tryz.f128 0 @Up n
def Hx:BZ9:=Xa [⟨78,⟨Pe n,E7 n⟩⟩,⟨127,Q0c n⟩,⟨128,Ad n⟩] [(5,⟨[],[],[(7,1007,110,1),(8,1008,3,1)],[],[]⟩)]
def CQ:LZ9:=mkU (Hx n).ok nT 9 Tryz.f80 [Qmx,Qmy,Qnq,Qne,Qmb,Qmh,(23,.l 4),(24,tI),(25,tI),(31,.l 4),(32,tI),(33,tI)] [Qn6,Qnl,(10,.box Qna),Qnu,Qnv] 788594406049 [.f .ret [(4,.nil),(5,.nil),(6,tI)] [] [0],xE 2 [(34,.b)]] @Ye n
def Cw:LZ9:=mkU (Hx n).ok [CQ n n] 6 Tryz.f80 [Qmx,Qmy,Qnq,Qne,(23,.l 4),(24,tI),(25,tI)] Qnw 121965718 [.f .ret [(4,.nil),(5,.nil),(6,tI)] [] [0],xE 0 [(26,.b)]] @ZR n
def Aw:EZ9 80:=mkD (Hx n).ok [Cw n n] 80 Tryz.f80 0 @T4 n
def Bs:EZ9 57:=mkD (Xa [⟨78,⟨Pe n,E7 n⟩⟩,⟨79,Hj n⟩,⟨80,Aw n⟩,⟨81,HA n⟩,⟨82,TU n⟩,⟨83,KD n⟩,⟨84,K8 n⟩] [(3,⟨[],[],[],[(20,12,2812,3,1),(20,13,2813,110,1),(20,14,2814,3,1),(20,15,2815,224,4),(20,17,2817,60,3),(20,18,2818,57,6)],[]⟩)]).ok nT 57 Tryz.f57 0 @Zs n
end Go.Vx
namespace Go.Vx
open Go.RowKit
structure OpAt(ops:Array Oper)(i:Nat)(dst:oP Nat)(op:Op):Prop where
 ex:∃o,ops[i]? = some o/\o.dst=dst/\o.op=op/\o.guard=none
theorem Q29{ops:Array Oper}{i:Nat}{dst:oP Nat}{op:Op}(h:(ops[i]?).map (λo=>(o.dst,o.op,o.guard))=some (dst,op,none)):OpAt ops i dst op:=by
 obtain⟨o,h1,h2⟩:=Qrz.1 h;injection h2 with h2 h3
 injection h3 with h3 h4
 exact⟨o,h1,h2,h3,h4⟩
theorem HI{P:Program}{ops:Array Oper}{i:Nat}{o:Oper}{dst:oP Nat}(h1:ops[i]? = some o)(h2:o.dst=dst)(h4:o.guard=none){Q:Exit->Act->World->Prop}{K:Act->World->Prop}{a:Act}{w:World}{v:Value}{w':World}(hr:(execOp a.eval o).run P w = .ok (.value v) w')(hK:K (a.put dst v) w'):wpOp P ops Q i K a w:=by
 unfold wpOp;simp only[h1,Region.wanted,h4,if_true];left;unfold Oper.wp;rw[hr];subst h2;exact hK
theorem Q91{P:Program}{ops:Array Oper}{i:Nat}{o:Oper}(h1:ops[i]? = some o)(h2:o.dst=none)(h4:o.guard=none){Q:Exit->Act->World->Prop}{K:Act->World->Prop}{a:Act}{w w':World}(hr:(execOp a.eval o).run P w = .ok .skip w')(hK:K a w'):wpOp P ops Q i K a w:=by
 unfold wpOp;simp only[h1,Region.wanted,h4,if_true];left;unfold Oper.wp;rw[hr];show K (a.put o.dst undef) w';rw[h2];exact hK
def LK(ops:Array Oper)(i j:Nat):Bool:=match ops[i]? with
 |some o=>o.after.toList.any λe=>Region.binds .any e&&Nat.beq e.on j
 |none=>false
theorem Rx{ops:Array Oper}{listed:Array Bool}{i j:Nat}{o:Oper}(h:LK ops i j=true)(ho:ops[i]? = some o)(hp:Q2d listed o.after.toList):Lst listed j:=by
 unfold LK at h;rw[ho]at h;obtain⟨e,he,hb⟩:=List.any_eq_true.1 h;simp only[Qry]at hb;have:=hp e he hb.1;rwa [Nat.eq_of_beq_eq_true hb.2]at this
theorem TD{ops:Array Oper}{listed:Array Bool}{i j:Nat}(h:LK ops i j=true)(hc:Lh ops.toList listed)(hl:Lst listed i):Lst listed j:=by
 cases ho:ops[i]? with
 |none=>unfold LK at h;rw[ho]at h;cases h
 |some o=>exact Rx h ho (hc i o (by rw[QrE];exact ho) hl)
theorem Uj(a:Act)(t:Nat):a.eval (.tmp t)=tmv a t:=rfl
structure NF(ops:Array Oper)(m iX iV iB iA iP base nt:Nat)(sty:TypeId):Prop where
 size:ops.size=m+1
 edge:Ku ops.toList 0=true
 dst:(ops.toList.take m).map (λo=>(o.dst,o.guard))=(List.range m).map λj=>(some (base+j),none)
 oA:OpAt ops iA (some (base+iA)) (.call { callee:=.builtin .append,args:=#[.tmp (base+iX),.tmp (base+iB)],argTypes:=#[sty,sty] })
 oS:OpAt ops m none (.store sty (.tmp (base+iP)) (.tmp (base+iA)))
 wS:((List.range m).all λj=>LK ops m j||(List.range m).any λk=>LK ops m k&&LK ops k j)=true
 wA:(LK ops iA iX&&LK ops iA iB&&LK ops iB iV)=true
 lt:iX<m/\iV<m/\iB<m/\iA<m/\iP<m/\iX≠iA/\iB≠iA/\iV≠iA/\iP≠iA/\iX≠iB/\base+m<=nt
structure NS where
 a0:Act
 ws:World
 val:Nat->Value
 x:Value
 u:Value
 B:Nat
 n:Nat
 k:Nat
 ety:TypeId
 xs:List Value
 vb:Nat
 pos:Nat
namespace NS
def w2(s:NS):World:=s.ws.alloc (.cells s.u.cells s.ety)
def Mid(s:NS)(x':Value)(w:World):Prop:=
 s.w2.grownBy w s.x.ownBlock/\w.ownsRow s.B s.ety s.k x' (s.n+1) (s.xs++s.u.cells.toList)/\(x'.ownBlock=s.x.ownBlock\/x'.ownBlock=some (s.ws.heap.size+1))
def Sf(s:NS)(w:World):Prop:=∀b,b<s.ws.heap.size->s.x.ownBlock≠some b->w.heap[b]? = s.ws.heap[b]?
theorem sf2(s:NS):s.Sf s.w2:=λb hb _=>YO s.ws _ hb
theorem sf3{s:NS}{x':Value}{w:World}(h:s.Mid x' w):s.Sf w:=λb hb hx=>by
 rw[h.1.block b (by simp[w2];omega) (λe=>hx e.symm)];exact sf2 s b hb hx
end NS
structure NJ(m iB iA base nt:Nat)(s:NS)(listed:Array Bool)(a:Act)(w:World):Prop where
 sz:a.tmps.size=nt
 df:a.defers=s.a0.defers
 old:∀t,t<base\/base+m<=t->tmv a t=tmv s.a0 t
 vals:∀j,j<m->j≠iA->Lst listed j->tmv a (base+j)=s.val j
 stage:(¬ Lst listed iB/\¬ Lst listed iA/\¬ Lst listed m/\w=s.ws)\/(Lst listed iB/\¬ Lst listed iA/\¬ Lst listed m/\w=s.w2)\/(Lst listed iA/\¬ Lst listed m/\s.Mid (tmv a (base+iA)) w) \/
  (Lst listed m/\∃x' w3,s.Mid x' w3/\w=w3.setCell ⟨s.vb,s.pos,none⟩ x')
section
variable{P:Program} {ops:Array Oper} {m iX iV iB iA iP base nt:Nat} {sty:TypeId} (F:NF ops m iX iV iB iA iP base nt sty) {s:NS}
include F
theorem NF.at{j:Nat}(hj:j<m):∃o,ops[j]? = some o/\o.dst=some (base+j)/\o.guard=none:=by
 have hl:j<ops.size:=by rw[F.size];omega
 have h:=congrArg (λl=>l[j]?) F.dst;simp only[List.getElem?_map,QrI,if_pos hj,QrE,List.getElem?_range hj,Option.map_some]at h;rw[QrC hl]at h ⊢;injection h with h
 injection h with h1 h2
 exact⟨_,rfl,h1,h2⟩
theorem NF.ws{j:Nat}(hj:j<m):LK ops m j=true\/∃k,LK ops m k=true/\LK ops k j=true:=by
 have h:=List.all_eq_true.1 F.wS j (List.mem_range.2 hj);simp only[Bool.or_eq_true,List.any_eq_true,Qry]at h;exact h.imp id λ⟨k,_,h⟩=>⟨k,h⟩
theorem NF.pre{listed:Array Bool}{o:Oper}(ho:ops[m]? = some o)(hp:Q2d listed o.after.toList)(hc:Lh ops.toList listed){j:Nat}(hj:j<m):Lst listed j:=by
 rcases F.ws hj with h | ⟨k,h1,h2⟩
 ·exact Rx h ho hp
 ·exact TD h2 hc (Rx h1 ho hp)
theorem NF.cl{listed:Array Bool}(hc:Lh ops.toList listed)(h0:Lst listed m){j:Nat}(hj:j<m):Lst listed j:=by
 rcases F.ws hj with h | ⟨k,h1,h2⟩
 ·exact TD h hc h0
 ·exact TD h2 hc (TD h1 hc h0)
theorem Q9C(hx:s.val iX=s.x)(hu:s.val iV=s.u)(hb:s.val iB = .slice (some ⟨s.ws.heap.size,0,none⟩) 1 1)(hp:s.val iP = .pointer (some ⟨s.vb,s.pos,none⟩))(bb:s.ws.ownsRow s.B s.ety s.k s.x s.n s.xs)(hB:s.B<=s.ws.heap.size)(hn:s.n<=1000000)(b2:s.x.ownBlock≠some s.vb){ak:Array Value}{ax:TypeId}(ay:s.ws.heap[s.vb]? = some (.cells ak ax (0,0)))(a7:s.pos<ak.size){ti:TypeInfo}{z:Value}(bl:P.underlying sty=some (.slice s.ety))(hi:P.info? s.ety=some ti)(hz:ti.zero=some z)(bj:ti.size=s.k)(bm:z.cells.size=s.k)(hk:0<s.k)(bo:ti.bytes<=100)(bv:s.u.cells.size=s.k)(b1:∀v∈s.u.cells.toList,v.oneCell'=true){tS:TyI}(hS:TyOk P sty tS)(b5:tS.size=1)(aw:∀(a:Act) (o:Oper),a.eval (.tmp (base+iV))=s.u->ops[iB]? = some o->(execOp a.eval o).run P s.ws = .ok (.value (.slice (some ⟨s.ws.heap.size,0,none⟩) 1 1)) s.w2)(hq:∀j,j<m->j≠iB->j≠iA->∀(a:Act) (w:World) (o:Oper),ops[j]? = some o->(∀t,t<base->a.eval (.tmp t)=tmv s.a0 t)->(∀i,i<m->i≠iA->LK ops j i=true->a.eval (.tmp (base+i))=s.val i)->s.Sf w->(execOp a.eval o).run P w = .ok (.value (s.val j)) w){Q:Exit->Act->World->Prop}(listed:Array Bool)(a:Act)(w:World)(i:Nat)(o:Oper)(bz:listed.size=ops.size)(hc:Lh ops.toList listed)(hJ:NJ m iB iA base nt s listed a w)(ho:ops[i]? = some o)(au:¬ Lst listed i)(ao:Q2d listed o.after.toList) :
  wpOp P ops Q i (λa' w'=>NJ m iB iA base nt s (listed.setIfInBounds i true) a' w') a w:=by
 obtain⟨l1,l2,l3,l4,l5,l6,l7,l8,l9,cg,cq⟩:=F.lt;have ar:=F.wA;simp only[Qry]at ar;have br:i<m+1:=by have:=(Qrw.1 ho).1;rwa [F.size]at this
 have b9:i<listed.size:=by rw[bz,F.size];exact br
 have aa:∀j,Lst (listed.setIfInBounds i true) j↔j=i\/Lst listed j:=λj=>SQ b9
 by_cases e:i=m
 ·subst e;have an:∀j,j<i->Lst listed j:=λj hj=>F.pre ho ao hc hj
  obtain⟨o',p1,p2,p3,p4⟩:=F.oS.ex;obtain rfl:o=o':=by rw[ho]at p1;injection p1
  have hm:s.Mid (tmv a (base+iA)) w:=by
   rcases hJ.stage with⟨h,_⟩|⟨_,h,_⟩|⟨_,_,h⟩|⟨h,_⟩
   ·exact absurd (an iB l3) h
   ·exact absurd (an iA l4) h
   ·exact h
   ·exact absurd h au
  have bc:s.vb<s.ws.heap.size:=(Qrw.1 ay).1;have a9:w.heap[s.vb]? = some (.cells ak ax (0,0)):=(NS.sf3 hm s.vb bc b2).trans ay;have a4:(tmv a (base+iA)).oneCell'=true/\(tmv a (base+iA)).cells = #[tmv a (base+iA)]:=by
   rcases hm.2.1.2 with⟨h,_⟩|⟨g,cap,cu,h,_⟩<;>rw[h]<;>exact⟨rfl,rfl⟩
  have bp:w.frozen? ⟨s.vb,s.pos,none⟩=false:=frozen_of_row w s.vb s.pos ak ax a9;have b6:w.cell? ⟨s.vb,s.pos,none⟩=some ak[s.pos]:=by rw[cell_of_row w s.vb s.pos ak ax (0,0) a9,QrC a7]
  have ba:(storeCells ⟨s.vb,s.pos,none⟩ (tmv a (base+iA)).cells.toList).run P w = .ok () (w.setCell ⟨s.vb,s.pos,none⟩ (tmv a (base+iA))):=by
   rw[a4.2];have hst:=run_store P w ⟨s.vb,s.pos,none⟩ (tmv a (base+iA)) .plain a4.1;simp only[stored,b6,bp]at hst;simp[storeCells,Jy,Sem.run_bind,hst,Result.andThen_ok]
  refine Q91 ho p2 p4 (Pp p3 (ad:=⟨s.vb,s.pos,none⟩) ?_ (Pb hS (by rw[Uj,a4.2,b5];rfl) ba)) ?_
  ·rw[Uj,hJ.vals iP l5 l9 (an iP l5),hp]
  ·exact⟨hJ.sz,hJ.df,hJ.old,λj hj aj hl=>hJ.vals j hj aj (((aa j).1 hl).resolve_left I),.inr (.inr (.inr ⟨(aa i).2 (.inl rfl),_,w,hm,rfl⟩))⟩
 have az:i<m:=I
 have am:¬ Lst listed m:=λh=>au (F.cl hc h az)
 have ai:∀(v:Value) (t:Nat),tmv (a.put (some (base+i)) v) t=if t=base+i then v else tmv a t:=λv t=>Ak (by rw[hJ.sz];omega) t
 have a3:¬ Lst (listed.setIfInBounds i true) m:=λh=>am (((aa m).1 h).resolve_left I)
 have mk:∀(v:Value) (w':World),(i≠iA->v=s.val i)->((¬ Lst (listed.setIfInBounds i true) iB/\¬ Lst (listed.setIfInBounds i true) iA/\w'=s.ws)\/(Lst (listed.setIfInBounds i true) iB/\¬ Lst (listed.setIfInBounds i true) iA/\w'=s.w2)\/(Lst (listed.setIfInBounds i true) iA/\s.Mid (tmv (a.put (some (base+i)) v) (base+iA)) w')) ->
   NJ m iB iA base nt s (listed.setIfInBounds i true) (a.put (some (base+i)) v) w':=λv w' hv hst=>by
  refine⟨by simp[Act.put,hJ.sz],hJ.df,λt ht=>?_,λj hj aj hl=>?_,?_⟩
  ·rw[ai,QrD I];exact hJ.old t ht
  ·rw[ai];by_cases ej:j=i
   ·subst ej;rw[if_pos rfl];exact hv aj
   ·rw[QrD I];exact hJ.vals j hj aj (((aa j).1 hl).resolve_left ej)
  ·rcases hst with⟨h1,h2,h3⟩|⟨h1,h2,h3⟩|⟨h1,h2⟩
   ·exact .inl ⟨h1,h2,a3,h3⟩
   ·exact .inr (.inl ⟨h1,h2,a3,h3⟩)
   ·exact .inr (.inr (.inl ⟨h1,a3,h2⟩))
 obtain⟨o',q1,q2,q3⟩:=F.at az;obtain rfl:o=o':=by rw[ho]at q1;injection q1
 by_cases eB:i=iB
 ·subst eB;have hw:w=s.ws/\¬ Lst listed iA:=by
   rcases hJ.stage with⟨_,h1,_,h2⟩|⟨h,_⟩|⟨h,_⟩|⟨h,_⟩
   ·exact⟨h2,h1⟩
   ·exact absurd h au
   ·exact absurd (TD ar.1.2 hc h) au
   ·exact absurd h am
  obtain⟨rfl,hA⟩:=hw;exact HI ho q2 q3 (aw a o (by rw[Uj,hJ.vals iV l2 l8 (Rx ar.2 ho ao),hu]) ho) (mk _ _ (λ_=>hb.symm) (.inr (.inl ⟨(aa _).2 (.inl rfl),λh=>hA (((aa _).1 h).resolve_left (λe=>l7 e.symm)),rfl⟩)))
 by_cases eA:i=iA
 ·subst eA;have a6:=Rx ar.1.2 ho ao;have bn:=Rx ar.1.1 ho ao;have hw:w=s.w2:=by
   rcases hJ.stage with⟨h,_⟩|⟨_,_,_,h⟩|⟨h,_⟩|⟨h,_⟩
   ·exact absurd a6 h
   ·exact h
   ·exact absurd h au
   ·exact absurd h am
  subst hw;obtain⟨o',p1,p2,p3,p4⟩:=F.oA.ex;obtain rfl:o=o':=by rw[ho]at p1;injection p1
  have b4:s.ws.grownBy s.w2 none:=QrG _ _ none;have a2:s.w2.ownsRow s.B s.ety s.k s.x s.n s.xs:=bb.kept b4 (Classical.em _);have b3:s.u.cells.toList.length=s.k:=by simp[bv]
  have bg:∀(j:Nat) (v:Value),s.u.cells.toList[j]? = some v->s.w2.cell? ((⟨s.ws.heap.size,0,none⟩:Addr).add j)=some v:=World.news_of_block (heap_alloc_new _ _);have a8:s.w2.heap.size=s.ws.heap.size+1:=by simp[NS.w2]
  obtain⟨v',w',g1,g2,g3,_,g5⟩:=run_append_own_at (P:=P) s.w2 s.B sty o.type s.ety ti z s.k ti.bytes bl hi hz bj rfl bm hk s.x s.n s.xs a2 ⟨s.ws.heap.size,0,none⟩ 1 1 s.u.cells.toList (by rw[b3,Nat.one_mul]) bg b1 (by unfold maxLen;omega)
   (by have:=Nat.mul_le_mul (show s.n+1<=1000001 by omega) bo;omega) I
  refine HI ho q2 q3 (GF p3 rfl rfl rfl (v':=v') (w':=w') ?_) (mk _ _ (λh=>absurd rfl h) (.inr (.inr ⟨(aa _).2 (.inl rfl),?_⟩)))
  ·rw[Uj,Uj,hJ.vals iX l1 l6 bn,hJ.vals iB l3 l7 a6,hx,hb];exact g1
  ·rw[ai,if_pos rfl];exact⟨g3,g2,g5.imp id λh=>by rw[h,a8]⟩
 ·refine HI ho q2 q3 (hq i az eB eA a w o ho (λt ht=>by rw[Uj];exact hJ.old t (.inl ht)) (λj hj aj hw=>by rw[Uj];exact hJ.vals j hj aj (Rx hw ho ao)) ?_) (mk _ _ (λ_=>rfl) ?_)
  ·rcases hJ.stage with⟨_,_,_,rfl⟩|⟨_,_,_,rfl⟩|⟨_,_,h⟩|⟨h,_⟩
   ·exact λ_ _ _=>rfl
   ·exact NS.sf2 s
   ·exact NS.sf3 h
   ·exact absurd h am
  ·have b7:Lst (listed.setIfInBounds i true) iB↔Lst listed iB:=by rw[aa];exact⟨λh=>h.resolve_left (λe=>eB e.symm),.inr⟩
   have b8:Lst (listed.setIfInBounds i true) iA↔Lst listed iA:=by rw[aa];exact⟨λh=>h.resolve_left (λe=>eA e.symm),.inr⟩
   rw[b7,b8,ai,QrD I];rcases hJ.stage with⟨h1,h2,_,h3⟩|⟨h1,h2,_,h3⟩|⟨h1,_,h2⟩|⟨h,_⟩
   ·exact .inl ⟨h1,h2,h3⟩
   ·exact .inr (.inl ⟨h1,h2,h3⟩)
   ·exact .inr (.inr ⟨h1,h2⟩)
   ·exact absurd h am
theorem AY(hm:P.follows .mixedOrders=true){id:Nat}(a7:s.a0.tmps.size=nt)(hx:s.val iX=s.x)(hu:s.val iV=s.u)(hb:s.val iB = .slice (some ⟨s.ws.heap.size,0,none⟩) 1 1)(hp:s.val iP = .pointer (some ⟨s.vb,s.pos,none⟩))(ai:s.ws.ownsRow s.B s.ety s.k s.x s.n s.xs)(hB:s.B<=s.ws.heap.size)(hn:s.n<=1000000)(ax:s.x.ownBlock≠some s.vb){ak:Array Value}{a2:TypeId}(am:s.ws.heap[s.vb]? = some (.cells ak a2 (0,0)))(aj:s.pos<ak.size){ti:TypeInfo}{z:Value}(a5:P.underlying sty=some (.slice s.ety))(hi:P.info? s.ety=some ti)(hz:ti.zero=some z)(az:ti.size=s.k)(a6:z.cells.size=s.k)(hk:0<s.k)(a3:ti.bytes<=100)(a4:s.u.cells.size=s.k)(aw:∀v∈s.u.cells.toList,v.oneCell'=true){tS:TyI}(hS:TyOk P sty tS)(ay:tS.size=1)(aa:∀(a:Act) (o:Oper),a.eval (.tmp (base+iV))=s.u->ops[iB]? = some o->(execOp a.eval o).run P s.ws = .ok (.value (.slice (some ⟨s.ws.heap.size,0,none⟩) 1 1)) s.w2)(hq:∀j,j<m->j≠iB->j≠iA->∀(a:Act) (w:World) (o:Oper),ops[j]? = some o->(∀t,t<base->a.eval (.tmp t)=tmv s.a0 t)->(∀i,i<m->i≠iA->LK ops j i=true->a.eval (.tmp (base+i))=s.val i)->s.Sf w->(execOp a.eval o).run P w = .ok (.value (s.val j)) w){w0:World}(a8:s.ws={ w0 with drawn:=w0.drawn+1 }){Q:Exit->Act->World->Prop}(hQ:∀a' x' w3,a'.tmps.size=nt->a'.defers=s.a0.defers->(∀t,t<base\/base+m<=t->tmv a' t=tmv s.a0 t)->s.Mid x' w3->Q .normal a' (w3.setCell ⟨s.vb,s.pos,none⟩ x')):(Code.region id ops true).wp P Q s.a0 w0:=by
 refine Q87 (J:=NJ m iB iA base nt s) hm F.edge (Q9C F hx hu hb hp ai hB hn ax am aj a5 hi hz az a6 hk a3 a4 aw hS ay aa hq) (λlisted a' w' hJ an=>?_) ⟨a7,rfl,λ_ _=>rfl,λj _ _ hl=>?_,.inl ⟨?_,?_,?_,a8.symm⟩⟩
 ·have ac:Lst listed m:=an m (by rw[F.size];omega);rcases hJ.stage with⟨_,_,h,_⟩|⟨_,_,h,_⟩|⟨_,h,_⟩|⟨_,x',w3,h1,rfl⟩
  ·exact absurd ac h
  ·exact absurd ac h
  ·exact absurd ac h
  ·exact hQ a' x' w3 hJ.sz hJ.df hJ.old h1
 ·exact absurd hl (by unfold Lst;simp[Array.getD])
 all_goals unfold Lst;simp[Array.getD]
end
end Go.Vx
namespace Go.Vx
def onU{R:Type}(Z:TS)(k:St->oP R):Exit->St->oP R:=λe st=>match e with
 |.normal=>k (nU Z st)
 |_=>none
theorem Q8k{P:Program}{E:Env}{C:VC}(hC:VCOk P C){n:Nat}{c:Code}{Z:TS}{st st':St}(h:Gf C n c st (onU Z some)=some st'){β:Nat->oP Nat}{S:Nat->Prop}{a:Act}{w:World}(hR:Rel E β S st a w){Hd:Nat->Prop}(hO:Off β S (look st.h) w Hd)(hp:∀l,1000000<=l->(look st'.h l).isSome=true->(look st.h l).isSome=true){Q:Exit->Act->World->Prop}(hQ:∀β' S' a' w',Rel E β' S' st' a' w'->Off β' S' (look st'.h) w' Hd->(∀b,Hd b->w'.heap[b]? = w.heap[b]?)->w.heap.size<=w'.heap.size->Q .normal a' w'):c.wp P Q a w:=by
 refine wp_mono (Kp (E:=QbS β S (look st.h) w) hC n c st (onU Z some) st' h a w ⟨β,S,hR.anew⟩) λe a' w' ⟨ac,hX,hk⟩=>?_
 cases e with
 |normal=>
  obtain rfl:nU Z ac=st':=by injection hk
  obtain⟨β',S',aa⟩:=Q17 Z hX;obtain⟨h1,h2⟩:=hO.keep aa;exact hQ β' S' a' w' (hR.back aa hp) h1 h2 aa.hr.fr.size
 |_=>cases hk
end Go.Vx
set_option maxRecDepth 100000
namespace Go.Vx
open Go.Proofs
structure NP where
 h5:LL
 h6:LL
 h7:Int
 la:LL
 lb:LL
 lc:LL
 ld:LL
 p0:Int
 p1:LL
 p2:LL
 p3:LL
 p4:LL
 p5:LL
 p6:LL
 p7:LL
 per:Int
 ev:LL
 ac:LL
 pr2:Int
 ev2:LL
 ac2:LL
 ns:Int
namespace NP
variable(s:NP)
def t0(i:Int)(l:Y (Nat×AV))(q:Y (Nat×AV)):Y (Nat×AV):=(2,.d (.sl 1 s.h5))::(3,.ptr 3 0)::(4,.ptr 4 0)::(8,.ptr 8 0)::(10,.ptr 38 0)::(l++((40,.d (.sl 6 s.h6))::(41,.d (.int .i64 s.h7))::(42,.d (.int .i64 i))::q))
def hp(V:AV)(d:LL)(l:Y (Nat×Ob)):Y (Nat×Ob):=(3,.box [.d (.sl 1 s.la),.d (.sl 1 s.lb),.d (.sl 5 s.lc),.d (.sl 6 s.ld)])::(4,.box [.d (.int .i64 s.p0),.d (.sl 5 s.p1),.d (.sl 2 s.p2),.d (.sl 4 s.p3),.d (.sl 7 s.p4),.d (.sl 4 s.p5),.d (.sl 5 s.p6),.d (.sl 3 s.p7)]) ::
 (8,.box [.d (.int .i64 s.per),.d (.sl 3 s.ev),.d (.sl 6 s.ac)])::(l++[(38,.box [.d (.int .i64 s.pr2),.d (.sl 3 s.ev2),.d (.sl 6 s.ac2),V,.arr 1384,.nil,.nil,.d (.int .i64 s.ns)]),(1384,.arr 3 1 d)])
def sH(i:Int)(V:AV)(d:LL):St:=⟨178,s.t0 i [] [],s.hp V d []⟩
def sA(i:Int)(V:AV)(d:LL)(b:Bool):St:=⟨178,s.t0 i [] [(43,.d (.bool b))],s.hp V d []⟩
def sU(i:Int)(V:AV)(d:LL)(c0 c1 c2 c3 c4 c5:D)(q:Y (Nat×AV)):St:=⟨178,s.t0 i [(11,.d (.int .i64 i)),(12,.ptr 12 0)] q,s.hp V d [(12,.box [.d c0,.d c1,.d c2,.d c3,.d c4,.d c5])]⟩
end NP
def nZ(l:Y (Nat×TA))(q:Y (Nat×TA))(o:Y (Nat×TO)):TS:=⟨178,(2,.l 1)::(3,.ptr 3 0)::(4,.ptr 4 0)::(8,.ptr 8 0)::(10,.ptr 38 0)::(l++((40,.l 6)::(41,tI)::(42,tI)::q)),
 (3,bT 27 [])::(4,bT 36 [])::(8,.box [tI,.l 3,.l 6])::(o++[(38,.box [tI,.l 3,.l 6,.top,.arr 1384,.nil,.nil,tI]),(1384,.arr 3 1)])⟩
def nZU(q:Y (Nat×TA)):TS:=nZ [(11,tI),(12,.ptr 12 0)] q [(12,.box [.x,.x,.x,.x,.x,.x])]
def nvB(n:Nat):VB Tryz.prog:=Xa [⟨59,RU n⟩] []
def nvL:Code:=(Q8D 8 (V6 Tryz.f29)).getD .skip
def nvX:Code:=cB (cL (cR (cR nvL)))
def nv8:Code:=cL nvL
def nv9:Code:=cL nvX
def QjR:Code:=cL (cR nvX)
def QjE:Code:=cL (cR (cR nvX))
def QhR:Code->Code | .cond _ a _=>a | c=>c
def QhA:Code:=QhR (cR (cR (cR nvX)))
def Qji:Code:=cR (cR (cR nvL))
theorem QgB:nvX = .seq nv9 (.seq QjR (.seq QjE (.cond (.tmp 88) QhA .skip))):=by kernel_rfl
theorem Qhj:nvL = .seq nv8 (.seq (.cond (.tmp 43) .skip (.exit 0)) (.seq (.block 1 nvX) Qji)):=by kernel_rfl
section
variable{R:Type} (n:Nat) (s:NP) (i:Int) (v:Value) (d:LL) (k:St->oP R)
theorem QiK:Gf (nvB n).C 0 nv8 (s.sH i (.ex v) d) (onU (nZ [] [(43,.b)] []) k)=k (s.sA i (.ex v) d (decide (i<s.h7))):=by kernel_rfl
theorem Qie:Gf (nvB n).C 0 nv9 (s.sA i (.ex v) d true) (onU (nZU []) k) =
  gb true (Qi s.h6 i) [] λr=>gb true (r[0]?) (.bool false) λc0=>gb true (r[1]?) (.bool false) λc1=>gb true (r[2]?) (.bool false) λc2=>gb true (r[3]?) (.bool false) λc3=>gb true (r[4]?) (.bool false) λc4=>gb true (r[5]?) (.bool false) λc5=>
   k (s.sU i (.ex v) d c0 c1 c2 c3 c4 c5 []):=by kernel_rfl
theorem QfZ(c0 c1 c2 c3 c4 c5:D):Gf (nvB n).C 0 QjR (s.sU i (.ex v) d c0 c1 c2 c3 c4 c5 []) (onU (nZU []) k) =
  gb true (Qk .i64 c3) 0 λaa=>gb true (Qk .i64 c2) 0 λau=>gb true (Qi s.h5 au) [] λan=>gb true (an[0]?) (.bool false) λak=>gb true (Qk .i64 ak) 0 λaj=>
  gb true (Qk .i64 c1) 0 λi64=>gb true (Qi s.h5 i64) [] λam=>gb true (am[0]?) (.bool false) λaw=>gb true (Qk .i64 aw) 0 λao=>gb true (Qk .i64 c3) 0 λar=>
  gb true (Hg n (IntKind.wrap .i64 ((IntKind.wrap .i64 (aj-ao))-ar)) s.per some) 0 λac=>
  gb true (Y5 ((List.length d+List.length [[D.int .i64 (IntKind.wrap .i64 (aa+ac))]])*8)) () λaz=>
   k (s.sU i (.ex v) (d++[[D.int .i64 (IntKind.wrap .i64 (aa+ac))]]) c0 c1 c2 c3 c4 c5 []):=by kernel_rfl
theorem QgV(c0 c1 c2 c3 c4 c5:D):Gf (nvB n).C 0 QjE (s.sU i (.ex v) d c0 c1 c2 c3 c4 c5 []) (onU (nZU [(88,.b)]) k) =
  gb true (Qk .i64 c0) 0 λi71=>gb (!(i71 == (1:Int))) (Qk .i64 c0) 0 λi72=>gb (!(bif (i71 == (1:Int))then true else(i72 == (2:Int)))) (Qk .i64 c0) 0 λi73=>
   k (s.sU i (.ex v) d c0 c1 c2 c3 c4 c5 [(88,.d (.bool (bif (bif (i71 == (1:Int))then true else(i72 == (2:Int)))then true else(i73 == (3:Int)))))]):=by kernel_rfl
theorem Qg1(c0 c1 c2 c3 c4 c5:D)(b:Bool):Gf (nvB n).C 0 Qji (s.sU i (.ex v) d c0 c1 c2 c3 c4 c5 [(88,.d (.bool b))]) (onU (nZ [] [] []) k)=k (s.sH (IntKind.wrap .i64 (i+(1:Int))) (.ex v) d):=by kernel_rfl
end
theorem Ge{w w':World}{B e k n:Nat}{v:Value}{xs:Y Value}(h:w.ownsRow B e k v n xs)(hb:∀g,v.ownBlock=some g->w'.heap[g]? = w.heap[g]?):w'.ownsRow B e k v n xs:=
 ⟨h.1,h.2.imp id λ⟨g,cap,aa,hv,h0,hg,r⟩=>⟨g,cap,aa,hv,h0,(hb g (by rw[hv];rfl)).trans hg,r⟩⟩
def Nb(V:Value)(hd:Y Value)(b:Nat):Prop:=V.ownBlock=some b\/∃x∈hd,x.ownBlock=some b
theorem Q8W{w w':World}{V:Value}{hd:Y Value}{ll:Y LL}(h:NestK 22 3 1 w 0 V hd ll)(hb:∀g,Nb V hd g->w'.heap[g]? = w.heap[g]?):NestK 22 3 1 w' 0 V hd ll:=
 ⟨Ge h.row λg hg=>hb g (.inl hg),λi x l hx hl=>Ge (h.each i x l hx hl) λg hg=>hb g (.inr ⟨x,Qrs hx,hg⟩),h.outer,h.apart⟩
structure NestL(E:Env)(st:St)(V:Value)(hd:List Value)(ll:List LL)(β:Nat->oP Nat)(S:Nat->Prop)(a:Act)(w:World):Prop where
 rel:Rel E β S st a w
 off:Off β S (look st.h) w (Nb V hd)
 nest:NestK 22 3 1 w 0 V hd ll
 new:∀b,Nb V hd b->E.M b\/E.w0.heap.size<=b
 ints:∀l∈ll,∀r∈l,Mb 1 r=true
theorem NestL.run{E:Env}{st st':St}{V:Value}{hd:Y Value}{ll:Y LL}{β:Nat->oP Nat}{S:Nat->Prop}{a:Act}{w:World}(h:NestL E st V hd ll β S a w){n:Nat}{c:Code}{Z:TS}(hx:Gf (nvB n).C 0 c st (onU Z some)=some st')(hp:∀l,1000000<=l->(look st'.h l).isSome=true->(look st.h l).isSome=true){Q:Exit->Act->World->Prop}(hQ:∀β' S' a' w',NestL E st' V hd ll β' S' a' w'->Q .normal a' w'):c.wp Tryz.prog Q a w:=
 Q8k (nvB n).ok hx h.rel h.off hp λβ' S' a' w' h1 h2 h3 h4=>hQ β' S' a' w' ⟨h1,h2,Q8W h.nest h3,h.new,h.ints⟩
def QfL:Array Oper:=match QhA with | .region _ ops _=>ops | _=>#[]
theorem QeO:QhA = .region 12 QfL true:=by kernel_rfl
theorem nvF:NF QfL 18 13 14 15 16 17 89 178 22:=by
 refine⟨by kernel_rfl,by kernel_rfl,by kernel_rfl,Q29 (by kernel_rfl),Q29 (by kernel_rfl),by kernel_rfl,by kernel_rfl,by decide⟩
theorem VQ{ops:Array Oper}{i:Nat}{o:Oper}(ho:ops[i]? = some o){op:Op}(h:(ops[i]?).map (·.op)=some op):o.op=op:=by
 rw[ho]at h;injection h
theorem JO{P:Program}{a:Act}{w:World}{o:Oper}{x:Operand}{v:Value}(ho:o.op = .move x)(hx:a.eval x=v):(execOp a.eval o).run P w = .ok (.value v) w:=by
 unfold execOp;rw[ho];simp[hx]
theorem Q1B{P:Program}{a:Act}{w:World}{o:Oper}{x:Operand}{ad:Addr}(ho:o.op = .nilCheck x)(hx:a.eval x = .pointer (some ad)):(execOp a.eval o).run P w = .ok (.value (.pointer (some ad))) w:=by
 exact Pc ho hx
theorem Ju{a:Act}{w:World}{o:Oper}{x:Operand}(t k:Nat){ad aa:Addr}(ho:o.op = .fieldAddr t x k)(hx:a.eval x = .pointer (some ad))(hf:(Instr.fieldAt t (.pointer (some ad)) k).run Tryz.prog w = .ok (.pointer (some aa)) w):(execOp a.eval o).run Tryz.prog w = .ok (.value (.pointer (some aa))) w:=by
 unfold execOp;rw[ho];simp[hx,hf]
theorem Q46{t:Nat}{ti:TyI}(h:look gtt t=some ti):TyOk Tryz.prog t ti:=DV t ti h
theorem Tf{a:Act}{w:World}{o:Oper}{x:Operand}(t:Nat){ad:Addr}{v:Value}(ho:o.op = .load t x)(hx:a.eval x = .pointer (some ad))(ht:(match look gtt t with | some ti=>!UV ti.kd | none=>false)=true)(hc:w.cell? ad=some v):(execOp a.eval o).run Tryz.prog w = .ok (.value v) w:=by
 split at ht
 ·rename_i ti h1;exact J0 ho hx (VU (Q46 h1) (by simpa using ht) hc)
 ·cases ht
theorem Q9p{a:Act}{w:World}{t:Nat}{v:Value}(h1:v.cells = #[v])(hx:a.eval (.tmp t)=v){o:Oper}(h:o.op = .buildSlice 22 1 #[(0,.tmp t)]) :
  (execOp a.eval o).run Tryz.prog w = .ok (.value (.slice (some ⟨w.heap.size,0,none⟩) 1 1)) (w.alloc (.cells v.cells 3)):=by
 unfold execOp;rw[h];simp[hx,Instr.buildSlice,run_underlying Tryz.underlying22,Tryz.sizeOf3,Tryz.zeroValue3,Instr.fill,newRow,h1];congr 2;apply Array.ext
 ·simp
 ·intro i h1 h2;have hi:i=0:=by simp at h2;omega
  subst hi;simp
theorem QiC:(Tryz.prog.info? 3).map (λi=>(i.zero,i.size,i.bytes))=some (some (.int .i64 0),1,8):=by kernel_rfl
theorem A7{w:World}{b i:Nat}{cs:Array Value}{ty:TypeId}{fz:Nat×Nat}(h:w.heap[b]? = some (.cells cs ty fz))(hi:i<cs.size):w.cell? ⟨b,i,none⟩=some (cs.getD i undef):=by
 simp[World.cell?,h,hi]
theorem RdA.ex_inv{β:Nat->oP Nat}{S:Nat->Prop}{h:Nat->oP Ob}{w:World}{tm:Nat->Value}{v u:Value}(hv:RdA β S h w tm v (.ex u)):v=u:=by
 cases hv with
 |ex=>rfl
 |dang _ _ l hl=>simp[P0]at hl
theorem QfB{E:Env}{s:NP}{i f:Int}{V:Value}{d:LL}{c0 c1 c2 c3 c4 c5:D}{hd:Y Value}{ll:Y LL}{β:Nat->oP Nat}{S:Nat->Prop}{a:Act}{w:World}(h:NestL E (s.sU i (.ex V) d c0 c1 c2 c3 c4 c5 [(88,.d (.bool true))]) V hd ll β S a w)(hf:Qk .i64 c1=some f)(f0:0<=f)(f1:f.toNat<ll.length){l:LL}(hl:ll[f.toNat]? = some l)(hn:l.length<=1000000){Q:Exit->Act->World->Prop}(hQ:∀a' w' x',NestL E (s.sU i (.ex V) d c0 c1 c2 c3 c4 c5 [(88,.d (.bool true))]) V (hd.set f.toNat x') (ll.set f.toNat (l++[[.int .i64 i]])) β S a' w'->Q .normal a' w'):QhA.wp Tryz.prog Q a w:=by
 obtain⟨vb,cap,ak,rfl,_,an,cq,c9,cx,cb⟩:∃g cap ak,V = .slice (some ⟨g,0,none⟩) ll.length cap/\0<=g/\w.heap[g]? = some (.cells ak 22 (0,0))/\ll.length<=cap/\cap<=maxLen/\ak.size=cap*1/\ak.toList.take (ll.length*1)=hd:=by
  rcases h.nest.row.2 with⟨_,h0⟩ | h0
  ·omega
  ·exact h0
 have cr:=h.nest.len;have hx:hd[f.toNat]? = some hd[f.toNat]:=Qrx I;generalize hd[f.toNat]=x at hx;have cc:=h.nest.each _ _ _ hx hl;have bi:x.ownBlock≠some vb:=λe=>h.nest.outer _ _ _ hx e rfl
 obtain⟨sb,ay,b4⟩:=RdA.ptr_inv (h.rel.tm 10 _ rfl);obtain⟨ab,a2,ca⟩:=RdA.ptr_inv (h.rel.tm 12 _ rfl);have b0:tmv a 11 = .int .i64 i:=RdA.int_inv (h.rel.tm 11 _ rfl);obtain⟨cg,ty,cs,fz,e1,e2,_,e4,e5⟩:=h.rel.hr.ob 38 _ rfl;obtain rfl:sb=cg:=by rw[ay]at e1;injection e1
 obtain⟨bz,dl,dt,dz,g1,g2,_,g4,g5⟩:=h.rel.hr.ob 12 _ rfl;obtain rfl:ab=bz:=by rw[a2]at g1;injection g1
 have hV:w.cell? ⟨sb,3,none⟩=some (.slice (some ⟨vb,0,none⟩) ll.length cap):=by
  rw[A7 e2 (by rw[e4];exact Qru rfl),RdA.ex_inv (e5 3 _ rfl)]
 have hF:w.cell? ⟨ab,1,none⟩=some (.int .i64 f):=by
  have co:c1 = .int .i64 f:=M6 hf;have h1:=g5 1 _ rfl;rw[co]at h1;rw[A7 g2 (by rw[g4];exact Qru rfl),RdA.int_inv h1]
 have aw:(look (s.sU i (.ex (.slice (some ⟨vb,0,none⟩) ll.length cap)) d c0 c1 c2 c3 c4 c5 [(88,.d (.bool true))]).h 38).isSome=true:=rfl;have au:(look (s.sU i (.ex (.slice (some ⟨vb,0,none⟩) ll.length cap)) d c0 c1 c2 c3 c4 c5 [(88,.d (.bool true))]).h 12).isSome=true:=rfl;have nS:∀b,Nb (.slice (some ⟨vb,0,none⟩) ll.length cap) hd b->b≠sb/\b≠ab:=λb hb=>⟨λe=>h.off.nO b hb 38 aw (e▸ay),λe=>h.off.nO b hb 12 au (e▸a2)⟩
 have aj:∀g,x.ownBlock=some g->Nb (.slice (some ⟨vb,0,none⟩) ll.length cap) hd g:=λg hg=>.inr ⟨x,Qrs hx,hg⟩
 have a9:=Ky h.rel aw ay;have bb:=Ky h.rel au a2;have bk:vb<w.heap.size:=(Qrw.1 an).1;have a5:ak[f.toNat]? = some x:=by
  rw[<- cb,QrI,if_pos I,QrE]at hx;exact hx
 have ba:f.toNat<ak.size:=(Qrw.1 a5).1;obtain⟨ti,cm,a7⟩:=Qrz.1 QiC;obtain⟨z0,z1⟩:=Prod.mk.inj a7;obtain⟨z1,z2⟩:=Prod.mk.inj z1;have dp:({ w with drawn:=w.drawn+1 }:World).heap=w.heap:=rfl;let s':NS:=⟨a,{ w with drawn:=w.drawn+1 },λj=>match j with
  |0=>.pointer (some ⟨sb,0,none⟩) | 1=>.pointer (some ⟨sb,0,none⟩) | 2=>.pointer (some ⟨sb,3,none⟩) | 3=>.slice (some ⟨vb,0,none⟩) ll.length cap
  |4=>.pointer (some ⟨ab,1,none⟩) | 5=>.int .i64 f | 6=>.pointer (some ⟨sb,0,none⟩) | 7=>.pointer (some ⟨sb,0,none⟩) | 8=>.pointer (some ⟨sb,3,none⟩) | 9=>.slice (some ⟨vb,0,none⟩) ll.length cap
  |10=>.pointer (some ⟨ab,1,none⟩) | 11=>.int .i64 f | 12=>.pointer (some ⟨vb,f.toNat,none⟩) | 13=>x | 14=>.int .i64 i | 15=>.slice (some ⟨w.heap.size,0,none⟩) 1 1 | 16=>undef | _=>.pointer (some ⟨vb,f.toNat,none⟩),
  x,.int .i64 i,0,l.length,1,3,cellsOf l,vb,f.toNat⟩
 rw[QeO];have ce:∀w',s'.Sf w'->w'.heap[sb]? = w.heap[sb]?/\w'.heap[ab]? = w.heap[ab]?/\w'.heap[vb]? = w.heap[vb]?:=λw' hw=>⟨hw sb a9 (λe=>(nS sb (aj sb e)).1 rfl),hw ab bb (λe=>(nS ab (aj ab e)).2 rfl),hw vb bk bi⟩
 refine AY nvF (s:=s') (by kernel_rfl) h.rel.n rfl rfl rfl rfl (cc:w.ownsRow 0 3 1 x l.length (cellsOf l)) (Nat.zero_le _) hn bi (an:w.heap[vb]? = _) ba Tryz.underlying22 cm z0 z1 rfl Nat.one_pos (by rw[z2];decide) rfl (by simp[Value.cells,Value.oneCell']) (Q46 (t:=22) rfl) rfl
  (λa' o ha ho=>Q9p rfl ha (VQ ho (by kernel_rfl))) (λj hj hB hA a' w' o ho am aa cn=>?_) (w0:=w) rfl (λa' x' w3 br b6 bp a6=>?_)
 ·obtain⟨q1,q2,q3⟩:=ce w' cn;have cV:w'.cell? ⟨sb,3,none⟩=some (.slice (some ⟨vb,0,none⟩) ll.length cap):=by rw[<- hV];simp only[World.cell?,q1]
  have cF:w'.cell? ⟨ab,1,none⟩=some (.int .i64 f):=by rw[<- hF];simp only[World.cell?,q2]
  have cX:w'.cell? ⟨vb,f.toNat,none⟩=some x:=by simp only[World.cell?,q3,an];simpa using a5
  have a8:=(am 10 Q1).trans b4;have b7:=(am 11 Q1).trans b0;have bj:=(am 12 Q1).trans ca;have ix:∀{x y:Operand},o.op = .indexAddr 82 x y->a'.eval x = .slice (some ⟨vb,0,none⟩) ll.length cap->a'.eval y = .int .i64 f->(execOp a'.eval o).run Tryz.prog w' = .ok (.value (.pointer (some ⟨vb,f.toNat,none⟩))) w':=λh1 h2 h3=>by
   have:=GR DV h1 (e:=22) (esz:=1) (by rfl) (w:=w') h2 h3 f0 I;rwa [Jy,QrK,Nat.mul_one]at this
  match j,hj with
  |0,_=>exact JO (VQ ho (by kernel_rfl)) a8
  |1,_=>exact Q1B (VQ ho (by kernel_rfl)) (aa 0 Q1 Q1 (by kernel_rfl))
  |2,_=>exact Ju 104 1 (VQ ho (by kernel_rfl)) (aa 1 Q1 Q1 (by kernel_rfl)) (by kernel_rfl)
  |3,_=>exact Tf 82 (VQ ho (by kernel_rfl)) (aa 2 Q1 Q1 (by kernel_rfl)) rfl cV
  |4,_=>exact Ju 57 1 (VQ ho (by kernel_rfl)) bj (by kernel_rfl)
  |5,_=>exact Tf 3 (VQ ho (by kernel_rfl)) (aa 4 Q1 Q1 (by kernel_rfl)) rfl cF
  |6,_=>exact JO (VQ ho (by kernel_rfl)) a8
  |7,_=>exact Q1B (VQ ho (by kernel_rfl)) (aa 6 Q1 Q1 (by kernel_rfl))
  |8,_=>exact Ju 104 1 (VQ ho (by kernel_rfl)) (aa 7 Q1 Q1 (by kernel_rfl)) (by kernel_rfl)
  |9,_=>exact Tf 82 (VQ ho (by kernel_rfl)) (aa 8 Q1 Q1 (by kernel_rfl)) rfl cV
  |10,_=>exact Ju 57 1 (VQ ho (by kernel_rfl)) bj (by kernel_rfl)
  |11,_=>exact Tf 3 (VQ ho (by kernel_rfl)) (aa 10 Q1 Q1 (by kernel_rfl)) rfl cF
  |12,_=>exact ix (VQ ho (by kernel_rfl)) (aa 9 Q1 Q1 (by kernel_rfl)) (aa 11 Q1 Q1 (by kernel_rfl))
  |13,_=>exact Tf 22 (VQ ho (by kernel_rfl)) (aa 12 Q1 Q1 (by kernel_rfl)) rfl cX
  |14,_=>exact JO (VQ ho (by kernel_rfl)) b7
  |15,_=>exact absurd rfl hB
  |16,_=>exact absurd rfl hA
  |j+18,hj=>exact absurd hj I
  |17,_=>exact ix (VQ ho (by kernel_rfl)) (aa 3 Q1 Q1 (by kernel_rfl)) (aa 5 Q1 Q1 (by kernel_rfl))
 ·obtain⟨m1,m2,m3⟩:=a6;have ar:s'.w2.heap.size=w.heap.size+1:=by
   show(World.alloc { w with drawn:=w.drawn+1 } _).heap.size=_;simp
  have cf:({ w with drawn:=w.drawn+1 }:World).grownBy s'.w2 none:=QrG _ _ none;have cj:NestK 22 3 1 { w with drawn:=w.drawn+1 } 0 (.slice (some ⟨vb,0,none⟩) ll.length cap) hd ll:=⟨h.nest.row,h.nest.each,h.nest.outer,h.nest.apart⟩;have b2:=cj.kept cf (.inr (by simp[Value.ownBlock])) (λy _=>by cases y.ownBlock<;>simp);obtain⟨g,hg⟩:∃g,x'.ownBlock=some g:=by
   rcases m2.2 with⟨_,h0⟩|⟨g,cp,cu,h0,_⟩
   ·exact absurd h0 (Nat.succ_ne_zero _)
   ·exact⟨g,by rw[h0];rfl⟩
  have hat:x.ownBlock=some g\/g=s'.w2.heap.size:=by
   rcases m3 with e | e
   ·exact .inl (e.symm.trans hg)
   ·rw[hg]at e;injection e with e
    exact .inr (by rw[ar];exact e)
  have bv:=b2.grow (s:=[D.int .i64 i]) (i:=f.toNat) (vb:=vb) hx hl m2 m1 hg hat rfl rfl;have cz:s'.w2.heap.size<=w3.heap.size:=m1.size;have ao:(w3.setCell ⟨vb,f.toNat,none⟩ x').heap.size=w3.heap.size:=by simp[World.setCell]
  have bg:∀k,k<w.heap.size->¬ Nb (.slice (some ⟨vb,0,none⟩) ll.length cap) hd k->(w3.setCell ⟨vb,f.toNat,none⟩ x').heap[k]? = w.heap[k]?:=λk hk hn=>by
   rw[heap_setCell_other w3 ⟨vb,f.toNat,none⟩ k x' (λe=>hn (.inl (by rw[e];rfl)))];exact NS.sf3 (s:=s') ⟨m1,m2,m3⟩ k hk (λe=>hn (aj k e))
  have ai:∀b,Nb (.slice (some ⟨vb,0,none⟩) ll.length cap) (hd.set f.toNat x') b->Nb (.slice (some ⟨vb,0,none⟩) ll.length cap) hd b\/(b=g/\g=w.heap.size+1):=λb hb=>by
   rcases hb with hb | ⟨y,hy,hb⟩
   ·exact .inl (.inl hb)
   ·rcases List.mem_or_eq_of_mem_set hy with hy | rfl
    ·exact .inl (.inr ⟨y,hy,hb⟩)
    ·rw[hg]at hb;injection hb with hb
     subst hb;rcases hat with e | e
     ·exact .inl (aj _ e)
     ·exact .inr ⟨rfl,by rw[ar]at e;exact e⟩
  have c8:g<w3.heap.size:=(m2.lt g hg).2;refine hQ a' _ x' ⟨Qaa h.rel h.off h.new (by rw[br,h.rel.n];rfl) b6 (λt av ht=>?_) m1.os m1.tape m1.output (by rw[ao];omega) bg,⟨λb hb=>?_,λb hb hS=>?_,λb hb l' bh bc=>?_⟩,bv,λb hb=>?_,λl' ck r hr=>?_⟩
  ·have hm:=Y2 ht;simp only[NP.sU,NP.t0,List.cons_append,List.nil_append,QrO,Prod.mk.injEq,List.not_mem_nil,or_false]at hm;have b3:t<89:=I
   refine⟨bp t (.inl b3),λt' b5=>?_⟩;rcases hm with⟨_,rfl⟩|⟨_,rfl⟩|⟨_,rfl⟩|⟨_,rfl⟩|⟨_,rfl⟩|⟨_,rfl⟩|⟨_,rfl⟩|⟨_,rfl⟩|⟨_,rfl⟩|⟨_,rfl⟩|⟨_,rfl⟩<;>simp[gds,Q07]at b5
  ·rw[ao];rcases ai b hb with h1 | ⟨h1,h2⟩
   ·have:=h.off.lt b h1;omega
   ·omega
  ·rcases ai b hb with h1 | ⟨h1,h2⟩
   ·exact h.off.nS b h1 hS
   ·have:=h.rel.hr.sb b hS;omega
  ·rcases ai b hb with h1 | ⟨h1,h2⟩
   ·exact h.off.nO b h1 l' bh bc
   ·have:=Ky h.rel bh bc;omega
  ·rcases ai b hb with h1 | ⟨h1,h2⟩
   ·exact h.new b h1
   ·have:=h.rel.hr.fr.size;exact .inr I
  ·rcases List.mem_or_eq_of_mem_set ck with h1 | rfl
   ·exact h.ints l' h1 r hr
   ·rcases List.mem_append.1 hr with h1 | h1
    ·exact h.ints l (Qrs hl) r h1
    ·obtain rfl:=List.mem_singleton.1 h1;rfl
def nvR(r:Y D)(l:LL):Prop:=r=[.nl]/\l=[]\/r=[.sl 1 l]
structure RowsOf(rows:LL)(ll:List LL):Prop where
 len:rows.length=ll.length
 at_:∀(i:Nat) (r:List D) (l:LL),rows[i]? = some r->ll[i]? = some l->nvR r l
theorem QgI{r:Y D}{l l':LL}(h:nvR r l)(h1:nv1 r=some l'):l'=l/\l.length<=1000000:=by
 rcases h with⟨rfl,rfl⟩ | rfl
 ·injection h1 with h1
  exact⟨h1.symm,by simp⟩
 ·simp only[nv1]at h1;cases hb:Nat.ble l.length 1000000 with
  |false=>simp[hb]at h1
  |true=>
   simp[hb]at h1;exact⟨h1.symm,Qru hb⟩
theorem RowsOf.row{rows:LL}{ll:Y LL}(h:RowsOf rows ll){f:Int}{l':LL}(h1:QaU rows f=some l'):0<=f/\f.toNat<ll.length/\ll[f.toNat]? = some l'/\l'.length<=1000000:=by
 unfold QaU at h1;obtain⟨r,h2,h3⟩:=QrM.1 h1;obtain⟨f0,f1,f2⟩:=PL h2;have aa:f.toNat<ll.length:=by have:=h.len;omega
 have hl:=Qrx aa;obtain⟨e1,e2⟩:=QgI (h.at_ _ _ _ f2 hl) h3;exact⟨f0,aa,by rw[hl,e1],by rw[e1];exact e2⟩
theorem RowsOf.set{rows:LL}{ll:Y LL}(h:RowsOf rows ll)(f:Nat)(l:LL):RowsOf (rows.set f [.sl 1 l]) (ll.set f l):=by
 refine⟨by simpa using h.len,λi r x hr hx=>?_⟩;rw[List.getElem?_set]at hr hx;by_cases e:f=i
 ·subst e;simp only[if_true]at hr hx;split at hr
  ·split at hx
   ·injection hr with hr
    injection hx with hx
    subst hr hx;exact .inr rfl
   ·cases hx
  ·cases hr
 ·rw[QrD e]at hr hx;exact h.at_ i r x hr hx
theorem Q51{n:Nat}{E:Env}{R:Type}{s:NP}{V:Value}{kk:Int->Bool->LL->LL->oP R}{r:R}{Q:Exit->Act->World->Prop}(hQ:∀i b rows d β S hd ll a w,NestL E (s.sA i (.ex V) d b) V hd ll β S a w->RowsOf rows ll->kk i b rows d=some r->Q (.exit 0) a w) :
  ∀(m:Nat) (i:Int) (rows d:LL) (β:Nat->oP Nat) (S:Nat->Prop) (hd:Y Value) (ll:Y LL) (a:Act) (w:World),NestL E (s.sH i (.ex V) d) V hd ll β S a w->RowsOf rows ll ->
   Xt n s.h5 s.h6 s.h7 s.per kk m i rows d=some r->Code.rounds Tryz.prog nvL Q m a w
 |0,i,rows,d,β,S,hd,ll,a,w,h,ho,hr=>by cases hr
 |m+1,i,rows,d,β,S,hd,ll,a,w,h,ho,hr=>by
  rw[rounds_succ,Qhj];refine wp_seq (h.run (QiK n s i V d some) (λl _ hs=>hs) λβ1 S1 a1 w1 h1=>?_);have aj:=RdA.bool_inv (h1.rel.tm 43 _ rfl);rw[Xt]at hr;cases hb:decide (i<s.h7)with
  |false=>
   rw[hb]at aj h1;simp only[hb,cond_false]at hr;exact wp_seq (wp_cond_false aj (wp_exit (hQ _ _ _ _ _ _ _ _ _ _ h1 ho hr)))
  |true=>
   rw[hb]at aj h1;simp only[hb,cond_true]at hr;refine wp_seq (wp_cond_true aj (wp_skip ?_));obtain⟨b7,hr,bz⟩:=Qy hr;obtain⟨c0,hr,e0⟩:=Qy hr;obtain⟨c1,hr,e1⟩:=Qy hr;obtain⟨c2,hr,e2⟩:=Qy hr;obtain⟨c3,hr,e3⟩:=Qy hr;obtain⟨c4,hr,e4⟩:=Qy hr;obtain⟨c5,hr,e5⟩:=Qy hr;obtain⟨bi,hr,a7⟩:=Qy hr;obtain⟨cu,hr,bv⟩:=Qy hr;obtain⟨b8,hr,br⟩:=Qy hr;obtain⟨cj,hr,bo⟩:=Qy hr;obtain⟨cb,hr,b1⟩:=Qy hr;obtain⟨i64,hr,bn⟩:=Qy hr;obtain⟨cc,hr,b2⟩:=Qy hr;obtain⟨ce,hr,b0⟩:=Qy hr;obtain⟨b9,hr,bj⟩:=Qy hr;obtain⟨ak,hr,bm⟩:=Qy hr;obtain⟨ar,hr,bl⟩:=Qy hr;obtain⟨cr,hr,b3⟩:=Qy hr;obtain⟨i71,hr,aw⟩:=Qy hr;simp only[aw rfl,Qh]at hr;have x9:=Qie n s i V d some;simp only[bz rfl,e0 rfl,e1 rfl,e2 rfl,e3 rfl,e4 rfl,e5 rfl,Qh]at x9;have ao:=QfZ n s i V d some c0 c1 c2 c3 c4 c5;simp only[a7 rfl,bv rfl,br rfl,bo rfl,b1 rfl,bn rfl,b2 rfl,b0 rfl,bj rfl,Qh]at ao;have a8:ak=bi:=by have:=(bm rfl).symm.trans (a7 rfl);injection this
   subst a8;simp only[bl rfl,b3 rfl,Qh]at ao;have az:=QgV n s i V (d++[[D.int .i64 (IntKind.wrap .i64 (ak+ar))]]) some c0 c1 c2 c3 c4 c5;simp only[aw rfl,Qh]at az;refine wp_seq (wp_block ?_);rw[QgB];refine wp_seq (h1.run x9 (λl hl hs=>?_) λβ2 S2 a2 w2 h2=>?_)
   ·have aa:(look ((3,_)::(4,_)::(8,_)::(12,_)::(38,_)::[(1384,_)]) l).isSome=true:=hs;simp only[Xd]at aa;rw[QrD I,QrD I,QrD I,QrD I,QrD I,QrD I]at aa;cases aa
   refine wp_seq (h2.run ao (λl _ hs=>?_) λβ3 S3 a3 w3 h3=>?_)
   ·have aa:(look ((3,_)::(4,_)::(8,_)::(12,_)::(38,_)::[(1384,_)]) l).isSome=true:=hs;simp only[Xd]at aa;rw[QrD I,QrD I,QrD I,QrD I,QrD I,QrD I]at aa;cases aa
   refine wp_seq (h3.run az (λl _ hs=>hs) λβ4 S4 a4 w4 h4=>?_);have ai:=RdA.bool_inv (h4.rel.tm 88 _ rfl);have last:∀(ac:LL) (b:Bool) (au:Y Value) (an:Y LL) (a5:Act) (w5:World),NestL E (s.sU i (.ex V) (d++[[D.int .i64 (IntKind.wrap .i64 (ak+ar))]]) c0 c1 c2 c3 c4 c5 [(88,.d (.bool b))]) V au an β4 S4 a5 w5->RowsOf ac an ->
     Xt n s.h5 s.h6 s.h7 s.per kk m (IntKind.wrap .i64 (i+(1:Int))) ac (d++[[D.int .i64 (IntKind.wrap .i64 (ak+ar))]])=some r->Qji.wp Tryz.prog (Exit.then (Code.rounds Tryz.prog nvL Q m) Q) a5 w5:=λac b au an a5 w5 h5 bk bh=>by
    refine h5.run (Qg1 n s i V _ some c0 c1 c2 c3 c4 c5 b) (λl hl hs=>?_) λβ6 S6 a6 w6 h6=>Q51 hQ m _ ac _ _ _ _ _ _ _ h6 bk bh
    have aa:(look ((3,_)::(4,_)::(8,_)::(38,_)::[(1384,_)]) l).isSome=true:=hs;simp only[Xd]at aa;rw[QrD I,QrD I,QrD I,QrD I,QrD I]at aa;cases aa
   cases hB:(bif (bif (i71 == (1:Int))then true else(i71 == (2:Int)))then true else(i71 == (3:Int)))with
   |false=>
    rw[hB]at ai h4;simp only[hB,cond_false]at hr;exact wp_cond_false ai (wp_skip (last rows false hd ll a4 w4 h4 ho hr))
   |true=>
    rw[hB]at ai h4;simp only[hB,cond_true]at hr;obtain⟨f,hr,ef⟩:=Qy hr;obtain⟨l,hr,el⟩:=Qy hr;obtain⟨f0,f1,hl,hn⟩:=ho.row (el rfl);refine wp_cond_true ai (QfB h4 (ef rfl) f0 f1 hl hn λa5 w5 x' h5=>last _ true _ _ a5 w5 h5 (ho.set f.toNat _) hr)
def NP.sF(s:NP)(i:Int)(q:Y (Nat×AV))(rows d:LL):St:=⟨178,s.t0 i [] q,s.hp (.arr 33) d [(33,.arr 22 1 rows)]⟩
theorem Q98(s:NP)(V:AV)(d:LL)(q:Y (Nat×Ob)){l:Nat}(h1:l≠33)(h2:l≠38)(rows:LL):look (s.hp V d []) l=look (s.hp (.arr 33) d [(33,.arr 22 1 rows)]) l:=by
 show look (_::_::_::_::[_]) l=look (_::_::_::_::_::[_]) l;simp only[Xd,QrD h1,QrD h2]
theorem Q3P{β:Nat->oP Nat}{h h':Nat->oP Ob}{w:World}{l:Nat}(e:h' l=h l):Keep β h w β h' w l:=
 ⟨rfl,λh0=>e.trans h0,λe' s rows h0=>.inr ⟨rows,e.trans h0,rfl⟩,λb cs ty fz _ _ hw=>⟨cs,ty,fz,hw,rfl⟩,λt f h0=>.inr ⟨f,e.trans h0⟩⟩
theorem Qcl{E:Env}{s:NP}{i:Int}{rows d:LL}{a:Act}{w:World}(hX:JB E (s.sF i [] rows d) a w)(hn:rows.all Q9g=true) :
  ∃β S V hd ll,NestL E (s.sH i (.ex V) d) V hd ll β S a w/\RowsOf rows ll:=by
 obtain⟨β,S,hR⟩:=hX;have aa:look (s.sF i [] rows d).h 33=some (.arr 22 1 rows):=rfl;have bg:look (s.sF i [] rows d).h 38=some (.box [.d (.int .i64 s.pr2),.d (.sl 3 s.ev2),.d (.sl 6 s.ac2),.arr 33,.arr 1384,.nil,.nil,.d (.int .i64 s.ns)]):=rfl;obtain⟨sb,ty,cs,fz,e1,e2,e3,e4,e5⟩:=hR.hr.ob 38 _ bg;have ba:=hR.hr.ob 33 _ aa;have ar:∀r∈rows,r=[.nl]:=λr hr=>by
  have:=List.all_eq_true.1 hn r hr;unfold Q9g at this;split at this
  ·rfl
  ·cases this
 have a8:∃V hd,cs.getD 3 undef=V/\hd.length=rows.length/\(∀x∈hd,x = .slice none 0 0)/\w.ownsRow 0 22 1 V rows.length hd/\(V = .slice none 0 0\/∃b,V.ownBlock=some b/\β 33=some b):=by
  have h3:=e5 3 _ rfl;generalize cs.getD 3 undef=V at h3;cases h3 with
  |arr0 _ e' s' hb hh=>
   rw[aa]at hh;injection hh with hh
   injection hh with _ _ hh
   subst hh;exact⟨_,[],rfl,rfl,by simp,World.ownsRow_nil _ _ _ _,.inl rfl⟩
  |arr _ b cap e' s' ak ax b5 b0 hb hh hw bk a4 bc=>
   rw[aa]at hh;injection hh with hh
   injection hh with h1 h2 h3
   subst h1 h2 h3;rcases ba with⟨h0,_⟩|⟨b',b6,aj,am,b1,bv,bh⟩
   ·rw[hb]at h0;cases h0
   ·rw[hb]at aj;injection aj with aj
    subst aj;rw[hw]at am;injection am with am
    injection am with k1 k2 k3
    subst k1;have a5:(ax.toList.take (rows.length*1)).length=rows.length:=by simp;omega
    refine⟨_,ax.toList.take (rows.length*1),rfl,a5,λx hx=>?_,⟨by rw[a5,Nat.mul_one],.inr ⟨b,cap,ax,rfl,Nat.zero_le _,by rw[hw,k2,k3],a4,bc,bk,rfl⟩⟩,.inr ⟨b,rfl,hb⟩⟩;obtain⟨j,hj⟩:=List.getElem?_of_mem hx;have a3:j<rows.length:=by have:=(Qrt.1 hj).1;omega
    have bb:=Qrx a3;rw[ar _ (List.getElem_mem a3)]at bb;obtain⟨v,hv,bm⟩:=bh j 0 _ .nl bb rfl;rw[QrI,if_pos I,QrE]at hj;rw[show j*1+0=j by omega,hj]at hv;injection hv with hv
    subst hv;cases bm;rfl
  |mp _ b t f hb hh=>
   rw[aa]at hh;cases hh
  |dang _ _ l hl hh=>
   simp only[P0,Option.some.injEq]at hl;subst hl;rw[aa]at hh;cases hh
 obtain⟨V,hd,hV,bp,ao,a9,a7⟩:=a8;have an:∀b,Nb V hd b->β 33=some b:=λb hb=>by
  rcases hb with hb | ⟨x,hx,hb⟩
  ·rcases a7 with rfl | ⟨b',h1,h2⟩
   ·cases hb
   ·rw[hb]at h1;injection h1 with h1;rw[h2,h1]
  ·rw[ao x hx]at hb;cases hb
 have ay:∀l,l≠33->l≠38->look (s.hp (.ex V) d []) l=look (s.sF i [] rows d).h l:=λl h1 h2=>Q98 s (.ex V) d [] h1 h2 rows
 have bl:look (s.hp (.ex V) d []) 33=none:=rfl;have ai:∀l,(look (s.hp (.ex V) d []) l).isSome=true->(look (s.sF i [] rows d).h l).isSome=true/\l≠33:=λl hl=>by
  have aw:l≠33:=λe=>by subst e;rw[bl]at hl;cases hl
  by_cases h2:l=38
  ·subst h2;exact⟨rfl,aw⟩
  ·rw[ay l aw h2]at hl;exact⟨hl,aw⟩
 have bi:=hR.upd (β':=β) (S':=S) (w':=w) (H':=s.hp (.ex V) d []) (λ_ h=>h) (λ_ _=>rfl) (λl=>l=33\/l=38) (λl hl=>⟨rfl,ay l (λe=>hl (.inl e)) (λe=>hl (.inr e)),λ_ _ _=>rfl⟩)
  (λl hl=>.inl (by
   rcases hl with rfl | rfl
   ·exact⟨rfl,λh0=>(by cases h0),λe' s' ak h0=>.inl rfl,λb cs ty fz hs=>(by cases hs),λt f h0=>by cases h0⟩
   ·exact⟨rfl,λh0=>(by cases h0),λe' s' ak h0=>(by cases h0),λb cs ty fz _ _ hw=>⟨cs,ty,fz,hw,rfl⟩,λt f h0=>by cases h0⟩))
  (λl o hl ho=>by
   rcases hl with rfl | rfl
   ·cases ho
   ·have az:some (Ob.box [.d (.int .i64 s.pr2),.d (.sl 3 s.ev2),.d (.sl 6 s.ac2),.ex V,.arr 1384,.nil,.nil,.d (.int .i64 s.ns)])=some o:=ho;injection az with az
    subst az;refine⟨sb,ty,cs,fz,e1,e2,⟨e3.1,λj l' t' hj=>?_⟩,e4,λj x hj=>?_⟩
    ·rcases j with _ | _ | _ | _ | _ | _ | _ | _ | j<;>simp at hj
    ·have mv:∀{x:AV},(∀l,Yq l x=true->l≠33/\l≠38)->RdA β S (look (s.sF i [] rows d).h) w tm0 (cs.getD j undef) x->RdA β S (look (s.hp (.ex V) d [])) w tm0 (cs.getD j undef) x:=λhx hr=>hr.mono (λ_ h=>h) (λ_ _=>rfl) (λl hn=>Q3P (ay l (hx l hn).1 (hx l hn).2)) (λ_ _=>rfl)
     rcases j with _ | _ | _ | _ | _ | _ | _ | _ | j
     ·cases hj;exact mv (λl hn=>by simp[Yq]at hn) (e5 0 _ rfl)
     ·cases hj;exact mv (λl hn=>by simp[Yq]at hn) (e5 1 _ rfl)
     ·cases hj;exact mv (λl hn=>by simp[Yq]at hn) (e5 2 _ rfl)
     ·cases hj;rw[hV];exact .ex _
     ·cases hj;exact mv (λl hn=>by simp[Yq]at hn;omega) (e5 4 _ rfl)
     ·cases hj;exact mv (λl hn=>by simp[Yq]at hn) (e5 5 _ rfl)
     ·cases hj;exact mv (λl hn=>by simp[Yq]at hn) (e5 6 _ rfl)
     ·cases hj;exact mv (λl hn=>by simp[Yq]at hn) (e5 7 _ rfl)
     ·cases hj)
  (λl l' b h1 h2=>hR.hr.inj l l' b (ai l h1).1 (ai l' h2).1) (λl b h1=>hR.hr.apart l b (ai l h1).1) (λl b h1=>hR.hr.own l b (ai l h1).1) hR.hr.sb hR.hr.sfr hR.hr.fr
 refine⟨β,S,V,hd,List.replicate rows.length [],⟨bi,⟨λb hb=>?_,λb hb hS=>?_,λb hb l hl aj=>?_⟩,⟨by simpa using a9,λj x l hx hl=>?_,λj x b hx hb=>?_,λj k x y b hx hy a6=>?_⟩,λb hb=>?_,λl hl r hr=>?_⟩,⟨by simp,λj r l hr hl=>?_⟩⟩
 ·exact Ky hR (l:=33) (by rw[aa];rfl) (an b hb)
 ·exact hR.hr.apart 33 b (by rw[aa];rfl) (an b hb) hS
 ·exact(ai l hl).2 (hR.hr.inj l 33 b (ai l hl).1 (by rw[aa];rfl) aj (an b hb))
 ·obtain⟨_,rfl⟩:=QrA.1 (Qrs hl);rw[ao x (Qrs hx)];exact World.ownsRow_nil _ _ _ _
 ·rw[ao x (Qrs hx)]at hb;cases hb
 ·rw[ao x (Qrs hx)]at a6;cases a6
 ·exact hR.hr.own 33 b (by rw[aa];rfl) (an b hb)
 ·obtain⟨_,rfl⟩:=QrA.1 hl;cases hr
 ·obtain⟨_,rfl⟩:=QrA.1 (Qrs hl);exact .inl ⟨ar r (Qrs hr),rfl⟩
theorem Qft{E:Env}{s:NP}{i:Int}{b:Bool}{V:Value}{rows d:LL}{β:Nat->oP Nat}{S:Nat->Prop}{hd:Y Value}{ll:Y LL}{a:Act}{w:World}(h:NestL E (s.sA i (.ex V) d b) V hd ll β S a w)(ho:RowsOf rows ll) :
  JB E (s.sF i [(43,.d (.bool b))] (rows.map CN) d) a w:=by
 have hR:=h.rel;have bg:=h.nest.len;have ba:look (s.sA i (.ex V) d b).h 38=some (.box [.d (.int .i64 s.pr2),.d (.sl 3 s.ev2),.d (.sl 6 s.ac2),.ex V,.arr 1384,.nil,.nil,.d (.int .i64 s.ns)]):=rfl;obtain⟨sb,ty,cs,fz,e1,e2,e3,e4,e5⟩:=hR.hr.ob 38 _ ba;have hV:cs.getD 3 undef=V:=RdA.ex_inv (e5 3 _ rfl);let β':Nat->oP Nat:=λl=>if l=33 then V.ownBlock else β l
 let S':Nat->Prop:=λk=>S k\/∃x∈hd,x.ownBlock=some k
 have hβ:∀l,l≠33->β' l=β l:=λl hl=>QrD hl
 have ac:β' 33=V.ownBlock:=if_pos rfl;have am:∀l,l≠33->l≠38->look (s.hp (.arr 33) d [(33,.arr 22 1 (rows.map CN))]) l=look (s.sA i (.ex V) d b).h l:=λl h1 h2=>(Q98 s (.ex V) d [] h1 h2 _).symm
 have aj:∀l,l≠33->(look (s.hp (.arr 33) d [(33,.arr 22 1 (rows.map CN))]) l).isSome=true->(look (s.sA i (.ex V) d b).h l).isSome=true:=λl bb hl=>by
  by_cases h2:l=38
  ·subst h2;rfl
  ·rw[am l bb h2]at hl;exact hl
 have ax:∀(j:Nat) (r:Y D),(rows.map CN)[j]? = some r->∃l x,ll[j]? = some l/\hd[j]? = some x/\r=[.sl 1 l]:=λj r hr=>by
  rw[List.getElem?_map]at hr;obtain⟨r0,h0,rfl⟩:=Qrz.1 hr;have hj:j<ll.length:=by have:=(Qrt.1 h0).1;have:=ho.len;omega
  have h1:=Qrx hj;refine⟨_,_,h1,Qrx (show j<hd.length by omega),?_⟩;rcases ho.at_ j r0 _ h0 h1 with⟨rfl,hl⟩ | rfl
  ·rw[hl];rfl
  ·rfl
 have ak:(rows.map CN).length=ll.length:=by simp[ho.len]
 have obs:(V = .slice none 0 0/\ll.length=0)\/∃g cap ai,V = .slice (some ⟨g,0,none⟩) ll.length cap/\0<=g/\w.heap[g]? = some (.cells ai 22 (0,0))/\ll.length<=cap/\cap<=maxLen/\ai.size=cap*1/\ai.toList.take (ll.length*1)=hd:=h.nest.row.2;refine⟨β',S',hR.upd (β':=β') (S':=S') (w':=w) (H':=s.hp (.arr 33) d [(33,.arr 22 1 (rows.map CN))]) (λ_ h=>.inl h) (λ_ _=>rfl) (λl=>l=33\/l=38) (λl hl=>⟨hβ l (λe=>hl (.inl e)),am l (λe=>hl (.inl e)) (λe=>hl (.inr e)),λ_ _ _=>rfl⟩)
  (λl hl=>?_) (λl o hl a7=>?_) (λl l' k h1 h2 h3 h4=>?_) (λl k h1 h2 hS=>?_) (λl k h1 h2=>?_) (λk hS=>?_) (λk hS=>?_) hR.hr.fr⟩
 ·rcases hl with rfl | rfl
  ·exact .inr (by kernel_rfl)
  ·exact .inl ⟨hβ 38 Q1,λh0=>(by cases h0),λe' s' an h0=>(by cases h0),λb cs ty fz _ _ hw=>⟨cs,ty,fz,hw,rfl⟩,λt f h0=>by cases h0⟩
 ·rcases hl with rfl | rfl
  ·have aa:some (Ob.arr 22 1 (rows.map CN))=some o:=a7;injection aa with aa
   subst aa;rcases obs with⟨rfl,h0⟩|⟨g,cap,ai,rfl,_,hg,a6,az,a8,a9⟩
   ·exact .inl ⟨ac,List.eq_nil_of_length_eq_zero I⟩
   ·refine .inr ⟨g,ai,ac,hg,I,λj r hr=>?_,λj k r x hr hx=>?_⟩
    ·obtain⟨l,y,_,_,rfl⟩:=ax j r hr;rfl
    ·obtain⟨l,y,h1,h2,rfl⟩:=ax j r hr;rcases k with _ | k
     ·cases hx;have hj:j<ll.length:=(Qrt.1 h1).1;have h3:=h2;rw[<- a9,QrI,if_pos I,QrE]at h3;exact⟨y,by rw[show j*1+0=j by omega];exact h3,QaL (h.nest.each j y l h2 h1) (h.ints l (Qrs h1)) (λk hk=>.inr ⟨y,Qrs h2,hk⟩)⟩
     ·cases hx
  ·have aa:some (Ob.box [.d (.int .i64 s.pr2),.d (.sl 3 s.ev2),.d (.sl 6 s.ac2),.arr 33,.arr 1384,.nil,.nil,.d (.int .i64 s.ns)])=some o:=a7;injection aa with aa
   subst aa;refine⟨sb,ty,cs,fz,(hβ 38 Q1).trans e1,e2,⟨e3.1,λj l' t' hj=>?_⟩,e4,λj x hj=>?_⟩
   ·rcases j with _ | _ | _ | _ | _ | _ | _ | _ | j<;>simp at hj
   ·have mv:∀{x:AV},(∀l,Yq l x=true->l≠33/\l≠38)->RdA β S (look (s.sA i (.ex V) d b).h) w tm0 (cs.getD j undef) x->RdA β' S' (look (s.hp (.arr 33) d [(33,.arr 22 1 (rows.map CN))])) w tm0 (cs.getD j undef) x:=λhx hr=>hr.mono (λ_ h=>.inl h) (λ_ _=>rfl)
     (λl hn=>⟨hβ l (hx l hn).1,λh0=>(am l (hx l hn).1 (hx l hn).2).trans h0,λe' s' an h0=>.inr ⟨an,(am l (hx l hn).1 (hx l hn).2).trans h0,rfl⟩,λb cs ty fz _ _ hw=>⟨cs,ty,fz,hw,rfl⟩,λt f h0=>.inr ⟨f,(am l (hx l hn).1 (hx l hn).2).trans h0⟩⟩) (λ_ _=>rfl)
    rcases j with _ | _ | _ | _ | _ | _ | _ | _ | j
    ·cases hj;exact mv (λl hn=>by simp[Yq]at hn) (e5 0 _ rfl)
    ·cases hj;exact mv (λl hn=>by simp[Yq]at hn) (e5 1 _ rfl)
    ·cases hj;exact mv (λl hn=>by simp[Yq]at hn) (e5 2 _ rfl)
    ·cases hj;rw[hV];rcases obs with⟨ao,h0⟩|⟨g,cap,ai,ao,_,hg,a6,az,a8,a9⟩
     ·rw[ao];exact .arr0 33 22 1 (by rw[ac,ao];rfl) (by rw[show rows.map CN=[]from List.eq_nil_of_length_eq_zero I];rfl)
     ·rw[ao,<- ak];exact .arr 33 g cap 22 1 _ ai 22 (0,0) (by rw[ac,ao];rfl) rfl hg a8 I az
    ·cases hj;exact mv (λl hn=>by simp[Yq]at hn;omega) (e5 4 _ rfl)
    ·cases hj;exact mv (λl hn=>by simp[Yq]at hn) (e5 5 _ rfl)
    ·cases hj;exact mv (λl hn=>by simp[Yq]at hn) (e5 6 _ rfl)
    ·cases hj;exact mv (λl hn=>by simp[Yq]at hn) (e5 7 _ rfl)
    ·cases hj
 ·by_cases c1:l=33<;>by_cases c2:l'=33
  ·rw[c1,c2]
  ·subst c1;rw[ac]at h3;rw[hβ l' c2]at h4;exact absurd h4 (h.off.nO k (.inl h3) l' (aj l' c2 h2))
  ·subst c2;rw[ac]at h4;rw[hβ l c1]at h3;exact absurd h3 (h.off.nO k (.inl h4) l (aj l c1 h1))
  ·rw[hβ l c1]at h3;rw[hβ l' c2]at h4;exact hR.hr.inj l l' k (aj l c1 h1) (aj l' c2 h2) h3 h4
 ·by_cases c1:l=33
  ·subst c1;rw[ac]at h2;rcases hS with hS | ⟨x,hx,a2⟩
   ·exact h.off.nS k (.inl h2) hS
   ·obtain⟨j,hj⟩:=List.getElem?_of_mem hx;exact h.nest.outer j x k hj a2 h2
  ·rw[hβ l c1]at h2;rcases hS with hS | ⟨x,hx,a2⟩
   ·exact hR.hr.apart l k (aj l c1 h1) h2 hS
   ·exact h.off.nO k (.inr ⟨x,hx,a2⟩) l (aj l c1 h1) h2
 ·by_cases c1:l=33
  ·subst c1;rw[ac]at h2;exact h.new k (.inl h2)
  ·rw[hβ l c1]at h2;exact hR.hr.own l k (aj l c1 h1) h2
 ·rcases hS with hS | hS
  ·exact hR.hr.sb k hS
  ·exact h.off.lt k (.inr hS)
 ·rcases hS with hS | hS
  ·exact hR.hr.sfr k hS
  ·exact .inr (h.new k (.inr hS))
def QdR:Y (Nat×TA):=[(2,.l 1),(3,.ptr 3 0),(4,.ptr 4 0),(8,.ptr 8 0),(10,.ptr 38 0),(40,.l 6),(41,tI),(42,tI)]
def QeY:Y (Nat×TO):=[(3,bT 27 []),(4,bT 36 []),(8,.box [tI,.l 3,.l 6]),(33,.arr 22 1),(38,.box [tI,.l 3,.l 6,.arr 33,.arr 1384,.nil,.nil,tI]),(1384,.arr 3 1)]
def Qkk:Y XT:=[xT 178 QdR QeY 567226642684 (xE 0 [(43,.b)])]
abbrev QiP(R:Type):Type:=(h5 h6:LL)->(h7 aa:Int)->(Int->Bool->LL->LL->oP R)->Nat->Int->LL->LL->oP R
theorem QbI:∀R,QiP R=PT (ltM QdR (ltH QeY)) 567226642684 Qkk R:=by intro R;kernel_rfl
def Qb3(n m:Nat):N6:=LpU ⟨178,QdR,QeY⟩ λR k=>Qfc (ltM QdR (ltH QeY)) (Qd1 (cast (QbI R) (@Ys R n)) m k)
theorem QgX(n m:Nat):QbZ Tryz.prog nvL (Qb3 n m):=by
 intro E R st k r h a w hR;unfold Qb3 LpU at h;split at h
 rotate_left
 ·cases h
 rename_i ls an;obtain⟨hb,h⟩:=Xm h;obtain⟨v,rfl⟩:=Fb hb;have hX:JB E (fiS ⟨178,QdR,QeY⟩ (toL _ v)) a w:=by
  rw[Ee an];exact Q17 _ hR
 obtain⟨h5,h6,h7,i,la,lb,lc,ld,p0,p1,p2,p3,p4,p5,p6,p7,per,ev,ac,rows,pr2,ev2,ac2,ns,d,u⟩:=v;have h':Ys n h5 h6 h7 per (λa b c d=>k (.exit 0) (NP.sF ⟨h5,h6,h7,la,lb,lc,ld,p0,p1,p2,p3,p4,p5,p6,p7,per,ev,ac,pr2,ev2,ac2,ns⟩ a [(43,.d (.bool b))] c d)) m i rows d=some r:=h;have ak:JB E (NP.sF ⟨h5,h6,h7,la,lb,lc,ld,p0,p1,p2,p3,p4,p5,p6,p7,per,ev,ac,pr2,ev2,ac2,ns⟩ i [] rows d) a w:=hX;unfold Ys at h';obtain⟨hn,h'⟩:=Xm h';obtain⟨β,S,V,hd,ll,hN,ho⟩:=Qcl ak hn;exact wp_loop_rounds m (Q51 (n:=n) (s:=⟨h5,h6,h7,la,lb,lc,ld,p0,p1,p2,p3,p4,p5,p6,p7,per,ev,ac,pr2,ev2,ac2,ns⟩) (λi' b ai d' β' S' au ar a' w' aj am hk=>⟨_,Qft aj am,hk⟩) m i rows d β S hd ll a w hN ho h')
def Nk(n m:Nat):LpE Tryz.prog where
 r:=8
 c:=nvL
 L:=Qb3 n m
 t:=λst=>(rdS ⟨178,QdR,QeY⟩ (nU ⟨178,QdR,QeY⟩ st)).isSome
 ok:=QgX n m
end Go.Vx
set_option maxRecDepth 100000
namespace Go.Vx
open Go.Proofs
variable(n:Nat)
def QiV:TT:=(22,⟨.sl 3 1,1,24,[.slice none 0 0],[.nl],[],none⟩)::gtt
theorem Qf9:TOk Tryz.prog QiV:=λt ti h=>by
  unfold QiV at h
  rw[Xd]at h
  split at h
  · rename_i e
    subst e
    injection h with h
    subst h
    have h:=Q46 (t:=22) rfl
    exact⟨h.inf,h.one,h.kint,h.kbool,h.kstr,h.ksl,h.kstruct,h.karr,h.keq,h.zlen,λ_ j x hj=>by
      rcases j with _ | j
      · cases hj
        exact⟨_,rfl,λ_ _=>.nl⟩
      · (cases hj),h.kmpb,h.kmap⟩
  · exact DV t ti h
def Kf:BZ9:=⟨⟨A6 (QbQ [⟨57,Bs n⟩,⟨58,El n⟩,⟨59,RU n⟩]),QiV,[(7,⟨[],[],[],[(38,4,1384,3,1)],[]⟩),(14,⟨[],[],[],[(38,5,1385,3,1),(38,6,1386,3,1)],[]⟩)]⟩,AA (Bm _),Qf9,by kernel_rfl⟩
def Nl:LZ9:=mkU (Kf n).ok nT 15 Tryz.f29 [Qmy,Qng,(10,.ptr 38 0),(109,.l 3),(110,tI),(111,tI)] [Qn3,(4,bT 36 []),(33,.arr 22 1),(38,.box [tI,.l 3,.l 6,.arr 33,.arr 1384,.arr 1385,.arr 1386,tI]),(1384,.arr 3 1),(1385,.arr 3 1),(1386,.arr 3 1)] 83682904621 [xE 2 [(112,.b)]] @Yr n
def Mp:EZ9 29:=mkX (Kf n).ok [Nk n n,Nl n n] 29 Tryz.f29 [eA [qL 1,qL 1,qL 5,qL 6],eA [qI,qL 5,qL 2,qL 4,qL 7,qL 4,qL 5,qL 3],sL 1] [eT 2,eU,sI] [eT 2,eP 38 8,sI,sL 3,sL 6,eR 33 22 1,eR 1384 3 1,eR 1385 3 1,eR 1386 3 1,sI,sI] 0 @Yb n
def Hz:BZ9:=Xa [⟨29,Mp n⟩,⟨30,TK n⟩,⟨31,KC n⟩,⟨32,HZ n⟩,⟨33,Tm n⟩,⟨34,Tw n⟩] [(8,⟨[],[],[],[],[50042,50045]⟩),(13,⟨[],[],[(19,1019,3,1)],[],[]⟩)]
def CI:LZ9:=mkU (Hz n).ok nT 16 Tryz.f10 [(13,.ptr 50027 0),(16,.l 1),(17,.l 1),Qnr,(19,.arr 1019),(20,tI),(55,.l 1),(56,tI),(57,tI)] Qp3 2188810 [.f (.exit 2) [(13,.ptr 50027 0),(16,.l 1),(17,.l 1),(18,tI),(19,.arr 69),(20,tI),(22,tI)] [(69,.arr 3 1),(50027,.box [tI,.l 3,.l 6,.arr 50065,.arr 100065,.arr 150065,.arr 200065,tI]),(50065,.arr 22 1),(100065,.arr 3 1),(150065,.arr 3 1),(200065,.arr 3 1)] [1,0,3,0,0,0,9,10,11,12,13,14,15,16],xE 2 [(58,.b)]] @Vt n
def CT:LZ9:=mkU (Hz n).ok [CI n n] 14 Tryz.f10 [(13,.ptr 50027 0),(16,.l 1),(17,.l 1),Qnr,(19,.arr 1019),(20,tI)] Qp3 81142 [xE 0 [(54,.b)]] @XL n
def NO:EZ9 10:=mkD (Hz n).ok [CT n n] 10 Tryz.f10 0 @Yf n
end Go.Vx
namespace Go.Vx
section
variable{P:Program}
theorem Q7r{f:Nat}{fn:Func}{c:Code}(hf:P.funcs[f]? = some fn)(hc:fn.body=some c){args:Y AV}(hb:(Nat.ble args.length fn.ntmps&&Ki args)=true){β:Nat->oP Nat}{S:Nat->Prop}{w:World}{vs:Y Value}(hS:∀b,S b->b<w.heap.size)(hA:ArgsRd β S (look ([]:Y (Nat×Ob))) w vs args){R:Ending->World->Prop}(ak:∀a:Act,Rel ⟨w,λ_=>False,S,β⟩ β S { n:=fn.ntmps,tm:=Q2l 0 args,h:=[] } a w->(∀(i:Nat) (v:Value),vs[i]? = some v->tmv a i=v)->c.wp P (bodyPost P fn R) a w):Calls P f vs.toArray w R:=by
 simp only[Qry]at hb;have ao:=Qru hb.1;refine calls_of_wp hf hc ?_;have ai:∀(t:Nat) (v:Value),vs[t]? = some v->tmv { tmps:=vs.toArray++Array.replicate (fn.ntmps-vs.toArray.size) undef,defers:=[] } t=v:=λt v hv=>by
  have aa:=(Qrt.1 hv).1;unfold tmv;have h5:(vs.toArray++Array.replicate (fn.ntmps-vs.toArray.size) undef)[t]? = some v:=by
   rw[Array.getElem?_append_left (by simpa using aa)];simpa using hv
  have h6:=KI (Qrw.1 h5).1;rw[h5]at h6;injection h6 with h6
  exact h6.symm
 refine ak _ ⟨by simp;have:=hA.1;omega,rfl,λt av ht=>?_,⟨λl o h=>(by cases h),λl l' b h=>(by cases h),λl b h=>(by cases h),λl b h=>(by cases h),hS,λb h=>.inl h,λb h=>h,Fr.refl _ _,λ_ _=>rfl,λl b _ h=>(by cases h)⟩⟩ ai;obtain⟨j,hj,ac⟩:=D0 ht;simp only[QrK]at hj;subst hj;have aa:t<vs.length:=by have:=(Qrt.1 ac).1;have:=hA.1;omega
 have hv:=Qrx aa;rw[ai t _ hv];exact(hA.2 t _ av hv ac).mono (λ_ h=>h) (λ_ _=>rfl) (λl _=>Keep.rfl_ ..) (λt' aj=>by rw[Pm t' av (BQ hb.2 ac)]at aj;cases aj)
theorem Qa4{C:VC}(hC:VCOk P C){fn:Func}{a:Act}{w:World}{t:Nat}{n:Int}(hn:a.tmps.size=fn.ntmps)(hd:a.defers=[])(ht:tmv a t = .int .i64 n)(aa:Q0x C.tt ⟨fn.ntmps,[(t,.d (.int .i64 n))],[]⟩ fn.results.toList=some (.d (.int .i64 n))){R:Ending->World->Prop}(hR:R (.returned (.int .i64 n)) w):bodyPost P fn R .ret a w:=by
 have ac:Rel ⟨w,λ_=>False,λ_=>False,λ_=>none⟩ (λ_=>none) (λ_=>False) ⟨fn.ntmps,[(t,.d (.int .i64 n))],[]⟩ a w:=by
  refine⟨hn,hd,λt' av h=>?_,⟨λl o h=>(by cases h),λl l' b h=>(by cases h),λl b h=>(by cases h),λl b h=>(by cases h),λb h=>h.elim,λb h=>.inl h,λb h=>h,Fr.refl _ _,λ_ _=>rfl,λl b _ h=>(by cases h)⟩⟩;rw[Xd]at h;split at h
  ·rename_i e;subst e;injection h with h
   subst h;rw[ht];exact .d _ _ (.int _ _)
  ·cases h
 obtain⟨v,hv,ai,_⟩:=AX hC ac aa;obtain rfl:v = .int .i64 n:=RdA.int_inv ai;exact⟨hd,_,hv,hR⟩
def Q7j{R:Type}(C:VC)(n:Nat):Y Code->St->(St->oP R)->oP R
 |[],st,k=>k st
 |c::r,st,k=>Gf C n c st λe st'=>match e with
  |.normal=>Q7j C n r st' k
  |_=>none
def Q24:Nat->Code->Y Code
 |0,_=>[]
 |k+1,.seq a b=>a::Q24 k b
 |_+1,_=>[]
def QdE:Nat->Code->Code
 |0,c=>c
 |k+1,.seq a b=>QdE k b
 |_+1,c=>c
def QgH:Nat->Code->Bool
 |0,_=>true
 |k+1,.seq _ b=>QgH k b
 |_+1,_=>false
theorem DO{C:VC}(hC:VCOk P C){n:Nat}{R:Type}{kk:St->oP R}{r:R}{E:Env}{Q:Exit->Act->World->Prop}:∀(k:Nat) (c:Code) (st:St),QgH k c=true->Q7j C n (Q24 k c) st kk=some r->∀(a:Act) (w:World),JB E st a w ->
  (∀st' a' w',JB E st' a' w'->kk st'=some r->(QdE k c).wp P Q a' w')->c.wp P Q a w
 |0,c,st,_,h,a,w,hX,hQ=>hQ st a w hX h
 |k+1,c,st,hs,h,a,w,hX,hQ=>by
  cases c with
  |seq x y=>
   refine wp_seq (wp_mono (Kp hC n x st _ r h a w hX) λe a' w' ⟨st',ac,hk⟩=>?_);cases e with
   |normal=>exact DO hC k y st' hs hk a' w' ac hQ
   |_=>cases hk
  |_=>cases hs
end
end Go.Vx
namespace Go.Proofs
open Go.RowKit Go.Vx
def JJ:Code:=Tryz.f114.body.getD .skip
theorem Ao{a:Act}{n:Nat}(hs:a.tmps.size=n)(hd:a.defers=[]):a=⟨((List.range n).map (tmv a)).toArray,[]⟩:=by
 obtain⟨tmps,defers⟩:=a;simp only at hs hd;subst hd;congr 1;apply Array.ext
 ·simp[hs]
 ·intro i h1 h2;simp[tmv,Array.getD,h1]
def Q5f:Code:=cL (cL (cR JJ))
set_option maxHeartbeats 4000000 in
set_option maxRecDepth 100000 in
theorem Tryz.ride1_4_wp(u2 u3 u4 u5 u6 u7 u8 u9 a3 ca c6 dh dr dj cx dn cy c4 c9 dx c2 cz di cu dt dw dy aj cf bo cn bj a5 b5 cc bk b0 bm b7 b2 a9 b9 b3 b6 bz am aw a2 bh a7 ac bi cp bn bl cg a6 co bg cb b8 ck cr b1 bp ce a4 an cj ay ao ba bv ai br bc ak ar b4 ax aa cm au cq a8 az bb:Value)(xb vb cap cw:Nat)(ad:Addr)(w:World)(hc:w.cell? ⟨xb,7,none⟩=some (.slice (some ⟨vb,0,none⟩) 1 cap)){Q:Exit->Act->World->Prop}(hQ:∀(db dp dz dk dg c3 df c8 da cv de du c5 dd dl dq:Value),Q .normal ⟨((.pointer (some ⟨xb,0,none⟩))::(.slice (some ad) 4 cw)::u2::u3::u4::u5::u6::u7::u8::u9::a3::ca::db::dp::dz::dk::dg::c3::df::c8::da::cv::de::du::c5::dd::dl::dq::(.bool false)::aj::cf::bo::cn::bj::a5::b5::cc::bk::b0::bm::b7::b2::a9::b9::b3::b6::bz::am::aw::a2::bh::a7::ac::bi::cp::bn::bl::cg::a6::co::bg::cb::b8::ck::cr::b1::bp::ce::a4::an::cj::ay::ao::ba::bv::ai::br::bc::ak::ar::b4::ax::aa::cm::au::cq::a8::az::bb::[]).toArray,[]⟩ w):Code.wp Tryz.prog Q5f Q ⟨((.pointer (some ⟨xb,0,none⟩))::(.slice (some ad) 4 cw)::u2::u3::u4::u5::u6::u7::u8::u9::a3::ca::c6::dh::dr::dj::cx::dn::cy::c4::c9::dx::c2::cz::di::cu::dt::dw::dy::aj::cf::bo::cn::bj::a5::b5::cc::bk::b0::bm::b7::b2::a9::b9::b3::b6::bz::am::aw::a2::bh::a7::ac::bi::cp::bn::bl::cg::a6::co::bg::cb::b8::ck::cr::b1::bp::ce::a4::an::cj::ay::ao::ba::bv::ai::br::bc::ak::ar::b4::ax::aa::cm::au::cq::a8::az::bb::[]).toArray,[]⟩ w:=by
 conv=>arg 2;whnf
 go_wp2
 all_goals exact hQ _ _ _ _ _ _ _ _ _ _ _ _ _ _ _ _
def Q5E:Code:=cL (cL (cR JJ))
set_option maxHeartbeats 4000000 in
set_option maxRecDepth 100000 in
theorem Tryz.ride1_3_wp(u2 u3 u4 u5 u6 u7 u8 u9 a3 ca c6 dh dr dj cx dn cy c4 c9 dx c2 cz di cu dt dw dy aj cf bo cn bj a5 b5 cc bk b0 bm b7 b2 a9 b9 b3 b6 bz am aw a2 bh a7 ac bi cp bn bl cg a6 co bg cb b8 ck cr b1 bp ce a4 an cj ay ao ba bv ai br bc ak ar b4 ax aa cm au cq a8 az bb:Value)(xb vb cap cw:Nat)(ad:Addr)(w:World)(hc:w.cell? ⟨xb,7,none⟩=some (.slice (some ⟨vb,0,none⟩) 1 cap)){Q:Exit->Act->World->Prop}(hQ:∀(db dp dz dk dg c3 df c8 da cv de du c5 dd dl dq:Value),Q .normal ⟨((.pointer (some ⟨xb,0,none⟩))::(.slice (some ad) 3 cw)::u2::u3::u4::u5::u6::u7::u8::u9::a3::ca::db::dp::dz::dk::dg::c3::df::c8::da::cv::de::du::c5::dd::dl::dq::(.bool false)::aj::cf::bo::cn::bj::a5::b5::cc::bk::b0::bm::b7::b2::a9::b9::b3::b6::bz::am::aw::a2::bh::a7::ac::bi::cp::bn::bl::cg::a6::co::bg::cb::b8::ck::cr::b1::bp::ce::a4::an::cj::ay::ao::ba::bv::ai::br::bc::ak::ar::b4::ax::aa::cm::au::cq::a8::az::bb::[]).toArray,[]⟩ w):Code.wp Tryz.prog Q5E Q ⟨((.pointer (some ⟨xb,0,none⟩))::(.slice (some ad) 3 cw)::u2::u3::u4::u5::u6::u7::u8::u9::a3::ca::c6::dh::dr::dj::cx::dn::cy::c4::c9::dx::c2::cz::di::cu::dt::dw::dy::aj::cf::bo::cn::bj::a5::b5::cc::bk::b0::bm::b7::b2::a9::b9::b3::b6::bz::am::aw::a2::bh::a7::ac::bi::cp::bn::bl::cg::a6::co::bg::cb::b8::ck::cr::b1::bp::ce::a4::an::cj::ay::ao::ba::bv::ai::br::bc::ak::ar::b4::ax::aa::cm::au::cq::a8::az::bb::[]).toArray,[]⟩ w:=by
 conv=>arg 2;whnf
 go_wp2
 all_goals exact hQ _ _ _ _ _ _ _ _ _ _ _ _ _ _ _ _
def Qaj:Code:=cL (cR (cR (cR (cR (cR (cR JJ))))))
set_option maxHeartbeats 4000000 in
set_option maxRecDepth 100000 in
theorem Tryz.ride12_wp(u1 u2 u3 u4 u5 u6 u7 u8 u9 ba de a8 b1 cm b6 ar cc au a2 bb cr az ax b5 aj cn co cv ak cu b3 cz br bc cf cq bv b9 b0 cj ca bj ck cb cg b8 an a4 a9 bo bh ac bp c3 b2 bz cw bg c2 bn cp dd dk dl db da df c8 ao cx a6 aw bk b7 ai b4 bm am ay ce a5 aa cy a3 c4 bi a7 bl:Value)(xb vb cap:Nat)(w:World)(hc:w.cell? ⟨xb,7,none⟩=some (.slice (some ⟨vb,0,none⟩) 1 cap)){Q:Exit->Act->World->Prop}(hQ:∀(c9 c5 c6 dh dg dj di:Value),Q .normal ⟨((.pointer (some ⟨xb,0,none⟩))::u1::u2::u3::u4::u5::u6::u7::u8::u9::ba::(.int .i64 0)::a8::b1::cm::b6::ar::cc::au::a2::bb::cr::az::ax::b5::aj::cn::co::cv::ak::cu::b3::cz::br::bc::cf::cq::bv::b9::b0::cj::ca::bj::ck::cb::cg::b8::an::a4::a9::bo::bh::ac::bp::c3::b2::bz::cw::bg::c2::bn::cp::c9::c5::c6::dh::dg::dj::di::ao::cx::a6::aw::bk::b7::ai::b4::bm::am::ay::ce::a5::aa::cy::a3::c4::bi::a7::bl::[]).toArray,[]⟩ w):Code.wp Tryz.prog Qaj Q ⟨((.pointer (some ⟨xb,0,none⟩))::u1::u2::u3::u4::u5::u6::u7::u8::u9::ba::de::a8::b1::cm::b6::ar::cc::au::a2::bb::cr::az::ax::b5::aj::cn::co::cv::ak::cu::b3::cz::br::bc::cf::cq::bv::b9::b0::cj::ca::bj::ck::cb::cg::b8::an::a4::a9::bo::bh::ac::bp::c3::b2::bz::cw::bg::c2::bn::cp::dd::dk::dl::db::da::df::c8::ao::cx::a6::aw::bk::b7::ai::b4::bm::am::ay::ce::a5::aa::cy::a3::c4::bi::a7::bl::[]).toArray,[]⟩ w:=by
 conv=>arg 2;whnf
 go_wp2
 all_goals exact hQ _ _ _ _ _ _ _
theorem Tryz.ride1_4_a{a:Act}(hs:a.tmps.size=89)(hd:a.defers=[])(xb vb cap cw:Nat)(ad:Addr)(h0:tmv a 0=(.pointer (some ⟨xb,0,none⟩)))(h1:tmv a 1=(.slice (some ad) 4 cw)){w:World}(hc:w.cell? ⟨xb,7,none⟩=some (.slice (some ⟨vb,0,none⟩) 1 cap)){Q:Exit->Act->World->Prop}(hQ:∀a':Act,a'.tmps.size=89->a'.defers=[]->tmv a' 0=tmv a 0->tmv a' 1=tmv a 1->tmv a' 7=tmv a 7->tmv a' 28=(.bool false)->Q .normal a' w):Code.wp Tryz.prog Q5f Q a w:=by
 have e:a=⟨(tmv a 0::tmv a 1::tmv a 2::tmv a 3::tmv a 4::tmv a 5::tmv a 6::tmv a 7::tmv a 8::tmv a 9::tmv a 10::tmv a 11::tmv a 12::tmv a 13::tmv a 14::tmv a 15::tmv a 16::tmv a 17::tmv a 18::tmv a 19::tmv a 20::tmv a 21::tmv a 22::tmv a 23::tmv a 24::tmv a 25::tmv a 26::tmv a 27::tmv a 28::tmv a 29::tmv a 30::tmv a 31::tmv a 32::tmv a 33::tmv a 34::tmv a 35::tmv a 36::tmv a 37::tmv a 38::tmv a 39::tmv a 40::tmv a 41::tmv a 42::tmv a 43::tmv a 44::tmv a 45::tmv a 46::tmv a 47::tmv a 48::tmv a 49::tmv a 50::tmv a 51::tmv a 52::tmv a 53::tmv a 54::tmv a 55::tmv a 56::tmv a 57::tmv a 58::tmv a 59::tmv a 60::tmv a 61::tmv a 62::tmv a 63::tmv a 64::tmv a 65::tmv a 66::tmv a 67::tmv a 68::tmv a 69::tmv a 70::tmv a 71::tmv a 72::tmv a 73::tmv a 74::tmv a 75::tmv a 76::tmv a 77::tmv a 78::tmv a 79::tmv a 80::tmv a 81::tmv a 82::tmv a 83::tmv a 84::tmv a 85::tmv a 86::tmv a 87::tmv a 88::[]).toArray,[]⟩:=Ao hs hd;rw[h0,h1]at e;rw[e];refine Tryz.ride1_4_wp _ _ _ _ _ _ _ _ _ _ _ _ _ _ _ _ _ _ _ _ _ _ _ _ _ _ _ _ _ _ _ _ _ _ _ _ _ _ _ _ _ _ _ _ _ _ _ _ _ _ _ _ _ _ _ _ _ _ _ _ _ _ _ _ _ _ _ _ _ _ _ _ _ _ _ _ _ _ _ _ _ _ _ _ _ _ _ _ _ _ _ _ _ hc λ_ _ _ _ _ _ _ _ _ _ _ _ _ _ _ _=>hQ _ rfl rfl h0.symm h1.symm rfl rfl
theorem Tryz.ride1_3_a{a:Act}(hs:a.tmps.size=89)(hd:a.defers=[])(xb vb cap cw:Nat)(ad:Addr)(h0:tmv a 0=(.pointer (some ⟨xb,0,none⟩)))(h1:tmv a 1=(.slice (some ad) 3 cw)){w:World}(hc:w.cell? ⟨xb,7,none⟩=some (.slice (some ⟨vb,0,none⟩) 1 cap)){Q:Exit->Act->World->Prop}(hQ:∀a':Act,a'.tmps.size=89->a'.defers=[]->tmv a' 0=tmv a 0->tmv a' 1=tmv a 1->tmv a' 7=tmv a 7->tmv a' 28=(.bool false)->Q .normal a' w):Code.wp Tryz.prog Q5E Q a w:=by
 have e:a=⟨(tmv a 0::tmv a 1::tmv a 2::tmv a 3::tmv a 4::tmv a 5::tmv a 6::tmv a 7::tmv a 8::tmv a 9::tmv a 10::tmv a 11::tmv a 12::tmv a 13::tmv a 14::tmv a 15::tmv a 16::tmv a 17::tmv a 18::tmv a 19::tmv a 20::tmv a 21::tmv a 22::tmv a 23::tmv a 24::tmv a 25::tmv a 26::tmv a 27::tmv a 28::tmv a 29::tmv a 30::tmv a 31::tmv a 32::tmv a 33::tmv a 34::tmv a 35::tmv a 36::tmv a 37::tmv a 38::tmv a 39::tmv a 40::tmv a 41::tmv a 42::tmv a 43::tmv a 44::tmv a 45::tmv a 46::tmv a 47::tmv a 48::tmv a 49::tmv a 50::tmv a 51::tmv a 52::tmv a 53::tmv a 54::tmv a 55::tmv a 56::tmv a 57::tmv a 58::tmv a 59::tmv a 60::tmv a 61::tmv a 62::tmv a 63::tmv a 64::tmv a 65::tmv a 66::tmv a 67::tmv a 68::tmv a 69::tmv a 70::tmv a 71::tmv a 72::tmv a 73::tmv a 74::tmv a 75::tmv a 76::tmv a 77::tmv a 78::tmv a 79::tmv a 80::tmv a 81::tmv a 82::tmv a 83::tmv a 84::tmv a 85::tmv a 86::tmv a 87::tmv a 88::[]).toArray,[]⟩:=Ao hs hd;rw[h0,h1]at e;rw[e];refine Tryz.ride1_3_wp _ _ _ _ _ _ _ _ _ _ _ _ _ _ _ _ _ _ _ _ _ _ _ _ _ _ _ _ _ _ _ _ _ _ _ _ _ _ _ _ _ _ _ _ _ _ _ _ _ _ _ _ _ _ _ _ _ _ _ _ _ _ _ _ _ _ _ _ _ _ _ _ _ _ _ _ _ _ _ _ _ _ _ _ _ _ _ _ _ _ _ _ _ hc λ_ _ _ _ _ _ _ _ _ _ _ _ _ _ _ _=>hQ _ rfl rfl h0.symm h1.symm rfl rfl
theorem Tryz.ride12_a{a:Act}(hs:a.tmps.size=89)(hd:a.defers=[])(xb vb cap:Nat)(h0:tmv a 0=(.pointer (some ⟨xb,0,none⟩))){w:World}(hc:w.cell? ⟨xb,7,none⟩=some (.slice (some ⟨vb,0,none⟩) 1 cap)){Q:Exit->Act->World->Prop}(hQ:∀a':Act,a'.tmps.size=89->a'.defers=[]->tmv a' 0=tmv a 0->tmv a' 1=tmv a 1->tmv a' 7=tmv a 7->tmv a' 11=(.int .i64 0)->Q .normal a' w):Code.wp Tryz.prog Qaj Q a w:=by
 have e:a=⟨(tmv a 0::tmv a 1::tmv a 2::tmv a 3::tmv a 4::tmv a 5::tmv a 6::tmv a 7::tmv a 8::tmv a 9::tmv a 10::tmv a 11::tmv a 12::tmv a 13::tmv a 14::tmv a 15::tmv a 16::tmv a 17::tmv a 18::tmv a 19::tmv a 20::tmv a 21::tmv a 22::tmv a 23::tmv a 24::tmv a 25::tmv a 26::tmv a 27::tmv a 28::tmv a 29::tmv a 30::tmv a 31::tmv a 32::tmv a 33::tmv a 34::tmv a 35::tmv a 36::tmv a 37::tmv a 38::tmv a 39::tmv a 40::tmv a 41::tmv a 42::tmv a 43::tmv a 44::tmv a 45::tmv a 46::tmv a 47::tmv a 48::tmv a 49::tmv a 50::tmv a 51::tmv a 52::tmv a 53::tmv a 54::tmv a 55::tmv a 56::tmv a 57::tmv a 58::tmv a 59::tmv a 60::tmv a 61::tmv a 62::tmv a 63::tmv a 64::tmv a 65::tmv a 66::tmv a 67::tmv a 68::tmv a 69::tmv a 70::tmv a 71::tmv a 72::tmv a 73::tmv a 74::tmv a 75::tmv a 76::tmv a 77::tmv a 78::tmv a 79::tmv a 80::tmv a 81::tmv a 82::tmv a 83::tmv a 84::tmv a 85::tmv a 86::tmv a 87::tmv a 88::[]).toArray,[]⟩:=Ao hs hd;rw[h0]at e;rw[e];refine Tryz.ride12_wp _ _ _ _ _ _ _ _ _ _ _ _ _ _ _ _ _ _ _ _ _ _ _ _ _ _ _ _ _ _ _ _ _ _ _ _ _ _ _ _ _ _ _ _ _ _ _ _ _ _ _ _ _ _ _ _ _ _ _ _ _ _ _ _ _ _ _ _ _ _ _ _ _ _ _ _ _ _ _ _ _ _ _ _ _ _ _ _ _ _ _ _ hc λ_ _ _ _ _ _ _=>hQ _ rfl rfl h0.symm rfl rfl rfl
end Go.Proofs
set_option maxRecDepth 100000
namespace Go.Vx
open Go.Proofs
def ppB(n:Nat):VB Tryz.prog:=Xa [⟨157,La n⟩,⟨158,Q43 n⟩] []
def Q1a:Code:=cR (cR JJ)
def Q6D:Code:=cL (cR (cR (cR (cR (cR (cR (cR JJ)))))))
def Qdj:Code:=cL (cR (cR (cR (cR (cR (cR (cR (cR JJ))))))))
def cNo:Code->Code | .cond _ a _=>a | c=>c
theorem QeF:JJ = .seq (cL JJ) (.seq (.seq Q5f (.cond (.tmp 28) (cNo (cR (cL (cR JJ)))) .skip)) Q1a):=by kernel_rfl
theorem Qbq:QdE 4 Q1a = .seq Qaj (.seq Q6D (.seq Qdj .ret)):=by kernel_rfl
theorem QaT:∃ops,Q6D = .region 13 ops true/\NF ops 20 14 15 16 17 19 69 89 88/\ops=(match Q6D with | .region _ ops _=>ops | _=>#[]):=
 ⟨match Q6D with | .region _ ops _=>ops | _=>#[],by kernel_rfl,⟨by kernel_rfl,by kernel_rfl,by kernel_rfl,Q29 (by kernel_rfl),Q29 (by kernel_rfl),by kernel_rfl,by kernel_rfl,by decide⟩,rfl⟩
structure N1(w:World)(xb vb cap:Nat)(cur:Array Value)(rv:Value)(rs:LL):Prop where
 cell:w.cell? ⟨xb,7,none⟩=some (.slice (some ⟨vb,0,none⟩) 1 cap)
 hp:w.heap[vb]? = some (.cells cur 90 (0,0))
 sz:3<cur.size
 c3:cur[3]? = some rv
 own:w.ownsRow 0 130 4 rv rs.length (cellsOf rs)
 ne:rv.ownBlock≠some vb
 nex:rv.ownBlock≠some xb
 xv:xb≠vb
 small:rs.length<=1000
structure Rode(w w':World)(vb:Nat)(cur:Array Value)(rv x':Value)(rs:LL)(r:List D):Prop where
 os:w'.os=w.os
 tape:w'.tape=w.tape
 output:w'.output=w.output
 size:w.heap.size<=w'.heap.size
 blk:∀k,k<w.heap.size->k≠vb->rv.ownBlock≠some k->w'.heap[k]? = w.heap[k]?
 hp:w'.heap[vb]? = some (.cells (cur.setIfInBounds 3 x') 90 (0,0))
 own:w'.ownsRow 0 130 4 x' (rs.length+1) (cellsOf (rs++[r]))
 at_:x'.ownBlock=rv.ownBlock\/∃g,x'.ownBlock=some g/\w.heap.size<=g
theorem QdA:(Tryz.prog.info? 130).map (λi=>(i.zero,i.size,i.bytes))=some (some (.agg #[.int .i64 0,.int .i64 0,.int .i64 0,.int .i64 0]),4,32):=by kernel_rfl
theorem Q9k{a:Act}{w:World}{t:Nat}{p q r s:Int}(hx:a.eval (.tmp t) = .agg #[.int .i64 p,.int .i64 q,.int .i64 r,.int .i64 s]){o:Oper}(h:o.op = .buildSlice 88 1 #[(0,.tmp t)]) :
  (execOp a.eval o).run Tryz.prog w = .ok (.value (.slice (some ⟨w.heap.size,0,none⟩) 1 1)) (w.alloc (.cells #[.int .i64 p,.int .i64 q,.int .i64 r,.int .i64 s] 130)):=by
 have hb:(Instr.buildSlice 88 1 #[(0,.agg #[.int .i64 p,.int .i64 q,.int .i64 r,.int .i64 s])]).run Tryz.prog w = .ok (.slice (some ⟨w.heap.size,0,none⟩) 1 1) (w.alloc (.cells #[.int .i64 p,.int .i64 q,.int .i64 r,.int .i64 s] 130)):=by kernel_rfl
 unfold execOp;rw[h];simp[hx,hb]
theorem Q1i{w:World}{xb vb cap:Nat}{an:Array Value}{rv wv:Value}{rs words:LL}{p q r s:Int}{stF:St}(hN:N1 w xb vb cap an rv rs)(hw:Rd (λb=>b<w.heap.size) w wv (.sl 3 words))(hm:words.length=4\/words.length=3)(hF:Q7j (ppB 40).C 0 (Q24 4 Q1a) ⟨89,[(0,.ex (.pointer (some ⟨xb,0,none⟩))),(1,.d (.sl 3 words))],[]⟩ some=some stF)(h0:look stF.tm 0=some (.ex (.pointer (some ⟨xb,0,none⟩))))(h7:look stF.tm 7=some (.ptr 7 0))(cm:look stF.h 7=some (.box [.d (.int .i64 p),.d (.int .i64 q),.d (.int .i64 r),.d (.int .i64 s)]))(hn:stF.n=89) :
  Calls Tryz.prog 114 #[.pointer (some ⟨xb,0,none⟩),wv] w λe w'=>e = .returned (.int .i64 0)/\∃x',Rode w w' vb an rv x' rs [.int .i64 p,.int .i64 q,.int .i64 r,.int .i64 s]:=by
 refine Q7r (f:=114) (fn:=Tryz.f114) (c:=JJ) (vs:=[.pointer (some ⟨xb,0,none⟩),wv]) (by kernel_rfl) (by kernel_rfl) (args:=[.ex (.pointer (some ⟨xb,0,none⟩)),.d (.sl 3 words)]) rfl (β:=λ_=>none) (S:=λb=>b<w.heap.size) (λb h=>h) ⟨rfl,λi v av hv cf=>?_⟩ λa hR hv=>?_
 ·match i with
  |0=>cases hv;cases cf;exact .ex _
  |1=>cases hv;cases cf;exact .d _ _ hw
  |i+2=>cases hv
 obtain⟨ad,cw,ed⟩:∃ad cw,wv = .slice (some ad) words.length cw:=by
  cases hw with
  |sl0=>rcases hm with h | h<;>cases h
  |sl a cp _ _ f=>exact⟨a,cp,rfl⟩
 rw[QeF];have x0:Gf (ppB 40).C 0 (cL JJ) ⟨89,[(0,.ex (.pointer (some ⟨xb,0,none⟩))),(1,.d (.sl 3 words))],[]⟩ (λe st=>match e with | .normal=>some st | _=>none)=some ⟨89,(4,.d (.int .i64 0))::[(0,.ex (.pointer (some ⟨xb,0,none⟩))),(1,.d (.sl 3 words))],[]⟩:=by kernel_rfl
 refine wp_seq (wp_mono (Kp (ppB 40).ok 0 _ _ _ _ x0 a w ⟨_,_,hR⟩) λe a1 w1 ⟨ec,⟨β1,S1,ai⟩,hk⟩=>?_);cases e with
 |normal=>
  injection hk with hk
  subst hk;have b5:∀k,k<w.heap.size->w1.heap[k]? = w.heap[k]?:=λk hk=>ai.hr.fr.block k hk (λh=>h)
  have a0:tmv a1 0 = .pointer (some ⟨xb,0,none⟩):=RdA.ex_inv (ai.tm 0 _ rfl);obtain⟨ck,n1,ca,am⟩:=RdA.sl_some (ai.tm 1 _ rfl) (r:=words) (λe=>by subst e;rcases hm with h | h<;>cases h);have cr:n1=words.length:=by
   have h1:=ai.tm 1 _ rfl;rw[am]at h1;cases h1 with
   |d _ _ hx=>
    cases hx with
    |sl0=>rcases hm with h | h<;>cases h
    |sl=>rfl
   |dang _ _ l hl=>simp[P0]at hl
  subst cr;have bc:=QrN w ⟨xb,7,none⟩ hN.cell;have ba:vb<w.heap.size:=(Qrw.1 hN.hp).1;have cn:w1.cell? ⟨xb,7,none⟩=some (.slice (some ⟨vb,0,none⟩) 1 cap):=by rw[Gy (w:=w) (b5 xb bc)];exact hN.cell
  have au:∀a2:Act,a2.tmps.size=89->a2.defers=[]->tmv a2 0=tmv a1 0->tmv a2 1=tmv a1 1->tmv a2 7=tmv a1 7->tmv a2 28 = .bool false->(Code.cond (.tmp 28) (cNo (cR (cL (cR JJ)))) .skip).wp Tryz.prog (Exit.then (Q1a.wp Tryz.prog (bodyPost Tryz.prog Tryz.f114 λe w'=>e = .returned (.int .i64 0)/\∃x',Rode w w' vb an rv x' rs [.int .i64 p,.int .i64 q,.int .i64 r,.int .i64 s])) (bodyPost Tryz.prog Tryz.f114 λe w'=>e = .returned (.int .i64 0)/\∃x',Rode w w' vb an rv x' rs [.int .i64 p,.int .i64 q,.int .i64 r,.int .i64 s])) a2 w1:=λa2 z1 z2 z3 z4 _ c4=>by
   refine wp_cond_false c4 (wp_skip ?_);have c5:Rel ⟨w,λ_=>False,λb=>b<w.heap.size,λ_=>none⟩ β1 S1 ⟨89,[(0,.ex (.pointer (some ⟨xb,0,none⟩))),(1,.d (.sl 3 words))],[]⟩ a2 w1:=by
    refine⟨z1,z2,λt av ht=>?_,ai.hr⟩;have b2:=Y2 ht;simp only[QrO,Prod.mk.injEq,List.not_mem_nil,or_false]at b2;rcases b2 with⟨rfl,rfl⟩|⟨rfl,rfl⟩
    ·rw[z3];exact(ai.tm 0 _ rfl).mono (λ_ h=>h) (λ_ _=>rfl) (λl _=>Keep.rfl_ ..) (λt' hg=>by simp[gds]at hg)
    ·rw[z4];exact(ai.tm 1 _ rfl).mono (λ_ h=>h) (λ_ _=>rfl) (λl _=>Keep.rfl_ ..) (λt' hg=>by simp[gds]at hg)
   refine DO (ppB 40).ok 4 Q1a _ (by kernel_rfl) hF a2 w1 ⟨β1,S1,c5⟩ λb8 a3 w3 ⟨β3,S3,ac⟩ hk=>?_
   injection hk with hk
   subst hk;rw[Qbq];have ar:∀k,k<w.heap.size->w3.heap[k]? = w.heap[k]?:=λk hk=>ac.hr.fr.block k hk (λh=>h)
   have bh:w.heap.size<=w3.heap.size:=ac.hr.fr.size;have b0:tmv a3 0 = .pointer (some ⟨xb,0,none⟩):=RdA.ex_inv (ac.tm 0 _ h0);obtain⟨b7,a9,t7⟩:=RdA.ptr_inv (ac.tm 7 _ h7);obtain⟨df,dy,cg,ep,e1,e2,_,e4,e5⟩:=ac.hr.ob 7 _ cm;obtain rfl:b7=df:=by rw[a9]at e1;injection e1
   have ce:(look b8.h 7).isSome=true:=by rw[cm];rfl
   have dd:w.heap.size<=b7:=(ac.hr.own 7 b7 ce a9).resolve_left (λh=>h);have bn:b7<w3.heap.size:=Ky ac ce a9;have b9:w3.cell? ⟨xb,7,none⟩=some (.slice (some ⟨vb,0,none⟩) 1 cap):=by rw[Gy (w:=w) (ar xb bc)];exact hN.cell
   refine wp_seq (Tryz.ride12_a (ac.n.trans hn) ac.dfr xb vb cap b0 b9 λa4 y1 y2 y3 y4 y5 cy=>?_);obtain⟨ops,cv,F,bm⟩:=QaT;rw[cv];have az:∀g,rv.ownBlock=some g->g<w.heap.size:=λg hg=>(hN.own.lt g hg).2
   obtain⟨ti,dh,b3⟩:=Qrz.1 QdA;obtain⟨c9,br⟩:=Prod.mk.inj b3;obtain⟨br,dg⟩:=Prod.mk.inj br;let s':NS:=⟨a4,{ w3 with drawn:=w3.drawn+1 },λj=>match j with
    |0=>.pointer (some ⟨xb,0,none⟩) | 1=>.pointer (some ⟨xb,0,none⟩) | 2=>.pointer (some ⟨xb,4,none⟩) | 3=>.pointer (some ⟨xb,7,none⟩) | 4=>.slice (some ⟨vb,0,none⟩) 1 cap | 5=>.int .i64 0
    |6=>.pointer (some ⟨xb,0,none⟩) | 7=>.pointer (some ⟨xb,0,none⟩) | 8=>.pointer (some ⟨xb,4,none⟩) | 9=>.pointer (some ⟨xb,7,none⟩) | 10=>.slice (some ⟨vb,0,none⟩) 1 cap | 11=>.int .i64 0
    |12=>.pointer (some ⟨vb,0,none⟩) | 13=>.pointer (some ⟨vb,3,none⟩) | 14=>rv | 15=>.agg #[.int .i64 p,.int .i64 q,.int .i64 r,.int .i64 s] | 16=>.slice (some ⟨w3.heap.size,0,none⟩) 1 1 | 17=>undef | 18=>.pointer (some ⟨vb,0,none⟩) | _=>.pointer (some ⟨vb,3,none⟩),
    rv,.agg #[.int .i64 p,.int .i64 q,.int .i64 r,.int .i64 s],0,rs.length,4,130,cellsOf rs,vb,3⟩
   have ao:w3.heap[vb]? = some (.cells an 90 (0,0)):=(ar vb ba).trans hN.hp;have bo:w3.ownsRow 0 130 4 rv rs.length (cellsOf rs):=Ge hN.own λg hg=>ar g (az g hg)
   refine wp_seq (AY F (s:=s') (w0:=w3) (by kernel_rfl) y1 rfl rfl rfl rfl bo (Nat.zero_le _) (QrJ hN.small Q1) hN.ne ao hN.sz Tryz.underlying88 dh c9 br rfl (show 0<4 by decide) (by rw[dg];decide) rfl
    (by simp[s',Value.cells,Value.oneCell']) (Q46 (t:=88) rfl) rfl (λa' o ha ho=>Q9k ha (VQ ho (by subst bm;kernel_rfl))) (λj hj hB hA a' w' o ho bb aa ax=>?_) rfl (λa5 x' w5 cx cz dz b1=>?_))
   ·subst bm;have q1:w'.heap[xb]? = w3.heap[xb]?:=ax xb (Qrv bc bh) hN.nex;have q2:w'.heap[vb]? = w3.heap[vb]?:=ax vb (Qrv ba bh) hN.ne;have q3:w'.heap[b7]? = w3.heap[b7]?:=ax b7 bn (λe=>by have:=az b7 e;omega);have cj:w'.cell? ⟨xb,7,none⟩=some (.slice (some ⟨vb,0,none⟩) 1 cap):=by rw[Gy (w:=w3) q1];exact b9
    have c8:w'.cell? ⟨vb,3,none⟩=some rv:=by simp only[World.cell?,q2,ao];simpa using hN.c3
    have o0:=(bb 0 Q1).trans (y3.trans b0);have o7:=(bb 7 Q1).trans (y5.trans t7);have b4:=(bb 11 Q1).trans cy;have ix:∀{x y:Operand},o.op = .indexAddr 30 x y->a'.eval x = .slice (some ⟨vb,0,none⟩) 1 cap->a'.eval y = .int .i64 0->(execOp a'.eval o).run Tryz.prog w' = .ok (.value (.pointer (some ⟨vb,0,none⟩))) w':=λh1 h2 h3=>by
     have:=GR DV h1 (e:=90) (esz:=4) (by rfl) (w:=w') h2 h3 Q1 Q1;simpa[Jy]using this
    match j,hj with
    |0,_=>exact JO (VQ ho (by kernel_rfl)) o0
    |1,_=>exact Q1B (VQ ho (by kernel_rfl)) (aa 0 Q1 Q1 (by kernel_rfl))
    |2,_=>exact Ju 187 1 (VQ ho (by kernel_rfl)) (aa 1 Q1 Q1 (by kernel_rfl)) (by kernel_rfl)
    |3,_=>exact Ju 36 3 (VQ ho (by kernel_rfl)) (aa 2 Q1 Q1 (by kernel_rfl)) (by kernel_rfl)
    |4,_=>exact Tf 30 (VQ ho (by kernel_rfl)) (aa 3 Q1 Q1 (by kernel_rfl)) rfl cj
    |5,_=>exact JO (VQ ho (by kernel_rfl)) b4
    |6,_=>exact JO (VQ ho (by kernel_rfl)) o0
    |7,_=>exact Q1B (VQ ho (by kernel_rfl)) (aa 6 Q1 Q1 (by kernel_rfl))
    |8,_=>exact Ju 187 1 (VQ ho (by kernel_rfl)) (aa 7 Q1 Q1 (by kernel_rfl)) (by kernel_rfl)
    |9,_=>exact Ju 36 3 (VQ ho (by kernel_rfl)) (aa 8 Q1 Q1 (by kernel_rfl)) (by kernel_rfl)
    |10,_=>exact Tf 30 (VQ ho (by kernel_rfl)) (aa 9 Q1 Q1 (by kernel_rfl)) rfl cj
    |11,_=>exact JO (VQ ho (by kernel_rfl)) b4
    |12,_=>exact ix (VQ ho (by kernel_rfl)) (aa 10 Q1 Q1 (by kernel_rfl)) (aa 11 Q1 Q1 (by kernel_rfl))
    |13,_=>exact Ju 90 3 (VQ ho (by kernel_rfl)) (aa 12 Q1 Q1 (by kernel_rfl)) (by kernel_rfl)
    |14,_=>exact Tf 88 (VQ ho (by kernel_rfl)) (aa 13 Q1 Q1 (by kernel_rfl)) rfl c8
    |15,_=>
     have de:o.op = .load 130 (.tmp 7):=VQ ho (by kernel_rfl);refine J0 de o7 (VY (vs:=[.int .i64 p,.int .i64 q,.int .i64 r,.int .i64 s]) (Q46 (t:=130) rfl) rfl rfl λi v hv=>?_);have dj:cg.size=4:=e4;have ak:∀i,i<4->w'.cell? ⟨b7,i,none⟩=some (cg.getD i undef):=λi hi=>by rw[Gy (w:=w3) (a:=⟨b7,i,none⟩) q3];exact A7 e2 I
     rw[Jy,QrK]
     match i,hv with
     |0,hv=>cases hv;rw[ak 0 Q1,RdA.int_inv (e5 0 _ rfl)]
     |1,hv=>cases hv;rw[ak 1 Q1,RdA.int_inv (e5 1 _ rfl)]
     |2,hv=>cases hv;rw[ak 2 Q1,RdA.int_inv (e5 2 _ rfl)]
     |3,hv=>cases hv;rw[ak 3 Q1,RdA.int_inv (e5 3 _ rfl)]
     |i+4,hv=>cases hv
    |16,_=>exact absurd rfl hB
    |17,_=>exact absurd rfl hA
    |j+20,hj=>exact absurd hj I
    |18,_=>exact ix (VQ ho (by kernel_rfl)) (aa 4 Q1 Q1 (by kernel_rfl)) (aa 5 Q1 Q1 (by kernel_rfl))
    |19,_=>exact Ju 90 3 (VQ ho (by kernel_rfl)) (aa 18 Q1 Q1 (by kernel_rfl)) (by kernel_rfl)
   ·obtain⟨m1,m2,m3⟩:=b1;have b6:s'.w2.heap.size=w3.heap.size+1:=by
     show(World.alloc { w3 with drawn:=w3.drawn+1 } _).heap.size=_;simp
    have ax:=NS.sf3 (s:=s') ⟨m1,m2,m3⟩;have cb:x'.ownBlock≠some vb:=λe=>by
     rcases m3 with e1 | e1
     ·exact hN.ne (e1.symm.trans e)
     ·rw[e]at e1;injection e1 with e1
      have e2:vb=w3.heap.size+1:=e1;omega
    have bp:w5.heap[vb]? = some (.cells an 90 (0,0)):=(ax vb (Qrv ba bh) hN.ne).trans ao;have bz:(w5.setCell ⟨vb,3,none⟩ x').heap.size=w5.heap.size:=by simp[World.setCell]
    have d6:w3.heap.size+1<=w5.heap.size:=b6▸m1.size;have di:Gf (ppB 40).C 0 Qdj ⟨89,[],[]⟩ (λe st=>match e with | .normal=>some st | _=>none)=some ⟨89,[(4,.d (.int .i64 0))],[]⟩:=by kernel_rfl
    have da:Rel ⟨w5.setCell ⟨vb,3,none⟩ x',λ_=>False,λ_=>False,λ_=>none⟩ (λ_=>none) (λ_=>False) ⟨89,[],[]⟩ a5 (w5.setCell ⟨vb,3,none⟩ x'):=
     ⟨cx,cz.trans y2,λt av h=>(by cases h),⟨λl o h=>(by cases h),λl l' b h=>(by cases h),λl b h=>(by cases h),λl b h=>(by cases h),λb h=>h.elim,λb h=>.inl h,λb h=>h,Fr.refl _ _,λ_ _=>rfl,λl b _ h=>(by cases h)⟩⟩
    refine wp_seq (wp_mono (Kp (ppB 40).ok 0 _ _ _ _ di a5 _ ⟨_,_,da⟩) λe a6 w6 ⟨d5,⟨β6,S6,bl⟩,bk⟩=>?_);cases e with
    |normal=>
     injection bk with bk
     subst bk;have a8:=bl.hr.fr;have a7:∀k,k<w5.heap.size->w6.heap[k]? = (w5.setCell ⟨vb,3,none⟩ x').heap[k]?:=λk hk=>a8.block k (by show k<(w5.setCell ⟨vb,3,none⟩ x').heap.size;omega) (λh=>h)
     have d3:w5.heap.size<=w6.heap.size:=bz▸a8.size;refine wp_ret (Qa4 (ppB 40).ok (fn:=Tryz.f114) (t:=4) (n:=0) bl.n bl.dfr (RdA.int_inv (bl.tm 4 _ rfl)) (by kernel_rfl) ⟨rfl,x',a8.os.trans (m1.os.trans ac.hr.fr.os),a8.tape.trans (m1.tape.trans ac.hr.fr.tape),a8.output.trans (m1.output.trans ac.hr.fr.output),I,λk hk c2 cu=>?_,?_,?_,?_⟩)
     ·rw[a7 k I,heap_setCell_other w5 ⟨vb,3,none⟩ k x' c2,ax k (Qrv hk bh) cu];exact ar k hk
     ·rw[a7 vb I];exact heap_setCell_same w5 vb 3 an 90 x' bp
     ·refine Ge (w:=w5.setCell ⟨vb,3,none⟩ x') ?_ λg hg=>a7 g (by have:=(m2.lt g hg).2;omega)
      refine ST ?_ cb _;rw[Ca];exact m2
     ·rcases m3 with e1 | e1
      ·exact .inl e1
      ·exact .inr ⟨_,e1,by show w.heap.size<=w3.heap.size+1;omega⟩
    |_=>cases bk
  rcases hm with h | h
  ·rw[h]at am;exact wp_seq (wp_seq (Tryz.ride1_4_a ai.n ai.dfr xb vb cap ca ck a0 am cn au))
  ·rw[h]at am;exact wp_seq (wp_seq (show Q5E.wp Tryz.prog _ a1 w1 from Tryz.ride1_3_a ai.n ai.dfr xb vb cap ca ck a0 am cn au))
 |_=>cases hk
def w1L(c1 c2 d1 d2 e1 e2 f1 f2:D):LL:=[[.str Q2S,c1,c2],[.str [48],d1,d2],[.str [48],e1,e2],[.str [51,48,46,46,51,48],f1,f2]]
def w2L(c1 c2 d1 d2 e1 e2:D):LL:=[[.str Q2S,c1,c2],[.str [49],d1,d2],[.str [48],e1,e2]]
theorem Di{words:LL}{r:Y D}(h:Q5v words=some r):(∃c1 c2 d1 d2 e1 e2 f1 f2,words=w1L c1 c2 d1 d2 e1 e2 f1 f2/\r=[.int .i64 0,.int .i64 0,.int .i64 30,.int .i64 30])\/∃c1 c2 d1 d2 e1 e2,words=w2L c1 c2 d1 d2 e1 e2/\r=[.int .i64 1,.int .i64 0,.int .i64 0,.int .i64 0]:=by
 unfold Q5v at h;split at h
 ·obtain⟨hb,h⟩:=Xm h;simp only[Qry]at hb;obtain⟨h1,h2,h3,h4⟩:=hb;rw[J5 h1,J5 h2,J5 h3,J5 h4];injection h with h
  exact .inl ⟨_,_,_,_,_,_,_,_,rfl,h.symm⟩
 ·obtain⟨hb,h⟩:=Xm h;simp only[Qry]at hb;obtain⟨h1,h2,h3⟩:=hb;rw[J5 h1,J5 h2,J5 h3];injection h with h
  exact .inr ⟨_,_,_,_,_,_,rfl,h.symm⟩
 ·cases h
def Qgy(xb:Nat)(words:LL):St:=(Q7j (ppB 40).C 0 (Q24 4 Q1a) ⟨89,[(0,.ex (.pointer (some ⟨xb,0,none⟩))),(1,.d (.sl 3 words))],[]⟩ some).getD ⟨0,[],[]⟩
theorem Qcn{w:World}{xb vb cap:Nat}{aa:Array Value}{rv wv:Value}{rs words:LL}{r:Y D}(hN:N1 w xb vb cap aa rv rs)(hw:Rd (λb=>b<w.heap.size) w wv (.sl 3 words))(hr:Q5v words=some r) :
  Calls Tryz.prog 114 #[.pointer (some ⟨xb,0,none⟩),wv] w λe w'=>e = .returned (.int .i64 0)/\∃x',Rode w w' vb aa rv x' rs r:=by
 rcases Di hr with⟨c1,c2,d1,d2,e1,e2,f1,f2,rfl,rfl⟩|⟨c1,c2,d1,d2,e1,e2,rfl,rfl⟩
 ·exact Q1i (stF:=Qgy xb (w1L c1 c2 d1 d2 e1 e2 f1 f2)) hN hw (.inl rfl) (by kernel_rfl) (by kernel_rfl) (by kernel_rfl) (by kernel_rfl) (by kernel_rfl)
 ·exact Q1i (stF:=Qgy xb (w2L c1 c2 d1 d2 e1 e2)) hN hw (.inr rfl) (by kernel_rfl) (by kernel_rfl) (by kernel_rfl) (by kernel_rfl) (by kernel_rfl)
theorem Q3D{P:Program}{ops:Array Oper}{i:Nat}{o:Oper}{dst:oP Nat}(h1:ops[i]? = some o)(h2:o.dst=dst)(h4:o.guard=none){Q:Exit->Act->World->Prop}{K:Act->World->Prop}{a:Act}{w:World}{f:Nat}{args:Array Value}(hr:(execOp a.eval o).run P w = .ok (.enter f args) w){v:Value}{R:World->Prop}(hc:Calls P f args w λe w'=>e = .returned v/\R w')(hK:∀w',R w'->K (a.put dst v) w'):wpOp P ops Q i K a w:=by
 unfold wpOp;simp only[h1,Region.wanted,h4,if_true];left;unfold Oper.wp;rw[hr,Oper.upon_enter];refine hc.mono λe w' ⟨he,hR⟩=>?_
 subst he h2;exact hK w' hR
def M8:Code:=Tryz.f77.body.getD .skip
def Qc6:Code:=cB (cR (cL (cR M8)))
def Q8O:Code->Code | .cond _ _ b=>b | c=>c
def Qj3:Code:=cL (QhR (cR (Q8O (cR Qc6))))
theorem QgR:M8 = .seq (cL M8) (.seq (.seq (cL (cL (cR M8))) (.block 0 Qc6)) (cR (cR M8))):=by kernel_rfl
theorem Qe8:Qc6 = .seq (cL Qc6) (.cond (.tmp 9) (QhR (cR Qc6)) (.seq (cL (Q8O (cR Qc6))) (.cond (.tmp 14) (.seq Qj3 .ret) (Q8O (cR (Q8O (cR Qc6))))))):=by kernel_rfl
def Ck:Array Oper:=match Qj3 with | .region _ ops _=>ops | _=>#[]
theorem QeG:Qj3 = .region 5 Ck false:=by kernel_rfl
def dZ(l:Y (Nat×TA)):TS:=⟨37,(0,.top)::(1,.l 3)::l,[]⟩
def dS(xv:Value)(words:LL)(l:Y (Nat×AV)):St:=⟨37,(0,.ex xv)::(1,.d (.sl 3 words))::l,[]⟩
theorem N1.same{w w':World}{xb vb cap:Nat}{aa:Array Value}{rv:Value}{rs:LL}(h:N1 w xb vb cap aa rv rs)(hb:∀k,k<w.heap.size->w'.heap[k]? = w.heap[k]?):N1 w' xb vb cap aa rv rs:=
 ⟨by rw[Gy (w:=w) (hb xb (QrN w ⟨xb,7,none⟩ h.cell))];exact h.cell,(hb vb (Qrw.1 h.hp).1).trans h.hp,h.sz,h.c3,Ge h.own λg hg=>hb g (h.own.lt g hg).2,h.ne,h.nex,h.xv,h.small⟩
theorem Rode.after{w w1 w':World}{vb:Nat}{ac:Array Value}{rv x':Value}{rs:LL}{r:Y D}(h:Rode w1 w' vb ac rv x' rs r)(ho:w1.os=w.os)(ht:w1.tape=w.tape)(hu:w1.output=w.output)(hs:w.heap.size<=w1.heap.size)(hb:∀k,k<w.heap.size->w1.heap[k]? = w.heap[k]?):Rode w w' vb ac rv x' rs r:=
 ⟨h.os.trans ho,h.tape.trans ht,h.output.trans hu,QrJ hs h.size,λk hk h1 h2=>(h.blk k (Qrv hk hs) h1 h2).trans (hb k hk),h.hp,h.own,h.at_.imp id λ⟨g,h1,h2⟩=>⟨g,h1,QrJ hs h2⟩⟩
theorem Q8V{words:LL}{r:Y D}(h:Q5v words=some r):∃c1 c2 rest,words=[.str Q2S,c1,c2]::rest:=by
 rcases Di h with⟨c1,c2,d1,d2,e1,e2,f1,f2,rfl,_⟩|⟨c1,c2,d1,d2,e1,e2,rfl,_⟩
 ·exact⟨_,_,_,rfl⟩
 ·exact⟨_,_,_,rfl⟩
theorem Q1C{w:World}{xb vb cap:Nat}{ak:Array Value}{rv wv:Value}{rs words:LL}{r:Y D}(hN:N1 w xb vb cap ak rv rs)(hw:Rd (λb=>b<w.heap.size) w wv (.sl 3 words))(hr:Q5v words=some r) :
  Calls Tryz.prog 77 #[.pointer (some ⟨xb,0,none⟩),wv] w λe w'=>e = .returned (.int .i64 0)/\∃x',Rode w w' vb ak rv x' rs r:=by
 obtain⟨c1,c2,rest,ay⟩:=Q8V hr;refine Q7r (f:=77) (fn:=Tryz.f77) (c:=M8) (vs:=[.pointer (some ⟨xb,0,none⟩),wv]) (by kernel_rfl) (by kernel_rfl) (args:=[.ex (.pointer (some ⟨xb,0,none⟩)),.d (.sl 3 words)]) rfl (β:=λ_=>none) (S:=λb=>b<w.heap.size) (λb h=>h) ⟨rfl,λi v av hv ar=>?_⟩ λa hR hv=>?_
 ·match i with
  |0=>cases hv;cases ar;exact .ex _
  |1=>cases hv;cases ar;exact .d _ _ hw
  |i+2=>cases hv
 have a9:Rel ⟨w,λ_=>False,λb=>b<w.heap.size,λ_=>none⟩ (λ_=>none) (λb=>b<w.heap.size) (dS (.pointer (some ⟨xb,0,none⟩)) words []) a w:=hR;have ai:∀{β:Nat->oP Nat} {S:Nat->Prop} {h:Nat->oP Ob} {w:World},Off β S h w (λ_=>False):=⟨λ_ h=>h.elim,λ_ h=>h.elim,λ_ h=>h.elim⟩;have x0:Gf (ppB 40).C 0 (cL M8) (dS (.pointer (some ⟨xb,0,none⟩)) words []) (onU (dZ []) some)=some (dS (.pointer (some ⟨xb,0,none⟩)) words []):=by kernel_rfl
 have x1:Gf (ppB 40).C 0 (cL (cL (cR M8))) (dS (.pointer (some ⟨xb,0,none⟩)) words []) (onU (dZ [(8,.t)]) some)=some (dS (.pointer (some ⟨xb,0,none⟩)) words [(8,.d (.str Q2S))]):=by rw[ay];kernel_rfl
 have x2:Gf (ppB 40).C 0 (cL Qc6) (dS (.pointer (some ⟨xb,0,none⟩)) words [(8,.d (.str Q2S))]) (onU (dZ [(8,.t),(9,.b)]) some)=some (dS (.pointer (some ⟨xb,0,none⟩)) words [(8,.d (.str Q2S)),(9,.d (.bool false))]):=by kernel_rfl
 have x4:Gf (ppB 40).C 0 (cL (Q8O (cR Qc6))) (dS (.pointer (some ⟨xb,0,none⟩)) words [(8,.d (.str Q2S)),(9,.d (.bool false))]) (onU (dZ [(14,.b)]) some)=some (dS (.pointer (some ⟨xb,0,none⟩)) words [(14,.d (.bool true))]):=by kernel_rfl
 rw[QgR];refine wp_seq (Q8k (ppB 40).ok x0 a9 ai (λ_ _ h=>h) λβ1 S1 a1 w1 ba _ _ _=>?_);refine wp_seq (wp_seq (Q8k (ppB 40).ok x1 ba ai (λ_ _ h=>h) λβ2 S2 a2 w2 az _ _ _=>wp_block ?_));rw[Qe8];refine wp_seq (Q8k (ppB 40).ok x2 az ai (λ_ _ h=>h) λβ3 S3 a3 w3 ao _ _ _=>wp_cond_false (RdA.bool_inv (ao.tm 9 _ rfl)) ?_);refine wp_seq (Q8k (ppB 40).ok x4 ao ai (λ_ _ h=>h) λβ4 S4 a4 w4 ac _ _ _=>wp_cond_true (RdA.bool_inv (ac.tm 14 _ rfl)) ?_);have fr:=ac.hr.fr;have old:∀k,k<w.heap.size->w4.heap[k]? = w.heap[k]?:=λk hk=>fr.block k hk (λh=>h)
 have t0:tmv a4 0 = .pointer (some ⟨xb,0,none⟩):=RdA.ex_inv (ac.tm 0 _ rfl);have ax:Rd (λb=>b<w4.heap.size) w4 (tmv a4 1) (.sl 3 words):=(RdA.d_inv (ac.tm 1 _ rfl)).mono (λb hb=>ac.hr.sb b hb) (λ_ _=>rfl);have an:=Qcn (hN.same old) ax hr;have aa:∀(a:Act) (d:Nat) (v:Value),a.tmps.size=37->d<37->∀t,tmv (a.put (some d) v) t=if t=d then v else tmv a t:=λa d v hs hd t=>Ak (by rw[hs];exact hd) t
 have am:∀(a:Act) (d:Nat) (v:Value),a.tmps.size=37->(a.put (some d) v).tmps.size=37:=λa d v hs=>by simp[Act.put,hs]
 obtain⟨o0,p0⟩:∃o,Ck[0]? = some o:=⟨_,QrC (show 0<Ck.size from Nat.lt_of_lt_of_eq (by decide:0<4) (by kernel_rfl))⟩;obtain⟨o1,p1⟩:∃o,Ck[1]? = some o:=⟨_,QrC (show 1<Ck.size from Nat.lt_of_lt_of_eq (by decide:1<4) (by kernel_rfl))⟩;obtain⟨o2,p2⟩:∃o,Ck[2]? = some o:=⟨_,QrC (show 2<Ck.size from Nat.lt_of_lt_of_eq (by decide:2<4) (by kernel_rfl))⟩;obtain⟨o3,p3⟩:∃o,Ck[3]? = some o:=⟨_,QrC (show 3<Ck.size from Nat.lt_of_lt_of_eq (by decide:3<4) (by kernel_rfl))⟩;have at_:∀{i:Nat} {o:Oper} {x:oP Nat×Op×oP (Nat×Bool)},Ck[i]? = some o->(Ck[i]?).map (λo=>(o.dst,o.op,o.guard))=some x->o.dst=x.1/\o.op=x.2.1/\o.guard=x.2.2:=λho h=>by
  rw[ho]at h;injection h with h
  subst h;exact⟨rfl,rfl,rfl⟩
 obtain⟨d0,e0,g0⟩:=at_ p0 (x:=(some 16,.move (.tmp 0),none)) (by kernel_rfl);obtain⟨d1,e1,g1⟩:=at_ p1 (x:=(some 17,.move (.tmp 1),none)) (by kernel_rfl);obtain⟨d2,e2,g2⟩:=at_ p2 (x:=(some 18,.call { callee:=.value (.func 114),args:=#[.tmp 16,.tmp 17],argTypes:=#[185,181] },none)) (by kernel_rfl);obtain⟨d3,e3,g3⟩:=at_ p3 (x:=(some 4,.assign (.tmp 18),none)) (by kernel_rfl);rw[QeG];refine wp_seq (wp_region ?_);rw[show Ck.size=4 by kernel_rfl,show List.range 4=[0,1,2,3]from rfl,wpOps_cons];have n4:=ac.n;refine HI p0 d0 g0 (JO e0 t0) ?_;have n5:=am a4 16 (.pointer (some ⟨xb,0,none⟩)) n4;rw[wpOps_cons];refine HI p1 d1 g1 (JO (v:=tmv a4 1) e1 (by rw[Uj,aa _ _ _ n4 Q1,QrD Q1])) ?_;have n6:=am _ 17 (tmv a4 1) n5;rw[wpOps_cons];refine Q3D p2 d2 g2 (Ly (f:=114) e2 rfl (fn:=Tryz.f114) (by kernel_rfl) (by kernel_rfl) (by kernel_rfl)) (v:=.int .i64 0) (R:=λw'=>∃x',Rode w4 w' vb ak rv x' rs r) ?_ λw5 a7=>?_
 ·have ea:(#[Operand.tmp 16,.tmp 17].map (Act.eval ((a4.put (some 16) (.pointer (some ⟨xb,0,none⟩))).put (some 17) (tmv a4 1)))) = #[.pointer (some ⟨xb,0,none⟩),tmv a4 1]:=by
   simp only[List.map_toArray,List.map_cons,List.map_nil,Uj,aa _ _ _ n5 (show 17<37 by decide),aa _ _ _ n4 (show 16<37 by decide)];rfl
  rw[show({ callee:=.value (.func 114),args:=#[.tmp 16,.tmp 17],argTypes:=#[185,181] }:Call).args = #[.tmp 16,.tmp 17]from rfl,ea];exact an
 ·have n7:=am _ 18 (.int .i64 0) n6;rw[wpOps_cons];refine HI p3 d3 g3 (v:=.int .i64 0) (w':=w5) ?_ ?_
  ·unfold execOp;rw[e3];have a6:((((a4.put (some 16) (.pointer (some ⟨xb,0,none⟩))).put (some 17) (tmv a4 1)).put (some 18) (.int .i64 0)).eval (.tmp 18)) = .int .i64 0:=by rw[Uj,aa _ _ _ n6 Q1,if_pos rfl]
   simp[a6]
  ·have n8:=am _ 4 (.int .i64 0) n7;show Exit.then _ _ .normal _ _
   refine wp_ret ?_;obtain⟨x',a5⟩:=a7;refine Qa4 (ppB 40).ok (fn:=Tryz.f77) (t:=4) (n:=0) (R:=λe w'=>e = .returned (.int .i64 0)/\∃x',Rode w w' vb ak rv x' rs r) n8 ac.dfr (by rw[aa _ _ _ n7 Q1,if_pos rfl]) (by kernel_rfl) ⟨rfl,x',a5.after fr.os fr.tape fr.output fr.size old⟩
structure PP where
 w:LL
 la:LL
 lb:LL
 lc:LL
 ld:LL
 xa:LL
 xb:LL
 xc:LL
 xd:LL
namespace PP
variable(s:PP)
def tm(i:Int)(q:Y (Nat×AV)):Y (Nat×AV):=(2,.ptr 2 0)::(4,.ptr 4 0)::(7,.d (.sl 1 s.w))::(10,.ptr 31 0)::(11,.d (.int .i64 i))::q
def bx(per prs:Int)(L:AV):Y AV:=[.d (.sl 1 s.xa),.d (.sl 1 s.xb),.d (.sl 5 s.xc),.d (.sl 6 s.xd),.d (.int .i64 per),.arr 503105,.arr 503106,L,.arr 503108,.arr 503109,.arr 503110,.arr 503111,.d (.int .i64 prs)]
def hp(per prs:Int)(L:AV)(c5 c6 c11:LL)(lo:Y (Nat×Ob)):Y (Nat×Ob):=(2,.box [.d (.sl 1 s.la),.d (.sl 1 s.lb),.d (.sl 5 s.lc),.d (.sl 6 s.ld)])::(4,.box [.d (.int .i64 0),.nil,.nil,.nil,.nil,.nil,.nil,.nil])::(31,.box (s.bx per prs L))::(503105,.arr 79 5 c5)::(503106,.arr 66 2 c6) ::
 (lo++[(503108,.arr 87 7 []),(503109,.arr 146 4 []),(503110,.arr 93 5 []),(503111,.arr 45 3 c11)])
def st(i per prs:Int)(L:AV)(c5 c6 c11:LL)(lo:Y (Nat×Ob))(q:Y (Nat×AV)):St:=⟨69,s.tm i q,s.hp per prs L c5 c6 c11 lo⟩
end PP
def Qcx(q:Y (Nat×TA)):Y (Nat×TA):=(2,.ptr 2 0)::(4,.ptr 4 0)::(7,.l 1)::(10,.ptr 31 0)::(11,tI)::q
def Qjq(L:TA)(lo:Y (Nat×TO))(arc:Nat->Nat->TO):Y (Nat×TO):=(2,bT 27 [])::(4,.box [.ci .i64 0,.nil,.nil,.nil,.nil,.nil,.nil,.nil])::(31,.box [.l 1,.l 1,.l 5,.l 6,tI,.arr 503105,.arr 503106,L,.arr 503108,.arr 503109,.arr 503110,.arr 503111,tI])::(503105,.arr 79 5)::(503106,.arr 66 2) ::
 (lo++[(503108,arc 87 7),(503109,arc 146 4),(503110,arc 93 5),(503111,.arr 45 3)])
def ppZ(q:Y (Nat×TA)):TS:=⟨69,Qcx q,Qjq .top [] .arr⟩
def ppL:Code:=(Q8D 8 (V6 Tryz.f56)).getD .skip
def ppX:Code:=cB (cL (cR ppL))
def pp8:Code:=cL (cL ppL)
def pp9:Code:=cR (cR ppL)
def QhX:Code:=cL ppX
def Qjw:Code:=cL (cR ppX)
theorem QgQ:ppX = .seq QhX (.seq Qjw (.cond (.tmp 45) (QhR (cR (cR ppX))) .skip)):=by kernel_rfl
theorem Qfv:ppL = .seq (.seq pp8 (.cond (.tmp 35) .skip (.exit 0))) (.seq (.block 1 ppX) pp9):=by kernel_rfl
section
variable{R:Type} (s:PP) (i per prs:Int) (v:Value) (c5 c6 c11:LL) (k:St->oP R)
theorem Qi9:Gf (ppB 40).C 0 pp8 (s.st i per prs (.ex v) c5 c6 c11 [] []) (onU (ppZ [(35,.b)]) k)=k (s.st i per prs (.ex v) c5 c6 c11 [] [(35,.d (.bool (decide (i<((List.length s.w:Nat):Int)))))]):=by kernel_rfl
theorem QgJ(b:Bool):Gf (ppB 40).C 0 Qjw (s.st i per prs (.ex v) c5 c6 c11 [] [(12,.d (.int .i64 0))]) (onU (ppZ [(45,.b)]) k)=k (s.st i per prs (.ex v) c5 c6 c11 [] [(45,.d (.bool false))]):=by kernel_rfl
theorem Qj8:Gf (ppB 40).C 0 pp9 (s.st i per prs (.ex v) c5 c6 c11 [] [(45,.d (.bool false))]) (onU (ppZ []) k)=k (s.st (IntKind.wrap .i64 (i+(1:Int))) per prs (.ex v) c5 c6 c11 [] []):=by kernel_rfl
end
def ppV(n:Nat):VB Tryz.prog:=Xa [⟨77,G1 n⟩] []
def ppQ:Nat:=42994969
def ppT:Y (Nat×TO):=Qjq (.arr 503107) [(503107,.arr 90 4)] .arc
def Qg9:Y XT:=[XD.f .ret [(4,.ptr 4 0),(5,tI),(6,tI)] [(4,.box [.ci .i64 0,.nil,.nil,.nil,.nil,.nil,.nil,.nil])] [0,0],xE 0 [(35,.b)]].map (xT 69 (Qcx []) ppT ppQ)
def QhQ:TS:=⟨69,Qcx [],ppT⟩
def PP.sF(s:PP)(i per prs:Int)(c5 c6 c7 c11:LL)(q:Y (Nat×AV)):St:=s.st i per prs (.arr 503107) c5 c6 c11 [(503107,.arr 90 4 c7)] q
def PP.lf(s:PP)(i per prs:Int)(c5 c6 c7 c11:LL):Y Lf:=[.L s.w,.I i,.L s.la,.L s.lb,.L s.lc,.L s.ld,.L s.xa,.L s.xb,.L s.xc,.L s.xd,.I per,.I prs,.L c5,.L c6,.L c7,.L c11]
def Q28(a b:Int):St:=⟨69,[(4,.ptr 4 0),(5,.d (.int .i64 a)),(6,.d (.int .i64 b))],[(4,.box [.d (.int .i64 0),.nil,.nil,.nil,.nil,.nil,.nil,.nil])]⟩
theorem Qav(s:PP)(i per prs:Int)(c5 c6 c7 c11:LL):fiS QhQ (s.lf i per prs c5 c6 c7 c11)=s.sF i per prs c5 c6 c7 c11 []:=by kernel_rfl
theorem Qeh{R:Type}(n:Nat)(s:PP)(i per prs:Int)(c5 c6 c7 c11:LL)(k:Exit->St->oP R)(G:Y Lf->oP R) :
  JK n s.w s.xa s.xc (λa b=>k .ret (Q28 a b)) (λa b c d e f g h=>k (.exit 0) (s.sF a c d e f g h [(35,.d (.bool b))])) (λa b c d e f g=>G (s.lf a b c d e f g)) i per prs c5 c6 c7 c11 =
   Gf (ppV n).C 0 ppL (s.sF i per prs c5 c6 c7 c11 []) (λe st=>match e with
    |.normal=>match rdS QhQ (nU QhQ st)with
     |some ls=>G ls
     |none=>none
    |.exit id=>k (.exit id) (exN Qg9 (.exit id) st)
    |.ret=>k .ret (exN Qg9 .ret st)
    |_=>none):=by kernel_rfl
def Nb1(vb:Nat)(rv:Value)(b:Nat):Prop:=b=vb\/rv.ownBlock=some b
structure Hid(E:Env)(s:PP)(i per prs:Int)(c5 c6 c11:LL)(q:List (Nat×AV))(xb vb cap:Nat)(cur:Array Value)(rv:Value)(rs:LL)(n0 n1 n2:D)(β:Nat->oP Nat)(S:Nat->Prop)(a:Act)(w:World):Prop where
 rel:Rel E β S (s.st i per prs (.ex (.slice (some ⟨vb,0,none⟩) 1 cap)) c5 c6 c11 [] q) a w
 off:Off β S (look (s.hp per prs (.ex (.slice (some ⟨vb,0,none⟩) 1 cap)) c5 c6 c11 [])) w (Nb1 vb rv)
 nst:N1 w xb vb cap cur rv rs
 bx:β 31=some xb
 new:∀b,Nb1 vb rv b->E.M b\/E.w0.heap.size<=b
 ints:∀r∈rs,Mb 4 r=true
 csz:cur.size=cap*4
 capm:cap<=maxLen
 flat:∀(j:Nat) (x:D),[n0,n1,n2][j]? = some x->∃u,cur[j]? = some u/\∀(S:Nat->Prop) (w:World),Rd S w u x
theorem QaA(s:PP)(per ac:Int)(V:AV)(c5 c6 c7 aa:LL){l:Nat}(h1:l≠503107)(h2:l≠31):look (s.hp per ac V c5 c6 aa []) l=look (s.hp per ac (.arr 503107) c5 c6 aa [(503107,.arr 90 4 c7)]) l:=by
 show look (_::_::_::_::_::_::_::_::[_]) l=look (_::_::_::_::_::_::_::_::_::[_]) l;simp only[Xd,QrD h1,QrD h2]
theorem Q2K(s:PP)(per aa:Int)(L:AV){j:Nat}{x:AV}(hj:(s.bx per aa L)[j]? = some x)(h7:j≠7){l:Nat}(hn:Yq l x=true):l≠503107/\l≠31:=by
 rcases j with _ | _ | _ | _ | _ | _ | _ | _ | _ | _ | _ | _ | _ | j
 all_goals first
  |exact absurd rfl h7
  |(cases hj;simp[Yq]at hn;done)
  |(cases hj;simp[Yq]at hn;omega)
  |(simp[PP.bx]at hj;done)
theorem Qao(s:PP)(per aa:Int)(L L':AV){j:Nat}(h7:j≠7):(s.bx per aa L)[j]? = (s.bx per aa L')[j]?:=by
 rcases j with _ | _ | _ | _ | _ | _ | _ | _ | _ | _ | _ | _ | _ | j
 all_goals first
  |rfl
  |exact absurd rfl h7
theorem Qj2(s:PP)(per aa:Int)(v:Value)(ty:TypeId):Q5k ty (s.bx per aa (.ex v)):=λj l t hj=>by
 rcases j with _ | _ | _ | _ | _ | _ | _ | _ | _ | _ | _ | _ | _ | j<;>simp[PP.bx]at hj
theorem Qh3(s:PP)(per aa:Int)(m:Nat)(ty:TypeId):Q5k ty (s.bx per aa (.arr m)):=λj l t hj=>by
 rcases j with _ | _ | _ | _ | _ | _ | _ | _ | _ | _ | _ | _ | _ | j<;>simp[PP.bx]at hj
theorem Qcm{E:Env}{s:PP}{i per aa:Int}{c5 c6 ac:LL}{nm:Y UInt8}{k1 k2:IntKind}{b1 b2:Int}{a:Act}{w:World}(hX:JB E (s.sF i per aa c5 c6 [[.str nm,.int k1 b1,.int k2 b2,.nl]] ac []) a w) :
  ∃xb vb cap am β S,Hid E s i per aa c5 c6 ac [] xb vb cap am (.slice none 0 0) [] (.str nm) (.int k1 b1) (.int k2 b2) β S a w:=by
 obtain⟨β,S,hR⟩:=hX;have au:look (s.hp per aa (.arr 503107) c5 c6 ac [(503107,.arr 90 4 [[.str nm,.int k1 b1,.int k2 b2,.nl]])]) 503107=some (.arr 90 4 [[.str nm,.int k1 b1,.int k2 b2,.nl]]):=rfl;have bc:look (s.hp per aa (.arr 503107) c5 c6 ac [(503107,.arr 90 4 [[.str nm,.int k1 b1,.int k2 b2,.nl]])]) 31=some (.box (s.bx per aa (.arr 503107))):=rfl;obtain⟨xb,ty,cs,fz,e1,e2,e3,e4,e5⟩:=hR.hr.ob 31 _ bc;have bg:∃vb cap am,cs.getD 7 undef = .slice (some ⟨vb,0,none⟩) 1 cap/\β 503107=some vb/\w.heap[vb]? = some (.cells am 90 (0,0))/\am.size=cap*4/\1<=cap/\cap<=maxLen /\
   ∀(j:Nat) (x:D),[D.str nm,.int k1 b1,.int k2 b2,.nl][j]? = some x->∃v,am[j]? = some v/\Rd S w v x:=by
  have h3:=e5 7 _ rfl;generalize cs.getD 7 undef=V at h3;cases h3 with
  |arr0 _ e' s' hb hh=>
   rw[show look (s.sF i per aa c5 c6 _ ac []).h 503107=_ from au]at hh;cases hh
  |arr _ b cap e' s' ax bk ca b8 hb hh hw bm a5 ay=>
   rw[show look (s.sF i per aa c5 c6 _ ac []).h 503107=_ from au]at hh;injection hh with hh
   injection hh with h1 h2 h3
   subst h1 h2 h3;rcases hR.hr.ob 503107 _ au with⟨h0,_⟩|⟨b',cb,an,a3,b9,b7,bi⟩
   ·rw[hb]at h0;cases h0
   ·rw[hb]at an;injection an with an
    subst an;rw[hw]at a3;injection a3 with a3
    injection a3 with k1' k2' k3'
    subst k1';refine⟨b,cap,bk,rfl,hb,by rw[hw,k2',k3'],bm,a5,ay,λj x hx=>?_⟩;obtain⟨v,hv,br⟩:=bi 0 j _ x rfl hx;exact⟨v,by rw[show 0*4+j=j by omega]at hv;exact hv,br⟩
  |mp _ b t f hb hh=>rw[show look (s.sF i per aa c5 c6 _ ac []).h 503107=_ from au]at hh;cases hh
  |dang _ _ l hl hh=>
   simp only[P0,Option.some.injEq]at hl;subst hl;rw[show look (s.sF i per aa c5 c6 _ ac []).h 503107=_ from au]at hh;cases hh
 obtain⟨vb,cap,am,hV,aw,bh,bb,a5,ay,ai⟩:=bg;have a7:∀l,l≠503107->l≠31->look (s.hp per aa (.ex (.slice (some ⟨vb,0,none⟩) 1 cap)) c5 c6 ac []) l=look (s.sF i per aa c5 c6 [[.str nm,.int k1 b1,.int k2 b2,.nl]] ac []).h l:=λl h1 h2=>QaA s per aa _ c5 c6 _ ac h1 h2
 have bo:look (s.hp per aa (.ex (.slice (some ⟨vb,0,none⟩) 1 cap)) c5 c6 ac []) 503107=none:=rfl;have ao:∀l,(look (s.hp per aa (.ex (.slice (some ⟨vb,0,none⟩) 1 cap)) c5 c6 ac []) l).isSome=true->(look (s.sF i per aa c5 c6 [[.str nm,.int k1 b1,.int k2 b2,.nl]] ac []).h l).isSome=true/\l≠503107:=λl hl=>by
  have a6:l≠503107:=λe=>by subst e;rw[bo]at hl;cases hl
  by_cases h2:l=31
  ·subst h2;exact⟨rfl,a6⟩
  ·rw[a7 l a6 h2]at hl;exact⟨hl,a6⟩
 have bj:=hR.upd (β':=β) (S':=S) (w':=w) (H':=s.hp per aa (.ex (.slice (some ⟨vb,0,none⟩) 1 cap)) c5 c6 ac []) (λ_ h=>h) (λ_ _=>rfl) (λl=>l=503107\/l=31) (λl hl=>⟨rfl,a7 l (λe=>hl (.inl e)) (λe=>hl (.inr e)),λ_ _ _=>rfl⟩)
  (λl hl=>.inl (by
   rcases hl with rfl | rfl
   ·exact⟨rfl,λh0=>(by cases h0),λe' s' ax h0=>.inl rfl,λb cs ty fz hs=>(by cases hs),λt f h0=>by cases h0⟩
   ·exact⟨rfl,λh0=>(by cases h0),λe' s' ax h0=>(by cases h0),λb cs ty fz _ _ hw=>⟨cs,ty,fz,hw,rfl⟩,λt f h0=>by cases h0⟩))
  (λl o hl ho=>by
   rcases hl with rfl | rfl
   ·cases ho
   ·have a8:some (Ob.box (s.bx per aa (.ex (.slice (some ⟨vb,0,none⟩) 1 cap))))=some o:=ho;injection a8 with a8
    subst a8;refine⟨xb,ty,cs,fz,e1,e2,⟨e3.1,Qj2 s per aa _ ty⟩,e4,λj x hj=>?_⟩;by_cases h7:j=7
    ·subst h7;cases hj;rw[hV];exact .ex _
    ·have a9:=(Qao s per aa (.arr 503107) (.ex (.slice (some ⟨vb,0,none⟩) 1 cap)) h7).trans hj;exact(e5 j x a9).mono (λ_ h=>h) (λ_ _=>rfl) (λl hn=>Q3P (a7 l (Q2K s per aa _ a9 h7 hn).1 (Q2K s per aa _ a9 h7 hn).2)) (λ_ _=>rfl))
  (λl l' b h1 h2=>hR.hr.inj l l' b (ao l h1).1 (ao l' h2).1) (λl b h1=>hR.hr.apart l b (ao l h1).1) (λl b h1=>hR.hr.own l b (ao l h1).1) hR.hr.sb hR.hr.sfr hR.hr.fr
 have az:(look (s.sF i per aa c5 c6 [[.str nm,.int k1 b1,.int k2 b2,.nl]] ac []).h 503107).isSome=true:=rfl;have ba:(look (s.sF i per aa c5 c6 [[.str nm,.int k1 b1,.int k2 b2,.nl]] ac []).h 31).isSome=true:=rfl;have a4:∀b,Nb1 vb (.slice none 0 0) b->b=vb:=λb hb=>by
  rcases hb with hb | hb
  ·exact hb
  ·cases hb
 obtain⟨v3,bp,bn⟩:=ai 3 .nl rfl;cases bn;refine⟨xb,vb,cap,am,β,S,bj,⟨λb hb=>?_,λb hb hS=>?_,λb hb l hl an=>?_⟩,⟨?_,bh,I,bp,World.ownsRow_nil _ _ _ _,by simp[Value.ownBlock],by simp[Value.ownBlock],λe=>?_,by simp⟩,e1,λb hb=>?_,λr hr=>(by cases hr),bb,ay,λj x hx=>?_⟩
 ·rw[a4 b hb];exact Ky hR az aw
 ·rw[a4 b hb]at hS;exact hR.hr.apart 503107 vb az aw hS
 ·rw[a4 b hb]at an;exact(ao l hl).2 (hR.hr.inj l 503107 vb (ao l hl).1 az an aw)
 ·rw[A7 e2 (by rw[e4];exact Qru rfl),hV]
 ·exact absurd (hR.hr.inj 31 503107 vb ba az (e▸e1) aw) Q1
 ·rw[a4 b hb];exact hR.hr.own 503107 vb az aw
 ·rcases j with _ | _ | _ | j
  ·cases hx;obtain⟨v,h1,h2⟩:=ai 0 _ rfl;exact⟨v,h1,λS w=>h2.of_flat rfl⟩
  ·cases hx;obtain⟨v,h1,h2⟩:=ai 1 _ rfl;exact⟨v,h1,λS w=>h2.of_flat rfl⟩
  ·cases hx;obtain⟨v,h1,h2⟩:=ai 2 _ rfl;exact⟨v,h1,λS w=>h2.of_flat rfl⟩
  ·cases hx
theorem Qgd{E:Env}{s:PP}{i per aa:Int}{c5 c6 ai:LL}{xb vb cap:Nat}{az:Array Value}{rv:Value}{rs:LL}{n0 n1 n2:D}{β:Nat->oP Nat}{S:Nat->Prop}{a:Act}{w:World}(h:Hid E s i per aa c5 c6 ai [] xb vb cap az rv rs n0 n1 n2 β S a w) :
  JB E (s.sF i per aa c5 c6 [[n0,n1,n2,.sl 4 rs]] ai []) a w:=by
 have hR:=h.rel;have a8:look (s.st i per aa (.ex (.slice (some ⟨vb,0,none⟩) 1 cap)) c5 c6 ai [] []).h 31=some (.box (s.bx per aa (.ex (.slice (some ⟨vb,0,none⟩) 1 cap)))):=rfl;obtain⟨bc,ty,cs,fz,e1,e2,e3,e4,e5⟩:=hR.hr.ob 31 _ a8;have hV:cs.getD 7 undef = .slice (some ⟨vb,0,none⟩) 1 cap:=RdA.ex_inv (e5 7 _ rfl);let β':Nat->oP Nat:=λl=>if l=503107 then some vb else β l
 let S':Nat->Prop:=λk=>S k\/rv.ownBlock=some k
 have hβ:∀l,l≠503107->β' l=β l:=λl hl=>QrD hl
 have ak:β' 503107=some vb:=if_pos rfl;have am:∀l,l≠503107->l≠31->look (s.hp per aa (.arr 503107) c5 c6 ai [(503107,.arr 90 4 [[n0,n1,n2,.sl 4 rs]])]) l=look (s.st i per aa (.ex (.slice (some ⟨vb,0,none⟩) 1 cap)) c5 c6 ai [] []).h l:=λl h1 h2=>(QaA s per aa _ c5 c6 _ ai h1 h2).symm
 have aj:∀l,l≠503107->(look (s.hp per aa (.arr 503107) c5 c6 ai [(503107,.arr 90 4 [[n0,n1,n2,.sl 4 rs]])]) l).isSome=true->(look (s.st i per aa (.ex (.slice (some ⟨vb,0,none⟩) 1 cap)) c5 c6 ai [] []).h l).isSome=true:=λl ba hl=>by
  by_cases h2:l=31
  ·subst h2;rfl
  ·rw[am l ba h2]at hl;exact hl
 have a3:1<=cap:=by have:=h.nst.sz;have:=h.csz;omega
 refine⟨β',S',hR.upd (β':=β') (S':=S') (w':=w) (H':=s.hp per aa (.arr 503107) c5 c6 ai [(503107,.arr 90 4 [[n0,n1,n2,.sl 4 rs]])]) (λ_ h=>.inl h) (λ_ _=>rfl) (λl=>l=503107\/l=31) (λl hl=>⟨hβ l (λe=>hl (.inl e)),am l (λe=>hl (.inl e)) (λe=>hl (.inr e)),λ_ _ _=>rfl⟩)
  (λl hl=>?_) (λl o hl a7=>?_) (λl l' k h1 h2 h3 h4=>?_) (λl k h1 h2 hS=>?_) (λl k h1 h2=>?_) (λk hS=>?_) (λk hS=>?_) hR.hr.fr⟩
 ·rcases hl with rfl | rfl
  ·exact .inr (by kernel_rfl)
  ·exact .inl ⟨hβ 31 Q1,λh0=>(by cases h0),λe' s' an h0=>(by cases h0),λb cs ty fz _ _ hw=>⟨cs,ty,fz,hw,rfl⟩,λt f h0=>by cases h0⟩
 ·rcases hl with rfl | rfl
  ·have ac:some (Ob.arr 90 4 [[n0,n1,n2,.sl 4 rs]])=some o:=a7;injection ac with ac
   subst ac;refine .inr ⟨vb,az,ak,h.nst.hp,by have:=h.csz;simp;omega,λj r hr=>?_,λj k r x hr hx=>?_⟩
   ·rcases j with _ | j
    ·cases hr;rfl
    ·cases hr
   ·rcases j with _ | j
    ·cases hr;rw[show 0*4+k=k by omega];rcases k with _ | _ | _ | _ | k
     ·cases hx;obtain⟨u,hu,ao⟩:=h.flat 0 _ rfl;exact⟨u,hu,ao _ _⟩
     ·cases hx;obtain⟨u,hu,ao⟩:=h.flat 1 _ rfl;exact⟨u,hu,ao _ _⟩
     ·cases hx;obtain⟨u,hu,ao⟩:=h.flat 2 _ rfl;exact⟨u,hu,ao _ _⟩
     ·cases hx;exact⟨rv,h.nst.c3,QaL h.nst.own h.ints (λk hk=>.inr hk)⟩
     ·cases hx
    ·cases hr
  ·have ac:some (Ob.box (s.bx per aa (.arr 503107)))=some o:=a7;injection ac with ac
   subst ac;refine⟨bc,ty,cs,fz,(hβ 31 Q1).trans e1,e2,⟨e3.1,Qh3 s per aa _ ty⟩,e4,λj x hj=>?_⟩;by_cases h7:j=7
   ·subst h7;cases hj;rw[hV];exact .arr 503107 vb cap 90 4 [[n0,n1,n2,.sl 4 rs]] az 90 (0,0) ak rfl h.nst.hp h.csz a3 h.capm
   ·have a9:=(Qao s per aa (.ex (.slice (some ⟨vb,0,none⟩) 1 cap)) (.arr 503107) h7).trans hj;refine(e5 j x a9).mono (λ_ h=>.inl h) (λ_ _=>rfl) (λl hn=>?_) (λ_ _=>rfl);obtain⟨g1,g2⟩:=Q2K s per aa _ a9 h7 hn;exact⟨hβ l g1,λh0=>(am l g1 g2).trans h0,λe' s' an h0=>.inr ⟨an,(am l g1 g2).trans h0,rfl⟩,λb cs ty fz _ _ hw=>⟨cs,ty,fz,hw,rfl⟩,λt f h0=>.inr ⟨f,(am l g1 g2).trans h0⟩⟩
 ·by_cases c1:l=503107<;>by_cases c2:l'=503107
  ·rw[c1,c2]
  ·subst c1;rw[ak]at h3;injection h3 with h3
   rw[hβ l' c2]at h4;exact absurd h4 (h.off.nO k (.inl h3.symm) l' (aj l' c2 h2))
  ·subst c2;rw[ak]at h4;injection h4 with h4
   rw[hβ l c1]at h3;exact absurd h3 (h.off.nO k (.inl h4.symm) l (aj l c1 h1))
  ·rw[hβ l c1]at h3;rw[hβ l' c2]at h4;exact hR.hr.inj l l' k (aj l c1 h1) (aj l' c2 h2) h3 h4
 ·by_cases c1:l=503107
  ·subst c1;rw[ak]at h2;injection h2 with h2
   rcases hS with hS | hS
   ·exact h.off.nS k (.inl h2.symm) hS
   ·exact h.nst.ne (h2▸hS)
  ·rw[hβ l c1]at h2;rcases hS with hS | hS
   ·exact hR.hr.apart l k (aj l c1 h1) h2 hS
   ·exact h.off.nO k (.inr hS) l (aj l c1 h1) h2
 ·by_cases c1:l=503107
  ·subst c1;rw[ak]at h2;injection h2 with h2
   exact h.new k (.inl h2.symm)
  ·rw[hβ l c1]at h2;exact hR.hr.own l k (aj l c1 h1) h2
 ·rcases hS with hS | hS
  ·exact hR.hr.sb k hS
  ·exact h.off.lt k (.inr hS)
 ·rcases hS with hS | hS
  ·exact hR.hr.sfr k hS
  ·exact .inr (h.new k (.inr hS))
section
variable{E:Env} {s:PP} {i per prs:Int} {c5 c6 c11:LL} {xb vb cap:Nat} {cur:Array Value} {rv:Value} {rs:LL} {n0 n1 n2:D} {β:Nat->oP Nat} {S:Nat->Prop} {a:Act} {w:World}
theorem Hid.xbOf{q:Y (Nat×AV)}{β1:Nat->oP Nat}{S1:Nat->Prop}{a1:Act}{w1:World}{V:Value}(h1:Rel E β1 S1 (s.st i per prs (.ex V) c5 c6 c11 [] q) a1 w1):∃aa,β1 31=some aa/\w1.cell? ⟨aa,7,none⟩=some V:=by
 obtain⟨ac,ty,cs,fz,e1,e2,e3,e4,e5⟩:=h1.hr.ob 31 _ (show look (s.st i per prs (.ex V) c5 c6 c11 [] q).h 31=some (.box (s.bx per prs (.ex V)))from rfl);exact⟨ac,e1,by rw[A7 e2 (by rw[e4];exact Qru rfl),RdA.ex_inv (e5 7 _ rfl)]⟩
theorem Hid.run{q q':Y (Nat×AV)}{i':Int}(h:Hid E s i per prs c5 c6 c11 q xb vb cap cur rv rs n0 n1 n2 β S a w){c:Code}{Z:TS}(hx:Gf (ppB 40).C 0 c (s.st i per prs (.ex (.slice (some ⟨vb,0,none⟩) 1 cap)) c5 c6 c11 [] q) (onU Z some)=some (s.st i' per prs (.ex (.slice (some ⟨vb,0,none⟩) 1 cap)) c5 c6 c11 [] q')){Q:Exit->Act->World->Prop}(hQ:∀ai β' S' a' w',Hid E s i' per prs c5 c6 c11 q' ai vb cap cur rv rs n0 n1 n2 β' S' a' w'->Q .normal a' w'):c.wp Tryz.prog Q a w:=by
 refine Q8k (ppB 40).ok hx h.rel h.off (λl _ hs=>hs) λβ' S' a' w' h1 h2 h3 h4=>?_
 obtain⟨ac,g1,g2⟩:=Hid.xbOf h1;have aa:(look (s.hp per prs (.ex (.slice (some ⟨vb,0,none⟩) 1 cap)) c5 c6 c11 []) 31).isSome=true:=rfl;refine hQ ac β' S' a' w' ⟨h1,h2,⟨g2,(h3 vb (.inl rfl)).trans h.nst.hp,h.nst.sz,h.nst.c3,Ge h.nst.own (λg hg=>h3 g (.inr hg)),h.nst.ne,λe=>h2.nO ac (.inr e) 31 aa g1,λe=>h2.nO ac (.inl e) 31 aa g1,h.nst.small⟩,g1,h.new,h.ints,h.csz,h.capm,h.flat⟩
def Q3d:Array Oper:=match QhX with | .region _ ops _=>ops | _=>#[]
theorem QdH:QhX = .region 10 Q3d false:=by kernel_rfl
theorem Q6f{ops:Array Oper}{i:Nat}{x:oP Nat×Op×oP (Nat×Bool)}(h:(ops[i]?).map (λo=>(o.dst,o.op,o.guard))=some x):∃o,ops[i]? = some o/\o.dst=x.1/\o.op=x.2.1/\o.guard=x.2.2:=by
 obtain⟨o,h1,h2⟩:=Qrz.1 h;subst h2;exact⟨o,h1,rfl,rfl,rfl⟩
theorem Q4C{h3:LL}{i:Int}{l:LL}(h:Q5e h3 i=some l):0<=i/\i<(h3.length:Nat)/\∃aa,h3[i.toNat]? = some aa/\aa[0]? = some (.sl 3 l):=by
 unfold Q5e at h;obtain⟨aa,h1,h⟩:=QrM.1 h;obtain⟨c,h2,h⟩:=QrM.1 h;obtain⟨f0,f1,f2⟩:=PL h1;refine⟨f0,f1,aa,f2,?_⟩;rw[h2];unfold pSl at h;split at h
 ·rename_i k l';obtain⟨hb,h⟩:=Xm h;injection h with h
  rw[h,Nat.eq_of_beq_eq_true hb]
 ·cases h
theorem Qag{l:LL}{r:Y D}(h:Q5v l=some r):Mb 4 r=true:=by
 rcases Di h with⟨_,_,_,_,_,_,_,_,_,rfl⟩|⟨_,_,_,_,_,_,_,rfl⟩<;>rfl
theorem QaX(h:Hid E s i per prs c5 c6 c11 [] xb vb cap cur rv rs n0 n1 n2 β S a w){r:Y D}(hr:Qac s.w i=some r)(hn:rs.length<=900){Q:Exit->Act->World->Prop}(hQ:∀ca a9 x' β' S' a' w',Hid E s (IntKind.wrap .i64 (i+(1:Int))) per prs c5 c6 c11 [] ca vb cap a9 x' (rs++[r]) n0 n1 n2 β' S' a' w'->Q .normal a' w'):ppL.wp Tryz.prog Q a w:=by
 unfold Qac at hr;obtain⟨cb,bh,hr⟩:=QrM.1 hr;obtain⟨i0,i1,dd,ak,au⟩:=Q4C bh;rw[Qfv];refine wp_seq (wp_seq (h.run (Qi9 s i per prs _ c5 c6 c11 some) λac β1 S1 a1 w1 h1=>?_));have bg:=RdA.bool_inv (h1.rel.tm 35 _ rfl);rw[decide_eq_true i1]at bg;refine wp_cond_true bg (wp_skip ?_);refine wp_seq (wp_block ?_);rw[QgQ];have b9:tmv a1 10 = .pointer (some ⟨ac,0,none⟩):=by
  obtain⟨b,g1,g2⟩:=RdA.ptr_inv (h1.rel.tm 10 _ rfl);rw[h1.bx]at g1;injection g1 with g1
  rw[g2,g1]
 have bv:tmv a1 11 = .int .i64 i:=RdA.int_inv (h1.rel.tm 11 _ rfl);obtain⟨ad,c7,u,t7,ck,cm⟩:∃ad c u,tmv a1 7 = .slice (some ad) s.w.length c/\w1.cell? (ad.add (i.toNat*1))=some u/\Rd S1 w1 u (.sl 3 cb):=by
  have h7:=RdA.d_inv (h1.rel.tm 7 _ rfl);have a7:s.w≠[]:=λe=>by rw[e]at ak;cases ak
  generalize d7:tmv a1 7=v7 at h7;generalize dl:s.w=ww at h7 ak a7;cases h7 with
  |sl0=>exact absurd rfl a7
  |sl ad cp _ _ f hS cv aj hc a5=>
   exact⟨ad,cp,f i.toNat 0,rfl,hc _ 0 _ _ ak au,a5 _ 0 _ _ ak au⟩
 have bz:=h1.rel.n;have a4:a1.tmps.size=69:=bz;have ai:∀(a:Act) (d:Nat) (v:Value),a.tmps.size=69->d<69->∀t,tmv (a.put (some d) v) t=if t=d then v else tmv a t:=λa d v hs hd t=>Ak (by rw[hs];exact hd) t
 have aj:∀(a:Act) (d:Nat) (v:Value),a.tmps.size=69->(a.put (some d) v).tmps.size=69:=λa d v hs=>by simp[Act.put,hs]
 obtain⟨o0,p0,d0,e0,g0⟩:=Q6f (ops:=Q3d) (i:=0) (x:=(some 38,.move (.tmp 10),none)) (by kernel_rfl);obtain⟨o1,p1,d1,e1,g1⟩:=Q6f (ops:=Q3d) (i:=1) (x:=(some 39,.move (.tmp 7),none)) (by kernel_rfl);obtain⟨o2,p2,d2,e2,g2⟩:=Q6f (ops:=Q3d) (i:=2) (x:=(some 40,.move (.tmp 11),none)) (by kernel_rfl);obtain⟨o3,p3,d3,e3,g3⟩:=Q6f (ops:=Q3d) (i:=3) (x:=(some 41,.indexAddr 176 (.tmp 39) (.tmp 40),none)) (by kernel_rfl);obtain⟨o4,p4,d4,e4,g4⟩:=Q6f (ops:=Q3d) (i:=4) (x:=(some 42,.load 181 (.tmp 41),none)) (by kernel_rfl);obtain⟨o5,p5,d5,e5,g5⟩:=Q6f (ops:=Q3d) (i:=5) (x:=(some 43,.call { callee:=.value (.func 77),args:=#[.tmp 38,.tmp 42],argTypes:=#[185,181] },none)) (by kernel_rfl);obtain⟨o6,p6,d6,e6,g6⟩:=Q6f (ops:=Q3d) (i:=6) (x:=(some 12,.assign (.tmp 43),none)) (by kernel_rfl);rw[QdH];refine wp_seq (wp_region ?_);rw[show Q3d.size=7 by kernel_rfl,show List.range 7=[0,1,2,3,4,5,6]from rfl,wpOps_cons];refine HI p0 d0 g0 (JO e0 b9) ?_;have m1:=aj a1 38 (.pointer (some ⟨ac,0,none⟩)) a4;have q1:=ai a1 38 (.pointer (some ⟨ac,0,none⟩)) a4 Q1;have z1:(a1.put (some 38) (.pointer (some ⟨ac,0,none⟩))).defers=[]:=h1.rel.dfr;generalize a1.put (some 38) (.pointer (some ⟨ac,0,none⟩))=b1 at m1 q1 z1;rw[wpOps_cons];refine HI p1 d1 g1 (JO (v:=.slice (some ad) s.w.length c7) e1 (by rw[Uj,q1,QrD Q1,t7])) ?_;have m2:=aj b1 39 (.slice (some ad) s.w.length c7) m1;have q2:=ai b1 39 (.slice (some ad) s.w.length c7) m1 Q1;have z2:(b1.put (some 39) (.slice (some ad) s.w.length c7)).defers=[]:=z1;generalize b1.put (some 39) (.slice (some ad) s.w.length c7)=b2 at m2 q2 z2;rw[wpOps_cons];refine HI p2 d2 g2 (JO (v:=.int .i64 i) e2 (by rw[Uj,q2,QrD Q1,q1,QrD Q1,bv])) ?_;have m3:=aj b2 40 (.int .i64 i) m2;have q3:=ai b2 40 (.int .i64 i) m2 Q1;have z3:(b2.put (some 40) (.int .i64 i)).defers=[]:=z2;generalize b2.put (some 40) (.int .i64 i)=b3 at m3 q3 z3;rw[wpOps_cons];refine HI p3 d3 g3 (GR DV e3 (e:=181) (esz:=1) (by rfl) (len:=s.w.length) (cap:=c7) (ad:=ad) (ik:=.i64) (n:=i) (by rw[Uj,q3,QrD Q1,q2,if_pos rfl]) (by rw[Uj,q3,if_pos rfl]) i0 i1) ?_;have m4:=aj b3 41 (.pointer (some (ad.add (i.toNat*1)))) m3;have q4:=ai b3 41 (.pointer (some (ad.add (i.toNat*1)))) m3 Q1;have z4:(b3.put (some 41) (.pointer (some (ad.add (i.toNat*1))))).defers=[]:=z3;generalize b3.put (some 41) (.pointer (some (ad.add (i.toNat*1))))=b4 at m4 q4 z4;rw[wpOps_cons];refine HI p4 d4 g4 (Tf 181 e4 (ad:=ad.add (i.toNat*1)) (by rw[Uj,q4,if_pos rfl]) rfl ck) ?_;have m5:=aj b4 42 u m4;have q5:=ai b4 42 u m4 Q1;have z5:(b4.put (some 42) u).defers=[]:=z4;generalize b4.put (some 42) u=b5 at m5 q5 z5;rw[wpOps_cons];have az:=Q1C h1.nst (cm.mono (S':=λb=>b<w1.heap.size) (λb hb=>h1.rel.hr.sb b hb) (λ_ _=>rfl)) hr;refine Q3D p5 d5 g5 (Ly (f:=77) e5 rfl (fn:=Tryz.f77) (by kernel_rfl) (by kernel_rfl) (by kernel_rfl)) (v:=.int .i64 0) (R:=λw'=>∃x',Rode w1 w' vb cur rv x' rs r) ?_ λw5 cn=>?_
 ·have ea:(#[Operand.tmp 38,.tmp 42].map (Act.eval b5)) = #[.pointer (some ⟨ac,0,none⟩),u]:=by
   simp only[List.map_toArray,List.map_cons,List.map_nil,Uj,q5,q4,q3,q2,q1];rfl
  rw[show({ callee:=.value (.func 77),args:=#[.tmp 38,.tmp 42],argTypes:=#[185,181] }:Call).args = #[.tmp 38,.tmp 42]from rfl,ea];exact az
 have m6:=aj b5 43 (.int .i64 0) m5;have q6:=ai b5 43 (.int .i64 0) m5 Q1;have z6:(b5.put (some 43) (.int .i64 0)).defers=[]:=z5;generalize b5.put (some 43) (.int .i64 0)=b6 at m6 q6 z6;rw[wpOps_cons];refine HI p6 d6 g6 (v:=.int .i64 0) (w':=w5) (by
  unfold execOp;rw[e6];have bo:b6.eval (.tmp 43) = .int .i64 0:=by rw[Uj,q6,if_pos rfl]
  simp[bo]) ?_
 have m7:=aj b6 12 (.int .i64 0) m6;have q7:=ai b6 12 (.int .i64 0) m6 Q1;have ba:(b6.put (some 12) (.int .i64 0)).defers=[]:=z6;generalize b6.put (some 12) (.int .i64 0)=b7 at m7 q7 ba;obtain⟨x',hx⟩:=cn;have ao:(look (s.hp per prs (.ex (.slice (some ⟨vb,0,none⟩) 1 cap)) c5 c6 c11 []) 31).isSome=true:=rfl;have bk:ac<w1.heap.size:=Ky h1.rel ao h1.bx;have c4:vb<w1.heap.size:=h1.off.lt vb (.inl rfl);have aw:∀k,k<w1.heap.size->¬ Nb1 vb rv k->w5.heap[k]? = w1.heap[k]?:=λk hk bc=>hx.blk k hk (λe=>bc (.inl e)) (λe=>bc (.inr e))
 have cj:∀t,t<38->t≠12->tmv b7 t=tmv a1 t:=λt ht ce=>by
  rw[q7,QrD ce,q6,QrD I,q5,QrD I,q4,QrD I,q3,QrD I,q2,QrD I,q1,QrD I]
 have cr:Rel E β1 S1 (s.st i per prs (.ex (.slice (some ⟨vb,0,none⟩) 1 cap)) c5 c6 c11 [] []) a1 w1:=h1.rel.sub rfl (λt' av ht=>⟨by
  have hm:=Y2 ht;simp only[PP.st,PP.tm,QrO,Prod.mk.injEq,List.not_mem_nil,or_false]at hm;rcases hm with⟨rfl,rfl⟩|⟨rfl,rfl⟩|⟨rfl,rfl⟩|⟨rfl,rfl⟩|⟨rfl,rfl⟩<;>rfl,λ_ _=>rfl⟩) (λl o ho=>⟨ho,λ_ _=>rfl⟩)
 have am:Rel E β1 S1 (s.st i per prs (.ex (.slice (some ⟨vb,0,none⟩) 1 cap)) c5 c6 c11 [] []) b7 w5:=by
  refine Qaa cr h1.off h1.new (m7.trans a4.symm) (ba.trans h1.rel.dfr.symm) (λt av ht=>?_) hx.os hx.tape hx.output hx.size aw;have hm:=Y2 ht;simp only[PP.st,PP.tm,QrO,Prod.mk.injEq,List.not_mem_nil,or_false]at hm;refine⟨cj t I I,λt' hg=>?_⟩;rcases hm with⟨rfl,rfl⟩|⟨rfl,rfl⟩|⟨rfl,rfl⟩|⟨rfl,rfl⟩|⟨rfl,rfl⟩<;>simp[gds]at hg
 have bi:Rel E β1 S1 (s.st i per prs (.ex (.slice (some ⟨vb,0,none⟩) 1 cap)) c5 c6 c11 [] [(12,.d (.int .i64 0))]) b7 w5:=by
  refine⟨am.n,am.dfr,λt av ht=>?_,am.hr⟩;by_cases e:t=12
  ·subst e;have ay:some (AV.d (.int .i64 0))=some av:=ht;injection ay with ay
   subst ay;rw[q7,if_pos rfl];exact .d _ _ (.int _ _)
  ·refine am.tm t av ?_;have hm:=Y2 ht;simp only[PP.st,PP.tm,QrO,Prod.mk.injEq,List.not_mem_nil,or_false]at hm;rcases hm with⟨rfl,rfl⟩|⟨rfl,rfl⟩|⟨rfl,rfl⟩|⟨rfl,rfl⟩|⟨rfl,rfl⟩|⟨rfl,rfl⟩
   all_goals first
    |exact absurd rfl e
    |rfl
 have aa:∀b,Nb1 vb x' b->Nb1 vb rv b\/(w1.heap.size<=b/\x'.ownBlock=some b):=λb hb=>by
  rcases hb with hb | hb
  ·exact .inl (.inl hb)
  ·rcases hx.at_ with e | ⟨g,e1,e2⟩
   ·exact .inl (.inr (e▸hb))
   ·rw[hb]at e1;injection e1 with e1
    exact .inr ⟨I,hb⟩
 have bn:∀b,x'.ownBlock=some b->b<w5.heap.size:=λb hb=>(hx.own.lt b hb).2
 have hH:Hid E s i per prs c5 c6 c11 [(12,.d (.int .i64 0))] ac vb cap (cur.setIfInBounds 3 x') x' (rs++[r]) n0 n1 n2 β1 S1 b7 w5:=by
  refine⟨bi,⟨λb hb=>?_,λb hb hS=>?_,λb hb l hl bb=>?_⟩,⟨?_,hx.hp,by simpa using h1.nst.sz,?_,?_,λe=>?_,λe=>?_,h1.nst.xv,by simp;omega⟩,h1.bx,λb hb=>?_,λr' bm=>?_,by simpa using h1.csz,h1.capm,λj x hj=>?_⟩
  ·rcases aa b hb with g | ⟨g,g'⟩
   ·exact Qrv (h1.off.lt b g) hx.size
   ·exact bn b g'
  ·rcases aa b hb with g | ⟨g,g'⟩
   ·exact h1.off.nS b g hS
   ·have:=h1.rel.hr.sb b hS;omega
  ·rcases aa b hb with g | ⟨g,g'⟩
   ·exact h1.off.nO b g l hl bb
   ·have:=Ky h1.rel hl bb;omega
  ·rw[Gy (w:=w1) (aw ac bk (λe=>h1.off.nO ac e 31 ao h1.bx))];exact h1.nst.cell
  ·have:=h1.nst.sz;simp[Array.getElem?_setIfInBounds,this]
  ·rw[List.length_append];exact hx.own
  ·rcases aa vb (.inr e)with g | ⟨g,g'⟩
   ·rcases hx.at_ with e1 | ⟨g',e1,e2⟩
    ·exact h1.nst.ne (e1.symm.trans e)
    ·rw[e]at e1;injection e1 with e1;omega
   ·omega
  ·rcases aa ac (.inr e)with g | ⟨g,g'⟩
   ·exact h1.off.nO ac g 31 ao h1.bx
   ·omega
  ·rcases aa b hb with g | ⟨g,g'⟩
   ·exact h1.new b g
   ·have:=h1.rel.hr.fr.size;exact .inr I
  ·rcases List.mem_append.1 bm with g | g
   ·exact h1.ints r' g
   ·obtain rfl:=List.mem_singleton.1 g;exact Qag hr
  ·obtain⟨u',hu,a5⟩:=h1.flat j x hj;have ef:j<3:=(Qrt.1 hj).1;exact⟨u',by rw[Array.getElem?_setIfInBounds,QrD I];exact hu,a5⟩
 show Exit.then _ _ .normal b7 w5
 refine wp_seq (hH.run (QgJ s i per prs _ c5 c6 c11 some false) λdx β2 S2 a2 w2 h2=>?_);refine wp_cond_false (RdA.bool_inv (h2.rel.tm 45 _ rfl)) (wp_skip ?_);exact h2.run (Qj8 s i per prs _ c5 c6 c11 some) λbr β3 S3 a3 w3 h3=>hQ br _ x' β3 S3 a3 w3 h3
end
def QdW{R:Type}(k:Exit->St->oP R)(s:PP):Int->Bool->Int->Int->LL->LL->LL->LL->oP R:=λa b c d e f g h=>k (.exit 0) (s.sF a c d e f g h [(35,.d (.bool b))])
def ppG{R:Type}(n:Nat)(k:Exit->St->oP R)(m:Nat):Y Lf->oP R
 |[.L w,.I i,.L la,.L lb,.L lc,.L ld,.L xa,.L xb,.L xc,.L xd,.I per,.I aa,.L c5,.L c6,.L c7,.L ac]=>XX n w xa xc (λa b=>k .ret (Q28 a b)) (QdW k ⟨w,la,lb,lc,ld,xa,xb,xc,xd⟩) m false i per aa c5 c6 c7 ac
 |_=>none
theorem Qci{r:Y D}{c7 l:LL}(h:Q4q false r c7=some l):∃nm k1 b1 k2 b2,c7=[[.str nm,.int k1 b1,.int k2 b2,.nl]]/\l=[[.str nm,.int k1 b1,.int k2 b2,.sl 4 [r]]]:=by
 unfold Q4q at h;split at h
 ·rw[cond_false]at h;injection h with h
  exact⟨_,_,_,_,_,rfl,h.symm⟩
 ·rw[Bool.false_and,cond_false]at h;cases h
 ·cases h
theorem Qby{r:Y D}{n0 n1 n2:D}{rs l:LL}(h:Q4q true r [[n0,n1,n2,.sl 4 rs]]=some l):rs.length<=900/\l=[[n0,n1,n2,.sl 4 (rs++[r])]]:=by
 unfold Q4q at h;split at h
 ·rename_i h0;cases h0
 ·rename_i h0;injection h0 with h0 _
  injection h0 with h1 h0
  injection h0 with h2 h0
  injection h0 with h3 h0
  injection h0 with h4 _
  injection h4 with h5 h6
  subst h1 h2 h3 h5 h6;obtain⟨hb,h⟩:=Xm h;simp only[Qry]at hb;injection h with h
  exact⟨Qru hb.2.2,h.symm⟩
 ·cases h
theorem Q7C{n:Nat}{E:Env}{R:Type}{s:PP}{k:Exit->St->oP R}{r:R}{m:Nat}{i per aa:Int}{c5 c6 c7 ac:LL}{a:Act}{w:World}(ih:∀(s:PP) (i per aa:Int) (c5 c6 c7 ac:LL) (a:Act) (w:World),JB E (s.sF i per aa c5 c6 c7 ac []) a w->XX n s.w s.xa s.xc (λa b=>k .ret (Q28 a b)) (QdW k s) m false i per aa c5 c6 c7 ac=some r->Code.rounds Tryz.prog ppL (E6 E k r) m a w)(hX:JB E (s.sF i per aa c5 c6 c7 ac []) a w)(h:JK n s.w s.xa s.xc (λa b=>k .ret (Q28 a b)) (QdW k s) (XX n s.w s.xa s.xc (λa b=>k .ret (Q28 a b)) (QdW k s) m false) i per aa c5 c6 c7 ac=some r):Code.rounds Tryz.prog ppL (E6 E k r) (m+1) a w:=by
 have h':JK n s.w s.xa s.xc (λa b=>k .ret (Q28 a b)) (λa b c d e f g h=>k (.exit 0) (s.sF a c d e f g h [(35,.d (.bool b))])) (λa b c d e f g=>ppG n k m (s.lf a b c d e f g)) i per aa c5 c6 c7 ac=some r:=h;rw[Qeh]at h';rw[rounds_succ];refine wp_mono (Kp (ppV n).ok 0 ppL _ _ r h' a w hX) λe a' w' ⟨st',am,hk⟩=>?_
 cases e with
 |normal=>
  simp only at hk;split at hk
  ·rename_i ls ay;unfold ppG at hk;split at hk
   ·rename_i w0 i' la lb lc ld xa xb xc xd ak aj ax aw au ai;refine ih ⟨w0,la,lb,lc,ld,xa,xb,xc,xd⟩ i' ak aj ax aw au ai a' w' ?_ hk;have ar:=Q17 QhQ am;rw[<- Ee ay]at ar;exact(Qav ⟨w0,la,lb,lc,ld,xa,xb,xc,xd⟩ i' ak aj ax aw au ai)▸ar
   ·cases hk
  ·cases hk
 |exit id=>exact⟨_,AR Qg9 _ am,hk⟩
 |ret=>exact⟨_,AR Qg9 _ am,hk⟩
 |_=>cases hk
theorem Q4p{n:Nat}{E:Env}{R:Type}{k:Exit->St->oP R}{r:R}:∀m:Nat,
  (∀(s:PP) (i per aa:Int) (c5 c6 c7 ac:LL) (a:Act) (w:World),JB E (s.sF i per aa c5 c6 c7 ac []) a w->XX n s.w s.xa s.xc (λa b=>k .ret (Q28 a b)) (QdW k s) m false i per aa c5 c6 c7 ac=some r->Code.rounds Tryz.prog ppL (E6 E k r) m a w) /\
  (∀(s:PP) (i per aa:Int) (c5 c6 ac:LL) (xb vb cap:Nat) (am:Array Value) (rv:Value) (rs:LL) (n0 n1 n2:D) (β:Nat->oP Nat) (S:Nat->Prop) (a:Act) (w:World),Hid E s i per aa c5 c6 ac [] xb vb cap am rv rs n0 n1 n2 β S a w->XX n s.w s.xa s.xc (λa b=>k .ret (Q28 a b)) (QdW k s) m true i per aa c5 c6 [[n0,n1,n2,.sl 4 rs]] ac=some r->Code.rounds Tryz.prog ppL (E6 E k r) m a w)
 |0=>⟨λs i per aa c5 c6 c7 ac a w _ h=>(by cases h),λs i per aa c5 c6 ac xb vb cap am rv rs n0 n1 n2 β S a w _ h=>by cases h⟩
 |m+1=>by
  obtain⟨au,ax⟩:=Q4p (n:=n) (E:=E) (k:=k) (r:=r) m;refine⟨λs i per aa c5 c6 c7 ac a w hX h=>?_,λs i per aa c5 c6 ac xb vb cap am rv rs n0 n1 n2 β S a w hH h=>?_⟩
  ·rw[XX]at h;split at h
   ·rename_i rd ar;split at h
    ·rename_i l hl;obtain⟨nm,k1,b1,k2,b2,rfl,rfl⟩:=Qci hl;obtain⟨xb,vb,cap,am,β,S,hH⟩:=Qcm hX;rw[rounds_succ];exact QaX hH ar Q2 λan ak x' β' S' a' w' ao=>ax s _ per aa c5 c6 ac an vb cap ak x' [rd] _ _ _ β' S' a' w' ao h
    ·cases h
   ·exact Q7C au hX h
  ·rw[XX]at h;split at h
   ·rename_i rd ar;split at h
    ·rename_i l hl;obtain⟨aw,rfl⟩:=Qby hl;rw[rounds_succ];exact QaX hH ar aw λan ak x' β' S' a' w' ao=>ax s _ per aa c5 c6 ac an vb cap ak x' _ _ _ _ β' S' a' w' ao h
    ·cases h
   ·exact Q7C au (Qgd hH) h
abbrev Qj6(R:Type):Type:=(h3 aa ac:LL)->(Int->Int->oP R)->(Int->Bool->Int->Int->LL->LL->LL->LL->oP R)->Nat->Int->Int->Int->LL->LL->LL->LL->oP R
theorem QbN:∀R,Qj6 R=PT (ltM (Qcx []) (ltH ppT)) ppQ Qg9 R:=by intro R;kernel_rfl
def Q9c(n m:Nat):N6:=LpU ⟨69,Qcx [],ppT⟩ λR k=>Qfc (ltM (Qcx []) (ltH ppT)) (Qd1 (cast (QbN R) (@Sn R n)) m k)
theorem Qg6(n m:Nat):QbZ Tryz.prog ppL (Q9c n m):=by
 intro E R st k r h a w hR;unfold Q9c LpU at h;split at h
 rotate_left
 ·cases h
 rename_i ls am;obtain⟨hb,h⟩:=Xm h;obtain⟨v,rfl⟩:=Fb hb;have hX:JB E (fiS ⟨69,Qcx [],ppT⟩ (toL _ v)) a w:=by
  rw[Ee am];exact Q17 _ hR
 obtain⟨w0,i,la,lb,lc,ld,xa,xb,xc,xd,per,aa,c5,c6,c7,ac,u⟩:=v;have h':XX n w0 xa xc (λa b=>k .ret (Q28 a b)) (QdW k ⟨w0,la,lb,lc,ld,xa,xb,xc,xd⟩) m false i per aa c5 c6 c7 ac=some r:=h;have ak:JB E (PP.sF ⟨w0,la,lb,lc,ld,xa,xb,xc,xd⟩ i per aa c5 c6 c7 ac []) a w:=(Qav ⟨w0,la,lb,lc,ld,xa,xb,xc,xd⟩ i per aa c5 c6 c7 ac)▸hX;exact wp_loop_rounds m ((Q4p (n:=n) (k:=k) (r:=r) m).1 ⟨w0,la,lb,lc,ld,xa,xb,xc,xd⟩ i per aa c5 c6 c7 ac a w ak h')
def EO(n m:Nat):LpE Tryz.prog where
 r:=8
 c:=ppL
 L:=Q9c n m
 t:=λst=>(rdS ⟨69,Qcx [],ppT⟩ (nU ⟨69,Qcx [],ppT⟩ st)).isSome
 ok:=Qg6 n m
end Go.Vx
set_option maxRecDepth 100000
namespace Go.Vx
open Go.Proofs
variable(n:Nat)
def EM:BZ9:=Xa [⟨76,Pd n⟩,⟨74,Cb n⟩,⟨77,G1 n⟩,⟨60,Nj n⟩] [(7,⟨[],[],[],[(31,5,503105,79,5),(31,6,503106,66,2),(31,7,503107,90,4),(31,8,503108,87,7),(31,9,503109,146,4),(31,10,503110,93,5),(31,11,503111,45,3)],[]⟩)]
def CL:EZ9 56:=mkD (EM n).ok [EO n n] 56 Tryz.f56 0 @MZ n
def AM:EZ9 28:=mkD (Xa [⟨55,Q44 n⟩,⟨56,CL n⟩] []).ok nT 28 Tryz.f28 0 @FG n
def Q1R:EZ9 9:=mkD (Xa [⟨28,AM n⟩,⟨8,Ev n⟩,⟨10,NO n⟩] []).ok nT 9 Tryz.f9 0 @KQ n
def law21_JourneysAreChains_VB:BZ9:=Xa [⟨7,Q5h n⟩,⟨8,Ev n⟩,⟨12,AL n⟩,⟨10,NO n⟩,⟨9,Q1R 410⟩,⟨13,Er n⟩,⟨14,CE n⟩,⟨16,H4 n⟩,⟨15,Pj n⟩,⟨17,Rw n⟩] []
def law21_JourneysAreChains_l1:LZ9:=mkU (law21_JourneysAreChains_VB n).ok nT 10 Tryz.f4 [QlK,Qmk,Qn2,Qn5,(9,.nil),QmV,Qmi,Qmj,Qml,QlM,(77,tI),(78,tI)] Qp6 45328202991 [.f .ret [(6,.cb false)] [] [],xE 0 [(79,.b)]] @WX n
def law21_JourneysAreChains_l2:LZ9:=mkU (law21_JourneysAreChains_VB n).ok nT 10 Tryz.f4 [QlK,Qmk,Qn2,Qn5,(9,.l 1),QmV,Qmi,Qmj,Qml,QlM,(77,tI),(78,tI)] Qp6 135984608982 [.f .ret [(6,.cb false)] [] [],xE 0 [(79,.b)]] @QN n
end Go.Vx
