/- Part of a proof. No conditions of their own. -/
import Derived.Test.YtidplnfkjemokaaGreatTE
import Derived.Deep.RegionHeld3
import Derived.Deep.RegionLaw
import Derived.StillTailTactics
import Derived.OrdersHeld
import Derived.Test.YtidplnfkjemokaaGreatProg
import Derived.WalkKit
import Derived.Orders
import Derived.LoopTactic
import Derived.Lib.Builder
import Derived.Test.YtidplnfkjemokaaGreatTD
import Derived.Test.YtidplnfkjemokaaGreatTB
import Derived.Laws.CopyOwn
import Derived.Deep.OwnRows
import Derived.Carry
set_option linter.unusedVariables false
set_option linter.unusedSimpArgs false
namespace Go.Vx
open Go.Proofs Go.RowKit
theorem Qcw {w w':World} {a:Addr} {u:Value} (hB:Below w.heap.size w w') (h:w.cell? a=some u):w'.cell? a=some u:=by
  rw [World.cell?_of_block (hB.block a.block (World.block_lt_of_cell? w a h))];exact h
theorem A5 (w:World):Below w.heap.size w w.drew:=⟨rfl,rfl,rfl,Nat.le_refl _,fun _ _=>rfl⟩
theorem A8 {w a b:World} (h:Below w.heap.size w a) (c:Below a.heap.size a b):Below w.heap.size w b:=Jy h (Nat.le_refl _) c
theorem Qbz {β:Nat→Option Nat} {S:Nat→Prop} {h:Nat→Option Ob} {w:World} {tm:Nat→Value} {v:Value} {k:IntKind} {n:Int} (h:RdA β S h w tm v (.d (.int k n))):v = .int k n:=by
  cases h with
  | d _ _ q=>exact Dr q
  | dang _ _ _ hl=>cases hl
theorem Qds {β:Nat→Option Nat} {S:Nat→Prop} {h:Nat→Option Ob} {w:World} {tm:Nat→Value} {v:Value} {k k':IntKind} {n m:Int} (h:RdA β S h w tm v (.ag [.d (.int k n),.d (.int k' m)])):v = .agg #[.int k n,.int k' m]:=by
  cases h with
  | ag cs l hl hr=>
    have c:=Qbz (hr 0 _ rfl)
    have q1:=Qbz (hr 1 _ rfl)
    obtain ⟨l⟩:=cs
    match l,hl with
    | [a,b],_=>
      simp at c q1
      rw [c,q1]
  | dang _ _ _ hl=>cases hl
theorem Tryz.index_calls (w:World) (a b:Int) (a0:0≤a) (a1:a<1000) (b0:0≤b) (b1:b≤1) :
    Calls Tryz.prog 102 #[.agg #[.int .i64 a,.int .i64 b]] w fun e w'=>e = .returned (.int .i64 (2*a+b))∧Below w.heap.size w w':=by
  have e1:IntKind.i64.wrap (2*a)=2*a:=by rw [IntKind.wrap_i64];omega
  have e2:IntKind.i64.wrap (2*a+b)=2*a+b:=by rw [IntKind.wrap_i64];omega
  have hp:Hv 0 a b some=some (2*a+b):=by
    show some (IntKind.i64.wrap (IntKind.i64.wrap (2*a)+b))=_
    rw [e1,e2]
  have he:Tv 0 Dl 0 true [.ag ([D.int .i64 a,D.int .i64 b].map .d)] (fun _=>none) some=some ⟨.d (D.int .i64 (2*a+b)),[],[]⟩:=by
    show gb true (Hv 0 a b some) 0 (fun r=>(some ⟨.d (D.int .i64 r),[],[]⟩:Option Dl))=_
    rw [hp]
    rfl
  exact P0 (S:=fun _=>False) (Zb (Q0Z 0) he) (fun _ h=>h.elim) (Qee (RdLs.agg (.cons (.int _ _) (.cons (.int _ _) .nil))))
set_option maxHeartbeats 4000000 in
theorem Tryz.ends_calls (w:World) (a ae b be p q:Int) :
    Calls Tryz.prog 101 #[.agg #[.int .i64 a,.int .i64 ae,.int .i64 b,.int .i64 be,.int .i64 p,.int .i64 q]] w fun e w'=>e = .returned (.tuple #[.agg #[.int .i64 a,.int .i64 ae],.agg #[.int .i64 b,.int .i64 be]])∧Below w.heap.size w w':=by
  have he:NU 0 Dl 0 true [.ag ([D.int .i64 a,D.int .i64 ae,D.int .i64 b,D.int .i64 be,D.int .i64 p,D.int .i64 q].map .d)] (fun _=>none) some=some ⟨.tup [.ag ([D.int .i64 a,D.int .i64 ae].map .d),.ag ([D.int .i64 b,D.int .i64 be].map .d)],[],[]⟩:=rfl
  refine (Q50 (S:=fun _=>False) (Zb (AD 0) he) (fun _ h=>h.elim) (Qee (RdLs.agg (.cons (.int _ _) (.cons (.int _ _) (.cons (.int _ _) (.cons (.int _ _) (.cons (.int _ _) (.cons (.int _ _) .nil))))))))).mono fun e w' ⟨v,S',d,f,g⟩=>⟨?_,g⟩
  rw [d]
  cases f with
  | tup cs l hl hr=>
    have c:=Qds (hr 0 _ rfl)
    have q1:=Qds (hr 1 _ rfl)
    obtain ⟨l⟩:=cs
    match l,hl with
    | [a,b],_=>
      simp at c q1
      rw [c,q1]
  | dang v av l hl=>cases hl
theorem PX {e1 e2 k:Nat} {w w':World} {B:Nat} {v:Value} {hd:List Value} {ll:List LL} (h:NestK e1 e2 k w B v hd ll) (hg:w.grownBy w' none):NestK e1 e2 k w' B v hd ll:=
  h.kept hg (Classical.em _) (fun x _=>Classical.em _)
structure Grew (w w':World) (vb:Nat) (x x':Value):Prop where
  own:∀ b,x'.ownBlock=some b→x.ownBlock=some b∨w.heap.size≤b
  os:w'.os=w.os
  tape:w'.tape=w.tape
  output:w'.output=w.output
  size:w.heap.size≤w'.heap.size
  block:∀ b,b<w.heap.size→b≠vb→x.ownBlock≠some b→w'.heap[b]? = w.heap[b]?
theorem Q9v {w W1 W2:World} {B vb N i n g c:Nat} {x:Value} {hd:List Value} {ll:List LL} {l:LL} {row:List D} (hN:NestK 25 113 6 w B (.slice (some ⟨vb,0,none⟩) N N) hd ll) (hx:hd[i]? = some x) (hl:ll[i]? = some l) (hn:n=l.length)
    (a:w.grownBy W1 none) (hown:W2.ownsRow B 113 6 (.slice (some ⟨g,0,none⟩) (n+1) c) (n+1) (cellsOf l++row.map dV)) (hgrow:W1.grownBy W2 x.ownBlock) (hat:x.ownBlock=some g∨g=W1.heap.size) :
    NestK 25 113 6 (W2.setCell ⟨vb,i,none⟩ (.slice (some ⟨g,0,none⟩) (n+1) c)) B (.slice (some ⟨vb,0,none⟩) N N) (hd.set i (.slice (some ⟨g,0,none⟩) (n+1) c)) (ll.set i (l++[row])) ∧
      Grew w (W2.setCell ⟨vb,i,none⟩ (.slice (some ⟨g,0,none⟩) (n+1) c)) vb x (.slice (some ⟨g,0,none⟩) (n+1) c):=by
  subst hn
  have d:=PX hN a
  have k:=a.size
  have m:=hgrow.size
  refine ⟨d.grow hx hl hown hgrow rfl hat rfl rfl,⟨fun b hb=>?_,?_,?_,?_,?_,fun b hb f j=>?_⟩⟩
  · simp only [Value.ownBlock,Option.some.injEq] at hb
    subst hb
    rcases hat with h | h
    · exact .inl h
    · exact .inr (by omega)
  · exact hgrow.os.trans a.os
  · exact hgrow.tape.trans a.tape
  · exact hgrow.output.trans a.output
  · simp;omega
  · rw [heap_setCell_other _ _ _ _ (fun e=>f e)]
    rw [hgrow.block b (by omega) (fun e=>j e.symm),a.block b hb (by simp)]
noncomputable def QgV:Code:=(TH (Tryz.f71.body.getD .skip)).getD 8 .skip
set_option maxHeartbeats 8000000 in
set_option maxRecDepth 100000 in
theorem Tryz.links_r8 (f g h i j u8 u9 k l m n o p q r s t u v x y z aa ab ac ad af ag cd ce cf cg ch ci cj ck ah ai aj ak al am an ao ap aq ar au av aw ax ay az ba bb bc bd bf bg bh bi u64 bj bk bl bm bn bo bp bq br bt bu bv bx bz ca:Value) (vb N c d:Nat) (a ae b be:Int) (w:World) (c0:w.cell? ⟨c,0,none⟩=some (.int .i64 a)) (c1:w.cell? ⟨c,1,none⟩=some (.int .i64 ae)) (d0:w.cell? ⟨d,0,none⟩=some (.int .i64 b)) (d1:w.cell? ⟨d,1,none⟩=some (.int .i64 be)) (a0:0≤a) (a1:a<1000) (e0:0≤ae) (e1:ae≤1) (b0:0≤b) (b1:b<1000) (f0:0≤be) (f1:be≤1) (h1:2*a+ae<(N:Int)) (h2:2*b+be<(N:Int)) :
    Code.wp Tryz.prog QgV (QbA fun act w'=>∃ (cl cm cn co cp cq cr cs:Value) ,act=⟨(f::g::h::.slice (some ⟨vb,0,none⟩) N N::i::j::.pointer (some ⟨c,0,none⟩)::.pointer (some ⟨d,0,none⟩)::.pointer (some ⟨vb,(2*a+ae).toNat,none⟩)::.pointer (some ⟨vb,(2*b+be).toNat,none⟩)::k::l::m::n::o::p::q::r::s::t::u::v::x::y::z::aa::ab::ac::ad::af::ag::cl::cm::cn::co::cp::cq::cr::cs::ah::ai::aj::ak::al::am::an::ao::ap::aq::ar::au::av::aw::ax::ay::az::ba::bb::bc::bd::bf::bg::bh::bi::u64::bj::bk::bl::bm::bn::bo::bp::bq::br::bt::bu::bv::bx::bz::ca::[]).toArray,[]⟩∧Below w.heap.size w w') ⟨(f::g::h::.slice (some ⟨vb,0,none⟩) N N::i::j::.pointer (some ⟨c,0,none⟩)::.pointer (some ⟨d,0,none⟩)::u8::u9::k::l::m::n::o::p::q::r::s::t::u::v::x::y::z::aa::ab::ac::ad::af::ag::cd::ce::cf::cg::ch::ci::cj::ck::ah::ai::aj::ak::al::am::an::ao::ap::aq::ar::au::av::aw::ax::ay::az::ba::bb::bc::bd::bf::bg::bh::bi::u64::bj::bk::bl::bm::bn::bo::bp::bq::br::bt::bu::bv::bx::bz::ca::[]).toArray,[]⟩ w:=by
  conv=>arg 2;whnf
  have mixed:Tryz.prog.follows .mixedOrders=true:=by kernel_rfl
  have y0:w.drew.cell? ⟨c,0,none⟩=some (.int .i64 a):=c0
  have y1:w.drew.cell? ⟨c,1,none⟩=some (.int .i64 ae):=c1
  have y2:w.drew.cell? ⟨d,0,none⟩=some (.int .i64 b):=d0
  have y3:w.drew.cell? ⟨d,1,none⟩=some (.int .i64 be):=d1
  have g1:0≤2*a+ae:=by omega
  have g2:0≤2*b+be:=by omega
  clear c0 c1 d0 d1
  go_region_held3 (fun w'=>w'.cell? ⟨c,0,none⟩=some (.int .i64 a)∧w'.cell? ⟨c,1,none⟩=some (.int .i64 ae)∧w'.cell? ⟨d,0,none⟩=some (.int .i64 b)∧w'.cell? ⟨d,1,none⟩=some (.int .i64 be))
    (first
      | exact ⟨y0,y1,y2,y3⟩
      | (refine ⟨?_,?_,?_,?_⟩ <;> (repeat (first | assumption | refine Qcw (by assumption) ?_))))
    (first
      | (go_at_call 102;refine (Tryz.index_calls _ _ _ (by assumption) (by assumption) (by assumption) (by assumption)).mono ?_;rintro e W1 ⟨rfl,de⟩))
  all_goals
    dsimp only [QbA]
    refine ⟨_,_,_,_,_,_,_,_,rfl,?_⟩
    repeat (first | exact A5 _ | refine A8 ?_ (by assumption))
noncomputable def Qgl:Code:=(TH (Tryz.f71.body.getD .skip)).getD 11 .skip
set_option maxHeartbeats 8000000 in
set_option maxRecDepth 100000 in
theorem Tryz.links_r11 (f g h j k l m o p q r s t u v x y z aa ab ac af ag ah ai aj ak al am an ao ap aq ar au av aw ax ay az ch ci cj ck cl cm cn ba bb bc bd bf bg bh bi bj bk bl bm bn bo u64 bp bq br bt bu bv bx bz ca cb cc cd ce cf cg:Value) (vb i c d n cap:Nat) (ad:Option Addr) (a ae b be:Int) (w:World) (c0:w.cell? ⟨c,0,none⟩=some (.int .i64 a)) (c1:w.cell? ⟨c,1,none⟩=some (.int .i64 ae)) (d0:w.cell? ⟨d,0,none⟩=some (.int .i64 b)) (d1:w.cell? ⟨d,1,none⟩=some (.int .i64 be)) (cx:w.cell? ⟨vb,i,none⟩=some (.slice ad n cap))
    (hc:Calls Tryz.prog 103 #[.slice ad n cap,.agg #[.int .i64 a,.int .i64 ae],.agg #[.int .i64 b,.int .i64 be]] w.drew fun e w'=>e = .returned (.bool false)∧Below w.drew.heap.size w.drew w') :
    Code.wp Tryz.prog Qgl (QbA fun act w'=>∃ (co cp cq cr cs ct:Value) ,act=⟨(f::g::h::j::k::l::.pointer (some ⟨c,0,none⟩)::.pointer (some ⟨d,0,none⟩)::.pointer (some ⟨vb,i,none⟩)::m::o::p::q::r::s::t::u::v::x::y::z::aa::ab::ac::af::ag::ah::ai::aj::ak::al::am::an::ao::ap::aq::ar::au::av::aw::ax::ay::az::.bool false::co::cp::cq::cr::cs::ct::ba::bb::bc::bd::bf::bg::bh::bi::bj::bk::bl::bm::bn::bo::u64::bp::bq::br::bt::bu::bv::bx::bz::ca::cb::cc::cd::ce::cf::cg::[]).toArray,[]⟩∧Below w.heap.size w w') ⟨(f::g::h::j::k::l::.pointer (some ⟨c,0,none⟩)::.pointer (some ⟨d,0,none⟩)::.pointer (some ⟨vb,i,none⟩)::m::o::p::q::r::s::t::u::v::x::y::z::aa::ab::ac::af::ag::ah::ai::aj::ak::al::am::an::ao::ap::aq::ar::au::av::aw::ax::ay::az::ch::ci::cj::ck::cl::cm::cn::ba::bb::bc::bd::bf::bg::bh::bi::bj::bk::bl::bm::bn::bo::u64::bp::bq::br::bt::bu::bv::bx::bz::ca::cb::cc::cd::ce::cf::cg::[]).toArray,[]⟩ w:=by
  conv=>arg 2;whnf
  have mixed:Tryz.prog.follows .mixedOrders=true:=by kernel_rfl
  have y0:w.drew.cell? ⟨c,0,none⟩=some (.int .i64 a):=c0
  have y1:w.drew.cell? ⟨c,1,none⟩=some (.int .i64 ae):=c1
  have y2:w.drew.cell? ⟨d,0,none⟩=some (.int .i64 b):=d0
  have y3:w.drew.cell? ⟨d,1,none⟩=some (.int .i64 be):=d1
  have y4:w.drew.cell? ⟨vb,i,none⟩=some (.slice ad n cap):=cx
  clear c0 c1 d0 d1 cx
  go_region_law (first
      | (go_simp;refine hc.mono ?_;rintro e W1 ⟨rfl,cu⟩))
  all_goals
    dsimp only [QbA]
    refine ⟨_,_,_,_,_,_,rfl,?_⟩
    exact A8 (A5 w) cu
noncomputable def Qgy:Code:=(TH (Tryz.f71.body.getD .skip)).getD 13 .skip
set_option maxHeartbeats 8000000 in
set_option maxRecDepth 100000 in
theorem Tryz.links_r13 (d f g h j k l m o r s t u v x y z aa ab ac af ag ah ai aj ak al am an ao ap aq ar au av aw ax ay az ba bb bc bd bf bg bh bi bj cn co cp cq cr cs ct bk bl bm bn bo bp bq u64 br bt bu bv bx bz ca cb cc cd ce cf cg ch ci:Value) (vb i c n cap:Nat) (ad:Option Addr) (a ae b be p q:Int) (w:World) (c0:w.cell? ⟨c,0,none⟩=some (.int .i64 a)) (c1:w.cell? ⟨c,1,none⟩=some (.int .i64 ae)) (c2:w.cell? ⟨c,2,none⟩=some (.int .i64 b)) (c3:w.cell? ⟨c,3,none⟩=some (.int .i64 be)) (c4:w.cell? ⟨c,4,none⟩=some (.int .i64 p)) (c5:w.cell? ⟨c,5,none⟩=some (.int .i64 q)) (cx:w.cell? ⟨vb,i,none⟩=some (.slice ad n cap))
    (hc:Calls Tryz.prog 104 #[.agg #[.int .i64 a,.int .i64 ae,.int .i64 b,.int .i64 be,.int .i64 p,.int .i64 q],.slice ad n cap] w.drew fun e w'=>e = .returned (.bool true)∧Below w.drew.heap.size w.drew w') :
    Code.wp Tryz.prog Qgy (QbA fun act w'=>∃ (cu cv cw cy cz da:Value) ,act=⟨(d::f::g::h::j::.pointer (some ⟨c,0,none⟩)::k::l::.pointer (some ⟨vb,i,none⟩)::m::o::r::s::t::u::v::x::y::z::aa::ab::ac::af::ag::ah::ai::aj::ak::al::am::an::ao::ap::aq::ar::au::av::aw::ax::ay::az::ba::bb::bc::bd::bf::bg::bh::bi::bj::.bool false::cu::cv::cw::cy::cz::da::bk::bl::bm::bn::bo::bp::bq::u64::br::bt::bu::bv::bx::bz::ca::cb::cc::cd::ce::cf::cg::ch::ci::[]).toArray,[]⟩∧Below w.heap.size w w') ⟨(d::f::g::h::j::.pointer (some ⟨c,0,none⟩)::k::l::.pointer (some ⟨vb,i,none⟩)::m::o::r::s::t::u::v::x::y::z::aa::ab::ac::af::ag::ah::ai::aj::ak::al::am::an::ao::ap::aq::ar::au::av::aw::ax::ay::az::ba::bb::bc::bd::bf::bg::bh::bi::bj::cn::co::cp::cq::cr::cs::ct::bk::bl::bm::bn::bo::bp::bq::u64::br::bt::bu::bv::bx::bz::ca::cb::cc::cd::ce::cf::cg::ch::ci::[]).toArray,[]⟩ w:=by
  conv=>arg 2;whnf
  have mixed:Tryz.prog.follows .mixedOrders=true:=by kernel_rfl
  have y0:w.drew.cell? ⟨c,0,none⟩=some (.int .i64 a):=c0
  have y1:w.drew.cell? ⟨c,1,none⟩=some (.int .i64 ae):=c1
  have y2:w.drew.cell? ⟨c,2,none⟩=some (.int .i64 b):=c2
  have y3:w.drew.cell? ⟨c,3,none⟩=some (.int .i64 be):=c3
  have y5:w.drew.cell? ⟨c,4,none⟩=some (.int .i64 p):=c4
  have y6:w.drew.cell? ⟨c,5,none⟩=some (.int .i64 q):=c5
  have y4:w.drew.cell? ⟨vb,i,none⟩=some (.slice ad n cap):=cx
  clear c0 c1 c2 c3 c4 c5 cx
  go_region_law (first
      | (go_simp;refine hc.mono ?_;rintro e W1 ⟨rfl,db⟩))
  all_goals
    dsimp only [QbA]
    refine ⟨_,_,_,_,_,_,rfl,?_⟩
    exact A8 (A5 w) db
noncomputable def QfG:Code:=(TH (Tryz.f71.body.getD .skip)).getD 14 .skip
set_option maxHeartbeats 8000000 in
set_option maxRecDepth 100000 in
theorem Tryz.links_r14 (d f g h j k l m o r s t u v x y z aa ab ac af ag ah ai aj ak al am an ao ap aq ar au av aw ax ay az ba bb bc bd bf bg bh bi bj cn bk bl bm bn bo bp co cp cq cr cs ct bq u64 br bt bu bv bx bz ca cb cc cd ce cf cg ch ci:Value) (vb i c n cap:Nat) (ad:Option Addr) (a ae b be p q:Int) (w:World) (c0:w.cell? ⟨c,0,none⟩=some (.int .i64 a)) (c1:w.cell? ⟨c,1,none⟩=some (.int .i64 ae)) (c2:w.cell? ⟨c,2,none⟩=some (.int .i64 b)) (c3:w.cell? ⟨c,3,none⟩=some (.int .i64 be)) (c4:w.cell? ⟨c,4,none⟩=some (.int .i64 p)) (c5:w.cell? ⟨c,5,none⟩=some (.int .i64 q)) (cx:w.cell? ⟨vb,i,none⟩=some (.slice ad n cap))
    (hc:Calls Tryz.prog 104 #[.agg #[.int .i64 a,.int .i64 ae,.int .i64 b,.int .i64 be,.int .i64 p,.int .i64 q],.slice ad n cap] w.drew fun e w'=>e = .returned (.bool true)∧Below w.drew.heap.size w.drew w') :
    Code.wp Tryz.prog QfG (QbA fun act w'=>∃ (cu cv cw cy cz da:Value) ,act=⟨(d::f::g::h::j::.pointer (some ⟨c,0,none⟩)::k::l::m::.pointer (some ⟨vb,i,none⟩)::o::r::s::t::u::v::x::y::z::aa::ab::ac::af::ag::ah::ai::aj::ak::al::am::an::ao::ap::aq::ar::au::av::aw::ax::ay::az::ba::bb::bc::bd::bf::bg::bh::bi::bj::.bool false::bk::bl::bm::bn::bo::bp::cu::cv::cw::cy::cz::da::bq::u64::br::bt::bu::bv::bx::bz::ca::cb::cc::cd::ce::cf::cg::ch::ci::[]).toArray,[]⟩∧Below w.heap.size w w') ⟨(d::f::g::h::j::.pointer (some ⟨c,0,none⟩)::k::l::m::.pointer (some ⟨vb,i,none⟩)::o::r::s::t::u::v::x::y::z::aa::ab::ac::af::ag::ah::ai::aj::ak::al::am::an::ao::ap::aq::ar::au::av::aw::ax::ay::az::ba::bb::bc::bd::bf::bg::bh::bi::bj::cn::bk::bl::bm::bn::bo::bp::co::cp::cq::cr::cs::ct::bq::u64::br::bt::bu::bv::bx::bz::ca::cb::cc::cd::ce::cf::cg::ch::ci::[]).toArray,[]⟩ w:=by
  conv=>arg 2;whnf
  have mixed:Tryz.prog.follows .mixedOrders=true:=by kernel_rfl
  have y0:w.drew.cell? ⟨c,0,none⟩=some (.int .i64 a):=c0
  have y1:w.drew.cell? ⟨c,1,none⟩=some (.int .i64 ae):=c1
  have y2:w.drew.cell? ⟨c,2,none⟩=some (.int .i64 b):=c2
  have y3:w.drew.cell? ⟨c,3,none⟩=some (.int .i64 be):=c3
  have y5:w.drew.cell? ⟨c,4,none⟩=some (.int .i64 p):=c4
  have y6:w.drew.cell? ⟨c,5,none⟩=some (.int .i64 q):=c5
  have y4:w.drew.cell? ⟨vb,i,none⟩=some (.slice ad n cap):=cx
  clear c0 c1 c2 c3 c4 c5 cx
  go_region_law (first
      | (go_simp;refine hc.mono ?_;rintro e W1 ⟨rfl,db⟩))
  all_goals
    dsimp only [QbA]
    refine ⟨_,_,_,_,_,_,rfl,?_⟩
    exact A8 (A5 w) db
noncomputable def Qgt:Code:=(TH (Tryz.f71.body.getD .skip)).getD 16 .skip
set_option maxHeartbeats 8000000 in
set_option maxRecDepth 100000 in
theorem Tryz.links_r16 (m n o r s t v x y z aa ab ac af ag ah ai aj ak al am an ao ap aq ar au av aw ax ay az ba bb bc bd bf bg bh bi bj bk bl bm bn bo bp bq br bt bu bv bx bz ca cb cc cd ce cf cg cr u64 cs ct cu cv cw cx ch ci cj ck cl cm cn co cp:Value) (B vb N i c cap:Nat) (ad:Option Addr) (a ae b be p q:Int) (hd:List Value) (ll:List LL) (l:LL) (w:World) (c0:w.cell? ⟨c,0,none⟩=some (.int .i64 a)) (c1:w.cell? ⟨c,1,none⟩=some (.int .i64 ae)) (c2:w.cell? ⟨c,2,none⟩=some (.int .i64 b)) (c3:w.cell? ⟨c,3,none⟩=some (.int .i64 be)) (c4:w.cell? ⟨c,4,none⟩=some (.int .i64 p)) (c5:w.cell? ⟨c,5,none⟩=some (.int .i64 q))
    (hN:NestK 25 113 6 w B (.slice (some ⟨vb,0,none⟩) N N) hd ll) (hx:hd[i]? = some (.slice ad l.length cap)) (hl:ll[i]? = some l) (dt:l.length≤1000) (hB:B≤w.heap.size) (du:c≠vb) (dw:(Value.slice ad l.length cap).ownBlock≠some c) :
    Code.wp Tryz.prog Qgt (QbA fun act w'=>∃ (db dc dd de df dg dh di:Value) (xx:Value),act=⟨(m::n::o::r::s::.pointer (some ⟨c,0,none⟩)::t::v::.pointer (some ⟨vb,i,none⟩)::x::y::z::aa::ab::ac::af::ag::ah::ai::aj::ak::al::am::an::ao::ap::aq::ar::au::av::aw::ax::ay::az::ba::bb::bc::bd::bf::bg::bh::bi::bj::bk::bl::bm::bn::bo::bp::bq::br::bt::bu::bv::bx::bz::ca::cb::cc::cd::ce::cf::cg::db::dc::dd::de::df::dg::dh::di::ch::ci::cj::ck::cl::cm::cn::co::cp::[]).toArray,[]⟩∧NestK 25 113 6 w' B (.slice (some ⟨vb,0,none⟩) N N) (hd.set i xx) (ll.set i (l++[[D.int .i64 a,.int .i64 ae,.int .i64 b,.int .i64 be,.int .i64 p,.int .i64 q]]))∧Grew w w' vb (.slice ad l.length cap) xx) ⟨(m::n::o::r::s::.pointer (some ⟨c,0,none⟩)::t::v::.pointer (some ⟨vb,i,none⟩)::x::y::z::aa::ab::ac::af::ag::ah::ai::aj::ak::al::am::an::ao::ap::aq::ar::au::av::aw::ax::ay::az::ba::bb::bc::bd::bf::bg::bh::bi::bj::bk::bl::bm::bn::bo::bp::bq::br::bt::bu::bv::bx::bz::ca::cb::cc::cd::ce::cf::cg::cr::u64::cs::ct::cu::cv::cw::cx::ch::ci::cj::ck::cl::cm::cn::co::cp::[]).toArray,[]⟩ w:=by
  conv=>arg 2;whnf
  have mixed:Tryz.prog.follows .mixedOrders=true:=by kernel_rfl
  obtain ⟨i0,hi,dk⟩:=Option.map_eq_some_iff.1 (show (Tryz.prog.info? 113).map (fun i=>(i.zero,i.size,i.bytes))=some (some (.agg #[.int .i64 0,.int .i64 0,.int .i64 0,.int .i64 0,.int .i64 0,.int .i64 0]),6,48) by kernel_rfl)
  obtain ⟨hz,f⟩:=Prod.mk.inj dk
  obtain ⟨f,dl⟩:=Prod.mk.inj f
  have hvlt:=(hN.row.lt vb rfl).2
  have hxr:=hN.each _ _ _ hx hl
  have dn:w.cell? ⟨vb,i,none⟩=some (.slice ad l.length cap):=by
    have:=hN.row.cells (g:=vb) rfl i _ hx
    rwa [T8,Nat.zero_add] at this
  have hxv:(Value.slice ad l.length cap).ownBlock≠some vb:=fun e=>hN.outer _ _ _ hx e rfl
  obtain ⟨cur,hcur⟩:∃ cur,w.drew.heap[vb]? = some (.cells cur 25 (0,0)):=by
    rcases hN.row.2 with ⟨e,_⟩ | ⟨g,cap',cur,e,_,hg,_⟩
    · cases e
    · cases e;exact ⟨cur,hg⟩
  have q1:l.length+1≤maxLen:=by unfold maxLen;omega
  have q2:(l.length+1)*48≤140737488355328:=by omega
  have q3:∀ u∈[Value.int .i64 a,.int .i64 ae,.int .i64 b,.int .i64 be,.int .i64 p,.int .i64 q],u.oneCell'=true:=by simp [Value.oneCell']
  have y0:w.drew.cell? ⟨c,0,none⟩=some (.int .i64 a):=c0
  have y1:w.drew.cell? ⟨c,1,none⟩=some (.int .i64 ae):=c1
  have y2:w.drew.cell? ⟨c,2,none⟩=some (.int .i64 b):=c2
  have y3:w.drew.cell? ⟨c,3,none⟩=some (.int .i64 be):=c3
  have y5:w.drew.cell? ⟨c,4,none⟩=some (.int .i64 p):=c4
  have y6:w.drew.cell? ⟨c,5,none⟩=some (.int .i64 q):=c5
  have y4:w.drew.cell? ⟨vb,i,none⟩=some (.slice ad l.length cap):=dn
  have d:w.drew.grownBy (w.drew.alloc (.cells #[.int .i64 a,.int .i64 ae,.int .i64 b,.int .i64 be,.int .i64 p,.int .i64 q] 113)) none:=World.grownBy_alloc _ _ none
  have dq:w.drew.ownsRow B 113 6 (.slice ad l.length cap) l.length (cellsOf l):=hxr
  have dr:(w.drew.alloc (.cells #[.int .i64 a,.int .i64 ae,.int .i64 b,.int .i64 be,.int .i64 p,.int .i64 q] 113)).ownsRow B 113 6 (.slice ad l.length cap) l.length (cellsOf l):=World.ownsRow.kept (w:=w.drew) dq d (Classical.em _)
  have ds:∀ (j:Nat) (u:Value),[Value.int .i64 a,.int .i64 ae,.int .i64 b,.int .i64 be,.int .i64 p,.int .i64 q][j]? = some u→(w.drew.alloc (.cells #[.int .i64 a,.int .i64 ae,.int .i64 b,.int .i64 be,.int .i64 p,.int .i64 q] 113)).cell? ((⟨w.drew.heap.size,0,none⟩:Addr).add j)=some u:=World.news_of_block (heap_alloc_new _ _)
  have h:w.drew.heap.size≤(w.drew.alloc (.cells #[.int .i64 a,.int .i64 ae,.int .i64 b,.int .i64 be,.int .i64 p,.int .i64 q] 113)).heap.size:=d.size
  have hBs:B≤(w.drew.alloc (.cells #[.int .i64 a,.int .i64 ae,.int .i64 b,.int .i64 be,.int .i64 p,.int .i64 q] 113)).heap.size:=Nat.le_trans hB h
  have hvlt':vb<w.drew.heap.size:=hvlt
  have hcur2:=(d.block vb hvlt' (fun e=>by cases e)).trans hcur
  have k:=d.cell_far ⟨vb,i,none⟩ hvlt' (fun e=>by cases e)
  have k:=k.trans y4
  have hone:(1:Nat)*6=6:=rfl
  go_region_law (first
      | (refine step_append_lies (w.drew.alloc (.cells #[.int .i64 a,.int .i64 ae,.int .i64 b,.int .i64 be,.int .i64 p,.int .i64 q] 113)) (by rfl) _ _ 25 (by rfl) B 113 i0 (.agg #[.int .i64 0,.int .i64 0,.int .i64 0,.int .i64 0,.int .i64 0,.int .i64 0]) 6 48 Tryz.underlying25 hi hz f dl (by rfl) (by decide) _ l.length (cellsOf l) (by rfl) dr ⟨w.drew.heap.size,0,none⟩ 1 1 [Value.int .i64 a,.int .i64 ae,.int .i64 b,.int .i64 be,.int .i64 p,.int .i64 q] (by rfl) rfl ds q3 (by decide) q1 q2 hBs _ rfl ?_;intro g c2 W2 hown hgrow hat hlt;
         have rx:=(hgrow.cell_far ⟨vb,i,none⟩ (Nat.lt_of_lt_of_le hvlt' h) (fun e=>hxv e.symm)).trans k;
         have rf:=frozen_of_row W2 vb i cur 25 ((hgrow.block vb (Nat.lt_of_lt_of_le hvlt' h) (fun e=>hxv e.symm)).trans hcur2)))
  all_goals
    dsimp only [QbA]
    have E:=Q9v (w:=w.drew) (row:=[D.int .i64 a,.int .i64 ae,.int .i64 b,.int .i64 be,.int .i64 p,.int .i64 q]) ⟨hN.row,hN.each,hN.outer,hN.apart⟩ hx hl rfl d hown hgrow hat
    exact ⟨_,_,_,_,_,_,_,_,_,rfl,E.1,⟨E.2.own,E.2.os,E.2.tape,E.2.output,E.2.size,E.2.block⟩⟩
noncomputable def Qgi:Code:=(TH (Tryz.f71.body.getD .skip)).getD 17 .skip
set_option maxHeartbeats 8000000 in
set_option maxRecDepth 100000 in
theorem Tryz.links_r17 (m n o r s t v x y z aa ab ac af ag ah ai aj ak al am an ao ap aq ar au av aw ax ay az ba bb bc bd bf bg bh bi bj bk bl bm bn bo bp bq br bt bu bv bx bz ca cb cc cd ce cf cg ch u64 ci cj ck cl cm cn cq cr cs ct cu cv cw cx co:Value) (B vb N i c cap:Nat) (ad:Option Addr) (a ae b be p q:Int) (hd:List Value) (ll:List LL) (l:LL) (w:World) (c0:w.cell? ⟨c,0,none⟩=some (.int .i64 a)) (c1:w.cell? ⟨c,1,none⟩=some (.int .i64 ae)) (c2:w.cell? ⟨c,2,none⟩=some (.int .i64 b)) (c3:w.cell? ⟨c,3,none⟩=some (.int .i64 be)) (c4:w.cell? ⟨c,4,none⟩=some (.int .i64 p)) (c5:w.cell? ⟨c,5,none⟩=some (.int .i64 q))
    (hN:NestK 25 113 6 w B (.slice (some ⟨vb,0,none⟩) N N) hd ll) (hx:hd[i]? = some (.slice ad l.length cap)) (hl:ll[i]? = some l) (dt:l.length≤1000) (hB:B≤w.heap.size) (du:c≠vb) (dw:(Value.slice ad l.length cap).ownBlock≠some c) :
    Code.wp Tryz.prog Qgi (QbA fun act w'=>∃ (db dc dd de df dg dh di:Value) (xx:Value),act=⟨(m::n::o::r::s::.pointer (some ⟨c,0,none⟩)::t::v::x::.pointer (some ⟨vb,i,none⟩)::y::z::aa::ab::ac::af::ag::ah::ai::aj::ak::al::am::an::ao::ap::aq::ar::au::av::aw::ax::ay::az::ba::bb::bc::bd::bf::bg::bh::bi::bj::bk::bl::bm::bn::bo::bp::bq::br::bt::bu::bv::bx::bz::ca::cb::cc::cd::ce::cf::cg::ch::u64::ci::cj::ck::cl::cm::cn::db::dc::dd::de::df::dg::dh::di::co::[]).toArray,[]⟩∧NestK 25 113 6 w' B (.slice (some ⟨vb,0,none⟩) N N) (hd.set i xx) (ll.set i (l++[[D.int .i64 a,.int .i64 ae,.int .i64 b,.int .i64 be,.int .i64 p,.int .i64 q]]))∧Grew w w' vb (.slice ad l.length cap) xx) ⟨(m::n::o::r::s::.pointer (some ⟨c,0,none⟩)::t::v::x::.pointer (some ⟨vb,i,none⟩)::y::z::aa::ab::ac::af::ag::ah::ai::aj::ak::al::am::an::ao::ap::aq::ar::au::av::aw::ax::ay::az::ba::bb::bc::bd::bf::bg::bh::bi::bj::bk::bl::bm::bn::bo::bp::bq::br::bt::bu::bv::bx::bz::ca::cb::cc::cd::ce::cf::cg::ch::u64::ci::cj::ck::cl::cm::cn::cq::cr::cs::ct::cu::cv::cw::cx::co::[]).toArray,[]⟩ w:=by
  conv=>arg 2;whnf
  have mixed:Tryz.prog.follows .mixedOrders=true:=by kernel_rfl
  obtain ⟨i0,hi,dk⟩:=Option.map_eq_some_iff.1 (show (Tryz.prog.info? 113).map (fun i=>(i.zero,i.size,i.bytes))=some (some (.agg #[.int .i64 0,.int .i64 0,.int .i64 0,.int .i64 0,.int .i64 0,.int .i64 0]),6,48) by kernel_rfl)
  obtain ⟨hz,f⟩:=Prod.mk.inj dk
  obtain ⟨f,dl⟩:=Prod.mk.inj f
  have hvlt:=(hN.row.lt vb rfl).2
  have hxr:=hN.each _ _ _ hx hl
  have dn:w.cell? ⟨vb,i,none⟩=some (.slice ad l.length cap):=by
    have:=hN.row.cells (g:=vb) rfl i _ hx
    rwa [T8,Nat.zero_add] at this
  have hxv:(Value.slice ad l.length cap).ownBlock≠some vb:=fun e=>hN.outer _ _ _ hx e rfl
  obtain ⟨cur,hcur⟩:∃ cur,w.drew.heap[vb]? = some (.cells cur 25 (0,0)):=by
    rcases hN.row.2 with ⟨e,_⟩ | ⟨g,cap',cur,e,_,hg,_⟩
    · cases e
    · cases e;exact ⟨cur,hg⟩
  have q1:l.length+1≤maxLen:=by unfold maxLen;omega
  have q2:(l.length+1)*48≤140737488355328:=by omega
  have q3:∀ u∈[Value.int .i64 a,.int .i64 ae,.int .i64 b,.int .i64 be,.int .i64 p,.int .i64 q],u.oneCell'=true:=by simp [Value.oneCell']
  have y0:w.drew.cell? ⟨c,0,none⟩=some (.int .i64 a):=c0
  have y1:w.drew.cell? ⟨c,1,none⟩=some (.int .i64 ae):=c1
  have y2:w.drew.cell? ⟨c,2,none⟩=some (.int .i64 b):=c2
  have y3:w.drew.cell? ⟨c,3,none⟩=some (.int .i64 be):=c3
  have y5:w.drew.cell? ⟨c,4,none⟩=some (.int .i64 p):=c4
  have y6:w.drew.cell? ⟨c,5,none⟩=some (.int .i64 q):=c5
  have y4:w.drew.cell? ⟨vb,i,none⟩=some (.slice ad l.length cap):=dn
  have d:w.drew.grownBy (w.drew.alloc (.cells #[.int .i64 a,.int .i64 ae,.int .i64 b,.int .i64 be,.int .i64 p,.int .i64 q] 113)) none:=World.grownBy_alloc _ _ none
  have dq:w.drew.ownsRow B 113 6 (.slice ad l.length cap) l.length (cellsOf l):=hxr
  have dr:(w.drew.alloc (.cells #[.int .i64 a,.int .i64 ae,.int .i64 b,.int .i64 be,.int .i64 p,.int .i64 q] 113)).ownsRow B 113 6 (.slice ad l.length cap) l.length (cellsOf l):=World.ownsRow.kept (w:=w.drew) dq d (Classical.em _)
  have ds:∀ (j:Nat) (u:Value),[Value.int .i64 a,.int .i64 ae,.int .i64 b,.int .i64 be,.int .i64 p,.int .i64 q][j]? = some u→(w.drew.alloc (.cells #[.int .i64 a,.int .i64 ae,.int .i64 b,.int .i64 be,.int .i64 p,.int .i64 q] 113)).cell? ((⟨w.drew.heap.size,0,none⟩:Addr).add j)=some u:=World.news_of_block (heap_alloc_new _ _)
  have h:w.drew.heap.size≤(w.drew.alloc (.cells #[.int .i64 a,.int .i64 ae,.int .i64 b,.int .i64 be,.int .i64 p,.int .i64 q] 113)).heap.size:=d.size
  have hBs:B≤(w.drew.alloc (.cells #[.int .i64 a,.int .i64 ae,.int .i64 b,.int .i64 be,.int .i64 p,.int .i64 q] 113)).heap.size:=Nat.le_trans hB h
  have hvlt':vb<w.drew.heap.size:=hvlt
  have hcur2:=(d.block vb hvlt' (fun e=>by cases e)).trans hcur
  have k:=d.cell_far ⟨vb,i,none⟩ hvlt' (fun e=>by cases e)
  have k:=k.trans y4
  have hone:(1:Nat)*6=6:=rfl
  go_region_law (first
      | (refine step_append_lies (w.drew.alloc (.cells #[.int .i64 a,.int .i64 ae,.int .i64 b,.int .i64 be,.int .i64 p,.int .i64 q] 113)) (by rfl) _ _ 25 (by rfl) B 113 i0 (.agg #[.int .i64 0,.int .i64 0,.int .i64 0,.int .i64 0,.int .i64 0,.int .i64 0]) 6 48 Tryz.underlying25 hi hz f dl (by rfl) (by decide) _ l.length (cellsOf l) (by rfl) dr ⟨w.drew.heap.size,0,none⟩ 1 1 [Value.int .i64 a,.int .i64 ae,.int .i64 b,.int .i64 be,.int .i64 p,.int .i64 q] (by rfl) rfl ds q3 (by decide) q1 q2 hBs _ rfl ?_;intro g c2 W2 hown hgrow hat hlt;
         have rx:=(hgrow.cell_far ⟨vb,i,none⟩ (Nat.lt_of_lt_of_le hvlt' h) (fun e=>hxv e.symm)).trans k;
         have rf:=frozen_of_row W2 vb i cur 25 ((hgrow.block vb (Nat.lt_of_lt_of_le hvlt' h) (fun e=>hxv e.symm)).trans hcur2)))
  all_goals
    dsimp only [QbA]
    have E:=Q9v (w:=w.drew) (row:=[D.int .i64 a,.int .i64 ae,.int .i64 b,.int .i64 be,.int .i64 p,.int .i64 q]) ⟨hN.row,hN.each,hN.outer,hN.apart⟩ hx hl rfl d hown hgrow hat
    exact ⟨_,_,_,_,_,_,_,_,_,rfl,E.1,⟨E.2.own,E.2.os,E.2.tape,E.2.output,E.2.size,E.2.block⟩⟩
theorem QcP {N:Nat} {l0 l1 l2 c:LL} {a ae b be p q:Int} (h:YP N l0 l1 l2 c a ae b be p q some=some true) {S:Nat→Prop} {w:World} (hS:∀ b,S b→b<w.heap.size) {v0 d f g:Value}
    (i:Rd S w v0 (.sl 1 l0)) (j:Rd S w d (.sl 1 l1)) (k:Rd S w f (.sl 5 l2)) (l:Rd S w g (.sl 6 c)) :
    Calls Tryz.prog 100 #[.agg #[v0,d,f,g],.agg #[.int .i64 a,.int .i64 ae,.int .i64 b,.int .i64 be,.int .i64 p,.int .i64 q]] w fun e w'=>e = .returned (.bool true)∧RowKit.Below w.heap.size w w':=by
  have he:H6 N Dl 0 true [.ag ([D.sl 1 l0,.sl 1 l1,.sl 5 l2,.sl 6 c].map .d),.ag ([D.int .i64 a,.int .i64 ae,.int .i64 b,.int .i64 be,.int .i64 p,.int .i64 q].map .d)] (fun _=>none) some=some ⟨.d (.bool true),[],[]⟩:=by
    show gb true (YP N l0 l1 l2 c a ae b be p q some) false (fun r=>(some ⟨.d (D.bool r),[],[]⟩:Option Dl))=_
    rw [h]
    rfl
  exact FH (Zb (CV N) he) hS (Nf (RdLs.agg (.cons i (.cons j (.cons k (.cons l .nil))))) (RdLs.agg (.cons (.int _ _) (.cons (.int _ _) (.cons (.int _ _) (.cons (.int _ _) (.cons (.int _ _) (.cons (.int _ _) .nil))))))))
theorem Qab {N:Nat} {x:LL} {a ae b be:Int} (h:KI N x a ae b be some=some false) {S:Nat→Prop} {w:World} (hS:∀ b,S b→b<w.heap.size) {v:Value} (hv:Rd S w v (.sl 6 x)) :
    Calls Tryz.prog 103 #[v,.agg #[.int .i64 a,.int .i64 ae],.agg #[.int .i64 b,.int .i64 be]] w fun e w'=>e = .returned (.bool false)∧RowKit.Below w.heap.size w w':=by
  have he:Mx N Dl 0 true [.d (.sl 6 x),.ag ([D.int .i64 a,.int .i64 ae].map .d),.ag ([D.int .i64 b,.int .i64 be].map .d)] (fun _=>none) some=some ⟨.d (.bool false),[],[]⟩:=by
    show gb true (KI N x a ae b be some) false (fun r=>(some ⟨.d (D.bool r),[],[]⟩:Option Dl))=_
    rw [h]
    rfl
  exact FH (Zb (Q4d N) he) hS (QfK (.d _ _ hv) (RdLs.agg (.cons (.int _ _) (.cons (.int _ _) .nil))) (RdLs.agg (.cons (.int _ _) (.cons (.int _ _) .nil))))
theorem Q7J {N:Nat} {x:LL} {a ae b be p q:Int} (h:KE N a ae b be p q x some=some true) {S:Nat→Prop} {w:World} (hS:∀ b,S b→b<w.heap.size) {v:Value} (hv:Rd S w v (.sl 6 x)) :
    Calls Tryz.prog 104 #[.agg #[.int .i64 a,.int .i64 ae,.int .i64 b,.int .i64 be,.int .i64 p,.int .i64 q],v] w fun e w'=>e = .returned (.bool true)∧RowKit.Below w.heap.size w w':=by
  have he:EC N Dl 0 true [.ag ([D.int .i64 a,.int .i64 ae,.int .i64 b,.int .i64 be,.int .i64 p,.int .i64 q].map .d),.d (.sl 6 x)] (fun _=>none) some=some ⟨.d (.bool true),[],[]⟩:=by
    show gb true (KE N a ae b be p q x some) false (fun r=>(some ⟨.d (D.bool r),[],[]⟩:Option Dl))=_
    rw [h]
    rfl
  exact FH (Zb (Q78 N) he) hS (Nf (RdLs.agg (.cons (.int _ _) (.cons (.int _ _) (.cons (.int _ _) (.cons (.int _ _) (.cons (.int _ _) (.cons (.int _ _) .nil))))))) (.d _ _ hv))
theorem Q8w {N:Nat} {l0 l1 l2 d:LL} {st:List LL} {l:LL} {j:Nat} (hj:j<l.length) (h:Ra N l0 l1 l2 d st (l.drop j)=true) :
    ∃ a ae b be p q x y,l[j]? = some [D.int .i64 a,.int .i64 ae,.int .i64 b,.int .i64 be,.int .i64 p,.int .i64 q]∧((0≤a∧a<l2.length)∧(0≤ae∧ae≤1)∧(0≤b∧b<l2.length)∧(0≤be∧be≤1)) ∧
      YP N l0 l1 l2 d a ae b be p q some=some true∧(2*a+ae).toNat≠(2*b+be).toNat∧st[(2*a+ae).toNat]? = some x∧st[(2*b+be).toNat]? = some y ∧
      KI N x a ae b be some=some false∧KE N a ae b be p q x some=some true∧KE N a ae b be p q y some=some true∧x.length≤1∧y.length≤1 ∧
      Ra N l0 l1 l2 d ((st.set (2*a+ae).toNat (x++[[D.int .i64 a,.int .i64 ae,.int .i64 b,.int .i64 be,.int .i64 p,.int .i64 q]])).set (2*b+be).toNat (y++[[D.int .i64 a,.int .i64 ae,.int .i64 b,.int .i64 be,.int .i64 p,.int .i64 q]])) (l.drop (j+1))=true:=by
  rw [List.drop_eq_getElem_cons hj] at h
  unfold Ra at h
  split at h
  · rename_i a ae b be p q e
    simp only [Bool.and_eq_true,Bool.not_eq_true',decide_eq_true_eq] at h
    obtain ⟨⟨⟨f,g⟩,i⟩,c⟩:=h
    split at c
    · rename_i x y hx hy
      simp only [Bool.and_eq_true] at c
      obtain ⟨⟨⟨⟨⟨k1,k⟩,m⟩,n⟩,o⟩,r⟩:=c
      refine ⟨a,ae,b,be,p,q,x,y,by rw [List.getElem?_eq_getElem hj,e],?_,BJ g,?_,hx,hy,Qea k1,BJ k,BJ m,Nat.le_of_ble_eq_true n,Nat.le_of_ble_eq_true o,by rw [← e];exact r⟩
      · obtain ⟨⟨⟨⟨⟨⟨⟨s,t⟩,u⟩,v⟩,w⟩,z⟩,z7⟩,z8⟩:=f
        exact ⟨⟨s,t⟩,⟨u,v⟩,⟨w,z⟩,⟨z7,z8⟩⟩
      · exact Nat.ne_of_beq_eq_false i
    · cases c
  · cases h
theorem Qco {w a:World} {B N vb:Nat} (h:a.ownsRow B 25 1 (.slice (some ⟨vb,0,none⟩) N N) N (List.replicate N (.slice none 0 0))):NestK 25 113 6 a B (.slice (some ⟨vb,0,none⟩) N N) (List.replicate N (.slice none 0 0)) (List.replicate N []):=by
  refine ⟨by simpa using h,fun i x l hx hl=>?_,fun i x b hx hb=>?_,fun i j x y b hx hy hbx hby=>?_⟩
  · have e1:=List.mem_of_getElem? hx
    have e2:=List.mem_of_getElem? hl
    obtain ⟨_,rfl⟩:=List.mem_replicate.1 e1
    obtain ⟨_,rfl⟩:=List.mem_replicate.1 e2
    exact World.ownsRow_nil a B 113 6
  · obtain ⟨_,rfl⟩:=List.mem_replicate.1 (List.mem_of_getElem? hx)
    cases hb
  · obtain ⟨_,rfl⟩:=List.mem_replicate.1 (List.mem_of_getElem? hx)
    cases hbx
theorem Qe3 {w:World} {B i:Nat} {v:Value} {hd:List Value} {ll:List LL} {l:LL} (h:NestK 25 113 6 w B v hd ll) (hl:ll[i]? = some l):∃ (ad:Option Addr) (cap:Nat),hd[i]? = some (.slice ad l.length cap):=by
  have hi:i<hd.length:=by rw [h.len];exact (List.getElem?_eq_some_iff.1 hl).1
  have hx:=List.getElem?_eq_getElem hi
  rcases (h.each i hd[i] l hx hl).2 with ⟨e,a⟩ | ⟨g,cap,cur,e,_⟩
  · exact ⟨none,0,by rw [hx,e,a]⟩
  · exact ⟨some ⟨g,0,none⟩,cap,by rw [hx,e]⟩
theorem Qan {w:World} {B i:Nat} {v x:Value} {hd:List Value} {ll:List LL} {l:LL} (h:NestK 25 113 6 w B v hd ll) (hx:hd[i]? = some x) (hl:ll[i]? = some l) (hint:∀ l∈ll,∀ r∈l,Q3P 6 r=true) :
    (∀ b,x.ownBlock=some b→b<w.drew.heap.size)∧Rd (fun b=>x.ownBlock=some b) w.drew x (.sl 6 l):=
  ⟨fun b hb=>(h.blk hx hb).2,Rd.mono (w:=w) (w':=w.drew) (fun _ h=>h) (fun _ _=>rfl) (Qha (w:=w) (h.each i x l hx hl) (hint l (List.mem_of_getElem? hl)) (fun _ h=>h))⟩
theorem Q5F {w:World} {B vb N i:Nat} {x:Value} {hd:List Value} {ll:List LL} (h:NestK 25 113 6 w B (.slice (some ⟨vb,0,none⟩) N N) hd ll) (hx:hd[i]? = some x):w.cell? ⟨vb,i,none⟩=some x:=by
  have:=h.row.cells (g:=vb) rfl i _ hx
  rwa [T8,Nat.zero_add] at this
theorem QcV {ll:List LL} {i:Nat} {x:LL} {row:List D} (h:∀ l∈ll,∀ r∈l,Q3P 6 r=true) (hx:ll[i]? = some x) (hr:Q3P 6 row=true):∀ l∈ll.set i (x++[row]),∀ r∈l,Q3P 6 r=true:=by
  intro l hl r hrl
  rcases List.mem_or_eq_of_mem_set hl with a | rfl
  · exact h l a r hrl
  · rcases List.mem_append.1 hrl with a | a
    · exact h x (List.mem_of_getElem? hx) r a
    · simp at a;subst a;exact hr
theorem Q7P {w0 w w':World} {n vb:Nat} {x x':Value} (h:Below n w0 w) (hg:Grew w w' vb x x') (hn:n≤w.heap.size) (hv:n≤vb) (hx:∀ c,x.ownBlock=some c→n≤c):Below n w0 w':=
  ⟨hg.os.trans h.os,hg.tape.trans h.tape,hg.output.trans h.output,Nat.le_trans h.size hg.size,fun k hk=>(hg.block k (by omega) (by omega) (fun e=>by have:=hx k e;omega)).trans (h.block k hk)⟩
theorem Qdb {a ae b be:Int} (h:¬ (a=b∧ae=be)) (w:World):(binOp .eql 168 (.agg #[.int .i64 a,.int .i64 ae]) (.agg #[.int .i64 b,.int .i64 be])).run Tryz.prog w = .ok (.bool false) w:=by
  go_simp
  exact fun e1 e2=>h ⟨e1,e2⟩
set_option maxHeartbeats 16000000 in
set_option maxRecDepth 100000 in
theorem Tryz.links_calls {N:Nat} (S:Nat→Prop) (w:World) (hS:∀ b,S b→b<w.heap.size) (l0 l1 l2 f:LL) (v0 v1 v2 v3:Value) (h0:Rd S w v0 (.sl 1 l0)) (h1:Rd S w v1 (.sl 1 l1)) (h2:Rd S w v2 (.sl 5 l2)) (h3:Rd S w v3 (.sl 6 f))
    (m2:l2.length≤96) (m3:f.length≤192) (hok:Ra N l0 l1 l2 f (List.replicate (2*l2.length) []) f=true) :
    Calls Tryz.prog 71 #[.agg #[v0,v1,v2,v3]] w fun e w'=>e = .returned (.int .i64 0)∧Below w.heap.size w w':=by
  obtain ⟨z,aa,rfl⟩:=Ru h0
  obtain ⟨ab,ac,rfl⟩:=Ru h1
  obtain ⟨t,u,rfl⟩:=Ru h2
  obtain ⟨ad,v,rfl⟩:=Ru h3
  obtain ⟨i0,hi,bz⟩:=Option.map_eq_some_iff.1 (show (Tryz.prog.info? 25).map (fun i=>(i.zero,i.size,i.bytes))=some (some (.slice none 0 0),1,24) by kernel_rfl)
  obtain ⟨hz,av⟩:=Prod.mk.inj bz
  obtain ⟨av,ca⟩:=Prod.mk.inj av
  have hmk:∀ w:World,∃ w',(Instr.makeSlice 165 (.int .i64 (2*(l2.length:Int))) (.int .i64 (2*(l2.length:Int)))).run Tryz.prog w = .ok (.slice (some ⟨w.heap.size,0,none⟩) (2*l2.length) (2*l2.length)) w' ∧
      w'.ownsRow w.heap.size 25 1 (.slice (some ⟨w.heap.size,0,none⟩) (2*l2.length) (2*l2.length)) (2*l2.length) (List.replicate (2*l2.length) (.slice none 0 0))∧w.grownBy w' none:=by
    intro w
    obtain ⟨w',r1,r2,r3⟩:=run_make_full w w.heap.size 165 25 i0 (.slice none 0 0) 1 Tryz.underlying165 hi hz av .i64 .i64 (2*l2.length) (by rw [ca];omega) (by unfold maxLen;omega) (Nat.le_refl _)
    refine ⟨w',by rw [← r1];simp,?_,r3⟩
    have e:(madeCells (Value.slice none 0 0).cells (2*l2.length*1)).toList=List.replicate (2*l2.length) (.slice none 0 0):=by
      apply List.ext_getElem
      · simp [size_madeCells]
      · intro i h1 h2
        simp [madeCells,Value.cells,Nat.mod_one]
    rw [← e];exact r2
  have w2l:wrap64 (2*(l2.length:Int))=2*(l2.length:Int):=by unfold wrap64;omega
  have hbox:(w.alloc (.cells #[.slice z l0.length aa,.slice ab l1.length ac,.slice t l2.length u,.slice ad f.length v] 27)).heap[w.heap.size]? = some (.cells #[.slice z l0.length aa,.slice ab l1.length ac,.slice t l2.length u,.slice ad f.length v] 27 (0,0)):=heap_alloc_new w _
  have hB1:Below w.heap.size w (w.alloc (.cells #[.slice z l0.length aa,.slice ab l1.length ac,.slice t l2.length u,.slice ad f.length v] 27)):=VD (Below.refl _ _) (Nat.le_refl _) _
  have bd:(w.alloc (.cells #[.slice z l0.length aa,.slice ab l1.length ac,.slice t l2.length u,.slice ad f.length v] 27)).heap.size=w.heap.size+1:=by simp
  obtain ⟨w2,hrun,hrow,hgw⟩:=hmk (w.alloc (.cells #[.slice z l0.length aa,.slice ab l1.length ac,.slice t l2.length u,.slice ad f.length v] 27))
  have hbox2:=(hgw.block w.heap.size (by simp) (by simp)).trans hbox
  have hB2:Below w.heap.size w w2:=⟨hgw.os.trans hB1.os,hgw.tape.trans hB1.tape,hgw.output.trans hB1.output,Nat.le_trans hB1.size hgw.size,fun b hb=>(hgw.block b (by omega) (by simp)).trans (hB1.block b hb)⟩
  have hgs:=hgw.size
  rw [bd] at hrun hrow hgs
  have hN0:=Qco (w:=w) hrow
  clear hmk hgw hrow
  have y2:(w.alloc (.cells #[.slice z l0.length aa,.slice ab l1.length ac,.slice t l2.length u,.slice ad f.length v] 27)).cell? ⟨w.heap.size,2,none⟩=some (.slice t l2.length u):=by rw [Lib.cell_of_heap hbox];rfl
  have z3:w2.cell? ⟨w.heap.size,3,none⟩=some (.slice ad f.length v):=by rw [Lib.cell_of_heap hbox2];rfl
  go_enter Tryz.func71,Tryz.ntmps71
  go_wp2
  clear hrun hbox y2 z3 hB1 bd
  generalize hH0:w.heap.size=H0 at *
  go_loopw [18] (fun i wr=>∃ (j:Nat) (hd:List Value) (ll:List LL),j≤f.length∧i = .int .i64 j∧NestK 25 113 6 wr (H0+1) (.slice (some ⟨H0+1,0,none⟩) (2*l2.length) (2*l2.length)) hd ll∧ll.length=2*l2.length ∧
      Ra N l0 l1 l2 f ll (f.drop j)=true∧(∀ l∈ll,∀ r∈l,Q3P 6 r=true)∧wr.heap[H0]? = some (.cells #[.slice z l0.length aa,.slice ab l1.length ac,.slice t l2.length u,.slice ad f.length v] 27 (0,0))∧Below H0 w wr)
    (fun i _=>f.length-(intOf i).toNat)
  case atStart=>
    refine ⟨0,_,_,Nat.zero_le _,rfl,hN0,by simp,by simpa using hok,fun l hl r hr=>?_,hbox2,hB2⟩
    obtain ⟨_,rfl⟩:=List.mem_replicate.1 hl
    cases hr
  case round=>
    obtain ⟨j,hd,ll,hj,rfl,hN,hlen,hlk,hint,hbx,hF⟩:=hrel
    clear hN0 hok hbox2 hB2
    by_cases hjl:j<f.length
    · have hjl':((j:Int)<(f.length:Int)):=by omega
      obtain ⟨a,ae,b,be,p,q,x,y,hrw,⟨⟨cd,da⟩,⟨ce,cf⟩,⟨cg,db⟩,⟨ch,ci⟩⟩,hrange,hne,hx,hy,hjoin,cj,ck,hlx,hly,hnext⟩:=Q8w hjl hlk
      have hwb:∀ c,c<H0→wr.heap[c]? = w.heap[c]?:=fun c hc=>hF.block c hc
      have hSr:∀ c,S c→c<wr.heap.size:=fun c hc=>by have:=hS c hc;have:=hF.size;omega
      have bg:=Rd.keep (w':=wr) h3 hS hwb
      obtain ⟨a3,rfl,_,_,hcell⟩:=Qdr bg hrw
      obtain ⟨u0,x0,q0⟩:=hcell 0 _ rfl
      obtain ⟨u1,x1,q1⟩:=hcell 1 _ rfl
      obtain ⟨u2',x2,q2⟩:=hcell 2 _ rfl
      obtain ⟨u3',x3,q3⟩:=hcell 3 _ rfl
      obtain ⟨u4',x4,q4⟩:=hcell 4 _ rfl
      obtain ⟨u5',x5,q5⟩:=hcell 5 _ rfl
      rw [Dr q0,Nat.add_zero] at x0
      rw [Dr q1,NJ _ _ _ (by decide)] at x1
      rw [Dr q2,NJ _ _ _ (by decide)] at x2
      rw [Dr q3,NJ _ _ _ (by decide)] at x3
      rw [Dr q4,NJ _ _ _ (by decide)] at x4
      rw [Dr q5,NJ _ _ _ (by decide)] at x5
      clear hcell q0 q1 q2 q3 q4 q5 bg
      have de:H0+1≤wr.heap.size:=(Array.getElem?_eq_some_iff.1 hbx).1
      have hvb:H0+1<wr.heap.size:=(hN.row.lt (H0+1) rfl).2
      obtain ⟨adx,cpx,hxv⟩:=Qe3 hN hx
      obtain ⟨ady,cpy,hyv⟩:=Qe3 hN hy
      have hxlt:∀ c,(Value.slice adx x.length cpx).ownBlock=some c→H0+1≤c∧c<wr.heap.size:=fun c hc=>hN.blk hxv hc
      have hylt:∀ c,(Value.slice ady y.length cpy).ownBlock=some c→H0+1≤c∧c<wr.heap.size:=fun c hc=>hN.blk hyv hc
      have bj:wr.grownBy (wr.alloc (.cells #[.int .i64 a,.int .i64 ae,.int .i64 b,.int .i64 be,.int .i64 p,.int .i64 q] 113)) none:=World.grownBy_alloc wr _ none
      have af:(wr.alloc (.cells #[.int .i64 a,.int .i64 ae,.int .i64 b,.int .i64 be,.int .i64 p,.int .i64 q] 113)).heap[wr.heap.size]? = some (.cells #[.int .i64 a,.int .i64 ae,.int .i64 b,.int .i64 be,.int .i64 p,.int .i64 q] 113 (0,0)):=heap_alloc_new wr _
      have hN1:=PX hN bj
      have hF1:=VD hF (by omega) (.cells #[.int .i64 a,.int .i64 ae,.int .i64 b,.int .i64 be,.int .i64 p,.int .i64 q] 113)
      have ak:=(bj.block H0 (by omega) (by simp)).trans hbx
      have df:(wr.alloc (.cells #[.int .i64 a,.int .i64 ae,.int .i64 b,.int .i64 be,.int .i64 p,.int .i64 q] 113)).heap.size=wr.heap.size+1:=by simp
      generalize hW1:wr.alloc (.cells #[.int .i64 a,.int .i64 ae,.int .i64 b,.int .i64 be,.int .i64 p,.int .i64 q] 113)=W1 at *
      generalize dg:wr.heap.size=d at *
      have am:∀ c,c<H0→W1.heap[c]? = w.heap[c]?:=fun c hc=>hF1.block c hc
      have hSr1:∀ c,S c→c<W1.heap.size:=fun c hc=>by have:=hS c hc;omega
      have k0:=Rd.keep (w':=W1) h0 hS am
      have k1:=Rd.keep (w':=W1) h1 hS am
      have k2:=Rd.keep (w':=W1) h2 hS am
      have k3:=Rd.keep (w':=W1) h3 hS am
      have z0:W1.cell? ⟨H0,0,none⟩=some (.slice z l0.length aa):=by rw [Lib.cell_of_heap ak];rfl
      have z1:W1.cell? ⟨H0,1,none⟩=some (.slice ab l1.length ac):=by rw [Lib.cell_of_heap ak];rfl
      have z2:W1.cell? ⟨H0,2,none⟩=some (.slice t l2.length u):=by rw [Lib.cell_of_heap ak];rfl
      have z3:W1.cell? ⟨H0,3,none⟩=some (.slice (some a3) f.length v):=by rw [Lib.cell_of_heap ak];rfl
      have c0:W1.cell? ⟨d,0,none⟩=some (.int .i64 a):=by rw [Lib.cell_of_heap af];rfl
      have c1:W1.cell? ⟨d,1,none⟩=some (.int .i64 ae):=by rw [Lib.cell_of_heap af];rfl
      have g:W1.cell? ⟨d,2,none⟩=some (.int .i64 b):=by rw [Lib.cell_of_heap af];rfl
      have m:W1.cell? ⟨d,3,none⟩=some (.int .i64 be):=by rw [Lib.cell_of_heap af];rfl
      have n:W1.cell? ⟨d,4,none⟩=some (.int .i64 p):=by rw [Lib.cell_of_heap af];rfl
      have o:W1.cell? ⟨d,5,none⟩=some (.int .i64 q):=by rw [Lib.cell_of_heap af];rfl
      go_wp2_with (go_at_call 100;refine (QcP hrange hSr1 k0 k1 k2 k3).mono ?_)
      rintro e W2 ⟨rfl,hB2⟩
      have ag:=(hB2.block d (by omega)).trans af
      have bm:=(hB2.block H0 (by omega)).trans ak
      have hN2:=PX hN1 (UE hB2)
      have hF2:=Jy hF1 (by omega) hB2
      have dh:=hB2.size
      clear c0 c1 g m n o z0 z1 z2 z3 k0 k1 k2 k3 am hSr1 af ak hN1 hF1
      have c0:W2.cell? ⟨d,0,none⟩=some (.int .i64 a):=by rw [Lib.cell_of_heap ag];rfl
      have c1:W2.cell? ⟨d,1,none⟩=some (.int .i64 ae):=by rw [Lib.cell_of_heap ag];rfl
      have g:W2.cell? ⟨d,2,none⟩=some (.int .i64 b):=by rw [Lib.cell_of_heap ag];rfl
      have m:W2.cell? ⟨d,3,none⟩=some (.int .i64 be):=by rw [Lib.cell_of_heap ag];rfl
      have n:W2.cell? ⟨d,4,none⟩=some (.int .i64 p):=by rw [Lib.cell_of_heap ag];rfl
      have o:W2.cell? ⟨d,5,none⟩=some (.int .i64 q):=by rw [Lib.cell_of_heap ag];rfl
      go_wp2_with (go_at_call 101;refine (Tryz.ends_calls W2 a ae b be p q).mono ?_)
      rintro e W3 ⟨rfl,hB3⟩
      go_wp2
      clear c0 c1 g m n o
      have di:=hB3.size
      have an:W3.grownBy ((W3.alloc (.cells #[.int .i64 a,.int .i64 ae] 168)).alloc (.cells #[.int .i64 b,.int .i64 be] 168)) none:=⟨rfl,rfl,rfl,by simp;omega,fun k hk _=>by rw [Lib.alloc_old _ _ _ (by simp;omega),Lib.alloc_old _ _ _ hk]⟩
      have hF4:=VD (VD (Jy hF2 (by omega) hB3) (by omega) (.cells #[.int .i64 a,.int .i64 ae] 168)) (by omega) (.cells #[.int .i64 b,.int .i64 be] 168)
      have bn:=(an.block d (by omega) (by simp)).trans ((hB3.block d (by omega)).trans ag)
      have bo:=(an.block H0 (by omega) (by simp)).trans ((hB3.block H0 (by omega)).trans bm)
      have hN4:=PX (PX hN2 (UE hB3)) an
      have ao:((W3.alloc (.cells #[.int .i64 a,.int .i64 ae] 168)).alloc (.cells #[.int .i64 b,.int .i64 be] 168)).heap[W3.heap.size]? = some (.cells #[.int .i64 a,.int .i64 ae] 168 (0,0)):=by
        rw [Lib.alloc_old _ _ _ (by simp)];exact heap_alloc_new _ _
      have ap:((W3.alloc (.cells #[.int .i64 a,.int .i64 ae] 168)).alloc (.cells #[.int .i64 b,.int .i64 be] 168)).heap[W3.heap.size+1]? = some (.cells #[.int .i64 b,.int .i64 be] 168 (0,0)):=by
        have:=heap_alloc_new (W3.alloc (.cells #[.int .i64 a,.int .i64 ae] 168)) (.cells #[.int .i64 b,.int .i64 be] 168)
        simpa using this
      have dj:((W3.alloc (.cells #[.int .i64 a,.int .i64 ae] 168)).alloc (.cells #[.int .i64 b,.int .i64 be] 168)).heap.size=W3.heap.size+2:=by simp
      clear an ag bm hN2 hF2
      generalize hW4:(W3.alloc (.cells #[.int .i64 a,.int .i64 ae] 168)).alloc (.cells #[.int .i64 b,.int .i64 be] 168)=W4 at *
      generalize hp6e:W3.heap.size=s at *
      have hsW2:d<W2.heap.size:=by omega
      clear hW4 hW1
      have c0:W4.cell? ⟨s,0,none⟩=some (.int .i64 a):=by rw [Lib.cell_of_heap ao];rfl
      have c1:W4.cell? ⟨s,1,none⟩=some (.int .i64 ae):=by rw [Lib.cell_of_heap ao];rfl
      have d0:W4.cell? ⟨s+1,0,none⟩=some (.int .i64 b):=by rw [Lib.cell_of_heap ap];rfl
      have d1:W4.cell? ⟨s+1,1,none⟩=some (.int .i64 be):=by rw [Lib.cell_of_heap ap];rfl
      refine Code.wp_mono ?_ (Tryz.links_r8 _ _ _ _ _ _ _ _ _ _ _ _ _ _ _ _ _ _ _ _ _ _ _ _ _ _ _ _ _ _ _ _ _ _ _ _ _ _ _ _ _ _ _ _ _ _ _ _ _ _ _ _ _ _ _ _ _ _ _ _ _ _ _ _ _ _ _ _ _ _ _ _ _ _ _ _ _ (H0+1) (2*l2.length) s (s+1) a ae b be W4 c0 c1 d0 d1 cd (by omega) ce cf cg (by omega) ch ci (by omega) (by omega))
      clear c0 c1 d0 d1
      rintro e act W5 h
      cases e with
      | normal=>
        obtain ⟨_,_,_,_,_,_,_,_,rfl,hB5⟩:=h
        have hs5':=hB5.size
        have hF5:=Jy hF4 (by omega) hB5
        have bp:=(hB5.block d (by omega)).trans bn
        have bq:=(hB5.block H0 (by omega)).trans bo
        have hN5:=PX hN4 (UE hB5)
        have ax:=(hB5.block s (by omega)).trans ao
        have ay:=(hB5.block (s+1) (by omega)).trans ap
        clear hF4 bn bo hN4 ao ap hB5
        have hcmp:=Qdb (a:=a) (ae:=ae) (b:=b) (be:=be) (fun h=>hne (by rw [h.1,h.2]))
        generalize hia:(2*a+ae).toNat=ia at *
        generalize hib:(2*b+be).toNat=ib at *
        have c0:W5.cell? ⟨s,0,none⟩=some (.int .i64 a):=by rw [Lib.cell_of_heap ax];rfl
        have c1:W5.cell? ⟨s,1,none⟩=some (.int .i64 ae):=by rw [Lib.cell_of_heap ax];rfl
        have d0:W5.cell? ⟨s+1,0,none⟩=some (.int .i64 b):=by rw [Lib.cell_of_heap ay];rfl
        have d1:W5.cell? ⟨s+1,1,none⟩=some (.int .i64 be):=by rw [Lib.cell_of_heap ay];rfl
        dsimp only [Exit.then]
        go_wp2
        have jx:=Qan hN5 hxv hx hint
        have hcx:=Q5F hN5 hxv
        refine Code.wp_mono ?_ (Tryz.links_r11 _ _ _ _ _ _ _ _ _ _ _ _ _ _ _ _ _ _ _ _ _ _ _ _ _ _ _ _ _ _ _ _ _ _ _ _ _ _ _ _ _ _ _ _ _ _ _ _ _ _ _ _ _ _ _ _ _ _ _ _ _ _ _ _ _ _ _ _ _ _ _ _ _ _ _ _ _ (H0+1) ia s (s+1) x.length cpx adx a ae b be W5 c0 c1 d0 d1 hcx (Qab hjoin jx.1 jx.2))
        clear c0 c1 d0 d1 jx hcx
        rintro e act W6 h
        cases e with
        | normal=>
          obtain ⟨_,_,_,_,_,_,rfl,hB6⟩:=h
          have dk:=hB6.size
          have hF6:=Jy hF5 (by omega) hB6
          have ah:=(hB6.block d (by omega)).trans bp
          have br:=(hB6.block H0 (by omega)).trans bq
          have hN6:=PX hN5 (UE hB6)
          clear hF5 bp bq hN5 ax ay hB6
          dsimp only [Exit.then]
          go_wp2
          have c0:W6.cell? ⟨d,0,none⟩=some (.int .i64 a):=by rw [Lib.cell_of_heap ah];rfl
          have c1:W6.cell? ⟨d,1,none⟩=some (.int .i64 ae):=by rw [Lib.cell_of_heap ah];rfl
          have g:W6.cell? ⟨d,2,none⟩=some (.int .i64 b):=by rw [Lib.cell_of_heap ah];rfl
          have m:W6.cell? ⟨d,3,none⟩=some (.int .i64 be):=by rw [Lib.cell_of_heap ah];rfl
          have n:W6.cell? ⟨d,4,none⟩=some (.int .i64 p):=by rw [Lib.cell_of_heap ah];rfl
          have o:W6.cell? ⟨d,5,none⟩=some (.int .i64 q):=by rw [Lib.cell_of_heap ah];rfl
          have jx:=Qan hN6 hxv hx hint
          have hcx:=Q5F hN6 hxv
          refine Code.wp_mono ?_ (Tryz.links_r13 _ _ _ _ _ _ _ _ _ _ _ _ _ _ _ _ _ _ _ _ _ _ _ _ _ _ _ _ _ _ _ _ _ _ _ _ _ _ _ _ _ _ _ _ _ _ _ _ _ _ _ _ _ _ _ _ _ _ _ _ _ _ _ _ _ _ _ _ _ _ _ _ _ _ _ _ _ _ (H0+1) ia d x.length cpx adx a ae b be p q W6 c0 c1 g m n o hcx (Q7J cj jx.1 jx.2))
          clear c0 c1 g m n o jx hcx
          rintro e act W7 h
          cases e with
          | normal=>
            obtain ⟨_,_,_,_,_,_,rfl,hB7⟩:=h
            have dl:=hB7.size
            have hF7:=Jy hF6 (by omega) hB7
            have ai:=(hB7.block d (by omega)).trans ah
            have bt:=(hB7.block H0 (by omega)).trans br
            have hN7:=PX hN6 (UE hB7)
            clear hF6 ah br hN6 hB7
            dsimp only [Exit.then]
            go_wp2
            have c0:W7.cell? ⟨d,0,none⟩=some (.int .i64 a):=by rw [Lib.cell_of_heap ai];rfl
            have c1:W7.cell? ⟨d,1,none⟩=some (.int .i64 ae):=by rw [Lib.cell_of_heap ai];rfl
            have g:W7.cell? ⟨d,2,none⟩=some (.int .i64 b):=by rw [Lib.cell_of_heap ai];rfl
            have m:W7.cell? ⟨d,3,none⟩=some (.int .i64 be):=by rw [Lib.cell_of_heap ai];rfl
            have n:W7.cell? ⟨d,4,none⟩=some (.int .i64 p):=by rw [Lib.cell_of_heap ai];rfl
            have o:W7.cell? ⟨d,5,none⟩=some (.int .i64 q):=by rw [Lib.cell_of_heap ai];rfl
            have jx:=Qan hN7 hyv hy hint
            have hcx:=Q5F hN7 hyv
            refine Code.wp_mono ?_ (Tryz.links_r14 _ _ _ _ _ _ _ _ _ _ _ _ _ _ _ _ _ _ _ _ _ _ _ _ _ _ _ _ _ _ _ _ _ _ _ _ _ _ _ _ _ _ _ _ _ _ _ _ _ _ _ _ _ _ _ _ _ _ _ _ _ _ _ _ _ _ _ _ _ _ _ _ _ _ _ _ _ _ (H0+1) ib d y.length cpy ady a ae b be p q W7 c0 c1 g m n o hcx (Q7J ck jx.1 jx.2))
            clear c0 c1 g m n o jx hcx
            rintro e act W8 h
            cases e with
            | normal=>
              obtain ⟨_,_,_,_,_,_,rfl,hB8⟩:=h
              have dn:=hB8.size
              have hF8:=Jy hF7 (by omega) hB8
              have aj:=(hB8.block d (by omega)).trans ai
              have bu:=(hB8.block H0 (by omega)).trans bt
              have hN8:=PX hN7 (UE hB8)
              clear hF7 ai bt hN7 hB8
              dsimp only [Exit.then]
              go_wp2
              have c0:W8.cell? ⟨d,0,none⟩=some (.int .i64 a):=by rw [Lib.cell_of_heap aj];rfl
              have c1:W8.cell? ⟨d,1,none⟩=some (.int .i64 ae):=by rw [Lib.cell_of_heap aj];rfl
              have g:W8.cell? ⟨d,2,none⟩=some (.int .i64 b):=by rw [Lib.cell_of_heap aj];rfl
              have m:W8.cell? ⟨d,3,none⟩=some (.int .i64 be):=by rw [Lib.cell_of_heap aj];rfl
              have n:W8.cell? ⟨d,4,none⟩=some (.int .i64 p):=by rw [Lib.cell_of_heap aj];rfl
              have o:W8.cell? ⟨d,5,none⟩=some (.int .i64 q):=by rw [Lib.cell_of_heap aj];rfl
              refine Code.wp_mono ?_ (Tryz.links_r16 _ _ _ _ _ _ _ _ _ _ _ _ _ _ _ _ _ _ _ _ _ _ _ _ _ _ _ _ _ _ _ _ _ _ _ _ _ _ _ _ _ _ _ _ _ _ _ _ _ _ _ _ _ _ _ _ _ _ _ _ _ _ _ _ _ _ _ _ _ _ _ _ _ _ _ _ _ _ (H0+1) (H0+1) (2*l2.length) ia d cpx adx a ae b be p q hd ll x W8 c0 c1 g m n o hN8 hxv hx (by omega) (by omega) (by omega) (fun e=>by have:=(hxlt d e).2;omega))
              clear c0 c1 g m n o
              rintro e act W9 h
              cases e with
              | normal=>
                obtain ⟨_,_,_,_,_,_,_,_,xx,rfl,hN9,hG9⟩:=h
                have dp:=hG9.size
                have hF9:=Q7P hF8 hG9 (by omega) (by omega) (fun c hc=>by have:=(hxlt c hc).1;omega)
                have al:=(hG9.block d (by omega) (by omega) (fun e=>by have:=(hxlt d e).2;omega)).trans aj
                have cv:=(hG9.block H0 (by omega) (by omega) (fun e=>by have:=(hxlt H0 e).1;omega)).trans bu
                clear hF8 aj bu hN8 hG9
                have cw:(hd.set ia xx)[ib]? = some (.slice ady y.length cpy):=by rw [List.getElem?_set,if_neg hne];exact hyv
                have bv:(ll.set ia (x++[[D.int .i64 a,.int .i64 ae,.int .i64 b,.int .i64 be,.int .i64 p,.int .i64 q]]))[ib]? = some y:=by rw [List.getElem?_set,if_neg hne];exact hy
                dsimp only [Exit.then]
                go_wp2
                have c0:W9.cell? ⟨d,0,none⟩=some (.int .i64 a):=by rw [Lib.cell_of_heap al];rfl
                have c1:W9.cell? ⟨d,1,none⟩=some (.int .i64 ae):=by rw [Lib.cell_of_heap al];rfl
                have g:W9.cell? ⟨d,2,none⟩=some (.int .i64 b):=by rw [Lib.cell_of_heap al];rfl
                have m:W9.cell? ⟨d,3,none⟩=some (.int .i64 be):=by rw [Lib.cell_of_heap al];rfl
                have n:W9.cell? ⟨d,4,none⟩=some (.int .i64 p):=by rw [Lib.cell_of_heap al];rfl
                have o:W9.cell? ⟨d,5,none⟩=some (.int .i64 q):=by rw [Lib.cell_of_heap al];rfl
                refine Code.wp_mono ?_ (Tryz.links_r17 _ _ _ _ _ _ _ _ _ _ _ _ _ _ _ _ _ _ _ _ _ _ _ _ _ _ _ _ _ _ _ _ _ _ _ _ _ _ _ _ _ _ _ _ _ _ _ _ _ _ _ _ _ _ _ _ _ _ _ _ _ _ _ _ _ _ _ _ _ _ _ _ _ _ _ _ _ _ (H0+1) (H0+1) (2*l2.length) ib d cpy ady a ae b be p q _ _ y W9 c0 c1 g m n o hN9 cw bv (by omega) (by omega) (by omega) (fun e=>by have:=(hylt d e).2;omega))
                clear c0 c1 g m n o
                rintro e act W10 h
                cases e with
                | normal=>
                  obtain ⟨_,_,_,_,_,_,_,_,yy,rfl,hN10,hG10⟩:=h
                  have hF10:=Q7P hF9 hG10 (by omega) (by omega) (fun c hc=>by have:=(hylt c hc).1;omega)
                  have cx:=(hG10.block H0 (by omega) (by omega) (fun e=>by have:=(hylt H0 e).1;omega)).trans cv
                  have hint10:=QcV (QcV hint hx (by rfl)) bv (row:=[D.int .i64 a,.int .i64 ae,.int .i64 b,.int .i64 be,.int .i64 p,.int .i64 q]) (by rfl)
                  go_wp2
                  refine ⟨⟨j+1,_,_,by omega,by rw [Int.natCast_add];rfl,hN10,by simpa using hlen,hnext,hint10,cx,hF10⟩,?_⟩
                  simp only [intOf]
                  omega
                | _=>exact h.elim
              | _=>exact h.elim
            | _=>exact h.elim
          | _=>exact h.elim
        | _=>exact h.elim
      | _=>exact h.elim
    · go_wp2
      refine bodyPost_ret (results_tmp rfl _ _ _) rfl ?_
      rw [← hH0] at hF
      exact ⟨rfl,hF⟩

theorem Qj3 {S:Nat→Prop} {w:World} {xs:List D}:∀ {vs:List Value},vs.length=xs.length→(∀ (i:Nat) (v:Value) (x:D),vs[i]? = some v→xs[i]? = some x→Rd S w v x)→RdLs S w vs xs:=by
  induction xs with
  | nil=>intro vs h _;have:vs=[]:=List.eq_nil_of_length_eq_zero h;subst this;exact .nil
  | cons x xs ih=>
    intro vs h hr
    match vs,h with
    | v::vs,h=>exact .cons (hr 0 v x rfl rfl) (ih (by simpa using h) fun i u y a b=>hr (i+1) u y (by simpa using a) (by simpa using b))
theorem QaL {β:Nat→Option Nat} {S:Nat→Prop} {h:Nat→Option Ob} {w:World} {tm:Nat→Value} {v:Value} {xs:List D} (hv:RdA β S h w tm v (.ag (xs.map .d))):∃ vs:List Value,v = .agg vs.toArray∧RdLs S w vs xs:=by
  cases hv with
  | ag cs l hl hr=>
    obtain ⟨vs⟩:=cs
    refine ⟨vs,rfl,Qj3 (by simpa using hl) fun i u x a b=>?_⟩
    have:=hr i (.d x) (by simp [b])
    simp [Array.getD,(List.getElem?_eq_some_iff.1 a).1] at this
    rw [(List.getElem?_eq_some_iff.1 a).2] at this
    cases this with
    | d _ _ q=>exact q
    | dang _ _ _ hl=>cases hl
  | dang v av l hl=>cases hl
theorem Qf1 {β:Nat→Option Nat} {S:Nat→Prop} {h:Nat→Option Ob} {w:World} {args:List Value} {a:AV} (hA:ArgsRd β S h w args [a]):∃ v,args=[v]∧RdA β S h w tm0 v a:=Q2T hA
theorem QeP {β:Nat→Option Nat} {S:Nat→Prop} {h:Nat→Option Ob} {w:World} {args:List Value} {a b:AV} (hA:ArgsRd β S h w args [a,b]):∃ v u,args=[v,u]∧RdA β S h w tm0 v a∧RdA β S h w tm0 u b:=by
  obtain ⟨d,c⟩:=hA
  match args,d with
  | [v,u],_=>exact ⟨v,u,rfl,c 0 v a rfl rfl,c 1 u b rfl rfl⟩
theorem Q8j (n:Nat) (l0 l1 l2 a:LL) (res:Int) {hl:Nat→Option Ob} (h:Jq n l0 l1 l2 a some=some res):QI Tryz.prog 47 [.ag [.d (D.sl 1 l0),.d (D.sl 1 l1),.d (D.sl 5 l2),.d (D.sl 6 a)]] hl ⟨.d (D.int .i64 res),[],[]⟩:=by
  obtain ⟨hok,h⟩:=Xa h
  injection h with h
  subst h
  refine Q0n (fn:=Tryz.f47) (by kernel_rfl) (by kernel_rfl) (by kernel_rfl) rfl rfl fun S w args hS hA=>?_
  obtain ⟨v,rfl,hv⟩:=Qf1 hA
  obtain ⟨vs,rfl,hr⟩:=QaL (xs:=[D.sl 1 l0,.sl 1 l1,.sl 5 l2,.sl 6 a]) hv
  cases hr with
  | cons c t=>
    cases t with
    | cons d t=>
      cases t with
      | cons f t=>
        cases t with
        | cons g t=>
          cases t
          have hok':=hok
          simp only [As,Bool.and_eq_true,Bool.not_eq_true'] at hok'
          obtain ⟨⟨⟨⟨⟨⟨⟨⟨m,o⟩,i⟩,j⟩,p⟩,q⟩,r⟩,ns⟩,nl⟩:=hok'
          refine (Tryz.layout_calls S w hS l0 l1 l2 a _ _ _ _ c d f g hok fun w' hS' k0 k1 k l=>Tryz.links_calls S w' hS' l0 l1 l2 a _ _ _ _ k0 k1 k l (Nat.le_of_ble_eq_true i) (Nat.le_of_ble_eq_true j) nl).mono fun e w' ⟨he,hB⟩=>?_
          exact ⟨_,S,he,fun b h=>h,fun b h=>.inl h,fun b h=>Nat.lt_of_lt_of_le (hS b h) hB.size,.d _ _ (.int _ _),hB⟩

end Go.Vx
namespace Go.Proofs
open Go.RowKit
theorem Q7l {P:Program} {w:World} (a:Addr) (m:Mode) (f:Fn) (x y:Array Value):(store a (.func f x y) m).run P w=stored P w a (.func f x y) m:=run_store P w a _ m rfl
attribute [local go_sem] Q7l
def R9 (r:Nat→Int):Nat→Nat→Int
  | 0,_=>0
  | n+1,k=>if r k=0 then R9 r n (k+1) else r k
theorem EB (r:Nat→Int):∀ (n k m:Nat),(∀ j,k≤j→j<k+m→r j=0)→R9 r (m+n) k=R9 r n (k+m)
  | n,k,0,_=>by simp
  | n,k,m+1,h=>by
    rw [show m+1+n=(m+n)+1 by omega]
    simp only [R9]
    rw [if_pos (h k (Nat.le_refl _) (by omega)),EB r n (k+1) m (fun j a b=>h j (by omega) (by omega))]
    rw [show k+1+m=k+(m+1) by omega]
theorem Below.of {n:Nat} {w w':World} (a:w'.os=w.os) (c:w'.tape=w.tape) (d:w'.output=w.output) (e:w.heap.size≤w'.heap.size) (f:∀ b,b<n→w'.heap[b]? = w.heap[b]?):Below n w w':=by
  exact ⟨a,c,d,e,f⟩
set_option maxHeartbeats 4000000 in
set_option maxRecDepth 100000 in
theorem Tryz.plancheck_calls (w:World) (a0 a1 d f p0 p1 l m n o p q:Value) (r:Nat→Int)
    (h:∀ k:Nat,k<8→∀ w':World,w.heap.size≤w'.heap.size→(∀ b,b<w.heap.size→w'.heap[b]? = w.heap[b]?) →
      Calls Tryz.prog (27+k) #[.agg #[a0,a1,d,f],.agg #[p0,p1,l,m,n,o,p,q]] w' fun e w''=>e = .returned (.int .i64 (r k))∧Below w'.heap.size w' w'')
    (c:∀ x∈[a0,a1,d,f,p0,p1,l,m,n,o,p,q],x.oneCell'=true) :
    Calls Tryz.prog 15 #[.agg #[a0,a1,d,f],.agg #[p0,p1,l,m,n,o,p,q]] w fun e w'=>e = .returned (.int .i64 (R9 r 8 0))∧Below w.heap.size w w':=by
  go_enter Tryz.func15,Tryz.ntmps15
  go_wp2
  go_loopw [11] (fun i wr=>∃ k:Nat,k≤8∧i = .int .i64 k∧(∀ j,j<k→r j=0)∧wr.heap[w.heap.size]? = some (.cells #[a0,a1,d,f] 27 (0,0))∧wr.heap[w.heap.size+1]? = some (.cells #[p0,p1,l,m,n,o,p,q] 36 (0,0))∧Below w.heap.size w wr)
    (fun i _=>8-(intOf i).toNat)
  case atStart=>
    refine ⟨0,by omega,rfl,fun j hj=>absurd hj (by omega),?_,?_,?_⟩
    · rw [Lib.alloc_old _ _ _ (by simp;omega),Lib.alloc_old _ _ _ (by simp)]
      exact heap_alloc_new w _
    · rw [Lib.alloc_old _ _ _ (by simp),show w.heap.size+1=(w.alloc (.cells #[a0,a1,d,f] 27)).heap.size by simp]
      exact heap_alloc_new _ _
    · refine Below.of rfl rfl rfl (by simp;omega) fun b hb=>?_
      rw [Lib.alloc_old _ _ _ (by simp;omega),Lib.alloc_old _ _ _ (by simp;omega),Lib.alloc_old _ _ _ hb]
  case round=>
    obtain ⟨k,hk,rfl,hz,g,a,hB⟩:=hrel
    by_cases hlt:k<8
    · have hlt':((k:Int)<8):=by omega
      have c0:wr.cell? ⟨w.heap.size,0,none⟩=some a0:=by rw [Lib.cell_of_heap g];rfl
      have c1:wr.cell? ⟨w.heap.size,1,none⟩=some a1:=by rw [Lib.cell_of_heap g];rfl
      have u:wr.cell? ⟨w.heap.size,2,none⟩=some d:=by rw [Lib.cell_of_heap g];rfl
      have v:wr.cell? ⟨w.heap.size,3,none⟩=some f:=by rw [Lib.cell_of_heap g];rfl
      have d0:wr.cell? ⟨w.heap.size+1,0,none⟩=some p0:=by rw [Lib.cell_of_heap a];rfl
      have d1:wr.cell? ⟨w.heap.size+1,1,none⟩=some p1:=by rw [Lib.cell_of_heap a];rfl
      have y:wr.cell? ⟨w.heap.size+1,2,none⟩=some l:=by rw [Lib.cell_of_heap a];rfl
      have z:wr.cell? ⟨w.heap.size+1,3,none⟩=some m:=by rw [Lib.cell_of_heap a];rfl
      have d4:wr.cell? ⟨w.heap.size+1,4,none⟩=some n:=by rw [Lib.cell_of_heap a];rfl
      have d5:wr.cell? ⟨w.heap.size+1,5,none⟩=some o:=by rw [Lib.cell_of_heap a];rfl
      have d6:wr.cell? ⟨w.heap.size+1,6,none⟩=some p:=by rw [Lib.cell_of_heap a];rfl
      have d7:wr.cell? ⟨w.heap.size+1,7,none⟩=some q:=by rw [Lib.cell_of_heap a];rfl
      have hw:wrap64 ((k:Int)+1)=((k+1:Nat):Int):=by unfold wrap64;omega
      have hidx:∀ w:World,(Instr.index 102 (.agg #[.func (.func 27) #[] #[],.func (.func 28) #[] #[],.func (.func 29) #[] #[],.func (.func 30) #[] #[],.func (.func 31) #[] #[],.func (.func 32) #[] #[],.func (.func 33) #[] #[],.func (.func 34) #[] #[]]) (.int .i64 k)).run Tryz.prog w = .ok (.func (.func (27+k)) #[] #[]) w:=by
        intro w
        obtain rfl | rfl | rfl | rfl | rfl | rfl | rfl | rfl:k=0∨k=1∨k=2∨k=3∨k=4∨k=5∨k=6∨k=7:=by omega
        all_goals rfl
      have hcf:∀ (w:World) (ar:Array Value),(callFunc (27+k) ar).run Tryz.prog w = .ok (.enter (27+k) ar) w:=by
        intro w ar
        obtain rfl | rfl | rfl | rfl | rfl | rfl | rfl | rfl:k=0∨k=1∨k=2∨k=3∨k=4∨k=5∨k=6∨k=7:=by omega
        all_goals rfl
      have hc:=h k hlt wr hB.size hB.block
      clear hw
      go_wp2
      refine hc.mono ?_
      rintro e s ⟨rfl,hB2⟩
      have hB3:Below w.heap.size w s:=hB.trans ⟨hB2.os,hB2.tape,hB2.output,hB2.size,fun b hb=>hB2.block b (Nat.lt_of_lt_of_le hb hB.size)⟩
      have l0:=(Array.getElem?_eq_some_iff.1 g).1
      have l1:=(Array.getElem?_eq_some_iff.1 a).1
      by_cases hr:r k=0
      · rw [hr]
        go_wp2
        go_roundw
        case rel=>
          refine ⟨k+1,by omega,rfl,fun j hj=>?_,(hB2.block _ l0).trans g,(hB2.block _ l1).trans a,hB3⟩
          by_cases e:j=k
          · rw [e];exact hr
          · exact hz j (by omega)
        case measure=>simp [intOf];omega
      · have hfe:R9 r 8 0=r k:=by
          have e:=EB r (8-k) 0 k fun j _ t=>hz j (by omega)
          rw [show k+(8-k)=8 by omega] at e
          rw [e,show 8-k=(7-k)+1 by omega,Nat.zero_add]
          simp [R9,hr]
        go_wp2
        refine bodyPost_ret (results_tmp rfl _ _ _) rfl ?_
        exact ⟨by rw [hfe];rfl,hB3⟩
    · have hfe:R9 r 8 0=0:=by
        have e:=EB r 0 0 8 fun j _ t=>hz j (by omega)
        exact e
      go_wp2
      refine bodyPost_ret (results_tmp rfl _ _ _) rfl ?_
      exact ⟨by rw [hfe];rfl,hB⟩
end Go.Proofs
namespace Go.Vx
open Go.Proofs
def Rh (n:Nat):XH:=fun _ _ g avs _ k=>match avs with
 | [c0]=>
  prG c0 fun l0=>(match l0 with
  | [a,b,c,d]=>prS g 1 a fun e=>prS g 1 b fun f=>prS g 5 c fun h=>prS g 6 d fun i=>
  gb g (Jq n e f h i some) 0 fun r=>k ⟨.d (D.int .i64 r),[],[]⟩
  | _=>none)
 | _=>none
theorem B1 (n:Nat):Qo Tryz.prog 47 (Rh n):=by
  intro R site g avs hl k r h
  unfold Rh at h
  split at h
  rotate_left
  · cases h
  replace h:=Qq h
  obtain ⟨l0,h,e⟩:=h
  subst e
  split at h
  rotate_left
  · cases h
  replace h:=Q1 h
  obtain ⟨a,h,f⟩:=h
  replace h:=Q1 h
  obtain ⟨b,h,i⟩:=h
  replace h:=Q1 h
  obtain ⟨c,h,j⟩:=h
  replace h:=Q1 h
  obtain ⟨d,h,l⟩:=h
  replace h:=Qc h
  obtain ⟨res,h,hr⟩:=h
  exact ⟨_,h,fun hg=>QI.conv (avs':=[.ag [.d (D.sl 1 a),.d (D.sl 1 b),.d (D.sl 5 c),.d (D.sl 6 d)]]) (.cons (.ag (.cons (f hg) (.cons (i hg) (.cons (j hg) (.cons (l hg) .nil))))) .nil) (Q8j n a b c d res (hr hg))⟩
end Go.Vx
set_option maxRecDepth 100000
namespace Go.Vx
open Go.Proofs
variable {R:Type}
noncomputable def Pf:Code:=Q8 Tryz.f27
noncomputable def P1:Code:=cA [1,0] (Q8 Tryz.f27)
noncomputable def PS:Code:=cA [1,1] (Q8 Tryz.f27)
noncomputable def LK:Code:=cA [1,0,2,1,4,0] (Q8 Tryz.f27)
noncomputable def TN:Code:=cA [1,0,2,1,4,1] (Q8 Tryz.f27)
noncomputable def GD:Code:=cA [1,1,0,1,2,2] (Q8 Tryz.f27)
noncomputable def Ps:Code:=cA [1,1,1] (Q8 Tryz.f27)
def PF (a b c d:LL) (e:Int) (f g h i j k l:LL):St:=⟨60,[(2,.ptr 2 0),(3,.ptr 3 0)],[(2,.box [dL 1 a,dL 1 b,dL 5 c,dL 6 d]),(3,.box [dI e,dL 5 f,dL 2 g,dL 4 h,dL 7 i,dL 4 j,dL 5 k,dL 3 l])]⟩
def Vy (a:Bool) (b:Int) (c d e f g h i:LL):St:=⟨60,[(3,.ptr 3 0),(11,dB a)],[(3,.box [dI b,dL 5 c,dL 2 d,dL 4 e,dL 7 f,dL 4 g,dL 5 h,dL 3 i])]⟩
def Pb  : St:=⟨60,[(4,dI (7:Int))],[]⟩
def Tx (a:LL) (b c d:Int) (e f g h i j k:LL):St:=⟨60,[(3,.ptr 3 0),(41,dL 4 a),(42,dI b),(43,dI c)],[(3,.box [dI d,dL 5 e,dL 2 f,dL 4 g,dL 7 h,dL 4 i,dL 5 j,dL 3 k])]⟩
def TY (a:LL) (b c:Int) (d:Bool) (e:Int) (f g h i j k l:LL):St:=⟨60,[(3,.ptr 3 0),(41,dL 4 a),(42,dI b),(43,dI c),(44,dB d)],[(3,.box [dI e,dL 5 f,dL 2 g,dL 4 h,dL 7 i,dL 4 j,dL 5 k,dL 3 l])]⟩
def Qw (n:Nat):VC:=⟨QK [(47,Rh n)],gtt,[cO 0 [2,3] [2,3],cO 1 [3,7] [3],cK 2 [4],cO 3 [3,11] [3],cO 4 [3,11] [3],cO 5 [3,11] [3],cO 6 [3,11] [3],cO 7 [3,11] [3],cO 8 [3,11] [3],cO 9 [3,11] [3],cK 10 [4],cO 11 [3,41,42,43] [3],cO 12 (3::rg1 41 4 []) [3],cO 13 [3,6,41,42,43] [3,6],cO 14 [3,41,42,43,50] [3],cK 15 [4],cO 16 [3,41,42,43] [3],cK 17 [59],cK 18 [4],cK 19 [4]]⟩
theorem Q2w (n:Nat):VCOk Tryz.prog (Qw n):=gVC (Qe ⟨B1 n,trivial⟩)
theorem CK (n:Nat) (a b c d:LL) (e:Int) (f g h i j l m:LL) (k:Exit→St→Option R):Qi (Qw n) n Pf ⟨60,[(0,.ag [dL 1 a,dL 1 b,dL 5 c,dL 6 d]),(1,.ag [dI e,dL 5 f,dL 2 g,dL 4 h,dL 7 i,dL 4 j,dL 5 l,dL 3 m])],[]⟩ k=GW n a b c d e f g h i j l m (Qi (Qw n) n P1 (PF a b c d e f g h i j l m) (Xf (Qw n) n PS k)):=by kernel_rfl
theorem BR (n:Nat) (i j l m:LL) (a:Int) (b c d e f g h:LL) (k:Exit→St→Option R):Qi (Qw n) n P1 (PF i j l m a b c d e f g h) k=K1 n i j l m a b c d e f g h (k .ret ⟨60,[(4,dI (1:Int))],[]⟩) (fun o=>Qi (Qw n) n LK ⟨60,[(3,.ptr 3 0),(7,dB o)],[(3,.box [dI a,dL 5 b,dL 2 c,dL 4 d,dL 7 e,dL 4 f,dL 5 g,dL 3 h])]⟩ (Xf (Qw n) n TN (Q9 0 k))):=by kernel_rfl
theorem Bq (n:Nat) (i:Bool) (a:Int) (b c d e f g h:LL) (k:Exit→St→Option R):Qi (Qw n) n LK ⟨60,[(3,.ptr 3 0),(7,dB i)],[(3,.box [dI a,dL 5 b,dL 2 c,dL 4 d,dL 7 e,dL 4 f,dL 5 g,dL 3 h])]⟩ k=GO n i a b c d e f g h (fun j=>k .normal (Vy j a b c d e f g h)):=by kernel_rfl
theorem CI (n:Nat) (a:Bool) (b:Int) (c d e f g h i:LL) (k:Exit→St→Option R):(Xf (Qw n) n TN (Q9 0 k)) .normal (Vy a b c d e f g h i)=Tk n a b c d e f g h i (k .ret (Pb)) (k .normal (Vy a b c d e f g h i)):=by kernel_rfl
theorem A1 (n:Nat) (i j l m:LL) (a:Int) (b c d e f g h:LL) (k:Exit→St→Option R):Qi (Qw n) n P1 (PF i j l m a b c d e f g h) k=GM n i j l m a b c d e f g h (fun r=>k .ret ⟨60,[(4,dI r)],[]⟩) (fun o=>k .normal (Vy o a b c d e f g h)):=
 (BR n i j l m a b c d e f g h k).trans (cg2 (fun p s=>K1 n i j l m a b c d e f g h p s ) rfl (funext fun q=>(Bq n q a b c d e f g h (Xf (Qw n) n TN (Q9 0 k))).trans (cg1 (fun p=>GO n q a b c d e f g h p ) (funext fun o=>(CI n o a b c d e f g h k)))))
theorem CB (n:Nat) (i:Bool) (b:Int) (c d a e f g h:LL) (k:Exit→St→Option R):(Xf (Qw n) n PS k) .normal (Vy i b c d a e f g h)=GN n i b c d a e f g h (fun j=>X7 (lB (Qw n) n GD) n ⟨60,[(3,.ptr 3 0),(41,dL 4 a),(42,dI j),(43,dI (0:Int))],[(3,.box [dI b,dL 5 c,dL 2 d,dL 4 a,dL 7 e,dL 4 f,dL 5 g,dL 3 h])]⟩ (Q9 1 (Xf (Qw n) n Ps k))):=by kernel_rfl
theorem BY (n:Nat) (a:LL) (b j c:Int) (d e f g h i:LL) (k:Exit→St→Option R):Qi (Qw n) n GD (Tx a b j c d e a f g h i) k=VB n a b j c d e f g h i (k .ret (Pb)) (fun l=>k .normal (Tx a b l c d e a f g h i)) (fun m=>k (.exit 1) (TY a b j m c d e a f g h i)):=by kernel_rfl
theorem RG (n:Nat) (a:LL) (c d:Int) (e f g h i j:LL) (k:Exit→St→Option R):∀ (m:Nat) (b:Int),X7 (lB (Qw n) n GD) m (Tx a c b d e f a g h i j) k=ZW n a c d e f g h i j (k .ret (Pb)) (fun b l=>k (.exit 1) (TY a c b l d e f a g h i j)) m b
 | 0,_=>rfl
 | m+1,b=>(lS (by kernel_rfl) m k).trans ((BY n a c b d e f g h i j (WB (lB (Qw n) n GD) m k)).trans (cg3 (fun o p q=>VB n a c b d e f g h i j o p q ) rfl (funext fun r=>RG n a c d e f g h i j k m r) rfl))
theorem A2 (n:Nat) (a:LL) (b c:Int) (d:Bool) (e:Int) (f g h i j l:LL) (k:Exit→St→Option R):(Q9 1 (Xf (Qw n) n Ps k)) (.exit 1) (TY a b c d e f g a h i j l)=Po n a b c d e f g h i j l (fun m=>k .ret ⟨60,[(4,dI m)],[]⟩):=by kernel_rfl
theorem DT (n:Nat) (j l m o:LL) (a:Int) (b c d e f g h:LL) (k:Exit→St→Option R):Qi (Qw n) n Pf ⟨60,[(0,.ag [dL 1 j,dL 1 l,dL 5 m,dL 6 o]),(1,.ag [dI a,dL 5 b,dL 2 c,dL 4 d,dL 7 e,dL 4 f,dL 5 g,dL 3 h])],[]⟩ k=HA n j l m o a b c d e f g h (fun s=>k .ret ⟨60,[(4,dI s)],[]⟩):=
 (CK n j l m o a b c d e f g h k).trans (cg1 (fun i=>GW n j l m o a b c d e f g h i ) ((A1 n j l m o a b c d e f g h (Xf (Qw n) n PS k)).trans (cg2 (fun i p=>GM n j l m o a b c d e f g h i p ) rfl (funext fun r=>(CB n r a b c d e f g h k).trans (cg1 (fun i=>GN n r a b c d e f g h i ) (funext fun q=>(RG n d q a b c e f g h (Q9 1 (Xf (Qw n) n Ps k)) n (0:Int)).trans (cg2 (fun i p=>ZW n d q a b c e f g h i p n (0:Int)) rfl (funext fun t=>funext fun u=>(A2 n d q t u a b c e f g h k)))))))))
theorem Q0X (n:Nat) (a c d e:LL) (f:Int) (g h i j k l m:LL) (K:AV→Option R):vfn (Qw n) n Tryz.f27 [.ag [.d (D.sl 1 a),.d (D.sl 1 c),.d (D.sl 5 d),.d (D.sl 6 e)],.ag [.d (D.int .i64 f),.d (D.sl 5 g),.d (D.sl 2 h),.d (D.sl 4 i),.d (D.sl 7 j),.d (D.sl 4 k),.d (D.sl 5 l),.d (D.sl 3 m)]] [] (Wc [[0]] K)=V9 n a c d e f g h i j k l m (fun o=>K (.d (D.int .i64 o))):=
 Eq.trans (b:=Qi (Qw n) n Pf ⟨60,[(0,.ag [dL 1 a,dL 1 c,dL 5 d,dL 6 e]),(1,.ag [dI f,dL 5 g,dL 2 h,dL 4 i,dL 7 j,dL 4 k,dL 5 l,dL 3 m])],[]⟩ (K3 gtt [.tmp 4] (Wc [[0]] K))) VP ((DT n a c d e f g h i j k l m (K3 gtt [.tmp 4] (Wc [[0]] K))).trans (by kernel_rfl))
def SN (n:Nat):XH:=fun _ _ g avs _ k=>match avs with
 | [c0,c1]=>
  prG c0 fun l0=>(match l0 with
  | [a,b,c,d]=>prS g 1 a fun e=>prS g 1 b fun f=>prS g 5 c fun h=>prS g 6 d fun i=>
  prG c1 fun l1=>(match l1 with
  | [j,l,m,o,p,q,s,t]=>prI g .i64 j fun u=>prS g 5 l fun v=>prS g 2 m fun w=>prS g 4 o fun x=>prS g 7 p fun y=>prS g 4 q fun z=>prS g 5 s fun aa=>prS g 3 t fun ab=>
  gb g (V9 n e f h i u v w x y z aa ab some) 0 fun r=>k ⟨.d (D.int .i64 r),[],[]⟩
  | _=>none)
  | _=>none)
 | _=>none
theorem Q1y (n:Nat):Qo Tryz.prog 27 (SN n):=by
  intro R site g avs hl k r h
  unfold SN at h
  split at h
  rotate_left
  · cases h
  obtain ⟨l0,h,q⟩:=Qq h
  split at h
  rotate_left
  · cases h
  obtain ⟨a,h,s⟩:=Q1 h
  obtain ⟨b,h,t⟩:=Q1 h
  obtain ⟨c,h,u⟩:=Q1 h
  obtain ⟨d,h,v⟩:=Q1 h
  obtain ⟨l1,h,e1⟩:=Qq h
  split at h
  rotate_left
  · cases h
  obtain ⟨e,h,w⟩:=Q2 h
  obtain ⟨f,h,x⟩:=Q1 h
  obtain ⟨i,h,y⟩:=Q1 h
  obtain ⟨j,h,z⟩:=Q1 h
  obtain ⟨l,h,aa⟩:=Q1 h
  obtain ⟨m,h,ab⟩:=Q1 h
  obtain ⟨o,h,ac⟩:=Q1 h
  obtain ⟨p,h,ad⟩:=Q1 h
  obtain ⟨res,h,hr⟩:=Qc h
  have hL:=h
  subst q e1
  refine ⟨_,hL,fun hg=>QI.conv (avs':=[.ag [.d (D.sl 1 a),.d (D.sl 1 b),.d (D.sl 5 c),.d (D.sl 6 d)],.ag [.d (D.int .i64 e),.d (D.sl 5 f),.d (D.sl 2 i),.d (D.sl 4 j),.d (D.sl 7 l),.d (D.sl 4 m),.d (D.sl 5 o),.d (D.sl 3 p)]]) (.cons (.ag (.cons (s hg) (.cons (t hg) (.cons (u hg) (.cons (v hg) (.nil)))))) (.cons (.ag (.cons (w hg) (.cons (x hg) (.cons (y hg) (.cons (z hg) (.cons (aa hg) (.cons (ab hg) (.cons (ac hg) (.cons (ad hg) (.nil)))))))))) (.nil))) (QE (K:=kI) (res:=res) (Q2w n) (fn:=Tryz.f27) (n:=n) (ss:=[[0]]) ?_ ?_)⟩
  · exact (Q0X n a b c d e f i j l m o p kI).trans (hr hg)
  · exact NW
end Go.Vx
set_option maxRecDepth 100000
namespace Go.Vx
open Go.Proofs
noncomputable def TB:Code:=Q8 Tryz.f50
def VV (n:Nat):VC:=⟨QK [],gtt,[cO 0 [1,2] [2,1000000],cO 1 [3] [1000000]]⟩
theorem PC (n:Nat):VCOk Tryz.prog (VV n):=gVC (Qe trivial)
def ZQ:AV→List (Nat × Ob)→Option (Bool × (List UInt8) × Int × Int × Int × Int):=fun av H=>(look H 1000000).bind fun o0=>match av,o0 with
 | .d (D.bool a),.box [.d (D.str b),.d (D.int .i64 r2),.d (D.int .i64 r3),.d (D.int .i64 c),.d (D.int .i64 d)]=>some (a,b,r2,r3,c,d)
 | _,_=>none
theorem Tf (n:Nat) (a:List UInt8) (b d e f:Int) (g:List UInt8) (h i j k:Int):vfn (VV n) n Tryz.f50 [.ag [.d (D.str a),.d (D.int .i64 b),.d (D.int .i64 d),.d (D.int .i64 e),.d (D.int .i64 f)],.ptr 1000000 0] [(1000000,.box [.d (D.str g),.d (D.int .i64 h),.d (D.int .i64 i),.d (D.int .i64 j),.d (D.int .i64 k)])] ZQ=U7 n a b d e f g h i j k (fun l o r2 r3 p q=>some (l,o,r2,r3,p,q)):=
 (VP (c:=TB) (m:=9) (tm:=[(0,.ag [dT a,dI b,dI d,dI e,dI f]),(1,.ptr 1000000 0)]) (rs:=[.tmp 3]) (tt:=gtt)).trans (by kernel_rfl)
def Wh (n:Nat):XH:=fun _ site g avs hl k=>match avs with
 | [c0,c1]=>prG c0 fun a=>(match a with
  | [b,c,d,e,f]=>prT g b fun h=>prI g .i64 c fun i=>prI g .i64 d fun j=>prI g .i64 e fun l=>prI g .i64 f fun m=>prP hl c1 fun l0 o=>(match o with
  | [p,q,s,t,u]=>prT g p fun v=>prI g .i64 q fun w=>prI g .i64 s fun x=>prI g .i64 t fun y=>prI g .i64 u fun z=>
  bif UY hl [(1000000,l0)] [] then gb g (U7 n h i j l m v w x y z (fun r0 r1 r2 r3 r4 r5=>some (r0,r1,r2,r3,r4,r5))) (false,[],0,0,0,0) fun r=>k ⟨.d (D.bool r.1),[(l0,some (.box [.d (D.str r.2.1),.d (D.int .i64 r.2.2.1),.d (D.int .i64 r.2.2.2.1),.d (D.int .i64 r.2.2.2.2.1),.d (D.int .i64 r.2.2.2.2.2)]))],[l0]⟩ else none
  | _=>none)
  | _=>none)
 | _=>none
theorem PP (n:Nat):Qo Tryz.prog 50 (Wh n):=by
  intro R site g avs hl k r h
  unfold Wh at h
  split at h
  rotate_left
  · cases h
  obtain ⟨ad,h,p⟩:=Qq h
  split at h
  rotate_left
  · cases h
  obtain ⟨a,h,q⟩:=VN h
  obtain ⟨b,h,s⟩:=Q2 h
  obtain ⟨c,h,t⟩:=Q2 h
  obtain ⟨d,h,u⟩:=Q2 h
  obtain ⟨e,h,v⟩:=Q2 h
  obtain ⟨l0,ae,h,w,x⟩:=YT h
  split at h
  rotate_left
  · cases h
  obtain ⟨f,h,y⟩:=VN h
  obtain ⟨i,h,z⟩:=Q2 h
  obtain ⟨j,h,aa⟩:=Q2 h
  obtain ⟨l,h,ab⟩:=Q2 h
  obtain ⟨m,h,ac⟩:=Q2 h
  obtain ⟨hc,h⟩:=Xa h
  obtain ⟨res,h,hr⟩:=Qc h
  have hL:=h
  subst p w
  refine ⟨_,hL,fun hg=>Zl (K:=ZQ) (res:=res) (PC n) (fn:=Tryz.f50) (n:=n) (by kernel_rfl) (by kernel_rfl) (by kernel_rfl) (ρ:=[(1000000,l0)]) (ν:=[]) (avs':=[.ag [.d (D.str a),.d (D.int .i64 b),.d (D.int .i64 c),.d (D.int .i64 d),.d (D.int .i64 e)],.ptr 1000000 0]) (H:=[(1000000,.box [.d (D.str f),.d (D.int .i64 i),.d (D.int .i64 j),.d (D.int .i64 l),.d (D.int .i64 m)])]) (.cons (.data rfl (.ag (.cons (q hg) (.cons (s hg) (.cons (t hg) (.cons (u hg) (.cons (v hg) (.nil)))))))) (.cons (.own rfl rfl) (.nil))) rfl rfl hc (⟨⟨by decide,_,_,x,rfl,.box (.cons (.data rfl (y hg)) (.cons (.data rfl (z hg)) (.cons (.data rfl (aa hg)) (.cons (.data rfl (ab hg)) (.cons (.data rfl (ac hg)) (.nil))))))⟩,trivial⟩) rfl rfl ?_ ?_⟩
  · exact (Tf n a b c d e f i j l m).trans (hr hg)
  · intro av H' hx
    unfold ZQ at hx
    simp only [Option.bind_eq_some_iff] at hx
    obtain ⟨o0,o,hx⟩:=hx
    split at hx
    rotate_left
    · cases hx
    injection hx with hx
    subst hx
    refine ⟨rfl,?_,trivial,⟨YI rfl o rfl,trivial⟩⟩
    simp only [List.cons_append,List.nil_append,K2,o,Option.map_some,Option.map_none]
    rfl
end Go.Vx
set_option maxRecDepth 100000
namespace Go.Vx
open Go.Proofs
variable {R:Type}
noncomputable def Xg:Code:=Q8 Tryz.f74
noncomputable def QL:Code:=cA [1,0,1,2,2] (Q8 Tryz.f74)
noncomputable def Xi:Code:=cA [1,1] (Q8 Tryz.f74)
def Xp (a:LL) (b:List UInt8) (c d e f:Int):St:=⟨19,[(0,dL 5 a),(1,.fn 50 [.ptr 1000000 0])],[(1000000,.box [dT b,dI c,dI d,dI e,dI f])]⟩
def Xj (a:LL) (b c:Int) (d:List UInt8) (e f g h:Int):St:=⟨19,[(0,dL 5 a),(1,.fn 50 [.ptr 1000000 0]),(7,dI b),(8,dI c)],[(1000000,.box [dT d,dI e,dI f,dI g,dI h])]⟩
def Xh (a:LL) (b c:Int) (d:Bool) (e:List UInt8) (f g h i:Int):St:=⟨19,[(0,dL 5 a),(1,.fn 50 [.ptr 1000000 0]),(7,dI b),(8,dI c),(9,dB d)],[(1000000,.box [dT e,dI f,dI g,dI h,dI i])]⟩
def Q4 (n:Nat):VC:=⟨QK [(50,Wh n)],gtt,[cO 0 [0,1] [1000000],cO 1 [0,1,7,8] [1000000],cO 2 [0,1,7,8,9] [1000000],cO 3 [0,1,5,7,8] [1000000],cO 4 [0,1,5,7,8,16] [1000000],cO 5 [4] [1000000],cO 6 [0,1,7,8] [1000000],cO 7 [4] [1000000]]⟩
theorem WD (n:Nat):VCOk Tryz.prog (Q4 n):=gVC (Qe ⟨PP n,trivial⟩)
theorem ZY (n:Nat) (a0:LL) (a:List UInt8) (b c d e:Int) (k:Exit→St→Option R):Qi (Q4 n) n Xg (Xp a0 a b c d e) k=Xm n a0 a b c d e (fun f=>X7 (lB (Q4 n) n QL) n ⟨19,[(0,dL 5 a0),(1,.fn 50 [.ptr 1000000 0]),(7,dI f),(8,dI (0:Int))],[(1000000,.box [dT a,dI b,dI c,dI d,dI e])]⟩ (Q9 0 (Xf (Q4 n) n Xi k))):=by kernel_rfl
theorem ZM (n:Nat) (a0:LL) (a b:Int) (c:List UInt8) (d e f g:Int) (k:Exit→St→Option R):Qi (Q4 n) n QL (Xj a0 a b c d e f g) k=Xn n a0 a b c d e f g (fun h i j l m=>k .ret ⟨19,[(4,dI b)],[(1000000,.box [dT h,dI i,dI j,dI l,dI m])]⟩) (fun o p q r s t=>k .normal (Xj a0 a o p q r s t)) (fun u=>k (.exit 0) (Xh a0 a b u c d e f g)):=by kernel_rfl
theorem Yq (n:Nat) (a0:LL) (g:Int) (k:Exit→St→Option R):∀ (m:Nat) (a:Int) (b:List UInt8) (c d e f:Int),X7 (lB (Q4 n) n QL) m (Xj a0 g a b c d e f) k=QM n a0 g (fun a h i j l o=>k .ret ⟨19,[(4,dI a)],[(1000000,.box [dT h,dI i,dI j,dI l,dI o])]⟩) (fun a p b c d e f=>k (.exit 0) (Xh a0 g a p b c d e f)) m a b c d e f
 | 0,_,_,_,_,_,_=>rfl
 | m+1,a,b,c,d,e,f=>(lS (by kernel_rfl) m k).trans ((ZM n a0 g a b c d e f (WB (lB (Q4 n) n QL) m k)).trans (cg3 (fun q r s=>Xn n a0 g a b c d e f q r s ) rfl (funext fun t=>funext fun u=>funext fun v=>funext fun w=>funext fun x=>funext fun y=>Yq n a0 g k m t u v w x y) rfl))
theorem ZS (n:Nat) (a0:LL) (f g:Int) (h:Bool) (a:List UInt8) (b c d e:Int) (k:Exit→St→Option R):(Q9 0 (Xf (Q4 n) n Xi k)) (.exit 0) (Xh a0 f g h a b c d e)=Yz n a0 f g h a b c d e (k .ret ⟨19,[(4,dI (-1:Int))],[(1000000,.box [dT a,dI b,dI c,dI d,dI e])]⟩):=by kernel_rfl
theorem ZH (n:Nat) (a0:LL) (a:List UInt8) (b c d e:Int) (k:Exit→St→Option R):Qi (Q4 n) n Xg (Xp a0 a b c d e) k=Yw n a0 a b c d e (fun h i j l m o=>k .ret ⟨19,[(4,dI h)],[(1000000,.box [dT i,dI j,dI l,dI m,dI o])]⟩):=
 (ZY n a0 a b c d e k).trans (cg1 (fun f=>Xm n a0 a b c d e f ) (funext fun g=>(Yq n a0 g (Q9 0 (Xf (Q4 n) n Xi k)) n (0:Int) a b c d e).trans (cg2 (fun f p=>QM n a0 g f p n (0:Int) a b c d e) rfl (funext fun q=>funext fun r=>funext fun s=>funext fun t=>funext fun u=>funext fun v=>funext fun w=>(ZS n a0 g q r s t u v w k)))))
def Qv:AV→List (Nat × Ob)→Option (Int × (List UInt8) × Int × Int × Int × Int):=fun av H=>(look H 1000000).bind fun o0=>match av,o0 with
 | .d (D.int .i64 a),.box [.d (D.str b),.d (D.int .i64 r2),.d (D.int .i64 r3),.d (D.int .i64 c),.d (D.int .i64 d)]=>some (a,b,r2,r3,c,d)
 | _,_=>none
theorem Wy (n:Nat) (a0:LL) (a:List UInt8) (c d e f:Int):vfn (Q4 n) n Tryz.f74 [.d (D.sl 5 a0),.fn 50 [.ptr 1000000 0]] [(1000000,.box [.d (D.str a),.d (D.int .i64 c),.d (D.int .i64 d),.d (D.int .i64 e),.d (D.int .i64 f)])] Qv=XJ n a0 a c d e f (fun g h r2 r3 i j=>some (g,h,r2,r3,i,j)):=
 Eq.trans (b:=Qi (Q4 n) n Xg (Xp a0 a c d e f) (K3 gtt [.tmp 4] Qv)) VP ((ZH n a0 a c d e f (K3 gtt [.tmp 4] Qv)).trans (by kernel_rfl))
def Xq (n:Nat):XH:=fun _ site g avs hl k=>match avs with
 | [c0,c1]=>prS g 5 c0 fun a0=>prF 50 c1 fun a=>(match a with
  | [b]=>prP hl b fun l0 c=>(match c with
  | [d,e,f,h,i]=>prT g d fun j=>prI g .i64 e fun l=>prI g .i64 f fun m=>prI g .i64 h fun o=>prI g .i64 i fun p=>
  bif UY hl [(1000000,l0)] [] then gb g (XJ n a0 j l m o p (fun q s r2 r3 t u=>some (q,s,r2,r3,t,u))) (0,[],0,0,0,0) fun r=>k ⟨.d (D.int .i64 r.1),[(l0,some (.box [.d (D.str r.2.1),.d (D.int .i64 r.2.2.1),.d (D.int .i64 r.2.2.2.1),.d (D.int .i64 r.2.2.2.2.1),.d (D.int .i64 r.2.2.2.2.2)]))],[l0]⟩ else none
  | _=>none)
  | _=>none)
 | _=>none
theorem WF (n:Nat):Qo Tryz.prog 74 (Xq n):=by
  intro R site g avs hl k r h
  unfold Xq at h
  split at h
  rotate_left
  · cases h
  obtain ⟨a0,h,i⟩:=Q1 h
  obtain ⟨u,h,j⟩:=Rc h
  split at h
  rotate_left
  · cases h
  obtain ⟨l0,v,h,l,m⟩:=YT h
  split at h
  rotate_left
  · cases h
  obtain ⟨a,h,o⟩:=VN h
  obtain ⟨b,h,p⟩:=Q2 h
  obtain ⟨c,h,q⟩:=Q2 h
  obtain ⟨d,h,s⟩:=Q2 h
  obtain ⟨e,h,t⟩:=Q2 h
  obtain ⟨hc,h⟩:=Xa h
  obtain ⟨res,h,hr⟩:=Qc h
  have hL:=h
  subst j l
  refine ⟨_,hL,fun hg=>Zl (K:=Qv) (res:=res) (WD n) (fn:=Tryz.f74) (n:=n) (by kernel_rfl) (by kernel_rfl) (by kernel_rfl) (ρ:=[(1000000,l0)]) (ν:=[]) (avs':=[.d (D.sl 5 a0),.fn 50 [.ptr 1000000 0]]) (H:=[(1000000,.box [.d (D.str a),.d (D.int .i64 b),.d (D.int .i64 c),.d (D.int .i64 d),.d (D.int .i64 e)])]) (.cons (.data rfl (i hg)) (.cons (.own rfl rfl) (.nil))) rfl rfl hc (⟨⟨by decide,_,_,m,rfl,.box (.cons (.data rfl (o hg)) (.cons (.data rfl (p hg)) (.cons (.data rfl (q hg)) (.cons (.data rfl (s hg)) (.cons (.data rfl (t hg)) (.nil))))))⟩,trivial⟩) rfl rfl ?_ ?_⟩
  · exact (Wy n a0 a b c d e).trans (hr hg)
  · intro av H' hx
    unfold Qv at hx
    simp only [Option.bind_eq_some_iff] at hx
    obtain ⟨o0,f,hx⟩:=hx
    split at hx
    rotate_left
    · cases hx
    injection hx with hx
    subst hx
    refine ⟨rfl,?_,trivial,⟨YI rfl f rfl,trivial⟩⟩
    simp only [List.cons_append,List.nil_append,K2,f,Option.map_some,Option.map_none]
    rfl
end Go.Vx
set_option maxRecDepth 100000
namespace Go.Vx
open Go.Proofs
noncomputable def ZU:Code:=Q8 Tryz.f49
def Yr (n:Nat):VC:=⟨QK [(74,Xq n)],gtt,[cO 0 [0,1] [1000000],cO 1 [4] [1000000]]⟩
theorem ZZ (n:Nat):VCOk Tryz.prog (Yr n):=gVC (Qe ⟨WF n,trivial⟩)
def X6:AV→List (Nat × Ob)→Option (Bool × (List UInt8) × Int × Int × Int × Int):=fun av H=>(look H 1000000).bind fun o0=>match av,o0 with
 | .d (D.bool a),.box [.d (D.str b),.d (D.int .i64 r2),.d (D.int .i64 r3),.d (D.int .i64 c),.d (D.int .i64 d)]=>some (a,b,r2,r3,c,d)
 | _,_=>none
theorem ZE (n:Nat) (a0:LL) (a:List UInt8) (b d e f:Int):vfn (Yr n) n Tryz.f49 [.d (D.sl 5 a0),.fn 50 [.ptr 1000000 0]] [(1000000,.box [.d (D.str a),.d (D.int .i64 b),.d (D.int .i64 d),.d (D.int .i64 e),.d (D.int .i64 f)])] X6=Xk n a0 a b d e f (fun g h r2 r3 i j=>some (g,h,r2,r3,i,j)):=
 (VP (c:=ZU) (m:=9) (tm:=[(0,dL 5 a0),(1,.fn 50 [.ptr 1000000 0])]) (rs:=[.tmp 4]) (tt:=gtt)).trans (by kernel_rfl)
def X8 (n:Nat):XH:=fun _ site g avs hl k=>match avs with
 | [c0,c1]=>prS g 5 c0 fun a0=>prF 50 c1 fun a=>(match a with
  | [b]=>prP hl b fun l0 c=>(match c with
  | [d,e,f,h,i]=>prT g d fun j=>prI g .i64 e fun l=>prI g .i64 f fun m=>prI g .i64 h fun o=>prI g .i64 i fun p=>
  bif UY hl [(1000000,l0)] [] then gb g (Xk n a0 j l m o p (fun q s r2 r3 t u=>some (q,s,r2,r3,t,u))) (false,[],0,0,0,0) fun r=>k ⟨.d (D.bool r.1),[(l0,some (.box [.d (D.str r.2.1),.d (D.int .i64 r.2.2.1),.d (D.int .i64 r.2.2.2.1),.d (D.int .i64 r.2.2.2.2.1),.d (D.int .i64 r.2.2.2.2.2)]))],[l0]⟩ else none
  | _=>none)
  | _=>none)
 | _=>none
theorem ZX (n:Nat):Qo Tryz.prog 49 (X8 n):=by
  intro R site g avs hl k r h
  unfold X8 at h
  split at h
  rotate_left
  · cases h
  obtain ⟨a0,h,i⟩:=Q1 h
  obtain ⟨u,h,j⟩:=Rc h
  split at h
  rotate_left
  · cases h
  obtain ⟨l0,v,h,l,m⟩:=YT h
  split at h
  rotate_left
  · cases h
  obtain ⟨a,h,o⟩:=VN h
  obtain ⟨b,h,p⟩:=Q2 h
  obtain ⟨c,h,q⟩:=Q2 h
  obtain ⟨d,h,s⟩:=Q2 h
  obtain ⟨e,h,t⟩:=Q2 h
  obtain ⟨hc,h⟩:=Xa h
  obtain ⟨res,h,hr⟩:=Qc h
  have hL:=h
  subst j l
  refine ⟨_,hL,fun hg=>Zl (K:=X6) (res:=res) (ZZ n) (fn:=Tryz.f49) (n:=n) (by kernel_rfl) (by kernel_rfl) (by kernel_rfl) (ρ:=[(1000000,l0)]) (ν:=[]) (avs':=[.d (D.sl 5 a0),.fn 50 [.ptr 1000000 0]]) (H:=[(1000000,.box [.d (D.str a),.d (D.int .i64 b),.d (D.int .i64 c),.d (D.int .i64 d),.d (D.int .i64 e)])]) (.cons (.data rfl (i hg)) (.cons (.own rfl rfl) (.nil))) rfl rfl hc (⟨⟨by decide,_,_,m,rfl,.box (.cons (.data rfl (o hg)) (.cons (.data rfl (p hg)) (.cons (.data rfl (q hg)) (.cons (.data rfl (s hg)) (.cons (.data rfl (t hg)) (.nil))))))⟩,trivial⟩) rfl rfl ?_ ?_⟩
  · exact (ZE n a0 a b c d e).trans (hr hg)
  · intro av H' hx
    unfold X6 at hx
    simp only [Option.bind_eq_some_iff] at hx
    obtain ⟨o0,f,hx⟩:=hx
    split at hx
    rotate_left
    · cases hx
    injection hx with hx
    subst hx
    refine ⟨rfl,?_,trivial,⟨YI rfl f rfl,trivial⟩⟩
    simp only [List.cons_append,List.nil_append,K2,f,Option.map_some,Option.map_none]
    rfl
end Go.Vx
set_option maxRecDepth 100000
namespace Go.Vx
open Go.Proofs
variable {R:Type}
noncomputable def Q3y:Code:=Q8 Tryz.f51
def DD (n:Nat):VC:=⟨QK [],gtt,[cO 0 [1] [1],cK 1 [2]]⟩
theorem Q3x (n:Nat):VCOk Tryz.prog (DD n):=gVC (Qe trivial)
theorem Q2o (n:Nat) (a:List UInt8) (b d e f:Int) (K:AV→Option R):vfn (DD n) n Tryz.f51 [.ag [.d (D.str a),.d (D.int .i64 b),.d (D.int .i64 d),.d (D.int .i64 e),.d (D.int .i64 f)]] [] (Wc [[0]] K)=WT n a b d e f (fun g=>K (.d (D.bool g))):=
 (VP (c:=Q3y) (m:=41) (tm:=[(0,.ag [dT a,dI b,dI d,dI e,dI f])]) (rs:=[.tmp 2]) (tt:=gtt)).trans (by kernel_rfl)
def Hw (n:Nat):XH:=fun _ _ g avs _ k=>match avs with
 | [c0]=>
  prG c0 fun l0=>(match l0 with
  | [a,b,c,d,e]=>prT g a fun f=>prI g .i64 b fun h=>prI g .i64 c fun i=>prI g .i64 d fun j=>prI g .i64 e fun l=>
  gb g (WT n f h i j l some) false fun r=>k ⟨.d (D.bool r),[],[]⟩
  | _=>none)
 | _=>none
theorem E9 (n:Nat):Qo Tryz.prog 51 (Hw n):=by
  intro R site g avs hl k r h
  unfold Hw at h
  split at h
  rotate_left
  · cases h
  obtain ⟨l0,h,f⟩:=Qq h
  split at h
  rotate_left
  · cases h
  obtain ⟨a,h,i⟩:=VN h
  obtain ⟨b,h,j⟩:=Q2 h
  obtain ⟨c,h,l⟩:=Q2 h
  obtain ⟨d,h,m⟩:=Q2 h
  obtain ⟨e,h,o⟩:=Q2 h
  obtain ⟨res,h,hr⟩:=Qc h
  have hL:=h
  subst f
  refine ⟨_,hL,fun hg=>QI.conv (avs':=[.ag [.d (D.str a),.d (D.int .i64 b),.d (D.int .i64 c),.d (D.int .i64 d),.d (D.int .i64 e)]]) (.cons (.ag (.cons (i hg) (.cons (j hg) (.cons (l hg) (.cons (m hg) (.cons (o hg) (.nil))))))) (.nil)) (QE (K:=kB) (res:=res) (Q3x n) (fn:=Tryz.f51) (n:=n) (ss:=[[0]]) ?_ ?_)⟩
  · exact (Q2o n a b c d e kB).trans (hr hg)
  · exact Da
noncomputable def HC:Code:=Q8 Tryz.f28
noncomputable def V3:Code:=cA [1,0,1,2,2] (Q8 Tryz.f28)
noncomputable def T0:Code:=cA [1,1] (Q8 Tryz.f28)
noncomputable def HY:Code:=cA [1,0,1,2,2,1,1,0] (Q8 Tryz.f28)
noncomputable def HV:Code:=cA [1,0,1,2,2,1,1,1] (Q8 Tryz.f28)
noncomputable def Me:Code:=cA [1,0,1,2,2,1,1,0,2,1] (Q8 Tryz.f28)
def Vd (a:LL) (b c d:Int) (e f g h i j k:LL):St:=⟨32,[(3,.ptr 3 0),(8,dL 5 a),(9,dI b),(10,dI c)],[(3,.box [dI d,dL 5 e,dL 2 f,dL 4 g,dL 7 h,dL 4 i,dL 5 j,dL 3 k])]⟩
def Zt (a:LL) (b c:Int) (d:Bool) (e:Int) (f g h i j k l:LL):St:=⟨32,[(3,.ptr 3 0),(8,dL 5 a),(9,dI b),(10,dI c),(11,dB d)],[(3,.box [dI e,dL 5 f,dL 2 g,dL 4 h,dL 7 i,dL 4 j,dL 5 k,dL 3 l])]⟩
def HR (a:LL) (b c:Int) (d:Bool) (e:Int) (f g h i j k l:LL):St:=⟨32,[(3,.ptr 3 0),(8,dL 5 a),(9,dI b),(10,dI c),(27,dB d)],[(3,.box [dI e,dL 5 f,dL 2 g,dL 4 h,dL 7 i,dL 4 j,dL 5 k,dL 3 l])]⟩
def QA (n:Nat):VC:=⟨QK [(48,Rp n),(49,X8 n),(51,Hw n)],gtt,[cO 0 [3] [3],cO 1 [3,8,9,10] [3],cO 2 [3,8,9,10,11] [3],cO 3 [3,5,6,8,9,10] [3,6],cO 4 [3,5,6,8,9,10,15] [3,6],cK 5 [4],cO 6 [3,6,8,9,10,20] [3,6],cK 7 [4],cO 8 [3,8,9,10,27] [3],cK 9 [4],cO 10 [3,8,9,10] [3],cK 11 [4]]⟩
theorem Q0Q (n:Nat):VCOk Tryz.prog (QA n):=gVC (Qe ⟨Dg n,⟨ZX n,⟨E9 n,trivial⟩⟩⟩)
theorem DN (n:Nat) (i j l m:LL) (b:Int) (a c d e f g h:LL) (k:Exit→St→Option R):Qi (QA n) n HC ⟨32,[(0,.ag [dL 1 i,dL 1 j,dL 5 l,dL 6 m]),(1,.ag [dI b,dL 5 a,dL 2 c,dL 4 d,dL 7 e,dL 4 f,dL 5 g,dL 3 h])],[]⟩ k=HM n i j l m b a c d e f g h (fun o=>X7 (lB (QA n) n V3) n ⟨32,[(3,.ptr 3 0),(8,dL 5 a),(9,dI o),(10,dI (0:Int))],[(3,.box [dI b,dL 5 a,dL 2 c,dL 4 d,dL 7 e,dL 4 f,dL 5 g,dL 3 h])]⟩ (Q9 0 (Xf (QA n) n T0 k))):=by kernel_rfl
theorem Ci (n:Nat) (a:LL) (b c d:Int) (e f g h i j:LL) (k:Exit→St→Option R):Qi (QA n) n V3 (Vd a b c d a e f g h i j) k=T3 n a b c d e f g h i j (fun l=>Qi (QA n) n HY (Zt a b c l d a e f g h i j) (Xf (QA n) n HV k)) (fun m=>k (.exit 0) (Zt a b c m d a e f g h i j)):=by kernel_rfl
theorem C4 (n:Nat) (a:LL) (c b:Int) (l:Bool) (d:Int) (e f g h i j:LL) (k:Exit→St→Option R):Qi (QA n) n HY (Zt a c b l d a e f g h i j) k=HN n a c b l d e f g h i j (fun m o p q r=>Qi (QA n) n Me ⟨32,[(3,.ptr 3 0),(5,dI b),(6,.ptr 6 0),(8,dL 5 a),(9,dI c),(10,dI b)],[(3,.box [dI d,dL 5 a,dL 2 e,dL 4 f,dL 7 g,dL 4 h,dL 5 i,dL 3 j]),(6,.box [.d m,.d o,.d p,.d q,.d r])]⟩ (Q9 1 k)):=by kernel_rfl
theorem Cc (n:Nat) (b:Int) (a:LL) (c d:Int) (e f g h i j:LL) (l m o p q:D) (k:Exit→St→Option R):Qi (QA n) n Me ⟨32,[(3,.ptr 3 0),(5,dI b),(6,.ptr 6 0),(8,dL 5 a),(9,dI c),(10,dI b)],[(3,.box [dI d,dL 5 a,dL 2 e,dL 4 f,dL 7 g,dL 4 h,dL 5 i,dL 3 j]),(6,.box [.d l,.d m,.d o,.d p,.d q])]⟩ k=Mm n b a c d e f g h i j l m o p q (fun r=>k .ret ⟨32,[(4,dI r)],[]⟩) (fun s=>k .normal (HR a c b s d a e f g h i j)):=by kernel_rfl
theorem Co (n:Nat) (a:LL) (b c:Int) (l:Bool) (d:Int) (e f g h i j:LL) (k:Exit→St→Option R):Qi (QA n) n HY (Zt a b c l d a e f g h i j) k=HK n a b c l d e f g h i j (fun m=>k .ret ⟨32,[(4,dI m)],[]⟩) (fun o=>k .normal (HR a b c o d a e f g h i j)):=
 (C4 n a b c l d e f g h i j k).trans (cg1 (fun p=>HN n a b c l d e f g h i j p ) (funext fun q=>funext fun r=>funext fun s=>funext fun t=>funext fun u=>(Cc n c a b d e f g h i j q r s t u (Q9 1 k))))
theorem DZ (n:Nat) (a:LL) (b j:Int) (l:Bool) (c:Int) (d e f g h i:LL) (k:Exit→St→Option R):(Xf (QA n) n HV k) .normal (HR a b j l c a d e f g h i)=Mi n a b j l c d e f g h i (fun m=>k .normal (Vd a b m c a d e f g h i)):=by kernel_rfl
theorem C0 (n:Nat) (a:LL) (b j c:Int) (d e f g h i:LL) (k:Exit→St→Option R):Qi (QA n) n V3 (Vd a b j c a d e f g h i) k=HB n a b j c d e f g h i (fun p=>k .ret ⟨32,[(4,dI p)],[]⟩) (fun q=>k .normal (Vd a b q c a d e f g h i)) (fun r=>k (.exit 0) (Zt a b j r c a d e f g h i)):=
 (Ci n a b j c d e f g h i k).trans (cg2 (fun l m=>T3 n a b j c d e f g h i l m ) (funext fun o=>(Co n a b j o c d e f g h i (Xf (QA n) n HV k)).trans (cg2 (fun l m=>HK n a b j o c d e f g h i l m ) rfl (funext fun s=>(DZ n a b j s c d e f g h i k)))) rfl)
theorem Sg (n:Nat) (a:LL) (c d:Int) (e f g h i j:LL) (k:Exit→St→Option R):∀ (m:Nat) (b:Int),X7 (lB (QA n) n V3) m (Vd a c b d a e f g h i j) k=JK n a c d e f g h i j (fun l=>k .ret ⟨32,[(4,dI l)],[]⟩) (fun b o=>k (.exit 0) (Zt a c b o d a e f g h i j)) m b
 | 0,_=>rfl
 | m+1,b=>(lS (by kernel_rfl) m k).trans ((C0 n a c b d e f g h i j (WB (lB (QA n) n V3) m k)).trans (cg3 (fun p q r=>HB n a c b d e f g h i j p q r ) rfl (funext fun s=>Sg n a c d e f g h i j k m s) rfl))
theorem Cg (n:Nat) (a:LL) (b c:Int) (d:Bool) (e:Int) (f g h i j l:LL) (k:Exit→St→Option R):(Q9 0 (Xf (QA n) n T0 k)) (.exit 0) (Zt a b c d e a f g h i j l)=Mp n a b c d e f g h i j l (k .ret ⟨32,[(4,dI (0:Int))],[]⟩):=by kernel_rfl
theorem Ev (n:Nat) (i j l m:LL) (a:Int) (b c d e f g h:LL) (k:Exit→St→Option R):Qi (QA n) n HC ⟨32,[(0,.ag [dL 1 i,dL 1 j,dL 5 l,dL 6 m]),(1,.ag [dI a,dL 5 b,dL 2 c,dL 4 d,dL 7 e,dL 4 f,dL 5 g,dL 3 h])],[]⟩ k=Nw n i j l m a b c d e f g h (fun q=>k .ret ⟨32,[(4,dI q)],[]⟩):=
 (DN n i j l m a b c d e f g h k).trans (cg1 (fun o=>HM n i j l m a b c d e f g h o ) (funext fun p=>(Sg n b p a c d e f g h (Q9 0 (Xf (QA n) n T0 k)) n (0:Int)).trans (cg2 (fun o r=>JK n b p a c d e f g h o r n (0:Int)) rfl (funext fun s=>funext fun t=>(Cg n b p s t a c d e f g h k)))))
theorem Ap (n:Nat) (a c d e:LL) (f:Int) (g h i j k l m:LL) (K:AV→Option R):vfn (QA n) n Tryz.f28 [.ag [.d (D.sl 1 a),.d (D.sl 1 c),.d (D.sl 5 d),.d (D.sl 6 e)],.ag [.d (D.int .i64 f),.d (D.sl 5 g),.d (D.sl 2 h),.d (D.sl 4 i),.d (D.sl 7 j),.d (D.sl 4 k),.d (D.sl 5 l),.d (D.sl 3 m)]] [] (Wc [[0]] K)=Um n a c d e f g h i j k l m (fun o=>K (.d (D.int .i64 o))):=
 Eq.trans (b:=Qi (QA n) n HC ⟨32,[(0,.ag [dL 1 a,dL 1 c,dL 5 d,dL 6 e]),(1,.ag [dI f,dL 5 g,dL 2 h,dL 4 i,dL 7 j,dL 4 k,dL 5 l,dL 3 m])],[]⟩ (K3 gtt [.tmp 4] (Wc [[0]] K))) VP ((Ev n a c d e f g h i j k l m (K3 gtt [.tmp 4] (Wc [[0]] K))).trans (by kernel_rfl))
def TS (n:Nat):XH:=fun _ _ g avs _ k=>match avs with
 | [c0,c1]=>
  prG c0 fun l0=>(match l0 with
  | [a,b,c,d]=>prS g 1 a fun e=>prS g 1 b fun f=>prS g 5 c fun h=>prS g 6 d fun i=>
  prG c1 fun l1=>(match l1 with
  | [j,l,m,o,p,q,s,t]=>prI g .i64 j fun u=>prS g 5 l fun v=>prS g 2 m fun w=>prS g 4 o fun x=>prS g 7 p fun y=>prS g 4 q fun z=>prS g 5 s fun aa=>prS g 3 t fun ab=>
  gb g (Um n e f h i u v w x y z aa ab some) 0 fun r=>k ⟨.d (D.int .i64 r),[],[]⟩
  | _=>none)
  | _=>none)
 | _=>none
theorem Q0z (n:Nat):Qo Tryz.prog 28 (TS n):=by
  intro R site g avs hl k r h
  unfold TS at h
  split at h
  rotate_left
  · cases h
  obtain ⟨l0,h,q⟩:=Qq h
  split at h
  rotate_left
  · cases h
  obtain ⟨a,h,s⟩:=Q1 h
  obtain ⟨b,h,t⟩:=Q1 h
  obtain ⟨c,h,u⟩:=Q1 h
  obtain ⟨d,h,v⟩:=Q1 h
  obtain ⟨l1,h,e1⟩:=Qq h
  split at h
  rotate_left
  · cases h
  obtain ⟨e,h,w⟩:=Q2 h
  obtain ⟨f,h,x⟩:=Q1 h
  obtain ⟨i,h,y⟩:=Q1 h
  obtain ⟨j,h,z⟩:=Q1 h
  obtain ⟨l,h,aa⟩:=Q1 h
  obtain ⟨m,h,ab⟩:=Q1 h
  obtain ⟨o,h,ac⟩:=Q1 h
  obtain ⟨p,h,ad⟩:=Q1 h
  obtain ⟨res,h,hr⟩:=Qc h
  have hL:=h
  subst q e1
  refine ⟨_,hL,fun hg=>QI.conv (avs':=[.ag [.d (D.sl 1 a),.d (D.sl 1 b),.d (D.sl 5 c),.d (D.sl 6 d)],.ag [.d (D.int .i64 e),.d (D.sl 5 f),.d (D.sl 2 i),.d (D.sl 4 j),.d (D.sl 7 l),.d (D.sl 4 m),.d (D.sl 5 o),.d (D.sl 3 p)]]) (.cons (.ag (.cons (s hg) (.cons (t hg) (.cons (u hg) (.cons (v hg) (.nil)))))) (.cons (.ag (.cons (w hg) (.cons (x hg) (.cons (y hg) (.cons (z hg) (.cons (aa hg) (.cons (ab hg) (.cons (ac hg) (.cons (ad hg) (.nil)))))))))) (.nil))) (QE (K:=kI) (res:=res) (Q0Q n) (fn:=Tryz.f28) (n:=n) (ss:=[[0]]) ?_ ?_)⟩
  · exact (Ap n a b c d e f i j l m o p kI).trans (hr hg)
  · exact NW

noncomputable def Q65:Code:=Q8 Tryz.f105
def AJ (n:Nat):VC:=⟨QK [],gtt,[cO 0 [2,3] [2,3],cK 1 [4]]⟩
theorem Q5y (n:Nat):VCOk Tryz.prog (AJ n):=gVC (Qe trivial)
theorem Q48 (n:Nat) (a b d e:LL) (f g:Int) (K:AV→Option R):vfn (AJ n) n Tryz.f105 [.ag [.d (D.sl 1 a),.d (D.sl 1 b),.d (D.sl 5 d),.d (D.sl 6 e)],.ag [.d (D.int .i64 f),.d (D.int .i64 g)]] [] (Wc [[0]] K)=LP n a b d e f g (fun h=>K (.d (D.bool h))):=
 (VP (c:=Q65) (m:=26) (tm:=[(0,.ag [dL 1 a,dL 1 b,dL 5 d,dL 6 e]),(1,.ag [dI f,dI g])]) (rs:=[.tmp 4]) (tt:=gtt)).trans (by kernel_rfl)
def LX (n:Nat):XH:=fun _ _ g avs _ k=>match avs with
 | [c0,c1]=>
  prG c0 fun l0=>(match l0 with
  | [a,b,c,d]=>prS g 1 a fun e=>prS g 1 b fun f=>prS g 5 c fun h=>prS g 6 d fun i=>
  prG c1 fun l1=>(match l1 with
  | [j,l]=>prI g .i64 j fun m=>prI g .i64 l fun o=>
  gb g (LP n e f h i m o some) false fun r=>k ⟨.d (D.bool r),[],[]⟩
  | _=>none)
  | _=>none)
 | _=>none
theorem Q66 (n:Nat):Qo Tryz.prog 105 (LX n):=by
  intro R site g avs hl k r h
  unfold LX at h
  split at h
  rotate_left
  · cases h
  obtain ⟨l0,h,i⟩:=Qq h
  split at h
  rotate_left
  · cases h
  obtain ⟨a,h,j⟩:=Q1 h
  obtain ⟨b,h,l⟩:=Q1 h
  obtain ⟨c,h,m⟩:=Q1 h
  obtain ⟨d,h,o⟩:=Q1 h
  obtain ⟨l1,h,e1⟩:=Qq h
  split at h
  rotate_left
  · cases h
  obtain ⟨e,h,p⟩:=Q2 h
  obtain ⟨f,h,q⟩:=Q2 h
  obtain ⟨res,h,hr⟩:=Qc h
  have hL:=h
  subst i e1
  refine ⟨_,hL,fun hg=>QI.conv (avs':=[.ag [.d (D.sl 1 a),.d (D.sl 1 b),.d (D.sl 5 c),.d (D.sl 6 d)],.ag [.d (D.int .i64 e),.d (D.int .i64 f)]]) (.cons (.ag (.cons (j hg) (.cons (l hg) (.cons (m hg) (.cons (o hg) (.nil)))))) (.cons (.ag (.cons (p hg) (.cons (q hg) (.nil)))) (.nil))) (QE (K:=kB) (res:=res) (Q5y n) (fn:=Tryz.f105) (n:=n) (ss:=[[0]]) ?_ ?_)⟩
  · exact (Q48 n a b c d e f kB).trans (hr hg)
  · exact Da

noncomputable def Q4f:Code:=Q8 Tryz.f116
def CU (n:Nat):VC:=⟨QK [],gtt,[cO 0 [1,2] [1,2],cO 1 [1,2,5] [1,2],cO 2 [2] [2],cO 3 [2] [2]]⟩
theorem Q4B (n:Nat):VCOk Tryz.prog (CU n):=gVC (Qe trivial)
theorem Q3g (n:Nat) (a b:Int) (K:AV→Option R):vfn (CU n) n Tryz.f116 [.ag [.d (D.int .i64 a),.d (D.int .i64 b)]] [] (Wc [[0,0]] K)=NH n a b (fun d e=>K (.ag [.d (D.int .i64 d),.d (D.int .i64 e)])):=
 (VP (c:=Q4f) (m:=12) (tm:=[(0,.ag [dI a,dI b])]) (rs:=[.cell 2 190]) (tt:=gtt)).trans (by kernel_rfl)
def L3:AV→Option (Int × Int):=fun av=>match av with
 | .ag [.d (D.int .i64 a),.d (D.int .i64 b)]=>some (a,b)
 | _=>none
def MW (n:Nat):XH:=fun _ _ g avs _ k=>match avs with
 | [c0]=>
  prG c0 fun l0=>(match l0 with
  | [a,b]=>prI g .i64 a fun c=>prI g .i64 b fun d=>
  gb g (NH n c d (fun e f=>some (e,f))) (0,0) fun r=>k ⟨.ag [.d (D.int .i64 r.1),.d (D.int .i64 r.2)],[],[]⟩
  | _=>none)
 | _=>none
theorem Q4x (n:Nat):Qo Tryz.prog 116 (MW n):=by
  intro R site g avs hl k r h
  unfold MW at h
  split at h
  rotate_left
  · cases h
  obtain ⟨l0,h,c⟩:=Qq h
  split at h
  rotate_left
  · cases h
  obtain ⟨a,h,d⟩:=Q2 h
  obtain ⟨b,h,e⟩:=Q2 h
  obtain ⟨res,h,hr⟩:=Qc h
  have hL:=h
  subst c
  refine ⟨_,hL,fun hg=>QI.conv (avs':=[.ag [.d (D.int .i64 a),.d (D.int .i64 b)]]) (.cons (.ag (.cons (d hg) (.cons (e hg) (.nil)))) (.nil)) (QE (K:=L3) (res:=res) (Q4B n) (fn:=Tryz.f116) (n:=n) (ss:=[[0,0]]) ?_ ?_)⟩
  · exact (Q3g n a b L3).trans (hr hg)
  · intro x hx
    unfold L3 at hx
    split at hx
    · injection hx with hx;subst hx;rfl
    · cases hx

noncomputable def Q3l:Code:=Q8 Tryz.f117
def Dv (n:Nat):VC:=⟨QK [],gtt,[cO 0 [1,2] [1,2],cO 1 [1,2,5] [1,2],cO 2 [2] [2],cO 3 [2] [2]]⟩
theorem Q2S (n:Nat):VCOk Tryz.prog (Dv n):=gVC (Qe trivial)
theorem Q1M (n:Nat) (a b:Int) (K:AV→Option R):vfn (Dv n) n Tryz.f117 [.ag [.d (D.int .i64 a),.d (D.int .i64 b)]] [] (Wc [[0,0]] K)=Fd n a b (fun d e=>K (.ag [.d (D.int .i64 d),.d (D.int .i64 e)])):=
 (VP (c:=Q3l) (m:=12) (tm:=[(0,.ag [dI a,dI b])]) (rs:=[.cell 2 101]) (tt:=gtt)).trans (by kernel_rfl)
def N6:AV→Option (Int × Int):=fun av=>match av with
 | .ag [.d (D.int .i64 a),.d (D.int .i64 b)]=>some (a,b)
 | _=>none
def Nu (n:Nat):XH:=fun _ _ g avs _ k=>match avs with
 | [c0]=>
  prG c0 fun l0=>(match l0 with
  | [a,b]=>prI g .i64 a fun c=>prI g .i64 b fun d=>
  gb g (Fd n c d (fun e f=>some (e,f))) (0,0) fun r=>k ⟨.ag [.d (D.int .i64 r.1),.d (D.int .i64 r.2)],[],[]⟩
  | _=>none)
 | _=>none
theorem Q2U (n:Nat):Qo Tryz.prog 117 (Nu n):=by
  intro R site g avs hl k r h
  unfold Nu at h
  split at h
  rotate_left
  · cases h
  obtain ⟨l0,h,c⟩:=Qq h
  split at h
  rotate_left
  · cases h
  obtain ⟨a,h,d⟩:=Q2 h
  obtain ⟨b,h,e⟩:=Q2 h
  obtain ⟨res,h,hr⟩:=Qc h
  have hL:=h
  subst c
  refine ⟨_,hL,fun hg=>QI.conv (avs':=[.ag [.d (D.int .i64 a),.d (D.int .i64 b)]]) (.cons (.ag (.cons (d hg) (.cons (e hg) (.nil)))) (.nil)) (QE (K:=N6) (res:=res) (Q2S n) (fn:=Tryz.f117) (n:=n) (ss:=[[0,0]]) ?_ ?_)⟩
  · exact (Q1M n a b N6).trans (hr hg)
  · intro x hx
    unfold N6 at hx
    split at hx
    · injection hx with hx;subst hx;rfl
    · cases hx

noncomputable def HI:Code:=Q8 Tryz.f106
noncomputable def JN:Code:=cA [1,1,0,1,2,2] (Q8 Tryz.f106)
noncomputable def HU:Code:=cA [1,1,1] (Q8 Tryz.f106)
def HL (a b c d:LL) (e f g h:Int):St:=⟨57,[(0,.ag [dL 1 a,dL 1 b,dL 5 c,dL 6 d]),(1,.ag [dI e,dI f]),(2,.ag [dI g,dI h])],[]⟩
def T1 (a:LL) (b c d e f g:Int):St:=⟨57,[(8,.ptr 8 0),(9,.ptr 9 0),(20,dL 6 a),(21,dI b),(22,dI c)],[(8,.box [dI d,dI e]),(9,.box [dI f,dI g])]⟩
def HO (a:LL) (b c:Int) (d:Bool) (e f g h:Int):St:=⟨57,[(8,.ptr 8 0),(9,.ptr 9 0),(20,dL 6 a),(21,dI b),(22,dI c),(23,dB d)],[(8,.box [dI e,dI f]),(9,.box [dI g,dI h])]⟩
def Y6 (n:Nat):VC:=⟨QK [(116,MW n),(117,Nu n)],gtt,[cO 0 [3,4,5] [3,4,5],cO 1 [3,8,9] [3,8,9],cO 2 [8,9,20,21,22] [8,9],cO 3 [8,9,20,21,22,23] [8,9],cO 4 [8,9,11,20,21,22] [8,9,11],cO 5 [8,9,11,12,13,20,21,22] [8,9,11,12,13],cO 6 [8,9,11,20,21,22,53] [8,9,11],cK 7 [6,7],cO 8 [8,9,20,21,22] [8,9],cK 9 [6,7]]⟩
theorem Q03 (n:Nat):VCOk Tryz.prog (Y6 n):=gVC (Qe ⟨Q4x n,⟨Q2U n,trivial⟩⟩)
theorem C8 (n:Nat) (b c d a:LL) (e f g h:Int) (k:Exit→St→Option R):Qi (Y6 n) n HI (HL b c d a e f g h) k=HZ n b c d a e f g h (fun i j l m o=>X7 (lB (Y6 n) n JN) n ⟨57,[(8,.ptr 8 0),(9,.ptr 9 0),(20,dL 6 a),(21,dI i),(22,dI (0:Int))],[(8,.box [dI j,dI l]),(9,.box [dI m,dI o])]⟩ (Q9 0 (Xf (Y6 n) n HU k))):=by kernel_rfl
theorem C5 (n:Nat) (a:LL) (b g c d e f:Int) (k:Exit→St→Option R):Qi (Y6 n) n JN (T1 a b g c d e f) k=HQ n a b g c d e f (fun h=>k .ret ⟨57,[(6,dI h),(7,dB true)],[]⟩) (fun i=>k .normal (T1 a b i c d e f)) (fun j=>k (.exit 0) (HO a b g j c d e f)):=by kernel_rfl
theorem Si (n:Nat) (b:LL) (c d e f g:Int) (k:Exit→St→Option R):∀ (m:Nat) (a:Int),X7 (lB (Y6 n) n JN) m (T1 b c a d e f g) k=JJ n b c d e f g (fun h=>k .ret ⟨57,[(6,dI h),(7,dB true)],[]⟩) (fun a i=>k (.exit 0) (HO b c a i d e f g)) m a
 | 0,_=>rfl
 | m+1,a=>(lS (by kernel_rfl) m k).trans ((C5 n b c a d e f g (WB (lB (Y6 n) n JN) m k)).trans (cg3 (fun j l o=>HQ n b c a d e f g j l o ) rfl (funext fun p=>Si n b c d e f g k m p) rfl))
theorem Ca (n:Nat) (a:LL) (b c:Int) (d:Bool) (e f g h:Int) (k:Exit→St→Option R):(Q9 0 (Xf (Y6 n) n HU k)) (.exit 0) (HO a b c d e f g h)=MH n a b c d e f g h (k .ret ⟨57,[(6,dI (0:Int)),(7,dB false)],[]⟩):=by kernel_rfl
theorem DL (n:Nat) (b c d a:LL) (e f g h:Int) (k:Exit→St→Option R):Qi (Y6 n) n HI (HL b c d a e f g h) k=Ma n b c d a e f g h (fun q r=>k .ret ⟨57,[(6,dI q),(7,dB r)],[]⟩):=
 (C8 n b c d a e f g h k).trans (cg1 (fun i=>HZ n b c d a e f g h i ) (funext fun j=>funext fun l=>funext fun m=>funext fun o=>funext fun p=>(Si n a j l m o p (Q9 0 (Xf (Y6 n) n HU k)) n (0:Int)).trans (cg2 (fun i s=>JJ n a j l m o p i s n (0:Int)) rfl (funext fun t=>funext fun u=>(Ca n a j t u l m o p k)))))
theorem Av (n:Nat) (a c d e:LL) (f g h i:Int) (K:AV→Option R):vfn (Y6 n) n Tryz.f106 [.ag [.d (D.sl 1 a),.d (D.sl 1 c),.d (D.sl 5 d),.d (D.sl 6 e)],.ag [.d (D.int .i64 f),.d (D.int .i64 g)],.ag [.d (D.int .i64 h),.d (D.int .i64 i)]] [] (Wc [[0],[0]] K)=G4 n a c d e f g h i (fun j k=>K (.tup [.d (D.int .i64 j),.d (D.bool k)])):=
 Eq.trans (b:=Qi (Y6 n) n HI (HL a c d e f g h i) (K3 gtt [.tmp 6,.tmp 7] (Wc [[0],[0]] K))) VP ((DL n a c d e f g h i (K3 gtt [.tmp 6,.tmp 7] (Wc [[0],[0]] K))).trans (by kernel_rfl))
def Pp:AV→Option (Int × Bool):=fun av=>match av with
 | .tup [.d (D.int .i64 a),.d (D.bool b)]=>some (a,b)
 | _=>none
def Pl (n:Nat):XH:=fun _ _ g avs _ k=>match avs with
 | [c0,c1,a]=>
  prG c0 fun l0=>(match l0 with
  | [b,c,d,e]=>prS g 1 b fun f=>prS g 1 c fun h=>prS g 5 d fun i=>prS g 6 e fun j=>
  prG c1 fun l1=>(match l1 with
  | [l,m]=>prI g .i64 l fun o=>prI g .i64 m fun p=>
  prG a fun l2=>(match l2 with
  | [q,s]=>prI g .i64 q fun t=>prI g .i64 s fun u=>
  gb g (G4 n f h i j o p t u (fun v w=>some (v,w))) (0,false) fun r=>k ⟨.tup [.d (D.int .i64 r.1),.d (D.bool r.2)],[],[]⟩
  | _=>none)
  | _=>none)
  | _=>none)
 | _=>none
theorem Q04 (n:Nat):Qo Tryz.prog 106 (Pl n):=by
  intro R site g avs hl k r h
  unfold Pl at h
  split at h
  rotate_left
  · cases h
  obtain ⟨l0,h,l⟩:=Qq h
  split at h
  rotate_left
  · cases h
  obtain ⟨a,h,m⟩:=Q1 h
  obtain ⟨b,h,o⟩:=Q1 h
  obtain ⟨c,h,p⟩:=Q1 h
  obtain ⟨d,h,q⟩:=Q1 h
  obtain ⟨l1,h,e1⟩:=Qq h
  split at h
  rotate_left
  · cases h
  obtain ⟨e,h,s⟩:=Q2 h
  obtain ⟨f,h,t⟩:=Q2 h
  obtain ⟨l2,h,e2⟩:=Qq h
  split at h
  rotate_left
  · cases h
  obtain ⟨i,h,u⟩:=Q2 h
  obtain ⟨j,h,v⟩:=Q2 h
  obtain ⟨res,h,hr⟩:=Qc h
  have hL:=h
  subst l e1 e2
  refine ⟨_,hL,fun hg=>QI.conv (avs':=[.ag [.d (D.sl 1 a),.d (D.sl 1 b),.d (D.sl 5 c),.d (D.sl 6 d)],.ag [.d (D.int .i64 e),.d (D.int .i64 f)],.ag [.d (D.int .i64 i),.d (D.int .i64 j)]]) (.cons (.ag (.cons (m hg) (.cons (o hg) (.cons (p hg) (.cons (q hg) (.nil)))))) (.cons (.ag (.cons (s hg) (.cons (t hg) (.nil)))) (.cons (.ag (.cons (u hg) (.cons (v hg) (.nil)))) (.nil)))) (QE (K:=Pp) (res:=res) (Q03 n) (fn:=Tryz.f106) (n:=n) (ss:=[[0],[0]]) ?_ ?_)⟩
  · exact (Av n a b c d e f i j Pp).trans (hr hg)
  · intro x hx
    unfold Pp at hx
    split at hx
    · injection hx with hx;subst hx;rfl
    · cases hx

noncomputable def MY:Code:=Q8 Tryz.f75
noncomputable def L4:Code:=cA [1,0] (Q8 Tryz.f75)
noncomputable def L0:Code:=cA [1,1] (Q8 Tryz.f75)
noncomputable def B4:Code:=cA [1,0,2,1,4,0] (Q8 Tryz.f75)
noncomputable def MX:Code:=cA [1,0,2,1,4,1] (Q8 Tryz.f75)
noncomputable def Cs:Code:=cA [1,0,2,1,4,1,4,0] (Q8 Tryz.f75)
noncomputable def M8:Code:=cA [1,0,2,1,4,1,4,1] (Q8 Tryz.f75)
noncomputable def Tq:Code:=cA [1,1,0,1,2,2] (Q8 Tryz.f75)
noncomputable def MM:Code:=cA [1,1,1] (Q8 Tryz.f75)
noncomputable def TI:Code:=cA [1,1,1,1,0,1,2,2] (Q8 Tryz.f75)
noncomputable def Np:Code:=cA [1,1,1,1,1] (Q8 Tryz.f75)
noncomputable def Hs:Code:=cA [1,1,1,1,1,1,0,1,2,2] (Q8 Tryz.f75)
noncomputable def Ht:Code:=cA [1,1,1,1,1,1,1] (Q8 Tryz.f75)
def L7 (a b c d e:LL) (f:Int):St:=⟨100,[(2,.ptr 2 0),(3,.ptr 3 0)],[(2,.box [dL 1 a,dL 1 b,dL 5 c,dL 6 d]),(3,.box [dL 2 e,dI f])]⟩
def Pr (a:Bool) (b c d e f:LL) (g:Int):St:=⟨100,[(2,.ptr 2 0),(3,.ptr 3 0),(20,dB a)],[(2,.box [dL 1 b,dL 1 c,dL 5 d,dL 6 e]),(3,.box [dL 2 f,dI g])]⟩
def K7 (a:Bool) (b c d e f:LL) (g:Int):St:=⟨100,[(2,.ptr 2 0),(3,.ptr 3 0),(28,dB a)],[(2,.box [dL 1 b,dL 1 c,dL 5 d,dL 6 e]),(3,.box [dL 2 f,dI g])]⟩
def Mw  : St:=⟨100,[(4,.nil),(5,dI (4:Int))],[]⟩
def Ms (a:LL) (b c:Int) (d e f g h:LL) (i:Int):St:=⟨100,[(2,.ptr 2 0),(3,.ptr 3 0),(40,dL 2 a),(41,dI b),(42,dI c)],[(2,.box [dL 1 d,dL 1 e,dL 5 f,dL 6 g]),(3,.box [dL 2 h,dI i])]⟩
def MN (a:LL) (b c:Int) (d:Bool) (e f g h i:LL) (j:Int):St:=⟨100,[(2,.ptr 2 0),(3,.ptr 3 0),(40,dL 2 a),(41,dI b),(42,dI c),(43,dB d)],[(2,.box [dL 1 e,dL 1 f,dL 5 g,dL 6 h]),(3,.box [dL 2 i,dI j])]⟩
def Mt (a:LL) (b c:Int) (d e f g h:LL) (i:Int) (j:LL):St:=⟨100,[(2,.ptr 2 0),(3,.ptr 3 0),(8,.arr 54),(56,dL 2 a),(57,dI b),(58,dI c)],[(2,.box [dL 1 d,dL 1 e,dL 5 f,dL 6 g]),(3,.box [dL 2 h,dI i]),(54,.arr 4 1 j)]⟩
def L9 (a:LL) (b c:Int) (d:Bool) (e f g h i:LL) (j:Int) (k:LL):St:=⟨100,[(2,.ptr 2 0),(3,.ptr 3 0),(8,.arr 54),(56,dL 2 a),(57,dI b),(58,dI c),(59,dB d)],[(2,.box [dL 1 e,dL 1 f,dL 5 g,dL 6 h]),(3,.box [dL 2 i,dI j]),(54,.arr 4 1 k)]⟩
def ML (a:LL) (b c:Int) (d:Bool) (e f g h i:LL) (j:Int) (k:LL):St:=⟨100,[(2,.ptr 2 0),(3,.ptr 3 0),(11,.arr 1011),(74,dL 2 a),(75,dI b),(76,dI c),(77,dB d)],[(2,.box [dL 1 e,dL 1 f,dL 5 g,dL 6 h]),(3,.box [dL 2 i,dI j]),(1011,.arr 3 1 k)]⟩
def Bh (a:LL):St:=⟨100,[(4,.arr 1011),(5,dI (0:Int))],[(1011,.arr 3 1 a)]⟩
def Qh (n:Nat):VC:=⟨QK [(47,Rh n),(105,LX n),(106,Pl n)],gtt,[cO 0 [2,3] [2,3],cO 1 [2,3,16] [2,3],cK 2 [4,5],cO 3 [2,3,20] [2,3],cO 4 [2,3,20] [2,3],cK 5 [4,5],cO 6 [2,3,28] [2,3],cO 7 [2,3,28] [2,3],cK 8 [4,5],cO 9 [2,3,40,41,42] [2,3],cO 10 [2,3,40,41,42,43] [2,3],cO 11 [2,3,7,40,41,42] [2,3,7],cO 12 [2,3,40,41,42,49] [2,3],cK 13 [4,5],cO 14 [2,3,40,41,42] [2,3],cO 15 [2,3,8] [2,3,54],cO 16 [2,3,8,56,57,58] [2,3,54],cO 17 [2,3,8,56,57,58,59] [2,3,54],cO 18 [2,3,8,10,56,57,58] [2,3,10,54],cO 19 [2,3,8,10,56,57,58,66] [2,3,10,54],cK 20 [4,5],cO 21 [2,3,8,56,57,58] [2,3,54],cO 22 [2,3,8,56,57,58] [2,3,54],cO 23 [2,3,11] [2,3],(24,⟨[2,3,11,74,75,76],[(2,2),(3,3)],[(11,1011,3,1)],[],[]⟩),cO 25 [2,3,11,74,75,76,77] [2,3,1011],cO 26 [2,3,11,12,13,74,75,76] [2,3,13,1011],cO 27 [2,3,11,14,15,74,75,76] [2,3,1011],cO 28 [2,3,11,14,74,75,76,93] [2,3,1011],cK 29 [4,5],cO 30 [2,3,11,74,75,76] [2,3,97],cO 31 [2,3,11,74,75,76] [2,3,97],cO 32 [4,5] [1011],(3000000025,⟨[2,3,11,74,75,76],(zp [2,3,97,1011] [2,3,1011,1011]),[],[],[]⟩)]⟩
theorem Q6z (n:Nat):VCOk Tryz.prog (Qh n):=gVC (Qe ⟨B1 n,⟨Q66 n,⟨Q04 n,trivial⟩⟩⟩)
theorem Q1H (n:Nat) (a b c d e:LL) (f:Int) (k:Exit→St→Option R):Qi (Qh n) n MY ⟨100,[(0,.ag [dL 1 a,dL 1 b,dL 5 c,dL 6 d]),(1,.ag [dL 2 e,dI f])],[]⟩ k=TR n a b c d e f (Qi (Qh n) n L4 (L7 a b c d e f) (Xf (Qh n) n L0 k)):=by kernel_rfl
theorem Q1m (n:Nat) (a b c d e:LL) (f:Int) (k:Exit→St→Option R):Qi (Qh n) n L4 (L7 a b c d e f) k=TW n a b c d e f (k .ret ⟨100,[(4,.nil),(5,dI (1:Int))],[]⟩) (fun g=>Qi (Qh n) n B4 ⟨100,[(2,.ptr 2 0),(3,.ptr 3 0),(16,dB g)],[(2,.box [dL 1 a,dL 1 b,dL 5 c,dL 6 d]),(3,.box [dL 2 e,dI f])]⟩ (Xf (Qh n) n MX (Q9 0 k))):=by kernel_rfl
theorem Q16 (n:Nat) (g:Bool) (a b c d e:LL) (f:Int) (k:Exit→St→Option R):Qi (Qh n) n B4 ⟨100,[(2,.ptr 2 0),(3,.ptr 3 0),(16,dB g)],[(2,.box [dL 1 a,dL 1 b,dL 5 c,dL 6 d]),(3,.box [dL 2 e,dI f])]⟩ k=P2 n g a b c d e f (fun h=>k .normal (Pr h a b c d e f)):=by kernel_rfl
theorem Q20 (n:Nat) (a:Bool) (b c d e f:LL) (g:Int) (k:Exit→St→Option R):(Xf (Qh n) n MX (Q9 0 k)) .normal (Pr a b c d e f g)=S4 n a b c d e f g (k .ret ⟨100,[(4,.nil),(5,dI (7:Int))],[]⟩) (Qi (Qh n) n Cs (Pr a b c d e f g) (Xf (Qh n) n M8 (Q9 0 k))):=by kernel_rfl
theorem Q1F (n:Nat) (g:Bool) (a b c d e:LL) (f:Int) (k:Exit→St→Option R):Qi (Qh n) n Cs (Pr g a b c d e f) k=PO n g a b c d e f (fun h=>k .normal (K7 h a b c d e f)):=by kernel_rfl
theorem Q1O (n:Nat) (w7:Bool) (a b c d e:LL) (f:Int) (k:Exit→St→Option R):(Xf (Qh n) n M8 (Q9 0 k)) .normal (K7 w7 a b c d e f)=M3 n w7 a b c d e f (k .ret (Mw)) (k .normal (K7 w7 a b c d e f)):=by kernel_rfl
theorem Q1n (n:Nat) (a b c d e:LL) (f:Int) (k:Exit→St→Option R):Qi (Qh n) n L4 (L7 a b c d e f) k=TG n a b c d e f (fun l=>k .ret ⟨100,[(4,.nil),(5,dI l)],[]⟩) (fun w7=>k .normal (K7 w7 a b c d e f)):=
 (Q1m n a b c d e f k).trans (cg2 (fun g i=>TW n a b c d e f g i ) rfl (funext fun j=>(Q16 n j a b c d e f (Xf (Qh n) n MX (Q9 0 k))).trans (cg1 (fun g=>P2 n j a b c d e f g ) (funext fun h=>(Q20 n h a b c d e f k).trans (cg2 (fun g i=>S4 n h a b c d e f g i ) rfl ((Q1F n h a b c d e f (Xf (Qh n) n M8 (Q9 0 k))).trans (cg1 (fun g=>PO n h a b c d e f g ) (funext fun w7=>(Q1O n w7 a b c d e f k)))))))))
theorem Q1Z (n:Nat) (g:Bool) (b c d e a:LL) (f:Int) (k:Exit→St→Option R):(Xf (Qh n) n L0 k) .normal (K7 g b c d e a f)=KB n g b c d e a f (fun h=>X7 (lB (Qh n) n Tq) n ⟨100,[(2,.ptr 2 0),(3,.ptr 3 0),(40,dL 2 a),(41,dI h),(42,dI (0:Int))],[(2,.box [dL 1 b,dL 1 c,dL 5 d,dL 6 e]),(3,.box [dL 2 a,dI f])]⟩ (Q9 1 (Xf (Qh n) n MM k))):=by kernel_rfl
theorem Q1c (n:Nat) (a:LL) (b h:Int) (c d e f:LL) (g:Int) (k:Exit→St→Option R):Qi (Qh n) n Tq (Ms a b h c d e f a g) k=TL n a b h c d e f g (k .ret (Mw)) (fun i=>k .normal (Ms a b i c d e f a g)) (fun j=>k (.exit 1) (MN a b h j c d e f a g)):=by kernel_rfl
theorem L8 (n:Nat) (a:LL) (c:Int) (d e f g:LL) (h:Int) (k:Exit→St→Option R):∀ (m:Nat) (b:Int),X7 (lB (Qh n) n Tq) m (Ms a c b d e f g a h) k=Wf n a c d e f g h (k .ret (Mw)) (fun b i=>k (.exit 1) (MN a c b i d e f g a h)) m b
 | 0,_=>rfl
 | m+1,b=>(lS (by kernel_rfl) m k).trans ((Q1c n a c b d e f g h (WB (lB (Qh n) n Tq) m k)).trans (cg3 (fun j l o=>TL n a c b d e f g h j l o ) rfl (funext fun p=>L8 n a c d e f g h k m p) rfl))
theorem Q0A (n:Nat) (a:LL) (g h:Int) (i:Bool) (b c d e:LL) (f:Int) (k:Exit→St→Option R):(Q9 1 (Xf (Qh n) n MM k)) (.exit 1) (MN a g h i b c d e a f)=G5 n a g h i b c d e f (fun j l=>X7 (lB (Qh n) n TI) n ⟨100,[(2,.ptr 2 0),(3,.ptr 3 0),(8,.arr 54),(56,dL 2 a),(57,dI j),(58,dI (0:Int))],[(2,.box [dL 1 b,dL 1 c,dL 5 d,dL 6 e]),(3,.box [dL 2 a,dI f]),(54,.arr 4 1 l)]⟩ (Q9 3 (Xf (Qh n) n Np k))):=by kernel_rfl
theorem Q00 (n:Nat) (a:LL) (b h:Int) (c d e f:LL) (g:Int) (i:LL) (k:Exit→St→Option R):Qi (Qh n) n TI (Mt a b h c d e f a g i) k=Hq n a b h c d e f g i (k .ret ⟨100,[(4,.nil),(5,dI (5:Int))],[]⟩) (fun j l=>k .normal (Mt a b j c d e f a g l)) (fun m=>k (.exit 3) (L9 a b h m c d e f a g i)):=by kernel_rfl
theorem Mz (n:Nat) (a:LL) (d:Int) (e f g h:LL) (i:Int) (k:Exit→St→Option R):∀ (m:Nat) (b:Int) (c:LL),X7 (lB (Qh n) n TI) m (Mt a d b e f g h a i c) k=Wb n a d e f g h i (k .ret ⟨100,[(4,.nil),(5,dI (5:Int))],[]⟩) (fun b j c=>k (.exit 3) (L9 a d b j e f g h a i c)) m b c
 | 0,_,_=>rfl
 | m+1,b,c=>(lS (by kernel_rfl) m k).trans ((Q00 n a d b e f g h i c (WB (lB (Qh n) n TI) m k)).trans (cg3 (fun l o p=>Hq n a d b e f g h i c l o p ) rfl (funext fun q=>funext fun r=>Mz n a d e f g h i k m q r) rfl))
theorem Q0a (n:Nat) (a:LL) (g h:Int) (i:Bool) (b c d e:LL) (f:Int) (j:LL) (k:Exit→St→Option R):(Q9 3 (Xf (Qh n) n Np k)) (.exit 3) (L9 a g h i b c d e a f j)=G3 n a g h i b c d e f j (fun l m=>X7 (lB (Qh n) n Hs) n ⟨100,[(2,.ptr 2 0),(3,.ptr 3 0),(11,.arr 1011),(74,dL 2 l),(75,dI m),(76,dI (0:Int))],[(1011,.arr 3 1 []),(2,.box [dL 1 b,dL 1 c,dL 5 d,dL 6 e]),(3,.box [dL 2 a,dI f])]⟩ (Q9 5 (Xf (Qh n) n Ht k))):=by kernel_rfl
theorem Q0y (n:Nat) (a:LL) (b i:Int) (c d e f g:LL) (h:Int) (j:LL) (k:Exit→St→Option R):Qi (Qh n) n Hs ⟨100,[(2,.ptr 2 0),(3,.ptr 3 0),(11,.arr 1011),(74,dL 2 a),(75,dI b),(76,dI i)],[(2,.box [dL 1 c,dL 1 d,dL 5 e,dL 6 f]),(3,.box [dL 2 g,dI h]),(1011,.arr 3 1 j)]⟩ k=Hy n a b i c d e f g h j (k .ret ⟨100,[(4,.nil),(5,dI (11:Int))],[]⟩) (fun l m=>k .normal ⟨100,[(2,.ptr 2 0),(3,.ptr 3 0),(11,.arr 97),(74,dL 2 a),(75,dI b),(76,dI l)],[(2,.box [dL 1 c,dL 1 d,dL 5 e,dL 6 f]),(3,.box [dL 2 g,dI h]),(97,.arr 3 1 m)]⟩) (fun o=>k (.exit 5) (ML a b i o c d e f g h j)):=by kernel_rfl
theorem La (n:Nat) (c:LL) (d:Int) (e f g h i:LL) (j:Int) (k:Exit→St→Option R):∀ (m:Nat) (a:Int) (b:LL),X7 (lB (Qh n) n Hs) m ⟨100,[(2,.ptr 2 0),(3,.ptr 3 0),(11,.arr 1011),(74,dL 2 c),(75,dI d),(76,dI a)],[(2,.box [dL 1 e,dL 1 f,dL 5 g,dL 6 h]),(3,.box [dL 2 i,dI j]),(1011,.arr 3 1 b)]⟩ k=Wg n c d e f g h i j (k .ret ⟨100,[(4,.nil),(5,dI (11:Int))],[]⟩) (fun a l b=>k (.exit 5) (ML c d a l e f g h i j b)) m a b
 | 0,_,_=>rfl
 | m+1,a,b=>(lS (by kernel_rfl) m k).trans ((Q0y n c d a e f g h i j b (WB (lB (Qh n) n Hs) m k)).trans (cg3 (fun o p q=>Hy n c d a e f g h i j b o p q ) rfl (funext fun r=>funext fun s=>(XM (by kernel_rfl) m k).trans (La n c d e f g h i j k m r s)) rfl))
theorem Q09 (n:Nat) (b:LL) (c d:Int) (e:Bool) (f g h i j:LL) (l:Int) (a:LL) (k:Exit→St→Option R):(Q9 5 (Xf (Qh n) n Ht k)) (.exit 5) (ML b c d e f g h i j l a)=Nm n b c d e f g h i j l a (k .ret (Bh a)):=by kernel_rfl
theorem Q0t (n:Nat) (a b c d e:LL) (f:Int) (k:Exit→St→Option R):Qi (Qh n) n MY ⟨100,[(0,.ag [dL 1 a,dL 1 b,dL 5 c,dL 6 d]),(1,.ag [dL 2 e,dI f])],[]⟩ k=N5 n a b c d e f (fun w=>k .ret ⟨100,[(4,.nil),(5,dI w)],[]⟩) (fun l=>k .ret (Bh l)):=
 (Q1H n a b c d e f k).trans (cg1 (fun g=>TR n a b c d e f g ) ((Q1n n a b c d e f (Xf (Qh n) n L0 k)).trans (cg2 (fun g h=>TG n a b c d e f g h ) rfl (funext fun p=>(Q1Z n p a b c d e f k).trans (cg1 (fun g=>KB n p a b c d e f g ) (funext fun i=>(L8 n e i a b c d f (Q9 1 (Xf (Qh n) n MM k)) n (0:Int)).trans (cg2 (fun g h=>Wf n e i a b c d f g h n (0:Int)) rfl (funext fun q=>funext fun r=>(Q0A n e i q r a b c d f k).trans (cg1 (fun g=>G5 n e i q r a b c d f g ) (funext fun j=>funext fun s=>(Mz n e j a b c d f (Q9 3 (Xf (Qh n) n Np k)) n (0:Int) s).trans (cg2 (fun g h=>Wb n e j a b c d f g h n (0:Int) s) rfl (funext fun t=>funext fun u=>funext fun v=>(Q0a n e j t u a b c d f v k).trans (cg1 (fun g=>G3 n e j t u a b c d f v g ) (funext fun m=>funext fun o=>((XM (by kernel_rfl) n (Q9 5 (Xf (Qh n) n Ht k))).trans (La n m o a b c d e f (Q9 5 (Xf (Qh n) n Ht k)) n (0:Int) [])).trans (cg2 (fun g h=>Wg n m o a b c d e f g h n (0:Int) []) rfl (funext fun x=>funext fun y=>funext fun l=>(Q09 n m o x y a b c d e f l k)))))))))))))))))
theorem Q4e (n:Nat) (a c d e f:LL) (g:Int) (K:AV→Option R):vfn (Qh n) n Tryz.f75 [.ag [.d (D.sl 1 a),.d (D.sl 1 c),.d (D.sl 5 d),.d (D.sl 6 e)],.ag [.d (D.sl 2 f),.d (D.int .i64 g)]] [] (Wc [[1],[0]] K)=Tc n a c d e f g (fun h i=>K (.tup [.d (D.sl 1 h),.d (D.int .i64 i)])):=
 Eq.trans (b:=Qi (Qh n) n MY ⟨100,[(0,.ag [dL 1 a,dL 1 c,dL 5 d,dL 6 e]),(1,.ag [dL 2 f,dI g])],[]⟩ (K3 gtt [.tmp 4,.tmp 5] (Wc [[1],[0]] K))) VP ((Q0t n a c d e f g (K3 gtt [.tmp 4,.tmp 5] (Wc [[1],[0]] K))).trans (by kernel_rfl))
def Fq:AV→Option (LL × Int):=fun av=>match av with
 | .tup [.d (D.sl 1 a),.d (D.int .i64 b)]=>some (a,b)
 | _=>none
def Fc (n:Nat):XH:=fun _ _ g avs _ k=>match avs with
 | [c0,c1]=>
  prG c0 fun l0=>(match l0 with
  | [a,b,c,d]=>prS g 1 a fun e=>prS g 1 b fun f=>prS g 5 c fun h=>prS g 6 d fun i=>
  prG c1 fun l1=>(match l1 with
  | [j,l]=>prS g 2 j fun m=>prI g .i64 l fun o=>
  gb g (Tc n e f h i m o (fun p q=>some (p,q))) ([],0) fun r=>k ⟨.tup [.d (D.sl 1 r.1),.d (D.int .i64 r.2)],[],[]⟩
  | _=>none)
  | _=>none)
 | _=>none
theorem Q6u (n:Nat):Qo Tryz.prog 75 (Fc n):=by
  intro R site g avs hl k r h
  unfold Fc at h
  split at h
  rotate_left
  · cases h
  obtain ⟨l0,h,i⟩:=Qq h
  split at h
  rotate_left
  · cases h
  obtain ⟨a,h,j⟩:=Q1 h
  obtain ⟨b,h,l⟩:=Q1 h
  obtain ⟨c,h,m⟩:=Q1 h
  obtain ⟨d,h,o⟩:=Q1 h
  obtain ⟨l1,h,e1⟩:=Qq h
  split at h
  rotate_left
  · cases h
  obtain ⟨e,h,p⟩:=Q1 h
  obtain ⟨f,h,q⟩:=Q2 h
  obtain ⟨res,h,hr⟩:=Qc h
  have hL:=h
  subst i e1
  refine ⟨_,hL,fun hg=>QI.conv (avs':=[.ag [.d (D.sl 1 a),.d (D.sl 1 b),.d (D.sl 5 c),.d (D.sl 6 d)],.ag [.d (D.sl 2 e),.d (D.int .i64 f)]]) (.cons (.ag (.cons (j hg) (.cons (l hg) (.cons (m hg) (.cons (o hg) (.nil)))))) (.cons (.ag (.cons (p hg) (.cons (q hg) (.nil)))) (.nil))) (QE (K:=Fq) (res:=res) (Q6z n) (fn:=Tryz.f75) (n:=n) (ss:=[[1],[0]]) ?_ ?_)⟩
  · exact (Q4e n a b c d e f Fq).trans (hr hg)
  · intro x hx
    unfold Fq at hx
    split at hx
    · injection hx with hx;subst hx;rfl
    · cases hx

noncomputable def Q6S:Code:=Q8 Tryz.f52
def Q1U (n:Nat):VC:=⟨QK [(75,Fc n)],gtt,[cO 0 [2,3] [2,3],cK 1 [6],cK 2 [4]]⟩
theorem Q72 (n:Nat):VCOk Tryz.prog (Q1U n):=gVC (Qe ⟨Q6u n,trivial⟩)
theorem Q63 (n:Nat) (a b d e f:LL) (g:Int) (K:AV→Option R):vfn (Q1U n) n Tryz.f52 [.ag [.d (D.sl 1 a),.d (D.sl 1 b),.d (D.sl 5 d),.d (D.sl 6 e)],.ag [.d (D.sl 2 f),.d (D.int .i64 g)]] [] (Wc [[0]] K)=Sw n a b d e f g (fun h=>K (.d (D.int .i64 h))):=
 (VP (c:=Q6S) (m:=14) (tm:=[(0,.ag [dL 1 a,dL 1 b,dL 5 d,dL 6 e]),(1,.ag [dL 2 f,dI g])]) (rs:=[.tmp 4]) (tt:=gtt)).trans (by kernel_rfl)
def NE (n:Nat):XH:=fun _ _ g avs _ k=>match avs with
 | [c0,c1]=>
  prG c0 fun l0=>(match l0 with
  | [a,b,c,d]=>prS g 1 a fun e=>prS g 1 b fun f=>prS g 5 c fun h=>prS g 6 d fun i=>
  prG c1 fun l1=>(match l1 with
  | [j,l]=>prS g 2 j fun m=>prI g .i64 l fun o=>
  gb g (Sw n e f h i m o some) 0 fun r=>k ⟨.d (D.int .i64 r),[],[]⟩
  | _=>none)
  | _=>none)
 | _=>none
theorem AC (n:Nat):Qo Tryz.prog 52 (NE n):=by
  intro R site g avs hl k r h
  unfold NE at h
  split at h
  rotate_left
  · cases h
  obtain ⟨l0,h,i⟩:=Qq h
  split at h
  rotate_left
  · cases h
  obtain ⟨a,h,j⟩:=Q1 h
  obtain ⟨b,h,l⟩:=Q1 h
  obtain ⟨c,h,m⟩:=Q1 h
  obtain ⟨d,h,o⟩:=Q1 h
  obtain ⟨l1,h,e1⟩:=Qq h
  split at h
  rotate_left
  · cases h
  obtain ⟨e,h,p⟩:=Q1 h
  obtain ⟨f,h,q⟩:=Q2 h
  obtain ⟨res,h,hr⟩:=Qc h
  have hL:=h
  subst i e1
  refine ⟨_,hL,fun hg=>QI.conv (avs':=[.ag [.d (D.sl 1 a),.d (D.sl 1 b),.d (D.sl 5 c),.d (D.sl 6 d)],.ag [.d (D.sl 2 e),.d (D.int .i64 f)]]) (.cons (.ag (.cons (j hg) (.cons (l hg) (.cons (m hg) (.cons (o hg) (.nil)))))) (.cons (.ag (.cons (p hg) (.cons (q hg) (.nil)))) (.nil))) (QE (K:=kI) (res:=res) (Q72 n) (fn:=Tryz.f52) (n:=n) (ss:=[[0]]) ?_ ?_)⟩
  · exact (Q63 n a b c d e f kI).trans (hr hg)
  · exact NW

noncomputable def HT:Code:=Q8 Tryz.f29
noncomputable def JH:Code:=cA [1,0,1,2,2] (Q8 Tryz.f29)
noncomputable def HH:Code:=cA [1,1] (Q8 Tryz.f29)
def Hz (a:LL) (b c:Int) (d e f g:LL):St:=⟨22,[(2,.ptr 2 0),(9,dL 2 a),(10,dI b),(11,dI c)],[(2,.box [dL 1 d,dL 1 e,dL 5 f,dL 6 g])]⟩
def HD (a:LL) (b c:Int) (d:Bool) (e f g h:LL):St:=⟨22,[(2,.ptr 2 0),(9,dL 2 a),(10,dI b),(11,dI c),(12,dB d)],[(2,.box [dL 1 e,dL 1 f,dL 5 g,dL 6 h])]⟩
def Y7 (n:Nat):VC:=⟨QK [(52,NE n)],gtt,[cO 0 [2,3] [2,3],cO 1 [2,9,10,11] [2],cO 2 (2::rg1 9 4 []) [2],cO 3 [2,6,9,10,11] [2,6],cO 4 [2,7,9,10,11] [2],cO 5 [2,7,9,10,11,19] [2],cK 6 [4],cO 7 [2,9,10,11] [2],cK 8 [4]]⟩
theorem AR (n:Nat):VCOk Tryz.prog (Y7 n):=gVC (Qe ⟨AC n,trivial⟩)
theorem Cl (n:Nat) (a b c d:LL) (f:Int) (g e h i j l m:LL) (k:Exit→St→Option R):Qi (Y7 n) n HT ⟨22,[(0,.ag [dL 1 a,dL 1 b,dL 5 c,dL 6 d]),(1,.ag [dI f,dL 5 g,dL 2 e,dL 4 h,dL 7 i,dL 4 j,dL 5 l,dL 3 m])],[]⟩ k=JM n a b c d f g e h i j l m (fun o=>X7 (lB (Y7 n) n JH) n ⟨22,[(2,.ptr 2 0),(9,dL 2 e),(10,dI o),(11,dI (0:Int))],[(2,.box [dL 1 a,dL 1 b,dL 5 c,dL 6 d])]⟩ (Q9 0 (Xf (Y7 n) n HH k))):=by kernel_rfl
theorem C3 (n:Nat) (a:LL) (b g:Int) (c d e f:LL) (k:Exit→St→Option R):Qi (Y7 n) n JH (Hz a b g c d e f) k=V2 n a b g c d e f (fun h=>k .ret ⟨22,[(4,dI h)],[]⟩) (fun i=>k .normal (Hz a b i c d e f)) (fun j=>k (.exit 0) (HD a b g j c d e f)):=by kernel_rfl
theorem Sn (n:Nat) (b:LL) (c:Int) (d e f g:LL) (k:Exit→St→Option R):∀ (m:Nat) (a:Int),X7 (lB (Y7 n) n JH) m (Hz b c a d e f g) k=Zp n b c d e f g (fun h=>k .ret ⟨22,[(4,dI h)],[]⟩) (fun a i=>k (.exit 0) (HD b c a i d e f g)) m a
 | 0,_=>rfl
 | m+1,a=>(lS (by kernel_rfl) m k).trans ((C3 n b c a d e f g (WB (lB (Y7 n) n JH) m k)).trans (cg3 (fun j l o=>V2 n b c a d e f g j l o ) rfl (funext fun p=>Sn n b c d e f g k m p) rfl))
theorem Cj (n:Nat) (a:LL) (b c:Int) (d:Bool) (e f g h:LL) (k:Exit→St→Option R):(Q9 0 (Xf (Y7 n) n HH k)) (.exit 0) (HD a b c d e f g h)=Mk n a b c d e f g h (k .ret ⟨22,[(4,dI (0:Int))],[]⟩):=by kernel_rfl
theorem C2 (n:Nat) (a b c d:LL) (f:Int) (g e h i j l m:LL) (k:Exit→St→Option R):Qi (Y7 n) n HT ⟨22,[(0,.ag [dL 1 a,dL 1 b,dL 5 c,dL 6 d]),(1,.ag [dI f,dL 5 g,dL 2 e,dL 4 h,dL 7 i,dL 4 j,dL 5 l,dL 3 m])],[]⟩ k=HS n a b c d f g e h i j l m (fun q=>k .ret ⟨22,[(4,dI q)],[]⟩):=
 (Cl n a b c d f g e h i j l m k).trans (cg1 (fun o=>JM n a b c d f g e h i j l m o ) (funext fun p=>(Sn n e p a b c d (Q9 0 (Xf (Y7 n) n HH k)) n (0:Int)).trans (cg2 (fun o r=>Zp n e p a b c d o r n (0:Int)) rfl (funext fun s=>funext fun t=>(Cj n e p s t a b c d k)))))
theorem Al (n:Nat) (a c d e:LL) (f:Int) (g h i j k l m:LL) (K:AV→Option R):vfn (Y7 n) n Tryz.f29 [.ag [.d (D.sl 1 a),.d (D.sl 1 c),.d (D.sl 5 d),.d (D.sl 6 e)],.ag [.d (D.int .i64 f),.d (D.sl 5 g),.d (D.sl 2 h),.d (D.sl 4 i),.d (D.sl 7 j),.d (D.sl 4 k),.d (D.sl 5 l),.d (D.sl 3 m)]] [] (Wc [[0]] K)=Uo n a c d e f g h i j k l m (fun o=>K (.d (D.int .i64 o))):=
 Eq.trans (b:=Qi (Y7 n) n HT ⟨22,[(0,.ag [dL 1 a,dL 1 c,dL 5 d,dL 6 e]),(1,.ag [dI f,dL 5 g,dL 2 h,dL 4 i,dL 7 j,dL 4 k,dL 5 l,dL 3 m])],[]⟩ (K3 gtt [.tmp 4] (Wc [[0]] K))) VP ((C2 n a c d e f g h i j k l m (K3 gtt [.tmp 4] (Wc [[0]] K))).trans (by kernel_rfl))
def Tg (n:Nat):XH:=fun _ _ g avs _ k=>match avs with
 | [c0,c1]=>
  prG c0 fun l0=>(match l0 with
  | [a,b,c,d]=>prS g 1 a fun e=>prS g 1 b fun f=>prS g 5 c fun h=>prS g 6 d fun i=>
  prG c1 fun l1=>(match l1 with
  | [j,l,m,o,p,q,s,t]=>prI g .i64 j fun u=>prS g 5 l fun v=>prS g 2 m fun w=>prS g 4 o fun x=>prS g 7 p fun y=>prS g 4 q fun z=>prS g 5 s fun aa=>prS g 3 t fun ab=>
  gb g (Uo n e f h i u v w x y z aa ab some) 0 fun r=>k ⟨.d (D.int .i64 r),[],[]⟩
  | _=>none)
  | _=>none)
 | _=>none
theorem Q0S (n:Nat):Qo Tryz.prog 29 (Tg n):=by
  intro R site g avs hl k r h
  unfold Tg at h
  split at h
  rotate_left
  · cases h
  obtain ⟨l0,h,q⟩:=Qq h
  split at h
  rotate_left
  · cases h
  obtain ⟨a,h,s⟩:=Q1 h
  obtain ⟨b,h,t⟩:=Q1 h
  obtain ⟨c,h,u⟩:=Q1 h
  obtain ⟨d,h,v⟩:=Q1 h
  obtain ⟨l1,h,e1⟩:=Qq h
  split at h
  rotate_left
  · cases h
  obtain ⟨e,h,w⟩:=Q2 h
  obtain ⟨f,h,x⟩:=Q1 h
  obtain ⟨i,h,y⟩:=Q1 h
  obtain ⟨j,h,z⟩:=Q1 h
  obtain ⟨l,h,aa⟩:=Q1 h
  obtain ⟨m,h,ab⟩:=Q1 h
  obtain ⟨o,h,ac⟩:=Q1 h
  obtain ⟨p,h,ad⟩:=Q1 h
  obtain ⟨res,h,hr⟩:=Qc h
  have hL:=h
  subst q e1
  refine ⟨_,hL,fun hg=>QI.conv (avs':=[.ag [.d (D.sl 1 a),.d (D.sl 1 b),.d (D.sl 5 c),.d (D.sl 6 d)],.ag [.d (D.int .i64 e),.d (D.sl 5 f),.d (D.sl 2 i),.d (D.sl 4 j),.d (D.sl 7 l),.d (D.sl 4 m),.d (D.sl 5 o),.d (D.sl 3 p)]]) (.cons (.ag (.cons (s hg) (.cons (t hg) (.cons (u hg) (.cons (v hg) (.nil)))))) (.cons (.ag (.cons (w hg) (.cons (x hg) (.cons (y hg) (.cons (z hg) (.cons (aa hg) (.cons (ab hg) (.cons (ac hg) (.cons (ad hg) (.nil)))))))))) (.nil))) (QE (K:=kI) (res:=res) (AR n) (fn:=Tryz.f29) (n:=n) (ss:=[[0]]) ?_ ?_)⟩
  · exact (Al n a b c d e f i j l m o p kI).trans (hr hg)
  · exact NW

end Go.Vx
set_option maxRecDepth 100000
namespace Go.Vx
open Go.Proofs
noncomputable def S8:Code:=Q8 Tryz.f54
def J8 (n:Nat):VC:=⟨QK [],gtt,[cO 0 [1,2] [2,1000000],cO 1 [3] [1000000]]⟩
theorem S9 (n:Nat):VCOk Tryz.prog (J8 n):=gVC (Qe trivial)
def Wi:AV→List (Nat × Ob)→Option (Bool × (List UInt8) × Int × Int × LL):=fun av H=>(look H 1000000).bind fun o0=>match av,o0 with
 | .d (D.bool a),.box [.d (D.str b),.d (D.int .i64 r2),.d (D.int .i64 r3),.d (D.sl 4 c)]=>some (a,b,r2,r3,c)
 | _,_=>none
theorem PK (n:Nat) (a:List UInt8) (b d:Int) (e:LL) (f:List UInt8) (g h:Int) (i:LL):vfn (J8 n) n Tryz.f54 [.ag [.d (D.str a),.d (D.int .i64 b),.d (D.int .i64 d),.d (D.sl 4 e)],.ptr 1000000 0] [(1000000,.box [.d (D.str f),.d (D.int .i64 g),.d (D.int .i64 h),.d (D.sl 4 i)])] Wi=Zo n a b d e f g h i (fun j k r2 r3 l=>some (j,k,r2,r3,l)):=
 (VP (c:=S8) (m:=9) (tm:=[(0,.ag [dT a,dI b,dI d,dL 4 e]),(1,.ptr 1000000 0)]) (rs:=[.tmp 3]) (tt:=gtt)).trans (by kernel_rfl)
def WK (n:Nat):XH:=fun _ site g avs hl k=>match avs with
 | [c0,c1]=>prG c0 fun a=>(match a with
  | [b,c,d,e]=>prT g b fun f=>prI g .i64 c fun h=>prI g .i64 d fun i=>prS g 4 e fun j=>prP hl c1 fun l0 l=>(match l with
  | [m,o,p,q]=>prT g m fun s=>prI g .i64 o fun t=>prI g .i64 p fun u=>prS g 4 q fun v=>
  bif UY hl [(1000000,l0)] [] then gb g (Zo n f h i j s t u v (fun w x r2 r3 y=>some (w,x,r2,r3,y))) (false,[],0,0,[]) fun r=>k ⟨.d (D.bool r.1),[(l0,some (.box [.d (D.str r.2.1),.d (D.int .i64 r.2.2.1),.d (D.int .i64 r.2.2.2.1),.d (D.sl 4 r.2.2.2.2)]))],[l0]⟩ else none
  | _=>none)
  | _=>none)
 | _=>none
theorem Sc (n:Nat):Qo Tryz.prog 54 (WK n):=by
  intro R site g avs hl k r h
  unfold WK at h
  split at h
  rotate_left
  · cases h
  obtain ⟨z,h,m⟩:=Qq h
  split at h
  rotate_left
  · cases h
  obtain ⟨a,h,o⟩:=VN h
  obtain ⟨b,h,p⟩:=Q2 h
  obtain ⟨c,h,q⟩:=Q2 h
  obtain ⟨d,h,s⟩:=Q1 h
  obtain ⟨l0,aa,h,t,u⟩:=YT h
  split at h
  rotate_left
  · cases h
  obtain ⟨e,h,v⟩:=VN h
  obtain ⟨f,h,w⟩:=Q2 h
  obtain ⟨i,h,x⟩:=Q2 h
  obtain ⟨j,h,y⟩:=Q1 h
  obtain ⟨hc,h⟩:=Xa h
  obtain ⟨res,h,hr⟩:=Qc h
  have hL:=h
  subst m t
  refine ⟨_,hL,fun hg=>Zl (K:=Wi) (res:=res) (S9 n) (fn:=Tryz.f54) (n:=n) (by kernel_rfl) (by kernel_rfl) (by kernel_rfl) (ρ:=[(1000000,l0)]) (ν:=[]) (avs':=[.ag [.d (D.str a),.d (D.int .i64 b),.d (D.int .i64 c),.d (D.sl 4 d)],.ptr 1000000 0]) (H:=[(1000000,.box [.d (D.str e),.d (D.int .i64 f),.d (D.int .i64 i),.d (D.sl 4 j)])]) (.cons (.data rfl (.ag (.cons (o hg) (.cons (p hg) (.cons (q hg) (.cons (s hg) (.nil))))))) (.cons (.own rfl rfl) (.nil))) rfl rfl hc (⟨⟨by decide,_,_,u,rfl,.box (.cons (.data rfl (v hg)) (.cons (.data rfl (w hg)) (.cons (.data rfl (x hg)) (.cons (.data rfl (y hg)) (.nil)))))⟩,trivial⟩) rfl rfl ?_ ?_⟩
  · exact (PK n a b c d e f i j).trans (hr hg)
  · intro av H' hx
    unfold Wi at hx
    simp only [Option.bind_eq_some_iff] at hx
    obtain ⟨o0,l,hx⟩:=hx
    split at hx
    rotate_left
    · cases hx
    injection hx with hx
    subst hx
    refine ⟨rfl,?_,trivial,⟨YI rfl l rfl,trivial⟩⟩
    simp only [List.cons_append,List.nil_append,K2,l,Option.map_some,Option.map_none]
    rfl
end Go.Vx
set_option maxRecDepth 100000
namespace Go.Vx
open Go.Proofs
variable {R:Type}
noncomputable def Xu:Code:=Q8 Tryz.f76
noncomputable def QR:Code:=cA [1,0,1,2,2] (Q8 Tryz.f76)
noncomputable def Xz:Code:=cA [1,1] (Q8 Tryz.f76)
def XB (a:LL) (b:List UInt8) (c d:Int) (e:LL):St:=⟨19,[(0,dL 4 a),(1,.fn 54 [.ptr 1000000 0])],[(1000000,.box [dT b,dI c,dI d,dL 4 e])]⟩
def Xy (a:LL) (b c:Int) (d:List UInt8) (e f:Int) (g:LL):St:=⟨19,[(0,dL 4 a),(1,.fn 54 [.ptr 1000000 0]),(7,dI b),(8,dI c)],[(1000000,.box [dT d,dI e,dI f,dL 4 g])]⟩
def XE (a:LL) (b c:Int) (d:Bool) (e:List UInt8) (f g:Int) (h:LL):St:=⟨19,[(0,dL 4 a),(1,.fn 54 [.ptr 1000000 0]),(7,dI b),(8,dI c),(9,dB d)],[(1000000,.box [dT e,dI f,dI g,dL 4 h])]⟩
def Q7 (n:Nat):VC:=⟨QK [(54,WK n)],gtt,[cO 0 [0,1] [1000000],cO 1 [0,1,7,8] [1000000],cO 2 [0,1,7,8,9] [1000000],cO 3 [0,1,5,7,8] [1000000],cO 4 [0,1,5,7,8,16] [1000000],cO 5 [4] [1000000],cO 6 [0,1,7,8] [1000000],cO 7 [4] [1000000]]⟩
theorem WQ (n:Nat):VCOk Tryz.prog (Q7 n):=gVC (Qe ⟨Sc n,trivial⟩)
theorem Wz (n:Nat) (a0:LL) (a:List UInt8) (b c:Int) (d:LL) (k:Exit→St→Option R):Qi (Q7 n) n Xu (XB a0 a b c d) k=QU n a0 a b c d (fun e=>X7 (lB (Q7 n) n QR) n ⟨19,[(0,dL 4 a0),(1,.fn 54 [.ptr 1000000 0]),(7,dI e),(8,dI (0:Int))],[(1000000,.box [dT a,dI b,dI c,dL 4 d])]⟩ (Q9 0 (Xf (Q7 n) n Xz k))):=by kernel_rfl
theorem Wp (n:Nat) (a0:LL) (a b:Int) (c:List UInt8) (d e:Int) (f:LL) (k:Exit→St→Option R):Qi (Q7 n) n QR (Xy a0 a b c d e f) k=Qy n a0 a b c d e f (fun g h i j=>k .ret ⟨19,[(4,dI b)],[(1000000,.box [dT g,dI h,dI i,dL 4 j])]⟩) (fun l m o p q=>k .normal (Xy a0 a l m o p q)) (fun r=>k (.exit 0) (XE a0 a b r c d e f)):=by kernel_rfl
theorem Yt (n:Nat) (a0:LL) (f:Int) (k:Exit→St→Option R):∀ (m:Nat) (a:Int) (b:List UInt8) (c d:Int) (e:LL),X7 (lB (Q7 n) n QR) m (Xy a0 f a b c d e) k=Qk n a0 f (fun a g h i j=>k .ret ⟨19,[(4,dI a)],[(1000000,.box [dT g,dI h,dI i,dL 4 j])]⟩) (fun a l b c d e=>k (.exit 0) (XE a0 f a l b c d e)) m a b c d e
 | 0,_,_,_,_,_=>rfl
 | m+1,a,b,c,d,e=>(lS (by kernel_rfl) m k).trans ((Wp n a0 f a b c d e (WB (lB (Q7 n) n QR) m k)).trans (cg3 (fun o p q=>Qy n a0 f a b c d e o p q ) rfl (funext fun r=>funext fun s=>funext fun t=>funext fun u=>funext fun v=>Yt n a0 f k m r s t u v) rfl))
theorem Wj (n:Nat) (a0:LL) (e f:Int) (g:Bool) (a:List UInt8) (b c:Int) (d:LL) (k:Exit→St→Option R):(Q9 0 (Xf (Q7 n) n Xz k)) (.exit 0) (XE a0 e f g a b c d)=YA n a0 e f g a b c d (k .ret ⟨19,[(4,dI (-1:Int))],[(1000000,.box [dT a,dI b,dI c,dL 4 d])]⟩):=by kernel_rfl
theorem Wq (n:Nat) (a0:LL) (a:List UInt8) (b c:Int) (d:LL) (k:Exit→St→Option R):Qi (Q7 n) n Xu (XB a0 a b c d) k=Xw n a0 a b c d (fun g h i j l=>k .ret ⟨19,[(4,dI g)],[(1000000,.box [dT h,dI i,dI j,dL 4 l])]⟩):=
 (Wz n a0 a b c d k).trans (cg1 (fun e=>QU n a0 a b c d e ) (funext fun f=>(Yt n a0 f (Q9 0 (Xf (Q7 n) n Xz k)) n (0:Int) a b c d).trans (cg2 (fun e m=>Qk n a0 f e m n (0:Int) a b c d) rfl (funext fun o=>funext fun p=>funext fun q=>funext fun r=>funext fun s=>funext fun t=>(Wj n a0 f o p q r s t k)))))
def Qz:AV→List (Nat × Ob)→Option (Int × (List UInt8) × Int × Int × LL):=fun av H=>(look H 1000000).bind fun o0=>match av,o0 with
 | .d (D.int .i64 a),.box [.d (D.str b),.d (D.int .i64 r2),.d (D.int .i64 r3),.d (D.sl 4 c)]=>some (a,b,r2,r3,c)
 | _,_=>none
theorem WI (n:Nat) (a0:LL) (a:List UInt8) (c d:Int) (e:LL):vfn (Q7 n) n Tryz.f76 [.d (D.sl 4 a0),.fn 54 [.ptr 1000000 0]] [(1000000,.box [.d (D.str a),.d (D.int .i64 c),.d (D.int .i64 d),.d (D.sl 4 e)])] Qz=QX n a0 a c d e (fun f g r2 r3 h=>some (f,g,r2,r3,h)):=
 Eq.trans (b:=Qi (Q7 n) n Xu (XB a0 a c d e) (K3 gtt [.tmp 4] Qz)) VP ((Wq n a0 a c d e (K3 gtt [.tmp 4] Qz)).trans (by kernel_rfl))
def XG (n:Nat):XH:=fun _ site g avs hl k=>match avs with
 | [c0,c1]=>prS g 4 c0 fun a0=>prF 54 c1 fun a=>(match a with
  | [b]=>prP hl b fun l0 c=>(match c with
  | [d,e,f,h]=>prT g d fun i=>prI g .i64 e fun j=>prI g .i64 f fun l=>prS g 4 h fun m=>
  bif UY hl [(1000000,l0)] [] then gb g (QX n a0 i j l m (fun o p r2 r3 q=>some (o,p,r2,r3,q))) (0,[],0,0,[]) fun r=>k ⟨.d (D.int .i64 r.1),[(l0,some (.box [.d (D.str r.2.1),.d (D.int .i64 r.2.2.1),.d (D.int .i64 r.2.2.2.1),.d (D.sl 4 r.2.2.2.2)]))],[l0]⟩ else none
  | _=>none)
  | _=>none)
 | _=>none
theorem WZ (n:Nat):Qo Tryz.prog 76 (XG n):=by
  intro R site g avs hl k r h
  unfold XG at h
  split at h
  rotate_left
  · cases h
  obtain ⟨a0,h,f⟩:=Q1 h
  obtain ⟨s,h,i⟩:=Rc h
  split at h
  rotate_left
  · cases h
  obtain ⟨l0,t,h,j,l⟩:=YT h
  split at h
  rotate_left
  · cases h
  obtain ⟨a,h,m⟩:=VN h
  obtain ⟨b,h,o⟩:=Q2 h
  obtain ⟨c,h,p⟩:=Q2 h
  obtain ⟨d,h,q⟩:=Q1 h
  obtain ⟨hc,h⟩:=Xa h
  obtain ⟨res,h,hr⟩:=Qc h
  have hL:=h
  subst i j
  refine ⟨_,hL,fun hg=>Zl (K:=Qz) (res:=res) (WQ n) (fn:=Tryz.f76) (n:=n) (by kernel_rfl) (by kernel_rfl) (by kernel_rfl) (ρ:=[(1000000,l0)]) (ν:=[]) (avs':=[.d (D.sl 4 a0),.fn 54 [.ptr 1000000 0]]) (H:=[(1000000,.box [.d (D.str a),.d (D.int .i64 b),.d (D.int .i64 c),.d (D.sl 4 d)])]) (.cons (.data rfl (f hg)) (.cons (.own rfl rfl) (.nil))) rfl rfl hc (⟨⟨by decide,_,_,l,rfl,.box (.cons (.data rfl (m hg)) (.cons (.data rfl (o hg)) (.cons (.data rfl (p hg)) (.cons (.data rfl (q hg)) (.nil)))))⟩,trivial⟩) rfl rfl ?_ ?_⟩
  · exact (WI n a0 a b c d).trans (hr hg)
  · intro av H' hx
    unfold Qz at hx
    simp only [Option.bind_eq_some_iff] at hx
    obtain ⟨o0,e,hx⟩:=hx
    split at hx
    rotate_left
    · cases hx
    injection hx with hx
    subst hx
    refine ⟨rfl,?_,trivial,⟨YI rfl e rfl,trivial⟩⟩
    simp only [List.cons_append,List.nil_append,K2,e,Option.map_some,Option.map_none]
    rfl
end Go.Vx
set_option maxRecDepth 100000
namespace Go.Vx
open Go.Proofs
noncomputable def Ws:Code:=Q8 Tryz.f53
def Yy (n:Nat):VC:=⟨QK [(76,XG n)],gtt,[cO 0 [0,1] [1000000],cO 1 [4] [1000000]]⟩
theorem WA (n:Nat):VCOk Tryz.prog (Yy n):=gVC (Qe ⟨WZ n,trivial⟩)
def Xc:AV→List (Nat × Ob)→Option (Bool × (List UInt8) × Int × Int × LL):=fun av H=>(look H 1000000).bind fun o0=>match av,o0 with
 | .d (D.bool a),.box [.d (D.str b),.d (D.int .i64 r2),.d (D.int .i64 r3),.d (D.sl 4 c)]=>some (a,b,r2,r3,c)
 | _,_=>none
theorem Wa (n:Nat) (a0:LL) (a:List UInt8) (b d:Int) (e:LL):vfn (Yy n) n Tryz.f53 [.d (D.sl 4 a0),.fn 54 [.ptr 1000000 0]] [(1000000,.box [.d (D.str a),.d (D.int .i64 b),.d (D.int .i64 d),.d (D.sl 4 e)])] Xc=Qx n a0 a b d e (fun f g r2 r3 h=>some (f,g,r2,r3,h)):=
 (VP (c:=Ws) (m:=9) (tm:=[(0,dL 4 a0),(1,.fn 54 [.ptr 1000000 0])]) (rs:=[.tmp 4]) (tt:=gtt)).trans (by kernel_rfl)
def Xl (n:Nat):XH:=fun _ site g avs hl k=>match avs with
 | [c0,c1]=>prS g 4 c0 fun a0=>prF 54 c1 fun a=>(match a with
  | [b]=>prP hl b fun l0 c=>(match c with
  | [d,e,f,h]=>prT g d fun i=>prI g .i64 e fun j=>prI g .i64 f fun l=>prS g 4 h fun m=>
  bif UY hl [(1000000,l0)] [] then gb g (Qx n a0 i j l m (fun o p r2 r3 q=>some (o,p,r2,r3,q))) (false,[],0,0,[]) fun r=>k ⟨.d (D.bool r.1),[(l0,some (.box [.d (D.str r.2.1),.d (D.int .i64 r.2.2.1),.d (D.int .i64 r.2.2.2.1),.d (D.sl 4 r.2.2.2.2)]))],[l0]⟩ else none
  | _=>none)
  | _=>none)
 | _=>none
theorem Wm (n:Nat):Qo Tryz.prog 53 (Xl n):=by
  intro R site g avs hl k r h
  unfold Xl at h
  split at h
  rotate_left
  · cases h
  obtain ⟨a0,h,f⟩:=Q1 h
  obtain ⟨s,h,i⟩:=Rc h
  split at h
  rotate_left
  · cases h
  obtain ⟨l0,t,h,j,l⟩:=YT h
  split at h
  rotate_left
  · cases h
  obtain ⟨a,h,m⟩:=VN h
  obtain ⟨b,h,o⟩:=Q2 h
  obtain ⟨c,h,p⟩:=Q2 h
  obtain ⟨d,h,q⟩:=Q1 h
  obtain ⟨hc,h⟩:=Xa h
  obtain ⟨res,h,hr⟩:=Qc h
  have hL:=h
  subst i j
  refine ⟨_,hL,fun hg=>Zl (K:=Xc) (res:=res) (WA n) (fn:=Tryz.f53) (n:=n) (by kernel_rfl) (by kernel_rfl) (by kernel_rfl) (ρ:=[(1000000,l0)]) (ν:=[]) (avs':=[.d (D.sl 4 a0),.fn 54 [.ptr 1000000 0]]) (H:=[(1000000,.box [.d (D.str a),.d (D.int .i64 b),.d (D.int .i64 c),.d (D.sl 4 d)])]) (.cons (.data rfl (f hg)) (.cons (.own rfl rfl) (.nil))) rfl rfl hc (⟨⟨by decide,_,_,l,rfl,.box (.cons (.data rfl (m hg)) (.cons (.data rfl (o hg)) (.cons (.data rfl (p hg)) (.cons (.data rfl (q hg)) (.nil)))))⟩,trivial⟩) rfl rfl ?_ ?_⟩
  · exact (Wa n a0 a b c d).trans (hr hg)
  · intro av H' hx
    unfold Xc at hx
    simp only [Option.bind_eq_some_iff] at hx
    obtain ⟨o0,e,hx⟩:=hx
    split at hx
    rotate_left
    · cases hx
    injection hx with hx
    subst hx
    refine ⟨rfl,?_,trivial,⟨YI rfl e rfl,trivial⟩⟩
    simp only [List.cons_append,List.nil_append,K2,e,Option.map_some,Option.map_none]
    rfl
end Go.Vx
set_option maxRecDepth 100000
namespace Go.Vx
open Go.Proofs
variable {R:Type}
noncomputable def Q7j:Code:=Q8 Tryz.f55
def Q1z (n:Nat):VC:=⟨QK [],gtt,[cK 0 [0],cK 1 [2]]⟩
theorem Q70 (n:Nat):VCOk Tryz.prog (Q1z n):=gVC (Qe trivial)
theorem Q5t (n:Nat) (a0:Int) (K:AV→Option R):vfn (Q1z n) n Tryz.f55 [.d (D.int .i64 a0)] [] (Wc [[0]] K)=R2 n a0 (fun a=>K (.d (D.bool a))):=
 (VP (c:=Q7j) (m:=9) (tm:=[(0,dI a0)]) (rs:=[.tmp 2]) (tt:=gtt)).trans (by kernel_rfl)
def NG (n:Nat):XH:=fun _ _ g avs _ k=>match avs with
 | [c0]=>prI g .i64 c0 fun a0=>
  gb g (R2 n a0 some) false fun r=>k ⟨.d (D.bool r),[],[]⟩
 | _=>none
theorem AF (n:Nat):Qo Tryz.prog 55 (NG n):=by
  intro R site g avs hl k r h
  unfold NG at h
  split at h
  rotate_left
  · cases h
  obtain ⟨a0,h,a⟩:=Q2 h
  obtain ⟨res,h,hr⟩:=Qc h
  refine ⟨_,h,fun hg=>QI.conv (avs':=[.d (D.int .i64 a0)]) (.cons (a hg) (.nil)) (QE (K:=kB) (res:=res) (Q70 n) (fn:=Tryz.f55) (n:=n) (ss:=[[0]]) ?_ ?_)⟩
  · exact (Q5t n a0 kB).trans (hr hg)
  · exact Da
noncomputable def Q79:Code:=Q8 Tryz.f58
def Q1x (n:Nat):VC:=⟨QK [],gtt,[cO 0 [1,2,3] [3],cK 1 [6]]⟩
theorem Q7a (n:Nat):VCOk Tryz.prog (Q1x n):=gVC (Qe trivial)
theorem Q6n (n:Nat) (a:Int) (b d e f g h i:LL) (a1 j:Int) (K:AV→Option R):vfn (Q1x n) n Tryz.f58 [.ag [.d (D.int .i64 a),.d (D.sl 5 b),.d (D.sl 2 d),.d (D.sl 4 e),.d (D.sl 7 f),.d (D.sl 4 g),.d (D.sl 5 h),.d (D.sl 3 i)],.d (D.int .i64 a1),.d (D.int .i64 j)] [] (Wc [[0]] K)=HF n a b d e f g h i a1 j (fun k=>K (.d (D.bool k))):=
 (VP (c:=Q79) (m:=26) (tm:=[(0,.ag [dI a,dL 5 b,dL 2 d,dL 4 e,dL 7 f,dL 4 g,dL 5 h,dL 3 i]),(1,dI a1),(2,dI j)]) (rs:=[.tmp 6]) (tt:=gtt)).trans (by kernel_rfl)
def P3 (n:Nat):XH:=fun _ _ g avs _ k=>match avs with
 | [c0,c1,a]=>
  prG c0 fun l0=>(match l0 with
  | [b,c,d,e,f,h,i,j]=>prI g .i64 b fun l=>prS g 5 c fun m=>prS g 2 d fun o=>prS g 4 e fun p=>prS g 7 f fun q=>prS g 4 h fun s=>prS g 5 i fun t=>prS g 3 j fun u=>prI g .i64 c1 fun a1=>prI g .i64 a fun v=>
  gb g (HF n l m o p q s t u a1 v some) false fun r=>k ⟨.d (D.bool r),[],[]⟩
  | _=>none)
 | _=>none
theorem F2 (n:Nat):Qo Tryz.prog 58 (P3 n):=by
  intro R site g avs hl k r h
  unfold P3 at h
  split at h
  rotate_left
  · cases h
  obtain ⟨l0,h,m⟩:=Qq h
  split at h
  rotate_left
  · cases h
  obtain ⟨a,h,o⟩:=Q2 h
  obtain ⟨b,h,p⟩:=Q1 h
  obtain ⟨c,h,q⟩:=Q1 h
  obtain ⟨d,h,s⟩:=Q1 h
  obtain ⟨e,h,t⟩:=Q1 h
  obtain ⟨f,h,u⟩:=Q1 h
  obtain ⟨i,h,v⟩:=Q1 h
  obtain ⟨j,h,w⟩:=Q1 h
  obtain ⟨a1,h,x⟩:=Q2 h
  obtain ⟨l,h,y⟩:=Q2 h
  obtain ⟨res,h,hr⟩:=Qc h
  have hL:=h
  subst m
  refine ⟨_,hL,fun hg=>QI.conv (avs':=[.ag [.d (D.int .i64 a),.d (D.sl 5 b),.d (D.sl 2 c),.d (D.sl 4 d),.d (D.sl 7 e),.d (D.sl 4 f),.d (D.sl 5 i),.d (D.sl 3 j)],.d (D.int .i64 a1),.d (D.int .i64 l)]) (.cons (.ag (.cons (o hg) (.cons (p hg) (.cons (q hg) (.cons (s hg) (.cons (t hg) (.cons (u hg) (.cons (v hg) (.cons (w hg) (.nil)))))))))) (.cons (x hg) (.cons (y hg) (.nil)))) (QE (K:=kB) (res:=res) (Q7a n) (fn:=Tryz.f58) (n:=n) (ss:=[[0]]) ?_ ?_)⟩
  · exact (Q6n n a b c d e f i j a1 l kB).trans (hr hg)
  · exact Da

end Go.Vx
namespace Go.Vx
variable {R:Type}
def Mu (n:Nat) (a0 a1:Int) (K:Int→Int→Option R):Option R:=
 gb true (Q6U (32:Int)) () fun a=>
 K (IntKind.wrap .u32 (shR .u64 (IntKind.wrap .u64 ((IntKind.wrap .u64 a0)*(IntKind.wrap .u64 a1))) (32:Int))) (IntKind.wrap .u32 (IntKind.wrap .u64 ((IntKind.wrap .u64 a0)*(IntKind.wrap .u64 a1))))
def PN (n:Nat) (a0 a1:Int) (K:Int→Int→Option R):Option R:=
 gb true (Q6U (32:Int)) () fun a=>
 gb true (Q6U (32:Int)) () fun b=>
 gb true (Q6U (32:Int)) () fun c=>
 gb true (Q6U (32:Int)) () fun d=>
 gb true (Q6U (32:Int)) () fun e=>
 K (IntKind.wrap .u64 ((IntKind.wrap .u64 ((IntKind.wrap .u64 ((shR .u64 a0 (32:Int))*(shR .u64 a1 (32:Int))))+(shR .u64 (IntKind.wrap .u64 ((IntKind.wrap .u64 ((shR .u64 a0 (32:Int))*(QbG .u64 a1 (4294967295:Int))))+(shR .u64 (IntKind.wrap .u64 ((QbG .u64 a0 (4294967295:Int))*(QbG .u64 a1 (4294967295:Int)))) (32:Int)))) (32:Int))))+(shR .u64 (IntKind.wrap .u64 ((QbG .u64 (IntKind.wrap .u64 ((IntKind.wrap .u64 ((shR .u64 a0 (32:Int))*(QbG .u64 a1 (4294967295:Int))))+(shR .u64 (IntKind.wrap .u64 ((QbG .u64 a0 (4294967295:Int))*(QbG .u64 a1 (4294967295:Int)))) (32:Int)))) (4294967295:Int))+(IntKind.wrap .u64 ((QbG .u64 a0 (4294967295:Int))*(shR .u64 a1 (32:Int)))))) (32:Int)))) (IntKind.wrap .u64 (a0*a1))

def TJ (n:Nat) (a0 a1:Int) (K:Int→Int→Option R):Option R:=
 bif false then
  gb true (Mu n (IntKind.wrap .u32 a0) (IntKind.wrap .u32 a1) (fun b a=>some (b,a))) (0,0) fun a=>
  K (IntKind.wrap .u64 a.1) (IntKind.wrap .u64 a.2)
 else
  gb true (PN n a0 a1 (fun b a=>some (b,a))) (0,0) fun r2=>
  K r2.1 r2.2

end Go.Vx
set_option maxRecDepth 100000
namespace Go.Vx
open Go.Proofs
variable {R:Type}
noncomputable def Q1w:Code:=Q8 Tryz.f124
def FD (n:Nat):VC:=⟨QK [],gtt,[cK 0 [0,1],cK 1 [6],cK 2 [4,5]]⟩
theorem Q1r (n:Nat):VCOk Tryz.prog (FD n):=gVC (Qe trivial)
theorem Q0H (n:Nat) (a0 a1:Int) (K:AV→Option R):vfn (FD n) n Tryz.f124 [.d (D.int .u32 a0),.d (D.int .u32 a1)] [] (Wc [[0],[0]] K)=Mu n a0 a1 (fun a b=>K (.tup [.d (D.int .u32 a),.d (D.int .u32 b)])):=
 (VP (c:=Q1w) (m:=17) (tm:=[(0,.d (D.int .u32 a0)),(1,.d (D.int .u32 a1))]) (rs:=[.tmp 4,.tmp 5]) (tt:=gtt)).trans (by kernel_rfl)
def SY:AV→Option (Int × Int):=fun av=>match av with
 | .tup [.d (D.int .u32 a),.d (D.int .u32 b)]=>some (a,b)
 | _=>none
def Sv (n:Nat):XH:=fun _ _ g avs _ k=>match avs with
 | [c0,c1]=>prI g .u32 c0 fun a0=>prI g .u32 c1 fun a1=>
  gb g (Mu n a0 a1 (fun a b=>some (a,b))) (0,0) fun r=>k ⟨.tup [.d (D.int .u32 r.1),.d (D.int .u32 r.2)],[],[]⟩
 | _=>none
theorem Q2t (n:Nat):Qo Tryz.prog 124 (Sv n):=by
  intro R site g avs hl k r h
  unfold Sv at h
  split at h
  rotate_left
  · cases h
  obtain ⟨a0,h,a⟩:=Q2 h
  obtain ⟨a1,h,b⟩:=Q2 h
  obtain ⟨res,h,hr⟩:=Qc h
  refine ⟨_,h,fun hg=>QI.conv (avs':=[.d (D.int .u32 a0),.d (D.int .u32 a1)]) (.cons (a hg) (.cons (b hg) (.nil))) (QE (K:=SY) (res:=res) (Q1r n) (fn:=Tryz.f124) (n:=n) (ss:=[[0],[0]]) ?_ ?_)⟩
  · exact (Q0H n a0 a1 SY).trans (hr hg)
  · intro x hx
    unfold SY at hx
    split at hx
    · injection hx with hx;subst hx;rfl
    · cases hx
noncomputable def Q27:Code:=Q8 Tryz.f125
def FU (n:Nat):VC:=⟨QK [],gtt,[cK 0 [0,1],cK 1 [0,1,6],cK 2 [0,1,6,7],cK 3 [0,1,6,7,8],cK 4 [0,1,6,7,8,9],cK 5 [0,1,6,7,8,9,10],cK 6 [0,1,6,7,9,11],cK 7 [0,1,6,7,9,11,12],cK 8 [0,1,6,7,9,12,13],cK 9 [0,1,7,9,12,13],cK 10 [0,1,4],cK 11 [4,5]]⟩
theorem Q26 (n:Nat):VCOk Tryz.prog (FU n):=gVC (Qe trivial)
theorem Q0R (n:Nat) (a0 a1:Int) (K:AV→Option R):vfn (FU n) n Tryz.f125 [.d (D.int .u64 a0),.d (D.int .u64 a1)] [] (Wc [[0],[0]] K)=PN n a0 a1 (fun a b=>K (.tup [.d (D.int .u64 a),.d (D.int .u64 b)])):=
 (VP (c:=Q27) (m:=51) (tm:=[(0,.d (D.int .u64 a0)),(1,.d (D.int .u64 a1))]) (rs:=[.tmp 4,.tmp 5]) (tt:=gtt)).trans (by kernel_rfl)
def SS:AV→Option (Int × Int):=fun av=>match av with
 | .tup [.d (D.int .u64 a),.d (D.int .u64 b)]=>some (a,b)
 | _=>none
def SG (n:Nat):XH:=fun _ _ g avs _ k=>match avs with
 | [c0,c1]=>prI g .u64 c0 fun a0=>prI g .u64 c1 fun a1=>
  gb g (PN n a0 a1 (fun a b=>some (a,b))) (0,0) fun r=>k ⟨.tup [.d (D.int .u64 r.1),.d (D.int .u64 r.2)],[],[]⟩
 | _=>none
theorem Q17 (n:Nat):Qo Tryz.prog 125 (SG n):=by
  intro R site g avs hl k r h
  unfold SG at h
  split at h
  rotate_left
  · cases h
  obtain ⟨a0,h,a⟩:=Q2 h
  obtain ⟨a1,h,b⟩:=Q2 h
  obtain ⟨res,h,hr⟩:=Qc h
  refine ⟨_,h,fun hg=>QI.conv (avs':=[.d (D.int .u64 a0),.d (D.int .u64 a1)]) (.cons (a hg) (.cons (b hg) (.nil))) (QE (K:=SS) (res:=res) (Q26 n) (fn:=Tryz.f125) (n:=n) (ss:=[[0],[0]]) ?_ ?_)⟩
  · exact (Q0R n a0 a1 SS).trans (hr hg)
  · intro x hx
    unfold SS at hx
    split at hx
    · injection hx with hx;subst hx;rfl
    · cases hx

noncomputable def Q4K:Code:=Q8 Tryz.f123
def By (n:Nat):VC:=⟨QK [(124,Sv n),(125,SG n)],gtt,[cK 0 [0,1],cK 1 [6,7],cK 2 [4,5],cK 3 [8,9],cK 4 [4,5]]⟩
theorem Q44 (n:Nat):VCOk Tryz.prog (By n):=gVC (Qe ⟨Q2t n,⟨Q17 n,trivial⟩⟩)
theorem Q35 (n:Nat) (a0 a1:Int) (K:AV→Option R):vfn (By n) n Tryz.f123 [.d (D.int .u64 a0),.d (D.int .u64 a1)] [] (Wc [[0],[0]] K)=TJ n a0 a1 (fun a b=>K (.tup [.d (D.int .u64 a),.d (D.int .u64 b)])):=
 (VP (c:=Q4K) (m:=30) (tm:=[(0,.d (D.int .u64 a0)),(1,.d (D.int .u64 a1))]) (rs:=[.tmp 4,.tmp 5]) (tt:=gtt)).trans (by kernel_rfl)
def Lc:AV→Option (Int × Int):=fun av=>match av with
 | .tup [.d (D.int .u64 a),.d (D.int .u64 b)]=>some (a,b)
 | _=>none
def Mj (n:Nat):XH:=fun _ _ g avs _ k=>match avs with
 | [c0,c1]=>prI g .u64 c0 fun a0=>prI g .u64 c1 fun a1=>
  gb g (TJ n a0 a1 (fun a b=>some (a,b))) (0,0) fun r=>k ⟨.tup [.d (D.int .u64 r.1),.d (D.int .u64 r.2)],[],[]⟩
 | _=>none
theorem Q4J (n:Nat):Qo Tryz.prog 123 (Mj n):=by
  intro R site g avs hl k r h
  unfold Mj at h
  split at h
  rotate_left
  · cases h
  obtain ⟨a0,h,a⟩:=Q2 h
  obtain ⟨a1,h,b⟩:=Q2 h
  obtain ⟨res,h,hr⟩:=Qc h
  refine ⟨_,h,fun hg=>QI.conv (avs':=[.d (D.int .u64 a0),.d (D.int .u64 a1)]) (.cons (a hg) (.cons (b hg) (.nil))) (QE (K:=Lc) (res:=res) (Q44 n) (fn:=Tryz.f123) (n:=n) (ss:=[[0],[0]]) ?_ ?_)⟩
  · exact (Q35 n a0 a1 Lc).trans (hr hg)
  · intro x hx
    unfold Lc at hx
    split at hx
    · injection hx with hx;subst hx;rfl
    · cases hx

end Go.Vx
namespace Go.Vx
open Go.Proofs Go.RowKit
section
variable {P:Program}
theorem Q7W (w:World) (dT sT ty elem:TypeId) (g o dLen dCap k:Nat) (a:Addr) (sLen sCap:Nat) (cur:Array Value) (t:TypeId) (cs:List Value)
    (hu:P.underlying dT=some (.slice elem)) (hs:(P.info? elem).map (·.size)=some k)
    (hg:w.heap[g]? = some (.cells cur t (0,0))) (hn:cs.length=Nat.min sLen dLen*k)
    (hsrc:∀ j v,cs[j]? = some v→w.cell? (a.add j)=some v) (hfit:o+cs.length≤cur.size) (b:∀ v∈cs,v.oneCell'=true) :
    (Builtin.copy_ #[dT,sT] ty #[.slice (some ⟨g,o,none⟩) dLen dCap,.slice (some a) sLen sCap]).run P w =
      .ok (goInt (Nat.min sLen dLen)) (w.setRow g (cur.toList.take o++cs++cur.toList.drop (o+cs.length)).toArray):=by
  have hl:=run_loadCells_list (P:=P) w a cs hsrc
  have hst:=run_storeCells_at P g o t cs 0 cur w hg (by simpa using hfit) b
  cases hq:P.info? elem with
  | none=>simp [hq] at hs
  | some i=>
    have hi:i.size=k:=by simpa [hq] using hs
    simp [Builtin.copy_,run_underlying hu,Builtin.lenOf,Builtin.firstCells,sizeOf,typeInfo,hq,hi,← hn,hl,hst]
theorem Q9N (w:World) (dT sT ty elem:TypeId) (g o dLen dCap k:Nat) (a:Addr) (sLen sCap:Nat) (cur:Array Value) (t:TypeId) (cs:List Value) (m:Nat)
    (hu:P.underlying dT=some (.slice elem)) (hs:(P.info? elem).map (·.size)=some k)
    (hg:w.heap[g]? = some (.cells cur t (0,0))) (hm:Nat.min sLen dLen=m) (hn:cs.length=m*k)
    (hsrc:∀ j v,cs[j]? = some v→w.cell? (a.add j)=some v) (hfit:o+cs.length≤cur.size) (c:∀ v∈cs,v.oneCell'=true) :
    ∃ w',(Builtin.copy_ #[dT,sT] ty #[.slice (some ⟨g,o,none⟩) dLen dCap,.slice (some a) sLen sCap]).run P w = .ok (.int .i64 (m:Int)) w' ∧
      w'.heap[g]? = some (.cells (splice cur.toList o cs).toArray t (0,0))∧(∀ n,n≤g→∀ w0:World,Below n w0 w→Below n w0 w'):=by
  subst hm
  refine ⟨_,Q7W w dT sT ty elem g o dLen dCap k a sLen sCap cur t cs hu hs hg hn hsrc hfit c,by simpa [splice] using setRow_heap w g _ _ t _ hg,fun n hn w0 h=>⟨h.os,h.tape,h.output,by simpa [World.setRow] using h.size,fun b hb=>(setRow_other w g b _ (by omega)).trans (h.block b hb)⟩⟩
theorem Q6Z {w:World} {ops:Array Oper} {o:Oper} {a:Act} {K:Act→World→Prop} {Q:Exit→Act→World→Prop} {E:Prop} (hgd:o.guard=none) (d s:Operand) (dT sT:TypeId)
    (ho:o.op = .call { callee:=.builtin .copy,args:=#[d,s],argTypes:=#[dT,sT] }) (elem:TypeId) (k:Nat) (hu:P.underlying dT=some (.slice elem)) (hsz:(P.info? elem).map (·.size)=some k)
    (g off dLen dCap:Nat) (ad:Addr) (sLen sCap:Nat) (hd:a.eval d = .slice (some ⟨g,off,none⟩) dLen dCap) (hs:a.eval s = .slice (some ad) sLen sCap)
    (cur:Array Value) (t:TypeId) (hg:w.heap[g]? = some (.cells cur t (0,0))) (cs:List Value) (m:Nat) (hm:Nat.min sLen dLen=m) (hn:cs.length=m*k)
    (hsrc:∀ j v,cs[j]? = some v→w.cell? (ad.add j)=some v) (hfit:off+cs.length≤cur.size) (b:∀ v∈cs,v.oneCell'=true)
    (h:∀ w',w'.heap[g]? = some (.cells (splice cur.toList off cs).toArray t (0,0))→(∀ n,n≤g→∀ w0:World,Below n w0 w→Below n w0 w')→K (a.put o.dst (.int .i64 (m:Int))) w') :
    if Region.wanted o (yielded ops a.tmps)=true then Oper.wp P o a w K Q else E:=by
  have hw:Region.wanted o (yielded ops a.tmps)=true:=by simp [Region.wanted,hgd]
  rw [if_pos hw]
  obtain ⟨w',hrun,c,e⟩:=Q9N (P:=P) w dT sT o.type elem g off dLen dCap k ad sLen sCap cur t cs m hu hsz hg hm hn hsrc hfit b
  unfold Oper.wp
  simp [execOp,ho,resolve,invoke,builtin,hd,hs,hrun,Result.andThen]
  exact h w' c e
end
def Am (v0 a:Value):Nat→List Value
  | 0=>[]
  | m+1=>v0::a::Am v0 a m
theorem J2 (v0 a:Value):∀ m,(Am v0 a m).length=m*2
  | 0=>rfl
  | m+1=>by simp [Am,J2 v0 a m];omega
theorem Q8H (v0 a:Value) (k:Nat):∀ m,Am v0 a (m+k)=Am v0 a m++Am v0 a k
  | 0=>by simp [Am]
  | m+1=>by rw [show m+1+k=(m+k)+1 by omega];simp [Am,Q8H v0 a k m]
theorem Qeh (v0 a:Value) {m k:Nat} (h:m≤k):(Am v0 a k).take (m*2)=Am v0 a m:=by
  obtain ⟨d,rfl⟩:=Nat.exists_eq_add_of_le h
  rw [Q8H,List.take_append_of_le_length (by rw [J2];omega),List.take_of_length_le (by rw [J2];omega)]
theorem Q8n {v0 a:Value}:∀ {m:Nat} {v:Value},v∈Am v0 a m→v=v0∨v=a
  | m+1,v,h=>by
    simp only [Am,List.mem_cons] at h
    rcases h with h | h | h
    · exact .inl h
    · exact .inr h
    · exact Q8n h
theorem QdQ (v0 a:Value):∀ (m i:Nat),i<m→(Am v0 a m)[i*2]? = some v0∧(Am v0 a m)[i*2+1]? = some a
  | m+1,0,h=>by simp [Am]
  | m+1,i+1,h=>by
    have:=QdQ v0 a m i (by omega)
    rw [show (i+1)*2=i*2+1+1 by omega]
    simpa [Am] using this
theorem mul_one (c:Nat) (hc:c≤100000):TJ 0 1 (c:Int) (fun a b=>some (a,b))=some (0,(c:Int)):=by
  have d:shR .u64 1 (32:Int)=0:=by decide
  have e:shR .u64 (c:Int) (32:Int)=0:=by
    show (c:Int).fdiv (2 ^ (min (32:Int).toNat IntKind.u64.bits))=0
    rw [show (min (32:Int).toNat IntKind.u64.bits)=32 from rfl,Int.fdiv_eq_ediv_of_nonneg _ (by decide)]
    omega
  have f:QbG .u64 1 (4294967295:Int)=1:=by decide
  have g:QbG .u64 (c:Int) (4294967295:Int)=(c:Int):=by
    unfold QbG
    rw [BitVec.toNat_and,IntKind.wrap_u64]
    have e1:(BitVec.ofInt IntKind.u64.bits (c:Int)).toNat=c:=by
      rw [BitVec.toNat_ofInt]
      show ((c:Int) % ((2 ^ 64:Nat):Int)).toNat=c
      omega
    have e2:(BitVec.ofInt IntKind.u64.bits (4294967295:Int)).toNat=2 ^ 32-1:=by decide
    rw [e1,e2,Nat.and_two_pow_sub_one_eq_mod]
    omega
  have w0:IntKind.u64.wrap 0=0:=by decide
  have wc:IntKind.u64.wrap (c:Int)=(c:Int):=by rw [IntKind.wrap_u64];omega
  have s0:shR .u64 0 (32:Int)=0:=by decide
  have a0:QbG .u64 0 (4294967295:Int)=0:=by decide
  simp only [TJ,PN,cond_false,Q6U,d,e,f,g,gb,Int.zero_mul,Int.one_mul,Int.mul_zero,Int.add_zero,w0,wc,s0,a0]
  rfl
theorem Qb2 {β:Nat→Option Nat} {S:Nat→Prop} {h:Nat→Option Ob} {w:World} {tm:Nat→Value} {v:Value} {k:IntKind} {n:Int} (h:RdA β S h w tm v (.d (.int k n))):v = .int k n:=by
  cases h with
  | d _ _ q=>exact Dr q
  | dang _ _ _ hl=>cases hl
theorem Qe9 (c:Nat) (hc:c≤100000) (w:World):Calls Tryz.prog 123 #[.int .u64 1,.int .u64 (c:Int)] w fun e w'=>e = .returned (.tuple #[.int .u64 0,.int .u64 c])∧RowKit.Below w.heap.size w w':=by
  have he:Mj 0 Dl 0 true [.d (.int .u64 1),.d (.int .u64 (c:Int))] (fun _=>none) some=some ⟨.tup [.d (D.int .u64 0),.d (D.int .u64 (c:Int))],[],[]⟩:=by
    show gb true (TJ 0 1 (c:Int) (fun f g=>some (f,g))) (0,0) (fun r=>(some ⟨.tup [.d (D.int .u64 r.1),.d (D.int .u64 r.2)],[],[]⟩:Option Dl))=_
    rw [mul_one c hc]
    rfl
  refine (Q50 (S:=fun _=>False) (Zb (Q4J 0) he) (fun _ h=>h.elim) (Nf (.d _ _ (.int _ _)) (.d _ _ (.int _ _)))).mono fun e w' ⟨v,S',i,j,k⟩=>⟨?_,k⟩
  rw [i]
  cases j with
  | tup cs l hl hr=>
    have d:=Qb2 (hr 0 _ rfl)
    have q1:=Qb2 (hr 1 _ rfl)
    obtain ⟨l⟩:=cs
    match l,hl with
    | [a,b],_=>
      simp at d q1
      rw [d,q1]
  | dang v av l hl=>cases hl
noncomputable def QfQ:Code:=(TH (Tryz.f122.body.getD .skip)).getD 9 .skip
set_option maxHeartbeats 8000000 in
set_option maxRecDepth 100000 in
theorem Tryz.repeat_r9 (b d f g i l o p q r s t u x y z aa ab ac ad ae af ag ah ai aj ak al am an ao ap aq ar au av ax ay az ba bb bc bd be bf aw v0 a:Value) (H c m k:Nat) (cu:Array Value) (w:World) (bg:m<c) (hlt':(m:Int)<(c:Int)) (hk:Nat.min m (c-m)=k) (hcell:w.heap[H]? = some (.cells cu 201 (0,0))) (h0:(0:Int)≤(m:Int)) (hmc:(m:Int)≤(c:Int))
    (hsrc:∀ (j:Nat) (v:Value),(Am v0 a k)[j]? = some v→w.drew.cell? ((⟨H,0,none⟩:Addr).add j)=some v) (hfit:m*2+(Am v0 a k).length≤cu.size) (hone:∀ v∈Am v0 a k,v.oneCell'=true) (hwm:IntKind.i64.wrap ((m:Int)+(k:Int))=((m+k:Nat):Int)) :
    Code.wp Tryz.prog QfQ (QbA fun act w'=>∃ (bh bi bj bk bl bm bn bo bp:Value),act=⟨(b::d::f::g::i::l::o::.slice (some ⟨H,0,none⟩) c c::.int .i64 ((m:Int)+(k:Int))::p::q::r::s::t::u::x::y::z::aa::ab::ac::ad::ae::af::ag::ah::ai::aj::ak::al::am::an::ao::ap::aq::ar::au::av::bh::bi::bj::bk::bl::bm::bn::bo::bp::aw::[]).toArray,[]⟩∧w'.heap[H]? = some (.cells (splice cu.toList (m*2) (Am v0 a k)).toArray 201 (0,0))∧(∀ n,n≤H→∀ w0:World,Below n w0 w→Below n w0 w')) ⟨(b::d::f::g::i::l::o::.slice (some ⟨H,0,none⟩) c c::.int .i64 (m:Int)::p::q::r::s::t::u::x::y::z::aa::ab::ac::ad::ae::af::ag::ah::ai::aj::ak::al::am::an::ao::ap::aq::ar::au::av::ax::ay::az::ba::bb::bc::bd::be::bf::aw::[]).toArray,[]⟩ w:=by
  conv=>arg 2;whnf
  have mixed:Tryz.prog.follows .mixedOrders=true:=by kernel_rfl
  have hsz:(Tryz.prog.info? 201).map (·.size)=some 2:=by kernel_rfl
  have hcm:c=m→0=m*2:=fun e=>absurd e (Nat.ne_of_gt bg)
  have hcell':w.drew.heap[H]? = some (.cells cu 201 (0,0)):=hcell
  go_region_law (first
    | (refine Q6Z (by rfl) _ _ 176 176 (by rfl) 201 2 Tryz.underlying176 hsz H (m*2) (c-m) (c-m) ⟨H,0,none⟩ m c (by go_simp;exact hcm) (by go_simp) cu 201 hcell' (Am v0 a k) k hk (J2 _ _ _) hsrc hfit hone ?_;intro w3 hH3 hK3))
  all_goals
    dsimp only [QbA]
    exact ⟨_,_,_,_,_,_,_,_,_,rfl,hH3,fun n hn w0 h=>hK3 n hn w0 (h.trans ⟨rfl,rfl,rfl,Nat.le_refl _,fun _ _=>rfl⟩)⟩
theorem Qcp {v0 a:Value} {m k:Nat} {L:List Value} (htk:L.take (m*2)=Am v0 a m):(splice L (m*2) (Am v0 a k)).take ((m+k)*2)=Am v0 a (m+k):=by
  simp only [splice]
  rw [htk,List.take_append,List.take_of_length_le (by rw [J2];omega),J2,List.take_append_of_le_length (by rw [J2];omega),List.take_of_length_le (by rw [J2];omega),Q8H]
theorem QhG {m k c:Nat} (h:m+k≤c) (hk:0<k):c-(intOf (.int .i64 ((m:Int)+(k:Int)))).toNat<c-(intOf (.int .i64 (m:Int))).toNat:=by
  simp only [intOf]
  omega
set_option maxHeartbeats 4000000 in
set_option maxRecDepth 100000 in
theorem Tryz.repeat_calls (w:World) (ad:Addr) (cap c:Nat) (v0 b:Value) (hc:c≤100000) (o:w.cell? (ad.add 0)=some v0) (r:w.cell? (ad.add 1)=some b) (o0:v0.oneCell'=true) (o1:b.oneCell'=true) :
    Calls Tryz.prog 122 #[.slice (some ad) 1 cap,.int .i64 (c:Int)] w fun e w'=>∃ (H:Nat) (cur:Array Value),e = .returned (.slice (some ⟨H,0,none⟩) c c)∧w.heap.size≤H∧w'.heap[H]? = some (.cells cur 201 (0,0))∧cur.size=c*2∧cur.toList=Am v0 b c∧Below w.heap.size w w':=by
  obtain ⟨s,hi,t⟩:=Option.map_eq_some_iff.1 (show (Tryz.prog.info? 201).map (fun i=>(i.zero.isSome,i.size,i.bytes))=some (true,2,16) by kernel_rfl)
  obtain ⟨hz,g⟩:=Prod.mk.inj t
  obtain ⟨g,u⟩:=Prod.mk.inj g
  obtain ⟨z,hz⟩:=Option.isSome_iff_exists.1 hz
  have hmk:∀ w:World,∃ cur:Array Value,cur.size=c*2∧(Instr.makeSlice 176 (.int .i64 (c:Int)) (.int .i64 (c:Int))).run Tryz.prog w = .ok (.slice (some ⟨w.heap.size,0,none⟩) c c) (w.alloc (.cells cur 201)):=by
    intro w
    refine ⟨madeCells z.cells (c*2),size_madeCells _ _,?_⟩
    have:=run_make (P:=Tryz.prog) w 176 201 s z Tryz.underlying176 hi hz .i64 .i64 (c:Int) (c:Int) (by omega) (by omega) (by rw [u];omega) (by omega)
    rw [g] at this
    exact this
  have hsz:(Tryz.prog.info? 201).map (·.size)=some 2:=by rw [hi];simp [g]
  have hwc:IntKind.u64.wrap (c:Int)=(c:Int):=by rw [IntKind.wrap_u64];omega
  have hwi:IntKind.i64.wrap (c:Int)=(c:Int):=by rw [IntKind.wrap_i64];omega
  have g0:(0:Int)≤(c:Int):=by omega
  have g1:¬ (9223372036854775807:Int)<(c:Int):=by omega
  go_enter Tryz.func122,Tryz.ntmps122
  go_wp2_with (go_at_call 123;refine (Qe9 c hc _).mono ?_)
  rintro e f rfl hB
  obtain ⟨cur,hcs,hmw⟩:=hmk f
  clear hmk
  have hB1:=VD hB (Nat.le_refl _) (.cells cur 201)
  have hold:∀ a:Addr,a.block<w.heap.size→(f.alloc (.cells cur 201)).cell? a=w.cell? a:=fun a ha=>BQ (hB1.block _ ha)
  have hab:=fun (j:Nat)=>Hj ad j
  have hlt:ad.block<w.heap.size:=by have:=World.block_lt_of_cell? w _ o;rwa [Hj] at this
  have hH:(f.alloc (.cells cur 201)).heap[f.heap.size]? = some (.cells cur 201 (0,0)):=heap_alloc_new f _
  obtain ⟨d,p⟩:∃ d,Nat.min 1 c=d:=⟨_,rfl⟩
  have q:d≤1∧d≤c∧(0<c→0<d):=by rw [← p];simp only [Nat.min_def];split <;> omega
  obtain ⟨w2,hrun,hH2,hK2⟩:=Q9N (P:=Tryz.prog) (f.alloc (.cells cur 201)) 176 176 3 201 f.heap.size 0 c c 2 ad 1 cap cur 201 (Am v0 b d) d Tryz.underlying176 hsz hH p (J2 _ _ _)
    (fun j v hj=>by
      have l:=(List.getElem?_eq_some_iff.1 hj).1
      rw [J2] at l
      rw [hold _ (by rw [Hj];exact hlt)]
      have hm:d=1:=by omega
      subst hm
      obtain rfl | rfl:j=0∨j=1:=by omega
      · simp [Am] at hj;rw [← hj];exact o
      · simp [Am] at hj;rw [← hj];exact r)
    (by rw [J2];omega) (fun v hv=>by rcases Q8n hv with rfl | rfl <;> assumption)
  have hB2:=hK2 w.heap.size hB.size w hB1
  have hHw:=hB.size
  generalize hHe:f.heap.size=H at *
  go_wp2
  go_loopw [8] (fun i wr=>∃ (m:Nat) (cu:Array Value),i = .int .i64 (m:Int)∧m≤c∧(0<c→0<m)∧wr.heap[H]? = some (.cells cu 201 (0,0))∧cu.size=c*2∧cu.toList.take (m*2)=Am v0 b m∧Below w.heap.size w wr)
    (fun i _=>c-(intOf i).toNat)
  case atStart=>
    refine ⟨d,_,rfl,q.2.1,q.2.2,hH2,?_,?_,hB2⟩
    · simp only [List.size_toArray]
      rw [length_splice _ _ _ (by rw [J2];simp;omega)]
      simpa using hcs
    · simp only [splice,List.take_zero,List.nil_append]
      rw [List.take_append_of_le_length (by rw [J2];exact Nat.le_refl _),List.take_of_length_le (by rw [J2];exact Nat.le_refl _)]
  case round=>
    obtain ⟨m,cu,rfl,hmc,hmp,hcell,hcu,htk,hF⟩:=hrel
    clear hmw hrun
    by_cases x:m<c
    · have hlt':((m:Int)<(c:Int)):=by omega
      have hp:0<m:=hmp (by omega)
      obtain ⟨k,hk⟩:∃ k,Nat.min m (c-m)=k:=⟨_,rfl⟩
      have n:k≤m∧m+k≤c∧0<k:=by rw [← hk];simp only [Nat.min_def];split <;> omega
      have e1:(if c=m then (some ⟨H,0,none⟩:Option Addr) else (some (⟨H,0,none⟩:Addr)).map (·.add (m*2)))=some ⟨H,m*2,none⟩:=by
        rw [if_neg (by omega)];simp [T8]
      have hsrc:∀ (j:Nat) (v:Value),(Am v0 b k)[j]? = some v→wr.drew.cell? ((⟨H,0,none⟩:Addr).add j)=some v:=by
        intro j v hj
        have l:=(List.getElem?_eq_some_iff.1 hj).1
        rw [J2] at l
        rw [T8,Nat.zero_add]
        show wr.cell? _=_
        rw [cell_of_row wr H j cu 201 (0,0) hcell,← Array.getElem?_toList]
        have e:(cu.toList.take (m*2))[j]? = some v:=by
          rw [htk]
          have e2:=Qeh v0 b n.1
          rw [← e2,List.getElem?_take,if_pos l] at hj
          exact hj
        rw [List.getElem?_take] at e
        split at e
        · exact e
        · cases e
      have hfit:m*2+(Am v0 b k).length≤cu.size:=by rw [J2];omega
      have hone:∀ v∈Am v0 b k,v.oneCell'=true:=fun v hv=>by rcases Q8n hv with rfl | rfl <;> assumption
      have hcell':wr.drew.heap[H]? = some (.cells cu 201 (0,0)):=hcell
      have hwm:IntKind.i64.wrap ((m:Int)+(k:Int))=((m+k:Nat):Int):=by rw [IntKind.wrap_i64];omega
      go_wp2
      refine Code.wp_mono ?_ (Tryz.repeat_r9 _ _ _ _ _ _ _ _ _ _ _ _ _ _ _ _ _ _ _ _ _ _ _ _ _ _ _ _ _ _ _ _ _ _ _ _ _ _ _ _ _ _ _ _ _ _ v0 b H c m k cu wr x hlt' hk hcell (by omega) (by omega) hsrc hfit hone hwm)
      rintro e act w3 h
      cases e with
      | normal=>
        obtain ⟨_,_,_,_,_,_,_,_,_,rfl,hH3,hK3⟩:=h
        go_wp2
        refine ⟨⟨m+k,_,by rw [Int.natCast_add],n.2.1,fun _=>Nat.lt_of_lt_of_le hp (Nat.le_add_right m k),hH3,?_,?_,hK3 _ hHw w hF⟩,?_⟩
        · simp only [List.size_toArray]
          rw [length_splice _ _ _ (by simpa using hfit)]
          simpa using hcu
        · exact Qcp htk
        · exact QhG n.2.1 n.2.2
      | _=>exact h.elim
    · have y:m=c:=by omega
      subst y
      go_wp2
      refine bodyPost_ret (results_tmp rfl _ _ _) rfl ?_
      refine ⟨H,cu,rfl,hHw,hcell,hcu,?_,hF⟩
      rw [← htk,List.take_of_length_le (by simpa using Nat.le_of_eq hcu)]
theorem QfA {S:Nat→Prop} {w:World} {v:Value} {x:D} (h:Rd S w v x):v.oneCell'=true:=by cases h <;> rfl
theorem Qe8 {S:Nat→Prop} {w:World} {H c:Nat} {cur:Array Value} {v0 a:Value} {d f:D} (g:Rd S w v0 d) (k:Rd S w a f) (hH:w.heap[H]? = some (.cells cur 201 (0,0))) (hcu:cur.toList=Am v0 a c) :
    Rd (fun b=>S b∨b=H) w (.slice (some ⟨H,0,none⟩) c c) (.sl 2 (List.replicate c [d,f])):=by
  have e:=Rd.sl (S:=fun b=>S b∨b=H) (w:=w) ⟨H,0,none⟩ c 2 (List.replicate c [d,f]) (fun i j=>if j=0 then v0 else a) (.inr rfl) (by simp) (fun i r hr=>?_) (fun i j r x hr hx=>?_) (fun i j r x hr hx=>?_)
  · simpa using e
  · obtain ⟨_,rfl⟩:=List.mem_replicate.1 (List.mem_of_getElem? hr);rfl
  · have hi:i<c:=by have:=(List.getElem?_eq_some_iff.1 hr).1;simpa using this
    obtain ⟨_,rfl⟩:=List.mem_replicate.1 (List.mem_of_getElem? hr)
    have hj:=(List.getElem?_eq_some_iff.1 hx).1
    simp at hj
    rw [T8,Nat.zero_add,cell_of_row w H _ cur 201 (0,0) hH,← Array.getElem?_toList,hcu]
    have:=QdQ v0 a c i hi
    obtain rfl | rfl:j=0∨j=1:=by omega
    · simpa using this.1
    · simpa using this.2
  · obtain ⟨_,rfl⟩:=List.mem_replicate.1 (List.mem_of_getElem? hr)
    have hj:=(List.getElem?_eq_some_iff.1 hx).1
    simp at hj
    obtain rfl | rfl:j=0∨j=1:=by omega
    · simp at hx;subst hx;simpa using g.mono (fun _ h=>.inl h) (fun _ _=>rfl)
    · simp at hx;subst hx;simpa using k.mono (fun _ h=>.inl h) (fun _ _=>rfl)
theorem Q7Z (n:Nat) (a0:LL) (a1:Int) (res:LL) {hl:Nat→Option Ob} (h:Qr n a0 a1 some=some res):QI Tryz.prog 122 [.d (D.sl 2 a0),.d (D.int .i64 a1)] hl ⟨.d (D.sl 2 res),[],[]⟩:=by
  unfold Qr at h
  obtain ⟨hc,h⟩:=Xa h
  simp only [Bool.and_eq_true,decide_eq_true_eq] at hc
  obtain ⟨⟨e1,hp⟩,hq⟩:=hc
  have e1:=Nat.eq_of_beq_eq_true e1
  injection h with h
  obtain ⟨c,rfl⟩:=Int.eq_ofNat_of_zero_le hp
  match a0,e1 with
  | [row],_=>
    subst h
    refine Q0n (fn:=Tryz.f122) (by kernel_rfl) (by kernel_rfl) (by kernel_rfl) rfl rfl fun S w args hS hA=>?_
    obtain ⟨hl,hA⟩:=hA
    match args,hl with
    | [i,j],_=>
      have a:=hA 0 _ _ rfl rfl
      have q1:=Qb2 (hA 1 _ _ rfl rfl)
      subst q1
      cases a with
      | dang _ _ _ hl=>cases hl
      | d _ _ a=>
        cases a with
        | sl ad cap _ _ cf hSa hcap hsz hcells hrd=>
          have hlen:=hsz 0 row rfl
          match row,hlen with
          | [k,l],_=>
            have k0:=hcells 0 0 _ _ rfl rfl
            have k1:=hcells 0 1 _ _ rfl rfl
            have f:=hrd 0 0 _ _ rfl rfl
            have g:=hrd 0 1 _ _ rfl rfl
            refine (Tryz.repeat_calls w ad cap c (cf 0 0) (cf 0 1) (by omega) k0 k1 (QfA f) (QfA g)).mono fun e w' ⟨H,cur,he,hH,hcell,hcs,hcu,hB⟩=>?_
            have hHlt:H<w'.heap.size:=(Array.getElem?_eq_some_iff.1 hcell).1
            refine ⟨_,fun b=>S b∨b=H,he,fun b h=>.inl h,fun b h=>h.elim .inl fun e=>.inr (by omega),fun b h=>h.elim (fun h=>Nat.lt_of_lt_of_le (hS b h) hB.size) (fun e=>by omega),.d _ _ ?_,hB⟩
            exact Qe8 (Rd.mono (fun _ h=>h) (fun b hb=>hB.block b (hS b hb)) f) (Rd.mono (fun _ h=>h) (fun b hb=>hB.block b (hS b hb)) g) hcell hcu
end Go.Vx
namespace Go.Vx
open Go.Proofs
def Y9 (n:Nat):XH:=fun _ _ g avs _ k=>match avs with
 | [c0,c1]=>prS g 2 c0 fun a0=>prI g .i64 c1 fun a1=>
  gb g (Qr n a0 a1 some) [] fun r=>k ⟨.d (D.sl 2 r),[],[]⟩
 | _=>none
theorem US (n:Nat):Qo Tryz.prog 122 (Y9 n):=by
  intro R site g avs hl k r h
  unfold Y9 at h
  split at h
  rotate_left
  · cases h
  replace h:=Q1 h
  obtain ⟨a0,h,a⟩:=h
  replace h:=Q2 h
  obtain ⟨a1,h,b⟩:=h
  replace h:=Qc h
  obtain ⟨res,h,hr⟩:=h
  exact ⟨_,h,fun hg=>QI.conv (avs':=[.d (D.sl 2 a0),.d (D.int .i64 a1)]) (.cons (a hg) (.cons (b hg) .nil)) (Q7Z n a0 a1 res (hr hg))⟩
end Go.Vx
set_option maxRecDepth 100000
namespace Go.Vx
open Go.Proofs
variable {R:Type}
noncomputable def Fu:Code:=Q8 Tryz.f118
noncomputable def Rb:Code:=cA [1,1,1,0,1,2,2] (Q8 Tryz.f118)
noncomputable def Rj:Code:=cA [1,1,1,1] (Q8 Tryz.f118)
def Fs (a:LL) (b c:Int) (d:Bool) (e f g h i:LL) (j:Int) (k:LL):St:=⟨73,[(2,.ptr 2 0),(3,.ptr 3 0),(8,.arr 1008),(27,dL 2 a),(28,dI b),(29,dI c),(30,dB d)],[(2,.box [dL 1 e,dL 1 f,dL 5 g,dL 6 h]),(3,.box [dL 2 i,dI j]),(1008,.arr 201 2 k)]⟩
def Z3 (n:Nat):VC:=⟨QK [(52,NE n),(122,Y9 n)],gtt,[cO 0 [2,3] [2,3],cO 1 [2,3,7] [2,3],cO 2 [2,3,7,17] [2,3],cK 3 [4,5,6],cO 4 [2,3,8] [2,3],(5,⟨[2,3,8,27,28,29],[(2,2),(3,3)],[(8,1008,201,2)],[],[]⟩),cO 6 [2,3,8,27,28,29,30] [2,3,1008],cO 7 [2,3,8,10,27,28,29] [2,3,10,1008],cO 8 [2,3,8,10,11,27,28,29] [2,3,10,11,1008],cO 9 [2,3,8,10,11,12,27,28,29] [2,3,10,11,12,1008],cO 10 [2,3,8,11,12,27,28,29,46] [2,3,11,12,1008],cO 11 [2,3,8,11,12,27,28,29] [2,3,11,12,1008],cO 12 [2,3,8,27,28,29] [2,3,57],cO 13 [2,3,8,27,28,29] [2,3,57],cO 14 [2,3,8,61] [2,3,1008],cK 15 [4,5,6],cO 16 [4,5,6] [1008],(3000000006,⟨[2,3,8,27,28,29],(zp [2,3,57,1008] [2,3,1008,1008]),[],[],[]⟩)]⟩
theorem Q7k (n:Nat):VCOk Tryz.prog (Z3 n):=gVC (Qe ⟨AC n,⟨US n,trivial⟩⟩)
theorem Q31 (n:Nat) (a b c d e:LL) (f:Int) (k:Exit→St→Option R):Qi (Z3 n) n Fu ⟨73,[(0,.ag [dL 1 a,dL 1 b,dL 5 c,dL 6 d]),(1,.ag [dL 2 e,dI f])],[]⟩ k=R8 n a b c d e f (fun g=>k .ret ⟨73,[(4,.nil),(5,dI (0:Int)),(6,dI g)],[]⟩) (fun h i=>X7 (lB (Z3 n) n Rb) n ⟨73,[(2,.ptr 2 0),(3,.ptr 3 0),(8,.arr 1008),(27,dL 2 h),(28,dI i),(29,dI (0:Int))],[(1008,.arr 201 2 []),(2,.box [dL 1 a,dL 1 b,dL 5 c,dL 6 d]),(3,.box [dL 2 e,dI f])]⟩ (Q9 0 (Xf (Z3 n) n Rj k))):=by kernel_rfl
theorem Q32 (n:Nat) (a:LL) (w7 h:Int) (b c d e f:LL) (g:Int) (i:LL) (k:Exit→St→Option R):Qi (Z3 n) n Rb ⟨73,[(2,.ptr 2 0),(3,.ptr 3 0),(8,.arr 1008),(27,dL 2 a),(28,dI w7),(29,dI h)],[(2,.box [dL 1 b,dL 1 c,dL 5 d,dL 6 e]),(3,.box [dL 2 f,dI g]),(1008,.arr 201 2 i)]⟩ k=G7 n a w7 h b c d e f g i (fun j l=>k .normal ⟨73,[(2,.ptr 2 0),(3,.ptr 3 0),(8,.arr 57),(27,dL 2 a),(28,dI w7),(29,dI j)],[(2,.box [dL 1 b,dL 1 c,dL 5 d,dL 6 e]),(3,.box [dL 2 f,dI g]),(57,.arr 201 2 l)]⟩) (fun m=>k (.exit 0) (Fs a w7 h m b c d e f g i)):=by kernel_rfl
theorem FS (n:Nat) (c:LL) (w7:Int) (d e f g h:LL) (i:Int) (k:Exit→St→Option R):∀ (m:Nat) (a:Int) (b:LL),X7 (lB (Z3 n) n Rb) m ⟨73,[(2,.ptr 2 0),(3,.ptr 3 0),(8,.arr 1008),(27,dL 2 c),(28,dI w7),(29,dI a)],[(2,.box [dL 1 d,dL 1 e,dL 5 f,dL 6 g]),(3,.box [dL 2 h,dI i]),(1008,.arr 201 2 b)]⟩ k=UH n c w7 d e f g h i (fun a j b=>k (.exit 0) (Fs c w7 a j d e f g h i b)) m a b
 | 0,_,_=>rfl
 | m+1,a,b=>(lS (by kernel_rfl) m k).trans ((Q32 n c w7 a d e f g h i b (WB (lB (Z3 n) n Rb) m k)).trans (cg2 (fun l o=>G7 n c w7 a d e f g h i b l o ) (funext fun p=>funext fun q=>(XM (by kernel_rfl) m k).trans (FS n c w7 d e f g h i k m p q)) rfl))
theorem Q3k (n:Nat) (b:LL) (w7 c:Int) (d:Bool) (e f g h i:LL) (j:Int) (a:LL) (k:Exit→St→Option R):(Q9 0 (Xf (Z3 n) n Rj k)) (.exit 0) (Fs b w7 c d e f g h i j a)=H8 n b w7 c d e f g h i j a (k .ret ⟨73,[(4,.nil),(5,dI (0:Int)),(6,dI (7:Int))],[]⟩) (fun l=>k .ret ⟨73,[(4,.arr 1008),(5,dI l),(6,dI (0:Int))],[(1008,.arr 201 2 a)]⟩):=by kernel_rfl
theorem Q3i (n:Nat) (a b c d e:LL) (f:Int) (k:Exit→St→Option R):Qi (Z3 n) n Fu ⟨73,[(0,.ag [dL 1 a,dL 1 b,dL 5 c,dL 6 d]),(1,.ag [dL 2 e,dI f])],[]⟩ k=Fm n a b c d e f (fun j=>k .ret ⟨73,[(4,.nil),(5,dI (0:Int)),(6,dI j)],[]⟩) (fun l g=>k .ret ⟨73,[(4,.arr 1008),(5,dI l),(6,dI (0:Int))],[(1008,.arr 201 2 g)]⟩):=
 (Q31 n a b c d e f k).trans (cg2 (fun h m=>R8 n a b c d e f h m ) rfl (funext fun i=>funext fun w7=>((XM (by kernel_rfl) n (Q9 0 (Xf (Z3 n) n Rj k))).trans (FS n i w7 a b c d e f (Q9 0 (Xf (Z3 n) n Rj k)) n (0:Int) [])).trans (cg1 (fun h=>UH n i w7 a b c d e f h n (0:Int) []) (funext fun o=>funext fun p=>funext fun g=>(Q3k n i w7 o p a b c d e f g k)))))
theorem Q5e (n:Nat) (a c d e f:LL) (g:Int) (K:AV→Option R):vfn (Z3 n) n Tryz.f118 [.ag [.d (D.sl 1 a),.d (D.sl 1 c),.d (D.sl 5 d),.d (D.sl 6 e)],.ag [.d (D.sl 2 f),.d (D.int .i64 g)]] [] (Wc [[2],[0],[0]] K)=M6 n a c d e f g (fun h i r2=>K (.tup [.d (D.sl 2 h),.d (D.int .i64 i),.d (D.int .i64 r2)])):=
 Eq.trans (b:=Qi (Z3 n) n Fu ⟨73,[(0,.ag [dL 1 a,dL 1 c,dL 5 d,dL 6 e]),(1,.ag [dL 2 f,dI g])],[]⟩ (K3 gtt [.tmp 4,.tmp 5,.tmp 6] (Wc [[2],[0],[0]] K))) VP ((Q3i n a c d e f g (K3 gtt [.tmp 4,.tmp 5,.tmp 6] (Wc [[2],[0],[0]] K))).trans (by kernel_rfl))
def EQ:AV→Option (LL × Int × Int):=fun av=>match av with
 | .tup [.d (D.sl 2 a),.d (D.int .i64 b),.d (D.int .i64 r2)]=>some (a,b,r2)
 | _=>none
def ES (n:Nat):XH:=fun _ _ g avs _ k=>match avs with
 | [c0,c1]=>
  prG c0 fun l0=>(match l0 with
  | [a,b,c,d]=>prS g 1 a fun e=>prS g 1 b fun f=>prS g 5 c fun h=>prS g 6 d fun i=>
  prG c1 fun l1=>(match l1 with
  | [j,l]=>prS g 2 j fun m=>prI g .i64 l fun o=>
  gb g (M6 n e f h i m o (fun p q r2=>some (p,q,r2))) ([],0,0) fun r=>k ⟨.tup [.d (D.sl 2 r.1),.d (D.int .i64 r.2.1),.d (D.int .i64 r.2.2)],[],[]⟩
  | _=>none)
  | _=>none)
 | _=>none
theorem Q6M (n:Nat):Qo Tryz.prog 118 (ES n):=by
  intro R site g avs hl k r h
  unfold ES at h
  split at h
  rotate_left
  · cases h
  obtain ⟨l0,h,i⟩:=Qq h
  split at h
  rotate_left
  · cases h
  obtain ⟨a,h,j⟩:=Q1 h
  obtain ⟨b,h,l⟩:=Q1 h
  obtain ⟨c,h,m⟩:=Q1 h
  obtain ⟨d,h,o⟩:=Q1 h
  obtain ⟨l1,h,e1⟩:=Qq h
  split at h
  rotate_left
  · cases h
  obtain ⟨e,h,p⟩:=Q1 h
  obtain ⟨f,h,q⟩:=Q2 h
  obtain ⟨res,h,hr⟩:=Qc h
  have hL:=h
  subst i e1
  refine ⟨_,hL,fun hg=>QI.conv (avs':=[.ag [.d (D.sl 1 a),.d (D.sl 1 b),.d (D.sl 5 c),.d (D.sl 6 d)],.ag [.d (D.sl 2 e),.d (D.int .i64 f)]]) (.cons (.ag (.cons (j hg) (.cons (l hg) (.cons (m hg) (.cons (o hg) (.nil)))))) (.cons (.ag (.cons (p hg) (.cons (q hg) (.nil)))) (.nil))) (QE (K:=EQ) (res:=res) (Q7k n) (fn:=Tryz.f118) (n:=n) (ss:=[[2],[0],[0]]) ?_ ?_)⟩
  · exact (Q5e n a b c d e f EQ).trans (hr hg)
  · intro x hx
    unfold EQ at hx
    split at hx
    · injection hx with hx;subst hx;rfl
    · cases hx
noncomputable def BA:Code:=Q8 Tryz.f119
def Nz (n:Nat):VC:=⟨QK [],gtt,[cO 0 [1] [1],cK 1 [2]]⟩
theorem A0 (n:Nat):VCOk Tryz.prog (Nz n):=gVC (Qe trivial)
theorem DO (n:Nat) (a:LL) (b:Int) (K:AV→Option R):vfn (Nz n) n Tryz.f119 [.ag [.d (D.sl 2 a),.d (D.int .i64 b)]] [] (Wc [[2]] K)=VH n a b (fun d=>K (.d (D.sl 2 d))):=
 (VP (c:=BA) (m:=12) (tm:=[(0,.ag [dL 2 a,dI b])]) (rs:=[.tmp 2]) (tt:=gtt)).trans (by kernel_rfl)
def KV:AV→Option (LL):=fun av=>match av with
 | .d (D.sl 2 a)=>some a
 | _=>none
def H3 (n:Nat):XH:=fun _ _ g avs _ k=>match avs with
 | [c0]=>
  prG c0 fun l0=>(match l0 with
  | [a,b]=>prS g 2 a fun c=>prI g .i64 b fun d=>
  gb g (VH n c d some) [] fun r=>k ⟨.d (D.sl 2 r),[],[]⟩
  | _=>none)
 | _=>none
theorem Bn (n:Nat):Qo Tryz.prog 119 (H3 n):=by
  intro R site g avs hl k r h
  unfold H3 at h
  split at h
  rotate_left
  · cases h
  obtain ⟨l0,h,c⟩:=Qq h
  split at h
  rotate_left
  · cases h
  obtain ⟨a,h,d⟩:=Q1 h
  obtain ⟨b,h,e⟩:=Q2 h
  obtain ⟨res,h,hr⟩:=Qc h
  have hL:=h
  subst c
  refine ⟨_,hL,fun hg=>QI.conv (avs':=[.ag [.d (D.sl 2 a),.d (D.int .i64 b)]]) (.cons (.ag (.cons (d hg) (.cons (e hg) (.nil)))) (.nil)) (QE (K:=KV) (res:=res) (A0 n) (fn:=Tryz.f119) (n:=n) (ss:=[[2]]) ?_ ?_)⟩
  · exact (DO n a b KV).trans (hr hg)
  · intro x hx
    unfold KV at hx
    split at hx
    · injection hx with hx;subst hx;rfl
    · cases hx

noncomputable def L6:Code:=Q8 Tryz.f107
noncomputable def PU:Code:=cA [1,1,1,1,0,1,2,2] (Q8 Tryz.f107)
noncomputable def Ml:Code:=cA [1,1,1,1,1] (Q8 Tryz.f107)
def CQ (a:Int):St:=⟨51,[(6,.ptr 6 0),(7,dI a)],[(6,.box [.nil,dI (0:Int)])]⟩
def M7 (a:LL) (b:Int) (c:LL) (d e:Int) (f g h i:LL) (j:List UInt8) (k l m n:Int):St:=⟨51,[(3,.ptr 3 0),(5,.ptr 5 0),(6,.ptr 6 0),(8,dL 2 a),(9,dI b),(29,dL 2 c),(30,dI d),(31,dI e)],[(3,.box [dL 1 f,dL 1 g,dL 5 h,dL 6 i]),(5,.box [dT j,dI k,dI l,dI m,dI n]),(6,.box [.nil,dI (0:Int)])]⟩
def BP  : St:=⟨51,[(6,.ptr 6 0),(7,dI (12:Int))],[(6,.box [.nil,dI (0:Int)])]⟩
def M9 (a:LL) (b:Int) (c:LL) (d e:Int) (f:Bool) (g h i j:LL) (k:List UInt8) (l m n o:Int):St:=⟨51,[(3,.ptr 3 0),(5,.ptr 5 0),(6,.ptr 6 0),(8,dL 2 a),(9,dI b),(29,dL 2 c),(30,dI d),(31,dI e),(32,dB f)],[(3,.box [dL 1 g,dL 1 h,dL 5 i,dL 6 j]),(5,.box [dT k,dI l,dI m,dI n,dI o]),(6,.box [.nil,dI (0:Int)])]⟩
def YZ (n:Nat):VC:=⟨QK [(118,ES n),(51,Hw n),(119,H3 n)],gtt,[cO 0 [3,4,5,6] [3,4,5,6],cO 1 (rg1 3 4 [8,9,10]) [3,4,5,6],cO 2 (rg1 3 4 [8,9,10,21]) [3,4,5,6],cO 3 [6,7] [6],cO 4 (rg1 3 4 [8,9,26]) [3,4,5,6],cO 5 [6,7] [6],cO 6 [3,5,6,8,9,29,30,31] [3,5,6],cO 7 [3,5,6,8,9,29,30,31,32] [3,5,6],cO 8 [3,5,6,8,9,12,29,30,31] [3,5,6,12],cO 9 [3,5,6,8,9,29,30,31,45] [3,5,6],cO 10 [6,7] [6],cO 11 [3,5,6,8,9,29,30,31] [3,5,6],cO 12 [6,7] [6]]⟩
theorem Q6r (n:Nat):VCOk Tryz.prog (YZ n):=gVC (Qe ⟨Q6M n,⟨E9 n,⟨Bn n,trivial⟩⟩⟩)
theorem Q2d (n:Nat) (a b c d j:LL) (l:Int) (e:List UInt8) (f g h i:Int) (k:Exit→St→Option R):Qi (YZ n) n L6 ⟨51,[(0,.ag [dL 1 a,dL 1 b,dL 5 c,dL 6 d]),(1,.ag [dL 2 j,dI l]),(2,.ag [dT e,dI f,dI g,dI h,dI i])],[]⟩ k=Pm n a b c d j l e f g h i (fun m=>k .ret (CQ m)) (fun o p r3 q=>X7 (lB (YZ n) n PU) n ⟨51,[(3,.ptr 3 0),(5,.ptr 5 0),(6,.ptr 6 0),(8,dL 2 o),(9,dI p),(29,dL 2 r3),(30,dI q),(31,dI (0:Int))],[(3,.box [dL 1 a,dL 1 b,dL 5 c,dL 6 d]),(5,.box [dT e,dI f,dI g,dI h,dI i]),(6,.box [.nil,dI (0:Int)])]⟩ (Q9 0 (Xf (YZ n) n Ml k))):=by kernel_rfl
theorem Q19 (n:Nat) (a:LL) (b:Int) (c:LL) (d p:Int) (e f g h:LL) (i:List UInt8) (j l m o:Int) (k:Exit→St→Option R):Qi (YZ n) n PU (M7 a b c d p e f g h i j l m o) k=J7 n a b c d p e f g h i j l m o (k .ret (BP)) (fun q=>k .normal (M7 a b c d q e f g h i j l m o)) (fun r=>k (.exit 0) (M9 a b c d p r e f g h i j l m o)):=by kernel_rfl
theorem LG (n:Nat) (b:LL) (c:Int) (d:LL) (e:Int) (f g h i:LL) (j:List UInt8) (l o p q:Int) (k:Exit→St→Option R):∀ (m:Nat) (a:Int),X7 (lB (YZ n) n PU) m (M7 b c d e a f g h i j l o p q) k=UW n b c d e f g h i j l o p q (k .ret (BP)) (fun a r=>k (.exit 0) (M9 b c d e a r f g h i j l o p q)) m a
 | 0,_=>rfl
 | m+1,a=>(lS (by kernel_rfl) m k).trans ((Q19 n b c d e a f g h i j l o p q (WB (lB (YZ n) n PU) m k)).trans (cg3 (fun s t u=>J7 n b c d e a f g h i j l o p q s t u ) rfl (funext fun v=>LG n b c d e f g h i j l o p q k m v) rfl))
theorem Q2s (n:Nat) (a:LL) (b:Int) (c:LL) (d e:Int) (f:Bool) (g h i j:LL) (l:List UInt8) (m o p q:Int) (k:Exit→St→Option R):(Q9 0 (Xf (YZ n) n Ml k)) (.exit 0) (M9 a b c d e f g h i j l m o p q)=Cz n a b c d e f g h i j l m o p q (k .ret ⟨51,[(6,.ptr 6 0),(7,dI (0:Int))],[(6,.box [dL 2 a,dI b])]⟩):=by kernel_rfl
theorem Q2h (n:Nat) (a b c d m:LL) (o:Int) (e:List UInt8) (f g h i:Int) (k:Exit→St→Option R):Qi (YZ n) n L6 ⟨51,[(0,.ag [dL 1 a,dL 1 b,dL 5 c,dL 6 d]),(1,.ag [dL 2 m,dI o]),(2,.ag [dT e,dI f,dI g,dI h,dI i])],[]⟩ k=Mf n a b c d m o e f g h i (fun t=>k .ret (CQ t)) (fun j l=>k .ret ⟨51,[(6,.ptr 6 0),(7,dI (0:Int))],[(6,.box [dL 2 j,dI l])]⟩):=
 (Q2d n a b c d m o e f g h i k).trans (cg2 (fun p q=>Pm n a b c d m o e f g h i p q ) rfl (funext fun j=>funext fun l=>funext fun r=>funext fun s=>(LG n j l r s a b c d e f g h i (Q9 0 (Xf (YZ n) n Ml k)) n (0:Int)).trans (cg2 (fun p q=>UW n j l r s a b c d e f g h i p q n (0:Int)) rfl (funext fun u=>funext fun v=>(Q2s n j l r s u v a b c d e f g h i k)))))
theorem Q4M (n:Nat) (a c d e f:LL) (g:Int) (h:List UInt8) (i j k l:Int) (K:AV→Option R):vfn (YZ n) n Tryz.f107 [.ag [.d (D.sl 1 a),.d (D.sl 1 c),.d (D.sl 5 d),.d (D.sl 6 e)],.ag [.d (D.sl 2 f),.d (D.int .i64 g)],.ag [.d (D.str h),.d (D.int .i64 i),.d (D.int .i64 j),.d (D.int .i64 k),.d (D.int .i64 l)]] [] (Wc [[2,0],[0]] K)=LM n a c d e f g h i j k l (fun m o r2=>K (.tup [.ag [.d (D.sl 2 m),.d (D.int .i64 o)],.d (D.int .i64 r2)])):=
 Eq.trans (b:=Qi (YZ n) n L6 ⟨51,[(0,.ag [dL 1 a,dL 1 c,dL 5 d,dL 6 e]),(1,.ag [dL 2 f,dI g]),(2,.ag [dT h,dI i,dI j,dI k,dI l])],[]⟩ (K3 gtt [.cell 6 178,.tmp 7] (Wc [[2,0],[0]] K))) VP ((Q2h n a c d e f g h i j k l (K3 gtt [.cell 6 178,.tmp 7] (Wc [[2,0],[0]] K))).trans (by kernel_rfl))
def Fy:AV→Option (LL × Int × Int):=fun av=>match av with
 | .tup [.ag [.d (D.sl 2 a),.d (D.int .i64 b)],.d (D.int .i64 r2)]=>some (a,b,r2)
 | _=>none
def Fz (n:Nat):XH:=fun _ _ g avs _ k=>match avs with
 | [c0,c1,a]=>
  prG c0 fun l0=>(match l0 with
  | [b,c,d,e]=>prS g 1 b fun f=>prS g 1 c fun h=>prS g 5 d fun i=>prS g 6 e fun j=>
  prG c1 fun l1=>(match l1 with
  | [l,m]=>prS g 2 l fun o=>prI g .i64 m fun p=>
  prG a fun l2=>(match l2 with
  | [q,s,t,u,v]=>prT g q fun w=>prI g .i64 s fun x=>prI g .i64 t fun y=>prI g .i64 u fun z=>prI g .i64 v fun aa=>
  gb g (LM n f h i j o p w x y z aa (fun r0 r1 r2=>some (r0,r1,r2))) ([],0,0) fun r=>k ⟨.tup [.ag [.d (D.sl 2 r.1),.d (D.int .i64 r.2.1)],.d (D.int .i64 r.2.2)],[],[]⟩
  | _=>none)
  | _=>none)
  | _=>none)
 | _=>none
theorem Q6p (n:Nat):Qo Tryz.prog 107 (Fz n):=by
  intro R site g avs hl k r h
  unfold Fz at h
  split at h
  rotate_left
  · cases h
  obtain ⟨l0,h,p⟩:=Qq h
  split at h
  rotate_left
  · cases h
  obtain ⟨a,h,q⟩:=Q1 h
  obtain ⟨b,h,s⟩:=Q1 h
  obtain ⟨c,h,t⟩:=Q1 h
  obtain ⟨d,h,u⟩:=Q1 h
  obtain ⟨l1,h,e1⟩:=Qq h
  split at h
  rotate_left
  · cases h
  obtain ⟨e,h,v⟩:=Q1 h
  obtain ⟨f,h,w⟩:=Q2 h
  obtain ⟨l2,h,e2⟩:=Qq h
  split at h
  rotate_left
  · cases h
  obtain ⟨i,h,y⟩:=VN h
  obtain ⟨j,h,z⟩:=Q2 h
  obtain ⟨l,h,aa⟩:=Q2 h
  obtain ⟨m,h,ab⟩:=Q2 h
  obtain ⟨o,h,ac⟩:=Q2 h
  obtain ⟨res,h,hr⟩:=Qc h
  have hL:=h
  subst p e1 e2
  refine ⟨_,hL,fun hg=>QI.conv (avs':=[.ag [.d (D.sl 1 a),.d (D.sl 1 b),.d (D.sl 5 c),.d (D.sl 6 d)],.ag [.d (D.sl 2 e),.d (D.int .i64 f)],.ag [.d (D.str i),.d (D.int .i64 j),.d (D.int .i64 l),.d (D.int .i64 m),.d (D.int .i64 o)]]) (.cons (.ag (.cons (q hg) (.cons (s hg) (.cons (t hg) (.cons (u hg) (.nil)))))) (.cons (.ag (.cons (v hg) (.cons (w hg) (.nil)))) (.cons (.ag (.cons (y hg) (.cons (z hg) (.cons (aa hg) (.cons (ab hg) (.cons (ac hg) (.nil))))))) (.nil)))) (QE (K:=Fy) (res:=res) (Q6r n) (fn:=Tryz.f107) (n:=n) (ss:=[[2,0],[0]]) ?_ ?_)⟩
  · exact (Q4M n a b c d e f i j l m o Fy).trans (hr hg)
  · intro x hx
    unfold Fy at hx
    split at hx
    · injection hx with hx;subst hx;rfl
    · cases hx

noncomputable def Q4Z:Code:=Q8 Tryz.f77
def BG (n:Nat):VC:=⟨QK [(107,Fz n)],gtt,[cO 0 [3,4,5] [3,4,5],cK 1 [8],cK 2 [6]]⟩
theorem Q4q (n:Nat):VCOk Tryz.prog (BG n):=gVC (Qe ⟨Q6p n,trivial⟩)
theorem Q3n (n:Nat) (a b d e f:LL) (g:Int) (h:List UInt8) (i j k l:Int) (K:AV→Option R):vfn (BG n) n Tryz.f77 [.ag [.d (D.sl 1 a),.d (D.sl 1 b),.d (D.sl 5 d),.d (D.sl 6 e)],.ag [.d (D.sl 2 f),.d (D.int .i64 g)],.ag [.d (D.str h),.d (D.int .i64 i),.d (D.int .i64 j),.d (D.int .i64 k),.d (D.int .i64 l)]] [] (Wc [[0]] K)=Tp n a b d e f g h i j k l (fun o=>K (.d (D.int .i64 o))):=
 (VP (c:=Q4Z) (m:=17) (tm:=[(0,.ag [dL 1 a,dL 1 b,dL 5 d,dL 6 e]),(1,.ag [dL 2 f,dI g]),(2,.ag [dT h,dI i,dI j,dI k,dI l])]) (rs:=[.tmp 6]) (tt:=gtt)).trans (by kernel_rfl)
def MS (n:Nat):XH:=fun _ _ g avs _ k=>match avs with
 | [c0,c1,a]=>
  prG c0 fun l0=>(match l0 with
  | [b,c,d,e]=>prS g 1 b fun f=>prS g 1 c fun h=>prS g 5 d fun i=>prS g 6 e fun j=>
  prG c1 fun l1=>(match l1 with
  | [l,m]=>prS g 2 l fun o=>prI g .i64 m fun p=>
  prG a fun l2=>(match l2 with
  | [q,s,t,u,v]=>prT g q fun w=>prI g .i64 s fun x=>prI g .i64 t fun y=>prI g .i64 u fun z=>prI g .i64 v fun aa=>
  gb g (Tp n f h i j o p w x y z aa some) 0 fun r=>k ⟨.d (D.int .i64 r),[],[]⟩
  | _=>none)
  | _=>none)
  | _=>none)
 | _=>none
theorem Q4I (n:Nat):Qo Tryz.prog 77 (MS n):=by
  intro R site g avs hl k r h
  unfold MS at h
  split at h
  rotate_left
  · cases h
  obtain ⟨l0,h,p⟩:=Qq h
  split at h
  rotate_left
  · cases h
  obtain ⟨a,h,q⟩:=Q1 h
  obtain ⟨b,h,s⟩:=Q1 h
  obtain ⟨c,h,t⟩:=Q1 h
  obtain ⟨d,h,u⟩:=Q1 h
  obtain ⟨l1,h,e1⟩:=Qq h
  split at h
  rotate_left
  · cases h
  obtain ⟨e,h,v⟩:=Q1 h
  obtain ⟨f,h,w⟩:=Q2 h
  obtain ⟨l2,h,e2⟩:=Qq h
  split at h
  rotate_left
  · cases h
  obtain ⟨i,h,x⟩:=VN h
  obtain ⟨j,h,y⟩:=Q2 h
  obtain ⟨l,h,z⟩:=Q2 h
  obtain ⟨m,h,aa⟩:=Q2 h
  obtain ⟨o,h,ab⟩:=Q2 h
  obtain ⟨res,h,hr⟩:=Qc h
  have hL:=h
  subst p e1 e2
  refine ⟨_,hL,fun hg=>QI.conv (avs':=[.ag [.d (D.sl 1 a),.d (D.sl 1 b),.d (D.sl 5 c),.d (D.sl 6 d)],.ag [.d (D.sl 2 e),.d (D.int .i64 f)],.ag [.d (D.str i),.d (D.int .i64 j),.d (D.int .i64 l),.d (D.int .i64 m),.d (D.int .i64 o)]]) (.cons (.ag (.cons (q hg) (.cons (s hg) (.cons (t hg) (.cons (u hg) (.nil)))))) (.cons (.ag (.cons (v hg) (.cons (w hg) (.nil)))) (.cons (.ag (.cons (x hg) (.cons (y hg) (.cons (z hg) (.cons (aa hg) (.cons (ab hg) (.nil))))))) (.nil)))) (QE (K:=kI) (res:=res) (Q4q n) (fn:=Tryz.f77) (n:=n) (ss:=[[0]]) ?_ ?_)⟩
  · exact (Q3n n a b c d e f i j l m o kI).trans (hr hg)
  · exact NW

noncomputable def Q8t:Code:=Q8 Tryz.f60
def Q3W (n:Nat):VC:=⟨QK [],gtt,[cO 0 [2,3] [2,3],cK 1 [4]]⟩
theorem Q8M (n:Nat):VCOk Tryz.prog (Q3W n):=gVC (Qe trivial)
theorem Q7e (n:Nat) (a:Int) (b d e f g h i:LL) (j k l o:Int) (K:AV→Option R):vfn (Q3W n) n Tryz.f60 [.ag [.d (D.int .i64 a),.d (D.sl 5 b),.d (D.sl 2 d),.d (D.sl 4 e),.d (D.sl 7 f),.d (D.sl 4 g),.d (D.sl 5 h),.d (D.sl 3 i)],.ag [.d (D.int .i64 j),.d (D.int .i64 k),.d (D.int .i64 l),.d (D.int .i64 o)]] [] (Wc [[0]] K)=R4 n a b d e f g h i j k l o (fun p=>K (.d (D.int .i64 p))):=
 (VP (c:=Q8t) (m:=15) (tm:=[(0,.ag [dI a,dL 5 b,dL 2 d,dL 4 e,dL 7 f,dL 4 g,dL 5 h,dL 3 i]),(1,.ag [dI j,dI k,dI l,dI o])]) (rs:=[.tmp 4]) (tt:=gtt)).trans (by kernel_rfl)
def Rq (n:Nat):XH:=fun _ _ g avs _ k=>match avs with
 | [c0,c1]=>
  prG c0 fun l0=>(match l0 with
  | [a,b,c,d,e,f,h,i]=>prI g .i64 a fun j=>prS g 5 b fun l=>prS g 2 c fun m=>prS g 4 d fun o=>prS g 7 e fun p=>prS g 4 f fun q=>prS g 5 h fun s=>prS g 3 i fun t=>
  prG c1 fun l1=>(match l1 with
  | [u,v,w,x]=>prI g .i64 u fun y=>prI g .i64 v fun z=>prI g .i64 w fun aa=>prI g .i64 x fun ab=>
  gb g (R4 n j l m o p q s t y z aa ab some) 0 fun r=>k ⟨.d (D.int .i64 r),[],[]⟩
  | _=>none)
  | _=>none)
 | _=>none
theorem EK (n:Nat):Qo Tryz.prog 60 (Rq n):=by
  intro R site g avs hl k r h
  unfold Rq at h
  split at h
  rotate_left
  · cases h
  obtain ⟨l0,h,q⟩:=Qq h
  split at h
  rotate_left
  · cases h
  obtain ⟨a,h,s⟩:=Q2 h
  obtain ⟨b,h,t⟩:=Q1 h
  obtain ⟨c,h,u⟩:=Q1 h
  obtain ⟨d,h,v⟩:=Q1 h
  obtain ⟨e,h,w⟩:=Q1 h
  obtain ⟨f,h,x⟩:=Q1 h
  obtain ⟨i,h,y⟩:=Q1 h
  obtain ⟨j,h,z⟩:=Q1 h
  obtain ⟨l1,h,e1⟩:=Qq h
  split at h
  rotate_left
  · cases h
  obtain ⟨l,h,aa⟩:=Q2 h
  obtain ⟨m,h,ab⟩:=Q2 h
  obtain ⟨o,h,ac⟩:=Q2 h
  obtain ⟨p,h,ad⟩:=Q2 h
  obtain ⟨res,h,hr⟩:=Qc h
  have hL:=h
  subst q e1
  refine ⟨_,hL,fun hg=>QI.conv (avs':=[.ag [.d (D.int .i64 a),.d (D.sl 5 b),.d (D.sl 2 c),.d (D.sl 4 d),.d (D.sl 7 e),.d (D.sl 4 f),.d (D.sl 5 i),.d (D.sl 3 j)],.ag [.d (D.int .i64 l),.d (D.int .i64 m),.d (D.int .i64 o),.d (D.int .i64 p)]]) (.cons (.ag (.cons (s hg) (.cons (t hg) (.cons (u hg) (.cons (v hg) (.cons (w hg) (.cons (x hg) (.cons (y hg) (.cons (z hg) (.nil)))))))))) (.cons (.ag (.cons (aa hg) (.cons (ab hg) (.cons (ac hg) (.cons (ad hg) (.nil)))))) (.nil))) (QE (K:=kI) (res:=res) (Q8M n) (fn:=Tryz.f60) (n:=n) (ss:=[[0]]) ?_ ?_)⟩
  · exact (Q7e n a b c d e f i j l m o p kI).trans (hr hg)
  · exact NW

noncomputable def Q9A:Code:=Q8 Tryz.f59
def Q5d (n:Nat):VC:=⟨QK [],gtt,[cO 0 [2,3] [2,3],cK 1 [5,6],cK 2 [4]]⟩
theorem Q9C (n:Nat):VCOk Tryz.prog (Q5d n):=gVC (Qe trivial)
theorem Q8B (n:Nat) (a:Int) (b d e f g h i:LL) (j k l o:Int) (K:AV→Option R):vfn (Q5d n) n Tryz.f59 [.ag [.d (D.int .i64 a),.d (D.sl 5 b),.d (D.sl 2 d),.d (D.sl 4 e),.d (D.sl 7 f),.d (D.sl 4 g),.d (D.sl 5 h),.d (D.sl 3 i)],.ag [.d (D.int .i64 j),.d (D.int .i64 k),.d (D.int .i64 l),.d (D.int .i64 o)]] [] (Wc [[0]] K)=Mh n a b d e f g h i j k l o (fun p=>K (.d (D.int .i64 p))):=
 (VP (c:=Q9A) (m:=30) (tm:=[(0,.ag [dI a,dL 5 b,dL 2 d,dL 4 e,dL 7 f,dL 4 g,dL 5 h,dL 3 i]),(1,.ag [dI j,dI k,dI l,dI o])]) (rs:=[.tmp 4]) (tt:=gtt)).trans (by kernel_rfl)
def M5 (n:Nat):XH:=fun _ _ g avs _ k=>match avs with
 | [c0,c1]=>
  prG c0 fun l0=>(match l0 with
  | [a,b,c,d,e,f,h,i]=>prI g .i64 a fun j=>prS g 5 b fun l=>prS g 2 c fun m=>prS g 4 d fun o=>prS g 7 e fun p=>prS g 4 f fun q=>prS g 5 h fun s=>prS g 3 i fun t=>
  prG c1 fun l1=>(match l1 with
  | [u,v,w,x]=>prI g .i64 u fun y=>prI g .i64 v fun z=>prI g .i64 w fun aa=>prI g .i64 x fun ab=>
  gb g (Mh n j l m o p q s t y z aa ab some) 0 fun r=>k ⟨.d (D.int .i64 r),[],[]⟩
  | _=>none)
  | _=>none)
 | _=>none
theorem Bs (n:Nat):Qo Tryz.prog 59 (M5 n):=by
  intro R site g avs hl k r h
  unfold M5 at h
  split at h
  rotate_left
  · cases h
  obtain ⟨l0,h,q⟩:=Qq h
  split at h
  rotate_left
  · cases h
  obtain ⟨a,h,s⟩:=Q2 h
  obtain ⟨b,h,t⟩:=Q1 h
  obtain ⟨c,h,u⟩:=Q1 h
  obtain ⟨d,h,v⟩:=Q1 h
  obtain ⟨e,h,w⟩:=Q1 h
  obtain ⟨f,h,x⟩:=Q1 h
  obtain ⟨i,h,y⟩:=Q1 h
  obtain ⟨j,h,z⟩:=Q1 h
  obtain ⟨l1,h,e1⟩:=Qq h
  split at h
  rotate_left
  · cases h
  obtain ⟨l,h,aa⟩:=Q2 h
  obtain ⟨m,h,ab⟩:=Q2 h
  obtain ⟨o,h,ac⟩:=Q2 h
  obtain ⟨p,h,ad⟩:=Q2 h
  obtain ⟨res,h,hr⟩:=Qc h
  have hL:=h
  subst q e1
  refine ⟨_,hL,fun hg=>QI.conv (avs':=[.ag [.d (D.int .i64 a),.d (D.sl 5 b),.d (D.sl 2 c),.d (D.sl 4 d),.d (D.sl 7 e),.d (D.sl 4 f),.d (D.sl 5 i),.d (D.sl 3 j)],.ag [.d (D.int .i64 l),.d (D.int .i64 m),.d (D.int .i64 o),.d (D.int .i64 p)]]) (.cons (.ag (.cons (s hg) (.cons (t hg) (.cons (u hg) (.cons (v hg) (.cons (w hg) (.cons (x hg) (.cons (y hg) (.cons (z hg) (.nil)))))))))) (.cons (.ag (.cons (aa hg) (.cons (ab hg) (.cons (ac hg) (.cons (ad hg) (.nil)))))) (.nil))) (QE (K:=kI) (res:=res) (Q9C n) (fn:=Tryz.f59) (n:=n) (ss:=[[0]]) ?_ ?_)⟩
  · exact (Q8B n a b c d e f i j l m o p kI).trans (hr hg)
  · exact NW

noncomputable def SH:Code:=Q8 Tryz.f56
noncomputable def R3:Code:=cA [1,1,0] (Q8 Tryz.f56)
noncomputable def SF:Code:=cA [1,1,1] (Q8 Tryz.f56)
noncomputable def FV:Code:=cA [1,1,0,2,0] (Q8 Tryz.f56)
noncomputable def SJ:Code:=cA [1,1,0,2,1] (Q8 Tryz.f56)
def Jm (a:Int) (b c d e:LL) (f:Int) (g h i j k l m:LL) (n:List UInt8) (o p:Int) (q:LL) (r s t u:D):St:=⟨90,[(3,dI a),(4,.ptr 4 0),(5,.ptr 5 0),(6,.ptr 6 0),(9,.ptr 9 0)],[(4,.box [dL 1 b,dL 1 c,dL 5 d,dL 6 e]),(5,.box [dI f,dL 5 g,dL 2 h,dL 4 i,dL 7 j,dL 4 k,dL 5 l,dL 3 m]),(6,.box [dT n,dI o,dI p,dL 4 q]),(9,.box [.d r,.d s,.d t,.d u])]⟩
def Jg (a:Int) (b:Bool) (c d e f:LL) (g:Int) (h i j k l m n:LL) (o:List UInt8) (p q:Int) (r:LL) (s t u v:D):St:=⟨90,[(3,dI a),(4,.ptr 4 0),(5,.ptr 5 0),(6,.ptr 6 0),(9,.ptr 9 0),(16,dB b)],[(4,.box [dL 1 c,dL 1 d,dL 5 e,dL 6 f]),(5,.box [dI g,dL 5 h,dL 2 i,dL 4 j,dL 7 k,dL 4 l,dL 5 m,dL 3 n]),(6,.box [dT o,dI p,dI q,dL 4 r]),(9,.box [.d s,.d t,.d u,.d v])]⟩
def Xs (n:Nat):VC:=⟨QK [(58,P3 n),(77,MS n),(60,Rq n),(59,M5 n)],gtt,[cO 0 [3,4,5,6] [4,5,6],cO 1 (rg1 3 4 [9]) [4,5,6,9],cO 2 (rg1 3 4 [9,16]) [4,5,6,9],cO 3 (rg1 3 4 [9,16]) [4,5,6,9],cO 4 (rg1 3 4 [9,16]) [4,5,6,9],cO 5 (rg1 3 4 [9,16]) [4,5,6,9],cO 6 (rg1 3 4 [9,16]) [4,5,6,9],cO 7 (rg1 3 4 [9,16]) [4,5,6,9],cK 8 [8],cO 9 [3,5,6,9,10] [5,6,9],cO 10 [3,5,6,9,10,72] [5,6,9],cK 11 [8],cK 12 [89],cK 13 [8],cK 14 [8]]⟩
theorem Q2J (n:Nat):VCOk Tryz.prog (Xs n):=gVC (Qe ⟨F2 n,⟨Q4I n,⟨EK n,⟨Bs n,trivial⟩⟩⟩⟩)
theorem AB (n:Nat) (a b c d:LL) (e:Int) (f g h i j l m:LL) (o:List UInt8) (p q:Int) (r:LL) (s:Int) (k:Exit→St→Option R):Qi (Xs n) n SH ⟨90,[(0,.ag [dL 1 a,dL 1 b,dL 5 c,dL 6 d]),(1,.ag [dI e,dL 5 f,dL 2 g,dL 4 h,dL 7 i,dL 4 j,dL 5 l,dL 3 m]),(2,.ag [dT o,dI p,dI q,dL 4 r]),(3,dI s)],[]⟩ k=KM n a b c d e f g h i j l m o p q r s (fun t u v w=>Qi (Xs n) n R3 (Jm s a b c d e f g h i j l m o p q r t u v w) (Xf (Xs n) n SF k)):=by kernel_rfl
theorem Ao (n:Nat) (a:Int) (b c d e:LL) (f:Int) (g h i j l m o:LL) (p:List UInt8) (q r:Int) (s:LL) (t w7 u v:D) (k:Exit→St→Option R):Qi (Xs n) n R3 (Jm a b c d e f g h i j l m o p q r s t w7 u v) k=KL n a b c d e f g h i j l m o p q r s t w7 u v (Qi (Xs n) n FV (Jm a b c d e f g h i j l m o p q r s t w7 u v) (Xf (Xs n) n SJ (Q9 0 k))):=by kernel_rfl
theorem Az (n:Nat) (a:Int) (b c d e:LL) (f:Int) (g h i j l m o:LL) (p:List UInt8) (q r:Int) (s:LL) (t w7 u v:D) (k:Exit→St→Option R):Qi (Xs n) n FV (Jm a b c d e f g h i j l m o p q r s t w7 u v) k=KK n a b c d e f g h i j l m o p q r s t w7 u v (fun w=>k .normal (Jg a w b c d e f g h i j l m o p q r s t w7 u v)):=by kernel_rfl
theorem Ar (n:Nat) (a:Int) (b:Bool) (c d e f:LL) (g:Int) (h i j l m o p:LL) (q:List UInt8) (r s:Int) (t:LL) (u w7 v w:D) (k:Exit→St→Option R):(Xf (Xs n) n SJ (Q9 0 k)) .normal (Jg a b c d e f g h i j l m o p q r s t u w7 v w)=R7 n a b c d e f g h i j l m o p q r s t u w7 v w (k .ret ⟨90,[(8,dI (4:Int))],[]⟩) (k .normal (Jg a b c d e f g h i j l m o p q r s t u w7 v w)):=by kernel_rfl
theorem Ay (n:Nat) (a:Int) (b c d e:LL) (f:Int) (g h i j l m o:LL) (p:List UInt8) (q r:Int) (s:LL) (t w7 u v:D) (k:Exit→St→Option R):Qi (Xs n) n R3 (Jm a b c d e f g h i j l m o p q r s t w7 u v) k=KH n a b c d e f g h i j l m o p q r s t w7 u v (k .ret ⟨90,[(8,dI (4:Int))],[]⟩) (fun w=>k .normal (Jg a w b c d e f g h i j l m o p q r s t w7 u v)):=
 (Ao n a b c d e f g h i j l m o p q r s t w7 u v k).trans (cg1 (fun x=>KL n a b c d e f g h i j l m o p q r s t w7 u v x ) ((Az n a b c d e f g h i j l m o p q r s t w7 u v (Xf (Xs n) n SJ (Q9 0 k))).trans (cg1 (fun x=>KK n a b c d e f g h i j l m o p q r s t w7 u v x ) (funext fun w=>(Ar n a w b c d e f g h i j l m o p q r s t w7 u v k)))))
theorem Au (n:Nat) (a:Int) (b:Bool) (c d e f:LL) (g:Int) (h i j l m o p:LL) (q:List UInt8) (r s:Int) (t:LL) (u w7 v w:D) (k:Exit→St→Option R):(Xf (Xs n) n SF k) .normal (Jg a b c d e f g h i j l m o p q r s t u w7 v w)=R5 n a b c d e f g h i j l m o p q r s t u w7 v w (fun x=>k .ret ⟨90,[(8,dI x)],[]⟩):=by kernel_rfl
theorem Ai (n:Nat) (a b c d:LL) (e:Int) (f g h i j l m:LL) (o:List UInt8) (p q:Int) (r:LL) (s:Int) (k:Exit→St→Option R):Qi (Xs n) n SH ⟨90,[(0,.ag [dL 1 a,dL 1 b,dL 5 c,dL 6 d]),(1,.ag [dI e,dL 5 f,dL 2 g,dL 4 h,dL 7 i,dL 4 j,dL 5 l,dL 3 m]),(2,.ag [dT o,dI p,dI q,dL 4 r]),(3,dI s)],[]⟩ k=SL n a b c d e f g h i j l m o p q r s (fun x=>k .ret ⟨90,[(8,dI x)],[]⟩):=
 (AB n a b c d e f g h i j l m o p q r s k).trans (cg1 (fun t=>KM n a b c d e f g h i j l m o p q r s t ) (funext fun u=>funext fun w7=>funext fun v=>funext fun w=>(Ay n s a b c d e f g h i j l m o p q r u w7 v w (Xf (Xs n) n SF k)).trans (cg2 (fun t y=>KH n s a b c d e f g h i j l m o p q r u w7 v w t y ) rfl (funext fun z=>(Au n s z a b c d e f g h i j l m o p q r u w7 v w k)))))
theorem Q1g (n:Nat) (a c d e:LL) (f:Int) (g h i j k l m:LL) (o:List UInt8) (p q:Int) (r:LL) (s:Int) (K:AV→Option R):vfn (Xs n) n Tryz.f56 [.ag [.d (D.sl 1 a),.d (D.sl 1 c),.d (D.sl 5 d),.d (D.sl 6 e)],.ag [.d (D.int .i64 f),.d (D.sl 5 g),.d (D.sl 2 h),.d (D.sl 4 i),.d (D.sl 7 j),.d (D.sl 4 k),.d (D.sl 5 l),.d (D.sl 3 m)],.ag [.d (D.str o),.d (D.int .i64 p),.d (D.int .i64 q),.d (D.sl 4 r)],.d (D.int .i64 s)] [] (Wc [[0]] K)=VU n a c d e f g h i j k l m o p q r s (fun t=>K (.d (D.int .i64 t))):=
 Eq.trans (b:=Qi (Xs n) n SH ⟨90,[(0,.ag [dL 1 a,dL 1 c,dL 5 d,dL 6 e]),(1,.ag [dI f,dL 5 g,dL 2 h,dL 4 i,dL 7 j,dL 4 k,dL 5 l,dL 3 m]),(2,.ag [dT o,dI p,dI q,dL 4 r]),(3,dI s)],[]⟩ (K3 gtt [.tmp 8] (Wc [[0]] K))) VP ((Ai n a c d e f g h i j k l m o p q r s (K3 gtt [.tmp 8] (Wc [[0]] K))).trans (by kernel_rfl))
def Na (n:Nat):XH:=fun _ _ g avs _ k=>match avs with
 | [c0,c1,a,b]=>
  prG c0 fun l0=>(match l0 with
  | [c,d,e,f]=>prS g 1 c fun h=>prS g 1 d fun i=>prS g 5 e fun j=>prS g 6 f fun l=>
  prG c1 fun l1=>(match l1 with
  | [m,o,p,q,s,t,u,v]=>prI g .i64 m fun w=>prS g 5 o fun x=>prS g 2 p fun y=>prS g 4 q fun z=>prS g 7 s fun aa=>prS g 4 t fun ab=>prS g 5 u fun ac=>prS g 3 v fun ad=>
  prG a fun l2=>(match l2 with
  | [ae,af,ag,ah]=>prT g ae fun ai=>prI g .i64 af fun aj=>prI g .i64 ag fun ak=>prS g 4 ah fun al=>prI g .i64 b fun a3=>
  gb g (VU n h i j l w x y z aa ab ac ad ai aj ak al a3 some) 0 fun r=>k ⟨.d (D.int .i64 r),[],[]⟩
  | _=>none)
  | _=>none)
  | _=>none)
 | _=>none
theorem Q2P (n:Nat):Qo Tryz.prog 56 (Na n):=by
  intro R site g avs hl k r h
  unfold Na at h
  split at h
  rotate_left
  · cases h
  obtain ⟨l0,h,w⟩:=Qq h
  split at h
  rotate_left
  · cases h
  obtain ⟨a,h,x⟩:=Q1 h
  obtain ⟨b,h,y⟩:=Q1 h
  obtain ⟨c,h,z⟩:=Q1 h
  obtain ⟨d,h,aa⟩:=Q1 h
  obtain ⟨l1,h,e1⟩:=Qq h
  split at h
  rotate_left
  · cases h
  obtain ⟨e,h,ab⟩:=Q2 h
  obtain ⟨f,h,ac⟩:=Q1 h
  obtain ⟨i,h,ad⟩:=Q1 h
  obtain ⟨j,h,ae⟩:=Q1 h
  obtain ⟨l,h,af⟩:=Q1 h
  obtain ⟨m,h,ag⟩:=Q1 h
  obtain ⟨o,h,ah⟩:=Q1 h
  obtain ⟨p,h,ai⟩:=Q1 h
  obtain ⟨l2,h,e2⟩:=Qq h
  split at h
  rotate_left
  · cases h
  obtain ⟨q,h,aj⟩:=VN h
  obtain ⟨s,h,ak⟩:=Q2 h
  obtain ⟨t,h,al⟩:=Q2 h
  obtain ⟨u,h,am⟩:=Q1 h
  obtain ⟨v,h,an⟩:=Q2 h
  obtain ⟨res,h,hr⟩:=Qc h
  have hL:=h
  subst w e1 e2
  refine ⟨_,hL,fun hg=>QI.conv (avs':=[.ag [.d (D.sl 1 a),.d (D.sl 1 b),.d (D.sl 5 c),.d (D.sl 6 d)],.ag [.d (D.int .i64 e),.d (D.sl 5 f),.d (D.sl 2 i),.d (D.sl 4 j),.d (D.sl 7 l),.d (D.sl 4 m),.d (D.sl 5 o),.d (D.sl 3 p)],.ag [.d (D.str q),.d (D.int .i64 s),.d (D.int .i64 t),.d (D.sl 4 u)],.d (D.int .i64 v)]) (.cons (.ag (.cons (x hg) (.cons (y hg) (.cons (z hg) (.cons (aa hg) (.nil)))))) (.cons (.ag (.cons (ab hg) (.cons (ac hg) (.cons (ad hg) (.cons (ae hg) (.cons (af hg) (.cons (ag hg) (.cons (ah hg) (.cons (ai hg) (.nil)))))))))) (.cons (.ag (.cons (aj hg) (.cons (ak hg) (.cons (al hg) (.cons (am hg) (.nil)))))) (.cons (an hg) (.nil))))) (QE (K:=kI) (res:=res) (Q2J n) (fn:=Tryz.f56) (n:=n) (ss:=[[0]]) ?_ ?_)⟩
  · exact (Q1g n a b c d e f i j l m o p q s t u v kI).trans (hr hg)
  · exact NW

noncomputable def PQ:Code:=Q8 Tryz.f30
noncomputable def VK:Code:=cA [1,0,1,2,2] (Q8 Tryz.f30)
noncomputable def Pj:Code:=cA [1,1] (Q8 Tryz.f30)
noncomputable def PY:Code:=cA [1,0,1,2,2,1,1,0,2,1,0] (Q8 Tryz.f30)
noncomputable def Uk:Code:=cA [1,0,1,2,2,1,1,1] (Q8 Tryz.f30)
noncomputable def PJ:Code:=cA [1,0,1,2,2,1,1,0,2,1,1] (Q8 Tryz.f30)
noncomputable def Lv:Code:=cA [1,0,1,2,2,1,1,0,2,1,0,2,1,4,1,4,0] (Q8 Tryz.f30)
noncomputable def P8:Code:=cA [1,0,1,2,2,1,1,0,2,1,0,2,1,4,1,4,1] (Q8 Tryz.f30)
noncomputable def GP:Code:=cA [1,0,1,2,2,1,1,0,2,1,1,1,2,2] (Q8 Tryz.f30)
def VA (a:LL) (b c:Int) (d e f g:LL) (h:Int) (i j k l m n o:LL):St:=⟨64,[(2,.ptr 2 0),(3,.ptr 3 0),(10,dL 4 a),(11,dI b),(12,dI c)],[(2,.box [dL 1 d,dL 1 e,dL 5 f,dL 6 g]),(3,.box [dI h,dL 5 i,dL 2 j,dL 4 k,dL 7 l,dL 4 m,dL 5 n,dL 3 o])]⟩
def PI (a:Int) (b:LL) (c d:Int) (e f g h:LL) (i:Int) (j k l m n o p:LL) (q r s t:D):St:=⟨64,[(2,.ptr 2 0),(3,.ptr 3 0),(5,dI a),(6,.ptr 6 0),(10,dL 4 b),(11,dI c),(12,dI d)],[(2,.box [dL 1 e,dL 1 f,dL 5 g,dL 6 h]),(3,.box [dI i,dL 5 j,dL 2 k,dL 4 l,dL 7 m,dL 4 n,dL 5 o,dL 3 p]),(6,.box [.d q,.d r,.d s,.d t])]⟩
def GF (a:LL) (b c:Int) (d:Bool) (e f g h:LL) (i:Int) (j k l m n o p:LL):St:=⟨64,[(2,.ptr 2 0),(3,.ptr 3 0),(10,dL 4 a),(11,dI b),(12,dI c),(13,dB d)],[(2,.box [dL 1 e,dL 1 f,dL 5 g,dL 6 h]),(3,.box [dI i,dL 5 j,dL 2 k,dL 4 l,dL 7 m,dL 4 n,dL 5 o,dL 3 p])]⟩
def Zd (a:Int):St:=⟨64,[(4,dI a)],[]⟩
def TU (a:LL) (b c:Int) (d:Bool) (e f g h:LL) (i:Int) (j k l m n o p:LL) (q:List UInt8) (r s:Int) (t:LL):St:=⟨64,[(2,.ptr 2 0),(3,.ptr 3 0),(6,.ptr 6 0),(10,dL 4 a),(11,dI b),(12,dI c),(43,dB d)],[(2,.box [dL 1 e,dL 1 f,dL 5 g,dL 6 h]),(3,.box [dI i,dL 5 j,dL 2 k,dL 4 l,dL 7 m,dL 4 n,dL 5 o,dL 3 p]),(6,.box [dT q,dI r,dI s,dL 4 t])]⟩
def P4 (a:LL) (b c d e:Int) (f g h i:LL) (j:Int) (k l m n o p q:LL) (r:List UInt8) (s t:Int) (u:LL):St:=⟨64,[(2,.ptr 2 0),(3,.ptr 3 0),(6,.ptr 6 0),(10,dL 4 a),(11,dI b),(12,dI c),(50,dI d),(51,dI e)],[(2,.box [dL 1 f,dL 1 g,dL 5 h,dL 6 i]),(3,.box [dI j,dL 5 k,dL 2 l,dL 4 m,dL 7 n,dL 4 o,dL 5 p,dL 3 q]),(6,.box [dT r,dI s,dI t,dL 4 u])]⟩
def Pi (a:LL) (b c d e:Int) (f:Bool) (g h i j:LL) (k:Int) (l m n o p q r:LL) (s:List UInt8) (t u:Int) (v:LL):St:=⟨64,[(2,.ptr 2 0),(3,.ptr 3 0),(6,.ptr 6 0),(10,dL 4 a),(11,dI b),(12,dI c),(50,dI d),(51,dI e),(52,dB f)],[(2,.box [dL 1 g,dL 1 h,dL 5 i,dL 6 j]),(3,.box [dI k,dL 5 l,dL 2 m,dL 4 n,dL 7 o,dL 4 p,dL 5 q,dL 3 r]),(6,.box [dT s,dI t,dI u,dL 4 v])]⟩
def Qg (n:Nat):VC:=⟨QK [(48,Rp n),(53,Xl n),(55,NG n),(56,Na n)],gtt,[cO 0 [2,3] [2,3],cO 1 [2,3,10,11,12] [2,3],cO 2 [2,3,10,11,12,13] [2,3],cO 3 [2,3,5,6,10,11,12] [2,3,6],cO 4 [2,3,5,6,10,11,12,17] [2,3,6],cK 5 [4],cO 6 [2,3,6,10,11,12,22] [2,3,6],cK 7 [4],cO 8 [2,3,6,10,11,12,29] [2,3,6],cO 9 [2,3,6,10,11,12,29] [2,3,6],cO 10 [2,3,6,10,11,12,29] [2,3,6],cK 11 [4],cO 12 [2,3,6,10,11,12,43] [2,3,6],cK 13 [4],cO 14 [2,3,6,10,11,12,50,51] [2,3,6],cO 15 [2,3,6,10,11,12,50,51,52] [2,3,6],cO 16 [2,3,6,7,10,11,12,50,51] [2,3,6],cO 17 [2,3,6,8,10,11,12,50,51] [2,3,6],cO 18 [2,3,6,8,10,11,12,50,51,60] [2,3,6],cK 19 [4],cO 20 [2,3,6,10,11,12,50,51] [2,3,6],cO 21 [2,3,10,11,12] [2,3],cK 22 [4]]⟩
theorem Q1j (n:Nat):VCOk Tryz.prog (Qg n):=gVC (Qe ⟨Dg n,⟨Wm n,⟨AF n,⟨Q2P n,trivial⟩⟩⟩⟩)
theorem BD (n:Nat) (b c d e:LL) (f:Int) (g h a i j l m:LL) (k:Exit→St→Option R):Qi (Qg n) n PQ ⟨64,[(0,.ag [dL 1 b,dL 1 c,dL 5 d,dL 6 e]),(1,.ag [dI f,dL 5 g,dL 2 h,dL 4 a,dL 7 i,dL 4 j,dL 5 l,dL 3 m])],[]⟩ k=GX n b c d e f g h a i j l m (fun o=>X7 (lB (Qg n) n VK) n ⟨64,[(2,.ptr 2 0),(3,.ptr 3 0),(10,dL 4 a),(11,dI o),(12,dI (0:Int))],[(2,.box [dL 1 b,dL 1 c,dL 5 d,dL 6 e]),(3,.box [dI f,dL 5 g,dL 2 h,dL 4 a,dL 7 i,dL 4 j,dL 5 l,dL 3 m])]⟩ (Q9 0 (Xf (Qg n) n Pj k))):=by kernel_rfl
theorem Bi (n:Nat) (a:LL) (c b:Int) (d e f g:LL) (h:Int) (i j l m o p:LL) (k:Exit→St→Option R):Qi (Qg n) n VK (VA a c b d e f g h i j a l m o p) k=VI n a c b d e f g h i j l m o p (fun q r s t=>Qi (Qg n) n PY (PI b a c b d e f g h i j a l m o p q r s t) (Xf (Qg n) n PJ (Q9 1 (Xf (Qg n) n Uk k)))) (fun u=>k (.exit 0) (GF a c b u d e f g h i j a l m o p)):=by kernel_rfl
theorem CN (n:Nat) (b:Int) (a:LL) (c:Int) (d e f g:LL) (h:Int) (i j l m o p:LL) (q r s t:D) (k:Exit→St→Option R):Qi (Qg n) n PY (PI b a c b d e f g h i j a l m o p q r s t) k=GR n b a c d e f g h i j l m o p q r s t (fun u=>k .ret (Zd u)) (fun v w x y z=>Qi (Qg n) n Lv ⟨64,[(2,.ptr 2 0),(3,.ptr 3 0),(6,.ptr 6 0),(10,dL 4 a),(11,dI c),(12,dI b),(22,dB v)],[(2,.box [dL 1 d,dL 1 e,dL 5 f,dL 6 g]),(3,.box [dI h,dL 5 i,dL 2 j,dL 4 a,dL 7 l,dL 4 m,dL 5 o,dL 3 p]),(6,.box [dT w,dI x,dI y,dL 4 z])]⟩ (Xf (Qg n) n P8 (Q9 2 k))):=by kernel_rfl
theorem CX (n:Nat) (a:LL) (b c:Int) (u:Bool) (d e f g:LL) (h:Int) (i j l m o p:LL) (q:List UInt8) (r s:Int) (t:LL) (k:Exit→St→Option R):Qi (Qg n) n Lv ⟨64,[(2,.ptr 2 0),(3,.ptr 3 0),(6,.ptr 6 0),(10,dL 4 a),(11,dI b),(12,dI c),(22,dB u)],[(2,.box [dL 1 d,dL 1 e,dL 5 f,dL 6 g]),(3,.box [dI h,dL 5 i,dL 2 j,dL 4 a,dL 7 l,dL 4 m,dL 5 o,dL 3 p]),(6,.box [dT q,dI r,dI s,dL 4 t])]⟩ k=GK n a b c u d e f g h i j l m o p q r s t (fun v=>k .normal ⟨64,[(2,.ptr 2 0),(3,.ptr 3 0),(6,.ptr 6 0),(10,dL 4 a),(11,dI b),(12,dI c),(29,dB v)],[(2,.box [dL 1 d,dL 1 e,dL 5 f,dL 6 g]),(3,.box [dI h,dL 5 i,dL 2 j,dL 4 a,dL 7 l,dL 4 m,dL 5 o,dL 3 p]),(6,.box [dT q,dI r,dI s,dL 4 t])]⟩):=by kernel_rfl
theorem B7 (n:Nat) (a:LL) (b c:Int) (u:Bool) (d e f g:LL) (h:Int) (i j l m o p:LL) (q:List UInt8) (r s:Int) (t:LL) (k:Exit→St→Option R):(Xf (Qg n) n P8 (Q9 2 k)) .normal ⟨64,[(2,.ptr 2 0),(3,.ptr 3 0),(6,.ptr 6 0),(10,dL 4 a),(11,dI b),(12,dI c),(29,dB u)],[(2,.box [dL 1 d,dL 1 e,dL 5 f,dL 6 g]),(3,.box [dI h,dL 5 i,dL 2 j,dL 4 a,dL 7 l,dL 4 m,dL 5 o,dL 3 p]),(6,.box [dT q,dI r,dI s,dL 4 t])]⟩=PD n a b c u d e f g h i j l m o p q r s t (fun v=>k .ret (Zd v)) (fun w=>k .normal (TU a b c w d e f g h i j a l m o p q r s t)):=by kernel_rfl
theorem CR (n:Nat) (b:Int) (a:LL) (c:Int) (d e f g:LL) (h:Int) (i j l m o p:LL) (u v w x:D) (k:Exit→St→Option R):Qi (Qg n) n PY (PI b a c b d e f g h i j a l m o p u v w x) k=GU n b a c d e f g h i j l m o p u v w x (fun aa=>k .ret (Zd aa)) (fun ab q r s t=>k .normal (TU a c b ab d e f g h i j a l m o p q r s t)):=
 (CN n b a c d e f g h i j l m o p u v w x k).trans (cg2 (fun y x1=>GR n b a c d e f g h i j l m o p u v w x y x1 ) rfl (funext fun z=>funext fun q=>funext fun r=>funext fun s=>funext fun t=>(CX n a c b z d e f g h i j l m o p q r s t (Xf (Qg n) n P8 (Q9 2 k))).trans (cg1 (fun y=>GK n a c b z d e f g h i j l m o p q r s t y ) (funext fun ad=>(B7 n a c b ad d e f g h i j l m o p q r s t k)))))
theorem B3 (n:Nat) (a:LL) (b c:Int) (u:Bool) (d e f g:LL) (h:Int) (i j l m o p:LL) (q:List UInt8) (r s:Int) (t:LL) (k:Exit→St→Option R):(Xf (Qg n) n PJ (Q9 1 (Xf (Qg n) n Uk k))) .normal (TU a b c u d e f g h i j a l m o p q r s t)=GQ n a b c u d e f g h i j l m o p q r s t (fun v=>X7 (lB (Qg n) n GP) n ⟨64,[(2,.ptr 2 0),(3,.ptr 3 0),(6,.ptr 6 0),(10,dL 4 a),(11,dI b),(12,dI c),(50,dI v),(51,dI (0:Int))],[(2,.box [dL 1 d,dL 1 e,dL 5 f,dL 6 g]),(3,.box [dI h,dL 5 i,dL 2 j,dL 4 a,dL 7 l,dL 4 m,dL 5 o,dL 3 p]),(6,.box [dT q,dI r,dI s,dL 4 t])]⟩ (Q9 3 (Q9 1 (Xf (Qg n) n Uk k)))):=by kernel_rfl
theorem Cq (n:Nat) (a:LL) (b c d v:Int) (e f g h:LL) (i:Int) (j l m o p q:LL) (r:List UInt8) (s t:Int) (u:LL) (k:Exit→St→Option R):Qi (Qg n) n GP (P4 a b c d v e f g h i j l a m o p q r s t u) k=VO n a b c d v e f g h i j l m o p q r s t u (fun w=>k .ret (Zd w)) (fun x=>k .normal (P4 a b c d x e f g h i j l a m o p q r s t u)) (fun y=>k (.exit 3) (Pi a b c d v y e f g h i j l a m o p q r s t u)):=by kernel_rfl
theorem Rs (n:Nat) (a:LL) (c d e:Int) (f g h i:LL) (j:Int) (l o p q r s:LL) (t:List UInt8) (u v:Int) (w:LL) (k:Exit→St→Option R):∀ (m:Nat) (b:Int),X7 (lB (Qg n) n GP) m (P4 a c d e b f g h i j l o a p q r s t u v w) k=ZP n a c d e f g h i j l o p q r s t u v w (fun x=>k .ret (Zd x)) (fun b y=>k (.exit 3) (Pi a c d e b y f g h i j l o a p q r s t u v w)) m b
 | 0,_=>rfl
 | m+1,b=>(lS (by kernel_rfl) m k).trans ((Cq n a c d e b f g h i j l o p q r s t u v w (WB (lB (Qg n) n GP) m k)).trans (cg3 (fun z x1 x2=>VO n a c d e b f g h i j l o p q r s t u v w z x1 x2 ) rfl (funext fun ac=>Rs n a c d e f g h i j l o p q r s t u v w k m ac) rfl))
theorem DS (n:Nat) (a:LL) (b p q r:Int) (s:Bool) (c d e f:LL) (g:Int) (h i j l m o:LL) (t:List UInt8) (u v:Int) (w:LL) (k:Exit→St→Option R):(Q9 3 (Q9 1 (Xf (Qg n) n Uk k))) (.exit 3) (Pi a b p q r s c d e f g h i a j l m o t u v w)=HX n a b p q r s c d e f g h i j l m o t u v w (fun x=>k .normal (VA a b x c d e f g h i a j l m o)):=by kernel_rfl
theorem DX (n:Nat) (a:LL) (b p:Int) (c d e f:LL) (g:Int) (h i j l m o:LL) (k:Exit→St→Option R):Qi (Qg n) n VK (VA a b p c d e f g h i a j l m o) k=Va n a b p c d e f g h i j l m o (fun ac=>k .ret (Zd ac)) (fun ad=>k .normal (VA a b ad c d e f g h i a j l m o)) (fun ae=>k (.exit 0) (GF a b p ae c d e f g h i a j l m o)):=
 (Bi n a b p c d e f g h i j l m o k).trans (cg2 (fun q r=>VI n a b p c d e f g h i j l m o q r ) (funext fun x=>funext fun y=>funext fun z=>funext fun aa=>(CR n p a b c d e f g h i j l m o x y z aa (Xf (Qg n) n PJ (Q9 1 (Xf (Qg n) n Uk k)))).trans (cg2 (fun q r=>GU n p a b c d e f g h i j l m o x y z aa q r ) rfl (funext fun ab=>funext fun s=>funext fun t=>funext fun u=>funext fun v=>(B3 n a b p ab c d e f g h i j l m o s t u v k).trans (cg1 (fun q=>GQ n a b p ab c d e f g h i j l m o s t u v q ) (funext fun w=>(Rs n a b p w c d e f g h i j l m o s t u v (Q9 3 (Q9 1 (Xf (Qg n) n Uk k))) n (0:Int)).trans (cg2 (fun q r=>ZP n a b p w c d e f g h i j l m o s t u v q r n (0:Int)) rfl (funext fun af=>funext fun ag=>(DS n a b p w af ag c d e f g h i j l m o s t u v k)))))))) rfl)
theorem Sj (n:Nat) (a:LL) (c:Int) (d e f g:LL) (h:Int) (i j l o p q:LL) (k:Exit→St→Option R):∀ (m:Nat) (b:Int),X7 (lB (Qg n) n VK) m (VA a c b d e f g h i j a l o p q) k=Zq n a c d e f g h i j l o p q (fun r=>k .ret (Zd r)) (fun b s=>k (.exit 0) (GF a c b s d e f g h i j a l o p q)) m b
 | 0,_=>rfl
 | m+1,b=>(lS (by kernel_rfl) m k).trans ((DX n a c b d e f g h i j l o p q (WB (lB (Qg n) n VK) m k)).trans (cg3 (fun t u v=>Va n a c b d e f g h i j l o p q t u v ) rfl (funext fun w=>Sj n a c d e f g h i j l o p q k m w) rfl))
theorem C1 (n:Nat) (a:LL) (b c:Int) (d:Bool) (e f g h:LL) (i:Int) (j l m o p q:LL) (k:Exit→St→Option R):(Q9 0 (Xf (Qg n) n Pj k)) (.exit 0) (GF a b c d e f g h i j l a m o p q)=MG n a b c d e f g h i j l m o p q (k .ret ⟨64,[(4,dI (0:Int))],[]⟩):=by kernel_rfl
theorem Cn (n:Nat) (a b c d:LL) (e:Int) (f g h i j l m:LL) (k:Exit→St→Option R):Qi (Qg n) n PQ ⟨64,[(0,.ag [dL 1 a,dL 1 b,dL 5 c,dL 6 d]),(1,.ag [dI e,dL 5 f,dL 2 g,dL 4 h,dL 7 i,dL 4 j,dL 5 l,dL 3 m])],[]⟩ k=T2 n a b c d e f g h i j l m (fun q=>k .ret (Zd q)):=
 (BD n a b c d e f g h i j l m k).trans (cg1 (fun o=>GX n a b c d e f g h i j l m o ) (funext fun p=>(Sj n h p a b c d e f g i j l m (Q9 0 (Xf (Qg n) n Pj k)) n (0:Int)).trans (cg2 (fun o r=>Zq n h p a b c d e f g i j l m o r n (0:Int)) rfl (funext fun s=>funext fun t=>(C1 n h p s t a b c d e f g i j l m k)))))
theorem Q0D (n:Nat) (a c d e:LL) (f:Int) (g h i j k l m:LL) (K:AV→Option R):vfn (Qg n) n Tryz.f30 [.ag [.d (D.sl 1 a),.d (D.sl 1 c),.d (D.sl 5 d),.d (D.sl 6 e)],.ag [.d (D.int .i64 f),.d (D.sl 5 g),.d (D.sl 2 h),.d (D.sl 4 i),.d (D.sl 7 j),.d (D.sl 4 k),.d (D.sl 5 l),.d (D.sl 3 m)]] [] (Wc [[0]] K)=UV n a c d e f g h i j k l m (fun o=>K (.d (D.int .i64 o))):=
 Eq.trans (b:=Qi (Qg n) n PQ ⟨64,[(0,.ag [dL 1 a,dL 1 c,dL 5 d,dL 6 e]),(1,.ag [dI f,dL 5 g,dL 2 h,dL 4 i,dL 7 j,dL 4 k,dL 5 l,dL 3 m])],[]⟩ (K3 gtt [.tmp 4] (Wc [[0]] K))) VP ((Cn n a c d e f g h i j k l m (K3 gtt [.tmp 4] (Wc [[0]] K))).trans (by kernel_rfl))
def SI (n:Nat):XH:=fun _ _ g avs _ k=>match avs with
 | [c0,c1]=>
  prG c0 fun l0=>(match l0 with
  | [a,b,c,d]=>prS g 1 a fun e=>prS g 1 b fun f=>prS g 5 c fun h=>prS g 6 d fun i=>
  prG c1 fun l1=>(match l1 with
  | [j,l,m,o,p,q,s,t]=>prI g .i64 j fun u=>prS g 5 l fun v=>prS g 2 m fun w=>prS g 4 o fun x=>prS g 7 p fun y=>prS g 4 q fun z=>prS g 5 s fun aa=>prS g 3 t fun ab=>
  gb g (UV n e f h i u v w x y z aa ab some) 0 fun r=>k ⟨.d (D.int .i64 r),[],[]⟩
  | _=>none)
  | _=>none)
 | _=>none
theorem Q1h (n:Nat):Qo Tryz.prog 30 (SI n):=by
  intro R site g avs hl k r h
  unfold SI at h
  split at h
  rotate_left
  · cases h
  obtain ⟨l0,h,q⟩:=Qq h
  split at h
  rotate_left
  · cases h
  obtain ⟨a,h,s⟩:=Q1 h
  obtain ⟨b,h,t⟩:=Q1 h
  obtain ⟨c,h,u⟩:=Q1 h
  obtain ⟨d,h,v⟩:=Q1 h
  obtain ⟨l1,h,e1⟩:=Qq h
  split at h
  rotate_left
  · cases h
  obtain ⟨e,h,w⟩:=Q2 h
  obtain ⟨f,h,x⟩:=Q1 h
  obtain ⟨i,h,y⟩:=Q1 h
  obtain ⟨j,h,z⟩:=Q1 h
  obtain ⟨l,h,aa⟩:=Q1 h
  obtain ⟨m,h,ab⟩:=Q1 h
  obtain ⟨o,h,ac⟩:=Q1 h
  obtain ⟨p,h,ad⟩:=Q1 h
  obtain ⟨res,h,hr⟩:=Qc h
  have hL:=h
  subst q e1
  refine ⟨_,hL,fun hg=>QI.conv (avs':=[.ag [.d (D.sl 1 a),.d (D.sl 1 b),.d (D.sl 5 c),.d (D.sl 6 d)],.ag [.d (D.int .i64 e),.d (D.sl 5 f),.d (D.sl 2 i),.d (D.sl 4 j),.d (D.sl 7 l),.d (D.sl 4 m),.d (D.sl 5 o),.d (D.sl 3 p)]]) (.cons (.ag (.cons (s hg) (.cons (t hg) (.cons (u hg) (.cons (v hg) (.nil)))))) (.cons (.ag (.cons (w hg) (.cons (x hg) (.cons (y hg) (.cons (z hg) (.cons (aa hg) (.cons (ab hg) (.cons (ac hg) (.cons (ad hg) (.nil)))))))))) (.nil))) (QE (K:=kI) (res:=res) (Q1j n) (fn:=Tryz.f30) (n:=n) (ss:=[[0]]) ?_ ?_)⟩
  · exact (Q0D n a b c d e f i j l m o p kI).trans (hr hg)
  · exact NW

noncomputable def Q5r:Code:=Q8 Tryz.f61
def AH (n:Nat):VC:=⟨QK [],gtt,[cO 0 [1,2] [2],cK 1 [4]]⟩
theorem Q6f (n:Nat):VCOk Tryz.prog (AH n):=gVC (Qe trivial)
theorem Q43 (n:Nat) (a:Int) (b d e f g h i:LL) (a1:Int) (K:AV→Option R):vfn (AH n) n Tryz.f61 [.ag [.d (D.int .i64 a),.d (D.sl 5 b),.d (D.sl 2 d),.d (D.sl 4 e),.d (D.sl 7 f),.d (D.sl 4 g),.d (D.sl 5 h),.d (D.sl 3 i)],.d (D.int .i64 a1)] [] (Wc [[0]] K)=Kr n a b d e f g h i a1 (fun j=>K (.d (D.bool j))):=
 (VP (c:=Q5r) (m:=14) (tm:=[(0,.ag [dI a,dL 5 b,dL 2 d,dL 4 e,dL 7 f,dL 4 g,dL 5 h,dL 3 i]),(1,dI a1)]) (rs:=[.tmp 4]) (tt:=gtt)).trans (by kernel_rfl)
def Ri (n:Nat):XH:=fun _ _ g avs _ k=>match avs with
 | [c0,c1]=>
  prG c0 fun l0=>(match l0 with
  | [a,b,c,d,e,f,h,i]=>prI g .i64 a fun j=>prS g 5 b fun l=>prS g 2 c fun m=>prS g 4 d fun o=>prS g 7 e fun p=>prS g 4 f fun q=>prS g 5 h fun s=>prS g 3 i fun t=>prI g .i64 c1 fun a1=>
  gb g (Kr n j l m o p q s t a1 some) false fun r=>k ⟨.d (D.bool r),[],[]⟩
  | _=>none)
 | _=>none
theorem BL (n:Nat):Qo Tryz.prog 61 (Ri n):=by
  intro R site g avs hl k r h
  unfold Ri at h
  split at h
  rotate_left
  · cases h
  obtain ⟨l0,h,l⟩:=Qq h
  split at h
  rotate_left
  · cases h
  obtain ⟨a,h,m⟩:=Q2 h
  obtain ⟨b,h,o⟩:=Q1 h
  obtain ⟨c,h,p⟩:=Q1 h
  obtain ⟨d,h,q⟩:=Q1 h
  obtain ⟨e,h,s⟩:=Q1 h
  obtain ⟨f,h,t⟩:=Q1 h
  obtain ⟨i,h,u⟩:=Q1 h
  obtain ⟨j,h,v⟩:=Q1 h
  obtain ⟨a1,h,w⟩:=Q2 h
  obtain ⟨res,h,hr⟩:=Qc h
  have hL:=h
  subst l
  refine ⟨_,hL,fun hg=>QI.conv (avs':=[.ag [.d (D.int .i64 a),.d (D.sl 5 b),.d (D.sl 2 c),.d (D.sl 4 d),.d (D.sl 7 e),.d (D.sl 4 f),.d (D.sl 5 i),.d (D.sl 3 j)],.d (D.int .i64 a1)]) (.cons (.ag (.cons (m hg) (.cons (o hg) (.cons (p hg) (.cons (q hg) (.cons (s hg) (.cons (t hg) (.cons (u hg) (.cons (v hg) (.nil)))))))))) (.cons (w hg) (.nil))) (QE (K:=kB) (res:=res) (Q6f n) (fn:=Tryz.f61) (n:=n) (ss:=[[0]]) ?_ ?_)⟩
  · exact (Q43 n a b c d e f i j a1 kB).trans (hr hg)
  · exact Da

noncomputable def Q5C:Code:=Q8 Tryz.f57
def AG (n:Nat):VC:=⟨QK [(61,Ri n)],gtt,[cO 0 [1,2,3] [3],cK 1 [6]]⟩
theorem Q5h (n:Nat):VCOk Tryz.prog (AG n):=gVC (Qe ⟨BL n,trivial⟩)
theorem Q4X (n:Nat) (a:Int) (b d e f g h i:LL) (a1 j:Int) (K:AV→Option R):vfn (AG n) n Tryz.f57 [.ag [.d (D.int .i64 a),.d (D.sl 5 b),.d (D.sl 2 d),.d (D.sl 4 e),.d (D.sl 7 f),.d (D.sl 4 g),.d (D.sl 5 h),.d (D.sl 3 i)],.d (D.int .i64 a1),.d (D.int .i64 j)] [] (Wc [[0]] K)=Jp n a b d e f g h i a1 j (fun k=>K (.d (D.bool k))):=
 (VP (c:=Q5C) (m:=25) (tm:=[(0,.ag [dI a,dL 5 b,dL 2 d,dL 4 e,dL 7 f,dL 4 g,dL 5 h,dL 3 i]),(1,dI a1),(2,dI j)]) (rs:=[.tmp 6]) (tt:=gtt)).trans (by kernel_rfl)
def Rf (n:Nat):XH:=fun _ _ g avs _ k=>match avs with
 | [c0,c1,a]=>
  prG c0 fun l0=>(match l0 with
  | [b,c,d,e,f,h,i,j]=>prI g .i64 b fun l=>prS g 5 c fun m=>prS g 2 d fun o=>prS g 4 e fun p=>prS g 7 f fun q=>prS g 4 h fun s=>prS g 5 i fun t=>prS g 3 j fun u=>prI g .i64 c1 fun a1=>prI g .i64 a fun v=>
  gb g (Jp n l m o p q s t u a1 v some) false fun r=>k ⟨.d (D.bool r),[],[]⟩
  | _=>none)
 | _=>none
theorem CE (n:Nat):Qo Tryz.prog 57 (Rf n):=by
  intro R site g avs hl k r h
  unfold Rf at h
  split at h
  rotate_left
  · cases h
  obtain ⟨l0,h,m⟩:=Qq h
  split at h
  rotate_left
  · cases h
  obtain ⟨a,h,o⟩:=Q2 h
  obtain ⟨b,h,p⟩:=Q1 h
  obtain ⟨c,h,q⟩:=Q1 h
  obtain ⟨d,h,s⟩:=Q1 h
  obtain ⟨e,h,t⟩:=Q1 h
  obtain ⟨f,h,u⟩:=Q1 h
  obtain ⟨i,h,v⟩:=Q1 h
  obtain ⟨j,h,w⟩:=Q1 h
  obtain ⟨a1,h,x⟩:=Q2 h
  obtain ⟨l,h,y⟩:=Q2 h
  obtain ⟨res,h,hr⟩:=Qc h
  have hL:=h
  subst m
  refine ⟨_,hL,fun hg=>QI.conv (avs':=[.ag [.d (D.int .i64 a),.d (D.sl 5 b),.d (D.sl 2 c),.d (D.sl 4 d),.d (D.sl 7 e),.d (D.sl 4 f),.d (D.sl 5 i),.d (D.sl 3 j)],.d (D.int .i64 a1),.d (D.int .i64 l)]) (.cons (.ag (.cons (o hg) (.cons (p hg) (.cons (q hg) (.cons (s hg) (.cons (t hg) (.cons (u hg) (.cons (v hg) (.cons (w hg) (.nil)))))))))) (.cons (x hg) (.cons (y hg) (.nil)))) (QE (K:=kB) (res:=res) (Q5h n) (fn:=Tryz.f57) (n:=n) (ss:=[[0]]) ?_ ?_)⟩
  · exact (Q4X n a b c d e f i j a1 l kB).trans (hr hg)
  · exact Da

noncomputable def H5:Code:=Q8 Tryz.f31
noncomputable def VY:Code:=cA [1,0,1,2,2] (Q8 Tryz.f31)
noncomputable def H1:Code:=cA [1,1] (Q8 Tryz.f31)
def KU (a:LL) (b c:Int) (d e f g:LL) (h:Int) (i j k l m n o:LL):St:=⟨98,[(2,.ptr 2 0),(3,.ptr 3 0),(10,dL 7 a),(11,dI b),(12,dI c)],[(2,.box [dL 1 d,dL 1 e,dL 5 f,dL 6 g]),(3,.box [dI h,dL 5 i,dL 2 j,dL 4 k,dL 7 l,dL 4 m,dL 5 n,dL 3 o])]⟩
def KS (a:LL) (b c:Int) (d:Bool) (e f g h:LL) (i:Int) (j k l m n o p:LL):St:=⟨98,[(2,.ptr 2 0),(3,.ptr 3 0),(10,dL 7 a),(11,dI b),(12,dI c),(13,dB d)],[(2,.box [dL 1 e,dL 1 f,dL 5 g,dL 6 h]),(3,.box [dI i,dL 5 j,dL 2 k,dL 4 l,dL 7 m,dL 4 n,dL 5 o,dL 3 p])]⟩
def XS (n:Nat):VC:=⟨QK [(57,Rf n),(58,P3 n),(55,NG n),(59,M5 n),(60,Rq n)],gtt,[cO 0 [2,3] [2,3],cO 1 [2,3,10,11,12] [2,3],cO 2 [2,3,10,11,12,13] [2,3],cO 3 [2,3,6,10,11,12] [2,3,6],cO 4 [2,3,6,10,11,12,53] [2,3,6],cK 5 [4],cO 6 [2,3,6,7,10,11,12] [2,3,6],cO 7 [2,3,7,8,10,11,12] [2,3],cO 8 [2,3,10,11,12,96] [2,3],cK 9 [4],cO 10 [2,3,10,11,12] [2,3],cK 11 [4]]⟩
theorem AA (n:Nat):VCOk Tryz.prog (XS n):=gVC (Qe ⟨CE n,⟨F2 n,⟨AF n,⟨Bs n,⟨EK n,trivial⟩⟩⟩⟩⟩)
theorem Ei (n:Nat) (b c d e:LL) (f:Int) (g h i a j l m:LL) (k:Exit→St→Option R):Qi (XS n) n H5 ⟨98,[(0,.ag [dL 1 b,dL 1 c,dL 5 d,dL 6 e]),(1,.ag [dI f,dL 5 g,dL 2 h,dL 4 i,dL 7 a,dL 4 j,dL 5 l,dL 3 m])],[]⟩ k=J1 n b c d e f g h i a j l m (fun o=>X7 (lB (XS n) n VY) n ⟨98,[(2,.ptr 2 0),(3,.ptr 3 0),(10,dL 7 a),(11,dI o),(12,dI (0:Int))],[(2,.box [dL 1 b,dL 1 c,dL 5 d,dL 6 e]),(3,.box [dI f,dL 5 g,dL 2 h,dL 4 i,dL 7 a,dL 4 j,dL 5 l,dL 3 m])]⟩ (Q9 0 (Xf (XS n) n H1 k))):=by kernel_rfl
theorem ED (n:Nat) (a:LL) (b p:Int) (c d e f:LL) (g:Int) (h i j l m o:LL) (k:Exit→St→Option R):Qi (XS n) n VY (KU a b p c d e f g h i j a l m o) k=Ur n a b p c d e f g h i j l m o (fun q=>k .ret ⟨98,[(4,dI q)],[]⟩) (fun r=>k .normal (KU a b r c d e f g h i j a l m o)) (fun s=>k (.exit 0) (KS a b p s c d e f g h i j a l m o)):=by kernel_rfl
theorem PB (n:Nat) (a:LL) (c:Int) (d e f g:LL) (h:Int) (i j l o p q:LL) (k:Exit→St→Option R):∀ (m:Nat) (b:Int),X7 (lB (XS n) n VY) m (KU a c b d e f g h i j l a o p q) k=Za n a c d e f g h i j l o p q (fun r=>k .ret ⟨98,[(4,dI r)],[]⟩) (fun b s=>k (.exit 0) (KS a c b s d e f g h i j l a o p q)) m b
 | 0,_=>rfl
 | m+1,b=>(lS (by kernel_rfl) m k).trans ((ED n a c b d e f g h i j l o p q (WB (lB (XS n) n VY) m k)).trans (cg3 (fun t u v=>Ur n a c b d e f g h i j l o p q t u v ) rfl (funext fun w=>PB n a c d e f g h i j l o p q k m w) rfl))
theorem EA (n:Nat) (a:LL) (b c:Int) (d:Bool) (e f g h:LL) (i:Int) (j l m o p q:LL) (k:Exit→St→Option R):(Q9 0 (Xf (XS n) n H1 k)) (.exit 0) (KS a b c d e f g h i j l m a o p q)=Nv n a b c d e f g h i j l m o p q (k .ret ⟨98,[(4,dI (0:Int))],[]⟩):=by kernel_rfl
theorem EG (n:Nat) (a b c d:LL) (e:Int) (f g h i j l m:LL) (k:Exit→St→Option R):Qi (XS n) n H5 ⟨98,[(0,.ag [dL 1 a,dL 1 b,dL 5 c,dL 6 d]),(1,.ag [dI e,dL 5 f,dL 2 g,dL 4 h,dL 7 i,dL 4 j,dL 5 l,dL 3 m])],[]⟩ k=KQ n a b c d e f g h i j l m (fun q=>k .ret ⟨98,[(4,dI q)],[]⟩):=
 (Ei n a b c d e f g h i j l m k).trans (cg1 (fun o=>J1 n a b c d e f g h i j l m o ) (funext fun p=>(PB n i p a b c d e f g h j l m (Q9 0 (Xf (XS n) n H1 k)) n (0:Int)).trans (cg2 (fun o r=>Za n i p a b c d e f g h j l m o r n (0:Int)) rfl (funext fun s=>funext fun t=>(EA n i p s t a b c d e f g h j l m k)))))
theorem CH (n:Nat) (a c d e:LL) (f:Int) (g h i j k l m:LL) (K:AV→Option R):vfn (XS n) n Tryz.f31 [.ag [.d (D.sl 1 a),.d (D.sl 1 c),.d (D.sl 5 d),.d (D.sl 6 e)],.ag [.d (D.int .i64 f),.d (D.sl 5 g),.d (D.sl 2 h),.d (D.sl 4 i),.d (D.sl 7 j),.d (D.sl 4 k),.d (D.sl 5 l),.d (D.sl 3 m)]] [] (Wc [[0]] K)=WL n a c d e f g h i j k l m (fun o=>K (.d (D.int .i64 o))):=
 Eq.trans (b:=Qi (XS n) n H5 ⟨98,[(0,.ag [dL 1 a,dL 1 c,dL 5 d,dL 6 e]),(1,.ag [dI f,dL 5 g,dL 2 h,dL 4 i,dL 7 j,dL 4 k,dL 5 l,dL 3 m])],[]⟩ (K3 gtt [.tmp 4] (Wc [[0]] K))) VP ((EG n a c d e f g h i j k l m (K3 gtt [.tmp 4] (Wc [[0]] K))).trans (by kernel_rfl))
def HE (n:Nat):XH:=fun _ _ g avs _ k=>match avs with
 | [c0,c1]=>
  prG c0 fun l0=>(match l0 with
  | [a,b,c,d]=>prS g 1 a fun e=>prS g 1 b fun f=>prS g 5 c fun h=>prS g 6 d fun i=>
  prG c1 fun l1=>(match l1 with
  | [j,l,m,o,p,q,s,t]=>prI g .i64 j fun u=>prS g 5 l fun v=>prS g 2 m fun w=>prS g 4 o fun x=>prS g 7 p fun y=>prS g 4 q fun z=>prS g 5 s fun aa=>prS g 3 t fun ab=>
  gb g (WL n e f h i u v w x y z aa ab some) 0 fun r=>k ⟨.d (D.int .i64 r),[],[]⟩
  | _=>none)
  | _=>none)
 | _=>none
theorem Aj (n:Nat):Qo Tryz.prog 31 (HE n):=by
  intro R site g avs hl k r h
  unfold HE at h
  split at h
  rotate_left
  · cases h
  obtain ⟨l0,h,q⟩:=Qq h
  split at h
  rotate_left
  · cases h
  obtain ⟨a,h,s⟩:=Q1 h
  obtain ⟨b,h,t⟩:=Q1 h
  obtain ⟨c,h,u⟩:=Q1 h
  obtain ⟨d,h,v⟩:=Q1 h
  obtain ⟨l1,h,e1⟩:=Qq h
  split at h
  rotate_left
  · cases h
  obtain ⟨e,h,w⟩:=Q2 h
  obtain ⟨f,h,x⟩:=Q1 h
  obtain ⟨i,h,y⟩:=Q1 h
  obtain ⟨j,h,z⟩:=Q1 h
  obtain ⟨l,h,aa⟩:=Q1 h
  obtain ⟨m,h,ab⟩:=Q1 h
  obtain ⟨o,h,ac⟩:=Q1 h
  obtain ⟨p,h,ad⟩:=Q1 h
  obtain ⟨res,h,hr⟩:=Qc h
  have hL:=h
  subst q e1
  refine ⟨_,hL,fun hg=>QI.conv (avs':=[.ag [.d (D.sl 1 a),.d (D.sl 1 b),.d (D.sl 5 c),.d (D.sl 6 d)],.ag [.d (D.int .i64 e),.d (D.sl 5 f),.d (D.sl 2 i),.d (D.sl 4 j),.d (D.sl 7 l),.d (D.sl 4 m),.d (D.sl 5 o),.d (D.sl 3 p)]]) (.cons (.ag (.cons (s hg) (.cons (t hg) (.cons (u hg) (.cons (v hg) (.nil)))))) (.cons (.ag (.cons (w hg) (.cons (x hg) (.cons (y hg) (.cons (z hg) (.cons (aa hg) (.cons (ab hg) (.cons (ac hg) (.cons (ad hg) (.nil)))))))))) (.nil))) (QE (K:=kI) (res:=res) (AA n) (fn:=Tryz.f31) (n:=n) (ss:=[[0]]) ?_ ?_)⟩
  · exact (CH n a b c d e f i j l m o p kI).trans (hr hg)
  · exact NW

end Go.Vx
set_option maxRecDepth 100000
namespace Go.Vx
open Go.Proofs
noncomputable def S7:Code:=Q8 Tryz.f63
def Jl (n:Nat):VC:=⟨QK [],gtt,[cO 0 [1,2] [2,1000000],cO 1 [3] [1000000]]⟩
theorem Sd (n:Nat):VCOk Tryz.prog (Jl n):=gVC (Qe trivial)
def Wn:AV→List (Nat × Ob)→Option (Bool × Int × Int × Int × Int):=fun av H=>(look H 1000000).bind fun o0=>match av,o0 with
 | .d (D.bool a),.box [.d (D.int .i64 b),.d (D.int .i64 r2),.d (D.int .i64 r3),.d (D.int .i64 c)]=>some (a,b,r2,r3,c)
 | _,_=>none
theorem Pk (n:Nat) (a b d e f g h i:Int):vfn (Jl n) n Tryz.f63 [.ag [.d (D.int .i64 a),.d (D.int .i64 b),.d (D.int .i64 d),.d (D.int .i64 e)],.ptr 1000000 0] [(1000000,.box [.d (D.int .i64 f),.d (D.int .i64 g),.d (D.int .i64 h),.d (D.int .i64 i)])] Wn=Zm n a b d e f g h i (fun j k r2 r3 l=>some (j,k,r2,r3,l)):=
 (VP (c:=S7) (m:=16) (tm:=[(0,.ag [dI a,dI b,dI d,dI e]),(1,.ptr 1000000 0)]) (rs:=[.tmp 3]) (tt:=gtt)).trans (by kernel_rfl)
def WM (n:Nat):XH:=fun _ site g avs hl k=>match avs with
 | [c0,c1]=>prG c0 fun a=>(match a with
  | [b,c,d,e]=>prI g .i64 b fun f=>prI g .i64 c fun h=>prI g .i64 d fun i=>prI g .i64 e fun j=>prP hl c1 fun l0 l=>(match l with
  | [m,o,p,q]=>prI g .i64 m fun s=>prI g .i64 o fun t=>prI g .i64 p fun u=>prI g .i64 q fun v=>
  bif UY hl [(1000000,l0)] [] then gb g (Zm n f h i j s t u v (fun w x r2 r3 y=>some (w,x,r2,r3,y))) (false,0,0,0,0) fun r=>k ⟨.d (D.bool r.1),[(l0,some (.box [.d (D.int .i64 r.2.1),.d (D.int .i64 r.2.2.1),.d (D.int .i64 r.2.2.2.1),.d (D.int .i64 r.2.2.2.2)]))],[l0]⟩ else none
  | _=>none)
  | _=>none)
 | _=>none
theorem Sa (n:Nat):Qo Tryz.prog 63 (WM n):=by
  intro R site g avs hl k r h
  unfold WM at h
  split at h
  rotate_left
  · cases h
  obtain ⟨z,h,m⟩:=Qq h
  split at h
  rotate_left
  · cases h
  obtain ⟨a,h,o⟩:=Q2 h
  obtain ⟨b,h,p⟩:=Q2 h
  obtain ⟨c,h,q⟩:=Q2 h
  obtain ⟨d,h,s⟩:=Q2 h
  obtain ⟨l0,aa,h,t,u⟩:=YT h
  split at h
  rotate_left
  · cases h
  obtain ⟨e,h,v⟩:=Q2 h
  obtain ⟨f,h,w⟩:=Q2 h
  obtain ⟨i,h,x⟩:=Q2 h
  obtain ⟨j,h,y⟩:=Q2 h
  obtain ⟨hc,h⟩:=Xa h
  obtain ⟨res,h,hr⟩:=Qc h
  have hL:=h
  subst m t
  refine ⟨_,hL,fun hg=>Zl (K:=Wn) (res:=res) (Sd n) (fn:=Tryz.f63) (n:=n) (by kernel_rfl) (by kernel_rfl) (by kernel_rfl) (ρ:=[(1000000,l0)]) (ν:=[]) (avs':=[.ag [.d (D.int .i64 a),.d (D.int .i64 b),.d (D.int .i64 c),.d (D.int .i64 d)],.ptr 1000000 0]) (H:=[(1000000,.box [.d (D.int .i64 e),.d (D.int .i64 f),.d (D.int .i64 i),.d (D.int .i64 j)])]) (.cons (.data rfl (.ag (.cons (o hg) (.cons (p hg) (.cons (q hg) (.cons (s hg) (.nil))))))) (.cons (.own rfl rfl) (.nil))) rfl rfl hc (⟨⟨by decide,_,_,u,rfl,.box (.cons (.data rfl (v hg)) (.cons (.data rfl (w hg)) (.cons (.data rfl (x hg)) (.cons (.data rfl (y hg)) (.nil)))))⟩,trivial⟩) rfl rfl ?_ ?_⟩
  · exact (Pk n a b c d e f i j).trans (hr hg)
  · intro av H' hx
    unfold Wn at hx
    simp only [Option.bind_eq_some_iff] at hx
    obtain ⟨o0,l,hx⟩:=hx
    split at hx
    rotate_left
    · cases hx
    injection hx with hx
    subst hx
    refine ⟨rfl,?_,trivial,⟨YI rfl l rfl,trivial⟩⟩
    simp only [List.cons_append,List.nil_append,K2,l,Option.map_some,Option.map_none]
    rfl
end Go.Vx
set_option maxRecDepth 100000
namespace Go.Vx
open Go.Proofs
variable {R:Type}
noncomputable def Xv:Code:=Q8 Tryz.f78
noncomputable def QT:Code:=cA [1,0,1,2,2] (Q8 Tryz.f78)
noncomputable def Xt:Code:=cA [1,1] (Q8 Tryz.f78)
def Xx (a:LL) (b c d e:Int):St:=⟨19,[(0,dL 4 a),(1,.fn 63 [.ptr 1000000 0])],[(1000000,.box [dI b,dI c,dI d,dI e])]⟩
def XD (a:LL) (b c d e f g:Int):St:=⟨19,[(0,dL 4 a),(1,.fn 63 [.ptr 1000000 0]),(7,dI b),(8,dI c)],[(1000000,.box [dI d,dI e,dI f,dI g])]⟩
def XC (a:LL) (b c:Int) (d:Bool) (e f g h:Int):St:=⟨19,[(0,dL 4 a),(1,.fn 63 [.ptr 1000000 0]),(7,dI b),(8,dI c),(9,dB d)],[(1000000,.box [dI e,dI f,dI g,dI h])]⟩
def Q6 (n:Nat):VC:=⟨QK [(63,WM n)],gtt,[cO 0 [0,1] [1000000],cO 1 [0,1,7,8] [1000000],cO 2 [0,1,7,8,9] [1000000],cO 3 [0,1,5,7,8] [1000000],cO 4 [0,1,5,7,8,16] [1000000],cO 5 [4] [1000000],cO 6 [0,1,7,8] [1000000],cO 7 [4] [1000000]]⟩
theorem U0 (n:Nat):VCOk Tryz.prog (Q6 n):=gVC (Qe ⟨Sa n,trivial⟩)
theorem Wu (n:Nat) (a0:LL) (a b c d:Int) (k:Exit→St→Option R):Qi (Q6 n) n Xv (Xx a0 a b c d) k=QS n a0 a b c d (fun e=>X7 (lB (Q6 n) n QT) n ⟨19,[(0,dL 4 a0),(1,.fn 63 [.ptr 1000000 0]),(7,dI e),(8,dI (0:Int))],[(1000000,.box [dI a,dI b,dI c,dI d])]⟩ (Q9 0 (Xf (Q6 n) n Xt k))):=by kernel_rfl
theorem Wo (n:Nat) (a0:LL) (a b c d e f:Int) (k:Exit→St→Option R):Qi (Q6 n) n QT (XD a0 a b c d e f) k=QC n a0 a b c d e f (fun g h i j=>k .ret ⟨19,[(4,dI b)],[(1000000,.box [dI g,dI h,dI i,dI j])]⟩) (fun l m o p q=>k .normal (XD a0 a l m o p q)) (fun r=>k (.exit 0) (XC a0 a b r c d e f)):=by kernel_rfl
theorem Ys (n:Nat) (a0:LL) (f:Int) (k:Exit→St→Option R):∀ (m:Nat) (a b c d e:Int),X7 (lB (Q6 n) n QT) m (XD a0 f a b c d e) k=Ql n a0 f (fun a g h i j=>k .ret ⟨19,[(4,dI a)],[(1000000,.box [dI g,dI h,dI i,dI j])]⟩) (fun a l b c d e=>k (.exit 0) (XC a0 f a l b c d e)) m a b c d e
 | 0,_,_,_,_,_=>rfl
 | m+1,a,b,c,d,e=>(lS (by kernel_rfl) m k).trans ((Wo n a0 f a b c d e (WB (lB (Q6 n) n QT) m k)).trans (cg3 (fun o p q=>QC n a0 f a b c d e o p q ) rfl (funext fun r=>funext fun s=>funext fun t=>funext fun u=>funext fun v=>Ys n a0 f k m r s t u v) rfl))
theorem Wt (n:Nat) (a0:LL) (e f:Int) (g:Bool) (a b c d:Int) (k:Exit→St→Option R):(Q9 0 (Xf (Q6 n) n Xt k)) (.exit 0) (XC a0 e f g a b c d)=YF n a0 e f g a b c d (k .ret ⟨19,[(4,dI (-1:Int))],[(1000000,.box [dI a,dI b,dI c,dI d])]⟩):=by kernel_rfl
theorem Wx (n:Nat) (a0:LL) (a b c d:Int) (k:Exit→St→Option R):Qi (Q6 n) n Xv (Xx a0 a b c d) k=XA n a0 a b c d (fun g h i j l=>k .ret ⟨19,[(4,dI g)],[(1000000,.box [dI h,dI i,dI j,dI l])]⟩):=
 (Wu n a0 a b c d k).trans (cg1 (fun e=>QS n a0 a b c d e ) (funext fun f=>(Ys n a0 f (Q9 0 (Xf (Q6 n) n Xt k)) n (0:Int) a b c d).trans (cg2 (fun e m=>Ql n a0 f e m n (0:Int) a b c d) rfl (funext fun o=>funext fun p=>funext fun q=>funext fun r=>funext fun s=>funext fun t=>(Wt n a0 f o p q r s t k)))))
def QD:AV→List (Nat × Ob)→Option (Int × Int × Int × Int × Int):=fun av H=>(look H 1000000).bind fun o0=>match av,o0 with
 | .d (D.int .i64 a),.box [.d (D.int .i64 b),.d (D.int .i64 r2),.d (D.int .i64 r3),.d (D.int .i64 c)]=>some (a,b,r2,r3,c)
 | _,_=>none
theorem WJ (n:Nat) (a0:LL) (a c d e:Int):vfn (Q6 n) n Tryz.f78 [.d (D.sl 4 a0),.fn 63 [.ptr 1000000 0]] [(1000000,.box [.d (D.int .i64 a),.d (D.int .i64 c),.d (D.int .i64 d),.d (D.int .i64 e)])] QD=QZ n a0 a c d e (fun f g r2 r3 h=>some (f,g,r2,r3,h)):=
 Eq.trans (b:=Qi (Q6 n) n Xv (Xx a0 a c d e) (K3 gtt [.tmp 4] QD)) VP ((Wx n a0 a c d e (K3 gtt [.tmp 4] QD)).trans (by kernel_rfl))
def XI (n:Nat):XH:=fun _ site g avs hl k=>match avs with
 | [c0,c1]=>prS g 4 c0 fun a0=>prF 63 c1 fun a=>(match a with
  | [b]=>prP hl b fun l0 c=>(match c with
  | [d,e,f,h]=>prI g .i64 d fun i=>prI g .i64 e fun j=>prI g .i64 f fun l=>prI g .i64 h fun m=>
  bif UY hl [(1000000,l0)] [] then gb g (QZ n a0 i j l m (fun o p r2 r3 q=>some (o,p,r2,r3,q))) (0,0,0,0,0) fun r=>k ⟨.d (D.int .i64 r.1),[(l0,some (.box [.d (D.int .i64 r.2.1),.d (D.int .i64 r.2.2.1),.d (D.int .i64 r.2.2.2.1),.d (D.int .i64 r.2.2.2.2)]))],[l0]⟩ else none
  | _=>none)
  | _=>none)
 | _=>none
theorem WW (n:Nat):Qo Tryz.prog 78 (XI n):=by
  intro R site g avs hl k r h
  unfold XI at h
  split at h
  rotate_left
  · cases h
  obtain ⟨a0,h,f⟩:=Q1 h
  obtain ⟨s,h,i⟩:=Rc h
  split at h
  rotate_left
  · cases h
  obtain ⟨l0,t,h,j,l⟩:=YT h
  split at h
  rotate_left
  · cases h
  obtain ⟨a,h,m⟩:=Q2 h
  obtain ⟨b,h,o⟩:=Q2 h
  obtain ⟨c,h,p⟩:=Q2 h
  obtain ⟨d,h,q⟩:=Q2 h
  obtain ⟨hc,h⟩:=Xa h
  obtain ⟨res,h,hr⟩:=Qc h
  have hL:=h
  subst i j
  refine ⟨_,hL,fun hg=>Zl (K:=QD) (res:=res) (U0 n) (fn:=Tryz.f78) (n:=n) (by kernel_rfl) (by kernel_rfl) (by kernel_rfl) (ρ:=[(1000000,l0)]) (ν:=[]) (avs':=[.d (D.sl 4 a0),.fn 63 [.ptr 1000000 0]]) (H:=[(1000000,.box [.d (D.int .i64 a),.d (D.int .i64 b),.d (D.int .i64 c),.d (D.int .i64 d)])]) (.cons (.data rfl (f hg)) (.cons (.own rfl rfl) (.nil))) rfl rfl hc (⟨⟨by decide,_,_,l,rfl,.box (.cons (.data rfl (m hg)) (.cons (.data rfl (o hg)) (.cons (.data rfl (p hg)) (.cons (.data rfl (q hg)) (.nil)))))⟩,trivial⟩) rfl rfl ?_ ?_⟩
  · exact (WJ n a0 a b c d).trans (hr hg)
  · intro av H' hx
    unfold QD at hx
    simp only [Option.bind_eq_some_iff] at hx
    obtain ⟨o0,e,hx⟩:=hx
    split at hx
    rotate_left
    · cases hx
    injection hx with hx
    subst hx
    refine ⟨rfl,?_,trivial,⟨YI rfl e rfl,trivial⟩⟩
    simp only [List.cons_append,List.nil_append,K2,e,Option.map_some,Option.map_none]
    rfl
end Go.Vx
set_option maxRecDepth 100000
namespace Go.Vx
open Go.Proofs
noncomputable def Wk:Code:=Q8 Tryz.f62
def Yx (n:Nat):VC:=⟨QK [(78,XI n)],gtt,[cO 0 [0,1] [1000000],cO 1 [4] [1000000]]⟩
theorem Wr (n:Nat):VCOk Tryz.prog (Yx n):=gVC (Qe ⟨WW n,trivial⟩)
def Xb:AV→List (Nat × Ob)→Option (Bool × Int × Int × Int × Int):=fun av H=>(look H 1000000).bind fun o0=>match av,o0 with
 | .d (D.bool a),.box [.d (D.int .i64 b),.d (D.int .i64 r2),.d (D.int .i64 r3),.d (D.int .i64 c)]=>some (a,b,r2,r3,c)
 | _,_=>none
theorem W0 (n:Nat) (a0:LL) (a b d e:Int):vfn (Yx n) n Tryz.f62 [.d (D.sl 4 a0),.fn 63 [.ptr 1000000 0]] [(1000000,.box [.d (D.int .i64 a),.d (D.int .i64 b),.d (D.int .i64 d),.d (D.int .i64 e)])] Xb=QB n a0 a b d e (fun f g r2 r3 h=>some (f,g,r2,r3,h)):=
 (VP (c:=Wk) (m:=9) (tm:=[(0,dL 4 a0),(1,.fn 63 [.ptr 1000000 0])]) (rs:=[.tmp 4]) (tt:=gtt)).trans (by kernel_rfl)
def Xo (n:Nat):XH:=fun _ site g avs hl k=>match avs with
 | [c0,c1]=>prS g 4 c0 fun a0=>prF 63 c1 fun a=>(match a with
  | [b]=>prP hl b fun l0 c=>(match c with
  | [d,e,f,h]=>prI g .i64 d fun i=>prI g .i64 e fun j=>prI g .i64 f fun l=>prI g .i64 h fun m=>
  bif UY hl [(1000000,l0)] [] then gb g (QB n a0 i j l m (fun o p r2 r3 q=>some (o,p,r2,r3,q))) (false,0,0,0,0) fun r=>k ⟨.d (D.bool r.1),[(l0,some (.box [.d (D.int .i64 r.2.1),.d (D.int .i64 r.2.2.1),.d (D.int .i64 r.2.2.2.1),.d (D.int .i64 r.2.2.2.2)]))],[l0]⟩ else none
  | _=>none)
  | _=>none)
 | _=>none
theorem Wl (n:Nat):Qo Tryz.prog 62 (Xo n):=by
  intro R site g avs hl k r h
  unfold Xo at h
  split at h
  rotate_left
  · cases h
  obtain ⟨a0,h,f⟩:=Q1 h
  obtain ⟨s,h,i⟩:=Rc h
  split at h
  rotate_left
  · cases h
  obtain ⟨l0,t,h,j,l⟩:=YT h
  split at h
  rotate_left
  · cases h
  obtain ⟨a,h,m⟩:=Q2 h
  obtain ⟨b,h,o⟩:=Q2 h
  obtain ⟨c,h,p⟩:=Q2 h
  obtain ⟨d,h,q⟩:=Q2 h
  obtain ⟨hc,h⟩:=Xa h
  obtain ⟨res,h,hr⟩:=Qc h
  have hL:=h
  subst i j
  refine ⟨_,hL,fun hg=>Zl (K:=Xb) (res:=res) (Wr n) (fn:=Tryz.f62) (n:=n) (by kernel_rfl) (by kernel_rfl) (by kernel_rfl) (ρ:=[(1000000,l0)]) (ν:=[]) (avs':=[.d (D.sl 4 a0),.fn 63 [.ptr 1000000 0]]) (H:=[(1000000,.box [.d (D.int .i64 a),.d (D.int .i64 b),.d (D.int .i64 c),.d (D.int .i64 d)])]) (.cons (.data rfl (f hg)) (.cons (.own rfl rfl) (.nil))) rfl rfl hc (⟨⟨by decide,_,_,l,rfl,.box (.cons (.data rfl (m hg)) (.cons (.data rfl (o hg)) (.cons (.data rfl (p hg)) (.cons (.data rfl (q hg)) (.nil)))))⟩,trivial⟩) rfl rfl ?_ ?_⟩
  · exact (W0 n a0 a b c d).trans (hr hg)
  · intro av H' hx
    unfold Xb at hx
    simp only [Option.bind_eq_some_iff] at hx
    obtain ⟨o0,e,hx⟩:=hx
    split at hx
    rotate_left
    · cases hx
    injection hx with hx
    subst hx
    refine ⟨rfl,?_,trivial,⟨YI rfl e rfl,trivial⟩⟩
    simp only [List.cons_append,List.nil_append,K2,e,Option.map_some,Option.map_none]
    rfl
end Go.Vx
set_option maxRecDepth 100000
namespace Go.Vx
open Go.Proofs
variable {R:Type}
noncomputable def P6:Code:=Q8 Tryz.f32
noncomputable def GZ:Code:=cA [1,0,1,2,2] (Q8 Tryz.f32)
noncomputable def Ti:Code:=cA [1,1] (Q8 Tryz.f32)
def To (a:LL) (b c d:Int) (e f g h i j k:LL):St:=⟨81,[(3,.ptr 3 0),(10,dL 4 a),(11,dI b),(12,dI c)],[(3,.box [dI d,dL 5 e,dL 2 f,dL 4 g,dL 7 h,dL 4 i,dL 5 j,dL 3 k])]⟩
def TF (a:LL) (b c:Int) (d:Bool) (e:Int) (f g h i j k l:LL):St:=⟨81,[(3,.ptr 3 0),(10,dL 4 a),(11,dI b),(12,dI c),(13,dB d)],[(3,.box [dI e,dL 5 f,dL 2 g,dL 4 h,dL 7 i,dL 4 j,dL 5 k,dL 3 l])]⟩
def Ym (n:Nat):VC:=⟨QK [(61,Ri n),(58,P3 n),(62,Xo n),(59,M5 n),(60,Rq n)],gtt,[cO 0 [3] [3],cO 1 [3,10,11,12] [3],cO 2 (3::rg1 10 4 []) [3],cO 3 [3,5,6,10,11,12] [3,6],cO 4 [3,5,6,10,11,12,37] [3,6],cK 5 [4],cO 6 [3,6,10,11,12,43] [3,6],cK 7 [4],cO 8 [3,7,8,10,11,12] [3,7,8],cO 9 [3,10,11,12,79] [3],cK 10 [4],cO 11 [3,10,11,12] [3],cK 12 [4]]⟩
theorem Q28 (n:Nat):VCOk Tryz.prog (Ym n):=gVC (Qe ⟨BL n,⟨F2 n,⟨Wl n,⟨Bs n,⟨EK n,trivial⟩⟩⟩⟩⟩)
theorem CZ (n:Nat) (i j l m:LL) (b:Int) (c d e f a g h:LL) (k:Exit→St→Option R):Qi (Ym n) n P6 ⟨81,[(0,.ag [dL 1 i,dL 1 j,dL 5 l,dL 6 m]),(1,.ag [dI b,dL 5 c,dL 2 d,dL 4 e,dL 7 f,dL 4 a,dL 5 g,dL 3 h])],[]⟩ k=GL n i j l m b c d e f a g h (fun o=>X7 (lB (Ym n) n GZ) n ⟨81,[(3,.ptr 3 0),(10,dL 4 a),(11,dI o),(12,dI (0:Int))],[(3,.box [dI b,dL 5 c,dL 2 d,dL 4 e,dL 7 f,dL 4 a,dL 5 g,dL 3 h])]⟩ (Q9 0 (Xf (Ym n) n Ti k))):=by kernel_rfl
theorem Bk (n:Nat) (a:LL) (b j c:Int) (d e f g h i:LL) (k:Exit→St→Option R):Qi (Ym n) n GZ (To a b j c d e f g a h i) k=Vw n a b j c d e f g h i (fun l=>k .ret ⟨81,[(4,dI l)],[]⟩) (fun m=>k .normal (To a b m c d e f g a h i)) (fun o=>k (.exit 0) (TF a b j o c d e f g a h i)):=by kernel_rfl
theorem RJ (n:Nat) (a:LL) (c d:Int) (e f g h i j:LL) (k:Exit→St→Option R):∀ (m:Nat) (b:Int),X7 (lB (Ym n) n GZ) m (To a c b d e f g h a i j) k=ZL n a c d e f g h i j (fun l=>k .ret ⟨81,[(4,dI l)],[]⟩) (fun b o=>k (.exit 0) (TF a c b o d e f g h a i j)) m b
 | 0,_=>rfl
 | m+1,b=>(lS (by kernel_rfl) m k).trans ((Bk n a c b d e f g h i j (WB (lB (Ym n) n GZ) m k)).trans (cg3 (fun p q r=>Vw n a c b d e f g h i j p q r ) rfl (funext fun s=>RJ n a c d e f g h i j k m s) rfl))
theorem B9 (n:Nat) (a:LL) (b c:Int) (d:Bool) (e:Int) (f g h i j l:LL) (k:Exit→St→Option R):(Q9 0 (Xf (Ym n) n Ti k)) (.exit 0) (TF a b c d e f g h i a j l)=LE n a b c d e f g h i j l (k .ret ⟨81,[(4,dI (0:Int))],[]⟩):=by kernel_rfl
theorem CY (n:Nat) (i j l m:LL) (a:Int) (b c d e f g h:LL) (k:Exit→St→Option R):Qi (Ym n) n P6 ⟨81,[(0,.ag [dL 1 i,dL 1 j,dL 5 l,dL 6 m]),(1,.ag [dI a,dL 5 b,dL 2 c,dL 4 d,dL 7 e,dL 4 f,dL 5 g,dL 3 h])],[]⟩ k=Pa n i j l m a b c d e f g h (fun q=>k .ret ⟨81,[(4,dI q)],[]⟩):=
 (CZ n i j l m a b c d e f g h k).trans (cg1 (fun o=>GL n i j l m a b c d e f g h o ) (funext fun p=>(RJ n f p a b c d e g h (Q9 0 (Xf (Ym n) n Ti k)) n (0:Int)).trans (cg2 (fun o r=>ZL n f p a b c d e g h o r n (0:Int)) rfl (funext fun s=>funext fun t=>(B9 n f p s t a b c d e g h k)))))
theorem Q0j (n:Nat) (a c d e:LL) (f:Int) (g h i j k l m:LL) (K:AV→Option R):vfn (Ym n) n Tryz.f32 [.ag [.d (D.sl 1 a),.d (D.sl 1 c),.d (D.sl 5 d),.d (D.sl 6 e)],.ag [.d (D.int .i64 f),.d (D.sl 5 g),.d (D.sl 2 h),.d (D.sl 4 i),.d (D.sl 7 j),.d (D.sl 4 k),.d (D.sl 5 l),.d (D.sl 3 m)]] [] (Wc [[0]] K)=UX n a c d e f g h i j k l m (fun o=>K (.d (D.int .i64 o))):=
 Eq.trans (b:=Qi (Ym n) n P6 ⟨81,[(0,.ag [dL 1 a,dL 1 c,dL 5 d,dL 6 e]),(1,.ag [dI f,dL 5 g,dL 2 h,dL 4 i,dL 7 j,dL 4 k,dL 5 l,dL 3 m])],[]⟩ (K3 gtt [.tmp 4] (Wc [[0]] K))) VP ((CY n a c d e f g h i j k l m (K3 gtt [.tmp 4] (Wc [[0]] K))).trans (by kernel_rfl))
def R1 (n:Nat):XH:=fun _ _ g avs _ k=>match avs with
 | [c0,c1]=>
  prG c0 fun l0=>(match l0 with
  | [a,b,c,d]=>prS g 1 a fun e=>prS g 1 b fun f=>prS g 5 c fun h=>prS g 6 d fun i=>
  prG c1 fun l1=>(match l1 with
  | [j,l,m,o,p,q,s,t]=>prI g .i64 j fun u=>prS g 5 l fun v=>prS g 2 m fun w=>prS g 4 o fun x=>prS g 7 p fun y=>prS g 4 q fun z=>prS g 5 s fun aa=>prS g 3 t fun ab=>
  gb g (UX n e f h i u v w x y z aa ab some) 0 fun r=>k ⟨.d (D.int .i64 r),[],[]⟩
  | _=>none)
  | _=>none)
 | _=>none
theorem Q1J (n:Nat):Qo Tryz.prog 32 (R1 n):=by
  intro R site g avs hl k r h
  unfold R1 at h
  split at h
  rotate_left
  · cases h
  obtain ⟨l0,h,q⟩:=Qq h
  split at h
  rotate_left
  · cases h
  obtain ⟨a,h,s⟩:=Q1 h
  obtain ⟨b,h,t⟩:=Q1 h
  obtain ⟨c,h,u⟩:=Q1 h
  obtain ⟨d,h,v⟩:=Q1 h
  obtain ⟨l1,h,e1⟩:=Qq h
  split at h
  rotate_left
  · cases h
  obtain ⟨e,h,w⟩:=Q2 h
  obtain ⟨f,h,x⟩:=Q1 h
  obtain ⟨i,h,y⟩:=Q1 h
  obtain ⟨j,h,z⟩:=Q1 h
  obtain ⟨l,h,aa⟩:=Q1 h
  obtain ⟨m,h,ab⟩:=Q1 h
  obtain ⟨o,h,ac⟩:=Q1 h
  obtain ⟨p,h,ad⟩:=Q1 h
  obtain ⟨res,h,hr⟩:=Qc h
  have hL:=h
  subst q e1
  refine ⟨_,hL,fun hg=>QI.conv (avs':=[.ag [.d (D.sl 1 a),.d (D.sl 1 b),.d (D.sl 5 c),.d (D.sl 6 d)],.ag [.d (D.int .i64 e),.d (D.sl 5 f),.d (D.sl 2 i),.d (D.sl 4 j),.d (D.sl 7 l),.d (D.sl 4 m),.d (D.sl 5 o),.d (D.sl 3 p)]]) (.cons (.ag (.cons (s hg) (.cons (t hg) (.cons (u hg) (.cons (v hg) (.nil)))))) (.cons (.ag (.cons (w hg) (.cons (x hg) (.cons (y hg) (.cons (z hg) (.cons (aa hg) (.cons (ab hg) (.cons (ac hg) (.cons (ad hg) (.nil)))))))))) (.nil))) (QE (K:=kI) (res:=res) (Q28 n) (fn:=Tryz.f32) (n:=n) (ss:=[[0]]) ?_ ?_)⟩
  · exact (Q0j n a b c d e f i j l m o p kI).trans (hr hg)
  · exact NW
noncomputable def Pe:Code:=Q8 Tryz.f33
noncomputable def GE:Code:=cA [1,0,1,2,2] (Q8 Tryz.f33)
noncomputable def Pw:Code:=cA [1,1] (Q8 Tryz.f33)
def Pv (a:LL) (b c d:Int) (e f g h i j k:LL):St:=⟨57,[(3,.ptr 3 0),(8,dL 5 a),(9,dI b),(10,dI c)],[(3,.box [dI d,dL 5 e,dL 2 f,dL 4 g,dL 7 h,dL 4 i,dL 5 j,dL 3 k])]⟩
def PL (a:LL) (b c:Int) (d:Bool) (e:Int) (f g h i j k l:LL):St:=⟨57,[(3,.ptr 3 0),(8,dL 5 a),(9,dI b),(10,dI c),(11,dB d)],[(3,.box [dI e,dL 5 f,dL 2 g,dL 4 h,dL 7 i,dL 4 j,dL 5 k,dL 3 l])]⟩
def Yn (n:Nat):VC:=⟨QK [(57,Rf n)],gtt,[cO 0 [3] [3],cO 1 [3,8,9,10] [3],cO 2 [3,8,9,10,11] [3],cO 3 [3,6,8,9,10] [3,6],cO 4 [3,8,9,10,55] [3],cK 5 [4],cO 6 [3,8,9,10] [3],cK 7 [4]]⟩
theorem Q2r (n:Nat):VCOk Tryz.prog (Yn n):=gVC (Qe ⟨CE n,trivial⟩)
theorem Bz (n:Nat) (i j l m:LL) (b:Int) (c d e f g a h:LL) (k:Exit→St→Option R):Qi (Yn n) n Pe ⟨57,[(0,.ag [dL 1 i,dL 1 j,dL 5 l,dL 6 m]),(1,.ag [dI b,dL 5 c,dL 2 d,dL 4 e,dL 7 f,dL 4 g,dL 5 a,dL 3 h])],[]⟩ k=GJ n i j l m b c d e f g a h (fun o=>X7 (lB (Yn n) n GE) n ⟨57,[(3,.ptr 3 0),(8,dL 5 a),(9,dI o),(10,dI (0:Int))],[(3,.box [dI b,dL 5 c,dL 2 d,dL 4 e,dL 7 f,dL 4 g,dL 5 a,dL 3 h])]⟩ (Q9 0 (Xf (Yn n) n Pw k))):=by kernel_rfl
theorem CJ (n:Nat) (a:LL) (b j c:Int) (d e f g h i:LL) (k:Exit→St→Option R):Qi (Yn n) n GE (Pv a b j c d e f g h a i) k=VG n a b j c d e f g h i (k .ret ⟨57,[(4,dI (4:Int))],[]⟩) (fun l=>k .normal (Pv a b l c d e f g h a i)) (fun m=>k (.exit 0) (PL a b j m c d e f g h a i)):=by kernel_rfl
theorem RP (n:Nat) (a:LL) (c d:Int) (e f g h i j:LL) (k:Exit→St→Option R):∀ (m:Nat) (b:Int),X7 (lB (Yn n) n GE) m (Pv a c b d e f g h i a j) k=Zc n a c d e f g h i j (k .ret ⟨57,[(4,dI (4:Int))],[]⟩) (fun b l=>k (.exit 0) (PL a c b l d e f g h i a j)) m b
 | 0,_=>rfl
 | m+1,b=>(lS (by kernel_rfl) m k).trans ((CJ n a c b d e f g h i j (WB (lB (Yn n) n GE) m k)).trans (cg3 (fun o p q=>VG n a c b d e f g h i j o p q ) rfl (funext fun r=>RP n a c d e f g h i j k m r) rfl))
theorem A4 (n:Nat) (a:LL) (b c:Int) (d:Bool) (e:Int) (f g h i j l:LL) (k:Exit→St→Option R):(Q9 0 (Xf (Yn n) n Pw k)) (.exit 0) (PL a b c d e f g h i j a l)=Lx n a b c d e f g h i j l (k .ret ⟨57,[(4,dI (0:Int))],[]⟩):=by kernel_rfl
theorem Cx (n:Nat) (i j l m:LL) (a:Int) (b c d e f g h:LL) (k:Exit→St→Option R):Qi (Yn n) n Pe ⟨57,[(0,.ag [dL 1 i,dL 1 j,dL 5 l,dL 6 m]),(1,.ag [dI a,dL 5 b,dL 2 c,dL 4 d,dL 7 e,dL 4 f,dL 5 g,dL 3 h])],[]⟩ k=TX n i j l m a b c d e f g h (fun q=>k .ret ⟨57,[(4,dI q)],[]⟩):=
 (Bz n i j l m a b c d e f g h k).trans (cg1 (fun o=>GJ n i j l m a b c d e f g h o ) (funext fun p=>(RP n g p a b c d e f h (Q9 0 (Xf (Yn n) n Pw k)) n (0:Int)).trans (cg2 (fun o r=>Zc n g p a b c d e f h o r n (0:Int)) rfl (funext fun s=>funext fun t=>(A4 n g p s t a b c d e f h k)))))
theorem Q0i (n:Nat) (a c d e:LL) (f:Int) (g h i j k l m:LL) (K:AV→Option R):vfn (Yn n) n Tryz.f33 [.ag [.d (D.sl 1 a),.d (D.sl 1 c),.d (D.sl 5 d),.d (D.sl 6 e)],.ag [.d (D.int .i64 f),.d (D.sl 5 g),.d (D.sl 2 h),.d (D.sl 4 i),.d (D.sl 7 j),.d (D.sl 4 k),.d (D.sl 5 l),.d (D.sl 3 m)]] [] (Wc [[0]] K)=V7 n a c d e f g h i j k l m (fun o=>K (.d (D.int .i64 o))):=
 Eq.trans (b:=Qi (Yn n) n Pe ⟨57,[(0,.ag [dL 1 a,dL 1 c,dL 5 d,dL 6 e]),(1,.ag [dI f,dL 5 g,dL 2 h,dL 4 i,dL 7 j,dL 4 k,dL 5 l,dL 3 m])],[]⟩ (K3 gtt [.tmp 4] (Wc [[0]] K))) VP ((Cx n a c d e f g h i j k l m (K3 gtt [.tmp 4] (Wc [[0]] K))).trans (by kernel_rfl))
def Sx (n:Nat):XH:=fun _ _ g avs _ k=>match avs with
 | [c0,c1]=>
  prG c0 fun l0=>(match l0 with
  | [a,b,c,d]=>prS g 1 a fun e=>prS g 1 b fun f=>prS g 5 c fun h=>prS g 6 d fun i=>
  prG c1 fun l1=>(match l1 with
  | [j,l,m,o,p,q,s,t]=>prI g .i64 j fun u=>prS g 5 l fun v=>prS g 2 m fun w=>prS g 4 o fun x=>prS g 7 p fun y=>prS g 4 q fun z=>prS g 5 s fun aa=>prS g 3 t fun ab=>
  gb g (V7 n e f h i u v w x y z aa ab some) 0 fun r=>k ⟨.d (D.int .i64 r),[],[]⟩
  | _=>none)
  | _=>none)
 | _=>none
theorem Q2n (n:Nat):Qo Tryz.prog 33 (Sx n):=by
  intro R site g avs hl k r h
  unfold Sx at h
  split at h
  rotate_left
  · cases h
  obtain ⟨l0,h,q⟩:=Qq h
  split at h
  rotate_left
  · cases h
  obtain ⟨a,h,s⟩:=Q1 h
  obtain ⟨b,h,t⟩:=Q1 h
  obtain ⟨c,h,u⟩:=Q1 h
  obtain ⟨d,h,v⟩:=Q1 h
  obtain ⟨l1,h,e1⟩:=Qq h
  split at h
  rotate_left
  · cases h
  obtain ⟨e,h,w⟩:=Q2 h
  obtain ⟨f,h,x⟩:=Q1 h
  obtain ⟨i,h,y⟩:=Q1 h
  obtain ⟨j,h,z⟩:=Q1 h
  obtain ⟨l,h,aa⟩:=Q1 h
  obtain ⟨m,h,ab⟩:=Q1 h
  obtain ⟨o,h,ac⟩:=Q1 h
  obtain ⟨p,h,ad⟩:=Q1 h
  obtain ⟨res,h,hr⟩:=Qc h
  have hL:=h
  subst q e1
  refine ⟨_,hL,fun hg=>QI.conv (avs':=[.ag [.d (D.sl 1 a),.d (D.sl 1 b),.d (D.sl 5 c),.d (D.sl 6 d)],.ag [.d (D.int .i64 e),.d (D.sl 5 f),.d (D.sl 2 i),.d (D.sl 4 j),.d (D.sl 7 l),.d (D.sl 4 m),.d (D.sl 5 o),.d (D.sl 3 p)]]) (.cons (.ag (.cons (s hg) (.cons (t hg) (.cons (u hg) (.cons (v hg) (.nil)))))) (.cons (.ag (.cons (w hg) (.cons (x hg) (.cons (y hg) (.cons (z hg) (.cons (aa hg) (.cons (ab hg) (.cons (ac hg) (.cons (ad hg) (.nil)))))))))) (.nil))) (QE (K:=kI) (res:=res) (Q2r n) (fn:=Tryz.f33) (n:=n) (ss:=[[0]]) ?_ ?_)⟩
  · exact (Q0i n a b c d e f i j l m o p kI).trans (hr hg)
  · exact NW

noncomputable def KR:Code:=Q8 Tryz.f34
noncomputable def VX:Code:=cA [1,0,1,2,2] (Q8 Tryz.f34)
noncomputable def KX:Code:=cA [1,1] (Q8 Tryz.f34)
def KZ (a:LL) (b c:Int) (d e f g:LL):St:=⟨56,[(2,.ptr 2 0),(8,dL 3 a),(9,dI b),(10,dI c)],[(2,.box [dL 1 d,dL 1 e,dL 5 f,dL 6 g])]⟩
def KY (a:LL) (b c:Int) (d:Bool) (e f g h:LL):St:=⟨56,[(2,.ptr 2 0),(8,dL 3 a),(9,dI b),(10,dI c),(11,dB d)],[(2,.box [dL 1 e,dL 1 f,dL 5 g,dL 6 h])]⟩
def XT (n:Nat):VC:=⟨QK [],gtt,[cO 0 [2,3] [2,3],cO 1 [2,8,9,10] [2],cO 2 [2,8,9,10,11] [2],cO 3 [2,6,8,9,10] [2,6],cO 4 [2,8,9,10,54] [2],cK 5 [4],cO 6 [2,8,9,10] [2],cK 7 [4]]⟩
theorem Aw (n:Nat):VCOk Tryz.prog (XT n):=gVC (Qe trivial)
theorem Ej (n:Nat) (a b c d:LL) (f:Int) (g h i j l m e:LL) (k:Exit→St→Option R):Qi (XT n) n KR ⟨56,[(0,.ag [dL 1 a,dL 1 b,dL 5 c,dL 6 d]),(1,.ag [dI f,dL 5 g,dL 2 h,dL 4 i,dL 7 j,dL 4 l,dL 5 m,dL 3 e])],[]⟩ k=J0 n a b c d f g h i j l m e (fun o=>X7 (lB (XT n) n VX) n ⟨56,[(2,.ptr 2 0),(8,dL 3 e),(9,dI o),(10,dI (0:Int))],[(2,.box [dL 1 a,dL 1 b,dL 5 c,dL 6 d])]⟩ (Q9 0 (Xf (XT n) n KX k))):=by kernel_rfl
theorem EL (n:Nat) (a:LL) (b g:Int) (c d e f:LL) (k:Exit→St→Option R):Qi (XT n) n VX (KZ a b g c d e f) k=Ut n a b g c d e f (k .ret ⟨56,[(4,dI (4:Int))],[]⟩) (fun h=>k .normal (KZ a b h c d e f)) (fun i=>k (.exit 0) (KY a b g i c d e f)):=by kernel_rfl
theorem TQ (n:Nat) (b:LL) (c:Int) (d e f g:LL) (k:Exit→St→Option R):∀ (m:Nat) (a:Int),X7 (lB (XT n) n VX) m (KZ b c a d e f g) k=YO n b c d e f g (k .ret ⟨56,[(4,dI (4:Int))],[]⟩) (fun a h=>k (.exit 0) (KY b c a h d e f g)) m a
 | 0,_=>rfl
 | m+1,a=>(lS (by kernel_rfl) m k).trans ((EL n b c a d e f g (WB (lB (XT n) n VX) m k)).trans (cg3 (fun i j l=>Ut n b c a d e f g i j l ) rfl (funext fun o=>TQ n b c d e f g k m o) rfl))
theorem Eg (n:Nat) (a:LL) (b c:Int) (d:Bool) (e f g h:LL) (k:Exit→St→Option R):(Q9 0 (Xf (XT n) n KX k)) (.exit 0) (KY a b c d e f g h)=Ny n a b c d e f g h (k .ret ⟨56,[(4,dI (0:Int))],[]⟩):=by kernel_rfl
theorem EV (n:Nat) (a b c d:LL) (f:Int) (g h i j l m e:LL) (k:Exit→St→Option R):Qi (XT n) n KR ⟨56,[(0,.ag [dL 1 a,dL 1 b,dL 5 c,dL 6 d]),(1,.ag [dI f,dL 5 g,dL 2 h,dL 4 i,dL 7 j,dL 4 l,dL 5 m,dL 3 e])],[]⟩ k=H4 n a b c d f g h i j l m e (fun q=>k .ret ⟨56,[(4,dI q)],[]⟩):=
 (Ej n a b c d f g h i j l m e k).trans (cg1 (fun o=>J0 n a b c d f g h i j l m e o ) (funext fun p=>(TQ n e p a b c d (Q9 0 (Xf (XT n) n KX k)) n (0:Int)).trans (cg2 (fun o r=>YO n e p a b c d o r n (0:Int)) rfl (funext fun s=>funext fun t=>(Eg n e p s t a b c d k)))))
theorem Bw (n:Nat) (a c d e:LL) (f:Int) (g h i j k l m:LL) (K:AV→Option R):vfn (XT n) n Tryz.f34 [.ag [.d (D.sl 1 a),.d (D.sl 1 c),.d (D.sl 5 d),.d (D.sl 6 e)],.ag [.d (D.int .i64 f),.d (D.sl 5 g),.d (D.sl 2 h),.d (D.sl 4 i),.d (D.sl 7 j),.d (D.sl 4 k),.d (D.sl 5 l),.d (D.sl 3 m)]] [] (Wc [[0]] K)=WH n a c d e f g h i j k l m (fun o=>K (.d (D.int .i64 o))):=
 Eq.trans (b:=Qi (XT n) n KR ⟨56,[(0,.ag [dL 1 a,dL 1 c,dL 5 d,dL 6 e]),(1,.ag [dI f,dL 5 g,dL 2 h,dL 4 i,dL 7 j,dL 4 k,dL 5 l,dL 3 m])],[]⟩ (K3 gtt [.tmp 4] (Wc [[0]] K))) VP ((EV n a c d e f g h i j k l m (K3 gtt [.tmp 4] (Wc [[0]] K))).trans (by kernel_rfl))
def HG (n:Nat):XH:=fun _ _ g avs _ k=>match avs with
 | [c0,c1]=>
  prG c0 fun l0=>(match l0 with
  | [a,b,c,d]=>prS g 1 a fun e=>prS g 1 b fun f=>prS g 5 c fun h=>prS g 6 d fun i=>
  prG c1 fun l1=>(match l1 with
  | [j,l,m,o,p,q,s,t]=>prI g .i64 j fun u=>prS g 5 l fun v=>prS g 2 m fun w=>prS g 4 o fun x=>prS g 7 p fun y=>prS g 4 q fun z=>prS g 5 s fun aa=>prS g 3 t fun ab=>
  gb g (WH n e f h i u v w x y z aa ab some) 0 fun r=>k ⟨.d (D.int .i64 r),[],[]⟩
  | _=>none)
  | _=>none)
 | _=>none
theorem An (n:Nat):Qo Tryz.prog 34 (HG n):=by
  intro R site g avs hl k r h
  unfold HG at h
  split at h
  rotate_left
  · cases h
  obtain ⟨l0,h,q⟩:=Qq h
  split at h
  rotate_left
  · cases h
  obtain ⟨a,h,s⟩:=Q1 h
  obtain ⟨b,h,t⟩:=Q1 h
  obtain ⟨c,h,u⟩:=Q1 h
  obtain ⟨d,h,v⟩:=Q1 h
  obtain ⟨l1,h,e1⟩:=Qq h
  split at h
  rotate_left
  · cases h
  obtain ⟨e,h,w⟩:=Q2 h
  obtain ⟨f,h,x⟩:=Q1 h
  obtain ⟨i,h,y⟩:=Q1 h
  obtain ⟨j,h,z⟩:=Q1 h
  obtain ⟨l,h,aa⟩:=Q1 h
  obtain ⟨m,h,ab⟩:=Q1 h
  obtain ⟨o,h,ac⟩:=Q1 h
  obtain ⟨p,h,ad⟩:=Q1 h
  obtain ⟨res,h,hr⟩:=Qc h
  have hL:=h
  subst q e1
  refine ⟨_,hL,fun hg=>QI.conv (avs':=[.ag [.d (D.sl 1 a),.d (D.sl 1 b),.d (D.sl 5 c),.d (D.sl 6 d)],.ag [.d (D.int .i64 e),.d (D.sl 5 f),.d (D.sl 2 i),.d (D.sl 4 j),.d (D.sl 7 l),.d (D.sl 4 m),.d (D.sl 5 o),.d (D.sl 3 p)]]) (.cons (.ag (.cons (s hg) (.cons (t hg) (.cons (u hg) (.cons (v hg) (.nil)))))) (.cons (.ag (.cons (w hg) (.cons (x hg) (.cons (y hg) (.cons (z hg) (.cons (aa hg) (.cons (ab hg) (.cons (ac hg) (.cons (ad hg) (.nil)))))))))) (.nil))) (QE (K:=kI) (res:=res) (Aw n) (fn:=Tryz.f34) (n:=n) (ss:=[[0]]) ?_ ?_)⟩
  · exact (Bw n a b c d e f i j l m o p kI).trans (hr hg)
  · exact NW

end Go.Vx
namespace Go.Vx
open Go.Proofs Go.RowKit
theorem QcN {S:Nat→Prop} {w:World} {v:Value} {x:D} (h:Rd S w v x):v.oneCell'=true:=by cases h <;> rfl
theorem RdLs.one {S:Nat→Prop} {w:World} {vs:List Value} {xs:List D} (h:RdLs S w vs xs):∀ x∈vs,x.oneCell'=true:=by
  induction h with
  | nil=>simp
  | cons h _ ih=>
    intro x hx
    rcases List.mem_cons.1 hx with rfl | hx
    · exact QcN h
    · exact ih x hx
theorem RdLs.len {S:Nat→Prop} {w:World} {vs:List Value} {xs:List D} (h:RdLs S w vs xs):vs.length=xs.length:=by
  induction h with
  | nil=>rfl
  | cons _ _ ih=>simp [ih]
theorem RdLs.keep {S:Nat→Prop} {w w':World} {m:Nat} {vs:List Value} {xs:List D} (h:RdLs S w vs xs) (hS:∀ b,S b→b<m) (hw:∀ b,b<m→w'.heap[b]? = w.heap[b]?):RdLs S w' vs xs:=by
  induction h with
  | nil=>exact .nil
  | cons h _ ih=>exact .cons (Rd.keep h hS hw) ih
def RW (a b c d:LL):List D:=[D.sl 1 a,D.sl 1 b,D.sl 5 c,D.sl 6 d]
def Rn (a:Int) (b c d e f g h:LL):List D:=[D.int .i64 a,D.sl 5 b,D.sl 2 c,D.sl 4 d,D.sl 7 e,D.sl 4 f,D.sl 5 g,D.sl 3 h]
theorem Q4Q {n:Nat} {a c d f:LL} {g:Int} {i j k l m o p:LL} (h:V9 n a c d f g i j k l m o p some=some 0) {S:Nat→Prop} {w:World} (hS:∀ b,S b→b<w.heap.size) {vs us:List Value} (q:RdLs S w vs (RW a c d f)) (s:RdLs S w us (Rn g i j k l m o p)) :
    Calls Tryz.prog 27 #[.agg vs.toArray,.agg us.toArray] w fun e w'=>e = .returned (.int .i64 0)∧Below w.heap.size w w':=by
  have he:SN n Dl 0 true [.ag ((RW a c d f).map .d),.ag ((Rn g i j k l m o p).map .d)] (fun _=>none) some=some ⟨.d (.int .i64 0),[],[]⟩:=by
    show gb true (V9 n a c d f g i j k l m o p some) 0 (fun r=>(some ⟨.d (D.int .i64 r),[],[]⟩:Option Dl))=_
    rw [h]
    rfl
  exact P0 (Zb (Q1y n) he) hS (Nf (RdLs.agg q) (RdLs.agg s))
theorem Q3s {n:Nat} {a c d f:LL} {g:Int} {i j k l m o p:LL} (h:Um n a c d f g i j k l m o p some=some 0) {S:Nat→Prop} {w:World} (hS:∀ b,S b→b<w.heap.size) {vs us:List Value} (q:RdLs S w vs (RW a c d f)) (s:RdLs S w us (Rn g i j k l m o p)) :
    Calls Tryz.prog 28 #[.agg vs.toArray,.agg us.toArray] w fun e w'=>e = .returned (.int .i64 0)∧Below w.heap.size w w':=by
  have he:TS n Dl 0 true [.ag ((RW a c d f).map .d),.ag ((Rn g i j k l m o p).map .d)] (fun _=>none) some=some ⟨.d (.int .i64 0),[],[]⟩:=by
    show gb true (Um n a c d f g i j k l m o p some) 0 (fun r=>(some ⟨.d (D.int .i64 r),[],[]⟩:Option Dl))=_
    rw [h]
    rfl
  exact P0 (Zb (Q0z n) he) hS (Nf (RdLs.agg q) (RdLs.agg s))
theorem Q38 {n:Nat} {a c d f:LL} {g:Int} {i j k l m o p:LL} (h:Uo n a c d f g i j k l m o p some=some 0) {S:Nat→Prop} {w:World} (hS:∀ b,S b→b<w.heap.size) {vs us:List Value} (q:RdLs S w vs (RW a c d f)) (s:RdLs S w us (Rn g i j k l m o p)) :
    Calls Tryz.prog 29 #[.agg vs.toArray,.agg us.toArray] w fun e w'=>e = .returned (.int .i64 0)∧Below w.heap.size w w':=by
  have he:Tg n Dl 0 true [.ag ((RW a c d f).map .d),.ag ((Rn g i j k l m o p).map .d)] (fun _=>none) some=some ⟨.d (.int .i64 0),[],[]⟩:=by
    show gb true (Uo n a c d f g i j k l m o p some) 0 (fun r=>(some ⟨.d (D.int .i64 r),[],[]⟩:Option Dl))=_
    rw [h]
    rfl
  exact P0 (Zb (Q0S n) he) hS (Nf (RdLs.agg q) (RdLs.agg s))
theorem Q4G {n:Nat} {a c d f:LL} {g:Int} {i j k l m o p:LL} (h:UV n a c d f g i j k l m o p some=some 0) {S:Nat→Prop} {w:World} (hS:∀ b,S b→b<w.heap.size) {vs us:List Value} (q:RdLs S w vs (RW a c d f)) (s:RdLs S w us (Rn g i j k l m o p)) :
    Calls Tryz.prog 30 #[.agg vs.toArray,.agg us.toArray] w fun e w'=>e = .returned (.int .i64 0)∧Below w.heap.size w w':=by
  have he:SI n Dl 0 true [.ag ((RW a c d f).map .d),.ag ((Rn g i j k l m o p).map .d)] (fun _=>none) some=some ⟨.d (.int .i64 0),[],[]⟩:=by
    show gb true (UV n a c d f g i j k l m o p some) 0 (fun r=>(some ⟨.d (D.int .i64 r),[],[]⟩:Option Dl))=_
    rw [h]
    rfl
  exact P0 (Zb (Q1h n) he) hS (Nf (RdLs.agg q) (RdLs.agg s))
theorem Q1K {n:Nat} {a c d f:LL} {g:Int} {i j k l m o p:LL} (h:WL n a c d f g i j k l m o p some=some 0) {S:Nat→Prop} {w:World} (hS:∀ b,S b→b<w.heap.size) {vs us:List Value} (q:RdLs S w vs (RW a c d f)) (s:RdLs S w us (Rn g i j k l m o p)) :
    Calls Tryz.prog 31 #[.agg vs.toArray,.agg us.toArray] w fun e w'=>e = .returned (.int .i64 0)∧Below w.heap.size w w':=by
  have he:HE n Dl 0 true [.ag ((RW a c d f).map .d),.ag ((Rn g i j k l m o p).map .d)] (fun _=>none) some=some ⟨.d (.int .i64 0),[],[]⟩:=by
    show gb true (WL n a c d f g i j k l m o p some) 0 (fun r=>(some ⟨.d (D.int .i64 r),[],[]⟩:Option Dl))=_
    rw [h]
    rfl
  exact P0 (Zb (Aj n) he) hS (Nf (RdLs.agg q) (RdLs.agg s))
theorem Q4U {n:Nat} {a c d f:LL} {g:Int} {i j k l m o p:LL} (h:UX n a c d f g i j k l m o p some=some 0) {S:Nat→Prop} {w:World} (hS:∀ b,S b→b<w.heap.size) {vs us:List Value} (q:RdLs S w vs (RW a c d f)) (s:RdLs S w us (Rn g i j k l m o p)) :
    Calls Tryz.prog 32 #[.agg vs.toArray,.agg us.toArray] w fun e w'=>e = .returned (.int .i64 0)∧Below w.heap.size w w':=by
  have he:R1 n Dl 0 true [.ag ((RW a c d f).map .d),.ag ((Rn g i j k l m o p).map .d)] (fun _=>none) some=some ⟨.d (.int .i64 0),[],[]⟩:=by
    show gb true (UX n a c d f g i j k l m o p some) 0 (fun r=>(some ⟨.d (D.int .i64 r),[],[]⟩:Option Dl))=_
    rw [h]
    rfl
  exact P0 (Zb (Q1J n) he) hS (Nf (RdLs.agg q) (RdLs.agg s))
theorem Q4g {n:Nat} {a c d f:LL} {g:Int} {i j k l m o p:LL} (h:V7 n a c d f g i j k l m o p some=some 0) {S:Nat→Prop} {w:World} (hS:∀ b,S b→b<w.heap.size) {vs us:List Value} (q:RdLs S w vs (RW a c d f)) (s:RdLs S w us (Rn g i j k l m o p)) :
    Calls Tryz.prog 33 #[.agg vs.toArray,.agg us.toArray] w fun e w'=>e = .returned (.int .i64 0)∧Below w.heap.size w w':=by
  have he:Sx n Dl 0 true [.ag ((RW a c d f).map .d),.ag ((Rn g i j k l m o p).map .d)] (fun _=>none) some=some ⟨.d (.int .i64 0),[],[]⟩:=by
    show gb true (V7 n a c d f g i j k l m o p some) 0 (fun r=>(some ⟨.d (D.int .i64 r),[],[]⟩:Option Dl))=_
    rw [h]
    rfl
  exact P0 (Zb (Q2n n) he) hS (Nf (RdLs.agg q) (RdLs.agg s))
theorem Q1D {n:Nat} {a c d f:LL} {g:Int} {i j k l m o p:LL} (h:WH n a c d f g i j k l m o p some=some 0) {S:Nat→Prop} {w:World} (hS:∀ b,S b→b<w.heap.size) {vs us:List Value} (q:RdLs S w vs (RW a c d f)) (s:RdLs S w us (Rn g i j k l m o p)) :
    Calls Tryz.prog 34 #[.agg vs.toArray,.agg us.toArray] w fun e w'=>e = .returned (.int .i64 0)∧Below w.heap.size w w':=by
  have he:HG n Dl 0 true [.ag ((RW a c d f).map .d),.ag ((Rn g i j k l m o p).map .d)] (fun _=>none) some=some ⟨.d (.int .i64 0),[],[]⟩:=by
    show gb true (WH n a c d f g i j k l m o p some) 0 (fun r=>(some ⟨.d (D.int .i64 r),[],[]⟩:Option Dl))=_
    rw [h]
    rfl
  exact P0 (Zb (An n) he) hS (Nf (RdLs.agg q) (RdLs.agg s))
theorem Q2a:∀ (n k:Nat),R9 (fun _=>0) n k=0
  | 0,_=>rfl
  | n+1,k=>by simp [R9,Q2a n (k+1)]
theorem QaD (n:Nat) (a c d f:LL) (g:Int) (i j l m o p q:LL) (res:Int) {hl:Nat→Option Ob} (h:FM n a c d f g i j l m o p q some=some res):QI Tryz.prog 15 [.ag [.d (D.sl 1 a),.d (D.sl 1 c),.d (D.sl 5 d),.d (D.sl 6 f)],.ag [.d (D.int .i64 g),.d (D.sl 5 i),.d (D.sl 2 j),.d (D.sl 4 l),.d (D.sl 7 m),.d (D.sl 4 o),.d (D.sl 5 p),.d (D.sl 3 q)]] hl ⟨.d (D.int .i64 res),[],[]⟩:=by
  obtain ⟨hok,h⟩:=Xa h
  injection h with h
  subst h
  simp only [Qbf,Bool.and_eq_true] at hok
  obtain ⟨⟨⟨⟨⟨⟨⟨k0,k1⟩,k2⟩,k3⟩,k4⟩,k5⟩,k6⟩,k7⟩:=hok
  refine Q0n (fn:=Tryz.f15) (by kernel_rfl) (by kernel_rfl) (by kernel_rfl) rfl rfl fun S w args hS hA=>?_
  obtain ⟨v,u,rfl,hv,hu⟩:=QeP hA
  obtain ⟨vs,rfl,hr⟩:=QaL (xs:=RW a c d f) hv
  obtain ⟨us,rfl,hq⟩:=QaL (xs:=Rn g i j l m o p q) hu
  have am:=hr.len
  have an:=hq.len
  match vs,us,am,an with
  | [v0,r,s,t],[y,z,u2,u3,u4,u5,u6,u7],_,_=>
    refine (Tryz.plancheck_calls w v0 r s t y z u2 u3 u4 u5 u6 u7 (fun _=>0) (fun k hk w' hs hw=>?_) (fun x hx=>?_)).mono fun e w' ⟨he,hB⟩=>?_
    · have hS':∀ b,S b→b<w'.heap.size:=fun b hb=>Nat.lt_of_lt_of_le (hS b hb) hs
      have hr':=hr.keep hS hw
      have hq':=hq.keep hS hw
      obtain rfl | rfl | rfl | rfl | rfl | rfl | rfl | rfl:k=0∨k=1∨k=2∨k=3∨k=4∨k=5∨k=6∨k=7:=by omega
      · exact Q4Q (RI k0) hS' hr' hq'
      · exact Q3s (RI k1) hS' hr' hq'
      · exact Q38 (RI k2) hS' hr' hq'
      · exact Q4G (RI k3) hS' hr' hq'
      · exact Q1K (RI k4) hS' hr' hq'
      · exact Q4U (RI k5) hS' hr' hq'
      · exact Q4g (RI k6) hS' hr' hq'
      · exact Q1D (RI k7) hS' hr' hq'
    · rcases List.mem_append.1 (show x∈[v0,r,s,t]++[y,z,u2,u3,u4,u5,u6,u7] from hx) with h | h
      · exact hr.one x h
      · exact hq.one x h
    · rw [Q2a] at he
      exact ⟨_,S,he,fun b h=>h,fun b h=>.inl h,fun b h=>Nat.lt_of_lt_of_le (hS b h) hB.size,.d _ _ (.int _ _),hB⟩
end Go.Vx
namespace Go.Vx
open Go.Proofs
def BZ (n:Nat):XH:=fun _ _ g avs _ k=>match avs with
 | [c0,c1]=>
  prG c0 fun l0=>(match l0 with
  | [a,b,c,d]=>prS g 1 a fun e=>prS g 1 b fun f=>prS g 5 c fun h=>prS g 6 d fun i=>
  prG c1 fun l1=>(match l1 with
  | [j,l,m,o,p,q,s,t]=>prI g .i64 j fun u=>prS g 5 l fun v=>prS g 2 m fun w=>prS g 4 o fun x=>prS g 7 p fun y=>prS g 4 q fun z=>prS g 5 s fun aa=>prS g 3 t fun ab=>
  gb g (FM n e f h i u v w x y z aa ab some) 0 fun r=>k ⟨.d (D.int .i64 r),[],[]⟩
  | _=>none)
  | _=>none)
 | _=>none
theorem Q8x (n:Nat):Qo Tryz.prog 15 (BZ n):=by
  intro R site g avs hl k r h
  unfold BZ at h
  split at h
  rotate_left
  · cases h
  replace h:=Qq h
  obtain ⟨l0,h,q⟩:=h
  subst q
  split at h
  rotate_left
  · cases h
  replace h:=Q1 h
  obtain ⟨a,h,s⟩:=h
  replace h:=Q1 h
  obtain ⟨b,h,t⟩:=h
  replace h:=Q1 h
  obtain ⟨c,h,u⟩:=h
  replace h:=Q1 h
  obtain ⟨d,h,v⟩:=h
  replace h:=Qq h
  obtain ⟨l1,h,e1⟩:=h
  subst e1
  split at h
  rotate_left
  · cases h
  replace h:=Q2 h
  obtain ⟨e,h,w⟩:=h
  replace h:=Q1 h
  obtain ⟨f,h,x⟩:=h
  replace h:=Q1 h
  obtain ⟨i,h,y⟩:=h
  replace h:=Q1 h
  obtain ⟨j,h,z⟩:=h
  replace h:=Q1 h
  obtain ⟨l,h,aa⟩:=h
  replace h:=Q1 h
  obtain ⟨m,h,ab⟩:=h
  replace h:=Q1 h
  obtain ⟨o,h,ac⟩:=h
  replace h:=Q1 h
  obtain ⟨p,h,ad⟩:=h
  replace h:=Qc h
  obtain ⟨res,h,hr⟩:=h
  exact ⟨_,h,fun hg=>QI.conv (avs':=[.ag [.d (D.sl 1 a),.d (D.sl 1 b),.d (D.sl 5 c),.d (D.sl 6 d)],.ag [.d (D.int .i64 e),.d (D.sl 5 f),.d (D.sl 2 i),.d (D.sl 4 j),.d (D.sl 7 l),.d (D.sl 4 m),.d (D.sl 5 o),.d (D.sl 3 p)]]) (.cons (.ag (.cons (s hg) (.cons (t hg) (.cons (u hg) (.cons (v hg) .nil))))) (.cons (.ag (.cons (w hg) (.cons (x hg) (.cons (y hg) (.cons (z hg) (.cons (aa hg) (.cons (ab hg) (.cons (ac hg) (.cons (ad hg) .nil))))))))) .nil)) (QaD n a b c d e f i j l m o p res (hr hg))⟩
end Go.Vx
