/- Part of a proof. No conditions of their own. -/
import Derived.Maps.OwnRows
import Derived.Maps.GroupsBeside
import Derived.WalkKit
import Derived.Test.YtnfomkijfeokoaaGreatProg
import Derived.Test.YtnfomkijfeokoaaGreatTC
import Derived.Test.YtnfomkijfeokoaaGreatTB
import Derived.Test.YtnfomkijfeokoaaGreatTF
import Derived.Test.YtnfomkijfeokoaaGreatTD
import Derived.Maps.Own
import Derived.Maps.Views
import Derived.StringKeys
import Derived.Deep.AppendLies
import Derived.Laws.Rows
import Derived.OneCell
import Derived.Lib.LaidTab
import Derived.Orders
import Derived.LoopTactic
import Derived.Lib.Builder
import Derived.Carry
import Derived.Deep.RegionHeld3
import Derived.Deep.RegionLaw
import Derived.StillTailTactics
import Derived.OrdersHeld
import Derived.Test.YtnfomkijfeokoaaGreatTE
import Derived.Laws.CopyOwn
import Derived.Deep.OwnRows
set_option linter.unusedVariables false
set_option linter.unusedSimpArgs false
set_option linter.unusedSectionVars false
noncomputable section
abbrev Qru:=@Go.Lib.cell_of_heap
abbrev Qrv:=@List.getElem?_cons_zero
abbrev Qrw:=@List.getElem?_eq_some_iff
abbrev Qrx:=@Array.getElem?_eq_some_iff
abbrev Qry:=@List.mem_of_getElem?
abbrev Qrz:=@Nat.le_of_ble_eq_true
abbrev QrA:=@Bool.and_eq_true
abbrev QrB:=@Nat.lt_of_lt_of_le
abbrev QrC:=@Option.map_eq_some_iff
abbrev QrD:=@List.not_mem_nil
abbrev QrE:=@Array.getElem?_toList
abbrev QrF:=@List.mem_cons
abbrev QrG:=@List.mem_replicate
abbrev QrH:=@Go.Proofs.Tryz.underlying3
abbrev QrI:=@List.getElem?_eq_getElem
abbrev QrJ:=@Go.Lib.alloc_old
abbrev QrK:=@if_neg
abbrev QrL:=@Nat.le_refl
abbrev QrM:=@Go.World.grownBy_alloc
abbrev QrN:=@List.take_of_length_le
abbrev QrO:=@Nat.le_trans
abbrev QrP:=@Nat.zero_add
abbrev QrQ:=@List.getElem?_take
abbrev QrR:=@List.getElem?_map
abbrev QrS:=@List.getElem?_set
namespace Go.Vx
open Go.Proofs Go.Maps Go.RowKit
structure OpAt (ops:Array Oper) (i:Nat) (dst:oP Nat) (op:Op):Prop where
 ex:∃ o,ops[i]? = some o/\o.dst=dst/\o.op=op/\o.guard=none
theorem Hw {P:Program} {ac:Array Oper} {i:Nat} {dst:oP Nat} {op:Op} (h:OpAt ac i dst op) {Q:Exit->Act->World->Prop} {K:Act->World->Prop} {a:Act} {w:World} {v:Value} {w':World}
  (hr:∀ o:Oper,o.op=op->(execOp a.eval o).run P w = .ok (.value v) w') (hK:K (a.put dst v) w'):wpOp P ac Q i K a w:=by
 obtain ⟨o,h1,h2,h3,h4⟩:=h.ex;unfold wpOp;simp only [h1,Region.wanted,h4,if_true];left;unfold Oper.wp;rw [hr o h3];subst h2;exact hK
theorem Q66 {P:Program} {a:Act} {w:World} {x:Operand} (o:Oper) (h:o.op = .move x):(execOp a.eval o).run P w = .ok (.value (a.eval x)) w:=by
 unfold execOp;rw [h];simp
theorem Q6v (a:Act) (w:World) (b:Nat) (hx:a.eval (.tmp 9) = .pointer (some ⟨b,0,none⟩)) (o:Oper) (h:o.op = .fieldAddr 59 (.tmp 9) 0):(execOp a.eval o).run Tryz.prog w = .ok (.value (.pointer (some ⟨b,0,none⟩))) w:=by
 have hf:(Instr.fieldAt 59 (.pointer (some ⟨b,0,none⟩)) 0).run Tryz.prog w = .ok (.pointer (some ⟨b,0,none⟩)) w:=by kernel_rfl
 unfold execOp;rw [h];simp [hx,hf]
theorem Qax (a:Act) (w:World) (b t:Nat) (v:Value) (hx:a.eval (.tmp t) = .pointer (some ⟨b,0,none⟩)) (hc:w.cell? ⟨b,0,none⟩=some v) (o:Oper) (h:o.op = .load 3 (.tmp t)):(execOp a.eval o).run Tryz.prog w = .ok (.value v) w:=by
 refine JV h hx ?_;simp [loadVar,Tryz.isAgg3,hc]
theorem Q3R (a:Act) (w:World) (m x:Nat) (b:Nat) (ac v:Value) (hm:a.eval (.tmp m) = .map (some b)) (hx:a.eval (.tmp x)=ac) (hl:(Instr.lookup 189 (.map (some b)) ac false).run Tryz.prog w = .ok v w) (o:Oper) (h:o.op = .lookup 189 (.tmp m) (.tmp x) false) :
  (execOp a.eval o).run Tryz.prog w = .ok (.value v) w:=by
 unfold execOp;rw [h];simp [hm,hx,hl]
theorem QaY (a:Act) (w:World) (t:Nat) (v:Value) (h1:v.cells = #[v]) (hx:a.eval (.tmp t)=v) (o:Oper) (h:o.op = .buildSlice 22 1 #[(0,.tmp t)]) :
  (execOp a.eval o).run Tryz.prog w = .ok (.value (.slice (some ⟨w.heap.size,0,none⟩) 1 1)) (w.alloc (.cells #[v] 3)):=by
 unfold execOp;rw [h];simp [hx,Instr.buildSlice,run_underlying Tryz.underlying22,Tryz.sizeOf3,Tryz.zeroValue3,Instr.fill,newRow,h1];congr 2;apply Array.ext
 ·simp
 ·intro i h1 h2;have hi:i=0:=by simp at h2;omega
  subst hi;simp
theorem Q9r (a:Act) (w:World) (s x:Nat) (v y v':Value) (w':World) (hs:a.eval (.tmp s)=v) (hx:a.eval (.tmp x)=y) (hr:∀ ty,(Builtin.append_ #[22,22] ty #[v,y]).run Tryz.prog w = .ok v' w') (o:Oper) (h:o.op = .call { callee:=.builtin .append,args:=#[.tmp s,.tmp x],argTypes:=#[22,22] }) :
  (execOp a.eval o).run Tryz.prog w = .ok (.value v') w':=by
 unfold execOp;simp only [h,resolve,invoke,builtin,Sem.run_bind,Sem.run_pure,Result.andThen_ok,List.map_toArray,List.map_cons,List.map_nil,hs,hx,hr]
theorem Q59 {aj:Array Oper} {i:Nat} {m x y b:Nat} (h:OpAt aj i none (.mapUpdate 189 (.tmp m) (.tmp x) (.tmp y))) {Q:Exit->Act->World->Prop} {K:Act->World->Prop} {a:Act} {w w':World} {ac v:Value}
  (hm:a.eval (.tmp m) = .map (some b)) (hx:a.eval (.tmp x)=ac) (hy:a.eval (.tmp y)=v) (hr:(Instr.mapUpdate 189 (.map (some b)) ac v).run Tryz.prog w = .ok () w') (hK:K a w'):wpOp Tryz.prog aj Q i K a w:=by
 obtain ⟨o,h1,h2,h3,h4⟩:=h.ex;unfold wpOp;simp only [h1,Region.wanted,h4,if_true];left;unfold Oper.wp;simp [execOp,h3,hm,hx,hy,hr,Result.andThen];show K (a.put o.dst undef) w';rw [h2];exact hK
def Q86 (ac:Array Oper) (i j:Nat):Bool:=match ac[i]? with
 |some o=>o.after.toList.any fun e=>Region.binds .any e&&Nat.beq e.on j
 |none=>false
theorem T9 {ac:Array Oper} {listed:Array Bool} {i j:Nat} {o:Oper} (h:Q86 ac i j=true) (ho:ac[i]? = some o) (hp:Q3v listed o.after.toList):Lst listed j:=by
 unfold Q86 at h;rw [ho] at h;obtain ⟨e,he,hb⟩:=List.any_eq_true.1 h;simp only [QrA] at hb;have:=hp e he hb.1;rwa [Nat.eq_of_beq_eq_true hb.2] at this
theorem Lc {ac:Array Oper} {listed:Array Bool} {i j:Nat} (h:Q86 ac i j=true) (hc:DN ac.toList listed) (hl:Lst listed i):Lst listed j:=by
 cases ho:ac[i]? with
 |none=>unfold Q86 at h;rw [ho] at h;cases h
 |some o=>exact T9 h ho (hc i o (by rw [QrE];exact ho) hl)
theorem CP (a:Act) (t:Nat):a.eval (.tmp t)=tmv a t:=rfl
def Q8r:List (Nat×Nat):=[(2,1),(5,4),(6,3),(6,5),(8,7),(9,6),(9,8),(10,0),(10,1),(10,2),(10,3),(10,4),(10,5),(10,6),(10,7),(10,8),(10,9)]
structure VR6 (ops:Array Oper):Prop where
 size:ops.size=11
 edge:Kg ops.toList 0=true
 o0:OpAt ops 0 (some 33) (.move (.tmp 6))
 o1:OpAt ops 1 (some 34) (.fieldAddr 59 (.tmp 9) 0)
 o2:OpAt ops 2 (some 35) (.load 3 (.tmp 34))
 o3:OpAt ops 3 (some 36) (.move (.tmp 6))
 o4:OpAt ops 4 (some 37) (.fieldAddr 59 (.tmp 9) 0)
 o5:OpAt ops 5 (some 38) (.load 3 (.tmp 37))
 o6:OpAt ops 6 (some 39) (.lookup 189 (.tmp 36) (.tmp 38) false)
 o7:OpAt ops 7 (some 40) (.move (.tmp 8))
 o8:OpAt ops 8 (some 41) (.buildSlice 22 1 #[(0,.tmp 40)])
 o9:OpAt ops 9 (some 42) (.call { callee:=.builtin .append,args:=#[.tmp 39,.tmp 41],argTypes:=#[22,22] })
 o10:OpAt ops 10 none (.mapUpdate 189 (.tmp 33) (.tmp 35) (.tmp 42))
 waits:Q8r.all (fun p=>Q86 ops p.1 p.2)=true
theorem QaE:∀ i,i<10->(10,i)∈Q8r:=by decide
theorem VR6.w {ac:Array Oper} (h:VR6 ac) (i j:Nat) (hm:(i,j)∈Q8r):Q86 ac i j=true:=List.all_eq_true.1 h.waits (i,j) hm
structure S6 where
 a0:Act
 ws:World
 b:Nat
 ub:Nat
 n:Nat
 res:Int
 i:Int
 D:DataW Unit
 v0:Value
 zs:List Int
 No:Nat->Prop
def S6.w2 (s:S6):World:=s.ws.alloc (.cells #[.int .i64 s.i] 3)
def S6.val (s:S6):Nat->Value
 |0=>.map (some s.b)
 |1=>.pointer (some ⟨s.ub,0,none⟩)
 |2=>.int .i64 s.res
 |3=>.map (some s.b)
 |4=>.pointer (some ⟨s.ub,0,none⟩)
 |5=>.int .i64 s.res
 |6=>s.v0
 |7=>.int .i64 s.i
 |_=>.slice (some ⟨s.ws.heap.size,0,none⟩) 1 1
def S6.Mid (s:S6) (v':Value) (w:World):Prop:=
 s.w2.grownBy w s.v0.ownBlock/\w.ownsInts (s.b+1) 3 .i64 v' (s.zs++[s.i])/\(v'.ownBlock=s.v0.ownBlock\/∃ g,v'.ownBlock=some g/\s.ws.heap.size<=g)
def S6.End (s:S6) (w:World):Prop:=
 ∃ v' w3,s.Mid v' w3/\w.ownsGroups Tryz.prog 3 (s.b+1) 3 .i64 s.b (s.n+1) (s.D.put (.int .i64 s.res) (rowDatum .i64 v' (s.zs++[s.i])))/\w3.grownBy w (some s.b)/\w.Shuns s.b s.No
structure J6 (s:S6) (listed:Array Bool) (a:Act) (w:World):Prop where
 sz:a.tmps.size=81
 df:a.defers=s.a0.defers
 old:∀ t,t<33\/42<t->tmv a t=tmv s.a0 t
 vals:∀ j,j<9->Lst listed j->tmv a (33+j)=s.val j
 stage:(¬ Lst listed 8/\¬ Lst listed 9/\¬ Lst listed 10/\w=s.ws)\/(Lst listed 8/\¬ Lst listed 9/\¬ Lst listed 10/\w=s.w2)\/(Lst listed 9/\¬ Lst listed 10/\s.Mid (tmv a 42) w)\/(Lst listed 10/\s.End w)
structure S6.Ok (s:S6):Prop where
 sz:s.a0.tmps.size=81
 t6:tmv s.a0 6 = .map (some s.b)
 t8:tmv s.a0 8 = .int .i64 s.i
 t9:tmv s.a0 9 = .pointer (some ⟨s.ub,0,none⟩)
 cell:s.ws.cell? ⟨s.ub,0,none⟩=some (.int .i64 s.res)
 ubb:s.ub≠s.b
 ubNo:s.No s.ub
 ublt:s.ub<s.ws.heap.size
 own:s.ws.ownsGroups Tryz.prog 3 (s.b+1) 3 .i64 s.b s.n s.D
 shun:s.ws.Shuns s.b s.No
 small:s.n<=1000000000
 wfr:(Lit.int .i64 s.res).wf=true
 wfi:(Lit.int .i64 s.i).wf=true
 look:∀ w,w.heap[s.b]? = s.ws.heap[s.b]?->(Instr.lookup 189 (.map (some s.b)) (.int .i64 s.res) false).run Tryz.prog w = .ok s.v0 w
 at_:s.D.atKey (.int .i64 s.res) .nil=rowDatum .i64 s.v0 s.zs
 ints:s.ws.ownsInts (s.b+1) 3 .i64 s.v0 s.zs
 zl:s.zs.length<=s.n
 back:s.ws.groupBack Tryz.prog 189 3 (s.b+1) 3 .i64 s.b s.n s.D (.int .i64 s.res) (.int .i64 s.res) s.v0
 vNo:∀ g,s.v0.ownBlock=some g->¬ s.No g
 noNew:∀ g,s.ws.heap.size<=g->¬ s.No g
theorem J6.quiet {s:S6} {listed:Array Bool} {a:Act} {w:World} (h:J6 s listed a w) {i:Nat} (hi:i<8) (hl:i<listed.size):J6 s (listed.setIfInBounds i true) (a.put (some (33+i)) (s.val i)) w:=by
 have aj:∀ j,Lst (listed.setIfInBounds i true) j↔j=i\/Lst listed j:=fun j=>Hl hl
 have hn:∀ j,j≠i->(Lst (listed.setIfInBounds i true) j↔Lst listed j):=fun j hj=>by rw [aj];exact ⟨fun h=>h.resolve_left hj,.inr⟩
 have hp:∀ t,tmv (a.put (some (33+i)) (s.val i)) t=if t=33+i then s.val i else tmv a t:=fun t=>L7 (by rw [h.sz];omega) t
 refine ⟨?_,h.df,fun t ht=>?_,fun j hj ac=>?_,?_⟩
 ·simp [Act.put,h.sz]
 ·rw [hp,QrK QoW];exact h.old t ht
 ·rw [hp];by_cases e:j=i
  ·subst e;rw [if_pos rfl]
  ·rw [QrK QoW];exact h.vals j hj ((hn j e).1 ac)
 ·rw [hn 8 QoW,hn 9 QoW,hn 10 QoW,hp,QrK QoW];exact h.stage
theorem S6.Ok.blt {s:S6} (h:s.Ok):s.b<s.ws.heap.size:=by
 obtain ⟨es,ac,hb,_⟩:=h.own;exact (Qrx.1 hb).1
theorem S6.Ok.w2_old {s:S6} (h:s.Ok) {k:Nat} (hk:k<s.ws.heap.size):s.w2.heap[k]? = s.ws.heap[k]?:=Yk s.ws _ hk
theorem S6.Ok.mid_old {s:S6} (h:s.Ok) {v':Value} {w:World} (hm:s.Mid v' w) {k:Nat} (hk:k<s.ws.heap.size) (ac:s.v0.ownBlock≠some k):w.heap[k]? = s.ws.heap[k]?:=by
 rw [hm.1.block k (by simp [S6.w2];omega) (fun e=>ac e.symm),h.w2_old hk]
theorem S6.Ok.vb {s:S6} (h:s.Ok):s.v0.ownBlock≠some s.b:=fun e=>by have:=(h.ints.1.lt s.b e).1;omega
theorem J6.cell {s:S6} (hs:s.Ok) {listed:Array Bool} {a:Act} {w:World} (h:J6 s listed a w) (ac:¬ Lst listed 10):w.cell? ⟨s.ub,0,none⟩=some (.int .i64 s.res):=by
 rcases h.stage with ⟨_,_,_,rfl⟩ | ⟨_,_,_,rfl⟩ | ⟨_,_,hm⟩ | ⟨h1,_⟩
 ·exact hs.cell
 ·rw [Nu (w:=s.ws) (hs.w2_old hs.ublt)];exact hs.cell
 ·rw [Nu (w:=s.ws) (hs.mid_old hm hs.ublt (fun e=>hs.vNo _ e hs.ubNo))];exact hs.cell
 ·exact absurd h1 ac
theorem Qiv:(Tryz.prog.info? 3).map (fun i=>(i.zero,i.size,i.bytes))=some (some (.int .i64 0),1,8):=by kernel_rfl
theorem QdO {aw:Array Oper} (hops:VR6 aw) {Q:Exit->Act->World->Prop} {s:S6} (hs:s.Ok) (listed:Array Bool) (a:Act) (w:World) (i:Nat) (o:Oper) (bc:listed.size=aw.size) (hc:DN aw.toList listed) (hJ:J6 s listed a w) (ho:aw[i]? = some o) (hn:¬ Lst listed i) (hp:Q3v listed o.after.toList) :
  wpOp Tryz.prog aw Q i (fun a' w'=>J6 s (listed.setIfInBounds i true) a' w') a w:=by
 have hi:i<11:=by have:=(Qrx.1 ho).1;rw [hops.size] at this;exact this
 have ak:i<listed.size:=by rw [bc,hops.size];exact hi
 have ao:¬ Lst listed 10:=fun h=>by
  by_cases e:i=10
  ·exact hn (e▸h)
  ·exact hn (Lc (hops.w 10 i (QaE i QoW)) hc h)
 have old:∀ t:Nat,t<33->a.eval (.tmp t)=tmv s.a0 t:=fun t ht=>by rw [CP];exact hJ.old t (.inl ht)
 have val:∀ j,j<9->Lst listed j->a.eval (.tmp (33+j))=s.val j:=fun j hj hl=>by rw [CP];exact hJ.vals j hj hl
 have e6:=(old 6 QoW).trans hs.t6;have e8:=(old 8 QoW).trans hs.t8;have e9:=(old 9 QoW).trans hs.t9
 match i,hi with
 |0,_=>exact Hw hops.o0 (v:=s.val 0) (fun o h=>by rw [Q66 o h,e6];rfl) (hJ.quiet QoW ak)
 |1,_=>exact Hw hops.o1 (v:=s.val 1) (fun o h=>Q6v a w s.ub e9 o h) (hJ.quiet QoW ak)
 |2,_=>exact Hw hops.o2 (v:=s.val 2) (fun o h=>Qax a w s.ub 34 _ (val 1 QoW (T9 (hops.w 2 1 QoX) ho hp)) (hJ.cell hs ao) o h) (hJ.quiet QoW ak)
 |3,_=>exact Hw hops.o3 (v:=s.val 3) (fun o h=>by rw [Q66 o h,e6];rfl) (hJ.quiet QoW ak)
 |4,_=>exact Hw hops.o4 (v:=s.val 4) (fun o h=>Q6v a w s.ub e9 o h) (hJ.quiet QoW ak)
 |5,_=>exact Hw hops.o5 (v:=s.val 5) (fun o h=>Qax a w s.ub 37 _ (val 4 QoW (T9 (hops.w 5 4 QoX) ho hp)) (hJ.cell hs ao) o h) (hJ.quiet QoW ak)
 |6,_=>
  have hb:w.heap[s.b]? = s.ws.heap[s.b]?:=by
   rcases hJ.stage with ⟨_,_,_,rfl⟩ | ⟨_,_,_,rfl⟩ | ⟨_,_,hm⟩ | ⟨h1,_⟩
   ·rfl
   ·exact hs.w2_old hs.blt
   ·exact hs.mid_old hm hs.blt hs.vb
   ·exact absurd h1 ao
  exact Hw hops.o6 (v:=s.val 6) (fun o h=>Q3R a w 36 38 s.b _ _ (val 3 QoW (T9 (hops.w 6 3 QoX) ho hp)) (val 5 QoW (T9 (hops.w 6 5 QoX) ho hp)) (hs.look w hb) o h) (hJ.quiet QoW ak)
 |7,_=>exact Hw hops.o7 (v:=s.val 7) (fun o h=>by rw [Q66 o h,e8];rfl) (hJ.quiet QoW ak)
 |8,_=>
  have hw:w=s.ws:=by
   rcases hJ.stage with ⟨_,_,_,h⟩ | ⟨h,_⟩ | ⟨h,_⟩ | ⟨h,_⟩
   ·exact h
   ·exact absurd h hn
   ·exact absurd (Lc (hops.w 9 8 QoX) hc h) hn
   ·exact absurd h ao
  subst hw;have h9:¬ Lst listed 9:=fun h=>hn (Lc (hops.w 9 8 QoX) hc h)
  have aj:∀ j,Lst (listed.setIfInBounds 8 true) j↔j=8\/Lst listed j:=fun j=>Hl ak
  refine Hw hops.o8 (fun o h=>QaY a s.ws 40 (.int .i64 s.i) rfl (val 7 QoW (T9 (hops.w 8 7 QoX) ho hp)) o h) ?_;have ar:∀ t,tmv (a.put (some 41) (.slice (some ⟨s.ws.heap.size,0,none⟩) 1 1)) t=if t=41 then .slice (some ⟨s.ws.heap.size,0,none⟩) 1 1 else tmv a t:=fun t=>L7 (by rw [hJ.sz];omega) t
  refine ⟨by simp [Act.put,hJ.sz],hJ.df,fun t ht=>by rw [ar,QrK QoW];exact hJ.old t ht,fun j hj ax=>?_,.inr (.inl ⟨(aj 8).2 (.inl rfl),fun h=>h9 (((aj 9).1 h).resolve_left QoW),fun h=>ao (((aj 10).1 h).resolve_left QoW),rfl⟩)⟩;rw [ar];by_cases e:j=8
  ·subst e;rw [if_pos rfl];rfl
  ·rw [QrK QoW];exact hJ.vals j hj (((aj j).1 ax).resolve_left e)
 |9,_=>
  have h6:=T9 (hops.w 9 6 QoX) ho hp;have h8:=T9 (hops.w 9 8 QoX) ho hp;have hw:w=s.w2:=by
   rcases hJ.stage with ⟨h,_⟩ | ⟨_,_,_,h⟩ | ⟨h,_⟩ | ⟨h,_⟩
   ·exact absurd h8 h
   ·exact h
   ·exact absurd h hn
   ·exact absurd h ao
  subst hw;have aj:∀ j,Lst (listed.setIfInBounds 9 true) j↔j=9\/Lst listed j:=fun j=>Hl ak
  obtain ⟨i0,bn,bi,bo,bl⟩:=info_parts Qiv;have a4:s.w2.ownsInts (s.b+1) 3 .i64 s.v0 s.zs:=hs.ints.alloc _;have ba:Src (fun _=>True) s.w2 1 (.slice (some ⟨s.ws.heap.size,0,none⟩) 1 1) [[D.int .i64 s.i]] [.int .i64 s.i]:=by
   refine ⟨.inr (.inr ⟨_,1,rfl,fun j u hu=>?_⟩),rfl,fun u hu=>?_,fun i r hr=>?_,fun i j r x hr hx=>?_⟩
   ·match j,hu with
    |0,hu=>
     simp only [Qrv,Option.some.injEq] at hu;subst hu;have a8:s.w2.heap[s.ws.heap.size]? = some (.cells #[.int .i64 s.i] 3):=(MapKept.heap_alloc s.ws _).1;rw [G4];simp [World.cell?,a8]
   ·simp only [List.mem_singleton] at hu;subst hu;rfl
   ·match i,hr with
    |0,hr=>simp only [Qrv,Option.some.injEq] at hr;subst hr;rfl
   ·match i,hr with
    |0,hr=>
     simp only [Qrv,Option.some.injEq] at hr;subst hr
     match j,hx with
     |0,hx=>simp only [Qrv,Option.some.injEq] at hx;subst hx;exact ⟨_,rfl,.int _ _⟩
  have bg:=hs.small;have bb:=hs.zl;have bz:=hs.blt;obtain ⟨v',w',g1,g2,g3,g4⟩:=KG (ty:=22) Tryz.underlying22 bn bi bo rfl QoW a4.1 ba (by unfold maxLen;simp;omega) (by rw [bl];simp;omega) (by simp [S6.w2];omega);refine Hw hops.o9 (fun o h=>Q9r a s.w2 39 41 s.v0 _ v' w' (val 6 QoW h6) (val 8 QoW h8) (fun ty=>g1) o h) ?_;have ar:∀ t,tmv (a.put (some 42) v') t=if t=42 then v' else tmv a t:=fun t=>L7 (by rw [hJ.sz];omega) t
  refine ⟨by simp [Act.put,hJ.sz],hJ.df,fun t ht=>by rw [ar,QrK QoW];exact hJ.old t ht,fun j hj ax=>?_,.inr (.inr (.inl ⟨(aj 9).2 (.inl rfl),fun h=>ao (((aj 10).1 h).resolve_left QoW),?_⟩))⟩
  ·rw [ar,QrK QoW];exact hJ.vals j hj (((aj j).1 ax).resolve_left QoW)
  ·rw [ar,if_pos rfl];refine ⟨g3,hs.ints.appended (w:=s.ws) (by simpa using g2) hs.wfi,g4.imp id fun h=>⟨_,h,by simp [S6.w2]⟩⟩
 |10,_=>
  have aq:∀ j,j<10->Lst listed j:=fun j hj=>T9 (hops.w 10 j (QaE j hj)) ho hp
  have hm:s.Mid (tmv a 42) w:=by
   rcases hJ.stage with ⟨h,_⟩ | ⟨_,h,_⟩ | ⟨_,_,h⟩ | ⟨h,_⟩
   ·exact absurd (aq 8 QoW) h
   ·exact absurd (aq 9 QoW) h
   ·exact h
   ·exact absurd h ao
  have aj:∀ j,Lst (listed.setIfInBounds 10 true) j↔j=10\/Lst listed j:=fun j=>Hl ak
  have a9:s.ws.grownBy w s.v0.ownBlock:=(QrM _ _ _).trans hm.1;have bb:=hs.zl;obtain ⟨w2,a3,r1,r2⟩:=hs.back w (tmv a 42) (s.zs++[s.i]) a9 hm.2.1 QoZ hm.2.2;have r3:w2.Shuns s.b s.No:=by
   obtain ⟨es,au,hb,F,b0,_,b1,_⟩:=hs.own;have bp:w.heap[s.b]? = some (.map es au):=(a9.block s.b hs.blt (fun e1=>hs.vb e1.symm)).trans hb;have bg:=hs.small;obtain ⟨bj,az,bk,a6⟩:=stored_who (int_keyed QrH) Tryz.underlying189 bp F (by unfold maxLen;omega) (keyOf_int_mk QrH hs.wfr) a3;intro bh ay a2 y hy g an;obtain ⟨rfl,rfl⟩:bj=bh/\az=ay:=by rw [bk] at a2;simpa using a2
   rcases a6 y hy with ⟨bm,_⟩ | ⟨_,a7⟩
   ·exact hs.shun es au hb y bm g an
   ·rw [a7] at an;rcases hm.2.2 with h | ⟨g',h1,h2⟩
    ·rw [h] at an;exact hs.vNo g an
    ·rw [h1] at an;injection an with an;subst an;exact hs.noNew _ h2
  refine Q59 hops.o10 (val 0 QoW (aq 0 QoW)) (val 2 QoW (aq 2 QoW)) (CP a 42) a3 ?_;exact ⟨hJ.sz,hJ.df,hJ.old,fun j hj ax=>hJ.vals j hj (((aj j).1 ax).resolve_left QoW),.inr (.inr (.inr ⟨(aj 10).2 (.inl rfl),_,w,hm,r1,r2,r3⟩))⟩
theorem Bf {n:Int} {v:Value}:∀ {es:List MapEntry},Jq es n=some v->∃ e∈es,e.val=v
 |e::r,h=>by
  simp only [Jq] at h;split at h
  ·split at h
   ·injection h with h;exact ⟨e,List.mem_cons_self ..,h⟩
   ·obtain ⟨x,hx,hv⟩:=Bf h;exact ⟨x,List.mem_cons_of_mem _ hx,hv⟩
  ·obtain ⟨x,hx,hv⟩:=Bf h;exact ⟨x,List.mem_cons_of_mem _ hx,hv⟩
theorem Q2m {es:Array MapEntry} {ac b:Nat} {n:Int} {w:World} (hb:w.heap[b]? = some (.map es ac)) (aj:∀ e∈es.toList,∃ m,e.key = .int .i64 m) :
  (Instr.lookup 189 (.map (some b)) (.int .i64 n) false).run Tryz.prog w = .ok ((Jq es.toList n).getD (.slice none 0 0)) w:=by
 have an:(Instr.checkKey es.isEmpty 10000 3 (.int .i64 n)).run Tryz.prog w = .ok () w:=by
  rw [show (10000:Nat)=9999+1 from rfl,Instr.checkKey];simp only [Sem.run_bind,QA QrH,Result.andThen_ok];rfl
 have hz:(zeroValue 22).run Tryz.prog w = .ok (.slice none 0 0) w:=Tryz.zeroValue22 w;rcases TM n es.toList 0 aj with ⟨h1,h2⟩ | ⟨j,v,h1,h2⟩
 ·rw [h1];simp [Instr.lookup,QA Tryz.underlying189,MapKept.run_getObj_map hb,an,Instr.findKey,QA QrH,h2,hz,Result.andThen]
 ·rw [h1];simp [Instr.lookup,QA Tryz.underlying189,MapKept.run_getObj_map hb,an,Instr.findKey,QA QrH,h2,Result.andThen]
theorem QdN {v:Value} {l:Lit} (h:keyOf Tryz.prog 3 v=some l):∃ m,v = .int .i64 m:=by
 simp only [keyOf,QrH,mapKey] at h;cases v <;> simp at h;rename_i k m;exact ⟨m,by rw [h.1.1]⟩
theorem Q5b {w:World} {b n:Nat} {D:DataW Unit} (h:w.ownsGroups Tryz.prog 3 (b+1) 3 .i64 b n D):∃ es ac,w.heap[b]? = some (.map es ac)/\(∀ e∈es.toList,∃ m,e.key = .int .i64 m)/\es.size<=n:=by
 obtain ⟨es,ac,hb,F,hs,_⟩:=h;refine ⟨es,ac,hb,fun e he=>?_,hs⟩;obtain ⟨y,hy⟩:=F.reads e he;exact QdN (WideElems.rd_key hy)
structure GI (b n:Nat) (D:DataW Unit) (No:Nat->Prop) (w:World):Prop where
 own:w.ownsGroups Tryz.prog 3 (b+1) 3 .i64 b n D
 shun:w.Shuns b No
 bNo:¬ No b
 noNew:∀ g,w.heap.size<=g->¬ No g
theorem GI.lookup {b n:Nat} {D:DataW Unit} {No:Nat->Prop} {w:World} (h:GI b n D No w) (hn:n<=1000000000) {res:Int} (hw:(Lit.int .i64 res).wf=true) :
  ∃ v zs,(∀ w',w'.heap[b]? = w.heap[b]?->(Instr.lookup 189 (.map (some b)) (.int .i64 res) false).run Tryz.prog w' = .ok v w')/\D.atKey (.int .i64 res) .nil=rowDatum .i64 v zs/\w.ownsInts (b+1) 3 .i64 v zs/\zs.length<=n /\
   w.groupBack Tryz.prog 189 3 (b+1) 3 .i64 b n D (.int .i64 res) (.int .i64 res) v/\(∀ g,v.ownBlock=some g->¬ No g):=by
 obtain ⟨es,ak,hb,hk,hs⟩:=Q5b h.own;obtain ⟨v,zs,ac,hat,ax,aq,aj⟩:=h.own.at (int_keyed QrH) Tryz.underlying189 (Tryz.zeroValue22 w) (by unfold maxLen;omega) (keyOf_int_mk QrH hw);have hv:v=(Jq es.toList res).getD (.slice none 0 0):=by
  rw [Q2m hb hk] at ac;injection ac with h1 h2
  exact h1.symm
 refine ⟨v,zs,fun w' ao=>by rw [hv];exact Q2m (ao.trans hb) hk,hat,ax,aq,aj,fun g hg=>?_⟩;cases hl:Jq es.toList res with
 |none=>rw [hv,hl] at hg;cases hg
 |some u=>
  obtain ⟨e,he,aw⟩:=Bf hl;rw [hv,hl] at hg;exact h.shun es ak hb e he g (by rw [aw];exact hg)
theorem QgQ {a4:Array Oper} (hops:VR6 a4) {id:Nat} {Q:Exit->Act->World->Prop} {a:Act} {w:World} {b ub n:Nat} {res i:Int} {D:DataW Unit} {No:Nat->Prop} (hG:GI b n D No w) (hn:n<=1000000000)
  (a3:a.tmps.size=81) (t6:tmv a 6 = .map (some b)) (t8:tmv a 8 = .int .i64 i) (t9:tmv a 9 = .pointer (some ⟨ub,0,none⟩)) (au:w.cell? ⟨ub,0,none⟩=some (.int .i64 res)) (ao:No ub)
  (a6:(Lit.int .i64 res).wf=true) (a8:(Lit.int .i64 i).wf=true)
  (hQ:∀ a' w' v zs,a'.tmps.size=81->a'.defers=a.defers->(∀ t,t<33\/42<t->tmv a' t=tmv a t)->D.atKey (.int .i64 res) .nil=rowDatum .i64 v zs->w.ownsInts (b+1) 3 .i64 v zs ->
   GI b (n+1) (D.put (.int .i64 res) (.slice (ChangeShapes.lits .i64 (zs++[i])) [])) No w'->w'.os=w.os->w'.tape=w.tape->w'.output=w.output->w.heap.size<=w'.heap.size->(∀ k,k<w.heap.size->k<b\/No k->w'.heap[k]? = w.heap[k]?)->Q .normal a' w') :
  (Code.region id a4 true).wp Tryz.prog Q a w:=by
 have bh:w.grownBy { w with drawn:=w.drawn+1 } none:=⟨rfl,rfl,rfl,QrL _,fun _ _ _=>rfl⟩;have aq:GI b n D No { w with drawn:=w.drawn+1 }:=⟨hG.own.kept bh QoY (fun es bc hb x hx=>by cases x.val.ownBlock <;> simp),hG.shun,hG.bNo,hG.noNew⟩;obtain ⟨v,zs,ay,hat,ak,ba,aw,an⟩:=aq.lookup hn a6;have ax:ub<w.heap.size:=by
  rcases Nat.lt_or_ge ub w.heap.size with h | h
  ·exact h
  ·exact absurd ao (hG.noNew ub h)
 have bi:S6.Ok ⟨a,{ w with drawn:=w.drawn+1 },b,ub,n,res,i,D,v,zs,No⟩:=
  ⟨a3,t6,t8,t9,au,fun (e:ub=b)=>hG.bNo (e▸ao),ao,ax,aq.own,aq.shun,hn,a6,a8,ay,hat,ak,ba,aw,an,hG.noNew⟩
 refine Q7T (J:=J6 ⟨a,{ w with drawn:=w.drawn+1 },b,ub,n,res,i,D,v,zs,No⟩) (by kernel_rfl) hops.edge (QdO hops bi) (fun listed a' w' hJ a5=>?_) ⟨a3,rfl,fun _ _=>rfl,fun j _ hl=>?_,.inl ⟨?_,?_,?_,rfl⟩⟩
 ·have ar:Lst listed 10:=a5 10 (by rw [hops.size];omega);obtain ⟨v',w3,hm,r1,r2,r3⟩:S6.End ⟨a,{ w with drawn:=w.drawn+1 },b,ub,n,res,i,D,v,zs,No⟩ w':=by
   rcases hJ.stage with ⟨_,_,h,_⟩ | ⟨_,_,h,_⟩ | ⟨_,h,_⟩ | ⟨_,h⟩
   ·exact absurd ar h
   ·exact absurd ar h
   ·exact absurd ar h
   ·exact h
  have ac:({ w with drawn:=w.drawn+1 }:World).grownBy w3 v.ownBlock:=(QrM _ _ _).trans hm.1;have hd:rowDatum (H:=Unit) .i64 v' (zs++[i]) = .slice (ChangeShapes.lits .i64 (zs++[i])) []:=hm.2.1.datum_pos QoY;have a2:w.heap.size<=w3.heap.size:=ac.size;refine hQ a' w' v zs hJ.sz hJ.df hJ.old hat ⟨ak.1,ak.2⟩ ⟨hd▸r1,r3,hG.bNo,fun g a9=>hG.noNew g (QrO (QrO a2 r2.size) a9)⟩ (r2.os.trans ac.os) (r2.tape.trans ac.tape) (r2.output.trans ac.output) (QrO a2 r2.size) fun k hk az=>?_
  have bg:k≠b:=fun e=>by rcases az with h | h;omega;exact hG.bNo (e▸h)
  have bb:v.ownBlock≠some k:=fun e=>by
   rcases az with h | h
   ·have:=(ak.1.lt k e).1;omega
   ·exact an k e h
  rw [r2.block k QoW (by simpa using bg)];exact ac.block k hk (fun e=>bb e.symm)
 ·exact absurd hl (by unfold Lst;simp [Array.getD])
 ·unfold Lst;simp [Array.getD]
 ·unfold Lst;simp [Array.getD]
 ·unfold Lst;simp [Array.getD]
noncomputable def Pr:Code:=WQ Tryz.f49
noncomputable def Qc8:Code:=cB (cL (cR (cR (cB (cB (cR (cL (cR (cR Pr)))))))))
def Qaw:Code->Array Oper | .region _ ac _=>ac | _=>#[]
noncomputable def Qa7:Array Oper:=Qaw (cR (cR Qc8))
theorem BA {ac:Array Oper} {i:Nat} {dst:oP Nat} {op:Op} (h:(ac[i]?).map (fun o=>(o.dst,o.op,o.guard))=some (dst,op,none)):OpAt ac i dst op:=by
 obtain ⟨o,h1,h2⟩:=QrC.1 h;injection h2 with h2 h3
 injection h3 with h3 h4
 exact ⟨o,h1,h2,h3,h4⟩
theorem QiH:VR6 Qa7:=by
 refine ⟨by kernel_rfl,by kernel_rfl,?_,?_,?_,?_,?_,?_,?_,?_,?_,?_,?_,by kernel_rfl⟩
 all_goals exact BA (by kernel_rfl)
end Go.Vx
set_option maxRecDepth 100000
namespace Go.Vx
open Go.Proofs
def Q9a:TT:=[(3,⟨.int .i64,1,8,[.int .i64 0],[.int .i64 0],[],none⟩),(4,⟨.bool,1,1,[.bool false],[.bool false],[],none⟩),(22,⟨.sl 3 1,1,24,[.slice none 0 0],[.sl 1 []],[],none⟩),(53,⟨.sl 59 5,1,24,[.slice none 0 0],[.sl 5 []],[],none⟩),(59,⟨.struct,5,40,[.int .i64 0,.int .i64 0,.int .i64 0,.int .i64 0,.int .i64 0],[.int .i64 0,.int .i64 0,.int .i64 0,.int .i64 0,.int .i64 0],[(0,3),(1,3),(2,3),(3,3),(4,3)],some [.int .i64,.int .i64,.int .i64,.int .i64,.int .i64]⟩)]
theorem Q9M:Qf6 Tryz.prog [3,4,22,53,59]=Q9a:=by kernel_rfl
def Q8Q:VC:=⟨Q0K [],Q9a,[]⟩
theorem Bg:VCOk Tryz.prog Q8Q:=⟨Q42 (show Q3y Tryz.prog [] from trivial),(Q9M▸Q9o _:TOk Tryz.prog Q9a),by kernel_rfl⟩
noncomputable def Di (i:Nat):Code:=match i with
 |0=>cL Pr
 |1=>cL (cR Pr)
 |2=>cL (cL (cR (cR Pr)))
 |3=>cL (cB (cB (cR (cL (cR (cR Pr))))))
 |4=>cL Qc8
 |5=>cL (cR Qc8)
 |6=>cR (cR Qc8)
 |_=>cR (cR (cR (cB (cB (cR (cL (cR (cR Pr))))))))
def Q8m (t:Int) (rows:List (List D)) (f b:Nat) (l:List (Nat×AV)):List (Nat×AV):=(0,.d (.int .i64 t))::(1,.d (.sl 5 rows))::(2,.fn f [.ptr 1000000 0])::(6,.ex (.map (some b)))::l
def C7 (t:Int) (rows:List (List D)) (f b:Nat) (l:List (Nat×AV)):List (Nat×AV):=Q8m t rows f b ((7,.arr 17)::l)
def QdG (t:Int) (rows:List (List D)) (f b:Nat) (i:Int) (l:List (Nat×AV)):List (Nat×AV):=C7 t rows f b ((8,.d (.int .i64 i))::(9,.ptr 9 0)::l)
theorem QfT {R:Type} (t:Int) (f b:Nat) (rows:List (List D)) (k:Exit->St->oP R) :
  HR Q8Q 0 (Di 1) ⟨81,Q8m t rows f b [],[]⟩ k =
   gb true (bif decide (0<=((List.length rows:Nat):Int))&&decide (((List.length rows:Nat):Int)<=((List.length rows:Nat):Int)) then some () else none) () fun _=>gb true (Y1 (Int.toNat ((List.length rows:Nat):Int)*8)) () fun _=>
    k .normal ⟨81,(7,.arr 17)::(17,.arr 17)::(16,.d (.int .i64 ((List.length rows:Nat):Int)))::(15,.d (.sl 5 rows))::Q8m t rows f b [],[(17,.arr 3 1 (List.replicate (Int.toNat ((List.length rows:Nat):Int)) [D.int .i64 0]))]⟩:=by kernel_rfl
theorem Qfz {R:Type} (t:Int) (f b:Nat) (rows ac:List (List D)) (k:Exit->St->oP R) :
  HR Q8Q 0 (Di 2) ⟨81,C7 t rows f b [],[(17,.arr 3 1 ac)]⟩ k =
    k .normal ⟨81,(20,.d (.int .i64 0))::(19,.d (.int .i64 ((List.length rows:Nat):Int)))::(18,.d (.sl 5 rows))::C7 t rows f b [],[(17,.arr 3 1 ac)]⟩:=by kernel_rfl
def A5 (t:Int) (rows:List (List D)) (f b:Nat) (N i:Int) (ac:List (List D)):St:=⟨81,C7 t rows f b [(18,.d (.sl 5 rows)),(19,.d (.int .i64 N)),(20,.d (.int .i64 i))],[(17,.arr 3 1 ac)]⟩
theorem Qcl {R:Type} (t:Int) (f b:Nat) (rows ac:List (List D)) (N i:Int) (k:Exit->St->oP R) :
  HR Q8Q 0 (Di 3) (A5 t rows f b N i ac) k=k .normal ⟨81,(21,.d (.bool (decide (i<N))))::(A5 t rows f b N i ac).tm,[(17,.arr 3 1 ac)]⟩:=by kernel_rfl
def ER (t:Int) (rows:List (List D)) (f b:Nat) (N i:Int) (ac:List (List D)) (c:List AV):St:=⟨81,QdG t rows f b i [(18,.d (.sl 5 rows)),(19,.d (.int .i64 N)),(20,.d (.int .i64 i))],[(9,.box c),(17,.arr 3 1 ac)]⟩
theorem Qf9 {R:Type} (t:Int) (f b:Nat) (rows ac:List (List D)) (N i:Int) (k:Exit->St->oP R) :
  HR Q8Q 0 (Di 4) (A5 t rows f b N i ac) k =
   gb true (Q1 rows i) [] fun r=>gb true (r[0]?) (.bool false) fun c0=>gb true (r[1]?) (.bool false) fun c1=>gb true (r[2]?) (.bool false) fun c2=>gb true (r[3]?) (.bool false) fun c3=>gb true (r[4]?) (.bool false) fun c4=>
    k .normal ⟨81,(8,.d (.int .i64 i))::(9,.ptr 9 0)::(24,.ag [.d c0,.d c1,.d c2,.d c3,.d c4])::(23,.el r 0)::(22,.d (.int .i64 i))::(A5 t rows f b N i ac).tm,[(9,.box [.d c0,.d c1,.d c2,.d c3,.d c4]),(17,.arr 3 1 ac)]⟩:=by kernel_rfl
theorem QfS {R:Type} (t:Int) (f b:Nat) (rows ac:List (List D)) (N i:Int) (k:Exit->St->oP R) :
  HR Q8Q 0 (Di 7) (A5 t rows f b N i ac) k=k .normal ⟨81,(20,.d (.int .i64 (wJ (i+1))))::(43,.d (.int .i64 (wJ (i+1))))::(A5 t rows f b N i ac).tm,[(17,.arr 3 1 ac)]⟩:=by kernel_rfl
noncomputable def KD:Array Oper:=Qaw (Di 5)
theorem QiF:Di 5 = .region 5 KD false:=by kernel_rfl
theorem Qk3:OpAt KD 5 (some 30) (.lookup 189 (.tmp 27) (.tmp 29) false):=BA (by kernel_rfl)
theorem Qke:OpAt KD 6 (some 31) (.call { callee:=.builtin .len,args:=#[.tmp 30],argTypes:=#[22] }):=BA (by kernel_rfl)
theorem QeL (j:Nat) (hj:j<(KD.toList.take 5).length):(KD.toList.take 5)[j]? = KD[0+j]?:=by
 rw [QrQ,if_pos (by simp at hj;omega),QrE,QrP]
theorem Qeb (j:Nat) (hj:j<(KD.toList.drop 7).length):(KD.toList.drop 7)[j]? = KD[7+j]?:=by
 rw [List.getElem?_drop,QrE]
def QbH (t:Int) (rows:List (List D)) (f b:Nat) (N i res:Int) (ac:List (List D)) (c:List AV):St:=
 ⟨81,(29,.d (.int .i64 res))::(28,.ptr 9 0)::(27,.ex (.map (some b)))::(26,.d (.int .i64 i))::(25,.arr 17)::(ER t rows f b N i ac (.d (.int .i64 res)::c)).tm,(ER t rows f b N i ac (.d (.int .i64 res)::c)).h⟩
theorem QfY (t:Int) (rows:List (List D)) (f b:Nat) (N i res:Int) (ac:List (List D)) (c:List AV) :
  QbR Q8Q.spec Q8Q.tt KD (KD.toList.take 5) (ER t rows f b N i ac (.d (.int .i64 res)::c)) [] (fun st' _=>some st')=some (QbH t rows f b N i res ac c):=by kernel_rfl
def QgZ (t:Int) (rows:List (List D)) (f b:Nat) (N i res:Int) (ac:List (List D)) (c:List AV) (v:Value) (n:Int):St:=
 ⟨81,(31,.d (.int .i64 n))::(30,.ex v)::(QbH t rows f b N i res ac c).tm,(ER t rows f b N i ac (.d (.int .i64 res)::c)).h⟩
theorem QgO {R:Type} (t:Int) (rows:List (List D)) (f b:Nat) (N i res:Int) (ac:List (List D)) (c:List AV) (v:Value) (n:Int) (k:St->oP R) :
  QbR Q8Q.spec Q8Q.tt KD (KD.toList.drop 7) (QgZ t rows f b N i res ac c v n) [] (fun st' _=>k st') =
   gb true (inB (List.length ac) i) () fun _=>gb true (ac[Int.toNat i]?) [] fun r=>k ⟨81,(32,.ap 17 (Int.toNat i) 0)::(QgZ t rows f b N i res ac c v n).tm,[(17,.arr 3 1 (List.set ac (Int.toNat i) (List.set r 0 (.int .i64 n)))),(9,.box (.d (.int .i64 res)::c))]⟩:=by kernel_rfl
theorem QfA (a:Act) (w:World) (x:Nat) (ao:oP Addr) (n cap:Nat) (hx:a.eval (.tmp x) = .slice ao n cap) (o:Oper) (h:o.op = .call { callee:=.builtin .len,args:=#[.tmp x],argTypes:=#[22] }):(execOp a.eval o).run Tryz.prog w = .ok (.value (.int .i64 n)) w:=by
 unfold execOp;simp [h,resolve,invoke,builtin,hx,Builtin.len_,QA Tryz.underlying22,goInt]
theorem RdA.ex_inv {β:Nat->oP Nat} {S:Nat->Prop} {h:Nat->oP Ob} {w:World} {tm:Nat->Value} {v u:Value} (hv:RdA β S h w tm v (.ex u)):v=u:=by
 cases hv with
 |ex=>rfl
 |dang _ _ l hl=>simp [Sz] at hl
theorem F8 {α:Type} {tm:List (Nat×α)} {t:Nat} {av:α} (h:look tm t=some av):∀ {pre:List (Nat×α)},(pre.all fun p=>(look tm p.1).isNone)=true->look (pre++tm) t=some av
 |[],_=>h
 |(k,x)::r,hp=>by
  simp only [List.all_cons,QrA] at hp;rw [List.cons_append,Qx];by_cases e:t=k
  ·subst e;have:=hp.1;rw [h] at this;cases this
  ·rw [QrK e];exact F8 h hp.2
theorem Q6d {E:Env} {o:Oper} {ev:Operand->AV} {hl:Nat->oP Ob} {v:Value} {av:AV} (ac:∀ β S h w tm,RdA β S h w tm v av)
  (h:∀ β S st a w,Rel E β S st a w->DR β S st a w o ev->(execOp a.eval o).run Tryz.prog w = .ok (.value v) w):GC Tryz.prog E o ev hl ⟨av,[],[]⟩:=
 Qk fun β S st a w hR hO hA=>⟨v,h β S st a w hR hO,ac ..⟩
theorem QfD {E:Env} {β:Nat->oP Nat} {S:Nat->Prop} {a:Act} {w:World} {t:Int} {rows ac:List (List D)} {f b n:Nat} {N res:Int} {i:Nat} {c:List AV} {D:DataW Unit} {No:Nat->Prop}
  (hR:Rel E β S (ER t rows f b N i ac (.d (.int .i64 res)::c)) a w) {Hd:Nat->Prop} (hO:Off β S (look (ER t rows f b N i ac (.d (.int .i64 res)::c)).h) w Hd) (hb:Hd b) (hG:GI b n D No w) (hn:n<=1000000000)
  (hw:(Lit.int .i64 res).wf=true) (hi:i<ac.length) (bn:ac.length<=9223372036854775807) {x:Go.Vx.D} (ba:ac[i]? = some [x]) {Q:Exit->Act->World->Prop}
  (hQ:∀ β' S' a' w' v zs,Rel E β' S' (ER t rows f b N i (ac.set i [.int .i64 (List.length zs:Nat)]) (.d (.int .i64 res)::c)) a' w'->Off β' S' (look (ER t rows f b N i (ac.set i [.int .i64 (List.length zs:Nat)]) (.d (.int .i64 res)::c)).h) w' Hd->(∀ k,Hd k->w'.heap[k]? = w.heap[k]?)->w.heap.size<=w'.heap.size ->
   D.atKey (.int .i64 res) .nil=rowDatum .i64 v zs->w.ownsInts (b+1) 3 .i64 v zs->Q .normal a' w'):(Di 5).wp Tryz.prog Q a w:=by
 obtain ⟨v,zs,aw,hat,az,bo,bc,bj⟩:=hG.lookup hn hw;obtain ⟨ao,cap,rfl⟩:∃ ao cap,v = .slice ao zs.length cap:=by
  rcases az.1.2 with ⟨rfl,h0⟩ | ⟨g,cap,bp,rfl,_⟩
  ·exact ⟨none,0,by rw [h0]⟩
  ·exact ⟨_,cap,rfl⟩
 have a9:∀ {β' S' st' a' w'},Rel (Q1U β S (look (ER t rows f b N i ac (.d (.int .i64 res)::c)).h) w) β' S' st' a' w'->w'.heap[b]? = w.heap[b]?:=fun h=>h.hr.fr.block b (hO.lt b hb) (fun ⟨l,h1,h2⟩=>hO.nO b hb l h1 h2)
 obtain ⟨r1,bx,l1,k1,ax⟩:=BP (E:=Q1U β S (look (ER t rows f b N i ac (.d (.int .i64 res)::c)).h) w) Bg.spec Bg.tt _ 0 _ _ _ _ QeL (QfY t rows f b N i res ac c);injection k1 with k1
 subst k1;obtain ⟨o5,p1,p2,p3,p4⟩:=Qk3.ex;obtain ⟨o6,q1,q2,q3,q4⟩:=Qke.ex;have au:=TP.one (P:=Tryz.prog) (E:=Q1U β S (look (ER t rows f b N i ac (.d (.int .i64 res)::c)).h) w) (st:=QbH t rows f b N i res ac c) p1 p4 (dl:=⟨.ex (.slice ao zs.length cap),[],[]⟩) (Q6d (v:=.slice ao zs.length cap) (fun _ _ _ _ _=>.ex _) fun β' S' st' a' w' aj ar=>by
   have h1:a'.eval (.tmp 27) = .map (some b):=RdA.ex_inv (ar (.tmp 27) (by simp [p3,Op.operands])).1;have h2:a'.eval (.tmp 29) = .int .i64 res:=RdA.int_inv (ar (.tmp 29) (by simp [p3,Op.operands])).1;exact Q3R a' w' 27 29 b _ _ h1 h2 (aw w' (a9 aj)) o5 p3) ⟨by rw [p2];kernel_rfl,rfl⟩
 have ak:=TP.one (P:=Tryz.prog) (E:=Q1U β S (look (ER t rows f b N i ac (.d (.int .i64 res)::c)).h) w) (st:=put (QbH t rows f b N i res ac c) o5.dst ⟨.ex (.slice ao zs.length cap),[],[]⟩) q1 q4 (dl:=⟨.d (.int .i64 (List.length zs:Nat)),[],[]⟩) (Q6d (v:=.int .i64 (List.length zs:Nat)) (fun _ _ _ _ _=>.d _ _ (.int _ _)) fun β' S' st' a' w' aj ar=>by
   have h1:a'.eval (.tmp 30) = .slice ao zs.length cap:=by
    have:=(ar (.tmp 30) (by simp [q3,Op.operands,Call.operands])).1;rw [p2] at this;exact RdA.ex_inv this
   exact QfA a' w' 30 ao zs.length cap h1 o6 q3) ⟨by rw [p2,q2];kernel_rfl,rfl⟩
 rw [p2] at au ak;rw [q2] at ak;have a2:=QgO t rows f b N i res ac c (.slice ao zs.length cap) (List.length zs:Nat) (fun st'=>some st');rw [XR QoW QoW,Q0,Int.toNat_natCast,ba,Q0] at a2;obtain ⟨r4,bl,l4,k4,a4⟩:=BP (E:=Q1U β S (look (ER t rows f b N i ac (.d (.int .i64 res)::c)).h) w) Bg.spec Bg.tt _ 7 _ _ _ _ Qeb a2;injection k4 with k4
 subst k4;have a3:=((ax.append (by rw [l1];exact au)).append (by rw [List.length_append,l1];exact ak)).append (r2:=r4) (by simp only [List.length_append,l1];exact a4);rw [QiF];refine Q2o a3 (by simp only [List.length_append,l1,l4,List.length_cons,List.length_nil];kernel_rfl) ⟨β,S,hR.anew⟩ fun a' w' ⟨β',S',aj⟩=>?_
 obtain ⟨g1,g2⟩:=hO.keep aj;have ay:List.set [x] 0 (Go.Vx.D.int .i64 (List.length zs:Nat))=[Go.Vx.D.int .i64 (List.length zs:Nat)]:=rfl;rw [ay] at aj g1;have aq:∀ l,look (ER t rows f b N i (ac.set i [.int .i64 (List.length zs:Nat)]) (.d (.int .i64 res)::c)).h l=look [(17,Ob.arr 3 1 (ac.set i [.int .i64 (List.length zs:Nat)])),(9,.box (.d (.int .i64 res)::c))] l:=fun l=>by
  by_cases e1:l=9
  ·subst e1;rfl
  ·by_cases e2:l=17
   ·subst e2;rfl
   ·show look (_::_::[]) l=look (_::_::[]) l;rw [Qx,Qx,Qx,Qx,QrK e1,QrK e2,QrK e2,QrK e1]
 have bh:=hR.back aj (fun l hl hs=>by
  rw [Qx,Qx,QrK QoW,QrK QoW] at hs;cases hs)
 refine hQ β' S' a' w' _ zs (bh.sub rfl (fun t' av ht=>⟨?_,fun l _=>aq l⟩) (fun l o ho=>⟨(aq l).symm.trans ho,fun m _=>aq m⟩)) ⟨g1.lt,g1.nS,fun k hk l hs=>g1.nO k hk l ((aq l).symm▸hs)⟩ g2 aj.hr.fr.size hat az;exact F8 (pre:=[(32,.ap 17 i 0),(31,.d (.int .i64 (List.length zs:Nat))),(30,.ex (.slice ao zs.length cap)),(29,.d (.int .i64 res)),(28,.ptr 9 0),(27,.ex (.map (some b))),(26,.d (.int .i64 i)),(25,.arr 17)]) ht (by kernel_rfl)
end Go.Vx
namespace Go.Vx
open Go.Proofs Go.Maps Go.RowKit Go.ChangeShapes
def DOK (rs:List Int) (i:Nat) (D:DataW Unit):Prop:=IsMap D/\∀ r:Int,D.atKey (.int .i64 r) .nil=if Q0w rs i r=[] then .nil else .slice (lits .i64 (Q0w rs i r)) []
theorem Qc6 (rs:List Int):DOK rs 0 (.map []):=⟨⟨_,rfl⟩,fun r=>rfl⟩
theorem Qc3 {xs ys:List Int} (h:(lits .i64 xs:List (DataW Unit))=lits .i64 ys):xs=ys:=by
 unfold lits at h;exact (List.map_inj_right (fun a b ac=>by cases ac;rfl)).1 h
theorem Q8Z {rs:List Int} {i:Nat} {D:DataW Unit} (h:DOK rs i D) {w:World} {base:Nat} {v:Value} {zs:List Int} {r:Int} (hat:D.atKey (.int .i64 r) .nil=rowDatum .i64 v zs) (ho:w.ownsInts base 3 .i64 v zs):zs=Q0w rs i r:=by
 rw [h.2 r] at hat;rcases ho.datum (H:=Unit) with ⟨h1,rfl⟩ | h1
 ·rw [h1] at hat;split at hat
  ·rename_i h2;exact h2.symm
  ·cases hat
 ·rw [h1] at hat;split at hat
  ·cases hat
  ·injection hat with hat
   exact (Qc3 hat).symm
theorem QbA {rs:List Int} {i:Nat} {D:DataW Unit} (h:DOK rs i D):DOK rs (i+1) (D.put (.int .i64 (rs.getD i 0)) (.slice (lits .i64 (Q0w rs i (rs.getD i 0)++[(i:Int)])) [])):=by
 refine ⟨h.1.put _ _,fun r=>?_⟩;rw [QaA];by_cases e:rs.getD i 0=r
 ·subst e;rw [atKey_put_same h.1 (by trivial),if_pos rfl,QrK QoY]
 ·rw [atKey_put_other (fun h=>e (by injection h with _ h;exact h.symm)),QrK e,List.append_nil];exact h.2 r
def Q5c (w:World) (b g:Nat):Prop:=∃ es ac,w.heap[b]? = some (.map es ac)/\∃ x∈es.toList,x.val.ownBlock=some g
def Hg (w:World) (b k:Nat):Prop:=k=b\/Q5c w b k
def Qjk (w:World) (b g:Nat):Prop:=g<w.heap.size/\g≠b/\¬ Q5c w b g
theorem QdT {w:World} {b n:Nat} {D:DataW Unit} (h:w.ownsGroups Tryz.prog 3 (b+1) 3 .i64 b n D):GI b n D (Qjk w b) w:=
 ⟨h,fun es ac hb x hx g hg hN=>hN.2.2 ⟨es,ac,hb,x,hx,hg⟩,fun h=>h.2.1 rfl,fun g hg h=>by have:=h.1;omega⟩
theorem Q6g {w:World} {b n g:Nat} {D:DataW Unit} (h:w.ownsGroups Tryz.prog 3 (b+1) 3 .i64 b n D) (hr:Q5c w b g):b+1<=g/\g<w.heap.size:=by
 obtain ⟨es,ak,hb,F,_⟩:=h;obtain ⟨aq,aj,ac,x,hx,hg⟩:=hr;rw [hb] at ac;injection ac with ac;injection ac with e1 e2
 subst e1;obtain ⟨y,hy⟩:=F.reads x hx;obtain ⟨z,hz,_⟩:=WideElems.rd_val hy;obtain ⟨zs,an,_⟩:=rowElem_inv hz;exact an.1.lt g hg
theorem Qed {E:Env} {β:Nat->oP Nat} {S:Nat->Prop} {a:Act} {w:World} {t:Int} {rows ac:List (List Go.Vx.D)} {f b n:Nat} {N res:Int} {i:Nat} {c:List AV} {D:DataW Unit} {Hh:Nat->Prop}
  (hR:Rel E β S (ER t rows f b N i ac (.d (.int .i64 res)::c)) a w) (hO:Off β S (look (ER t rows f b N i ac (.d (.int .i64 res)::c)).h) w (fun k=>Hg w b k\/Hh k)) (hh:∀ k,Hh k->k<b) (bc:E.w0.heap.size<=b)
  (au:w.ownsGroups Tryz.prog 3 (b+1) 3 .i64 b n D) (hn:n<=1000000000) (hi:i<=1000000000) (bi:(Lit.int .i64 res).wf=true) {Q:Exit->Act->World->Prop}
  (hQ:∀ a' w' v zs,Rel E β S (ER t rows f b N i ac (.d (.int .i64 res)::c)) a' w'->Off β S (look (ER t rows f b N i ac (.d (.int .i64 res)::c)).h) w' (fun k=>Hg w' b k\/Hh k)->(∀ k,Hh k->w'.heap[k]? = w.heap[k]?)->w.heap.size<=w'.heap.size ->
   D.atKey (.int .i64 res) .nil=rowDatum .i64 v zs->w.ownsInts (b+1) 3 .i64 v zs->w'.ownsGroups Tryz.prog 3 (b+1) 3 .i64 b (n+1) (D.put (.int .i64 res) (.slice (lits .i64 (zs++[(i:Int)])) []))->Q .normal a' w'):(Di 6).wp Tryz.prog Q a w:=by
 have a8:Di 6 = .region 6 Qa7 true:=by kernel_rfl
 have t6:tmv a 6 = .map (some b):=RdA.ex_inv (hR.tm 6 _ rfl);have t8:tmv a 8 = .int .i64 (i:Int):=RdA.int_inv (hR.tm 8 _ rfl);obtain ⟨ub,aq,t9⟩:=RdA.ptr_inv (hR.tm 9 _ rfl);obtain ⟨bl,ty,cs,fz,e1,e2,_,e4,e5⟩:=hR.hr.ob 9 (.box (.d (.int .i64 res)::c)) rfl;obtain rfl:ub=bl:=by rw [aq] at e1;injection e1
 have ax:w.cell? ⟨ub,0,none⟩=some (.int .i64 res):=by
  have h1:=RdA.int_inv (e5 0 _ rfl);have ao:0<cs.size:=by rw [e4];simp
  simp only [Array.getD,ao,dite_true] at h1;simp [World.cell?,e2,ao];exact h1
 have ay:(look (ER t rows f b N i ac (.d (.int .i64 res)::c)).h 9).isSome=true:=rfl;have bk:Qjk w b ub:=⟨HX hR ay aq,fun e=>hO.nO ub (.inl (.inl e)) 9 ay aq,fun h=>hO.nO ub (.inl (.inr h)) 9 ay aq⟩;rw [a8];refine QgQ QiH (QdT au) hn (hR.n) t6 t8 t9 ax bk bi (WalkArith.wf_i64 QoW) fun a' w' v zs ao bb a4 hat bh hG bg bj az aj ar=>?_
 have a5:Off β S (look (ER t rows f b N i ac (.d (.int .i64 res)::c)).h) w (Hg w b):=⟨fun k hk=>hO.lt k (.inl hk),fun k hk=>hO.nS k (.inl hk),fun k hk=>hO.nO k (.inl hk)⟩;have a6:Rel E β S (ER t rows f b N i ac (.d (.int .i64 res)::c)) a' w':=by
  refine Q9R hR a5 (fun k hk=>?_) (by rw [ao,hR.n];rfl) bb (fun t' av ht=>?_) bg bj az aj fun k hk a2=>ar k hk (.inr ⟨hk,fun e=>a2 (.inl e),fun h=>a2 (.inr h)⟩)
  ·rcases hk with rfl | hk
   ·exact .inr bc
   ·have:=(Q6g au hk).1;exact .inr QoW
  ·have hm:=Xg ht;simp only [ER,QdG,C7,Q8m,QrF,Prod.mk.injEq,QrD,or_false] at hm;have a9:t'<33:=QoW
   refine ⟨a4 t' (.inl a9),fun bp hg=>?_⟩;rcases hm with ⟨_,rfl⟩ | ⟨_,rfl⟩ | ⟨_,rfl⟩ | ⟨_,rfl⟩ | ⟨_,rfl⟩ | ⟨_,rfl⟩ | ⟨_,rfl⟩ | ⟨_,rfl⟩ | ⟨_,rfl⟩ | ⟨_,rfl⟩ <;> simp [gds,Ba] at hg
 have a3:∀ k,Q5c w' b k->w.heap.size<=k\/k=b\/Q5c w b k:=fun k hk=>by
  by_cases h1:w.heap.size<=k
  ·exact .inl h1
  ·by_cases h2:k=b
   ·exact .inr (.inl h2)
   ·by_cases h3:Q5c w b k
    ·exact .inr (.inr h3)
    ·obtain ⟨es,aw,hb,x,hx,hg⟩:=hk;exact absurd ⟨QoW,h2,h3⟩ (hG.shun es aw hb x hx k hg)
 have ak:∀ k,Hg w' b k\/Hh k->(w.heap.size<=k/\k<w'.heap.size)\/(Hg w b k\/Hh k):=fun k hk=>by
  rcases hk with (hk | hk) | hk
  ·exact .inr (.inl (.inl hk))
  ·rcases a3 k hk with h | h | h
   ·exact .inl ⟨h,(Q6g hG.own hk).2⟩
   ·exact .inr (.inl (.inl h))
   ·exact .inr (.inl (.inr h))
  ·exact .inr (.inr hk)
 refine hQ a' w' v zs a6 ⟨fun k hk=>?_,fun k hk hS=>?_,fun k hk l hs hb=>?_⟩ (fun k hk=>ar k (hO.lt k (.inr hk)) (.inl (hh k hk))) aj hat bh hG.own
 ·rcases ak k hk with h | h
  ·exact h.2
  ·exact QrB (hO.lt k h) aj
 ·rcases ak k hk with h | h
  ·have:=hR.hr.sb k hS;omega
  ·exact hO.nS k h hS
 ·rcases ak k hk with h | h
  ·have:=HX hR hs hb;omega
  ·exact hO.nO k h l hs hb
def onN (e:Exit) (st:St):oP St:=match e with
 |.normal=>some st
 |_=>none
theorem Q6C {e:Exit} {st r:St} (h:onN e st=some r):e = .normal/\st=r:=by
 cases e with
 |normal=>injection h with h;exact ⟨rfl,h⟩
 |_=>cases h
theorem Df {E:Env} {β:Nat->oP Nat} {S:Nat->Prop} {a:Act} {w:World} {st r:St} {c:Code} (h:HR Q8Q 0 c st onN=some r) (hR:Rel E β S st a w) {Hd:Nat->Prop} (hO:Off β S (look st.h) w Hd)
  (hp:∀ l,1000000<=l->(look r.h l).isSome=true->(look st.h l).isSome=true) {Q:Exit->Act->World->Prop}
  (hQ:∀ β' S' a' w',Rel E β' S' r a' w'->Off β' S' (look r.h) w' Hd->(∀ k,Hd k->w'.heap[k]? = w.heap[k]?)->w.heap.size<=w'.heap.size->Q .normal a' w'):c.wp Tryz.prog Q a w:=by
 refine wp_mono (Q9Q Bg h hR hO (fun e st' hk=>by obtain ⟨_,rfl⟩:=Q6C hk;exact hp)) fun e a' w' ⟨st',β',S',h1,h2,h3,h4,h5⟩=>?_
 obtain ⟨rfl,rfl⟩:=Q6C h2;exact hQ β' S' a' w' h1 h3 h4 h5.size
theorem QdC {E:Env} {β:Nat->oP Nat} {S:Nat->Prop} {a:Act} {w:World} {t:Int} {rows ac:List (List Go.Vx.D)} {f b:Nat} {N res:Int} {i:Nat} {c1 c2 c3 c4:Go.Vx.D} {Hd:Nat->Prop}
  (hR:Rel E β S (A5 t rows f b N i ac) a w) (hO:Off β S (look (A5 t rows f b N i ac).h) w Hd) (ao:rows[i]? = some [.int .i64 res,c1,c2,c3,c4]) {Q:Exit->Act->World->Prop}
  (hQ:∀ β' S' a' w',Rel E β' S' (ER t rows f b N i ac [.d (.int .i64 res),.d c1,.d c2,.d c3,.d c4]) a' w'->Off β' S' (look (ER t rows f b N i ac [.d (.int .i64 res),.d c1,.d c2,.d c3,.d c4]).h) w' Hd->(∀ k,Hd k->w'.heap[k]? = w.heap[k]?)->w.heap.size<=w'.heap.size->Q .normal a' w') :
  (Di 4).wp Tryz.prog Q a w:=by
 have hx:=Qf9 t f b rows ac N i onN;have ar:Q1 rows (i:Int)=some [.int .i64 res,c1,c2,c3,c4]:=by
  have h0:=QK (f:=fun x:List Go.Vx.D=>x) ao;rwa [List.map_id'] at h0
 rw [ar] at hx;refine Df hx hR hO (fun l hl hs=>?_) fun β' S' a' w' h1 h2 h3 h4=>hQ β' S' a' w' (h1.sub rfl (fun t' av ht=>⟨?_,fun _ _=>rfl⟩) (fun l o ho=>⟨ho,fun _ _=>rfl⟩)) h2 h3 h4
 ·have aj:(look [(9,Ob.box [.d (.int .i64 res),.d c1,.d c2,.d c3,.d c4]),(17,.arr 3 1 ac)] l).isSome=true:=hs;rw [Qx,Qx,QrK QoW,QrK QoW] at aj;cases aj
 ·have hm:=Xg ht;simp only [ER,QdG,C7,Q8m,QrF,Prod.mk.injEq,QrD,or_false] at hm;rcases hm with ⟨rfl,rfl⟩ | ⟨rfl,rfl⟩ | ⟨rfl,rfl⟩ | ⟨rfl,rfl⟩ | ⟨rfl,rfl⟩ | ⟨rfl,rfl⟩ | ⟨rfl,rfl⟩ | ⟨rfl,rfl⟩ | ⟨rfl,rfl⟩ | ⟨rfl,rfl⟩ <;> rfl
theorem QgE {E:Env} {β:Nat->oP Nat} {S:Nat->Prop} {a:Act} {w:World} {t:Int} {rows ac:List (List Go.Vx.D)} {f b:Nat} {N i:Int} {c:List AV} (hR:Rel E β S (ER t rows f b N i ac c) a w):Rel E β S (A5 t rows f b N i ac) a w:=by
 have ak:∀ l,l≠9->look (A5 t rows f b N i ac).h l=look (ER t rows f b N i ac c).h l:=fun l hl=>by
  show look (_::[]) l=look (_::_::[]) l;rw [Qx,Qx,Qx,QrK hl]
 refine hR.sub rfl (fun t' av ht=>?_) (fun l o ho=>?_)
 ·have hm:=Xg ht;simp only [A5,C7,Q8m,QrF,Prod.mk.injEq,QrD,or_false] at hm;rcases hm with ⟨rfl,rfl⟩ | ⟨rfl,rfl⟩ | ⟨rfl,rfl⟩ | ⟨rfl,rfl⟩ | ⟨rfl,rfl⟩ | ⟨rfl,rfl⟩ | ⟨rfl,rfl⟩ | ⟨rfl,rfl⟩ <;> refine ⟨rfl,fun l hn=>ak l (fun e=>?_)⟩ <;> subst e <;> simp [Zf,Jz] at hn
 ·have aj:look (A5 t rows f b N i ac).h l=some o:=ho;have hl:l=17:=by
   by_cases e:l=17
   ·exact e
   ·rw [show (A5 t rows f b N i ac).h=[(17,Ob.arr 3 1 ac)] from rfl,Qx,QrK e] at aj;cases aj
  subst hl;have:o = .arr 3 1 ac:=by injection aj with h;exact h.symm
  subst this;exact ⟨rfl,fun m hm=>by cases hm⟩
theorem Qdt {E:Env} {β:Nat->oP Nat} {S:Nat->Prop} {a:Act} {w:World} {t:Int} {rows ac:List (List Go.Vx.D)} {f b:Nat} {N:Int} {i:Nat} (hi:i<=1000000000) {Hd:Nat->Prop}
  (hR:Rel E β S (A5 t rows f b N i ac) a w) (hO:Off β S (look (A5 t rows f b N i ac).h) w Hd) {Q:Exit->Act->World->Prop}
  (hQ:∀ β' S' a' w',Rel E β' S' (A5 t rows f b N (i+1:Nat) ac) a' w'->Off β' S' (look (A5 t rows f b N (i+1:Nat) ac).h) w' Hd->(∀ k,Hd k->w'.heap[k]? = w.heap[k]?)->w.heap.size<=w'.heap.size->Q .normal a' w') :
  (Di 7).wp Tryz.prog Q a w:=by
 have hx:=QfS t f b rows ac N i onN;rw [Q1v QoW QoW,show ((i:Int)+1)=((i+1:Nat):Int) from rfl] at hx;refine Df hx hR hO (fun l hl hs=>hs) fun β' S' a' w' h1 h2 h3 h4=>hQ β' S' a' w' (h1.sub rfl (fun t' av ht=>⟨?_,fun _ _=>rfl⟩) (fun l o ho=>⟨ho,fun _ _=>rfl⟩)) h2 h3 h4
 have hm:=Xg ht;simp only [A5,C7,Q8m,QrF,Prod.mk.injEq,QrD,or_false] at hm;rcases hm with ⟨rfl,rfl⟩ | ⟨rfl,rfl⟩ | ⟨rfl,rfl⟩ | ⟨rfl,rfl⟩ | ⟨rfl,rfl⟩ | ⟨rfl,rfl⟩ | ⟨rfl,rfl⟩ | ⟨rfl,rfl⟩ <;> rfl
noncomputable def Q7P:Code:=cB (cB (cR (cL (cR (cR Pr)))))
theorem Q6E:Q7P = .seq (Di 3) (.seq (.cond (.tmp 21) .skip (.exit 0)) (.seq (.block 1 (.seq (Di 4) (.seq (Di 5) (Di 6)))) (Di 7))):=by kernel_rfl
def LI (E:Env) (t:Int) (rows:List (List Go.Vx.D)) (f b:Nat) (rs:List Int) (Hh:Nat->Prop) (ac:World) (i:Nat) (a:Act) (w:World):Prop:=
 ∃ β S D,Rel E β S (A5 t rows f b (rs.length:Nat) i (As rs i)) a w/\Off β S (look (A5 t rows f b (rs.length:Nat) i (As rs i)).h) w (fun k=>Hg w b k\/Hh k) /\
  w.ownsGroups Tryz.prog 3 (b+1) 3 .i64 b i D/\DOK rs i D/\(∀ k,Hh k->w.heap[k]? = ac.heap[k]?)
theorem Q4T {w w':World} {b:Nat} (h:w'.heap[b]? = w.heap[b]?) (k:Nat):Hg w' b k↔Hg w b k:=by unfold Hg Q5c;rw [h]
theorem Mi {w w':World} {b n:Nat} {D:DataW Unit} (h:w.ownsGroups Tryz.prog 3 (b+1) 3 .i64 b n D) (hk:∀ k,Hg w b k->w'.heap[k]? = w.heap[k]?):w'.ownsGroups Tryz.prog 3 (b+1) 3 .i64 b n D:=by
 obtain ⟨es,ac,hb,F,hs,rfl,az,ao,aw⟩:=h;have aj:∀ x∈es.toList,∀ zs,w.ownsInts (b+1) 3 .i64 x.val zs->w'.ownsInts (b+1) 3 .i64 x.val zs:=fun x hx zs ho=>by
  refine ⟨⟨ho.1.1,ho.1.2.imp id fun ⟨g,cap,ay,hv,h0,hg,r⟩=>⟨g,cap,ay,hv,h0,?_,r⟩⟩,ho.2⟩;rw [hk g (.inr ⟨es,ac,hb,x,hx,by rw [hv];rfl⟩)];exact hg
 have au:∀ x∈es.toList,∀ z,rowElem (H:=Unit) w (b+1) 3 .i64 x.val=some z->rowElem w' (b+1) 3 .i64 x.val=some z:=fun x hx z hz=>by
  obtain ⟨zs,ho,rfl⟩:=rowElem_inv hz;exact rowElem_mk (aj x hx zs ho)
 obtain ⟨F1,aq,_⟩:=F.stay au;refine ⟨es,ac,(hk b (.inl rfl)).trans hb,F1,hs,by rw [aq],az,fun x hx zs ho=>?_,aw⟩;obtain ⟨y,hy⟩:=F.reads x hx;obtain ⟨z,hz,_⟩:=WideElems.rd_val hy;obtain ⟨an,ak,_⟩:=rowElem_inv hz;rw [ho.unique (aj x hx an ak)];exact ao x hx an ak
theorem Q69 {β:Nat->oP Nat} {S:Nat->Prop} {h:Nat->oP Ob} {w w':World} {b:Nat} {Hh:Nat->Prop} (hO:Off β S h w' (fun k=>Hg w b k\/Hh k)) (hb:w'.heap[b]? = w.heap[b]?):Off β S h w' (fun k=>Hg w' b k\/Hh k):=
 ⟨fun k hk=>hO.lt k (hk.imp (Q4T hb k).1 id),fun k hk=>hO.nS k (hk.imp (Q4T hb k).1 id),fun k hk=>hO.nO k (hk.imp (Q4T hb k).1 id)⟩
theorem Qap {E:Env} {t:Int} {rows:List (List Go.Vx.D)} {f b:Nat} {rs:List Int} {Hh:Nat->Prop} {ay:World} {i:Nat} {a:Act} {w:World} (bc:Q6w rows=some rs) (hN:rs.length<=1000000000) (hh:∀ k,Hh k->k<b) (bl:E.w0.heap.size<=b)
  (h:LI E t rows f b rs Hh ay i a w) (hi:i<rs.length) {Q:Exit->Act->World->Prop}:Q7P.wp Tryz.prog (Exit.then (LI E t rows f b rs Hh ay (i+1)) Q) a w:=by
 obtain ⟨β,S,D,hR,hO,ac,hD,hH⟩:=h;obtain ⟨r,c1,c2,c3,c4,g1,g2,g3,g4⟩:=Q9t bc i (by rw [<- MQ bc];exact hi);have a9:(Lit.int .i64 r).wf=true:=WalkArith.wf_i64 QoW;rw [Q6E];refine wp_seq (Df (Qcl t f b rows (As rs i) (rs.length:Nat) i onN) hR hO (fun l hl hs=>hs) fun β1 S1 a1 w1 bg bq aj cc=>?_);refine wp_seq (wp_cond_true (by
  have:=RdA.bool_inv (bg.tm 21 _ rfl);rw [show a1.eval (.tmp 21)=tmv a1 21 from rfl,this];simp;omega) (wp_skip ?_))
 have a8:Rel E β1 S1 (A5 t rows f b (rs.length:Nat) i (As rs i)) a1 w1:=bg.sub rfl (fun t' av ht=>⟨F8 (pre:=[(21,.d (.bool (decide ((i:Int)<(rs.length:Nat)))))]) ht rfl,fun _ _=>rfl⟩) (fun l o ho=>⟨ho,fun _ _=>rfl⟩);have bm:=Mi ac (fun k hk=>aj k (.inl hk));refine wp_seq (wp_block (wp_seq (QdC a8 bq g1 fun β2 S2 a2 w2 bo bj ak b3=>?_)));have an:=Mi ac (fun k hk=>(ak k (.inl hk)).trans (aj k (.inl hk)));refine wp_seq (QfD bo bj (.inl (.inl rfl)) (QdT an) QoW a9 (by rw [Bz rs QoW];exact hi) (by rw [Bz rs QoW];omega) (QdD rs hi) fun β3 S3 a3 w3 v zs ax bb aw b0 hat bn=>?_);have bk:=Q8Z hD hat bn;subst bk;rw [<- g2,Q9m rs hi] at ax bb;have bp:w3.heap[b]? = w.heap[b]?:=(aw b (.inl (.inl rfl))).trans ((ak b (.inl (.inl rfl))).trans (aj b (.inl (.inl rfl))));have aq:=Mi ac (fun k hk=>(aw k (.inl hk)).trans ((ak k (.inl hk)).trans (aj k (.inl hk))));refine Qed ax (Q69 bb bp) hh bl aq QoW QoW (g2▸a9) fun a4 w4 v4 ca bv ar bx b9 a6 a7 ao=>?_
 have az:=Q8Z hD a6 a7;subst az;refine Qdt QoW (QgE bv) ⟨ar.lt,ar.nS,fun k hk l hs hb=>?_⟩ fun β5 S5 a5 w5 br bh au b6=>?_
 ·have hl:l=17:=by
   by_cases e:l=17
   ·exact e
   ·have ba:(look [(17,Ob.arr 3 1 (As rs (i+1)))] l).isSome=true:=hs;rw [Qx,QrK e] at ba;cases ba
  subst hl;exact ar.nO k hk 17 rfl hb
 ·exact ⟨β5,S5,_,br,Q69 bh (au b (.inl (.inl rfl))),Mi ao (fun k hk=>au k (.inl hk)),QbA hD,fun k hk=>(au k (.inr hk)).trans ((bx k hk).trans ((aw k (.inr hk)).trans ((ak k (.inr hk)).trans ((aj k (.inr hk)).trans (hH k hk)))))⟩
theorem Q0G {E:Env} {t:Int} {rows:List (List Go.Vx.D)} {f b:Nat} {rs:List Int} {Hh:Nat->Prop} {an:World} (ak:Q6w rows=some rs) (hN:rs.length<=1000000000) (hh:∀ k,Hh k->k<b) (ao:E.w0.heap.size<=b) {Q:Exit->Act->World->Prop}
  (hQ:∀ a' w',LI E t rows f b rs Hh an rs.length a' w'->Q (.exit 0) a' w'):∀ (m i:Nat) (a:Act) (w:World),i+m=rs.length->LI E t rows f b rs Hh an i a w->Code.rounds Tryz.prog Q7P Q (m+1) a w
 |0,i,a,w,au,h=>by
  obtain rfl:i=rs.length:=QoW
  rw [rounds_succ];obtain ⟨β,S,D,hR,hO,aj,hD,hH⟩:=h;rw [Q6E];refine wp_seq (Df (Qcl t f b rows (As rs rs.length) (rs.length:Nat) rs.length onN) hR hO (fun l hl hs=>hs) fun β1 S1 a1 w1 aq ar ac a5=>?_);refine wp_seq (wp_cond_false (by
   have:=RdA.bool_inv (aq.tm 21 _ rfl);rw [show a1.eval (.tmp 21)=tmv a1 21 from rfl,this];simp) (wp_exit (hQ a1 w1 ?_)))
  exact ⟨β1,S1,D,aq.sub rfl (fun t' av ht=>⟨F8 (pre:=[(21,.d (.bool (decide ((rs.length:Int)<(rs.length:Nat)))))]) ht rfl,fun _ _=>rfl⟩) (fun l o ho=>⟨ho,fun _ _=>rfl⟩),Q69 ar (ac b (.inl (.inl rfl))),Mi aj (fun k hk=>ac k (.inl hk)),hD,fun k hk=>(ac k (.inr hk)).trans (hH k hk)⟩
 |m+1,i,a,w,au,h=>by
  rw [rounds_succ];refine wp_mono (Qap (Q:=Q) ak hN hh ao h QoW) fun e a' w' hp=>?_
  cases e with
  |normal=>exact Q0G ak hN hh ao hQ m (i+1) a' w' QoW hp
  |_=>exact hp
theorem QbW {E:Env} {t:Int} {rows:List (List Go.Vx.D)} {f b:Nat} {rs:List Int} {Hh:Nat->Prop} {ac:World} (ak:Q6w rows=some rs) (hN:rs.length<=1000000000) (hh:∀ k,Hh k->k<b) (aj:E.w0.heap.size<=b) {Q:Exit->Act->World->Prop} {a:Act} {w:World}
  (h:LI E t rows f b rs Hh ac 0 a w) (hQ:∀ a' w',LI E t rows f b rs Hh ac rs.length a' w'->Q .normal a' w'):(Code.block 0 (.loop Q7P)).wp Tryz.prog Q a w:=
 wp_block (wp_loop_rounds (rs.length+1) (Q0G ak hN hh aj (fun a' w' hl=>hQ a' w' hl) rs.length 0 a w QoW h))
noncomputable def Q1i:Array Oper:=Qaw (Di 0)
theorem Qif:Di 0 = .region 0 Q1i false:=by kernel_rfl
theorem Qk7:OpAt Q1i 0 (some 14) (.makeMap 189 none):=BA (by kernel_rfl)
theorem QjQ:OpAt Q1i 1 (some 6) (.assign (.tmp 14)):=BA (by kernel_rfl)
theorem Qdy:Q1i.size=2:=by kernel_rfl
theorem QgK {Q:Exit->Act->World->Prop} {a:Act} {w:World} (ac:a.tmps.size=81)
  (hQ:∀ a',a'.tmps.size=81->a'.defers=a.defers->(∀ t,t≠14->t≠6->tmv a' t=tmv a t)->tmv a' 6 = .map (some w.heap.size)->Q .normal a' (w.alloc (.map #[] 0))):(Di 0).wp Tryz.prog Q a w:=by
 rw [Qif];refine wp_region ?_;rw [Qdy,show List.range 2=[0,1] from rfl,wpOps_cons];refine Hw Qk7 (v:=.map (some w.heap.size)) (w':=w.alloc (.map #[] 0)) (fun o h=>?_) ?_
 ·unfold execOp;rw [h];rfl
 rw [wpOps_cons];have e1:∀ t,tmv (a.put (some 14) (.map (some w.heap.size))) t=if t=14 then .map (some w.heap.size) else tmv a t:=fun t=>L7 (by rw [ac];omega) t
 have s1:(a.put (some 14) (.map (some w.heap.size))).tmps.size=81:=by simp [Act.put,ac]
 refine Hw QjQ (v:=.map (some w.heap.size)) (w':=w.alloc (.map #[] 0)) (fun o h=>?_) ?_
 ·unfold execOp;rw [h];have aj:(a.put (some 14) (.map (some w.heap.size))).eval (.tmp 14) = .map (some w.heap.size):=by rw [CP,e1,if_pos rfl]
  simp [aj]
 have e2:∀ t,tmv ((a.put (some 14) (.map (some w.heap.size))).put (some 6) (.map (some w.heap.size))) t=if t=6 then .map (some w.heap.size) else tmv (a.put (some 14) (.map (some w.heap.size))) t:=fun t=>L7 (by rw [s1];omega) t
 refine hQ _ (by simp [Act.put,ac]) rfl (fun t h1 h2=>?_) ?_
 ·rw [e2,QrK h2,e1,QrK h1]
 ·rw [e2,if_pos rfl]
theorem Qjn {β β':Nat->oP Nat} {S S':Nat->Prop} {h h':Nat->oP Ob} {w w':World} {tm tm':Nat->Value} {v:Value} {f l:Nat} (hb:β' l=β l) (hv:RdA β S h w tm v (.fn f [.ptr l 0])):RdA β' S' h' w' tm' v (.fn f [.ptr l 0]):=by
 cases hv with
 |fn _ cs _ hl hr=>
  refine .fn f cs _ hl fun i x hx=>?_
  have ac:=hr i x hx
  match i,hx with
  |0,hx=>
   simp only [Qrv,Option.some.injEq] at hx;subst hx;obtain ⟨b,h1,h2⟩:=RdA.ptr_inv ac;rw [h2];exact .ptr l 0 b (hb.trans h1)
 |dang _ _ l hl=>simp [Sz] at hl
theorem HRel.bare {E:Env} {β:Nat->oP Nat} {S:Nat->Prop} {h:Nat->oP Ob} {w:World} (hr:HRel E β S h w):HRel E β S (look ([]:List (Nat×Ob))) w where
 ob:=fun l o ho=>by cases ho
 inj:=fun l l' b h1=>by cases h1
 apart:=fun l b h1=>by cases h1
 own:=fun l b h1=>by cases h1
 sb:=hr.sb
 sfr:=hr.sfr
 s0:=hr.s0
 fr:=hr.fr
 pin:=hr.pin
 psz:=fun l b hl h1=>by cases h1
def QeY (β:Nat->oP Nat) (H:List (Nat×Ob)) (k:Nat):Prop:=∃ l,(look H l).isSome=true/\β l=some k
def QdM (t:Int) (rows:List (List Go.Vx.D)) (f:Nat):List AV:=[.d (.int .i64 t),.d (.sl 5 rows),.fn f [.ptr 1000000 0]]
theorem Q8L {E:Env} {β:Nat->oP Nat} {S:Nat->Prop} {a:Act} {w:World} {t:Int} {rows:List (List Go.Vx.D)} {f:Nat} {H:List (Nat×Ob)} {rs:List Int} (ay:Q6w rows=some rs) (hN:rs.length<=1000000000)
  (bj:E.w0=w) (hR:Rel E β S ⟨81,Q1S 0 (QdM t rows f),H⟩ a w) {c:Code} {Q:Exit->Act->World->Prop}
  (hQ:∀ a' w',LI E t rows f w.heap.size rs (QeY β H) w rs.length a' w'->c.wp Tryz.prog Q a' w'):(Code.seq (Di 0) (.seq (Di 1) (.seq (.seq (Di 2) (.block 0 (.loop Q7P))) c))).wp Tryz.prog Q a w:=by
 have ao:=MQ ay;have bc:Rel E β S ⟨81,[(0,.d (.int .i64 t)),(1,.d (.sl 5 rows)),(2,.fn f [.ptr 1000000 0])],[]⟩ a w:=by
  refine ⟨hR.n,hR.dfr,fun t' av ht=>?_,hR.hr.bare⟩;have hm:=Xg ht;simp only [QrF,Prod.mk.injEq,QrD,or_false] at hm;rcases hm with ⟨rfl,rfl⟩ | ⟨rfl,rfl⟩ | ⟨rfl,rfl⟩
  ·exact (hR.tm 0 (.d (.int .i64 t)) rfl).mono (fun _ h=>h) (fun _ _=>rfl) (fun l hl=>by simp [Zf] at hl) (fun _ _=>rfl)
  ·exact (hR.tm 1 (.d (.sl 5 rows)) rfl).mono (fun _ h=>h) (fun _ _=>rfl) (fun l hl=>by simp [Zf] at hl) (fun _ _=>rfl)
  ·exact Qjn rfl (hR.tm 2 (.fn f [.ptr 1000000 0]) rfl)
 have ak:Off β S (look ([]:List (Nat×Ob))) w (QeY β H):=⟨fun b ⟨l,h1,h2⟩=>HX hR h1 h2,fun b ⟨l,h1,h2⟩=>hR.hr.apart l b h1 h2,fun b _ l h1=>by cases h1⟩;refine wp_seq (QgK hR.n fun a1 z1 z2 z3 z4=>?_);have an:∀ k,k<w.heap.size->(w.alloc (.map #[] 0)).heap[k]? = w.heap[k]?:=fun k hk=>Yk w _ hk
 have a7:(w.alloc (.map #[] 0)).heap.size=w.heap.size+1:=by simp
 have au:=World.ownsGroups_made (H:=Unit) w Tryz.prog 3 3 .i64;have a5:(w.alloc (.map #[] 0)).heap[w.heap.size]? = some (.map #[] 0):=(MapKept.heap_alloc w _).1;have a4:∀ k,Hg (w.alloc (.map #[] 0)) w.heap.size k->k=w.heap.size:=fun k hk=>by
  rcases hk with h | ⟨es,bg,hb,x,hx,_⟩
  ·exact h
  ·rw [a5] at hb;injection hb with hb
   injection hb with hb1 hb2
   subst hb1;simp at hx
 have bl:Rel E β S ⟨81,Q8m t rows f w.heap.size [],[]⟩ a1 (w.alloc (.map #[] 0)):=by
  have h0:=Q9R (a':=a1) (w':=w.alloc (.map #[] 0)) (Hd:=fun _=>False) bc ⟨fun b h=>h.elim,fun b h=>h.elim,fun b h=>h.elim⟩ (fun b h=>h.elim) (by rw [z1,hR.n]) z2 (fun t' av ht=>?_) rfl rfl rfl (by rw [a7];omega) (fun k hk _=>an k hk)
  ·refine ⟨h0.n,h0.dfr,fun t' av ht=>?_,h0.hr⟩;have aq:look (Q8m t rows f w.heap.size []) t'=some av:=ht;have hm:=Xg aq;simp only [Q8m,QrF,Prod.mk.injEq,QrD,or_false] at hm;rcases hm with ⟨rfl,rfl⟩ | ⟨rfl,rfl⟩ | ⟨rfl,rfl⟩ | ⟨rfl,rfl⟩
   ·exact h0.tm 0 _ rfl
   ·exact h0.tm 1 _ rfl
   ·exact h0.tm 2 _ rfl
   ·rw [z4];exact .ex _
  ·have hm:=Xg ht;simp only [QrF,Prod.mk.injEq,QrD,or_false] at hm;rcases hm with ⟨rfl,rfl⟩ | ⟨rfl,rfl⟩ | ⟨rfl,rfl⟩ <;> refine ⟨z3 _ QoW QoW,fun bq hg=>by simp [gds,Ba] at hg⟩
 have a8:Off β S (look ([]:List (Nat×Ob))) (w.alloc (.map #[] 0)) (fun k=>Hg (w.alloc (.map #[] 0)) w.heap.size k\/QeY β H k):=by
  refine ⟨fun k hk=>?_,fun k hk hS=>?_,fun k hk l h1=>by cases h1⟩
  ·rcases hk with hk | hk
   ·have:=a4 k hk;omega
   ·have:=ak.lt k hk;omega
  ·rcases hk with hk | hk
   ·have:=a4 k hk;have:=hR.hr.sb k hS;omega
   ·exact ak.nS k hk hS
 have a6:=QfT t f w.heap.size rows onN;rw [<- ao,show (bif decide (0<=((List.length rs:Nat):Int))&&decide (((List.length rs:Nat):Int)<=((List.length rs:Nat):Int)) then some () else none)=some () by
  rw [decide_eq_true QoW,decide_eq_true QoW];rfl,Q0,show Y1 (Int.toNat ((List.length rs:Nat):Int)*8)=some () by
  rw [Int.toNat_natCast];exact Qeg QoW,Q0,Int.toNat_natCast] at a6
 refine wp_seq (Df a6 bl a8 (fun l hl hs=>?_) fun β2 S2 a2 w2 bk bh a9 b1=>?_)
 ·have aw:(look [(17,Ob.arr 3 1 (List.replicate rs.length [Go.Vx.D.int .i64 0]))] l).isSome=true:=hs;rw [Qx,QrK QoW] at aw;cases aw
 have az:Rel E β2 S2 ⟨81,C7 t rows f w.heap.size [],[(17,.arr 3 1 (List.replicate rs.length [Go.Vx.D.int .i64 0]))]⟩ a2 w2:=by
  refine bk.sub rfl (fun t' av ht=>⟨?_,fun _ _=>rfl⟩) (fun l o ho=>⟨ho,fun _ _=>rfl⟩);have aq:look (C7 t rows f w.heap.size []) t'=some av:=ht;have hm:=Xg aq;simp only [C7,Q8m,QrF,Prod.mk.injEq,QrD,or_false] at hm;rcases hm with ⟨rfl,rfl⟩ | ⟨rfl,rfl⟩ | ⟨rfl,rfl⟩ | ⟨rfl,rfl⟩ | ⟨rfl,rfl⟩ <;> rfl
 have ax:=Qfz t f w.heap.size rows (List.replicate rs.length [Go.Vx.D.int .i64 0]) onN;rw [<- ao] at ax;refine wp_seq (wp_seq (Df ax az bh (fun l hl hs=>hs) fun β3 S3 a3 w3 ba bb bi bo=>?_));have ac:∀ k,Hg (w.alloc (.map #[] 0)) w.heap.size k\/QeY β H k->w3.heap[k]? = (w.alloc (.map #[] 0)).heap[k]?:=fun k hk=>(bi k hk).trans (a9 k hk)
 refine QbW ay hN (fun k hk=>ak.lt k hk) (by rw [bj];exact QrL _) ⟨β3,S3,.map [],?_,?_,Mi au (fun k hk=>ac k (.inl hk)),Qc6 rs,fun k hk=>(ac k (.inr hk)).trans (an k (ak.lt k hk))⟩ (fun a' w' hl=>hQ a' w' hl)
 ·rw [Q3I];refine ba.sub rfl (fun t' av ht=>⟨?_,fun _ _=>rfl⟩) (fun l o ho=>⟨ho,fun _ _=>rfl⟩);have hm:=Xg ht;simp only [A5,C7,Q8m,QrF,Prod.mk.injEq,QrD,or_false] at hm;rcases hm with ⟨rfl,rfl⟩ | ⟨rfl,rfl⟩ | ⟨rfl,rfl⟩ | ⟨rfl,rfl⟩ | ⟨rfl,rfl⟩ | ⟨rfl,rfl⟩ | ⟨rfl,rfl⟩ | ⟨rfl,rfl⟩ <;> rfl
 ·rw [Q3I];exact Q69 bb (ac _ (.inl (.inl rfl)))
def QiK:AV->Bool
 |.d _=>true
 |.nil=>true
 |.arr l=>Nat.ble 1000000 l
 |_=>false
def QjF:Ob->Bool
 |.box cs=>cs.all QiK
 |.arr ..=>true
 |.mp ..=>false
def Qig (H:List (Nat×Ob)):Bool:=H.all fun p=>Nat.ble 1000000 p.1&&QjF p.2
theorem Q7C {x:AV} (h:QiK x=true) {l:Nat} (hn:Zf l x=true):1000000<=l:=by
 cases x <;> simp [QiK,Zf] at h hn;omega
theorem QaN {H:List (Nat×Ob)} (h:Qig H=true) {l:Nat} {o:Ob} (ho:look H l=some o):1000000<=l/\QjF o=true:=by
 have:=List.all_eq_true.1 h (l,o) (Xg ho);simp only [QrA] at this;exact ⟨Qrz this.1,this.2⟩
theorem Qee {S:Nat->Prop} {w:World} {base:Nat} {v:Value} {zs:List Int} (h:w.ownsInts base 3 .i64 v zs) (hS:∀ g,v.ownBlock=some g->S g):Rd S w v (.sl 1 (zs.map fun z=>[.int .i64 z])):=by
 rcases h.1.2 with ⟨rfl,h0⟩ | ⟨g,cap,ak,rfl,_,hg,au,_,ax,ar⟩
 ·rw [List.length_eq_zero_iff.1 h0];exact .sl0 _ _ _
 ·have ac:(zs.map fun z=>[Go.Vx.D.int .i64 z]).length=zs.length:=List.length_map ..;have ao:∀ (i j:Nat) (r:List Go.Vx.D) (x:Go.Vx.D),(zs.map fun z=>[Go.Vx.D.int .i64 z])[i]? = some r->r[j]? = some x->j=0/\∃ z,zs[i]? = some z/\x = .int .i64 z:=fun i j r x hr hx=>by
   rw [QrR] at hr;obtain ⟨z,hz,rfl⟩:=QrC.1 hr
   match j,hx with
   |0,hx=>simp only [Qrv,Option.some.injEq] at hx;exact ⟨rfl,z,hz,hx.symm⟩
  have:=Rd.sl (S:=S) (w:=w) ⟨g,0,none⟩ cap 1 (zs.map fun z=>[Go.Vx.D.int .i64 z]) (fun i j=>.int .i64 (zs.getD i 0)) (hS g rfl) (by rw [ac];exact au) (fun i r hr=>by
   rw [QrR] at hr;obtain ⟨z,hz,rfl⟩:=QrC.1 hr;rfl) (fun i j r x hr hx=>by
   obtain ⟨rfl,z,hz,rfl⟩:=ao i j r x hr hx;have hi:i<zs.length:=(Qrw.1 hz).1;rw [G4];have h2:(ak.toList.take (zs.length*1))[i]? = some (.int .i64 z):=by rw [ar,QrR,hz];rfl
   rw [QrQ,if_pos QoW,QrE] at h2;have an:zs.getD i 0=z:=by rw [List.getD_eq_getElem?_getD,hz];rfl
   rw [an];have aq:i<ak.size:=(Qrx.1 h2).1;have h3:ak[i] = .int .i64 z:=(Qrx.1 h2).2;simp [World.cell?,hg,aq,h3]) (fun i j r x hr hx=>by
   obtain ⟨rfl,z,hz,rfl⟩:=ao i j r x hr hx;have an:zs.getD i 0=z:=by rw [List.getD_eq_getElem?_getD,hz];rfl
   rw [an];exact .int _ _)
  rw [ac] at this;exact this
theorem Qhh {v:Value} {l:Lit} (h:keyOf Tryz.prog 3 v=some l):∃ m,v = .int .i64 m/\(Lit.int .i64 m).wf=true:=by
 simp only [keyOf,QrH,mapKey] at h;cases v <;> simp at h;rename_i k m;exact ⟨m,by rw [h.1.1],h.1.2⟩
theorem Bw {n:Int} {v:Value}:∀ {es:List MapEntry},Jq es n=some v->∃ e∈es,e.val=v/\e.key = .int .i64 n
 |e::r,h=>by
  simp only [Jq] at h;split at h
  ·split at h
   ·rename_i hk hm;injection h with h;subst hm;exact ⟨e,List.mem_cons_self ..,h,hk⟩
   ·obtain ⟨x,hx,hv⟩:=Bw h;exact ⟨x,List.mem_cons_of_mem _ hx,hv⟩
  ·obtain ⟨x,hx,hv⟩:=Bw h;exact ⟨x,List.mem_cons_of_mem _ hx,hv⟩
theorem Qha {S:Nat->Prop} {w:World} {b:Nat} {rs:List Int} {D:DataW Unit} (ak:w.ownsGroups Tryz.prog 3 (b+1) 3 .i64 b rs.length D) (hD:DOK rs rs.length D) (hN:rs.length<=1000000000) (a2:∀ j,j<rs.length -> -9223372036854775808<=rs.getD j 0/\rs.getD j 0<=9223372036854775807) (hS:∀ k,Hg w b k->S k):Q8e S w (.map (some b)) (Q4R rs):=by
 have au:∃ es ac,w.heap[b]? = some (.map es ac)/\∀ e∈es.toList,∃ m,e.key = .int .i64 m/\(Lit.int .i64 m).wf=true:=by
  obtain ⟨es,ac,hb,F,hs,_⟩:=ak;refine ⟨es,ac,hb,fun e he=>?_⟩;obtain ⟨y,hy⟩:=F.reads e he;exact Qhh (WideElems.rd_key hy)
 obtain ⟨es,ac,hb,hk⟩:=au;have ar:∀ e∈es.toList,∃ m,e.key = .int .i64 m:=fun e he=>(hk e he).imp fun m h=>h.1
 have one:∀ n:Int,(Lit.int .i64 n).wf=true->∃ zs,w.ownsInts (b+1) 3 .i64 ((Jq es.toList n).getD (.slice none 0 0)) zs/\zs=Q0w rs rs.length n:=fun n hn=>by
  obtain ⟨v,zs,h1,h2,h3,_⟩:=(QdT ak).lookup hN hn;have hv:=h1 w rfl;rw [Q2m hb ar] at hv;injection hv with hv
  exact ⟨zs,hv▸h3,Q8Z hD h2 h3⟩
 refine ⟨b,es,ac,rfl,hS b (.inl rfl),hb,ar,fun n hn=>?_,fun n v' hv=>?_⟩
 ·by_cases aq:(Lit.int .i64 n).wf=true
  ·obtain ⟨zs,h1,h2⟩:=one n aq;rw [hn] at h1;have h0:zs=[]:=h1.unique (World.ownsInts_nil _ _ _ _);unfold Q4R;rw [<- h2,h0];rfl
  ·have hg:Q0w rs rs.length n=[]:=by
    unfold Q0w;rw [List.map_eq_nil_iff,List.filter_eq_nil_iff];intro j hj he;have a4:j<rs.length:=by simpa using hj
    obtain ⟨h1,h2⟩:=a2 j a4;have a6:rs.getD j 0=n:=by simpa using he
    exact aq (WalkArith.wf_i64 QoW)
   unfold Q4R;rw [hg];rfl
 ·obtain ⟨e,he,ay,az⟩:=Bw hv;obtain ⟨m,aw,a3⟩:=hk e he;have:m=n:=by rw [az] at aw;injection aw with _ h;exact h.symm
  subst this;obtain ⟨zs,h1,h2⟩:=one m a3;rw [hv] at h1;unfold Q4R;rw [<- h2];exact Qee h1 (fun g hg=>hS g (.inr ⟨es,ac,hb,e,he,by rw [ay];exact hg⟩))
theorem QfL {β:Nat->oP Nat} {S S':Nat->Prop} {h:Nat->oP Ob} {w:World} {tm:Nat->Value} {v:Value} {l e s:Nat} {rows:List (List Go.Vx.D)} (hv:RdA β S h w tm v (.arr l)) (hh:h l=some (.arr e s rows)) (ax:ObR β S h w l (.arr e s rows)) (hS:∀ k,S k->S' k) (hl:∀ k,β l=some k->S' k):Rd S' w v (.sl s rows):=by
 cases hv with
 |mp _ b t' f' hb ac=>
  rw [hh] at ac;cases ac
 |arr0 _ e' s' hb ac=>
  rw [hh] at ac;injection ac with ac
  injection ac with h1 h2 h3
  subst h3;exact .sl0 _ _ _
 |arr _ b cap e' s' aw cs ty fz hb ac hw a5 aq a2=>
  rw [hh] at ac;injection ac with ac
  injection ac with h1 h2 h3
  subst h1 h2 h3;rcases ax with ⟨h0,_⟩ | ⟨b',a4,ak,aj,a7,ay,ao⟩
  ·rw [hb] at h0;cases h0
  ·rw [hb] at ak;injection ak with ak
   subst ak;rw [hw] at aj;injection aj with aj
   injection aj with hw1 hw2 hw3
   subst hw1;refine .sl ⟨b,0,none⟩ cap s rows (fun i j=>cs.getD (i*s+j) undef) (hl b hb) aq ay (fun i j r x hr hx=>?_) (fun i j r x hr hx=>?_)
   ·obtain ⟨u,hu,_⟩:=ao i j r x hr hx;rw [G4];have an:i*s+j<cs.size:=(Qrx.1 hu).1;simp [World.cell?,hw,an]
   ·obtain ⟨u,hu,az⟩:=ao i j r x hr hx;have an:i*s+j<cs.size:=(Qrx.1 hu).1;have h3:cs[i*s+j]=u:=(Qrx.1 hu).2;have:cs.getD (i*s+j) undef=u:=by simp [Array.getD,an,h3]
    rw [this];exact az.mono hS (fun _ _=>rfl)
 |dang _ _ l' ar ac=>
  simp only [Sz,Option.some.injEq] at ar;subst ar;rw [hh] at ac;cases ac
theorem QdP {E:Env} {β:Nat->oP Nat} {S:Nat->Prop} {a a':Act} {w w':World} {t:Int} {rows:List (List Go.Vx.D)} {f:Nat} {H:List (Nat×Ob)} {rs:List Int} {ak:St} (a7:Q6w rows=some rs) (hN:rs.length<=1000000000) (ar:Qig H=true)
  (hE:E=⟨w,fun b=>∃ l,(look H l).isSome=true/\β l=some b,S,β⟩) (bc:ak.h=H) (hR:Rel E β S ak a w) (h:LI E t rows f w.heap.size rs (QeY β H) w rs.length a' w') :
  Kv E ⟨81,[(0,.d (.int .i64 t)),(1,.d (.sl 5 rows)),(2,.fn f [.ptr 1000000 0]),(6,.mpd (Q4R rs)),(7,.d (.sl 1 (As rs rs.length)))],H⟩ a' w':=by
 subst bc;obtain ⟨β',S',D,aj,hO,an,hD,hH⟩:=h;have ac:∀ l,1000000<=l->β' l=β l:=fun l hl=>by have:=aj.hr.pin l hl;rw [hE] at this;exact this
 have aq:E.w0=w:=by rw [hE]
 have az:∀ k,S k->S' k:=fun k hk=>aj.hr.s0 k (by rw [hE];exact hk)
 have a4:(look (A5 t rows f w.heap.size (rs.length:Nat) (rs.length:Nat) (As rs rs.length)).h 17)=some (.arr 3 1 (As rs rs.length)):=rfl;have bi:∀ j,j<rs.length -> -9223372036854775808<=rs.getD j 0/\rs.getD j 0<=9223372036854775807:=fun j hj=>by
  obtain ⟨r,_,_,_,_,_,g2,g3,g4⟩:=Q9t a7 j (by rw [<- MQ a7];exact hj);rw [g2];exact ⟨g3,g4⟩
 refine ⟨β',fun k=>S' k\/Hg w' w.heap.size k\/β' 17=some k,aj.n,aj.dfr,fun t' av ht=>?_,?_⟩
 ·have hm:=Xg ht;simp only [QrF,Prod.mk.injEq,QrD,or_false] at hm;rcases hm with ⟨rfl,rfl⟩ | ⟨rfl,rfl⟩ | ⟨rfl,rfl⟩ | ⟨rfl,rfl⟩ | ⟨rfl,rfl⟩
  ·exact (aj.tm 0 (.d (.int .i64 t)) rfl).mono (fun _ h=>.inl h) (fun _ _=>rfl) (fun l hl=>by simp [Zf] at hl) (fun _ _=>rfl)
  ·exact (aj.tm 1 (.d (.sl 5 rows)) rfl).mono (fun _ h=>.inl h) (fun _ _=>rfl) (fun l hl=>by simp [Zf] at hl) (fun _ _=>rfl)
  ·exact Qjn rfl (aj.tm 2 (.fn f [.ptr 1000000 0]) rfl)
  ·rw [show tmv a' 6 = .map (some w.heap.size) from RdA.ex_inv (aj.tm 6 _ rfl)];exact .mpd _ _ (Qha an hD hN bi (fun k hk=>.inr (.inl hk)))
  ·exact .d _ _ (QfL (aj.tm 7 (.arr 17) rfl) a4 (aj.hr.ob 17 _ a4) (fun k hk=>.inl hk) (fun k hk=>.inr (.inr hk)))
 ·have au:∀ l,1000000<=l->Keep β (look ak.h) w β' (look ak.h) w' l:=fun l hl=>⟨ac l hl,id,fun e s rows h0=>.inr ⟨rows,h0,rfl⟩,fun b cs ty fz hs hb hw=>⟨cs,ty,fz,(hH b ⟨l,hs,hb⟩).trans hw,rfl⟩,fun t f h0=>.inr ⟨f,h0⟩⟩
  have ax:∀ k,S k->w'.heap[k]? = w.heap[k]?:=fun k hk=>by
   have a6:=aj.hr.fr.block k (by rw [aq];exact hR.hr.sb k hk) (fun hM=>by
    rw [hE] at hM;obtain ⟨l,h1,h2⟩:=hM;exact hR.hr.apart l k h1 h2 hk)
   rw [aq] at a6;exact a6
  have ao:∀ l,(look ak.h l).isSome=true->1000000<=l:=fun l hl=>by
   obtain ⟨o,ho⟩:=Option.isSome_iff_exists.1 hl;exact (QaN ar ho).1
  refine ⟨fun l o ho=>?_,fun l l' b h1 h2 h3 h4=>?_,fun l b h1 h2 hS=>?_,fun l b h1 h2=>?_,fun b hS=>?_,fun b hS=>?_,fun b hb=>.inl (aj.hr.s0 b hb),aj.hr.fr,aj.hr.pin,fun l b hl hs hb cs ty fz hw=>?_⟩
  ·obtain ⟨hl,a3⟩:=QaN ar ho;have ay:=hR.hr.ob l o ho;cases o with
   |mp t f=>cases a3
   |box cells=>
    obtain ⟨b,ty,cs,fz,g1,g2,g3,g4,g5⟩:=ay;refine ⟨b,ty,cs,fz,(ac l hl).trans g1,(hH b ⟨l,by rw [ho];rfl,g1⟩).trans g2,g3,g4,fun i x hx=>(g5 i x hx).mono (fun k hk=>.inl (az k hk)) ax (fun m hm=>au m ?_) (fun _ _=>rfl)⟩;exact Q7C (List.all_eq_true.1 a3 x (Qry hx)) hm
   |arr e s bh=>
    rcases ay with ⟨g1,g2⟩ | ⟨b,cs,g1,g2,g3,g4,g5⟩
    ·exact .inl ⟨(ac l hl).trans g1,g2⟩
    ·refine .inr ⟨b,cs,(ac l hl).trans g1,(hH b ⟨l,by rw [ho];rfl,g1⟩).trans g2,g3,g4,fun i j r x hr hx=>?_⟩;obtain ⟨v,q1,q2⟩:=g5 i j r x hr hx;exact ⟨v,q1,q2.mono (fun k hk=>.inl (az k hk)) ax⟩
  ·exact hR.hr.inj l l' b h1 h2 ((ac l (ao l h1)).symm.trans h3) ((ac l' (ao l' h2)).symm.trans h4)
  ·have hh:QeY β ak.h b:=⟨l,h1,(ac l (ao l h1)).symm.trans h2⟩;rcases hS with hS | hS | hS
   ·exact hO.nS b (.inr hh) hS
   ·have bn:b<w.heap.size:=HX hR h1 ((ac l (ao l h1)).symm.trans h2);rcases hS with hS | hS
    ·omega
    ·have:=(Q6g an hS).1;omega
   ·exact hO.nO b (.inr hh) 17 rfl hS
  ·refine .inl ?_;rw [hE];exact ⟨l,h1,(ac l (ao l h1)).symm.trans h2⟩
  ·rcases hS with hS | hS | hS
   ·exact aj.hr.sb b hS
   ·exact hO.lt b (.inl hS)
   ·exact HX aj (l:=17) rfl hS
  ·rcases hS with hS | hS | hS
   ·exact aj.hr.sfr b hS
   ·refine .inr (.inr ?_);rw [aq];rcases hS with hS | hS
    ·omega
    ·have:=(Q6g an hS).1;omega
   ·exact .inr (aj.hr.own 17 b rfl hS)
  ·rw [aq] at hw;exact ⟨cs,ty,fz,(hH b ⟨l,hs,(ac l hl).symm.trans hb⟩).trans hw,rfl⟩
theorem Q7H:Pr = .seq (Di 0) (.seq (Di 1) (.seq (.seq (Di 2) (.block 0 (.loop Q7P))) (cR (cR (cR Pr))))):=by kernel_rfl
theorem Q8H {C:VC} (hC:VCOk Tryz.prog C) {n:Nat} {t:Int} {rows:List (List Go.Vx.D)} {f:Nat} {H:List (Nat×Ob)} {R:Type} {K:AV->List (Nat×Ob)->oP R} {res:R} (aj:Qig H=true)
  (h:(Q4s rows fun G p=>HR C n (cR (cR (cR (WQ Tryz.f49)))) ⟨81,[(0,.d (.int .i64 t)),(1,.d (.sl 5 rows)),(2,.fn f [.ptr 1000000 0]),(6,.mpd G),(7,.d (.sl 1 p))],H⟩ (fnK C.tt Tryz.f49 K))=some res)
  {β:Nat->oP Nat} {S:Nat->Prop} {w:World} {vs:List Value} (hO:Objs β S (look H) w) (hA:ArgsRd β S (look H) w vs [.d (.int .i64 t),.d (.sl 5 rows),.fn f [.ptr 1000000 0]]):Calls Tryz.prog 49 vs.toArray w (Sr H K res β S w):=by
 unfold Q4s at h;split at h
 rotate_left
 ·cases h
 rename_i rs ac;cases hb:Nat.ble rs.length 1000000000 with
 |false=>simp [hb] at h
 |true=>
  simp only [hb,cond_true] at h;have hN:=Qrz hb;refine CG hC (fn:=Tryz.f49) (c:=Pr) (by kernel_rfl) (by kernel_rfl) (by kernel_rfl) (fun a hR=>?_) hO hA;rw [Q7H];refine Q8L (t:=t) (rows:=rows) (f:=f) ac hN rfl hR fun a' w' hl=>?_
  exact MS hC n _ _ _ res h a' w' (QdP ac hN aj rfl rfl hR hl)
end Go.Vx
set_option maxRecDepth 100000
namespace Go.Vx
open Go.Proofs
abbrev vzS:List Sp:=[sI,sL 5,eF 50 1,eP 1000000 1,sB]
abbrev vzR:List Sp:=[eT 0,eI 1000000 1,sB]
def vzP (n:Nat):LF (lts vzS) (oP (HT (lts vzR))):=fun (a0:Int) (a1:LL) (b:Bool)=>Uc n a0 a1 b some
noncomputable def vg0:Code:=cA [1,1,1] (WQ Tryz.f49)
noncomputable def vg1:Code:=cA [1,1,1,1,2,2] (WQ Tryz.f49)
noncomputable def vg2:Code:=cA [1,1,1,1,2,2,1,1,0,2,1,1,2,2] (WQ Tryz.f49)
noncomputable def vg3:Code:=cA [1,1,1,1,2,2,1,1,1] (WQ Tryz.f49)
def vz1 (a0:Int) (a1:LL) (G:Int->LL) (p:LL) (w2 h9:Int) (b:Bool) (l:List (Nat×AV)):St:=⟨81,[(0,dI a0),(1,dL 5 a1),(2,.fn 50 [.ptr 1000000 0]),(6,.mpd G),(7,dL 1 p),(44,dL 5 a1),(45,dI w2),(46,dI h9)]++l,[(1000000,.box [dB b])]⟩
def vz3 (a0:Int) (a1:LL) (G:Int->LL) (p:LL) (h9 w2:Int) (ak:LL) (ac aj:Int) (c1 c2 c3 c4 c5:D) (b:Bool) (l:List (Nat×AV)):St:=⟨81,[(0,dI a0),(1,dL 5 a1),(2,.fn 50 [.ptr 1000000 0]),(6,.mpd G),(7,dL 1 p),(10,dI h9),(11,.ptr 11 0),(44,dL 5 a1),(45,dI w2),(46,dI h9),(59,dL 1 ak),(60,dI ac),(61,dI aj)]++l,[(11,.box [.d c1,.d c2,.d c3,.d c4,.d c5]),(1000000,.box [dB b])]⟩
noncomputable def vgC (n:Nat):VC:=(Xa [⟨85,HB n⟩] [cK 0 [0,1,2,6],cK 1 [0,1,2,6,7],cK 2 [0,1,2,6,7,18,19,20],cK 3 [0,1,2,6,7,18,19,20,21],cK 4 [0,1,2,6,7,8,9,18,19,20],cK 5 [0,1,2,6,7,8,9,18,19,20],cK 6 [0,1,2,6,7,18,19,20],cK 7 [0,1,2,6,7,18,19,20],cO 8 [0,1,2,6,7,44,45,46] [1000000],cO 9 [0,1,2,6,7,44,45,46,47] [1000000],cO 10 [0,1,2,6,7,10,11,44,45,46] [11,1000000],cO 11 [0,1,2,6,7,10,11,44,45,46,59,60,61] [11,1000000],cO 12 [0,1,2,6,7,10,11,44,45,46,59,60,61,62] [11,1000000],cO 13 [0,1,2,6,7,10,11,13,44,45,46,59,60,61] [11,1000000],cO 14 [0,1,2,6,7,10,11,44,45,46,59,60,61,78] [11,1000000],cO 15 [0,1,2,6,7,10,11,44,45,46,59,60,61] [11,1000000],cO 16 [0,1,2,6,7,44,45,46] [1000000],(1000000014,⟨[],[],[],[],[]⟩)]).C
theorem Qg3 (n:Nat):VCOk Tryz.prog (vgC n):=(Xa [⟨85,HB n⟩] _).ok
section
variable {R:Type} (n:Nat) (a0:Int) (a1:LL) (G:Int->LL) (p:LL) (w2:Int) (b:Bool) (k:Exit->St->oP R)
theorem Qj0 (h9:Int):HR (vgC n) n vg1 (vz1 a0 a1 G p w2 h9 b []) k=Qg6 a1 G p w2 h9 (fun l z c1 c2 c3 c4 c5=>Be (lB (vgC n) n vg2) n (vz3 a0 a1 G p h9 w2 l z 0 c1 c2 c3 c4 c5 b []) (Q4A 4 (Q4A 3 (Qjx (vgC n) n vg3 k)))) (fun z=>k (.exit 2) (vz1 a0 a1 G p w2 h9 b [(47,dB z)])):=by kernel_rfl
theorem Qjh (h9:Int) (l:LL) (z h:Int) (c1 c2 c3 c4 c5:D):HR (vgC n) n vg2 (vz3 a0 a1 G p h9 w2 l z h c1 c2 c3 c4 c5 b []) k=Qhj n a0 a1 l z h c1 c2 c3 c4 c5 (fun h=>k .normal (vz3 a0 a1 G p h9 w2 l z h c1 c2 c3 c4 c5 b [])) (fun y=>k (.exit 4) (vz3 a0 a1 G p h9 w2 l z h c1 c2 c3 c4 c5 b [(62,dB y)])):=by kernel_rfl
theorem Qg9 (h9:Int) (l:LL) (z:Int) (c1 c2 c3 c4 c5:D):∀ (m:Nat) (h:Int),Be (lB (vgC n) n vg2) m (vz3 a0 a1 G p h9 w2 l z h c1 c2 c3 c4 c5 b []) k=QcV n a0 a1 l z c1 c2 c3 c4 c5 (fun h y=>k (.exit 4) (vz3 a0 a1 G p h9 w2 l z h c1 c2 c3 c4 c5 b [(62,dB y)])) m h
 |0,_=>rfl
 |m+1,h=>(lS (by kernel_rfl) m k).trans ((Qjh n a0 a1 G p w2 b (QbK (lB (vgC n) n vg2) m k) h9 l z h c1 c2 c3 c4 c5).trans (cg2 (fun x y=>Qhj n a0 a1 l z h c1 c2 c3 c4 c5 x y) (funext fun h=>Qg9 h9 l z c1 c2 c3 c4 c5 m h) rfl))
theorem Qgi:∀ (m:Nat) (h9:Int),Be (lB (vgC n) n vg1) m (vz1 a0 a1 G p w2 h9 b []) k=QcG n a0 a1 G p w2 (fun h y=>k (.exit 2) (vz1 a0 a1 G p w2 h b [(47,dB y)])) m h9
 |0,_=>rfl
 |m+1,h9=>(lS (by kernel_rfl) m k).trans ((Qj0 n a0 a1 G p w2 b (QbK (lB (vgC n) n vg1) m k) h9).trans (cg2 (fun x y=>Qg6 a1 G p w2 h9 x y) (funext fun l=>funext fun z=>funext fun c1=>funext fun c2=>funext fun c3=>funext fun c4=>funext fun c5=>(Qg9 n a0 a1 G p w2 b (Q4A 4 (Q4A 3 (Qjx (vgC n) n vg3 (QbK (lB (vgC n) n vg1) m k)))) h9 l z c1 c2 c3 c4 c5 n 0).trans (cg1 (fun x=>QcV n a0 a1 l z c1 c2 c3 c4 c5 x n 0) (funext fun h=>funext fun y=>Eq.trans (by kernel_rfl) (Qgi m (wJ (h9+(1:Int))))))) rfl))
end
theorem Qka (n:Nat) (a0:Int) (a1:LL) (b:Bool):(Q4s a1 fun G p=>HR (vgC n) n vg0 ⟨81,[(0,dI a0),(1,dL 5 a1),(2,.fn 50 [.ptr 1000000 0]),(6,.mpd G),(7,dL 1 p)],[(1000000,.box [dB b])]⟩ (fnK (vgC n).tt Tryz.f49 (kG vzR)))=Uc n a0 a1 b some:=by
 unfold Uc;congr 1;funext G p;exact Eq.trans (show _=Be (lB (vgC n) n vg1) n (vz1 a0 a1 G p ((List.length a1:Nat):Int) 0 b []) (Q4A 2 (fnK (vgC n).tt Tryz.f49 (kG vzR))) by kernel_rfl) ((Qgi n a0 a1 G p _ b _ n 0).trans (cg1 (fun x=>QcG n a0 a1 G p ((List.length a1:Nat):Int) x n 0) (funext fun h=>funext fun y=>by kernel_rfl)))
noncomputable def HC (n:Nat):P6:=Qf0 vzS vzR (vzP n)
theorem NH (n:Nat):Vg Tryz.prog 49 (HC n):=by
 refine Q5K Tryz.f49 vzS vzR (vzP n) (fun v r hv β S' w vs hO hA=>?_) (by intro v;kernel_rfl) (by kernel_rfl) (by kernel_rfl) (by kernel_rfl) (by kernel_rfl);obtain ⟨a0,a1,b,u⟩:=v;exact Q8H (Qg3 n) (n:=n) (t:=a0) (f:=50) (H:=[(1000000,.box [.d (.bool b)])]) (K:=kG vzR) (res:=r) rfl ((Qka n a0 a1 b).trans hv) hO hA
end Go.Vx

set_option maxRecDepth 100000
namespace Go.Vx
open Go.Proofs
variable (n:Nat)
def RI:EZ9 18:=mkD (Xa [⟨17,Km n⟩,⟨49,⟨HC n,NH n⟩⟩] []).ok nT 18 Tryz.f18 0 @VA n
def Q2d:EZ9 15:=mkD (Xa [⟨18,RI n⟩,⟨47,AP n⟩,⟨46,Bv n⟩] [(1,⟨[],[],[],[],[3]⟩)]).ok nT 15 Tryz.f15 0 @TB n
end Go.Vx
namespace Go.Vx
open Go.RowKit Go.Maps Go.WideMaps
theorem Y8 {P:Program} {f:Nat} {e:P6} (hE:Vg P f e) {ac:List AV} {dl:Dl} (h:e Dl 0 true ac (fun _=>none) some=some dl):ZM P f ac (fun _=>none) dl:=by
 obtain ⟨d,k1,a⟩:=hE Dl 0 true ac _ some dl h;cases k1;exact a rfl
theorem CU {P:Program} {f:Nat} {ac:List AV} {hl:Nat->oP Ob} {av:AV} (h:ZM P f ac hl ⟨av,[],[]⟩) {S:Nat->Prop} {w:World} (hS:∀ b,S b->b<w.heap.size) {args:List Value} (hA:ArgsRd (fun _=>none) S (fun _=>none) w args ac) :
  Calls P f args.toArray w fun e w'=>∃ v S',e = .returned v/\RdA (fun _=>none) S' (fun _=>none) w' tm0 v av/\RowKit.Below w.heap.size w w':=by
 refine (h.2 (fun _=>none) S (fun _=>none) w args ⟨fun l o h=>(by cases h),fun l l' b h=>(by cases h),fun l b h=>(by cases h),hS⟩ hA (fun l hl=>(by rcases hl with hl | hl <;> simp [wrL] at hl))).mono fun e w' ⟨v,β',S',he,hc⟩=>?_
 have hβ:β'=fun _=>none:=funext fun l=>hc.bsame l (by simp [wrL])
 subst hβ;refine ⟨v,S',he,?_,⟨hc.fr.os,hc.fr.tape,hc.fr.output,hc.fr.size,fun b hb=>hc.fr.block b hb (fun ⟨l,a,_⟩=>by simp [wrL] at a)⟩⟩;exact hc.res.mono (fun _ h=>h) (fun _ _=>rfl) (fun l _=>⟨rfl,fun h=>h,fun e s rows h=>(by cases h),fun b cs ty fz h=>(by cases h),fun t f h=>(by cases h)⟩) (fun _ _=>rfl)
theorem Sb {P:Program} {f:Nat} {ac:List AV} {hl:Nat->oP Ob} {r:Bool} (h:ZM P f ac hl ⟨.d (D.bool r),[],[]⟩) {S:Nat->Prop} {w:World} (hS:∀ b,S b->b<w.heap.size) {args:List Value} (hA:ArgsRd (fun _=>none) S (fun _=>none) w args ac) :
  Calls P f args.toArray w fun e w'=>e = .returned (.bool r)/\RowKit.Below w.heap.size w w':=by
 refine (CU h hS hA).mono fun e w' ⟨v,S',he,hr,hb⟩=>⟨?_,hb⟩
 cases hr with
 |d v x hx=>cases hx;exact he
 |dang v av l hl=>cases hl
theorem GD {P:Program} {f:Nat} {ac:List AV} {hl:Nat->oP Ob} {k:IntKind} {r:Int} (h:ZM P f ac hl ⟨.d (D.int k r),[],[]⟩) {S:Nat->Prop} {w:World} (hS:∀ b,S b->b<w.heap.size) {args:List Value} (hA:ArgsRd (fun _=>none) S (fun _=>none) w args ac) :
  Calls P f args.toArray w fun e w'=>e = .returned (.int k r)/\RowKit.Below w.heap.size w w':=by
 refine (CU h hS hA).mono fun e w' ⟨v,S',he,hr,hb⟩=>⟨?_,hb⟩
 cases hr with
 |d v x hx=>cases hx;exact he
 |dang v av l hl=>cases hl
def Q2M (w:World) (P:Program) (b n:Nat) (ac:List (List UInt8)):Prop:=
 ∃ D:DataW Unit,w.ownsMap P 9 (plainElem P 4) b n D/\Go.Maps.IsMap D/\∀ s,D.atKey (.string s) (.lit (.bool false)) = .lit (.bool (ac.contains s))
theorem Q2M.made (P:Program) (w:World):Q2M (w.alloc (.map #[] 0)) P w.heap.size 0 []:=
 ⟨.map [],World.ownsMap_made w P 9 _,Go.Maps.isMap_empty,fun s=>rfl⟩
section
variable {P:Program} (h9:P.underlying 9=some .string) (h4:P.underlying 4=some .bool) {T:TypeId} (hT:P.underlying T=some (.map 9 4))
include h9 h4 hT
theorem Q2M.lookup {w:World} {b n:Nat} {ac:List (List UInt8)} (h:Q2M w P b n ac) (hz:(zeroValue 4).run P w = .ok (.bool false) w) {s:List UInt8} (hs:s.length<=maxLen) :
  (Instr.lookup T (.map (some b)) (.string ⟨⟨s⟩⟩) false).run P w = .ok (.bool (ac.contains s)) w:=by
 obtain ⟨D,hD,_,hat⟩:=h;obtain ⟨v,ps,ak,hv⟩:=hD.lookup (string_keyed h9) hT hz (zd:=.lit (.bool false)) (zp:=[]) (plainElem_bool h4 false) (keyOf_string_mk (s:=⟨⟨s⟩⟩) h9 hs);have e:=hat s;simp only at hv;rw [e] at hv;unfold plainElem at hv;rw [h4] at hv;cases v <;> simp at hv;rw [ak,hv.1];simp
theorem Q2M.update {w:World} {b n:Nat} {ac:List (List UInt8)} (h:Q2M w P b n ac) (hn:n<maxLen) {s:List UInt8} (hs:s.length<=maxLen) :
  ∃ w',(Instr.mapUpdate T (.map (some b)) (.string ⟨⟨s⟩⟩) (.bool true)).run P w = .ok () w'/\Q2M w' P b (n+1) (s::ac)/\w.grownBy w' (some b):=by
 obtain ⟨D,hD,hm,hat⟩:=h;obtain ⟨w',ak,aj,hg⟩:=hD.update (string_keyed h9) hT hn (keyOf_string_mk (s:=⟨⟨s⟩⟩) h9 hs) (plainElem_bool (H:=Unit) h4 true);refine ⟨w',ak,⟨_,aj,hm.put _ _,fun t=>?_⟩,hg⟩;have hk:WideAt.IsKeyLit (.string s):=(string_keyed h9).key (keyOf_string_mk (s:=⟨⟨s⟩⟩) h9 hs);by_cases e:t=s
 ·subst e;rw [show (ByteArray.mk ⟨t⟩).data.toList=t from rfl,Go.Maps.atKey_put_same hm hk];simp
 ·rw [show (ByteArray.mk ⟨s⟩).data.toList=s from rfl,Go.Maps.atKey_put_other (by simpa using e),hat t];simp [e]
end
theorem Q2M.kept {P:Program} {w w':World} {b n:Nat} {ac:List (List UInt8)} {row:oP Nat} (h:Q2M w P b n ac) (hg:w.grownBy w' row) (aj:some b≠row):Q2M w' P b n ac:=by
 obtain ⟨D,hD,hm,hat⟩:=h;exact ⟨D,hD.kept hg aj,hm,hat⟩
theorem Q2M.lt {P:Program} {w:World} {b n:Nat} {ac:List (List UInt8)} (h:Q2M w P b n ac):b<w.heap.size:=by
 obtain ⟨D,hD,hm,hat⟩:=h;exact hD.lt
theorem Wb {w w':World} (h:RowKit.Below w.heap.size w w'):w.grownBy w' none:=⟨h.os,h.tape,h.output,h.size,fun b hb _=>h.block b hb⟩
def Gp:Code->List Code
 |.region i o d=>[.region i o d]
 |.loop c=>Gp c
 |.seq a b=>Gp a++Gp b
 |.block _ c=>Gp c
 |.scope c=>Gp c
 |.cond _ a b=>Gp a++Gp b
 |_=>[]
def Q6x (Q:Act->World->Prop):Exit->Act->World->Prop
 |.normal,a,w=>Q a w
 |_,_,_=>False
theorem MX {P : Program} {f : Nat} {fn : Func} (hf : P.funcs[f]? = some fn) (hb : fn.body.isSome = true) (hn : (fn.name == "runtime.NumGoroutine") = false) {avs : List AV} {av : AV} {hl : Nat -> oP Ob} {rd : List Nat} (hlf : lf av = true) (hA : lfL avs = true)
  (h:∀ (S:Nat->Prop) (w:World) (args:List Value),(∀ b,S b->b<w.heap.size)->ArgsRd (fun _=>none) S (fun _=>none) w args avs->Calls P f args.toArray w fun e w'=>∃ (v:Value) (S':Nat->Prop),e = .returned v/\(∀ b,S b->S' b)/\(∀ b,S' b->S b\/w.heap.size<=b)/\(∀ b,S' b->b<w'.heap.size) /\
   RdA (fun _=>none) S' (fun _=>none) w' tm0 v av/\RowKit.Below w.heap.size w w'):ZM P f avs hl ⟨av,[],rd⟩:=by
 refine ⟨⟨fn,hf,hb,hn⟩,fun β S h' w args hO hAr _=>?_⟩;refine (h S w args hO.sb ⟨hAr.1,fun i v av' a h2=>Fb (Q0S hA h2) (fun _ h=>h) (fun _ _=>rfl) (hAr.2 i v av' a h2)⟩).mono fun e w' ⟨v,S',he,hs,hsf,hsb,hr,hbel⟩=>?_
 refine ⟨v,β,S',he,⟨hs,fun b hS=>(hsf b hS).elim .inl fun h=>.inr (.inl h),hsb,Q5J hbel,fun _ _=>rfl,fun l o hl'=>by simp [wrL] at hl',fun l hl'=>by simp [wrL] at hl',fun l b hl'=>by simp [wrL] at hl',fun l l' b hl'=>by simp [wrL] at hl',fun l hl'=>by simp [wrL] at hl',?_,fun t=>Q4w t _ hlf⟩⟩;exact Fb hlf (fun _ h=>h) (fun _ _=>rfl) hr
end Go.Vx
namespace Go.Vx
def dV:D->Value
 |.int k n=>.int k n
 |.bool b=>.bool b
 |.str s=>.string ⟨⟨s⟩⟩
 |.sl _ _=>undef
def cellsOf (l:LL):List Value:=l.flatMap fun r=>r.map dV
theorem Q4n (l:LL) (r:List D):cellsOf (l++[r])=cellsOf l++r.map dV:=by simp [cellsOf]
structure NestK (e1 e2 k:Nat) (w:World) (B:Nat) (v:Value) (hd:List Value) (ll:List LL):Prop where
 row:w.ownsRow B e1 1 v ll.length hd
 each:∀ (i:Nat) (h:Value) (l:LL),hd[i]? = some h->ll[i]? = some l->w.ownsRow B e2 k h l.length (cellsOf l)
 outer:∀ (i:Nat) (h:Value) (b:Nat),hd[i]? = some h->h.ownBlock=some b->v.ownBlock≠some b
 apart:∀ (i j:Nat) (h h':Value) (b:Nat),hd[i]? = some h->hd[j]? = some h'->h.ownBlock=some b->h'.ownBlock=some b->i=j
section
variable {e1 e2 k:Nat}
theorem NestK.len {w:World} {B:Nat} {v:Value} {hd:List Value} {ll:List LL} (h:NestK e1 e2 k w B v hd ll):hd.length=ll.length:=by have:=h.row.1;omega
theorem NestK.kept {w w':World} {B:Nat} {v:Value} {hd:List Value} {ll:List LL} {row:oP Nat} (h:NestK e1 e2 k w B v hd ll) (hg:w.grownBy w' row)
  (a:v.ownBlock=none\/v.ownBlock≠row) (h2:∀ x∈hd,x.ownBlock=none\/x.ownBlock≠row):NestK e1 e2 k w' B v hd ll:=
 ⟨h.row.kept hg a,fun i x l hx hl=>(h.each i x l hx hl).kept hg (h2 x (Qry hx)),h.outer,h.apart⟩
theorem NestK.blk {w:World} {B:Nat} {v:Value} {hd:List Value} {ll:List LL} (h:NestK e1 e2 k w B v hd ll) {i:Nat} {x:Value} {b:Nat} (hx:hd[i]? = some x) (hb:x.ownBlock=some b):B<=b/\b<w.heap.size:=by
 have hi:i<ll.length:=by rw [<- h.len];exact (Qrw.1 hx).1
 exact (h.each i x ll[i] hx (QrI hi)).lt b hb
theorem Q4b {w:World} {base e n:Nat} {v:Value} {xs:List Value} {b i:Nat} (h:w.ownsRow base e 1 v n xs) (hb:v.ownBlock=some b) (hi:i<n) (u:Value):(w.setCell ⟨b,i,none⟩ u).ownsRow base e 1 v n (xs.set i u):=by
 obtain ⟨a,h2⟩:=h;refine ⟨by simpa using a,?_⟩;rcases h2 with ⟨rfl,rfl⟩ | ⟨g,cap,ac,rfl,hg,hh,hn,hc,hs,ht⟩
 ·omega
 ·simp [Value.ownBlock] at hb;subst hb;refine .inr ⟨g,cap,_,rfl,hg,heap_setCell_same w g i ac e u hh,hn,hc,by simpa using hs,?_⟩;rw [<- ht];simp [List.take_set]
theorem LO {w:World} {base e s n:Nat} {v:Value} {xs:List Value} (h:w.ownsRow base e s v n xs) {a:Addr} (ha:v.ownBlock≠some a.block) (u:Value):(w.setCell a u).ownsRow base e s v n xs:=by
 refine ⟨h.1,?_⟩;rcases h.2 with h2 | ⟨g,cap,ac,rfl,hg,hh,hn,hc,hs,ht⟩
 ·exact .inl h2
 ·refine .inr ⟨g,cap,ac,rfl,hg,?_,hn,hc,hs,ht⟩;rw [heap_setCell_other w a g u (fun e=>ha (by simp [Value.ownBlock,e]))];exact hh
theorem NestK.grow {w c:World} {B:Nat} {v x x':Value} {hd:List Value} {ll:List LL} {l:LL} {s:List D} {g H i vb:Nat} (h:NestK e1 e2 k w B v hd ll)
  (hx:hd[i]? = some x) (hl:ll[i]? = some l) (ay:c.ownsRow B e2 k x' (l.length+1) (cellsOf l++s.map dV)) (hg:w.grownBy c x.ownBlock) (aj:x'.ownBlock=some g) (hat:x.ownBlock=some g\/g=H) (hH:w.heap.size=H)
  (hv:v.ownBlock=some vb):NestK e1 e2 k (c.setCell ⟨vb,i,none⟩ x') B v (hd.set i x') (ll.set i (l++[s])):=by
 have hi:i<ll.length:=(Qrw.1 hl).1;have a4:=(h.row.lt vb hv).2;have az:g≠vb:=by
  intro e;subst e;rcases hat with a | a
  ·exact h.outer i x g hx a hv
  ·omega
 have ao:c.ownsRow B e1 1 v ll.length hd:=by
  refine h.row.kept hg (.inr fun e=>?_);rw [hv] at e;exact h.outer i x vb hx e.symm hv
 have aw:∀ (j:Nat) (y:Value) (b:Nat),hd[j]? = some y->y.ownBlock=some b->j≠i->b≠g:=by
  intro j y b hy hb a2 e;subst e;rcases hat with a | a
  ·exact a2 (h.apart j i y x b hy hx hb a)
  ·have:=(h.blk hy hb).2;omega
 refine ⟨?_,fun j y k hy hk=>?_,fun j y b hy hb=>?_,fun j k y z b hy hz an ak=>?_⟩
 ·rw [List.length_set];exact Q4b ao hv hi x'
 ·rw [QrS] at hy hk;by_cases e:i=j
  ·subst e;have a:i<hd.length:=by rw [h.len];exact hi
   simp only [if_true,a,hi,Option.some.injEq] at hy hk;subst hy hk;refine LO (by simpa [Q4n] using ay) ?_ _;rw [aj];intro e;exact az (Option.some.inj e)
  ·rw [QrK e] at hy hk;refine LO ((h.each j y k hy hk).kept hg ?_) ?_ _
   ·cases hb:y.ownBlock with
    |none=>exact .inl rfl
    |some b=>exact .inr fun e2=>e (h.apart j i y x b hy hx hb e2.symm).symm
   ·intro e2;exact h.outer j y vb hy e2 hv
 ·rw [QrS] at hy;by_cases e:i=j
  ·subst e;have a:i<hd.length:=by rw [h.len];exact hi
   simp only [if_true,a,Option.some.injEq] at hy;subst hy;rw [aj] at hb;cases hb;rw [hv];intro e2;exact az (Option.some.inj e2).symm
  ·rw [QrK e] at hy;exact h.outer j y b hy hb
 ·rw [QrS] at hy hz;have a:i<hd.length:=by rw [h.len];exact hi
  by_cases e:i=j
  ·by_cases e2:i=k
   ·omega
   ·subst e;rw [QrK e2] at hz;simp only [if_true,a,Option.some.injEq] at hy;subst hy;rw [aj] at an;cases an;exact absurd rfl (aw k z g hz ak (fun h=>e2 h.symm))
  ·rw [QrK e] at hy;by_cases e2:i=k
   ·subst e2;simp only [if_true,a,Option.some.injEq] at hz;subst hz;rw [aj] at ak;cases ak;exact absurd rfl (aw j y g hy an (fun h=>e h.symm))
   ·rw [QrK e2] at hz;exact h.apart j k y z b hy hz an ak
end
def DD (k:Nat) (r:List D):Bool:=Nat.beq r.length k&&r.all fun | .int .i64 _=>true | _=>false
theorem Q19 {k:Nat}:∀ (l:LL) (i j:Nat) (r:List D) (x:D),(∀ r∈l,r.length=k)->l[i]? = some r->r[j]? = some x->(cellsOf l)[i*k+j]? = some (dV x)
 |[],i,j,r,x,_,a,_=>by simp at a
 |b::l,0,j,r,x,hk,a,h2=>by
  simp only [Qrv,Option.some.injEq] at a;subst a;have hj:=(Qrw.1 h2).1;simp only [cellsOf,List.flatMap_cons,Nat.zero_mul,QrP];rw [List.getElem?_append_left (by simpa using hj),QrR,h2];rfl
 |b::l,i+1,j,r,x,hk,a,h2=>by
  have ih:=Q19 l i j r x (fun q hq=>hk q (by simp [hq])) (by simpa using a) h2;have c:=hk b QoY;simp only [cellsOf,List.flatMap_cons];rw [List.getElem?_append_right (by simp [c];rw [Nat.succ_mul];omega)];rw [show (i+1)*k+j-(b.map dV).length=i*k+j by simp [c];rw [Nat.succ_mul];omega];exact ih
theorem Qh1 {w:World} {B e k:Nat} {x:Value} {l:LL} (h:w.ownsRow B e k x l.length (cellsOf l)) (hk:∀ r∈l,DD k r=true) {S:Nat->Prop} (hS:∀ b,x.ownBlock=some b->S b):Rd S w x (.sl k l):=by
 have ac:∀ r∈l,r.length=k:=fun r hr=>by
  have:=hk r hr;simp only [DD,QrA] at this;exact Nat.eq_of_beq_eq_true this.1
 rcases h.2 with ⟨rfl,c⟩ | ⟨g,cap,aj,rfl,hg,hh,hn,hc,hs,ht⟩
 ·have:l=[]:=List.eq_nil_of_length_eq_zero c;subst this;exact .sl0 none 0 k
 ·refine .sl ⟨g,0,none⟩ cap k l (fun i j=>dV ((l.getD i []).getD j (.bool false))) (hS g rfl) hn (fun i r hi=>ac r (Qry hi)) (fun i j r y hi hj=>?_) (fun i j r y hi hj=>?_)
  ·have a:=Q19 l i j r y ac hi hj;have ao:i*k+j<aj.size:=by
    have d:=(Qrw.1 a).1;rw [h.1] at d;have:l.length*k<=cap*k:=Nat.mul_le_mul_right k hn;omega
   rw [G4,QrP,cell_of_row w g (i*k+j) aj e (0,0) hh];rw [<- ht,QrQ] at a;split at a
   ·rw [<- QrE,a];simp [List.getD,hi,hj]
   ·cases a
  ·have hq:=hk r (Qry hi);simp only [DD,QrA,List.all_eq_true] at hq;have hy:=hq.2 y (Qry hj);simp only [List.getD,hi,hj,Option.getD_some];split at hy
   ·exact .int _ _
   ·cases hy
end Go.Vx
namespace Go.Vx
open Go.Proofs Go.RowKit
theorem Q85 {n:Nat} {s:List UInt8} (h:Ks n s some=some true) (w:World):Calls Tryz.prog 159 #[.string ⟨⟨s⟩⟩] w fun e w'=>e = .returned (.bool true)/\RowKit.Below w.heap.size w w':=by
 have he:(Pc n).E Dl 0 true [.d (.str s)] (fun _=>none) some=some ⟨.d (.bool true),[],[]⟩:=by
  show gb true (Ks n s some) false (fun r=>(some ⟨.d (D.bool r),[],[]⟩:oP Dl))=_;rw [h];rfl
 refine Sb (Y8 ((Pc n).ok) he) (S:=fun _=>False) (fun _ h=>h.elim) (args:=[.string ⟨⟨s⟩⟩]) ⟨rfl,fun i v av a h2=>?_⟩
 match i,a,h2 with
 |0,a,h2=>
  simp only [Qrv,Option.some.injEq] at a h2;subst a h2;exact .d _ _ (.str ⟨⟨s⟩⟩)
set_option maxHeartbeats 4000000 in
set_option maxRecDepth 100000 in
theorem Tryz.checkName_calls {N:Nat} (w:World) (b n:Nat) (ac:List (List UInt8)) (s:List UInt8) (h:Q2M w Tryz.prog b n ac) (hn:n<1000) (hs:QcH N ac s=true) :
  Calls Tryz.prog 211 #[.string ⟨⟨s⟩⟩,.map (some b)] w fun e w'=>e = .returned (.int .i64 0)/\Q2M w' Tryz.prog b (n+1) (s::ac)/\w.grownBy w' (some b):=by
 simp only [QcH,QrA,Bool.not_eq_true'] at hs;obtain ⟨⟨hl,hN⟩,hc⟩:=hs;have hl:=Qrz hl;have an:s.length<=maxLen:=by unfold maxLen;omega
 have aq:n<maxLen:=by unfold maxLen;omega
 have hz:∀ w:World,(zeroValue 4).run Tryz.prog w = .ok (.bool false) w:=fun w=>by kernel_rfl
 go_enter Tryz.func211,Tryz.ntmps211
 go_wp2_with (go_at_call 159;refine (Q85 (NK hN) _).mono ?_)
 rintro e d ⟨rfl,hB⟩;have c:=h.kept (Wb hB) QoY;have ak:=c.lookup Tryz.underlying9 Tryz.underlying4 Tryz.underlying289 (hz d) an;rw [hc] at ak;obtain ⟨f,ar,h2,a⟩:=c.update Tryz.underlying9 Tryz.underlying4 Tryz.underlying289 aq an
 go_wp2
 refine bodyPost_ret (results_tmp rfl _ _ _) rfl ?_;exact ⟨rfl,h2,⟨a.os.trans hB.os,a.tape.trans hB.tape,a.output.trans hB.output,QrO hB.size a.size,fun k hk ao=>(a.block k (QrB hk hB.size) ao).trans (hB.block k hk)⟩⟩
theorem Q96 {β:Nat->oP Nat} {S:Nat->Prop} {h:Nat->oP Ob} {w:World} {v0:Value} {a0:AV} (b:RdA β S h w tm0 v0 a0):ArgsRd β S h w [v0] [a0]:=by
 refine ⟨rfl,fun i v av a h2=>?_⟩
 match i,a,h2 with
 |0,a,h2=>simp only [Qrv,Option.some.injEq] at a h2;subst a h2;exact b
theorem Hu {β:Nat->oP Nat} {S:Nat->Prop} {h:Nat->oP Ob} {w:World} {v0 b:Value} {a0 a1:AV} (c:RdA β S h w tm0 v0 a0) (ac:RdA β S h w tm0 b a1):ArgsRd β S h w [v0,b] [a0,a1]:=by
 refine ⟨rfl,fun i v av a h2=>?_⟩
 match i,a,h2 with
 |0,a,h2=>simp only [Qrv,Option.some.injEq] at a h2;subst a h2;exact c
 |1,a,h2=>simp only [List.getElem?_cons_succ,Qrv,Option.some.injEq] at a h2;subst a h2;exact ac
theorem QdA {β:Nat->oP Nat} {S:Nat->Prop} {h:Nat->oP Ob} {w:World} {v0 b c:Value} {a0 a1 a2:AV} (d:RdA β S h w tm0 v0 a0) (aj:RdA β S h w tm0 b a1) (ac:RdA β S h w tm0 c a2):ArgsRd β S h w [v0,b,c] [a0,a1,a2]:=by
 refine ⟨rfl,fun i v av a h2=>?_⟩
 match i,a,h2 with
 |0,a,h2=>simp only [Qrv,Option.some.injEq] at a h2;subst a h2;exact d
 |1,a,h2=>simp only [List.getElem?_cons_succ,Qrv,Option.some.injEq] at a h2;subst a h2;exact aj
 |2,a,h2=>simp only [List.getElem?_cons_succ,Qrv,Option.some.injEq] at a h2;subst a h2;exact ac
inductive RdLs (S:Nat->Prop) (w:World):List Value->List D->Prop
 |nil:RdLs S w [] []
 |cons {v:Value} {x:D} {vs:List Value} {xs:List D} (h:Rd S w v x) (t:RdLs S w vs xs):RdLs S w (v::vs) (x::xs)
theorem RdLs.agg {S:Nat->Prop} {w:World}:∀ {vs:List Value} {xs:List D},RdLs S w vs xs->RdA (fun _=>none) S (fun _=>none) w tm0 (.agg vs.toArray) (.ag (xs.map .d))
 |vs,xs,h=>by
  have hl:∀ {vs:List Value} {xs:List D},RdLs S w vs xs->vs.length=xs.length:=by
   intro vs xs h;induction h with
   |nil=>rfl
   |cons _ _ ih=>simp [ih]
  have hr:∀ {vs:List Value} {xs:List D},RdLs S w vs xs->∀ (i:Nat) (x:D),xs[i]? = some x->Rd S w (vs.toArray.getD i undef) x:=by
   intro vs xs h;induction h with
   |nil=>intro i x hx;simp at hx
   |cons a t ih=>
    intro i x hx;cases i with
    |zero=>simp only [Qrv,Option.some.injEq] at hx;subst hx;simpa using a
    |succ i=>
     have:=ih i x (by simpa using hx);simpa using this
  refine .ag _ _ (by simp [hl h]) fun i x hx=>?_
  rw [QrR,QrC] at hx;obtain ⟨d,hd,rfl⟩:=hx;exact .d _ _ (hr h i d hd)
theorem Rd.keep {S:Nat->Prop} {w w':World} {v:Value} {x:D} {m:Nat} (h:Rd S w v x) (hS:∀ b,S b->b<m) (hw:∀ b,b<m->w'.heap[b]? = w.heap[b]?):Rd S w' v x:=h.mono (fun _ h=>h) fun b hb=>hw b (hS b hb)
theorem KW {S:Nat->Prop} {w:World} {v:Value} {k:Nat} {rows:LL} (h:Rd S w v (.sl k rows)):∃ ad cap,v = .slice ad rows.length cap:=by
 cases h with
 |sl0 a cap=>exact ⟨a,cap,rfl⟩
 |sl ad cap=>exact ⟨some ad,cap,rfl⟩
theorem Qag {S:Nat->Prop} {w:World} {ad:oP Addr} {n cap k:Nat} {rows:LL} (h:Rd S w (.slice ad n cap) (.sl k rows)) {i:Nat} {row:List D} (hi:rows[i]? = some row) :
  ∃ a,ad=some a/\S a.block/\row.length=k/\∀ (j:Nat) (x:D),row[j]? = some x->∃ v,w.cell? (a.add (i*k+j))=some v/\Rd S w v x:=by
 cases h with
 |sl0 a cap=>simp at hi
 |sl a cap _ _ c hS aj ac hc hr=>exact ⟨a,rfl,hS,ac i row hi,fun j x hx=>⟨_,hc i j row x hi hx,hr i j row x hi hx⟩⟩
theorem Ai {n:Nat} {w a c:World} {b:Nat} (h:Below n w a) (hn:n<=w.heap.size) (hb:n<=b) (hg:a.grownBy c (some b)):Below n w c:=
 ⟨hg.os.trans h.os,hg.tape.trans h.tape,hg.output.trans h.output,QrO h.size hg.size,fun k hk=>(hg.block k (by have:=h.size;omega) QoZ).trans (h.block k hk)⟩
theorem U9 {n:Nat} {w a:World} (h:Below n w a) (hn:n<=w.heap.size) (o:Obj):Below n w (a.alloc o):=
 ⟨h.os,h.tape,h.output,by have:=h.size;simp;omega,fun k hk=>(QrJ a o k (by have:=h.size;omega)).trans (h.block k hk)⟩
theorem Vh {n:Nat} {w a b:World} (h:Below n w a) (hn:n<=w.heap.size) (h2:Below a.heap.size a b):Below n w b:=
 ⟨h2.os.trans h.os,h2.tape.trans h.tape,h2.output.trans h.output,QrO h.size h2.size,fun k hk=>(h2.block k (by have:=h.size;omega)).trans (h.block k hk)⟩
theorem HZ (ad:Addr) (i j:Nat) (hj:j≠0):ad.add (i+j)=⟨(ad.add i).block,(ad.add i).off+j,none⟩:=by
 have a:(ad.add i).add j=ad.add (i+j):=by
  unfold Addr.add;by_cases hi:i=0 <;> simp [hi,hj,Nat.add_assoc]
 rw [<- a];generalize ad.add i=x;unfold Addr.add;rw [QrK hj]
theorem Q1r {N:Nat} {ac:List (List UInt8)} {l:LL} {j:Nat} (hj:j<l.length) (h:Pd N ac (l.drop j)=true) :
  ∃ s,l[j]? = some [D.str s]/\QcH N ac s=true/\Pd N (s::ac) (l.drop (j+1))=true:=by
 rw [List.drop_eq_getElem_cons hj] at h;unfold Pd at h;split at h
 ·rename_i s e;simp only [QrA] at h;exact ⟨s,by rw [QrI hj,e],h.1,h.2⟩
 ·cases h
theorem Q3O {N:Nat} {l0 l1 l2 f:LL} {ac:List (List UInt8)} {l:LL} {j:Nat} (hj:j<l.length) (h:Py N l0 l1 l2 f ac (l.drop j)=true) :
  ∃ s a b c d,l[j]? = some [D.str s,.int .i64 a,.int .i64 b,.int .i64 c,.int .i64 d]/\QcH N ac s=true/\Xj N l0 l1 l2 f s a b c d some=some true/\Py N l0 l1 l2 f (s::ac) (l.drop (j+1))=true:=by
 rw [List.drop_eq_getElem_cons hj] at h;unfold Py at h;split at h
 ·rename_i s a b c d e;simp only [QrA] at h;exact ⟨s,a,b,c,d,by rw [QrI hj,e],h.1.1,NK h.1.2,h.2⟩
 ·cases h
theorem QcF {S:Nat->Prop} {w:World} {v:Value} {s:List UInt8} (h:Rd S w v (.str s)):v = .string ⟨⟨s⟩⟩:=by cases h;rfl
theorem Rx {S:Nat->Prop} {w:World} {v:Value} {k:IntKind} {n:Int} (h:Rd S w v (.int k n)):v = .int k n:=by cases h;rfl
theorem Q7y {N:Nat} {l0 l1 l2 f:LL} {s:List UInt8} {a b c d:Int} (h:Xj N l0 l1 l2 f s a b c d some=some true) {S:Nat->Prop} {w:World} (hS:∀ b,S b->b<w.heap.size) {v0 g i j:Value}
  (k:Rd S w v0 (.sl 1 l0)) (l:Rd S w g (.sl 1 l1)) (h2:Rd S w i (.sl 5 l2)) (m:Rd S w j (.sl 6 f)) :
  Calls Tryz.prog 212 #[.agg #[v0,g,i,j],.agg #[.string ⟨⟨s⟩⟩,.int .i64 a,.int .i64 b,.int .i64 c,.int .i64 d]] w fun e w'=>e = .returned (.bool true)/\RowKit.Below w.heap.size w w':=by
 have he:(Gn N).E Dl 0 true [.ag ([D.sl 1 l0,.sl 1 l1,.sl 5 l2,.sl 6 f].map .d),.ag ([D.str s,.int .i64 a,.int .i64 b,.int .i64 c,.int .i64 d].map .d)] (fun _=>none) some=some ⟨.d (.bool true),[],[]⟩:=by
  show gb true (Xj N l0 l1 l2 f s a b c d some) false (fun r=>(some ⟨.d (D.bool r),[],[]⟩:oP Dl))=_;rw [h];rfl
 exact Sb (Y8 ((Gn N).ok) he) hS (Hu (RdLs.agg (.cons k (.cons l (.cons h2 (.cons m .nil))))) (RdLs.agg (.cons (.str ⟨⟨s⟩⟩) (.cons (.int _ _) (.cons (.int _ _) (.cons (.int _ _) (.cons (.int _ _) .nil)))))))
set_option maxHeartbeats 8000000 in
set_option maxRecDepth 100000 in
theorem Tryz.layout_calls {N:Nat} (S:Nat->Prop) (w:World) (hS:∀ b,S b->b<w.heap.size) (l0 l1 l2 d:LL) (v0 x y z:Value) (h0:Rd S w v0 (.sl 1 l0)) (h1:Rd S w x (.sl 1 l1)) (h2:Rd S w y (.sl 5 l2)) (h3:Rd S w z (.sl 6 d)) (bi:Pz N l0 l1 l2 d=true)
  (hL:∀ w':World,(∀ b,S b->b<w'.heap.size)->Rd S w' v0 (.sl 1 l0)->Rd S w' x (.sl 1 l1)->Rd S w' y (.sl 5 l2)->Rd S w' z (.sl 6 d)->Calls Tryz.prog 213 #[.agg #[v0,x,y,z]] w' fun e b1=>e = .returned (.int .i64 0)/\Below w'.heap.size w' b1) :
  Calls Tryz.prog 158 #[.agg #[v0,x,y,z]] w fun e w'=>e = .returned (.int .i64 0)/\Below w.heap.size w w':=by
 simp only [Pz,QrA,Bool.not_eq_true'] at bi;obtain ⟨⟨⟨⟨⟨⟨⟨⟨m0,m1⟩,m2⟩,m3⟩,m4⟩,n0⟩,n1⟩,ns⟩,nl⟩:=bi;have m0:=Qrz m0;have m1:=Qrz m1;have m2:=Qrz m2;have m3:=Qrz m3;have m4:l2.length≠0:=fun e=>by rw [e] at m4;cases m4
 obtain ⟨g,h,rfl⟩:=KW h0;obtain ⟨m,n,rfl⟩:=KW h1;obtain ⟨q,p,rfl⟩:=KW h2;obtain ⟨r,t,rfl⟩:=KW h3;have q0:¬ (24:Int)<(l0.length:Int):=QoW
 have q1:¬ (48:Int)<(l1.length:Int):=QoW
 have q2:¬ (96:Int)<(l2.length:Int):=QoW
 have q3:¬ (192:Int)<(d.length:Int):=QoW
 have q4:¬ ((l2.length:Int)=0):=QoW
 have a4:(w.alloc (.cells #[.slice g l0.length h,.slice m l1.length n,.slice q l2.length p,.slice r d.length t] 27)).heap[w.heap.size]? = some (.cells #[.slice g l0.length h,.slice m l1.length n,.slice q l2.length p,.slice r d.length t] 27 (0,0)):=heap_alloc_new w _;have ao:Below w.heap.size w (w.alloc (.cells #[.slice g l0.length h,.slice m l1.length n,.slice q l2.length p,.slice r d.length t] 27)):=U9 (Below.refl _ _) (QrL _) _;have br:(w.alloc (.cells #[.slice g l0.length h,.slice m l1.length n,.slice q l2.length p,.slice r d.length t] 27)).heap.size=w.heap.size+1:=by simp
 have cp:∀ w:World,(Instr.makeMap 289 none).run Tryz.prog w = .ok (.map (some w.heap.size)) (w.alloc (.map #[] 0)):=fun w=>run_makeMap 289 w
 go_enter Tryz.func158,Tryz.ntmps158
 go_wp2
 generalize w.alloc (.cells #[.slice g l0.length h,.slice m l1.length n,.slice q l2.length p,.slice r d.length t] 27)=w1 at *
 go_loopw [40] (fun i wr=>∃ k:Nat,k<=2/\i = .int .i64 k/\Below (w.heap.size+1) w1 wr)
  (fun i _=>2-(intOf i).toNat)
 case atStart=>exact ⟨0,QoW,rfl,Below.refl _ _⟩
 case round=>
  obtain ⟨k,hk,rfl,hF⟩:=hrel;by_cases bx:k<2
  ·have cc:((k:Int)<2):=QoW
   obtain ⟨ad,l,cap,cb,hv,hl,hm⟩:∃ (ad:oP Addr) (l:LL) (cap:Nat),(∀ w:World,(Instr.index 288 (.agg #[.slice g l0.length h,.slice m l1.length n]) (.int .i64 k)).run Tryz.prog w = .ok (.slice ad l.length cap) w)/\Rd S w (.slice ad l.length cap) (.sl 1 l)/\Pd N [] l=true/\l.length<=48:=by
    obtain rfl | rfl:k=0\/k=1:=QoW
    ·exact ⟨g,l0,h,fun _=>rfl,h0,n0,QoW⟩
    ·exact ⟨m,l1,n,fun _=>rfl,h1,n1,QoW⟩
   have ah:w.heap.size+1<=wr.heap.size:=by have:=hF.size;omega
   have hM:=Q2M.made Tryz.prog wr;have a6:=U9 hF QoW (.map #[] 0)
   go_wp2
   generalize wr.alloc (.map #[] 0)=w2 at *
   generalize wr.heap.size=b at *
   clear hF
   go_loopw [46] (fun i wr=>∃ (j:Nat) (aj:List (List UInt8)),j<=l.length/\i = .int .i64 j/\Q2M wr Tryz.prog b j aj/\Pd N aj (l.drop j)=true/\Below (w.heap.size+1) w1 wr)
    (fun i _=>l.length-(intOf i).toNat)
   case atStart=>exact ⟨0,[],QoW,rfl,hM,hl,a6⟩
   case round=>
    obtain ⟨j,aj,hj,rfl,a2,bb,an⟩:=hrel;by_cases ay:j<l.length
    ·have bl:((j:Int)<(l.length:Int)):=QoW
     obtain ⟨s,a3,hN,aw⟩:=Q1r ay bb;have a7:=Rd.keep (w':=wr) hv hS fun c hc=>(an.block c QoW).trans (ao.block c hc)
     obtain ⟨a,rfl,_,_,ac⟩:=Qag a7 a3;obtain ⟨u,hc,hu⟩:=ac 0 _ rfl;rw [QcF hu,Nat.mul_one,Nat.add_zero] at hc
     go_wp2_with (go_at_call 211;refine (Tryz.checkName_calls wr b j aj s a2 QoW hN).mono ?_)
     rintro e f ⟨rfl,ba,v⟩;have ax:=Ai an QoW ah v
     go_wp2
     go_roundw
     all_goals first
      |exact ⟨j+1,s::aj,ay,by go_num,ba,aw,ax⟩
      |(simp [intOf];omega)
    ·go_wp2
     go_roundw
     all_goals first
      |exact ⟨k+1,bx,by go_num,an⟩
      |(simp [intOf];omega)
  ·skip
   have ah:w.heap.size+1<=wr.heap.size:=by have:=hF.size;omega
   have hM:=Q2M.made Tryz.prog wr;have a6:=U9 hF QoW (.map #[] 0);have ak:=(a6.block _ (Nat.lt_succ_self _)).trans a4;have c2:(wr.alloc (.map #[] 0)).cell? ⟨w.heap.size,2,none⟩=some (.slice q l2.length p):=by rw [Qru ak];rfl
   go_wp2
   clear ak c2;generalize wr.alloc (.map #[] 0)=w2 at *
   generalize wr.heap.size=b at *
   go_loopw [62] (fun i wr=>∃ (j:Nat) (aj:List (List UInt8)),j<=l2.length/\i = .int .i64 j/\Q2M wr Tryz.prog b j aj/\Py N l0 l1 l2 d aj (l2.drop j)=true/\Below (w.heap.size+1) w1 wr)
    (fun i _=>l2.length-(intOf i).toNat)
   case atStart=>exact ⟨0,[],QoW,rfl,hM,ns,a6⟩
   case round=>
    obtain ⟨j,aj,hj,rfl,a2,bb,an⟩:=hrel;by_cases ay:j<l2.length
    ·have bl:((j:Int)<(l2.length:Int)):=QoW
     obtain ⟨s,sa,sb,sc,sd,a3,hN,bm,aw⟩:=Q3O ay bb;have bq:∀ c,c<w.heap.size->wr.heap[c]? = w.heap[c]?:=fun c hc=>(an.block c QoW).trans (ao.block c hc)
     have a7:=Rd.keep (w':=wr) h2 hS bq;obtain ⟨a,rfl,_,_,ac⟩:=Qag a7 a3;obtain ⟨u0,x0,y0⟩:=ac 0 _ rfl;obtain ⟨u1,x1,y1⟩:=ac 1 _ rfl;obtain ⟨cn,x2,y2⟩:=ac 2 _ rfl;obtain ⟨c4,x3,y3⟩:=ac 3 _ rfl;obtain ⟨cy,x4,y4⟩:=ac 4 _ rfl;rw [QcF y0,Nat.add_zero] at x0;rw [Rx y1,HZ _ _ _ QoX] at x1;rw [Rx y2,HZ _ _ _ QoX] at x2;rw [Rx y3,HZ _ _ _ QoX] at x3;rw [Rx y4,HZ _ _ _ QoX] at x4;clear ac y0 y1 y2 y3 y4 a7;have ar:wr.grownBy (wr.alloc (.cells #[.string ⟨⟨s⟩⟩,.int .i64 sa,.int .i64 sb,.int .i64 sc,.int .i64 sd] 57)) none:=QrM wr _ none;have bh:=U9 an QoW (.cells #[.string ⟨⟨s⟩⟩,.int .i64 sa,.int .i64 sb,.int .i64 sc,.int .i64 sd] 57);have bk:=a2.kept ar QoY;have au:(wr.alloc (.cells #[.string ⟨⟨s⟩⟩,.int .i64 sa,.int .i64 sb,.int .i64 sc,.int .i64 sd] 57)).heap[wr.heap.size]? = some (.cells #[.string ⟨⟨s⟩⟩,.int .i64 sa,.int .i64 sb,.int .i64 sc,.int .i64 sd] 57 (0,0)):=heap_alloc_new wr _;have cx:b<wr.heap.size:=a2.lt;have bv:w.heap.size+1<=wr.heap.size:=by have:=an.size;omega
     go_wp2_with (go_at_call 211;refine (Tryz.checkName_calls (wr.alloc (.cells #[.string ⟨⟨s⟩⟩,.int .i64 sa,.int .i64 sb,.int .i64 sc,.int .i64 sd] 57)) b j aj s bk QoW hN).mono ?_)
     rintro e f ⟨rfl,ba,v⟩;have ax:=Ai bh QoW ah v;have ak:=(ax.block _ (Nat.lt_succ_self _)).trans a4;have az:=(v.block wr.heap.size QoY QoZ).trans au;clear bh bk au ar v a2 an;have z0:f.cell? ⟨w.heap.size,0,none⟩=some (.slice g l0.length h):=by rw [Qru ak];rfl
     have z1:f.cell? ⟨w.heap.size,1,none⟩=some (.slice m l1.length n):=by rw [Qru ak];rfl
     have z2:f.cell? ⟨w.heap.size,2,none⟩=some (.slice (some a) l2.length p):=by rw [Qru ak];rfl
     have z3:f.cell? ⟨w.heap.size,3,none⟩=some (.slice r d.length t):=by rw [Qru ak];rfl
     have y0:f.cell? ⟨wr.heap.size,0,none⟩=some (.string ⟨⟨s⟩⟩):=by rw [Qru az];rfl
     have y1:f.cell? ⟨wr.heap.size,1,none⟩=some (.int .i64 sa):=by rw [Qru az];rfl
     have y2:f.cell? ⟨wr.heap.size,2,none⟩=some (.int .i64 sb):=by rw [Qru az];rfl
     have y3:f.cell? ⟨wr.heap.size,3,none⟩=some (.int .i64 sc):=by rw [Qru az];rfl
     have y4:f.cell? ⟨wr.heap.size,4,none⟩=some (.int .i64 sd):=by rw [Qru az];rfl
     have o:∀ c,c<w.heap.size->f.heap[c]? = w.heap[c]?:=fun c hc=>(ax.block c QoW).trans (ao.block c hc)
     have a8:∀ c,S c->c<f.heap.size:=fun c hc=>by have:=hS c hc;have:=ax.size;omega
     have g0:=Rd.keep h0 hS o;have g1:=Rd.keep h1 hS o;have g2:=Rd.keep h2 hS o;have g3:=Rd.keep h3 hS o
     go_wp2_with (go_at_call 212;refine (Q7y bm a8 g0 g1 g2 g3).mono ?_)
     rintro e w4 ⟨rfl,a5⟩;have bn:=ba.kept (Wb a5) QoY;have aq:=Vh ax QoW a5
     go_wp2
     go_roundw
     all_goals first
      |exact ⟨j+1,s::aj,ay,by go_num,bn,aw,aq⟩
      |(simp [intOf];omega)
    ·have ak:=(an.block _ (Nat.lt_succ_self _)).trans a4;have z0:wr.cell? ⟨w.heap.size,0,none⟩=some (.slice g l0.length h):=by rw [Qru ak];rfl
     have z1:wr.cell? ⟨w.heap.size,1,none⟩=some (.slice m l1.length n):=by rw [Qru ak];rfl
     have z2:wr.cell? ⟨w.heap.size,2,none⟩=some (.slice q l2.length p):=by rw [Qru ak];rfl
     have z3:wr.cell? ⟨w.heap.size,3,none⟩=some (.slice r d.length t):=by rw [Qru ak];rfl
     have o:∀ c,c<w.heap.size->wr.heap[c]? = w.heap[c]?:=fun c hc=>(an.block c QoW).trans (ao.block c hc)
     have a8:∀ c,S c->c<wr.heap.size:=fun c hc=>by have:=hS c hc;have:=an.size;omega
     have a9:=hL wr a8 (Rd.keep h0 hS o) (Rd.keep h1 hS o) (Rd.keep h2 hS o) (Rd.keep h3 hS o)
     go_wp2_with (go_at_call 213;refine a9.mono ?_)
     rintro e w4 ⟨rfl,a5⟩;have aq:=Vh an QoW a5
     go_wp2
     refine bodyPost_ret (results_tmp rfl _ _ _) rfl ?_;exact ⟨rfl,aq.os.trans ao.os,aq.tape.trans ao.tape,aq.output.trans ao.output,by have:=aq.size;omega,fun c hc=>(aq.block c QoW).trans (ao.block c hc)⟩
section
theorem Q83 {w w':World} {a:Addr} {u:Value} (hB:Below w.heap.size w w') (h:w.cell? a=some u):w'.cell? a=some u:=by
 rw [World.cell?_of_block (hB.block a.block (World.block_lt_of_cell? w a h))];exact h
theorem Me (w:World):Below w.heap.size w w.drew:=⟨rfl,rfl,rfl,QrL _,fun _ _=>rfl⟩
theorem M8 {w a b:World} (h:Below w.heap.size w a) (h2:Below a.heap.size a b):Below w.heap.size w b:=Vh h (QrL _) h2
theorem Q6P {β:Nat->oP Nat} {S:Nat->Prop} {h:Nat->oP Ob} {w:World} {tm:Nat->Value} {v:Value} {k:IntKind} {n:Int} (h:RdA β S h w tm v (.d (.int k n))):v = .int k n:=by
 cases h with
 |d _ _ q=>exact Rx q
 |dang _ _ _ hl=>cases hl
theorem Q8t {β:Nat->oP Nat} {S:Nat->Prop} {h:Nat->oP Ob} {w:World} {tm:Nat->Value} {v:Value} {k k':IntKind} {n m:Int} (h:RdA β S h w tm v (.ag [.d (.int k n),.d (.int k' m)])):v = .agg #[.int k n,.int k' m]:=by
 cases h with
 |ag cs l hl hr=>
  have c:=Q6P (hr 0 _ rfl);have d:=Q6P (hr 1 _ rfl);obtain ⟨l⟩:=cs
  match l,hl with
  |[a,b],_=>
   simp at c d;rw [c,d]
 |dang _ _ _ hl=>cases hl
theorem Tryz.index_calls (w:World) (a b:Int) (a0:0<=a) (a1:a<1000) (b0:0<=b) (b1:b<=1) :
  Calls Tryz.prog 252 #[.agg #[.int .i64 a,.int .i64 b]] w fun e w'=>e = .returned (.int .i64 (2*a+b))/\Below w.heap.size w w':=by
 have e1:IntKind.i64.wrap (2*a)=2*a:=by rw [IntKind.wrap_i64];omega
 have e2:IntKind.i64.wrap (2*a+b)=2*a+b:=by rw [IntKind.wrap_i64];omega
 have hp:Hs 0 a b some=some (2*a+b):=by
  show some (IntKind.i64.wrap (IntKind.i64.wrap (2*a)+b))=_;rw [e1,e2]
 have he:(Pb 0).E Dl 0 true [.ag ([D.int .i64 a,D.int .i64 b].map .d)] (fun _=>none) some=some ⟨.d (D.int .i64 (2*a+b)),[],[]⟩:=by
  show gb true (Hs 0 a b some) 0 (fun r=>(some ⟨.d (D.int .i64 r),[],[]⟩:oP Dl))=_;rw [hp];rfl
 exact GD (S:=fun _=>False) (Y8 ((Pb 0).ok) he) (fun _ h=>h.elim) (Q96 (RdLs.agg (.cons (.int _ _) (.cons (.int _ _) .nil))))
set_option maxHeartbeats 4000000 in
theorem Tryz.ends_calls (w:World) (a ae b be p q:Int) :
  Calls Tryz.prog 251 #[.agg #[.int .i64 a,.int .i64 ae,.int .i64 b,.int .i64 be,.int .i64 p,.int .i64 q]] w fun e w'=>e = .returned (.tuple #[.agg #[.int .i64 a,.int .i64 ae],.agg #[.int .i64 b,.int .i64 be]])/\Below w.heap.size w w':=by
 have he:(Tb 0).E Dl 0 true [.ag ([D.int .i64 a,D.int .i64 ae,D.int .i64 b,D.int .i64 be,D.int .i64 p,D.int .i64 q].map .d)] (fun _=>none) some=some ⟨.tup [.ag ([D.int .i64 a,D.int .i64 ae].map .d),.ag ([D.int .i64 b,D.int .i64 be].map .d)],[],[]⟩:=rfl;refine (CU (S:=fun _=>False) (Y8 ((Tb 0).ok) he) (fun _ h=>h.elim) (Q96 (RdLs.agg (.cons (.int _ _) (.cons (.int _ _) (.cons (.int _ _) (.cons (.int _ _) (.cons (.int _ _) (.cons (.int _ _) .nil))))))))).mono fun e w' ⟨v,S',f,h2,g⟩=>⟨?_,g⟩
 rw [f];cases h2 with
 |tup cs l hl hr=>
  have c:=Q8t (hr 0 _ rfl);have d:=Q8t (hr 1 _ rfl);obtain ⟨l⟩:=cs
  match l,hl with
  |[a,b],_=>
   simp at c d;rw [c,d]
 |dang v av l hl=>cases hl
theorem six {w:World} {p t:Nat} {a b c d e f:Value} (h:w.heap[p]? = some (.cells #[a,b,c,d,e,f] t (0,0))):w.cell? ⟨p,0,none⟩=some a/\w.cell? ⟨p,1,none⟩=some b/\w.cell? ⟨p,2,none⟩=some c/\w.cell? ⟨p,3,none⟩=some d/\w.cell? ⟨p,4,none⟩=some e/\w.cell? ⟨p,5,none⟩=some f:=by
 refine ⟨?_,?_,?_,?_,?_,?_⟩ <;> rw [Qru h] <;> rfl
theorem Gl {e1 e2 k:Nat} {w w':World} {B:Nat} {v:Value} {hd:List Value} {ll:List LL} (h:NestK e1 e2 k w B v hd ll) (hg:w.grownBy w' none):NestK e1 e2 k w' B v hd ll:=
 h.kept hg (Classical.em _) (fun x _=>Classical.em _)
structure Grew (w w':World) (vb:Nat) (x x':Value):Prop where
 own:∀ b,x'.ownBlock=some b->x.ownBlock=some b\/w.heap.size<=b
 os:w'.os=w.os
 tape:w'.tape=w.tape
 output:w'.output=w.output
 size:w.heap.size<=w'.heap.size
 block:∀ b,b<w.heap.size->b≠vb->x.ownBlock≠some b->w'.heap[b]? = w.heap[b]?
theorem Q45 {w W1 W2:World} {B vb N i n g c:Nat} {x:Value} {hd:List Value} {ll:List LL} {l:LL} {row:List D} (hN:NestK 25 193 6 w B (.slice (some ⟨vb,0,none⟩) N N) hd ll) (hx:hd[i]? = some x) (hl:ll[i]? = some l) (hn:n=l.length)
  (a:w.grownBy W1 none) (aj:W2.ownsRow B 193 6 (.slice (some ⟨g,0,none⟩) (n+1) c) (n+1) (cellsOf l++row.map dV)) (ac:W1.grownBy W2 x.ownBlock) (hat:x.ownBlock=some g\/g=W1.heap.size) :
  NestK 25 193 6 (W2.setCell ⟨vb,i,none⟩ (.slice (some ⟨g,0,none⟩) (n+1) c)) B (.slice (some ⟨vb,0,none⟩) N N) (hd.set i (.slice (some ⟨g,0,none⟩) (n+1) c)) (ll.set i (l++[row])) /\
   Grew w (W2.setCell ⟨vb,i,none⟩ (.slice (some ⟨g,0,none⟩) (n+1) c)) vb x (.slice (some ⟨g,0,none⟩) (n+1) c):=by
 subst hn;have d:=Gl hN a;have s1:=a.size;have s2:=ac.size;refine ⟨d.grow hx hl aj ac rfl hat rfl rfl,⟨fun b hb=>?_,?_,?_,?_,?_,fun b hb h2 f=>?_⟩⟩
 ·simp only [Value.ownBlock,Option.some.injEq] at hb;subst hb;rcases hat with h | h
  ·exact .inl h
  ·exact .inr QoW
 ·exact ac.os.trans a.os
 ·exact ac.tape.trans a.tape
 ·exact ac.output.trans a.output
 ·simp;omega
 ·rw [heap_setCell_other _ _ _ _ (fun e=>h2 e)];rw [ac.block b QoW (fun e=>f e.symm),a.block b hb QoY]
variable {u0 u1 u2 u3 u4 u5 u6 u7 u8 u9 u10 u11 u12 u13 u14 u15 u16 u17 u18 u19 u20 u21 u22 u23 u24 u25 u26 u27 u28 u29 u30 u31 u32 u33 u34 u35 u36 u37 u38 u39 u40 u41 u42 u43 u44 u45 u46 u47 u48 u49 u50 u51 u52 u53 u54 u55 u56 u57 u58 u59 u60 u61 u62 u63 u64 u65 u66 u67 u68 u69 u70 u71 u72 u73 u74 u75 u76 u77 u78 u79:Value}
noncomputable def Qdu:Code:=(Gp (Tryz.f213.body.getD .skip)).getD 8 .skip
set_option maxHeartbeats 8000000 in
set_option maxRecDepth 100000 in
theorem Tryz.links_r8 (vb N c d:Nat) (a ae b be:Int) (w:World) (c0:w.cell? ⟨c,0,none⟩=some (.int .i64 a)) (c1:w.cell? ⟨c,1,none⟩=some (.int .i64 ae)) (d0:w.cell? ⟨d,0,none⟩=some (.int .i64 b)) (d1:w.cell? ⟨d,1,none⟩=some (.int .i64 be)) (a0:0<=a) (a1:a<1000) (r:0<=ae) (e1:ae<=1) (b0:0<=b) (b1:b<1000) (s:0<=be) (t:be<=1) (u:2*a+ae<(N:Int)) (h2:2*b+be<(N:Int)) :
  Code.wp Tryz.prog Qdu (Q6x fun act w'=>∃ (f g h i j k l m:Value) ,act=⟨(u0::u1::u2::.slice (some ⟨vb,0,none⟩) N N::u4::u5::.pointer (some ⟨c,0,none⟩)::.pointer (some ⟨d,0,none⟩)::.pointer (some ⟨vb,(2*a+ae).toNat,none⟩)::.pointer (some ⟨vb,(2*b+be).toNat,none⟩)::u10::u11::u12::u13::u14::u15::u16::u17::u18::u19::u20::u21::u22::u23::u24::u25::u26::u27::u28::u29::u30::f::g::h::i::j::k::l::m::u39::u40::u41::u42::u43::u44::u45::u46::u47::u48::u49::u50::u51::u52::u53::u54::u55::u56::u57::u58::u59::u60::u61::u62::u63::u64::u65::u66::u67::u68::u69::u70::u71::u72::u73::u74::u75::u76::u77::u78::u79::[]).toArray,[]⟩/\Below w.heap.size w w') ⟨(u0::u1::u2::.slice (some ⟨vb,0,none⟩) N N::u4::u5::.pointer (some ⟨c,0,none⟩)::.pointer (some ⟨d,0,none⟩)::u8::u9::u10::u11::u12::u13::u14::u15::u16::u17::u18::u19::u20::u21::u22::u23::u24::u25::u26::u27::u28::u29::u30::u31::u32::u33::u34::u35::u36::u37::u38::u39::u40::u41::u42::u43::u44::u45::u46::u47::u48::u49::u50::u51::u52::u53::u54::u55::u56::u57::u58::u59::u60::u61::u62::u63::u64::u65::u66::u67::u68::u69::u70::u71::u72::u73::u74::u75::u76::u77::u78::u79::[]).toArray,[]⟩ w:=by
 conv=>arg 2;whnf
 have mixed:Tryz.prog.follows .mixedOrders=true:=by kernel_rfl
 have n:w.drew.cell? ⟨c,0,none⟩=some (.int .i64 a):=c0;have o:w.drew.cell? ⟨c,1,none⟩=some (.int .i64 ae):=c1;have p:w.drew.cell? ⟨d,0,none⟩=some (.int .i64 b):=d0;have q:w.drew.cell? ⟨d,1,none⟩=some (.int .i64 be):=d1;have g1:0<=2*a+ae:=QoW
 have v:0<=2*b+be:=QoW
 clear c0 c1 d0 d1
 go_region_held3 (fun w'=>w'.cell? ⟨c,0,none⟩=some (.int .i64 a)/\w'.cell? ⟨c,1,none⟩=some (.int .i64 ae)/\w'.cell? ⟨d,0,none⟩=some (.int .i64 b)/\w'.cell? ⟨d,1,none⟩=some (.int .i64 be))
  (first
   |exact ⟨n,o,p,q⟩
   |(refine ⟨?_,?_,?_,?_⟩ <;> (repeat (first | assumption | refine Q83 (by assumption) ?_))))
  (first
   |(go_at_call 252;refine (Tryz.index_calls _ _ _ (by assumption) (by assumption) (by assumption) (by assumption)).mono ?_;rintro e W1 ⟨rfl,x⟩))
 all_goals
  dsimp only [Q6x];refine ⟨_,_,_,_,_,_,_,_,rfl,?_⟩
  repeat (first | exact Me _ | refine M8 ?_ (by assumption))
noncomputable def Qbj:Code:=(Gp (Tryz.f213.body.getD .skip)).getD 11 .skip
set_option maxHeartbeats 8000000 in
set_option maxRecDepth 100000 in
theorem Tryz.links_r11 (vb i c d n cap:Nat) (ad:oP Addr) (a ae b be:Int) (w:World) (c0:w.cell? ⟨c,0,none⟩=some (.int .i64 a)) (c1:w.cell? ⟨c,1,none⟩=some (.int .i64 ae)) (d0:w.cell? ⟨d,0,none⟩=some (.int .i64 b)) (d1:w.cell? ⟨d,1,none⟩=some (.int .i64 be)) (cx:w.cell? ⟨vb,i,none⟩=some (.slice ad n cap))
  (hc:Calls Tryz.prog 253 #[.slice ad n cap,.agg #[.int .i64 a,.int .i64 ae],.agg #[.int .i64 b,.int .i64 be]] w.drew fun e w'=>e = .returned (.bool false)/\Below w.drew.heap.size w.drew w') :
  Code.wp Tryz.prog Qbj (Q6x fun act w'=>∃ (f g h j k l:Value) ,act=⟨(u0::u1::u2::u3::u4::u5::.pointer (some ⟨c,0,none⟩)::.pointer (some ⟨d,0,none⟩)::.pointer (some ⟨vb,i,none⟩)::u9::u10::u11::u12::u13::u14::u15::u16::u17::u18::u19::u20::u21::u22::u23::u24::u25::u26::u27::u28::u29::u30::u31::u32::u33::u34::u35::u36::u37::u38::u39::u40::u41::u42::.bool false::f::g::h::j::k::l::u50::u51::u52::u53::u54::u55::u56::u57::u58::u59::u60::u61::u62::u63::u64::u65::u66::u67::u68::u69::u70::u71::u72::u73::u74::u75::u76::u77::u78::u79::[]).toArray,[]⟩/\Below w.heap.size w w') ⟨(u0::u1::u2::u3::u4::u5::.pointer (some ⟨c,0,none⟩)::.pointer (some ⟨d,0,none⟩)::.pointer (some ⟨vb,i,none⟩)::u9::u10::u11::u12::u13::u14::u15::u16::u17::u18::u19::u20::u21::u22::u23::u24::u25::u26::u27::u28::u29::u30::u31::u32::u33::u34::u35::u36::u37::u38::u39::u40::u41::u42::u43::u44::u45::u46::u47::u48::u49::u50::u51::u52::u53::u54::u55::u56::u57::u58::u59::u60::u61::u62::u63::u64::u65::u66::u67::u68::u69::u70::u71::u72::u73::u74::u75::u76::u77::u78::u79::[]).toArray,[]⟩ w:=by
 conv=>arg 2;whnf
 have mixed:Tryz.prog.follows .mixedOrders=true:=by kernel_rfl
 have o:w.drew.cell? ⟨c,0,none⟩=some (.int .i64 a):=c0;have p:w.drew.cell? ⟨c,1,none⟩=some (.int .i64 ae):=c1;have q:w.drew.cell? ⟨d,0,none⟩=some (.int .i64 b):=d0;have r:w.drew.cell? ⟨d,1,none⟩=some (.int .i64 be):=d1;have s:w.drew.cell? ⟨vb,i,none⟩=some (.slice ad n cap):=cx;clear c0 c1 d0 d1 cx
 go_region_law (first
   |(go_simp;refine hc.mono ?_;rintro e W1 ⟨rfl,m⟩))
 all_goals
  dsimp only [Q6x];refine ⟨_,_,_,_,_,_,rfl,?_⟩;exact M8 (Me w) m
noncomputable def QbG:Code:=(Gp (Tryz.f213.body.getD .skip)).getD 13 .skip
set_option maxHeartbeats 8000000 in
set_option maxRecDepth 100000 in
theorem Tryz.links_r13 (vb i c n cap:Nat) (ad:oP Addr) (a ae b be p q:Int) (w:World) (ac:w.heap[c]? = some (.cells #[.int .i64 a,.int .i64 ae,.int .i64 b,.int .i64 be,.int .i64 p,.int .i64 q] 193 (0,0))) (cx:w.cell? ⟨vb,i,none⟩=some (.slice ad n cap))
  (hc:Calls Tryz.prog 254 #[.agg #[.int .i64 a,.int .i64 ae,.int .i64 b,.int .i64 be,.int .i64 p,.int .i64 q],.slice ad n cap] w.drew fun e w'=>e = .returned (.bool true)/\Below w.drew.heap.size w.drew w') :
  Code.wp Tryz.prog QbG (Q6x fun act w'=>∃ (d f g h j k:Value) ,act=⟨(u0::u1::u2::u3::u4::.pointer (some ⟨c,0,none⟩)::u6::u7::.pointer (some ⟨vb,i,none⟩)::u9::u10::u11::u12::u13::u14::u15::u16::u17::u18::u19::u20::u21::u22::u23::u24::u25::u26::u27::u28::u29::u30::u31::u32::u33::u34::u35::u36::u37::u38::u39::u40::u41::u42::u43::u44::u45::u46::u47::u48::u49::.bool false::d::f::g::h::j::k::u57::u58::u59::u60::u61::u62::u63::u64::u65::u66::u67::u68::u69::u70::u71::u72::u73::u74::u75::u76::u77::u78::u79::[]).toArray,[]⟩/\Below w.heap.size w w') ⟨(u0::u1::u2::u3::u4::.pointer (some ⟨c,0,none⟩)::u6::u7::.pointer (some ⟨vb,i,none⟩)::u9::u10::u11::u12::u13::u14::u15::u16::u17::u18::u19::u20::u21::u22::u23::u24::u25::u26::u27::u28::u29::u30::u31::u32::u33::u34::u35::u36::u37::u38::u39::u40::u41::u42::u43::u44::u45::u46::u47::u48::u49::u50::u51::u52::u53::u54::u55::u56::u57::u58::u59::u60::u61::u62::u63::u64::u65::u66::u67::u68::u69::u70::u71::u72::u73::u74::u75::u76::u77::u78::u79::[]).toArray,[]⟩ w:=by
 conv=>arg 2;whnf
 have mixed:Tryz.prog.follows .mixedOrders=true:=by kernel_rfl
 obtain ⟨m,o,r,s,t,u⟩:=six (w:=w.drew) ac;have v:w.drew.cell? ⟨vb,i,none⟩=some (.slice ad n cap):=cx;clear ac cx
 go_region_law (first
   |(go_simp;refine hc.mono ?_;rintro e W1 ⟨rfl,l⟩))
 all_goals
  dsimp only [Q6x];refine ⟨_,_,_,_,_,_,rfl,?_⟩;exact M8 (Me w) l
noncomputable def QbE:Code:=(Gp (Tryz.f213.body.getD .skip)).getD 14 .skip
set_option maxHeartbeats 8000000 in
set_option maxRecDepth 100000 in
theorem Tryz.links_r14 (vb i c n cap:Nat) (ad:oP Addr) (a ae b be p q:Int) (w:World) (ac:w.heap[c]? = some (.cells #[.int .i64 a,.int .i64 ae,.int .i64 b,.int .i64 be,.int .i64 p,.int .i64 q] 193 (0,0))) (cx:w.cell? ⟨vb,i,none⟩=some (.slice ad n cap))
  (hc:Calls Tryz.prog 254 #[.agg #[.int .i64 a,.int .i64 ae,.int .i64 b,.int .i64 be,.int .i64 p,.int .i64 q],.slice ad n cap] w.drew fun e w'=>e = .returned (.bool true)/\Below w.drew.heap.size w.drew w') :
  Code.wp Tryz.prog QbE (Q6x fun act w'=>∃ (d f g h j k:Value) ,act=⟨(u0::u1::u2::u3::u4::.pointer (some ⟨c,0,none⟩)::u6::u7::u8::.pointer (some ⟨vb,i,none⟩)::u10::u11::u12::u13::u14::u15::u16::u17::u18::u19::u20::u21::u22::u23::u24::u25::u26::u27::u28::u29::u30::u31::u32::u33::u34::u35::u36::u37::u38::u39::u40::u41::u42::u43::u44::u45::u46::u47::u48::u49::.bool false::u51::u52::u53::u54::u55::u56::d::f::g::h::j::k::u63::u64::u65::u66::u67::u68::u69::u70::u71::u72::u73::u74::u75::u76::u77::u78::u79::[]).toArray,[]⟩/\Below w.heap.size w w') ⟨(u0::u1::u2::u3::u4::.pointer (some ⟨c,0,none⟩)::u6::u7::u8::.pointer (some ⟨vb,i,none⟩)::u10::u11::u12::u13::u14::u15::u16::u17::u18::u19::u20::u21::u22::u23::u24::u25::u26::u27::u28::u29::u30::u31::u32::u33::u34::u35::u36::u37::u38::u39::u40::u41::u42::u43::u44::u45::u46::u47::u48::u49::u50::u51::u52::u53::u54::u55::u56::u57::u58::u59::u60::u61::u62::u63::u64::u65::u66::u67::u68::u69::u70::u71::u72::u73::u74::u75::u76::u77::u78::u79::[]).toArray,[]⟩ w:=by
 conv=>arg 2;whnf
 have mixed:Tryz.prog.follows .mixedOrders=true:=by kernel_rfl
 obtain ⟨m,o,r,s,t,u⟩:=six (w:=w.drew) ac;have v:w.drew.cell? ⟨vb,i,none⟩=some (.slice ad n cap):=cx;clear ac cx
 go_region_law (first
   |(go_simp;refine hc.mono ?_;rintro e W1 ⟨rfl,l⟩))
 all_goals
  dsimp only [Q6x];refine ⟨_,_,_,_,_,_,rfl,?_⟩;exact M8 (Me w) l
noncomputable def Qb6:Code:=(Gp (Tryz.f213.body.getD .skip)).getD 16 .skip
set_option maxHeartbeats 8000000 in
set_option maxRecDepth 100000 in
theorem Tryz.links_r16 (B vb N i c cap:Nat) (ad:oP Addr) (a ae b be p q:Int) (hd:List Value) (ll:List LL) (l:LL) (w:World) (a3:w.heap[c]? = some (.cells #[.int .i64 a,.int .i64 ae,.int .i64 b,.int .i64 be,.int .i64 p,.int .i64 q] 193 (0,0)))
  (hN:NestK 25 193 6 w B (.slice (some ⟨vb,0,none⟩) N N) hd ll) (hx:hd[i]? = some (.slice ad l.length cap)) (hl:ll[i]? = some l) (am:l.length<=1000) (hB:B<=w.heap.size) (an:c≠vb) (ao:(Value.slice ad l.length cap).ownBlock≠some c) :
  Code.wp Tryz.prog Qb6 (Q6x fun act w'=>∃ (m n o r s t v x:Value) (xx:Value),act=⟨(u0::u1::u2::u3::u4::.pointer (some ⟨c,0,none⟩)::u6::u7::.pointer (some ⟨vb,i,none⟩)::u9::u10::u11::u12::u13::u14::u15::u16::u17::u18::u19::u20::u21::u22::u23::u24::u25::u26::u27::u28::u29::u30::u31::u32::u33::u34::u35::u36::u37::u38::u39::u40::u41::u42::u43::u44::u45::u46::u47::u48::u49::u50::u51::u52::u53::u54::u55::u56::u57::u58::u59::u60::u61::u62::m::n::o::r::s::t::v::x::u71::u72::u73::u74::u75::u76::u77::u78::u79::[]).toArray,[]⟩/\NestK 25 193 6 w' B (.slice (some ⟨vb,0,none⟩) N N) (hd.set i xx) (ll.set i (l++[[D.int .i64 a,.int .i64 ae,.int .i64 b,.int .i64 be,.int .i64 p,.int .i64 q]]))/\Grew w w' vb (.slice ad l.length cap) xx) ⟨(u0::u1::u2::u3::u4::.pointer (some ⟨c,0,none⟩)::u6::u7::.pointer (some ⟨vb,i,none⟩)::u9::u10::u11::u12::u13::u14::u15::u16::u17::u18::u19::u20::u21::u22::u23::u24::u25::u26::u27::u28::u29::u30::u31::u32::u33::u34::u35::u36::u37::u38::u39::u40::u41::u42::u43::u44::u45::u46::u47::u48::u49::u50::u51::u52::u53::u54::u55::u56::u57::u58::u59::u60::u61::u62::u63::u64::u65::u66::u67::u68::u69::u70::u71::u72::u73::u74::u75::u76::u77::u78::u79::[]).toArray,[]⟩ w:=by
 conv=>arg 2;whnf
 have mixed:Tryz.prog.follows .mixedOrders=true:=by kernel_rfl
 obtain ⟨y,hi,z⟩:=QrC.1 (show (Tryz.prog.info? 193).map (fun i=>(i.zero,i.size,i.bytes))=some (some (.agg #[.int .i64 0,.int .i64 0,.int .i64 0,.int .i64 0,.int .i64 0,.int .i64 0]),6,48) by kernel_rfl);obtain ⟨hz,f⟩:=Prod.mk.inj z;obtain ⟨f,aa⟩:=Prod.mk.inj f;have az:=(hN.row.lt vb rfl).2;have a6:=hN.each _ _ _ hx hl;have ab:w.cell? ⟨vb,i,none⟩=some (.slice ad l.length cap):=by
  have:=hN.row.cells (g:=vb) rfl i _ hx;rwa [G4,QrP] at this
 have ax:(Value.slice ad l.length cap).ownBlock≠some vb:=fun e=>hN.outer _ _ _ hx e rfl
 obtain ⟨au,a2⟩:∃ au,w.drew.heap[vb]? = some (.cells au 25 (0,0)):=by
  rcases hN.row.2 with ⟨e,_⟩ | ⟨g,a8,au,e,_,hg,_⟩
  ·cases e
  ·cases e;exact ⟨au,hg⟩
 have q1:l.length+1<=maxLen:=by unfold maxLen;omega
 have q2:(l.length+1)*48<=140737488355328:=QoW
 have q3:∀ u∈[Value.int .i64 a,.int .i64 ae,.int .i64 b,.int .i64 be,.int .i64 p,.int .i64 q],u.oneCell'=true:=by simp [Value.oneCell']
 obtain ⟨y0,y1,y2,y3,y5,y6⟩:=six (w:=w.drew) a3;have y4:w.drew.cell? ⟨vb,i,none⟩=some (.slice ad l.length cap):=ab;have d:w.drew.grownBy (w.drew.alloc (.cells #[.int .i64 a,.int .i64 ae,.int .i64 b,.int .i64 be,.int .i64 p,.int .i64 q] 193)) none:=QrM _ _ none;have aj:w.drew.ownsRow B 193 6 (.slice ad l.length cap) l.length (cellsOf l):=a6;have ak:(w.drew.alloc (.cells #[.int .i64 a,.int .i64 ae,.int .i64 b,.int .i64 be,.int .i64 p,.int .i64 q] 193)).ownsRow B 193 6 (.slice ad l.length cap) l.length (cellsOf l):=World.ownsRow.kept (w:=w.drew) aj d (Classical.em _);have al:∀ (j:Nat) (u:Value),[Value.int .i64 a,.int .i64 ae,.int .i64 b,.int .i64 be,.int .i64 p,.int .i64 q][j]? = some u->(w.drew.alloc (.cells #[.int .i64 a,.int .i64 ae,.int .i64 b,.int .i64 be,.int .i64 p,.int .i64 q] 193)).cell? ((⟨w.drew.heap.size,0,none⟩:Addr).add j)=some u:=World.news_of_block (heap_alloc_new _ _);have h:w.drew.heap.size<=(w.drew.alloc (.cells #[.int .i64 a,.int .i64 ae,.int .i64 b,.int .i64 be,.int .i64 p,.int .i64 q] 193)).heap.size:=d.size;have a4:B<=(w.drew.alloc (.cells #[.int .i64 a,.int .i64 ae,.int .i64 b,.int .i64 be,.int .i64 p,.int .i64 q] 193)).heap.size:=QrO hB h;have ac:vb<w.drew.heap.size:=az;have aw:=(d.block vb ac (fun e=>by cases e)).trans a2;have k:=d.cell_far ⟨vb,i,none⟩ ac (fun e=>by cases e);have k:=k.trans y4;have a7:(1:Nat)*6=6:=rfl
 go_region_law (first
   |(refine step_append_lies (w.drew.alloc (.cells #[.int .i64 a,.int .i64 ae,.int .i64 b,.int .i64 be,.int .i64 p,.int .i64 q] 193)) (by rfl) _ _ 25 (by rfl) B 193 y (.agg #[.int .i64 0,.int .i64 0,.int .i64 0,.int .i64 0,.int .i64 0,.int .i64 0]) 6 48 Tryz.underlying25 hi hz f aa (by rfl) QoX _ l.length (cellsOf l) (by rfl) ak ⟨w.drew.heap.size,0,none⟩ 1 1 [Value.int .i64 a,.int .i64 ae,.int .i64 b,.int .i64 be,.int .i64 p,.int .i64 q] (by rfl) rfl al q3 QoX q1 q2 a4 _ rfl ?_;intro g c2 W2 ay ar hat bc;
     have rx:=(ar.cell_far ⟨vb,i,none⟩ (QrB ac h) (fun e=>ax e.symm)).trans k;
     have rf:=frozen_of_row W2 vb i au 25 ((ar.block vb (QrB ac h) (fun e=>ax e.symm)).trans aw)))
 all_goals
  dsimp only [Q6x];have E:=Q45 (w:=w.drew) (row:=[D.int .i64 a,.int .i64 ae,.int .i64 b,.int .i64 be,.int .i64 p,.int .i64 q]) ⟨hN.row,hN.each,hN.outer,hN.apart⟩ hx hl rfl d ay ar hat;exact ⟨_,_,_,_,_,_,_,_,_,rfl,E.1,⟨E.2.own,E.2.os,E.2.tape,E.2.output,E.2.size,E.2.block⟩⟩
noncomputable def QbS:Code:=(Gp (Tryz.f213.body.getD .skip)).getD 17 .skip
set_option maxHeartbeats 8000000 in
set_option maxRecDepth 100000 in
theorem Tryz.links_r17 (B vb N i c cap:Nat) (ad:oP Addr) (a ae b be p q:Int) (hd:List Value) (ll:List LL) (l:LL) (w:World) (a3:w.heap[c]? = some (.cells #[.int .i64 a,.int .i64 ae,.int .i64 b,.int .i64 be,.int .i64 p,.int .i64 q] 193 (0,0)))
  (hN:NestK 25 193 6 w B (.slice (some ⟨vb,0,none⟩) N N) hd ll) (hx:hd[i]? = some (.slice ad l.length cap)) (hl:ll[i]? = some l) (am:l.length<=1000) (hB:B<=w.heap.size) (an:c≠vb) (ao:(Value.slice ad l.length cap).ownBlock≠some c) :
  Code.wp Tryz.prog QbS (Q6x fun act w'=>∃ (m n o r s t v x:Value) (xx:Value),act=⟨(u0::u1::u2::u3::u4::.pointer (some ⟨c,0,none⟩)::u6::u7::u8::.pointer (some ⟨vb,i,none⟩)::u10::u11::u12::u13::u14::u15::u16::u17::u18::u19::u20::u21::u22::u23::u24::u25::u26::u27::u28::u29::u30::u31::u32::u33::u34::u35::u36::u37::u38::u39::u40::u41::u42::u43::u44::u45::u46::u47::u48::u49::u50::u51::u52::u53::u54::u55::u56::u57::u58::u59::u60::u61::u62::u63::u64::u65::u66::u67::u68::u69::u70::m::n::o::r::s::t::v::x::u79::[]).toArray,[]⟩/\NestK 25 193 6 w' B (.slice (some ⟨vb,0,none⟩) N N) (hd.set i xx) (ll.set i (l++[[D.int .i64 a,.int .i64 ae,.int .i64 b,.int .i64 be,.int .i64 p,.int .i64 q]]))/\Grew w w' vb (.slice ad l.length cap) xx) ⟨(u0::u1::u2::u3::u4::.pointer (some ⟨c,0,none⟩)::u6::u7::u8::.pointer (some ⟨vb,i,none⟩)::u10::u11::u12::u13::u14::u15::u16::u17::u18::u19::u20::u21::u22::u23::u24::u25::u26::u27::u28::u29::u30::u31::u32::u33::u34::u35::u36::u37::u38::u39::u40::u41::u42::u43::u44::u45::u46::u47::u48::u49::u50::u51::u52::u53::u54::u55::u56::u57::u58::u59::u60::u61::u62::u63::u64::u65::u66::u67::u68::u69::u70::u71::u72::u73::u74::u75::u76::u77::u78::u79::[]).toArray,[]⟩ w:=by
 conv=>arg 2;whnf
 have mixed:Tryz.prog.follows .mixedOrders=true:=by kernel_rfl
 obtain ⟨y,hi,z⟩:=QrC.1 (show (Tryz.prog.info? 193).map (fun i=>(i.zero,i.size,i.bytes))=some (some (.agg #[.int .i64 0,.int .i64 0,.int .i64 0,.int .i64 0,.int .i64 0,.int .i64 0]),6,48) by kernel_rfl);obtain ⟨hz,f⟩:=Prod.mk.inj z;obtain ⟨f,aa⟩:=Prod.mk.inj f;have az:=(hN.row.lt vb rfl).2;have a6:=hN.each _ _ _ hx hl;have ab:w.cell? ⟨vb,i,none⟩=some (.slice ad l.length cap):=by
  have:=hN.row.cells (g:=vb) rfl i _ hx;rwa [G4,QrP] at this
 have ax:(Value.slice ad l.length cap).ownBlock≠some vb:=fun e=>hN.outer _ _ _ hx e rfl
 obtain ⟨au,a2⟩:∃ au,w.drew.heap[vb]? = some (.cells au 25 (0,0)):=by
  rcases hN.row.2 with ⟨e,_⟩ | ⟨g,a8,au,e,_,hg,_⟩
  ·cases e
  ·cases e;exact ⟨au,hg⟩
 have q1:l.length+1<=maxLen:=by unfold maxLen;omega
 have q2:(l.length+1)*48<=140737488355328:=QoW
 have q3:∀ u∈[Value.int .i64 a,.int .i64 ae,.int .i64 b,.int .i64 be,.int .i64 p,.int .i64 q],u.oneCell'=true:=by simp [Value.oneCell']
 obtain ⟨y0,y1,y2,y3,y5,y6⟩:=six (w:=w.drew) a3;have y4:w.drew.cell? ⟨vb,i,none⟩=some (.slice ad l.length cap):=ab;have d:w.drew.grownBy (w.drew.alloc (.cells #[.int .i64 a,.int .i64 ae,.int .i64 b,.int .i64 be,.int .i64 p,.int .i64 q] 193)) none:=QrM _ _ none;have aj:w.drew.ownsRow B 193 6 (.slice ad l.length cap) l.length (cellsOf l):=a6;have ak:(w.drew.alloc (.cells #[.int .i64 a,.int .i64 ae,.int .i64 b,.int .i64 be,.int .i64 p,.int .i64 q] 193)).ownsRow B 193 6 (.slice ad l.length cap) l.length (cellsOf l):=World.ownsRow.kept (w:=w.drew) aj d (Classical.em _);have al:∀ (j:Nat) (u:Value),[Value.int .i64 a,.int .i64 ae,.int .i64 b,.int .i64 be,.int .i64 p,.int .i64 q][j]? = some u->(w.drew.alloc (.cells #[.int .i64 a,.int .i64 ae,.int .i64 b,.int .i64 be,.int .i64 p,.int .i64 q] 193)).cell? ((⟨w.drew.heap.size,0,none⟩:Addr).add j)=some u:=World.news_of_block (heap_alloc_new _ _);have h:w.drew.heap.size<=(w.drew.alloc (.cells #[.int .i64 a,.int .i64 ae,.int .i64 b,.int .i64 be,.int .i64 p,.int .i64 q] 193)).heap.size:=d.size;have a4:B<=(w.drew.alloc (.cells #[.int .i64 a,.int .i64 ae,.int .i64 b,.int .i64 be,.int .i64 p,.int .i64 q] 193)).heap.size:=QrO hB h;have ac:vb<w.drew.heap.size:=az;have aw:=(d.block vb ac (fun e=>by cases e)).trans a2;have k:=d.cell_far ⟨vb,i,none⟩ ac (fun e=>by cases e);have k:=k.trans y4;have a7:(1:Nat)*6=6:=rfl
 go_region_law (first
   |(refine step_append_lies (w.drew.alloc (.cells #[.int .i64 a,.int .i64 ae,.int .i64 b,.int .i64 be,.int .i64 p,.int .i64 q] 193)) (by rfl) _ _ 25 (by rfl) B 193 y (.agg #[.int .i64 0,.int .i64 0,.int .i64 0,.int .i64 0,.int .i64 0,.int .i64 0]) 6 48 Tryz.underlying25 hi hz f aa (by rfl) QoX _ l.length (cellsOf l) (by rfl) ak ⟨w.drew.heap.size,0,none⟩ 1 1 [Value.int .i64 a,.int .i64 ae,.int .i64 b,.int .i64 be,.int .i64 p,.int .i64 q] (by rfl) rfl al q3 QoX q1 q2 a4 _ rfl ?_;intro g c2 W2 ay ar hat bc;
     have rx:=(ar.cell_far ⟨vb,i,none⟩ (QrB ac h) (fun e=>ax e.symm)).trans k;
     have rf:=frozen_of_row W2 vb i au 25 ((ar.block vb (QrB ac h) (fun e=>ax e.symm)).trans aw)))
 all_goals
  dsimp only [Q6x];have E:=Q45 (w:=w.drew) (row:=[D.int .i64 a,.int .i64 ae,.int .i64 b,.int .i64 be,.int .i64 p,.int .i64 q]) ⟨hN.row,hN.each,hN.outer,hN.apart⟩ hx hl rfl d ay ar hat;exact ⟨_,_,_,_,_,_,_,_,_,rfl,E.1,⟨E.2.own,E.2.os,E.2.tape,E.2.output,E.2.size,E.2.block⟩⟩
end
theorem Q7Q {N:Nat} {l0 l1 l2 c:LL} {a ae b be p q:Int} (h:Yc N l0 l1 l2 c a ae b be p q some=some true) {S:Nat->Prop} {w:World} (hS:∀ b,S b->b<w.heap.size) {v0 d f g:Value}
  (i:Rd S w v0 (.sl 1 l0)) (j:Rd S w d (.sl 1 l1)) (h2:Rd S w f (.sl 5 l2)) (k:Rd S w g (.sl 6 c)) :
  Calls Tryz.prog 250 #[.agg #[v0,d,f,g],.agg #[.int .i64 a,.int .i64 ae,.int .i64 b,.int .i64 be,.int .i64 p,.int .i64 q]] w fun e w'=>e = .returned (.bool true)/\RowKit.Below w.heap.size w w':=by
 have he:(HG N).E Dl 0 true [.ag ([D.sl 1 l0,.sl 1 l1,.sl 5 l2,.sl 6 c].map .d),.ag ([D.int .i64 a,.int .i64 ae,.int .i64 b,.int .i64 be,.int .i64 p,.int .i64 q].map .d)] (fun _=>none) some=some ⟨.d (.bool true),[],[]⟩:=by
  show gb true (Yc N l0 l1 l2 c a ae b be p q some) false (fun r=>(some ⟨.d (D.bool r),[],[]⟩:oP Dl))=_;rw [h];rfl
 exact Sb (Y8 ((HG N).ok) he) hS (Hu (RdLs.agg (.cons i (.cons j (.cons h2 (.cons k .nil))))) (RdLs.agg (.cons (.int _ _) (.cons (.int _ _) (.cons (.int _ _) (.cons (.int _ _) (.cons (.int _ _) (.cons (.int _ _) .nil))))))))
theorem Q2X {N:Nat} {x:LL} {a ae b be:Int} (h:Gy N x a ae b be some=some false) {S:Nat->Prop} {w:World} (hS:∀ b,S b->b<w.heap.size) {v:Value} (hv:Rd S w v (.sl 6 x)) :
  Calls Tryz.prog 253 #[v,.agg #[.int .i64 a,.int .i64 ae],.agg #[.int .i64 b,.int .i64 be]] w fun e w'=>e = .returned (.bool false)/\RowKit.Below w.heap.size w w':=by
 have he:(Nk N).E Dl 0 true [.d (.sl 6 x),.ag ([D.int .i64 a,.int .i64 ae].map .d),.ag ([D.int .i64 b,.int .i64 be].map .d)] (fun _=>none) some=some ⟨.d (.bool false),[],[]⟩:=by
  show gb true (Gy N x a ae b be some) false (fun r=>(some ⟨.d (D.bool r),[],[]⟩:oP Dl))=_;rw [h];rfl
 exact Sb (Y8 ((Nk N).ok) he) hS (QdA (.d _ _ hv) (RdLs.agg (.cons (.int _ _) (.cons (.int _ _) .nil))) (RdLs.agg (.cons (.int _ _) (.cons (.int _ _) .nil))))
theorem Q11 {N:Nat} {x:LL} {a ae b be p q:Int} (h:JU N a ae b be p q x some=some true) {S:Nat->Prop} {w:World} (hS:∀ b,S b->b<w.heap.size) {v:Value} (hv:Rd S w v (.sl 6 x)) :
  Calls Tryz.prog 254 #[.agg #[.int .i64 a,.int .i64 ae,.int .i64 b,.int .i64 be,.int .i64 p,.int .i64 q],v] w fun e w'=>e = .returned (.bool true)/\RowKit.Below w.heap.size w w':=by
 have he:(FZ N).E Dl 0 true [.ag ([D.int .i64 a,.int .i64 ae,.int .i64 b,.int .i64 be,.int .i64 p,.int .i64 q].map .d),.d (.sl 6 x)] (fun _=>none) some=some ⟨.d (.bool true),[],[]⟩:=by
  show gb true (JU N a ae b be p q x some) false (fun r=>(some ⟨.d (D.bool r),[],[]⟩:oP Dl))=_;rw [h];rfl
 exact Sb (Y8 ((FZ N).ok) he) hS (Hu (RdLs.agg (.cons (.int _ _) (.cons (.int _ _) (.cons (.int _ _) (.cons (.int _ _) (.cons (.int _ _) (.cons (.int _ _) .nil))))))) (.d _ _ hv))
theorem Q25 {N:Nat} {l0 l1 l2 d:LL} {st:List LL} {l:LL} {j:Nat} (hj:j<l.length) (h:KN N l0 l1 l2 d st (l.drop j)=true) :
  ∃ a ae b be p q x y,l[j]? = some [D.int .i64 a,.int .i64 ae,.int .i64 b,.int .i64 be,.int .i64 p,.int .i64 q]/\((0<=a/\a<l2.length)/\(0<=ae/\ae<=1)/\(0<=b/\b<l2.length)/\(0<=be/\be<=1)) /\
   Yc N l0 l1 l2 d a ae b be p q some=some true/\(2*a+ae).toNat≠(2*b+be).toNat/\st[(2*a+ae).toNat]? = some x/\st[(2*b+be).toNat]? = some y /\
   Gy N x a ae b be some=some false/\JU N a ae b be p q x some=some true/\JU N a ae b be p q y some=some true/\x.length<=1/\y.length<=1 /\
   KN N l0 l1 l2 d ((st.set (2*a+ae).toNat (x++[[D.int .i64 a,.int .i64 ae,.int .i64 b,.int .i64 be,.int .i64 p,.int .i64 q]])).set (2*b+be).toNat (y++[[D.int .i64 a,.int .i64 ae,.int .i64 b,.int .i64 be,.int .i64 p,.int .i64 q]])) (l.drop (j+1))=true:=by
 rw [List.drop_eq_getElem_cons hj] at h;unfold KN at h;split at h
 ·rename_i a ae b be p q e;simp only [QrA,Bool.not_eq_true',decide_eq_true_eq] at h;obtain ⟨⟨⟨g1,f⟩,g⟩,c⟩:=h;split at c
  ·rename_i x y hx hy;simp only [QrA] at c;obtain ⟨⟨⟨⟨⟨k1,i⟩,k⟩,m⟩,n⟩,k6⟩:=c;refine ⟨a,ae,b,be,p,q,x,y,by rw [QrI hj,e],?_,NK f,?_,hx,hy,Q9N k1,NK i,NK k,Qrz m,Qrz n,by rw [<- e];exact k6⟩
   ·obtain ⟨⟨⟨⟨⟨⟨⟨o,r⟩,s⟩,t⟩,u⟩,v⟩,z⟩,z8⟩:=g1;exact ⟨⟨o,r⟩,⟨s,t⟩,⟨u,v⟩,⟨z,z8⟩⟩
   ·exact Nat.ne_of_beq_eq_false g
  ·cases c
 ·cases h
theorem Q82 {w a:World} {B N vb:Nat} (h:a.ownsRow B 25 1 (.slice (some ⟨vb,0,none⟩) N N) N (List.replicate N (.slice none 0 0))):NestK 25 193 6 a B (.slice (some ⟨vb,0,none⟩) N N) (List.replicate N (.slice none 0 0)) (List.replicate N []):=by
 refine ⟨by simpa using h,fun i x l hx hl=>?_,fun i x b hx hb=>?_,fun i j x y b hx hy ac an=>?_⟩
 ·have e1:=Qry hx;have e2:=Qry hl;obtain ⟨_,rfl⟩:=QrG.1 e1;obtain ⟨_,rfl⟩:=QrG.1 e2;exact World.ownsRow_nil a B 193 6
 ·obtain ⟨_,rfl⟩:=QrG.1 (Qry hx);cases hb
 ·obtain ⟨_,rfl⟩:=QrG.1 (Qry hx);cases ac
theorem Q9K {w:World} {B i:Nat} {v:Value} {hd:List Value} {ll:List LL} {l:LL} (h:NestK 25 193 6 w B v hd ll) (hl:ll[i]? = some l):∃ (ad:oP Addr) (cap:Nat),hd[i]? = some (.slice ad l.length cap):=by
 have hi:i<hd.length:=by rw [h.len];exact (Qrw.1 hl).1
 have hx:=QrI hi;rcases (h.each i hd[i] l hx hl).2 with ⟨e,a⟩ | ⟨g,cap,aj,e,_⟩
 ·exact ⟨none,0,by rw [hx,e,a]⟩
 ·exact ⟨some ⟨g,0,none⟩,cap,by rw [hx,e]⟩
theorem Q5W {w:World} {B i:Nat} {v x:Value} {hd:List Value} {ll:List LL} {l:LL} (h:NestK 25 193 6 w B v hd ll) (hx:hd[i]? = some x) (hl:ll[i]? = some l) (ac:∀ l∈ll,∀ r∈l,DD 6 r=true) :
  (∀ b,x.ownBlock=some b->b<w.drew.heap.size)/\Rd (fun b=>x.ownBlock=some b) w.drew x (.sl 6 l):=
 ⟨fun b hb=>(h.blk hx hb).2,Rd.mono (w:=w) (w':=w.drew) (fun _ h=>h) (fun _ _=>rfl) (Qh1 (w:=w) (h.each i x l hx hl) (ac l (Qry hl)) (fun _ h=>h))⟩
theorem BO {w:World} {B vb N i:Nat} {x:Value} {hd:List Value} {ll:List LL} (h:NestK 25 193 6 w B (.slice (some ⟨vb,0,none⟩) N N) hd ll) (hx:hd[i]? = some x):w.cell? ⟨vb,i,none⟩=some x:=by
 have:=h.row.cells (g:=vb) rfl i _ hx;rwa [G4,QrP] at this
theorem Q8A {ll:List LL} {i:Nat} {x:LL} {row:List D} (h:∀ l∈ll,∀ r∈l,DD 6 r=true) (hx:ll[i]? = some x) (hr:DD 6 row=true):∀ l∈ll.set i (x++[row]),∀ r∈l,DD 6 r=true:=by
 intro l hl r ac;rcases List.mem_or_eq_of_mem_set hl with a | rfl
 ·exact h l a r ac
 ·rcases List.mem_append.1 ac with a | a
  ·exact h x (Qry hx) r a
  ·simp at a;subst a;exact hr
theorem Q0I {w0 w w':World} {n vb:Nat} {x x':Value} (h:Below n w0 w) (hg:Grew w w' vb x x') (hn:n<=w.heap.size) (hv:n<=vb) (hx:∀ c,x.ownBlock=some c->n<=c):Below n w0 w':=
 ⟨hg.os.trans h.os,hg.tape.trans h.tape,hg.output.trans h.output,QrO h.size hg.size,fun k hk=>(hg.block k QoW QoW (fun e=>by have:=hx k e;omega)).trans (h.block k hk)⟩
theorem QaL {a ae b be:Int} (h:¬ (a=b/\ae=be)) (w:World):(binOp .eql 323 (.agg #[.int .i64 a,.int .i64 ae]) (.agg #[.int .i64 b,.int .i64 be])).run Tryz.prog w = .ok (.bool false) w:=by
 go_simp
 exact fun e1 e2=>h ⟨e1,e2⟩
set_option maxHeartbeats 16000000 in
set_option maxRecDepth 100000 in
theorem Tryz.links_calls {N:Nat} (S:Nat->Prop) (w:World) (hS:∀ b,S b->b<w.heap.size) (l0 l1 l2 d:LL) (v0 v1 v2 v3:Value) (h0:Rd S w v0 (.sl 1 l0)) (h1:Rd S w v1 (.sl 1 l1)) (h2:Rd S w v2 (.sl 5 l2)) (h3:Rd S w v3 (.sl 6 d))
  (m2:l2.length<=96) (m3:d.length<=192) (c9:KN N l0 l1 l2 d (List.replicate (2*l2.length) []) d=true) :
  Calls Tryz.prog 213 #[.agg #[v0,v1,v2,v3]] w fun e w'=>e = .returned (.int .i64 0)/\Below w.heap.size w w':=by
 obtain ⟨s,t,rfl⟩:=KW h0;obtain ⟨u,v,rfl⟩:=KW h1;obtain ⟨m,n,rfl⟩:=KW h2;obtain ⟨z,o,rfl⟩:=KW h3;obtain ⟨i0,hi,ce⟩:=QrC.1 (show (Tryz.prog.info? 25).map (fun i=>(i.zero,i.size,i.bytes))=some (some (.slice none 0 0),1,24) by kernel_rfl);obtain ⟨hz,aj⟩:=Prod.mk.inj ce;obtain ⟨aj,cf⟩:=Prod.mk.inj aj;have d3:∀ w:World,∃ w',(Instr.makeSlice 320 (.int .i64 (2*(l2.length:Int))) (.int .i64 (2*(l2.length:Int)))).run Tryz.prog w = .ok (.slice (some ⟨w.heap.size,0,none⟩) (2*l2.length) (2*l2.length)) w' /\
   w'.ownsRow w.heap.size 25 1 (.slice (some ⟨w.heap.size,0,none⟩) (2*l2.length) (2*l2.length)) (2*l2.length) (List.replicate (2*l2.length) (.slice none 0 0))/\w.grownBy w' none:=by
  intro w;obtain ⟨w',r1,r2,r3⟩:=run_make_full w w.heap.size 320 25 i0 (.slice none 0 0) 1 Tryz.underlying320 hi hz aj .i64 .i64 (2*l2.length) (by rw [cf];omega) (by unfold maxLen;omega) (QrL _);refine ⟨w',by rw [<- r1];simp,?_,r3⟩;have e:(madeCells (Value.slice none 0 0).cells (2*l2.length*1)).toList=List.replicate (2*l2.length) (.slice none 0 0):=by
   apply List.ext_getElem
   ·simp [size_madeCells]
   ·intro i h1 h2;simp [madeCells,Value.cells,Nat.mod_one]
  rw [<- e];exact r2
 have f6:wrap64 (2*(l2.length:Int))=2*(l2.length:Int):=by unfold wrap64;omega
 have bl:(w.alloc (.cells #[.slice s l0.length t,.slice u l1.length v,.slice m l2.length n,.slice z d.length o] 27)).heap[w.heap.size]? = some (.cells #[.slice s l0.length t,.slice u l1.length v,.slice m l2.length n,.slice z d.length o] 27 (0,0)):=heap_alloc_new w _;have a6:Below w.heap.size w (w.alloc (.cells #[.slice s l0.length t,.slice u l1.length v,.slice m l2.length n,.slice z d.length o] 27)):=U9 (Below.refl _ _) (QrL _) _;have bc:(w.alloc (.cells #[.slice s l0.length t,.slice u l1.length v,.slice m l2.length n,.slice z d.length o] 27)).heap.size=w.heap.size+1:=by simp
 obtain ⟨w2,b7,bk,ao⟩:=d3 (w.alloc (.cells #[.slice s l0.length t,.slice u l1.length v,.slice m l2.length n,.slice z d.length o] 27));have a2:=(ao.block w.heap.size QoY QoY).trans bl;have ay:Below w.heap.size w w2:=⟨ao.os.trans a6.os,ao.tape.trans a6.tape,ao.output.trans a6.output,QrO a6.size ao.size,fun b hb=>(ao.block b QoW QoY).trans (a6.block b hb)⟩;have ej:=ao.size;rw [bc] at b7 bk ej;have c8:=Q82 (w:=w) bk;clear d3 ao bk;have y2:(w.alloc (.cells #[.slice s l0.length t,.slice u l1.length v,.slice m l2.length n,.slice z d.length o] 27)).cell? ⟨w.heap.size,2,none⟩=some (.slice m l2.length n):=by rw [Qru bl];rfl
 have z3:w2.cell? ⟨w.heap.size,3,none⟩=some (.slice z d.length o):=by rw [Qru a2];rfl
 go_enter Tryz.func213,Tryz.ntmps213
 go_wp2
 clear b7 bl y2 z3 a6 bc;generalize eo:w.heap.size=H0 at *
 go_loopw [18] (fun i wr=>∃ (j:Nat) (hd:List Value) (ll:List LL),j<=d.length/\i = .int .i64 j/\NestK 25 193 6 wr (H0+1) (.slice (some ⟨H0+1,0,none⟩) (2*l2.length) (2*l2.length)) hd ll/\ll.length=2*l2.length /\
   KN N l0 l1 l2 d ll (d.drop j)=true/\(∀ l∈ll,∀ r∈l,DD 6 r=true)/\wr.heap[H0]? = some (.cells #[.slice s l0.length t,.slice u l1.length v,.slice m l2.length n,.slice z d.length o] 27 (0,0))/\Below H0 w wr)
  (fun i _=>d.length-(intOf i).toNat)
 case atStart=>
  refine ⟨0,_,_,Nat.zero_le _,rfl,c8,by simp,by simpa using c9,fun l hl r hr=>?_,a2,ay⟩;obtain ⟨_,rfl⟩:=QrG.1 hl;cases hr
 case round=>
  obtain ⟨j,hd,ll,hj,rfl,hN,cz,eb,a4,dh,hF⟩:=hrel;clear c8 c9 a2 ay;by_cases d9:j<d.length
  ·have fc:((j:Int)<(d.length:Int)):=QoW
   obtain ⟨a,ae,b,be,p,q,x,y,em,⟨⟨cj,di⟩,⟨ck,cm⟩,⟨cn,dj⟩,⟨co,cp⟩⟩,b4,cc,hx,hy,cg,cq,cr,fw,gg,cw⟩:=Q25 d9 eb;have ee:∀ c,c<H0->wr.heap[c]? = w.heap[c]?:=fun c hc=>hF.block c hc
   have gt:∀ c,S c->c<wr.heap.size:=fun c hc=>by have:=hS c hc;have:=hF.size;omega
   have bg:=Rd.keep (w':=wr) h3 hS ee;obtain ⟨a3,rfl,_,_,ak⟩:=Qag bg em;obtain ⟨u0,x0,q0⟩:=ak 0 _ rfl;obtain ⟨u1,x1,q1⟩:=ak 1 _ rfl;obtain ⟨fy,x2,q2⟩:=ak 2 _ rfl;obtain ⟨gj,x3,q3⟩:=ak 3 _ rfl;obtain ⟨ga,x4,q4⟩:=ak 4 _ rfl;obtain ⟨f4,x5,q5⟩:=ak 5 _ rfl;rw [Rx q0,Nat.add_zero] at x0;rw [Rx q1,HZ _ _ _ QoX] at x1;rw [Rx q2,HZ _ _ _ QoX] at x2;rw [Rx q3,HZ _ _ _ QoX] at x3;rw [Rx q4,HZ _ _ _ QoX] at x4;rw [Rx q5,HZ _ _ _ QoX] at x5;clear ak q0 q1 q2 q3 q4 q5 bg;have dn:H0+1<=wr.heap.size:=(Qrx.1 dh).1;have gp:H0+1<wr.heap.size:=(hN.row.lt (H0+1) rfl).2;obtain ⟨bo,bp,a8⟩:=Q9K hN hx;obtain ⟨b5,b3,b1⟩:=Q9K hN hy;have a5:∀ c,(Value.slice bo x.length bp).ownBlock=some c->H0+1<=c/\c<wr.heap.size:=fun c hc=>hN.blk a8 hc
   have bj:∀ c,(Value.slice b5 y.length b3).ownBlock=some c->H0+1<=c/\c<wr.heap.size:=fun c hc=>hN.blk b1 hc
   have bn:wr.grownBy (wr.alloc (.cells #[.int .i64 a,.int .i64 ae,.int .i64 b,.int .i64 be,.int .i64 p,.int .i64 q] 193)) none:=QrM wr _ none;have al:(wr.alloc (.cells #[.int .i64 a,.int .i64 ae,.int .i64 b,.int .i64 be,.int .i64 p,.int .i64 q] 193)).heap[wr.heap.size]? = some (.cells #[.int .i64 a,.int .i64 ae,.int .i64 b,.int .i64 be,.int .i64 p,.int .i64 q] 193 (0,0)):=heap_alloc_new wr _;have d6:=Gl hN bn;have cx:=U9 hF QoW (.cells #[.int .i64 a,.int .i64 ae,.int .i64 b,.int .i64 be,.int .i64 p,.int .i64 q] 193);have aa:=(bn.block H0 QoW QoY).trans dh;have dp:(wr.alloc (.cells #[.int .i64 a,.int .i64 ae,.int .i64 b,.int .i64 be,.int .i64 p,.int .i64 q] 193)).heap.size=wr.heap.size+1:=by simp
   generalize en:wr.alloc (.cells #[.int .i64 a,.int .i64 ae,.int .i64 b,.int .i64 be,.int .i64 p,.int .i64 q] 193)=W1 at *
   generalize dq:wr.heap.size=f at *
   have ab:∀ c,c<H0->W1.heap[c]? = w.heap[c]?:=fun c hc=>cx.block c hc
   have b8:∀ c,S c->c<W1.heap.size:=fun c hc=>by have:=hS c hc;omega
   have k0:=Rd.keep (w':=W1) h0 hS ab;have k1:=Rd.keep (w':=W1) h1 hS ab;have k2:=Rd.keep (w':=W1) h2 hS ab;have k3:=Rd.keep (w':=W1) h3 hS ab;have z0:W1.cell? ⟨H0,0,none⟩=some (.slice s l0.length t):=by rw [Qru aa];rfl
   have z1:W1.cell? ⟨H0,1,none⟩=some (.slice u l1.length v):=by rw [Qru aa];rfl
   have z2:W1.cell? ⟨H0,2,none⟩=some (.slice m l2.length n):=by rw [Qru aa];rfl
   have z3:W1.cell? ⟨H0,3,none⟩=some (.slice (some a3) d.length o):=by rw [Qru aa];rfl
   obtain ⟨c0,c1,c2,c3,c4,c5⟩:=six al
   go_wp2_with (go_at_call 250;refine (Q7Q b4 b8 k0 k1 k2 k3).mono ?_)
   rintro e W2 ⟨rfl,ay⟩;have aq:=(ay.block f QoW).trans al;have bq:=(ay.block H0 QoW).trans aa;have db:=Gl d6 (Wb ay);have d7:=Vh cx QoW ay;have dr:=ay.size;clear c0 c1 c2 c3 c4 c5 z0 z1 z2 z3 k0 k1 k2 k3 ab b8 al aa d6 cx;obtain ⟨c0,c1,c2,c3,c4,c5⟩:=six aq
   go_wp2_with (go_at_call 251;refine (Tryz.ends_calls W2 a ae b be p q).mono ?_)
   rintro e W3 ⟨rfl,bh⟩
   go_wp2
   clear c0 c1 c2 c3 c4 c5;have ds:=bh.size;have ac:W3.grownBy ((W3.alloc (.cells #[.int .i64 a,.int .i64 ae] 323)).alloc (.cells #[.int .i64 b,.int .i64 be] 323)) none:=⟨rfl,rfl,rfl,by simp;omega,fun k hk _=>by rw [QrJ _ _ _ QoZ,QrJ _ _ _ hk]⟩;have c7:=U9 (U9 (Vh d7 QoW bh) QoW (.cells #[.int .i64 a,.int .i64 ae] 323)) QoW (.cells #[.int .i64 b,.int .i64 be] 323);have br:=(ac.block f QoW QoY).trans ((bh.block f QoW).trans aq);have bt:=(ac.block H0 QoW QoY).trans ((bh.block H0 QoW).trans bq);have da:=Gl (Gl db (Wb bh)) ac;have ad:((W3.alloc (.cells #[.int .i64 a,.int .i64 ae] 323)).alloc (.cells #[.int .i64 b,.int .i64 be] 323)).heap[W3.heap.size]? = some (.cells #[.int .i64 a,.int .i64 ae] 323 (0,0)):=by
    rw [QrJ _ _ _ QoY];exact heap_alloc_new _ _
   have ag:((W3.alloc (.cells #[.int .i64 a,.int .i64 ae] 323)).alloc (.cells #[.int .i64 b,.int .i64 be] 323)).heap[W3.heap.size+1]? = some (.cells #[.int .i64 b,.int .i64 be] 323 (0,0)):=by
    have:=heap_alloc_new (W3.alloc (.cells #[.int .i64 a,.int .i64 ae] 323)) (.cells #[.int .i64 b,.int .i64 be] 323);simpa using this
   have dt:((W3.alloc (.cells #[.int .i64 a,.int .i64 ae] 323)).alloc (.cells #[.int .i64 b,.int .i64 be] 323)).heap.size=W3.heap.size+2:=by simp
   clear ac aq bq db d7;generalize ef:(W3.alloc (.cells #[.int .i64 a,.int .i64 ae] 323)).alloc (.cells #[.int .i64 b,.int .i64 be] 323)=W4 at *
   generalize e3:W3.heap.size=g at *
   have ff:f<W2.heap.size:=QoW
   clear ef en;have c0:W4.cell? ⟨g,0,none⟩=some (.int .i64 a):=by rw [Qru ad];rfl
   have c1:W4.cell? ⟨g,1,none⟩=some (.int .i64 ae):=by rw [Qru ad];rfl
   have d0:W4.cell? ⟨g+1,0,none⟩=some (.int .i64 b):=by rw [Qru ag];rfl
   have d1:W4.cell? ⟨g+1,1,none⟩=some (.int .i64 be):=by rw [Qru ag];rfl
   refine Code.wp_mono ?_ (Tryz.links_r8 (H0+1) (2*l2.length) g (g+1) a ae b be W4 c0 c1 d0 d1 cj QoW ck cm cn QoW co cp QoW QoW);clear c0 c1 d0 d1;rintro e act W5 h;cases e with
   |normal=>
    obtain ⟨_,_,_,_,_,_,_,_,rfl,az⟩:=h;have fo:=az.size;have cy:=Vh c7 QoW az;have bu:=(az.block f QoW).trans br;have bv:=(az.block H0 QoW).trans bt;have bm:=Gl da (Wb az);have ar:=(az.block g QoW).trans ad;have au:=(az.block (g+1) QoW).trans ag;clear c7 br bt da ad ag az;have e5:=QaL (a:=a) (ae:=ae) (b:=b) (be:=be) (fun h=>cc (by rw [h.1,h.2]));generalize fv:(2*a+ae).toNat=ia at *
    generalize ge:(2*b+be).toNat=ib at *
    have c0:W5.cell? ⟨g,0,none⟩=some (.int .i64 a):=by rw [Qru ar];rfl
    have c1:W5.cell? ⟨g,1,none⟩=some (.int .i64 ae):=by rw [Qru ar];rfl
    have d0:W5.cell? ⟨g+1,0,none⟩=some (.int .i64 b):=by rw [Qru au];rfl
    have d1:W5.cell? ⟨g+1,1,none⟩=some (.int .i64 be):=by rw [Qru au];rfl
    dsimp only [Exit.then]
    go_wp2
    have jx:=Q5W bm a8 hx a4;have an:=BO bm a8;refine Code.wp_mono ?_ (Tryz.links_r11 (H0+1) ia g (g+1) x.length bp bo a ae b be W5 c0 c1 d0 d1 an (Q2X cg jx.1 jx.2));clear c0 c1 d0 d1 jx an;rintro e act W6 h;cases e with
    |normal=>
     obtain ⟨_,_,_,_,_,_,rfl,a7⟩:=h;have du:=a7.size;have d4:=Vh cy QoW a7;have av:=(a7.block f QoW).trans bu;have bx:=(a7.block H0 QoW).trans bv;have b0:=Gl bm (Wb a7);clear cy bu bv bm ar au a7;dsimp only [Exit.then]
     go_wp2
     have jx:=Q5W b0 a8 hx a4;have an:=BO b0 a8;refine Code.wp_mono ?_ (Tryz.links_r13 (H0+1) ia f x.length bp bo a ae b be p q W6 av an (Q11 cq jx.1 jx.2));clear jx an;rintro e act W7 h;cases e with
     |normal=>
      obtain ⟨_,_,_,_,_,_,rfl,ba⟩:=h;have dw:=ba.size;have c6:=Vh d4 QoW ba;have aw:=(ba.block f QoW).trans av;have bz:=(ba.block H0 QoW).trans bx;have b2:=Gl b0 (Wb ba);clear d4 av bx b0 ba;dsimp only [Exit.then]
      go_wp2
      have jx:=Q5W b2 b1 hy a4;have an:=BO b2 b1;refine Code.wp_mono ?_ (Tryz.links_r14 (H0+1) ib f y.length b3 b5 a ae b be p q W7 aw an (Q11 cr jx.1 jx.2));clear jx an;rintro e act W8 h;cases e with
      |normal=>
       obtain ⟨_,_,_,_,_,_,rfl,a9⟩:=h;have dx:=a9.size;have dg:=Vh c6 QoW a9;have ax:=(a9.block f QoW).trans aw;have ca:=(a9.block H0 QoW).trans bz;have d5:=Gl b2 (Wb a9);clear c6 aw bz b2 a9;dsimp only [Exit.then]
       go_wp2
       refine Code.wp_mono ?_ (Tryz.links_r16 (H0+1) (H0+1) (2*l2.length) ia f bp bo a ae b be p q hd ll x W8 ax d5 a8 hx QoW QoW QoW (fun e=>by have:=(a5 f e).2;omega));rintro e act W9 h;cases e with
       |normal=>
        obtain ⟨_,_,_,_,_,_,_,_,xx,rfl,es,bi⟩:=h;have dy:=bi.size;have ep:=Q0I dg bi QoW QoW (fun c hc=>by have:=(a5 c hc).1;omega);have dc:=(bi.block f QoW QoW (fun e=>by have:=(a5 f e).2;omega)).trans ax;have dd:=(bi.block H0 QoW QoW (fun e=>by have:=(a5 H0 e).1;omega)).trans ca;clear dg ax ca d5 bi;have de:(hd.set ia xx)[ib]? = some (.slice b5 y.length b3):=by rw [QrS,QrK cc];exact b1
        have cb:(ll.set ia (x++[[D.int .i64 a,.int .i64 ae,.int .i64 b,.int .i64 be,.int .i64 p,.int .i64 q]]))[ib]? = some y:=by rw [QrS,QrK cc];exact hy
        dsimp only [Exit.then]
        go_wp2
        refine Code.wp_mono ?_ (Tryz.links_r17 (H0+1) (H0+1) (2*l2.length) ib f b3 b5 a ae b be p q _ _ y W9 dc es de cb QoW QoW QoW (fun e=>by have:=(bj f e).2;omega));rintro e act W10 h;cases e with
        |normal=>
         obtain ⟨_,_,_,_,_,_,_,_,yy,rfl,dz,b9⟩:=h;have d2:=Q0I ep b9 QoW QoW (fun c hc=>by have:=(bj c hc).1;omega);have df:=(b9.block H0 QoW QoW (fun e=>by have:=(bj H0 e).1;omega)).trans dd;have b6:=Q8A (Q8A a4 hx (by rfl)) cb (row:=[D.int .i64 a,.int .i64 ae,.int .i64 b,.int .i64 be,.int .i64 p,.int .i64 q]) (by rfl)
         go_wp2
         refine ⟨⟨j+1,_,_,QoW,by rw [Int.natCast_add];rfl,dz,by simpa using cz,cw,b6,df,d2⟩,?_⟩;simp only [intOf];omega
        |_=>exact h.elim
       |_=>exact h.elim
      |_=>exact h.elim
     |_=>exact h.elim
    |_=>exact h.elim
   |_=>exact h.elim
  ·go_wp2
   refine bodyPost_ret (results_tmp rfl _ _ _) rfl ?_;rw [<- eo] at hF;exact ⟨rfl,hF⟩
theorem QjX {S:Nat->Prop} {w:World} {xs:List D}:∀ {vs:List Value},vs.length=xs.length->(∀ (i:Nat) (v:Value) (x:D),vs[i]? = some v->xs[i]? = some x->Rd S w v x)->RdLs S w vs xs:=by
 induction xs with
 |nil=>intro vs h _;have:vs=[]:=List.eq_nil_of_length_eq_zero h;subst this;exact .nil
 |cons x xs ih=>
  intro vs h hr
  match vs,h with
  |v::vs,h=>exact .cons (hr 0 v x rfl rfl) (ih (by simpa using h) fun i u y a h2=>hr (i+1) u y (by simpa using a) (by simpa using h2))
theorem Q4M {β:Nat->oP Nat} {S:Nat->Prop} {h:Nat->oP Ob} {w:World} {tm:Nat->Value} {v:Value} {xs:List D} (hv:RdA β S h w tm v (.ag (xs.map .d))):∃ vs:List Value,v = .agg vs.toArray/\RdLs S w vs xs:=by
 cases hv with
 |ag cs l hl hr=>
  obtain ⟨vs⟩:=cs;refine ⟨vs,rfl,QjX (by simpa using hl) fun i u x a h2=>?_⟩;have:=hr i (.d x) (by simp [h2]);simp [Array.getD,(Qrw.1 a).1] at this;rw [(Qrw.1 a).2] at this;cases this with
  |d _ _ q=>exact q
  |dang _ _ _ hl=>cases hl
 |dang v av l hl=>cases hl
theorem Qbe {β:Nat->oP Nat} {S:Nat->Prop} {h:Nat->oP Ob} {w:World} {args:List Value} {a:AV} (hA:ArgsRd β S h w args [a]):∃ v,args=[v]/\RdA β S h w tm0 v a:=Q7X hA
theorem Qbk {β:Nat->oP Nat} {S:Nat->Prop} {h:Nat->oP Ob} {w:World} {args:List Value} {a b:AV} (hA:ArgsRd β S h w args [a,b]):∃ v u,args=[v,u]/\RdA β S h w tm0 v a/\RdA β S h w tm0 u b:=by
 obtain ⟨c,h2⟩:=hA
 match args,c with
 |[v,u],_=>exact ⟨v,u,rfl,h2 0 v a rfl rfl,h2 1 u b rfl rfl⟩
theorem Q2z (n:Nat) (l0 l1 l2 a:LL) (res:Int) {hl:Nat->oP Ob} (h:Zm n l0 l1 l2 a some=some res):ZM Tryz.prog 158 [.ag [.d (D.sl 1 l0),.d (D.sl 1 l1),.d (D.sl 5 l2),.d (D.sl 6 a)]] hl ⟨.d (D.int .i64 res),[],[]⟩:=by
 obtain ⟨aj,h⟩:=XG h;injection h with h
 subst h;refine MX (fn:=Tryz.f158) (by kernel_rfl) (by kernel_rfl) (by kernel_rfl) rfl rfl fun S w args hS hA=>?_
 obtain ⟨v,rfl,hv⟩:=Qbe hA;obtain ⟨vs,rfl,hr⟩:=Q4M (xs:=[D.sl 1 l0,.sl 1 l1,.sl 5 l2,.sl 6 a]) hv;cases hr with
 |cons c t=>
  cases t with
  |cons d t=>
   cases t with
   |cons h2 t=>
    cases t with
    |cons f t=>
     cases t;have ac:=aj;simp only [Pz,QrA,Bool.not_eq_true'] at ac;obtain ⟨⟨⟨⟨⟨⟨⟨⟨l,m⟩,g⟩,i⟩,o⟩,p⟩,q⟩,ns⟩,nl⟩:=ac;refine (Tryz.layout_calls S w hS l0 l1 l2 a _ _ _ _ c d h2 f aj fun w' ak k0 k1 j k=>Tryz.links_calls S w' ak l0 l1 l2 a _ _ _ _ k0 k1 j k (Qrz g) (Qrz i) nl).mono fun e w' ⟨he,hB⟩=>?_
     exact ⟨_,S,he,fun b h=>h,fun b h=>.inl h,fun b h=>QrB (hS b h) hB.size,.d _ _ (.int _ _),hB⟩
end Go.Vx
namespace Go.Proofs
open Go.RowKit
theorem Q0e {P:Program} {w:World} (a:Addr) (m:Mode) (f:Fn) (x y:Array Value):(store a (.func f x y) m).run P w=stored P w a (.func f x y) m:=run_store P w a _ m rfl
attribute [local go_sem] Q0e
def KM (r:Nat->Int):Nat->Nat->Int
 |0,_=>0
 |n+1,k=>if r k=0 then KM r n (k+1) else r k
theorem SH (r:Nat->Int):∀ (n k m:Nat),(∀ j,k<=j->j<k+m->r j=0)->KM r (m+n) k=KM r n (k+m)
 |n,k,0,_=>by simp
 |n,k,m+1,h=>by
  rw [show m+1+n=(m+n)+1 by omega];simp only [KM];rw [if_pos (h k (QrL _) QoW),SH r n (k+1) m (fun j a h2=>h j QoW QoW)];rw [show k+1+m=k+(m+1) by omega]
theorem Below.of {n:Nat} {w w':World} (a:w'.os=w.os) (h2:w'.tape=w.tape) (c:w'.output=w.output) (d:w.heap.size<=w'.heap.size) (e:∀ b,b<n->w'.heap[b]? = w.heap[b]?):Below n w w':=by
 exact ⟨a,h2,c,d,e⟩
set_option maxHeartbeats 4000000 in
set_option maxRecDepth 100000 in
theorem Tryz.plancheck_calls (w:World) (a0 a1 a2 d p0 p1 g l m n o p:Value) (r:Nat->Int)
  (h:∀ k:Nat,k<8->∀ w':World,w.heap.size<=w'.heap.size->(∀ b,b<w.heap.size->w'.heap[b]? = w.heap[b]?) ->
   Calls Tryz.prog (109+k) #[.agg #[a0,a1,a2,d],.agg #[p0,p1,g,l,m,n,o,p]] w' fun e aw=>e = .returned (.int .i64 (r k))/\Below w'.heap.size w' aw)
  (c:∀ x∈[a0,a1,a2,d,p0,p1,g,l,m,n,o,p],x.oneCell'=true) :
  Calls Tryz.prog 73 #[.agg #[a0,a1,a2,d],.agg #[p0,p1,g,l,m,n,o,p]] w fun e w'=>e = .returned (.int .i64 (KM r 8 0))/\Below w.heap.size w w':=by
 go_enter Tryz.func73,Tryz.ntmps73
 go_wp2
 go_loopw [11] (fun i wr=>∃ k:Nat,k<=8/\i = .int .i64 k/\(∀ j,j<k->r j=0)/\wr.heap[w.heap.size]? = some (.cells #[a0,a1,a2,d] 27 (0,0))/\wr.heap[w.heap.size+1]? = some (.cells #[p0,p1,g,l,m,n,o,p] 36 (0,0))/\Below w.heap.size w wr)
  (fun i _=>8-(intOf i).toNat)
 case atStart=>
  refine ⟨0,QoW,rfl,fun j hj=>absurd hj QoW,?_,?_,?_⟩
  ·rw [QrJ _ _ _ QoZ,QrJ _ _ _ QoY];exact heap_alloc_new w _
  ·rw [QrJ _ _ _ QoY,show w.heap.size+1=(w.alloc (.cells #[a0,a1,a2,d] 27)).heap.size by simp];exact heap_alloc_new _ _
  ·refine Below.of rfl rfl rfl QoZ fun b hb=>?_
   rw [QrJ _ _ _ QoZ,QrJ _ _ _ QoZ,QrJ _ _ _ hb]
 case round=>
  obtain ⟨k,hk,rfl,hz,f,a,hB⟩:=hrel;by_cases ao:k<8
  ·have ay:((k:Int)<8):=QoW
   have c0:wr.cell? ⟨w.heap.size,0,none⟩=some a0:=by rw [Qru f];rfl
   have c1:wr.cell? ⟨w.heap.size,1,none⟩=some a1:=by rw [Qru f];rfl
   have s:wr.cell? ⟨w.heap.size,2,none⟩=some a2:=by rw [Qru f];rfl
   have t:wr.cell? ⟨w.heap.size,3,none⟩=some d:=by rw [Qru f];rfl
   have d0:wr.cell? ⟨w.heap.size+1,0,none⟩=some p0:=by rw [Qru a];rfl
   have d1:wr.cell? ⟨w.heap.size+1,1,none⟩=some p1:=by rw [Qru a];rfl
   have u:wr.cell? ⟨w.heap.size+1,2,none⟩=some g:=by rw [Qru a];rfl
   have v:wr.cell? ⟨w.heap.size+1,3,none⟩=some l:=by rw [Qru a];rfl
   have y:wr.cell? ⟨w.heap.size+1,4,none⟩=some m:=by rw [Qru a];rfl
   have z:wr.cell? ⟨w.heap.size+1,5,none⟩=some n:=by rw [Qru a];rfl
   have d6:wr.cell? ⟨w.heap.size+1,6,none⟩=some o:=by rw [Qru a];rfl
   have d7:wr.cell? ⟨w.heap.size+1,7,none⟩=some p:=by rw [Qru a];rfl
   have hw:wrap64 ((k:Int)+1)=((k+1:Nat):Int):=by unfold wrap64;omega
   have ax:∀ w:World,(Instr.index 218 (.agg #[.func (.func 109) #[] #[],.func (.func 110) #[] #[],.func (.func 111) #[] #[],.func (.func 112) #[] #[],.func (.func 113) #[] #[],.func (.func 114) #[] #[],.func (.func 115) #[] #[],.func (.func 116) #[] #[]]) (.int .i64 k)).run Tryz.prog w = .ok (.func (.func (109+k)) #[] #[]) w:=by
    intro w;obtain rfl | rfl | rfl | rfl | rfl | rfl | rfl | rfl:k=0\/k=1\/k=2\/k=3\/k=4\/k=5\/k=6\/k=7:=QoW
    all_goals rfl
   have az:∀ (w:World) (ar:Array Value),(callFunc (109+k) ar).run Tryz.prog w = .ok (.enter (109+k) ar) w:=by
    intro w ar;obtain rfl | rfl | rfl | rfl | rfl | rfl | rfl | rfl:k=0\/k=1\/k=2\/k=3\/k=4\/k=5\/k=6\/k=7:=QoW
    all_goals rfl
   have hc:=h k ao wr hB.size hB.block;clear hw
   go_wp2
   refine hc.mono ?_;rintro e q ⟨rfl,ac⟩;have an:Below w.heap.size w q:=hB.trans ⟨ac.os,ac.tape,ac.output,ac.size,fun b hb=>ac.block b (QrB hb hB.size)⟩;have l0:=(Qrx.1 f).1;have l1:=(Qrx.1 a).1;by_cases hr:r k=0
   ·rw [hr]
    go_wp2
    go_roundw
    case rel=>
     refine ⟨k+1,QoW,rfl,fun j hj=>?_,(ac.block _ l0).trans f,(ac.block _ l1).trans a,an⟩;by_cases e:j=k
     ·rw [e];exact hr
     ·exact hz j QoW
    case measure=>simp [intOf];omega
   ·have aj:KM r 8 0=r k:=by
     have e:=SH r (8-k) 0 k fun j _ h2=>hz j QoW
     rw [show k+(8-k)=8 by omega] at e;rw [e,show 8-k=(7-k)+1 by omega,QrP];simp [KM,hr]
    go_wp2
    refine bodyPost_ret (results_tmp rfl _ _ _) rfl ?_;exact ⟨by rw [aj];rfl,an⟩
  ·have aj:KM r 8 0=0:=by
    have e:=SH r 0 0 8 fun j _ h2=>hz j QoW
    exact e
   go_wp2
   refine bodyPost_ret (results_tmp rfl _ _ _) rfl ?_;exact ⟨by rw [aj];rfl,hB⟩
end Go.Proofs
namespace Go.Vx
open Go.Proofs
variable (n:Nat)
def Jy (n:Nat):P6:=fun _ _ g ac _ k=>match ac with
 | [c0]=>
  prG c0 fun l0=>(match l0 with
  | [a,b,c,d]=>prS g 1 a fun e=>prS g 1 b fun f=>prS g 5 c fun h=>prS g 6 d fun i=>
  gb g (Zm n e f h i some) 0 fun r=>k ⟨.d (D.int .i64 r),[],[]⟩
  | _=>none)
 | _=>none
theorem Tx (n:Nat):Vg Tryz.prog 158 (Jy n):=by
  intro R aj g ak hl k r h
  unfold Jy at h
  split at h
  rotate_left
  · cases h
  replace h:=Q2a h
  obtain ⟨l0,h,e⟩:=h
  subst e
  split at h
  rotate_left
  · cases h
  replace h:=Ug h
  obtain ⟨a,h,f⟩:=h
  replace h:=Ug h
  obtain ⟨b,h,i⟩:=h
  replace h:=Ug h
  obtain ⟨c,h,j⟩:=h
  replace h:=Ug h
  obtain ⟨d,h,l⟩:=h
  replace h:=QO h
  obtain ⟨res,h,hr⟩:=h
  exact ⟨_,h,fun hg=>ZM.conv (avs':=[.ag [.d (D.sl 1 a),.d (D.sl 1 b),.d (D.sl 5 c),.d (D.sl 6 d)]]) (.cons (.ag (.cons (f hg) (.cons (i hg) (.cons (j hg) (.cons (l hg) .nil))))) .nil) (Q2z n a b c d res (hr hg))⟩
end Go.Vx
set_option maxRecDepth 100000
namespace Go.Vx
open Go.Proofs
variable (n:Nat)
def Pm:BZ9:=Xa [⟨158,⟨Jy n,Tx n⟩⟩] []
def F9:LZ9:=mkU (Pm n).ok nT 12 Tryz.f109 [QmB,(41,.l 4),(42,tI),(43,tI)] [Qnq] 22 [.f .ret [(4,.ci .i64 7)] [] [],xE 1 [(44,.b)]] @Zx n
def PQ:EZ9 109:=mkD (Pm n).ok [F9 n n] 109 Tryz.f109 0 @UP n
def GF:BZ9:=Xa [⟨158,⟨Jy n,Tx n⟩⟩,⟨255,Q0f n⟩,⟨256,FQ n⟩] [(24,⟨[],[],[(11,1011,3,1)],[],[]⟩)]
def BF:LZ9:=mkU (GF n).ok nT 10 Tryz.f217 [QmA,QmB,(40,.l 2),(41,tI),(42,tI)] QoM 1102 [.f .ret [(4,.nil),(5,.ci .i64 4)] [] [],xE 1 [(43,.b)]] @WJ n
def Am:LZ9:=mkU (GF n).ok nT 17 Tryz.f217 [QmA,QmB,(8,.arr 54),(56,.l 2),(57,tI),(58,tI)] [Qna,QoN,(54,.arr 4 1)] 39388 [.f .ret [(4,.nil),(5,.ci .i64 5)] [] [],xE 3 [(59,.b)]] @Gj n
def BI:LZ9:=mkU (GF n).ok nT 25 Tryz.f217 [QmA,QmB,(11,.arr 1011),(74,.l 2),(75,tI),(76,tI)] [Qna,QoN,(1011,.arr 3 1)] 42655 [.f .ret [(4,.nil),(5,.ci .i64 11)] [] [],xE 5 [(77,.b)]] @Wx n
def Q04:EZ9 217:=mkD (GF n).ok [BF n n,Am n n,BI n n] 217 Tryz.f217 0 @H7 n
def F0:EZ9 163:=mkD (Xa [⟨217,Q04 n⟩] []).ok nT 163 Tryz.f163 0 @TU n
def TR:BZ9:=Xa [⟨163,F0 n⟩] []
def Lr:LZ9:=mkU (TR n).ok nT 2 Tryz.f111 [QmA,(9,.l 2),QmY,Qmg] [Qna] 1102 [.f .ret [(4,tI)] [] [0],xE 0 [(12,.b)]] @YV n
def Ph:EZ9 111:=mkD (TR n).ok [Lr n n] 111 Tryz.f111 0 @U0 n
end Go.Vx
namespace Go.Vx
open Go.Proofs Go.RowKit
section
variable {P:Program}
theorem Q1j (w:World) (dT sT ty ac:TypeId) (g o aj ao k:Nat) (a:Addr) (an ar:Nat) (ak:Array Value) (t:TypeId) (cs:List Value)
  (hu:P.underlying dT=some (.slice ac)) (hs:(P.info? ac).map (·.size)=some k)
  (hg:w.heap[g]? = some (.cells ak t (0,0))) (hn:cs.length=Nat.min an aj*k)
  (au:∀ j v,cs[j]? = some v->w.cell? (a.add j)=some v) (aq:o+cs.length<=ak.size) (b:∀ v∈cs,v.oneCell'=true) :
  (Builtin.copy_ #[dT,sT] ty #[.slice (some ⟨g,o,none⟩) aj ao,.slice (some a) an ar]).run P w =
   .ok (goInt (Nat.min an aj)) (w.setRow g (ak.toList.take o++cs++ak.toList.drop (o+cs.length)).toArray):=by
 have hl:=run_loadCells_list (P:=P) w a cs au;have aw:=run_storeCells_at P g o t cs 0 ak w hg (by simpa using aq) b;cases hq:P.info? ac with
 |none=>simp [hq] at hs
 |some i=>
  have hi:i.size=k:=by simpa [hq] using hs
  simp [Builtin.copy_,run_underlying hu,Builtin.lenOf,Builtin.firstCells,sizeOf,typeInfo,hq,hi,<- hn,hl,aw]
theorem Q4c (w:World) (dT sT ty ac:TypeId) (g o aj ao k:Nat) (a:Addr) (ak aq:Nat) (an:Array Value) (t:TypeId) (cs:List Value) (m:Nat)
  (hu:P.underlying dT=some (.slice ac)) (hs:(P.info? ac).map (·.size)=some k)
  (hg:w.heap[g]? = some (.cells an t (0,0))) (hm:Nat.min ak aj=m) (hn:cs.length=m*k)
  (au:∀ j v,cs[j]? = some v->w.cell? (a.add j)=some v) (ar:o+cs.length<=an.size) (c:∀ v∈cs,v.oneCell'=true) :
  ∃ w',(Builtin.copy_ #[dT,sT] ty #[.slice (some ⟨g,o,none⟩) aj ao,.slice (some a) ak aq]).run P w = .ok (.int .i64 (m:Int)) w' /\
   w'.heap[g]? = some (.cells (splice an.toList o cs).toArray t (0,0))/\(∀ n,n<=g->∀ w0:World,Below n w0 w->Below n w0 w'):=by
 subst hm;refine ⟨_,Q1j w dT sT ty ac g o aj ao k a ak aq an t cs hu hs hg hn au ar c,by simpa [splice] using setRow_heap w g _ _ t _ hg,fun n hn w0 h=>⟨h.os,h.tape,h.output,by simpa [World.setRow] using h.size,fun b hb=>(setRow_other w g b _ QoW).trans (h.block b hb)⟩⟩
theorem AM {w:World} {ar:Array Oper} {o:Oper} {a:Act} {K:Act->World->Prop} {Q:Exit->Act->World->Prop} {E:Prop} (ay:o.guard=none) (d s:Operand) (dT sT:TypeId)
  (ho:o.op = .call { callee:=.builtin .copy,args:=#[d,s],argTypes:=#[dT,sT] }) (ac:TypeId) (k:Nat) (hu:P.underlying dT=some (.slice ac)) (az:(P.info? ac).map (·.size)=some k)
  (g off aj ao:Nat) (ad:Addr) (ak aq:Nat) (hd:a.eval d = .slice (some ⟨g,off,none⟩) aj ao) (hs:a.eval s = .slice (some ad) ak aq)
  (an:Array Value) (t:TypeId) (hg:w.heap[g]? = some (.cells an t (0,0))) (cs:List Value) (m:Nat) (hm:Nat.min ak aj=m) (hn:cs.length=m*k)
  (ax:∀ j v,cs[j]? = some v->w.cell? (ad.add j)=some v) (au:off+cs.length<=an.size) (b:∀ v∈cs,v.oneCell'=true)
  (h:∀ w',w'.heap[g]? = some (.cells (splice an.toList off cs).toArray t (0,0))->(∀ n,n<=g->∀ w0:World,Below n w0 w->Below n w0 w')->K (a.put o.dst (.int .i64 (m:Int))) w') :
  if Region.wanted o (yielded ar a.tmps)=true then Oper.wp P o a w K Q else E:=by
 have hw:Region.wanted o (yielded ar a.tmps)=true:=by simp [Region.wanted,ay]
 rw [if_pos hw];obtain ⟨w',aw,h2,c⟩:=Q4c (P:=P) w dT sT o.type ac g off aj ao k ad ak aq an t cs m hu az hg hm hn ax au b;unfold Oper.wp;simp [execOp,ho,resolve,invoke,builtin,hd,hs,aw,Result.andThen];exact h w' h2 c
end
def MA (v0 a:Value):Nat->List Value
 |0=>[]
 |m+1=>v0::a::MA v0 a m
theorem UO (v0 a:Value):∀ m,(MA v0 a m).length=m*2
 |0=>rfl
 |m+1=>by simp [MA,UO v0 a m];omega
theorem Q1A (v0 a:Value) (k:Nat):∀ m,MA v0 a (m+k)=MA v0 a m++MA v0 a k
 |0=>by simp [MA]
 |m+1=>by rw [show m+1+k=(m+k)+1 by omega];simp [MA,Q1A v0 a k m]
theorem Q9F (v0 a:Value) {m k:Nat} (h:m<=k):(MA v0 a k).take (m*2)=MA v0 a m:=by
 obtain ⟨d,rfl⟩:=Nat.exists_eq_add_of_le h;rw [Q1A,List.take_append_of_le_length (by rw [UO];omega),QrN (by rw [UO];omega)]
theorem Q1p {v0 a:Value}:∀ {m:Nat} {v:Value},v∈MA v0 a m->v=v0\/v=a
 |m+1,v,h=>by
  simp only [MA,QrF] at h;rcases h with h | h | h
  ·exact .inl h
  ·exact .inr h
  ·exact Q1p h
theorem Qae (v0 a:Value):∀ (m i:Nat),i<m->(MA v0 a m)[i*2]? = some v0/\(MA v0 a m)[i*2+1]? = some a
 |m+1,0,h=>by simp [MA]
 |m+1,i+1,h=>by
  have:=Qae v0 a m i QoW;rw [show (i+1)*2=i*2+1+1 by omega];simpa [MA] using this
theorem mul_one (c:Nat) (hc:c<=100000):Td 0 1 (c:Int) (fun a b=>some (a,b))=some (0,(c:Int)):=by
 have d:shR .u64 1 (32:Int)=0:=by decide
 have h2:shR .u64 (c:Int) (32:Int)=0:=by
  show (c:Int).fdiv (2 ^ (min (32:Int).toNat IntKind.u64.bits))=0;rw [show (min (32:Int).toNat IntKind.u64.bits)=32 from rfl,Int.fdiv_eq_ediv_of_nonneg _ QoX];omega
 have e:Q6T .u64 1 (4294967295:Int)=1:=by decide
 have f:Q6T .u64 (c:Int) (4294967295:Int)=(c:Int):=by
  unfold Q6T;rw [BitVec.toNat_and,IntKind.wrap_u64];have e1:(BitVec.ofInt IntKind.u64.bits (c:Int)).toNat=c:=by
   rw [BitVec.toNat_ofInt];show ((c:Int) % ((2 ^ 64:Nat):Int)).toNat=c;omega
  have e2:(BitVec.ofInt IntKind.u64.bits (4294967295:Int)).toNat=2 ^ 32-1:=by decide
  rw [e1,e2,Nat.and_two_pow_sub_one_eq_mod];omega
 have w0:IntKind.u64.wrap 0=0:=by decide
 have wc:IntKind.u64.wrap (c:Int)=(c:Int):=by rw [IntKind.wrap_u64];omega
 have s0:shR .u64 0 (32:Int)=0:=by decide
 have a0:Q6T .u64 0 (4294967295:Int)=0:=by decide
 simp only [Td,TE,cond_false,BR,d,h2,e,f,gb,Int.zero_mul,Int.one_mul,Int.mul_zero,Int.add_zero,w0,wc,s0,a0];rfl
theorem Q5w {β:Nat->oP Nat} {S:Nat->Prop} {h:Nat->oP Ob} {w:World} {tm:Nat->Value} {v:Value} {k:IntKind} {n:Int} (h:RdA β S h w tm v (.d (.int k n))):v = .int k n:=by
 cases h with
 |d _ _ q=>exact Rx q
 |dang _ _ _ hl=>cases hl
theorem Q9c (c:Nat) (hc:c<=100000) (w:World):Calls Tryz.prog 291 #[.int .u64 1,.int .u64 (c:Int)] w fun e w'=>e = .returned (.tuple #[.int .u64 0,.int .u64 c])/\RowKit.Below w.heap.size w w':=by
 have he:(Ni 0).E Dl 0 true [.d (.int .u64 1),.d (.int .u64 (c:Int))] (fun _=>none) some=some ⟨.tup [.d (D.int .u64 0),.d (D.int .u64 (c:Int))],[],[]⟩:=by
  show gb true (Td 0 1 (c:Int) (fun g i=>some (g,i))) (0,0) (fun r=>(some ⟨.tup [.d (D.int .u64 r.1),.d (D.int .u64 r.2)],[],[]⟩:oP Dl))=_;rw [mul_one c hc];rfl
 refine (CU (S:=fun _=>False) (Y8 ((Ni 0).ok) he) (fun _ h=>h.elim) (Hu (.d _ _ (.int _ _)) (.d _ _ (.int _ _)))).mono fun e w' ⟨v,S',j,h2,k⟩=>⟨?_,k⟩
 rw [j];cases h2 with
 |tup cs l hl hr=>
  have d:=Q5w (hr 0 _ rfl);have f:=Q5w (hr 1 _ rfl);obtain ⟨l⟩:=cs
  match l,hl with
  |[a,b],_=>
   simp at d f;rw [d,f]
 |dang v av l hl=>cases hl
noncomputable def Qdc:Code:=(Gp (Tryz.f284.body.getD .skip)).getD 9 .skip
set_option maxHeartbeats 8000000 in
set_option maxRecDepth 100000 in
theorem Tryz.repeat_r9 (b d u2 u3 f g i l o p q r s t u x y z aa ab ac ad ae ag ah ai aj ak al am an ao ap aq ar au aw ax ay az ba bb bc bd be av v0 a:Value) (H c m k:Nat) (cu:Array Value) (w:World) (bg:m<c) (b3:(m:Int)<(c:Int)) (hk:Nat.min m (c-m)=k) (a3:w.heap[H]? = some (.cells cu 287 (0,0))) (h0:(0:Int)<=(m:Int)) (ce:(m:Int)<=(c:Int))
  (a7:∀ (j:Nat) (v:Value),(MA v0 a k)[j]? = some v->w.drew.cell? ((⟨H,0,none⟩:Addr).add j)=some v) (a6:m*2+(MA v0 a k).length<=cu.size) (a5:∀ v∈MA v0 a k,v.oneCell'=true) (cg:IntKind.i64.wrap ((m:Int)+(k:Int))=((m+k:Nat):Int)) :
  Code.wp Tryz.prog Qdc (Q6x fun act w'=>∃ (bh bi bj bk bl bm bn bo bp:Value),act=⟨(b::d::u2::u3::f::g::i::.slice (some ⟨H,0,none⟩) c c::.int .i64 ((m:Int)+(k:Int))::l::o::p::q::r::s::t::u::x::y::z::aa::ab::ac::ad::ae::ag::ah::ai::aj::ak::al::am::an::ao::ap::aq::ar::au::bh::bi::bj::bk::bl::bm::bn::bo::bp::av::[]).toArray,[]⟩/\w'.heap[H]? = some (.cells (splice cu.toList (m*2) (MA v0 a k)).toArray 287 (0,0))/\(∀ n,n<=H->∀ w0:World,Below n w0 w->Below n w0 w')) ⟨(b::d::u2::u3::f::g::i::.slice (some ⟨H,0,none⟩) c c::.int .i64 (m:Int)::l::o::p::q::r::s::t::u::x::y::z::aa::ab::ac::ad::ae::ag::ah::ai::aj::ak::al::am::an::ao::ap::aq::ar::au::aw::ax::ay::az::ba::bb::bc::bd::be::av::[]).toArray,[]⟩ w:=by
 conv=>arg 2;whnf
 have mixed:Tryz.prog.follows .mixedOrders=true:=by kernel_rfl
 have a8:(Tryz.prog.info? 287).map (·.size)=some 2:=by kernel_rfl
 have br:c=m->0=m*2:=fun e=>absurd e (Nat.ne_of_gt bg)
 have a2:w.drew.heap[H]? = some (.cells cu 287 (0,0)):=a3
 go_region_law (first
  |(refine AM (by rfl) _ _ 243 243 (by rfl) 287 2 Tryz.underlying243 a8 H (m*2) (c-m) (c-m) ⟨H,0,none⟩ m c (by go_simp;exact br) (by go_simp) cu 287 a2 (MA v0 a k) k hk (UO _ _ _) a7 a6 a5 ?_;intro w3 a9 bq))
 all_goals
  dsimp only [Q6x];exact ⟨_,_,_,_,_,_,_,_,_,rfl,a9,fun n hn w0 h=>bq n hn w0 (h.trans ⟨rfl,rfl,rfl,QrL _,fun _ _=>rfl⟩)⟩
theorem Q7I {v0 a:Value} {m k:Nat} {L:List Value} (ac:L.take (m*2)=MA v0 a m):(splice L (m*2) (MA v0 a k)).take ((m+k)*2)=MA v0 a (m+k):=by
 simp only [splice];rw [ac,List.take_append,QrN (by rw [UO];omega),UO,List.take_append_of_le_length (by rw [UO];omega),QrN (by rw [UO];omega),Q1A]
theorem QfP {m k c:Nat} (h:m+k<=c) (hk:0<k):c-(intOf (.int .i64 ((m:Int)+(k:Int)))).toNat<c-(intOf (.int .i64 (m:Int))).toNat:=by
 simp only [intOf];omega
set_option maxHeartbeats 4000000 in
set_option maxRecDepth 100000 in
theorem Tryz.repeat_calls (w:World) (ad:Addr) (cap c:Nat) (v0 b:Value) (hc:c<=100000) (o:w.cell? (ad.add 0)=some v0) (r:w.cell? (ad.add 1)=some b) (o0:v0.oneCell'=true) (o1:b.oneCell'=true) :
  Calls Tryz.prog 284 #[.slice (some ad) 1 cap,.int .i64 (c:Int)] w fun e w'=>∃ (H:Nat) (ac:Array Value),e = .returned (.slice (some ⟨H,0,none⟩) c c)/\w.heap.size<=H/\w'.heap[H]? = some (.cells ac 287 (0,0))/\ac.size=c*2/\ac.toList=MA v0 b c/\Below w.heap.size w w':=by
 obtain ⟨s,hi,t⟩:=QrC.1 (show (Tryz.prog.info? 287).map (fun i=>(i.zero.isSome,i.size,i.bytes))=some (true,2,16) by kernel_rfl);obtain ⟨hz,g⟩:=Prod.mk.inj t;obtain ⟨g,u⟩:=Prod.mk.inj g;obtain ⟨z,hz⟩:=Option.isSome_iff_exists.1 hz;have ax:∀ w:World,∃ ac:Array Value,ac.size=c*2/\(Instr.makeSlice 243 (.int .i64 (c:Int)) (.int .i64 (c:Int))).run Tryz.prog w = .ok (.slice (some ⟨w.heap.size,0,none⟩) c c) (w.alloc (.cells ac 287)):=by
  intro w;refine ⟨madeCells z.cells (c*2),size_madeCells _ _,?_⟩;have:=run_make (P:=Tryz.prog) w 243 287 s z Tryz.underlying243 hi hz .i64 .i64 (c:Int) (c:Int) QoW QoW (by rw [u];omega) QoW;rw [g] at this;exact this
 have a5:(Tryz.prog.info? 287).map (·.size)=some 2:=by rw [hi];simp [g]
 have bv:IntKind.u64.wrap (c:Int)=(c:Int):=by rw [IntKind.wrap_u64];omega
 have bp:IntKind.i64.wrap (c:Int)=(c:Int):=by rw [IntKind.wrap_i64];omega
 have g0:(0:Int)<=(c:Int):=QoW
 have g1:¬ (9223372036854775807:Int)<(c:Int):=QoW
 go_enter Tryz.func284,Tryz.ntmps284
 go_wp2_with (go_at_call 291;refine (Q9c c hc _).mono ?_)
 rintro e f rfl hB;obtain ⟨ac,bb,a7⟩:=ax f;clear ax;have ar:=U9 hB (QrL _) (.cells ac 287);have a2:∀ a:Addr,a.block<w.heap.size->(f.alloc (.cells ac 287)).cell? a=w.cell? a:=fun a ha=>Nu (ar.block _ ha)
 have bx:=fun (j:Nat)=>Jx ad j
 have a9:ad.block<w.heap.size:=by have:=World.block_lt_of_cell? w _ o;rwa [Jx] at this
 have hH:(f.alloc (.cells ac 287)).heap[f.heap.size]? = some (.cells ac 287 (0,0)):=heap_alloc_new f _;obtain ⟨d,p⟩:∃ d,Nat.min 1 c=d:=⟨_,rfl⟩;have q:d<=1/\d<=c/\(0<c->0<d):=by rw [<- p];simp only [Nat.min_def];split <;> omega
 obtain ⟨w2,ay,bg,bl⟩:=Q4c (P:=Tryz.prog) (f.alloc (.cells ac 287)) 243 243 3 287 f.heap.size 0 c c 2 ad 1 cap ac 287 (MA v0 b d) d Tryz.underlying243 a5 hH p (UO _ _ _)
  (fun j v hj=>by
   have l:=(Qrw.1 hj).1;rw [UO] at l;rw [a2 _ (by rw [Jx];exact a9)];have hm:d=1:=QoW
   subst hm;obtain rfl | rfl:j=0\/j=1:=QoW
   ·simp [MA] at hj;rw [<- hj];exact o
   ·simp [MA] at hj;rw [<- hj];exact r)
  (by rw [UO];omega) (fun v hv=>by rcases Q1p hv with rfl | rfl <;> assumption)
 have ba:=bl w.heap.size hB.size w ar;have au:=hB.size;generalize bn:f.heap.size=H at *
 go_wp2
 go_loopw [8] (fun i wr=>∃ (m:Nat) (cu:Array Value),i = .int .i64 (m:Int)/\m<=c/\(0<c->0<m)/\wr.heap[H]? = some (.cells cu 287 (0,0))/\cu.size=c*2/\cu.toList.take (m*2)=MA v0 b m/\Below w.heap.size w wr)
  (fun i _=>c-(intOf i).toNat)
 case atStart=>
  refine ⟨d,_,rfl,q.2.1,q.2.2,bg,?_,?_,ba⟩
  ·simp only [List.size_toArray];rw [length_splice _ _ _ (by rw [UO];simp;omega)];simpa using bb
  ·simp only [splice,List.take_zero,List.nil_append];rw [List.take_append_of_le_length (by rw [UO];exact QrL _),QrN (by rw [UO];exact QrL _)]
 case round=>
  obtain ⟨m,cu,rfl,br,bk,aj,ao,aq,hF⟩:=hrel;clear a7 ay;by_cases x:m<c
  ·have az:((m:Int)<(c:Int)):=QoW
   have hp:0<m:=bk QoW;obtain ⟨k,hk⟩:∃ k,Nat.min m (c-m)=k:=⟨_,rfl⟩;have n:k<=m/\m+k<=c/\0<k:=by rw [<- hk];simp only [Nat.min_def];split <;> omega
   have e1:(if c=m then (some ⟨H,0,none⟩:oP Addr) else (some (⟨H,0,none⟩:Addr)).map (·.add (m*2)))=some ⟨H,m*2,none⟩:=by
    rw [QrK QoW];simp [G4]
   have a3:∀ (j:Nat) (v:Value),(MA v0 b k)[j]? = some v->wr.drew.cell? ((⟨H,0,none⟩:Addr).add j)=some v:=by
    intro j v hj;have l:=(Qrw.1 hj).1;rw [UO] at l;rw [G4,QrP];show wr.cell? _=_;rw [cell_of_row wr H j cu 287 (0,0) aj,<- QrE];have e:(cu.toList.take (m*2))[j]? = some v:=by
     rw [aq];have e2:=Q9F v0 b n.1;rw [<- e2,QrQ,if_pos l] at hj;exact hj
    rw [QrQ] at e;split at e
    ·exact e
    ·cases e
   have an:m*2+(MA v0 b k).length<=cu.size:=by rw [UO];omega
   have aw:∀ v∈MA v0 b k,v.oneCell'=true:=fun v hv=>by rcases Q1p hv with rfl | rfl <;> assumption
   have a4:wr.drew.heap[H]? = some (.cells cu 287 (0,0)):=aj;have bi:IntKind.i64.wrap ((m:Int)+(k:Int))=((m+k:Nat):Int):=by rw [IntKind.wrap_i64];omega
   go_wp2
   refine Code.wp_mono ?_ (Tryz.repeat_r9 _ _ _ _ _ _ _ _ _ _ _ _ _ _ _ _ _ _ _ _ _ _ _ _ _ _ _ _ _ _ _ _ _ _ _ _ _ _ _ _ _ _ _ _ _ _ v0 b H c m k cu wr x az hk aj QoW QoW a3 an aw bi);rintro e act w3 h;cases e with
   |normal=>
    obtain ⟨_,_,_,_,_,_,_,_,_,rfl,a8,bh⟩:=h
    go_wp2
    refine ⟨⟨m+k,_,by rw [Int.natCast_add],n.2.1,fun _=>QrB hp (Nat.le_add_right m k),a8,?_,?_,bh _ au w hF⟩,?_⟩
    ·simp only [List.size_toArray];rw [length_splice _ _ _ (by simpa using an)];simpa using ao
    ·exact Q7I aq
    ·exact QfP n.2.1 n.2.2
   |_=>exact h.elim
  ·have y:m=c:=QoW
   subst y
   go_wp2
   refine bodyPost_ret (results_tmp rfl _ _ _) rfl ?_;refine ⟨H,cu,rfl,au,aj,ao,?_,hF⟩;rw [<- aq,QrN (by simpa using Nat.le_of_eq ao)]
theorem QcR {S:Nat->Prop} {w:World} {v:Value} {x:D} (h:Rd S w v x):v.oneCell'=true:=by cases h <;> rfl
theorem QaP {S:Nat->Prop} {w:World} {H c:Nat} {ac:Array Value} {v0 a:Value} {d f:D} (g:Rd S w v0 d) (k:Rd S w a f) (hH:w.heap[H]? = some (.cells ac 287 (0,0))) (aj:ac.toList=MA v0 a c) :
  Rd (fun b=>S b\/b=H) w (.slice (some ⟨H,0,none⟩) c c) (.sl 2 (List.replicate c [d,f])):=by
 have e:=Rd.sl (S:=fun b=>S b\/b=H) (w:=w) ⟨H,0,none⟩ c 2 (List.replicate c [d,f]) (fun i j=>if j=0 then v0 else a) (.inr rfl) QoY (fun i r hr=>?_) (fun i j r x hr hx=>?_) (fun i j r x hr hx=>?_)
 ·simpa using e
 ·obtain ⟨_,rfl⟩:=QrG.1 (Qry hr);rfl
 ·have hi:i<c:=by have:=(Qrw.1 hr).1;simpa using this
  obtain ⟨_,rfl⟩:=QrG.1 (Qry hr);have hj:=(Qrw.1 hx).1;simp at hj;rw [G4,QrP,cell_of_row w H _ ac 287 (0,0) hH,<- QrE,aj];have:=Qae v0 a c i hi;obtain rfl | rfl:j=0\/j=1:=QoW
  ·simpa using this.1
  ·simpa using this.2
 ·obtain ⟨_,rfl⟩:=QrG.1 (Qry hr);have hj:=(Qrw.1 hx).1;simp at hj;obtain rfl | rfl:j=0\/j=1:=QoW
  ·simp at hx;subst hx;simpa using g.mono (fun _ h=>.inl h) (fun _ _=>rfl)
  ·simp at hx;subst hx;simpa using k.mono (fun _ h=>.inl h) (fun _ _=>rfl)
theorem Q29 (n:Nat) (a0:LL) (a1:Int) (res:LL) {hl:Nat->oP Ob} (h:Qe n a0 a1 some=some res):ZM Tryz.prog 284 [.d (D.sl 2 a0),.d (D.int .i64 a1)] hl ⟨.d (D.sl 2 res),[],[]⟩:=by
 unfold Qe at h;obtain ⟨hc,h⟩:=XG h;simp only [QrA,decide_eq_true_eq] at hc;obtain ⟨⟨e1,hp⟩,hq⟩:=hc;have e1:=Nat.eq_of_beq_eq_true e1;injection h with h
 obtain ⟨c,rfl⟩:=Int.eq_ofNat_of_zero_le hp
 match a0,e1 with
 |[row],_=>
  subst h;refine MX (fn:=Tryz.f284) (by kernel_rfl) (by kernel_rfl) (by kernel_rfl) rfl rfl fun S w args hS hA=>?_
  obtain ⟨hl,hA⟩:=hA
  match args,hl with
  |[j,k],_=>
   have a:=hA 0 _ _ rfl rfl;have i:=Q5w (hA 1 _ _ rfl rfl);subst i;cases a with
   |dang _ _ _ hl=>cases hl
   |d _ _ a=>
    cases a with
    |sl ad cap _ _ cf az aw aq ac an=>
     have ak:=aq 0 row rfl
     match row,ak with
     |[l,m],_=>
      have k0:=ac 0 0 _ _ rfl rfl;have k1:=ac 0 1 _ _ rfl rfl;have f:=an 0 0 _ _ rfl rfl;have g:=an 0 1 _ _ rfl rfl;refine (Tryz.repeat_calls w ad cap c (cf 0 0) (cf 0 1) QoW k0 k1 (QcR f) (QcR g)).mono fun e w' ⟨H,a2,he,hH,aj,a3,ar,hB⟩=>?_
      have ay:H<w'.heap.size:=(Qrx.1 aj).1;refine ⟨_,fun b=>S b\/b=H,he,fun b h=>.inl h,fun b h=>h.elim .inl fun e=>.inr QoW,fun b h=>h.elim (fun h=>QrB (hS b h) hB.size) (fun e=>by omega),.d _ _ ?_,hB⟩;exact QaP (Rd.mono (fun _ h=>h) (fun b hb=>hB.block b (hS b hb)) f) (Rd.mono (fun _ h=>h) (fun b hb=>hB.block b (hS b hb)) g) aj ar
end Go.Vx
namespace Go.Vx
open Go.Proofs
variable (n:Nat)
def X9 (n:Nat):P6:=fun _ _ g ac _ k=>match ac with
 | [c0,c1]=>prS g 2 c0 fun a0=>prI g .i64 c1 fun a1=>
  gb g (Qe n a0 a1 some) [] fun r=>k ⟨.d (D.sl 2 r),[],[]⟩
 | _=>none
theorem Wf (n:Nat):Vg Tryz.prog 284 (X9 n):=by
  intro R aj g ak hl k r h
  unfold X9 at h
  split at h
  rotate_left
  · cases h
  replace h:=Ug h
  obtain ⟨a0,h,a⟩:=h
  replace h:=Q1J h
  obtain ⟨a1,h,b⟩:=h
  replace h:=QO h
  obtain ⟨res,h,hr⟩:=h
  exact ⟨_,h,fun hg=>ZM.conv (avs':=[.d (D.sl 2 a0),.d (D.int .i64 a1)]) (.cons (a hg) (.cons (b hg) .nil)) (Q29 n a0 a1 res (hr hg))⟩
end Go.Vx
set_option maxRecDepth 100000
namespace Go.Vx
open Go.Proofs
variable (n:Nat)
def MJ:BZ9:=Xa [⟨163,F0 n⟩,⟨284,⟨X9 n,Wf n⟩⟩] [(5,⟨[],[],[(8,1008,287,2)],[],[]⟩)]
def AG:LZ9:=mkU (MJ n).ok nT 6 Tryz.f273 [QmA,QmB,Qnj,(27,.l 2),(28,tI),(29,tI)] [Qna,QoN,(1008,.arr 287 2)] 39631 [xE 0 [(30,.b)]] @ZZ n
def Q2D:EZ9 273:=mkD (MJ n).ok [AG n n] 273 Tryz.f273 0 @SM n
def Nc:BZ9:=Xa [⟨273,Q2D n⟩,⟨162,Hk n⟩,⟨269,HH n⟩] []
def By:LZ9:=mkU (Nc n).ok nT 7 Tryz.f257 [QmB,Qn5,QmE,(8,.l 2),Qmf,(29,.l 2),(30,tI),(31,tI)] [Qn7,Qnm,(6,.box Qmj)] 61434 [.f .ret [(6,.ptr 6 0),(7,.ci .i64 12)] [(6,.box Qmj)] [],xE 0 [(32,.b)]] @WA n
def ML:EZ9 257:=mkD (Nc n).ok [By n n] 257 Tryz.f257 0 @H6 n
def NA:EZ9 219:=mkD (Xa [⟨257,ML n⟩] []).ok nT 219 Tryz.f219 0 @Gf n
def Cm:EZ9 167:=mkD (Xa [⟨169,Rv n⟩,⟨219,NA n⟩,⟨171,Ng n⟩,⟨170,Ll n⟩] []).ok nT 167 Tryz.f167 0 @JD n
def Gr:BZ9:=Xa [⟨159,Pc n⟩,⟨164,YP n⟩,⟨166,FS n⟩,⟨167,Cm n⟩] []
def E6:LZ9:=mkU (Gr n).ok nT 15 Tryz.f112 [QmA,QmB,QmE,QnN,Qmg,Qmi,(50,tI),(51,tI)] [Qna,Qnq,(6,bT 87 [])] 5230176669 [.f .ret [(4,tI)] [] [0],xE 3 [(52,.b)]] @Zw n
def Fe:LZ9:=mkU (Gr n).ok [E6 n n] 2 Tryz.f112 [QmA,QmB,QnN,Qmg,Qmi] Qnp 7174462 [.f .ret [(4,tI)] [] [0],xE 0 [(13,.b)]] @Zv n
def SG:EZ9 112:=mkD (Gr n).ok [Fe n n] 112 Tryz.f112 0 @V2 n
end Go.Vx
namespace Go.Vx
open Go.Proofs Go.RowKit
theorem Q7Z {S:Nat->Prop} {w:World} {v:Value} {x:D} (h:Rd S w v x):v.oneCell'=true:=by cases h <;> rfl
theorem RdLs.one {S:Nat->Prop} {w:World} {vs:List Value} {xs:List D} (h:RdLs S w vs xs):∀ x∈vs,x.oneCell'=true:=by
 induction h with
 |nil=>simp
 |cons h _ ih=>
  intro x hx;rcases QrF.1 hx with rfl | hx
  ·exact Q7Z h
  ·exact ih x hx
theorem RdLs.len {S:Nat->Prop} {w:World} {vs:List Value} {xs:List D} (h:RdLs S w vs xs):vs.length=xs.length:=by
 induction h with
 |nil=>rfl
 |cons _ _ ih=>simp [ih]
theorem RdLs.keep {S:Nat->Prop} {w w':World} {m:Nat} {vs:List Value} {xs:List D} (h:RdLs S w vs xs) (hS:∀ b,S b->b<m) (hw:∀ b,b<m->w'.heap[b]? = w.heap[b]?):RdLs S w' vs xs:=by
 induction h with
 |nil=>exact .nil
 |cons h _ ih=>exact .cons (Rd.keep h hS hw) ih
def Hj (a b c d:LL):List D:=[D.sl 1 a,D.sl 1 b,D.sl 5 c,D.sl 6 d]
def H4 (a:Int) (b c d e f g h:LL):List D:=[D.int .i64 a,D.sl 5 b,D.sl 2 c,D.sl 4 d,D.sl 7 e,D.sl 4 f,D.sl 5 g,D.sl 3 h]
theorem Cw {n:Nat} {a c d f:LL} {g:Int} {i j k l m o p:LL} (h:UP n a c d f g i j k l m o p some=some 0) {S:Nat->Prop} {w:World} (hS:∀ b,S b->b<w.heap.size) {vs us:List Value} (q:RdLs S w vs (Hj a c d f)) (s:RdLs S w us (H4 g i j k l m o p)) :
  Calls Tryz.prog 109 #[.agg vs.toArray,.agg us.toArray] w fun e w'=>e = .returned (.int .i64 0)/\Below w.heap.size w w':=by
 have he:(PQ n).E Dl 0 true [.ag ((Hj a c d f).map .d),.ag ((H4 g i j k l m o p).map .d)] (fun _=>none) some=some ⟨.d (.int .i64 0),[],[]⟩:=by
  show gb true (UP n a c d f g i j k l m o p some) 0 (fun r=>(some ⟨.d (D.int .i64 r),[],[]⟩:oP Dl))=_;rw [h];rfl
 exact GD (Y8 ((PQ n).ok) he) hS (Hu (RdLs.agg q) (RdLs.agg s))
theorem D3 {n:Nat} {a c d f:LL} {g:Int} {i j k l m o p:LL} (h:U2 n a c d f g i j k l m o p some=some 0) {S:Nat->Prop} {w:World} (hS:∀ b,S b->b<w.heap.size) {vs us:List Value} (q:RdLs S w vs (Hj a c d f)) (s:RdLs S w us (H4 g i j k l m o p)) :
  Calls Tryz.prog 110 #[.agg vs.toArray,.agg us.toArray] w fun e w'=>e = .returned (.int .i64 0)/\Below w.heap.size w w':=by
 have he:(Pe n).E Dl 0 true [.ag ((Hj a c d f).map .d),.ag ((H4 g i j k l m o p).map .d)] (fun _=>none) some=some ⟨.d (.int .i64 0),[],[]⟩:=by
  show gb true (U2 n a c d f g i j k l m o p some) 0 (fun r=>(some ⟨.d (D.int .i64 r),[],[]⟩:oP Dl))=_;rw [h];rfl
 exact GD (Y8 ((Pe n).ok) he) hS (Hu (RdLs.agg q) (RdLs.agg s))
theorem Db {n:Nat} {a c d f:LL} {g:Int} {i j k l m o p:LL} (h:U0 n a c d f g i j k l m o p some=some 0) {S:Nat->Prop} {w:World} (hS:∀ b,S b->b<w.heap.size) {vs us:List Value} (q:RdLs S w vs (Hj a c d f)) (s:RdLs S w us (H4 g i j k l m o p)) :
  Calls Tryz.prog 111 #[.agg vs.toArray,.agg us.toArray] w fun e w'=>e = .returned (.int .i64 0)/\Below w.heap.size w w':=by
 have he:(Ph n).E Dl 0 true [.ag ((Hj a c d f).map .d),.ag ((H4 g i j k l m o p).map .d)] (fun _=>none) some=some ⟨.d (.int .i64 0),[],[]⟩:=by
  show gb true (U0 n a c d f g i j k l m o p some) 0 (fun r=>(some ⟨.d (D.int .i64 r),[],[]⟩:oP Dl))=_;rw [h];rfl
 exact GD (Y8 ((Ph n).ok) he) hS (Hu (RdLs.agg q) (RdLs.agg s))
theorem Cz {n:Nat} {a c d f:LL} {g:Int} {i j k l m o p:LL} (h:V2 n a c d f g i j k l m o p some=some 0) {S:Nat->Prop} {w:World} (hS:∀ b,S b->b<w.heap.size) {vs us:List Value} (q:RdLs S w vs (Hj a c d f)) (s:RdLs S w us (H4 g i j k l m o p)) :
  Calls Tryz.prog 112 #[.agg vs.toArray,.agg us.toArray] w fun e w'=>e = .returned (.int .i64 0)/\Below w.heap.size w w':=by
 have he:(SG n).E Dl 0 true [.ag ((Hj a c d f).map .d),.ag ((H4 g i j k l m o p).map .d)] (fun _=>none) some=some ⟨.d (.int .i64 0),[],[]⟩:=by
  show gb true (V2 n a c d f g i j k l m o p some) 0 (fun r=>(some ⟨.d (D.int .i64 r),[],[]⟩:oP Dl))=_;rw [h];rfl
 exact GD (Y8 ((SG n).ok) he) hS (Hu (RdLs.agg q) (RdLs.agg s))
theorem F7 {n:Nat} {a c d f:LL} {g:Int} {i j k l m o p:LL} (h:Wn n a c d f g i j k l m o p some=some 0) {S:Nat->Prop} {w:World} (hS:∀ b,S b->b<w.heap.size) {vs us:List Value} (q:RdLs S w vs (Hj a c d f)) (s:RdLs S w us (H4 g i j k l m o p)) :
  Calls Tryz.prog 113 #[.agg vs.toArray,.agg us.toArray] w fun e w'=>e = .returned (.int .i64 0)/\Below w.heap.size w w':=by
 have he:(TN n).E Dl 0 true [.ag ((Hj a c d f).map .d),.ag ((H4 g i j k l m o p).map .d)] (fun _=>none) some=some ⟨.d (.int .i64 0),[],[]⟩:=by
  show gb true (Wn n a c d f g i j k l m o p some) 0 (fun r=>(some ⟨.d (D.int .i64 r),[],[]⟩:oP Dl))=_;rw [h];rfl
 exact GD (Y8 ((TN n).ok) he) hS (Hu (RdLs.agg q) (RdLs.agg s))
theorem DV {n:Nat} {a c d f:LL} {g:Int} {i j k l m o p:LL} (h:V1 n a c d f g i j k l m o p some=some 0) {S:Nat->Prop} {w:World} (hS:∀ b,S b->b<w.heap.size) {vs us:List Value} (q:RdLs S w vs (Hj a c d f)) (s:RdLs S w us (H4 g i j k l m o p)) :
  Calls Tryz.prog 114 #[.agg vs.toArray,.agg us.toArray] w fun e w'=>e = .returned (.int .i64 0)/\Below w.heap.size w w':=by
 have he:(Sa n).E Dl 0 true [.ag ((Hj a c d f).map .d),.ag ((H4 g i j k l m o p).map .d)] (fun _=>none) some=some ⟨.d (.int .i64 0),[],[]⟩:=by
  show gb true (V1 n a c d f g i j k l m o p some) 0 (fun r=>(some ⟨.d (D.int .i64 r),[],[]⟩:oP Dl))=_;rw [h];rfl
 exact GD (Y8 ((Sa n).ok) he) hS (Hu (RdLs.agg q) (RdLs.agg s))
theorem DS {n:Nat} {a c d f:LL} {g:Int} {i j k l m o p:LL} (h:UT n a c d f g i j k l m o p some=some 0) {S:Nat->Prop} {w:World} (hS:∀ b,S b->b<w.heap.size) {vs us:List Value} (q:RdLs S w vs (Hj a c d f)) (s:RdLs S w us (H4 g i j k l m o p)) :
  Calls Tryz.prog 115 #[.agg vs.toArray,.agg us.toArray] w fun e w'=>e = .returned (.int .i64 0)/\Below w.heap.size w w':=by
 have he:(So n).E Dl 0 true [.ag ((Hj a c d f).map .d),.ag ((H4 g i j k l m o p).map .d)] (fun _=>none) some=some ⟨.d (.int .i64 0),[],[]⟩:=by
  show gb true (UT n a c d f g i j k l m o p some) 0 (fun r=>(some ⟨.d (D.int .i64 r),[],[]⟩:oP Dl))=_;rw [h];rfl
 exact GD (Y8 ((So n).ok) he) hS (Hu (RdLs.agg q) (RdLs.agg s))
theorem FK {n:Nat} {a c d f:LL} {g:Int} {i j k l m o p:LL} (h:Wg n a c d f g i j k l m o p some=some 0) {S:Nat->Prop} {w:World} (hS:∀ b,S b->b<w.heap.size) {vs us:List Value} (q:RdLs S w vs (Hj a c d f)) (s:RdLs S w us (H4 g i j k l m o p)) :
  Calls Tryz.prog 116 #[.agg vs.toArray,.agg us.toArray] w fun e w'=>e = .returned (.int .i64 0)/\Below w.heap.size w w':=by
 have he:(Tm n).E Dl 0 true [.ag ((Hj a c d f).map .d),.ag ((H4 g i j k l m o p).map .d)] (fun _=>none) some=some ⟨.d (.int .i64 0),[],[]⟩:=by
  show gb true (Wg n a c d f g i j k l m o p some) 0 (fun r=>(some ⟨.d (D.int .i64 r),[],[]⟩:oP Dl))=_;rw [h];rfl
 exact GD (Y8 ((Tm n).ok) he) hS (Hu (RdLs.agg q) (RdLs.agg s))
theorem FV:∀ (n k:Nat),KM (fun _=>0) n k=0
 |0,_=>rfl
 |n+1,k=>by simp [KM,FV n (k+1)]
theorem Q5o (n:Nat) (a c d f:LL) (g:Int) (i j l m o p q:LL) (res:Int) {hl:Nat->oP Ob} (h:Jd n a c d f g i j l m o p q some=some res):ZM Tryz.prog 73 [.ag [.d (D.sl 1 a),.d (D.sl 1 c),.d (D.sl 5 d),.d (D.sl 6 f)],.ag [.d (D.int .i64 g),.d (D.sl 5 i),.d (D.sl 2 j),.d (D.sl 4 l),.d (D.sl 7 m),.d (D.sl 4 o),.d (D.sl 5 p),.d (D.sl 3 q)]] hl ⟨.d (D.int .i64 res),[],[]⟩:=by
 obtain ⟨ao,h⟩:=XG h;injection h with h
 subst h;simp only [Q9V,QrA] at ao;obtain ⟨⟨⟨⟨⟨⟨⟨k0,k1⟩,k2⟩,k3⟩,k4⟩,k5⟩,k6⟩,k7⟩:=ao;refine MX (fn:=Tryz.f73) (by kernel_rfl) (by kernel_rfl) (by kernel_rfl) rfl rfl fun S w args hS hA=>?_
 obtain ⟨v,u,rfl,hv,hu⟩:=Qbk hA;obtain ⟨vs,rfl,hr⟩:=Q4M (xs:=Hj a c d f) hv;obtain ⟨us,rfl,hq⟩:=Q4M (xs:=H4 g i j l m o p q) hu;have ak:=hr.len;have al:=hq.len
 match vs,us,ak,al with
 |[v0,r,s,t],[y,z,u2,u3,u4,u5,u6,u7],_,_=>
  refine (Tryz.plancheck_calls w v0 r s t y z u2 u3 u4 u5 u6 u7 (fun _=>0) (fun k hk w' hs hw=>?_) (fun x hx=>?_)).mono fun e w' ⟨he,hB⟩=>?_
  ·have aj:∀ b,S b->b<w'.heap.size:=fun b hb=>QrB (hS b hb) hs
   have ac:=hr.keep hS hw;have an:=hq.keep hS hw;obtain rfl | rfl | rfl | rfl | rfl | rfl | rfl | rfl:k=0\/k=1\/k=2\/k=3\/k=4\/k=5\/k=6\/k=7:=QoW
   ·exact Cw (VT k0) aj ac an
   ·exact D3 (VT k1) aj ac an
   ·exact Db (VT k2) aj ac an
   ·exact Cz (VT k3) aj ac an
   ·exact F7 (VT k4) aj ac an
   ·exact DV (VT k5) aj ac an
   ·exact DS (VT k6) aj ac an
   ·exact FK (VT k7) aj ac an
  ·rcases List.mem_append.1 (show x∈[v0,r,s,t]++[y,z,u2,u3,u4,u5,u6,u7] from hx) with h | h
   ·exact hr.one x h
   ·exact hq.one x h
  ·rw [FV] at he;exact ⟨_,S,he,fun b h=>h,fun b h=>.inl h,fun b h=>QrB (hS b h) hB.size,.d _ _ (.int _ _),hB⟩
end Go.Vx
namespace Go.Vx
open Go.Proofs
variable (n:Nat)
def Pf (n:Nat):P6:=fun _ _ g aj _ k=>match aj with
 | [c0,c1]=>
  prG c0 fun l0=>(match l0 with
  | [a,b,c,d]=>prS g 1 a fun e=>prS g 1 b fun f=>prS g 5 c fun h=>prS g 6 d fun i=>
  prG c1 fun l1=>(match l1 with
  | [j,l,m,o,p,q,s,t]=>prI g .i64 j fun u=>prS g 5 l fun v=>prS g 2 m fun x=>prS g 4 o fun y=>prS g 7 p fun z=>prS g 4 q fun aa=>prS g 5 s fun ab=>prS g 3 t fun ac=>
  gb g (Jd n e f h i u v x y z aa ab ac some) 0 fun r=>k ⟨.d (D.int .i64 r),[],[]⟩
  | _=>none)
  | _=>none)
 | _=>none
theorem FF (n:Nat):Vg Tryz.prog 73 (Pf n):=by
  intro R ak g an hl k r h
  unfold Pf at h
  split at h
  rotate_left
  · cases h
  replace h:=Q2a h
  obtain ⟨l0,h,q⟩:=h
  subst q
  split at h
  rotate_left
  · cases h
  replace h:=Ug h
  obtain ⟨a,h,s⟩:=h
  replace h:=Ug h
  obtain ⟨b,h,t⟩:=h
  replace h:=Ug h
  obtain ⟨c,h,u⟩:=h
  replace h:=Ug h
  obtain ⟨d,h,v⟩:=h
  replace h:=Q2a h
  obtain ⟨l1,h,e1⟩:=h
  subst e1
  split at h
  rotate_left
  · cases h
  replace h:=Q1J h
  obtain ⟨e,h,x⟩:=h
  replace h:=Ug h
  obtain ⟨f,h,y⟩:=h
  replace h:=Ug h
  obtain ⟨i,h,z⟩:=h
  replace h:=Ug h
  obtain ⟨j,h,aa⟩:=h
  replace h:=Ug h
  obtain ⟨l,h,ab⟩:=h
  replace h:=Ug h
  obtain ⟨m,h,ac⟩:=h
  replace h:=Ug h
  obtain ⟨o,h,ad⟩:=h
  replace h:=Ug h
  obtain ⟨p,h,ae⟩:=h
  replace h:=QO h
  obtain ⟨res,h,hr⟩:=h
  exact ⟨_,h,fun hg=>ZM.conv (avs':=[.ag [.d (D.sl 1 a),.d (D.sl 1 b),.d (D.sl 5 c),.d (D.sl 6 d)],.ag [.d (D.int .i64 e),.d (D.sl 5 f),.d (D.sl 2 i),.d (D.sl 4 j),.d (D.sl 7 l),.d (D.sl 4 m),.d (D.sl 5 o),.d (D.sl 3 p)]]) (.cons (.ag (.cons (s hg) (.cons (t hg) (.cons (u hg) (.cons (v hg) .nil))))) (.cons (.ag (.cons (x hg) (.cons (y hg) (.cons (z hg) (.cons (aa hg) (.cons (ab hg) (.cons (ac hg) (.cons (ad hg) (.cons (ae hg) .nil))))))))) .nil)) (Q5o n a b c d e f i j l m o p res (hr hg))⟩
end Go.Vx
set_option maxRecDepth 100000
namespace Go.Vx
open Go.Proofs
variable (n:Nat)
def Ss:BZ9:=Xa [⟨257,ML n⟩,⟨268,Cp n⟩,⟨269,HH n⟩,⟨239,E8 n⟩] [(7,⟨[],[],[(6,1006,3,1),(7,1007,3,1)],[],[]⟩)]
def EX:LZ9:=mkU (Ss n).ok nT 8 Tryz.f238 [QmB,Qn5,Qm3,Qnv,(11,.l 1),(13,.l 2),Qmt,(38,.l 2),(39,tI),(40,tI)] [Qn7,Qnm,(1006,.arr 3 1),(1007,.arr 3 1)] 114975580 [xE 0 [(41,.b)]] @XO n
def C6:EZ9 238:=mkD (Ss n).ok [EX n n] 238 Tryz.f238 0 @KO n
def Q3l:EZ9 282:=mkD (Xa [⟨158,⟨Jy n,Tx n⟩⟩] []).ok nT 282 Tryz.f282 0 @M7 n
def MD:BZ9:=Xa [⟨282,Q3l n⟩,⟨251,Tb n⟩,⟨283,Q02 n⟩] [(7,⟨[],[],[(6,1006,210,4)],[],[]⟩)]
def Q0k:LZ9:=mkU (MD n).ok nT 8 Tryz.f270 [Qn5,Qm3,(23,.l 6),(24,tI),(25,tI)] [QoL,(1006,.arr 210 4)] 616 [xE 0 [(26,.b)]] @Wd n
def Q2j:EZ9 270:=mkD (MD n).ok [Q0k n n] 270 Tryz.f270 0 @Lj n
def G7:BZ9:=Xa [⟨270,Q2j n⟩] []
def SB:LZ9:=mkU (G7 n).ok nT 2 Tryz.f243 [Qn5,(11,.l 4),Qmi,Qmq] [QoL] 130 [.f .ret [(6,tI)] [] [0],xE 0 [(14,.b)]] @Zr n
def Ra:EZ9 243:=mkD (G7 n).ok [SB n n] 243 Tryz.f243 0 @Zi n
def Ve:BZ9:=Xa [⟨238,C6 n⟩,⟨239,E8 n⟩,⟨240,Aw n⟩,⟨241,Lu n⟩,⟨242,R3 n⟩,⟨243,Ra n⟩,⟨244,Nz n⟩] []
def Rf:LZ9:=mkU (Ve n).ok nT 7 Tryz.f204 [Qm1,Qn5,QmE,(13,.l 1),(14,.l 1),Qmn,(17,tI),(18,.arr 48),QnS] [(5,bT 27 []),(6,.box Qng),(48,.arr 170 3)] 1063461 [xE 0 [(51,.b)]] @XI n
def Rc:LZ9:=mkU (Ve n).ok nT 14 Tryz.f204 [Qn5,QmE,Qmn,(17,tI),(18,.arr 84),(20,.ptr 20 0),(21,.arr 50095),(97,.l 2),(98,tI),(99,tI)] [(5,bT 27 []),(6,.box Qng),(20,.box [.ci .i64 0,tI,tI]),(84,.arr 170 3),(50095,.arr 170 3)] 13492776 [xE 2 [(100,.b)]] @Qj n
def K5:EZ9 204:=mkD (Ve n).ok [Rf n n,Rc n n] 204 Tryz.f204 0 @ZL n
def BS:EZ9 190:=mkD (Xa [⟨219,NA n⟩,⟨204,K5 n⟩] []).ok nT 190 Tryz.f190 0 @ZV n
def Ho:BZ9:=Xa [⟨73,⟨Pf n,FF n⟩⟩,⟨189,AJ n⟩,⟨190,BS n⟩] [(5,⟨[],[],[(7,1007,97,1),(8,1008,3,1)],[],[]⟩)]
def Cl:LZ9:=mkU (Ho n).ok nT 9 Tryz.f134 [QmA,QmB,Qnv,Qnj,Qmf,Qml,(23,.l 4),(24,tI),(25,tI),(31,.l 4),(32,tI),(33,tI)] [Qna,Qnq,(10,.box Qnf),Qny,Qnz] 788594406049 [.f .ret [(4,.nil),(5,.nil),(6,tI)] [] [0],xE 2 [(34,.b)]] @XY n
def C3:LZ9:=mkU (Ho n).ok [Cl n n] 6 Tryz.f134 [QmA,QmB,Qnv,Qnj,(23,.l 4),(24,tI),(25,tI)] QnA 121965718 [.f .ret [(4,.nil),(5,.nil),(6,tI)] [] [0],xE 0 [(26,.b)]] @ZE n
def Ac:EZ9 134:=mkD (Ho n).ok [C3 n n] 134 Tryz.f134 0 @HY n
def B6:EZ9 81:=mkD (Xa [⟨73,⟨Pf n,FF n⟩⟩,⟨133,H3 n⟩,⟨134,Ac n⟩,⟨135,Hq n⟩,⟨136,TY n⟩,⟨137,Kn n⟩,⟨138,GV n⟩] [(3,⟨[],[],[],[(20,12,2812,3,1),(20,13,2813,97,1),(20,14,2814,3,1),(20,15,2815,273,4),(20,17,2817,104,3),(20,18,2818,67,6)],[]⟩)]).ok nT 81 Tryz.f81 0 @GN n
def EP:EZ9 142:=mkD (Xa [⟨204,K5 n⟩] []).ok nT 142 Tryz.f142 0 @VY n
def Yu:BZ9:=Xa [⟨140,P3 n⟩,⟨141,VH n⟩,⟨142,EP n⟩,⟨143,Jt n⟩,⟨144,VQ n⟩] []
def Te:LZ9:=mkU (Yu n).ok nT 17 Tryz.f84 [QmB,Qn5,QoB,QlP,Qmf,QmY,(11,.ptr 11 0),Qmi,(14,.ptr 14 0),QlQ,(46,.l 1),(47,tI),(48,tI),(77,.l 4),(78,tI),(79,tI),(128,.l 3),(129,tI),(130,tI)] [(3,.box Qok),(4,.box [tI]),QoD,(6,.box [tI]),(11,.box [.x,.x,.x,.x,.x]),(14,.box [.x,.x]),Qoy,Qoz,QoV] 5083869477025 [xE 4 [(131,.b)]] @QM n
def T7:LZ9:=mkU (Yu n).ok [Te n n] 9 Tryz.f84 [QmB,Qn5,QoB,QlP,Qmf,QmY,(11,.ptr 11 0),(46,.l 1),(47,tI),(48,tI),(77,.l 4),(78,tI),(79,tI)] [(3,.box Qok),(4,.box [tI]),QoD,(6,.box [tI]),(11,.box [.x,.x,.x,.x,.x]),Qoy,Qoz,QoV] 2019825192481251836 [xE 2 [(80,.b)]] @Qm n
def HN:LZ9:=mkU (Yu n).ok [T7 n n] 5 Tryz.f84 [QmB,Qn5,QoB,QlP,(46,.l 1),(47,tI),(48,tI)] [(3,.box Qok),(4,.box [tI]),QoD,(6,.box [tI]),Qoy,Qoz,QoV] 34205931341042 [xE 0 [(49,.b)]] @Xq n
def Tw:EZ9 84:=mkW (Yu n).ok [HN n n] 84 Tryz.f84 (pT 1000000 188 Qov [sI,eA [qL 1,qB]]) [eT 0] [] 11792 1048575 @Zb n
def Kr:BZ9:=Xa [⟨81,B6 n⟩,⟨82,AN n⟩,⟨83,Sl n⟩,⟨74,Ny n⟩,⟨84,Tw n⟩] [(8,⟨[],[],[],[(39,18,1408,3,1)],[]⟩),(15,⟨[],[],[],[(39,20,503920,59,5)],[]⟩)]
def Er:LZ9:=mkU (Kr n).ok nT 9 Tryz.f48 [Qn5,(12,.ptr 39 0),Qmq,(41,.l 4),(42,tI),(43,tI)] [(5,bT 36 []),(39,bT 188 [(18,.arr 1408),(19,.ci .i64 0),(20,.nil)]),(1408,.arr 3 1)] 411782264189366 [xE 0 [(44,.b)]] @XN n
def Ez:LZ9:=mkU (Kr n).ok nT 16 Tryz.f48 [(12,.ptr 39 0),(68,.l 2),(69,tI),(70,tI)] [(39,bT 188 [(18,.arr 1408),(20,.arr 503920)]),(1408,.arr 3 1),(503920,.arr 59 5)] 235307989435 [xE 2 [(71,.b)]] @Xv n
def Cn:EZ9 48:=mkD (Kr n).ok [Er n n,Ez n n] 48 Tryz.f48 0 @JG n
def Ca:EZ9 16:=mkD (Xa [⟨48,Cn n⟩] []).ok nT 16 Tryz.f16 0 @Pq n
def law19_OccupancyOfFeasibleTimes_VB:BZ9:=Xa [⟨14,Q0b n⟩,⟨15,Q2d n⟩,⟨10,Ap n⟩,⟨16,Ca n⟩,⟨17,Km n⟩,⟨18,RI n⟩] []
def law19_OccupancyOfFeasibleTimes_l1:LZ9:=mkU (law19_OccupancyOfFeasibleTimes_VB n).ok nT 6 Tryz.f4 [Qn5,QmE,(7,.arr 50015),Qmf,(28,tI),(29,tI)] [(5,bT 27 []),(6,bT 36 []),(50015,.arr 3 1)] 28700023 [xE 0 [(30,.b)]] @Qq n
end Go.Vx
