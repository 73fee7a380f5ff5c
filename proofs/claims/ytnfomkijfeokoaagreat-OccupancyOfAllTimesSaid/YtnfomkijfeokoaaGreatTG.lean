/- Part of a proof. No conditions of their own. -/
import Derived.Test.YtnfomkijfeokoaaGreatTF
import Derived.Test.YtnfomkijfeokoaaGreatTB
import Derived.Test.YtnfomkijfeokoaaGreatTC
import Derived.Test.YtnfomkijfeokoaaGreatTD
import Derived.Maps.Own
import Derived.Maps.Views
import Derived.StringKeys
import Derived.WalkKit
import Derived.Deep.AppendLies
import Derived.Laws.Rows
import Derived.OneCell
import Derived.Lib.LaidTab
import Derived.Orders
import Derived.LoopTactic
import Derived.Lib.Builder
import Derived.Carry
import Derived.Deep.RegionHeld3
import Derived.Deep.RegionLaw
import Derived.StillTailTactics
import Derived.OrdersHeld
import Derived.Test.YtnfomkijfeokoaaGreatProg
import Derived.Test.YtnfomkijfeokoaaGreatTE
import Derived.Laws.CopyOwn
import Derived.Deep.OwnRows
set_option linter.unusedVariables false
set_option linter.unusedSimpArgs false
set_option linter.unusedSectionVars false
noncomputable section
abbrev Qqg:=@Go.Lib.cell_of_heap
abbrev Qqh:=@List.getElem?_eq_some_iff
abbrev Qqi:=@List.mem_of_getElem?
abbrev Qqj:=@List.getElem?_cons_zero
abbrev Qqk:=@Array.getElem?_eq_some_iff
abbrev Qql:=@Nat.le_of_ble_eq_true
abbrev Qqm:=@Nat.lt_of_lt_of_le
abbrev Qqn:=@Bool.and_eq_true
abbrev Qqo:=@Option.map_eq_some_iff
abbrev Qqp:=@List.not_mem_nil
abbrev Qqq:=@List.mem_cons
abbrev Qqr:=@List.mem_replicate
abbrev Qqs:=@Array.getElem?_toList
abbrev Qqt:=@List.getElem?_eq_getElem
abbrev Qqu:=@Go.Lib.alloc_old
abbrev Qqv:=@List.take_of_length_le
abbrev Qqw:=@Nat.le_refl
abbrev Qqx:=@Nat.zero_add
abbrev Qqy:=@List.getElem?_take
abbrev Qqz:=@List.getElem?_map
abbrev QqA:=@List.getElem?_set
set_option maxRecDepth 100000
namespace Go.Vx
open Go.Proofs
def Q8n:TT:=[(3,⟨.int .i64,1,8,[.int .i64 0],[.int .i64 0],[],none⟩),(4,⟨.bool,1,1,[.bool false],[.bool false],[],none⟩),(22,⟨.sl 3 1,1,24,[.slice none 0 0],[.sl 1 []],[],none⟩),(53,⟨.sl 59 5,1,24,[.slice none 0 0],[.sl 5 []],[],none⟩),(59,⟨.struct,5,40,[.int .i64 0,.int .i64 0,.int .i64 0,.int .i64 0,.int .i64 0],[.int .i64 0,.int .i64 0,.int .i64 0,.int .i64 0,.int .i64 0],[(0,3),(1,3),(2,3),(3,3),(4,3)],some [.int .i64,.int .i64,.int .i64,.int .i64,.int .i64]⟩)]
theorem Q8Y:Qe9 Tryz.prog [3,4,22,53,59]=Q8n:=by kernel_rfl
def Q84:VC:=⟨Q00 [],Q8n,[]⟩
theorem Cy:VCOk Tryz.prog Q84:=⟨Q3k (show Q2Q Tryz.prog [] from trivial),(Q8Y▸Q8B _:TOk Tryz.prog Q8n),by kernel_rfl⟩
noncomputable def EB (i:Nat):Code:=match i with
 |0=>cL TV
 |1=>cL (cR TV)
 |2=>cL (cL (cR (cR TV)))
 |3=>cL (cB (cB (cR (cL (cR (cR TV))))))
 |4=>cL Qbi
 |5=>cL (cR Qbi)
 |6=>cR (cR Qbi)
 |_=>cR (cR (cR (cB (cB (cR (cL (cR (cR TV))))))))
def Q7A (t:Int) (rows:List (List D)) (f b:Nat) (l:List (Nat×AV)):List (Nat×AV):=(0,.d (.int .i64 t))::(1,.d (.sl 5 rows))::(2,.fn f [.ptr 1000000 0])::(6,.ex (.map (some b)))::l
def Dr (t:Int) (rows:List (List D)) (f b:Nat) (l:List (Nat×AV)):List (Nat×AV):=Q7A t rows f b ((7,.arr 17)::l)
def QcN (t:Int) (rows:List (List D)) (f b:Nat) (i:Int) (l:List (Nat×AV)):List (Nat×AV):=Dr t rows f b ((8,.d (.int .i64 i))::(9,.ptr 9 0)::l)
theorem QeW {R:Type} (t:Int) (f b:Nat) (rows:List (List D)) (k:Exit->St->oP R) :
  Ho Q84 0 (EB 1) ⟨81,Q7A t rows f b [],[]⟩ k =
   gb true (bif decide (0<=((List.length rows:Nat):Int))&&decide (((List.length rows:Nat):Int)<=((List.length rows:Nat):Int)) then some () else none) () fun _=>gb true (Y9 (Int.toNat ((List.length rows:Nat):Int)*8)) () fun _=>
    k .normal ⟨81,(7,.arr 17)::(17,.arr 17)::(16,.d (.int .i64 ((List.length rows:Nat):Int)))::(15,.d (.sl 5 rows))::Q7A t rows f b [],[(17,.arr 3 1 (List.replicate (Int.toNat ((List.length rows:Nat):Int)) [D.int .i64 0]))]⟩:=by kernel_rfl
theorem QeC {R:Type} (t:Int) (f b:Nat) (rows ac:List (List D)) (k:Exit->St->oP R) :
  Ho Q84 0 (EB 2) ⟨81,Dr t rows f b [],[(17,.arr 3 1 ac)]⟩ k =
    k .normal ⟨81,(20,.d (.int .i64 0))::(19,.d (.int .i64 ((List.length rows:Nat):Int)))::(18,.d (.sl 5 rows))::Dr t rows f b [],[(17,.arr 3 1 ac)]⟩:=by kernel_rfl
def Bl (t:Int) (rows:List (List D)) (f b:Nat) (N i:Int) (ac:List (List D)):St:=⟨81,Dr t rows f b [(18,.d (.sl 5 rows)),(19,.d (.int .i64 N)),(20,.d (.int .i64 i))],[(17,.arr 3 1 ac)]⟩
theorem Qbv {R:Type} (t:Int) (f b:Nat) (rows ac:List (List D)) (N i:Int) (k:Exit->St->oP R) :
  Ho Q84 0 (EB 3) (Bl t rows f b N i ac) k=k .normal ⟨81,(21,.d (.bool (decide (i<N))))::(Bl t rows f b N i ac).tm,[(17,.arr 3 1 ac)]⟩:=by kernel_rfl
def Eb (t:Int) (rows:List (List D)) (f b:Nat) (N i:Int) (ac:List (List D)) (c:List AV):St:=⟨81,QcN t rows f b i [(18,.d (.sl 5 rows)),(19,.d (.int .i64 N)),(20,.d (.int .i64 i))],[(9,.box c),(17,.arr 3 1 ac)]⟩
theorem Qec {R:Type} (t:Int) (f b:Nat) (rows ac:List (List D)) (N i:Int) (k:Exit->St->oP R) :
  Ho Q84 0 (EB 4) (Bl t rows f b N i ac) k =
   gb true (Q1 rows i) [] fun r=>gb true (r[0]?) (.bool false) fun c0=>gb true (r[1]?) (.bool false) fun c1=>gb true (r[2]?) (.bool false) fun c2=>gb true (r[3]?) (.bool false) fun c3=>gb true (r[4]?) (.bool false) fun c4=>
    k .normal ⟨81,(8,.d (.int .i64 i))::(9,.ptr 9 0)::(24,.ag [.d c0,.d c1,.d c2,.d c3,.d c4])::(23,.el r 0)::(22,.d (.int .i64 i))::(Bl t rows f b N i ac).tm,[(9,.box [.d c0,.d c1,.d c2,.d c3,.d c4]),(17,.arr 3 1 ac)]⟩:=by kernel_rfl
theorem QeV {R:Type} (t:Int) (f b:Nat) (rows ac:List (List D)) (N i:Int) (k:Exit->St->oP R) :
  Ho Q84 0 (EB 7) (Bl t rows f b N i ac) k=k .normal ⟨81,(20,.d (.int .i64 (wJ (i+1))))::(43,.d (.int .i64 (wJ (i+1))))::(Bl t rows f b N i ac).tm,[(17,.arr 3 1 ac)]⟩:=by kernel_rfl
noncomputable def K8:Array Oper:=Q9I (EB 5)
theorem QhF:EB 5 = .region 5 K8 false:=by kernel_rfl
theorem Qj2:OpAt K8 5 (some 30) (.lookup 189 (.tmp 27) (.tmp 29) false):=CS (by kernel_rfl)
theorem Qjc:OpAt K8 6 (some 31) (.call { callee:=.builtin .len,args:=#[.tmp 30],argTypes:=#[22] }):=CS (by kernel_rfl)
theorem QdP (j:Nat) (hj:j<(K8.toList.take 5).length):(K8.toList.take 5)[j]? = K8[0+j]?:=by
 rw [Qqy,if_pos (by simp at hj;omega),Qqs,Qqx]
theorem Qdg (j:Nat) (hj:j<(K8.toList.drop 7).length):(K8.toList.drop 7)[j]? = K8[7+j]?:=by
 rw [List.getElem?_drop,Qqs]
def QaS (t:Int) (rows:List (List D)) (f b:Nat) (N i res:Int) (ac:List (List D)) (c:List AV):St:=
 ⟨81,(29,.d (.int .i64 res))::(28,.ptr 9 0)::(27,.ex (.map (some b)))::(26,.d (.int .i64 i))::(25,.arr 17)::(Eb t rows f b N i ac (.d (.int .i64 res)::c)).tm,(Eb t rows f b N i ac (.d (.int .i64 res)::c)).h⟩
theorem Qf2 (t:Int) (rows:List (List D)) (f b:Nat) (N i res:Int) (ac:List (List D)) (c:List AV) :
  Qb1 Q84.spec Q84.tt K8 (K8.toList.take 5) (Eb t rows f b N i ac (.d (.int .i64 res)::c)) [] (fun st' _=>some st')=some (QaS t rows f b N i res ac c):=by kernel_rfl
def Qg3 (t:Int) (rows:List (List D)) (f b:Nat) (N i res:Int) (ac:List (List D)) (c:List AV) (v:Value) (n:Int):St:=
 ⟨81,(31,.d (.int .i64 n))::(30,.ex v)::(QaS t rows f b N i res ac c).tm,(Eb t rows f b N i ac (.d (.int .i64 res)::c)).h⟩
theorem QfR {R:Type} (t:Int) (rows:List (List D)) (f b:Nat) (N i res:Int) (ac:List (List D)) (c:List AV) (v:Value) (n:Int) (k:St->oP R) :
  Qb1 Q84.spec Q84.tt K8 (K8.toList.drop 7) (Qg3 t rows f b N i res ac c v n) [] (fun st' _=>k st') =
   gb true (inB (List.length ac) i) () fun _=>gb true (ac[Int.toNat i]?) [] fun r=>k ⟨81,(32,.ap 17 (Int.toNat i) 0)::(Qg3 t rows f b N i res ac c v n).tm,[(17,.arr 3 1 (List.set ac (Int.toNat i) (List.set r 0 (.int .i64 n)))),(9,.box (.d (.int .i64 res)::c))]⟩:=by kernel_rfl
theorem QeD (a:Act) (w:World) (x:Nat) (ao:oP Addr) (n cap:Nat) (hx:a.eval (.tmp x) = .slice ao n cap) (o:Oper) (h:o.op = .call { callee:=.builtin .len,args:=#[.tmp x],argTypes:=#[22] }):(execOp a.eval o).run Tryz.prog w = .ok (.value (.int .i64 n)) w:=by
 unfold execOp;simp [h,resolve,invoke,builtin,hx,Builtin.len_,QA Tryz.underlying22,goInt]
theorem RdA.ex_inv {β:Nat->oP Nat} {S:Nat->Prop} {h:Nat->oP Ob} {w:World} {tm:Nat->Value} {v u:Value} (hv:RdA β S h w tm v (.ex u)):v=u:=by
 cases hv with
 |ex=>rfl
 |dang _ _ l hl=>simp [PP] at hl
theorem Ln {α:Type} {tm:List (Nat×α)} {t:Nat} {av:α} (h:look tm t=some av):∀ {pre:List (Nat×α)},(pre.all fun p=>(look tm p.1).isNone)=true->look (pre++tm) t=some av
 |[],_=>h
 |(k,x)::r,hp=>by
  simp only [List.all_cons,Qqn] at hp;rw [List.cons_append,Qx];by_cases e:t=k
  ·subst e;have:=hp.1;rw [h] at this;cases this
  ·rw [if_neg e];exact Ln h hp.2
theorem Q5s {E:Env} {o:Oper} {ev:Operand->AV} {hl:Nat->oP Ob} {v:Value} {av:AV} (ac:∀ β S h w tm,RdA β S h w tm v av)
  (h:∀ β S st a w,Rel E β S st a w->D8 β S st a w o ev->(execOp a.eval o).run Tryz.prog w = .ok (.value v) w):Ge Tryz.prog E o ev hl ⟨av,[],[]⟩:=
 Qk fun β S st a w hR hO hA=>⟨v,h β S st a w hR hO,ac ..⟩
theorem QeG {E:Env} {β:Nat->oP Nat} {S:Nat->Prop} {a:Act} {w:World} {t:Int} {rows ac:List (List D)} {f b n:Nat} {N res:Int} {i:Nat} {c:List AV} {D:DataW Unit} {No:Nat->Prop}
  (hR:Rel E β S (Eb t rows f b N i ac (.d (.int .i64 res)::c)) a w) {Hd:Nat->Prop} (hO:Off β S (look (Eb t rows f b N i ac (.d (.int .i64 res)::c)).h) w Hd) (hb:Hd b) (hG:GI b n D No w) (hn:n<=1000000000)
  (hw:(Lit.int .i64 res).wf=true) (hi:i<ac.length) (bl:ac.length<=9223372036854775807) {x:Go.Vx.D} (a8:ac[i]? = some [x]) {Q:Exit->Act->World->Prop}
  (hQ:∀ β' S' a' w' v zs,Rel E β' S' (Eb t rows f b N i (ac.set i [.int .i64 (List.length zs:Nat)]) (.d (.int .i64 res)::c)) a' w'->Off β' S' (look (Eb t rows f b N i (ac.set i [.int .i64 (List.length zs:Nat)]) (.d (.int .i64 res)::c)).h) w' Hd->(∀ k,Hd k->w'.heap[k]? = w.heap[k]?)->w.heap.size<=w'.heap.size ->
   D.atKey (.int .i64 res) .nil=rowDatum .i64 v zs->w.ownsInts (b+1) 3 .i64 v zs->Q .normal a' w'):(EB 5).wp Tryz.prog Q a w:=by
 obtain ⟨v,zs,au,hat,ay,bm,ba,bh⟩:=hG.lookup hn hw;obtain ⟨ao,cap,rfl⟩:∃ ao cap,v = .slice ao zs.length cap:=by
  rcases ay.1.2 with ⟨rfl,h0⟩ | ⟨g,cap,bn,rfl,_⟩
  ·exact ⟨none,0,by rw [h0]⟩
  ·exact ⟨_,cap,rfl⟩
 have a7:∀ {β' S' st' a' w'},Rel (Q1b β S (look (Eb t rows f b N i ac (.d (.int .i64 res)::c)).h) w) β' S' st' a' w'->w'.heap[b]? = w.heap[b]?:=fun h=>h.hr.fr.block b (hO.lt b hb) (fun ⟨l,h1,h2⟩=>hO.nO b hb l h1 h2)
 obtain ⟨r1,br,l1,k1,aw⟩:=B7 (E:=Q1b β S (look (Eb t rows f b N i ac (.d (.int .i64 res)::c)).h) w) Cy.spec Cy.tt _ 0 _ _ _ _ QdP (Qf2 t rows f b N i res ac c);injection k1 with k1
 subst k1;obtain ⟨o5,p1,p2,p3,p4⟩:=Qj2.ex;obtain ⟨o6,q1,q2,q3,q4⟩:=Qjc.ex;have ar:=Te.one (P:=Tryz.prog) (E:=Q1b β S (look (Eb t rows f b N i ac (.d (.int .i64 res)::c)).h) w) (st:=QaS t rows f b N i res ac c) p1 p4 (dl:=⟨.ex (.slice ao zs.length cap),[],[]⟩) (Q5s (v:=.slice ao zs.length cap) (fun _ _ _ _ _=>.ex _) fun β' S' st' a' w' aj aq=>by
   have h1:a'.eval (.tmp 27) = .map (some b):=RdA.ex_inv (aq (.tmp 27) (by simp [p3,Op.operands])).1;have h2:a'.eval (.tmp 29) = .int .i64 res:=RdA.int_inv (aq (.tmp 29) (by simp [p3,Op.operands])).1;exact Q38 a' w' 27 29 b _ _ h1 h2 (au w' (a7 aj)) o5 p3) ⟨by rw [p2];kernel_rfl,rfl⟩
 have ak:=Te.one (P:=Tryz.prog) (E:=Q1b β S (look (Eb t rows f b N i ac (.d (.int .i64 res)::c)).h) w) (st:=put (QaS t rows f b N i res ac c) o5.dst ⟨.ex (.slice ao zs.length cap),[],[]⟩) q1 q4 (dl:=⟨.d (.int .i64 (List.length zs:Nat)),[],[]⟩) (Q5s (v:=.int .i64 (List.length zs:Nat)) (fun _ _ _ _ _=>.d _ _ (.int _ _)) fun β' S' st' a' w' aj aq=>by
   have h1:a'.eval (.tmp 30) = .slice ao zs.length cap:=by
    have:=(aq (.tmp 30) (by simp [q3,Op.operands,Call.operands])).1;rw [p2] at this;exact RdA.ex_inv this
   exact QeD a' w' 30 ao zs.length cap h1 o6 q3) ⟨by rw [p2,q2];kernel_rfl,rfl⟩
 rw [p2] at ar ak;rw [q2] at ak;have az:=QfR t rows f b N i res ac c (.slice ao zs.length cap) (List.length zs:Nat) (fun st'=>some st');rw [YX QnI QnI,Q0,Int.toNat_natCast,a8,Q0] at az;obtain ⟨r4,bj,l4,k4,a2⟩:=B7 (E:=Q1b β S (look (Eb t rows f b N i ac (.d (.int .i64 res)::c)).h) w) Cy.spec Cy.tt _ 7 _ _ _ _ Qdg az;injection k4 with k4
 subst k4;have a1:=((aw.append (by rw [l1];exact ar)).append (by rw [List.length_append,l1];exact ak)).append (r2:=r4) (by simp only [List.length_append,l1];exact a2);rw [QhF];refine Q1H a1 (by simp only [List.length_append,l1,l4,List.length_cons,List.length_nil];kernel_rfl) ⟨β,S,hR.anew⟩ fun a' w' ⟨β',S',aj⟩=>?_
 obtain ⟨g1,g2⟩:=hO.keep aj;have ax:List.set [x] 0 (Go.Vx.D.int .i64 (List.length zs:Nat))=[Go.Vx.D.int .i64 (List.length zs:Nat)]:=rfl;rw [ax] at aj g1;have an:∀ l,look (Eb t rows f b N i (ac.set i [.int .i64 (List.length zs:Nat)]) (.d (.int .i64 res)::c)).h l=look [(17,Ob.arr 3 1 (ac.set i [.int .i64 (List.length zs:Nat)])),(9,.box (.d (.int .i64 res)::c))] l:=fun l=>by
  by_cases e1:l=9
  ·subst e1;rfl
  ·by_cases e2:l=17
   ·subst e2;rfl
   ·show look (_::_::[]) l=look (_::_::[]) l;rw [Qx,Qx,Qx,Qx,if_neg e1,if_neg e2,if_neg e2,if_neg e1]
 have bc:=hR.back aj (fun l hl hs=>by
  rw [Qx,Qx,if_neg QnI,if_neg QnI] at hs;cases hs)
 refine hQ β' S' a' w' _ zs (bc.sub rfl (fun t' av ht=>⟨?_,fun l _=>an l⟩) (fun l o ho=>⟨(an l).symm.trans ho,fun m _=>an m⟩)) ⟨g1.lt,g1.nS,fun k hk l hs=>g1.nO k hk l ((an l).symm▸hs)⟩ g2 aj.hr.fr.size hat ay;exact Ln (pre:=[(32,.ap 17 i 0),(31,.d (.int .i64 (List.length zs:Nat))),(30,.ex (.slice ao zs.length cap)),(29,.d (.int .i64 res)),(28,.ptr 9 0),(27,.ex (.map (some b))),(26,.d (.int .i64 i)),(25,.arr 17)]) ht (by kernel_rfl)
end Go.Vx
namespace Go.Vx
open Go.Proofs Go.Maps Go.RowKit Go.ChangeShapes
def DOK (rs:List Int) (i:Nat) (D:DataW Unit):Prop:=IsMap D/\∀ r:Int,D.atKey (.int .i64 r) .nil=if AL rs i r=[] then .nil else .slice (lits .i64 (AL rs i r)) []
theorem Qbg (rs:List Int):DOK rs 0 (.map []):=⟨⟨_,rfl⟩,fun r=>rfl⟩
theorem Qbd {xs ys:List Int} (h:(lits .i64 xs:List (DataW Unit))=lits .i64 ys):xs=ys:=by
 unfold lits at h;exact (List.map_inj_right (fun a b ac=>by cases ac;rfl)).1 h
theorem Q8c {rs:List Int} {i:Nat} {D:DataW Unit} (h:DOK rs i D) {w:World} {base:Nat} {v:Value} {zs:List Int} {r:Int} (hat:D.atKey (.int .i64 r) .nil=rowDatum .i64 v zs) (ho:w.ownsInts base 3 .i64 v zs):zs=AL rs i r:=by
 rw [h.2 r] at hat;rcases ho.datum (H:=Unit) with ⟨h1,rfl⟩ | h1
 ·rw [h1] at hat;split at hat
  ·rename_i h2;exact h2.symm
  ·cases hat
 ·rw [h1] at hat;split at hat
  ·cases hat
  ·injection hat with hat
   exact (Qbd hat).symm
theorem QaL {rs:List Int} {i:Nat} {D:DataW Unit} (h:DOK rs i D):DOK rs (i+1) (D.put (.int .i64 (rs.getD i 0)) (.slice (lits .i64 (AL rs i (rs.getD i 0)++[(i:Int)])) [])):=by
 refine ⟨h.1.put _ _,fun r=>?_⟩;rw [Q9M];by_cases e:rs.getD i 0=r
 ·subst e;rw [atKey_put_same h.1 (by trivial),if_pos rfl,if_neg QnK]
 ·rw [atKey_put_other (fun h=>e (by injection h with _ h;exact h.symm)),if_neg e,List.append_nil];exact h.2 r
def Q4v (w:World) (b g:Nat):Prop:=∃ es ac,w.heap[b]? = some (.map es ac)/\∃ x∈es.toList,x.val.ownBlock=some g
def Hg (w:World) (b k:Nat):Prop:=k=b\/Q4v w b k
def Qii (w:World) (b g:Nat):Prop:=g<w.heap.size/\g≠b/\¬ Q4v w b g
theorem Qd0 {w:World} {b n:Nat} {D:DataW Unit} (h:w.ownsGroups Tryz.prog 3 (b+1) 3 .i64 b n D):GI b n D (Qii w b) w:=
 ⟨h,fun es ac hb x hx g hg hN=>hN.2.2 ⟨es,ac,hb,x,hx,hg⟩,fun h=>h.2.1 rfl,fun g hg h=>by have:=h.1;omega⟩
theorem Q5w {w:World} {b n g:Nat} {D:DataW Unit} (h:w.ownsGroups Tryz.prog 3 (b+1) 3 .i64 b n D) (hr:Q4v w b g):b+1<=g/\g<w.heap.size:=by
 obtain ⟨es,ak,hb,F,_⟩:=h;obtain ⟨ao,aj,ac,x,hx,hg⟩:=hr;rw [hb] at ac;injection ac with ac;injection ac with e1 e2
 subst e1;obtain ⟨y,hy⟩:=F.reads x hx;obtain ⟨z,hz,_⟩:=WideElems.rd_val hy;obtain ⟨zs,al,_⟩:=rowElem_inv hz;exact al.1.lt g hg
theorem Qdi {E:Env} {β:Nat->oP Nat} {S:Nat->Prop} {a:Act} {w:World} {t:Int} {rows ac:List (List Go.Vx.D)} {f b n:Nat} {N res:Int} {i:Nat} {c:List AV} {D:DataW Unit} {Hh:Nat->Prop}
  (hR:Rel E β S (Eb t rows f b N i ac (.d (.int .i64 res)::c)) a w) (hO:Off β S (look (Eb t rows f b N i ac (.d (.int .i64 res)::c)).h) w (fun k=>Hg w b k\/Hh k)) (hh:∀ k,Hh k->k<b) (ba:E.w0.heap.size<=b)
  (ar:w.ownsGroups Tryz.prog 3 (b+1) 3 .i64 b n D) (hn:n<=1000000000) (hi:i<=1000000000) (bg:(Lit.int .i64 res).wf=true) {Q:Exit->Act->World->Prop}
  (hQ:∀ a' w' v zs,Rel E β S (Eb t rows f b N i ac (.d (.int .i64 res)::c)) a' w'->Off β S (look (Eb t rows f b N i ac (.d (.int .i64 res)::c)).h) w' (fun k=>Hg w' b k\/Hh k)->(∀ k,Hh k->w'.heap[k]? = w.heap[k]?)->w.heap.size<=w'.heap.size ->
   D.atKey (.int .i64 res) .nil=rowDatum .i64 v zs->w.ownsInts (b+1) 3 .i64 v zs->w'.ownsGroups Tryz.prog 3 (b+1) 3 .i64 b (n+1) (D.put (.int .i64 res) (.slice (lits .i64 (zs++[(i:Int)])) []))->Q .normal a' w'):(EB 6).wp Tryz.prog Q a w:=by
 have a6:EB 6 = .region 6 Q9k true:=by kernel_rfl
 have t6:tmv a 6 = .map (some b):=RdA.ex_inv (hR.tm 6 _ rfl);have t8:tmv a 8 = .int .i64 (i:Int):=RdA.int_inv (hR.tm 8 _ rfl);obtain ⟨ub,ao,t9⟩:=RdA.ptr_inv (hR.tm 9 _ rfl);obtain ⟨bj,ty,cs,fz,e1,e2,_,e4,e5⟩:=hR.hr.ob 9 (.box (.d (.int .i64 res)::c)) rfl;obtain rfl:ub=bj:=by rw [ao] at e1;injection e1
 have aw:w.cell? ⟨ub,0,none⟩=some (.int .i64 res):=by
  have h1:=RdA.int_inv (e5 0 _ rfl);have an:0<cs.size:=by rw [e4];simp
  simp only [Array.getD,an,dite_true] at h1;simp [World.cell?,e2,an];exact h1
 have ax:(look (Eb t rows f b N i ac (.d (.int .i64 res)::c)).h 9).isSome=true:=rfl;have bi:Qii w b ub:=⟨Hs hR ax ao,fun e=>hO.nO ub (.inl (.inl e)) 9 ax ao,fun h=>hO.nO ub (.inl (.inr h)) 9 ax ao⟩;rw [a6];refine QfU QhH (Qd0 ar) hn (hR.n) t6 t8 t9 aw bi bg (WalkArith.wf_i64 QnI) fun a' w' v zs an a9 a2 hat bc hG bb bh ay aj aq=>?_
 have a3:Off β S (look (Eb t rows f b N i ac (.d (.int .i64 res)::c)).h) w (Hg w b):=⟨fun k hk=>hO.lt k (.inl hk),fun k hk=>hO.nS k (.inl hk),fun k hk=>hO.nO k (.inl hk)⟩;have a4:Rel E β S (Eb t rows f b N i ac (.d (.int .i64 res)::c)) a' w':=by
  refine Q93 hR a3 (fun k hk=>?_) (by rw [an,hR.n];rfl) a9 (fun t' av ht=>?_) bb bh ay aj fun k hk az=>aq k hk (.inr ⟨hk,fun e=>az (.inl e),fun h=>az (.inr h)⟩)
  ·rcases hk with rfl | hk
   ·exact .inr ba
   ·have:=(Q5w ar hk).1;exact .inr QnI
  ·have hm:=Xd ht;simp only [Eb,QcN,Dr,Q7A,Qqq,Prod.mk.injEq,Qqp,or_false] at hm;have a7:t'<33:=QnI
   refine ⟨a2 t' (.inl a7),fun bn hg=>?_⟩;rcases hm with ⟨_,rfl⟩ | ⟨_,rfl⟩ | ⟨_,rfl⟩ | ⟨_,rfl⟩ | ⟨_,rfl⟩ | ⟨_,rfl⟩ | ⟨_,rfl⟩ | ⟨_,rfl⟩ | ⟨_,rfl⟩ | ⟨_,rfl⟩ <;> simp [gds,Cr] at hg
 have a1:∀ k,Q4v w' b k->w.heap.size<=k\/k=b\/Q4v w b k:=fun k hk=>by
  by_cases h1:w.heap.size<=k
  ·exact .inl h1
  ·by_cases h2:k=b
   ·exact .inr (.inl h2)
   ·by_cases h3:Q4v w b k
    ·exact .inr (.inr h3)
    ·obtain ⟨es,au,hb,x,hx,hg⟩:=hk;exact absurd ⟨QnI,h2,h3⟩ (hG.shun es au hb x hx k hg)
 have ak:∀ k,Hg w' b k\/Hh k->(w.heap.size<=k/\k<w'.heap.size)\/(Hg w b k\/Hh k):=fun k hk=>by
  rcases hk with (hk | hk) | hk
  ·exact .inr (.inl (.inl hk))
  ·rcases a1 k hk with h | h | h
   ·exact .inl ⟨h,(Q5w hG.own hk).2⟩
   ·exact .inr (.inl (.inl h))
   ·exact .inr (.inl (.inr h))
  ·exact .inr (.inr hk)
 refine hQ a' w' v zs a4 ⟨fun k hk=>?_,fun k hk hS=>?_,fun k hk l hs hb=>?_⟩ (fun k hk=>aq k (hO.lt k (.inr hk)) (.inl (hh k hk))) aj hat bc hG.own
 ·rcases ak k hk with h | h
  ·exact h.2
  ·exact Qqm (hO.lt k h) aj
 ·rcases ak k hk with h | h
  ·have:=hR.hr.sb k hS;omega
  ·exact hO.nS k h hS
 ·rcases ak k hk with h | h
  ·have:=Hs hR hs hb;omega
  ·exact hO.nO k h l hs hb
def onN (e:Exit) (st:St):oP St:=match e with
 |.normal=>some st
 |_=>none
theorem Q5T {e:Exit} {st r:St} (h:onN e st=some r):e = .normal/\st=r:=by
 cases e with
 |normal=>injection h with h;exact ⟨rfl,h⟩
 |_=>cases h
theorem Ey {E:Env} {β:Nat->oP Nat} {S:Nat->Prop} {a:Act} {w:World} {st r:St} {c:Code} (h:Ho Q84 0 c st onN=some r) (hR:Rel E β S st a w) {Hd:Nat->Prop} (hO:Off β S (look st.h) w Hd)
  (hp:∀ l,1000000<=l->(look r.h l).isSome=true->(look st.h l).isSome=true) {Q:Exit->Act->World->Prop}
  (hQ:∀ β' S' a' w',Rel E β' S' r a' w'->Off β' S' (look r.h) w' Hd->(∀ k,Hd k->w'.heap[k]? = w.heap[k]?)->w.heap.size<=w'.heap.size->Q .normal a' w'):c.wp Tryz.prog Q a w:=by
 refine wp_mono (Q92 Cy h hR hO (fun e st' hk=>by obtain ⟨_,rfl⟩:=Q5T hk;exact hp)) fun e a' w' ⟨st',β',S',h1,h2,h3,h4,h5⟩=>?_
 obtain ⟨rfl,rfl⟩:=Q5T h2;exact hQ β' S' a' w' h1 h3 h4 h5.size
theorem QcJ {E:Env} {β:Nat->oP Nat} {S:Nat->Prop} {a:Act} {w:World} {t:Int} {rows ac:List (List Go.Vx.D)} {f b:Nat} {N res:Int} {i:Nat} {c1 c2 c3 c4:Go.Vx.D} {Hd:Nat->Prop}
  (hR:Rel E β S (Bl t rows f b N i ac) a w) (hO:Off β S (look (Bl t rows f b N i ac).h) w Hd) (an:rows[i]? = some [.int .i64 res,c1,c2,c3,c4]) {Q:Exit->Act->World->Prop}
  (hQ:∀ β' S' a' w',Rel E β' S' (Eb t rows f b N i ac [.d (.int .i64 res),.d c1,.d c2,.d c3,.d c4]) a' w'->Off β' S' (look (Eb t rows f b N i ac [.d (.int .i64 res),.d c1,.d c2,.d c3,.d c4]).h) w' Hd->(∀ k,Hd k->w'.heap[k]? = w.heap[k]?)->w.heap.size<=w'.heap.size->Q .normal a' w') :
  (EB 4).wp Tryz.prog Q a w:=by
 have hx:=Qec t f b rows ac N i onN;have aq:Q1 rows (i:Int)=some [.int .i64 res,c1,c2,c3,c4]:=by
  have h0:=QK (f:=fun x:List Go.Vx.D=>x) an;rwa [List.map_id'] at h0
 rw [aq] at hx;refine Ey hx hR hO (fun l hl hs=>?_) fun β' S' a' w' h1 h2 h3 h4=>hQ β' S' a' w' (h1.sub rfl (fun t' av ht=>⟨?_,fun _ _=>rfl⟩) (fun l o ho=>⟨ho,fun _ _=>rfl⟩)) h2 h3 h4
 ·have aj:(look [(9,Ob.box [.d (.int .i64 res),.d c1,.d c2,.d c3,.d c4]),(17,.arr 3 1 ac)] l).isSome=true:=hs;rw [Qx,Qx,if_neg QnI,if_neg QnI] at aj;cases aj
 ·have hm:=Xd ht;simp only [Eb,QcN,Dr,Q7A,Qqq,Prod.mk.injEq,Qqp,or_false] at hm;rcases hm with ⟨rfl,rfl⟩ | ⟨rfl,rfl⟩ | ⟨rfl,rfl⟩ | ⟨rfl,rfl⟩ | ⟨rfl,rfl⟩ | ⟨rfl,rfl⟩ | ⟨rfl,rfl⟩ | ⟨rfl,rfl⟩ | ⟨rfl,rfl⟩ | ⟨rfl,rfl⟩ <;> rfl
theorem QfI {E:Env} {β:Nat->oP Nat} {S:Nat->Prop} {a:Act} {w:World} {t:Int} {rows ac:List (List Go.Vx.D)} {f b:Nat} {N i:Int} {c:List AV} (hR:Rel E β S (Eb t rows f b N i ac c) a w):Rel E β S (Bl t rows f b N i ac) a w:=by
 have ak:∀ l,l≠9->look (Bl t rows f b N i ac).h l=look (Eb t rows f b N i ac c).h l:=fun l hl=>by
  show look (_::[]) l=look (_::_::[]) l;rw [Qx,Qx,Qx,if_neg hl]
 refine hR.sub rfl (fun t' av ht=>?_) (fun l o ho=>?_)
 ·have hm:=Xd ht;simp only [Bl,Dr,Q7A,Qqq,Prod.mk.injEq,Qqp,or_false] at hm;rcases hm with ⟨rfl,rfl⟩ | ⟨rfl,rfl⟩ | ⟨rfl,rfl⟩ | ⟨rfl,rfl⟩ | ⟨rfl,rfl⟩ | ⟨rfl,rfl⟩ | ⟨rfl,rfl⟩ | ⟨rfl,rfl⟩ <;> refine ⟨rfl,fun l hn=>ak l (fun e=>?_)⟩ <;> subst e <;> simp [Z3,Je] at hn
 ·have aj:look (Bl t rows f b N i ac).h l=some o:=ho;have hl:l=17:=by
   by_cases e:l=17
   ·exact e
   ·rw [show (Bl t rows f b N i ac).h=[(17,Ob.arr 3 1 ac)] from rfl,Qx,if_neg e] at aj;cases aj
  subst hl;have:o = .arr 3 1 ac:=by injection aj with h;exact h.symm
  subst this;exact ⟨rfl,fun m hm=>by cases hm⟩
theorem Qcz {E:Env} {β:Nat->oP Nat} {S:Nat->Prop} {a:Act} {w:World} {t:Int} {rows ac:List (List Go.Vx.D)} {f b:Nat} {N:Int} {i:Nat} (hi:i<=1000000000) {Hd:Nat->Prop}
  (hR:Rel E β S (Bl t rows f b N i ac) a w) (hO:Off β S (look (Bl t rows f b N i ac).h) w Hd) {Q:Exit->Act->World->Prop}
  (hQ:∀ β' S' a' w',Rel E β' S' (Bl t rows f b N (i+1:Nat) ac) a' w'->Off β' S' (look (Bl t rows f b N (i+1:Nat) ac).h) w' Hd->(∀ k,Hd k->w'.heap[k]? = w.heap[k]?)->w.heap.size<=w'.heap.size->Q .normal a' w') :
  (EB 7).wp Tryz.prog Q a w:=by
 have hx:=QeV t f b rows ac N i onN;rw [Q0N QnI QnI,show ((i:Int)+1)=((i+1:Nat):Int) from rfl] at hx;refine Ey hx hR hO (fun l hl hs=>hs) fun β' S' a' w' h1 h2 h3 h4=>hQ β' S' a' w' (h1.sub rfl (fun t' av ht=>⟨?_,fun _ _=>rfl⟩) (fun l o ho=>⟨ho,fun _ _=>rfl⟩)) h2 h3 h4
 have hm:=Xd ht;simp only [Bl,Dr,Q7A,Qqq,Prod.mk.injEq,Qqp,or_false] at hm;rcases hm with ⟨rfl,rfl⟩ | ⟨rfl,rfl⟩ | ⟨rfl,rfl⟩ | ⟨rfl,rfl⟩ | ⟨rfl,rfl⟩ | ⟨rfl,rfl⟩ | ⟨rfl,rfl⟩ | ⟨rfl,rfl⟩ <;> rfl
noncomputable def Q75:Code:=cB (cB (cR (cL (cR (cR TV)))))
theorem Q5V:Q75 = .seq (EB 3) (.seq (.cond (.tmp 21) .skip (.exit 0)) (.seq (.block 1 (.seq (EB 4) (.seq (EB 5) (EB 6)))) (EB 7))):=by kernel_rfl
def LI (E:Env) (t:Int) (rows:List (List Go.Vx.D)) (f b:Nat) (rs:List Int) (Hh:Nat->Prop) (ac:World) (i:Nat) (a:Act) (w:World):Prop:=
 ∃ β S D,Rel E β S (Bl t rows f b (rs.length:Nat) i (BI rs i)) a w/\Off β S (look (Bl t rows f b (rs.length:Nat) i (BI rs i)).h) w (fun k=>Hg w b k\/Hh k) /\
  w.ownsGroups Tryz.prog 3 (b+1) 3 .i64 b i D/\DOK rs i D/\(∀ k,Hh k->w.heap[k]? = ac.heap[k]?)
theorem Q4c {w w':World} {b:Nat} (h:w'.heap[b]? = w.heap[b]?) (k:Nat):Hg w' b k↔Hg w b k:=by unfold Hg Q4v;rw [h]
theorem NI {w w':World} {b n:Nat} {D:DataW Unit} (h:w.ownsGroups Tryz.prog 3 (b+1) 3 .i64 b n D) (hk:∀ k,Hg w b k->w'.heap[k]? = w.heap[k]?):w'.ownsGroups Tryz.prog 3 (b+1) 3 .i64 b n D:=by
 obtain ⟨es,ac,hb,F,hs,rfl,ay,an,au⟩:=h;have aj:∀ x∈es.toList,∀ zs,w.ownsInts (b+1) 3 .i64 x.val zs->w'.ownsInts (b+1) 3 .i64 x.val zs:=fun x hx zs ho=>by
  refine ⟨⟨ho.1.1,ho.1.2.imp id fun ⟨g,cap,ax,hv,h0,hg,r⟩=>⟨g,cap,ax,hv,h0,?_,r⟩⟩,ho.2⟩;rw [hk g (.inr ⟨es,ac,hb,x,hx,by rw [hv];rfl⟩)];exact hg
 have ar:∀ x∈es.toList,∀ z,rowElem (H:=Unit) w (b+1) 3 .i64 x.val=some z->rowElem w' (b+1) 3 .i64 x.val=some z:=fun x hx z hz=>by
  obtain ⟨zs,ho,rfl⟩:=rowElem_inv hz;exact rowElem_mk (aj x hx zs ho)
 obtain ⟨F1,ao,_⟩:=F.stay ar;refine ⟨es,ac,(hk b (.inl rfl)).trans hb,F1,hs,by rw [ao],ay,fun x hx zs ho=>?_,au⟩;obtain ⟨y,hy⟩:=F.reads x hx;obtain ⟨z,hz,_⟩:=WideElems.rd_val hy;obtain ⟨al,ak,_⟩:=rowElem_inv hz;rw [ho.unique (aj x hx al ak)];exact an x hx al ak
theorem Q5o {β:Nat->oP Nat} {S:Nat->Prop} {h:Nat->oP Ob} {w w':World} {b:Nat} {Hh:Nat->Prop} (hO:Off β S h w' (fun k=>Hg w b k\/Hh k)) (hb:w'.heap[b]? = w.heap[b]?):Off β S h w' (fun k=>Hg w' b k\/Hh k):=
 ⟨fun k hk=>hO.lt k (hk.imp (Q4c hb k).1 id),fun k hk=>hO.nS k (hk.imp (Q4c hb k).1 id),fun k hk=>hO.nO k (hk.imp (Q4c hb k).1 id)⟩
theorem Q9C {E:Env} {t:Int} {rows:List (List Go.Vx.D)} {f b:Nat} {rs:List Int} {Hh:Nat->Prop} {ax:World} {i:Nat} {a:Act} {w:World} (bb:Q5N rows=some rs) (hN:rs.length<=1000000000) (hh:∀ k,Hh k->k<b) (bk:E.w0.heap.size<=b)
  (h:LI E t rows f b rs Hh ax i a w) (hi:i<rs.length) {Q:Exit->Act->World->Prop}:Q75.wp Tryz.prog (Exit.then (LI E t rows f b rs Hh ax (i+1)) Q) a w:=by
 obtain ⟨β,S,D,hR,hO,ac,hD,hH⟩:=h;obtain ⟨r,c1,c2,c3,c4,g1,g2,g3,g4⟩:=Q8G bb i (by rw [<- Mg bb];exact hi);have a8:(Lit.int .i64 r).wf=true:=WalkArith.wf_i64 QnI;rw [Q5V];refine wp_seq (Ey (Qbv t f b rows (BI rs i) (rs.length:Nat) i onN) hR hO (fun l hl hs=>hs) fun β1 S1 a1 w1 bc bp aj ca=>?_);refine wp_seq (wp_cond_true (by
  have:=RdA.bool_inv (bc.tm 21 _ rfl);rw [show a1.eval (.tmp 21)=tmv a1 21 from rfl,this];simp;omega) (wp_skip ?_))
 have a7:Rel E β1 S1 (Bl t rows f b (rs.length:Nat) i (BI rs i)) a1 w1:=bc.sub rfl (fun t' av ht=>⟨Ln (pre:=[(21,.d (.bool (decide ((i:Int)<(rs.length:Nat)))))]) ht rfl,fun _ _=>rfl⟩) (fun l o ho=>⟨ho,fun _ _=>rfl⟩);have bl:=NI ac (fun k hk=>aj k (.inl hk));refine wp_seq (wp_block (wp_seq (QcJ a7 bp g1 fun β2 S2 a2 w2 bn bi ak b1=>?_)));have al:=NI ac (fun k hk=>(ak k (.inl hk)).trans (aj k (.inl hk)));refine wp_seq (QeG bn bi (.inl (.inl rfl)) (Qd0 al) QnI a8 (by rw [CQ rs QnI];exact hi) (by rw [CQ rs QnI];omega) (QcK rs hi) fun β3 S3 a3 w3 v zs aw ba au bx hat bm=>?_);have bj:=Q8c hD hat bm;subst bj;rw [<- g2,Q8z rs hi] at aw ba;have bo:w3.heap[b]? = w.heap[b]?:=(au b (.inl (.inl rfl))).trans ((ak b (.inl (.inl rfl))).trans (aj b (.inl (.inl rfl))));have ao:=NI ac (fun k hk=>(au k (.inl hk)).trans ((ak k (.inl hk)).trans (aj k (.inl hk))));refine Qdi aw (Q5o ba bo) hh bk ao QnI QnI (g2▸a8) fun a4 w4 v4 b8 br aq bu b7 az a6 an=>?_
 have ay:=Q8c hD az a6;subst ay;refine Qcz QnI (QfI br) ⟨aq.lt,aq.nS,fun k hk l hs hb=>?_⟩ fun β5 S5 a5 w5 bq bg ar b4=>?_
 ·have hl:l=17:=by
   by_cases e:l=17
   ·exact e
   ·have a9:(look [(17,Ob.arr 3 1 (BI rs (i+1)))] l).isSome=true:=hs;rw [Qx,if_neg e] at a9;cases a9
  subst hl;exact aq.nO k hk 17 rfl hb
 ·exact ⟨β5,S5,_,bq,Q5o bg (ar b (.inl (.inl rfl))),NI an (fun k hk=>ar k (.inl hk)),QaL hD,fun k hk=>(ar k (.inr hk)).trans ((bu k hk).trans ((au k (.inr hk)).trans ((ak k (.inr hk)).trans ((aj k (.inr hk)).trans (hH k hk)))))⟩
theorem AW {E:Env} {t:Int} {rows:List (List Go.Vx.D)} {f b:Nat} {rs:List Int} {Hh:Nat->Prop} {al:World} (ak:Q5N rows=some rs) (hN:rs.length<=1000000000) (hh:∀ k,Hh k->k<b) (an:E.w0.heap.size<=b) {Q:Exit->Act->World->Prop}
  (hQ:∀ a' w',LI E t rows f b rs Hh al rs.length a' w'->Q (.exit 0) a' w'):∀ (m i:Nat) (a:Act) (w:World),i+m=rs.length->LI E t rows f b rs Hh al i a w->Code.rounds Tryz.prog Q75 Q (m+1) a w
 |0,i,a,w,ar,h=>by
  obtain rfl:i=rs.length:=QnI
  rw [rounds_succ];obtain ⟨β,S,D,hR,hO,aj,hD,hH⟩:=h;rw [Q5V];refine wp_seq (Ey (Qbv t f b rows (BI rs rs.length) (rs.length:Nat) rs.length onN) hR hO (fun l hl hs=>hs) fun β1 S1 a1 w1 ao aq ac a4=>?_);refine wp_seq (wp_cond_false (by
   have:=RdA.bool_inv (ao.tm 21 _ rfl);rw [show a1.eval (.tmp 21)=tmv a1 21 from rfl,this];simp) (wp_exit (hQ a1 w1 ?_)))
  exact ⟨β1,S1,D,ao.sub rfl (fun t' av ht=>⟨Ln (pre:=[(21,.d (.bool (decide ((rs.length:Int)<(rs.length:Nat)))))]) ht rfl,fun _ _=>rfl⟩) (fun l o ho=>⟨ho,fun _ _=>rfl⟩),Q5o aq (ac b (.inl (.inl rfl))),NI aj (fun k hk=>ac k (.inl hk)),hD,fun k hk=>(ac k (.inr hk)).trans (hH k hk)⟩
 |m+1,i,a,w,ar,h=>by
  rw [rounds_succ];refine wp_mono (Q9C (Q:=Q) ak hN hh an h QnI) fun e a' w' hp=>?_
  cases e with
  |normal=>exact AW ak hN hh an hQ m (i+1) a' w' QnI hp
  |_=>exact hp
theorem Qb6 {E:Env} {t:Int} {rows:List (List Go.Vx.D)} {f b:Nat} {rs:List Int} {Hh:Nat->Prop} {ac:World} (ak:Q5N rows=some rs) (hN:rs.length<=1000000000) (hh:∀ k,Hh k->k<b) (aj:E.w0.heap.size<=b) {Q:Exit->Act->World->Prop} {a:Act} {w:World}
  (h:LI E t rows f b rs Hh ac 0 a w) (hQ:∀ a' w',LI E t rows f b rs Hh ac rs.length a' w'->Q .normal a' w'):(Code.block 0 (.loop Q75)).wp Tryz.prog Q a w:=
 wp_block (wp_loop_rounds (rs.length+1) (AW ak hN hh aj (fun a' w' hl=>hQ a' w' hl) rs.length 0 a w QnI h))
noncomputable def Q0z:Array Oper:=Q9I (EB 0)
theorem Qhg:EB 0 = .region 0 Q0z false:=by kernel_rfl
theorem Qj6:OpAt Q0z 0 (some 14) (.makeMap 189 none):=CS (by kernel_rfl)
theorem QiP:OpAt Q0z 1 (some 6) (.assign (.tmp 14)):=CS (by kernel_rfl)
theorem QcF:Q0z.size=2:=by kernel_rfl
theorem QfN {Q:Exit->Act->World->Prop} {a:Act} {w:World} (ac:a.tmps.size=81)
  (hQ:∀ a',a'.tmps.size=81->a'.defers=a.defers->(∀ t,t≠14->t≠6->tmv a' t=tmv a t)->tmv a' 6 = .map (some w.heap.size)->Q .normal a' (w.alloc (.map #[] 0))):(EB 0).wp Tryz.prog Q a w:=by
 rw [Qhg];refine wp_region ?_;rw [QcF,show List.range 2=[0,1] from rfl,wpOps_cons];refine KX Qj6 (v:=.map (some w.heap.size)) (w':=w.alloc (.map #[] 0)) (fun o h=>?_) ?_
 ·unfold execOp;rw [h];rfl
 rw [wpOps_cons];have e1:∀ t,tmv (a.put (some 14) (.map (some w.heap.size))) t=if t=14 then .map (some w.heap.size) else tmv a t:=fun t=>Mv (by rw [ac];omega) t
 have s1:(a.put (some 14) (.map (some w.heap.size))).tmps.size=81:=by simp [Act.put,ac]
 refine KX QiP (v:=.map (some w.heap.size)) (w':=w.alloc (.map #[] 0)) (fun o h=>?_) ?_
 ·unfold execOp;rw [h];have aj:(a.put (some 14) (.map (some w.heap.size))).eval (.tmp 14) = .map (some w.heap.size):=by rw [C3,e1,if_pos rfl]
  simp [aj]
 have e2:∀ t,tmv ((a.put (some 14) (.map (some w.heap.size))).put (some 6) (.map (some w.heap.size))) t=if t=6 then .map (some w.heap.size) else tmv (a.put (some 14) (.map (some w.heap.size))) t:=fun t=>Mv (by rw [s1];omega) t
 refine hQ _ (by simp [Act.put,ac]) rfl (fun t h1 h2=>?_) ?_
 ·rw [e2,if_neg h2,e1,if_neg h1]
 ·rw [e2,if_pos rfl]
theorem Qil {β β':Nat->oP Nat} {S S':Nat->Prop} {h h':Nat->oP Ob} {w w':World} {tm tm':Nat->Value} {v:Value} {f l:Nat} (hb:β' l=β l) (hv:RdA β S h w tm v (.fn f [.ptr l 0])):RdA β' S' h' w' tm' v (.fn f [.ptr l 0]):=by
 cases hv with
 |fn _ cs _ hl hr=>
  refine .fn f cs _ hl fun i x hx=>?_
  have ac:=hr i x hx
  match i,hx with
  |0,hx=>
   simp only [Qqj,Option.some.injEq] at hx;subst hx;obtain ⟨b,h1,h2⟩:=RdA.ptr_inv ac;rw [h2];exact .ptr l 0 b (hb.trans h1)
 |dang _ _ l hl=>simp [PP] at hl
theorem HRel.bare {E:Env} {β:Nat->oP Nat} {S:Nat->Prop} {h:Nat->oP Ob} {w:World} (hr:HRel E β S h w):HRel E β S (look ([]:List (Nat×Ob))) w where
 ob:=fun l o ho=>by cases ho
 inj:=fun l l' b h1=>by cases h1
 apart:=fun l b h1=>by cases h1
 own:=fun l b h1=>by cases h1
 sb:=hr.sb
 sfr:=hr.sfr
 s0:=hr.s0
 fr:=hr.fr
 pin:=hr.pin
 psz:=fun l b hl h1=>by cases h1
def Qe3 (β:Nat->oP Nat) (H:List (Nat×Ob)) (k:Nat):Prop:=∃ l,(look H l).isSome=true/\β l=some k
def QcT (t:Int) (rows:List (List Go.Vx.D)) (f:Nat):List AV:=[.d (.int .i64 t),.d (.sl 5 rows),.fn f [.ptr 1000000 0]]
theorem Q7Z {E:Env} {β:Nat->oP Nat} {S:Nat->Prop} {a:Act} {w:World} {t:Int} {rows:List (List Go.Vx.D)} {f:Nat} {H:List (Nat×Ob)} {rs:List Int} (ax:Q5N rows=some rs) (hN:rs.length<=1000000000)
  (bi:E.w0=w) (hR:Rel E β S ⟨81,Q19 0 (QcT t rows f),H⟩ a w) {c:Code} {Q:Exit->Act->World->Prop}
  (hQ:∀ a' w',LI E t rows f w.heap.size rs (Qe3 β H) w rs.length a' w'->c.wp Tryz.prog Q a' w'):(Code.seq (EB 0) (.seq (EB 1) (.seq (.seq (EB 2) (.block 0 (.loop Q75))) c))).wp Tryz.prog Q a w:=by
 have an:=Mg ax;have bb:Rel E β S ⟨81,[(0,.d (.int .i64 t)),(1,.d (.sl 5 rows)),(2,.fn f [.ptr 1000000 0])],[]⟩ a w:=by
  refine ⟨hR.n,hR.dfr,fun t' av ht=>?_,hR.hr.bare⟩;have hm:=Xd ht;simp only [Qqq,Prod.mk.injEq,Qqp,or_false] at hm;rcases hm with ⟨rfl,rfl⟩ | ⟨rfl,rfl⟩ | ⟨rfl,rfl⟩
  ·exact (hR.tm 0 (.d (.int .i64 t)) rfl).mono (fun _ h=>h) (fun _ _=>rfl) (fun l hl=>by simp [Z3] at hl) (fun _ _=>rfl)
  ·exact (hR.tm 1 (.d (.sl 5 rows)) rfl).mono (fun _ h=>h) (fun _ _=>rfl) (fun l hl=>by simp [Z3] at hl) (fun _ _=>rfl)
  ·exact Qil rfl (hR.tm 2 (.fn f [.ptr 1000000 0]) rfl)
 have ak:Off β S (look ([]:List (Nat×Ob))) w (Qe3 β H):=⟨fun b ⟨l,h1,h2⟩=>Hs hR h1 h2,fun b ⟨l,h1,h2⟩=>hR.hr.apart l b h1 h2,fun b _ l h1=>by cases h1⟩;refine wp_seq (QfN hR.n fun a1 z1 z2 z3 z4=>?_);have al:∀ k,k<w.heap.size->(w.alloc (.map #[] 0)).heap[k]? = w.heap[k]?:=fun k hk=>Yf w _ hk
 have a6:(w.alloc (.map #[] 0)).heap.size=w.heap.size+1:=by simp
 have ar:=World.ownsGroups_made (H:=Unit) w Tryz.prog 3 3 .i64;have a4:(w.alloc (.map #[] 0)).heap[w.heap.size]? = some (.map #[] 0):=(MapKept.heap_alloc w _).1;have az:∀ k,Hg (w.alloc (.map #[] 0)) w.heap.size k->k=w.heap.size:=fun k hk=>by
  rcases hk with h | ⟨es,bc,hb,x,hx,_⟩
  ·exact h
  ·rw [a4] at hb;injection hb with hb
   injection hb with hb1 hb2
   subst hb1;simp at hx
 have bk:Rel E β S ⟨81,Q7A t rows f w.heap.size [],[]⟩ a1 (w.alloc (.map #[] 0)):=by
  have h0:=Q93 (a':=a1) (w':=w.alloc (.map #[] 0)) (Hd:=fun _=>False) bb ⟨fun b h=>h.elim,fun b h=>h.elim,fun b h=>h.elim⟩ (fun b h=>h.elim) (by rw [z1,hR.n]) z2 (fun t' av ht=>?_) rfl rfl rfl (by rw [a6];omega) (fun k hk _=>al k hk)
  ·refine ⟨h0.n,h0.dfr,fun t' av ht=>?_,h0.hr⟩;have ao:look (Q7A t rows f w.heap.size []) t'=some av:=ht;have hm:=Xd ao;simp only [Q7A,Qqq,Prod.mk.injEq,Qqp,or_false] at hm;rcases hm with ⟨rfl,rfl⟩ | ⟨rfl,rfl⟩ | ⟨rfl,rfl⟩ | ⟨rfl,rfl⟩
   ·exact h0.tm 0 _ rfl
   ·exact h0.tm 1 _ rfl
   ·exact h0.tm 2 _ rfl
   ·rw [z4];exact .ex _
  ·have hm:=Xd ht;simp only [Qqq,Prod.mk.injEq,Qqp,or_false] at hm;rcases hm with ⟨rfl,rfl⟩ | ⟨rfl,rfl⟩ | ⟨rfl,rfl⟩ <;> refine ⟨z3 _ QnI QnI,fun bp hg=>by simp [gds,Cr] at hg⟩
 have a7:Off β S (look ([]:List (Nat×Ob))) (w.alloc (.map #[] 0)) (fun k=>Hg (w.alloc (.map #[] 0)) w.heap.size k\/Qe3 β H k):=by
  refine ⟨fun k hk=>?_,fun k hk hS=>?_,fun k hk l h1=>by cases h1⟩
  ·rcases hk with hk | hk
   ·have:=az k hk;omega
   ·have:=ak.lt k hk;omega
  ·rcases hk with hk | hk
   ·have:=az k hk;have:=hR.hr.sb k hS;omega
   ·exact ak.nS k hk hS
 have a5:=QeW t f w.heap.size rows onN;rw [<- an,show (bif decide (0<=((List.length rs:Nat):Int))&&decide (((List.length rs:Nat):Int)<=((List.length rs:Nat):Int)) then some () else none)=some () by
  rw [decide_eq_true QnI,decide_eq_true QnI];rfl,Q0,show Y9 (Int.toNat ((List.length rs:Nat):Int)*8)=some () by
  rw [Int.toNat_natCast];exact Qdm QnI,Q0,Int.toNat_natCast] at a5
 refine wp_seq (Ey a5 bk a7 (fun l hl hs=>?_) fun β2 S2 a2 w2 bj bg a8 bz=>?_)
 ·have au:(look [(17,Ob.arr 3 1 (List.replicate rs.length [Go.Vx.D.int .i64 0]))] l).isSome=true:=hs;rw [Qx,if_neg QnI] at au;cases au
 have ay:Rel E β2 S2 ⟨81,Dr t rows f w.heap.size [],[(17,.arr 3 1 (List.replicate rs.length [Go.Vx.D.int .i64 0]))]⟩ a2 w2:=by
  refine bj.sub rfl (fun t' av ht=>⟨?_,fun _ _=>rfl⟩) (fun l o ho=>⟨ho,fun _ _=>rfl⟩);have ao:look (Dr t rows f w.heap.size []) t'=some av:=ht;have hm:=Xd ao;simp only [Dr,Q7A,Qqq,Prod.mk.injEq,Qqp,or_false] at hm;rcases hm with ⟨rfl,rfl⟩ | ⟨rfl,rfl⟩ | ⟨rfl,rfl⟩ | ⟨rfl,rfl⟩ | ⟨rfl,rfl⟩ <;> rfl
 have aw:=QeC t f w.heap.size rows (List.replicate rs.length [Go.Vx.D.int .i64 0]) onN;rw [<- an] at aw;refine wp_seq (wp_seq (Ey aw ay bg (fun l hl hs=>hs) fun β3 S3 a3 w3 a9 ba bh bn=>?_));have ac:∀ k,Hg (w.alloc (.map #[] 0)) w.heap.size k\/Qe3 β H k->w3.heap[k]? = (w.alloc (.map #[] 0)).heap[k]?:=fun k hk=>(bh k hk).trans (a8 k hk)
 refine Qb6 ax hN (fun k hk=>ak.lt k hk) (by rw [bi];exact Qqw _) ⟨β3,S3,.map [],?_,?_,NI ar (fun k hk=>ac k (.inl hk)),Qbg rs,fun k hk=>(ac k (.inr hk)).trans (al k (ak.lt k hk))⟩ (fun a' w' hl=>hQ a' w' hl)
 ·rw [Q30];refine a9.sub rfl (fun t' av ht=>⟨?_,fun _ _=>rfl⟩) (fun l o ho=>⟨ho,fun _ _=>rfl⟩);have hm:=Xd ht;simp only [Bl,Dr,Q7A,Qqq,Prod.mk.injEq,Qqp,or_false] at hm;rcases hm with ⟨rfl,rfl⟩ | ⟨rfl,rfl⟩ | ⟨rfl,rfl⟩ | ⟨rfl,rfl⟩ | ⟨rfl,rfl⟩ | ⟨rfl,rfl⟩ | ⟨rfl,rfl⟩ | ⟨rfl,rfl⟩ <;> rfl
 ·rw [Q30];exact Q5o ba (ac _ (.inl (.inl rfl)))
def QhL:AV->Bool
 |.d _=>true
 |.nil=>true
 |.arr l=>Nat.ble 1000000 l
 |_=>false
def QiF:Ob->Bool
 |.box cs=>cs.all QhL
 |.arr ..=>true
 |.mp ..=>false
def Qhh (H:List (Nat×Ob)):Bool:=H.all fun p=>Nat.ble 1000000 p.1&&QiF p.2
theorem Q6S {x:AV} (h:QhL x=true) {l:Nat} (hn:Z3 l x=true):1000000<=l:=by
 cases x <;> simp [QhL,Z3] at h hn;omega
theorem Q9Z {H:List (Nat×Ob)} (h:Qhh H=true) {l:Nat} {o:Ob} (ho:look H l=some o):1000000<=l/\QiF o=true:=by
 have:=List.all_eq_true.1 h (l,o) (Xd ho);simp only [Qqn] at this;exact ⟨Qql this.1,this.2⟩
theorem Qdj {S:Nat->Prop} {w:World} {base:Nat} {v:Value} {zs:List Int} (h:w.ownsInts base 3 .i64 v zs) (hS:∀ g,v.ownBlock=some g->S g):Rd S w v (.sl 1 (zs.map fun z=>[.int .i64 z])):=by
 rcases h.1.2 with ⟨rfl,h0⟩ | ⟨g,cap,ak,rfl,_,hg,ar,_,aw,aq⟩
 ·rw [List.length_eq_zero_iff.1 h0];exact .sl0 _ _ _
 ·have ac:(zs.map fun z=>[Go.Vx.D.int .i64 z]).length=zs.length:=List.length_map ..;have an:∀ (i j:Nat) (r:List Go.Vx.D) (x:Go.Vx.D),(zs.map fun z=>[Go.Vx.D.int .i64 z])[i]? = some r->r[j]? = some x->j=0/\∃ z,zs[i]? = some z/\x = .int .i64 z:=fun i j r x hr hx=>by
   rw [Qqz] at hr;obtain ⟨z,hz,rfl⟩:=Qqo.1 hr
   match j,hx with
   |0,hx=>simp only [Qqj,Option.some.injEq] at hx;exact ⟨rfl,z,hz,hx.symm⟩
  have:=Rd.sl (S:=S) (w:=w) ⟨g,0,none⟩ cap 1 (zs.map fun z=>[Go.Vx.D.int .i64 z]) (fun i j=>.int .i64 (zs.getD i 0)) (hS g rfl) (by rw [ac];exact ar) (fun i r hr=>by
   rw [Qqz] at hr;obtain ⟨z,hz,rfl⟩:=Qqo.1 hr;rfl) (fun i j r x hr hx=>by
   obtain ⟨rfl,z,hz,rfl⟩:=an i j r x hr hx;have hi:i<zs.length:=(Qqh.1 hz).1;rw [JJ];have h2:(ak.toList.take (zs.length*1))[i]? = some (.int .i64 z):=by rw [aq,Qqz,hz];rfl
   rw [Qqy,if_pos QnI,Qqs] at h2;have al:zs.getD i 0=z:=by rw [List.getD_eq_getElem?_getD,hz];rfl
   rw [al];have ao:i<ak.size:=(Qqk.1 h2).1;have h3:ak[i] = .int .i64 z:=(Qqk.1 h2).2;simp [World.cell?,hg,ao,h3]) (fun i j r x hr hx=>by
   obtain ⟨rfl,z,hz,rfl⟩:=an i j r x hr hx;have al:zs.getD i 0=z:=by rw [List.getD_eq_getElem?_getD,hz];rfl
   rw [al];exact .int _ _)
  rw [ac] at this;exact this
theorem Qgm {v:Value} {l:Lit} (h:keyOf Tryz.prog 3 v=some l):∃ m,v = .int .i64 m/\(Lit.int .i64 m).wf=true:=by
 simp only [keyOf,Tryz.underlying3,mapKey] at h;cases v <;> simp at h;rename_i k m;exact ⟨m,by rw [h.1.1],h.1.2⟩
theorem CN {n:Int} {v:Value}:∀ {es:List MapEntry},J3 es n=some v->∃ e∈es,e.val=v/\e.key = .int .i64 n
 |e::r,h=>by
  simp only [J3] at h;split at h
  ·split at h
   ·rename_i hk hm;injection h with h;subst hm;exact ⟨e,List.mem_cons_self ..,h,hk⟩
   ·obtain ⟨x,hx,hv⟩:=CN h;exact ⟨x,List.mem_cons_of_mem _ hx,hv⟩
  ·obtain ⟨x,hx,hv⟩:=CN h;exact ⟨x,List.mem_cons_of_mem _ hx,hv⟩
theorem Qgf {S:Nat->Prop} {w:World} {b:Nat} {rs:List Int} {D:DataW Unit} (ak:w.ownsGroups Tryz.prog 3 (b+1) 3 .i64 b rs.length D) (hD:DOK rs rs.length D) (hN:rs.length<=1000000000) (az:∀ j,j<rs.length -> -9223372036854775808<=rs.getD j 0/\rs.getD j 0<=9223372036854775807) (hS:∀ k,Hg w b k->S k):Q7t S w (.map (some b)) (Q4a rs):=by
 have ar:∃ es ac,w.heap[b]? = some (.map es ac)/\∀ e∈es.toList,∃ m,e.key = .int .i64 m/\(Lit.int .i64 m).wf=true:=by
  obtain ⟨es,ac,hb,F,hs,_⟩:=ak;refine ⟨es,ac,hb,fun e he=>?_⟩;obtain ⟨y,hy⟩:=F.reads e he;exact Qgm (WideElems.rd_key hy)
 obtain ⟨es,ac,hb,hk⟩:=ar;have aq:∀ e∈es.toList,∃ m,e.key = .int .i64 m:=fun e he=>(hk e he).imp fun m h=>h.1
 have one:∀ n:Int,(Lit.int .i64 n).wf=true->∃ zs,w.ownsInts (b+1) 3 .i64 ((J3 es.toList n).getD (.slice none 0 0)) zs/\zs=AL rs rs.length n:=fun n hn=>by
  obtain ⟨v,zs,h1,h2,h3,_⟩:=(Qd0 ak).lookup hN hn;have hv:=h1 w rfl;rw [Q1F hb aq] at hv;injection hv with hv
  exact ⟨zs,hv▸h3,Q8c hD h2 h3⟩
 refine ⟨b,es,ac,rfl,hS b (.inl rfl),hb,aq,fun n hn=>?_,fun n v' hv=>?_⟩
 ·by_cases ao:(Lit.int .i64 n).wf=true
  ·obtain ⟨zs,h1,h2⟩:=one n ao;rw [hn] at h1;have h0:zs=[]:=h1.unique (World.ownsInts_nil _ _ _ _);unfold Q4a;rw [<- h2,h0];rfl
  ·have hg:AL rs rs.length n=[]:=by
    unfold AL;rw [List.map_eq_nil_iff,List.filter_eq_nil_iff];intro j hj he;have a2:j<rs.length:=by simpa using hj
    obtain ⟨h1,h2⟩:=az j a2;have a4:rs.getD j 0=n:=by simpa using he
    exact ao (WalkArith.wf_i64 QnI)
   unfold Q4a;rw [hg];rfl
 ·obtain ⟨e,he,ax,ay⟩:=CN hv;obtain ⟨m,au,a1⟩:=hk e he;have:m=n:=by rw [ay] at au;injection au with _ h;exact h.symm
  subst this;obtain ⟨zs,h1,h2⟩:=one m a1;rw [hv] at h1;unfold Q4a;rw [<- h2];exact Qdj h1 (fun g hg=>hS g (.inr ⟨es,ac,hb,e,he,by rw [ax];exact hg⟩))
theorem QeO {β:Nat->oP Nat} {S S':Nat->Prop} {h:Nat->oP Ob} {w:World} {tm:Nat->Value} {v:Value} {l e s:Nat} {rows:List (List Go.Vx.D)} (hv:RdA β S h w tm v (.arr l)) (hh:h l=some (.arr e s rows)) (aw:ObR β S h w l (.arr e s rows)) (hS:∀ k,S k->S' k) (hl:∀ k,β l=some k->S' k):Rd S' w v (.sl s rows):=by
 cases hv with
 |mp _ b t' f' hb ac=>
  rw [hh] at ac;cases ac
 |arr0 _ e' s' hb ac=>
  rw [hh] at ac;injection ac with ac
  injection ac with h1 h2 h3
  subst h3;exact .sl0 _ _ _
 |arr _ b cap e' s' au cs ty fz hb ac hw a3 ao az=>
  rw [hh] at ac;injection ac with ac
  injection ac with h1 h2 h3
  subst h1 h2 h3;rcases aw with ⟨h0,_⟩ | ⟨b',a2,ak,aj,a5,ax,an⟩
  ·rw [hb] at h0;cases h0
  ·rw [hb] at ak;injection ak with ak
   subst ak;rw [hw] at aj;injection aj with aj
   injection aj with hw1 hw2 hw3
   subst hw1;refine .sl ⟨b,0,none⟩ cap s rows (fun i j=>cs.getD (i*s+j) undef) (hl b hb) ao ax (fun i j r x hr hx=>?_) (fun i j r x hr hx=>?_)
   ·obtain ⟨u,hu,_⟩:=an i j r x hr hx;rw [JJ];have al:i*s+j<cs.size:=(Qqk.1 hu).1;simp [World.cell?,hw,al]
   ·obtain ⟨u,hu,ay⟩:=an i j r x hr hx;have al:i*s+j<cs.size:=(Qqk.1 hu).1;have h3:cs[i*s+j]=u:=(Qqk.1 hu).2;have:cs.getD (i*s+j) undef=u:=by simp [Array.getD,al,h3]
    rw [this];exact ay.mono hS (fun _ _=>rfl)
 |dang _ _ l' aq ac=>
  simp only [PP,Option.some.injEq] at aq;subst aq;rw [hh] at ac;cases ac
theorem QcW {E:Env} {β:Nat->oP Nat} {S:Nat->Prop} {a a':Act} {w w':World} {t:Int} {rows:List (List Go.Vx.D)} {f:Nat} {H:List (Nat×Ob)} {rs:List Int} {ak:St} (a5:Q5N rows=some rs) (hN:rs.length<=1000000000) (aq:Qhh H=true)
  (hE:E=⟨w,fun b=>∃ l,(look H l).isSome=true/\β l=some b,S,β⟩) (ba:ak.h=H) (hR:Rel E β S ak a w) (h:LI E t rows f w.heap.size rs (Qe3 β H) w rs.length a' w') :
  GZ E ⟨81,[(0,.d (.int .i64 t)),(1,.d (.sl 5 rows)),(2,.fn f [.ptr 1000000 0]),(6,.mpd (Q4a rs)),(7,.d (.sl 1 (BI rs rs.length)))],H⟩ a' w':=by
 subst ba;obtain ⟨β',S',D,aj,hO,al,hD,hH⟩:=h;have ac:∀ l,1000000<=l->β' l=β l:=fun l hl=>by have:=aj.hr.pin l hl;rw [hE] at this;exact this
 have ao:E.w0=w:=by rw [hE]
 have ay:∀ k,S k->S' k:=fun k hk=>aj.hr.s0 k (by rw [hE];exact hk)
 have a2:(look (Bl t rows f w.heap.size (rs.length:Nat) (rs.length:Nat) (BI rs rs.length)).h 17)=some (.arr 3 1 (BI rs rs.length)):=rfl;have bg:∀ j,j<rs.length -> -9223372036854775808<=rs.getD j 0/\rs.getD j 0<=9223372036854775807:=fun j hj=>by
  obtain ⟨r,_,_,_,_,_,g2,g3,g4⟩:=Q8G a5 j (by rw [<- Mg a5];exact hj);rw [g2];exact ⟨g3,g4⟩
 refine ⟨β',fun k=>S' k\/Hg w' w.heap.size k\/β' 17=some k,aj.n,aj.dfr,fun t' av ht=>?_,?_⟩
 ·have hm:=Xd ht;simp only [Qqq,Prod.mk.injEq,Qqp,or_false] at hm;rcases hm with ⟨rfl,rfl⟩ | ⟨rfl,rfl⟩ | ⟨rfl,rfl⟩ | ⟨rfl,rfl⟩ | ⟨rfl,rfl⟩
  ·exact (aj.tm 0 (.d (.int .i64 t)) rfl).mono (fun _ h=>.inl h) (fun _ _=>rfl) (fun l hl=>by simp [Z3] at hl) (fun _ _=>rfl)
  ·exact (aj.tm 1 (.d (.sl 5 rows)) rfl).mono (fun _ h=>.inl h) (fun _ _=>rfl) (fun l hl=>by simp [Z3] at hl) (fun _ _=>rfl)
  ·exact Qil rfl (aj.tm 2 (.fn f [.ptr 1000000 0]) rfl)
  ·rw [show tmv a' 6 = .map (some w.heap.size) from RdA.ex_inv (aj.tm 6 _ rfl)];exact .mpd _ _ (Qgf al hD hN bg (fun k hk=>.inr (.inl hk)))
  ·exact .d _ _ (QeO (aj.tm 7 (.arr 17) rfl) a2 (aj.hr.ob 17 _ a2) (fun k hk=>.inl hk) (fun k hk=>.inr (.inr hk)))
 ·have ar:∀ l,1000000<=l->Keep β (look ak.h) w β' (look ak.h) w' l:=fun l hl=>⟨ac l hl,id,fun e s rows h0=>.inr ⟨rows,h0,rfl⟩,fun b cs ty fz hs hb hw=>⟨cs,ty,fz,(hH b ⟨l,hs,hb⟩).trans hw,rfl⟩,fun t f h0=>.inr ⟨f,h0⟩⟩
  have aw:∀ k,S k->w'.heap[k]? = w.heap[k]?:=fun k hk=>by
   have a4:=aj.hr.fr.block k (by rw [ao];exact hR.hr.sb k hk) (fun hM=>by
    rw [hE] at hM;obtain ⟨l,h1,h2⟩:=hM;exact hR.hr.apart l k h1 h2 hk)
   rw [ao] at a4;exact a4
  have an:∀ l,(look ak.h l).isSome=true->1000000<=l:=fun l hl=>by
   obtain ⟨o,ho⟩:=Option.isSome_iff_exists.1 hl;exact (Q9Z aq ho).1
  refine ⟨fun l o ho=>?_,fun l l' b h1 h2 h3 h4=>?_,fun l b h1 h2 hS=>?_,fun l b h1 h2=>?_,fun b hS=>?_,fun b hS=>?_,fun b hb=>.inl (aj.hr.s0 b hb),aj.hr.fr,aj.hr.pin,fun l b hl hs hb cs ty fz hw=>?_⟩
  ·obtain ⟨hl,a1⟩:=Q9Z aq ho;have ax:=hR.hr.ob l o ho;cases o with
   |mp t f=>cases a1
   |box cells=>
    obtain ⟨b,ty,cs,fz,g1,g2,g3,g4,g5⟩:=ax;refine ⟨b,ty,cs,fz,(ac l hl).trans g1,(hH b ⟨l,by rw [ho];rfl,g1⟩).trans g2,g3,g4,fun i x hx=>(g5 i x hx).mono (fun k hk=>.inl (ay k hk)) aw (fun m hm=>ar m ?_) (fun _ _=>rfl)⟩;exact Q6S (List.all_eq_true.1 a1 x (Qqi hx)) hm
   |arr e s bc=>
    rcases ax with ⟨g1,g2⟩ | ⟨b,cs,g1,g2,g3,g4,g5⟩
    ·exact .inl ⟨(ac l hl).trans g1,g2⟩
    ·refine .inr ⟨b,cs,(ac l hl).trans g1,(hH b ⟨l,by rw [ho];rfl,g1⟩).trans g2,g3,g4,fun i j r x hr hx=>?_⟩;obtain ⟨v,q1,q2⟩:=g5 i j r x hr hx;exact ⟨v,q1,q2.mono (fun k hk=>.inl (ay k hk)) aw⟩
  ·exact hR.hr.inj l l' b h1 h2 ((ac l (an l h1)).symm.trans h3) ((ac l' (an l' h2)).symm.trans h4)
  ·have hh:Qe3 β ak.h b:=⟨l,h1,(ac l (an l h1)).symm.trans h2⟩;rcases hS with hS | hS | hS
   ·exact hO.nS b (.inr hh) hS
   ·have bl:b<w.heap.size:=Hs hR h1 ((ac l (an l h1)).symm.trans h2);rcases hS with hS | hS
    ·omega
    ·have:=(Q5w al hS).1;omega
   ·exact hO.nO b (.inr hh) 17 rfl hS
  ·refine .inl ?_;rw [hE];exact ⟨l,h1,(ac l (an l h1)).symm.trans h2⟩
  ·rcases hS with hS | hS | hS
   ·exact aj.hr.sb b hS
   ·exact hO.lt b (.inl hS)
   ·exact Hs aj (l:=17) rfl hS
  ·rcases hS with hS | hS | hS
   ·exact aj.hr.sfr b hS
   ·refine .inr (.inr ?_);rw [ao];rcases hS with hS | hS
    ·omega
    ·have:=(Q5w al hS).1;omega
   ·exact .inr (aj.hr.own 17 b rfl hS)
  ·rw [ao] at hw;exact ⟨cs,ty,fz,(hH b ⟨l,hs,(ac l hl).symm.trans hb⟩).trans hw,rfl⟩
theorem Q6X:TV = .seq (EB 0) (.seq (EB 1) (.seq (.seq (EB 2) (.block 0 (.loop Q75))) (cR (cR (cR TV))))):=by kernel_rfl
theorem Q7V {C:VC} (hC:VCOk Tryz.prog C) {n:Nat} {t:Int} {rows:List (List Go.Vx.D)} {f:Nat} {H:List (Nat×Ob)} {R:Type} {K:AV->List (Nat×Ob)->oP R} {res:R} (aj:Qhh H=true)
  (h:(Q3K rows fun G p=>Ho C n (cR (cR (cR (WT Tryz.f49)))) ⟨81,[(0,.d (.int .i64 t)),(1,.d (.sl 5 rows)),(2,.fn f [.ptr 1000000 0]),(6,.mpd G),(7,.d (.sl 1 p))],H⟩ (fnK C.tt Tryz.f49 K))=some res)
  {β:Nat->oP Nat} {S:Nat->Prop} {w:World} {vs:List Value} (hO:Objs β S (look H) w) (hA:ArgsRd β S (look H) w vs [.d (.int .i64 t),.d (.sl 5 rows),.fn f [.ptr 1000000 0]]):Calls Tryz.prog 49 vs.toArray w (PK H K res β S w):=by
 unfold Q3K at h;split at h
 rotate_left
 ·cases h
 rename_i rs ac;cases hb:Nat.ble rs.length 1000000000 with
 |false=>simp [hb] at h
 |true=>
  simp only [hb,cond_true] at h;have hN:=Qql hb;refine DU hC (fn:=Tryz.f49) (c:=TV) (by kernel_rfl) (by kernel_rfl) (by kernel_rfl) (fun a hR=>?_) hO hA;rw [Q6X];refine Q7Z (t:=t) (rows:=rows) (f:=f) ac hN rfl hR fun a' w' hl=>?_
  exact Mh hC n _ _ _ res h a' w' (QcW ac hN aj rfl rfl hR hl)
end Go.Vx
set_option maxRecDepth 100000
namespace Go.Vx
open Go.Proofs
abbrev vzS:List Sp:=[sI,sL 5,eF 50 1,eP 1000000 1,sB]
abbrev vzR:List Sp:=[eT 0,eI 1000000 1,sB]
def vzP (n:Nat):LF (lts vzS) (oP (HT (lts vzR))):=fun (a0:Int) (a1:LL) (b:Bool)=>WW n a0 a1 b some
noncomputable def vg0:Code:=cA [1,1,1] (WT Tryz.f49)
noncomputable def vg1:Code:=cA [1,1,1,1,2,2] (WT Tryz.f49)
noncomputable def vg2:Code:=cA [1,1,1,1,2,2,1,1,0,2,1,1,2,2] (WT Tryz.f49)
noncomputable def vg3:Code:=cA [1,1,1,1,2,2,1,1,1] (WT Tryz.f49)
def vz1 (a0:Int) (a1:LL) (G:Int->LL) (p:LL) (w2 h9:Int) (b:Bool) (l:List (Nat×AV)):St:=⟨81,[(0,dI a0),(1,dL 5 a1),(2,.fn 50 [.ptr 1000000 0]),(6,.mpd G),(7,dL 1 p),(44,dL 5 a1),(45,dI w2),(46,dI h9)]++l,[(1000000,.box [dB b])]⟩
def vz3 (a0:Int) (a1:LL) (G:Int->LL) (p:LL) (h9 w2:Int) (ak:LL) (ac aj:Int) (c1 c2 c3 c4 c5:D) (b:Bool) (l:List (Nat×AV)):St:=⟨81,[(0,dI a0),(1,dL 5 a1),(2,.fn 50 [.ptr 1000000 0]),(6,.mpd G),(7,dL 1 p),(10,dI h9),(11,.ptr 11 0),(44,dL 5 a1),(45,dI w2),(46,dI h9),(59,dL 1 ak),(60,dI ac),(61,dI aj)]++l,[(11,.box [.d c1,.d c2,.d c3,.d c4,.d c5]),(1000000,.box [dB b])]⟩
noncomputable def vgC (n:Nat):VC:=(Xa [⟨85,H5 n⟩] [cK 0 [0,1,2,6],cK 1 [0,1,2,6,7],cK 2 [0,1,2,6,7,18,19,20],cK 3 [0,1,2,6,7,18,19,20,21],cK 4 [0,1,2,6,7,8,9,18,19,20],cK 5 [0,1,2,6,7,8,9,18,19,20],cK 6 [0,1,2,6,7,18,19,20],cK 7 [0,1,2,6,7,18,19,20],cO 8 [0,1,2,6,7,44,45,46] [1000000],cO 9 [0,1,2,6,7,44,45,46,47] [1000000],cO 10 [0,1,2,6,7,10,11,44,45,46] [11,1000000],cO 11 [0,1,2,6,7,10,11,44,45,46,59,60,61] [11,1000000],cO 12 [0,1,2,6,7,10,11,44,45,46,59,60,61,62] [11,1000000],cO 13 [0,1,2,6,7,10,11,13,44,45,46,59,60,61] [11,1000000],cO 14 [0,1,2,6,7,10,11,44,45,46,59,60,61,78] [11,1000000],cO 15 [0,1,2,6,7,10,11,44,45,46,59,60,61] [11,1000000],cO 16 [0,1,2,6,7,44,45,46] [1000000],(1000000014,⟨[],[],[],[],[]⟩)]).C
theorem Qf8 (n:Nat):VCOk Tryz.prog (vgC n):=(Xa [⟨85,H5 n⟩] _).ok
section
variable {R:Type} (n:Nat) (a0:Int) (a1:LL) (G:Int->LL) (p:LL) (w2:Int) (b:Bool) (k:Exit->St->oP R)
theorem Qi1 (h9:Int):Ho (vgC n) n vg1 (vz1 a0 a1 G p w2 h9 b []) k=Qfa a1 G p w2 h9 (fun l z c1 c2 c3 c4 c5=>Cu (lB (vgC n) n vg2) n (vz3 a0 a1 G p h9 w2 l z 0 c1 c2 c3 c4 c5 b []) (Q3R 4 (Q3R 3 (Qiw (vgC n) n vg3 k)))) (fun z=>k (.exit 2) (vz1 a0 a1 G p w2 h9 b [(47,dB z)])):=by kernel_rfl
theorem Qif (h9:Int) (l:LL) (z h:Int) (c1 c2 c3 c4 c5:D):Ho (vgC n) n vg2 (vz3 a0 a1 G p h9 w2 l z h c1 c2 c3 c4 c5 b []) k=Qgp n a0 a1 l z h c1 c2 c3 c4 c5 (fun h=>k .normal (vz3 a0 a1 G p h9 w2 l z h c1 c2 c3 c4 c5 b [])) (fun y=>k (.exit 4) (vz3 a0 a1 G p h9 w2 l z h c1 c2 c3 c4 c5 b [(62,dB y)])):=by kernel_rfl
theorem Qfd (h9:Int) (l:LL) (z:Int) (c1 c2 c3 c4 c5:D):∀ (m:Nat) (h:Int),Cu (lB (vgC n) n vg2) m (vz3 a0 a1 G p h9 w2 l z h c1 c2 c3 c4 c5 b []) k=Qc1 n a0 a1 l z c1 c2 c3 c4 c5 (fun h y=>k (.exit 4) (vz3 a0 a1 G p h9 w2 l z h c1 c2 c3 c4 c5 b [(62,dB y)])) m h
 |0,_=>rfl
 |m+1,h=>(lS (by kernel_rfl) m k).trans ((Qif n a0 a1 G p w2 b (QaV (lB (vgC n) n vg2) m k) h9 l z h c1 c2 c3 c4 c5).trans (cg2 (fun x y=>Qgp n a0 a1 l z h c1 c2 c3 c4 c5 x y) (funext fun h=>Qfd h9 l z c1 c2 c3 c4 c5 m h) rfl))
theorem Qfl:∀ (m:Nat) (h9:Int),Cu (lB (vgC n) n vg1) m (vz1 a0 a1 G p w2 h9 b []) k=QbO n a0 a1 G p w2 (fun h y=>k (.exit 2) (vz1 a0 a1 G p w2 h b [(47,dB y)])) m h9
 |0,_=>rfl
 |m+1,h9=>(lS (by kernel_rfl) m k).trans ((Qi1 n a0 a1 G p w2 b (QaV (lB (vgC n) n vg1) m k) h9).trans (cg2 (fun x y=>Qfa a1 G p w2 h9 x y) (funext fun l=>funext fun z=>funext fun c1=>funext fun c2=>funext fun c3=>funext fun c4=>funext fun c5=>(Qfd n a0 a1 G p w2 b (Q3R 4 (Q3R 3 (Qiw (vgC n) n vg3 (QaV (lB (vgC n) n vg1) m k)))) h9 l z c1 c2 c3 c4 c5 n 0).trans (cg1 (fun x=>Qc1 n a0 a1 l z c1 c2 c3 c4 c5 x n 0) (funext fun h=>funext fun y=>Eq.trans (by kernel_rfl) (Qfl m (wJ (h9+(1:Int))))))) rfl))
end
theorem Qj8 (n:Nat) (a0:Int) (a1:LL) (b:Bool):(Q3K a1 fun G p=>Ho (vgC n) n vg0 ⟨81,[(0,dI a0),(1,dL 5 a1),(2,.fn 50 [.ptr 1000000 0]),(6,.mpd G),(7,dL 1 p)],[(1000000,.box [dB b])]⟩ (fnK (vgC n).tt Tryz.f49 (kG vzR)))=WW n a0 a1 b some:=by
 unfold WW;congr 1;funext G p;exact Eq.trans (show _=Cu (lB (vgC n) n vg1) n (vz1 a0 a1 G p ((List.length a1:Nat):Int) 0 b []) (Q3R 2 (fnK (vgC n).tt Tryz.f49 (kG vzR))) by kernel_rfl) ((Qfl n a0 a1 G p _ b _ n 0).trans (cg1 (fun x=>QbO n a0 a1 G p ((List.length a1:Nat):Int) x n 0) (funext fun h=>funext fun y=>by kernel_rfl)))
noncomputable def H6 (n:Nat):Tv:=Qix vzS vzR (vzP n)
theorem N8 (n:Nat):Jq Tryz.prog 49 (H6 n):=by
 refine QdE Tryz.f49 vzS vzR (vzP n) (fun v r hv β S' w vs hO hA=>?_) (by intro v;kernel_rfl) (by kernel_rfl) (by kernel_rfl) (by kernel_rfl) (by kernel_rfl);obtain ⟨a0,a1,b,u⟩:=v;exact Q7V (Qf8 n) (n:=n) (t:=a0) (f:=50) (H:=[(1000000,.box [.d (.bool b)])]) (K:=kG vzR) (res:=r) rfl ((Qj8 n a0 a1 b).trans hv) hO hA
end Go.Vx

set_option maxRecDepth 100000
namespace Go.Vx
open Go.Proofs
variable (n:Nat)
def R8:EZ9 18:=mkD (Xa [⟨17,PG n⟩,⟨49,⟨H6 n,N8 n⟩⟩] []).ok nT 18 Tryz.f18 0 @Vf n
def Q1u:EZ9 15:=mkD (Xa [⟨18,R8 n⟩,⟨47,A6 n⟩,⟨46,CM n⟩] [(1,⟨[],[],[],[],[3]⟩)]).ok nT 15 Tryz.f15 0 @GR n
end Go.Vx
namespace Go.Vx
open Go.RowKit Go.Maps Go.WideMaps
theorem Y2 {P:Program} {f:Nat} {e:Tv} (hE:Jq P f e) {ac:List AV} {dl:Dl} (h:e Dl 0 true ac (fun _=>none) some=some dl):ZA P f ac (fun _=>none) dl:=by
 obtain ⟨d,k1,a⟩:=hE Dl 0 true ac _ some dl h;cases k1;exact a rfl
theorem C8 {P:Program} {f:Nat} {ac:List AV} {hl:Nat->oP Ob} {av:AV} (h:ZA P f ac hl ⟨av,[],[]⟩) {S:Nat->Prop} {w:World} (hS:∀ b,S b->b<w.heap.size) {args:List Value} (hA:ArgsRd (fun _=>none) S (fun _=>none) w args ac) :
  Calls P f args.toArray w fun e w'=>∃ v S',e = .returned v/\RdA (fun _=>none) S' (fun _=>none) w' tm0 v av/\RowKit.Below w.heap.size w w':=by
 refine (h.2 (fun _=>none) S (fun _=>none) w args ⟨fun l o h=>(by cases h),fun l l' b h=>(by cases h),fun l b h=>(by cases h),hS⟩ hA (fun l hl=>(by rcases hl with hl | hl <;> simp [wrL] at hl))).mono fun e w' ⟨v,β',S',he,hc⟩=>?_
 have hβ:β'=fun _=>none:=funext fun l=>hc.bsame l (by simp [wrL])
 subst hβ;refine ⟨v,S',he,?_,⟨hc.fr.os,hc.fr.tape,hc.fr.output,hc.fr.size,fun b hb=>hc.fr.block b hb (fun ⟨l,a,_⟩=>by simp [wrL] at a)⟩⟩;exact hc.res.mono (fun _ h=>h) (fun _ _=>rfl) (fun l _=>⟨rfl,fun h=>h,fun e s rows h=>(by cases h),fun b cs ty fz h=>(by cases h),fun t f h=>(by cases h)⟩) (fun _ _=>rfl)
theorem Pz {P:Program} {f:Nat} {ac:List AV} {hl:Nat->oP Ob} {r:Bool} (h:ZA P f ac hl ⟨.d (D.bool r),[],[]⟩) {S:Nat->Prop} {w:World} (hS:∀ b,S b->b<w.heap.size) {args:List Value} (hA:ArgsRd (fun _=>none) S (fun _=>none) w args ac) :
  Calls P f args.toArray w fun e w'=>e = .returned (.bool r)/\RowKit.Below w.heap.size w w':=by
 refine (C8 h hS hA).mono fun e w' ⟨v,S',he,hr,hb⟩=>⟨?_,hb⟩
 cases hr with
 |d v x hx=>cases hx;exact he
 |dang v av l hl=>cases hl
theorem Gf {P:Program} {f:Nat} {ac:List AV} {hl:Nat->oP Ob} {k:IntKind} {r:Int} (h:ZA P f ac hl ⟨.d (D.int k r),[],[]⟩) {S:Nat->Prop} {w:World} (hS:∀ b,S b->b<w.heap.size) {args:List Value} (hA:ArgsRd (fun _=>none) S (fun _=>none) w args ac) :
  Calls P f args.toArray w fun e w'=>e = .returned (.int k r)/\RowKit.Below w.heap.size w w':=by
 refine (C8 h hS hA).mono fun e w' ⟨v,S',he,hr,hb⟩=>⟨?_,hb⟩
 cases hr with
 |d v x hx=>cases hx;exact he
 |dang v av l hl=>cases hl
def Q23 (w:World) (P:Program) (b n:Nat) (ac:List (List UInt8)):Prop:=
 ∃ D:DataW Unit,w.ownsMap P 9 (plainElem P 4) b n D/\Go.Maps.IsMap D/\∀ s,D.atKey (.string s) (.lit (.bool false)) = .lit (.bool (ac.contains s))
theorem Q23.made (P:Program) (w:World):Q23 (w.alloc (.map #[] 0)) P w.heap.size 0 []:=
 ⟨.map [],World.ownsMap_made w P 9 _,Go.Maps.isMap_empty,fun s=>rfl⟩
section
variable {P:Program} (h9:P.underlying 9=some .string) (h4:P.underlying 4=some .bool) {T:TypeId} (hT:P.underlying T=some (.map 9 4))
include h9 h4 hT
theorem Q23.lookup {w:World} {b n:Nat} {ac:List (List UInt8)} (h:Q23 w P b n ac) (hz:(zeroValue 4).run P w = .ok (.bool false) w) {s:List UInt8} (hs:s.length<=maxLen) :
  (Instr.lookup T (.map (some b)) (.string ⟨⟨s⟩⟩) false).run P w = .ok (.bool (ac.contains s)) w:=by
 obtain ⟨D,hD,_,hat⟩:=h;obtain ⟨v,ps,ak,hv⟩:=hD.lookup (string_keyed h9) hT hz (zd:=.lit (.bool false)) (zp:=[]) (plainElem_bool h4 false) (keyOf_string_mk (s:=⟨⟨s⟩⟩) h9 hs);have e:=hat s;simp only at hv;rw [e] at hv;unfold plainElem at hv;rw [h4] at hv;cases v <;> simp at hv;rw [ak,hv.1];simp
theorem Q23.update {w:World} {b n:Nat} {ac:List (List UInt8)} (h:Q23 w P b n ac) (hn:n<maxLen) {s:List UInt8} (hs:s.length<=maxLen) :
  ∃ w',(Instr.mapUpdate T (.map (some b)) (.string ⟨⟨s⟩⟩) (.bool true)).run P w = .ok () w'/\Q23 w' P b (n+1) (s::ac)/\w.grownBy w' (some b):=by
 obtain ⟨D,hD,hm,hat⟩:=h;obtain ⟨w',ak,aj,hg⟩:=hD.update (string_keyed h9) hT hn (keyOf_string_mk (s:=⟨⟨s⟩⟩) h9 hs) (plainElem_bool (H:=Unit) h4 true);refine ⟨w',ak,⟨_,aj,hm.put _ _,fun t=>?_⟩,hg⟩;have hk:WideAt.IsKeyLit (.string s):=(string_keyed h9).key (keyOf_string_mk (s:=⟨⟨s⟩⟩) h9 hs);by_cases e:t=s
 ·subst e;rw [show (ByteArray.mk ⟨t⟩).data.toList=t from rfl,Go.Maps.atKey_put_same hm hk];simp
 ·rw [show (ByteArray.mk ⟨s⟩).data.toList=s from rfl,Go.Maps.atKey_put_other (by simpa using e),hat t];simp [e]
end
theorem Q23.kept {P:Program} {w w':World} {b n:Nat} {ac:List (List UInt8)} {row:oP Nat} (h:Q23 w P b n ac) (hg:w.grownBy w' row) (aj:some b≠row):Q23 w' P b n ac:=by
 obtain ⟨D,hD,hm,hat⟩:=h;exact ⟨D,hD.kept hg aj,hm,hat⟩
theorem Q23.lt {P:Program} {w:World} {b n:Nat} {ac:List (List UInt8)} (h:Q23 w P b n ac):b<w.heap.size:=by
 obtain ⟨D,hD,hm,hat⟩:=h;exact hD.lt
theorem ZP {w w':World} (h:RowKit.Below w.heap.size w w'):w.grownBy w' none:=⟨h.os,h.tape,h.output,h.size,fun b hb _=>h.block b hb⟩
def G1:Code->List Code
 |.region i o d=>[.region i o d]
 |.loop c=>G1 c
 |.seq a b=>G1 a++G1 b
 |.block _ c=>G1 c
 |.scope c=>G1 c
 |.cond _ a b=>G1 a++G1 b
 |_=>[]
def Q5O (Q:Act->World->Prop):Exit->Act->World->Prop
 |.normal,a,w=>Q a w
 |_,_,_=>False
theorem Mm {P : Program} {f : Nat} {fn : Func} (hf : P.funcs[f]? = some fn) (hb : fn.body.isSome = true) (hn : (fn.name == "runtime.NumGoroutine") = false) {avs : List AV} {av : AV} {hl : Nat -> oP Ob} {rd : List Nat} (hlf : lf av = true) (hA : lfL avs = true)
  (h:∀ (S:Nat->Prop) (w:World) (args:List Value),(∀ b,S b->b<w.heap.size)->ArgsRd (fun _=>none) S (fun _=>none) w args avs->Calls P f args.toArray w fun e w'=>∃ (v:Value) (S':Nat->Prop),e = .returned v/\(∀ b,S b->S' b)/\(∀ b,S' b->S b\/w.heap.size<=b)/\(∀ b,S' b->b<w'.heap.size) /\
   RdA (fun _=>none) S' (fun _=>none) w' tm0 v av/\RowKit.Below w.heap.size w w'):ZA P f avs hl ⟨av,[],rd⟩:=by
 refine ⟨⟨fn,hf,hb,hn⟩,fun β S h' w args hO hAr _=>?_⟩;refine (h S w args hO.sb ⟨hAr.1,fun i v av' a h2=>Lr (Q08 hA h2) (fun _ h=>h) (fun _ _=>rfl) (hAr.2 i v av' a h2)⟩).mono fun e w' ⟨v,S',he,hs,hsf,hsb,hr,hbel⟩=>?_
 refine ⟨v,β,S',he,⟨hs,fun b hS=>(hsf b hS).elim .inl fun h=>.inr (.inl h),hsb,Q4Z hbel,fun _ _=>rfl,fun l o hl'=>by simp [wrL] at hl',fun l hl'=>by simp [wrL] at hl',fun l b hl'=>by simp [wrL] at hl',fun l l' b hl'=>by simp [wrL] at hl',fun l hl'=>by simp [wrL] at hl',?_,fun t=>Q3N t _ hlf⟩⟩;exact Lr hlf (fun _ h=>h) (fun _ _=>rfl) hr
end Go.Vx
namespace Go.Vx
def dV:D->Value
 |.int k n=>.int k n
 |.bool b=>.bool b
 |.str s=>.string ⟨⟨s⟩⟩
 |.sl _ _=>undef
def cellsOf (l:LL):List Value:=l.flatMap fun r=>r.map dV
theorem Q3F (l:LL) (r:List D):cellsOf (l++[r])=cellsOf l++r.map dV:=by simp [cellsOf]
structure NestK (e1 e2 k:Nat) (w:World) (B:Nat) (v:Value) (hd:List Value) (ll:List LL):Prop where
 row:w.ownsRow B e1 1 v ll.length hd
 each:∀ (i:Nat) (h:Value) (l:LL),hd[i]? = some h->ll[i]? = some l->w.ownsRow B e2 k h l.length (cellsOf l)
 outer:∀ (i:Nat) (h:Value) (b:Nat),hd[i]? = some h->h.ownBlock=some b->v.ownBlock≠some b
 apart:∀ (i j:Nat) (h h':Value) (b:Nat),hd[i]? = some h->hd[j]? = some h'->h.ownBlock=some b->h'.ownBlock=some b->i=j
section
variable {e1 e2 k:Nat}
theorem NestK.len {w:World} {B:Nat} {v:Value} {hd:List Value} {ll:List LL} (h:NestK e1 e2 k w B v hd ll):hd.length=ll.length:=by have:=h.row.1;omega
theorem NestK.kept {w w':World} {B:Nat} {v:Value} {hd:List Value} {ll:List LL} {row:oP Nat} (h:NestK e1 e2 k w B v hd ll) (hg:w.grownBy w' row)
  (a:v.ownBlock=none\/v.ownBlock≠row) (h2:∀ x∈hd,x.ownBlock=none\/x.ownBlock≠row):NestK e1 e2 k w' B v hd ll:=
 ⟨h.row.kept hg a,fun i x l hx hl=>(h.each i x l hx hl).kept hg (h2 x (Qqi hx)),h.outer,h.apart⟩
theorem NestK.blk {w:World} {B:Nat} {v:Value} {hd:List Value} {ll:List LL} (h:NestK e1 e2 k w B v hd ll) {i:Nat} {x:Value} {b:Nat} (hx:hd[i]? = some x) (hb:x.ownBlock=some b):B<=b/\b<w.heap.size:=by
 have hi:i<ll.length:=by rw [<- h.len];exact (Qqh.1 hx).1
 exact (h.each i x ll[i] hx (Qqt hi)).lt b hb
theorem Q3t {w:World} {base e n:Nat} {v:Value} {xs:List Value} {b i:Nat} (h:w.ownsRow base e 1 v n xs) (hb:v.ownBlock=some b) (hi:i<n) (u:Value):(w.setCell ⟨b,i,none⟩ u).ownsRow base e 1 v n (xs.set i u):=by
 obtain ⟨a,h2⟩:=h;refine ⟨by simpa using a,?_⟩;rcases h2 with ⟨rfl,rfl⟩ | ⟨g,cap,ac,rfl,hg,hh,hn,hc,hs,ht⟩
 ·omega
 ·simp [Value.ownBlock] at hb;subst hb;refine .inr ⟨g,cap,_,rfl,hg,heap_setCell_same w g i ac e u hh,hn,hc,by simpa using hs,?_⟩;rw [<- ht];simp [List.take_set]
theorem L4 {w:World} {base e s n:Nat} {v:Value} {xs:List Value} (h:w.ownsRow base e s v n xs) {a:Addr} (ha:v.ownBlock≠some a.block) (u:Value):(w.setCell a u).ownsRow base e s v n xs:=by
 refine ⟨h.1,?_⟩;rcases h.2 with h2 | ⟨g,cap,ac,rfl,hg,hh,hn,hc,hs,ht⟩
 ·exact .inl h2
 ·refine .inr ⟨g,cap,ac,rfl,hg,?_,hn,hc,hs,ht⟩;rw [heap_setCell_other w a g u (fun e=>ha (by simp [Value.ownBlock,e]))];exact hh
theorem NestK.grow {w c:World} {B:Nat} {v x x':Value} {hd:List Value} {ll:List LL} {l:LL} {s:List D} {g H i vb:Nat} (h:NestK e1 e2 k w B v hd ll)
  (hx:hd[i]? = some x) (hl:ll[i]? = some l) (ax:c.ownsRow B e2 k x' (l.length+1) (cellsOf l++s.map dV)) (hg:w.grownBy c x.ownBlock) (aj:x'.ownBlock=some g) (hat:x.ownBlock=some g\/g=H) (hH:w.heap.size=H)
  (hv:v.ownBlock=some vb):NestK e1 e2 k (c.setCell ⟨vb,i,none⟩ x') B v (hd.set i x') (ll.set i (l++[s])):=by
 have hi:i<ll.length:=(Qqh.1 hl).1;have a2:=(h.row.lt vb hv).2;have ay:g≠vb:=by
  intro e;subst e;rcases hat with a | a
  ·exact h.outer i x g hx a hv
  ·omega
 have an:c.ownsRow B e1 1 v ll.length hd:=by
  refine h.row.kept hg (.inr fun e=>?_);rw [hv] at e;exact h.outer i x vb hx e.symm hv
 have au:∀ (j:Nat) (y:Value) (b:Nat),hd[j]? = some y->y.ownBlock=some b->j≠i->b≠g:=by
  intro j y b hy hb az e;subst e;rcases hat with a | a
  ·exact az (h.apart j i y x b hy hx hb a)
  ·have:=(h.blk hy hb).2;omega
 refine ⟨?_,fun j y k hy hk=>?_,fun j y b hy hb=>?_,fun j k y z b hy hz al ak=>?_⟩
 ·rw [List.length_set];exact Q3t an hv hi x'
 ·rw [QqA] at hy hk;by_cases e:i=j
  ·subst e;have a:i<hd.length:=by rw [h.len];exact hi
   simp only [if_true,a,hi,Option.some.injEq] at hy hk;subst hy hk;refine L4 (by simpa [Q3F] using ax) ?_ _;rw [aj];intro e;exact ay (Option.some.inj e)
  ·rw [if_neg e] at hy hk;refine L4 ((h.each j y k hy hk).kept hg ?_) ?_ _
   ·cases hb:y.ownBlock with
    |none=>exact .inl rfl
    |some b=>exact .inr fun e2=>e (h.apart j i y x b hy hx hb e2.symm).symm
   ·intro e2;exact h.outer j y vb hy e2 hv
 ·rw [QqA] at hy;by_cases e:i=j
  ·subst e;have a:i<hd.length:=by rw [h.len];exact hi
   simp only [if_true,a,Option.some.injEq] at hy;subst hy;rw [aj] at hb;cases hb;rw [hv];intro e2;exact ay (Option.some.inj e2).symm
  ·rw [if_neg e] at hy;exact h.outer j y b hy hb
 ·rw [QqA] at hy hz;have a:i<hd.length:=by rw [h.len];exact hi
  by_cases e:i=j
  ·by_cases e2:i=k
   ·omega
   ·subst e;rw [if_neg e2] at hz;simp only [if_true,a,Option.some.injEq] at hy;subst hy;rw [aj] at al;cases al;exact absurd rfl (au k z g hz ak (fun h=>e2 h.symm))
  ·rw [if_neg e] at hy;by_cases e2:i=k
   ·subst e2;simp only [if_true,a,Option.some.injEq] at hz;subst hz;rw [aj] at ak;cases ak;exact absurd rfl (au j y g hy al (fun h=>e h.symm))
   ·rw [if_neg e2] at hz;exact h.apart j k y z b hy hz al ak
end
def EV (k:Nat) (r:List D):Bool:=Nat.beq r.length k&&r.all fun | .int .i64 _=>true | _=>false
theorem Q0q {k:Nat}:∀ (l:LL) (i j:Nat) (r:List D) (x:D),(∀ r∈l,r.length=k)->l[i]? = some r->r[j]? = some x->(cellsOf l)[i*k+j]? = some (dV x)
 |[],i,j,r,x,_,a,_=>by simp at a
 |b::l,0,j,r,x,hk,a,h2=>by
  simp only [Qqj,Option.some.injEq] at a;subst a;have hj:=(Qqh.1 h2).1;simp only [cellsOf,List.flatMap_cons,Nat.zero_mul,Qqx];rw [List.getElem?_append_left (by simpa using hj),Qqz,h2];rfl
 |b::l,i+1,j,r,x,hk,a,h2=>by
  have ih:=Q0q l i j r x (fun q hq=>hk q (by simp [hq])) (by simpa using a) h2;have c:=hk b QnK;simp only [cellsOf,List.flatMap_cons];rw [List.getElem?_append_right (by simp [c];rw [Nat.succ_mul];omega)];rw [show (i+1)*k+j-(b.map dV).length=i*k+j by simp [c];rw [Nat.succ_mul];omega];exact ih
theorem Qg5 {w:World} {B e k:Nat} {x:Value} {l:LL} (h:w.ownsRow B e k x l.length (cellsOf l)) (hk:∀ r∈l,EV k r=true) {S:Nat->Prop} (hS:∀ b,x.ownBlock=some b->S b):Rd S w x (.sl k l):=by
 have ac:∀ r∈l,r.length=k:=fun r hr=>by
  have:=hk r hr;simp only [EV,Qqn] at this;exact Nat.eq_of_beq_eq_true this.1
 rcases h.2 with ⟨rfl,c⟩ | ⟨g,cap,aj,rfl,hg,hh,hn,hc,hs,ht⟩
 ·have:l=[]:=List.eq_nil_of_length_eq_zero c;subst this;exact .sl0 none 0 k
 ·refine .sl ⟨g,0,none⟩ cap k l (fun i j=>dV ((l.getD i []).getD j (.bool false))) (hS g rfl) hn (fun i r hi=>ac r (Qqi hi)) (fun i j r y hi hj=>?_) (fun i j r y hi hj=>?_)
  ·have a:=Q0q l i j r y ac hi hj;have an:i*k+j<aj.size:=by
    have d:=(Qqh.1 a).1;rw [h.1] at d;have:l.length*k<=cap*k:=Nat.mul_le_mul_right k hn;omega
   rw [JJ,Qqx,cell_of_row w g (i*k+j) aj e (0,0) hh];rw [<- ht,Qqy] at a;split at a
   ·rw [<- Qqs,a];simp [List.getD,hi,hj]
   ·cases a
  ·have hq:=hk r (Qqi hi);simp only [EV,Qqn,List.all_eq_true] at hq;have hy:=hq.2 y (Qqi hj);simp only [List.getD,hi,hj,Option.getD_some];split at hy
   ·exact .int _ _
   ·cases hy
end Go.Vx
namespace Go.Vx
open Go.Proofs Go.RowKit
theorem Q7l {n:Nat} {s:List UInt8} (h:GW n s some=some true) (w:World):Calls Tryz.prog 159 #[.string ⟨⟨s⟩⟩] w fun e w'=>e = .returned (.bool true)/\RowKit.Below w.heap.size w w':=by
 have he:(TB n).E Dl 0 true [.d (.str s)] (fun _=>none) some=some ⟨.d (.bool true),[],[]⟩:=by
  show gb true (GW n s some) false (fun r=>(some ⟨.d (D.bool r),[],[]⟩:oP Dl))=_;rw [h];rfl
 refine Pz (Y2 ((TB n).ok) he) (S:=fun _=>False) (fun _ h=>h.elim) (args:=[.string ⟨⟨s⟩⟩]) ⟨rfl,fun i v av a h2=>?_⟩
 match i,a,h2 with
 |0,a,h2=>
  simp only [Qqj,Option.some.injEq] at a h2;subst a h2;exact .d _ _ (.str ⟨⟨s⟩⟩)
set_option maxHeartbeats 4000000 in
set_option maxRecDepth 100000 in
theorem Tryz.checkName_calls {N:Nat} (w:World) (b n:Nat) (ac:List (List UInt8)) (s:List UInt8) (h:Q23 w Tryz.prog b n ac) (hn:n<1000) (hs:QbP N ac s=true) :
  Calls Tryz.prog 211 #[.string ⟨⟨s⟩⟩,.map (some b)] w fun e w'=>e = .returned (.int .i64 0)/\Q23 w' Tryz.prog b (n+1) (s::ac)/\w.grownBy w' (some b):=by
 simp only [QbP,Qqn,Bool.not_eq_true'] at hs;obtain ⟨⟨hl,hN⟩,hc⟩:=hs;have hl:=Qql hl;have al:s.length<=maxLen:=by unfold maxLen;omega
 have ao:n<maxLen:=by unfold maxLen;omega
 have hz:∀ w:World,(zeroValue 4).run Tryz.prog w = .ok (.bool false) w:=fun w=>by kernel_rfl
 go_enter Tryz.func211,Tryz.ntmps211
 go_wp2_with (go_at_call 159;refine (Q7l (Nb hN) _).mono ?_)
 rintro e d ⟨rfl,hB⟩;have c:=h.kept (ZP hB) QnK;have ak:=c.lookup Tryz.underlying9 Tryz.underlying4 Tryz.underlying289 (hz d) al;rw [hc] at ak;obtain ⟨f,aq,h2,a⟩:=c.update Tryz.underlying9 Tryz.underlying4 Tryz.underlying289 ao al
 go_wp2
 refine bodyPost_ret (results_tmp rfl _ _ _) rfl ?_;exact ⟨rfl,h2,⟨a.os.trans hB.os,a.tape.trans hB.tape,a.output.trans hB.output,Nat.le_trans hB.size a.size,fun k hk an=>(a.block k (Qqm hk hB.size) an).trans (hB.block k hk)⟩⟩
theorem Q8j {β:Nat->oP Nat} {S:Nat->Prop} {h:Nat->oP Ob} {w:World} {v0:Value} {a0:AV} (b:RdA β S h w tm0 v0 a0):ArgsRd β S h w [v0] [a0]:=by
 refine ⟨rfl,fun i v av a h2=>?_⟩
 match i,a,h2 with
 |0,a,h2=>simp only [Qqj,Option.some.injEq] at a h2;subst a h2;exact b
theorem KV {β:Nat->oP Nat} {S:Nat->Prop} {h:Nat->oP Ob} {w:World} {v0 b:Value} {a0 a1:AV} (c:RdA β S h w tm0 v0 a0) (ac:RdA β S h w tm0 b a1):ArgsRd β S h w [v0,b] [a0,a1]:=by
 refine ⟨rfl,fun i v av a h2=>?_⟩
 match i,a,h2 with
 |0,a,h2=>simp only [Qqj,Option.some.injEq] at a h2;subst a h2;exact c
 |1,a,h2=>simp only [List.getElem?_cons_succ,Qqj,Option.some.injEq] at a h2;subst a h2;exact ac
theorem QcH {β:Nat->oP Nat} {S:Nat->Prop} {h:Nat->oP Ob} {w:World} {v0 b c:Value} {a0 a1 a2:AV} (d:RdA β S h w tm0 v0 a0) (aj:RdA β S h w tm0 b a1) (ac:RdA β S h w tm0 c a2):ArgsRd β S h w [v0,b,c] [a0,a1,a2]:=by
 refine ⟨rfl,fun i v av a h2=>?_⟩
 match i,a,h2 with
 |0,a,h2=>simp only [Qqj,Option.some.injEq] at a h2;subst a h2;exact d
 |1,a,h2=>simp only [List.getElem?_cons_succ,Qqj,Option.some.injEq] at a h2;subst a h2;exact aj
 |2,a,h2=>simp only [List.getElem?_cons_succ,Qqj,Option.some.injEq] at a h2;subst a h2;exact ac
inductive RdLs (S:Nat->Prop) (w:World):List Value->List D->Prop
 |nil:RdLs S w [] []
 |cons {v:Value} {x:D} {vs:List Value} {xs:List D} (h:Rd S w v x) (t:RdLs S w vs xs):RdLs S w (v::vs) (x::xs)
theorem RdLs.agg {S:Nat->Prop} {w:World}:∀ {vs:List Value} {xs:List D},RdLs S w vs xs->RdA (fun _=>none) S (fun _=>none) w tm0 (.agg vs.toArray) (.ag (xs.map .d))
 |vs,xs,h=>by
  have hl:∀ {vs:List Value} {xs:List D},RdLs S w vs xs->vs.length=xs.length:=by
   intro vs xs h;induction h with
   |nil=>rfl
   |cons _ _ ih=>simp [ih]
  have hr:∀ {vs:List Value} {xs:List D},RdLs S w vs xs->∀ (i:Nat) (x:D),xs[i]? = some x->Rd S w (vs.toArray.getD i undef) x:=by
   intro vs xs h;induction h with
   |nil=>intro i x hx;simp at hx
   |cons a t ih=>
    intro i x hx;cases i with
    |zero=>simp only [Qqj,Option.some.injEq] at hx;subst hx;simpa using a
    |succ i=>
     have:=ih i x (by simpa using hx);simpa using this
  refine .ag _ _ (by simp [hl h]) fun i x hx=>?_
  rw [Qqz,Qqo] at hx;obtain ⟨d,hd,rfl⟩:=hx;exact .d _ _ (hr h i d hd)
theorem Rd.keep {S:Nat->Prop} {w w':World} {v:Value} {x:D} {m:Nat} (h:Rd S w v x) (hS:∀ b,S b->b<m) (hw:∀ b,b<m->w'.heap[b]? = w.heap[b]?):Rd S w' v x:=h.mono (fun _ h=>h) fun b hb=>hw b (hS b hb)
theorem Kv {S:Nat->Prop} {w:World} {v:Value} {k:Nat} {rows:LL} (h:Rd S w v (.sl k rows)):∃ ad cap,v = .slice ad rows.length cap:=by
 cases h with
 |sl0 a cap=>exact ⟨a,cap,rfl⟩
 |sl ad cap=>exact ⟨some ad,cap,rfl⟩
theorem Q9t {S:Nat->Prop} {w:World} {ad:oP Addr} {n cap k:Nat} {rows:LL} (h:Rd S w (.slice ad n cap) (.sl k rows)) {i:Nat} {row:List D} (hi:rows[i]? = some row) :
  ∃ a,ad=some a/\S a.block/\row.length=k/\∀ (j:Nat) (x:D),row[j]? = some x->∃ v,w.cell? (a.add (i*k+j))=some v/\Rd S w v x:=by
 cases h with
 |sl0 a cap=>simp at hi
 |sl a cap _ _ c hS aj ac hc hr=>exact ⟨a,rfl,hS,ac i row hi,fun j x hx=>⟨_,hc i j row x hi hx,hr i j row x hi hx⟩⟩
theorem Bz {n:Nat} {w a c:World} {b:Nat} (h:Below n w a) (hn:n<=w.heap.size) (hb:n<=b) (hg:a.grownBy c (some b)):Below n w c:=
 ⟨hg.os.trans h.os,hg.tape.trans h.tape,hg.output.trans h.output,Nat.le_trans h.size hg.size,fun k hk=>(hg.block k (by have:=h.size;omega) QnL).trans (h.block k hk)⟩
theorem WS {n:Nat} {w a:World} (h:Below n w a) (hn:n<=w.heap.size) (o:Obj):Below n w (a.alloc o):=
 ⟨h.os,h.tape,h.output,by have:=h.size;simp;omega,fun k hk=>(Qqu a o k (by have:=h.size;omega)).trans (h.block k hk)⟩
theorem UX {n:Nat} {w a b:World} (h:Below n w a) (hn:n<=w.heap.size) (h2:Below a.heap.size a b):Below n w b:=
 ⟨h2.os.trans h.os,h2.tape.trans h.tape,h2.output.trans h.output,Nat.le_trans h.size h2.size,fun k hk=>(h2.block k (by have:=h.size;omega)).trans (h.block k hk)⟩
theorem Hu (ad:Addr) (i j:Nat) (hj:j≠0):ad.add (i+j)=⟨(ad.add i).block,(ad.add i).off+j,none⟩:=by
 have a:(ad.add i).add j=ad.add (i+j):=by
  unfold Addr.add;by_cases hi:i=0 <;> simp [hi,hj,Nat.add_assoc]
 rw [<- a];generalize ad.add i=x;unfold Addr.add;rw [if_neg hj]
theorem Q0J {N:Nat} {ac:List (List UInt8)} {l:LL} {j:Nat} (hj:j<l.length) (h:TC N ac (l.drop j)=true) :
  ∃ s,l[j]? = some [D.str s]/\QbP N ac s=true/\TC N (s::ac) (l.drop (j+1))=true:=by
 rw [List.drop_eq_getElem_cons hj] at h;unfold TC at h;split at h
 ·rename_i s e;simp only [Qqn] at h;exact ⟨s,by rw [Qqt hj,e],h.1,h.2⟩
 ·cases h
theorem Q35 {N:Nat} {l0 l1 l2 f:LL} {ac:List (List UInt8)} {l:LL} {j:Nat} (hj:j<l.length) (h:P1 N l0 l1 l2 f ac (l.drop j)=true) :
  ∃ s a b c d,l[j]? = some [D.str s,.int .i64 a,.int .i64 b,.int .i64 c,.int .i64 d]/\QbP N ac s=true/\Xg N l0 l1 l2 f s a b c d some=some true/\P1 N l0 l1 l2 f (s::ac) (l.drop (j+1))=true:=by
 rw [List.drop_eq_getElem_cons hj] at h;unfold P1 at h;split at h
 ·rename_i s a b c d e;simp only [Qqn] at h;exact ⟨s,a,b,c,d,by rw [Qqt hj,e],h.1.1,Nb h.1.2,h.2⟩
 ·cases h
theorem QbN {S:Nat->Prop} {w:World} {v:Value} {s:List UInt8} (h:Rd S w v (.str s)):v = .string ⟨⟨s⟩⟩:=by cases h;rfl
theorem SY {S:Nat->Prop} {w:World} {v:Value} {k:IntKind} {n:Int} (h:Rd S w v (.int k n)):v = .int k n:=by cases h;rfl
theorem Q6P {N:Nat} {l0 l1 l2 f:LL} {s:List UInt8} {a b c d:Int} (h:Xg N l0 l1 l2 f s a b c d some=some true) {S:Nat->Prop} {w:World} (hS:∀ b,S b->b<w.heap.size) {v0 g i j:Value}
  (k:Rd S w v0 (.sl 1 l0)) (l:Rd S w g (.sl 1 l1)) (h2:Rd S w i (.sl 5 l2)) (m:Rd S w j (.sl 6 f)) :
  Calls Tryz.prog 212 #[.agg #[v0,g,i,j],.agg #[.string ⟨⟨s⟩⟩,.int .i64 a,.int .i64 b,.int .i64 c,.int .i64 d]] w fun e w'=>e = .returned (.bool true)/\RowKit.Below w.heap.size w w':=by
 have he:(G0 N).E Dl 0 true [.ag ([D.sl 1 l0,.sl 1 l1,.sl 5 l2,.sl 6 f].map .d),.ag ([D.str s,.int .i64 a,.int .i64 b,.int .i64 c,.int .i64 d].map .d)] (fun _=>none) some=some ⟨.d (.bool true),[],[]⟩:=by
  show gb true (Xg N l0 l1 l2 f s a b c d some) false (fun r=>(some ⟨.d (D.bool r),[],[]⟩:oP Dl))=_;rw [h];rfl
 exact Pz (Y2 ((G0 N).ok) he) hS (KV (RdLs.agg (.cons k (.cons l (.cons h2 (.cons m .nil))))) (RdLs.agg (.cons (.str ⟨⟨s⟩⟩) (.cons (.int _ _) (.cons (.int _ _) (.cons (.int _ _) (.cons (.int _ _) .nil)))))))
set_option maxHeartbeats 8000000 in
set_option maxRecDepth 100000 in
theorem Tryz.layout_calls {N:Nat} (S:Nat->Prop) (w:World) (hS:∀ b,S b->b<w.heap.size) (l0 l1 l2 d:LL) (v0 x y z:Value) (h0:Rd S w v0 (.sl 1 l0)) (h1:Rd S w x (.sl 1 l1)) (h2:Rd S w y (.sl 5 l2)) (h3:Rd S w z (.sl 6 d)) (bg:P3 N l0 l1 l2 d=true)
  (hL:∀ w':World,(∀ b,S b->b<w'.heap.size)->Rd S w' v0 (.sl 1 l0)->Rd S w' x (.sl 1 l1)->Rd S w' y (.sl 5 l2)->Rd S w' z (.sl 6 d)->Calls Tryz.prog 213 #[.agg #[v0,x,y,z]] w' fun e bx=>e = .returned (.int .i64 0)/\Below w'.heap.size w' bx) :
  Calls Tryz.prog 158 #[.agg #[v0,x,y,z]] w fun e w'=>e = .returned (.int .i64 0)/\Below w.heap.size w w':=by
 simp only [P3,Qqn,Bool.not_eq_true'] at bg;obtain ⟨⟨⟨⟨⟨⟨⟨⟨m0,m1⟩,m2⟩,m3⟩,m4⟩,n0⟩,n1⟩,ns⟩,nl⟩:=bg;have m0:=Qql m0;have m1:=Qql m1;have m2:=Qql m2;have m3:=Qql m3;have m4:l2.length≠0:=fun e=>by rw [e] at m4;cases m4
 obtain ⟨g,h,rfl⟩:=Kv h0;obtain ⟨m,n,rfl⟩:=Kv h1;obtain ⟨q,p,rfl⟩:=Kv h2;obtain ⟨r,t,rfl⟩:=Kv h3;have q0:¬ (24:Int)<(l0.length:Int):=QnI
 have q1:¬ (48:Int)<(l1.length:Int):=QnI
 have q2:¬ (96:Int)<(l2.length:Int):=QnI
 have q3:¬ (192:Int)<(d.length:Int):=QnI
 have q4:¬ ((l2.length:Int)=0):=QnI
 have a2:(w.alloc (.cells #[.slice g l0.length h,.slice m l1.length n,.slice q l2.length p,.slice r d.length t] 27)).heap[w.heap.size]? = some (.cells #[.slice g l0.length h,.slice m l1.length n,.slice q l2.length p,.slice r d.length t] 27 (0,0)):=heap_alloc_new w _;have an:Below w.heap.size w (w.alloc (.cells #[.slice g l0.length h,.slice m l1.length n,.slice q l2.length p,.slice r d.length t] 27)):=WS (Below.refl _ _) (Qqw _) _;have br:(w.alloc (.cells #[.slice g l0.length h,.slice m l1.length n,.slice q l2.length p,.slice r d.length t] 27)).heap.size=w.heap.size+1:=by simp
 have cm:∀ w:World,(Instr.makeMap 289 none).run Tryz.prog w = .ok (.map (some w.heap.size)) (w.alloc (.map #[] 0)):=fun w=>run_makeMap 289 w
 go_enter Tryz.func158,Tryz.ntmps158
 go_wp2
 generalize w.alloc (.cells #[.slice g l0.length h,.slice m l1.length n,.slice q l2.length p,.slice r d.length t] 27)=w1 at *
 go_loopw [40] (fun i wr=>∃ k:Nat,k<=2/\i = .int .i64 k/\Below (w.heap.size+1) w1 wr)
  (fun i _=>2-(intOf i).toNat)
 case atStart=>exact ⟨0,QnI,rfl,Below.refl _ _⟩
 case round=>
  obtain ⟨k,hk,rfl,hF⟩:=hrel;by_cases bp:k<2
  ·have b9:((k:Int)<2):=QnI
   obtain ⟨ad,l,cap,b8,hv,hl,hm⟩:∃ (ad:oP Addr) (l:LL) (cap:Nat),(∀ w:World,(Instr.index 288 (.agg #[.slice g l0.length h,.slice m l1.length n]) (.int .i64 k)).run Tryz.prog w = .ok (.slice ad l.length cap) w)/\Rd S w (.slice ad l.length cap) (.sl 1 l)/\TC N [] l=true/\l.length<=48:=by
    obtain rfl | rfl:k=0\/k=1:=QnI
    ·exact ⟨g,l0,h,fun _=>rfl,h0,n0,QnI⟩
    ·exact ⟨m,l1,n,fun _=>rfl,h1,n1,QnI⟩
   have ah:w.heap.size+1<=wr.heap.size:=by have:=hF.size;omega
   have hM:=Q23.made Tryz.prog wr;have a4:=WS hF QnI (.map #[] 0)
   go_wp2
   generalize wr.alloc (.map #[] 0)=w2 at *
   generalize wr.heap.size=b at *
   clear hF
   go_loopw [46] (fun i wr=>∃ (j:Nat) (aj:List (List UInt8)),j<=l.length/\i = .int .i64 j/\Q23 wr Tryz.prog b j aj/\TC N aj (l.drop j)=true/\Below (w.heap.size+1) w1 wr)
    (fun i _=>l.length-(intOf i).toNat)
   case atStart=>exact ⟨0,[],QnI,rfl,hM,hl,a4⟩
   case round=>
    obtain ⟨j,aj,hj,rfl,az,a9,al⟩:=hrel;by_cases ax:j<l.length
    ·have bj:((j:Int)<(l.length:Int)):=QnI
     obtain ⟨s,a1,hN,aq⟩:=Q0J ax a9;have a5:=Rd.keep (w':=wr) hv hS fun c hc=>(al.block c QnI).trans (an.block c hc)
     obtain ⟨a,rfl,_,_,ac⟩:=Q9t a5 a1;obtain ⟨u,hc,hu⟩:=ac 0 _ rfl;rw [QbN hu,Nat.mul_one,Nat.add_zero] at hc
     go_wp2_with (go_at_call 211;refine (Tryz.checkName_calls wr b j aj s az QnI hN).mono ?_)
     rintro e f ⟨rfl,a8,v⟩;have aw:=Bz al QnI ah v
     go_wp2
     go_roundw
     all_goals first
      |exact ⟨j+1,s::aj,ax,by go_num,a8,aq,aw⟩
      |(simp [intOf];omega)
    ·go_wp2
     go_roundw
     all_goals first
      |exact ⟨k+1,bp,by go_num,al⟩
      |(simp [intOf];omega)
  ·skip
   have ah:w.heap.size+1<=wr.heap.size:=by have:=hF.size;omega
   have hM:=Q23.made Tryz.prog wr;have a4:=WS hF QnI (.map #[] 0);have ak:=(a4.block _ (Nat.lt_succ_self _)).trans a2;have c2:(wr.alloc (.map #[] 0)).cell? ⟨w.heap.size,2,none⟩=some (.slice q l2.length p):=by rw [Qqg ak];rfl
   go_wp2
   clear ak c2;generalize wr.alloc (.map #[] 0)=w2 at *
   generalize wr.heap.size=b at *
   go_loopw [62] (fun i wr=>∃ (j:Nat) (aj:List (List UInt8)),j<=l2.length/\i = .int .i64 j/\Q23 wr Tryz.prog b j aj/\P1 N l0 l1 l2 d aj (l2.drop j)=true/\Below (w.heap.size+1) w1 wr)
    (fun i _=>l2.length-(intOf i).toNat)
   case atStart=>exact ⟨0,[],QnI,rfl,hM,ns,a4⟩
   case round=>
    obtain ⟨j,aj,hj,rfl,az,a9,al⟩:=hrel;by_cases ax:j<l2.length
    ·have bj:((j:Int)<(l2.length:Int)):=QnI
     obtain ⟨s,sa,sb,sc,sd,a1,hN,bk,aq⟩:=Q35 ax a9;have bo:∀ c,c<w.heap.size->wr.heap[c]? = w.heap[c]?:=fun c hc=>(al.block c QnI).trans (an.block c hc)
     have a5:=Rd.keep (w':=wr) h2 hS bo;obtain ⟨a,rfl,_,_,ac⟩:=Q9t a5 a1;obtain ⟨u0,x0,y0⟩:=ac 0 _ rfl;obtain ⟨u1,x1,y1⟩:=ac 1 _ rfl;obtain ⟨cj,x2,y2⟩:=ac 2 _ rfl;obtain ⟨cy,x3,y3⟩:=ac 3 _ rfl;obtain ⟨cu,x4,y4⟩:=ac 4 _ rfl;rw [QbN y0,Nat.add_zero] at x0;rw [SY y1,Hu _ _ _ QnJ] at x1;rw [SY y2,Hu _ _ _ QnJ] at x2;rw [SY y3,Hu _ _ _ QnJ] at x3;rw [SY y4,Hu _ _ _ QnJ] at x4;clear ac y0 y1 y2 y3 y4 a5;have ar:wr.grownBy (wr.alloc (.cells #[.string ⟨⟨s⟩⟩,.int .i64 sa,.int .i64 sb,.int .i64 sc,.int .i64 sd] 57)) none:=World.grownBy_alloc wr _ none;have bc:=WS al QnI (.cells #[.string ⟨⟨s⟩⟩,.int .i64 sa,.int .i64 sb,.int .i64 sc,.int .i64 sd] 57);have bi:=az.kept ar QnK;have au:(wr.alloc (.cells #[.string ⟨⟨s⟩⟩,.int .i64 sa,.int .i64 sb,.int .i64 sc,.int .i64 sd] 57)).heap[wr.heap.size]? = some (.cells #[.string ⟨⟨s⟩⟩,.int .i64 sa,.int .i64 sb,.int .i64 sc,.int .i64 sd] 57 (0,0)):=heap_alloc_new wr _;have cr:b<wr.heap.size:=az.lt;have bv:w.heap.size+1<=wr.heap.size:=by have:=al.size;omega
     go_wp2_with (go_at_call 211;refine (Tryz.checkName_calls (wr.alloc (.cells #[.string ⟨⟨s⟩⟩,.int .i64 sa,.int .i64 sb,.int .i64 sc,.int .i64 sd] 57)) b j aj s bi QnI hN).mono ?_)
     rintro e f ⟨rfl,a8,v⟩;have aw:=Bz bc QnI ah v;have ak:=(aw.block _ (Nat.lt_succ_self _)).trans a2;have ay:=(v.block wr.heap.size QnK QnL).trans au;clear bc bi au ar v az al;have z0:f.cell? ⟨w.heap.size,0,none⟩=some (.slice g l0.length h):=by rw [Qqg ak];rfl
     have z1:f.cell? ⟨w.heap.size,1,none⟩=some (.slice m l1.length n):=by rw [Qqg ak];rfl
     have z2:f.cell? ⟨w.heap.size,2,none⟩=some (.slice (some a) l2.length p):=by rw [Qqg ak];rfl
     have z3:f.cell? ⟨w.heap.size,3,none⟩=some (.slice r d.length t):=by rw [Qqg ak];rfl
     have y0:f.cell? ⟨wr.heap.size,0,none⟩=some (.string ⟨⟨s⟩⟩):=by rw [Qqg ay];rfl
     have y1:f.cell? ⟨wr.heap.size,1,none⟩=some (.int .i64 sa):=by rw [Qqg ay];rfl
     have y2:f.cell? ⟨wr.heap.size,2,none⟩=some (.int .i64 sb):=by rw [Qqg ay];rfl
     have y3:f.cell? ⟨wr.heap.size,3,none⟩=some (.int .i64 sc):=by rw [Qqg ay];rfl
     have y4:f.cell? ⟨wr.heap.size,4,none⟩=some (.int .i64 sd):=by rw [Qqg ay];rfl
     have o:∀ c,c<w.heap.size->f.heap[c]? = w.heap[c]?:=fun c hc=>(aw.block c QnI).trans (an.block c hc)
     have a6:∀ c,S c->c<f.heap.size:=fun c hc=>by have:=hS c hc;have:=aw.size;omega
     have g0:=Rd.keep h0 hS o;have g1:=Rd.keep h1 hS o;have g2:=Rd.keep h2 hS o;have g3:=Rd.keep h3 hS o
     go_wp2_with (go_at_call 212;refine (Q6P bk a6 g0 g1 g2 g3).mono ?_)
     rintro e w4 ⟨rfl,a3⟩;have bl:=a8.kept (ZP a3) QnK;have ao:=UX aw QnI a3
     go_wp2
     go_roundw
     all_goals first
      |exact ⟨j+1,s::aj,ax,by go_num,bl,aq,ao⟩
      |(simp [intOf];omega)
    ·have ak:=(al.block _ (Nat.lt_succ_self _)).trans a2;have z0:wr.cell? ⟨w.heap.size,0,none⟩=some (.slice g l0.length h):=by rw [Qqg ak];rfl
     have z1:wr.cell? ⟨w.heap.size,1,none⟩=some (.slice m l1.length n):=by rw [Qqg ak];rfl
     have z2:wr.cell? ⟨w.heap.size,2,none⟩=some (.slice q l2.length p):=by rw [Qqg ak];rfl
     have z3:wr.cell? ⟨w.heap.size,3,none⟩=some (.slice r d.length t):=by rw [Qqg ak];rfl
     have o:∀ c,c<w.heap.size->wr.heap[c]? = w.heap[c]?:=fun c hc=>(al.block c QnI).trans (an.block c hc)
     have a6:∀ c,S c->c<wr.heap.size:=fun c hc=>by have:=hS c hc;have:=al.size;omega
     have a7:=hL wr a6 (Rd.keep h0 hS o) (Rd.keep h1 hS o) (Rd.keep h2 hS o) (Rd.keep h3 hS o)
     go_wp2_with (go_at_call 213;refine a7.mono ?_)
     rintro e w4 ⟨rfl,a3⟩;have ao:=UX al QnI a3
     go_wp2
     refine bodyPost_ret (results_tmp rfl _ _ _) rfl ?_;exact ⟨rfl,ao.os.trans an.os,ao.tape.trans an.tape,ao.output.trans an.output,by have:=ao.size;omega,fun c hc=>(ao.block c QnI).trans (an.block c hc)⟩
section
theorem Q7j {w w':World} {a:Addr} {u:Value} (hB:Below w.heap.size w w') (h:w.cell? a=some u):w'.cell? a=some u:=by
 rw [World.cell?_of_block (hB.block a.block (World.block_lt_of_cell? w a h))];exact h
theorem NF (w:World):Below w.heap.size w w.drew:=⟨rfl,rfl,rfl,Qqw _,fun _ _=>rfl⟩
theorem Nz {w a b:World} (h:Below w.heap.size w a) (h2:Below a.heap.size a b):Below w.heap.size w b:=UX h (Qqw _) h2
theorem Q66 {β:Nat->oP Nat} {S:Nat->Prop} {h:Nat->oP Ob} {w:World} {tm:Nat->Value} {v:Value} {k:IntKind} {n:Int} (h:RdA β S h w tm v (.d (.int k n))):v = .int k n:=by
 cases h with
 |d _ _ q=>exact SY q
 |dang _ _ _ hl=>cases hl
theorem Q7I {β:Nat->oP Nat} {S:Nat->Prop} {h:Nat->oP Ob} {w:World} {tm:Nat->Value} {v:Value} {k k':IntKind} {n m:Int} (h:RdA β S h w tm v (.ag [.d (.int k n),.d (.int k' m)])):v = .agg #[.int k n,.int k' m]:=by
 cases h with
 |ag cs l hl hr=>
  have c:=Q66 (hr 0 _ rfl);have d:=Q66 (hr 1 _ rfl);obtain ⟨l⟩:=cs
  match l,hl with
  |[a,b],_=>
   simp at c d;rw [c,d]
 |dang _ _ _ hl=>cases hl
theorem Tryz.index_calls (w:World) (a b:Int) (a0:0<=a) (a1:a<1000) (b0:0<=b) (b1:b<=1) :
  Calls Tryz.prog 252 #[.agg #[.int .i64 a,.int .i64 b]] w fun e w'=>e = .returned (.int .i64 (2*a+b))/\Below w.heap.size w w':=by
 have e1:IntKind.i64.wrap (2*a)=2*a:=by rw [IntKind.wrap_i64];omega
 have e2:IntKind.i64.wrap (2*a+b)=2*a+b:=by rw [IntKind.wrap_i64];omega
 have hp:KT 0 a b some=some (2*a+b):=by
  show some (IntKind.i64.wrap (IntKind.i64.wrap (2*a)+b))=_;rw [e1,e2]
 have he:(Tz 0).E Dl 0 true [.ag ([D.int .i64 a,D.int .i64 b].map .d)] (fun _=>none) some=some ⟨.d (D.int .i64 (2*a+b)),[],[]⟩:=by
  show gb true (KT 0 a b some) 0 (fun r=>(some ⟨.d (D.int .i64 r),[],[]⟩:oP Dl))=_;rw [hp];rfl
 exact Gf (S:=fun _=>False) (Y2 ((Tz 0).ok) he) (fun _ h=>h.elim) (Q8j (RdLs.agg (.cons (.int _ _) (.cons (.int _ _) .nil))))
set_option maxHeartbeats 4000000 in
theorem Tryz.ends_calls (w:World) (a ae b be p q:Int) :
  Calls Tryz.prog 251 #[.agg #[.int .i64 a,.int .i64 ae,.int .i64 b,.int .i64 be,.int .i64 p,.int .i64 q]] w fun e w'=>e = .returned (.tuple #[.agg #[.int .i64 a,.int .i64 ae],.agg #[.int .i64 b,.int .i64 be]])/\Below w.heap.size w w':=by
 have he:(HF 0).E Dl 0 true [.ag ([D.int .i64 a,D.int .i64 ae,D.int .i64 b,D.int .i64 be,D.int .i64 p,D.int .i64 q].map .d)] (fun _=>none) some=some ⟨.tup [.ag ([D.int .i64 a,D.int .i64 ae].map .d),.ag ([D.int .i64 b,D.int .i64 be].map .d)],[],[]⟩:=rfl;refine (C8 (S:=fun _=>False) (Y2 ((HF 0).ok) he) (fun _ h=>h.elim) (Q8j (RdLs.agg (.cons (.int _ _) (.cons (.int _ _) (.cons (.int _ _) (.cons (.int _ _) (.cons (.int _ _) (.cons (.int _ _) .nil))))))))).mono fun e w' ⟨v,S',f,h2,g⟩=>⟨?_,g⟩
 rw [f];cases h2 with
 |tup cs l hl hr=>
  have c:=Q7I (hr 0 _ rfl);have d:=Q7I (hr 1 _ rfl);obtain ⟨l⟩:=cs
  match l,hl with
  |[a,b],_=>
   simp at c d;rw [c,d]
 |dang v av l hl=>cases hl
theorem six {w:World} {p t:Nat} {a b c d e f:Value} (h:w.heap[p]? = some (.cells #[a,b,c,d,e,f] t (0,0))):w.cell? ⟨p,0,none⟩=some a/\w.cell? ⟨p,1,none⟩=some b/\w.cell? ⟨p,2,none⟩=some c/\w.cell? ⟨p,3,none⟩=some d/\w.cell? ⟨p,4,none⟩=some e/\w.cell? ⟨p,5,none⟩=some f:=by
 refine ⟨?_,?_,?_,?_,?_,?_⟩ <;> rw [Qqg h] <;> rfl
theorem JY {e1 e2 k:Nat} {w w':World} {B:Nat} {v:Value} {hd:List Value} {ll:List LL} (h:NestK e1 e2 k w B v hd ll) (hg:w.grownBy w' none):NestK e1 e2 k w' B v hd ll:=
 h.kept hg (Classical.em _) (fun x _=>Classical.em _)
structure Grew (w w':World) (vb:Nat) (x x':Value):Prop where
 own:∀ b,x'.ownBlock=some b->x.ownBlock=some b\/w.heap.size<=b
 os:w'.os=w.os
 tape:w'.tape=w.tape
 output:w'.output=w.output
 size:w.heap.size<=w'.heap.size
 block:∀ b,b<w.heap.size->b≠vb->x.ownBlock≠some b->w'.heap[b]? = w.heap[b]?
theorem Q3n {w W1 W2:World} {B vb N i n g c:Nat} {x:Value} {hd:List Value} {ll:List LL} {l:LL} {row:List D} (hN:NestK 25 193 6 w B (.slice (some ⟨vb,0,none⟩) N N) hd ll) (hx:hd[i]? = some x) (hl:ll[i]? = some l) (hn:n=l.length)
  (a:w.grownBy W1 none) (aj:W2.ownsRow B 193 6 (.slice (some ⟨g,0,none⟩) (n+1) c) (n+1) (cellsOf l++row.map dV)) (ac:W1.grownBy W2 x.ownBlock) (hat:x.ownBlock=some g\/g=W1.heap.size) :
  NestK 25 193 6 (W2.setCell ⟨vb,i,none⟩ (.slice (some ⟨g,0,none⟩) (n+1) c)) B (.slice (some ⟨vb,0,none⟩) N N) (hd.set i (.slice (some ⟨g,0,none⟩) (n+1) c)) (ll.set i (l++[row])) /\
   Grew w (W2.setCell ⟨vb,i,none⟩ (.slice (some ⟨g,0,none⟩) (n+1) c)) vb x (.slice (some ⟨g,0,none⟩) (n+1) c):=by
 subst hn;have d:=JY hN a;have s1:=a.size;have s2:=ac.size;refine ⟨d.grow hx hl aj ac rfl hat rfl rfl,⟨fun b hb=>?_,?_,?_,?_,?_,fun b hb h2 f=>?_⟩⟩
 ·simp only [Value.ownBlock,Option.some.injEq] at hb;subst hb;rcases hat with h | h
  ·exact .inl h
  ·exact .inr QnI
 ·exact ac.os.trans a.os
 ·exact ac.tape.trans a.tape
 ·exact ac.output.trans a.output
 ·simp;omega
 ·rw [heap_setCell_other _ _ _ _ (fun e=>h2 e)];rw [ac.block b QnI (fun e=>f e.symm),a.block b hb QnK]
variable {u0 u1 u2 u3 u4 u5 u6 u7 u8 u9 u10 u11 u12 u13 u14 u15 u16 u17 u18 u19 u20 u21 u22 u23 u24 u25 u26 u27 u28 u29 u30 u31 u32 u33 u34 u35 u36 u37 u38 u39 u40 u41 u42 u43 u44 u45 u46 u47 u48 u49 u50 u51 u52 u53 u54 u55 u56 u57 u58 u59 u60 u61 u62 u63 u64 u65 u66 u67 u68 u69 u70 u71 u72 u73 u74 u75 u76 u77 u78 u79:Value}
noncomputable def QcA:Code:=(G1 (Tryz.f213.body.getD .skip)).getD 8 .skip
set_option maxHeartbeats 8000000 in
set_option maxRecDepth 100000 in
theorem Tryz.links_r8 (vb N c d:Nat) (a ae b be:Int) (w:World) (c0:w.cell? ⟨c,0,none⟩=some (.int .i64 a)) (c1:w.cell? ⟨c,1,none⟩=some (.int .i64 ae)) (d0:w.cell? ⟨d,0,none⟩=some (.int .i64 b)) (d1:w.cell? ⟨d,1,none⟩=some (.int .i64 be)) (a0:0<=a) (a1:a<1000) (r:0<=ae) (e1:ae<=1) (b0:0<=b) (b1:b<1000) (s:0<=be) (t:be<=1) (u:2*a+ae<(N:Int)) (h2:2*b+be<(N:Int)) :
  Code.wp Tryz.prog QcA (Q5O fun act w'=>∃ (f g h i j k l m:Value) ,act=⟨(u0::u1::u2::.slice (some ⟨vb,0,none⟩) N N::u4::u5::.pointer (some ⟨c,0,none⟩)::.pointer (some ⟨d,0,none⟩)::.pointer (some ⟨vb,(2*a+ae).toNat,none⟩)::.pointer (some ⟨vb,(2*b+be).toNat,none⟩)::u10::u11::u12::u13::u14::u15::u16::u17::u18::u19::u20::u21::u22::u23::u24::u25::u26::u27::u28::u29::u30::f::g::h::i::j::k::l::m::u39::u40::u41::u42::u43::u44::u45::u46::u47::u48::u49::u50::u51::u52::u53::u54::u55::u56::u57::u58::u59::u60::u61::u62::u63::u64::u65::u66::u67::u68::u69::u70::u71::u72::u73::u74::u75::u76::u77::u78::u79::[]).toArray,[]⟩/\Below w.heap.size w w') ⟨(u0::u1::u2::.slice (some ⟨vb,0,none⟩) N N::u4::u5::.pointer (some ⟨c,0,none⟩)::.pointer (some ⟨d,0,none⟩)::u8::u9::u10::u11::u12::u13::u14::u15::u16::u17::u18::u19::u20::u21::u22::u23::u24::u25::u26::u27::u28::u29::u30::u31::u32::u33::u34::u35::u36::u37::u38::u39::u40::u41::u42::u43::u44::u45::u46::u47::u48::u49::u50::u51::u52::u53::u54::u55::u56::u57::u58::u59::u60::u61::u62::u63::u64::u65::u66::u67::u68::u69::u70::u71::u72::u73::u74::u75::u76::u77::u78::u79::[]).toArray,[]⟩ w:=by
 conv=>arg 2;whnf
 have mixed:Tryz.prog.follows .mixedOrders=true:=by kernel_rfl
 have n:w.drew.cell? ⟨c,0,none⟩=some (.int .i64 a):=c0;have o:w.drew.cell? ⟨c,1,none⟩=some (.int .i64 ae):=c1;have p:w.drew.cell? ⟨d,0,none⟩=some (.int .i64 b):=d0;have q:w.drew.cell? ⟨d,1,none⟩=some (.int .i64 be):=d1;have g1:0<=2*a+ae:=QnI
 have v:0<=2*b+be:=QnI
 clear c0 c1 d0 d1
 go_region_held3 (fun w'=>w'.cell? ⟨c,0,none⟩=some (.int .i64 a)/\w'.cell? ⟨c,1,none⟩=some (.int .i64 ae)/\w'.cell? ⟨d,0,none⟩=some (.int .i64 b)/\w'.cell? ⟨d,1,none⟩=some (.int .i64 be))
  (first
   |exact ⟨n,o,p,q⟩
   |(refine ⟨?_,?_,?_,?_⟩ <;> (repeat (first | assumption | refine Q7j (by assumption) ?_))))
  (first
   |(go_at_call 252;refine (Tryz.index_calls _ _ _ (by assumption) (by assumption) (by assumption) (by assumption)).mono ?_;rintro e W1 ⟨rfl,x⟩))
 all_goals
  dsimp only [Q5O];refine ⟨_,_,_,_,_,_,_,_,rfl,?_⟩
  repeat (first | exact NF _ | refine Nz ?_ (by assumption))
noncomputable def Qav:Code:=(G1 (Tryz.f213.body.getD .skip)).getD 11 .skip
set_option maxHeartbeats 8000000 in
set_option maxRecDepth 100000 in
theorem Tryz.links_r11 (vb i c d n cap:Nat) (ad:oP Addr) (a ae b be:Int) (w:World) (c0:w.cell? ⟨c,0,none⟩=some (.int .i64 a)) (c1:w.cell? ⟨c,1,none⟩=some (.int .i64 ae)) (d0:w.cell? ⟨d,0,none⟩=some (.int .i64 b)) (d1:w.cell? ⟨d,1,none⟩=some (.int .i64 be)) (cx:w.cell? ⟨vb,i,none⟩=some (.slice ad n cap))
  (hc:Calls Tryz.prog 253 #[.slice ad n cap,.agg #[.int .i64 a,.int .i64 ae],.agg #[.int .i64 b,.int .i64 be]] w.drew fun e w'=>e = .returned (.bool false)/\Below w.drew.heap.size w.drew w') :
  Code.wp Tryz.prog Qav (Q5O fun act w'=>∃ (f g h j k l:Value) ,act=⟨(u0::u1::u2::u3::u4::u5::.pointer (some ⟨c,0,none⟩)::.pointer (some ⟨d,0,none⟩)::.pointer (some ⟨vb,i,none⟩)::u9::u10::u11::u12::u13::u14::u15::u16::u17::u18::u19::u20::u21::u22::u23::u24::u25::u26::u27::u28::u29::u30::u31::u32::u33::u34::u35::u36::u37::u38::u39::u40::u41::u42::.bool false::f::g::h::j::k::l::u50::u51::u52::u53::u54::u55::u56::u57::u58::u59::u60::u61::u62::u63::u64::u65::u66::u67::u68::u69::u70::u71::u72::u73::u74::u75::u76::u77::u78::u79::[]).toArray,[]⟩/\Below w.heap.size w w') ⟨(u0::u1::u2::u3::u4::u5::.pointer (some ⟨c,0,none⟩)::.pointer (some ⟨d,0,none⟩)::.pointer (some ⟨vb,i,none⟩)::u9::u10::u11::u12::u13::u14::u15::u16::u17::u18::u19::u20::u21::u22::u23::u24::u25::u26::u27::u28::u29::u30::u31::u32::u33::u34::u35::u36::u37::u38::u39::u40::u41::u42::u43::u44::u45::u46::u47::u48::u49::u50::u51::u52::u53::u54::u55::u56::u57::u58::u59::u60::u61::u62::u63::u64::u65::u66::u67::u68::u69::u70::u71::u72::u73::u74::u75::u76::u77::u78::u79::[]).toArray,[]⟩ w:=by
 conv=>arg 2;whnf
 have mixed:Tryz.prog.follows .mixedOrders=true:=by kernel_rfl
 have o:w.drew.cell? ⟨c,0,none⟩=some (.int .i64 a):=c0;have p:w.drew.cell? ⟨c,1,none⟩=some (.int .i64 ae):=c1;have q:w.drew.cell? ⟨d,0,none⟩=some (.int .i64 b):=d0;have r:w.drew.cell? ⟨d,1,none⟩=some (.int .i64 be):=d1;have s:w.drew.cell? ⟨vb,i,none⟩=some (.slice ad n cap):=cx;clear c0 c1 d0 d1 cx
 go_region_law (first
   |(go_simp;refine hc.mono ?_;rintro e W1 ⟨rfl,m⟩))
 all_goals
  dsimp only [Q5O];refine ⟨_,_,_,_,_,_,rfl,?_⟩;exact Nz (NF w) m
noncomputable def QaR:Code:=(G1 (Tryz.f213.body.getD .skip)).getD 13 .skip
set_option maxHeartbeats 8000000 in
set_option maxRecDepth 100000 in
theorem Tryz.links_r13 (vb i c n cap:Nat) (ad:oP Addr) (a ae b be p q:Int) (w:World) (ac:w.heap[c]? = some (.cells #[.int .i64 a,.int .i64 ae,.int .i64 b,.int .i64 be,.int .i64 p,.int .i64 q] 193 (0,0))) (cx:w.cell? ⟨vb,i,none⟩=some (.slice ad n cap))
  (hc:Calls Tryz.prog 254 #[.agg #[.int .i64 a,.int .i64 ae,.int .i64 b,.int .i64 be,.int .i64 p,.int .i64 q],.slice ad n cap] w.drew fun e w'=>e = .returned (.bool true)/\Below w.drew.heap.size w.drew w') :
  Code.wp Tryz.prog QaR (Q5O fun act w'=>∃ (d f g h j k:Value) ,act=⟨(u0::u1::u2::u3::u4::.pointer (some ⟨c,0,none⟩)::u6::u7::.pointer (some ⟨vb,i,none⟩)::u9::u10::u11::u12::u13::u14::u15::u16::u17::u18::u19::u20::u21::u22::u23::u24::u25::u26::u27::u28::u29::u30::u31::u32::u33::u34::u35::u36::u37::u38::u39::u40::u41::u42::u43::u44::u45::u46::u47::u48::u49::.bool false::d::f::g::h::j::k::u57::u58::u59::u60::u61::u62::u63::u64::u65::u66::u67::u68::u69::u70::u71::u72::u73::u74::u75::u76::u77::u78::u79::[]).toArray,[]⟩/\Below w.heap.size w w') ⟨(u0::u1::u2::u3::u4::.pointer (some ⟨c,0,none⟩)::u6::u7::.pointer (some ⟨vb,i,none⟩)::u9::u10::u11::u12::u13::u14::u15::u16::u17::u18::u19::u20::u21::u22::u23::u24::u25::u26::u27::u28::u29::u30::u31::u32::u33::u34::u35::u36::u37::u38::u39::u40::u41::u42::u43::u44::u45::u46::u47::u48::u49::u50::u51::u52::u53::u54::u55::u56::u57::u58::u59::u60::u61::u62::u63::u64::u65::u66::u67::u68::u69::u70::u71::u72::u73::u74::u75::u76::u77::u78::u79::[]).toArray,[]⟩ w:=by
 conv=>arg 2;whnf
 have mixed:Tryz.prog.follows .mixedOrders=true:=by kernel_rfl
 obtain ⟨m,o,r,s,t,u⟩:=six (w:=w.drew) ac;have v:w.drew.cell? ⟨vb,i,none⟩=some (.slice ad n cap):=cx;clear ac cx
 go_region_law (first
   |(go_simp;refine hc.mono ?_;rintro e W1 ⟨rfl,l⟩))
 all_goals
  dsimp only [Q5O];refine ⟨_,_,_,_,_,_,rfl,?_⟩;exact Nz (NF w) l
noncomputable def QaP:Code:=(G1 (Tryz.f213.body.getD .skip)).getD 14 .skip
set_option maxHeartbeats 8000000 in
set_option maxRecDepth 100000 in
theorem Tryz.links_r14 (vb i c n cap:Nat) (ad:oP Addr) (a ae b be p q:Int) (w:World) (ac:w.heap[c]? = some (.cells #[.int .i64 a,.int .i64 ae,.int .i64 b,.int .i64 be,.int .i64 p,.int .i64 q] 193 (0,0))) (cx:w.cell? ⟨vb,i,none⟩=some (.slice ad n cap))
  (hc:Calls Tryz.prog 254 #[.agg #[.int .i64 a,.int .i64 ae,.int .i64 b,.int .i64 be,.int .i64 p,.int .i64 q],.slice ad n cap] w.drew fun e w'=>e = .returned (.bool true)/\Below w.drew.heap.size w.drew w') :
  Code.wp Tryz.prog QaP (Q5O fun act w'=>∃ (d f g h j k:Value) ,act=⟨(u0::u1::u2::u3::u4::.pointer (some ⟨c,0,none⟩)::u6::u7::u8::.pointer (some ⟨vb,i,none⟩)::u10::u11::u12::u13::u14::u15::u16::u17::u18::u19::u20::u21::u22::u23::u24::u25::u26::u27::u28::u29::u30::u31::u32::u33::u34::u35::u36::u37::u38::u39::u40::u41::u42::u43::u44::u45::u46::u47::u48::u49::.bool false::u51::u52::u53::u54::u55::u56::d::f::g::h::j::k::u63::u64::u65::u66::u67::u68::u69::u70::u71::u72::u73::u74::u75::u76::u77::u78::u79::[]).toArray,[]⟩/\Below w.heap.size w w') ⟨(u0::u1::u2::u3::u4::.pointer (some ⟨c,0,none⟩)::u6::u7::u8::.pointer (some ⟨vb,i,none⟩)::u10::u11::u12::u13::u14::u15::u16::u17::u18::u19::u20::u21::u22::u23::u24::u25::u26::u27::u28::u29::u30::u31::u32::u33::u34::u35::u36::u37::u38::u39::u40::u41::u42::u43::u44::u45::u46::u47::u48::u49::u50::u51::u52::u53::u54::u55::u56::u57::u58::u59::u60::u61::u62::u63::u64::u65::u66::u67::u68::u69::u70::u71::u72::u73::u74::u75::u76::u77::u78::u79::[]).toArray,[]⟩ w:=by
 conv=>arg 2;whnf
 have mixed:Tryz.prog.follows .mixedOrders=true:=by kernel_rfl
 obtain ⟨m,o,r,s,t,u⟩:=six (w:=w.drew) ac;have v:w.drew.cell? ⟨vb,i,none⟩=some (.slice ad n cap):=cx;clear ac cx
 go_region_law (first
   |(go_simp;refine hc.mono ?_;rintro e W1 ⟨rfl,l⟩))
 all_goals
  dsimp only [Q5O];refine ⟨_,_,_,_,_,_,rfl,?_⟩;exact Nz (NF w) l
noncomputable def Qai:Code:=(G1 (Tryz.f213.body.getD .skip)).getD 16 .skip
set_option maxHeartbeats 8000000 in
set_option maxRecDepth 100000 in
theorem Tryz.links_r16 (B vb N i c cap:Nat) (ad:oP Addr) (a ae b be p q:Int) (hd:List Value) (ll:List LL) (l:LL) (w:World) (a2:w.heap[c]? = some (.cells #[.int .i64 a,.int .i64 ae,.int .i64 b,.int .i64 be,.int .i64 p,.int .i64 q] 193 (0,0)))
  (hN:NestK 25 193 6 w B (.slice (some ⟨vb,0,none⟩) N N) hd ll) (hx:hd[i]? = some (.slice ad l.length cap)) (hl:ll[i]? = some l) (am:l.length<=1000) (hB:B<=w.heap.size) (an:c≠vb) (ao:(Value.slice ad l.length cap).ownBlock≠some c) :
  Code.wp Tryz.prog Qai (Q5O fun act w'=>∃ (m n o r s t v x:Value) (xx:Value),act=⟨(u0::u1::u2::u3::u4::.pointer (some ⟨c,0,none⟩)::u6::u7::.pointer (some ⟨vb,i,none⟩)::u9::u10::u11::u12::u13::u14::u15::u16::u17::u18::u19::u20::u21::u22::u23::u24::u25::u26::u27::u28::u29::u30::u31::u32::u33::u34::u35::u36::u37::u38::u39::u40::u41::u42::u43::u44::u45::u46::u47::u48::u49::u50::u51::u52::u53::u54::u55::u56::u57::u58::u59::u60::u61::u62::m::n::o::r::s::t::v::x::u71::u72::u73::u74::u75::u76::u77::u78::u79::[]).toArray,[]⟩/\NestK 25 193 6 w' B (.slice (some ⟨vb,0,none⟩) N N) (hd.set i xx) (ll.set i (l++[[D.int .i64 a,.int .i64 ae,.int .i64 b,.int .i64 be,.int .i64 p,.int .i64 q]]))/\Grew w w' vb (.slice ad l.length cap) xx) ⟨(u0::u1::u2::u3::u4::.pointer (some ⟨c,0,none⟩)::u6::u7::.pointer (some ⟨vb,i,none⟩)::u9::u10::u11::u12::u13::u14::u15::u16::u17::u18::u19::u20::u21::u22::u23::u24::u25::u26::u27::u28::u29::u30::u31::u32::u33::u34::u35::u36::u37::u38::u39::u40::u41::u42::u43::u44::u45::u46::u47::u48::u49::u50::u51::u52::u53::u54::u55::u56::u57::u58::u59::u60::u61::u62::u63::u64::u65::u66::u67::u68::u69::u70::u71::u72::u73::u74::u75::u76::u77::u78::u79::[]).toArray,[]⟩ w:=by
 conv=>arg 2;whnf
 have mixed:Tryz.prog.follows .mixedOrders=true:=by kernel_rfl
 obtain ⟨y,hi,z⟩:=Qqo.1 (show (Tryz.prog.info? 193).map (fun i=>(i.zero,i.size,i.bytes))=some (some (.agg #[.int .i64 0,.int .i64 0,.int .i64 0,.int .i64 0,.int .i64 0,.int .i64 0]),6,48) by kernel_rfl);obtain ⟨hz,f⟩:=Prod.mk.inj z;obtain ⟨f,aa⟩:=Prod.mk.inj f;have az:=(hN.row.lt vb rfl).2;have a5:=hN.each _ _ _ hx hl;have ab:w.cell? ⟨vb,i,none⟩=some (.slice ad l.length cap):=by
  have:=hN.row.cells (g:=vb) rfl i _ hx;rwa [JJ,Qqx] at this
 have ax:(Value.slice ad l.length cap).ownBlock≠some vb:=fun e=>hN.outer _ _ _ hx e rfl
 obtain ⟨au,a1⟩:∃ au,w.drew.heap[vb]? = some (.cells au 25 (0,0)):=by
  rcases hN.row.2 with ⟨e,_⟩ | ⟨g,a7,au,e,_,hg,_⟩
  ·cases e
  ·cases e;exact ⟨au,hg⟩
 have q1:l.length+1<=maxLen:=by unfold maxLen;omega
 have q2:(l.length+1)*48<=140737488355328:=QnI
 have q3:∀ u∈[Value.int .i64 a,.int .i64 ae,.int .i64 b,.int .i64 be,.int .i64 p,.int .i64 q],u.oneCell'=true:=by simp [Value.oneCell']
 obtain ⟨y0,y1,y2,y3,y5,y6⟩:=six (w:=w.drew) a2;have y4:w.drew.cell? ⟨vb,i,none⟩=some (.slice ad l.length cap):=ab;have d:w.drew.grownBy (w.drew.alloc (.cells #[.int .i64 a,.int .i64 ae,.int .i64 b,.int .i64 be,.int .i64 p,.int .i64 q] 193)) none:=World.grownBy_alloc _ _ none;have aj:w.drew.ownsRow B 193 6 (.slice ad l.length cap) l.length (cellsOf l):=a5;have ak:(w.drew.alloc (.cells #[.int .i64 a,.int .i64 ae,.int .i64 b,.int .i64 be,.int .i64 p,.int .i64 q] 193)).ownsRow B 193 6 (.slice ad l.length cap) l.length (cellsOf l):=World.ownsRow.kept (w:=w.drew) aj d (Classical.em _);have al:∀ (j:Nat) (u:Value),[Value.int .i64 a,.int .i64 ae,.int .i64 b,.int .i64 be,.int .i64 p,.int .i64 q][j]? = some u->(w.drew.alloc (.cells #[.int .i64 a,.int .i64 ae,.int .i64 b,.int .i64 be,.int .i64 p,.int .i64 q] 193)).cell? ((⟨w.drew.heap.size,0,none⟩:Addr).add j)=some u:=World.news_of_block (heap_alloc_new _ _);have h:w.drew.heap.size<=(w.drew.alloc (.cells #[.int .i64 a,.int .i64 ae,.int .i64 b,.int .i64 be,.int .i64 p,.int .i64 q] 193)).heap.size:=d.size;have a3:B<=(w.drew.alloc (.cells #[.int .i64 a,.int .i64 ae,.int .i64 b,.int .i64 be,.int .i64 p,.int .i64 q] 193)).heap.size:=Nat.le_trans hB h;have ac:vb<w.drew.heap.size:=az;have aw:=(d.block vb ac (fun e=>by cases e)).trans a1;have k:=d.cell_far ⟨vb,i,none⟩ ac (fun e=>by cases e);have k:=k.trans y4;have a6:(1:Nat)*6=6:=rfl
 go_region_law (first
   |(refine step_append_lies (w.drew.alloc (.cells #[.int .i64 a,.int .i64 ae,.int .i64 b,.int .i64 be,.int .i64 p,.int .i64 q] 193)) (by rfl) _ _ 25 (by rfl) B 193 y (.agg #[.int .i64 0,.int .i64 0,.int .i64 0,.int .i64 0,.int .i64 0,.int .i64 0]) 6 48 Tryz.underlying25 hi hz f aa (by rfl) QnJ _ l.length (cellsOf l) (by rfl) ak ⟨w.drew.heap.size,0,none⟩ 1 1 [Value.int .i64 a,.int .i64 ae,.int .i64 b,.int .i64 be,.int .i64 p,.int .i64 q] (by rfl) rfl al q3 QnJ q1 q2 a3 _ rfl ?_;intro g c2 W2 ay ar hat bb;
     have rx:=(ar.cell_far ⟨vb,i,none⟩ (Qqm ac h) (fun e=>ax e.symm)).trans k;
     have rf:=frozen_of_row W2 vb i au 25 ((ar.block vb (Qqm ac h) (fun e=>ax e.symm)).trans aw)))
 all_goals
  dsimp only [Q5O];have E:=Q3n (w:=w.drew) (row:=[D.int .i64 a,.int .i64 ae,.int .i64 b,.int .i64 be,.int .i64 p,.int .i64 q]) ⟨hN.row,hN.each,hN.outer,hN.apart⟩ hx hl rfl d ay ar hat;exact ⟨_,_,_,_,_,_,_,_,_,rfl,E.1,⟨E.2.own,E.2.os,E.2.tape,E.2.output,E.2.size,E.2.block⟩⟩
noncomputable def Qb2:Code:=(G1 (Tryz.f213.body.getD .skip)).getD 17 .skip
set_option maxHeartbeats 8000000 in
set_option maxRecDepth 100000 in
theorem Tryz.links_r17 (B vb N i c cap:Nat) (ad:oP Addr) (a ae b be p q:Int) (hd:List Value) (ll:List LL) (l:LL) (w:World) (a2:w.heap[c]? = some (.cells #[.int .i64 a,.int .i64 ae,.int .i64 b,.int .i64 be,.int .i64 p,.int .i64 q] 193 (0,0)))
  (hN:NestK 25 193 6 w B (.slice (some ⟨vb,0,none⟩) N N) hd ll) (hx:hd[i]? = some (.slice ad l.length cap)) (hl:ll[i]? = some l) (am:l.length<=1000) (hB:B<=w.heap.size) (an:c≠vb) (ao:(Value.slice ad l.length cap).ownBlock≠some c) :
  Code.wp Tryz.prog Qb2 (Q5O fun act w'=>∃ (m n o r s t v x:Value) (xx:Value),act=⟨(u0::u1::u2::u3::u4::.pointer (some ⟨c,0,none⟩)::u6::u7::u8::.pointer (some ⟨vb,i,none⟩)::u10::u11::u12::u13::u14::u15::u16::u17::u18::u19::u20::u21::u22::u23::u24::u25::u26::u27::u28::u29::u30::u31::u32::u33::u34::u35::u36::u37::u38::u39::u40::u41::u42::u43::u44::u45::u46::u47::u48::u49::u50::u51::u52::u53::u54::u55::u56::u57::u58::u59::u60::u61::u62::u63::u64::u65::u66::u67::u68::u69::u70::m::n::o::r::s::t::v::x::u79::[]).toArray,[]⟩/\NestK 25 193 6 w' B (.slice (some ⟨vb,0,none⟩) N N) (hd.set i xx) (ll.set i (l++[[D.int .i64 a,.int .i64 ae,.int .i64 b,.int .i64 be,.int .i64 p,.int .i64 q]]))/\Grew w w' vb (.slice ad l.length cap) xx) ⟨(u0::u1::u2::u3::u4::.pointer (some ⟨c,0,none⟩)::u6::u7::u8::.pointer (some ⟨vb,i,none⟩)::u10::u11::u12::u13::u14::u15::u16::u17::u18::u19::u20::u21::u22::u23::u24::u25::u26::u27::u28::u29::u30::u31::u32::u33::u34::u35::u36::u37::u38::u39::u40::u41::u42::u43::u44::u45::u46::u47::u48::u49::u50::u51::u52::u53::u54::u55::u56::u57::u58::u59::u60::u61::u62::u63::u64::u65::u66::u67::u68::u69::u70::u71::u72::u73::u74::u75::u76::u77::u78::u79::[]).toArray,[]⟩ w:=by
 conv=>arg 2;whnf
 have mixed:Tryz.prog.follows .mixedOrders=true:=by kernel_rfl
 obtain ⟨y,hi,z⟩:=Qqo.1 (show (Tryz.prog.info? 193).map (fun i=>(i.zero,i.size,i.bytes))=some (some (.agg #[.int .i64 0,.int .i64 0,.int .i64 0,.int .i64 0,.int .i64 0,.int .i64 0]),6,48) by kernel_rfl);obtain ⟨hz,f⟩:=Prod.mk.inj z;obtain ⟨f,aa⟩:=Prod.mk.inj f;have az:=(hN.row.lt vb rfl).2;have a5:=hN.each _ _ _ hx hl;have ab:w.cell? ⟨vb,i,none⟩=some (.slice ad l.length cap):=by
  have:=hN.row.cells (g:=vb) rfl i _ hx;rwa [JJ,Qqx] at this
 have ax:(Value.slice ad l.length cap).ownBlock≠some vb:=fun e=>hN.outer _ _ _ hx e rfl
 obtain ⟨au,a1⟩:∃ au,w.drew.heap[vb]? = some (.cells au 25 (0,0)):=by
  rcases hN.row.2 with ⟨e,_⟩ | ⟨g,a7,au,e,_,hg,_⟩
  ·cases e
  ·cases e;exact ⟨au,hg⟩
 have q1:l.length+1<=maxLen:=by unfold maxLen;omega
 have q2:(l.length+1)*48<=140737488355328:=QnI
 have q3:∀ u∈[Value.int .i64 a,.int .i64 ae,.int .i64 b,.int .i64 be,.int .i64 p,.int .i64 q],u.oneCell'=true:=by simp [Value.oneCell']
 obtain ⟨y0,y1,y2,y3,y5,y6⟩:=six (w:=w.drew) a2;have y4:w.drew.cell? ⟨vb,i,none⟩=some (.slice ad l.length cap):=ab;have d:w.drew.grownBy (w.drew.alloc (.cells #[.int .i64 a,.int .i64 ae,.int .i64 b,.int .i64 be,.int .i64 p,.int .i64 q] 193)) none:=World.grownBy_alloc _ _ none;have aj:w.drew.ownsRow B 193 6 (.slice ad l.length cap) l.length (cellsOf l):=a5;have ak:(w.drew.alloc (.cells #[.int .i64 a,.int .i64 ae,.int .i64 b,.int .i64 be,.int .i64 p,.int .i64 q] 193)).ownsRow B 193 6 (.slice ad l.length cap) l.length (cellsOf l):=World.ownsRow.kept (w:=w.drew) aj d (Classical.em _);have al:∀ (j:Nat) (u:Value),[Value.int .i64 a,.int .i64 ae,.int .i64 b,.int .i64 be,.int .i64 p,.int .i64 q][j]? = some u->(w.drew.alloc (.cells #[.int .i64 a,.int .i64 ae,.int .i64 b,.int .i64 be,.int .i64 p,.int .i64 q] 193)).cell? ((⟨w.drew.heap.size,0,none⟩:Addr).add j)=some u:=World.news_of_block (heap_alloc_new _ _);have h:w.drew.heap.size<=(w.drew.alloc (.cells #[.int .i64 a,.int .i64 ae,.int .i64 b,.int .i64 be,.int .i64 p,.int .i64 q] 193)).heap.size:=d.size;have a3:B<=(w.drew.alloc (.cells #[.int .i64 a,.int .i64 ae,.int .i64 b,.int .i64 be,.int .i64 p,.int .i64 q] 193)).heap.size:=Nat.le_trans hB h;have ac:vb<w.drew.heap.size:=az;have aw:=(d.block vb ac (fun e=>by cases e)).trans a1;have k:=d.cell_far ⟨vb,i,none⟩ ac (fun e=>by cases e);have k:=k.trans y4;have a6:(1:Nat)*6=6:=rfl
 go_region_law (first
   |(refine step_append_lies (w.drew.alloc (.cells #[.int .i64 a,.int .i64 ae,.int .i64 b,.int .i64 be,.int .i64 p,.int .i64 q] 193)) (by rfl) _ _ 25 (by rfl) B 193 y (.agg #[.int .i64 0,.int .i64 0,.int .i64 0,.int .i64 0,.int .i64 0,.int .i64 0]) 6 48 Tryz.underlying25 hi hz f aa (by rfl) QnJ _ l.length (cellsOf l) (by rfl) ak ⟨w.drew.heap.size,0,none⟩ 1 1 [Value.int .i64 a,.int .i64 ae,.int .i64 b,.int .i64 be,.int .i64 p,.int .i64 q] (by rfl) rfl al q3 QnJ q1 q2 a3 _ rfl ?_;intro g c2 W2 ay ar hat bb;
     have rx:=(ar.cell_far ⟨vb,i,none⟩ (Qqm ac h) (fun e=>ax e.symm)).trans k;
     have rf:=frozen_of_row W2 vb i au 25 ((ar.block vb (Qqm ac h) (fun e=>ax e.symm)).trans aw)))
 all_goals
  dsimp only [Q5O];have E:=Q3n (w:=w.drew) (row:=[D.int .i64 a,.int .i64 ae,.int .i64 b,.int .i64 be,.int .i64 p,.int .i64 q]) ⟨hN.row,hN.each,hN.outer,hN.apart⟩ hx hl rfl d ay ar hat;exact ⟨_,_,_,_,_,_,_,_,_,rfl,E.1,⟨E.2.own,E.2.os,E.2.tape,E.2.output,E.2.size,E.2.block⟩⟩
end
theorem Q76 {N:Nat} {l0 l1 l2 c:LL} {a ae b be p q:Int} (h:Y6 N l0 l1 l2 c a ae b be p q some=some true) {S:Nat->Prop} {w:World} (hS:∀ b,S b->b<w.heap.size) {v0 d f g:Value}
  (i:Rd S w v0 (.sl 1 l0)) (j:Rd S w d (.sl 1 l1)) (h2:Rd S w f (.sl 5 l2)) (k:Rd S w g (.sl 6 c)) :
  Calls Tryz.prog 250 #[.agg #[v0,d,f,g],.agg #[.int .i64 a,.int .i64 ae,.int .i64 b,.int .i64 be,.int .i64 p,.int .i64 q]] w fun e w'=>e = .returned (.bool true)/\RowKit.Below w.heap.size w w':=by
 have he:(Ha N).E Dl 0 true [.ag ([D.sl 1 l0,.sl 1 l1,.sl 5 l2,.sl 6 c].map .d),.ag ([D.int .i64 a,.int .i64 ae,.int .i64 b,.int .i64 be,.int .i64 p,.int .i64 q].map .d)] (fun _=>none) some=some ⟨.d (.bool true),[],[]⟩:=by
  show gb true (Y6 N l0 l1 l2 c a ae b be p q some) false (fun r=>(some ⟨.d (D.bool r),[],[]⟩:oP Dl))=_;rw [h];rfl
 exact Pz (Y2 ((Ha N).ok) he) hS (KV (RdLs.agg (.cons i (.cons j (.cons h2 (.cons k .nil))))) (RdLs.agg (.cons (.int _ _) (.cons (.int _ _) (.cons (.int _ _) (.cons (.int _ _) (.cons (.int _ _) (.cons (.int _ _) .nil))))))))
theorem Q2f {N:Nat} {x:LL} {a ae b be:Int} (h:Ga N x a ae b be some=some false) {S:Nat->Prop} {w:World} (hS:∀ b,S b->b<w.heap.size) {v:Value} (hv:Rd S w v (.sl 6 x)) :
  Calls Tryz.prog 253 #[v,.agg #[.int .i64 a,.int .i64 ae],.agg #[.int .i64 b,.int .i64 be]] w fun e w'=>e = .returned (.bool false)/\RowKit.Below w.heap.size w w':=by
 have he:(RM N).E Dl 0 true [.d (.sl 6 x),.ag ([D.int .i64 a,.int .i64 ae].map .d),.ag ([D.int .i64 b,.int .i64 be].map .d)] (fun _=>none) some=some ⟨.d (.bool false),[],[]⟩:=by
  show gb true (Ga N x a ae b be some) false (fun r=>(some ⟨.d (D.bool r),[],[]⟩:oP Dl))=_;rw [h];rfl
 exact Pz (Y2 ((RM N).ok) he) hS (QcH (.d _ _ hv) (RdLs.agg (.cons (.int _ _) (.cons (.int _ _) .nil))) (RdLs.agg (.cons (.int _ _) (.cons (.int _ _) .nil))))
theorem Q0i {N:Nat} {x:LL} {a ae b be p q:Int} (h:Jz N a ae b be p q x some=some true) {S:Nat->Prop} {w:World} (hS:∀ b,S b->b<w.heap.size) {v:Value} (hv:Rd S w v (.sl 6 x)) :
  Calls Tryz.prog 254 #[.agg #[.int .i64 a,.int .i64 ae,.int .i64 b,.int .i64 be,.int .i64 p,.int .i64 q],v] w fun e w'=>e = .returned (.bool true)/\RowKit.Below w.heap.size w w':=by
 have he:(Fe N).E Dl 0 true [.ag ([D.int .i64 a,.int .i64 ae,.int .i64 b,.int .i64 be,.int .i64 p,.int .i64 q].map .d),.d (.sl 6 x)] (fun _=>none) some=some ⟨.d (.bool true),[],[]⟩:=by
  show gb true (Jz N a ae b be p q x some) false (fun r=>(some ⟨.d (D.bool r),[],[]⟩:oP Dl))=_;rw [h];rfl
 exact Pz (Y2 ((Fe N).ok) he) hS (KV (RdLs.agg (.cons (.int _ _) (.cons (.int _ _) (.cons (.int _ _) (.cons (.int _ _) (.cons (.int _ _) (.cons (.int _ _) .nil))))))) (.d _ _ hv))
theorem Q1m {N:Nat} {l0 l1 l2 d:LL} {st:List LL} {l:LL} {j:Nat} (hj:j<l.length) (h:Km N l0 l1 l2 d st (l.drop j)=true) :
  ∃ a ae b be p q x y,l[j]? = some [D.int .i64 a,.int .i64 ae,.int .i64 b,.int .i64 be,.int .i64 p,.int .i64 q]/\((0<=a/\a<l2.length)/\(0<=ae/\ae<=1)/\(0<=b/\b<l2.length)/\(0<=be/\be<=1)) /\
   Y6 N l0 l1 l2 d a ae b be p q some=some true/\(2*a+ae).toNat≠(2*b+be).toNat/\st[(2*a+ae).toNat]? = some x/\st[(2*b+be).toNat]? = some y /\
   Ga N x a ae b be some=some false/\Jz N a ae b be p q x some=some true/\Jz N a ae b be p q y some=some true/\x.length<=1/\y.length<=1 /\
   Km N l0 l1 l2 d ((st.set (2*a+ae).toNat (x++[[D.int .i64 a,.int .i64 ae,.int .i64 b,.int .i64 be,.int .i64 p,.int .i64 q]])).set (2*b+be).toNat (y++[[D.int .i64 a,.int .i64 ae,.int .i64 b,.int .i64 be,.int .i64 p,.int .i64 q]])) (l.drop (j+1))=true:=by
 rw [List.drop_eq_getElem_cons hj] at h;unfold Km at h;split at h
 ·rename_i a ae b be p q e;simp only [Qqn,Bool.not_eq_true',decide_eq_true_eq] at h;obtain ⟨⟨⟨g1,f⟩,g⟩,c⟩:=h;split at c
  ·rename_i x y hx hy;simp only [Qqn] at c;obtain ⟨⟨⟨⟨⟨k1,i⟩,k⟩,m⟩,n⟩,k6⟩:=c;refine ⟨a,ae,b,be,p,q,x,y,by rw [Qqt hj,e],?_,Nb f,?_,hx,hy,Q8Z k1,Nb i,Nb k,Qql m,Qql n,by rw [<- e];exact k6⟩
   ·obtain ⟨⟨⟨⟨⟨⟨⟨o,r⟩,s⟩,t⟩,u⟩,v⟩,z⟩,z8⟩:=g1;exact ⟨⟨o,r⟩,⟨s,t⟩,⟨u,v⟩,⟨z,z8⟩⟩
   ·exact Nat.ne_of_beq_eq_false g
  ·cases c
 ·cases h
theorem Q7i {w a:World} {B N vb:Nat} (h:a.ownsRow B 25 1 (.slice (some ⟨vb,0,none⟩) N N) N (List.replicate N (.slice none 0 0))):NestK 25 193 6 a B (.slice (some ⟨vb,0,none⟩) N N) (List.replicate N (.slice none 0 0)) (List.replicate N []):=by
 refine ⟨by simpa using h,fun i x l hx hl=>?_,fun i x b hx hb=>?_,fun i j x y b hx hy ac al=>?_⟩
 ·have e1:=Qqi hx;have e2:=Qqi hl;obtain ⟨_,rfl⟩:=Qqr.1 e1;obtain ⟨_,rfl⟩:=Qqr.1 e2;exact World.ownsRow_nil a B 193 6
 ·obtain ⟨_,rfl⟩:=Qqr.1 (Qqi hx);cases hb
 ·obtain ⟨_,rfl⟩:=Qqr.1 (Qqi hx);cases ac
theorem Q8W {w:World} {B i:Nat} {v:Value} {hd:List Value} {ll:List LL} {l:LL} (h:NestK 25 193 6 w B v hd ll) (hl:ll[i]? = some l):∃ (ad:oP Addr) (cap:Nat),hd[i]? = some (.slice ad l.length cap):=by
 have hi:i<hd.length:=by rw [h.len];exact (Qqh.1 hl).1
 have hx:=Qqt hi;rcases (h.each i hd[i] l hx hl).2 with ⟨e,a⟩ | ⟨g,cap,aj,e,_⟩
 ·exact ⟨none,0,by rw [hx,e,a]⟩
 ·exact ⟨some ⟨g,0,none⟩,cap,by rw [hx,e]⟩
theorem Q5c {w:World} {B i:Nat} {v x:Value} {hd:List Value} {ll:List LL} {l:LL} (h:NestK 25 193 6 w B v hd ll) (hx:hd[i]? = some x) (hl:ll[i]? = some l) (ac:∀ l∈ll,∀ r∈l,EV 6 r=true) :
  (∀ b,x.ownBlock=some b->b<w.drew.heap.size)/\Rd (fun b=>x.ownBlock=some b) w.drew x (.sl 6 l):=
 ⟨fun b hb=>(h.blk hx hb).2,Rd.mono (w:=w) (w':=w.drew) (fun _ h=>h) (fun _ _=>rfl) (Qg5 (w:=w) (h.each i x l hx hl) (ac l (Qqi hl)) (fun _ h=>h))⟩
theorem B6 {w:World} {B vb N i:Nat} {x:Value} {hd:List Value} {ll:List LL} (h:NestK 25 193 6 w B (.slice (some ⟨vb,0,none⟩) N N) hd ll) (hx:hd[i]? = some x):w.cell? ⟨vb,i,none⟩=some x:=by
 have:=h.row.cells (g:=vb) rfl i _ hx;rwa [JJ,Qqx] at this
theorem Q7P {ll:List LL} {i:Nat} {x:LL} {row:List D} (h:∀ l∈ll,∀ r∈l,EV 6 r=true) (hx:ll[i]? = some x) (hr:EV 6 row=true):∀ l∈ll.set i (x++[row]),∀ r∈l,EV 6 r=true:=by
 intro l hl r ac;rcases List.mem_or_eq_of_mem_set hl with a | rfl
 ·exact h l a r ac
 ·rcases List.mem_append.1 ac with a | a
  ·exact h x (Qqi hx) r a
  ·simp at a;subst a;exact hr
theorem AY {w0 w w':World} {n vb:Nat} {x x':Value} (h:Below n w0 w) (hg:Grew w w' vb x x') (hn:n<=w.heap.size) (hv:n<=vb) (hx:∀ c,x.ownBlock=some c->n<=c):Below n w0 w':=
 ⟨hg.os.trans h.os,hg.tape.trans h.tape,hg.output.trans h.output,Nat.le_trans h.size hg.size,fun k hk=>(hg.block k QnI QnI (fun e=>by have:=hx k e;omega)).trans (h.block k hk)⟩
theorem Q9X {a ae b be:Int} (h:¬ (a=b/\ae=be)) (w:World):(binOp .eql 323 (.agg #[.int .i64 a,.int .i64 ae]) (.agg #[.int .i64 b,.int .i64 be])).run Tryz.prog w = .ok (.bool false) w:=by
 go_simp
 exact fun e1 e2=>h ⟨e1,e2⟩
set_option maxHeartbeats 16000000 in
set_option maxRecDepth 100000 in
theorem Tryz.links_calls {N:Nat} (S:Nat->Prop) (w:World) (hS:∀ b,S b->b<w.heap.size) (l0 l1 l2 d:LL) (v0 v1 v2 v3:Value) (h0:Rd S w v0 (.sl 1 l0)) (h1:Rd S w v1 (.sl 1 l1)) (h2:Rd S w v2 (.sl 5 l2)) (h3:Rd S w v3 (.sl 6 d))
  (m2:l2.length<=96) (m3:d.length<=192) (c8:Km N l0 l1 l2 d (List.replicate (2*l2.length) []) d=true) :
  Calls Tryz.prog 213 #[.agg #[v0,v1,v2,v3]] w fun e w'=>e = .returned (.int .i64 0)/\Below w.heap.size w w':=by
 obtain ⟨s,t,rfl⟩:=Kv h0;obtain ⟨u,v,rfl⟩:=Kv h1;obtain ⟨m,n,rfl⟩:=Kv h2;obtain ⟨z,o,rfl⟩:=Kv h3;obtain ⟨i0,hi,ce⟩:=Qqo.1 (show (Tryz.prog.info? 25).map (fun i=>(i.zero,i.size,i.bytes))=some (some (.slice none 0 0),1,24) by kernel_rfl);obtain ⟨hz,aj⟩:=Prod.mk.inj ce;obtain ⟨aj,cf⟩:=Prod.mk.inj aj;have d2:∀ w:World,∃ w',(Instr.makeSlice 320 (.int .i64 (2*(l2.length:Int))) (.int .i64 (2*(l2.length:Int)))).run Tryz.prog w = .ok (.slice (some ⟨w.heap.size,0,none⟩) (2*l2.length) (2*l2.length)) w' /\
   w'.ownsRow w.heap.size 25 1 (.slice (some ⟨w.heap.size,0,none⟩) (2*l2.length) (2*l2.length)) (2*l2.length) (List.replicate (2*l2.length) (.slice none 0 0))/\w.grownBy w' none:=by
  intro w;obtain ⟨w',r1,r2,r3⟩:=run_make_full w w.heap.size 320 25 i0 (.slice none 0 0) 1 Tryz.underlying320 hi hz aj .i64 .i64 (2*l2.length) (by rw [cf];omega) (by unfold maxLen;omega) (Qqw _);refine ⟨w',by rw [<- r1];simp,?_,r3⟩;have e:(madeCells (Value.slice none 0 0).cells (2*l2.length*1)).toList=List.replicate (2*l2.length) (.slice none 0 0):=by
   apply List.ext_getElem
   ·simp [size_madeCells]
   ·intro i h1 h2;simp [madeCells,Value.cells,Nat.mod_one]
  rw [<- e];exact r2
 have f7:wrap64 (2*(l2.length:Int))=2*(l2.length:Int):=by unfold wrap64;omega
 have bk:(w.alloc (.cells #[.slice s l0.length t,.slice u l1.length v,.slice m l2.length n,.slice z d.length o] 27)).heap[w.heap.size]? = some (.cells #[.slice s l0.length t,.slice u l1.length v,.slice m l2.length n,.slice z d.length o] 27 (0,0)):=heap_alloc_new w _;have a5:Below w.heap.size w (w.alloc (.cells #[.slice s l0.length t,.slice u l1.length v,.slice m l2.length n,.slice z d.length o] 27)):=WS (Below.refl _ _) (Qqw _) _;have bc:(w.alloc (.cells #[.slice s l0.length t,.slice u l1.length v,.slice m l2.length n,.slice z d.length o] 27)).heap.size=w.heap.size+1:=by simp
 obtain ⟨w2,b6,bj,ao⟩:=d2 (w.alloc (.cells #[.slice s l0.length t,.slice u l1.length v,.slice m l2.length n,.slice z d.length o] 27));have a1:=(ao.block w.heap.size QnK QnK).trans bk;have ay:Below w.heap.size w w2:=⟨ao.os.trans a5.os,ao.tape.trans a5.tape,ao.output.trans a5.output,Nat.le_trans a5.size ao.size,fun b hb=>(ao.block b QnI QnK).trans (a5.block b hb)⟩;have ei:=ao.size;rw [bc] at b6 bj ei;have c7:=Q7i (w:=w) bj;clear d2 ao bj;have y2:(w.alloc (.cells #[.slice s l0.length t,.slice u l1.length v,.slice m l2.length n,.slice z d.length o] 27)).cell? ⟨w.heap.size,2,none⟩=some (.slice m l2.length n):=by rw [Qqg bk];rfl
 have z3:w2.cell? ⟨w.heap.size,3,none⟩=some (.slice z d.length o):=by rw [Qqg a1];rfl
 go_enter Tryz.func213,Tryz.ntmps213
 go_wp2
 clear b6 bk y2 z3 a5 bc;generalize en:w.heap.size=H0 at *
 go_loopw [18] (fun i wr=>∃ (j:Nat) (hd:List Value) (ll:List LL),j<=d.length/\i = .int .i64 j/\NestK 25 193 6 wr (H0+1) (.slice (some ⟨H0+1,0,none⟩) (2*l2.length) (2*l2.length)) hd ll/\ll.length=2*l2.length /\
   Km N l0 l1 l2 d ll (d.drop j)=true/\(∀ l∈ll,∀ r∈l,EV 6 r=true)/\wr.heap[H0]? = some (.cells #[.slice s l0.length t,.slice u l1.length v,.slice m l2.length n,.slice z d.length o] 27 (0,0))/\Below H0 w wr)
  (fun i _=>d.length-(intOf i).toNat)
 case atStart=>
  refine ⟨0,_,_,Nat.zero_le _,rfl,c7,by simp,by simpa using c8,fun l hl r hr=>?_,a1,ay⟩;obtain ⟨_,rfl⟩:=Qqr.1 hl;cases hr
 case round=>
  obtain ⟨j,hd,ll,hj,rfl,hN,cy,ea,a2,dg,hF⟩:=hrel;clear c7 c8 a1 ay;by_cases d8:j<d.length
  ·have fe:((j:Int)<(d.length:Int)):=QnI
   obtain ⟨a,ae,b,be,p,q,x,y,ek,⟨⟨cj,di⟩,⟨ck,cm⟩,⟨cn,dj⟩,⟨co,cp⟩⟩,b3,b9,hx,hy,cc,cq,cr,fx,gh,cu⟩:=Q1m d8 ea;have ed:∀ c,c<H0->wr.heap[c]? = w.heap[c]?:=fun c hc=>hF.block c hc
   have gu:∀ c,S c->c<wr.heap.size:=fun c hc=>by have:=hS c hc;have:=hF.size;omega
   have bg:=Rd.keep (w':=wr) h3 hS ed;obtain ⟨a3,rfl,_,_,ak⟩:=Q9t bg ek;obtain ⟨u0,x0,q0⟩:=ak 0 _ rfl;obtain ⟨u1,x1,q1⟩:=ak 1 _ rfl;obtain ⟨fz,x2,q2⟩:=ak 2 _ rfl;obtain ⟨gk,x3,q3⟩:=ak 3 _ rfl;obtain ⟨gc,x4,q4⟩:=ak 4 _ rfl;obtain ⟨f5,x5,q5⟩:=ak 5 _ rfl;rw [SY q0,Nat.add_zero] at x0;rw [SY q1,Hu _ _ _ QnJ] at x1;rw [SY q2,Hu _ _ _ QnJ] at x2;rw [SY q3,Hu _ _ _ QnJ] at x3;rw [SY q4,Hu _ _ _ QnJ] at x4;rw [SY q5,Hu _ _ _ QnJ] at x5;clear ak q0 q1 q2 q3 q4 q5 bg;have dn:H0+1<=wr.heap.size:=(Qqk.1 dg).1;have gq:H0+1<wr.heap.size:=(hN.row.lt (H0+1) rfl).2;obtain ⟨bm,bo,a7⟩:=Q8W hN hx;obtain ⟨b4,b2,b0⟩:=Q8W hN hy;have a4:∀ c,(Value.slice bm x.length bo).ownBlock=some c->H0+1<=c/\c<wr.heap.size:=fun c hc=>hN.blk a7 hc
   have bi:∀ c,(Value.slice b4 y.length b2).ownBlock=some c->H0+1<=c/\c<wr.heap.size:=fun c hc=>hN.blk b0 hc
   have bn:wr.grownBy (wr.alloc (.cells #[.int .i64 a,.int .i64 ae,.int .i64 b,.int .i64 be,.int .i64 p,.int .i64 q] 193)) none:=World.grownBy_alloc wr _ none;have al:(wr.alloc (.cells #[.int .i64 a,.int .i64 ae,.int .i64 b,.int .i64 be,.int .i64 p,.int .i64 q] 193)).heap[wr.heap.size]? = some (.cells #[.int .i64 a,.int .i64 ae,.int .i64 b,.int .i64 be,.int .i64 p,.int .i64 q] 193 (0,0)):=heap_alloc_new wr _;have d5:=JY hN bn;have cw:=WS hF QnI (.cells #[.int .i64 a,.int .i64 ae,.int .i64 b,.int .i64 be,.int .i64 p,.int .i64 q] 193);have aa:=(bn.block H0 QnI QnK).trans dg;have dp:(wr.alloc (.cells #[.int .i64 a,.int .i64 ae,.int .i64 b,.int .i64 be,.int .i64 p,.int .i64 q] 193)).heap.size=wr.heap.size+1:=by simp
   generalize em:wr.alloc (.cells #[.int .i64 a,.int .i64 ae,.int .i64 b,.int .i64 be,.int .i64 p,.int .i64 q] 193)=W1 at *
   generalize dq:wr.heap.size=f at *
   have ab:∀ c,c<H0->W1.heap[c]? = w.heap[c]?:=fun c hc=>cw.block c hc
   have b7:∀ c,S c->c<W1.heap.size:=fun c hc=>by have:=hS c hc;omega
   have k0:=Rd.keep (w':=W1) h0 hS ab;have k1:=Rd.keep (w':=W1) h1 hS ab;have k2:=Rd.keep (w':=W1) h2 hS ab;have k3:=Rd.keep (w':=W1) h3 hS ab;have z0:W1.cell? ⟨H0,0,none⟩=some (.slice s l0.length t):=by rw [Qqg aa];rfl
   have z1:W1.cell? ⟨H0,1,none⟩=some (.slice u l1.length v):=by rw [Qqg aa];rfl
   have z2:W1.cell? ⟨H0,2,none⟩=some (.slice m l2.length n):=by rw [Qqg aa];rfl
   have z3:W1.cell? ⟨H0,3,none⟩=some (.slice (some a3) d.length o):=by rw [Qqg aa];rfl
   obtain ⟨c0,c1,c2,c3,c4,c5⟩:=six al
   go_wp2_with (go_at_call 250;refine (Q76 b3 b7 k0 k1 k2 k3).mono ?_)
   rintro e W2 ⟨rfl,ay⟩;have aq:=(ay.block f QnI).trans al;have bq:=(ay.block H0 QnI).trans aa;have da:=JY d5 (ZP ay);have d6:=UX cw QnI ay;have dr:=ay.size;clear c0 c1 c2 c3 c4 c5 z0 z1 z2 z3 k0 k1 k2 k3 ab b7 al aa d5 cw;obtain ⟨c0,c1,c2,c3,c4,c5⟩:=six aq
   go_wp2_with (go_at_call 251;refine (Tryz.ends_calls W2 a ae b be p q).mono ?_)
   rintro e W3 ⟨rfl,bb⟩
   go_wp2
   clear c0 c1 c2 c3 c4 c5;have ds:=bb.size;have ac:W3.grownBy ((W3.alloc (.cells #[.int .i64 a,.int .i64 ae] 323)).alloc (.cells #[.int .i64 b,.int .i64 be] 323)) none:=⟨rfl,rfl,rfl,by simp;omega,fun k hk _=>by rw [Qqu _ _ _ QnL,Qqu _ _ _ hk]⟩;have c6:=WS (WS (UX d6 QnI bb) QnI (.cells #[.int .i64 a,.int .i64 ae] 323)) QnI (.cells #[.int .i64 b,.int .i64 be] 323);have br:=(ac.block f QnI QnK).trans ((bb.block f QnI).trans aq);have bt:=(ac.block H0 QnI QnK).trans ((bb.block H0 QnI).trans bq);have c9:=JY (JY da (ZP bb)) ac;have ad:((W3.alloc (.cells #[.int .i64 a,.int .i64 ae] 323)).alloc (.cells #[.int .i64 b,.int .i64 be] 323)).heap[W3.heap.size]? = some (.cells #[.int .i64 a,.int .i64 ae] 323 (0,0)):=by
    rw [Qqu _ _ _ QnK];exact heap_alloc_new _ _
   have ag:((W3.alloc (.cells #[.int .i64 a,.int .i64 ae] 323)).alloc (.cells #[.int .i64 b,.int .i64 be] 323)).heap[W3.heap.size+1]? = some (.cells #[.int .i64 b,.int .i64 be] 323 (0,0)):=by
    have:=heap_alloc_new (W3.alloc (.cells #[.int .i64 a,.int .i64 ae] 323)) (.cells #[.int .i64 b,.int .i64 be] 323);simpa using this
   have dt:((W3.alloc (.cells #[.int .i64 a,.int .i64 ae] 323)).alloc (.cells #[.int .i64 b,.int .i64 be] 323)).heap.size=W3.heap.size+2:=by simp
   clear ac aq bq da d6;generalize ee:(W3.alloc (.cells #[.int .i64 a,.int .i64 ae] 323)).alloc (.cells #[.int .i64 b,.int .i64 be] 323)=W4 at *
   generalize e3:W3.heap.size=g at *
   have fg:f<W2.heap.size:=QnI
   clear ee em;have c0:W4.cell? ⟨g,0,none⟩=some (.int .i64 a):=by rw [Qqg ad];rfl
   have c1:W4.cell? ⟨g,1,none⟩=some (.int .i64 ae):=by rw [Qqg ad];rfl
   have d0:W4.cell? ⟨g+1,0,none⟩=some (.int .i64 b):=by rw [Qqg ag];rfl
   have d1:W4.cell? ⟨g+1,1,none⟩=some (.int .i64 be):=by rw [Qqg ag];rfl
   refine Code.wp_mono ?_ (Tryz.links_r8 (H0+1) (2*l2.length) g (g+1) a ae b be W4 c0 c1 d0 d1 cj QnI ck cm cn QnI co cp QnI QnI);clear c0 c1 d0 d1;rintro e act W5 h;cases e with
   |normal=>
    obtain ⟨_,_,_,_,_,_,_,_,rfl,az⟩:=h;have fp:=az.size;have cx:=UX c6 QnI az;have bu:=(az.block f QnI).trans br;have bv:=(az.block H0 QnI).trans bt;have bl:=JY c9 (ZP az);have ar:=(az.block g QnI).trans ad;have au:=(az.block (g+1) QnI).trans ag;clear c6 br bt c9 ad ag az;have e6:=Q9X (a:=a) (ae:=ae) (b:=b) (be:=be) (fun h=>b9 (by rw [h.1,h.2]));generalize fw:(2*a+ae).toNat=ia at *
    generalize gf:(2*b+be).toNat=ib at *
    have c0:W5.cell? ⟨g,0,none⟩=some (.int .i64 a):=by rw [Qqg ar];rfl
    have c1:W5.cell? ⟨g,1,none⟩=some (.int .i64 ae):=by rw [Qqg ar];rfl
    have d0:W5.cell? ⟨g+1,0,none⟩=some (.int .i64 b):=by rw [Qqg au];rfl
    have d1:W5.cell? ⟨g+1,1,none⟩=some (.int .i64 be):=by rw [Qqg au];rfl
    dsimp only [Exit.then]
    go_wp2
    have jx:=Q5c bl a7 hx a2;have an:=B6 bl a7;refine Code.wp_mono ?_ (Tryz.links_r11 (H0+1) ia g (g+1) x.length bo bm a ae b be W5 c0 c1 d0 d1 an (Q2f cc jx.1 jx.2));clear c0 c1 d0 d1 jx an;rintro e act W6 h;cases e with
    |normal=>
     obtain ⟨_,_,_,_,_,_,rfl,a6⟩:=h;have du:=a6.size;have d3:=UX cx QnI a6;have av:=(a6.block f QnI).trans bu;have bx:=(a6.block H0 QnI).trans bv;have bp:=JY bl (ZP a6);clear cx bu bv bl ar au a6;dsimp only [Exit.then]
     go_wp2
     have jx:=Q5c bp a7 hx a2;have an:=B6 bp a7;refine Code.wp_mono ?_ (Tryz.links_r13 (H0+1) ia f x.length bo bm a ae b be p q W6 av an (Q0i cq jx.1 jx.2));clear jx an;rintro e act W7 h;cases e with
     |normal=>
      obtain ⟨_,_,_,_,_,_,rfl,a9⟩:=h;have dw:=a9.size;have cz:=UX d3 QnI a9;have aw:=(a9.block f QnI).trans av;have bz:=(a9.block H0 QnI).trans bx;have b1:=JY bp (ZP a9);clear d3 av bx bp a9;dsimp only [Exit.then]
      go_wp2
      have jx:=Q5c b1 b0 hy a2;have an:=B6 b1 b0;refine Code.wp_mono ?_ (Tryz.links_r14 (H0+1) ib f y.length b2 b4 a ae b be p q W7 aw an (Q0i cr jx.1 jx.2));clear jx an;rintro e act W8 h;cases e with
      |normal=>
       obtain ⟨_,_,_,_,_,_,rfl,a8⟩:=h;have dx:=a8.size;have db:=UX cz QnI a8;have ax:=(a8.block f QnI).trans aw;have ca:=(a8.block H0 QnI).trans bz;have d4:=JY b1 (ZP a8);clear cz aw bz b1 a8;dsimp only [Exit.then]
       go_wp2
       refine Code.wp_mono ?_ (Tryz.links_r16 (H0+1) (H0+1) (2*l2.length) ia f bo bm a ae b be p q hd ll x W8 ax d4 a7 hx QnI QnI QnI (fun e=>by have:=(a4 f e).2;omega));rintro e act W9 h;cases e with
       |normal=>
        obtain ⟨_,_,_,_,_,_,_,_,xx,rfl,er,bh⟩:=h;have dy:=bh.size;have eo:=AY db bh QnI QnI (fun c hc=>by have:=(a4 c hc).1;omega);have dc:=(bh.block f QnI QnI (fun e=>by have:=(a4 f e).2;omega)).trans ax;have dd:=(bh.block H0 QnI QnI (fun e=>by have:=(a4 H0 e).1;omega)).trans ca;clear db ax ca d4 bh;have de:(hd.set ia xx)[ib]? = some (.slice b4 y.length b2):=by rw [QqA,if_neg b9];exact b0
        have cb:(ll.set ia (x++[[D.int .i64 a,.int .i64 ae,.int .i64 b,.int .i64 be,.int .i64 p,.int .i64 q]]))[ib]? = some y:=by rw [QqA,if_neg b9];exact hy
        dsimp only [Exit.then]
        go_wp2
        refine Code.wp_mono ?_ (Tryz.links_r17 (H0+1) (H0+1) (2*l2.length) ib f b2 b4 a ae b be p q _ _ y W9 dc er de cb QnI QnI QnI (fun e=>by have:=(bi f e).2;omega));rintro e act W10 h;cases e with
        |normal=>
         obtain ⟨_,_,_,_,_,_,_,_,yy,rfl,dk,b8⟩:=h;have dz:=AY eo b8 QnI QnI (fun c hc=>by have:=(bi c hc).1;omega);have df:=(b8.block H0 QnI QnI (fun e=>by have:=(bi H0 e).1;omega)).trans dd;have b5:=Q7P (Q7P a2 hx (by rfl)) cb (row:=[D.int .i64 a,.int .i64 ae,.int .i64 b,.int .i64 be,.int .i64 p,.int .i64 q]) (by rfl)
         go_wp2
         refine ⟨⟨j+1,_,_,QnI,by rw [Int.natCast_add];rfl,dk,by simpa using cy,cu,b5,df,dz⟩,?_⟩;simp only [intOf];omega
        |_=>exact h.elim
       |_=>exact h.elim
      |_=>exact h.elim
     |_=>exact h.elim
    |_=>exact h.elim
   |_=>exact h.elim
  ·go_wp2
   refine bodyPost_ret (results_tmp rfl _ _ _) rfl ?_;rw [<- en] at hF;exact ⟨rfl,hF⟩
theorem QiW {S:Nat->Prop} {w:World} {xs:List D}:∀ {vs:List Value},vs.length=xs.length->(∀ (i:Nat) (v:Value) (x:D),vs[i]? = some v->xs[i]? = some x->Rd S w v x)->RdLs S w vs xs:=by
 induction xs with
 |nil=>intro vs h _;have:vs=[]:=List.eq_nil_of_length_eq_zero h;subst this;exact .nil
 |cons x xs ih=>
  intro vs h hr
  match vs,h with
  |v::vs,h=>exact .cons (hr 0 v x rfl rfl) (ih (by simpa using h) fun i u y a h2=>hr (i+1) u y (by simpa using a) (by simpa using h2))
theorem Q45 {β:Nat->oP Nat} {S:Nat->Prop} {h:Nat->oP Ob} {w:World} {tm:Nat->Value} {v:Value} {xs:List D} (hv:RdA β S h w tm v (.ag (xs.map .d))):∃ vs:List Value,v = .agg vs.toArray/\RdLs S w vs xs:=by
 cases hv with
 |ag cs l hl hr=>
  obtain ⟨vs⟩:=cs;refine ⟨vs,rfl,QiW (by simpa using hl) fun i u x a h2=>?_⟩;have:=hr i (.d x) (by simp [h2]);simp [Array.getD,(Qqh.1 a).1] at this;rw [(Qqh.1 a).2] at this;cases this with
  |d _ _ q=>exact q
  |dang _ _ _ hl=>cases hl
 |dang v av l hl=>cases hl
theorem Qaq {β:Nat->oP Nat} {S:Nat->Prop} {h:Nat->oP Ob} {w:World} {args:List Value} {a:AV} (hA:ArgsRd β S h w args [a]):∃ v,args=[v]/\RdA β S h w tm0 v a:=Q7d hA
theorem Qaw {β:Nat->oP Nat} {S:Nat->Prop} {h:Nat->oP Ob} {w:World} {args:List Value} {a b:AV} (hA:ArgsRd β S h w args [a,b]):∃ v u,args=[v,u]/\RdA β S h w tm0 v a/\RdA β S h w tm0 u b:=by
 obtain ⟨c,h2⟩:=hA
 match args,c with
 |[v,u],_=>exact ⟨v,u,rfl,h2 0 v a rfl rfl,h2 1 u b rfl rfl⟩
theorem Q1S (n:Nat) (l0 l1 l2 a:LL) (res:Int) {hl:Nat->oP Ob} (h:Za n l0 l1 l2 a some=some res):ZA Tryz.prog 158 [.ag [.d (D.sl 1 l0),.d (D.sl 1 l1),.d (D.sl 5 l2),.d (D.sl 6 a)]] hl ⟨.d (D.int .i64 res),[],[]⟩:=by
 obtain ⟨aj,h⟩:=XA h;injection h with h
 subst h;refine Mm (fn:=Tryz.f158) (by kernel_rfl) (by kernel_rfl) (by kernel_rfl) rfl rfl fun S w args hS hA=>?_
 obtain ⟨v,rfl,hv⟩:=Qaq hA;obtain ⟨vs,rfl,hr⟩:=Q45 (xs:=[D.sl 1 l0,.sl 1 l1,.sl 5 l2,.sl 6 a]) hv;cases hr with
 |cons c t=>
  cases t with
  |cons d t=>
   cases t with
   |cons h2 t=>
    cases t with
    |cons f t=>
     cases t;have ac:=aj;simp only [P3,Qqn,Bool.not_eq_true'] at ac;obtain ⟨⟨⟨⟨⟨⟨⟨⟨l,m⟩,g⟩,i⟩,o⟩,p⟩,q⟩,ns⟩,nl⟩:=ac;refine (Tryz.layout_calls S w hS l0 l1 l2 a _ _ _ _ c d h2 f aj fun w' ak k0 k1 j k=>Tryz.links_calls S w' ak l0 l1 l2 a _ _ _ _ k0 k1 j k (Qql g) (Qql i) nl).mono fun e w' ⟨he,hB⟩=>?_
     exact ⟨_,S,he,fun b h=>h,fun b h=>.inl h,fun b h=>Qqm (hS b h) hB.size,.d _ _ (.int _ _),hB⟩
end Go.Vx
namespace Go.Proofs
open Go.RowKit
theorem Au {P:Program} {w:World} (a:Addr) (m:Mode) (f:Fn) (x y:Array Value):(store a (.func f x y) m).run P w=stored P w a (.func f x y) m:=run_store P w a _ m rfl
attribute [local go_sem] Au
def Kl (r:Nat->Int):Nat->Nat->Int
 |0,_=>0
 |n+1,k=>if r k=0 then Kl r n (k+1) else r k
theorem S4 (r:Nat->Int):∀ (n k m:Nat),(∀ j,k<=j->j<k+m->r j=0)->Kl r (m+n) k=Kl r n (k+m)
 |n,k,0,_=>by simp
 |n,k,m+1,h=>by
  rw [show m+1+n=(m+n)+1 by omega];simp only [Kl];rw [if_pos (h k (Qqw _) QnI),S4 r n (k+1) m (fun j a h2=>h j QnI QnI)];rw [show k+1+m=k+(m+1) by omega]
theorem Below.of {n:Nat} {w w':World} (a:w'.os=w.os) (h2:w'.tape=w.tape) (c:w'.output=w.output) (d:w.heap.size<=w'.heap.size) (e:∀ b,b<n->w'.heap[b]? = w.heap[b]?):Below n w w':=by
 exact ⟨a,h2,c,d,e⟩
set_option maxHeartbeats 4000000 in
set_option maxRecDepth 100000 in
theorem Tryz.plancheck_calls (w:World) (a0 a1 a2 d p0 p1 g l m n o p:Value) (r:Nat->Int)
  (h:∀ k:Nat,k<8->∀ w':World,w.heap.size<=w'.heap.size->(∀ b,b<w.heap.size->w'.heap[b]? = w.heap[b]?) ->
   Calls Tryz.prog (109+k) #[.agg #[a0,a1,a2,d],.agg #[p0,p1,g,l,m,n,o,p]] w' fun e au=>e = .returned (.int .i64 (r k))/\Below w'.heap.size w' au)
  (c:∀ x∈[a0,a1,a2,d,p0,p1,g,l,m,n,o,p],x.oneCell'=true) :
  Calls Tryz.prog 73 #[.agg #[a0,a1,a2,d],.agg #[p0,p1,g,l,m,n,o,p]] w fun e w'=>e = .returned (.int .i64 (Kl r 8 0))/\Below w.heap.size w w':=by
 go_enter Tryz.func73,Tryz.ntmps73
 go_wp2
 go_loopw [11] (fun i wr=>∃ k:Nat,k<=8/\i = .int .i64 k/\(∀ j,j<k->r j=0)/\wr.heap[w.heap.size]? = some (.cells #[a0,a1,a2,d] 27 (0,0))/\wr.heap[w.heap.size+1]? = some (.cells #[p0,p1,g,l,m,n,o,p] 36 (0,0))/\Below w.heap.size w wr)
  (fun i _=>8-(intOf i).toNat)
 case atStart=>
  refine ⟨0,QnI,rfl,fun j hj=>absurd hj QnI,?_,?_,?_⟩
  ·rw [Qqu _ _ _ QnL,Qqu _ _ _ QnK];exact heap_alloc_new w _
  ·rw [Qqu _ _ _ QnK,show w.heap.size+1=(w.alloc (.cells #[a0,a1,a2,d] 27)).heap.size by simp];exact heap_alloc_new _ _
  ·refine Below.of rfl rfl rfl QnL fun b hb=>?_
   rw [Qqu _ _ _ QnL,Qqu _ _ _ QnL,Qqu _ _ _ hb]
 case round=>
  obtain ⟨k,hk,rfl,hz,f,a,hB⟩:=hrel;by_cases an:k<8
  ·have ax:((k:Int)<8):=QnI
   have c0:wr.cell? ⟨w.heap.size,0,none⟩=some a0:=by rw [Qqg f];rfl
   have c1:wr.cell? ⟨w.heap.size,1,none⟩=some a1:=by rw [Qqg f];rfl
   have s:wr.cell? ⟨w.heap.size,2,none⟩=some a2:=by rw [Qqg f];rfl
   have t:wr.cell? ⟨w.heap.size,3,none⟩=some d:=by rw [Qqg f];rfl
   have d0:wr.cell? ⟨w.heap.size+1,0,none⟩=some p0:=by rw [Qqg a];rfl
   have d1:wr.cell? ⟨w.heap.size+1,1,none⟩=some p1:=by rw [Qqg a];rfl
   have u:wr.cell? ⟨w.heap.size+1,2,none⟩=some g:=by rw [Qqg a];rfl
   have v:wr.cell? ⟨w.heap.size+1,3,none⟩=some l:=by rw [Qqg a];rfl
   have y:wr.cell? ⟨w.heap.size+1,4,none⟩=some m:=by rw [Qqg a];rfl
   have z:wr.cell? ⟨w.heap.size+1,5,none⟩=some n:=by rw [Qqg a];rfl
   have d6:wr.cell? ⟨w.heap.size+1,6,none⟩=some o:=by rw [Qqg a];rfl
   have d7:wr.cell? ⟨w.heap.size+1,7,none⟩=some p:=by rw [Qqg a];rfl
   have hw:wrap64 ((k:Int)+1)=((k+1:Nat):Int):=by unfold wrap64;omega
   have aw:∀ w:World,(Instr.index 218 (.agg #[.func (.func 109) #[] #[],.func (.func 110) #[] #[],.func (.func 111) #[] #[],.func (.func 112) #[] #[],.func (.func 113) #[] #[],.func (.func 114) #[] #[],.func (.func 115) #[] #[],.func (.func 116) #[] #[]]) (.int .i64 k)).run Tryz.prog w = .ok (.func (.func (109+k)) #[] #[]) w:=by
    intro w;obtain rfl | rfl | rfl | rfl | rfl | rfl | rfl | rfl:k=0\/k=1\/k=2\/k=3\/k=4\/k=5\/k=6\/k=7:=QnI
    all_goals rfl
   have ay:∀ (w:World) (ar:Array Value),(callFunc (109+k) ar).run Tryz.prog w = .ok (.enter (109+k) ar) w:=by
    intro w ar;obtain rfl | rfl | rfl | rfl | rfl | rfl | rfl | rfl:k=0\/k=1\/k=2\/k=3\/k=4\/k=5\/k=6\/k=7:=QnI
    all_goals rfl
   have hc:=h k an wr hB.size hB.block;clear hw
   go_wp2
   refine hc.mono ?_;rintro e q ⟨rfl,ac⟩;have al:Below w.heap.size w q:=hB.trans ⟨ac.os,ac.tape,ac.output,ac.size,fun b hb=>ac.block b (Qqm hb hB.size)⟩;have l0:=(Qqk.1 f).1;have l1:=(Qqk.1 a).1;by_cases hr:r k=0
   ·rw [hr]
    go_wp2
    go_roundw
    case rel=>
     refine ⟨k+1,QnI,rfl,fun j hj=>?_,(ac.block _ l0).trans f,(ac.block _ l1).trans a,al⟩;by_cases e:j=k
     ·rw [e];exact hr
     ·exact hz j QnI
    case measure=>simp [intOf];omega
   ·have aj:Kl r 8 0=r k:=by
     have e:=S4 r (8-k) 0 k fun j _ h2=>hz j QnI
     rw [show k+(8-k)=8 by omega] at e;rw [e,show 8-k=(7-k)+1 by omega,Qqx];simp [Kl,hr]
    go_wp2
    refine bodyPost_ret (results_tmp rfl _ _ _) rfl ?_;exact ⟨by rw [aj];rfl,al⟩
  ·have aj:Kl r 8 0=0:=by
    have e:=S4 r 0 0 8 fun j _ h2=>hz j QnI
    exact e
   go_wp2
   refine bodyPost_ret (results_tmp rfl _ _ _) rfl ?_;exact ⟨by rw [aj];rfl,hB⟩
end Go.Proofs
namespace Go.Vx
open Go.Proofs
variable (n:Nat)
def Jd (n:Nat):Tv:=fun _ _ g ac _ k=>match ac with
 | [c0]=>
  prG c0 fun l0=>(match l0 with
  | [a,b,c,d]=>prS g 1 a fun e=>prS g 1 b fun f=>prS g 5 c fun h=>prS g 6 d fun i=>
  gb g (Za n e f h i some) 0 fun r=>k ⟨.d (D.int .i64 r),[],[]⟩
  | _=>none)
 | _=>none
theorem T3 (n:Nat):Jq Tryz.prog 158 (Jd n):=by
  intro R aj g ak hl k r h
  unfold Jd at h
  split at h
  rotate_left
  · cases h
  replace h:=Q1r h
  obtain ⟨l0,h,e⟩:=h
  subst e
  split at h
  rotate_left
  · cases h
  replace h:=U0 h
  obtain ⟨a,h,f⟩:=h
  replace h:=U0 h
  obtain ⟨b,h,i⟩:=h
  replace h:=U0 h
  obtain ⟨c,h,j⟩:=h
  replace h:=U0 h
  obtain ⟨d,h,l⟩:=h
  replace h:=QO h
  obtain ⟨res,h,hr⟩:=h
  exact ⟨_,h,fun hg=>ZA.conv (avs':=[.ag [.d (D.sl 1 a),.d (D.sl 1 b),.d (D.sl 5 c),.d (D.sl 6 d)]]) (.cons (.ag (.cons (f hg) (.cons (i hg) (.cons (j hg) (.cons (l hg) .nil))))) .nil) (Q1S n a b c d res (hr hg))⟩
end Go.Vx
set_option maxRecDepth 100000
namespace Go.Vx
open Go.Proofs
variable (n:Nat)
def TN:BZ9:=Xa [⟨158,⟨Jd n,T3 n⟩⟩] []
def Lo:LZ9:=mkU (TN n).ok nT 12 Tryz.f109 [Qlx,(41,.l 4),(42,tI),(43,tI)] [Qml] 22 [.f .ret [(4,.ci .i64 7)] [] [],xE 1 [(44,.b)]] @Zl n
def Pj:EZ9 109:=mkD (TN n).ok [Lo n n] 109 Tryz.f109 0 @Uw n
def Gh:BZ9:=Xa [⟨158,⟨Jd n,T3 n⟩⟩,⟨255,Av n⟩,⟨256,F7 n⟩] [(24,⟨[],[],[(11,1011,3,1)],[],[]⟩)]
def CX:LZ9:=mkU (Gh n).ok nT 10 Tryz.f217 [Qlw,Qlx,(40,.l 2),(41,tI),(42,tI)] Qnz 1102 [.f .ret [(4,.nil),(5,.ci .i64 4)] [] [],xE 1 [(43,.b)]] @Wt n
def BD:LZ9:=mkU (Gh n).ok nT 17 Tryz.f217 [Qlw,Qlx,(8,.arr 54),(56,.l 2),(57,tI),(58,tI)] [Qm6,QnA,(54,.arr 4 1)] 39388 [.f .ret [(4,.nil),(5,.ci .i64 5)] [] [],xE 3 [(59,.b)]] @JW n
def B0:LZ9:=mkU (Gh n).ok nT 25 Tryz.f217 [Qlw,Qlx,(11,.arr 1011),(74,.l 2),(75,tI),(76,tI)] [Qm6,QnA,(1011,.arr 3 1)] 42655 [.f .ret [(4,.nil),(5,.ci .i64 11)] [] [],xE 5 [(77,.b)]] @Wj n
def Ak:EZ9 217:=mkD (Gh n).ok [CX n n,BD n n,B0 n n] 217 Tryz.f217 0 @KD n
def Le:EZ9 163:=mkD (Xa [⟨217,Ak n⟩] []).ok nT 163 Tryz.f163 0 @Th n
def Tg:BZ9:=Xa [⟨163,Le n⟩] []
def MM:LZ9:=mkU (Tg n).ok nT 2 Tryz.f111 [Qlw,(9,.l 2),QlU,Qld] [Qm6] 1102 [.f .ret [(4,tI)] [] [0],xE 0 [(12,.b)]] @YM n
def TH:EZ9 111:=mkD (Tg n).ok [MM n n] 111 Tryz.f111 0 @WI n
end Go.Vx
namespace Go.Vx
open Go.Proofs Go.RowKit
section
variable {P:Program}
theorem Q0A (w:World) (dT sT ty ac:TypeId) (g o aj an k:Nat) (a:Addr) (al aq:Nat) (ak:Array Value) (t:TypeId) (cs:List Value)
  (hu:P.underlying dT=some (.slice ac)) (hs:(P.info? ac).map (·.size)=some k)
  (hg:w.heap[g]? = some (.cells ak t (0,0))) (hn:cs.length=Nat.min al aj*k)
  (ar:∀ j v,cs[j]? = some v->w.cell? (a.add j)=some v) (ao:o+cs.length<=ak.size) (b:∀ v∈cs,v.oneCell'=true) :
  (Builtin.copy_ #[dT,sT] ty #[.slice (some ⟨g,o,none⟩) aj an,.slice (some a) al aq]).run P w =
   .ok (goInt (Nat.min al aj)) (w.setRow g (ak.toList.take o++cs++ak.toList.drop (o+cs.length)).toArray):=by
 have hl:=run_loadCells_list (P:=P) w a cs ar;have au:=run_storeCells_at P g o t cs 0 ak w hg (by simpa using ao) b;cases hq:P.info? ac with
 |none=>simp [hq] at hs
 |some i=>
  have hi:i.size=k:=by simpa [hq] using hs
  simp [Builtin.copy_,run_underlying hu,Builtin.lenOf,Builtin.firstCells,sizeOf,typeInfo,hq,hi,<- hn,hl,au]
theorem Q3u (w:World) (dT sT ty ac:TypeId) (g o aj an k:Nat) (a:Addr) (ak ao:Nat) (al:Array Value) (t:TypeId) (cs:List Value) (m:Nat)
  (hu:P.underlying dT=some (.slice ac)) (hs:(P.info? ac).map (·.size)=some k)
  (hg:w.heap[g]? = some (.cells al t (0,0))) (hm:Nat.min ak aj=m) (hn:cs.length=m*k)
  (ar:∀ j v,cs[j]? = some v->w.cell? (a.add j)=some v) (aq:o+cs.length<=al.size) (c:∀ v∈cs,v.oneCell'=true) :
  ∃ w',(Builtin.copy_ #[dT,sT] ty #[.slice (some ⟨g,o,none⟩) aj an,.slice (some a) ak ao]).run P w = .ok (.int .i64 (m:Int)) w' /\
   w'.heap[g]? = some (.cells (splice al.toList o cs).toArray t (0,0))/\(∀ n,n<=g->∀ w0:World,Below n w0 w->Below n w0 w'):=by
 subst hm;refine ⟨_,Q0A w dT sT ty ac g o aj an k a ak ao al t cs hu hs hg hn ar aq c,by simpa [splice] using setRow_heap w g _ _ t _ hg,fun n hn w0 h=>⟨h.os,h.tape,h.output,by simpa [World.setRow] using h.size,fun b hb=>(setRow_other w g b _ QnI).trans (h.block b hb)⟩⟩
theorem A3 {w:World} {aq:Array Oper} {o:Oper} {a:Act} {K:Act->World->Prop} {Q:Exit->Act->World->Prop} {E:Prop} (ax:o.guard=none) (d s:Operand) (dT sT:TypeId)
  (ho:o.op = .call { callee:=.builtin .copy,args:=#[d,s],argTypes:=#[dT,sT] }) (ac:TypeId) (k:Nat) (hu:P.underlying dT=some (.slice ac)) (ay:(P.info? ac).map (·.size)=some k)
  (g off aj an:Nat) (ad:Addr) (ak ao:Nat) (hd:a.eval d = .slice (some ⟨g,off,none⟩) aj an) (hs:a.eval s = .slice (some ad) ak ao)
  (al:Array Value) (t:TypeId) (hg:w.heap[g]? = some (.cells al t (0,0))) (cs:List Value) (m:Nat) (hm:Nat.min ak aj=m) (hn:cs.length=m*k)
  (aw:∀ j v,cs[j]? = some v->w.cell? (ad.add j)=some v) (ar:off+cs.length<=al.size) (b:∀ v∈cs,v.oneCell'=true)
  (h:∀ w',w'.heap[g]? = some (.cells (splice al.toList off cs).toArray t (0,0))->(∀ n,n<=g->∀ w0:World,Below n w0 w->Below n w0 w')->K (a.put o.dst (.int .i64 (m:Int))) w') :
  if Region.wanted o (yielded aq a.tmps)=true then Oper.wp P o a w K Q else E:=by
 have hw:Region.wanted o (yielded aq a.tmps)=true:=by simp [Region.wanted,ax]
 rw [if_pos hw];obtain ⟨w',au,h2,c⟩:=Q3u (P:=P) w dT sT o.type ac g off aj an k ad ak ao al t cs m hu ay hg hm hn aw ar b;unfold Oper.wp;simp [execOp,ho,resolve,invoke,builtin,hd,hs,au,Result.andThen];exact h w' h2 c
end
def M0 (v0 a:Value):Nat->List Value
 |0=>[]
 |m+1=>v0::a::M0 v0 a m
theorem Uv (v0 a:Value):∀ m,(M0 v0 a m).length=m*2
 |0=>rfl
 |m+1=>by simp [M0,Uv v0 a m];omega
theorem Q0S (v0 a:Value) (k:Nat):∀ m,M0 v0 a (m+k)=M0 v0 a m++M0 v0 a k
 |0=>by simp [M0]
 |m+1=>by rw [show m+1+k=(m+k)+1 by omega];simp [M0,Q0S v0 a k m]
theorem Q8R (v0 a:Value) {m k:Nat} (h:m<=k):(M0 v0 a k).take (m*2)=M0 v0 a m:=by
 obtain ⟨d,rfl⟩:=Nat.exists_eq_add_of_le h;rw [Q0S,List.take_append_of_le_length (by rw [Uv];omega),Qqv (by rw [Uv];omega)]
theorem Q0H {v0 a:Value}:∀ {m:Nat} {v:Value},v∈M0 v0 a m->v=v0\/v=a
 |m+1,v,h=>by
  simp only [M0,Qqq] at h;rcases h with h | h | h
  ·exact .inl h
  ·exact .inr h
  ·exact Q0H h
theorem Q9r (v0 a:Value):∀ (m i:Nat),i<m->(M0 v0 a m)[i*2]? = some v0/\(M0 v0 a m)[i*2+1]? = some a
 |m+1,0,h=>by simp [M0]
 |m+1,i+1,h=>by
  have:=Q9r v0 a m i QnI;rw [show (i+1)*2=i*2+1+1 by omega];simpa [M0] using this
theorem mul_one (c:Nat) (hc:c<=100000):HH 0 1 (c:Int) (fun a b=>some (a,b))=some (0,(c:Int)):=by
 have d:shR .u64 1 (32:Int)=0:=by decide
 have h2:shR .u64 (c:Int) (32:Int)=0:=by
  show (c:Int).fdiv (2 ^ (min (32:Int).toNat IntKind.u64.bits))=0;rw [show (min (32:Int).toNat IntKind.u64.bits)=32 from rfl,Int.fdiv_eq_ediv_of_nonneg _ QnJ];omega
 have e:Q6a .u64 1 (4294967295:Int)=1:=by decide
 have f:Q6a .u64 (c:Int) (4294967295:Int)=(c:Int):=by
  unfold Q6a;rw [BitVec.toNat_and,IntKind.wrap_u64];have e1:(BitVec.ofInt IntKind.u64.bits (c:Int)).toNat=c:=by
   rw [BitVec.toNat_ofInt];show ((c:Int) % ((2 ^ 64:Nat):Int)).toNat=c;omega
  have e2:(BitVec.ofInt IntKind.u64.bits (4294967295:Int)).toNat=2 ^ 32-1:=by decide
  rw [e1,e2,Nat.and_two_pow_sub_one_eq_mod];omega
 have w0:IntKind.u64.wrap 0=0:=by decide
 have wc:IntKind.u64.wrap (c:Int)=(c:Int):=by rw [IntKind.wrap_u64];omega
 have s0:shR .u64 0 (32:Int)=0:=by decide
 have a0:Q6a .u64 0 (4294967295:Int)=0:=by decide
 simp only [HH,T8,cond_false,B9,d,h2,e,f,gb,Int.zero_mul,Int.one_mul,Int.mul_zero,Int.add_zero,w0,wc,s0,a0];rfl
theorem Q4O {β:Nat->oP Nat} {S:Nat->Prop} {h:Nat->oP Ob} {w:World} {tm:Nat->Value} {v:Value} {k:IntKind} {n:Int} (h:RdA β S h w tm v (.d (.int k n))):v = .int k n:=by
 cases h with
 |d _ _ q=>exact SY q
 |dang _ _ _ hl=>cases hl
theorem Q8p (c:Nat) (hc:c<=100000) (w:World):Calls Tryz.prog 291 #[.int .u64 1,.int .u64 (c:Int)] w fun e w'=>e = .returned (.tuple #[.int .u64 0,.int .u64 c])/\RowKit.Below w.heap.size w w':=by
 have he:(RK 0).E Dl 0 true [.d (.int .u64 1),.d (.int .u64 (c:Int))] (fun _=>none) some=some ⟨.tup [.d (D.int .u64 0),.d (D.int .u64 (c:Int))],[],[]⟩:=by
  show gb true (HH 0 1 (c:Int) (fun g i=>some (g,i))) (0,0) (fun r=>(some ⟨.tup [.d (D.int .u64 r.1),.d (D.int .u64 r.2)],[],[]⟩:oP Dl))=_;rw [mul_one c hc];rfl
 refine (C8 (S:=fun _=>False) (Y2 ((RK 0).ok) he) (fun _ h=>h.elim) (KV (.d _ _ (.int _ _)) (.d _ _ (.int _ _)))).mono fun e w' ⟨v,S',j,h2,k⟩=>⟨?_,k⟩
 rw [j];cases h2 with
 |tup cs l hl hr=>
  have d:=Q4O (hr 0 _ rfl);have f:=Q4O (hr 1 _ rfl);obtain ⟨l⟩:=cs
  match l,hl with
  |[a,b],_=>
   simp at d f;rw [d,f]
 |dang v av l hl=>cases hl
noncomputable def Qci:Code:=(G1 (Tryz.f284.body.getD .skip)).getD 9 .skip
set_option maxHeartbeats 8000000 in
set_option maxRecDepth 100000 in
theorem Tryz.repeat_r9 (b d u2 u3 f g i l o p q r s t u x y z aa ab ac ad ae ag ah ai aj ak al am an ao ap aq ar au aw ax ay az ba bb bc bd be av v0 a:Value) (H c m k:Nat) (cu:Array Value) (w:World) (bg:m<c) (b1:(m:Int)<(c:Int)) (hk:Nat.min m (c-m)=k) (a2:w.heap[H]? = some (.cells cu 287 (0,0))) (h0:(0:Int)<=(m:Int)) (cc:(m:Int)<=(c:Int))
  (a6:∀ (j:Nat) (v:Value),(M0 v0 a k)[j]? = some v->w.drew.cell? ((⟨H,0,none⟩:Addr).add j)=some v) (a5:m*2+(M0 v0 a k).length<=cu.size) (a4:∀ v∈M0 v0 a k,v.oneCell'=true) (cf:IntKind.i64.wrap ((m:Int)+(k:Int))=((m+k:Nat):Int)) :
  Code.wp Tryz.prog Qci (Q5O fun act w'=>∃ (bh bi bj bk bl bm bn bo bp:Value),act=⟨(b::d::u2::u3::f::g::i::.slice (some ⟨H,0,none⟩) c c::.int .i64 ((m:Int)+(k:Int))::l::o::p::q::r::s::t::u::x::y::z::aa::ab::ac::ad::ae::ag::ah::ai::aj::ak::al::am::an::ao::ap::aq::ar::au::bh::bi::bj::bk::bl::bm::bn::bo::bp::av::[]).toArray,[]⟩/\w'.heap[H]? = some (.cells (splice cu.toList (m*2) (M0 v0 a k)).toArray 287 (0,0))/\(∀ n,n<=H->∀ w0:World,Below n w0 w->Below n w0 w')) ⟨(b::d::u2::u3::f::g::i::.slice (some ⟨H,0,none⟩) c c::.int .i64 (m:Int)::l::o::p::q::r::s::t::u::x::y::z::aa::ab::ac::ad::ae::ag::ah::ai::aj::ak::al::am::an::ao::ap::aq::ar::au::aw::ax::ay::az::ba::bb::bc::bd::be::av::[]).toArray,[]⟩ w:=by
 conv=>arg 2;whnf
 have mixed:Tryz.prog.follows .mixedOrders=true:=by kernel_rfl
 have a7:(Tryz.prog.info? 287).map (·.size)=some 2:=by kernel_rfl
 have bq:c=m->0=m*2:=fun e=>absurd e (Nat.ne_of_gt bg)
 have a1:w.drew.heap[H]? = some (.cells cu 287 (0,0)):=a2
 go_region_law (first
  |(refine A3 (by rfl) _ _ 243 243 (by rfl) 287 2 Tryz.underlying243 a7 H (m*2) (c-m) (c-m) ⟨H,0,none⟩ m c (by go_simp;exact bq) (by go_simp) cu 287 a1 (M0 v0 a k) k hk (Uv _ _ _) a6 a5 a4 ?_;intro w3 a8 a9))
 all_goals
  dsimp only [Q5O];exact ⟨_,_,_,_,_,_,_,_,_,rfl,a8,fun n hn w0 h=>a9 n hn w0 (h.trans ⟨rfl,rfl,rfl,Qqw _,fun _ _=>rfl⟩)⟩
theorem Q6Y {v0 a:Value} {m k:Nat} {L:List Value} (ac:L.take (m*2)=M0 v0 a m):(splice L (m*2) (M0 v0 a k)).take ((m+k)*2)=M0 v0 a (m+k):=by
 simp only [splice];rw [ac,List.take_append,Qqv (by rw [Uv];omega),Uv,List.take_append_of_le_length (by rw [Uv];omega),Qqv (by rw [Uv];omega),Q0S]
theorem QeS {m k c:Nat} (h:m+k<=c) (hk:0<k):c-(intOf (.int .i64 ((m:Int)+(k:Int)))).toNat<c-(intOf (.int .i64 (m:Int))).toNat:=by
 simp only [intOf];omega
set_option maxHeartbeats 4000000 in
set_option maxRecDepth 100000 in
theorem Tryz.repeat_calls (w:World) (ad:Addr) (cap c:Nat) (v0 b:Value) (hc:c<=100000) (o:w.cell? (ad.add 0)=some v0) (r:w.cell? (ad.add 1)=some b) (o0:v0.oneCell'=true) (o1:b.oneCell'=true) :
  Calls Tryz.prog 284 #[.slice (some ad) 1 cap,.int .i64 (c:Int)] w fun e w'=>∃ (H:Nat) (ac:Array Value),e = .returned (.slice (some ⟨H,0,none⟩) c c)/\w.heap.size<=H/\w'.heap[H]? = some (.cells ac 287 (0,0))/\ac.size=c*2/\ac.toList=M0 v0 b c/\Below w.heap.size w w':=by
 obtain ⟨s,hi,t⟩:=Qqo.1 (show (Tryz.prog.info? 287).map (fun i=>(i.zero.isSome,i.size,i.bytes))=some (true,2,16) by kernel_rfl);obtain ⟨hz,g⟩:=Prod.mk.inj t;obtain ⟨g,u⟩:=Prod.mk.inj g;obtain ⟨z,hz⟩:=Option.isSome_iff_exists.1 hz;have aw:∀ w:World,∃ ac:Array Value,ac.size=c*2/\(Instr.makeSlice 243 (.int .i64 (c:Int)) (.int .i64 (c:Int))).run Tryz.prog w = .ok (.slice (some ⟨w.heap.size,0,none⟩) c c) (w.alloc (.cells ac 287)):=by
  intro w;refine ⟨madeCells z.cells (c*2),size_madeCells _ _,?_⟩;have:=run_make (P:=Tryz.prog) w 243 287 s z Tryz.underlying243 hi hz .i64 .i64 (c:Int) (c:Int) QnI QnI (by rw [u];omega) QnI;rw [g] at this;exact this
 have a3:(Tryz.prog.info? 287).map (·.size)=some 2:=by rw [hi];simp [g]
 have bq:IntKind.u64.wrap (c:Int)=(c:Int):=by rw [IntKind.wrap_u64];omega
 have bn:IntKind.i64.wrap (c:Int)=(c:Int):=by rw [IntKind.wrap_i64];omega
 have g0:(0:Int)<=(c:Int):=QnI
 have g1:¬ (9223372036854775807:Int)<(c:Int):=QnI
 go_enter Tryz.func284,Tryz.ntmps284
 go_wp2_with (go_at_call 291;refine (Q8p c hc _).mono ?_)
 rintro e f rfl hB;obtain ⟨ac,a9,a5⟩:=aw f;clear aw;have aq:=WS hB (Qqw _) (.cells ac 287);have az:∀ a:Addr,a.block<w.heap.size->(f.alloc (.cells ac 287)).cell? a=w.cell? a:=fun a ha=>RW (aq.block _ ha)
 have br:=fun (j:Nat)=>Jc ad j
 have a7:ad.block<w.heap.size:=by have:=World.block_lt_of_cell? w _ o;rwa [Jc] at this
 have hH:(f.alloc (.cells ac 287)).heap[f.heap.size]? = some (.cells ac 287 (0,0)):=heap_alloc_new f _;obtain ⟨d,p⟩:∃ d,Nat.min 1 c=d:=⟨_,rfl⟩;have q:d<=1/\d<=c/\(0<c->0<d):=by rw [<- p];simp only [Nat.min_def];split <;> omega
 obtain ⟨w2,ax,bb,bj⟩:=Q3u (P:=Tryz.prog) (f.alloc (.cells ac 287)) 243 243 3 287 f.heap.size 0 c c 2 ad 1 cap ac 287 (M0 v0 b d) d Tryz.underlying243 a3 hH p (Uv _ _ _)
  (fun j v hj=>by
   have l:=(Qqh.1 hj).1;rw [Uv] at l;rw [az _ (by rw [Jc];exact a7)];have hm:d=1:=QnI
   subst hm;obtain rfl | rfl:j=0\/j=1:=QnI
   ·simp [M0] at hj;rw [<- hj];exact o
   ·simp [M0] at hj;rw [<- hj];exact r)
  (by rw [Uv];omega) (fun v hv=>by rcases Q0H hv with rfl | rfl <;> assumption)
 have a8:=bj w.heap.size hB.size w aq;have ar:=hB.size;generalize bl:f.heap.size=H at *
 go_wp2
 go_loopw [8] (fun i wr=>∃ (m:Nat) (cu:Array Value),i = .int .i64 (m:Int)/\m<=c/\(0<c->0<m)/\wr.heap[H]? = some (.cells cu 287 (0,0))/\cu.size=c*2/\cu.toList.take (m*2)=M0 v0 b m/\Below w.heap.size w wr)
  (fun i _=>c-(intOf i).toNat)
 case atStart=>
  refine ⟨d,_,rfl,q.2.1,q.2.2,bb,?_,?_,a8⟩
  ·simp only [List.size_toArray];rw [length_splice _ _ _ (by rw [Uv];simp;omega)];simpa using a9
  ·simp only [splice,List.take_zero,List.nil_append];rw [List.take_append_of_le_length (by rw [Uv];exact Qqw _),Qqv (by rw [Uv];exact Qqw _)]
 case round=>
  obtain ⟨m,cu,rfl,bp,bi,aj,an,ao,hF⟩:=hrel;clear a5 ax;by_cases x:m<c
  ·have ay:((m:Int)<(c:Int)):=QnI
   have hp:0<m:=bi QnI;obtain ⟨k,hk⟩:∃ k,Nat.min m (c-m)=k:=⟨_,rfl⟩;have n:k<=m/\m+k<=c/\0<k:=by rw [<- hk];simp only [Nat.min_def];split <;> omega
   have e1:(if c=m then (some ⟨H,0,none⟩:oP Addr) else (some (⟨H,0,none⟩:Addr)).map (·.add (m*2)))=some ⟨H,m*2,none⟩:=by
    rw [if_neg QnI];simp [JJ]
   have a1:∀ (j:Nat) (v:Value),(M0 v0 b k)[j]? = some v->wr.drew.cell? ((⟨H,0,none⟩:Addr).add j)=some v:=by
    intro j v hj;have l:=(Qqh.1 hj).1;rw [Uv] at l;rw [JJ,Qqx];show wr.cell? _=_;rw [cell_of_row wr H j cu 287 (0,0) aj,<- Qqs];have e:(cu.toList.take (m*2))[j]? = some v:=by
     rw [ao];have e2:=Q8R v0 b n.1;rw [<- e2,Qqy,if_pos l] at hj;exact hj
    rw [Qqy] at e;split at e
    ·exact e
    ·cases e
   have al:m*2+(M0 v0 b k).length<=cu.size:=by rw [Uv];omega
   have au:∀ v∈M0 v0 b k,v.oneCell'=true:=fun v hv=>by rcases Q0H hv with rfl | rfl <;> assumption
   have a2:wr.drew.heap[H]? = some (.cells cu 287 (0,0)):=aj;have bg:IntKind.i64.wrap ((m:Int)+(k:Int))=((m+k:Nat):Int):=by rw [IntKind.wrap_i64];omega
   go_wp2
   refine Code.wp_mono ?_ (Tryz.repeat_r9 _ _ _ _ _ _ _ _ _ _ _ _ _ _ _ _ _ _ _ _ _ _ _ _ _ _ _ _ _ _ _ _ _ _ _ _ _ _ _ _ _ _ _ _ _ _ v0 b H c m k cu wr x ay hk aj QnI QnI a1 al au bg);rintro e act w3 h;cases e with
   |normal=>
    obtain ⟨_,_,_,_,_,_,_,_,_,rfl,a6,bc⟩:=h
    go_wp2
    refine ⟨⟨m+k,_,by rw [Int.natCast_add],n.2.1,fun _=>Qqm hp (Nat.le_add_right m k),a6,?_,?_,bc _ ar w hF⟩,?_⟩
    ·simp only [List.size_toArray];rw [length_splice _ _ _ (by simpa using al)];simpa using an
    ·exact Q6Y ao
    ·exact QeS n.2.1 n.2.2
   |_=>exact h.elim
  ·have y:m=c:=QnI
   subst y
   go_wp2
   refine bodyPost_ret (results_tmp rfl _ _ _) rfl ?_;refine ⟨H,cu,rfl,ar,aj,an,?_,hF⟩;rw [<- ao,Qqv (by simpa using Nat.le_of_eq an)]
theorem QbX {S:Nat->Prop} {w:World} {v:Value} {x:D} (h:Rd S w v x):v.oneCell'=true:=by cases h <;> rfl
theorem Qa1 {S:Nat->Prop} {w:World} {H c:Nat} {ac:Array Value} {v0 a:Value} {d f:D} (g:Rd S w v0 d) (k:Rd S w a f) (hH:w.heap[H]? = some (.cells ac 287 (0,0))) (aj:ac.toList=M0 v0 a c) :
  Rd (fun b=>S b\/b=H) w (.slice (some ⟨H,0,none⟩) c c) (.sl 2 (List.replicate c [d,f])):=by
 have e:=Rd.sl (S:=fun b=>S b\/b=H) (w:=w) ⟨H,0,none⟩ c 2 (List.replicate c [d,f]) (fun i j=>if j=0 then v0 else a) (.inr rfl) QnK (fun i r hr=>?_) (fun i j r x hr hx=>?_) (fun i j r x hr hx=>?_)
 ·simpa using e
 ·obtain ⟨_,rfl⟩:=Qqr.1 (Qqi hr);rfl
 ·have hi:i<c:=by have:=(Qqh.1 hr).1;simpa using this
  obtain ⟨_,rfl⟩:=Qqr.1 (Qqi hr);have hj:=(Qqh.1 hx).1;simp at hj;rw [JJ,Qqx,cell_of_row w H _ ac 287 (0,0) hH,<- Qqs,aj];have:=Q9r v0 a c i hi;obtain rfl | rfl:j=0\/j=1:=QnI
  ·simpa using this.1
  ·simpa using this.2
 ·obtain ⟨_,rfl⟩:=Qqr.1 (Qqi hr);have hj:=(Qqh.1 hx).1;simp at hj;obtain rfl | rfl:j=0\/j=1:=QnI
  ·simp at hx;subst hx;simpa using g.mono (fun _ h=>.inl h) (fun _ _=>rfl)
  ·simp at hx;subst hx;simpa using k.mono (fun _ h=>.inl h) (fun _ _=>rfl)
theorem Q1q (n:Nat) (a0:LL) (a1:Int) (res:LL) {hl:Nat->oP Ob} (h:Qc n a0 a1 some=some res):ZA Tryz.prog 284 [.d (D.sl 2 a0),.d (D.int .i64 a1)] hl ⟨.d (D.sl 2 res),[],[]⟩:=by
 unfold Qc at h;obtain ⟨hc,h⟩:=XA h;simp only [Qqn,decide_eq_true_eq] at hc;obtain ⟨⟨e1,hp⟩,hq⟩:=hc;have e1:=Nat.eq_of_beq_eq_true e1;injection h with h
 obtain ⟨c,rfl⟩:=Int.eq_ofNat_of_zero_le hp
 match a0,e1 with
 |[row],_=>
  subst h;refine Mm (fn:=Tryz.f284) (by kernel_rfl) (by kernel_rfl) (by kernel_rfl) rfl rfl fun S w args hS hA=>?_
  obtain ⟨hl,hA⟩:=hA
  match args,hl with
  |[j,k],_=>
   have a:=hA 0 _ _ rfl rfl;have i:=Q4O (hA 1 _ _ rfl rfl);subst i;cases a with
   |dang _ _ _ hl=>cases hl
   |d _ _ a=>
    cases a with
    |sl ad cap _ _ cf ay au ao ac al=>
     have ak:=ao 0 row rfl
     match row,ak with
     |[l,m],_=>
      have k0:=ac 0 0 _ _ rfl rfl;have k1:=ac 0 1 _ _ rfl rfl;have f:=al 0 0 _ _ rfl rfl;have g:=al 0 1 _ _ rfl rfl;refine (Tryz.repeat_calls w ad cap c (cf 0 0) (cf 0 1) QnI k0 k1 (QbX f) (QbX g)).mono fun e w' ⟨H,az,he,hH,aj,a2,aq,hB⟩=>?_
      have ax:H<w'.heap.size:=(Qqk.1 aj).1;refine ⟨_,fun b=>S b\/b=H,he,fun b h=>.inl h,fun b h=>h.elim .inl fun e=>.inr QnI,fun b h=>h.elim (fun h=>Qqm (hS b h) hB.size) (fun e=>by omega),.d _ _ ?_,hB⟩;exact Qa1 (Rd.mono (fun _ h=>h) (fun b hb=>hB.block b (hS b hb)) f) (Rd.mono (fun _ h=>h) (fun b hb=>hB.block b (hS b hb)) g) aj aq
end Go.Vx
namespace Go.Vx
open Go.Proofs
variable (n:Nat)
def X7 (n:Nat):Tv:=fun _ _ g ac _ k=>match ac with
 | [c0,c1]=>prS g 2 c0 fun a0=>prI g .i64 c1 fun a1=>
  gb g (Qc n a0 a1 some) [] fun r=>k ⟨.d (D.sl 2 r),[],[]⟩
 | _=>none
theorem ZT (n:Nat):Jq Tryz.prog 284 (X7 n):=by
  intro R aj g ak hl k r h
  unfold X7 at h
  split at h
  rotate_left
  · cases h
  replace h:=U0 h
  obtain ⟨a0,h,a⟩:=h
  replace h:=Q12 h
  obtain ⟨a1,h,b⟩:=h
  replace h:=QO h
  obtain ⟨res,h,hr⟩:=h
  exact ⟨_,h,fun hg=>ZA.conv (avs':=[.d (D.sl 2 a0),.d (D.int .i64 a1)]) (.cons (a hg) (.cons (b hg) .nil)) (Q1q n a0 a1 res (hr hg))⟩
end Go.Vx
set_option maxRecDepth 100000
namespace Go.Vx
open Go.Proofs
variable (n:Nat)
def M9:BZ9:=Xa [⟨163,Le n⟩,⟨284,⟨X7 n,ZT n⟩⟩] [(5,⟨[],[],[(8,1008,287,2)],[],[]⟩)]
def BV:LZ9:=mkU (M9 n).ok nT 6 Tryz.f273 [Qlw,Qlx,Qme,(27,.l 2),(28,tI),(29,tI)] [Qm6,QnA,(1008,.arr 287 2)] 39631 [xE 0 [(30,.b)]] @ZM n
def Q1W:EZ9 273:=mkD (M9 n).ok [BV n n] 273 Tryz.f273 0 @Sc n
def RF:BZ9:=Xa [⟨273,Q1W n⟩,⟨162,KM n⟩,⟨269,Hb n⟩] []
def CP:LZ9:=mkU (RF n).ok nT 7 Tryz.f257 [Qlx,Qm1,QlA,(8,.l 2),Qlc,(29,.l 2),(30,tI),(31,tI)] [Qm3,Qmh,(6,.box Qlg)] 61434 [.f .ret [(6,.ptr 6 0),(7,.ci .i64 12)] [(6,.box Qlg)] [],xE 0 [(32,.b)]] @Wm n
def Mb:EZ9 257:=mkD (RF n).ok [CP n n] 257 Tryz.f257 0 @KC n
def N1:EZ9 219:=mkD (Xa [⟨257,Mb n⟩] []).ok nT 219 Tryz.f219 0 @JS n
def DD:EZ9 167:=mkD (Xa [⟨169,SV n⟩,⟨219,N1 n⟩,⟨171,RI n⟩,⟨170,MH n⟩] []).ok nT 167 Tryz.f167 0 @Ji n
def G3:BZ9:=Xa [⟨159,TB n⟩,⟨164,YG n⟩,⟨166,F9 n⟩,⟨167,DD n⟩] []
def Fj:LZ9:=mkU (G3 n).ok nT 15 Tryz.f112 [Qlw,Qlx,QlA,QmI,Qld,Qlf,(50,tI),(51,tI)] [Qm6,Qml,(6,bT 87 [])] 5230176669 [.f .ret [(4,tI)] [] [0],xE 3 [(52,.b)]] @Zk n
def Lv:LZ9:=mkU (G3 n).ok [Fj n n] 2 Tryz.f112 [Qlw,Qlx,QmI,Qld,Qlf] Qmk 7174462 [.f .ret [(4,tI)] [] [0],xE 0 [(13,.b)]] @Zj n
def PY:EZ9 112:=mkD (G3 n).ok [Lv n n] 112 Tryz.f112 0 @UJ n
end Go.Vx
namespace Go.Vx
open Go.Proofs Go.RowKit
theorem Q7f {S:Nat->Prop} {w:World} {v:Value} {x:D} (h:Rd S w v x):v.oneCell'=true:=by cases h <;> rfl
theorem RdLs.one {S:Nat->Prop} {w:World} {vs:List Value} {xs:List D} (h:RdLs S w vs xs):∀ x∈vs,x.oneCell'=true:=by
 induction h with
 |nil=>simp
 |cons h _ ih=>
  intro x hx;rcases Qqq.1 hx with rfl | hx
  ·exact Q7f h
  ·exact ih x hx
theorem RdLs.len {S:Nat->Prop} {w:World} {vs:List Value} {xs:List D} (h:RdLs S w vs xs):vs.length=xs.length:=by
 induction h with
 |nil=>rfl
 |cons _ _ ih=>simp [ih]
theorem RdLs.keep {S:Nat->Prop} {w w':World} {m:Nat} {vs:List Value} {xs:List D} (h:RdLs S w vs xs) (hS:∀ b,S b->b<m) (hw:∀ b,b<m->w'.heap[b]? = w.heap[b]?):RdLs S w' vs xs:=by
 induction h with
 |nil=>exact .nil
 |cons h _ ih=>exact .cons (Rd.keep h hS hw) ih
def KL (a b c d:LL):List D:=[D.sl 1 a,D.sl 1 b,D.sl 5 c,D.sl 6 d]
def Kz (a:Int) (b c d e f g h:LL):List D:=[D.int .i64 a,D.sl 5 b,D.sl 2 c,D.sl 4 d,D.sl 7 e,D.sl 4 f,D.sl 5 g,D.sl 3 h]
theorem DM {n:Nat} {a c d f:LL} {g:Int} {i j k l m o p:LL} (h:Uw n a c d f g i j k l m o p some=some 0) {S:Nat->Prop} {w:World} (hS:∀ b,S b->b<w.heap.size) {vs us:List Value} (q:RdLs S w vs (KL a c d f)) (s:RdLs S w us (Kz g i j k l m o p)) :
  Calls Tryz.prog 109 #[.agg vs.toArray,.agg us.toArray] w fun e w'=>e = .returned (.int .i64 0)/\Below w.heap.size w w':=by
 have he:(Pj n).E Dl 0 true [.ag ((KL a c d f).map .d),.ag ((Kz g i j k l m o p).map .d)] (fun _=>none) some=some ⟨.d (.int .i64 0),[],[]⟩:=by
  show gb true (Uw n a c d f g i j k l m o p some) 0 (fun r=>(some ⟨.d (D.int .i64 r),[],[]⟩:oP Dl))=_;rw [h];rfl
 exact Gf (Y2 ((Pj n).ok) he) hS (KV (RdLs.agg q) (RdLs.agg s))
theorem En {n:Nat} {a c d f:LL} {g:Int} {i j k l m o p:LL} (h:WK n a c d f g i j k l m o p some=some 0) {S:Nat->Prop} {w:World} (hS:∀ b,S b->b<w.heap.size) {vs us:List Value} (q:RdLs S w vs (KL a c d f)) (s:RdLs S w us (Kz g i j k l m o p)) :
  Calls Tryz.prog 110 #[.agg vs.toArray,.agg us.toArray] w fun e w'=>e = .returned (.int .i64 0)/\Below w.heap.size w w':=by
 have he:(TD n).E Dl 0 true [.ag ((KL a c d f).map .d),.ag ((Kz g i j k l m o p).map .d)] (fun _=>none) some=some ⟨.d (.int .i64 0),[],[]⟩:=by
  show gb true (WK n a c d f g i j k l m o p some) 0 (fun r=>(some ⟨.d (D.int .i64 r),[],[]⟩:oP Dl))=_;rw [h];rfl
 exact Gf (Y2 ((TD n).ok) he) hS (KV (RdLs.agg q) (RdLs.agg s))
theorem Ev {n:Nat} {a c d f:LL} {g:Int} {i j k l m o p:LL} (h:WI n a c d f g i j k l m o p some=some 0) {S:Nat->Prop} {w:World} (hS:∀ b,S b->b<w.heap.size) {vs us:List Value} (q:RdLs S w vs (KL a c d f)) (s:RdLs S w us (Kz g i j k l m o p)) :
  Calls Tryz.prog 111 #[.agg vs.toArray,.agg us.toArray] w fun e w'=>e = .returned (.int .i64 0)/\Below w.heap.size w w':=by
 have he:(TH n).E Dl 0 true [.ag ((KL a c d f).map .d),.ag ((Kz g i j k l m o p).map .d)] (fun _=>none) some=some ⟨.d (.int .i64 0),[],[]⟩:=by
  show gb true (WI n a c d f g i j k l m o p some) 0 (fun r=>(some ⟨.d (D.int .i64 r),[],[]⟩:oP Dl))=_;rw [h];rfl
 exact Gf (Y2 ((TH n).ok) he) hS (KV (RdLs.agg q) (RdLs.agg s))
theorem DO {n:Nat} {a c d f:LL} {g:Int} {i j k l m o p:LL} (h:UJ n a c d f g i j k l m o p some=some 0) {S:Nat->Prop} {w:World} (hS:∀ b,S b->b<w.heap.size) {vs us:List Value} (q:RdLs S w vs (KL a c d f)) (s:RdLs S w us (Kz g i j k l m o p)) :
  Calls Tryz.prog 112 #[.agg vs.toArray,.agg us.toArray] w fun e w'=>e = .returned (.int .i64 0)/\Below w.heap.size w w':=by
 have he:(PY n).E Dl 0 true [.ag ((KL a c d f).map .d),.ag ((Kz g i j k l m o p).map .d)] (fun _=>none) some=some ⟨.d (.int .i64 0),[],[]⟩:=by
  show gb true (UJ n a c d f g i j k l m o p some) 0 (fun r=>(some ⟨.d (D.int .i64 r),[],[]⟩:oP Dl))=_;rw [h];rfl
 exact Gf (Y2 ((PY n).ok) he) hS (KV (RdLs.agg q) (RdLs.agg s))
theorem Lm {n:Nat} {a c d f:LL} {g:Int} {i j k l m o p:LL} (h:Wa n a c d f g i j k l m o p some=some 0) {S:Nat->Prop} {w:World} (hS:∀ b,S b->b<w.heap.size) {vs us:List Value} (q:RdLs S w vs (KL a c d f)) (s:RdLs S w us (Kz g i j k l m o p)) :
  Calls Tryz.prog 113 #[.agg vs.toArray,.agg us.toArray] w fun e w'=>e = .returned (.int .i64 0)/\Below w.heap.size w w':=by
 have he:(Td n).E Dl 0 true [.ag ((KL a c d f).map .d),.ag ((Kz g i j k l m o p).map .d)] (fun _=>none) some=some ⟨.d (.int .i64 0),[],[]⟩:=by
  show gb true (Wa n a c d f g i j k l m o p some) 0 (fun r=>(some ⟨.d (D.int .i64 r),[],[]⟩:oP Dl))=_;rw [h];rfl
 exact Gf (Y2 ((Td n).ok) he) hS (KV (RdLs.agg q) (RdLs.agg s))
theorem Dc {n:Nat} {a c d f:LL} {g:Int} {i j k l m o p:LL} (h:UH n a c d f g i j k l m o p some=some 0) {S:Nat->Prop} {w:World} (hS:∀ b,S b->b<w.heap.size) {vs us:List Value} (q:RdLs S w vs (KL a c d f)) (s:RdLs S w us (Kz g i j k l m o p)) :
  Calls Tryz.prog 114 #[.agg vs.toArray,.agg us.toArray] w fun e w'=>e = .returned (.int .i64 0)/\Below w.heap.size w w':=by
 have he:(Py n).E Dl 0 true [.ag ((KL a c d f).map .d),.ag ((Kz g i j k l m o p).map .d)] (fun _=>none) some=some ⟨.d (.int .i64 0),[],[]⟩:=by
  show gb true (UH n a c d f g i j k l m o p some) 0 (fun r=>(some ⟨.d (D.int .i64 r),[],[]⟩:oP Dl))=_;rw [h];rfl
 exact Gf (Y2 ((Py n).ok) he) hS (KV (RdLs.agg q) (RdLs.agg s))
theorem D9 {n:Nat} {a c d f:LL} {g:Int} {i j k l m o p:LL} (h:UA n a c d f g i j k l m o p some=some 0) {S:Nat->Prop} {w:World} (hS:∀ b,S b->b<w.heap.size) {vs us:List Value} (q:RdLs S w vs (KL a c d f)) (s:RdLs S w us (Kz g i j k l m o p)) :
  Calls Tryz.prog 115 #[.agg vs.toArray,.agg us.toArray] w fun e w'=>e = .returned (.int .i64 0)/\Below w.heap.size w w':=by
 have he:(PI n).E Dl 0 true [.ag ((KL a c d f).map .d),.ag ((Kz g i j k l m o p).map .d)] (fun _=>none) some=some ⟨.d (.int .i64 0),[],[]⟩:=by
  show gb true (UA n a c d f g i j k l m o p some) 0 (fun r=>(some ⟨.d (D.int .i64 r),[],[]⟩:oP Dl))=_;rw [h];rfl
 exact Gf (Y2 ((PI n).ok) he) hS (KV (RdLs.agg q) (RdLs.agg s))
theorem F0 {n:Nat} {a c d f:LL} {g:Int} {i j k l m o p:LL} (h:ZU n a c d f g i j k l m o p some=some 0) {S:Nat->Prop} {w:World} (hS:∀ b,S b->b<w.heap.size) {vs us:List Value} (q:RdLs S w vs (KL a c d f)) (s:RdLs S w us (Kz g i j k l m o p)) :
  Calls Tryz.prog 116 #[.agg vs.toArray,.agg us.toArray] w fun e w'=>e = .returned (.int .i64 0)/\Below w.heap.size w w':=by
 have he:(HR n).E Dl 0 true [.ag ((KL a c d f).map .d),.ag ((Kz g i j k l m o p).map .d)] (fun _=>none) some=some ⟨.d (.int .i64 0),[],[]⟩:=by
  show gb true (ZU n a c d f g i j k l m o p some) 0 (fun r=>(some ⟨.d (D.int .i64 r),[],[]⟩:oP Dl))=_;rw [h];rfl
 exact Gf (Y2 ((HR n).ok) he) hS (KV (RdLs.agg q) (RdLs.agg s))
theorem Fb:∀ (n k:Nat),Kl (fun _=>0) n k=0
 |0,_=>rfl
 |n+1,k=>by simp [Kl,Fb n (k+1)]
theorem Q4G (n:Nat) (a c d f:LL) (g:Int) (i j l m o p q:LL) (res:Int) {hl:Nat->oP Ob} (h:VQ n a c d f g i j l m o p q some=some res):ZA Tryz.prog 73 [.ag [.d (D.sl 1 a),.d (D.sl 1 c),.d (D.sl 5 d),.d (D.sl 6 f)],.ag [.d (D.int .i64 g),.d (D.sl 5 i),.d (D.sl 2 j),.d (D.sl 4 l),.d (D.sl 7 m),.d (D.sl 4 o),.d (D.sl 5 p),.d (D.sl 3 q)]] hl ⟨.d (D.int .i64 res),[],[]⟩:=by
 obtain ⟨ao,h⟩:=XA h;injection h with h
 subst h;simp only [Q97,Qqn] at ao;obtain ⟨⟨⟨⟨⟨⟨⟨k0,k1⟩,k2⟩,k3⟩,k4⟩,k5⟩,k6⟩,k7⟩:=ao;refine Mm (fn:=Tryz.f73) (by kernel_rfl) (by kernel_rfl) (by kernel_rfl) rfl rfl fun S w args hS hA=>?_
 obtain ⟨v,u,rfl,hv,hu⟩:=Qaw hA;obtain ⟨vs,rfl,hr⟩:=Q45 (xs:=KL a c d f) hv;obtain ⟨us,rfl,hq⟩:=Q45 (xs:=Kz g i j l m o p q) hu;have ak:=hr.len;have al:=hq.len
 match vs,us,ak,al with
 |[v0,r,s,t],[y,z,u2,u3,u4,u5,u6,u7],_,_=>
  refine (Tryz.plancheck_calls w v0 r s t y z u2 u3 u4 u5 u6 u7 (fun _=>0) (fun k hk w' hs hw=>?_) (fun x hx=>?_)).mono fun e w' ⟨he,hB⟩=>?_
  ·have aj:∀ b,S b->b<w'.heap.size:=fun b hb=>Qqm (hS b hb) hs
   have ac:=hr.keep hS hw;have an:=hq.keep hS hw;obtain rfl | rfl | rfl | rfl | rfl | rfl | rfl | rfl:k=0\/k=1\/k=2\/k=3\/k=4\/k=5\/k=6\/k=7:=QnI
   ·exact DM (Vv k0) aj ac an
   ·exact En (Vv k1) aj ac an
   ·exact Ev (Vv k2) aj ac an
   ·exact DO (Vv k3) aj ac an
   ·exact Lm (Vv k4) aj ac an
   ·exact Dc (Vv k5) aj ac an
   ·exact D9 (Vv k6) aj ac an
   ·exact F0 (Vv k7) aj ac an
  ·rcases List.mem_append.1 (show x∈[v0,r,s,t]++[y,z,u2,u3,u4,u5,u6,u7] from hx) with h | h
   ·exact hr.one x h
   ·exact hq.one x h
  ·rw [Fb] at he;exact ⟨_,S,he,fun b h=>h,fun b h=>.inl h,fun b h=>Qqm (hS b h) hB.size,.d _ _ (.int _ _),hB⟩
end Go.Vx
namespace Go.Vx
open Go.Proofs
variable (n:Nat)
def TE (n:Nat):Tv:=fun _ _ g aj _ k=>match aj with
 | [c0,c1]=>
  prG c0 fun l0=>(match l0 with
  | [a,b,c,d]=>prS g 1 a fun e=>prS g 1 b fun f=>prS g 5 c fun h=>prS g 6 d fun i=>
  prG c1 fun l1=>(match l1 with
  | [j,l,m,o,p,q,s,t]=>prI g .i64 j fun u=>prS g 5 l fun v=>prS g 2 m fun x=>prS g 4 o fun y=>prS g 7 p fun z=>prS g 4 q fun aa=>prS g 5 s fun ab=>prS g 3 t fun ac=>
  gb g (VQ n e f h i u v x y z aa ab ac some) 0 fun r=>k ⟨.d (D.int .i64 r),[],[]⟩
  | _=>none)
  | _=>none)
 | _=>none
theorem LV (n:Nat):Jq Tryz.prog 73 (TE n):=by
  intro R ak g al hl k r h
  unfold TE at h
  split at h
  rotate_left
  · cases h
  replace h:=Q1r h
  obtain ⟨l0,h,q⟩:=h
  subst q
  split at h
  rotate_left
  · cases h
  replace h:=U0 h
  obtain ⟨a,h,s⟩:=h
  replace h:=U0 h
  obtain ⟨b,h,t⟩:=h
  replace h:=U0 h
  obtain ⟨c,h,u⟩:=h
  replace h:=U0 h
  obtain ⟨d,h,v⟩:=h
  replace h:=Q1r h
  obtain ⟨l1,h,e1⟩:=h
  subst e1
  split at h
  rotate_left
  · cases h
  replace h:=Q12 h
  obtain ⟨e,h,x⟩:=h
  replace h:=U0 h
  obtain ⟨f,h,y⟩:=h
  replace h:=U0 h
  obtain ⟨i,h,z⟩:=h
  replace h:=U0 h
  obtain ⟨j,h,aa⟩:=h
  replace h:=U0 h
  obtain ⟨l,h,ab⟩:=h
  replace h:=U0 h
  obtain ⟨m,h,ac⟩:=h
  replace h:=U0 h
  obtain ⟨o,h,ad⟩:=h
  replace h:=U0 h
  obtain ⟨p,h,ae⟩:=h
  replace h:=QO h
  obtain ⟨res,h,hr⟩:=h
  exact ⟨_,h,fun hg=>ZA.conv (avs':=[.ag [.d (D.sl 1 a),.d (D.sl 1 b),.d (D.sl 5 c),.d (D.sl 6 d)],.ag [.d (D.int .i64 e),.d (D.sl 5 f),.d (D.sl 2 i),.d (D.sl 4 j),.d (D.sl 7 l),.d (D.sl 4 m),.d (D.sl 5 o),.d (D.sl 3 p)]]) (.cons (.ag (.cons (s hg) (.cons (t hg) (.cons (u hg) (.cons (v hg) .nil))))) (.cons (.ag (.cons (x hg) (.cons (y hg) (.cons (z hg) (.cons (aa hg) (.cons (ab hg) (.cons (ac hg) (.cons (ad hg) (.cons (ae hg) .nil))))))))) .nil)) (Q4G n a b c d e f i j l m o p res (hr hg))⟩
end Go.Vx
set_option maxRecDepth 100000
namespace Go.Vx
open Go.Proofs
variable (n:Nat)
def PL:BZ9:=Xa [⟨257,Mb n⟩,⟨268,DG n⟩,⟨269,Hb n⟩,⟨239,Fl n⟩] [(7,⟨[],[],[(6,1006,3,1),(7,1007,3,1)],[],[]⟩)]
def Eh:LZ9:=mkU (PL n).ok nT 8 Tryz.f238 [Qlx,Qm1,Ql0,Qmq,(11,.l 1),(13,.l 2),Qlq,(38,.l 2),(39,tI),(40,tI)] [Qm3,Qmh,(1006,.arr 3 1),(1007,.arr 3 1)] 114975580 [xE 0 [(41,.b)]] @XK n
def Dq:EZ9 238:=mkD (PL n).ok [Eh n n] 238 Tryz.f238 0 @Kn n
def Q2D:EZ9 282:=mkD (Xa [⟨158,⟨Jd n,T3 n⟩⟩] []).ok nT 282 Tryz.f282 0 @Ny n
def M3:BZ9:=Xa [⟨282,Q2D n⟩,⟨251,HF n⟩,⟨283,Ai n⟩] [(7,⟨[],[],[(6,1006,210,4)],[],[]⟩)]
def Az:LZ9:=mkU (M3 n).ok nT 8 Tryz.f270 [Qm1,Ql0,(23,.l 6),(24,tI),(25,tI)] [Qny,(1006,.arr 210 4)] 616 [xE 0 [(26,.b)]] @ZR n
def Q1B:EZ9 270:=mkD (M3 n).ok [Az n n] 270 Tryz.f270 0 @MF n
def JM:BZ9:=Xa [⟨270,Q1B n⟩] []
def PR:LZ9:=mkU (JM n).ok nT 2 Tryz.f243 [Qm1,(11,.l 4),Qlf,Qln] [Qny] 130 [.f .ret [(6,tI)] [] [0],xE 0 [(14,.b)]] @Zf n
def SB:EZ9 243:=mkD (JM n).ok [PR n n] 243 Tryz.f243 0 @Z6 n
def UV:BZ9:=Xa [⟨238,Dq n⟩,⟨239,Fl n⟩,⟨240,BL n⟩,⟨241,MN n⟩,⟨242,Ss n⟩,⟨243,SB n⟩,⟨244,N0 n⟩] []
def SF:LZ9:=mkU (UV n).ok nT 7 Tryz.f204 [QkY,Qm1,QlA,(13,.l 1),(14,.l 1),Qlk,(17,tI),(18,.arr 48),QmN] [(5,bT 27 []),(6,.box Qmb),(48,.arr 170 3)] 1063461 [xE 0 [(51,.b)]] @XC n
def SD:LZ9:=mkU (UV n).ok nT 14 Tryz.f204 [Qm1,QlA,Qlk,(17,tI),(18,.arr 84),(20,.ptr 20 0),(21,.arr 50095),(97,.l 2),(98,tI),(99,tI)] [(5,bT 27 []),(6,.box Qmb),(20,.box [.ci .i64 0,tI,tI]),(84,.arr 170 3),(50095,.arr 170 3)] 13492776 [xE 2 [(100,.b)]] @Qi n
def GC:EZ9 204:=mkD (UV n).ok [SF n n,SD n n] 204 Tryz.f204 0 @Zz n
def Ba:EZ9 190:=mkD (Xa [⟨219,N1 n⟩,⟨204,GC n⟩] []).ok nT 190 Tryz.f190 0 @ZI n
def KP:BZ9:=Xa [⟨73,⟨TE n,LV n⟩⟩,⟨189,BY n⟩,⟨190,Ba n⟩] [(5,⟨[],[],[(7,1007,97,1),(8,1008,3,1)],[],[]⟩)]
def DC:LZ9:=mkU (KP n).ok nT 9 Tryz.f134 [Qlw,Qlx,Qmq,Qme,Qlc,Qli,(23,.l 4),(24,tI),(25,tI),(31,.l 4),(32,tI),(33,tI)] [Qm6,Qml,(10,.box Qma),Qmt,Qmu] 788594406049 [.f .ret [(4,.nil),(5,.nil),(6,tI)] [] [0],xE 2 [(34,.b)]] @XS n
def Dm:LZ9:=mkU (KP n).ok [DC n n] 6 Tryz.f134 [Qlw,Qlx,Qmq,Qme,(23,.l 4),(24,tI),(25,tI)] Qmv 121965718 [.f .ret [(4,.nil),(5,.nil),(6,tI)] [] [0],xE 0 [(26,.b)]] @Zs n
def Bs:EZ9 134:=mkD (KP n).ok [Dm n n] 134 Tryz.f134 0 @Ht n
def Cn:EZ9 81:=mkD (Xa [⟨73,⟨TE n,LV n⟩⟩,⟨133,Ky n⟩,⟨134,Bs n⟩,⟨135,KR n⟩,⟨136,Tl n⟩,⟨137,GS n⟩,⟨138,Gv n⟩] [(3,⟨[],[],[],[(20,12,2812,3,1),(20,13,2813,97,1),(20,14,2814,3,1),(20,15,2815,273,4),(20,17,2817,104,3),(20,18,2818,67,6)],[]⟩)]).ok nT 81 Tryz.f81 0 @Gn n
def E9:EZ9 142:=mkD (Xa [⟨204,GC n⟩] []).ok nT 142 Tryz.f142 0 @VA n
def Yn:BZ9:=Xa [⟨140,Tq n⟩,⟨141,Vk n⟩,⟨142,E9 n⟩,⟨143,J7 n⟩,⟨144,Vs n⟩] []
def HI:LZ9:=mkU (Yn n).ok nT 17 Tryz.f84 [Qlx,Qm1,Qno,QkM,Qlc,QlU,(11,.ptr 11 0),Qlf,(14,.ptr 14 0),QkN,(46,.l 1),(47,tI),(48,tI),(77,.l 4),(78,tI),(79,tI),(128,.l 3),(129,tI),(130,tI)] [(3,.box Qn7),(4,.box [tI]),Qnq,(6,.box [tI]),(11,.box [.x,.x,.x,.x,.x]),(14,.box [.x,.x]),Qnl,Qnm,QnH] 5083869477025 [xE 4 [(131,.b)]] @QM n
def HB:LZ9:=mkU (Yn n).ok [HI n n] 9 Tryz.f84 [Qlx,Qm1,Qno,QkM,Qlc,QlU,(11,.ptr 11 0),(46,.l 1),(47,tI),(48,tI),(77,.l 4),(78,tI),(79,tI)] [(3,.box Qn7),(4,.box [tI]),Qnq,(6,.box [tI]),(11,.box [.x,.x,.x,.x,.x]),Qnl,Qnm,QnH] 2019825192481251836 [xE 2 [(80,.b)]] @Qn n
def Hk:LZ9:=mkU (Yn n).ok [HB n n] 5 Tryz.f84 [Qlx,Qm1,Qno,QkM,(46,.l 1),(47,tI),(48,tI)] [(3,.box Qn7),(4,.box [tI]),Qnq,(6,.box [tI]),Qnl,Qnm,QnH] 34205931341042 [xE 0 [(49,.b)]] @Xm n
def T2:EZ9 84:=mkW (Yn n).ok [Hk n n] 84 Tryz.f84 (pT 1000000 188 Qni [sI,eA [qL 1,qB]]) [eT 0] [] 11792 1048575 @Z0 n
def GV:BZ9:=Xa [⟨81,Cn n⟩,⟨82,A4 n⟩,⟨83,PF n⟩,⟨74,RZ n⟩,⟨84,T2 n⟩] [(8,⟨[],[],[],[(39,18,1408,3,1)],[]⟩),(15,⟨[],[],[],[(39,20,503920,59,5)],[]⟩)]
def FI:LZ9:=mkU (GV n).ok nT 9 Tryz.f48 [Qm1,(12,.ptr 39 0),Qln,(41,.l 4),(42,tI),(43,tI)] [(5,bT 36 []),(39,bT 188 [(18,.arr 1408),(19,.ci .i64 0),(20,.nil)]),(1408,.arr 3 1)] 411782264189366 [xE 0 [(44,.b)]] @XJ n
def FP:LZ9:=mkU (GV n).ok nT 16 Tryz.f48 [(12,.ptr 39 0),(68,.l 2),(69,tI),(70,tI)] [(39,bT 188 [(18,.arr 1408),(20,.arr 503920)]),(1408,.arr 3 1),(503920,.arr 59 5)] 235307989435 [xE 2 [(71,.b)]] @Xr n
def DE:EZ9 48:=mkD (GV n).ok [FI n n,FP n n] 48 Tryz.f48 0 @Jk n
def Du:EZ9 16:=mkD (Xa [⟨48,DE n⟩] []).ok nT 16 Tryz.f16 0 @TU n
def law19_OccupancyOfAllTimes_VB:BZ9:=Xa [⟨6,Q41 n⟩,⟨7,Q1L n⟩,⟨15,Q1u n⟩,⟨19,Q3e n⟩,⟨20,Dn n⟩,⟨16,Du n⟩,⟨18,R8 n⟩] [(13,⟨[],[],[],[],[50030]⟩)]
def law19_OccupancyOfAllTimes_l1:LZ9:=mkU (law19_OccupancyOfAllTimes_VB n).ok nT 7 Tryz.f5 [Qm1,QlA,Qm2,(9,.arr 50030),(33,tI),(34,tI)] [(5,bT 27 []),(6,bT 36 []),(7,.box QmS),(50030,.arr 3 1)] 301327783 [xE 0 [(35,.b)]] @Ql n
end Go.Vx
