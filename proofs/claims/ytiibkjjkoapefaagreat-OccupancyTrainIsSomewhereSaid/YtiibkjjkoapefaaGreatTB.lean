/- Part of a proof. No conditions of their own. -/
import Derived.Test.YtiibkjjkoapefaaGreatTA
import Derived.Lib.AppendZeros
import Derived.LoopN
import Derived.ProofKit
import Derived.ChangeOld
import Derived.Carry
import Derived.ChangeArms
import Derived.WideShapes
import Derived.IntWalk
import Derived.KernelRfl
set_option linter.unusedVariables false
set_option linter.unusedSimpArgs false
noncomputable section
abbrev Qim:=@Nat.eq_of_beq_eq_true
abbrev Qin:=@Bool.and_eq_true
abbrev Qio:=@Option.map_eq_some_iff
abbrev Qip:=@List.getElem?_eq_some_iff
abbrev Qiq:=@List.mem_cons
abbrev Qir:=@List.getElem?_eq_getElem
abbrev Qis:=@Go.Result.andThen_ok
abbrev Qit:=@cond_true
abbrev Qiu:=@Bool.not_eq_true'
abbrev Qiv:=@Go.Sem.run_bind
abbrev Qiw:=@List.map_cons
abbrev Qix:=@Array.getElem?_eq_some_iff
abbrev Qiy:=@Bool.or_eq_false_iff
abbrev Qiz:=@List.mem_cons_of_mem
abbrev QiA:=@List.getElem?_drop
abbrev QiB:=@Bool.or_eq_true
abbrev QiC:=@Nat.zero_add
abbrev QiD:=@Array.getElem?_eq_getElem
abbrev QiE:=@List.mem_cons_self
abbrev QiF:=@Option.isSome_iff_exists
abbrev QiG:=@cond_false
abbrev QiH:=@if_neg
abbrev QiI:=@List.mem_map
abbrev QiJ:=@Array.getElem?_toList
abbrev QiK:=@List.mem_append_left
abbrev QiL:=@List.getElem?_eq_none
abbrev QiM:=@Nat.beq_refl
abbrev QiN:=@Nat.le_of_ble_eq_true
namespace Go.Vx
section
variable {P:Program} {E:Env} {R:Type}
theorem Q2b {tt:TT} (hT:TOk P tt) {o:Oper} {c:Call} {s x:Operand} {t tn:Nat} (ho:o.op = .call c) (ay:c.callee = .builtin .append) (ha:c.args.toList=[s,x]) (hat:c.argTypes.toList=[t,tn]) {g:Bool} {ak:Nat} {ev:Operand->AV} {hl:Nat->Option Ob} {k:Dl->Option R} {r:R}
  (h:Q0W tt hl ak g t tn (ev s) (ev x) k=some r):∃ dl,k dl=some r/\(g=true->GO P E o ev hl dl):=by
 have ao:c.args = #[s,x]:=by grind
 have bb:c.argTypes = #[t,tn]:=by grind
 have bv:s∈o.op.operands.toList:=by grind [Op.operands,Call.operands]
 have bn:x∈o.op.operands.toList:=by simp [ho,Op.operands,Call.operands,ay,ao]
 unfold Q0W at h;split at h
 case h_2=>cases h
 rename_i e ar kn kx n hk bi bp b0;split at h
 case h_2=>cases h
 rename_i ei aq;cases hc:(Nat.ble 1 ei.bytes&&Nat.beq (N9 tt e).length ar) with
 |false=>simp_all
 |true=>
  simp only [hc,Qit] at h;simp only [Qin] at hc;have au:=QiN hc.1;have az:=Qim hc.2;have bx:N9 tt e=ei.zd:=by simp [N9,aq]
  rw [bx] at az h;obtain ⟨_,h,a3⟩:=QM h;obtain ⟨_,h,ac⟩:=QM h;obtain ⟨hn,h⟩:=UR h;refine ⟨_,h,fun hg=>?_⟩;have ac:=N2 (ac hg);have a3:0<n:=by
   have:=a3 hg;cases hd:decide (0<n) with
   |true=>simpa using hd
   |false=>simp [hd] at this
  obtain ⟨ti,bz,bo⟩:=Xt hk (by simp);obtain ⟨hu,b6,inf,ax,a5⟩:=(hT t ti bz).ksl _ _ bo;obtain ⟨bq,bh,bg⟩:=Xt bi (by simp);have b1:=(hT tn bq bh).kint _ bg;obtain ⟨b3,aj,a8,bk,z,hz,ba⟩:=(hT e ei aq).inf;rw [ax] at aj;injection aj with aj
  subst aj;have an:z.cells.size=ar:=by rw [<- Array.length_toList,ba,(hT e ei aq).zlen,<- a8,a5]
  obtain ⟨m,rfl⟩:=Int.eq_ofNat_of_zero_le (Int.le_of_lt a3);have bj:0<m:=by omega
  simp only [Int.toNat_natCast] at ac h ⊢;have b7:m<=140737488355328:=Nat.le_trans (by have:=Nat.mul_le_mul_left m au;omega) ac;intro β S st a w hR hO hA b2 K Q hK;have a6:look st.h ak=none:=by rw [hA ak (.inr (by simp [wrL]))];exact hn
  have bl:Ur st ak=true:=by simpa [Wc,a6] using b2
  have hv:=(bp▸hO.at bv).nil_inv;have hx:=(b0▸hO.at bn).int_inv;have a9:=Lib.run_append_nil_zeros (P:=P) w t tn o.type e inf z kx kn hu b1 ax hz m bj (by omega) (by omega) (by rw [bk];omega);have a2:(execOp a.eval o).run P w = .ok (.value (.slice (some ⟨w.heap.size,0,none⟩) m (grownCap w m 0 e))) (w.drew.alloc (.cells (Builtin.zeroCells z.cells m++Builtin.zeroCells z.cells (grownCap w m 0 e-m)) e)):=by
   unfold execOp;rw [ho];simp only [resolve,ay,ao,bb,invoke,builtin,Qiv,Sem.run_pure,Qis,List.map_toArray,Qiw,List.map_nil,hv,hx,a9]
  unfold Oper.wp;rw [a2];refine hK _ _ ?_;have base:UU S w (Builtin.zeroCells z.cells m) z.cells.size (List.replicate m ei.zd):=
   UU.zero (by rw [az,an]) (Qcj hT aq (by rw [az,<- a8,a5]) ba) (Nat.le_refl _)
  rw [an] at base;have br:=grownCap_ge w m 0 e;have bm:grownCap w m 0 e<=maxLen:=grownCap_le_maxLen w m 0 e (by unfold maxLen;omega);have aw:(Builtin.zeroCells z.cells m).toList.length=m*ar:=by rw [Array.length_toList,size_zeroCells,an]
  have bc:(w.drew.alloc (.cells (Builtin.zeroCells z.cells m++Builtin.zeroCells z.cells (grownCap w m 0 e-m)) e)).ownsRow w.heap.size e ar (.slice (some ⟨w.heap.size,0,none⟩) m (grownCap w m 0 e)) m (Builtin.zeroCells z.cells m).toList:=by
   refine ⟨aw,.inr ⟨w.heap.size,_,_,rfl,Nat.le_refl _,heap_alloc_new w.drew _,br,bm,?_,?_⟩⟩
   ·simp only [Array.size_append,size_zeroCells,an,<- Nat.add_mul];congr 1;omega
   ·rw [Array.toList_append,<- aw];exact List.take_left
  have:=Ss (w':=w.drew.alloc (.cells (Builtin.zeroCells z.cells m++Builtin.zeroCells z.cells (grownCap w m 0 e-m)) e)) (base:=w.heap.size) (e:=e) (rows:=[]) (news:=List.replicate m ei.zd) (v:=.slice none 0 0) (xs:=[]) (vals:=(Builtin.zeroCells z.cells m).toList) (v':=.slice (some ⟨w.heap.size,0,none⟩) m (grownCap w m 0 e)) hR
   (fun i j r x h1 h2=>by rw [QiJ];exact base.2.2 i j r x h1 h2) (fun i r h1=>base.2.1 i r h1) a6 bl none (fun _ h=>by cases h) (fun b h=>by simp [Value.ownBlock] at h) (fun i j r y h1=>by simp at h1) (fun i r h1=>by simp at h1) (by simp)
   (by simpa using bc) ⟨rfl,rfl,rfl,by simp,fun k hk _=>heap_alloc_old w.drew _ k hk⟩ (.inr fun b hb=>by simp [Value.ownBlock] at hb;omega)
  exact this
theorem Qat {tt:TT} (hT:TOk P tt) {o:Oper} {t l:Nat} {x:Operand} {lo hi:Option Operand} (ho:o.op = .slice t x lo hi none) {u g:Bool} {aj:Nat} {ev:Operand->AV} (br:ev x = .arr l) {hl:Nat->Option Ob} {k:Dl->Option R} {r:R}
  (h:QgA tt hl aj u t l (Nc ev lo) (Nc ev hi) k=some r):∃ dl,k dl=some r/\(g=true->GO P E o ev hl dl):=by
 obtain ⟨bl,ay,a2⟩:=Q2f ho;unfold QgA at h;split at h
 case h_2=>cases h
 rename_i e ac h0 hk bh bi;cases ar:(u&&decide (h0=0)) with
 |false=>simp_all
 |true=>
  simp only [ar,Qit] at h;simp only [Qin,decide_eq_true_eq] at ar;obtain ⟨_,rfl⟩:=ar;split at h
  case h_2=>cases h
  rename_i e' s' rows ax;cases hb:(Nat.beq e e'&&Nat.beq ac s') with
  |false=>simp_all
  |true=>
   simp only [hb,Qit] at h;simp only [Qin] at hb;obtain rfl:=Qim hb.1;obtain rfl:=Qim hb.2;obtain ⟨hn,h⟩:=UR h;refine ⟨_,h,fun _=>?_⟩;intro β S st a w hR hO hA bb K Q hK;obtain ⟨ti,bq,bm⟩:=Xt hk (by simp);obtain ⟨hu,bv,inf,a7,bg⟩:=(hT t ti bq).ksl _ _ bm;have az:look st.h aj=none:=by rw [hA aj (.inr (by simp [wrL]))];exact hn
   have ak:look st.h l=some (.arr e ac rows):=by rw [hA l (.inl (by simp))];exact ax
   have bk:Ur st aj=true:=by simp [Wc,az] at bb;exact bb
   have hq:slB rows.length none (some 0)=some (0,0):=by simp [slB]
   have ao:∀ (ad:Option Addr) (cap:Nat),rows.length<=cap->a.eval x = .slice ad rows.length cap->(execOp a.eval o).run P w = .ok (.value (.slice (if cap=0 then ad else ad.map (·.add (0*ac))) 0 cap)) w:=by
    intro ad cap hc hx;have hb:=NJ (P:=P) true hc (ρ:=a.eval) (w:=w) hq (VH bh fun y hy=>hO.at (ay y hy)) (VH bi fun y hy=>hO.at (a2 y hy));unfold execOp;rw [ho];simp only [hx,Qiv,Instr.sliceAt,QO hu,Qis,Option.map_none];simp only [Instr.slice,Qiv,QO hu,Qis,hb,sizeOf,Yl a7,bg];rfl
   have an:Src S w ac (.slice none 0 0) [] []:=⟨.inl ⟨rfl,rfl⟩,by simp,by simp,by simp,by simp⟩;have a3:∀ (base:Nat) (v v':Value),(execOp a.eval o).run P w = .ok (.value v') w->w.ownsRow base e ac v' 0 []->(∀ b,v.ownBlock=some b->β l=some b)->v'.ownBlock=v.ownBlock->o.wp P a w K Q:=by
    intro base v v' hr a8 a6 hat;unfold Oper.wp;rw [hr];refine hK _ _ ?_;exact Ss (rows:=[]) (news:=[]) (v:=v) (xs:=[]) (vals:=[]) hR an.rd an.row az bk (some l) (fun l' h=>by injection h with h;subst h;simp [ak]) (fun b h=>⟨l,rfl,a6 b h⟩) (fun i j r y h1=>by simp at h1) (fun i r h1=>by simp at h1) (by simp) a8 (World.grownBy.refl _ _) (.inl hat)
   rcases RdA.arr_inv ak (br▸hO.at bl) with ⟨_,bn,hv⟩ | ⟨b,cap,cs,ty,fz,au,hv,hw,a5,aw,a9⟩
   ·subst bn;exact a3 w.heap.size (.slice none 0 0) (.slice none 0 0) (ao none 0 (Nat.le_refl _) hv) (World.ownsRow_nil w w.heap.size e ac) (fun b h=>by simp [Value.ownBlock] at h) rfl
   ·rcases hR.hr.ob l _ ak with ⟨ba,_⟩ | ⟨b2,bp,a4,aq,bx,b4,b6⟩
    ·rw [au] at ba;cases ba
    obtain rfl:b=b2:=by rw [au] at a4;injection a4
    obtain rfl:cs=bp:=by rw [hw] at aq;injection aq with h1;injection h1
    refine a3 0 (.slice (some ⟨b,0,none⟩) rows.length cap) (.slice (some ⟨b,0,none⟩) 0 cap) ?_ ⟨by simp,.inr ⟨b,cap,cs,rfl,Nat.zero_le _,aq,Nat.zero_le _,a9,a5,by simp⟩⟩ (fun b3 h=>by simp [Value.ownBlock] at h;subst h;exact au) rfl;have:=ao (some ⟨b,0,none⟩) cap aw hv;have e0:(if cap=0 then some (⟨b,0,none⟩:Addr) else (some (⟨b,0,none⟩:Addr)).map (·.add (0*ac)))=some ⟨b,0,none⟩:=by
     split
     ·rfl
     ·simp [Addr.add]
    rw [e0] at this;exact this
theorem Qau {tt:TT} (hT:TOk P tt) {o:Oper} {c:Call} {x:Operand} {t:Nat} (ho:o.op = .call c) (hc:c.callee = .builtin .len) (ha:c.args.toList=[x]) (hat:c.argTypes.toList=[t]) {ev:Operand->AV} {hl:Nat->Option Ob} {n:Int} {rd:List Nat}
  (h:Qgl tt hl t (ev x)=some (n,rd)):GO P E o ev hl ⟨.d (.int .i64 n),[],rd⟩:=by
 have aj:x∈o.op.operands.toList:=by grind [Op.operands,Call.operands]
 unfold Qgl at h;split at h
 ·rename_i e au hk;split at h
  ·rename_i s rows ac;cases h;refine Ql fun β S st a w hR hO hA=>?_
   obtain ⟨ad,cap,hx⟩:=(ac▸hO.at aj).d_inv.len;exact ⟨_,HK hT ho hc ha hat hk hx,.d _ _ (.int _ _)⟩
  ·rename_i ac;cases h;refine Ql fun β S st a w hR hO hA=>?_
   have hx:=(ac▸hO.at aj).nil_inv;exact ⟨_,HK hT ho hc ha hat hk hx,.d _ _ (.int _ _)⟩
  ·rename_i l ac;split at h
   ·rename_i e' s rows ao;cases h;refine Ql fun β S st a w hR hO hA=>?_
    have aq:look st.h l=some (.arr e' s rows):=by rw [hA l (.inl (by simp))];exact ao
    rcases RdA.arr_inv aq (ac▸hO.at aj) with ⟨_,rfl,hx⟩ | ⟨b,cap,cs,ty,fz,_,hx,_⟩
    ·exact ⟨_,HK hT ho hc ha hat hk hx,.d _ _ (.int _ _)⟩
    ·exact ⟨_,HK hT ho hc ha hat hk hx,.d _ _ (.int _ _)⟩
   ·cases h
  ·cases h
 ·rename_i hk;split at h
  ·rename_i s ac;cases h;refine Ql fun β S st a w hR hO hA=>?_
   have hx:=(ac▸hO.at aj).d_inv;generalize hy:a.eval x=y at hx;cases hx with
   |str s'=>
    refine ⟨_,Q4i hT ho hc ha hat hk hy,?_⟩;have:s'.data.toList.length=s'.size:=by rfl
    rw [this];exact .d _ _ (.int _ _)
  ·cases h
 ·cases h
theorem Q04 {ρ:Operand->Value} {ev:Operand->AV} {β:Nat->Option Nat} {S:Nat->Prop} {h:Nat->Option Ob} {w:World} {tm:Nat->Value} (isMin:Bool) :
  ∀ (r:List Operand) (av v:AV) (u:Value),RdA β S h w tm u av->(∀ x∈r,RdA β S h w tm (ρ x) (ev x))->Co isMin av (r.map ev)=some v ->
   ∃ u',((r.map ρ).foldlM (if isMin then Builtin.min2 else Builtin.max2) u:Sem Value).run P w = .ok u' w/\RdA β S h w tm u' v
 |[],av,v,u,hu,_,hm=>by
  simp_all [Co]
 |x::r,av,v,u,hu,hr,hm=>by
  unfold Co at hm;split at hm
  ·simp_all
  ·rename_i k a k' b r' aj;injection aj with h1 h2
   cases hk:(k == k') with
   |false=>simp_all
   |true=>
    simp only [hk,Qit] at hm;have ak:=(h1▸hr x (by simp)).int_inv;have an:=hu.int_inv;subst h2;obtain ⟨u',g1,g2⟩:=Q04 isMin r _ v (.int k (bif isMin then (if b<a then b else a) else (if a<b then b else a))) (.d _ _ (.int _ _)) (fun y hy=>hr y (by simp [hy])) hm;refine ⟨u',?_,g2⟩;simp only [Qiw,List.foldlM_cons,Qiv,an,ak];cases isMin with
    |true=>assumption
    |false=>assumption
  ·cases hm
theorem BK {o:Oper} {c:Call} {x:Operand} {r:List Operand} {isMin:Bool} (ho:o.op = .call c) (hc:c.callee = .builtin (if isMin then .min else .max)) (ha:c.args.toList=x::r) {ev:Operand->AV} {hl:Nat->Option Ob} {v:AV}
  (h:Co isMin (ev x) (r.map ev)=some v):GO P E o ev hl ⟨v,[],[]⟩:=by
 have ac:∀ y,y∈c.args.toList->y∈o.op.operands.toList:=by
  grind [Op.operands,Call.operands]
 refine Ql fun β S st a w hR hO hA=>?_
 obtain ⟨u,g1,g2⟩:=Q04 (P:=P) (ρ:=a.eval) isMin r (ev x) v (a.eval x) (hO.at (ac x (by simp [ha]))) (fun y hy=>hO.at (ac y (by simp [ha,hy]))) h;refine ⟨u,?_,g2⟩;have aj:(c.args.map a.eval).toList=a.eval x::r.map a.eval:=by simp_all
 unfold execOp;rw [ho];cases isMin with
 |true=>
  simp_all [if_true,resolve,invoke,builtin,Builtin.min_,Qiv,Sem.run_pure,Qis]
 |false=>
  simp only [Bool.false_eq_true,if_false] at hc g1;simp only [resolve,hc,invoke,builtin,Builtin.max_,Qiv,Sem.run_pure,Qis,aj,g1]
theorem Q0C {o:Oper} {f:Nat} {first ac:Array Operand} (ho:o.op = .makeFunc (.func f) first ac) (hf:first.toList=[]) {ev:Operand->AV} {hl:Nat->Option Ob}:GO P E o ev hl ⟨.fn f (ac.toList.map ev),[],[]⟩:=by
 refine Ql fun β S st a w hR hO hA=>⟨.func (.func f) #[] (ac.map a.eval),?_,.fn f _ _ (by simp) fun i x hx=>?_⟩
 ·simp_all [Array.ext',execOp,Instr.makeFunc]
 ·simp only [List.getElem?_map,Qio] at hx;obtain ⟨y,hy,rfl⟩:=hx;have aj:y∈o.op.operands.toList:=by
   grind [List.mem_of_getElem?,Op.operands]
  have hg:(ac.map a.eval).getD i undef=a.eval y:=by
   simp_all
  rw [hg];exact hO.at aj
theorem Fp {spec:Q4p} {tt:TT} (hS:CN P spec) (hT:TOk P tt) {o:Oper} {a2:Nat} {g u:Bool} {ev:Operand->AV} {hl:Nat->Option Ob} {k:Dl->Option R} {r:R}
  (h:vdl spec tt a2 g u ev hl o.op k=some r):∃ dl,k dl=some r/\(g=true->GO P E o ev hl dl):=by
 cases ho:o.op with
 |move x=>grind [vdl,Q2M]
 |assign x=>rw [ho] at h;simp only [vdl] at h;exact ⟨_,h,fun _=>Q2M (.inr ho)⟩
 |pick c x y=>
  rw [ho] at h;simp only [vdl] at h
  grind [Q7r]
 |alloc t=>
  rw [ho] at h;simp only [vdl] at h;split at h
  ·rename_i ti ar;cases u with
   |false=>simp at h
   |true=>
    simp only [Qit] at h;split at h
    ·rename_i e aq n hk;cases hb:Nat.beq ti.zd.length (n*aq) with
     |false=>simp_all
     |true=>
      simp only [hb,Qit] at h;obtain ⟨hn,h⟩:=UR h
      grind [Q46,Nat.eq_of_beq_eq_true]
    ·obtain ⟨hn,h⟩:=UR h;exact ⟨_,h,fun _=>Q7b hT ho ar hn⟩
  ·cases h
 |box t x=>
  rw [ho] at h;simp only [vdl] at h;split at h
  ·rename_i ti ar;cases hc:(u&&(Nat.beq (XN (ev x)).length ti.size&&(XN (ev x)).all Q1R)) with
   |false=>simp [hc] at h
   |true=>
    simp only [hc,Qit] at h;simp only [Qin] at hc;obtain ⟨hn,h⟩:=UR h;exact ⟨_,h,fun _=>Q9X ho hc.2.2 hn⟩
  ·cases h
 |build t ax=>
  rw [ho] at h;simp only [vdl] at h;split at h
  ·rename_i ti ar;cases hs:V8 ti.kd with
   |false=>simp [hs] at h
   |true=>
    simp only [hs,Qit] at h;split at h
    ·rename_i cs a7;exact ⟨_,h,fun _=>Q6U hT ho ar hs a7⟩
    ·cases h
  ·cases h
 |buildSlice t len ax=>
  rw [ho] at h;simp only [vdl] at h;obtain ⟨dl,h1,h2⟩:=Q4b hT ho h;exact ⟨dl,h1,fun _=>h2⟩
 |load t x=>rw [ho] at h;simp only [vdl] at h;exact Q7A hT ho h
 |store t x y=>
  rw [ho] at h;simp only [vdl] at h;cases u with
  |false=>simp at h
  |true=>
   simp only [Qit] at h;split at h
   ·rename_i e aq n l hk an;obtain ⟨dl,h1,h2⟩:=Q4c hT ho hk an h;exact ⟨dl,h1,fun _=>h2⟩
   ·obtain ⟨dl,h1,h2⟩:=Q6P hT ho h;exact ⟨dl,h1,fun _=>h2⟩
 |nilCheck x=>
  rw [ho] at h;simp only [vdl] at h;split at h
  ·rename_i l o' hv;exact ⟨_,h,fun _=>FV ho hv⟩
  ·rename_i l o' hv;exact ⟨_,h,fun _=>Du ho hv⟩
  ·rename_i l i o' hv;split at h
   ·rename_i ob a6;exact ⟨_,h,fun _=>DI ho (by simp [a6]) hv⟩
   ·cases h
  ·cases h
 |binOp op t x y t'=>rw [ho] at h;simp only [vdl] at h;exact Qa1 hT ho h
 |unOp op t x=>
  rw [ho] at h;simp only [vdl] at h;split at h
  ·rename_i v hv;exact ⟨_,h,fun _=>QcZ ho hv⟩
  ·cases h
 |convert s t x=>
  rw [ho] at h;simp only [vdl] at h;split at h
  ·rename_i ks kd h1 h2;split at h
   ·rename_i kn n h3;exact ⟨_,h,fun _=>Q3J hT ho h1 h2 h3⟩
   ·cases h
  ·rename_i e h1 h2;split at h
   ·rename_i h3;split at h
    ·rename_i rows rd h4;exact Q6A hT ho h1 h2 h3 h4 h
    ·cases h
   ·cases h
  ·rename_i h1 h2;split at h
   ·rename_i n h3;exact ⟨_,h,fun _=>Q1r hT ho h1 h2 h3⟩
   ·cases h
  ·rename_i e h1 h2;split at h
   ·rename_i h3;split at h
    ·rename_i n h4;exact ⟨_,h,fun _=>Q0F hT ho h1 h2 h3 h4⟩
    ·cases h
   ·cases h
  ·cases h
 |lookup t m x c=>
  rw [ho] at h;cases c with
  |true=>simp [vdl] at h
  |false=>
   simp only [vdl] at h;split at h
   ·rename_i f n ht hm hx;exact ⟨_,h,fun _=>Q4Q hT ho ht hm hx⟩
   ·rename_i l n ht hm hx;split at h
    ·rename_i t' f au;exact ⟨_,h,fun _=>Q3G hT ho ht hm hx au⟩
    ·cases h
   ·cases h
 |makeMap t q=>
  rw [ho] at h;cases q with
  |some q=>simp [vdl] at h
  |none=>
   simp only [vdl] at h;split at h
   ·cases u with
    |false=>simp at h
    |true=>
     simp only [Qit] at h;obtain ⟨hn,h⟩:=UR h;exact ⟨_,h,fun _=>Q35 ho hn⟩
   ·cases h
 |mapUpdate t m x v=>
  rw [ho] at h;simp only [vdl] at h;split at h
  ·rename_i l n b ht hm hx hv;split at h
   ·rename_i t' f au;cases u with
    |false=>simp at h
    |true=>
     simp only [Qit] at h;exact ⟨_,h,fun _=>AH hT ho ht hm hx hv au⟩
   ·cases h
  ·cases h
 |makeFunc f first ak=>
  rw [ho] at h;cases f with
  |func f=>
   simp only [vdl] at h;split at h
   ·rename_i ao;cases hc:Jl (ak.toList.map ev) with
    |false=>simp [hc] at h
    |true=>
     simp only [hc,Qit] at h;exact ⟨_,h,fun _=>Q0C ho ao⟩
   ·cases h
  |_=>simp [vdl] at h
 |makeSlice t l c=>
  rw [ho] at h;simp only [vdl] at h;obtain ⟨dl,h1,h2⟩:=Q8E hT ho h;exact ⟨dl,h1,fun _=>h2⟩
 |fieldAddr t x f=>
  rw [ho] at h;simp only [vdl] at h;obtain ⟨dl,h1,h2⟩:=Ab hT ho h;exact ⟨dl,h1,fun _=>h2⟩
 |field t x f=>rw [ho] at h;simp only [vdl] at h;exact Q6R hT ho h
 |indexAddr t x i=>
  rw [ho] at h;simp only [vdl] at h;split at h
  ·rename_i e aq n l hk an;exact CS hT ho hk an h
  ·exact Ae hT ho h
 |index t x i=>rw [ho] at h;simp only [vdl] at h;exact Q7a hT ho h
 |slice t x lo hi mx=>
  rw [ho] at h;cases mx with
  |none=>
   simp only [vdl] at h;split at h
   ·rename_i l an;exact Qat hT ho an h
   ·exact Q79 hT ho h
  |some mx=>simp only [vdl] at h;exact Q4J hT ho h
 |extract x i=>
  rw [ho] at h;simp only [vdl] at h;split at h
  ·rename_i l hx;split at h
   ·rename_i v hv;exact ⟨_,h,fun _=>Q2I ho hx hv⟩
   ·cases h
  ·cases h
 |call c=>
  rw [ho] at h;simp only [vdl] at h;split at h
  ·rename_i f hc;exact Q30 hS (Q6r ho hc) h
  ·rename_i t hc;split at h
   ·rename_i f cap ay;exact Q30 hS (Q76 ho hc ay) h
   ·cases h
  ·rename_i hc;split at h
   ·rename_i x t ha hat;split at h
    ·rename_i n rd hn;exact ⟨_,h,fun _=>Qau hT ho hc ha hat hn⟩
    ·cases h
   ·cases h
  ·rename_i hc;split at h
   ·rename_i x t ha hat;split at h
    ·rename_i e aq hk ay;refine ⟨_,h,fun _=>Ql fun β S st a w hR hO hA=>?_⟩;have aw:c.args = #[x]:=by rw [<- Array.toList_inj];simpa using ha
     have a4:x∈o.op.operands.toList:=by simp [ho,Op.operands,Call.operands,hc,aw]
     exact ⟨_,Q4t hT ho hc ha hat hk (ay▸hO.at a4).nil_inv,.d _ _ (.int _ _)⟩
    ·cases h
   ·cases h
  ·rename_i hc;split at h
   ·rename_i s x t t' ha hat;cases hb:Nat.beq t t' with
    |false=>simp only [hb,QiG] at h;exact Q2b hT ho hc ha hat h
    |true=>
     simp only [hb,Qit] at h;obtain rfl:=Qim hb;exact Q4H hT ho hc ha hat h
   ·cases h
  ·rename_i hc;split at h
   ·rename_i x r' ha;split at h
    ·rename_i v hv;exact ⟨_,h,fun _=>BK (isMin:=true) ho hc ha hv⟩
    ·cases h
   ·cases h
  ·rename_i hc;split at h
   ·rename_i x r' ha;split at h
    ·rename_i v hv;exact ⟨_,h,fun _=>BK (isMin:=false) ho hc ha hv⟩
    ·cases h
   ·cases h
  ·cases h
 |_=>rw [ho] at h;simp [vdl] at h
end
section
variable {P:Program} {E:Env} {R:Type}
theorem QbD {d t:Nat} {tm:List (Nat × AV)} {av:AV} (h:look tm t=some av) (hn:Q95 d tm=false):gds d av=false:=by
 induction tm with
 |nil=>trivial
 |cons x r ih=>
  grind [Q95,Bool.or_eq_false_iff,look,Nat.beq]
theorem Q8k {a:Act} {d:Nat} {v:Value} (hd:d<a.tmps.size) (t:Nat):tmv (a.put (some d) v) t=if t=d then v else tmv a t:=by
 unfold tmv Act.put;by_cases h:t<a.tmps.size
 ·by_cases e:t=d
  all_goals simp_all [QiH,Ne.symm]
 grind
theorem Cr {st:St} {a:Act} {w':World} {dl:Dl} {v:Value} {dst:Option Nat} (ho:Q27 st dl.v dst=true) (h:Out E st a dl v w'):Hd E (put st dst dl) (a.put dst v) w':=by
 obtain ⟨β,S,hR,hv⟩:=h;cases dst with
 |none=>exact ⟨β,S,hR.n,hR.dfr,hR.tm,hR.hr⟩
 |some d=>
  simp only [Q27,Qin,Qiu] at ho;obtain ⟨h1,h2,h3⟩:=ho;have hd:d<a.tmps.size:=by have:=QiN h1;have:=hR.n;grind
  refine ⟨β,S,?_,hR.dfr,fun t av ht=>?_,hR.hr⟩
  ·show (a.tmps.setIfInBounds d v).size=st.n;simpa using hR.n
  ·simp only [put,XL] at ht;have key:∀ (u:Value) (av:AV),gds d av=false->RdA β S (look (NL st.h dl.wr)) w' (tmv a) u av->RdA β S (look (put st (some d) dl).h) w' (tmv (a.put (some d) v)) u av:=by
    intro u av hg hr;refine hr.mono (fun _ h=>h) (fun _ _=>rfl) (fun _ _=>Keep.rfl_ ..) (fun t' aj=>?_);rw [Q8k hd,QiH (fun e=>by simp_all)]
   rw [Q8k hd];by_cases e:t=d
   ·simp_all
   ·rw [QiH e] at ht ⊢;exact key _ _ (QbD ht h3) (hR.tm t av ht)
theorem Q3v {β:Nat->Option Nat} {S:Nat->Prop} {st:St} {a:Act} {w:World} (hR:Rel E β S st a w) (x:Operand):RdA β S (look st.h) w (tmv a) (a.eval x) (evO st.tm x):=by
 cases x with
 |tmp t=>
  simp only [evO,lkT];cases h:look st.tm t with
  |none=>exact .top _
  |some av=>exact hR.tm t av h
 |const v=>exact B9 v
 |global g=>exact .top _
 |func f=>exact .fn f #[] [] rfl (fun i x h=>by simp at h)
theorem Sn {tm:List (Nat × AV)} {s:Nat} {av:AV} (h:lkT tm s=av) (hn:av≠.top):look tm s=some av:=by
 unfold lkT at h;cases hl:look tm s with
 |none=>simp_all
 |some b=>simp_all
theorem Q96 {e w:Bool}:bw e w=true↔e=w:=by cases e <;> cases w <;> simp [bw]
theorem Q21 {β:Nat->Option Nat} {S:Nat->Prop} {st:St} {a:Act} {w:World} (hR:Rel E β S st a w):∀ (f s:Nat) (b g:Bool) (ch:List (Nat × Bool)),ctx st.tm f s b=some (g,ch) ->
  (g=true↔tmv a s = .bool b)/\(g=true->∀ p∈ch,tmv a p.1 = .bool p.2)
 |0,s,b,g,ch,h=>by trivial
 |f+1,s,b,g,ch,h=>by
  unfold ctx at h;split at h
  ·rename_i e he;have hv:=(hR.tm s _ (Sn he (by simp))).bool_inv
   grind [bw,tmv,bool,Q96]
  ·rename_i s' w' e he;split at h
   ·rename_i g' l hc;obtain ⟨h1,h2⟩:=Q21 hR f s' w' g' l hc;have hv:=(hR.tm s _ (Sn he (by simp))).gd_inv;have h3:(g'=true/\bw e b=true)↔tmv a s = .bool b:=by
     rcases hv with ⟨h4,h5⟩ | ⟨h4,h5⟩
     ·rw [h5.bool_inv,Q96,h1];simp [h4]
     ·rw [h5,h1];constructor
      ·simp_all
      ·intro h;cases h
    grind
   ·cases h
  ·cases h
theorem Q37 {tm tm':List (Nat × AV)}:∀ (f s:Nat) (b g:Bool) (ch:List (Nat × Bool)),ctx tm f s b=some (g,ch)->(∀ p∈ch,lkT tm' p.1=lkT tm p.1)->ctx tm' f s b=some (g,ch)
 |0,s,b,g,ch,h,_=>by assumption
 |f+1,s,b,g,ch,h,hc=>by
  have hs:(s,b)∈ch:=by
   grind [ctx]
  have hl:=hc (s,b) hs;unfold ctx at h ⊢;split at h
  ·simp_all
  ·rename_i s' w' e he;split at h
   ·rename_i g' l ac;obtain ⟨rfl,rfl⟩:=h;have:=Q37 f s' w' g' l ac (fun p hp=>hc p (by simp [hp]))
    simp_all
   ·cases h
  ·cases h
theorem Q5J {s:Nat} {b:Bool}:∀ {l:List (Nat × Bool)},QcE l s b=true->(s,b)∈l
 |(x,y)::r,h=>by
  simp only [QcE,QiB,Qin] at h;rcases h with ⟨h1,h2⟩ | h
  ·simp_all
  ·simp [Q5J h]
theorem Qe4 {β:Nat->Option Nat} {S:Nat->Prop} {h:Nat->Option Ob} {w:World} {tm:Nat->Value} {v:Value} {av:AV} {ch:List (Nat × Bool)} (hc:∀ p∈ch,tm p.1 = .bool p.2) (hv:RdA β S h w tm v av):RdA β S h w tm v (unw ch av):=by
 cases av with
 |gd s b av=>
  simp only [unw];cases hg:QcE ch s b with
  |false=>simp_all
  |true=>
   rcases hv.gd_inv with ⟨_,h⟩ | ⟨h,_⟩
   ·exact h
   ·exact absurd (hc _ (Q5J hg)) h
 |_=>exact hv
theorem Q7Z {l:Nat} {ch:List (Nat × Bool)} {av:AV} (h:WQ l av=false):WQ l (unw ch av)=false:=by
 cases av with
 |gd s b av=>
  grind [unw,QcE,WQ]
 |_=>exact h
def EW (P:Program) (E:Env) (aj:Array Oper) (i:Nat) (rc:Rec) (lk:Nat->AV) (hl:Nat->Option Ob):Prop:=
 ∀ st a w,Hd E st a w->(∀ t,t∈rc.rt->lkT st.tm t=lk t)->(∀ l,l∈rc.dl.rd\/l∈wrL rc.dl->look st.h l=hl l)->Q27 st rc.dl.v rc.dst=true->Wc st rc.dl.wr=true ->
  ∀ Q:Exit->Act->World->Prop,wpOp P aj Q i (fun a' w'=>Hd E (put st rc.dst rc.dl) a' w') a w
def Q2Y (st:St) (rc:Rec):Prop:=Q27 st rc.dl.v rc.dst=true/\Wc st rc.dl.wr=true
theorem AR {t:Nat}:∀ {l:List Operand},Operand.tmp t∈l->t∈PC l
 |x::r,h=>by
  rcases Qiq.1 h with rfl | h
  ·simp [PC]
  ·have:=AR h;cases x <;> simp [PC,this]
theorem Q16 {tm tm':List (Nat × AV)} {o:Oper} {ch:List Nat} (h:∀ t,t∈PC o.op.operands.toList++ch->lkT tm' t=lkT tm t) {x:Operand} (hx:x∈o.op.operands.toList):evO tm' x=evO tm x:=by
 cases x with
 |tmp t=>exact h t (by simp [AR hx])
 |_=>rfl
theorem AO {ak:Array Oper} {i:Nat} {o:Oper} (hi:ak[i]? = some o) (hg:o.guard=none) {tm:List (Nat × AV)} {hl:Nat->Option Ob} {dl:Dl} (ac:GO P E o (evO tm) hl dl) :
  EW P E ak i ⟨PC o.op.operands.toList++[],o.dst,dl⟩ (lkT tm) hl:=by
 intro st a w ⟨β,S,hR⟩ hlk hA hd hcw Q;unfold wpOp;simp only [hi,Region.wanted,hg,if_true];left;refine ac β S st a w hR (fun x hx=>?_) hA hcw _ _ fun v w' aj=>Cr hd aj
 rw [<- Q16 hlk hx]
 grind [Q3v,Q0p]
theorem MN {ac:Array Oper} {j s:Nat} {a:Act} {b:Bool} (hs:(ac[j]?).bind (·.dst)=some s):(yielded ac a.tmps j == some b)=true↔tmv a s = .bool b:=by
 unfold yielded tmv;rw [hs];simp only [Option.bind_some,Array.getD];by_cases h:s<a.tmps.size
 ·simp only [h,dite_true,QiD h];cases hv:a.tmps[s] <;> simp [hv]
 ·simp only [h,dite_false];constructor
  ·simp_all
  ·intro h;cases h
theorem QcY {R:Type} {c:Bool} {x:Option R} {r:R} (h:(bif c then x else none)=some r):c=true/\x=some r:=by
 grind
theorem QfF {g:Bool} {x y z:D} (h:jD g x y=some z):z=bif g then x else y:=by
 unfold jD at h
 grind [Nat.eq_of_beq_eq_true]
theorem Qgs {g:Bool} {x y z:AV} (h:jA g x y=some z):z=bif g then x else y:=by
 unfold jA at h;split at h
 ·grind [QfF]
 ·simp_all
 ·replace h:=QcY h
  obtain ⟨hk,h⟩:=h
  simp_all
 ·cases h
theorem Qc7 {g:Bool}:∀ {x y z:List AV},jL g x y=some z->z=bif g then x else y
 |[],[],z,h=>by simp only [jL,Option.some.injEq] at h;subst h;cases g <;> rfl
 |[],_::_,z,h=>by simp [jL] at h
 |_::_,[],z,h=>by simp [jL] at h
 |a::r,b::s,z,h=>by
  simp only [jL] at h;split at h
  ·rename_i c hc;split at h
   ·rename_i t ht;injection h with h
    subst h;rw [Qgs hc,Qc7 ht];cases g <;> rfl
   ·cases h
  ·cases h
theorem Q0v {hl:Nat->Option Ob}:∀ {wr ac:List (Nat × Option Ob)},jW true hl wr=some ac->ac=wr
 |[],_,h=>by simp only [jW,Option.some.injEq] at h;exact h.symm
 |(l,some (.box ak))::r,ac,h=>by
  simp only [jW] at h;split at h
  ·split at h
   ·rename_i c hc;split at h
    ·rename_i t ht;injection h with h
     subst h;rw [Qc7 hc,Q0v ht];rfl
    ·cases h
   ·cases h
  ·cases h
 |(l,some (.arr e s rows))::r,ac,h=>by
  simp only [jW] at h;split at h
  ·split at h
   ·rename_i t ht;injection h with h
    subst h;rw [Q0v ht];rfl
   ·cases h
  ·cases h
 |(l,none)::r,ac,h=>by
  simp only [jW] at h;split at h
  ·rename_i t ht;injection h with h
   subst h;rw [Q0v ht]
  ·cases h
def QfZ (hl:Nat->Option Ob) (l:Nat) (o:Option Ob):Prop:=o=hl l\/o=none\/(hl l=none/\∃ e s,o=some (.arr e s []))
theorem Cj {hl:Nat->Option Ob}:∀ {wr ac:List (Nat × Option Ob)},jW false hl wr=some ac->∀ p,p∈ac->QfZ hl p.1 p.2
 |[],_,h,p,hp=>by simp only [jW,Option.some.injEq] at h;subst h;cases hp
 |(l,some (.box ak))::r,ac,h,p,hp=>by
  simp only [jW] at h;split at h
  ·rename_i old ho;split at h
   ·rename_i c hc;split at h
    ·rename_i t ht;injection h with h
     subst h;rcases Qiq.1 hp with rfl | hp
     ·rw [Qc7 hc];exact .inl ho.symm
     ·exact Cj ht p hp
    ·cases h
   ·cases h
  ·cases h
 |(l,some (.arr e s rows))::r,ac,h,p,hp=>by
  simp only [jW] at h;split at h
  ·rename_i hn;split at h
   ·rename_i t ht;injection h with h
    subst h;rcases Qiq.1 hp with rfl | hp
    ·exact .inr (.inr ⟨hn,e,s,rfl⟩)
    ·exact Cj ht p hp
   ·cases h
  ·cases h
 |(l,none)::r,ac,h,p,hp=>by
  simp only [jW] at h;split at h
  ·rename_i t ht;injection h with h
   subst h;rcases Qiq.1 hp with rfl | hp
   ·exact .inr (.inl rfl)
   ·exact Cj ht p hp
  ·cases h
theorem Q07 {Q:Nat->Option Ob->Prop}:∀ {wr:List (Nat × Option Ob)} {f:Nat->Option Ob} {l:Nat},(∀ p,p∈wr->Q p.1 p.2)->l∈wr.map (·.1)->Q l (KE f wr l)
 |(k,o)::r,f,l,h,hl=>by
  by_cases hr:l∈r.map (·.1)
  ·exact Q07 (wr:=r) (fun p hp=>h p (by simp [hp])) hr
  simp_all [KE,UL]
theorem Q3m {st:St} {l:Nat} {o:Ob}:∀ {wr:List (Nat × Option Ob)},Wc st wr=true->(l,some o)∈wr->look st.h l=none->Ur st l=true
 |(k,o')::r,h,hm,hn=>by
  simp only [Wc,Qin] at h;rcases Qiq.1 hm with he | hm
  ·injection he with h1 h2
   subst h1 h2;have:=h.1;rw [hn] at this;exact this
  ·exact Q3m h.2 hm hn
theorem F4:∀ {wr:List (Nat × Option Ob)} {f:Nat->Option Ob} {l:Nat} {o:Ob},l∈wr.map (·.1)->KE f wr l=some o->(l,some o)∈wr
 |(k,o')::r,f,l,o,hl,h=>by
  by_cases hr:l∈r.map (·.1)
  ·exact Qiz _ (F4 (wr:=r) hr h)
  simp_all [KE,UL]
theorem Qaz {β:Nat->Option Nat} {S:Nat->Prop} {st:St} {a:Act} {w:World} (hR:Rel E β S st a w) {wr:List (Nat × Option Ob)} (hw:∀ p,p∈wr->QfZ (look st.h) p.1 p.2) (hc:Wc st wr=true) :
  ∃ β',Rel E β' S ⟨st.n,st.tm,NL st.h wr⟩ a w:=by
 have aj:look (NL st.h wr)=KE (look st.h) wr:=KU wr st.h;have key:∀ l,KE (look st.h) wr l=look st.h l\/(KE (look st.h) wr l=none/\l∈wr.map (·.1))\/(look st.h l=none/\l∈wr.map (·.1)/\∃ e s,KE (look st.h) wr l=some (.arr e s [])):=by
  intro l;by_cases hl:l∈wr.map (·.1)
  ·rcases Q07 (f:=look st.h) hw hl with h | h | ⟨h1,h2⟩
   all_goals grind
  grind [UL]
 let β':Nat->Option Nat:=fun l=>if look st.h l=none/\(KE (look st.h) wr l).isSome=true then none else β l
 have hβ:∀ l,(KE (look st.h) wr l=look st.h l)->β' l=β l:=by
  grind
 have ac:∀ l b,(look (NL st.h wr) l).isSome=true->β' l=some b->(look st.h l).isSome=true/\β l=some b:=by
  intro l b h1 h2;rw [aj] at h1
  grind
 refine ⟨β',hR.upd (H':=NL st.h wr) (w':=w) (S':=S) (β':=β') (fun _ h=>h) (fun _ _=>rfl) (fun l=>¬ KE (look st.h) wr l=look st.h l) (fun l hl=>?_) (fun l hl=>?_) (fun l o hl ho=>?_) ?_ ?_ ?_ hR.hr.sb hR.hr.sfr hR.hr.fr⟩
 ·simp_all
 ·rcases key l with h | ⟨h,hm⟩ | ⟨h1,hm,e,s,h2⟩
  ·simp_all
  ·left;refine ⟨?_,fun _=>by simp_all,fun e s rows _=>.inl (by rw [aj];exact h),fun b cs ty fz hs=>(by rw [aj,h] at hs;cases hs),fun _ _ _=>.inl (by rw [aj];exact h)⟩
   grind
  grind [Q3m,F4]
 ·rcases key l with h | ⟨h,hm⟩ | ⟨h1,hm,e,s,h2⟩
  ·exact absurd h hl
  ·rw [aj,h] at ho;cases ho
  ·rw [aj,h2] at ho;injection ho with ho
   subst ho;refine .inl ⟨?_,rfl⟩;show (if look st.h l=none/\(KE (look st.h) wr l).isSome=true then none else β l)=none;rw [if_pos ⟨h1,by rw [h2];rfl⟩]
 ·intro l l' b h1 h2 h3 h4;obtain ⟨a1,a2⟩:=ac l b h1 h3;obtain ⟨b1,b2⟩:=ac l' b h2 h4;exact hR.hr.inj l l' b a1 b1 a2 b2
 ·intro l b h1 h2;obtain ⟨a1,a2⟩:=ac l b h1 h2;exact hR.hr.apart l b a1 a2
 ·intro l b h1 h2;obtain ⟨a1,a2⟩:=ac l b h1 h2;exact hR.hr.own l b a1 a2
theorem Q1X {an:Array Oper} {i j s:Nat} {b:Bool} {o:Oper} (hi:an[i]? = some o) (hg:o.guard=some (j,b)) (hs:(an[j]?).bind (·.dst)=some s) {tm:List (Nat × AV)} {hl:Nat->Option Ob} {g:Bool} {ch:List (Nat × Bool)} (aq:ctx tm 40 s b=some (g,ch)) {dl:Dl} {wr:List (Nat × Option Ob)} (hw:jW g hl dl.wr=some wr)
  (aj:g=true->GO P E o (fun x=>unw ch (evO tm x)) hl dl) :
  EW P E an i ⟨PC o.op.operands.toList++ch.map (·.1),o.dst,⟨.gd s b dl.v,wr,dl.rd⟩⟩ (lkT tm) hl:=by
 intro st a w ⟨β,S,hR⟩ hlk hA hd hcw Q;have ao:=Q37 40 s b g ch aq (tm':=st.tm) (fun p hp=>hlk p.1 (by grind));obtain ⟨h1,h2⟩:=Q21 hR 40 s b g ch ao;have hy:=MN (a:=a) (b:=b) hs;unfold wpOp;simp only [hi,Region.wanted,hg];cases g with
 |true=>
  have ac:=h1.1 rfl;rw [if_pos (hy.2 ac)];left;obtain rfl:=Q0v hw;refine aj rfl β S st a w hR (fun x hx=>?_) (fun l h=>hA l h) hcw _ _ fun v w' ar=>?_
  ·have he:=Q16 hlk hx;show RdA _ _ _ _ _ _ (unw ch (evO tm x))/\∀ l,Ur st l=true->WQ l (unw ch (evO tm x))=false;rw [<- he];exact ⟨Qe4 (h2 rfl) (Q3v hR x),fun l hc=>Q7Z (Q0p hc x)⟩
  ·refine Cr hd ?_;obtain ⟨β',S',ak,hv⟩:=ar;exact ⟨β',S',ak,.gdT _ _ _ _ ac hv⟩
 |false=>
  have ac:¬ tmv a s = .bool b:=fun h=>by simp_all
  rw [QiH (fun h=>ac (hy.1 h))];obtain ⟨β',ak⟩:=Qaz hR (wr:=wr) (fun p hp=>by
   have:=Cj hw p hp;have he:look st.h p.1=hl p.1:=hA p.1 (.inr (QiI.2 ⟨p,hp,rfl⟩))
   grind [QfZ]) hcw
  exact Cr hd ⟨β',S,ak,.gdF _ _ _ ac⟩
theorem RL {st:St} {o:Oper} {ch:List Nat} {dl:Dl} {k:St->Rec->Option R} {r:R} (h:QbB st o ch dl k=some r) :
  Q2Y st ⟨PC o.op.operands.toList++ch,o.dst,dl⟩/\k (put st o.dst dl) ⟨PC o.op.operands.toList++ch,o.dst,dl⟩=some r:=by
 unfold QbB at h;cases hc:(Q27 st dl.v o.dst&&Wc st dl.wr) with
 |false=>simp_all
 |true=>
  simp only [hc,Qit] at h;simp only [Qin] at hc;trivial
theorem Q4z {spec:Q4p} {tt:TT} (hS:CN P spec) (hT:TOk P tt) {aj:Array Oper} {i:Nat} {o:Oper} (hi:aj[i]? = some o) {st:St} {k:St->Rec->Option R} {r:R} (h:Qcx spec tt aj o st k=some r) :
  ∃ rc,k (put st rc.dst rc.dl) rc=some r/\rc.dst=o.dst/\Q2Y st rc/\EW P E aj i rc (lkT st.tm) (look st.h):=by
 unfold Qcx at h;split at h
 ·rename_i hg;obtain ⟨dl,h,ac⟩:=Fp (E:=E) hS hT h;obtain ⟨hs,hk⟩:=RL h;exact ⟨_,hk,rfl,hs,AO hi hg (ac rfl)⟩
 ·rename_i j b hg;split at h
  ·rename_i s hs;split at h
   ·rename_i g ch an;obtain ⟨dl,h,ac⟩:=Fp (E:=E) hS hT h;split at h
    ·rename_i wr hw;obtain ⟨ao,hk⟩:=RL h;exact ⟨_,hk,rfl,ao,Q1X hi hg hs an hw ac⟩
    ·cases h
   ·cases h
  ·cases h
def BF (P:Program) (E:Env) (ac:Array Oper):Nat->St->List Rec->St->Prop
 |_,st,[],st'=>st'=st
 |i,st,rc::rs,st'=>(∃ o,ac[i]? = some o/\rc.dst=o.dst)/\Q2Y st rc/\EW P E ac i rc (lkT st.tm) (look st.h)/\BF P E ac (i+1) (put st rc.dst rc.dl) rs st'
theorem Q0f {spec:Q4p} {tt:TT} (hS:CN P spec) (hT:TOk P tt) {ac:Array Oper} {R:Type}:∀ (l:List Oper) (i:Nat) (st:St) (acc:List Rec) (k:St->List Rec->Option R) (r:R),(∀ j,l[j]? = ac[i+j]?) ->
  Qfq spec tt ac l st acc k=some r->∃ recs st',recs.length=l.length/\k st' (acc++recs)=some r/\BF P E ac i st recs st'
 |[],i,st,acc,k,r,_,h=>⟨[],st,rfl,by grind [Qfq],rfl⟩
 |o::l,i,st,acc,k,r,hl,h=>by
  have h0:ac[i]? = some o:=by simpa using (hl 0).symm
  obtain ⟨rc,h,hd,hs,aj⟩:=Q4z (E:=E) hS hT h0 h;obtain ⟨recs,st',h1,h2,h3⟩:=Q0f hS hT l (i+1) _ _ k r (fun j=>by have:=hl (j+1);grind) h;exact ⟨rc::recs,st',by simp [h1],by simp_all,⟨o,h0,hd⟩,hs,aj,h3⟩
theorem B0 {s:Nat} {b:Bool}:∀ {tm:List (Nat × AV)},lkT tm s = .d (.bool b)->Q2E s b tm=tm
 |[],h=>by simp [lkT,look] at h
 |(t,a)::r,h=>by
  simp only [Q2E];cases ht:Nat.beq t s with
  |true=>
   simp only [lkT,look,ht,Qit,Option.getD_some] at h;rw [Qit,h]
  |false=>
   simp only [lkT,look,ht,QiG] at h;rw [QiG,B0 (tm:=r) h]
theorem Q45 {aj:Array Oper} {i j s:Nat} {b:Bool} {o:Oper} (hi:aj[i]? = some o) (hg:o.guard=some (j,b)) (hs:(aj[j]?).bind (·.dst)=some s) {tm:List (Nat × AV)} {hl:Nat->Option Ob} (ak:lkT tm s = .d (.bool b)) {dl:Dl} (ac:GO P E o (evO tm) hl dl) :
  EW P E aj i ⟨PC o.op.operands.toList++[s],o.dst,dl⟩ (lkT tm) hl:=by
 intro st a w ⟨β,S,hR⟩ hlk hA hd hcw Q;have ao:tmv a s = .bool b:=by
  have h1:=Q3v hR (.tmp s);rw [show evO st.tm (.tmp s)=lkT st.tm s from rfl,hlk s (by simp),ak] at h1;exact h1.bool_inv
 unfold wpOp;simp only [hi,Region.wanted,hg];rw [if_pos ((MN hs).2 ao)];left;refine ac β S st a w hR (fun x hx=>?_) hA hcw _ _ fun v w' an=>Cr hd an
 rw [<- Q16 hlk hx]
 grind [Q3v,Q0p]
theorem Q9m {aj:Array Oper} {i j s:Nat} {b c:Bool} {o:Oper} (hi:aj[i]? = some o) (hg:o.guard=some (j,b)) (hs:(aj[j]?).bind (·.dst)=some s) {tm:List (Nat × AV)} {hl:Nat->Option Ob} (ak:lkT tm s = .d (.bool c)) (an:c≠b) {av:AV} :
  EW P E aj i ⟨PC o.op.operands.toList++[s],o.dst,⟨.gd s b av,[],[]⟩⟩ (lkT tm) hl:=by
 intro st a w ⟨β,S,hR⟩ hlk hA hd hcw Q;have aq:tmv a s = .bool c:=by
  have h1:=Q3v hR (.tmp s);rw [show evO st.tm (.tmp s)=lkT st.tm s from rfl,hlk s (by simp),ak] at h1;exact h1.bool_inv
 have ac:¬ tmv a s = .bool b:=by simp_all
 unfold wpOp;simp only [hi,Region.wanted,hg];rw [QiH (fun h=>ac ((MN hs).1 h))];exact Cr hd ⟨β,S,hR,.gdF _ _ _ ac⟩
theorem BL {spec:Q4p} {tt:TT} (hS:CN P spec) (hT:TOk P tt) {aj:Array Oper} {R:Type}:∀ (l:List Oper) (i:Nat) (st:St) (acc:List Rec) (k:St->List Rec->Option R) (r:R),(∀ j,l[j]? = aj[i+j]?) ->
  Q0o spec tt aj l st acc k=some r->∃ recs st',recs.length=l.length/\k st' (acc++recs)=some r/\BF P E aj i st recs st'
 |[],i,st,acc,k,r,_,h=>⟨[],st,rfl,by grind [Q0o],rfl⟩
 |o::l,i,st,acc,k,r,hl,h=>by
  have h0:aj[i]? = some o:=by simpa using (hl 0).symm
  have next:∀ rc,rc.dst=o.dst->Q2Y st rc->EW P E aj i rc (lkT st.tm) (look st.h)->Q0o spec tt aj l (put st rc.dst rc.dl) (acc++[rc]) k=some r->∃ recs st',recs.length=(o::l).length/\k st' (acc++recs)=some r/\BF P E aj i st recs st':=by
   intro rc hd hs au h;obtain ⟨recs,st',h1,h2,h3⟩:=BL hS hT l (i+1) _ _ k r (fun j=>by have:=hl (j+1);grind) h;exact ⟨rc::recs,st',by simp [h1],by simp_all,⟨o,h0,hd⟩,hs,au,h3⟩
  have one:∀ (j s:Nat) (w c:Bool),o.guard=some (j,w)->(aj[j]?).bind (·.dst)=some s->lkT st.tm s = .d (.bool c)->Q6f spec tt o s w c st (fun st' rec=>Q0o spec tt aj l st' (acc++[rec]) k)=some r->∃ recs st',recs.length=(o::l).length/\k st' (acc++recs)=some r/\BF P E aj i st recs st':=by
   intro j s w c hg hs ac h;unfold Q6f at h;cases hb:(bif c then w else !w) with
   |true=>
    simp only [hb,Qit] at h;have aq:c=w:=by grind
    subst aq;obtain ⟨dl,h,ak⟩:=Fp (E:=E) hS hT h;obtain ⟨an,hk⟩:=RL h;exact next _ rfl an (Q45 h0 hg hs ac (ak rfl)) hk
   |false=>
    simp only [hb,QiG] at h;have aq:c≠w:=by grind
    obtain ⟨an,hk⟩:=RL h;exact next _ rfl an (Q9m h0 hg hs ac aq) hk
  rw [Q0o] at h;split at h
  ·rename_i hg;obtain ⟨dl,h,ak⟩:=Fp (E:=E) hS hT h;obtain ⟨an,hk⟩:=RL h;exact next _ rfl an (AO h0 hg (ak rfl)) hk
  ·rename_i j w hg;split at h
   ·rename_i s hs;split at h
    ·rename_i c ac;cases c with
     |true=>
      simp only [Qit,B0 ac] at h;exact one j s w true hg hs ac h
     |false=>
      simp only [QiG,B0 ac] at h;exact one j s w false hg hs ac h
    ·cases h
   ·cases h
theorem Q7w {ak:Array Oper} {Q:Exit->Act->World->Prop} {st':St} (hQ:∀ a w,Hd E st' a w->Q .normal a w):∀ (recs:List Rec) (i:Nat) (st:St) (a:Act) (w:World),BF P E ak i st recs st'->Hd E st a w ->
  wpOps P ak Q (List.range' i recs.length) a w
 |[],i,st,a,w,h,hR=>by
  simp only [BF] at h;subst h;exact hQ a w hR
 |rc::rs,i,st,a,w,h,hR=>by
  obtain ⟨_,hs,ac,aj⟩:=h;simp only [List.length_cons,List.range'_succ];rw [wpOps_cons];exact wpOp_mono (fun a' w' an=>Q7w hQ rs (i+1) _ a' w' aj an) (ac st a w hR (fun _ _=>rfl) (fun _ _=>rfl) hs.1 hs.2 Q)
end
section
variable {P:Program} {E:Env} {R:Type}
def Lst (listed:Array Bool) (i:Nat):Prop:=listed.getD i false=true
def Qa6 (listed:Array Bool) (es:List Edge):Prop:=∀ e∈es,Region.binds .any e=true->Lst listed e.on
def Q9h (ac:List Oper) (listed:Array Bool):Prop:=∀ (j:Nat) (o:Oper),ac[j]? = some o->Lst listed j->Qa6 listed o.after.toList
theorem Q0b (acc:List Nat) (i:Nat):∀ (es:List Edge) (s:Nat),(Q3d acc es s).testBit i=true->s.testBit i=true\/∃ e∈es,Region.binds .any e=true/\(e.on=i\/(acc.getD e.on 0).testBit i=true)
 |[],s,h=>.inl h
 |e::r,s,h=>by
  simp only [Q3d] at h;rcases Q0b acc i r _ h with h1 | ⟨e',h1,h2⟩
  ·cases hb:Region.binds .any e with
   |false=>rw [hb] at h1;exact .inl (by simpa using h1)
   |true=>
    rw [hb] at h1;simp only [Qit,Nat.testBit_or,QiB] at h1;rcases h1 with (h1 | h1) | h1
    ·exact .inl h1
    ·refine .inr ⟨e,by simp,hb,.inl ?_⟩;rw [Nat.testBit_two_pow] at h1;simpa using h1
    ·exact .inr ⟨e,by simp,hb,.inr h1⟩
  ·exact .inr ⟨e',by simp [h1],h2⟩
theorem Q6n (ac:List Oper):∀ (l:List Oper) (acc:List Nat),(∀ k,l[k]? = ac[acc.length+k]?) ->
  (∀ (j i m:Nat) (o:Oper),acc[j]? = some m->ac[j]? = some o->m.testBit i=true->∀ listed,Q9h ac listed->Qa6 listed o.after.toList->Lst listed i) ->
  (Q1z l acc).length=acc.length+l.length /\
  ∀ (j i m:Nat) (o:Oper),(Q1z l acc)[j]? = some m->ac[j]? = some o->m.testBit i=true->∀ listed,Q9h ac listed->Qa6 listed o.after.toList->Lst listed i
 |[],acc,_,h=>⟨by simp [Q1z],h⟩
 |o::l,acc,hl,h=>by
  have h0:ac[acc.length]? = some o:=by simpa using (hl 0).symm
  have:=Q6n ac l (acc++[Q3d acc o.after.toList 0]) (fun k=>by
   have:=hl (k+1)
   grind) (fun j i m o' h1 h2 h3 listed hc hp=>by
   by_cases hj:j<acc.length
   ·grind
   ·have ar:j=acc.length:=by
     grind
    subst ar;rw [List.getElem?_append_right (Nat.le_refl _)] at h1;simp at h1;subst h1;rw [h0] at h2;injection h2 with h2
    subst h2;rcases Q0b acc i _ _ h3 with h4 | ⟨e,h4,h5,h6⟩
    ·simp at h4
    ·have an:=hp e h4 h5;rcases h6 with h6 | h6
     ·rw [<- h6];exact an
     ·by_cases he:e.on<acc.length
      ·obtain ⟨m',ak⟩:∃ m',acc[e.on]? = some m':=⟨_,Qir he⟩;have ao:e.on<ac.length:=by
        have:=(Qip.1 h0).1;omega
       have ho:=Qir ao;refine h e.on i m' _ ak ho ?_ listed hc (hc e.on _ ho an);rw [List.getD_eq_getElem?_getD,ak] at h6;simpa using h6
      ·rw [List.getD_eq_getElem?_getD,QiL (by omega)] at h6;simp at h6)
  grind [Q1z,Nat.add_assoc,Nat.add_comm]
def EA (listed:Array Bool):Nat->St->List Rec->St
 |_,st,[]=>st
 |i,st,rc::rs=>EA listed (i+1) (bif listed.getD i false then put st rc.dst rc.dl else st) rs
def lkA (listed:Array Bool) (t:Nat):Nat->AV->List Rec->AV
 |_,v,[]=>v
 |i,v,rc::rs=>lkA listed t (i+1) (if listed.getD i false=true/\rc.dst=some t then rc.dl.v else v) rs
def hA (listed:Array Bool):Nat->(Nat->Option Ob)->List Rec->Nat->Option Ob
 |_,h,[]=>h
 |i,h,rc::rs=>hA listed (i+1) (if listed.getD i false=true then KE h rc.dl.wr else h) rs
theorem Q7F (st:St) (dst:Option Nat) (dl:Dl) (t:Nat):lkT (put st dst dl).tm t=if dst=some t then dl.v else lkT st.tm t:=by
 cases dst with
 |none=>simp [put]
 |some d=>
  grind [put,lkT,XL,Option.some.injEq]
theorem Ms (listed:Array Bool) (t:Nat):∀ (recs:List Rec) (i:Nat) (st:St),lkT (EA listed i st recs).tm t=lkA listed t i (lkT st.tm t) recs
 |[],_,_=>rfl
 |rc::rs,i,st=>by
  simp only [EA,lkA];rw [Ms listed t rs];congr 1;cases hl:listed.getD i false with
  |true=>simp [Q7F]
  |false=>simp
theorem EQ (listed:Array Bool):∀ (recs:List Rec) (i:Nat) (st:St),look (EA listed i st recs).h=hA listed i (look st.h) recs
 |[],_,_=>rfl
 |rc::rs,i,st=>by
  simp only [EA,hA];rw [EQ listed rs];congr 1;cases hl:listed.getD i false with
  |true=>simp [put,KU]
  |false=>simp
theorem Q08 (listed:Array Bool):∀ (recs:List Rec) (i:Nat) (st:St),(EA listed i st recs).n=st.n
 |[],_,_=>rfl
 |rc::rs,i,st=>by
  simp only [EA];rw [Q08 listed rs];cases listed.getD i false <;> rfl
theorem FD {L1 L2:Array Bool} {t:Nat}:∀ (recs:List Rec) (i:Nat) (v:AV),(∀ k rc,recs[k]? = some rc->rc.dst=some t->(Lst L1 (i+k)↔Lst L2 (i+k)))->lkA L1 t i v recs=lkA L2 t i v recs
 |[],_,_,_=>rfl
 |rc::rs,i,v,h=>by
  simp only [lkA];have h0:=h 0 rc rfl;have:(if L1.getD i false=true/\rc.dst=some t then rc.dl.v else v)=if L2.getD i false=true/\rc.dst=some t then rc.dl.v else v:=by
   by_cases hd:rc.dst=some t
   all_goals simp_all [Lst,Nat.add_zero]
  rw [this];exact FD rs (i+1) _ fun k aj hk hd=>by
   have:=h (k+1) aj (by simp_all) hd
   grind
theorem Cd {L1 L2:Array Bool} {l:Nat}:∀ (recs:List Rec) (i:Nat) (h1 h2:Nat->Option Ob),h1 l=h2 l->(∀ k rc,recs[k]? = some rc->l∈wrL rc.dl->(Lst L1 (i+k)↔Lst L2 (i+k)))->hA L1 i h1 recs l=hA L2 i h2 recs l
 |[],_,_,_,he,_=>he
 |rc::rs,i,h1,h2,he,h=>by
  refine Cd rs (i+1) _ _ ?_ fun k aj hk hd=>by
   have:=h (k+1) aj (by simp_all) hd
   grind
  by_cases hd:l∈wrL rc.dl
  ·have:=h 0 rc rfl hd;simp only [Lst,Nat.add_zero] at this;by_cases hl:L1.getD i false=true
   ·rw [if_pos hl,if_pos (this.1 hl)];exact Q5E hd
   simp_all
  ·have e1:∀ (c:Prop) [Decidable c] (f:Nat->Option Ob),(if c then KE f rc.dl.wr else f) l=f l:=by
    intro c _ f;split
    ·exact UL hd
    ·rfl
   simp_all
theorem Hd.same {st st':St} {a:Act} {w:World} (h:Hd E st a w) (hn:st'.n=st.n) (ht:∀ t,lkT st'.tm t=lkT st.tm t) (hh:look st'.h=look st.h):Hd E st' a w:=by
 obtain ⟨β,S,hR⟩:=h;refine ⟨β,S,by rw [hn];exact hR.n,hR.dfr,fun t av aj=>?_,by rw [hh];exact hR.hr⟩;rw [hh];have h1:lkT st.tm t=av:=by grind [lkT]
 unfold lkT at h1;cases hl:look st.tm t with
 |none=>rw [hl] at h1;subst h1;exact .top _
 |some b=>rw [hl] at h1;subst h1;exact hR.tm t _ hl
end
section
variable {P:Program} {E:Env} {R:Type}
theorem C1 {x:Nat}:∀ {l:List Nat},Pr x l=true↔x∈l
 |[]=>by simp [Pr]
 |a::r=>by
  simp only [Pr,QiB,Qiq,C1 (l:=r)];constructor
  ·rintro (h | h)
   ·exact .inl (Qim h).symm
   ·exact .inr h
  ·rintro (h | h)
   ·subst h;exact .inl (QiM _)
   ·exact .inr h
theorem R1 {a b:List Nat} {x:Nat} (h1:x∈a) (h2:x∈b):HI a b=true:=by
 grind [HI,List.any_eq_true,Bs]
theorem Ea {i:Nat} {a:Rec} {news:List Nat}:∀ {rs:List Rec} {ms:List Nat},Cm i a news rs ms=true->∀ (k:Nat) (b:Rec),rs[k]? = some b->∃ m,ms[k]? = some m /\
  (WO a b=true\/(∃ l∈news,Da l b=true)\/QdU a.dst b.dl.v=true->m.testBit i=true)
 |[],_,_,k,b,hb=>by simp at hb
 |b0::r,[],h,k,b,hb=>by trivial
 |b0::r,m::ms,h,k,b,hb=>by
  simp only [Cm,Qin] at h;cases k with
  |zero=>
   grind
  |succ k=>exact Ea h.2 k b (by simp_all)
theorem NU {aj:St} {ac:List Nat}:∀ {wr:List (Nat × Option Ob)} {l:Nat},l∈To aj ac wr->WE l wr=true
 |[],l,h=>by simp [To] at h
 |(k,o)::r,l,h=>by
  unfold To at h;split at h
  ·cases hm:Pr k ac with
   |true=>simp only [hm,Qit] at h;simp [WE,NU h]
   |false=>
    simp only [hm,QiG,Qiq] at h;rcases h with rfl | h
    ·simp [WE]
    ·simp [WE,NU h]
  ·simp [WE,NU h]
theorem Q2e {aj:St} {ac:List Nat} {l:Nat} (hn:look aj.h l=none) (hs:l ∉ ac):∀ {wr:List (Nat × Option Ob)},WE l wr=true->l∈To aj ac wr
 |(k,o)::r,h=>by
  simp only [WE,QiB,Qin] at h;by_cases hk:k=l/\o.isSome=true
  ·obtain ⟨rfl,ho⟩:=hk;obtain ⟨o',rfl⟩:=QiF.1 ho
   grind [Pr,absurd,C1,To]
  ·have hr:WE l r=true:=by
    grind [absurd,Nat.eq_of_beq_eq_true]
   have:=Q2e hn hs hr;unfold To
   grind
theorem Mw {an:St}:∀ {rs:List Rec} {i:Nat} {ak:List Rec} {aj:List Nat} {ms:List Nat},L5 an i ak aj rs ms=true->∀ (k:Nat) (a:Rec),rs[k]? = some a ->
  ∃ ac,(∀ l∈ac,l∈aj\/∃ k' b,k'<k/\rs[k']? = some b/\WE l b.dl.wr=true)/\Cm (i+k) a (To an ac a.dl.wr) (rs.drop (k+1)) (ms.drop (k+1))=true /\
   ∀ l∈To an ac a.dl.wr,Ur an l=true/\(∀ b∈ak,Da l b=false)/\∀ k' b,k'<k->rs[k']? = some b->Da l b=false
 |[],i,ak,aj,ms,_,k,a,ha=>by simp at ha
 |a0::r,i,ak,aj,[],h,k,a,ha=>by simp [L5] at h
 |a0::r,i,ak,aj,m::ms,h,k,a,ha=>by
  simp only [L5,Qin] at h;obtain ⟨⟨h1,h2⟩,h3⟩:=h;cases k with
  |zero=>
   simp at ha;subst ha;refine ⟨aj,fun l hl=>.inl hl,by simpa using h1,fun l hl=>?_⟩;rw [List.all_eq_true] at h2;have:=h2 l hl;simp only [Qin,List.all_eq_true,Qiu] at this;exact ⟨this.1,this.2,fun k' b hk=>by omega⟩
  |succ k=>
   obtain ⟨ac,g1,g2,g3⟩:=Mw h3 k a (by simpa using ha);refine ⟨ac,fun l hl=>?_,?_,fun l hl=>?_⟩
   ·rcases g1 l hl with g | ⟨k',b,g4,g5,g6⟩
    ·rcases List.mem_append.1 g with g | g
     ·exact .inl g
     ·exact .inr ⟨0,a0,by omega,rfl,NU g⟩
    ·exact .inr ⟨k'+1,b,by omega,by simpa using g5,g6⟩
   ·rw [show i+(k+1)=i+1+k from by omega];simpa using g2
   ·obtain ⟨g4,g5,g6⟩:=g3 l hl;refine ⟨g4,fun b hb=>g5 b (by simp [hb]),fun k' b hk hb=>?_⟩;cases k' with
    |zero=>simp at hb;subst hb;exact g5 a0 (by simp)
    |succ k'=>exact g6 k' b (by omega) (by simpa using hb)
theorem R3 {l:Nat}:∀ {wr:List (Nat × Option Ob)},WE l wr=true->l∈wr.map (·.1)
 |(k,o)::r,h=>by
  simp only [WE,QiB,Qin] at h;rcases h with ⟨_,h2⟩ | h
  ·simp [Qim h2]
  ·simp only [Qiw,Qiq];exact .inr (R3 h)
theorem Eu {l:Nat}:∀ {wr:List (Nat × Option Ob)} {h:Nat->Option Ob},(∀ o,(l,o)∈wr->o.isSome=true)->(h l).isSome=true\/WE l wr=true->(KE h wr l).isSome=true
 |[],h,_,hs=>by
  rcases hs with hs | hs
  ·exact hs
  ·simp [WE] at hs
 |(k,o)::r,h,hn,hs=>by
  simp only [KE];refine Eu (fun o' ac=>hn o' (by simp [ac])) ?_;by_cases e:l=k
  ·subst e;left;rw [if_pos rfl];exact hn o (by simp)
  ·rw [QiH e];rcases hs with hs | hs
   ·exact .inl hs
   ·simp only [WE,QiB,Qin] at hs;rcases hs with ⟨_,h2⟩ | hs
    ·exact absurd (Qim h2).symm e
    ·exact .inr hs
theorem Q57 {recs:List Rec} {l:Nat}:∀ {wr:List (Nat × Option Ob)},Qbq recs wr=true->(l,none)∈wr->∀ b∈recs,WE l b.dl.wr=false
 |(k,o)::r,h,hm,b,hb=>by
  rcases Qiq.1 hm with e | ac
  ·injection e with e1 e2
   subst e1;subst e2;simp only [Qbq,Qin,List.all_eq_true,Qiu] at h;exact h.1 b hb
  ·cases o with
   |none=>simp only [Qbq,Qin] at h;exact Q57 h.2 ac b hb
   |some o=>simp only [Qbq] at h;exact Q57 h ac b hb
theorem Qb9:∀ {recs:List Rec} (k:Nat) (b:Rec),rmL recs=true->recs[k]? = some b->Qbq (recs.drop k) b.dl.wr=true
 |a::r,0,b,h,hb=>by
  simp only [rmL,Qin] at h;simp at hb;subst hb;exact h.1
 |a::r,k+1,b,h,hb=>by
  simp only [rmL,Qin] at h;exact Qb9 k b h.2 (by simpa using hb)
theorem Q1K {listed:Array Bool} {l:Nat}:∀ (recs:List Rec) (i:Nat) (h:Nat->Option Ob),(∀ k b,recs[k]? = some b->Lst listed (i+k)->∀ o,(l,o)∈b.dl.wr->o.isSome=true)->((h l).isSome=true\/∃ k b,recs[k]? = some b/\Lst listed (i+k)/\WE l b.dl.wr=true)->(hA listed i h recs l).isSome=true
 |[],i,h,_,hs=>by
  rcases hs with hs | ⟨k,b,hb,_⟩
  ·exact hs
  ·simp at hb
 |rc::rs,i,h,hn,hs=>by
  simp only [hA];refine Q1K rs (i+1) _ (fun k b hb hl=>hn (k+1) b (by simpa using hb) (by rw [show i+(k+1)=i+1+k from by omega];exact hl)) ?_;rcases hs with hs | ⟨k,b,hb,hl,ho⟩
  ·left;split
   ·rename_i ac;exact Eu (hn 0 rc rfl (by simpa [Lst] using ac)) (.inl hs)
   ·exact hs
  ·cases k with
   |zero=>
    simp at hb;subst hb;left;rw [if_pos (by simpa [Lst] using hl)];exact Eu (hn 0 rc rfl hl) (.inr ho)
   |succ k=>exact .inr ⟨k,b,by simpa using hb,by rw [show i+1+k=i+(k+1) from by omega];exact hl,ho⟩
theorem Q7d {l:Nat} {st:St} {dst:Option Nat} {dl:Dl} (h1:Bu l st.tm=false) (h2:WQ l dl.v=false):Bu l (put st dst dl).tm=false:=by
 cases dst <;> simp [put,Bu,h1,h2]
theorem PV {l:Nat}:∀ {wr:List (Nat × Option Ob)} {h:List (Nat × Ob)},Jg l h=false->TP l wr=false->Jg l (NL h wr)=false
 |[],h,h1,_=>h1
 |(k,none)::r,h,h1,h2=>by simp only [NL];exact PV (UY h1) (by simpa [TP] using h2)
 |(k,some (.box c))::r,h,h1,h2=>by
  simp only [TP,Qiy] at h2;simp only [NL];exact PV (by simp [Jg,h2.1,UY h1]) h2.2
 |(k,some (.arr e s rows))::r,h,h1,h2=>by
  simp only [TP] at h2;simp only [NL];exact PV (by simp [Jg,UY h1]) h2
 |(k,some (.mp t f))::r,h,h1,h2=>by
  simp only [TP] at h2;simp only [NL];exact PV (by simp [Jg,UY h1]) h2
theorem Q2t {listed:Array Bool} {l:Nat}:∀ (recs:List Rec) (i:Nat) (st:St),Ur st l=true->(∀ k b,recs[k]? = some b->Lst listed (i+k)->Da l b=false)->Ur (EA listed i st recs) l=true
 |[],_,_,h,_=>h
 |rc::rs,i,st,h,hn=>by
  simp only [EA];refine Q2t rs (i+1) _ ?_ fun k b hb hl=>hn (k+1) b (by simpa using hb) (by rw [show i+(k+1)=i+1+k from by omega];exact hl)
  cases hl:listed.getD i false with
  |false=>exact h
  |true=>
   have:=hn 0 rc rfl hl;simp only [Da,Qiy] at this;simp only [Ur,Qin,Qiu] at h ⊢;exact ⟨h.1,Q7d h.2.1 this.1,by simp only [Qit,put];exact PV h.2.2 this.2⟩
theorem Q5i {listed:Array Bool} {d:Nat}:∀ (recs:List Rec) (i:Nat) (st:St),Q95 d st.tm=false->(∀ k b,recs[k]? = some b->Lst listed (i+k)->b.dst≠none->gds d b.dl.v=false)->Q95 d (EA listed i st recs).tm=false
 |[],_,_,h,_=>h
 |rc::rs,i,st,h,hn=>by
  simp only [EA];refine Q5i rs (i+1) _ ?_ fun k b hb hl=>hn (k+1) b (by simpa using hb) (by rw [show i+(k+1)=i+1+k from by omega];exact hl)
  cases hl:listed.getD i false with
  |false=>exact h
  |true=>
   cases hd:rc.dst with
   |none=>simpa [put] using h
   |some d'=>simp [put,Q95,h,hn 0 rc rfl hl (by simp [hd])]
theorem Q61 {listed:Array Bool} {d:Nat}:∀ (recs:List Rec) (i:Nat) (st:St),Q95 d (EA listed i st recs).tm=false->Q95 d st.tm=false/\∀ k b,recs[k]? = some b->Lst listed (i+k)->b.dst≠none->gds d b.dl.v=false
 |[],_,_,h=>⟨h,fun k b hb=>by simp at hb⟩
 |rc::rs,i,st,h=>by
  obtain ⟨h1,h2⟩:=Q61 rs (i+1) _ h;refine ⟨?_,fun k b hb hl hd=>?_⟩
  ·cases hl:listed.getD i false with
   |false=>simp_all
   |true=>
    cases hd:rc.dst with
    |none=>grind [put]
    |some d'=>simp_all [Qit,put,Q95,Qiy]
  ·cases k with
   |zero=>
    have ak:listed.getD i false=true:=by assumption
    cases an:rc.dst with
    |none=>simp_all
    |some d'=>simp_all [Qit,put,Q95,Qiy]
   |succ k=>grind
def Q8l (st:St):Nat->List Rec->St
 |0,_=>st
 |_,[]=>st
 |i+1,rc::rs=>Q8l (put st rc.dst rc.dl) i rs
theorem Q5t {ac:Array Oper} {st':St}:∀ {recs:List Rec} {i:Nat} {st:St},BF P E ac i st recs st'->∀ (k:Nat) (rc:Rec),recs[k]? = some rc ->
  (∃ o,ac[i+k]? = some o/\rc.dst=o.dst)/\Q2Y (Q8l st k recs) rc/\EW P E ac (i+k) rc (lkT (Q8l st k recs).tm) (look (Q8l st k recs).h)
 |[],_,_,_,k,rc,h=>by simp at h
 |r0::rs,i,st,hr,k,rc,h=>by
  obtain ⟨h1,h2,h3,h4⟩:=hr;cases k with
  |zero=>simp at h;subst h;exact ⟨h1,h2,h3⟩
  |succ k=>
   have:=Q5t h4 k rc (by simpa using h);rw [show i+1+k=i+(k+1) from by omega] at this;exact this
theorem Le {ac:Array Oper} {st':St}:∀ {recs:List Rec} {i:Nat} {st:St},BF P E ac i st recs st'->st'=Q8l st recs.length recs
 |[],_,_,h=>h
 |_::rs,_,_,h=>Le (recs:=rs) h.2.2.2
def Rq (n k:Nat):Array Bool:=(Array.range n).map fun i=>decide (i<k)
theorem Ks {n k i:Nat} (hi:i<n):Lst (Rq n k) i↔i<k:=by
 unfold Lst Rq;simp [hi]
theorem La {n:Nat}:∀ (recs:List Rec) (i k:Nat) (st:St),i+recs.length<=n->Q8l st k recs=EA (Rq n (i+k)) i st recs
 |[],i,k,st,_=>by cases k <;> rfl
 |rc::rs,i,0,st,h=>by
  simp only [Q8l,EA];have h0:¬ Lst (Rq n (i+0)) i:=by grind [Ks]
  have:(Rq n (i+0)).getD i false=false:=by grind [Lst]
  have:∀ (rs:List Rec) (j:Nat) (st:St),i<j->j+rs.length<=n->EA (Rq n i) j st rs=st:=by
   intro rs;induction rs with
   |nil=>intro j st _ _;rfl
   |cons x r ac=>
    intro j st hj hn;simp only [List.length_cons] at hn;simp only [EA];have h0:¬ Lst (Rq n i) j:=by rw [Ks (by omega)];omega
    grind [Rq,Lst]
  grind
 |rc::rs,i,k+1,st,h=>by
  simp only [List.length_cons] at h;simp only [Q8l,EA];have h0:Lst (Rq n (i+(k+1))) i:=by rw [Ks (by omega)];omega
  have:(Rq n (i+(k+1))).getD i false=true:=h0;rw [this];simp only [Qit];rw [La (n:=n) rs (i+1) k _ (by omega),show i+1+k=i+(k+1) from by omega]
end
section
variable {P:Program} {E:Env} {R:Type}
theorem Q69 {L:Array Bool} {t:Nat} {v0:AV}:∀ (recs:List Rec) (i k:Nat) (rc:Rec) (v:AV),recs[k]? = some rc->Lst L (i+k)->rc.dst=some t->rc.dl.v=v0->(∀ k' b,k<k'->recs[k']? = some b->Lst L (i+k')->b.dst≠some t)->lkA L t i v recs=v0
 |[],i,k,rc,v,h,_,_,_,_=>by simp at h
 |r0::rs,i,0,rc,v,h,hl,hd,hv,hlast=>by
  simp at h;subst h;simp only [lkA];have aj:L.getD i false=true:=by assumption
  rw [if_pos ⟨aj,hd⟩,hv];have:∀ (rs:List Rec) (j:Nat),(∀ k' b,rs[k']? = some b->Lst L (j+k')->b.dst≠some t)->lkA L t j v0 rs=v0:=by
   intro rs;induction rs with
   |nil=>intro j _;rfl
   |cons x r ih=>
    intro j hj;simp only [lkA];rw [QiH (fun h=>hj 0 x rfl h.1 h.2)];exact ih (j+1) fun k' b hb hl=>hj (k'+1) b (by simp_all) (by grind)
  exact this rs (i+1) fun k' b hb hl=>hlast (k'+1) b (by omega) (by simpa using hb) (by grind)
 |r0::rs,i,k+1,rc,v,h,hl,hd,hv,hlast=>by
  exact Q69 rs (i+1) k rc _ (by simpa using h) (by grind) hd hv fun k' b hk hb aj=>hlast (k'+1) b (by omega) (by simpa using hb) (by grind)
theorem Q7M {L:Array Bool} {l:Nat} (h0:Nat->Option Ob):∀ (recs:List Rec) (i k:Nat) (rc:Rec) (h:Nat->Option Ob),recs[k]? = some rc->Lst L (i+k)->l∈wrL rc.dl->(∀ k' b,k<k'->recs[k']? = some b->Lst L (i+k')->l ∉ wrL b.dl)->hA L i h recs l=KE h0 rc.dl.wr l
 |[],i,k,rc,h,hb,_,_,_=>by simp at hb
 |r0::rs,i,0,rc,h,hb,hl,hd,hlast=>by
  simp at hb;subst hb;simp only [hA];have aj:L.getD i false=true:=by assumption
  rw [if_pos aj];have:∀ (rs:List Rec) (j:Nat) (f:Nat->Option Ob),(∀ k' b,rs[k']? = some b->Lst L (j+k')->l ∉ wrL b.dl)->hA L j f rs l=f l:=by
   intro rs;induction rs with
   |nil=>intro j f _;rfl
   |cons x r ih=>
    intro j f hj;simp only [hA];rw [ih (j+1) _ fun k' b hb hl=>hj (k'+1) b (by simp_all) (by grind)];split
    ·rename_i hx;exact UL (hj 0 x rfl hx)
    ·rfl
  rw [this rs (i+1) _ fun k' b hb hl=>hlast (k'+1) b (by omega) (by simpa using hb) (by grind)];exact Q5E hd
 |r0::rs,i,k+1,rc,h,hb,hl,hd,hlast=>by
  exact Q7M h0 rs (i+1) k rc _ (by simpa using hb) (by grind) hd fun k' b hk an aj=>hlast (k'+1) b (by omega) (by simp_all) (by grind)
theorem Q3k {st:St}:∀ {wr:List (Nat × Option Ob)},(∀ l o,(l,some o)∈wr->look st.h l=none->Ur st l=true)->Wc st wr=true
 |[],_=>rfl
 |(l,o)::r,h=>by
  simp only [Wc,Qin];refine ⟨?_,Q3k fun l' o' hm=>h l' o' (by simp [hm])⟩;cases o with
  |none=>rfl
  |some o=>
   cases hs:look st.h l with
   |some o'=>rfl
   |none=>exact h l o (by simp) hs
theorem Q03 {l:Nat} {o:Ob}:∀ {wr:List (Nat × Option Ob)},(l,some o)∈wr->WE l wr=true
 |(k,o')::r,h=>by
  rcases Qiq.1 h with e | h'
  ·injection e with e1 e2;subst e1;subst e2;simp [WE]
  ·simp [WE,Q03 h']
theorem Q3p {p q:Nat->Bool} {i:Nat}:∀ {l:List Nat},i∈l->(∀ x∈l,q x=true->p x=true)->p i=true->q i=false->l.countP q<l.countP p
 |a::r,hm,ac,hp,hq=>by
  have hr:r.countP q<=r.countP p:=List.countP_mono_left fun x hx=>ac x (by simp [hx])
  simp only [List.countP_cons];rcases Qiq.1 hm with rfl | aj
  ·simp [hp,hq];omega
  ·have:=Q3p aj (fun x hx=>ac x (by simp [hx])) hp hq;have h1:=ac a (by simp);cases ak:q a
   ·simp;split <;> omega
   ·simp [h1 ak];omega
theorem Cu {listed:Array Bool} {i j:Nat} (hi:i<listed.size):Lst (listed.setIfInBounds i true) j↔j=i\/Lst listed j:=by
 unfold Lst;by_cases hj:j<listed.size
 ·by_cases e:j=i
  all_goals simp_all [Ne.symm]
 grind
theorem Q6Z {es:List Edge} {i:Nat} (h:Q0P es i=true) (e:Edge) (hm:e∈es) (hb:Region.binds .any e=true):e.on<i:=by
 induction es with
 |nil=>simp at hm
 |cons e0 r ih=>
  simp only [Q0P,Qin,QiB,Qiu] at h
  grind [Nat.le_of_ble_eq_true]
theorem F7 {l:List Oper} (k:Nat) (o:Oper) (e:Edge) (he:e∈o.after.toList) (hb:Region.binds .any e=true):∀ i,NE l i=true->l[k]? = some o->e.on<i+k:=by
 induction l generalizing k with
 |nil=>simp_all
 |cons o0 r ih=>
  intro i h ho;simp only [NE,Qin] at h;cases k with
  |zero=>simp at ho;subst ho;exact Q6Z h.1 e he hb
  |succ k=>
   grind
theorem BJ {ac:Array Oper} {listed:Array Bool} {i:Nat} (an:listed.size=ac.size):i∈Region.ready .any ac listed↔∃ o,ac[i]? = some o/\¬ Lst listed i/\Qa6 listed o.after.toList:=by
 unfold Region.ready;simp only [List.mem_filter,List.mem_range,Qin,Qiu];constructor
 ·rintro ⟨h1,h2,h3⟩;have ho:=QiD h1;refine ⟨_,ho,?_,?_⟩
  ·simp_all [Lst,Array.getD,dite_true]
  ·rw [ho] at h3;simp only [Option.map_some,Option.getD_some,Array.all_eq_true_iff_forall_mem,QiB,Qiu] at h3;intro e he hb;rcases h3 e (by simp_all) with h4 | h4
   ·simp_all
   ·exact h4
 ·rintro ⟨o,ho,hn,hp⟩;have h1:=(Qix.1 ho).1;have hi:i<listed.size:=by omega
  refine ⟨h1,?_,?_⟩
  ·simp_all [Lst,Array.getD,dite_true]
  ·rw [ho];simp only [Option.map_some,Option.getD_some,Array.all_eq_true_iff_forall_mem,QiB,Qiu];intro e he;cases hb:Region.binds .any e with
   |false=>simp_all
   |true=>exact .inr (hp e (by simpa using he) hb)
theorem Q9H {ac:Array Oper} {aj st':St} {recs:List Rec} {Q:Exit->Act->World->Prop} (cf:recs.length=ac.size) (ax:BF P E ac 0 aj recs st') (hd:Q22 aj ac.toList recs=true) (hQ:∀ a w,Hd E st' a w->Q .normal a w) :
  ∀ (fuel:Nat) (listed:Array Bool) (a:Act) (w:World),listed.size=ac.size->Q9h ac.toList listed->(List.range ac.size).countP (fun i=>!listed.getD i false)<=fuel->Hd E (EA listed 0 aj recs) a w->wpAny P .any ac Q fuel listed a w:=by
 simp only [Q22,Qin] at hd;obtain ⟨⟨a9,az⟩,b5⟩:=hd;obtain ⟨b8,bb⟩:=Q6n ac.toList ac.toList [] (fun k=>by simp) (fun j i m o h1=>by simp at h1);simp only [List.length_nil,QiC,Array.length_toList] at b8;have bx:∀ listed:Array Bool,listed.size=ac.size->Region.ready .any ac listed=[]->∀ i,i<ac.size->Lst listed i:=by
  intro listed aw hr i;induction i using Nat.strongRecOn with
  |ind i ih=>
   intro hi;by_cases hl:Lst listed i
   ·exact hl
   ·exfalso;have ho:=QiD hi;have:i∈Region.ready .any ac listed:=(BJ aw).2 ⟨_,ho,hl,fun e he hb=>ih e.on (by
     have:=F7 i _ e he hb 0 a9 (by simp_all);omega) (by
     have:=F7 i _ e he hb 0 a9 (by rw [QiJ];exact ho);omega)⟩
    simp_all
 have bl:∀ (listed:Array Bool) (a:Act) (w:World),(∀ i,i<ac.size->Lst listed i)->Hd E (EA listed 0 aj recs) a w->Q .normal a w:=by
  intro listed a w hl hR;refine hQ a w (hR.same ?_ (fun t=>?_) ?_)
  ·rw [Le ax,La (n:=ac.size) recs 0 _ aj (by omega),Q08,Q08]
  ·rw [Le ax,La (n:=ac.size) recs 0 _ aj (by omega),Ms,Ms];refine FD recs 0 _ fun k rc hk _=>?_
   have bh:=(Qip.1 hk).1;rw [Ks (by omega)];exact ⟨fun _=>hl _ (by omega),fun _=>by omega⟩
  ·rw [Le ax,La (n:=ac.size) recs 0 _ aj (by omega),EQ,EQ];funext l;refine Cd recs 0 _ _ rfl fun k rc hk _=>?_
   have bh:=(Qip.1 hk).1;rw [Ks (by omega)];exact ⟨fun _=>hl _ (by omega),fun _=>by omega⟩
 intro fuel;induction fuel with
 |zero=>
  intro listed a w aw bc bq hR;have hl:∀ i,i<ac.size->Lst listed i:=by
   intro i hi;have h0:(List.range ac.size).countP (fun i=>!listed.getD i false)=0:=by omega
   rw [List.countP_eq_zero] at h0;have:=h0 i (by simpa using hi);simpa [Lst] using this
  refine ⟨?_,bl listed a w hl hR⟩;cases hr:Region.ready .any ac listed with
  |nil=>rfl
  |cons x xs=>
   exfalso;obtain ⟨o,ho,hn,_⟩:=(BJ aw).1 (by rw [hr];simp:x∈Region.ready .any ac listed);exact hn (hl x (Qix.1 ho).1)
 |succ fuel ih=>
  intro listed a w aw bc bq hR;refine ⟨fun hr=>bl listed a w (bx listed aw hr) hR,fun i hi=>?_⟩;obtain ⟨o,ho,a3,b0⟩:=(BJ aw).1 hi;have br:=(Qix.1 ho).1;obtain ⟨rc,aq⟩:∃ rc,recs[i]? = some rc:=⟨_,Qir (by omega)⟩;obtain ⟨⟨o',b7,ce⟩,bp,a7⟩:=Q5t ax i rc aq;simp only [QiC] at b7 a7;have ba:∀ (j m:Nat),(Q1z ac.toList [])[i]? = some m->m.testBit j=true->Lst listed j:=fun j m h1 h2=>bb i j m o h1 (by rw [QiJ];exact ho) h2 listed bc b0
  have ay:∀ (j m:Nat),(Q1z ac.toList [])[j]? = some m->j<ac.size->m.testBit i=true->¬ Lst listed j:=fun j m h1 h2 h3 hl=>by
   have a6:=QiD h2;exact a3 (bb j i m _ h1 (by rw [QiJ];exact a6) h3 listed bc (bc j _ (by rw [QiJ];exact a6) hl))
  have a5:∀ (p q:Nat) (x y:Rec),p<q->recs[p]? = some x->recs[q]? = some y->∃ m,(Q1z ac.toList [])[q]? = some m/\(WO x y=true\/QdU x.dst y.dl.v=true->m.testBit p=true):=by
   intro p q x y cu hx hy;obtain ⟨a4,_,g2,_⟩:=Mw az p x hx;obtain ⟨m,hm,hc⟩:=Ea g2 (q-(p+1)) y (by rw [QiA,show p+1+(q-(p+1))=q from by omega];exact hy);rw [QiA,show p+1+(q-(p+1))=q from by omega] at hm;refine ⟨m,hm,fun h=>?_⟩;have:=hc (by rcases h with h | h;exact .inl h;exact .inr (.inr h));simpa using this
  have bi:∀ (j:Nat) (b:Rec),j<i->recs[j]? = some b->WO b rc=true->Lst listed j:=fun j b hj hb hc=>by
   obtain ⟨m,hm,h1⟩:=a5 j i b rc hj hb aq;exact ba j m hm (h1 (.inl hc))
  have ao:∀ (j:Nat) (b:Rec),i<j->recs[j]? = some b->WO rc b=true\/QdU rc.dst b.dl.v=true->¬ Lst listed j:=fun j b hj hb hc=>by
   obtain ⟨m,hm,h1⟩:=a5 i j rc b hj aq hb;exact ay j m hm (by have:=(Qip.1 hb).1;omega) (h1 hc)
  have bj:∀ (k:Nat) (b:Rec),recs[k]? = some b->(k<i->WO b rc=true)->(i<k->WO rc b=true)->(Lst listed (0+k)↔Lst (Rq ac.size (0+i)) (0+k)):=by
   intro k b hb h1 h2;have bh:=(Qip.1 hb).1;rw [Ks (by omega)];simp only [QiC];rcases Nat.lt_trichotomy k i with h | h | h
   ·exact ⟨fun _=>h,fun _=>bi k b h hb (h1 h)⟩
   ·subst h;exact ⟨fun hl=>absurd hl a3,fun hl=>by omega⟩
   ·exact ⟨fun hl=>absurd hl (ao k b h hb (.inl (h2 h))),fun hl=>by omega⟩
  have bn:Q8l aj i recs=EA (Rq ac.size (0+i)) 0 aj recs:=La recs 0 i aj (by omega);have c1:∀ t,t∈rc.rt->lkT (EA listed 0 aj recs).tm t=lkT (Q8l aj i recs).tm t:=by
   intro t ht;rw [bn,Ms,Ms];refine FD recs 0 _ fun k b hk a2=>bj k b hk (fun _=>?_) (fun _=>?_)
   ·simp [WO,inO,a2,Bs ht]
   ·simp [WO,inO,a2,Bs ht]
  have c2:∀ l,l∈rc.dl.rd\/l∈wrL rc.dl->look (EA listed 0 aj recs).h l=look (Q8l aj i recs).h l:=by
   intro l hl;rw [bn,EQ,EQ];refine Cd recs 0 _ _ rfl fun k b hk hw=>bj k b hk (fun _=>?_) (fun _=>?_)
   ·rcases hl with hl | hl
    ·simp [WO,R1 hw hl]
    ·simp [WO,R1 hw hl]
   ·rcases hl with hl | hl
    ·simp [WO,R1 hw hl]
    ·simp [WO,R1 hl hw]
  have c3:Q27 (EA listed 0 aj recs) rc.dl.v rc.dst=true:=by
   have h1:=bp.1;cases bz:rc.dst with
   |none=>rfl
   |some d=>
    rw [bz,bn] at h1;simp only [Q27,Qin,Qiu,Q08] at h1 ⊢;obtain ⟨g1,g2⟩:=Q61 recs 0 aj h1.2.2;refine ⟨h1.1,h1.2.1,Q5i recs 0 aj g1 fun k b hb hl hn=>?_⟩;have bh:=(Qip.1 hb).1;rcases Nat.lt_trichotomy k i with h | h | h
    ·exact g2 k b hb (by rw [Ks (by omega)];omega) hn
    ·subst h;simp only [QiC] at hl;exact absurd hl a3
    ·cases hg:gds d b.dl.v with
     |false=>rfl
     |true=>simp only [QiC] at hl;exact absurd hl (ao k b h hb (.inr (by simp [QdU,bz,hg])))
  have c4:Wc (EA listed 0 aj recs) rc.dl.wr=true:=by
   refine Q3k fun l ob hm au=>?_
   have hs:=Q03 hm;have a8:∀ k b,recs[k]? = some b->Lst listed (0+k)->∀ o,(l,o)∈b.dl.wr->o.isSome=true:=by
    intro k b hb bm o ho;simp only [QiC] at bm;cases o with
    |some _=>rfl
    |none=>
     exfalso;rcases Nat.lt_trichotomy k i with h | h | h
     ·have:=Q57 (Qb9 k b b5 hb) ho rc (List.mem_of_getElem? (i:=i-k) (by rw [QiA,show k+(i-k)=i from by omega];exact aq));rw [hs] at this;cases this
     ·subst h;exact a3 bm
     ·have bo:HI (wrL rc.dl) (wrL b.dl)=true:=R1 (x:=l) (R3 hs) (QiI.2 ⟨_,ho,rfl⟩);exact ao k b h hb (.inl (by simp [WO,bo])) bm
   rw [EQ] at au;have hz:look aj.h l=none:=by
    cases hz:look aj.h l with
    |none=>rfl
    |some cq=>
     have:=Q1K (listed:=listed) recs 0 (look aj.h) a8 (.inl (by simp [hz]));rw [au] at this;cases this
   have b6:∀ k b,k<i->recs[k]? = some b->WE l b.dl.wr=false:=by
    intro k b hk hb;cases hh:WE l b.dl.wr with
    |false=>rfl
    |true=>
     have bo:HI (wrL b.dl) (wrL rc.dl)=true:=R1 (x:=l) (R3 hh) (R3 hs);have hc:WO b rc=true:=by simp [WO,bo]
     have:=Q1K (listed:=listed) recs 0 (look aj.h) a8 (.inr ⟨k,b,hb,by simpa using bi k b hk hb hc,hh⟩);rw [au] at this;cases this
   obtain ⟨a4,g1,g2,g3⟩:=Mw az i rc aq;have bk:l∈To aj a4 rc.dl.wr:=Q2e hz (fun hl=>by
    rcases g1 l hl with h | ⟨k',b,h1,h2,h3⟩
    ·simp at h
    ·rw [b6 k' b h1 h2] at h3;cases h3) hs
   obtain ⟨g4,_,g6⟩:=g3 l bk;refine Q2t recs 0 aj g4 fun k b hb hl=>?_
   simp only [QiC] at hl;have bh:=(Qip.1 hb).1;rcases Nat.lt_trichotomy k i with h | h | h
   ·exact g6 k b h hb
   ·subst h;exact absurd hl a3
   ·cases hr:Da l b with
    |false=>rfl
    |true=>
     exfalso;obtain ⟨m,bv,hc⟩:=Ea g2 (k-(i+1)) b (by rw [QiA,show i+1+(k-(i+1))=k from by omega];exact hb);rw [QiA,show i+1+(k-(i+1))=k from by omega] at bv;exact ay k m bv (by omega) (by have:=hc (.inr (.inl ⟨l,bk,hr⟩));simpa using this) hl
  have ca:=a7 _ a w hR c1 c2 c3 c4 Q;have ar:i<listed.size:=by omega
  refine wpOp_mono (fun a' w' b3=>?_) ca;refine ih (listed.setIfInBounds i true) a' w' (by simpa using aw) ?_ ?_ ?_
  ·intro j oj a6 hl e he hb;rw [Cu ar] at hl ⊢;rcases hl with rfl | hl
   ·have:oj=o:=by
     have:ac[j]? = some oj:=by simpa using a6
     rw [ho] at this;injection this with this;exact this.symm
    subst this;exact .inr (b0 e he hb)
   ·exact .inr (bc j oj a6 hl e he hb)
  ·have:(List.range ac.size).countP (fun j=>!(listed.setIfInBounds i true).getD j false)<(List.range ac.size).countP (fun j=>!listed.getD j false):=by
    refine Q3p (i:=i) (by simpa using br) (fun x _ hx=>?_) ?_ ?_
    ·cases hl:listed.getD x false with
     |false=>rfl
     |true=>
      have:Lst (listed.setIfInBounds i true) x:=(Cu ar).2 (.inr hl);simp only [Lst] at this;rw [this] at hx;cases hx
    ·cases hl:listed.getD i false with
     |false=>rfl
     |true=>exact absurd hl a3
    ·have:Lst (listed.setIfInBounds i true) i:=(Cu ar).2 (.inl rfl);simp only [Lst] at this;rw [this];rfl
   omega
  ·have an:∀ k,k≠i->(Lst (listed.setIfInBounds i true) (0+k)↔Lst listed (0+k)):=fun k hk=>by
    rw [Cu ar];simp only [QiC];exact ⟨fun h=>h.resolve_left hk,.inr⟩
   have bg:Lst (listed.setIfInBounds i true) (0+i):=by rw [Cu ar];exact .inl (QiC i)
   refine b3.same ?_ (fun t=>?_) ?_
   ·rw [Q08];simp [put,Q08]
   ·rw [Ms,Q7F];by_cases e:rc.dst=some t
    ·rw [if_pos e];refine Q69 recs 0 i rc _ aq bg e rfl fun k' b hk hb hl=>?_
     intro a2;rw [an k' (by omega)] at hl;simp only [QiC] at hl;exact ao k' b hk hb (.inl (by simp [WO,e,a2])) hl
    ·rw [QiH e,Ms];refine FD recs 0 _ fun k b hb a2=>an k (fun e2=>?_)
     subst e2;rw [aq] at hb;injection hb with hb;subst hb
     exact e a2
   ·rw [EQ];funext l;have:look (put (EA listed 0 aj recs) rc.dst rc.dl).h l=KE (hA listed 0 (look aj.h) recs) rc.dl.wr l:=by
     simp only [put,KU,EQ]
    rw [this];by_cases e:l∈wrL rc.dl
    ·exact Q7M _ recs 0 i rc _ aq bg e fun k' b hk hb hl hw=>by
      rw [an k' (by omega)] at hl;simp only [QiC] at hl;exact ao k' b hk hb (.inl (by simp [WO,R1 e hw])) hl
    ·rw [UL e];refine Cd recs 0 _ _ rfl fun k b hb hw=>an k (fun e2=>?_)
     subst e2;rw [aq] at hb;injection hb with hb;subst hb
     exact e hw
end
section
variable {P:Program} {E:Env} {R:Type}
def inv (ρ:List (Nat × Nat)) (k:Nat):Option Nat:=
 match ρ with
 |[]=>none
 |(l,l')::r=>if l'=k then some l else inv r k
theorem Q8d {k l:Nat}:∀ {ρ:List (Nat × Nat)},inv ρ k=some l->(l,k)∈ρ
 |(a,b)::r,h=>by
  unfold inv at h;by_cases e:b=k
  ·rw [if_pos e] at h;injection h with h;subst e;subst h;simp
  ·rw [QiH e] at h;simp [Q8d h]
theorem Hb {ρ:List (Nat × Nat)} {f:Nat × Nat->Nat} (h:X3 (ρ.map f)=true):∀ p q,p∈ρ->q∈ρ->f p=f q->p=q:=by
 induction ρ with
 |nil=>simp_all
 |cons x r ih=>
  simp only [Qiw,X3,Qin,Qiu] at h;have hx:∀ q∈r,f q≠f x:=fun q hq e=>by
   have:Pr (f x) (r.map f)=true:=C1.2 (QiI.2 ⟨q,hq,e⟩)
   simp_all
  grind
theorem Q2J {ρ:List (Nat × Nat)} (h:X3 (ρ.map (·.2))=true) {l k:Nat} (hm:(l,k)∈ρ):inv ρ k=some l:=by
 induction ρ with
 |nil=>simp at hm
 |cons x r ih=>
  obtain ⟨a,b⟩:=x;unfold inv;by_cases e:b=k
  ·have:=Hb h (a,b) (l,k) (by simp) hm e
   simp_all
  ·rcases Qiq.1 hm with hm | hm
   all_goals simp_all [absurd,Qiw,X3,Qin]
theorem Yk {α:Type} {l:Nat} {o:α}:∀ {ρ:List (Nat × α)},look ρ l=some o->(l,o)∈ρ
 |(a,b)::r,h=>by
  rw [XL] at h;by_cases e:l=a
  ·rw [if_pos e] at h;injection h with h;subst e;subst h;simp
  ·rw [QiH e] at h;simp [Yk h]
theorem PH {ρ:List (Nat × Nat)} {h:List (Nat × Ob)}:∀ {ρs:List (Nat × Nat)} {k:Nat} {o:Ob},look (Ec ρ h ρs) k=some o->∃ l o',(l,k)∈ρs/\look h l=some o'/\o=QaK ρ o'
 |[],k,o,hk=>by simp [Ec,look] at hk
 |(l,l')::r,k,o,hk=>by
  unfold Ec at hk;split at hk
  ·rename_i o' ac;rw [XL] at hk;by_cases e:k=l'
   ·rw [if_pos e] at hk;injection hk with hk
    subst e;exact ⟨l,o',by simp,ac,hk.symm⟩
   ·rw [QiH e] at hk;obtain ⟨l2,o2,h1,h2⟩:=PH hk;exact ⟨l2,o2,by simp [h1],h2⟩
  ·obtain ⟨l2,o2,h1,h2⟩:=PH hk;exact ⟨l2,o2,by simp [h1],h2⟩
theorem S4 {ρ:List (Nat × Nat)} {h:List (Nat × Ob)}:∀ {ρs:List (Nat × Nat)} {l k:Nat} {o:Ob},X3 (ρs.map (·.2))=true->(l,k)∈ρs->look h l=some o->look (Ec ρ h ρs) k=some (QaK ρ o)
 |[],l,k,o,_,hm,_=>by simp at hm
 |(a,b)::r,l,k,o,hn,hm,ho=>by
  have an:=hn;simp only [Qiw,X3,Qin,Qiu] at hn;unfold Ec;rcases Qiq.1 hm with e | ac
  ·injection e with e1 e2
   subst e1;subst e2;rw [ho];simp [XL]
  ·have aj:k≠b:=fun e=>by
    subst e;have:Pr k (r.map (·.2))=true:=C1.2 (QiI.2 ⟨(l,k),ac,rfl⟩);rw [hn.1] at this;cases this
   have ih:=S4 (ρ:=ρ) (h:=h) hn.2 ac ho;split
   ·rw [XL,QiH aj];exact ih
   ·exact ih
theorem VE {ρ:List (Nat × Nat)}:∀ {l:List AV} {i:Nat},(Q1S ρ l)[i]? = (l[i]?).map (U4 ρ)
 |[],i=>by simp [Q1S]
 |a::r,0=>by simp [Q1S]
 |a::r,i+1=>by simp only [Q1S,List.getElem?_cons_succ];exact VE
theorem YY {ρ:List (Nat × Nat)}:∀ {l:List AV},(Q1S ρ l).length=l.length
 |[]=>rfl
 |a::r=>by simp [Q1S,YY (l:=r)]
theorem Q0r {ρ:List (Nat × Nat)} {ty:TypeId} {cells:List AV} (h:Q6w ty cells):Q6w ty (Q1S ρ cells):=by
 intro i l t hi;rw [VE,Qio] at hi;obtain ⟨y,hy,he⟩:=hi;cases y with
 |sa l' t'=>
  simp only [U4] at he;split at he
  ·injection he with h1 h2
   subst h2;exact h i l' _ hy
  ·cases he
 |ptr a b=>grind [U4]
 |arr a=>grind [U4]
 |ap a b c=>simp only [U4] at he;split at he <;> cases he
 |_=>trivial
theorem Qas {ty:TypeId} {cells:List AV} {c l:Nat} (h:Q6w ty cells):Q6w ty (cells.set c (.arr l)):=by
 intro i l' t hi;rw [List.getElem?_set] at hi;split at hi
 ·simp_all
 ·exact h i l' t hi
theorem Q5T {ρ:List (Nat × Nat)} {β:Nat->Option Nat} {S:Nat->Prop} {h:List (Nat × Ob)} (hn:X3 (ρ.map (·.2))=true) {β':Nat->Option Nat} (aw:∀ l k,(l,k)∈ρ->β' k=β l) {w:World} {tm:Nat->Value} {v:Value} {av:AV}
  (hv:RdA β S (look h) w tm v av):RdA β' S (look (Ec ρ h ρ)) w tm v (U4 ρ av):=by
 have hβ:∀ {l l':Nat},look ρ l=some l'->β' l'=β l:=fun {l l'} hl=>aw l l' (Yk hl)
 have aj:∀ {l l':Nat},look ρ l=some l'->look h l=none->look (Ec ρ h ρ) l'=none:=fun {l l'} hl hh=>by
  cases hk:look (Ec ρ h ρ) l' with
  |none=>rfl
  |some o=>
   obtain ⟨l2,o2,h1,h2,_⟩:=PH hk;have e1:=Q2J hn h1;rw [Q2J hn (Yk hl)] at e1
   simp_all
 induction hv with
 |top v=>exact .top v
 |d v x hx=>exact .d v x hx
 |nil=>exact .nil
 |ag cs l hl _ ih=>
  refine .ag cs _ (by grind [YY]) fun i x hx=>?_
  grind [VE,Option.map_eq_some_iff]
 |tup cs l hl _ ih=>
  refine .tup cs _ (by rw [YY];exact hl) fun i x hx=>?_
  rw [VE,Qio] at hx
  grind
 |fn f cs l hl _ ih=>
  refine .fn f cs _ (by rw [YY];exact hl) fun i x hx=>?_
  rw [VE,Qio] at hx;obtain ⟨y,hy,rfl⟩:=hx;exact ih i y hy
 |ptr l off b hb=>
  unfold U4;split
  ·rename_i l' hl;exact .ptr _ _ _ ((hβ hl).trans hb)
  ·exact .top _
 |sa v l t b hb hv=>
  unfold U4;split
  ·rename_i l' hl;exact .sa _ _ _ b ((hβ hl).trans hb) hv
  ·exact .top _
 |el ad row off c hs hc hr=>exact .el ad row off c hs hc hr
 |fs ad s rows hx=>exact .fs ad s rows hx
 |mpd v f hm=>exact .mpd v f hm
 |ex v=>exact .ex v
 |arr0 l e s hb hh=>
  unfold U4;split
  ·rename_i l' hl;exact .arr0 _ e s ((hβ hl).trans hb) (S4 hn (Yk hl) hh)
  ·exact .top _
 |arr l b cap e s rows cs ty fz hb hh hw au aq ar=>
  unfold U4;split
  ·rename_i l' hl;exact .arr _ b cap e s rows cs ty fz ((hβ hl).trans hb) (S4 hn (Yk hl) hh) hw au aq ar
  ·exact .top _
 |mp l b t f hb hh=>
  unfold U4;split
  ·rename_i l' hl;exact .mp _ b t f ((hβ hl).trans hb) (S4 hn (Yk hl) hh)
  ·exact .top _
 |ap l i off b e s rows hb hh=>
  unfold U4;split
  ·rename_i l' hl;exact .ap _ i off b e s rows ((hβ hl).trans hb) (S4 hn (Yk hl) hh)
  ·exact .top _
 |dang v av l hl hh h1=>
  cases av <;> simp [Nm] at hl
  ·subst hl;unfold U4;split
   ·rename_i l' an;exact .dang _ _ l' rfl (aj an hh) h1
   ·exact .top _
  ·subst hl;unfold U4;split
   ·rename_i l' an;exact .dang _ _ l' rfl (aj an hh) h1
   ·exact .top _
 |gdT=>exact .top _
 |gdF=>exact .top _
theorem Q0h {ρ:List (Nat × Nat)} {tm:List (Nat × AV)} {t:Nat} {av:AV}:∀ {ks:List Nat},look (Q8M ρ tm ks) t=some av->av=U4 ρ (lkT tm t)
 |k::r,h=>by
  simp only [Q8M,XL] at h;by_cases e:t=k
  ·rw [if_pos e] at h;injection h with h;rw [<- h,e]
  ·rw [QiH e] at h;exact Q0h h
theorem Qac {st:St} {a:Act} {w:World} {ρ:List (Nat × Nat)} {ks:List Nat} (h1:X3 (ρ.map (·.1))=true) (h2:X3 (ρ.map (·.2))=true) (h3:∀ l k,(l,k)∈ρ->l=k\/k<=999999) (h:Hd E st a w):Hd E { n:=st.n,tm:=Q8M ρ st.tm ks,h:=Ec ρ st.h ρ } a w:=by
 obtain ⟨β,S,hR⟩:=h;have hβ:∀ l k,(l,k)∈ρ->(if 1000000<=k then β k else (inv ρ k).bind β)=β l:=by
  intro l k hm;split
  ·grind
  ·rw [Q2J h2 hm];rfl
 have ac:∀ {k b:Nat},(look (Ec ρ st.h ρ) k).isSome=true->(if 1000000<=k then β k else (inv ρ k).bind β)=some b->∃ l,(l,k)∈ρ/\(look st.h l).isSome=true/\β l=some b:=by
  grind [Option.isSome_iff_exists,PH]
 refine ⟨fun k=>if 1000000<=k then β k else (inv ρ k).bind β,S,hR.n,hR.dfr,fun t av ht=>?_,⟨fun k o ho=>?_,fun k k' b s1 s2 b1 b2=>?_,fun k b s1 b1=>?_,fun k b s1 b1=>?_,hR.hr.sb,hR.hr.sfr,hR.hr.s0,hR.hr.fr,fun k hk=>by simp only [if_pos hk];exact hR.hr.pin k hk,fun k b hk s1 b1=>?_⟩⟩
 ·rw [Q0h ht];refine Q5T h2 hβ ?_;unfold lkT;cases hl:look st.tm t with
  |none=>exact .top _
  |some ay=>exact hR.tm t ay hl
 ·obtain ⟨l,o',g1,g2,rfl⟩:=PH ho;have ak:=hβ l k g1;have an:=hR.hr.ob l o' g2;cases o' with
  |box cells=>
   obtain ⟨b,ty,cs,fz,hb,hw,hf,ao,hr⟩:=an;refine ⟨b,ty,cs,fz,ak.trans hb,hw,⟨hf.1,Q0r hf.2⟩,by rw [ao,YY],fun i x hx=>?_⟩;rw [VE,Qio] at hx;obtain ⟨y,hy,rfl⟩:=hx
   grind [Q5T]
  |arr e s rows=>
   rcases an with ⟨hb,hn⟩ | ⟨b,cs,hb,hw,ao,aw,hr⟩
   ·exact .inl ⟨ak.trans hb,hn⟩
   ·exact .inr ⟨b,cs,ak.trans hb,hw,ao,aw,hr⟩
  |mp t f=>
   obtain ⟨b,hb,hm⟩:=an;exact ⟨b,ak.trans hb,hm⟩
 ·obtain ⟨l,g1,g2,g3⟩:=ac s1 b1;obtain ⟨l',ar,au,ax⟩:=ac s2 b2;have:=hR.hr.inj l l' b g2 au g3 ax;subst this;have:=Hb h1 (l,k) (l,k') g1 ar rfl
  simp_all
 ·obtain ⟨l,g1,g2,g3⟩:=ac s1 b1;exact hR.hr.apart l b g2 g3
 ·obtain ⟨l,g1,g2,g3⟩:=ac s1 b1;exact hR.hr.own l b g2 g3
 ·obtain ⟨l,g1,g2,g3⟩:=ac s1 b1;rcases h3 l k g1 with h | h
  ·subst h;exact hR.hr.psz l b hk g2 g3
  ·omega
theorem Q2V {t k:Nat} {v av:AV}:∀ {tm:List (Nat × AV)},look (Qfr tm t v) k=some av->(k=t/\av=v)\/look tm k=some av
 |(a,b)::r,h=>by
  unfold Qfr at h;cases hb:Nat.beq a t with
  |true=>
   have:=Qim hb;subst this;simp only [hb,Qit,XL] at h;by_cases e:k=a
   ·rw [if_pos e] at h;injection h with h;exact .inl ⟨e,h.symm⟩
   ·rw [QiH e] at h;exact .inr (by rw [XL,QiH e];exact h)
  |false=>
   simp only [hb,QiG,XL] at h;by_cases e:k=a
   ·rw [if_pos e] at h;exact .inr (by rw [XL,if_pos e];exact h)
   ·rw [QiH e] at h;rcases Q2V h with h | h
    ·exact .inl h
    ·exact .inr (by rw [XL,QiH e];exact h)
theorem Q2B {β:Nat->Option Nat} {S:Nat->Prop} {st:St} {a:Act} {w:World} (hR:Rel E β S st a w) {l e s:Nat} (hc:Ur st l=true) (hn:look st.h l=none):Rel E (SS β l none) S ⟨st.n,st.tm,(l,.arr e s [])::st.h⟩ a w:=by
 have aj:∀ k,look ((l,Ob.arr e s [])::st.h) k=if k=l then some (.arr e s []) else look st.h k:=fun k=>XL l k _ st.h
 have ac:∀ {k b:Nat},(look ((l,Ob.arr e s [])::st.h) k).isSome=true->SS β l none k=some b->(look st.h k).isSome=true/\β k=some b:=by
  intro k b h1 h2
  simp_all [SS,if_pos,QiH]
 refine hR.upd (fun _ h=>h) (fun _ _=>rfl) (fun k=>k=l) (fun k hk=>⟨by grind [SS],by simp_all,fun _ _ _=>rfl⟩) (fun k hk=>.inr (hk▸hc)) (fun k o hk ho=>?_) (fun k k' b h1 h2 h3 h4=>?_) (fun k b h1 h2=>?_) (fun k b h1 h2=>?_) hR.hr.sb hR.hr.sfr hR.hr.fr
 ·subst hk;rw [aj,if_pos rfl] at ho;injection ho with ho
  subst ho;exact .inl ⟨by simp [SS],rfl⟩
 ·exact hR.hr.inj k k' b (ac h1 h3).1 (ac h2 h4).1 (ac h1 h3).2 (ac h2 h4).2
 ·exact hR.hr.apart k b (ac h1 h2).1 (ac h1 h2).2
 ·exact hR.hr.own k b (ac h1 h2).1 (ac h1 h2).2
theorem C0 {a:Act} {w:World}:∀ (l:List (Nat × Nat × Nat × Nat)) (st:St),Hd E st a w->Hd E (Qd9 st l) a w
 |[],st,h=>h
 |(t,l,e,s)::r,st,h=>by
  unfold Qd9;split
  ·rename_i aj;cases hc:(Ur st l&&(look st.h l).isNone) with
   |false=>simp only [QiG];exact C0 r st h
   |true=>
    simp only [Qit];refine C0 r _ ?_;simp only [Qin,Option.isNone_iff_eq_none] at hc;obtain ⟨β,S,hR⟩:=h;have ac:=Q2B (e:=e) (s:=s) hR hc.1 hc.2;have hv:=(hR.tm t _ (Sn aj (by simp))).nil_inv;refine ⟨_,S,ac.n,ac.dfr,fun t' av ht=>?_,ac.hr⟩;rcases Q2V ht with ⟨rfl,rfl⟩ | ht
    ·rw [hv];exact .arr0 l e s (by simp [SS]) (by simp [XL])
    ·exact ac.tm t' av ht
  ·exact C0 r st h
theorem Fu {a:Act} {w:World}:∀ (l:List (Nat × Nat × Nat × Nat × Nat)) (st:St),Hd E st a w->Hd E (Qd2 st l) a w
 |[],st,h=>h
 |(b,c,l,e,s)::r,st,h=>by
  unfold Qd2;split
  ·rename_i cells a3;split
   ·rename_i aq;cases hc:(Ur st l&&(look st.h l).isNone) with
    |false=>simp only [QiG];exact Fu r st h
    |true=>
     simp only [Qit];refine Fu r _ ?_;simp only [Qin,Option.isNone_iff_eq_none] at hc;obtain ⟨β,S,hR⟩:=h;have ay:b≠l:=fun e=>by simp_all
     have aw:=Q2B (e:=e) (s:=s) hR hc.1 hc.2;have ac:look ((l,Ob.arr e s [])::st.h) b=some (.box cells):=by simp_all [XL,QiH]
     obtain ⟨bb,ty,cs,fz,hb,hw,hf,a2,hr⟩:=aw.hr.ob b _ ac;have ax:=aw.set (w':=w) (o':=.box (cells.set c (.arr l))) ac hb (fun _ _=>rfl) rfl rfl rfl rfl ?_ ?_
     ·refine Hd.same ⟨_,S,ax⟩ rfl (fun _=>rfl) ?_
      grind [XL,C2]
     ·refine ⟨rfl,fun h=>?_,fun e' s' rows h=>?_,fun b2 aj an ao _ _ ak=>⟨aj,an,ao,ak,rfl⟩,fun t f h=>by simp_all⟩
      all_goals grind
     ·have ar:∀ k,Keep (SS β l none) (look ((l,Ob.arr e s [])::st.h)) w (SS β l none) (look ((b,.box (cells.set c (.arr l)))::rem b ((l,Ob.arr e s [])::st.h))) w k:=by
       intro k;by_cases e1:k=b
       ·subst e1;refine ⟨rfl,fun h=>?_,fun e' s' rows h=>?_,fun b2 aj an ao _ _ ak=>⟨aj,an,ao,ak,rfl⟩,fun t f h=>by rw [ac] at h;cases h⟩
        ·rw [ac] at h;cases h
        ·rw [ac] at h;cases h
       ·refine ⟨rfl,fun h=>by rw [WJ,QiH e1];exact h,fun e' s' rows h=>.inr ⟨rows,by rw [WJ,QiH e1];exact h,rfl⟩,fun b2 aj an ao _ _ ak=>⟨aj,an,ao,ak,rfl⟩,fun _ f h=>.inr ⟨f,by rw [WJ,QiH e1];exact h⟩⟩
      refine ⟨bb,ty,cs,fz,hb,hw,⟨hf.1,Qas hf.2⟩,by simpa using a2,fun i x hx=>?_⟩;by_cases e1:i=c
      ·subst e1;have az:=(Qip.1 aq).1;rw [List.getElem?_set_self az] at hx;injection hx with hx
       subst hx;rw [(hr i _ aq).nil_inv];exact .arr0 l e s (by simp [SS]) (by rw [WJ,QiH (Ne.symm ay),XL,if_pos rfl])
      ·rw [List.getElem?_set_ne (Ne.symm e1)] at hx;exact (hr i x hx).mono (fun _ h=>h) (fun _ _=>rfl) (fun k _=>ar k) (fun _ _=>rfl)
   ·exact Fu r st h
  ·exact Fu r st h
theorem Q8D {st:St} {a:Act} {w:World} (c:Cfg) (h:Hd E st a w):Hd E (Qcr c st) a w:=by
 unfold Qcr;cases hc:(X3 (c.locs.map (·.1))&&(X3 (c.locs.map (·.2))&&c.locs.all fun p=>Nat.beq p.1 p.2||Nat.ble p.2 999999)) with
 |false=>simpa using h
 |true=>
  simp only [Qin] at hc;exact Fu _ _ (C0 _ _ (Qac hc.1 hc.2.1 (fun l k hm=>by
   simp_all) h))
theorem Ex {l s:Nat} {rows:List (List D)}:∀ {r:List AV} {i:Nat},(fzL l s rows r)[i]? = (r[i]?).map (fzA l s rows)
 |[],i=>by simp [fzL]
 |a::r,0=>by simp [fzL]
 |a::r,i+1=>by simp only [fzL,List.getElem?_cons_succ];exact Ex
theorem S3 {l s:Nat} {rows:List (List D)}:∀ {r:List AV},(fzL l s rows r).length=r.length
 |[]=>rfl
 |a::r=>by simp [fzL,S3 (r:=r)]
theorem Q6l {l s:Nat} {rows:List (List D)} {t:Nat}:∀ {tm:List (Nat × AV)},look (fzT l s rows tm) t=(look tm t).map (fzA l s rows)
 |[]=>rfl
 |(a,b)::r=>by
  simp only [fzT,XL];by_cases e:t=a
  ·simp [e]
  ·simp only [e,if_false];exact Q6l
theorem Bm {l s:Nat} {rows:List (List D)} {k:Nat}:∀ {h:List (Nat × Ob)},look (Qbe l s rows h) k=if k=l then none else (look h k).map (fzO l s rows)
 |[]=>by simp [Qbe,look]
 |(a,b)::r=>by
  simp only [Qbe];cases hb:Nat.beq a l with
  |true=>
   have:=Qim hb;subst this;simp only [Qit];rw [Bm (h:=r),XL];by_cases e:k=a
   ·simp [e]
   ·simp [e]
  |false=>
   have ac:a≠l:=fun e=>by subst e;simp at hb
   simp only [QiG,XL];by_cases e:k=a
   ·subst e;simp [ac]
   ·simp only [e,if_false];exact Bm
theorem Qco {ty:TypeId} {l s:Nat} {rows:List (List D)} {cells:List AV} (h:Q6w ty cells):Q6w ty (fzL l s rows cells):=by
 intro i l' t hi;rw [Ex,Qio] at hi;obtain ⟨y,hy,he⟩:=hi;cases y with
 |sa a b=>injection he with h1 h2;subst h2;exact h i a _ hy
 |arr k=>grind [fzA,Nat.beq]
 |ap k a b=>grind [fzA]
 |_=>trivial
theorem QaV {β:Nat->Option Nat} {S:Nat->Prop} {h h':Nat->Option Ob} {w:World} {l e s:Nat} {rows:List (List D)} (hO:Objs β S h w) (hh:h l=some (.arr e s rows)) (ao:∀ k,h' k=if k=l then none else (h k).map (fzO l s rows)) {S':Nat->Prop} (hS:∀ b,S b->S' b) (hb:∀ b,β l=some b->S' b)
  {tm:Nat->Value} {v:Value} {av:AV} (hv:RdA β S h w tm v av):RdA β S' h' w tm v (fzA l s rows av):=by
 induction hv with
 |top v=>exact .top v
 |d v x hx=>exact .d v x (hx.mono hS (fun _ _=>rfl))
 |nil=>exact .nil
 |ag cs r hl _ ih=>
  refine .ag cs _ (by grind [S3]) fun i x hx=>?_
  grind [Ex,Option.map_eq_some_iff]
 |tup cs r hl _ ih=>
  refine .tup cs _ (by rw [S3];exact hl) fun i x hx=>?_
  rw [Ex,Qio] at hx
  grind
 |fn f cs r hl _ ih=>
  refine .fn f cs _ (by rw [S3];exact hl) fun i x hx=>?_
  rw [Ex,Qio] at hx;obtain ⟨y,hy,rfl⟩:=hx;exact ih i y hy
 |ptr k off b ac=>exact .ptr k off b ac
 |sa v k t b ac hv=>exact .sa v k t b ac hv
 |el ad row off c hs hc hr=>exact .el ad row off c (hS _ hs) hc (fun j x hx=>(hr j x hx).mono hS (fun _ _=>rfl))
 |fs ad s rows hx=>exact .fs ad s rows (hx.mono hS (fun _ _=>rfl))
 |mpd v f hm=>exact .mpd v f (hm.mono hS (fun _ _=>rfl))
 |ex v=>exact .ex v
 |arr0 k e' s' ac hk=>
  unfold fzA;cases an:Nat.beq k l with
  |true=>
   obtain rfl:=Qim an;rw [hh] at hk;injection hk with hk
   injection hk with _ _ hk
   subst hk;exact .d _ _ (.sl0 _ _ _)
  |false=>
   have aj:k≠l:=fun e=>by simp_all
   exact .arr0 k e' s' ac (by rw [ao,QiH aj,hk];rfl)
 |arr k b cap e' s' ak cs ty fz ac hk hw au aq ar=>
  unfold fzA;cases an:Nat.beq k l with
  |true=>
   obtain rfl:=Qim an;exact .d _ _ (Q6g hO hh (RdA.arr (tm:=tm) k b cap e' s' ak cs ty fz ac hk hw au aq ar) hS hb)
  |false=>
   have aj:k≠l:=fun e=>by subst e;simp at an
   exact .arr k b cap e' s' ak cs ty fz ac (by rw [ao,QiH aj,hk];rfl) hw au aq ar
 |mp k b t f ac hk=>
  unfold fzA;cases an:Nat.beq k l with
  |true=>
   simp_all
  |false=>
   have aj:k≠l:=fun e=>by subst e;simp at an
   exact .mp k b t f ac (by rw [ao,QiH aj,hk];rfl)
 |ap k i off b e' s' ak ac hk=>
  unfold fzA;cases an:Nat.beq k l with
  |true=>exact .top _
  |false=>
   have aj:k≠l:=fun e=>by subst e;simp at an
   exact .ap k i off b e' s' ak ac (by rw [ao,QiH aj,hk];rfl)
 |dang v av k hl hk h1=>
  have aj:k≠l:=fun e=>by simp_all
  have hn:h' k=none:=by rw [ao,QiH aj,hk];rfl
  cases av <;> simp [Nm] at hl
  ·subst hl;unfold fzA;rw [Qcb aj];exact .dang _ _ _ rfl hn h1
  ·subst hl;unfold fzA;rw [Qcb aj];exact .dang _ _ _ rfl hn h1
 |gdT=>exact .top _
 |gdF=>exact .top _
theorem QcU {st:St} {a:Act} {w:World} (l:Nat) (h:Hd E st a w):Hd E (fz1 st l) a w:=by
 unfold fz1;split
 case h_2=>exact h
 rename_i e s rows hl;obtain ⟨β,S,hR⟩:=h;have hO:=hR.objs;have au:∀ k,look (Qbe l s rows st.h) k=if k=l then none else (look st.h k).map (fzO l s rows):=fun k=>Bm
 have hS:∀ b,S b->fzS β S [l] b:=fun b hb=>.inl hb
 have ax:∀ b,β l=some b->fzS β S [l] b:=fun b hb=>.inr ⟨l,by simp,hb⟩
 have ac:∀ k,(look (Qbe l s rows st.h) k).isSome=true->(look st.h k).isSome=true/\k≠l:=by
  grind
 refine ⟨β,fzS β S [l],hR.n,hR.dfr,fun t av ht=>?_,⟨fun k o ho=>?_,fun k k' b h1 h2=>hR.hr.inj k k' b (ac k h1).1 (ac k' h2).1,fun k b h1 h2 aj=>?_,fun k b h1 h2=>hR.hr.own k b (ac k h1).1 h2,fun b aj=>?_,fun b aj=>?_,fun b hb=>.inl (hR.hr.s0 b hb),hR.hr.fr,hR.hr.pin,fun k b hk h1=>hR.hr.psz k b hk (ac k h1).1⟩⟩
 ·rw [Q6l,Qio] at ht;obtain ⟨a5,h1,rfl⟩:=ht;exact QaV hO hl au hS ax (hR.tm t a5 h1)
 ·simp only at ho;rw [au] at ho;by_cases e1:k=l
  ·simp_all
  ·rw [QiH e1,Qio] at ho;obtain ⟨o',a4,rfl⟩:=ho;have ao:=hR.hr.ob k o' a4;cases o' with
   |box cells=>
    obtain ⟨b,ty,cs,fz,hb,hw,hf,aq,hr⟩:=ao;refine ⟨b,ty,cs,fz,hb,hw,⟨hf.1,Qco hf.2⟩,by rw [aq,S3],fun i x hx=>?_⟩;rw [Ex,Qio] at hx;obtain ⟨y,hy,rfl⟩:=hx
    grind [QaV]
   |arr e' s' a2=>
    rcases ao with h0 | ⟨b,cs,hb,hw,aq,a3,hr⟩
    ·exact .inl h0
    ·refine .inr ⟨b,cs,hb,hw,aq,a3,fun i j r x h4 h5=>?_⟩;obtain ⟨v,hv,az⟩:=hr i j r x h4 h5;exact ⟨v,hv,az.mono hS (fun _ _=>rfl)⟩
   |mp t f=>exact ao
 ·obtain ⟨ar,ay⟩:=ac k h1;rcases aj with aj | ⟨l',ak,an⟩
  ·exact hR.hr.apart k b ar h2 aj
  ·simp at ak;subst ak;exact ay (hR.hr.inj k l' b ar (by simp [hl]) h2 an)
 ·rcases aj with aj | ⟨l',ak,an⟩
  ·exact hR.hr.sb b aj
  ·simp at ak;subst ak;exact Rt hR (by simp [hl]) an
 ·rcases aj with aj | ⟨l',ak,an⟩
  ·exact hR.hr.sfr b aj
  ·simp at ak;subst ak;exact .inr (hR.hr.own l' b (by simp [hl]) an)
theorem Q9o {a:Act} {w:World}:∀ (ls:List Nat) (st:St),Hd E st a w->Hd E (fzs st ls) a w
 |[],_,h=>h
 |l::r,_,h=>Q9o r _ (QcU l h)
theorem TN (c:Cfg) {st:St} {a:Act} {w:World} (h:Hd E st a w):Hd E (Qc1 c st) a w:=Q8D _ (Q9o c.fz st h)
theorem Q7q (c:Cfg) {st:St} {a:Act} {w:World} (h:Hd E st a w):Hd E (QaG c st) a w:=by
 grind [QaG,TN]
end
section
variable {P:Program} {E:Env} {R:Type}
theorem Hd.drawn {st:St} {a:Act} {w:World} (h:Hd E st a w) (n:Nat):Hd E st a { w with drawn:=n }:=by
 obtain ⟨β,S,hR⟩:=h;have hA:∀ (tm:Nat->Value) (v:Value) (av:AV),RdA β S (look st.h) w tm v av->RdA β S (look st.h) { w with drawn:=n } tm v av:=fun tm v av hv=>
  hv.mono (fun _ h=>h) (fun _ _=>rfl) (fun l _=>⟨rfl,fun x=>x,fun _ _ rows hh=>.inr ⟨rows,hh,rfl⟩,fun _ cs ty fz _ _ hw=>⟨cs,ty,fz,hw,rfl⟩,fun _ f hh=>.inr ⟨f,hh⟩⟩) (fun _ _=>rfl)
 refine ⟨β,S,hR.n,hR.dfr,fun t av ht=>hA _ _ _ (hR.tm t av ht),⟨fun l o ho=>?_,hR.hr.inj,hR.hr.apart,hR.hr.own,hR.hr.sb,hR.hr.sfr,hR.hr.s0,⟨hR.hr.fr.os,hR.hr.fr.tape,hR.hr.fr.output,hR.hr.fr.size,hR.hr.fr.block⟩,hR.hr.pin,hR.hr.psz⟩⟩;have ac:=hR.hr.ob l o ho;cases o with
 |box cells=>
  obtain ⟨b,ty,cs,fz,hb,hw,hf,aj,hr⟩:=ac;exact ⟨b,ty,cs,fz,hb,hw,hf,aj,fun i x hx=>hA _ _ _ (hr i x hx)⟩
 |arr e s rows=>
  rcases ac with h0 | ⟨b,cs,hb,hw,aj,ao,hr⟩
  ·exact .inl h0
  ·refine .inr ⟨b,cs,hb,hw,aj,ao,fun i j r x h4 h5=>?_⟩;obtain ⟨v,hv,ak⟩:=hr i j r x h4 h5;exact ⟨v,hv,Rd.mono (w:=w) (w':={ w with drawn:=n }) (fun _ h=>h) (fun _ _=>rfl) ak⟩
 |mp t f=>exact ac
structure VCOk (P:Program) (C:VC):Prop where
 spec:CN P C.spec
 tt:TOk P C.tt
 mixed:P.follows .mixedOrders=true
def Ap (E:Env) (k:Exit->St->Option R) (r:R):Exit->Act->World->Prop:=fun e a w=>∃ st,Hd E st a w/\k e st=some r
theorem Lo {C:VC} (hC:VCOk P C) {id:Nat} {ac:Array Oper} {aj:Bool} {st:St} {k:St->Option R} {r:R} (h:Q0q C id ac aj st k=some r) {a:Act} {w:World} (hR:Hd E st a w) {Q:Exit->Act->World->Prop}
  (hQ:∀ st' a' w',Hd E st' a' w'->k st'=some r->Q .normal a' w'):(Code.region id ac aj).wp P Q a w:=by
 unfold Q0q at h;obtain ⟨recs,st',ak,h,an⟩:∃ recs st',recs.length=ac.toList.length/\(fun st' recs=>bif !aj||Q22 st ac.toList recs then (match look C.cfg id with | some c=>k (QaG c st') | none=>k st') else none) st' ([]++recs)=some r/\BF P E ac 0 st recs st':=by
  cases hs:(look C.cfg (id+1000000000)).isSome with
  |true=>simp only [hs,Qit] at h;exact BL (E:=E) hC.spec hC.tt ac.toList 0 st [] _ r (fun j=>by simp) h
  |false=>simp only [hs,QiG] at h;exact Q0f (E:=E) hC.spec hC.tt ac.toList 0 st [] _ r (fun j=>by simp) h
 simp only [List.nil_append] at h;cases hc:(!aj||Q22 st ac.toList recs) with
 |false=>simp_all
 |true=>
  simp only [hc,Qit] at h;have ao:∀ a w,Hd E st' a w->Q .normal a w:=by
   grind [Q7q]
  simp only [Array.length_toList] at ak;cases aj with
  |false=>
   grind [wp_region,Q7w,List.range_eq_range']
  |true=>
   simp only [Bool.not_true,Bool.false_or] at hc;refine wp_region_any hC.mixed ?_;refine Q9H ak an hc ao ac.size _ a _ (by simp) ?_ ?_ ?_
   ·intro j o _ hl
    simp_all [Lst,Array.getD]
   ·refine Nat.le_trans List.countP_le_length ?_;simp
   ·have h0:∀ (rs:List Rec) (i:Nat) (s:St),EA (Array.replicate ac.size false) i s rs=s:=by
     intro rs;induction rs with
     |nil=>intro i s;rfl
     |cons x r ih=>
      intro i s;simp only [EA];have:(Array.replicate ac.size false).getD i false=false:=by simp [Array.getD]
      rw [this];exact ih (i+1) s
    rw [h0];exact hR.drawn _
theorem BP {c:Code} {aj:St->(Exit->St->Option R)->Option R} (ac:∀ (st:St) (k:Exit->St->Option R) (r:R),aj st k=some r->∀ a w,Hd E st a w->c.wp P (Ap E k r) a w) :
  ∀ (n:Nat) (st:St) (k:Exit->St->Option R) (r:R),Q7y aj n st k=some r->∀ a w,Hd E st a w->Code.rounds P c (Ap E k r) n a w
 |0,st,k,r,h=>by simp [Q7y] at h
 |n+1,st,k,r,h=>by
  intro a w hR;simp only [Q7y] at h;rw [rounds_succ];refine wp_mono (ac st _ r h a w hR) fun e a' w' hp=>?_
  obtain ⟨st',ak,hk⟩:=hp;cases e with
  |normal=>exact BP ac n st' k r hk a' w' ak
  |exit id=>exact ⟨st',ak,hk⟩
  |ret=>exact ⟨st',ak,hk⟩
  |_=>cases hk
theorem Q3T {C:VC} (hC:VCOk P C) (n:Nat):∀ (c:Code) (st:St) (k:Exit->St->Option R) (r:R),CO C n c st k=some r->∀ a w,Hd E st a w->c.wp P (Ap E k r) a w:=by
 intro c;induction c with
 |skip=>intro st k r h a w hR;exact wp_skip ⟨st,hR,h⟩
 |region id ar aq=>
  intro st k r h a w hR;exact Lo hC h hR fun st' a' w' ac hk=>⟨st',ac,hk⟩
 |seq x y an aj=>
  intro st k r h a w hR;refine wp_seq (wp_mono (an st _ r h a w hR) fun e a' w' hp=>?_);obtain ⟨st',ac,hk⟩:=hp;cases e with
  |normal=>exact aj st' k r hk a' w' ac
  |exit id=>exact ⟨st',ac,hk⟩
  |ret=>exact ⟨st',ac,hk⟩
  |_=>cases hk
 |cond c x y an aj=>
  intro st k r h a w hR;simp only [CO] at h;split at h
  ·rename_i e he;obtain ⟨β,S,ak⟩:=hR;have hv:=(he▸Q3v ak c).bool_inv;refine wp_cond hv ?_;cases e with
   |true=>exact an st k r (by simpa using h) a w ⟨β,S,ak⟩
   |false=>exact aj st k r (by simpa using h) a w ⟨β,S,ak⟩
  ·cases h
 |block id c ih=>
  intro st k r h a w hR;refine wp_block (wp_mono (ih st _ r h a w hR) fun e a' w' hp=>?_);obtain ⟨st',ac,hk⟩:=hp;cases e with
  |normal=>exact ⟨st',ac,hk⟩
  |exit j=>
   cases hb:Nat.beq j id with
   |true=>
    simp only [hb,Qit] at hk;have:=Qim hb;simp only [Exit.inBlock,this,if_true];exact ⟨st',ac,hk⟩
   |false=>
    simp only [hb,QiG] at hk;have ao:¬ j=id:=fun e=>by simp_all
    simp only [Exit.inBlock,ao,if_false];exact ⟨st',ac,hk⟩
  |ret=>exact ⟨st',ac,hk⟩
  |_=>cases hk
 |loop c ih=>
  intro st k r h a w hR;refine wp_loop_rounds _ (BP (fun st k r h a w hR=>ih _ k r h a w ?_) _ st k r h a w hR)
  grind [AU,TN]
 |exit id=>intro st k r h a w hR;exact wp_exit ⟨st,hR,h⟩
 |ret=>intro st k r h a w hR;exact wp_ret ⟨st,hR,h⟩
 |_=>grind [CO]
theorem No:∀ (t:Nat) (av:AV),N0 av=true->gds t av=false
 |t,.gd ..,h=>by simp [N0] at h
 |t,.ag l,h=>by
  simp only [gds];exact go t l (by simpa [N0] using h)
 |t,.tup l,h=>by
  simp only [gds];exact go t l (by simpa [N0] using h)
 |t,.fn _ l,h=>by
  simp only [gds];exact go t l (by simpa [N0] using h)
 |t,.top,_=>rfl
 |t,.d _,_=>rfl
 |t,.nil,_=>rfl
 |t,.ptr ..,_=>rfl
 |t,.el ..,_=>rfl
 |t,.fs ..,_=>rfl
 |t,.mpd _,_=>rfl
 |t,.ex _,_=>rfl
 |t,.arr _,_=>rfl
 |t,.ap ..,_=>rfl
 |t,.sa ..,_=>rfl
where
 go:∀ (t:Nat) (l:List AV),H5 l=true->BV t l=false
 |_,[],_=>rfl
 |t,a::r,h=>by
  simp only [H5,Qin] at h;simp only [BV,Qiy];exact ⟨No t a h.1,go t r h.2⟩
theorem Q00:∀ {args:List AV} {i t:Nat} {av:AV},look (Q2K i args) t=some av->∃ j,t=i+j/\args[j]? = some av
 |a::r,i,t,av,h=>by
  simp only [Q2K,XL] at h;by_cases e:t=i
  ·rw [if_pos e] at h;injection h with h;exact ⟨0,by omega,by simp [h]⟩
  ·rw [QiH e] at h;obtain ⟨j,h1,h2⟩:=Q00 h;exact ⟨j+1,by omega,by simpa using h2⟩
theorem Q2i:∀ {l:List AV} {i:Nat} {x:AV},H5 l=true->l[i]? = some x->N0 x=true
 |a::r,i,x,h,hx=>by
  simp only [H5,Qin] at h;cases i with
  |zero=>simp at hx;subst hx;exact h.1
  |succ i=>exact Q2i h.2 (by simpa using hx)
def Q4a (tmps:Array Value):ResultVar->Sem Value
 |.tmp t=>pure (tmps.getD t undef)
 |.cell x t=>do loadVar t (<- asAddr (tmps.getD x undef))
theorem Q0k (fn:Func) (tmps:Array Value):results fn tmps=(do
  let vs <- fn.results.mapM (Q4a tmps)
  pure (if h:vs.size=1 then vs[0] else .tuple vs)):=rfl
theorem AS {w:World} {ad:Addr}:(asAddr (.pointer (some ad))).run P w = .ok ad w:=by simp [asAddr]
theorem Q3b {C:VC} (hC:VCOk P C) {st:St} {a:Act} {w:World} {β:Nat->Option Nat} {S:Nat->Prop} (hR:Rel E β S st a w) {rv:ResultVar} {av:AV} (h:Q36 C.tt st rv=some av) :
  ∃ v,(Q4a a.tmps rv).run P w = .ok v w/\RdA β S (look st.h) w (tmv a) v av:=by
 cases rv with
 |tmp t=>
  simp only [Q36,Option.some.injEq] at h;subst h;exact ⟨_,rfl,Q3v hR (.tmp t)⟩
 |cell x ty=>
  simp only [Q36] at h;split at h
  ·rename_i l off hl;obtain ⟨b,hb,hv⟩:=(hR.tm x _ (Sn hl (by simp))).ptr_inv;split at h
   ·rename_i cells ti aq az;have ar:=hC.tt ty ti az;obtain ⟨b',a4,cs,fz,a8,hw,_,a5,hr⟩:=hR.hr.ob l _ aq;obtain rfl:b=b':=by simp_all
    have hx:a.tmps.getD x undef = .pointer (some ⟨b,off,none⟩):=hv;cases hs:V8 ti.kd with
    |true=>
     simp only [hs,Qit] at h;split at h
     ·rename_i a6 a2;cases h;obtain ⟨h1,h2,h3⟩:=SZ a2;have ak:∀ j,j<ti.size->off+j<cs.size:=fun j hj=>by
       grind
      have ac:=Gz ar hs (w:=w) (a:=⟨b,off,none⟩) (vs:=(List.range ti.size).map fun j=>cs.getD (off+j) undef) (by simp) (fun j v hv=>by
       simp only [List.getElem?_map,Qio] at hv;obtain ⟨j',ax,rfl⟩:=hv;obtain ⟨aj,he⟩:=Qip.1 ax;simp at aj he;subst he;rw [H3,J3 hw];exact Hq (ak j aj))
      refine ⟨.agg ((List.range ti.size).map fun j=>cs.getD (off+j) undef).toArray,by simp only [Q4a,hx,Qiv,AS,Qis,ac],.ag _ _ (by simp [h1]) fun i y hy=>?_⟩;have hi:i<ti.size:=by
       obtain ⟨h6,_⟩:=Qip.1 hy;omega
      rw [LD (v:=cs.getD (off+i) undef) (by simp [hi])];exact (hr (off+i) y ((h2 i hi).trans hy)).any_tm (h3 i y hy)
     ·cases h
    |false=>
     simp only [hs,QiG] at h;split at h
     ·rename_i c hc;cases an:AK c with
      |false=>simp [an] at h
      |true=>
       simp only [an,Qit,Option.some.injEq] at h;subst h;have ak:off<cs.size:=by
        obtain ⟨h6,_⟩:=Qip.1 hc;omega
       have ac:=Gn ar hs (w:=w) (a:=⟨b,off,none⟩) (v:=cs.getD off undef) (by rw [J3 hw];exact Hq ak);exact ⟨cs.getD off undef,by simp only [Q4a,hx,Qiv,AS,Qis,ac],(hr off c hc).any_tm an⟩
     ·cases h
   ·cases h
  ·cases h
theorem EP {C:VC} (hC:VCOk P C) {st:St} {a:Act} {w:World} {β:Nat->Option Nat} {S:Nat->Prop} (hR:Rel E β S st a w):∀ {rs:List ResultVar} {ac:List AV},Q0j C.tt st rs=some ac ->
  ∃ vs:List Value,(rs.mapM (Q4a a.tmps)).run P w = .ok vs w/\vs.length=ac.length/\H5 ac=true /\
   ∀ (i:Nat) (v:Value) (av:AV),vs[i]? = some v->ac[i]? = some av->RdA β S (look st.h) w (tmv a) v av
 |[],ac,h=>by
  simp only [Q0j,Option.some.injEq] at h;subst h;exact ⟨[],by simp,rfl,rfl,fun i v av h=>by simp at h⟩
 |r::rs,ac,h=>by
  simp only [Q0j] at h;split at h
  ·rename_i x hx;split at h
   ·rename_i l hl;cases hg:N0 x with
    |false=>simp [hg] at h
    |true=>
     simp only [hg,Qit,Option.some.injEq] at h;subst h;obtain ⟨v,hv,ao⟩:=Q3b hC hR hx;obtain ⟨vs,h1,h2,h3,h4⟩:=EP hC hR hl;refine ⟨v::vs,?_,by simp [h2],by simp [H5,hg,h3],fun i u av hu aj=>?_⟩
     ·simp only [List.mapM_cons,Qiv,hv,h1,Qis,Sem.run_pure]
     ·cases i with
      |zero=>simp at hu aj;subst hu;subst aj;exact ao
      |succ i=>exact h4 i u av (by simpa using hu) (by simpa using aj)
   ·cases h
  ·cases h
theorem Q4Y {C:VC} (hC:VCOk P C) {st:St} {a:Act} {w:World} {β:Nat->Option Nat} {S:Nat->Prop} (hR:Rel E β S st a w) {fn:Func} {av:AV} (h:Q1a C.tt st fn.results.toList=some av) :
  ∃ v,(results fn a.tmps).run P w = .ok v w/\RdA β S (look st.h) w tm0 v av/\N0 av=true:=by
 have ak:∀ (v:Value) (av:AV),N0 av=true->RdA β S (look st.h) w (tmv a) v av->RdA β S (look st.h) w tm0 v av:=fun v av hg hr=>
  hr.mono (fun _ h=>h) (fun _ _=>rfl) (fun l _=>Keep.rfl_ ..) (fun t ht=>by grind [No])
 unfold Q1a at h;have key:∀ ac,Q0j C.tt st fn.results.toList=some ac->∃ vs:List Value,(fn.results.mapM (Q4a a.tmps)).run P w = .ok vs.toArray w/\vs.length=ac.length/\H5 ac=true /\
   ∀ (i:Nat) (v:Value) (av:AV),vs[i]? = some v->ac[i]? = some av->RdA β S (look st.h) w (tmv a) v av:=by
  intro ac ha;obtain ⟨vs,h1,h2,h3,h4⟩:=EP hC hR ha;refine ⟨vs,?_,h2,h3,h4⟩;rw [<- Array.toList_mapM,Sem.run_map] at h1;cases hr:(fn.results.mapM (Q4a a.tmps)).run P w with
  |ok b w'=>
   rw [hr] at h1;simp only [Qis,Result.ok.injEq] at h1;obtain ⟨h5,rfl⟩:=h1;congr 1
   grind
  |halt x w'=>simp_all
 split at h
 ·rename_i x hx;cases h;obtain ⟨vs,h1,h2,h3,h4⟩:=key _ hx
  match vs,h2 with
  |[v],_=>
   have hg:N0 av=true:=by grind [H5]
   refine ⟨v,?_,ak v av hg (h4 0 v av rfl rfl),hg⟩
   simp_all [Q0k,Qiv,Qis]
 ·rename_i l ao hl;cases h;obtain ⟨vs,h1,h2,h3,h4⟩:=key _ hl;have hg:N0 (.tup l)=true:=by simpa [N0] using h3
  have ar:¬ vs.toArray.size=1:=by
   intro h5;simp only [List.size_toArray] at h5
   match l,h5.symm.trans h2 with
   |[x],_=>exact ao x rfl
  refine ⟨.tuple vs.toArray,?_,ak _ _ hg (.tup _ _ (by simpa using h2) fun i x hx=>?_),hg⟩
  ·rw [Q0k];simp only [Qiv,h1,Qis,ar,dite_false];rfl
  ·have hi:i<vs.length:=by have:=(Qip.1 hx).1;omega
   have hv:=Qir hi;rw [LD hv];exact h4 i _ x hv hx
 ·cases h
def Rk (H:List (Nat × Ob)) (k:AV->List (Nat × Ob)->Option R) (r:R) (β:Nat->Option Nat) (S:Nat->Prop) (w:World):Ending->World->Prop:=fun e w'=>
 ∃ v av H' β' S',e = .returned v/\k av H'=some r/\RdA β' S' (look H') w' tm0 v av/\N0 av=true/\HRel ⟨w,fun b=>∃ l,(look H l).isSome=true/\β l=some b,S,β⟩ β' S' (look H') w'
def fnK (tt:TT) (fn:Func) (k:AV->List (Nat × Ob)->Option R):Exit->St->Option R:=fun e st=>match e with
 |.ret=>match Q1a tt st fn.results.toList with
  |some v=>k v st.h
  |none=>none
 |.normal=>match Q1a tt st fn.results.toList with
  |some v=>k v st.h
  |none=>none
 |_=>none
theorem Q0B {C:VC} (hC:VCOk P C) {f:Nat} {fn:Func} {c:Code} (hf:P.funcs[f]? = some fn) (hc:fn.body=some c) {args:List AV} {H:List (Nat × Ob)} {k:AV->List (Nat × Ob)->Option R} {r:R} (hb:(Nat.ble args.length fn.ntmps&&H5 args)=true)
  {β:Nat->Option Nat} {S:Nat->Prop} {w:World} {vs:List Value}
  (au:∀ a:Act,Rel ⟨w,fun b=>∃ l,(look H l).isSome=true/\β l=some b,S,β⟩ β S { n:=fn.ntmps,tm:=Q2K 0 args,h:=H } a w->c.wp P (Ap ⟨w,fun b=>∃ l,(look H l).isSome=true/\β l=some b,S,β⟩ (fnK C.tt fn k) r) a w) (hO:Objs β S (look H) w) (hA:ArgsRd β S (look H) w vs args) :
  Calls P f vs.toArray w (Rk H k r β S w):=by
 simp only [Qin] at hb;have a7:=QiN hb.1;refine calls_of_wp hf hc ?_;have hR:Rel ⟨w,fun b=>∃ l,(look H l).isSome=true/\β l=some b,S,β⟩ β S { n:=fn.ntmps,tm:=Q2K 0 args,h:=H } { tmps:=vs.toArray++Array.replicate (fn.ntmps-vs.toArray.size) undef,defers:=[] } w:=by
  refine ⟨by simp;have:=hA.1;omega,rfl,fun t av ht=>?_,⟨hO.ob,hO.inj,hO.apart,fun l b h1 h2=>.inl ⟨l,h1,h2⟩,hO.sb,fun b h=>.inl h,fun b h=>h,Fr.refl _ _,fun _ _=>rfl,fun _ _ _ _ _ cs ty fz hw=>⟨cs,ty,fz,hw,rfl⟩⟩⟩;obtain ⟨j,hj,ac⟩:=Q00 ht;simp only [QiC] at hj;subst hj;have aj:t<vs.length:=by have:=(Qip.1 ac).1;have:=hA.1;omega
  have hv:=Qir aj;have an:=hA.2 t _ av hv ac;have ay:tmv { tmps:=vs.toArray++Array.replicate (fn.ntmps-vs.toArray.size) undef,defers:=[] } t=vs[t]:=by
   unfold tmv;have h5:(vs.toArray++Array.replicate (fn.ntmps-vs.toArray.size) undef)[t]? = some vs[t]:=by
    rw [Array.getElem?_append_left (by simpa using aj)];simp [aj]
   have h6:=Hq (Qix.1 h5).1;rw [h5] at h6;injection h6 with h6
   exact h6.symm
  rw [ay];exact an.mono (fun _ h=>h) (fun _ _=>rfl) (fun l _=>Keep.rfl_ ..) (fun t' aq=>by rw [No t' av (Q2i hb.2 ac)] at aq;cases aq)
 refine wp_mono (au _ hR) fun e a' w' hp=>?_
 obtain ⟨st',⟨β',S',ak⟩,hk⟩:=hp;have ao:∀ av,Q1a C.tt st' fn.results.toList=some av->k av st'.h=some r->a'.defers=[]/\∃ v,(results fn a'.tmps).run P w' = .ok v w'/\∃ ar av H' β' S',Ending.returned v = .returned ar/\k av H'=some r/\RdA β' S' (look H') w' tm0 ar av/\N0 av=true/\HRel ⟨w,fun b=>∃ l,(look H l).isSome=true/\β l=some b,S,β⟩ β' S' (look H') w':=by
  intro av ac az;obtain ⟨v,hv,an,hg⟩:=Q4Y hC ak ac;exact ⟨ak.dfr,v,hv,v,av,st'.h,β',S',rfl,az,an,hg,ak.hr⟩
 cases e with
 |ret=>
  simp only [fnK] at hk;split at hk
  ·rename_i av ac;exact ao av ac hk
  ·cases hk
 |normal=>
  simp only [fnK] at hk;split at hk
  ·rename_i av ac;exact ao av ac hk
  ·cases hk
 |_=>cases hk
theorem Cn {C:VC} (hC:VCOk P C) {n f:Nat} {fn:Func} (hf:P.funcs[f]? = some fn) {args:List AV} {H:List (Nat × Ob)} {k:AV->List (Nat × Ob)->Option R} {r:R} (h:vfn C n fn args H k=some r)
  {β:Nat->Option Nat} {S:Nat->Prop} {w:World} {vs:List Value} (hO:Objs β S (look H) w) (hA:ArgsRd β S (look H) w vs args) :
  Calls P f vs.toArray w fun e w'=>∃ v av H' β' S',e = .returned v/\k av H'=some r/\RdA β' S' (look H') w' tm0 v av/\N0 av=true/\HRel ⟨w,fun b=>∃ l,(look H l).isSome=true/\β l=some b,S,β⟩ β' S' (look H') w':=by
 unfold vfn at h;split at h
 case h_2=>cases h
 rename_i c hc;cases hb:(Nat.ble args.length fn.ntmps&&H5 args) with
 |false=>simp_all
 |true=>
  simp only [hb,Qit] at h;exact Q0B hC hf hc hb (fun a hR=>Q3T hC n c _ _ r h a w ⟨β,S,hR⟩) hO hA
end
section
variable {P:Program}
def Qdb:List Value->List Nat->Option (List D)
 |[],_=>some []
 |v::r,ss=>
  match Qdb r ss.tail with
  |some l=>match v with
   |.int k n=>some (.int k n::l)
   |.bool b=>some (.bool b::l)
   |.string s=>some (.str s.data.toList::l)
   |.slice none 0 0=>some (.sl (ss.headD 0) []::l)
   |_=>none
  |none=>none
def Q1B (P:Program):Nat->Nat->List Nat
 |0,_=>[]
 |f+1,t=>match P.underlying t with
  |some (.struct fs)=>fs.toList.flatMap fun fd=>Q1B P f fd.type
  |some (.array n e)=>(List.replicate n (Q1B P f e)).flatten
  |_=>[t]
def Qdj (P:Program) (t:Nat):Nat:=
 match P.underlying t with
 |some (.slice e)=>P.cellsOf e
 |_=>0
def kdP (P:Program):TypeDesc->Option Kd
 |.int k=>some (.int k)
 |.bool=>some .bool
 |.string=>some .str
 |.slice e=>match P.info? e with
  |some i=>if 0<i.size then some (.sl e i.size) else none
  |none=>none
 |.struct fs=>if fs.toList.all (fun f=>match P.info? f.type with | some i=>i.size != 0 | none=>false) then some .struct else none
 |.array n e=>match P.info? e with
  |some i=>if 0<i.size then some (.array e i.size n) else none
  |none=>none
 |.pointer _=>some .ptr
 |.map K e=>match P.underlying K,P.info? e with
  |some (.int .i64),some i=>match i.zero with
   |some (.slice none 0 0)=>some .mapI
   |some (.bool false)=>some .mpb
   |_=>some .other
  |_,_=>some .other
 |.func ..=>some .other
 |.interface _=>some .other
 |_=>none
def Q7P (P:Program):TypeDesc->List (Nat × Nat)
 |.struct fs=>fs.toList.map fun f=>(f.offset,f.type)
 |.array n e=>(List.range n).map fun i=>(i*((P.info? e).map (·.size)).getD 0,e)
 |_=>[]
def Qdz (P:Program) (so:TypeId->Option (List Kd)):Nat->List Field->Option (List Kd)
 |_,[]=>some []
 |off,fd::r=>
  if fd.offset = off /\ fd.name ≠ "_" then match so fd.type with
   |some a=>if (P.info? fd.type).map (·.size)=some a.length then match Qdz P so (off+a.length) r with
    |some l=>some (a++l)
    |none=>none
    else none
   |none=>none
  else none
def Qbi (P:Program):Nat->TypeId->Option (List Kd)
 |0,_=>none
 |f+1,t=>
  match P.underlying t with
  |some .bool=>some [.bool]
  |some (.int k)=>some [.int k]
  |some .string=>some [.str]
  |some (.struct fs)=>if P.stoodInHeld t then none else Qdz P (Qbi P f) 0 fs.toList
  |_=>none
def QgG (P:Program) (t:Nat):Option (List Kd):=
 match P.underlying t with
 |some (.struct _)=>if P.eqGuardType P.depth t then none else Qbi P 6 t
 |some (.array 2 e)=>match P.underlying e with
  |some (.int k)=>if (P.info? e).map (·.size)=some 1/\P.eqGuardType P.depth t=false then some [.int k,.int k] else none
  |_=>none
 |_=>none
def Qgg:Kd->Nat->Bool
 |.array _ ac n,k=>Nat.beq k (n*ac)
 |_,_=>true
def tyI (P:Program) (t:Nat):Option TyI:=
 match P.info? t,P.underlying t with
 |some i,some d=>match i.zero,kdP P d with
  |some z,some kd=>
   if z.cells.toList.length=i.size/\(V8 kd=false->i.size=1)/\Qgg kd i.size=true then
    some { kd,size:=i.size,bytes:=i.bytes,zero:=z.cells.toList,zd:=(Qdb z.cells.toList ((Q1B P 8 t).map (Qdj P))).getD [],fields:=Q7P P d,eqk:=QgG P t }
   else none
  |_,_=>none
 |_,_=>none
def Qf4 (P:Program):List Nat->TT
 |[]=>[]
 |t::r=>match tyI P t with
  |some ti=>(t,ti)::Qf4 P r
  |none=>Qf4 P r
theorem Q97:∀ {vs:List Value} {ss:List Nat} {l:List D},Qdb vs ss=some l->∀ (j:Nat) (x:D),l[j]? = some x->∃ v,vs[j]? = some v/\∀ (S:Nat->Prop) (w:World),Rd S w v x
 |[],ss,l,h,j,x,hx=>by grind [Qdb]
 |v::r,ss,l,h,j,x,hx=>by
  simp only [Qdb] at h;split at h
  case h_2=>cases h
  rename_i l' aj;have ac:∀ d,l=d::l'->(∀ (S:Nat->Prop) (w:World),Rd S w v d)->∃ v',(v::r)[j]? = some v'/\∀ (S:Nat->Prop) (w:World),Rd S w v' x:=by
   intro d hd hr;cases j with
   |zero=>simp_all
   |succ j=>
    obtain ⟨v',h1,h2⟩:=Q97 aj j x (by simp_all)
    simp_all
  split at h
  ·cases h;exact ac _ rfl fun _ _=>.int _ _
  ·cases h;exact ac _ rfl fun _ _=>.bool _
  ·cases h;exact ac _ rfl fun _ _=>.str _
  ·cases h;exact ac _ rfl fun _ _=>.sl0 _ _ _
  ·cases h
def LC (P:Program) (t:TypeId) (xs:List Value):Value:=
 match P.underlying t with
 |some (.struct _)=>.agg xs.toArray
 |_=>xs.headD undef
theorem Q5S {t:TypeId} {f:Nat} {ks:List Kd} (hk:Qbi P f t=some ks) (hi:(P.info? t).map (·.size)=some ks.length) {w:World} {cs:Array Value} {off:Nat} (ao:off+ks.length<=cs.size) :
  (part t cs off).run P w = .ok (LC P t ((cs.toList.drop off).take ks.length)) w:=by
 obtain ⟨i,ak,an⟩:=Qio.1 hi;have one:∀ (d:TypeDesc),P.underlying t=some d->(∀ fs,d≠.struct fs)->(∀ n e,d≠.array n e)->ks.length=1->(part t cs off).run P w = .ok (LC P t ((cs.toList.drop off).take ks.length)) w:=by
  intro d hd h1 h2 hl;have ac:(isAgg t).run P w = .ok false w:=by
   simp_all [isAgg,Qiv,QO,Qis]
  have hc:cs[off]? = some (cs[off]'(by omega)):=QiD (by omega);have hp:LC P t ((cs.toList.drop off).take ks.length)=cs[off]'(by omega):=by
   grind [List.drop_eq_getElem_cons,LC]
  simp only [part,Qiv,ac,Qis,Bool.false_eq_true,if_false,hc,hp];rfl
 cases f with
 |zero=>trivial
 |succ f=>
  unfold Qbi at hk;split at hk
  ·rename_i hd;injection hk with hk;exact one _ hd (by simp) (by simp) (by rw [<- hk];rfl)
  ·rename_i k hd;injection hk with hk;exact one _ hd (by simp) (by simp) (by rw [<- hk];rfl)
  ·rename_i hd;injection hk with hk;exact one _ hd (by simp) (by simp) (by rw [<- hk];rfl)
  ·rename_i fs hd;have ac:(isAgg t).run P w = .ok true w:=by simp [isAgg,QO hd]
   have hp:LC P t ((cs.toList.drop off).take ks.length) = .agg (cs.extract off (off+ks.length)):=by
    unfold LC;rw [hd];simp only;congr 1;apply Array.ext';simp [List.take_drop]
   simp only [part,Qiv,ac,Qis,if_true,sizeOf,Yl ak,an,hp];rfl
  ·cases hk
theorem QdQ:∀ (f:Nat) (t:TypeId) (ks:List Kd),Qbi P f t=some ks->∀ (d:Nat),f<=d->∀ (w:World) (xs ys:List Value) (bs:List Bool),xs.length=ks.length->ys.length=ks.length->bs.length=ks.length ->
  (∀ (j:Nat) (kd:Kd) (b:Bool),ks[j]? = some kd->bs[j]? = some b->CEq kd (xs.getD j undef) (ys.getD j undef) b)->(Op.equalIn d t (LC P t xs) (LC P t ys)).run P w = .ok (bs.all id) w:=by
 intro f;induction f with
 |zero=>grind [Qbi]
 |succ f ih=>
  intro t ks hk d hd w xs ys bs hx hy hb hc;obtain ⟨d,rfl⟩:∃ d',d=d'+1:=⟨d-1,by omega⟩;unfold Qbi at hk;split at hk
  ·rename_i ht;injection hk with hk;subst hk
   match xs,ys,bs,hx,hy,hb with
   |[x],[y],[b],_,_,_=>
    obtain ⟨m,n,h1,h2,h3⟩:=hc 0 _ _ rfl rfl;simp at h1 h2;subst h1 h2 h3;simp [LC,ht,Op.equalIn,QO ht]
  ·rename_i k ht;injection hk with hk;subst hk
   match xs,ys,bs,hx,hy,hb with
   |[x],[y],[b],_,_,_=>
    obtain ⟨m,n,h1,h2,h3⟩:=hc 0 _ _ rfl rfl;simp at h1 h2;subst h1 h2 h3;simp [LC,ht,Op.equalIn,QO ht]
  ·rename_i ht;injection hk with hk;subst hk
   match xs,ys,bs,hx,hy,hb with
   |[x],[y],[b],_,_,_=>
    obtain ⟨m,n,h1,h2,h3⟩:=hc 0 _ _ rfl rfl;simp at h1 h2;subst h1 h2 h3;simp only [LC,ht,List.headD_cons,Op.equalIn,Qiv,QO ht,Qis];rw [beq_toListBytes,ByteArray.toList_eq,ByteArray.toList_eq];simp
  ·rename_i fs ht;split at hk
   ·cases hk
   rename_i a3;have ay:P.fieldsOf t=fs:=by simp [Program.fieldsOf,ht]
   have key:∀ (r:List Field) (off:Nat) (l:List Kd) (ac:List Bool),Qdz P (Qbi P f) off r=some l->off+l.length<=xs.length->xs.length=ys.length->ac.length=l.length ->
     (∀ (j:Nat) (kd:Kd) (b:Bool),l[j]? = some kd->ac[j]? = some b->CEq kd (xs.getD (off+j) undef) (ys.getD (off+j) undef) b) ->
     (Op.eqFields d xs.toArray ys.toArray r).run P w = .ok (ac.all id) w:=by
    intro r;induction r with
    |nil=>
     intro off l ac hl _ _ au _;simp [Qdz] at hl;subst hl;have:ac=[]:=List.eq_nil_of_length_eq_zero (by simpa using au);subst this;simp [Op.eqFields]
    |cons fd r a7=>
     intro off l ac hl a6 az au ax;unfold Qdz at hl;split at hl
     case isFalse=>cases hl
     rename_i ar;split at hl
     case h_2=>cases hl
     rename_i a ha;split at hl
     case isFalse=>cases hl
     rename_i hi;split at hl
     case h_2=>cases hl
     rename_i l' a5;injection hl with hl;subst hl
     simp only [List.length_append] at a6 au;have p1:=Q5S ha hi (w:=w) (cs:=xs.toArray) (off:=off) (by simp;omega);have p2:=Q5S ha hi (w:=w) (cs:=ys.toArray) (off:=off) (by simp;omega);have gd:∀ (zs:List Value) (j:Nat),zs.length=xs.length->j<a.length->((zs.drop off).take a.length).getD j undef=zs.getD (off+j) undef:=by
      intro zs j hz hj;simp only [List.getD,List.getElem?_take,hj,if_true,QiA]
     have e1:=ih fd.type a ha d (by omega) w ((xs.drop off).take a.length) ((ys.drop off).take a.length) (ac.take a.length) (by simp;omega) (by simp;omega) (by simp;omega) (fun j kd b hj an=>by
      have ao:j<a.length:=(Qip.1 hj).1;rw [gd xs j rfl ao,gd ys j az.symm ao];refine ax j kd b (by rw [List.getElem?_append_left ao];exact hj) ?_;rw [List.getElem?_take,if_pos ao] at an;exact an)
     have e2:=a7 (off+a.length) l' (ac.drop a.length) a5 (by omega) az (by simp;omega) (fun j kd b hj an=>by
      rw [Nat.add_assoc];refine ax (a.length+j) kd b (by rw [List.getElem?_append_right (by omega)];simpa using hj) ?_;rw [QiA] at an;exact an)
     have a2:ac.all id=((ac.take a.length).all id&&(ac.drop a.length).all id):=by
      rw [<- List.all_append,List.take_append_drop]
     simp only [Op.eqFields,ar.1,ar.2,ne_eq,not_false_eq_true,if_true,Qiv,p1,p2,Qis,e1];rw [a2];cases (ac.take a.length).all id with
     |true=>simp [e2]
     |false=>simp
   have:=key fs.toList 0 ks bs hk (by omega) (by omega) hb (fun j kd b h1 h2=>by rw [QiC];exact hc j kd b h1 h2);have hp:∀ zs,LC P t zs = .agg zs.toArray:=fun zs=>by simp [LC,ht]
   rw [hp,hp,run_equalIn_struct w d t _ _ (by rw [ay];exact ht) (by simpa using a3),ay];exact this
  ·cases hk
theorem QbC {t e:TypeId} {k:IntKind} (ht:P.underlying t=some (.array 2 e)) (he:P.underlying e=some (.int k)) (hi:(P.info? e).map (·.size)=some 1) (w:World) (a b c d:Int) :
  (Op.equalIn 10000 t (.agg #[.int k a,.int k b]) (.agg #[.int k c,.int k d])).run P w = .ok ((a == c)&&(b == d)) w:=by
 obtain ⟨i,aj,ak⟩:=Qio.1 hi;have ac:(isAgg e).run P w = .ok false w:=by
  simp only [isAgg,Qiv,QO he,Qis];rfl
 have hs:(Go.sizeOf e).run P w = .ok 1 w:=by simp only [sizeOf,Qiv,Yl aj,Qis,ak];rfl
 have hp:∀ (x y:Value),(part e #[x,y] 0).run P w = .ok x w/\(part e #[x,y] 1).run P w = .ok y w:=fun x y=>by
  constructor <;> simp [part,ac]
 have hq:∀ x y:Int,(Op.equalIn 9999 e (.int k x) (.int k y)).run P w = .ok (x == y) w:=fun x y=>by
  rw [Op.equalIn];simp [QO he]
 rw [Op.equalIn];simp only [Qiv,QO ht,Qis,hs];simp [Std.Legacy.Range.forIn_eq_forIn_range',Std.Legacy.Range.size,List.range',(hp _ _).1,(hp _ _).2,hq];by_cases h1:a=c <;> by_cases h2:b=d <;> simp [h1,h2]
theorem QbX {t:Nat} {ks:List Kd} (h:QgG P t=some ks):Qhg P t ks:=by
 unfold QgG at h;split at h
 case h_3=>cases h
 case h_2=>
  rename_i e ht;split at h
  case h_2=>cases h
  rename_i k he;split at h
  case isFalse=>cases h
  rename_i hg;injection h with h
  subst h;intro w xs ys bs hx hy hb hc;refine ⟨?_,hg.2⟩;obtain ⟨xs⟩:=xs;obtain ⟨ys⟩:=ys
  match xs,ys,bs,hx,hy,hb with
  |[x0,x1],[y0,y1],[b0,b1],_,_,_=>
   obtain ⟨m,n,h1,h2,h3⟩:=hc 0 _ _ rfl rfl;obtain ⟨m',n',ar,aq,au⟩:=hc 1 _ _ rfl rfl
   simp_all [QbC]
 rename_i fs ht;split at h
 ·cases h
 rename_i hg;intro w xs ys bs hx hy hb hc;refine ⟨?_,by simp_all⟩;have:=QdQ 6 t ks h 10000 (by omega) w xs.toList ys.toList bs (by omega) (by omega) hb (fun j kd b h1 h2=>by
  have:=hc j kd b h1 h2;simpa [Array.getD_eq_getD_getElem?,List.getD] using this)
 simp_all [LC]
theorem QeL {d:TypeDesc} {e ac:Nat} (hk:kdP P d=some (.sl e ac)):d = .slice e/\0<ac/\∃ i,P.info? e=some i/\i.size=ac:=by
 cases d <;> simp only [kdP,Option.some.injEq,reduceCtorEq] at hk
 all_goals grind
theorem Qc5 {t:TypeId} {d:TypeDesc} (hk:kdP P d=some .mapI) (hd:P.underlying t=some d):∃ K e,P.underlying t=some (.map K e)/\P.underlying K=some (.int .i64)/\∃ i,P.info? e=some i/\i.zero=some (.slice none 0 0):=by
 cases d <;> simp only [kdP,Option.some.injEq,reduceCtorEq] at hk
 all_goals grind
theorem Q6E {d:TypeDesc} (hk:kdP P d=some .struct):∃ fs,d = .struct fs/\∀ f∈fs.toList,∃ i,P.info? f.type=some i/\i.size≠0:=by
 cases d <;> simp only [kdP,Option.some.injEq,reduceCtorEq] at hk
 all_goals grind
theorem Q8Z {d:TypeDesc} {e ac n:Nat} (hk:kdP P d=some (.array e ac n)):d = .array n e/\0<ac/\∃ i,P.info? e=some i/\i.size=ac:=by
 cases d <;> simp only [kdP,Option.some.injEq,reduceCtorEq] at hk
 all_goals grind
theorem QcJ {d:TypeDesc} {k:IntKind} (hk:kdP P d=some (.int k)):d = .int k:=by
 cases d <;> simp only [kdP,Option.some.injEq,Kd.int.injEq,reduceCtorEq] at hk <;> first | grind | ((repeat' split at hk) <;> simp at hk)
theorem Qai {d:TypeDesc} (hk:kdP P d=some .bool):d = .bool:=by
 cases d <;> simp only [kdP,Option.some.injEq,reduceCtorEq] at hk <;> first | rfl | grind
theorem Qcm {d:TypeDesc} (hk:kdP P d=some .str):d = .string:=by
 cases d <;> simp only [kdP,Option.some.injEq,reduceCtorEq] at hk <;> first | rfl | grind
theorem QbL {t:TypeId} {d:TypeDesc} (hk:kdP P d=some .mpb) (hd:P.underlying t=some d):∃ K e,P.underlying t=some (.map K e)/\P.underlying K=some (.int .i64)/\∃ i,P.info? e=some i/\i.zero=some (.bool false):=by
 cases d <;> simp only [kdP,Option.some.injEq,reduceCtorEq] at hk
 all_goals grind
theorem QeY {t:Nat} {ti:TyI} (h:tyI P t=some ti):TyOk P t ti:=by
 unfold tyI at h;split at h
 case h_2=>cases h
 rename_i i d hi hd;split at h
 case h_2=>cases h
 rename_i z kd hz hk;split at h
 case isFalse=>cases h
 rename_i hc;injection h with h
 subst h;refine ⟨⟨i,hi,rfl,rfl,z,hz,rfl⟩,fun hs=>⟨hc.2.1 hs,d,hd,?_,?_⟩,fun k he=>?_,fun he=>?_,fun he=>?_,fun e ak he=>?_,fun he=>?_,fun e ak n he=>?_,fun ks he=>QbX he,hc.1,fun hl j x hx=>?_,fun he=>?_,fun he=>?_⟩
 ·rintro fs rfl;simp only [kdP] at hk;split at hk
  ·injection hk with hk;subst hk;simp [V8] at hs
  ·cases hk
 ·rintro n e rfl;simp only [kdP] at hk;split at hk
  ·split at hk
   ·injection hk with hk;subst hk;simp [V8] at hs
   ·cases hk
  ·cases hk
 ·simp only at he;subst he;rw [QcJ hk] at hd;exact hd
 ·simp only at he;subst he;rw [Qai hk] at hd;exact hd
 ·simp only at he;subst he;rw [Qcm hk] at hd;exact hd
 ·simp only at he;subst he;obtain ⟨h1,h2,h3⟩:=QeL hk;rw [h1] at hd;exact ⟨hd,h2,h3⟩
 ·simp only at he;subst he;obtain ⟨fs,h1,h2⟩:=Q6E hk;subst h1;exact ⟨fs,hd,rfl,h2⟩
 ·simp only at he;subst he;obtain ⟨h1,h2,i',h3,h4⟩:=Q8Z hk;subst h1;refine ⟨hd,h2,⟨i',h3,h4⟩,Qim hc.2.2,?_⟩;simp [Q7P,h3,h4]
 ·simp only at hl hx;cases aj:Qdb z.cells.toList ((Q1B P 8 t).map (Qdj P)) with
  |none=>rw [aj] at hx;simp at hx
  |some l=>rw [aj] at hx;exact Q97 aj j x (by simpa using hx)
 ·simp only at he;subst he;exact QbL hk hd
 ·simp only at he;subst he;exact Qc5 hk hd
theorem Qc0 (ac:List Nat):TOk P (Qf4 P ac):=by
 induction ac with
 |nil=>intro t ti h;trivial
 |cons a r ih=>
  intro t ti h;unfold Qf4 at h;split at h
  ·rw [XL] at h;by_cases e:t=a
   ·simp_all [if_pos,QeY]
   ·rw [QiH e] at h;exact ih t ti h
  ·exact ih t ti h
mutual
def lf:AV->Bool
 |.ptr ..=>false
 |.arr _=>false
 |.ap ..=>false
 |.sa ..=>false
 |.gd ..=>false
 |.ag l=>lfL l
 |.tup l=>lfL l
 |.fn _ l=>lfL l
 |_=>true
def lfL:List AV->Bool
 |[]=>true
 |a::r=>lf a&&lfL r
end
mutual
theorem Q5H (l:Nat):∀ (av:AV),lf av=true->WQ l av=false
 |.ptr ..,h=>by simp [lf] at h
 |.arr _,h=>by simp [lf] at h
 |.ap ..,h=>by simp [lf] at h
 |.sa ..,h=>by simp [lf] at h
 |.gd ..,h=>by simp [lf] at h
 |.ag r,h=>by simp only [WQ];exact FC l r (by simpa [lf] using h)
 |.tup r,h=>by simp only [WQ];exact FC l r (by simpa [lf] using h)
 |.fn _ r,h=>by simp only [WQ];exact FC l r (by simpa [lf] using h)
 |.top,_=>rfl
 |.d _,_=>rfl
 |.nil,_=>rfl
 |.el ..,_=>rfl
 |.fs ..,_=>rfl
 |.mpd _,_=>rfl
 |.ex _,_=>rfl
theorem FC (l:Nat):∀ (r:List AV),lfL r=true->Gu l r=false
 |[],_=>rfl
 |a::r,h=>by
  simp only [lfL,Qin] at h;simp only [Gu,Q5H l a h.1,FC l r h.2,Bool.or_self]
end
mutual
theorem Q3B (t:Nat):∀ (av:AV),lf av=true->gds t av=false
 |.ptr ..,h=>by simp [lf] at h
 |.arr _,h=>by simp [lf] at h
 |.ap ..,h=>by simp [lf] at h
 |.sa ..,h=>by simp [lf] at h
 |.gd ..,h=>by simp [lf] at h
 |.ag r,h=>by simp only [gds];exact Q1w t r (by simpa [lf] using h)
 |.tup r,h=>by simp only [gds];exact Q1w t r (by simpa [lf] using h)
 |.fn _ r,h=>by simp only [gds];exact Q1w t r (by simpa [lf] using h)
 |.top,_=>rfl
 |.d _,_=>rfl
 |.nil,_=>rfl
 |.el ..,_=>rfl
 |.fs ..,_=>rfl
 |.mpd _,_=>rfl
 |.ex _,_=>rfl
theorem Q1w (t:Nat):∀ (r:List AV),lfL r=true->BV t r=false
 |[],_=>rfl
 |a::r,h=>by
  simp only [lfL,Qin] at h;simp only [BV,Q3B t a h.1,Q1w t r h.2,Bool.or_self]
end
theorem Q06:∀ {l:List AV} {i:Nat} {x:AV},lfL l=true->l[i]? = some x->lf x=true
 |a::r,i,x,h,hx=>by
  simp only [lfL,Qin] at h;cases i with
  |zero=>simp at hx;subst hx;exact h.1
  |succ i=>exact Q06 h.2 (by simpa using hx)
theorem LB {β β':Nat->Option Nat} {S S':Nat->Prop} {h h':Nat->Option Ob} {w w':World} {tm tm':Nat->Value} {v:Value} {av:AV} (hl:lf av=true) (hS:∀ b,S b->S' b) (hw:∀ b,S b->w'.heap[b]? = w.heap[b]?) (hv:RdA β S h w tm v av):RdA β' S' h' w' tm' v av:=
 hv.mono hS hw (fun l hn=>by rw [Q5H l av hl] at hn;cases hn) (fun t ht=>by rw [Q3B t av hl] at ht;cases ht)
def Q9A (h:List (Nat × Ob)) (av:AV):Option AV:=
 match av with
 |.tup l=>match R8 (look h) l with
  |some (l',_)=>bif lfL l' then some (.tup l') else none
  |none=>none
 |av=>match Rb (look h) av with
  |some (ac,_)=>bif lf ac then some ac else none
  |none=>none
def QgY {R:Type} (K:AV->Option R):AV->List (Nat × Ob)->Option R:=fun av h=>match Q9A h av with
 |some ac=>K ac
 |none=>none
theorem Q1s {β:Nat->Option Nat} {S:Nat->Prop} {H:List (Nat × Ob)} {w:World} {v:Value} {av ac:AV} (hO:Objs β S (look H) w) (h:Q9A H av=some ac) (hv:RdA β S (look H) w tm0 v av) :
  ∃ bs,(∀ l,l∈bs->∃ e s rows,look H l=some (.arr e s rows))/\lf ac=true/\RdA β (fzS β S bs) (fzH (look H) bs) w tm0 v ac:=by
 unfold Q9A at h;split at h
 ·rename_i l;split at h
  ·rename_i l' bs hc;cases hl:lfL l' with
   |false=>simp_all
   |true=>
    simp only [hl,Qit,Option.some.injEq] at h;subst h;refine ⟨bs,FH hc,by assumption,?_⟩;obtain ⟨vs,rfl,an,hr⟩:=hv.tup_inv;obtain ⟨h1,h2⟩:=MK hc;refine .tup _ _ (by rw [an,h1]) fun i x hx=>?_
    have hi:i<l.length:=by grind
    have ak:=Qir hi;obtain ⟨ac,b2,g1,g2,g3⟩:=h2 i _ ak;rw [hx] at g1;injection g1 with g1
    subst g1;exact Q5Y hO (fun _ _=>rfl) g3 g2 (hr i _ ak)
  ·cases h
 ·split at h
  ·rename_i aj bs hc;cases hl:lf aj with
   |false=>simp [hl] at h
   |true=>
    simp only [hl,Qit,Option.some.injEq] at h;subst h;exact ⟨bs,Cp hc,hl,Q5Y hO (fun _ _=>rfl) (fun _ h=>h) hc hv⟩
  ·cases h
theorem Qc2 {C : VC} (hC : VCOk P C) {n f : Nat} {fn : Func} (hf : P.funcs[f]? = some fn) (hb : fn.body.isSome = true) (hn : (fn.name == "runtime.NumGoroutine") = false) {avs : List AV} {av : AV} {hl : Nat -> Option Ob} {rd : List Nat} (hlf : lfL avs = true)
  (h:vfn C n fn avs [] (QgY some)=some av):Zh P f avs hl ⟨av,[],rd⟩:=by
 refine ⟨⟨fn,hf,hb,hn⟩,fun β S h' w args hO hA _=>?_⟩;have hO0:Objs (fun _=>none) S (look ([]:List (Nat × Ob))) w:=⟨fun l o h=>by trivial,fun l l' b h=>by simp [look] at h,fun l b h=>by simp [look] at h,hO.sb⟩;have hA0:ArgsRd (fun _=>none) S (look ([]:List (Nat × Ob))) w args avs:=⟨hA.1,fun i v av' h1 h2=>LB (Q06 hlf h2) (fun _ h=>h) (fun _ _=>rfl) (hA.2 i v av' h1 h2)⟩;refine (Cn hC hf h hO0 hA0).mono fun e w' ⟨v,av0,H',β',S',he,hk,hrd,_,hr⟩=>?_
 unfold QgY at hk;split at hk
 case h_2=>cases hk
 rename_i av' hav;injection hk with hk
 subst hk;have hO':Objs β' S' (look H') w':=⟨hr.ob,hr.inj,hr.apart,hr.sb⟩;obtain ⟨bs,hbs,hlf',hrd'⟩:=Q1s hO' hav hrd;have hnoM:∀ {b:Nat},(S b\/(∃ l,(look ([]:List (Nat × Ob)) l).isSome=true/\(none:Option Nat)=some b)\/w.heap.size<=b)->S b\/w.heap.size<=b:=by
  simp_all
 have hfz:∀ b,fzS β' S' bs b->S b\/w.heap.size<=b:=by
  intro b hS;rcases hS with hS | ⟨l,hl',hb'⟩
  ·exact hnoM (hr.sfr b hS)
  ·obtain ⟨e',s,rows,hh⟩:=hbs l hl';exact hnoM (.inr (hr.own l b (by simp [hh]) hb'))
 refine ⟨v,β,fzS β' S' bs,he,⟨fun b hS=>.inl (hr.s0 b hS),fun b hS=>?_,fun b hS=>?_,?_,fun _ _=>rfl,fun l o hl'=>by trivial,fun l hl'=>by simp [wrL] at hl',fun l b hl'=>by simp [wrL] at hl',fun l l' b hl'=>by simp [wrL] at hl',fun l hl'=>by simp [wrL] at hl',?_,fun t=>Q3B t _ hlf'⟩⟩
 ·grind
 ·rcases hS with hS | ⟨l,hl',hb'⟩
  ·exact hr.sb b hS
  ·obtain ⟨e',s,rows,hh⟩:=hbs l hl';rcases hr.ob l _ hh with ⟨hn',_⟩ | ⟨b2,cs,hb2,hw2,_⟩
   ·rw [hb'] at hn';cases hn'
   ·rw [hb'] at hb2;injection hb2 with hb2;subst hb2
    exact (Qix.1 hw2).1
 ·refine hr.fr.mono fun b _ ⟨l,h1,_⟩=>?_
  simp [look] at h1
 ·exact LB hlf' (fun _ h=>h) (fun _ _=>rfl) hrd'
end
section
variable {P:Program} {R:Type}
def Dx (av ac:AV):Prop:=∀ (β:Nat->Option Nat) (S:Nat->Prop) (h:Nat->Option Ob) (w:World) (tm:Nat->Value) (v:Value),RdA β S h w tm v av->RdA β S h w tm v ac
theorem Dx.refl (av:AV):Dx av av:=fun _ _ _ _ _ _ h=>h
theorem Dx.of_eq {a b:AV} (h:a=b):Dx a b:=h▸Dx.refl a
theorem Dx.nil (s:Nat):Dx .nil (.d (.sl s [])):=fun _ _ _ _ _ v h=>by rw [h.nil_inv];exact .d _ _ (.sl0 _ _ _)
inductive AVleL:List AV->List AV->Prop
 |nil:AVleL [] []
 |cons {a b:AV} {l r:List AV} (h:Dx a b) (t:AVleL l r):AVleL (a::l) (b::r)
theorem AVleL.length {l r:List AV} (h:AVleL l r):l.length=r.length:=by induction h <;> simp [*]
theorem AVleL.at {l r:List AV} (h:AVleL l r):∀ (i:Nat) (x:AV),r[i]? = some x->∃ y,l[i]? = some y/\Dx y x:=by
 induction h with
 |nil=>simp_all
 |cons h0 _ ih=>
  grind
theorem AVleL.refl:∀ l:List AV,AVleL l l
 |[]=>.nil
 |a::r=>.cons (Dx.refl a) (AVleL.refl r)
theorem Dx.ag {l r:List AV} (h:AVleL l r):Dx (.ag l) (.ag r):=fun _ _ _ _ _ v hv=>by
 obtain ⟨cs,rfl,ac,hr⟩:=hv.ag_inv;refine .ag cs r (ac.trans h.length) fun i x hx=>?_
 obtain ⟨y,h1,h2⟩:=h.at i x hx;exact h2 _ _ _ _ _ _ (hr i y h1)
theorem Dx.tup {l r:List AV} (h:AVleL l r):Dx (.tup l) (.tup r):=fun _ _ _ _ _ v hv=>by
 obtain ⟨cs,rfl,ac,hr⟩:=hv.tup_inv;refine .tup cs r (ac.trans h.length) fun i x hx=>?_
 obtain ⟨y,h1,h2⟩:=h.at i x hx;exact h2 _ _ _ _ _ _ (hr i y h1)
theorem Zh.conv {f:Nat} {ac avs':List AV} {hl:Nat->Option Ob} {dl:Dl} (h:AVleL ac avs') (hc:Zh P f avs' hl dl):Zh P f ac hl dl:=by
 obtain ⟨h1,h2⟩:=hc;refine ⟨h1,fun β S hh w args hO hA ak=>h2 β S hh w args hO ⟨hA.1.trans h.length,fun i v av hv aj=>?_⟩ ak⟩;obtain ⟨y,g1,g2⟩:=h.at i av aj;exact g2 _ _ _ _ _ _ (hA.2 i v y hv g1)
def prI (g:Bool) (ik:IntKind) (av:AV) (k:Int->Option R):Option R:=
 match av with
 |.d x=>gb g (Q3 ik x) 0 k
 |_=>none
def prB (g:Bool) (av:AV) (k:Bool->Option R):Option R:=
 match av with
 |.d x=>gb g (Kl x) false k
 |_=>none
def prT (g:Bool) (av:AV) (k:List UInt8->Option R):Option R:=
 match av with
 |.d x=>gb g (RD x) [] k
 |_=>none
def prS (g:Bool) (ac:Nat) (av:AV) (k:List (List D)->Option R):Option R:=
 match av with
 |.d x=>gb g (pSl ac x) [] k
 |.nil=>k []
 |_=>none
def prG (av:AV) (k:List AV->Option R):Option R:=
 match av with
 |.ag l=>k l
 |_=>none
theorem C8 {g:Bool} {ik:IntKind} {av:AV} {k:Int->Option R} {r:R} (h:prI g ik av k=some r):∃ n,k n=some r/\(g=true->Dx av (.d (.int ik n))):=by
 unfold prI at h;split at h
 ·obtain ⟨n,hn,hp⟩:=QM h;exact ⟨n,hn,fun hg=>.of_eq (by grind [LY])⟩
 ·cases h
theorem Q9Q {g:Bool} {av:AV} {k:Bool->Option R} {r:R} (h:prB g av k=some r):∃ n,k n=some r/\(g=true->Dx av (.d (.bool n))):=by
 unfold prB at h;split at h
 ·obtain ⟨n,hn,hp⟩:=QM h;exact ⟨n,hn,fun hg=>.of_eq (by grind [NV])⟩
 ·cases h
theorem QaD {g:Bool} {av:AV} {k:List UInt8->Option R} {r:R} (h:prT g av k=some r):∃ n,k n=some r/\(g=true->Dx av (.d (.str n))):=by
 unfold prT at h;split at h
 ·obtain ⟨n,hn,hp⟩:=QM h;exact ⟨n,hn,fun hg=>.of_eq (by grind [LH])⟩
 ·cases h
theorem WL {g:Bool} {ac:Nat} {av:AV} {k:List (List D)->Option R} {r:R} (h:prS g ac av k=some r):∃ n,k n=some r/\(g=true->Dx av (.d (.sl ac n))):=by
 unfold prS at h;split at h
 ·obtain ⟨n,hn,hp⟩:=QM h;exact ⟨n,hn,fun hg=>.of_eq (by grind [Q5O])⟩
 ·exact ⟨[],h,fun _=>.nil _⟩
 ·cases h
theorem Q1g {av:AV} {k:List AV->Option R} {r:R} (h:prG av k=some r):∃ l,k l=some r/\av = .ag l:=by
 unfold prG at h
 grind
abbrev TK:=(R:Type)->Nat->Bool->List AV->(Nat->Option Ob)->(Dl->Option R)->Option R
def Ve (P:Program) (f:Nat) (e:TK):Prop:=
 ∀ (R:Type) (aj:Nat) (g:Bool) (ac:List AV) (hl:Nat->Option Ob) (k:Dl->Option R) (r:R),e R aj g ac hl k=some r->∃ dl,k dl=some r/\(g=true->Zh P f ac hl dl)
def Q2C (l:List (Nat × TK)):Q4p:=fun R f ac g aj hl k=>
 match look1 l f with
 |some e=>e R ac g aj hl k
 |none=>none
where
 look1:List (Nat × TK)->Nat->Option TK
  |[],_=>none
  |(k,a)::r,t=>bif Nat.beq k t then some a else look1 r t
def Q5C (P:Program):List (Nat × TK)->Prop
 |[]=>True
 |(f,e)::r=>Ve P f e/\Q5C P r
theorem Q5b:∀ {l:List (Nat × TK)} {f:Nat} {e:TK},Q5C P l->Q2C.look1 l f=some e->Ve P f e
 |(k,a)::r,f,e,h,hl=>by
  simp only [Q2C.look1] at hl;cases hk:Nat.beq k f with
  |true=>
   simp only [hk,Qit,Option.some.injEq] at hl;subst hl;have:=Qim hk;subst this;exact h.1
  |false=>simp only [hk,QiG] at hl;exact Q5b h.2 hl
theorem Q8L {l:List (Nat × TK)} (h:Q5C P l):CN P (Q2C l):=by
 intro R f ac g aj hl k r hs;unfold Q2C at hs;split at hs
 ·rename_i e he;exact Q5b h he R ac g aj hl k r hs
 ·cases hs
def Qfc (s:Nat):AV->AV
 |.nil=>.d (.sl s [])
 |av=>av
def Qfk:List Nat->List AV->List AV
 |s::ss,a::r=>Qfc s a::Qfk ss r
 |[],r=>r
 |_::_,[]=>[]
def Qfo (ss:List Nat):AV->AV
 |.ag l=>.ag (Qfk ss l)
 |av=>Qfc (ss.headD 0) av
def Qfm:List (List Nat)->List AV->List AV
 |s::ss,a::r=>Qfo s a::Qfm ss r
 |[],r=>r
 |_::_,[]=>[]
def Qdc (ss:List (List Nat)):AV->AV
 |.tup l=>.tup (Qfm ss l)
 |av=>Qfo (ss.headD []) av
theorem Q8m (s:Nat) (av:AV):Dx av (Qfc s av):=by
 unfold Qfc;split
 ·exact .nil s
 ·exact .refl _
theorem Q7J:∀ (ss:List Nat) (l:List AV),AVleL l (Qfk ss l)
 |s::ss,a::r=>.cons (Q8m s a) (Q7J ss r)
 |[],r=>by unfold Qfk;exact .refl r
 |_::_,[]=>.nil
theorem Q8H (ss:List Nat) (av:AV):Dx av (Qfo ss av):=by
 unfold Qfo;split
 ·exact .ag (Q7J ss _)
 grind [Q8m]
theorem Q8b:∀ (ss:List (List Nat)) (l:List AV),AVleL l (Qfm ss l)
 |s::ss,a::r=>.cons (Q8H s a) (Q8b ss r)
 |[],r=>by unfold Qfm;exact .refl r
 |_::_,[]=>.nil
theorem Q7R (ss:List (List Nat)) (av:AV):Dx av (Qdc ss av):=by
 unfold Qdc;split
 ·exact .tup (Q8b ss _)
 grind [Q8H]
def retF {R:Type} (ss:List (List Nat)) (K:AV->Option R):AV->List (Nat × Ob)->Option R:=fun av h=>match Q9A h av with
 |some ac=>bif lf (Qdc ss ac) then K (Qdc ss ac) else none
 |none=>none
theorem Q3X {α : Type} {K : AV -> Option α} {res : α} {f : Nat} {fn : Func} (hf : P.funcs[f]? = some fn) (hb : fn.body.isSome = true) (hn : (fn.name == "runtime.NumGoroutine") = false) {ss : List (List Nat)} {avs : List AV} {av : AV} {hl : Nat -> Option Ob} {rd : List Nat} (hlf : lfL avs = true)
  (hcall:∀ (β:Nat->Option Nat) (S:Nat->Prop) (w:World) (vs:List Value),Objs β S (look ([]:List (Nat × Ob))) w->ArgsRd β S (look ([]:List (Nat × Ob))) w vs avs->Calls P f vs.toArray w (Rk ([]:List (Nat × Ob)) (retF ss K) res β S w)) (hK:∀ x,K x=some res->x=av):Zh P f avs hl ⟨av,[],rd⟩:=by
 refine ⟨⟨fn,hf,hb,hn⟩,fun β S h' w args hO hA _=>?_⟩;have hO0:Objs (fun _=>none) S (look ([]:List (Nat × Ob))) w:=⟨fun l o h=>by trivial,fun l l' b h=>by simp [look] at h,fun l b h=>by simp [look] at h,hO.sb⟩;have hA0:ArgsRd (fun _=>none) S (look ([]:List (Nat × Ob))) w args avs:=⟨hA.1,fun i v av' h1 h2=>LB (Q06 hlf h2) (fun _ h=>h) (fun _ _=>rfl) (hA.2 i v av' h1 h2)⟩;refine (hcall _ _ _ _ hO0 hA0).mono fun e w' ⟨v,av0,H',β',S',he,hk,hrd,_,hr⟩=>?_
 unfold retF at hk;split at hk
 case h_2=>cases hk
 rename_i av' hav;cases hlf2:lf (Qdc ss av') with
 |false=>simp_all
 |true=>
  simp only [hlf2,Qit] at hk;have hk:=hK _ hk;subst hk;have hO':Objs β' S' (look H') w':=⟨hr.ob,hr.inj,hr.apart,hr.sb⟩;obtain ⟨bs,hbs,hlf',hrd'⟩:=Q1s hO' hav hrd;have hnoM:∀ {b:Nat},(S b\/(∃ l,(look ([]:List (Nat × Ob)) l).isSome=true/\(none:Option Nat)=some b)\/w.heap.size<=b)->S b\/w.heap.size<=b:=by
   simp_all
  have hfz:∀ b,fzS β' S' bs b->S b\/w.heap.size<=b:=by
   intro b hS;rcases hS with hS | ⟨l,hl',hb'⟩
   ·exact hnoM (hr.sfr b hS)
   ·obtain ⟨e',s,rows,hh⟩:=hbs l hl';exact hnoM (.inr (hr.own l b (by simp [hh]) hb'))
  refine ⟨v,β,fzS β' S' bs,he,⟨fun b hS=>.inl (hr.s0 b hS),fun b hS=>?_,fun b hS=>?_,?_,fun _ _=>rfl,fun l o hl'=>by trivial,fun l hl'=>by simp [wrL] at hl',fun l b hl'=>by simp [wrL] at hl',fun l l' b hl'=>by simp [wrL] at hl',fun l hl'=>by simp [wrL] at hl',?_,fun t=>Q3B t _ hlf2⟩⟩
  ·rcases hfz b hS with h1 | h1
   ·exact .inl h1
   ·exact .inr (.inl h1)
  ·rcases hS with hS | ⟨l,hl',hb'⟩
   ·exact hr.sb b hS
   ·obtain ⟨e',s,rows,hh⟩:=hbs l hl';rcases hr.ob l _ hh with ⟨hn',_⟩ | ⟨b2,cs,hb2,hw2,_⟩
    ·rw [hb'] at hn';cases hn'
    ·rw [hb'] at hb2;injection hb2 with hb2;subst hb2
     exact (Qix.1 hw2).1
  ·refine hr.fr.mono fun b _ ⟨l,h1,_⟩=>?_
   simp [look] at h1
  ·exact LB hlf2 (fun _ h=>h) (fun _ _=>rfl) (Q7R ss _ _ _ _ _ _ _ hrd')
def cL:Code->Code | .seq a _=>a | c=>c
def cR:Code->Code | .seq _ b=>b | c=>c
def cB:Code->Code | .block _ c=>c | .loop c=>c | c=>c
def cT:Code->Code | .cond _ a _=>a | c=>c
def cE:Code->Code | .cond _ _ b=>b | c=>c
def VG (fn:Func):Code:=fn.body.getD .skip
end
section
variable {P:Program} {R:Type}
theorem Q5x {ρ:List (Nat × Nat)} {β β':Nat->Option Nat} {S:Nat->Prop} {h h':Nat->Option Ob} (ac:∀ l k,(l,k)∈ρ->β' k=β l) (ak:∀ l k o,(l,k)∈ρ->h l=some o->h' k=some (QaK ρ o))
  (au:∀ l k,(l,k)∈ρ->h l=none->h' k=none) {w:World} {tm:Nat->Value} {v:Value} {av:AV} (hv:RdA β S h w tm v av):RdA β' S h' w tm v (U4 ρ av):=by
 induction hv with
 |top v=>exact .top v
 |d v x hx=>exact .d v x hx
 |nil=>exact .nil
 |ag cs l hl _ ih=>
  refine .ag cs _ (by grind [YY]) fun i x hx=>?_
  grind [VE,Option.map_eq_some_iff]
 |tup cs l hl _ ih=>
  refine .tup cs _ (by rw [YY];exact hl) fun i x hx=>?_
  rw [VE,Qio] at hx
  grind
 |fn f cs l hl _ ih=>
  refine .fn f cs _ (by rw [YY];exact hl) fun i x hx=>?_
  rw [VE,Qio] at hx;obtain ⟨y,hy,rfl⟩:=hx;exact ih i y hy
 |ptr l off b hb=>
  unfold U4;split
  ·rename_i l' hl;exact .ptr _ _ _ ((ac _ _ (Yk hl)).trans hb)
  ·exact .top _
 |sa v l t b hb hv=>
  unfold U4;split
  ·rename_i l' hl;exact .sa _ _ _ b ((ac _ _ (Yk hl)).trans hb) hv
  ·exact .top _
 |el ad row off c hs hc hr=>exact .el ad row off c hs hc hr
 |fs ad s rows hx=>exact .fs ad s rows hx
 |mpd v f hm=>exact .mpd v f hm
 |ex v=>exact .ex v
 |arr0 l e s hb hh=>
  unfold U4;split
  ·rename_i l' hl;exact .arr0 _ e s ((ac _ _ (Yk hl)).trans hb) (ak _ _ _ (Yk hl) hh)
  ·exact .top _
 |arr l b cap e s rows cs ty fz hb hh hw ax aq ar=>
  unfold U4;split
  ·rename_i l' hl;exact .arr _ b cap e s rows cs ty fz ((ac _ _ (Yk hl)).trans hb) (ak _ _ _ (Yk hl) hh) hw ax aq ar
  ·exact .top _
 |mp l b t f hb hh=>
  unfold U4;split
  ·rename_i l' hl;exact .mp _ b t f ((ac _ _ (Yk hl)).trans hb) (ak _ _ _ (Yk hl) hh)
  ·exact .top _
 |ap l i off b e s rows hb hh=>
  unfold U4;split
  ·rename_i l' hl;exact .ap _ i off b e s rows ((ac _ _ (Yk hl)).trans hb) (ak _ _ _ (Yk hl) hh)
  ·exact .top _
 |dang v av l hl hh h1=>
  cases av <;> simp [Nm] at hl
  ·subst hl;unfold U4;split
   ·rename_i l' ao;exact .dang _ _ l' rfl (au _ _ (Yk ao) hh) h1
   ·exact .top _
  ·subst hl;unfold U4;split
   ·rename_i l' ao;exact .dang _ _ l' rfl (au _ _ (Yk ao) hh) h1
   ·exact .top _
 |gdT=>exact .top _
 |gdF=>exact .top _
def Qbs (ρ:List (Nat × Nat)) (av:AV):Bool:=
 match av with
 |.ptr j _=>(look ρ j).isSome
 |av=>lf av
def Dd (ρ:List (Nat × Nat)):List AV->Bool
 |[]=>true
 |a::r=>Qbs ρ a&&Dd ρ r
theorem Q23 {ρ:List (Nat × Nat)}:∀ {l:List AV} {i:Nat} {x:AV},Dd ρ l=true->l[i]? = some x->Qbs ρ x=true
 |a::r,0,x,h,hx=>by
  simp only [Dd,Qin] at h;simp at hx;subst hx;exact h.1
 |a::r,i+1,x,h,hx=>by
  simp only [Dd,Qin] at h;exact Q23 h.2 (by simpa using hx)
def M2 (σ:List (Nat × Nat)) (H:List (Nat × Ob)):List (Nat × Nat)->List (Nat × Option Ob)
 |[]=>[]
 |(j,l)::r=>(l,(look H j).map (QaK σ))::M2 σ H r
theorem Ct (σ:List (Nat × Nat)) (H:List (Nat × Ob)):∀ τ,(M2 σ H τ).map (·.1)=τ.map (·.2)
 |[]=>rfl
 |(j,l)::r=>by simp [M2,Ct σ H r]
theorem Mp (σ:List (Nat × Nat)) (H:List (Nat × Ob)):∀ (τ:List (Nat × Nat)) (h:Nat->Option Ob),X3 (τ.map (·.2))=true->∀ j l,(j,l)∈τ->KE h (M2 σ H τ) l=(look H j).map (QaK σ)
 |(a,b)::r,h,hn,j,l,hm=>by
  simp only [Qiw,X3,Qin,Qiu] at hn;simp only [M2,KE];rcases Qiq.1 hm with hm | hm
  ·injection hm with e1 e2
   subst e1 e2;rw [UL]
   ·simp
   ·rw [Ct];intro ac;have:Pr l (r.map (·.2))=true:=by
     have:∀ (L:List Nat),l∈L->Pr l L=true:=by
      intro L;induction L with
      |nil=>simp_all
      |cons x xs ih=>
       grind [Pr,Nat.beq_refl]
     simp_all
    simp_all
  ·exact Mp σ H r _ hn.2 j l hm
mutual
theorem Q0S (ρ:List (Nat × Nat)) (t:Nat):∀ av:AV,gds t (U4 ρ av)=false
 |.top=>rfl
 |.d _=>rfl
 |.nil=>rfl
 |.el ..=>rfl
 |.fs ..=>rfl
 |.mpd _=>rfl
 |.ex _=>rfl
 |.gd ..=>rfl
 |.ag l=>by simp only [U4,gds];exact Lj ρ t l
 |.tup l=>by simp only [U4,gds];exact Lj ρ t l
 |.fn _ l=>by simp only [U4,gds];exact Lj ρ t l
 |.ptr l o=>by unfold U4;split <;> rfl
 |.arr l=>by unfold U4;split <;> rfl
 |.ap l i o=>by unfold U4;split <;> rfl
 |.sa l t=>by unfold U4;split <;> rfl
theorem Lj (ρ:List (Nat × Nat)) (t:Nat):∀ l:List AV,BV t (Q1S ρ l)=false
 |[]=>rfl
 |a::r=>by simp only [Q1S,BV,Q0S ρ t a,Lj ρ t r,Bool.or_self]
end
mutual
theorem Q7N (ρ:List (Nat × Nat)):∀ av:AV,lf av=true->U4 ρ av=av
 |.top,_=>rfl
 |.d _,_=>rfl
 |.nil,_=>rfl
 |.el ..,_=>rfl
 |.fs ..,_=>rfl
 |.mpd _,_=>rfl
 |.ex _,_=>rfl
 |.gd ..,h=>by simp [lf] at h
 |.ag l,h=>by simp only [U4];rw [Q0w ρ l (by simpa [lf] using h)]
 |.tup l,h=>by simp only [U4];rw [Q0w ρ l (by simpa [lf] using h)]
 |.fn _ l,h=>by simp only [U4];rw [Q0w ρ l (by simpa [lf] using h)]
 |.ptr ..,h=>by simp [lf] at h
 |.arr _,h=>by simp [lf] at h
 |.ap ..,h=>by simp [lf] at h
 |.sa ..,h=>by simp [lf] at h
theorem Q0w (ρ:List (Nat × Nat)):∀ l:List AV,lfL l=true->Q1S ρ l=l
 |[],_=>rfl
 |a::r,h=>by
  simp only [lfL,Qin] at h;simp only [Q1S,Q7N ρ a h.1,Q0w ρ r h.2]
end
theorem Q5W {σ:List (Nat × Nat)} {l:Nat} (h:l ∉ σ.map (·.2)):inv σ l=none:=by
 cases hi:inv σ l with
 |none=>rfl
 |some j=>exact absurd (QiI.2 ⟨(j,l),Q8d hi,rfl⟩) h
theorem MR {ρ:List (Nat × Nat)} (hn:X3 (ρ.map (·.1))=true) {j l:Nat} (hm:(j,l)∈ρ):look ρ j=some l:=by
 cases hk:look ρ j with
 |none=>
  have:∀ (L:List (Nat × Nat)),(j,l)∈L->look L j≠none:=by
   intro L;induction L with
   |nil=>simp_all
   |cons x r ih=>
    grind [XL]
  simp_all
 |some l'=>
  have:=Hb hn (j,l) (j,l') hm (Yk hk) rfl
  simp_all
structure HeapEnd (σ ρ:List (Nat × Nat)) (H:List (Nat × Ob)) (av:AV) (H':List (Nat × Ob)) (dl:Dl):Prop where
 v:U4 σ av=dl.v
 wr:M2 σ H' σ=dl.wr
 all:∀ j l,(j,l)∈σ->(look H' j).isSome=true
 box:∀ j l,(j,l)∈ρ->∃ c c',look H j=some (.box c)/\look H' j=some (.box c')/\c'.length=c.length
theorem Q38 {α : Type} {K : AV -> List (Nat × Ob) -> Option α} {res : α} {f : Nat} {fn : Func} (hf : P.funcs[f]? = some fn) (hb : fn.body.isSome = true) (hn : (fn.name == "runtime.NumGoroutine") = false)
  {σ ρ:List (Nat × Nat)} {avs avs':List AV} {H:List (Nat × Ob)} {hl:Nat->Option Ob} {dl:Dl}
  (hav:avs=avs'.map (U4 ρ)) (hargs:Dd ρ avs'=true)
  (hsub:∀ p,p∈ρ->p∈σ) (h1:X3 (σ.map (·.1))=true) (h2:X3 (σ.map (·.2))=true) (hρ:X3 (ρ.map (·.1))=true)
  (hin:∀ j l,(j,l)∈ρ->1000000<=j/\∃ cs cs',hl l=some (.box cs)/\look H j=some (.box cs')/\AVleL cs cs'/\lfL cs'=true)
  (hinH:∀ j,(look H j).isSome=true->∃ l,(j,l)∈ρ)
  (hnew:∀ j l,(j,l)∈σ->(j,l)∈ρ\/hl l=none)
  (hwl:wrL dl=σ.map (·.2))
  (hcall:∀ (β:Nat->Option Nat) (S:Nat->Prop) (w:World) (vs:List Value),Objs β S (look H) w->ArgsRd β S (look H) w vs avs'->Calls P f vs.toArray w (Rk H K res β S w)) (hK:∀ av H',K av H'=some res->HeapEnd σ ρ H av H' dl):Zh P f avs hl dl:=by
 refine ⟨⟨fn,hf,hb,hn⟩,fun β S h' w args hO hA hag=>?_⟩;have hag:∀ {j l:Nat},(j,l)∈σ->h' l=hl l:=fun {j l} hm=>hag l (.inr (by rw [hwl];exact QiI.2 ⟨(j,l),hm,rfl⟩))
 have hlook:∀ {j l:Nat},(j,l)∈ρ->look ρ j=some l:=fun hm=>MR hρ hm
 have hβc:∀ {j l:Nat},(j,l)∈ρ->(look ρ j).bind β=β l:=fun hm=>by rw [hlook hm];rfl
 have hlk2:∀ {j j' l:Nat},(j,l)∈ρ->(j',l)∈ρ->j=j':=fun a b=>by
  have:=Hb h2 _ _ (hsub _ a) (hsub _ b) rfl;injection this
 have hsome':∀ {j l:Nat},(j,l)∈ρ->(h' l).isSome=true:=fun hm=>by
  obtain ⟨_,cs,cs',g1,_⟩:=hin _ _ hm;rw [hag (hsub _ hm),g1];rfl
 have hO0:Objs (fun j=>(look ρ j).bind β) S (look H) w:=by
  refine ⟨fun j o ho=>?_,fun j j' b s1 s2 b1 b2=>?_,fun j b s1 b1=>?_,hO.sb⟩
  ·obtain ⟨l,hm⟩:=hinH j (by simp [ho]);obtain ⟨_,cs,cs',g1,g2,g3,g4⟩:=hin j l hm;rw [ho] at g2;injection g2 with g2
   subst g2;obtain ⟨b,ty,c0,fz,e1,e2,e3,e4,e5⟩:=hO.ob l _ ((hag (hsub _ hm)).trans g1);refine ⟨b,ty,c0,fz,(hβc hm).trans e1,e2,⟨e3.1,fun i l' t' hx=>by have:=Q06 g4 hx;simp [lf] at this⟩,e4.trans g3.length,fun i x hx=>?_⟩;obtain ⟨y,y1,y2⟩:=g3.at i x hx;exact LB (Q06 g4 hx) (fun _ h=>h) (fun _ _=>rfl) (y2 _ _ _ _ _ _ (e5 i y y1))
  ·obtain ⟨l,hm⟩:=hinH j s1;obtain ⟨l',hm'⟩:=hinH j' s2;have:=hO.inj l l' b (hsome' hm) (hsome' hm') (by rw [<- hβc hm];exact b1) (by rw [<- hβc hm'];exact b2);subst this;exact hlk2 hm hm'
  ·obtain ⟨l,hm⟩:=hinH j s1;exact hO.apart l b (hsome' hm) (by rw [<- hβc hm];exact b1)
 have hA0:ArgsRd (fun j=>(look ρ j).bind β) S (look H) w args avs':=by
  refine ⟨by rw [hA.1,hav,List.length_map],fun i v av g1 g2=>?_⟩;have hr:=hA.2 i v (U4 ρ av) g1 (by rw [hav,List.getElem?_map,g2];rfl);have hok:=Q23 hargs g2;unfold Qbs at hok;split at hok
  ·rename_i j o;cases hj:look ρ j with
   |none=>rw [hj] at hok;cases hok
   |some l=>
    simp only [U4,hj] at hr;cases hr with
    |ptr _ _ b hb'=>exact .ptr j o b (by simp only [hj];exact hb')
    |dang _ _ _ hl'=>simp [Nm] at hl'
  ·rw [Q7N ρ av hok] at hr;exact LB hok (fun _ h=>h) (fun _ _=>rfl) hr
 refine (hcall _ _ _ _ hO0 hA0).mono fun e w' ⟨v,av,H',β',S',he,hk,hrd,_,hr⟩=>?_
 obtain ⟨q1,q2,q3,q4⟩:=hK av H' hk;have hinv:∀ {j l:Nat},(j,l)∈σ->inv σ l=some j:=fun hm=>Q2J h2 hm
 let βo:Nat->Option Nat:=fun l=>match inv σ l with | some j=>β' j | none=>β l
 have hβo:∀ j l,(j,l)∈σ->βo l=β' j:=fun j l hm=>by simp only [βo,hinv hm]
 have hset:∀ j l,(j,l)∈σ->KE h' dl.wr l=(look H' j).map (QaK σ):=fun j l hm=>by rw [<- q2];exact Mp σ H' σ h' h2 j l hm
 have hmem:∀ {l:Nat},l∈wrL dl->∃ j,(j,l)∈σ:=fun hm=>by
  rw [hwl] at hm;obtain ⟨⟨j,l'⟩,m1,m2⟩:=QiI.1 hm;simp only at m2;subst m2;exact ⟨j,m1⟩
 have hpin:∀ {j l:Nat},(j,l)∈ρ->β' j=β l:=fun hm=>(hr.pin _ (hin _ _ hm).1).trans (hβc hm)
 have hren:∀ {v:Value} {x:AV},RdA β' S' (look H') w' tm0 v x->RdA βo S' (KE h' dl.wr) w' tm0 v (U4 σ x):=fun hx=>
  Q5x hβo (fun j l o hm ho=>by rw [hset j l hm,ho];rfl) (fun j l hm ho=>by rw [hset j l hm,ho];rfl) hx
 have hnotin:∀ {j l:Nat},(j,l)∈σ->(j,l) ∉ ρ->∀ b,β' j=some b->w.heap.size<=b:=by
  intro j l hm hno b hb';rcases hr.own j b (q3 j l hm) hb' with ⟨j',s1,s2⟩ | h
  ·exfalso;obtain ⟨l',hm'⟩:=hinH j' s1;have e1:β' j'=some b:=(hpin hm').trans (by rw [<- hβc hm'];exact s2);have:=hr.inj j j' b (q3 j l hm) (q3 j' l' (hsub _ hm')) hb' e1;subst this;have:=Hb h1 _ _ hm (hsub _ hm') rfl;exact hno (this▸hm')
  ·exact h
 have hMw:∀ b,(∃ j,(look H j).isSome=true/\(look ρ j).bind β=some b)->∃ l,l∈wrL dl/\(h' l).isSome=true/\β l=some b:=by
  intro b ⟨j,s1,s2⟩;obtain ⟨l,hm⟩:=hinH j s1;exact ⟨l,by rw [hwl];exact QiI.2 ⟨(j,l),hsub _ hm,rfl⟩,hsome' hm,by rw [<- hβc hm];exact s2⟩
 refine ⟨v,βo,S',he,⟨hr.s0,fun b hS=>?_,hr.sb,hr.fr.mono fun b _ hM=>hMw b hM,fun l hno=>?_,fun l o hm ho=>?_,fun l hm hs=>?_,fun l b hm hs hb'=>?_,fun l l' b hm hm' hs hs' hb' hb''=>?_,fun l hm hno hno'=>?_,?_,fun t=>by rw [<- q1];exact Q0S σ t av⟩⟩
 ·rcases hr.sfr b hS with g | g | g
  ·exact .inl g
  ·exact .inr (.inr (hMw b g))
  ·exact .inr (.inl g)
 ·have:inv σ l=none:=Q5W (by rw [<- hwl];exact hno);simp only [βo,this]
 ·obtain ⟨j,hj⟩:=hmem hm;rw [hset j l hj,Qio] at ho;obtain ⟨o',ho',rfl⟩:=ho;have hob:=hr.ob j o' ho';cases o' with
  |box cells=>
   obtain ⟨b,ty,cs,fz,g1,g2,g3,g4,g5⟩:=hob;refine ⟨b,ty,cs,fz,(hβo j l hj).trans g1,g2,⟨g3.1,Q0r g3.2⟩,by rw [g4,YY],fun i x hx=>?_⟩;rw [VE,Qio] at hx;obtain ⟨y,hy,rfl⟩:=hx;exact hren (g5 i y hy)
  |arr e s rows=>
   rcases hob with ⟨g1,g2⟩ | ⟨b,cs,g1,g2,g3,g4,g5⟩
   ·exact .inl ⟨(hβo j l hj).trans g1,g2⟩
   ·exact .inr ⟨b,cs,(hβo j l hj).trans g1,g2,g3,g4,g5⟩
  |mp t f=>
   obtain ⟨b,hb,hm'⟩:=hob;exact ⟨b,(hβo j l hj).trans hb,hm'⟩
 ·obtain ⟨j,hj⟩:=hmem hm;rcases hnew j l hj with hp | hno
  ·obtain ⟨c,c',g1,g2,g3⟩:=q4 j l hp;obtain ⟨_,cs,cs',e1,e2,e3,_⟩:=hin j l hp;have hh:h' l=some (.box cs):=(hag hj).trans e1;refine ⟨(hβo j l hj).trans (hpin hp),fun hx=>(by rw [hh] at hx;cases hx),fun e s rows hx=>(by rw [hh] at hx;cases hx),fun b c0 ty fz _ hb' hw=>?_,fun t f hx=>(by rw [hh] at hx;cases hx)⟩;obtain ⟨b2,ty2,c2,fz2,k1,k2,_,k4,_⟩:=hr.ob j _ g2;obtain ⟨b3,ty3,c3,fz3,m1,m2,_,m4,_⟩:=hO.ob l _ hh;rw [hpin hp,hb'] at k1;injection k1 with k1
   subst k1;rw [hb'] at m1;injection m1 with m1
   subst m1;rw [hw] at m2;injection m2 with m2
   injection m2 with m2 _ _
   subst m2;refine ⟨c2,ty2,fz2,k2,?_⟩;rw [k4,m4,g3];rw [g1] at e2;injection e2 with e2
   injection e2 with e2
   rw [e2,e3.length]
  ·rw [hag hj,hno] at hs;cases hs
 ·obtain ⟨j,hj⟩:=hmem hm;rw [hβo j l hj] at hb';refine ⟨?_,hr.apart j b (q3 j l hj) hb'⟩;by_cases hp:(j,l)∈ρ
  ·exact .inr ⟨l,hm,hsome' hp,by rw [<- hpin hp];exact hb'⟩
  ·exact .inl (hnotin hj hp b hb')
 ·obtain ⟨j,hj⟩:=hmem hm;obtain ⟨j',hj'⟩:=hmem hm';rw [hβo j l hj] at hb';rw [hβo j' l' hj'] at hb'';have:=hr.inj j j' b (q3 j l hj) (q3 j' l' hj') hb' hb'';subst this;have:=Hb h1 _ _ hj hj' rfl;injection this
 ·obtain ⟨j,hj⟩:=hmem hm;have:=q3 j l hj;rw [hset j l hj] at hno';cases hx:look H' j with
  |none=>rw [hx] at this;cases this
  |some o=>rw [hx] at hno';cases hno'
 ·rw [<- q1];exact hren hrd
def Qep (hl:Nat->Option Ob) (H:List (Nat × Ob)):List (Nat × Nat)->Prop
 |[]=>True
 |(j,l)::r=>(1000000<=j/\∃ cs ac,hl l=some (.box cs)/\look H j=some (.box ac)/\AVleL cs ac/\lfL ac=true)/\Qep hl H r
def QaQ (H:List (Nat × Ob)):List (Nat × Nat)->Prop
 |[]=>True
 |(j,_)::r=>(look H j).isSome=true/\QaQ H r
def QdG (H H':List (Nat × Ob)):List (Nat × Nat)->Prop
 |[]=>True
 |(j,_)::r=>(∃ c c',look H j=some (.box c)/\look H' j=some (.box c')/\c'.length=c.length)/\QdG H H' r
def Qfs (hl:Nat->Option Ob):List (Nat × Nat)->Bool
 |[]=>true
 |(_,l)::r=>(hl l).isNone&&Qfs hl r
theorem Q7z {hl:Nat->Option Ob} {H:List (Nat × Ob)}:∀ {ρ:List (Nat × Nat)},Qep hl H ρ->∀ j l,(j,l)∈ρ->1000000<=j/\∃ cs ac,hl l=some (.box cs)/\look H j=some (.box ac)/\AVleL cs ac/\lfL ac=true
 |(a,b)::r,h,j,l,hm=>by
  rcases Qiq.1 hm with hm | hm
  ·injection hm with h1 h2;subst h1 h2;exact h.1
  ·exact Q7z h.2 j l hm
theorem Q3S {H:List (Nat × Ob)}:∀ {ρ:List (Nat × Nat)},QaQ H ρ->∀ j l,(j,l)∈ρ->(look H j).isSome=true
 |(a,b)::r,h,j,l,hm=>by
  rcases Qiq.1 hm with hm | hm
  ·injection hm with h1 h2;subst h1 h2;exact h.1
  ·exact Q3S h.2 j l hm
theorem Q7t {H H':List (Nat × Ob)}:∀ {ρ:List (Nat × Nat)},QdG H H' ρ->∀ j l,(j,l)∈ρ->∃ c c',look H j=some (.box c)/\look H' j=some (.box c')/\c'.length=c.length
 |(a,b)::r,h,j,l,hm=>by
  rcases Qiq.1 hm with hm | hm
  ·injection hm with h1 h2;subst h1 h2;exact h.1
  ·exact Q7t h.2 j l hm
theorem Q56 {hl:Nat->Option Ob}:∀ {ρ:List (Nat × Nat)},Qfs hl ρ=true->∀ j l,(j,l)∈ρ->hl l=none
 |(a,b)::r,h,j,l,hm=>by
  simp only [Qfs,Qin] at h;rcases Qiq.1 hm with hm | hm
  ·injection hm with h1 h2;subst h1 h2;simpa using h.1
  ·exact Q56 h.2 j l hm
theorem Q0T:∀ {H:List (Nat × Ob)} {ρ:List (Nat × Nat)},H.map (·.1)=ρ.map (·.1)->∀ j,(look H j).isSome=true->∃ l,(j,l)∈ρ
 |[],_,_,j,hs=>by simp [look] at hs
 |(a,o)::r,[],h,_,_=>by simp at h
 |(a,o)::r,(b,l)::ρ,h,j,hs=>by
  simp only [Qiw,List.cons.injEq] at h;rw [XL] at hs;by_cases e:j=a
  ·exact ⟨l,by rw [e,h.1];exact QiE ..⟩
  ·rw [QiH e] at hs;obtain ⟨l',hm⟩:=Q0T h.2 j hs;exact ⟨l',Qiz _ hm⟩
def Rh (hl:Nat->Option Ob) (ρ ν:List (Nat × Nat)):Bool:=X3 ((ρ++ν).map (·.2))&&Qfs hl ν
theorem BM {α : Type} {K : AV -> List (Nat × Ob) -> Option α} {res : α} {f : Nat} {fn : Func} (hf : P.funcs[f]? = some fn) (hb : fn.body.isSome = true) (hn : (fn.name == "runtime.NumGoroutine") = false)
  {ρ ν:List (Nat × Nat)} {avs avs':List AV} {H:List (Nat × Ob)} {hl:Nat->Option Ob} {dl:Dl}
  (hav:avs=avs'.map (U4 ρ)) (hargs:Dd ρ avs'=true) (h1:X3 ((ρ++ν).map (·.1))=true) (hρ:X3 (ρ.map (·.1))=true)
  (hc:Rh hl ρ ν=true) (hin:Qep hl H ρ) (hkeys:H.map (·.1)=ρ.map (·.1)) (hwl:wrL dl=(ρ++ν).map (·.2))
  (hcall:∀ (β:Nat->Option Nat) (S:Nat->Prop) (w:World) (vs:List Value),Objs β S (look H) w->ArgsRd β S (look H) w vs avs'->Calls P f vs.toArray w (Rk H K res β S w))
  (hK:∀ av H',K av H'=some res->U4 (ρ++ν) av=dl.v/\M2 (ρ++ν) H' (ρ++ν)=dl.wr/\QaQ H' (ρ++ν)/\QdG H H' ρ):Zh P f avs hl dl:=by
 simp only [Rh,Qin] at hc;refine Q38 hf hb hn hav hargs (fun p hp=>QiK _ hp) h1 hc.1 hρ (Q7z hin) (Q0T hkeys) (fun j l hm=>?_) hwl hcall fun av H' hk=>?_
 ·grind [Q56]
 ·obtain ⟨q1,q2,q3,q4⟩:=hK av H' hk;exact ⟨q1,q2,Q3S q3,Q7t q4⟩
theorem Qd7 {α : Type} {K : AV -> List (Nat × Ob) -> Option α} {res : α} {C : VC} (hC : VCOk P C) {n f : Nat} {fn : Func} (hf : P.funcs[f]? = some fn) (hb : fn.body.isSome = true) (hn : (fn.name == "runtime.NumGoroutine") = false)
  {ρ ν:List (Nat × Nat)} {avs avs':List AV} {H:List (Nat × Ob)} {hl:Nat->Option Ob} {dl:Dl}
  (hav:avs=avs'.map (U4 ρ)) (hargs:Dd ρ avs'=true) (h1:X3 ((ρ++ν).map (·.1))=true) (hρ:X3 (ρ.map (·.1))=true)
  (hc:Rh hl ρ ν=true) (hin:Qep hl H ρ) (hkeys:H.map (·.1)=ρ.map (·.1)) (hwl:wrL dl=(ρ++ν).map (·.2))
  (h:vfn C n fn avs' H K=some res)
  (hK:∀ av H',K av H'=some res->U4 (ρ++ν) av=dl.v/\M2 (ρ++ν) H' (ρ++ν)=dl.wr/\QaQ H' (ρ++ν)/\QdG H H' ρ):Zh P f avs hl dl:=
 BM hf hb hn hav hargs h1 hρ hc hin hkeys hwl (fun _ _ _ _ hO hA=>Cn hC hf h hO hA) hK
theorem XB {c:Bool} {x:Option R} {r:R} (h:(bif c then x else none)=some r):c=true/\x=some r:=by
 grind
def QgD (l:List Nat) (a b:TK):TK:=fun R ac g aj hl k=>bif Pr ac l then a R ac g aj hl k else b R ac g aj hl k
theorem QbJ (l:List Nat) {f:Nat} {a b:TK} (ha:Ve P f a) (hb:Ve P f b):Ve P f (QgD l a b):=by
 intro R ac g aj hl k r h;unfold QgD at h;cases hm:Pr ac l with
 |true=>rw [hm] at h;exact ha R ac g aj hl k r h
 |false=>rw [hm] at h;exact hb R ac g aj hl k r h
def prP (hl:Nat->Option Ob) (av:AV) (k:Nat->List AV->Option R):Option R:=
 match av with
 |.ptr l o=>bif Nat.beq o 0 then match hl l with
  |some (.box cs)=>k l cs
  |_=>none
  else none
 |_=>none
theorem Qfg {hl:Nat->Option Ob} {av:AV} {k:Nat->List AV->Option R} {r:R} (h:prP hl av k=some r):∃ l cs,k l cs=some r/\av = .ptr l 0/\hl l=some (.box cs):=by
 unfold prP at h
 grind [Nat.beq,Nat.eq_of_beq_eq_true]
end
section
variable {P:Program} {R:Type}
def SW (w:World):Nat->Prop:=fun b=>b<w.heap.size
theorem Q7B {f:Nat} {ss:List (List Nat)} {K:AV->Option Bool} (hK:∀ x,K x=some true->x = .d (.bool true))
  {an:List AV} {args:List Value} {w:World} (hA:ArgsRd (fun _=>none) (SW w) (look ([]:List (Nat × Ob))) w args an) (aj:∀ (β:Nat->Option Nat) (S:Nat->Prop) (w:World) (vs:List Value),Objs β S (look ([]:List (Nat × Ob))) w->ArgsRd β S (look ([]:List (Nat × Ob))) w vs an->Calls P f vs.toArray w (Rk ([]:List (Nat × Ob)) (retF ss K) true β S w)) :
  Calls P f args.toArray w fun e w'=>e = .returned (.bool true)/\RowKit.Below w.heap.size w w':=by
 have hO:Objs (fun _=>none) (SW w) (look ([]:List (Nat × Ob))) w:=⟨fun l o h=>by simp [look] at h,fun l l' b h=>by simp [look] at h,fun l b h=>by simp [look] at h,fun b h=>h⟩;refine (aj _ _ _ _ hO hA).mono fun e w' ⟨v,av,H',β',S',he,hk,au,_,hr⟩=>?_
 refine ⟨?_,Fr.below (hr.fr.mono fun b _ ⟨l,h1,_⟩=>by simp [look] at h1)⟩;unfold retF at hk;split at hk
 case h_2=>cases hk
 rename_i ar ao;cases ac:lf (Qdc ss ar) with
 |false=>simp [ac] at hk
 |true=>
  simp only [ac,Qit] at hk;have hk:=hK _ hk;have aq:Objs β' S' (look H') w':=⟨hr.ob,hr.inj,hr.apart,hr.sb⟩;obtain ⟨bs,_,_,ak⟩:=Q1s aq ao au;have:=Q7R ss _ _ _ _ _ _ _ ak;rw [hk] at this;rw [he,this.bool_inv]
theorem Q6q {β:Nat->Option Nat} {S:Nat->Prop} {h:Nat->Option Ob} {w:World}:ArgsRd β S h w [] []:=⟨rfl,fun i v av h=>by simp at h⟩
theorem Q4e {β:Nat->Option Nat} {S:Nat->Prop} {h:Nat->Option Ob} {w:World} {v:Value} {av:AV} {vs:List Value} {ac:List AV} (h0:RdA β S h w tm0 v av) (hr:ArgsRd β S h w vs ac):ArgsRd β S h w (v::vs) (av::ac):=by
 refine ⟨by simp [hr.1],fun i v' aj h1 h2=>?_⟩;cases i with
 |zero=>simp at h1 h2;subst h1 h2;exact h0
 |succ i=>exact hr.2 i v' aj (by simpa using h1) (by simpa using h2)
theorem EN {w:World} {a:Addr} {v:Value} (h:w.cell? a=some v):a.block<w.heap.size:=by
 rcases Nat.lt_or_ge a.block w.heap.size with h1 | h1
 ·exact h1
 ·simp [World.cell?,Array.getElem?_eq_none h1] at h
theorem Q0 {α:Type} (g:Bool) (a z:α) (k:α->Option R):gb g (some a) z k=k a:=rfl
end
inductive Sh where
 |int (k:IntKind)
 |bool
 |str
 |sl (row:List Sh)
inductive Fit:Sh->D->Prop
 |int (k:IntKind) (n:Int) (h:(Lit.int k n).wf=true):Fit (.int k) (.int k n)
 |bool (b:Bool):Fit .bool (.bool b)
 |str (s:List UInt8) (h:s.length<=maxLen):Fit .str (.str s)
 |sl (row:List Sh) (rows:List (List D)) (h:rows.length<=maxLen) (hl:∀ (i:Nat) (r:List D),rows[i]? = some r->r.length=row.length)
   (hr:∀ (i j:Nat) (r:List D) (s:Sh) (x:D),rows[i]? = some r->row[j]? = some s->r[j]? = some x->Fit s x):Fit (.sl row) (.sl row.length rows)
def QaR (ss:List Sh) (ds:List D):Prop:=ds.length=ss.length/\∀ (j:Nat) (s:Sh) (x:D),ss[j]? = some s->ds[j]? = some x->Fit s x
def Qdr (P:Program) (so:TypeId->Option (List Sh)):Nat->List Field->Option (List Sh)
 |_,[]=>some []
 |off,fd::r=>
  if fd.offset=off then match so fd.type with
   |some a=>if a.length=P.cellsOf fd.type then match Qdr P so (off+a.length) r with
    |some l=>some (a++l)
    |none=>none
    else none
   |none=>none
  else none
def Q8B (P:Program):Nat->TypeId->Option (List Sh)
 |0,_=>none
 |f+1,t=>
  match P.underlying t with
  |some .bool=>some [.bool]
  |some (.int k)=>some [.int k]
  |some .string=>some [.str]
  |some (.slice e)=>match Q8B P f e with
   |some row=>if row.length=P.cellsOf e/\row.length≠0 then some [.sl row] else none
   |none=>none
  |some (.struct fs)=>match Qdr P (Q8B P f) 0 fs.toList with
   |some l=>if l.length=P.cellsOf t then some l else none
   |none=>none
  |_=>none
section
variable {P:Program} {H:Type} {enc:TypeId × Value->H} {w:World}
def RdL (w:World) (cs:List Value) (ds:List D):Prop:=cs.length=ds.length/\∀ (j:Nat) (v:Value) (x:D),cs[j]? = some v->ds[j]? = some x->Rd (SW w) w v x
theorem Q4V {α:Type} {Q:Nat->α->Prop}:∀ (n:Nat),(∀ i,i<n->∃ a,Q i a)->∃ l:List α,l.length=n/\∀ (i:Nat) (a:α),l[i]? = some a->Q i a
 |0,_=>⟨[],rfl,fun i a h=>by simp at h⟩
 |n+1,h=>by
  obtain ⟨l,h1,h2⟩:=Q4V n fun i hi=>h i (by omega)
  obtain ⟨a,ha⟩:=h n (by omega);refine ⟨l++[a],by simp [h1],fun i x hx=>?_⟩;rw [List.getElem?_append] at hx;split at hx
  ·exact h2 i x hx
  ·have:i=l.length:=by
    rcases Nat.lt_or_ge (i-l.length) 1 with h3 | h3
    ·omega
    ·rw [QiL (by simpa using h3)] at hx;cases hx
   subst this;simp at hx;subst hx;rw [h1];exact ha
theorem QaR.append {a b:List Sh} {x y:List D} (h1:QaR a x) (h2:QaR b y):QaR (a++b) (x++y):=by
 refine ⟨by simp [h1.1,h2.1],fun j s d hs hd=>?_⟩;rw [List.getElem?_append] at hs hd;rw [h1.1] at hd;split at hs
 ·rename_i h;rw [if_pos h] at hd;exact h1.2 j s d hs hd
 ·rename_i h;rw [QiH h] at hd;exact h2.2 _ s d hs hd
theorem RdL.append {a b:List Value} {x y:List D} (h1:RdL w a x) (h2:RdL w b y):RdL w (a++b) (x++y):=by
 refine ⟨by simp [h1.1,h2.1],fun j s d hs hd=>?_⟩;rw [List.getElem?_append] at hs hd;rw [h1.1] at hs;split at hd
 ·rename_i h;rw [if_pos h] at hs;exact h1.2 j s d hs hd
 ·rename_i h;rw [QiH h] at hs;exact h2.2 _ s d hs hd
theorem Bb {v:Value} {x:D} (h:Rd (SW w) w v x):RdL w [v] [x]:=⟨rfl,fun j v' x' h1 h2=>by
 cases j with
 |zero=>simp at h1 h2;subst h1 h2;exact h
 |succ j=>simp at h1⟩
theorem Fk {s:Sh} {x:D} (h:Fit s x):QaR [s] [x]:=⟨rfl,fun j v' x' h1 h2=>by
 cases j with
 |zero=>simp at h1 h2;subst h1 h2;exact h
 |succ j=>simp at h1⟩
theorem Q72 {base:Nat} {a:Addr} {n:Nat} {cs:List Value} (h:w.cells? base a n=some cs):cs.length=n/\∀ (j:Nat) (v:Value),cs[j]? = some v->w.cell? (a.add j)=some v:=by
 unfold World.cells? at h;split at h
 ·refine ⟨by simpa using mapM_some_length h,fun j v hv=>?_⟩;have hj:j<n:=by
   have h1:=mapM_some_length h;have h2:=(Qip.1 hv).1;simp at h1;omega
  have:=mapM_some_get h j j (by simp [hj]);rw [this,hv]
 ·cases h
def Got (w:World) (ss:List Sh) (cs:List Value):Prop:=∃ ds,RdL w cs ds/\QaR ss ds
theorem Q5w {base:Nat} {aw:Nat->Bool} {ay:Bool}:∀ (n:Nat) (f:Nat) (t:TypeId) (ss:List Sh) (cs:List Value) (x:DataW H × List MemPlace),Q8B P f t=some ss->DataW.trod enc P w base aw ay n t cs=some x->Got w ss cs:=by
 intro n;induction n with
 |zero=>intro f t ss cs x _ h;simp [DataW.trod] at h
 |succ n ih=>
  intro f t ss cs x hs h;cases f with
  |zero=>simp [Q8B] at hs
  |succ f=>
   unfold Q8B at hs;split at hs
   ·rename_i ht;injection hs with hs;subst hs
    obtain ⟨b,rfl,_⟩:=DataW.trod_bool ht h;exact ⟨[.bool b],Bb (.bool b),Fk (.bool b)⟩
   ·rename_i k ht;injection hs with hs;subst hs
    obtain ⟨b,rfl,_,hw⟩:=DataW.trod_int ht h;exact ⟨[.int k b],Bb (.int k b),Fk (.int k b hw)⟩
   ·rename_i ht;injection hs with hs;subst hs
    obtain ⟨b,rfl,_,hw⟩:=DataW.trod_string ht h;exact ⟨[.str b.data.toList],Bb (.str b),Fk (.str _ (by simpa using hw))⟩
   ·rename_i e ht;split at hs
    case h_2=>cases hs
    rename_i row a7;split at hs
    case isFalse=>cases hs
    rename_i aq;obtain ⟨aq,hz⟩:=aq;injection hs with hs;subst hs
    rcases DataW.trod_slice ht h with ⟨rfl,_⟩ | ⟨a,len,cap,an,rest,n',hn,rfl,_,hb,hl,hm,br,hat,_,_⟩
    ·exact ⟨[.sl row.length []],Bb (.sl0 _ _ _),Fk (.sl row [] (Nat.zero_le _) (fun i r h=>by simp at h) (fun i j r s x h=>by simp at h))⟩
    ·obtain rfl:n=n':=by omega
     have a2:∀ i,i<len->∃ r:List D,∃ cs,w.cells? base (a.add (i*P.cellsOf e)) (P.cellsOf e)=some cs/\RdL w cs r/\QaR row r:=by
      intro i hi;have h1:=hat i hi;have h2:an[i]? = some (an[i]'(by omega)):=Qir (by omega);rw [h2,Option.bind_eq_some_iff] at h1;obtain ⟨cs,hc,h1⟩:=h1;obtain ⟨ds,g1,g2⟩:=ih f e row cs _ a7 h1;exact ⟨ds,cs,hc,g1,g2⟩
     obtain ⟨rows,a3,ac⟩:=Q4V len a2;refine ⟨[.sl row.length rows],Bb ?_,Fk (.sl row rows (by omega) (fun i r hr=>?_) (fun i j r s x hr hs hx=>?_))⟩
     ·cases len with
      |zero=>
       have:rows=[]:=List.eq_nil_of_length_eq_zero a3;subst this;exact .sl0 _ _ _
      |succ m=>
       have aj:∀ (i j:Nat) (r:List D) (x:D),rows[i]? = some r->r[j]? = some x->∃ v,w.cell? (a.add (i*row.length+j))=some v/\Rd (SW w) w v x:=by
        intro i j r x hr hx;obtain ⟨cs,hc,g1,g2⟩:=ac i r hr;obtain ⟨c1,c2⟩:=Q72 hc;have hj:j<cs.length:=by have:=(Qip.1 hx).1;have:=g1.1;omega
        have a4:cs[j]? = some (cs[j]' hj):=Qir hj;refine ⟨cs[j]' hj,?_,g1.2 j _ x a4 hx⟩;have:=c2 j _ a4;rw [CA] at this;rw [aq];exact this
       ·have h0:∃ r,rows[0]? = some r:=⟨_,Qir (by omega)⟩;obtain ⟨r0,a6⟩:=h0;obtain ⟨bo,bq,g1,g2⟩:=ac 0 r0 a6;have au:∃ x,r0[0]? = some x:=⟨_,Qir (by rw [g2.1];omega)⟩;obtain ⟨x0,au⟩:=au;obtain ⟨v0,bi,_⟩:=aj 0 0 r0 x0 a6 au;have a5:a.block<w.heap.size:=by have:=EN bi;rwa [Jt] at this
        have:=Rd.sl (S:=SW w) (w:=w) a cap row.length rows (fun i j=>(w.cell? (a.add (i*row.length+j))).getD undef) a5 (by omega)
         (fun i r hr=>by obtain ⟨_,_,_,g2⟩:=ac i r hr;exact g2.1)
         (fun i j r x hr hx=>by obtain ⟨v,hv,_⟩:=aj i j r x hr hx;rw [hv];rfl)
         (fun i j r x hr hx=>by obtain ⟨v,hv,h2⟩:=aj i j r x hr hx;rw [hv];exact h2)
        rw [a3] at this;exact this
     ·obtain ⟨_,_,_,g2⟩:=ac i r hr;exact g2.1
     ·obtain ⟨_,_,_,g2⟩:=ac i r hr;exact g2.2 j s x hs hx
   ·rename_i fs ht;split at hs
    case h_2=>cases hs
    rename_i l hl;split at hs
    case isFalse=>cases hs
    rename_i aq;injection hs with hs;subst hs
    obtain ⟨xs,n',hn,_,bk,bx,hat⟩:=DataW.trod_struct ht h;obtain rfl:n=n':=by omega
    have key:∀ (r:List Field) (i off:Nat) (l:List Sh),fs.toList.drop i=r->Qdr P (Q8B P f) off r=some l->off+l.length<=cs.length->Got w l ((cs.drop off).take l.length):=by
     intro r;induction r with
     |nil=>
      intro i off l _ hl _;simp [Qdr] at hl;subst hl;exact ⟨[],⟨by simp,fun j v x h=>by simp at h⟩,⟨rfl,fun j v x h=>by simp at h⟩⟩
     |cons fd r bc=>
      intro i off l hd hl bg;unfold Qdr at hl;split at hl
      case isFalse=>cases hl
      rename_i az;split at hl
      case h_2=>cases hl
      rename_i a ha;split at hl
      case isFalse=>cases hl
      rename_i ax;split at hl
      case h_2=>cases hl
      rename_i l' bj;injection hl with hl;subst hl
      have hi:fs[i]? = some fd:=by
       have:(fs.toList.drop i)[0]? = some fd:=by rw [hd];rfl
       rw [QiA] at this;simpa using this
      have h1:=hat i fd hi;have a8:i<xs.length:=by
       have:=(Qix.1 hi).1;omega
      rw [Qir a8,az,<- ax] at h1;have g1:=ih f fd.type a _ _ ha h1;have g2:=bc (i+1) (off+a.length) l' (by rw [<- List.drop_drop,hd];rfl) bj (by simp at bg;omega);obtain ⟨d1,p1,q1⟩:=g1;obtain ⟨d2,p2,q2⟩:=g2;refine ⟨d1++d2,?_,q1.append q2⟩;have ar:(cs.drop off).take (a++l').length=(cs.drop off).take a.length++(cs.drop (off+a.length)).take l'.length:=by
       rw [List.length_append,List.take_add,List.drop_drop]
      rw [ar];exact p1.append p2
    have:=key fs.toList 0 0 l rfl hl (by omega);rwa [List.drop_zero,List.take_of_length_le (by omega)] at this
   ·cases hs
inductive ASh where
 |one (s:Sh)
 |ag (ss:List Sh)
def QcM (P:Program) (t:TypeId):Option ASh:=
 match P.underlying t with
 |some (.struct _)=>match Q8B P 9 t with
  |some l=>some (.ag l)
  |none=>none
 |_=>match Q8B P 9 t with
  |some [s]=>some (.one s)
  |_=>none
def ashL (P:Program):List TypeId->Option (List ASh)
 |[]=>some []
 |t::r=>match QcM P t with
  |some a=>match ashL P r with
   |some l=>some (a::l)
   |none=>none
  |none=>none
def Qh9:ASh->AV->Prop
 |.one s,av=>∃ x,av = .d x/\Fit s x
 |.ag ss,av=>∃ ds:List D,av = .ag (ds.map .d)/\QaR ss ds
def AFits:List ASh->List AV->Prop
 |[],[]=>True
 |a::as,v::vs=>Qh9 a v/\AFits as vs
 |_,_=>False
theorem Q19 {r:Reach} {base:Nat} {t:TypeId} {v:Value} {f:Nat} {ss:List Sh} (hs:Q8B P f t=some ss) (hn:∀ fs,P.underlying t≠some (.struct fs)) (h:Value.okWide P w r base t v):v.cells.toList=[v]:=by
 cases f with
 |zero=>simp [Q8B] at hs
 |succ f=>
  unfold Q8B at hs;split at hs
  ·rename_i ht;obtain ⟨b,rfl⟩:=WideShapes.okWide_bool ht h;rfl
  ·rename_i k ht;obtain ⟨b,rfl⟩:=WideShapes.okWide_int ht h;rfl
  ·rename_i ht;obtain ⟨b,rfl⟩:=WideShapes.okWide_string ht h;rfl
  ·rename_i e ht;obtain ⟨a,l,c,rfl⟩:=WideShapes.okWide_slice ht h;rfl
  ·rename_i fs ht;exact absurd ht (hn fs)
  ·cases hs
theorem QcV {r:Reach} {base aj:Nat} {ac:Nat->Bool} {ak:Bool} {t:TypeId} {v:Value} {d:DataW H} {ps:List MemPlace} {a:ASh} (ha:QcM P t=some a) (hv:Value.okWide P w r base t v) (h:DataW.Trod enc P w aj ac ak t v d ps) :
  ∃ av,RdA (fun _=>none) (SW w) (look ([]:List (Nat × Ob))) w tm0 v av/\Qh9 a av:=by
 obtain ⟨n,h⟩:=h;unfold QcM at ha;split at ha
 ·rename_i fs ht;split at ha
  case h_2=>cases ha
  rename_i l hl;injection ha with ha;subst ha
  obtain ⟨ds,h1,h2⟩:=Q5w n 9 t l _ _ hl h;simp only [Value.okWide,ht] at hv;obtain ⟨cs,rfl,au,_⟩:=hv;refine ⟨.ag (ds.map .d),.ag cs _ (by simpa [Value.cells] using h1.1) fun i x hx=>?_,ds,rfl,h2⟩;rw [List.getElem?_map,Qio] at hx;obtain ⟨y,hy,rfl⟩:=hx;have hi:i<cs.size:=by
   have g1:=(Qip.1 hy).1;have g2:=h1.1;simp [Value.cells] at g2;omega
  have hc:cs.getD i undef=cs[i]:=by simp [Array.getD,hi]
  rw [hc];exact .d _ _ (h1.2 i _ y (by simp [Value.cells,hi]) hy)
 ·rename_i hn;split at ha
  case h_2=>cases ha
  rename_i s hs;injection ha with ha;subst ha
  have hc:=Q19 hs hn hv;obtain ⟨ds,h1,h2⟩:=Q5w n 9 t _ _ _ hs h;rw [hc] at h1;obtain ⟨x,rfl⟩:∃ x,ds=[x]:=by
   have:=h1.1
   match ds,this with
   |[x],_=>exact ⟨x,rfl⟩
  exact ⟨.d x,.d _ _ (h1.2 0 v x rfl rfl),x,rfl,h2.2 0 s x rfl rfl⟩
theorem Q64 {r:Reach} {base an:Nat} {ak:Nat->Bool} {ao:Bool}:∀ (ts:List TypeId) (vs:List Value) (ds:List (DataW H)) (ps:List MemPlace) (as:List ASh),ashL P ts=some as ->
  (∀ (j:Nat) t v,ts[j]? = some t->vs[j]? = some v->Value.okWide P w r base t v)->DataW.TrodAll enc P w an ak ao ts vs ds ps ->
  ∃ aj,ArgsRd (fun _=>none) (SW w) (look ([]:List (Nat × Ob))) w vs aj/\AFits as aj
 |[],vs,ds,ps,as,ac,hv,h=>by
  simp [ashL] at ac;subst ac;cases vs with
  |nil=>exact ⟨[],Q6q,trivial⟩
  |cons v vs=>cases ds <;> simp [DataW.TrodAll] at h
 |t::ts,vs,ds,ps,as,ac,hv,h=>by
  obtain ⟨v,ax,d,aw,p,q,rfl,rfl,rfl,h1,h2⟩:=ChangeShapes.trodAll_cons h;unfold ashL at ac;split at ac
  case h_2=>cases ac
  rename_i a ha;split at ac
  case h_2=>cases ac
  rename_i au aq;injection ac with ac
  subst ac;obtain ⟨av,g1,g2⟩:=QcV ha (hv 0 t v rfl rfl) h1;obtain ⟨aj,g3,g4⟩:=Q64 ts ax aw q au aq (fun j t v h1 h2=>hv (j+1) t v (by simpa using h1) (by simpa using h2)) h2;exact ⟨av::aj,Q4e g1 g3,g2,g4⟩
theorem Q26 {W W':World} (hl:laidOutB P=true) (hb:RowKit.Below W.heap.size W W'):∀ (ts:List TypeId) (vs:List Value) (ds:List (DataW H)) (ps:List MemPlace),(ts.all fun t=>P.readableRec t&&decide (t<P.types.size))=true ->
  DataW.TrodAll enc P W 0 (fun _=>true) true ts vs ds ps->∃ pa,DataW.TrodAll enc P W' 0 (fun b=>decide (b<W.heap.size)) true ts vs ds pa
 |[],vs,ds,ps,_,h=>by
  cases vs <;> cases ds <;> simp [DataW.TrodAll] at h;exact ⟨[],rfl⟩
 |t::ts,vs,ds,ps,ht,h=>by
  obtain ⟨v,aq,d,ao,p,q,rfl,rfl,rfl,h1,h2⟩:=ChangeShapes.trodAll_cons h;simp only [List.all_cons,Qin,decide_eq_true_eq] at ht;obtain ⟨pa,g⟩:=Q26 hl hb ts aq ao q ht.2 h2;have an:∀ x∈p,x.block<W.heap.size:=by obtain ⟨m,hm⟩:=h1;exact DataW.trod_lt m _ _ _ hm
  exact ⟨p++pa,p,pa,RowKit.Below.trod hl ht.1.1 ht.1.2 h1 hb an,g,rfl⟩
theorem Mf {base:Nat} {ac:Nat->Bool} {ak:Bool}:∀ (ts:List TypeId) (vs:List Value) (ds:List (DataW H)) (ps:List MemPlace),DataW.TrodAll enc P w base ac ak ts vs ds ps->vs.length=ts.length/\ds.length=ts.length
 |[],vs,ds,ps,h=>by
  cases vs <;> cases ds <;> simp [DataW.TrodAll] at h;exact ⟨rfl,rfl⟩
 |t::ts,vs,ds,ps,h=>by
  obtain ⟨v,ao,d,an,p,q,rfl,rfl,rfl,h1,h2⟩:=ChangeShapes.trodAll_cons h;have:=Mf ts ao an q h2;simp [this.1,this.2]
theorem law_contract {fn:Func} {f:FuncId} {s:ChangeSpec} {as:List ASh} {tb:TypeId} (ar:laidOutB P=true)
  (ac:s.vars=[]) (aq:(fn.params.toList.all fun t=>P.readableRec t&&decide (t<P.types.size))=true) (a3:ashL P fn.params.toList=some as)
  (ay:fn.resultTypes = #[tb]) (hb:P.underlying tb=some .bool)
  {W:World} {base:Nat} {args:Array Value} {ds gs:List (DataW H)} {aj:List MemPlace}
  (au:∀ (j:Nat) t v,fn.params[j]? = some t->args[j]? = some v->Value.okWide P W .any base t v)
  (hW:DataW.Whole enc P fn.params.toList s.vars false W args.toList ds gs aj)
  (an:∀ ds:List (DataW H),ds.length=fn.params.size->s.fn H ds={ results:=[.lit (.bool true)],args:=ds })
  (walk:∀ ak,AFits as ak->ArgsRd (fun _=>none) (SW W) (look ([]:List (Nat × Ob))) W args.toList ak->Calls P f args W fun e w'=>e = .returned (.bool true)/\RowKit.Below W.heap.size W w') :
  Calls P f args W fun e W'=>∃ v,e = .returned v/\s.post enc P fn false true false false W args v W':=by
 have az:=hW;obtain ⟨p,q,hA,hV,rfl,bc,a9⟩:=hW;obtain ⟨ak,g1,g2⟩:=Q64 (r:=.any) (base:=base) _ _ _ _ as a3 (fun j t v h1 h2=>au j t v (by simpa using h1) (by simpa using h2)) hA;refine (walk ak g2 g1).mono fun e W' ⟨he,ax⟩=>?_
 subst he;obtain ⟨pa,a2⟩:=Q26 ar ax _ _ _ _ aq hA;rw [ac] at hV;obtain ⟨rfl,rfl⟩:=ChangeShapes.trodVars_none hV;have aw:=(Mf _ _ _ _ hA).2;have ao:=an ds (by simpa using aw);refine ⟨_,rfl,ds,[],_,[],pa,[],az,?_,?_,?_,ax.frame _,fun h=>by cases h⟩
 ·rw [List.append_nil,ao,ay];exact ChangeShapes.trodAll_mk1 (RowKit.shut_bool hb _)
 ·rw [List.append_nil,ao];exact a2
 ·rw [List.append_nil,ao,ac];rfl
end
section
variable {R:Type}
def i64 (x:Int):Prop := -9223372036854775808<=x/\x<=9223372036854775807
theorem Q5U {x:Int} (h:i64 x):wJ x=x:=IntWalk.i64_in x h
theorem Q48 {x:Int} (h1 : -9223372036854775808<=x) (h2:x<=9223372036854775807):wJ x=x:=IntWalk.i64_in x ⟨h1,h2⟩
theorem Qho {n:Int} (h:(Lit.int .i64 n).wf=true):i64 n:=by
 simpa [Lit.wf,IntKind.min,IntKind.max,IntKind.signed,IntKind.bits,i64] using h
theorem Q2 (n:Int):pIw (.int .i64 n)=some n:=rfl
theorem N3 (b:Bool):Kl (.bool b)=some b:=rfl
theorem Xx (s:List UInt8):RD (.str s)=some s:=rfl
theorem QH (k:Nat) (l:List (List D)):pSl k (.sl k l)=some l:=by simp [pSl]
theorem Q8X {α:Type} (f:α->List D) (l:List α) (i:Nat):Q1 (l.map f) (i:Int)=(l[i]?).map f:=by
 simp [Q1]
theorem QL {α:Type} {f:α->List D} {l:List α} {i:Nat} {a:α} (h:l[i]? = some a):Q1 (l.map f) (i:Int)=some (f a):=by rw [Q8X,h];rfl
theorem EC {b:Int} (h:b≠0):nz b=some ():=by
 have:(b == 0)=false:=by simpa using h
 unfold nz;rw [this];rfl
theorem Y0 {len:Nat} {n:Int} (h0:0<=n) (h:n<len):inB len n=some ():=by
 unfold inB;simp [h0,h]
theorem Yh {α:Type} {l:List α} {i:Nat} {a:α} {r:List α} (h:l.drop i=a::r):l[i]? = some a/\l.drop (i+1)=r/\i<l.length:=by
 have h1:(l.drop i)[0]? = some a:=by rw [h];rfl
 rw [QiA] at h1;refine ⟨by simpa using h1,by rw [<- List.drop_drop,h];rfl,?_⟩;have:=(Qip.1 h1).1;omega
theorem Ua {α:Type} {l:List α} {i:Nat} (h:l.drop i=[]):l.length<=i:=List.drop_eq_nil_iff.1 h
theorem QY {c:Bool} (h:c=true) (x y:R):(bif c then x else y)=x:=by rw [h];rfl
theorem Q9 {c:Bool} (h:c=false) (x y:R):(bif c then x else y)=y:=by rw [h];rfl
def encI (l:List Int):List (List D):=l.map fun n=>[D.int .i64 n]
theorem Xg (l:List Int):(encI l).length=l.length:=by simp [encI]
theorem HM {l:List Int} {i:Nat} {a:Int} (h:l[i]? = some a):Q1 (encI l) (i:Int)=some [.int .i64 a]:=QL h
theorem fit_ints {rows:List (List D)} (h:Fit (.sl [.int .i64]) (.sl 1 rows)):∃ l:List Int,rows=encI l/\(∀ n∈l,i64 n)/\l.length<=maxLen:=by
 cases h with
 |sl _ _ hm hl hr=>
  have h1:∀ i,i<rows.length->∃ n:Int,rows[i]? = some [.int .i64 n]/\i64 n:=by
   intro i hi;have ac:=Qir hi;have aj:=hl i _ ac;obtain ⟨x,hx⟩:∃ x,rows[i]=[x]:=by
    match hq:rows[i],aj with
    |[x],_=>exact ⟨x,rfl⟩
   have hf:=hr i 0 _ (.int .i64) x ac rfl (by rw [hx];rfl);cases hf with
   |int _ n hw=>exact ⟨n,by rw [ac,hx],Qho hw⟩
  obtain ⟨l,e1,e2⟩:=Q4V rows.length h1;refine ⟨l,?_,fun n hn=>?_,by omega⟩
  ·refine List.ext_getElem? fun i=>?_
   rcases Nat.lt_or_ge i l.length with hi | hi
   ·have:=(e2 i _ (Qir hi)).1;rw [this];simp [encI,hi]
   ·rw [QiL (by omega),QiL (by simpa [encI] using hi)]
  ·obtain ⟨i,hi⟩:=List.getElem?_of_mem hn;exact (e2 i _ hi).2
theorem fit_sl {row:List Sh} {x:D} (h:Fit (.sl row) x):∃ rows,x = .sl row.length rows:=by
 cases h with
 |sl _ rows _ _ _=>exact ⟨rows,rfl⟩
theorem fit_int {k:IntKind} {x:D} (h:Fit (.int k) x):∃ n,x = .int k n/\(Lit.int k n).wf=true:=by
 cases h with
 |int _ n h=>exact ⟨n,rfl,h⟩
def lawK:AV->Option Bool
 |.d (.bool b)=>some b
 |_=>none
theorem lawK_ok (x:AV) (h:lawK x=some true):x = .d (.bool true):=by
 unfold lawK at h;split at h
 ·injection h with h;subst h;rfl
 ·cases h
end
abbrev bs (l:List UInt8):List UInt8:=l
abbrev LL:=List (List D)
abbrev dT (s:List UInt8):AV:=.d (.str s)
def cA:List Nat->Code->Code
 |[],c=>c
 |0::r,c=>cA r (cL c)
 |1::r,c=>cA r (cR c)
 |2::r,c=>cA r (cB c)
 |3::r,c=>cA r (cT c)
 |_::r,c=>cA r (cE c)
def zp:List Nat->List Nat->List (Nat × Nat)
 |a::r,b::s=>(a,b)::zp r s
 |_,_=>[]
section
variable {A B C D E F R:Type}
end
def smX {A B C:Type} (r:A ⊕ B) (f:A->C) (g:B->C):C:=match r with
 |.inl a=>f a
 |.inr b=>g b
abbrev jn {α β:Type} (c:α) (f:α->β):β:=f c
def kB:AV->Option Bool:=fun av=>match av with
 |.d (D.bool r)=>some r
 |_=>none
abbrev Tu2 {A0 A1:Type} (a0:A0) (a1:A1):=some (a0,a1)
abbrev Tu3 {A0 A1 A2:Type} (a0:A0) (a1:A1) (a2:A2):=some (a0,a1,a2)
abbrev Tu4 {A0 A1 A2 A3:Type} (a0:A0) (a1:A1) (a2:A2) (a3:A3):=some (a0,a1,a2,a3)
abbrev Tu5 {A0 A1 A2 A3 A4:Type} (a0:A0) (a1:A1) (a2:A2) (a3:A3) (a4:A4):=some (a0,a1,a2,a3,a4)
abbrev Tu6 {A0 A1 A2 A3 A4 A5:Type} (a0:A0) (a1:A1) (a2:A2) (a3:A3) (a4:A4) (a5:A5):=some (a0,a1,a2,a3,a4,a5)
abbrev Tu7 {A0 A1 A2 A3 A4 A5 A6:Type} (a0:A0) (a1:A1) (a2:A2) (a3:A3) (a4:A4) (a5:A5) (a6:A6):=some (a0,a1,a2,a3,a4,a5,a6)
abbrev Tu8 {A0 A1 A2 A3 A4 A5 A6 A7:Type} (a0:A0) (a1:A1) (a2:A2) (a3:A3) (a4:A4) (a5:A5) (a6:A6) (a7:A7):=some (a0,a1,a2,a3,a4,a5,a6,a7)
abbrev Tu11 {A0 A1 A2 A3 A4 A5 A6 A7 A8 A9 A10:Type} (a0:A0) (a1:A1) (a2:A2) (a3:A3) (a4:A4) (a5:A5) (a6:A6) (a7:A7) (a8:A8) (a9:A9) (a10:A10):=some (a0,a1,a2,a3,a4,a5,a6,a7,a8,a9,a10)
abbrev Tu12 {A0 A1 A2 A3 A4 A5 A6 A7 A8 A9 A10 A11:Type} (a0:A0) (a1:A1) (a2:A2) (a3:A3) (a4:A4) (a5:A5) (a6:A6) (a7:A7) (a8:A8) (a9:A9) (a10:A10) (a11:A11):=some (a0,a1,a2,a3,a4,a5,a6,a7,a8,a9,a10,a11)
abbrev Tu13 {A0 A1 A2 A3 A4 A5 A6 A7 A8 A9 A10 A11 A12:Type} (a0:A0) (a1:A1) (a2:A2) (a3:A3) (a4:A4) (a5:A5) (a6:A6) (a7:A7) (a8:A8) (a9:A9) (a10:A10) (a11:A11) (a12:A12):=some (a0,a1,a2,a3,a4,a5,a6,a7,a8,a9,a10,a11,a12)
abbrev Tu14 {A0 A1 A2 A3 A4 A5 A6 A7 A8 A9 A10 A11 A12 A13:Type} (a0:A0) (a1:A1) (a2:A2) (a3:A3) (a4:A4) (a5:A5) (a6:A6) (a7:A7) (a8:A8) (a9:A9) (a10:A10) (a11:A11) (a12:A12) (a13:A13):=some (a0,a1,a2,a3,a4,a5,a6,a7,a8,a9,a10,a11,a12,a13)
abbrev QhP:List UInt8:=bs [0,1,2,2,3,3,3,3,4,4,4,4,4,4,4,4,5,5,5,5,5,5,5,5,5,5,5,5,5,5,5,5,6,6,6,6,6,6,6,6,6,6,6,6,6,6,6,6,6,6,6,6,6,6,6,6,6,6,6,6,6,6,6,6,7,7,7,7,7,7,7,7,7,7,7,7,7,7,7,7,7,7,7,7,7,7,7,7,7,7,7,7,7,7,7,7,7,7,7,7,7,7,7,7,7,7,7,7,7,7,7,7,7,7,7,7,7,7,7,7,7,7,7,7,7,7,7,7,8,8,8,8,8,8,8,8,8,8,8,8,8,8,8,8,8,8,8,8,8,8,8,8,8,8,8,8,8,8,8,8,8,8,8,8,8,8,8,8,8,8,8,8,8,8,8,8,8,8,8,8,8,8,8,8,8,8,8,8,8,8,8,8,8,8,8,8,8,8,8,8,8,8,8,8,8,8,8,8,8,8,8,8,8,8,8,8,8,8,8,8,8,8,8,8,8,8,8,8,8,8,8,8,8,8,8,8,8,8,8,8,8,8,8,8,8,8,8,8,8,8,8,8,8,8,8,8]
section
variable {P:Program} {R:Type}
mutual
def dm (ρ:List (Nat × Nat)):AV->Bool
 |.ptr j _=>(look ρ j).isSome
 |.arr j=>(look ρ j).isSome
 |.ap j _ _=>(look ρ j).isSome
 |.sa j _=>(look ρ j).isSome
 |.ag l=>dmL ρ l
 |.tup l=>dmL ρ l
 |.fn _ l=>dmL ρ l
 |.gd ..=>false
 |_=>true
def dmL (ρ:List (Nat × Nat)):List AV->Bool
 |[]=>true
 |a::r=>dm ρ a&&dmL ρ r
end
theorem Q6p {ρ:List (Nat × Nat)}:∀ {l:List AV} {i:Nat} {x:AV},dmL ρ l=true->l[i]? = some x->dm ρ x=true
 |a::r,0,x,h,hx=>by
  simp only [dmL,Qin] at h;simp at hx;subst hx;exact h.1
 |a::r,i+1,x,h,hx=>by
  simp only [dmL,Qin] at h;exact Q6p h.2 (by simpa using hx)
section
variable {ρ:List (Nat × Nat)} {β β':Nat->Option Nat} {S:Nat->Prop} {h h':Nat->Option Ob} {w:World} {tm:Nat->Value}
theorem Qge (hβ:∀ j l,look ρ j=some l->β' j=β l) (hh:∀ j l,look ρ j=some l->(h l).isSome=true/\(∀ e s rows,h l=some (.arr e s rows)->h' j=some (.arr e s rows))/\∀ t f,h l=some (.mp t f)->h' j=some (.mp t f)) :
  ∀ {v:Value} {y:AV},RdA β S h w tm v y->∀ x:AV,dm ρ x=true->y=U4 ρ x->RdA β' S h' w tm v x:=by
 intro v y hv;induction hv with
 |top v=>
  intro x hd he;cases x <;> simp only [U4,reduceCtorEq] at he
  case top=>exact .top v
  all_goals grind [dm,Option.isSome_iff_exists]
 |d v z hz=>
  intro x hd he;cases x <;> simp only [U4,reduceCtorEq] at he
  case d=>injection he with he;subst he;exact .d v _ hz
  all_goals grind
 |nil=>
  intro x hd he;cases x <;> simp only [U4,reduceCtorEq] at he
  case nil=>exact .nil
  all_goals grind
 |ag cs l hl _ ih=>
  intro x hd he;cases x <;> simp only [U4,reduceCtorEq] at he
  case ag r=>
   injection he with he
   subst he;rw [YY] at hl;refine .ag cs r hl fun i z hz=>?_
   exact ih i (U4 ρ z) (by rw [VE,hz];rfl) z (Q6p (by simpa [dm] using hd) hz) rfl
  all_goals grind
 |tup cs l hl _ ih=>
  intro x hd he;cases x <;> simp only [U4,reduceCtorEq] at he
  case tup r=>
   injection he with he
   subst he;rw [YY] at hl;refine .tup cs r hl fun i z hz=>?_
   exact ih i (U4 ρ z) (by rw [VE,hz];rfl) z (Q6p (by simpa [dm] using hd) hz) rfl
  case ptr j o=>split at he <;> cases he
  case arr j=>split at he <;> cases he
  case sa j t=>split at he <;> cases he
  case ap j i o=>split at he <;> cases he
 |fn f cs l hl _ ih=>
  intro x hd he;cases x <;> simp only [U4,reduceCtorEq] at he
  case fn g r=>
   injection he with he1 he2
   subst he1;subst he2;rw [YY] at hl;refine .fn f cs r hl fun i z hz=>?_
   exact ih i (U4 ρ z) (by rw [VE,hz];rfl) z (Q6p (by simpa [dm] using hd) hz) rfl
  case ptr j o=>split at he <;> cases he
  case arr j=>split at he <;> cases he
  case sa j t=>split at he <;> cases he
  case ap j i o=>split at he <;> cases he
 |fs ad s rows hx=>
  intro x hd he;cases x <;> simp only [U4,reduceCtorEq] at he
  case fs=>injection he with e1 e2;subst e1 e2;exact .fs ad _ _ hx
  case ptr j o=>split at he <;> cases he
  case arr j=>split at he <;> cases he
  case sa j t=>split at he <;> cases he
  case ap j i o=>split at he <;> cases he
 |ex v=>
  intro x hd he;cases x <;> simp only [U4,reduceCtorEq] at he
  case ex=>injection he with e1;subst e1;exact .ex _
  case ptr j o=>split at he <;> cases he
  case arr j=>split at he <;> cases he
  case sa j t=>split at he <;> cases he
  case ap j i o=>split at he <;> cases he
 |mpd v f hm=>
  intro x hd he;cases x <;> simp only [U4,reduceCtorEq] at he
  case mpd=>injection he with e1;subst e1;exact .mpd v _ hm
  case ptr j o=>split at he <;> cases he
  case arr j=>split at he <;> cases he
  case sa j t=>split at he <;> cases he
  case ap j i o=>split at he <;> cases he
 |ptr l off b hb=>
  intro x hd he;cases x <;> simp only [U4,reduceCtorEq] at he
  case ptr j o=>
   split at he
   ·rename_i l' aj;injection he with e1 e2
    subst e1 e2;exact .ptr j _ b ((hβ j _ aj).trans hb)
   ·cases he
  case arr j=>split at he <;> cases he
  case sa j t=>split at he <;> cases he
  case ap j i o=>split at he <;> cases he
 |sa v l t b hb hv=>
  intro x hd he;cases x <;> simp only [U4,reduceCtorEq] at he
  case sa j t=>
   split at he
   ·rename_i l' aj;injection he with e1 e2
    subst e1 e2;exact .sa v j _ b ((hβ j _ aj).trans hb) hv
   ·cases he
  case ptr j o=>split at he <;> cases he
  case arr j=>split at he <;> cases he
  case ap j i o=>split at he <;> cases he
 |el ad row off c hs hc hr=>
  intro x hd he;cases x <;> simp only [U4,reduceCtorEq] at he
  case el r o=>injection he with e1 e2;subst e1 e2;exact .el ad _ _ c hs hc hr
  case ptr j o=>split at he <;> cases he
  case arr j=>split at he <;> cases he
  case sa j t=>split at he <;> cases he
  case ap j i o=>split at he <;> cases he
 |arr0 l e s hb hk=>
  intro x hd he;cases x <;> simp only [U4,reduceCtorEq] at he
  case arr j=>
   split at he
   ·rename_i l' aj;injection he with e1
    subst e1;exact .arr0 j e s ((hβ j _ aj).trans hb) ((hh j _ aj).2.1 _ _ _ hk)
   ·cases he
  case ptr j o=>split at he <;> cases he
  case sa j t=>split at he <;> cases he
  case ap j i o=>split at he <;> cases he
 |arr l b cap e s rows cs ty fz hb hk hw ax ar au=>
  intro x hd he;cases x <;> simp only [U4,reduceCtorEq] at he
  case arr j=>
   split at he
   ·rename_i l' aj;injection he with e1
    subst e1;exact .arr j b cap e s rows cs ty fz ((hβ j _ aj).trans hb) ((hh j _ aj).2.1 _ _ _ hk) hw ax ar au
   ·cases he
  case ptr j o=>split at he <;> cases he
  case sa j t=>split at he <;> cases he
  case ap j i o=>split at he <;> cases he
 |mp l b t f hb hk=>
  intro x hd he;cases x <;> simp only [U4,reduceCtorEq] at he
  case arr j=>
   split at he
   ·rename_i l' aj;injection he with e1
    subst e1;exact .mp j b t f ((hβ j _ aj).trans hb) ((hh j _ aj).2.2 _ _ hk)
   ·cases he
  case ptr j o=>split at he <;> cases he
  case sa j t=>split at he <;> cases he
  case ap j i o=>split at he <;> cases he
 |ap l i off b e s rows hb hk=>
  intro x hd he;cases x <;> simp only [U4,reduceCtorEq] at he
  case ap j i' o=>
   split at he
   ·rename_i l' aj;injection he with e1 e2 e3
    subst e1 e2 e3;exact .ap j _ _ b e s rows ((hβ j _ aj).trans hb) ((hh j _ aj).2.1 _ _ _ hk)
   ·cases he
  case ptr j o=>split at he <;> cases he
  case arr j=>split at he <;> cases he
  case sa j t=>split at he <;> cases he
 |dang v av l hl hk h1=>
  intro x hd he;exfalso;cases x with
  |ptr j o=>simp only [U4] at he;split at he <;> (subst he;simp [Nm] at hl)
  |sa j o=>simp only [U4] at he;split at he <;> (subst he;simp [Nm] at hl)
  |arr j=>
   simp only [U4] at he;split at he
   ·rename_i l' aj;subst he;simp [Nm] at hl;subst hl;have:=(hh j _ aj).1;rw [hk] at this;cases this
   ·subst he;simp [Nm] at hl
  |ap j i o=>
   simp only [U4] at he;split at he
   ·rename_i l' aj;subst he;simp [Nm] at hl;subst hl;have:=(hh j _ aj).1;rw [hk] at this;cases this
   ·subst he;simp [Nm] at hl
  |_=>simp only [U4] at he;subst he;simp [Nm] at hl
 |gdT v t b av ht hv ih=>
  intro x hd he;cases x <;> simp only [U4,reduceCtorEq] at he
  case ptr j o=>split at he <;> cases he
  case arr j=>split at he <;> cases he
  case sa j t=>split at he <;> cases he
  case ap j i o=>split at he <;> cases he
 |gdF t b av ht=>
  intro x hd he;cases x <;> simp only [U4,reduceCtorEq] at he
  case ptr j o=>split at he <;> cases he
  case arr j=>split at he <;> cases he
  case sa j t=>split at he <;> cases he
  case ap j i o=>split at he <;> cases he
end
def CLe (ρ:List (Nat × Nat)) (c c':AV):Prop:=(lf c'=true/\Dx c c')\/(dm ρ c'=true/\c=U4 ρ c')
inductive CLeL (ρ:List (Nat × Nat)):List AV->List AV->Prop
 |nil:CLeL ρ [] []
 |cons {a b:AV} {l r:List AV} (h:CLe ρ a b) (t:CLeL ρ l r):CLeL ρ (a::l) (b::r)
theorem CLeL.length {ρ:List (Nat × Nat)} {l r:List AV} (h:CLeL ρ l r):l.length=r.length:=by induction h <;> simp [*]
theorem CLeL.at {ρ:List (Nat × Nat)} {l r:List AV} (h:CLeL ρ l r):∀ (i:Nat) (x:AV),r[i]? = some x->∃ y,l[i]? = some y/\CLe ρ y x:=by
 induction h with
 |nil=>simp_all
 |cons h0 _ ih=>
  grind
theorem Qan {ρ:List (Nat × Nat)} {ty:TypeId} {cs ac:List AV} (hc:CLeL ρ cs ac) (h:Q6w ty cs):Q6w ty ac:=by
 intro i l t hi;obtain ⟨y,hy,aj⟩:=hc.at i _ hi;rcases aj with ⟨h1,_⟩ | ⟨h1,rfl⟩
 ·trivial
 ·obtain ⟨l',ak⟩:=QiF.1 h1;simp only [U4,ak] at hy;exact h i l' t hy
inductive OLe (ρ:List (Nat × Nat)):Ob->Ob->Prop
 |box {cs cs':List AV} (h:CLeL ρ cs cs'):OLe ρ (.box cs) (.box cs')
 |arr (e s:Nat) (rows:List (List D)):OLe ρ (.arr e s rows) (.arr e s rows)
 |mp (t:Nat) (f:Int->Bool):OLe ρ (.mp t f) (.mp t f)
def Q1h (o o':Option Ob):Prop:=
 (∃ c c',o=some (.box c)/\o'=some (.box c')/\c'.length=c.length) \/
 (∃ e s rows,o=some (.arr e s rows)/\(o'=none\/∃ ac,o'=some (.arr e s ac)/\ac.length=rows.length)) \/
 ∃ t f,o=some (.mp t f)/\(o'=none\/∃ f',o'=some (.mp t f'))
structure ShapeEnd (σ ρ:List (Nat × Nat)) (H:List (Nat × Ob)) (av:AV) (H':List (Nat × Ob)) (dl:Dl):Prop where
 v:U4 σ av=dl.v
 wr:M2 σ H' σ=dl.wr
 news:∀ j l,(j,l)∈σ->(j,l) ∉ ρ->(look H' j).isSome=true
 old:∀ j l,(j,l)∈ρ->Q1h (look H j) (look H' j)
theorem LV {α : Type} {K : AV -> List (Nat × Ob) -> Option α} {res : α} {f : Nat} {fn : Func} (hf : P.funcs[f]? = some fn) (hb : fn.body.isSome = true) (hn : (fn.name == "runtime.NumGoroutine") = false)
  {σ ρ:List (Nat × Nat)} {avs avs':List AV} {H:List (Nat × Ob)} {hl:Nat->Option Ob} {dl:Dl}
  (hav:CLeL ρ avs avs')
  (hsub:∀ p,p∈ρ->p∈σ) (h1:X3 (σ.map (·.1))=true) (h2:X3 (σ.map (·.2))=true) (hρ:X3 (ρ.map (·.1))=true)
  (hin:∀ j l,(j,l)∈ρ->1000000<=j/\∃ o o',hl l=some o/\look H j=some o'/\OLe ρ o o')
  (hinH:∀ j,(look H j).isSome=true->∃ l,(j,l)∈ρ)
  (hnew:∀ j l,(j,l)∈σ->(j,l)∈ρ\/hl l=none)
  (hwl:wrL dl=σ.map (·.2))
  (h:∀ (β:Nat->Option Nat) (S:Nat->Prop) (w:World) (vs:List Value),Objs β S (look H) w->ArgsRd β S (look H) w vs avs'->Calls P f vs.toArray w (Rk H K res β S w)) (hK:∀ av H',K av H'=some res->ShapeEnd σ ρ H av H' dl):Zh P f avs hl dl:=by
 refine ⟨⟨fn,hf,hb,hn⟩,fun β S h' w args hO hA hag=>?_⟩;have hag:∀ {j l:Nat},(j,l)∈σ->h' l=hl l:=fun {j l} hm=>hag l (.inr (by rw [hwl];exact QiI.2 ⟨(j,l),hm,rfl⟩))
 have hlook:∀ {j l:Nat},(j,l)∈ρ->look ρ j=some l:=fun hm=>MR hρ hm
 have hβc:∀ {j l:Nat},(j,l)∈ρ->(look ρ j).bind β=β l:=fun hm=>by rw [hlook hm];rfl
 have hlk2:∀ {j j' l:Nat},(j,l)∈ρ->(j',l)∈ρ->j=j':=fun a b=>by
  have:=Hb h2 _ _ (hsub _ a) (hsub _ b) rfl;injection this
 have hsome':∀ {j l:Nat},(j,l)∈ρ->(h' l).isSome=true:=fun hm=>by
  obtain ⟨_,o,o',g1,_⟩:=hin _ _ hm;rw [hag (hsub _ hm),g1];rfl
 have hun:∀ {v:Value} {y x:AV},RdA β S h' w tm0 v y->CLe ρ y x->RdA (fun j=>(look ρ j).bind β) S (look H) w tm0 v x:=by
  intro v y x hv hc;rcases hc with ⟨c1,c2⟩ | ⟨c1,rfl⟩
  ·exact LB c1 (fun _ h=>h) (fun _ _=>rfl) (c2 _ _ _ _ _ _ hv)
  ·refine Qge (ρ:=ρ) (fun j l hj=>by simp only [hj];rfl) (fun j l hj=>⟨hsome' (Yk hj),fun e s rows hx=>?_,fun t f hx=>?_⟩) hv x c1 rfl <;>
   ·obtain ⟨_,o,o',g1,g2,g3⟩:=hin j l (Yk hj);rw [hag (hsub _ (Yk hj)),g1] at hx;injection hx with hx
    subst hx;cases g3;exact g2
 have hO0:Objs (fun j=>(look ρ j).bind β) S (look H) w:=by
  refine ⟨fun j o ho=>?_,fun j j' b s1 s2 b1 b2=>?_,fun j b s1 b1=>?_,hO.sb⟩
  ·obtain ⟨l,hm⟩:=hinH j (by simp [ho]);obtain ⟨_,oo,o',g1,g2,g3⟩:=hin j l hm;rw [ho] at g2;injection g2 with g2
   subst g2;have hob:=hO.ob l _ ((hag (hsub _ hm)).trans g1);cases g3 with
   |box g3=>
    obtain ⟨b,ty,c0,fz,e1,e2,e3,e4,e5⟩:=hob;refine ⟨b,ty,c0,fz,(hβc hm).trans e1,e2,⟨e3.1,Qan g3 e3.2⟩,e4.trans g3.length,fun i x hx=>?_⟩;obtain ⟨y,y1,y2⟩:=g3.at i x hx;exact hun (e5 i y y1) y2
   |arr e s rows=>
    rcases hob with ⟨e1,e2⟩ | ⟨b,cs,e1,e2,e3,e4,e5⟩
    ·exact .inl ⟨(hβc hm).trans e1,e2⟩
    ·exact .inr ⟨b,cs,(hβc hm).trans e1,e2,e3,e4,e5⟩
   |mp t f=>
    obtain ⟨b,e1,e2⟩:=hob;exact ⟨b,(hβc hm).trans e1,e2⟩
  ·obtain ⟨l,hm⟩:=hinH j s1;obtain ⟨l',hm'⟩:=hinH j' s2;have:=hO.inj l l' b (hsome' hm) (hsome' hm') (by rw [<- hβc hm];exact b1) (by rw [<- hβc hm'];exact b2);subst this;exact hlk2 hm hm'
  ·obtain ⟨l,hm⟩:=hinH j s1;exact hO.apart l b (hsome' hm) (by rw [<- hβc hm];exact b1)
 have hA0:ArgsRd (fun j=>(look ρ j).bind β) S (look H) w args avs':=by
  refine ⟨by rw [hA.1,hav.length],fun i v av g1 g2=>?_⟩;obtain ⟨y,y1,y2⟩:=hav.at i av g2;exact hun (hA.2 i v y g1 y1) y2
 refine (h _ _ _ _ hO0 hA0).mono fun e w' ⟨v,av,H',β',S',he,hk,hrd,_,hr⟩=>?_
 obtain ⟨q1,q2,q3,q4⟩:=hK av H' hk;have hinv:∀ {j l:Nat},(j,l)∈σ->inv σ l=some j:=fun hm=>Q2J h2 hm
 let βo:Nat->Option Nat:=fun l=>match inv σ l with | some j=>β' j | none=>β l
 have hβo:∀ j l,(j,l)∈σ->βo l=β' j:=fun j l hm=>by simp only [βo,hinv hm]
 have hset:∀ j l,(j,l)∈σ->KE h' dl.wr l=(look H' j).map (QaK σ):=fun j l hm=>by rw [<- q2];exact Mp σ H' σ h' h2 j l hm
 have hmem:∀ {l:Nat},l∈wrL dl->∃ j,(j,l)∈σ:=fun hm=>by
  rw [hwl] at hm;obtain ⟨⟨j,l'⟩,m1,m2⟩:=QiI.1 hm;simp only at m2;subst m2;exact ⟨j,m1⟩
 have hpin:∀ {j l:Nat},(j,l)∈ρ->β' j=β l:=fun hm=>(hr.pin _ (hin _ _ hm).1).trans (hβc hm)
 have hren:∀ {v:Value} {x:AV},RdA β' S' (look H') w' tm0 v x->RdA βo S' (KE h' dl.wr) w' tm0 v (U4 σ x):=fun hx=>
  Q5x hβo (fun j l o hm ho=>by rw [hset j l hm,ho];rfl) (fun j l hm ho=>by rw [hset j l hm,ho];rfl) hx
 have hwmem:∀ {j l:Nat},(j,l)∈σ->l∈wrL dl:=fun {j l} hm=>by rw [hwl];exact QiI.2 ⟨(j,l),hm,rfl⟩
 have hMw:∀ b,(∃ j,(look H j).isSome=true/\(look ρ j).bind β=some b)->∃ l,l∈wrL dl/\(h' l).isSome=true/\β l=some b:=by
  intro b ⟨j,s1,s2⟩;obtain ⟨l,hm⟩:=hinH j s1;exact ⟨l,hwmem (hsub _ hm),hsome' hm,by rw [<- hβc hm];exact s2⟩
 have hw0:∀ {b:Nat},(∃ j,(look H j).isSome=true/\(look ρ j).bind β=some b)\/w.heap.size<=b->w.heap.size<=b\/∃ l0,l0∈wrL dl/\(h' l0).isSome=true/\β l0=some b:=by
  intro b hx;rcases hx with hx | hx
  ·exact .inr (hMw b hx)
  ·exact .inl hx
 refine ⟨v,βo,S',he,⟨hr.s0,fun b hS=>?_,hr.sb,hr.fr.mono fun b _ hM=>hMw b hM,fun l hno=>?_,fun l o hm ho=>?_,fun l hm hs=>?_,fun l b hm hs hb'=>?_,fun l l' b hm hm' hs hs' hb' hb''=>?_,fun l hm hno hno'=>?_,?_,fun t=>by rw [<- q1];exact Q0S σ t av⟩⟩
 ·rcases hr.sfr b hS with g | g | g
  ·exact .inl g
  ·exact .inr (.inr (hMw b g))
  ·exact .inr (.inl g)
 ·have:inv σ l=none:=Q5W (by rw [<- hwl];exact hno);simp only [βo,this]
 ·obtain ⟨j,hj⟩:=hmem hm;rw [hset j l hj,Qio] at ho;obtain ⟨o',ho',rfl⟩:=ho;have hob:=hr.ob j o' ho';cases o' with
  |box cells=>
   obtain ⟨b,ty,cs,fz,g1,g2,g3,g4,g5⟩:=hob;refine ⟨b,ty,cs,fz,(hβo j l hj).trans g1,g2,⟨g3.1,Q0r g3.2⟩,by rw [g4,YY],fun i x hx=>?_⟩;rw [VE,Qio] at hx;obtain ⟨y,hy,rfl⟩:=hx;exact hren (g5 i y hy)
  |arr e s rows=>
   rcases hob with ⟨g1,g2⟩ | ⟨b,cs,g1,g2,g3,g4,g5⟩
   ·exact .inl ⟨(hβo j l hj).trans g1,g2⟩
   ·exact .inr ⟨b,cs,(hβo j l hj).trans g1,g2,g3,g4,g5⟩
  |mp t f=>
   obtain ⟨b,g1,g2⟩:=hob;exact ⟨b,(hβo j l hj).trans g1,g2⟩
 ·obtain ⟨j,hj⟩:=hmem hm;rcases hnew j l hj with hp | hno
  ·obtain ⟨hj6,o,o',e1,e2,e3⟩:=hin j l hp;have hh:h' l=some o:=(hag hj).trans e1;have hcells:∀ b cs ty fz,(KE h' dl.wr l).isSome=true->β l=some b->w.heap[b]? = some (.cells cs ty fz)->∃ cs' ty' fz',w'.heap[b]? = some (.cells cs' ty' fz')/\cs'.size=cs.size:=by
    intro b cs ty fz hs' hb' hw;have hs2:(look H' j).isSome=true:=by
     rw [hset j l hj] at hs';cases hx:look H' j with
     |none=>rw [hx] at hs';cases hs'
     |some o=>rfl
    exact hr.psz j b hj6 hs2 ((hpin hp).trans hb') cs ty fz hw
   rcases q4 j l hp with ⟨c,c',g1,g2,g3⟩ | ⟨e,s,rows,g1,g2⟩ | ⟨t,f,g1,g2⟩
   ·rw [g1] at e2;injection e2 with e2
    subst e2;cases e3 with
    |box e3=>exact ⟨(hβo j l hj).trans (hpin hp),fun hx=>(by rw [hh] at hx;cases hx),fun e s rows hx=>(by rw [hh] at hx;cases hx),hcells,fun t f hx=>(by rw [hh] at hx;cases hx)⟩
   ·rw [g1] at e2;injection e2 with e2
    subst e2;cases e3 with
    |arr=>
     refine ⟨(hβo j l hj).trans (hpin hp),fun hx=>(by rw [hh] at hx;cases hx),fun e' s' rows2 hx=>?_,hcells,fun t f hx=>(by rw [hh] at hx;cases hx)⟩;rw [hh] at hx;injection hx with hx
     injection hx with x1 x2 x3
     subst x1 x2 x3;rcases g2 with g2 | ⟨rows',g2,g3⟩
     ·left;rw [hset j l hj,g2];rfl
     ·right;exact ⟨rows',by rw [hset j l hj,g2];rfl,g3⟩
   ·rw [g1] at e2;injection e2 with e2
    subst e2;cases e3 with
    |mp=>
     refine ⟨(hβo j l hj).trans (hpin hp),fun hx=>(by rw [hh] at hx;cases hx),fun e' s' rows2 hx=>(by rw [hh] at hx;cases hx),hcells,fun t' f2 hx=>?_⟩;rw [hh] at hx;injection hx with hx
     injection hx with x1 x2
     subst x1 x2;rcases g2 with g2 | ⟨f',g2⟩
     ·left;rw [hset j l hj,g2];rfl
     ·right;exact ⟨f',by rw [hset j l hj,g2];rfl⟩
  ·rw [hag hj,hno] at hs;cases hs
 ·obtain ⟨j,hj⟩:=hmem hm;rw [hβo j l hj] at hb';have hs2:(look H' j).isSome=true:=by
   rw [hset j l hj] at hs;cases hx:look H' j with
   |none=>rw [hx] at hs;cases hs
   |some o=>rfl
  exact ⟨hw0 (hr.own j b hs2 hb'),hr.apart j b hs2 hb'⟩
 ·obtain ⟨j,hj⟩:=hmem hm;obtain ⟨j',hj'⟩:=hmem hm';rw [hβo j l hj] at hb';rw [hβo j' l' hj'] at hb'';have hs2:∀ {j l:Nat},(j,l)∈σ->(KE h' dl.wr l).isSome=true->(look H' j).isSome=true:=by
   intro j l hj hs;rw [hset j l hj] at hs;cases hx:look H' j with
   |none=>rw [hx] at hs;cases hs
   |some o=>rfl
  have:=hr.inj j j' b (hs2 hj hs) (hs2 hj' hs') hb' hb'';subst this;have:=Hb h1 _ _ hj hj' rfl;injection this
 ·obtain ⟨j,hj⟩:=hmem hm;by_cases hp:(j,l)∈ρ
  ·have:=hsome' hp;rw [hno] at this;cases this
  ·have:=q3 j l hj hp;rw [hset j l hj] at hno';cases hx:look H' j with
   |none=>rw [hx] at this;cases this
   |some o=>rw [hx] at hno';cases hno'
 ·rw [<- q1];exact hren hrd
theorem Qb0 {α : Type} {K : AV -> List (Nat × Ob) -> Option α} {res : α} {C : VC} (hC : VCOk P C) {n f : Nat} {fn : Func} (hf : P.funcs[f]? = some fn) (hb : fn.body.isSome = true) (hn : (fn.name == "runtime.NumGoroutine") = false)
  {σ ρ:List (Nat × Nat)} {avs avs':List AV} {H:List (Nat × Ob)} {hl:Nat->Option Ob} {dl:Dl}
  (hav:CLeL ρ avs avs')
  (hsub:∀ p,p∈ρ->p∈σ) (h1:X3 (σ.map (·.1))=true) (h2:X3 (σ.map (·.2))=true) (hρ:X3 (ρ.map (·.1))=true)
  (hin:∀ j l,(j,l)∈ρ->1000000<=j/\∃ o o',hl l=some o/\look H j=some o'/\OLe ρ o o')
  (hinH:∀ j,(look H j).isSome=true->∃ l,(j,l)∈ρ)
  (hnew:∀ j l,(j,l)∈σ->(j,l)∈ρ\/hl l=none)
  (hwl:wrL dl=σ.map (·.2))
  (h:vfn C n fn avs' H K=some res) (hK:∀ av H',K av H'=some res->ShapeEnd σ ρ H av H' dl):Zh P f avs hl dl:=
 LV hf hb hn hav hsub h1 h2 hρ hin hinH hnew hwl (fun _ _ _ _ hO hA=>Cn hC hf h hO hA) hK
end
section
variable {P:Program} {R:Type}
theorem CLe.data {ρ:List (Nat × Nat)} {c c':AV} (hl:lf c'=true) (h:Dx c c'):CLe ρ c c':=.inl ⟨hl,h⟩
theorem CLe.own {ρ:List (Nat × Nat)} {c c':AV} (hd:dm ρ c'=true) (h:c=U4 ρ c'):CLe ρ c c':=.inr ⟨hd,h⟩
def Qef (ρ0:List (Nat × Nat)) (hl:Nat->Option Ob) (H:List (Nat × Ob)):List (Nat × Nat)->Prop
 |[]=>True
 |(j,l)::r=>(1000000<=j/\∃ o o',hl l=some o/\look H j=some o'/\OLe ρ0 o o')/\Qef ρ0 hl H r
def Qeu (H H':List (Nat × Ob)):List (Nat × Nat)->Prop
 |[]=>True
 |(j,_)::r=>Q1h (look H j) (look H' j)/\Qeu H H' r
theorem Q85 {ρ0:List (Nat × Nat)} {hl:Nat->Option Ob} {H:List (Nat × Ob)}:∀ {ρ:List (Nat × Nat)},Qef ρ0 hl H ρ->∀ j l,(j,l)∈ρ->1000000<=j/\∃ o o',hl l=some o/\look H j=some o'/\OLe ρ0 o o'
 |(a,b)::r,h,j,l,hm=>by
  rcases Qiq.1 hm with hm | hm
  ·injection hm with h1 h2;subst h1 h2;exact h.1
  ·exact Q85 h.2 j l hm
theorem Q7H {H H':List (Nat × Ob)}:∀ {ρ:List (Nat × Nat)},Qeu H H' ρ->∀ j l,(j,l)∈ρ->Q1h (look H j) (look H' j)
 |(a,b)::r,h,j,l,hm=>by
  rcases Qiq.1 hm with hm | hm
  ·injection hm with h1 h2;subst h1 h2;exact h.1
  ·exact Q7H h.2 j l hm
theorem Q91 {o o':Option Ob} {c c':List AV} (h1:o=some (.box c)) (h2:o'=some (.box c')) (h3:c'.length=c.length):Q1h o o':=.inl ⟨c,c',h1,h2,h3⟩
theorem Q6L {o o':Option Ob} {e s:Nat} {rows:List (List D)} (h1:o=some (.arr e s rows)) (h2:o'=none):Q1h o o':=.inr (.inl ⟨e,s,rows,h1,.inl h2⟩)
theorem Q6y {o o':Option Ob} {e s:Nat} {rows ac:List (List D)} (h1:o=some (.arr e s rows)) (h2:o'=some (.arr e s ac)) (h3:ac.length=rows.length):Q1h o o':=.inr (.inl ⟨e,s,rows,h1,.inr ⟨ac,h2,h3⟩⟩)
theorem Q84 {o o':Option Ob} {t:Nat} {f f':Int->Bool} (h1:o=some (.mp t f)) (h2:o'=some (.mp t f')):Q1h o o':=.inr (.inr ⟨t,f,h1,.inr ⟨f',h2⟩⟩)
theorem Q40 {o o':Option Ob} {t:Nat} {f:Int->Bool} (h1:o=some (.mp t f)) (h2:o'=none):Q1h o o':=.inr (.inr ⟨t,f,h1,.inl h2⟩)
theorem Q8h {f:Nat} {ac:List AV} {hl:Nat->Option Ob} {dl:Dl} {g:Bool} {k:Dl->Option R} {r:R} (h:(bif g then none else k dl)=some r):∃ dl,k dl=some r/\(g=true->Zh P f ac hl dl):=by
 grind
theorem Q0m {α : Type} {K : AV -> List (Nat × Ob) -> Option α} {res : α} {f : Nat} {fn : Func} (hf : P.funcs[f]? = some fn) (hb : fn.body.isSome = true) (hn : (fn.name == "runtime.NumGoroutine") = false)
  {ρ ν:List (Nat × Nat)} {avs avs':List AV} {H:List (Nat × Ob)} {hl:Nat->Option Ob} {dl:Dl}
  (hav:CLeL ρ avs avs') (h1:X3 ((ρ++ν).map (·.1))=true) (hρ:X3 (ρ.map (·.1))=true)
  (hc:Rh hl ρ ν=true) (hin:Qef ρ hl H ρ) (hkeys:H.map (·.1)=ρ.map (·.1)) (hwl:wrL dl=(ρ++ν).map (·.2))
  (h:∀ (β:Nat->Option Nat) (S:Nat->Prop) (w:World) (vs:List Value),Objs β S (look H) w->ArgsRd β S (look H) w vs avs'->Calls P f vs.toArray w (Rk H K res β S w))
  (hK:∀ av H',K av H'=some res->U4 (ρ++ν) av=dl.v/\M2 (ρ++ν) H' (ρ++ν)=dl.wr/\QaQ H' ν/\Qeu H H' ρ):Zh P f avs hl dl:=by
 simp only [Rh,Qin] at hc;refine LV hf hb hn hav (fun p hp=>QiK _ hp) h1 hc.1 hρ (Q85 hin) (Q0T hkeys) (fun j l hm=>?_) hwl h fun av H' hk=>?_
 ·grind [Q56]
 ·obtain ⟨q1,q2,q3,q4⟩:=hK av H' hk;refine ⟨q1,q2,fun j l hm hno=>?_,Q7H q4⟩
  grind [absurd,Q3S]
end
abbrev Mg:=(R:Type)->St->(Exit->St->Option R)->Option R
section
variable {P:Program} {E:Env} {R:Type}
def Qex (P:Program) (c:Code) (F:Mg):Prop:=
 ∀ (E:Env) (R:Type) (st:St) (k:Exit->St->Option R) (r:R),F R st k=some r->∀ a w,Hd E st a w->(Code.loop c).wp P (Ap E k r) a w
structure LpE (P:Program) where
 r:Nat
 c:Code
 L:Mg
 t:St->Bool
 ok:Qex P c L
def Q71:List (LpE P)->Nat->Option Mg
 |[],_=>none
 |e::t,r=>bif Nat.beq e.r r then some e.L else Q71 t r
def Q6O (C:VC) (T:List (LpE P)):Code->St->(Exit->St->Option R)->Option R
 |.skip,st,k=>k .normal st
 |.region id aj ac,st,k=>Q0q C id aj ac st (k .normal)
 |.seq a b,st,k=>Q6O C T a st fun e st'=>match e with
  |.normal=>Q6O C T b st' k
  |.exit id=>k (.exit id) st'
  |.ret=>k .ret st'
  |_=>none
 |.cond c a b,st,k=>match evO st.tm c with
  |.d (.bool e)=>bif e then Q6O C T a st k else Q6O C T b st k
  |_=>none
 |.block id c,st,k=>Q6O C T c st fun e st'=>match e with
  |.normal=>k .normal st'
  |.exit j=>bif Nat.beq j id then k .normal st' else k (.exit j) st'
  |.ret=>k .ret st'
  |_=>none
 |.loop c,st,k=>match Q71 T (Q7I c) with
  |some L=>L R st k
  |none=>none
 |.exit id,st,k=>k (.exit id) st
 |.ret,st,k=>k .ret st
 |_,_,_=>none
def WF:Code->List (Nat × Code)
 |.seq a b=>WF a++WF b
 |.cond _ a b=>WF a++WF b
 |.block _ c=>WF c
 |.loop c=>[(Q7I c,c)]
 |_=>[]
def QdX (T:List (LpE P)) (ds:List (Nat × Code)):Prop:=∀ r c,(r,c)∈ds->∀ L,Q71 T r=some L->Qex P c L
def Nj (T:List (LpE P)) (ds:List (Nat × Code)):List (Nat × Code):=ds.filter fun d=>Pr d.1 (T.map (·.r))
theorem Q8z {T:List (LpE P)} {r:Nat} {L:Mg} (h:Q71 T r=some L):Pr r (T.map (·.r))=true:=by
 induction T with
 |nil=>cases h
 |cons e t ih=>
  grind [Q71,Nat.beq,Nat.eq_of_beq_eq_true,Pr,Nat.beq_refl]
theorem Cc {T:List (LpE P)} {ds:List (Nat × Code)} (hn:X3 (T.map (·.r))=true) (h:Nj T ds=T.map fun e=>(e.r,e.c)):QdX T ds:=by
 intro r c hm L hL;have hm:(r,c)∈T.map fun e=>(e.r,e.c):=by
  rw [<- h];exact List.mem_filter.2 ⟨hm,Q8z hL⟩
 clear h;induction T with
 |nil=>cases hm
 |cons e t ih=>
  simp only [Qiw,X3,Qin,Qiu] at hn;simp only [Qiw,Qiq] at hm;simp only [Q71] at hL;rcases hm with hm | hm
  ·injection hm with h1 h2
   subst h1 h2;simp only [QiM,Qit,Option.some.injEq] at hL;subst hL;exact e.ok
  ·cases hb:Nat.beq e.r r with
   |true=>
    have:=Qim hb;subst this;have aj:Pr e.r (t.map (·.r))=true:=by
     have:∀ (l:List (LpE P)),(e.r,c)∈l.map (fun x=>(x.r,x.c))->Pr e.r (l.map (·.r))=true:=by
      intro l;induction l with
      |nil=>simp_all
      |cons x xs ak=>
       intro h;simp only [Qiw,Qiq] at h
       grind [Pr,Nat.beq_refl]
     simp_all
    simp_all
   |false=>
    simp_all
theorem NK {C:VC} (hC:VCOk P C) {T:List (LpE P)}:∀ (c:Code),QdX T (WF c)->∀ (st:St) (k:Exit->St->Option R) (r:R),Q6O C T c st k=some r->∀ a w,Hd E st a w->c.wp P (Ap E k r) a w:=by
 intro c;induction c with
 |skip=>intro _ st k r h a w hR;exact wp_skip ⟨st,hR,h⟩
 |region id aw ar=>
  intro _ st k r h a w hR;exact Lo hC h hR fun st' a' w' ac hk=>⟨st',ac,hk⟩
 |seq x y ao ak=>
  intro hT st k r h a w hR;refine wp_seq (wp_mono (ao (fun r c hm=>hT r c (QiK _ hm)) st _ r h a w hR) fun e a' w' hp=>?_);obtain ⟨st',ac,hk⟩:=hp;cases e with
  |normal=>exact ak (fun r c hm=>hT r c (List.mem_append_right _ hm)) st' k r hk a' w' ac
  |exit id=>exact ⟨st',ac,hk⟩
  |ret=>exact ⟨st',ac,hk⟩
  |_=>cases hk
 |cond c x y ao ak=>
  intro hT st k r h a w hR;simp only [Q6O] at h;split at h
  ·rename_i e he;obtain ⟨β,S,an⟩:=hR;have hv:=(he▸Q3v an c).bool_inv;refine wp_cond hv ?_;cases e with
   |true=>exact ao (fun r c hm=>hT r c (QiK _ hm)) st k r (by simpa using h) a w ⟨β,S,an⟩
   |false=>exact ak (fun r c hm=>hT r c (List.mem_append_right _ hm)) st k r (by simpa using h) a w ⟨β,S,an⟩
  ·cases h
 |block id c ih=>
  intro hT st k r h a w hR;refine wp_block (wp_mono (ih hT st _ r h a w hR) fun e a' w' hp=>?_);obtain ⟨st',ac,hk⟩:=hp;cases e with
  |normal=>exact ⟨st',ac,hk⟩
  |exit j=>
   cases hb:Nat.beq j id with
   |true=>
    simp only [hb,Qit] at hk;have:=Qim hb;simp only [Exit.inBlock,this,if_true];exact ⟨st',ac,hk⟩
   |false=>
    simp only [hb,QiG] at hk;have aq:¬ j=id:=fun e=>by simp_all
    simp only [Exit.inBlock,aq,if_false];exact ⟨st',ac,hk⟩
  |ret=>exact ⟨st',ac,hk⟩
  |_=>cases hk
 |loop c ih=>
  intro hT st k r h a w hR;simp only [Q6O] at h;split at h
  ·rename_i L hL;exact hT _ c (by simp [WF]) L hL E _ st k r h a w hR
  ·cases h
 |exit id=>intro _ st k r h a w hR;exact wp_exit ⟨st,hR,h⟩
 |ret=>intro _ st k r h a w hR;exact wp_ret ⟨st,hR,h⟩
 |_=>grind [Q6O]
def lpK (F:Mg) (k:Exit->St->Option R):Exit->St->Option R:=fun e st=>match e with
 |.normal=>F R st k
 |.exit id=>k (.exit id) st
 |.ret=>k .ret st
 |_=>none
theorem Q2W {c:Code} (F:Nat->Mg) (h0:∀ (R:Type) st (k:Exit->St->Option R),F 0 R st k=none)
  (hs:∀ (m:Nat) (E:Env) (R:Type) st (k:Exit->St->Option R) r,F (m+1) R st k=some r->∀ a w,Hd E st a w->c.wp P (Ap E (lpK (F m) k) r) a w) :
  ∀ (m:Nat) (E:Env) (R:Type) (st:St) (k:Exit->St->Option R) (r:R),F m R st k=some r->∀ a w,Hd E st a w->Code.rounds P c (Ap E k r) m a w
 |0,E,R,st,k,r,h=>by rw [h0] at h;cases h
 |m+1,E,R,st,k,r,h=>by
  intro a w hR;rw [rounds_succ];refine wp_mono (hs m E R st k r h a w hR) fun e a' w' ⟨st',ac,hk⟩=>?_
  cases e with
  |normal=>exact Q2W F h0 hs m E R st' k r hk a' w' ac
  |exit id=>exact ⟨st',ac,hk⟩
  |ret=>exact ⟨st',ac,hk⟩
  |_=>cases hk
end
inductive LT where
 |I | B | T | L | R | D | N | M | P
abbrev yI:LT:=.I
abbrev yB:LT:=.B
abbrev yT:LT:=.T
abbrev yL:LT:=.L
abbrev yR:LT:=.R
abbrev yD:LT:=.D
abbrev yN:LT:=.N
abbrev yM:LT:=.M
abbrev yP:LT:=.P
inductive Lf where
 |I (x:Int)
 |B (x:Bool)
 |T (x:List UInt8)
 |L (x:List (List D))
 |R (x:List D)
 |D (x:Vx.D)
 |N (x:Nat)
 |M (x:Int->List (List Vx.D))
 |P (x:Int->Bool)
def LT.ty:LT->Type
 |.I=>Int
 |.B=>Bool
 |.T=>List UInt8
 |.L=>List (List Vx.D)
 |.R=>List Vx.D
 |.D=>Vx.D
 |.N=>Nat
 |.M=>Int->List (List Vx.D)
 |.P=>Int->Bool
def HL:List LT->Type
 |[]=>Unit
 |t::ts=>t.ty × HL ts
def LF:List LT->Type->Type
 |[],α=>α
 |t::ts,α=>t.ty->LF ts α
def Q9y:(t:LT)->t.ty->Lf
 |.I,x=>.I x
 |.B,x=>.B x
 |.T,x=>.T x
 |.L,x=>.L x
 |.R,x=>.R x
 |.D,x=>.D x
 |.N,x=>.N x
 |.M,x=>.M x
 |.P,x=>.P x
def toL:(ts:List LT)->HL ts->List Lf
 |[],_=>[]
 |t::ts,v=>Q9y t v.1::toL ts v.2
def apH {α:Type}:(ts:List LT)->LF ts α->HL ts->α
 |[],f,_=>f
 |_::ts,f,v=>apH ts (f v.1) v.2
def Q7h:(t:LT)->Lf->Option t.ty
 |.I,.I x=>some x
 |.B,.B x=>some x
 |.T,.T x=>some x
 |.L,.L x=>some x
 |.R,.R x=>some x
 |.D,.D x=>some x
 |.N,.N x=>some x
 |.M,.M x=>some x
 |.P,.P x=>some x
 |_,_=>none
def apL {α:Type}:(ts:List LT)->LF ts (Option α)->List Lf->Option α
 |[],f,l=>match l with
  |[]=>f
  |_::_=>none
 |t::ts,f,l=>match l with
  |[]=>none
  |x::r=>match Q7h t x with
   |some v=>apL ts (f v) r
   |none=>none
theorem RI {t:LT} {x:Lf} {v:t.ty} (h:Q7h t x=some v):x=Q9y t v:=by
 cases t <;> cases x <;> first | (injection h with h;subst h;rfl) | cases h
theorem NI {α:Type} (ts:List LT):∀ (f:LF ts (Option α)) (l:List Lf) (r:α),apL ts f l=some r->∃ v:HL ts,apH ts f v=some r/\l=toL ts v:=by
 induction ts with
 |nil=>
  intro f l r h;cases l with
  |nil=>exact ⟨(),h,rfl⟩
  |cons x l=>cases h
 |cons t ts ih=>
  intro f l r h;cases l with
  |nil=>cases h
  |cons x l=>
   replace h:(match Q7h t x with | some v=>apL ts (f v) l | none=>none)=some r:=h
   split at h
   ·rename_i v hv;obtain ⟨u,h1,h2⟩:=ih (f v) l r h;exact ⟨(v,u),h1,by rw [RI hv,h2];rfl⟩
   ·cases h
inductive TA where
 |top | nil
 |i (k:IntKind) | b | t | l (s:Nat) | x
 |ci (k:IntKind) (n:Int) | cb (v:Bool) | ct (s:List UInt8) | cl (s:Nat)
 |ag (l:List TA) | tup (l:List TA) | fn (f:Nat) (l:List TA)
 |ptr (l off:Nat) | arr (l:Nat) | sa (l t:Nat)
 |el (off:Nat) | ap (l off:Nat) | ac (l i off:Nat)
 |fs (s:Nat) | mpd
 |gd (t:Nat) (w:Bool) (a:TA)
def EE:List UInt8->List UInt8->Bool
 |[],[]=>true
 |a::r,b::s=>Nat.beq a.toNat b.toNat&&EE r s
 |_,_=>false
theorem AW:∀ {a b:List UInt8},EE a b=true->a=b
 |[],[],_=>rfl
 |x::r,y::s,h=>by
  simp only [EE,Qin] at h;rw [UInt8.toNat_inj.1 (Qim h.1),AW h.2]
 |[],_::_,h=>by simp [EE] at h
 |_::_,[],h=>by simp [EE] at h
def oB {α:Type} (c:Bool) (x:α):Option α:=bif c then some x else none
theorem Vz {α:Type} {c:Bool} {x y:α} (h:oB c x=some y):c=true/\x=y:=by
 cases c with
 |true=>injection h with h;simp_all
 |false=>cases h
mutual
def rdT:TA->AV->List Lf->Option (List Lf)
 |.top,.top,acc=>some acc
 |.nil,.nil,acc=>some acc
 |.i k,.d (.int k' n),acc=>oB (k == k') (.I n::acc)
 |.b,.d (.bool v),acc=>some (.B v::acc)
 |.t,.d (.str s),acc=>some (.T s::acc)
 |.l s,.d (.sl s' r),acc=>oB (Nat.beq s s') (.L r::acc)
 |.x,.d d,acc=>some (.D d::acc)
 |.ci k n,.d (.int k' n'),acc=>oB (k == k'&&decide (n=n')) acc
 |.cb v,.d (.bool v'),acc=>oB (v == v') acc
 |.ct s,.d (.str s'),acc=>oB (EE s s') acc
 |.cl s,.d (.sl s' []),acc=>oB (Nat.beq s s') acc
 |.ag l,.ag l',acc=>Q9s l l' acc
 |.tup l,.tup l',acc=>Q9s l l' acc
 |.fn f l,.fn f' l',acc=>bif Nat.beq f f' then Q9s l l' acc else none
 |.ptr l o,.ptr l' o',acc=>oB (Nat.beq l l'&&Nat.beq o o') acc
 |.arr l,.arr l',acc=>oB (Nat.beq l l') acc
 |.sa l o,.sa l' o',acc=>oB (Nat.beq l l'&&Nat.beq o o') acc
 |.el o,.el r o',acc=>oB (Nat.beq o o') (.R r::acc)
 |.ap l o,.ap l' i o',acc=>oB (Nat.beq l l'&&Nat.beq o o') (.N i::acc)
 |.ac l i o,.ap l' i' o',acc=>oB (Nat.beq l l'&&Nat.beq i i'&&Nat.beq o o') acc
 |.fs s,.fs s' r,acc=>oB (Nat.beq s s') (.L r::acc)
 |.mpd,.mpd f,acc=>some (.M f::acc)
 |.gd t w a,.gd t' w' a',acc=>bif Nat.beq t t'&&(w == w') then rdT a a' acc else none
 |_,_,_=>none
def Q9s:List TA->List AV->List Lf->Option (List Lf)
 |[],[],acc=>some acc
 |a::r,a'::r',acc=>match Q9s r r' acc with
  |some ac=>rdT a a' ac
  |none=>none
 |_,_,_=>none
end
mutual
def fiT:TA->List Lf->AV × List Lf
 |.i k,.I n::r=>(.d (.int k n),r)
 |.b,.B v::r=>(.d (.bool v),r)
 |.t,.T s::r=>(.d (.str s),r)
 |.l s,.L x::r=>(.d (.sl s x),r)
 |.x,.D d::r=>(.d d,r)
 |.ci k n,r=>(.d (.int k n),r)
 |.cb v,r=>(.d (.bool v),r)
 |.ct s,r=>(.d (.str s),r)
 |.cl s,r=>(.d (.sl s []),r)
 |.ag l,r=>(.ag (Q6T l r).1,(Q6T l r).2)
 |.tup l,r=>(.tup (Q6T l r).1,(Q6T l r).2)
 |.fn f l,r=>(.fn f (Q6T l r).1,(Q6T l r).2)
 |.ptr l o,r=>(.ptr l o,r)
 |.arr l,r=>(.arr l,r)
 |.sa l o,r=>(.sa l o,r)
 |.el o,.R x::r=>(.el x o,r)
 |.ap l o,.N i::r=>(.ap l i o,r)
 |.ac l i o,r=>(.ap l i o,r)
 |.fs s,.L x::r=>(.fs s x,r)
 |.mpd,.M f::r=>(.mpd f,r)
 |.gd t w a,r=>(.gd t w (fiT a r).1,(fiT a r).2)
 |.nil,r=>(.nil,r)
 |_,r=>(.top,r)
def Q6T:List TA->List Lf->List AV × List Lf
 |[],r=>([],r)
 |a::l,r=>((fiT a r).1::(Q6T l (fiT a r).2).1,(Q6T l (fiT a r).2).2)
end
mutual
theorem Q0N:∀ (ta:TA) (a:AV) (acc ls:List Lf),rdT ta a acc=some ls->fiT ta ls=(a,acc):=by
 intro ta a acc ls h;cases ta <;> cases a <;> try (simp only [rdT,reduceCtorEq] at h;done)
 case top.top=>simp only [rdT,Option.some.injEq] at h;subst h;simp [fiT]
 case nil.nil=>simp only [rdT,Option.some.injEq] at h;subst h;simp [fiT]
 case i.d k d=>
  cases d <;> try (simp only [rdT,reduceCtorEq] at h;done)
  simp only [rdT] at h;obtain ⟨h1,rfl⟩:=Vz h;rw [<- eq_of_beq h1];rfl
 case b.d d=>
  cases d <;> try (simp only [rdT,reduceCtorEq] at h;done)
  simp only [rdT,Option.some.injEq] at h;subst h;rfl
 case t.d d=>
  cases d <;> try (simp only [rdT,reduceCtorEq] at h;done)
  simp only [rdT,Option.some.injEq] at h;subst h;rfl
 case l.d s d=>
  cases d <;> try (simp only [rdT,reduceCtorEq] at h;done)
  simp only [rdT] at h;obtain ⟨h1,rfl⟩:=Vz h;rw [<- Qim h1];rfl
 case x.d d=>simp only [rdT,Option.some.injEq] at h;subst h;rfl
 case ci.d k n d=>
  cases d <;> try (simp only [rdT,reduceCtorEq] at h;done)
  simp only [rdT] at h;obtain ⟨h1,rfl⟩:=Vz h;simp only [Qin,decide_eq_true_eq] at h1;rw [<- eq_of_beq h1.1,<- h1.2];simp [fiT]
 case cb.d v d=>
  cases d <;> try (simp only [rdT,reduceCtorEq] at h;done)
  simp only [rdT] at h;obtain ⟨h1,rfl⟩:=Vz h;rw [<- eq_of_beq h1];simp [fiT]
 case ct.d s d=>
  cases d <;> try (simp only [rdT,reduceCtorEq] at h;done)
  simp only [rdT] at h;obtain ⟨h1,rfl⟩:=Vz h;rw [<- AW h1];simp [fiT]
 case cl.d s d=>
  cases d <;> try (simp only [rdT,reduceCtorEq] at h;done)
  rename_i s' rows;cases rows <;> try (simp only [rdT,reduceCtorEq] at h;done)
  simp only [rdT] at h;obtain ⟨h1,rfl⟩:=Vz h;rw [<- Qim h1];simp [fiT]
 case ag.ag l l'=>simp only [rdT] at h;have:=RV l l' acc ls h;simp [fiT,this]
 case tup.tup l l'=>simp only [rdT] at h;have:=RV l l' acc ls h;simp [fiT,this]
 case fn.fn f l f' l'=>
  simp only [rdT] at h;obtain ⟨h1,h⟩:=XB h;have:=RV l l' acc ls h;rw [<- Qim h1];simp [fiT,this]
 case ptr.ptr=>
  simp only [rdT] at h;obtain ⟨h1,rfl⟩:=Vz h;simp only [Qin] at h1;rw [<- Qim h1.1,<- Qim h1.2];simp [fiT]
 case arr.arr=>
  simp only [rdT] at h;obtain ⟨h1,rfl⟩:=Vz h;rw [<- Qim h1];simp [fiT]
 case sa.sa=>
  simp only [rdT] at h;obtain ⟨h1,rfl⟩:=Vz h;simp only [Qin] at h1;rw [<- Qim h1.1,<- Qim h1.2];simp [fiT]
 case el.el=>
  simp only [rdT] at h;obtain ⟨h1,rfl⟩:=Vz h;rw [<- Qim h1];rfl
 case ap.ap=>
  simp only [rdT] at h;obtain ⟨h1,rfl⟩:=Vz h;simp only [Qin] at h1;rw [<- Qim h1.1,<- Qim h1.2];rfl
 case ac.ap=>
  simp only [rdT] at h;obtain ⟨h1,rfl⟩:=Vz h;simp only [Qin] at h1;rw [<- Qim h1.1.1,<- Qim h1.1.2,<- Qim h1.2];simp [fiT]
 case fs.fs=>
  simp only [rdT] at h;obtain ⟨h1,rfl⟩:=Vz h;rw [<- Qim h1];rfl
 case mpd.mpd=>simp only [rdT,Option.some.injEq] at h;subst h;rfl
 case gd.gd ti w a ti' w' a'=>
  simp only [rdT] at h;obtain ⟨h1,h⟩:=XB h;simp only [Qin] at h1;have:=Q0N a a' acc ls h;rw [<- Qim h1.1,<- eq_of_beq h1.2];simp [fiT,this]
theorem RV:∀ (ta:List TA) (a:List AV) (acc ls:List Lf),Q9s ta a acc=some ls->Q6T ta ls=(a,acc):=by
 intro ta a acc ls h
 match ta,a,h with
 |[],[],h=>simp only [Q9s,Option.some.injEq] at h;subst h;simp [Q6T]
 |ta::ts,a::as,h=>
  simp only [Q9s] at h;split at h
  ·rename_i ac ha;have h1:=Q0N ta a ac ls h;have h2:=RV ts as acc ac ha;simp [Q6T,h1,h2]
  ·cases h
 |[],_::_,h=>simp [Q9s] at h
 |_::_,[],h=>simp [Q9s] at h
end
abbrev tI:TA:=.i .i64
inductive TO where
 |box (l:List TA)
 |arr (e s:Nat)
 |arc (e s:Nat)
 |mp (t:Nat)
structure TS where
 n:Nat
 tm:List (Nat × TA)
 h:List (Nat × TO)
def rdO:TO->Ob->List Lf->Option (List Lf)
 |.box l,.box l',acc=>Q9s l l' acc
 |.arr e s,.arr e' s' r,acc=>oB (Nat.beq e e'&&Nat.beq s s') (.L r::acc)
 |.arc e s,.arr e' s' [],acc=>oB (Nat.beq e e'&&Nat.beq s s') acc
 |.mp e,.mp e' f,acc=>oB (Nat.beq e e') (.P f::acc)
 |_,_,_=>none
def fiO:TO->List Lf->Ob × List Lf
 |.box l,r=>(.box (Q6T l r).1,(Q6T l r).2)
 |.arr e s,.L x::r=>(.arr e s x,r)
 |.arr e s,r=>(.arr e s [],r)
 |.arc e s,r=>(.arr e s [],r)
 |.mp e,.P x::r=>(.mp e x,r)
 |.mp e,r=>(.mp e fun _=>false,r)
def rdM:List (Nat × TA)->List (Nat × AV)->List Lf->Option (List Lf)
 |[],[],acc=>some acc
 |(i,a)::r,(j,b)::s,acc=>bif Nat.beq i j then match rdM r s acc with
  |some ac=>rdT a b ac
  |none=>none
  else none
 |_,_,_=>none
def fiM:List (Nat × TA)->List Lf->List (Nat × AV) × List Lf
 |[],r=>([],r)
 |(i,a)::l,r=>((i,(fiT a r).1)::(fiM l (fiT a r).2).1,(fiM l (fiT a r).2).2)
def rdH:List (Nat × TO)->List (Nat × Ob)->List Lf->Option (List Lf)
 |[],[],acc=>some acc
 |(i,a)::r,(j,b)::s,acc=>bif Nat.beq i j then match rdH r s acc with
  |some ac=>rdO a b ac
  |none=>none
  else none
 |_,_,_=>none
def fiH:List (Nat × TO)->List Lf->List (Nat × Ob) × List Lf
 |[],r=>([],r)
 |(i,a)::l,r=>((i,(fiO a r).1)::(fiH l (fiO a r).2).1,(fiH l (fiO a r).2).2)
def rdS (Z:TS) (st:St):Option (List Lf):=bif Nat.beq Z.n st.n then match rdH Z.h st.h [] with
  |some acc=>rdM Z.tm st.tm acc
  |none=>none
 else none
def fiS (Z:TS) (l:List Lf):St:=⟨Z.n,(fiM Z.tm l).1,(fiH Z.h (fiM Z.tm l).2).1⟩
theorem Qav {z:TO} {o:Ob} {acc ls:List Lf} (h:rdO z o acc=some ls):fiO z ls=(o,acc):=by
 cases z <;> cases o <;> try (simp only [rdO,reduceCtorEq] at h;done)
 case box.box=>simp only [rdO] at h;simp [fiO,RV _ _ _ _ h]
 case arr.arr=>
  simp only [rdO] at h;obtain ⟨h1,rfl⟩:=Vz h;simp only [Qin] at h1;rw [<- Qim h1.1,<- Qim h1.2];rfl
 case arc.arr e s e' s' r=>
  cases r <;> try (simp only [rdO,reduceCtorEq] at h;done)
  simp only [rdO] at h;obtain ⟨h1,rfl⟩:=Vz h;simp only [Qin] at h1;rw [<- Qim h1.1,<- Qim h1.2];simp [fiO]
 case mp.mp=>
  simp only [rdO] at h;obtain ⟨h1,rfl⟩:=Vz h;rw [<- Qim h1];rfl
theorem Q5D:∀ {z:List (Nat × TA)} {l:List (Nat × AV)} {acc ls:List Lf},rdM z l acc=some ls->fiM z ls=(l,acc)
 |[],[],acc,ls,h=>by simp only [rdM,Option.some.injEq] at h;subst h;rfl
 |(i,a)::r,(j,b)::s,acc,ls,h=>by
  simp only [rdM] at h;obtain ⟨h1,h⟩:=XB h;split at h
  ·rename_i ac ha;simp [fiM,Q0N _ _ _ _ h,Q5D ha,Qim h1]
  ·cases h
 |[],_::_,_,_,h=>by simp [rdM] at h
 |_::_,[],_,_,h=>by simp [rdM] at h
theorem Q5h:∀ {z:List (Nat × TO)} {l:List (Nat × Ob)} {acc ls:List Lf},rdH z l acc=some ls->fiH z ls=(l,acc)
 |[],[],acc,ls,h=>by simp only [rdH,Option.some.injEq] at h;subst h;rfl
 |(i,a)::r,(j,b)::s,acc,ls,h=>by
  simp only [rdH] at h;obtain ⟨h1,h⟩:=XB h;split at h
  ·rename_i ac ha;simp [fiH,Qav h,Q5h ha,Qim h1]
  ·cases h
 |[],_::_,_,_,h=>by simp [rdH] at h
 |_::_,[],_,_,h=>by simp [rdH] at h
theorem Q5Z {Z:TS} {st:St} {ls:List Lf} (h:rdS Z st=some ls):fiS Z ls=st:=by
 obtain ⟨h1,h⟩:=XB h;split at h
 ·rename_i acc ha;simp only [fiS,Q5D h,Q5h ha,Qim h1]
 ·cases h
def Lp (C:VC) (key:Nat) (Z:TS) (ts:List LT) (f:(R:Type)->(Exit->St->Option R)->LF ts (Option R)):Mg:=fun R st k=>
 match rdS Z (AU C key st) with
 |some ls=>apL ts (f R k) ls
 |none=>none
def mkL {P:Program} {C:VC} (hC:VCOk P C) (T:List (LpE P)) (r:Nat) (c:Code) (Z:TS) (ts:List LT) (f:Nat->(R:Type)->(Exit->St->Option R)->LF ts (Option R)) (m:Nat)
  (hr:Nat.beq r (Q7I c)=true:=by kernel_rfl) (hT:Nj T (WF c)=T.map fun e=>(e.r,e.c):=by kernel_rfl) (hn:X3 (T.map (·.r))=true:=by rfl)
  (h0:∀ R k v,apH ts (f 0 R k) v=none:=by intro R k v;rfl)
  (hs:∀ m R k v,apH ts (f (m+1) R k) v=Q6O C T c (fiS Z (toL ts v)) (lpK (Lp C (3000000000+r) Z ts (f m)) k):=by intro m R k v;kernel_rfl):LpE P where
 r:=r
 c:=c
 L:=Lp C (3000000000+r) Z ts (f m)
 t:=fun st=>(rdS Z (AU C (3000000000+r) st)).isSome
 ok:=by
  have hr:=Qim hr;have hT:=Cc hn hT;intro E R st k x h a w hR;refine wp_loop_rounds m (Q2W (fun m=>Lp C (3000000000+r) Z ts (f m)) (fun R st k=>?_) (fun m E R st k x h a w hR=>?_) m E R st k x h a w hR)
  ·show Lp C (3000000000+r) Z ts (f 0) R st k=none;cases hx:Lp C (3000000000+r) Z ts (f 0) R st k with
   |none=>rfl
   |some x=>
    unfold Lp at hx;split at hx
    ·obtain ⟨v,hv,_⟩:=NI _ _ _ _ hx;rw [h0] at hv;cases hv
    ·cases hx
  ·replace h:Lp C (3000000000+r) Z ts (f (m+1)) R st k=some x:=h
   unfold Lp at h;split at h
   ·rename_i ls an;obtain ⟨v,hv,rfl⟩:=NI _ _ _ _ h;rw [hs,Q5Z an] at hv;refine NK hC c hT _ _ x hv a w ?_;unfold AU;split
    ·exact TN _ hR
    ·exact hR
   ·cases h
def orL {P:Program} (a b:LpE P) (hc:b.c=a.c:=by kernel_rfl):LpE P where
 r:=a.r
 c:=a.c
 L:=fun R st k=>bif a.t st then a.L R st k else b.L R st k
 t:=fun st=>a.t st||b.t st
 ok:=by
  intro E R st k r h
  replace h:(bif a.t st then a.L R st k else b.L R st k)=some r:=h
  cases ht:a.t st with
  |true=>rw [ht] at h;exact a.ok E R st k r h
  |false=>rw [ht] at h;rw [<- hc];exact b.ok E R st k r h
section
variable {P:Program} {R:Type}
def prM (hl:Nat->Option Ob) (e:Nat) (av:AV) (k:Nat->(Int->Bool)->Option R):Option R:=
 match av with
 |.arr l=>match hl l with
  |some (.mp e' f)=>bif Nat.beq e' e then k l f else none
  |_=>none
 |_=>none
theorem Qfi {hl:Nat->Option Ob} {e:Nat} {av:AV} {k:Nat->(Int->Bool)->Option R} {r:R} (h:prM hl e av k=some r):∃ l f,k l f=some r/\av = .arr l/\hl l=some (.mp e f):=by
 unfold prM at h
 grind [Nat.eq_of_beq_eq_true]
def prN (av:AV) (k:Option R):Option R:=
 match av with
 |.nil=>k
 |_=>none
theorem Qfn {av:AV} {k:Option R} {r:R} (h:prN av k=some r):k=some r/\av = .nil:=by
 grind [prN]
def vfnT (C:VC) (T:List (LpE P)) (fn:Func) (args:List AV) (h:List (Nat × Ob)) (k:AV->List (Nat × Ob)->Option R):Option R:=
 bif fn.body.isSome&&(Nat.ble args.length fn.ntmps&&H5 args) then Q6O C T (VG fn) { n:=fn.ntmps,tm:=Q2K 0 args,h:=h } (fnK C.tt fn k) else none
theorem M1 {C:VC} (hC:VCOk P C) {T:List (LpE P)} {f:Nat} {fn:Func} (hf:P.funcs[f]? = some fn) (hT:Nj T (WF (VG fn))=T.map fun e=>(e.r,e.c)) (hn:X3 (T.map (·.r))=true)
  {args:List AV} {H:List (Nat × Ob)} {k:AV->List (Nat × Ob)->Option R} {r:R} (h:vfnT C T fn args H k=some r)
  (β:Nat->Option Nat) (S:Nat->Prop) (w:World) (vs:List Value) (hO:Objs β S (look H) w) (hA:ArgsRd β S (look H) w vs args):Calls P f vs.toArray w (Rk H k r β S w):=by
 obtain ⟨hb,h⟩:=XB h;simp only [Qin] at hb;obtain ⟨c,hc⟩:=QiF.1 hb.1;have ac:VG fn=c:=by grind [VG]
 rw [ac] at h hT;exact Q0B hC hf hc (by simp_all) (fun a hR=>NK hC c (Cc hn hT) _ _ r h a w ⟨β,S,hR⟩) hO hA
theorem Qag {α:Type} {K:AV->Option α} {res:α} {C:VC} (hC:VCOk P C) (T:List (LpE P)) {f:Nat} {fn:Func} {ss:List (List Nat)} {avs:List AV} {av:AV} {hl:Nat->Option Ob} {rd:List Nat}
  (h : vfnT C T fn avs [] (retF ss K) = some res) (hK : ∀ x, K x = some res -> x = av) (hf : P.funcs[f]? = some fn := by kernel_rfl) (hb : fn.body.isSome = true := by kernel_rfl) (hn : (fn.name == "runtime.NumGoroutine") = false := by kernel_rfl) (hlf : lfL avs = true := by rfl)
  (hT:Nj T (WF (VG fn))=T.map fun e=>(e.r,e.c):=by kernel_rfl) (hn2:X3 (T.map (·.r))=true:=by rfl):Zh P f avs hl ⟨av,[],rd⟩:=
 Q3X hf hb hn hlf (M1 hC hf hT hn2 h) hK
theorem Qfh {α:Type} {K:AV->List (Nat × Ob)->Option α} {res:α} {C:VC} (hC:VCOk P C) (T:List (LpE P)) {f:Nat} {fn:Func}
  {ρ ν:List (Nat × Nat)} {avs avs':List AV} {H:List (Nat × Ob)} {hl:Nat->Option Ob} {dl:Dl}
  (hc:Rh hl ρ ν=true) (hin:Qep hl H ρ)
  (h:vfnT C T fn avs' H K=some res)
  (hK:∀ av H',K av H'=some res->U4 (ρ++ν) av=dl.v/\M2 (ρ++ν) H' (ρ++ν)=dl.wr/\QaQ H' (ρ++ν)/\QdG H H' ρ)
  (hf : P.funcs[f]? = some fn := by kernel_rfl) (hb : fn.body.isSome = true := by kernel_rfl) (hn : (fn.name == "runtime.NumGoroutine") = false := by kernel_rfl)
  (hav:avs=avs'.map (U4 ρ):=by rfl) (hargs:Dd ρ avs'=true:=by rfl) (h1:X3 ((ρ++ν).map (·.1))=true:=by rfl) (hρ:X3 (ρ.map (·.1))=true:=by rfl) (hkeys:H.map (·.1)=ρ.map (·.1):=by rfl) (hwl:wrL dl=(ρ++ν).map (·.2):=by rfl)
  (hT:Nj T (WF (VG fn))=T.map fun e=>(e.r,e.c):=by kernel_rfl) (hn2:X3 (T.map (·.r))=true:=by rfl):Zh P f avs hl dl:=
 BM hf hb hn hav hargs h1 hρ hc hin hkeys hwl (M1 hC hf hT hn2 h) hK
theorem QgL {α:Type} {K:AV->List (Nat × Ob)->Option α} {res:α} {C:VC} (hC:VCOk P C) (T:List (LpE P)) {f:Nat} {fn:Func}
  {ρ ν:List (Nat × Nat)} {avs avs':List AV} {H:List (Nat × Ob)} {hl:Nat->Option Ob} {dl:Dl}
  (hav:CLeL ρ avs avs') (hc:Rh hl ρ ν=true) (hin:Qef ρ hl H ρ)
  (h:vfnT C T fn avs' H K=some res)
  (hK:∀ av H',K av H'=some res->U4 (ρ++ν) av=dl.v/\M2 (ρ++ν) H' (ρ++ν)=dl.wr/\QaQ H' ν/\Qeu H H' ρ)
  (hf : P.funcs[f]? = some fn := by kernel_rfl) (hb : fn.body.isSome = true := by kernel_rfl) (hn : (fn.name == "runtime.NumGoroutine") = false := by kernel_rfl)
  (h1:X3 ((ρ++ν).map (·.1))=true:=by rfl) (hρ:X3 (ρ.map (·.1))=true:=by rfl) (hkeys:H.map (·.1)=ρ.map (·.1):=by rfl) (hwl:wrL dl=(ρ++ν).map (·.2):=by rfl)
  (hT:Nj T (WF (VG fn))=T.map fun e=>(e.r,e.c):=by kernel_rfl) (hn2:X3 (T.map (·.r))=true:=by rfl):Zh P f avs hl dl:=
 Q0m hf hb hn hav h1 hρ hc hin hkeys hwl (M1 hC hf hT hn2 h) hK
theorem lawT {C:VC} (hC:VCOk P C) (T:List (LpE P)) {f:Nat} {fn:Func} (hf:P.funcs[f]? = some fn) {ss:List (List Nat)} {K:AV->Option Bool} (hK:∀ x,K x=some true->x = .d (.bool true))
  {ac:List AV} {args:List Value} {w:World} (hA:ArgsRd (fun _=>none) (SW w) (look ([]:List (Nat × Ob))) w args ac) (h:vfnT C T fn ac [] (retF ss K)=some true)
  (hT:Nj T (WF (VG fn))=T.map fun e=>(e.r,e.c):=by kernel_rfl) (aj:X3 (T.map (·.r))=true:=by rfl) :
  Calls P f args.toArray w fun e w'=>e = .returned (.bool true)/\RowKit.Below w.heap.size w w':=
 Q7B hK hA (M1 hC hf hT aj h)
end
inductive DK where
 |i (k:IntKind) | b | t | l (s:Nat) | x
inductive Sp where
 |d (k:DK)
 |ag (ks:List DK)
 |tup (n:Nat)
 |ptr (p n:Nat)
 |pin (p n:Nat)
 |ps (p:Nat)
 |arr (p e s:Nat)
 |mp (p t:Nat)
 |fn (f n:Nat)
 |nil
 |gone (p:Nat)
 |pinm (p t:Nat)
 |pina (p e s:Nat)
 |agn (n:Nat)
 |ah (p:Nat)
 |top
def DK.lt:DK->LT
 |.i _=>.I
 |.b=>.B
 |.t=>.T
 |.l _=>.L
 |.x=>.D
def Qhe:List DK->List LT->List LT
 |[],r=>r
 |k::ks,r=>k.lt::Qhe ks r
def lts:List Sp->List LT
 |[]=>[]
 |.d k::r=>k.lt::lts r
 |.ag ks::r=>Qhe ks (lts r)
 |.arr _ _ _::r=>.L::lts r
 |.mp _ _::r=>.P::lts r
 |.tup _::r=>lts r
 |.ptr _ _::r=>lts r
 |.pin _ _::r=>lts r
 |.ps _::r=>lts r
 |.fn _ _::r=>lts r
 |.nil::r=>lts r
 |.gone _::r=>lts r
 |.pinm _ _::r=>.P::lts r
 |.pina _ _ _::r=>.L::lts r
 |.agn _::r=>lts r
 |.ah _::r=>lts r
 |.top::r=>lts r
def HT:List LT->Type
 |[]=>Unit
 |[t]=>t.ty
 |t::u::ts=>t.ty × HT (u::ts)
def crT {β:Type}:(ts:List LT)->(HT ts->β)->LF ts β
 |[],k=>k ()
 |[_],k=>fun x=>k x
 |_::u::ts,k=>fun x=>crT (u::ts) fun r=>k (x,r)
def toT:(ts:List LT)->HT ts->List Lf
 |[],_=>[]
 |[t],v=>[Q9y t v]
 |t::u::ts,v=>Q9y t v.1::toT (u::ts) v.2
def ofT:(ts:List LT)->List Lf->Option (HT ts)
 |[],l=>match l with
  |[]=>some ()
  |_=>none
 |[t],l=>match l with
  |[x]=>Q7h t x
  |_=>none
 |t::u::ts,l=>match l with
  |x::r=>match Q7h t x,ofT (u::ts) r with
   |some a,some b=>some (a,b)
   |_,_=>none
  |_=>none
def zL:(t:LT)->t.ty
 |.I=>(0:Int)
 |.B=>false
 |.T=>([]:List UInt8)
 |.L=>([]:List (List D))
 |.R=>([]:List D)
 |.D=>D.bool false
 |.N=>(0:Nat)
 |.M=>fun _=>[]
 |.P=>fun _=>false
def zT:(ts:List LT)->HT ts
 |[]=>()
 |[t]=>zL t
 |t::u::ts=>(zL t,zT (u::ts))
theorem Q0J:∀ (ts:List LT) {l:List Lf} {v:HT ts},ofT ts l=some v->toT ts v=l
 |[],l,v,h=>by
  cases l with
  |nil=>rfl
  |cons x r=>cases h
 |[t],l,v,h=>by
  match l,h with
  |[x],h=>exact congrArg (·::[]) (RI (t:=t) h).symm
  |[],h=>cases h
  |_::_::_,h=>cases h
 |t::u::ts,l,v,h=>by
  match l,h with
  |[],h=>cases h
  |x::r,h=>
   replace h:(match Q7h t x,ofT (u::ts) r with | some a,some b=>some (a,b) | _,_=>none)=some v:=h
   split at h
   ·rename_i a b ha hb;injection h with h
    subst h;show Q9y t a::toT (u::ts) b=x::r;rw [Q0J (u::ts) hb,RI ha]
   ·cases h
section
variable {P:Program} {R:Type}
def prD (g:Bool) (k:DK) (a:AV) (K:Lf->Option R):Option R:=
 match k with
 |.i k=>prI g k a fun x=>K (.I x)
 |.b=>prB g a fun x=>K (.B x)
 |.t=>prT g a fun x=>K (.T x)
 |.l s=>prS g s a fun x=>K (.L x)
 |.x=>none
def Qd3 (g:Bool):List DK->List AV->(List Lf->Option R)->Option R
 |[],l,K=>match l with
  |[]=>K []
  |_=>none
 |k::ks,l,K=>match l with
  |a::r=>prD g k a fun x=>Qd3 g ks r fun y=>K (x::y)
  |_=>none
def rdP (g:Bool) (hl:Nat->Option Ob):List Sp->List AV->List (Nat × Nat)->(List Lf->List (Nat × Nat)->Option R)->Option R
 |[],st,ρ,K=>match st with
  |[]=>K [] ρ
  |_=>none
 |.d k::r,st,ρ,K=>match st with
  |a::st=>prD g k a fun x=>rdP g hl r st ρ fun ls ρ'=>K (x::ls) ρ'
  |_=>none
 |.ag ks::r,st,ρ,K=>match st with
  |.ag l::st=>Qd3 g ks l fun xs=>rdP g hl r st ρ fun ls ρ'=>K (xs++ls) ρ'
  |_=>none
 |.ptr p n::r,st,ρ,K=>match st with
  |.ptr l o::st=>match hl l with
   |some (.box cs)=>bif Nat.beq o 0&&Nat.beq cs.length n then rdP g hl r (cs++st) (ρ++[(p,l)]) K else none
   |_=>none
  |_=>none
 |.ps p::r,st,ρ,K=>match st with
  |.ptr l o::st=>match look ρ p with
   |some l'=>bif Nat.beq o 0&&Nat.beq l l' then rdP g hl r st ρ K else none
   |none=>none
  |_=>none
 |.arr p e s::r,st,ρ,K=>match st with
  |.arr l::st=>match hl l with
   |some (.arr e' s' rows)=>bif Nat.beq e e'&&Nat.beq s s' then rdP g hl r st (ρ++[(p,l)]) fun ls ρ'=>K (.L rows::ls) ρ' else none
   |_=>none
  |_=>none
 |.mp p t::r,st,ρ,K=>match st with
  |.arr l::st=>match hl l with
   |some (.mp t' f)=>bif Nat.beq t t' then rdP g hl r st (ρ++[(p,l)]) fun ls ρ'=>K (.P f::ls) ρ' else none
   |_=>none
  |_=>none
 |.fn f n::r,st,ρ,K=>match st with
  |.fn f' l::st=>bif Nat.beq f f'&&Nat.beq l.length n then rdP g hl r (l++st) ρ K else none
  |_=>none
 |.nil::r,st,ρ,K=>match st with
  |.nil::st=>rdP g hl r st ρ K
  |_=>none
 |.tup _::_,_,_,_=>none
 |.pin _ _::_,_,_,_=>none
 |.gone _::_,_,_,_=>none
 |.pinm _ _::_,_,_,_=>none
 |.pina _ _ _::_,_,_,_=>none
 |.agn _::_,_,_,_=>none
 |.ah _::_,_,_,_=>none
 |.top::_,_,_,_=>none
def bdD:DK->Lf->AV
 |.i k,.I x=>.d (.int k x)
 |.b,.B x=>.d (.bool x)
 |.t,.T x=>.d (.str x)
 |.l s,.L x=>.d (.sl s x)
 |.x,.D x=>.d x
 |_,_=>.top
def Q6M:List DK->List Lf->List AV × List Lf
 |[],ls=>([],ls)
 |k::ks,ls=>match ls with
  |x::r=>(bdD k x::(Q6M ks r).1,(Q6M ks r).2)
  |[]=>(.top::(Q6M ks []).1,[])
def bdS:List Sp->List Lf->List AV × List (Nat × Ob)
 |[],_=>([],[])
 |.d k::r,ls=>match ls with
  |x::ls=>(bdD k x::(bdS r ls).1,(bdS r ls).2)
  |[]=>([],[])
 |.ag ks::r,ls=>(.ag (Q6M ks ls).1::(bdS r (Q6M ks ls).2).1,(bdS r (Q6M ks ls).2).2)
 |.tup n::r,ls=>(.tup ((bdS r ls).1.take n)::(bdS r ls).1.drop n,(bdS r ls).2)
 |.ptr p n::r,ls=>(.ptr p 0::(bdS r ls).1.drop n,(p,.box ((bdS r ls).1.take n))::(bdS r ls).2)
 |.pin p n::r,ls=>((bdS r ls).1.drop n,(p,.box ((bdS r ls).1.take n))::(bdS r ls).2)
 |.ps p::r,ls=>(.ptr p 0::(bdS r ls).1,(bdS r ls).2)
 |.arr p e s::r,ls=>match ls with
  |.L x::ls=>(.arr p::(bdS r ls).1,(p,.arr e s x)::(bdS r ls).2)
  |_=>([],[])
 |.mp p t::r,ls=>match ls with
  |.P x::ls=>(.arr p::(bdS r ls).1,(p,.mp t x)::(bdS r ls).2)
  |_=>([],[])
 |.fn f n::r,ls=>(.fn f ((bdS r ls).1.take n)::(bdS r ls).1.drop n,(bdS r ls).2)
 |.nil::r,ls=>(.nil::(bdS r ls).1,(bdS r ls).2)
 |.gone _::r,ls=>bdS r ls
 |.pinm p t::r,ls=>match ls with
  |.P x::ls=>((bdS r ls).1,(p,.mp t x)::(bdS r ls).2)
  |_=>([],[])
 |.pina p e s::r,ls=>match ls with
  |.L x::ls=>((bdS r ls).1,(p,.arr e s x)::(bdS r ls).2)
  |_=>([],[])
 |.agn n::r,ls=>(.ag ((bdS r ls).1.take n)::(bdS r ls).1.drop n,(bdS r ls).2)
 |.ah p::r,ls=>(.arr p::(bdS r ls).1,(bdS r ls).2)
 |.top::r,ls=>(.top::(bdS r ls).1,(bdS r ls).2)
def isD:AV->Bool
 |.d _=>true
 |.nil=>true
 |.ag _=>true
 |_=>false
structure SR (ρ:List (Nat × Nat)) (a b:AV):Prop where
 d:isD b=true->lf b=true/\Dx a b
 o:isD b=false->dm ρ b=true/\a=U4 ρ b
inductive SRL (ρ:List (Nat × Nat)):List AV->List AV->Prop
 |nil:SRL ρ [] []
 |cons {a b:AV} {l r:List AV} (h:SR ρ a b) (t:SRL ρ l r):SRL ρ (a::l) (b::r)
theorem SRL.length {ρ:List (Nat × Nat)} {l r:List AV} (h:SRL ρ l r):l.length=r.length:=by induction h <;> simp [*]
theorem SRL.cle {ρ:List (Nat × Nat)} {l r:List AV} (h:SRL ρ l r):CLeL ρ l r:=by
 induction h with
 |nil=>exact .nil
 |@cons a b l r h _ ih=>
  refine .cons ?_ ih;cases hd:isD b with
  |true=>exact .data (h.d hd).1 (h.d hd).2
  |false=>exact .own (h.o hd).1 (h.o hd).2
theorem SRL.split {ρ:List (Nat × Nat)}:∀ {a b c:List AV},SRL ρ (a++b) c->SRL ρ a (c.take a.length)/\SRL ρ b (c.drop a.length)
 |[],b,c,h=>⟨by simpa using SRL.nil,by simpa using h⟩
 |x::a,b,c,h=>by
  cases h with
  |cons h t=>
   obtain ⟨h1,h2⟩:=SRL.split t;exact ⟨by simpa using SRL.cons h h1,by simpa using h2⟩
theorem SRL.own {ρ:List (Nat × Nat)} {l r:List AV} (h:SRL ρ l r) (hd:r.all (fun b=>!isD b)=true):dmL ρ r=true/\l=Q1S ρ r:=by
 induction h with
 |nil=>trivial
 |cons h _ ih=>
  simp only [List.all_cons,Qin,Qiu] at hd;obtain ⟨h1,h2⟩:=h.o hd.1
  grind [dmL,Q1S]
theorem Q0y {g:Bool} {k:DK} {a:AV} {K:Lf->Option R} {r:R} (h:prD g k a K=some r):∃ x,K x=some r/\isD (bdD k x)=true/\lf (bdD k x)=true/\(g=true->Dx a (bdD k x)):=by
 cases k with
 |i k=>obtain ⟨x,h1,h2⟩:=C8 h;exact ⟨_,h1,rfl,rfl,h2⟩
 |b=>obtain ⟨x,h1,h2⟩:=Q9Q h;exact ⟨_,h1,rfl,rfl,h2⟩
 |t=>obtain ⟨x,h1,h2⟩:=QaD h;exact ⟨_,h1,rfl,rfl,h2⟩
 |l s=>obtain ⟨x,h1,h2⟩:=WL h;exact ⟨_,h1,rfl,rfl,h2⟩
 |x=>cases h
theorem CH {g:Bool}:∀ {ks:List DK} {l:List AV} {K:List Lf->Option R} {r:R},Qd3 g ks l K=some r->∃ xs,K xs=some r/\∀ ls,(Q6M ks (xs++ls)).2=ls/\lfL (Q6M ks (xs++ls)).1=true/\(g=true->AVleL l (Q6M ks (xs++ls)).1)
 |[],l,K,r,h=>by
  cases l with
  |nil=>exact ⟨[],h,fun ls=>⟨rfl,rfl,fun _=>.nil⟩⟩
  |cons a l=>cases h
 |k::ks,l,K,r,h=>by
  cases l with
  |nil=>cases h
  |cons a l=>
   replace h:prD g k a (fun x=>Qd3 g ks l fun y=>K (x::y))=some r:=h
   obtain ⟨x,h,h1,h2,h3⟩:=Q0y h;obtain ⟨xs,h,h4⟩:=CH h;refine ⟨x::xs,h,fun ls=>?_⟩;obtain ⟨h5,h6,h7⟩:=h4 ls;exact ⟨h5,by simp [Q6M,lfL,h2,h6],fun hg=>.cons (h3 hg) (h7 hg)⟩
inductive OK where
 |box (n:Nat)
 |arr (e s:Nat)
 |mp (t:Nat)
 |gone
def Kf:List Sp->List (Nat × OK)
 |[]=>[]
 |.ptr p n::r=>(p,.box n)::Kf r
 |.pin p n::r=>(p,.box n)::Kf r
 |.arr p e s::r=>(p,.arr e s)::Kf r
 |.mp p t::r=>(p,.mp t)::Kf r
 |.gone p::r=>(p,.gone)::Kf r
 |.pinm p t::r=>(p,.mp t)::Kf r
 |.pina p e s::r=>(p,.arr e s)::Kf r
 |.agn _::r=>Kf r
 |.ah _::r=>Kf r
 |.top::r=>Kf r
 |.d _::r=>Kf r
 |.ag _::r=>Kf r
 |.tup _::r=>Kf r
 |.ps _::r=>Kf r
 |.fn _ _::r=>Kf r
 |.nil::r=>Kf r
def KOb:OK->Ob->Prop
 |.box n,.box c=>c.length=n
 |.arr e s,.arr e' s' _=>e'=e/\s'=s
 |.mp t,.mp t' _=>t'=t
 |_,_=>False
def DZ:List Sp->List Lf->Bool
 |[],_=>true
 |.d _::r,ls=>DZ r ls.tail
 |.ag ks::r,ls=>DZ r (Q6M ks ls).2
 |.arr _ _ _::r,ls=>DZ r ls.tail
 |.mp _ _::r,ls=>DZ r ls.tail
 |.fn _ n::r,ls=>((bdS r ls).1.take n).all (fun b=>!isD b)&&DZ r ls
 |.ptr _ _::r,ls=>DZ r ls
 |.pin _ _::r,ls=>DZ r ls
 |.ps _::r,ls=>DZ r ls
 |.tup _::r,ls=>DZ r ls
 |.nil::r,ls=>DZ r ls
 |.gone _::r,ls=>DZ r ls
 |.pinm _ _::r,ls=>DZ r ls.tail
 |.pina _ _ _::r,ls=>DZ r ls.tail
 |.agn _::r,ls=>DZ r ls
 |.ah _::r,ls=>DZ r ls
 |.top::r,ls=>DZ r ls
inductive HinP (ρF:List (Nat × Nat)) (hl:Nat->Option Ob):List (Nat × OK)->List (Nat × Ob)->List (Nat × Nat)->Prop
 |nil:HinP ρF hl [] [] []
 |cons {p l:Nat} {κ:OK} {o o0:Ob} {K:List (Nat × OK)} {H:List (Nat × Ob)} {ρ:List (Nat × Nat)} (h0:hl l=some o0) (h1:OLe ρF o0 o) (h2:KOb κ o) (t:HinP ρF hl K H ρ):HinP ρF hl ((p,κ)::K) ((p,o)::H) ((p,l)::ρ)
theorem Q1i {g:Bool} {hl:Nat->Option Ob}:∀ (S:List Sp) (st:List AV) (ρ:List (Nat × Nat)) (K:List Lf->List (Nat × Nat)->Option R) (r:R),rdP g hl S st ρ K=some r ->
  ∃ ls ρ',K ls (ρ++ρ')=some r/\(ρ'.map (·.1)=(Kf S).map (·.1))/\(g=true->DZ S ls=true->∀ ρF,(∀ p l,(p,l)∈ρ++ρ'->look ρF p=some l)->SRL ρF st (bdS S ls).1/\HinP ρF hl (Kf S) (bdS S ls).2 ρ'):=by
 intro S;induction S with
 |nil=>
  intro st ρ K r h;cases st with
  |nil=>exact ⟨[],[],by rw [List.append_nil];exact h,rfl,fun _ _ ρF _=>⟨.nil,.nil⟩⟩
  |cons a st=>cases h
 |cons s S ih=>
  intro st ρ K r h;cases s with
  |d k=>
   cases st with
   |nil=>cases h
   |cons a st=>
    replace h:prD g k a (fun x=>rdP g hl S st ρ fun ls ρ'=>K (x::ls) ρ')=some r:=h
    obtain ⟨x,h,h1,h2,h3⟩:=Q0y h;obtain ⟨ls,ρ',h,hk,hc⟩:=ih st ρ _ r h;refine ⟨x::ls,ρ',h,hk,fun hg hf ρF hρ=>?_⟩;obtain ⟨c1,c2⟩:=hc hg hf ρF hρ;exact ⟨.cons ⟨fun _=>⟨h2,h3 hg⟩,fun e=>(by rw [h1] at e;cases e)⟩ c1,c2⟩
  |ag ks=>
   match st,h with
   |.ag l::st,h=>
    replace h:Qd3 g ks l (fun xs=>rdP g hl S st ρ fun ls ρ'=>K (xs++ls) ρ')=some r:=h
    obtain ⟨xs,h,hx⟩:=CH h;obtain ⟨ls,ρ',h,hk,hc⟩:=ih st ρ _ r h;obtain ⟨x1,x2,x3⟩:=hx ls;refine ⟨xs++ls,ρ',h,hk,fun hg hf ρF hρ=>?_⟩;simp only [DZ,x1] at hf;obtain ⟨c1,c2⟩:=hc hg hf ρF hρ;simp only [bdS,x1];exact ⟨.cons ⟨fun _=>⟨x2,.ag (x3 hg)⟩,fun e=>(by cases e)⟩ c1,c2⟩
  |ptr p n=>
   match st,h with
   |.ptr l o::st,h=>
    simp only [rdP] at h;split at h
    ·rename_i cs az;obtain ⟨hb,h'⟩:=XB h;simp only [Qin] at hb;have ho:=Qim hb.1;have hn:=Qim hb.2;subst ho hn;obtain ⟨ls,ρ',h,hk,hc⟩:=ih (cs++st) (ρ++[(p,l)]) _ r h';rw [List.append_assoc] at h;refine ⟨ls,(p,l)::ρ',h,by simp [Kf,hk],fun hg hf ρF hρ=>?_⟩;obtain ⟨c1,c2⟩:=hc hg hf ρF (fun a b hm=>hρ a b (by simpa using hm));obtain ⟨d1,d2⟩:=c1.split;have aj:=hρ p l (by simp);refine ⟨.cons ⟨fun e=>(by cases e),fun _=>⟨by simp [dm,aj],by simp [U4,aj]⟩⟩ d2,.cons az (.box d1.cle) ?_ c2⟩;exact d1.length.symm
    ·cases h
  |ps p=>
   match st,h with
   |.ptr l o::st,h=>
    simp only [rdP] at h;split at h
    ·rename_i l' aj;obtain ⟨hb,h'⟩:=XB h;simp only [Qin] at hb;have ho:=Qim hb.1;have hn:=Qim hb.2;subst ho hn;obtain ⟨ls,ρ',h,hk,hc⟩:=ih st ρ _ r h';refine ⟨ls,ρ',h,hk,fun hg hf ρF hρ=>?_⟩;obtain ⟨c1,c2⟩:=hc hg hf ρF hρ;have aw:=hρ p l (QiK _ (Yk aj));exact ⟨.cons ⟨fun e=>(by cases e),fun _=>⟨by simp [dm,aw],by simp [U4,aw]⟩⟩ c1,c2⟩
    ·cases h
  |arr p e s=>
   match st,h with
   |.arr l::st,h=>
    simp only [rdP] at h;split at h
    ·rename_i e' s' rows au;obtain ⟨hb,h'⟩:=XB h;simp only [Qin] at hb;have ho:=Qim hb.1;have hn:=Qim hb.2;subst ho hn;obtain ⟨ls,ρ',h,hk,hc⟩:=ih st (ρ++[(p,l)]) _ r h';rw [List.append_assoc] at h;refine ⟨.L rows::ls,(p,l)::ρ',h,by simp [Kf,hk],fun hg hf ρF hρ=>?_⟩;obtain ⟨c1,c2⟩:=hc hg hf ρF (fun a b hm=>hρ a b (by simpa using hm));have aj:=hρ p l (by simp);exact ⟨.cons ⟨fun e=>(by cases e),fun _=>⟨by simp [dm,aj],by simp [U4,aj]⟩⟩ c1,.cons au (.arr _ _ _) ⟨rfl,rfl⟩ c2⟩
    ·cases h
  |mp p t=>
   match st,h with
   |.arr l::st,h=>
    simp only [rdP] at h;split at h
    ·rename_i t' f ay;obtain ⟨hb,h'⟩:=XB h;have ho:=Qim hb;subst ho;obtain ⟨ls,ρ',h,hk,hc⟩:=ih st (ρ++[(p,l)]) _ r h';rw [List.append_assoc] at h;refine ⟨.P f::ls,(p,l)::ρ',h,by simp [Kf,hk],fun hg hf ρF hρ=>?_⟩;obtain ⟨c1,c2⟩:=hc hg hf ρF (fun a b hm=>hρ a b (by simpa using hm));have aj:=hρ p l (by simp);exact ⟨.cons ⟨fun e=>(by cases e),fun _=>⟨by simp [dm,aj],by simp [U4,aj]⟩⟩ c1,.cons ay (.mp _ _) rfl c2⟩
    ·cases h
  |fn f n=>
   match st,h with
   |.fn f' l::st,h=>
    simp only [rdP] at h;obtain ⟨hb,h'⟩:=XB h;simp only [Qin] at hb;have ho:=Qim hb.1;have hn:=Qim hb.2;subst ho hn;obtain ⟨ls,ρ',h,hk,hc⟩:=ih (l++st) ρ _ r h';refine ⟨ls,ρ',h,hk,fun hg hf ρF hρ=>?_⟩;simp only [DZ,Qin] at hf;obtain ⟨c1,c2⟩:=hc hg hf.2 ρF hρ;obtain ⟨d1,d2⟩:=c1.split;obtain ⟨e1,e2⟩:=d1.own hf.1;exact ⟨.cons ⟨fun e=>(by cases e),fun _=>⟨by simpa [dm] using e1,by simp [U4,<- e2]⟩⟩ d2,c2⟩
  |nil=>
   match st,h with
   |.nil::st,h=>
    obtain ⟨ls,ρ',h,hk,hc⟩:=ih st ρ _ r h;refine ⟨ls,ρ',h,hk,fun hg hf ρF hρ=>?_⟩;obtain ⟨c1,c2⟩:=hc hg hf ρF hρ;exact ⟨.cons ⟨fun _=>⟨rfl,.refl _⟩,fun e=>(by cases e)⟩ c1,c2⟩
  |tup n=>cases h
  |pin p n=>cases h
  |gone p=>cases h
  |pinm p t=>cases h
  |pina p e s=>cases h
  |agn n=>cases h
  |ah p=>cases h
  |top=>cases h
def Sx:List Sp->Bool
 |[]=>true
 |.d _::r=>Sx r
 |.ag _::r=>Sx r
 |.nil::r=>Sx r
 |_=>false
theorem QbK {g:Bool} {hl:Nat->Option Ob}:∀ (S:List Sp) (st:List AV) (ρ:List (Nat × Nat)) (K:List Lf->List (Nat × Nat)->Option R) (r:R),Sx S=true->rdP g hl S st ρ K=some r ->
  ∃ ls,K ls ρ=some r/\(g=true->lfL (bdS S ls).1=true/\AVleL st (bdS S ls).1):=by
 intro S;induction S with
 |nil=>
  intro st ρ K r _ h;cases st with
  |nil=>exact ⟨[],h,fun _=>⟨rfl,.nil⟩⟩
  |cons a st=>cases h
 |cons s S ih=>
  intro st ρ K r hd h;cases s with
  |d k=>
   cases st with
   |nil=>cases h
   |cons a st=>
    replace h:prD g k a (fun x=>rdP g hl S st ρ fun ls ρ'=>K (x::ls) ρ')=some r:=h
    obtain ⟨x,h,_,h2,h3⟩:=Q0y h;obtain ⟨ls,h,hc⟩:=ih st ρ _ r hd h;refine ⟨x::ls,h,fun hg=>?_⟩;obtain ⟨c1,c2⟩:=hc hg;exact ⟨by grind [bdS,lfL],.cons (h3 hg) c2⟩
  |ag ks=>
   match st,h with
   |.ag l::st,h=>
    replace h:Qd3 g ks l (fun xs=>rdP g hl S st ρ fun ls ρ'=>K (xs++ls) ρ')=some r:=h
    obtain ⟨xs,h,hx⟩:=CH h;obtain ⟨ls,h,hc⟩:=ih st ρ _ r hd h;obtain ⟨x1,x2,x3⟩:=hx ls;refine ⟨xs++ls,h,fun hg=>?_⟩;obtain ⟨c1,c2⟩:=hc hg;simp only [bdS,x1];exact ⟨by grind [lfL,lf],.cons (.ag (x3 hg)) c2⟩
  |nil=>
   match st,h with
   |.nil::st,h=>
    obtain ⟨ls,h,hc⟩:=ih st ρ _ r hd h;refine ⟨ls,h,fun hg=>?_⟩;obtain ⟨c1,c2⟩:=hc hg;exact ⟨by simp [bdS,lfL,lf,c1],.cons (.refl _) c2⟩
  |_=>cases hd
def exD:DK->AV->Option Lf
 |.i k,.d (.int k' x)=>oB (k == k') (.I x)
 |.b,.d (.bool x)=>some (.B x)
 |.t,.d (.str x)=>some (.T x)
 |.l s,.d (.sl s' x)=>oB (Nat.beq s s') (.L x)
 |.x,.d x=>some (.D x)
 |_,_=>none
def Qdd:List DK->List AV->Option (List Lf)
 |[],l=>match l with
  |[]=>some []
  |_=>none
 |k::ks,l=>match l with
  |a::r=>match exD k a,Qdd ks r with
   |some x,some xs=>some (x::xs)
   |_,_=>none
  |_=>none
theorem Q5o {k:DK} {a:AV} {x:Lf} (h:exD k a=some x):bdD k x=a:=by
 cases k <;> cases a <;> try (simp only [exD,reduceCtorEq] at h;done)
 case i.d k d=>
  cases d <;> try (simp only [exD,reduceCtorEq] at h;done)
  simp only [exD] at h;obtain ⟨h1,rfl⟩:=Vz h;rw [<- eq_of_beq h1];rfl
 case b.d d=>
  cases d <;> try (simp only [exD,reduceCtorEq] at h;done)
  simp only [exD,Option.some.injEq] at h;subst h;rfl
 case t.d d=>
  cases d <;> try (simp only [exD,reduceCtorEq] at h;done)
  simp only [exD,Option.some.injEq] at h;subst h;rfl
 case l.d s d=>
  cases d <;> try (simp only [exD,reduceCtorEq] at h;done)
  simp only [exD] at h;obtain ⟨h1,rfl⟩:=Vz h;rw [<- Qim h1];rfl
 case x.d d=>simp only [exD,Option.some.injEq] at h;subst h;rfl
theorem Q2g:∀ {ks:List DK} {l:List AV} {xs:List Lf},Qdd ks l=some xs->∀ ls,Q6M ks (xs++ls)=(l,ls)
 |[],l,xs,h,ls=>by
  cases l with
  |nil=>injection h with h;subst h;rfl
  |cons a l=>cases h
 |k::ks,l,xs,h,ls=>by
  cases l with
  |nil=>cases h
  |cons a l=>
   replace h:(match exD k a,Qdd ks l with | some x,some xs=>some (x::xs) | _,_=>none)=some xs:=h
   split at h
   ·rename_i x ys hx hy;injection h with h
    subst h;simp [Q6M,Q5o hx,Q2g hy ls]
   ·cases h
def Q32 (a:Option Lf) (b:Option (List Lf)):Option (List Lf):=match a,b with
 |some x,some r=>some (x::r)
 |_,_=>none
def Qfl (a b:Option (List Lf)):Option (List Lf):=match a,b with
 |some x,some r=>some (x++r)
 |_,_=>none
theorem PD {a:Option Lf} {b:Option (List Lf)} {l:List Lf} (h:Q32 a b=some l):∃ x r,a=some x/\b=some r/\l=x::r:=by
 cases a <;> cases b <;> simp [Q32] at h
 simp_all
theorem Q7x {a b:Option (List Lf)} {l:List Lf} (h:Qfl a b=some l):∃ x r,a=some x/\b=some r/\l=x++r:=by
 cases a <;> cases b <;> simp [Qfl] at h
 simp_all
def rdR (H:Nat->Option Ob):List Sp->List AV->Option (List Lf)
 |[],st=>match st with
  |[]=>some []
  |_=>none
 |.d k::r,st=>match st with
  |a::st=>Q32 (exD k a) (rdR H r st)
  |_=>none
 |.ag ks::r,st=>match st with
  |.ag l::st=>Qfl (Qdd ks l) (rdR H r st)
  |_=>none
 |.tup n::r,st=>match st with
  |.tup l::st=>bif Nat.beq l.length n then rdR H r (l++st) else none
  |_=>none
 |.ptr p n::r,st=>match st with
  |.ptr l o::st=>match H p with
   |some (.box cs)=>bif Nat.beq l p&&(Nat.beq o 0&&Nat.beq cs.length n) then rdR H r (cs++st) else none
   |_=>none
  |_=>none
 |.pin p n::r,st=>match H p with
  |some (.box cs)=>bif Nat.beq cs.length n then rdR H r (cs++st) else none
  |_=>none
 |.ps p::r,st=>match st with
  |.ptr l o::st=>bif Nat.beq l p&&Nat.beq o 0 then rdR H r st else none
  |_=>none
 |.arr p e s::r,st=>match st with
  |.arr l::st=>match H p with
   |some (.arr e' s' rows)=>bif Nat.beq l p&&(Nat.beq e e'&&Nat.beq s s') then Q32 (some (.L rows)) (rdR H r st) else none
   |_=>none
  |_=>none
 |.mp p t::r,st=>match st with
  |.arr l::st=>match H p with
   |some (.mp t' f)=>bif Nat.beq l p&&Nat.beq t t' then Q32 (some (.P f)) (rdR H r st) else none
   |_=>none
  |_=>none
 |.fn f n::r,st=>match st with
  |.fn f' l::st=>bif Nat.beq f f'&&Nat.beq l.length n then rdR H r (l++st) else none
  |_=>none
 |.nil::r,st=>match st with
  |.nil::st=>rdR H r st
  |_=>none
 |.gone p::r,st=>match H p with
  |none=>rdR H r st
  |_=>none
 |.pinm p t::r,st=>match H p with
  |some (.mp t' f)=>bif Nat.beq t t' then Q32 (some (.P f)) (rdR H r st) else none
  |_=>none
 |.pina p e s::r,st=>match H p with
  |some (.arr e' s' rows)=>bif Nat.beq e e'&&Nat.beq s s' then Q32 (some (.L rows)) (rdR H r st) else none
  |_=>none
 |.agn n::r,st=>match st with
  |.ag l::st=>bif Nat.beq l.length n then rdR H r (l++st) else none
  |_=>none
 |.ah p::r,st=>match st with
  |.arr l::st=>bif Nat.beq l p then rdR H r st else none
  |_=>none
 |.top::r,st=>match st with
  |.top::st=>rdR H r st
  |_=>none
inductive RPr (Hf:Nat->Option Ob):List (Nat × OK)->List (Nat × Ob)->Prop
 |nil:RPr Hf [] []
 |gone {p:Nat} {K:List (Nat × OK)} {H:List (Nat × Ob)} (h:Hf p=none) (t:RPr Hf K H):RPr Hf ((p,.gone)::K) H
 |cons {p:Nat} {κ:OK} {o:Ob} {K:List (Nat × OK)} {H:List (Nat × Ob)} (h:Hf p=some o) (hk:KOb κ o) (t:RPr Hf K H):RPr Hf ((p,κ)::K) ((p,o)::H)
theorem LM {α:Type} {a b c:List α} (h:c=a++b) {n:Nat} (hn:a.length=n):c.take n=a/\c.drop n=b:=by
 simp_all
theorem Q5j {H:Nat->Option Ob}:∀ (S:List Sp) (st:List AV) (ls:List Lf),rdR H S st=some ls->(bdS S ls).1=st/\RPr H (Kf S) (bdS S ls).2:=by
 intro S;induction S with
 |nil=>
  intro st ls h;cases st with
  |nil=>injection h with h;subst h;exact ⟨rfl,.nil⟩
  |cons a st=>cases h
 |cons s S ih=>
  intro st ls h;cases s with
  |d k=>
   cases st with
   |nil=>cases h
   |cons a st=>
    obtain ⟨x,r,h1,h2,rfl⟩:=PD (show Q32 (exD k a) (rdR H S st)=some ls from h);obtain ⟨i1,i2⟩:=ih st r h2;exact ⟨by grind [bdS,Q5o],i2⟩
  |ag ks=>
   match st,h with
   |.ag l::st,h=>
    obtain ⟨x,r,h1,h2,rfl⟩:=Q7x (show Qfl (Qdd ks l) (rdR H S st)=some ls from h);obtain ⟨i1,i2⟩:=ih st r h2;have:=Q2g h1 r
    grind [bdS,Kf]
  |tup n=>
   match st,h with
   |.tup l::st,h=>
    obtain ⟨hb,h2⟩:=XB (show (bif Nat.beq l.length n then rdR H S (l++st) else none)=some ls from h);obtain ⟨i1,i2⟩:=ih _ _ h2;obtain ⟨j1,j2⟩:=LM i1 (Qim hb);exact ⟨by simp [bdS,j1,j2],i2⟩
  |ptr p n=>
   match st,h with
   |.ptr l o::st,h=>
    simp only [rdR] at h;split at h
    ·rename_i cs ao;obtain ⟨hb,h2⟩:=XB h;simp only [Qin] at hb;obtain ⟨i1,i2⟩:=ih _ _ h2;have hn:=Qim hb.2.2;obtain ⟨j1,j2⟩:=LM i1 hn;refine ⟨by simp [bdS,j2,Qim hb.1,Qim hb.2.1],?_⟩;simp only [bdS,Kf,j1];exact .cons ao hn i2
    ·cases h
  |pin p n=>
   simp only [rdR] at h;split at h
   ·rename_i cs ao;obtain ⟨hb,h2⟩:=XB h;obtain ⟨i1,i2⟩:=ih _ _ h2;have hn:=Qim hb;obtain ⟨j1,j2⟩:=LM i1 hn;refine ⟨by simp [bdS,j2],?_⟩;simp only [bdS,Kf,j1];exact .cons ao hn i2
   ·cases h
  |ps p=>
   match st,h with
   |.ptr l o::st,h=>
    obtain ⟨hb,h2⟩:=XB (show (bif Nat.beq l p&&Nat.beq o 0 then rdR H S st else none)=some ls from h);simp only [Qin] at hb;obtain ⟨i1,i2⟩:=ih _ _ h2;exact ⟨by simp [bdS,i1,Qim hb.1,Qim hb.2],i2⟩
  |arr p e s=>
   match st,h with
   |.arr l::st,h=>
    simp only [rdR] at h;split at h
    ·rename_i e' s' rows an;obtain ⟨hb,h2⟩:=XB h;simp only [Qin] at hb;obtain ⟨x,r,h1,h3,rfl⟩:=PD h2;injection h1 with h1
     subst h1;obtain ⟨i1,i2⟩:=ih _ _ h3;have e1:=Qim hb.2.1;have e2:=Qim hb.2.2;subst e1 e2;exact ⟨by simp [bdS,i1,Qim hb.1],.cons an ⟨rfl,rfl⟩ i2⟩
    ·cases h
  |mp p t=>
   match st,h with
   |.arr l::st,h=>
    simp only [rdR] at h;split at h
    ·rename_i t' f hf;obtain ⟨hb,h2⟩:=XB h;simp only [Qin] at hb;obtain ⟨x,r,h1,h3,rfl⟩:=PD h2;injection h1 with h1
     subst h1;obtain ⟨i1,i2⟩:=ih _ _ h3;have e1:=Qim hb.2;subst e1;exact ⟨by simp [bdS,i1,Qim hb.1],.cons hf rfl i2⟩
    ·cases h
  |fn f n=>
   match st,h with
   |.fn f' l::st,h=>
    obtain ⟨hb,h2⟩:=XB (show (bif Nat.beq f f'&&Nat.beq l.length n then rdR H S (l++st) else none)=some ls from h);simp only [Qin] at hb;obtain ⟨i1,i2⟩:=ih _ _ h2;obtain ⟨j1,j2⟩:=LM i1 (Qim hb.2);exact ⟨by simp [bdS,j1,j2,Qim hb.1],i2⟩
  |nil=>
   match st,h with
   |.nil::st,h=>
    obtain ⟨i1,i2⟩:=ih _ _ (show rdR H S st=some ls from h);exact ⟨by simp [bdS,i1],i2⟩
  |gone p=>
   simp only [rdR] at h;split at h
   ·rename_i hp;obtain ⟨i1,i2⟩:=ih _ _ h;exact ⟨i1,.gone hp i2⟩
   ·cases h
  |pinm p t=>
   simp only [rdR] at h;split at h
   ·rename_i t' f hf;obtain ⟨hb,h2⟩:=XB h;obtain ⟨x,r,h1,h3,rfl⟩:=PD h2;injection h1 with h1
    subst h1;obtain ⟨i1,i2⟩:=ih _ _ h3;have e1:=Qim hb;subst e1;exact ⟨i1,.cons hf rfl i2⟩
   ·cases h
  |pina p e s=>
   simp only [rdR] at h;split at h
   ·rename_i e' s' rows hf;obtain ⟨hb,h2⟩:=XB h;simp only [Qin] at hb;obtain ⟨x,r,h1,h3,rfl⟩:=PD h2;injection h1 with h1
    subst h1;obtain ⟨i1,i2⟩:=ih _ _ h3;have e1:=Qim hb.1;have e2:=Qim hb.2;subst e1 e2;exact ⟨i1,.cons hf ⟨rfl,rfl⟩ i2⟩
   ·cases h
  |agn n=>
   match st,h with
   |.ag l::st,h=>
    obtain ⟨hb,h2⟩:=XB (show (bif Nat.beq l.length n then rdR H S (l++st) else none)=some ls from h);obtain ⟨i1,i2⟩:=ih _ _ h2;obtain ⟨j1,j2⟩:=LM i1 (Qim hb);exact ⟨by simp [bdS,j1,j2],i2⟩
  |ah p=>
   match st,h with
   |.arr l::st,h=>
    obtain ⟨hb,h2⟩:=XB (show (bif Nat.beq l p then rdR H S st else none)=some ls from h);obtain ⟨i1,i2⟩:=ih _ _ h2;exact ⟨by simp [bdS,i1,Qim hb],i2⟩
  |top=>
   match st,h with
   |.top::st,h=>
    obtain ⟨i1,i2⟩:=ih _ _ (show rdR H S st=some ls from h);exact ⟨by simp [bdS,i1],i2⟩
theorem RPr.keys {Hf:Nat->Option Ob} {K:List (Nat × OK)} {H:List (Nat × Ob)} (h:RPr Hf K H) {p:Nat} (hp:Pr p (K.map (·.1))=false):look H p=none:=by
 induction h with
 |nil=>rfl
 |gone h _ ih=>simp_all [Qiw,Pr,Qiy]
 |cons h _ _ ih=>
  simp_all [Qiw,Pr,Qiy,look]
theorem Q4m {α:Type} {p:Nat} {κ:α}:∀ {K:List (Nat × α)},(p,κ)∈K->Pr p (K.map (·.1))=true
 |(q,_)::K,h=>by
  rcases Qiq.1 h with h | h
  ·injection h with h _;simp [Pr,h,QiM]
  ·simp [Pr,Q4m h]
theorem RPr.at {Hf:Nat->Option Ob} {K:List (Nat × OK)} {H:List (Nat × Ob)} (h:RPr Hf K H) (hn:X3 (K.map (·.1))=true) {p:Nat} {κ:OK} (hm:(p,κ)∈K) :
  look H p=Hf p/\((κ = .gone/\Hf p=none)\/∃ o,Hf p=some o/\KOb κ o):=by
 induction h with
 |nil=>cases hm
 |@gone q K H h t ih=>
  simp only [Qiw,X3,Qin,Qiu] at hn;rcases Qiq.1 hm with e | hm
  ·injection e with e1 e2
   subst e1 e2;exact ⟨(t.keys hn.1).trans h.symm,.inl ⟨rfl,h⟩⟩
  simp_all
 |@cons q κ' o K H h hk t ih=>
  simp only [Qiw,X3,Qin,Qiu] at hn
  grind [look,Nat.beq_refl,Nat.beq,Qcb,Q4m]
theorem HinP.map1 {ρF:List (Nat × Nat)} {hl:Nat->Option Ob} {K:List (Nat × OK)} {H:List (Nat × Ob)} {ρ:List (Nat × Nat)} (h:HinP ρF hl K H ρ):H.map (·.1)=ρ.map (·.1)/\K.map (·.1)=ρ.map (·.1):=by
 induction h with
 |nil=>simp_all
 |cons _ _ _ _ ih=>simp_all
theorem HinP.at {ρF:List (Nat × Nat)} {hl:Nat->Option Ob} {K:List (Nat × OK)} {H:List (Nat × Ob)} {ρ:List (Nat × Nat)} (h:HinP ρF hl K H ρ) (hn:X3 (ρ.map (·.1))=true) {p l:Nat} (hm:(p,l)∈ρ) :
  ∃ κ o o0,(p,κ)∈K/\look H p=some o/\hl l=some o0/\OLe ρF o0 o/\KOb κ o:=by
 induction h with
 |nil=>cases hm
 |@cons q l' κ o o0 K H ρ h0 h1 h2 t ih=>
  simp only [Qiw,X3,Qin,Qiu] at hn
  grind [List.mem_cons_self,look,Nat.beq_refl,List.mem_cons_of_mem,Nat.beq,Qcb,Q4m]
def kE (RS:List Sp):AV->Option (HT (lts RS)):=fun av=>match rdR (fun _=>none) RS [av] with
 |some ls=>ofT _ ls
 |none=>none
def kG (RS:List Sp):AV->List (Nat × Ob)->Option (HT (lts RS)):=fun av H=>match rdR (look H) RS [av] with
 |some ls=>ofT _ ls
 |none=>none
def Qhy (S RS:List Sp) (f:LF (lts S) (Option (HT (lts RS)))):TK:=fun _ _ g ac hl k=>
 rdP g hl S ac [] fun ls _=>gb g (apL (lts S) f ls) (zT _) fun r=>k ⟨(bdS RS (toT _ r)).1.headD .top,[],[]⟩
def nus (ac:Nat):Nat->List Nat->List (Nat × Nat)
 |_,[]=>[]
 |i,m::r=>(m,ac+50000*i)::nus ac (i+1) r
structure EnP (P:Program) (f:Nat) where
 E:TK
 ok:Ve P f E
theorem QcP {C:VC} (hC:VCOk P C) (T:List (LpE P)) {f:Nat} (fn:Func) (ss:List (List Nat)) (S RS:List Sp) (p:LF (lts S) (Option (HT (lts RS))))
  (h : ∀ v, vfnT C T fn (bdS S (toL _ v)).1 [] (retF ss (kE RS)) = apH _ p v) (hd : Sx S = true) (hf : P.funcs[f]? = some fn) (hb : fn.body.isSome = true) (hn : (fn.name == "runtime.NumGoroutine") = false)
  (hT:Nj T (WF (VG fn))=T.map fun e=>(e.r,e.c)) (hn2:X3 (T.map (·.r))=true):Ve P f (Qhy S RS p):=by
 intro R site g avs hl k r h0;obtain ⟨ls,h1,hc⟩:=QbK S avs [] _ r hd h0;obtain ⟨res,h1,hres⟩:=QM h1;refine ⟨_,h1,fun hg=>?_⟩;obtain ⟨v,hv,rfl⟩:=NI _ _ _ _ (hres hg);obtain ⟨c1,c2⟩:=hc hg;refine Zh.conv c2 (Qag (K:=kE RS) hC T (fn:=fn) (ss:=ss) ((h v).trans hv) (fun x hx=>?_) hf hb hn c1 hT hn2)
 unfold kE at hx;split at hx
 ·rename_i ls' hls;obtain ⟨i1,_⟩:=Q5j _ _ _ hls
  grind [Q0J]
 ·cases hx
theorem C7 (ac:Nat):∀ (i:Nat) (ν:List Nat),(nus ac i ν).map (·.1)=ν
 |_,[]=>rfl
 |i,m::r=>by simp [nus,C7 ac (i+1) r]
theorem Lg {α:Type} {p:Nat}:∀ {K:List (Nat × α)},Pr p (K.map (·.1))=true->∃ κ,(p,κ)∈K
 |(q,κ)::K,h=>by
  simp only [Qiw,Pr,QiB] at h;rcases h with h | h
  ·exact ⟨κ,by rw [Qim h];exact QiE ..⟩
  ·obtain ⟨κ',hk⟩:=Lg h;exact ⟨κ',Qiz _ hk⟩
def QaE {R:Type} (g:Bool) (H:List (Nat × Ob)):List (Nat × Ob)->Option R->Option R
 |[],x=>x
 |(p,.arr _ _ ac)::r,x=>match look H p with
  |some (.arr _ _ rows)=>gb g (Hg ac (List.length rows)) () fun _=>QaE g H r x
  |_=>QaE g H r x
 |_::r,x=>QaE g H r x
theorem Ha {R:Type} {g:Bool} {H:List (Nat × Ob)} {x:Option R} {z:R}:∀ {H':List (Nat × Ob)},QaE g H H' x=some z->x=some z/\(g=true->∀ (p e s:Nat) (ac:List (List D)) (e0 s0:Nat) (rows:List (List D)),(p,Ob.arr e s ac)∈H'->look H p=some (.arr e0 s0 rows)->ac.length=rows.length)
 |[],h=>⟨h,fun _ _ _ _ _ _ _ _ h=>(nomatch h)⟩
 |(q,.arr e1 s1 ao)::r,h=>by
  unfold QaE at h;split at h
  ·rename_i e2 s2 aq hq;obtain ⟨_,h,hl⟩:=QM h;obtain ⟨h1,h2⟩:=Ha h;refine ⟨h1,fun hg p e s ac e0 s0 rows hm hp=>?_⟩;rcases Qiq.1 hm with hm | hm
   ·injection hm with e1 e2
    injection e2 with _ _ e3
    subst e1 e3;rw [hq] at hp;injection hp with hp
    injection hp with _ _ hp
    subst hp;exact Q01 (hl hg)
   ·exact h2 hg p e s ac e0 s0 rows hm hp
  ·rename_i hq;obtain ⟨h1,h2⟩:=Ha h;refine ⟨h1,fun hg p e s ac e0 s0 rows hm hp=>?_⟩;rcases Qiq.1 hm with hm | hm
   ·injection hm with e1 _
    subst e1;exact absurd hp (hq _ _ _)
   ·exact h2 hg p e s ac e0 s0 rows hm hp
 |(q,.box c)::r,h=>by
  obtain ⟨h1,h2⟩:=Ha (H':=r) h;refine ⟨h1,fun hg p e s ac e0 s0 rows hm hp=>?_⟩;rcases Qiq.1 hm with hm | hm
  ·cases hm
  ·exact h2 hg p e s ac e0 s0 rows hm hp
 |(q,.mp _ _)::r,h=>by
  obtain ⟨h1,h2⟩:=Ha (H':=r) h;refine ⟨h1,fun hg p e s ac e0 s0 rows hm hp=>?_⟩;rcases Qiq.1 hm with hm | hm
  ·cases hm
  ·exact h2 hg p e s ac e0 s0 rows hm hp
def Qdv:OK->Bool
 |.gone=>true
 |_=>false
def QgH:OK->OK->Bool
 |.box n,.box m=>Nat.beq m n
 |.arr _ _,.gone=>true
 |.arr e s,.arr e' s'=>Nat.beq e e'&&Nat.beq s s'
 |.mp t,.mp t'=>Nat.beq t t'
 |.mp _,.gone=>true
 |_,_=>false
def Av (S RS:List Sp) (ν:List Nat):Bool:=
 X3 ((Kf S).map (·.1)++ν)&&(X3 ((Kf S).map (·.1))&&((Kf S).all (fun x=>Nat.ble 1000000 x.1)&&(X3 ((Kf RS).map (·.1)) &&
  ((Kf S).all (fun x=>Pr x.1 ((Kf RS).map (·.1))&&(Kf RS).all fun y=>!(Nat.beq y.1 x.1)||QgH x.2 y.2)&&ν.all (fun m=>Pr m ((Kf RS).map (·.1))&&(Kf RS).all fun y=>!(Nat.beq y.1 m)||!(Qdv y.2))))))
theorem Bx {σ:List (Nat × Nat)} {H H':List (Nat × Ob)}:∀ {τ:List (Nat × Nat)},(∀ j l,(j,l)∈τ->look H j=look H' j)->M2 σ H τ=M2 σ H' τ
 |[],_=>rfl
 |(j,l)::r,h=>by
  simp only [M2];rw [h j l (QiE ..),Bx fun a b hm=>h a b (Qiz _ hm)]
theorem Q8S {H:List (Nat × Ob)}:∀ {τ:List (Nat × Nat)},(∀ j l,(j,l)∈τ->(look H j).isSome=true)->QaQ H τ
 |[],_=>trivial
 |(j,l)::r,h=>⟨h j l (QiE ..),Q8S fun a b hm=>h a b (Qiz _ hm)⟩
theorem Q7n {H H':List (Nat × Ob)}:∀ {τ:List (Nat × Nat)},(∀ j l,(j,l)∈τ->Q1h (look H j) (look H' j))->Qeu H H' τ
 |[],_=>trivial
 |(j,l)::r,h=>⟨h j l (QiE ..),Q7n fun a b hm=>h a b (Qiz _ hm)⟩
theorem Q7m {ρ0:List (Nat × Nat)} {hl:Nat->Option Ob} {H:List (Nat × Ob)}:∀ {τ:List (Nat × Nat)},(∀ j l,(j,l)∈τ->1000000<=j/\∃ o o',hl l=some o/\look H j=some o'/\OLe ρ0 o o')->Qef ρ0 hl H τ
 |[],_=>trivial
 |(j,l)::r,h=>⟨h j l (QiE ..),Q7m fun a b hm=>h a b (Qiz _ hm)⟩
def Q73 {f:Nat} (b:EnP P f):EnP P f where
 E:=fun R ac g aj hl k=>match aj with
  |[.gd _ _ .nil]=>bif g then none else k ⟨.nil,[],[]⟩
  |_=>b.E R ac g aj hl k
 ok:=by
  intro R ac g aj hl k r h;dsimp only at h;split at h
  ·exact Q8h h
  ·exact b.ok R ac g aj hl k r h
end
abbrev qI:DK:=.i .i64
abbrev qB:DK:=.b
abbrev qT:DK:=.t
abbrev qX:DK:=.x
abbrev qL (n:Nat):DK:=.l n
abbrev eA (l:List DK):Sp:=.ag l
abbrev eP (p n:Nat):Sp:=.ptr p n
abbrev eI (p n:Nat):Sp:=.pin p n
abbrev eS (p:Nat):Sp:=.ps p
abbrev eR (p e s:Nat):Sp:=.arr p e s
abbrev eM (p t:Nat):Sp:=.mp p t
abbrev eF (f n:Nat):Sp:=.fn f n
abbrev eN:Sp:=.nil
abbrev eU:Sp:=.top
abbrev eG (p:Nat):Sp:=.gone p
abbrev eT (n:Nat):Sp:=.tup n
abbrev eH (p:Nat):Sp:=.ah p
abbrev eK (p e s:Nat):Sp:=.pina p e s
abbrev eO (n:Nat):Sp:=.agn n
abbrev sI:Sp:=.d (.i .i64)
abbrev sB:Sp:=.d .b
abbrev sT:Sp:=.d .t
abbrev sL (n:Nat):Sp:=.d (.l n)
end Go.Vx
