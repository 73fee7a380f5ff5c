/- Part of a proof. No conditions of their own. -/
import Derived.Test.YtnfomkijfeokoaaGreatTA
import Derived.Lib.AppendZeros
import Derived.LoopN
import Derived.ProofKit
import Derived.ChangeOld
import Derived.Carry
import Derived.ChangeArms
import Derived.WideShapes
import Derived.IntWalk
import Derived.KernelRfl
set_option linter.unusedVariables false
set_option linter.unusedSimpArgs false
noncomputable section
abbrev QoD:=@Nat.eq_of_beq_eq_true
abbrev QoE:=@Bool.and_eq_true
abbrev QoF:=@Option.map_eq_some_iff
abbrev QoG:=@List.getElem?_eq_some_iff
abbrev QoH:=@List.getElem?_eq_getElem
abbrev QoI:=@Go.Result.andThen_ok
abbrev QoJ:=@cond_true
abbrev QoK:=@List.mem_cons
abbrev QoL:=@Bool.not_eq_true'
abbrev QoM:=@Go.Sem.run_bind
abbrev QoN:=@Array.getElem?_eq_some_iff
abbrev QoO:=@List.getElem?_drop
abbrev QoP:=@Nat.zero_add
abbrev QoQ:=@Array.getElem?_eq_getElem
abbrev QoR:=@List.map_cons
abbrev QoS:=@Bool.or_eq_true
abbrev QoT:=@Option.isSome_iff_exists
abbrev QoU:=@cond_false
abbrev QoV:=@Bool.or_eq_false_iff
abbrev QoW:=@if_neg
abbrev QoX:=@List.mem_map
abbrev QoY:=@Array.getElem?_toList
abbrev QoZ:=@List.getElem?_eq_none
abbrev Qp0:=@Nat.le_of_ble_eq_true
namespace Go.Vx
variable {hl:Nat->oP Ob} {ev:Operand->AV} {o:Oper} {tt:TT} {x:Operand}
section
variable {P:Program} {E:Env} {R:Type}
theorem Q3C (hT:TOk P tt) {c:Call} {s x:Operand} {t tn:Nat} (ho:o.op = .call c) (ay:c.callee = .builtin .append) (ha:c.args.toList=[s,x]) (hat:c.argTypes.toList=[t,tn]) {g:Bool} {ak:Nat} {k:Dl->oP R} {r:R}
  (h:Q2g tt hl ak g t tn (ev s) (ev x) k=some r):∃ dl,k dl=some r/\(g=true->KE P E o ev hl dl):=by
 have ao:c.args = #[s,x]:=by grind
 have bb:c.argTypes = #[t,tn]:=by grind
 have bv:s∈o.op.operands.toList:=by grind [Op.operands,Call.operands]
 have bn:x∈o.op.operands.toList:=by simp [ho,Op.operands,Call.operands,ay,ao]
 unfold Q2g at h;split at h
 case h_2=>cases h
 rename_i e ar kn kx n hk bi bp b0;split at h
 case h_2=>cases h
 rename_i ei aq;cases hc:(Nat.ble 1 ei.bytes&&Nat.beq (Mc tt e).length ar) with
 |false=>simp_all
 |true=>
  simp only [hc,QoJ] at h;simp only [QoE] at hc;have au:=Qp0 hc.1;have az:=QoD hc.2;have bx:Mc tt e=ei.zd:=by simp [Mc,aq]
  rw [bx] at az h;obtain ⟨_,h,a3⟩:=X6 h;obtain ⟨_,h,ac⟩:=X6 h;obtain ⟨hn,h⟩:=Vn h;refine ⟨_,h,fun hg=>?_⟩;have ac:=M8 (ac hg);have a3:0<n:=by
   have:=a3 hg;cases hd:decide (0<n) with
   |true=>simpa using hd
   |false=>simp [hd] at this
  obtain ⟨ti,bz,bo⟩:=XR hk Q2;obtain ⟨hu,b6,inf,ax,a5⟩:=(hT t ti bz).ksl _ _ bo;obtain ⟨bq,bh,bg⟩:=XR bi Q2;have b1:=(hT tn bq bh).kint _ bg;obtain ⟨b3,aj,a8,bk,z,hz,ba⟩:=(hT e ei aq).inf;rw [ax] at aj;injection aj with aj
  subst aj;have an:z.cells.size=ar:=by rw [<- Array.length_toList,ba,(hT e ei aq).zlen,<- a8,a5]
  obtain ⟨m,rfl⟩:=Int.eq_ofNat_of_zero_le (Int.le_of_lt a3);have bj:0<m:=Q0
  simp only [Int.toNat_natCast] at ac h ⊢;have b7:m<=140737488355328:=Nat.le_trans (by have:=Nat.mul_le_mul_left m au;omega) ac;intro β S st a w hR hO hA b2 K Q hK;have a6:look st.h ak=none:=by rw [hA ak (.inr (by simp [wrL]))];exact hn
  have bl:UY st ak=true:=by simpa [WI,a6] using b2
  have hv:=(bp▸hO.at bv).nil_inv;have hx:=(b0▸hO.at bn).int_inv;have a9:=Lib.run_append_nil_zeros (P:=P) w t tn o.type e inf z kx kn hu b1 ax hz m bj Q0 Q0 (by rw [bk];omega);have a2:(execOp a.eval o).run P w = .ok (.value (.slice (some ⟨w.heap.size,0,none⟩) m (grownCap w m 0 e))) (w.drew.alloc (.cells (Builtin.zeroCells z.cells m++Builtin.zeroCells z.cells (grownCap w m 0 e-m)) e)):=by
   unfold execOp;rw [ho];simp only [resolve,ay,ao,bb,invoke,builtin,QoM,Sem.run_pure,QoI,List.map_toArray,QoR,List.map_nil,hv,hx,a9]
  unfold Oper.wp;rw [a2];refine hK _ _ ?_;have base:Vr S w (Builtin.zeroCells z.cells m) z.cells.size (List.replicate m ei.zd):=
   Vr.zero (by rw [az,an]) (Qe0 hT aq (by rw [az,<- a8,a5]) ba) (Nat.le_refl _)
  rw [an] at base;have br:=grownCap_ge w m 0 e;have bm:grownCap w m 0 e<=maxLen:=grownCap_le_maxLen w m 0 e (by unfold maxLen;omega);have aw:(Builtin.zeroCells z.cells m).toList.length=m*ar:=by rw [Array.length_toList,size_zeroCells,an]
  have bc:(w.drew.alloc (.cells (Builtin.zeroCells z.cells m++Builtin.zeroCells z.cells (grownCap w m 0 e-m)) e)).ownsRow w.heap.size e ar (.slice (some ⟨w.heap.size,0,none⟩) m (grownCap w m 0 e)) m (Builtin.zeroCells z.cells m).toList:=by
   refine ⟨aw,.inr ⟨w.heap.size,_,_,rfl,Nat.le_refl _,heap_alloc_new w.drew _,br,bm,?_,?_⟩⟩
   ·simp only [Array.size_append,size_zeroCells,an,<- Nat.add_mul];congr 1;omega
   ·rw [Array.toList_append,<- aw];exact List.take_left
  have:=Rs (w':=w.drew.alloc (.cells (Builtin.zeroCells z.cells m++Builtin.zeroCells z.cells (grownCap w m 0 e-m)) e)) (base:=w.heap.size) (e:=e) (rows:=[]) (news:=List.replicate m ei.zd) (v:=.slice none 0 0) (xs:=[]) (vals:=(Builtin.zeroCells z.cells m).toList) (v':=.slice (some ⟨w.heap.size,0,none⟩) m (grownCap w m 0 e)) hR
   (fun i j r x h1 h2=>by rw [QoY];exact base.2.2 i j r x h1 h2) (fun i r h1=>base.2.1 i r h1) a6 bl none (fun _ h=>by cases h) (fun b h=>by simp [Value.ownBlock] at h) (fun i j r y h1=>by simp at h1) (fun i r h1=>by simp at h1) Q2
   (by simpa using bc) ⟨rfl,rfl,rfl,by simp,fun k hk _=>heap_alloc_old w.drew _ k hk⟩ (.inr fun b hb=>by simp [Value.ownBlock] at hb;omega)
  exact this
theorem Qc3 (hT:TOk P tt) {t l:Nat} {lo hi:oP Operand} (ho:o.op = .slice t x lo hi none) {u g:Bool} {aj:Nat} (br:ev x = .arr l) {k:Dl->oP R} {r:R}
  (h:Qif tt hl aj u t l (Mf ev lo) (Mf ev hi) k=some r):∃ dl,k dl=some r/\(g=true->KE P E o ev hl dl):=by
 obtain ⟨bl,ay,a2⟩:=Q3G ho;unfold Qif at h;split at h
 case h_2=>cases h
 rename_i e ac h0 hk bh bi;cases ar:(u&&decide (h0=0)) with
 |false=>simp_all
 |true=>
  simp only [ar,QoJ] at h;simp only [QoE,decide_eq_true_eq] at ar;obtain ⟨_,rfl⟩:=ar;split at h
  case h_2=>cases h
  rename_i e' s' rows ax;cases hb:(Nat.beq e e'&&Nat.beq ac s') with
  |false=>simp_all
  |true=>
   simp only [hb,QoJ] at h;simp only [QoE] at hb;obtain rfl:=QoD hb.1;obtain rfl:=QoD hb.2;obtain ⟨hn,h⟩:=Vn h;refine ⟨_,h,fun _=>?_⟩;intro β S st a w hR hO hA bb K Q hK;obtain ⟨ti,bq,bm⟩:=XR hk Q2;obtain ⟨hu,bv,inf,a7,bg⟩:=(hT t ti bq).ksl _ _ bm;have az:look st.h aj=none:=by rw [hA aj (.inr (by simp [wrL]))];exact hn
   have ak:look st.h l=some (.arr e ac rows):=by rw [hA l (.inl Q2)];exact ax
   have bk:UY st aj=true:=by simp [WI,az] at bb;exact bb
   have hq:slB rows.length none (some 0)=some (0,0):=by simp [slB]
   have ao:∀ (ad:oP Addr) (cap:Nat),rows.length<=cap->a.eval x = .slice ad rows.length cap->(execOp a.eval o).run P w = .ok (.value (.slice (if cap=0 then ad else ad.map (·.add (0*ac))) 0 cap)) w:=by
    intro ad cap hc hx;have hb:=MM (P:=P) true hc (ρ:=a.eval) (w:=w) hq (Jg bh fun y hy=>hO.at (ay y hy)) (Jg bi fun y hy=>hO.at (a2 y hy));unfold execOp;rw [ho];simp only [hx,QoM,Instr.sliceAt,X5 hu,QoI,Option.map_none];simp only [Instr.slice,QoM,X5 hu,QoI,hb,sizeOf,YI a7,bg];rfl
   have an:Src S w ac (.slice none 0 0) [] []:=⟨.inl ⟨rfl,rfl⟩,by simp,by simp,by simp,by simp⟩;have a3:∀ (base:Nat) (v v':Value),(execOp a.eval o).run P w = .ok (.value v') w->w.ownsRow base e ac v' 0 []->(∀ b,v.ownBlock=some b->β l=some b)->v'.ownBlock=v.ownBlock->o.wp P a w K Q:=by
    intro base v v' hr a8 a6 hat;unfold Oper.wp;rw [hr];refine hK _ _ ?_;exact Rs (rows:=[]) (news:=[]) (v:=v) (xs:=[]) (vals:=[]) hR an.rd an.row az bk (some l) (fun l' h=>by injection h with h;subst h;simp [ak]) (fun b h=>⟨l,rfl,a6 b h⟩) (fun i j r y h1=>by simp at h1) (fun i r h1=>by simp at h1) Q2 a8 (World.grownBy.refl _ _) (.inl hat)
   rcases RdA.arr_inv ak (br▸hO.at bl) with ⟨_,bn,hv⟩ | ⟨b,cap,cs,ty,fz,au,hv,hw,a5,aw,a9⟩
   ·subst bn;exact a3 w.heap.size (.slice none 0 0) (.slice none 0 0) (ao none 0 (Nat.le_refl _) hv) (World.ownsRow_nil w w.heap.size e ac) (fun b h=>by simp [Value.ownBlock] at h) rfl
   ·rcases hR.hr.ob l _ ak with ⟨ba,_⟩ | ⟨b2,bp,a4,aq,bx,b1,b5⟩
    ·rw [au] at ba;cases ba
    obtain rfl:b=b2:=by rw [au] at a4;injection a4
    obtain rfl:cs=bp:=by rw [hw] at aq;injection aq with h1;injection h1
    refine a3 0 (.slice (some ⟨b,0,none⟩) rows.length cap) (.slice (some ⟨b,0,none⟩) 0 cap) ?_ ⟨by simp,.inr ⟨b,cap,cs,rfl,Nat.zero_le _,aq,Nat.zero_le _,a9,a5,by simp⟩⟩ (fun b3 h=>by simp [Value.ownBlock] at h;subst h;exact au) rfl;have:=ao (some ⟨b,0,none⟩) cap aw hv;have e0:(if cap=0 then some (⟨b,0,none⟩:Addr) else (some (⟨b,0,none⟩:Addr)).map (·.add (0*ac)))=some ⟨b,0,none⟩:=by
     split
     ·rfl
     ·simp [Addr.add]
    rw [e0] at this;exact this
theorem Qc4 (hT:TOk P tt) {c:Call} {t:Nat} (ho:o.op = .call c) (hc:c.callee = .builtin .len) (ha:c.args.toList=[x]) (hat:c.argTypes.toList=[t]) {n:Int} {rd:List Nat}
  (h:Qi2 tt hl t (ev x)=some (n,rd)):KE P E o ev hl ⟨.d (.int .i64 n),[],rd⟩:=by
 have aj:x∈o.op.operands.toList:=by grind [Op.operands,Call.operands]
 unfold Qi2 at h;split at h
 ·rename_i e aw hk;split at h
  ·rename_i s rows ac;cases h;refine QE fun β S st a w hR hO hA=>?_
   obtain ⟨ad,cap,hx⟩:=(ac▸hO.at aj).d_inv.len;exact ⟨_,TD hT ho hc ha hat hk hx,.d _ _ (.int _ _)⟩
  ·rename_i ac;cases h;refine QE fun β S st a w hR hO hA=>?_
   have hx:=(ac▸hO.at aj).nil_inv;exact ⟨_,TD hT ho hc ha hat hk hx,.d _ _ (.int _ _)⟩
  ·rename_i l ac;split at h
   ·rename_i e' s rows ao;cases h;refine QE fun β S st a w hR hO hA=>?_
    have aq:look st.h l=some (.arr e' s rows):=by rw [hA l (.inl Q2)];exact ao
    rcases RdA.arr_inv aq (ac▸hO.at aj) with ⟨_,rfl,hx⟩ | ⟨b,cap,cs,ty,fz,_,hx,_⟩
    ·exact ⟨_,TD hT ho hc ha hat hk hx,.d _ _ (.int _ _)⟩
    ·exact ⟨_,TD hT ho hc ha hat hk hx,.d _ _ (.int _ _)⟩
   ·cases h
  ·cases h
 ·rename_i hk;split at h
  ·rename_i s ac;cases h;refine QE fun β S st a w hR hO hA=>?_
   have hx:=(ac▸hO.at aj).d_inv;generalize hy:a.eval x=y at hx;cases hx with
   |str s'=>
    refine ⟨_,Q5E hT ho hc ha hat hk hy,?_⟩;have:s'.data.toList.length=s'.size:=by rfl
    rw [this];exact .d _ _ (.int _ _)
  ·cases h
 ·cases h
theorem Q1l {ρ:Operand->Value} {ev:Operand->AV} {β:Nat->oP Nat} {S:Nat->Prop} {h:Nat->oP Ob} {w:World} {tm:Nat->Value} (isMin:Bool) :
  ∀ (r:List Operand) (av v:AV) (u:Value),RdA β S h w tm u av->(∀ x∈r,RdA β S h w tm (ρ x) (ev x))->BC isMin av (r.map ev)=some v ->
   ∃ u',((r.map ρ).foldlM (if isMin then Builtin.min2 else Builtin.max2) u:Sem Value).run P w = .ok u' w/\RdA β S h w tm u' v
 |[],av,v,u,hu,_,hm=>by
  simp_all [BC]
 |x::r,av,v,u,hu,hr,hm=>by
  unfold BC at hm;split at hm
  ·simp_all
  ·rename_i k a k' b r' aj;injection aj with h1 h2
   cases hk:(k == k') with
   |false=>simp_all
   |true=>
    simp only [hk,QoJ] at hm;have ak:=(h1▸hr x Q2).int_inv;have an:=hu.int_inv;subst h2;obtain ⟨u',g1,g2⟩:=Q1l isMin r _ v (.int k (bif isMin then (if b<a then b else a) else (if a<b then b else a))) (.d _ _ (.int _ _)) (fun y hy=>hr y (by simp [hy])) hm;refine ⟨u',?_,g2⟩;simp only [QoR,List.foldlM_cons,QoM,an,ak];cases isMin with
    |true=>assumption
    |false=>assumption
  ·cases hm
theorem Q06 {c:Call} {r:List Operand} {isMin:Bool} (ho:o.op = .call c) (hc:c.callee = .builtin (if isMin then .min else .max)) (ha:c.args.toList=x::r) {v:AV}
  (h:BC isMin (ev x) (r.map ev)=some v):KE P E o ev hl ⟨v,[],[]⟩:=by
 have ac:∀ y,y∈c.args.toList->y∈o.op.operands.toList:=by
  grind [Op.operands,Call.operands]
 refine QE fun β S st a w hR hO hA=>?_
 obtain ⟨u,g1,g2⟩:=Q1l (P:=P) (ρ:=a.eval) isMin r (ev x) v (a.eval x) (hO.at (ac x (by simp [ha]))) (fun y hy=>hO.at (ac y (by simp [ha,hy]))) h;refine ⟨u,?_,g2⟩;have aj:(c.args.map a.eval).toList=a.eval x::r.map a.eval:=by simp_all
 unfold execOp;rw [ho];cases isMin with
 |true=>
  simp_all [if_true,resolve,invoke,builtin,Builtin.min_,QoM,Sem.run_pure,QoI]
 |false=>
  simp only [Bool.false_eq_true,if_false] at hc g1;simp only [resolve,hc,invoke,builtin,Builtin.max_,QoM,Sem.run_pure,QoI,aj,g1]
theorem Q1U {f:Nat} {first ac:Array Operand} (ho:o.op = .makeFunc (.func f) first ac) (hf:first.toList=[]):KE P E o ev hl ⟨.fn f (ac.toList.map ev),[],[]⟩:=by
 refine QE fun β S st a w hR hO hA=>⟨.func (.func f) #[] (ac.map a.eval),?_,.fn f _ _ Q2 fun i x hx=>?_⟩
 ·simp_all [Array.ext',execOp,Instr.makeFunc]
 ·simp only [List.getElem?_map,QoF] at hx;obtain ⟨y,hy,rfl⟩:=hx;have aj:y∈o.op.operands.toList:=by
   grind [List.mem_of_getElem?,Op.operands]
  have hg:(ac.map a.eval).getD i undef=a.eval y:=by
   simp_all
  rw [hg];exact hO.at aj
theorem Ew {spec:Q5L} (hS:A3 P spec) (hT:TOk P tt) {a2:Nat} {g u:Bool} {k:Dl->oP R} {r:R}
  (h:vdl spec tt a2 g u ev hl o.op k=some r):∃ dl,k dl=some r/\(g=true->KE P E o ev hl dl):=by
 cases ho:o.op with
 |move x=>grind [vdl,Q4c]
 |assign x=>rw [ho] at h;simp only [vdl] at h;exact ⟨_,h,fun _=>Q4c (.inr ho)⟩
 |pick c x y=>
  rw [ho] at h;simp only [vdl] at h
  grind [Q8Q]
 |alloc t=>
  rw [ho] at h;simp only [vdl] at h;split at h
  ·rename_i ti ar;cases u with
   |false=>simp at h
   |true=>
    simp only [QoJ] at h;split at h
    ·rename_i e aq n hk;cases hb:Nat.beq ti.zd.length (n*aq) with
     |false=>simp_all
     |true=>
      simp only [hb,QoJ] at h;obtain ⟨hn,h⟩:=Vn h
      grind [Q5r,Nat.eq_of_beq_eq_true]
    ·obtain ⟨hn,h⟩:=Vn h;exact ⟨_,h,fun _=>Q8A hT ho ar hn⟩
  ·cases h
 |box t x=>
  rw [ho] at h;simp only [vdl] at h;split at h
  ·rename_i ti ar;cases hc:(u&&(Nat.beq (Y9 (ev x)).length ti.size&&(Y9 (ev x)).all Q3g)) with
   |false=>simp [hc] at h
   |true=>
    simp only [hc,QoJ] at h;simp only [QoE] at hc;obtain ⟨hn,h⟩:=Vn h;exact ⟨_,h,fun _=>Qbt ho hc.2.2 hn⟩
  ·cases h
 |build t ax=>
  rw [ho] at h;simp only [vdl] at h;split at h
  ·rename_i ti ar;cases hs:VH ti.kd with
   |false=>simp [hs] at h
   |true=>
    simp only [hs,QoJ] at h;split at h
    ·rename_i cs a7;exact ⟨_,h,fun _=>Q8l hT ho ar hs a7⟩
    ·cases h
  ·cases h
 |buildSlice t len ax=>
  rw [ho] at h;simp only [vdl] at h;obtain ⟨dl,h1,h2⟩:=Q5w hT ho h;exact ⟨dl,h1,fun _=>h2⟩
 |load t x=>rw [ho] at h;simp only [vdl] at h;exact Q8Z hT ho h
 |store t x y=>
  rw [ho] at h;simp only [vdl] at h;cases u with
  |false=>simp at h
  |true=>
   simp only [QoJ] at h;split at h
   ·rename_i e aq n l hk an;obtain ⟨dl,h1,h2⟩:=Q5x hT ho hk an h;exact ⟨dl,h1,fun _=>h2⟩
   ·obtain ⟨dl,h1,h2⟩:=Q8g hT ho h;exact ⟨dl,h1,fun _=>h2⟩
 |nilCheck x=>
  rw [ho] at h;simp only [vdl] at h;split at h
  ·rename_i l o' hv;exact ⟨_,h,fun _=>D3 ho hv⟩
  ·rename_i l o' hv;exact ⟨_,h,fun _=>CH ho hv⟩
  ·rename_i l i o' hv;split at h
   ·rename_i ob a6;exact ⟨_,h,fun _=>CV ho (by simp [a6]) hv⟩
   ·cases h
  ·cases h
 |binOp op t x y t'=>rw [ho] at h;simp only [vdl] at h;exact Qby hT ho h
 |unOp op t x=>
  rw [ho] at h;simp only [vdl] at h;split at h
  ·rename_i v hv;exact ⟨_,h,fun _=>QeA ho hv⟩
  ·cases h
 |convert s t x=>
  rw [ho] at h;simp only [vdl] at h;split at h
  ·rename_i ks kd h1 h2;split at h
   ·rename_i kn n h3;exact ⟨_,h,fun _=>Q55 hT ho h1 h2 h3⟩
   ·cases h
  ·rename_i e h1 h2;split at h
   ·rename_i h3;split at h
    ·rename_i rows rd h4;exact Q82 hT ho h1 h2 h3 h4 h
    ·cases h
   ·cases h
  ·rename_i h1 h2;split at h
   ·rename_i n h3;exact ⟨_,h,fun _=>Q2N hT ho h1 h2 h3⟩
   ·cases h
  ·rename_i e h1 h2;split at h
   ·rename_i h3;split at h
    ·rename_i n h4;exact ⟨_,h,fun _=>Q1X hT ho h1 h2 h3 h4⟩
    ·cases h
   ·cases h
  ·cases h
 |lookup t m x c=>
  rw [ho] at h;cases c with
  |true=>simp [vdl] at h
  |false=>
   simp only [vdl] at h;split at h
   ·rename_i f n ht hm hx;exact ⟨_,h,fun _=>Q6e hT ho ht hm hx⟩
   ·rename_i l n ht hm hx;split at h
    ·rename_i t' f au;exact ⟨_,h,fun _=>Q53 hT ho ht hm hx au⟩
    ·cases h
   ·cases h
 |makeMap t q=>
  rw [ho] at h;cases q with
  |some q=>simp [vdl] at h
  |none=>
   simp only [vdl] at h;split at h
   ·cases u with
    |false=>simp at h
    |true=>
     simp only [QoJ] at h;obtain ⟨hn,h⟩:=Vn h;exact ⟨_,h,fun _=>Q4t ho hn⟩
   ·cases h
 |mapUpdate t m x v=>
  rw [ho] at h;simp only [vdl] at h;split at h
  ·rename_i l n b ht hm hx hv;split at h
   ·rename_i t' f au;cases u with
    |false=>simp at h
    |true=>
     simp only [QoJ] at h;exact ⟨_,h,fun _=>Q0Z hT ho ht hm hx hv au⟩
   ·cases h
  ·cases h
 |makeFunc f first ak=>
  rw [ho] at h;cases f with
  |func f=>
   simp only [vdl] at h;split at h
   ·rename_i ao;cases hc:JS (ak.toList.map ev) with
    |false=>simp [hc] at h
    |true=>
     simp only [hc,QoJ] at h;exact ⟨_,h,fun _=>Q1U ho ao⟩
   ·cases h
  |_=>simp [vdl] at h
 |makeSlice t l c=>
  rw [ho] at h;simp only [vdl] at h;obtain ⟨dl,h1,h2⟩:=Qa9 hT ho h;exact ⟨dl,h1,fun _=>h2⟩
 |fieldAddr t x f=>
  rw [ho] at h;simp only [vdl] at h;obtain ⟨dl,h1,h2⟩:=Q0u hT ho h;exact ⟨dl,h1,fun _=>h2⟩
 |field t x f=>rw [ho] at h;simp only [vdl] at h;exact Q8i hT ho h
 |indexAddr t x i=>
  rw [ho] at h;simp only [vdl] at h;split at h
  ·rename_i e aq n l hk an;exact A8 hT ho hk an h
  ·exact Q0w hT ho h
 |index t x i=>rw [ho] at h;simp only [vdl] at h;exact Q8z hT ho h
 |slice t x lo hi mx=>
  rw [ho] at h;cases mx with
  |none=>
   simp only [vdl] at h;split at h
   ·rename_i l an;exact Qc3 hT ho an h
   ·exact Q8y hT ho h
  |some mx=>simp only [vdl] at h;exact Q66 hT ho h
 |extract x i=>
  rw [ho] at h;simp only [vdl] at h;split at h
  ·rename_i l hx;split at h
   ·rename_i v hv;exact ⟨_,h,fun _=>Q47 ho hx hv⟩
   ·cases h
  ·cases h
 |call c=>
  rw [ho] at h;simp only [vdl] at h;split at h
  ·rename_i f hc;exact Q4p hS (Q7T ho hc) h
  ·rename_i t hc;split at h
   ·rename_i f cap ay;exact Q4p hS (Q8v ho hc ay) h
   ·cases h
  ·rename_i hc;split at h
   ·rename_i x t ha hat;split at h
    ·rename_i n rd hn;exact ⟨_,h,fun _=>Qc4 hT ho hc ha hat hn⟩
    ·cases h
   ·cases h
  ·rename_i hc;split at h
   ·rename_i x t ha hat;split at h
    ·rename_i e aq hk ay;refine ⟨_,h,fun _=>QE fun β S st a w hR hO hA=>?_⟩;have aw:c.args = #[x]:=by rw [<- Array.toList_inj];simpa using ha
     have a4:x∈o.op.operands.toList:=by simp [ho,Op.operands,Call.operands,hc,aw]
     exact ⟨_,Q5P hT ho hc ha hat hk (ay▸hO.at a4).nil_inv,.d _ _ (.int _ _)⟩
    ·cases h
   ·cases h
  ·rename_i hc;split at h
   ·rename_i s x t t' ha hat;cases hb:Nat.beq t t' with
    |false=>simp only [hb,QoU] at h;exact Q3C hT ho hc ha hat h
    |true=>
     simp only [hb,QoJ] at h;obtain rfl:=QoD hb;exact Q62 hT ho hc ha hat h
   ·cases h
  ·rename_i hc;split at h
   ·rename_i x r' ha;split at h
    ·rename_i v hv;exact ⟨_,h,fun _=>Q06 (isMin:=true) ho hc ha hv⟩
    ·cases h
   ·cases h
  ·rename_i hc;split at h
   ·rename_i x r' ha;split at h
    ·rename_i v hv;exact ⟨_,h,fun _=>Q06 (isMin:=false) ho hc ha hv⟩
    ·cases h
   ·cases h
  ·cases h
 |_=>rw [ho] at h;simp [vdl] at h
end
end Go.Vx
namespace Go.Vx
variable {hl:Nat->oP Ob} {β:Nat->oP Nat} {S:Nat->Prop} {o:Oper} {st:St} {a:Act}
section
variable {P:Program} {E:Env} {R:Type}
theorem Qdi {d t:Nat} {tm:List (Nat×AV)} {av:AV} (h:look tm t=some av) (hn:QaB d tm=false):gds d av=false:=by
 induction tm with
 |nil=>trivial
 |cons x r ih=>
  grind [QaB,Bool.or_eq_false_iff,look,Nat.beq]
theorem Q9O {d:Nat} {v:Value} (hd:d<a.tmps.size) (t:Nat):tmv (a.put (some d) v) t=if t=d then v else tmv a t:=by
 unfold tmv Act.put;by_cases h:t<a.tmps.size
 ·by_cases e:t=d
  all_goals simp_all [QoW,Ne.symm]
 grind
theorem BF {w':World} {dl:Dl} {v:Value} {dst:oP Nat} (ho:Q3y st dl.v dst=true) (h:Out E st a dl v w'):HZ E (put st dst dl) (a.put dst v) w':=by
 obtain ⟨β,S,hR,hv⟩:=h;cases dst with
 |none=>exact ⟨β,S,hR.n,hR.dfr,hR.tm,hR.hr⟩
 |some d=>
  simp only [Q3y,QoE,QoL] at ho;obtain ⟨h1,h2,h3⟩:=ho;have hd:d<a.tmps.size:=by have:=Qp0 h1;have:=hR.n;grind
  refine ⟨β,S,?_,hR.dfr,fun t av ht=>?_,hR.hr⟩
  ·show (a.tmps.setIfInBounds d v).size=st.n;simpa using hR.n
  ·simp only [put,Y7] at ht;have aj:∀ (u:Value) (av:AV),gds d av=false->RdA β S (look (MO st.h dl.wr)) w' (tmv a) u av->RdA β S (look (put st (some d) dl).h) w' (tmv (a.put (some d) v)) u av:=by
    intro u av hg hr;refine hr.mono (fun _ h=>h) (fun _ _=>rfl) (fun _ _=>Keep.rfl_ ..) (fun t' ak=>?_);rw [Q9O hd,QoW (fun e=>by simp_all)]
   rw [Q9O hd];by_cases e:t=d
   ·simp_all
   ·rw [QoW e] at ht ⊢;exact aj _ _ (Qdi ht h3) (hR.tm t av ht)
theorem Q4T {w:World} (hR:Rel E β S st a w) (x:Operand):RdA β S (look st.h) w (tmv a) (a.eval x) (evO st.tm x):=by
 cases x with
 |tmp t=>
  simp only [evO,lkT];cases h:look st.tm t with
  |none=>exact .top _
  |some av=>exact hR.tm t av h
 |const v=>exact As v
 |global g=>exact .top _
 |func f=>exact .fn f #[] [] rfl (fun i x h=>by simp at h)
theorem Rn {tm:List (Nat×AV)} {s:Nat} {av:AV} (h:lkT tm s=av) (hn:av≠.top):look tm s=some av:=by
 unfold lkT at h;cases hl:look tm s with
 |none=>simp_all
 |some b=>simp_all
theorem QaC {e w:Bool}:bw e w=true↔e=w:=by cases e <;> cases w <;> simp [bw]
theorem Q3r {β:Nat->oP Nat} {S:Nat->Prop} {st:St} {a:Act} {w:World} (hR:Rel E β S st a w):∀ (f s:Nat) (b g:Bool) (ch:List (Nat×Bool)),ctx st.tm f s b=some (g,ch) ->
  (g=true↔tmv a s = .bool b)/\(g=true->∀ p∈ch,tmv a p.1 = .bool p.2)
 |0,s,b,g,ch,h=>by trivial
 |f+1,s,b,g,ch,h=>by
  unfold ctx at h;split at h
  ·rename_i e he;have hv:=(hR.tm s _ (Rn he Q2)).bool_inv
   grind [bw,tmv,bool,QaC]
  ·rename_i s' w' e he;split at h
   ·rename_i g' l hc;obtain ⟨h1,h2⟩:=Q3r hR f s' w' g' l hc;have hv:=(hR.tm s _ (Rn he Q2)).gd_inv;have h3:(g'=true/\bw e b=true)↔tmv a s = .bool b:=by
     rcases hv with ⟨h4,h5⟩ | ⟨h4,h5⟩
     ·rw [h5.bool_inv,QaC,h1];simp [h4]
     ·rw [h5,h1];constructor
      ·simp_all
      ·intro h;cases h
    grind
   ·cases h
  ·cases h
theorem Q4v {tm tm':List (Nat×AV)}:∀ (f s:Nat) (b g:Bool) (ch:List (Nat×Bool)),ctx tm f s b=some (g,ch)->(∀ p∈ch,lkT tm' p.1=lkT tm p.1)->ctx tm' f s b=some (g,ch)
 |0,s,b,g,ch,h,_=>by assumption
 |f+1,s,b,g,ch,h,hc=>by
  have hs:(s,b)∈ch:=by
   grind [ctx]
  have hl:=hc (s,b) hs;unfold ctx at h ⊢;split at h
  ·simp_all
  ·rename_i s' w' e he;split at h
   ·rename_i g' l ac;obtain ⟨rfl,rfl⟩:=h;have:=Q4v f s' w' g' l ac (fun p hp=>hc p (by simp [hp]))
    simp_all
   ·cases h
  ·cases h
theorem Q78 {s:Nat} {b:Bool}:∀ {l:List (Nat×Bool)},Qei l s b=true->(s,b)∈l
 |(x,y)::r,h=>by
  simp only [Qei,QoS,QoE] at h;rcases h with ⟨h1,h2⟩ | h
  ·simp_all
  ·simp [Q78 h]
theorem QfI {h:Nat->oP Ob} {w:World} {tm:Nat->Value} {v:Value} {av:AV} {ch:List (Nat×Bool)} (hc:∀ p∈ch,tm p.1 = .bool p.2) (hv:RdA β S h w tm v av):RdA β S h w tm v (unw ch av):=by
 cases av with
 |gd s b av=>
  simp only [unw];cases hg:Qei ch s b with
  |false=>simp_all
  |true=>
   rcases hv.gd_inv with ⟨_,h⟩ | ⟨h,_⟩
   ·exact h
   ·exact absurd (hc _ (Q78 hg)) h
 |_=>exact hv
theorem Q9r {l:Nat} {ch:List (Nat×Bool)} {av:AV} (h:Ur l av=false):Ur l (unw ch av)=false:=by
 cases av with
 |gd s b av=>
  grind [unw,Qei,Ur]
 |_=>exact h
def C6 (P:Program) (E:Env) (aj:Array Oper) (i:Nat) (rc:Rec) (lk:Nat->AV) (hl:Nat->oP Ob):Prop:=
 ∀ st a w,HZ E st a w->(∀ t,t∈rc.rt->lkT st.tm t=lk t)->(∀ l,l∈rc.dl.rd\/l∈wrL rc.dl->look st.h l=hl l)->Q3y st rc.dl.v rc.dst=true->WI st rc.dl.wr=true ->
  ∀ Q:Exit->Act->World->Prop,wpOp P aj Q i (fun a' w'=>HZ E (put st rc.dst rc.dl) a' w') a w
def Q4n (st:St) (rc:Rec):Prop:=Q3y st rc.dl.v rc.dst=true/\WI st rc.dl.wr=true
theorem Q19 {t:Nat}:∀ {l:List Operand},Operand.tmp t∈l->t∈Sv l
 |x::r,h=>by
  rcases QoK.1 h with rfl | h
  ·simp [Sv]
  ·have:=Q19 h;cases x <;> simp [Sv,this]
theorem Q2r {tm tm':List (Nat×AV)} {ch:List Nat} (h:∀ t,t∈Sv o.op.operands.toList++ch->lkT tm' t=lkT tm t) {x:Operand} (hx:x∈o.op.operands.toList):evO tm' x=evO tm x:=by
 cases x with
 |tmp t=>exact h t (by simp [Q19 hx])
 |_=>rfl
theorem Q16 {ak:Array Oper} {i:Nat} (hi:ak[i]? = some o) (hg:o.guard=none) {tm:List (Nat×AV)} {dl:Dl} (ac:KE P E o (evO tm) hl dl) :
  C6 P E ak i ⟨Sv o.op.operands.toList++[],o.dst,dl⟩ (lkT tm) hl:=by
 intro st a w ⟨β,S,hR⟩ hlk hA hd hcw Q;unfold wpOp;simp only [hi,Region.wanted,hg,if_true];left;refine ac β S st a w hR (fun x hx=>?_) hA hcw _ _ fun v w' aj=>BF hd aj
 rw [<- Q2r hlk hx]
 grind [Q4T,Q1G]
theorem LZ {ac:Array Oper} {j s:Nat} {b:Bool} (hs:(ac[j]?).bind (·.dst)=some s):(yielded ac a.tmps j == some b)=true↔tmv a s = .bool b:=by
 unfold yielded tmv;rw [hs];simp only [Option.bind_some,Array.getD];by_cases h:s<a.tmps.size
 ·simp only [h,dite_true,QoQ h];cases hv:a.tmps[s] <;> simp [hv]
 ·simp only [h,dite_false];constructor
  ·simp_all
  ·intro h;cases h
theorem Qez {R:Type} {c:Bool} {x:oP R} {r:R} (h:(bif c then x else none)=some r):c=true/\x=some r:=by
 grind
theorem Qhp {g:Bool} {x y z:D} (h:jD g x y=some z):z=bif g then x else y:=by
 unfold jD at h
 grind [Nat.eq_of_beq_eq_true]
theorem Qi8 {g:Bool} {x y z:AV} (h:jA g x y=some z):z=bif g then x else y:=by
 unfold jA at h;split at h
 ·grind [Qhp]
 ·simp_all
 ·replace h:=Qez h
  obtain ⟨hk,h⟩:=h
  simp_all
 ·cases h
theorem QdQ {g:Bool}:∀ {x y z:List AV},jL g x y=some z->z=bif g then x else y
 |[],[],z,h=>by simp only [jL,Option.some.injEq] at h;subst h;cases g <;> rfl
 |[],_::_,z,h=>by simp [jL] at h
 |_::_,[],z,h=>by simp [jL] at h
 |a::r,b::s,z,h=>by
  simp only [jL] at h;split at h
  ·rename_i c hc;split at h
   ·rename_i t ht;injection h with h
    subst h;rw [Qi8 hc,QdQ ht];cases g <;> rfl
   ·cases h
  ·cases h
theorem Q1N {hl:Nat->oP Ob}:∀ {wr ac:List (Nat×oP Ob)},jW true hl wr=some ac->ac=wr
 |[],_,h=>by simp only [jW,Option.some.injEq] at h;exact h.symm
 |(l,some (.box ak))::r,ac,h=>by
  simp only [jW] at h;split at h
  ·split at h
   ·rename_i c hc;split at h
    ·rename_i t ht;injection h with h
     subst h;rw [QdQ hc,Q1N ht];rfl
    ·cases h
   ·cases h
  ·cases h
 |(l,some (.arr e s rows))::r,ac,h=>by
  simp only [jW] at h;split at h
  ·split at h
   ·rename_i t ht;injection h with h
    subst h;rw [Q1N ht];rfl
   ·cases h
  ·cases h
 |(l,none)::r,ac,h=>by
  simp only [jW] at h;split at h
  ·rename_i t ht;injection h with h
   subst h;rw [Q1N ht]
  ·cases h
def QhH (hl:Nat->oP Ob) (l:Nat) (o:oP Ob):Prop:=o=hl l\/o=none\/(hl l=none/\∃ e s,o=some (.arr e s []))
theorem Bw {hl:Nat->oP Ob}:∀ {wr ac:List (Nat×oP Ob)},jW false hl wr=some ac->∀ p,p∈ac->QhH hl p.1 p.2
 |[],_,h,p,hp=>by simp only [jW,Option.some.injEq] at h;subst h;cases hp
 |(l,some (.box ak))::r,ac,h,p,hp=>by
  simp only [jW] at h;split at h
  ·rename_i old ho;split at h
   ·rename_i c hc;split at h
    ·rename_i t ht;injection h with h
     subst h;rcases QoK.1 hp with rfl | hp
     ·rw [QdQ hc];exact .inl ho.symm
     ·exact Bw ht p hp
    ·cases h
   ·cases h
  ·cases h
 |(l,some (.arr e s rows))::r,ac,h,p,hp=>by
  simp only [jW] at h;split at h
  ·rename_i hn;split at h
   ·rename_i t ht;injection h with h
    subst h;rcases QoK.1 hp with rfl | hp
    ·exact .inr (.inr ⟨hn,e,s,rfl⟩)
    ·exact Bw ht p hp
   ·cases h
  ·cases h
 |(l,none)::r,ac,h,p,hp=>by
  simp only [jW] at h;split at h
  ·rename_i t ht;injection h with h
   subst h;rcases QoK.1 hp with rfl | hp
   ·exact .inr (.inl rfl)
   ·exact Bw ht p hp
  ·cases h
theorem Q1o {Q:Nat->oP Ob->Prop}:∀ {wr:List (Nat×oP Ob)} {f:Nat->oP Ob} {l:Nat},(∀ p,p∈wr->Q p.1 p.2)->l∈wr.map (·.1)->Q l (Hl f wr l)
 |(k,o)::r,f,l,h,hl=>by
  by_cases hr:l∈r.map (·.1)
  ·exact Q1o (wr:=r) (fun p hp=>h p (by simp [hp])) hr
  simp_all [Hl,Vf]
theorem Q4L {st:St} {l:Nat} {o:Ob}:∀ {wr:List (Nat×oP Ob)},WI st wr=true->(l,some o)∈wr->look st.h l=none->UY st l=true
 |(k,o')::r,h,hm,hn=>by
  simp only [WI,QoE] at h;rcases QoK.1 hm with he | hm
  ·injection he with h1 h2
   subst h1 h2;have:=h.1;rw [hn] at this;exact this
  ·exact Q4L h.2 hm hn
theorem Ed:∀ {wr:List (Nat×oP Ob)} {f:Nat->oP Ob} {l:Nat} {o:Ob},l∈wr.map (·.1)->Hl f wr l=some o->(l,some o)∈wr
 |(k,o')::r,f,l,o,hl,h=>by
  by_cases hr:l∈r.map (·.1)
  ·exact List.mem_cons_of_mem _ (Ed (wr:=r) hr h)
  simp_all [Hl,Vf]
theorem Qc9 {w:World} (hR:Rel E β S st a w) {wr:List (Nat×oP Ob)} (hw:∀ p,p∈wr->QhH (look st.h) p.1 p.2) (hc:WI st wr=true) :
  ∃ β',Rel E β' S ⟨st.n,st.tm,MO st.h wr⟩ a w:=by
 have aj:look (MO st.h wr)=Hl (look st.h) wr:=HH wr st.h;have ak:∀ l,Hl (look st.h) wr l=look st.h l\/(Hl (look st.h) wr l=none/\l∈wr.map (·.1))\/(look st.h l=none/\l∈wr.map (·.1)/\∃ e s,Hl (look st.h) wr l=some (.arr e s [])):=by
  intro l;by_cases hl:l∈wr.map (·.1)
  ·rcases Q1o (f:=look st.h) hw hl with h | h | ⟨h1,h2⟩
   all_goals grind
  grind [Vf]
 let β':Nat->oP Nat:=fun l=>if look st.h l=none/\(Hl (look st.h) wr l).isSome=true then none else β l
 have hβ:∀ l,(Hl (look st.h) wr l=look st.h l)->β' l=β l:=by
  grind
 have ac:∀ l b,(look (MO st.h wr) l).isSome=true->β' l=some b->(look st.h l).isSome=true/\β l=some b:=by
  intro l b h1 h2;rw [aj] at h1
  grind
 refine ⟨β',hR.upd (H':=MO st.h wr) (w':=w) (S':=S) (β':=β') (fun _ h=>h) (fun _ _=>rfl) (fun l=>¬ Hl (look st.h) wr l=look st.h l) (fun l hl=>?_) (fun l hl=>?_) (fun l o hl ho=>?_) ?_ ?_ ?_ hR.hr.sb hR.hr.sfr hR.hr.fr⟩
 ·simp_all
 ·rcases ak l with h | ⟨h,hm⟩ | ⟨h1,hm,e,s,h2⟩
  ·simp_all
  ·left;refine ⟨?_,fun _=>by simp_all,fun e s rows _=>.inl (by rw [aj];exact h),fun b cs ty fz hs=>(by rw [aj,h] at hs;cases hs),fun _ _ _=>.inl (by rw [aj];exact h)⟩
   grind
  grind [Q4L,Ed]
 ·rcases ak l with h | ⟨h,hm⟩ | ⟨h1,hm,e,s,h2⟩
  ·exact absurd h hl
  ·rw [aj,h] at ho;cases ho
  ·rw [aj,h2] at ho;injection ho with ho
   subst ho;refine .inl ⟨?_,rfl⟩;show (if look st.h l=none/\(Hl (look st.h) wr l).isSome=true then none else β l)=none;rw [if_pos ⟨h1,by rw [h2];rfl⟩]
 ·intro l l' b h1 h2 h3 h4;obtain ⟨a1,a2⟩:=ac l b h1 h3;obtain ⟨b1,b2⟩:=ac l' b h2 h4;exact hR.hr.inj l l' b a1 b1 a2 b2
 ·intro l b h1 h2;obtain ⟨a1,a2⟩:=ac l b h1 h2;exact hR.hr.apart l b a1 a2
 ·intro l b h1 h2;obtain ⟨a1,a2⟩:=ac l b h1 h2;exact hR.hr.own l b a1 a2
theorem Q3n {an:Array Oper} {i j s:Nat} {b:Bool} (hi:an[i]? = some o) (hg:o.guard=some (j,b)) (hs:(an[j]?).bind (·.dst)=some s) {tm:List (Nat×AV)} {g:Bool} {ch:List (Nat×Bool)} (aq:ctx tm 40 s b=some (g,ch)) {dl:Dl} {wr:List (Nat×oP Ob)} (hw:jW g hl dl.wr=some wr)
  (aj:g=true->KE P E o (fun x=>unw ch (evO tm x)) hl dl) :
  C6 P E an i ⟨Sv o.op.operands.toList++ch.map (·.1),o.dst,⟨.gd s b dl.v,wr,dl.rd⟩⟩ (lkT tm) hl:=by
 intro st a w ⟨β,S,hR⟩ hlk hA hd hcw Q;have ao:=Q4v 40 s b g ch aq (tm':=st.tm) (fun p hp=>hlk p.1 (by grind));obtain ⟨h1,h2⟩:=Q3r hR 40 s b g ch ao;have hy:=LZ (a:=a) (b:=b) hs;unfold wpOp;simp only [hi,Region.wanted,hg];cases g with
 |true=>
  have ac:=h1.1 rfl;rw [if_pos (hy.2 ac)];left;obtain rfl:=Q1N hw;refine aj rfl β S st a w hR (fun x hx=>?_) (fun l h=>hA l h) hcw _ _ fun v w' ar=>?_
  ·have he:=Q2r hlk hx;show RdA _ _ _ _ _ _ (unw ch (evO tm x))/\∀ l,UY st l=true->Ur l (unw ch (evO tm x))=false;rw [<- he];exact ⟨QfI (h2 rfl) (Q4T hR x),fun l hc=>Q9r (Q1G hc x)⟩
  ·refine BF hd ?_;obtain ⟨β',S',ak,hv⟩:=ar;exact ⟨β',S',ak,.gdT _ _ _ _ ac hv⟩
 |false=>
  have ac:¬ tmv a s = .bool b:=fun h=>by simp_all
  rw [QoW (fun h=>ac (hy.1 h))];obtain ⟨β',ak⟩:=Qc9 hR (wr:=wr) (fun p hp=>by
   have:=Bw hw p hp;have he:look st.h p.1=hl p.1:=hA p.1 (.inr (QoX.2 ⟨p,hp,rfl⟩))
   grind [QhH]) hcw
  exact BF hd ⟨β',S,ak,.gdF _ _ _ ac⟩
theorem NU {ch:List Nat} {dl:Dl} {k:St->Rec->oP R} {r:R} (h:Qdg st o ch dl k=some r) :
  Q4n st ⟨Sv o.op.operands.toList++ch,o.dst,dl⟩/\k (put st o.dst dl) ⟨Sv o.op.operands.toList++ch,o.dst,dl⟩=some r:=by
 unfold Qdg at h;cases hc:(Q3y st dl.v o.dst&&WI st dl.wr) with
 |false=>simp_all
 |true=>
  simp only [hc,QoJ] at h;simp only [QoE] at hc;trivial
theorem Q5V {spec:Q5L} {tt:TT} (hS:A3 P spec) (hT:TOk P tt) {aj:Array Oper} {i:Nat} (hi:aj[i]? = some o) {k:St->Rec->oP R} {r:R} (h:Qec spec tt aj o st k=some r) :
  ∃ rc,k (put st rc.dst rc.dl) rc=some r/\rc.dst=o.dst/\Q4n st rc/\C6 P E aj i rc (lkT st.tm) (look st.h):=by
 unfold Qec at h;split at h
 ·rename_i hg;obtain ⟨dl,h,ac⟩:=Ew (E:=E) hS hT h;obtain ⟨hs,hk⟩:=NU h;exact ⟨_,hk,rfl,hs,Q16 hi hg (ac rfl)⟩
 ·rename_i j b hg;split at h
  ·rename_i s hs;split at h
   ·rename_i g ch an;obtain ⟨dl,h,ac⟩:=Ew (E:=E) hS hT h;split at h
    ·rename_i wr hw;obtain ⟨ao,hk⟩:=NU h;exact ⟨_,hk,rfl,ao,Q3n hi hg hs an hw ac⟩
    ·cases h
   ·cases h
  ·cases h
def Q01 (P:Program) (E:Env) (ac:Array Oper):Nat->St->List Rec->St->Prop
 |_,st,[],st'=>st'=st
 |i,st,rc::rs,st'=>(∃ o,ac[i]? = some o/\rc.dst=o.dst)/\Q4n st rc/\C6 P E ac i rc (lkT st.tm) (look st.h)/\Q01 P E ac (i+1) (put st rc.dst rc.dl) rs st'
theorem Q1v {spec:Q5L} {tt:TT} (hS:A3 P spec) (hT:TOk P tt) {ac:Array Oper} {R:Type}:∀ (l:List Oper) (i:Nat) (st:St) (acc:List Rec) (k:St->List Rec->oP R) (r:R),(∀ j,l[j]? = ac[i+j]?) ->
  Qha spec tt ac l st acc k=some r->∃ recs st',recs.length=l.length/\k st' (acc++recs)=some r/\Q01 P E ac i st recs st'
 |[],i,st,acc,k,r,_,h=>⟨[],st,rfl,by grind [Qha],rfl⟩
 |o::l,i,st,acc,k,r,hl,h=>by
  have h0:ac[i]? = some o:=by simpa using (hl 0).symm
  obtain ⟨rc,h,hd,hs,aj⟩:=Q5V (E:=E) hS hT h0 h;obtain ⟨recs,st',h1,h2,h3⟩:=Q1v hS hT l (i+1) _ _ k r (fun j=>by have:=hl (j+1);grind) h;exact ⟨rc::recs,st',by simp [h1],by simp_all,⟨o,h0,hd⟩,hs,aj,h3⟩
theorem Ai {s:Nat} {b:Bool}:∀ {tm:List (Nat×AV)},lkT tm s = .d (.bool b)->Q43 s b tm=tm
 |[],h=>by simp [lkT,look] at h
 |(t,a)::r,h=>by
  simp only [Q43];cases ht:Nat.beq t s with
  |true=>
   simp only [lkT,look,ht,QoJ,Option.getD_some] at h;rw [QoJ,h]
  |false=>
   simp only [lkT,look,ht,QoU] at h;rw [QoU,Ai (tm:=r) h]
theorem Q5q {aj:Array Oper} {i j s:Nat} {b:Bool} (hi:aj[i]? = some o) (hg:o.guard=some (j,b)) (hs:(aj[j]?).bind (·.dst)=some s) {tm:List (Nat×AV)} (ak:lkT tm s = .d (.bool b)) {dl:Dl} (ac:KE P E o (evO tm) hl dl) :
  C6 P E aj i ⟨Sv o.op.operands.toList++[s],o.dst,dl⟩ (lkT tm) hl:=by
 intro st a w ⟨β,S,hR⟩ hlk hA hd hcw Q;have ao:tmv a s = .bool b:=by
  have h1:=Q4T hR (.tmp s);rw [show evO st.tm (.tmp s)=lkT st.tm s from rfl,hlk s Q2,ak] at h1;exact h1.bool_inv
 unfold wpOp;simp only [hi,Region.wanted,hg];rw [if_pos ((LZ hs).2 ao)];left;refine ac β S st a w hR (fun x hx=>?_) hA hcw _ _ fun v w' an=>BF hd an
 rw [<- Q2r hlk hx]
 grind [Q4T,Q1G]
theorem QaR {aj:Array Oper} {i j s:Nat} {b c:Bool} (hi:aj[i]? = some o) (hg:o.guard=some (j,b)) (hs:(aj[j]?).bind (·.dst)=some s) {tm:List (Nat×AV)} (ak:lkT tm s = .d (.bool c)) (an:c≠b) {av:AV} :
  C6 P E aj i ⟨Sv o.op.operands.toList++[s],o.dst,⟨.gd s b av,[],[]⟩⟩ (lkT tm) hl:=by
 intro st a w ⟨β,S,hR⟩ hlk hA hd hcw Q;have aq:tmv a s = .bool c:=by
  have h1:=Q4T hR (.tmp s);rw [show evO st.tm (.tmp s)=lkT st.tm s from rfl,hlk s Q2,ak] at h1;exact h1.bool_inv
 have ac:¬ tmv a s = .bool b:=by simp_all
 unfold wpOp;simp only [hi,Region.wanted,hg];rw [QoW (fun h=>ac ((LZ hs).1 h))];exact BF hd ⟨β,S,hR,.gdF _ _ _ ac⟩
theorem Q07 {spec:Q5L} {tt:TT} (hS:A3 P spec) (hT:TOk P tt) {aj:Array Oper} {R:Type}:∀ (l:List Oper) (i:Nat) (st:St) (acc:List Rec) (k:St->List Rec->oP R) (r:R),(∀ j,l[j]? = aj[i+j]?) ->
  Q1F spec tt aj l st acc k=some r->∃ recs st',recs.length=l.length/\k st' (acc++recs)=some r/\Q01 P E aj i st recs st'
 |[],i,st,acc,k,r,_,h=>⟨[],st,rfl,by grind [Q1F],rfl⟩
 |o::l,i,st,acc,k,r,hl,h=>by
  have h0:aj[i]? = some o:=by simpa using (hl 0).symm
  have next:∀ rc,rc.dst=o.dst->Q4n st rc->C6 P E aj i rc (lkT st.tm) (look st.h)->Q1F spec tt aj l (put st rc.dst rc.dl) (acc++[rc]) k=some r->∃ recs st',recs.length=(o::l).length/\k st' (acc++recs)=some r/\Q01 P E aj i st recs st':=by
   intro rc hd hs au h;obtain ⟨recs,st',h1,h2,h3⟩:=Q07 hS hT l (i+1) _ _ k r (fun j=>by have:=hl (j+1);grind) h;exact ⟨rc::recs,st',by simp [h1],by simp_all,⟨o,h0,hd⟩,hs,au,h3⟩
  have one:∀ (j s:Nat) (w c:Bool),o.guard=some (j,w)->(aj[j]?).bind (·.dst)=some s->lkT st.tm s = .d (.bool c)->Q7E spec tt o s w c st (fun st' rec=>Q1F spec tt aj l st' (acc++[rec]) k)=some r->∃ recs st',recs.length=(o::l).length/\k st' (acc++recs)=some r/\Q01 P E aj i st recs st':=by
   intro j s w c hg hs ac h;unfold Q7E at h;cases hb:(bif c then w else !w) with
   |true=>
    simp only [hb,QoJ] at h;have aq:c=w:=by grind
    subst aq;obtain ⟨dl,h,ak⟩:=Ew (E:=E) hS hT h;obtain ⟨an,hk⟩:=NU h;exact next _ rfl an (Q5q h0 hg hs ac (ak rfl)) hk
   |false=>
    simp only [hb,QoU] at h;have aq:c≠w:=by grind
    obtain ⟨an,hk⟩:=NU h;exact next _ rfl an (QaR h0 hg hs ac aq) hk
  rw [Q1F] at h;split at h
  ·rename_i hg;obtain ⟨dl,h,ak⟩:=Ew (E:=E) hS hT h;obtain ⟨an,hk⟩:=NU h;exact next _ rfl an (Q16 h0 hg (ak rfl)) hk
  ·rename_i j w hg;split at h
   ·rename_i s hs;split at h
    ·rename_i c ac;cases c with
     |true=>
      simp only [QoJ,Ai ac] at h;exact one j s w true hg hs ac h
     |false=>
      simp only [QoU,Ai ac] at h;exact one j s w false hg hs ac h
    ·cases h
   ·cases h
theorem Q8V {ak:Array Oper} {Q:Exit->Act->World->Prop} {st':St} (hQ:∀ a w,HZ E st' a w->Q .normal a w):∀ (recs:List Rec) (i:Nat) (st:St) (a:Act) (w:World),Q01 P E ak i st recs st'->HZ E st a w ->
  wpOps P ak Q (List.range' i recs.length) a w
 |[],i,st,a,w,h,hR=>by
  simp only [Q01] at h;subst h;exact hQ a w hR
 |rc::rs,i,st,a,w,h,hR=>by
  obtain ⟨_,hs,ac,aj⟩:=h;simp only [List.length_cons,List.range'_succ];rw [wpOps_cons];exact wpOp_mono (fun a' w' an=>Q8V hQ rs (i+1) _ a' w' aj an) (ac st a w hR (fun _ _=>rfl) (fun _ _=>rfl) hs.1 hs.2 Q)
end
end Go.Vx
namespace Go.Vx
section
variable {P:Program} {E:Env} {R:Type}
def Lst (listed:Array Bool) (i:Nat):Prop:=listed.getD i false=true
def QbE (listed:Array Bool) (es:List Edge):Prop:=∀ e∈es,Region.binds .any e=true->Lst listed e.on
def QaN (ac:List Oper) (listed:Array Bool):Prop:=∀ (j:Nat) (o:Oper),ac[j]? = some o->Lst listed j->QbE listed o.after.toList
theorem Q1s (acc:List Nat) (i:Nat):∀ (es:List Edge) (s:Nat),(Q4B acc es s).testBit i=true->s.testBit i=true\/∃ e∈es,Region.binds .any e=true/\(e.on=i\/(acc.getD e.on 0).testBit i=true)
 |[],s,h=>.inl h
 |e::r,s,h=>by
  simp only [Q4B] at h;rcases Q1s acc i r _ h with h1 | ⟨e',h1,h2⟩
  ·cases hb:Region.binds .any e with
   |false=>rw [hb] at h1;exact .inl (by simpa using h1)
   |true=>
    rw [hb] at h1;simp only [QoJ,Nat.testBit_or,QoS] at h1;rcases h1 with (h1 | h1) | h1
    ·exact .inl h1
    ·refine .inr ⟨e,by simp,hb,.inl ?_⟩;rw [Nat.testBit_two_pow] at h1;simpa using h1
    ·exact .inr ⟨e,by simp,hb,.inr h1⟩
  ·exact .inr ⟨e',by simp [h1],h2⟩
theorem Q7N (ac:List Oper):∀ (l:List Oper) (acc:List Nat),(∀ k,l[k]? = ac[acc.length+k]?) ->
  (∀ (j i m:Nat) (o:Oper),acc[j]? = some m->ac[j]? = some o->m.testBit i=true->∀ listed,QaN ac listed->QbE listed o.after.toList->Lst listed i) ->
  (Q2W l acc).length=acc.length+l.length /\
  ∀ (j i m:Nat) (o:Oper),(Q2W l acc)[j]? = some m->ac[j]? = some o->m.testBit i=true->∀ listed,QaN ac listed->QbE listed o.after.toList->Lst listed i
 |[],acc,_,h=>⟨by simp [Q2W],h⟩
 |o::l,acc,hl,h=>by
  have h0:ac[acc.length]? = some o:=by simpa using (hl 0).symm
  have:=Q7N ac l (acc++[Q4B acc o.after.toList 0]) (fun k=>by
   have:=hl (k+1)
   grind) (fun j i m o' h1 h2 h3 listed hc hp=>by
   by_cases hj:j<acc.length
   ·grind
   ·have ar:j=acc.length:=by
     grind
    subst ar;rw [List.getElem?_append_right (Nat.le_refl _)] at h1;simp at h1;subst h1;rw [h0] at h2;injection h2 with h2
    subst h2;rcases Q1s acc i _ _ h3 with h4 | ⟨e,h4,h5,h6⟩
    ·simp at h4
    ·have an:=hp e h4 h5;rcases h6 with h6 | h6
     ·rw [<- h6];exact an
     ·by_cases he:e.on<acc.length
      ·obtain ⟨m',ak⟩:∃ m',acc[e.on]? = some m':=⟨_,QoH he⟩;have ao:e.on<ac.length:=by
        have:=(QoG.1 h0).1;omega
       have ho:=QoH ao;refine h e.on i m' _ ak ho ?_ listed hc (hc e.on _ ho an);rw [List.getD_eq_getElem?_getD,ak] at h6;simpa using h6
      ·rw [List.getD_eq_getElem?_getD,QoZ Q0] at h6;simp at h6)
  grind [Q2W,Nat.add_assoc,Nat.add_comm]
def DJ (listed:Array Bool):Nat->St->List Rec->St
 |_,st,[]=>st
 |i,st,rc::rs=>DJ listed (i+1) (bif listed.getD i false then put st rc.dst rc.dl else st) rs
def lkA (listed:Array Bool) (t:Nat):Nat->AV->List Rec->AV
 |_,v,[]=>v
 |i,v,rc::rs=>lkA listed t (i+1) (if listed.getD i false=true/\rc.dst=some t then rc.dl.v else v) rs
def hA (listed:Array Bool):Nat->(Nat->oP Ob)->List Rec->Nat->oP Ob
 |_,h,[]=>h
 |i,h,rc::rs=>hA listed (i+1) (if listed.getD i false=true then Hl h rc.dl.wr else h) rs
theorem Q94 (st:St) (dst:oP Nat) (dl:Dl) (t:Nat):lkT (put st dst dl).tm t=if dst=some t then dl.v else lkT st.tm t:=by
 cases dst with
 |none=>simp [put]
 |some d=>
  grind [put,lkT,Y7,Option.some.injEq]
theorem LB (listed:Array Bool) (t:Nat):∀ (recs:List Rec) (i:Nat) (st:St),lkT (DJ listed i st recs).tm t=lkA listed t i (lkT st.tm t) recs
 |[],_,_=>rfl
 |rc::rs,i,st=>by
  simp only [DJ,lkA];rw [LB listed t rs];congr 1;cases hl:listed.getD i false with
  |true=>simp [Q94]
  |false=>simp
theorem C0 (listed:Array Bool):∀ (recs:List Rec) (i:Nat) (st:St),look (DJ listed i st recs).h=hA listed i (look st.h) recs
 |[],_,_=>rfl
 |rc::rs,i,st=>by
  simp only [DJ,hA];rw [C0 listed rs];congr 1;cases hl:listed.getD i false with
  |true=>simp [put,HH]
  |false=>simp
theorem Q1p (listed:Array Bool):∀ (recs:List Rec) (i:Nat) (st:St),(DJ listed i st recs).n=st.n
 |[],_,_=>rfl
 |rc::rs,i,st=>by
  simp only [DJ];rw [Q1p listed rs];cases listed.getD i false <;> rfl
theorem EJ {L1 L2:Array Bool} {t:Nat}:∀ (recs:List Rec) (i:Nat) (v:AV),(∀ k rc,recs[k]? = some rc->rc.dst=some t->(Lst L1 (i+k)↔Lst L2 (i+k)))->lkA L1 t i v recs=lkA L2 t i v recs
 |[],_,_,_=>rfl
 |rc::rs,i,v,h=>by
  simp only [lkA];have h0:=h 0 rc rfl;have:(if L1.getD i false=true/\rc.dst=some t then rc.dl.v else v)=if L2.getD i false=true/\rc.dst=some t then rc.dl.v else v:=by
   by_cases hd:rc.dst=some t
   all_goals simp_all [Lst,Nat.add_zero]
  rw [this];exact EJ rs (i+1) _ fun k aj hk hd=>by
   have:=h (k+1) aj Q4 hd
   grind
theorem Bq {L1 L2:Array Bool} {l:Nat}:∀ (recs:List Rec) (i:Nat) (h1 h2:Nat->oP Ob),h1 l=h2 l->(∀ k rc,recs[k]? = some rc->l∈wrL rc.dl->(Lst L1 (i+k)↔Lst L2 (i+k)))->hA L1 i h1 recs l=hA L2 i h2 recs l
 |[],_,_,_,he,_=>he
 |rc::rs,i,h1,h2,he,h=>by
  refine Bq rs (i+1) _ _ ?_ fun k aj hk hd=>by
   have:=h (k+1) aj Q4 hd
   grind
  by_cases hd:l∈wrL rc.dl
  ·have:=h 0 rc rfl hd;simp only [Lst,Nat.add_zero] at this;by_cases hl:L1.getD i false=true
   ·rw [if_pos hl,if_pos (this.1 hl)];exact Q74 hd
   simp_all
  ·have e1:∀ (c:Prop) [Decidable c] (f:Nat->oP Ob),(if c then Hl f rc.dl.wr else f) l=f l:=by
    intro c _ f;split
    ·exact Vf hd
    ·rfl
   simp_all
theorem HZ.same {st st':St} {a:Act} {w:World} (h:HZ E st a w) (hn:st'.n=st.n) (ht:∀ t,lkT st'.tm t=lkT st.tm t) (hh:look st'.h=look st.h):HZ E st' a w:=by
 obtain ⟨β,S,hR⟩:=h;refine ⟨β,S,by rw [hn];exact hR.n,hR.dfr,fun t av aj=>?_,by rw [hh];exact hR.hr⟩;rw [hh];have h1:lkT st.tm t=av:=by grind [lkT]
 unfold lkT at h1;cases hl:look st.tm t with
 |none=>rw [hl] at h1;subst h1;exact .top _
 |some b=>rw [hl] at h1;subst h1;exact hR.tm t _ hl
end
section
variable {P:Program} {E:Env} {R:Type}
theorem Bf {x:Nat}:∀ {l:List Nat},Si x l=true↔x∈l
 |[]=>by simp [Si]
 |a::r=>by
  simp only [Si,QoS,QoK,Bf (l:=r)];constructor
  ·rintro (h | h)
   ·exact .inl (QoD h).symm
   ·exact .inr h
  ·rintro (h | h)
   ·subst h;exact .inl (Nat.beq_refl _)
   ·exact .inr h
theorem N7 {a b:List Nat} {x:Nat} (h1:x∈a) (h2:x∈b):TB a b=true:=by
 grind [TB,List.any_eq_true,AN]
theorem Dg {i:Nat} {a:Rec} {news:List Nat}:∀ {rs:List Rec} {ms:List Nat},Bz i a news rs ms=true->∀ (k:Nat) (b:Rec),rs[k]? = some b->∃ m,ms[k]? = some m /\
  (Up a b=true\/(∃ l∈news,Cl l b=true)\/QfA a.dst b.dl.v=true->m.testBit i=true)
 |[],_,_,k,b,hb=>by simp at hb
 |b0::r,[],h,k,b,hb=>by trivial
 |b0::r,m::ms,h,k,b,hb=>by
  simp only [Bz,QoE] at h;cases k with
  |zero=>
   grind
  |succ k=>exact Dg h.2 k b Q4
theorem MX {aj:St} {ac:List Nat}:∀ {wr:List (Nat×oP Ob)} {l:Nat},l∈Pj aj ac wr->Uf l wr=true
 |[],l,h=>by simp [Pj] at h
 |(k,o)::r,l,h=>by
  unfold Pj at h;split at h
  ·cases hm:Si k ac with
   |true=>simp only [hm,QoJ] at h;simp [Uf,MX h]
   |false=>
    simp only [hm,QoU,QoK] at h;rcases h with rfl | h
    ·simp [Uf]
    ·simp [Uf,MX h]
  ·simp [Uf,MX h]
theorem Q3F {aj:St} {ac:List Nat} {l:Nat} (hn:look aj.h l=none) (hs:l ∉ ac):∀ {wr:List (Nat×oP Ob)},Uf l wr=true->l∈Pj aj ac wr
 |(k,o)::r,h=>by
  simp only [Uf,QoS,QoE] at h;by_cases hk:k=l/\o.isSome=true
  ·obtain ⟨rfl,ho⟩:=hk;obtain ⟨o',rfl⟩:=QoT.1 ho
   grind [Si,absurd,Bf,Pj]
  ·have hr:Uf l r=true:=by
    grind [absurd,Nat.eq_of_beq_eq_true]
   have:=Q3F hn hs hr;unfold Pj
   grind
theorem LH {an:St}:∀ {rs:List Rec} {i:Nat} {ak:List Rec} {aj:List Nat} {ms:List Nat},Ff an i ak aj rs ms=true->∀ (k:Nat) (a:Rec),rs[k]? = some a ->
  ∃ ac,(∀ l∈ac,l∈aj\/∃ k' b,k'<k/\rs[k']? = some b/\Uf l b.dl.wr=true)/\Bz (i+k) a (Pj an ac a.dl.wr) (rs.drop (k+1)) (ms.drop (k+1))=true /\
   ∀ l∈Pj an ac a.dl.wr,UY an l=true/\(∀ b∈ak,Cl l b=false)/\∀ k' b,k'<k->rs[k']? = some b->Cl l b=false
 |[],i,ak,aj,ms,_,k,a,ha=>by simp at ha
 |a0::r,i,ak,aj,[],h,k,a,ha=>by simp [Ff] at h
 |a0::r,i,ak,aj,m::ms,h,k,a,ha=>by
  simp only [Ff,QoE] at h;obtain ⟨⟨h1,h2⟩,h3⟩:=h;cases k with
  |zero=>
   simp at ha;subst ha;refine ⟨aj,fun l hl=>.inl hl,by simpa using h1,fun l hl=>?_⟩;rw [List.all_eq_true] at h2;have:=h2 l hl;simp only [QoE,List.all_eq_true,QoL] at this;exact ⟨this.1,this.2,fun k' b hk=>by omega⟩
  |succ k=>
   obtain ⟨ac,g1,g2,g3⟩:=LH h3 k a (by simpa using ha);refine ⟨ac,fun l hl=>?_,?_,fun l hl=>?_⟩
   ·rcases g1 l hl with g | ⟨k',b,g4,g5,g6⟩
    ·rcases List.mem_append.1 g with g | g
     ·exact .inl g
     ·exact .inr ⟨0,a0,Q0,rfl,MX g⟩
    ·exact .inr ⟨k'+1,b,Q0,by simpa using g5,g6⟩
   ·rw [show i+(k+1)=i+1+k from Q0];simpa using g2
   ·obtain ⟨g4,g5,g6⟩:=g3 l hl;refine ⟨g4,fun b hb=>g5 b (by simp [hb]),fun k' b hk hb=>?_⟩;cases k' with
    |zero=>simp at hb;subst hb;exact g5 a0 Q2
    |succ k'=>exact g6 k' b Q0 (by simpa using hb)
theorem N9 {l:Nat}:∀ {wr:List (Nat×oP Ob)},Uf l wr=true->l∈wr.map (·.1)
 |(k,o)::r,h=>by
  simp only [Uf,QoS,QoE] at h;rcases h with ⟨_,h2⟩ | h
  ·simp [QoD h2]
  ·simp only [QoR,QoK];exact .inr (N9 h)
theorem DD {l:Nat}:∀ {wr:List (Nat×oP Ob)} {h:Nat->oP Ob},(∀ o,(l,o)∈wr->o.isSome=true)->(h l).isSome=true\/Uf l wr=true->(Hl h wr l).isSome=true
 |[],h,_,hs=>by
  rcases hs with hs | hs
  ·exact hs
  ·simp [Uf] at hs
 |(k,o)::r,h,hn,hs=>by
  simp only [Hl];refine DD (fun o' ac=>hn o' (by simp [ac])) ?_;by_cases e:l=k
  ·subst e;left;rw [if_pos rfl];exact hn o Q2
  ·rw [QoW e];rcases hs with hs | hs
   ·exact .inl hs
   ·simp only [Uf,QoS,QoE] at hs;rcases hs with ⟨_,h2⟩ | hs
    ·exact absurd (QoD h2).symm e
    ·exact .inr hs
theorem Q6w {recs:List Rec} {l:Nat}:∀ {wr:List (Nat×oP Ob)},Qd4 recs wr=true->(l,none)∈wr->∀ b∈recs,Uf l b.dl.wr=false
 |(k,o)::r,h,hm,b,hb=>by
  rcases QoK.1 hm with e | ac
  ·injection e with e1 e2
   subst e1;subst e2;simp only [Qd4,QoE,List.all_eq_true,QoL] at h;exact h.1 b hb
  ·cases o with
   |none=>simp only [Qd4,QoE] at h;exact Q6w h.2 ac b hb
   |some o=>simp only [Qd4] at h;exact Q6w h ac b hb
theorem QcO:∀ {recs:List Rec} (k:Nat) (b:Rec),rmL recs=true->recs[k]? = some b->Qd4 (recs.drop k) b.dl.wr=true
 |a::r,0,b,h,hb=>by
  simp only [rmL,QoE] at h;simp at hb;subst hb;exact h.1
 |a::r,k+1,b,h,hb=>by
  simp only [rmL,QoE] at h;exact QcO k b h.2 (by simpa using hb)
theorem Q38 {listed:Array Bool} {l:Nat}:∀ (recs:List Rec) (i:Nat) (h:Nat->oP Ob),(∀ k b,recs[k]? = some b->Lst listed (i+k)->∀ o,(l,o)∈b.dl.wr->o.isSome=true)->((h l).isSome=true\/∃ k b,recs[k]? = some b/\Lst listed (i+k)/\Uf l b.dl.wr=true)->(hA listed i h recs l).isSome=true
 |[],i,h,_,hs=>by
  rcases hs with hs | ⟨k,b,hb,_⟩
  ·exact hs
  ·simp at hb
 |rc::rs,i,h,hn,hs=>by
  simp only [hA];refine Q38 rs (i+1) _ (fun k b hb hl=>hn (k+1) b (by simpa using hb) (by rw [show i+(k+1)=i+1+k from Q0];exact hl)) ?_;rcases hs with hs | ⟨k,b,hb,hl,ho⟩
  ·left;split
   ·rename_i ac;exact DD (hn 0 rc rfl (by simpa [Lst] using ac)) (.inl hs)
   ·exact hs
  ·cases k with
   |zero=>
    simp at hb;subst hb;left;rw [if_pos (by simpa [Lst] using hl)];exact DD (hn 0 rc rfl hl) (.inr ho)
   |succ k=>exact .inr ⟨k,b,by simpa using hb,by rw [show i+1+k=i+(k+1) from Q0];exact hl,ho⟩
theorem Q8C {l:Nat} {st:St} {dst:oP Nat} {dl:Dl} (h1:AO l st.tm=false) (h2:Ur l dl.v=false):AO l (put st dst dl).tm=false:=by
 cases dst <;> simp [put,AO,h1,h2]
theorem SV {l:Nat}:∀ {wr:List (Nat×oP Ob)} {h:List (Nat×Ob)},JO l h=false->PD l wr=false->JO l (MO h wr)=false
 |[],h,h1,_=>h1
 |(k,none)::r,h,h1,h2=>by simp only [MO];exact SV (Vw h1) (by simpa [PD] using h2)
 |(k,some (.box c))::r,h,h1,h2=>by
  simp only [PD,QoV] at h2;simp only [MO];exact SV (by simp [JO,h2.1,Vw h1]) h2.2
 |(k,some (.arr e s rows))::r,h,h1,h2=>by
  simp only [PD] at h2;simp only [MO];exact SV (by simp [JO,Vw h1]) h2
 |(k,some (.mp t f))::r,h,h1,h2=>by
  simp only [PD] at h2;simp only [MO];exact SV (by simp [JO,Vw h1]) h2
theorem Q3S {listed:Array Bool} {l:Nat}:∀ (recs:List Rec) (i:Nat) (st:St),UY st l=true->(∀ k b,recs[k]? = some b->Lst listed (i+k)->Cl l b=false)->UY (DJ listed i st recs) l=true
 |[],_,_,h,_=>h
 |rc::rs,i,st,h,hn=>by
  simp only [DJ];refine Q3S rs (i+1) _ ?_ fun k b hb hl=>hn (k+1) b (by simpa using hb) (by rw [show i+(k+1)=i+1+k from Q0];exact hl)
  cases hl:listed.getD i false with
  |false=>exact h
  |true=>
   have:=hn 0 rc rfl hl;simp only [Cl,QoV] at this;simp only [UY,QoE,QoL] at h ⊢;exact ⟨h.1,Q8C h.2.1 this.1,by simp only [QoJ,put];exact SV h.2.2 this.2⟩
theorem Q6I {listed:Array Bool} {d:Nat}:∀ (recs:List Rec) (i:Nat) (st:St),QaB d st.tm=false->(∀ k b,recs[k]? = some b->Lst listed (i+k)->b.dst≠none->gds d b.dl.v=false)->QaB d (DJ listed i st recs).tm=false
 |[],_,_,h,_=>h
 |rc::rs,i,st,h,hn=>by
  simp only [DJ];refine Q6I rs (i+1) _ ?_ fun k b hb hl=>hn (k+1) b (by simpa using hb) (by rw [show i+(k+1)=i+1+k from Q0];exact hl)
  cases hl:listed.getD i false with
  |false=>exact h
  |true=>
   cases hd:rc.dst with
   |none=>simpa [put] using h
   |some d'=>simp [put,QaB,h,hn 0 rc rfl hl (by simp [hd])]
theorem Q7s {listed:Array Bool} {d:Nat}:∀ (recs:List Rec) (i:Nat) (st:St),QaB d (DJ listed i st recs).tm=false->QaB d st.tm=false/\∀ k b,recs[k]? = some b->Lst listed (i+k)->b.dst≠none->gds d b.dl.v=false
 |[],_,_,h=>⟨h,fun k b hb=>by simp at hb⟩
 |rc::rs,i,st,h=>by
  obtain ⟨h1,h2⟩:=Q7s rs (i+1) _ h;refine ⟨?_,fun k b hb hl hd=>?_⟩
  ·cases hl:listed.getD i false with
   |false=>simp_all
   |true=>
    cases hd:rc.dst with
    |none=>grind [put]
    |some d'=>simp_all [QoJ,put,QaB,QoV]
  ·cases k with
   |zero=>
    have ak:listed.getD i false=true:=by assumption
    cases an:rc.dst with
    |none=>simp_all
    |some d'=>simp_all [QoJ,put,QaB,QoV]
   |succ k=>grind
def Q9P (st:St):Nat->List Rec->St
 |0,_=>st
 |_,[]=>st
 |i+1,rc::rs=>Q9P (put st rc.dst rc.dl) i rs
theorem Q6S {ac:Array Oper} {st':St}:∀ {recs:List Rec} {i:Nat} {st:St},Q01 P E ac i st recs st'->∀ (k:Nat) (rc:Rec),recs[k]? = some rc ->
  (∃ o,ac[i+k]? = some o/\rc.dst=o.dst)/\Q4n (Q9P st k recs) rc/\C6 P E ac (i+k) rc (lkT (Q9P st k recs).tm) (look (Q9P st k recs).h)
 |[],_,_,_,k,rc,h=>by simp at h
 |r0::rs,i,st,hr,k,rc,h=>by
  obtain ⟨h1,h2,h3,h4⟩:=hr;cases k with
  |zero=>simp at h;subst h;exact ⟨h1,h2,h3⟩
  |succ k=>
   have:=Q6S h4 k rc (by simpa using h);rw [show i+1+k=i+(k+1) from Q0] at this;exact this
theorem Fo {ac:Array Oper} {st':St}:∀ {recs:List Rec} {i:Nat} {st:St},Q01 P E ac i st recs st'->st'=Q9P st recs.length recs
 |[],_,_,h=>h
 |_::rs,_,_,h=>Fo (recs:=rs) h.2.2.2
def Nv (n k:Nat):Array Bool:=(Array.range n).map fun i=>decide (i<k)
theorem Ha {n k i:Nat} (hi:i<n):Lst (Nv n k) i↔i<k:=by
 unfold Lst Nv;simp [hi]
theorem Fj {n:Nat}:∀ (recs:List Rec) (i k:Nat) (st:St),i+recs.length<=n->Q9P st k recs=DJ (Nv n (i+k)) i st recs
 |[],i,k,st,_=>by cases k <;> rfl
 |rc::rs,i,0,st,h=>by
  simp only [Q9P,DJ];have h0:¬ Lst (Nv n (i+0)) i:=by grind [Ha]
  have:(Nv n (i+0)).getD i false=false:=by grind [Lst]
  have:∀ (rs:List Rec) (j:Nat) (st:St),i<j->j+rs.length<=n->DJ (Nv n i) j st rs=st:=by
   intro rs;induction rs with
   |nil=>intro j st _ _;rfl
   |cons x r ac=>
    intro j st hj hn;simp only [List.length_cons] at hn;simp only [DJ];have h0:¬ Lst (Nv n i) j:=by rw [Ha Q0];omega
    grind [Nv,Lst]
  grind
 |rc::rs,i,k+1,st,h=>by
  simp only [List.length_cons] at h;simp only [Q9P,DJ];have h0:Lst (Nv n (i+(k+1))) i:=by rw [Ha Q0];omega
  have:(Nv n (i+(k+1))).getD i false=true:=h0;rw [this];simp only [QoJ];rw [Fj (n:=n) rs (i+1) k _ Q0,show i+1+k=i+(k+1) from Q0]
end
section
variable {P:Program} {E:Env} {R:Type}
theorem Q7z {L:Array Bool} {t:Nat} {v0:AV}:∀ (recs:List Rec) (i k:Nat) (rc:Rec) (v:AV),recs[k]? = some rc->Lst L (i+k)->rc.dst=some t->rc.dl.v=v0->(∀ k' b,k<k'->recs[k']? = some b->Lst L (i+k')->b.dst≠some t)->lkA L t i v recs=v0
 |[],i,k,rc,v,h,_,_,_,_=>by simp at h
 |r0::rs,i,0,rc,v,h,hl,hd,hv,hlast=>by
  simp at h;subst h;simp only [lkA];have aj:L.getD i false=true:=by assumption
  rw [if_pos ⟨aj,hd⟩,hv];have:∀ (rs:List Rec) (j:Nat),(∀ k' b,rs[k']? = some b->Lst L (j+k')->b.dst≠some t)->lkA L t j v0 rs=v0:=by
   intro rs;induction rs with
   |nil=>intro j _;rfl
   |cons x r ih=>
    intro j hj;simp only [lkA];rw [QoW (fun h=>hj 0 x rfl h.1 h.2)];exact ih (j+1) fun k' b hb hl=>hj (k'+1) b Q4 (by grind)
  exact this rs (i+1) fun k' b hb hl=>hlast (k'+1) b Q0 (by simpa using hb) (by grind)
 |r0::rs,i,k+1,rc,v,h,hl,hd,hv,hlast=>by
  exact Q7z rs (i+1) k rc _ (by simpa using h) (by grind) hd hv fun k' b hk hb aj=>hlast (k'+1) b Q0 (by simpa using hb) (by grind)
theorem Q9d {L:Array Bool} {l:Nat} (h0:Nat->oP Ob):∀ (recs:List Rec) (i k:Nat) (rc:Rec) (h:Nat->oP Ob),recs[k]? = some rc->Lst L (i+k)->l∈wrL rc.dl->(∀ k' b,k<k'->recs[k']? = some b->Lst L (i+k')->l ∉ wrL b.dl)->hA L i h recs l=Hl h0 rc.dl.wr l
 |[],i,k,rc,h,hb,_,_,_=>by simp at hb
 |r0::rs,i,0,rc,h,hb,hl,hd,hlast=>by
  simp at hb;subst hb;simp only [hA];have aj:L.getD i false=true:=by assumption
  rw [if_pos aj];have:∀ (rs:List Rec) (j:Nat) (f:Nat->oP Ob),(∀ k' b,rs[k']? = some b->Lst L (j+k')->l ∉ wrL b.dl)->hA L j f rs l=f l:=by
   intro rs;induction rs with
   |nil=>intro j f _;rfl
   |cons x r ih=>
    intro j f hj;simp only [hA];rw [ih (j+1) _ fun k' b hb hl=>hj (k'+1) b Q4 (by grind)];split
    ·rename_i hx;exact Vf (hj 0 x rfl hx)
    ·rfl
  rw [this rs (i+1) _ fun k' b hb hl=>hlast (k'+1) b Q0 (by simpa using hb) (by grind)];exact Q74 hd
 |r0::rs,i,k+1,rc,h,hb,hl,hd,hlast=>by
  exact Q9d h0 rs (i+1) k rc _ (by simpa using hb) (by grind) hd fun k' b hk an aj=>hlast (k'+1) b Q0 Q4 (by grind)
theorem Q4J {st:St}:∀ {wr:List (Nat×oP Ob)},(∀ l o,(l,some o)∈wr->look st.h l=none->UY st l=true)->WI st wr=true
 |[],_=>rfl
 |(l,o)::r,h=>by
  simp only [WI,QoE];refine ⟨?_,Q4J fun l' o' hm=>h l' o' (by simp [hm])⟩;cases o with
  |none=>rfl
  |some o=>
   cases hs:look st.h l with
   |some o'=>rfl
   |none=>exact h l o Q2 hs
theorem Q1k {l:Nat} {o:Ob}:∀ {wr:List (Nat×oP Ob)},(l,some o)∈wr->Uf l wr=true
 |(k,o')::r,h=>by
  rcases QoK.1 h with e | h'
  ·injection e with e1 e2;subst e1;subst e2;simp [Uf]
  ·simp [Uf,Q1k h']
theorem Q4O {p q:Nat->Bool} {i:Nat}:∀ {l:List Nat},i∈l->(∀ x∈l,q x=true->p x=true)->p i=true->q i=false->l.countP q<l.countP p
 |a::r,hm,ac,hp,hq=>by
  have hr:r.countP q<=r.countP p:=List.countP_mono_left fun x hx=>ac x (by simp [hx])
  simp only [List.countP_cons];rcases QoK.1 hm with rfl | aj
  ·simp [hp,hq];omega
  ·have:=Q4O aj (fun x hx=>ac x (by simp [hx])) hp hq;have h1:=ac a Q2;cases ak:q a
   ·simp;split <;> omega
   ·simp [h1 ak];omega
theorem BI {listed:Array Bool} {i j:Nat} (hi:i<listed.size):Lst (listed.setIfInBounds i true) j↔j=i\/Lst listed j:=by
 unfold Lst;by_cases hj:j<listed.size
 ·by_cases e:j=i
  all_goals simp_all [Ne.symm]
 grind
theorem Q8q {es:List Edge} {i:Nat} (h:Q26 es i=true) (e:Edge) (hm:e∈es) (hb:Region.binds .any e=true):e.on<i:=by
 induction es with
 |nil=>simp at hm
 |cons e0 r ih=>
  simp only [Q26,QoE,QoS,QoL] at h
  grind [Nat.le_of_ble_eq_true]
theorem Ef {l:List Oper} (k:Nat) (o:Oper) (e:Edge) (he:e∈o.after.toList) (hb:Region.binds .any e=true):∀ i,MH l i=true->l[k]? = some o->e.on<i+k:=by
 induction l generalizing k with
 |nil=>simp_all
 |cons o0 r ih=>
  intro i h ho;simp only [MH,QoE] at h;cases k with
  |zero=>simp at ho;subst ho;exact Q8q h.1 e he hb
  |succ k=>
   grind
theorem Q05 {ac:Array Oper} {listed:Array Bool} {i:Nat} (an:listed.size=ac.size):i∈Region.ready .any ac listed↔∃ o,ac[i]? = some o/\¬ Lst listed i/\QbE listed o.after.toList:=by
 unfold Region.ready;simp only [List.mem_filter,List.mem_range,QoE,QoL];constructor
 ·rintro ⟨h1,h2,h3⟩;have ho:=QoQ h1;refine ⟨_,ho,?_,?_⟩
  ·simp_all [Lst,Array.getD,dite_true]
  ·rw [ho] at h3;simp only [Option.map_some,Option.getD_some,Array.all_eq_true_iff_forall_mem,QoS,QoL] at h3;intro e he hb;rcases h3 e Q4 with h4 | h4
   ·simp_all
   ·exact h4
 ·rintro ⟨o,ho,hn,hp⟩;have h1:=(QoN.1 ho).1;have hi:i<listed.size:=Q0
  refine ⟨h1,?_,?_⟩
  ·simp_all [Lst,Array.getD,dite_true]
  ·rw [ho];simp only [Option.map_some,Option.getD_some,Array.all_eq_true_iff_forall_mem,QoS,QoL];intro e he;cases hb:Region.binds .any e with
   |false=>simp_all
   |true=>exact .inr (hp e (by simpa using he) hb)
theorem Qbe {ac:Array Oper} {aj st':St} {recs:List Rec} {Q:Exit->Act->World->Prop} (ce:recs.length=ac.size) (ax:Q01 P E ac 0 aj recs st') (hd:Q3t aj ac.toList recs=true) (hQ:∀ a w,HZ E st' a w->Q .normal a w) :
  ∀ (fuel:Nat) (listed:Array Bool) (a:Act) (w:World),listed.size=ac.size->QaN ac.toList listed->(List.range ac.size).countP (fun i=>!listed.getD i false)<=fuel->HZ E (DJ listed 0 aj recs) a w->wpAny P .any ac Q fuel listed a w:=by
 simp only [Q3t,QoE] at hd;obtain ⟨⟨a9,az⟩,b5⟩:=hd;obtain ⟨b8,bb⟩:=Q7N ac.toList ac.toList [] (fun k=>by simp) (fun j i m o h1=>by simp at h1);simp only [List.length_nil,QoP,Array.length_toList] at b8;have bx:∀ listed:Array Bool,listed.size=ac.size->Region.ready .any ac listed=[]->∀ i,i<ac.size->Lst listed i:=by
  intro listed aw hr i;induction i using Nat.strongRecOn with
  |ind i ih=>
   intro hi;by_cases hl:Lst listed i
   ·exact hl
   ·exfalso;have ho:=QoQ hi;have:i∈Region.ready .any ac listed:=(Q05 aw).2 ⟨_,ho,hl,fun e he hb=>ih e.on (by
     have:=Ef i _ e he hb 0 a9 Q4;omega) (by
     have:=Ef i _ e he hb 0 a9 (by rw [QoY];exact ho);omega)⟩
    simp_all
 have bl:∀ (listed:Array Bool) (a:Act) (w:World),(∀ i,i<ac.size->Lst listed i)->HZ E (DJ listed 0 aj recs) a w->Q .normal a w:=by
  intro listed a w hl hR;refine hQ a w (hR.same ?_ (fun t=>?_) ?_)
  ·rw [Fo ax,Fj (n:=ac.size) recs 0 _ aj Q0,Q1p,Q1p]
  ·rw [Fo ax,Fj (n:=ac.size) recs 0 _ aj Q0,LB,LB];refine EJ recs 0 _ fun k rc hk _=>?_
   have bh:=(QoG.1 hk).1;rw [Ha Q0];exact ⟨fun _=>hl _ Q0,fun _=>by omega⟩
  ·rw [Fo ax,Fj (n:=ac.size) recs 0 _ aj Q0,C0,C0];funext l;refine Bq recs 0 _ _ rfl fun k rc hk _=>?_
   have bh:=(QoG.1 hk).1;rw [Ha Q0];exact ⟨fun _=>hl _ Q0,fun _=>by omega⟩
 intro fuel;induction fuel with
 |zero=>
  intro listed a w aw bc bq hR;have hl:∀ i,i<ac.size->Lst listed i:=by
   intro i hi;have h0:(List.range ac.size).countP (fun i=>!listed.getD i false)=0:=Q0
   rw [List.countP_eq_zero] at h0;have:=h0 i (by simpa using hi);simpa [Lst] using this
  refine ⟨?_,bl listed a w hl hR⟩;cases hr:Region.ready .any ac listed with
  |nil=>rfl
  |cons x xs=>
   exfalso;obtain ⟨o,ho,hn,_⟩:=(Q05 aw).1 (by rw [hr];simp:x∈Region.ready .any ac listed);exact hn (hl x (QoN.1 ho).1)
 |succ fuel ih=>
  intro listed a w aw bc bq hR;refine ⟨fun hr=>bl listed a w (bx listed aw hr) hR,fun i hi=>?_⟩;obtain ⟨o,ho,a3,b0⟩:=(Q05 aw).1 hi;have br:=(QoN.1 ho).1;obtain ⟨rc,aq⟩:∃ rc,recs[i]? = some rc:=⟨_,QoH Q0⟩;obtain ⟨⟨o',b7,cc⟩,bp,a7⟩:=Q6S ax i rc aq;simp only [QoP] at b7 a7;have ba:∀ (j m:Nat),(Q2W ac.toList [])[i]? = some m->m.testBit j=true->Lst listed j:=fun j m h1 h2=>bb i j m o h1 (by rw [QoY];exact ho) h2 listed bc b0
  have ay:∀ (j m:Nat),(Q2W ac.toList [])[j]? = some m->j<ac.size->m.testBit i=true->¬ Lst listed j:=fun j m h1 h2 h3 hl=>by
   have a6:=QoQ h2;exact a3 (bb j i m _ h1 (by rw [QoY];exact a6) h3 listed bc (bc j _ (by rw [QoY];exact a6) hl))
  have a5:∀ (p q:Nat) (x y:Rec),p<q->recs[p]? = some x->recs[q]? = some y->∃ m,(Q2W ac.toList [])[q]? = some m/\(Up x y=true\/QfA x.dst y.dl.v=true->m.testBit p=true):=by
   intro p q x y cr hx hy;obtain ⟨a4,_,g2,_⟩:=LH az p x hx;obtain ⟨m,hm,hc⟩:=Dg g2 (q-(p+1)) y (by rw [QoO,show p+1+(q-(p+1))=q from Q0];exact hy);rw [QoO,show p+1+(q-(p+1))=q from Q0] at hm;refine ⟨m,hm,fun h=>?_⟩;have:=hc (by rcases h with h | h;exact .inl h;exact .inr (.inr h));simpa using this
  have bi:∀ (j:Nat) (b:Rec),j<i->recs[j]? = some b->Up b rc=true->Lst listed j:=fun j b hj hb hc=>by
   obtain ⟨m,hm,h1⟩:=a5 j i b rc hj hb aq;exact ba j m hm (h1 (.inl hc))
  have ao:∀ (j:Nat) (b:Rec),i<j->recs[j]? = some b->Up rc b=true\/QfA rc.dst b.dl.v=true->¬ Lst listed j:=fun j b hj hb hc=>by
   obtain ⟨m,hm,h1⟩:=a5 i j rc b hj aq hb;exact ay j m hm (by have:=(QoG.1 hb).1;omega) (h1 hc)
  have bj:∀ (k:Nat) (b:Rec),recs[k]? = some b->(k<i->Up b rc=true)->(i<k->Up rc b=true)->(Lst listed (0+k)↔Lst (Nv ac.size (0+i)) (0+k)):=by
   intro k b hb h1 h2;have bh:=(QoG.1 hb).1;rw [Ha Q0];simp only [QoP];rcases Nat.lt_trichotomy k i with h | h | h
   ·exact ⟨fun _=>h,fun _=>bi k b h hb (h1 h)⟩
   ·subst h;exact ⟨fun hl=>absurd hl a3,fun hl=>by omega⟩
   ·exact ⟨fun hl=>absurd hl (ao k b h hb (.inl (h2 h))),fun hl=>by omega⟩
  have bn:Q9P aj i recs=DJ (Nv ac.size (0+i)) 0 aj recs:=Fj recs 0 i aj Q0;have c1:∀ t,t∈rc.rt->lkT (DJ listed 0 aj recs).tm t=lkT (Q9P aj i recs).tm t:=by
   intro t ht;rw [bn,LB,LB];refine EJ recs 0 _ fun k b hk a2=>bj k b hk (fun _=>?_) (fun _=>?_)
   ·simp [Up,inO,a2,AN ht]
   ·simp [Up,inO,a2,AN ht]
  have c2:∀ l,l∈rc.dl.rd\/l∈wrL rc.dl->look (DJ listed 0 aj recs).h l=look (Q9P aj i recs).h l:=by
   intro l hl;rw [bn,C0,C0];refine Bq recs 0 _ _ rfl fun k b hk hw=>bj k b hk (fun _=>?_) (fun _=>?_)
   ·rcases hl with hl | hl
    ·simp [Up,N7 hw hl]
    ·simp [Up,N7 hw hl]
   ·rcases hl with hl | hl
    ·simp [Up,N7 hw hl]
    ·simp [Up,N7 hl hw]
  have c3:Q3y (DJ listed 0 aj recs) rc.dl.v rc.dst=true:=by
   have h1:=bp.1;cases bz:rc.dst with
   |none=>rfl
   |some d=>
    rw [bz,bn] at h1;simp only [Q3y,QoE,QoL,Q1p] at h1 ⊢;obtain ⟨g1,g2⟩:=Q7s recs 0 aj h1.2.2;refine ⟨h1.1,h1.2.1,Q6I recs 0 aj g1 fun k b hb hl hn=>?_⟩;have bh:=(QoG.1 hb).1;rcases Nat.lt_trichotomy k i with h | h | h
    ·exact g2 k b hb (by rw [Ha Q0];omega) hn
    ·subst h;simp only [QoP] at hl;exact absurd hl a3
    ·cases hg:gds d b.dl.v with
     |false=>rfl
     |true=>simp only [QoP] at hl;exact absurd hl (ao k b h hb (.inr (by simp [QfA,bz,hg])))
  have c4:WI (DJ listed 0 aj recs) rc.dl.wr=true:=by
   refine Q4J fun l ob hm au=>?_
   have hs:=Q1k hm;have a8:∀ k b,recs[k]? = some b->Lst listed (0+k)->∀ o,(l,o)∈b.dl.wr->o.isSome=true:=by
    intro k b hb bm o ho;simp only [QoP] at bm;cases o with
    |some _=>rfl
    |none=>
     exfalso;rcases Nat.lt_trichotomy k i with h | h | h
     ·have:=Q6w (QcO k b b5 hb) ho rc (List.mem_of_getElem? (i:=i-k) (by rw [QoO,show k+(i-k)=i from Q0];exact aq));rw [hs] at this;cases this
     ·subst h;exact a3 bm
     ·have bo:TB (wrL rc.dl) (wrL b.dl)=true:=N7 (x:=l) (N9 hs) (QoX.2 ⟨_,ho,rfl⟩);exact ao k b h hb (.inl (by simp [Up,bo])) bm
   rw [C0] at au;have hz:look aj.h l=none:=by
    cases hz:look aj.h l with
    |none=>rfl
    |some cp=>
     have:=Q38 (listed:=listed) recs 0 (look aj.h) a8 (.inl (by simp [hz]));rw [au] at this;cases this
   have b6:∀ k b,k<i->recs[k]? = some b->Uf l b.dl.wr=false:=by
    intro k b hk hb;cases hh:Uf l b.dl.wr with
    |false=>rfl
    |true=>
     have bo:TB (wrL b.dl) (wrL rc.dl)=true:=N7 (x:=l) (N9 hh) (N9 hs);have hc:Up b rc=true:=by simp [Up,bo]
     have:=Q38 (listed:=listed) recs 0 (look aj.h) a8 (.inr ⟨k,b,hb,by simpa using bi k b hk hb hc,hh⟩);rw [au] at this;cases this
   obtain ⟨a4,g1,g2,g3⟩:=LH az i rc aq;have bk:l∈Pj aj a4 rc.dl.wr:=Q3F hz (fun hl=>by
    rcases g1 l hl with h | ⟨k',b,h1,h2,h3⟩
    ·simp at h
    ·rw [b6 k' b h1 h2] at h3;cases h3) hs
   obtain ⟨g4,_,g6⟩:=g3 l bk;refine Q3S recs 0 aj g4 fun k b hb hl=>?_
   simp only [QoP] at hl;have bh:=(QoG.1 hb).1;rcases Nat.lt_trichotomy k i with h | h | h
   ·exact g6 k b h hb
   ·subst h;exact absurd hl a3
   ·cases hr:Cl l b with
    |false=>rfl
    |true=>
     exfalso;obtain ⟨m,bv,hc⟩:=Dg g2 (k-(i+1)) b (by rw [QoO,show i+1+(k-(i+1))=k from Q0];exact hb);rw [QoO,show i+1+(k-(i+1))=k from Q0] at bv;exact ay k m bv Q0 (by have:=hc (.inr (.inl ⟨l,bk,hr⟩));simpa using this) hl
  have b9:=a7 _ a w hR c1 c2 c3 c4 Q;have ar:i<listed.size:=Q0
  refine wpOp_mono (fun a' w' b3=>?_) b9;refine ih (listed.setIfInBounds i true) a' w' (by simpa using aw) ?_ ?_ ?_
  ·intro j oj a6 hl e he hb;rw [BI ar] at hl ⊢;rcases hl with rfl | hl
   ·have:oj=o:=by
     have:ac[j]? = some oj:=by simpa using a6
     rw [ho] at this;injection this with this;exact this.symm
    subst this;exact .inr (b0 e he hb)
   ·exact .inr (bc j oj a6 hl e he hb)
  ·have:(List.range ac.size).countP (fun j=>!(listed.setIfInBounds i true).getD j false)<(List.range ac.size).countP (fun j=>!listed.getD j false):=by
    refine Q4O (i:=i) (by simpa using br) (fun x _ hx=>?_) ?_ ?_
    ·cases hl:listed.getD x false with
     |false=>rfl
     |true=>
      have:Lst (listed.setIfInBounds i true) x:=(BI ar).2 (.inr hl);simp only [Lst] at this;rw [this] at hx;cases hx
    ·cases hl:listed.getD i false with
     |false=>rfl
     |true=>exact absurd hl a3
    ·have:Lst (listed.setIfInBounds i true) i:=(BI ar).2 (.inl rfl);simp only [Lst] at this;rw [this];rfl
   omega
  ·have an:∀ k,k≠i->(Lst (listed.setIfInBounds i true) (0+k)↔Lst listed (0+k)):=fun k hk=>by
    rw [BI ar];simp only [QoP];exact ⟨fun h=>h.resolve_left hk,.inr⟩
   have bg:Lst (listed.setIfInBounds i true) (0+i):=by rw [BI ar];exact .inl (QoP i)
   refine b3.same ?_ (fun t=>?_) ?_
   ·rw [Q1p];simp [put,Q1p]
   ·rw [LB,Q94];by_cases e:rc.dst=some t
    ·rw [if_pos e];refine Q7z recs 0 i rc _ aq bg e rfl fun k' b hk hb hl=>?_
     intro a2;rw [an k' Q0] at hl;simp only [QoP] at hl;exact ao k' b hk hb (.inl (by simp [Up,e,a2])) hl
    ·rw [QoW e,LB];refine EJ recs 0 _ fun k b hb a2=>an k (fun e2=>?_)
     subst e2;rw [aq] at hb;injection hb with hb;subst hb
     exact e a2
   ·rw [C0];funext l;have:look (put (DJ listed 0 aj recs) rc.dst rc.dl).h l=Hl (hA listed 0 (look aj.h) recs) rc.dl.wr l:=by
     simp only [put,HH,C0]
    rw [this];by_cases e:l∈wrL rc.dl
    ·exact Q9d _ recs 0 i rc _ aq bg e fun k' b hk hb hl hw=>by
      rw [an k' Q0] at hl;simp only [QoP] at hl;exact ao k' b hk hb (.inl (by simp [Up,N7 e hw])) hl
    ·rw [Vf e];refine Bq recs 0 _ _ rfl fun k b hb hw=>an k (fun e2=>?_)
     subst e2;rw [aq] at hb;injection hb with hb;subst hb
     exact e hw
end
end Go.Vx
namespace Go.Vx
variable {β:Nat->oP Nat} {S:Nat->Prop} {w:World} {st:St} {a:Act}
section
variable {P:Program} {E:Env} {R:Type}
def inv (ρ:List (Nat×Nat)) (k:Nat):oP Nat:=
 match ρ with
 |[]=>none
 |(l,l')::r=>if l'=k then some l else inv r k
theorem Q9G {k l:Nat}:∀ {ρ:List (Nat×Nat)},inv ρ k=some l->(l,k)∈ρ
 |(a,b)::r,h=>by
  unfold inv at h;by_cases e:b=k
  ·rw [if_pos e] at h;injection h with h;subst e;subst h;simp
  ·rw [QoW e] at h;simp [Q9G h]
theorem HX {ρ:List (Nat×Nat)} {f:Nat×Nat->Nat} (h:Xm (ρ.map f)=true):∀ p q,p∈ρ->q∈ρ->f p=f q->p=q:=by
 induction ρ with
 |nil=>simp_all
 |cons x r ih=>
  simp only [QoR,Xm,QoE,QoL] at h;have hx:∀ q∈r,f q≠f x:=fun q hq e=>by
   have:Si (f x) (r.map f)=true:=Bf.2 (QoX.2 ⟨q,hq,e⟩)
   simp_all
  grind
theorem Q49 {ρ:List (Nat×Nat)} (h:Xm (ρ.map (·.2))=true) {l k:Nat} (hm:(l,k)∈ρ):inv ρ k=some l:=by
 induction ρ with
 |nil=>simp at hm
 |cons x r ih=>
  obtain ⟨a,b⟩:=x;unfold inv;by_cases e:b=k
  ·have:=HX h (a,b) (l,k) Q2 hm e
   simp_all
  ·rcases QoK.1 hm with hm | hm
   all_goals simp_all [absurd,QoR,Xm,QoE]
theorem YH {α:Type} {l:Nat} {o:α}:∀ {ρ:List (Nat×α)},look ρ l=some o->(l,o)∈ρ
 |(a,b)::r,h=>by
  rw [Y7] at h;by_cases e:l=a
  ·rw [if_pos e] at h;injection h with h;subst e;subst h;simp
  ·rw [QoW e] at h;simp [YH h]
theorem SC {ρ:List (Nat×Nat)} {h:List (Nat×Ob)}:∀ {ρs:List (Nat×Nat)} {k:Nat} {o:Ob},look (Di ρ h ρs) k=some o->∃ l o',(l,k)∈ρs/\look h l=some o'/\o=Qck ρ o'
 |[],k,o,hk=>by simp [Di,look] at hk
 |(l,l')::r,k,o,hk=>by
  unfold Di at hk;split at hk
  ·rename_i o' ac;rw [Y7] at hk;by_cases e:k=l'
   ·rw [if_pos e] at hk;injection hk with hk
    subst e;exact ⟨l,o',by simp,ac,hk.symm⟩
   ·rw [QoW e] at hk;obtain ⟨l2,o2,h1,h2⟩:=SC hk;exact ⟨l2,o2,by simp [h1],h2⟩
  ·obtain ⟨l2,o2,h1,h2⟩:=SC hk;exact ⟨l2,o2,by simp [h1],h2⟩
theorem R4 {ρ:List (Nat×Nat)} {h:List (Nat×Ob)}:∀ {ρs:List (Nat×Nat)} {l k:Nat} {o:Ob},Xm (ρs.map (·.2))=true->(l,k)∈ρs->look h l=some o->look (Di ρ h ρs) k=some (Qck ρ o)
 |[],l,k,o,_,hm,_=>by simp at hm
 |(a,b)::r,l,k,o,hn,hm,ho=>by
  have an:=hn;simp only [QoR,Xm,QoE,QoL] at hn;unfold Di;rcases QoK.1 hm with e | ac
  ·injection e with e1 e2
   subst e1;subst e2;rw [ho];simp [Y7]
  ·have aj:k≠b:=fun e=>by
    subst e;have:Si k (r.map (·.2))=true:=Bf.2 (QoX.2 ⟨(l,k),ac,rfl⟩);rw [hn.1] at this;cases this
   have ih:=R4 (ρ:=ρ) (h:=h) hn.2 ac ho;split
   ·rw [Y7,QoW aj];exact ih
   ·exact ih
theorem Je {ρ:List (Nat×Nat)}:∀ {l:List AV} {i:Nat},(Q3i ρ l)[i]? = (l[i]?).map (UB ρ)
 |[],i=>by simp [Q3i]
 |a::r,0=>by simp [Q3i]
 |a::r,i+1=>by simp only [Q3i,List.getElem?_cons_succ];exact Je
theorem Zp {ρ:List (Nat×Nat)}:∀ {l:List AV},(Q3i ρ l).length=l.length
 |[]=>rfl
 |a::r=>by simp [Q3i,Zp (l:=r)]
theorem Q1I {ρ:List (Nat×Nat)} {ty:TypeId} {cells:List AV} (h:Q7Y ty cells):Q7Y ty (Q3i ρ cells):=by
 intro i l t hi;rw [Je,QoF] at hi;obtain ⟨y,hy,he⟩:=hi;cases y with
 |sa l' t'=>
  simp only [UB] at he;split at he
  ·injection he with h1 h2
   subst h2;exact h i l' _ hy
  ·cases he
 |ptr a b=>grind [UB]
 |arr a=>grind [UB]
 |ap a b c=>simp only [UB] at he;split at he <;> cases he
 |_=>trivial
theorem Qc2 {ty:TypeId} {cells:List AV} {c l:Nat} (h:Q7Y ty cells):Q7Y ty (cells.set c (.arr l)):=by
 intro i l' t hi;rw [List.getElem?_set] at hi;split at hi
 ·simp_all
 ·exact h i l' t hi
theorem Q7k {ρ:List (Nat×Nat)} {h:List (Nat×Ob)} (hn:Xm (ρ.map (·.2))=true) {β':Nat->oP Nat} (aw:∀ l k,(l,k)∈ρ->β' k=β l) {tm:Nat->Value} {v:Value} {av:AV}
  (hv:RdA β S (look h) w tm v av):RdA β' S (look (Di ρ h ρ)) w tm v (UB ρ av):=by
 have hβ:∀ {l l':Nat},look ρ l=some l'->β' l'=β l:=fun {l l'} hl=>aw l l' (YH hl)
 have aj:∀ {l l':Nat},look ρ l=some l'->look h l=none->look (Di ρ h ρ) l'=none:=fun {l l'} hl hh=>by
  cases hk:look (Di ρ h ρ) l' with
  |none=>rfl
  |some o=>
   obtain ⟨l2,o2,h1,h2,_⟩:=SC hk;have e1:=Q49 hn h1;rw [Q49 hn (YH hl)] at e1
   simp_all
 induction hv with
 |top v=>exact .top v
 |d v x hx=>exact .d v x hx
 |nil=>exact .nil
 |ag cs l hl _ ih=>
  refine .ag cs _ (by grind [Zp]) fun i x hx=>?_
  grind [Je,Option.map_eq_some_iff]
 |tup cs l hl _ ih=>
  refine .tup cs _ (by rw [Zp];exact hl) fun i x hx=>?_
  rw [Je,QoF] at hx
  grind
 |fn f cs l hl _ ih=>
  refine .fn f cs _ (by rw [Zp];exact hl) fun i x hx=>?_
  rw [Je,QoF] at hx;obtain ⟨y,hy,rfl⟩:=hx;exact ih i y hy
 |ptr l off b hb=>
  unfold UB;split
  ·rename_i l' hl;exact .ptr _ _ _ ((hβ hl).trans hb)
  ·exact .top _
 |sa v l t b hb hv=>
  unfold UB;split
  ·rename_i l' hl;exact .sa _ _ _ b ((hβ hl).trans hb) hv
  ·exact .top _
 |el ad row off c hs hc hr=>exact .el ad row off c hs hc hr
 |fs ad s rows hx=>exact .fs ad s rows hx
 |mpd v f hm=>exact .mpd v f hm
 |ex v=>exact .ex v
 |arr0 l e s hb hh=>
  unfold UB;split
  ·rename_i l' hl;exact .arr0 _ e s ((hβ hl).trans hb) (R4 hn (YH hl) hh)
  ·exact .top _
 |arr l b cap e s rows cs ty fz hb hh hw au aq ar=>
  unfold UB;split
  ·rename_i l' hl;exact .arr _ b cap e s rows cs ty fz ((hβ hl).trans hb) (R4 hn (YH hl) hh) hw au aq ar
  ·exact .top _
 |mp l b t f hb hh=>
  unfold UB;split
  ·rename_i l' hl;exact .mp _ b t f ((hβ hl).trans hb) (R4 hn (YH hl) hh)
  ·exact .top _
 |ap l i off b e s rows hb hh=>
  unfold UB;split
  ·rename_i l' hl;exact .ap _ i off b e s rows ((hβ hl).trans hb) (R4 hn (YH hl) hh)
  ·exact .top _
 |dang v av l hl hh h1=>
  cases av <;> simp [Mp] at hl
  ·subst hl;unfold UB;split
   ·rename_i l' an;exact .dang _ _ l' rfl (aj an hh) h1
   ·exact .top _
  ·subst hl;unfold UB;split
   ·rename_i l' an;exact .dang _ _ l' rfl (aj an hh) h1
   ·exact .top _
 |gdT=>exact .top _
 |gdF=>exact .top _
theorem Q1y {ρ:List (Nat×Nat)} {tm:List (Nat×AV)} {t:Nat} {av:AV}:∀ {ks:List Nat},look (Qag ρ tm ks) t=some av->av=UB ρ (lkT tm t)
 |k::r,h=>by
  simp only [Qag,Y7] at h;by_cases e:t=k
  ·rw [if_pos e] at h;injection h with h;rw [<- h,e]
  ·rw [QoW e] at h;exact Q1y h
theorem QbK {ρ:List (Nat×Nat)} {ks:List Nat} (h1:Xm (ρ.map (·.1))=true) (h2:Xm (ρ.map (·.2))=true) (h3:∀ l k,(l,k)∈ρ->l=k\/k<=999999) (h:HZ E st a w):HZ E { n:=st.n,tm:=Qag ρ st.tm ks,h:=Di ρ st.h ρ } a w:=by
 obtain ⟨β,S,hR⟩:=h;have hβ:∀ l k,(l,k)∈ρ->(if 1000000<=k then β k else (inv ρ k).bind β)=β l:=by
  intro l k hm;split
  ·grind
  ·rw [Q49 h2 hm];rfl
 have ac:∀ {k b:Nat},(look (Di ρ st.h ρ) k).isSome=true->(if 1000000<=k then β k else (inv ρ k).bind β)=some b->∃ l,(l,k)∈ρ/\(look st.h l).isSome=true/\β l=some b:=by
  grind [Option.isSome_iff_exists,SC]
 refine ⟨fun k=>if 1000000<=k then β k else (inv ρ k).bind β,S,hR.n,hR.dfr,fun t av ht=>?_,⟨fun k o ho=>?_,fun k k' b s1 s2 b1 b2=>?_,fun k b s1 b1=>?_,fun k b s1 b1=>?_,hR.hr.sb,hR.hr.sfr,hR.hr.s0,hR.hr.fr,fun k hk=>by simp only [if_pos hk];exact hR.hr.pin k hk,fun k b hk s1 b1=>?_⟩⟩
 ·rw [Q1y ht];refine Q7k h2 hβ ?_;unfold lkT;cases hl:look st.tm t with
  |none=>exact .top _
  |some ay=>exact hR.tm t ay hl
 ·obtain ⟨l,o',g1,g2,rfl⟩:=SC ho;have ak:=hβ l k g1;have an:=hR.hr.ob l o' g2;cases o' with
  |box cells=>
   obtain ⟨b,ty,cs,fz,hb,hw,hf,ao,hr⟩:=an;refine ⟨b,ty,cs,fz,ak.trans hb,hw,⟨hf.1,Q1I hf.2⟩,by rw [ao,Zp],fun i x hx=>?_⟩;rw [Je,QoF] at hx;obtain ⟨y,hy,rfl⟩:=hx
   grind [Q7k]
  |arr e s rows=>
   rcases an with ⟨hb,hn⟩ | ⟨b,cs,hb,hw,ao,aw,hr⟩
   ·exact .inl ⟨ak.trans hb,hn⟩
   ·exact .inr ⟨b,cs,ak.trans hb,hw,ao,aw,hr⟩
  |mp t f=>
   obtain ⟨b,hb,hm⟩:=an;exact ⟨b,ak.trans hb,hm⟩
 ·obtain ⟨l,g1,g2,g3⟩:=ac s1 b1;obtain ⟨l',ar,au,ax⟩:=ac s2 b2;have:=hR.hr.inj l l' b g2 au g3 ax;subst this;have:=HX h1 (l,k) (l,k') g1 ar rfl
  simp_all
 ·obtain ⟨l,g1,g2,g3⟩:=ac s1 b1;exact hR.hr.apart l b g2 g3
 ·obtain ⟨l,g1,g2,g3⟩:=ac s1 b1;exact hR.hr.own l b g2 g3
 ·obtain ⟨l,g1,g2,g3⟩:=ac s1 b1;rcases h3 l k g1 with h | h
  ·subst h;exact hR.hr.psz l b hk g2 g3
  ·omega
theorem Q4k {t k:Nat} {v av:AV}:∀ {tm:List (Nat×AV)},look (Qhc tm t v) k=some av->(k=t/\av=v)\/look tm k=some av
 |(a,b)::r,h=>by
  unfold Qhc at h;cases hb:Nat.beq a t with
  |true=>
   have:=QoD hb;subst this;simp only [hb,QoJ,Y7] at h;by_cases e:k=a
   ·rw [if_pos e] at h;injection h with h;exact .inl ⟨e,h.symm⟩
   ·rw [QoW e] at h;exact .inr (by rw [Y7,QoW e];exact h)
  |false=>
   simp only [hb,QoU,Y7] at h;by_cases e:k=a
   ·rw [if_pos e] at h;exact .inr (by rw [Y7,if_pos e];exact h)
   ·rw [QoW e] at h;rcases Q4k h with h | h
    ·exact .inl h
    ·exact .inr (by rw [Y7,QoW e];exact h)
theorem Q40 (hR:Rel E β S st a w) {l e s:Nat} (hc:UY st l=true) (hn:look st.h l=none):Rel E (RY β l none) S ⟨st.n,st.tm,(l,.arr e s [])::st.h⟩ a w:=by
 have aj:∀ k,look ((l,Ob.arr e s [])::st.h) k=if k=l then some (.arr e s []) else look st.h k:=fun k=>Y7 l k _ st.h
 have ac:∀ {k b:Nat},(look ((l,Ob.arr e s [])::st.h) k).isSome=true->RY β l none k=some b->(look st.h k).isSome=true/\β k=some b:=by
  intro k b h1 h2
  simp_all [RY,if_pos,QoW]
 refine hR.upd (fun _ h=>h) (fun _ _=>rfl) (fun k=>k=l) (fun k hk=>⟨by grind [RY],by simp_all,fun _ _ _=>rfl⟩) (fun k hk=>.inr (hk▸hc)) (fun k o hk ho=>?_) (fun k k' b h1 h2 h3 h4=>?_) (fun k b h1 h2=>?_) (fun k b h1 h2=>?_) hR.hr.sb hR.hr.sfr hR.hr.fr
 ·subst hk;rw [aj,if_pos rfl] at ho;injection ho with ho
  subst ho;exact .inl ⟨by simp [RY],rfl⟩
 ·exact hR.hr.inj k k' b (ac h1 h3).1 (ac h2 h4).1 (ac h1 h3).2 (ac h2 h4).2
 ·exact hR.hr.apart k b (ac h1 h2).1 (ac h1 h2).2
 ·exact hR.hr.own k b (ac h1 h2).1 (ac h1 h2).2
theorem Be {a:Act} {w:World}:∀ (l:List (Nat×Nat×Nat×Nat)) (st:St),HZ E st a w->HZ E (QeL st l) a w
 |[],st,h=>h
 |(t,l,e,s)::r,st,h=>by
  unfold QeL;split
  ·rename_i aj;cases hc:(UY st l&&(look st.h l).isNone) with
   |false=>simp only [QoU];exact Be r st h
   |true=>
    simp only [QoJ];refine Be r _ ?_;simp only [QoE,Option.isNone_iff_eq_none] at hc;obtain ⟨β,S,hR⟩:=h;have ac:=Q40 (e:=e) (s:=s) hR hc.1 hc.2;have hv:=(hR.tm t _ (Rn aj Q2)).nil_inv;refine ⟨_,S,ac.n,ac.dfr,fun t' av ht=>?_,ac.hr⟩;rcases Q4k ht with ⟨rfl,rfl⟩ | ht
    ·rw [hv];exact .arr0 l e s (by simp [RY]) (by simp [Y7])
    ·exact ac.tm t' av ht
  ·exact Be r st h
theorem EA {a:Act} {w:World}:∀ (l:List (Nat×Nat×Nat×Nat×Nat)) (st:St),HZ E st a w->HZ E (QeE st l) a w
 |[],st,h=>h
 |(b,c,l,e,s)::r,st,h=>by
  unfold QeE;split
  ·rename_i cells a4;split
   ·rename_i aq;cases hc:(UY st l&&(look st.h l).isNone) with
    |false=>simp only [QoU];exact EA r st h
    |true=>
     simp only [QoJ];refine EA r _ ?_;simp only [QoE,Option.isNone_iff_eq_none] at hc;obtain ⟨β,S,hR⟩:=h;have ay:b≠l:=fun e=>by simp_all
     have aw:=Q40 (e:=e) (s:=s) hR hc.1 hc.2;have ac:look ((l,Ob.arr e s [])::st.h) b=some (.box cells):=by simp_all [Y7,QoW]
     obtain ⟨bb,ty,cs,fz,hb,hw,hf,a2,hr⟩:=aw.hr.ob b _ ac;have ax:=aw.set (w':=w) (o':=.box (cells.set c (.arr l))) ac hb (fun _ _=>rfl) rfl rfl rfl rfl ?_ ?_
     ·refine HZ.same ⟨_,S,ax⟩ rfl (fun _=>rfl) ?_
      grind [Y7,Bg]
     ·refine ⟨rfl,fun h=>?_,fun e' s' rows h=>?_,fun b2 aj an ao _ _ ak=>⟨aj,an,ao,ak,rfl⟩,fun t f h=>by simp_all⟩
      all_goals grind
     ·have ar:∀ k,Keep (RY β l none) (look ((l,Ob.arr e s [])::st.h)) w (RY β l none) (look ((b,.box (cells.set c (.arr l)))::rem b ((l,Ob.arr e s [])::st.h))) w k:=by
       intro k;by_cases e1:k=b
       ·subst e1;refine ⟨rfl,fun h=>?_,fun e' s' rows h=>?_,fun b2 aj an ao _ _ ak=>⟨aj,an,ao,ak,rfl⟩,fun t f h=>by rw [ac] at h;cases h⟩
        ·rw [ac] at h;cases h
        ·rw [ac] at h;cases h
       ·refine ⟨rfl,fun h=>by rw [Uk,QoW e1];exact h,fun e' s' rows h=>.inr ⟨rows,by rw [Uk,QoW e1];exact h,rfl⟩,fun b2 aj an ao _ _ ak=>⟨aj,an,ao,ak,rfl⟩,fun _ f h=>.inr ⟨f,by rw [Uk,QoW e1];exact h⟩⟩
      refine ⟨bb,ty,cs,fz,hb,hw,⟨hf.1,Qc2 hf.2⟩,by simpa using a2,fun i x hx=>?_⟩;by_cases e1:i=c
      ·subst e1;have az:=(QoG.1 aq).1;rw [List.getElem?_set_self az] at hx;injection hx with hx
       subst hx;rw [(hr i _ aq).nil_inv];exact .arr0 l e s (by simp [RY]) (by rw [Uk,QoW (Ne.symm ay),Y7,if_pos rfl])
      ·rw [List.getElem?_set_ne (Ne.symm e1)] at hx;exact (hr i x hx).mono (fun _ h=>h) (fun _ _=>rfl) (fun k _=>ar k) (fun _ _=>rfl)
   ·exact EA r st h
  ·exact EA r st h
theorem Qa8 (c:Cfg) (h:HZ E st a w):HZ E (Qe6 c st) a w:=by
 unfold Qe6;cases hc:(Xm (c.locs.map (·.1))&&(Xm (c.locs.map (·.2))&&c.locs.all fun p=>Nat.beq p.1 p.2||Nat.ble p.2 999999)) with
 |false=>simpa using h
 |true=>
  simp only [QoE] at hc;exact EA _ _ (Be _ _ (QbK hc.1 hc.2.1 (fun l k hm=>by
   simp_all) h))
theorem DG {l s:Nat} {rows:List (List D)}:∀ {r:List AV} {i:Nat},(fzL l s rows r)[i]? = (r[i]?).map (fzA l s rows)
 |[],i=>by simp [fzL]
 |a::r,0=>by simp [fzL]
 |a::r,i+1=>by simp only [fzL,List.getElem?_cons_succ];exact DG
theorem R3 {l s:Nat} {rows:List (List D)}:∀ {r:List AV},(fzL l s rows r).length=r.length
 |[]=>rfl
 |a::r=>by simp [fzL,R3 (r:=r)]
theorem Q7L {l s:Nat} {rows:List (List D)} {t:Nat}:∀ {tm:List (Nat×AV)},look (fzT l s rows tm) t=(look tm t).map (fzA l s rows)
 |[]=>rfl
 |(a,b)::r=>by
  simp only [fzT,Y7];by_cases e:t=a
  ·simp [e]
  ·simp only [e,if_false];exact Q7L
theorem AG {l s:Nat} {rows:List (List D)} {k:Nat}:∀ {h:List (Nat×Ob)},look (QcT l s rows h) k=if k=l then none else (look h k).map (fzO l s rows)
 |[]=>by simp [QcT,look]
 |(a,b)::r=>by
  simp only [QcT];cases hb:Nat.beq a l with
  |true=>
   have:=QoD hb;subst this;simp only [QoJ];rw [AG (h:=r),Y7];by_cases e:k=a
   ·simp [e]
   ·simp [e]
  |false=>
   have ac:a≠l:=fun e=>by subst e;simp at hb
   simp only [QoU,Y7];by_cases e:k=a
   ·subst e;simp [ac]
   ·simp only [e,if_false];exact AG
theorem Qe4 {ty:TypeId} {l s:Nat} {rows:List (List D)} {cells:List AV} (h:Q7Y ty cells):Q7Y ty (fzL l s rows cells):=by
 intro i l' t hi;rw [DG,QoF] at hi;obtain ⟨y,hy,he⟩:=hi;cases y with
 |sa a b=>injection he with h1 h2;subst h2;exact h i a _ hy
 |arr k=>grind [fzA,Nat.beq]
 |ap k a b=>grind [fzA]
 |_=>trivial
theorem Qcz {h h':Nat->oP Ob} {l e s:Nat} {rows:List (List D)} (hO:Objs β S h w) (hh:h l=some (.arr e s rows)) (ao:∀ k,h' k=if k=l then none else (h k).map (fzO l s rows)) {S':Nat->Prop} (hS:∀ b,S b->S' b) (hb:∀ b,β l=some b->S' b)
  {tm:Nat->Value} {v:Value} {av:AV} (hv:RdA β S h w tm v av):RdA β S' h' w tm v (fzA l s rows av):=by
 induction hv with
 |top v=>exact .top v
 |d v x hx=>exact .d v x (hx.mono hS (fun _ _=>rfl))
 |nil=>exact .nil
 |ag cs r hl _ ih=>
  refine .ag cs _ (by grind [R3]) fun i x hx=>?_
  grind [DG,Option.map_eq_some_iff]
 |tup cs r hl _ ih=>
  refine .tup cs _ (by rw [R3];exact hl) fun i x hx=>?_
  rw [DG,QoF] at hx
  grind
 |fn f cs r hl _ ih=>
  refine .fn f cs _ (by rw [R3];exact hl) fun i x hx=>?_
  rw [DG,QoF] at hx;obtain ⟨y,hy,rfl⟩:=hx;exact ih i y hy
 |ptr k off b ac=>exact .ptr k off b ac
 |sa v k t b ac hv=>exact .sa v k t b ac hv
 |el ad row off c hs hc hr=>exact .el ad row off c (hS _ hs) hc (fun j x hx=>(hr j x hx).mono hS (fun _ _=>rfl))
 |fs ad s rows hx=>exact .fs ad s rows (hx.mono hS (fun _ _=>rfl))
 |mpd v f hm=>exact .mpd v f (hm.mono hS (fun _ _=>rfl))
 |ex v=>exact .ex v
 |arr0 k e' s' ac hk=>
  unfold fzA;cases an:Nat.beq k l with
  |true=>
   obtain rfl:=QoD an;rw [hh] at hk;injection hk with hk
   injection hk with _ _ hk
   subst hk;exact .d _ _ (.sl0 _ _ _)
  |false=>
   have aj:k≠l:=fun e=>by simp_all
   exact .arr0 k e' s' ac (by rw [ao,QoW aj,hk];rfl)
 |arr k b cap e' s' ak cs ty fz ac hk hw aw aq ar=>
  unfold fzA;cases an:Nat.beq k l with
  |true=>
   obtain rfl:=QoD an;exact .d _ _ (Q7F hO hh (RdA.arr (tm:=tm) k b cap e' s' ak cs ty fz ac hk hw aw aq ar) hS hb)
  |false=>
   have aj:k≠l:=fun e=>by subst e;simp at an
   exact .arr k b cap e' s' ak cs ty fz ac (by rw [ao,QoW aj,hk];rfl) hw aw aq ar
 |mp k b t f ac hk=>
  unfold fzA;cases an:Nat.beq k l with
  |true=>
   simp_all
  |false=>
   have aj:k≠l:=fun e=>by subst e;simp at an
   exact .mp k b t f ac (by rw [ao,QoW aj,hk];rfl)
 |ap k i off b e' s' ak ac hk=>
  unfold fzA;cases an:Nat.beq k l with
  |true=>exact .top _
  |false=>
   have aj:k≠l:=fun e=>by subst e;simp at an
   exact .ap k i off b e' s' ak ac (by rw [ao,QoW aj,hk];rfl)
 |dang v av k hl hk h1=>
  have aj:k≠l:=fun e=>by simp_all
  have hn:h' k=none:=by rw [ao,QoW aj,hk];rfl
  cases av <;> simp [Mp] at hl
  ·subst hl;unfold fzA;rw [QdU aj];exact .dang _ _ _ rfl hn h1
  ·subst hl;unfold fzA;rw [QdU aj];exact .dang _ _ _ rfl hn h1
 |gdT=>exact .top _
 |gdF=>exact .top _
theorem Qev (l:Nat) (h:HZ E st a w):HZ E (fz1 st l) a w:=by
 unfold fz1;split
 case h_2=>exact h
 rename_i e s rows hl;obtain ⟨β,S,hR⟩:=h;have hO:=hR.objs;have au:∀ k,look (QcT l s rows st.h) k=if k=l then none else (look st.h k).map (fzO l s rows):=fun k=>AG
 have hS:∀ b,S b->fzS β S [l] b:=fun b hb=>.inl hb
 have ax:∀ b,β l=some b->fzS β S [l] b:=fun b hb=>.inr ⟨l,by simp,hb⟩
 have ac:∀ k,(look (QcT l s rows st.h) k).isSome=true->(look st.h k).isSome=true/\k≠l:=by
  grind
 refine ⟨β,fzS β S [l],hR.n,hR.dfr,fun t av ht=>?_,⟨fun k o ho=>?_,fun k k' b h1 h2=>hR.hr.inj k k' b (ac k h1).1 (ac k' h2).1,fun k b h1 h2 aj=>?_,fun k b h1 h2=>hR.hr.own k b (ac k h1).1 h2,fun b aj=>?_,fun b aj=>?_,fun b hb=>.inl (hR.hr.s0 b hb),hR.hr.fr,hR.hr.pin,fun k b hk h1=>hR.hr.psz k b hk (ac k h1).1⟩⟩
 ·rw [Q7L,QoF] at ht;obtain ⟨a5,h1,rfl⟩:=ht;exact Qcz hO hl au hS ax (hR.tm t a5 h1)
 ·simp only at ho;rw [au] at ho;by_cases e1:k=l
  ·simp_all
  ·rw [QoW e1,QoF] at ho;obtain ⟨o',a4,rfl⟩:=ho;have ao:=hR.hr.ob k o' a4;cases o' with
   |box cells=>
    obtain ⟨b,ty,cs,fz,hb,hw,hf,aq,hr⟩:=ao;refine ⟨b,ty,cs,fz,hb,hw,⟨hf.1,Qe4 hf.2⟩,by rw [aq,R3],fun i x hx=>?_⟩;rw [DG,QoF] at hx;obtain ⟨y,hy,rfl⟩:=hx
    grind [Qcz]
   |arr e' s' a2=>
    rcases ao with h0 | ⟨b,cs,hb,hw,aq,a3,hr⟩
    ·exact .inl h0
    ·refine .inr ⟨b,cs,hb,hw,aq,a3,fun i j r x h4 h5=>?_⟩;obtain ⟨v,hv,az⟩:=hr i j r x h4 h5;exact ⟨v,hv,az.mono hS (fun _ _=>rfl)⟩
   |mp t f=>exact ao
 ·obtain ⟨ar,ay⟩:=ac k h1;rcases aj with aj | ⟨l',ak,an⟩
  ·exact hR.hr.apart k b ar h2 aj
  ·simp at ak;subst ak;exact ay (hR.hr.inj k l' b ar (by simp [hl]) h2 an)
 ·rcases aj with aj | ⟨l',ak,an⟩
  ·exact hR.hr.sb b aj
  ·simp at ak;subst ak;exact NA hR (by simp [hl]) an
 ·rcases aj with aj | ⟨l',ak,an⟩
  ·exact hR.hr.sfr b aj
  ·simp at ak;subst ak;exact .inr (hR.hr.own l' b (by simp [hl]) an)
theorem QaT {a:Act} {w:World}:∀ (ls:List Nat) (st:St),HZ E st a w->HZ E (fzs st ls) a w
 |[],_,h=>h
 |l::r,_,h=>QaT r _ (Qev l h)
theorem PC (c:Cfg) (h:HZ E st a w):HZ E (QdJ c st) a w:=Qa8 _ (QaT c.fz st h)
theorem Q8P (c:Cfg) (h:HZ E st a w):HZ E (Qch c st) a w:=by
 grind [Qch,PC]
end
end Go.Vx
namespace Go.Vx
variable {β:Nat->oP Nat} {S:Nat->Prop} {w:World}
section
variable {P:Program} {E:Env} {R:Type}
theorem HZ.drawn {st:St} {a:Act} {w:World} (h:HZ E st a w) (n:Nat):HZ E st a { w with drawn:=n }:=by
 obtain ⟨β,S,hR⟩:=h;have hA:∀ (tm:Nat->Value) (v:Value) (av:AV),RdA β S (look st.h) w tm v av->RdA β S (look st.h) { w with drawn:=n } tm v av:=fun tm v av hv=>
  hv.mono (fun _ h=>h) (fun _ _=>rfl) (fun l _=>⟨rfl,fun x=>x,fun _ _ rows hh=>.inr ⟨rows,hh,rfl⟩,fun _ cs ty fz _ _ hw=>⟨cs,ty,fz,hw,rfl⟩,fun _ f hh=>.inr ⟨f,hh⟩⟩) (fun _ _=>rfl)
 refine ⟨β,S,hR.n,hR.dfr,fun t av ht=>hA _ _ _ (hR.tm t av ht),⟨fun l o ho=>?_,hR.hr.inj,hR.hr.apart,hR.hr.own,hR.hr.sb,hR.hr.sfr,hR.hr.s0,⟨hR.hr.fr.os,hR.hr.fr.tape,hR.hr.fr.output,hR.hr.fr.size,hR.hr.fr.block⟩,hR.hr.pin,hR.hr.psz⟩⟩;have ac:=hR.hr.ob l o ho;cases o with
 |box cells=>
  obtain ⟨b,ty,cs,fz,hb,hw,hf,aj,hr⟩:=ac;exact ⟨b,ty,cs,fz,hb,hw,hf,aj,fun i x hx=>hA _ _ _ (hr i x hx)⟩
 |arr e s rows=>
  rcases ac with h0 | ⟨b,cs,hb,hw,aj,ao,hr⟩
  ·exact .inl h0
  ·refine .inr ⟨b,cs,hb,hw,aj,ao,fun i j r x h4 h5=>?_⟩;obtain ⟨v,hv,ak⟩:=hr i j r x h4 h5;exact ⟨v,hv,Rd.mono (w:=w) (w':={ w with drawn:=n }) (fun _ h=>h) (fun _ _=>rfl) ak⟩
 |mp t f=>exact ac
structure VCOk (P:Program) (C:VC):Prop where
 spec:A3 P C.spec
 tt:TOk P C.tt
 mixed:P.follows .mixedOrders=true
def Q0H (E:Env) (k:Exit->St->oP R) (r:R):Exit->Act->World->Prop:=fun e a w=>∃ st,HZ E st a w/\k e st=some r
theorem Fz {C:VC} (hC:VCOk P C) {id:Nat} {ac:Array Oper} {aj:Bool} {st:St} {k:St->oP R} {r:R} (h:Q1H C id ac aj st k=some r) {a:Act} (hR:HZ E st a w) {Q:Exit->Act->World->Prop}
  (hQ:∀ st' a' w',HZ E st' a' w'->k st'=some r->Q .normal a' w'):(Code.region id ac aj).wp P Q a w:=by
 unfold Q1H at h;obtain ⟨recs,st',ak,h,an⟩:∃ recs st',recs.length=ac.toList.length/\(fun st' recs=>bif !aj||Q3t st ac.toList recs then (match look C.cfg id with | some c=>k (Qch c st') | none=>k st') else none) st' ([]++recs)=some r/\Q01 P E ac 0 st recs st':=by
  cases hs:(look C.cfg (id+1000000000)).isSome with
  |true=>simp only [hs,QoJ] at h;exact Q07 (E:=E) hC.spec hC.tt ac.toList 0 st [] _ r (fun j=>by simp) h
  |false=>simp only [hs,QoU] at h;exact Q1v (E:=E) hC.spec hC.tt ac.toList 0 st [] _ r (fun j=>by simp) h
 simp only [List.nil_append] at h;cases hc:(!aj||Q3t st ac.toList recs) with
 |false=>simp_all
 |true=>
  simp only [hc,QoJ] at h;have ao:∀ a w,HZ E st' a w->Q .normal a w:=by
   grind [Q8P]
  simp only [Array.length_toList] at ak;cases aj with
  |false=>
   grind [wp_region,Q8V,List.range_eq_range']
  |true=>
   simp only [Bool.not_true,Bool.false_or] at hc;refine wp_region_any hC.mixed ?_;refine Qbe ak an hc ao ac.size _ a _ Q2 ?_ ?_ ?_
   ·intro j o _ hl
    simp_all [Lst,Array.getD]
   ·refine Nat.le_trans List.countP_le_length ?_;simp
   ·have h0:∀ (rs:List Rec) (i:Nat) (s:St),DJ (Array.replicate ac.size false) i s rs=s:=by
     intro rs;induction rs with
     |nil=>intro i s;rfl
     |cons x r ih=>
      intro i s;simp only [DJ];have:(Array.replicate ac.size false).getD i false=false:=by simp [Array.getD]
      rw [this];exact ih (i+1) s
    rw [h0];exact hR.drawn _
theorem Q0b {c:Code} {aj:St->(Exit->St->oP R)->oP R} (ac:∀ (st:St) (k:Exit->St->oP R) (r:R),aj st k=some r->∀ a w,HZ E st a w->c.wp P (Q0H E k r) a w) :
  ∀ (n:Nat) (st:St) (k:Exit->St->oP R) (r:R),Q8X aj n st k=some r->∀ a w,HZ E st a w->Code.rounds P c (Q0H E k r) n a w
 |0,st,k,r,h=>by simp [Q8X] at h
 |n+1,st,k,r,h=>by
  intro a w hR;simp only [Q8X] at h;rw [rounds_succ];refine wp_mono (ac st _ r h a w hR) fun e a' w' hp=>?_
  obtain ⟨st',ak,hk⟩:=hp;cases e with
  |normal=>exact Q0b ac n st' k r hk a' w' ak
  |exit id=>exact ⟨st',ak,hk⟩
  |ret=>exact ⟨st',ak,hk⟩
  |_=>cases hk
theorem Q5h {C:VC} (hC:VCOk P C) (n:Nat):∀ (c:Code) (st:St) (k:Exit->St->oP R) (r:R),A4 C n c st k=some r->∀ a w,HZ E st a w->c.wp P (Q0H E k r) a w:=by
 intro c;induction c with
 |skip=>intro st k r h a w hR;exact wp_skip ⟨st,hR,h⟩
 |region id ar aq=>
  intro st k r h a w hR;exact Fz hC h hR fun st' a' w' ac hk=>⟨st',ac,hk⟩
 |seq x y an aj=>
  intro st k r h a w hR;refine wp_seq (wp_mono (an st _ r h a w hR) fun e a' w' hp=>?_);obtain ⟨st',ac,hk⟩:=hp;cases e with
  |normal=>exact aj st' k r hk a' w' ac
  |exit id=>exact ⟨st',ac,hk⟩
  |ret=>exact ⟨st',ac,hk⟩
  |_=>cases hk
 |cond c x y an aj=>
  intro st k r h a w hR;simp only [A4] at h;split at h
  ·rename_i e he;obtain ⟨β,S,ak⟩:=hR;have hv:=(he▸Q4T ak c).bool_inv;refine wp_cond hv ?_;cases e with
   |true=>exact an st k r (by simpa using h) a w ⟨β,S,ak⟩
   |false=>exact aj st k r (by simpa using h) a w ⟨β,S,ak⟩
  ·cases h
 |block id c ih=>
  intro st k r h a w hR;refine wp_block (wp_mono (ih st _ r h a w hR) fun e a' w' hp=>?_);obtain ⟨st',ac,hk⟩:=hp;cases e with
  |normal=>exact ⟨st',ac,hk⟩
  |exit j=>
   cases hb:Nat.beq j id with
   |true=>
    simp only [hb,QoJ] at hk;have:=QoD hb;simp only [Exit.inBlock,this,if_true];exact ⟨st',ac,hk⟩
   |false=>
    simp only [hb,QoU] at hk;have ao:¬ j=id:=fun e=>by simp_all
    simp only [Exit.inBlock,ao,if_false];exact ⟨st',ac,hk⟩
  |ret=>exact ⟨st',ac,hk⟩
  |_=>cases hk
 |loop c ih=>
  intro st k r h a w hR;refine wp_loop_rounds _ (Q0b (fun st k r h a w hR=>ih _ k r h a w ?_) _ st k r h a w hR)
  grind [Q1c,PC]
 |exit id=>intro st k r h a w hR;exact wp_exit ⟨st,hR,h⟩
 |ret=>intro st k r h a w hR;exact wp_ret ⟨st,hR,h⟩
 |_=>grind [A4]
theorem Ms:∀ (t:Nat) (av:AV),M6 av=true->gds t av=false
 |t,.gd ..,h=>by simp [M6] at h
 |t,.ag l,h=>by
  simp only [gds];exact go t l (by simpa [M6] using h)
 |t,.tup l,h=>by
  simp only [gds];exact go t l (by simpa [M6] using h)
 |t,.fn _ l,h=>by
  simp only [gds];exact go t l (by simpa [M6] using h)
 |t,.top,_=>rfl
 |t,.d _,_=>rfl
 |t,.nil,_=>rfl
 |t,.ptr ..,_=>rfl
 |t,.el ..,_=>rfl
 |t,.fs ..,_=>rfl
 |t,.mpd _,_=>rfl
 |t,.ex _,_=>rfl
 |t,.arr _,_=>rfl
 |t,.ap ..,_=>rfl
 |t,.sa ..,_=>rfl
where
 go:∀ (t:Nat) (l:List AV),HS l=true->Q0h t l=false
 |_,[],_=>rfl
 |t,a::r,h=>by
  simp only [HS,QoE] at h;simp only [Q0h,QoV];exact ⟨Ms t a h.1,go t r h.2⟩
theorem Q1h:∀ {args:List AV} {i t:Nat} {av:AV},look (Q4a i args) t=some av->∃ j,t=i+j/\args[j]? = some av
 |a::r,i,t,av,h=>by
  simp only [Q4a,Y7] at h;by_cases e:t=i
  ·rw [if_pos e] at h;injection h with h;exact ⟨0,Q0,by simp [h]⟩
  ·rw [QoW e] at h;obtain ⟨j,h1,h2⟩:=Q1h h;exact ⟨j+1,Q0,by simpa using h2⟩
theorem Q3J:∀ {l:List AV} {i:Nat} {x:AV},HS l=true->l[i]? = some x->M6 x=true
 |a::r,i,x,h,hx=>by
  simp only [HS,QoE] at h;cases i with
  |zero=>simp at hx;subst hx;exact h.1
  |succ i=>exact Q3J h.2 (by simpa using hx)
def Q5v (tmps:Array Value):ResultVar->Sem Value
 |.tmp t=>pure (tmps.getD t undef)
 |.cell x t=>do loadVar t (<- asAddr (tmps.getD x undef))
theorem Q1B (fn:Func) (tmps:Array Value):results fn tmps=(do
  let vs <- fn.results.mapM (Q5v tmps)
  pure (if h:vs.size=1 then vs[0] else .tuple vs)):=rfl
theorem Q1a {ad:Addr}:(asAddr (.pointer (some ad))).run P w = .ok ad w:=by simp [asAddr]
theorem Q4z {C:VC} (hC:VCOk P C) {st:St} {a:Act} (hR:Rel E β S st a w) {rv:ResultVar} {av:AV} (h:Q4u C.tt st rv=some av) :
  ∃ v,(Q5v a.tmps rv).run P w = .ok v w/\RdA β S (look st.h) w (tmv a) v av:=by
 cases rv with
 |tmp t=>
  simp only [Q4u,Option.some.injEq] at h;subst h;exact ⟨_,rfl,Q4T hR (.tmp t)⟩
 |cell x ty=>
  simp only [Q4u] at h;split at h
  ·rename_i l off hl;obtain ⟨b,hb,hv⟩:=(hR.tm x _ (Rn hl Q2)).ptr_inv;split at h
   ·rename_i cells ti aq az;have ar:=hC.tt ty ti az;obtain ⟨b',a4,cs,fz,a8,hw,_,a5,hr⟩:=hR.hr.ob l _ aq;obtain rfl:b=b':=by simp_all
    have hx:a.tmps.getD x undef = .pointer (some ⟨b,off,none⟩):=hv;cases hs:VH ti.kd with
    |true=>
     simp only [hs,QoJ] at h;split at h
     ·rename_i a6 a2;cases h;obtain ⟨h1,h2,h3⟩:=N5 a2;have ak:∀ j,j<ti.size->off+j<cs.size:=fun j hj=>by
       grind
      have ac:=Kl ar hs (w:=w) (a:=⟨b,off,none⟩) (vs:=(List.range ti.size).map fun j=>cs.getD (off+j) undef) Q2 (fun j v hv=>by
       simp only [List.getElem?_map,QoF] at hv;obtain ⟨j',ax,rfl⟩:=hv;obtain ⟨aj,he⟩:=QoG.1 ax;simp at aj he;subst he;rw [HQ,JC hw];exact Td (ak j aj))
      refine ⟨.agg ((List.range ti.size).map fun j=>cs.getD (off+j) undef).toArray,by simp only [Q5v,hx,QoM,Q1a,QoI,ac],.ag _ _ (by simp [h1]) fun i y hy=>?_⟩;have hi:i<ti.size:=by
       obtain ⟨h6,_⟩:=QoG.1 hy;omega
      rw [FP (v:=cs.getD (off+i) undef) (by simp [hi])];exact (hr (off+i) y ((h2 i hi).trans hy)).any_tm (h3 i y hy)
     ·cases h
    |false=>
     simp only [hs,QoU] at h;split at h
     ·rename_i c hc;cases an:Q12 c with
      |false=>simp [an] at h
      |true=>
       simp only [an,QoJ,Option.some.injEq] at h;subst h;have ak:off<cs.size:=by
        obtain ⟨h6,_⟩:=QoG.1 hc;omega
       have ac:=K7 ar hs (w:=w) (a:=⟨b,off,none⟩) (v:=cs.getD off undef) (by rw [JC hw];exact Td ak);exact ⟨cs.getD off undef,by simp only [Q5v,hx,QoM,Q1a,QoI,ac],(hr off c hc).any_tm an⟩
     ·cases h
   ·cases h
  ·cases h
theorem DZ {C:VC} (hC:VCOk P C) {st:St} {a:Act} {w:World} {β:Nat->oP Nat} {S:Nat->Prop} (hR:Rel E β S st a w):∀ {rs:List ResultVar} {ac:List AV},Q1A C.tt st rs=some ac ->
  ∃ vs:List Value,(rs.mapM (Q5v a.tmps)).run P w = .ok vs w/\vs.length=ac.length/\HS ac=true /\
   ∀ (i:Nat) (v:Value) (av:AV),vs[i]? = some v->ac[i]? = some av->RdA β S (look st.h) w (tmv a) v av
 |[],ac,h=>by
  simp only [Q1A,Option.some.injEq] at h;subst h;exact ⟨[],by simp,rfl,rfl,fun i v av h=>by simp at h⟩
 |r::rs,ac,h=>by
  simp only [Q1A] at h;split at h
  ·rename_i x hx;split at h
   ·rename_i l hl;cases hg:M6 x with
    |false=>simp [hg] at h
    |true=>
     simp only [hg,QoJ,Option.some.injEq] at h;subst h;obtain ⟨v,hv,an⟩:=Q4z hC hR hx;obtain ⟨vs,h1,h2,h3,h4⟩:=DZ hC hR hl;refine ⟨v::vs,?_,by simp [h2],by simp [HS,hg,h3],fun i u av hu aj=>?_⟩
     ·simp only [List.mapM_cons,QoM,hv,h1,QoI,Sem.run_pure]
     ·cases i with
      |zero=>simp at hu aj;subst hu;subst aj;exact an
      |succ i=>exact h4 i u av (by simpa using hu) (by simpa using aj)
   ·cases h
  ·cases h
theorem Q6l {C:VC} (hC:VCOk P C) {st:St} {a:Act} (hR:Rel E β S st a w) {fn:Func} {av:AV} (h:Q2v C.tt st fn.results.toList=some av) :
  ∃ v,(results fn a.tmps).run P w = .ok v w/\RdA β S (look st.h) w tm0 v av/\M6 av=true:=by
 have ak:∀ (v:Value) (av:AV),M6 av=true->RdA β S (look st.h) w (tmv a) v av->RdA β S (look st.h) w tm0 v av:=fun v av hg hr=>
  hr.mono (fun _ h=>h) (fun _ _=>rfl) (fun l _=>Keep.rfl_ ..) (fun t ht=>by grind [Ms])
 unfold Q2v at h;have ao:∀ ac,Q1A C.tt st fn.results.toList=some ac->∃ vs:List Value,(fn.results.mapM (Q5v a.tmps)).run P w = .ok vs.toArray w/\vs.length=ac.length/\HS ac=true /\
   ∀ (i:Nat) (v:Value) (av:AV),vs[i]? = some v->ac[i]? = some av->RdA β S (look st.h) w (tmv a) v av:=by
  intro ac ha;obtain ⟨vs,h1,h2,h3,h4⟩:=DZ hC hR ha;refine ⟨vs,?_,h2,h3,h4⟩;rw [<- Array.toList_mapM,Sem.run_map] at h1;cases hr:(fn.results.mapM (Q5v a.tmps)).run P w with
  |ok b w'=>
   rw [hr] at h1;simp only [QoI,Result.ok.injEq] at h1;obtain ⟨h5,rfl⟩:=h1;congr 1
   grind
  |halt x w'=>simp_all
 split at h
 ·rename_i x hx;cases h;obtain ⟨vs,h1,h2,h3,h4⟩:=ao _ hx
  match vs,h2 with
  |[v],_=>
   have hg:M6 av=true:=by grind [HS]
   refine ⟨v,?_,ak v av hg (h4 0 v av rfl rfl),hg⟩
   simp_all [Q1B,QoM,QoI]
 ·rename_i l aq hl;cases h;obtain ⟨vs,h1,h2,h3,h4⟩:=ao _ hl;have hg:M6 (.tup l)=true:=by simpa [M6] using h3
  have au:¬ vs.toArray.size=1:=by
   intro h5;simp only [List.size_toArray] at h5
   match l,h5.symm.trans h2 with
   |[x],_=>exact aq x rfl
  refine ⟨.tuple vs.toArray,?_,ak _ _ hg (.tup _ _ (by simpa using h2) fun i x hx=>?_),hg⟩
  ·rw [Q1B];simp only [QoM,h1,QoI,au,dite_false];rfl
  ·have hi:i<vs.length:=by have:=(QoG.1 hx).1;omega
   have hv:=QoH hi;rw [FP hv];exact h4 i _ x hv hx
 ·cases h
def Nr (H:List (Nat×Ob)) (k:AV->List (Nat×Ob)->oP R) (r:R) (β:Nat->oP Nat) (S:Nat->Prop) (w:World):Ending->World->Prop:=fun e w'=>
 ∃ v av H' β' S',e = .returned v/\k av H'=some r/\RdA β' S' (look H') w' tm0 v av/\M6 av=true/\HRel ⟨w,fun b=>∃ l,(look H l).isSome=true/\β l=some b,S,β⟩ β' S' (look H') w'
def fnK (tt:TT) (fn:Func) (k:AV->List (Nat×Ob)->oP R):Exit->St->oP R:=fun e st=>match e with
 |.ret=>match Q2v tt st fn.results.toList with
  |some v=>k v st.h
  |none=>none
 |.normal=>match Q2v tt st fn.results.toList with
  |some v=>k v st.h
  |none=>none
 |_=>none
theorem Q1T {C:VC} (hC:VCOk P C) {f:Nat} {fn:Func} {c:Code} (hf:P.funcs[f]? = some fn) (hc:fn.body=some c) {args:List AV} {H:List (Nat×Ob)} {k:AV->List (Nat×Ob)->oP R} {r:R} (hb:(Nat.ble args.length fn.ntmps&&HS args)=true)
  {vs:List Value}
  (au:∀ a:Act,Rel ⟨w,fun b=>∃ l,(look H l).isSome=true/\β l=some b,S,β⟩ β S { n:=fn.ntmps,tm:=Q4a 0 args,h:=H } a w->c.wp P (Q0H ⟨w,fun b=>∃ l,(look H l).isSome=true/\β l=some b,S,β⟩ (fnK C.tt fn k) r) a w) (hO:Objs β S (look H) w) (hA:ArgsRd β S (look H) w vs args) :
  Calls P f vs.toArray w (Nr H k r β S w):=by
 simp only [QoE] at hb;have a7:=Qp0 hb.1;refine calls_of_wp hf hc ?_;have hR:Rel ⟨w,fun b=>∃ l,(look H l).isSome=true/\β l=some b,S,β⟩ β S { n:=fn.ntmps,tm:=Q4a 0 args,h:=H } { tmps:=vs.toArray++Array.replicate (fn.ntmps-vs.toArray.size) undef,defers:=[] } w:=by
  refine ⟨by simp;have:=hA.1;omega,rfl,fun t av ht=>?_,⟨hO.ob,hO.inj,hO.apart,fun l b h1 h2=>.inl ⟨l,h1,h2⟩,hO.sb,fun b h=>.inl h,fun b h=>h,Fr.refl _ _,fun _ _=>rfl,fun _ _ _ _ _ cs ty fz hw=>⟨cs,ty,fz,hw,rfl⟩⟩⟩;obtain ⟨j,hj,ac⟩:=Q1h ht;simp only [QoP] at hj;subst hj;have aj:t<vs.length:=by have:=(QoG.1 ac).1;have:=hA.1;omega
  have hv:=QoH aj;have an:=hA.2 t _ av hv ac;have ay:tmv { tmps:=vs.toArray++Array.replicate (fn.ntmps-vs.toArray.size) undef,defers:=[] } t=vs[t]:=by
   unfold tmv;have h5:(vs.toArray++Array.replicate (fn.ntmps-vs.toArray.size) undef)[t]? = some vs[t]:=by
    rw [Array.getElem?_append_left (by simpa using aj)];simp [aj]
   have h6:=Td (QoN.1 h5).1;rw [h5] at h6;injection h6 with h6
   exact h6.symm
  rw [ay];exact an.mono (fun _ h=>h) (fun _ _=>rfl) (fun l _=>Keep.rfl_ ..) (fun t' aq=>by rw [Ms t' av (Q3J hb.2 ac)] at aq;cases aq)
 refine wp_mono (au _ hR) fun e a' w' hp=>?_
 obtain ⟨st',⟨β',S',ak⟩,hk⟩:=hp;have ao:∀ av,Q2v C.tt st' fn.results.toList=some av->k av st'.h=some r->a'.defers=[]/\∃ v,(results fn a'.tmps).run P w' = .ok v w'/\∃ ar av H' β' S',Ending.returned v = .returned ar/\k av H'=some r/\RdA β' S' (look H') w' tm0 ar av/\M6 av=true/\HRel ⟨w,fun b=>∃ l,(look H l).isSome=true/\β l=some b,S,β⟩ β' S' (look H') w':=by
  intro av ac az;obtain ⟨v,hv,an,hg⟩:=Q6l hC ak ac;exact ⟨ak.dfr,v,hv,v,av,st'.h,β',S',rfl,az,an,hg,ak.hr⟩
 cases e with
 |ret=>
  simp only [fnK] at hk;split at hk
  ·rename_i av ac;exact ao av ac hk
  ·cases hk
 |normal=>
  simp only [fnK] at hk;split at hk
  ·rename_i av ac;exact ao av ac hk
  ·cases hk
 |_=>cases hk
theorem BB {C:VC} (hC:VCOk P C) {n f:Nat} {fn:Func} (hf:P.funcs[f]? = some fn) {args:List AV} {H:List (Nat×Ob)} {k:AV->List (Nat×Ob)->oP R} {r:R} (h:vfn C n fn args H k=some r)
  {vs:List Value} (hO:Objs β S (look H) w) (hA:ArgsRd β S (look H) w vs args) :
  Calls P f vs.toArray w fun e w'=>∃ v av H' β' S',e = .returned v/\k av H'=some r/\RdA β' S' (look H') w' tm0 v av/\M6 av=true/\HRel ⟨w,fun b=>∃ l,(look H l).isSome=true/\β l=some b,S,β⟩ β' S' (look H') w':=by
 unfold vfn at h;split at h
 case h_2=>cases h
 rename_i c hc;cases hb:(Nat.ble args.length fn.ntmps&&HS args) with
 |false=>simp_all
 |true=>
  simp only [hb,QoJ] at h;exact Q1T hC hf hc hb (fun a hR=>Q5h hC n c _ _ r h a w ⟨β,S,hR⟩) hO hA
end
end Go.Vx
namespace Go.Vx
section
variable {P:Program}
def QeN:List Value->List Nat->oP (List D)
 |[],_=>some []
 |v::r,ss=>
  match QeN r ss.tail with
  |some l=>match v with
   |.int k n=>some (.int k n::l)
   |.bool b=>some (.bool b::l)
   |.string s=>some (.str s.data.toList::l)
   |.slice none 0 0=>some (.sl (ss.headD 0) []::l)
   |_=>none
  |none=>none
def Q2Y (P:Program):Nat->Nat->List Nat
 |0,_=>[]
 |f+1,t=>match P.underlying t with
  |some (.struct fs)=>fs.toList.flatMap fun fd=>Q2Y P f fd.type
  |some (.array n e)=>(List.replicate n (Q2Y P f e)).flatten
  |_=>[t]
def QeV (P:Program) (t:Nat):Nat:=
 match P.underlying t with
 |some (.slice e)=>P.cellsOf e
 |_=>0
def kdP (P:Program):TypeDesc->oP Kd
 |.int k=>some (.int k)
 |.bool=>some .bool
 |.string=>some .str
 |.slice e=>match P.info? e with
  |some i=>if 0<i.size then some (.sl e i.size) else none
  |none=>none
 |.struct fs=>if fs.toList.all (fun f=>match P.info? f.type with | some i=>i.size != 0 | none=>false) then some .struct else none
 |.array n e=>match P.info? e with
  |some i=>if 0<i.size then some (.array e i.size n) else none
  |none=>none
 |.pointer _=>some .ptr
 |.map K e=>match P.underlying K,P.info? e with
  |some (.int .i64),some i=>match i.zero with
   |some (.slice none 0 0)=>some .mapI
   |some (.bool false)=>some .mpb
   |_=>some .other
  |_,_=>some .other
 |.func ..=>some .other
 |.interface _=>some .other
 |_=>none
def Q9h (P:Program):TypeDesc->List (Nat×Nat)
 |.struct fs=>fs.toList.map fun f=>(f.offset,f.type)
 |.array n e=>(List.range n).map fun i=>(i*((P.info? e).map (·.size)).getD 0,e)
 |_=>[]
def Qfb (P:Program) (so:TypeId->oP (List Kd)):Nat->List Field->oP (List Kd)
 |_,[]=>some []
 |off,fd::r=>
  if fd.offset = off /\ fd.name ≠ "_" then match so fd.type with
   |some a=>if (P.info? fd.type).map (·.size)=some a.length then match Qfb P so (off+a.length) r with
    |some l=>some (a++l)
    |none=>none
    else none
   |none=>none
  else none
def QcY (P:Program):Nat->TypeId->oP (List Kd)
 |0,_=>none
 |f+1,t=>
  match P.underlying t with
  |some .bool=>some [.bool]
  |some (.int k)=>some [.int k]
  |some .string=>some [.str]
  |some (.struct fs)=>if P.stoodInHeld t then none else Qfb P (QcY P f) 0 fs.toList
  |_=>none
def Qik (P:Program) (t:Nat):oP (List Kd):=
 match P.underlying t with
 |some (.struct _)=>if P.eqGuardType P.depth t then none else QcY P 6 t
 |some (.array 2 e)=>match P.underlying e with
  |some (.int k)=>if (P.info? e).map (·.size)=some 1/\P.eqGuardType P.depth t=false then some [.int k,.int k] else none
  |_=>none
 |_=>none
def QhY:Kd->Nat->Bool
 |.array _ ac n,k=>Nat.beq k (n*ac)
 |_,_=>true
def tyI (P:Program) (t:Nat):oP TyI:=
 match P.info? t,P.underlying t with
 |some i,some d=>match i.zero,kdP P d with
  |some z,some kd=>
   if z.cells.toList.length=i.size/\(VH kd=false->i.size=1)/\QhY kd i.size=true then
    some { kd,size:=i.size,bytes:=i.bytes,zero:=z.cells.toList,zd:=(QeN z.cells.toList ((Q2Y P 8 t).map (QeV P))).getD [],fields:=Q9h P d,eqk:=Qik P t }
   else none
  |_,_=>none
 |_,_=>none
def QgL (P:Program):List Nat->TT
 |[]=>[]
 |t::r=>match tyI P t with
  |some ti=>(t,ti)::QgL P r
  |none=>QgL P r
theorem QaD:∀ {vs:List Value} {ss:List Nat} {l:List D},QeN vs ss=some l->∀ (j:Nat) (x:D),l[j]? = some x->∃ v,vs[j]? = some v/\∀ (S:Nat->Prop) (w:World),Rd S w v x
 |[],ss,l,h,j,x,hx=>by grind [QeN]
 |v::r,ss,l,h,j,x,hx=>by
  simp only [QeN] at h;split at h
  case h_2=>cases h
  rename_i l' aj;have ac:∀ d,l=d::l'->(∀ (S:Nat->Prop) (w:World),Rd S w v d)->∃ v',(v::r)[j]? = some v'/\∀ (S:Nat->Prop) (w:World),Rd S w v' x:=by
   intro d hd hr;cases j with
   |zero=>simp_all
   |succ j=>
    obtain ⟨v',h1,h2⟩:=QaD aj j x Q4
    simp_all
  split at h
  ·cases h;exact ac _ rfl fun _ _=>.int _ _
  ·cases h;exact ac _ rfl fun _ _=>.bool _
  ·cases h;exact ac _ rfl fun _ _=>.str _
  ·cases h;exact ac _ rfl fun _ _=>.sl0 _ _ _
  ·cases h
def FO (P:Program) (t:TypeId) (xs:List Value):Value:=
 match P.underlying t with
 |some (.struct _)=>.agg xs.toArray
 |_=>xs.headD undef
theorem Q7j {t:TypeId} {f:Nat} {ks:List Kd} (hk:QcY P f t=some ks) (hi:(P.info? t).map (·.size)=some ks.length) {w:World} {cs:Array Value} {off:Nat} (ao:off+ks.length<=cs.size) :
  (part t cs off).run P w = .ok (FO P t ((cs.toList.drop off).take ks.length)) w:=by
 obtain ⟨i,ak,an⟩:=QoF.1 hi;have one:∀ (d:TypeDesc),P.underlying t=some d->(∀ fs,d≠.struct fs)->(∀ n e,d≠.array n e)->ks.length=1->(part t cs off).run P w = .ok (FO P t ((cs.toList.drop off).take ks.length)) w:=by
  intro d hd h1 h2 hl;have ac:(isAgg t).run P w = .ok false w:=by
   simp_all [isAgg,QoM,X5,QoI]
  have hc:cs[off]? = some (cs[off]'Q0):=QoQ Q0;have hp:FO P t ((cs.toList.drop off).take ks.length)=cs[off]'Q0:=by
   grind [List.drop_eq_getElem_cons,FO]
  simp only [part,QoM,ac,QoI,Bool.false_eq_true,if_false,hc,hp];rfl
 cases f with
 |zero=>trivial
 |succ f=>
  unfold QcY at hk;split at hk
  ·rename_i hd;injection hk with hk;exact one _ hd Q2 Q2 (by rw [<- hk];rfl)
  ·rename_i k hd;injection hk with hk;exact one _ hd Q2 Q2 (by rw [<- hk];rfl)
  ·rename_i hd;injection hk with hk;exact one _ hd Q2 Q2 (by rw [<- hk];rfl)
  ·rename_i fs hd;have ac:(isAgg t).run P w = .ok true w:=by simp [isAgg,X5 hd]
   have hp:FO P t ((cs.toList.drop off).take ks.length) = .agg (cs.extract off (off+ks.length)):=by
    unfold FO;rw [hd];simp only;congr 1;apply Array.ext';simp [List.take_drop]
   simp only [part,QoM,ac,QoI,if_true,sizeOf,YI ak,an,hp];rfl
  ·cases hk
theorem Qfw:∀ (f:Nat) (t:TypeId) (ks:List Kd),QcY P f t=some ks->∀ (d:Nat),f<=d->∀ (w:World) (xs ys:List Value) (bs:List Bool),xs.length=ks.length->ys.length=ks.length->bs.length=ks.length ->
  (∀ (j:Nat) (kd:Kd) (b:Bool),ks[j]? = some kd->bs[j]? = some b->CEq kd (xs.getD j undef) (ys.getD j undef) b)->(Op.equalIn d t (FO P t xs) (FO P t ys)).run P w = .ok (bs.all id) w:=by
 intro f;induction f with
 |zero=>grind [QcY]
 |succ f ih=>
  intro t ks hk d hd w xs ys bs hx hy hb hc;obtain ⟨d,rfl⟩:∃ d',d=d'+1:=⟨d-1,Q0⟩;unfold QcY at hk;split at hk
  ·rename_i ht;injection hk with hk;subst hk
   match xs,ys,bs,hx,hy,hb with
   |[x],[y],[b],_,_,_=>
    obtain ⟨m,n,h1,h2,h3⟩:=hc 0 _ _ rfl rfl;simp at h1 h2;subst h1 h2 h3;simp [FO,ht,Op.equalIn,X5 ht]
  ·rename_i k ht;injection hk with hk;subst hk
   match xs,ys,bs,hx,hy,hb with
   |[x],[y],[b],_,_,_=>
    obtain ⟨m,n,h1,h2,h3⟩:=hc 0 _ _ rfl rfl;simp at h1 h2;subst h1 h2 h3;simp [FO,ht,Op.equalIn,X5 ht]
  ·rename_i ht;injection hk with hk;subst hk
   match xs,ys,bs,hx,hy,hb with
   |[x],[y],[b],_,_,_=>
    obtain ⟨m,n,h1,h2,h3⟩:=hc 0 _ _ rfl rfl;simp at h1 h2;subst h1 h2 h3;simp only [FO,ht,List.headD_cons,Op.equalIn,QoM,X5 ht,QoI];rw [beq_toListBytes,ByteArray.toList_eq,ByteArray.toList_eq];simp
  ·rename_i fs ht;split at hk
   ·cases hk
   rename_i a3;have ay:P.fieldsOf t=fs:=by simp [Program.fieldsOf,ht]
   have a4:∀ (r:List Field) (off:Nat) (l:List Kd) (ac:List Bool),Qfb P (QcY P f) off r=some l->off+l.length<=xs.length->xs.length=ys.length->ac.length=l.length ->
     (∀ (j:Nat) (kd:Kd) (b:Bool),l[j]? = some kd->ac[j]? = some b->CEq kd (xs.getD (off+j) undef) (ys.getD (off+j) undef) b) ->
     (Op.eqFields d xs.toArray ys.toArray r).run P w = .ok (ac.all id) w:=by
    intro r;induction r with
    |nil=>
     intro off l ac hl _ _ au _;simp [Qfb] at hl;subst hl;have:ac=[]:=List.eq_nil_of_length_eq_zero (by simpa using au);subst this;simp [Op.eqFields]
    |cons fd r a8=>
     intro off l ac hl a7 az au ax;unfold Qfb at hl;split at hl
     case isFalse=>cases hl
     rename_i ar;split at hl
     case h_2=>cases hl
     rename_i a ha;split at hl
     case isFalse=>cases hl
     rename_i hi;split at hl
     case h_2=>cases hl
     rename_i l' a6;injection hl with hl;subst hl
     simp only [List.length_append] at a7 au;have p1:=Q7j ha hi (w:=w) (cs:=xs.toArray) (off:=off) Q3;have p2:=Q7j ha hi (w:=w) (cs:=ys.toArray) (off:=off) Q3;have gd:∀ (zs:List Value) (j:Nat),zs.length=xs.length->j<a.length->((zs.drop off).take a.length).getD j undef=zs.getD (off+j) undef:=by
      intro zs j hz hj;simp only [List.getD,List.getElem?_take,hj,if_true,QoO]
     have e1:=ih fd.type a ha d Q0 w ((xs.drop off).take a.length) ((ys.drop off).take a.length) (ac.take a.length) Q3 Q3 Q3 (fun j kd b hj an=>by
      have ao:j<a.length:=(QoG.1 hj).1;rw [gd xs j rfl ao,gd ys j az.symm ao];refine ax j kd b (by rw [List.getElem?_append_left ao];exact hj) ?_;rw [List.getElem?_take,if_pos ao] at an;exact an)
     have e2:=a8 (off+a.length) l' (ac.drop a.length) a6 Q0 az Q3 (fun j kd b hj an=>by
      rw [Nat.add_assoc];refine ax (a.length+j) kd b (by rw [List.getElem?_append_right Q0];simpa using hj) ?_;rw [QoO] at an;exact an)
     have a2:ac.all id=((ac.take a.length).all id&&(ac.drop a.length).all id):=by
      rw [<- List.all_append,List.take_append_drop]
     simp only [Op.eqFields,ar.1,ar.2,ne_eq,not_false_eq_true,if_true,QoM,p1,p2,QoI,e1];rw [a2];cases (ac.take a.length).all id with
     |true=>simp [e2]
     |false=>simp
   have:=a4 fs.toList 0 ks bs hk Q0 Q0 hb (fun j kd b h1 h2=>by rw [QoP];exact hc j kd b h1 h2);have hp:∀ zs,FO P t zs = .agg zs.toArray:=fun zs=>by simp [FO,ht]
   rw [hp,hp,run_equalIn_struct w d t _ _ (by rw [ay];exact ht) (by simpa using a3),ay];exact this
  ·cases hk
theorem Qdh {t e:TypeId} {k:IntKind} (ht:P.underlying t=some (.array 2 e)) (he:P.underlying e=some (.int k)) (hi:(P.info? e).map (·.size)=some 1) (w:World) (a b c d:Int) :
  (Op.equalIn 10000 t (.agg #[.int k a,.int k b]) (.agg #[.int k c,.int k d])).run P w = .ok ((a == c)&&(b == d)) w:=by
 obtain ⟨i,aj,ak⟩:=QoF.1 hi;have ac:(isAgg e).run P w = .ok false w:=by
  simp only [isAgg,QoM,X5 he,QoI];rfl
 have hs:(Go.sizeOf e).run P w = .ok 1 w:=by simp only [sizeOf,QoM,YI aj,QoI,ak];rfl
 have hp:∀ (x y:Value),(part e #[x,y] 0).run P w = .ok x w/\(part e #[x,y] 1).run P w = .ok y w:=fun x y=>by
  constructor <;> simp [part,ac]
 have hq:∀ x y:Int,(Op.equalIn 9999 e (.int k x) (.int k y)).run P w = .ok (x == y) w:=fun x y=>by
  rw [Op.equalIn];simp [X5 he]
 rw [Op.equalIn];simp only [QoM,X5 ht,QoI,hs];simp [Std.Legacy.Range.forIn_eq_forIn_range',Std.Legacy.Range.size,List.range',(hp _ _).1,(hp _ _).2,hq];by_cases h1:a=c <;> by_cases h2:b=d <;> simp [h1,h2]
theorem QdF {t:Nat} {ks:List Kd} (h:Qik P t=some ks):QiW P t ks:=by
 unfold Qik at h;split at h
 case h_3=>cases h
 case h_2=>
  rename_i e ht;split at h
  case h_2=>cases h
  rename_i k he;split at h
  case isFalse=>cases h
  rename_i hg;injection h with h
  subst h;intro w xs ys bs hx hy hb hc;refine ⟨?_,hg.2⟩;obtain ⟨xs⟩:=xs;obtain ⟨ys⟩:=ys
  match xs,ys,bs,hx,hy,hb with
  |[x0,x1],[y0,y1],[b0,b1],_,_,_=>
   obtain ⟨m,n,h1,h2,h3⟩:=hc 0 _ _ rfl rfl;obtain ⟨m',n',ar,aq,au⟩:=hc 1 _ _ rfl rfl
   simp_all [Qdh]
 rename_i fs ht;split at h
 ·cases h
 rename_i hg;intro w xs ys bs hx hy hb hc;refine ⟨?_,by simp_all⟩;have:=Qfw 6 t ks h 10000 Q0 w xs.toList ys.toList bs Q0 Q0 hb (fun j kd b h1 h2=>by
  have:=hc j kd b h1 h2;simpa [Array.getD_eq_getD_getElem?,List.getD] using this)
 simp_all [FO]
theorem Qgr {d:TypeDesc} {e ac:Nat} (hk:kdP P d=some (.sl e ac)):d = .slice e/\0<ac/\∃ i,P.info? e=some i/\i.size=ac:=by
 cases d <;> simp only [kdP,Option.some.injEq,reduceCtorEq] at hk
 all_goals grind
theorem QdO {t:TypeId} {d:TypeDesc} (hk:kdP P d=some .mapI) (hd:P.underlying t=some d):∃ K e,P.underlying t=some (.map K e)/\P.underlying K=some (.int .i64)/\∃ i,P.info? e=some i/\i.zero=some (.slice none 0 0):=by
 cases d <;> simp only [kdP,Option.some.injEq,reduceCtorEq] at hk
 all_goals grind
theorem Q85 {d:TypeDesc} (hk:kdP P d=some .struct):∃ fs,d = .struct fs/\∀ f∈fs.toList,∃ i,P.info? f.type=some i/\i.size≠0:=by
 cases d <;> simp only [kdP,Option.some.injEq,reduceCtorEq] at hk
 all_goals grind
theorem Qav {d:TypeDesc} {e ac n:Nat} (hk:kdP P d=some (.array e ac n)):d = .array n e/\0<ac/\∃ i,P.info? e=some i/\i.size=ac:=by
 cases d <;> simp only [kdP,Option.some.injEq,reduceCtorEq] at hk
 all_goals grind
theorem Qem {d:TypeDesc} {k:IntKind} (hk:kdP P d=some (.int k)):d = .int k:=by
 cases d <;> simp only [kdP,Option.some.injEq,Kd.int.injEq,reduceCtorEq] at hk <;> first | grind | ((repeat' split at hk) <;> simp at hk)
theorem QbR {d:TypeDesc} (hk:kdP P d=some .bool):d = .bool:=by
 cases d <;> simp only [kdP,Option.some.injEq,reduceCtorEq] at hk <;> first | rfl | grind
theorem Qe2 {d:TypeDesc} (hk:kdP P d=some .str):d = .string:=by
 cases d <;> simp only [kdP,Option.some.injEq,reduceCtorEq] at hk <;> first | rfl | grind
theorem Qdu {t:TypeId} {d:TypeDesc} (hk:kdP P d=some .mpb) (hd:P.underlying t=some d):∃ K e,P.underlying t=some (.map K e)/\P.underlying K=some (.int .i64)/\∃ i,P.info? e=some i/\i.zero=some (.bool false):=by
 cases d <;> simp only [kdP,Option.some.injEq,reduceCtorEq] at hk
 all_goals grind
theorem QgF {t:Nat} {ti:TyI} (h:tyI P t=some ti):TyOk P t ti:=by
 unfold tyI at h;split at h
 case h_2=>cases h
 rename_i i d hi hd;split at h
 case h_2=>cases h
 rename_i z kd hz hk;split at h
 case isFalse=>cases h
 rename_i hc;injection h with h
 subst h;refine ⟨⟨i,hi,rfl,rfl,z,hz,rfl⟩,fun hs=>⟨hc.2.1 hs,d,hd,?_,?_⟩,fun k he=>?_,fun he=>?_,fun he=>?_,fun e ak he=>?_,fun he=>?_,fun e ak n he=>?_,fun ks he=>QdF he,hc.1,fun hl j x hx=>?_,fun he=>?_,fun he=>?_⟩
 ·rintro fs rfl;simp only [kdP] at hk;split at hk
  ·injection hk with hk;subst hk;simp [VH] at hs
  ·cases hk
 ·rintro n e rfl;simp only [kdP] at hk;split at hk
  ·split at hk
   ·injection hk with hk;subst hk;simp [VH] at hs
   ·cases hk
  ·cases hk
 ·simp only at he;subst he;rw [Qem hk] at hd;exact hd
 ·simp only at he;subst he;rw [QbR hk] at hd;exact hd
 ·simp only at he;subst he;rw [Qe2 hk] at hd;exact hd
 ·simp only at he;subst he;obtain ⟨h1,h2,h3⟩:=Qgr hk;rw [h1] at hd;exact ⟨hd,h2,h3⟩
 ·simp only at he;subst he;obtain ⟨fs,h1,h2⟩:=Q85 hk;subst h1;exact ⟨fs,hd,rfl,h2⟩
 ·simp only at he;subst he;obtain ⟨h1,h2,i',h3,h4⟩:=Qav hk;subst h1;refine ⟨hd,h2,⟨i',h3,h4⟩,QoD hc.2.2,?_⟩;simp [Q9h,h3,h4]
 ·simp only at hl hx;cases aj:QeN z.cells.toList ((Q2Y P 8 t).map (QeV P)) with
  |none=>rw [aj] at hx;simp at hx
  |some l=>rw [aj] at hx;exact QaD aj j x (by simpa using hx)
 ·simp only at he;subst he;exact Qdu hk hd
 ·simp only at he;subst he;exact QdO hk hd
theorem QdI (ac:List Nat):TOk P (QgL P ac):=by
 induction ac with
 |nil=>intro t ti h;trivial
 |cons a r ih=>
  intro t ti h;unfold QgL at h;split at h
  ·rw [Y7] at h;by_cases e:t=a
   ·simp_all [if_pos,QgF]
   ·rw [QoW e] at h;exact ih t ti h
  ·exact ih t ti h
mutual
def lf:AV->Bool
 |.ptr ..=>false
 |.arr _=>false
 |.ap ..=>false
 |.sa ..=>false
 |.gd ..=>false
 |.ag l=>lfL l
 |.tup l=>lfL l
 |.fn _ l=>lfL l
 |_=>true
def lfL:List AV->Bool
 |[]=>true
 |a::r=>lf a&&lfL r
end
mutual
theorem Q76 (l:Nat):∀ (av:AV),lf av=true->Ur l av=false
 |.ptr ..,h=>by simp [lf] at h
 |.arr _,h=>by simp [lf] at h
 |.ap ..,h=>by simp [lf] at h
 |.sa ..,h=>by simp [lf] at h
 |.gd ..,h=>by simp [lf] at h
 |.ag r,h=>by simp only [Ur];exact EI l r (by simpa [lf] using h)
 |.tup r,h=>by simp only [Ur];exact EI l r (by simpa [lf] using h)
 |.fn _ r,h=>by simp only [Ur];exact EI l r (by simpa [lf] using h)
 |.top,_=>rfl
 |.d _,_=>rfl
 |.nil,_=>rfl
 |.el ..,_=>rfl
 |.fs ..,_=>rfl
 |.mpd _,_=>rfl
 |.ex _,_=>rfl
theorem EI (l:Nat):∀ (r:List AV),lfL r=true->Kh l r=false
 |[],_=>rfl
 |a::r,h=>by
  simp only [lfL,QoE] at h;simp only [Kh,Q76 l a h.1,EI l r h.2,Bool.or_self]
end
mutual
theorem Q4Y (t:Nat):∀ (av:AV),lf av=true->gds t av=false
 |.ptr ..,h=>by simp [lf] at h
 |.arr _,h=>by simp [lf] at h
 |.ap ..,h=>by simp [lf] at h
 |.sa ..,h=>by simp [lf] at h
 |.gd ..,h=>by simp [lf] at h
 |.ag r,h=>by simp only [gds];exact Q2S t r (by simpa [lf] using h)
 |.tup r,h=>by simp only [gds];exact Q2S t r (by simpa [lf] using h)
 |.fn _ r,h=>by simp only [gds];exact Q2S t r (by simpa [lf] using h)
 |.top,_=>rfl
 |.d _,_=>rfl
 |.nil,_=>rfl
 |.el ..,_=>rfl
 |.fs ..,_=>rfl
 |.mpd _,_=>rfl
 |.ex _,_=>rfl
theorem Q2S (t:Nat):∀ (r:List AV),lfL r=true->Q0h t r=false
 |[],_=>rfl
 |a::r,h=>by
  simp only [lfL,QoE] at h;simp only [Q0h,Q4Y t a h.1,Q2S t r h.2,Bool.or_self]
end
theorem Q1n:∀ {l:List AV} {i:Nat} {x:AV},lfL l=true->l[i]? = some x->lf x=true
 |a::r,i,x,h,hx=>by
  simp only [lfL,QoE] at h;cases i with
  |zero=>simp at hx;subst hx;exact h.1
  |succ i=>exact Q1n h.2 (by simpa using hx)
theorem FN {β β':Nat->oP Nat} {S S':Nat->Prop} {h h':Nat->oP Ob} {w w':World} {tm tm':Nat->Value} {v:Value} {av:AV} (hl:lf av=true) (hS:∀ b,S b->S' b) (hw:∀ b,S b->w'.heap[b]? = w.heap[b]?) (hv:RdA β S h w tm v av):RdA β' S' h' w' tm' v av:=
 hv.mono hS hw (fun l hn=>by rw [Q76 l av hl] at hn;cases hn) (fun t ht=>by rw [Q4Y t av hl] at ht;cases ht)
def Qb6 (h:List (Nat×Ob)) (av:AV):oP AV:=
 match av with
 |.tup l=>match Nh (look h) l with
  |some (l',_)=>bif lfL l' then some (.tup l') else none
  |none=>none
 |av=>match Nk (look h) av with
  |some (ac,_)=>bif lf ac then some ac else none
  |none=>none
def QiD {R:Type} (K:AV->oP R):AV->List (Nat×Ob)->oP R:=fun av h=>match Qb6 h av with
 |some ac=>K ac
 |none=>none
theorem Q2O {β:Nat->oP Nat} {S:Nat->Prop} {H:List (Nat×Ob)} {w:World} {v:Value} {av ac:AV} (hO:Objs β S (look H) w) (h:Qb6 H av=some ac) (hv:RdA β S (look H) w tm0 v av) :
  ∃ bs,(∀ l,l∈bs->∃ e s rows,look H l=some (.arr e s rows))/\lf ac=true/\RdA β (fzS β S bs) (fzH (look H) bs) w tm0 v ac:=by
 unfold Qb6 at h;split at h
 ·rename_i l;split at h
  ·rename_i l' bs hc;cases hl:lfL l' with
   |false=>simp_all
   |true=>
    simp only [hl,QoJ,Option.some.injEq] at h;subst h;refine ⟨bs,EO hc,by assumption,?_⟩;obtain ⟨vs,rfl,an,hr⟩:=hv.tup_inv;obtain ⟨h1,h2⟩:=LW hc;refine .tup _ _ (by rw [an,h1]) fun i x hx=>?_
    have hi:i<l.length:=by grind
    have ak:=QoH hi;obtain ⟨ac,b2,g1,g2,g3⟩:=h2 i _ ak;rw [hx] at g1;injection g1 with g1
    subst g1;exact Q7p hO (fun _ _=>rfl) g3 g2 (hr i _ ak)
  ·cases h
 ·split at h
  ·rename_i aj bs hc;cases hl:lf aj with
   |false=>simp [hl] at h
   |true=>
    simp only [hl,QoJ,Option.some.injEq] at h;subst h;exact ⟨bs,BD hc,hl,Q7p hO (fun _ _=>rfl) (fun _ h=>h) hc hv⟩
  ·cases h
theorem QdK {C : VC} (hC : VCOk P C) {n f : Nat} {fn : Func} (hf : P.funcs[f]? = some fn) (hb : fn.body.isSome = true) (hn : (fn.name == "runtime.NumGoroutine") = false) {avs : List AV} {av : AV} {hl : Nat -> oP Ob} {rd : List Nat} (hlf : lfL avs = true)
  (h:vfn C n fn avs [] (QiD some)=some av):Wp P f avs hl ⟨av,[],rd⟩:=by
 refine ⟨⟨fn,hf,hb,hn⟩,fun β S h' w args hO hA _=>?_⟩;have hO0:Objs (fun _=>none) S (look ([]:List (Nat×Ob))) w:=⟨fun l o h=>by trivial,fun l l' b h=>by simp [look] at h,fun l b h=>by simp [look] at h,hO.sb⟩;have hA0:ArgsRd (fun _=>none) S (look ([]:List (Nat×Ob))) w args avs:=⟨hA.1,fun i v av' h1 h2=>FN (Q1n hlf h2) (fun _ h=>h) (fun _ _=>rfl) (hA.2 i v av' h1 h2)⟩;refine (BB hC hf h hO0 hA0).mono fun e w' ⟨v,av0,H',β',S',he,hk,hrd,_,hr⟩=>?_
 unfold QiD at hk;split at hk
 case h_2=>cases hk
 rename_i av' hav;injection hk with hk
 subst hk;have hO':Objs β' S' (look H') w':=⟨hr.ob,hr.inj,hr.apart,hr.sb⟩;obtain ⟨bs,hbs,hlf',hrd'⟩:=Q2O hO' hav hrd;have hnoM:∀ {b:Nat},(S b\/(∃ l,(look ([]:List (Nat×Ob)) l).isSome=true/\(none:oP Nat)=some b)\/w.heap.size<=b)->S b\/w.heap.size<=b:=by
  simp_all
 have hfz:∀ b,fzS β' S' bs b->S b\/w.heap.size<=b:=by
  intro b hS;rcases hS with hS | ⟨l,hl',hb'⟩
  ·exact hnoM (hr.sfr b hS)
  ·obtain ⟨e',s,rows,hh⟩:=hbs l hl';exact hnoM (.inr (hr.own l b (by simp [hh]) hb'))
 refine ⟨v,β,fzS β' S' bs,he,⟨fun b hS=>.inl (hr.s0 b hS),fun b hS=>?_,fun b hS=>?_,?_,fun _ _=>rfl,fun l o hl'=>by trivial,fun l hl'=>by simp [wrL] at hl',fun l b hl'=>by simp [wrL] at hl',fun l l' b hl'=>by simp [wrL] at hl',fun l hl'=>by simp [wrL] at hl',?_,fun t=>Q4Y t _ hlf'⟩⟩
 ·grind
 ·rcases hS with hS | ⟨l,hl',hb'⟩
  ·exact hr.sb b hS
  ·obtain ⟨e',s,rows,hh⟩:=hbs l hl';rcases hr.ob l _ hh with ⟨hn',_⟩ | ⟨b2,cs,hb2,hw2,_⟩
   ·rw [hb'] at hn';cases hn'
   ·rw [hb'] at hb2;injection hb2 with hb2;subst hb2
    exact (QoN.1 hw2).1
 ·refine hr.fr.mono fun b _ ⟨l,h1,_⟩=>?_
  simp [look] at h1
 ·exact FN hlf' (fun _ h=>h) (fun _ _=>rfl) hrd'
end
section
variable {P:Program} {R:Type}
def CJ (av ac:AV):Prop:=∀ (β:Nat->oP Nat) (S:Nat->Prop) (h:Nat->oP Ob) (w:World) (tm:Nat->Value) (v:Value),RdA β S h w tm v av->RdA β S h w tm v ac
theorem CJ.refl (av:AV):CJ av av:=fun _ _ _ _ _ _ h=>h
theorem CJ.of_eq {a b:AV} (h:a=b):CJ a b:=h▸CJ.refl a
theorem CJ.nil (s:Nat):CJ .nil (.d (.sl s [])):=fun _ _ _ _ _ v h=>by rw [h.nil_inv];exact .d _ _ (.sl0 _ _ _)
inductive AVleL:List AV->List AV->Prop
 |nil:AVleL [] []
 |cons {a b:AV} {l r:List AV} (h:CJ a b) (t:AVleL l r):AVleL (a::l) (b::r)
theorem AVleL.length {l r:List AV} (h:AVleL l r):l.length=r.length:=by induction h <;> simp [*]
theorem AVleL.at {l r:List AV} (h:AVleL l r):∀ (i:Nat) (x:AV),r[i]? = some x->∃ y,l[i]? = some y/\CJ y x:=by
 induction h with
 |nil=>simp_all
 |cons h0 _ ih=>
  grind
theorem AVleL.refl:∀ l:List AV,AVleL l l
 |[]=>.nil
 |a::r=>.cons (CJ.refl a) (AVleL.refl r)
theorem CJ.ag {l r:List AV} (h:AVleL l r):CJ (.ag l) (.ag r):=fun _ _ _ _ _ v hv=>by
 obtain ⟨cs,rfl,ac,hr⟩:=hv.ag_inv;refine .ag cs r (ac.trans h.length) fun i x hx=>?_
 obtain ⟨y,h1,h2⟩:=h.at i x hx;exact h2 _ _ _ _ _ _ (hr i y h1)
theorem CJ.tup {l r:List AV} (h:AVleL l r):CJ (.tup l) (.tup r):=fun _ _ _ _ _ v hv=>by
 obtain ⟨cs,rfl,ac,hr⟩:=hv.tup_inv;refine .tup cs r (ac.trans h.length) fun i x hx=>?_
 obtain ⟨y,h1,h2⟩:=h.at i x hx;exact h2 _ _ _ _ _ _ (hr i y h1)
theorem Wp.conv {f:Nat} {ac avs':List AV} {hl:Nat->oP Ob} {dl:Dl} (h:AVleL ac avs') (hc:Wp P f avs' hl dl):Wp P f ac hl dl:=by
 obtain ⟨h1,h2⟩:=hc;refine ⟨h1,fun β S hh w args hO hA ak=>h2 β S hh w args hO ⟨hA.1.trans h.length,fun i v av hv aj=>?_⟩ ak⟩;obtain ⟨y,g1,g2⟩:=h.at i av aj;exact g2 _ _ _ _ _ _ (hA.2 i v y hv g1)
def prI (g:Bool) (ik:IntKind) (av:AV) (k:Int->oP R):oP R:=
 match av with
 |.d x=>gb g (Qk ik x) 0 k
 |_=>none
def prB (g:Bool) (av:AV) (k:Bool->oP R):oP R:=
 match av with
 |.d x=>gb g (Gp x) false k
 |_=>none
def prT (g:Bool) (av:AV) (k:List UInt8->oP R):oP R:=
 match av with
 |.d x=>gb g (NB x) [] k
 |_=>none
def prS (g:Bool) (ac:Nat) (av:AV) (k:List (List D)->oP R):oP R:=
 match av with
 |.d x=>gb g (pSl ac x) [] k
 |.nil=>k []
 |_=>none
def prG (av:AV) (k:List AV->oP R):oP R:=
 match av with
 |.ag l=>k l
 |_=>none
theorem Q2c {g:Bool} {ik:IntKind} {av:AV} {k:Int->oP R} {r:R} (h:prI g ik av k=some r):∃ n,k n=some r/\(g=true->CJ av (.d (.int ik n))):=by
 unfold prI at h;split at h
 ·obtain ⟨n,hn,hp⟩:=X6 h;exact ⟨n,hn,fun hg=>.of_eq (by grind [E7])⟩
 ·cases h
theorem Qbj {g:Bool} {av:AV} {k:Bool->oP R} {r:R} (h:prB g av k=some r):∃ n,k n=some r/\(g=true->CJ av (.d (.bool n))):=by
 unfold prB at h;split at h
 ·obtain ⟨n,hn,hp⟩:=X6 h;exact ⟨n,hn,fun hg=>.of_eq (by grind [MZ])⟩
 ·cases h
theorem Qce {g:Bool} {av:AV} {k:List UInt8->oP R} {r:R} (h:prT g av k=some r):∃ n,k n=some r/\(g=true->CJ av (.d (.str n))):=by
 unfold prT at h;split at h
 ·obtain ⟨n,hn,hp⟩:=X6 h;exact ⟨n,hn,fun hg=>.of_eq (by grind [FU])⟩
 ·cases h
theorem UO {g:Bool} {ac:Nat} {av:AV} {k:List (List D)->oP R} {r:R} (h:prS g ac av k=some r):∃ n,k n=some r/\(g=true->CJ av (.d (.sl ac n))):=by
 unfold prS at h;split at h
 ·obtain ⟨n,hn,hp⟩:=X6 h;exact ⟨n,hn,fun hg=>.of_eq (by grind [Q7d])⟩
 ·exact ⟨[],h,fun _=>.nil _⟩
 ·cases h
theorem Q2C {av:AV} {k:List AV->oP R} {r:R} (h:prG av k=some r):∃ l,k l=some r/\av = .ag l:=by
 unfold prG at h
 grind
abbrev Sf:=(R:Type)->Nat->Bool->List AV->(Nat->oP Ob)->(Dl->oP R)->oP R
def J9 (P:Program) (f:Nat) (e:Sf):Prop:=
 ∀ (R:Type) (aj:Nat) (g:Bool) (ac:List AV) (hl:Nat->oP Ob) (k:Dl->oP R) (r:R),e R aj g ac hl k=some r->∃ dl,k dl=some r/\(g=true->Wp P f ac hl dl)
def Q41 (l:List (Nat×Sf)):Q5L:=fun R f ac g aj hl k=>
 match look1 l f with
 |some e=>e R ac g aj hl k
 |none=>none
where
 look1:List (Nat×Sf)->Nat->oP Sf
  |[],_=>none
  |(k,a)::r,t=>bif Nat.beq k t then some a else look1 r t
def Q71 (P:Program):List (Nat×Sf)->Prop
 |[]=>True
 |(f,e)::r=>J9 P f e/\Q71 P r
theorem Q6A:∀ {l:List (Nat×Sf)} {f:Nat} {e:Sf},Q71 P l->Q41.look1 l f=some e->J9 P f e
 |(k,a)::r,f,e,h,hl=>by
  simp only [Q41.look1] at hl;cases hk:Nat.beq k f with
  |true=>
   simp only [hk,QoJ,Option.some.injEq] at hl;subst hl;have:=QoD hk;subst this;exact h.1
  |false=>simp only [hk,QoU] at hl;exact Q6A h.2 hl
theorem Qaf {l:List (Nat×Sf)} (h:Q71 P l):A3 P (Q41 l):=by
 intro R f ac g aj hl k r hs;unfold Q41 at hs;split at hs
 ·rename_i e he;exact Q6A h he R ac g aj hl k r hs
 ·cases hs
def QgV (s:Nat):AV->AV
 |.nil=>.d (.sl s [])
 |av=>av
def Qh3:List Nat->List AV->List AV
 |s::ss,a::r=>QgV s a::Qh3 ss r
 |[],r=>r
 |_::_,[]=>[]
def Qh8 (ss:List Nat):AV->AV
 |.ag l=>.ag (Qh3 ss l)
 |av=>QgV (ss.headD 0) av
def Qh5:List (List Nat)->List AV->List AV
 |s::ss,a::r=>Qh8 s a::Qh5 ss r
 |[],r=>r
 |_::_,[]=>[]
def QeO (ss:List (List Nat)):AV->AV
 |.tup l=>.tup (Qh5 ss l)
 |av=>Qh8 (ss.headD []) av
theorem Q9Q (s:Nat) (av:AV):CJ av (QgV s av):=by
 unfold QgV;split
 ·exact .nil s
 ·exact .refl _
theorem Q99:∀ (ss:List Nat) (l:List AV),AVleL l (Qh3 ss l)
 |s::ss,a::r=>.cons (Q9Q s a) (Q99 ss r)
 |[],r=>by unfold Qh3;exact .refl r
 |_::_,[]=>.nil
theorem Qab (ss:List Nat) (av:AV):CJ av (Qh8 ss av):=by
 unfold Qh8;split
 ·exact .ag (Q99 ss _)
 grind [Q9Q]
theorem Q9E:∀ (ss:List (List Nat)) (l:List AV),AVleL l (Qh5 ss l)
 |s::ss,a::r=>.cons (Qab s a) (Q9E ss r)
 |[],r=>by unfold Qh5;exact .refl r
 |_::_,[]=>.nil
theorem Q9i (ss:List (List Nat)) (av:AV):CJ av (QeO ss av):=by
 unfold QeO;split
 ·exact .tup (Q9E ss _)
 grind [Qab]
def retF {R:Type} (ss:List (List Nat)) (K:AV->oP R):AV->List (Nat×Ob)->oP R:=fun av h=>match Qb6 h av with
 |some ac=>bif lf (QeO ss ac) then K (QeO ss ac) else none
 |none=>none
theorem Q5k {α : Type} {K : AV -> oP α} {res : α} {f : Nat} {fn : Func} (hf : P.funcs[f]? = some fn) (hb : fn.body.isSome = true) (hn : (fn.name == "runtime.NumGoroutine") = false) {ss : List (List Nat)} {avs : List AV} {av : AV} {hl : Nat -> oP Ob} {rd : List Nat} (hlf : lfL avs = true)
  (hcall:∀ (β:Nat->oP Nat) (S:Nat->Prop) (w:World) (vs:List Value),Objs β S (look ([]:List (Nat×Ob))) w->ArgsRd β S (look ([]:List (Nat×Ob))) w vs avs->Calls P f vs.toArray w (Nr ([]:List (Nat×Ob)) (retF ss K) res β S w)) (hK:∀ x,K x=some res->x=av):Wp P f avs hl ⟨av,[],rd⟩:=by
 refine ⟨⟨fn,hf,hb,hn⟩,fun β S h' w args hO hA _=>?_⟩;have hO0:Objs (fun _=>none) S (look ([]:List (Nat×Ob))) w:=⟨fun l o h=>by trivial,fun l l' b h=>by simp [look] at h,fun l b h=>by simp [look] at h,hO.sb⟩;have hA0:ArgsRd (fun _=>none) S (look ([]:List (Nat×Ob))) w args avs:=⟨hA.1,fun i v av' h1 h2=>FN (Q1n hlf h2) (fun _ h=>h) (fun _ _=>rfl) (hA.2 i v av' h1 h2)⟩;refine (hcall _ _ _ _ hO0 hA0).mono fun e w' ⟨v,av0,H',β',S',he,hk,hrd,_,hr⟩=>?_
 unfold retF at hk;split at hk
 case h_2=>cases hk
 rename_i av' hav;cases hlf2:lf (QeO ss av') with
 |false=>simp_all
 |true=>
  simp only [hlf2,QoJ] at hk;have hk:=hK _ hk;subst hk;have hO':Objs β' S' (look H') w':=⟨hr.ob,hr.inj,hr.apart,hr.sb⟩;obtain ⟨bs,hbs,hlf',hrd'⟩:=Q2O hO' hav hrd;have hnoM:∀ {b:Nat},(S b\/(∃ l,(look ([]:List (Nat×Ob)) l).isSome=true/\(none:oP Nat)=some b)\/w.heap.size<=b)->S b\/w.heap.size<=b:=by
   simp_all
  have hfz:∀ b,fzS β' S' bs b->S b\/w.heap.size<=b:=by
   intro b hS;rcases hS with hS | ⟨l,hl',hb'⟩
   ·exact hnoM (hr.sfr b hS)
   ·obtain ⟨e',s,rows,hh⟩:=hbs l hl';exact hnoM (.inr (hr.own l b (by simp [hh]) hb'))
  refine ⟨v,β,fzS β' S' bs,he,⟨fun b hS=>.inl (hr.s0 b hS),fun b hS=>?_,fun b hS=>?_,?_,fun _ _=>rfl,fun l o hl'=>by trivial,fun l hl'=>by simp [wrL] at hl',fun l b hl'=>by simp [wrL] at hl',fun l l' b hl'=>by simp [wrL] at hl',fun l hl'=>by simp [wrL] at hl',?_,fun t=>Q4Y t _ hlf2⟩⟩
  ·rcases hfz b hS with h1 | h1
   ·exact .inl h1
   ·exact .inr (.inl h1)
  ·rcases hS with hS | ⟨l,hl',hb'⟩
   ·exact hr.sb b hS
   ·obtain ⟨e',s,rows,hh⟩:=hbs l hl';rcases hr.ob l _ hh with ⟨hn',_⟩ | ⟨b2,cs,hb2,hw2,_⟩
    ·rw [hb'] at hn';cases hn'
    ·rw [hb'] at hb2;injection hb2 with hb2;subst hb2
     exact (QoN.1 hw2).1
  ·refine hr.fr.mono fun b _ ⟨l,h1,_⟩=>?_
   simp [look] at h1
  ·exact FN hlf2 (fun _ h=>h) (fun _ _=>rfl) (Q9i ss _ _ _ _ _ _ _ hrd')
def cL:Code->Code | .seq a _=>a | c=>c
def cR:Code->Code | .seq _ b=>b | c=>c
def cB:Code->Code | .block _ c=>c | .loop c=>c | c=>c
def cT:Code->Code | .cond _ a _=>a | c=>c
def cE:Code->Code | .cond _ _ b=>b | c=>c
def Jf (fn:Func):Code:=fn.body.getD .skip
end
section
variable {P:Program} {R:Type}
theorem Q6V {ρ:List (Nat×Nat)} {β β':Nat->oP Nat} {S:Nat->Prop} {h h':Nat->oP Ob} (ac:∀ l k,(l,k)∈ρ->β' k=β l) (ak:∀ l k o,(l,k)∈ρ->h l=some o->h' k=some (Qck ρ o))
  (au:∀ l k,(l,k)∈ρ->h l=none->h' k=none) {w:World} {tm:Nat->Value} {v:Value} {av:AV} (hv:RdA β S h w tm v av):RdA β' S h' w tm v (UB ρ av):=by
 induction hv with
 |top v=>exact .top v
 |d v x hx=>exact .d v x hx
 |nil=>exact .nil
 |ag cs l hl _ ih=>
  refine .ag cs _ (by grind [Zp]) fun i x hx=>?_
  grind [Je,Option.map_eq_some_iff]
 |tup cs l hl _ ih=>
  refine .tup cs _ (by rw [Zp];exact hl) fun i x hx=>?_
  rw [Je,QoF] at hx
  grind
 |fn f cs l hl _ ih=>
  refine .fn f cs _ (by rw [Zp];exact hl) fun i x hx=>?_
  rw [Je,QoF] at hx;obtain ⟨y,hy,rfl⟩:=hx;exact ih i y hy
 |ptr l off b hb=>
  unfold UB;split
  ·rename_i l' hl;exact .ptr _ _ _ ((ac _ _ (YH hl)).trans hb)
  ·exact .top _
 |sa v l t b hb hv=>
  unfold UB;split
  ·rename_i l' hl;exact .sa _ _ _ b ((ac _ _ (YH hl)).trans hb) hv
  ·exact .top _
 |el ad row off c hs hc hr=>exact .el ad row off c hs hc hr
 |fs ad s rows hx=>exact .fs ad s rows hx
 |mpd v f hm=>exact .mpd v f hm
 |ex v=>exact .ex v
 |arr0 l e s hb hh=>
  unfold UB;split
  ·rename_i l' hl;exact .arr0 _ e s ((ac _ _ (YH hl)).trans hb) (ak _ _ _ (YH hl) hh)
  ·exact .top _
 |arr l b cap e s rows cs ty fz hb hh hw ax aq ar=>
  unfold UB;split
  ·rename_i l' hl;exact .arr _ b cap e s rows cs ty fz ((ac _ _ (YH hl)).trans hb) (ak _ _ _ (YH hl) hh) hw ax aq ar
  ·exact .top _
 |mp l b t f hb hh=>
  unfold UB;split
  ·rename_i l' hl;exact .mp _ b t f ((ac _ _ (YH hl)).trans hb) (ak _ _ _ (YH hl) hh)
  ·exact .top _
 |ap l i off b e s rows hb hh=>
  unfold UB;split
  ·rename_i l' hl;exact .ap _ i off b e s rows ((ac _ _ (YH hl)).trans hb) (ak _ _ _ (YH hl) hh)
  ·exact .top _
 |dang v av l hl hh h1=>
  cases av <;> simp [Mp] at hl
  ·subst hl;unfold UB;split
   ·rename_i l' ao;exact .dang _ _ l' rfl (au _ _ (YH ao) hh) h1
   ·exact .top _
  ·subst hl;unfold UB;split
   ·rename_i l' ao;exact .dang _ _ l' rfl (au _ _ (YH ao) hh) h1
   ·exact .top _
 |gdT=>exact .top _
 |gdF=>exact .top _
def Qd6 (ρ:List (Nat×Nat)) (av:AV):Bool:=
 match av with
 |.ptr j _=>(look ρ j).isSome
 |av=>lf av
def Co (ρ:List (Nat×Nat)):List AV->Bool
 |[]=>true
 |a::r=>Qd6 ρ a&&Co ρ r
theorem Q3u {ρ:List (Nat×Nat)}:∀ {l:List AV} {i:Nat} {x:AV},Co ρ l=true->l[i]? = some x->Qd6 ρ x=true
 |a::r,0,x,h,hx=>by
  simp only [Co,QoE] at h;simp at hx;subst hx;exact h.1
 |a::r,i+1,x,h,hx=>by
  simp only [Co,QoE] at h;exact Q3u h.2 (by simpa using hx)
def L8 (σ:List (Nat×Nat)) (H:List (Nat×Ob)):List (Nat×Nat)->List (Nat×oP Ob)
 |[]=>[]
 |(j,l)::r=>(l,(look H j).map (Qck σ))::L8 σ H r
theorem BH (σ:List (Nat×Nat)) (H:List (Nat×Ob)):∀ τ,(L8 σ H τ).map (·.1)=τ.map (·.2)
 |[]=>rfl
 |(j,l)::r=>by simp [L8,BH σ H r]
theorem Ly (σ:List (Nat×Nat)) (H:List (Nat×Ob)):∀ (τ:List (Nat×Nat)) (h:Nat->oP Ob),Xm (τ.map (·.2))=true->∀ j l,(j,l)∈τ->Hl h (L8 σ H τ) l=(look H j).map (Qck σ)
 |(a,b)::r,h,hn,j,l,hm=>by
  simp only [QoR,Xm,QoE,QoL] at hn;simp only [L8,Hl];rcases QoK.1 hm with hm | hm
  ·injection hm with e1 e2
   subst e1 e2;rw [Vf]
   ·simp
   ·rw [BH];intro ac;have:Si l (r.map (·.2))=true:=by
     have:∀ (L:List Nat),l∈L->Si l L=true:=by
      intro L;induction L with
      |nil=>simp_all
      |cons x xs ih=>
       grind [Si,Nat.beq_refl]
     simp_all
    simp_all
  ·exact Ly σ H r _ hn.2 j l hm
mutual
theorem Q29 (ρ:List (Nat×Nat)) (t:Nat):∀ av:AV,gds t (UB ρ av)=false
 |.top=>rfl
 |.d _=>rfl
 |.nil=>rfl
 |.el ..=>rfl
 |.fs ..=>rfl
 |.mpd _=>rfl
 |.ex _=>rfl
 |.gd ..=>rfl
 |.ag l=>by simp only [UB,gds];exact Fu ρ t l
 |.tup l=>by simp only [UB,gds];exact Fu ρ t l
 |.fn _ l=>by simp only [UB,gds];exact Fu ρ t l
 |.ptr l o=>by unfold UB;split <;> rfl
 |.arr l=>by unfold UB;split <;> rfl
 |.ap l i o=>by unfold UB;split <;> rfl
 |.sa l t=>by unfold UB;split <;> rfl
theorem Fu (ρ:List (Nat×Nat)) (t:Nat):∀ l:List AV,Q0h t (Q3i ρ l)=false
 |[]=>rfl
 |a::r=>by simp only [Q3i,Q0h,Q29 ρ t a,Fu ρ t r,Bool.or_self]
end
mutual
theorem Q9e (ρ:List (Nat×Nat)):∀ av:AV,lf av=true->UB ρ av=av
 |.top,_=>rfl
 |.d _,_=>rfl
 |.nil,_=>rfl
 |.el ..,_=>rfl
 |.fs ..,_=>rfl
 |.mpd _,_=>rfl
 |.ex _,_=>rfl
 |.gd ..,h=>by simp [lf] at h
 |.ag l,h=>by simp only [UB];rw [Q1O ρ l (by simpa [lf] using h)]
 |.tup l,h=>by simp only [UB];rw [Q1O ρ l (by simpa [lf] using h)]
 |.fn _ l,h=>by simp only [UB];rw [Q1O ρ l (by simpa [lf] using h)]
 |.ptr ..,h=>by simp [lf] at h
 |.arr _,h=>by simp [lf] at h
 |.ap ..,h=>by simp [lf] at h
 |.sa ..,h=>by simp [lf] at h
theorem Q1O (ρ:List (Nat×Nat)):∀ l:List AV,lfL l=true->Q3i ρ l=l
 |[],_=>rfl
 |a::r,h=>by
  simp only [lfL,QoE] at h;simp only [Q3i,Q9e ρ a h.1,Q1O ρ r h.2]
end
theorem Q7n {σ:List (Nat×Nat)} {l:Nat} (h:l ∉ σ.map (·.2)):inv σ l=none:=by
 cases hi:inv σ l with
 |none=>rfl
 |some j=>exact absurd (QoX.2 ⟨(j,l),Q9G hi,rfl⟩) h
theorem F4 {ρ:List (Nat×Nat)} (hn:Xm (ρ.map (·.1))=true) {j l:Nat} (hm:(j,l)∈ρ):look ρ j=some l:=by
 cases hk:look ρ j with
 |none=>
  have:∀ (L:List (Nat×Nat)),(j,l)∈L->look L j≠none:=by
   intro L;induction L with
   |nil=>simp_all
   |cons x r ih=>
    grind [Y7]
  simp_all
 |some l'=>
  have:=HX hn (j,l) (j,l') hm (YH hk) rfl
  simp_all
structure HeapEnd (σ ρ:List (Nat×Nat)) (H:List (Nat×Ob)) (av:AV) (H':List (Nat×Ob)) (dl:Dl):Prop where
 v:UB σ av=dl.v
 wr:L8 σ H' σ=dl.wr
 all:∀ j l,(j,l)∈σ->(look H' j).isSome=true
 box:∀ j l,(j,l)∈ρ->∃ c c',look H j=some (.box c)/\look H' j=some (.box c')/\c'.length=c.length
theorem Q4w {α : Type} {K : AV -> List (Nat×Ob) -> oP α} {res : α} {f : Nat} {fn : Func} (hf : P.funcs[f]? = some fn) (hb : fn.body.isSome = true) (hn : (fn.name == "runtime.NumGoroutine") = false)
  {σ ρ:List (Nat×Nat)} {avs avs':List AV} {H:List (Nat×Ob)} {hl:Nat->oP Ob} {dl:Dl}
  (hav:avs=avs'.map (UB ρ)) (hargs:Co ρ avs'=true)
  (hsub:∀ p,p∈ρ->p∈σ) (h1:Xm (σ.map (·.1))=true) (h2:Xm (σ.map (·.2))=true) (hρ:Xm (ρ.map (·.1))=true)
  (hin:∀ j l,(j,l)∈ρ->1000000<=j/\∃ cs cs',hl l=some (.box cs)/\look H j=some (.box cs')/\AVleL cs cs'/\lfL cs'=true)
  (hinH:∀ j,(look H j).isSome=true->∃ l,(j,l)∈ρ)
  (hnew:∀ j l,(j,l)∈σ->(j,l)∈ρ\/hl l=none)
  (hwl:wrL dl=σ.map (·.2))
  (hcall:∀ (β:Nat->oP Nat) (S:Nat->Prop) (w:World) (vs:List Value),Objs β S (look H) w->ArgsRd β S (look H) w vs avs'->Calls P f vs.toArray w (Nr H K res β S w)) (hK:∀ av H',K av H'=some res->HeapEnd σ ρ H av H' dl):Wp P f avs hl dl:=by
 refine ⟨⟨fn,hf,hb,hn⟩,fun β S h' w args hO hA hag=>?_⟩;have hag:∀ {j l:Nat},(j,l)∈σ->h' l=hl l:=fun {j l} hm=>hag l (.inr (by rw [hwl];exact QoX.2 ⟨(j,l),hm,rfl⟩))
 have hlook:∀ {j l:Nat},(j,l)∈ρ->look ρ j=some l:=fun hm=>F4 hρ hm
 have hβc:∀ {j l:Nat},(j,l)∈ρ->(look ρ j).bind β=β l:=fun hm=>by rw [hlook hm];rfl
 have hlk2:∀ {j j' l:Nat},(j,l)∈ρ->(j',l)∈ρ->j=j':=fun a b=>by
  have:=HX h2 _ _ (hsub _ a) (hsub _ b) rfl;injection this
 have hsome':∀ {j l:Nat},(j,l)∈ρ->(h' l).isSome=true:=fun hm=>by
  obtain ⟨_,cs,cs',g1,_⟩:=hin _ _ hm;rw [hag (hsub _ hm),g1];rfl
 have hO0:Objs (fun j=>(look ρ j).bind β) S (look H) w:=by
  refine ⟨fun j o ho=>?_,fun j j' b s1 s2 b1 b2=>?_,fun j b s1 b1=>?_,hO.sb⟩
  ·obtain ⟨l,hm⟩:=hinH j (by simp [ho]);obtain ⟨_,cs,cs',g1,g2,g3,g4⟩:=hin j l hm;rw [ho] at g2;injection g2 with g2
   subst g2;obtain ⟨b,ty,c0,fz,e1,e2,e3,e4,e5⟩:=hO.ob l _ ((hag (hsub _ hm)).trans g1);refine ⟨b,ty,c0,fz,(hβc hm).trans e1,e2,⟨e3.1,fun i l' t' hx=>by have:=Q1n g4 hx;simp [lf] at this⟩,e4.trans g3.length,fun i x hx=>?_⟩;obtain ⟨y,y1,y2⟩:=g3.at i x hx;exact FN (Q1n g4 hx) (fun _ h=>h) (fun _ _=>rfl) (y2 _ _ _ _ _ _ (e5 i y y1))
  ·obtain ⟨l,hm⟩:=hinH j s1;obtain ⟨l',hm'⟩:=hinH j' s2;have:=hO.inj l l' b (hsome' hm) (hsome' hm') (by rw [<- hβc hm];exact b1) (by rw [<- hβc hm'];exact b2);subst this;exact hlk2 hm hm'
  ·obtain ⟨l,hm⟩:=hinH j s1;exact hO.apart l b (hsome' hm) (by rw [<- hβc hm];exact b1)
 have hA0:ArgsRd (fun j=>(look ρ j).bind β) S (look H) w args avs':=by
  refine ⟨by rw [hA.1,hav,List.length_map],fun i v av g1 g2=>?_⟩;have hr:=hA.2 i v (UB ρ av) g1 (by rw [hav,List.getElem?_map,g2];rfl);have hok:=Q3u hargs g2;unfold Qd6 at hok;split at hok
  ·rename_i j o;cases hj:look ρ j with
   |none=>rw [hj] at hok;cases hok
   |some l=>
    simp only [UB,hj] at hr;cases hr with
    |ptr _ _ b hb'=>exact .ptr j o b (by simp only [hj];exact hb')
    |dang _ _ _ hl'=>simp [Mp] at hl'
  ·rw [Q9e ρ av hok] at hr;exact FN hok (fun _ h=>h) (fun _ _=>rfl) hr
 refine (hcall _ _ _ _ hO0 hA0).mono fun e w' ⟨v,av,H',β',S',he,hk,hrd,_,hr⟩=>?_
 obtain ⟨q1,q2,q3,q4⟩:=hK av H' hk;have hinv:∀ {j l:Nat},(j,l)∈σ->inv σ l=some j:=fun hm=>Q49 h2 hm
 let βo:Nat->oP Nat:=fun l=>match inv σ l with | some j=>β' j | none=>β l
 have hβo:∀ j l,(j,l)∈σ->βo l=β' j:=fun j l hm=>by simp only [βo,hinv hm]
 have hset:∀ j l,(j,l)∈σ->Hl h' dl.wr l=(look H' j).map (Qck σ):=fun j l hm=>by rw [<- q2];exact Ly σ H' σ h' h2 j l hm
 have hmem:∀ {l:Nat},l∈wrL dl->∃ j,(j,l)∈σ:=fun hm=>by
  rw [hwl] at hm;obtain ⟨⟨j,l'⟩,m1,m2⟩:=QoX.1 hm;simp only at m2;subst m2;exact ⟨j,m1⟩
 have hpin:∀ {j l:Nat},(j,l)∈ρ->β' j=β l:=fun hm=>(hr.pin _ (hin _ _ hm).1).trans (hβc hm)
 have hren:∀ {v:Value} {x:AV},RdA β' S' (look H') w' tm0 v x->RdA βo S' (Hl h' dl.wr) w' tm0 v (UB σ x):=fun hx=>
  Q6V hβo (fun j l o hm ho=>by rw [hset j l hm,ho];rfl) (fun j l hm ho=>by rw [hset j l hm,ho];rfl) hx
 have hnotin:∀ {j l:Nat},(j,l)∈σ->(j,l) ∉ ρ->∀ b,β' j=some b->w.heap.size<=b:=by
  intro j l hm hno b hb';rcases hr.own j b (q3 j l hm) hb' with ⟨j',s1,s2⟩ | h
  ·exfalso;obtain ⟨l',hm'⟩:=hinH j' s1;have e1:β' j'=some b:=(hpin hm').trans (by rw [<- hβc hm'];exact s2);have:=hr.inj j j' b (q3 j l hm) (q3 j' l' (hsub _ hm')) hb' e1;subst this;have:=HX h1 _ _ hm (hsub _ hm') rfl;exact hno (this▸hm')
  ·exact h
 have hMw:∀ b,(∃ j,(look H j).isSome=true/\(look ρ j).bind β=some b)->∃ l,l∈wrL dl/\(h' l).isSome=true/\β l=some b:=by
  intro b ⟨j,s1,s2⟩;obtain ⟨l,hm⟩:=hinH j s1;exact ⟨l,by rw [hwl];exact QoX.2 ⟨(j,l),hsub _ hm,rfl⟩,hsome' hm,by rw [<- hβc hm];exact s2⟩
 refine ⟨v,βo,S',he,⟨hr.s0,fun b hS=>?_,hr.sb,hr.fr.mono fun b _ hM=>hMw b hM,fun l hno=>?_,fun l o hm ho=>?_,fun l hm hs=>?_,fun l b hm hs hb'=>?_,fun l l' b hm hm' hs hs' hb' hb''=>?_,fun l hm hno hno'=>?_,?_,fun t=>by rw [<- q1];exact Q29 σ t av⟩⟩
 ·rcases hr.sfr b hS with g | g | g
  ·exact .inl g
  ·exact .inr (.inr (hMw b g))
  ·exact .inr (.inl g)
 ·have:inv σ l=none:=Q7n (by rw [<- hwl];exact hno);simp only [βo,this]
 ·obtain ⟨j,hj⟩:=hmem hm;rw [hset j l hj,QoF] at ho;obtain ⟨o',ho',rfl⟩:=ho;have hob:=hr.ob j o' ho';cases o' with
  |box cells=>
   obtain ⟨b,ty,cs,fz,g1,g2,g3,g4,g5⟩:=hob;refine ⟨b,ty,cs,fz,(hβo j l hj).trans g1,g2,⟨g3.1,Q1I g3.2⟩,by rw [g4,Zp],fun i x hx=>?_⟩;rw [Je,QoF] at hx;obtain ⟨y,hy,rfl⟩:=hx;exact hren (g5 i y hy)
  |arr e s rows=>
   rcases hob with ⟨g1,g2⟩ | ⟨b,cs,g1,g2,g3,g4,g5⟩
   ·exact .inl ⟨(hβo j l hj).trans g1,g2⟩
   ·exact .inr ⟨b,cs,(hβo j l hj).trans g1,g2,g3,g4,g5⟩
  |mp t f=>
   obtain ⟨b,hb,hm'⟩:=hob;exact ⟨b,(hβo j l hj).trans hb,hm'⟩
 ·obtain ⟨j,hj⟩:=hmem hm;rcases hnew j l hj with hp | hno
  ·obtain ⟨c,c',g1,g2,g3⟩:=q4 j l hp;obtain ⟨_,cs,cs',e1,e2,e3,_⟩:=hin j l hp;have hh:h' l=some (.box cs):=(hag hj).trans e1;refine ⟨(hβo j l hj).trans (hpin hp),fun hx=>(by rw [hh] at hx;cases hx),fun e s rows hx=>(by rw [hh] at hx;cases hx),fun b c0 ty fz _ hb' hw=>?_,fun t f hx=>(by rw [hh] at hx;cases hx)⟩;obtain ⟨b2,ty2,c2,fz2,k1,k2,_,k4,_⟩:=hr.ob j _ g2;obtain ⟨b3,ty3,c3,fz3,m1,m2,_,m4,_⟩:=hO.ob l _ hh;rw [hpin hp,hb'] at k1;injection k1 with k1
   subst k1;rw [hb'] at m1;injection m1 with m1
   subst m1;rw [hw] at m2;injection m2 with m2
   injection m2 with m2 _ _
   subst m2;refine ⟨c2,ty2,fz2,k2,?_⟩;rw [k4,m4,g3];rw [g1] at e2;injection e2 with e2
   injection e2 with e2
   rw [e2,e3.length]
  ·rw [hag hj,hno] at hs;cases hs
 ·obtain ⟨j,hj⟩:=hmem hm;rw [hβo j l hj] at hb';refine ⟨?_,hr.apart j b (q3 j l hj) hb'⟩;by_cases hp:(j,l)∈ρ
  ·exact .inr ⟨l,hm,hsome' hp,by rw [<- hpin hp];exact hb'⟩
  ·exact .inl (hnotin hj hp b hb')
 ·obtain ⟨j,hj⟩:=hmem hm;obtain ⟨j',hj'⟩:=hmem hm';rw [hβo j l hj] at hb';rw [hβo j' l' hj'] at hb'';have:=hr.inj j j' b (q3 j l hj) (q3 j' l' hj') hb' hb'';subst this;have:=HX h1 _ _ hj hj' rfl;injection this
 ·obtain ⟨j,hj⟩:=hmem hm;have:=q3 j l hj;rw [hset j l hj] at hno';cases hx:look H' j with
  |none=>rw [hx] at this;cases this
  |some o=>rw [hx] at hno';cases hno'
 ·rw [<- q1];exact hren hrd
def Qg3 (hl:Nat->oP Ob) (H:List (Nat×Ob)):List (Nat×Nat)->Prop
 |[]=>True
 |(j,l)::r=>(1000000<=j/\∃ cs ac,hl l=some (.box cs)/\look H j=some (.box ac)/\AVleL cs ac/\lfL ac=true)/\Qg3 hl H r
def Qcr (H:List (Nat×Ob)):List (Nat×Nat)->Prop
 |[]=>True
 |(j,_)::r=>(look H j).isSome=true/\Qcr H r
def Qfi (H H':List (Nat×Ob)):List (Nat×Nat)->Prop
 |[]=>True
 |(j,_)::r=>(∃ c c',look H j=some (.box c)/\look H' j=some (.box c')/\c'.length=c.length)/\Qfi H H' r
def Qhd (hl:Nat->oP Ob):List (Nat×Nat)->Bool
 |[]=>true
 |(_,l)::r=>(hl l).isNone&&Qhd hl r
theorem Q8Y {hl:Nat->oP Ob} {H:List (Nat×Ob)}:∀ {ρ:List (Nat×Nat)},Qg3 hl H ρ->∀ j l,(j,l)∈ρ->1000000<=j/\∃ cs ac,hl l=some (.box cs)/\look H j=some (.box ac)/\AVleL cs ac/\lfL ac=true
 |(a,b)::r,h,j,l,hm=>by
  rcases QoK.1 hm with hm | hm
  ·injection hm with h1 h2;subst h1 h2;exact h.1
  ·exact Q8Y h.2 j l hm
theorem Q5g {H:List (Nat×Ob)}:∀ {ρ:List (Nat×Nat)},Qcr H ρ->∀ j l,(j,l)∈ρ->(look H j).isSome=true
 |(a,b)::r,h,j,l,hm=>by
  rcases QoK.1 hm with hm | hm
  ·injection hm with h1 h2;subst h1 h2;exact h.1
  ·exact Q5g h.2 j l hm
theorem Q8S {H H':List (Nat×Ob)}:∀ {ρ:List (Nat×Nat)},Qfi H H' ρ->∀ j l,(j,l)∈ρ->∃ c c',look H j=some (.box c)/\look H' j=some (.box c')/\c'.length=c.length
 |(a,b)::r,h,j,l,hm=>by
  rcases QoK.1 hm with hm | hm
  ·injection hm with h1 h2;subst h1 h2;exact h.1
  ·exact Q8S h.2 j l hm
theorem Q6v {hl:Nat->oP Ob}:∀ {ρ:List (Nat×Nat)},Qhd hl ρ=true->∀ j l,(j,l)∈ρ->hl l=none
 |(a,b)::r,h,j,l,hm=>by
  simp only [Qhd,QoE] at h;rcases QoK.1 hm with hm | hm
  ·injection hm with h1 h2;subst h1 h2;simpa using h.1
  ·exact Q6v h.2 j l hm
theorem Q2a:∀ {H:List (Nat×Ob)} {ρ:List (Nat×Nat)},H.map (·.1)=ρ.map (·.1)->∀ j,(look H j).isSome=true->∃ l,(j,l)∈ρ
 |[],_,_,j,hs=>by simp [look] at hs
 |(a,o)::r,[],h,_,_=>by simp at h
 |(a,o)::r,(b,l)::ρ,h,j,hs=>by
  simp only [QoR,List.cons.injEq] at h;rw [Y7] at hs;by_cases e:j=a
  ·exact ⟨l,by rw [e,h.1];exact List.mem_cons_self ..⟩
  ·rw [QoW e] at hs;obtain ⟨l',hm⟩:=Q2a h.2 j hs;exact ⟨l',List.mem_cons_of_mem _ hm⟩
def Np (hl:Nat->oP Ob) (ρ ν:List (Nat×Nat)):Bool:=Xm ((ρ++ν).map (·.2))&&Qhd hl ν
theorem Q08 {α : Type} {K : AV -> List (Nat×Ob) -> oP α} {res : α} {f : Nat} {fn : Func} (hf : P.funcs[f]? = some fn) (hb : fn.body.isSome = true) (hn : (fn.name == "runtime.NumGoroutine") = false)
  {ρ ν:List (Nat×Nat)} {avs avs':List AV} {H:List (Nat×Ob)} {hl:Nat->oP Ob} {dl:Dl}
  (hav:avs=avs'.map (UB ρ)) (hargs:Co ρ avs'=true) (h1:Xm ((ρ++ν).map (·.1))=true) (hρ:Xm (ρ.map (·.1))=true)
  (hc:Np hl ρ ν=true) (hin:Qg3 hl H ρ) (hkeys:H.map (·.1)=ρ.map (·.1)) (hwl:wrL dl=(ρ++ν).map (·.2))
  (hcall:∀ (β:Nat->oP Nat) (S:Nat->Prop) (w:World) (vs:List Value),Objs β S (look H) w->ArgsRd β S (look H) w vs avs'->Calls P f vs.toArray w (Nr H K res β S w))
  (hK:∀ av H',K av H'=some res->UB (ρ++ν) av=dl.v/\L8 (ρ++ν) H' (ρ++ν)=dl.wr/\Qcr H' (ρ++ν)/\Qfi H H' ρ):Wp P f avs hl dl:=by
 simp only [Np,QoE] at hc;refine Q4w hf hb hn hav hargs (fun p hp=>List.mem_append_left _ hp) h1 hc.1 hρ (Q8Y hin) (Q2a hkeys) (fun j l hm=>?_) hwl hcall fun av H' hk=>?_
 ·grind [Q6v]
 ·obtain ⟨q1,q2,q3,q4⟩:=hK av H' hk;exact ⟨q1,q2,Q5g q3,Q8S q4⟩
theorem QeJ {α : Type} {K : AV -> List (Nat×Ob) -> oP α} {res : α} {C : VC} (hC : VCOk P C) {n f : Nat} {fn : Func} (hf : P.funcs[f]? = some fn) (hb : fn.body.isSome = true) (hn : (fn.name == "runtime.NumGoroutine") = false)
  {ρ ν:List (Nat×Nat)} {avs avs':List AV} {H:List (Nat×Ob)} {hl:Nat->oP Ob} {dl:Dl}
  (hav:avs=avs'.map (UB ρ)) (hargs:Co ρ avs'=true) (h1:Xm ((ρ++ν).map (·.1))=true) (hρ:Xm (ρ.map (·.1))=true)
  (hc:Np hl ρ ν=true) (hin:Qg3 hl H ρ) (hkeys:H.map (·.1)=ρ.map (·.1)) (hwl:wrL dl=(ρ++ν).map (·.2))
  (h:vfn C n fn avs' H K=some res)
  (hK:∀ av H',K av H'=some res->UB (ρ++ν) av=dl.v/\L8 (ρ++ν) H' (ρ++ν)=dl.wr/\Qcr H' (ρ++ν)/\Qfi H H' ρ):Wp P f avs hl dl:=
 Q08 hf hb hn hav hargs h1 hρ hc hin hkeys hwl (fun _ _ _ _ hO hA=>BB hC hf h hO hA) hK
theorem Y3 {c:Bool} {x:oP R} {r:R} (h:(bif c then x else none)=some r):c=true/\x=some r:=by
 grind
def Qii (l:List Nat) (a b:Sf):Sf:=fun R ac g aj hl k=>bif Si ac l then a R ac g aj hl k else b R ac g aj hl k
theorem Qdq (l:List Nat) {f:Nat} {a b:Sf} (ha:J9 P f a) (hb:J9 P f b):J9 P f (Qii l a b):=by
 intro R ac g aj hl k r h;unfold Qii at h;cases hm:Si ac l with
 |true=>rw [hm] at h;exact ha R ac g aj hl k r h
 |false=>rw [hm] at h;exact hb R ac g aj hl k r h
def prP (hl:Nat->oP Ob) (av:AV) (k:Nat->List AV->oP R):oP R:=
 match av with
 |.ptr l o=>bif Nat.beq o 0 then match hl l with
  |some (.box cs)=>k l cs
  |_=>none
  else none
 |_=>none
theorem QgZ {hl:Nat->oP Ob} {av:AV} {k:Nat->List AV->oP R} {r:R} (h:prP hl av k=some r):∃ l cs,k l cs=some r/\av = .ptr l 0/\hl l=some (.box cs):=by
 unfold prP at h
 grind [Nat.beq,Nat.eq_of_beq_eq_true]
end
end Go.Vx
namespace Go.Vx
variable {w:World}
section
variable {P:Program} {R:Type}
def SW (w:World):Nat->Prop:=fun b=>b<w.heap.size
theorem Q90 {f:Nat} {ss:List (List Nat)} {K:AV->oP Bool} (hK:∀ x,K x=some true->x = .d (.bool true))
  {an:List AV} {args:List Value} (hA:ArgsRd (fun _=>none) (SW w) (look ([]:List (Nat×Ob))) w args an) (aj:∀ (β:Nat->oP Nat) (S:Nat->Prop) (w:World) (vs:List Value),Objs β S (look ([]:List (Nat×Ob))) w->ArgsRd β S (look ([]:List (Nat×Ob))) w vs an->Calls P f vs.toArray w (Nr ([]:List (Nat×Ob)) (retF ss K) true β S w)) :
  Calls P f args.toArray w fun e w'=>e = .returned (.bool true)/\RowKit.Below w.heap.size w w':=by
 have hO:Objs (fun _=>none) (SW w) (look ([]:List (Nat×Ob))) w:=⟨fun l o h=>by simp [look] at h,fun l l' b h=>by simp [look] at h,fun l b h=>by simp [look] at h,fun b h=>h⟩;refine (aj _ _ _ _ hO hA).mono fun e w' ⟨v,av,H',β',S',he,hk,au,_,hr⟩=>?_
 refine ⟨?_,Fr.below (hr.fr.mono fun b _ ⟨l,h1,_⟩=>by simp [look] at h1)⟩;unfold retF at hk;split at hk
 case h_2=>cases hk
 rename_i ar ao;cases ac:lf (QeO ss ar) with
 |false=>simp [ac] at hk
 |true=>
  simp only [ac,QoJ] at hk;have hk:=hK _ hk;have aq:Objs β' S' (look H') w':=⟨hr.ob,hr.inj,hr.apart,hr.sb⟩;obtain ⟨bs,_,_,ak⟩:=Q2O aq ao au;have:=Q9i ss _ _ _ _ _ _ _ ak;rw [hk] at this;rw [he,this.bool_inv]
theorem Q7S {β:Nat->oP Nat} {S:Nat->Prop} {h:Nat->oP Ob}:ArgsRd β S h w [] []:=⟨rfl,fun i v av h=>by simp at h⟩
theorem Q5A {β:Nat->oP Nat} {S:Nat->Prop} {h:Nat->oP Ob} {v:Value} {av:AV} {vs:List Value} {ac:List AV} (h0:RdA β S h w tm0 v av) (hr:ArgsRd β S h w vs ac):ArgsRd β S h w (v::vs) (av::ac):=by
 refine ⟨by simp [hr.1],fun i v' aj h1 h2=>?_⟩;cases i with
 |zero=>simp at h1 h2;subst h1 h2;exact h0
 |succ i=>exact hr.2 i v' aj (by simpa using h1) (by simpa using h2)
theorem QeD {a:Addr} {v:Value} (h:w.cell? a=some v):a.block<w.heap.size:=by
 rcases Nat.lt_or_ge a.block w.heap.size with h1 | h1
 ·exact h1
 ·simp [World.cell?,Array.getElem?_eq_none h1] at h
theorem Qh {α:Type} (g:Bool) (a z:α) (k:α->oP R):gb g (some a) z k=k a:=rfl
end
end Go.Vx
namespace Go.Vx
inductive Sh where
 |int (k:IntKind)
 |bool
 |str
 |sl (row:List Sh)
inductive Fit:Sh->D->Prop
 |int (k:IntKind) (n:Int) (h:(Lit.int k n).wf=true):Fit (.int k) (.int k n)
 |bool (b:Bool):Fit .bool (.bool b)
 |str (s:List UInt8) (h:s.length<=maxLen):Fit .str (.str s)
 |sl (row:List Sh) (rows:List (List D)) (h:rows.length<=maxLen) (hl:∀ (i:Nat) (r:List D),rows[i]? = some r->r.length=row.length)
   (hr:∀ (i j:Nat) (r:List D) (s:Sh) (x:D),rows[i]? = some r->row[j]? = some s->r[j]? = some x->Fit s x):Fit (.sl row) (.sl row.length rows)
def Qct (ss:List Sh) (ds:List D):Prop:=ds.length=ss.length/\∀ (j:Nat) (s:Sh) (x:D),ss[j]? = some s->ds[j]? = some x->Fit s x
def Qf3 (P:Program) (so:TypeId->oP (List Sh)):Nat->List Field->oP (List Sh)
 |_,[]=>some []
 |off,fd::r=>
  if fd.offset=off then match so fd.type with
   |some a=>if a.length=P.cellsOf fd.type then match Qf3 P so (off+a.length) r with
    |some l=>some (a++l)
    |none=>none
    else none
   |none=>none
  else none
def Qa6 (P:Program):Nat->TypeId->oP (List Sh)
 |0,_=>none
 |f+1,t=>
  match P.underlying t with
  |some .bool=>some [.bool]
  |some (.int k)=>some [.int k]
  |some .string=>some [.str]
  |some (.slice e)=>match Qa6 P f e with
   |some row=>if row.length=P.cellsOf e/\row.length≠0 then some [.sl row] else none
   |none=>none
  |some (.struct fs)=>match Qf3 P (Qa6 P f) 0 fs.toList with
   |some l=>if l.length=P.cellsOf t then some l else none
   |none=>none
  |_=>none
section
variable {P:Program} {H:Type} {enc:TypeId×Value->H} {w:World}
def RdL (w:World) (cs:List Value) (ds:List D):Prop:=cs.length=ds.length/\∀ (j:Nat) (v:Value) (x:D),cs[j]? = some v->ds[j]? = some x->Rd (SW w) w v x
theorem Q6j {α:Type} {Q:Nat->α->Prop}:∀ (n:Nat),(∀ i,i<n->∃ a,Q i a)->∃ l:List α,l.length=n/\∀ (i:Nat) (a:α),l[i]? = some a->Q i a
 |0,_=>⟨[],rfl,fun i a h=>by simp at h⟩
 |n+1,h=>by
  obtain ⟨l,h1,h2⟩:=Q6j n fun i hi=>h i Q0
  obtain ⟨a,ha⟩:=h n Q0;refine ⟨l++[a],by simp [h1],fun i x hx=>?_⟩;rw [List.getElem?_append] at hx;split at hx
  ·exact h2 i x hx
  ·have:i=l.length:=by
    rcases Nat.lt_or_ge (i-l.length) 1 with h3 | h3
    ·omega
    ·rw [QoZ (by simpa using h3)] at hx;cases hx
   subst this;simp at hx;subst hx;rw [h1];exact ha
theorem Qct.append {a b:List Sh} {x y:List D} (h1:Qct a x) (h2:Qct b y):Qct (a++b) (x++y):=by
 refine ⟨by simp [h1.1,h2.1],fun j s d hs hd=>?_⟩;rw [List.getElem?_append] at hs hd;rw [h1.1] at hd;split at hs
 ·rename_i h;rw [if_pos h] at hd;exact h1.2 j s d hs hd
 ·rename_i h;rw [QoW h] at hd;exact h2.2 _ s d hs hd
theorem RdL.append {a b:List Value} {x y:List D} (h1:RdL w a x) (h2:RdL w b y):RdL w (a++b) (x++y):=by
 refine ⟨by simp [h1.1,h2.1],fun j s d hs hd=>?_⟩;rw [List.getElem?_append] at hs hd;rw [h1.1] at hs;split at hd
 ·rename_i h;rw [if_pos h] at hs;exact h1.2 j s d hs hd
 ·rename_i h;rw [QoW h] at hs;exact h2.2 _ s d hs hd
theorem Av {v:Value} {x:D} (h:Rd (SW w) w v x):RdL w [v] [x]:=⟨rfl,fun j v' x' h1 h2=>by
 cases j with
 |zero=>simp at h1 h2;subst h1 h2;exact h
 |succ j=>simp at h1⟩
theorem Es {s:Sh} {x:D} (h:Fit s x):Qct [s] [x]:=⟨rfl,fun j v' x' h1 h2=>by
 cases j with
 |zero=>simp at h1 h2;subst h1 h2;exact h
 |succ j=>simp at h1⟩
theorem Q8t {base:Nat} {a:Addr} {n:Nat} {cs:List Value} (h:w.cells? base a n=some cs):cs.length=n/\∀ (j:Nat) (v:Value),cs[j]? = some v->w.cell? (a.add j)=some v:=by
 unfold World.cells? at h;split at h
 ·refine ⟨by simpa using mapM_some_length h,fun j v hv=>?_⟩;have hj:j<n:=by
   have h1:=mapM_some_length h;have h2:=(QoG.1 hv).1;simp at h1;omega
  have:=mapM_some_get h j j (by simp [hj]);rw [this,hv]
 ·cases h
def Got (w:World) (ss:List Sh) (cs:List Value):Prop:=∃ ds,RdL w cs ds/\Qct ss ds
theorem Q6U {base:Nat} {aw:Nat->Bool} {ay:Bool}:∀ (n:Nat) (f:Nat) (t:TypeId) (ss:List Sh) (cs:List Value) (x:DataW H×List MemPlace),Qa6 P f t=some ss->DataW.trod enc P w base aw ay n t cs=some x->Got w ss cs:=by
 intro n;induction n with
 |zero=>intro f t ss cs x _ h;simp [DataW.trod] at h
 |succ n ih=>
  intro f t ss cs x hs h;cases f with
  |zero=>simp [Qa6] at hs
  |succ f=>
   unfold Qa6 at hs;split at hs
   ·rename_i ht;injection hs with hs;subst hs
    obtain ⟨b,rfl,_⟩:=DataW.trod_bool ht h;exact ⟨[.bool b],Av (.bool b),Es (.bool b)⟩
   ·rename_i k ht;injection hs with hs;subst hs
    obtain ⟨b,rfl,_,hw⟩:=DataW.trod_int ht h;exact ⟨[.int k b],Av (.int k b),Es (.int k b hw)⟩
   ·rename_i ht;injection hs with hs;subst hs
    obtain ⟨b,rfl,_,hw⟩:=DataW.trod_string ht h;exact ⟨[.str b.data.toList],Av (.str b),Es (.str _ (by simpa using hw))⟩
   ·rename_i e ht;split at hs
    case h_2=>cases hs
    rename_i row a7;split at hs
    case isFalse=>cases hs
    rename_i aq;obtain ⟨aq,hz⟩:=aq;injection hs with hs;subst hs
    rcases DataW.trod_slice ht h with ⟨rfl,_⟩ | ⟨a,len,cap,an,rest,n',hn,rfl,_,hb,hl,hm,bv,hat,_,_⟩
    ·exact ⟨[.sl row.length []],Av (.sl0 _ _ _),Es (.sl row [] (Nat.zero_le _) (fun i r h=>by simp at h) (fun i j r s x h=>by simp at h))⟩
    ·obtain rfl:n=n':=Q0
     have a2:∀ i,i<len->∃ r:List D,∃ cs,w.cells? base (a.add (i*P.cellsOf e)) (P.cellsOf e)=some cs/\RdL w cs r/\Qct row r:=by
      intro i hi;have h1:=hat i hi;have h2:an[i]? = some (an[i]'Q0):=QoH Q0;rw [h2,Option.bind_eq_some_iff] at h1;obtain ⟨cs,hc,h1⟩:=h1;obtain ⟨ds,g1,g2⟩:=ih f e row cs _ a7 h1;exact ⟨ds,cs,hc,g1,g2⟩
     obtain ⟨rows,a3,ac⟩:=Q6j len a2;refine ⟨[.sl row.length rows],Av ?_,Es (.sl row rows Q0 (fun i r hr=>?_) (fun i j r s x hr hs hx=>?_))⟩
     ·cases len with
      |zero=>
       have:rows=[]:=List.eq_nil_of_length_eq_zero a3;subst this;exact .sl0 _ _ _
      |succ m=>
       have aj:∀ (i j:Nat) (r:List D) (x:D),rows[i]? = some r->r[j]? = some x->∃ v,w.cell? (a.add (i*row.length+j))=some v/\Rd (SW w) w v x:=by
        intro i j r x hr hx;obtain ⟨cs,hc,g1,g2⟩:=ac i r hr;obtain ⟨c1,c2⟩:=Q8t hc;have hj:j<cs.length:=by have:=(QoG.1 hx).1;have:=g1.1;omega
        have a4:cs[j]? = some (cs[j]' hj):=QoH hj;refine ⟨cs[j]' hj,?_,g1.2 j _ x a4 hx⟩;have:=c2 j _ a4;rw [BN] at this;rw [aq];exact this
       ·have h0:∃ r,rows[0]? = some r:=⟨_,QoH Q0⟩;obtain ⟨r0,a6⟩:=h0;obtain ⟨bp,br,g1,g2⟩:=ac 0 r0 a6;have au:∃ x,r0[0]? = some x:=⟨_,QoH (by rw [g2.1];omega)⟩;obtain ⟨x0,au⟩:=au;obtain ⟨v0,bj,_⟩:=aj 0 0 r0 x0 a6 au;have a5:a.block<w.heap.size:=by have:=QeD bj;rwa [JY] at this
        have:=Rd.sl (S:=SW w) (w:=w) a cap row.length rows (fun i j=>(w.cell? (a.add (i*row.length+j))).getD undef) a5 Q0
         (fun i r hr=>by obtain ⟨_,_,_,g2⟩:=ac i r hr;exact g2.1)
         (fun i j r x hr hx=>by obtain ⟨v,hv,_⟩:=aj i j r x hr hx;rw [hv];rfl)
         (fun i j r x hr hx=>by obtain ⟨v,hv,h2⟩:=aj i j r x hr hx;rw [hv];exact h2)
        rw [a3] at this;exact this
     ·obtain ⟨_,_,_,g2⟩:=ac i r hr;exact g2.1
     ·obtain ⟨_,_,_,g2⟩:=ac i r hr;exact g2.2 j s x hs hx
   ·rename_i fs ht;split at hs
    case h_2=>cases hs
    rename_i l hl;split at hs
    case isFalse=>cases hs
    rename_i aq;injection hs with hs;subst hs
    obtain ⟨xs,n',hn,_,bl,bz,hat⟩:=DataW.trod_struct ht h;obtain rfl:n=n':=Q0
    have bi:∀ (r:List Field) (i off:Nat) (l:List Sh),fs.toList.drop i=r->Qf3 P (Qa6 P f) off r=some l->off+l.length<=cs.length->Got w l ((cs.drop off).take l.length):=by
     intro r;induction r with
     |nil=>
      intro i off l _ hl _;simp [Qf3] at hl;subst hl;exact ⟨[],⟨by simp,fun j v x h=>by simp at h⟩,⟨rfl,fun j v x h=>by simp at h⟩⟩
     |cons fd r bc=>
      intro i off l hd hl bg;unfold Qf3 at hl;split at hl
      case isFalse=>cases hl
      rename_i az;split at hl
      case h_2=>cases hl
      rename_i a ha;split at hl
      case isFalse=>cases hl
      rename_i ax;split at hl
      case h_2=>cases hl
      rename_i l' bk;injection hl with hl;subst hl
      have hi:fs[i]? = some fd:=by
       have:(fs.toList.drop i)[0]? = some fd:=by rw [hd];rfl
       rw [QoO] at this;simpa using this
      have h1:=hat i fd hi;have a8:i<xs.length:=by
       have:=(QoN.1 hi).1;omega
      rw [QoH a8,az,<- ax] at h1;have g1:=ih f fd.type a _ _ ha h1;have g2:=bc (i+1) (off+a.length) l' (by rw [<- List.drop_drop,hd];rfl) bk (by simp at bg;omega);obtain ⟨d1,p1,q1⟩:=g1;obtain ⟨d2,p2,q2⟩:=g2;refine ⟨d1++d2,?_,q1.append q2⟩;have ar:(cs.drop off).take (a++l').length=(cs.drop off).take a.length++(cs.drop (off+a.length)).take l'.length:=by
       rw [List.length_append,List.take_add,List.drop_drop]
      rw [ar];exact p1.append p2
    have:=bi fs.toList 0 0 l rfl hl Q0;rwa [List.drop_zero,List.take_of_length_le Q0] at this
   ·cases hs
inductive ASh where
 |one (s:Sh)
 |ag (ss:List Sh)
def Qep (P:Program) (t:TypeId):oP ASh:=
 match P.underlying t with
 |some (.struct _)=>match Qa6 P 9 t with
  |some l=>some (.ag l)
  |none=>none
 |_=>match Qa6 P 9 t with
  |some [s]=>some (.one s)
  |_=>none
def ashL (P:Program):List TypeId->oP (List ASh)
 |[]=>some []
 |t::r=>match Qep P t with
  |some a=>match ashL P r with
   |some l=>some (a::l)
   |none=>none
  |none=>none
def QiP:ASh->AV->Prop
 |.one s,av=>∃ x,av = .d x/\Fit s x
 |.ag ss,av=>∃ ds:List D,av = .ag (ds.map .d)/\Qct ss ds
def AFits:List ASh->List AV->Prop
 |[],[]=>True
 |a::as,v::vs=>QiP a v/\AFits as vs
 |_,_=>False
theorem Q2u {r:Reach} {base:Nat} {t:TypeId} {v:Value} {f:Nat} {ss:List Sh} (hs:Qa6 P f t=some ss) (hn:∀ fs,P.underlying t≠some (.struct fs)) (h:Value.okWide P w r base t v):v.cells.toList=[v]:=by
 cases f with
 |zero=>simp [Qa6] at hs
 |succ f=>
  unfold Qa6 at hs;split at hs
  ·rename_i ht;obtain ⟨b,rfl⟩:=WideShapes.okWide_bool ht h;rfl
  ·rename_i k ht;obtain ⟨b,rfl⟩:=WideShapes.okWide_int ht h;rfl
  ·rename_i ht;obtain ⟨b,rfl⟩:=WideShapes.okWide_string ht h;rfl
  ·rename_i e ht;obtain ⟨a,l,c,rfl⟩:=WideShapes.okWide_slice ht h;rfl
  ·rename_i fs ht;exact absurd ht (hn fs)
  ·cases hs
theorem Qew {r:Reach} {base aj:Nat} {ac:Nat->Bool} {ak:Bool} {t:TypeId} {v:Value} {d:DataW H} {ps:List MemPlace} {a:ASh} (ha:Qep P t=some a) (hv:Value.okWide P w r base t v) (h:DataW.Trod enc P w aj ac ak t v d ps) :
  ∃ av,RdA (fun _=>none) (SW w) (look ([]:List (Nat×Ob))) w tm0 v av/\QiP a av:=by
 obtain ⟨n,h⟩:=h;unfold Qep at ha;split at ha
 ·rename_i fs ht;split at ha
  case h_2=>cases ha
  rename_i l hl;injection ha with ha;subst ha
  obtain ⟨ds,h1,h2⟩:=Q6U n 9 t l _ _ hl h;simp only [Value.okWide,ht] at hv;obtain ⟨cs,rfl,au,_⟩:=hv;refine ⟨.ag (ds.map .d),.ag cs _ (by simpa [Value.cells] using h1.1) fun i x hx=>?_,ds,rfl,h2⟩;rw [List.getElem?_map,QoF] at hx;obtain ⟨y,hy,rfl⟩:=hx;have hi:i<cs.size:=by
   have g1:=(QoG.1 hy).1;have g2:=h1.1;simp [Value.cells] at g2;omega
  have hc:cs.getD i undef=cs[i]:=by simp [Array.getD,hi]
  rw [hc];exact .d _ _ (h1.2 i _ y (by simp [Value.cells,hi]) hy)
 ·rename_i hn;split at ha
  case h_2=>cases ha
  rename_i s hs;injection ha with ha;subst ha
  have hc:=Q2u hs hn hv;obtain ⟨ds,h1,h2⟩:=Q6U n 9 t _ _ _ hs h;rw [hc] at h1;obtain ⟨x,rfl⟩:∃ x,ds=[x]:=by
   have:=h1.1
   match ds,this with
   |[x],_=>exact ⟨x,rfl⟩
  exact ⟨.d x,.d _ _ (h1.2 0 v x rfl rfl),x,rfl,h2.2 0 s x rfl rfl⟩
theorem Q7v {r:Reach} {base an:Nat} {ak:Nat->Bool} {ao:Bool}:∀ (ts:List TypeId) (vs:List Value) (ds:List (DataW H)) (ps:List MemPlace) (as:List ASh),ashL P ts=some as ->
  (∀ (j:Nat) t v,ts[j]? = some t->vs[j]? = some v->Value.okWide P w r base t v)->DataW.TrodAll enc P w an ak ao ts vs ds ps ->
  ∃ aj,ArgsRd (fun _=>none) (SW w) (look ([]:List (Nat×Ob))) w vs aj/\AFits as aj
 |[],vs,ds,ps,as,ac,hv,h=>by
  simp [ashL] at ac;subst ac;cases vs with
  |nil=>exact ⟨[],Q7S,trivial⟩
  |cons v vs=>cases ds <;> simp [DataW.TrodAll] at h
 |t::ts,vs,ds,ps,as,ac,hv,h=>by
  obtain ⟨v,ax,d,aw,p,q,rfl,rfl,rfl,h1,h2⟩:=ChangeShapes.trodAll_cons h;unfold ashL at ac;split at ac
  case h_2=>cases ac
  rename_i a ha;split at ac
  case h_2=>cases ac
  rename_i au aq;injection ac with ac
  subst ac;obtain ⟨av,g1,g2⟩:=Qew ha (hv 0 t v rfl rfl) h1;obtain ⟨aj,g3,g4⟩:=Q7v ts ax aw q au aq (fun j t v h1 h2=>hv (j+1) t v (by simpa using h1) (by simpa using h2)) h2;exact ⟨av::aj,Q5A g1 g3,g2,g4⟩
theorem Q3x {W W':World} (hl:laidOutB P=true) (hb:RowKit.Below W.heap.size W W'):∀ (ts:List TypeId) (vs:List Value) (ds:List (DataW H)) (ps:List MemPlace),(ts.all fun t=>P.readableRec t&&decide (t<P.types.size))=true ->
  DataW.TrodAll enc P W 0 (fun _=>true) true ts vs ds ps->∃ pa,DataW.TrodAll enc P W' 0 (fun b=>decide (b<W.heap.size)) true ts vs ds pa
 |[],vs,ds,ps,_,h=>by
  cases vs <;> cases ds <;> simp [DataW.TrodAll] at h;exact ⟨[],rfl⟩
 |t::ts,vs,ds,ps,ht,h=>by
  obtain ⟨v,aq,d,ao,p,q,rfl,rfl,rfl,h1,h2⟩:=ChangeShapes.trodAll_cons h;simp only [List.all_cons,QoE,decide_eq_true_eq] at ht;obtain ⟨pa,g⟩:=Q3x hl hb ts aq ao q ht.2 h2;have an:∀ x∈p,x.block<W.heap.size:=by obtain ⟨m,hm⟩:=h1;exact DataW.trod_lt m _ _ _ hm
  exact ⟨p++pa,p,pa,RowKit.Below.trod hl ht.1.1 ht.1.2 h1 hb an,g,rfl⟩
theorem Lm {base:Nat} {ac:Nat->Bool} {ak:Bool}:∀ (ts:List TypeId) (vs:List Value) (ds:List (DataW H)) (ps:List MemPlace),DataW.TrodAll enc P w base ac ak ts vs ds ps->vs.length=ts.length/\ds.length=ts.length
 |[],vs,ds,ps,h=>by
  cases vs <;> cases ds <;> simp [DataW.TrodAll] at h;exact ⟨rfl,rfl⟩
 |t::ts,vs,ds,ps,h=>by
  obtain ⟨v,ao,d,an,p,q,rfl,rfl,rfl,h1,h2⟩:=ChangeShapes.trodAll_cons h;have:=Lm ts ao an q h2;simp [this.1,this.2]
theorem law_contract {fn:Func} {f:FuncId} {s:ChangeSpec} {as:List ASh} {tb:TypeId} (ar:laidOutB P=true)
  (ac:s.vars=[]) (aq:(fn.params.toList.all fun t=>P.readableRec t&&decide (t<P.types.size))=true) (a3:ashL P fn.params.toList=some as)
  (ay:fn.resultTypes = #[tb]) (hb:P.underlying tb=some .bool)
  {W:World} {base:Nat} {args:Array Value} {ds gs:List (DataW H)} {aj:List MemPlace}
  (au:∀ (j:Nat) t v,fn.params[j]? = some t->args[j]? = some v->Value.okWide P W .any base t v)
  (hW:DataW.Whole enc P fn.params.toList s.vars false W args.toList ds gs aj)
  (an:∀ ds:List (DataW H),ds.length=fn.params.size->s.fn H ds={ results:=[.lit (.bool true)],args:=ds })
  (walk:∀ ak,AFits as ak->ArgsRd (fun _=>none) (SW W) (look ([]:List (Nat×Ob))) W args.toList ak->Calls P f args W fun e w'=>e = .returned (.bool true)/\RowKit.Below W.heap.size W w') :
  Calls P f args W fun e W'=>∃ v,e = .returned v/\s.post enc P fn false true false false W args v W':=by
 have az:=hW;obtain ⟨p,q,hA,hV,rfl,bc,a9⟩:=hW;obtain ⟨ak,g1,g2⟩:=Q7v (r:=.any) (base:=base) _ _ _ _ as a3 (fun j t v h1 h2=>au j t v (by simpa using h1) (by simpa using h2)) hA;refine (walk ak g2 g1).mono fun e W' ⟨he,ax⟩=>?_
 subst he;obtain ⟨pa,a2⟩:=Q3x ar ax _ _ _ _ aq hA;rw [ac] at hV;obtain ⟨rfl,rfl⟩:=ChangeShapes.trodVars_none hV;have aw:=(Lm _ _ _ _ hA).2;have ao:=an ds (by simpa using aw);refine ⟨_,rfl,ds,[],_,[],pa,[],az,?_,?_,?_,ax.frame _,fun h=>by cases h⟩
 ·rw [List.append_nil,ao,ay];exact ChangeShapes.trodAll_mk1 (RowKit.shut_bool hb _)
 ·rw [List.append_nil,ao];exact a2
 ·rw [List.append_nil,ao,ac];rfl
end
end Go.Vx
namespace Go.Vx
variable {i:Nat}
section
variable {R:Type}
def i64 (x:Int):Prop := -9223372036854775808<=x/\x<=9223372036854775807
theorem Q7l {x:Int} (h:i64 x):wJ x=x:=IntWalk.i64_in x h
theorem Q5t {x:Int} (h1 : -9223372036854775808<=x) (h2:x<=9223372036854775807):wJ x=x:=IntWalk.i64_in x ⟨h1,h2⟩
theorem Qj4 {n:Int} (h:(Lit.int .i64 n).wf=true):i64 n:=by
 simpa [Lit.wf,IntKind.min,IntKind.max,IntKind.signed,IntKind.bits,i64] using h
theorem Qj (n:Int):pIw (.int .i64 n)=some n:=rfl
theorem S6 (b:Bool):Gp (.bool b)=some b:=rfl
theorem XO (s:List UInt8):NB (.str s)=some s:=rfl
theorem QN (k:Nat) (l:List (List D)):pSl k (.sl k l)=some l:=by simp [pSl]
theorem Qas {α:Type} (f:α->List D) (l:List α) (i:Nat):Qi (l.map f) (i:Int)=(l[i]?).map f:=by
 simp [Qi]
theorem X0 {α:Type} {f:α->List D} {l:List α} {a:α} (h:l[i]? = some a):Qi (l.map f) (i:Int)=some (f a):=by rw [Qas,h];rfl
theorem EC {b:Int} (h:b≠0):nz b=some ():=by
 have:(b == 0)=false:=by simpa using h
 unfold nz;rw [this];rfl
theorem Yh {len:Nat} {n:Int} (h0:0<=n) (h:n<len):inB len n=some ():=by
 unfold inB;simp [h0,h]
theorem Ys {α:Type} {l:List α} {a:α} {r:List α} (h:l.drop i=a::r):l[i]? = some a/\l.drop (i+1)=r/\i<l.length:=by
 have h1:(l.drop i)[0]? = some a:=by rw [h];rfl
 rw [QoO] at h1;refine ⟨by simpa using h1,by rw [<- List.drop_drop,h];rfl,?_⟩;have:=(QoG.1 h1).1;omega
theorem Ul {α:Type} {l:List α} (h:l.drop i=[]):l.length<=i:=List.drop_eq_nil_iff.1 h
theorem Xh {c:Bool} (h:c=true) (x y:R):(bif c then x else y)=x:=by rw [h];rfl
theorem Qr {c:Bool} (h:c=false) (x y:R):(bif c then x else y)=y:=by rw [h];rfl
def encI (l:List Int):List (List D):=l.map fun n=>[D.int .i64 n]
theorem X4 (l:List Int):(encI l).length=l.length:=by simp [encI]
theorem JD {l:List Int} {a:Int} (h:l[i]? = some a):Qi (encI l) (i:Int)=some [.int .i64 a]:=X0 h
theorem fit_ints {rows:List (List D)} (h:Fit (.sl [.int .i64]) (.sl 1 rows)):∃ l:List Int,rows=encI l/\(∀ n∈l,i64 n)/\l.length<=maxLen:=by
 cases h with
 |sl _ _ hm hl hr=>
  have h1:∀ i,i<rows.length->∃ n:Int,rows[i]? = some [.int .i64 n]/\i64 n:=by
   intro i hi;have ac:=QoH hi;have aj:=hl i _ ac;obtain ⟨x,hx⟩:∃ x,rows[i]=[x]:=by
    match hq:rows[i],aj with
    |[x],_=>exact ⟨x,rfl⟩
   have hf:=hr i 0 _ (.int .i64) x ac rfl (by rw [hx];rfl);cases hf with
   |int _ n hw=>exact ⟨n,by rw [ac,hx],Qj4 hw⟩
  obtain ⟨l,e1,e2⟩:=Q6j rows.length h1;refine ⟨l,?_,fun n hn=>?_,Q0⟩
  ·refine List.ext_getElem? fun i=>?_
   rcases Nat.lt_or_ge i l.length with hi | hi
   ·have:=(e2 i _ (QoH hi)).1;rw [this];simp [encI,hi]
   ·rw [QoZ Q0,QoZ (by simpa [encI] using hi)]
  ·obtain ⟨i,hi⟩:=List.getElem?_of_mem hn;exact (e2 i _ hi).2
theorem fit_sl {row:List Sh} {x:D} (h:Fit (.sl row) x):∃ rows,x = .sl row.length rows:=by
 cases h with
 |sl _ rows _ _ _=>exact ⟨rows,rfl⟩
theorem fit_int {k:IntKind} {x:D} (h:Fit (.int k) x):∃ n,x = .int k n/\(Lit.int k n).wf=true:=by
 cases h with
 |int _ n h=>exact ⟨n,rfl,h⟩
def lawK:AV->oP Bool
 |.d (.bool b)=>some b
 |_=>none
theorem lawK_ok (x:AV) (h:lawK x=some true):x = .d (.bool true):=by
 unfold lawK at h;split at h
 ·injection h with h;subst h;rfl
 ·cases h
end
end Go.Vx
namespace Go.Vx
abbrev bs (l:List UInt8):List UInt8:=l
abbrev LL:=List (List D)
abbrev dT (s:List UInt8):AV:=.d (.str s)
def cA:List Nat->Code->Code
 |[],c=>c
 |0::r,c=>cA r (cL c)
 |1::r,c=>cA r (cR c)
 |2::r,c=>cA r (cB c)
 |3::r,c=>cA r (cT c)
 |_::r,c=>cA r (cE c)
def zp:List Nat->List Nat->List (Nat×Nat)
 |a::r,b::s=>(a,b)::zp r s
 |_,_=>[]
section
variable {A B C D E F R:Type}
end
def smX {A B C:Type} (r:A ⊕ B) (f:A->C) (g:B->C):C:=match r with
 |.inl a=>f a
 |.inr b=>g b
abbrev jn {α β:Type} (c:α) (f:α->β):β:=f c
abbrev Tu2 {A0 A1:Type} (a0:A0) (a1:A1):=some (a0,a1)
abbrev Tu3 {A0 A1 A2:Type} (a0:A0) (a1:A1) (a2:A2):=some (a0,a1,a2)
abbrev Tu4 {A0 A1 A2 A3:Type} (a0:A0) (a1:A1) (a2:A2) (a3:A3):=some (a0,a1,a2,a3)
abbrev Tu5 {A0 A1 A2 A3 A4:Type} (a0:A0) (a1:A1) (a2:A2) (a3:A3) (a4:A4):=some (a0,a1,a2,a3,a4)
abbrev Tu6 {A0 A1 A2 A3 A4 A5:Type} (a0:A0) (a1:A1) (a2:A2) (a3:A3) (a4:A4) (a5:A5):=some (a0,a1,a2,a3,a4,a5)
abbrev Tu7 {A0 A1 A2 A3 A4 A5 A6:Type} (a0:A0) (a1:A1) (a2:A2) (a3:A3) (a4:A4) (a5:A5) (a6:A6):=some (a0,a1,a2,a3,a4,a5,a6)
abbrev Tu8 {A0 A1 A2 A3 A4 A5 A6 A7:Type} (a0:A0) (a1:A1) (a2:A2) (a3:A3) (a4:A4) (a5:A5) (a6:A6) (a7:A7):=some (a0,a1,a2,a3,a4,a5,a6,a7)
abbrev Tu11 {A0 A1 A2 A3 A4 A5 A6 A7 A8 A9 A10:Type} (a0:A0) (a1:A1) (a2:A2) (a3:A3) (a4:A4) (a5:A5) (a6:A6) (a7:A7) (a8:A8) (a9:A9) (a10:A10):=some (a0,a1,a2,a3,a4,a5,a6,a7,a8,a9,a10)
abbrev Tu12 {A0 A1 A2 A3 A4 A5 A6 A7 A8 A9 A10 A11:Type} (a0:A0) (a1:A1) (a2:A2) (a3:A3) (a4:A4) (a5:A5) (a6:A6) (a7:A7) (a8:A8) (a9:A9) (a10:A10) (a11:A11):=some (a0,a1,a2,a3,a4,a5,a6,a7,a8,a9,a10,a11)
abbrev Tu13 {A0 A1 A2 A3 A4 A5 A6 A7 A8 A9 A10 A11 A12:Type} (a0:A0) (a1:A1) (a2:A2) (a3:A3) (a4:A4) (a5:A5) (a6:A6) (a7:A7) (a8:A8) (a9:A9) (a10:A10) (a11:A11) (a12:A12):=some (a0,a1,a2,a3,a4,a5,a6,a7,a8,a9,a10,a11,a12)
abbrev Qjx:List UInt8:=bs [0,1,2,2,3,3,3,3,4,4,4,4,4,4,4,4,5,5,5,5,5,5,5,5,5,5,5,5,5,5,5,5,6,6,6,6,6,6,6,6,6,6,6,6,6,6,6,6,6,6,6,6,6,6,6,6,6,6,6,6,6,6,6,6,7,7,7,7,7,7,7,7,7,7,7,7,7,7,7,7,7,7,7,7,7,7,7,7,7,7,7,7,7,7,7,7,7,7,7,7,7,7,7,7,7,7,7,7,7,7,7,7,7,7,7,7,7,7,7,7,7,7,7,7,7,7,7,7,8,8,8,8,8,8,8,8,8,8,8,8,8,8,8,8,8,8,8,8,8,8,8,8,8,8,8,8,8,8,8,8,8,8,8,8,8,8,8,8,8,8,8,8,8,8,8,8,8,8,8,8,8,8,8,8,8,8,8,8,8,8,8,8,8,8,8,8,8,8,8,8,8,8,8,8,8,8,8,8,8,8,8,8,8,8,8,8,8,8,8,8,8,8,8,8,8,8,8,8,8,8,8,8,8,8,8,8,8,8,8,8,8,8,8,8,8,8,8,8,8,8,8,8,8,8,8,8]
abbrev Qkj:=List D
abbrev Qkk:=List UInt8
structure Qe (R:Type)
structure Qf
instance {R:Type}:Inhabited (Qe R):=⟨⟨⟩⟩
instance:Inhabited Qf:=⟨⟨⟩⟩
section
variable {R A B C E:Type}{d e f g h d1 e1 f1:D}{i j s t i1 j1:Int}{l x y z l1 x1:LL}{r q r1 q1:Qkj}{a b c a1 b1 c1:Nat}{p v p1 v1:Bool}{w w1:Qkk}
def Q8:Bool->Bool->Qf:=default
instance:CoeDep Qf (Q8 p v) Bool:=⟨bif p then true else v⟩
def Q9:Bool->Bool->Qf:=default
instance:CoeDep Qf (Q9 p v) Bool:=⟨bif p then v else false⟩
def Qa (R:Type):Bool->(Bool->oP R)->Qe R:=default
instance (k:Bool->oP R):CoeDep (Qe R) (Qa R p k) (oP R):=⟨k p⟩
def Qb (R:Type):A->(A->oP R)->Qe R:=default
instance (a:A)(k:A->oP R):CoeDep (Qe R) (Qb R a k) (oP R):=⟨k a⟩
def Qc (R:Type):oP A->(A->oP R)->Qe R:=default
def Qd (R:Type):Bool->oP A->(A->oP R)->Qe R:=default
instance (a:oP (Unit))(k:Unit->oP R):CoeDep (Qe R) (Qc R a k) (oP R):=⟨gb true a () k⟩
instance (a:oP (Unit))(k:Unit->oP R):CoeDep (Qe R) (Qd R p a k) (oP R):=⟨gb p a () k⟩
instance (a:oP (Int))(k:Int->oP R):CoeDep (Qe R) (Qc R a k) (oP R):=⟨gb true a 0 k⟩
instance (a:oP (Int))(k:Int->oP R):CoeDep (Qe R) (Qd R p a k) (oP R):=⟨gb p a 0 k⟩
instance (a:oP (Int×Int))(k:Int×Int->oP R):CoeDep (Qe R) (Qc R a k) (oP R):=⟨gb true a (0,0) k⟩
instance (a:oP (Int×Int))(k:Int×Int->oP R):CoeDep (Qe R) (Qd R p a k) (oP R):=⟨gb p a (0,0) k⟩
instance (a:oP (Nat×Nat))(k:Nat×Nat->oP R):CoeDep (Qe R) (Qc R a k) (oP R):=⟨gb true a (0,0) k⟩
instance (a:oP (Nat×Nat))(k:Nat×Nat->oP R):CoeDep (Qe R) (Qd R p a k) (oP R):=⟨gb p a (0,0) k⟩
instance (a:oP (List A))(k:List A->oP R):CoeDep (Qe R) (Qc R a k) (oP R):=⟨gb true a [] k⟩
instance (a:oP (List A))(k:List A->oP R):CoeDep (Qe R) (Qd R p a k) (oP R):=⟨gb p a [] k⟩
instance (a:oP ((List A)×(List B)))(k:(List A)×(List B)->oP R):CoeDep (Qe R) (Qc R a k) (oP R):=⟨gb true a ([],[]) k⟩
instance (a:oP ((List A)×(List B)))(k:(List A)×(List B)->oP R):CoeDep (Qe R) (Qd R p a k) (oP R):=⟨gb p a ([],[]) k⟩
instance (a:oP (Bool))(k:Bool->oP R):CoeDep (Qe R) (Qc R a k) (oP R):=⟨gb true a false k⟩
instance (a:oP (Bool))(k:Bool->oP R):CoeDep (Qe R) (Qd R p a k) (oP R):=⟨gb p a false k⟩
instance (a:oP (D))(k:D->oP R):CoeDep (Qe R) (Qc R a k) (oP R):=⟨gb true a oF k⟩
instance (a:oP (D))(k:D->oP R):CoeDep (Qe R) (Qd R p a k) (oP R):=⟨gb p a oF k⟩
instance (a:oP ((List A)×Int))(k:(List A)×Int->oP R):CoeDep (Qe R) (Qc R a k) (oP R):=⟨gb true a ([],0) k⟩
instance (a:oP ((List A)×Int))(k:(List A)×Int->oP R):CoeDep (Qe R) (Qd R p a k) (oP R):=⟨gb p a ([],0) k⟩
instance (a:oP ((List A)×Int×Int))(k:(List A)×Int×Int->oP R):CoeDep (Qe R) (Qc R a k) (oP R):=⟨gb true a ([],0,0) k⟩
instance (a:oP ((List A)×Int×Int))(k:(List A)×Int×Int->oP R):CoeDep (Qe R) (Qd R p a k) (oP R):=⟨gb p a ([],0,0) k⟩
instance (a:oP (D×D×D×D×Bool))(k:D×D×D×D×Bool->oP R):CoeDep (Qe R) (Qc R a k) (oP R):=⟨gb true a (.bool false,.bool false,.bool false,.bool false,false) k⟩
instance (a:oP (D×D×D×D×Bool))(k:D×D×D×D×Bool->oP R):CoeDep (Qe R) (Qd R p a k) (oP R):=⟨gb p a (.bool false,.bool false,.bool false,.bool false,false) k⟩
instance (a:oP (D×D))(k:D×D->oP R):CoeDep (Qe R) (Qc R a k) (oP R):=⟨gb true a (.bool false,.bool false) k⟩
instance (a:oP (D×D))(k:D×D->oP R):CoeDep (Qe R) (Qd R p a k) (oP R):=⟨gb p a (.bool false,.bool false) k⟩
instance (a:oP (D×D×D×D×D×D×Bool))(k:D×D×D×D×D×D×Bool->oP R):CoeDep (Qe R) (Qc R a k) (oP R):=⟨gb true a (.bool false,.bool false,.bool false,.bool false,.bool false,.bool false,false) k⟩
instance (a:oP (D×D×D×D×D×D×Bool))(k:D×D×D×D×D×D×Bool->oP R):CoeDep (Qe R) (Qd R p a k) (oP R):=⟨gb p a (.bool false,.bool false,.bool false,.bool false,.bool false,.bool false,false) k⟩
def Qg (R:Type){A B:Type}:(A->B->oP R)->A->B->Qe R:=default
instance {A B:Type}(k:A->B->oP R)(a0:A)(a1:B):CoeDep (Qe R) (Qg R k a0 a1) (oP R):=⟨k a0 a1⟩
def Qjy (R:Type){A B C:Type}:(A->B->C->oP R)->A->B->C->Qe R:=default
instance {A B C:Type}(k:A->B->C->oP R)(a0:A)(a1:B)(a2:C):CoeDep (Qe R) (Qjy R k a0 a1 a2) (oP R):=⟨k a0 a1 a2⟩
def Qjz (R:Type){A B C D:Type}:(A->B->C->D->oP R)->A->B->C->D->Qe R:=default
instance {A B C D:Type}(k:A->B->C->D->oP R)(a0:A)(a1:B)(a2:C)(a3:D):CoeDep (Qe R) (Qjz R k a0 a1 a2 a3) (oP R):=⟨k a0 a1 a2 a3⟩
def QjA (R:Type){A B C D E:Type}:(A->B->C->D->E->oP R)->A->B->C->D->E->Qe R:=default
instance {A B C D E:Type}(k:A->B->C->D->E->oP R)(a0:A)(a1:B)(a2:C)(a3:D)(a4:E):CoeDep (Qe R) (QjA R k a0 a1 a2 a3 a4) (oP R):=⟨k a0 a1 a2 a3 a4⟩
def QjB (R:Type){A B C D E F:Type}:(A->B->C->D->E->F->oP R)->A->B->C->D->E->F->Qe R:=fun _ _ _ _ _ _ _=>default
instance {A B C D E F:Type}(k:A->B->C->D->E->F->oP R)(a0:A)(a1:B)(a2:C)(a3:D)(a4:E)(a5:F):CoeDep (Qe R) (QjB R k a0 a1 a2 a3 a4 a5) (oP R):=⟨k a0 a1 a2 a3 a4 a5⟩
def QjC (R:Type){A B C D E F G:Type}:(A->B->C->D->E->F->G->oP R)->A->B->C->D->E->F->G->Qe R:=fun _ _ _ _ _ _ _ _=>default
instance {A B C D E F G:Type}(k:A->B->C->D->E->F->G->oP R)(a0:A)(a1:B)(a2:C)(a3:D)(a4:E)(a5:F)(a6:G):CoeDep (Qe R) (QjC R k a0 a1 a2 a3 a4 a5 a6) (oP R):=⟨k a0 a1 a2 a3 a4 a5 a6⟩
def QjE (R:Type):D->D->(Int->Int->oP R)->Qe R:=default
instance (k:Int->Int->oP R):CoeDep (Qe R) (QjE R d e k) (oP R):=⟨gb true (pIw d) 0 fun A=>gb true (pIw e) 0 fun B=>CoeDep.coe (Qg R k A B)⟩
def QjF (R:Type):LL->Int->(Int->oP R)->Qe R:=default
instance (k:Int->oP R):CoeDep (Qe R) (QjF R l i k) (oP R):=⟨gb true (Qi l i) [] fun A=>gb true A[0]? oF fun B=>gb true (pIw B) 0 k⟩
def QjG (R:Type):LL->Int->(Qkj->D->D->D->oP R)->Qe R:=default
instance (k:Qkj->D->D->D->oP R):CoeDep (Qe R) (QjG R l i k) (oP R):=⟨gb true (Qi l i) [] fun A=>gb true A[0]? oF fun B=>gb true A[1]? oF fun C=>gb true A[2]? oF fun E=>CoeDep.coe (Qjz R k A B C E)⟩
def QjH (R:Type):Nat->Int->LL->Nat->(Qkj->oP R)->Qe R:=default
instance (k:Qkj->oP R):CoeDep (Qe R) (QjH R a i l b k) (oP R):=⟨gb true (inB a i) () fun _=>gb true l[b]? [] k⟩
def QjI (R:Type):LL->Int->(Qkj->D->oP R)->Qe R:=default
instance (k:Qkj->D->oP R):CoeDep (Qe R) (QjI R l i k) (oP R):=⟨gb true (Qi l i) [] fun A=>gb true A[0]? oF fun B=>CoeDep.coe (Qg R k A B)⟩
def QjJ (R:Type):D->LL->D->D->(LL->Int->Qkk->Int->Int->Int->Int->oP R)->Qe R:=default
instance (k:LL->Int->Qkk->Int->Int->Int->Int->oP R):CoeDep (Qe R) (QjJ R d l e f k) (oP R):=⟨gb true (pIw d) 0 fun A=>QjG R l A fun B C E F=>gb true B[3]? oF fun G=>gb true B[4]? oF fun H=>gb true (pSl 2 e) [] fun I=>gb true (pIw f) 0 fun J=>gb true (NB C) [] fun K=>QjE R E F fun L M=>QjE R G H fun N O=>CoeDep.coe (QjC R k I J K L M N O)⟩
def QjK (R:Type):LL->Int->(D->oP R)->Qe R:=default
instance (k:D->oP R):CoeDep (Qe R) (QjK R l i k) (oP R):=⟨gb true (Qi l i) [] fun A=>gb true A[0]? oF k⟩
def QjL (R:Type):Nat->Int->LL->Nat->(Int->oP R)->Qe R:=default
instance (k:Int->oP R):CoeDep (Qe R) (QjL R a i l b k) (oP R):=⟨QjH R a i l b fun A=>gb true A[0]? oF fun B=>gb true (pIw B) 0 k⟩
def QjM (R:Type):D->Bool->D->(Int->Int->oP R)->Qe R:=default
instance (k:Int->Int->oP R):CoeDep (Qe R) (QjM R d p e k) (oP R):=⟨gb p (pIw d) 0 fun A=>gb p (pIw e) 0 fun B=>CoeDep.coe (Qg R k A B)⟩
def QjN (R:Type):LL->Int->(Int->oP R)->Qe R:=default
instance (k:Int->oP R):CoeDep (Qe R) (QjN R l i k) (oP R):=⟨gb true (Qi l i) [] fun A=>gb true A[1]? oF fun B=>gb true (pIw B) 0 k⟩
def QjO (R:Type):LL->Int->(LL->oP R)->Qe R:=default
instance (k:LL->oP R):CoeDep (Qe R) (QjO R l i k) (oP R):=⟨gb true (Qi l i) [] fun A=>gb true A[3]? oF fun B=>gb true (pSl 4 B) [] k⟩
def QjP (R:Type):LL->Int->(Qkj->D->oP R)->Qe R:=default
instance (k:Qkj->D->oP R):CoeDep (Qe R) (QjP R l i k) (oP R):=⟨gb true (Qi l i) [] fun A=>gb true A[0]? oF fun _=>gb true A[1]? oF fun C=>CoeDep.coe (Qg R k A C)⟩
def QjQ (R:Type):Qkj->(D->D->oP R)->Qe R:=default
instance (k:D->D->oP R):CoeDep (Qe R) (QjQ R r k) (oP R):=⟨gb true r[3]? oF fun A=>gb true r[4]? oF fun B=>CoeDep.coe (Qg R k A B)⟩
def QjR (R:Type):LL->Int->(D->D->oP R)->Qe R:=default
instance (k:D->D->oP R):CoeDep (Qe R) (QjR R l i k) (oP R):=⟨QjI R l i fun A B=>gb true A[1]? oF fun C=>CoeDep.coe (Qg R k B C)⟩
def QjS (R:Type):LL->Int->(D->D->D->oP R)->Qe R:=default
instance (k:D->D->D->oP R):CoeDep (Qe R) (QjS R l i k) (oP R):=⟨QjI R l i fun A B=>gb true A[1]? oF fun C=>gb true A[2]? oF fun E=>CoeDep.coe (Qjy R k B C E)⟩
def QjT (R:Type):D->D->oP R->Qe R:=default
instance (k:oP R):CoeDep (Qe R) (QjT R d e k) (oP R):=⟨gb true (pIw d) 0 fun _=>gb true (pIw e) 0 fun _=>k⟩
def QjU (R:Type):D->D->(LL->Int->oP R)->Qe R:=default
instance (k:LL->Int->oP R):CoeDep (Qe R) (QjU R d e k) (oP R):=⟨gb true (pSl 2 d) [] fun A=>gb true (pIw e) 0 fun B=>CoeDep.coe (Qg R k A B)⟩
def QjV (R:Type):Nat->Int->LL->Nat->(LL->oP R)->Qe R:=default
instance (k:LL->oP R):CoeDep (Qe R) (QjV R a i l b k) (oP R):=⟨QjH R a i l b fun A=>gb true A[0]? oF fun B=>gb true (pSl 1 B) [] k⟩
def QjW (R:Type):Nat->Int->LL->Nat->(Bool->oP R)->Qe R:=default
instance (k:Bool->oP R):CoeDep (Qe R) (QjW R a i l b k) (oP R):=⟨QjH R a i l b fun A=>gb true A[0]? oF fun B=>gb true (Gp B) false k⟩
def QjX (R:Type):LL->Int->(D->D->D->D->oP R)->Qe R:=default
instance (k:D->D->D->D->oP R):CoeDep (Qe R) (QjX R l i k) (oP R):=⟨QjG R l i fun A B C E=>gb true A[3]? oF fun F=>CoeDep.coe (Qjz R k B C E F)⟩
def QjY (R:Type):LL->Int->(D->oP R)->Qe R:=default
instance (k:D->oP R):CoeDep (Qe R) (QjY R l i k) (oP R):=⟨gb true (Qi l i) [] fun A=>gb true A[0]? oF fun _=>gb true A[1]? oF fun _=>gb true A[2]? oF fun _=>gb true A[3]? oF k⟩
def QjZ (R:Type):LL->Int->(LL->oP R)->Qe R:=default
instance (k:LL->oP R):CoeDep (Qe R) (QjZ R l i k) (oP R):=⟨QjK R l i fun A=>gb true (pSl 3 A) [] k⟩
def Qk0 (R:Type):Nat->Int->LL->Nat->(Int->oP R)->Qe R:=default
instance (k:Int->oP R):CoeDep (Qe R) (Qk0 R a i l b k) (oP R):=⟨QjH R a i l b fun A=>gb true A[1]? oF fun B=>gb true (pIw B) 0 k⟩
def Qk1 (R:Type):Nat->Nat->oP R->Qe R:=default
instance (k:oP R):CoeDep (Qe R) (Qk1 R a b k) (oP R):=⟨gb true (Yn a) () fun _=>gb true (Yn b) () fun _=>k⟩
def Qk2 (R:Type):Qkj->(D->D->D->oP R)->Qe R:=default
instance (k:D->D->D->oP R):CoeDep (Qe R) (Qk2 R r k) (oP R):=⟨QjQ R r fun A B=>gb true r[5]? oF fun C=>CoeDep.coe (Qjy R k A B C)⟩
def Qk3 (R:Type):Qkj->(Int->oP R)->Qe R:=default
instance (k:Int->oP R):CoeDep (Qe R) (Qk3 R r k) (oP R):=⟨gb true r[2]? oF fun A=>gb true (pIw A) 0 k⟩
def Qk4 (R:Type):D->D->D->D->(Int->Int->Int->Int->oP R)->Qe R:=default
instance (k:Int->Int->Int->Int->oP R):CoeDep (Qe R) (Qk4 R d e f g k) (oP R):=⟨QjE R d e fun A B=>QjE R f g fun C E=>CoeDep.coe (Qjz R k A B C E)⟩
def Qk5 (R:Type):LL->Int->Bool->(Int->oP R)->Qe R:=default
instance (k:Int->oP R):CoeDep (Qe R) (Qk5 R l i p k) (oP R):=⟨gb p (Qi l i) [] fun A=>gb p A[1]? oF fun B=>gb p (pIw B) 0 k⟩
def Qk6 (R:Type):D->D->D->(Int->Int->Int->oP R)->Qe R:=default
instance (k:Int->Int->Int->oP R):CoeDep (Qe R) (Qk6 R d e f k) (oP R):=⟨QjE R d e fun A B=>gb true (pIw f) 0 fun C=>CoeDep.coe (Qjy R k A B C)⟩
def Qk7 (R:Type):Qkj->(Int->oP R)->Qe R:=default
instance (k:Int->oP R):CoeDep (Qe R) (Qk7 R r k) (oP R):=⟨gb true r[4]? oF fun A=>gb true (pIw A) 0 k⟩
def Qk8 (R:Type):Qkj->(D->D->oP R)->Qe R:=default
instance (k:D->D->oP R):CoeDep (Qe R) (Qk8 R r k) (oP R):=⟨gb true r[2]? oF fun A=>gb true r[3]? oF fun B=>CoeDep.coe (Qg R k A B)⟩
def Qk9 (R:Type):Qkj->(D->oP R)->Qe R:=default
instance (k:D->oP R):CoeDep (Qe R) (Qk9 R r k) (oP R):=⟨gb true r[2]? oF fun _=>gb true r[3]? oF k⟩
def Qka (R:Type):LL->Int->(D->oP R)->Qe R:=default
instance (k:D->oP R):CoeDep (Qe R) (Qka R l i k) (oP R):=⟨gb true (Qi l i) [] fun A=>gb true A[1]? oF k⟩
def Qkb (R:Type):Qkj->oP R->Qe R:=default
instance (k:oP R):CoeDep (Qe R) (Qkb R r k) (oP R):=⟨gb true r[2]? oF fun _=>gb true r[3]? oF fun _=>k⟩
def Qkc (R:Type):Qkj->(D->D->oP R)->Qe R:=default
instance (k:D->D->oP R):CoeDep (Qe R) (Qkc R r k) (oP R):=⟨gb true r[0]? oF fun A=>gb true r[1]? oF fun B=>CoeDep.coe (Qg R k A B)⟩
def Qkd (R:Type):Qkj->Bool->(D->D->oP R)->Qe R:=default
instance (k:D->D->oP R):CoeDep (Qe R) (Qkd R r p k) (oP R):=⟨gb p r[0]? oF fun A=>gb p r[1]? oF fun B=>CoeDep.coe (Qg R k A B)⟩
def Qke (R:Type):Int->oP R->Qe R:=default
instance (k:oP R):CoeDep (Qe R) (Qke R i k) (oP R):=⟨gb true (nz i) () fun _=>gb true (nz i) () fun _=>k⟩
def Qkf (R:Type):LL->Int->(Qkk->oP R)->Qe R:=default
instance (k:Qkk->oP R):CoeDep (Qe R) (Qkf R l i k) (oP R):=⟨QjK R l i fun A=>gb true (NB A) [] k⟩
def Qkg (R:Type):D->LL->(D->D->oP R)->Qe R:=default
instance (k:D->D->oP R):CoeDep (Qe R) (Qkg R d l k) (oP R):=⟨gb true (pIw d) 0 fun A=>QjR R l A k⟩
def Qkh (R:Type):LL->Int->Bool->(Int->oP R)->Qe R:=default
instance (k:Int->oP R):CoeDep (Qe R) (Qkh R l i p k) (oP R):=⟨gb p (Qi l i) [] fun A=>gb p A[0]? oF fun B=>gb p (pIw B) 0 k⟩
def Qki (R:Type):LL->Int->(LL->oP R)->Qe R:=default
instance (k:LL->oP R):CoeDep (Qe R) (Qki R l i k) (oP R):=⟨QjK R l i fun A=>gb true (pSl 2 A) [] k⟩
end
abbrev Qkl (R:Type):=Int->oP R
abbrev Qkm (R:Type):=Nat->Int->LL->oP R
abbrev Qkn (R:Type):=Int->Bool->LL->oP R
abbrev Qko (R:Type):=Int->Bool->oP R
abbrev Qkp (R:Type):=Nat->Int->oP R
abbrev Qkq (R:Type):=Bool->oP R
abbrev Qkr (R:Type):=LL->oP R
abbrev Qks (R:Type):=LL->Int->oP R
abbrev Qkt (R:Type):=Int->Int->Bool->oP R
abbrev Qku (R:Type):=Nat->Int->Int->oP R
abbrev Qkv (R:Type):=Int->Bool->LL->LL->oP R
abbrev Qkw (R:Type):=Nat->Int->LL->LL->oP R
abbrev Qkx (R:Type):=Int->Int->oP R
abbrev Qky (R:Type):=LL->Int->Int->oP R
abbrev Qkz (R:Type):=Nat->Int->Int->LL->oP R
abbrev QkA (R:Type):=LL->LL->oP R
abbrev QkB (R:Type):=Int->LL->oP R
abbrev QkC (R:Type):=Nat->Int->Int->LL->LL->oP R
abbrev QkD (R:Type):=Int->Int->Bool->LL->oP R
abbrev QkE (R:Type):=Int->Int->Bool->LL->LL->oP R
abbrev QkF (R:Type):=Int->Bool->LL->LL->Int->oP R
abbrev QkG (R:Type):=Nat->Int->LL->LL->Int->oP R
abbrev QkH (R:Type):=Int->Bool->LL->LL->LL->Int->oP R
abbrev QkI (R:Type):=Nat->Int->LL->LL->LL->Int->oP R
abbrev QkJ (R:Type):=Int->Bool->Int->LL->oP R
abbrev QkK (R:Type):=Int->Bool->(Int->Bool)->oP R
abbrev QkL (R:Type):=Nat->Int->(Int->Bool)->oP R
section
variable {P:Program} {R:Type}
mutual
def dm (ρ:List (Nat×Nat)):AV->Bool
 |.ptr j _=>(look ρ j).isSome
 |.arr j=>(look ρ j).isSome
 |.ap j _ _=>(look ρ j).isSome
 |.sa j _=>(look ρ j).isSome
 |.ag l=>dmL ρ l
 |.tup l=>dmL ρ l
 |.fn _ l=>dmL ρ l
 |.gd ..=>false
 |_=>true
def dmL (ρ:List (Nat×Nat)):List AV->Bool
 |[]=>true
 |a::r=>dm ρ a&&dmL ρ r
end
theorem Q7P {ρ:List (Nat×Nat)}:∀ {l:List AV} {i:Nat} {x:AV},dmL ρ l=true->l[i]? = some x->dm ρ x=true
 |a::r,0,x,h,hx=>by
  simp only [dmL,QoE] at h;simp at hx;subst hx;exact h.1
 |a::r,i+1,x,h,hx=>by
  simp only [dmL,QoE] at h;exact Q7P h.2 (by simpa using hx)
section
variable {ρ:List (Nat×Nat)} {β β':Nat->oP Nat} {S:Nat->Prop} {h h':Nat->oP Ob} {w:World} {tm:Nat->Value}
theorem QhW (hβ:∀ j l,look ρ j=some l->β' j=β l) (hh:∀ j l,look ρ j=some l->(h l).isSome=true/\(∀ e s rows,h l=some (.arr e s rows)->h' j=some (.arr e s rows))/\∀ t f,h l=some (.mp t f)->h' j=some (.mp t f)) :
  ∀ {v:Value} {y:AV},RdA β S h w tm v y->∀ x:AV,dm ρ x=true->y=UB ρ x->RdA β' S h' w tm v x:=by
 intro v y hv;induction hv with
 |top v=>
  intro x hd he;cases x <;> simp only [UB,reduceCtorEq] at he
  case top=>exact .top v
  all_goals grind [dm,Option.isSome_iff_exists]
 |d v z hz=>
  intro x hd he;cases x <;> simp only [UB,reduceCtorEq] at he
  case d=>injection he with he;subst he;exact .d v _ hz
  all_goals grind
 |nil=>
  intro x hd he;cases x <;> simp only [UB,reduceCtorEq] at he
  case nil=>exact .nil
  all_goals grind
 |ag cs l hl _ ih=>
  intro x hd he;cases x <;> simp only [UB,reduceCtorEq] at he
  case ag r=>
   injection he with he
   subst he;rw [Zp] at hl;refine .ag cs r hl fun i z hz=>?_
   exact ih i (UB ρ z) (by rw [Je,hz];rfl) z (Q7P (by simpa [dm] using hd) hz) rfl
  all_goals grind
 |tup cs l hl _ ih=>
  intro x hd he;cases x <;> simp only [UB,reduceCtorEq] at he
  case tup r=>
   injection he with he
   subst he;rw [Zp] at hl;refine .tup cs r hl fun i z hz=>?_
   exact ih i (UB ρ z) (by rw [Je,hz];rfl) z (Q7P (by simpa [dm] using hd) hz) rfl
  case ptr j o=>split at he <;> cases he
  case arr j=>split at he <;> cases he
  case sa j t=>split at he <;> cases he
  case ap j i o=>split at he <;> cases he
 |fn f cs l hl _ ih=>
  intro x hd he;cases x <;> simp only [UB,reduceCtorEq] at he
  case fn g r=>
   injection he with he1 he2
   subst he1;subst he2;rw [Zp] at hl;refine .fn f cs r hl fun i z hz=>?_
   exact ih i (UB ρ z) (by rw [Je,hz];rfl) z (Q7P (by simpa [dm] using hd) hz) rfl
  case ptr j o=>split at he <;> cases he
  case arr j=>split at he <;> cases he
  case sa j t=>split at he <;> cases he
  case ap j i o=>split at he <;> cases he
 |fs ad s rows hx=>
  intro x hd he;cases x <;> simp only [UB,reduceCtorEq] at he
  case fs=>injection he with e1 e2;subst e1 e2;exact .fs ad _ _ hx
  case ptr j o=>split at he <;> cases he
  case arr j=>split at he <;> cases he
  case sa j t=>split at he <;> cases he
  case ap j i o=>split at he <;> cases he
 |ex v=>
  intro x hd he;cases x <;> simp only [UB,reduceCtorEq] at he
  case ex=>injection he with e1;subst e1;exact .ex _
  case ptr j o=>split at he <;> cases he
  case arr j=>split at he <;> cases he
  case sa j t=>split at he <;> cases he
  case ap j i o=>split at he <;> cases he
 |mpd v f hm=>
  intro x hd he;cases x <;> simp only [UB,reduceCtorEq] at he
  case mpd=>injection he with e1;subst e1;exact .mpd v _ hm
  case ptr j o=>split at he <;> cases he
  case arr j=>split at he <;> cases he
  case sa j t=>split at he <;> cases he
  case ap j i o=>split at he <;> cases he
 |ptr l off b hb=>
  intro x hd he;cases x <;> simp only [UB,reduceCtorEq] at he
  case ptr j o=>
   split at he
   ·rename_i l' aj;injection he with e1 e2
    subst e1 e2;exact .ptr j _ b ((hβ j _ aj).trans hb)
   ·cases he
  case arr j=>split at he <;> cases he
  case sa j t=>split at he <;> cases he
  case ap j i o=>split at he <;> cases he
 |sa v l t b hb hv=>
  intro x hd he;cases x <;> simp only [UB,reduceCtorEq] at he
  case sa j t=>
   split at he
   ·rename_i l' aj;injection he with e1 e2
    subst e1 e2;exact .sa v j _ b ((hβ j _ aj).trans hb) hv
   ·cases he
  case ptr j o=>split at he <;> cases he
  case arr j=>split at he <;> cases he
  case ap j i o=>split at he <;> cases he
 |el ad row off c hs hc hr=>
  intro x hd he;cases x <;> simp only [UB,reduceCtorEq] at he
  case el r o=>injection he with e1 e2;subst e1 e2;exact .el ad _ _ c hs hc hr
  case ptr j o=>split at he <;> cases he
  case arr j=>split at he <;> cases he
  case sa j t=>split at he <;> cases he
  case ap j i o=>split at he <;> cases he
 |arr0 l e s hb hk=>
  intro x hd he;cases x <;> simp only [UB,reduceCtorEq] at he
  case arr j=>
   split at he
   ·rename_i l' aj;injection he with e1
    subst e1;exact .arr0 j e s ((hβ j _ aj).trans hb) ((hh j _ aj).2.1 _ _ _ hk)
   ·cases he
  case ptr j o=>split at he <;> cases he
  case sa j t=>split at he <;> cases he
  case ap j i o=>split at he <;> cases he
 |arr l b cap e s rows cs ty fz hb hk hw ax ar au=>
  intro x hd he;cases x <;> simp only [UB,reduceCtorEq] at he
  case arr j=>
   split at he
   ·rename_i l' aj;injection he with e1
    subst e1;exact .arr j b cap e s rows cs ty fz ((hβ j _ aj).trans hb) ((hh j _ aj).2.1 _ _ _ hk) hw ax ar au
   ·cases he
  case ptr j o=>split at he <;> cases he
  case sa j t=>split at he <;> cases he
  case ap j i o=>split at he <;> cases he
 |mp l b t f hb hk=>
  intro x hd he;cases x <;> simp only [UB,reduceCtorEq] at he
  case arr j=>
   split at he
   ·rename_i l' aj;injection he with e1
    subst e1;exact .mp j b t f ((hβ j _ aj).trans hb) ((hh j _ aj).2.2 _ _ hk)
   ·cases he
  case ptr j o=>split at he <;> cases he
  case sa j t=>split at he <;> cases he
  case ap j i o=>split at he <;> cases he
 |ap l i off b e s rows hb hk=>
  intro x hd he;cases x <;> simp only [UB,reduceCtorEq] at he
  case ap j i' o=>
   split at he
   ·rename_i l' aj;injection he with e1 e2 e3
    subst e1 e2 e3;exact .ap j _ _ b e s rows ((hβ j _ aj).trans hb) ((hh j _ aj).2.1 _ _ _ hk)
   ·cases he
  case ptr j o=>split at he <;> cases he
  case arr j=>split at he <;> cases he
  case sa j t=>split at he <;> cases he
 |dang v av l hl hk h1=>
  intro x hd he;exfalso;cases x with
  |ptr j o=>simp only [UB] at he;split at he <;> (subst he;simp [Mp] at hl)
  |sa j o=>simp only [UB] at he;split at he <;> (subst he;simp [Mp] at hl)
  |arr j=>
   simp only [UB] at he;split at he
   ·rename_i l' aj;subst he;simp [Mp] at hl;subst hl;have:=(hh j _ aj).1;rw [hk] at this;cases this
   ·subst he;simp [Mp] at hl
  |ap j i o=>
   simp only [UB] at he;split at he
   ·rename_i l' aj;subst he;simp [Mp] at hl;subst hl;have:=(hh j _ aj).1;rw [hk] at this;cases this
   ·subst he;simp [Mp] at hl
  |_=>simp only [UB] at he;subst he;simp [Mp] at hl
 |gdT v t b av ht hv ih=>
  intro x hd he;cases x <;> simp only [UB,reduceCtorEq] at he
  case ptr j o=>split at he <;> cases he
  case arr j=>split at he <;> cases he
  case sa j t=>split at he <;> cases he
  case ap j i o=>split at he <;> cases he
 |gdF t b av ht=>
  intro x hd he;cases x <;> simp only [UB,reduceCtorEq] at he
  case ptr j o=>split at he <;> cases he
  case arr j=>split at he <;> cases he
  case sa j t=>split at he <;> cases he
  case ap j i o=>split at he <;> cases he
end
def CLe (ρ:List (Nat×Nat)) (c c':AV):Prop:=(lf c'=true/\CJ c c')\/(dm ρ c'=true/\c=UB ρ c')
inductive CLeL (ρ:List (Nat×Nat)):List AV->List AV->Prop
 |nil:CLeL ρ [] []
 |cons {a b:AV} {l r:List AV} (h:CLe ρ a b) (t:CLeL ρ l r):CLeL ρ (a::l) (b::r)
theorem CLeL.length {ρ:List (Nat×Nat)} {l r:List AV} (h:CLeL ρ l r):l.length=r.length:=by induction h <;> simp [*]
theorem CLeL.at {ρ:List (Nat×Nat)} {l r:List AV} (h:CLeL ρ l r):∀ (i:Nat) (x:AV),r[i]? = some x->∃ y,l[i]? = some y/\CLe ρ y x:=by
 induction h with
 |nil=>simp_all
 |cons h0 _ ih=>
  grind
theorem QbW {ρ:List (Nat×Nat)} {ty:TypeId} {cs ac:List AV} (hc:CLeL ρ cs ac) (h:Q7Y ty cs):Q7Y ty ac:=by
 intro i l t hi;obtain ⟨y,hy,aj⟩:=hc.at i _ hi;rcases aj with ⟨h1,_⟩ | ⟨h1,rfl⟩
 ·trivial
 ·obtain ⟨l',ak⟩:=QoT.1 h1;simp only [UB,ak] at hy;exact h i l' t hy
inductive OLe (ρ:List (Nat×Nat)):Ob->Ob->Prop
 |box {cs cs':List AV} (h:CLeL ρ cs cs'):OLe ρ (.box cs) (.box cs')
 |arr (e s:Nat) (rows:List (List D)):OLe ρ (.arr e s rows) (.arr e s rows)
 |mp (t:Nat) (f:Int->Bool):OLe ρ (.mp t f) (.mp t f)
def Q2D (o o':oP Ob):Prop:=
 (∃ c c',o=some (.box c)/\o'=some (.box c')/\c'.length=c.length) \/
 (∃ e s rows,o=some (.arr e s rows)/\(o'=none\/∃ ac,o'=some (.arr e s ac)/\ac.length=rows.length)) \/
 ∃ t f,o=some (.mp t f)/\(o'=none\/∃ f',o'=some (.mp t f'))
structure ShapeEnd (σ ρ:List (Nat×Nat)) (H:List (Nat×Ob)) (av:AV) (H':List (Nat×Ob)) (dl:Dl):Prop where
 v:UB σ av=dl.v
 wr:L8 σ H' σ=dl.wr
 news:∀ j l,(j,l)∈σ->(j,l) ∉ ρ->(look H' j).isSome=true
 old:∀ j l,(j,l)∈ρ->Q2D (look H j) (look H' j)
theorem E4 {α : Type} {K : AV -> List (Nat×Ob) -> oP α} {res : α} {f : Nat} {fn : Func} (hf : P.funcs[f]? = some fn) (hb : fn.body.isSome = true) (hn : (fn.name == "runtime.NumGoroutine") = false)
  {σ ρ:List (Nat×Nat)} {avs avs':List AV} {H:List (Nat×Ob)} {hl:Nat->oP Ob} {dl:Dl}
  (hav:CLeL ρ avs avs')
  (hsub:∀ p,p∈ρ->p∈σ) (h1:Xm (σ.map (·.1))=true) (h2:Xm (σ.map (·.2))=true) (hρ:Xm (ρ.map (·.1))=true)
  (hin:∀ j l,(j,l)∈ρ->1000000<=j/\∃ o o',hl l=some o/\look H j=some o'/\OLe ρ o o')
  (hinH:∀ j,(look H j).isSome=true->∃ l,(j,l)∈ρ)
  (hnew:∀ j l,(j,l)∈σ->(j,l)∈ρ\/hl l=none)
  (hwl:wrL dl=σ.map (·.2))
  (h:∀ (β:Nat->oP Nat) (S:Nat->Prop) (w:World) (vs:List Value),Objs β S (look H) w->ArgsRd β S (look H) w vs avs'->Calls P f vs.toArray w (Nr H K res β S w)) (hK:∀ av H',K av H'=some res->ShapeEnd σ ρ H av H' dl):Wp P f avs hl dl:=by
 refine ⟨⟨fn,hf,hb,hn⟩,fun β S h' w args hO hA hag=>?_⟩;have hag:∀ {j l:Nat},(j,l)∈σ->h' l=hl l:=fun {j l} hm=>hag l (.inr (by rw [hwl];exact QoX.2 ⟨(j,l),hm,rfl⟩))
 have hlook:∀ {j l:Nat},(j,l)∈ρ->look ρ j=some l:=fun hm=>F4 hρ hm
 have hβc:∀ {j l:Nat},(j,l)∈ρ->(look ρ j).bind β=β l:=fun hm=>by rw [hlook hm];rfl
 have hlk2:∀ {j j' l:Nat},(j,l)∈ρ->(j',l)∈ρ->j=j':=fun a b=>by
  have:=HX h2 _ _ (hsub _ a) (hsub _ b) rfl;injection this
 have hsome':∀ {j l:Nat},(j,l)∈ρ->(h' l).isSome=true:=fun hm=>by
  obtain ⟨_,o,o',g1,_⟩:=hin _ _ hm;rw [hag (hsub _ hm),g1];rfl
 have hun:∀ {v:Value} {y x:AV},RdA β S h' w tm0 v y->CLe ρ y x->RdA (fun j=>(look ρ j).bind β) S (look H) w tm0 v x:=by
  intro v y x hv hc;rcases hc with ⟨c1,c2⟩ | ⟨c1,rfl⟩
  ·exact FN c1 (fun _ h=>h) (fun _ _=>rfl) (c2 _ _ _ _ _ _ hv)
  ·refine QhW (ρ:=ρ) (fun j l hj=>by simp only [hj];rfl) (fun j l hj=>⟨hsome' (YH hj),fun e s rows hx=>?_,fun t f hx=>?_⟩) hv x c1 rfl <;>
   ·obtain ⟨_,o,o',g1,g2,g3⟩:=hin j l (YH hj);rw [hag (hsub _ (YH hj)),g1] at hx;injection hx with hx
    subst hx;cases g3;exact g2
 have hO0:Objs (fun j=>(look ρ j).bind β) S (look H) w:=by
  refine ⟨fun j o ho=>?_,fun j j' b s1 s2 b1 b2=>?_,fun j b s1 b1=>?_,hO.sb⟩
  ·obtain ⟨l,hm⟩:=hinH j (by simp [ho]);obtain ⟨_,oo,o',g1,g2,g3⟩:=hin j l hm;rw [ho] at g2;injection g2 with g2
   subst g2;have hob:=hO.ob l _ ((hag (hsub _ hm)).trans g1);cases g3 with
   |box g3=>
    obtain ⟨b,ty,c0,fz,e1,e2,e3,e4,e5⟩:=hob;refine ⟨b,ty,c0,fz,(hβc hm).trans e1,e2,⟨e3.1,QbW g3 e3.2⟩,e4.trans g3.length,fun i x hx=>?_⟩;obtain ⟨y,y1,y2⟩:=g3.at i x hx;exact hun (e5 i y y1) y2
   |arr e s rows=>
    rcases hob with ⟨e1,e2⟩ | ⟨b,cs,e1,e2,e3,e4,e5⟩
    ·exact .inl ⟨(hβc hm).trans e1,e2⟩
    ·exact .inr ⟨b,cs,(hβc hm).trans e1,e2,e3,e4,e5⟩
   |mp t f=>
    obtain ⟨b,e1,e2⟩:=hob;exact ⟨b,(hβc hm).trans e1,e2⟩
  ·obtain ⟨l,hm⟩:=hinH j s1;obtain ⟨l',hm'⟩:=hinH j' s2;have:=hO.inj l l' b (hsome' hm) (hsome' hm') (by rw [<- hβc hm];exact b1) (by rw [<- hβc hm'];exact b2);subst this;exact hlk2 hm hm'
  ·obtain ⟨l,hm⟩:=hinH j s1;exact hO.apart l b (hsome' hm) (by rw [<- hβc hm];exact b1)
 have hA0:ArgsRd (fun j=>(look ρ j).bind β) S (look H) w args avs':=by
  refine ⟨by rw [hA.1,hav.length],fun i v av g1 g2=>?_⟩;obtain ⟨y,y1,y2⟩:=hav.at i av g2;exact hun (hA.2 i v y g1 y1) y2
 refine (h _ _ _ _ hO0 hA0).mono fun e w' ⟨v,av,H',β',S',he,hk,hrd,_,hr⟩=>?_
 obtain ⟨q1,q2,q3,q4⟩:=hK av H' hk;have hinv:∀ {j l:Nat},(j,l)∈σ->inv σ l=some j:=fun hm=>Q49 h2 hm
 let βo:Nat->oP Nat:=fun l=>match inv σ l with | some j=>β' j | none=>β l
 have hβo:∀ j l,(j,l)∈σ->βo l=β' j:=fun j l hm=>by simp only [βo,hinv hm]
 have hset:∀ j l,(j,l)∈σ->Hl h' dl.wr l=(look H' j).map (Qck σ):=fun j l hm=>by rw [<- q2];exact Ly σ H' σ h' h2 j l hm
 have hmem:∀ {l:Nat},l∈wrL dl->∃ j,(j,l)∈σ:=fun hm=>by
  rw [hwl] at hm;obtain ⟨⟨j,l'⟩,m1,m2⟩:=QoX.1 hm;simp only at m2;subst m2;exact ⟨j,m1⟩
 have hpin:∀ {j l:Nat},(j,l)∈ρ->β' j=β l:=fun hm=>(hr.pin _ (hin _ _ hm).1).trans (hβc hm)
 have hren:∀ {v:Value} {x:AV},RdA β' S' (look H') w' tm0 v x->RdA βo S' (Hl h' dl.wr) w' tm0 v (UB σ x):=fun hx=>
  Q6V hβo (fun j l o hm ho=>by rw [hset j l hm,ho];rfl) (fun j l hm ho=>by rw [hset j l hm,ho];rfl) hx
 have hwmem:∀ {j l:Nat},(j,l)∈σ->l∈wrL dl:=fun {j l} hm=>by rw [hwl];exact QoX.2 ⟨(j,l),hm,rfl⟩
 have hMw:∀ b,(∃ j,(look H j).isSome=true/\(look ρ j).bind β=some b)->∃ l,l∈wrL dl/\(h' l).isSome=true/\β l=some b:=by
  intro b ⟨j,s1,s2⟩;obtain ⟨l,hm⟩:=hinH j s1;exact ⟨l,hwmem (hsub _ hm),hsome' hm,by rw [<- hβc hm];exact s2⟩
 have hw0:∀ {b:Nat},(∃ j,(look H j).isSome=true/\(look ρ j).bind β=some b)\/w.heap.size<=b->w.heap.size<=b\/∃ l0,l0∈wrL dl/\(h' l0).isSome=true/\β l0=some b:=by
  intro b hx;rcases hx with hx | hx
  ·exact .inr (hMw b hx)
  ·exact .inl hx
 refine ⟨v,βo,S',he,⟨hr.s0,fun b hS=>?_,hr.sb,hr.fr.mono fun b _ hM=>hMw b hM,fun l hno=>?_,fun l o hm ho=>?_,fun l hm hs=>?_,fun l b hm hs hb'=>?_,fun l l' b hm hm' hs hs' hb' hb''=>?_,fun l hm hno hno'=>?_,?_,fun t=>by rw [<- q1];exact Q29 σ t av⟩⟩
 ·rcases hr.sfr b hS with g | g | g
  ·exact .inl g
  ·exact .inr (.inr (hMw b g))
  ·exact .inr (.inl g)
 ·have:inv σ l=none:=Q7n (by rw [<- hwl];exact hno);simp only [βo,this]
 ·obtain ⟨j,hj⟩:=hmem hm;rw [hset j l hj,QoF] at ho;obtain ⟨o',ho',rfl⟩:=ho;have hob:=hr.ob j o' ho';cases o' with
  |box cells=>
   obtain ⟨b,ty,cs,fz,g1,g2,g3,g4,g5⟩:=hob;refine ⟨b,ty,cs,fz,(hβo j l hj).trans g1,g2,⟨g3.1,Q1I g3.2⟩,by rw [g4,Zp],fun i x hx=>?_⟩;rw [Je,QoF] at hx;obtain ⟨y,hy,rfl⟩:=hx;exact hren (g5 i y hy)
  |arr e s rows=>
   rcases hob with ⟨g1,g2⟩ | ⟨b,cs,g1,g2,g3,g4,g5⟩
   ·exact .inl ⟨(hβo j l hj).trans g1,g2⟩
   ·exact .inr ⟨b,cs,(hβo j l hj).trans g1,g2,g3,g4,g5⟩
  |mp t f=>
   obtain ⟨b,g1,g2⟩:=hob;exact ⟨b,(hβo j l hj).trans g1,g2⟩
 ·obtain ⟨j,hj⟩:=hmem hm;rcases hnew j l hj with hp | hno
  ·obtain ⟨hj6,o,o',e1,e2,e3⟩:=hin j l hp;have hh:h' l=some o:=(hag hj).trans e1;have hcells:∀ b cs ty fz,(Hl h' dl.wr l).isSome=true->β l=some b->w.heap[b]? = some (.cells cs ty fz)->∃ cs' ty' fz',w'.heap[b]? = some (.cells cs' ty' fz')/\cs'.size=cs.size:=by
    intro b cs ty fz hs' hb' hw;have hs2:(look H' j).isSome=true:=by
     rw [hset j l hj] at hs';cases hx:look H' j with
     |none=>rw [hx] at hs';cases hs'
     |some o=>rfl
    exact hr.psz j b hj6 hs2 ((hpin hp).trans hb') cs ty fz hw
   rcases q4 j l hp with ⟨c,c',g1,g2,g3⟩ | ⟨e,s,rows,g1,g2⟩ | ⟨t,f,g1,g2⟩
   ·rw [g1] at e2;injection e2 with e2
    subst e2;cases e3 with
    |box e3=>exact ⟨(hβo j l hj).trans (hpin hp),fun hx=>(by rw [hh] at hx;cases hx),fun e s rows hx=>(by rw [hh] at hx;cases hx),hcells,fun t f hx=>(by rw [hh] at hx;cases hx)⟩
   ·rw [g1] at e2;injection e2 with e2
    subst e2;cases e3 with
    |arr=>
     refine ⟨(hβo j l hj).trans (hpin hp),fun hx=>(by rw [hh] at hx;cases hx),fun e' s' rows2 hx=>?_,hcells,fun t f hx=>(by rw [hh] at hx;cases hx)⟩;rw [hh] at hx;injection hx with hx
     injection hx with x1 x2 x3
     subst x1 x2 x3;rcases g2 with g2 | ⟨rows',g2,g3⟩
     ·left;rw [hset j l hj,g2];rfl
     ·right;exact ⟨rows',by rw [hset j l hj,g2];rfl,g3⟩
   ·rw [g1] at e2;injection e2 with e2
    subst e2;cases e3 with
    |mp=>
     refine ⟨(hβo j l hj).trans (hpin hp),fun hx=>(by rw [hh] at hx;cases hx),fun e' s' rows2 hx=>(by rw [hh] at hx;cases hx),hcells,fun t' f2 hx=>?_⟩;rw [hh] at hx;injection hx with hx
     injection hx with x1 x2
     subst x1 x2;rcases g2 with g2 | ⟨f',g2⟩
     ·left;rw [hset j l hj,g2];rfl
     ·right;exact ⟨f',by rw [hset j l hj,g2];rfl⟩
  ·rw [hag hj,hno] at hs;cases hs
 ·obtain ⟨j,hj⟩:=hmem hm;rw [hβo j l hj] at hb';have hs2:(look H' j).isSome=true:=by
   rw [hset j l hj] at hs;cases hx:look H' j with
   |none=>rw [hx] at hs;cases hs
   |some o=>rfl
  exact ⟨hw0 (hr.own j b hs2 hb'),hr.apart j b hs2 hb'⟩
 ·obtain ⟨j,hj⟩:=hmem hm;obtain ⟨j',hj'⟩:=hmem hm';rw [hβo j l hj] at hb';rw [hβo j' l' hj'] at hb'';have hs2:∀ {j l:Nat},(j,l)∈σ->(Hl h' dl.wr l).isSome=true->(look H' j).isSome=true:=by
   intro j l hj hs;rw [hset j l hj] at hs;cases hx:look H' j with
   |none=>rw [hx] at hs;cases hs
   |some o=>rfl
  have:=hr.inj j j' b (hs2 hj hs) (hs2 hj' hs') hb' hb'';subst this;have:=HX h1 _ _ hj hj' rfl;injection this
 ·obtain ⟨j,hj⟩:=hmem hm;by_cases hp:(j,l)∈ρ
  ·have:=hsome' hp;rw [hno] at this;cases this
  ·have:=q3 j l hj hp;rw [hset j l hj] at hno';cases hx:look H' j with
   |none=>rw [hx] at this;cases this
   |some o=>rw [hx] at hno';cases hno'
 ·rw [<- q1];exact hren hrd
theorem QcE {α : Type} {K : AV -> List (Nat×Ob) -> oP α} {res : α} {C : VC} (hC : VCOk P C) {n f : Nat} {fn : Func} (hf : P.funcs[f]? = some fn) (hb : fn.body.isSome = true) (hn : (fn.name == "runtime.NumGoroutine") = false)
  {σ ρ:List (Nat×Nat)} {avs avs':List AV} {H:List (Nat×Ob)} {hl:Nat->oP Ob} {dl:Dl}
  (hav:CLeL ρ avs avs')
  (hsub:∀ p,p∈ρ->p∈σ) (h1:Xm (σ.map (·.1))=true) (h2:Xm (σ.map (·.2))=true) (hρ:Xm (ρ.map (·.1))=true)
  (hin:∀ j l,(j,l)∈ρ->1000000<=j/\∃ o o',hl l=some o/\look H j=some o'/\OLe ρ o o')
  (hinH:∀ j,(look H j).isSome=true->∃ l,(j,l)∈ρ)
  (hnew:∀ j l,(j,l)∈σ->(j,l)∈ρ\/hl l=none)
  (hwl:wrL dl=σ.map (·.2))
  (h:vfn C n fn avs' H K=some res) (hK:∀ av H',K av H'=some res->ShapeEnd σ ρ H av H' dl):Wp P f avs hl dl:=
 E4 hf hb hn hav hsub h1 h2 hρ hin hinH hnew hwl (fun _ _ _ _ hO hA=>BB hC hf h hO hA) hK
end
section
variable {P:Program} {R:Type}
theorem CLe.data {ρ:List (Nat×Nat)} {c c':AV} (hl:lf c'=true) (h:CJ c c'):CLe ρ c c':=.inl ⟨hl,h⟩
theorem CLe.own {ρ:List (Nat×Nat)} {c c':AV} (hd:dm ρ c'=true) (h:c=UB ρ c'):CLe ρ c c':=.inr ⟨hd,h⟩
def QfS (ρ0:List (Nat×Nat)) (hl:Nat->oP Ob) (H:List (Nat×Ob)):List (Nat×Nat)->Prop
 |[]=>True
 |(j,l)::r=>(1000000<=j/\∃ o o',hl l=some o/\look H j=some o'/\OLe ρ0 o o')/\QfS ρ0 hl H r
def Qg8 (H H':List (Nat×Ob)):List (Nat×Nat)->Prop
 |[]=>True
 |(j,_)::r=>Q2D (look H j) (look H' j)/\Qg8 H H' r
theorem Q9y {ρ0:List (Nat×Nat)} {hl:Nat->oP Ob} {H:List (Nat×Ob)}:∀ {ρ:List (Nat×Nat)},QfS ρ0 hl H ρ->∀ j l,(j,l)∈ρ->1000000<=j/\∃ o o',hl l=some o/\look H j=some o'/\OLe ρ0 o o'
 |(a,b)::r,h,j,l,hm=>by
  rcases QoK.1 hm with hm | hm
  ·injection hm with h1 h2;subst h1 h2;exact h.1
  ·exact Q9y h.2 j l hm
theorem Q97 {H H':List (Nat×Ob)}:∀ {ρ:List (Nat×Nat)},Qg8 H H' ρ->∀ j l,(j,l)∈ρ->Q2D (look H j) (look H' j)
 |(a,b)::r,h,j,l,hm=>by
  rcases QoK.1 hm with hm | hm
  ·injection hm with h1 h2;subst h1 h2;exact h.1
  ·exact Q97 h.2 j l hm
theorem Qaw {o o':oP Ob} {c c':List AV} (h1:o=some (.box c)) (h2:o'=some (.box c')) (h3:c'.length=c.length):Q2D o o':=.inl ⟨c,c',h1,h2,h3⟩
theorem Q8c {o o':oP Ob} {e s:Nat} {rows:List (List D)} (h1:o=some (.arr e s rows)) (h2:o'=none):Q2D o o':=.inr (.inl ⟨e,s,rows,h1,.inl h2⟩)
theorem Q80 {o o':oP Ob} {e s:Nat} {rows ac:List (List D)} (h1:o=some (.arr e s rows)) (h2:o'=some (.arr e s ac)) (h3:ac.length=rows.length):Q2D o o':=.inr (.inl ⟨e,s,rows,h1,.inr ⟨ac,h2,h3⟩⟩)
theorem Q9x {o o':oP Ob} {t:Nat} {f f':Int->Bool} (h1:o=some (.mp t f)) (h2:o'=some (.mp t f')):Q2D o o':=.inr (.inr ⟨t,f,h1,.inr ⟨f',h2⟩⟩)
theorem Q5n {o o':oP Ob} {t:Nat} {f:Int->Bool} (h1:o=some (.mp t f)) (h2:o'=none):Q2D o o':=.inr (.inr ⟨t,f,h1,.inl h2⟩)
theorem Q9K {f:Nat} {ac:List AV} {hl:Nat->oP Ob} {dl:Dl} {g:Bool} {k:Dl->oP R} {r:R} (h:(bif g then none else k dl)=some r):∃ dl,k dl=some r/\(g=true->Wp P f ac hl dl):=by
 grind
theorem Q1D {α : Type} {K : AV -> List (Nat×Ob) -> oP α} {res : α} {f : Nat} {fn : Func} (hf : P.funcs[f]? = some fn) (hb : fn.body.isSome = true) (hn : (fn.name == "runtime.NumGoroutine") = false)
  {ρ ν:List (Nat×Nat)} {avs avs':List AV} {H:List (Nat×Ob)} {hl:Nat->oP Ob} {dl:Dl}
  (hav:CLeL ρ avs avs') (h1:Xm ((ρ++ν).map (·.1))=true) (hρ:Xm (ρ.map (·.1))=true)
  (hc:Np hl ρ ν=true) (hin:QfS ρ hl H ρ) (hkeys:H.map (·.1)=ρ.map (·.1)) (hwl:wrL dl=(ρ++ν).map (·.2))
  (h:∀ (β:Nat->oP Nat) (S:Nat->Prop) (w:World) (vs:List Value),Objs β S (look H) w->ArgsRd β S (look H) w vs avs'->Calls P f vs.toArray w (Nr H K res β S w))
  (hK:∀ av H',K av H'=some res->UB (ρ++ν) av=dl.v/\L8 (ρ++ν) H' (ρ++ν)=dl.wr/\Qcr H' ν/\Qg8 H H' ρ):Wp P f avs hl dl:=by
 simp only [Np,QoE] at hc;refine E4 hf hb hn hav (fun p hp=>List.mem_append_left _ hp) h1 hc.1 hρ (Q9y hin) (Q2a hkeys) (fun j l hm=>?_) hwl h fun av H' hk=>?_
 ·grind [Q6v]
 ·obtain ⟨q1,q2,q3,q4⟩:=hK av H' hk;refine ⟨q1,q2,fun j l hm hno=>?_,Q97 q4⟩
  grind [absurd,Q5g]
end
abbrev Ln:=(R:Type)->St->(Exit->St->oP R)->oP R
section
variable {P:Program} {E:Env} {R:Type}
def Qgb (P:Program) (c:Code) (F:Ln):Prop:=
 ∀ (E:Env) (R:Type) (st:St) (k:Exit->St->oP R) (r:R),F R st k=some r->∀ a w,HZ E st a w->(Code.loop c).wp P (Q0H E k r) a w
structure LpE (P:Program) where
 r:Nat
 c:Code
 L:Ln
 t:St->Bool
 ok:Qgb P c L
def Q8s:List (LpE P)->Nat->oP Ln
 |[],_=>none
 |e::t,r=>bif Nat.beq e.r r then some e.L else Q8s t r
def Q8f (C:VC) (T:List (LpE P)):Code->St->(Exit->St->oP R)->oP R
 |.skip,st,k=>k .normal st
 |.region id aj ac,st,k=>Q1H C id aj ac st (k .normal)
 |.seq a b,st,k=>Q8f C T a st fun e st'=>match e with
  |.normal=>Q8f C T b st' k
  |.exit id=>k (.exit id) st'
  |.ret=>k .ret st'
  |_=>none
 |.cond c a b,st,k=>match evO st.tm c with
  |.d (.bool e)=>bif e then Q8f C T a st k else Q8f C T b st k
  |_=>none
 |.block id c,st,k=>Q8f C T c st fun e st'=>match e with
  |.normal=>k .normal st'
  |.exit j=>bif Nat.beq j id then k .normal st' else k (.exit j) st'
  |.ret=>k .ret st'
  |_=>none
 |.loop c,st,k=>match Q8s T (Q98 c) with
  |some L=>L R st k
  |none=>none
 |.exit id,st,k=>k (.exit id) st
 |.ret,st,k=>k .ret st
 |_,_,_=>none
def Ug:Code->List (Nat×Code)
 |.seq a b=>Ug a++Ug b
 |.cond _ a b=>Ug a++Ug b
 |.block _ c=>Ug c
 |.loop c=>[(Q98 c,c)]
 |_=>[]
def QfD (T:List (LpE P)) (ds:List (Nat×Code)):Prop:=∀ r c,(r,c)∈ds->∀ L,Q8s T r=some L->Qgb P c L
def Mn (T:List (LpE P)) (ds:List (Nat×Code)):List (Nat×Code):=ds.filter fun d=>Si d.1 (T.map (·.r))
theorem Qa4 {T:List (LpE P)} {r:Nat} {L:Ln} (h:Q8s T r=some L):Si r (T.map (·.r))=true:=by
 induction T with
 |nil=>cases h
 |cons e t ih=>
  grind [Q8s,Nat.beq,Nat.eq_of_beq_eq_true,Si,Nat.beq_refl]
theorem Bp {T:List (LpE P)} {ds:List (Nat×Code)} (hn:Xm (T.map (·.r))=true) (h:Mn T ds=T.map fun e=>(e.r,e.c)):QfD T ds:=by
 intro r c hm L hL;have hm:(r,c)∈T.map fun e=>(e.r,e.c):=by
  rw [<- h];exact List.mem_filter.2 ⟨hm,Qa4 hL⟩
 clear h;induction T with
 |nil=>cases hm
 |cons e t ih=>
  simp only [QoR,Xm,QoE,QoL] at hn;simp only [QoR,QoK] at hm;simp only [Q8s] at hL;rcases hm with hm | hm
  ·injection hm with h1 h2
   subst h1 h2;simp only [Nat.beq_refl,QoJ,Option.some.injEq] at hL;subst hL;exact e.ok
  ·cases hb:Nat.beq e.r r with
   |true=>
    have:=QoD hb;subst this;have aj:Si e.r (t.map (·.r))=true:=by
     have:∀ (l:List (LpE P)),(e.r,c)∈l.map (fun x=>(x.r,x.c))->Si e.r (l.map (·.r))=true:=by
      intro l;induction l with
      |nil=>simp_all
      |cons x xs ak=>
       intro h;simp only [QoR,QoK] at h
       grind [Si,Nat.beq_refl]
     simp_all
    simp_all
   |false=>
    simp_all
theorem MN {C:VC} (hC:VCOk P C) {T:List (LpE P)}:∀ (c:Code),QfD T (Ug c)->∀ (st:St) (k:Exit->St->oP R) (r:R),Q8f C T c st k=some r->∀ a w,HZ E st a w->c.wp P (Q0H E k r) a w:=by
 intro c;induction c with
 |skip=>intro _ st k r h a w hR;exact wp_skip ⟨st,hR,h⟩
 |region id aw ar=>
  intro _ st k r h a w hR;exact Fz hC h hR fun st' a' w' ac hk=>⟨st',ac,hk⟩
 |seq x y ao ak=>
  intro hT st k r h a w hR;refine wp_seq (wp_mono (ao (fun r c hm=>hT r c (List.mem_append_left _ hm)) st _ r h a w hR) fun e a' w' hp=>?_);obtain ⟨st',ac,hk⟩:=hp;cases e with
  |normal=>exact ak (fun r c hm=>hT r c (List.mem_append_right _ hm)) st' k r hk a' w' ac
  |exit id=>exact ⟨st',ac,hk⟩
  |ret=>exact ⟨st',ac,hk⟩
  |_=>cases hk
 |cond c x y ao ak=>
  intro hT st k r h a w hR;simp only [Q8f] at h;split at h
  ·rename_i e he;obtain ⟨β,S,an⟩:=hR;have hv:=(he▸Q4T an c).bool_inv;refine wp_cond hv ?_;cases e with
   |true=>exact ao (fun r c hm=>hT r c (List.mem_append_left _ hm)) st k r (by simpa using h) a w ⟨β,S,an⟩
   |false=>exact ak (fun r c hm=>hT r c (List.mem_append_right _ hm)) st k r (by simpa using h) a w ⟨β,S,an⟩
  ·cases h
 |block id c ih=>
  intro hT st k r h a w hR;refine wp_block (wp_mono (ih hT st _ r h a w hR) fun e a' w' hp=>?_);obtain ⟨st',ac,hk⟩:=hp;cases e with
  |normal=>exact ⟨st',ac,hk⟩
  |exit j=>
   cases hb:Nat.beq j id with
   |true=>
    simp only [hb,QoJ] at hk;have:=QoD hb;simp only [Exit.inBlock,this,if_true];exact ⟨st',ac,hk⟩
   |false=>
    simp only [hb,QoU] at hk;have aq:¬ j=id:=fun e=>by simp_all
    simp only [Exit.inBlock,aq,if_false];exact ⟨st',ac,hk⟩
  |ret=>exact ⟨st',ac,hk⟩
  |_=>cases hk
 |loop c ih=>
  intro hT st k r h a w hR;simp only [Q8f] at h;split at h
  ·rename_i L hL;exact hT _ c (by simp [Ug]) L hL E _ st k r h a w hR
  ·cases h
 |exit id=>intro _ st k r h a w hR;exact wp_exit ⟨st,hR,h⟩
 |ret=>intro _ st k r h a w hR;exact wp_ret ⟨st,hR,h⟩
 |_=>grind [Q8f]
def lpK (F:Ln) (k:Exit->St->oP R):Exit->St->oP R:=fun e st=>match e with
 |.normal=>F R st k
 |.exit id=>k (.exit id) st
 |.ret=>k .ret st
 |_=>none
theorem Q4l {c:Code} (F:Nat->Ln) (h0:∀ (R:Type) st (k:Exit->St->oP R),F 0 R st k=none)
  (hs:∀ (m:Nat) (E:Env) (R:Type) st (k:Exit->St->oP R) r,F (m+1) R st k=some r->∀ a w,HZ E st a w->c.wp P (Q0H E (lpK (F m) k) r) a w) :
  ∀ (m:Nat) (E:Env) (R:Type) (st:St) (k:Exit->St->oP R) (r:R),F m R st k=some r->∀ a w,HZ E st a w->Code.rounds P c (Q0H E k r) m a w
 |0,E,R,st,k,r,h=>by rw [h0] at h;cases h
 |m+1,E,R,st,k,r,h=>by
  intro a w hR;rw [rounds_succ];refine wp_mono (hs m E R st k r h a w hR) fun e a' w' ⟨st',ac,hk⟩=>?_
  cases e with
  |normal=>exact Q4l F h0 hs m E R st' k r hk a' w' ac
  |exit id=>exact ⟨st',ac,hk⟩
  |ret=>exact ⟨st',ac,hk⟩
  |_=>cases hk
end
inductive LT where
 |I | B | T | L | R | D | N | M | P
abbrev yI:LT:=.I
abbrev yB:LT:=.B
abbrev yT:LT:=.T
abbrev yL:LT:=.L
abbrev yR:LT:=.R
abbrev yD:LT:=.D
abbrev yN:LT:=.N
abbrev yM:LT:=.M
abbrev yP:LT:=.P
inductive Lf where
 |I (x:Int)
 |B (x:Bool)
 |T (x:List UInt8)
 |L (x:List (List D))
 |R (x:List D)
 |D (x:Vx.D)
 |N (x:Nat)
 |M (x:Int->List (List Vx.D))
 |P (x:Int->Bool)
def LT.ty:LT->Type
 |.I=>Int
 |.B=>Bool
 |.T=>List UInt8
 |.L=>List (List Vx.D)
 |.R=>List Vx.D
 |.D=>Vx.D
 |.N=>Nat
 |.M=>Int->List (List Vx.D)
 |.P=>Int->Bool
def HL:List LT->Type
 |[]=>Unit
 |t::ts=>t.ty×HL ts
def LF:List LT->Type->Type
 |[],α=>α
 |t::ts,α=>t.ty->LF ts α
def Qb4:(t:LT)->t.ty->Lf
 |.I,x=>.I x
 |.B,x=>.B x
 |.T,x=>.T x
 |.L,x=>.L x
 |.R,x=>.R x
 |.D,x=>.D x
 |.N,x=>.N x
 |.M,x=>.M x
 |.P,x=>.P x
def toL:(ts:List LT)->HL ts->List Lf
 |[],_=>[]
 |t::ts,v=>Qb4 t v.1::toL ts v.2
def apH {α:Type}:(ts:List LT)->LF ts α->HL ts->α
 |[],f,_=>f
 |_::ts,f,v=>apH ts (f v.1) v.2
def Q8G:(t:LT)->Lf->oP t.ty
 |.I,.I x=>some x
 |.B,.B x=>some x
 |.T,.T x=>some x
 |.L,.L x=>some x
 |.R,.R x=>some x
 |.D,.D x=>some x
 |.N,.N x=>some x
 |.M,.M x=>some x
 |.P,.P x=>some x
 |_,_=>none
def apL {α:Type}:(ts:List LT)->LF ts (oP α)->List Lf->oP α
 |[],f,l=>match l with
  |[]=>f
  |_::_=>none
 |t::ts,f,l=>match l with
  |[]=>none
  |x::r=>match Q8G t x with
   |some v=>apL ts (f v) r
   |none=>none
theorem NR {t:LT} {x:Lf} {v:t.ty} (h:Q8G t x=some v):x=Qb4 t v:=by
 cases t <;> cases x <;> first | (injection h with h;subst h;rfl) | cases h
theorem ML {α:Type} (ts:List LT):∀ (f:LF ts (oP α)) (l:List Lf) (r:α),apL ts f l=some r->∃ v:HL ts,apH ts f v=some r/\l=toL ts v:=by
 induction ts with
 |nil=>
  intro f l r h;cases l with
  |nil=>exact ⟨(),h,rfl⟩
  |cons x l=>cases h
 |cons t ts ih=>
  intro f l r h;cases l with
  |nil=>cases h
  |cons x l=>
   replace h:(match Q8G t x with | some v=>apL ts (f v) l | none=>none)=some r:=h
   split at h
   ·rename_i v hv;obtain ⟨u,h1,h2⟩:=ih (f v) l r h;exact ⟨(v,u),h1,by rw [NR hv,h2];rfl⟩
   ·cases h
inductive TA where
 |top | nil
 |i (k:IntKind) | b | t | l (s:Nat) | x
 |ci (k:IntKind) (n:Int) | cb (v:Bool) | ct (s:List UInt8) | cl (s:Nat)
 |ag (l:List TA) | tup (l:List TA) | fn (f:Nat) (l:List TA)
 |ptr (l off:Nat) | arr (l:Nat) | sa (l t:Nat)
 |el (off:Nat) | ap (l off:Nat) | ac (l i off:Nat)
 |fs (s:Nat) | mpd
 |gd (t:Nat) (w:Bool) (a:TA)
def DN:List UInt8->List UInt8->Bool
 |[],[]=>true
 |a::r,b::s=>Nat.beq a.toNat b.toNat&&DN r s
 |_,_=>false
theorem Q1d:∀ {a b:List UInt8},DN a b=true->a=b
 |[],[],_=>rfl
 |x::r,y::s,h=>by
  simp only [DN,QoE] at h;rw [UInt8.toNat_inj.1 (QoD h.1),Q1d h.2]
 |[],_::_,h=>by simp [DN] at h
 |_::_,[],h=>by simp [DN] at h
def oB {α:Type} (c:Bool) (x:α):oP α:=bif c then some x else none
theorem Jb {α:Type} {c:Bool} {x y:α} (h:oB c x=some y):c=true/\x=y:=by
 cases c with
 |true=>injection h with h;simp_all
 |false=>cases h
mutual
def rdT:TA->AV->List Lf->oP (List Lf)
 |.top,.top,acc=>some acc
 |.nil,.nil,acc=>some acc
 |.i k,.d (.int k' n),acc=>oB (k == k') (.I n::acc)
 |.b,.d (.bool v),acc=>some (.B v::acc)
 |.t,.d (.str s),acc=>some (.T s::acc)
 |.l s,.d (.sl s' r),acc=>oB (Nat.beq s s') (.L r::acc)
 |.x,.d d,acc=>some (.D d::acc)
 |.ci k n,.d (.int k' n'),acc=>oB (k == k'&&decide (n=n')) acc
 |.cb v,.d (.bool v'),acc=>oB (v == v') acc
 |.ct s,.d (.str s'),acc=>oB (DN s s') acc
 |.cl s,.d (.sl s' []),acc=>oB (Nat.beq s s') acc
 |.ag l,.ag l',acc=>QaY l l' acc
 |.tup l,.tup l',acc=>QaY l l' acc
 |.fn f l,.fn f' l',acc=>bif Nat.beq f f' then QaY l l' acc else none
 |.ptr l o,.ptr l' o',acc=>oB (Nat.beq l l'&&Nat.beq o o') acc
 |.arr l,.arr l',acc=>oB (Nat.beq l l') acc
 |.sa l o,.sa l' o',acc=>oB (Nat.beq l l'&&Nat.beq o o') acc
 |.el o,.el r o',acc=>oB (Nat.beq o o') (.R r::acc)
 |.ap l o,.ap l' i o',acc=>oB (Nat.beq l l'&&Nat.beq o o') (.N i::acc)
 |.ac l i o,.ap l' i' o',acc=>oB (Nat.beq l l'&&Nat.beq i i'&&Nat.beq o o') acc
 |.fs s,.fs s' r,acc=>oB (Nat.beq s s') (.L r::acc)
 |.mpd,.mpd f,acc=>some (.M f::acc)
 |.gd t w a,.gd t' w' a',acc=>bif Nat.beq t t'&&(w == w') then rdT a a' acc else none
 |_,_,_=>none
def QaY:List TA->List AV->List Lf->oP (List Lf)
 |[],[],acc=>some acc
 |a::r,a'::r',acc=>match QaY r r' acc with
  |some ac=>rdT a a' ac
  |none=>none
 |_,_,_=>none
end
mutual
def fiT:TA->List Lf->AV×List Lf
 |.i k,.I n::r=>(.d (.int k n),r)
 |.b,.B v::r=>(.d (.bool v),r)
 |.t,.T s::r=>(.d (.str s),r)
 |.l s,.L x::r=>(.d (.sl s x),r)
 |.x,.D d::r=>(.d d,r)
 |.ci k n,r=>(.d (.int k n),r)
 |.cb v,r=>(.d (.bool v),r)
 |.ct s,r=>(.d (.str s),r)
 |.cl s,r=>(.d (.sl s []),r)
 |.ag l,r=>(.ag (Q8k l r).1,(Q8k l r).2)
 |.tup l,r=>(.tup (Q8k l r).1,(Q8k l r).2)
 |.fn f l,r=>(.fn f (Q8k l r).1,(Q8k l r).2)
 |.ptr l o,r=>(.ptr l o,r)
 |.arr l,r=>(.arr l,r)
 |.sa l o,r=>(.sa l o,r)
 |.el o,.R x::r=>(.el x o,r)
 |.ap l o,.N i::r=>(.ap l i o,r)
 |.ac l i o,r=>(.ap l i o,r)
 |.fs s,.L x::r=>(.fs s x,r)
 |.mpd,.M f::r=>(.mpd f,r)
 |.gd t w a,r=>(.gd t w (fiT a r).1,(fiT a r).2)
 |.nil,r=>(.nil,r)
 |_,r=>(.top,r)
def Q8k:List TA->List Lf->List AV×List Lf
 |[],r=>([],r)
 |a::l,r=>((fiT a r).1::(Q8k l (fiT a r).2).1,(Q8k l (fiT a r).2).2)
end
mutual
theorem Q24:∀ (ta:TA) (a:AV) (acc ls:List Lf),rdT ta a acc=some ls->fiT ta ls=(a,acc):=by
 intro ta a acc ls h;cases ta <;> cases a <;> try (simp only [rdT,reduceCtorEq] at h;done)
 case top.top=>simp only [rdT,Option.some.injEq] at h;subst h;simp [fiT]
 case nil.nil=>simp only [rdT,Option.some.injEq] at h;subst h;simp [fiT]
 case i.d k d=>
  cases d <;> try (simp only [rdT,reduceCtorEq] at h;done)
  simp only [rdT] at h;obtain ⟨h1,rfl⟩:=Jb h;rw [<- eq_of_beq h1];rfl
 case b.d d=>
  cases d <;> try (simp only [rdT,reduceCtorEq] at h;done)
  simp only [rdT,Option.some.injEq] at h;subst h;rfl
 case t.d d=>
  cases d <;> try (simp only [rdT,reduceCtorEq] at h;done)
  simp only [rdT,Option.some.injEq] at h;subst h;rfl
 case l.d s d=>
  cases d <;> try (simp only [rdT,reduceCtorEq] at h;done)
  simp only [rdT] at h;obtain ⟨h1,rfl⟩:=Jb h;rw [<- QoD h1];rfl
 case x.d d=>simp only [rdT,Option.some.injEq] at h;subst h;rfl
 case ci.d k n d=>
  cases d <;> try (simp only [rdT,reduceCtorEq] at h;done)
  simp only [rdT] at h;obtain ⟨h1,rfl⟩:=Jb h;simp only [QoE,decide_eq_true_eq] at h1;rw [<- eq_of_beq h1.1,<- h1.2];simp [fiT]
 case cb.d v d=>
  cases d <;> try (simp only [rdT,reduceCtorEq] at h;done)
  simp only [rdT] at h;obtain ⟨h1,rfl⟩:=Jb h;rw [<- eq_of_beq h1];simp [fiT]
 case ct.d s d=>
  cases d <;> try (simp only [rdT,reduceCtorEq] at h;done)
  simp only [rdT] at h;obtain ⟨h1,rfl⟩:=Jb h;rw [<- Q1d h1];simp [fiT]
 case cl.d s d=>
  cases d <;> try (simp only [rdT,reduceCtorEq] at h;done)
  rename_i s' rows;cases rows <;> try (simp only [rdT,reduceCtorEq] at h;done)
  simp only [rdT] at h;obtain ⟨h1,rfl⟩:=Jb h;rw [<- QoD h1];simp [fiT]
 case ag.ag l l'=>simp only [rdT] at h;have:=M2 l l' acc ls h;simp [fiT,this]
 case tup.tup l l'=>simp only [rdT] at h;have:=M2 l l' acc ls h;simp [fiT,this]
 case fn.fn f l f' l'=>
  simp only [rdT] at h;obtain ⟨h1,h⟩:=Y3 h;have:=M2 l l' acc ls h;rw [<- QoD h1];simp [fiT,this]
 case ptr.ptr=>
  simp only [rdT] at h;obtain ⟨h1,rfl⟩:=Jb h;simp only [QoE] at h1;rw [<- QoD h1.1,<- QoD h1.2];simp [fiT]
 case arr.arr=>
  simp only [rdT] at h;obtain ⟨h1,rfl⟩:=Jb h;rw [<- QoD h1];simp [fiT]
 case sa.sa=>
  simp only [rdT] at h;obtain ⟨h1,rfl⟩:=Jb h;simp only [QoE] at h1;rw [<- QoD h1.1,<- QoD h1.2];simp [fiT]
 case el.el=>
  simp only [rdT] at h;obtain ⟨h1,rfl⟩:=Jb h;rw [<- QoD h1];rfl
 case ap.ap=>
  simp only [rdT] at h;obtain ⟨h1,rfl⟩:=Jb h;simp only [QoE] at h1;rw [<- QoD h1.1,<- QoD h1.2];rfl
 case ac.ap=>
  simp only [rdT] at h;obtain ⟨h1,rfl⟩:=Jb h;simp only [QoE] at h1;rw [<- QoD h1.1.1,<- QoD h1.1.2,<- QoD h1.2];simp [fiT]
 case fs.fs=>
  simp only [rdT] at h;obtain ⟨h1,rfl⟩:=Jb h;rw [<- QoD h1];rfl
 case mpd.mpd=>simp only [rdT,Option.some.injEq] at h;subst h;rfl
 case gd.gd ti w a ti' w' a'=>
  simp only [rdT] at h;obtain ⟨h1,h⟩:=Y3 h;simp only [QoE] at h1;have:=Q24 a a' acc ls h;rw [<- QoD h1.1,<- eq_of_beq h1.2];simp [fiT,this]
theorem M2:∀ (ta:List TA) (a:List AV) (acc ls:List Lf),QaY ta a acc=some ls->Q8k ta ls=(a,acc):=by
 intro ta a acc ls h
 match ta,a,h with
 |[],[],h=>simp only [QaY,Option.some.injEq] at h;subst h;simp [Q8k]
 |ta::ts,a::as,h=>
  simp only [QaY] at h;split at h
  ·rename_i ac ha;have h1:=Q24 ta a ac ls h;have h2:=M2 ts as acc ac ha;simp [Q8k,h1,h2]
  ·cases h
 |[],_::_,h=>simp [QaY] at h
 |_::_,[],h=>simp [QaY] at h
end
abbrev tI:TA:=.i .i64
inductive TO where
 |box (l:List TA)
 |arr (e s:Nat)
 |arc (e s:Nat)
 |mp (t:Nat)
structure TS where
 n:Nat
 tm:List (Nat×TA)
 h:List (Nat×TO)
def rdO:TO->Ob->List Lf->oP (List Lf)
 |.box l,.box l',acc=>QaY l l' acc
 |.arr e s,.arr e' s' r,acc=>oB (Nat.beq e e'&&Nat.beq s s') (.L r::acc)
 |.arc e s,.arr e' s' [],acc=>oB (Nat.beq e e'&&Nat.beq s s') acc
 |.mp e,.mp e' f,acc=>oB (Nat.beq e e') (.P f::acc)
 |_,_,_=>none
def fiO:TO->List Lf->Ob×List Lf
 |.box l,r=>(.box (Q8k l r).1,(Q8k l r).2)
 |.arr e s,.L x::r=>(.arr e s x,r)
 |.arr e s,r=>(.arr e s [],r)
 |.arc e s,r=>(.arr e s [],r)
 |.mp e,.P x::r=>(.mp e x,r)
 |.mp e,r=>(.mp e fun _=>false,r)
def rdM:List (Nat×TA)->List (Nat×AV)->List Lf->oP (List Lf)
 |[],[],acc=>some acc
 |(i,a)::r,(j,b)::s,acc=>bif Nat.beq i j then match rdM r s acc with
  |some ac=>rdT a b ac
  |none=>none
  else none
 |_,_,_=>none
def fiM:List (Nat×TA)->List Lf->List (Nat×AV)×List Lf
 |[],r=>([],r)
 |(i,a)::l,r=>((i,(fiT a r).1)::(fiM l (fiT a r).2).1,(fiM l (fiT a r).2).2)
def rdH:List (Nat×TO)->List (Nat×Ob)->List Lf->oP (List Lf)
 |[],[],acc=>some acc
 |(i,a)::r,(j,b)::s,acc=>bif Nat.beq i j then match rdH r s acc with
  |some ac=>rdO a b ac
  |none=>none
  else none
 |_,_,_=>none
def fiH:List (Nat×TO)->List Lf->List (Nat×Ob)×List Lf
 |[],r=>([],r)
 |(i,a)::l,r=>((i,(fiO a r).1)::(fiH l (fiO a r).2).1,(fiH l (fiO a r).2).2)
def rdS (Z:TS) (st:St):oP (List Lf):=bif Nat.beq Z.n st.n then match rdH Z.h st.h [] with
  |some acc=>rdM Z.tm st.tm acc
  |none=>none
 else none
def fiS (Z:TS) (l:List Lf):St:=⟨Z.n,(fiM Z.tm l).1,(fiH Z.h (fiM Z.tm l).2).1⟩
theorem Qc5 {z:TO} {o:Ob} {acc ls:List Lf} (h:rdO z o acc=some ls):fiO z ls=(o,acc):=by
 cases z <;> cases o <;> try (simp only [rdO,reduceCtorEq] at h;done)
 case box.box=>simp only [rdO] at h;simp [fiO,M2 _ _ _ _ h]
 case arr.arr=>
  simp only [rdO] at h;obtain ⟨h1,rfl⟩:=Jb h;simp only [QoE] at h1;rw [<- QoD h1.1,<- QoD h1.2];rfl
 case arc.arr e s e' s' r=>
  cases r <;> try (simp only [rdO,reduceCtorEq] at h;done)
  simp only [rdO] at h;obtain ⟨h1,rfl⟩:=Jb h;simp only [QoE] at h1;rw [<- QoD h1.1,<- QoD h1.2];simp [fiO]
 case mp.mp=>
  simp only [rdO] at h;obtain ⟨h1,rfl⟩:=Jb h;rw [<- QoD h1];rfl
theorem Q73:∀ {z:List (Nat×TA)} {l:List (Nat×AV)} {acc ls:List Lf},rdM z l acc=some ls->fiM z ls=(l,acc)
 |[],[],acc,ls,h=>by simp only [rdM,Option.some.injEq] at h;subst h;rfl
 |(i,a)::r,(j,b)::s,acc,ls,h=>by
  simp only [rdM] at h;obtain ⟨h1,h⟩:=Y3 h;split at h
  ·rename_i ac ha;simp [fiM,Q24 _ _ _ _ h,Q73 ha,QoD h1]
  ·cases h
 |[],_::_,_,_,h=>by simp [rdM] at h
 |_::_,[],_,_,h=>by simp [rdM] at h
theorem Q6G:∀ {z:List (Nat×TO)} {l:List (Nat×Ob)} {acc ls:List Lf},rdH z l acc=some ls->fiH z ls=(l,acc)
 |[],[],acc,ls,h=>by simp only [rdH,Option.some.injEq] at h;subst h;rfl
 |(i,a)::r,(j,b)::s,acc,ls,h=>by
  simp only [rdH] at h;obtain ⟨h1,h⟩:=Y3 h;split at h
  ·rename_i ac ha;simp [fiH,Qc5 h,Q6G ha,QoD h1]
  ·cases h
 |[],_::_,_,_,h=>by simp [rdH] at h
 |_::_,[],_,_,h=>by simp [rdH] at h
theorem Q7q {Z:TS} {st:St} {ls:List Lf} (h:rdS Z st=some ls):fiS Z ls=st:=by
 obtain ⟨h1,h⟩:=Y3 h;split at h
 ·rename_i acc ha;simp only [fiS,Q73 h,Q6G ha,QoD h1]
 ·cases h
def Lp (C:VC) (ac:Nat) (Z:TS) (ts:List LT) (f:(R:Type)->(Exit->St->oP R)->LF ts (oP R)):Ln:=fun R st k=>
 match rdS Z (Q1c C ac st) with
 |some ls=>apL ts (f R k) ls
 |none=>none
def mkL {P:Program} {C:VC} (hC:VCOk P C) (T:List (LpE P)) (r:Nat) (c:Code) (Z:TS) (ts:List LT) (f:Nat->(R:Type)->(Exit->St->oP R)->LF ts (oP R)) (m:Nat)
  (hr:Nat.beq r (Q98 c)=true:=by kernel_rfl) (hT:Mn T (Ug c)=T.map fun e=>(e.r,e.c):=by kernel_rfl) (hn:Xm (T.map (·.r))=true:=by rfl)
  (h0:∀ R k v,apH ts (f 0 R k) v=none:=by intro R k v;rfl)
  (hs:∀ m R k v,apH ts (f (m+1) R k) v=Q8f C T c (fiS Z (toL ts v)) (lpK (Lp C (3000000000+r) Z ts (f m)) k):=by intro m R k v;kernel_rfl):LpE P where
 r:=r
 c:=c
 L:=Lp C (3000000000+r) Z ts (f m)
 t:=fun st=>(rdS Z (Q1c C (3000000000+r) st)).isSome
 ok:=by
  have hr:=QoD hr;have hT:=Bp hn hT;intro E R st k x h a w hR;refine wp_loop_rounds m (Q4l (fun m=>Lp C (3000000000+r) Z ts (f m)) (fun R st k=>?_) (fun m E R st k x h a w hR=>?_) m E R st k x h a w hR)
  ·show Lp C (3000000000+r) Z ts (f 0) R st k=none;cases hx:Lp C (3000000000+r) Z ts (f 0) R st k with
   |none=>rfl
   |some x=>
    unfold Lp at hx;split at hx
    ·obtain ⟨v,hv,_⟩:=ML _ _ _ _ hx;rw [h0] at hv;cases hv
    ·cases hx
  ·replace h:Lp C (3000000000+r) Z ts (f (m+1)) R st k=some x:=h
   unfold Lp at h;split at h
   ·rename_i ls an;obtain ⟨v,hv,rfl⟩:=ML _ _ _ _ h;rw [hs,Q7q an] at hv;refine MN hC c hT _ _ x hv a w ?_;unfold Q1c;split
    ·exact PC _ hR
    ·exact hR
   ·cases h
def orL {P:Program} (a b:LpE P) (hc:b.c=a.c:=by kernel_rfl):LpE P where
 r:=a.r
 c:=a.c
 L:=fun R st k=>bif a.t st then a.L R st k else b.L R st k
 t:=fun st=>a.t st||b.t st
 ok:=by
  intro E R st k r h
  replace h:(bif a.t st then a.L R st k else b.L R st k)=some r:=h
  cases ht:a.t st with
  |true=>rw [ht] at h;exact a.ok E R st k r h
  |false=>rw [ht] at h;rw [<- hc];exact b.ok E R st k r h
section
variable {P:Program} {R:Type}
def prM (hl:Nat->oP Ob) (e:Nat) (av:AV) (k:Nat->(Int->Bool)->oP R):oP R:=
 match av with
 |.arr l=>match hl l with
  |some (.mp e' f)=>bif Nat.beq e' e then k l f else none
  |_=>none
 |_=>none
theorem Qh1 {hl:Nat->oP Ob} {e:Nat} {av:AV} {k:Nat->(Int->Bool)->oP R} {r:R} (h:prM hl e av k=some r):∃ l f,k l f=some r/\av = .arr l/\hl l=some (.mp e f):=by
 unfold prM at h
 grind [Nat.eq_of_beq_eq_true]
def prN (av:AV) (k:oP R):oP R:=
 match av with
 |.nil=>k
 |_=>none
theorem Qh7 {av:AV} {k:oP R} {r:R} (h:prN av k=some r):k=some r/\av = .nil:=by
 grind [prN]
def vfnT (C:VC) (T:List (LpE P)) (fn:Func) (args:List AV) (h:List (Nat×Ob)) (k:AV->List (Nat×Ob)->oP R):oP R:=
 bif fn.body.isSome&&(Nat.ble args.length fn.ntmps&&HS args) then Q8f C T (Jf fn) { n:=fn.ntmps,tm:=Q4a 0 args,h:=h } (fnK C.tt fn k) else none
theorem L7 {C:VC} (hC:VCOk P C) {T:List (LpE P)} {f:Nat} {fn:Func} (hf:P.funcs[f]? = some fn) (hT:Mn T (Ug (Jf fn))=T.map fun e=>(e.r,e.c)) (hn:Xm (T.map (·.r))=true)
  {args:List AV} {H:List (Nat×Ob)} {k:AV->List (Nat×Ob)->oP R} {r:R} (h:vfnT C T fn args H k=some r)
  (β:Nat->oP Nat) (S:Nat->Prop) (w:World) (vs:List Value) (hO:Objs β S (look H) w) (hA:ArgsRd β S (look H) w vs args):Calls P f vs.toArray w (Nr H k r β S w):=by
 obtain ⟨hb,h⟩:=Y3 h;simp only [QoE] at hb;obtain ⟨c,hc⟩:=QoT.1 hb.1;have ac:Jf fn=c:=by grind [Jf]
 rw [ac] at h hT;exact Q1T hC hf hc Q4 (fun a hR=>MN hC c (Bp hn hT) _ _ r h a w ⟨β,S,hR⟩) hO hA
theorem QbO {α:Type} {K:AV->oP α} {res:α} {C:VC} (hC:VCOk P C) (T:List (LpE P)) {f:Nat} {fn:Func} {ss:List (List Nat)} {avs:List AV} {av:AV} {hl:Nat->oP Ob} {rd:List Nat}
  (h : vfnT C T fn avs [] (retF ss K) = some res) (hK : ∀ x, K x = some res -> x = av) (hf : P.funcs[f]? = some fn := by kernel_rfl) (hb : fn.body.isSome = true := by kernel_rfl) (hn : (fn.name == "runtime.NumGoroutine") = false := by kernel_rfl) (hlf : lfL avs = true := by rfl)
  (hT:Mn T (Ug (Jf fn))=T.map fun e=>(e.r,e.c):=by kernel_rfl) (hn2:Xm (T.map (·.r))=true:=by rfl):Wp P f avs hl ⟨av,[],rd⟩:=
 Q5k hf hb hn hlf (L7 hC hf hT hn2 h) hK
theorem Qh0 {α:Type} {K:AV->List (Nat×Ob)->oP α} {res:α} {C:VC} (hC:VCOk P C) (T:List (LpE P)) {f:Nat} {fn:Func}
  {ρ ν:List (Nat×Nat)} {avs avs':List AV} {H:List (Nat×Ob)} {hl:Nat->oP Ob} {dl:Dl}
  (hc:Np hl ρ ν=true) (hin:Qg3 hl H ρ)
  (h:vfnT C T fn avs' H K=some res)
  (hK:∀ av H',K av H'=some res->UB (ρ++ν) av=dl.v/\L8 (ρ++ν) H' (ρ++ν)=dl.wr/\Qcr H' (ρ++ν)/\Qfi H H' ρ)
  (hf : P.funcs[f]? = some fn := by kernel_rfl) (hb : fn.body.isSome = true := by kernel_rfl) (hn : (fn.name == "runtime.NumGoroutine") = false := by kernel_rfl)
  (hav:avs=avs'.map (UB ρ):=by rfl) (hargs:Co ρ avs'=true:=by rfl) (h1:Xm ((ρ++ν).map (·.1))=true:=by rfl) (hρ:Xm (ρ.map (·.1))=true:=by rfl) (hkeys:H.map (·.1)=ρ.map (·.1):=by rfl) (hwl:wrL dl=(ρ++ν).map (·.2):=by rfl)
  (hT:Mn T (Ug (Jf fn))=T.map fun e=>(e.r,e.c):=by kernel_rfl) (hn2:Xm (T.map (·.r))=true:=by rfl):Wp P f avs hl dl:=
 Q08 hf hb hn hav hargs h1 hρ hc hin hkeys hwl (L7 hC hf hT hn2 h) hK
theorem Qiq {α:Type} {K:AV->List (Nat×Ob)->oP α} {res:α} {C:VC} (hC:VCOk P C) (T:List (LpE P)) {f:Nat} {fn:Func}
  {ρ ν:List (Nat×Nat)} {avs avs':List AV} {H:List (Nat×Ob)} {hl:Nat->oP Ob} {dl:Dl}
  (hav:CLeL ρ avs avs') (hc:Np hl ρ ν=true) (hin:QfS ρ hl H ρ)
  (h:vfnT C T fn avs' H K=some res)
  (hK:∀ av H',K av H'=some res->UB (ρ++ν) av=dl.v/\L8 (ρ++ν) H' (ρ++ν)=dl.wr/\Qcr H' ν/\Qg8 H H' ρ)
  (hf : P.funcs[f]? = some fn := by kernel_rfl) (hb : fn.body.isSome = true := by kernel_rfl) (hn : (fn.name == "runtime.NumGoroutine") = false := by kernel_rfl)
  (h1:Xm ((ρ++ν).map (·.1))=true:=by rfl) (hρ:Xm (ρ.map (·.1))=true:=by rfl) (hkeys:H.map (·.1)=ρ.map (·.1):=by rfl) (hwl:wrL dl=(ρ++ν).map (·.2):=by rfl)
  (hT:Mn T (Ug (Jf fn))=T.map fun e=>(e.r,e.c):=by kernel_rfl) (hn2:Xm (T.map (·.r))=true:=by rfl):Wp P f avs hl dl:=
 Q1D hf hb hn hav h1 hρ hc hin hkeys hwl (L7 hC hf hT hn2 h) hK
theorem lawT {C:VC} (hC:VCOk P C) (T:List (LpE P)) {f:Nat} {fn:Func} (hf:P.funcs[f]? = some fn) {ss:List (List Nat)} {K:AV->oP Bool} (hK:∀ x,K x=some true->x = .d (.bool true))
  {ac:List AV} {args:List Value} {w:World} (hA:ArgsRd (fun _=>none) (SW w) (look ([]:List (Nat×Ob))) w args ac) (h:vfnT C T fn ac [] (retF ss K)=some true)
  (hT:Mn T (Ug (Jf fn))=T.map fun e=>(e.r,e.c):=by kernel_rfl) (aj:Xm (T.map (·.r))=true:=by rfl) :
  Calls P f args.toArray w fun e w'=>e = .returned (.bool true)/\RowKit.Below w.heap.size w w':=
 Q90 hK hA (L7 hC hf hT aj h)
end
end Go.Vx
