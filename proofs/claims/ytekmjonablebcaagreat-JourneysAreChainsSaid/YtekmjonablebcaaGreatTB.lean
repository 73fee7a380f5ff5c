/- Part of a proof. No conditions of their own. -/
import Derived.Test.YtekmjonablebcaaGreatTA
import Derived.Lib.AppendZeros
import Derived.LoopN
import Derived.ProofKit
import Derived.ChangeOld
import Derived.Carry
import Derived.ChangeArms
import Derived.WideShapes
import Derived.IntWalk
import Derived.KernelRfl
set_option linter.unusedVariables false
set_option linter.unusedSimpArgs false
noncomputable section
abbrev QpD:=@Nat.eq_of_beq_eq_true
abbrev QpE:=@Bool.and_eq_true
abbrev QpF:=@Option.map_eq_some_iff
abbrev QpG:=@List.getElem?_eq_some_iff
abbrev QpH:=@List.getElem?_eq_getElem
abbrev QpI:=@Go.Result.andThen_ok
abbrev QpJ:=@cond_true
abbrev QpK:=@List.mem_cons
abbrev QpL:=@Bool.not_eq_true'
abbrev QpM:=@Go.Sem.run_bind
abbrev QpN:=@Array.getElem?_eq_some_iff
abbrev QpO:=@List.getElem?_drop
abbrev QpP:=@Nat.zero_add
abbrev QpQ:=@Array.getElem?_eq_getElem
abbrev QpR:=@List.map_cons
abbrev QpS:=@Bool.or_eq_true
abbrev QpT:=@Option.isSome_iff_exists
abbrev QpU:=@cond_false
abbrev QpV:=@Bool.or_eq_false_iff
abbrev QpW:=@if_neg
abbrev QpX:=@List.mem_map
abbrev QpY:=@Array.getElem?_toList
abbrev QpZ:=@List.getElem?_eq_none
abbrev Qq0:=@Nat.le_of_ble_eq_true
namespace Go.Vx
variable{hl:Nat->oP Ob} {ev:Operand->AV} {o:Oper} {tt:TT} {x:Operand}
section
variable{P:Program} {E:Env} {R:Type}
theorem Q3E(hT:TOk P tt){c:Call}{s x:Operand}{t tn:Nat}(ho:o.op = .call c)(au:c.callee = .builtin .append)(ha:c.args.toList=[s,x])(hat:c.argTypes.toList=[t,tn]){g:Bool}{ai:Nat}{k:Dl->oP R}{r:R}(h:Q2g tt hl ai g t tn (ev s) (ev x) k=some r):∃dl,k dl=some r/\(g=true->K6 P E o ev hl dl):=by
 have ak:c.args = #[s,x]:=by grind
 have a8:c.argTypes = #[t,tn]:=by grind
 have bp:s∈o.op.operands.toList:=by grind[Op.operands,Call.operands]
 have bk:x∈o.op.operands.toList:=by simp[ho,Op.operands,Call.operands,au,ak]
 unfold Q2g at h;split at h
 case h_2=>cases h
 rename_i e esz kn kx n hk bc bm bz;split at h
 case h_2=>cases h
 rename_i ei am;cases hc:(Nat.ble 1 ei.bytes&&Nat.beq (M1 tt e).length esz)with
 |false=>simp_all
 |true=>
  simp only[hc,QpJ]at h;simp only[QpE]at hc;have an:=Qq0 hc.1;have aw:=QpD hc.2;have br:M1 tt e=ei.zd:=by simp[M1,am]
  rw[br]at aw h;obtain⟨_,h,ay⟩:=Qy h;obtain⟨_,h,aa⟩:=Qy h;obtain⟨hn,h⟩:=US h;refine⟨_,h,λhg=>?_⟩;have aa:=NX (aa hg);have ay:0<n:=by
   have:=ay hg;cases hd:decide (0<n)with
   |true=>simpa using hd
   |false=>simp[hd]at this
  obtain⟨ti,bv,bl⟩:=XC hk Q2;obtain⟨hu,b5,inf,ar,a2⟩:=(hT t ti bv).ksl _ _ bl;obtain⟨bn,bb,ba⟩:=XC bc Q2;have b0:=(hT tn bn bb).kint _ ba;obtain⟨b2,ac,a5,bh,z,hz,a7⟩:=(hT e ei am).inf;rw[ar]at ac;injection ac with ac
  subst ac;have aj:z.cells.size=esz:=by rw[<- Array.length_toList,a7,(hT e ei am).zlen,<- a5,a2]
  obtain⟨m,rfl⟩:=Int.eq_ofNat_of_zero_le (Int.le_of_lt ay);have bg:0<m:=I
  simp only[Int.toNat_natCast]at aa h ⊢;have b6:m<=140737488355328:=Nat.le_trans (by have:=Nat.mul_le_mul_left m an;omega) aa;intro β S st a w hR hO hA b1 K Q hK;have a3:look st.h ai=none:=by rw[hA ai (.inr (by simp[wrL]))];exact hn
  have bi:Ut st ai=true:=by simpa[Wm,a3]using b1
  have hv:=(bm▸hO.at bp).nil_inv;have hx:=(bz▸hO.at bk).int_inv;have a6:=Lib.run_append_nil_zeros (P:=P) w t tn o.type e inf z kx kn hu b0 ar hz m bg I I (by rw[bh];omega);have ax:(execOp a.eval o).run P w = .ok (.value (.slice (some ⟨w.heap.size,0,none⟩) m (grownCap w m 0 e))) (w.drew.alloc (.cells (Builtin.zeroCells z.cells m++Builtin.zeroCells z.cells (grownCap w m 0 e-m)) e)):=by
   unfold execOp;rw[ho];simp only[resolve,au,ak,a8,invoke,builtin,QpM,Sem.run_pure,QpI,List.map_toArray,QpR,List.map_nil,hv,hx,a6]
  unfold Oper.wp;rw[ax];refine hK _ _ ?_;have base:UW S w (Builtin.zeroCells z.cells m) z.cells.size (List.replicate m ei.zd):=
   UW.zero (by rw[aw,aj]) (Qeo hT am (by rw[aw,<- a5,a2]) a7) (Nat.le_refl _)
  rw[aj]at base;have bo:=grownCap_ge w m 0 e;have bj:grownCap w m 0 e<=maxLen:=grownCap_le_maxLen w m 0 e (by unfold maxLen;omega);have ao:(Builtin.zeroCells z.cells m).toList.length=m*esz:=by rw[Array.length_toList,size_zeroCells,aj]
  have a9:(w.drew.alloc (.cells (Builtin.zeroCells z.cells m++Builtin.zeroCells z.cells (grownCap w m 0 e-m)) e)).ownsRow w.heap.size e esz (.slice (some ⟨w.heap.size,0,none⟩) m (grownCap w m 0 e)) m (Builtin.zeroCells z.cells m).toList:=by
   refine⟨ao,.inr ⟨w.heap.size,_,_,rfl,Nat.le_refl _,heap_alloc_new w.drew _,bo,bj,?_,?_⟩⟩
   ·simp only[Array.size_append,size_zeroCells,aj,<- Nat.add_mul];congr 1;omega
   ·rw[Array.toList_append,<- ao];exact List.take_left
  have:=Ra (w':=w.drew.alloc (.cells (Builtin.zeroCells z.cells m++Builtin.zeroCells z.cells (grownCap w m 0 e-m)) e)) (base:=w.heap.size) (e:=e) (rows:=[]) (news:=List.replicate m ei.zd) (v:=.slice none 0 0) (xs:=[]) (vals:=(Builtin.zeroCells z.cells m).toList) (v':=.slice (some ⟨w.heap.size,0,none⟩) m (grownCap w m 0 e)) hR
   (λi j r x h1 h2=>by rw[QpY];exact base.2.2 i j r x h1 h2) (λi r h1=>base.2.1 i r h1) a3 bi none (λ_ h=>by cases h) (λb h=>by simp[Value.ownBlock]at h) (λi j r y h1=>by simp at h1) (λi r h1=>by simp at h1) Q2
   (by simpa using a9) ⟨rfl,rfl,rfl,by simp,λk hk _=>heap_alloc_old w.drew _ k hk⟩ (.inr λb hb=>by simp[Value.ownBlock]at hb;omega)
  exact this
theorem Qcb(hT:TOk P tt){t l:Nat}{lo hi:oP Operand}(ho:o.op = .slice t x lo hi none){u g:Bool}{aa:Nat}(bm:ev x = .arr l){k:Dl->oP R}{r:R}(h:Qj1 tt hl aa u t l (M4 ev lo) (M4 ev hi) k=some r):∃dl,k dl=some r/\(g=true->K6 P E o ev hl dl):=by
 obtain⟨bh,au,ax⟩:=Q3I ho;unfold Qj1 at h;split at h
 case h_2=>cases h
 rename_i e esz h0 hk ba bb;cases am:(u&&decide (h0=0))with
 |false=>simp_all
 |true=>
  simp only[am,QpJ]at h;simp only[QpE,decide_eq_true_eq]at am;obtain⟨_,rfl⟩:=am;split at h
  case h_2=>cases h
  rename_i e' s' rows ar;cases hb:(Nat.beq e e'&&Nat.beq esz s')with
  |false=>simp_all
  |true=>
   simp only[hb,QpJ]at h;simp only[QpE]at hb;obtain rfl:=QpD hb.1;obtain rfl:=QpD hb.2;obtain⟨hn,h⟩:=US h;refine⟨_,h,λ_=>?_⟩;intro β S st a w hR hO hA a7 K Q hK;obtain⟨ti,bl,bi⟩:=XC hk Q2;obtain⟨hu,bn,inf,a3,a9⟩:=(hT t ti bl).ksl _ _ bi;have aw:look st.h aa=none:=by rw[hA aa (.inr (by simp[wrL]))];exact hn
   have ac:look st.h l=some (.arr e esz rows):=by rw[hA l (.inl Q2)];exact ar
   have bg:Ut st aa=true:=by simp[Wm,aw]at a7;exact a7
   have hq:slB rows.length none (some 0)=some (0,0):=by simp[slB]
   have aj:∀(ad:oP Addr) (cap:Nat),rows.length<=cap->a.eval x = .slice ad rows.length cap->(execOp a.eval o).run P w = .ok (.value (.slice (if cap=0 then ad else ad.map (·.add (0*esz))) 0 cap)) w:=by
    intro ad cap hc hx;have hb:=MB (P:=P) true hc (ρ:=a.eval) (w:=w) hq (VL ba λy hy=>hO.at (au y hy)) (VL bb λy hy=>hO.at (ax y hy));unfold execOp;rw[ho];simp only[hx,QpM,Instr.sliceAt,X6 hu,QpI,Option.map_none];simp only[Instr.slice,QpM,X6 hu,QpI,hb,sizeOf,Yx a3,a9];rfl
   have ai:Src S w esz (.slice none 0 0) [] []:=⟨.inl ⟨rfl,rfl⟩,by simp,by simp,by simp,by simp⟩;have fin:∀(base:Nat) (v v':Value),(execOp a.eval o).run P w = .ok (.value v') w->w.ownsRow base e esz v' 0 []->(∀b,v.ownBlock=some b->β l=some b)->v'.ownBlock=v.ownBlock->o.wp P a w K Q:=by
    intro base v v' hr a4 a2 hat;unfold Oper.wp;rw[hr];refine hK _ _ ?_;exact Ra (rows:=[]) (news:=[]) (v:=v) (xs:=[]) (vals:=[]) hR ai.rd ai.row aw bg (some l) (λl' h=>by injection h with h;subst h;simp[ac]) (λb h=>⟨l,rfl,a2 b h⟩) (λi j r y h1=>by simp at h1) (λi r h1=>by simp at h1) Q2 a4 (World.grownBy.refl _ _) (.inl hat)
   rcases RdA.arr_inv ac (bm▸hO.at bh)with⟨_,bj,hv⟩|⟨b,cap,cs,ty,fz,an,hv,hw,az,ao,a5⟩
   ·subst bj;exact fin w.heap.size (.slice none 0 0) (.slice none 0 0) (aj none 0 (Nat.le_refl _) hv) (World.ownsRow_nil w w.heap.size e esz) (λb h=>by simp[Value.ownBlock]at h) rfl
   ·rcases hR.hr.ob l _ ac with⟨a6,_⟩|⟨b2,bk,ay,ak,bo,bv,b0⟩
    ·rw[an]at a6;cases a6
    obtain rfl:b=b2:=by rw[an]at ay;injection ay
    obtain rfl:cs=bk:=by rw[hw]at ak;injection ak with h1;injection h1
    refine fin 0 (.slice (some ⟨b,0,none⟩) rows.length cap) (.slice (some ⟨b,0,none⟩) 0 cap) ?_ ⟨by simp,.inr ⟨b,cap,cs,rfl,Nat.zero_le _,ak,Nat.zero_le _,a5,az,by simp⟩⟩ (λb3 h=>by simp[Value.ownBlock]at h;subst h;exact an) rfl;have:=aj (some ⟨b,0,none⟩) cap ao hv;have e0:(if cap=0 then some (⟨b,0,none⟩:Addr)else(some (⟨b,0,none⟩:Addr)).map (·.add (0*esz)))=some ⟨b,0,none⟩:=by
     split
     ·rfl
     ·simp[Addr.add]
    rw[e0]at this;exact this
theorem Qcc(hT:TOk P tt){c:Call}{t:Nat}(ho:o.op = .call c)(hc:c.callee = .builtin .len)(ha:c.args.toList=[x])(hat:c.argTypes.toList=[t]){n:Int}{rd:Y Nat}(h:QiN tt hl t (ev x)=some (n,rd)):K6 P E o ev hl ⟨.d (.int .i64 n),[],rd⟩:=by
 have ac:x∈o.op.operands.toList:=by grind[Op.operands,Call.operands]
 unfold QiN at h;split at h
 ·rename_i e esz hk;split at h
  ·rename_i s rows aa;cases h;refine QD λβ S st a w hR hO hA=>?_
   obtain⟨ad,cap,hx⟩:=(aa▸hO.at ac).d_inv.len;exact⟨_,T3 hT ho hc ha hat hk hx,.d _ _ (.int _ _)⟩
  ·rename_i aa;cases h;refine QD λβ S st a w hR hO hA=>?_
   have hx:=(aa▸hO.at ac).nil_inv;exact⟨_,T3 hT ho hc ha hat hk hx,.d _ _ (.int _ _)⟩
  ·rename_i l aa;split at h
   ·rename_i e' s rows ak;cases h;refine QD λβ S st a w hR hO hA=>?_
    have am:look st.h l=some (.arr e' s rows):=by rw[hA l (.inl Q2)];exact ak
    rcases RdA.arr_inv am (aa▸hO.at ac)with⟨_,rfl,hx⟩|⟨b,cap,cs,ty,fz,_,hx,_⟩
    ·exact⟨_,T3 hT ho hc ha hat hk hx,.d _ _ (.int _ _)⟩
    ·exact⟨_,T3 hT ho hc ha hat hk hx,.d _ _ (.int _ _)⟩
   ·cases h
  ·cases h
 ·rename_i hk;split at h
  ·rename_i s aa;cases h;refine QD λβ S st a w hR hO hA=>?_
   have hx:=(aa▸hO.at ac).d_inv;generalize hy:a.eval x=y at hx;cases hx with
   |str s'=>
    refine⟨_,Q5L hT ho hc ha hat hk hy,?_⟩;have:s'.data.toList.length=s'.size:=by rfl
    rw[this];exact .d _ _ (.int _ _)
  ·cases h
 ·cases h
theorem Q1e{ρ:Operand->Value}{ev:Operand->AV}{β:Nat->oP Nat}{S:Nat->Prop}{h:Nat->oP Ob}{w:World}{tm:Nat->Value}(isMin:Bool) :
  ∀(r:Y Operand) (av v:AV) (u:Value),RdA β S h w tm u av->(∀x∈r,RdA β S h w tm (ρ x) (ev x))->Bq isMin av (r.map ev)=some v ->
   ∃u',((r.map ρ).foldlM (if isMin then Builtin.min2 else Builtin.max2) u:Sem Value).run P w = .ok u' w/\RdA β S h w tm u' v
 |[],av,v,u,hu,_,hm=>by
  simp_all [Bq]
 |x::r,av,v,u,hu,hr,hm=>by
  unfold Bq at hm;split at hm
  ·simp_all
  ·rename_i k a k' b r' ac;injection ac with h1 h2
   cases hk:(k == k')with
   |false=>simp_all
   |true=>
    simp only[hk,QpJ]at hm;have ai:=(h1▸hr x Q2).int_inv;have aj:=hu.int_inv;subst h2;obtain⟨u',g1,g2⟩:=Q1e isMin r _ v (.int k (bif isMin then(if b<a then b else a)else(if a<b then b else a))) (.d _ _ (.int _ _)) (λy hy=>hr y (by simp[hy])) hm;refine⟨u',?_,g2⟩;simp only[QpR,List.foldlM_cons,QpM,aj,ai];cases isMin with
    |true=>assumption
    |false=>assumption
  ·cases hm
theorem AU{c:Call}{r:Y Operand}{isMin:Bool}(ho:o.op = .call c)(hc:c.callee = .builtin (if isMin then .min else .max))(ha:c.args.toList=x::r){v:AV}(h:Bq isMin (ev x) (r.map ev)=some v):K6 P E o ev hl ⟨v,[],[]⟩:=by
 have aa:∀y,y∈c.args.toList->y∈o.op.operands.toList:=by
  grind[Op.operands,Call.operands]
 refine QD λβ S st a w hR hO hA=>?_
 obtain⟨u,g1,g2⟩:=Q1e (P:=P) (ρ:=a.eval) isMin r (ev x) v (a.eval x) (hO.at (aa x (by simp[ha]))) (λy hy=>hO.at (aa y (by simp[ha,hy]))) h;refine⟨u,?_,g2⟩;have ac:(c.args.map a.eval).toList=a.eval x::r.map a.eval:=by simp_all
 unfold execOp;rw[ho];cases isMin with
 |true=>
  simp_all [if_true,resolve,invoke,builtin,Builtin.min_,QpM,Sem.run_pure,QpI]
 |false=>
  simp only[Bool.false_eq_true,if_false]at hc g1;simp only[resolve,hc,invoke,builtin,Builtin.max_,QpM,Sem.run_pure,QpI,ac,g1]
theorem Q1O{f:Nat}{first aa:Array Operand}(ho:o.op = .makeFunc (.func f) first aa)(hf:first.toList=[]):K6 P E o ev hl ⟨.fn f (aa.toList.map ev),[],[]⟩:=by
 refine QD λβ S st a w hR hO hA=>⟨.func (.func f) #[] (aa.map a.eval),?_,.fn f _ _ Q2 λi x hx=>?_⟩
 ·simp_all [Array.ext',execOp,Instr.makeFunc]
 ·simp only[List.getElem?_map,QpF]at hx;obtain⟨y,hy,rfl⟩:=hx;have ac:y∈o.op.operands.toList:=by
   grind[List.mem_of_getElem?,Op.operands]
  have hg:(aa.map a.eval).getD i undef=a.eval y:=by
   simp_all
  rw[hg];exact hO.at ac
theorem En{spec:Q5R}(hS:BP P spec)(hT:TOk P tt){aw:Nat}{g u:Bool}{k:Dl->oP R}{r:R}(h:vdl spec tt aw g u ev hl o.op k=some r):∃dl,k dl=some r/\(g=true->K6 P E o ev hl dl):=by
 cases ho:o.op with
 |move x=>grind[vdl,Q4e]
 |assign x=>rw[ho]at h;simp only[vdl]at h;exact⟨_,h,λ_=>Q4e (.inr ho)⟩
 |pick c x y=>
  rw[ho]at h;simp only[vdl]at h
  grind[Q8T]
 |alloc t=>
  rw[ho]at h;simp only[vdl]at h;split at h
  ·rename_i ti ak;cases u with
   |false=>simp at h
   |true=>
    simp only[QpJ]at h;split at h
    ·rename_i e esz n hk;cases hb:Nat.beq ti.zd.length (n*esz)with
     |false=>simp_all
     |true=>
      simp only[hb,QpJ]at h;obtain⟨hn,h⟩:=US h
      grind[Q5y,Nat.eq_of_beq_eq_true]
    ·obtain⟨hn,h⟩:=US h;exact⟨_,h,λ_=>Q8y hT ho ak hn⟩
  ·cases h
 |box t x=>
  rw[ho]at h;simp only[vdl]at h;split at h
  ·rename_i ti ak;cases hc:(u&&(Nat.beq (Y1 (ev x)).length ti.size&&(Y1 (ev x)).all Q3h))with
   |false=>simp[hc]at h
   |true=>
    simp only[hc,QpJ]at h;simp only[QpE]at hc;obtain⟨hn,h⟩:=US h;exact⟨_,h,λ_=>QbA ho hc.2.2 hn⟩
  ·cases h
 |build t ao=>
  rw[ho]at h;simp only[vdl]at h;split at h
  ·rename_i ti ak;cases hs:UV ti.kd with
   |false=>simp[hs]at h
   |true=>
    simp only[hs,QpJ]at h;split at h
    ·rename_i cs a3;exact⟨_,h,λ_=>Q8g hT ho ak hs a3⟩
    ·cases h
  ·cases h
 |buildSlice t len ao=>
  rw[ho]at h;simp only[vdl]at h;obtain⟨dl,h1,h2⟩:=Q5F hT ho h;exact⟨dl,h1,λ_=>h2⟩
 |load t x=>rw[ho]at h;simp only[vdl]at h;exact Q96 hT ho h
 |store t x y=>
  rw[ho]at h;simp only[vdl]at h;cases u with
  |false=>simp at h
  |true=>
   simp only[QpJ]at h;split at h
   ·rename_i e esz n l hk ai;obtain⟨dl,h1,h2⟩:=Q5G hT ho hk ai h;exact⟨dl,h1,λ_=>h2⟩
   ·obtain⟨dl,h1,h2⟩:=Q8a hT ho h;exact⟨dl,h1,λ_=>h2⟩
 |nilCheck x=>
  rw[ho]at h;simp only[vdl]at h;split at h
  ·rename_i l o' hv;exact⟨_,h,λ_=>EN ho hv⟩
  ·rename_i l o' hv;exact⟨_,h,λ_=>Cv ho hv⟩
  ·rename_i l i o' hv;split at h
   ·rename_i ob a2;exact⟨_,h,λ_=>CP ho (by simp[a2]) hv⟩
   ·cases h
  ·cases h
 |binOp op t x y t'=>rw[ho]at h;simp only[vdl]at h;exact QbD hT ho h
 |unOp op t x=>
  rw[ho]at h;simp only[vdl]at h;split at h
  ·rename_i v hv;exact⟨_,h,λ_=>Qf4 ho hv⟩
  ·cases h
 |convert s t x=>
  rw[ho]at h;simp only[vdl]at h;split at h
  ·rename_i ks kd h1 h2;split at h
   ·rename_i kn n h3;exact⟨_,h,λ_=>Q5a hT ho h1 h2 h3⟩
   ·cases h
  ·rename_i e h1 h2;split at h
   ·rename_i h3;split at h
    ·rename_i rows rd h4;exact Q7V hT ho h1 h2 h3 h4 h
    ·cases h
   ·cases h
  ·rename_i h1 h2;split at h
   ·rename_i n h3;exact⟨_,h,λ_=>Q2O hT ho h1 h2 h3⟩
   ·cases h
  ·rename_i e h1 h2;split at h
   ·rename_i h3;split at h
    ·rename_i n h4;exact⟨_,h,λ_=>Q1S hT ho h1 h2 h3 h4⟩
    ·cases h
   ·cases h
  ·cases h
 |lookup t m x c=>
  rw[ho]at h;cases c with
  |true=>simp[vdl]at h
  |false=>
   simp only[vdl]at h;split at h
   ·rename_i f n ht hm hx;exact⟨_,h,λ_=>Q6i hT ho ht hm hx⟩
   ·rename_i l n ht hm hx;split at h
    ·rename_i t' f am;exact⟨_,h,λ_=>Q57 hT ho ht hm hx am⟩
    ·cases h
   ·cases h
 |makeMap t q=>
  rw[ho]at h;cases q with
  |some q=>simp[vdl]at h
  |none=>
   simp only[vdl]at h;split at h
   ·cases u with
    |false=>simp at h
    |true=>
     simp only[QpJ]at h;obtain⟨hn,h⟩:=US h;exact⟨_,h,λ_=>Q4y ho hn⟩
   ·cases h
 |mapUpdate t m x v=>
  rw[ho]at h;simp only[vdl]at h;split at h
  ·rename_i l n b ht hm hx hv;split at h
   ·rename_i t' f am;cases u with
    |false=>simp at h
    |true=>
     simp only[QpJ]at h;exact⟨_,h,λ_=>Q0S hT ho ht hm hx hv am⟩
   ·cases h
  ·cases h
 |makeFunc f first ac=>
  rw[ho]at h;cases f with
  |func f=>
   simp only[vdl]at h;split at h
   ·rename_i aj;cases hc:Jo (ac.toList.map ev)with
    |false=>simp[hc]at h
    |true=>
     simp only[hc,QpJ]at h;exact⟨_,h,λ_=>Q1O ho aj⟩
   ·cases h
  |_=>simp[vdl]at h
 |makeSlice t l c=>
  rw[ho]at h;simp only[vdl]at h;obtain⟨dl,h1,h2⟩:=Qai hT ho h;exact⟨dl,h1,λ_=>h2⟩
 |fieldAddr t x f=>
  rw[ho]at h;simp only[vdl]at h;obtain⟨dl,h1,h2⟩:=Q0o hT ho h;exact⟨dl,h1,λ_=>h2⟩
 |field t x f=>rw[ho]at h;simp only[vdl]at h;exact Q8d hT ho h
 |indexAddr t x i=>
  rw[ho]at h;simp only[vdl]at h;split at h
  ·rename_i e esz n l hk ai;exact BU hT ho hk ai h
  ·exact Q0q hT ho h
 |index t x i=>rw[ho]at h;simp only[vdl]at h;exact Q8x hT ho h
 |slice t x lo hi mx=>
  rw[ho]at h;cases mx with
  |none=>
   simp only[vdl]at h;split at h
   ·rename_i l ai;exact Qcb hT ho ai h
   ·exact Q8w hT ho h
  |some mx=>simp only[vdl]at h;exact Q6a hT ho h
 |extract x i=>
  rw[ho]at h;simp only[vdl]at h;split at h
  ·rename_i l hx;split at h
   ·rename_i v hv;exact⟨_,h,λ_=>Q4b ho hx hv⟩
   ·cases h
  ·cases h
 |call c=>
  rw[ho]at h;simp only[vdl]at h;split at h
  ·rename_i f hc;exact Q4u hS (Q7N ho hc) h
  ·rename_i t hc;split at h
   ·rename_i f cap ar;exact Q4u hS (Q8t ho hc ar) h
   ·cases h
  ·rename_i hc;split at h
   ·rename_i x t ha hat;split at h
    ·rename_i n rd hn;exact⟨_,h,λ_=>Qcc hT ho hc ha hat hn⟩
    ·cases h
   ·cases h
  ·rename_i hc;split at h
   ·rename_i x t ha hat;split at h
    ·rename_i e esz hk ar;refine⟨_,h,λ_=>QD λβ S st a w hR hO hA=>?_⟩;have an:c.args = #[x]:=by rw[<- Array.toList_inj];simpa using ha
     have ay:x∈o.op.operands.toList:=by simp[ho,Op.operands,Call.operands,hc,an]
     exact⟨_,Q5V hT ho hc ha hat hk (ar▸hO.at ay).nil_inv,.d _ _ (.int _ _)⟩
    ·cases h
   ·cases h
  ·rename_i hc;split at h
   ·rename_i s x t t' ha hat;cases hb:Nat.beq t t' with
    |false=>simp only[hb,QpU]at h;exact Q3E hT ho hc ha hat h
    |true=>
     simp only[hb,QpJ]at h;obtain rfl:=QpD hb;exact Q67 hT ho hc ha hat h
   ·cases h
  ·rename_i hc;split at h
   ·rename_i x r' ha;split at h
    ·rename_i v hv;exact⟨_,h,λ_=>AU (isMin:=true) ho hc ha hv⟩
    ·cases h
   ·cases h
  ·rename_i hc;split at h
   ·rename_i x r' ha;split at h
    ·rename_i v hv;exact⟨_,h,λ_=>AU (isMin:=false) ho hc ha hv⟩
    ·cases h
   ·cases h
  ·cases h
 |_=>rw[ho]at h;simp[vdl]at h
end
end Go.Vx
namespace Go.Vx
variable{hl:Nat->oP Ob} {β:Nat->oP Nat} {S:Nat->Prop} {o:Oper} {st:St} {a:Act}
section
variable{P:Program} {E:Env} {R:Type}
theorem Qdy{d t:Nat}{tm:Y (Nat×AV)}{av:AV}(h:look tm t=some av)(hn:QaJ d tm=false):gds d av=false:=by
 induction tm with
 |nil=>trivial
 |cons x r ih=>
  grind[QaJ,Bool.or_eq_false_iff,look,Nat.beq]
theorem Ak{d:Nat}{v:Value}(hd:d<a.tmps.size)(t:Nat):tmv (a.put (some d) v) t=if t=d then v else tmv a t:=by
 unfold tmv Act.put;by_cases h:t<a.tmps.size
 ·by_cases e:t=d
  all_goals simp_all [QpW,Ne.symm]
 grind
theorem Bu{w':World}{dl:Dl}{v:Value}{dst:oP Nat}(ho:Q3z st dl.v dst=true)(h:Out E st a dl v w'):JB E (put st dst dl) (a.put dst v) w':=by
 obtain⟨β,S,hR,hv⟩:=h;cases dst with
 |none=>exact⟨β,S,hR.n,hR.dfr,hR.tm,hR.hr⟩
 |some d=>
  simp only[Q3z,QpE,QpL]at ho;obtain⟨h1,h2,h3⟩:=ho;have hd:d<a.tmps.size:=by have:=Qq0 h1;have:=hR.n;grind
  refine⟨β,S,?_,hR.dfr,λt av ht=>?_,hR.hr⟩
  ·show(a.tmps.setIfInBounds d v).size=st.n;simpa using hR.n
  ·simp only[put,Xd]at ht;have ac:∀(u:Value) (av:AV),gds d av=false->RdA β S (look (MD st.h dl.wr)) w' (tmv a) u av->RdA β S (look (put st (some d) dl).h) w' (tmv (a.put (some d) v)) u av:=by
    intro u av hg hr;refine hr.mono (λ_ h=>h) (λ_ _=>rfl) (λ_ _=>Keep.rfl_ ..) (λt' ai=>?_);rw[Ak hd,QpW (λe=>by simp_all)]
   rw[Ak hd];by_cases e:t=d
   ·simp_all
   ·rw[QpW e]at ht ⊢;exact ac _ _ (Qdy ht h3) (hR.tm t av ht)
theorem Q4V{w:World}(hR:Rel E β S st a w)(x:Operand):RdA β S (look st.h) w (tmv a) (a.eval x) (evO st.tm x):=by
 cases x with
 |tmp t=>
  simp only[evO,lkT];cases h:look st.tm t with
  |none=>exact .top _
  |some av=>exact hR.tm t av h
 |const v=>exact Af v
 |global g=>exact .top _
 |func f=>exact .fn f #[] [] rfl (λi x h=>by simp at h)
theorem R2{tm:Y (Nat×AV)}{s:Nat}{av:AV}(h:lkT tm s=av)(hn:av≠.top):look tm s=some av:=by
 unfold lkT at h;cases hl:look tm s with
 |none=>simp_all
 |some b=>simp_all
theorem QaK{e w:Bool}:bw e w=true↔e=w:=by cases e<;>cases w<;>simp[bw]
theorem Q3t{β:Nat->oP Nat}{S:Nat->Prop}{st:St}{a:Act}{w:World}(hR:Rel E β S st a w):∀(f s:Nat) (b g:Bool) (ch:Y (Nat×Bool)),ctx st.tm f s b=some (g,ch) ->
  (g=true↔tmv a s = .bool b)/\(g=true->∀p∈ch,tmv a p.1 = .bool p.2)
 |0,s,b,g,ch,h=>by trivial
 |f+1,s,b,g,ch,h=>by
  unfold ctx at h;split at h
  ·rename_i e he;have hv:=(hR.tm s _ (R2 he Q2)).bool_inv
   grind[bw,tmv,bool,QaK]
  ·rename_i s' w' e he;split at h
   ·rename_i g' l hc;obtain⟨h1,h2⟩:=Q3t hR f s' w' g' l hc;have hv:=(hR.tm s _ (R2 he Q2)).gd_inv;have h3:(g'=true/\bw e b=true)↔tmv a s = .bool b:=by
     rcases hv with⟨h4,h5⟩|⟨h4,h5⟩
     ·rw[h5.bool_inv,QaK,h1];simp[h4]
     ·rw[h5,h1];constructor
      ·simp_all
      ·intro h;cases h
    grind
   ·cases h
  ·cases h
theorem Q4A{tm tm':Y (Nat×AV)}:∀(f s:Nat) (b g:Bool) (ch:Y (Nat×Bool)),ctx tm f s b=some (g,ch)->(∀p∈ch,lkT tm' p.1=lkT tm p.1)->ctx tm' f s b=some (g,ch)
 |0,s,b,g,ch,h,_=>by assumption
 |f+1,s,b,g,ch,h,hc=>by
  have hs:(s,b)∈ch:=by
   grind[ctx]
  have hl:=hc (s,b) hs;unfold ctx at h ⊢;split at h
  ·simp_all
  ·rename_i s' w' e he;split at h
   ·rename_i g' l aa;obtain⟨rfl,rfl⟩:=h;have:=Q4A f s' w' g' l aa (λp hp=>hc p (by simp[hp]))
    simp_all
   ·cases h
  ·cases h
theorem Q78{s:Nat}{b:Bool}:∀{l:Y (Nat×Bool)},QeH l s b=true->(s,b)∈l
 |(x,y)::r,h=>by
  simp only[QeH,QpS,QpE]at h;rcases h with⟨h1,h2⟩ | h
  ·simp_all
  ·simp[Q78 h]
theorem Qgg{h:Nat->oP Ob}{w:World}{tm:Nat->Value}{v:Value}{av:AV}{ch:Y (Nat×Bool)}(hc:∀p∈ch,tm p.1 = .bool p.2)(hv:RdA β S h w tm v av):RdA β S h w tm v (unw ch av):=by
 cases av with
 |gd s b av=>
  simp only[unw];cases hg:QeH ch s b with
  |false=>simp_all
  |true=>
   rcases hv.gd_inv with⟨_,h⟩|⟨h,_⟩
   ·exact h
   ·exact absurd (hc _ (Q78 hg)) h
 |_=>exact hv
theorem Q9A{l:Nat}{ch:Y (Nat×Bool)}{av:AV}(h:Yq l av=false):Yq l (unw ch av)=false:=by
 cases av with
 |gd s b av=>
  grind[unw,QeH,Yq]
 |_=>exact h
def DU(P:Program)(E:Env)(ops:Array Oper)(i:Nat)(rc:Rec)(lk:Nat->AV)(hl:Nat->oP Ob):Prop:=
 ∀st a w,JB E st a w->(∀t,t∈rc.rt->lkT st.tm t=lk t)->(∀l,l∈rc.dl.rd\/l∈wrL rc.dl->look st.h l=hl l)->Q3z st rc.dl.v rc.dst=true->Wm st rc.dl.wr=true ->
  ∀Q:Exit->Act->World->Prop,wpOp P ops Q i (λa' w'=>JB E (put st rc.dst rc.dl) a' w') a w
def Q4s(st:St)(rc:Rec):Prop:=Q3z st rc.dl.v rc.dst=true/\Wm st rc.dl.wr=true
theorem Q13{t:Nat}:∀{l:Y Operand},Operand.tmp t∈l->t∈PY l
 |x::r,h=>by
  rcases QpK.1 h with rfl | h
  ·simp[PY]
  ·have:=Q13 h;cases x<;>simp[PY,this]
theorem Q2r{tm tm':Y (Nat×AV)}{ch:Y Nat}(h:∀t,t∈PY o.op.operands.toList++ch->lkT tm' t=lkT tm t){x:Operand}(hx:x∈o.op.operands.toList):evO tm' x=evO tm x:=by
 cases x with
 |tmp t=>exact h t (by simp[Q13 hx])
 |_=>rfl
theorem Q0Z{ops:Array Oper}{i:Nat}(hi:ops[i]? = some o)(hg:o.guard=none){tm:Y (Nat×AV)}{dl:Dl}(aa:K6 P E o (evO tm) hl dl) :
  DU P E ops i ⟨PY o.op.operands.toList++[],o.dst,dl⟩ (lkT tm) hl:=by
 intro st a w ⟨β,S,hR⟩ hlk hA hd hcw Q;unfold wpOp;simp only[hi,Region.wanted,hg,if_true];left;refine aa β S st a w hR (λx hx=>?_) hA hcw _ _ λv w' ac=>Bu hd ac
 rw[<- Q2r hlk hx]
 grind[Q4V,Q1y]
theorem LP{ops:Array Oper}{j s:Nat}{b:Bool}(hs:(ops[j]?).bind (·.dst)=some s):(yielded ops a.tmps j == some b)=true↔tmv a s = .bool b:=by
 unfold yielded tmv;rw[hs];simp only[Option.bind_some,Array.getD];by_cases h:s<a.tmps.size
 ·simp only[h,dite_true,QpQ h];cases hv:a.tmps[s]<;>simp[hv]
 ·simp only[h,dite_false];constructor
  ·simp_all
  ·intro h;cases h
theorem Qf3{R:Type}{c:Bool}{x:oP R}{r:R}(h:(bif c then x else none)=some r):c=true/\x=some r:=by
 grind
theorem Qi8{g:Bool}{x y z:D}(h:jD g x y=some z):z=bif g then x else y:=by
 unfold jD at h
 grind[Nat.eq_of_beq_eq_true]
theorem QiT{g:Bool}{x y z:AV}(h:jA g x y=some z):z=bif g then x else y:=by
 unfold jA at h;split at h
 ·grind[Qi8]
 ·simp_all
 ·replace h:=Qf3 h
  obtain⟨hk,h⟩:=h
  simp_all
 ·cases h
theorem Qea{g:Bool}:∀{x y z:Y AV},jL g x y=some z->z=bif g then x else y
 |[],[],z,h=>by simp only[jL,Option.some.injEq]at h;subst h;cases g<;>rfl
 |[],_::_,z,h=>by simp[jL]at h
 |_::_,[],z,h=>by simp[jL]at h
 |a::r,b::s,z,h=>by
  simp only[jL]at h;split at h
  ·rename_i c hc;split at h
   ·rename_i t ht;injection h with h
    subst h;rw[QiT hc,Qea ht];cases g<;>rfl
   ·cases h
  ·cases h
theorem Q1F{hl:Nat->oP Ob}:∀{wr aa:Y (Nat×oP Ob)},jW true hl wr=some aa->aa=wr
 |[],_,h=>by simp only[jW,Option.some.injEq]at h;exact h.symm
 |(l,some (.box new))::r,aa,h=>by
  simp only[jW]at h;split at h
  ·split at h
   ·rename_i c hc;split at h
    ·rename_i t ht;injection h with h
     subst h;rw[Qea hc,Q1F ht];rfl
    ·cases h
   ·cases h
  ·cases h
 |(l,some (.arr e s rows))::r,aa,h=>by
  simp only[jW]at h;split at h
  ·split at h
   ·rename_i t ht;injection h with h
    subst h;rw[Q1F ht];rfl
   ·cases h
  ·cases h
 |(l,none)::r,aa,h=>by
  simp only[jW]at h;split at h
  ·rename_i t ht;injection h with h
   subst h;rw[Q1F ht]
  ·cases h
def Qir(hl:Nat->oP Ob)(l:Nat)(o:oP Ob):Prop:=o=hl l\/o=none\/(hl l=none/\∃e s,o=some (.arr e s []))
theorem Bl{hl:Nat->oP Ob}:∀{wr aa:Y (Nat×oP Ob)},jW false hl wr=some aa->∀p,p∈aa->Qir hl p.1 p.2
 |[],_,h,p,hp=>by simp only[jW,Option.some.injEq]at h;subst h;cases hp
 |(l,some (.box new))::r,aa,h,p,hp=>by
  simp only[jW]at h;split at h
  ·rename_i old ho;split at h
   ·rename_i c hc;split at h
    ·rename_i t ht;injection h with h
     subst h;rcases QpK.1 hp with rfl | hp
     ·rw[Qea hc];exact .inl ho.symm
     ·exact Bl ht p hp
    ·cases h
   ·cases h
  ·cases h
 |(l,some (.arr e s rows))::r,aa,h,p,hp=>by
  simp only[jW]at h;split at h
  ·rename_i hn;split at h
   ·rename_i t ht;injection h with h
    subst h;rcases QpK.1 hp with rfl | hp
    ·exact .inr (.inr ⟨hn,e,s,rfl⟩)
    ·exact Bl ht p hp
   ·cases h
  ·cases h
 |(l,none)::r,aa,h,p,hp=>by
  simp only[jW]at h;split at h
  ·rename_i t ht;injection h with h
   subst h;rcases QpK.1 hp with rfl | hp
   ·exact .inr (.inl rfl)
   ·exact Bl ht p hp
  ·cases h
theorem Q1h{Q:Nat->oP Ob->Prop}:∀{wr:Y (Nat×oP Ob)} {f:Nat->oP Ob} {l:Nat},(∀p,p∈wr->Q p.1 p.2)->l∈wr.map (·.1)->Q l (KS f wr l)
 |(k,o)::r,f,l,h,hl=>by
  by_cases hr:l∈r.map (·.1)
  ·exact Q1h (wr:=r) (λp hp=>h p (by simp[hp])) hr
  simp_all [KS,UM]
theorem Q4Q{st:St}{l:Nat}{o:Ob}:∀{wr:Y (Nat×oP Ob)},Wm st wr=true->(l,some o)∈wr->look st.h l=none->Ut st l=true
 |(k,o')::r,h,hm,hn=>by
  simp only[Wm,QpE]at h;rcases QpK.1 hm with he | hm
  ·injection he with h1 h2
   subst h1 h2;have:=h.1;rw[hn]at this;exact this
  ·exact Q4Q h.2 hm hn
theorem E4:∀{wr:Y (Nat×oP Ob)} {f:Nat->oP Ob} {l:Nat} {o:Ob},l∈wr.map (·.1)->KS f wr l=some o->(l,some o)∈wr
 |(k,o')::r,f,l,o,hl,h=>by
  by_cases hr:l∈r.map (·.1)
  ·exact List.mem_cons_of_mem _ (E4 (wr:=r) hr h)
  simp_all [KS,UM]
theorem Qck{w:World}(hR:Rel E β S st a w){wr:Y (Nat×oP Ob)}(hw:∀p,p∈wr->Qir (look st.h) p.1 p.2)(hc:Wm st wr=true) :
  ∃β',Rel E β' S ⟨st.n,st.tm,MD st.h wr⟩ a w:=by
 have ac:look (MD st.h wr)=KS (look st.h) wr:=Hi wr st.h;have ai:∀l,KS (look st.h) wr l=look st.h l\/(KS (look st.h) wr l=none/\l∈wr.map (·.1))\/(look st.h l=none/\l∈wr.map (·.1)/\∃e s,KS (look st.h) wr l=some (.arr e s [])):=by
  intro l;by_cases hl:l∈wr.map (·.1)
  ·rcases Q1h (f:=look st.h) hw hl with h | h | ⟨h1,h2⟩
   all_goals grind
  grind[UM]
 let β':Nat->oP Nat:=λl=>if look st.h l=none/\(KS (look st.h) wr l).isSome=true then none else β l
 have hβ:∀l,(KS (look st.h) wr l=look st.h l)->β' l=β l:=by
  grind
 have aa:∀l b,(look (MD st.h wr) l).isSome=true->β' l=some b->(look st.h l).isSome=true/\β l=some b:=by
  intro l b h1 h2;rw[ac]at h1
  grind
 refine⟨β',hR.upd (H':=MD st.h wr) (w':=w) (S':=S) (β':=β') (λ_ h=>h) (λ_ _=>rfl) (λl=>¬ KS (look st.h) wr l=look st.h l) (λl hl=>?_) (λl hl=>?_) (λl o hl ho=>?_) ?_ ?_ ?_ hR.hr.sb hR.hr.sfr hR.hr.fr⟩
 ·simp_all
 ·rcases ai l with h | ⟨h,hm⟩|⟨h1,hm,e,s,h2⟩
  ·simp_all
  ·left;refine⟨?_,λ_=>by simp_all,λe s rows _=>.inl (by rw[ac];exact h),λb cs ty fz hs=>(by rw[ac,h]at hs;cases hs),λ_ _ _=>.inl (by rw[ac];exact h)⟩
   grind
  grind[Q4Q,E4]
 ·rcases ai l with h | ⟨h,hm⟩|⟨h1,hm,e,s,h2⟩
  ·exact absurd h hl
  ·rw[ac,h]at ho;cases ho
  ·rw[ac,h2]at ho;injection ho with ho
   subst ho;refine .inl ⟨?_,rfl⟩;show(if look st.h l=none/\(KS (look st.h) wr l).isSome=true then none else β l)=none;rw[if_pos ⟨h1,by rw[h2];rfl⟩]
 ·intro l l' b h1 h2 h3 h4;obtain⟨a1,a2⟩:=aa l b h1 h3;obtain⟨b1,b2⟩:=aa l' b h2 h4;exact hR.hr.inj l l' b a1 b1 a2 b2
 ·intro l b h1 h2;obtain⟨a1,a2⟩:=aa l b h1 h2;exact hR.hr.apart l b a1 a2
 ·intro l b h1 h2;obtain⟨a1,a2⟩:=aa l b h1 h2;exact hR.hr.own l b a1 a2
theorem Q3o{ops:Array Oper}{i j s:Nat}{b:Bool}(hi:ops[i]? = some o)(hg:o.guard=some (j,b))(hs:(ops[j]?).bind (·.dst)=some s){tm:Y (Nat×AV)}{g:Bool}{ch:Y (Nat×Bool)}(ak:ctx tm 40 s b=some (g,ch)){dl:Dl}{wr:Y (Nat×oP Ob)}(hw:jW g hl dl.wr=some wr)(ac:g=true->K6 P E o (λx=>unw ch (evO tm x)) hl dl) :
  DU P E ops i ⟨PY o.op.operands.toList++ch.map (·.1),o.dst,⟨.gd s b dl.v,wr,dl.rd⟩⟩ (lkT tm) hl:=by
 intro st a w ⟨β,S,hR⟩ hlk hA hd hcw Q;have aj:=Q4A 40 s b g ch ak (tm':=st.tm) (λp hp=>hlk p.1 (by grind));obtain⟨h1,h2⟩:=Q3t hR 40 s b g ch aj;have hy:=LP (a:=a) (b:=b) hs;unfold wpOp;simp only[hi,Region.wanted,hg];cases g with
 |true=>
  have aa:=h1.1 rfl;rw[if_pos (hy.2 aa)];left;obtain rfl:=Q1F hw;refine ac rfl β S st a w hR (λx hx=>?_) (λl h=>hA l h) hcw _ _ λv w' am=>?_
  ·have he:=Q2r hlk hx;show RdA _ _ _ _ _ _ (unw ch (evO tm x))/\∀l,Ut st l=true->Yq l (unw ch (evO tm x))=false;rw[<- he];exact⟨Qgg (h2 rfl) (Q4V hR x),λl hc=>Q9A (Q1y hc x)⟩
  ·refine Bu hd ?_;obtain⟨β',S',ai,hv⟩:=am;exact⟨β',S',ai,.gdT _ _ _ _ aa hv⟩
 |false=>
  have aa:¬ tmv a s = .bool b:=λh=>by simp_all
  rw[QpW (λh=>aa (hy.1 h))];obtain⟨β',ai⟩:=Qck hR (wr:=wr) (λp hp=>by
   have:=Bl hw p hp;have he:look st.h p.1=hl p.1:=hA p.1 (.inr (QpX.2 ⟨p,hp,rfl⟩))
   grind[Qir]) hcw
  exact Bu hd ⟨β',S,ai,.gdF _ _ _ aa⟩
theorem NE{ch:Y Nat}{dl:Dl}{k:St->Rec->oP R}{r:R}(h:Qdw st o ch dl k=some r) :
  Q4s st ⟨PY o.op.operands.toList++ch,o.dst,dl⟩/\k (put st o.dst dl) ⟨PY o.op.operands.toList++ch,o.dst,dl⟩=some r:=by
 unfold Qdw at h;cases hc:(Q3z st dl.v o.dst&&Wm st dl.wr)with
 |false=>simp_all
 |true=>
  simp only[hc,QpJ]at h;simp only[QpE]at hc;trivial
theorem Q60{spec:Q5R}{tt:TT}(hS:BP P spec)(hT:TOk P tt){ops:Array Oper}{i:Nat}(hi:ops[i]? = some o){k:St->Rec->oP R}{r:R}(h:Qez spec tt ops o st k=some r) :
  ∃rc,k (put st rc.dst rc.dl) rc=some r/\rc.dst=o.dst/\Q4s st rc/\DU P E ops i rc (lkT st.tm) (look st.h):=by
 unfold Qez at h;split at h
 ·rename_i hg;obtain⟨dl,h,aa⟩:=En (E:=E) hS hT h;obtain⟨hs,hk⟩:=NE h;exact⟨_,hk,rfl,hs,Q0Z hi hg (aa rfl)⟩
 ·rename_i j b hg;split at h
  ·rename_i s hs;split at h
   ·rename_i g ch ai;obtain⟨dl,h,aa⟩:=En (E:=E) hS hT h;split at h
    ·rename_i wr hw;obtain⟨aj,hk⟩:=NE h;exact⟨_,hk,rfl,aj,Q3o hi hg hs ai hw aa⟩
    ·cases h
   ·cases h
  ·cases h
def AP(P:Program)(E:Env)(ops:Array Oper):Nat->St->Y Rec->St->Prop
 |_,st,[],st'=>st'=st
 |i,st,rc::rs,st'=>(∃o,ops[i]? = some o/\rc.dst=o.dst)/\Q4s st rc/\DU P E ops i rc (lkT st.tm) (look st.h)/\AP P E ops (i+1) (put st rc.dst rc.dl) rs st'
theorem Q1o{spec:Q5R}{tt:TT}(hS:BP P spec)(hT:TOk P tt){ops:Array Oper}{R:Type}:∀(l:Y Oper) (i:Nat) (st:St) (acc:Y Rec) (k:St->Y Rec->oP R) (r:R),(∀j,l[j]? = ops[i+j]?) ->
  QhP spec tt ops l st acc k=some r->∃recs st',recs.length=l.length/\k st' (acc++recs)=some r/\AP P E ops i st recs st'
 |[],i,st,acc,k,r,_,h=>⟨[],st,rfl,by grind[QhP],rfl⟩
 |o::l,i,st,acc,k,r,hl,h=>by
  have h0:ops[i]? = some o:=by simpa using (hl 0).symm
  obtain⟨rc,h,hd,hs,aa⟩:=Q60 (E:=E) hS hT h0 h;obtain⟨recs,st',h1,h2,h3⟩:=Q1o hS hT l (i+1) _ _ k r (λj=>by have:=hl (j+1);grind) h;exact⟨rc::recs,st',by simp[h1],by simp_all,⟨o,h0,hd⟩,hs,aa,h3⟩
theorem A4{s:Nat}{b:Bool}:∀{tm:Y (Nat×AV)},lkT tm s = .d (.bool b)->Q47 s b tm=tm
 |[],h=>by simp[lkT,look]at h
 |(t,a)::r,h=>by
  simp only[Q47];cases ht:Nat.beq t s with
  |true=>
   simp only[lkT,look,ht,QpJ,Option.getD_some]at h;rw[QpJ,h]
  |false=>
   simp only[lkT,look,ht,QpU]at h;rw[QpU,A4 (tm:=r) h]
theorem Q5x{ops:Array Oper}{i j s:Nat}{b:Bool}(hi:ops[i]? = some o)(hg:o.guard=some (j,b))(hs:(ops[j]?).bind (·.dst)=some s){tm:Y (Nat×AV)}(ac:lkT tm s = .d (.bool b)){dl:Dl}(aa:K6 P E o (evO tm) hl dl) :
  DU P E ops i ⟨PY o.op.operands.toList++[s],o.dst,dl⟩ (lkT tm) hl:=by
 intro st a w ⟨β,S,hR⟩ hlk hA hd hcw Q;have aj:tmv a s = .bool b:=by
  have h1:=Q4V hR (.tmp s);rw[show evO st.tm (.tmp s)=lkT st.tm s from rfl,hlk s Q2,ac]at h1;exact h1.bool_inv
 unfold wpOp;simp only[hi,Region.wanted,hg];rw[if_pos ((LP hs).2 aj)];left;refine aa β S st a w hR (λx hx=>?_) hA hcw _ _ λv w' ai=>Bu hd ai
 rw[<- Q2r hlk hx]
 grind[Q4V,Q1y]
theorem Qb2{ops:Array Oper}{i j s:Nat}{b c:Bool}(hi:ops[i]? = some o)(hg:o.guard=some (j,b))(hs:(ops[j]?).bind (·.dst)=some s){tm:Y (Nat×AV)}(ac:lkT tm s = .d (.bool c))(ai:c≠b){av:AV} :
  DU P E ops i ⟨PY o.op.operands.toList++[s],o.dst,⟨.gd s b av,[],[]⟩⟩ (lkT tm) hl:=by
 intro st a w ⟨β,S,hR⟩ hlk hA hd hcw Q;have ak:tmv a s = .bool c:=by
  have h1:=Q4V hR (.tmp s);rw[show evO st.tm (.tmp s)=lkT st.tm s from rfl,hlk s Q2,ac]at h1;exact h1.bool_inv
 have aa:¬ tmv a s = .bool b:=by simp_all
 unfold wpOp;simp only[hi,Region.wanted,hg];rw[QpW (λh=>aa ((LP hs).1 h))];exact Bu hd ⟨β,S,hR,.gdF _ _ _ aa⟩
theorem AW{spec:Q5R}{tt:TT}(hS:BP P spec)(hT:TOk P tt){ops:Array Oper}{R:Type}:∀(l:Y Oper) (i:Nat) (st:St) (acc:Y Rec) (k:St->Y Rec->oP R) (r:R),(∀j,l[j]? = ops[i+j]?) ->
  Q1x spec tt ops l st acc k=some r->∃recs st',recs.length=l.length/\k st' (acc++recs)=some r/\AP P E ops i st recs st'
 |[],i,st,acc,k,r,_,h=>⟨[],st,rfl,by grind[Q1x],rfl⟩
 |o::l,i,st,acc,k,r,hl,h=>by
  have h0:ops[i]? = some o:=by simpa using (hl 0).symm
  have next:∀rc,rc.dst=o.dst->Q4s st rc->DU P E ops i rc (lkT st.tm) (look st.h)->Q1x spec tt ops l (put st rc.dst rc.dl) (acc++[rc]) k=some r->∃recs st',recs.length=(o::l).length/\k st' (acc++recs)=some r/\AP P E ops i st recs st':=by
   intro rc hd hs an h;obtain⟨recs,st',h1,h2,h3⟩:=AW hS hT l (i+1) _ _ k r (λj=>by have:=hl (j+1);grind) h;exact⟨rc::recs,st',by simp[h1],by simp_all,⟨o,h0,hd⟩,hs,an,h3⟩
  have one:∀(j s:Nat) (w c:Bool),o.guard=some (j,w)->(ops[j]?).bind (·.dst)=some s->lkT st.tm s = .d (.bool c)->Q7A spec tt o s w c st (λst' rec=>Q1x spec tt ops l st' (acc++[rec]) k)=some r->∃recs st',recs.length=(o::l).length/\k st' (acc++recs)=some r/\AP P E ops i st recs st':=by
   intro j s w c hg hs aa h;unfold Q7A at h;cases hb:(bif c then w else !w)with
   |true=>
    simp only[hb,QpJ]at h;have ak:c=w:=by grind
    subst ak;obtain⟨dl,h,ac⟩:=En (E:=E) hS hT h;obtain⟨ai,hk⟩:=NE h;exact next _ rfl ai (Q5x h0 hg hs aa (ac rfl)) hk
   |false=>
    simp only[hb,QpU]at h;have ak:c≠w:=by grind
    obtain⟨ai,hk⟩:=NE h;exact next _ rfl ai (Qb2 h0 hg hs aa ak) hk
  rw[Q1x]at h;split at h
  ·rename_i hg;obtain⟨dl,h,ac⟩:=En (E:=E) hS hT h;obtain⟨ai,hk⟩:=NE h;exact next _ rfl ai (Q0Z h0 hg (ac rfl)) hk
  ·rename_i j w hg;split at h
   ·rename_i s hs;split at h
    ·rename_i c aa;cases c with
     |true=>
      simp only[QpJ,A4 aa]at h;exact one j s w true hg hs aa h
     |false=>
      simp only[QpU,A4 aa]at h;exact one j s w false hg hs aa h
    ·cases h
   ·cases h
theorem Q90{ops:Array Oper}{Q:Exit->Act->World->Prop}{st':St}(hQ:∀a w,JB E st' a w->Q .normal a w):∀(recs:Y Rec) (i:Nat) (st:St) (a:Act) (w:World),AP P E ops i st recs st'->JB E st a w ->
  wpOps P ops Q (List.range' i recs.length) a w
 |[],i,st,a,w,h,hR=>by
  simp only[AP]at h;subst h;exact hQ a w hR
 |rc::rs,i,st,a,w,h,hR=>by
  obtain⟨_,hs,aa,ac⟩:=h;simp only[List.length_cons,List.range'_succ];rw[wpOps_cons];exact wpOp_mono (λa' w' ai=>Q90 hQ rs (i+1) _ a' w' ac ai) (aa st a w hR (λ_ _=>rfl) (λ_ _=>rfl) hs.1 hs.2 Q)
end
end Go.Vx
namespace Go.Vx
section
variable{P:Program} {E:Env} {R:Type}
def Lst(listed:Array Bool)(i:Nat):Prop:=listed.getD i false=true
def Q2d(listed:Array Bool)(es:Y Edge):Prop:=∀e∈es,Region.binds .any e=true->Lst listed e.on
def Lh(ops:Y Oper)(listed:Array Bool):Prop:=∀(j:Nat) (o:Oper),ops[j]? = some o->Lst listed j->Q2d listed o.after.toList
theorem Q1m(acc:Y Nat)(i:Nat):∀(es:Y Edge) (s:Nat),(Q4H acc es s).testBit i=true->s.testBit i=true\/∃e∈es,Region.binds .any e=true/\(e.on=i\/(acc.getD e.on 0).testBit i=true)
 |[],s,h=>.inl h
 |e::r,s,h=>by
  simp only[Q4H]at h;rcases Q1m acc i r _ h with h1 | ⟨e',h1,h2⟩
  ·cases hb:Region.binds .any e with
   |false=>rw[hb]at h1;exact .inl (by simpa using h1)
   |true=>
    rw[hb]at h1;simp only[QpJ,Nat.testBit_or,QpS]at h1;rcases h1 with(h1 | h1) | h1
    ·exact .inl h1
    ·refine .inr ⟨e,by simp,hb,.inl ?_⟩;rw[Nat.testBit_two_pow]at h1;simpa using h1
    ·exact .inr ⟨e,by simp,hb,.inr h1⟩
  ·exact .inr ⟨e',by simp[h1],h2⟩
theorem Q7J(ops:Y Oper):∀(l:Y Oper) (acc:Y Nat),(∀k,l[k]? = ops[acc.length+k]?) ->
  (∀(j i m:Nat) (o:Oper),acc[j]? = some m->ops[j]? = some o->m.testBit i=true->∀listed,Lh ops listed->Q2d listed o.after.toList->Lst listed i) ->
  (Q2X l acc).length=acc.length+l.length /\
  ∀(j i m:Nat) (o:Oper),(Q2X l acc)[j]? = some m->ops[j]? = some o->m.testBit i=true->∀listed,Lh ops listed->Q2d listed o.after.toList->Lst listed i
 |[],acc,_,h=>⟨by simp[Q2X],h⟩
 |o::l,acc,hl,h=>by
  have h0:ops[acc.length]? = some o:=by simpa using (hl 0).symm
  have:=Q7J ops l (acc++[Q4H acc o.after.toList 0]) (λk=>by
   have:=hl (k+1)
   grind) (λj i m o' h1 h2 h3 listed hc hp=>by
   by_cases hj:j<acc.length
   ·grind
   ·have ak:j=acc.length:=by
     grind
    subst ak;rw[List.getElem?_append_right (Nat.le_refl _)]at h1;simp at h1;subst h1;rw[h0]at h2;injection h2 with h2
    subst h2;rcases Q1m acc i _ _ h3 with h4 | ⟨e,h4,h5,h6⟩
    ·simp at h4
    ·have ac:=hp e h4 h5;rcases h6 with h6 | h6
     ·rw[<- h6];exact ac
     ·by_cases he:e.on<acc.length
      ·obtain⟨m',aa⟩:∃m',acc[e.on]? = some m':=⟨_,QpH he⟩;have ai:e.on<ops.length:=by
        have:=(QpG.1 h0).1;omega
       have ho:=QpH ai;refine h e.on i m' _ aa ho ?_ listed hc (hc e.on _ ho ac);rw[List.getD_eq_getElem?_getD,aa]at h6;simpa using h6
      ·rw[List.getD_eq_getElem?_getD,QpZ I]at h6;simp at h6)
  grind[Q2X,Nat.add_assoc,Nat.add_comm]
def Du(listed:Array Bool):Nat->St->Y Rec->St
 |_,st,[]=>st
 |i,st,rc::rs=>Du listed (i+1) (bif listed.getD i false then put st rc.dst rc.dl else st) rs
def lkA(listed:Array Bool)(t:Nat):Nat->AV->Y Rec->AV
 |_,v,[]=>v
 |i,v,rc::rs=>lkA listed t (i+1) (if listed.getD i false=true/\rc.dst=some t then rc.dl.v else v) rs
def hA(listed:Array Bool):Nat->(Nat->oP Ob)->Y Rec->Nat->oP Ob
 |_,h,[]=>h
 |i,h,rc::rs=>hA listed (i+1) (if listed.getD i false=true then KS h rc.dl.wr else h) rs
theorem Q9d(st:St)(dst:oP Nat)(dl:Dl)(t:Nat):lkT (put st dst dl).tm t=if dst=some t then dl.v else lkT st.tm t:=by
 cases dst with
 |none=>simp[put]
 |some d=>
  grind[put,lkT,Xd,Option.some.injEq]
theorem Lm(listed:Array Bool)(t:Nat):∀(recs:Y Rec) (i:Nat) (st:St),lkT (Du listed i st recs).tm t=lkA listed t i (lkT st.tm t) recs
 |[],_,_=>rfl
 |rc::rs,i,st=>by
  simp only[Du,lkA];rw[Lm listed t rs];congr 1;cases hl:listed.getD i false with
  |true=>simp[Q9d]
  |false=>simp
theorem DL(listed:Array Bool):∀(recs:Y Rec) (i:Nat) (st:St),look (Du listed i st recs).h=hA listed i (look st.h) recs
 |[],_,_=>rfl
 |rc::rs,i,st=>by
  simp only[Du,hA];rw[DL listed rs];congr 1;cases hl:listed.getD i false with
  |true=>simp[put,Hi]
  |false=>simp
theorem Q1j(listed:Array Bool):∀(recs:Y Rec) (i:Nat) (st:St),(Du listed i st recs).n=st.n
 |[],_,_=>rfl
 |rc::rs,i,st=>by
  simp only[Du];rw[Q1j listed rs];cases listed.getD i false<;>rfl
theorem Ez{L1 L2:Array Bool}{t:Nat}:∀(recs:Y Rec) (i:Nat) (v:AV),(∀k rc,recs[k]? = some rc->rc.dst=some t->(Lst L1 (i+k)↔Lst L2 (i+k)))->lkA L1 t i v recs=lkA L2 t i v recs
 |[],_,_,_=>rfl
 |rc::rs,i,v,h=>by
  simp only[lkA];have h0:=h 0 rc rfl;have:(if L1.getD i false=true/\rc.dst=some t then rc.dl.v else v)=if L2.getD i false=true/\rc.dst=some t then rc.dl.v else v:=by
   by_cases hd:rc.dst=some t
   all_goals simp_all [Lst,Nat.add_zero]
  rw[this];exact Ez rs (i+1) _ λk ac hk hd=>by
   have:=h (k+1) ac Q4 hd
   grind
theorem Bg{L1 L2:Array Bool}{l:Nat}:∀(recs:Y Rec) (i:Nat) (h1 h2:Nat->oP Ob),h1 l=h2 l->(∀k rc,recs[k]? = some rc->l∈wrL rc.dl->(Lst L1 (i+k)↔Lst L2 (i+k)))->hA L1 i h1 recs l=hA L2 i h2 recs l
 |[],_,_,_,he,_=>he
 |rc::rs,i,h1,h2,he,h=>by
  refine Bg rs (i+1) _ _ ?_ λk ac hk hd=>by
   have:=h (k+1) ac Q4 hd
   grind
  by_cases hd:l∈wrL rc.dl
  ·have:=h 0 rc rfl hd;simp only[Lst,Nat.add_zero]at this;by_cases hl:L1.getD i false=true
   ·rw[if_pos hl,if_pos (this.1 hl)];exact Q74 hd
   simp_all
  ·have e1:∀(c:Prop) [Decidable c] (f:Nat->oP Ob),(if c then KS f rc.dl.wr else f) l=f l:=by
    intro c _ f;split
    ·exact UM hd
    ·rfl
   simp_all
theorem JB.same{st st':St}{a:Act}{w:World}(h:JB E st a w)(hn:st'.n=st.n)(ht:∀t,lkT st'.tm t=lkT st.tm t)(hh:look st'.h=look st.h):JB E st' a w:=by
 obtain⟨β,S,hR⟩:=h;refine⟨β,S,by rw[hn];exact hR.n,hR.dfr,λt av ac=>?_,by rw[hh];exact hR.hr⟩;rw[hh];have h1:lkT st.tm t=av:=by grind[lkT]
 unfold lkT at h1;cases hl:look st.tm t with
 |none=>rw[hl]at h1;subst h1;exact .top _
 |some b=>rw[hl]at h1;subst h1;exact hR.tm t _ hl
end
section
variable{P:Program} {E:Env} {R:Type}
theorem B6{x:Nat}:∀{l:Y Nat},PM x l=true↔x∈l
 |[]=>by simp[PM]
 |a::r=>by
  simp only[PM,QpS,QpK,B6 (l:=r)];constructor
  ·rintro (h | h)
   ·exact .inl (QpD h).symm
   ·exact .inr h
  ·rintro (h | h)
   ·subst h;exact .inl (Nat.beq_refl _)
   ·exact .inr h
theorem RQ{a b:Y Nat}{x:Nat}(h1:x∈a)(h2:x∈b):T1 a b=true:=by
 grind[T1,List.any_eq_true,AB]
theorem D1{i:Nat}{a:Rec}{news:Y Nat}:∀{rs:Y Rec} {ms:Y Nat},Bo i a news rs ms=true->∀(k:Nat) (b:Rec),rs[k]? = some b->∃m,ms[k]? = some m /\
  (WU a b=true\/(∃l∈news,C5 l b=true)\/Qg5 a.dst b.dl.v=true->m.testBit i=true)
 |[],_,_,k,b,hb=>by simp at hb
 |b0::r,[],h,k,b,hb=>by trivial
 |b0::r,m::ms,h,k,b,hb=>by
  simp only[Bo,QpE]at h;cases k with
  |zero=>
   grind
  |succ k=>exact D1 h.2 k b Q4
theorem MK{ac:St}{aa:Y Nat}:∀{wr:Y (Nat×oP Ob)} {l:Nat},l∈TJ ac aa wr->WM l wr=true
 |[],l,h=>by simp[TJ]at h
 |(k,o)::r,l,h=>by
  unfold TJ at h;split at h
  ·cases hm:PM k aa with
   |true=>simp only[hm,QpJ]at h;simp[WM,MK h]
   |false=>
    simp only[hm,QpU,QpK]at h;rcases h with rfl | h
    ·simp[WM]
    ·simp[WM,MK h]
  ·simp[WM,MK h]
theorem Q3H{ac:St}{aa:Y Nat}{l:Nat}(hn:look ac.h l=none)(hs:l ∉ aa):∀{wr:Y (Nat×oP Ob)},WM l wr=true->l∈TJ ac aa wr
 |(k,o)::r,h=>by
  simp only[WM,QpS,QpE]at h;by_cases hk:k=l/\o.isSome=true
  ·obtain⟨rfl,ho⟩:=hk;obtain⟨o',rfl⟩:=QpT.1 ho
   grind[PM,absurd,B6,TJ]
  ·have hr:WM l r=true:=by
    grind[absurd,Nat.eq_of_beq_eq_true]
   have:=Q3H hn hs hr;unfold TJ
   grind
theorem Lu{aj:St}:∀{rs:Y Rec} {i:Nat} {ai:Y Rec} {ac:Y Nat} {ms:Y Nat},F5 aj i ai ac rs ms=true->∀(k:Nat) (a:Rec),rs[k]? = some a ->
  ∃aa,(∀l∈aa,l∈ac\/∃k' b,k'<k/\rs[k']? = some b/\WM l b.dl.wr=true)/\Bo (i+k) a (TJ aj aa a.dl.wr) (rs.drop (k+1)) (ms.drop (k+1))=true /\
   ∀l∈TJ aj aa a.dl.wr,Ut aj l=true/\(∀b∈ai,C5 l b=false)/\∀k' b,k'<k->rs[k']? = some b->C5 l b=false
 |[],i,ai,ac,ms,_,k,a,ha=>by simp at ha
 |a0::r,i,ai,ac,[],h,k,a,ha=>by simp[F5]at h
 |a0::r,i,ai,ac,m::ms,h,k,a,ha=>by
  simp only[F5,QpE]at h;obtain⟨⟨h1,h2⟩,h3⟩:=h;cases k with
  |zero=>
   simp at ha;subst ha;refine⟨ac,λl hl=>.inl hl,by simpa using h1,λl hl=>?_⟩;rw[List.all_eq_true]at h2;have:=h2 l hl;simp only[QpE,List.all_eq_true,QpL]at this;exact⟨this.1,this.2,λk' b hk=>by omega⟩
  |succ k=>
   obtain⟨aa,g1,g2,g3⟩:=Lu h3 k a (by simpa using ha);refine⟨aa,λl hl=>?_,?_,λl hl=>?_⟩
   ·rcases g1 l hl with g | ⟨k',b,g4,g5,g6⟩
    ·rcases List.mem_append.1 g with g | g
     ·exact .inl g
     ·exact .inr ⟨0,a0,I,rfl,MK g⟩
    ·exact .inr ⟨k'+1,b,I,by simpa using g5,g6⟩
   ·rw[show i+(k+1)=i+1+k from I];simpa using g2
   ·obtain⟨g4,g5,g6⟩:=g3 l hl;refine⟨g4,λb hb=>g5 b (by simp[hb]),λk' b hk hb=>?_⟩;cases k' with
    |zero=>simp at hb;subst hb;exact g5 a0 Q2
    |succ k'=>exact g6 k' b I (by simpa using hb)
theorem RT{l:Nat}:∀{wr:Y (Nat×oP Ob)},WM l wr=true->l∈wr.map (·.1)
 |(k,o)::r,h=>by
  simp only[WM,QpS,QpE]at h;rcases h with⟨_,h2⟩ | h
  ·simp[QpD h2]
  ·simp only[QpR,QpK];exact .inr (RT h)
theorem Do{l:Nat}:∀{wr:Y (Nat×oP Ob)} {h:Nat->oP Ob},(∀o,(l,o)∈wr->o.isSome=true)->(h l).isSome=true\/WM l wr=true->(KS h wr l).isSome=true
 |[],h,_,hs=>by
  rcases hs with hs | hs
  ·exact hs
  ·simp[WM]at hs
 |(k,o)::r,h,hn,hs=>by
  simp only[KS];refine Do (λo' aa=>hn o' (by simp[aa])) ?_;by_cases e:l=k
  ·subst e;left;rw[if_pos rfl];exact hn o Q2
  ·rw[QpW e];rcases hs with hs | hs
   ·exact .inl hs
   ·simp only[WM,QpS,QpE]at hs;rcases hs with⟨_,h2⟩ | hs
    ·exact absurd (QpD h2).symm e
    ·exact .inr hs
theorem Q6y{recs:Y Rec}{l:Nat}:∀{wr:Y (Nat×oP Ob)},Qdm recs wr=true->(l,none)∈wr->∀b∈recs,WM l b.dl.wr=false
 |(k,o)::r,h,hm,b,hb=>by
  rcases QpK.1 hm with e | aa
  ·injection e with e1 e2
   subst e1;subst e2;simp only[Qdm,QpE,List.all_eq_true,QpL]at h;exact h.1 b hb
  ·cases o with
   |none=>simp only[Qdm,QpE]at h;exact Q6y h.2 aa b hb
   |some o=>simp only[Qdm]at h;exact Q6y h aa b hb
theorem Qd4:∀{recs:Y Rec} (k:Nat) (b:Rec),rmL recs=true->recs[k]? = some b->Qdm (recs.drop k) b.dl.wr=true
 |a::r,0,b,h,hb=>by
  simp only[rmL,QpE]at h;simp at hb;subst hb;exact h.1
 |a::r,k+1,b,h,hb=>by
  simp only[rmL,QpE]at h;exact Qd4 k b h.2 (by simpa using hb)
theorem Q39{listed:Array Bool}{l:Nat}:∀(recs:Y Rec) (i:Nat) (h:Nat->oP Ob),(∀k b,recs[k]? = some b->Lst listed (i+k)->∀o,(l,o)∈b.dl.wr->o.isSome=true)->((h l).isSome=true\/∃k b,recs[k]? = some b/\Lst listed (i+k)/\WM l b.dl.wr=true)->(hA listed i h recs l).isSome=true
 |[],i,h,_,hs=>by
  rcases hs with hs | ⟨k,b,hb,_⟩
  ·exact hs
  ·simp at hb
 |rc::rs,i,h,hn,hs=>by
  simp only[hA];refine Q39 rs (i+1) _ (λk b hb hl=>hn (k+1) b (by simpa using hb) (by rw[show i+(k+1)=i+1+k from I];exact hl)) ?_;rcases hs with hs | ⟨k,b,hb,hl,ho⟩
  ·left;split
   ·rename_i aa;exact Do (hn 0 rc rfl (by simpa[Lst]using aa)) (.inl hs)
   ·exact hs
  ·cases k with
   |zero=>
    simp at hb;subst hb;left;rw[if_pos (by simpa[Lst]using hl)];exact Do (hn 0 rc rfl hl) (.inr ho)
   |succ k=>exact .inr ⟨k,b,by simpa using hb,by rw[show i+1+k=i+(k+1)from I];exact hl,ho⟩
theorem Q8B{l:Nat}{st:St}{dst:oP Nat}{dl:Dl}(h1:AC l st.tm=false)(h2:Yq l dl.v=false):AC l (put st dst dl).tm=false:=by
 cases dst<;>simp[put,AC,h1,h2]
theorem Sw{l:Nat}:∀{wr:Y (Nat×oP Ob)} {h:Y (Nat×Ob)},Jj l h=false->P6 l wr=false->Jj l (MD h wr)=false
 |[],h,h1,_=>h1
 |(k,none)::r,h,h1,h2=>by simp only[MD];exact Sw (V0 h1) (by simpa[P6]using h2)
 |(k,some (.box c))::r,h,h1,h2=>by
  simp only[P6,QpV]at h2;simp only[MD];exact Sw (by simp[Jj,h2.1,V0 h1]) h2.2
 |(k,some (.arr e s rows))::r,h,h1,h2=>by
  simp only[P6]at h2;simp only[MD];exact Sw (by simp[Jj,V0 h1]) h2
 |(k,some (.mp t f))::r,h,h1,h2=>by
  simp only[P6]at h2;simp only[MD];exact Sw (by simp[Jj,V0 h1]) h2
theorem Q3U{listed:Array Bool}{l:Nat}:∀(recs:Y Rec) (i:Nat) (st:St),Ut st l=true->(∀k b,recs[k]? = some b->Lst listed (i+k)->C5 l b=false)->Ut (Du listed i st recs) l=true
 |[],_,_,h,_=>h
 |rc::rs,i,st,h,hn=>by
  simp only[Du];refine Q3U rs (i+1) _ ?_ λk b hb hl=>hn (k+1) b (by simpa using hb) (by rw[show i+(k+1)=i+1+k from I];exact hl)
  cases hl:listed.getD i false with
  |false=>exact h
  |true=>
   have:=hn 0 rc rfl hl;simp only[C5,QpV]at this;simp only[Ut,QpE,QpL]at h ⊢;exact⟨h.1,Q8B h.2.1 this.1,by simp only[QpJ,put];exact Sw h.2.2 this.2⟩
theorem Q6K{listed:Array Bool}{d:Nat}:∀(recs:Y Rec) (i:Nat) (st:St),QaJ d st.tm=false->(∀k b,recs[k]? = some b->Lst listed (i+k)->b.dst≠none->gds d b.dl.v=false)->QaJ d (Du listed i st recs).tm=false
 |[],_,_,h,_=>h
 |rc::rs,i,st,h,hn=>by
  simp only[Du];refine Q6K rs (i+1) _ ?_ λk b hb hl=>hn (k+1) b (by simpa using hb) (by rw[show i+(k+1)=i+1+k from I];exact hl)
  cases hl:listed.getD i false with
  |false=>exact h
  |true=>
   cases hd:rc.dst with
   |none=>simpa[put]using h
   |some d'=>simp[put,QaJ,h,hn 0 rc rfl hl (by simp[hd])]
theorem Q7p{listed:Array Bool}{d:Nat}:∀(recs:Y Rec) (i:Nat) (st:St),QaJ d (Du listed i st recs).tm=false->QaJ d st.tm=false/\∀k b,recs[k]? = some b->Lst listed (i+k)->b.dst≠none->gds d b.dl.v=false
 |[],_,_,h=>⟨h,λk b hb=>by simp at hb⟩
 |rc::rs,i,st,h=>by
  obtain⟨h1,h2⟩:=Q7p rs (i+1) _ h;refine⟨?_,λk b hb hl hd=>?_⟩
  ·cases hl:listed.getD i false with
   |false=>simp_all
   |true=>
    cases hd:rc.dst with
    |none=>grind[put]
    |some d'=>simp_all [QpJ,put,QaJ,QpV]
  ·cases k with
   |zero=>
    have ai:listed.getD i false=true:=by assumption
    cases aj:rc.dst with
    |none=>simp_all
    |some d'=>simp_all [QpJ,put,QaJ,QpV]
   |succ k=>grind
def Q9W(st:St):Nat->Y Rec->St
 |0,_=>st
 |_,[]=>st
 |i+1,rc::rs=>Q9W (put st rc.dst rc.dl) i rs
theorem Q6T{ops:Array Oper}{st':St}:∀{recs:Y Rec} {i:Nat} {st:St},AP P E ops i st recs st'->∀(k:Nat) (rc:Rec),recs[k]? = some rc ->
  (∃o,ops[i+k]? = some o/\rc.dst=o.dst)/\Q4s (Q9W st k recs) rc/\DU P E ops (i+k) rc (lkT (Q9W st k recs).tm) (look (Q9W st k recs).h)
 |[],_,_,_,k,rc,h=>by simp at h
 |r0::rs,i,st,hr,k,rc,h=>by
  obtain⟨h1,h2,h3,h4⟩:=hr;cases k with
  |zero=>simp at h;subst h;exact⟨h1,h2,h3⟩
  |succ k=>
   have:=Q6T h4 k rc (by simpa using h);rw[show i+1+k=i+(k+1)from I]at this;exact this
theorem Fd{ops:Array Oper}{st':St}:∀{recs:Y Rec} {i:Nat} {st:St},AP P E ops i st recs st'->st'=Q9W st recs.length recs
 |[],_,_,h=>h
 |_::rs,_,_,h=>Fd (recs:=rs) h.2.2.2
def Ni(n k:Nat):Array Bool:=(Array.range n).map λi=>decide (i<k)
theorem KJ{n k i:Nat}(hi:i<n):Lst (Ni n k) i↔i<k:=by
 unfold Lst Ni;simp[hi]
theorem Fa{n:Nat}:∀(recs:Y Rec) (i k:Nat) (st:St),i+recs.length<=n->Q9W st k recs=Du (Ni n (i+k)) i st recs
 |[],i,k,st,_=>by cases k<;>rfl
 |rc::rs,i,0,st,h=>by
  simp only[Q9W,Du];have h0:¬ Lst (Ni n (i+0)) i:=by grind[KJ]
  have:(Ni n (i+0)).getD i false=false:=by grind[Lst]
  have:∀(rs:Y Rec) (j:Nat) (st:St),i<j->j+rs.length<=n->Du (Ni n i) j st rs=st:=by
   intro rs;induction rs with
   |nil=>intro j st _ _;rfl
   |cons x r aa=>
    intro j st hj hn;simp only[List.length_cons]at hn;simp only[Du];have h0:¬ Lst (Ni n i) j:=by rw[KJ I];omega
    grind[Ni,Lst]
  grind
 |rc::rs,i,k+1,st,h=>by
  simp only[List.length_cons]at h;simp only[Q9W,Du];have h0:Lst (Ni n (i+(k+1))) i:=by rw[KJ I];omega
  have:(Ni n (i+(k+1))).getD i false=true:=h0;rw[this];simp only[QpJ];rw[Fa (n:=n) rs (i+1) k _ I,show i+1+k=i+(k+1)from I]
end
section
variable{P:Program} {E:Env} {R:Type}
theorem Q7w{L:Array Bool}{t:Nat}{v0:AV}:∀(recs:Y Rec) (i k:Nat) (rc:Rec) (v:AV),recs[k]? = some rc->Lst L (i+k)->rc.dst=some t->rc.dl.v=v0->(∀k' b,k<k'->recs[k']? = some b->Lst L (i+k')->b.dst≠some t)->lkA L t i v recs=v0
 |[],i,k,rc,v,h,_,_,_,_=>by simp at h
 |r0::rs,i,0,rc,v,h,hl,hd,hv,hlast=>by
  simp at h;subst h;simp only[lkA];have ac:L.getD i false=true:=by assumption
  rw[if_pos ⟨ac,hd⟩,hv];have:∀(rs:Y Rec) (j:Nat),(∀k' b,rs[k']? = some b->Lst L (j+k')->b.dst≠some t)->lkA L t j v0 rs=v0:=by
   intro rs;induction rs with
   |nil=>intro j _;rfl
   |cons x r ih=>
    intro j hj;simp only[lkA];rw[QpW (λh=>hj 0 x rfl h.1 h.2)];exact ih (j+1) λk' b hb hl=>hj (k'+1) b Q4 (by grind)
  exact this rs (i+1) λk' b hb hl=>hlast (k'+1) b I (by simpa using hb) (by grind)
 |r0::rs,i,k+1,rc,v,h,hl,hd,hv,hlast=>by
  exact Q7w rs (i+1) k rc _ (by simpa using h) (by grind) hd hv λk' b hk hb ac=>hlast (k'+1) b I (by simpa using hb) (by grind)
theorem Q9m{L:Array Bool}{l:Nat}(h0:Nat->oP Ob):∀(recs:Y Rec) (i k:Nat) (rc:Rec) (h:Nat->oP Ob),recs[k]? = some rc->Lst L (i+k)->l∈wrL rc.dl->(∀k' b,k<k'->recs[k']? = some b->Lst L (i+k')->l ∉ wrL b.dl)->hA L i h recs l=KS h0 rc.dl.wr l
 |[],i,k,rc,h,hb,_,_,_=>by simp at hb
 |r0::rs,i,0,rc,h,hb,hl,hd,hlast=>by
  simp at hb;subst hb;simp only[hA];have ac:L.getD i false=true:=by assumption
  rw[if_pos ac];have:∀(rs:Y Rec) (j:Nat) (f:Nat->oP Ob),(∀k' b,rs[k']? = some b->Lst L (j+k')->l ∉ wrL b.dl)->hA L j f rs l=f l:=by
   intro rs;induction rs with
   |nil=>intro j f _;rfl
   |cons x r ih=>
    intro j f hj;simp only[hA];rw[ih (j+1) _ λk' b hb hl=>hj (k'+1) b Q4 (by grind)];split
    ·rename_i hx;exact UM (hj 0 x rfl hx)
    ·rfl
  rw[this rs (i+1) _ λk' b hb hl=>hlast (k'+1) b I (by simpa using hb) (by grind)];exact Q74 hd
 |r0::rs,i,k+1,rc,h,hb,hl,hd,hlast=>by
  exact Q9m h0 rs (i+1) k rc _ (by simpa using hb) (by grind) hd λk' b hk aj ac=>hlast (k'+1) b I Q4 (by grind)
theorem Q4O{st:St}:∀{wr:Y (Nat×oP Ob)},(∀l o,(l,some o)∈wr->look st.h l=none->Ut st l=true)->Wm st wr=true
 |[],_=>rfl
 |(l,o)::r,h=>by
  simp only[Wm,QpE];refine⟨?_,Q4O λl' o' hm=>h l' o' (by simp[hm])⟩;cases o with
  |none=>rfl
  |some o=>
   cases hs:look st.h l with
   |some o'=>rfl
   |none=>exact h l o Q2 hs
theorem Q1d{l:Nat}{o:Ob}:∀{wr:Y (Nat×oP Ob)},(l,some o)∈wr->WM l wr=true
 |(k,o')::r,h=>by
  rcases QpK.1 h with e | h'
  ·injection e with e1 e2;subst e1;subst e2;simp[WM]
  ·simp[WM,Q1d h']
theorem SJ{p q:Nat->Bool}{i:Nat}:∀{l:Y Nat},i∈l->(∀x∈l,q x=true->p x=true)->p i=true->q i=false->l.countP q<l.countP p
 |a::r,hm,aa,hp,hq=>by
  have hr:r.countP q<=r.countP p:=List.countP_mono_left λx hx=>aa x (by simp[hx])
  simp only[List.countP_cons];rcases QpK.1 hm with rfl | ac
  ·simp[hp,hq];omega
  ·have:=SJ ac (λx hx=>aa x (by simp[hx])) hp hq;have h1:=aa a Q2;cases ai:q a
   ·simp;split<;>omega
   ·simp[h1 ai];omega
theorem SQ{listed:Array Bool}{i j:Nat}(hi:i<listed.size):Lst (listed.setIfInBounds i true) j↔j=i\/Lst listed j:=by
 unfold Lst;by_cases hj:j<listed.size
 ·by_cases e:j=i
  all_goals simp_all [Ne.symm]
 grind
theorem Q8n{es:Y Edge}{i:Nat}(h:Q23 es i=true)(e:Edge)(hm:e∈es)(hb:Region.binds .any e=true):e.on<i:=by
 induction es with
 |nil=>simp at hm
 |cons e0 r ih=>
  simp only[Q23,QpE,QpS,QpL]at h
  grind[Nat.le_of_ble_eq_true]
theorem T6{l:Y Oper}(k:Nat)(o:Oper)(e:Edge)(he:e∈o.after.toList)(hb:Region.binds .any e=true):∀i,Ku l i=true->l[k]? = some o->e.on<i+k:=by
 induction l generalizing k with
 |nil=>simp_all
 |cons o0 r ih=>
  intro i h ho;simp only[Ku,QpE]at h;cases k with
  |zero=>simp at ho;subst ho;exact Q8n h.1 e he hb
  |succ k=>
   grind
theorem SK{ops:Array Oper}{listed:Array Bool}{i:Nat}(ac:listed.size=ops.size):i∈Region.ready .any ops listed↔∃o,ops[i]? = some o/\¬ Lst listed i/\Q2d listed o.after.toList:=by
 unfold Region.ready;simp only[List.mem_filter,List.mem_range,QpE,QpL];constructor
 ·rintro⟨h1,h2,h3⟩;have ho:=QpQ h1;refine⟨_,ho,?_,?_⟩
  ·simp_all [Lst,Array.getD,dite_true]
  ·rw[ho]at h3;simp only[Option.map_some,Option.getD_some,Array.all_eq_true_iff_forall_mem,QpS,QpL]at h3;intro e he hb;rcases h3 e Q4 with h4 | h4
   ·simp_all
   ·exact h4
 ·rintro⟨o,ho,hn,hp⟩;have h1:=(QpN.1 ho).1;have hi:i<listed.size:=I
  refine⟨h1,?_,?_⟩
  ·simp_all [Lst,Array.getD,dite_true]
  ·rw[ho];simp only[Option.map_some,Option.getD_some,Array.all_eq_true_iff_forall_mem,QpS,QpL];intro e he;cases hb:Region.binds .any e with
   |false=>simp_all
   |true=>exact .inr (hp e (by simpa using he) hb)
theorem Qbl{ops:Array Oper}{aa st':St}{recs:Y Rec}{Q:Exit->Act->World->Prop}(cb:recs.length=ops.size)(ar:AP P E ops 0 aa recs st')(hd:Q3u aa ops.toList recs=true)(hQ:∀a w,JB E st' a w->Q .normal a w) :
  ∀(fuel:Nat) (listed:Array Bool) (a:Act) (w:World),listed.size=ops.size->Lh ops.toList listed->(List.range ops.size).countP (λi=>!listed.getD i false)<=fuel->JB E (Du listed 0 aa recs) a w->wpAny P .any ops Q fuel listed a w:=by
 simp only[Q3u,QpE]at hd;obtain⟨⟨a6,aw⟩,b2⟩:=hd;obtain⟨b5,a8⟩:=Q7J ops.toList ops.toList [] (λk=>by simp) (λj i m o h1=>by simp at h1);simp only[List.length_nil,QpP,Array.length_toList]at b5;have bp:∀listed:Array Bool,listed.size=ops.size->Region.ready .any ops listed=[]->∀i,i<ops.size->Lst listed i:=by
  intro listed ao hr i;induction i using Nat.strongRecOn with
  |ind i ih=>
   intro hi;by_cases hl:Lst listed i
   ·exact hl
   ·exfalso;have ho:=QpQ hi;have:i∈Region.ready .any ops listed:=(SK ao).2 ⟨_,ho,hl,λe he hb=>ih e.on (by
     have:=T6 i _ e he hb 0 a6 Q4;omega) (by
     have:=T6 i _ e he hb 0 a6 (by rw[QpY];exact ho);omega)⟩
    simp_all
 have bi:∀(listed:Array Bool) (a:Act) (w:World),(∀i,i<ops.size->Lst listed i)->JB E (Du listed 0 aa recs) a w->Q .normal a w:=by
  intro listed a w hl hR;refine hQ a w (hR.same ?_ (λt=>?_) ?_)
  ·rw[Fd ar,Fa (n:=ops.size) recs 0 _ aa I,Q1j,Q1j]
  ·rw[Fd ar,Fa (n:=ops.size) recs 0 _ aa I,Lm,Lm];refine Ez recs 0 _ λk rc hk _=>?_
   have bb:=(QpG.1 hk).1;rw[KJ I];exact⟨λ_=>hl _ I,λ_=>by omega⟩
  ·rw[Fd ar,Fa (n:=ops.size) recs 0 _ aa I,DL,DL];funext l;refine Bg recs 0 _ _ rfl λk rc hk _=>?_
   have bb:=(QpG.1 hk).1;rw[KJ I];exact⟨λ_=>hl _ I,λ_=>by omega⟩
 intro fuel;induction fuel with
 |zero=>
  intro listed a w ao a9 bm hR;have hl:∀i,i<ops.size->Lst listed i:=by
   intro i hi;have h0:(List.range ops.size).countP (λi=>!listed.getD i false)=0:=I
   rw[List.countP_eq_zero]at h0;have:=h0 i (by simpa using hi);simpa[Lst]using this
  refine⟨?_,bi listed a w hl hR⟩;cases hr:Region.ready .any ops listed with
  |nil=>rfl
  |cons x xs=>
   exfalso;obtain⟨o,ho,hn,_⟩:=(SK ao).1 (by rw[hr];simp:x∈Region.ready .any ops listed);exact hn (hl x (QpN.1 ho).1)
 |succ fuel ih=>
  intro listed a w ao a9 bm hR;refine⟨λhr=>bi listed a w (bp listed ao hr) hR,λi hi=>?_⟩;obtain⟨o,ho,ay,bv⟩:=(SK ao).1 hi;have bn:=(QpN.1 ho).1;obtain⟨rc,ak⟩:∃rc,recs[i]? = some rc:=⟨_,QpH I⟩;obtain⟨⟨o',b4,ca⟩,bl,a4⟩:=Q6T ar i rc ak;simp only[QpP]at b4 a4;have a7:∀(j m:Nat),(Q2X ops.toList [])[i]? = some m->m.testBit j=true->Lst listed j:=λj m h1 h2=>a8 i j m o h1 (by rw[QpY];exact ho) h2 listed a9 bv
  have au:∀(j m:Nat),(Q2X ops.toList [])[j]? = some m->j<ops.size->m.testBit i=true->¬ Lst listed j:=λj m h1 h2 h3 hl=>by
   have a3:=QpQ h2;exact ay (a8 j i m _ h1 (by rw[QpY];exact a3) h3 listed a9 (a9 j _ (by rw[QpY];exact a3) hl))
  have a2:∀(p q:Nat) (x y:Rec),p<q->recs[p]? = some x->recs[q]? = some y->∃m,(Q2X ops.toList [])[q]? = some m/\(WU x y=true\/Qg5 x.dst y.dl.v=true->m.testBit p=true):=by
   intro p q x y co hx hy;obtain⟨az,_,g2,_⟩:=Lu aw p x hx;obtain⟨m,hm,hc⟩:=D1 g2 (q-(p+1)) y (by rw[QpO,show p+1+(q-(p+1))=q from I];exact hy);rw[QpO,show p+1+(q-(p+1))=q from I]at hm;refine⟨m,hm,λh=>?_⟩;have:=hc (by rcases h with h | h;exact .inl h;exact .inr (.inr h));simpa using this
  have bc:∀(j:Nat) (b:Rec),j<i->recs[j]? = some b->WU b rc=true->Lst listed j:=λj b hj hb hc=>by
   obtain⟨m,hm,h1⟩:=a2 j i b rc hj hb ak;exact a7 j m hm (h1 (.inl hc))
  have aj:∀(j:Nat) (b:Rec),i<j->recs[j]? = some b->WU rc b=true\/Qg5 rc.dst b.dl.v=true->¬ Lst listed j:=λj b hj hb hc=>by
   obtain⟨m,hm,h1⟩:=a2 i j rc b hj ak hb;exact au j m hm (by have:=(QpG.1 hb).1;omega) (h1 hc)
  have bg:∀(k:Nat) (b:Rec),recs[k]? = some b->(k<i->WU b rc=true)->(i<k->WU rc b=true)->(Lst listed (0+k)↔Lst (Ni ops.size (0+i)) (0+k)):=by
   intro k b hb h1 h2;have bb:=(QpG.1 hb).1;rw[KJ I];simp only[QpP];rcases Nat.lt_trichotomy k i with h | h | h
   ·exact⟨λ_=>h,λ_=>bc k b h hb (h1 h)⟩
   ·subst h;exact⟨λhl=>absurd hl ay,λhl=>by omega⟩
   ·exact⟨λhl=>absurd hl (aj k b h hb (.inl (h2 h))),λhl=>by omega⟩
  have hst:Q9W aa i recs=Du (Ni ops.size (0+i)) 0 aa recs:=Fa recs 0 i aa I;have c1:∀t,t∈rc.rt->lkT (Du listed 0 aa recs).tm t=lkT (Q9W aa i recs).tm t:=by
   intro t ht;rw[hst,Lm,Lm];refine Ez recs 0 _ λk b hk ax=>bg k b hk (λ_=>?_) (λ_=>?_)
   ·simp[WU,inO,ax,AB ht]
   ·simp[WU,inO,ax,AB ht]
  have c2:∀l,l∈rc.dl.rd\/l∈wrL rc.dl->look (Du listed 0 aa recs).h l=look (Q9W aa i recs).h l:=by
   intro l hl;rw[hst,DL,DL];refine Bg recs 0 _ _ rfl λk b hk hw=>bg k b hk (λ_=>?_) (λ_=>?_)
   ·rcases hl with hl | hl
    ·simp[WU,RQ hw hl]
    ·simp[WU,RQ hw hl]
   ·rcases hl with hl | hl
    ·simp[WU,RQ hw hl]
    ·simp[WU,RQ hl hw]
  have c3:Q3z (Du listed 0 aa recs) rc.dl.v rc.dst=true:=by
   have h1:=bl.1;cases br:rc.dst with
   |none=>rfl
   |some d=>
    rw[br,hst]at h1;simp only[Q3z,QpE,QpL,Q1j]at h1 ⊢;obtain⟨g1,g2⟩:=Q7p recs 0 aa h1.2.2;refine⟨h1.1,h1.2.1,Q6K recs 0 aa g1 λk b hb hl hn=>?_⟩;have bb:=(QpG.1 hb).1;rcases Nat.lt_trichotomy k i with h | h | h
    ·exact g2 k b hb (by rw[KJ I];omega) hn
    ·subst h;simp only[QpP]at hl;exact absurd hl ay
    ·cases hg:gds d b.dl.v with
     |false=>rfl
     |true=>simp only[QpP]at hl;exact absurd hl (aj k b h hb (.inr (by simp[Qg5,br,hg])))
  have c4:Wm (Du listed 0 aa recs) rc.dl.wr=true:=by
   refine Q4O λl ob hm an=>?_
   have hs:=Q1d hm;have a5:∀k b,recs[k]? = some b->Lst listed (0+k)->∀o,(l,o)∈b.dl.wr->o.isSome=true:=by
    intro k b hb bj o ho;simp only[QpP]at bj;cases o with
    |some _=>rfl
    |none=>
     exfalso;rcases Nat.lt_trichotomy k i with h | h | h
     ·have:=Q6y (Qd4 k b b2 hb) ho rc (List.mem_of_getElem? (i:=i-k) (by rw[QpO,show k+(i-k)=i from I];exact ak));rw[hs]at this;cases this
     ·subst h;exact ay bj
     ·have bk:T1 (wrL rc.dl) (wrL b.dl)=true:=RQ (x:=l) (RT hs) (QpX.2 ⟨_,ho,rfl⟩);exact aj k b h hb (.inl (by simp[WU,bk])) bj
   rw[DL]at an;have hz:look aa.h l=none:=by
    cases hz:look aa.h l with
    |none=>rfl
    |some cm=>
     have:=Q39 (listed:=listed) recs 0 (look aa.h) a5 (.inl (by simp[hz]));rw[an]at this;cases this
   have b3:∀k b,k<i->recs[k]? = some b->WM l b.dl.wr=false:=by
    intro k b hk hb;cases hh:WM l b.dl.wr with
    |false=>rfl
    |true=>
     have bk:T1 (wrL b.dl) (wrL rc.dl)=true:=RQ (x:=l) (RT hh) (RT hs);have hc:WU b rc=true:=by simp[WU,bk]
     have:=Q39 (listed:=listed) recs 0 (look aa.h) a5 (.inr ⟨k,b,hb,by simpa using bc k b hk hb hc,hh⟩);rw[an]at this;cases this
   obtain⟨az,g1,g2,g3⟩:=Lu aw i rc ak;have bh:l∈TJ aa az rc.dl.wr:=Q3H hz (λhl=>by
    rcases g1 l hl with h | ⟨k',b,h1,h2,h3⟩
    ·simp at h
    ·rw[b3 k' b h1 h2]at h3;cases h3) hs
   obtain⟨g4,_,g6⟩:=g3 l bh;refine Q3U recs 0 aa g4 λk b hb hl=>?_
   simp only[QpP]at hl;have bb:=(QpG.1 hb).1;rcases Nat.lt_trichotomy k i with h | h | h
   ·exact g6 k b h hb
   ·subst h;exact absurd hl ay
   ·cases hr:C5 l b with
    |false=>rfl
    |true=>
     exfalso;obtain⟨m,bo,hc⟩:=D1 g2 (k-(i+1)) b (by rw[QpO,show i+1+(k-(i+1))=k from I];exact hb);rw[QpO,show i+1+(k-(i+1))=k from I]at bo;exact au k m bo I (by have:=hc (.inr (.inl ⟨l,bh,hr⟩));simpa using this) hl
  have b7:=a4 _ a w hR c1 c2 c3 c4 Q;have am:i<listed.size:=I
  refine wpOp_mono (λa' w' b0=>?_) b7;refine ih (listed.setIfInBounds i true) a' w' (by simpa using ao) ?_ ?_ ?_
  ·intro j oj a3 hl e he hb;rw[SQ am]at hl ⊢;rcases hl with rfl | hl
   ·have:oj=o:=by
     have:ops[j]? = some oj:=by simpa using a3
     rw[ho]at this;injection this with this;exact this.symm
    subst this;exact .inr (bv e he hb)
   ·exact .inr (a9 j oj a3 hl e he hb)
  ·have:(List.range ops.size).countP (λj=>!(listed.setIfInBounds i true).getD j false)<(List.range ops.size).countP (λj=>!listed.getD j false):=by
    refine SJ (i:=i) (by simpa using bn) (λx _ hx=>?_) ?_ ?_
    ·cases hl:listed.getD x false with
     |false=>rfl
     |true=>
      have:Lst (listed.setIfInBounds i true) x:=(SQ am).2 (.inr hl);simp only[Lst]at this;rw[this]at hx;cases hx
    ·cases hl:listed.getD i false with
     |false=>rfl
     |true=>exact absurd hl ay
    ·have:Lst (listed.setIfInBounds i true) i:=(SQ am).2 (.inl rfl);simp only[Lst]at this;rw[this];rfl
   omega
  ·have ai:∀k,k≠i->(Lst (listed.setIfInBounds i true) (0+k)↔Lst listed (0+k)):=λk hk=>by
    rw[SQ am];simp only[QpP];exact⟨λh=>h.resolve_left hk,.inr⟩
   have ba:Lst (listed.setIfInBounds i true) (0+i):=by rw[SQ am];exact .inl (QpP i)
   refine b0.same ?_ (λt=>?_) ?_
   ·rw[Q1j];simp[put,Q1j]
   ·rw[Lm,Q9d];by_cases e:rc.dst=some t
    ·rw[if_pos e];refine Q7w recs 0 i rc _ ak ba e rfl λk' b hk hb hl=>?_
     intro ax;rw[ai k' I]at hl;simp only[QpP]at hl;exact aj k' b hk hb (.inl (by simp[WU,e,ax])) hl
    ·rw[QpW e,Lm];refine Ez recs 0 _ λk b hb ax=>ai k (λe2=>?_)
     subst e2;rw[ak]at hb;injection hb with hb;subst hb
     exact e ax
   ·rw[DL];funext l;have:look (put (Du listed 0 aa recs) rc.dst rc.dl).h l=KS (hA listed 0 (look aa.h) recs) rc.dl.wr l:=by
     simp only[put,Hi,DL]
    rw[this];by_cases e:l∈wrL rc.dl
    ·exact Q9m _ recs 0 i rc _ ak ba e λk' b hk hb hl hw=>by
      rw[ai k' I]at hl;simp only[QpP]at hl;exact aj k' b hk hb (.inl (by simp[WU,RQ e hw])) hl
    ·rw[UM e];refine Bg recs 0 _ _ rfl λk b hb hw=>ai k (λe2=>?_)
     subst e2;rw[ak]at hb;injection hb with hb;subst hb
     exact e hw
end
end Go.Vx
namespace Go.Vx
variable{β:Nat->oP Nat} {S:Nat->Prop} {w:World} {st:St} {a:Act}
section
variable{P:Program} {E:Env} {R:Type}
def inv(ρ:Y (Nat×Nat))(k:Nat):oP Nat:=
 match ρ with
 |[]=>none
 |(l,l')::r=>if l'=k then some l else inv r k
theorem Q9Q{k l:Nat}:∀{ρ:Y (Nat×Nat)},inv ρ k=some l->(l,k)∈ρ
 |(a,b)::r,h=>by
  unfold inv at h;by_cases e:b=k
  ·rw[if_pos e]at h;injection h with h;subst e;subst h;simp
  ·rw[QpW e]at h;simp[Q9Q h]
theorem Ht{ρ:Y (Nat×Nat)}{f:Nat×Nat->Nat}(h:Xn (ρ.map f)=true):∀p q,p∈ρ->q∈ρ->f p=f q->p=q:=by
 induction ρ with
 |nil=>simp_all
 |cons x r ih=>
  simp only[QpR,Xn,QpE,QpL]at h;have hx:∀q∈r,f q≠f x:=λq hq e=>by
   have:PM (f x) (r.map f)=true:=B6.2 (QpX.2 ⟨q,hq,e⟩)
   simp_all
  grind
theorem Q4c{ρ:Y (Nat×Nat)}(h:Xn (ρ.map (·.2))=true){l k:Nat}(hm:(l,k)∈ρ):inv ρ k=some l:=by
 induction ρ with
 |nil=>simp at hm
 |cons x r ih=>
  obtain⟨a,b⟩:=x;unfold inv;by_cases e:b=k
  ·have:=Ht h (a,b) (l,k) Q2 hm e
   simp_all
  ·rcases QpK.1 hm with hm | hm
   all_goals simp_all [absurd,QpR,Xn,QpE]
theorem Y2{α:Type}{l:Nat}{o:α}:∀{ρ:Y (Nat×α)},look ρ l=some o->(l,o)∈ρ
 |(a,b)::r,h=>by
  rw[Xd]at h;by_cases e:l=a
  ·rw[if_pos e]at h;injection h with h;subst e;subst h;simp
  ·rw[QpW e]at h;simp[Y2 h]
theorem S8{ρ:Y (Nat×Nat)}{h:Y (Nat×Ob)}:∀{ρs:Y (Nat×Nat)} {k:Nat} {o:Ob},look (D3 ρ h ρs) k=some o->∃l o',(l,k)∈ρs/\look h l=some o'/\o=QcB ρ o'
 |[],k,o,hk=>by simp[D3,look]at hk
 |(l,l')::r,k,o,hk=>by
  unfold D3 at hk;split at hk
  ·rename_i o' aa;rw[Xd]at hk;by_cases e:k=l'
   ·rw[if_pos e]at hk;injection hk with hk
    subst e;exact⟨l,o',by simp,aa,hk.symm⟩
   ·rw[QpW e]at hk;obtain⟨l2,o2,h1,h2⟩:=S8 hk;exact⟨l2,o2,by simp[h1],h2⟩
  ·obtain⟨l2,o2,h1,h2⟩:=S8 hk;exact⟨l2,o2,by simp[h1],h2⟩
theorem SE{ρ:Y (Nat×Nat)}{h:Y (Nat×Ob)}:∀{ρs:Y (Nat×Nat)} {l k:Nat} {o:Ob},Xn (ρs.map (·.2))=true->(l,k)∈ρs->look h l=some o->look (D3 ρ h ρs) k=some (QcB ρ o)
 |[],l,k,o,_,hm,_=>by simp at hm
 |(a,b)::r,l,k,o,hn,hm,ho=>by
  have aj:=hn;simp only[QpR,Xn,QpE,QpL]at hn;unfold D3;rcases QpK.1 hm with e | aa
  ·injection e with e1 e2
   subst e1;subst e2;rw[ho];simp[Xd]
  ·have ac:k≠b:=λe=>by
    subst e;have:PM k (r.map (·.2))=true:=B6.2 (QpX.2 ⟨(l,k),aa,rfl⟩);rw[hn.1]at this;cases this
   have ih:=SE (ρ:=ρ) (h:=h) hn.2 aa ho;split
   ·rw[Xd,QpW ac];exact ih
   ·exact ih
theorem VK{ρ:Y (Nat×Nat)}:∀{l:Y AV} {i:Nat},(Q3i ρ l)[i]? = (l[i]?).map (U7 ρ)
 |[],i=>by simp[Q3i]
 |a::r,0=>by simp[Q3i]
 |a::r,i+1=>by simp only[Q3i,List.getElem?_cons_succ];exact VK
theorem Z7{ρ:Y (Nat×Nat)}:∀{l:Y AV},(Q3i ρ l).length=l.length
 |[]=>rfl
 |a::r=>by simp[Q3i,Z7 (l:=r)]
theorem Q1A{ρ:Y (Nat×Nat)}{ty:TypeId}{cells:Y AV}(h:Q5k ty cells):Q5k ty (Q3i ρ cells):=by
 intro i l t hi;rw[VK,QpF]at hi;obtain⟨y,hy,he⟩:=hi;cases y with
 |sa l' t'=>
  simp only[U7]at he;split at he
  ·injection he with h1 h2
   subst h2;exact h i l' _ hy
  ·cases he
 |ptr a b=>grind[U7]
 |arr a=>grind[U7]
 |ap a b c=>simp only[U7]at he;split at he<;>cases he
 |_=>trivial
theorem Qca{ty:TypeId}{cells:Y AV}{c l:Nat}(h:Q5k ty cells):Q5k ty (cells.set c (.arr l)):=by
 intro i l' t hi;rw[List.getElem?_set]at hi;split at hi
 ·simp_all
 ·exact h i l' t hi
theorem Q7h{ρ:Y (Nat×Nat)}{h:Y (Nat×Ob)}(hn:Xn (ρ.map (·.2))=true){β':Nat->oP Nat}(ar:∀l k,(l,k)∈ρ->β' k=β l){tm:Nat->Value}{v:Value}{av:AV}(hv:RdA β S (look h) w tm v av):RdA β' S (look (D3 ρ h ρ)) w tm v (U7 ρ av):=by
 have hβ:∀{l l':Nat},look ρ l=some l'->β' l'=β l:=λ{l l'} hl=>ar l l' (Y2 hl)
 have ac:∀{l l':Nat},look ρ l=some l'->look h l=none->look (D3 ρ h ρ) l'=none:=λ{l l'} hl hh=>by
  cases hk:look (D3 ρ h ρ) l' with
  |none=>rfl
  |some o=>
   obtain⟨l2,o2,h1,h2,_⟩:=S8 hk;have e1:=Q4c hn h1;rw[Q4c hn (Y2 hl)]at e1
   simp_all
 induction hv with
 |top v=>exact .top v
 |d v x hx=>exact .d v x hx
 |nil=>exact .nil
 |ag cs l hl _ ih=>
  refine .ag cs _ (by grind[Z7]) λi x hx=>?_
  grind[VK,Option.map_eq_some_iff]
 |tup cs l hl _ ih=>
  refine .tup cs _ (by rw[Z7];exact hl) λi x hx=>?_
  rw[VK,QpF]at hx
  grind
 |fn f cs l hl _ ih=>
  refine .fn f cs _ (by rw[Z7];exact hl) λi x hx=>?_
  rw[VK,QpF]at hx;obtain⟨y,hy,rfl⟩:=hx;exact ih i y hy
 |ptr l off b hb=>
  unfold U7;split
  ·rename_i l' hl;exact .ptr _ _ _ ((hβ hl).trans hb)
  ·exact .top _
 |sa v l t b hb hv=>
  unfold U7;split
  ·rename_i l' hl;exact .sa _ _ _ b ((hβ hl).trans hb) hv
  ·exact .top _
 |el ad row off c hs hc hr=>exact .el ad row off c hs hc hr
 |fs ad s rows hx=>exact .fs ad s rows hx
 |mpd v f hm=>exact .mpd v f hm
 |ex v=>exact .ex v
 |arr0 l e s hb hh=>
  unfold U7;split
  ·rename_i l' hl;exact .arr0 _ e s ((hβ hl).trans hb) (SE hn (Y2 hl) hh)
  ·exact .top _
 |arr l b cap e s rows cs ty fz hb hh hw ao am an=>
  unfold U7;split
  ·rename_i l' hl;exact .arr _ b cap e s rows cs ty fz ((hβ hl).trans hb) (SE hn (Y2 hl) hh) hw ao am an
  ·exact .top _
 |mp l b t f hb hh=>
  unfold U7;split
  ·rename_i l' hl;exact .mp _ b t f ((hβ hl).trans hb) (SE hn (Y2 hl) hh)
  ·exact .top _
 |ap l i off b e s rows hb hh=>
  unfold U7;split
  ·rename_i l' hl;exact .ap _ i off b e s rows ((hβ hl).trans hb) (SE hn (Y2 hl) hh)
  ·exact .top _
 |dang v av l hl hh h1=>
  cases av<;>simp[P0]at hl
  ·subst hl;unfold U7;split
   ·rename_i l' aj;exact .dang _ _ l' rfl (ac aj hh) h1
   ·exact .top _
  ·subst hl;unfold U7;split
   ·rename_i l' aj;exact .dang _ _ l' rfl (ac aj hh) h1
   ·exact .top _
 |gdT=>exact .top _
 |gdF=>exact .top _
theorem Q1q{ρ:Y (Nat×Nat)}{tm:Y (Nat×AV)}{t:Nat}{av:AV}:∀{ks:Y Nat},look (Qaq ρ tm ks) t=some av->av=U7 ρ (lkT tm t)
 |k::r,h=>by
  simp only[Qaq,Xd]at h;by_cases e:t=k
  ·rw[if_pos e]at h;injection h with h;rw[<- h,e]
  ·rw[QpW e]at h;exact Q1q h
theorem QbR{ρ:Y (Nat×Nat)}{ks:Y Nat}(h1:Xn (ρ.map (·.1))=true)(h2:Xn (ρ.map (·.2))=true)(h3:∀l k,(l,k)∈ρ->l=k\/k<=999999)(h:JB E st a w):JB E { n:=st.n,tm:=Qaq ρ st.tm ks,h:=D3 ρ st.h ρ } a w:=by
 obtain⟨β,S,hR⟩:=h;have hβ:∀l k,(l,k)∈ρ->(if 1000000<=k then β k else(inv ρ k).bind β)=β l:=by
  intro l k hm;split
  ·grind
  ·rw[Q4c h2 hm];rfl
 have aa:∀{k b:Nat},(look (D3 ρ st.h ρ) k).isSome=true->(if 1000000<=k then β k else(inv ρ k).bind β)=some b->∃l,(l,k)∈ρ/\(look st.h l).isSome=true/\β l=some b:=by
  grind[Option.isSome_iff_exists,S8]
 refine⟨λk=>if 1000000<=k then β k else(inv ρ k).bind β,S,hR.n,hR.dfr,λt av ht=>?_,⟨λk o ho=>?_,λk k' b s1 s2 b1 b2=>?_,λk b s1 b1=>?_,λk b s1 b1=>?_,hR.hr.sb,hR.hr.sfr,hR.hr.s0,hR.hr.fr,λk hk=>by simp only[if_pos hk];exact hR.hr.pin k hk,λk b hk s1 b1=>?_⟩⟩
 ·rw[Q1q ht];refine Q7h h2 hβ ?_;unfold lkT;cases hl:look st.tm t with
  |none=>exact .top _
  |some aw=>exact hR.tm t aw hl
 ·obtain⟨l,o',g1,g2,rfl⟩:=S8 ho;have ai:=hβ l k g1;have aj:=hR.hr.ob l o' g2;cases o' with
  |box cells=>
   obtain⟨b,ty,cs,fz,hb,hw,hf,ak,hr⟩:=aj;refine⟨b,ty,cs,fz,ai.trans hb,hw,⟨hf.1,Q1A hf.2⟩,by rw[ak,Z7],λi x hx=>?_⟩;rw[VK,QpF]at hx;obtain⟨y,hy,rfl⟩:=hx
   grind[Q7h]
  |arr e s rows=>
   rcases aj with⟨hb,hn⟩|⟨b,cs,hb,hw,ak,ar,hr⟩
   ·exact .inl ⟨ai.trans hb,hn⟩
   ·exact .inr ⟨b,cs,ai.trans hb,hw,ak,ar,hr⟩
  |mp t f=>
   obtain⟨b,hb,hm⟩:=aj;exact⟨b,ai.trans hb,hm⟩
 ·obtain⟨l,g1,g2,g3⟩:=aa s1 b1;obtain⟨l',an,ao,au⟩:=aa s2 b2;have:=hR.hr.inj l l' b g2 ao g3 au;subst this;have:=Ht h1 (l,k) (l,k') g1 an rfl
  simp_all
 ·obtain⟨l,g1,g2,g3⟩:=aa s1 b1;exact hR.hr.apart l b g2 g3
 ·obtain⟨l,g1,g2,g3⟩:=aa s1 b1;exact hR.hr.own l b g2 g3
 ·obtain⟨l,g1,g2,g3⟩:=aa s1 b1;rcases h3 l k g1 with h | h
  ·subst h;exact hR.hr.psz l b hk g2 g3
  ·omega
theorem Q4n{t k:Nat}{v av:AV}:∀{tm:Y (Nat×AV)},look (QhS tm t v) k=some av->(k=t/\av=v)\/look tm k=some av
 |(a,b)::r,h=>by
  unfold QhS at h;cases hb:Nat.beq a t with
  |true=>
   have:=QpD hb;subst this;simp only[hb,QpJ,Xd]at h;by_cases e:k=a
   ·rw[if_pos e]at h;injection h with h;exact .inl ⟨e,h.symm⟩
   ·rw[QpW e]at h;exact .inr (by rw[Xd,QpW e];exact h)
  |false=>
   simp only[hb,QpU,Xd]at h;by_cases e:k=a
   ·rw[if_pos e]at h;exact .inr (by rw[Xd,if_pos e];exact h)
   ·rw[QpW e]at h;rcases Q4n h with h | h
    ·exact .inl h
    ·exact .inr (by rw[Xd,QpW e];exact h)
theorem Q42(hR:Rel E β S st a w){l e s:Nat}(hc:Ut st l=true)(hn:look st.h l=none):Rel E (RG β l none) S ⟨st.n,st.tm,(l,.arr e s [])::st.h⟩ a w:=by
 have ac:∀k,look ((l,Ob.arr e s [])::st.h) k=if k=l then some (.arr e s [])else look st.h k:=λk=>Xd l k _ st.h
 have aa:∀{k b:Nat},(look ((l,Ob.arr e s [])::st.h) k).isSome=true->RG β l none k=some b->(look st.h k).isSome=true/\β k=some b:=by
  intro k b h1 h2
  simp_all [RG,if_pos,QpW]
 refine hR.upd (λ_ h=>h) (λ_ _=>rfl) (λk=>k=l) (λk hk=>⟨by grind[RG],by simp_all,λ_ _ _=>rfl⟩) (λk hk=>.inr (hk▸hc)) (λk o hk ho=>?_) (λk k' b h1 h2 h3 h4=>?_) (λk b h1 h2=>?_) (λk b h1 h2=>?_) hR.hr.sb hR.hr.sfr hR.hr.fr
 ·subst hk;rw[ac,if_pos rfl]at ho;injection ho with ho
  subst ho;exact .inl ⟨by simp[RG],rfl⟩
 ·exact hR.hr.inj k k' b (aa h1 h3).1 (aa h2 h4).1 (aa h1 h3).2 (aa h2 h4).2
 ·exact hR.hr.apart k b (aa h1 h2).1 (aa h1 h2).2
 ·exact hR.hr.own k b (aa h1 h2).1 (aa h1 h2).2
theorem B5{a:Act}{w:World}:∀(l:Y (Nat×Nat×Nat×Nat)) (st:St),JB E st a w->JB E (Qfh st l) a w
 |[],st,h=>h
 |(t,l,e,s)::r,st,h=>by
  unfold Qfh;split
  ·rename_i ac;cases hc:(Ut st l&&(look st.h l).isNone)with
   |false=>simp only[QpU];exact B5 r st h
   |true=>
    simp only[QpJ];refine B5 r _ ?_;simp only[QpE,Option.isNone_iff_eq_none]at hc;obtain⟨β,S,hR⟩:=h;have aa:=Q42 (e:=e) (s:=s) hR hc.1 hc.2;have hv:=(hR.tm t _ (R2 ac Q2)).nil_inv;refine⟨_,S,aa.n,aa.dfr,λt' av ht=>?_,aa.hr⟩;rcases Q4n ht with⟨rfl,rfl⟩ | ht
    ·rw[hv];exact .arr0 l e s (by simp[RG]) (by simp[Xd])
    ·exact aa.tm t' av ht
  ·exact B5 r st h
theorem Ep{a:Act}{w:World}:∀(l:Y (Nat×Nat×Nat×Nat×Nat)) (st:St),JB E st a w->JB E (Qf8 st l) a w
 |[],st,h=>h
 |(b,c,l,e,s)::r,st,h=>by
  unfold Qf8;split
  ·rename_i cells a2;split
   ·rename_i am;cases hc:(Ut st l&&(look st.h l).isNone)with
    |false=>simp only[QpU];exact Ep r st h
    |true=>
     simp only[QpJ];refine Ep r _ ?_;simp only[QpE,Option.isNone_iff_eq_none]at hc;obtain⟨β,S,hR⟩:=h;have aw:b≠l:=λe=>by simp_all
     have ar:=Q42 (e:=e) (s:=s) hR hc.1 hc.2;have aa:look ((l,Ob.arr e s [])::st.h) b=some (.box cells):=by simp_all [Xd,QpW]
     obtain⟨bb,ty,cs,fz,hb,hw,hf,ay,hr⟩:=ar.hr.ob b _ aa;have au:=ar.set (w':=w) (o':=.box (cells.set c (.arr l))) aa hb (λ_ _=>rfl) rfl rfl rfl rfl ?_ ?_
     ·refine JB.same ⟨_,S,au⟩ rfl (λ_=>rfl) ?_
      grind[Xd,B7]
     ·refine⟨rfl,λh=>?_,λe' s' rows h=>?_,λb2 ac aj ak _ _ ai=>⟨ac,aj,ak,ai,rfl⟩,λt f h=>by simp_all⟩
      all_goals grind
     ·have an:∀k,Keep (RG β l none) (look ((l,Ob.arr e s [])::st.h)) w (RG β l none) (look ((b,.box (cells.set c (.arr l)))::rem b ((l,Ob.arr e s [])::st.h))) w k:=by
       intro k;by_cases e1:k=b
       ·subst e1;refine⟨rfl,λh=>?_,λe' s' rows h=>?_,λb2 ac aj ak _ _ ai=>⟨ac,aj,ak,ai,rfl⟩,λt f h=>by rw[aa]at h;cases h⟩
        ·rw[aa]at h;cases h
        ·rw[aa]at h;cases h
       ·refine⟨rfl,λh=>by rw[WT,QpW e1];exact h,λe' s' rows h=>.inr ⟨rows,by rw[WT,QpW e1];exact h,rfl⟩,λb2 ac aj ak _ _ ai=>⟨ac,aj,ak,ai,rfl⟩,λ_ f h=>.inr ⟨f,by rw[WT,QpW e1];exact h⟩⟩
      refine⟨bb,ty,cs,fz,hb,hw,⟨hf.1,Qca hf.2⟩,by simpa using ay,λi x hx=>?_⟩;by_cases e1:i=c
      ·subst e1;have ax:=(QpG.1 am).1;rw[List.getElem?_set_self ax]at hx;injection hx with hx
       subst hx;rw[(hr i _ am).nil_inv];exact .arr0 l e s (by simp[RG]) (by rw[WT,QpW (Ne.symm aw),Xd,if_pos rfl])
      ·rw[List.getElem?_set_ne (Ne.symm e1)]at hx;exact(hr i x hx).mono (λ_ h=>h) (λ_ _=>rfl) (λk _=>an k) (λ_ _=>rfl)
   ·exact Ep r st h
  ·exact Ep r st h
theorem Qah(c:Cfg)(h:JB E st a w):JB E (Qet c st) a w:=by
 unfold Qet;cases hc:(Xn (c.locs.map (·.1))&&(Xn (c.locs.map (·.2))&&c.locs.all λp=>Nat.beq p.1 p.2||Nat.ble p.2 999999))with
 |false=>simpa using h
 |true=>
  simp only[QpE]at hc;exact Ep _ _ (B5 _ _ (QbR hc.1 hc.2.1 (λl k hm=>by
   simp_all) h))
theorem Dr{l s:Nat}{rows:Y (Y D)}:∀{r:Y AV} {i:Nat},(fzL l s rows r)[i]? = (r[i]?).map (fzA l s rows)
 |[],i=>by simp[fzL]
 |a::r,0=>by simp[fzL]
 |a::r,i+1=>by simp only[fzL,List.getElem?_cons_succ];exact Dr
theorem SD{l s:Nat}{rows:Y (Y D)}:∀{r:Y AV},(fzL l s rows r).length=r.length
 |[]=>rfl
 |a::r=>by simp[fzL,SD (r:=r)]
theorem Q7H{l s:Nat}{rows:Y (Y D)}{t:Nat}:∀{tm:Y (Nat×AV)},look (fzT l s rows tm) t=(look tm t).map (fzA l s rows)
 |[]=>rfl
 |(a,b)::r=>by
  simp only[fzT,Xd];by_cases e:t=a
  ·simp[e]
  ·simp only[e,if_false];exact Q7H
theorem Au{l s:Nat}{rows:Y (Y D)}{k:Nat}:∀{h:Y (Nat×Ob)},look (Qd9 l s rows h) k=if k=l then none else(look h k).map (fzO l s rows)
 |[]=>by simp[Qd9,look]
 |(a,b)::r=>by
  simp only[Qd9];cases hb:Nat.beq a l with
  |true=>
   have:=QpD hb;subst this;simp only[QpJ];rw[Au (h:=r),Xd];by_cases e:k=a
   ·simp[e]
   ·simp[e]
  |false=>
   have aa:a≠l:=λe=>by subst e;simp at hb
   simp only[QpU,Xd];by_cases e:k=a
   ·subst e;simp[aa]
   ·simp only[e,if_false];exact Au
theorem Qer{ty:TypeId}{l s:Nat}{rows:Y (Y D)}{cells:Y AV}(h:Q5k ty cells):Q5k ty (fzL l s rows cells):=by
 intro i l' t hi;rw[Dr,QpF]at hi;obtain⟨y,hy,he⟩:=hi;cases y with
 |sa a b=>injection he with h1 h2;subst h2;exact h i a _ hy
 |arr k=>grind[fzA,Nat.beq]
 |ap k a b=>grind[fzA]
 |_=>trivial
theorem QcL{h h':Nat->oP Ob}{l e s:Nat}{rows:Y (Y D)}(hO:Objs β S h w)(hh:h l=some (.arr e s rows))(ak:∀k,h' k=if k=l then none else(h k).map (fzO l s rows)){S':Nat->Prop}(hS:∀b,S b->S' b)(hb:∀b,β l=some b->S' b){tm:Nat->Value}{v:Value}{av:AV}(hv:RdA β S h w tm v av):RdA β S' h' w tm v (fzA l s rows av):=by
 induction hv with
 |top v=>exact .top v
 |d v x hx=>exact .d v x (hx.mono hS (λ_ _=>rfl))
 |nil=>exact .nil
 |ag cs r hl _ ih=>
  refine .ag cs _ (by grind[SD]) λi x hx=>?_
  grind[Dr,Option.map_eq_some_iff]
 |tup cs r hl _ ih=>
  refine .tup cs _ (by rw[SD];exact hl) λi x hx=>?_
  rw[Dr,QpF]at hx
  grind
 |fn f cs r hl _ ih=>
  refine .fn f cs _ (by rw[SD];exact hl) λi x hx=>?_
  rw[Dr,QpF]at hx;obtain⟨y,hy,rfl⟩:=hx;exact ih i y hy
 |ptr k off b aa=>exact .ptr k off b aa
 |sa v k t b aa hv=>exact .sa v k t b aa hv
 |el ad row off c hs hc hr=>exact .el ad row off c (hS _ hs) hc (λj x hx=>(hr j x hx).mono hS (λ_ _=>rfl))
 |fs ad s rows hx=>exact .fs ad s rows (hx.mono hS (λ_ _=>rfl))
 |mpd v f hm=>exact .mpd v f (hm.mono hS (λ_ _=>rfl))
 |ex v=>exact .ex v
 |arr0 k e' s' aa hk=>
  unfold fzA;cases aj:Nat.beq k l with
  |true=>
   obtain rfl:=QpD aj;rw[hh]at hk;injection hk with hk
   injection hk with _ _ hk
   subst hk;exact .d _ _ (.sl0 _ _ _)
  |false=>
   have ac:k≠l:=λe=>by simp_all
   exact .arr0 k e' s' aa (by rw[ak,QpW ac,hk];rfl)
 |arr k b cap e' s' ai cs ty fz aa hk hw ar am an=>
  unfold fzA;cases aj:Nat.beq k l with
  |true=>
   obtain rfl:=QpD aj;exact .d _ _ (Q7B hO hh (RdA.arr (tm:=tm) k b cap e' s' ai cs ty fz aa hk hw ar am an) hS hb)
  |false=>
   have ac:k≠l:=λe=>by subst e;simp at aj
   exact .arr k b cap e' s' ai cs ty fz aa (by rw[ak,QpW ac,hk];rfl) hw ar am an
 |mp k b t f aa hk=>
  unfold fzA;cases aj:Nat.beq k l with
  |true=>
   simp_all
  |false=>
   have ac:k≠l:=λe=>by subst e;simp at aj
   exact .mp k b t f aa (by rw[ak,QpW ac,hk];rfl)
 |ap k i off b e' s' ai aa hk=>
  unfold fzA;cases aj:Nat.beq k l with
  |true=>exact .top _
  |false=>
   have ac:k≠l:=λe=>by subst e;simp at aj
   exact .ap k i off b e' s' ai aa (by rw[ak,QpW ac,hk];rfl)
 |dang v av k hl hk h1=>
  have ac:k≠l:=λe=>by simp_all
  have hn:h' k=none:=by rw[ak,QpW ac,hk];rfl
  cases av<;>simp[P0]at hl
  ·subst hl;unfold fzA;rw[Qee ac];exact .dang _ _ _ rfl hn h1
  ·subst hl;unfold fzA;rw[Qee ac];exact .dang _ _ _ rfl hn h1
 |gdT=>exact .top _
 |gdF=>exact .top _
theorem QeZ(l:Nat)(h:JB E st a w):JB E (fz1 st l) a w:=by
 unfold fz1;split
 case h_2=>exact h
 rename_i e s rows hl;obtain⟨β,S,hR⟩:=h;have hO:=hR.objs;have ao:∀k,look (Qd9 l s rows st.h) k=if k=l then none else(look st.h k).map (fzO l s rows):=λk=>Au
 have hS:∀b,S b->fzS β S [l] b:=λb hb=>.inl hb
 have au:∀b,β l=some b->fzS β S [l] b:=λb hb=>.inr ⟨l,by simp,hb⟩
 have aa:∀k,(look (Qd9 l s rows st.h) k).isSome=true->(look st.h k).isSome=true/\k≠l:=by
  grind
 refine⟨β,fzS β S [l],hR.n,hR.dfr,λt av ht=>?_,⟨λk o ho=>?_,λk k' b h1 h2=>hR.hr.inj k k' b (aa k h1).1 (aa k' h2).1,λk b h1 h2 ac=>?_,λk b h1 h2=>hR.hr.own k b (aa k h1).1 h2,λb ac=>?_,λb ac=>?_,λb hb=>.inl (hR.hr.s0 b hb),hR.hr.fr,hR.hr.pin,λk b hk h1=>hR.hr.psz k b hk (aa k h1).1⟩⟩
 ·rw[Q7H,QpF]at ht;obtain⟨a3,h1,rfl⟩:=ht;exact QcL hO hl ao hS au (hR.tm t a3 h1)
 ·simp only at ho;rw[ao]at ho;by_cases e1:k=l
  ·simp_all
  ·rw[QpW e1,QpF]at ho;obtain⟨o',a2,rfl⟩:=ho;have ak:=hR.hr.ob k o' a2;cases o' with
   |box cells=>
    obtain⟨b,ty,cs,fz,hb,hw,hf,am,hr⟩:=ak;refine⟨b,ty,cs,fz,hb,hw,⟨hf.1,Qer hf.2⟩,by rw[am,SD],λi x hx=>?_⟩;rw[Dr,QpF]at hx;obtain⟨y,hy,rfl⟩:=hx
    grind[QcL]
   |arr e' s' ay=>
    rcases ak with h0 | ⟨b,cs,hb,hw,am,az,hr⟩
    ·exact .inl h0
    ·refine .inr ⟨b,cs,hb,hw,am,az,λi j r x h4 h5=>?_⟩;obtain⟨v,hv,ax⟩:=hr i j r x h4 h5;exact⟨v,hv,ax.mono hS (λ_ _=>rfl)⟩
   |mp t f=>exact ak
 ·obtain⟨an,aw⟩:=aa k h1;rcases ac with ac | ⟨l',ai,aj⟩
  ·exact hR.hr.apart k b an h2 ac
  ·simp at ai;subst ai;exact aw (hR.hr.inj k l' b an (by simp[hl]) h2 aj)
 ·rcases ac with ac | ⟨l',ai,aj⟩
  ·exact hR.hr.sb b ac
  ·simp at ai;subst ai;exact Ky hR (by simp[hl]) aj
 ·rcases ac with ac | ⟨l',ai,aj⟩
  ·exact hR.hr.sfr b ac
  ·simp at ai;subst ai;exact .inr (hR.hr.own l' b (by simp[hl]) aj)
theorem Qb5{a:Act}{w:World}:∀(ls:Y Nat) (st:St),JB E st a w->JB E (fzs st ls) a w
 |[],_,h=>h
 |l::r,_,h=>Qb5 r _ (QeZ l h)
theorem P4(c:Cfg)(h:JB E st a w):JB E (Qe2 c st) a w:=Qah _ (Qb5 c.fz st h)
theorem Q8S(c:Cfg)(h:JB E st a w):JB E (Qcw c st) a w:=by
 grind[Qcw,P4]
end
end Go.Vx
namespace Go.Vx
variable{β:Nat->oP Nat} {S:Nat->Prop} {w:World}
section
variable{P:Program} {E:Env} {R:Type}
theorem JB.drawn{st:St}{a:Act}{w:World}(h:JB E st a w)(n:Nat):JB E st a { w with drawn:=n }:=by
 obtain⟨β,S,hR⟩:=h;have hA:∀(tm:Nat->Value) (v:Value) (av:AV),RdA β S (look st.h) w tm v av->RdA β S (look st.h) { w with drawn:=n } tm v av:=λtm v av hv=>
  hv.mono (λ_ h=>h) (λ_ _=>rfl) (λl _=>⟨rfl,λx=>x,λ_ _ rows hh=>.inr ⟨rows,hh,rfl⟩,λ_ cs ty fz _ _ hw=>⟨cs,ty,fz,hw,rfl⟩,λ_ f hh=>.inr ⟨f,hh⟩⟩) (λ_ _=>rfl)
 refine⟨β,S,hR.n,hR.dfr,λt av ht=>hA _ _ _ (hR.tm t av ht),⟨λl o ho=>?_,hR.hr.inj,hR.hr.apart,hR.hr.own,hR.hr.sb,hR.hr.sfr,hR.hr.s0,⟨hR.hr.fr.os,hR.hr.fr.tape,hR.hr.fr.output,hR.hr.fr.size,hR.hr.fr.block⟩,hR.hr.pin,hR.hr.psz⟩⟩;have aa:=hR.hr.ob l o ho;cases o with
 |box cells=>
  obtain⟨b,ty,cs,fz,hb,hw,hf,ac,hr⟩:=aa;exact⟨b,ty,cs,fz,hb,hw,hf,ac,λi x hx=>hA _ _ _ (hr i x hx)⟩
 |arr e s rows=>
  rcases aa with h0 | ⟨b,cs,hb,hw,ac,ak,hr⟩
  ·exact .inl h0
  ·refine .inr ⟨b,cs,hb,hw,ac,ak,λi j r x h4 h5=>?_⟩;obtain⟨v,hv,ai⟩:=hr i j r x h4 h5;exact⟨v,hv,Rd.mono (w:=w) (w':={ w with drawn:=n }) (λ_ h=>h) (λ_ _=>rfl) ai⟩
 |mp t f=>exact aa
structure VCOk(P:Program)(C:VC):Prop where
 spec:BP P C.spec
 tt:TOk P C.tt
 mixed:P.follows .mixedOrders=true
def E6(E:Env)(k:Exit->St->oP R)(r:R):Exit->Act->World->Prop:=λe a w=>∃st,JB E st a w/\k e st=some r
theorem Fl{C:VC}(hC:VCOk P C){id:Nat}{ops:Array Oper}{aa:Bool}{st:St}{k:St->oP R}{r:R}(h:Q1z C id ops aa st k=some r){a:Act}(hR:JB E st a w){Q:Exit->Act->World->Prop}(hQ:∀st' a' w',JB E st' a' w'->k st'=some r->Q .normal a' w'):(Code.region id ops aa).wp P Q a w:=by
 unfold Q1z at h;obtain⟨recs,st',ac,h,ai⟩:∃recs st',recs.length=ops.toList.length/\(λst' recs=>bif !aa||Q3u st ops.toList recs then(match look C.cfg id with | some c=>k (Qcw c st') | none=>k st')else none) st' ([]++recs)=some r/\AP P E ops 0 st recs st':=by
  cases hs:(look C.cfg (id+1000000000)).isSome with
  |true=>simp only[hs,QpJ]at h;exact AW (E:=E) hC.spec hC.tt ops.toList 0 st [] _ r (λj=>by simp) h
  |false=>simp only[hs,QpU]at h;exact Q1o (E:=E) hC.spec hC.tt ops.toList 0 st [] _ r (λj=>by simp) h
 simp only[List.nil_append]at h;cases hc:(!aa||Q3u st ops.toList recs)with
 |false=>simp_all
 |true=>
  simp only[hc,QpJ]at h;have aj:∀a w,JB E st' a w->Q .normal a w:=by
   grind[Q8S]
  simp only[Array.length_toList]at ac;cases aa with
  |false=>
   grind[wp_region,Q90,List.range_eq_range']
  |true=>
   simp only[Bool.not_true,Bool.false_or]at hc;refine wp_region_any hC.mixed ?_;refine Qbl ac ai hc aj ops.size _ a _ Q2 ?_ ?_ ?_
   ·intro j o _ hl
    simp_all [Lst,Array.getD]
   ·refine Nat.le_trans List.countP_le_length ?_;simp
   ·have h0:∀(rs:Y Rec) (i:Nat) (s:St),Du (Array.replicate ops.size false) i s rs=s:=by
     intro rs;induction rs with
     |nil=>intro i s;rfl
     |cons x r ih=>
      intro i s;simp only[Du];have:(Array.replicate ops.size false).getD i false=false:=by simp[Array.getD]
      rw[this];exact ih (i+1) s
    rw[h0];exact hR.drawn _
theorem Q04{c:Code}{ac:St->(Exit->St->oP R)->oP R}(aa:∀(st:St) (k:Exit->St->oP R) (r:R),ac st k=some r->∀a w,JB E st a w->c.wp P (E6 E k r) a w) :
  ∀(n:Nat) (st:St) (k:Exit->St->oP R) (r:R),Q94 ac n st k=some r->∀a w,JB E st a w->Code.rounds P c (E6 E k r) n a w
 |0,st,k,r,h=>by simp[Q94]at h
 |n+1,st,k,r,h=>by
  intro a w hR;simp only[Q94]at h;rw[rounds_succ];refine wp_mono (aa st _ r h a w hR) λe a' w' hp=>?_
  obtain⟨st',ai,hk⟩:=hp;cases e with
  |normal=>exact Q04 aa n st' k r hk a' w' ai
  |exit id=>exact⟨st',ai,hk⟩
  |ret=>exact⟨st',ai,hk⟩
  |_=>cases hk
theorem Kp{C:VC}(hC:VCOk P C)(n:Nat):∀(c:Code) (st:St) (k:Exit->St->oP R) (r:R),Gf C n c st k=some r->∀a w,JB E st a w->c.wp P (E6 E k r) a w:=by
 intro c;induction c with
 |skip=>intro st k r h a w hR;exact wp_skip ⟨st,hR,h⟩
 |region id ops am=>
  intro st k r h a w hR;exact Fl hC h hR λst' a' w' aa hk=>⟨st',aa,hk⟩
 |seq x y aj ac=>
  intro st k r h a w hR;refine wp_seq (wp_mono (aj st _ r h a w hR) λe a' w' hp=>?_);obtain⟨st',aa,hk⟩:=hp;cases e with
  |normal=>exact ac st' k r hk a' w' aa
  |exit id=>exact⟨st',aa,hk⟩
  |ret=>exact⟨st',aa,hk⟩
  |_=>cases hk
 |cond c x y aj ac=>
  intro st k r h a w hR;simp only[Gf]at h;split at h
  ·rename_i e he;obtain⟨β,S,ai⟩:=hR;have hv:=(he▸Q4V ai c).bool_inv;refine wp_cond hv ?_;cases e with
   |true=>exact aj st k r (by simpa using h) a w ⟨β,S,ai⟩
   |false=>exact ac st k r (by simpa using h) a w ⟨β,S,ai⟩
  ·cases h
 |block id c ih=>
  intro st k r h a w hR;refine wp_block (wp_mono (ih st _ r h a w hR) λe a' w' hp=>?_);obtain⟨st',aa,hk⟩:=hp;cases e with
  |normal=>exact⟨st',aa,hk⟩
  |exit j=>
   cases hb:Nat.beq j id with
   |true=>
    simp only[hb,QpJ]at hk;have:=QpD hb;simp only[Exit.inBlock,this,if_true];exact⟨st',aa,hk⟩
   |false=>
    simp only[hb,QpU]at hk;have ak:¬ j=id:=λe=>by simp_all
    simp only[Exit.inBlock,ak,if_false];exact⟨st',aa,hk⟩
  |ret=>exact⟨st',aa,hk⟩
  |_=>cases hk
 |loop c ih=>
  intro st k r h a w hR;refine wp_loop_rounds _ (Q04 (λst k r h a w hR=>ih _ k r h a w ?_) _ st k r h a w hR)
  grind[Q15,P4]
 |exit id=>intro st k r h a w hR;exact wp_exit ⟨st,hR,h⟩
 |ret=>intro st k r h a w hR;exact wp_ret ⟨st,hR,h⟩
 |_=>grind[Gf]
theorem Pm:∀(t:Nat) (av:AV),NV av=true->gds t av=false
 |t,.gd ..,h=>by simp[NV]at h
 |t,.ag l,h=>by
  simp only[gds];exact go t l (by simpa[NV]using h)
 |t,.tup l,h=>by
  simp only[gds];exact go t l (by simpa[NV]using h)
 |t,.fn _ l,h=>by
  simp only[gds];exact go t l (by simpa[NV]using h)
 |t,.top,_=>rfl
 |t,.d _,_=>rfl
 |t,.nil,_=>rfl
 |t,.ptr ..,_=>rfl
 |t,.el ..,_=>rfl
 |t,.fs ..,_=>rfl
 |t,.mpd _,_=>rfl
 |t,.ex _,_=>rfl
 |t,.arr _,_=>rfl
 |t,.ap ..,_=>rfl
 |t,.sa ..,_=>rfl
where
 go:∀(t:Nat) (l:Y AV),Ki l=true->Q07 t l=false
 |_,[],_=>rfl
 |t,a::r,h=>by
  simp only[Ki,QpE]at h;simp only[Q07,QpV];exact⟨Pm t a h.1,go t r h.2⟩
theorem D0:∀{args:Y AV} {i t:Nat} {av:AV},look (Q2l i args) t=some av->∃j,t=i+j/\args[j]? = some av
 |a::r,i,t,av,h=>by
  simp only[Q2l,Xd]at h;by_cases e:t=i
  ·rw[if_pos e]at h;injection h with h;exact⟨0,I,by simp[h]⟩
  ·rw[QpW e]at h;obtain⟨j,h1,h2⟩:=D0 h;exact⟨j+1,I,by simpa using h2⟩
theorem BQ:∀{l:Y AV} {i:Nat} {x:AV},Ki l=true->l[i]? = some x->NV x=true
 |a::r,i,x,h,hx=>by
  simp only[Ki,QpE]at h;cases i with
  |zero=>simp at hx;subst hx;exact h.1
  |succ i=>exact BQ h.2 (by simpa using hx)
def Q5D(tmps:Array Value):ResultVar->Sem Value
 |.tmp t=>pure (tmps.getD t undef)
 |.cell x t=>do loadVar t (<- asAddr (tmps.getD x undef))
theorem Q1t(fn:Func)(tmps:Array Value):results fn tmps=(do
  let vs <- fn.results.mapM (Q5D tmps)
  pure (if h:vs.size=1 then vs[0]else .tuple vs)):=rfl
theorem Q14{ad:Addr}:(asAddr (.pointer (some ad))).run P w = .ok ad w:=by simp[asAddr]
theorem Q4F{C:VC}(hC:VCOk P C){st:St}{a:Act}(hR:Rel E β S st a w){rv:ResultVar}{av:AV}(h:Q4z C.tt st rv=some av) :
  ∃v,(Q5D a.tmps rv).run P w = .ok v w/\RdA β S (look st.h) w (tmv a) v av:=by
 cases rv with
 |tmp t=>
  simp only[Q4z,Option.some.injEq]at h;subst h;exact⟨_,rfl,Q4V hR (.tmp t)⟩
 |cell x ty=>
  simp only[Q4z]at h;split at h
  ·rename_i l off hl;obtain⟨b,hb,hv⟩:=(hR.tm x _ (R2 hl Q2)).ptr_inv;split at h
   ·rename_i cells ti am aw;have an:=hC.tt ty ti aw;obtain⟨b',ay,cs,fz,a3,hw,_,az,hr⟩:=hR.hr.ob l _ am;obtain rfl:b=b':=by simp_all
    have hx:a.tmps.getD x undef = .pointer (some ⟨b,off,none⟩):=hv;cases hs:UV ti.kd with
    |true=>
     simp only[hs,QpJ]at h;split at h
     ·rename_i a2 ax;cases h;obtain⟨h1,h2,h3⟩:=RO ax;have ai:∀j,j<ti.size->off+j<cs.size:=λj hj=>by
       grind
      have aa:=VY an hs (w:=w) (a:=⟨b,off,none⟩) (vs:=(List.range ti.size).map λj=>cs.getD (off+j) undef) Q2 (λj v hv=>by
       simp only[List.getElem?_map,QpF]at hv;obtain⟨j',ar,rfl⟩:=hv;obtain⟨ac,he⟩:=QpG.1 ar;simp at ac he;subst he;rw[Jy,J9 hw];exact KI (ai j ac))
      refine⟨.agg ((List.range ti.size).map λj=>cs.getD (off+j) undef).toArray,by simp only[Q5D,hx,QpM,Q14,QpI,aa],.ag _ _ (by simp[h1]) λi y hy=>?_⟩;have hi:i<ti.size:=by
       obtain⟨h6,_⟩:=QpG.1 hy;omega
      rw[FH (v:=cs.getD (off+i) undef) (by simp[hi])];exact(hr (off+i) y ((h2 i hi).trans hy)).any_tm (h3 i y hy)
     ·cases h
    |false=>
     simp only[hs,QpU]at h;split at h
     ·rename_i c hc;cases aj:Q0V c with
      |false=>simp[aj]at h
      |true=>
       simp only[aj,QpJ,Option.some.injEq]at h;subst h;have ai:off<cs.size:=by
        obtain⟨h6,_⟩:=QpG.1 hc;omega
       have aa:=VU an hs (w:=w) (a:=⟨b,off,none⟩) (v:=cs.getD off undef) (by rw[J9 hw];exact KI ai);exact⟨cs.getD off undef,by simp only[Q5D,hx,QpM,Q14,QpI,aa],(hr off c hc).any_tm aj⟩
     ·cases h
   ·cases h
  ·cases h
theorem DJ{C:VC}(hC:VCOk P C){st:St}{a:Act}{w:World}{β:Nat->oP Nat}{S:Nat->Prop}(hR:Rel E β S st a w):∀{rs:Y ResultVar} {aa:Y AV},Q1s C.tt st rs=some aa ->
  ∃vs:Y Value,(rs.mapM (Q5D a.tmps)).run P w = .ok vs w/\vs.length=aa.length/\Ki aa=true /\
   ∀(i:Nat) (v:Value) (av:AV),vs[i]? = some v->aa[i]? = some av->RdA β S (look st.h) w (tmv a) v av
 |[],aa,h=>by
  simp only[Q1s,Option.some.injEq]at h;subst h;exact⟨[],by simp,rfl,rfl,λi v av h=>by simp at h⟩
 |r::rs,aa,h=>by
  simp only[Q1s]at h;split at h
  ·rename_i x hx;split at h
   ·rename_i l hl;cases hg:NV x with
    |false=>simp[hg]at h
    |true=>
     simp only[hg,QpJ,Option.some.injEq]at h;subst h;obtain⟨v,hv,aj⟩:=Q4F hC hR hx;obtain⟨vs,h1,h2,h3,h4⟩:=DJ hC hR hl;refine⟨v::vs,?_,by simp[h2],by simp[Ki,hg,h3],λi u av hu ac=>?_⟩
     ·simp only[List.mapM_cons,QpM,hv,h1,QpI,Sem.run_pure]
     ·cases i with
      |zero=>simp at hu ac;subst hu;subst ac;exact aj
      |succ i=>exact h4 i u av (by simpa using hu) (by simpa using ac)
   ·cases h
  ·cases h
theorem AX{C:VC}(hC:VCOk P C){st:St}{a:Act}(hR:Rel E β S st a w){fn:Func}{av:AV}(h:Q0x C.tt st fn.results.toList=some av) :
  ∃v,(results fn a.tmps).run P w = .ok v w/\RdA β S (look st.h) w tm0 v av/\NV av=true:=by
 have ai:∀(v:Value) (av:AV),NV av=true->RdA β S (look st.h) w (tmv a) v av->RdA β S (look st.h) w tm0 v av:=λv av hg hr=>
  hr.mono (λ_ h=>h) (λ_ _=>rfl) (λl _=>Keep.rfl_ ..) (λt ht=>by grind[Pm])
 unfold Q0x at h;have ak:∀aa,Q1s C.tt st fn.results.toList=some aa->∃vs:Y Value,(fn.results.mapM (Q5D a.tmps)).run P w = .ok vs.toArray w/\vs.length=aa.length/\Ki aa=true /\
   ∀(i:Nat) (v:Value) (av:AV),vs[i]? = some v->aa[i]? = some av->RdA β S (look st.h) w (tmv a) v av:=by
  intro aa ha;obtain⟨vs,h1,h2,h3,h4⟩:=DJ hC hR ha;refine⟨vs,?_,h2,h3,h4⟩;rw[<- Array.toList_mapM,Sem.run_map]at h1;cases hr:(fn.results.mapM (Q5D a.tmps)).run P w with
  |ok b w'=>
   rw[hr]at h1;simp only[QpI,Result.ok.injEq]at h1;obtain⟨h5,rfl⟩:=h1;congr 1
   grind
  |halt x w'=>simp_all
 split at h
 ·rename_i x hx;cases h;obtain⟨vs,h1,h2,h3,h4⟩:=ak _ hx
  match vs,h2 with
  |[v],_=>
   have hg:NV av=true:=by grind[Ki]
   refine⟨v,?_,ai v av hg (h4 0 v av rfl rfl),hg⟩
   simp_all [Q1t,QpM,QpI]
 ·rename_i l am hl;cases h;obtain⟨vs,h1,h2,h3,h4⟩:=ak _ hl;have hg:NV (.tup l)=true:=by simpa[NV]using h3
  have an:¬ vs.toArray.size=1:=by
   intro h5;simp only[List.size_toArray]at h5
   match l,h5.symm.trans h2 with
   |[x],_=>exact am x rfl
  refine⟨.tuple vs.toArray,?_,ai _ _ hg (.tup _ _ (by simpa using h2) λi x hx=>?_),hg⟩
  ·rw[Q1t];simp only[QpM,h1,QpI,an,dite_false];rfl
  ·have hi:i<vs.length:=by have:=(QpG.1 hx).1;omega
   have hv:=QpH hi;rw[FH hv];exact h4 i _ x hv hx
 ·cases h
def Nd(H:Y (Nat×Ob))(k:AV->Y (Nat×Ob)->oP R)(r:R)(β:Nat->oP Nat)(S:Nat->Prop)(w:World):Ending->World->Prop:=λe w'=>
 ∃v av H' β' S',e = .returned v/\k av H'=some r/\RdA β' S' (look H') w' tm0 v av/\NV av=true/\HRel ⟨w,λb=>∃l,(look H l).isSome=true/\β l=some b,S,β⟩ β' S' (look H') w'
def fnK(tt:TT)(fn:Func)(k:AV->Y (Nat×Ob)->oP R):Exit->St->oP R:=λe st=>match e with
 |.ret=>match Q0x tt st fn.results.toList with
  |some v=>k v st.h
  |none=>none
 |.normal=>match Q0x tt st fn.results.toList with
  |some v=>k v st.h
  |none=>none
 |_=>none
theorem Q1M{C:VC}(hC:VCOk P C){f:Nat}{fn:Func}{c:Code}(hf:P.funcs[f]? = some fn)(hc:fn.body=some c){args:Y AV}{H:Y (Nat×Ob)}{k:AV->Y (Nat×Ob)->oP R}{r:R}(hb:(Nat.ble args.length fn.ntmps&&Ki args)=true){vs:Y Value}(an:∀a:Act,Rel ⟨w,λb=>∃l,(look H l).isSome=true/\β l=some b,S,β⟩ β S { n:=fn.ntmps,tm:=Q2l 0 args,h:=H } a w->c.wp P (E6 ⟨w,λb=>∃l,(look H l).isSome=true/\β l=some b,S,β⟩ (fnK C.tt fn k) r) a w)(hO:Objs β S (look H) w)(hA:ArgsRd β S (look H) w vs args) :
  Calls P f vs.toArray w (Nd H k r β S w):=by
 simp only[QpE]at hb;have az:=Qq0 hb.1;refine calls_of_wp hf hc ?_;have hR:Rel ⟨w,λb=>∃l,(look H l).isSome=true/\β l=some b,S,β⟩ β S { n:=fn.ntmps,tm:=Q2l 0 args,h:=H } { tmps:=vs.toArray++Array.replicate (fn.ntmps-vs.toArray.size) undef,defers:=[] } w:=by
  refine⟨by simp;have:=hA.1;omega,rfl,λt av ht=>?_,⟨hO.ob,hO.inj,hO.apart,λl b h1 h2=>.inl ⟨l,h1,h2⟩,hO.sb,λb h=>.inl h,λb h=>h,Fr.refl _ _,λ_ _=>rfl,λ_ _ _ _ _ cs ty fz hw=>⟨cs,ty,fz,hw,rfl⟩⟩⟩;obtain⟨j,hj,aa⟩:=D0 ht;simp only[QpP]at hj;subst hj;have ac:t<vs.length:=by have:=(QpG.1 aa).1;have:=hA.1;omega
  have hv:=QpH ac;have aj:=hA.2 t _ av hv aa;have ar:tmv { tmps:=vs.toArray++Array.replicate (fn.ntmps-vs.toArray.size) undef,defers:=[] } t=vs[t]:=by
   unfold tmv;have h5:(vs.toArray++Array.replicate (fn.ntmps-vs.toArray.size) undef)[t]? = some vs[t]:=by
    rw[Array.getElem?_append_left (by simpa using ac)];simp[ac]
   have h6:=KI (QpN.1 h5).1;rw[h5]at h6;injection h6 with h6
   exact h6.symm
  rw[ar];exact aj.mono (λ_ h=>h) (λ_ _=>rfl) (λl _=>Keep.rfl_ ..) (λt' ak=>by rw[Pm t' av (BQ hb.2 aa)]at ak;cases ak)
 refine wp_mono (an _ hR) λe a' w' hp=>?_
 obtain⟨st',⟨β',S',ai⟩,hk⟩:=hp;have fin:∀av,Q0x C.tt st' fn.results.toList=some av->k av st'.h=some r->a'.defers=[]/\∃v,(results fn a'.tmps).run P w' = .ok v w'/\∃am av H' β' S',Ending.returned v = .returned am/\k av H'=some r/\RdA β' S' (look H') w' tm0 am av/\NV av=true/\HRel ⟨w,λb=>∃l,(look H l).isSome=true/\β l=some b,S,β⟩ β' S' (look H') w':=by
  intro av aa au;obtain⟨v,hv,aj,hg⟩:=AX hC ai aa;exact⟨ai.dfr,v,hv,v,av,st'.h,β',S',rfl,au,aj,hg,ai.hr⟩
 cases e with
 |ret=>
  simp only[fnK]at hk;split at hk
  ·rename_i av aa;exact fin av aa hk
  ·cases hk
 |normal=>
  simp only[fnK]at hk;split at hk
  ·rename_i av aa;exact fin av aa hk
  ·cases hk
 |_=>cases hk
theorem Bp{C:VC}(hC:VCOk P C){n f:Nat}{fn:Func}(hf:P.funcs[f]? = some fn){args:Y AV}{H:Y (Nat×Ob)}{k:AV->Y (Nat×Ob)->oP R}{r:R}(h:vfn C n fn args H k=some r){vs:Y Value}(hO:Objs β S (look H) w)(hA:ArgsRd β S (look H) w vs args) :
  Calls P f vs.toArray w λe w'=>∃v av H' β' S',e = .returned v/\k av H'=some r/\RdA β' S' (look H') w' tm0 v av/\NV av=true/\HRel ⟨w,λb=>∃l,(look H l).isSome=true/\β l=some b,S,β⟩ β' S' (look H') w':=by
 unfold vfn at h;split at h
 case h_2=>cases h
 rename_i c hc;cases hb:(Nat.ble args.length fn.ntmps&&Ki args)with
 |false=>simp_all
 |true=>
  simp only[hb,QpJ]at h;exact Q1M hC hf hc hb (λa hR=>Kp hC n c _ _ r h a w ⟨β,S,hR⟩) hO hA
end
end Go.Vx
namespace Go.Vx
section
variable{P:Program}
def Qfi:Y Value->Y Nat->oP (Y D)
 |[],_=>some []
 |v::r,ss=>
  match Qfi r ss.tail with
  |some l=>match v with
   |.int k n=>some (.int k n::l)
   |.bool b=>some (.bool b::l)
   |.string s=>some (.str s.data.toList::l)
   |.slice none 0 0=>some (.sl (ss.headD 0) []::l)
   |_=>none
  |none=>none
def Q2Z(P:Program):Nat->Nat->Y Nat
 |0,_=>[]
 |f+1,t=>match P.underlying t with
  |some (.struct fs)=>fs.toList.flatMap λfd=>Q2Z P f fd.type
  |some (.array n e)=>(List.replicate n (Q2Z P f e)).flatten
  |_=>[t]
def Qfq(P:Program)(t:Nat):Nat:=
 match P.underlying t with
 |some (.slice e)=>P.cellsOf e
 |_=>0
def kdP(P:Program):TypeDesc->oP Kd
 |.int k=>some (.int k)
 |.bool=>some .bool
 |.string=>some .str
 |.slice e=>match P.info? e with
  |some i=>if 0<i.size then some (.sl e i.size)else none
  |none=>none
 |.struct fs=>if fs.toList.all (λf=>match P.info? f.type with | some i=>i.size != 0 | none=>false)then some .struct else none
 |.array n e=>match P.info? e with
  |some i=>if 0<i.size then some (.array e i.size n)else none
  |none=>none
 |.pointer _=>some .ptr
 |.map K e=>match P.underlying K,P.info? e with
  |some (.int .i64),some i=>match i.zero with
   |some (.slice none 0 0)=>some .mapI
   |some (.bool false)=>some .mpb
   |_=>some .other
  |_,_=>some .other
 |.func ..=>some .other
 |.interface _=>some .other
 |_=>none
def Q9q(P:Program):TypeDesc->Y (Nat×Nat)
 |.struct fs=>fs.toList.map λf=>(f.offset,f.type)
 |.array n e=>(List.range n).map λi=>(i*((P.info? e).map (·.size)).getD 0,e)
 |_=>[]
def QfJ(P:Program)(so:TypeId->oP (Y Kd)):Nat->Y Field->oP (Y Kd)
 |_,[]=>some []
 |off,fd::r=>
  if fd.offset = off /\ fd.name ≠ "_" then match so fd.type with
   |some a=>if (P.info? fd.type).map (·.size)=some a.length then match QfJ P so (off+a.length) r with
    |some l=>some (a++l)
    |none=>none
    else none
   |none=>none
  else none
def Qdd(P:Program):Nat->TypeId->oP (Y Kd)
 |0,_=>none
 |f+1,t=>
  match P.underlying t with
  |some .bool=>some [.bool]
  |some (.int k)=>some [.int k]
  |some .string=>some [.str]
  |some (.struct fs)=>if P.stoodInHeld t then none else QfJ P (Qdd P f) 0 fs.toList
  |_=>none
def Qj9(P:Program)(t:Nat):oP (Y Kd):=
 match P.underlying t with
 |some (.struct _)=>if P.eqGuardType P.depth t then none else Qdd P 6 t
 |some (.array 2 e)=>match P.underlying e with
  |some (.int k)=>if (P.info? e).map (·.size)=some 1/\P.eqGuardType P.depth t=false then some [.int k,.int k]else none
  |_=>none
 |_=>none
def QiG:Kd->Nat->Bool
 |.array _ esz n,k=>Nat.beq k (n*esz)
 |_,_=>true
def tyI(P:Program)(t:Nat):oP TyI:=
 match P.info? t,P.underlying t with
 |some i,some d=>match i.zero,kdP P d with
  |some z,some kd=>
   if z.cells.toList.length=i.size/\(UV kd=false->i.size=1)/\QiG kd i.size=true then
    some { kd,size:=i.size,bytes:=i.bytes,zero:=z.cells.toList,zd:=(Qfi z.cells.toList ((Q2Z P 8 t).map (Qfq P))).getD [],fields:=Q9q P d,eqk:=Qj9 P t }
   else none
  |_,_=>none
 |_,_=>none
def Qhn(P:Program):Y Nat->TT
 |[]=>[]
 |t::r=>match tyI P t with
  |some ti=>(t,ti)::Qhn P r
  |none=>Qhn P r
theorem QaM:∀{vs:Y Value} {ss:Y Nat} {l:Y D},Qfi vs ss=some l->∀(j:Nat) (x:D),l[j]? = some x->∃v,vs[j]? = some v/\∀(S:Nat->Prop) (w:World),Rd S w v x
 |[],ss,l,h,j,x,hx=>by grind[Qfi]
 |v::r,ss,l,h,j,x,hx=>by
  simp only[Qfi]at h;split at h
  case h_2=>cases h
  rename_i l' aa;have fin:∀d,l=d::l'->(∀(S:Nat->Prop) (w:World),Rd S w v d)->∃v',(v::r)[j]? = some v'/\∀(S:Nat->Prop) (w:World),Rd S w v' x:=by
   intro d hd hr;cases j with
   |zero=>simp_all
   |succ j=>
    obtain⟨v',h1,h2⟩:=QaM aa j x Q4
    simp_all
  split at h
  ·cases h;exact fin _ rfl λ_ _=>.int _ _
  ·cases h;exact fin _ rfl λ_ _=>.bool _
  ·cases h;exact fin _ rfl λ_ _=>.str _
  ·cases h;exact fin _ rfl λ_ _=>.sl0 _ _ _
  ·cases h
def FF(P:Program)(t:TypeId)(xs:Y Value):Value:=
 match P.underlying t with
 |some (.struct _)=>.agg xs.toArray
 |_=>xs.headD undef
theorem Q7g{t:TypeId}{f:Nat}{ks:Y Kd}(hk:Qdd P f t=some ks)(hi:(P.info? t).map (·.size)=some ks.length){w:World}{cs:Array Value}{off:Nat}(ak:off+ks.length<=cs.size) :
  (part t cs off).run P w = .ok (FF P t ((cs.toList.drop off).take ks.length)) w:=by
 obtain⟨i,ai,aj⟩:=QpF.1 hi;have one:∀(d:TypeDesc),P.underlying t=some d->(∀fs,d≠.struct fs)->(∀n e,d≠.array n e)->ks.length=1->(part t cs off).run P w = .ok (FF P t ((cs.toList.drop off).take ks.length)) w:=by
  intro d hd h1 h2 hl;have aa:(isAgg t).run P w = .ok false w:=by
   simp_all [isAgg,QpM,X6,QpI]
  have hc:cs[off]? = some (cs[off]'I):=QpQ I;have hp:FF P t ((cs.toList.drop off).take ks.length)=cs[off]'I:=by
   grind[List.drop_eq_getElem_cons,FF]
  simp only[part,QpM,aa,QpI,Bool.false_eq_true,if_false,hc,hp];rfl
 cases f with
 |zero=>trivial
 |succ f=>
  unfold Qdd at hk;split at hk
  ·rename_i hd;injection hk with hk;exact one _ hd Q2 Q2 (by rw[<- hk];rfl)
  ·rename_i k hd;injection hk with hk;exact one _ hd Q2 Q2 (by rw[<- hk];rfl)
  ·rename_i hd;injection hk with hk;exact one _ hd Q2 Q2 (by rw[<- hk];rfl)
  ·rename_i fs hd;have aa:(isAgg t).run P w = .ok true w:=by simp[isAgg,X6 hd]
   have hp:FF P t ((cs.toList.drop off).take ks.length) = .agg (cs.extract off (off+ks.length)):=by
    unfold FF;rw[hd];simp only;congr 1;apply Array.ext';simp[List.take_drop]
   simp only[part,QpM,aa,QpI,if_true,sizeOf,Yx ai,aj,hp];rfl
  ·cases hk
theorem Qg2:∀(f:Nat) (t:TypeId) (ks:Y Kd),Qdd P f t=some ks->∀(d:Nat),f<=d->∀(w:World) (xs ys:Y Value) (bs:Y Bool),xs.length=ks.length->ys.length=ks.length->bs.length=ks.length ->
  (∀(j:Nat) (kd:Kd) (b:Bool),ks[j]? = some kd->bs[j]? = some b->CEq kd (xs.getD j undef) (ys.getD j undef) b)->(Op.equalIn d t (FF P t xs) (FF P t ys)).run P w = .ok (bs.all id) w:=by
 intro f;induction f with
 |zero=>grind[Qdd]
 |succ f ih=>
  intro t ks hk d hd w xs ys bs hx hy hb hc;obtain⟨d,rfl⟩:∃d',d=d'+1:=⟨d-1,I⟩;unfold Qdd at hk;split at hk
  ·rename_i ht;injection hk with hk;subst hk
   match xs,ys,bs,hx,hy,hb with
   |[x],[y],[b],_,_,_=>
    obtain⟨m,n,h1,h2,h3⟩:=hc 0 _ _ rfl rfl;simp at h1 h2;subst h1 h2 h3;simp[FF,ht,Op.equalIn,X6 ht]
  ·rename_i k ht;injection hk with hk;subst hk
   match xs,ys,bs,hx,hy,hb with
   |[x],[y],[b],_,_,_=>
    obtain⟨m,n,h1,h2,h3⟩:=hc 0 _ _ rfl rfl;simp at h1 h2;subst h1 h2 h3;simp[FF,ht,Op.equalIn,X6 ht]
  ·rename_i ht;injection hk with hk;subst hk
   match xs,ys,bs,hx,hy,hb with
   |[x],[y],[b],_,_,_=>
    obtain⟨m,n,h1,h2,h3⟩:=hc 0 _ _ rfl rfl;simp at h1 h2;subst h1 h2 h3;simp only[FF,ht,List.headD_cons,Op.equalIn,QpM,X6 ht,QpI];rw[beq_toListBytes,ByteArray.toList_eq,ByteArray.toList_eq];simp
  ·rename_i fs ht;split at hk
   ·cases hk
   rename_i hst;have aw:P.fieldsOf t=fs:=by simp[Program.fieldsOf,ht]
   have az:∀(r:Y Field) (off:Nat) (l:Y Kd) (aa:Y Bool),QfJ P (Qdd P f) off r=some l->off+l.length<=xs.length->xs.length=ys.length->aa.length=l.length ->
     (∀(j:Nat) (kd:Kd) (b:Bool),l[j]? = some kd->aa[j]? = some b->CEq kd (xs.getD (off+j) undef) (ys.getD (off+j) undef) b) ->
     (Op.eqFields d xs.toArray ys.toArray r).run P w = .ok (aa.all id) w:=by
    intro r;induction r with
    |nil=>
     intro off l aa hl _ _ ao _;simp[QfJ]at hl;subst hl;have:aa=[]:=List.eq_nil_of_length_eq_zero (by simpa using ao);subst this;simp[Op.eqFields]
    |cons fd r a5=>
     intro off l aa hl a4 ax ao au;unfold QfJ at hl;split at hl
     case isFalse=>cases hl
     rename_i an;split at hl
     case h_2=>cases hl
     rename_i a ha;split at hl
     case isFalse=>cases hl
     rename_i hi;split at hl
     case h_2=>cases hl
     rename_i l' a3;injection hl with hl;subst hl
     simp only[List.length_append]at a4 ao;have p1:=Q7g ha hi (w:=w) (cs:=xs.toArray) (off:=off) Q3;have p2:=Q7g ha hi (w:=w) (cs:=ys.toArray) (off:=off) Q3;have gd:∀(zs:Y Value) (j:Nat),zs.length=xs.length->j<a.length->((zs.drop off).take a.length).getD j undef=zs.getD (off+j) undef:=by
      intro zs j hz hj;simp only[List.getD,List.getElem?_take,hj,if_true,QpO]
     have e1:=ih fd.type a ha d I w ((xs.drop off).take a.length) ((ys.drop off).take a.length) (aa.take a.length) Q3 Q3 Q3 (λj kd b hj aj=>by
      have ak:j<a.length:=(QpG.1 hj).1;rw[gd xs j rfl ak,gd ys j ax.symm ak];refine au j kd b (by rw[List.getElem?_append_left ak];exact hj) ?_;rw[List.getElem?_take,if_pos ak]at aj;exact aj)
     have e2:=a5 (off+a.length) l' (aa.drop a.length) a3 I ax Q3 (λj kd b hj aj=>by
      rw[Nat.add_assoc];refine au (a.length+j) kd b (by rw[List.getElem?_append_right I];simpa using hj) ?_;rw[QpO]at aj;exact aj)
     have ay:aa.all id=((aa.take a.length).all id&&(aa.drop a.length).all id):=by
      rw[<- List.all_append,List.take_append_drop]
     simp only[Op.eqFields,an.1,an.2,ne_eq,not_false_eq_true,if_true,QpM,p1,p2,QpI,e1];rw[ay];cases (aa.take a.length).all id with
     |true=>simp[e2]
     |false=>simp
   have:=az fs.toList 0 ks bs hk I I hb (λj kd b h1 h2=>by rw[QpP];exact hc j kd b h1 h2);have hp:∀zs,FF P t zs = .agg zs.toArray:=λzs=>by simp[FF,ht]
   rw[hp,hp,run_equalIn_struct w d t _ _ (by rw[aw];exact ht) (by simpa using hst),aw];exact this
  ·cases hk
theorem Qdx{t e:TypeId}{k:IntKind}(ht:P.underlying t=some (.array 2 e))(he:P.underlying e=some (.int k))(hi:(P.info? e).map (·.size)=some 1)(w:World)(a b c d:Int) :
  (Op.equalIn 10000 t (.agg #[.int k a,.int k b]) (.agg #[.int k c,.int k d])).run P w = .ok ((a == c)&&(b == d)) w:=by
 obtain⟨i,ac,ai⟩:=QpF.1 hi;have aa:(isAgg e).run P w = .ok false w:=by
  simp only[isAgg,QpM,X6 he,QpI];rfl
 have hs:(Go.sizeOf e).run P w = .ok 1 w:=by simp only[sizeOf,QpM,Yx ac,QpI,ai];rfl
 have hp:∀(x y:Value),(part e #[x,y] 0).run P w = .ok x w/\(part e #[x,y] 1).run P w = .ok y w:=λx y=>by
  constructor<;>simp[part,aa]
 have hq:∀x y:Int,(Op.equalIn 9999 e (.int k x) (.int k y)).run P w = .ok (x == y) w:=λx y=>by
  rw[Op.equalIn];simp[X6 he]
 rw[Op.equalIn];simp only[QpM,X6 ht,QpI,hs];simp[Std.Legacy.Range.forIn_eq_forIn_range',Std.Legacy.Range.size,List.range',(hp _ _).1,(hp _ _).2,hq];by_cases h1:a=c<;>by_cases h2:b=d<;>simp[h1,h2]
theorem QdX{t:Nat}{ks:Y Kd}(h:Qj9 P t=some ks):QjP P t ks:=by
 unfold Qj9 at h;split at h
 case h_3=>cases h
 case h_2=>
  rename_i e ht;split at h
  case h_2=>cases h
  rename_i k he;split at h
  case isFalse=>cases h
  rename_i hg;injection h with h
  subst h;intro w xs ys bs hx hy hb hc;refine⟨?_,hg.2⟩;obtain⟨xs⟩:=xs;obtain⟨ys⟩:=ys
  match xs,ys,bs,hx,hy,hb with
  |[x0,x1],[y0,y1],[b0,b1],_,_,_=>
   obtain⟨m,n,h1,h2,h3⟩:=hc 0 _ _ rfl rfl;obtain⟨m',n',an,am,ao⟩:=hc 1 _ _ rfl rfl
   simp_all [Qdx]
 rename_i fs ht;split at h
 ·cases h
 rename_i hg;intro w xs ys bs hx hy hb hc;refine⟨?_,by simp_all⟩;have:=Qg2 6 t ks h 10000 I w xs.toList ys.toList bs I I hb (λj kd b h1 h2=>by
  have:=hc j kd b h1 h2;simpa[Array.getD_eq_getD_getElem?,List.getD]using this)
 simp_all [FF]
theorem Qh1{d:TypeDesc}{e esz:Nat}(hk:kdP P d=some (.sl e esz)):d = .slice e/\0<esz/\∃i,P.info? e=some i/\i.size=esz:=by
 cases d<;>simp only[kdP,Option.some.injEq,reduceCtorEq]at hk
 all_goals grind
theorem Qe6{t:TypeId}{d:TypeDesc}(hk:kdP P d=some .mapI)(hd:P.underlying t=some d):∃K e,P.underlying t=some (.map K e)/\P.underlying K=some (.int .i64)/\∃i,P.info? e=some i/\i.zero=some (.slice none 0 0):=by
 cases d<;>simp only[kdP,Option.some.injEq,reduceCtorEq]at hk
 all_goals grind
theorem Q7Y{d:TypeDesc}(hk:kdP P d=some .struct):∃fs,d = .struct fs/\∀f∈fs.toList,∃i,P.info? f.type=some i/\i.size≠0:=by
 cases d<;>simp only[kdP,Option.some.injEq,reduceCtorEq]at hk
 all_goals grind
theorem QaE{d:TypeDesc}{e esz n:Nat}(hk:kdP P d=some (.array e esz n)):d = .array n e/\0<esz/\∃i,P.info? e=some i/\i.size=esz:=by
 cases d<;>simp only[kdP,Option.some.injEq,reduceCtorEq]at hk
 all_goals grind
theorem QeK{d:TypeDesc}{k:IntKind}(hk:kdP P d=some (.int k)):d = .int k:=by
 cases d<;>simp only[kdP,Option.some.injEq,Kd.int.injEq,reduceCtorEq]at hk<;>first | grind | ((repeat' split at hk)<;>simp at hk)
theorem QbX{d:TypeDesc}(hk:kdP P d=some .bool):d = .bool:=by
 cases d<;>simp only[kdP,Option.some.injEq,reduceCtorEq]at hk<;>first | rfl | grind
theorem Qeq{d:TypeDesc}(hk:kdP P d=some .str):d = .string:=by
 cases d<;>simp only[kdP,Option.some.injEq,reduceCtorEq]at hk<;>first | rfl | grind
theorem QdK{t:TypeId}{d:TypeDesc}(hk:kdP P d=some .mpb)(hd:P.underlying t=some d):∃K e,P.underlying t=some (.map K e)/\P.underlying K=some (.int .i64)/\∃i,P.info? e=some i/\i.zero=some (.bool false):=by
 cases d<;>simp only[kdP,Option.some.injEq,reduceCtorEq]at hk
 all_goals grind
theorem Qhg{t:Nat}{ti:TyI}(h:tyI P t=some ti):TyOk P t ti:=by
 unfold tyI at h;split at h
 case h_2=>cases h
 rename_i i d hi hd;split at h
 case h_2=>cases h
 rename_i z kd hz hk;split at h
 case isFalse=>cases h
 rename_i hc;injection h with h
 subst h;refine⟨⟨i,hi,rfl,rfl,z,hz,rfl⟩,λhs=>⟨hc.2.1 hs,d,hd,?_,?_⟩,λk he=>?_,λhe=>?_,λhe=>?_,λe esz he=>?_,λhe=>?_,λe esz n he=>?_,λks he=>QdX he,hc.1,λhl j x hx=>?_,λhe=>?_,λhe=>?_⟩
 ·rintro fs rfl;simp only[kdP]at hk;split at hk
  ·injection hk with hk;subst hk;simp[UV]at hs
  ·cases hk
 ·rintro n e rfl;simp only[kdP]at hk;split at hk
  ·split at hk
   ·injection hk with hk;subst hk;simp[UV]at hs
   ·cases hk
  ·cases hk
 ·simp only at he;subst he;rw[QeK hk]at hd;exact hd
 ·simp only at he;subst he;rw[QbX hk]at hd;exact hd
 ·simp only at he;subst he;rw[Qeq hk]at hd;exact hd
 ·simp only at he;subst he;obtain⟨h1,h2,h3⟩:=Qh1 hk;rw[h1]at hd;exact⟨hd,h2,h3⟩
 ·simp only at he;subst he;obtain⟨fs,h1,h2⟩:=Q7Y hk;subst h1;exact⟨fs,hd,rfl,h2⟩
 ·simp only at he;subst he;obtain⟨h1,h2,i',h3,h4⟩:=QaE hk;subst h1;refine⟨hd,h2,⟨i',h3,h4⟩,QpD hc.2.2,?_⟩;simp[Q9q,h3,h4]
 ·simp only at hl hx;cases aa:Qfi z.cells.toList ((Q2Z P 8 t).map (Qfq P))with
  |none=>rw[aa]at hx;simp at hx
  |some l=>rw[aa]at hx;exact QaM aa j x (by simpa using hx)
 ·simp only at he;subst he;exact QdK hk hd
 ·simp only at he;subst he;exact Qe6 hk hd
theorem Qe1(aa:Y Nat):TOk P (Qhn P aa):=by
 induction aa with
 |nil=>intro t ti h;trivial
 |cons a r ih=>
  intro t ti h;unfold Qhn at h;split at h
  ·rw[Xd]at h;by_cases e:t=a
   ·simp_all [if_pos,Qhg]
   ·rw[QpW e]at h;exact ih t ti h
  ·exact ih t ti h
mutual
def lf:AV->Bool
 |.ptr ..=>false
 |.arr _=>false
 |.ap ..=>false
 |.sa ..=>false
 |.gd ..=>false
 |.ag l=>lfL l
 |.tup l=>lfL l
 |.fn _ l=>lfL l
 |_=>true
def lfL:Y AV->Bool
 |[]=>true
 |a::r=>lf a&&lfL r
end
mutual
theorem Q76(l:Nat):∀(av:AV),lf av=true->Yq l av=false
 |.ptr ..,h=>by simp[lf]at h
 |.arr _,h=>by simp[lf]at h
 |.ap ..,h=>by simp[lf]at h
 |.sa ..,h=>by simp[lf]at h
 |.gd ..,h=>by simp[lf]at h
 |.ag r,h=>by simp only[Yq];exact Ey l r (by simpa[lf]using h)
 |.tup r,h=>by simp only[Yq];exact Ey l r (by simpa[lf]using h)
 |.fn _ r,h=>by simp only[Yq];exact Ey l r (by simpa[lf]using h)
 |.top,_=>rfl
 |.d _,_=>rfl
 |.nil,_=>rfl
 |.el ..,_=>rfl
 |.fs ..,_=>rfl
 |.mpd _,_=>rfl
 |.ex _,_=>rfl
theorem Ey(l:Nat):∀(r:Y AV),lfL r=true->G8 l r=false
 |[],_=>rfl
 |a::r,h=>by
  simp only[lfL,QpE]at h;simp only[G8,Q76 l a h.1,Ey l r h.2,Bool.or_self]
end
mutual
theorem Q52(t:Nat):∀(av:AV),lf av=true->gds t av=false
 |.ptr ..,h=>by simp[lf]at h
 |.arr _,h=>by simp[lf]at h
 |.ap ..,h=>by simp[lf]at h
 |.sa ..,h=>by simp[lf]at h
 |.gd ..,h=>by simp[lf]at h
 |.ag r,h=>by simp only[gds];exact Q2U t r (by simpa[lf]using h)
 |.tup r,h=>by simp only[gds];exact Q2U t r (by simpa[lf]using h)
 |.fn _ r,h=>by simp only[gds];exact Q2U t r (by simpa[lf]using h)
 |.top,_=>rfl
 |.d _,_=>rfl
 |.nil,_=>rfl
 |.el ..,_=>rfl
 |.fs ..,_=>rfl
 |.mpd _,_=>rfl
 |.ex _,_=>rfl
theorem Q2U(t:Nat):∀(r:Y AV),lfL r=true->Q07 t r=false
 |[],_=>rfl
 |a::r,h=>by
  simp only[lfL,QpE]at h;simp only[Q07,Q52 t a h.1,Q2U t r h.2,Bool.or_self]
end
theorem Q1g:∀{l:Y AV} {i:Nat} {x:AV},lfL l=true->l[i]? = some x->lf x=true
 |a::r,i,x,h,hx=>by
  simp only[lfL,QpE]at h;cases i with
  |zero=>simp at hx;subst hx;exact h.1
  |succ i=>exact Q1g h.2 (by simpa using hx)
theorem FE{β β':Nat->oP Nat}{S S':Nat->Prop}{h h':Nat->oP Ob}{w w':World}{tm tm':Nat->Value}{v:Value}{av:AV}(hl:lf av=true)(hS:∀b,S b->S' b)(hw:∀b,S b->w'.heap[b]? = w.heap[b]?)(hv:RdA β S h w tm v av):RdA β' S' h' w' tm' v av:=
 hv.mono hS hw (λl hn=>by rw[Q76 l av hl]at hn;cases hn) (λt ht=>by rw[Q52 t av hl]at ht;cases ht)
def Qbe(h:Y (Nat×Ob))(av:AV):oP AV:=
 match av with
 |.tup l=>match N0 (look h) l with
  |some (l',_)=>bif lfL l' then some (.tup l')else none
  |none=>none
 |av=>match N4 (look h) av with
  |some (aa,_)=>bif lf aa then some aa else none
  |none=>none
def Qjs{R:Type}(K:AV->oP R):AV->Y (Nat×Ob)->oP R:=λav h=>match Qbe h av with
 |some aa=>K aa
 |none=>none
theorem Q2Q{β:Nat->oP Nat}{S:Nat->Prop}{H:Y (Nat×Ob)}{w:World}{v:Value}{av aa:AV}(hO:Objs β S (look H) w)(h:Qbe H av=some aa)(hv:RdA β S (look H) w tm0 v av) :
  ∃bs,(∀l,l∈bs->∃e s rows,look H l=some (.arr e s rows))/\lf aa=true/\RdA β (fzS β S bs) (fzH (look H) bs) w tm0 v aa:=by
 unfold Qbe at h;split at h
 ·rename_i l;split at h
  ·rename_i l' bs hc;cases hl:lfL l' with
   |false=>simp_all
   |true=>
    simp only[hl,QpJ,Option.some.injEq]at h;subst h;refine⟨bs,EB hc,by assumption,?_⟩;obtain⟨vs,rfl,aj,hr⟩:=hv.tup_inv;obtain⟨h1,h2⟩:=LM hc;refine .tup _ _ (by rw[aj,h1]) λi x hx=>?_
    have hi:i<l.length:=by grind
    have ai:=QpH hi;obtain⟨aa,b2,g1,g2,g3⟩:=h2 i _ ai;rw[hx]at g1;injection g1 with g1
    subst g1;exact Q7n hO (λ_ _=>rfl) g3 g2 (hr i _ ai)
  ·cases h
 ·split at h
  ·rename_i ac bs hc;cases hl:lf ac with
   |false=>simp[hl]at h
   |true=>
    simp only[hl,QpJ,Option.some.injEq]at h;subst h;exact⟨bs,Br hc,hl,Q7n hO (λ_ _=>rfl) (λ_ h=>h) hc hv⟩
  ·cases h
theorem Qe3 {C : VC} (hC : VCOk P C) {n f : Nat} {fn : Func} (hf : P.funcs[f]? = some fn) (hb : fn.body.isSome = true) (hn : (fn.name == "runtime.NumGoroutine") = false) {avs : Y AV} {av : AV} {hl : Nat -> oP Ob} {rd : Y Nat} (hlf : lfL avs = true)
  (h:vfn C n fn avs [] (Qjs some)=some av):ZW P f avs hl ⟨av,[],rd⟩:=by
 refine⟨⟨fn,hf,hb,hn⟩,λβ S h' w args hO hA _=>?_⟩;have hO0:Objs (λ_=>none) S (look ([]:Y (Nat×Ob))) w:=⟨λl o h=>by trivial,λl l' b h=>by simp[look]at h,λl b h=>by simp[look]at h,hO.sb⟩;have hA0:ArgsRd (λ_=>none) S (look ([]:Y (Nat×Ob))) w args avs:=⟨hA.1,λi v av' h1 h2=>FE (Q1g hlf h2) (λ_ h=>h) (λ_ _=>rfl) (hA.2 i v av' h1 h2)⟩;refine(Bp hC hf h hO0 hA0).mono λe w' ⟨v,av0,H',β',S',he,hk,hrd,_,hr⟩=>?_
 unfold Qjs at hk;split at hk
 case h_2=>cases hk
 rename_i av' hav;injection hk with hk
 subst hk;have hO':Objs β' S' (look H') w':=⟨hr.ob,hr.inj,hr.apart,hr.sb⟩;obtain⟨bs,hbs,hlf',hrd'⟩:=Q2Q hO' hav hrd;have hnoM:∀{b:Nat},(S b\/(∃l,(look ([]:Y (Nat×Ob)) l).isSome=true/\(none:oP Nat)=some b)\/w.heap.size<=b)->S b\/w.heap.size<=b:=by
  simp_all
 have hfz:∀b,fzS β' S' bs b->S b\/w.heap.size<=b:=by
  intro b hS;rcases hS with hS | ⟨l,hl',hb'⟩
  ·exact hnoM (hr.sfr b hS)
  ·obtain⟨e',s,rows,hh⟩:=hbs l hl';exact hnoM (.inr (hr.own l b (by simp[hh]) hb'))
 refine⟨v,β,fzS β' S' bs,he,⟨λb hS=>.inl (hr.s0 b hS),λb hS=>?_,λb hS=>?_,?_,λ_ _=>rfl,λl o hl'=>by trivial,λl hl'=>by simp[wrL]at hl',λl b hl'=>by simp[wrL]at hl',λl l' b hl'=>by simp[wrL]at hl',λl hl'=>by simp[wrL]at hl',?_,λt=>Q52 t _ hlf'⟩⟩
 ·grind
 ·rcases hS with hS | ⟨l,hl',hb'⟩
  ·exact hr.sb b hS
  ·obtain⟨e',s,rows,hh⟩:=hbs l hl';rcases hr.ob l _ hh with⟨hn',_⟩|⟨b2,cs,hb2,hw2,_⟩
   ·rw[hb']at hn';cases hn'
   ·rw[hb']at hb2;injection hb2 with hb2;subst hb2
    exact(QpN.1 hw2).1
 ·refine hr.fr.mono λb _ ⟨l,h1,_⟩=>?_
  simp[look]at h1
 ·exact FE hlf' (λ_ h=>h) (λ_ _=>rfl) hrd'
end
section
variable{P:Program} {R:Type}
def Cz(av aa:AV):Prop:=∀(β:Nat->oP Nat) (S:Nat->Prop) (h:Nat->oP Ob) (w:World) (tm:Nat->Value) (v:Value),RdA β S h w tm v av->RdA β S h w tm v aa
theorem Cz.refl(av:AV):Cz av av:=λ_ _ _ _ _ _ h=>h
theorem Cz.of_eq{a b:AV}(h:a=b):Cz a b:=h▸Cz.refl a
theorem Cz.nil(s:Nat):Cz .nil (.d (.sl s [])):=λ_ _ _ _ _ v h=>by rw[h.nil_inv];exact .d _ _ (.sl0 _ _ _)
inductive AVleL:List AV->List AV->Prop
 |nil:AVleL [] []
 |cons {a b:AV} {l r:List AV} (h:Cz a b) (t:AVleL l r):AVleL (a::l) (b::r)
theorem AVleL.length{l r:Y AV}(h:AVleL l r):l.length=r.length:=by induction h<;>simp[*]
theorem AVleL.at{l r:Y AV}(h:AVleL l r):∀(i:Nat) (x:AV),r[i]? = some x->∃y,l[i]? = some y/\Cz y x:=by
 induction h with
 |nil=>simp_all
 |cons h0 _ ih=>
  grind
theorem AVleL.refl:∀l:Y AV,AVleL l l
 |[]=>.nil
 |a::r=>.cons (Cz.refl a) (AVleL.refl r)
theorem Cz.ag{l r:Y AV}(h:AVleL l r):Cz (.ag l) (.ag r):=λ_ _ _ _ _ v hv=>by
 obtain⟨cs,rfl,aa,hr⟩:=hv.ag_inv;refine .ag cs r (aa.trans h.length) λi x hx=>?_
 obtain⟨y,h1,h2⟩:=h.at i x hx;exact h2 _ _ _ _ _ _ (hr i y h1)
theorem Cz.tup{l r:Y AV}(h:AVleL l r):Cz (.tup l) (.tup r):=λ_ _ _ _ _ v hv=>by
 obtain⟨cs,rfl,aa,hr⟩:=hv.tup_inv;refine .tup cs r (aa.trans h.length) λi x hx=>?_
 obtain⟨y,h1,h2⟩:=h.at i x hx;exact h2 _ _ _ _ _ _ (hr i y h1)
theorem ZW.conv{f:Nat}{aa avs':Y AV}{hl:Nat->oP Ob}{dl:Dl}(h:AVleL aa avs')(hc:ZW P f avs' hl dl):ZW P f aa hl dl:=by
 obtain⟨h1,h2⟩:=hc;refine⟨h1,λβ S hh w args hO hA ai=>h2 β S hh w args hO ⟨hA.1.trans h.length,λi v av hv ac=>?_⟩ ai⟩;obtain⟨y,g1,g2⟩:=h.at i av ac;exact g2 _ _ _ _ _ _ (hA.2 i v y hv g1)
def prI(g:Bool)(ik:IntKind)(av:AV)(k:Int->oP R):oP R:=
 match av with
 |.d x=>gb g (Qk ik x) 0 k
 |_=>none
def prB(g:Bool)(av:AV)(k:Bool->oP R):oP R:=
 match av with
 |.d x=>gb g (PD x) false k
 |_=>none
def prT(g:Bool)(av:AV)(k:Y UInt8->oP R):oP R:=
 match av with
 |.d x=>gb g (Vp x) [] k
 |_=>none
def prS(g:Bool)(esz:Nat)(av:AV)(k:Y (Y D)->oP R):oP R:=
 match av with
 |.d x=>gb g (pSl esz x) [] k
 |.nil=>k []
 |_=>none
def prG(av:AV)(k:Y AV->oP R):oP R:=
 match av with
 |.ag l=>k l
 |_=>none
theorem Q2b{g:Bool}{ik:IntKind}{av:AV}{k:Int->oP R}{r:R}(h:prI g ik av k=some r):∃n,k n=some r/\(g=true->Cz av (.d (.int ik n))):=by
 unfold prI at h;split at h
 ·obtain⟨n,hn,hp⟩:=Qy h;exact⟨n,hn,λhg=>.of_eq (by grind[M6])⟩
 ·cases h
theorem Qbr{g:Bool}{av:AV}{k:Bool->oP R}{r:R}(h:prB g av k=some r):∃n,k n=some r/\(g=true->Cz av (.d (.bool n))):=by
 unfold prB at h;split at h
 ·obtain⟨n,hn,hp⟩:=Qy h;exact⟨n,hn,λhg=>.of_eq (by grind[ML])⟩
 ·cases h
theorem Qct{g:Bool}{av:AV}{k:Y UInt8->oP R}{r:R}(h:prT g av k=some r):∃n,k n=some r/\(g=true->Cz av (.d (.str n))):=by
 unfold prT at h;split at h
 ·obtain⟨n,hn,hp⟩:=Qy h;exact⟨n,hn,λhg=>.of_eq (by grind[FK])⟩
 ·cases h
theorem Ul{g:Bool}{esz:Nat}{av:AV}{k:Y (Y D)->oP R}{r:R}(h:prS g esz av k=some r):∃n,k n=some r/\(g=true->Cz av (.d (.sl esz n))):=by
 unfold prS at h;split at h
 ·obtain⟨n,hn,hp⟩:=Qy h;exact⟨n,hn,λhg=>.of_eq (by grind[Q7d])⟩
 ·exact⟨[],h,λ_=>.nil _⟩
 ·cases h
theorem Q2D{av:AV}{k:Y AV->oP R}{r:R}(h:prG av k=some r):∃l,k l=some r/\av = .ag l:=by
 unfold prG at h
 grind
abbrev PJ:=(R:Type)->Nat->Bool->Y AV->(Nat->oP Ob)->(Dl->oP R)->oP R
def VH(P:Program)(f:Nat)(e:PJ):Prop:=
 ∀(R:Type) (ac:Nat) (g:Bool) (aa:Y AV) (hl:Nat->oP Ob) (k:Dl->oP R) (r:R),e R ac g aa hl k=some r->∃dl,k dl=some r/\(g=true->ZW P f aa hl dl)
def A6(l:Y (Nat×PJ)):Q5R:=λR f aa g ac hl k=>
 match look1 l f with
 |some e=>e R aa g ac hl k
 |none=>none
where
 look1:Y (Nat×PJ)->Nat->oP PJ
  |[],_=>none
  |(k,a)::r,t=>bif Nat.beq k t then some a else look1 r t
def Q72(P:Program):Y (Nat×PJ)->Prop
 |[]=>True
 |(f,e)::r=>VH P f e/\Q72 P r
theorem Q6E:∀{l:Y (Nat×PJ)} {f:Nat} {e:PJ},Q72 P l->A6.look1 l f=some e->VH P f e
 |(k,a)::r,f,e,h,hl=>by
  simp only[A6.look1]at hl;cases hk:Nat.beq k f with
  |true=>
   simp only[hk,QpJ,Option.some.injEq]at hl;subst hl;have:=QpD hk;subst this;exact h.1
  |false=>simp only[hk,QpU]at hl;exact Q6E h.2 hl
theorem AA{l:Y (Nat×PJ)}(h:Q72 P l):BP P (A6 l):=by
 intro R f aa g ac hl k r hs;unfold A6 at hs;split at hs
 ·rename_i e he;exact Q6E h he R aa g ac hl k r hs
 ·cases hs
def Qhz(s:Nat):AV->AV
 |.nil=>.d (.sl s [])
 |av=>av
def QhI:Y Nat->Y AV->Y AV
 |s::ss,a::r=>Qhz s a::QhI ss r
 |[],r=>r
 |_::_,[]=>[]
def QhM(ss:Y Nat):AV->AV
 |.ag l=>.ag (QhI ss l)
 |av=>Qhz (ss.headD 0) av
def QhK:Y (Y Nat)->Y AV->Y AV
 |s::ss,a::r=>QhM s a::QhK ss r
 |[],r=>r
 |_::_,[]=>[]
def Qfj(ss:Y (Y Nat)):AV->AV
 |.tup l=>.tup (QhK ss l)
 |av=>QhM (ss.headD []) av
theorem Q9X(s:Nat)(av:AV):Cz av (Qhz s av):=by
 unfold Qhz;split
 ·exact .nil s
 ·exact .refl _
theorem Q9j:∀(ss:Y Nat) (l:Y AV),AVleL l (QhI ss l)
 |s::ss,a::r=>.cons (Q9X s a) (Q9j ss r)
 |[],r=>by unfold QhI;exact .refl r
 |_::_,[]=>.nil
theorem Qak(ss:Y Nat)(av:AV):Cz av (QhM ss av):=by
 unfold QhM;split
 ·exact .ag (Q9j ss _)
 grind[Q9X]
theorem Q9O:∀(ss:Y (Y Nat)) (l:Y AV),AVleL l (QhK ss l)
 |s::ss,a::r=>.cons (Qak s a) (Q9O ss r)
 |[],r=>by unfold QhK;exact .refl r
 |_::_,[]=>.nil
theorem Q9r(ss:Y (Y Nat))(av:AV):Cz av (Qfj ss av):=by
 unfold Qfj;split
 ·exact .tup (Q9O ss _)
 grind[Qak]
def retF{R:Type}(ss:Y (Y Nat))(K:AV->oP R):AV->Y (Nat×Ob)->oP R:=λav h=>match Qbe h av with
 |some aa=>bif lf (Qfj ss aa)then K (Qfj ss aa)else none
 |none=>none
theorem Q5q {α : Type} {K : AV -> oP α} {res : α} {f : Nat} {fn : Func} (hf : P.funcs[f]? = some fn) (hb : fn.body.isSome = true) (hn : (fn.name == "runtime.NumGoroutine") = false) {ss : Y (Y Nat)} {avs : Y AV} {av : AV} {hl : Nat -> oP Ob} {rd : Y Nat} (hlf : lfL avs = true)
  (hcall:∀(β:Nat->oP Nat) (S:Nat->Prop) (w:World) (vs:Y Value),Objs β S (look ([]:Y (Nat×Ob))) w->ArgsRd β S (look ([]:Y (Nat×Ob))) w vs avs->Calls P f vs.toArray w (Nd ([]:Y (Nat×Ob)) (retF ss K) res β S w)) (hK:∀x,K x=some res->x=av):ZW P f avs hl ⟨av,[],rd⟩:=by
 refine⟨⟨fn,hf,hb,hn⟩,λβ S h' w args hO hA _=>?_⟩;have hO0:Objs (λ_=>none) S (look ([]:Y (Nat×Ob))) w:=⟨λl o h=>by trivial,λl l' b h=>by simp[look]at h,λl b h=>by simp[look]at h,hO.sb⟩;have hA0:ArgsRd (λ_=>none) S (look ([]:Y (Nat×Ob))) w args avs:=⟨hA.1,λi v av' h1 h2=>FE (Q1g hlf h2) (λ_ h=>h) (λ_ _=>rfl) (hA.2 i v av' h1 h2)⟩;refine(hcall _ _ _ _ hO0 hA0).mono λe w' ⟨v,av0,H',β',S',he,hk,hrd,_,hr⟩=>?_
 unfold retF at hk;split at hk
 case h_2=>cases hk
 rename_i av' hav;cases hlf2:lf (Qfj ss av')with
 |false=>simp_all
 |true=>
  simp only[hlf2,QpJ]at hk;have hk:=hK _ hk;subst hk;have hO':Objs β' S' (look H') w':=⟨hr.ob,hr.inj,hr.apart,hr.sb⟩;obtain⟨bs,hbs,hlf',hrd'⟩:=Q2Q hO' hav hrd;have hnoM:∀{b:Nat},(S b\/(∃l,(look ([]:Y (Nat×Ob)) l).isSome=true/\(none:oP Nat)=some b)\/w.heap.size<=b)->S b\/w.heap.size<=b:=by
   simp_all
  have hfz:∀b,fzS β' S' bs b->S b\/w.heap.size<=b:=by
   intro b hS;rcases hS with hS | ⟨l,hl',hb'⟩
   ·exact hnoM (hr.sfr b hS)
   ·obtain⟨e',s,rows,hh⟩:=hbs l hl';exact hnoM (.inr (hr.own l b (by simp[hh]) hb'))
  refine⟨v,β,fzS β' S' bs,he,⟨λb hS=>.inl (hr.s0 b hS),λb hS=>?_,λb hS=>?_,?_,λ_ _=>rfl,λl o hl'=>by trivial,λl hl'=>by simp[wrL]at hl',λl b hl'=>by simp[wrL]at hl',λl l' b hl'=>by simp[wrL]at hl',λl hl'=>by simp[wrL]at hl',?_,λt=>Q52 t _ hlf2⟩⟩
  ·rcases hfz b hS with h1 | h1
   ·exact .inl h1
   ·exact .inr (.inl h1)
  ·rcases hS with hS | ⟨l,hl',hb'⟩
   ·exact hr.sb b hS
   ·obtain⟨e',s,rows,hh⟩:=hbs l hl';rcases hr.ob l _ hh with⟨hn',_⟩|⟨b2,cs,hb2,hw2,_⟩
    ·rw[hb']at hn';cases hn'
    ·rw[hb']at hb2;injection hb2 with hb2;subst hb2
     exact(QpN.1 hw2).1
  ·refine hr.fr.mono λb _ ⟨l,h1,_⟩=>?_
   simp[look]at h1
  ·exact FE hlf2 (λ_ h=>h) (λ_ _=>rfl) (Q9r ss _ _ _ _ _ _ _ hrd')
def cL:Code->Code | .seq a _=>a | c=>c
def cR:Code->Code | .seq _ b=>b | c=>c
def cB:Code->Code | .block _ c=>c | .loop c=>c | c=>c
def cT:Code->Code | .cond _ a _=>a | c=>c
def cE:Code->Code | .cond _ _ b=>b | c=>c
def V6(fn:Func):Code:=fn.body.getD .skip
end
section
variable{P:Program} {R:Type}
theorem Q6W{ρ:Y (Nat×Nat)}{β β':Nat->oP Nat}{S:Nat->Prop}{h h':Nat->oP Ob}(aa:∀l k,(l,k)∈ρ->β' k=β l)(ai:∀l k o,(l,k)∈ρ->h l=some o->h' k=some (QcB ρ o))(ao:∀l k,(l,k)∈ρ->h l=none->h' k=none){w:World}{tm:Nat->Value}{v:Value}{av:AV}(hv:RdA β S h w tm v av):RdA β' S h' w tm v (U7 ρ av):=by
 induction hv with
 |top v=>exact .top v
 |d v x hx=>exact .d v x hx
 |nil=>exact .nil
 |ag cs l hl _ ih=>
  refine .ag cs _ (by grind[Z7]) λi x hx=>?_
  grind[VK,Option.map_eq_some_iff]
 |tup cs l hl _ ih=>
  refine .tup cs _ (by rw[Z7];exact hl) λi x hx=>?_
  rw[VK,QpF]at hx
  grind
 |fn f cs l hl _ ih=>
  refine .fn f cs _ (by rw[Z7];exact hl) λi x hx=>?_
  rw[VK,QpF]at hx;obtain⟨y,hy,rfl⟩:=hx;exact ih i y hy
 |ptr l off b hb=>
  unfold U7;split
  ·rename_i l' hl;exact .ptr _ _ _ ((aa _ _ (Y2 hl)).trans hb)
  ·exact .top _
 |sa v l t b hb hv=>
  unfold U7;split
  ·rename_i l' hl;exact .sa _ _ _ b ((aa _ _ (Y2 hl)).trans hb) hv
  ·exact .top _
 |el ad row off c hs hc hr=>exact .el ad row off c hs hc hr
 |fs ad s rows hx=>exact .fs ad s rows hx
 |mpd v f hm=>exact .mpd v f hm
 |ex v=>exact .ex v
 |arr0 l e s hb hh=>
  unfold U7;split
  ·rename_i l' hl;exact .arr0 _ e s ((aa _ _ (Y2 hl)).trans hb) (ai _ _ _ (Y2 hl) hh)
  ·exact .top _
 |arr l b cap e s rows cs ty fz hb hh hw au am an=>
  unfold U7;split
  ·rename_i l' hl;exact .arr _ b cap e s rows cs ty fz ((aa _ _ (Y2 hl)).trans hb) (ai _ _ _ (Y2 hl) hh) hw au am an
  ·exact .top _
 |mp l b t f hb hh=>
  unfold U7;split
  ·rename_i l' hl;exact .mp _ b t f ((aa _ _ (Y2 hl)).trans hb) (ai _ _ _ (Y2 hl) hh)
  ·exact .top _
 |ap l i off b e s rows hb hh=>
  unfold U7;split
  ·rename_i l' hl;exact .ap _ i off b e s rows ((aa _ _ (Y2 hl)).trans hb) (ai _ _ _ (Y2 hl) hh)
  ·exact .top _
 |dang v av l hl hh h1=>
  cases av<;>simp[P0]at hl
  ·subst hl;unfold U7;split
   ·rename_i l' ak;exact .dang _ _ l' rfl (ao _ _ (Y2 ak) hh) h1
   ·exact .top _
  ·subst hl;unfold U7;split
   ·rename_i l' ak;exact .dang _ _ l' rfl (ao _ _ (Y2 ak) hh) h1
   ·exact .top _
 |gdT=>exact .top _
 |gdF=>exact .top _
def Qdo(ρ:Y (Nat×Nat))(av:AV):Bool:=
 match av with
 |.ptr j _=>(look ρ j).isSome
 |av=>lf av
def Cc(ρ:Y (Nat×Nat)):Y AV->Bool
 |[]=>true
 |a::r=>Qdo ρ a&&Cc ρ r
theorem Q3v{ρ:Y (Nat×Nat)}:∀{l:Y AV} {i:Nat} {x:AV},Cc ρ l=true->l[i]? = some x->Qdo ρ x=true
 |a::r,0,x,h,hx=>by
  simp only[Cc,QpE]at h;simp at hx;subst hx;exact h.1
 |a::r,i+1,x,h,hx=>by
  simp only[Cc,QpE]at h;exact Q3v h.2 (by simpa using hx)
def MQ(σ:Y (Nat×Nat))(H:Y (Nat×Ob)):Y (Nat×Nat)->Y (Nat×oP Ob)
 |[]=>[]
 |(j,l)::r=>(l,(look H j).map (QcB σ))::MQ σ H r
theorem Bw(σ:Y (Nat×Nat))(H:Y (Nat×Ob)):∀τ,(MQ σ H τ).map (·.1)=τ.map (·.2)
 |[]=>rfl
 |(j,l)::r=>by simp[MQ,Bw σ H r]
theorem Lj(σ:Y (Nat×Nat))(H:Y (Nat×Ob)):∀(τ:Y (Nat×Nat)) (h:Nat->oP Ob),Xn (τ.map (·.2))=true->∀j l,(j,l)∈τ->KS h (MQ σ H τ) l=(look H j).map (QcB σ)
 |(a,b)::r,h,hn,j,l,hm=>by
  simp only[QpR,Xn,QpE,QpL]at hn;simp only[MQ,KS];rcases QpK.1 hm with hm | hm
  ·injection hm with e1 e2
   subst e1 e2;rw[UM]
   ·simp
   ·rw[Bw];intro aa;have:PM l (r.map (·.2))=true:=by
     have:∀(L:Y Nat),l∈L->PM l L=true:=by
      intro L;induction L with
      |nil=>simp_all
      |cons x xs ih=>
       grind[PM,Nat.beq_refl]
     simp_all
    simp_all
  ·exact Lj σ H r _ hn.2 j l hm
mutual
theorem Q27(ρ:Y (Nat×Nat))(t:Nat):∀av:AV,gds t (U7 ρ av)=false
 |.top=>rfl
 |.d _=>rfl
 |.nil=>rfl
 |.el ..=>rfl
 |.fs ..=>rfl
 |.mpd _=>rfl
 |.ex _=>rfl
 |.gd ..=>rfl
 |.ag l=>by simp only[U7,gds];exact Fg ρ t l
 |.tup l=>by simp only[U7,gds];exact Fg ρ t l
 |.fn _ l=>by simp only[U7,gds];exact Fg ρ t l
 |.ptr l o=>by unfold U7;split<;>rfl
 |.arr l=>by unfold U7;split<;>rfl
 |.ap l i o=>by unfold U7;split<;>rfl
 |.sa l t=>by unfold U7;split<;>rfl
theorem Fg(ρ:Y (Nat×Nat))(t:Nat):∀l:Y AV,Q07 t (Q3i ρ l)=false
 |[]=>rfl
 |a::r=>by simp only[Q3i,Q07,Q27 ρ t a,Fg ρ t r,Bool.or_self]
end
mutual
theorem Q9n(ρ:Y (Nat×Nat)):∀av:AV,lf av=true->U7 ρ av=av
 |.top,_=>rfl
 |.d _,_=>rfl
 |.nil,_=>rfl
 |.el ..,_=>rfl
 |.fs ..,_=>rfl
 |.mpd _,_=>rfl
 |.ex _,_=>rfl
 |.gd ..,h=>by simp[lf]at h
 |.ag l,h=>by simp only[U7];rw[Q1G ρ l (by simpa[lf]using h)]
 |.tup l,h=>by simp only[U7];rw[Q1G ρ l (by simpa[lf]using h)]
 |.fn _ l,h=>by simp only[U7];rw[Q1G ρ l (by simpa[lf]using h)]
 |.ptr ..,h=>by simp[lf]at h
 |.arr _,h=>by simp[lf]at h
 |.ap ..,h=>by simp[lf]at h
 |.sa ..,h=>by simp[lf]at h
theorem Q1G(ρ:Y (Nat×Nat)):∀l:Y AV,lfL l=true->Q3i ρ l=l
 |[],_=>rfl
 |a::r,h=>by
  simp only[lfL,QpE]at h;simp only[Q3i,Q9n ρ a h.1,Q1G ρ r h.2]
end
theorem Q7l{σ:Y (Nat×Nat)}{l:Nat}(h:l ∉ σ.map (·.2)):inv σ l=none:=by
 cases hi:inv σ l with
 |none=>rfl
 |some j=>exact absurd (QpX.2 ⟨(j,l),Q9Q hi,rfl⟩) h
theorem LU{ρ:Y (Nat×Nat)}(hn:Xn (ρ.map (·.1))=true){j l:Nat}(hm:(j,l)∈ρ):look ρ j=some l:=by
 cases hk:look ρ j with
 |none=>
  have:∀(L:Y (Nat×Nat)),(j,l)∈L->look L j≠none:=by
   intro L;induction L with
   |nil=>simp_all
   |cons x r ih=>
    grind[Xd]
  simp_all
 |some l'=>
  have:=Ht hn (j,l) (j,l') hm (Y2 hk) rfl
  simp_all
structure HeapEnd(σ ρ:List (Nat×Nat))(H:List (Nat×Ob))(av:AV)(H':List (Nat×Ob))(dl:Dl):Prop where
 v:U7 σ av=dl.v
 wr:MQ σ H' σ=dl.wr
 all:∀j l,(j,l)∈σ->(look H' j).isSome=true
 box:∀j l,(j,l)∈ρ->∃c c',look H j=some (.box c)/\look H' j=some (.box c')/\c'.length=c.length
theorem Q4B {α : Type} {K : AV -> Y (Nat×Ob) -> oP α} {res : α} {f : Nat} {fn : Func} (hf : P.funcs[f]? = some fn) (hb : fn.body.isSome = true) (hn : (fn.name == "runtime.NumGoroutine") = false)
  {σ ρ:Y (Nat×Nat)} {avs avs':Y AV} {H:Y (Nat×Ob)} {hl:Nat->oP Ob} {dl:Dl}
  (hav:avs=avs'.map (U7 ρ)) (hargs:Cc ρ avs'=true)
  (hsub:∀p,p∈ρ->p∈σ) (h1:Xn (σ.map (·.1))=true) (h2:Xn (σ.map (·.2))=true) (hρ:Xn (ρ.map (·.1))=true)
  (hin:∀j l,(j,l)∈ρ->1000000<=j/\∃cs cs',hl l=some (.box cs)/\look H j=some (.box cs')/\AVleL cs cs'/\lfL cs'=true)
  (hinH:∀j,(look H j).isSome=true->∃l,(j,l)∈ρ)
  (hnew:∀j l,(j,l)∈σ->(j,l)∈ρ\/hl l=none)
  (hwl:wrL dl=σ.map (·.2))
  (hcall:∀(β:Nat->oP Nat) (S:Nat->Prop) (w:World) (vs:Y Value),Objs β S (look H) w->ArgsRd β S (look H) w vs avs'->Calls P f vs.toArray w (Nd H K res β S w)) (hK:∀av H',K av H'=some res->HeapEnd σ ρ H av H' dl):ZW P f avs hl dl:=by
 refine⟨⟨fn,hf,hb,hn⟩,λβ S h' w args hO hA hag=>?_⟩;have hag:∀{j l:Nat},(j,l)∈σ->h' l=hl l:=λ{j l} hm=>hag l (.inr (by rw[hwl];exact QpX.2 ⟨(j,l),hm,rfl⟩))
 have hlook:∀{j l:Nat},(j,l)∈ρ->look ρ j=some l:=λhm=>LU hρ hm
 have hβc:∀{j l:Nat},(j,l)∈ρ->(look ρ j).bind β=β l:=λhm=>by rw[hlook hm];rfl
 have hlk2:∀{j j' l:Nat},(j,l)∈ρ->(j',l)∈ρ->j=j':=λa b=>by
  have:=Ht h2 _ _ (hsub _ a) (hsub _ b) rfl;injection this
 have hsome':∀{j l:Nat},(j,l)∈ρ->(h' l).isSome=true:=λhm=>by
  obtain⟨_,cs,cs',g1,_⟩:=hin _ _ hm;rw[hag (hsub _ hm),g1];rfl
 have hO0:Objs (λj=>(look ρ j).bind β) S (look H) w:=by
  refine⟨λj o ho=>?_,λj j' b s1 s2 b1 b2=>?_,λj b s1 b1=>?_,hO.sb⟩
  ·obtain⟨l,hm⟩:=hinH j (by simp[ho]);obtain⟨_,cs,cs',g1,g2,g3,g4⟩:=hin j l hm;rw[ho]at g2;injection g2 with g2
   subst g2;obtain⟨b,ty,c0,fz,e1,e2,e3,e4,e5⟩:=hO.ob l _ ((hag (hsub _ hm)).trans g1);refine⟨b,ty,c0,fz,(hβc hm).trans e1,e2,⟨e3.1,λi l' t' hx=>by have:=Q1g g4 hx;simp[lf]at this⟩,e4.trans g3.length,λi x hx=>?_⟩;obtain⟨y,y1,y2⟩:=g3.at i x hx;exact FE (Q1g g4 hx) (λ_ h=>h) (λ_ _=>rfl) (y2 _ _ _ _ _ _ (e5 i y y1))
  ·obtain⟨l,hm⟩:=hinH j s1;obtain⟨l',hm'⟩:=hinH j' s2;have:=hO.inj l l' b (hsome' hm) (hsome' hm') (by rw[<- hβc hm];exact b1) (by rw[<- hβc hm'];exact b2);subst this;exact hlk2 hm hm'
  ·obtain⟨l,hm⟩:=hinH j s1;exact hO.apart l b (hsome' hm) (by rw[<- hβc hm];exact b1)
 have hA0:ArgsRd (λj=>(look ρ j).bind β) S (look H) w args avs':=by
  refine⟨by rw[hA.1,hav,List.length_map],λi v av g1 g2=>?_⟩;have hr:=hA.2 i v (U7 ρ av) g1 (by rw[hav,List.getElem?_map,g2];rfl);have hok:=Q3v hargs g2;unfold Qdo at hok;split at hok
  ·rename_i j o;cases hj:look ρ j with
   |none=>rw[hj]at hok;cases hok
   |some l=>
    simp only[U7,hj]at hr;cases hr with
    |ptr _ _ b hb'=>exact .ptr j o b (by simp only[hj];exact hb')
    |dang _ _ _ hl'=>simp[P0]at hl'
  ·rw[Q9n ρ av hok]at hr;exact FE hok (λ_ h=>h) (λ_ _=>rfl) hr
 refine(hcall _ _ _ _ hO0 hA0).mono λe w' ⟨v,av,H',β',S',he,hk,hrd,_,hr⟩=>?_
 obtain⟨q1,q2,q3,q4⟩:=hK av H' hk;have hinv:∀{j l:Nat},(j,l)∈σ->inv σ l=some j:=λhm=>Q4c h2 hm
 let βo:Nat->oP Nat:=λl=>match inv σ l with | some j=>β' j | none=>β l
 have hβo:∀j l,(j,l)∈σ->βo l=β' j:=λj l hm=>by simp only[βo,hinv hm]
 have hset:∀j l,(j,l)∈σ->KS h' dl.wr l=(look H' j).map (QcB σ):=λj l hm=>by rw[<- q2];exact Lj σ H' σ h' h2 j l hm
 have hmem:∀{l:Nat},l∈wrL dl->∃j,(j,l)∈σ:=λhm=>by
  rw[hwl]at hm;obtain⟨⟨j,l'⟩,m1,m2⟩:=QpX.1 hm;simp only at m2;subst m2;exact⟨j,m1⟩
 have hpin:∀{j l:Nat},(j,l)∈ρ->β' j=β l:=λhm=>(hr.pin _ (hin _ _ hm).1).trans (hβc hm)
 have hren:∀{v:Value} {x:AV},RdA β' S' (look H') w' tm0 v x->RdA βo S' (KS h' dl.wr) w' tm0 v (U7 σ x):=λhx=>
  Q6W hβo (λj l o hm ho=>by rw[hset j l hm,ho];rfl) (λj l hm ho=>by rw[hset j l hm,ho];rfl) hx
 have hnotin:∀{j l:Nat},(j,l)∈σ->(j,l) ∉ ρ->∀b,β' j=some b->w.heap.size<=b:=by
  intro j l hm hno b hb';rcases hr.own j b (q3 j l hm) hb' with⟨j',s1,s2⟩ | h
  ·exfalso;obtain⟨l',hm'⟩:=hinH j' s1;have e1:β' j'=some b:=(hpin hm').trans (by rw[<- hβc hm'];exact s2);have:=hr.inj j j' b (q3 j l hm) (q3 j' l' (hsub _ hm')) hb' e1;subst this;have:=Ht h1 _ _ hm (hsub _ hm') rfl;exact hno (this▸hm')
  ·exact h
 have hMw:∀b,(∃j,(look H j).isSome=true/\(look ρ j).bind β=some b)->∃l,l∈wrL dl/\(h' l).isSome=true/\β l=some b:=by
  intro b ⟨j,s1,s2⟩;obtain⟨l,hm⟩:=hinH j s1;exact⟨l,by rw[hwl];exact QpX.2 ⟨(j,l),hsub _ hm,rfl⟩,hsome' hm,by rw[<- hβc hm];exact s2⟩
 refine⟨v,βo,S',he,⟨hr.s0,λb hS=>?_,hr.sb,hr.fr.mono λb _ hM=>hMw b hM,λl hno=>?_,λl o hm ho=>?_,λl hm hs=>?_,λl b hm hs hb'=>?_,λl l' b hm hm' hs hs' hb' hb''=>?_,λl hm hno hno'=>?_,?_,λt=>by rw[<- q1];exact Q27 σ t av⟩⟩
 ·rcases hr.sfr b hS with g | g | g
  ·exact .inl g
  ·exact .inr (.inr (hMw b g))
  ·exact .inr (.inl g)
 ·have:inv σ l=none:=Q7l (by rw[<- hwl];exact hno);simp only[βo,this]
 ·obtain⟨j,hj⟩:=hmem hm;rw[hset j l hj,QpF]at ho;obtain⟨o',ho',rfl⟩:=ho;have hob:=hr.ob j o' ho';cases o' with
  |box cells=>
   obtain⟨b,ty,cs,fz,g1,g2,g3,g4,g5⟩:=hob;refine⟨b,ty,cs,fz,(hβo j l hj).trans g1,g2,⟨g3.1,Q1A g3.2⟩,by rw[g4,Z7],λi x hx=>?_⟩;rw[VK,QpF]at hx;obtain⟨y,hy,rfl⟩:=hx;exact hren (g5 i y hy)
  |arr e s rows=>
   rcases hob with⟨g1,g2⟩|⟨b,cs,g1,g2,g3,g4,g5⟩
   ·exact .inl ⟨(hβo j l hj).trans g1,g2⟩
   ·exact .inr ⟨b,cs,(hβo j l hj).trans g1,g2,g3,g4,g5⟩
  |mp t f=>
   obtain⟨b,hb,hm'⟩:=hob;exact⟨b,(hβo j l hj).trans hb,hm'⟩
 ·obtain⟨j,hj⟩:=hmem hm;rcases hnew j l hj with hp | hno
  ·obtain⟨c,c',g1,g2,g3⟩:=q4 j l hp;obtain⟨_,cs,cs',e1,e2,e3,_⟩:=hin j l hp;have hh:h' l=some (.box cs):=(hag hj).trans e1;refine⟨(hβo j l hj).trans (hpin hp),λhx=>(by rw[hh]at hx;cases hx),λe s rows hx=>(by rw[hh]at hx;cases hx),λb c0 ty fz _ hb' hw=>?_,λt f hx=>(by rw[hh]at hx;cases hx)⟩;obtain⟨b2,ty2,c2,fz2,k1,k2,_,k4,_⟩:=hr.ob j _ g2;obtain⟨b3,ty3,c3,fz3,m1,m2,_,m4,_⟩:=hO.ob l _ hh;rw[hpin hp,hb']at k1;injection k1 with k1
   subst k1;rw[hb']at m1;injection m1 with m1
   subst m1;rw[hw]at m2;injection m2 with m2
   injection m2 with m2 _ _
   subst m2;refine⟨c2,ty2,fz2,k2,?_⟩;rw[k4,m4,g3];rw[g1]at e2;injection e2 with e2
   injection e2 with e2
   rw[e2,e3.length]
  ·rw[hag hj,hno]at hs;cases hs
 ·obtain⟨j,hj⟩:=hmem hm;rw[hβo j l hj]at hb';refine⟨?_,hr.apart j b (q3 j l hj) hb'⟩;by_cases hp:(j,l)∈ρ
  ·exact .inr ⟨l,hm,hsome' hp,by rw[<- hpin hp];exact hb'⟩
  ·exact .inl (hnotin hj hp b hb')
 ·obtain⟨j,hj⟩:=hmem hm;obtain⟨j',hj'⟩:=hmem hm';rw[hβo j l hj]at hb';rw[hβo j' l' hj']at hb'';have:=hr.inj j j' b (q3 j l hj) (q3 j' l' hj') hb' hb'';subst this;have:=Ht h1 _ _ hj hj' rfl;injection this
 ·obtain⟨j,hj⟩:=hmem hm;have:=q3 j l hj;rw[hset j l hj]at hno';cases hx:look H' j with
  |none=>rw[hx]at this;cases this
  |some o=>rw[hx]at hno';cases hno'
 ·rw[<- q1];exact hren hrd
def Qgw(hl:Nat->oP Ob)(H:Y (Nat×Ob)):Y (Nat×Nat)->Prop
 |[]=>True
 |(j,l)::r=>(1000000<=j/\∃cs aa,hl l=some (.box cs)/\look H j=some (.box aa)/\AVleL cs aa/\lfL aa=true)/\Qgw hl H r
def QcH(H:Y (Nat×Ob)):Y (Nat×Nat)->Prop
 |[]=>True
 |(j,_)::r=>(look H j).isSome=true/\QcH H r
def QfR(H H':Y (Nat×Ob)):Y (Nat×Nat)->Prop
 |[]=>True
 |(j,_)::r=>(∃c c',look H j=some (.box c)/\look H' j=some (.box c')/\c'.length=c.length)/\QfR H H' r
def QhT(hl:Nat->oP Ob):Y (Nat×Nat)->Bool
 |[]=>true
 |(_,l)::r=>(hl l).isNone&&QhT hl r
theorem Q95{hl:Nat->oP Ob}{H:Y (Nat×Ob)}:∀{ρ:Y (Nat×Nat)},Qgw hl H ρ->∀j l,(j,l)∈ρ->1000000<=j/\∃cs aa,hl l=some (.box cs)/\look H j=some (.box aa)/\AVleL cs aa/\lfL aa=true
 |(a,b)::r,h,j,l,hm=>by
  rcases QpK.1 hm with hm | hm
  ·injection hm with h1 h2;subst h1 h2;exact h.1
  ·exact Q95 h.2 j l hm
theorem Q5n{H:Y (Nat×Ob)}:∀{ρ:Y (Nat×Nat)},QcH H ρ->∀j l,(j,l)∈ρ->(look H j).isSome=true
 |(a,b)::r,h,j,l,hm=>by
  rcases QpK.1 hm with hm | hm
  ·injection hm with h1 h2;subst h1 h2;exact h.1
  ·exact Q5n h.2 j l hm
theorem Q8X{H H':Y (Nat×Ob)}:∀{ρ:Y (Nat×Nat)},QfR H H' ρ->∀j l,(j,l)∈ρ->∃c c',look H j=some (.box c)/\look H' j=some (.box c')/\c'.length=c.length
 |(a,b)::r,h,j,l,hm=>by
  rcases QpK.1 hm with hm | hm
  ·injection hm with h1 h2;subst h1 h2;exact h.1
  ·exact Q8X h.2 j l hm
theorem Q6x{hl:Nat->oP Ob}:∀{ρ:Y (Nat×Nat)},QhT hl ρ=true->∀j l,(j,l)∈ρ->hl l=none
 |(a,b)::r,h,j,l,hm=>by
  simp only[QhT,QpE]at h;rcases QpK.1 hm with hm | hm
  ·injection hm with h1 h2;subst h1 h2;simpa using h.1
  ·exact Q6x h.2 j l hm
theorem Q2a:∀{H:Y (Nat×Ob)} {ρ:Y (Nat×Nat)},H.map (·.1)=ρ.map (·.1)->∀j,(look H j).isSome=true->∃l,(j,l)∈ρ
 |[],_,_,j,hs=>by simp[look]at hs
 |(a,o)::r,[],h,_,_=>by simp at h
 |(a,o)::r,(b,l)::ρ,h,j,hs=>by
  simp only[QpR,List.cons.injEq]at h;rw[Xd]at hs;by_cases e:j=a
  ·exact⟨l,by rw[e,h.1];exact List.mem_cons_self ..⟩
  ·rw[QpW e]at hs;obtain⟨l',hm⟩:=Q2a h.2 j hs;exact⟨l',List.mem_cons_of_mem _ hm⟩
def Na(hl:Nat->oP Ob)(ρ ν:Y (Nat×Nat)):Bool:=Xn ((ρ++ν).map (·.2))&&QhT hl ν
theorem AZ {α : Type} {K : AV -> Y (Nat×Ob) -> oP α} {res : α} {f : Nat} {fn : Func} (hf : P.funcs[f]? = some fn) (hb : fn.body.isSome = true) (hn : (fn.name == "runtime.NumGoroutine") = false)
  {ρ ν:Y (Nat×Nat)} {avs avs':Y AV} {H:Y (Nat×Ob)} {hl:Nat->oP Ob} {dl:Dl}
  (hav:avs=avs'.map (U7 ρ)) (hargs:Cc ρ avs'=true) (h1:Xn ((ρ++ν).map (·.1))=true) (hρ:Xn (ρ.map (·.1))=true)
  (hc:Na hl ρ ν=true) (hin:Qgw hl H ρ) (hkeys:H.map (·.1)=ρ.map (·.1)) (hwl:wrL dl=(ρ++ν).map (·.2))
  (hcall:∀(β:Nat->oP Nat) (S:Nat->Prop) (w:World) (vs:Y Value),Objs β S (look H) w->ArgsRd β S (look H) w vs avs'->Calls P f vs.toArray w (Nd H K res β S w))
  (hK:∀av H',K av H'=some res->U7 (ρ++ν) av=dl.v/\MQ (ρ++ν) H' (ρ++ν)=dl.wr/\QcH H' (ρ++ν)/\QfR H H' ρ):ZW P f avs hl dl:=by
 simp only[Na,QpE]at hc;refine Q4B hf hb hn hav hargs (λp hp=>List.mem_append_left _ hp) h1 hc.1 hρ (Q95 hin) (Q2a hkeys) (λj l hm=>?_) hwl hcall λav H' hk=>?_
 ·grind[Q6x]
 ·obtain⟨q1,q2,q3,q4⟩:=hK av H' hk;exact⟨q1,q2,Q5n q3,Q8X q4⟩
theorem Qff {α : Type} {K : AV -> Y (Nat×Ob) -> oP α} {res : α} {C : VC} (hC : VCOk P C) {n f : Nat} {fn : Func} (hf : P.funcs[f]? = some fn) (hb : fn.body.isSome = true) (hn : (fn.name == "runtime.NumGoroutine") = false)
  {ρ ν:Y (Nat×Nat)} {avs avs':Y AV} {H:Y (Nat×Ob)} {hl:Nat->oP Ob} {dl:Dl}
  (hav:avs=avs'.map (U7 ρ)) (hargs:Cc ρ avs'=true) (h1:Xn ((ρ++ν).map (·.1))=true) (hρ:Xn (ρ.map (·.1))=true)
  (hc:Na hl ρ ν=true) (hin:Qgw hl H ρ) (hkeys:H.map (·.1)=ρ.map (·.1)) (hwl:wrL dl=(ρ++ν).map (·.2))
  (h:vfn C n fn avs' H K=some res)
  (hK:∀av H',K av H'=some res->U7 (ρ++ν) av=dl.v/\MQ (ρ++ν) H' (ρ++ν)=dl.wr/\QcH H' (ρ++ν)/\QfR H H' ρ):ZW P f avs hl dl:=
 AZ hf hb hn hav hargs h1 hρ hc hin hkeys hwl (λ_ _ _ _ hO hA=>Bp hC hf h hO hA) hK
theorem Xm{c:Bool}{x:oP R}{r:R}(h:(bif c then x else none)=some r):c=true/\x=some r:=by
 grind
def Qj5(l:Y Nat)(a b:PJ):PJ:=λR aa g ac hl k=>bif PM aa l then a R aa g ac hl k else b R aa g ac hl k
theorem QdG(l:Y Nat){f:Nat}{a b:PJ}(ha:VH P f a)(hb:VH P f b):VH P f (Qj5 l a b):=by
 intro R aa g ac hl k r h;unfold Qj5 at h;cases hm:PM aa l with
 |true=>rw[hm]at h;exact ha R aa g ac hl k r h
 |false=>rw[hm]at h;exact hb R aa g ac hl k r h
def prP(hl:Nat->oP Ob)(av:AV)(k:Nat->Y AV->oP R):oP R:=
 match av with
 |.ptr l o=>bif Nat.beq o 0 then match hl l with
  |some (.box cs)=>k l cs
  |_=>none
  else none
 |_=>none
theorem QhE{hl:Nat->oP Ob}{av:AV}{k:Nat->Y AV->oP R}{r:R}(h:prP hl av k=some r):∃l cs,k l cs=some r/\av = .ptr l 0/\hl l=some (.box cs):=by
 unfold prP at h
 grind[Nat.beq,Nat.eq_of_beq_eq_true]
end
end Go.Vx
namespace Go.Vx
variable{w:World}
section
variable{P:Program} {R:Type}
def SW(w:World):Nat->Prop:=λb=>b<w.heap.size
theorem Q97{f:Nat}{ss:Y (Y Nat)}{K:AV->oP Bool}(hK:∀x,K x=some true->x = .d (.bool true)){aj:Y AV}{args:Y Value}(hA:ArgsRd (λ_=>none) (SW w) (look ([]:Y (Nat×Ob))) w args aj)(ac:∀(β:Nat->oP Nat) (S:Nat->Prop) (w:World) (vs:Y Value),Objs β S (look ([]:Y (Nat×Ob))) w->ArgsRd β S (look ([]:Y (Nat×Ob))) w vs aj->Calls P f vs.toArray w (Nd ([]:Y (Nat×Ob)) (retF ss K) true β S w)) :
  Calls P f args.toArray w λe w'=>e = .returned (.bool true)/\RowKit.Below w.heap.size w w':=by
 have hO:Objs (λ_=>none) (SW w) (look ([]:Y (Nat×Ob))) w:=⟨λl o h=>by simp[look]at h,λl l' b h=>by simp[look]at h,λl b h=>by simp[look]at h,λb h=>h⟩;refine(ac _ _ _ _ hO hA).mono λe w' ⟨v,av,H',β',S',he,hk,ao,_,hr⟩=>?_
 refine⟨?_,Fr.below (hr.fr.mono λb _ ⟨l,h1,_⟩=>by simp[look]at h1)⟩;unfold retF at hk;split at hk
 case h_2=>cases hk
 rename_i an ak;cases aa:lf (Qfj ss an)with
 |false=>simp[aa]at hk
 |true=>
  simp only[aa,QpJ]at hk;have hk:=hK _ hk;have am:Objs β' S' (look H') w':=⟨hr.ob,hr.inj,hr.apart,hr.sb⟩;obtain⟨bs,_,_,ai⟩:=Q2Q am ak ao;have:=Q9r ss _ _ _ _ _ _ _ ai;rw[hk]at this;rw[he,this.bool_inv]
theorem Q7M{β:Nat->oP Nat}{S:Nat->Prop}{h:Nat->oP Ob}:ArgsRd β S h w [] []:=⟨rfl,λi v av h=>by simp at h⟩
theorem Q5I{β:Nat->oP Nat}{S:Nat->Prop}{h:Nat->oP Ob}{v:Value}{av:AV}{vs:Y Value}{aa:Y AV}(h0:RdA β S h w tm0 v av)(hr:ArgsRd β S h w vs aa):ArgsRd β S h w (v::vs) (av::aa):=by
 refine⟨by simp[hr.1],λi v' ac h1 h2=>?_⟩;cases i with
 |zero=>simp at h1 h2;subst h1 h2;exact h0
 |succ i=>exact hr.2 i v' ac (by simpa using h1) (by simpa using h2)
theorem Qf7{a:Addr}{v:Value}(h:w.cell? a=some v):a.block<w.heap.size:=by
 rcases Nat.lt_or_ge a.block w.heap.size with h1 | h1
 ·exact h1
 ·simp[World.cell?,Array.getElem?_eq_none h1]at h
theorem Qh{α:Type}(g:Bool)(a z:α)(k:α->oP R):gb g (some a) z k=k a:=rfl
end
end Go.Vx
namespace Go.Vx
inductive Sh where
 |int (k:IntKind)
 |bool
 |str
 |sl (row:List Sh)
inductive Fit:Sh->D->Prop
 |int (k:IntKind) (n:Int) (h:(Lit.int k n).wf=true):Fit (.int k) (.int k n)
 |bool (b:Bool):Fit .bool (.bool b)
 |str (s:List UInt8) (h:s.length<=maxLen):Fit .str (.str s)
 |sl (row:List Sh) (rows:List (List D)) (h:rows.length<=maxLen) (hl:∀(i:Nat) (r:List D),rows[i]? = some r->r.length=row.length)
   (hr:∀(i j:Nat) (r:List D) (s:Sh) (x:D),rows[i]? = some r->row[j]? = some s->r[j]? = some x->Fit s x):Fit (.sl row) (.sl row.length rows)
def QcI(ss:Y Sh)(ds:Y D):Prop:=ds.length=ss.length/\∀(j:Nat) (s:Sh) (x:D),ss[j]? = some s->ds[j]? = some x->Fit s x
def Qfz(P:Program)(so:TypeId->oP (Y Sh)):Nat->Y Field->oP (Y Sh)
 |_,[]=>some []
 |off,fd::r=>
  if fd.offset=off then match so fd.type with
   |some a=>if a.length=P.cellsOf fd.type then match Qfz P so (off+a.length) r with
    |some l=>some (a++l)
    |none=>none
    else none
   |none=>none
  else none
def Qae(P:Program):Nat->TypeId->oP (Y Sh)
 |0,_=>none
 |f+1,t=>
  match P.underlying t with
  |some .bool=>some [.bool]
  |some (.int k)=>some [.int k]
  |some .string=>some [.str]
  |some (.slice e)=>match Qae P f e with
   |some row=>if row.length=P.cellsOf e/\row.length≠0 then some [.sl row]else none
   |none=>none
  |some (.struct fs)=>match Qfz P (Qae P f) 0 fs.toList with
   |some l=>if l.length=P.cellsOf t then some l else none
   |none=>none
  |_=>none
section
variable{P:Program} {H:Type} {enc:TypeId×Value->H} {w:World}
def RdL(w:World)(cs:Y Value)(ds:Y D):Prop:=cs.length=ds.length/\∀(j:Nat) (v:Value) (x:D),cs[j]? = some v->ds[j]? = some x->Rd (SW w) w v x
theorem Q6m{α:Type}{Q:Nat->α->Prop}:∀(n:Nat),(∀i,i<n->∃a,Q i a)->∃l:Y α,l.length=n/\∀(i:Nat) (a:α),l[i]? = some a->Q i a
 |0,_=>⟨[],rfl,λi a h=>by simp at h⟩
 |n+1,h=>by
  obtain⟨l,h1,h2⟩:=Q6m n λi hi=>h i I
  obtain⟨a,ha⟩:=h n I;refine⟨l++[a],by simp[h1],λi x hx=>?_⟩;rw[List.getElem?_append]at hx;split at hx
  ·exact h2 i x hx
  ·have:i=l.length:=by
    rcases Nat.lt_or_ge (i-l.length) 1 with h3 | h3
    ·omega
    ·rw[QpZ (by simpa using h3)]at hx;cases hx
   subst this;simp at hx;subst hx;rw[h1];exact ha
theorem QcI.append{a b:Y Sh}{x y:Y D}(h1:QcI a x)(h2:QcI b y):QcI (a++b) (x++y):=by
 refine⟨by simp[h1.1,h2.1],λj s d hs hd=>?_⟩;rw[List.getElem?_append]at hs hd;rw[h1.1]at hd;split at hs
 ·rename_i h;rw[if_pos h]at hd;exact h1.2 j s d hs hd
 ·rename_i h;rw[QpW h]at hd;exact h2.2 _ s d hs hd
theorem RdL.append{a b:Y Value}{x y:Y D}(h1:RdL w a x)(h2:RdL w b y):RdL w (a++b) (x++y):=by
 refine⟨by simp[h1.1,h2.1],λj s d hs hd=>?_⟩;rw[List.getElem?_append]at hs hd;rw[h1.1]at hs;split at hd
 ·rename_i h;rw[if_pos h]at hs;exact h1.2 j s d hs hd
 ·rename_i h;rw[QpW h]at hs;exact h2.2 _ s d hs hd
theorem Ah{v:Value}{x:D}(h:Rd (SW w) w v x):RdL w [v] [x]:=⟨rfl,λj v' x' h1 h2=>by
 cases j with
 |zero=>simp at h1 h2;subst h1 h2;exact h
 |succ j=>simp at h1⟩
theorem Ei{s:Sh}{x:D}(h:Fit s x):QcI [s] [x]:=⟨rfl,λj v' x' h1 h2=>by
 cases j with
 |zero=>simp at h1 h2;subst h1 h2;exact h
 |succ j=>simp at h1⟩
theorem Q8q{base:Nat}{a:Addr}{n:Nat}{cs:Y Value}(h:w.cells? base a n=some cs):cs.length=n/\∀(j:Nat) (v:Value),cs[j]? = some v->w.cell? (a.add j)=some v:=by
 unfold World.cells? at h;split at h
 ·refine⟨by simpa using mapM_some_length h,λj v hv=>?_⟩;have hj:j<n:=by
   have h1:=mapM_some_length h;have h2:=(QpG.1 hv).1;simp at h1;omega
  have:=mapM_some_get h j j (by simp[hj]);rw[this,hv]
 ·cases h
def Got(w:World)(ss:Y Sh)(cs:Y Value):Prop:=∃ds,RdL w cs ds/\QcI ss ds
theorem Q6V{base:Nat}{ar:Nat->Bool}{aw:Bool}:∀(n:Nat) (f:Nat) (t:TypeId) (ss:Y Sh) (cs:Y Value) (x:DataW H×Y MemPlace),Qae P f t=some ss->DataW.trod enc P w base ar aw n t cs=some x->Got w ss cs:=by
 intro n;induction n with
 |zero=>intro f t ss cs x _ h;simp[DataW.trod]at h
 |succ n ih=>
  intro f t ss cs x hs h;cases f with
  |zero=>simp[Qae]at hs
  |succ f=>
   unfold Qae at hs;split at hs
   ·rename_i ht;injection hs with hs;subst hs
    obtain⟨b,rfl,_⟩:=DataW.trod_bool ht h;exact⟨[.bool b],Ah (.bool b),Ei (.bool b)⟩
   ·rename_i k ht;injection hs with hs;subst hs
    obtain⟨b,rfl,_,hw⟩:=DataW.trod_int ht h;exact⟨[.int k b],Ah (.int k b),Ei (.int k b hw)⟩
   ·rename_i ht;injection hs with hs;subst hs
    obtain⟨b,rfl,_,hw⟩:=DataW.trod_string ht h;exact⟨[.str b.data.toList],Ah (.str b),Ei (.str _ (by simpa using hw))⟩
   ·rename_i e ht;split at hs
    case h_2=>cases hs
    rename_i row a5;split at hs
    case isFalse=>cases hs
    rename_i am;obtain⟨am,hz⟩:=am;injection hs with hs;subst hs
    rcases DataW.trod_slice ht h with⟨rfl,_⟩|⟨a,len,cap,aj,rest,n',hn,rfl,_,hb,hl,hm,bo,hat,_,_⟩
    ·exact⟨[.sl row.length []],Ah (.sl0 _ _ _),Ei (.sl row [] (Nat.zero_le _) (λi r h=>by simp at h) (λi j r s x h=>by simp at h))⟩
    ·obtain rfl:n=n':=I
     have ay:∀i,i<len->∃r:Y D,∃cs,w.cells? base (a.add (i*P.cellsOf e)) (P.cellsOf e)=some cs/\RdL w cs r/\QcI row r:=by
      intro i hi;have h1:=hat i hi;have h2:aj[i]? = some (aj[i]'I):=QpH I;rw[h2,Option.bind_eq_some_iff]at h1;obtain⟨cs,hc,h1⟩:=h1;obtain⟨ds,g1,g2⟩:=ih f e row cs _ a5 h1;exact⟨ds,cs,hc,g1,g2⟩
     obtain⟨rows,az,aa⟩:=Q6m len ay;refine⟨[.sl row.length rows],Ah ?_,Ei (.sl row rows I (λi r hr=>?_) (λi j r s x hr hs hx=>?_))⟩
     ·cases len with
      |zero=>
       have:rows=[]:=List.eq_nil_of_length_eq_zero az;subst this;exact .sl0 _ _ _
      |succ m=>
       have ac:∀(i j:Nat) (r:Y D) (x:D),rows[i]? = some r->r[j]? = some x->∃v,w.cell? (a.add (i*row.length+j))=some v/\Rd (SW w) w v x:=by
        intro i j r x hr hx;obtain⟨cs,hc,g1,g2⟩:=aa i r hr;obtain⟨c1,c2⟩:=Q8q hc;have hj:j<cs.length:=by have:=(QpG.1 hx).1;have:=g1.1;omega
        have a2:cs[j]? = some (cs[j]' hj):=QpH hj;refine⟨cs[j]' hj,?_,g1.2 j _ x a2 hx⟩;have:=c2 j _ a2;rw[BB]at this;rw[am];exact this
       ·have h0:∃r,rows[0]? = some r:=⟨_,QpH I⟩;obtain⟨r0,a4⟩:=h0;obtain⟨bl,bn,g1,g2⟩:=aa 0 r0 a4;have ao:∃x,r0[0]? = some x:=⟨_,QpH (by rw[g2.1];omega)⟩;obtain⟨x0,ao⟩:=ao;obtain⟨v0,bg,_⟩:=ac 0 0 r0 x0 a4 ao;have a3:a.block<w.heap.size:=by have:=Qf7 bg;rwa [Jv]at this
        have:=Rd.sl (S:=SW w) (w:=w) a cap row.length rows (λi j=>(w.cell? (a.add (i*row.length+j))).getD undef) a3 I
         (λi r hr=>by obtain⟨_,_,_,g2⟩:=aa i r hr;exact g2.1)
         (λi j r x hr hx=>by obtain⟨v,hv,_⟩:=ac i j r x hr hx;rw[hv];rfl)
         (λi j r x hr hx=>by obtain⟨v,hv,h2⟩:=ac i j r x hr hx;rw[hv];exact h2)
        rw[az]at this;exact this
     ·obtain⟨_,_,_,g2⟩:=aa i r hr;exact g2.1
     ·obtain⟨_,_,_,g2⟩:=aa i r hr;exact g2.2 j s x hs hx
   ·rename_i fs ht;split at hs
    case h_2=>cases hs
    rename_i l hl;split at hs
    case isFalse=>cases hs
    rename_i am;injection hs with hs;subst hs
    obtain⟨xs,n',hn,_,bi,br,hat⟩:=DataW.trod_struct ht h;obtain rfl:n=n':=I
    have bc:∀(r:Y Field) (i off:Nat) (l:Y Sh),fs.toList.drop i=r->Qfz P (Qae P f) off r=some l->off+l.length<=cs.length->Got w l ((cs.drop off).take l.length):=by
     intro r;induction r with
     |nil=>
      intro i off l _ hl _;simp[Qfz]at hl;subst hl;exact⟨[],⟨by simp,λj v x h=>by simp at h⟩,⟨rfl,λj v x h=>by simp at h⟩⟩
     |cons fd r ba=>
      intro i off l hd hl bb;unfold Qfz at hl;split at hl
      case isFalse=>cases hl
      rename_i ax;split at hl
      case h_2=>cases hl
      rename_i a ha;split at hl
      case isFalse=>cases hl
      rename_i au;split at hl
      case h_2=>cases hl
      rename_i l' bh;injection hl with hl;subst hl
      have hi:fs[i]? = some fd:=by
       have:(fs.toList.drop i)[0]? = some fd:=by rw[hd];rfl
       rw[QpO]at this;simpa using this
      have h1:=hat i fd hi;have a6:i<xs.length:=by
       have:=(QpN.1 hi).1;omega
      rw[QpH a6,ax,<- au]at h1;have g1:=ih f fd.type a _ _ ha h1;have g2:=ba (i+1) (off+a.length) l' (by rw[<- List.drop_drop,hd];rfl) bh (by simp at bb;omega);obtain⟨d1,p1,q1⟩:=g1;obtain⟨d2,p2,q2⟩:=g2;refine⟨d1++d2,?_,q1.append q2⟩;have an:(cs.drop off).take (a++l').length=(cs.drop off).take a.length++(cs.drop (off+a.length)).take l'.length:=by
       rw[List.length_append,List.take_add,List.drop_drop]
      rw[an];exact p1.append p2
    have:=bc fs.toList 0 0 l rfl hl I;rwa [List.drop_zero,List.take_of_length_le I]at this
   ·cases hs
inductive ASh where
 |one (s:Sh)
 |ag (ss:List Sh)
def QeP(P:Program)(t:TypeId):oP ASh:=
 match P.underlying t with
 |some (.struct _)=>match Qae P 9 t with
  |some l=>some (.ag l)
  |none=>none
 |_=>match Qae P 9 t with
  |some [s]=>some (.one s)
  |_=>none
def ashL(P:Program):Y TypeId->oP (Y ASh)
 |[]=>some []
 |t::r=>match QeP P t with
  |some a=>match ashL P r with
   |some l=>some (a::l)
   |none=>none
  |none=>none
def QjI:ASh->AV->Prop
 |.one s,av=>∃x,av = .d x/\Fit s x
 |.ag ss,av=>∃ds:Y D,av = .ag (ds.map .d)/\QcI ss ds
def AFits:Y ASh->Y AV->Prop
 |[],[]=>True
 |a::as,v::vs=>QjI a v/\AFits as vs
 |_,_=>False
theorem Q2u{r:Reach}{base:Nat}{t:TypeId}{v:Value}{f:Nat}{ss:Y Sh}(hs:Qae P f t=some ss)(hn:∀fs,P.underlying t≠some (.struct fs))(h:Value.okWide P w r base t v):v.cells.toList=[v]:=by
 cases f with
 |zero=>simp[Qae]at hs
 |succ f=>
  unfold Qae at hs;split at hs
  ·rename_i ht;obtain⟨b,rfl⟩:=WideShapes.okWide_bool ht h;rfl
  ·rename_i k ht;obtain⟨b,rfl⟩:=WideShapes.okWide_int ht h;rfl
  ·rename_i ht;obtain⟨b,rfl⟩:=WideShapes.okWide_string ht h;rfl
  ·rename_i e ht;obtain⟨a,l,c,rfl⟩:=WideShapes.okWide_slice ht h;rfl
  ·rename_i fs ht;exact absurd ht (hn fs)
  ·cases hs
theorem Qf0{r:Reach}{base ac:Nat}{aa:Nat->Bool}{ai:Bool}{t:TypeId}{v:Value}{d:DataW H}{ps:Y MemPlace}{a:ASh}(ha:QeP P t=some a)(hv:Value.okWide P w r base t v)(h:DataW.Trod enc P w ac aa ai t v d ps) :
  ∃av,RdA (λ_=>none) (SW w) (look ([]:Y (Nat×Ob))) w tm0 v av/\QjI a av:=by
 obtain⟨n,h⟩:=h;unfold QeP at ha;split at ha
 ·rename_i fs ht;split at ha
  case h_2=>cases ha
  rename_i l hl;injection ha with ha;subst ha
  obtain⟨ds,h1,h2⟩:=Q6V n 9 t l _ _ hl h;simp only[Value.okWide,ht]at hv;obtain⟨cs,rfl,an,_⟩:=hv;refine⟨.ag (ds.map .d),.ag cs _ (by simpa[Value.cells]using h1.1) λi x hx=>?_,ds,rfl,h2⟩;rw[List.getElem?_map,QpF]at hx;obtain⟨y,hy,rfl⟩:=hx;have hi:i<cs.size:=by
   have g1:=(QpG.1 hy).1;have g2:=h1.1;simp[Value.cells]at g2;omega
  have hc:cs.getD i undef=cs[i]:=by simp[Array.getD,hi]
  rw[hc];exact .d _ _ (h1.2 i _ y (by simp[Value.cells,hi]) hy)
 ·rename_i hn;split at ha
  case h_2=>cases ha
  rename_i s hs;injection ha with ha;subst ha
  have hc:=Q2u hs hn hv;obtain⟨ds,h1,h2⟩:=Q6V n 9 t _ _ _ hs h;rw[hc]at h1;obtain⟨x,rfl⟩:∃x,ds=[x]:=by
   have:=h1.1
   match ds,this with
   |[x],_=>exact⟨x,rfl⟩
  exact⟨.d x,.d _ _ (h1.2 0 v x rfl rfl),x,rfl,h2.2 0 s x rfl rfl⟩
theorem Q7s{r:Reach}{base aj:Nat}{ai:Nat->Bool}{ak:Bool}:∀(ts:Y TypeId) (vs:Y Value) (ds:Y (DataW H)) (ps:Y MemPlace) (as:Y ASh),ashL P ts=some as ->
  (∀(j:Nat) t v,ts[j]? = some t->vs[j]? = some v->Value.okWide P w r base t v)->DataW.TrodAll enc P w aj ai ak ts vs ds ps ->
  ∃ac,ArgsRd (λ_=>none) (SW w) (look ([]:Y (Nat×Ob))) w vs ac/\AFits as ac
 |[],vs,ds,ps,as,aa,hv,h=>by
  simp[ashL]at aa;subst aa;cases vs with
  |nil=>exact⟨[],Q7M,trivial⟩
  |cons v vs=>cases ds<;>simp[DataW.TrodAll]at h
 |t::ts,vs,ds,ps,as,aa,hv,h=>by
  obtain⟨v,au,d,ar,p,q,rfl,rfl,rfl,h1,h2⟩:=ChangeShapes.trodAll_cons h;unfold ashL at aa;split at aa
  case h_2=>cases aa
  rename_i a ha;split at aa
  case h_2=>cases aa
  rename_i ao am;injection aa with aa
  subst aa;obtain⟨av,g1,g2⟩:=Qf0 ha (hv 0 t v rfl rfl) h1;obtain⟨ac,g3,g4⟩:=Q7s ts au ar q ao am (λj t v h1 h2=>hv (j+1) t v (by simpa using h1) (by simpa using h2)) h2;exact⟨av::ac,Q5I g1 g3,g2,g4⟩
theorem Q3y{W W':World}(hl:laidOutB P=true)(hb:RowKit.Below W.heap.size W W'):∀(ts:Y TypeId) (vs:Y Value) (ds:Y (DataW H)) (ps:Y MemPlace),(ts.all λt=>P.readableRec t&&decide (t<P.types.size))=true ->
  DataW.TrodAll enc P W 0 (λ_=>true) true ts vs ds ps->∃pa,DataW.TrodAll enc P W' 0 (λb=>decide (b<W.heap.size)) true ts vs ds pa
 |[],vs,ds,ps,_,h=>by
  cases vs<;>cases ds<;>simp[DataW.TrodAll]at h;exact⟨[],rfl⟩
 |t::ts,vs,ds,ps,ht,h=>by
  obtain⟨v,am,d,ak,p,q,rfl,rfl,rfl,h1,h2⟩:=ChangeShapes.trodAll_cons h;simp only[List.all_cons,QpE,decide_eq_true_eq]at ht;obtain⟨pa,g⟩:=Q3y hl hb ts am ak q ht.2 h2;have aj:∀x∈p,x.block<W.heap.size:=by obtain⟨m,hm⟩:=h1;exact DataW.trod_lt m _ _ _ hm
  exact⟨p++pa,p,pa,RowKit.Below.trod hl ht.1.1 ht.1.2 h1 hb aj,g,rfl⟩
theorem L6{base:Nat}{aa:Nat->Bool}{ai:Bool}:∀(ts:Y TypeId) (vs:Y Value) (ds:Y (DataW H)) (ps:Y MemPlace),DataW.TrodAll enc P w base aa ai ts vs ds ps->vs.length=ts.length/\ds.length=ts.length
 |[],vs,ds,ps,h=>by
  cases vs<;>cases ds<;>simp[DataW.TrodAll]at h;exact⟨rfl,rfl⟩
 |t::ts,vs,ds,ps,h=>by
  obtain⟨v,ak,d,aj,p,q,rfl,rfl,rfl,h1,h2⟩:=ChangeShapes.trodAll_cons h;have:=L6 ts ak aj q h2;simp[this.1,this.2]
theorem law_contract{fn:Func}{f:FuncId}{s:ChangeSpec}{as:Y ASh}{tb:TypeId}(an:laidOutB P=true)(aa:s.vars=[])(am:(fn.params.toList.all λt=>P.readableRec t&&decide (t<P.types.size))=true)(az:ashL P fn.params.toList=some as)(aw:fn.resultTypes = #[tb])(hb:P.underlying tb=some .bool){W:World}{base:Nat}{args:Array Value}{ds gs:Y (DataW H)}{ac:Y MemPlace}(ao:∀(j:Nat) t v,fn.params[j]? = some t->args[j]? = some v->Value.okWide P W .any base t v)(hW:DataW.Whole enc P fn.params.toList s.vars false W args.toList ds gs ac)(aj:∀ds:Y (DataW H),ds.length=fn.params.size->s.fn H ds={ results:=[.lit (.bool true)],args:=ds })(walk:∀ai,AFits as ai->ArgsRd (λ_=>none) (SW W) (look ([]:Y (Nat×Ob))) W args.toList ai->Calls P f args W λe w'=>e = .returned (.bool true)/\RowKit.Below W.heap.size W w') :
  Calls P f args W λe W'=>∃v,e = .returned v/\s.post enc P fn false true false false W args v W':=by
 have ax:=hW;obtain⟨p,q,hA,hV,rfl,a9,a7⟩:=hW;obtain⟨ai,g1,g2⟩:=Q7s (r:=.any) (base:=base) _ _ _ _ as az (λj t v h1 h2=>ao j t v (by simpa using h1) (by simpa using h2)) hA;refine(walk ai g2 g1).mono λe W' ⟨he,au⟩=>?_
 subst he;obtain⟨pa,ay⟩:=Q3y an au _ _ _ _ am hA;rw[aa]at hV;obtain⟨rfl,rfl⟩:=ChangeShapes.trodVars_none hV;have ar:=(L6 _ _ _ _ hA).2;have ak:=aj ds (by simpa using ar);refine⟨_,rfl,ds,[],_,[],pa,[],ax,?_,?_,?_,au.frame _,λh=>by cases h⟩
 ·rw[List.append_nil,ak,aw];exact ChangeShapes.trodAll_mk1 (RowKit.shut_bool hb _)
 ·rw[List.append_nil,ak];exact ay
 ·rw[List.append_nil,ak,aa];rfl
end
end Go.Vx
namespace Go.Vx
variable{i:Nat}
section
variable{R:Type}
def i64(x:Int):Prop := -9223372036854775808<=x/\x<=9223372036854775807
theorem Q7i{x:Int}(h:i64 x):wJ x=x:=IntWalk.i64_in x h
theorem Q5B{x:Int}(h1 : -9223372036854775808<=x)(h2:x<=9223372036854775807):wJ x=x:=IntWalk.i64_in x ⟨h1,h2⟩
theorem QjZ{n:Int}(h:(Lit.int .i64 n).wf=true):i64 n:=by
 simpa[Lit.wf,IntKind.min,IntKind.max,IntKind.signed,IntKind.bits,i64]using h
theorem Qj(n:Int):pIw (.int .i64 n)=some n:=rfl
theorem LA(b:Bool):PD (.bool b)=some b:=rfl
theorem XR(s:Y UInt8):Vp (.str s)=some s:=rfl
theorem X2(k:Nat)(l:Y (Y D)):pSl k (.sl k l)=some l:=by simp[pSl]
theorem QaB{α:Type}(f:α->Y D)(l:Y α)(i:Nat):Qi (l.map f) (i:Int)=(l[i]?).map f:=by
 simp[Qi]
theorem X5{α:Type}{f:α->Y D}{l:Y α}{a:α}(h:l[i]? = some a):Qi (l.map f) (i:Int)=some (f a):=by rw[QaB,h];rfl
theorem CS{b:Int}(h:b≠0):nz b=some ():=by
 have:(b == 0)=false:=by simpa using h
 unfold nz;rw[this];rfl
theorem XQ{len:Nat}{n:Int}(h0:0<=n)(h:n<len):inB len n=some ():=by
 unfold inB;simp[h0,h]
theorem Yc{α:Type}{l:Y α}{a:α}{r:Y α}(h:l.drop i=a::r):l[i]? = some a/\l.drop (i+1)=r/\i<l.length:=by
 have h1:(l.drop i)[0]? = some a:=by rw[h];rfl
 rw[QpO]at h1;refine⟨by simpa using h1,by rw[<- List.drop_drop,h];rfl,?_⟩;have:=(QpG.1 h1).1;omega
theorem ZX{α:Type}{l:Y α}(h:l.drop i=[]):l.length<=i:=List.drop_eq_nil_iff.1 h
theorem Xh{c:Bool}(h:c=true)(x y:R):(bif c then x else y)=x:=by rw[h];rfl
theorem Qq{c:Bool}(h:c=false)(x y:R):(bif c then x else y)=y:=by rw[h];rfl
def encI(l:Y Int):Y (Y D):=l.map λn=>[D.int .i64 n]
theorem QR(l:Y Int):(encI l).length=l.length:=by simp[encI]
theorem KU{l:Y Int}{a:Int}(h:l[i]? = some a):Qi (encI l) (i:Int)=some [.int .i64 a]:=X5 h
theorem fit_ints{rows:Y (Y D)}(h:Fit (.sl [.int .i64]) (.sl 1 rows)):∃l:Y Int,rows=encI l/\(∀n∈l,i64 n)/\l.length<=maxLen:=by
 cases h with
 |sl _ _ hm hl hr=>
  have h1:∀i,i<rows.length->∃n:Int,rows[i]? = some [.int .i64 n]/\i64 n:=by
   intro i hi;have aa:=QpH hi;have ac:=hl i _ aa;obtain⟨x,hx⟩:∃x,rows[i]=[x]:=by
    match hq:rows[i],ac with
    |[x],_=>exact⟨x,rfl⟩
   have hf:=hr i 0 _ (.int .i64) x aa rfl (by rw[hx];rfl);cases hf with
   |int _ n hw=>exact⟨n,by rw[aa,hx],QjZ hw⟩
  obtain⟨l,e1,e2⟩:=Q6m rows.length h1;refine⟨l,?_,λn hn=>?_,I⟩
  ·refine List.ext_getElem? λi=>?_
   rcases Nat.lt_or_ge i l.length with hi | hi
   ·have:=(e2 i _ (QpH hi)).1;rw[this];simp[encI,hi]
   ·rw[QpZ I,QpZ (by simpa[encI]using hi)]
  ·obtain⟨i,hi⟩:=List.getElem?_of_mem hn;exact(e2 i _ hi).2
theorem fit_sl{row:Y Sh}{x:D}(h:Fit (.sl row) x):∃rows,x = .sl row.length rows:=by
 cases h with
 |sl _ rows _ _ _=>exact⟨rows,rfl⟩
theorem fit_int{k:IntKind}{x:D}(h:Fit (.int k) x):∃n,x = .int k n/\(Lit.int k n).wf=true:=by
 cases h with
 |int _ n h=>exact⟨n,rfl,h⟩
def lawK:AV->oP Bool
 |.d (.bool b)=>some b
 |_=>none
theorem lawK_ok(x:AV)(h:lawK x=some true):x = .d (.bool true):=by
 unfold lawK at h;split at h
 ·injection h with h;subst h;rfl
 ·cases h
end
end Go.Vx
namespace Go.Vx
abbrev bs(l:Y UInt8):Y UInt8:=l
abbrev LL:=Y (Y D)
abbrev dT(s:Y UInt8):AV:=.d (.str s)
def cA:Y Nat->Code->Code
 |[],c=>c
 |0::r,c=>cA r (cL c)
 |1::r,c=>cA r (cR c)
 |2::r,c=>cA r (cB c)
 |3::r,c=>cA r (cT c)
 |_::r,c=>cA r (cE c)
def zp:Y Nat->Y Nat->Y (Nat×Nat)
 |a::r,b::s=>(a,b)::zp r s
 |_,_=>[]
section
variable{A B C D E F R:Type}
end
def smX{A B C:Type}(r:A ⊕ B)(f:A->C)(g:B->C):C:=match r with
 |.inl a=>f a
 |.inr b=>g b
abbrev jn{α β:Type}(c:α)(f:α->β):β:=f c
abbrev Tu2{A0 A1:Type}(a0:A0)(a1:A1):=some (a0,a1)
abbrev Tu3{A0 A1 A2:Type}(a0:A0)(a1:A1)(a2:A2):=some (a0,a1,a2)
abbrev Tu4{A0 A1 A2 A3:Type}(a0:A0)(a1:A1)(a2:A2)(a3:A3):=some (a0,a1,a2,a3)
abbrev Tu5{A0 A1 A2 A3 A4:Type}(a0:A0)(a1:A1)(a2:A2)(a3:A3)(a4:A4):=some (a0,a1,a2,a3,a4)
abbrev Tu6{A0 A1 A2 A3 A4 A5:Type}(a0:A0)(a1:A1)(a2:A2)(a3:A3)(a4:A4)(a5:A5):=some (a0,a1,a2,a3,a4,a5)
abbrev Tu7{A0 A1 A2 A3 A4 A5 A6:Type}(a0:A0)(a1:A1)(a2:A2)(a3:A3)(a4:A4)(a5:A5)(a6:A6):=some (a0,a1,a2,a3,a4,a5,a6)
abbrev Tu8{A0 A1 A2 A3 A4 A5 A6 A7:Type}(a0:A0)(a1:A1)(a2:A2)(a3:A3)(a4:A4)(a5:A5)(a6:A6)(a7:A7):=some (a0,a1,a2,a3,a4,a5,a6,a7)
abbrev Tu10{A0 A1 A2 A3 A4 A5 A6 A7 A8 A9:Type}(a0:A0)(a1:A1)(a2:A2)(a3:A3)(a4:A4)(a5:A5)(a6:A6)(a7:A7)(a8:A8)(a9:A9):=some (a0,a1,a2,a3,a4,a5,a6,a7,a8,a9)
abbrev Tu11{A0 A1 A2 A3 A4 A5 A6 A7 A8 A9 A10:Type}(a0:A0)(a1:A1)(a2:A2)(a3:A3)(a4:A4)(a5:A5)(a6:A6)(a7:A7)(a8:A8)(a9:A9)(a10:A10):=some (a0,a1,a2,a3,a4,a5,a6,a7,a8,a9,a10)
abbrev Tu12{A0 A1 A2 A3 A4 A5 A6 A7 A8 A9 A10 A11:Type}(a0:A0)(a1:A1)(a2:A2)(a3:A3)(a4:A4)(a5:A5)(a6:A6)(a7:A7)(a8:A8)(a9:A9)(a10:A10)(a11:A11):=some (a0,a1,a2,a3,a4,a5,a6,a7,a8,a9,a10,a11)
abbrev Tu13{A0 A1 A2 A3 A4 A5 A6 A7 A8 A9 A10 A11 A12:Type}(a0:A0)(a1:A1)(a2:A2)(a3:A3)(a4:A4)(a5:A5)(a6:A6)(a7:A7)(a8:A8)(a9:A9)(a10:A10)(a11:A11)(a12:A12):=some (a0,a1,a2,a3,a4,a5,a6,a7,a8,a9,a10,a11,a12)
abbrev Qko:Y UInt8:=bs [0,1,2,2,3,3,3,3,4,4,4,4,4,4,4,4,5,5,5,5,5,5,5,5,5,5,5,5,5,5,5,5,6,6,6,6,6,6,6,6,6,6,6,6,6,6,6,6,6,6,6,6,6,6,6,6,6,6,6,6,6,6,6,6,7,7,7,7,7,7,7,7,7,7,7,7,7,7,7,7,7,7,7,7,7,7,7,7,7,7,7,7,7,7,7,7,7,7,7,7,7,7,7,7,7,7,7,7,7,7,7,7,7,7,7,7,7,7,7,7,7,7,7,7,7,7,7,7,8,8,8,8,8,8,8,8,8,8,8,8,8,8,8,8,8,8,8,8,8,8,8,8,8,8,8,8,8,8,8,8,8,8,8,8,8,8,8,8,8,8,8,8,8,8,8,8,8,8,8,8,8,8,8,8,8,8,8,8,8,8,8,8,8,8,8,8,8,8,8,8,8,8,8,8,8,8,8,8,8,8,8,8,8,8,8,8,8,8,8,8,8,8,8,8,8,8,8,8,8,8,8,8,8,8,8,8,8,8,8,8,8,8,8,8,8,8,8,8,8,8,8,8,8,8,8,8]
abbrev Qle:=Y D
abbrev Qlf:=Y UInt8
structure Qe(R:Type)
structure Qf
instance {R:Type}:Inhabited (Qe R):=⟨⟨⟩⟩
instance:Inhabited Qf:=⟨⟨⟩⟩
section
variable{R A B C E:Type}{d e f g h d1 e1 f1:D}{i j s t i1 j1:Int}{l x y z l1 x1:LL}{r q r1 q1:Qle}{a b c a1 b1 c1:Nat}{p v p1 v1:Bool}{w w1:Qlf}
def Q8:Bool->Bool->Qf:=default
instance:CoeDep Qf (Q8 p v) Bool:=⟨bif p then true else v⟩
def Q9:Bool->Bool->Qf:=default
instance:CoeDep Qf (Q9 p v) Bool:=⟨bif p then v else false⟩
def Qa(R:Type):Bool->(Bool->oP R)->Qe R:=default
instance (k:Bool->oP R):CoeDep (Qe R) (Qa R p k) (oP R):=⟨k p⟩
def Qb(R:Type):A->(A->oP R)->Qe R:=default
instance (a:A)(k:A->oP R):CoeDep (Qe R) (Qb R a k) (oP R):=⟨k a⟩
def Qc(R:Type):oP A->(A->oP R)->Qe R:=default
def Qd(R:Type):Bool->oP A->(A->oP R)->Qe R:=default
instance (a:oP (Unit))(k:Unit->oP R):CoeDep (Qe R) (Qc R a k) (oP R):=⟨gb true a () k⟩
instance (a:oP (Unit))(k:Unit->oP R):CoeDep (Qe R) (Qd R p a k) (oP R):=⟨gb p a () k⟩
instance (a:oP (Int))(k:Int->oP R):CoeDep (Qe R) (Qc R a k) (oP R):=⟨gb true a 0 k⟩
instance (a:oP (Int))(k:Int->oP R):CoeDep (Qe R) (Qd R p a k) (oP R):=⟨gb p a 0 k⟩
instance (a:oP (Int×Int))(k:Int×Int->oP R):CoeDep (Qe R) (Qc R a k) (oP R):=⟨gb true a (0,0) k⟩
instance (a:oP (Int×Int))(k:Int×Int->oP R):CoeDep (Qe R) (Qd R p a k) (oP R):=⟨gb p a (0,0) k⟩
instance (a:oP (Nat×Nat))(k:Nat×Nat->oP R):CoeDep (Qe R) (Qc R a k) (oP R):=⟨gb true a (0,0) k⟩
instance (a:oP (Nat×Nat))(k:Nat×Nat->oP R):CoeDep (Qe R) (Qd R p a k) (oP R):=⟨gb p a (0,0) k⟩
instance (a:oP (Y A))(k:Y A->oP R):CoeDep (Qe R) (Qc R a k) (oP R):=⟨gb true a [] k⟩
instance (a:oP (Y A))(k:Y A->oP R):CoeDep (Qe R) (Qd R p a k) (oP R):=⟨gb p a [] k⟩
instance (a:oP (Bool))(k:Bool->oP R):CoeDep (Qe R) (Qc R a k) (oP R):=⟨gb true a false k⟩
instance (a:oP (Bool))(k:Bool->oP R):CoeDep (Qe R) (Qd R p a k) (oP R):=⟨gb p a false k⟩
instance (a:oP (D))(k:D->oP R):CoeDep (Qe R) (Qc R a k) (oP R):=⟨gb true a oF k⟩
instance (a:oP (D))(k:D->oP R):CoeDep (Qe R) (Qd R p a k) (oP R):=⟨gb p a oF k⟩
instance (a:oP (Int×Bool))(k:Int×Bool->oP R):CoeDep (Qe R) (Qc R a k) (oP R):=⟨gb true a (0,false) k⟩
instance (a:oP (Int×Bool))(k:Int×Bool->oP R):CoeDep (Qe R) (Qd R p a k) (oP R):=⟨gb p a (0,false) k⟩
instance (a:oP ((Y A)×Int))(k:(Y A)×Int->oP R):CoeDep (Qe R) (Qc R a k) (oP R):=⟨gb true a ([],0) k⟩
instance (a:oP ((Y A)×Int))(k:(Y A)×Int->oP R):CoeDep (Qe R) (Qd R p a k) (oP R):=⟨gb p a ([],0) k⟩
instance (a:oP ((Y A)×Int×Int))(k:(Y A)×Int×Int->oP R):CoeDep (Qe R) (Qc R a k) (oP R):=⟨gb true a ([],0,0) k⟩
instance (a:oP ((Y A)×Int×Int))(k:(Y A)×Int×Int->oP R):CoeDep (Qe R) (Qd R p a k) (oP R):=⟨gb p a ([],0,0) k⟩
instance (a:oP (D×D×D×D×Bool))(k:D×D×D×D×Bool->oP R):CoeDep (Qe R) (Qc R a k) (oP R):=⟨gb true a (.bool false,.bool false,.bool false,.bool false,false) k⟩
instance (a:oP (D×D×D×D×Bool))(k:D×D×D×D×Bool->oP R):CoeDep (Qe R) (Qd R p a k) (oP R):=⟨gb p a (.bool false,.bool false,.bool false,.bool false,false) k⟩
instance (a:oP (D×D))(k:D×D->oP R):CoeDep (Qe R) (Qc R a k) (oP R):=⟨gb true a (.bool false,.bool false) k⟩
instance (a:oP (D×D))(k:D×D->oP R):CoeDep (Qe R) (Qd R p a k) (oP R):=⟨gb p a (.bool false,.bool false) k⟩
instance (a:oP (D×D×D×D×D×D×Bool))(k:D×D×D×D×D×D×Bool->oP R):CoeDep (Qe R) (Qc R a k) (oP R):=⟨gb true a (.bool false,.bool false,.bool false,.bool false,.bool false,.bool false,false) k⟩
instance (a:oP (D×D×D×D×D×D×Bool))(k:D×D×D×D×D×D×Bool->oP R):CoeDep (Qe R) (Qd R p a k) (oP R):=⟨gb p a (.bool false,.bool false,.bool false,.bool false,.bool false,.bool false,false) k⟩
def Qg(R:Type){A:Type}:(A->oP R)->A->Qe R:=default
instance {A:Type}(k:A->oP R)(a0:A):CoeDep (Qe R) (Qg R k a0) (oP R):=⟨k a0⟩
def Qkp(R:Type){A B:Type}:(A->B->oP R)->A->B->Qe R:=default
instance {A B:Type}(k:A->B->oP R)(a0:A)(a1:B):CoeDep (Qe R) (Qkp R k a0 a1) (oP R):=⟨k a0 a1⟩
def Qkq(R:Type){A B C:Type}:(A->B->C->oP R)->A->B->C->Qe R:=default
instance {A B C:Type}(k:A->B->C->oP R)(a0:A)(a1:B)(a2:C):CoeDep (Qe R) (Qkq R k a0 a1 a2) (oP R):=⟨k a0 a1 a2⟩
def Qkr(R:Type){A B C D:Type}:(A->B->C->D->oP R)->A->B->C->D->Qe R:=default
instance {A B C D:Type}(k:A->B->C->D->oP R)(a0:A)(a1:B)(a2:C)(a3:D):CoeDep (Qe R) (Qkr R k a0 a1 a2 a3) (oP R):=⟨k a0 a1 a2 a3⟩
def Qks(R:Type){A B C D E:Type}:(A->B->C->D->E->oP R)->A->B->C->D->E->Qe R:=default
instance {A B C D E:Type}(k:A->B->C->D->E->oP R)(a0:A)(a1:B)(a2:C)(a3:D)(a4:E):CoeDep (Qe R) (Qks R k a0 a1 a2 a3 a4) (oP R):=⟨k a0 a1 a2 a3 a4⟩
def Qkt(R:Type){A B C D E F:Type}:(A->B->C->D->E->F->oP R)->A->B->C->D->E->F->Qe R:=λ_ _ _ _ _ _ _=>default
instance {A B C D E F:Type}(k:A->B->C->D->E->F->oP R)(a0:A)(a1:B)(a2:C)(a3:D)(a4:E)(a5:F):CoeDep (Qe R) (Qkt R k a0 a1 a2 a3 a4 a5) (oP R):=⟨k a0 a1 a2 a3 a4 a5⟩
def Qku(R:Type){A B C D E F G:Type}:(A->B->C->D->E->F->G->oP R)->A->B->C->D->E->F->G->Qe R:=λ_ _ _ _ _ _ _ _=>default
instance {A B C D E F G:Type}(k:A->B->C->D->E->F->G->oP R)(a0:A)(a1:B)(a2:C)(a3:D)(a4:E)(a5:F)(a6:G):CoeDep (Qe R) (Qku R k a0 a1 a2 a3 a4 a5 a6) (oP R):=⟨k a0 a1 a2 a3 a4 a5 a6⟩
def Qkw(R:Type):D->D->(Int->Int->oP R)->Qe R:=default
instance (k:Int->Int->oP R):CoeDep (Qe R) (Qkw R d e k) (oP R):=⟨gb true (pIw d) 0 λA=>gb true (pIw e) 0 λB=>CoeDep.coe (Qkp R k A B)⟩
def Qkx(R:Type):LL->Int->(D->oP R)->Qe R:=default
instance (k:D->oP R):CoeDep (Qe R) (Qkx R l i k) (oP R):=⟨gb true (Qi l i) [] λA=>gb true A[0]? oF k⟩
def Qky(R:Type):LL->Int->(Qle->D->D->D->oP R)->Qe R:=default
instance (k:Qle->D->D->D->oP R):CoeDep (Qe R) (Qky R l i k) (oP R):=⟨gb true (Qi l i) [] λA=>gb true A[0]? oF λB=>gb true A[1]? oF λC=>gb true A[2]? oF λE=>CoeDep.coe (Qkr R k A B C E)⟩
def Qkz(R:Type):Nat->Int->LL->Nat->(Qle->oP R)->Qe R:=default
instance (k:Qle->oP R):CoeDep (Qe R) (Qkz R a i l b k) (oP R):=⟨gb true (inB a i) () λ_=>gb true l[b]? [] k⟩
def QkA(R:Type):LL->Int->(Int->oP R)->Qe R:=default
instance (k:Int->oP R):CoeDep (Qe R) (QkA R l i k) (oP R):=⟨Qkx R l i λA=>gb true (pIw A) 0 k⟩
def QkB(R:Type):LL->Int->(D->D->oP R)->Qe R:=default
instance (k:D->D->oP R):CoeDep (Qe R) (QkB R l i k) (oP R):=⟨gb true (Qi l i) [] λA=>gb true A[0]? oF λB=>gb true A[1]? oF λC=>CoeDep.coe (Qkp R k B C)⟩
def QkC(R:Type):Nat->Int->LL->Nat->(Int->oP R)->Qe R:=default
instance (k:Int->oP R):CoeDep (Qe R) (QkC R a i l b k) (oP R):=⟨Qkz R a i l b λA=>gb true A[0]? oF λB=>gb true (pIw B) 0 k⟩
def QkD(R:Type):D->LL->D->D->(LL->Int->Qlf->Int->Int->Int->Int->oP R)->Qe R:=default
instance (k:LL->Int->Qlf->Int->Int->Int->Int->oP R):CoeDep (Qe R) (QkD R d l e f k) (oP R):=⟨gb true (pIw d) 0 λA=>Qky R l A λB C E F=>gb true B[3]? oF λG=>gb true B[4]? oF λH=>gb true (pSl 2 e) [] λI=>gb true (pIw f) 0 λJ=>gb true (Vp C) [] λK=>Qkw R E F λL M=>Qkw R G H λN O=>CoeDep.coe (Qku R k I J K L M N O)⟩
def QkE(R:Type):D->Bool->D->(Int->Int->oP R)->Qe R:=default
instance (k:Int->Int->oP R):CoeDep (Qe R) (QkE R d p e k) (oP R):=⟨gb p (pIw d) 0 λA=>gb p (pIw e) 0 λB=>CoeDep.coe (Qkp R k A B)⟩
def QkF(R:Type):LL->Int->(Qle->D->oP R)->Qe R:=default
instance (k:Qle->D->oP R):CoeDep (Qe R) (QkF R l i k) (oP R):=⟨gb true (Qi l i) [] λA=>gb true A[0]? oF λ_=>gb true A[1]? oF λC=>CoeDep.coe (Qkp R k A C)⟩
def QkG(R:Type):LL->Int->(Int->oP R)->Qe R:=default
instance (k:Int->oP R):CoeDep (Qe R) (QkG R l i k) (oP R):=⟨gb true (Qi l i) [] λA=>gb true A[1]? oF λB=>gb true (pIw B) 0 k⟩
def QkH(R:Type):LL->Int->(D->D->D->oP R)->Qe R:=default
instance (k:D->D->D->oP R):CoeDep (Qe R) (QkH R l i k) (oP R):=⟨gb true (Qi l i) [] λA=>gb true A[0]? oF λB=>gb true A[1]? oF λC=>gb true A[2]? oF λE=>CoeDep.coe (Qkq R k B C E)⟩
def QkI(R:Type):LL->Int->(Qlf->oP R)->Qe R:=default
instance (k:Qlf->oP R):CoeDep (Qe R) (QkI R l i k) (oP R):=⟨Qkx R l i λA=>gb true (Vp A) [] k⟩
def QkJ(R:Type):Qle->(D->D->D->oP R)->Qe R:=default
instance (k:D->D->D->oP R):CoeDep (Qe R) (QkJ R r k) (oP R):=⟨gb true r[3]? oF λA=>gb true r[4]? oF λB=>gb true r[5]? oF λC=>CoeDep.coe (Qkq R k A B C)⟩
def QkK(R:Type):LL->Int->(LL->oP R)->Qe R:=default
instance (k:LL->oP R):CoeDep (Qe R) (QkK R l i k) (oP R):=⟨gb true (Qi l i) [] λA=>gb true A[3]? oF λB=>gb true (pSl 4 B) [] k⟩
def QkL(R:Type):LL->Int->Bool->(D->oP R)->Qe R:=default
instance (k:D->oP R):CoeDep (Qe R) (QkL R l i p k) (oP R):=⟨gb p (Qi l i) [] λA=>gb p A[0]? oF k⟩
def QkM(R:Type):Nat->Int->LL->Nat->(LL->oP R)->Qe R:=default
instance (k:LL->oP R):CoeDep (Qe R) (QkM R a i l b k) (oP R):=⟨Qkz R a i l b λA=>gb true A[0]? oF λB=>gb true (pSl 1 B) [] k⟩
def QkN(R:Type):D->D->oP R->Qe R:=default
instance (k:oP R):CoeDep (Qe R) (QkN R d e k) (oP R):=⟨gb true (pIw d) 0 λ_=>gb true (pIw e) 0 λ_=>k⟩
def QkO(R:Type):LL->Int->(LL->oP R)->Qe R:=default
instance (k:LL->oP R):CoeDep (Qe R) (QkO R l i k) (oP R):=⟨Qkx R l i λA=>gb true (pSl 3 A) [] k⟩
def QkP(R:Type):LL->Int->(D->D->D->D->oP R)->Qe R:=default
instance (k:D->D->D->D->oP R):CoeDep (Qe R) (QkP R l i k) (oP R):=⟨Qky R l i λA B C E=>gb true A[3]? oF λF=>CoeDep.coe (Qkr R k B C E F)⟩
def QkQ(R:Type):Qle->(Int->oP R)->Qe R:=default
instance (k:Int->oP R):CoeDep (Qe R) (QkQ R r k) (oP R):=⟨gb true r[2]? oF λA=>gb true (pIw A) 0 k⟩
def QkR(R:Type):Qle->(D->oP R)->Qe R:=default
instance (k:D->oP R):CoeDep (Qe R) (QkR R r k) (oP R):=⟨gb true r[2]? oF λ_=>gb true r[3]? oF k⟩
def QkS(R:Type):Nat->Int->LL->Nat->(Int->oP R)->Qe R:=default
instance (k:Int->oP R):CoeDep (Qe R) (QkS R a i l b k) (oP R):=⟨Qkz R a i l b λA=>gb true A[1]? oF λB=>gb true (pIw B) 0 k⟩
def QkT(R:Type):LL->Int->(Qle->oP R)->Qe R:=default
instance (k:Qle->oP R):CoeDep (Qe R) (QkT R l i k) (oP R):=⟨gb true (Qi l i) [] λA=>gb true A[0]? oF λ_=>gb true A[1]? oF λ_=>CoeDep.coe (Qg R k A)⟩
def QkU(R:Type):LL->Int->Bool->(Qlf->oP R)->Qe R:=default
instance (k:Qlf->oP R):CoeDep (Qe R) (QkU R l i p k) (oP R):=⟨QkL R l i p λA=>gb p (Vp A) [] k⟩
def QkV(R:Type):Nat->Nat->oP R->Qe R:=default
instance (k:oP R):CoeDep (Qe R) (QkV R a b k) (oP R):=⟨gb true (Y5 a) () λ_=>gb true (Y5 b) () λ_=>k⟩
def QkW(R:Type):D->D->D->D->(Int->Int->Int->Int->oP R)->Qe R:=default
instance (k:Int->Int->Int->Int->oP R):CoeDep (Qe R) (QkW R d e f g k) (oP R):=⟨Qkw R d e λA B=>Qkw R f g λC E=>CoeDep.coe (Qkr R k A B C E)⟩
def QkX(R:Type):LL->Int->Bool->(Int->oP R)->Qe R:=default
instance (k:Int->oP R):CoeDep (Qe R) (QkX R l i p k) (oP R):=⟨gb p (Qi l i) [] λA=>gb p A[1]? oF λB=>gb p (pIw B) 0 k⟩
def QkY(R:Type):D->D->D->(Int->Int->Int->oP R)->Qe R:=default
instance (k:Int->Int->Int->oP R):CoeDep (Qe R) (QkY R d e f k) (oP R):=⟨Qkw R d e λA B=>gb true (pIw f) 0 λC=>CoeDep.coe (Qkq R k A B C)⟩
def QkZ(R:Type):LL->Int->(D->D->D->D->D->oP R)->Qe R:=default
instance (k:D->D->D->D->D->oP R):CoeDep (Qe R) (QkZ R l i k) (oP R):=⟨Qky R l i λA B C E=>gb true A[3]? oF λF=>gb true A[4]? oF λG=>CoeDep.coe (Qks R k B C E F G)⟩
def Ql0(R:Type):LL->Int->(Int->oP R)->Qe R:=default
instance (k:Int->oP R):CoeDep (Qe R) (Ql0 R l i k) (oP R):=⟨gb true (Qi l i) [] λA=>gb true A[4]? oF λB=>gb true (pIw B) 0 k⟩
def Ql1(R:Type):Nat->Int->Bool->LL->Nat->(D->oP R)->Qe R:=default
instance (k:D->oP R):CoeDep (Qe R) (Ql1 R a i p l b k) (oP R):=⟨gb p (inB a i) () λ_=>gb p l[b]? [] λB=>gb p B[0]? oF k⟩
def Ql2(R:Type):LL->Int->Bool->(Int->oP R)->Qe R:=default
instance (k:Int->oP R):CoeDep (Qe R) (Ql2 R l i p k) (oP R):=⟨QkL R l i p λA=>gb p (pIw A) 0 k⟩
def Ql3(R:Type):Qle->(D->D->oP R)->Qe R:=default
instance (k:D->D->oP R):CoeDep (Qe R) (Ql3 R r k) (oP R):=⟨gb true r[2]? oF λA=>gb true r[3]? oF λB=>CoeDep.coe (Qkp R k A B)⟩
def Ql4(R:Type):LL->Int->(D->oP R)->Qe R:=default
instance (k:D->oP R):CoeDep (Qe R) (Ql4 R l i k) (oP R):=⟨gb true (Qi l i) [] λA=>gb true A[0]? oF λB=>gb true A[1]? oF λ_=>CoeDep.coe (Qg R k B)⟩
def Ql5(R:Type):LL->Int->Bool->(Int->oP R)->Qe R:=default
instance (k:Int->oP R):CoeDep (Qe R) (Ql5 R l i p k) (oP R):=⟨gb p (Qi l i) [] λA=>gb p A[4]? oF λB=>gb p (pIw B) 0 k⟩
def Ql6(R:Type):D->D->(LL->Int->oP R)->Qe R:=default
instance (k:LL->Int->oP R):CoeDep (Qe R) (Ql6 R d e k) (oP R):=⟨gb true (pSl 2 d) [] λA=>gb true (pIw e) 0 λB=>CoeDep.coe (Qkp R k A B)⟩
def Ql7(R:Type):Int->oP R->Qe R:=default
instance (k:oP R):CoeDep (Qe R) (Ql7 R i k) (oP R):=⟨gb true (nz i) () λ_=>gb true (nz i) () λ_=>k⟩
def Ql8(R:Type):Qle->(D->D->oP R)->Qe R:=default
instance (k:D->D->oP R):CoeDep (Qe R) (Ql8 R r k) (oP R):=⟨gb true r[0]? oF λA=>gb true r[1]? oF λB=>CoeDep.coe (Qkp R k A B)⟩
def Ql9(R:Type):Qle->oP R->Qe R:=default
instance (k:oP R):CoeDep (Qe R) (Ql9 R r k) (oP R):=⟨gb true r[3]? oF λ_=>gb true r[4]? oF λ_=>gb true r[5]? oF λ_=>k⟩
def Qla(R:Type):LL->Int->(LL->oP R)->Qe R:=default
instance (k:LL->oP R):CoeDep (Qe R) (Qla R l i k) (oP R):=⟨Qkx R l i λA=>gb true (pSl 2 A) [] k⟩
def Qlb(R:Type):LL->Int->(D->oP R)->Qe R:=default
instance (k:D->oP R):CoeDep (Qe R) (Qlb R l i k) (oP R):=⟨gb true (Qi l i) [] λA=>gb true A[1]? oF k⟩
def Qlc(R:Type):Nat->Int->LL->Nat->(Bool->oP R)->Qe R:=default
instance (k:Bool->oP R):CoeDep (Qe R) (Qlc R a i l b k) (oP R):=⟨Qkz R a i l b λA=>gb true A[0]? oF λB=>gb true (PD B) false k⟩
def Qld(R:Type):D->LL->(D->D->oP R)->Qe R:=default
instance (k:D->D->oP R):CoeDep (Qe R) (Qld R d l k) (oP R):=⟨gb true (pIw d) 0 λA=>QkB R l A k⟩
end
abbrev Qlg(R:Type):=Int->oP R
abbrev Qlh(R:Type):=Int->Bool->oP R
abbrev Qli(R:Type):=Nat->Int->oP R
abbrev Qlj(R:Type):=Int->Bool->LL->oP R
abbrev Qlk(R:Type):=Nat->Int->LL->oP R
abbrev Qll(R:Type):=Bool->oP R
abbrev Qlm(R:Type):=LL->oP R
abbrev Qln(R:Type):=Int->Int->oP R
abbrev Qlo(R:Type):=Int->Int->Bool->oP R
abbrev Qlp(R:Type):=LL->Int->oP R
abbrev Qlq(R:Type):=Nat->Int->Int->oP R
abbrev Qlr(R:Type):=Int->LL->oP R
abbrev Qls(R:Type):=Int->Bool->LL->LL->oP R
abbrev Qlt(R:Type):=LL->Int->Int->oP R
abbrev Qlu(R:Type):=Nat->Int->LL->LL->oP R
abbrev Qlv(R:Type):=Nat->Int->Int->LL->oP R
abbrev Qlw(R:Type):=Nat->Int->Int->LL->LL->oP R
abbrev Qlx(R:Type):=Int->Bool->LL->LL->Int->oP R
abbrev Qly(R:Type):=Nat->Int->LL->LL->Int->oP R
abbrev Qlz(R:Type):=Int->Bool->LL->LL->LL->Int->oP R
abbrev QlA(R:Type):=Nat->Int->LL->LL->LL->Int->oP R
abbrev QlB(R:Type):=Int->Bool->Int->LL->oP R
abbrev QlC(R:Type):=Int->Int->Bool->LL->oP R
abbrev QlD(R:Type):=Int->Int->Bool->LL->LL->oP R
abbrev QlE(R:Type):=Int->Bool->(Int->Bool)->oP R
abbrev QlF(R:Type):=Nat->Int->(Int->Bool)->oP R
abbrev QlG(R:Type):=Int->Bool->Int->Int->LL->LL->LL->LL->oP R
abbrev QlH(R:Type):=LL->LL->LL->LL->Int->LL->LL->LL->LL->LL->LL->LL->oP R
section
variable{P:Program} {R:Type}
mutual
def dm(ρ:Y (Nat×Nat)):AV->Bool
 |.ptr j _=>(look ρ j).isSome
 |.arr j=>(look ρ j).isSome
 |.ap j _ _=>(look ρ j).isSome
 |.sa j _=>(look ρ j).isSome
 |.ag l=>dmL ρ l
 |.tup l=>dmL ρ l
 |.fn _ l=>dmL ρ l
 |.gd ..=>false
 |_=>true
def dmL(ρ:Y (Nat×Nat)):Y AV->Bool
 |[]=>true
 |a::r=>dm ρ a&&dmL ρ r
end
theorem Q7L{ρ:Y (Nat×Nat)}:∀{l:Y AV} {i:Nat} {x:AV},dmL ρ l=true->l[i]? = some x->dm ρ x=true
 |a::r,0,x,h,hx=>by
  simp only[dmL,QpE]at h;simp at hx;subst hx;exact h.1
 |a::r,i+1,x,h,hx=>by
  simp only[dmL,QpE]at h;exact Q7L h.2 (by simpa using hx)
section
variable{ρ:Y (Nat×Nat)} {β β':Nat->oP Nat} {S:Nat->Prop} {h h':Nat->oP Ob} {w:World} {tm:Nat->Value}
theorem QiE(hβ:∀j l,look ρ j=some l->β' j=β l)(hh:∀j l,look ρ j=some l->(h l).isSome=true/\(∀e s rows,h l=some (.arr e s rows)->h' j=some (.arr e s rows))/\∀t f,h l=some (.mp t f)->h' j=some (.mp t f)) :
  ∀{v:Value} {y:AV},RdA β S h w tm v y->∀x:AV,dm ρ x=true->y=U7 ρ x->RdA β' S h' w tm v x:=by
 intro v y hv;induction hv with
 |top v=>
  intro x hd he;cases x<;>simp only[U7,reduceCtorEq]at he
  case top=>exact .top v
  all_goals grind[dm,Option.isSome_iff_exists]
 |d v z hz=>
  intro x hd he;cases x<;>simp only[U7,reduceCtorEq]at he
  case d=>injection he with he;subst he;exact .d v _ hz
  all_goals grind
 |nil=>
  intro x hd he;cases x<;>simp only[U7,reduceCtorEq]at he
  case nil=>exact .nil
  all_goals grind
 |ag cs l hl _ ih=>
  intro x hd he;cases x<;>simp only[U7,reduceCtorEq]at he
  case ag r=>
   injection he with he
   subst he;rw[Z7]at hl;refine .ag cs r hl λi z hz=>?_
   exact ih i (U7 ρ z) (by rw[VK,hz];rfl) z (Q7L (by simpa[dm]using hd) hz) rfl
  all_goals grind
 |tup cs l hl _ ih=>
  intro x hd he;cases x<;>simp only[U7,reduceCtorEq]at he
  case tup r=>
   injection he with he
   subst he;rw[Z7]at hl;refine .tup cs r hl λi z hz=>?_
   exact ih i (U7 ρ z) (by rw[VK,hz];rfl) z (Q7L (by simpa[dm]using hd) hz) rfl
  case ptr j o=>split at he<;>cases he
  case arr j=>split at he<;>cases he
  case sa j t=>split at he<;>cases he
  case ap j i o=>split at he<;>cases he
 |fn f cs l hl _ ih=>
  intro x hd he;cases x<;>simp only[U7,reduceCtorEq]at he
  case fn g r=>
   injection he with he1 he2
   subst he1;subst he2;rw[Z7]at hl;refine .fn f cs r hl λi z hz=>?_
   exact ih i (U7 ρ z) (by rw[VK,hz];rfl) z (Q7L (by simpa[dm]using hd) hz) rfl
  case ptr j o=>split at he<;>cases he
  case arr j=>split at he<;>cases he
  case sa j t=>split at he<;>cases he
  case ap j i o=>split at he<;>cases he
 |fs ad s rows hx=>
  intro x hd he;cases x<;>simp only[U7,reduceCtorEq]at he
  case fs=>injection he with e1 e2;subst e1 e2;exact .fs ad _ _ hx
  case ptr j o=>split at he<;>cases he
  case arr j=>split at he<;>cases he
  case sa j t=>split at he<;>cases he
  case ap j i o=>split at he<;>cases he
 |ex v=>
  intro x hd he;cases x<;>simp only[U7,reduceCtorEq]at he
  case ex=>injection he with e1;subst e1;exact .ex _
  case ptr j o=>split at he<;>cases he
  case arr j=>split at he<;>cases he
  case sa j t=>split at he<;>cases he
  case ap j i o=>split at he<;>cases he
 |mpd v f hm=>
  intro x hd he;cases x<;>simp only[U7,reduceCtorEq]at he
  case mpd=>injection he with e1;subst e1;exact .mpd v _ hm
  case ptr j o=>split at he<;>cases he
  case arr j=>split at he<;>cases he
  case sa j t=>split at he<;>cases he
  case ap j i o=>split at he<;>cases he
 |ptr l off b hb=>
  intro x hd he;cases x<;>simp only[U7,reduceCtorEq]at he
  case ptr j o=>
   split at he
   ·rename_i l' aa;injection he with e1 e2
    subst e1 e2;exact .ptr j _ b ((hβ j _ aa).trans hb)
   ·cases he
  case arr j=>split at he<;>cases he
  case sa j t=>split at he<;>cases he
  case ap j i o=>split at he<;>cases he
 |sa v l t b hb hv=>
  intro x hd he;cases x<;>simp only[U7,reduceCtorEq]at he
  case sa j t=>
   split at he
   ·rename_i l' aa;injection he with e1 e2
    subst e1 e2;exact .sa v j _ b ((hβ j _ aa).trans hb) hv
   ·cases he
  case ptr j o=>split at he<;>cases he
  case arr j=>split at he<;>cases he
  case ap j i o=>split at he<;>cases he
 |el ad row off c hs hc hr=>
  intro x hd he;cases x<;>simp only[U7,reduceCtorEq]at he
  case el r o=>injection he with e1 e2;subst e1 e2;exact .el ad _ _ c hs hc hr
  case ptr j o=>split at he<;>cases he
  case arr j=>split at he<;>cases he
  case sa j t=>split at he<;>cases he
  case ap j i o=>split at he<;>cases he
 |arr0 l e s hb hk=>
  intro x hd he;cases x<;>simp only[U7,reduceCtorEq]at he
  case arr j=>
   split at he
   ·rename_i l' aa;injection he with e1
    subst e1;exact .arr0 j e s ((hβ j _ aa).trans hb) ((hh j _ aa).2.1 _ _ _ hk)
   ·cases he
  case ptr j o=>split at he<;>cases he
  case sa j t=>split at he<;>cases he
  case ap j i o=>split at he<;>cases he
 |arr l b cap e s rows cs ty fz hb hk hw ao am an=>
  intro x hd he;cases x<;>simp only[U7,reduceCtorEq]at he
  case arr j=>
   split at he
   ·rename_i l' aa;injection he with e1
    subst e1;exact .arr j b cap e s rows cs ty fz ((hβ j _ aa).trans hb) ((hh j _ aa).2.1 _ _ _ hk) hw ao am an
   ·cases he
  case ptr j o=>split at he<;>cases he
  case sa j t=>split at he<;>cases he
  case ap j i o=>split at he<;>cases he
 |mp l b t f hb hk=>
  intro x hd he;cases x<;>simp only[U7,reduceCtorEq]at he
  case arr j=>
   split at he
   ·rename_i l' aa;injection he with e1
    subst e1;exact .mp j b t f ((hβ j _ aa).trans hb) ((hh j _ aa).2.2 _ _ hk)
   ·cases he
  case ptr j o=>split at he<;>cases he
  case sa j t=>split at he<;>cases he
  case ap j i o=>split at he<;>cases he
 |ap l i off b e s rows hb hk=>
  intro x hd he;cases x<;>simp only[U7,reduceCtorEq]at he
  case ap j i' o=>
   split at he
   ·rename_i l' aa;injection he with e1 e2 e3
    subst e1 e2 e3;exact .ap j _ _ b e s rows ((hβ j _ aa).trans hb) ((hh j _ aa).2.1 _ _ _ hk)
   ·cases he
  case ptr j o=>split at he<;>cases he
  case arr j=>split at he<;>cases he
  case sa j t=>split at he<;>cases he
 |dang v av l hl hk h1=>
  intro x hd he;exfalso;cases x with
  |ptr j o=>simp only[U7]at he;split at he<;>(subst he;simp[P0]at hl)
  |sa j o=>simp only[U7]at he;split at he<;>(subst he;simp[P0]at hl)
  |arr j=>
   simp only[U7]at he;split at he
   ·rename_i l' aa;subst he;simp[P0]at hl;subst hl;have:=(hh j _ aa).1;rw[hk]at this;cases this
   ·subst he;simp[P0]at hl
  |ap j i o=>
   simp only[U7]at he;split at he
   ·rename_i l' aa;subst he;simp[P0]at hl;subst hl;have:=(hh j _ aa).1;rw[hk]at this;cases this
   ·subst he;simp[P0]at hl
  |_=>simp only[U7]at he;subst he;simp[P0]at hl
 |gdT v t b av ht hv ih=>
  intro x hd he;cases x<;>simp only[U7,reduceCtorEq]at he
  case ptr j o=>split at he<;>cases he
  case arr j=>split at he<;>cases he
  case sa j t=>split at he<;>cases he
  case ap j i o=>split at he<;>cases he
 |gdF t b av ht=>
  intro x hd he;cases x<;>simp only[U7,reduceCtorEq]at he
  case ptr j o=>split at he<;>cases he
  case arr j=>split at he<;>cases he
  case sa j t=>split at he<;>cases he
  case ap j i o=>split at he<;>cases he
end
def CLe(ρ:Y (Nat×Nat))(c c':AV):Prop:=(lf c'=true/\Cz c c')\/(dm ρ c'=true/\c=U7 ρ c')
inductive CLeL(ρ:List (Nat×Nat)):List AV->List AV->Prop
 |nil:CLeL ρ [] []
 |cons {a b:AV} {l r:List AV} (h:CLe ρ a b) (t:CLeL ρ l r):CLeL ρ (a::l) (b::r)
theorem CLeL.length{ρ:Y (Nat×Nat)}{l r:Y AV}(h:CLeL ρ l r):l.length=r.length:=by induction h<;>simp[*]
theorem CLeL.at{ρ:Y (Nat×Nat)}{l r:Y AV}(h:CLeL ρ l r):∀(i:Nat) (x:AV),r[i]? = some x->∃y,l[i]? = some y/\CLe ρ y x:=by
 induction h with
 |nil=>simp_all
 |cons h0 _ ih=>
  grind
theorem Qc4{ρ:Y (Nat×Nat)}{ty:TypeId}{cs aa:Y AV}(hc:CLeL ρ cs aa)(h:Q5k ty cs):Q5k ty aa:=by
 intro i l t hi;obtain⟨y,hy,ac⟩:=hc.at i _ hi;rcases ac with⟨h1,_⟩|⟨h1,rfl⟩
 ·trivial
 ·obtain⟨l',ai⟩:=QpT.1 h1;simp only[U7,ai]at hy;exact h i l' t hy
inductive OLe(ρ:List (Nat×Nat)):Ob->Ob->Prop
 |box {cs cs':List AV} (h:CLeL ρ cs cs'):OLe ρ (.box cs) (.box cs')
 |arr (e s:Nat) (rows:List (List D)):OLe ρ (.arr e s rows) (.arr e s rows)
 |mp (t:Nat) (f:Int->Bool):OLe ρ (.mp t f) (.mp t f)
def Q2E(o o':oP Ob):Prop:=
 (∃c c',o=some (.box c)/\o'=some (.box c')/\c'.length=c.length) \/
 (∃e s rows,o=some (.arr e s rows)/\(o'=none\/∃aa,o'=some (.arr e s aa)/\aa.length=rows.length)) \/
 ∃t f,o=some (.mp t f)/\(o'=none\/∃f',o'=some (.mp t f'))
structure ShapeEnd(σ ρ:List (Nat×Nat))(H:List (Nat×Ob))(av:AV)(H':List (Nat×Ob))(dl:Dl):Prop where
 v:U7 σ av=dl.v
 wr:MQ σ H' σ=dl.wr
 news:∀j l,(j,l)∈σ->(j,l) ∉ ρ->(look H' j).isSome=true
 old:∀j l,(j,l)∈ρ->Q2E (look H j) (look H' j)
theorem FR {α : Type} {K : AV -> Y (Nat×Ob) -> oP α} {res : α} {f : Nat} {fn : Func} (hf : P.funcs[f]? = some fn) (hb : fn.body.isSome = true) (hn : (fn.name == "runtime.NumGoroutine") = false)
  {σ ρ:Y (Nat×Nat)} {avs avs':Y AV} {H:Y (Nat×Ob)} {hl:Nat->oP Ob} {dl:Dl}
  (hav:CLeL ρ avs avs')
  (hsub:∀p,p∈ρ->p∈σ) (h1:Xn (σ.map (·.1))=true) (h2:Xn (σ.map (·.2))=true) (hρ:Xn (ρ.map (·.1))=true)
  (hin:∀j l,(j,l)∈ρ->1000000<=j/\∃o o',hl l=some o/\look H j=some o'/\OLe ρ o o')
  (hinH:∀j,(look H j).isSome=true->∃l,(j,l)∈ρ)
  (hnew:∀j l,(j,l)∈σ->(j,l)∈ρ\/hl l=none)
  (hwl:wrL dl=σ.map (·.2))
  (h:∀(β:Nat->oP Nat) (S:Nat->Prop) (w:World) (vs:Y Value),Objs β S (look H) w->ArgsRd β S (look H) w vs avs'->Calls P f vs.toArray w (Nd H K res β S w)) (hK:∀av H',K av H'=some res->ShapeEnd σ ρ H av H' dl):ZW P f avs hl dl:=by
 refine⟨⟨fn,hf,hb,hn⟩,λβ S h' w args hO hA hag=>?_⟩;have hag:∀{j l:Nat},(j,l)∈σ->h' l=hl l:=λ{j l} hm=>hag l (.inr (by rw[hwl];exact QpX.2 ⟨(j,l),hm,rfl⟩))
 have hlook:∀{j l:Nat},(j,l)∈ρ->look ρ j=some l:=λhm=>LU hρ hm
 have hβc:∀{j l:Nat},(j,l)∈ρ->(look ρ j).bind β=β l:=λhm=>by rw[hlook hm];rfl
 have hlk2:∀{j j' l:Nat},(j,l)∈ρ->(j',l)∈ρ->j=j':=λa b=>by
  have:=Ht h2 _ _ (hsub _ a) (hsub _ b) rfl;injection this
 have hsome':∀{j l:Nat},(j,l)∈ρ->(h' l).isSome=true:=λhm=>by
  obtain⟨_,o,o',g1,_⟩:=hin _ _ hm;rw[hag (hsub _ hm),g1];rfl
 have hun:∀{v:Value} {y x:AV},RdA β S h' w tm0 v y->CLe ρ y x->RdA (λj=>(look ρ j).bind β) S (look H) w tm0 v x:=by
  intro v y x hv hc;rcases hc with⟨c1,c2⟩|⟨c1,rfl⟩
  ·exact FE c1 (λ_ h=>h) (λ_ _=>rfl) (c2 _ _ _ _ _ _ hv)
  ·refine QiE (ρ:=ρ) (λj l hj=>by simp only[hj];rfl) (λj l hj=>⟨hsome' (Y2 hj),λe s rows hx=>?_,λt f hx=>?_⟩) hv x c1 rfl<;>
   ·obtain⟨_,o,o',g1,g2,g3⟩:=hin j l (Y2 hj);rw[hag (hsub _ (Y2 hj)),g1]at hx;injection hx with hx
    subst hx;cases g3;exact g2
 have hO0:Objs (λj=>(look ρ j).bind β) S (look H) w:=by
  refine⟨λj o ho=>?_,λj j' b s1 s2 b1 b2=>?_,λj b s1 b1=>?_,hO.sb⟩
  ·obtain⟨l,hm⟩:=hinH j (by simp[ho]);obtain⟨_,oo,o',g1,g2,g3⟩:=hin j l hm;rw[ho]at g2;injection g2 with g2
   subst g2;have hob:=hO.ob l _ ((hag (hsub _ hm)).trans g1);cases g3 with
   |box g3=>
    obtain⟨b,ty,c0,fz,e1,e2,e3,e4,e5⟩:=hob;refine⟨b,ty,c0,fz,(hβc hm).trans e1,e2,⟨e3.1,Qc4 g3 e3.2⟩,e4.trans g3.length,λi x hx=>?_⟩;obtain⟨y,y1,y2⟩:=g3.at i x hx;exact hun (e5 i y y1) y2
   |arr e s rows=>
    rcases hob with⟨e1,e2⟩|⟨b,cs,e1,e2,e3,e4,e5⟩
    ·exact .inl ⟨(hβc hm).trans e1,e2⟩
    ·exact .inr ⟨b,cs,(hβc hm).trans e1,e2,e3,e4,e5⟩
   |mp t f=>
    obtain⟨b,e1,e2⟩:=hob;exact⟨b,(hβc hm).trans e1,e2⟩
  ·obtain⟨l,hm⟩:=hinH j s1;obtain⟨l',hm'⟩:=hinH j' s2;have:=hO.inj l l' b (hsome' hm) (hsome' hm') (by rw[<- hβc hm];exact b1) (by rw[<- hβc hm'];exact b2);subst this;exact hlk2 hm hm'
  ·obtain⟨l,hm⟩:=hinH j s1;exact hO.apart l b (hsome' hm) (by rw[<- hβc hm];exact b1)
 have hA0:ArgsRd (λj=>(look ρ j).bind β) S (look H) w args avs':=by
  refine⟨by rw[hA.1,hav.length],λi v av g1 g2=>?_⟩;obtain⟨y,y1,y2⟩:=hav.at i av g2;exact hun (hA.2 i v y g1 y1) y2
 refine(h _ _ _ _ hO0 hA0).mono λe w' ⟨v,av,H',β',S',he,hk,hrd,_,hr⟩=>?_
 obtain⟨q1,q2,q3,q4⟩:=hK av H' hk;have hinv:∀{j l:Nat},(j,l)∈σ->inv σ l=some j:=λhm=>Q4c h2 hm
 let βo:Nat->oP Nat:=λl=>match inv σ l with | some j=>β' j | none=>β l
 have hβo:∀j l,(j,l)∈σ->βo l=β' j:=λj l hm=>by simp only[βo,hinv hm]
 have hset:∀j l,(j,l)∈σ->KS h' dl.wr l=(look H' j).map (QcB σ):=λj l hm=>by rw[<- q2];exact Lj σ H' σ h' h2 j l hm
 have hmem:∀{l:Nat},l∈wrL dl->∃j,(j,l)∈σ:=λhm=>by
  rw[hwl]at hm;obtain⟨⟨j,l'⟩,m1,m2⟩:=QpX.1 hm;simp only at m2;subst m2;exact⟨j,m1⟩
 have hpin:∀{j l:Nat},(j,l)∈ρ->β' j=β l:=λhm=>(hr.pin _ (hin _ _ hm).1).trans (hβc hm)
 have hren:∀{v:Value} {x:AV},RdA β' S' (look H') w' tm0 v x->RdA βo S' (KS h' dl.wr) w' tm0 v (U7 σ x):=λhx=>
  Q6W hβo (λj l o hm ho=>by rw[hset j l hm,ho];rfl) (λj l hm ho=>by rw[hset j l hm,ho];rfl) hx
 have hwmem:∀{j l:Nat},(j,l)∈σ->l∈wrL dl:=λ{j l} hm=>by rw[hwl];exact QpX.2 ⟨(j,l),hm,rfl⟩
 have hMw:∀b,(∃j,(look H j).isSome=true/\(look ρ j).bind β=some b)->∃l,l∈wrL dl/\(h' l).isSome=true/\β l=some b:=by
  intro b ⟨j,s1,s2⟩;obtain⟨l,hm⟩:=hinH j s1;exact⟨l,hwmem (hsub _ hm),hsome' hm,by rw[<- hβc hm];exact s2⟩
 have hw0:∀{b:Nat},(∃j,(look H j).isSome=true/\(look ρ j).bind β=some b)\/w.heap.size<=b->w.heap.size<=b\/∃l0,l0∈wrL dl/\(h' l0).isSome=true/\β l0=some b:=by
  intro b hx;rcases hx with hx | hx
  ·exact .inr (hMw b hx)
  ·exact .inl hx
 refine⟨v,βo,S',he,⟨hr.s0,λb hS=>?_,hr.sb,hr.fr.mono λb _ hM=>hMw b hM,λl hno=>?_,λl o hm ho=>?_,λl hm hs=>?_,λl b hm hs hb'=>?_,λl l' b hm hm' hs hs' hb' hb''=>?_,λl hm hno hno'=>?_,?_,λt=>by rw[<- q1];exact Q27 σ t av⟩⟩
 ·rcases hr.sfr b hS with g | g | g
  ·exact .inl g
  ·exact .inr (.inr (hMw b g))
  ·exact .inr (.inl g)
 ·have:inv σ l=none:=Q7l (by rw[<- hwl];exact hno);simp only[βo,this]
 ·obtain⟨j,hj⟩:=hmem hm;rw[hset j l hj,QpF]at ho;obtain⟨o',ho',rfl⟩:=ho;have hob:=hr.ob j o' ho';cases o' with
  |box cells=>
   obtain⟨b,ty,cs,fz,g1,g2,g3,g4,g5⟩:=hob;refine⟨b,ty,cs,fz,(hβo j l hj).trans g1,g2,⟨g3.1,Q1A g3.2⟩,by rw[g4,Z7],λi x hx=>?_⟩;rw[VK,QpF]at hx;obtain⟨y,hy,rfl⟩:=hx;exact hren (g5 i y hy)
  |arr e s rows=>
   rcases hob with⟨g1,g2⟩|⟨b,cs,g1,g2,g3,g4,g5⟩
   ·exact .inl ⟨(hβo j l hj).trans g1,g2⟩
   ·exact .inr ⟨b,cs,(hβo j l hj).trans g1,g2,g3,g4,g5⟩
  |mp t f=>
   obtain⟨b,g1,g2⟩:=hob;exact⟨b,(hβo j l hj).trans g1,g2⟩
 ·obtain⟨j,hj⟩:=hmem hm;rcases hnew j l hj with hp | hno
  ·obtain⟨hj6,o,o',e1,e2,e3⟩:=hin j l hp;have hh:h' l=some o:=(hag hj).trans e1;have hcells:∀b cs ty fz,(KS h' dl.wr l).isSome=true->β l=some b->w.heap[b]? = some (.cells cs ty fz)->∃cs' ty' fz',w'.heap[b]? = some (.cells cs' ty' fz')/\cs'.size=cs.size:=by
    intro b cs ty fz hs' hb' hw;have hs2:(look H' j).isSome=true:=by
     rw[hset j l hj]at hs';cases hx:look H' j with
     |none=>rw[hx]at hs';cases hs'
     |some o=>rfl
    exact hr.psz j b hj6 hs2 ((hpin hp).trans hb') cs ty fz hw
   rcases q4 j l hp with⟨c,c',g1,g2,g3⟩|⟨e,s,rows,g1,g2⟩|⟨t,f,g1,g2⟩
   ·rw[g1]at e2;injection e2 with e2
    subst e2;cases e3 with
    |box e3=>exact⟨(hβo j l hj).trans (hpin hp),λhx=>(by rw[hh]at hx;cases hx),λe s rows hx=>(by rw[hh]at hx;cases hx),hcells,λt f hx=>(by rw[hh]at hx;cases hx)⟩
   ·rw[g1]at e2;injection e2 with e2
    subst e2;cases e3 with
    |arr=>
     refine⟨(hβo j l hj).trans (hpin hp),λhx=>(by rw[hh]at hx;cases hx),λe' s' rows2 hx=>?_,hcells,λt f hx=>(by rw[hh]at hx;cases hx)⟩;rw[hh]at hx;injection hx with hx
     injection hx with x1 x2 x3
     subst x1 x2 x3;rcases g2 with g2 | ⟨rows',g2,g3⟩
     ·left;rw[hset j l hj,g2];rfl
     ·right;exact⟨rows',by rw[hset j l hj,g2];rfl,g3⟩
   ·rw[g1]at e2;injection e2 with e2
    subst e2;cases e3 with
    |mp=>
     refine⟨(hβo j l hj).trans (hpin hp),λhx=>(by rw[hh]at hx;cases hx),λe' s' rows2 hx=>(by rw[hh]at hx;cases hx),hcells,λt' f2 hx=>?_⟩;rw[hh]at hx;injection hx with hx
     injection hx with x1 x2
     subst x1 x2;rcases g2 with g2 | ⟨f',g2⟩
     ·left;rw[hset j l hj,g2];rfl
     ·right;exact⟨f',by rw[hset j l hj,g2];rfl⟩
  ·rw[hag hj,hno]at hs;cases hs
 ·obtain⟨j,hj⟩:=hmem hm;rw[hβo j l hj]at hb';have hs2:(look H' j).isSome=true:=by
   rw[hset j l hj]at hs;cases hx:look H' j with
   |none=>rw[hx]at hs;cases hs
   |some o=>rfl
  exact⟨hw0 (hr.own j b hs2 hb'),hr.apart j b hs2 hb'⟩
 ·obtain⟨j,hj⟩:=hmem hm;obtain⟨j',hj'⟩:=hmem hm';rw[hβo j l hj]at hb';rw[hβo j' l' hj']at hb'';have hs2:∀{j l:Nat},(j,l)∈σ->(KS h' dl.wr l).isSome=true->(look H' j).isSome=true:=by
   intro j l hj hs;rw[hset j l hj]at hs;cases hx:look H' j with
   |none=>rw[hx]at hs;cases hs
   |some o=>rfl
  have:=hr.inj j j' b (hs2 hj hs) (hs2 hj' hs') hb' hb'';subst this;have:=Ht h1 _ _ hj hj' rfl;injection this
 ·obtain⟨j,hj⟩:=hmem hm;by_cases hp:(j,l)∈ρ
  ·have:=hsome' hp;rw[hno]at this;cases this
  ·have:=q3 j l hj hp;rw[hset j l hj]at hno';cases hx:look H' j with
   |none=>rw[hx]at this;cases this
   |some o=>rw[hx]at hno';cases hno'
 ·rw[<- q1];exact hren hrd
theorem QcR {α : Type} {K : AV -> Y (Nat×Ob) -> oP α} {res : α} {C : VC} (hC : VCOk P C) {n f : Nat} {fn : Func} (hf : P.funcs[f]? = some fn) (hb : fn.body.isSome = true) (hn : (fn.name == "runtime.NumGoroutine") = false)
  {σ ρ:Y (Nat×Nat)} {avs avs':Y AV} {H:Y (Nat×Ob)} {hl:Nat->oP Ob} {dl:Dl}
  (hav:CLeL ρ avs avs')
  (hsub:∀p,p∈ρ->p∈σ) (h1:Xn (σ.map (·.1))=true) (h2:Xn (σ.map (·.2))=true) (hρ:Xn (ρ.map (·.1))=true)
  (hin:∀j l,(j,l)∈ρ->1000000<=j/\∃o o',hl l=some o/\look H j=some o'/\OLe ρ o o')
  (hinH:∀j,(look H j).isSome=true->∃l,(j,l)∈ρ)
  (hnew:∀j l,(j,l)∈σ->(j,l)∈ρ\/hl l=none)
  (hwl:wrL dl=σ.map (·.2))
  (h:vfn C n fn avs' H K=some res) (hK:∀av H',K av H'=some res->ShapeEnd σ ρ H av H' dl):ZW P f avs hl dl:=
 FR hf hb hn hav hsub h1 h2 hρ hin hinH hnew hwl (λ_ _ _ _ hO hA=>Bp hC hf h hO hA) hK
end
section
variable{P:Program} {R:Type}
theorem CLe.data{ρ:Y (Nat×Nat)}{c c':AV}(hl:lf c'=true)(h:Cz c c'):CLe ρ c c':=.inl ⟨hl,h⟩
theorem CLe.own{ρ:Y (Nat×Nat)}{c c':AV}(hd:dm ρ c'=true)(h:c=U7 ρ c'):CLe ρ c c':=.inr ⟨hd,h⟩
def Qgp(ρ0:Y (Nat×Nat))(hl:Nat->oP Ob)(H:Y (Nat×Ob)):Y (Nat×Nat)->Prop
 |[]=>True
 |(j,l)::r=>(1000000<=j/\∃o o',hl l=some o/\look H j=some o'/\OLe ρ0 o o')/\Qgp ρ0 hl H r
def QgD(H H':Y (Nat×Ob)):Y (Nat×Nat)->Prop
 |[]=>True
 |(j,_)::r=>Q2E (look H j) (look H' j)/\QgD H H' r
theorem Q9H{ρ0:Y (Nat×Nat)}{hl:Nat->oP Ob}{H:Y (Nat×Ob)}:∀{ρ:Y (Nat×Nat)},Qgp ρ0 hl H ρ->∀j l,(j,l)∈ρ->1000000<=j/\∃o o',hl l=some o/\look H j=some o'/\OLe ρ0 o o'
 |(a,b)::r,h,j,l,hm=>by
  rcases QpK.1 hm with hm | hm
  ·injection hm with h1 h2;subst h1 h2;exact h.1
  ·exact Q9H h.2 j l hm
theorem Q9h{H H':Y (Nat×Ob)}:∀{ρ:Y (Nat×Nat)},QgD H H' ρ->∀j l,(j,l)∈ρ->Q2E (look H j) (look H' j)
 |(a,b)::r,h,j,l,hm=>by
  rcases QpK.1 hm with hm | hm
  ·injection hm with h1 h2;subst h1 h2;exact h.1
  ·exact Q9h h.2 j l hm
theorem QaF{o o':oP Ob}{c c':Y AV}(h1:o=some (.box c))(h2:o'=some (.box c'))(h3:c'.length=c.length):Q2E o o':=.inl ⟨c,c',h1,h2,h3⟩
theorem Q85{o o':oP Ob}{e s:Nat}{rows:Y (Y D)}(h1:o=some (.arr e s rows))(h2:o'=none):Q2E o o':=.inr (.inl ⟨e,s,rows,h1,.inl h2⟩)
theorem Q7T{o o':oP Ob}{e s:Nat}{rows aa:Y (Y D)}(h1:o=some (.arr e s rows))(h2:o'=some (.arr e s aa))(h3:aa.length=rows.length):Q2E o o':=.inr (.inl ⟨e,s,rows,h1,.inr ⟨aa,h2,h3⟩⟩)
theorem Q9G{o o':oP Ob}{t:Nat}{f f':Int->Bool}(h1:o=some (.mp t f))(h2:o'=some (.mp t f')):Q2E o o':=.inr (.inr ⟨t,f,h1,.inr ⟨f',h2⟩⟩)
theorem Q5t{o o':oP Ob}{t:Nat}{f:Int->Bool}(h1:o=some (.mp t f))(h2:o'=none):Q2E o o':=.inr (.inr ⟨t,f,h1,.inl h2⟩)
theorem Q9U{f:Nat}{aa:Y AV}{hl:Nat->oP Ob}{dl:Dl}{g:Bool}{k:Dl->oP R}{r:R}(h:(bif g then none else k dl)=some r):∃dl,k dl=some r/\(g=true->ZW P f aa hl dl):=by
 grind
theorem Q1v {α : Type} {K : AV -> Y (Nat×Ob) -> oP α} {res : α} {f : Nat} {fn : Func} (hf : P.funcs[f]? = some fn) (hb : fn.body.isSome = true) (hn : (fn.name == "runtime.NumGoroutine") = false)
  {ρ ν:Y (Nat×Nat)} {avs avs':Y AV} {H:Y (Nat×Ob)} {hl:Nat->oP Ob} {dl:Dl}
  (hav:CLeL ρ avs avs') (h1:Xn ((ρ++ν).map (·.1))=true) (hρ:Xn (ρ.map (·.1))=true)
  (hc:Na hl ρ ν=true) (hin:Qgp ρ hl H ρ) (hkeys:H.map (·.1)=ρ.map (·.1)) (hwl:wrL dl=(ρ++ν).map (·.2))
  (h:∀(β:Nat->oP Nat) (S:Nat->Prop) (w:World) (vs:Y Value),Objs β S (look H) w->ArgsRd β S (look H) w vs avs'->Calls P f vs.toArray w (Nd H K res β S w))
  (hK:∀av H',K av H'=some res->U7 (ρ++ν) av=dl.v/\MQ (ρ++ν) H' (ρ++ν)=dl.wr/\QcH H' ν/\QgD H H' ρ):ZW P f avs hl dl:=by
 simp only[Na,QpE]at hc;refine FR hf hb hn hav (λp hp=>List.mem_append_left _ hp) h1 hc.1 hρ (Q9H hin) (Q2a hkeys) (λj l hm=>?_) hwl h λav H' hk=>?_
 ·grind[Q6x]
 ·obtain⟨q1,q2,q3,q4⟩:=hK av H' hk;refine⟨q1,q2,λj l hm hno=>?_,Q9h q4⟩
  grind[absurd,Q5n]
end
abbrev N6:=(R:Type)->St->(Exit->St->oP R)->oP R
section
variable{P:Program} {E:Env} {R:Type}
def QbZ(P:Program)(c:Code)(F:N6):Prop:=
 ∀(E:Env) (R:Type) (st:St) (k:Exit->St->oP R) (r:R),F R st k=some r->∀a w,JB E st a w->(Code.loop c).wp P (E6 E k r) a w
structure LpE(P:Program) where
 r:Nat
 c:Code
 L:N6
 t:St->Bool
 ok:QbZ P c L
def Q8p:Y (LpE P)->Nat->oP N6
 |[],_=>none
 |e::t,r=>bif Nat.beq e.r r then some e.L else Q8p t r
def Q89(C:VC)(T:Y (LpE P)):Code->St->(Exit->St->oP R)->oP R
 |.skip,st,k=>k .normal st
 |.region id ops aa,st,k=>Q1z C id ops aa st (k .normal)
 |.seq a b,st,k=>Q89 C T a st λe st'=>match e with
  |.normal=>Q89 C T b st' k
  |.exit id=>k (.exit id) st'
  |.ret=>k .ret st'
  |_=>none
 |.cond c a b,st,k=>match evO st.tm c with
  |.d (.bool e)=>bif e then Q89 C T a st k else Q89 C T b st k
  |_=>none
 |.block id c,st,k=>Q89 C T c st λe st'=>match e with
  |.normal=>k .normal st'
  |.exit j=>bif Nat.beq j id then k .normal st' else k (.exit j) st'
  |.ret=>k .ret st'
  |_=>none
 |.loop c,st,k=>match Q8p T (Q9i c)with
  |some L=>L R st k
  |none=>none
 |.exit id,st,k=>k (.exit id) st
 |.ret,st,k=>k .ret st
 |_,_,_=>none
def WN:Code->Y (Nat×Code)
 |.seq a b=>WN a++WN b
 |.cond _ a b=>WN a++WN b
 |.block _ c=>WN c
 |.loop c=>[(Q9i c,c)]
 |_=>[]
def Qga(T:Y (LpE P))(ds:Y (Nat×Code)):Prop:=∀r c,(r,c)∈ds->∀L,Q8p T r=some L->QbZ P c L
def Md(T:Y (LpE P))(ds:Y (Nat×Code)):Y (Nat×Code):=ds.filter λd=>PM d.1 (T.map (·.r))
theorem Qab{T:Y (LpE P)}{r:Nat}{L:N6}(h:Q8p T r=some L):PM r (T.map (·.r))=true:=by
 induction T with
 |nil=>cases h
 |cons e t ih=>
  grind[Q8p,Nat.beq,Nat.eq_of_beq_eq_true,PM,Nat.beq_refl]
theorem Bf{T:Y (LpE P)}{ds:Y (Nat×Code)}(hn:Xn (T.map (·.r))=true)(h:Md T ds=T.map λe=>(e.r,e.c)):Qga T ds:=by
 intro r c hm L hL;have hm:(r,c)∈T.map λe=>(e.r,e.c):=by
  rw[<- h];exact List.mem_filter.2 ⟨hm,Qab hL⟩
 clear h;induction T with
 |nil=>cases hm
 |cons e t ih=>
  simp only[QpR,Xn,QpE,QpL]at hn;simp only[QpR,QpK]at hm;simp only[Q8p]at hL;rcases hm with hm | hm
  ·injection hm with h1 h2
   subst h1 h2;simp only[Nat.beq_refl,QpJ,Option.some.injEq]at hL;subst hL;exact e.ok
  ·cases hb:Nat.beq e.r r with
   |true=>
    have:=QpD hb;subst this;have ac:PM e.r (t.map (·.r))=true:=by
     have:∀(l:Y (LpE P)),(e.r,c)∈l.map (λx=>(x.r,x.c))->PM e.r (l.map (·.r))=true:=by
      intro l;induction l with
      |nil=>simp_all
      |cons x xs ai=>
       intro h;simp only[QpR,QpK]at h
       grind[PM,Nat.beq_refl]
     simp_all
    simp_all
   |false=>
    simp_all
theorem MC{C:VC}(hC:VCOk P C){T:Y (LpE P)}:∀(c:Code),Qga T (WN c)->∀(st:St) (k:Exit->St->oP R) (r:R),Q89 C T c st k=some r->∀a w,JB E st a w->c.wp P (E6 E k r) a w:=by
 intro c;induction c with
 |skip=>intro _ st k r h a w hR;exact wp_skip ⟨st,hR,h⟩
 |region id ops an=>
  intro _ st k r h a w hR;exact Fl hC h hR λst' a' w' aa hk=>⟨st',aa,hk⟩
 |seq x y ak ai=>
  intro hT st k r h a w hR;refine wp_seq (wp_mono (ak (λr c hm=>hT r c (List.mem_append_left _ hm)) st _ r h a w hR) λe a' w' hp=>?_);obtain⟨st',aa,hk⟩:=hp;cases e with
  |normal=>exact ai (λr c hm=>hT r c (List.mem_append_right _ hm)) st' k r hk a' w' aa
  |exit id=>exact⟨st',aa,hk⟩
  |ret=>exact⟨st',aa,hk⟩
  |_=>cases hk
 |cond c x y ak ai=>
  intro hT st k r h a w hR;simp only[Q89]at h;split at h
  ·rename_i e he;obtain⟨β,S,aj⟩:=hR;have hv:=(he▸Q4V aj c).bool_inv;refine wp_cond hv ?_;cases e with
   |true=>exact ak (λr c hm=>hT r c (List.mem_append_left _ hm)) st k r (by simpa using h) a w ⟨β,S,aj⟩
   |false=>exact ai (λr c hm=>hT r c (List.mem_append_right _ hm)) st k r (by simpa using h) a w ⟨β,S,aj⟩
  ·cases h
 |block id c ih=>
  intro hT st k r h a w hR;refine wp_block (wp_mono (ih hT st _ r h a w hR) λe a' w' hp=>?_);obtain⟨st',aa,hk⟩:=hp;cases e with
  |normal=>exact⟨st',aa,hk⟩
  |exit j=>
   cases hb:Nat.beq j id with
   |true=>
    simp only[hb,QpJ]at hk;have:=QpD hb;simp only[Exit.inBlock,this,if_true];exact⟨st',aa,hk⟩
   |false=>
    simp only[hb,QpU]at hk;have am:¬ j=id:=λe=>by simp_all
    simp only[Exit.inBlock,am,if_false];exact⟨st',aa,hk⟩
  |ret=>exact⟨st',aa,hk⟩
  |_=>cases hk
 |loop c ih=>
  intro hT st k r h a w hR;simp only[Q89]at h;split at h
  ·rename_i L hL;exact hT _ c (by simp[WN]) L hL E _ st k r h a w hR
  ·cases h
 |exit id=>intro _ st k r h a w hR;exact wp_exit ⟨st,hR,h⟩
 |ret=>intro _ st k r h a w hR;exact wp_ret ⟨st,hR,h⟩
 |_=>grind[Q89]
def lpK(F:N6)(k:Exit->St->oP R):Exit->St->oP R:=λe st=>match e with
 |.normal=>F R st k
 |.exit id=>k (.exit id) st
 |.ret=>k .ret st
 |_=>none
theorem Q4o{c:Code}(F:Nat->N6)(h0:∀(R:Type) st (k:Exit->St->oP R),F 0 R st k=none)(hs:∀(m:Nat) (E:Env) (R:Type) st (k:Exit->St->oP R) r,F (m+1) R st k=some r->∀a w,JB E st a w->c.wp P (E6 E (lpK (F m) k) r) a w) :
  ∀(m:Nat) (E:Env) (R:Type) (st:St) (k:Exit->St->oP R) (r:R),F m R st k=some r->∀a w,JB E st a w->Code.rounds P c (E6 E k r) m a w
 |0,E,R,st,k,r,h=>by rw[h0]at h;cases h
 |m+1,E,R,st,k,r,h=>by
  intro a w hR;rw[rounds_succ];refine wp_mono (hs m E R st k r h a w hR) λe a' w' ⟨st',aa,hk⟩=>?_
  cases e with
  |normal=>exact Q4o F h0 hs m E R st' k r hk a' w' aa
  |exit id=>exact⟨st',aa,hk⟩
  |ret=>exact⟨st',aa,hk⟩
  |_=>cases hk
end
inductive LT where
 |I | B | T | L | R | D | N | M | P
abbrev yI:LT:=.I
abbrev yB:LT:=.B
abbrev yT:LT:=.T
abbrev yL:LT:=.L
abbrev yR:LT:=.R
abbrev yD:LT:=.D
abbrev yN:LT:=.N
abbrev yM:LT:=.M
abbrev yP:LT:=.P
inductive Lf where
 |I (x:Int)
 |B (x:Bool)
 |T (x:List UInt8)
 |L (x:List (List D))
 |R (x:List D)
 |D (x:Vx.D)
 |N (x:Nat)
 |M (x:Int->List (List Vx.D))
 |P (x:Int->Bool)
def LT.ty:LT->Type
 |.I=>Int
 |.B=>Bool
 |.T=>Y UInt8
 |.L=>Y (Y Vx.D)
 |.R=>Y Vx.D
 |.D=>Vx.D
 |.N=>Nat
 |.M=>Int->Y (Y Vx.D)
 |.P=>Int->Bool
def HL:Y LT->Type
 |[]=>Unit
 |t::ts=>t.ty×HL ts
def LF:Y LT->Type->Type
 |[],α=>α
 |t::ts,α=>t.ty->LF ts α
def Qbc:(t:LT)->t.ty->Lf
 |.I,x=>.I x
 |.B,x=>.B x
 |.T,x=>.T x
 |.L,x=>.L x
 |.R,x=>.R x
 |.D,x=>.D x
 |.N,x=>.N x
 |.M,x=>.M x
 |.P,x=>.P x
def toL:(ts:Y LT)->HL ts->Y Lf
 |[],_=>[]
 |t::ts,v=>Qbc t v.1::toL ts v.2
def apH{α:Type}:(ts:Y LT)->LF ts α->HL ts->α
 |[],f,_=>f
 |_::ts,f,v=>apH ts (f v.1) v.2
def Q8F:(t:LT)->Lf->oP t.ty
 |.I,.I x=>some x
 |.B,.B x=>some x
 |.T,.T x=>some x
 |.L,.L x=>some x
 |.R,.R x=>some x
 |.D,.D x=>some x
 |.N,.N x=>some x
 |.M,.M x=>some x
 |.P,.P x=>some x
 |_,_=>none
def apL{α:Type}:(ts:Y LT)->LF ts (oP α)->Y Lf->oP α
 |[],f,l=>match l with
  |[]=>f
  |_::_=>none
 |t::ts,f,l=>match l with
  |[]=>none
  |x::r=>match Q8F t x with
   |some v=>apL ts (f v) r
   |none=>none
theorem NB{t:LT}{x:Lf}{v:t.ty}(h:Q8F t x=some v):x=Qbc t v:=by
 cases t<;>cases x<;>first | (injection h with h;subst h;rfl) | cases h
theorem MA{α:Type}(ts:Y LT):∀(f:LF ts (oP α)) (l:Y Lf) (r:α),apL ts f l=some r->∃v:HL ts,apH ts f v=some r/\l=toL ts v:=by
 induction ts with
 |nil=>
  intro f l r h;cases l with
  |nil=>exact⟨(),h,rfl⟩
  |cons x l=>cases h
 |cons t ts ih=>
  intro f l r h;cases l with
  |nil=>cases h
  |cons x l=>
   replace h:(match Q8F t x with | some v=>apL ts (f v) l | none=>none)=some r:=h
   split at h
   ·rename_i v hv;obtain⟨u,h1,h2⟩:=ih (f v) l r h;exact⟨(v,u),h1,by rw[NB hv,h2];rfl⟩
   ·cases h
inductive TA where
 |top | nil
 |i (k:IntKind) | b | t | l (s:Nat) | x
 |ci (k:IntKind) (n:Int) | cb (v:Bool) | ct (s:List UInt8) | cl (s:Nat)
 |ag (l:List TA) | tup (l:List TA) | fn (f:Nat) (l:List TA)
 |ptr (l off:Nat) | arr (l:Nat) | sa (l t:Nat)
 |el (off:Nat) | ap (l off:Nat) | ac (l i off:Nat)
 |fs (s:Nat) | mpd
 |gd (t:Nat) (w:Bool) (a:TA)
def KO:Y UInt8->Y UInt8->Bool
 |[],[]=>true
 |a::r,b::s=>Nat.beq a.toNat b.toNat&&KO r s
 |_,_=>false
theorem J5:∀{a b:Y UInt8},KO a b=true->a=b
 |[],[],_=>rfl
 |x::r,y::s,h=>by
  simp only[KO,QpE]at h;rw[UInt8.toNat_inj.1 (QpD h.1),J5 h.2]
 |[],_::_,h=>by simp[KO]at h
 |_::_,[],h=>by simp[KO]at h
def oB{α:Type}(c:Bool)(x:α):oP α:=bif c then some x else none
theorem VJ{α:Type}{c:Bool}{x y:α}(h:oB c x=some y):c=true/\x=y:=by
 cases c with
 |true=>injection h with h;simp_all
 |false=>cases h
mutual
def rdT:TA->AV->Y Lf->oP (Y Lf)
 |.top,.top,acc=>some acc
 |.nil,.nil,acc=>some acc
 |.i k,.d (.int k' n),acc=>oB (k == k') (.I n::acc)
 |.b,.d (.bool v),acc=>some (.B v::acc)
 |.t,.d (.str s),acc=>some (.T s::acc)
 |.l s,.d (.sl s' r),acc=>oB (Nat.beq s s') (.L r::acc)
 |.x,.d d,acc=>some (.D d::acc)
 |.ci k n,.d (.int k' n'),acc=>oB (k == k'&&decide (n=n')) acc
 |.cb v,.d (.bool v'),acc=>oB (v == v') acc
 |.ct s,.d (.str s'),acc=>oB (KO s s') acc
 |.cl s,.d (.sl s' []),acc=>oB (Nat.beq s s') acc
 |.ag l,.ag l',acc=>Qb9 l l' acc
 |.tup l,.tup l',acc=>Qb9 l l' acc
 |.fn f l,.fn f' l',acc=>bif Nat.beq f f' then Qb9 l l' acc else none
 |.ptr l o,.ptr l' o',acc=>oB (Nat.beq l l'&&Nat.beq o o') acc
 |.arr l,.arr l',acc=>oB (Nat.beq l l') acc
 |.sa l o,.sa l' o',acc=>oB (Nat.beq l l'&&Nat.beq o o') acc
 |.el o,.el r o',acc=>oB (Nat.beq o o') (.R r::acc)
 |.ap l o,.ap l' i o',acc=>oB (Nat.beq l l'&&Nat.beq o o') (.N i::acc)
 |.ac l i o,.ap l' i' o',acc=>oB (Nat.beq l l'&&Nat.beq i i'&&Nat.beq o o') acc
 |.fs s,.fs s' r,acc=>oB (Nat.beq s s') (.L r::acc)
 |.mpd,.mpd f,acc=>some (.M f::acc)
 |.gd t w a,.gd t' w' a',acc=>bif Nat.beq t t'&&(w == w')then rdT a a' acc else none
 |_,_,_=>none
def Qb9:Y TA->Y AV->Y Lf->oP (Y Lf)
 |[],[],acc=>some acc
 |a::r,a'::r',acc=>match Qb9 r r' acc with
  |some aa=>rdT a a' aa
  |none=>none
 |_,_,_=>none
end
mutual
def fiT:TA->Y Lf->AV×Y Lf
 |.i k,.I n::r=>(.d (.int k n),r)
 |.b,.B v::r=>(.d (.bool v),r)
 |.t,.T s::r=>(.d (.str s),r)
 |.l s,.L x::r=>(.d (.sl s x),r)
 |.x,.D d::r=>(.d d,r)
 |.ci k n,r=>(.d (.int k n),r)
 |.cb v,r=>(.d (.bool v),r)
 |.ct s,r=>(.d (.str s),r)
 |.cl s,r=>(.d (.sl s []),r)
 |.ag l,r=>(.ag (Q8f l r).1,(Q8f l r).2)
 |.tup l,r=>(.tup (Q8f l r).1,(Q8f l r).2)
 |.fn f l,r=>(.fn f (Q8f l r).1,(Q8f l r).2)
 |.ptr l o,r=>(.ptr l o,r)
 |.arr l,r=>(.arr l,r)
 |.sa l o,r=>(.sa l o,r)
 |.el o,.R x::r=>(.el x o,r)
 |.ap l o,.N i::r=>(.ap l i o,r)
 |.ac l i o,r=>(.ap l i o,r)
 |.fs s,.L x::r=>(.fs s x,r)
 |.mpd,.M f::r=>(.mpd f,r)
 |.gd t w a,r=>(.gd t w (fiT a r).1,(fiT a r).2)
 |.nil,r=>(.nil,r)
 |_,r=>(.top,r)
def Q8f:Y TA->Y Lf->Y AV×Y Lf
 |[],r=>([],r)
 |a::l,r=>((fiT a r).1::(Q8f l (fiT a r).2).1,(Q8f l (fiT a r).2).2)
end
mutual
theorem Q21:∀(ta:TA) (a:AV) (acc ls:Y Lf),rdT ta a acc=some ls->fiT ta ls=(a,acc):=by
 intro ta a acc ls h;cases ta<;>cases a<;>try (simp only[rdT,reduceCtorEq]at h;done)
 case top.top=>simp only[rdT,Option.some.injEq]at h;subst h;simp[fiT]
 case nil.nil=>simp only[rdT,Option.some.injEq]at h;subst h;simp[fiT]
 case i.d k d=>
  cases d<;>try (simp only[rdT,reduceCtorEq]at h;done)
  simp only[rdT]at h;obtain⟨h1,rfl⟩:=VJ h;rw[<- eq_of_beq h1];rfl
 case b.d d=>
  cases d<;>try (simp only[rdT,reduceCtorEq]at h;done)
  simp only[rdT,Option.some.injEq]at h;subst h;rfl
 case t.d d=>
  cases d<;>try (simp only[rdT,reduceCtorEq]at h;done)
  simp only[rdT,Option.some.injEq]at h;subst h;rfl
 case l.d s d=>
  cases d<;>try (simp only[rdT,reduceCtorEq]at h;done)
  simp only[rdT]at h;obtain⟨h1,rfl⟩:=VJ h;rw[<- QpD h1];rfl
 case x.d d=>simp only[rdT,Option.some.injEq]at h;subst h;rfl
 case ci.d k n d=>
  cases d<;>try (simp only[rdT,reduceCtorEq]at h;done)
  simp only[rdT]at h;obtain⟨h1,rfl⟩:=VJ h;simp only[QpE,decide_eq_true_eq]at h1;rw[<- eq_of_beq h1.1,<- h1.2];simp[fiT]
 case cb.d v d=>
  cases d<;>try (simp only[rdT,reduceCtorEq]at h;done)
  simp only[rdT]at h;obtain⟨h1,rfl⟩:=VJ h;rw[<- eq_of_beq h1];simp[fiT]
 case ct.d s d=>
  cases d<;>try (simp only[rdT,reduceCtorEq]at h;done)
  simp only[rdT]at h;obtain⟨h1,rfl⟩:=VJ h;rw[<- J5 h1];simp[fiT]
 case cl.d s d=>
  cases d<;>try (simp only[rdT,reduceCtorEq]at h;done)
  rename_i s' rows;cases rows<;>try (simp only[rdT,reduceCtorEq]at h;done)
  simp only[rdT]at h;obtain⟨h1,rfl⟩:=VJ h;rw[<- QpD h1];simp[fiT]
 case ag.ag l l'=>simp only[rdT]at h;have:=NQ l l' acc ls h;simp[fiT,this]
 case tup.tup l l'=>simp only[rdT]at h;have:=NQ l l' acc ls h;simp[fiT,this]
 case fn.fn f l f' l'=>
  simp only[rdT]at h;obtain⟨h1,h⟩:=Xm h;have:=NQ l l' acc ls h;rw[<- QpD h1];simp[fiT,this]
 case ptr.ptr=>
  simp only[rdT]at h;obtain⟨h1,rfl⟩:=VJ h;simp only[QpE]at h1;rw[<- QpD h1.1,<- QpD h1.2];simp[fiT]
 case arr.arr=>
  simp only[rdT]at h;obtain⟨h1,rfl⟩:=VJ h;rw[<- QpD h1];simp[fiT]
 case sa.sa=>
  simp only[rdT]at h;obtain⟨h1,rfl⟩:=VJ h;simp only[QpE]at h1;rw[<- QpD h1.1,<- QpD h1.2];simp[fiT]
 case el.el=>
  simp only[rdT]at h;obtain⟨h1,rfl⟩:=VJ h;rw[<- QpD h1];rfl
 case ap.ap=>
  simp only[rdT]at h;obtain⟨h1,rfl⟩:=VJ h;simp only[QpE]at h1;rw[<- QpD h1.1,<- QpD h1.2];rfl
 case ac.ap=>
  simp only[rdT]at h;obtain⟨h1,rfl⟩:=VJ h;simp only[QpE]at h1;rw[<- QpD h1.1.1,<- QpD h1.1.2,<- QpD h1.2];simp[fiT]
 case fs.fs=>
  simp only[rdT]at h;obtain⟨h1,rfl⟩:=VJ h;rw[<- QpD h1];rfl
 case mpd.mpd=>simp only[rdT,Option.some.injEq]at h;subst h;rfl
 case gd.gd ti w a ti' w' a'=>
  simp only[rdT]at h;obtain⟨h1,h⟩:=Xm h;simp only[QpE]at h1;have:=Q21 a a' acc ls h;rw[<- QpD h1.1,<- eq_of_beq h1.2];simp[fiT,this]
theorem NQ:∀(ta:Y TA) (a:Y AV) (acc ls:Y Lf),Qb9 ta a acc=some ls->Q8f ta ls=(a,acc):=by
 intro ta a acc ls h
 match ta,a,h with
 |[],[],h=>simp only[Qb9,Option.some.injEq]at h;subst h;simp[Q8f]
 |ta::ts,a::as,h=>
  simp only[Qb9]at h;split at h
  ·rename_i aa ha;have h1:=Q21 ta a aa ls h;have h2:=NQ ts as acc aa ha;simp[Q8f,h1,h2]
  ·cases h
 |[],_::_,h=>simp[Qb9]at h
 |_::_,[],h=>simp[Qb9]at h
end
abbrev tI:TA:=.i .i64
inductive TO where
 |box (l:List TA)
 |arr (e s:Nat)
 |arc (e s:Nat)
 |mp (t:Nat)
structure TS where
 n:Nat
 tm:List (Nat×TA)
 h:List (Nat×TO)
def rdO:TO->Ob->Y Lf->oP (Y Lf)
 |.box l,.box l',acc=>Qb9 l l' acc
 |.arr e s,.arr e' s' r,acc=>oB (Nat.beq e e'&&Nat.beq s s') (.L r::acc)
 |.arc e s,.arr e' s' [],acc=>oB (Nat.beq e e'&&Nat.beq s s') acc
 |.mp e,.mp e' f,acc=>oB (Nat.beq e e') (.P f::acc)
 |_,_,_=>none
def fiO:TO->Y Lf->Ob×Y Lf
 |.box l,r=>(.box (Q8f l r).1,(Q8f l r).2)
 |.arr e s,.L x::r=>(.arr e s x,r)
 |.arr e s,r=>(.arr e s [],r)
 |.arc e s,r=>(.arr e s [],r)
 |.mp e,.P x::r=>(.mp e x,r)
 |.mp e,r=>(.mp e λ_=>false,r)
def rdM:Y (Nat×TA)->Y (Nat×AV)->Y Lf->oP (Y Lf)
 |[],[],acc=>some acc
 |(i,a)::r,(j,b)::s,acc=>bif Nat.beq i j then match rdM r s acc with
  |some aa=>rdT a b aa
  |none=>none
  else none
 |_,_,_=>none
def fiM:Y (Nat×TA)->Y Lf->Y (Nat×AV)×Y Lf
 |[],r=>([],r)
 |(i,a)::l,r=>((i,(fiT a r).1)::(fiM l (fiT a r).2).1,(fiM l (fiT a r).2).2)
def rdH:Y (Nat×TO)->Y (Nat×Ob)->Y Lf->oP (Y Lf)
 |[],[],acc=>some acc
 |(i,a)::r,(j,b)::s,acc=>bif Nat.beq i j then match rdH r s acc with
  |some aa=>rdO a b aa
  |none=>none
  else none
 |_,_,_=>none
def fiH:Y (Nat×TO)->Y Lf->Y (Nat×Ob)×Y Lf
 |[],r=>([],r)
 |(i,a)::l,r=>((i,(fiO a r).1)::(fiH l (fiO a r).2).1,(fiH l (fiO a r).2).2)
def rdS(Z:TS)(st:St):oP (Y Lf):=bif Nat.beq Z.n st.n then match rdH Z.h st.h []with
  |some acc=>rdM Z.tm st.tm acc
  |none=>none
 else none
def fiS(Z:TS)(l:Y Lf):St:=⟨Z.n,(fiM Z.tm l).1,(fiH Z.h (fiM Z.tm l).2).1⟩
theorem Qce{z:TO}{o:Ob}{acc ls:Y Lf}(h:rdO z o acc=some ls):fiO z ls=(o,acc):=by
 cases z<;>cases o<;>try (simp only[rdO,reduceCtorEq]at h;done)
 case box.box=>simp only[rdO]at h;simp[fiO,NQ _ _ _ _ h]
 case arr.arr=>
  simp only[rdO]at h;obtain⟨h1,rfl⟩:=VJ h;simp only[QpE]at h1;rw[<- QpD h1.1,<- QpD h1.2];rfl
 case arc.arr e s e' s' r=>
  cases r<;>try (simp only[rdO,reduceCtorEq]at h;done)
  simp only[rdO]at h;obtain⟨h1,rfl⟩:=VJ h;simp only[QpE]at h1;rw[<- QpD h1.1,<- QpD h1.2];simp[fiO]
 case mp.mp=>
  simp only[rdO]at h;obtain⟨h1,rfl⟩:=VJ h;rw[<- QpD h1];rfl
theorem Q73:∀{z:Y (Nat×TA)} {l:Y (Nat×AV)} {acc ls:Y Lf},rdM z l acc=some ls->fiM z ls=(l,acc)
 |[],[],acc,ls,h=>by simp only[rdM,Option.some.injEq]at h;subst h;rfl
 |(i,a)::r,(j,b)::s,acc,ls,h=>by
  simp only[rdM]at h;obtain⟨h1,h⟩:=Xm h;split at h
  ·rename_i aa ha;simp[fiM,Q21 _ _ _ _ h,Q73 ha,QpD h1]
  ·cases h
 |[],_::_,_,_,h=>by simp[rdM]at h
 |_::_,[],_,_,h=>by simp[rdM]at h
theorem Q6J:∀{z:Y (Nat×TO)} {l:Y (Nat×Ob)} {acc ls:Y Lf},rdH z l acc=some ls->fiH z ls=(l,acc)
 |[],[],acc,ls,h=>by simp only[rdH,Option.some.injEq]at h;subst h;rfl
 |(i,a)::r,(j,b)::s,acc,ls,h=>by
  simp only[rdH]at h;obtain⟨h1,h⟩:=Xm h;split at h
  ·rename_i aa ha;simp[fiH,Qce h,Q6J ha,QpD h1]
  ·cases h
 |[],_::_,_,_,h=>by simp[rdH]at h
 |_::_,[],_,_,h=>by simp[rdH]at h
theorem Ee{Z:TS}{st:St}{ls:Y Lf}(h:rdS Z st=some ls):fiS Z ls=st:=by
 obtain⟨h1,h⟩:=Xm h;split at h
 ·rename_i acc ha;simp only[fiS,Q73 h,Q6J ha,QpD h1]
 ·cases h
def Lp(C:VC)(aa:Nat)(Z:TS)(ts:Y LT)(f:(R:Type)->(Exit->St->oP R)->LF ts (oP R)):N6:=λR st k=>
 match rdS Z (Q15 C aa st)with
 |some ls=>apL ts (f R k) ls
 |none=>none
def mkL{P:Program}{C:VC}(hC:VCOk P C)(T:Y (LpE P))(r:Nat)(c:Code)(Z:TS)(ts:Y LT)(f:Nat->(R:Type)->(Exit->St->oP R)->LF ts (oP R))(m:Nat)(hr:Nat.beq r (Q9i c)=true:=by kernel_rfl)(hT:Md T (WN c)=T.map λe=>(e.r,e.c):=by kernel_rfl)(hn:Xn (T.map (·.r))=true:=by rfl)(h0:∀R k v,apH ts (f 0 R k) v=none:=by intro R k v;rfl)(hs:∀m R k v,apH ts (f (m+1) R k) v=Q89 C T c (fiS Z (toL ts v)) (lpK (Lp C (3000000000+r) Z ts (f m)) k):=by intro m R k v;kernel_rfl):LpE P where
 r:=r
 c:=c
 L:=Lp C (3000000000+r) Z ts (f m)
 t:=λst=>(rdS Z (Q15 C (3000000000+r) st)).isSome
 ok:=by
  have hr:=QpD hr;have hT:=Bf hn hT;intro E R st k x h a w hR;refine wp_loop_rounds m (Q4o (λm=>Lp C (3000000000+r) Z ts (f m)) (λR st k=>?_) (λm E R st k x h a w hR=>?_) m E R st k x h a w hR)
  ·show Lp C (3000000000+r) Z ts (f 0) R st k=none;cases hx:Lp C (3000000000+r) Z ts (f 0) R st k with
   |none=>rfl
   |some x=>
    unfold Lp at hx;split at hx
    ·obtain⟨v,hv,_⟩:=MA _ _ _ _ hx;rw[h0]at hv;cases hv
    ·cases hx
  ·replace h:Lp C (3000000000+r) Z ts (f (m+1)) R st k=some x:=h
   unfold Lp at h;split at h
   ·rename_i ls ai;obtain⟨v,hv,rfl⟩:=MA _ _ _ _ h;rw[hs,Ee ai]at hv;refine MC hC c hT _ _ x hv a w ?_;unfold Q15;split
    ·exact P4 _ hR
    ·exact hR
   ·cases h
def orL{P:Program}(a b:LpE P)(hc:b.c=a.c:=by kernel_rfl):LpE P where
 r:=a.r
 c:=a.c
 L:=λR st k=>bif a.t st then a.L R st k else b.L R st k
 t:=λst=>a.t st||b.t st
 ok:=by
  intro E R st k r h
  replace h:(bif a.t st then a.L R st k else b.L R st k)=some r:=h
  cases ht:a.t st with
  |true=>rw[ht]at h;exact a.ok E R st k r h
  |false=>rw[ht]at h;rw[<- hc];exact b.ok E R st k r h
section
variable{P:Program} {R:Type}
def prM(hl:Nat->oP Ob)(e:Nat)(av:AV)(k:Nat->(Int->Bool)->oP R):oP R:=
 match av with
 |.arr l=>match hl l with
  |some (.mp e' f)=>bif Nat.beq e' e then k l f else none
  |_=>none
 |_=>none
theorem QhG{hl:Nat->oP Ob}{e:Nat}{av:AV}{k:Nat->(Int->Bool)->oP R}{r:R}(h:prM hl e av k=some r):∃l f,k l f=some r/\av = .arr l/\hl l=some (.mp e f):=by
 unfold prM at h
 grind[Nat.eq_of_beq_eq_true]
def prN(av:AV)(k:oP R):oP R:=
 match av with
 |.nil=>k
 |_=>none
theorem QhL{av:AV}{k:oP R}{r:R}(h:prN av k=some r):k=some r/\av = .nil:=by
 grind[prN]
def vfnT(C:VC)(T:Y (LpE P))(fn:Func)(args:Y AV)(h:Y (Nat×Ob))(k:AV->Y (Nat×Ob)->oP R):oP R:=
 bif fn.body.isSome&&(Nat.ble args.length fn.ntmps&&Ki args)then Q89 C T (V6 fn) { n:=fn.ntmps,tm:=Q2l 0 args,h:=h } (fnK C.tt fn k)else none
theorem MP{C:VC}(hC:VCOk P C){T:Y (LpE P)}{f:Nat}{fn:Func}(hf:P.funcs[f]? = some fn)(hT:Md T (WN (V6 fn))=T.map λe=>(e.r,e.c))(hn:Xn (T.map (·.r))=true){args:Y AV}{H:Y (Nat×Ob)}{k:AV->Y (Nat×Ob)->oP R}{r:R}(h:vfnT C T fn args H k=some r)(β:Nat->oP Nat)(S:Nat->Prop)(w:World)(vs:Y Value)(hO:Objs β S (look H) w)(hA:ArgsRd β S (look H) w vs args):Calls P f vs.toArray w (Nd H k r β S w):=by
 obtain⟨hb,h⟩:=Xm h;simp only[QpE]at hb;obtain⟨c,hc⟩:=QpT.1 hb.1;have aa:V6 fn=c:=by grind[V6]
 rw[aa]at h hT;exact Q1M hC hf hc Q4 (λa hR=>MC hC c (Bf hn hT) _ _ r h a w ⟨β,S,hR⟩) hO hA
theorem QbV {α:Type} {K:AV->oP α} {res:α} {C:VC} (hC:VCOk P C) (T:Y (LpE P)) {f:Nat} {fn:Func} {ss:Y (Y Nat)} {avs:Y AV} {av:AV} {hl:Nat->oP Ob} {rd:Y Nat}
  (h : vfnT C T fn avs [] (retF ss K) = some res) (hK : ∀x, K x = some res -> x = av) (hf : P.funcs[f]? = some fn := by kernel_rfl) (hb : fn.body.isSome = true := by kernel_rfl) (hn : (fn.name == "runtime.NumGoroutine") = false := by kernel_rfl) (hlf : lfL avs = true := by rfl)
  (hT:Md T (WN (V6 fn))=T.map λe=>(e.r,e.c):=by kernel_rfl) (hn2:Xn (T.map (·.r))=true:=by rfl):ZW P f avs hl ⟨av,[],rd⟩:=
 Q5q hf hb hn hlf (MP hC hf hT hn2 h) hK
theorem QhF {α:Type} {K:AV->Y (Nat×Ob)->oP α} {res:α} {C:VC} (hC:VCOk P C) (T:Y (LpE P)) {f:Nat} {fn:Func}
  {ρ ν:Y (Nat×Nat)} {avs avs':Y AV} {H:Y (Nat×Ob)} {hl:Nat->oP Ob} {dl:Dl}
  (hc:Na hl ρ ν=true) (hin:Qgw hl H ρ)
  (h:vfnT C T fn avs' H K=some res)
  (hK:∀av H',K av H'=some res->U7 (ρ++ν) av=dl.v/\MQ (ρ++ν) H' (ρ++ν)=dl.wr/\QcH H' (ρ++ν)/\QfR H H' ρ)
  (hf : P.funcs[f]? = some fn := by kernel_rfl) (hb : fn.body.isSome = true := by kernel_rfl) (hn : (fn.name == "runtime.NumGoroutine") = false := by kernel_rfl)
  (hav:avs=avs'.map (U7 ρ):=by rfl) (hargs:Cc ρ avs'=true:=by rfl) (h1:Xn ((ρ++ν).map (·.1))=true:=by rfl) (hρ:Xn (ρ.map (·.1))=true:=by rfl) (hkeys:H.map (·.1)=ρ.map (·.1):=by rfl) (hwl:wrL dl=(ρ++ν).map (·.2):=by rfl)
  (hT:Md T (WN (V6 fn))=T.map λe=>(e.r,e.c):=by kernel_rfl) (hn2:Xn (T.map (·.r))=true:=by rfl):ZW P f avs hl dl:=
 AZ hf hb hn hav hargs h1 hρ hc hin hkeys hwl (MP hC hf hT hn2 h) hK
theorem Qje {α:Type} {K:AV->Y (Nat×Ob)->oP α} {res:α} {C:VC} (hC:VCOk P C) (T:Y (LpE P)) {f:Nat} {fn:Func}
  {ρ ν:Y (Nat×Nat)} {avs avs':Y AV} {H:Y (Nat×Ob)} {hl:Nat->oP Ob} {dl:Dl}
  (hav:CLeL ρ avs avs') (hc:Na hl ρ ν=true) (hin:Qgp ρ hl H ρ)
  (h:vfnT C T fn avs' H K=some res)
  (hK:∀av H',K av H'=some res->U7 (ρ++ν) av=dl.v/\MQ (ρ++ν) H' (ρ++ν)=dl.wr/\QcH H' ν/\QgD H H' ρ)
  (hf : P.funcs[f]? = some fn := by kernel_rfl) (hb : fn.body.isSome = true := by kernel_rfl) (hn : (fn.name == "runtime.NumGoroutine") = false := by kernel_rfl)
  (h1:Xn ((ρ++ν).map (·.1))=true:=by rfl) (hρ:Xn (ρ.map (·.1))=true:=by rfl) (hkeys:H.map (·.1)=ρ.map (·.1):=by rfl) (hwl:wrL dl=(ρ++ν).map (·.2):=by rfl)
  (hT:Md T (WN (V6 fn))=T.map λe=>(e.r,e.c):=by kernel_rfl) (hn2:Xn (T.map (·.r))=true:=by rfl):ZW P f avs hl dl:=
 Q1v hf hb hn hav h1 hρ hc hin hkeys hwl (MP hC hf hT hn2 h) hK
theorem lawT{C:VC}(hC:VCOk P C)(T:Y (LpE P)){f:Nat}{fn:Func}(hf:P.funcs[f]? = some fn){ss:Y (Y Nat)}{K:AV->oP Bool}(hK:∀x,K x=some true->x = .d (.bool true)){aa:Y AV}{args:Y Value}{w:World}(hA:ArgsRd (λ_=>none) (SW w) (look ([]:Y (Nat×Ob))) w args aa)(h:vfnT C T fn aa [] (retF ss K)=some true)(hT:Md T (WN (V6 fn))=T.map λe=>(e.r,e.c):=by kernel_rfl)(ac:Xn (T.map (·.r))=true:=by rfl) :
  Calls P f args.toArray w λe w'=>e = .returned (.bool true)/\RowKit.Below w.heap.size w w':=
 Q97 hK hA (MP hC hf hT ac h)
end
end Go.Vx
