/- Part of a proof. No conditions of their own. -/
import Derived.Test.YtekmjonablebcaaGreatTA
import Derived.Lib.AppendZeros
import Derived.LoopN
import Derived.ProofKit
import Derived.ChangeOld
import Derived.Carry
import Derived.ChangeArms
import Derived.WideShapes
import Derived.IntWalk
import Derived.KernelRfl
set_option linter.unusedVariables false
set_option linter.unusedSimpArgs false
noncomputable section
abbrev QpC:=@Nat.eq_of_beq_eq_true
abbrev QpD:=@Bool.and_eq_true
abbrev QpE:=@Option.map_eq_some_iff
abbrev QpF:=@List.getElem?_eq_some_iff
abbrev QpG:=@List.getElem?_eq_getElem
abbrev QpH:=@Go.Result.andThen_ok
abbrev QpI:=@cond_true
abbrev QpJ:=@List.mem_cons
abbrev QpK:=@Bool.not_eq_true'
abbrev QpL:=@Go.Sem.run_bind
abbrev QpM:=@Array.getElem?_eq_some_iff
abbrev QpN:=@List.getElem?_drop
abbrev QpO:=@Nat.zero_add
abbrev QpP:=@Array.getElem?_eq_getElem
abbrev QpQ:=@List.map_cons
abbrev QpR:=@Bool.or_eq_true
abbrev QpS:=@Option.isSome_iff_exists
abbrev QpT:=@cond_false
abbrev QpU:=@Bool.or_eq_false_iff
abbrev QpV:=@if_neg
abbrev QpW:=@List.mem_map
abbrev QpX:=@Array.getElem?_toList
abbrev QpY:=@List.getElem?_eq_none
abbrev QpZ:=@Nat.le_of_ble_eq_true
namespace Go.Vx
variable{hl:Nat->oP Ob} {ev:Operand->AV} {o:Oper} {tt:TT} {x:Operand}
section
variable{P:Program} {E:Env} {R:Type}
theorem Q3F(hT:TOk P tt){c:Call}{s x:Operand}{t tn:Nat}(ho:o.op = .call c)(aw:c.callee = .builtin .append)(ha:c.args.toList=[s,x])(hat:c.argTypes.toList=[t,tn]){g:Bool}{ai:Nat}{k:Dl->oP R}{r:R}(h:Q2h tt hl ai g t tn (ev s) (ev x) k=some r):∃dl,k dl=some r/\(g=true->K3 P E o ev hl dl):=by
 have am:c.args = #[s,x]:=by grind
 have a9:c.argTypes = #[t,tn]:=by grind
 have bq:s∈o.op.operands.toList:=by grind[Op.operands,Call.operands]
 have bl:x∈o.op.operands.toList:=by simp[ho,Op.operands,Call.operands,aw,am]
 unfold Q2h at h;split at h
 case h_2=>cases h
 rename_i e esz kn kx n hk bd bn bz;split at h
 case h_2=>cases h
 rename_i ei an;cases hc:(Nat.ble 1 ei.bytes&&Nat.beq (M0 tt e).length esz)with
 |false=>simp_all
 |true=>
  simp only[hc,QpI]at h;simp only[QpD]at hc;have ao:=QpZ hc.1;have ax:=QpC hc.2;have br:M0 tt e=ei.zd:=by simp[M0,an]
  rw[br]at ax h;obtain⟨_,h,az⟩:=Qz h;obtain⟨_,h,aa⟩:=Qz h;obtain⟨hn,h⟩:=US h;refine⟨_,h,λhg=>?_⟩;have aa:=NW (aa hg);have az:0<n:=by
   have:=az hg;cases hd:decide (0<n)with
   |true=>simpa using hd
   |false=>simp[hd]at this
  obtain⟨ti,bv,bm⟩:=XC hk Q2;obtain⟨hu,b5,inf,ar,a3⟩:=(hT t ti bv).ksl _ _ bm;obtain⟨bo,bc,bb⟩:=XC bd Q2;have b0:=(hT tn bo bc).kint _ bb;obtain⟨b2,ac,a6,bi,z,hz,a8⟩:=(hT e ei an).inf;rw[ar]at ac;injection ac with ac
  subst ac;have ak:z.cells.size=esz:=by rw[<- Array.length_toList,a8,(hT e ei an).zlen,<- a6,a3]
  obtain⟨m,rfl⟩:=Int.eq_ofNat_of_zero_le (Int.le_of_lt az);have bh:0<m:=Q0
  simp only[Int.toNat_natCast]at aa h ⊢;have b6:m<=140737488355328:=Nat.le_trans (by have:=Nat.mul_le_mul_left m ao;omega) aa;intro β S st a w hR hO hA b1 K Q hK;have a4:look st.h ai=none:=by rw[hA ai (.inr (by simp[wrL]))];exact hn
  have bj:Uu st ai=true:=by simpa[Wo,a4]using b1
  have hv:=(bn▸hO.at bq).nil_inv;have hx:=(bz▸hO.at bl).int_inv;have a7:=Lib.run_append_nil_zeros (P:=P) w t tn o.type e inf z kx kn hu b0 ar hz m bh Q0 Q0 (by rw[bi];omega);have ay:(execOp a.eval o).run P w = .ok (.value (.slice (some ⟨w.heap.size,0,none⟩) m (grownCap w m 0 e))) (w.drew.alloc (.cells (Builtin.zeroCells z.cells m++Builtin.zeroCells z.cells (grownCap w m 0 e-m)) e)):=by
   unfold execOp;rw[ho];simp only[resolve,aw,am,a9,invoke,builtin,QpL,Sem.run_pure,QpH,List.map_toArray,QpQ,List.map_nil,hv,hx,a7]
  unfold Oper.wp;rw[ay];refine hK _ _ ?_;have base:UW S w (Builtin.zeroCells z.cells m) z.cells.size (List.replicate m ei.zd):=
   UW.zero (by rw[ax,ak]) (Qes hT an (by rw[ax,<- a6,a3]) a8) (Nat.le_refl _)
  rw[ak]at base;have bp:=grownCap_ge w m 0 e;have bk:grownCap w m 0 e<=maxLen:=grownCap_le_maxLen w m 0 e (by unfold maxLen;omega);have aq:(Builtin.zeroCells z.cells m).toList.length=m*esz:=by rw[Array.length_toList,size_zeroCells,ak]
  have ba:(w.drew.alloc (.cells (Builtin.zeroCells z.cells m++Builtin.zeroCells z.cells (grownCap w m 0 e-m)) e)).ownsRow w.heap.size e esz (.slice (some ⟨w.heap.size,0,none⟩) m (grownCap w m 0 e)) m (Builtin.zeroCells z.cells m).toList:=by
   refine⟨aq,.inr ⟨w.heap.size,_,_,rfl,Nat.le_refl _,heap_alloc_new w.drew _,bp,bk,?_,?_⟩⟩
   ·simp only[Array.size_append,size_zeroCells,ak,<- Nat.add_mul];congr 1;omega
   ·rw[Array.toList_append,<- aq];exact List.take_left
  have:=Ra (w':=w.drew.alloc (.cells (Builtin.zeroCells z.cells m++Builtin.zeroCells z.cells (grownCap w m 0 e-m)) e)) (base:=w.heap.size) (e:=e) (rows:=[]) (news:=List.replicate m ei.zd) (v:=.slice none 0 0) (xs:=[]) (vals:=(Builtin.zeroCells z.cells m).toList) (v':=.slice (some ⟨w.heap.size,0,none⟩) m (grownCap w m 0 e)) hR
   (λi j r x h1 h2=>by rw[QpX];exact base.2.2 i j r x h1 h2) (λi r h1=>base.2.1 i r h1) a4 bj none (λ_ h=>by cases h) (λb h=>by simp[Value.ownBlock]at h) (λi j r y h1=>by simp at h1) (λi r h1=>by simp at h1) Q2
   (by simpa using ba) ⟨rfl,rfl,rfl,by simp,λk hk _=>heap_alloc_old w.drew _ k hk⟩ (.inr λb hb=>by simp[Value.ownBlock]at hb;omega)
  exact this
theorem Qce(hT:TOk P tt){t l:Nat}{lo hi:oP Operand}(ho:o.op = .slice t x lo hi none){u g:Bool}{aa:Nat}(bn:ev x = .arr l){k:Dl->oP R}{r:R}(h:Qj6 tt hl aa u t l (M3 ev lo) (M3 ev hi) k=some r):∃dl,k dl=some r/\(g=true->K3 P E o ev hl dl):=by
 obtain⟨bi,aw,ay⟩:=Q3J ho;unfold Qj6 at h;split at h
 case h_2=>cases h
 rename_i e esz h0 hk bb bc;cases an:(u&&decide (h0=0))with
 |false=>simp_all
 |true=>
  simp only[an,QpI]at h;simp only[QpD,decide_eq_true_eq]at an;obtain⟨_,rfl⟩:=an;split at h
  case h_2=>cases h
  rename_i e' s' rows ar;cases hb:(Nat.beq e e'&&Nat.beq esz s')with
  |false=>simp_all
  |true=>
   simp only[hb,QpI]at h;simp only[QpD]at hb;obtain rfl:=QpC hb.1;obtain rfl:=QpC hb.2;obtain⟨hn,h⟩:=US h;refine⟨_,h,λ_=>?_⟩;intro β S st a w hR hO hA a8 K Q hK;obtain⟨ti,bm,bj⟩:=XC hk Q2;obtain⟨hu,bo,inf,a4,ba⟩:=(hT t ti bm).ksl _ _ bj;have ax:look st.h aa=none:=by rw[hA aa (.inr (by simp[wrL]))];exact hn
   have ac:look st.h l=some (.arr e esz rows):=by rw[hA l (.inl Q2)];exact ar
   have bh:Uu st aa=true:=by simp[Wo,ax]at a8;exact a8
   have hq:slB rows.length none (some 0)=some (0,0):=by simp[slB]
   have ak:∀(ad:oP Addr) (cap:Nat),rows.length<=cap->a.eval x = .slice ad rows.length cap->(execOp a.eval o).run P w = .ok (.value (.slice (if cap=0 then ad else ad.map (·.add (0*esz))) 0 cap)) w:=by
    intro ad cap hc hx;have hb:=My (P:=P) true hc (ρ:=a.eval) (w:=w) hq (VL bb λy hy=>hO.at (aw y hy)) (VL bc λy hy=>hO.at (ay y hy));unfold execOp;rw[ho];simp only[hx,QpL,Instr.sliceAt,X6 hu,QpH,Option.map_none];simp only[Instr.slice,QpL,X6 hu,QpH,hb,sizeOf,Yy a4,ba];rfl
   have ai:Src S w esz (.slice none 0 0) [] []:=⟨.inl ⟨rfl,rfl⟩,by simp,by simp,by simp,by simp⟩;have fin:∀(base:Nat) (v v':Value),(execOp a.eval o).run P w = .ok (.value v') w->w.ownsRow base e esz v' 0 []->(∀b,v.ownBlock=some b->β l=some b)->v'.ownBlock=v.ownBlock->o.wp P a w K Q:=by
    intro base v v' hr a5 a3 hat;unfold Oper.wp;rw[hr];refine hK _ _ ?_;exact Ra (rows:=[]) (news:=[]) (v:=v) (xs:=[]) (vals:=[]) hR ai.rd ai.row ax bh (some l) (λl' h=>by injection h with h;subst h;simp[ac]) (λb h=>⟨l,rfl,a3 b h⟩) (λi j r y h1=>by simp at h1) (λi r h1=>by simp at h1) Q2 a5 (World.grownBy.refl _ _) (.inl hat)
   rcases RdA.arr_inv ac (bn▸hO.at bi)with⟨_,bk,hv⟩|⟨b,cap,cs,ty,fz,ao,hv,hw,a2,aq,a6⟩
   ·subst bk;exact fin w.heap.size (.slice none 0 0) (.slice none 0 0) (ak none 0 (Nat.le_refl _) hv) (World.ownsRow_nil w w.heap.size e esz) (λb h=>by simp[Value.ownBlock]at h) rfl
   ·rcases hR.hr.ob l _ ac with⟨a7,_⟩|⟨b2,bl,az,am,bp,bv,b0⟩
    ·rw[ao]at a7;cases a7
    obtain rfl:b=b2:=by rw[ao]at az;injection az
    obtain rfl:cs=bl:=by rw[hw]at am;injection am with h1;injection h1
    refine fin 0 (.slice (some ⟨b,0,none⟩) rows.length cap) (.slice (some ⟨b,0,none⟩) 0 cap) ?_ ⟨by simp,.inr ⟨b,cap,cs,rfl,Nat.zero_le _,am,Nat.zero_le _,a6,a2,by simp⟩⟩ (λb3 h=>by simp[Value.ownBlock]at h;subst h;exact ao) rfl;have:=ak (some ⟨b,0,none⟩) cap aq hv;have e0:(if cap=0 then some (⟨b,0,none⟩:Addr)else(some (⟨b,0,none⟩:Addr)).map (·.add (0*esz)))=some ⟨b,0,none⟩:=by
     split
     ·rfl
     ·simp[Addr.add]
    rw[e0]at this;exact this
theorem Qcf(hT:TOk P tt){c:Call}{t:Nat}(ho:o.op = .call c)(hc:c.callee = .builtin .len)(ha:c.args.toList=[x])(hat:c.argTypes.toList=[t]){n:Int}{rd:List Nat}(h:QiR tt hl t (ev x)=some (n,rd)):K3 P E o ev hl ⟨.d (.int .i64 n),[],rd⟩:=by
 have ac:x∈o.op.operands.toList:=by grind[Op.operands,Call.operands]
 unfold QiR at h;split at h
 ·rename_i e esz hk;split at h
  ·rename_i s rows aa;cases h;refine QE λβ S st a w hR hO hA=>?_
   obtain⟨ad,cap,hx⟩:=(aa▸hO.at ac).d_inv.len;exact⟨_,T0 hT ho hc ha hat hk hx,.d _ _ (.int _ _)⟩
  ·rename_i aa;cases h;refine QE λβ S st a w hR hO hA=>?_
   have hx:=(aa▸hO.at ac).nil_inv;exact⟨_,T0 hT ho hc ha hat hk hx,.d _ _ (.int _ _)⟩
  ·rename_i l aa;split at h
   ·rename_i e' s rows am;cases h;refine QE λβ S st a w hR hO hA=>?_
    have an:look st.h l=some (.arr e' s rows):=by rw[hA l (.inl Q2)];exact am
    rcases RdA.arr_inv an (aa▸hO.at ac)with⟨_,rfl,hx⟩|⟨b,cap,cs,ty,fz,_,hx,_⟩
    ·exact⟨_,T0 hT ho hc ha hat hk hx,.d _ _ (.int _ _)⟩
    ·exact⟨_,T0 hT ho hc ha hat hk hx,.d _ _ (.int _ _)⟩
   ·cases h
  ·cases h
 ·rename_i hk;split at h
  ·rename_i s aa;cases h;refine QE λβ S st a w hR hO hA=>?_
   have hx:=(aa▸hO.at ac).d_inv;generalize hy:a.eval x=y at hx;cases hx with
   |str s'=>
    refine⟨_,Q5N hT ho hc ha hat hk hy,?_⟩;have:s'.data.toList.length=s'.size:=by rfl
    rw[this];exact .d _ _ (.int _ _)
  ·cases h
 ·cases h
theorem Q1f{ρ:Operand->Value}{ev:Operand->AV}{β:Nat->oP Nat}{S:Nat->Prop}{h:Nat->oP Ob}{w:World}{tm:Nat->Value}(isMin:Bool) :
  ∀(r:List Operand) (av v:AV) (u:Value),RdA β S h w tm u av->(∀x∈r,RdA β S h w tm (ρ x) (ev x))->Bp isMin av (r.map ev)=some v ->
   ∃u',((r.map ρ).foldlM (if isMin then Builtin.min2 else Builtin.max2) u:Sem Value).run P w = .ok u' w/\RdA β S h w tm u' v
 |[],av,v,u,hu,_,hm=>by
  simp_all [Bp]
 |x::r,av,v,u,hu,hr,hm=>by
  unfold Bp at hm;split at hm
  ·simp_all
  ·rename_i k a k' b r' ac;injection ac with h1 h2
   cases hk:(k == k')with
   |false=>simp_all
   |true=>
    simp only[hk,QpI]at hm;have ai:=(h1▸hr x Q2).int_inv;have ak:=hu.int_inv;subst h2;obtain⟨u',g1,g2⟩:=Q1f isMin r _ v (.int k (bif isMin then(if b<a then b else a)else(if a<b then b else a))) (.d _ _ (.int _ _)) (λy hy=>hr y (by simp[hy])) hm;refine⟨u',?_,g2⟩;simp only[QpQ,List.foldlM_cons,QpL,ak,ai];cases isMin with
    |true=>assumption
    |false=>assumption
  ·cases hm
theorem AS{c:Call}{r:List Operand}{isMin:Bool}(ho:o.op = .call c)(hc:c.callee = .builtin (if isMin then .min else .max))(ha:c.args.toList=x::r){v:AV}(h:Bp isMin (ev x) (r.map ev)=some v):K3 P E o ev hl ⟨v,[],[]⟩:=by
 have aa:∀y,y∈c.args.toList->y∈o.op.operands.toList:=by
  grind[Op.operands,Call.operands]
 refine QE λβ S st a w hR hO hA=>?_
 obtain⟨u,g1,g2⟩:=Q1f (P:=P) (ρ:=a.eval) isMin r (ev x) v (a.eval x) (hO.at (aa x (by simp[ha]))) (λy hy=>hO.at (aa y (by simp[ha,hy]))) h;refine⟨u,?_,g2⟩;have ac:(c.args.map a.eval).toList=a.eval x::r.map a.eval:=by simp_all
 unfold execOp;rw[ho];cases isMin with
 |true=>
  simp_all [if_true,resolve,invoke,builtin,Builtin.min_,QpL,Sem.run_pure,QpH]
 |false=>
  simp only[Bool.false_eq_true,if_false]at hc g1;simp only[resolve,hc,invoke,builtin,Builtin.max_,QpL,Sem.run_pure,QpH,ac,g1]
theorem Q1P{f:Nat}{first aa:Array Operand}(ho:o.op = .makeFunc (.func f) first aa)(hf:first.toList=[]):K3 P E o ev hl ⟨.fn f (aa.toList.map ev),[],[]⟩:=by
 refine QE λβ S st a w hR hO hA=>⟨.func (.func f) #[] (aa.map a.eval),?_,.fn f _ _ Q2 λi x hx=>?_⟩
 ·simp_all [Array.ext',execOp,Instr.makeFunc]
 ·simp only[List.getElem?_map,QpE]at hx;obtain⟨y,hy,rfl⟩:=hx;have ac:y∈o.op.operands.toList:=by
   grind[List.mem_of_getElem?,Op.operands]
  have hg:(aa.map a.eval).getD i undef=a.eval y:=by
   simp_all
  rw[hg];exact hO.at ac
theorem Eo{spec:Q5T}(hS:BO P spec)(hT:TOk P tt){ax:Nat}{g u:Bool}{k:Dl->oP R}{r:R}(h:vdl spec tt ax g u ev hl o.op k=some r):∃dl,k dl=some r/\(g=true->K3 P E o ev hl dl):=by
 cases ho:o.op with
 |move x=>grind[vdl,Q4f]
 |assign x=>rw[ho]at h;simp only[vdl]at h;exact⟨_,h,λ_=>Q4f (.inr ho)⟩
 |pick c x y=>
  rw[ho]at h;simp only[vdl]at h
  grind[Q8W]
 |alloc t=>
  rw[ho]at h;simp only[vdl]at h;split at h
  ·rename_i ti am;cases u with
   |false=>simp at h
   |true=>
    simp only[QpI]at h;split at h
    ·rename_i e esz n hk;cases hb:Nat.beq ti.zd.length (n*esz)with
     |false=>simp_all
     |true=>
      simp only[hb,QpI]at h;obtain⟨hn,h⟩:=US h
      grind[Q5A,Nat.eq_of_beq_eq_true]
    ·obtain⟨hn,h⟩:=US h;exact⟨_,h,λ_=>Q8B hT ho am hn⟩
  ·cases h
 |box t x=>
  rw[ho]at h;simp only[vdl]at h;split at h
  ·rename_i ti am;cases hc:(u&&(Nat.beq (Y0 (ev x)).length ti.size&&(Y0 (ev x)).all Q3i))with
   |false=>simp[hc]at h
   |true=>
    simp only[hc,QpI]at h;simp only[QpD]at hc;obtain⟨hn,h⟩:=US h;exact⟨_,h,λ_=>QbD ho hc.2.2 hn⟩
  ·cases h
 |build t aq=>
  rw[ho]at h;simp only[vdl]at h;split at h
  ·rename_i ti am;cases hs:UV ti.kd with
   |false=>simp[hs]at h
   |true=>
    simp only[hs,QpI]at h;split at h
    ·rename_i cs a4;exact⟨_,h,λ_=>Q8j hT ho am hs a4⟩
    ·cases h
  ·cases h
 |buildSlice t len aq=>
  rw[ho]at h;simp only[vdl]at h;obtain⟨dl,h1,h2⟩:=Q5H hT ho h;exact⟨dl,h1,λ_=>h2⟩
 |load t x=>rw[ho]at h;simp only[vdl]at h;exact Q99 hT ho h
 |store t x y=>
  rw[ho]at h;simp only[vdl]at h;cases u with
  |false=>simp at h
  |true=>
   simp only[QpI]at h;split at h
   ·rename_i e esz n l hk ai;obtain⟨dl,h1,h2⟩:=Q5I hT ho hk ai h;exact⟨dl,h1,λ_=>h2⟩
   ·obtain⟨dl,h1,h2⟩:=Q8d hT ho h;exact⟨dl,h1,λ_=>h2⟩
 |nilCheck x=>
  rw[ho]at h;simp only[vdl]at h;split at h
  ·rename_i l o' hv;exact⟨_,h,λ_=>EN ho hv⟩
  ·rename_i l o' hv;exact⟨_,h,λ_=>Cu ho hv⟩
  ·rename_i l i o' hv;split at h
   ·rename_i ob a3;exact⟨_,h,λ_=>CO ho (by simp[a3]) hv⟩
   ·cases h
  ·cases h
 |binOp op t x y t'=>rw[ho]at h;simp only[vdl]at h;exact QbG hT ho h
 |unOp op t x=>
  rw[ho]at h;simp only[vdl]at h;split at h
  ·rename_i v hv;exact⟨_,h,λ_=>Qf8 ho hv⟩
  ·cases h
 |convert s t x=>
  rw[ho]at h;simp only[vdl]at h;split at h
  ·rename_i ks kd h1 h2;split at h
   ·rename_i kn n h3;exact⟨_,h,λ_=>Q5d hT ho h1 h2 h3⟩
   ·cases h
  ·rename_i e h1 h2;split at h
   ·rename_i h3;split at h
    ·rename_i rows rd h4;exact Q7Y hT ho h1 h2 h3 h4 h
    ·cases h
   ·cases h
  ·rename_i h1 h2;split at h
   ·rename_i n h3;exact⟨_,h,λ_=>Q2P hT ho h1 h2 h3⟩
   ·cases h
  ·rename_i e h1 h2;split at h
   ·rename_i h3;split at h
    ·rename_i n h4;exact⟨_,h,λ_=>Q1T hT ho h1 h2 h3 h4⟩
    ·cases h
   ·cases h
  ·cases h
 |lookup t m x c=>
  rw[ho]at h;cases c with
  |true=>simp[vdl]at h
  |false=>
   simp only[vdl]at h;split at h
   ·rename_i f n ht hm hx;exact⟨_,h,λ_=>Q6l hT ho ht hm hx⟩
   ·rename_i l n ht hm hx;split at h
    ·rename_i t' f an;exact⟨_,h,λ_=>Q59 hT ho ht hm hx an⟩
    ·cases h
   ·cases h
 |makeMap t q=>
  rw[ho]at h;cases q with
  |some q=>simp[vdl]at h
  |none=>
   simp only[vdl]at h;split at h
   ·cases u with
    |false=>simp at h
    |true=>
     simp only[QpI]at h;obtain⟨hn,h⟩:=US h;exact⟨_,h,λ_=>Q4A ho hn⟩
   ·cases h
 |mapUpdate t m x v=>
  rw[ho]at h;simp only[vdl]at h;split at h
  ·rename_i l n b ht hm hx hv;split at h
   ·rename_i t' f an;cases u with
    |false=>simp at h
    |true=>
     simp only[QpI]at h;exact⟨_,h,λ_=>Q0Q hT ho ht hm hx hv an⟩
   ·cases h
  ·cases h
 |makeFunc f first ac=>
  rw[ho]at h;cases f with
  |func f=>
   simp only[vdl]at h;split at h
   ·rename_i ak;cases hc:Jq (ac.toList.map ev)with
    |false=>simp[hc]at h
    |true=>
     simp only[hc,QpI]at h;exact⟨_,h,λ_=>Q1P ho ak⟩
   ·cases h
  |_=>simp[vdl]at h
 |makeSlice t l c=>
  rw[ho]at h;simp only[vdl]at h;obtain⟨dl,h1,h2⟩:=Qak hT ho h;exact⟨dl,h1,λ_=>h2⟩
 |fieldAddr t x f=>
  rw[ho]at h;simp only[vdl]at h;obtain⟨dl,h1,h2⟩:=Q0m hT ho h;exact⟨dl,h1,λ_=>h2⟩
 |field t x f=>rw[ho]at h;simp only[vdl]at h;exact Q8g hT ho h
 |indexAddr t x i=>
  rw[ho]at h;simp only[vdl]at h;split at h
  ·rename_i e esz n l hk ai;exact BT hT ho hk ai h
  ·exact Q0o hT ho h
 |index t x i=>rw[ho]at h;simp only[vdl]at h;exact Q8A hT ho h
 |slice t x lo hi mx=>
  rw[ho]at h;cases mx with
  |none=>
   simp only[vdl]at h;split at h
   ·rename_i l ai;exact Qce hT ho ai h
   ·exact Q8z hT ho h
  |some mx=>simp only[vdl]at h;exact Q6c hT ho h
 |extract x i=>
  rw[ho]at h;simp only[vdl]at h;split at h
  ·rename_i l hx;split at h
   ·rename_i v hv;exact⟨_,h,λ_=>Q4c ho hx hv⟩
   ·cases h
  ·cases h
 |call c=>
  rw[ho]at h;simp only[vdl]at h;split at h
  ·rename_i f hc;exact Q4w hS (Q7Q ho hc) h
  ·rename_i t hc;split at h
   ·rename_i f cap ar;exact Q4w hS (Q8w ho hc ar) h
   ·cases h
  ·rename_i hc;split at h
   ·rename_i x t ha hat;split at h
    ·rename_i n rd hn;exact⟨_,h,λ_=>Qcf hT ho hc ha hat hn⟩
    ·cases h
   ·cases h
  ·rename_i hc;split at h
   ·rename_i x t ha hat;split at h
    ·rename_i e esz hk ar;refine⟨_,h,λ_=>QE λβ S st a w hR hO hA=>?_⟩;have ao:c.args = #[x]:=by rw[<- Array.toList_inj];simpa using ha
     have az:x∈o.op.operands.toList:=by simp[ho,Op.operands,Call.operands,hc,ao]
     exact⟨_,Q5X hT ho hc ha hat hk (ar▸hO.at az).nil_inv,.d _ _ (.int _ _)⟩
    ·cases h
   ·cases h
  ·rename_i hc;split at h
   ·rename_i s x t t' ha hat;cases hb:Nat.beq t t' with
    |false=>simp only[hb,QpT]at h;exact Q3F hT ho hc ha hat h
    |true=>
     simp only[hb,QpI]at h;obtain rfl:=QpC hb;exact Q69 hT ho hc ha hat h
   ·cases h
  ·rename_i hc;split at h
   ·rename_i x r' ha;split at h
    ·rename_i v hv;exact⟨_,h,λ_=>AS (isMin:=true) ho hc ha hv⟩
    ·cases h
   ·cases h
  ·rename_i hc;split at h
   ·rename_i x r' ha;split at h
    ·rename_i v hv;exact⟨_,h,λ_=>AS (isMin:=false) ho hc ha hv⟩
    ·cases h
   ·cases h
  ·cases h
 |_=>rw[ho]at h;simp[vdl]at h
end
end Go.Vx
namespace Go.Vx
variable{hl:Nat->oP Ob} {β:Nat->oP Nat} {S:Nat->Prop} {o:Oper} {st:St} {a:Act}
section
variable{P:Program} {E:Env} {R:Type}
theorem QdC{d t:Nat}{tm:List (Nat×AV)}{av:AV}(h:look tm t=some av)(hn:QaL d tm=false):gds d av=false:=by
 induction tm with
 |nil=>trivial
 |cons x r ih=>
  grind[QaL,Bool.or_eq_false_iff,look,Nat.beq]
theorem Aj{d:Nat}{v:Value}(hd:d<a.tmps.size)(t:Nat):tmv (a.put (some d) v) t=if t=d then v else tmv a t:=by
 unfold tmv Act.put;by_cases h:t<a.tmps.size
 ·by_cases e:t=d
  all_goals simp_all [QpV,Ne.symm]
 grind
theorem Bs{w':World}{dl:Dl}{v:Value}{dst:oP Nat}(ho:Q3A st dl.v dst=true)(h:Out E st a dl v w'):JB E (put st dst dl) (a.put dst v) w':=by
 obtain⟨β,S,hR,hv⟩:=h;cases dst with
 |none=>exact⟨β,S,hR.n,hR.dfr,hR.tm,hR.hr⟩
 |some d=>
  simp only[Q3A,QpD,QpK]at ho;obtain⟨h1,h2,h3⟩:=ho;have hd:d<a.tmps.size:=by have:=QpZ h1;have:=hR.n;grind
  refine⟨β,S,?_,hR.dfr,λt av ht=>?_,hR.hr⟩
  ·show(a.tmps.setIfInBounds d v).size=st.n;simpa using hR.n
  ·simp only[put,Xd]at ht;have ac:∀(u:Value) (av:AV),gds d av=false->RdA β S (look (MA st.h dl.wr)) w' (tmv a) u av->RdA β S (look (put st (some d) dl).h) w' (tmv (a.put (some d) v)) u av:=by
    intro u av hg hr;refine hr.mono (λ_ h=>h) (λ_ _=>rfl) (λ_ _=>Keep.rfl_ ..) (λt' ai=>?_);rw[Aj hd,QpV (λe=>by simp_all)]
   rw[Aj hd];by_cases e:t=d
   ·simp_all
   ·rw[QpV e]at ht ⊢;exact ac _ _ (QdC ht h3) (hR.tm t av ht)
theorem Q4X{w:World}(hR:Rel E β S st a w)(x:Operand):RdA β S (look st.h) w (tmv a) (a.eval x) (evO st.tm x):=by
 cases x with
 |tmp t=>
  simp only[evO,lkT];cases h:look st.tm t with
  |none=>exact .top _
  |some av=>exact hR.tm t av h
 |const v=>exact Ae v
 |global g=>exact .top _
 |func f=>exact .fn f #[] [] rfl (λi x h=>by simp at h)
theorem R2{tm:List (Nat×AV)}{s:Nat}{av:AV}(h:lkT tm s=av)(hn:av≠.top):look tm s=some av:=by
 unfold lkT at h;cases hl:look tm s with
 |none=>simp_all
 |some b=>simp_all
theorem QaN{e w:Bool}:bw e w=true↔e=w:=by cases e<;>cases w<;>simp[bw]
theorem Q3u{β:Nat->oP Nat}{S:Nat->Prop}{st:St}{a:Act}{w:World}(hR:Rel E β S st a w):∀(f s:Nat) (b g:Bool) (ch:List (Nat×Bool)),ctx st.tm f s b=some (g,ch) ->
  (g=true↔tmv a s = .bool b)/\(g=true->∀p∈ch,tmv a p.1 = .bool p.2)
 |0,s,b,g,ch,h=>by trivial
 |f+1,s,b,g,ch,h=>by
  unfold ctx at h;split at h
  ·rename_i e he;have hv:=(hR.tm s _ (R2 he Q2)).bool_inv
   grind[bw,tmv,bool,QaN]
  ·rename_i s' w' e he;split at h
   ·rename_i g' l hc;obtain⟨h1,h2⟩:=Q3u hR f s' w' g' l hc;have hv:=(hR.tm s _ (R2 he Q2)).gd_inv;have h3:(g'=true/\bw e b=true)↔tmv a s = .bool b:=by
     rcases hv with⟨h4,h5⟩|⟨h4,h5⟩
     ·rw[h5.bool_inv,QaN,h1];simp[h4]
     ·rw[h5,h1];constructor
      ·simp_all
      ·intro h;cases h
    grind
   ·cases h
  ·cases h
theorem Q4C{tm tm':List (Nat×AV)}:∀(f s:Nat) (b g:Bool) (ch:List (Nat×Bool)),ctx tm f s b=some (g,ch)->(∀p∈ch,lkT tm' p.1=lkT tm p.1)->ctx tm' f s b=some (g,ch)
 |0,s,b,g,ch,h,_=>by assumption
 |f+1,s,b,g,ch,h,hc=>by
  have hs:(s,b)∈ch:=by
   grind[ctx]
  have hl:=hc (s,b) hs;unfold ctx at h ⊢;split at h
  ·simp_all
  ·rename_i s' w' e he;split at h
   ·rename_i g' l aa;obtain⟨rfl,rfl⟩:=h;have:=Q4C f s' w' g' l aa (λp hp=>hc p (by simp[hp]))
    simp_all
   ·cases h
  ·cases h
theorem Q7b{s:Nat}{b:Bool}:∀{l:List (Nat×Bool)},QeL l s b=true->(s,b)∈l
 |(x,y)::r,h=>by
  simp only[QeL,QpR,QpD]at h;rcases h with⟨h1,h2⟩ | h
  ·simp_all
  ·simp[Q7b h]
theorem Qgl{h:Nat->oP Ob}{w:World}{tm:Nat->Value}{v:Value}{av:AV}{ch:List (Nat×Bool)}(hc:∀p∈ch,tm p.1 = .bool p.2)(hv:RdA β S h w tm v av):RdA β S h w tm v (unw ch av):=by
 cases av with
 |gd s b av=>
  simp only[unw];cases hg:QeL ch s b with
  |false=>simp_all
  |true=>
   rcases hv.gd_inv with⟨_,h⟩|⟨h,_⟩
   ·exact h
   ·exact absurd (hc _ (Q7b hg)) h
 |_=>exact hv
theorem Q9D{l:Nat}{ch:List (Nat×Bool)}{av:AV}(h:Yr l av=false):Yr l (unw ch av)=false:=by
 cases av with
 |gd s b av=>
  grind[unw,QeL,Yr]
 |_=>exact h
def DU(P:Program)(E:Env)(ops:Array Oper)(i:Nat)(rc:Rec)(lk:Nat->AV)(hl:Nat->oP Ob):Prop:=
 ∀st a w,JB E st a w->(∀t,t∈rc.rt->lkT st.tm t=lk t)->(∀l,l∈rc.dl.rd\/l∈wrL rc.dl->look st.h l=hl l)->Q3A st rc.dl.v rc.dst=true->Wo st rc.dl.wr=true ->
  ∀Q:Exit->Act->World->Prop,wpOp P ops Q i (λa' w'=>JB E (put st rc.dst rc.dl) a' w') a w
def Q4u(st:St)(rc:Rec):Prop:=Q3A st rc.dl.v rc.dst=true/\Wo st rc.dl.wr=true
theorem Q12{t:Nat}:∀{l:List Operand},Operand.tmp t∈l->t∈PX l
 |x::r,h=>by
  rcases QpJ.1 h with rfl | h
  ·simp[PX]
  ·have:=Q12 h;cases x<;>simp[PX,this]
theorem Q2s{tm tm':List (Nat×AV)}{ch:List Nat}(h:∀t,t∈PX o.op.operands.toList++ch->lkT tm' t=lkT tm t){x:Operand}(hx:x∈o.op.operands.toList):evO tm' x=evO tm x:=by
 cases x with
 |tmp t=>exact h t (by simp[Q12 hx])
 |_=>rfl
theorem Q0Y{ops:Array Oper}{i:Nat}(hi:ops[i]? = some o)(hg:o.guard=none){tm:List (Nat×AV)}{dl:Dl}(aa:K3 P E o (evO tm) hl dl) :
  DU P E ops i ⟨PX o.op.operands.toList++[],o.dst,dl⟩ (lkT tm) hl:=by
 intro st a w ⟨β,S,hR⟩ hlk hA hd hcw Q;unfold wpOp;simp only[hi,Region.wanted,hg,if_true];left;refine aa β S st a w hR (λx hx=>?_) hA hcw _ _ λv w' ac=>Bs hd ac
 rw[<- Q2s hlk hx]
 grind[Q4X,Q1z]
theorem LN{ops:Array Oper}{j s:Nat}{b:Bool}(hs:(ops[j]?).bind (·.dst)=some s):(yielded ops a.tmps j == some b)=true↔tmv a s = .bool b:=by
 unfold yielded tmv;rw[hs];simp only[Option.bind_some,Array.getD];by_cases h:s<a.tmps.size
 ·simp only[h,dite_true,QpP h];cases hv:a.tmps[s]<;>simp[hv]
 ·simp only[h,dite_false];constructor
  ·simp_all
  ·intro h;cases h
theorem Qf7{R:Type}{c:Bool}{x:oP R}{r:R}(h:(bif c then x else none)=some r):c=true/\x=some r:=by
 grind
theorem Qic{g:Bool}{x y z:D}(h:jD g x y=some z):z=bif g then x else y:=by
 unfold jD at h
 grind[Nat.eq_of_beq_eq_true]
theorem QiY{g:Bool}{x y z:AV}(h:jA g x y=some z):z=bif g then x else y:=by
 unfold jA at h;split at h
 ·grind[Qic]
 ·simp_all
 ·replace h:=Qf7 h
  obtain⟨hk,h⟩:=h
  simp_all
 ·cases h
theorem Qee{g:Bool}:∀{x y z:List AV},jL g x y=some z->z=bif g then x else y
 |[],[],z,h=>by simp only[jL,Option.some.injEq]at h;subst h;cases g<;>rfl
 |[],_::_,z,h=>by simp[jL]at h
 |_::_,[],z,h=>by simp[jL]at h
 |a::r,b::s,z,h=>by
  simp only[jL]at h;split at h
  ·rename_i c hc;split at h
   ·rename_i t ht;injection h with h
    subst h;rw[QiY hc,Qee ht];cases g<;>rfl
   ·cases h
  ·cases h
theorem Q1G{hl:Nat->oP Ob}:∀{wr aa:List (Nat×oP Ob)},jW true hl wr=some aa->aa=wr
 |[],_,h=>by simp only[jW,Option.some.injEq]at h;exact h.symm
 |(l,some (.box new))::r,aa,h=>by
  simp only[jW]at h;split at h
  ·split at h
   ·rename_i c hc;split at h
    ·rename_i t ht;injection h with h
     subst h;rw[Qee hc,Q1G ht];rfl
    ·cases h
   ·cases h
  ·cases h
 |(l,some (.arr e s rows))::r,aa,h=>by
  simp only[jW]at h;split at h
  ·split at h
   ·rename_i t ht;injection h with h
    subst h;rw[Q1G ht];rfl
   ·cases h
  ·cases h
 |(l,none)::r,aa,h=>by
  simp only[jW]at h;split at h
  ·rename_i t ht;injection h with h
   subst h;rw[Q1G ht]
  ·cases h
def Qiv(hl:Nat->oP Ob)(l:Nat)(o:oP Ob):Prop:=o=hl l\/o=none\/(hl l=none/\∃e s,o=some (.arr e s []))
theorem Bk{hl:Nat->oP Ob}:∀{wr aa:List (Nat×oP Ob)},jW false hl wr=some aa->∀p,p∈aa->Qiv hl p.1 p.2
 |[],_,h,p,hp=>by simp only[jW,Option.some.injEq]at h;subst h;cases hp
 |(l,some (.box new))::r,aa,h,p,hp=>by
  simp only[jW]at h;split at h
  ·rename_i old ho;split at h
   ·rename_i c hc;split at h
    ·rename_i t ht;injection h with h
     subst h;rcases QpJ.1 hp with rfl | hp
     ·rw[Qee hc];exact .inl ho.symm
     ·exact Bk ht p hp
    ·cases h
   ·cases h
  ·cases h
 |(l,some (.arr e s rows))::r,aa,h,p,hp=>by
  simp only[jW]at h;split at h
  ·rename_i hn;split at h
   ·rename_i t ht;injection h with h
    subst h;rcases QpJ.1 hp with rfl | hp
    ·exact .inr (.inr ⟨hn,e,s,rfl⟩)
    ·exact Bk ht p hp
   ·cases h
  ·cases h
 |(l,none)::r,aa,h,p,hp=>by
  simp only[jW]at h;split at h
  ·rename_i t ht;injection h with h
   subst h;rcases QpJ.1 hp with rfl | hp
   ·exact .inr (.inl rfl)
   ·exact Bk ht p hp
  ·cases h
theorem Q1i{Q:Nat->oP Ob->Prop}:∀{wr:List (Nat×oP Ob)} {f:Nat->oP Ob} {l:Nat},(∀p,p∈wr->Q p.1 p.2)->l∈wr.map (·.1)->Q l (KQ f wr l)
 |(k,o)::r,f,l,h,hl=>by
  by_cases hr:l∈r.map (·.1)
  ·exact Q1i (wr:=r) (λp hp=>h p (by simp[hp])) hr
  simp_all [KQ,UM]
theorem Q4S{st:St}{l:Nat}{o:Ob}:∀{wr:List (Nat×oP Ob)},Wo st wr=true->(l,some o)∈wr->look st.h l=none->Uu st l=true
 |(k,o')::r,h,hm,hn=>by
  simp only[Wo,QpD]at h;rcases QpJ.1 hm with he | hm
  ·injection he with h1 h2
   subst h1 h2;have:=h.1;rw[hn]at this;exact this
  ·exact Q4S h.2 hm hn
theorem E4:∀{wr:List (Nat×oP Ob)} {f:Nat->oP Ob} {l:Nat} {o:Ob},l∈wr.map (·.1)->KQ f wr l=some o->(l,some o)∈wr
 |(k,o')::r,f,l,o,hl,h=>by
  by_cases hr:l∈r.map (·.1)
  ·exact List.mem_cons_of_mem _ (E4 (wr:=r) hr h)
  simp_all [KQ,UM]
theorem Qcn{w:World}(hR:Rel E β S st a w){wr:List (Nat×oP Ob)}(hw:∀p,p∈wr->Qiv (look st.h) p.1 p.2)(hc:Wo st wr=true) :
  ∃β',Rel E β' S ⟨st.n,st.tm,MA st.h wr⟩ a w:=by
 have ac:look (MA st.h wr)=KQ (look st.h) wr:=Hc wr st.h;have ai:∀l,KQ (look st.h) wr l=look st.h l\/(KQ (look st.h) wr l=none/\l∈wr.map (·.1))\/(look st.h l=none/\l∈wr.map (·.1)/\∃e s,KQ (look st.h) wr l=some (.arr e s [])):=by
  intro l;by_cases hl:l∈wr.map (·.1)
  ·rcases Q1i (f:=look st.h) hw hl with h | h | ⟨h1,h2⟩
   all_goals grind
  grind[UM]
 let β':Nat->oP Nat:=λl=>if look st.h l=none/\(KQ (look st.h) wr l).isSome=true then none else β l
 have hβ:∀l,(KQ (look st.h) wr l=look st.h l)->β' l=β l:=by
  grind
 have aa:∀l b,(look (MA st.h wr) l).isSome=true->β' l=some b->(look st.h l).isSome=true/\β l=some b:=by
  intro l b h1 h2;rw[ac]at h1
  grind
 refine⟨β',hR.upd (H':=MA st.h wr) (w':=w) (S':=S) (β':=β') (λ_ h=>h) (λ_ _=>rfl) (λl=>¬ KQ (look st.h) wr l=look st.h l) (λl hl=>?_) (λl hl=>?_) (λl o hl ho=>?_) ?_ ?_ ?_ hR.hr.sb hR.hr.sfr hR.hr.fr⟩
 ·simp_all
 ·rcases ai l with h | ⟨h,hm⟩|⟨h1,hm,e,s,h2⟩
  ·simp_all
  ·left;refine⟨?_,λ_=>by simp_all,λe s rows _=>.inl (by rw[ac];exact h),λb cs ty fz hs=>(by rw[ac,h]at hs;cases hs),λ_ _ _=>.inl (by rw[ac];exact h)⟩
   grind
  grind[Q4S,E4]
 ·rcases ai l with h | ⟨h,hm⟩|⟨h1,hm,e,s,h2⟩
  ·exact absurd h hl
  ·rw[ac,h]at ho;cases ho
  ·rw[ac,h2]at ho;injection ho with ho
   subst ho;refine .inl ⟨?_,rfl⟩;show(if look st.h l=none/\(KQ (look st.h) wr l).isSome=true then none else β l)=none;rw[if_pos ⟨h1,by rw[h2];rfl⟩]
 ·intro l l' b h1 h2 h3 h4;obtain⟨a1,a2⟩:=aa l b h1 h3;obtain⟨b1,b2⟩:=aa l' b h2 h4;exact hR.hr.inj l l' b a1 b1 a2 b2
 ·intro l b h1 h2;obtain⟨a1,a2⟩:=aa l b h1 h2;exact hR.hr.apart l b a1 a2
 ·intro l b h1 h2;obtain⟨a1,a2⟩:=aa l b h1 h2;exact hR.hr.own l b a1 a2
theorem Q3p{ops:Array Oper}{i j s:Nat}{b:Bool}(hi:ops[i]? = some o)(hg:o.guard=some (j,b))(hs:(ops[j]?).bind (·.dst)=some s){tm:List (Nat×AV)}{g:Bool}{ch:List (Nat×Bool)}(am:ctx tm 40 s b=some (g,ch)){dl:Dl}{wr:List (Nat×oP Ob)}(hw:jW g hl dl.wr=some wr)(ac:g=true->K3 P E o (λx=>unw ch (evO tm x)) hl dl) :
  DU P E ops i ⟨PX o.op.operands.toList++ch.map (·.1),o.dst,⟨.gd s b dl.v,wr,dl.rd⟩⟩ (lkT tm) hl:=by
 intro st a w ⟨β,S,hR⟩ hlk hA hd hcw Q;have ak:=Q4C 40 s b g ch am (tm':=st.tm) (λp hp=>hlk p.1 (by grind));obtain⟨h1,h2⟩:=Q3u hR 40 s b g ch ak;have hy:=LN (a:=a) (b:=b) hs;unfold wpOp;simp only[hi,Region.wanted,hg];cases g with
 |true=>
  have aa:=h1.1 rfl;rw[if_pos (hy.2 aa)];left;obtain rfl:=Q1G hw;refine ac rfl β S st a w hR (λx hx=>?_) (λl h=>hA l h) hcw _ _ λv w' an=>?_
  ·have he:=Q2s hlk hx;show RdA _ _ _ _ _ _ (unw ch (evO tm x))/\∀l,Uu st l=true->Yr l (unw ch (evO tm x))=false;rw[<- he];exact⟨Qgl (h2 rfl) (Q4X hR x),λl hc=>Q9D (Q1z hc x)⟩
  ·refine Bs hd ?_;obtain⟨β',S',ai,hv⟩:=an;exact⟨β',S',ai,.gdT _ _ _ _ aa hv⟩
 |false=>
  have aa:¬ tmv a s = .bool b:=λh=>by simp_all
  rw[QpV (λh=>aa (hy.1 h))];obtain⟨β',ai⟩:=Qcn hR (wr:=wr) (λp hp=>by
   have:=Bk hw p hp;have he:look st.h p.1=hl p.1:=hA p.1 (.inr (QpW.2 ⟨p,hp,rfl⟩))
   grind[Qiv]) hcw
  exact Bs hd ⟨β',S,ai,.gdF _ _ _ aa⟩
theorem ND{ch:List Nat}{dl:Dl}{k:St->Rec->oP R}{r:R}(h:QdA st o ch dl k=some r) :
  Q4u st ⟨PX o.op.operands.toList++ch,o.dst,dl⟩/\k (put st o.dst dl) ⟨PX o.op.operands.toList++ch,o.dst,dl⟩=some r:=by
 unfold QdA at h;cases hc:(Q3A st dl.v o.dst&&Wo st dl.wr)with
 |false=>simp_all
 |true=>
  simp only[hc,QpI]at h;simp only[QpD]at hc;trivial
theorem Q62{spec:Q5T}{tt:TT}(hS:BO P spec)(hT:TOk P tt){ops:Array Oper}{i:Nat}(hi:ops[i]? = some o){k:St->Rec->oP R}{r:R}(h:QeD spec tt ops o st k=some r) :
  ∃rc,k (put st rc.dst rc.dl) rc=some r/\rc.dst=o.dst/\Q4u st rc/\DU P E ops i rc (lkT st.tm) (look st.h):=by
 unfold QeD at h;split at h
 ·rename_i hg;obtain⟨dl,h,aa⟩:=Eo (E:=E) hS hT h;obtain⟨hs,hk⟩:=ND h;exact⟨_,hk,rfl,hs,Q0Y hi hg (aa rfl)⟩
 ·rename_i j b hg;split at h
  ·rename_i s hs;split at h
   ·rename_i g ch ai;obtain⟨dl,h,aa⟩:=Eo (E:=E) hS hT h;split at h
    ·rename_i wr hw;obtain⟨ak,hk⟩:=ND h;exact⟨_,hk,rfl,ak,Q3p hi hg hs ai hw aa⟩
    ·cases h
   ·cases h
  ·cases h
def AN(P:Program)(E:Env)(ops:Array Oper):Nat->St->List Rec->St->Prop
 |_,st,[],st'=>st'=st
 |i,st,rc::rs,st'=>(∃o,ops[i]? = some o/\rc.dst=o.dst)/\Q4u st rc/\DU P E ops i rc (lkT st.tm) (look st.h)/\AN P E ops (i+1) (put st rc.dst rc.dl) rs st'
theorem Q1p{spec:Q5T}{tt:TT}(hS:BO P spec)(hT:TOk P tt){ops:Array Oper}{R:Type}:∀(l:List Oper) (i:Nat) (st:St) (acc:List Rec) (k:St->List Rec->oP R) (r:R),(∀j,l[j]? = ops[i+j]?) ->
  QhS spec tt ops l st acc k=some r->∃recs st',recs.length=l.length/\k st' (acc++recs)=some r/\AN P E ops i st recs st'
 |[],i,st,acc,k,r,_,h=>⟨[],st,rfl,by grind[QhS],rfl⟩
 |o::l,i,st,acc,k,r,hl,h=>by
  have h0:ops[i]? = some o:=by simpa using (hl 0).symm
  obtain⟨rc,h,hd,hs,aa⟩:=Q62 (E:=E) hS hT h0 h;obtain⟨recs,st',h1,h2,h3⟩:=Q1p hS hT l (i+1) _ _ k r (λj=>by have:=hl (j+1);grind) h;exact⟨rc::recs,st',by simp[h1],by simp_all,⟨o,h0,hd⟩,hs,aa,h3⟩
theorem A3{s:Nat}{b:Bool}:∀{tm:List (Nat×AV)},lkT tm s = .d (.bool b)->Q48 s b tm=tm
 |[],h=>by simp[lkT,look]at h
 |(t,a)::r,h=>by
  simp only[Q48];cases ht:Nat.beq t s with
  |true=>
   simp only[lkT,look,ht,QpI,Option.getD_some]at h;rw[QpI,h]
  |false=>
   simp only[lkT,look,ht,QpT]at h;rw[QpT,A3 (tm:=r) h]
theorem Q5z{ops:Array Oper}{i j s:Nat}{b:Bool}(hi:ops[i]? = some o)(hg:o.guard=some (j,b))(hs:(ops[j]?).bind (·.dst)=some s){tm:List (Nat×AV)}(ac:lkT tm s = .d (.bool b)){dl:Dl}(aa:K3 P E o (evO tm) hl dl) :
  DU P E ops i ⟨PX o.op.operands.toList++[s],o.dst,dl⟩ (lkT tm) hl:=by
 intro st a w ⟨β,S,hR⟩ hlk hA hd hcw Q;have ak:tmv a s = .bool b:=by
  have h1:=Q4X hR (.tmp s);rw[show evO st.tm (.tmp s)=lkT st.tm s from rfl,hlk s Q2,ac]at h1;exact h1.bool_inv
 unfold wpOp;simp only[hi,Region.wanted,hg];rw[if_pos ((LN hs).2 ak)];left;refine aa β S st a w hR (λx hx=>?_) hA hcw _ _ λv w' ai=>Bs hd ai
 rw[<- Q2s hlk hx]
 grind[Q4X,Q1z]
theorem Qb5{ops:Array Oper}{i j s:Nat}{b c:Bool}(hi:ops[i]? = some o)(hg:o.guard=some (j,b))(hs:(ops[j]?).bind (·.dst)=some s){tm:List (Nat×AV)}(ac:lkT tm s = .d (.bool c))(ai:c≠b){av:AV} :
  DU P E ops i ⟨PX o.op.operands.toList++[s],o.dst,⟨.gd s b av,[],[]⟩⟩ (lkT tm) hl:=by
 intro st a w ⟨β,S,hR⟩ hlk hA hd hcw Q;have am:tmv a s = .bool c:=by
  have h1:=Q4X hR (.tmp s);rw[show evO st.tm (.tmp s)=lkT st.tm s from rfl,hlk s Q2,ac]at h1;exact h1.bool_inv
 have aa:¬ tmv a s = .bool b:=by simp_all
 unfold wpOp;simp only[hi,Region.wanted,hg];rw[QpV (λh=>aa ((LN hs).1 h))];exact Bs hd ⟨β,S,hR,.gdF _ _ _ aa⟩
theorem AT{spec:Q5T}{tt:TT}(hS:BO P spec)(hT:TOk P tt){ops:Array Oper}{R:Type}:∀(l:List Oper) (i:Nat) (st:St) (acc:List Rec) (k:St->List Rec->oP R) (r:R),(∀j,l[j]? = ops[i+j]?) ->
  Q1y spec tt ops l st acc k=some r->∃recs st',recs.length=l.length/\k st' (acc++recs)=some r/\AN P E ops i st recs st'
 |[],i,st,acc,k,r,_,h=>⟨[],st,rfl,by grind[Q1y],rfl⟩
 |o::l,i,st,acc,k,r,hl,h=>by
  have h0:ops[i]? = some o:=by simpa using (hl 0).symm
  have next:∀rc,rc.dst=o.dst->Q4u st rc->DU P E ops i rc (lkT st.tm) (look st.h)->Q1y spec tt ops l (put st rc.dst rc.dl) (acc++[rc]) k=some r->∃recs st',recs.length=(o::l).length/\k st' (acc++recs)=some r/\AN P E ops i st recs st':=by
   intro rc hd hs ao h;obtain⟨recs,st',h1,h2,h3⟩:=AT hS hT l (i+1) _ _ k r (λj=>by have:=hl (j+1);grind) h;exact⟨rc::recs,st',by simp[h1],by simp_all,⟨o,h0,hd⟩,hs,ao,h3⟩
  have one:∀(j s:Nat) (w c:Bool),o.guard=some (j,w)->(ops[j]?).bind (·.dst)=some s->lkT st.tm s = .d (.bool c)->Q7D spec tt o s w c st (λst' rec=>Q1y spec tt ops l st' (acc++[rec]) k)=some r->∃recs st',recs.length=(o::l).length/\k st' (acc++recs)=some r/\AN P E ops i st recs st':=by
   intro j s w c hg hs aa h;unfold Q7D at h;cases hb:(bif c then w else !w)with
   |true=>
    simp only[hb,QpI]at h;have am:c=w:=by grind
    subst am;obtain⟨dl,h,ac⟩:=Eo (E:=E) hS hT h;obtain⟨ai,hk⟩:=ND h;exact next _ rfl ai (Q5z h0 hg hs aa (ac rfl)) hk
   |false=>
    simp only[hb,QpT]at h;have am:c≠w:=by grind
    obtain⟨ai,hk⟩:=ND h;exact next _ rfl ai (Qb5 h0 hg hs aa am) hk
  rw[Q1y]at h;split at h
  ·rename_i hg;obtain⟨dl,h,ac⟩:=Eo (E:=E) hS hT h;obtain⟨ai,hk⟩:=ND h;exact next _ rfl ai (Q0Y h0 hg (ac rfl)) hk
  ·rename_i j w hg;split at h
   ·rename_i s hs;split at h
    ·rename_i c aa;cases c with
     |true=>
      simp only[QpI,A3 aa]at h;exact one j s w true hg hs aa h
     |false=>
      simp only[QpT,A3 aa]at h;exact one j s w false hg hs aa h
    ·cases h
   ·cases h
theorem Q93{ops:Array Oper}{Q:Exit->Act->World->Prop}{st':St}(hQ:∀a w,JB E st' a w->Q .normal a w):∀(recs:List Rec) (i:Nat) (st:St) (a:Act) (w:World),AN P E ops i st recs st'->JB E st a w ->
  wpOps P ops Q (List.range' i recs.length) a w
 |[],i,st,a,w,h,hR=>by
  simp only[AN]at h;subst h;exact hQ a w hR
 |rc::rs,i,st,a,w,h,hR=>by
  obtain⟨_,hs,aa,ac⟩:=h;simp only[List.length_cons,List.range'_succ];rw[wpOps_cons];exact wpOp_mono (λa' w' ai=>Q93 hQ rs (i+1) _ a' w' ac ai) (aa st a w hR (λ_ _=>rfl) (λ_ _=>rfl) hs.1 hs.2 Q)
end
end Go.Vx
namespace Go.Vx
section
variable{P:Program} {E:Env} {R:Type}
def Lst(listed:Array Bool)(i:Nat):Prop:=listed.getD i false=true
def Q2e(listed:Array Bool)(es:List Edge):Prop:=∀e∈es,Region.binds .any e=true->Lst listed e.on
def Ld(ops:List Oper)(listed:Array Bool):Prop:=∀(j:Nat) (o:Oper),ops[j]? = some o->Lst listed j->Q2e listed o.after.toList
theorem Q1n(acc:List Nat)(i:Nat):∀(es:List Edge) (s:Nat),(Q4J acc es s).testBit i=true->s.testBit i=true\/∃e∈es,Region.binds .any e=true/\(e.on=i\/(acc.getD e.on 0).testBit i=true)
 |[],s,h=>.inl h
 |e::r,s,h=>by
  simp only[Q4J]at h;rcases Q1n acc i r _ h with h1 | ⟨e',h1,h2⟩
  ·cases hb:Region.binds .any e with
   |false=>rw[hb]at h1;exact .inl (by simpa using h1)
   |true=>
    rw[hb]at h1;simp only[QpI,Nat.testBit_or,QpR]at h1;rcases h1 with(h1 | h1) | h1
    ·exact .inl h1
    ·refine .inr ⟨e,by simp,hb,.inl ?_⟩;rw[Nat.testBit_two_pow]at h1;simpa using h1
    ·exact .inr ⟨e,by simp,hb,.inr h1⟩
  ·exact .inr ⟨e',by simp[h1],h2⟩
theorem Q7M(ops:List Oper):∀(l:List Oper) (acc:List Nat),(∀k,l[k]? = ops[acc.length+k]?) ->
  (∀(j i m:Nat) (o:Oper),acc[j]? = some m->ops[j]? = some o->m.testBit i=true->∀listed,Ld ops listed->Q2e listed o.after.toList->Lst listed i) ->
  (Q2Y l acc).length=acc.length+l.length /\
  ∀(j i m:Nat) (o:Oper),(Q2Y l acc)[j]? = some m->ops[j]? = some o->m.testBit i=true->∀listed,Ld ops listed->Q2e listed o.after.toList->Lst listed i
 |[],acc,_,h=>⟨by simp[Q2Y],h⟩
 |o::l,acc,hl,h=>by
  have h0:ops[acc.length]? = some o:=by simpa using (hl 0).symm
  have:=Q7M ops l (acc++[Q4J acc o.after.toList 0]) (λk=>by
   have:=hl (k+1)
   grind) (λj i m o' h1 h2 h3 listed hc hp=>by
   by_cases hj:j<acc.length
   ·grind
   ·have am:j=acc.length:=by
     grind
    subst am;rw[List.getElem?_append_right (Nat.le_refl _)]at h1;simp at h1;subst h1;rw[h0]at h2;injection h2 with h2
    subst h2;rcases Q1n acc i _ _ h3 with h4 | ⟨e,h4,h5,h6⟩
    ·simp at h4
    ·have ac:=hp e h4 h5;rcases h6 with h6 | h6
     ·rw[<- h6];exact ac
     ·by_cases he:e.on<acc.length
      ·obtain⟨m',aa⟩:∃m',acc[e.on]? = some m':=⟨_,QpG he⟩;have ai:e.on<ops.length:=by
        have:=(QpF.1 h0).1;omega
       have ho:=QpG ai;refine h e.on i m' _ aa ho ?_ listed hc (hc e.on _ ho ac);rw[List.getD_eq_getElem?_getD,aa]at h6;simpa using h6
      ·rw[List.getD_eq_getElem?_getD,QpY Q0]at h6;simp at h6)
  grind[Q2Y,Nat.add_assoc,Nat.add_comm]
def Dw(listed:Array Bool):Nat->St->List Rec->St
 |_,st,[]=>st
 |i,st,rc::rs=>Dw listed (i+1) (bif listed.getD i false then put st rc.dst rc.dl else st) rs
def lkA(listed:Array Bool)(t:Nat):Nat->AV->List Rec->AV
 |_,v,[]=>v
 |i,v,rc::rs=>lkA listed t (i+1) (if listed.getD i false=true/\rc.dst=some t then rc.dl.v else v) rs
def hA(listed:Array Bool):Nat->(Nat->oP Ob)->List Rec->Nat->oP Ob
 |_,h,[]=>h
 |i,h,rc::rs=>hA listed (i+1) (if listed.getD i false=true then KQ h rc.dl.wr else h) rs
theorem Q9g(st:St)(dst:oP Nat)(dl:Dl)(t:Nat):lkT (put st dst dl).tm t=if dst=some t then dl.v else lkT st.tm t:=by
 cases dst with
 |none=>simp[put]
 |some d=>
  grind[put,lkT,Xd,Option.some.injEq]
theorem Lj(listed:Array Bool)(t:Nat):∀(recs:List Rec) (i:Nat) (st:St),lkT (Dw listed i st recs).tm t=lkA listed t i (lkT st.tm t) recs
 |[],_,_=>rfl
 |rc::rs,i,st=>by
  simp only[Dw,lkA];rw[Lj listed t rs];congr 1;cases hl:listed.getD i false with
  |true=>simp[Q9g]
  |false=>simp
theorem DM(listed:Array Bool):∀(recs:List Rec) (i:Nat) (st:St),look (Dw listed i st recs).h=hA listed i (look st.h) recs
 |[],_,_=>rfl
 |rc::rs,i,st=>by
  simp only[Dw,hA];rw[DM listed rs];congr 1;cases hl:listed.getD i false with
  |true=>simp[put,Hc]
  |false=>simp
theorem Q1k(listed:Array Bool):∀(recs:List Rec) (i:Nat) (st:St),(Dw listed i st recs).n=st.n
 |[],_,_=>rfl
 |rc::rs,i,st=>by
  simp only[Dw];rw[Q1k listed rs];cases listed.getD i false<;>rfl
theorem Ez{L1 L2:Array Bool}{t:Nat}:∀(recs:List Rec) (i:Nat) (v:AV),(∀k rc,recs[k]? = some rc->rc.dst=some t->(Lst L1 (i+k)↔Lst L2 (i+k)))->lkA L1 t i v recs=lkA L2 t i v recs
 |[],_,_,_=>rfl
 |rc::rs,i,v,h=>by
  simp only[lkA];have h0:=h 0 rc rfl;have:(if L1.getD i false=true/\rc.dst=some t then rc.dl.v else v)=if L2.getD i false=true/\rc.dst=some t then rc.dl.v else v:=by
   by_cases hd:rc.dst=some t
   all_goals simp_all [Lst,Nat.add_zero]
  rw[this];exact Ez rs (i+1) _ λk ac hk hd=>by
   have:=h (k+1) ac Q4 hd
   grind
theorem Bf{L1 L2:Array Bool}{l:Nat}:∀(recs:List Rec) (i:Nat) (h1 h2:Nat->oP Ob),h1 l=h2 l->(∀k rc,recs[k]? = some rc->l∈wrL rc.dl->(Lst L1 (i+k)↔Lst L2 (i+k)))->hA L1 i h1 recs l=hA L2 i h2 recs l
 |[],_,_,_,he,_=>he
 |rc::rs,i,h1,h2,he,h=>by
  refine Bf rs (i+1) _ _ ?_ λk ac hk hd=>by
   have:=h (k+1) ac Q4 hd
   grind
  by_cases hd:l∈wrL rc.dl
  ·have:=h 0 rc rfl hd;simp only[Lst,Nat.add_zero]at this;by_cases hl:L1.getD i false=true
   ·rw[if_pos hl,if_pos (this.1 hl)];exact Q77 hd
   simp_all
  ·have e1:∀(c:Prop) [Decidable c] (f:Nat->oP Ob),(if c then KQ f rc.dl.wr else f) l=f l:=by
    intro c _ f;split
    ·exact UM hd
    ·rfl
   simp_all
theorem JB.same{st st':St}{a:Act}{w:World}(h:JB E st a w)(hn:st'.n=st.n)(ht:∀t,lkT st'.tm t=lkT st.tm t)(hh:look st'.h=look st.h):JB E st' a w:=by
 obtain⟨β,S,hR⟩:=h;refine⟨β,S,by rw[hn];exact hR.n,hR.dfr,λt av ac=>?_,by rw[hh];exact hR.hr⟩;rw[hh];have h1:lkT st.tm t=av:=by grind[lkT]
 unfold lkT at h1;cases hl:look st.tm t with
 |none=>rw[hl]at h1;subst h1;exact .top _
 |some b=>rw[hl]at h1;subst h1;exact hR.tm t _ hl
end
section
variable{P:Program} {E:Env} {R:Type}
theorem B5{x:Nat}:∀{l:List Nat},PL x l=true↔x∈l
 |[]=>by simp[PL]
 |a::r=>by
  simp only[PL,QpR,QpJ,B5 (l:=r)];constructor
  ·rintro (h | h)
   ·exact .inl (QpC h).symm
   ·exact .inr h
  ·rintro (h | h)
   ·subst h;exact .inl (Nat.beq_refl _)
   ·exact .inr h
theorem RP{a b:List Nat}{x:Nat}(h1:x∈a)(h2:x∈b):HY a b=true:=by
 grind[HY,List.any_eq_true,AA]
theorem D0{i:Nat}{a:Rec}{news:List Nat}:∀{rs:List Rec} {ms:List Nat},Bn i a news rs ms=true->∀(k:Nat) (b:Rec),rs[k]? = some b->∃m,ms[k]? = some m /\
  (WX a b=true\/(∃l∈news,C4 l b=true)\/Qga a.dst b.dl.v=true->m.testBit i=true)
 |[],_,_,k,b,hb=>by simp at hb
 |b0::r,[],h,k,b,hb=>by trivial
 |b0::r,m::ms,h,k,b,hb=>by
  simp only[Bn,QpD]at h;cases k with
  |zero=>
   grind
  |succ k=>exact D0 h.2 k b Q4
theorem MH{ac:St}{aa:List Nat}:∀{wr:List (Nat×oP Ob)} {l:Nat},l∈TE ac aa wr->WO l wr=true
 |[],l,h=>by simp[TE]at h
 |(k,o)::r,l,h=>by
  unfold TE at h;split at h
  ·cases hm:PL k aa with
   |true=>simp only[hm,QpI]at h;simp[WO,MH h]
   |false=>
    simp only[hm,QpT,QpJ]at h;rcases h with rfl | h
    ·simp[WO]
    ·simp[WO,MH h]
  ·simp[WO,MH h]
theorem Q3I{ac:St}{aa:List Nat}{l:Nat}(hn:look ac.h l=none)(hs:l ∉ aa):∀{wr:List (Nat×oP Ob)},WO l wr=true->l∈TE ac aa wr
 |(k,o)::r,h=>by
  simp only[WO,QpR,QpD]at h;by_cases hk:k=l/\o.isSome=true
  ·obtain⟨rfl,ho⟩:=hk;obtain⟨o',rfl⟩:=QpS.1 ho
   grind[PL,absurd,B5,TE]
  ·have hr:WO l r=true:=by
    grind[absurd,Nat.eq_of_beq_eq_true]
   have:=Q3I hn hs hr;unfold TE
   grind
theorem Lq{ak:St}:∀{rs:List Rec} {i:Nat} {ai:List Rec} {ac:List Nat} {ms:List Nat},F3 ak i ai ac rs ms=true->∀(k:Nat) (a:Rec),rs[k]? = some a ->
  ∃aa,(∀l∈aa,l∈ac\/∃k' b,k'<k/\rs[k']? = some b/\WO l b.dl.wr=true)/\Bn (i+k) a (TE ak aa a.dl.wr) (rs.drop (k+1)) (ms.drop (k+1))=true /\
   ∀l∈TE ak aa a.dl.wr,Uu ak l=true/\(∀b∈ai,C4 l b=false)/\∀k' b,k'<k->rs[k']? = some b->C4 l b=false
 |[],i,ai,ac,ms,_,k,a,ha=>by simp at ha
 |a0::r,i,ai,ac,[],h,k,a,ha=>by simp[F3]at h
 |a0::r,i,ai,ac,m::ms,h,k,a,ha=>by
  simp only[F3,QpD]at h;obtain⟨⟨h1,h2⟩,h3⟩:=h;cases k with
  |zero=>
   simp at ha;subst ha;refine⟨ac,λl hl=>.inl hl,by simpa using h1,λl hl=>?_⟩;rw[List.all_eq_true]at h2;have:=h2 l hl;simp only[QpD,List.all_eq_true,QpK]at this;exact⟨this.1,this.2,λk' b hk=>by omega⟩
  |succ k=>
   obtain⟨aa,g1,g2,g3⟩:=Lq h3 k a (by simpa using ha);refine⟨aa,λl hl=>?_,?_,λl hl=>?_⟩
   ·rcases g1 l hl with g | ⟨k',b,g4,g5,g6⟩
    ·rcases List.mem_append.1 g with g | g
     ·exact .inl g
     ·exact .inr ⟨0,a0,Q0,rfl,MH g⟩
    ·exact .inr ⟨k'+1,b,Q0,by simpa using g5,g6⟩
   ·rw[show i+(k+1)=i+1+k from Q0];simpa using g2
   ·obtain⟨g4,g5,g6⟩:=g3 l hl;refine⟨g4,λb hb=>g5 b (by simp[hb]),λk' b hk hb=>?_⟩;cases k' with
    |zero=>simp at hb;subst hb;exact g5 a0 Q2
    |succ k'=>exact g6 k' b Q0 (by simpa using hb)
theorem RR{l:Nat}:∀{wr:List (Nat×oP Ob)},WO l wr=true->l∈wr.map (·.1)
 |(k,o)::r,h=>by
  simp only[WO,QpR,QpD]at h;rcases h with⟨_,h2⟩ | h
  ·simp[QpC h2]
  ·simp only[QpQ,QpJ];exact .inr (RR h)
theorem Dp{l:Nat}:∀{wr:List (Nat×oP Ob)} {h:Nat->oP Ob},(∀o,(l,o)∈wr->o.isSome=true)->(h l).isSome=true\/WO l wr=true->(KQ h wr l).isSome=true
 |[],h,_,hs=>by
  rcases hs with hs | hs
  ·exact hs
  ·simp[WO]at hs
 |(k,o)::r,h,hn,hs=>by
  simp only[KQ];refine Dp (λo' aa=>hn o' (by simp[aa])) ?_;by_cases e:l=k
  ·subst e;left;rw[if_pos rfl];exact hn o Q2
  ·rw[QpV e];rcases hs with hs | hs
   ·exact .inl hs
   ·simp only[WO,QpR,QpD]at hs;rcases hs with⟨_,h2⟩ | hs
    ·exact absurd (QpC h2).symm e
    ·exact .inr hs
theorem Q6C{recs:List Rec}{l:Nat}:∀{wr:List (Nat×oP Ob)},Qdq recs wr=true->(l,none)∈wr->∀b∈recs,WO l b.dl.wr=false
 |(k,o)::r,h,hm,b,hb=>by
  rcases QpJ.1 hm with e | aa
  ·injection e with e1 e2
   subst e1;subst e2;simp only[Qdq,QpD,List.all_eq_true,QpK]at h;exact h.1 b hb
  ·cases o with
   |none=>simp only[Qdq,QpD]at h;exact Q6C h.2 aa b hb
   |some o=>simp only[Qdq]at h;exact Q6C h aa b hb
theorem Qd8:∀{recs:List Rec} (k:Nat) (b:Rec),rmL recs=true->recs[k]? = some b->Qdq (recs.drop k) b.dl.wr=true
 |a::r,0,b,h,hb=>by
  simp only[rmL,QpD]at h;simp at hb;subst hb;exact h.1
 |a::r,k+1,b,h,hb=>by
  simp only[rmL,QpD]at h;exact Qd8 k b h.2 (by simpa using hb)
theorem Q3a{listed:Array Bool}{l:Nat}:∀(recs:List Rec) (i:Nat) (h:Nat->oP Ob),(∀k b,recs[k]? = some b->Lst listed (i+k)->∀o,(l,o)∈b.dl.wr->o.isSome=true)->((h l).isSome=true\/∃k b,recs[k]? = some b/\Lst listed (i+k)/\WO l b.dl.wr=true)->(hA listed i h recs l).isSome=true
 |[],i,h,_,hs=>by
  rcases hs with hs | ⟨k,b,hb,_⟩
  ·exact hs
  ·simp at hb
 |rc::rs,i,h,hn,hs=>by
  simp only[hA];refine Q3a rs (i+1) _ (λk b hb hl=>hn (k+1) b (by simpa using hb) (by rw[show i+(k+1)=i+1+k from Q0];exact hl)) ?_;rcases hs with hs | ⟨k,b,hb,hl,ho⟩
  ·left;split
   ·rename_i aa;exact Dp (hn 0 rc rfl (by simpa[Lst]using aa)) (.inl hs)
   ·exact hs
  ·cases k with
   |zero=>
    simp at hb;subst hb;left;rw[if_pos (by simpa[Lst]using hl)];exact Dp (hn 0 rc rfl hl) (.inr ho)
   |succ k=>exact .inr ⟨k,b,by simpa using hb,by rw[show i+1+k=i+(k+1)from Q0];exact hl,ho⟩
theorem Q8E{l:Nat}{st:St}{dst:oP Nat}{dl:Dl}(h1:AB l st.tm=false)(h2:Yr l dl.v=false):AB l (put st dst dl).tm=false:=by
 cases dst<;>simp[put,AB,h1,h2]
theorem Sz{l:Nat}:∀{wr:List (Nat×oP Ob)} {h:List (Nat×Ob)},Jl l h=false->P5 l wr=false->Jl l (MA h wr)=false
 |[],h,h1,_=>h1
 |(k,none)::r,h,h1,h2=>by simp only[MA];exact Sz (V1 h1) (by simpa[P5]using h2)
 |(k,some (.box c))::r,h,h1,h2=>by
  simp only[P5,QpU]at h2;simp only[MA];exact Sz (by simp[Jl,h2.1,V1 h1]) h2.2
 |(k,some (.arr e s rows))::r,h,h1,h2=>by
  simp only[P5]at h2;simp only[MA];exact Sz (by simp[Jl,V1 h1]) h2
 |(k,some (.mp t f))::r,h,h1,h2=>by
  simp only[P5]at h2;simp only[MA];exact Sz (by simp[Jl,V1 h1]) h2
theorem Q3V{listed:Array Bool}{l:Nat}:∀(recs:List Rec) (i:Nat) (st:St),Uu st l=true->(∀k b,recs[k]? = some b->Lst listed (i+k)->C4 l b=false)->Uu (Dw listed i st recs) l=true
 |[],_,_,h,_=>h
 |rc::rs,i,st,h,hn=>by
  simp only[Dw];refine Q3V rs (i+1) _ ?_ λk b hb hl=>hn (k+1) b (by simpa using hb) (by rw[show i+(k+1)=i+1+k from Q0];exact hl)
  cases hl:listed.getD i false with
  |false=>exact h
  |true=>
   have:=hn 0 rc rfl hl;simp only[C4,QpU]at this;simp only[Uu,QpD,QpK]at h ⊢;exact⟨h.1,Q8E h.2.1 this.1,by simp only[QpI,put];exact Sz h.2.2 this.2⟩
theorem Q6O{listed:Array Bool}{d:Nat}:∀(recs:List Rec) (i:Nat) (st:St),QaL d st.tm=false->(∀k b,recs[k]? = some b->Lst listed (i+k)->b.dst≠none->gds d b.dl.v=false)->QaL d (Dw listed i st recs).tm=false
 |[],_,_,h,_=>h
 |rc::rs,i,st,h,hn=>by
  simp only[Dw];refine Q6O rs (i+1) _ ?_ λk b hb hl=>hn (k+1) b (by simpa using hb) (by rw[show i+(k+1)=i+1+k from Q0];exact hl)
  cases hl:listed.getD i false with
  |false=>exact h
  |true=>
   cases hd:rc.dst with
   |none=>simpa[put]using h
   |some d'=>simp[put,QaL,h,hn 0 rc rfl hl (by simp[hd])]
theorem Q7s{listed:Array Bool}{d:Nat}:∀(recs:List Rec) (i:Nat) (st:St),QaL d (Dw listed i st recs).tm=false->QaL d st.tm=false/\∀k b,recs[k]? = some b->Lst listed (i+k)->b.dst≠none->gds d b.dl.v=false
 |[],_,_,h=>⟨h,λk b hb=>by simp at hb⟩
 |rc::rs,i,st,h=>by
  obtain⟨h1,h2⟩:=Q7s rs (i+1) _ h;refine⟨?_,λk b hb hl hd=>?_⟩
  ·cases hl:listed.getD i false with
   |false=>simp_all
   |true=>
    cases hd:rc.dst with
    |none=>grind[put]
    |some d'=>simp_all [QpI,put,QaL,QpU]
  ·cases k with
   |zero=>
    have ai:listed.getD i false=true:=by assumption
    cases ak:rc.dst with
    |none=>simp_all
    |some d'=>simp_all [QpI,put,QaL,QpU]
   |succ k=>grind
def Q9Y(st:St):Nat->List Rec->St
 |0,_=>st
 |_,[]=>st
 |i+1,rc::rs=>Q9Y (put st rc.dst rc.dl) i rs
theorem Q6X{ops:Array Oper}{st':St}:∀{recs:List Rec} {i:Nat} {st:St},AN P E ops i st recs st'->∀(k:Nat) (rc:Rec),recs[k]? = some rc ->
  (∃o,ops[i+k]? = some o/\rc.dst=o.dst)/\Q4u (Q9Y st k recs) rc/\DU P E ops (i+k) rc (lkT (Q9Y st k recs).tm) (look (Q9Y st k recs).h)
 |[],_,_,_,k,rc,h=>by simp at h
 |r0::rs,i,st,hr,k,rc,h=>by
  obtain⟨h1,h2,h3,h4⟩:=hr;cases k with
  |zero=>simp at h;subst h;exact⟨h1,h2,h3⟩
  |succ k=>
   have:=Q6X h4 k rc (by simpa using h);rw[show i+1+k=i+(k+1)from Q0]at this;exact this
theorem Fd{ops:Array Oper}{st':St}:∀{recs:List Rec} {i:Nat} {st:St},AN P E ops i st recs st'->st'=Q9Y st recs.length recs
 |[],_,_,h=>h
 |_::rs,_,_,h=>Fd (recs:=rs) h.2.2.2
def Nh(n k:Nat):Array Bool:=(Array.range n).map λi=>decide (i<k)
theorem KG{n k i:Nat}(hi:i<n):Lst (Nh n k) i↔i<k:=by
 unfold Lst Nh;simp[hi]
theorem F9{n:Nat}:∀(recs:List Rec) (i k:Nat) (st:St),i+recs.length<=n->Q9Y st k recs=Dw (Nh n (i+k)) i st recs
 |[],i,k,st,_=>by cases k<;>rfl
 |rc::rs,i,0,st,h=>by
  simp only[Q9Y,Dw];have h0:¬ Lst (Nh n (i+0)) i:=by grind[KG]
  have:(Nh n (i+0)).getD i false=false:=by grind[Lst]
  have:∀(rs:List Rec) (j:Nat) (st:St),i<j->j+rs.length<=n->Dw (Nh n i) j st rs=st:=by
   intro rs;induction rs with
   |nil=>intro j st _ _;rfl
   |cons x r aa=>
    intro j st hj hn;simp only[List.length_cons]at hn;simp only[Dw];have h0:¬ Lst (Nh n i) j:=by rw[KG Q0];omega
    grind[Nh,Lst]
  grind
 |rc::rs,i,k+1,st,h=>by
  simp only[List.length_cons]at h;simp only[Q9Y,Dw];have h0:Lst (Nh n (i+(k+1))) i:=by rw[KG Q0];omega
  have:(Nh n (i+(k+1))).getD i false=true:=h0;rw[this];simp only[QpI];rw[F9 (n:=n) rs (i+1) k _ Q0,show i+1+k=i+(k+1)from Q0]
end
section
variable{P:Program} {E:Env} {R:Type}
theorem Q7z{L:Array Bool}{t:Nat}{v0:AV}:∀(recs:List Rec) (i k:Nat) (rc:Rec) (v:AV),recs[k]? = some rc->Lst L (i+k)->rc.dst=some t->rc.dl.v=v0->(∀k' b,k<k'->recs[k']? = some b->Lst L (i+k')->b.dst≠some t)->lkA L t i v recs=v0
 |[],i,k,rc,v,h,_,_,_,_=>by simp at h
 |r0::rs,i,0,rc,v,h,hl,hd,hv,hlast=>by
  simp at h;subst h;simp only[lkA];have ac:L.getD i false=true:=by assumption
  rw[if_pos ⟨ac,hd⟩,hv];have:∀(rs:List Rec) (j:Nat),(∀k' b,rs[k']? = some b->Lst L (j+k')->b.dst≠some t)->lkA L t j v0 rs=v0:=by
   intro rs;induction rs with
   |nil=>intro j _;rfl
   |cons x r ih=>
    intro j hj;simp only[lkA];rw[QpV (λh=>hj 0 x rfl h.1 h.2)];exact ih (j+1) λk' b hb hl=>hj (k'+1) b Q4 (by grind)
  exact this rs (i+1) λk' b hb hl=>hlast (k'+1) b Q0 (by simpa using hb) (by grind)
 |r0::rs,i,k+1,rc,v,h,hl,hd,hv,hlast=>by
  exact Q7z rs (i+1) k rc _ (by simpa using h) (by grind) hd hv λk' b hk hb ac=>hlast (k'+1) b Q0 (by simpa using hb) (by grind)
theorem Q9p{L:Array Bool}{l:Nat}(h0:Nat->oP Ob):∀(recs:List Rec) (i k:Nat) (rc:Rec) (h:Nat->oP Ob),recs[k]? = some rc->Lst L (i+k)->l∈wrL rc.dl->(∀k' b,k<k'->recs[k']? = some b->Lst L (i+k')->l ∉ wrL b.dl)->hA L i h recs l=KQ h0 rc.dl.wr l
 |[],i,k,rc,h,hb,_,_,_=>by simp at hb
 |r0::rs,i,0,rc,h,hb,hl,hd,hlast=>by
  simp at hb;subst hb;simp only[hA];have ac:L.getD i false=true:=by assumption
  rw[if_pos ac];have:∀(rs:List Rec) (j:Nat) (f:Nat->oP Ob),(∀k' b,rs[k']? = some b->Lst L (j+k')->l ∉ wrL b.dl)->hA L j f rs l=f l:=by
   intro rs;induction rs with
   |nil=>intro j f _;rfl
   |cons x r ih=>
    intro j f hj;simp only[hA];rw[ih (j+1) _ λk' b hb hl=>hj (k'+1) b Q4 (by grind)];split
    ·rename_i hx;exact UM (hj 0 x rfl hx)
    ·rfl
  rw[this rs (i+1) _ λk' b hb hl=>hlast (k'+1) b Q0 (by simpa using hb) (by grind)];exact Q77 hd
 |r0::rs,i,k+1,rc,h,hb,hl,hd,hlast=>by
  exact Q9p h0 rs (i+1) k rc _ (by simpa using hb) (by grind) hd λk' b hk ak ac=>hlast (k'+1) b Q0 Q4 (by grind)
theorem Q4Q{st:St}:∀{wr:List (Nat×oP Ob)},(∀l o,(l,some o)∈wr->look st.h l=none->Uu st l=true)->Wo st wr=true
 |[],_=>rfl
 |(l,o)::r,h=>by
  simp only[Wo,QpD];refine⟨?_,Q4Q λl' o' hm=>h l' o' (by simp[hm])⟩;cases o with
  |none=>rfl
  |some o=>
   cases hs:look st.h l with
   |some o'=>rfl
   |none=>exact h l o Q2 hs
theorem Q1e{l:Nat}{o:Ob}:∀{wr:List (Nat×oP Ob)},(l,some o)∈wr->WO l wr=true
 |(k,o')::r,h=>by
  rcases QpJ.1 h with e | h'
  ·injection e with e1 e2;subst e1;subst e2;simp[WO]
  ·simp[WO,Q1e h']
theorem SK{p q:Nat->Bool}{i:Nat}:∀{l:List Nat},i∈l->(∀x∈l,q x=true->p x=true)->p i=true->q i=false->l.countP q<l.countP p
 |a::r,hm,aa,hp,hq=>by
  have hr:r.countP q<=r.countP p:=List.countP_mono_left λx hx=>aa x (by simp[hx])
  simp only[List.countP_cons];rcases QpJ.1 hm with rfl | ac
  ·simp[hp,hq];omega
  ·have:=SK ac (λx hx=>aa x (by simp[hx])) hp hq;have h1:=aa a Q2;cases ai:q a
   ·simp;split<;>omega
   ·simp[h1 ai];omega
theorem SQ{listed:Array Bool}{i j:Nat}(hi:i<listed.size):Lst (listed.setIfInBounds i true) j↔j=i\/Lst listed j:=by
 unfold Lst;by_cases hj:j<listed.size
 ·by_cases e:j=i
  all_goals simp_all [Ne.symm]
 grind
theorem Q8q{es:List Edge}{i:Nat}(h:Q24 es i=true)(e:Edge)(hm:e∈es)(hb:Region.binds .any e=true):e.on<i:=by
 induction es with
 |nil=>simp at hm
 |cons e0 r ih=>
  simp only[Q24,QpD,QpR,QpK]at h
  grind[Nat.le_of_ble_eq_true]
theorem T3{l:List Oper}(k:Nat)(o:Oper)(e:Edge)(he:e∈o.after.toList)(hb:Region.binds .any e=true):∀i,Kr l i=true->l[k]? = some o->e.on<i+k:=by
 induction l generalizing k with
 |nil=>simp_all
 |cons o0 r ih=>
  intro i h ho;simp only[Kr,QpD]at h;cases k with
  |zero=>simp at ho;subst ho;exact Q8q h.1 e he hb
  |succ k=>
   grind
theorem SL{ops:Array Oper}{listed:Array Bool}{i:Nat}(ac:listed.size=ops.size):i∈Region.ready .any ops listed↔∃o,ops[i]? = some o/\¬ Lst listed i/\Q2e listed o.after.toList:=by
 unfold Region.ready;simp only[List.mem_filter,List.mem_range,QpD,QpK];constructor
 ·rintro⟨h1,h2,h3⟩;have ho:=QpP h1;refine⟨_,ho,?_,?_⟩
  ·simp_all [Lst,Array.getD,dite_true]
  ·rw[ho]at h3;simp only[Option.map_some,Option.getD_some,Array.all_eq_true_iff_forall_mem,QpR,QpK]at h3;intro e he hb;rcases h3 e Q4 with h4 | h4
   ·simp_all
   ·exact h4
 ·rintro⟨o,ho,hn,hp⟩;have h1:=(QpM.1 ho).1;have hi:i<listed.size:=Q0
  refine⟨h1,?_,?_⟩
  ·simp_all [Lst,Array.getD,dite_true]
  ·rw[ho];simp only[Option.map_some,Option.getD_some,Array.all_eq_true_iff_forall_mem,QpR,QpK];intro e he;cases hb:Region.binds .any e with
   |false=>simp_all
   |true=>exact .inr (hp e (by simpa using he) hb)
theorem Qbo{ops:Array Oper}{aa st':St}{recs:List Rec}{Q:Exit->Act->World->Prop}(cc:recs.length=ops.size)(ar:AN P E ops 0 aa recs st')(hd:Q3v aa ops.toList recs=true)(hQ:∀a w,JB E st' a w->Q .normal a w) :
  ∀(fuel:Nat) (listed:Array Bool) (a:Act) (w:World),listed.size=ops.size->Ld ops.toList listed->(List.range ops.size).countP (λi=>!listed.getD i false)<=fuel->JB E (Dw listed 0 aa recs) a w->wpAny P .any ops Q fuel listed a w:=by
 simp only[Q3v,QpD]at hd;obtain⟨⟨a7,ax⟩,b3⟩:=hd;obtain⟨b6,a9⟩:=Q7M ops.toList ops.toList [] (λk=>by simp) (λj i m o h1=>by simp at h1);simp only[List.length_nil,QpO,Array.length_toList]at b6;have br:∀listed:Array Bool,listed.size=ops.size->Region.ready .any ops listed=[]->∀i,i<ops.size->Lst listed i:=by
  intro listed aq hr i;induction i using Nat.strongRecOn with
  |ind i ih=>
   intro hi;by_cases hl:Lst listed i
   ·exact hl
   ·exfalso;have ho:=QpP hi;have:i∈Region.ready .any ops listed:=(SL aq).2 ⟨_,ho,hl,λe he hb=>ih e.on (by
     have:=T3 i _ e he hb 0 a7 Q4;omega) (by
     have:=T3 i _ e he hb 0 a7 (by rw[QpX];exact ho);omega)⟩
    simp_all
 have bj:∀(listed:Array Bool) (a:Act) (w:World),(∀i,i<ops.size->Lst listed i)->JB E (Dw listed 0 aa recs) a w->Q .normal a w:=by
  intro listed a w hl hR;refine hQ a w (hR.same ?_ (λt=>?_) ?_)
  ·rw[Fd ar,F9 (n:=ops.size) recs 0 _ aa Q0,Q1k,Q1k]
  ·rw[Fd ar,F9 (n:=ops.size) recs 0 _ aa Q0,Lj,Lj];refine Ez recs 0 _ λk rc hk _=>?_
   have bc:=(QpF.1 hk).1;rw[KG Q0];exact⟨λ_=>hl _ Q0,λ_=>by omega⟩
  ·rw[Fd ar,F9 (n:=ops.size) recs 0 _ aa Q0,DM,DM];funext l;refine Bf recs 0 _ _ rfl λk rc hk _=>?_
   have bc:=(QpF.1 hk).1;rw[KG Q0];exact⟨λ_=>hl _ Q0,λ_=>by omega⟩
 intro fuel;induction fuel with
 |zero=>
  intro listed a w aq ba bo hR;have hl:∀i,i<ops.size->Lst listed i:=by
   intro i hi;have h0:(List.range ops.size).countP (λi=>!listed.getD i false)=0:=Q0
   rw[List.countP_eq_zero]at h0;have:=h0 i (by simpa using hi);simpa[Lst]using this
  refine⟨?_,bj listed a w hl hR⟩;cases hr:Region.ready .any ops listed with
  |nil=>rfl
  |cons x xs=>
   exfalso;obtain⟨o,ho,hn,_⟩:=(SL aq).1 (by rw[hr];simp:x∈Region.ready .any ops listed);exact hn (hl x (QpM.1 ho).1)
 |succ fuel ih=>
  intro listed a w aq ba bo hR;refine⟨λhr=>bj listed a w (br listed aq hr) hR,λi hi=>?_⟩;obtain⟨o,ho,az,bz⟩:=(SL aq).1 hi;have bp:=(QpM.1 ho).1;obtain⟨rc,am⟩:∃rc,recs[i]? = some rc:=⟨_,QpG Q0⟩;obtain⟨⟨o',b5,cb⟩,bn,a5⟩:=Q6X ar i rc am;simp only[QpO]at b5 a5;have a8:∀(j m:Nat),(Q2Y ops.toList [])[i]? = some m->m.testBit j=true->Lst listed j:=λj m h1 h2=>a9 i j m o h1 (by rw[QpX];exact ho) h2 listed ba bz
  have aw:∀(j m:Nat),(Q2Y ops.toList [])[j]? = some m->j<ops.size->m.testBit i=true->¬ Lst listed j:=λj m h1 h2 h3 hl=>by
   have a4:=QpP h2;exact az (a9 j i m _ h1 (by rw[QpX];exact a4) h3 listed ba (ba j _ (by rw[QpX];exact a4) hl))
  have a3:∀(p q:Nat) (x y:Rec),p<q->recs[p]? = some x->recs[q]? = some y->∃m,(Q2Y ops.toList [])[q]? = some m/\(WX x y=true\/Qga x.dst y.dl.v=true->m.testBit p=true):=by
   intro p q x y cp hx hy;obtain⟨a2,_,g2,_⟩:=Lq ax p x hx;obtain⟨m,hm,hc⟩:=D0 g2 (q-(p+1)) y (by rw[QpN,show p+1+(q-(p+1))=q from Q0];exact hy);rw[QpN,show p+1+(q-(p+1))=q from Q0]at hm;refine⟨m,hm,λh=>?_⟩;have:=hc (by rcases h with h | h;exact .inl h;exact .inr (.inr h));simpa using this
  have bd:∀(j:Nat) (b:Rec),j<i->recs[j]? = some b->WX b rc=true->Lst listed j:=λj b hj hb hc=>by
   obtain⟨m,hm,h1⟩:=a3 j i b rc hj hb am;exact a8 j m hm (h1 (.inl hc))
  have ak:∀(j:Nat) (b:Rec),i<j->recs[j]? = some b->WX rc b=true\/Qga rc.dst b.dl.v=true->¬ Lst listed j:=λj b hj hb hc=>by
   obtain⟨m,hm,h1⟩:=a3 i j rc b hj am hb;exact aw j m hm (by have:=(QpF.1 hb).1;omega) (h1 hc)
  have bh:∀(k:Nat) (b:Rec),recs[k]? = some b->(k<i->WX b rc=true)->(i<k->WX rc b=true)->(Lst listed (0+k)↔Lst (Nh ops.size (0+i)) (0+k)):=by
   intro k b hb h1 h2;have bc:=(QpF.1 hb).1;rw[KG Q0];simp only[QpO];rcases Nat.lt_trichotomy k i with h | h | h
   ·exact⟨λ_=>h,λ_=>bd k b h hb (h1 h)⟩
   ·subst h;exact⟨λhl=>absurd hl az,λhl=>by omega⟩
   ·exact⟨λhl=>absurd hl (ak k b h hb (.inl (h2 h))),λhl=>by omega⟩
  have bl:Q9Y aa i recs=Dw (Nh ops.size (0+i)) 0 aa recs:=F9 recs 0 i aa Q0;have c1:∀t,t∈rc.rt->lkT (Dw listed 0 aa recs).tm t=lkT (Q9Y aa i recs).tm t:=by
   intro t ht;rw[bl,Lj,Lj];refine Ez recs 0 _ λk b hk ay=>bh k b hk (λ_=>?_) (λ_=>?_)
   ·simp[WX,inO,ay,AA ht]
   ·simp[WX,inO,ay,AA ht]
  have c2:∀l,l∈rc.dl.rd\/l∈wrL rc.dl->look (Dw listed 0 aa recs).h l=look (Q9Y aa i recs).h l:=by
   intro l hl;rw[bl,DM,DM];refine Bf recs 0 _ _ rfl λk b hk hw=>bh k b hk (λ_=>?_) (λ_=>?_)
   ·rcases hl with hl | hl
    ·simp[WX,RP hw hl]
    ·simp[WX,RP hw hl]
   ·rcases hl with hl | hl
    ·simp[WX,RP hw hl]
    ·simp[WX,RP hl hw]
  have c3:Q3A (Dw listed 0 aa recs) rc.dl.v rc.dst=true:=by
   have h1:=bn.1;cases bv:rc.dst with
   |none=>rfl
   |some d=>
    rw[bv,bl]at h1;simp only[Q3A,QpD,QpK,Q1k]at h1 ⊢;obtain⟨g1,g2⟩:=Q7s recs 0 aa h1.2.2;refine⟨h1.1,h1.2.1,Q6O recs 0 aa g1 λk b hb hl hn=>?_⟩;have bc:=(QpF.1 hb).1;rcases Nat.lt_trichotomy k i with h | h | h
    ·exact g2 k b hb (by rw[KG Q0];omega) hn
    ·subst h;simp only[QpO]at hl;exact absurd hl az
    ·cases hg:gds d b.dl.v with
     |false=>rfl
     |true=>simp only[QpO]at hl;exact absurd hl (ak k b h hb (.inr (by simp[Qga,bv,hg])))
  have c4:Wo (Dw listed 0 aa recs) rc.dl.wr=true:=by
   refine Q4Q λl ob hm ao=>?_
   have hs:=Q1e hm;have a6:∀k b,recs[k]? = some b->Lst listed (0+k)->∀o,(l,o)∈b.dl.wr->o.isSome=true:=by
    intro k b hb bk o ho;simp only[QpO]at bk;cases o with
    |some _=>rfl
    |none=>
     exfalso;rcases Nat.lt_trichotomy k i with h | h | h
     ·have:=Q6C (Qd8 k b b3 hb) ho rc (List.mem_of_getElem? (i:=i-k) (by rw[QpN,show k+(i-k)=i from Q0];exact am));rw[hs]at this;cases this
     ·subst h;exact az bk
     ·have bm:HY (wrL rc.dl) (wrL b.dl)=true:=RP (x:=l) (RR hs) (QpW.2 ⟨_,ho,rfl⟩);exact ak k b h hb (.inl (by simp[WX,bm])) bk
   rw[DM]at ao;have hz:look aa.h l=none:=by
    cases hz:look aa.h l with
    |none=>rfl
    |some cn=>
     have:=Q3a (listed:=listed) recs 0 (look aa.h) a6 (.inl (by simp[hz]));rw[ao]at this;cases this
   have b4:∀k b,k<i->recs[k]? = some b->WO l b.dl.wr=false:=by
    intro k b hk hb;cases hh:WO l b.dl.wr with
    |false=>rfl
    |true=>
     have bm:HY (wrL b.dl) (wrL rc.dl)=true:=RP (x:=l) (RR hh) (RR hs);have hc:WX b rc=true:=by simp[WX,bm]
     have:=Q3a (listed:=listed) recs 0 (look aa.h) a6 (.inr ⟨k,b,hb,by simpa using bd k b hk hb hc,hh⟩);rw[ao]at this;cases this
   obtain⟨a2,g1,g2,g3⟩:=Lq ax i rc am;have bi:l∈TE aa a2 rc.dl.wr:=Q3I hz (λhl=>by
    rcases g1 l hl with h | ⟨k',b,h1,h2,h3⟩
    ·simp at h
    ·rw[b4 k' b h1 h2]at h3;cases h3) hs
   obtain⟨g4,_,g6⟩:=g3 l bi;refine Q3V recs 0 aa g4 λk b hb hl=>?_
   simp only[QpO]at hl;have bc:=(QpF.1 hb).1;rcases Nat.lt_trichotomy k i with h | h | h
   ·exact g6 k b h hb
   ·subst h;exact absurd hl az
   ·cases hr:C4 l b with
    |false=>rfl
    |true=>
     exfalso;obtain⟨m,bq,hc⟩:=D0 g2 (k-(i+1)) b (by rw[QpN,show i+1+(k-(i+1))=k from Q0];exact hb);rw[QpN,show i+1+(k-(i+1))=k from Q0]at bq;exact aw k m bq Q0 (by have:=hc (.inr (.inl ⟨l,bi,hr⟩));simpa using this) hl
  have b8:=a5 _ a w hR c1 c2 c3 c4 Q;have an:i<listed.size:=Q0
  refine wpOp_mono (λa' w' b1=>?_) b8;refine ih (listed.setIfInBounds i true) a' w' (by simpa using aq) ?_ ?_ ?_
  ·intro j oj a4 hl e he hb;rw[SQ an]at hl ⊢;rcases hl with rfl | hl
   ·have:oj=o:=by
     have:ops[j]? = some oj:=by simpa using a4
     rw[ho]at this;injection this with this;exact this.symm
    subst this;exact .inr (bz e he hb)
   ·exact .inr (ba j oj a4 hl e he hb)
  ·have:(List.range ops.size).countP (λj=>!(listed.setIfInBounds i true).getD j false)<(List.range ops.size).countP (λj=>!listed.getD j false):=by
    refine SK (i:=i) (by simpa using bp) (λx _ hx=>?_) ?_ ?_
    ·cases hl:listed.getD x false with
     |false=>rfl
     |true=>
      have:Lst (listed.setIfInBounds i true) x:=(SQ an).2 (.inr hl);simp only[Lst]at this;rw[this]at hx;cases hx
    ·cases hl:listed.getD i false with
     |false=>rfl
     |true=>exact absurd hl az
    ·have:Lst (listed.setIfInBounds i true) i:=(SQ an).2 (.inl rfl);simp only[Lst]at this;rw[this];rfl
   omega
  ·have ai:∀k,k≠i->(Lst (listed.setIfInBounds i true) (0+k)↔Lst listed (0+k)):=λk hk=>by
    rw[SQ an];simp only[QpO];exact⟨λh=>h.resolve_left hk,.inr⟩
   have bb:Lst (listed.setIfInBounds i true) (0+i):=by rw[SQ an];exact .inl (QpO i)
   refine b1.same ?_ (λt=>?_) ?_
   ·rw[Q1k];simp[put,Q1k]
   ·rw[Lj,Q9g];by_cases e:rc.dst=some t
    ·rw[if_pos e];refine Q7z recs 0 i rc _ am bb e rfl λk' b hk hb hl=>?_
     intro ay;rw[ai k' Q0]at hl;simp only[QpO]at hl;exact ak k' b hk hb (.inl (by simp[WX,e,ay])) hl
    ·rw[QpV e,Lj];refine Ez recs 0 _ λk b hb ay=>ai k (λe2=>?_)
     subst e2;rw[am]at hb;injection hb with hb;subst hb
     exact e ay
   ·rw[DM];funext l;have:look (put (Dw listed 0 aa recs) rc.dst rc.dl).h l=KQ (hA listed 0 (look aa.h) recs) rc.dl.wr l:=by
     simp only[put,Hc,DM]
    rw[this];by_cases e:l∈wrL rc.dl
    ·exact Q9p _ recs 0 i rc _ am bb e λk' b hk hb hl hw=>by
      rw[ai k' Q0]at hl;simp only[QpO]at hl;exact ak k' b hk hb (.inl (by simp[WX,RP e hw])) hl
    ·rw[UM e];refine Bf recs 0 _ _ rfl λk b hb hw=>ai k (λe2=>?_)
     subst e2;rw[am]at hb;injection hb with hb;subst hb
     exact e hw
end
end Go.Vx
namespace Go.Vx
variable{β:Nat->oP Nat} {S:Nat->Prop} {w:World} {st:St} {a:Act}
section
variable{P:Program} {E:Env} {R:Type}
def inv(ρ:List (Nat×Nat))(k:Nat):oP Nat:=
 match ρ with
 |[]=>none
 |(l,l')::r=>if l'=k then some l else inv r k
theorem Q9T{k l:Nat}:∀{ρ:List (Nat×Nat)},inv ρ k=some l->(l,k)∈ρ
 |(a,b)::r,h=>by
  unfold inv at h;by_cases e:b=k
  ·rw[if_pos e]at h;injection h with h;subst e;subst h;simp
  ·rw[QpV e]at h;simp[Q9T h]
theorem Ho{ρ:List (Nat×Nat)}{f:Nat×Nat->Nat}(h:Xm (ρ.map f)=true):∀p q,p∈ρ->q∈ρ->f p=f q->p=q:=by
 induction ρ with
 |nil=>simp_all
 |cons x r ih=>
  simp only[QpQ,Xm,QpD,QpK]at h;have hx:∀q∈r,f q≠f x:=λq hq e=>by
   have:PL (f x) (r.map f)=true:=B5.2 (QpW.2 ⟨q,hq,e⟩)
   simp_all
  grind
theorem Q4d{ρ:List (Nat×Nat)}(h:Xm (ρ.map (·.2))=true){l k:Nat}(hm:(l,k)∈ρ):inv ρ k=some l:=by
 induction ρ with
 |nil=>simp at hm
 |cons x r ih=>
  obtain⟨a,b⟩:=x;unfold inv;by_cases e:b=k
  ·have:=Ho h (a,b) (l,k) Q2 hm e
   simp_all
  ·rcases QpJ.1 hm with hm | hm
   all_goals simp_all [absurd,QpQ,Xm,QpD]
theorem Y2{α:Type}{l:Nat}{o:α}:∀{ρ:List (Nat×α)},look ρ l=some o->(l,o)∈ρ
 |(a,b)::r,h=>by
  rw[Xd]at h;by_cases e:l=a
  ·rw[if_pos e]at h;injection h with h;subst e;subst h;simp
  ·rw[QpV e]at h;simp[Y2 h]
theorem S9{ρ:List (Nat×Nat)}{h:List (Nat×Ob)}:∀{ρs:List (Nat×Nat)} {k:Nat} {o:Ob},look (D2 ρ h ρs) k=some o->∃l o',(l,k)∈ρs/\look h l=some o'/\o=QcE ρ o'
 |[],k,o,hk=>by simp[D2,look]at hk
 |(l,l')::r,k,o,hk=>by
  unfold D2 at hk;split at hk
  ·rename_i o' aa;rw[Xd]at hk;by_cases e:k=l'
   ·rw[if_pos e]at hk;injection hk with hk
    subst e;exact⟨l,o',by simp,aa,hk.symm⟩
   ·rw[QpV e]at hk;obtain⟨l2,o2,h1,h2⟩:=S9 hk;exact⟨l2,o2,by simp[h1],h2⟩
  ·obtain⟨l2,o2,h1,h2⟩:=S9 hk;exact⟨l2,o2,by simp[h1],h2⟩
theorem SG{ρ:List (Nat×Nat)}{h:List (Nat×Ob)}:∀{ρs:List (Nat×Nat)} {l k:Nat} {o:Ob},Xm (ρs.map (·.2))=true->(l,k)∈ρs->look h l=some o->look (D2 ρ h ρs) k=some (QcE ρ o)
 |[],l,k,o,_,hm,_=>by simp at hm
 |(a,b)::r,l,k,o,hn,hm,ho=>by
  have ak:=hn;simp only[QpQ,Xm,QpD,QpK]at hn;unfold D2;rcases QpJ.1 hm with e | aa
  ·injection e with e1 e2
   subst e1;subst e2;rw[ho];simp[Xd]
  ·have ac:k≠b:=λe=>by
    subst e;have:PL k (r.map (·.2))=true:=B5.2 (QpW.2 ⟨(l,k),aa,rfl⟩);rw[hn.1]at this;cases this
   have ih:=SG (ρ:=ρ) (h:=h) hn.2 aa ho;split
   ·rw[Xd,QpV ac];exact ih
   ·exact ih
theorem VK{ρ:List (Nat×Nat)}:∀{l:List AV} {i:Nat},(Q3j ρ l)[i]? = (l[i]?).map (U8 ρ)
 |[],i=>by simp[Q3j]
 |a::r,0=>by simp[Q3j]
 |a::r,i+1=>by simp only[Q3j,List.getElem?_cons_succ];exact VK
theorem Z7{ρ:List (Nat×Nat)}:∀{l:List AV},(Q3j ρ l).length=l.length
 |[]=>rfl
 |a::r=>by simp[Q3j,Z7 (l:=r)]
theorem Q1B{ρ:List (Nat×Nat)}{ty:TypeId}{cells:List AV}(h:Q5m ty cells):Q5m ty (Q3j ρ cells):=by
 intro i l t hi;rw[VK,QpE]at hi;obtain⟨y,hy,he⟩:=hi;cases y with
 |sa l' t'=>
  simp only[U8]at he;split at he
  ·injection he with h1 h2
   subst h2;exact h i l' _ hy
  ·cases he
 |ptr a b=>grind[U8]
 |arr a=>grind[U8]
 |ap a b c=>simp only[U8]at he;split at he<;>cases he
 |_=>trivial
theorem Qcd{ty:TypeId}{cells:List AV}{c l:Nat}(h:Q5m ty cells):Q5m ty (cells.set c (.arr l)):=by
 intro i l' t hi;rw[List.getElem?_set]at hi;split at hi
 ·simp_all
 ·exact h i l' t hi
theorem Q7k{ρ:List (Nat×Nat)}{h:List (Nat×Ob)}(hn:Xm (ρ.map (·.2))=true){β':Nat->oP Nat}(ar:∀l k,(l,k)∈ρ->β' k=β l){tm:Nat->Value}{v:Value}{av:AV}(hv:RdA β S (look h) w tm v av):RdA β' S (look (D2 ρ h ρ)) w tm v (U8 ρ av):=by
 have hβ:∀{l l':Nat},look ρ l=some l'->β' l'=β l:=λ{l l'} hl=>ar l l' (Y2 hl)
 have ac:∀{l l':Nat},look ρ l=some l'->look h l=none->look (D2 ρ h ρ) l'=none:=λ{l l'} hl hh=>by
  cases hk:look (D2 ρ h ρ) l' with
  |none=>rfl
  |some o=>
   obtain⟨l2,o2,h1,h2,_⟩:=S9 hk;have e1:=Q4d hn h1;rw[Q4d hn (Y2 hl)]at e1
   simp_all
 induction hv with
 |top v=>exact .top v
 |d v x hx=>exact .d v x hx
 |nil=>exact .nil
 |ag cs l hl _ ih=>
  refine .ag cs _ (by grind[Z7]) λi x hx=>?_
  grind[VK,Option.map_eq_some_iff]
 |tup cs l hl _ ih=>
  refine .tup cs _ (by rw[Z7];exact hl) λi x hx=>?_
  rw[VK,QpE]at hx
  grind
 |fn f cs l hl _ ih=>
  refine .fn f cs _ (by rw[Z7];exact hl) λi x hx=>?_
  rw[VK,QpE]at hx;obtain⟨y,hy,rfl⟩:=hx;exact ih i y hy
 |ptr l off b hb=>
  unfold U8;split
  ·rename_i l' hl;exact .ptr _ _ _ ((hβ hl).trans hb)
  ·exact .top _
 |sa v l t b hb hv=>
  unfold U8;split
  ·rename_i l' hl;exact .sa _ _ _ b ((hβ hl).trans hb) hv
  ·exact .top _
 |el ad row off c hs hc hr=>exact .el ad row off c hs hc hr
 |fs ad s rows hx=>exact .fs ad s rows hx
 |mpd v f hm=>exact .mpd v f hm
 |ex v=>exact .ex v
 |arr0 l e s hb hh=>
  unfold U8;split
  ·rename_i l' hl;exact .arr0 _ e s ((hβ hl).trans hb) (SG hn (Y2 hl) hh)
  ·exact .top _
 |arr l b cap e s rows cs ty fz hb hh hw aq an ao=>
  unfold U8;split
  ·rename_i l' hl;exact .arr _ b cap e s rows cs ty fz ((hβ hl).trans hb) (SG hn (Y2 hl) hh) hw aq an ao
  ·exact .top _
 |mp l b t f hb hh=>
  unfold U8;split
  ·rename_i l' hl;exact .mp _ b t f ((hβ hl).trans hb) (SG hn (Y2 hl) hh)
  ·exact .top _
 |ap l i off b e s rows hb hh=>
  unfold U8;split
  ·rename_i l' hl;exact .ap _ i off b e s rows ((hβ hl).trans hb) (SG hn (Y2 hl) hh)
  ·exact .top _
 |dang v av l hl hh h1=>
  cases av<;>simp[TZ]at hl
  ·subst hl;unfold U8;split
   ·rename_i l' ak;exact .dang _ _ l' rfl (ac ak hh) h1
   ·exact .top _
  ·subst hl;unfold U8;split
   ·rename_i l' ak;exact .dang _ _ l' rfl (ac ak hh) h1
   ·exact .top _
 |gdT=>exact .top _
 |gdF=>exact .top _
theorem Q1r{ρ:List (Nat×Nat)}{tm:List (Nat×AV)}{t:Nat}{av:AV}:∀{ks:List Nat},look (Qas ρ tm ks) t=some av->av=U8 ρ (lkT tm t)
 |k::r,h=>by
  simp only[Qas,Xd]at h;by_cases e:t=k
  ·rw[if_pos e]at h;injection h with h;rw[<- h,e]
  ·rw[QpV e]at h;exact Q1r h
theorem QbU{ρ:List (Nat×Nat)}{ks:List Nat}(h1:Xm (ρ.map (·.1))=true)(h2:Xm (ρ.map (·.2))=true)(h3:∀l k,(l,k)∈ρ->l=k\/k<=999999)(h:JB E st a w):JB E { n:=st.n,tm:=Qas ρ st.tm ks,h:=D2 ρ st.h ρ } a w:=by
 obtain⟨β,S,hR⟩:=h;have hβ:∀l k,(l,k)∈ρ->(if 1000000<=k then β k else(inv ρ k).bind β)=β l:=by
  intro l k hm;split
  ·grind
  ·rw[Q4d h2 hm];rfl
 have aa:∀{k b:Nat},(look (D2 ρ st.h ρ) k).isSome=true->(if 1000000<=k then β k else(inv ρ k).bind β)=some b->∃l,(l,k)∈ρ/\(look st.h l).isSome=true/\β l=some b:=by
  grind[Option.isSome_iff_exists,S9]
 refine⟨λk=>if 1000000<=k then β k else(inv ρ k).bind β,S,hR.n,hR.dfr,λt av ht=>?_,⟨λk o ho=>?_,λk k' b s1 s2 b1 b2=>?_,λk b s1 b1=>?_,λk b s1 b1=>?_,hR.hr.sb,hR.hr.sfr,hR.hr.s0,hR.hr.fr,λk hk=>by simp only[if_pos hk];exact hR.hr.pin k hk,λk b hk s1 b1=>?_⟩⟩
 ·rw[Q1r ht];refine Q7k h2 hβ ?_;unfold lkT;cases hl:look st.tm t with
  |none=>exact .top _
  |some ax=>exact hR.tm t ax hl
 ·obtain⟨l,o',g1,g2,rfl⟩:=S9 ho;have ai:=hβ l k g1;have ak:=hR.hr.ob l o' g2;cases o' with
  |box cells=>
   obtain⟨b,ty,cs,fz,hb,hw,hf,am,hr⟩:=ak;refine⟨b,ty,cs,fz,ai.trans hb,hw,⟨hf.1,Q1B hf.2⟩,by rw[am,Z7],λi x hx=>?_⟩;rw[VK,QpE]at hx;obtain⟨y,hy,rfl⟩:=hx
   grind[Q7k]
  |arr e s rows=>
   rcases ak with⟨hb,hn⟩|⟨b,cs,hb,hw,am,ar,hr⟩
   ·exact .inl ⟨ai.trans hb,hn⟩
   ·exact .inr ⟨b,cs,ai.trans hb,hw,am,ar,hr⟩
  |mp t f=>
   obtain⟨b,hb,hm⟩:=ak;exact⟨b,ai.trans hb,hm⟩
 ·obtain⟨l,g1,g2,g3⟩:=aa s1 b1;obtain⟨l',ao,aq,aw⟩:=aa s2 b2;have:=hR.hr.inj l l' b g2 aq g3 aw;subst this;have:=Ho h1 (l,k) (l,k') g1 ao rfl
  simp_all
 ·obtain⟨l,g1,g2,g3⟩:=aa s1 b1;exact hR.hr.apart l b g2 g3
 ·obtain⟨l,g1,g2,g3⟩:=aa s1 b1;exact hR.hr.own l b g2 g3
 ·obtain⟨l,g1,g2,g3⟩:=aa s1 b1;rcases h3 l k g1 with h | h
  ·subst h;exact hR.hr.psz l b hk g2 g3
  ·omega
theorem Q4p{t k:Nat}{v av:AV}:∀{tm:List (Nat×AV)},look (QhV tm t v) k=some av->(k=t/\av=v)\/look tm k=some av
 |(a,b)::r,h=>by
  unfold QhV at h;cases hb:Nat.beq a t with
  |true=>
   have:=QpC hb;subst this;simp only[hb,QpI,Xd]at h;by_cases e:k=a
   ·rw[if_pos e]at h;injection h with h;exact .inl ⟨e,h.symm⟩
   ·rw[QpV e]at h;exact .inr (by rw[Xd,QpV e];exact h)
  |false=>
   simp only[hb,QpT,Xd]at h;by_cases e:k=a
   ·rw[if_pos e]at h;exact .inr (by rw[Xd,if_pos e];exact h)
   ·rw[QpV e]at h;rcases Q4p h with h | h
    ·exact .inl h
    ·exact .inr (by rw[Xd,QpV e];exact h)
theorem Q43(hR:Rel E β S st a w){l e s:Nat}(hc:Uu st l=true)(hn:look st.h l=none):Rel E (RF β l none) S ⟨st.n,st.tm,(l,.arr e s [])::st.h⟩ a w:=by
 have ac:∀k,look ((l,Ob.arr e s [])::st.h) k=if k=l then some (.arr e s [])else look st.h k:=λk=>Xd l k _ st.h
 have aa:∀{k b:Nat},(look ((l,Ob.arr e s [])::st.h) k).isSome=true->RF β l none k=some b->(look st.h k).isSome=true/\β k=some b:=by
  intro k b h1 h2
  simp_all [RF,if_pos,QpV]
 refine hR.upd (λ_ h=>h) (λ_ _=>rfl) (λk=>k=l) (λk hk=>⟨by grind[RF],by simp_all,λ_ _ _=>rfl⟩) (λk hk=>.inr (hk▸hc)) (λk o hk ho=>?_) (λk k' b h1 h2 h3 h4=>?_) (λk b h1 h2=>?_) (λk b h1 h2=>?_) hR.hr.sb hR.hr.sfr hR.hr.fr
 ·subst hk;rw[ac,if_pos rfl]at ho;injection ho with ho
  subst ho;exact .inl ⟨by simp[RF],rfl⟩
 ·exact hR.hr.inj k k' b (aa h1 h3).1 (aa h2 h4).1 (aa h1 h3).2 (aa h2 h4).2
 ·exact hR.hr.apart k b (aa h1 h2).1 (aa h1 h2).2
 ·exact hR.hr.own k b (aa h1 h2).1 (aa h1 h2).2
theorem B4{a:Act}{w:World}:∀(l:List (Nat×Nat×Nat×Nat)) (st:St),JB E st a w->JB E (Qfl st l) a w
 |[],st,h=>h
 |(t,l,e,s)::r,st,h=>by
  unfold Qfl;split
  ·rename_i ac;cases hc:(Uu st l&&(look st.h l).isNone)with
   |false=>simp only[QpT];exact B4 r st h
   |true=>
    simp only[QpI];refine B4 r _ ?_;simp only[QpD,Option.isNone_iff_eq_none]at hc;obtain⟨β,S,hR⟩:=h;have aa:=Q43 (e:=e) (s:=s) hR hc.1 hc.2;have hv:=(hR.tm t _ (R2 ac Q2)).nil_inv;refine⟨_,S,aa.n,aa.dfr,λt' av ht=>?_,aa.hr⟩;rcases Q4p ht with⟨rfl,rfl⟩ | ht
    ·rw[hv];exact .arr0 l e s (by simp[RF]) (by simp[Xd])
    ·exact aa.tm t' av ht
  ·exact B4 r st h
theorem Er{a:Act}{w:World}:∀(l:List (Nat×Nat×Nat×Nat×Nat)) (st:St),JB E st a w->JB E (Qfc st l) a w
 |[],st,h=>h
 |(b,c,l,e,s)::r,st,h=>by
  unfold Qfc;split
  ·rename_i cells a3;split
   ·rename_i an;cases hc:(Uu st l&&(look st.h l).isNone)with
    |false=>simp only[QpT];exact Er r st h
    |true=>
     simp only[QpI];refine Er r _ ?_;simp only[QpD,Option.isNone_iff_eq_none]at hc;obtain⟨β,S,hR⟩:=h;have ax:b≠l:=λe=>by simp_all
     have ar:=Q43 (e:=e) (s:=s) hR hc.1 hc.2;have aa:look ((l,Ob.arr e s [])::st.h) b=some (.box cells):=by simp_all [Xd,QpV]
     obtain⟨bb,ty,cs,fz,hb,hw,hf,az,hr⟩:=ar.hr.ob b _ aa;have aw:=ar.set (w':=w) (o':=.box (cells.set c (.arr l))) aa hb (λ_ _=>rfl) rfl rfl rfl rfl ?_ ?_
     ·refine JB.same ⟨_,S,aw⟩ rfl (λ_=>rfl) ?_
      grind[Xd,B6]
     ·refine⟨rfl,λh=>?_,λe' s' rows h=>?_,λb2 ac ak am _ _ ai=>⟨ac,ak,am,ai,rfl⟩,λt f h=>by simp_all⟩
      all_goals grind
     ·have ao:∀k,Keep (RF β l none) (look ((l,Ob.arr e s [])::st.h)) w (RF β l none) (look ((b,.box (cells.set c (.arr l)))::rem b ((l,Ob.arr e s [])::st.h))) w k:=by
       intro k;by_cases e1:k=b
       ·subst e1;refine⟨rfl,λh=>?_,λe' s' rows h=>?_,λb2 ac ak am _ _ ai=>⟨ac,ak,am,ai,rfl⟩,λt f h=>by rw[aa]at h;cases h⟩
        ·rw[aa]at h;cases h
        ·rw[aa]at h;cases h
       ·refine⟨rfl,λh=>by rw[WW,QpV e1];exact h,λe' s' rows h=>.inr ⟨rows,by rw[WW,QpV e1];exact h,rfl⟩,λb2 ac ak am _ _ ai=>⟨ac,ak,am,ai,rfl⟩,λ_ f h=>.inr ⟨f,by rw[WW,QpV e1];exact h⟩⟩
      refine⟨bb,ty,cs,fz,hb,hw,⟨hf.1,Qcd hf.2⟩,by simpa using az,λi x hx=>?_⟩;by_cases e1:i=c
      ·subst e1;have ay:=(QpF.1 an).1;rw[List.getElem?_set_self ay]at hx;injection hx with hx
       subst hx;rw[(hr i _ an).nil_inv];exact .arr0 l e s (by simp[RF]) (by rw[WW,QpV (Ne.symm ax),Xd,if_pos rfl])
      ·rw[List.getElem?_set_ne (Ne.symm e1)]at hx;exact(hr i x hx).mono (λ_ h=>h) (λ_ _=>rfl) (λk _=>ao k) (λ_ _=>rfl)
   ·exact Er r st h
  ·exact Er r st h
theorem Qaj(c:Cfg)(h:JB E st a w):JB E (Qex c st) a w:=by
 unfold Qex;cases hc:(Xm (c.locs.map (·.1))&&(Xm (c.locs.map (·.2))&&c.locs.all λp=>Nat.beq p.1 p.2||Nat.ble p.2 999999))with
 |false=>simpa using h
 |true=>
  simp only[QpD]at hc;exact Er _ _ (B4 _ _ (QbU hc.1 hc.2.1 (λl k hm=>by
   simp_all) h))
theorem Ds{l s:Nat}{rows:List (List D)}:∀{r:List AV} {i:Nat},(fzL l s rows r)[i]? = (r[i]?).map (fzA l s rows)
 |[],i=>by simp[fzL]
 |a::r,0=>by simp[fzL]
 |a::r,i+1=>by simp only[fzL,List.getElem?_cons_succ];exact Ds
theorem SF{l s:Nat}{rows:List (List D)}:∀{r:List AV},(fzL l s rows r).length=r.length
 |[]=>rfl
 |a::r=>by simp[fzL,SF (r:=r)]
theorem Q7K{l s:Nat}{rows:List (List D)}{t:Nat}:∀{tm:List (Nat×AV)},look (fzT l s rows tm) t=(look tm t).map (fzA l s rows)
 |[]=>rfl
 |(a,b)::r=>by
  simp only[fzT,Xd];by_cases e:t=a
  ·simp[e]
  ·simp only[e,if_false];exact Q7K
theorem As{l s:Nat}{rows:List (List D)}{k:Nat}:∀{h:List (Nat×Ob)},look (Qdd l s rows h) k=if k=l then none else(look h k).map (fzO l s rows)
 |[]=>by simp[Qdd,look]
 |(a,b)::r=>by
  simp only[Qdd];cases hb:Nat.beq a l with
  |true=>
   have:=QpC hb;subst this;simp only[QpI];rw[As (h:=r),Xd];by_cases e:k=a
   ·simp[e]
   ·simp[e]
  |false=>
   have aa:a≠l:=λe=>by subst e;simp at hb
   simp only[QpT,Xd];by_cases e:k=a
   ·subst e;simp[aa]
   ·simp only[e,if_false];exact As
theorem Qev{ty:TypeId}{l s:Nat}{rows:List (List D)}{cells:List AV}(h:Q5m ty cells):Q5m ty (fzL l s rows cells):=by
 intro i l' t hi;rw[Ds,QpE]at hi;obtain⟨y,hy,he⟩:=hi;cases y with
 |sa a b=>injection he with h1 h2;subst h2;exact h i a _ hy
 |arr k=>grind[fzA,Nat.beq]
 |ap k a b=>grind[fzA]
 |_=>trivial
theorem QcO{h h':Nat->oP Ob}{l e s:Nat}{rows:List (List D)}(hO:Objs β S h w)(hh:h l=some (.arr e s rows))(am:∀k,h' k=if k=l then none else(h k).map (fzO l s rows)){S':Nat->Prop}(hS:∀b,S b->S' b)(hb:∀b,β l=some b->S' b){tm:Nat->Value}{v:Value}{av:AV}(hv:RdA β S h w tm v av):RdA β S' h' w tm v (fzA l s rows av):=by
 induction hv with
 |top v=>exact .top v
 |d v x hx=>exact .d v x (hx.mono hS (λ_ _=>rfl))
 |nil=>exact .nil
 |ag cs r hl _ ih=>
  refine .ag cs _ (by grind[SF]) λi x hx=>?_
  grind[Ds,Option.map_eq_some_iff]
 |tup cs r hl _ ih=>
  refine .tup cs _ (by rw[SF];exact hl) λi x hx=>?_
  rw[Ds,QpE]at hx
  grind
 |fn f cs r hl _ ih=>
  refine .fn f cs _ (by rw[SF];exact hl) λi x hx=>?_
  rw[Ds,QpE]at hx;obtain⟨y,hy,rfl⟩:=hx;exact ih i y hy
 |ptr k off b aa=>exact .ptr k off b aa
 |sa v k t b aa hv=>exact .sa v k t b aa hv
 |el ad row off c hs hc hr=>exact .el ad row off c (hS _ hs) hc (λj x hx=>(hr j x hx).mono hS (λ_ _=>rfl))
 |fs ad s rows hx=>exact .fs ad s rows (hx.mono hS (λ_ _=>rfl))
 |mpd v f hm=>exact .mpd v f (hm.mono hS (λ_ _=>rfl))
 |ex v=>exact .ex v
 |arr0 k e' s' aa hk=>
  unfold fzA;cases ak:Nat.beq k l with
  |true=>
   obtain rfl:=QpC ak;rw[hh]at hk;injection hk with hk
   injection hk with _ _ hk
   subst hk;exact .d _ _ (.sl0 _ _ _)
  |false=>
   have ac:k≠l:=λe=>by simp_all
   exact .arr0 k e' s' aa (by rw[am,QpV ac,hk];rfl)
 |arr k b cap e' s' ai cs ty fz aa hk hw ar an ao=>
  unfold fzA;cases ak:Nat.beq k l with
  |true=>
   obtain rfl:=QpC ak;exact .d _ _ (Q7E hO hh (RdA.arr (tm:=tm) k b cap e' s' ai cs ty fz aa hk hw ar an ao) hS hb)
  |false=>
   have ac:k≠l:=λe=>by subst e;simp at ak
   exact .arr k b cap e' s' ai cs ty fz aa (by rw[am,QpV ac,hk];rfl) hw ar an ao
 |mp k b t f aa hk=>
  unfold fzA;cases ak:Nat.beq k l with
  |true=>
   simp_all
  |false=>
   have ac:k≠l:=λe=>by subst e;simp at ak
   exact .mp k b t f aa (by rw[am,QpV ac,hk];rfl)
 |ap k i off b e' s' ai aa hk=>
  unfold fzA;cases ak:Nat.beq k l with
  |true=>exact .top _
  |false=>
   have ac:k≠l:=λe=>by subst e;simp at ak
   exact .ap k i off b e' s' ai aa (by rw[am,QpV ac,hk];rfl)
 |dang v av k hl hk h1=>
  have ac:k≠l:=λe=>by simp_all
  have hn:h' k=none:=by rw[am,QpV ac,hk];rfl
  cases av<;>simp[TZ]at hl
  ·subst hl;unfold fzA;rw[Qej ac];exact .dang _ _ _ rfl hn h1
  ·subst hl;unfold fzA;rw[Qej ac];exact .dang _ _ _ rfl hn h1
 |gdT=>exact .top _
 |gdF=>exact .top _
theorem Qf3(l:Nat)(h:JB E st a w):JB E (fz1 st l) a w:=by
 unfold fz1;split
 case h_2=>exact h
 rename_i e s rows hl;obtain⟨β,S,hR⟩:=h;have hO:=hR.objs;have aq:∀k,look (Qdd l s rows st.h) k=if k=l then none else(look st.h k).map (fzO l s rows):=λk=>As
 have hS:∀b,S b->fzS β S [l] b:=λb hb=>.inl hb
 have aw:∀b,β l=some b->fzS β S [l] b:=λb hb=>.inr ⟨l,by simp,hb⟩
 have aa:∀k,(look (Qdd l s rows st.h) k).isSome=true->(look st.h k).isSome=true/\k≠l:=by
  grind
 refine⟨β,fzS β S [l],hR.n,hR.dfr,λt av ht=>?_,⟨λk o ho=>?_,λk k' b h1 h2=>hR.hr.inj k k' b (aa k h1).1 (aa k' h2).1,λk b h1 h2 ac=>?_,λk b h1 h2=>hR.hr.own k b (aa k h1).1 h2,λb ac=>?_,λb ac=>?_,λb hb=>.inl (hR.hr.s0 b hb),hR.hr.fr,hR.hr.pin,λk b hk h1=>hR.hr.psz k b hk (aa k h1).1⟩⟩
 ·rw[Q7K,QpE]at ht;obtain⟨a4,h1,rfl⟩:=ht;exact QcO hO hl aq hS aw (hR.tm t a4 h1)
 ·simp only at ho;rw[aq]at ho;by_cases e1:k=l
  ·simp_all
  ·rw[QpV e1,QpE]at ho;obtain⟨o',a3,rfl⟩:=ho;have am:=hR.hr.ob k o' a3;cases o' with
   |box cells=>
    obtain⟨b,ty,cs,fz,hb,hw,hf,an,hr⟩:=am;refine⟨b,ty,cs,fz,hb,hw,⟨hf.1,Qev hf.2⟩,by rw[an,SF],λi x hx=>?_⟩;rw[Ds,QpE]at hx;obtain⟨y,hy,rfl⟩:=hx
    grind[QcO]
   |arr e' s' az=>
    rcases am with h0 | ⟨b,cs,hb,hw,an,a2,hr⟩
    ·exact .inl h0
    ·refine .inr ⟨b,cs,hb,hw,an,a2,λi j r x h4 h5=>?_⟩;obtain⟨v,hv,ay⟩:=hr i j r x h4 h5;exact⟨v,hv,ay.mono hS (λ_ _=>rfl)⟩
   |mp t f=>exact am
 ·obtain⟨ao,ax⟩:=aa k h1;rcases ac with ac | ⟨l',ai,ak⟩
  ·exact hR.hr.apart k b ao h2 ac
  ·simp at ai;subst ai;exact ax (hR.hr.inj k l' b ao (by simp[hl]) h2 ak)
 ·rcases ac with ac | ⟨l',ai,ak⟩
  ·exact hR.hr.sb b ac
  ·simp at ai;subst ai;exact Kv hR (by simp[hl]) ak
 ·rcases ac with ac | ⟨l',ai,ak⟩
  ·exact hR.hr.sfr b ac
  ·simp at ai;subst ai;exact .inr (hR.hr.own l' b (by simp[hl]) ak)
theorem Qb8{a:Act}{w:World}:∀(ls:List Nat) (st:St),JB E st a w->JB E (fzs st ls) a w
 |[],_,h=>h
 |l::r,_,h=>Qb8 r _ (Qf3 l h)
theorem P3(c:Cfg)(h:JB E st a w):JB E (Qe6 c st) a w:=Qaj _ (Qb8 c.fz st h)
theorem Q8V(c:Cfg)(h:JB E st a w):JB E (Qcz c st) a w:=by
 grind[Qcz,P3]
end
end Go.Vx
namespace Go.Vx
variable{β:Nat->oP Nat} {S:Nat->Prop} {w:World}
section
variable{P:Program} {E:Env} {R:Type}
theorem JB.drawn{st:St}{a:Act}{w:World}(h:JB E st a w)(n:Nat):JB E st a { w with drawn:=n }:=by
 obtain⟨β,S,hR⟩:=h;have hA:∀(tm:Nat->Value) (v:Value) (av:AV),RdA β S (look st.h) w tm v av->RdA β S (look st.h) { w with drawn:=n } tm v av:=λtm v av hv=>
  hv.mono (λ_ h=>h) (λ_ _=>rfl) (λl _=>⟨rfl,λx=>x,λ_ _ rows hh=>.inr ⟨rows,hh,rfl⟩,λ_ cs ty fz _ _ hw=>⟨cs,ty,fz,hw,rfl⟩,λ_ f hh=>.inr ⟨f,hh⟩⟩) (λ_ _=>rfl)
 refine⟨β,S,hR.n,hR.dfr,λt av ht=>hA _ _ _ (hR.tm t av ht),⟨λl o ho=>?_,hR.hr.inj,hR.hr.apart,hR.hr.own,hR.hr.sb,hR.hr.sfr,hR.hr.s0,⟨hR.hr.fr.os,hR.hr.fr.tape,hR.hr.fr.output,hR.hr.fr.size,hR.hr.fr.block⟩,hR.hr.pin,hR.hr.psz⟩⟩;have aa:=hR.hr.ob l o ho;cases o with
 |box cells=>
  obtain⟨b,ty,cs,fz,hb,hw,hf,ac,hr⟩:=aa;exact⟨b,ty,cs,fz,hb,hw,hf,ac,λi x hx=>hA _ _ _ (hr i x hx)⟩
 |arr e s rows=>
  rcases aa with h0 | ⟨b,cs,hb,hw,ac,am,hr⟩
  ·exact .inl h0
  ·refine .inr ⟨b,cs,hb,hw,ac,am,λi j r x h4 h5=>?_⟩;obtain⟨v,hv,ai⟩:=hr i j r x h4 h5;exact⟨v,hv,Rd.mono (w:=w) (w':={ w with drawn:=n }) (λ_ h=>h) (λ_ _=>rfl) ai⟩
 |mp t f=>exact aa
structure VCOk(P:Program)(C:VC):Prop where
 spec:BO P C.spec
 tt:TOk P C.tt
 mixed:P.follows .mixedOrders=true
def E6(E:Env)(k:Exit->St->oP R)(r:R):Exit->Act->World->Prop:=λe a w=>∃st,JB E st a w/\k e st=some r
theorem Fl{C:VC}(hC:VCOk P C){id:Nat}{ops:Array Oper}{aa:Bool}{st:St}{k:St->oP R}{r:R}(h:Q1A C id ops aa st k=some r){a:Act}(hR:JB E st a w){Q:Exit->Act->World->Prop}(hQ:∀st' a' w',JB E st' a' w'->k st'=some r->Q .normal a' w'):(Code.region id ops aa).wp P Q a w:=by
 unfold Q1A at h;obtain⟨recs,st',ac,h,ai⟩:∃recs st',recs.length=ops.toList.length/\(λst' recs=>bif !aa||Q3v st ops.toList recs then(match look C.cfg id with | some c=>k (Qcz c st') | none=>k st')else none) st' ([]++recs)=some r/\AN P E ops 0 st recs st':=by
  cases hs:(look C.cfg (id+1000000000)).isSome with
  |true=>simp only[hs,QpI]at h;exact AT (E:=E) hC.spec hC.tt ops.toList 0 st [] _ r (λj=>by simp) h
  |false=>simp only[hs,QpT]at h;exact Q1p (E:=E) hC.spec hC.tt ops.toList 0 st [] _ r (λj=>by simp) h
 simp only[List.nil_append]at h;cases hc:(!aa||Q3v st ops.toList recs)with
 |false=>simp_all
 |true=>
  simp only[hc,QpI]at h;have ak:∀a w,JB E st' a w->Q .normal a w:=by
   grind[Q8V]
  simp only[Array.length_toList]at ac;cases aa with
  |false=>
   grind[wp_region,Q93,List.range_eq_range']
  |true=>
   simp only[Bool.not_true,Bool.false_or]at hc;refine wp_region_any hC.mixed ?_;refine Qbo ac ai hc ak ops.size _ a _ Q2 ?_ ?_ ?_
   ·intro j o _ hl
    simp_all [Lst,Array.getD]
   ·refine Nat.le_trans List.countP_le_length ?_;simp
   ·have h0:∀(rs:List Rec) (i:Nat) (s:St),Dw (Array.replicate ops.size false) i s rs=s:=by
     intro rs;induction rs with
     |nil=>intro i s;rfl
     |cons x r ih=>
      intro i s;simp only[Dw];have:(Array.replicate ops.size false).getD i false=false:=by simp[Array.getD]
      rw[this];exact ih (i+1) s
    rw[h0];exact hR.drawn _
theorem Q02{c:Code}{ac:St->(Exit->St->oP R)->oP R}(aa:∀(st:St) (k:Exit->St->oP R) (r:R),ac st k=some r->∀a w,JB E st a w->c.wp P (E6 E k r) a w) :
  ∀(n:Nat) (st:St) (k:Exit->St->oP R) (r:R),Q97 ac n st k=some r->∀a w,JB E st a w->Code.rounds P c (E6 E k r) n a w
 |0,st,k,r,h=>by simp[Q97]at h
 |n+1,st,k,r,h=>by
  intro a w hR;simp only[Q97]at h;rw[rounds_succ];refine wp_mono (aa st _ r h a w hR) λe a' w' hp=>?_
  obtain⟨st',ai,hk⟩:=hp;cases e with
  |normal=>exact Q02 aa n st' k r hk a' w' ai
  |exit id=>exact⟨st',ai,hk⟩
  |ret=>exact⟨st',ai,hk⟩
  |_=>cases hk
theorem Km{C:VC}(hC:VCOk P C)(n:Nat):∀(c:Code) (st:St) (k:Exit->St->oP R) (r:R),Gc C n c st k=some r->∀a w,JB E st a w->c.wp P (E6 E k r) a w:=by
 intro c;induction c with
 |skip=>intro st k r h a w hR;exact wp_skip ⟨st,hR,h⟩
 |region id ops an=>
  intro st k r h a w hR;exact Fl hC h hR λst' a' w' aa hk=>⟨st',aa,hk⟩
 |seq x y ak ac=>
  intro st k r h a w hR;refine wp_seq (wp_mono (ak st _ r h a w hR) λe a' w' hp=>?_);obtain⟨st',aa,hk⟩:=hp;cases e with
  |normal=>exact ac st' k r hk a' w' aa
  |exit id=>exact⟨st',aa,hk⟩
  |ret=>exact⟨st',aa,hk⟩
  |_=>cases hk
 |cond c x y ak ac=>
  intro st k r h a w hR;simp only[Gc]at h;split at h
  ·rename_i e he;obtain⟨β,S,ai⟩:=hR;have hv:=(he▸Q4X ai c).bool_inv;refine wp_cond hv ?_;cases e with
   |true=>exact ak st k r (by simpa using h) a w ⟨β,S,ai⟩
   |false=>exact ac st k r (by simpa using h) a w ⟨β,S,ai⟩
  ·cases h
 |block id c ih=>
  intro st k r h a w hR;refine wp_block (wp_mono (ih st _ r h a w hR) λe a' w' hp=>?_);obtain⟨st',aa,hk⟩:=hp;cases e with
  |normal=>exact⟨st',aa,hk⟩
  |exit j=>
   cases hb:Nat.beq j id with
   |true=>
    simp only[hb,QpI]at hk;have:=QpC hb;simp only[Exit.inBlock,this,if_true];exact⟨st',aa,hk⟩
   |false=>
    simp only[hb,QpT]at hk;have am:¬ j=id:=λe=>by simp_all
    simp only[Exit.inBlock,am,if_false];exact⟨st',aa,hk⟩
  |ret=>exact⟨st',aa,hk⟩
  |_=>cases hk
 |loop c ih=>
  intro st k r h a w hR;refine wp_loop_rounds _ (Q02 (λst k r h a w hR=>ih _ k r h a w ?_) _ st k r h a w hR)
  grind[Q15,P3]
 |exit id=>intro st k r h a w hR;exact wp_exit ⟨st,hR,h⟩
 |ret=>intro st k r h a w hR;exact wp_ret ⟨st,hR,h⟩
 |_=>grind[Gc]
theorem Pk:∀(t:Nat) (av:AV),NU av=true->gds t av=false
 |t,.gd ..,h=>by simp[NU]at h
 |t,.ag l,h=>by
  simp only[gds];exact go t l (by simpa[NU]using h)
 |t,.tup l,h=>by
  simp only[gds];exact go t l (by simpa[NU]using h)
 |t,.fn _ l,h=>by
  simp only[gds];exact go t l (by simpa[NU]using h)
 |t,.top,_=>rfl
 |t,.d _,_=>rfl
 |t,.nil,_=>rfl
 |t,.ptr ..,_=>rfl
 |t,.el ..,_=>rfl
 |t,.fs ..,_=>rfl
 |t,.mpd _,_=>rfl
 |t,.ex _,_=>rfl
 |t,.arr _,_=>rfl
 |t,.ap ..,_=>rfl
 |t,.sa ..,_=>rfl
where
 go:∀(t:Nat) (l:List AV),Kf l=true->Q05 t l=false
 |_,[],_=>rfl
 |t,a::r,h=>by
  simp only[Kf,QpD]at h;simp only[Q05,QpU];exact⟨Pk t a h.1,go t r h.2⟩
theorem EZ:∀{args:List AV} {i t:Nat} {av:AV},look (Q2m i args) t=some av->∃j,t=i+j/\args[j]? = some av
 |a::r,i,t,av,h=>by
  simp only[Q2m,Xd]at h;by_cases e:t=i
  ·rw[if_pos e]at h;injection h with h;exact⟨0,Q0,by simp[h]⟩
  ·rw[QpV e]at h;obtain⟨j,h1,h2⟩:=EZ h;exact⟨j+1,Q0,by simpa using h2⟩
theorem BP:∀{l:List AV} {i:Nat} {x:AV},Kf l=true->l[i]? = some x->NU x=true
 |a::r,i,x,h,hx=>by
  simp only[Kf,QpD]at h;cases i with
  |zero=>simp at hx;subst hx;exact h.1
  |succ i=>exact BP h.2 (by simpa using hx)
def Q5F(tmps:Array Value):ResultVar->Sem Value
 |.tmp t=>pure (tmps.getD t undef)
 |.cell x t=>do loadVar t (<- asAddr (tmps.getD x undef))
theorem Q1u(fn:Func)(tmps:Array Value):results fn tmps=(do
  let vs <- fn.results.mapM (Q5F tmps)
  pure (if h:vs.size=1 then vs[0]else .tuple vs)):=rfl
theorem Q13{ad:Addr}:(asAddr (.pointer (some ad))).run P w = .ok ad w:=by simp[asAddr]
theorem Q4H{C:VC}(hC:VCOk P C){st:St}{a:Act}(hR:Rel E β S st a w){rv:ResultVar}{av:AV}(h:Q4B C.tt st rv=some av) :
  ∃v,(Q5F a.tmps rv).run P w = .ok v w/\RdA β S (look st.h) w (tmv a) v av:=by
 cases rv with
 |tmp t=>
  simp only[Q4B,Option.some.injEq]at h;subst h;exact⟨_,rfl,Q4X hR (.tmp t)⟩
 |cell x ty=>
  simp only[Q4B]at h;split at h
  ·rename_i l off hl;obtain⟨b,hb,hv⟩:=(hR.tm x _ (R2 hl Q2)).ptr_inv;split at h
   ·rename_i cells ti an ax;have ao:=hC.tt ty ti ax;obtain⟨b',az,cs,fz,a4,hw,_,a2,hr⟩:=hR.hr.ob l _ an;obtain rfl:b=b':=by simp_all
    have hx:a.tmps.getD x undef = .pointer (some ⟨b,off,none⟩):=hv;cases hs:UV ti.kd with
    |true=>
     simp only[hs,QpI]at h;split at h
     ·rename_i a3 ay;cases h;obtain⟨h1,h2,h3⟩:=RN ay;have ai:∀j,j<ti.size->off+j<cs.size:=λj hj=>by
       grind
      have aa:=J1 ao hs (w:=w) (a:=⟨b,off,none⟩) (vs:=(List.range ti.size).map λj=>cs.getD (off+j) undef) Q2 (λj v hv=>by
       simp only[List.getElem?_map,QpE]at hv;obtain⟨j',ar,rfl⟩:=hv;obtain⟨ac,he⟩:=QpF.1 ar;simp at ac he;subst he;rw[Jy,Jb hw];exact KF (ai j ac))
      refine⟨.agg ((List.range ti.size).map λj=>cs.getD (off+j) undef).toArray,by simp only[Q5F,hx,QpL,Q13,QpH,aa],.ag _ _ (by simp[h1]) λi y hy=>?_⟩;have hi:i<ti.size:=by
       obtain⟨h6,_⟩:=QpF.1 hy;omega
      rw[FH (v:=cs.getD (off+i) undef) (by simp[hi])];exact(hr (off+i) y ((h2 i hi).trans hy)).any_tm (h3 i y hy)
     ·cases h
    |false=>
     simp only[hs,QpT]at h;split at h
     ·rename_i c hc;cases ak:Q0U c with
      |false=>simp[ak]at h
      |true=>
       simp only[ak,QpI,Option.some.injEq]at h;subst h;have ai:off<cs.size:=by
        obtain⟨h6,_⟩:=QpF.1 hc;omega
       have aa:=VX ao hs (w:=w) (a:=⟨b,off,none⟩) (v:=cs.getD off undef) (by rw[Jb hw];exact KF ai);exact⟨cs.getD off undef,by simp only[Q5F,hx,QpL,Q13,QpH,aa],(hr off c hc).any_tm ak⟩
     ·cases h
   ·cases h
  ·cases h
theorem DL{C:VC}(hC:VCOk P C){st:St}{a:Act}{w:World}{β:Nat->oP Nat}{S:Nat->Prop}(hR:Rel E β S st a w):∀{rs:List ResultVar} {aa:List AV},Q1t C.tt st rs=some aa ->
  ∃vs:List Value,(rs.mapM (Q5F a.tmps)).run P w = .ok vs w/\vs.length=aa.length/\Kf aa=true /\
   ∀(i:Nat) (v:Value) (av:AV),vs[i]? = some v->aa[i]? = some av->RdA β S (look st.h) w (tmv a) v av
 |[],aa,h=>by
  simp only[Q1t,Option.some.injEq]at h;subst h;exact⟨[],by simp,rfl,rfl,λi v av h=>by simp at h⟩
 |r::rs,aa,h=>by
  simp only[Q1t]at h;split at h
  ·rename_i x hx;split at h
   ·rename_i l hl;cases hg:NU x with
    |false=>simp[hg]at h
    |true=>
     simp only[hg,QpI,Option.some.injEq]at h;subst h;obtain⟨v,hv,ak⟩:=Q4H hC hR hx;obtain⟨vs,h1,h2,h3,h4⟩:=DL hC hR hl;refine⟨v::vs,?_,by simp[h2],by simp[Kf,hg,h3],λi u av hu ac=>?_⟩
     ·simp only[List.mapM_cons,QpL,hv,h1,QpH,Sem.run_pure]
     ·cases i with
      |zero=>simp at hu ac;subst hu;subst ac;exact ak
      |succ i=>exact h4 i u av (by simpa using hu) (by simpa using ac)
   ·cases h
  ·cases h
theorem AU{C:VC}(hC:VCOk P C){st:St}{a:Act}(hR:Rel E β S st a w){fn:Func}{av:AV}(h:Q0v C.tt st fn.results.toList=some av) :
  ∃v,(results fn a.tmps).run P w = .ok v w/\RdA β S (look st.h) w tm0 v av/\NU av=true:=by
 have ai:∀(v:Value) (av:AV),NU av=true->RdA β S (look st.h) w (tmv a) v av->RdA β S (look st.h) w tm0 v av:=λv av hg hr=>
  hr.mono (λ_ h=>h) (λ_ _=>rfl) (λl _=>Keep.rfl_ ..) (λt ht=>by grind[Pk])
 unfold Q0v at h;have am:∀aa,Q1t C.tt st fn.results.toList=some aa->∃vs:List Value,(fn.results.mapM (Q5F a.tmps)).run P w = .ok vs.toArray w/\vs.length=aa.length/\Kf aa=true /\
   ∀(i:Nat) (v:Value) (av:AV),vs[i]? = some v->aa[i]? = some av->RdA β S (look st.h) w (tmv a) v av:=by
  intro aa ha;obtain⟨vs,h1,h2,h3,h4⟩:=DL hC hR ha;refine⟨vs,?_,h2,h3,h4⟩;rw[<- Array.toList_mapM,Sem.run_map]at h1;cases hr:(fn.results.mapM (Q5F a.tmps)).run P w with
  |ok b w'=>
   rw[hr]at h1;simp only[QpH,Result.ok.injEq]at h1;obtain⟨h5,rfl⟩:=h1;congr 1
   grind
  |halt x w'=>simp_all
 split at h
 ·rename_i x hx;cases h;obtain⟨vs,h1,h2,h3,h4⟩:=am _ hx
  match vs,h2 with
  |[v],_=>
   have hg:NU av=true:=by grind[Kf]
   refine⟨v,?_,ai v av hg (h4 0 v av rfl rfl),hg⟩
   simp_all [Q1u,QpL,QpH]
 ·rename_i l an hl;cases h;obtain⟨vs,h1,h2,h3,h4⟩:=am _ hl;have hg:NU (.tup l)=true:=by simpa[NU]using h3
  have ao:¬ vs.toArray.size=1:=by
   intro h5;simp only[List.size_toArray]at h5
   match l,h5.symm.trans h2 with
   |[x],_=>exact an x rfl
  refine⟨.tuple vs.toArray,?_,ai _ _ hg (.tup _ _ (by simpa using h2) λi x hx=>?_),hg⟩
  ·rw[Q1u];simp only[QpL,h1,QpH,ao,dite_false];rfl
  ·have hi:i<vs.length:=by have:=(QpF.1 hx).1;omega
   have hv:=QpG hi;rw[FH hv];exact h4 i _ x hv hx
 ·cases h
def Nc(H:List (Nat×Ob))(k:AV->List (Nat×Ob)->oP R)(r:R)(β:Nat->oP Nat)(S:Nat->Prop)(w:World):Ending->World->Prop:=λe w'=>
 ∃v av H' β' S',e = .returned v/\k av H'=some r/\RdA β' S' (look H') w' tm0 v av/\NU av=true/\HRel ⟨w,λb=>∃l,(look H l).isSome=true/\β l=some b,S,β⟩ β' S' (look H') w'
def fnK(tt:TT)(fn:Func)(k:AV->List (Nat×Ob)->oP R):Exit->St->oP R:=λe st=>match e with
 |.ret=>match Q0v tt st fn.results.toList with
  |some v=>k v st.h
  |none=>none
 |.normal=>match Q0v tt st fn.results.toList with
  |some v=>k v st.h
  |none=>none
 |_=>none
theorem Q1N{C:VC}(hC:VCOk P C){f:Nat}{fn:Func}{c:Code}(hf:P.funcs[f]? = some fn)(hc:fn.body=some c){args:List AV}{H:List (Nat×Ob)}{k:AV->List (Nat×Ob)->oP R}{r:R}(hb:(Nat.ble args.length fn.ntmps&&Kf args)=true){vs:List Value}(ao:∀a:Act,Rel ⟨w,λb=>∃l,(look H l).isSome=true/\β l=some b,S,β⟩ β S { n:=fn.ntmps,tm:=Q2m 0 args,h:=H } a w->c.wp P (E6 ⟨w,λb=>∃l,(look H l).isSome=true/\β l=some b,S,β⟩ (fnK C.tt fn k) r) a w)(hO:Objs β S (look H) w)(hA:ArgsRd β S (look H) w vs args) :
  Calls P f vs.toArray w (Nc H k r β S w):=by
 simp only[QpD]at hb;have a2:=QpZ hb.1;refine calls_of_wp hf hc ?_;have hR:Rel ⟨w,λb=>∃l,(look H l).isSome=true/\β l=some b,S,β⟩ β S { n:=fn.ntmps,tm:=Q2m 0 args,h:=H } { tmps:=vs.toArray++Array.replicate (fn.ntmps-vs.toArray.size) undef,defers:=[] } w:=by
  refine⟨by simp;have:=hA.1;omega,rfl,λt av ht=>?_,⟨hO.ob,hO.inj,hO.apart,λl b h1 h2=>.inl ⟨l,h1,h2⟩,hO.sb,λb h=>.inl h,λb h=>h,Fr.refl _ _,λ_ _=>rfl,λ_ _ _ _ _ cs ty fz hw=>⟨cs,ty,fz,hw,rfl⟩⟩⟩;obtain⟨j,hj,aa⟩:=EZ ht;simp only[QpO]at hj;subst hj;have ac:t<vs.length:=by have:=(QpF.1 aa).1;have:=hA.1;omega
  have hv:=QpG ac;have ak:=hA.2 t _ av hv aa;have ar:tmv { tmps:=vs.toArray++Array.replicate (fn.ntmps-vs.toArray.size) undef,defers:=[] } t=vs[t]:=by
   unfold tmv;have h5:(vs.toArray++Array.replicate (fn.ntmps-vs.toArray.size) undef)[t]? = some vs[t]:=by
    rw[Array.getElem?_append_left (by simpa using ac)];simp[ac]
   have h6:=KF (QpM.1 h5).1;rw[h5]at h6;injection h6 with h6
   exact h6.symm
  rw[ar];exact ak.mono (λ_ h=>h) (λ_ _=>rfl) (λl _=>Keep.rfl_ ..) (λt' am=>by rw[Pk t' av (BP hb.2 aa)]at am;cases am)
 refine wp_mono (ao _ hR) λe a' w' hp=>?_
 obtain⟨st',⟨β',S',ai⟩,hk⟩:=hp;have fin:∀av,Q0v C.tt st' fn.results.toList=some av->k av st'.h=some r->a'.defers=[]/\∃v,(results fn a'.tmps).run P w' = .ok v w'/\∃an av H' β' S',Ending.returned v = .returned an/\k av H'=some r/\RdA β' S' (look H') w' tm0 an av/\NU av=true/\HRel ⟨w,λb=>∃l,(look H l).isSome=true/\β l=some b,S,β⟩ β' S' (look H') w':=by
  intro av aa aw;obtain⟨v,hv,ak,hg⟩:=AU hC ai aa;exact⟨ai.dfr,v,hv,v,av,st'.h,β',S',rfl,aw,ak,hg,ai.hr⟩
 cases e with
 |ret=>
  simp only[fnK]at hk;split at hk
  ·rename_i av aa;exact fin av aa hk
  ·cases hk
 |normal=>
  simp only[fnK]at hk;split at hk
  ·rename_i av aa;exact fin av aa hk
  ·cases hk
 |_=>cases hk
theorem Bo{C:VC}(hC:VCOk P C){n f:Nat}{fn:Func}(hf:P.funcs[f]? = some fn){args:List AV}{H:List (Nat×Ob)}{k:AV->List (Nat×Ob)->oP R}{r:R}(h:vfn C n fn args H k=some r){vs:List Value}(hO:Objs β S (look H) w)(hA:ArgsRd β S (look H) w vs args) :
  Calls P f vs.toArray w λe w'=>∃v av H' β' S',e = .returned v/\k av H'=some r/\RdA β' S' (look H') w' tm0 v av/\NU av=true/\HRel ⟨w,λb=>∃l,(look H l).isSome=true/\β l=some b,S,β⟩ β' S' (look H') w':=by
 unfold vfn at h;split at h
 case h_2=>cases h
 rename_i c hc;cases hb:(Nat.ble args.length fn.ntmps&&Kf args)with
 |false=>simp_all
 |true=>
  simp only[hb,QpI]at h;exact Q1N hC hf hc hb (λa hR=>Km hC n c _ _ r h a w ⟨β,S,hR⟩) hO hA
end
end Go.Vx
namespace Go.Vx
section
variable{P:Program}
def Qfm:List Value->List Nat->oP (List D)
 |[],_=>some []
 |v::r,ss=>
  match Qfm r ss.tail with
  |some l=>match v with
   |.int k n=>some (.int k n::l)
   |.bool b=>some (.bool b::l)
   |.string s=>some (.str s.data.toList::l)
   |.slice none 0 0=>some (.sl (ss.headD 0) []::l)
   |_=>none
  |none=>none
def Q30(P:Program):Nat->Nat->List Nat
 |0,_=>[]
 |f+1,t=>match P.underlying t with
  |some (.struct fs)=>fs.toList.flatMap λfd=>Q30 P f fd.type
  |some (.array n e)=>(List.replicate n (Q30 P f e)).flatten
  |_=>[t]
def Qfu(P:Program)(t:Nat):Nat:=
 match P.underlying t with
 |some (.slice e)=>P.cellsOf e
 |_=>0
def kdP(P:Program):TypeDesc->oP Kd
 |.int k=>some (.int k)
 |.bool=>some .bool
 |.string=>some .str
 |.slice e=>match P.info? e with
  |some i=>if 0<i.size then some (.sl e i.size)else none
  |none=>none
 |.struct fs=>if fs.toList.all (λf=>match P.info? f.type with | some i=>i.size != 0 | none=>false)then some .struct else none
 |.array n e=>match P.info? e with
  |some i=>if 0<i.size then some (.array e i.size n)else none
  |none=>none
 |.pointer _=>some .ptr
 |.map K e=>match P.underlying K,P.info? e with
  |some (.int .i64),some i=>match i.zero with
   |some (.slice none 0 0)=>some .mapI
   |some (.bool false)=>some .mpb
   |_=>some .other
  |_,_=>some .other
 |.func ..=>some .other
 |.interface _=>some .other
 |_=>none
def Q9t(P:Program):TypeDesc->List (Nat×Nat)
 |.struct fs=>fs.toList.map λf=>(f.offset,f.type)
 |.array n e=>(List.range n).map λi=>(i*((P.info? e).map (·.size)).getD 0,e)
 |_=>[]
def QfN(P:Program)(so:TypeId->oP (List Kd)):Nat->List Field->oP (List Kd)
 |_,[]=>some []
 |off,fd::r=>
  if fd.offset = off /\ fd.name ≠ "_" then match so fd.type with
   |some a=>if (P.info? fd.type).map (·.size)=some a.length then match QfN P so (off+a.length) r with
    |some l=>some (a++l)
    |none=>none
    else none
   |none=>none
  else none
def Qdh(P:Program):Nat->TypeId->oP (List Kd)
 |0,_=>none
 |f+1,t=>
  match P.underlying t with
  |some .bool=>some [.bool]
  |some (.int k)=>some [.int k]
  |some .string=>some [.str]
  |some (.struct fs)=>if P.stoodInHeld t then none else QfN P (Qdh P f) 0 fs.toList
  |_=>none
def Qje(P:Program)(t:Nat):oP (List Kd):=
 match P.underlying t with
 |some (.struct _)=>if P.eqGuardType P.depth t then none else Qdh P 6 t
 |some (.array 2 e)=>match P.underlying e with
  |some (.int k)=>if (P.info? e).map (·.size)=some 1/\P.eqGuardType P.depth t=false then some [.int k,.int k]else none
  |_=>none
 |_=>none
def QiK:Kd->Nat->Bool
 |.array _ esz n,k=>Nat.beq k (n*esz)
 |_,_=>true
def tyI(P:Program)(t:Nat):oP TyI:=
 match P.info? t,P.underlying t with
 |some i,some d=>match i.zero,kdP P d with
  |some z,some kd=>
   if z.cells.toList.length=i.size/\(UV kd=false->i.size=1)/\QiK kd i.size=true then
    some { kd,size:=i.size,bytes:=i.bytes,zero:=z.cells.toList,zd:=(Qfm z.cells.toList ((Q30 P 8 t).map (Qfu P))).getD [],fields:=Q9t P d,eqk:=Qje P t }
   else none
  |_,_=>none
 |_,_=>none
def Qhs(P:Program):List Nat->TT
 |[]=>[]
 |t::r=>match tyI P t with
  |some ti=>(t,ti)::Qhs P r
  |none=>Qhs P r
theorem QaP:∀{vs:List Value} {ss:List Nat} {l:List D},Qfm vs ss=some l->∀(j:Nat) (x:D),l[j]? = some x->∃v,vs[j]? = some v/\∀(S:Nat->Prop) (w:World),Rd S w v x
 |[],ss,l,h,j,x,hx=>by grind[Qfm]
 |v::r,ss,l,h,j,x,hx=>by
  simp only[Qfm]at h;split at h
  case h_2=>cases h
  rename_i l' aa;have fin:∀d,l=d::l'->(∀(S:Nat->Prop) (w:World),Rd S w v d)->∃v',(v::r)[j]? = some v'/\∀(S:Nat->Prop) (w:World),Rd S w v' x:=by
   intro d hd hr;cases j with
   |zero=>simp_all
   |succ j=>
    obtain⟨v',h1,h2⟩:=QaP aa j x Q4
    simp_all
  split at h
  ·cases h;exact fin _ rfl λ_ _=>.int _ _
  ·cases h;exact fin _ rfl λ_ _=>.bool _
  ·cases h;exact fin _ rfl λ_ _=>.str _
  ·cases h;exact fin _ rfl λ_ _=>.sl0 _ _ _
  ·cases h
def FF(P:Program)(t:TypeId)(xs:List Value):Value:=
 match P.underlying t with
 |some (.struct _)=>.agg xs.toArray
 |_=>xs.headD undef
theorem Q7j{t:TypeId}{f:Nat}{ks:List Kd}(hk:Qdh P f t=some ks)(hi:(P.info? t).map (·.size)=some ks.length){w:World}{cs:Array Value}{off:Nat}(am:off+ks.length<=cs.size) :
  (part t cs off).run P w = .ok (FF P t ((cs.toList.drop off).take ks.length)) w:=by
 obtain⟨i,ai,ak⟩:=QpE.1 hi;have one:∀(d:TypeDesc),P.underlying t=some d->(∀fs,d≠.struct fs)->(∀n e,d≠.array n e)->ks.length=1->(part t cs off).run P w = .ok (FF P t ((cs.toList.drop off).take ks.length)) w:=by
  intro d hd h1 h2 hl;have aa:(isAgg t).run P w = .ok false w:=by
   simp_all [isAgg,QpL,X6,QpH]
  have hc:cs[off]? = some (cs[off]'Q0):=QpP Q0;have hp:FF P t ((cs.toList.drop off).take ks.length)=cs[off]'Q0:=by
   grind[List.drop_eq_getElem_cons,FF]
  simp only[part,QpL,aa,QpH,Bool.false_eq_true,if_false,hc,hp];rfl
 cases f with
 |zero=>trivial
 |succ f=>
  unfold Qdh at hk;split at hk
  ·rename_i hd;injection hk with hk;exact one _ hd Q2 Q2 (by rw[<- hk];rfl)
  ·rename_i k hd;injection hk with hk;exact one _ hd Q2 Q2 (by rw[<- hk];rfl)
  ·rename_i hd;injection hk with hk;exact one _ hd Q2 Q2 (by rw[<- hk];rfl)
  ·rename_i fs hd;have aa:(isAgg t).run P w = .ok true w:=by simp[isAgg,X6 hd]
   have hp:FF P t ((cs.toList.drop off).take ks.length) = .agg (cs.extract off (off+ks.length)):=by
    unfold FF;rw[hd];simp only;congr 1;apply Array.ext';simp[List.take_drop]
   simp only[part,QpL,aa,QpH,if_true,sizeOf,Yy ai,ak,hp];rfl
  ·cases hk
theorem Qg7:∀(f:Nat) (t:TypeId) (ks:List Kd),Qdh P f t=some ks->∀(d:Nat),f<=d->∀(w:World) (xs ys:List Value) (bs:List Bool),xs.length=ks.length->ys.length=ks.length->bs.length=ks.length ->
  (∀(j:Nat) (kd:Kd) (b:Bool),ks[j]? = some kd->bs[j]? = some b->CEq kd (xs.getD j undef) (ys.getD j undef) b)->(Op.equalIn d t (FF P t xs) (FF P t ys)).run P w = .ok (bs.all id) w:=by
 intro f;induction f with
 |zero=>grind[Qdh]
 |succ f ih=>
  intro t ks hk d hd w xs ys bs hx hy hb hc;obtain⟨d,rfl⟩:∃d',d=d'+1:=⟨d-1,Q0⟩;unfold Qdh at hk;split at hk
  ·rename_i ht;injection hk with hk;subst hk
   match xs,ys,bs,hx,hy,hb with
   |[x],[y],[b],_,_,_=>
    obtain⟨m,n,h1,h2,h3⟩:=hc 0 _ _ rfl rfl;simp at h1 h2;subst h1 h2 h3;simp[FF,ht,Op.equalIn,X6 ht]
  ·rename_i k ht;injection hk with hk;subst hk
   match xs,ys,bs,hx,hy,hb with
   |[x],[y],[b],_,_,_=>
    obtain⟨m,n,h1,h2,h3⟩:=hc 0 _ _ rfl rfl;simp at h1 h2;subst h1 h2 h3;simp[FF,ht,Op.equalIn,X6 ht]
  ·rename_i ht;injection hk with hk;subst hk
   match xs,ys,bs,hx,hy,hb with
   |[x],[y],[b],_,_,_=>
    obtain⟨m,n,h1,h2,h3⟩:=hc 0 _ _ rfl rfl;simp at h1 h2;subst h1 h2 h3;simp only[FF,ht,List.headD_cons,Op.equalIn,QpL,X6 ht,QpH];rw[beq_toListBytes,ByteArray.toList_eq,ByteArray.toList_eq];simp
  ·rename_i fs ht;split at hk
   ·cases hk
   rename_i a2;have ax:P.fieldsOf t=fs:=by simp[Program.fieldsOf,ht]
   have a3:∀(r:List Field) (off:Nat) (l:List Kd) (aa:List Bool),QfN P (Qdh P f) off r=some l->off+l.length<=xs.length->xs.length=ys.length->aa.length=l.length ->
     (∀(j:Nat) (kd:Kd) (b:Bool),l[j]? = some kd->aa[j]? = some b->CEq kd (xs.getD (off+j) undef) (ys.getD (off+j) undef) b) ->
     (Op.eqFields d xs.toArray ys.toArray r).run P w = .ok (aa.all id) w:=by
    intro r;induction r with
    |nil=>
     intro off l aa hl _ _ aq _;simp[QfN]at hl;subst hl;have:aa=[]:=List.eq_nil_of_length_eq_zero (by simpa using aq);subst this;simp[Op.eqFields]
    |cons fd r a7=>
     intro off l aa hl a6 ay aq aw;unfold QfN at hl;split at hl
     case isFalse=>cases hl
     rename_i ao;split at hl
     case h_2=>cases hl
     rename_i a ha;split at hl
     case isFalse=>cases hl
     rename_i hi;split at hl
     case h_2=>cases hl
     rename_i l' a5;injection hl with hl;subst hl
     simp only[List.length_append]at a6 aq;have p1:=Q7j ha hi (w:=w) (cs:=xs.toArray) (off:=off) Q3;have p2:=Q7j ha hi (w:=w) (cs:=ys.toArray) (off:=off) Q3;have gd:∀(zs:List Value) (j:Nat),zs.length=xs.length->j<a.length->((zs.drop off).take a.length).getD j undef=zs.getD (off+j) undef:=by
      intro zs j hz hj;simp only[List.getD,List.getElem?_take,hj,if_true,QpN]
     have e1:=ih fd.type a ha d Q0 w ((xs.drop off).take a.length) ((ys.drop off).take a.length) (aa.take a.length) Q3 Q3 Q3 (λj kd b hj ak=>by
      have am:j<a.length:=(QpF.1 hj).1;rw[gd xs j rfl am,gd ys j ay.symm am];refine aw j kd b (by rw[List.getElem?_append_left am];exact hj) ?_;rw[List.getElem?_take,if_pos am]at ak;exact ak)
     have e2:=a7 (off+a.length) l' (aa.drop a.length) a5 Q0 ay Q3 (λj kd b hj ak=>by
      rw[Nat.add_assoc];refine aw (a.length+j) kd b (by rw[List.getElem?_append_right Q0];simpa using hj) ?_;rw[QpN]at ak;exact ak)
     have az:aa.all id=((aa.take a.length).all id&&(aa.drop a.length).all id):=by
      rw[<- List.all_append,List.take_append_drop]
     simp only[Op.eqFields,ao.1,ao.2,ne_eq,not_false_eq_true,if_true,QpL,p1,p2,QpH,e1];rw[az];cases (aa.take a.length).all id with
     |true=>simp[e2]
     |false=>simp
   have:=a3 fs.toList 0 ks bs hk Q0 Q0 hb (λj kd b h1 h2=>by rw[QpO];exact hc j kd b h1 h2);have hp:∀zs,FF P t zs = .agg zs.toArray:=λzs=>by simp[FF,ht]
   rw[hp,hp,run_equalIn_struct w d t _ _ (by rw[ax];exact ht) (by simpa using a2),ax];exact this
  ·cases hk
theorem QdB{t e:TypeId}{k:IntKind}(ht:P.underlying t=some (.array 2 e))(he:P.underlying e=some (.int k))(hi:(P.info? e).map (·.size)=some 1)(w:World)(a b c d:Int) :
  (Op.equalIn 10000 t (.agg #[.int k a,.int k b]) (.agg #[.int k c,.int k d])).run P w = .ok ((a == c)&&(b == d)) w:=by
 obtain⟨i,ac,ai⟩:=QpE.1 hi;have aa:(isAgg e).run P w = .ok false w:=by
  simp only[isAgg,QpL,X6 he,QpH];rfl
 have hs:(Go.sizeOf e).run P w = .ok 1 w:=by simp only[sizeOf,QpL,Yy ac,QpH,ai];rfl
 have hp:∀(x y:Value),(part e #[x,y] 0).run P w = .ok x w/\(part e #[x,y] 1).run P w = .ok y w:=λx y=>by
  constructor<;>simp[part,aa]
 have hq:∀x y:Int,(Op.equalIn 9999 e (.int k x) (.int k y)).run P w = .ok (x == y) w:=λx y=>by
  rw[Op.equalIn];simp[X6 he]
 rw[Op.equalIn];simp only[QpL,X6 ht,QpH,hs];simp[Std.Legacy.Range.forIn_eq_forIn_range',Std.Legacy.Range.size,List.range',(hp _ _).1,(hp _ _).2,hq];by_cases h1:a=c<;>by_cases h2:b=d<;>simp[h1,h2]
theorem Qe1{t:Nat}{ks:List Kd}(h:Qje P t=some ks):QjV P t ks:=by
 unfold Qje at h;split at h
 case h_3=>cases h
 case h_2=>
  rename_i e ht;split at h
  case h_2=>cases h
  rename_i k he;split at h
  case isFalse=>cases h
  rename_i hg;injection h with h
  subst h;intro w xs ys bs hx hy hb hc;refine⟨?_,hg.2⟩;obtain⟨xs⟩:=xs;obtain⟨ys⟩:=ys
  match xs,ys,bs,hx,hy,hb with
  |[x0,x1],[y0,y1],[b0,b1],_,_,_=>
   obtain⟨m,n,h1,h2,h3⟩:=hc 0 _ _ rfl rfl;obtain⟨m',n',ao,an,aq⟩:=hc 1 _ _ rfl rfl
   simp_all [QdB]
 rename_i fs ht;split at h
 ·cases h
 rename_i hg;intro w xs ys bs hx hy hb hc;refine⟨?_,by simp_all⟩;have:=Qg7 6 t ks h 10000 Q0 w xs.toList ys.toList bs Q0 Q0 hb (λj kd b h1 h2=>by
  have:=hc j kd b h1 h2;simpa[Array.getD_eq_getD_getElem?,List.getD]using this)
 simp_all [FF]
theorem Qh6{d:TypeDesc}{e esz:Nat}(hk:kdP P d=some (.sl e esz)):d = .slice e/\0<esz/\∃i,P.info? e=some i/\i.size=esz:=by
 cases d<;>simp only[kdP,Option.some.injEq,reduceCtorEq]at hk
 all_goals grind
theorem Qea{t:TypeId}{d:TypeDesc}(hk:kdP P d=some .mapI)(hd:P.underlying t=some d):∃K e,P.underlying t=some (.map K e)/\P.underlying K=some (.int .i64)/\∃i,P.info? e=some i/\i.zero=some (.slice none 0 0):=by
 cases d<;>simp only[kdP,Option.some.injEq,reduceCtorEq]at hk
 all_goals grind
theorem Q81{d:TypeDesc}(hk:kdP P d=some .struct):∃fs,d = .struct fs/\∀f∈fs.toList,∃i,P.info? f.type=some i/\i.size≠0:=by
 cases d<;>simp only[kdP,Option.some.injEq,reduceCtorEq]at hk
 all_goals grind
theorem QaG{d:TypeDesc}{e esz n:Nat}(hk:kdP P d=some (.array e esz n)):d = .array n e/\0<esz/\∃i,P.info? e=some i/\i.size=esz:=by
 cases d<;>simp only[kdP,Option.some.injEq,reduceCtorEq]at hk
 all_goals grind
theorem QeO{d:TypeDesc}{k:IntKind}(hk:kdP P d=some (.int k)):d = .int k:=by
 cases d<;>simp only[kdP,Option.some.injEq,Kd.int.injEq,reduceCtorEq]at hk<;>first | grind | ((repeat' split at hk)<;>simp at hk)
theorem Qc0{d:TypeDesc}(hk:kdP P d=some .bool):d = .bool:=by
 cases d<;>simp only[kdP,Option.some.injEq,reduceCtorEq]at hk<;>first | rfl | grind
theorem Qeu{d:TypeDesc}(hk:kdP P d=some .str):d = .string:=by
 cases d<;>simp only[kdP,Option.some.injEq,reduceCtorEq]at hk<;>first | rfl | grind
theorem QdO{t:TypeId}{d:TypeDesc}(hk:kdP P d=some .mpb)(hd:P.underlying t=some d):∃K e,P.underlying t=some (.map K e)/\P.underlying K=some (.int .i64)/\∃i,P.info? e=some i/\i.zero=some (.bool false):=by
 cases d<;>simp only[kdP,Option.some.injEq,reduceCtorEq]at hk
 all_goals grind
theorem Qhl{t:Nat}{ti:TyI}(h:tyI P t=some ti):TyOk P t ti:=by
 unfold tyI at h;split at h
 case h_2=>cases h
 rename_i i d hi hd;split at h
 case h_2=>cases h
 rename_i z kd hz hk;split at h
 case isFalse=>cases h
 rename_i hc;injection h with h
 subst h;refine⟨⟨i,hi,rfl,rfl,z,hz,rfl⟩,λhs=>⟨hc.2.1 hs,d,hd,?_,?_⟩,λk he=>?_,λhe=>?_,λhe=>?_,λe esz he=>?_,λhe=>?_,λe esz n he=>?_,λks he=>Qe1 he,hc.1,λhl j x hx=>?_,λhe=>?_,λhe=>?_⟩
 ·rintro fs rfl;simp only[kdP]at hk;split at hk
  ·injection hk with hk;subst hk;simp[UV]at hs
  ·cases hk
 ·rintro n e rfl;simp only[kdP]at hk;split at hk
  ·split at hk
   ·injection hk with hk;subst hk;simp[UV]at hs
   ·cases hk
  ·cases hk
 ·simp only at he;subst he;rw[QeO hk]at hd;exact hd
 ·simp only at he;subst he;rw[Qc0 hk]at hd;exact hd
 ·simp only at he;subst he;rw[Qeu hk]at hd;exact hd
 ·simp only at he;subst he;obtain⟨h1,h2,h3⟩:=Qh6 hk;rw[h1]at hd;exact⟨hd,h2,h3⟩
 ·simp only at he;subst he;obtain⟨fs,h1,h2⟩:=Q81 hk;subst h1;exact⟨fs,hd,rfl,h2⟩
 ·simp only at he;subst he;obtain⟨h1,h2,i',h3,h4⟩:=QaG hk;subst h1;refine⟨hd,h2,⟨i',h3,h4⟩,QpC hc.2.2,?_⟩;simp[Q9t,h3,h4]
 ·simp only at hl hx;cases aa:Qfm z.cells.toList ((Q30 P 8 t).map (Qfu P))with
  |none=>rw[aa]at hx;simp at hx
  |some l=>rw[aa]at hx;exact QaP aa j x (by simpa using hx)
 ·simp only at he;subst he;exact QdO hk hd
 ·simp only at he;subst he;exact Qea hk hd
theorem Qe5(aa:List Nat):TOk P (Qhs P aa):=by
 induction aa with
 |nil=>intro t ti h;trivial
 |cons a r ih=>
  intro t ti h;unfold Qhs at h;split at h
  ·rw[Xd]at h;by_cases e:t=a
   ·simp_all [if_pos,Qhl]
   ·rw[QpV e]at h;exact ih t ti h
  ·exact ih t ti h
mutual
def lf:AV->Bool
 |.ptr ..=>false
 |.arr _=>false
 |.ap ..=>false
 |.sa ..=>false
 |.gd ..=>false
 |.ag l=>lfL l
 |.tup l=>lfL l
 |.fn _ l=>lfL l
 |_=>true
def lfL:List AV->Bool
 |[]=>true
 |a::r=>lf a&&lfL r
end
mutual
theorem Q79(l:Nat):∀(av:AV),lf av=true->Yr l av=false
 |.ptr ..,h=>by simp[lf]at h
 |.arr _,h=>by simp[lf]at h
 |.ap ..,h=>by simp[lf]at h
 |.sa ..,h=>by simp[lf]at h
 |.gd ..,h=>by simp[lf]at h
 |.ag r,h=>by simp only[Yr];exact Ey l r (by simpa[lf]using h)
 |.tup r,h=>by simp only[Yr];exact Ey l r (by simpa[lf]using h)
 |.fn _ r,h=>by simp only[Yr];exact Ey l r (by simpa[lf]using h)
 |.top,_=>rfl
 |.d _,_=>rfl
 |.nil,_=>rfl
 |.el ..,_=>rfl
 |.fs ..,_=>rfl
 |.mpd _,_=>rfl
 |.ex _,_=>rfl
theorem Ey(l:Nat):∀(r:List AV),lfL r=true->G6 l r=false
 |[],_=>rfl
 |a::r,h=>by
  simp only[lfL,QpD]at h;simp only[G6,Q79 l a h.1,Ey l r h.2,Bool.or_self]
end
mutual
theorem Q54(t:Nat):∀(av:AV),lf av=true->gds t av=false
 |.ptr ..,h=>by simp[lf]at h
 |.arr _,h=>by simp[lf]at h
 |.ap ..,h=>by simp[lf]at h
 |.sa ..,h=>by simp[lf]at h
 |.gd ..,h=>by simp[lf]at h
 |.ag r,h=>by simp only[gds];exact Q2V t r (by simpa[lf]using h)
 |.tup r,h=>by simp only[gds];exact Q2V t r (by simpa[lf]using h)
 |.fn _ r,h=>by simp only[gds];exact Q2V t r (by simpa[lf]using h)
 |.top,_=>rfl
 |.d _,_=>rfl
 |.nil,_=>rfl
 |.el ..,_=>rfl
 |.fs ..,_=>rfl
 |.mpd _,_=>rfl
 |.ex _,_=>rfl
theorem Q2V(t:Nat):∀(r:List AV),lfL r=true->Q05 t r=false
 |[],_=>rfl
 |a::r,h=>by
  simp only[lfL,QpD]at h;simp only[Q05,Q54 t a h.1,Q2V t r h.2,Bool.or_self]
end
theorem Q1h:∀{l:List AV} {i:Nat} {x:AV},lfL l=true->l[i]? = some x->lf x=true
 |a::r,i,x,h,hx=>by
  simp only[lfL,QpD]at h;cases i with
  |zero=>simp at hx;subst hx;exact h.1
  |succ i=>exact Q1h h.2 (by simpa using hx)
theorem FE{β β':Nat->oP Nat}{S S':Nat->Prop}{h h':Nat->oP Ob}{w w':World}{tm tm':Nat->Value}{v:Value}{av:AV}(hl:lf av=true)(hS:∀b,S b->S' b)(hw:∀b,S b->w'.heap[b]? = w.heap[b]?)(hv:RdA β S h w tm v av):RdA β' S' h' w' tm' v av:=
 hv.mono hS hw (λl hn=>by rw[Q79 l av hl]at hn;cases hn) (λt ht=>by rw[Q54 t av hl]at ht;cases ht)
def Qbh(h:List (Nat×Ob))(av:AV):oP AV:=
 match av with
 |.tup l=>match RZ (look h) l with
  |some (l',_)=>bif lfL l' then some (.tup l')else none
  |none=>none
 |av=>match N3 (look h) av with
  |some (aa,_)=>bif lf aa then some aa else none
  |none=>none
def Qjy{R:Type}(K:AV->oP R):AV->List (Nat×Ob)->oP R:=λav h=>match Qbh h av with
 |some aa=>K aa
 |none=>none
theorem Q2R{β:Nat->oP Nat}{S:Nat->Prop}{H:List (Nat×Ob)}{w:World}{v:Value}{av aa:AV}(hO:Objs β S (look H) w)(h:Qbh H av=some aa)(hv:RdA β S (look H) w tm0 v av) :
  ∃bs,(∀l,l∈bs->∃e s rows,look H l=some (.arr e s rows))/\lf aa=true/\RdA β (fzS β S bs) (fzH (look H) bs) w tm0 v aa:=by
 unfold Qbh at h;split at h
 ·rename_i l;split at h
  ·rename_i l' bs hc;cases hl:lfL l' with
   |false=>simp_all
   |true=>
    simp only[hl,QpI,Option.some.injEq]at h;subst h;refine⟨bs,EB hc,by assumption,?_⟩;obtain⟨vs,rfl,ak,hr⟩:=hv.tup_inv;obtain⟨h1,h2⟩:=LJ hc;refine .tup _ _ (by rw[ak,h1]) λi x hx=>?_
    have hi:i<l.length:=by grind
    have ai:=QpG hi;obtain⟨aa,b2,g1,g2,g3⟩:=h2 i _ ai;rw[hx]at g1;injection g1 with g1
    subst g1;exact Q7q hO (λ_ _=>rfl) g3 g2 (hr i _ ai)
  ·cases h
 ·split at h
  ·rename_i ac bs hc;cases hl:lf ac with
   |false=>simp[hl]at h
   |true=>
    simp only[hl,QpI,Option.some.injEq]at h;subst h;exact⟨bs,Bq hc,hl,Q7q hO (λ_ _=>rfl) (λ_ h=>h) hc hv⟩
  ·cases h
theorem Qe7 {C : VC} (hC : VCOk P C) {n f : Nat} {fn : Func} (hf : P.funcs[f]? = some fn) (hb : fn.body.isSome = true) (hn : (fn.name == "runtime.NumGoroutine") = false) {avs : List AV} {av : AV} {hl : Nat -> oP Ob} {rd : List Nat} (hlf : lfL avs = true)
  (h:vfn C n fn avs [] (Qjy some)=some av):ZX P f avs hl ⟨av,[],rd⟩:=by
 refine⟨⟨fn,hf,hb,hn⟩,λβ S h' w args hO hA _=>?_⟩;have hO0:Objs (λ_=>none) S (look ([]:List (Nat×Ob))) w:=⟨λl o h=>by trivial,λl l' b h=>by simp[look]at h,λl b h=>by simp[look]at h,hO.sb⟩;have hA0:ArgsRd (λ_=>none) S (look ([]:List (Nat×Ob))) w args avs:=⟨hA.1,λi v av' h1 h2=>FE (Q1h hlf h2) (λ_ h=>h) (λ_ _=>rfl) (hA.2 i v av' h1 h2)⟩;refine(Bo hC hf h hO0 hA0).mono λe w' ⟨v,av0,H',β',S',he,hk,hrd,_,hr⟩=>?_
 unfold Qjy at hk;split at hk
 case h_2=>cases hk
 rename_i av' hav;injection hk with hk
 subst hk;have hO':Objs β' S' (look H') w':=⟨hr.ob,hr.inj,hr.apart,hr.sb⟩;obtain⟨bs,hbs,hlf',hrd'⟩:=Q2R hO' hav hrd;have hnoM:∀{b:Nat},(S b\/(∃l,(look ([]:List (Nat×Ob)) l).isSome=true/\(none:oP Nat)=some b)\/w.heap.size<=b)->S b\/w.heap.size<=b:=by
  simp_all
 have hfz:∀b,fzS β' S' bs b->S b\/w.heap.size<=b:=by
  intro b hS;rcases hS with hS | ⟨l,hl',hb'⟩
  ·exact hnoM (hr.sfr b hS)
  ·obtain⟨e',s,rows,hh⟩:=hbs l hl';exact hnoM (.inr (hr.own l b (by simp[hh]) hb'))
 refine⟨v,β,fzS β' S' bs,he,⟨λb hS=>.inl (hr.s0 b hS),λb hS=>?_,λb hS=>?_,?_,λ_ _=>rfl,λl o hl'=>by trivial,λl hl'=>by simp[wrL]at hl',λl b hl'=>by simp[wrL]at hl',λl l' b hl'=>by simp[wrL]at hl',λl hl'=>by simp[wrL]at hl',?_,λt=>Q54 t _ hlf'⟩⟩
 ·grind
 ·rcases hS with hS | ⟨l,hl',hb'⟩
  ·exact hr.sb b hS
  ·obtain⟨e',s,rows,hh⟩:=hbs l hl';rcases hr.ob l _ hh with⟨hn',_⟩|⟨b2,cs,hb2,hw2,_⟩
   ·rw[hb']at hn';cases hn'
   ·rw[hb']at hb2;injection hb2 with hb2;subst hb2
    exact(QpM.1 hw2).1
 ·refine hr.fr.mono λb _ ⟨l,h1,_⟩=>?_
  simp[look]at h1
 ·exact FE hlf' (λ_ h=>h) (λ_ _=>rfl) hrd'
end
section
variable{P:Program} {R:Type}
def Cy(av aa:AV):Prop:=∀(β:Nat->oP Nat) (S:Nat->Prop) (h:Nat->oP Ob) (w:World) (tm:Nat->Value) (v:Value),RdA β S h w tm v av->RdA β S h w tm v aa
theorem Cy.refl(av:AV):Cy av av:=λ_ _ _ _ _ _ h=>h
theorem Cy.of_eq{a b:AV}(h:a=b):Cy a b:=h▸Cy.refl a
theorem Cy.nil(s:Nat):Cy .nil (.d (.sl s [])):=λ_ _ _ _ _ v h=>by rw[h.nil_inv];exact .d _ _ (.sl0 _ _ _)
inductive AVleL:List AV->List AV->Prop
 |nil:AVleL [] []
 |cons {a b:AV} {l r:List AV} (h:Cy a b) (t:AVleL l r):AVleL (a::l) (b::r)
theorem AVleL.length{l r:List AV}(h:AVleL l r):l.length=r.length:=by induction h<;>simp[*]
theorem AVleL.at{l r:List AV}(h:AVleL l r):∀(i:Nat) (x:AV),r[i]? = some x->∃y,l[i]? = some y/\Cy y x:=by
 induction h with
 |nil=>simp_all
 |cons h0 _ ih=>
  grind
theorem AVleL.refl:∀l:List AV,AVleL l l
 |[]=>.nil
 |a::r=>.cons (Cy.refl a) (AVleL.refl r)
theorem Cy.ag{l r:List AV}(h:AVleL l r):Cy (.ag l) (.ag r):=λ_ _ _ _ _ v hv=>by
 obtain⟨cs,rfl,aa,hr⟩:=hv.ag_inv;refine .ag cs r (aa.trans h.length) λi x hx=>?_
 obtain⟨y,h1,h2⟩:=h.at i x hx;exact h2 _ _ _ _ _ _ (hr i y h1)
theorem Cy.tup{l r:List AV}(h:AVleL l r):Cy (.tup l) (.tup r):=λ_ _ _ _ _ v hv=>by
 obtain⟨cs,rfl,aa,hr⟩:=hv.tup_inv;refine .tup cs r (aa.trans h.length) λi x hx=>?_
 obtain⟨y,h1,h2⟩:=h.at i x hx;exact h2 _ _ _ _ _ _ (hr i y h1)
theorem ZX.conv{f:Nat}{aa avs':List AV}{hl:Nat->oP Ob}{dl:Dl}(h:AVleL aa avs')(hc:ZX P f avs' hl dl):ZX P f aa hl dl:=by
 obtain⟨h1,h2⟩:=hc;refine⟨h1,λβ S hh w args hO hA ai=>h2 β S hh w args hO ⟨hA.1.trans h.length,λi v av hv ac=>?_⟩ ai⟩;obtain⟨y,g1,g2⟩:=h.at i av ac;exact g2 _ _ _ _ _ _ (hA.2 i v y hv g1)
def prI(g:Bool)(ik:IntKind)(av:AV)(k:Int->oP R):oP R:=
 match av with
 |.d x=>gb g (Qk ik x) 0 k
 |_=>none
def prB(g:Bool)(av:AV)(k:Bool->oP R):oP R:=
 match av with
 |.d x=>gb g (PB x) false k
 |_=>none
def prT(g:Bool)(av:AV)(k:List UInt8->oP R):oP R:=
 match av with
 |.d x=>gb g (Vq x) [] k
 |_=>none
def prS(g:Bool)(esz:Nat)(av:AV)(k:List (List D)->oP R):oP R:=
 match av with
 |.d x=>gb g (pSl esz x) [] k
 |.nil=>k []
 |_=>none
def prG(av:AV)(k:List AV->oP R):oP R:=
 match av with
 |.ag l=>k l
 |_=>none
theorem Q2c{g:Bool}{ik:IntKind}{av:AV}{k:Int->oP R}{r:R}(h:prI g ik av k=some r):∃n,k n=some r/\(g=true->Cy av (.d (.int ik n))):=by
 unfold prI at h;split at h
 ·obtain⟨n,hn,hp⟩:=Qz h;exact⟨n,hn,λhg=>.of_eq (by grind[M5])⟩
 ·cases h
theorem Qbu{g:Bool}{av:AV}{k:Bool->oP R}{r:R}(h:prB g av k=some r):∃n,k n=some r/\(g=true->Cy av (.d (.bool n))):=by
 unfold prB at h;split at h
 ·obtain⟨n,hn,hp⟩:=Qz h;exact⟨n,hn,λhg=>.of_eq (by grind[MI])⟩
 ·cases h
theorem Qcw{g:Bool}{av:AV}{k:List UInt8->oP R}{r:R}(h:prT g av k=some r):∃n,k n=some r/\(g=true->Cy av (.d (.str n))):=by
 unfold prT at h;split at h
 ·obtain⟨n,hn,hp⟩:=Qz h;exact⟨n,hn,λhg=>.of_eq (by grind[FK])⟩
 ·cases h
theorem Um{g:Bool}{esz:Nat}{av:AV}{k:List (List D)->oP R}{r:R}(h:prS g esz av k=some r):∃n,k n=some r/\(g=true->Cy av (.d (.sl esz n))):=by
 unfold prS at h;split at h
 ·obtain⟨n,hn,hp⟩:=Qz h;exact⟨n,hn,λhg=>.of_eq (by grind[Q7g])⟩
 ·exact⟨[],h,λ_=>.nil _⟩
 ·cases h
theorem Q2E{av:AV}{k:List AV->oP R}{r:R}(h:prG av k=some r):∃l,k l=some r/\av = .ag l:=by
 unfold prG at h
 grind
abbrev PI:=(R:Type)->Nat->Bool->List AV->(Nat->oP Ob)->(Dl->oP R)->oP R
def VH(P:Program)(f:Nat)(e:PI):Prop:=
 ∀(R:Type) (ac:Nat) (g:Bool) (aa:List AV) (hl:Nat->oP Ob) (k:Dl->oP R) (r:R),e R ac g aa hl k=some r->∃dl,k dl=some r/\(g=true->ZX P f aa hl dl)
def A5(l:List (Nat×PI)):Q5T:=λR f aa g ac hl k=>
 match look1 l f with
 |some e=>e R aa g ac hl k
 |none=>none
where
 look1:List (Nat×PI)->Nat->oP PI
  |[],_=>none
  |(k,a)::r,t=>bif Nat.beq k t then some a else look1 r t
def Q75(P:Program):List (Nat×PI)->Prop
 |[]=>True
 |(f,e)::r=>VH P f e/\Q75 P r
theorem Q6I:∀{l:List (Nat×PI)} {f:Nat} {e:PI},Q75 P l->A5.look1 l f=some e->VH P f e
 |(k,a)::r,f,e,h,hl=>by
  simp only[A5.look1]at hl;cases hk:Nat.beq k f with
  |true=>
   simp only[hk,QpI,Option.some.injEq]at hl;subst hl;have:=QpC hk;subst this;exact h.1
  |false=>simp only[hk,QpT]at hl;exact Q6I h.2 hl
theorem Az{l:List (Nat×PI)}(h:Q75 P l):BO P (A5 l):=by
 intro R f aa g ac hl k r hs;unfold A5 at hs;split at hs
 ·rename_i e he;exact Q6I h he R aa g ac hl k r hs
 ·cases hs
def QhC(s:Nat):AV->AV
 |.nil=>.d (.sl s [])
 |av=>av
def QhL:List Nat->List AV->List AV
 |s::ss,a::r=>QhC s a::QhL ss r
 |[],r=>r
 |_::_,[]=>[]
def QhP(ss:List Nat):AV->AV
 |.ag l=>.ag (QhL ss l)
 |av=>QhC (ss.headD 0) av
def QhN:List (List Nat)->List AV->List AV
 |s::ss,a::r=>QhP s a::QhN ss r
 |[],r=>r
 |_::_,[]=>[]
def Qfn(ss:List (List Nat)):AV->AV
 |.tup l=>.tup (QhN ss l)
 |av=>QhP (ss.headD []) av
theorem Q9Z(s:Nat)(av:AV):Cy av (QhC s av):=by
 unfold QhC;split
 ·exact .nil s
 ·exact .refl _
theorem Q9m:∀(ss:List Nat) (l:List AV),AVleL l (QhL ss l)
 |s::ss,a::r=>.cons (Q9Z s a) (Q9m ss r)
 |[],r=>by unfold QhL;exact .refl r
 |_::_,[]=>.nil
theorem Qam(ss:List Nat)(av:AV):Cy av (QhP ss av):=by
 unfold QhP;split
 ·exact .ag (Q9m ss _)
 grind[Q9Z]
theorem Q9R:∀(ss:List (List Nat)) (l:List AV),AVleL l (QhN ss l)
 |s::ss,a::r=>.cons (Qam s a) (Q9R ss r)
 |[],r=>by unfold QhN;exact .refl r
 |_::_,[]=>.nil
theorem Q9u(ss:List (List Nat))(av:AV):Cy av (Qfn ss av):=by
 unfold Qfn;split
 ·exact .tup (Q9R ss _)
 grind[Qam]
def retF{R:Type}(ss:List (List Nat))(K:AV->oP R):AV->List (Nat×Ob)->oP R:=λav h=>match Qbh h av with
 |some aa=>bif lf (Qfn ss aa)then K (Qfn ss aa)else none
 |none=>none
theorem Q5s {α : Type} {K : AV -> oP α} {res : α} {f : Nat} {fn : Func} (hf : P.funcs[f]? = some fn) (hb : fn.body.isSome = true) (hn : (fn.name == "runtime.NumGoroutine") = false) {ss : List (List Nat)} {avs : List AV} {av : AV} {hl : Nat -> oP Ob} {rd : List Nat} (hlf : lfL avs = true)
  (hcall:∀(β:Nat->oP Nat) (S:Nat->Prop) (w:World) (vs:List Value),Objs β S (look ([]:List (Nat×Ob))) w->ArgsRd β S (look ([]:List (Nat×Ob))) w vs avs->Calls P f vs.toArray w (Nc ([]:List (Nat×Ob)) (retF ss K) res β S w)) (hK:∀x,K x=some res->x=av):ZX P f avs hl ⟨av,[],rd⟩:=by
 refine⟨⟨fn,hf,hb,hn⟩,λβ S h' w args hO hA _=>?_⟩;have hO0:Objs (λ_=>none) S (look ([]:List (Nat×Ob))) w:=⟨λl o h=>by trivial,λl l' b h=>by simp[look]at h,λl b h=>by simp[look]at h,hO.sb⟩;have hA0:ArgsRd (λ_=>none) S (look ([]:List (Nat×Ob))) w args avs:=⟨hA.1,λi v av' h1 h2=>FE (Q1h hlf h2) (λ_ h=>h) (λ_ _=>rfl) (hA.2 i v av' h1 h2)⟩;refine(hcall _ _ _ _ hO0 hA0).mono λe w' ⟨v,av0,H',β',S',he,hk,hrd,_,hr⟩=>?_
 unfold retF at hk;split at hk
 case h_2=>cases hk
 rename_i av' hav;cases hlf2:lf (Qfn ss av')with
 |false=>simp_all
 |true=>
  simp only[hlf2,QpI]at hk;have hk:=hK _ hk;subst hk;have hO':Objs β' S' (look H') w':=⟨hr.ob,hr.inj,hr.apart,hr.sb⟩;obtain⟨bs,hbs,hlf',hrd'⟩:=Q2R hO' hav hrd;have hnoM:∀{b:Nat},(S b\/(∃l,(look ([]:List (Nat×Ob)) l).isSome=true/\(none:oP Nat)=some b)\/w.heap.size<=b)->S b\/w.heap.size<=b:=by
   simp_all
  have hfz:∀b,fzS β' S' bs b->S b\/w.heap.size<=b:=by
   intro b hS;rcases hS with hS | ⟨l,hl',hb'⟩
   ·exact hnoM (hr.sfr b hS)
   ·obtain⟨e',s,rows,hh⟩:=hbs l hl';exact hnoM (.inr (hr.own l b (by simp[hh]) hb'))
  refine⟨v,β,fzS β' S' bs,he,⟨λb hS=>.inl (hr.s0 b hS),λb hS=>?_,λb hS=>?_,?_,λ_ _=>rfl,λl o hl'=>by trivial,λl hl'=>by simp[wrL]at hl',λl b hl'=>by simp[wrL]at hl',λl l' b hl'=>by simp[wrL]at hl',λl hl'=>by simp[wrL]at hl',?_,λt=>Q54 t _ hlf2⟩⟩
  ·rcases hfz b hS with h1 | h1
   ·exact .inl h1
   ·exact .inr (.inl h1)
  ·rcases hS with hS | ⟨l,hl',hb'⟩
   ·exact hr.sb b hS
   ·obtain⟨e',s,rows,hh⟩:=hbs l hl';rcases hr.ob l _ hh with⟨hn',_⟩|⟨b2,cs,hb2,hw2,_⟩
    ·rw[hb']at hn';cases hn'
    ·rw[hb']at hb2;injection hb2 with hb2;subst hb2
     exact(QpM.1 hw2).1
  ·refine hr.fr.mono λb _ ⟨l,h1,_⟩=>?_
   simp[look]at h1
  ·exact FE hlf2 (λ_ h=>h) (λ_ _=>rfl) (Q9u ss _ _ _ _ _ _ _ hrd')
def cL:Code->Code | .seq a _=>a | c=>c
def cR:Code->Code | .seq _ b=>b | c=>c
def cB:Code->Code | .block _ c=>c | .loop c=>c | c=>c
def cT:Code->Code | .cond _ a _=>a | c=>c
def cE:Code->Code | .cond _ _ b=>b | c=>c
def V7(fn:Func):Code:=fn.body.getD .skip
end
section
variable{P:Program} {R:Type}
theorem Q70{ρ:List (Nat×Nat)}{β β':Nat->oP Nat}{S:Nat->Prop}{h h':Nat->oP Ob}(aa:∀l k,(l,k)∈ρ->β' k=β l)(ai:∀l k o,(l,k)∈ρ->h l=some o->h' k=some (QcE ρ o))(aq:∀l k,(l,k)∈ρ->h l=none->h' k=none){w:World}{tm:Nat->Value}{v:Value}{av:AV}(hv:RdA β S h w tm v av):RdA β' S h' w tm v (U8 ρ av):=by
 induction hv with
 |top v=>exact .top v
 |d v x hx=>exact .d v x hx
 |nil=>exact .nil
 |ag cs l hl _ ih=>
  refine .ag cs _ (by grind[Z7]) λi x hx=>?_
  grind[VK,Option.map_eq_some_iff]
 |tup cs l hl _ ih=>
  refine .tup cs _ (by rw[Z7];exact hl) λi x hx=>?_
  rw[VK,QpE]at hx
  grind
 |fn f cs l hl _ ih=>
  refine .fn f cs _ (by rw[Z7];exact hl) λi x hx=>?_
  rw[VK,QpE]at hx;obtain⟨y,hy,rfl⟩:=hx;exact ih i y hy
 |ptr l off b hb=>
  unfold U8;split
  ·rename_i l' hl;exact .ptr _ _ _ ((aa _ _ (Y2 hl)).trans hb)
  ·exact .top _
 |sa v l t b hb hv=>
  unfold U8;split
  ·rename_i l' hl;exact .sa _ _ _ b ((aa _ _ (Y2 hl)).trans hb) hv
  ·exact .top _
 |el ad row off c hs hc hr=>exact .el ad row off c hs hc hr
 |fs ad s rows hx=>exact .fs ad s rows hx
 |mpd v f hm=>exact .mpd v f hm
 |ex v=>exact .ex v
 |arr0 l e s hb hh=>
  unfold U8;split
  ·rename_i l' hl;exact .arr0 _ e s ((aa _ _ (Y2 hl)).trans hb) (ai _ _ _ (Y2 hl) hh)
  ·exact .top _
 |arr l b cap e s rows cs ty fz hb hh hw aw an ao=>
  unfold U8;split
  ·rename_i l' hl;exact .arr _ b cap e s rows cs ty fz ((aa _ _ (Y2 hl)).trans hb) (ai _ _ _ (Y2 hl) hh) hw aw an ao
  ·exact .top _
 |mp l b t f hb hh=>
  unfold U8;split
  ·rename_i l' hl;exact .mp _ b t f ((aa _ _ (Y2 hl)).trans hb) (ai _ _ _ (Y2 hl) hh)
  ·exact .top _
 |ap l i off b e s rows hb hh=>
  unfold U8;split
  ·rename_i l' hl;exact .ap _ i off b e s rows ((aa _ _ (Y2 hl)).trans hb) (ai _ _ _ (Y2 hl) hh)
  ·exact .top _
 |dang v av l hl hh h1=>
  cases av<;>simp[TZ]at hl
  ·subst hl;unfold U8;split
   ·rename_i l' am;exact .dang _ _ l' rfl (aq _ _ (Y2 am) hh) h1
   ·exact .top _
  ·subst hl;unfold U8;split
   ·rename_i l' am;exact .dang _ _ l' rfl (aq _ _ (Y2 am) hh) h1
   ·exact .top _
 |gdT=>exact .top _
 |gdF=>exact .top _
def Qds(ρ:List (Nat×Nat))(av:AV):Bool:=
 match av with
 |.ptr j _=>(look ρ j).isSome
 |av=>lf av
def Cb(ρ:List (Nat×Nat)):List AV->Bool
 |[]=>true
 |a::r=>Qds ρ a&&Cb ρ r
theorem Q3w{ρ:List (Nat×Nat)}:∀{l:List AV} {i:Nat} {x:AV},Cb ρ l=true->l[i]? = some x->Qds ρ x=true
 |a::r,0,x,h,hx=>by
  simp only[Cb,QpD]at h;simp at hx;subst hx;exact h.1
 |a::r,i+1,x,h,hx=>by
  simp only[Cb,QpD]at h;exact Q3w h.2 (by simpa using hx)
def MN(σ:List (Nat×Nat))(H:List (Nat×Ob)):List (Nat×Nat)->List (Nat×oP Ob)
 |[]=>[]
 |(j,l)::r=>(l,(look H j).map (QcE σ))::MN σ H r
theorem Bv(σ:List (Nat×Nat))(H:List (Nat×Ob)):∀τ,(MN σ H τ).map (·.1)=τ.map (·.2)
 |[]=>rfl
 |(j,l)::r=>by simp[MN,Bv σ H r]
theorem Le(σ:List (Nat×Nat))(H:List (Nat×Ob)):∀(τ:List (Nat×Nat)) (h:Nat->oP Ob),Xm (τ.map (·.2))=true->∀j l,(j,l)∈τ->KQ h (MN σ H τ) l=(look H j).map (QcE σ)
 |(a,b)::r,h,hn,j,l,hm=>by
  simp only[QpQ,Xm,QpD,QpK]at hn;simp only[MN,KQ];rcases QpJ.1 hm with hm | hm
  ·injection hm with e1 e2
   subst e1 e2;rw[UM]
   ·simp
   ·rw[Bv];intro aa;have:PL l (r.map (·.2))=true:=by
     have:∀(L:List Nat),l∈L->PL l L=true:=by
      intro L;induction L with
      |nil=>simp_all
      |cons x xs ih=>
       grind[PL,Nat.beq_refl]
     simp_all
    simp_all
  ·exact Le σ H r _ hn.2 j l hm
mutual
theorem Q28(ρ:List (Nat×Nat))(t:Nat):∀av:AV,gds t (U8 ρ av)=false
 |.top=>rfl
 |.d _=>rfl
 |.nil=>rfl
 |.el ..=>rfl
 |.fs ..=>rfl
 |.mpd _=>rfl
 |.ex _=>rfl
 |.gd ..=>rfl
 |.ag l=>by simp only[U8,gds];exact Fg ρ t l
 |.tup l=>by simp only[U8,gds];exact Fg ρ t l
 |.fn _ l=>by simp only[U8,gds];exact Fg ρ t l
 |.ptr l o=>by unfold U8;split<;>rfl
 |.arr l=>by unfold U8;split<;>rfl
 |.ap l i o=>by unfold U8;split<;>rfl
 |.sa l t=>by unfold U8;split<;>rfl
theorem Fg(ρ:List (Nat×Nat))(t:Nat):∀l:List AV,Q05 t (Q3j ρ l)=false
 |[]=>rfl
 |a::r=>by simp only[Q3j,Q05,Q28 ρ t a,Fg ρ t r,Bool.or_self]
end
mutual
theorem Q9q(ρ:List (Nat×Nat)):∀av:AV,lf av=true->U8 ρ av=av
 |.top,_=>rfl
 |.d _,_=>rfl
 |.nil,_=>rfl
 |.el ..,_=>rfl
 |.fs ..,_=>rfl
 |.mpd _,_=>rfl
 |.ex _,_=>rfl
 |.gd ..,h=>by simp[lf]at h
 |.ag l,h=>by simp only[U8];rw[Q1H ρ l (by simpa[lf]using h)]
 |.tup l,h=>by simp only[U8];rw[Q1H ρ l (by simpa[lf]using h)]
 |.fn _ l,h=>by simp only[U8];rw[Q1H ρ l (by simpa[lf]using h)]
 |.ptr ..,h=>by simp[lf]at h
 |.arr _,h=>by simp[lf]at h
 |.ap ..,h=>by simp[lf]at h
 |.sa ..,h=>by simp[lf]at h
theorem Q1H(ρ:List (Nat×Nat)):∀l:List AV,lfL l=true->Q3j ρ l=l
 |[],_=>rfl
 |a::r,h=>by
  simp only[lfL,QpD]at h;simp only[Q3j,Q9q ρ a h.1,Q1H ρ r h.2]
end
theorem Q7o{σ:List (Nat×Nat)}{l:Nat}(h:l ∉ σ.map (·.2)):inv σ l=none:=by
 cases hi:inv σ l with
 |none=>rfl
 |some j=>exact absurd (QpW.2 ⟨(j,l),Q9T hi,rfl⟩) h
theorem LR{ρ:List (Nat×Nat)}(hn:Xm (ρ.map (·.1))=true){j l:Nat}(hm:(j,l)∈ρ):look ρ j=some l:=by
 cases hk:look ρ j with
 |none=>
  have:∀(L:List (Nat×Nat)),(j,l)∈L->look L j≠none:=by
   intro L;induction L with
   |nil=>simp_all
   |cons x r ih=>
    grind[Xd]
  simp_all
 |some l'=>
  have:=Ho hn (j,l) (j,l') hm (Y2 hk) rfl
  simp_all
structure HeapEnd(σ ρ:List (Nat×Nat))(H:List (Nat×Ob))(av:AV)(H':List (Nat×Ob))(dl:Dl):Prop where
 v:U8 σ av=dl.v
 wr:MN σ H' σ=dl.wr
 all:∀j l,(j,l)∈σ->(look H' j).isSome=true
 box:∀j l,(j,l)∈ρ->∃c c',look H j=some (.box c)/\look H' j=some (.box c')/\c'.length=c.length
theorem Q4D {α : Type} {K : AV -> List (Nat×Ob) -> oP α} {res : α} {f : Nat} {fn : Func} (hf : P.funcs[f]? = some fn) (hb : fn.body.isSome = true) (hn : (fn.name == "runtime.NumGoroutine") = false)
  {σ ρ:List (Nat×Nat)} {avs avs':List AV} {H:List (Nat×Ob)} {hl:Nat->oP Ob} {dl:Dl}
  (hav:avs=avs'.map (U8 ρ)) (hargs:Cb ρ avs'=true)
  (hsub:∀p,p∈ρ->p∈σ) (h1:Xm (σ.map (·.1))=true) (h2:Xm (σ.map (·.2))=true) (hρ:Xm (ρ.map (·.1))=true)
  (hin:∀j l,(j,l)∈ρ->1000000<=j/\∃cs cs',hl l=some (.box cs)/\look H j=some (.box cs')/\AVleL cs cs'/\lfL cs'=true)
  (hinH:∀j,(look H j).isSome=true->∃l,(j,l)∈ρ)
  (hnew:∀j l,(j,l)∈σ->(j,l)∈ρ\/hl l=none)
  (hwl:wrL dl=σ.map (·.2))
  (hcall:∀(β:Nat->oP Nat) (S:Nat->Prop) (w:World) (vs:List Value),Objs β S (look H) w->ArgsRd β S (look H) w vs avs'->Calls P f vs.toArray w (Nc H K res β S w)) (hK:∀av H',K av H'=some res->HeapEnd σ ρ H av H' dl):ZX P f avs hl dl:=by
 refine⟨⟨fn,hf,hb,hn⟩,λβ S h' w args hO hA hag=>?_⟩;have hag:∀{j l:Nat},(j,l)∈σ->h' l=hl l:=λ{j l} hm=>hag l (.inr (by rw[hwl];exact QpW.2 ⟨(j,l),hm,rfl⟩))
 have hlook:∀{j l:Nat},(j,l)∈ρ->look ρ j=some l:=λhm=>LR hρ hm
 have hβc:∀{j l:Nat},(j,l)∈ρ->(look ρ j).bind β=β l:=λhm=>by rw[hlook hm];rfl
 have hlk2:∀{j j' l:Nat},(j,l)∈ρ->(j',l)∈ρ->j=j':=λa b=>by
  have:=Ho h2 _ _ (hsub _ a) (hsub _ b) rfl;injection this
 have hsome':∀{j l:Nat},(j,l)∈ρ->(h' l).isSome=true:=λhm=>by
  obtain⟨_,cs,cs',g1,_⟩:=hin _ _ hm;rw[hag (hsub _ hm),g1];rfl
 have hO0:Objs (λj=>(look ρ j).bind β) S (look H) w:=by
  refine⟨λj o ho=>?_,λj j' b s1 s2 b1 b2=>?_,λj b s1 b1=>?_,hO.sb⟩
  ·obtain⟨l,hm⟩:=hinH j (by simp[ho]);obtain⟨_,cs,cs',g1,g2,g3,g4⟩:=hin j l hm;rw[ho]at g2;injection g2 with g2
   subst g2;obtain⟨b,ty,c0,fz,e1,e2,e3,e4,e5⟩:=hO.ob l _ ((hag (hsub _ hm)).trans g1);refine⟨b,ty,c0,fz,(hβc hm).trans e1,e2,⟨e3.1,λi l' t' hx=>by have:=Q1h g4 hx;simp[lf]at this⟩,e4.trans g3.length,λi x hx=>?_⟩;obtain⟨y,y1,y2⟩:=g3.at i x hx;exact FE (Q1h g4 hx) (λ_ h=>h) (λ_ _=>rfl) (y2 _ _ _ _ _ _ (e5 i y y1))
  ·obtain⟨l,hm⟩:=hinH j s1;obtain⟨l',hm'⟩:=hinH j' s2;have:=hO.inj l l' b (hsome' hm) (hsome' hm') (by rw[<- hβc hm];exact b1) (by rw[<- hβc hm'];exact b2);subst this;exact hlk2 hm hm'
  ·obtain⟨l,hm⟩:=hinH j s1;exact hO.apart l b (hsome' hm) (by rw[<- hβc hm];exact b1)
 have hA0:ArgsRd (λj=>(look ρ j).bind β) S (look H) w args avs':=by
  refine⟨by rw[hA.1,hav,List.length_map],λi v av g1 g2=>?_⟩;have hr:=hA.2 i v (U8 ρ av) g1 (by rw[hav,List.getElem?_map,g2];rfl);have hok:=Q3w hargs g2;unfold Qds at hok;split at hok
  ·rename_i j o;cases hj:look ρ j with
   |none=>rw[hj]at hok;cases hok
   |some l=>
    simp only[U8,hj]at hr;cases hr with
    |ptr _ _ b hb'=>exact .ptr j o b (by simp only[hj];exact hb')
    |dang _ _ _ hl'=>simp[TZ]at hl'
  ·rw[Q9q ρ av hok]at hr;exact FE hok (λ_ h=>h) (λ_ _=>rfl) hr
 refine(hcall _ _ _ _ hO0 hA0).mono λe w' ⟨v,av,H',β',S',he,hk,hrd,_,hr⟩=>?_
 obtain⟨q1,q2,q3,q4⟩:=hK av H' hk;have hinv:∀{j l:Nat},(j,l)∈σ->inv σ l=some j:=λhm=>Q4d h2 hm
 let βo:Nat->oP Nat:=λl=>match inv σ l with | some j=>β' j | none=>β l
 have hβo:∀j l,(j,l)∈σ->βo l=β' j:=λj l hm=>by simp only[βo,hinv hm]
 have hset:∀j l,(j,l)∈σ->KQ h' dl.wr l=(look H' j).map (QcE σ):=λj l hm=>by rw[<- q2];exact Le σ H' σ h' h2 j l hm
 have hmem:∀{l:Nat},l∈wrL dl->∃j,(j,l)∈σ:=λhm=>by
  rw[hwl]at hm;obtain⟨⟨j,l'⟩,m1,m2⟩:=QpW.1 hm;simp only at m2;subst m2;exact⟨j,m1⟩
 have hpin:∀{j l:Nat},(j,l)∈ρ->β' j=β l:=λhm=>(hr.pin _ (hin _ _ hm).1).trans (hβc hm)
 have hren:∀{v:Value} {x:AV},RdA β' S' (look H') w' tm0 v x->RdA βo S' (KQ h' dl.wr) w' tm0 v (U8 σ x):=λhx=>
  Q70 hβo (λj l o hm ho=>by rw[hset j l hm,ho];rfl) (λj l hm ho=>by rw[hset j l hm,ho];rfl) hx
 have hnotin:∀{j l:Nat},(j,l)∈σ->(j,l) ∉ ρ->∀b,β' j=some b->w.heap.size<=b:=by
  intro j l hm hno b hb';rcases hr.own j b (q3 j l hm) hb' with⟨j',s1,s2⟩ | h
  ·exfalso;obtain⟨l',hm'⟩:=hinH j' s1;have e1:β' j'=some b:=(hpin hm').trans (by rw[<- hβc hm'];exact s2);have:=hr.inj j j' b (q3 j l hm) (q3 j' l' (hsub _ hm')) hb' e1;subst this;have:=Ho h1 _ _ hm (hsub _ hm') rfl;exact hno (this▸hm')
  ·exact h
 have hMw:∀b,(∃j,(look H j).isSome=true/\(look ρ j).bind β=some b)->∃l,l∈wrL dl/\(h' l).isSome=true/\β l=some b:=by
  intro b ⟨j,s1,s2⟩;obtain⟨l,hm⟩:=hinH j s1;exact⟨l,by rw[hwl];exact QpW.2 ⟨(j,l),hsub _ hm,rfl⟩,hsome' hm,by rw[<- hβc hm];exact s2⟩
 refine⟨v,βo,S',he,⟨hr.s0,λb hS=>?_,hr.sb,hr.fr.mono λb _ hM=>hMw b hM,λl hno=>?_,λl o hm ho=>?_,λl hm hs=>?_,λl b hm hs hb'=>?_,λl l' b hm hm' hs hs' hb' hb''=>?_,λl hm hno hno'=>?_,?_,λt=>by rw[<- q1];exact Q28 σ t av⟩⟩
 ·rcases hr.sfr b hS with g | g | g
  ·exact .inl g
  ·exact .inr (.inr (hMw b g))
  ·exact .inr (.inl g)
 ·have:inv σ l=none:=Q7o (by rw[<- hwl];exact hno);simp only[βo,this]
 ·obtain⟨j,hj⟩:=hmem hm;rw[hset j l hj,QpE]at ho;obtain⟨o',ho',rfl⟩:=ho;have hob:=hr.ob j o' ho';cases o' with
  |box cells=>
   obtain⟨b,ty,cs,fz,g1,g2,g3,g4,g5⟩:=hob;refine⟨b,ty,cs,fz,(hβo j l hj).trans g1,g2,⟨g3.1,Q1B g3.2⟩,by rw[g4,Z7],λi x hx=>?_⟩;rw[VK,QpE]at hx;obtain⟨y,hy,rfl⟩:=hx;exact hren (g5 i y hy)
  |arr e s rows=>
   rcases hob with⟨g1,g2⟩|⟨b,cs,g1,g2,g3,g4,g5⟩
   ·exact .inl ⟨(hβo j l hj).trans g1,g2⟩
   ·exact .inr ⟨b,cs,(hβo j l hj).trans g1,g2,g3,g4,g5⟩
  |mp t f=>
   obtain⟨b,hb,hm'⟩:=hob;exact⟨b,(hβo j l hj).trans hb,hm'⟩
 ·obtain⟨j,hj⟩:=hmem hm;rcases hnew j l hj with hp | hno
  ·obtain⟨c,c',g1,g2,g3⟩:=q4 j l hp;obtain⟨_,cs,cs',e1,e2,e3,_⟩:=hin j l hp;have hh:h' l=some (.box cs):=(hag hj).trans e1;refine⟨(hβo j l hj).trans (hpin hp),λhx=>(by rw[hh]at hx;cases hx),λe s rows hx=>(by rw[hh]at hx;cases hx),λb c0 ty fz _ hb' hw=>?_,λt f hx=>(by rw[hh]at hx;cases hx)⟩;obtain⟨b2,ty2,c2,fz2,k1,k2,_,k4,_⟩:=hr.ob j _ g2;obtain⟨b3,ty3,c3,fz3,m1,m2,_,m4,_⟩:=hO.ob l _ hh;rw[hpin hp,hb']at k1;injection k1 with k1
   subst k1;rw[hb']at m1;injection m1 with m1
   subst m1;rw[hw]at m2;injection m2 with m2
   injection m2 with m2 _ _
   subst m2;refine⟨c2,ty2,fz2,k2,?_⟩;rw[k4,m4,g3];rw[g1]at e2;injection e2 with e2
   injection e2 with e2
   rw[e2,e3.length]
  ·rw[hag hj,hno]at hs;cases hs
 ·obtain⟨j,hj⟩:=hmem hm;rw[hβo j l hj]at hb';refine⟨?_,hr.apart j b (q3 j l hj) hb'⟩;by_cases hp:(j,l)∈ρ
  ·exact .inr ⟨l,hm,hsome' hp,by rw[<- hpin hp];exact hb'⟩
  ·exact .inl (hnotin hj hp b hb')
 ·obtain⟨j,hj⟩:=hmem hm;obtain⟨j',hj'⟩:=hmem hm';rw[hβo j l hj]at hb';rw[hβo j' l' hj']at hb'';have:=hr.inj j j' b (q3 j l hj) (q3 j' l' hj') hb' hb'';subst this;have:=Ho h1 _ _ hj hj' rfl;injection this
 ·obtain⟨j,hj⟩:=hmem hm;have:=q3 j l hj;rw[hset j l hj]at hno';cases hx:look H' j with
  |none=>rw[hx]at this;cases this
  |some o=>rw[hx]at hno';cases hno'
 ·rw[<- q1];exact hren hrd
def QgB(hl:Nat->oP Ob)(H:List (Nat×Ob)):List (Nat×Nat)->Prop
 |[]=>True
 |(j,l)::r=>(1000000<=j/\∃cs aa,hl l=some (.box cs)/\look H j=some (.box aa)/\AVleL cs aa/\lfL aa=true)/\QgB hl H r
def QcK(H:List (Nat×Ob)):List (Nat×Nat)->Prop
 |[]=>True
 |(j,_)::r=>(look H j).isSome=true/\QcK H r
def QfV(H H':List (Nat×Ob)):List (Nat×Nat)->Prop
 |[]=>True
 |(j,_)::r=>(∃c c',look H j=some (.box c)/\look H' j=some (.box c')/\c'.length=c.length)/\QfV H H' r
def QhW(hl:Nat->oP Ob):List (Nat×Nat)->Bool
 |[]=>true
 |(_,l)::r=>(hl l).isNone&&QhW hl r
theorem Q98{hl:Nat->oP Ob}{H:List (Nat×Ob)}:∀{ρ:List (Nat×Nat)},QgB hl H ρ->∀j l,(j,l)∈ρ->1000000<=j/\∃cs aa,hl l=some (.box cs)/\look H j=some (.box aa)/\AVleL cs aa/\lfL aa=true
 |(a,b)::r,h,j,l,hm=>by
  rcases QpJ.1 hm with hm | hm
  ·injection hm with h1 h2;subst h1 h2;exact h.1
  ·exact Q98 h.2 j l hm
theorem Q5p{H:List (Nat×Ob)}:∀{ρ:List (Nat×Nat)},QcK H ρ->∀j l,(j,l)∈ρ->(look H j).isSome=true
 |(a,b)::r,h,j,l,hm=>by
  rcases QpJ.1 hm with hm | hm
  ·injection hm with h1 h2;subst h1 h2;exact h.1
  ·exact Q5p h.2 j l hm
theorem Q90{H H':List (Nat×Ob)}:∀{ρ:List (Nat×Nat)},QfV H H' ρ->∀j l,(j,l)∈ρ->∃c c',look H j=some (.box c)/\look H' j=some (.box c')/\c'.length=c.length
 |(a,b)::r,h,j,l,hm=>by
  rcases QpJ.1 hm with hm | hm
  ·injection hm with h1 h2;subst h1 h2;exact h.1
  ·exact Q90 h.2 j l hm
theorem Q6B{hl:Nat->oP Ob}:∀{ρ:List (Nat×Nat)},QhW hl ρ=true->∀j l,(j,l)∈ρ->hl l=none
 |(a,b)::r,h,j,l,hm=>by
  simp only[QhW,QpD]at h;rcases QpJ.1 hm with hm | hm
  ·injection hm with h1 h2;subst h1 h2;simpa using h.1
  ·exact Q6B h.2 j l hm
theorem Q2b:∀{H:List (Nat×Ob)} {ρ:List (Nat×Nat)},H.map (·.1)=ρ.map (·.1)->∀j,(look H j).isSome=true->∃l,(j,l)∈ρ
 |[],_,_,j,hs=>by simp[look]at hs
 |(a,o)::r,[],h,_,_=>by simp at h
 |(a,o)::r,(b,l)::ρ,h,j,hs=>by
  simp only[QpQ,List.cons.injEq]at h;rw[Xd]at hs;by_cases e:j=a
  ·exact⟨l,by rw[e,h.1];exact List.mem_cons_self ..⟩
  ·rw[QpV e]at hs;obtain⟨l',hm⟩:=Q2b h.2 j hs;exact⟨l',List.mem_cons_of_mem _ hm⟩
def N9(hl:Nat->oP Ob)(ρ ν:List (Nat×Nat)):Bool:=Xm ((ρ++ν).map (·.2))&&QhW hl ν
theorem AX {α : Type} {K : AV -> List (Nat×Ob) -> oP α} {res : α} {f : Nat} {fn : Func} (hf : P.funcs[f]? = some fn) (hb : fn.body.isSome = true) (hn : (fn.name == "runtime.NumGoroutine") = false)
  {ρ ν:List (Nat×Nat)} {avs avs':List AV} {H:List (Nat×Ob)} {hl:Nat->oP Ob} {dl:Dl}
  (hav:avs=avs'.map (U8 ρ)) (hargs:Cb ρ avs'=true) (h1:Xm ((ρ++ν).map (·.1))=true) (hρ:Xm (ρ.map (·.1))=true)
  (hc:N9 hl ρ ν=true) (hin:QgB hl H ρ) (hkeys:H.map (·.1)=ρ.map (·.1)) (hwl:wrL dl=(ρ++ν).map (·.2))
  (hcall:∀(β:Nat->oP Nat) (S:Nat->Prop) (w:World) (vs:List Value),Objs β S (look H) w->ArgsRd β S (look H) w vs avs'->Calls P f vs.toArray w (Nc H K res β S w))
  (hK:∀av H',K av H'=some res->U8 (ρ++ν) av=dl.v/\MN (ρ++ν) H' (ρ++ν)=dl.wr/\QcK H' (ρ++ν)/\QfV H H' ρ):ZX P f avs hl dl:=by
 simp only[N9,QpD]at hc;refine Q4D hf hb hn hav hargs (λp hp=>List.mem_append_left _ hp) h1 hc.1 hρ (Q98 hin) (Q2b hkeys) (λj l hm=>?_) hwl hcall λav H' hk=>?_
 ·grind[Q6B]
 ·obtain⟨q1,q2,q3,q4⟩:=hK av H' hk;exact⟨q1,q2,Q5p q3,Q90 q4⟩
theorem Qfj {α : Type} {K : AV -> List (Nat×Ob) -> oP α} {res : α} {C : VC} (hC : VCOk P C) {n f : Nat} {fn : Func} (hf : P.funcs[f]? = some fn) (hb : fn.body.isSome = true) (hn : (fn.name == "runtime.NumGoroutine") = false)
  {ρ ν:List (Nat×Nat)} {avs avs':List AV} {H:List (Nat×Ob)} {hl:Nat->oP Ob} {dl:Dl}
  (hav:avs=avs'.map (U8 ρ)) (hargs:Cb ρ avs'=true) (h1:Xm ((ρ++ν).map (·.1))=true) (hρ:Xm (ρ.map (·.1))=true)
  (hc:N9 hl ρ ν=true) (hin:QgB hl H ρ) (hkeys:H.map (·.1)=ρ.map (·.1)) (hwl:wrL dl=(ρ++ν).map (·.2))
  (h:vfn C n fn avs' H K=some res)
  (hK:∀av H',K av H'=some res->U8 (ρ++ν) av=dl.v/\MN (ρ++ν) H' (ρ++ν)=dl.wr/\QcK H' (ρ++ν)/\QfV H H' ρ):ZX P f avs hl dl:=
 AX hf hb hn hav hargs h1 hρ hc hin hkeys hwl (λ_ _ _ _ hO hA=>Bo hC hf h hO hA) hK
theorem Xl{c:Bool}{x:oP R}{r:R}(h:(bif c then x else none)=some r):c=true/\x=some r:=by
 grind
def Qja(l:List Nat)(a b:PI):PI:=λR aa g ac hl k=>bif PL aa l then a R aa g ac hl k else b R aa g ac hl k
theorem QdK(l:List Nat){f:Nat}{a b:PI}(ha:VH P f a)(hb:VH P f b):VH P f (Qja l a b):=by
 intro R aa g ac hl k r h;unfold Qja at h;cases hm:PL aa l with
 |true=>rw[hm]at h;exact ha R aa g ac hl k r h
 |false=>rw[hm]at h;exact hb R aa g ac hl k r h
def prP(hl:Nat->oP Ob)(av:AV)(k:Nat->List AV->oP R):oP R:=
 match av with
 |.ptr l o=>bif Nat.beq o 0 then match hl l with
  |some (.box cs)=>k l cs
  |_=>none
  else none
 |_=>none
theorem QhH{hl:Nat->oP Ob}{av:AV}{k:Nat->List AV->oP R}{r:R}(h:prP hl av k=some r):∃l cs,k l cs=some r/\av = .ptr l 0/\hl l=some (.box cs):=by
 unfold prP at h
 grind[Nat.beq,Nat.eq_of_beq_eq_true]
end
end Go.Vx
namespace Go.Vx
variable{w:World}
section
variable{P:Program} {R:Type}
def SW(w:World):Nat->Prop:=λb=>b<w.heap.size
theorem Q9a{f:Nat}{ss:List (List Nat)}{K:AV->oP Bool}(hK:∀x,K x=some true->x = .d (.bool true)){ak:List AV}{args:List Value}(hA:ArgsRd (λ_=>none) (SW w) (look ([]:List (Nat×Ob))) w args ak)(ac:∀(β:Nat->oP Nat) (S:Nat->Prop) (w:World) (vs:List Value),Objs β S (look ([]:List (Nat×Ob))) w->ArgsRd β S (look ([]:List (Nat×Ob))) w vs ak->Calls P f vs.toArray w (Nc ([]:List (Nat×Ob)) (retF ss K) true β S w)) :
  Calls P f args.toArray w λe w'=>e = .returned (.bool true)/\RowKit.Below w.heap.size w w':=by
 have hO:Objs (λ_=>none) (SW w) (look ([]:List (Nat×Ob))) w:=⟨λl o h=>by simp[look]at h,λl l' b h=>by simp[look]at h,λl b h=>by simp[look]at h,λb h=>h⟩;refine(ac _ _ _ _ hO hA).mono λe w' ⟨v,av,H',β',S',he,hk,aq,_,hr⟩=>?_
 refine⟨?_,Fr.below (hr.fr.mono λb _ ⟨l,h1,_⟩=>by simp[look]at h1)⟩;unfold retF at hk;split at hk
 case h_2=>cases hk
 rename_i ao am;cases aa:lf (Qfn ss ao)with
 |false=>simp[aa]at hk
 |true=>
  simp only[aa,QpI]at hk;have hk:=hK _ hk;have an:Objs β' S' (look H') w':=⟨hr.ob,hr.inj,hr.apart,hr.sb⟩;obtain⟨bs,_,_,ai⟩:=Q2R an am aq;have:=Q9u ss _ _ _ _ _ _ _ ai;rw[hk]at this;rw[he,this.bool_inv]
theorem Q7P{β:Nat->oP Nat}{S:Nat->Prop}{h:Nat->oP Ob}:ArgsRd β S h w [] []:=⟨rfl,λi v av h=>by simp at h⟩
theorem Q5K{β:Nat->oP Nat}{S:Nat->Prop}{h:Nat->oP Ob}{v:Value}{av:AV}{vs:List Value}{aa:List AV}(h0:RdA β S h w tm0 v av)(hr:ArgsRd β S h w vs aa):ArgsRd β S h w (v::vs) (av::aa):=by
 refine⟨by simp[hr.1],λi v' ac h1 h2=>?_⟩;cases i with
 |zero=>simp at h1 h2;subst h1 h2;exact h0
 |succ i=>exact hr.2 i v' ac (by simpa using h1) (by simpa using h2)
theorem Qfb{a:Addr}{v:Value}(h:w.cell? a=some v):a.block<w.heap.size:=by
 rcases Nat.lt_or_ge a.block w.heap.size with h1 | h1
 ·exact h1
 ·simp[World.cell?,Array.getElem?_eq_none h1]at h
theorem Qh{α:Type}(g:Bool)(a z:α)(k:α->oP R):gb g (some a) z k=k a:=rfl
end
end Go.Vx
namespace Go.Vx
inductive Sh where
 |int (k:IntKind)
 |bool
 |str
 |sl (row:List Sh)
inductive Fit:Sh->D->Prop
 |int (k:IntKind) (n:Int) (h:(Lit.int k n).wf=true):Fit (.int k) (.int k n)
 |bool (b:Bool):Fit .bool (.bool b)
 |str (s:List UInt8) (h:s.length<=maxLen):Fit .str (.str s)
 |sl (row:List Sh) (rows:List (List D)) (h:rows.length<=maxLen) (hl:∀(i:Nat) (r:List D),rows[i]? = some r->r.length=row.length)
   (hr:∀(i j:Nat) (r:List D) (s:Sh) (x:D),rows[i]? = some r->row[j]? = some s->r[j]? = some x->Fit s x):Fit (.sl row) (.sl row.length rows)
def QcL(ss:List Sh)(ds:List D):Prop:=ds.length=ss.length/\∀(j:Nat) (s:Sh) (x:D),ss[j]? = some s->ds[j]? = some x->Fit s x
def QfD(P:Program)(so:TypeId->oP (List Sh)):Nat->List Field->oP (List Sh)
 |_,[]=>some []
 |off,fd::r=>
  if fd.offset=off then match so fd.type with
   |some a=>if a.length=P.cellsOf fd.type then match QfD P so (off+a.length) r with
    |some l=>some (a++l)
    |none=>none
    else none
   |none=>none
  else none
def Qag(P:Program):Nat->TypeId->oP (List Sh)
 |0,_=>none
 |f+1,t=>
  match P.underlying t with
  |some .bool=>some [.bool]
  |some (.int k)=>some [.int k]
  |some .string=>some [.str]
  |some (.slice e)=>match Qag P f e with
   |some row=>if row.length=P.cellsOf e/\row.length≠0 then some [.sl row]else none
   |none=>none
  |some (.struct fs)=>match QfD P (Qag P f) 0 fs.toList with
   |some l=>if l.length=P.cellsOf t then some l else none
   |none=>none
  |_=>none
section
variable{P:Program} {H:Type} {enc:TypeId×Value->H} {w:World}
def RdL(w:World)(cs:List Value)(ds:List D):Prop:=cs.length=ds.length/\∀(j:Nat) (v:Value) (x:D),cs[j]? = some v->ds[j]? = some x->Rd (SW w) w v x
theorem Q6p{α:Type}{Q:Nat->α->Prop}:∀(n:Nat),(∀i,i<n->∃a,Q i a)->∃l:List α,l.length=n/\∀(i:Nat) (a:α),l[i]? = some a->Q i a
 |0,_=>⟨[],rfl,λi a h=>by simp at h⟩
 |n+1,h=>by
  obtain⟨l,h1,h2⟩:=Q6p n λi hi=>h i Q0
  obtain⟨a,ha⟩:=h n Q0;refine⟨l++[a],by simp[h1],λi x hx=>?_⟩;rw[List.getElem?_append]at hx;split at hx
  ·exact h2 i x hx
  ·have:i=l.length:=by
    rcases Nat.lt_or_ge (i-l.length) 1 with h3 | h3
    ·omega
    ·rw[QpY (by simpa using h3)]at hx;cases hx
   subst this;simp at hx;subst hx;rw[h1];exact ha
theorem QcL.append{a b:List Sh}{x y:List D}(h1:QcL a x)(h2:QcL b y):QcL (a++b) (x++y):=by
 refine⟨by simp[h1.1,h2.1],λj s d hs hd=>?_⟩;rw[List.getElem?_append]at hs hd;rw[h1.1]at hd;split at hs
 ·rename_i h;rw[if_pos h]at hd;exact h1.2 j s d hs hd
 ·rename_i h;rw[QpV h]at hd;exact h2.2 _ s d hs hd
theorem RdL.append{a b:List Value}{x y:List D}(h1:RdL w a x)(h2:RdL w b y):RdL w (a++b) (x++y):=by
 refine⟨by simp[h1.1,h2.1],λj s d hs hd=>?_⟩;rw[List.getElem?_append]at hs hd;rw[h1.1]at hs;split at hd
 ·rename_i h;rw[if_pos h]at hs;exact h1.2 j s d hs hd
 ·rename_i h;rw[QpV h]at hs;exact h2.2 _ s d hs hd
theorem Ag{v:Value}{x:D}(h:Rd (SW w) w v x):RdL w [v] [x]:=⟨rfl,λj v' x' h1 h2=>by
 cases j with
 |zero=>simp at h1 h2;subst h1 h2;exact h
 |succ j=>simp at h1⟩
theorem Ej{s:Sh}{x:D}(h:Fit s x):QcL [s] [x]:=⟨rfl,λj v' x' h1 h2=>by
 cases j with
 |zero=>simp at h1 h2;subst h1 h2;exact h
 |succ j=>simp at h1⟩
theorem Q8t{base:Nat}{a:Addr}{n:Nat}{cs:List Value}(h:w.cells? base a n=some cs):cs.length=n/\∀(j:Nat) (v:Value),cs[j]? = some v->w.cell? (a.add j)=some v:=by
 unfold World.cells? at h;split at h
 ·refine⟨by simpa using mapM_some_length h,λj v hv=>?_⟩;have hj:j<n:=by
   have h1:=mapM_some_length h;have h2:=(QpF.1 hv).1;simp at h1;omega
  have:=mapM_some_get h j j (by simp[hj]);rw[this,hv]
 ·cases h
def Got(w:World)(ss:List Sh)(cs:List Value):Prop:=∃ds,RdL w cs ds/\QcL ss ds
theorem Q6Z{base:Nat}{ar:Nat->Bool}{ax:Bool}:∀(n:Nat) (f:Nat) (t:TypeId) (ss:List Sh) (cs:List Value) (x:DataW H×List MemPlace),Qag P f t=some ss->DataW.trod enc P w base ar ax n t cs=some x->Got w ss cs:=by
 intro n;induction n with
 |zero=>intro f t ss cs x _ h;simp[DataW.trod]at h
 |succ n ih=>
  intro f t ss cs x hs h;cases f with
  |zero=>simp[Qag]at hs
  |succ f=>
   unfold Qag at hs;split at hs
   ·rename_i ht;injection hs with hs;subst hs
    obtain⟨b,rfl,_⟩:=DataW.trod_bool ht h;exact⟨[.bool b],Ag (.bool b),Ej (.bool b)⟩
   ·rename_i k ht;injection hs with hs;subst hs
    obtain⟨b,rfl,_,hw⟩:=DataW.trod_int ht h;exact⟨[.int k b],Ag (.int k b),Ej (.int k b hw)⟩
   ·rename_i ht;injection hs with hs;subst hs
    obtain⟨b,rfl,_,hw⟩:=DataW.trod_string ht h;exact⟨[.str b.data.toList],Ag (.str b),Ej (.str _ (by simpa using hw))⟩
   ·rename_i e ht;split at hs
    case h_2=>cases hs
    rename_i row a6;split at hs
    case isFalse=>cases hs
    rename_i an;obtain⟨an,hz⟩:=an;injection hs with hs;subst hs
    rcases DataW.trod_slice ht h with⟨rfl,_⟩|⟨a,len,cap,ak,rest,n',hn,rfl,_,hb,hl,hm,bp,hat,_,_⟩
    ·exact⟨[.sl row.length []],Ag (.sl0 _ _ _),Ej (.sl row [] (Nat.zero_le _) (λi r h=>by simp at h) (λi j r s x h=>by simp at h))⟩
    ·obtain rfl:n=n':=Q0
     have az:∀i,i<len->∃r:List D,∃cs,w.cells? base (a.add (i*P.cellsOf e)) (P.cellsOf e)=some cs/\RdL w cs r/\QcL row r:=by
      intro i hi;have h1:=hat i hi;have h2:ak[i]? = some (ak[i]'Q0):=QpG Q0;rw[h2,Option.bind_eq_some_iff]at h1;obtain⟨cs,hc,h1⟩:=h1;obtain⟨ds,g1,g2⟩:=ih f e row cs _ a6 h1;exact⟨ds,cs,hc,g1,g2⟩
     obtain⟨rows,a2,aa⟩:=Q6p len az;refine⟨[.sl row.length rows],Ag ?_,Ej (.sl row rows Q0 (λi r hr=>?_) (λi j r s x hr hs hx=>?_))⟩
     ·cases len with
      |zero=>
       have:rows=[]:=List.eq_nil_of_length_eq_zero a2;subst this;exact .sl0 _ _ _
      |succ m=>
       have ac:∀(i j:Nat) (r:List D) (x:D),rows[i]? = some r->r[j]? = some x->∃v,w.cell? (a.add (i*row.length+j))=some v/\Rd (SW w) w v x:=by
        intro i j r x hr hx;obtain⟨cs,hc,g1,g2⟩:=aa i r hr;obtain⟨c1,c2⟩:=Q8t hc;have hj:j<cs.length:=by have:=(QpF.1 hx).1;have:=g1.1;omega
        have a3:cs[j]? = some (cs[j]' hj):=QpG hj;refine⟨cs[j]' hj,?_,g1.2 j _ x a3 hx⟩;have:=c2 j _ a3;rw[BA]at this;rw[an];exact this
       ·have h0:∃r,rows[0]? = some r:=⟨_,QpG Q0⟩;obtain⟨r0,a5⟩:=h0;obtain⟨bm,bo,g1,g2⟩:=aa 0 r0 a5;have aq:∃x,r0[0]? = some x:=⟨_,QpG (by rw[g2.1];omega)⟩;obtain⟨x0,aq⟩:=aq;obtain⟨v0,bh,_⟩:=ac 0 0 r0 x0 a5 aq;have a4:a.block<w.heap.size:=by have:=Qfb bh;rwa [Jv]at this
        have:=Rd.sl (S:=SW w) (w:=w) a cap row.length rows (λi j=>(w.cell? (a.add (i*row.length+j))).getD undef) a4 Q0
         (λi r hr=>by obtain⟨_,_,_,g2⟩:=aa i r hr;exact g2.1)
         (λi j r x hr hx=>by obtain⟨v,hv,_⟩:=ac i j r x hr hx;rw[hv];rfl)
         (λi j r x hr hx=>by obtain⟨v,hv,h2⟩:=ac i j r x hr hx;rw[hv];exact h2)
        rw[a2]at this;exact this
     ·obtain⟨_,_,_,g2⟩:=aa i r hr;exact g2.1
     ·obtain⟨_,_,_,g2⟩:=aa i r hr;exact g2.2 j s x hs hx
   ·rename_i fs ht;split at hs
    case h_2=>cases hs
    rename_i l hl;split at hs
    case isFalse=>cases hs
    rename_i an;injection hs with hs;subst hs
    obtain⟨xs,n',hn,_,bj,br,hat⟩:=DataW.trod_struct ht h;obtain rfl:n=n':=Q0
    have bd:∀(r:List Field) (i off:Nat) (l:List Sh),fs.toList.drop i=r->QfD P (Qag P f) off r=some l->off+l.length<=cs.length->Got w l ((cs.drop off).take l.length):=by
     intro r;induction r with
     |nil=>
      intro i off l _ hl _;simp[QfD]at hl;subst hl;exact⟨[],⟨by simp,λj v x h=>by simp at h⟩,⟨rfl,λj v x h=>by simp at h⟩⟩
     |cons fd r bb=>
      intro i off l hd hl bc;unfold QfD at hl;split at hl
      case isFalse=>cases hl
      rename_i ay;split at hl
      case h_2=>cases hl
      rename_i a ha;split at hl
      case isFalse=>cases hl
      rename_i aw;split at hl
      case h_2=>cases hl
      rename_i l' bi;injection hl with hl;subst hl
      have hi:fs[i]? = some fd:=by
       have:(fs.toList.drop i)[0]? = some fd:=by rw[hd];rfl
       rw[QpN]at this;simpa using this
      have h1:=hat i fd hi;have a7:i<xs.length:=by
       have:=(QpM.1 hi).1;omega
      rw[QpG a7,ay,<- aw]at h1;have g1:=ih f fd.type a _ _ ha h1;have g2:=bb (i+1) (off+a.length) l' (by rw[<- List.drop_drop,hd];rfl) bi (by simp at bc;omega);obtain⟨d1,p1,q1⟩:=g1;obtain⟨d2,p2,q2⟩:=g2;refine⟨d1++d2,?_,q1.append q2⟩;have ao:(cs.drop off).take (a++l').length=(cs.drop off).take a.length++(cs.drop (off+a.length)).take l'.length:=by
       rw[List.length_append,List.take_add,List.drop_drop]
      rw[ao];exact p1.append p2
    have:=bd fs.toList 0 0 l rfl hl Q0;rwa [List.drop_zero,List.take_of_length_le Q0]at this
   ·cases hs
inductive ASh where
 |one (s:Sh)
 |ag (ss:List Sh)
def QeT(P:Program)(t:TypeId):oP ASh:=
 match P.underlying t with
 |some (.struct _)=>match Qag P 9 t with
  |some l=>some (.ag l)
  |none=>none
 |_=>match Qag P 9 t with
  |some [s]=>some (.one s)
  |_=>none
def ashL(P:Program):List TypeId->oP (List ASh)
 |[]=>some []
 |t::r=>match QeT P t with
  |some a=>match ashL P r with
   |some l=>some (a::l)
   |none=>none
  |none=>none
def QjO:ASh->AV->Prop
 |.one s,av=>∃x,av = .d x/\Fit s x
 |.ag ss,av=>∃ds:List D,av = .ag (ds.map .d)/\QcL ss ds
def AFits:List ASh->List AV->Prop
 |[],[]=>True
 |a::as,v::vs=>QjO a v/\AFits as vs
 |_,_=>False
theorem Q2v{r:Reach}{base:Nat}{t:TypeId}{v:Value}{f:Nat}{ss:List Sh}(hs:Qag P f t=some ss)(hn:∀fs,P.underlying t≠some (.struct fs))(h:Value.okWide P w r base t v):v.cells.toList=[v]:=by
 cases f with
 |zero=>simp[Qag]at hs
 |succ f=>
  unfold Qag at hs;split at hs
  ·rename_i ht;obtain⟨b,rfl⟩:=WideShapes.okWide_bool ht h;rfl
  ·rename_i k ht;obtain⟨b,rfl⟩:=WideShapes.okWide_int ht h;rfl
  ·rename_i ht;obtain⟨b,rfl⟩:=WideShapes.okWide_string ht h;rfl
  ·rename_i e ht;obtain⟨a,l,c,rfl⟩:=WideShapes.okWide_slice ht h;rfl
  ·rename_i fs ht;exact absurd ht (hn fs)
  ·cases hs
theorem Qf4{r:Reach}{base ac:Nat}{aa:Nat->Bool}{ai:Bool}{t:TypeId}{v:Value}{d:DataW H}{ps:List MemPlace}{a:ASh}(ha:QeT P t=some a)(hv:Value.okWide P w r base t v)(h:DataW.Trod enc P w ac aa ai t v d ps) :
  ∃av,RdA (λ_=>none) (SW w) (look ([]:List (Nat×Ob))) w tm0 v av/\QjO a av:=by
 obtain⟨n,h⟩:=h;unfold QeT at ha;split at ha
 ·rename_i fs ht;split at ha
  case h_2=>cases ha
  rename_i l hl;injection ha with ha;subst ha
  obtain⟨ds,h1,h2⟩:=Q6Z n 9 t l _ _ hl h;simp only[Value.okWide,ht]at hv;obtain⟨cs,rfl,ao,_⟩:=hv;refine⟨.ag (ds.map .d),.ag cs _ (by simpa[Value.cells]using h1.1) λi x hx=>?_,ds,rfl,h2⟩;rw[List.getElem?_map,QpE]at hx;obtain⟨y,hy,rfl⟩:=hx;have hi:i<cs.size:=by
   have g1:=(QpF.1 hy).1;have g2:=h1.1;simp[Value.cells]at g2;omega
  have hc:cs.getD i undef=cs[i]:=by simp[Array.getD,hi]
  rw[hc];exact .d _ _ (h1.2 i _ y (by simp[Value.cells,hi]) hy)
 ·rename_i hn;split at ha
  case h_2=>cases ha
  rename_i s hs;injection ha with ha;subst ha
  have hc:=Q2v hs hn hv;obtain⟨ds,h1,h2⟩:=Q6Z n 9 t _ _ _ hs h;rw[hc]at h1;obtain⟨x,rfl⟩:∃x,ds=[x]:=by
   have:=h1.1
   match ds,this with
   |[x],_=>exact⟨x,rfl⟩
  exact⟨.d x,.d _ _ (h1.2 0 v x rfl rfl),x,rfl,h2.2 0 s x rfl rfl⟩
theorem Q7v{r:Reach}{base ak:Nat}{ai:Nat->Bool}{am:Bool}:∀(ts:List TypeId) (vs:List Value) (ds:List (DataW H)) (ps:List MemPlace) (as:List ASh),ashL P ts=some as ->
  (∀(j:Nat) t v,ts[j]? = some t->vs[j]? = some v->Value.okWide P w r base t v)->DataW.TrodAll enc P w ak ai am ts vs ds ps ->
  ∃ac,ArgsRd (λ_=>none) (SW w) (look ([]:List (Nat×Ob))) w vs ac/\AFits as ac
 |[],vs,ds,ps,as,aa,hv,h=>by
  simp[ashL]at aa;subst aa;cases vs with
  |nil=>exact⟨[],Q7P,trivial⟩
  |cons v vs=>cases ds<;>simp[DataW.TrodAll]at h
 |t::ts,vs,ds,ps,as,aa,hv,h=>by
  obtain⟨v,aw,d,ar,p,q,rfl,rfl,rfl,h1,h2⟩:=ChangeShapes.trodAll_cons h;unfold ashL at aa;split at aa
  case h_2=>cases aa
  rename_i a ha;split at aa
  case h_2=>cases aa
  rename_i aq an;injection aa with aa
  subst aa;obtain⟨av,g1,g2⟩:=Qf4 ha (hv 0 t v rfl rfl) h1;obtain⟨ac,g3,g4⟩:=Q7v ts aw ar q aq an (λj t v h1 h2=>hv (j+1) t v (by simpa using h1) (by simpa using h2)) h2;exact⟨av::ac,Q5K g1 g3,g2,g4⟩
theorem Q3z{W W':World}(hl:laidOutB P=true)(hb:RowKit.Below W.heap.size W W'):∀(ts:List TypeId) (vs:List Value) (ds:List (DataW H)) (ps:List MemPlace),(ts.all λt=>P.readableRec t&&decide (t<P.types.size))=true ->
  DataW.TrodAll enc P W 0 (λ_=>true) true ts vs ds ps->∃pa,DataW.TrodAll enc P W' 0 (λb=>decide (b<W.heap.size)) true ts vs ds pa
 |[],vs,ds,ps,_,h=>by
  cases vs<;>cases ds<;>simp[DataW.TrodAll]at h;exact⟨[],rfl⟩
 |t::ts,vs,ds,ps,ht,h=>by
  obtain⟨v,an,d,am,p,q,rfl,rfl,rfl,h1,h2⟩:=ChangeShapes.trodAll_cons h;simp only[List.all_cons,QpD,decide_eq_true_eq]at ht;obtain⟨pa,g⟩:=Q3z hl hb ts an am q ht.2 h2;have ak:∀x∈p,x.block<W.heap.size:=by obtain⟨m,hm⟩:=h1;exact DataW.trod_lt m _ _ _ hm
  exact⟨p++pa,p,pa,RowKit.Below.trod hl ht.1.1 ht.1.2 h1 hb ak,g,rfl⟩
theorem L3{base:Nat}{aa:Nat->Bool}{ai:Bool}:∀(ts:List TypeId) (vs:List Value) (ds:List (DataW H)) (ps:List MemPlace),DataW.TrodAll enc P w base aa ai ts vs ds ps->vs.length=ts.length/\ds.length=ts.length
 |[],vs,ds,ps,h=>by
  cases vs<;>cases ds<;>simp[DataW.TrodAll]at h;exact⟨rfl,rfl⟩
 |t::ts,vs,ds,ps,h=>by
  obtain⟨v,am,d,ak,p,q,rfl,rfl,rfl,h1,h2⟩:=ChangeShapes.trodAll_cons h;have:=L3 ts am ak q h2;simp[this.1,this.2]
theorem law_contract{fn:Func}{f:FuncId}{s:ChangeSpec}{as:List ASh}{tb:TypeId}(ao:laidOutB P=true)(aa:s.vars=[])(an:(fn.params.toList.all λt=>P.readableRec t&&decide (t<P.types.size))=true)(a2:ashL P fn.params.toList=some as)(ax:fn.resultTypes = #[tb])(hb:P.underlying tb=some .bool){W:World}{base:Nat}{args:Array Value}{ds gs:List (DataW H)}{ac:List MemPlace}(aq:∀(j:Nat) t v,fn.params[j]? = some t->args[j]? = some v->Value.okWide P W .any base t v)(hW:DataW.Whole enc P fn.params.toList s.vars false W args.toList ds gs ac)(ak:∀ds:List (DataW H),ds.length=fn.params.size->s.fn H ds={ results:=[.lit (.bool true)],args:=ds })(walk:∀ai,AFits as ai->ArgsRd (λ_=>none) (SW W) (look ([]:List (Nat×Ob))) W args.toList ai->Calls P f args W λe w'=>e = .returned (.bool true)/\RowKit.Below W.heap.size W w') :
  Calls P f args W λe W'=>∃v,e = .returned v/\s.post enc P fn false true false false W args v W':=by
 have ay:=hW;obtain⟨p,q,hA,hV,rfl,ba,a8⟩:=hW;obtain⟨ai,g1,g2⟩:=Q7v (r:=.any) (base:=base) _ _ _ _ as a2 (λj t v h1 h2=>aq j t v (by simpa using h1) (by simpa using h2)) hA;refine(walk ai g2 g1).mono λe W' ⟨he,aw⟩=>?_
 subst he;obtain⟨pa,az⟩:=Q3z ao aw _ _ _ _ an hA;rw[aa]at hV;obtain⟨rfl,rfl⟩:=ChangeShapes.trodVars_none hV;have ar:=(L3 _ _ _ _ hA).2;have am:=ak ds (by simpa using ar);refine⟨_,rfl,ds,[],_,[],pa,[],ay,?_,?_,?_,aw.frame _,λh=>by cases h⟩
 ·rw[List.append_nil,am,ax];exact ChangeShapes.trodAll_mk1 (RowKit.shut_bool hb _)
 ·rw[List.append_nil,am];exact az
 ·rw[List.append_nil,am,aa];rfl
end
end Go.Vx
namespace Go.Vx
variable{i:Nat}
section
variable{R:Type}
def i64(x:Int):Prop := -9223372036854775808<=x/\x<=9223372036854775807
theorem Q7l{x:Int}(h:i64 x):wJ x=x:=IntWalk.i64_in x h
theorem Q5D{x:Int}(h1 : -9223372036854775808<=x)(h2:x<=9223372036854775807):wJ x=x:=IntWalk.i64_in x ⟨h1,h2⟩
theorem Qk5{n:Int}(h:(Lit.int .i64 n).wf=true):i64 n:=by
 simpa[Lit.wf,IntKind.min,IntKind.max,IntKind.signed,IntKind.bits,i64]using h
theorem Qj(n:Int):pIw (.int .i64 n)=some n:=rfl
theorem Lx(b:Bool):PB (.bool b)=some b:=rfl
theorem XQ(s:List UInt8):Vq (.str s)=some s:=rfl
theorem X4(k:Nat)(l:List (List D)):pSl k (.sl k l)=some l:=by simp[pSl]
theorem QaD{α:Type}(f:α->List D)(l:List α)(i:Nat):Qi (l.map f) (i:Int)=(l[i]?).map f:=by
 simp[Qi]
theorem X5{α:Type}{f:α->List D}{l:List α}{a:α}(h:l[i]? = some a):Qi (l.map f) (i:Int)=some (f a):=by rw[QaD,h];rfl
theorem CR{b:Int}(h:b≠0):nz b=some ():=by
 have:(b == 0)=false:=by simpa using h
 unfold nz;rw[this];rfl
theorem XP{len:Nat}{n:Int}(h0:0<=n)(h:n<len):inB len n=some ():=by
 unfold inB;simp[h0,h]
theorem Y8{α:Type}{l:List α}{a:α}{r:List α}(h:l.drop i=a::r):l[i]? = some a/\l.drop (i+1)=r/\i<l.length:=by
 have h1:(l.drop i)[0]? = some a:=by rw[h];rfl
 rw[QpN]at h1;refine⟨by simpa using h1,by rw[<- List.drop_drop,h];rfl,?_⟩;have:=(QpF.1 h1).1;omega
theorem ZI{α:Type}{l:List α}(h:l.drop i=[]):l.length<=i:=List.drop_eq_nil_iff.1 h
theorem Xh{c:Bool}(h:c=true)(x y:R):(bif c then x else y)=x:=by rw[h];rfl
theorem Qp{c:Bool}(h:c=false)(x y:R):(bif c then x else y)=y:=by rw[h];rfl
def encI(l:List Int):List (List D):=l.map λn=>[D.int .i64 n]
theorem QR(l:List Int):(encI l).length=l.length:=by simp[encI]
theorem KS{l:List Int}{a:Int}(h:l[i]? = some a):Qi (encI l) (i:Int)=some [.int .i64 a]:=X5 h
theorem fit_ints{rows:List (List D)}(h:Fit (.sl [.int .i64]) (.sl 1 rows)):∃l:List Int,rows=encI l/\(∀n∈l,i64 n)/\l.length<=maxLen:=by
 cases h with
 |sl _ _ hm hl hr=>
  have h1:∀i,i<rows.length->∃n:Int,rows[i]? = some [.int .i64 n]/\i64 n:=by
   intro i hi;have aa:=QpG hi;have ac:=hl i _ aa;obtain⟨x,hx⟩:∃x,rows[i]=[x]:=by
    match hq:rows[i],ac with
    |[x],_=>exact⟨x,rfl⟩
   have hf:=hr i 0 _ (.int .i64) x aa rfl (by rw[hx];rfl);cases hf with
   |int _ n hw=>exact⟨n,by rw[aa,hx],Qk5 hw⟩
  obtain⟨l,e1,e2⟩:=Q6p rows.length h1;refine⟨l,?_,λn hn=>?_,Q0⟩
  ·refine List.ext_getElem? λi=>?_
   rcases Nat.lt_or_ge i l.length with hi | hi
   ·have:=(e2 i _ (QpG hi)).1;rw[this];simp[encI,hi]
   ·rw[QpY Q0,QpY (by simpa[encI]using hi)]
  ·obtain⟨i,hi⟩:=List.getElem?_of_mem hn;exact(e2 i _ hi).2
theorem fit_sl{row:List Sh}{x:D}(h:Fit (.sl row) x):∃rows,x = .sl row.length rows:=by
 cases h with
 |sl _ rows _ _ _=>exact⟨rows,rfl⟩
def lawK:AV->oP Bool
 |.d (.bool b)=>some b
 |_=>none
theorem lawK_ok(x:AV)(h:lawK x=some true):x = .d (.bool true):=by
 unfold lawK at h;split at h
 ·injection h with h;subst h;rfl
 ·cases h
end
end Go.Vx
namespace Go.Vx
abbrev bs(l:List UInt8):List UInt8:=l
abbrev LL:=List (List D)
abbrev dT(s:List UInt8):AV:=.d (.str s)
def cA:List Nat->Code->Code
 |[],c=>c
 |0::r,c=>cA r (cL c)
 |1::r,c=>cA r (cR c)
 |2::r,c=>cA r (cB c)
 |3::r,c=>cA r (cT c)
 |_::r,c=>cA r (cE c)
def zp:List Nat->List Nat->List (Nat×Nat)
 |a::r,b::s=>(a,b)::zp r s
 |_,_=>[]
section
variable{A B C D E F R:Type}
end
def smX{A B C:Type}(r:A ⊕ B)(f:A->C)(g:B->C):C:=match r with
 |.inl a=>f a
 |.inr b=>g b
abbrev jn{α β:Type}(c:α)(f:α->β):β:=f c
abbrev Tu2{A0 A1:Type}(a0:A0)(a1:A1):=some (a0,a1)
abbrev Tu3{A0 A1 A2:Type}(a0:A0)(a1:A1)(a2:A2):=some (a0,a1,a2)
abbrev Tu4{A0 A1 A2 A3:Type}(a0:A0)(a1:A1)(a2:A2)(a3:A3):=some (a0,a1,a2,a3)
abbrev Tu5{A0 A1 A2 A3 A4:Type}(a0:A0)(a1:A1)(a2:A2)(a3:A3)(a4:A4):=some (a0,a1,a2,a3,a4)
abbrev Tu6{A0 A1 A2 A3 A4 A5:Type}(a0:A0)(a1:A1)(a2:A2)(a3:A3)(a4:A4)(a5:A5):=some (a0,a1,a2,a3,a4,a5)
abbrev Tu7{A0 A1 A2 A3 A4 A5 A6:Type}(a0:A0)(a1:A1)(a2:A2)(a3:A3)(a4:A4)(a5:A5)(a6:A6):=some (a0,a1,a2,a3,a4,a5,a6)
abbrev Tu8{A0 A1 A2 A3 A4 A5 A6 A7:Type}(a0:A0)(a1:A1)(a2:A2)(a3:A3)(a4:A4)(a5:A5)(a6:A6)(a7:A7):=some (a0,a1,a2,a3,a4,a5,a6,a7)
abbrev Tu10{A0 A1 A2 A3 A4 A5 A6 A7 A8 A9:Type}(a0:A0)(a1:A1)(a2:A2)(a3:A3)(a4:A4)(a5:A5)(a6:A6)(a7:A7)(a8:A8)(a9:A9):=some (a0,a1,a2,a3,a4,a5,a6,a7,a8,a9)
abbrev Tu11{A0 A1 A2 A3 A4 A5 A6 A7 A8 A9 A10:Type}(a0:A0)(a1:A1)(a2:A2)(a3:A3)(a4:A4)(a5:A5)(a6:A6)(a7:A7)(a8:A8)(a9:A9)(a10:A10):=some (a0,a1,a2,a3,a4,a5,a6,a7,a8,a9,a10)
abbrev Tu12{A0 A1 A2 A3 A4 A5 A6 A7 A8 A9 A10 A11:Type}(a0:A0)(a1:A1)(a2:A2)(a3:A3)(a4:A4)(a5:A5)(a6:A6)(a7:A7)(a8:A8)(a9:A9)(a10:A10)(a11:A11):=some (a0,a1,a2,a3,a4,a5,a6,a7,a8,a9,a10,a11)
abbrev Tu13{A0 A1 A2 A3 A4 A5 A6 A7 A8 A9 A10 A11 A12:Type}(a0:A0)(a1:A1)(a2:A2)(a3:A3)(a4:A4)(a5:A5)(a6:A6)(a7:A7)(a8:A8)(a9:A9)(a10:A10)(a11:A11)(a12:A12):=some (a0,a1,a2,a3,a4,a5,a6,a7,a8,a9,a10,a11,a12)
abbrev Qku:List UInt8:=bs [0,1,2,2,3,3,3,3,4,4,4,4,4,4,4,4,5,5,5,5,5,5,5,5,5,5,5,5,5,5,5,5,6,6,6,6,6,6,6,6,6,6,6,6,6,6,6,6,6,6,6,6,6,6,6,6,6,6,6,6,6,6,6,6,7,7,7,7,7,7,7,7,7,7,7,7,7,7,7,7,7,7,7,7,7,7,7,7,7,7,7,7,7,7,7,7,7,7,7,7,7,7,7,7,7,7,7,7,7,7,7,7,7,7,7,7,7,7,7,7,7,7,7,7,7,7,7,7,8,8,8,8,8,8,8,8,8,8,8,8,8,8,8,8,8,8,8,8,8,8,8,8,8,8,8,8,8,8,8,8,8,8,8,8,8,8,8,8,8,8,8,8,8,8,8,8,8,8,8,8,8,8,8,8,8,8,8,8,8,8,8,8,8,8,8,8,8,8,8,8,8,8,8,8,8,8,8,8,8,8,8,8,8,8,8,8,8,8,8,8,8,8,8,8,8,8,8,8,8,8,8,8,8,8,8,8,8,8,8,8,8,8,8,8,8,8,8,8,8,8,8,8,8,8,8,8]
abbrev Qlh:=List D
abbrev Qli:=List UInt8
structure Qe(R:Type)
structure Qf
instance {R:Type}:Inhabited (Qe R):=⟨⟨⟩⟩
instance:Inhabited Qf:=⟨⟨⟩⟩
section
variable{R A B C E:Type}{d e f g h d1 e1 f1:D}{i j s t i1 j1:Int}{l x y z l1 x1:LL}{r q r1 q1:Qlh}{a b c a1 b1 c1:Nat}{p v p1 v1:Bool}{w w1:Qli}
def Q8:Bool->Bool->Qf:=default
instance:CoeDep Qf (Q8 p v) Bool:=⟨bif p then true else v⟩
def Q9:Bool->Bool->Qf:=default
instance:CoeDep Qf (Q9 p v) Bool:=⟨bif p then v else false⟩
def Qa(R:Type):Bool->(Bool->oP R)->Qe R:=default
instance (k:Bool->oP R):CoeDep (Qe R) (Qa R p k) (oP R):=⟨k p⟩
def Qb(R:Type):A->(A->oP R)->Qe R:=default
instance (a:A)(k:A->oP R):CoeDep (Qe R) (Qb R a k) (oP R):=⟨k a⟩
def Qc(R:Type):oP A->(A->oP R)->Qe R:=default
def Qd(R:Type):Bool->oP A->(A->oP R)->Qe R:=default
instance (a:oP (Unit))(k:Unit->oP R):CoeDep (Qe R) (Qc R a k) (oP R):=⟨gb true a () k⟩
instance (a:oP (Unit))(k:Unit->oP R):CoeDep (Qe R) (Qd R p a k) (oP R):=⟨gb p a () k⟩
instance (a:oP (Int))(k:Int->oP R):CoeDep (Qe R) (Qc R a k) (oP R):=⟨gb true a 0 k⟩
instance (a:oP (Int))(k:Int->oP R):CoeDep (Qe R) (Qd R p a k) (oP R):=⟨gb p a 0 k⟩
instance (a:oP (Int×Int))(k:Int×Int->oP R):CoeDep (Qe R) (Qc R a k) (oP R):=⟨gb true a (0,0) k⟩
instance (a:oP (Int×Int))(k:Int×Int->oP R):CoeDep (Qe R) (Qd R p a k) (oP R):=⟨gb p a (0,0) k⟩
instance (a:oP (Nat×Nat))(k:Nat×Nat->oP R):CoeDep (Qe R) (Qc R a k) (oP R):=⟨gb true a (0,0) k⟩
instance (a:oP (Nat×Nat))(k:Nat×Nat->oP R):CoeDep (Qe R) (Qd R p a k) (oP R):=⟨gb p a (0,0) k⟩
instance (a:oP (List A))(k:List A->oP R):CoeDep (Qe R) (Qc R a k) (oP R):=⟨gb true a [] k⟩
instance (a:oP (List A))(k:List A->oP R):CoeDep (Qe R) (Qd R p a k) (oP R):=⟨gb p a [] k⟩
instance (a:oP (Bool))(k:Bool->oP R):CoeDep (Qe R) (Qc R a k) (oP R):=⟨gb true a false k⟩
instance (a:oP (Bool))(k:Bool->oP R):CoeDep (Qe R) (Qd R p a k) (oP R):=⟨gb p a false k⟩
instance (a:oP (D))(k:D->oP R):CoeDep (Qe R) (Qc R a k) (oP R):=⟨gb true a oF k⟩
instance (a:oP (D))(k:D->oP R):CoeDep (Qe R) (Qd R p a k) (oP R):=⟨gb p a oF k⟩
instance (a:oP (Int×Bool))(k:Int×Bool->oP R):CoeDep (Qe R) (Qc R a k) (oP R):=⟨gb true a (0,false) k⟩
instance (a:oP (Int×Bool))(k:Int×Bool->oP R):CoeDep (Qe R) (Qd R p a k) (oP R):=⟨gb p a (0,false) k⟩
instance (a:oP ((List A)×Int))(k:(List A)×Int->oP R):CoeDep (Qe R) (Qc R a k) (oP R):=⟨gb true a ([],0) k⟩
instance (a:oP ((List A)×Int))(k:(List A)×Int->oP R):CoeDep (Qe R) (Qd R p a k) (oP R):=⟨gb p a ([],0) k⟩
instance (a:oP ((List A)×Int×Int))(k:(List A)×Int×Int->oP R):CoeDep (Qe R) (Qc R a k) (oP R):=⟨gb true a ([],0,0) k⟩
instance (a:oP ((List A)×Int×Int))(k:(List A)×Int×Int->oP R):CoeDep (Qe R) (Qd R p a k) (oP R):=⟨gb p a ([],0,0) k⟩
instance (a:oP (D×D×D×D×Bool))(k:D×D×D×D×Bool->oP R):CoeDep (Qe R) (Qc R a k) (oP R):=⟨gb true a (.bool false,.bool false,.bool false,.bool false,false) k⟩
instance (a:oP (D×D×D×D×Bool))(k:D×D×D×D×Bool->oP R):CoeDep (Qe R) (Qd R p a k) (oP R):=⟨gb p a (.bool false,.bool false,.bool false,.bool false,false) k⟩
instance (a:oP (D×D))(k:D×D->oP R):CoeDep (Qe R) (Qc R a k) (oP R):=⟨gb true a (.bool false,.bool false) k⟩
instance (a:oP (D×D))(k:D×D->oP R):CoeDep (Qe R) (Qd R p a k) (oP R):=⟨gb p a (.bool false,.bool false) k⟩
instance (a:oP (D×D×D×D×D×D×Bool))(k:D×D×D×D×D×D×Bool->oP R):CoeDep (Qe R) (Qc R a k) (oP R):=⟨gb true a (.bool false,.bool false,.bool false,.bool false,.bool false,.bool false,false) k⟩
instance (a:oP (D×D×D×D×D×D×Bool))(k:D×D×D×D×D×D×Bool->oP R):CoeDep (Qe R) (Qd R p a k) (oP R):=⟨gb p a (.bool false,.bool false,.bool false,.bool false,.bool false,.bool false,false) k⟩
def Qg(R:Type){A:Type}:(A->oP R)->A->Qe R:=default
instance {A:Type}(k:A->oP R)(a0:A):CoeDep (Qe R) (Qg R k a0) (oP R):=⟨k a0⟩
def Qkv(R:Type){A B:Type}:(A->B->oP R)->A->B->Qe R:=default
instance {A B:Type}(k:A->B->oP R)(a0:A)(a1:B):CoeDep (Qe R) (Qkv R k a0 a1) (oP R):=⟨k a0 a1⟩
def Qkw(R:Type){A B C:Type}:(A->B->C->oP R)->A->B->C->Qe R:=default
instance {A B C:Type}(k:A->B->C->oP R)(a0:A)(a1:B)(a2:C):CoeDep (Qe R) (Qkw R k a0 a1 a2) (oP R):=⟨k a0 a1 a2⟩
def Qkx(R:Type){A B C D:Type}:(A->B->C->D->oP R)->A->B->C->D->Qe R:=default
instance {A B C D:Type}(k:A->B->C->D->oP R)(a0:A)(a1:B)(a2:C)(a3:D):CoeDep (Qe R) (Qkx R k a0 a1 a2 a3) (oP R):=⟨k a0 a1 a2 a3⟩
def Qky(R:Type){A B C D E:Type}:(A->B->C->D->E->oP R)->A->B->C->D->E->Qe R:=default
instance {A B C D E:Type}(k:A->B->C->D->E->oP R)(a0:A)(a1:B)(a2:C)(a3:D)(a4:E):CoeDep (Qe R) (Qky R k a0 a1 a2 a3 a4) (oP R):=⟨k a0 a1 a2 a3 a4⟩
def Qkz(R:Type){A B C D E F:Type}:(A->B->C->D->E->F->oP R)->A->B->C->D->E->F->Qe R:=λ_ _ _ _ _ _ _=>default
instance {A B C D E F:Type}(k:A->B->C->D->E->F->oP R)(a0:A)(a1:B)(a2:C)(a3:D)(a4:E)(a5:F):CoeDep (Qe R) (Qkz R k a0 a1 a2 a3 a4 a5) (oP R):=⟨k a0 a1 a2 a3 a4 a5⟩
def QkA(R:Type){A B C D E F G:Type}:(A->B->C->D->E->F->G->oP R)->A->B->C->D->E->F->G->Qe R:=λ_ _ _ _ _ _ _ _=>default
instance {A B C D E F G:Type}(k:A->B->C->D->E->F->G->oP R)(a0:A)(a1:B)(a2:C)(a3:D)(a4:E)(a5:F)(a6:G):CoeDep (Qe R) (QkA R k a0 a1 a2 a3 a4 a5 a6) (oP R):=⟨k a0 a1 a2 a3 a4 a5 a6⟩
def QkC(R:Type):D->D->(Int->Int->oP R)->Qe R:=default
instance (k:Int->Int->oP R):CoeDep (Qe R) (QkC R d e k) (oP R):=⟨gb true (pIw d) 0 λA=>gb true (pIw e) 0 λB=>CoeDep.coe (Qkv R k A B)⟩
def QkD(R:Type):LL->Int->(D->oP R)->Qe R:=default
instance (k:D->oP R):CoeDep (Qe R) (QkD R l i k) (oP R):=⟨gb true (Qi l i) [] λA=>gb true A[0]? oF k⟩
def QkE(R:Type):LL->Int->(Qlh->D->D->D->oP R)->Qe R:=default
instance (k:Qlh->D->D->D->oP R):CoeDep (Qe R) (QkE R l i k) (oP R):=⟨gb true (Qi l i) [] λA=>gb true A[0]? oF λB=>gb true A[1]? oF λC=>gb true A[2]? oF λE=>CoeDep.coe (Qkx R k A B C E)⟩
def QkF(R:Type):Nat->Int->LL->Nat->(Qlh->oP R)->Qe R:=default
instance (k:Qlh->oP R):CoeDep (Qe R) (QkF R a i l b k) (oP R):=⟨gb true (inB a i) () λ_=>gb true l[b]? [] k⟩
def QkG(R:Type):LL->Int->(Int->oP R)->Qe R:=default
instance (k:Int->oP R):CoeDep (Qe R) (QkG R l i k) (oP R):=⟨QkD R l i λA=>gb true (pIw A) 0 k⟩
def QkH(R:Type):LL->Int->(Qlh->D->oP R)->Qe R:=default
instance (k:Qlh->D->oP R):CoeDep (Qe R) (QkH R l i k) (oP R):=⟨gb true (Qi l i) [] λA=>gb true A[0]? oF λB=>CoeDep.coe (Qkv R k A B)⟩
def QkI(R:Type):Nat->Int->LL->Nat->(Int->oP R)->Qe R:=default
instance (k:Int->oP R):CoeDep (Qe R) (QkI R a i l b k) (oP R):=⟨QkF R a i l b λA=>gb true A[0]? oF λB=>gb true (pIw B) 0 k⟩
def QkJ(R:Type):D->LL->D->D->(LL->Int->Qli->Int->Int->Int->Int->oP R)->Qe R:=default
instance (k:LL->Int->Qli->Int->Int->Int->Int->oP R):CoeDep (Qe R) (QkJ R d l e f k) (oP R):=⟨gb true (pIw d) 0 λA=>QkE R l A λB C E F=>gb true B[3]? oF λG=>gb true B[4]? oF λH=>gb true (pSl 2 e) [] λI=>gb true (pIw f) 0 λJ=>gb true (Vq C) [] λK=>QkC R E F λL M=>QkC R G H λN O=>CoeDep.coe (QkA R k I J K L M N O)⟩
def QkK(R:Type):D->Bool->D->(Int->Int->oP R)->Qe R:=default
instance (k:Int->Int->oP R):CoeDep (Qe R) (QkK R d p e k) (oP R):=⟨gb p (pIw d) 0 λA=>gb p (pIw e) 0 λB=>CoeDep.coe (Qkv R k A B)⟩
def QkL(R:Type):LL->Int->(Int->oP R)->Qe R:=default
instance (k:Int->oP R):CoeDep (Qe R) (QkL R l i k) (oP R):=⟨gb true (Qi l i) [] λA=>gb true A[1]? oF λB=>gb true (pIw B) 0 k⟩
def QkM(R:Type):LL->Int->(Qli->oP R)->Qe R:=default
instance (k:Qli->oP R):CoeDep (Qe R) (QkM R l i k) (oP R):=⟨QkD R l i λA=>gb true (Vq A) [] k⟩
def QkN(R:Type):LL->Int->(Qlh->D->oP R)->Qe R:=default
instance (k:Qlh->D->oP R):CoeDep (Qe R) (QkN R l i k) (oP R):=⟨gb true (Qi l i) [] λA=>gb true A[0]? oF λ_=>gb true A[1]? oF λC=>CoeDep.coe (Qkv R k A C)⟩
def QkO(R:Type):Qlh->(D->D->D->oP R)->Qe R:=default
instance (k:D->D->D->oP R):CoeDep (Qe R) (QkO R r k) (oP R):=⟨gb true r[3]? oF λA=>gb true r[4]? oF λB=>gb true r[5]? oF λC=>CoeDep.coe (Qkw R k A B C)⟩
def QkP(R:Type):LL->Int->(LL->oP R)->Qe R:=default
instance (k:LL->oP R):CoeDep (Qe R) (QkP R l i k) (oP R):=⟨gb true (Qi l i) [] λA=>gb true A[3]? oF λB=>gb true (pSl 4 B) [] k⟩
def QkQ(R:Type):LL->Int->(D->D->oP R)->Qe R:=default
instance (k:D->D->oP R):CoeDep (Qe R) (QkQ R l i k) (oP R):=⟨QkH R l i λA B=>gb true A[1]? oF λC=>CoeDep.coe (Qkv R k B C)⟩
def QkR(R:Type):Nat->Int->LL->Nat->(LL->oP R)->Qe R:=default
instance (k:LL->oP R):CoeDep (Qe R) (QkR R a i l b k) (oP R):=⟨QkF R a i l b λA=>gb true A[0]? oF λB=>gb true (pSl 1 B) [] k⟩
def QkS(R:Type):LL->Int->Bool->(Qli->oP R)->Qe R:=default
instance (k:Qli->oP R):CoeDep (Qe R) (QkS R l i p k) (oP R):=⟨gb p (Qi l i) [] λA=>gb p A[0]? oF λB=>gb p (Vq B) [] k⟩
def QkT(R:Type):LL->Int->(D->D->D->oP R)->Qe R:=default
instance (k:D->D->D->oP R):CoeDep (Qe R) (QkT R l i k) (oP R):=⟨QkH R l i λA B=>gb true A[1]? oF λC=>gb true A[2]? oF λE=>CoeDep.coe (Qkw R k B C E)⟩
def QkU(R:Type):Qlh->(Int->oP R)->Qe R:=default
instance (k:Int->oP R):CoeDep (Qe R) (QkU R r k) (oP R):=⟨gb true r[2]? oF λA=>gb true (pIw A) 0 k⟩
def QkV(R:Type):LL->Int->(LL->oP R)->Qe R:=default
instance (k:LL->oP R):CoeDep (Qe R) (QkV R l i k) (oP R):=⟨QkD R l i λA=>gb true (pSl 3 A) [] k⟩
def QkW(R:Type):D->D->oP R->Qe R:=default
instance (k:oP R):CoeDep (Qe R) (QkW R d e k) (oP R):=⟨gb true (pIw d) 0 λ_=>gb true (pIw e) 0 λ_=>k⟩
def QkX(R:Type):LL->Int->(D->D->D->D->oP R)->Qe R:=default
instance (k:D->D->D->D->oP R):CoeDep (Qe R) (QkX R l i k) (oP R):=⟨QkE R l i λA B C E=>gb true A[3]? oF λF=>CoeDep.coe (Qkx R k B C E F)⟩
def QkY(R:Type):Qlh->(D->oP R)->Qe R:=default
instance (k:D->oP R):CoeDep (Qe R) (QkY R r k) (oP R):=⟨gb true r[2]? oF λ_=>gb true r[3]? oF k⟩
def QkZ(R:Type):Nat->Int->LL->Nat->(Int->oP R)->Qe R:=default
instance (k:Int->oP R):CoeDep (Qe R) (QkZ R a i l b k) (oP R):=⟨QkF R a i l b λA=>gb true A[1]? oF λB=>gb true (pIw B) 0 k⟩
def Ql0(R:Type):LL->Int->(Qlh->oP R)->Qe R:=default
instance (k:Qlh->oP R):CoeDep (Qe R) (Ql0 R l i k) (oP R):=⟨gb true (Qi l i) [] λA=>gb true A[0]? oF λ_=>gb true A[1]? oF λ_=>CoeDep.coe (Qg R k A)⟩
def Ql1(R:Type):Nat->Nat->oP R->Qe R:=default
instance (k:oP R):CoeDep (Qe R) (Ql1 R a b k) (oP R):=⟨gb true (Y5 a) () λ_=>gb true (Y5 b) () λ_=>k⟩
def Ql2(R:Type):D->D->D->D->(Int->Int->Int->Int->oP R)->Qe R:=default
instance (k:Int->Int->Int->Int->oP R):CoeDep (Qe R) (Ql2 R d e f g k) (oP R):=⟨QkC R d e λA B=>QkC R f g λC E=>CoeDep.coe (Qkx R k A B C E)⟩
def Ql3(R:Type):LL->Int->Bool->(Int->oP R)->Qe R:=default
instance (k:Int->oP R):CoeDep (Qe R) (Ql3 R l i p k) (oP R):=⟨gb p (Qi l i) [] λA=>gb p A[1]? oF λB=>gb p (pIw B) 0 k⟩
def Ql4(R:Type):LL->Int->(D->D->D->D->D->oP R)->Qe R:=default
instance (k:D->D->D->D->D->oP R):CoeDep (Qe R) (Ql4 R l i k) (oP R):=⟨QkE R l i λA B C E=>gb true A[3]? oF λF=>gb true A[4]? oF λG=>CoeDep.coe (Qky R k B C E F G)⟩
def Ql5(R:Type):LL->Int->(Int->oP R)->Qe R:=default
instance (k:Int->oP R):CoeDep (Qe R) (Ql5 R l i k) (oP R):=⟨gb true (Qi l i) [] λA=>gb true A[4]? oF λB=>gb true (pIw B) 0 k⟩
def Ql6(R:Type):Nat->Int->Bool->LL->Nat->(D->oP R)->Qe R:=default
instance (k:D->oP R):CoeDep (Qe R) (Ql6 R a i p l b k) (oP R):=⟨gb p (inB a i) () λ_=>gb p l[b]? [] λB=>gb p B[0]? oF k⟩
def Ql7(R:Type):D->D->D->(Int->Int->Int->oP R)->Qe R:=default
instance (k:Int->Int->Int->oP R):CoeDep (Qe R) (Ql7 R d e f k) (oP R):=⟨QkC R d e λA B=>gb true (pIw f) 0 λC=>CoeDep.coe (Qkw R k A B C)⟩
def Ql8(R:Type):LL->Int->(Int->oP R)->Qe R:=default
instance (k:Int->oP R):CoeDep (Qe R) (Ql8 R l i k) (oP R):=⟨gb true (Qi l i) [] λA=>QkU R A k⟩
def Ql9(R:Type):Qlh->(D->D->oP R)->Qe R:=default
instance (k:D->D->oP R):CoeDep (Qe R) (Ql9 R r k) (oP R):=⟨gb true r[2]? oF λA=>gb true r[3]? oF λB=>CoeDep.coe (Qkv R k A B)⟩
def Qla(R:Type):D->D->(LL->Int->oP R)->Qe R:=default
instance (k:LL->Int->oP R):CoeDep (Qe R) (Qla R d e k) (oP R):=⟨gb true (pSl 2 d) [] λA=>gb true (pIw e) 0 λB=>CoeDep.coe (Qkv R k A B)⟩
def Qlb(R:Type):Int->oP R->Qe R:=default
instance (k:oP R):CoeDep (Qe R) (Qlb R i k) (oP R):=⟨gb true (nz i) () λ_=>gb true (nz i) () λ_=>k⟩
def Qlc(R:Type):LL->Int->Bool->(Int->oP R)->Qe R:=default
instance (k:Int->oP R):CoeDep (Qe R) (Qlc R l i p k) (oP R):=⟨gb p (Qi l i) [] λA=>gb p A[0]? oF λB=>gb p (pIw B) 0 k⟩
def Qld(R:Type):LL->Int->(LL->oP R)->Qe R:=default
instance (k:LL->oP R):CoeDep (Qe R) (Qld R l i k) (oP R):=⟨QkD R l i λA=>gb true (pSl 2 A) [] k⟩
def Qle(R:Type):LL->Int->(D->oP R)->Qe R:=default
instance (k:D->oP R):CoeDep (Qe R) (Qle R l i k) (oP R):=⟨gb true (Qi l i) [] λA=>gb true A[1]? oF k⟩
def Qlf(R:Type):Nat->Int->LL->Nat->(Bool->oP R)->Qe R:=default
instance (k:Bool->oP R):CoeDep (Qe R) (Qlf R a i l b k) (oP R):=⟨QkF R a i l b λA=>gb true A[0]? oF λB=>gb true (PB B) false k⟩
def Qlg(R:Type):D->LL->(D->D->oP R)->Qe R:=default
instance (k:D->D->oP R):CoeDep (Qe R) (Qlg R d l k) (oP R):=⟨gb true (pIw d) 0 λA=>QkQ R l A k⟩
end
abbrev Qlj(R:Type):=Int->oP R
abbrev Qlk(R:Type):=Int->Bool->oP R
abbrev Qll(R:Type):=Nat->Int->oP R
abbrev Qlm(R:Type):=Int->Bool->LL->oP R
abbrev Qln(R:Type):=Nat->Int->LL->oP R
abbrev Qlo(R:Type):=Bool->oP R
abbrev Qlp(R:Type):=LL->oP R
abbrev Qlq(R:Type):=Int->Int->oP R
abbrev Qlr(R:Type):=Int->Int->Bool->oP R
abbrev Qls(R:Type):=Nat->Int->Int->oP R
abbrev Qlt(R:Type):=LL->Int->oP R
abbrev Qlu(R:Type):=Int->LL->oP R
abbrev Qlv(R:Type):=Int->Bool->LL->LL->oP R
abbrev Qlw(R:Type):=LL->Int->Int->oP R
abbrev Qlx(R:Type):=Nat->Int->LL->LL->oP R
abbrev Qly(R:Type):=Nat->Int->Int->LL->oP R
abbrev Qlz(R:Type):=Nat->Int->Int->LL->LL->oP R
abbrev QlA(R:Type):=Int->Bool->LL->LL->Int->oP R
abbrev QlB(R:Type):=Nat->Int->LL->LL->Int->oP R
abbrev QlC(R:Type):=Int->Bool->LL->LL->LL->Int->oP R
abbrev QlD(R:Type):=Nat->Int->LL->LL->LL->Int->oP R
abbrev QlE(R:Type):=Int->Bool->Int->LL->oP R
abbrev QlF(R:Type):=Int->Int->Bool->LL->oP R
abbrev QlG(R:Type):=Int->Int->Bool->LL->LL->oP R
abbrev QlH(R:Type):=Int->Bool->(Int->Bool)->oP R
abbrev QlI(R:Type):=Nat->Int->(Int->Bool)->oP R
abbrev QlJ(R:Type):=Int->Bool->Int->Int->LL->LL->LL->LL->oP R
abbrev QlK(R:Type):=LL->LL->LL->LL->Int->LL->LL->LL->LL->LL->LL->LL->oP R
section
variable{P:Program} {R:Type}
mutual
def dm(ρ:List (Nat×Nat)):AV->Bool
 |.ptr j _=>(look ρ j).isSome
 |.arr j=>(look ρ j).isSome
 |.ap j _ _=>(look ρ j).isSome
 |.sa j _=>(look ρ j).isSome
 |.ag l=>dmL ρ l
 |.tup l=>dmL ρ l
 |.fn _ l=>dmL ρ l
 |.gd ..=>false
 |_=>true
def dmL(ρ:List (Nat×Nat)):List AV->Bool
 |[]=>true
 |a::r=>dm ρ a&&dmL ρ r
end
theorem Q7O{ρ:List (Nat×Nat)}:∀{l:List AV} {i:Nat} {x:AV},dmL ρ l=true->l[i]? = some x->dm ρ x=true
 |a::r,0,x,h,hx=>by
  simp only[dmL,QpD]at h;simp at hx;subst hx;exact h.1
 |a::r,i+1,x,h,hx=>by
  simp only[dmL,QpD]at h;exact Q7O h.2 (by simpa using hx)
section
variable{ρ:List (Nat×Nat)} {β β':Nat->oP Nat} {S:Nat->Prop} {h h':Nat->oP Ob} {w:World} {tm:Nat->Value}
theorem QiI(hβ:∀j l,look ρ j=some l->β' j=β l)(hh:∀j l,look ρ j=some l->(h l).isSome=true/\(∀e s rows,h l=some (.arr e s rows)->h' j=some (.arr e s rows))/\∀t f,h l=some (.mp t f)->h' j=some (.mp t f)) :
  ∀{v:Value} {y:AV},RdA β S h w tm v y->∀x:AV,dm ρ x=true->y=U8 ρ x->RdA β' S h' w tm v x:=by
 intro v y hv;induction hv with
 |top v=>
  intro x hd he;cases x<;>simp only[U8,reduceCtorEq]at he
  case top=>exact .top v
  all_goals grind[dm,Option.isSome_iff_exists]
 |d v z hz=>
  intro x hd he;cases x<;>simp only[U8,reduceCtorEq]at he
  case d=>injection he with he;subst he;exact .d v _ hz
  all_goals grind
 |nil=>
  intro x hd he;cases x<;>simp only[U8,reduceCtorEq]at he
  case nil=>exact .nil
  all_goals grind
 |ag cs l hl _ ih=>
  intro x hd he;cases x<;>simp only[U8,reduceCtorEq]at he
  case ag r=>
   injection he with he
   subst he;rw[Z7]at hl;refine .ag cs r hl λi z hz=>?_
   exact ih i (U8 ρ z) (by rw[VK,hz];rfl) z (Q7O (by simpa[dm]using hd) hz) rfl
  all_goals grind
 |tup cs l hl _ ih=>
  intro x hd he;cases x<;>simp only[U8,reduceCtorEq]at he
  case tup r=>
   injection he with he
   subst he;rw[Z7]at hl;refine .tup cs r hl λi z hz=>?_
   exact ih i (U8 ρ z) (by rw[VK,hz];rfl) z (Q7O (by simpa[dm]using hd) hz) rfl
  case ptr j o=>split at he<;>cases he
  case arr j=>split at he<;>cases he
  case sa j t=>split at he<;>cases he
  case ap j i o=>split at he<;>cases he
 |fn f cs l hl _ ih=>
  intro x hd he;cases x<;>simp only[U8,reduceCtorEq]at he
  case fn g r=>
   injection he with he1 he2
   subst he1;subst he2;rw[Z7]at hl;refine .fn f cs r hl λi z hz=>?_
   exact ih i (U8 ρ z) (by rw[VK,hz];rfl) z (Q7O (by simpa[dm]using hd) hz) rfl
  case ptr j o=>split at he<;>cases he
  case arr j=>split at he<;>cases he
  case sa j t=>split at he<;>cases he
  case ap j i o=>split at he<;>cases he
 |fs ad s rows hx=>
  intro x hd he;cases x<;>simp only[U8,reduceCtorEq]at he
  case fs=>injection he with e1 e2;subst e1 e2;exact .fs ad _ _ hx
  case ptr j o=>split at he<;>cases he
  case arr j=>split at he<;>cases he
  case sa j t=>split at he<;>cases he
  case ap j i o=>split at he<;>cases he
 |ex v=>
  intro x hd he;cases x<;>simp only[U8,reduceCtorEq]at he
  case ex=>injection he with e1;subst e1;exact .ex _
  case ptr j o=>split at he<;>cases he
  case arr j=>split at he<;>cases he
  case sa j t=>split at he<;>cases he
  case ap j i o=>split at he<;>cases he
 |mpd v f hm=>
  intro x hd he;cases x<;>simp only[U8,reduceCtorEq]at he
  case mpd=>injection he with e1;subst e1;exact .mpd v _ hm
  case ptr j o=>split at he<;>cases he
  case arr j=>split at he<;>cases he
  case sa j t=>split at he<;>cases he
  case ap j i o=>split at he<;>cases he
 |ptr l off b hb=>
  intro x hd he;cases x<;>simp only[U8,reduceCtorEq]at he
  case ptr j o=>
   split at he
   ·rename_i l' aa;injection he with e1 e2
    subst e1 e2;exact .ptr j _ b ((hβ j _ aa).trans hb)
   ·cases he
  case arr j=>split at he<;>cases he
  case sa j t=>split at he<;>cases he
  case ap j i o=>split at he<;>cases he
 |sa v l t b hb hv=>
  intro x hd he;cases x<;>simp only[U8,reduceCtorEq]at he
  case sa j t=>
   split at he
   ·rename_i l' aa;injection he with e1 e2
    subst e1 e2;exact .sa v j _ b ((hβ j _ aa).trans hb) hv
   ·cases he
  case ptr j o=>split at he<;>cases he
  case arr j=>split at he<;>cases he
  case ap j i o=>split at he<;>cases he
 |el ad row off c hs hc hr=>
  intro x hd he;cases x<;>simp only[U8,reduceCtorEq]at he
  case el r o=>injection he with e1 e2;subst e1 e2;exact .el ad _ _ c hs hc hr
  case ptr j o=>split at he<;>cases he
  case arr j=>split at he<;>cases he
  case sa j t=>split at he<;>cases he
  case ap j i o=>split at he<;>cases he
 |arr0 l e s hb hk=>
  intro x hd he;cases x<;>simp only[U8,reduceCtorEq]at he
  case arr j=>
   split at he
   ·rename_i l' aa;injection he with e1
    subst e1;exact .arr0 j e s ((hβ j _ aa).trans hb) ((hh j _ aa).2.1 _ _ _ hk)
   ·cases he
  case ptr j o=>split at he<;>cases he
  case sa j t=>split at he<;>cases he
  case ap j i o=>split at he<;>cases he
 |arr l b cap e s rows cs ty fz hb hk hw aq an ao=>
  intro x hd he;cases x<;>simp only[U8,reduceCtorEq]at he
  case arr j=>
   split at he
   ·rename_i l' aa;injection he with e1
    subst e1;exact .arr j b cap e s rows cs ty fz ((hβ j _ aa).trans hb) ((hh j _ aa).2.1 _ _ _ hk) hw aq an ao
   ·cases he
  case ptr j o=>split at he<;>cases he
  case sa j t=>split at he<;>cases he
  case ap j i o=>split at he<;>cases he
 |mp l b t f hb hk=>
  intro x hd he;cases x<;>simp only[U8,reduceCtorEq]at he
  case arr j=>
   split at he
   ·rename_i l' aa;injection he with e1
    subst e1;exact .mp j b t f ((hβ j _ aa).trans hb) ((hh j _ aa).2.2 _ _ hk)
   ·cases he
  case ptr j o=>split at he<;>cases he
  case sa j t=>split at he<;>cases he
  case ap j i o=>split at he<;>cases he
 |ap l i off b e s rows hb hk=>
  intro x hd he;cases x<;>simp only[U8,reduceCtorEq]at he
  case ap j i' o=>
   split at he
   ·rename_i l' aa;injection he with e1 e2 e3
    subst e1 e2 e3;exact .ap j _ _ b e s rows ((hβ j _ aa).trans hb) ((hh j _ aa).2.1 _ _ _ hk)
   ·cases he
  case ptr j o=>split at he<;>cases he
  case arr j=>split at he<;>cases he
  case sa j t=>split at he<;>cases he
 |dang v av l hl hk h1=>
  intro x hd he;exfalso;cases x with
  |ptr j o=>simp only[U8]at he;split at he<;>(subst he;simp[TZ]at hl)
  |sa j o=>simp only[U8]at he;split at he<;>(subst he;simp[TZ]at hl)
  |arr j=>
   simp only[U8]at he;split at he
   ·rename_i l' aa;subst he;simp[TZ]at hl;subst hl;have:=(hh j _ aa).1;rw[hk]at this;cases this
   ·subst he;simp[TZ]at hl
  |ap j i o=>
   simp only[U8]at he;split at he
   ·rename_i l' aa;subst he;simp[TZ]at hl;subst hl;have:=(hh j _ aa).1;rw[hk]at this;cases this
   ·subst he;simp[TZ]at hl
  |_=>simp only[U8]at he;subst he;simp[TZ]at hl
 |gdT v t b av ht hv ih=>
  intro x hd he;cases x<;>simp only[U8,reduceCtorEq]at he
  case ptr j o=>split at he<;>cases he
  case arr j=>split at he<;>cases he
  case sa j t=>split at he<;>cases he
  case ap j i o=>split at he<;>cases he
 |gdF t b av ht=>
  intro x hd he;cases x<;>simp only[U8,reduceCtorEq]at he
  case ptr j o=>split at he<;>cases he
  case arr j=>split at he<;>cases he
  case sa j t=>split at he<;>cases he
  case ap j i o=>split at he<;>cases he
end
def CLe(ρ:List (Nat×Nat))(c c':AV):Prop:=(lf c'=true/\Cy c c')\/(dm ρ c'=true/\c=U8 ρ c')
inductive CLeL(ρ:List (Nat×Nat)):List AV->List AV->Prop
 |nil:CLeL ρ [] []
 |cons {a b:AV} {l r:List AV} (h:CLe ρ a b) (t:CLeL ρ l r):CLeL ρ (a::l) (b::r)
theorem CLeL.length{ρ:List (Nat×Nat)}{l r:List AV}(h:CLeL ρ l r):l.length=r.length:=by induction h<;>simp[*]
theorem CLeL.at{ρ:List (Nat×Nat)}{l r:List AV}(h:CLeL ρ l r):∀(i:Nat) (x:AV),r[i]? = some x->∃y,l[i]? = some y/\CLe ρ y x:=by
 induction h with
 |nil=>simp_all
 |cons h0 _ ih=>
  grind
theorem Qc7{ρ:List (Nat×Nat)}{ty:TypeId}{cs aa:List AV}(hc:CLeL ρ cs aa)(h:Q5m ty cs):Q5m ty aa:=by
 intro i l t hi;obtain⟨y,hy,ac⟩:=hc.at i _ hi;rcases ac with⟨h1,_⟩|⟨h1,rfl⟩
 ·trivial
 ·obtain⟨l',ai⟩:=QpS.1 h1;simp only[U8,ai]at hy;exact h i l' t hy
inductive OLe(ρ:List (Nat×Nat)):Ob->Ob->Prop
 |box {cs cs':List AV} (h:CLeL ρ cs cs'):OLe ρ (.box cs) (.box cs')
 |arr (e s:Nat) (rows:List (List D)):OLe ρ (.arr e s rows) (.arr e s rows)
 |mp (t:Nat) (f:Int->Bool):OLe ρ (.mp t f) (.mp t f)
def Q2F(o o':oP Ob):Prop:=
 (∃c c',o=some (.box c)/\o'=some (.box c')/\c'.length=c.length) \/
 (∃e s rows,o=some (.arr e s rows)/\(o'=none\/∃aa,o'=some (.arr e s aa)/\aa.length=rows.length)) \/
 ∃t f,o=some (.mp t f)/\(o'=none\/∃f',o'=some (.mp t f'))
structure ShapeEnd(σ ρ:List (Nat×Nat))(H:List (Nat×Ob))(av:AV)(H':List (Nat×Ob))(dl:Dl):Prop where
 v:U8 σ av=dl.v
 wr:MN σ H' σ=dl.wr
 news:∀j l,(j,l)∈σ->(j,l) ∉ ρ->(look H' j).isSome=true
 old:∀j l,(j,l)∈ρ->Q2F (look H j) (look H' j)
theorem FR {α : Type} {K : AV -> List (Nat×Ob) -> oP α} {res : α} {f : Nat} {fn : Func} (hf : P.funcs[f]? = some fn) (hb : fn.body.isSome = true) (hn : (fn.name == "runtime.NumGoroutine") = false)
  {σ ρ:List (Nat×Nat)} {avs avs':List AV} {H:List (Nat×Ob)} {hl:Nat->oP Ob} {dl:Dl}
  (hav:CLeL ρ avs avs')
  (hsub:∀p,p∈ρ->p∈σ) (h1:Xm (σ.map (·.1))=true) (h2:Xm (σ.map (·.2))=true) (hρ:Xm (ρ.map (·.1))=true)
  (hin:∀j l,(j,l)∈ρ->1000000<=j/\∃o o',hl l=some o/\look H j=some o'/\OLe ρ o o')
  (hinH:∀j,(look H j).isSome=true->∃l,(j,l)∈ρ)
  (hnew:∀j l,(j,l)∈σ->(j,l)∈ρ\/hl l=none)
  (hwl:wrL dl=σ.map (·.2))
  (h:∀(β:Nat->oP Nat) (S:Nat->Prop) (w:World) (vs:List Value),Objs β S (look H) w->ArgsRd β S (look H) w vs avs'->Calls P f vs.toArray w (Nc H K res β S w)) (hK:∀av H',K av H'=some res->ShapeEnd σ ρ H av H' dl):ZX P f avs hl dl:=by
 refine⟨⟨fn,hf,hb,hn⟩,λβ S h' w args hO hA hag=>?_⟩;have hag:∀{j l:Nat},(j,l)∈σ->h' l=hl l:=λ{j l} hm=>hag l (.inr (by rw[hwl];exact QpW.2 ⟨(j,l),hm,rfl⟩))
 have hlook:∀{j l:Nat},(j,l)∈ρ->look ρ j=some l:=λhm=>LR hρ hm
 have hβc:∀{j l:Nat},(j,l)∈ρ->(look ρ j).bind β=β l:=λhm=>by rw[hlook hm];rfl
 have hlk2:∀{j j' l:Nat},(j,l)∈ρ->(j',l)∈ρ->j=j':=λa b=>by
  have:=Ho h2 _ _ (hsub _ a) (hsub _ b) rfl;injection this
 have hsome':∀{j l:Nat},(j,l)∈ρ->(h' l).isSome=true:=λhm=>by
  obtain⟨_,o,o',g1,_⟩:=hin _ _ hm;rw[hag (hsub _ hm),g1];rfl
 have hun:∀{v:Value} {y x:AV},RdA β S h' w tm0 v y->CLe ρ y x->RdA (λj=>(look ρ j).bind β) S (look H) w tm0 v x:=by
  intro v y x hv hc;rcases hc with⟨c1,c2⟩|⟨c1,rfl⟩
  ·exact FE c1 (λ_ h=>h) (λ_ _=>rfl) (c2 _ _ _ _ _ _ hv)
  ·refine QiI (ρ:=ρ) (λj l hj=>by simp only[hj];rfl) (λj l hj=>⟨hsome' (Y2 hj),λe s rows hx=>?_,λt f hx=>?_⟩) hv x c1 rfl<;>
   ·obtain⟨_,o,o',g1,g2,g3⟩:=hin j l (Y2 hj);rw[hag (hsub _ (Y2 hj)),g1]at hx;injection hx with hx
    subst hx;cases g3;exact g2
 have hO0:Objs (λj=>(look ρ j).bind β) S (look H) w:=by
  refine⟨λj o ho=>?_,λj j' b s1 s2 b1 b2=>?_,λj b s1 b1=>?_,hO.sb⟩
  ·obtain⟨l,hm⟩:=hinH j (by simp[ho]);obtain⟨_,oo,o',g1,g2,g3⟩:=hin j l hm;rw[ho]at g2;injection g2 with g2
   subst g2;have hob:=hO.ob l _ ((hag (hsub _ hm)).trans g1);cases g3 with
   |box g3=>
    obtain⟨b,ty,c0,fz,e1,e2,e3,e4,e5⟩:=hob;refine⟨b,ty,c0,fz,(hβc hm).trans e1,e2,⟨e3.1,Qc7 g3 e3.2⟩,e4.trans g3.length,λi x hx=>?_⟩;obtain⟨y,y1,y2⟩:=g3.at i x hx;exact hun (e5 i y y1) y2
   |arr e s rows=>
    rcases hob with⟨e1,e2⟩|⟨b,cs,e1,e2,e3,e4,e5⟩
    ·exact .inl ⟨(hβc hm).trans e1,e2⟩
    ·exact .inr ⟨b,cs,(hβc hm).trans e1,e2,e3,e4,e5⟩
   |mp t f=>
    obtain⟨b,e1,e2⟩:=hob;exact⟨b,(hβc hm).trans e1,e2⟩
  ·obtain⟨l,hm⟩:=hinH j s1;obtain⟨l',hm'⟩:=hinH j' s2;have:=hO.inj l l' b (hsome' hm) (hsome' hm') (by rw[<- hβc hm];exact b1) (by rw[<- hβc hm'];exact b2);subst this;exact hlk2 hm hm'
  ·obtain⟨l,hm⟩:=hinH j s1;exact hO.apart l b (hsome' hm) (by rw[<- hβc hm];exact b1)
 have hA0:ArgsRd (λj=>(look ρ j).bind β) S (look H) w args avs':=by
  refine⟨by rw[hA.1,hav.length],λi v av g1 g2=>?_⟩;obtain⟨y,y1,y2⟩:=hav.at i av g2;exact hun (hA.2 i v y g1 y1) y2
 refine(h _ _ _ _ hO0 hA0).mono λe w' ⟨v,av,H',β',S',he,hk,hrd,_,hr⟩=>?_
 obtain⟨q1,q2,q3,q4⟩:=hK av H' hk;have hinv:∀{j l:Nat},(j,l)∈σ->inv σ l=some j:=λhm=>Q4d h2 hm
 let βo:Nat->oP Nat:=λl=>match inv σ l with | some j=>β' j | none=>β l
 have hβo:∀j l,(j,l)∈σ->βo l=β' j:=λj l hm=>by simp only[βo,hinv hm]
 have hset:∀j l,(j,l)∈σ->KQ h' dl.wr l=(look H' j).map (QcE σ):=λj l hm=>by rw[<- q2];exact Le σ H' σ h' h2 j l hm
 have hmem:∀{l:Nat},l∈wrL dl->∃j,(j,l)∈σ:=λhm=>by
  rw[hwl]at hm;obtain⟨⟨j,l'⟩,m1,m2⟩:=QpW.1 hm;simp only at m2;subst m2;exact⟨j,m1⟩
 have hpin:∀{j l:Nat},(j,l)∈ρ->β' j=β l:=λhm=>(hr.pin _ (hin _ _ hm).1).trans (hβc hm)
 have hren:∀{v:Value} {x:AV},RdA β' S' (look H') w' tm0 v x->RdA βo S' (KQ h' dl.wr) w' tm0 v (U8 σ x):=λhx=>
  Q70 hβo (λj l o hm ho=>by rw[hset j l hm,ho];rfl) (λj l hm ho=>by rw[hset j l hm,ho];rfl) hx
 have hwmem:∀{j l:Nat},(j,l)∈σ->l∈wrL dl:=λ{j l} hm=>by rw[hwl];exact QpW.2 ⟨(j,l),hm,rfl⟩
 have hMw:∀b,(∃j,(look H j).isSome=true/\(look ρ j).bind β=some b)->∃l,l∈wrL dl/\(h' l).isSome=true/\β l=some b:=by
  intro b ⟨j,s1,s2⟩;obtain⟨l,hm⟩:=hinH j s1;exact⟨l,hwmem (hsub _ hm),hsome' hm,by rw[<- hβc hm];exact s2⟩
 have hw0:∀{b:Nat},(∃j,(look H j).isSome=true/\(look ρ j).bind β=some b)\/w.heap.size<=b->w.heap.size<=b\/∃l0,l0∈wrL dl/\(h' l0).isSome=true/\β l0=some b:=by
  intro b hx;rcases hx with hx | hx
  ·exact .inr (hMw b hx)
  ·exact .inl hx
 refine⟨v,βo,S',he,⟨hr.s0,λb hS=>?_,hr.sb,hr.fr.mono λb _ hM=>hMw b hM,λl hno=>?_,λl o hm ho=>?_,λl hm hs=>?_,λl b hm hs hb'=>?_,λl l' b hm hm' hs hs' hb' hb''=>?_,λl hm hno hno'=>?_,?_,λt=>by rw[<- q1];exact Q28 σ t av⟩⟩
 ·rcases hr.sfr b hS with g | g | g
  ·exact .inl g
  ·exact .inr (.inr (hMw b g))
  ·exact .inr (.inl g)
 ·have:inv σ l=none:=Q7o (by rw[<- hwl];exact hno);simp only[βo,this]
 ·obtain⟨j,hj⟩:=hmem hm;rw[hset j l hj,QpE]at ho;obtain⟨o',ho',rfl⟩:=ho;have hob:=hr.ob j o' ho';cases o' with
  |box cells=>
   obtain⟨b,ty,cs,fz,g1,g2,g3,g4,g5⟩:=hob;refine⟨b,ty,cs,fz,(hβo j l hj).trans g1,g2,⟨g3.1,Q1B g3.2⟩,by rw[g4,Z7],λi x hx=>?_⟩;rw[VK,QpE]at hx;obtain⟨y,hy,rfl⟩:=hx;exact hren (g5 i y hy)
  |arr e s rows=>
   rcases hob with⟨g1,g2⟩|⟨b,cs,g1,g2,g3,g4,g5⟩
   ·exact .inl ⟨(hβo j l hj).trans g1,g2⟩
   ·exact .inr ⟨b,cs,(hβo j l hj).trans g1,g2,g3,g4,g5⟩
  |mp t f=>
   obtain⟨b,g1,g2⟩:=hob;exact⟨b,(hβo j l hj).trans g1,g2⟩
 ·obtain⟨j,hj⟩:=hmem hm;rcases hnew j l hj with hp | hno
  ·obtain⟨hj6,o,o',e1,e2,e3⟩:=hin j l hp;have hh:h' l=some o:=(hag hj).trans e1;have hcells:∀b cs ty fz,(KQ h' dl.wr l).isSome=true->β l=some b->w.heap[b]? = some (.cells cs ty fz)->∃cs' ty' fz',w'.heap[b]? = some (.cells cs' ty' fz')/\cs'.size=cs.size:=by
    intro b cs ty fz hs' hb' hw;have hs2:(look H' j).isSome=true:=by
     rw[hset j l hj]at hs';cases hx:look H' j with
     |none=>rw[hx]at hs';cases hs'
     |some o=>rfl
    exact hr.psz j b hj6 hs2 ((hpin hp).trans hb') cs ty fz hw
   rcases q4 j l hp with⟨c,c',g1,g2,g3⟩|⟨e,s,rows,g1,g2⟩|⟨t,f,g1,g2⟩
   ·rw[g1]at e2;injection e2 with e2
    subst e2;cases e3 with
    |box e3=>exact⟨(hβo j l hj).trans (hpin hp),λhx=>(by rw[hh]at hx;cases hx),λe s rows hx=>(by rw[hh]at hx;cases hx),hcells,λt f hx=>(by rw[hh]at hx;cases hx)⟩
   ·rw[g1]at e2;injection e2 with e2
    subst e2;cases e3 with
    |arr=>
     refine⟨(hβo j l hj).trans (hpin hp),λhx=>(by rw[hh]at hx;cases hx),λe' s' rows2 hx=>?_,hcells,λt f hx=>(by rw[hh]at hx;cases hx)⟩;rw[hh]at hx;injection hx with hx
     injection hx with x1 x2 x3
     subst x1 x2 x3;rcases g2 with g2 | ⟨rows',g2,g3⟩
     ·left;rw[hset j l hj,g2];rfl
     ·right;exact⟨rows',by rw[hset j l hj,g2];rfl,g3⟩
   ·rw[g1]at e2;injection e2 with e2
    subst e2;cases e3 with
    |mp=>
     refine⟨(hβo j l hj).trans (hpin hp),λhx=>(by rw[hh]at hx;cases hx),λe' s' rows2 hx=>(by rw[hh]at hx;cases hx),hcells,λt' f2 hx=>?_⟩;rw[hh]at hx;injection hx with hx
     injection hx with x1 x2
     subst x1 x2;rcases g2 with g2 | ⟨f',g2⟩
     ·left;rw[hset j l hj,g2];rfl
     ·right;exact⟨f',by rw[hset j l hj,g2];rfl⟩
  ·rw[hag hj,hno]at hs;cases hs
 ·obtain⟨j,hj⟩:=hmem hm;rw[hβo j l hj]at hb';have hs2:(look H' j).isSome=true:=by
   rw[hset j l hj]at hs;cases hx:look H' j with
   |none=>rw[hx]at hs;cases hs
   |some o=>rfl
  exact⟨hw0 (hr.own j b hs2 hb'),hr.apart j b hs2 hb'⟩
 ·obtain⟨j,hj⟩:=hmem hm;obtain⟨j',hj'⟩:=hmem hm';rw[hβo j l hj]at hb';rw[hβo j' l' hj']at hb'';have hs2:∀{j l:Nat},(j,l)∈σ->(KQ h' dl.wr l).isSome=true->(look H' j).isSome=true:=by
   intro j l hj hs;rw[hset j l hj]at hs;cases hx:look H' j with
   |none=>rw[hx]at hs;cases hs
   |some o=>rfl
  have:=hr.inj j j' b (hs2 hj hs) (hs2 hj' hs') hb' hb'';subst this;have:=Ho h1 _ _ hj hj' rfl;injection this
 ·obtain⟨j,hj⟩:=hmem hm;by_cases hp:(j,l)∈ρ
  ·have:=hsome' hp;rw[hno]at this;cases this
  ·have:=q3 j l hj hp;rw[hset j l hj]at hno';cases hx:look H' j with
   |none=>rw[hx]at this;cases this
   |some o=>rw[hx]at hno';cases hno'
 ·rw[<- q1];exact hren hrd
theorem QcV {α : Type} {K : AV -> List (Nat×Ob) -> oP α} {res : α} {C : VC} (hC : VCOk P C) {n f : Nat} {fn : Func} (hf : P.funcs[f]? = some fn) (hb : fn.body.isSome = true) (hn : (fn.name == "runtime.NumGoroutine") = false)
  {σ ρ:List (Nat×Nat)} {avs avs':List AV} {H:List (Nat×Ob)} {hl:Nat->oP Ob} {dl:Dl}
  (hav:CLeL ρ avs avs')
  (hsub:∀p,p∈ρ->p∈σ) (h1:Xm (σ.map (·.1))=true) (h2:Xm (σ.map (·.2))=true) (hρ:Xm (ρ.map (·.1))=true)
  (hin:∀j l,(j,l)∈ρ->1000000<=j/\∃o o',hl l=some o/\look H j=some o'/\OLe ρ o o')
  (hinH:∀j,(look H j).isSome=true->∃l,(j,l)∈ρ)
  (hnew:∀j l,(j,l)∈σ->(j,l)∈ρ\/hl l=none)
  (hwl:wrL dl=σ.map (·.2))
  (h:vfn C n fn avs' H K=some res) (hK:∀av H',K av H'=some res->ShapeEnd σ ρ H av H' dl):ZX P f avs hl dl:=
 FR hf hb hn hav hsub h1 h2 hρ hin hinH hnew hwl (λ_ _ _ _ hO hA=>Bo hC hf h hO hA) hK
end
section
variable{P:Program} {R:Type}
theorem CLe.data{ρ:List (Nat×Nat)}{c c':AV}(hl:lf c'=true)(h:Cy c c'):CLe ρ c c':=.inl ⟨hl,h⟩
theorem CLe.own{ρ:List (Nat×Nat)}{c c':AV}(hd:dm ρ c'=true)(h:c=U8 ρ c'):CLe ρ c c':=.inr ⟨hd,h⟩
def Qgu(ρ0:List (Nat×Nat))(hl:Nat->oP Ob)(H:List (Nat×Ob)):List (Nat×Nat)->Prop
 |[]=>True
 |(j,l)::r=>(1000000<=j/\∃o o',hl l=some o/\look H j=some o'/\OLe ρ0 o o')/\Qgu ρ0 hl H r
def QgI(H H':List (Nat×Ob)):List (Nat×Nat)->Prop
 |[]=>True
 |(j,_)::r=>Q2F (look H j) (look H' j)/\QgI H H' r
theorem Q9K{ρ0:List (Nat×Nat)}{hl:Nat->oP Ob}{H:List (Nat×Ob)}:∀{ρ:List (Nat×Nat)},Qgu ρ0 hl H ρ->∀j l,(j,l)∈ρ->1000000<=j/\∃o o',hl l=some o/\look H j=some o'/\OLe ρ0 o o'
 |(a,b)::r,h,j,l,hm=>by
  rcases QpJ.1 hm with hm | hm
  ·injection hm with h1 h2;subst h1 h2;exact h.1
  ·exact Q9K h.2 j l hm
theorem Q9k{H H':List (Nat×Ob)}:∀{ρ:List (Nat×Nat)},QgI H H' ρ->∀j l,(j,l)∈ρ->Q2F (look H j) (look H' j)
 |(a,b)::r,h,j,l,hm=>by
  rcases QpJ.1 hm with hm | hm
  ·injection hm with h1 h2;subst h1 h2;exact h.1
  ·exact Q9k h.2 j l hm
theorem QaH{o o':oP Ob}{c c':List AV}(h1:o=some (.box c))(h2:o'=some (.box c'))(h3:c'.length=c.length):Q2F o o':=.inl ⟨c,c',h1,h2,h3⟩
theorem Q88{o o':oP Ob}{e s:Nat}{rows:List (List D)}(h1:o=some (.arr e s rows))(h2:o'=none):Q2F o o':=.inr (.inl ⟨e,s,rows,h1,.inl h2⟩)
theorem Q7W{o o':oP Ob}{e s:Nat}{rows aa:List (List D)}(h1:o=some (.arr e s rows))(h2:o'=some (.arr e s aa))(h3:aa.length=rows.length):Q2F o o':=.inr (.inl ⟨e,s,rows,h1,.inr ⟨aa,h2,h3⟩⟩)
theorem Q9J{o o':oP Ob}{t:Nat}{f f':Int->Bool}(h1:o=some (.mp t f))(h2:o'=some (.mp t f')):Q2F o o':=.inr (.inr ⟨t,f,h1,.inr ⟨f',h2⟩⟩)
theorem Q5v{o o':oP Ob}{t:Nat}{f:Int->Bool}(h1:o=some (.mp t f))(h2:o'=none):Q2F o o':=.inr (.inr ⟨t,f,h1,.inl h2⟩)
theorem Q9X{f:Nat}{aa:List AV}{hl:Nat->oP Ob}{dl:Dl}{g:Bool}{k:Dl->oP R}{r:R}(h:(bif g then none else k dl)=some r):∃dl,k dl=some r/\(g=true->ZX P f aa hl dl):=by
 grind
theorem Q1w {α : Type} {K : AV -> List (Nat×Ob) -> oP α} {res : α} {f : Nat} {fn : Func} (hf : P.funcs[f]? = some fn) (hb : fn.body.isSome = true) (hn : (fn.name == "runtime.NumGoroutine") = false)
  {ρ ν:List (Nat×Nat)} {avs avs':List AV} {H:List (Nat×Ob)} {hl:Nat->oP Ob} {dl:Dl}
  (hav:CLeL ρ avs avs') (h1:Xm ((ρ++ν).map (·.1))=true) (hρ:Xm (ρ.map (·.1))=true)
  (hc:N9 hl ρ ν=true) (hin:Qgu ρ hl H ρ) (hkeys:H.map (·.1)=ρ.map (·.1)) (hwl:wrL dl=(ρ++ν).map (·.2))
  (h:∀(β:Nat->oP Nat) (S:Nat->Prop) (w:World) (vs:List Value),Objs β S (look H) w->ArgsRd β S (look H) w vs avs'->Calls P f vs.toArray w (Nc H K res β S w))
  (hK:∀av H',K av H'=some res->U8 (ρ++ν) av=dl.v/\MN (ρ++ν) H' (ρ++ν)=dl.wr/\QcK H' ν/\QgI H H' ρ):ZX P f avs hl dl:=by
 simp only[N9,QpD]at hc;refine FR hf hb hn hav (λp hp=>List.mem_append_left _ hp) h1 hc.1 hρ (Q9K hin) (Q2b hkeys) (λj l hm=>?_) hwl h λav H' hk=>?_
 ·grind[Q6B]
 ·obtain⟨q1,q2,q3,q4⟩:=hK av H' hk;refine⟨q1,q2,λj l hm hno=>?_,Q9k q4⟩
  grind[absurd,Q5p]
end
abbrev N5:=(R:Type)->St->(Exit->St->oP R)->oP R
section
variable{P:Program} {E:Env} {R:Type}
def Qc2(P:Program)(c:Code)(F:N5):Prop:=
 ∀(E:Env) (R:Type) (st:St) (k:Exit->St->oP R) (r:R),F R st k=some r->∀a w,JB E st a w->(Code.loop c).wp P (E6 E k r) a w
structure LpE(P:Program) where
 r:Nat
 c:Code
 L:N5
 t:St->Bool
 ok:Qc2 P c L
def Q8s:List (LpE P)->Nat->oP N5
 |[],_=>none
 |e::t,r=>bif Nat.beq e.r r then some e.L else Q8s t r
def Q8c(C:VC)(T:List (LpE P)):Code->St->(Exit->St->oP R)->oP R
 |.skip,st,k=>k .normal st
 |.region id ops aa,st,k=>Q1A C id ops aa st (k .normal)
 |.seq a b,st,k=>Q8c C T a st λe st'=>match e with
  |.normal=>Q8c C T b st' k
  |.exit id=>k (.exit id) st'
  |.ret=>k .ret st'
  |_=>none
 |.cond c a b,st,k=>match evO st.tm c with
  |.d (.bool e)=>bif e then Q8c C T a st k else Q8c C T b st k
  |_=>none
 |.block id c,st,k=>Q8c C T c st λe st'=>match e with
  |.normal=>k .normal st'
  |.exit j=>bif Nat.beq j id then k .normal st' else k (.exit j) st'
  |.ret=>k .ret st'
  |_=>none
 |.loop c,st,k=>match Q8s T (Q9l c)with
  |some L=>L R st k
  |none=>none
 |.exit id,st,k=>k (.exit id) st
 |.ret,st,k=>k .ret st
 |_,_,_=>none
def WP:Code->List (Nat×Code)
 |.seq a b=>WP a++WP b
 |.cond _ a b=>WP a++WP b
 |.block _ c=>WP c
 |.loop c=>[(Q9l c,c)]
 |_=>[]
def Qgf(T:List (LpE P))(ds:List (Nat×Code)):Prop:=∀r c,(r,c)∈ds->∀L,Q8s T r=some L->Qc2 P c L
def Mc(T:List (LpE P))(ds:List (Nat×Code)):List (Nat×Code):=ds.filter λd=>PL d.1 (T.map (·.r))
theorem Qad{T:List (LpE P)}{r:Nat}{L:N5}(h:Q8s T r=some L):PL r (T.map (·.r))=true:=by
 induction T with
 |nil=>cases h
 |cons e t ih=>
  grind[Q8s,Nat.beq,Nat.eq_of_beq_eq_true,PL,Nat.beq_refl]
theorem Be{T:List (LpE P)}{ds:List (Nat×Code)}(hn:Xm (T.map (·.r))=true)(h:Mc T ds=T.map λe=>(e.r,e.c)):Qgf T ds:=by
 intro r c hm L hL;have hm:(r,c)∈T.map λe=>(e.r,e.c):=by
  rw[<- h];exact List.mem_filter.2 ⟨hm,Qad hL⟩
 clear h;induction T with
 |nil=>cases hm
 |cons e t ih=>
  simp only[QpQ,Xm,QpD,QpK]at hn;simp only[QpQ,QpJ]at hm;simp only[Q8s]at hL;rcases hm with hm | hm
  ·injection hm with h1 h2
   subst h1 h2;simp only[Nat.beq_refl,QpI,Option.some.injEq]at hL;subst hL;exact e.ok
  ·cases hb:Nat.beq e.r r with
   |true=>
    have:=QpC hb;subst this;have ac:PL e.r (t.map (·.r))=true:=by
     have:∀(l:List (LpE P)),(e.r,c)∈l.map (λx=>(x.r,x.c))->PL e.r (l.map (·.r))=true:=by
      intro l;induction l with
      |nil=>simp_all
      |cons x xs ai=>
       intro h;simp only[QpQ,QpJ]at h
       grind[PL,Nat.beq_refl]
     simp_all
    simp_all
   |false=>
    simp_all
theorem Mz{C:VC}(hC:VCOk P C){T:List (LpE P)}:∀(c:Code),Qgf T (WP c)->∀(st:St) (k:Exit->St->oP R) (r:R),Q8c C T c st k=some r->∀a w,JB E st a w->c.wp P (E6 E k r) a w:=by
 intro c;induction c with
 |skip=>intro _ st k r h a w hR;exact wp_skip ⟨st,hR,h⟩
 |region id ops ao=>
  intro _ st k r h a w hR;exact Fl hC h hR λst' a' w' aa hk=>⟨st',aa,hk⟩
 |seq x y am ai=>
  intro hT st k r h a w hR;refine wp_seq (wp_mono (am (λr c hm=>hT r c (List.mem_append_left _ hm)) st _ r h a w hR) λe a' w' hp=>?_);obtain⟨st',aa,hk⟩:=hp;cases e with
  |normal=>exact ai (λr c hm=>hT r c (List.mem_append_right _ hm)) st' k r hk a' w' aa
  |exit id=>exact⟨st',aa,hk⟩
  |ret=>exact⟨st',aa,hk⟩
  |_=>cases hk
 |cond c x y am ai=>
  intro hT st k r h a w hR;simp only[Q8c]at h;split at h
  ·rename_i e he;obtain⟨β,S,ak⟩:=hR;have hv:=(he▸Q4X ak c).bool_inv;refine wp_cond hv ?_;cases e with
   |true=>exact am (λr c hm=>hT r c (List.mem_append_left _ hm)) st k r (by simpa using h) a w ⟨β,S,ak⟩
   |false=>exact ai (λr c hm=>hT r c (List.mem_append_right _ hm)) st k r (by simpa using h) a w ⟨β,S,ak⟩
  ·cases h
 |block id c ih=>
  intro hT st k r h a w hR;refine wp_block (wp_mono (ih hT st _ r h a w hR) λe a' w' hp=>?_);obtain⟨st',aa,hk⟩:=hp;cases e with
  |normal=>exact⟨st',aa,hk⟩
  |exit j=>
   cases hb:Nat.beq j id with
   |true=>
    simp only[hb,QpI]at hk;have:=QpC hb;simp only[Exit.inBlock,this,if_true];exact⟨st',aa,hk⟩
   |false=>
    simp only[hb,QpT]at hk;have an:¬ j=id:=λe=>by simp_all
    simp only[Exit.inBlock,an,if_false];exact⟨st',aa,hk⟩
  |ret=>exact⟨st',aa,hk⟩
  |_=>cases hk
 |loop c ih=>
  intro hT st k r h a w hR;simp only[Q8c]at h;split at h
  ·rename_i L hL;exact hT _ c (by simp[WP]) L hL E _ st k r h a w hR
  ·cases h
 |exit id=>intro _ st k r h a w hR;exact wp_exit ⟨st,hR,h⟩
 |ret=>intro _ st k r h a w hR;exact wp_ret ⟨st,hR,h⟩
 |_=>grind[Q8c]
def lpK(F:N5)(k:Exit->St->oP R):Exit->St->oP R:=λe st=>match e with
 |.normal=>F R st k
 |.exit id=>k (.exit id) st
 |.ret=>k .ret st
 |_=>none
theorem Q4q{c:Code}(F:Nat->N5)(h0:∀(R:Type) st (k:Exit->St->oP R),F 0 R st k=none)(hs:∀(m:Nat) (E:Env) (R:Type) st (k:Exit->St->oP R) r,F (m+1) R st k=some r->∀a w,JB E st a w->c.wp P (E6 E (lpK (F m) k) r) a w) :
  ∀(m:Nat) (E:Env) (R:Type) (st:St) (k:Exit->St->oP R) (r:R),F m R st k=some r->∀a w,JB E st a w->Code.rounds P c (E6 E k r) m a w
 |0,E,R,st,k,r,h=>by rw[h0]at h;cases h
 |m+1,E,R,st,k,r,h=>by
  intro a w hR;rw[rounds_succ];refine wp_mono (hs m E R st k r h a w hR) λe a' w' ⟨st',aa,hk⟩=>?_
  cases e with
  |normal=>exact Q4q F h0 hs m E R st' k r hk a' w' aa
  |exit id=>exact⟨st',aa,hk⟩
  |ret=>exact⟨st',aa,hk⟩
  |_=>cases hk
end
inductive LT where
 |I | B | T | L | R | D | N | M | P
abbrev yI:LT:=.I
abbrev yB:LT:=.B
abbrev yT:LT:=.T
abbrev yL:LT:=.L
abbrev yR:LT:=.R
abbrev yD:LT:=.D
abbrev yN:LT:=.N
abbrev yM:LT:=.M
abbrev yP:LT:=.P
inductive Lf where
 |I (x:Int)
 |B (x:Bool)
 |T (x:List UInt8)
 |L (x:List (List D))
 |R (x:List D)
 |D (x:Vx.D)
 |N (x:Nat)
 |M (x:Int->List (List Vx.D))
 |P (x:Int->Bool)
def LT.ty:LT->Type
 |.I=>Int
 |.B=>Bool
 |.T=>List UInt8
 |.L=>List (List Vx.D)
 |.R=>List Vx.D
 |.D=>Vx.D
 |.N=>Nat
 |.M=>Int->List (List Vx.D)
 |.P=>Int->Bool
def HL:List LT->Type
 |[]=>Unit
 |t::ts=>t.ty×HL ts
def LF:List LT->Type->Type
 |[],α=>α
 |t::ts,α=>t.ty->LF ts α
def Qbf:(t:LT)->t.ty->Lf
 |.I,x=>.I x
 |.B,x=>.B x
 |.T,x=>.T x
 |.L,x=>.L x
 |.R,x=>.R x
 |.D,x=>.D x
 |.N,x=>.N x
 |.M,x=>.M x
 |.P,x=>.P x
def toL:(ts:List LT)->HL ts->List Lf
 |[],_=>[]
 |t::ts,v=>Qbf t v.1::toL ts v.2
def apH{α:Type}:(ts:List LT)->LF ts α->HL ts->α
 |[],f,_=>f
 |_::ts,f,v=>apH ts (f v.1) v.2
def Q8I:(t:LT)->Lf->oP t.ty
 |.I,.I x=>some x
 |.B,.B x=>some x
 |.T,.T x=>some x
 |.L,.L x=>some x
 |.R,.R x=>some x
 |.D,.D x=>some x
 |.N,.N x=>some x
 |.M,.M x=>some x
 |.P,.P x=>some x
 |_,_=>none
def apL{α:Type}:(ts:List LT)->LF ts (oP α)->List Lf->oP α
 |[],f,l=>match l with
  |[]=>f
  |_::_=>none
 |t::ts,f,l=>match l with
  |[]=>none
  |x::r=>match Q8I t x with
   |some v=>apL ts (f v) r
   |none=>none
theorem NA{t:LT}{x:Lf}{v:t.ty}(h:Q8I t x=some v):x=Qbf t v:=by
 cases t<;>cases x<;>first | (injection h with h;subst h;rfl) | cases h
theorem Mx{α:Type}(ts:List LT):∀(f:LF ts (oP α)) (l:List Lf) (r:α),apL ts f l=some r->∃v:HL ts,apH ts f v=some r/\l=toL ts v:=by
 induction ts with
 |nil=>
  intro f l r h;cases l with
  |nil=>exact⟨(),h,rfl⟩
  |cons x l=>cases h
 |cons t ts ih=>
  intro f l r h;cases l with
  |nil=>cases h
  |cons x l=>
   replace h:(match Q8I t x with | some v=>apL ts (f v) l | none=>none)=some r:=h
   split at h
   ·rename_i v hv;obtain⟨u,h1,h2⟩:=ih (f v) l r h;exact⟨(v,u),h1,by rw[NA hv,h2];rfl⟩
   ·cases h
inductive TA where
 |top | nil
 |i (k:IntKind) | b | t | l (s:Nat) | x
 |ci (k:IntKind) (n:Int) | cb (v:Bool) | ct (s:List UInt8) | cl (s:Nat)
 |ag (l:List TA) | tup (l:List TA) | fn (f:Nat) (l:List TA)
 |ptr (l off:Nat) | arr (l:Nat) | sa (l t:Nat)
 |el (off:Nat) | ap (l off:Nat) | ac (l i off:Nat)
 |fs (s:Nat) | mpd
 |gd (t:Nat) (w:Bool) (a:TA)
def KL:List UInt8->List UInt8->Bool
 |[],[]=>true
 |a::r,b::s=>Nat.beq a.toNat b.toNat&&KL r s
 |_,_=>false
theorem J7:∀{a b:List UInt8},KL a b=true->a=b
 |[],[],_=>rfl
 |x::r,y::s,h=>by
  simp only[KL,QpD]at h;rw[UInt8.toNat_inj.1 (QpC h.1),J7 h.2]
 |[],_::_,h=>by simp[KL]at h
 |_::_,[],h=>by simp[KL]at h
def oB{α:Type}(c:Bool)(x:α):oP α:=bif c then some x else none
theorem VJ{α:Type}{c:Bool}{x y:α}(h:oB c x=some y):c=true/\x=y:=by
 cases c with
 |true=>injection h with h;simp_all
 |false=>cases h
mutual
def rdT:TA->AV->List Lf->oP (List Lf)
 |.top,.top,acc=>some acc
 |.nil,.nil,acc=>some acc
 |.i k,.d (.int k' n),acc=>oB (k == k') (.I n::acc)
 |.b,.d (.bool v),acc=>some (.B v::acc)
 |.t,.d (.str s),acc=>some (.T s::acc)
 |.l s,.d (.sl s' r),acc=>oB (Nat.beq s s') (.L r::acc)
 |.x,.d d,acc=>some (.D d::acc)
 |.ci k n,.d (.int k' n'),acc=>oB (k == k'&&decide (n=n')) acc
 |.cb v,.d (.bool v'),acc=>oB (v == v') acc
 |.ct s,.d (.str s'),acc=>oB (KL s s') acc
 |.cl s,.d (.sl s' []),acc=>oB (Nat.beq s s') acc
 |.ag l,.ag l',acc=>Qbc l l' acc
 |.tup l,.tup l',acc=>Qbc l l' acc
 |.fn f l,.fn f' l',acc=>bif Nat.beq f f' then Qbc l l' acc else none
 |.ptr l o,.ptr l' o',acc=>oB (Nat.beq l l'&&Nat.beq o o') acc
 |.arr l,.arr l',acc=>oB (Nat.beq l l') acc
 |.sa l o,.sa l' o',acc=>oB (Nat.beq l l'&&Nat.beq o o') acc
 |.el o,.el r o',acc=>oB (Nat.beq o o') (.R r::acc)
 |.ap l o,.ap l' i o',acc=>oB (Nat.beq l l'&&Nat.beq o o') (.N i::acc)
 |.ac l i o,.ap l' i' o',acc=>oB (Nat.beq l l'&&Nat.beq i i'&&Nat.beq o o') acc
 |.fs s,.fs s' r,acc=>oB (Nat.beq s s') (.L r::acc)
 |.mpd,.mpd f,acc=>some (.M f::acc)
 |.gd t w a,.gd t' w' a',acc=>bif Nat.beq t t'&&(w == w')then rdT a a' acc else none
 |_,_,_=>none
def Qbc:List TA->List AV->List Lf->oP (List Lf)
 |[],[],acc=>some acc
 |a::r,a'::r',acc=>match Qbc r r' acc with
  |some aa=>rdT a a' aa
  |none=>none
 |_,_,_=>none
end
mutual
def fiT:TA->List Lf->AV×List Lf
 |.i k,.I n::r=>(.d (.int k n),r)
 |.b,.B v::r=>(.d (.bool v),r)
 |.t,.T s::r=>(.d (.str s),r)
 |.l s,.L x::r=>(.d (.sl s x),r)
 |.x,.D d::r=>(.d d,r)
 |.ci k n,r=>(.d (.int k n),r)
 |.cb v,r=>(.d (.bool v),r)
 |.ct s,r=>(.d (.str s),r)
 |.cl s,r=>(.d (.sl s []),r)
 |.ag l,r=>(.ag (Q8i l r).1,(Q8i l r).2)
 |.tup l,r=>(.tup (Q8i l r).1,(Q8i l r).2)
 |.fn f l,r=>(.fn f (Q8i l r).1,(Q8i l r).2)
 |.ptr l o,r=>(.ptr l o,r)
 |.arr l,r=>(.arr l,r)
 |.sa l o,r=>(.sa l o,r)
 |.el o,.R x::r=>(.el x o,r)
 |.ap l o,.N i::r=>(.ap l i o,r)
 |.ac l i o,r=>(.ap l i o,r)
 |.fs s,.L x::r=>(.fs s x,r)
 |.mpd,.M f::r=>(.mpd f,r)
 |.gd t w a,r=>(.gd t w (fiT a r).1,(fiT a r).2)
 |.nil,r=>(.nil,r)
 |_,r=>(.top,r)
def Q8i:List TA->List Lf->List AV×List Lf
 |[],r=>([],r)
 |a::l,r=>((fiT a r).1::(Q8i l (fiT a r).2).1,(Q8i l (fiT a r).2).2)
end
mutual
theorem Q22:∀(ta:TA) (a:AV) (acc ls:List Lf),rdT ta a acc=some ls->fiT ta ls=(a,acc):=by
 intro ta a acc ls h;cases ta<;>cases a<;>try (simp only[rdT,reduceCtorEq]at h;done)
 case top.top=>simp only[rdT,Option.some.injEq]at h;subst h;simp[fiT]
 case nil.nil=>simp only[rdT,Option.some.injEq]at h;subst h;simp[fiT]
 case i.d k d=>
  cases d<;>try (simp only[rdT,reduceCtorEq]at h;done)
  simp only[rdT]at h;obtain⟨h1,rfl⟩:=VJ h;rw[<- eq_of_beq h1];rfl
 case b.d d=>
  cases d<;>try (simp only[rdT,reduceCtorEq]at h;done)
  simp only[rdT,Option.some.injEq]at h;subst h;rfl
 case t.d d=>
  cases d<;>try (simp only[rdT,reduceCtorEq]at h;done)
  simp only[rdT,Option.some.injEq]at h;subst h;rfl
 case l.d s d=>
  cases d<;>try (simp only[rdT,reduceCtorEq]at h;done)
  simp only[rdT]at h;obtain⟨h1,rfl⟩:=VJ h;rw[<- QpC h1];rfl
 case x.d d=>simp only[rdT,Option.some.injEq]at h;subst h;rfl
 case ci.d k n d=>
  cases d<;>try (simp only[rdT,reduceCtorEq]at h;done)
  simp only[rdT]at h;obtain⟨h1,rfl⟩:=VJ h;simp only[QpD,decide_eq_true_eq]at h1;rw[<- eq_of_beq h1.1,<- h1.2];simp[fiT]
 case cb.d v d=>
  cases d<;>try (simp only[rdT,reduceCtorEq]at h;done)
  simp only[rdT]at h;obtain⟨h1,rfl⟩:=VJ h;rw[<- eq_of_beq h1];simp[fiT]
 case ct.d s d=>
  cases d<;>try (simp only[rdT,reduceCtorEq]at h;done)
  simp only[rdT]at h;obtain⟨h1,rfl⟩:=VJ h;rw[<- J7 h1];simp[fiT]
 case cl.d s d=>
  cases d<;>try (simp only[rdT,reduceCtorEq]at h;done)
  rename_i s' rows;cases rows<;>try (simp only[rdT,reduceCtorEq]at h;done)
  simp only[rdT]at h;obtain⟨h1,rfl⟩:=VJ h;rw[<- QpC h1];simp[fiT]
 case ag.ag l l'=>simp only[rdT]at h;have:=NO l l' acc ls h;simp[fiT,this]
 case tup.tup l l'=>simp only[rdT]at h;have:=NO l l' acc ls h;simp[fiT,this]
 case fn.fn f l f' l'=>
  simp only[rdT]at h;obtain⟨h1,h⟩:=Xl h;have:=NO l l' acc ls h;rw[<- QpC h1];simp[fiT,this]
 case ptr.ptr=>
  simp only[rdT]at h;obtain⟨h1,rfl⟩:=VJ h;simp only[QpD]at h1;rw[<- QpC h1.1,<- QpC h1.2];simp[fiT]
 case arr.arr=>
  simp only[rdT]at h;obtain⟨h1,rfl⟩:=VJ h;rw[<- QpC h1];simp[fiT]
 case sa.sa=>
  simp only[rdT]at h;obtain⟨h1,rfl⟩:=VJ h;simp only[QpD]at h1;rw[<- QpC h1.1,<- QpC h1.2];simp[fiT]
 case el.el=>
  simp only[rdT]at h;obtain⟨h1,rfl⟩:=VJ h;rw[<- QpC h1];rfl
 case ap.ap=>
  simp only[rdT]at h;obtain⟨h1,rfl⟩:=VJ h;simp only[QpD]at h1;rw[<- QpC h1.1,<- QpC h1.2];rfl
 case ac.ap=>
  simp only[rdT]at h;obtain⟨h1,rfl⟩:=VJ h;simp only[QpD]at h1;rw[<- QpC h1.1.1,<- QpC h1.1.2,<- QpC h1.2];simp[fiT]
 case fs.fs=>
  simp only[rdT]at h;obtain⟨h1,rfl⟩:=VJ h;rw[<- QpC h1];rfl
 case mpd.mpd=>simp only[rdT,Option.some.injEq]at h;subst h;rfl
 case gd.gd ti w a ti' w' a'=>
  simp only[rdT]at h;obtain⟨h1,h⟩:=Xl h;simp only[QpD]at h1;have:=Q22 a a' acc ls h;rw[<- QpC h1.1,<- eq_of_beq h1.2];simp[fiT,this]
theorem NO:∀(ta:List TA) (a:List AV) (acc ls:List Lf),Qbc ta a acc=some ls->Q8i ta ls=(a,acc):=by
 intro ta a acc ls h
 match ta,a,h with
 |[],[],h=>simp only[Qbc,Option.some.injEq]at h;subst h;simp[Q8i]
 |ta::ts,a::as,h=>
  simp only[Qbc]at h;split at h
  ·rename_i aa ha;have h1:=Q22 ta a aa ls h;have h2:=NO ts as acc aa ha;simp[Q8i,h1,h2]
  ·cases h
 |[],_::_,h=>simp[Qbc]at h
 |_::_,[],h=>simp[Qbc]at h
end
abbrev tI:TA:=.i .i64
inductive TO where
 |box (l:List TA)
 |arr (e s:Nat)
 |arc (e s:Nat)
 |mp (t:Nat)
structure TS where
 n:Nat
 tm:List (Nat×TA)
 h:List (Nat×TO)
def rdO:TO->Ob->List Lf->oP (List Lf)
 |.box l,.box l',acc=>Qbc l l' acc
 |.arr e s,.arr e' s' r,acc=>oB (Nat.beq e e'&&Nat.beq s s') (.L r::acc)
 |.arc e s,.arr e' s' [],acc=>oB (Nat.beq e e'&&Nat.beq s s') acc
 |.mp e,.mp e' f,acc=>oB (Nat.beq e e') (.P f::acc)
 |_,_,_=>none
def fiO:TO->List Lf->Ob×List Lf
 |.box l,r=>(.box (Q8i l r).1,(Q8i l r).2)
 |.arr e s,.L x::r=>(.arr e s x,r)
 |.arr e s,r=>(.arr e s [],r)
 |.arc e s,r=>(.arr e s [],r)
 |.mp e,.P x::r=>(.mp e x,r)
 |.mp e,r=>(.mp e λ_=>false,r)
def rdM:List (Nat×TA)->List (Nat×AV)->List Lf->oP (List Lf)
 |[],[],acc=>some acc
 |(i,a)::r,(j,b)::s,acc=>bif Nat.beq i j then match rdM r s acc with
  |some aa=>rdT a b aa
  |none=>none
  else none
 |_,_,_=>none
def fiM:List (Nat×TA)->List Lf->List (Nat×AV)×List Lf
 |[],r=>([],r)
 |(i,a)::l,r=>((i,(fiT a r).1)::(fiM l (fiT a r).2).1,(fiM l (fiT a r).2).2)
def rdH:List (Nat×TO)->List (Nat×Ob)->List Lf->oP (List Lf)
 |[],[],acc=>some acc
 |(i,a)::r,(j,b)::s,acc=>bif Nat.beq i j then match rdH r s acc with
  |some aa=>rdO a b aa
  |none=>none
  else none
 |_,_,_=>none
def fiH:List (Nat×TO)->List Lf->List (Nat×Ob)×List Lf
 |[],r=>([],r)
 |(i,a)::l,r=>((i,(fiO a r).1)::(fiH l (fiO a r).2).1,(fiH l (fiO a r).2).2)
def rdS(Z:TS)(st:St):oP (List Lf):=bif Nat.beq Z.n st.n then match rdH Z.h st.h []with
  |some acc=>rdM Z.tm st.tm acc
  |none=>none
 else none
def fiS(Z:TS)(l:List Lf):St:=⟨Z.n,(fiM Z.tm l).1,(fiH Z.h (fiM Z.tm l).2).1⟩
theorem Qch{z:TO}{o:Ob}{acc ls:List Lf}(h:rdO z o acc=some ls):fiO z ls=(o,acc):=by
 cases z<;>cases o<;>try (simp only[rdO,reduceCtorEq]at h;done)
 case box.box=>simp only[rdO]at h;simp[fiO,NO _ _ _ _ h]
 case arr.arr=>
  simp only[rdO]at h;obtain⟨h1,rfl⟩:=VJ h;simp only[QpD]at h1;rw[<- QpC h1.1,<- QpC h1.2];rfl
 case arc.arr e s e' s' r=>
  cases r<;>try (simp only[rdO,reduceCtorEq]at h;done)
  simp only[rdO]at h;obtain⟨h1,rfl⟩:=VJ h;simp only[QpD]at h1;rw[<- QpC h1.1,<- QpC h1.2];simp[fiO]
 case mp.mp=>
  simp only[rdO]at h;obtain⟨h1,rfl⟩:=VJ h;rw[<- QpC h1];rfl
theorem Q76:∀{z:List (Nat×TA)} {l:List (Nat×AV)} {acc ls:List Lf},rdM z l acc=some ls->fiM z ls=(l,acc)
 |[],[],acc,ls,h=>by simp only[rdM,Option.some.injEq]at h;subst h;rfl
 |(i,a)::r,(j,b)::s,acc,ls,h=>by
  simp only[rdM]at h;obtain⟨h1,h⟩:=Xl h;split at h
  ·rename_i aa ha;simp[fiM,Q22 _ _ _ _ h,Q76 ha,QpC h1]
  ·cases h
 |[],_::_,_,_,h=>by simp[rdM]at h
 |_::_,[],_,_,h=>by simp[rdM]at h
theorem Q6N:∀{z:List (Nat×TO)} {l:List (Nat×Ob)} {acc ls:List Lf},rdH z l acc=some ls->fiH z ls=(l,acc)
 |[],[],acc,ls,h=>by simp only[rdH,Option.some.injEq]at h;subst h;rfl
 |(i,a)::r,(j,b)::s,acc,ls,h=>by
  simp only[rdH]at h;obtain⟨h1,h⟩:=Xl h;split at h
  ·rename_i aa ha;simp[fiH,Qch h,Q6N ha,QpC h1]
  ·cases h
 |[],_::_,_,_,h=>by simp[rdH]at h
 |_::_,[],_,_,h=>by simp[rdH]at h
theorem Ef{Z:TS}{st:St}{ls:List Lf}(h:rdS Z st=some ls):fiS Z ls=st:=by
 obtain⟨h1,h⟩:=Xl h;split at h
 ·rename_i acc ha;simp only[fiS,Q76 h,Q6N ha,QpC h1]
 ·cases h
def Lp(C:VC)(aa:Nat)(Z:TS)(ts:List LT)(f:(R:Type)->(Exit->St->oP R)->LF ts (oP R)):N5:=λR st k=>
 match rdS Z (Q15 C aa st)with
 |some ls=>apL ts (f R k) ls
 |none=>none
def mkL{P:Program}{C:VC}(hC:VCOk P C)(T:List (LpE P))(r:Nat)(c:Code)(Z:TS)(ts:List LT)(f:Nat->(R:Type)->(Exit->St->oP R)->LF ts (oP R))(m:Nat)(hr:Nat.beq r (Q9l c)=true:=by kernel_rfl)(hT:Mc T (WP c)=T.map λe=>(e.r,e.c):=by kernel_rfl)(hn:Xm (T.map (·.r))=true:=by rfl)(h0:∀R k v,apH ts (f 0 R k) v=none:=by intro R k v;rfl)(hs:∀m R k v,apH ts (f (m+1) R k) v=Q8c C T c (fiS Z (toL ts v)) (lpK (Lp C (3000000000+r) Z ts (f m)) k):=by intro m R k v;kernel_rfl):LpE P where
 r:=r
 c:=c
 L:=Lp C (3000000000+r) Z ts (f m)
 t:=λst=>(rdS Z (Q15 C (3000000000+r) st)).isSome
 ok:=by
  have hr:=QpC hr;have hT:=Be hn hT;intro E R st k x h a w hR;refine wp_loop_rounds m (Q4q (λm=>Lp C (3000000000+r) Z ts (f m)) (λR st k=>?_) (λm E R st k x h a w hR=>?_) m E R st k x h a w hR)
  ·show Lp C (3000000000+r) Z ts (f 0) R st k=none;cases hx:Lp C (3000000000+r) Z ts (f 0) R st k with
   |none=>rfl
   |some x=>
    unfold Lp at hx;split at hx
    ·obtain⟨v,hv,_⟩:=Mx _ _ _ _ hx;rw[h0]at hv;cases hv
    ·cases hx
  ·replace h:Lp C (3000000000+r) Z ts (f (m+1)) R st k=some x:=h
   unfold Lp at h;split at h
   ·rename_i ls ai;obtain⟨v,hv,rfl⟩:=Mx _ _ _ _ h;rw[hs,Ef ai]at hv;refine Mz hC c hT _ _ x hv a w ?_;unfold Q15;split
    ·exact P3 _ hR
    ·exact hR
   ·cases h
def orL{P:Program}(a b:LpE P)(hc:b.c=a.c:=by kernel_rfl):LpE P where
 r:=a.r
 c:=a.c
 L:=λR st k=>bif a.t st then a.L R st k else b.L R st k
 t:=λst=>a.t st||b.t st
 ok:=by
  intro E R st k r h
  replace h:(bif a.t st then a.L R st k else b.L R st k)=some r:=h
  cases ht:a.t st with
  |true=>rw[ht]at h;exact a.ok E R st k r h
  |false=>rw[ht]at h;rw[<- hc];exact b.ok E R st k r h
section
variable{P:Program} {R:Type}
def prM(hl:Nat->oP Ob)(e:Nat)(av:AV)(k:Nat->(Int->Bool)->oP R):oP R:=
 match av with
 |.arr l=>match hl l with
  |some (.mp e' f)=>bif Nat.beq e' e then k l f else none
  |_=>none
 |_=>none
theorem QhJ{hl:Nat->oP Ob}{e:Nat}{av:AV}{k:Nat->(Int->Bool)->oP R}{r:R}(h:prM hl e av k=some r):∃l f,k l f=some r/\av = .arr l/\hl l=some (.mp e f):=by
 unfold prM at h
 grind[Nat.eq_of_beq_eq_true]
def prN(av:AV)(k:oP R):oP R:=
 match av with
 |.nil=>k
 |_=>none
theorem QhO{av:AV}{k:oP R}{r:R}(h:prN av k=some r):k=some r/\av = .nil:=by
 grind[prN]
def vfnT(C:VC)(T:List (LpE P))(fn:Func)(args:List AV)(h:List (Nat×Ob))(k:AV->List (Nat×Ob)->oP R):oP R:=
 bif fn.body.isSome&&(Nat.ble args.length fn.ntmps&&Kf args)then Q8c C T (V7 fn) { n:=fn.ntmps,tm:=Q2m 0 args,h:=h } (fnK C.tt fn k)else none
theorem MM{C:VC}(hC:VCOk P C){T:List (LpE P)}{f:Nat}{fn:Func}(hf:P.funcs[f]? = some fn)(hT:Mc T (WP (V7 fn))=T.map λe=>(e.r,e.c))(hn:Xm (T.map (·.r))=true){args:List AV}{H:List (Nat×Ob)}{k:AV->List (Nat×Ob)->oP R}{r:R}(h:vfnT C T fn args H k=some r)(β:Nat->oP Nat)(S:Nat->Prop)(w:World)(vs:List Value)(hO:Objs β S (look H) w)(hA:ArgsRd β S (look H) w vs args):Calls P f vs.toArray w (Nc H k r β S w):=by
 obtain⟨hb,h⟩:=Xl h;simp only[QpD]at hb;obtain⟨c,hc⟩:=QpS.1 hb.1;have aa:V7 fn=c:=by grind[V7]
 rw[aa]at h hT;exact Q1N hC hf hc Q4 (λa hR=>Mz hC c (Be hn hT) _ _ r h a w ⟨β,S,hR⟩) hO hA
theorem QbY {α:Type} {K:AV->oP α} {res:α} {C:VC} (hC:VCOk P C) (T:List (LpE P)) {f:Nat} {fn:Func} {ss:List (List Nat)} {avs:List AV} {av:AV} {hl:Nat->oP Ob} {rd:List Nat}
  (h : vfnT C T fn avs [] (retF ss K) = some res) (hK : ∀x, K x = some res -> x = av) (hf : P.funcs[f]? = some fn := by kernel_rfl) (hb : fn.body.isSome = true := by kernel_rfl) (hn : (fn.name == "runtime.NumGoroutine") = false := by kernel_rfl) (hlf : lfL avs = true := by rfl)
  (hT:Mc T (WP (V7 fn))=T.map λe=>(e.r,e.c):=by kernel_rfl) (hn2:Xm (T.map (·.r))=true:=by rfl):ZX P f avs hl ⟨av,[],rd⟩:=
 Q5s hf hb hn hlf (MM hC hf hT hn2 h) hK
theorem QhI {α:Type} {K:AV->List (Nat×Ob)->oP α} {res:α} {C:VC} (hC:VCOk P C) (T:List (LpE P)) {f:Nat} {fn:Func}
  {ρ ν:List (Nat×Nat)} {avs avs':List AV} {H:List (Nat×Ob)} {hl:Nat->oP Ob} {dl:Dl}
  (hc:N9 hl ρ ν=true) (hin:QgB hl H ρ)
  (h:vfnT C T fn avs' H K=some res)
  (hK:∀av H',K av H'=some res->U8 (ρ++ν) av=dl.v/\MN (ρ++ν) H' (ρ++ν)=dl.wr/\QcK H' (ρ++ν)/\QfV H H' ρ)
  (hf : P.funcs[f]? = some fn := by kernel_rfl) (hb : fn.body.isSome = true := by kernel_rfl) (hn : (fn.name == "runtime.NumGoroutine") = false := by kernel_rfl)
  (hav:avs=avs'.map (U8 ρ):=by rfl) (hargs:Cb ρ avs'=true:=by rfl) (h1:Xm ((ρ++ν).map (·.1))=true:=by rfl) (hρ:Xm (ρ.map (·.1))=true:=by rfl) (hkeys:H.map (·.1)=ρ.map (·.1):=by rfl) (hwl:wrL dl=(ρ++ν).map (·.2):=by rfl)
  (hT:Mc T (WP (V7 fn))=T.map λe=>(e.r,e.c):=by kernel_rfl) (hn2:Xm (T.map (·.r))=true:=by rfl):ZX P f avs hl dl:=
 AX hf hb hn hav hargs h1 hρ hc hin hkeys hwl (MM hC hf hT hn2 h) hK
theorem Qjj {α:Type} {K:AV->List (Nat×Ob)->oP α} {res:α} {C:VC} (hC:VCOk P C) (T:List (LpE P)) {f:Nat} {fn:Func}
  {ρ ν:List (Nat×Nat)} {avs avs':List AV} {H:List (Nat×Ob)} {hl:Nat->oP Ob} {dl:Dl}
  (hav:CLeL ρ avs avs') (hc:N9 hl ρ ν=true) (hin:Qgu ρ hl H ρ)
  (h:vfnT C T fn avs' H K=some res)
  (hK:∀av H',K av H'=some res->U8 (ρ++ν) av=dl.v/\MN (ρ++ν) H' (ρ++ν)=dl.wr/\QcK H' ν/\QgI H H' ρ)
  (hf : P.funcs[f]? = some fn := by kernel_rfl) (hb : fn.body.isSome = true := by kernel_rfl) (hn : (fn.name == "runtime.NumGoroutine") = false := by kernel_rfl)
  (h1:Xm ((ρ++ν).map (·.1))=true:=by rfl) (hρ:Xm (ρ.map (·.1))=true:=by rfl) (hkeys:H.map (·.1)=ρ.map (·.1):=by rfl) (hwl:wrL dl=(ρ++ν).map (·.2):=by rfl)
  (hT:Mc T (WP (V7 fn))=T.map λe=>(e.r,e.c):=by kernel_rfl) (hn2:Xm (T.map (·.r))=true:=by rfl):ZX P f avs hl dl:=
 Q1w hf hb hn hav h1 hρ hc hin hkeys hwl (MM hC hf hT hn2 h) hK
theorem lawT{C:VC}(hC:VCOk P C)(T:List (LpE P)){f:Nat}{fn:Func}(hf:P.funcs[f]? = some fn){ss:List (List Nat)}{K:AV->oP Bool}(hK:∀x,K x=some true->x = .d (.bool true)){aa:List AV}{args:List Value}{w:World}(hA:ArgsRd (λ_=>none) (SW w) (look ([]:List (Nat×Ob))) w args aa)(h:vfnT C T fn aa [] (retF ss K)=some true)(hT:Mc T (WP (V7 fn))=T.map λe=>(e.r,e.c):=by kernel_rfl)(ac:Xm (T.map (·.r))=true:=by rfl) :
  Calls P f args.toArray w λe w'=>e = .returned (.bool true)/\RowKit.Below w.heap.size w w':=
 Q9a hK hA (MM hC hf hT ac h)
end
end Go.Vx
