/- Part of a proof. No conditions of their own. -/
import Derived.Test.YtpamppmacgcedaaGreatTA
import Derived.Lib.AppendZeros
import Derived.LoopN
import Derived.ProofKit
import Derived.ChangeOld
import Derived.Carry
import Derived.ChangeArms
import Derived.WideShapes
import Derived.IntWalk
import Derived.KernelRfl
set_option linter.unusedVariables false
set_option linter.unusedSimpArgs false
noncomputable section
abbrev QiO:=@Nat.eq_of_beq_eq_true
abbrev QiP:=@Bool.and_eq_true
abbrev QiQ:=@Option.map_eq_some_iff
abbrev QiR:=@List.getElem?_eq_some_iff
abbrev QiS:=@List.getElem?_eq_getElem
abbrev QiT:=@Go.Result.andThen_ok
abbrev QiU:=@List.mem_cons
abbrev QiV:=@cond_true
abbrev QiW:=@Bool.not_eq_true'
abbrev QiX:=@Go.Sem.run_bind
abbrev QiY:=@List.map_cons
abbrev QiZ:=@Array.getElem?_eq_some_iff
abbrev Qj0:=@Bool.or_eq_false_iff
abbrev Qj1:=@List.mem_cons_of_mem
abbrev Qj2:=@List.getElem?_drop
abbrev Qj3:=@Bool.or_eq_true
abbrev Qj4:=@Nat.zero_add
abbrev Qj5:=@Array.getElem?_eq_getElem
abbrev Qj6:=@List.mem_cons_self
abbrev Qj7:=@Option.isSome_iff_exists
abbrev Qj8:=@cond_false
abbrev Qj9:=@if_neg
abbrev Qja:=@List.mem_map
abbrev Qjb:=@Array.getElem?_toList
abbrev Qjc:=@List.mem_append_left
abbrev Qjd:=@List.getElem?_eq_none
abbrev Qje:=@Nat.beq_refl
abbrev Qjf:=@Nat.le_of_ble_eq_true
namespace Go.Vx
section
variable {P:Program} {E:Env} {R:Type}
theorem Q37 {tt:TT} (hT:TOk P tt) {o:Oper} {c:Call} {s x:Operand} {t tn:Nat} (ho:o.op = .call c) (ax:c.callee = .builtin .append) (ha:c.args.toList=[s,x]) (hat:c.argTypes.toList=[t,tn]) {g:Bool} {ak:Nat} {ev:Operand->AV} {hl:Nat->Option Ob} {k:Dl->Option R} {r:R}
  (h:Q1S tt hl ak g t tn (ev s) (ev x) k=some r):∃ dl,k dl=some r/\(g=true->Ks P E o ev hl dl):=by
 have an:c.args = #[s,x]:=by grind
 have a9:c.argTypes = #[t,tn]:=by grind
 have bp:s∈o.op.operands.toList:=by grind [Op.operands,Call.operands]
 have bk:x∈o.op.operands.toList:=by simp [ho,Op.operands,Call.operands,ax,an]
 unfold Q1S at h;split at h
 case h_2=>cases h
 rename_i e aq kn kx n hk bd bm bu;split at h
 case h_2=>cases h
 rename_i ei ao;cases hc:(Nat.ble 1 ei.bytes&&Nat.beq (NV tt e).length aq) with
 |false=>simp_all
 |true=>
  simp only [hc,QiV] at h;simp only [QiP] at hc;have ar:=Qjf hc.1;have ay:=QiO hc.2;have bq:NV tt e=ei.zd:=by simp [NV,ao]
  rw [bq] at ay h;obtain ⟨_,h,a1⟩:=Qm h;obtain ⟨_,h,ac⟩:=Qm h;obtain ⟨hn,h⟩:=Vf h;refine ⟨_,h,fun hg=>?_⟩;have ac:=NR (ac hg);have a1:0<n:=by
   have:=a1 hg;cases hd:decide (0<n) with
   |true=>simpa using hd
   |false=>simp [hd] at this
  obtain ⟨ti,br,bl⟩:=XJ hk (by simp);obtain ⟨hu,b2,inf,aw,a3⟩:=(hT t ti br).ksl _ _ bl;obtain ⟨bn,bc,bb⟩:=XJ bd (by simp);have bv:=(hT tn bn bc).kint _ bb;obtain ⟨bz,aj,a6,bh,z,hz,a8⟩:=(hT e ei ao).inf;rw [aw] at aj;injection aj with aj
  subst aj;have al:z.cells.size=aq:=by rw [<- Array.length_toList,a8,(hT e ei ao).zlen,<- a6,a3]
  obtain ⟨m,rfl⟩:=Int.eq_ofNat_of_zero_le (Int.le_of_lt a1);have bg:0<m:=by omega
  simp only [Int.toNat_natCast] at ac h ⊢;have b3:m<=140737488355328:=Nat.le_trans (by have:=Nat.mul_le_mul_left m ar;omega) ac;intro β S st a w hR hO hA bx K Q hK;have a4:look st.h ak=none:=by rw [hA ak (.inr (by simp [wrL]))];exact hn
  have bi:UQ st ak=true:=by simpa [WD,a4] using bx
  have hv:=(bm▸hO.at bp).nil_inv;have hx:=(bu▸hO.at bk).int_inv;have a7:=Lib.run_append_nil_zeros (P:=P) w t tn o.type e inf z kx kn hu bv aw hz m bg (by omega) (by omega) (by rw [bh];omega);have az:(execOp a.eval o).run P w = .ok (.value (.slice (some ⟨w.heap.size,0,none⟩) m (grownCap w m 0 e))) (w.drew.alloc (.cells (Builtin.zeroCells z.cells m++Builtin.zeroCells z.cells (grownCap w m 0 e-m)) e)):=by
   unfold execOp;rw [ho];simp only [resolve,ax,an,a9,invoke,builtin,QiX,Sem.run_pure,QiT,List.map_toArray,QiY,List.map_nil,hv,hx,a7]
  unfold Oper.wp;rw [az];refine hK _ _ ?_;have base:Vj S w (Builtin.zeroCells z.cells m) z.cells.size (List.replicate m ei.zd):=
   Vj.zero (by rw [ay,al]) (QcV hT ao (by rw [ay,<- a6,a3]) a8) (Nat.le_refl _)
  rw [al] at base;have bo:=grownCap_ge w m 0 e;have bj:grownCap w m 0 e<=maxLen:=grownCap_le_maxLen w m 0 e (by unfold maxLen;omega);have au:(Builtin.zeroCells z.cells m).toList.length=m*aq:=by rw [Array.length_toList,size_zeroCells,al]
  have ba:(w.drew.alloc (.cells (Builtin.zeroCells z.cells m++Builtin.zeroCells z.cells (grownCap w m 0 e-m)) e)).ownsRow w.heap.size e aq (.slice (some ⟨w.heap.size,0,none⟩) m (grownCap w m 0 e)) m (Builtin.zeroCells z.cells m).toList:=by
   refine ⟨au,.inr ⟨w.heap.size,_,_,rfl,Nat.le_refl _,heap_alloc_new w.drew _,bo,bj,?_,?_⟩⟩
   ·simp only [Array.size_append,size_zeroCells,al,<- Nat.add_mul];congr 1;omega
   ·rw [Array.toList_append,<- au];exact List.take_left
  have:=Rb (w':=w.drew.alloc (.cells (Builtin.zeroCells z.cells m++Builtin.zeroCells z.cells (grownCap w m 0 e-m)) e)) (base:=w.heap.size) (e:=e) (rows:=[]) (news:=List.replicate m ei.zd) (v:=.slice none 0 0) (xs:=[]) (vals:=(Builtin.zeroCells z.cells m).toList) (v':=.slice (some ⟨w.heap.size,0,none⟩) m (grownCap w m 0 e)) hR
   (fun i j r x h1 h2=>by rw [Qjb];exact base.2.2 i j r x h1 h2) (fun i r h1=>base.2.1 i r h1) a4 bi none (fun _ h=>by cases h) (fun b h=>by simp [Value.ownBlock] at h) (fun i j r y h1=>by simp at h1) (fun i r h1=>by simp at h1) (by simp)
   (by simpa using ba) ⟨rfl,rfl,rfl,by simp,fun k hk _=>heap_alloc_old w.drew _ k hk⟩ (.inr fun b hb=>by simp [Value.ownBlock] at hb;omega)
  exact this
theorem Qb9 {tt:TT} (hT:TOk P tt) {o:Oper} {t l:Nat} {x:Operand} {lo hi:Option Operand} (ho:o.op = .slice t x lo hi none) {u g:Bool} {aj:Nat} {ev:Operand->AV} (bo:ev x = .arr l) {hl:Nat->Option Ob} {k:Dl->Option R} {r:R}
  (h:Qh8 tt hl aj u t l (NY ev lo) (NY ev hi) k=some r):∃ dl,k dl=some r/\(g=true->Ks P E o ev hl dl):=by
 obtain ⟨bi,ax,az⟩:=Q3b ho;unfold Qh8 at h;split at h
 case h_2=>cases h
 rename_i e ac h0 hk bc bd;cases aq:(u&&decide (h0=0)) with
 |false=>simp_all
 |true=>
  simp only [aq,QiV] at h;simp only [QiP,decide_eq_true_eq] at aq;obtain ⟨_,rfl⟩:=aq;split at h
  case h_2=>cases h
  rename_i e' s' rows aw;cases hb:(Nat.beq e e'&&Nat.beq ac s') with
  |false=>simp_all
  |true=>
   simp only [hb,QiV] at h;simp only [QiP] at hb;obtain rfl:=QiO hb.1;obtain rfl:=QiO hb.2;obtain ⟨hn,h⟩:=Vf h;refine ⟨_,h,fun _=>?_⟩;intro β S st a w hR hO hA a9 K Q hK;obtain ⟨ti,bn,bj⟩:=XJ hk (by simp);obtain ⟨hu,bp,inf,a5,bb⟩:=(hT t ti bn).ksl _ _ bj;have ay:look st.h aj=none:=by rw [hA aj (.inr (by simp [wrL]))];exact hn
   have ak:look st.h l=some (.arr e ac rows):=by rw [hA l (.inl (by simp))];exact aw
   have bh:UQ st aj=true:=by simp [WD,ay] at a9;exact a9
   have hq:slB rows.length none (some 0)=some (0,0):=by simp [slB]
   have an:∀ (ad:Option Addr) (cap:Nat),rows.length<=cap->a.eval x = .slice ad rows.length cap->(execOp a.eval o).run P w = .ok (.value (.slice (if cap=0 then ad else ad.map (·.add (0*ac))) 0 cap)) w:=by
    intro ad cap hc hx;have hb:=Mw (P:=P) true hc (ρ:=a.eval) (w:=w) hq (J9 bc fun y hy=>hO.at (ax y hy)) (J9 bd fun y hy=>hO.at (az y hy));unfold execOp;rw [ho];simp only [hx,QiX,Instr.sliceAt,QV hu,QiT,Option.map_none];simp only [Instr.slice,QiX,QV hu,QiT,hb,sizeOf,YE a5,bb];rfl
   have al:Src S w ac (.slice none 0 0) [] []:=⟨.inl ⟨rfl,rfl⟩,by simp,by simp,by simp,by simp⟩;have a1:∀ (base:Nat) (v v':Value),(execOp a.eval o).run P w = .ok (.value v') w->w.ownsRow base e ac v' 0 []->(∀ b,v.ownBlock=some b->β l=some b)->v'.ownBlock=v.ownBlock->o.wp P a w K Q:=by
    intro base v v' hr a6 a4 hat;unfold Oper.wp;rw [hr];refine hK _ _ ?_;exact Rb (rows:=[]) (news:=[]) (v:=v) (xs:=[]) (vals:=[]) hR al.rd al.row ay bh (some l) (fun l' h=>by injection h with h;subst h;simp [ak]) (fun b h=>⟨l,rfl,a4 b h⟩) (fun i j r y h1=>by simp at h1) (fun i r h1=>by simp at h1) (by simp) a6 (World.grownBy.refl _ _) (.inl hat)
   rcases RdA.arr_inv ak (bo▸hO.at bi) with ⟨_,bk,hv⟩ | ⟨b,cap,cs,ty,fz,ar,hv,hw,a3,au,a7⟩
   ·subst bk;exact a1 w.heap.size (.slice none 0 0) (.slice none 0 0) (an none 0 (Nat.le_refl _) hv) (World.ownsRow_nil w w.heap.size e ac) (fun b h=>by simp [Value.ownBlock] at h) rfl
   ·rcases hR.hr.ob l _ ak with ⟨a8,_⟩ | ⟨b2,bm,a2,ao,bq,bx,b0⟩
    ·rw [ar] at a8;cases a8
    obtain rfl:b=b2:=by rw [ar] at a2;injection a2
    obtain rfl:cs=bm:=by rw [hw] at ao;injection ao with h1;injection h1
    refine a1 0 (.slice (some ⟨b,0,none⟩) rows.length cap) (.slice (some ⟨b,0,none⟩) 0 cap) ?_ ⟨by simp,.inr ⟨b,cap,cs,rfl,Nat.zero_le _,ao,Nat.zero_le _,a7,a3,by simp⟩⟩ (fun b3 h=>by simp [Value.ownBlock] at h;subst h;exact ar) rfl;have:=an (some ⟨b,0,none⟩) cap au hv;have e0:(if cap=0 then some (⟨b,0,none⟩:Addr) else (some (⟨b,0,none⟩:Addr)).map (·.add (0*ac)))=some ⟨b,0,none⟩:=by
     split
     ·rfl
     ·simp [Addr.add]
    rw [e0] at this;exact this
theorem Qbb {tt:TT} (hT:TOk P tt) {o:Oper} {c:Call} {x:Operand} {t:Nat} (ho:o.op = .call c) (hc:c.callee = .builtin .len) (ha:c.args.toList=[x]) (hat:c.argTypes.toList=[t]) {ev:Operand->AV} {hl:Nat->Option Ob} {n:Int} {rd:List Nat}
  (h:QgQ tt hl t (ev x)=some (n,rd)):Ks P E o ev hl ⟨.d (.int .i64 n),[],rd⟩:=by
 have aj:x∈o.op.operands.toList:=by grind [Op.operands,Call.operands]
 unfold QgQ at h;split at h
 ·rename_i e au hk;split at h
  ·rename_i s rows ac;cases h;refine Qn fun β S st a w hR hO hA=>?_
   obtain ⟨ad,cap,hx⟩:=(ac▸hO.at aj).d_inv.len;exact ⟨_,Tm hT ho hc ha hat hk hx,.d _ _ (.int _ _)⟩
  ·rename_i ac;cases h;refine Qn fun β S st a w hR hO hA=>?_
   have hx:=(ac▸hO.at aj).nil_inv;exact ⟨_,Tm hT ho hc ha hat hk hx,.d _ _ (.int _ _)⟩
  ·rename_i l ac;split at h
   ·rename_i e' s rows an;cases h;refine Qn fun β S st a w hR hO hA=>?_
    have ao:look st.h l=some (.arr e' s rows):=by rw [hA l (.inl (by simp))];exact an
    rcases RdA.arr_inv ao (ac▸hO.at aj) with ⟨_,rfl,hx⟩ | ⟨b,cap,cs,ty,fz,_,hx,_⟩
    ·exact ⟨_,Tm hT ho hc ha hat hk hx,.d _ _ (.int _ _)⟩
    ·exact ⟨_,Tm hT ho hc ha hat hk hx,.d _ _ (.int _ _)⟩
   ·cases h
  ·cases h
 ·rename_i hk;split at h
  ·rename_i s ac;cases h;refine Qn fun β S st a w hR hO hA=>?_
   have hx:=(ac▸hO.at aj).d_inv;generalize hy:a.eval x=y at hx;cases hx with
   |str s'=>
    refine ⟨_,Q5d hT ho hc ha hat hk hy,?_⟩;have:s'.data.toList.length=s'.size:=by rfl
    rw [this];exact .d _ _ (.int _ _)
  ·cases h
 ·cases h
theorem Q0V {ρ:Operand->Value} {ev:Operand->AV} {β:Nat->Option Nat} {S:Nat->Prop} {h:Nat->Option Ob} {w:World} {tm:Nat->Value} (isMin:Bool) :
  ∀ (r:List Operand) (av v:AV) (u:Value),RdA β S h w tm u av->(∀ x∈r,RdA β S h w tm (ρ x) (ev x))->Bc isMin av (r.map ev)=some v ->
   ∃ u',((r.map ρ).foldlM (if isMin then Builtin.min2 else Builtin.max2) u:Sem Value).run P w = .ok u' w/\RdA β S h w tm u' v
 |[],av,v,u,hu,_,hm=>by
  simp_all [Bc]
 |x::r,av,v,u,hu,hr,hm=>by
  unfold Bc at hm;split at hm
  ·simp_all
  ·rename_i k a k' b r' aj;injection aj with h1 h2
   cases hk:(k == k') with
   |false=>simp_all
   |true=>
    simp only [hk,QiV] at hm;have ak:=(h1▸hr x (by simp)).int_inv;have al:=hu.int_inv;subst h2;obtain ⟨u',g1,g2⟩:=Q0V isMin r _ v (.int k (bif isMin then (if b<a then b else a) else (if a<b then b else a))) (.d _ _ (.int _ _)) (fun y hy=>hr y (by simp [hy])) hm;refine ⟨u',?_,g2⟩;simp only [QiY,List.foldlM_cons,QiX,al,ak];cases isMin with
    |true=>assumption
    |false=>assumption
  ·cases hm
theorem AF {o:Oper} {c:Call} {x:Operand} {r:List Operand} {isMin:Bool} (ho:o.op = .call c) (hc:c.callee = .builtin (if isMin then .min else .max)) (ha:c.args.toList=x::r) {ev:Operand->AV} {hl:Nat->Option Ob} {v:AV}
  (h:Bc isMin (ev x) (r.map ev)=some v):Ks P E o ev hl ⟨v,[],[]⟩:=by
 have ac:∀ y,y∈c.args.toList->y∈o.op.operands.toList:=by
  grind [Op.operands,Call.operands]
 refine Qn fun β S st a w hR hO hA=>?_
 obtain ⟨u,g1,g2⟩:=Q0V (P:=P) (ρ:=a.eval) isMin r (ev x) v (a.eval x) (hO.at (ac x (by simp [ha]))) (fun y hy=>hO.at (ac y (by simp [ha,hy]))) h;refine ⟨u,?_,g2⟩;have aj:(c.args.map a.eval).toList=a.eval x::r.map a.eval:=by simp_all
 unfold execOp;rw [ho];cases isMin with
 |true=>
  simp_all [if_true,resolve,invoke,builtin,Builtin.min_,QiX,Sem.run_pure,QiT]
 |false=>
  simp only [Bool.false_eq_true,if_false] at hc g1;simp only [resolve,hc,invoke,builtin,Builtin.max_,QiX,Sem.run_pure,QiT,aj,g1]
theorem Q1v {o:Oper} {f:Nat} {first ac:Array Operand} (ho:o.op = .makeFunc (.func f) first ac) (hf:first.toList=[]) {ev:Operand->AV} {hl:Nat->Option Ob}:Ks P E o ev hl ⟨.fn f (ac.toList.map ev),[],[]⟩:=by
 refine Qn fun β S st a w hR hO hA=>⟨.func (.func f) #[] (ac.map a.eval),?_,.fn f _ _ (by simp) fun i x hx=>?_⟩
 ·simp_all [Array.ext',execOp,Instr.makeFunc]
 ·simp only [List.getElem?_map,QiQ] at hx;obtain ⟨y,hy,rfl⟩:=hx;have aj:y∈o.op.operands.toList:=by
   grind [List.mem_of_getElem?,Op.operands]
  have hg:(ac.map a.eval).getD i undef=a.eval y:=by
   simp_all
  rw [hg];exact hO.at aj
theorem Ec {spec:Q5i} {tt:TT} (hS:BC P spec) (hT:TOk P tt) {o:Oper} {az:Nat} {g u:Bool} {ev:Operand->AV} {hl:Nat->Option Ob} {k:Dl->Option R} {r:R}
  (h:vdl spec tt az g u ev hl o.op k=some r):∃ dl,k dl=some r/\(g=true->Ks P E o ev hl dl):=by
 cases ho:o.op with
 |move x=>grind [vdl,Q3I]
 |assign x=>rw [ho] at h;simp only [vdl] at h;exact ⟨_,h,fun _=>Q3I (.inr ho)⟩
 |pick c x y=>
  rw [ho] at h;simp only [vdl] at h
  grind [Q8e]
 |alloc t=>
  rw [ho] at h;simp only [vdl] at h;split at h
  ·rename_i ti aq;cases u with
   |false=>simp at h
   |true=>
    simp only [QiV] at h;split at h
    ·rename_i e ao n hk;cases hb:Nat.beq ti.zd.length (n*ao) with
     |false=>simp_all
     |true=>
      simp only [hb,QiV] at h;obtain ⟨hn,h⟩:=Vf h
      grind [Q51,Nat.eq_of_beq_eq_true]
    ·obtain ⟨hn,h⟩:=Vf h;exact ⟨_,h,fun _=>Q7Y hT ho aq hn⟩
  ·cases h
 |box t x=>
  rw [ho] at h;simp only [vdl] at h;split at h
  ·rename_i ti aq;cases hc:(u&&(Nat.beq (Y9 (ev x)).length ti.size&&(Y9 (ev x)).all Q2K)) with
   |false=>simp [hc] at h
   |true=>
    simp only [hc,QiV] at h;simp only [QiP] at hc;obtain ⟨hn,h⟩:=Vf h;exact ⟨_,h,fun _=>QaD ho hc.2.2 hn⟩
  ·cases h
 |build t aw=>
  rw [ho] at h;simp only [vdl] at h;split at h
  ·rename_i ti aq;cases hs:Vv ti.kd with
   |false=>simp [hs] at h
   |true=>
    simp only [hs,QiV] at h;split at h
    ·rename_i cs a5;exact ⟨_,h,fun _=>Q7H hT ho aq hs a5⟩
    ·cases h
  ·cases h
 |buildSlice t len aw=>
  rw [ho] at h;simp only [vdl] at h;obtain ⟨dl,h1,h2⟩:=Q56 hT ho h;exact ⟨dl,h1,fun _=>h2⟩
 |load t x=>rw [ho] at h;simp only [vdl] at h;exact Q8n hT ho h
 |store t x y=>
  rw [ho] at h;simp only [vdl] at h;cases u with
  |false=>simp at h
  |true=>
   simp only [QiV] at h;split at h
   ·rename_i e ao n l hk al;obtain ⟨dl,h1,h2⟩:=Q57 hT ho hk al h;exact ⟨dl,h1,fun _=>h2⟩
   ·obtain ⟨dl,h1,h2⟩:=Q7C hT ho h;exact ⟨dl,h1,fun _=>h2⟩
 |nilCheck x=>
  rw [ho] at h;simp only [vdl] at h;split at h
  ·rename_i l o' hv;exact ⟨_,h,fun _=>EK ho hv⟩
  ·rename_i l o' hv;exact ⟨_,h,fun _=>Ci ho hv⟩
  ·rename_i l i o' hv;split at h
   ·rename_i ob a4;exact ⟨_,h,fun _=>Cy ho (by simp [a4]) hv⟩
   ·cases h
  ·cases h
 |binOp op t x y t'=>rw [ho] at h;simp only [vdl] at h;exact QaG hT ho h
 |unOp op t x=>
  rw [ho] at h;simp only [vdl] at h;split at h
  ·rename_i v hv;exact ⟨_,h,fun _=>QdA ho hv⟩
  ·cases h
 |convert s t x=>
  rw [ho] at h;simp only [vdl] at h;split at h
  ·rename_i ks kd h1 h2;split at h
   ·rename_i kn n h3;exact ⟨_,h,fun _=>Q4F hT ho h1 h2 h3⟩
   ·cases h
  ·rename_i e h1 h2;split at h
   ·rename_i h3;split at h
    ·rename_i rows rd h4;exact Q7n hT ho h1 h2 h3 h4 h
    ·cases h
   ·cases h
  ·rename_i h1 h2;split at h
   ·rename_i n h3;exact ⟨_,h,fun _=>Q2l hT ho h1 h2 h3⟩
   ·cases h
  ·rename_i e h1 h2;split at h
   ·rename_i h3;split at h
    ·rename_i n h4;exact ⟨_,h,fun _=>Q1y hT ho h1 h2 h3 h4⟩
    ·cases h
   ·cases h
  ·cases h
 |lookup t m x c=>
  rw [ho] at h;cases c with
  |true=>simp [vdl] at h
  |false=>
   simp only [vdl] at h;split at h
   ·rename_i f n ht hm hx;exact ⟨_,h,fun _=>Q5J hT ho ht hm hx⟩
   ·rename_i l n ht hm hx;split at h
    ·rename_i t' f ar;exact ⟨_,h,fun _=>Q4D hT ho ht hm hx ar⟩
    ·cases h
   ·cases h
 |makeMap t q=>
  rw [ho] at h;cases q with
  |some q=>simp [vdl] at h
  |none=>
   simp only [vdl] at h;split at h
   ·cases u with
    |false=>simp at h
    |true=>
     simp only [QiV] at h;obtain ⟨hn,h⟩:=Vf h;exact ⟨_,h,fun _=>Q40 ho hn⟩
   ·cases h
 |mapUpdate t m x v=>
  rw [ho] at h;simp only [vdl] at h;split at h
  ·rename_i l n b ht hm hx hv;split at h
   ·rename_i t' f ar;cases u with
    |false=>simp at h
    |true=>
     simp only [QiV] at h;exact ⟨_,h,fun _=>Q0z hT ho ht hm hx hv ar⟩
   ·cases h
  ·cases h
 |makeFunc f first ak=>
  rw [ho] at h;cases f with
  |func f=>
   simp only [vdl] at h;split at h
   ·rename_i an;cases hc:JH (ak.toList.map ev) with
    |false=>simp [hc] at h
    |true=>
     simp only [hc,QiV] at h;exact ⟨_,h,fun _=>Q1v ho an⟩
   ·cases h
  |_=>simp [vdl] at h
 |makeSlice t l c=>
  rw [ho] at h;simp only [vdl] at h;obtain ⟨dl,h1,h2⟩:=Q9q hT ho h;exact ⟨dl,h1,fun _=>h2⟩
 |fieldAddr t x f=>
  rw [ho] at h;simp only [vdl] at h;obtain ⟨dl,h1,h2⟩:=Q08 hT ho h;exact ⟨dl,h1,fun _=>h2⟩
 |field t x f=>rw [ho] at h;simp only [vdl] at h;exact Q7E hT ho h
 |indexAddr t x i=>
  rw [ho] at h;simp only [vdl] at h;split at h
  ·rename_i e ao n l hk al;exact BH hT ho hk al h
  ·exact Q0a hT ho h
 |index t x i=>rw [ho] at h;simp only [vdl] at h;exact Q7X hT ho h
 |slice t x lo hi mx=>
  rw [ho] at h;cases mx with
  |none=>
   simp only [vdl] at h;split at h
   ·rename_i l al;exact Qb9 hT ho al h
   ·exact Q7W hT ho h
  |some mx=>simp only [vdl] at h;exact Q5B hT ho h
 |extract x i=>
  rw [ho] at h;simp only [vdl] at h;split at h
  ·rename_i l hx;split at h
   ·rename_i v hv;exact ⟨_,h,fun _=>Q3D ho hx hv⟩
   ·cases h
  ·cases h
 |call c=>
  rw [ho] at h;simp only [vdl] at h;split at h
  ·rename_i f hc;exact Q3X hS (Q7e ho hc) h
  ·rename_i t hc;split at h
   ·rename_i f cap ax;exact Q3X hS (Q7S ho hc ax) h
   ·cases h
  ·rename_i hc;split at h
   ·rename_i x t ha hat;split at h
    ·rename_i n rd hn;exact ⟨_,h,fun _=>Qbb hT ho hc ha hat hn⟩
    ·cases h
   ·cases h
  ·rename_i hc;split at h
   ·rename_i x t ha hat;split at h
    ·rename_i e ao hk ax;refine ⟨_,h,fun _=>Qn fun β S st a w hR hO hA=>?_⟩;have au:c.args = #[x]:=by rw [<- Array.toList_inj];simpa using ha
     have a2:x∈o.op.operands.toList:=by simp [ho,Op.operands,Call.operands,hc,au]
     exact ⟨_,Q5m hT ho hc ha hat hk (ax▸hO.at a2).nil_inv,.d _ _ (.int _ _)⟩
    ·cases h
   ·cases h
  ·rename_i hc;split at h
   ·rename_i s x t t' ha hat;cases hb:Nat.beq t t' with
    |false=>simp only [hb,Qj8] at h;exact Q37 hT ho hc ha hat h
    |true=>
     simp only [hb,QiV] at h;obtain rfl:=QiO hb;exact Q5x hT ho hc ha hat h
   ·cases h
  ·rename_i hc;split at h
   ·rename_i x r' ha;split at h
    ·rename_i v hv;exact ⟨_,h,fun _=>AF (isMin:=true) ho hc ha hv⟩
    ·cases h
   ·cases h
  ·rename_i hc;split at h
   ·rename_i x r' ha;split at h
    ·rename_i v hv;exact ⟨_,h,fun _=>AF (isMin:=false) ho hc ha hv⟩
    ·cases h
   ·cases h
  ·cases h
 |_=>rw [ho] at h;simp [vdl] at h
end
section
variable {P:Program} {E:Env} {R:Type}
theorem Qcg {d t:Nat} {tm:List (Nat × AV)} {av:AV} (h:look tm t=some av) (hn:Q9O d tm=false):gds d av=false:=by
 induction tm with
 |nil=>trivial
 |cons x r ih=>
  grind [Q9O,Bool.or_eq_false_iff,look,Nat.beq]
theorem Q96 {a:Act} {d:Nat} {v:Value} (hd:d<a.tmps.size) (t:Nat):tmv (a.put (some d) v) t=if t=d then v else tmv a t:=by
 unfold tmv Act.put;by_cases h:t<a.tmps.size
 ·by_cases e:t=d
  all_goals simp_all [Qj9,Ne.symm]
 grind
theorem Bf {st:St} {a:Act} {w':World} {dl:Dl} {v:Value} {dst:Option Nat} (ho:Q33 st dl.v dst=true) (h:Out E st a dl v w'):HK E (put st dst dl) (a.put dst v) w':=by
 obtain ⟨β,S,hR,hv⟩:=h;cases dst with
 |none=>exact ⟨β,S,hR.n,hR.dfr,hR.tm,hR.hr⟩
 |some d=>
  simp only [Q33,QiP,QiW] at ho;obtain ⟨h1,h2,h3⟩:=ho;have hd:d<a.tmps.size:=by have:=Qjf h1;have:=hR.n;grind
  refine ⟨β,S,?_,hR.dfr,fun t av ht=>?_,hR.hr⟩
  ·show (a.tmps.setIfInBounds d v).size=st.n;simpa using hR.n
  ·simp only [put,Y6] at ht;have aj:∀ (u:Value) (av:AV),gds d av=false->RdA β S (look (My st.h dl.wr)) w' (tmv a) u av->RdA β S (look (put st (some d) dl).h) w' (tmv (a.put (some d) v)) u av:=by
    intro u av hg hr;refine hr.mono (fun _ h=>h) (fun _ _=>rfl) (fun _ _=>Keep.rfl_ ..) (fun t' ak=>?_);rw [Q96 hd,Qj9 (fun e=>by simp_all)]
   rw [Q96 hd];by_cases e:t=d
   ·simp_all
   ·rw [Qj9 e] at ht ⊢;exact aj _ _ (Qcg ht h3) (hR.tm t av ht)
theorem Q4s {β:Nat->Option Nat} {S:Nat->Prop} {st:St} {a:Act} {w:World} (hR:Rel E β S st a w) (x:Operand):RdA β S (look st.h) w (tmv a) (a.eval x) (evO st.tm x):=by
 cases x with
 |tmp t=>
  simp only [evO,lkT];cases h:look st.tm t with
  |none=>exact .top _
  |some av=>exact hR.tm t av h
 |const v=>exact A3 v
 |global g=>exact .top _
 |func f=>exact .fn f #[] [] rfl (fun i x h=>by simp at h)
theorem R8 {tm:List (Nat × AV)} {s:Nat} {av:AV} (h:lkT tm s=av) (hn:av≠.top):look tm s=some av:=by
 unfold lkT at h;cases hl:look tm s with
 |none=>simp_all
 |some b=>simp_all
theorem Q9P {e w:Bool}:bw e w=true↔e=w:=by cases e <;> cases w <;> simp [bw]
theorem Q2V {β:Nat->Option Nat} {S:Nat->Prop} {st:St} {a:Act} {w:World} (hR:Rel E β S st a w):∀ (f s:Nat) (b g:Bool) (ch:List (Nat × Bool)),ctx st.tm f s b=some (g,ch) ->
  (g=true↔tmv a s = .bool b)/\(g=true->∀ p∈ch,tmv a p.1 = .bool p.2)
 |0,s,b,g,ch,h=>by trivial
 |f+1,s,b,g,ch,h=>by
  unfold ctx at h;split at h
  ·rename_i e he;have hv:=(hR.tm s _ (R8 he (by simp))).bool_inv
   grind [bw,tmv,bool,Q9P]
  ·rename_i s' w' e he;split at h
   ·rename_i g' l hc;obtain ⟨h1,h2⟩:=Q2V hR f s' w' g' l hc;have hv:=(hR.tm s _ (R8 he (by simp))).gd_inv;have h3:(g'=true/\bw e b=true)↔tmv a s = .bool b:=by
     rcases hv with ⟨h4,h5⟩ | ⟨h4,h5⟩
     ·rw [h5.bool_inv,Q9P,h1];simp [h4]
     ·rw [h5,h1];constructor
      ·simp_all
      ·intro h;cases h
    grind
   ·cases h
  ·cases h
theorem Q42 {tm tm':List (Nat × AV)}:∀ (f s:Nat) (b g:Bool) (ch:List (Nat × Bool)),ctx tm f s b=some (g,ch)->(∀ p∈ch,lkT tm' p.1=lkT tm p.1)->ctx tm' f s b=some (g,ch)
 |0,s,b,g,ch,h,_=>by assumption
 |f+1,s,b,g,ch,h,hc=>by
  have hs:(s,b)∈ch:=by
   grind [ctx]
  have hl:=hc (s,b) hs;unfold ctx at h ⊢;split at h
  ·simp_all
  ·rename_i s' w' e he;split at h
   ·rename_i g' l ac;obtain ⟨rfl,rfl⟩:=h;have:=Q42 f s' w' g' l ac (fun p hp=>hc p (by simp [hp]))
    simp_all
   ·cases h
  ·cases h
theorem Q6y {s:Nat} {b:Bool}:∀ {l:List (Nat × Bool)},Qdf l s b=true->(s,b)∈l
 |(x,y)::r,h=>by
  simp only [Qdf,Qj3,QiP] at h;rcases h with ⟨h1,h2⟩ | h
  ·simp_all
  ·simp [Q6y h]
theorem QeH {β:Nat->Option Nat} {S:Nat->Prop} {h:Nat->Option Ob} {w:World} {tm:Nat->Value} {v:Value} {av:AV} {ch:List (Nat × Bool)} (hc:∀ p∈ch,tm p.1 = .bool p.2) (hv:RdA β S h w tm v av):RdA β S h w tm v (unw ch av):=by
 cases av with
 |gd s b av=>
  simp only [unw];cases hg:Qdf ch s b with
  |false=>simp_all
  |true=>
   rcases hv.gd_inv with ⟨_,h⟩ | ⟨h,_⟩
   ·exact h
   ·exact absurd (hc _ (Q6y hg)) h
 |_=>exact hv
theorem Q8L {l:Nat} {ch:List (Nat × Bool)} {av:AV} (h:Um l av=false):Um l (unw ch av)=false:=by
 cases av with
 |gd s b av=>
  grind [unw,Qdf,Um]
 |_=>exact h
def DJ (P:Program) (E:Env) (aj:Array Oper) (i:Nat) (rc:Rec) (lk:Nat->AV) (hl:Nat->Option Ob):Prop:=
 ∀ st a w,HK E st a w->(∀ t,t∈rc.rt->lkT st.tm t=lk t)->(∀ l,l∈rc.dl.rd\/l∈wrL rc.dl->look st.h l=hl l)->Q33 st rc.dl.v rc.dst=true->WD st rc.dl.wr=true ->
  ∀ Q:Exit->Act->World->Prop,wpOp P aj Q i (fun a' w'=>HK E (put st rc.dst rc.dl) a' w') a w
def Q3V (st:St) (rc:Rec):Prop:=Q33 st rc.dl.v rc.dst=true/\WD st rc.dl.wr=true
theorem Q0J {t:Nat}:∀ {l:List Operand},Operand.tmp t∈l->t∈Sg l
 |x::r,h=>by
  rcases QiU.1 h with rfl | h
  ·simp [Sg]
  ·have:=Q0J h;cases x <;> simp [Sg,this]
theorem Q20 {tm tm':List (Nat × AV)} {o:Oper} {ch:List Nat} (h:∀ t,t∈Sg o.op.operands.toList++ch->lkT tm' t=lkT tm t) {x:Operand} (hx:x∈o.op.operands.toList):evO tm' x=evO tm x:=by
 cases x with
 |tmp t=>exact h t (by simp [Q0J hx])
 |_=>rfl
theorem Q0G {ak:Array Oper} {i:Nat} {o:Oper} (hi:ak[i]? = some o) (hg:o.guard=none) {tm:List (Nat × AV)} {hl:Nat->Option Ob} {dl:Dl} (ac:Ks P E o (evO tm) hl dl) :
  DJ P E ak i ⟨Sg o.op.operands.toList++[],o.dst,dl⟩ (lkT tm) hl:=by
 intro st a w ⟨β,S,hR⟩ hlk hA hd hcw Q;unfold wpOp;simp only [hi,Region.wanted,hg,if_true];left;refine ac β S st a w hR (fun x hx=>?_) hA hcw _ _ fun v w' aj=>Bf hd aj
 rw [<- Q20 hlk hx]
 grind [Q4s,Q1h]
theorem LE {ac:Array Oper} {j s:Nat} {a:Act} {b:Bool} (hs:(ac[j]?).bind (·.dst)=some s):(yielded ac a.tmps j == some b)=true↔tmv a s = .bool b:=by
 unfold yielded tmv;rw [hs];simp only [Option.bind_some,Array.getD];by_cases h:s<a.tmps.size
 ·simp only [h,dite_true,Qj5 h];cases hv:a.tmps[s] <;> simp [hv]
 ·simp only [h,dite_false];constructor
  ·simp_all
  ·intro h;cases h
theorem Qdz {R:Type} {c:Bool} {x:Option R} {r:R} (h:(bif c then x else none)=some r):c=true/\x=some r:=by
 grind
theorem Qgh {g:Bool} {x y z:D} (h:jD g x y=some z):z=bif g then x else y:=by
 unfold jD at h
 grind [Nat.eq_of_beq_eq_true]
theorem QgY {g:Bool} {x y z:AV} (h:jA g x y=some z):z=bif g then x else y:=by
 unfold jA at h;split at h
 ·grind [Qgh]
 ·simp_all
 ·replace h:=Qdz h
  obtain ⟨hk,h⟩:=h
  simp_all
 ·cases h
theorem QcM {g:Bool}:∀ {x y z:List AV},jL g x y=some z->z=bif g then x else y
 |[],[],z,h=>by simp only [jL,Option.some.injEq] at h;subst h;cases g <;> rfl
 |[],_::_,z,h=>by simp [jL] at h
 |_::_,[],z,h=>by simp [jL] at h
 |a::r,b::s,z,h=>by
  simp only [jL] at h;split at h
  ·rename_i c hc;split at h
   ·rename_i t ht;injection h with h
    subst h;rw [QgY hc,QcM ht];cases g <;> rfl
   ·cases h
  ·cases h
theorem Q1o {hl:Nat->Option Ob}:∀ {wr ac:List (Nat × Option Ob)},jW true hl wr=some ac->ac=wr
 |[],_,h=>by simp only [jW,Option.some.injEq] at h;exact h.symm
 |(l,some (.box ak))::r,ac,h=>by
  simp only [jW] at h;split at h
  ·split at h
   ·rename_i c hc;split at h
    ·rename_i t ht;injection h with h
     subst h;rw [QcM hc,Q1o ht];rfl
    ·cases h
   ·cases h
  ·cases h
 |(l,some (.arr e s rows))::r,ac,h=>by
  simp only [jW] at h;split at h
  ·split at h
   ·rename_i t ht;injection h with h
    subst h;rw [Q1o ht];rfl
   ·cases h
  ·cases h
 |(l,none)::r,ac,h=>by
  simp only [jW] at h;split at h
  ·rename_i t ht;injection h with h
   subst h;rw [Q1o ht]
  ·cases h
def Qgx (hl:Nat->Option Ob) (l:Nat) (o:Option Ob):Prop:=o=hl l\/o=none\/(hl l=none/\∃ e s,o=some (.arr e s []))
theorem B3 {hl:Nat->Option Ob}:∀ {wr ac:List (Nat × Option Ob)},jW false hl wr=some ac->∀ p,p∈ac->Qgx hl p.1 p.2
 |[],_,h,p,hp=>by simp only [jW,Option.some.injEq] at h;subst h;cases hp
 |(l,some (.box ak))::r,ac,h,p,hp=>by
  simp only [jW] at h;split at h
  ·rename_i old ho;split at h
   ·rename_i c hc;split at h
    ·rename_i t ht;injection h with h
     subst h;rcases QiU.1 hp with rfl | hp
     ·rw [QcM hc];exact .inl ho.symm
     ·exact B3 ht p hp
    ·cases h
   ·cases h
  ·cases h
 |(l,some (.arr e s rows))::r,ac,h,p,hp=>by
  simp only [jW] at h;split at h
  ·rename_i hn;split at h
   ·rename_i t ht;injection h with h
    subst h;rcases QiU.1 hp with rfl | hp
    ·exact .inr (.inr ⟨hn,e,s,rfl⟩)
    ·exact B3 ht p hp
   ·cases h
  ·cases h
 |(l,none)::r,ac,h,p,hp=>by
  simp only [jW] at h;split at h
  ·rename_i t ht;injection h with h
   subst h;rcases QiU.1 hp with rfl | hp
   ·exact .inr (.inl rfl)
   ·exact B3 ht p hp
  ·cases h
theorem Q0Y {Q:Nat->Option Ob->Prop}:∀ {wr:List (Nat × Option Ob)} {f:Nat->Option Ob} {l:Nat},(∀ p,p∈wr->Q p.1 p.2)->l∈wr.map (·.1)->Q l (Hb f wr l)
 |(k,o)::r,f,l,h,hl=>by
  by_cases hr:l∈r.map (·.1)
  ·exact Q0Y (wr:=r) (fun p hp=>h p (by simp [hp])) hr
  simp_all [Hb,V7]
theorem Q4j {st:St} {l:Nat} {o:Ob}:∀ {wr:List (Nat × Option Ob)},WD st wr=true->(l,some o)∈wr->look st.h l=none->UQ st l=true
 |(k,o')::r,h,hm,hn=>by
  simp only [WD,QiP] at h;rcases QiU.1 hm with he | hm
  ·injection he with h1 h2
   subst h1 h2;have:=h.1;rw [hn] at this;exact this
  ·exact Q4j h.2 hm hn
theorem FR:∀ {wr:List (Nat × Option Ob)} {f:Nat->Option Ob} {l:Nat} {o:Ob},l∈wr.map (·.1)->Hb f wr l=some o->(l,some o)∈wr
 |(k,o')::r,f,l,o,hl,h=>by
  by_cases hr:l∈r.map (·.1)
  ·exact Qj1 _ (FR (wr:=r) hr h)
  simp_all [Hb,V7]
theorem Qbg {β:Nat->Option Nat} {S:Nat->Prop} {st:St} {a:Act} {w:World} (hR:Rel E β S st a w) {wr:List (Nat × Option Ob)} (hw:∀ p,p∈wr->Qgx (look st.h) p.1 p.2) (hc:WD st wr=true) :
  ∃ β',Rel E β' S ⟨st.n,st.tm,My st.h wr⟩ a w:=by
 have aj:look (My st.h wr)=Hb (look st.h) wr:=Hv wr st.h;have ak:∀ l,Hb (look st.h) wr l=look st.h l\/(Hb (look st.h) wr l=none/\l∈wr.map (·.1))\/(look st.h l=none/\l∈wr.map (·.1)/\∃ e s,Hb (look st.h) wr l=some (.arr e s [])):=by
  intro l;by_cases hl:l∈wr.map (·.1)
  ·rcases Q0Y (f:=look st.h) hw hl with h | h | ⟨h1,h2⟩
   all_goals grind
  grind [V7]
 let β':Nat->Option Nat:=fun l=>if look st.h l=none/\(Hb (look st.h) wr l).isSome=true then none else β l
 have hβ:∀ l,(Hb (look st.h) wr l=look st.h l)->β' l=β l:=by
  grind
 have ac:∀ l b,(look (My st.h wr) l).isSome=true->β' l=some b->(look st.h l).isSome=true/\β l=some b:=by
  intro l b h1 h2;rw [aj] at h1
  grind
 refine ⟨β',hR.upd (H':=My st.h wr) (w':=w) (S':=S) (β':=β') (fun _ h=>h) (fun _ _=>rfl) (fun l=>¬ Hb (look st.h) wr l=look st.h l) (fun l hl=>?_) (fun l hl=>?_) (fun l o hl ho=>?_) ?_ ?_ ?_ hR.hr.sb hR.hr.sfr hR.hr.fr⟩
 ·simp_all
 ·rcases ak l with h | ⟨h,hm⟩ | ⟨h1,hm,e,s,h2⟩
  ·simp_all
  ·left;refine ⟨?_,fun _=>by simp_all,fun e s rows _=>.inl (by rw [aj];exact h),fun b cs ty fz hs=>(by rw [aj,h] at hs;cases hs),fun _ _ _=>.inl (by rw [aj];exact h)⟩
   grind
  grind [Q4j,FR]
 ·rcases ak l with h | ⟨h,hm⟩ | ⟨h1,hm,e,s,h2⟩
  ·exact absurd h hl
  ·rw [aj,h] at ho;cases ho
  ·rw [aj,h2] at ho;injection ho with ho
   subst ho;refine .inl ⟨?_,rfl⟩;show (if look st.h l=none/\(Hb (look st.h) wr l).isSome=true then none else β l)=none;rw [if_pos ⟨h1,by rw [h2];rfl⟩]
 ·intro l l' b h1 h2 h3 h4;obtain ⟨a1,a2⟩:=ac l b h1 h3;obtain ⟨b1,b2⟩:=ac l' b h2 h4;exact hR.hr.inj l l' b a1 b1 a2 b2
 ·intro l b h1 h2;obtain ⟨a1,a2⟩:=ac l b h1 h2;exact hR.hr.apart l b a1 a2
 ·intro l b h1 h2;obtain ⟨a1,a2⟩:=ac l b h1 h2;exact hR.hr.own l b a1 a2
theorem Q2R {al:Array Oper} {i j s:Nat} {b:Bool} {o:Oper} (hi:al[i]? = some o) (hg:o.guard=some (j,b)) (hs:(al[j]?).bind (·.dst)=some s) {tm:List (Nat × AV)} {hl:Nat->Option Ob} {g:Bool} {ch:List (Nat × Bool)} (ao:ctx tm 40 s b=some (g,ch)) {dl:Dl} {wr:List (Nat × Option Ob)} (hw:jW g hl dl.wr=some wr)
  (aj:g=true->Ks P E o (fun x=>unw ch (evO tm x)) hl dl) :
  DJ P E al i ⟨Sg o.op.operands.toList++ch.map (·.1),o.dst,⟨.gd s b dl.v,wr,dl.rd⟩⟩ (lkT tm) hl:=by
 intro st a w ⟨β,S,hR⟩ hlk hA hd hcw Q;have an:=Q42 40 s b g ch ao (tm':=st.tm) (fun p hp=>hlk p.1 (by grind));obtain ⟨h1,h2⟩:=Q2V hR 40 s b g ch an;have hy:=LE (a:=a) (b:=b) hs;unfold wpOp;simp only [hi,Region.wanted,hg];cases g with
 |true=>
  have ac:=h1.1 rfl;rw [if_pos (hy.2 ac)];left;obtain rfl:=Q1o hw;refine aj rfl β S st a w hR (fun x hx=>?_) (fun l h=>hA l h) hcw _ _ fun v w' aq=>?_
  ·have he:=Q20 hlk hx;show RdA _ _ _ _ _ _ (unw ch (evO tm x))/\∀ l,UQ st l=true->Um l (unw ch (evO tm x))=false;rw [<- he];exact ⟨QeH (h2 rfl) (Q4s hR x),fun l hc=>Q8L (Q1h hc x)⟩
  ·refine Bf hd ?_;obtain ⟨β',S',ak,hv⟩:=aq;exact ⟨β',S',ak,.gdT _ _ _ _ ac hv⟩
 |false=>
  have ac:¬ tmv a s = .bool b:=fun h=>by simp_all
  rw [Qj9 (fun h=>ac (hy.1 h))];obtain ⟨β',ak⟩:=Qbg hR (wr:=wr) (fun p hp=>by
   have:=B3 hw p hp;have he:look st.h p.1=hl p.1:=hA p.1 (.inr (Qja.2 ⟨p,hp,rfl⟩))
   grind [Qgx]) hcw
  exact Bf hd ⟨β',S,ak,.gdF _ _ _ ac⟩
theorem NB {st:St} {o:Oper} {ch:List Nat} {dl:Dl} {k:St->Rec->Option R} {r:R} (h:Qce st o ch dl k=some r) :
  Q3V st ⟨Sg o.op.operands.toList++ch,o.dst,dl⟩/\k (put st o.dst dl) ⟨Sg o.op.operands.toList++ch,o.dst,dl⟩=some r:=by
 unfold Qce at h;cases hc:(Q33 st dl.v o.dst&&WD st dl.wr) with
 |false=>simp_all
 |true=>
  simp only [hc,QiV] at h;simp only [QiP] at hc;trivial
theorem Q5s {spec:Q5i} {tt:TT} (hS:BC P spec) (hT:TOk P tt) {aj:Array Oper} {i:Nat} {o:Oper} (hi:aj[i]? = some o) {st:St} {k:St->Rec->Option R} {r:R} (h:Qda spec tt aj o st k=some r) :
  ∃ rc,k (put st rc.dst rc.dl) rc=some r/\rc.dst=o.dst/\Q3V st rc/\DJ P E aj i rc (lkT st.tm) (look st.h):=by
 unfold Qda at h;split at h
 ·rename_i hg;obtain ⟨dl,h,ac⟩:=Ec (E:=E) hS hT h;obtain ⟨hs,hk⟩:=NB h;exact ⟨_,hk,rfl,hs,Q0G hi hg (ac rfl)⟩
 ·rename_i j b hg;split at h
  ·rename_i s hs;split at h
   ·rename_i g ch al;obtain ⟨dl,h,ac⟩:=Ec (E:=E) hS hT h;split at h
    ·rename_i wr hw;obtain ⟨an,hk⟩:=NB h;exact ⟨_,hk,rfl,an,Q2R hi hg hs al hw ac⟩
    ·cases h
   ·cases h
  ·cases h
def AA (P:Program) (E:Env) (ac:Array Oper):Nat->St->List Rec->St->Prop
 |_,st,[],st'=>st'=st
 |i,st,rc::rs,st'=>(∃ o,ac[i]? = some o/\rc.dst=o.dst)/\Q3V st rc/\DJ P E ac i rc (lkT st.tm) (look st.h)/\AA P E ac (i+1) (put st rc.dst rc.dl) rs st'
theorem Q16 {spec:Q5i} {tt:TT} (hS:BC P spec) (hT:TOk P tt) {ac:Array Oper} {R:Type}:∀ (l:List Oper) (i:Nat) (st:St) (acc:List Rec) (k:St->List Rec->Option R) (r:R),(∀ j,l[j]? = ac[i+j]?) ->
  Qg2 spec tt ac l st acc k=some r->∃ recs st',recs.length=l.length/\k st' (acc++recs)=some r/\AA P E ac i st recs st'
 |[],i,st,acc,k,r,_,h=>⟨[],st,rfl,by grind [Qg2],rfl⟩
 |o::l,i,st,acc,k,r,hl,h=>by
  have h0:ac[i]? = some o:=by simpa using (hl 0).symm
  obtain ⟨rc,h,hd,hs,aj⟩:=Q5s (E:=E) hS hT h0 h;obtain ⟨recs,st',h1,h2,h3⟩:=Q16 hS hT l (i+1) _ _ k r (fun j=>by have:=hl (j+1);grind) h;exact ⟨rc::recs,st',by simp [h1],by simp_all,⟨o,h0,hd⟩,hs,aj,h3⟩
theorem BR {s:Nat} {b:Bool}:∀ {tm:List (Nat × AV)},lkT tm s = .d (.bool b)->Q3z s b tm=tm
 |[],h=>by simp [lkT,look] at h
 |(t,a)::r,h=>by
  simp only [Q3z];cases ht:Nat.beq t s with
  |true=>
   simp only [lkT,look,ht,QiV,Option.getD_some] at h;rw [QiV,h]
  |false=>
   simp only [lkT,look,ht,Qj8] at h;rw [Qj8,BR (tm:=r) h]
theorem Q50 {aj:Array Oper} {i j s:Nat} {b:Bool} {o:Oper} (hi:aj[i]? = some o) (hg:o.guard=some (j,b)) (hs:(aj[j]?).bind (·.dst)=some s) {tm:List (Nat × AV)} {hl:Nat->Option Ob} (ak:lkT tm s = .d (.bool b)) {dl:Dl} (ac:Ks P E o (evO tm) hl dl) :
  DJ P E aj i ⟨Sg o.op.operands.toList++[s],o.dst,dl⟩ (lkT tm) hl:=by
 intro st a w ⟨β,S,hR⟩ hlk hA hd hcw Q;have an:tmv a s = .bool b:=by
  have h1:=Q4s hR (.tmp s);rw [show evO st.tm (.tmp s)=lkT st.tm s from rfl,hlk s (by simp),ak] at h1;exact h1.bool_inv
 unfold wpOp;simp only [hi,Region.wanted,hg];rw [if_pos ((LE hs).2 an)];left;refine ac β S st a w hR (fun x hx=>?_) hA hcw _ _ fun v w' al=>Bf hd al
 rw [<- Q20 hlk hx]
 grind [Q4s,Q1h]
theorem Qa4 {aj:Array Oper} {i j s:Nat} {b c:Bool} {o:Oper} (hi:aj[i]? = some o) (hg:o.guard=some (j,b)) (hs:(aj[j]?).bind (·.dst)=some s) {tm:List (Nat × AV)} {hl:Nat->Option Ob} (ak:lkT tm s = .d (.bool c)) (al:c≠b) {av:AV} :
  DJ P E aj i ⟨Sg o.op.operands.toList++[s],o.dst,⟨.gd s b av,[],[]⟩⟩ (lkT tm) hl:=by
 intro st a w ⟨β,S,hR⟩ hlk hA hd hcw Q;have ao:tmv a s = .bool c:=by
  have h1:=Q4s hR (.tmp s);rw [show evO st.tm (.tmp s)=lkT st.tm s from rfl,hlk s (by simp),ak] at h1;exact h1.bool_inv
 have ac:¬ tmv a s = .bool b:=by simp_all
 unfold wpOp;simp only [hi,Region.wanted,hg];rw [Qj9 (fun h=>ac ((LE hs).1 h))];exact Bf hd ⟨β,S,hR,.gdF _ _ _ ac⟩
theorem AG {spec:Q5i} {tt:TT} (hS:BC P spec) (hT:TOk P tt) {aj:Array Oper} {R:Type}:∀ (l:List Oper) (i:Nat) (st:St) (acc:List Rec) (k:St->List Rec->Option R) (r:R),(∀ j,l[j]? = aj[i+j]?) ->
  Q1g spec tt aj l st acc k=some r->∃ recs st',recs.length=l.length/\k st' (acc++recs)=some r/\AA P E aj i st recs st'
 |[],i,st,acc,k,r,_,h=>⟨[],st,rfl,by grind [Q1g],rfl⟩
 |o::l,i,st,acc,k,r,hl,h=>by
  have h0:aj[i]? = some o:=by simpa using (hl 0).symm
  have next:∀ rc,rc.dst=o.dst->Q3V st rc->DJ P E aj i rc (lkT st.tm) (look st.h)->Q1g spec tt aj l (put st rc.dst rc.dl) (acc++[rc]) k=some r->∃ recs st',recs.length=(o::l).length/\k st' (acc++recs)=some r/\AA P E aj i st recs st':=by
   intro rc hd hs ar h;obtain ⟨recs,st',h1,h2,h3⟩:=AG hS hT l (i+1) _ _ k r (fun j=>by have:=hl (j+1);grind) h;exact ⟨rc::recs,st',by simp [h1],by simp_all,⟨o,h0,hd⟩,hs,ar,h3⟩
  have one:∀ (j s:Nat) (w c:Bool),o.guard=some (j,w)->(aj[j]?).bind (·.dst)=some s->lkT st.tm s = .d (.bool c)->Q71 spec tt o s w c st (fun st' rec=>Q1g spec tt aj l st' (acc++[rec]) k)=some r->∃ recs st',recs.length=(o::l).length/\k st' (acc++recs)=some r/\AA P E aj i st recs st':=by
   intro j s w c hg hs ac h;unfold Q71 at h;cases hb:(bif c then w else !w) with
   |true=>
    simp only [hb,QiV] at h;have ao:c=w:=by grind
    subst ao;obtain ⟨dl,h,ak⟩:=Ec (E:=E) hS hT h;obtain ⟨al,hk⟩:=NB h;exact next _ rfl al (Q50 h0 hg hs ac (ak rfl)) hk
   |false=>
    simp only [hb,Qj8] at h;have ao:c≠w:=by grind
    obtain ⟨al,hk⟩:=NB h;exact next _ rfl al (Qa4 h0 hg hs ac ao) hk
  rw [Q1g] at h;split at h
  ·rename_i hg;obtain ⟨dl,h,ak⟩:=Ec (E:=E) hS hT h;obtain ⟨al,hk⟩:=NB h;exact next _ rfl al (Q0G h0 hg (ak rfl)) hk
  ·rename_i j w hg;split at h
   ·rename_i s hs;split at h
    ·rename_i c ac;cases c with
     |true=>
      simp only [QiV,BR ac] at h;exact one j s w true hg hs ac h
     |false=>
      simp only [Qj8,BR ac] at h;exact one j s w false hg hs ac h
    ·cases h
   ·cases h
theorem Q8j {ak:Array Oper} {Q:Exit->Act->World->Prop} {st':St} (hQ:∀ a w,HK E st' a w->Q .normal a w):∀ (recs:List Rec) (i:Nat) (st:St) (a:Act) (w:World),AA P E ak i st recs st'->HK E st a w ->
  wpOps P ak Q (List.range' i recs.length) a w
 |[],i,st,a,w,h,hR=>by
  simp only [AA] at h;subst h;exact hQ a w hR
 |rc::rs,i,st,a,w,h,hR=>by
  obtain ⟨_,hs,ac,aj⟩:=h;simp only [List.length_cons,List.range'_succ];rw [wpOps_cons];exact wpOp_mono (fun a' w' al=>Q8j hQ rs (i+1) _ a' w' aj al) (ac st a w hR (fun _ _=>rfl) (fun _ _=>rfl) hs.1 hs.2 Q)
end

section
variable {P:Program} {E:Env} {R:Type}
def Lst (listed:Array Bool) (i:Nat):Prop:=listed.getD i false=true
def QaM (listed:Array Bool) (es:List Edge):Prop:=∀ e∈es,Region.binds .any e=true->Lst listed e.on
def Q9Z (ac:List Oper) (listed:Array Bool):Prop:=∀ (j:Nat) (o:Oper),ac[j]? = some o->Lst listed j->QaM listed o.after.toList
theorem Q12 (acc:List Nat) (i:Nat):∀ (es:List Edge) (s:Nat),(Q49 acc es s).testBit i=true->s.testBit i=true\/∃ e∈es,Region.binds .any e=true/\(e.on=i\/(acc.getD e.on 0).testBit i=true)
 |[],s,h=>.inl h
 |e::r,s,h=>by
  simp only [Q49] at h;rcases Q12 acc i r _ h with h1 | ⟨e',h1,h2⟩
  ·cases hb:Region.binds .any e with
   |false=>rw [hb] at h1;exact .inl (by simpa using h1)
   |true=>
    rw [hb] at h1;simp only [QiV,Nat.testBit_or,Qj3] at h1;rcases h1 with (h1 | h1) | h1
    ·exact .inl h1
    ·refine .inr ⟨e,by simp,hb,.inl ?_⟩;rw [Nat.testBit_two_pow] at h1;simpa using h1
    ·exact .inr ⟨e,by simp,hb,.inr h1⟩
  ·exact .inr ⟨e',by simp [h1],h2⟩
theorem Q79 (ac:List Oper):∀ (l:List Oper) (acc:List Nat),(∀ k,l[k]? = ac[acc.length+k]?) ->
  (∀ (j i m:Nat) (o:Oper),acc[j]? = some m->ac[j]? = some o->m.testBit i=true->∀ listed,Q9Z ac listed->QaM listed o.after.toList->Lst listed i) ->
  (Q2t l acc).length=acc.length+l.length /\
  ∀ (j i m:Nat) (o:Oper),(Q2t l acc)[j]? = some m->ac[j]? = some o->m.testBit i=true->∀ listed,Q9Z ac listed->QaM listed o.after.toList->Lst listed i
 |[],acc,_,h=>⟨by simp [Q2t],h⟩
 |o::l,acc,hl,h=>by
  have h0:ac[acc.length]? = some o:=by simpa using (hl 0).symm
  have:=Q79 ac l (acc++[Q49 acc o.after.toList 0]) (fun k=>by
   have:=hl (k+1)
   grind) (fun j i m o' h1 h2 h3 listed hc hp=>by
   by_cases hj:j<acc.length
   ·grind
   ·have aq:j=acc.length:=by
     grind
    subst aq;rw [List.getElem?_append_right (Nat.le_refl _)] at h1;simp at h1;subst h1;rw [h0] at h2;injection h2 with h2
    subst h2;rcases Q12 acc i _ _ h3 with h4 | ⟨e,h4,h5,h6⟩
    ·simp at h4
    ·have al:=hp e h4 h5;rcases h6 with h6 | h6
     ·rw [<- h6];exact al
     ·by_cases he:e.on<acc.length
      ·obtain ⟨m',ak⟩:∃ m',acc[e.on]? = some m':=⟨_,QiS he⟩;have an:e.on<ac.length:=by
        have:=(QiR.1 h0).1;omega
       have ho:=QiS an;refine h e.on i m' _ ak ho ?_ listed hc (hc e.on _ ho al);rw [List.getD_eq_getElem?_getD,ak] at h6;simpa using h6
      ·rw [List.getD_eq_getElem?_getD,Qjd (by omega)] at h6;simp at h6)
  grind [Q2t,Nat.add_assoc,Nat.add_comm]
def Dq (listed:Array Bool):Nat->St->List Rec->St
 |_,st,[]=>st
 |i,st,rc::rs=>Dq listed (i+1) (bif listed.getD i false then put st rc.dst rc.dl else st) rs
def lkA (listed:Array Bool) (t:Nat):Nat->AV->List Rec->AV
 |_,v,[]=>v
 |i,v,rc::rs=>lkA listed t (i+1) (if listed.getD i false=true/\rc.dst=some t then rc.dl.v else v) rs
def hA (listed:Array Bool):Nat->(Nat->Option Ob)->List Rec->Nat->Option Ob
 |_,h,[]=>h
 |i,h,rc::rs=>hA listed (i+1) (if listed.getD i false=true then Hb h rc.dl.wr else h) rs
theorem Q8s (st:St) (dst:Option Nat) (dl:Dl) (t:Nat):lkT (put st dst dl).tm t=if dst=some t then dl.v else lkT st.tm t:=by
 cases dst with
 |none=>simp [put]
 |some d=>
  grind [put,lkT,Y6,Option.some.injEq]
theorem Lj (listed:Array Bool) (t:Nat):∀ (recs:List Rec) (i:Nat) (st:St),lkT (Dq listed i st recs).tm t=lkA listed t i (lkT st.tm t) recs
 |[],_,_=>rfl
 |rc::rs,i,st=>by
  simp only [Dq,lkA];rw [Lj listed t rs];congr 1;cases hl:listed.getD i false with
  |true=>simp [Q8s]
  |false=>simp
theorem DE (listed:Array Bool):∀ (recs:List Rec) (i:Nat) (st:St),look (Dq listed i st recs).h=hA listed i (look st.h) recs
 |[],_,_=>rfl
 |rc::rs,i,st=>by
  simp only [Dq,hA];rw [DE listed rs];congr 1;cases hl:listed.getD i false with
  |true=>simp [put,Hv]
  |false=>simp
theorem Q0Z (listed:Array Bool):∀ (recs:List Rec) (i:Nat) (st:St),(Dq listed i st recs).n=st.n
 |[],_,_=>rfl
 |rc::rs,i,st=>by
  simp only [Dq];rw [Q0Z listed rs];cases listed.getD i false <;> rfl
theorem Er {L1 L2:Array Bool} {t:Nat}:∀ (recs:List Rec) (i:Nat) (v:AV),(∀ k rc,recs[k]? = some rc->rc.dst=some t->(Lst L1 (i+k)↔Lst L2 (i+k)))->lkA L1 t i v recs=lkA L2 t i v recs
 |[],_,_,_=>rfl
 |rc::rs,i,v,h=>by
  simp only [lkA];have h0:=h 0 rc rfl;have:(if L1.getD i false=true/\rc.dst=some t then rc.dl.v else v)=if L2.getD i false=true/\rc.dst=some t then rc.dl.v else v:=by
   by_cases hd:rc.dst=some t
   all_goals simp_all [Lst,Nat.add_zero]
  rw [this];exact Er rs (i+1) _ fun k aj hk hd=>by
   have:=h (k+1) aj (by simp_all) hd
   grind
theorem CZ {L1 L2:Array Bool} {l:Nat}:∀ (recs:List Rec) (i:Nat) (h1 h2:Nat->Option Ob),h1 l=h2 l->(∀ k rc,recs[k]? = some rc->l∈wrL rc.dl->(Lst L1 (i+k)↔Lst L2 (i+k)))->hA L1 i h1 recs l=hA L2 i h2 recs l
 |[],_,_,_,he,_=>he
 |rc::rs,i,h1,h2,he,h=>by
  refine CZ rs (i+1) _ _ ?_ fun k aj hk hd=>by
   have:=h (k+1) aj (by simp_all) hd
   grind
  by_cases hd:l∈wrL rc.dl
  ·have:=h 0 rc rfl hd;simp only [Lst,Nat.add_zero] at this;by_cases hl:L1.getD i false=true
   ·rw [if_pos hl,if_pos (this.1 hl)];exact Q6u hd
   simp_all
  ·have e1:∀ (c:Prop) [Decidable c] (f:Nat->Option Ob),(if c then Hb f rc.dl.wr else f) l=f l:=by
    intro c _ f;split
    ·exact V7 hd
    ·rfl
   simp_all
theorem HK.same {st st':St} {a:Act} {w:World} (h:HK E st a w) (hn:st'.n=st.n) (ht:∀ t,lkT st'.tm t=lkT st.tm t) (hh:look st'.h=look st.h):HK E st' a w:=by
 obtain ⟨β,S,hR⟩:=h;refine ⟨β,S,by rw [hn];exact hR.n,hR.dfr,fun t av aj=>?_,by rw [hh];exact hR.hr⟩;rw [hh];have h1:lkT st.tm t=av:=by grind [lkT]
 unfold lkT at h1;cases hl:look st.tm t with
 |none=>rw [hl] at h1;subst h1;exact .top _
 |some b=>rw [hl] at h1;subst h1;exact hR.tm t _ hl
end

section
variable {P:Program} {E:Env} {R:Type}
theorem CO {x:Nat}:∀ {l:List Nat},S6 x l=true↔x∈l
 |[]=>by simp [S6]
 |a::r=>by
  simp only [S6,Qj3,QiU,CO (l:=r)];constructor
  ·rintro (h | h)
   ·exact .inl (QiO h).symm
   ·exact .inr h
  ·rintro (h | h)
   ·subst h;exact .inl (Qje _)
   ·exact .inr h
theorem RP {a b:List Nat} {x:Nat} (h1:x∈a) (h2:x∈b):Tk a b=true:=by
 grind [Tk,List.any_eq_true,An]
theorem EV {i:Nat} {a:Rec} {news:List Nat}:∀ {rs:List Rec} {ms:List Nat},Ba i a news rs ms=true->∀ (k:Nat) (b:Rec),rs[k]? = some b->∃ m,ms[k]? = some m /\
  (Uk a b=true\/(∃ l∈news,DW l b=true)\/Qey a.dst b.dl.v=true->m.testBit i=true)
 |[],_,_,k,b,hb=>by simp at hb
 |b0::r,[],h,k,b,hb=>by trivial
 |b0::r,m::ms,h,k,b,hb=>by
  simp only [Ba,QiP] at h;cases k with
  |zero=>
   grind
  |succ k=>exact EV h.2 k b (by simp_all)
theorem MG {aj:St} {ac:List Nat}:∀ {wr:List (Nat × Option Ob)} {l:Nat},l∈P9 aj ac wr->Ua l wr=true
 |[],l,h=>by simp [P9] at h
 |(k,o)::r,l,h=>by
  unfold P9 at h;split at h
  ·cases hm:S6 k ac with
   |true=>simp only [hm,QiV] at h;simp [Ua,MG h]
   |false=>
    simp only [hm,Qj8,QiU] at h;rcases h with rfl | h
    ·simp [Ua]
    ·simp [Ua,MG h]
  ·simp [Ua,MG h]
theorem Q3a {aj:St} {ac:List Nat} {l:Nat} (hn:look aj.h l=none) (hs:l ∉ ac):∀ {wr:List (Nat × Option Ob)},Ua l wr=true->l∈P9 aj ac wr
 |(k,o)::r,h=>by
  simp only [Ua,Qj3,QiP] at h;by_cases hk:k=l/\o.isSome=true
  ·obtain ⟨rfl,ho⟩:=hk;obtain ⟨o',rfl⟩:=Qj7.1 ho
   grind [S6,absurd,CO,P9]
  ·have hr:Ua l r=true:=by
    grind [absurd,Nat.eq_of_beq_eq_true]
   have:=Q3a hn hs hr;unfold P9
   grind
theorem Lo {al:St}:∀ {rs:List Rec} {i:Nat} {ak:List Rec} {aj:List Nat} {ms:List Nat},LY al i ak aj rs ms=true->∀ (k:Nat) (a:Rec),rs[k]? = some a ->
  ∃ ac,(∀ l∈ac,l∈aj\/∃ k' b,k'<k/\rs[k']? = some b/\Ua l b.dl.wr=true)/\Ba (i+k) a (P9 al ac a.dl.wr) (rs.drop (k+1)) (ms.drop (k+1))=true /\
   ∀ l∈P9 al ac a.dl.wr,UQ al l=true/\(∀ b∈ak,DW l b=false)/\∀ k' b,k'<k->rs[k']? = some b->DW l b=false
 |[],i,ak,aj,ms,_,k,a,ha=>by simp at ha
 |a0::r,i,ak,aj,[],h,k,a,ha=>by simp [LY] at h
 |a0::r,i,ak,aj,m::ms,h,k,a,ha=>by
  simp only [LY,QiP] at h;obtain ⟨⟨h1,h2⟩,h3⟩:=h;cases k with
  |zero=>
   simp at ha;subst ha;refine ⟨aj,fun l hl=>.inl hl,by simpa using h1,fun l hl=>?_⟩;rw [List.all_eq_true] at h2;have:=h2 l hl;simp only [QiP,List.all_eq_true,QiW] at this;exact ⟨this.1,this.2,fun k' b hk=>by omega⟩
  |succ k=>
   obtain ⟨ac,g1,g2,g3⟩:=Lo h3 k a (by simpa using ha);refine ⟨ac,fun l hl=>?_,?_,fun l hl=>?_⟩
   ·rcases g1 l hl with g | ⟨k',b,g4,g5,g6⟩
    ·rcases List.mem_append.1 g with g | g
     ·exact .inl g
     ·exact .inr ⟨0,a0,by omega,rfl,MG g⟩
    ·exact .inr ⟨k'+1,b,by omega,by simpa using g5,g6⟩
   ·rw [show i+(k+1)=i+1+k from by omega];simpa using g2
   ·obtain ⟨g4,g5,g6⟩:=g3 l hl;refine ⟨g4,fun b hb=>g5 b (by simp [hb]),fun k' b hk hb=>?_⟩;cases k' with
    |zero=>simp at hb;subst hb;exact g5 a0 (by simp)
    |succ k'=>exact g6 k' b (by omega) (by simpa using hb)
theorem RR {l:Nat}:∀ {wr:List (Nat × Option Ob)},Ua l wr=true->l∈wr.map (·.1)
 |(k,o)::r,h=>by
  simp only [Ua,Qj3,QiP] at h;rcases h with ⟨_,h2⟩ | h
  ·simp [QiO h2]
  ·simp only [QiY,QiU];exact .inr (RR h)
theorem Dj {l:Nat}:∀ {wr:List (Nat × Option Ob)} {h:Nat->Option Ob},(∀ o,(l,o)∈wr->o.isSome=true)->(h l).isSome=true\/Ua l wr=true->(Hb h wr l).isSome=true
 |[],h,_,hs=>by
  rcases hs with hs | hs
  ·exact hs
  ·simp [Ua] at hs
 |(k,o)::r,h,hn,hs=>by
  simp only [Hb];refine Dj (fun o' ac=>hn o' (by simp [ac])) ?_;by_cases e:l=k
  ·subst e;left;rw [if_pos rfl];exact hn o (by simp)
  ·rw [Qj9 e];rcases hs with hs | hs
   ·exact .inl hs
   ·simp only [Ua,Qj3,QiP] at hs;rcases hs with ⟨_,h2⟩ | hs
    ·exact absurd (QiO h2).symm e
    ·exact .inr hs
theorem Q5Y {recs:List Rec} {l:Nat}:∀ {wr:List (Nat × Option Ob)},Qc3 recs wr=true->(l,none)∈wr->∀ b∈recs,Ua l b.dl.wr=false
 |(k,o)::r,h,hm,b,hb=>by
  rcases QiU.1 hm with e | ac
  ·injection e with e1 e2
   subst e1;subst e2;simp only [Qc3,QiP,List.all_eq_true,QiW] at h;exact h.1 b hb
  ·cases o with
   |none=>simp only [Qc3,QiP] at h;exact Q5Y h.2 ac b hb
   |some o=>simp only [Qc3] at h;exact Q5Y h ac b hb
theorem QbO:∀ {recs:List Rec} (k:Nat) (b:Rec),rmL recs=true->recs[k]? = some b->Qc3 (recs.drop k) b.dl.wr=true
 |a::r,0,b,h,hb=>by
  simp only [rmL,QiP] at h;simp at hb;subst hb;exact h.1
 |a::r,k+1,b,h,hb=>by
  simp only [rmL,QiP] at h;exact QbO k b h.2 (by simpa using hb)
theorem Q2E {listed:Array Bool} {l:Nat}:∀ (recs:List Rec) (i:Nat) (h:Nat->Option Ob),(∀ k b,recs[k]? = some b->Lst listed (i+k)->∀ o,(l,o)∈b.dl.wr->o.isSome=true)->((h l).isSome=true\/∃ k b,recs[k]? = some b/\Lst listed (i+k)/\Ua l b.dl.wr=true)->(hA listed i h recs l).isSome=true
 |[],i,h,_,hs=>by
  rcases hs with hs | ⟨k,b,hb,_⟩
  ·exact hs
  ·simp at hb
 |rc::rs,i,h,hn,hs=>by
  simp only [hA];refine Q2E rs (i+1) _ (fun k b hb hl=>hn (k+1) b (by simpa using hb) (by rw [show i+(k+1)=i+1+k from by omega];exact hl)) ?_;rcases hs with hs | ⟨k,b,hb,hl,ho⟩
  ·left;split
   ·rename_i ac;exact Dj (hn 0 rc rfl (by simpa [Lst] using ac)) (.inl hs)
   ·exact hs
  ·cases k with
   |zero=>
    simp at hb;subst hb;left;rw [if_pos (by simpa [Lst] using hl)];exact Dj (hn 0 rc rfl hl) (.inr ho)
   |succ k=>exact .inr ⟨k,b,by simpa using hb,by rw [show i+1+k=i+(k+1) from by omega];exact hl,ho⟩
theorem Q7Z {l:Nat} {st:St} {dst:Option Nat} {dl:Dl} (h1:Ao l st.tm=false) (h2:Um l dl.v=false):Ao l (put st dst dl).tm=false:=by
 cases dst <;> simp [put,Ao,h1,h2]
theorem SH {l:Nat}:∀ {wr:List (Nat × Option Ob)} {h:List (Nat × Ob)},JD l h=false->Pr l wr=false->JD l (My h wr)=false
 |[],h,h1,_=>h1
 |(k,none)::r,h,h1,h2=>by simp only [My];exact SH (Vn h1) (by simpa [Pr] using h2)
 |(k,some (.box c))::r,h,h1,h2=>by
  simp only [Pr,Qj0] at h2;simp only [My];exact SH (by simp [JD,h2.1,Vn h1]) h2.2
 |(k,some (.arr e s rows))::r,h,h1,h2=>by
  simp only [Pr] at h2;simp only [My];exact SH (by simp [JD,Vn h1]) h2
 |(k,some (.mp t f))::r,h,h1,h2=>by
  simp only [Pr] at h2;simp only [My];exact SH (by simp [JD,Vn h1]) h2
theorem Q3o {listed:Array Bool} {l:Nat}:∀ (recs:List Rec) (i:Nat) (st:St),UQ st l=true->(∀ k b,recs[k]? = some b->Lst listed (i+k)->DW l b=false)->UQ (Dq listed i st recs) l=true
 |[],_,_,h,_=>h
 |rc::rs,i,st,h,hn=>by
  simp only [Dq];refine Q3o rs (i+1) _ ?_ fun k b hb hl=>hn (k+1) b (by simpa using hb) (by rw [show i+(k+1)=i+1+k from by omega];exact hl)
  cases hl:listed.getD i false with
  |false=>exact h
  |true=>
   have:=hn 0 rc rfl hl;simp only [DW,Qj0] at this;simp only [UQ,QiP,QiW] at h ⊢;exact ⟨h.1,Q7Z h.2.1 this.1,by simp only [QiV,put];exact SH h.2.2 this.2⟩
theorem Q69 {listed:Array Bool} {d:Nat}:∀ (recs:List Rec) (i:Nat) (st:St),Q9O d st.tm=false->(∀ k b,recs[k]? = some b->Lst listed (i+k)->b.dst≠none->gds d b.dl.v=false)->Q9O d (Dq listed i st recs).tm=false
 |[],_,_,h,_=>h
 |rc::rs,i,st,h,hn=>by
  simp only [Dq];refine Q69 rs (i+1) _ ?_ fun k b hb hl=>hn (k+1) b (by simpa using hb) (by rw [show i+(k+1)=i+1+k from by omega];exact hl)
  cases hl:listed.getD i false with
  |false=>exact h
  |true=>
   cases hd:rc.dst with
   |none=>simpa [put] using h
   |some d'=>simp [put,Q9O,h,hn 0 rc rfl hl (by simp [hd])]
theorem Q6R {listed:Array Bool} {d:Nat}:∀ (recs:List Rec) (i:Nat) (st:St),Q9O d (Dq listed i st recs).tm=false->Q9O d st.tm=false/\∀ k b,recs[k]? = some b->Lst listed (i+k)->b.dst≠none->gds d b.dl.v=false
 |[],_,_,h=>⟨h,fun k b hb=>by simp at hb⟩
 |rc::rs,i,st,h=>by
  obtain ⟨h1,h2⟩:=Q6R rs (i+1) _ h;refine ⟨?_,fun k b hb hl hd=>?_⟩
  ·cases hl:listed.getD i false with
   |false=>simp_all
   |true=>
    cases hd:rc.dst with
    |none=>grind [put]
    |some d'=>simp_all [QiV,put,Q9O,Qj0]
  ·cases k with
   |zero=>
    have ak:listed.getD i false=true:=by assumption
    cases al:rc.dst with
    |none=>simp_all
    |some d'=>simp_all [QiV,put,Q9O,Qj0]
   |succ k=>grind
def Q97 (st:St):Nat->List Rec->St
 |0,_=>st
 |_,[]=>st
 |i+1,rc::rs=>Q97 (put st rc.dst rc.dl) i rs
theorem Q6j {ac:Array Oper} {st':St}:∀ {recs:List Rec} {i:Nat} {st:St},AA P E ac i st recs st'->∀ (k:Nat) (rc:Rec),recs[k]? = some rc ->
  (∃ o,ac[i+k]? = some o/\rc.dst=o.dst)/\Q3V (Q97 st k recs) rc/\DJ P E ac (i+k) rc (lkT (Q97 st k recs).tm) (look (Q97 st k recs).h)
 |[],_,_,_,k,rc,h=>by simp at h
 |r0::rs,i,st,hr,k,rc,h=>by
  obtain ⟨h1,h2,h3,h4⟩:=hr;cases k with
  |zero=>simp at h;subst h;exact ⟨h1,h2,h3⟩
  |succ k=>
   have:=Q6j h4 k rc (by simpa using h);rw [show i+1+k=i+(k+1) from by omega] at this;exact this
theorem F6 {ac:Array Oper} {st':St}:∀ {recs:List Rec} {i:Nat} {st:St},AA P E ac i st recs st'->st'=Q97 st recs.length recs
 |[],_,_,h=>h
 |_::rs,_,_,h=>F6 (recs:=rs) h.2.2.2
def Nc (n k:Nat):Array Bool:=(Array.range n).map fun i=>decide (i<k)
theorem KY {n k i:Nat} (hi:i<n):Lst (Nc n k) i↔i<k:=by
 unfold Lst Nc;simp [hi]
theorem F2 {n:Nat}:∀ (recs:List Rec) (i k:Nat) (st:St),i+recs.length<=n->Q97 st k recs=Dq (Nc n (i+k)) i st recs
 |[],i,k,st,_=>by cases k <;> rfl
 |rc::rs,i,0,st,h=>by
  simp only [Q97,Dq];have h0:¬ Lst (Nc n (i+0)) i:=by grind [KY]
  have:(Nc n (i+0)).getD i false=false:=by grind [Lst]
  have:∀ (rs:List Rec) (j:Nat) (st:St),i<j->j+rs.length<=n->Dq (Nc n i) j st rs=st:=by
   intro rs;induction rs with
   |nil=>intro j st _ _;rfl
   |cons x r ac=>
    intro j st hj hn;simp only [List.length_cons] at hn;simp only [Dq];have h0:¬ Lst (Nc n i) j:=by rw [KY (by omega)];omega
    grind [Nc,Lst]
  grind
 |rc::rs,i,k+1,st,h=>by
  simp only [List.length_cons] at h;simp only [Q97,Dq];have h0:Lst (Nc n (i+(k+1))) i:=by rw [KY (by omega)];omega
  have:(Nc n (i+(k+1))).getD i false=true:=h0;rw [this];simp only [QiV];rw [F2 (n:=n) rs (i+1) k _ (by omega),show i+1+k=i+(k+1) from by omega]
end

section
variable {P:Program} {E:Env} {R:Type}
theorem Q6Y {L:Array Bool} {t:Nat} {v0:AV}:∀ (recs:List Rec) (i k:Nat) (rc:Rec) (v:AV),recs[k]? = some rc->Lst L (i+k)->rc.dst=some t->rc.dl.v=v0->(∀ k' b,k<k'->recs[k']? = some b->Lst L (i+k')->b.dst≠some t)->lkA L t i v recs=v0
 |[],i,k,rc,v,h,_,_,_,_=>by simp at h
 |r0::rs,i,0,rc,v,h,hl,hd,hv,hlast=>by
  simp at h;subst h;simp only [lkA];have aj:L.getD i false=true:=by assumption
  rw [if_pos ⟨aj,hd⟩,hv];have:∀ (rs:List Rec) (j:Nat),(∀ k' b,rs[k']? = some b->Lst L (j+k')->b.dst≠some t)->lkA L t j v0 rs=v0:=by
   intro rs;induction rs with
   |nil=>intro j _;rfl
   |cons x r ih=>
    intro j hj;simp only [lkA];rw [Qj9 (fun h=>hj 0 x rfl h.1 h.2)];exact ih (j+1) fun k' b hb hl=>hj (k'+1) b (by simp_all) (by grind)
  exact this rs (i+1) fun k' b hb hl=>hlast (k'+1) b (by omega) (by simpa using hb) (by grind)
 |r0::rs,i,k+1,rc,v,h,hl,hd,hv,hlast=>by
  exact Q6Y rs (i+1) k rc _ (by simpa using h) (by grind) hd hv fun k' b hk hb aj=>hlast (k'+1) b (by omega) (by simpa using hb) (by grind)
theorem Q8z {L:Array Bool} {l:Nat} (h0:Nat->Option Ob):∀ (recs:List Rec) (i k:Nat) (rc:Rec) (h:Nat->Option Ob),recs[k]? = some rc->Lst L (i+k)->l∈wrL rc.dl->(∀ k' b,k<k'->recs[k']? = some b->Lst L (i+k')->l ∉ wrL b.dl)->hA L i h recs l=Hb h0 rc.dl.wr l
 |[],i,k,rc,h,hb,_,_,_=>by simp at hb
 |r0::rs,i,0,rc,h,hb,hl,hd,hlast=>by
  simp at hb;subst hb;simp only [hA];have aj:L.getD i false=true:=by assumption
  rw [if_pos aj];have:∀ (rs:List Rec) (j:Nat) (f:Nat->Option Ob),(∀ k' b,rs[k']? = some b->Lst L (j+k')->l ∉ wrL b.dl)->hA L j f rs l=f l:=by
   intro rs;induction rs with
   |nil=>intro j f _;rfl
   |cons x r ih=>
    intro j f hj;simp only [hA];rw [ih (j+1) _ fun k' b hb hl=>hj (k'+1) b (by simp_all) (by grind)];split
    ·rename_i hx;exact V7 (hj 0 x rfl hx)
    ·rfl
  rw [this rs (i+1) _ fun k' b hb hl=>hlast (k'+1) b (by omega) (by simpa using hb) (by grind)];exact Q6u hd
 |r0::rs,i,k+1,rc,h,hb,hl,hd,hlast=>by
  exact Q8z h0 rs (i+1) k rc _ (by simpa using hb) (by grind) hd fun k' b hk al aj=>hlast (k'+1) b (by omega) (by simp_all) (by grind)
theorem Q4h {st:St}:∀ {wr:List (Nat × Option Ob)},(∀ l o,(l,some o)∈wr->look st.h l=none->UQ st l=true)->WD st wr=true
 |[],_=>rfl
 |(l,o)::r,h=>by
  simp only [WD,QiP];refine ⟨?_,Q4h fun l' o' hm=>h l' o' (by simp [hm])⟩;cases o with
  |none=>rfl
  |some o=>
   cases hs:look st.h l with
   |some o'=>rfl
   |none=>exact h l o (by simp) hs
theorem Q0U {l:Nat} {o:Ob}:∀ {wr:List (Nat × Option Ob)},(l,some o)∈wr->Ua l wr=true
 |(k,o')::r,h=>by
  rcases QiU.1 h with e | h'
  ·injection e with e1 e2;subst e1;subst e2;simp [Ua]
  ·simp [Ua,Q0U h']
theorem Q4m {p q:Nat->Bool} {i:Nat}:∀ {l:List Nat},i∈l->(∀ x∈l,q x=true->p x=true)->p i=true->q i=false->l.countP q<l.countP p
 |a::r,hm,ac,hp,hq=>by
  have hr:r.countP q<=r.countP p:=List.countP_mono_left fun x hx=>ac x (by simp [hx])
  simp only [List.countP_cons];rcases QiU.1 hm with rfl | aj
  ·simp [hp,hq];omega
  ·have:=Q4m aj (fun x hx=>ac x (by simp [hx])) hp hq;have h1:=ac a (by simp);cases ak:q a
   ·simp;split <;> omega
   ·simp [h1 ak];omega
theorem Bi {listed:Array Bool} {i j:Nat} (hi:i<listed.size):Lst (listed.setIfInBounds i true) j↔j=i\/Lst listed j:=by
 unfold Lst;by_cases hj:j<listed.size
 ·by_cases e:j=i
  all_goals simp_all [Ne.symm]
 grind
theorem Q7M {es:List Edge} {i:Nat} (h:Q1J es i=true) (e:Edge) (hm:e∈es) (hb:Region.binds .any e=true):e.on<i:=by
 induction es with
 |nil=>simp at hm
 |cons e0 r ih=>
  simp only [Q1J,QiP,Qj3,QiW] at h
  grind [Nat.le_of_ble_eq_true]
theorem FU {l:List Oper} (k:Nat) (o:Oper) (e:Edge) (he:e∈o.after.toList) (hb:Region.binds .any e=true):∀ i,Mr l i=true->l[k]? = some o->e.on<i+k:=by
 induction l generalizing k with
 |nil=>simp_all
 |cons o0 r ih=>
  intro i h ho;simp only [Mr,QiP] at h;cases k with
  |zero=>simp at ho;subst ho;exact Q7M h.1 e he hb
  |succ k=>
   grind
theorem AE {ac:Array Oper} {listed:Array Bool} {i:Nat} (al:listed.size=ac.size):i∈Region.ready .any ac listed↔∃ o,ac[i]? = some o/\¬ Lst listed i/\QaM listed o.after.toList:=by
 unfold Region.ready;simp only [List.mem_filter,List.mem_range,QiP,QiW];constructor
 ·rintro ⟨h1,h2,h3⟩;have ho:=Qj5 h1;refine ⟨_,ho,?_,?_⟩
  ·simp_all [Lst,Array.getD,dite_true]
  ·rw [ho] at h3;simp only [Option.map_some,Option.getD_some,Array.all_eq_true_iff_forall_mem,Qj3,QiW] at h3;intro e he hb;rcases h3 e (by simp_all) with h4 | h4
   ·simp_all
   ·exact h4
 ·rintro ⟨o,ho,hn,hp⟩;have h1:=(QiZ.1 ho).1;have hi:i<listed.size:=by omega
  refine ⟨h1,?_,?_⟩
  ·simp_all [Lst,Array.getD,dite_true]
  ·rw [ho];simp only [Option.map_some,Option.getD_some,Array.all_eq_true_iff_forall_mem,Qj3,QiW];intro e he;cases hb:Region.binds .any e with
   |false=>simp_all
   |true=>exact .inr (hp e (by simpa using he) hb)
theorem Qap {ac:Array Oper} {aj st':St} {recs:List Rec} {Q:Exit->Act->World->Prop} (ca:recs.length=ac.size) (aw:AA P E ac 0 aj recs st') (hd:Q2X aj ac.toList recs=true) (hQ:∀ a w,HK E st' a w->Q .normal a w) :
  ∀ (fuel:Nat) (listed:Array Bool) (a:Act) (w:World),listed.size=ac.size->Q9Z ac.toList listed->(List.range ac.size).countP (fun i=>!listed.getD i false)<=fuel->HK E (Dq listed 0 aj recs) a w->wpAny P .any ac Q fuel listed a w:=by
 simp only [Q2X,QiP] at hd;obtain ⟨⟨a7,ay⟩,b1⟩:=hd;obtain ⟨b4,a9⟩:=Q79 ac.toList ac.toList [] (fun k=>by simp) (fun j i m o h1=>by simp at h1);simp only [List.length_nil,Qj4,Array.length_toList] at b4;have bq:∀ listed:Array Bool,listed.size=ac.size->Region.ready .any ac listed=[]->∀ i,i<ac.size->Lst listed i:=by
  intro listed au hr i;induction i using Nat.strongRecOn with
  |ind i ih=>
   intro hi;by_cases hl:Lst listed i
   ·exact hl
   ·exfalso;have ho:=Qj5 hi;have:i∈Region.ready .any ac listed:=(AE au).2 ⟨_,ho,hl,fun e he hb=>ih e.on (by
     have:=FU i _ e he hb 0 a7 (by simp_all);omega) (by
     have:=FU i _ e he hb 0 a7 (by rw [Qjb];exact ho);omega)⟩
    simp_all
 have bi:∀ (listed:Array Bool) (a:Act) (w:World),(∀ i,i<ac.size->Lst listed i)->HK E (Dq listed 0 aj recs) a w->Q .normal a w:=by
  intro listed a w hl hR;refine hQ a w (hR.same ?_ (fun t=>?_) ?_)
  ·rw [F6 aw,F2 (n:=ac.size) recs 0 _ aj (by omega),Q0Z,Q0Z]
  ·rw [F6 aw,F2 (n:=ac.size) recs 0 _ aj (by omega),Lj,Lj];refine Er recs 0 _ fun k rc hk _=>?_
   have bc:=(QiR.1 hk).1;rw [KY (by omega)];exact ⟨fun _=>hl _ (by omega),fun _=>by omega⟩
  ·rw [F6 aw,F2 (n:=ac.size) recs 0 _ aj (by omega),DE,DE];funext l;refine CZ recs 0 _ _ rfl fun k rc hk _=>?_
   have bc:=(QiR.1 hk).1;rw [KY (by omega)];exact ⟨fun _=>hl _ (by omega),fun _=>by omega⟩
 intro fuel;induction fuel with
 |zero=>
  intro listed a w au ba bn hR;have hl:∀ i,i<ac.size->Lst listed i:=by
   intro i hi;have h0:(List.range ac.size).countP (fun i=>!listed.getD i false)=0:=by omega
   rw [List.countP_eq_zero] at h0;have:=h0 i (by simpa using hi);simpa [Lst] using this
  refine ⟨?_,bi listed a w hl hR⟩;cases hr:Region.ready .any ac listed with
  |nil=>rfl
  |cons x xs=>
   exfalso;obtain ⟨o,ho,hn,_⟩:=(AE au).1 (by rw [hr];simp:x∈Region.ready .any ac listed);exact hn (hl x (QiZ.1 ho).1)
 |succ fuel ih=>
  intro listed a w au ba bn hR;refine ⟨fun hr=>bi listed a w (bq listed au hr) hR,fun i hi=>?_⟩;obtain ⟨o,ho,a1,bu⟩:=(AE au).1 hi;have bo:=(QiZ.1 ho).1;obtain ⟨rc,ao⟩:∃ rc,recs[i]? = some rc:=⟨_,QiS (by omega)⟩;obtain ⟨⟨o',b3,b9⟩,bm,a5⟩:=Q6j aw i rc ao;simp only [Qj4] at b3 a5;have a8:∀ (j m:Nat),(Q2t ac.toList [])[i]? = some m->m.testBit j=true->Lst listed j:=fun j m h1 h2=>a9 i j m o h1 (by rw [Qjb];exact ho) h2 listed ba bu
  have ax:∀ (j m:Nat),(Q2t ac.toList [])[j]? = some m->j<ac.size->m.testBit i=true->¬ Lst listed j:=fun j m h1 h2 h3 hl=>by
   have a4:=Qj5 h2;exact a1 (a9 j i m _ h1 (by rw [Qjb];exact a4) h3 listed ba (ba j _ (by rw [Qjb];exact a4) hl))
  have a3:∀ (p q:Nat) (x y:Rec),p<q->recs[p]? = some x->recs[q]? = some y->∃ m,(Q2t ac.toList [])[q]? = some m/\(Uk x y=true\/Qey x.dst y.dl.v=true->m.testBit p=true):=by
   intro p q x y co hx hy;obtain ⟨a2,_,g2,_⟩:=Lo ay p x hx;obtain ⟨m,hm,hc⟩:=EV g2 (q-(p+1)) y (by rw [Qj2,show p+1+(q-(p+1))=q from by omega];exact hy);rw [Qj2,show p+1+(q-(p+1))=q from by omega] at hm;refine ⟨m,hm,fun h=>?_⟩;have:=hc (by rcases h with h | h;exact .inl h;exact .inr (.inr h));simpa using this
  have bd:∀ (j:Nat) (b:Rec),j<i->recs[j]? = some b->Uk b rc=true->Lst listed j:=fun j b hj hb hc=>by
   obtain ⟨m,hm,h1⟩:=a3 j i b rc hj hb ao;exact a8 j m hm (h1 (.inl hc))
  have an:∀ (j:Nat) (b:Rec),i<j->recs[j]? = some b->Uk rc b=true\/Qey rc.dst b.dl.v=true->¬ Lst listed j:=fun j b hj hb hc=>by
   obtain ⟨m,hm,h1⟩:=a3 i j rc b hj ao hb;exact ax j m hm (by have:=(QiR.1 hb).1;omega) (h1 hc)
  have bg:∀ (k:Nat) (b:Rec),recs[k]? = some b->(k<i->Uk b rc=true)->(i<k->Uk rc b=true)->(Lst listed (0+k)↔Lst (Nc ac.size (0+i)) (0+k)):=by
   intro k b hb h1 h2;have bc:=(QiR.1 hb).1;rw [KY (by omega)];simp only [Qj4];rcases Nat.lt_trichotomy k i with h | h | h
   ·exact ⟨fun _=>h,fun _=>bd k b h hb (h1 h)⟩
   ·subst h;exact ⟨fun hl=>absurd hl a1,fun hl=>by omega⟩
   ·exact ⟨fun hl=>absurd hl (an k b h hb (.inl (h2 h))),fun hl=>by omega⟩
  have bk:Q97 aj i recs=Dq (Nc ac.size (0+i)) 0 aj recs:=F2 recs 0 i aj (by omega);have c1:∀ t,t∈rc.rt->lkT (Dq listed 0 aj recs).tm t=lkT (Q97 aj i recs).tm t:=by
   intro t ht;rw [bk,Lj,Lj];refine Er recs 0 _ fun k b hk az=>bg k b hk (fun _=>?_) (fun _=>?_)
   ·simp [Uk,inO,az,An ht]
   ·simp [Uk,inO,az,An ht]
  have c2:∀ l,l∈rc.dl.rd\/l∈wrL rc.dl->look (Dq listed 0 aj recs).h l=look (Q97 aj i recs).h l:=by
   intro l hl;rw [bk,DE,DE];refine CZ recs 0 _ _ rfl fun k b hk hw=>bg k b hk (fun _=>?_) (fun _=>?_)
   ·rcases hl with hl | hl
    ·simp [Uk,RP hw hl]
    ·simp [Uk,RP hw hl]
   ·rcases hl with hl | hl
    ·simp [Uk,RP hw hl]
    ·simp [Uk,RP hl hw]
  have c3:Q33 (Dq listed 0 aj recs) rc.dl.v rc.dst=true:=by
   have h1:=bm.1;cases br:rc.dst with
   |none=>rfl
   |some d=>
    rw [br,bk] at h1;simp only [Q33,QiP,QiW,Q0Z] at h1 ⊢;obtain ⟨g1,g2⟩:=Q6R recs 0 aj h1.2.2;refine ⟨h1.1,h1.2.1,Q69 recs 0 aj g1 fun k b hb hl hn=>?_⟩;have bc:=(QiR.1 hb).1;rcases Nat.lt_trichotomy k i with h | h | h
    ·exact g2 k b hb (by rw [KY (by omega)];omega) hn
    ·subst h;simp only [Qj4] at hl;exact absurd hl a1
    ·cases hg:gds d b.dl.v with
     |false=>rfl
     |true=>simp only [Qj4] at hl;exact absurd hl (an k b h hb (.inr (by simp [Qey,br,hg])))
  have c4:WD (Dq listed 0 aj recs) rc.dl.wr=true:=by
   refine Q4h fun l ob hm ar=>?_
   have hs:=Q0U hm;have a6:∀ k b,recs[k]? = some b->Lst listed (0+k)->∀ o,(l,o)∈b.dl.wr->o.isSome=true:=by
    intro k b hb bj o ho;simp only [Qj4] at bj;cases o with
    |some _=>rfl
    |none=>
     exfalso;rcases Nat.lt_trichotomy k i with h | h | h
     ·have:=Q5Y (QbO k b b1 hb) ho rc (List.mem_of_getElem? (i:=i-k) (by rw [Qj2,show k+(i-k)=i from by omega];exact ao));rw [hs] at this;cases this
     ·subst h;exact a1 bj
     ·have bl:Tk (wrL rc.dl) (wrL b.dl)=true:=RP (x:=l) (RR hs) (Qja.2 ⟨_,ho,rfl⟩);exact an k b h hb (.inl (by simp [Uk,bl])) bj
   rw [DE] at ar;have hz:look aj.h l=none:=by
    cases hz:look aj.h l with
    |none=>rfl
    |some cm=>
     have:=Q2E (listed:=listed) recs 0 (look aj.h) a6 (.inl (by simp [hz]));rw [ar] at this;cases this
   have b2:∀ k b,k<i->recs[k]? = some b->Ua l b.dl.wr=false:=by
    intro k b hk hb;cases hh:Ua l b.dl.wr with
    |false=>rfl
    |true=>
     have bl:Tk (wrL b.dl) (wrL rc.dl)=true:=RP (x:=l) (RR hh) (RR hs);have hc:Uk b rc=true:=by simp [Uk,bl]
     have:=Q2E (listed:=listed) recs 0 (look aj.h) a6 (.inr ⟨k,b,hb,by simpa using bd k b hk hb hc,hh⟩);rw [ar] at this;cases this
   obtain ⟨a2,g1,g2,g3⟩:=Lo ay i rc ao;have bh:l∈P9 aj a2 rc.dl.wr:=Q3a hz (fun hl=>by
    rcases g1 l hl with h | ⟨k',b,h1,h2,h3⟩
    ·simp at h
    ·rw [b2 k' b h1 h2] at h3;cases h3) hs
   obtain ⟨g4,_,g6⟩:=g3 l bh;refine Q3o recs 0 aj g4 fun k b hb hl=>?_
   simp only [Qj4] at hl;have bc:=(QiR.1 hb).1;rcases Nat.lt_trichotomy k i with h | h | h
   ·exact g6 k b h hb
   ·subst h;exact absurd hl a1
   ·cases hr:DW l b with
    |false=>rfl
    |true=>
     exfalso;obtain ⟨m,bp,hc⟩:=EV g2 (k-(i+1)) b (by rw [Qj2,show i+1+(k-(i+1))=k from by omega];exact hb);rw [Qj2,show i+1+(k-(i+1))=k from by omega] at bp;exact ax k m bp (by omega) (by have:=hc (.inr (.inl ⟨l,bh,hr⟩));simpa using this) hl
  have b6:=a5 _ a w hR c1 c2 c3 c4 Q;have aq:i<listed.size:=by omega
  refine wpOp_mono (fun a' w' bz=>?_) b6;refine ih (listed.setIfInBounds i true) a' w' (by simpa using au) ?_ ?_ ?_
  ·intro j oj a4 hl e he hb;rw [Bi aq] at hl ⊢;rcases hl with rfl | hl
   ·have:oj=o:=by
     have:ac[j]? = some oj:=by simpa using a4
     rw [ho] at this;injection this with this;exact this.symm
    subst this;exact .inr (bu e he hb)
   ·exact .inr (ba j oj a4 hl e he hb)
  ·have:(List.range ac.size).countP (fun j=>!(listed.setIfInBounds i true).getD j false)<(List.range ac.size).countP (fun j=>!listed.getD j false):=by
    refine Q4m (i:=i) (by simpa using bo) (fun x _ hx=>?_) ?_ ?_
    ·cases hl:listed.getD x false with
     |false=>rfl
     |true=>
      have:Lst (listed.setIfInBounds i true) x:=(Bi aq).2 (.inr hl);simp only [Lst] at this;rw [this] at hx;cases hx
    ·cases hl:listed.getD i false with
     |false=>rfl
     |true=>exact absurd hl a1
    ·have:Lst (listed.setIfInBounds i true) i:=(Bi aq).2 (.inl rfl);simp only [Lst] at this;rw [this];rfl
   omega
  ·have al:∀ k,k≠i->(Lst (listed.setIfInBounds i true) (0+k)↔Lst listed (0+k)):=fun k hk=>by
    rw [Bi aq];simp only [Qj4];exact ⟨fun h=>h.resolve_left hk,.inr⟩
   have bb:Lst (listed.setIfInBounds i true) (0+i):=by rw [Bi aq];exact .inl (Qj4 i)
   refine bz.same ?_ (fun t=>?_) ?_
   ·rw [Q0Z];simp [put,Q0Z]
   ·rw [Lj,Q8s];by_cases e:rc.dst=some t
    ·rw [if_pos e];refine Q6Y recs 0 i rc _ ao bb e rfl fun k' b hk hb hl=>?_
     intro az;rw [al k' (by omega)] at hl;simp only [Qj4] at hl;exact an k' b hk hb (.inl (by simp [Uk,e,az])) hl
    ·rw [Qj9 e,Lj];refine Er recs 0 _ fun k b hb az=>al k (fun e2=>?_)
     subst e2;rw [ao] at hb;injection hb with hb;subst hb
     exact e az
   ·rw [DE];funext l;have:look (put (Dq listed 0 aj recs) rc.dst rc.dl).h l=Hb (hA listed 0 (look aj.h) recs) rc.dl.wr l:=by
     simp only [put,Hv,DE]
    rw [this];by_cases e:l∈wrL rc.dl
    ·exact Q8z _ recs 0 i rc _ ao bb e fun k' b hk hb hl hw=>by
      rw [al k' (by omega)] at hl;simp only [Qj4] at hl;exact an k' b hk hb (.inl (by simp [Uk,RP e hw])) hl
    ·rw [V7 e];refine CZ recs 0 _ _ rfl fun k b hb hw=>al k (fun e2=>?_)
     subst e2;rw [ao] at hb;injection hb with hb;subst hb
     exact e hw
end

section
variable {P:Program} {E:Env} {R:Type}
def inv (ρ:List (Nat × Nat)) (k:Nat):Option Nat:=
 match ρ with
 |[]=>none
 |(l,l')::r=>if l'=k then some l else inv r k
theorem Q91 {k l:Nat}:∀ {ρ:List (Nat × Nat)},inv ρ k=some l->(l,k)∈ρ
 |(a,b)::r,h=>by
  unfold inv at h;by_cases e:b=k
  ·rw [if_pos e] at h;injection h with h;subst e;subst h;simp
  ·rw [Qj9 e] at h;simp [Q91 h]
theorem HI {ρ:List (Nat × Nat)} {f:Nat × Nat->Nat} (h:Xj (ρ.map f)=true):∀ p q,p∈ρ->q∈ρ->f p=f q->p=q:=by
 induction ρ with
 |nil=>simp_all
 |cons x r ih=>
  simp only [QiY,Xj,QiP,QiW] at h;have hx:∀ q∈r,f q≠f x:=fun q hq e=>by
   have:S6 (f x) (r.map f)=true:=CO.2 (Qja.2 ⟨q,hq,e⟩)
   simp_all
  grind
theorem Q3F {ρ:List (Nat × Nat)} (h:Xj (ρ.map (·.2))=true) {l k:Nat} (hm:(l,k)∈ρ):inv ρ k=some l:=by
 induction ρ with
 |nil=>simp at hm
 |cons x r ih=>
  obtain ⟨a,b⟩:=x;unfold inv;by_cases e:b=k
  ·have:=HI h (a,b) (l,k) (by simp) hm e
   simp_all
  ·rcases QiU.1 hm with hm | hm
   all_goals simp_all [absurd,QiY,Xj,QiP]
theorem YR {α:Type} {l:Nat} {o:α}:∀ {ρ:List (Nat × α)},look ρ l=some o->(l,o)∈ρ
 |(a,b)::r,h=>by
  rw [Y6] at h;by_cases e:l=a
  ·rw [if_pos e] at h;injection h with h;subst e;subst h;simp
  ·rw [Qj9 e] at h;simp [YR h]
theorem Sn {ρ:List (Nat × Nat)} {h:List (Nat × Ob)}:∀ {ρs:List (Nat × Nat)} {k:Nat} {o:Ob},look (EX ρ h ρs) k=some o->∃ l o',(l,k)∈ρs/\look h l=some o'/\o=Qbr ρ o'
 |[],k,o,hk=>by simp [EX,look] at hk
 |(l,l')::r,k,o,hk=>by
  unfold EX at hk;split at hk
  ·rename_i o' ac;rw [Y6] at hk;by_cases e:k=l'
   ·rw [if_pos e] at hk;injection hk with hk
    subst e;exact ⟨l,o',by simp,ac,hk.symm⟩
   ·rw [Qj9 e] at hk;obtain ⟨l2,o2,h1,h2⟩:=Sn hk;exact ⟨l2,o2,by simp [h1],h2⟩
  ·obtain ⟨l2,o2,h1,h2⟩:=Sn hk;exact ⟨l2,o2,by simp [h1],h2⟩
theorem SN {ρ:List (Nat × Nat)} {h:List (Nat × Ob)}:∀ {ρs:List (Nat × Nat)} {l k:Nat} {o:Ob},Xj (ρs.map (·.2))=true->(l,k)∈ρs->look h l=some o->look (EX ρ h ρs) k=some (Qbr ρ o)
 |[],l,k,o,_,hm,_=>by simp at hm
 |(a,b)::r,l,k,o,hn,hm,ho=>by
  have al:=hn;simp only [QiY,Xj,QiP,QiW] at hn;unfold EX;rcases QiU.1 hm with e | ac
  ·injection e with e1 e2
   subst e1;subst e2;rw [ho];simp [Y6]
  ·have aj:k≠b:=fun e=>by
    subst e;have:S6 k (r.map (·.2))=true:=CO.2 (Qja.2 ⟨(l,k),ac,rfl⟩);rw [hn.1] at this;cases this
   have ih:=SN (ρ:=ρ) (h:=h) hn.2 ac ho;split
   ·rw [Y6,Qj9 aj];exact ih
   ·exact ih
theorem J8 {ρ:List (Nat × Nat)}:∀ {l:List AV} {i:Nat},(Q2L ρ l)[i]? = (l[i]?).map (Uy ρ)
 |[],i=>by simp [Q2L]
 |a::r,0=>by simp [Q2L]
 |a::r,i+1=>by simp only [Q2L,List.getElem?_cons_succ];exact J8
theorem Zn {ρ:List (Nat × Nat)}:∀ {l:List AV},(Q2L ρ l).length=l.length
 |[]=>rfl
 |a::r=>by simp [Q2L,Zn (l:=r)]
theorem Q1k {ρ:List (Nat × Nat)} {ty:TypeId} {cells:List AV} (h:Q7j ty cells):Q7j ty (Q2L ρ cells):=by
 intro i l t hi;rw [J8,QiQ] at hi;obtain ⟨y,hy,he⟩:=hi;cases y with
 |sa l' t'=>
  simp only [Uy] at he;split at he
  ·injection he with h1 h2
   subst h2;exact h i l' _ hy
  ·cases he
 |ptr a b=>grind [Uy]
 |arr a=>grind [Uy]
 |ap a b c=>simp only [Uy] at he;split at he <;> cases he
 |_=>trivial
theorem Qb7 {ty:TypeId} {cells:List AV} {c l:Nat} (h:Q7j ty cells):Q7j ty (cells.set c (.arr l)):=by
 intro i l' t hi;rw [List.getElem?_set] at hi;split at hi
 ·simp_all
 ·exact h i l' t hi
theorem Q6J {ρ:List (Nat × Nat)} {β:Nat->Option Nat} {S:Nat->Prop} {h:List (Nat × Ob)} (hn:Xj (ρ.map (·.2))=true) {β':Nat->Option Nat} (au:∀ l k,(l,k)∈ρ->β' k=β l) {w:World} {tm:Nat->Value} {v:Value} {av:AV}
  (hv:RdA β S (look h) w tm v av):RdA β' S (look (EX ρ h ρ)) w tm v (Uy ρ av):=by
 have hβ:∀ {l l':Nat},look ρ l=some l'->β' l'=β l:=fun {l l'} hl=>au l l' (YR hl)
 have aj:∀ {l l':Nat},look ρ l=some l'->look h l=none->look (EX ρ h ρ) l'=none:=fun {l l'} hl hh=>by
  cases hk:look (EX ρ h ρ) l' with
  |none=>rfl
  |some o=>
   obtain ⟨l2,o2,h1,h2,_⟩:=Sn hk;have e1:=Q3F hn h1;rw [Q3F hn (YR hl)] at e1
   simp_all
 induction hv with
 |top v=>exact .top v
 |d v x hx=>exact .d v x hx
 |nil=>exact .nil
 |ag cs l hl _ ih=>
  refine .ag cs _ (by grind [Zn]) fun i x hx=>?_
  grind [J8,Option.map_eq_some_iff]
 |tup cs l hl _ ih=>
  refine .tup cs _ (by rw [Zn];exact hl) fun i x hx=>?_
  rw [J8,QiQ] at hx
  grind
 |fn f cs l hl _ ih=>
  refine .fn f cs _ (by rw [Zn];exact hl) fun i x hx=>?_
  rw [J8,QiQ] at hx;obtain ⟨y,hy,rfl⟩:=hx;exact ih i y hy
 |ptr l off b hb=>
  unfold Uy;split
  ·rename_i l' hl;exact .ptr _ _ _ ((hβ hl).trans hb)
  ·exact .top _
 |sa v l t b hb hv=>
  unfold Uy;split
  ·rename_i l' hl;exact .sa _ _ _ b ((hβ hl).trans hb) hv
  ·exact .top _
 |el ad row off c hs hc hr=>exact .el ad row off c hs hc hr
 |fs ad s rows hx=>exact .fs ad s rows hx
 |mpd v f hm=>exact .mpd v f hm
 |ex v=>exact .ex v
 |arr0 l e s hb hh=>
  unfold Uy;split
  ·rename_i l' hl;exact .arr0 _ e s ((hβ hl).trans hb) (SN hn (YR hl) hh)
  ·exact .top _
 |arr l b cap e s rows cs ty fz hb hh hw ar ao aq=>
  unfold Uy;split
  ·rename_i l' hl;exact .arr _ b cap e s rows cs ty fz ((hβ hl).trans hb) (SN hn (YR hl) hh) hw ar ao aq
  ·exact .top _
 |mp l b t f hb hh=>
  unfold Uy;split
  ·rename_i l' hl;exact .mp _ b t f ((hβ hl).trans hb) (SN hn (YR hl) hh)
  ·exact .top _
 |ap l i off b e s rows hb hh=>
  unfold Uy;split
  ·rename_i l' hl;exact .ap _ i off b e s rows ((hβ hl).trans hb) (SN hn (YR hl) hh)
  ·exact .top _
 |dang v av l hl hh h1=>
  cases av <;> simp [M8] at hl
  ·subst hl;unfold Uy;split
   ·rename_i l' al;exact .dang _ _ l' rfl (aj al hh) h1
   ·exact .top _
  ·subst hl;unfold Uy;split
   ·rename_i l' al;exact .dang _ _ l' rfl (aj al hh) h1
   ·exact .top _
 |gdT=>exact .top _
 |gdF=>exact .top _
theorem Q19 {ρ:List (Nat × Nat)} {tm:List (Nat × AV)} {t:Nat} {av:AV}:∀ {ks:List Nat},look (Q9y ρ tm ks) t=some av->av=Uy ρ (lkT tm t)
 |k::r,h=>by
  simp only [Q9y,Y6] at h;by_cases e:t=k
  ·rw [if_pos e] at h;injection h with h;rw [<- h,e]
  ·rw [Qj9 e] at h;exact Q19 h
theorem QaS {st:St} {a:Act} {w:World} {ρ:List (Nat × Nat)} {ks:List Nat} (h1:Xj (ρ.map (·.1))=true) (h2:Xj (ρ.map (·.2))=true) (h3:∀ l k,(l,k)∈ρ->l=k\/k<=999999) (h:HK E st a w):HK E { n:=st.n,tm:=Q9y ρ st.tm ks,h:=EX ρ st.h ρ } a w:=by
 obtain ⟨β,S,hR⟩:=h;have hβ:∀ l k,(l,k)∈ρ->(if 1000000<=k then β k else (inv ρ k).bind β)=β l:=by
  intro l k hm;split
  ·grind
  ·rw [Q3F h2 hm];rfl
 have ac:∀ {k b:Nat},(look (EX ρ st.h ρ) k).isSome=true->(if 1000000<=k then β k else (inv ρ k).bind β)=some b->∃ l,(l,k)∈ρ/\(look st.h l).isSome=true/\β l=some b:=by
  grind [Option.isSome_iff_exists,Sn]
 refine ⟨fun k=>if 1000000<=k then β k else (inv ρ k).bind β,S,hR.n,hR.dfr,fun t av ht=>?_,⟨fun k o ho=>?_,fun k k' b s1 s2 b1 b2=>?_,fun k b s1 b1=>?_,fun k b s1 b1=>?_,hR.hr.sb,hR.hr.sfr,hR.hr.s0,hR.hr.fr,fun k hk=>by simp only [if_pos hk];exact hR.hr.pin k hk,fun k b hk s1 b1=>?_⟩⟩
 ·rw [Q19 ht];refine Q6J h2 hβ ?_;unfold lkT;cases hl:look st.tm t with
  |none=>exact .top _
  |some ax=>exact hR.tm t ax hl
 ·obtain ⟨l,o',g1,g2,rfl⟩:=Sn ho;have ak:=hβ l k g1;have al:=hR.hr.ob l o' g2;cases o' with
  |box cells=>
   obtain ⟨b,ty,cs,fz,hb,hw,hf,an,hr⟩:=al;refine ⟨b,ty,cs,fz,ak.trans hb,hw,⟨hf.1,Q1k hf.2⟩,by rw [an,Zn],fun i x hx=>?_⟩;rw [J8,QiQ] at hx;obtain ⟨y,hy,rfl⟩:=hx
   grind [Q6J]
  |arr e s rows=>
   rcases al with ⟨hb,hn⟩ | ⟨b,cs,hb,hw,an,au,hr⟩
   ·exact .inl ⟨ak.trans hb,hn⟩
   ·exact .inr ⟨b,cs,ak.trans hb,hw,an,au,hr⟩
  |mp t f=>
   obtain ⟨b,hb,hm⟩:=al;exact ⟨b,ak.trans hb,hm⟩
 ·obtain ⟨l,g1,g2,g3⟩:=ac s1 b1;obtain ⟨l',aq,ar,aw⟩:=ac s2 b2;have:=hR.hr.inj l l' b g2 ar g3 aw;subst this;have:=HI h1 (l,k) (l,k') g1 aq rfl
  simp_all
 ·obtain ⟨l,g1,g2,g3⟩:=ac s1 b1;exact hR.hr.apart l b g2 g3
 ·obtain ⟨l,g1,g2,g3⟩:=ac s1 b1;exact hR.hr.own l b g2 g3
 ·obtain ⟨l,g1,g2,g3⟩:=ac s1 b1;rcases h3 l k g1 with h | h
  ·subst h;exact hR.hr.psz l b hk g2 g3
  ·omega
theorem Q3R {t k:Nat} {v av:AV}:∀ {tm:List (Nat × AV)},look (Qg4 tm t v) k=some av->(k=t/\av=v)\/look tm k=some av
 |(a,b)::r,h=>by
  unfold Qg4 at h;cases hb:Nat.beq a t with
  |true=>
   have:=QiO hb;subst this;simp only [hb,QiV,Y6] at h;by_cases e:k=a
   ·rw [if_pos e] at h;injection h with h;exact .inl ⟨e,h.symm⟩
   ·rw [Qj9 e] at h;exact .inr (by rw [Y6,Qj9 e];exact h)
  |false=>
   simp only [hb,Qj8,Y6] at h;by_cases e:k=a
   ·rw [if_pos e] at h;exact .inr (by rw [Y6,if_pos e];exact h)
   ·rw [Qj9 e] at h;rcases Q3R h with h | h
    ·exact .inl h
    ·exact .inr (by rw [Y6,Qj9 e];exact h)
theorem Q3w {β:Nat->Option Nat} {S:Nat->Prop} {st:St} {a:Act} {w:World} (hR:Rel E β S st a w) {l e s:Nat} (hc:UQ st l=true) (hn:look st.h l=none):Rel E (RG β l none) S ⟨st.n,st.tm,(l,.arr e s [])::st.h⟩ a w:=by
 have aj:∀ k,look ((l,Ob.arr e s [])::st.h) k=if k=l then some (.arr e s []) else look st.h k:=fun k=>Y6 l k _ st.h
 have ac:∀ {k b:Nat},(look ((l,Ob.arr e s [])::st.h) k).isSome=true->RG β l none k=some b->(look st.h k).isSome=true/\β k=some b:=by
  intro k b h1 h2
  simp_all [RG,if_pos,Qj9]
 refine hR.upd (fun _ h=>h) (fun _ _=>rfl) (fun k=>k=l) (fun k hk=>⟨by grind [RG],by simp_all,fun _ _ _=>rfl⟩) (fun k hk=>.inr (hk▸hc)) (fun k o hk ho=>?_) (fun k k' b h1 h2 h3 h4=>?_) (fun k b h1 h2=>?_) (fun k b h1 h2=>?_) hR.hr.sb hR.hr.sfr hR.hr.fr
 ·subst hk;rw [aj,if_pos rfl] at ho;injection ho with ho
  subst ho;exact .inl ⟨by simp [RG],rfl⟩
 ·exact hR.hr.inj k k' b (ac h1 h3).1 (ac h2 h4).1 (ac h1 h3).2 (ac h2 h4).2
 ·exact hR.hr.apart k b (ac h1 h2).1 (ac h1 h2).2
 ·exact hR.hr.own k b (ac h1 h2).1 (ac h1 h2).2
theorem CN {a:Act} {w:World}:∀ (l:List (Nat × Nat × Nat × Nat)) (st:St),HK E st a w->HK E (QdL st l) a w
 |[],st,h=>h
 |(t,l,e,s)::r,st,h=>by
  unfold QdL;split
  ·rename_i aj;cases hc:(UQ st l&&(look st.h l).isNone) with
   |false=>simp only [Qj8];exact CN r st h
   |true=>
    simp only [QiV];refine CN r _ ?_;simp only [QiP,Option.isNone_iff_eq_none] at hc;obtain ⟨β,S,hR⟩:=h;have ac:=Q3w (e:=e) (s:=s) hR hc.1 hc.2;have hv:=(hR.tm t _ (R8 aj (by simp))).nil_inv;refine ⟨_,S,ac.n,ac.dfr,fun t' av ht=>?_,ac.hr⟩;rcases Q3R ht with ⟨rfl,rfl⟩ | ht
    ·rw [hv];exact .arr0 l e s (by simp [RG]) (by simp [Y6])
    ·exact ac.tm t' av ht
  ·exact CN r st h
theorem Eg {a:Act} {w:World}:∀ (l:List (Nat × Nat × Nat × Nat × Nat)) (st:St),HK E st a w->HK E (QdE st l) a w
 |[],st,h=>h
 |(b,c,l,e,s)::r,st,h=>by
  unfold QdE;split
  ·rename_i cells a2;split
   ·rename_i ao;cases hc:(UQ st l&&(look st.h l).isNone) with
    |false=>simp only [Qj8];exact Eg r st h
    |true=>
     simp only [QiV];refine Eg r _ ?_;simp only [QiP,Option.isNone_iff_eq_none] at hc;obtain ⟨β,S,hR⟩:=h;have ax:b≠l:=fun e=>by simp_all
     have au:=Q3w (e:=e) (s:=s) hR hc.1 hc.2;have ac:look ((l,Ob.arr e s [])::st.h) b=some (.box cells):=by simp_all [Y6,Qj9]
     obtain ⟨bb,ty,cs,fz,hb,hw,hf,az,hr⟩:=au.hr.ob b _ ac;have aw:=au.set (w':=w) (o':=.box (cells.set c (.arr l))) ac hb (fun _ _=>rfl) rfl rfl rfl rfl ?_ ?_
     ·refine HK.same ⟨_,S,aw⟩ rfl (fun _=>rfl) ?_
      grind [Y6,CP]
     ·refine ⟨rfl,fun h=>?_,fun e' s' rows h=>?_,fun b2 aj al an _ _ ak=>⟨aj,al,an,ak,rfl⟩,fun t f h=>by simp_all⟩
      all_goals grind
     ·have aq:∀ k,Keep (RG β l none) (look ((l,Ob.arr e s [])::st.h)) w (RG β l none) (look ((b,.box (cells.set c (.arr l)))::rem b ((l,Ob.arr e s [])::st.h))) w k:=by
       intro k;by_cases e1:k=b
       ·subst e1;refine ⟨rfl,fun h=>?_,fun e' s' rows h=>?_,fun b2 aj al an _ _ ak=>⟨aj,al,an,ak,rfl⟩,fun t f h=>by rw [ac] at h;cases h⟩
        ·rw [ac] at h;cases h
        ·rw [ac] at h;cases h
       ·refine ⟨rfl,fun h=>by rw [Ue,Qj9 e1];exact h,fun e' s' rows h=>.inr ⟨rows,by rw [Ue,Qj9 e1];exact h,rfl⟩,fun b2 aj al an _ _ ak=>⟨aj,al,an,ak,rfl⟩,fun _ f h=>.inr ⟨f,by rw [Ue,Qj9 e1];exact h⟩⟩
      refine ⟨bb,ty,cs,fz,hb,hw,⟨hf.1,Qb7 hf.2⟩,by simpa using az,fun i x hx=>?_⟩;by_cases e1:i=c
      ·subst e1;have ay:=(QiR.1 ao).1;rw [List.getElem?_set_self ay] at hx;injection hx with hx
       subst hx;rw [(hr i _ ao).nil_inv];exact .arr0 l e s (by simp [RG]) (by rw [Ue,Qj9 (Ne.symm ax),Y6,if_pos rfl])
      ·rw [List.getElem?_set_ne (Ne.symm e1)] at hx;exact (hr i x hx).mono (fun _ h=>h) (fun _ _=>rfl) (fun k _=>aq k) (fun _ _=>rfl)
   ·exact Eg r st h
  ·exact Eg r st h
theorem Q9p {st:St} {a:Act} {w:World} (c:Cfg) (h:HK E st a w):HK E (Qd3 c st) a w:=by
 unfold Qd3;cases hc:(Xj (c.locs.map (·.1))&&(Xj (c.locs.map (·.2))&&c.locs.all fun p=>Nat.beq p.1 p.2||Nat.ble p.2 999999)) with
 |false=>simpa using h
 |true=>
  simp only [QiP] at hc;exact Eg _ _ (CN _ _ (QaS hc.1 hc.2.1 (fun l k hm=>by
   simp_all) h))
theorem Dn {l s:Nat} {rows:List (List D)}:∀ {r:List AV} {i:Nat},(fzL l s rows r)[i]? = (r[i]?).map (fzA l s rows)
 |[],i=>by simp [fzL]
 |a::r,0=>by simp [fzL]
 |a::r,i+1=>by simp only [fzL,List.getElem?_cons_succ];exact Dn
theorem SM {l s:Nat} {rows:List (List D)}:∀ {r:List AV},(fzL l s rows r).length=r.length
 |[]=>rfl
 |a::r=>by simp [fzL,SM (r:=r)]
theorem Q77 {l s:Nat} {rows:List (List D)} {t:Nat}:∀ {tm:List (Nat × AV)},look (fzT l s rows tm) t=(look tm t).map (fzA l s rows)
 |[]=>rfl
 |(a,b)::r=>by
  simp only [fzT,Y6];by_cases e:t=a
  ·simp [e]
  ·simp only [e,if_false];exact Q77
theorem Ag {l s:Nat} {rows:List (List D)} {k:Nat}:∀ {h:List (Nat × Ob)},look (QbS l s rows h) k=if k=l then none else (look h k).map (fzO l s rows)
 |[]=>by simp [QbS,look]
 |(a,b)::r=>by
  simp only [QbS];cases hb:Nat.beq a l with
  |true=>
   have:=QiO hb;subst this;simp only [QiV];rw [Ag (h:=r),Y6];by_cases e:k=a
   ·simp [e]
   ·simp [e]
  |false=>
   have ac:a≠l:=fun e=>by subst e;simp at hb
   simp only [Qj8,Y6];by_cases e:k=a
   ·subst e;simp [ac]
   ·simp only [e,if_false];exact Ag
theorem Qd1 {ty:TypeId} {l s:Nat} {rows:List (List D)} {cells:List AV} (h:Q7j ty cells):Q7j ty (fzL l s rows cells):=by
 intro i l' t hi;rw [Dn,QiQ] at hi;obtain ⟨y,hy,he⟩:=hi;cases y with
 |sa a b=>injection he with h1 h2;subst h2;exact h i a _ hy
 |arr k=>grind [fzA,Nat.beq]
 |ap k a b=>grind [fzA]
 |_=>trivial
theorem QbC {β:Nat->Option Nat} {S:Nat->Prop} {h h':Nat->Option Ob} {w:World} {l e s:Nat} {rows:List (List D)} (hO:Objs β S h w) (hh:h l=some (.arr e s rows)) (an:∀ k,h' k=if k=l then none else (h k).map (fzO l s rows)) {S':Nat->Prop} (hS:∀ b,S b->S' b) (hb:∀ b,β l=some b->S' b)
  {tm:Nat->Value} {v:Value} {av:AV} (hv:RdA β S h w tm v av):RdA β S' h' w tm v (fzA l s rows av):=by
 induction hv with
 |top v=>exact .top v
 |d v x hx=>exact .d v x (hx.mono hS (fun _ _=>rfl))
 |nil=>exact .nil
 |ag cs r hl _ ih=>
  refine .ag cs _ (by grind [SM]) fun i x hx=>?_
  grind [Dn,Option.map_eq_some_iff]
 |tup cs r hl _ ih=>
  refine .tup cs _ (by rw [SM];exact hl) fun i x hx=>?_
  rw [Dn,QiQ] at hx
  grind
 |fn f cs r hl _ ih=>
  refine .fn f cs _ (by rw [SM];exact hl) fun i x hx=>?_
  rw [Dn,QiQ] at hx;obtain ⟨y,hy,rfl⟩:=hx;exact ih i y hy
 |ptr k off b ac=>exact .ptr k off b ac
 |sa v k t b ac hv=>exact .sa v k t b ac hv
 |el ad row off c hs hc hr=>exact .el ad row off c (hS _ hs) hc (fun j x hx=>(hr j x hx).mono hS (fun _ _=>rfl))
 |fs ad s rows hx=>exact .fs ad s rows (hx.mono hS (fun _ _=>rfl))
 |mpd v f hm=>exact .mpd v f (hm.mono hS (fun _ _=>rfl))
 |ex v=>exact .ex v
 |arr0 k e' s' ac hk=>
  unfold fzA;cases al:Nat.beq k l with
  |true=>
   obtain rfl:=QiO al;rw [hh] at hk;injection hk with hk
   injection hk with _ _ hk
   subst hk;exact .d _ _ (.sl0 _ _ _)
  |false=>
   have aj:k≠l:=fun e=>by simp_all
   exact .arr0 k e' s' ac (by rw [an,Qj9 aj,hk];rfl)
 |arr k b cap e' s' ak cs ty fz ac hk hw au ao aq=>
  unfold fzA;cases al:Nat.beq k l with
  |true=>
   obtain rfl:=QiO al;exact .d _ _ (Q72 hO hh (RdA.arr (tm:=tm) k b cap e' s' ak cs ty fz ac hk hw au ao aq) hS hb)
  |false=>
   have aj:k≠l:=fun e=>by subst e;simp at al
   exact .arr k b cap e' s' ak cs ty fz ac (by rw [an,Qj9 aj,hk];rfl) hw au ao aq
 |mp k b t f ac hk=>
  unfold fzA;cases al:Nat.beq k l with
  |true=>
   simp_all
  |false=>
   have aj:k≠l:=fun e=>by subst e;simp at al
   exact .mp k b t f ac (by rw [an,Qj9 aj,hk];rfl)
 |ap k i off b e' s' ak ac hk=>
  unfold fzA;cases al:Nat.beq k l with
  |true=>exact .top _
  |false=>
   have aj:k≠l:=fun e=>by subst e;simp at al
   exact .ap k i off b e' s' ak ac (by rw [an,Qj9 aj,hk];rfl)
 |dang v av k hl hk h1=>
  have aj:k≠l:=fun e=>by simp_all
  have hn:h' k=none:=by rw [an,Qj9 aj,hk];rfl
  cases av <;> simp [M8] at hl
  ·subst hl;unfold fzA;rw [QcQ aj];exact .dang _ _ _ rfl hn h1
  ·subst hl;unfold fzA;rw [QcQ aj];exact .dang _ _ _ rfl hn h1
 |gdT=>exact .top _
 |gdF=>exact .top _
theorem Qdv {st:St} {a:Act} {w:World} (l:Nat) (h:HK E st a w):HK E (fz1 st l) a w:=by
 unfold fz1;split
 case h_2=>exact h
 rename_i e s rows hl;obtain ⟨β,S,hR⟩:=h;have hO:=hR.objs;have ar:∀ k,look (QbS l s rows st.h) k=if k=l then none else (look st.h k).map (fzO l s rows):=fun k=>Ag
 have hS:∀ b,S b->fzS β S [l] b:=fun b hb=>.inl hb
 have aw:∀ b,β l=some b->fzS β S [l] b:=fun b hb=>.inr ⟨l,by simp,hb⟩
 have ac:∀ k,(look (QbS l s rows st.h) k).isSome=true->(look st.h k).isSome=true/\k≠l:=by
  grind
 refine ⟨β,fzS β S [l],hR.n,hR.dfr,fun t av ht=>?_,⟨fun k o ho=>?_,fun k k' b h1 h2=>hR.hr.inj k k' b (ac k h1).1 (ac k' h2).1,fun k b h1 h2 aj=>?_,fun k b h1 h2=>hR.hr.own k b (ac k h1).1 h2,fun b aj=>?_,fun b aj=>?_,fun b hb=>.inl (hR.hr.s0 b hb),hR.hr.fr,hR.hr.pin,fun k b hk h1=>hR.hr.psz k b hk (ac k h1).1⟩⟩
 ·rw [Q77,QiQ] at ht;obtain ⟨a3,h1,rfl⟩:=ht;exact QbC hO hl ar hS aw (hR.tm t a3 h1)
 ·simp only at ho;rw [ar] at ho;by_cases e1:k=l
  ·simp_all
  ·rw [Qj9 e1,QiQ] at ho;obtain ⟨o',a2,rfl⟩:=ho;have an:=hR.hr.ob k o' a2;cases o' with
   |box cells=>
    obtain ⟨b,ty,cs,fz,hb,hw,hf,ao,hr⟩:=an;refine ⟨b,ty,cs,fz,hb,hw,⟨hf.1,Qd1 hf.2⟩,by rw [ao,SM],fun i x hx=>?_⟩;rw [Dn,QiQ] at hx;obtain ⟨y,hy,rfl⟩:=hx
    grind [QbC]
   |arr e' s' az=>
    rcases an with h0 | ⟨b,cs,hb,hw,ao,a1,hr⟩
    ·exact .inl h0
    ·refine .inr ⟨b,cs,hb,hw,ao,a1,fun i j r x h4 h5=>?_⟩;obtain ⟨v,hv,ay⟩:=hr i j r x h4 h5;exact ⟨v,hv,ay.mono hS (fun _ _=>rfl)⟩
   |mp t f=>exact an
 ·obtain ⟨aq,ax⟩:=ac k h1;rcases aj with aj | ⟨l',ak,al⟩
  ·exact hR.hr.apart k b aq h2 aj
  ·simp at ak;subst ak;exact ax (hR.hr.inj k l' b aq (by simp [hl]) h2 al)
 ·rcases aj with aj | ⟨l',ak,al⟩
  ·exact hR.hr.sb b aj
  ·simp at ak;subst ak;exact Nj hR (by simp [hl]) al
 ·rcases aj with aj | ⟨l',ak,al⟩
  ·exact hR.hr.sfr b aj
  ·simp at ak;subst ak;exact .inr (hR.hr.own l' b (by simp [hl]) al)
theorem Qa6 {a:Act} {w:World}:∀ (ls:List Nat) (st:St),HK E st a w->HK E (fzs st ls) a w
 |[],_,h=>h
 |l::r,_,h=>Qa6 r _ (Qdv l h)
theorem SV (c:Cfg) {st:St} {a:Act} {w:World} (h:HK E st a w):HK E (QcH c st) a w:=Q9p _ (Qa6 c.fz st h)
theorem Q8d (c:Cfg) {st:St} {a:Act} {w:World} (h:HK E st a w):HK E (Qbn c st) a w:=by
 grind [Qbn,SV]
end

section
variable {P:Program} {E:Env} {R:Type}
theorem HK.drawn {st:St} {a:Act} {w:World} (h:HK E st a w) (n:Nat):HK E st a { w with drawn:=n }:=by
 obtain ⟨β,S,hR⟩:=h;have hA:∀ (tm:Nat->Value) (v:Value) (av:AV),RdA β S (look st.h) w tm v av->RdA β S (look st.h) { w with drawn:=n } tm v av:=fun tm v av hv=>
  hv.mono (fun _ h=>h) (fun _ _=>rfl) (fun l _=>⟨rfl,fun x=>x,fun _ _ rows hh=>.inr ⟨rows,hh,rfl⟩,fun _ cs ty fz _ _ hw=>⟨cs,ty,fz,hw,rfl⟩,fun _ f hh=>.inr ⟨f,hh⟩⟩) (fun _ _=>rfl)
 refine ⟨β,S,hR.n,hR.dfr,fun t av ht=>hA _ _ _ (hR.tm t av ht),⟨fun l o ho=>?_,hR.hr.inj,hR.hr.apart,hR.hr.own,hR.hr.sb,hR.hr.sfr,hR.hr.s0,⟨hR.hr.fr.os,hR.hr.fr.tape,hR.hr.fr.output,hR.hr.fr.size,hR.hr.fr.block⟩,hR.hr.pin,hR.hr.psz⟩⟩;have ac:=hR.hr.ob l o ho;cases o with
 |box cells=>
  obtain ⟨b,ty,cs,fz,hb,hw,hf,aj,hr⟩:=ac;exact ⟨b,ty,cs,fz,hb,hw,hf,aj,fun i x hx=>hA _ _ _ (hr i x hx)⟩
 |arr e s rows=>
  rcases ac with h0 | ⟨b,cs,hb,hw,aj,an,hr⟩
  ·exact .inl h0
  ·refine .inr ⟨b,cs,hb,hw,aj,an,fun i j r x h4 h5=>?_⟩;obtain ⟨v,hv,ak⟩:=hr i j r x h4 h5;exact ⟨v,hv,Rd.mono (w:=w) (w':={ w with drawn:=n }) (fun _ h=>h) (fun _ _=>rfl) ak⟩
 |mp t f=>exact ac
structure VCOk (P:Program) (C:VC):Prop where
 spec:BC P C.spec
 tt:TOk P C.tt
 mixed:P.follows .mixedOrders=true
def Q0k (E:Env) (k:Exit->St->Option R) (r:R):Exit->Act->World->Prop:=fun e a w=>∃ st,HK E st a w/\k e st=some r
theorem Fe {C:VC} (hC:VCOk P C) {id:Nat} {ac:Array Oper} {aj:Bool} {st:St} {k:St->Option R} {r:R} (h:Q1j C id ac aj st k=some r) {a:Act} {w:World} (hR:HK E st a w) {Q:Exit->Act->World->Prop}
  (hQ:∀ st' a' w',HK E st' a' w'->k st'=some r->Q .normal a' w'):(Code.region id ac aj).wp P Q a w:=by
 unfold Q1j at h;obtain ⟨recs,st',ak,h,al⟩:∃ recs st',recs.length=ac.toList.length/\(fun st' recs=>bif !aj||Q2X st ac.toList recs then (match look C.cfg id with | some c=>k (Qbn c st') | none=>k st') else none) st' ([]++recs)=some r/\AA P E ac 0 st recs st':=by
  cases hs:(look C.cfg (id+1000000000)).isSome with
  |true=>simp only [hs,QiV] at h;exact AG (E:=E) hC.spec hC.tt ac.toList 0 st [] _ r (fun j=>by simp) h
  |false=>simp only [hs,Qj8] at h;exact Q16 (E:=E) hC.spec hC.tt ac.toList 0 st [] _ r (fun j=>by simp) h
 simp only [List.nil_append] at h;cases hc:(!aj||Q2X st ac.toList recs) with
 |false=>simp_all
 |true=>
  simp only [hc,QiV] at h;have an:∀ a w,HK E st' a w->Q .normal a w:=by
   grind [Q8d]
  simp only [Array.length_toList] at ak;cases aj with
  |false=>
   grind [wp_region,Q8j,List.range_eq_range']
  |true=>
   simp only [Bool.not_true,Bool.false_or] at hc;refine wp_region_any hC.mixed ?_;refine Qap ak al hc an ac.size _ a _ (by simp) ?_ ?_ ?_
   ·intro j o _ hl
    simp_all [Lst,Array.getD]
   ·refine Nat.le_trans List.countP_le_length ?_;simp
   ·have h0:∀ (rs:List Rec) (i:Nat) (s:St),Dq (Array.replicate ac.size false) i s rs=s:=by
     intro rs;induction rs with
     |nil=>intro i s;rfl
     |cons x r ih=>
      intro i s;simp only [Dq];have:(Array.replicate ac.size false).getD i false=false:=by simp [Array.getD]
      rw [this];exact ih (i+1) s
    rw [h0];exact hR.drawn _
theorem AK {c:Code} {aj:St->(Exit->St->Option R)->Option R} (ac:∀ (st:St) (k:Exit->St->Option R) (r:R),aj st k=some r->∀ a w,HK E st a w->c.wp P (Q0k E k r) a w) :
  ∀ (n:Nat) (st:St) (k:Exit->St->Option R) (r:R),Q8l aj n st k=some r->∀ a w,HK E st a w->Code.rounds P c (Q0k E k r) n a w
 |0,st,k,r,h=>by simp [Q8l] at h
 |n+1,st,k,r,h=>by
  intro a w hR;simp only [Q8l] at h;rw [rounds_succ];refine wp_mono (ac st _ r h a w hR) fun e a' w' hp=>?_
  obtain ⟨st',ak,hk⟩:=hp;cases e with
  |normal=>exact AK ac n st' k r hk a' w' ak
  |exit id=>exact ⟨st',ak,hk⟩
  |ret=>exact ⟨st',ak,hk⟩
  |_=>cases hk
theorem Q4Q {C:VC} (hC:VCOk P C) (n:Nat):∀ (c:Code) (st:St) (k:Exit->St->Option R) (r:R),BD C n c st k=some r->∀ a w,HK E st a w->c.wp P (Q0k E k r) a w:=by
 intro c;induction c with
 |skip=>intro st k r h a w hR;exact wp_skip ⟨st,hR,h⟩
 |region id aq ao=>
  intro st k r h a w hR;exact Fe hC h hR fun st' a' w' ac hk=>⟨st',ac,hk⟩
 |seq x y al aj=>
  intro st k r h a w hR;refine wp_seq (wp_mono (al st _ r h a w hR) fun e a' w' hp=>?_);obtain ⟨st',ac,hk⟩:=hp;cases e with
  |normal=>exact aj st' k r hk a' w' ac
  |exit id=>exact ⟨st',ac,hk⟩
  |ret=>exact ⟨st',ac,hk⟩
  |_=>cases hk
 |cond c x y al aj=>
  intro st k r h a w hR;simp only [BD] at h;split at h
  ·rename_i e he;obtain ⟨β,S,ak⟩:=hR;have hv:=(he▸Q4s ak c).bool_inv;refine wp_cond hv ?_;cases e with
   |true=>exact al st k r (by simpa using h) a w ⟨β,S,ak⟩
   |false=>exact aj st k r (by simpa using h) a w ⟨β,S,ak⟩
  ·cases h
 |block id c ih=>
  intro st k r h a w hR;refine wp_block (wp_mono (ih st _ r h a w hR) fun e a' w' hp=>?_);obtain ⟨st',ac,hk⟩:=hp;cases e with
  |normal=>exact ⟨st',ac,hk⟩
  |exit j=>
   cases hb:Nat.beq j id with
   |true=>
    simp only [hb,QiV] at hk;have:=QiO hb;simp only [Exit.inBlock,this,if_true];exact ⟨st',ac,hk⟩
   |false=>
    simp only [hb,Qj8] at hk;have an:¬ j=id:=fun e=>by simp_all
    simp only [Exit.inBlock,an,if_false];exact ⟨st',ac,hk⟩
  |ret=>exact ⟨st',ac,hk⟩
  |_=>cases hk
 |loop c ih=>
  intro st k r h a w hR;refine wp_loop_rounds _ (AK (fun st k r h a w hR=>ih _ k r h a w ?_) _ st k r h a w hR)
  grind [Q0M,SV]
 |exit id=>intro st k r h a w hR;exact wp_exit ⟨st,hR,h⟩
 |ret=>intro st k r h a w hR;exact wp_ret ⟨st,hR,h⟩
 |_=>grind [BD]
theorem Mb:∀ (t:Nat) (av:AV),NN av=true->gds t av=false
 |t,.gd ..,h=>by simp [NN] at h
 |t,.ag l,h=>by
  simp only [gds];exact go t l (by simpa [NN] using h)
 |t,.tup l,h=>by
  simp only [gds];exact go t l (by simpa [NN] using h)
 |t,.fn _ l,h=>by
  simp only [gds];exact go t l (by simpa [NN] using h)
 |t,.top,_=>rfl
 |t,.d _,_=>rfl
 |t,.nil,_=>rfl
 |t,.ptr ..,_=>rfl
 |t,.el ..,_=>rfl
 |t,.fs ..,_=>rfl
 |t,.mpd _,_=>rfl
 |t,.ex _,_=>rfl
 |t,.arr _,_=>rfl
 |t,.ap ..,_=>rfl
 |t,.sa ..,_=>rfl
where
 go:∀ (t:Nat) (l:List AV),HF l=true->AS t l=false
 |_,[],_=>rfl
 |t,a::r,h=>by
  simp only [HF,QiP] at h;simp only [AS,Qj0];exact ⟨Mb t a h.1,go t r h.2⟩
theorem Q0R:∀ {args:List AV} {i t:Nat} {av:AV},look (Q3G i args) t=some av->∃ j,t=i+j/\args[j]? = some av
 |a::r,i,t,av,h=>by
  simp only [Q3G,Y6] at h;by_cases e:t=i
  ·rw [if_pos e] at h;injection h with h;exact ⟨0,by omega,by simp [h]⟩
  ·rw [Qj9 e] at h;obtain ⟨j,h1,h2⟩:=Q0R h;exact ⟨j+1,by omega,by simpa using h2⟩
theorem Q3d:∀ {l:List AV} {i:Nat} {x:AV},HF l=true->l[i]? = some x->NN x=true
 |a::r,i,x,h,hx=>by
  simp only [HF,QiP] at h;cases i with
  |zero=>simp at hx;subst hx;exact h.1
  |succ i=>exact Q3d h.2 (by simpa using hx)
def Q55 (tmps:Array Value):ResultVar->Sem Value
 |.tmp t=>pure (tmps.getD t undef)
 |.cell x t=>do loadVar t (<- asAddr (tmps.getD x undef))
theorem Q1c (fn:Func) (tmps:Array Value):results fn tmps=(do
  let vs <- fn.results.mapM (Q55 tmps)
  pure (if h:vs.size=1 then vs[0] else .tuple vs)):=rfl
theorem Q0K {w:World} {ad:Addr}:(asAddr (.pointer (some ad))).run P w = .ok ad w:=by simp [asAddr]
theorem Q47 {C:VC} (hC:VCOk P C) {st:St} {a:Act} {w:World} {β:Nat->Option Nat} {S:Nat->Prop} (hR:Rel E β S st a w) {rv:ResultVar} {av:AV} (h:Q41 C.tt st rv=some av) :
  ∃ v,(Q55 a.tmps rv).run P w = .ok v w/\RdA β S (look st.h) w (tmv a) v av:=by
 cases rv with
 |tmp t=>
  simp only [Q41,Option.some.injEq] at h;subst h;exact ⟨_,rfl,Q4s hR (.tmp t)⟩
 |cell x ty=>
  simp only [Q41] at h;split at h
  ·rename_i l off hl;obtain ⟨b,hb,hv⟩:=(hR.tm x _ (R8 hl (by simp))).ptr_inv;split at h
   ·rename_i cells ti ao ay;have aq:=hC.tt ty ti ay;obtain ⟨b',a2,cs,fz,a6,hw,_,a3,hr⟩:=hR.hr.ob l _ ao;obtain rfl:b=b':=by simp_all
    have hx:a.tmps.getD x undef = .pointer (some ⟨b,off,none⟩):=hv;cases hs:Vv ti.kd with
    |true=>
     simp only [hs,QiV] at h;split at h
     ·rename_i a4 az;cases h;obtain ⟨h1,h2,h3⟩:=RN az;have ak:∀ j,j<ti.size->off+j<cs.size:=fun j hj=>by
       grind
      have ac:=K6 aq hs (w:=w) (a:=⟨b,off,none⟩) (vs:=(List.range ti.size).map fun j=>cs.getD (off+j) undef) (by simp) (fun j v hv=>by
       simp only [List.getElem?_map,QiQ] at hv;obtain ⟨j',aw,rfl⟩:=hv;obtain ⟨aj,he⟩:=QiR.1 aw;simp at aj he;subst he;rw [HD,Jt hw];exact T2 (ak j aj))
      refine ⟨.agg ((List.range ti.size).map fun j=>cs.getD (off+j) undef).toArray,by simp only [Q55,hx,QiX,Q0K,QiT,ac],.ag _ _ (by simp [h1]) fun i y hy=>?_⟩;have hi:i<ti.size:=by
       obtain ⟨h6,_⟩:=QiR.1 hy;omega
      rw [Fw (v:=cs.getD (off+i) undef) (by simp [hi])];exact (hr (off+i) y ((h2 i hi).trans hy)).any_tm (h3 i y hy)
     ·cases h
    |false=>
     simp only [hs,Qj8] at h;split at h
     ·rename_i c hc;cases al:Q0C c with
      |false=>simp [al] at h
      |true=>
       simp only [al,QiV,Option.some.injEq] at h;subst h;have ak:off<cs.size:=by
        obtain ⟨h6,_⟩:=QiR.1 hc;omega
       have ac:=GT aq hs (w:=w) (a:=⟨b,off,none⟩) (v:=cs.getD off undef) (by rw [Jt hw];exact T2 ak);exact ⟨cs.getD off undef,by simp only [Q55,hx,QiX,Q0K,QiT,ac],(hr off c hc).any_tm al⟩
     ·cases h
   ·cases h
  ·cases h
theorem DD {C:VC} (hC:VCOk P C) {st:St} {a:Act} {w:World} {β:Nat->Option Nat} {S:Nat->Prop} (hR:Rel E β S st a w):∀ {rs:List ResultVar} {ac:List AV},Q1b C.tt st rs=some ac ->
  ∃ vs:List Value,(rs.mapM (Q55 a.tmps)).run P w = .ok vs w/\vs.length=ac.length/\HF ac=true /\
   ∀ (i:Nat) (v:Value) (av:AV),vs[i]? = some v->ac[i]? = some av->RdA β S (look st.h) w (tmv a) v av
 |[],ac,h=>by
  simp only [Q1b,Option.some.injEq] at h;subst h;exact ⟨[],by simp,rfl,rfl,fun i v av h=>by simp at h⟩
 |r::rs,ac,h=>by
  simp only [Q1b] at h;split at h
  ·rename_i x hx;split at h
   ·rename_i l hl;cases hg:NN x with
    |false=>simp [hg] at h
    |true=>
     simp only [hg,QiV,Option.some.injEq] at h;subst h;obtain ⟨v,hv,an⟩:=Q47 hC hR hx;obtain ⟨vs,h1,h2,h3,h4⟩:=DD hC hR hl;refine ⟨v::vs,?_,by simp [h2],by simp [HF,hg,h3],fun i u av hu aj=>?_⟩
     ·simp only [List.mapM_cons,QiX,hv,h1,QiT,Sem.run_pure]
     ·cases i with
      |zero=>simp at hu aj;subst hu;subst aj;exact an
      |succ i=>exact h4 i u av (by simpa using hu) (by simpa using aj)
   ·cases h
  ·cases h
theorem Q5P {C:VC} (hC:VCOk P C) {st:St} {a:Act} {w:World} {β:Nat->Option Nat} {S:Nat->Prop} (hR:Rel E β S st a w) {fn:Func} {av:AV} (h:Q24 C.tt st fn.results.toList=some av) :
  ∃ v,(results fn a.tmps).run P w = .ok v w/\RdA β S (look st.h) w tm0 v av/\NN av=true:=by
 have ak:∀ (v:Value) (av:AV),NN av=true->RdA β S (look st.h) w (tmv a) v av->RdA β S (look st.h) w tm0 v av:=fun v av hg hr=>
  hr.mono (fun _ h=>h) (fun _ _=>rfl) (fun l _=>Keep.rfl_ ..) (fun t ht=>by grind [Mb])
 unfold Q24 at h;have an:∀ ac,Q1b C.tt st fn.results.toList=some ac->∃ vs:List Value,(fn.results.mapM (Q55 a.tmps)).run P w = .ok vs.toArray w/\vs.length=ac.length/\HF ac=true /\
   ∀ (i:Nat) (v:Value) (av:AV),vs[i]? = some v->ac[i]? = some av->RdA β S (look st.h) w (tmv a) v av:=by
  intro ac ha;obtain ⟨vs,h1,h2,h3,h4⟩:=DD hC hR ha;refine ⟨vs,?_,h2,h3,h4⟩;rw [<- Array.toList_mapM,Sem.run_map] at h1;cases hr:(fn.results.mapM (Q55 a.tmps)).run P w with
  |ok b w'=>
   rw [hr] at h1;simp only [QiT,Result.ok.injEq] at h1;obtain ⟨h5,rfl⟩:=h1;congr 1
   grind
  |halt x w'=>simp_all
 split at h
 ·rename_i x hx;cases h;obtain ⟨vs,h1,h2,h3,h4⟩:=an _ hx
  match vs,h2 with
  |[v],_=>
   have hg:NN av=true:=by grind [HF]
   refine ⟨v,?_,ak v av hg (h4 0 v av rfl rfl),hg⟩
   simp_all [Q1c,QiX,QiT]
 ·rename_i l ao hl;cases h;obtain ⟨vs,h1,h2,h3,h4⟩:=an _ hl;have hg:NN (.tup l)=true:=by simpa [NN] using h3
  have ar:¬ vs.toArray.size=1:=by
   intro h5;simp only [List.size_toArray] at h5
   match l,h5.symm.trans h2 with
   |[x],_=>exact ao x rfl
  refine ⟨.tuple vs.toArray,?_,ak _ _ hg (.tup _ _ (by simpa using h2) fun i x hx=>?_),hg⟩
  ·rw [Q1c];simp only [QiX,h1,QiT,ar,dite_false];rfl
  ·have hi:i<vs.length:=by have:=(QiR.1 hx).1;omega
   have hv:=QiS hi;rw [Fw hv];exact h4 i _ x hv hx
 ·cases h
def M5 (H:List (Nat × Ob)) (k:AV->List (Nat × Ob)->Option R) (r:R) (β:Nat->Option Nat) (S:Nat->Prop) (w:World):Ending->World->Prop:=fun e w'=>
 ∃ v av H' β' S',e = .returned v/\k av H'=some r/\RdA β' S' (look H') w' tm0 v av/\NN av=true/\HRel ⟨w,fun b=>∃ l,(look H l).isSome=true/\β l=some b,S,β⟩ β' S' (look H') w'
def fnK (tt:TT) (fn:Func) (k:AV->List (Nat × Ob)->Option R):Exit->St->Option R:=fun e st=>match e with
 |.ret=>match Q24 tt st fn.results.toList with
  |some v=>k v st.h
  |none=>none
 |.normal=>match Q24 tt st fn.results.toList with
  |some v=>k v st.h
  |none=>none
 |_=>none
theorem Q1u {C:VC} (hC:VCOk P C) {f:Nat} {fn:Func} {c:Code} (hf:P.funcs[f]? = some fn) (hc:fn.body=some c) {args:List AV} {H:List (Nat × Ob)} {k:AV->List (Nat × Ob)->Option R} {r:R} (hb:(Nat.ble args.length fn.ntmps&&HF args)=true)
  {β:Nat->Option Nat} {S:Nat->Prop} {w:World} {vs:List Value}
  (ar:∀ a:Act,Rel ⟨w,fun b=>∃ l,(look H l).isSome=true/\β l=some b,S,β⟩ β S { n:=fn.ntmps,tm:=Q3G 0 args,h:=H } a w->c.wp P (Q0k ⟨w,fun b=>∃ l,(look H l).isSome=true/\β l=some b,S,β⟩ (fnK C.tt fn k) r) a w) (hO:Objs β S (look H) w) (hA:ArgsRd β S (look H) w vs args) :
  Calls P f vs.toArray w (M5 H k r β S w):=by
 simp only [QiP] at hb;have a5:=Qjf hb.1;refine calls_of_wp hf hc ?_;have hR:Rel ⟨w,fun b=>∃ l,(look H l).isSome=true/\β l=some b,S,β⟩ β S { n:=fn.ntmps,tm:=Q3G 0 args,h:=H } { tmps:=vs.toArray++Array.replicate (fn.ntmps-vs.toArray.size) undef,defers:=[] } w:=by
  refine ⟨by simp;have:=hA.1;omega,rfl,fun t av ht=>?_,⟨hO.ob,hO.inj,hO.apart,fun l b h1 h2=>.inl ⟨l,h1,h2⟩,hO.sb,fun b h=>.inl h,fun b h=>h,Fr.refl _ _,fun _ _=>rfl,fun _ _ _ _ _ cs ty fz hw=>⟨cs,ty,fz,hw,rfl⟩⟩⟩;obtain ⟨j,hj,ac⟩:=Q0R ht;simp only [Qj4] at hj;subst hj;have aj:t<vs.length:=by have:=(QiR.1 ac).1;have:=hA.1;omega
  have hv:=QiS aj;have al:=hA.2 t _ av hv ac;have ax:tmv { tmps:=vs.toArray++Array.replicate (fn.ntmps-vs.toArray.size) undef,defers:=[] } t=vs[t]:=by
   unfold tmv;have h5:(vs.toArray++Array.replicate (fn.ntmps-vs.toArray.size) undef)[t]? = some vs[t]:=by
    rw [Array.getElem?_append_left (by simpa using aj)];simp [aj]
   have h6:=T2 (QiZ.1 h5).1;rw [h5] at h6;injection h6 with h6
   exact h6.symm
  rw [ax];exact al.mono (fun _ h=>h) (fun _ _=>rfl) (fun l _=>Keep.rfl_ ..) (fun t' ao=>by rw [Mb t' av (Q3d hb.2 ac)] at ao;cases ao)
 refine wp_mono (ar _ hR) fun e a' w' hp=>?_
 obtain ⟨st',⟨β',S',ak⟩,hk⟩:=hp;have an:∀ av,Q24 C.tt st' fn.results.toList=some av->k av st'.h=some r->a'.defers=[]/\∃ v,(results fn a'.tmps).run P w' = .ok v w'/\∃ aq av H' β' S',Ending.returned v = .returned aq/\k av H'=some r/\RdA β' S' (look H') w' tm0 aq av/\NN av=true/\HRel ⟨w,fun b=>∃ l,(look H l).isSome=true/\β l=some b,S,β⟩ β' S' (look H') w':=by
  intro av ac ay;obtain ⟨v,hv,al,hg⟩:=Q5P hC ak ac;exact ⟨ak.dfr,v,hv,v,av,st'.h,β',S',rfl,ay,al,hg,ak.hr⟩
 cases e with
 |ret=>
  simp only [fnK] at hk;split at hk
  ·rename_i av ac;exact an av ac hk
  ·cases hk
 |normal=>
  simp only [fnK] at hk;split at hk
  ·rename_i av ac;exact an av ac hk
  ·cases hk
 |_=>cases hk
theorem Bb {C:VC} (hC:VCOk P C) {n f:Nat} {fn:Func} (hf:P.funcs[f]? = some fn) {args:List AV} {H:List (Nat × Ob)} {k:AV->List (Nat × Ob)->Option R} {r:R} (h:vfn C n fn args H k=some r)
  {β:Nat->Option Nat} {S:Nat->Prop} {w:World} {vs:List Value} (hO:Objs β S (look H) w) (hA:ArgsRd β S (look H) w vs args) :
  Calls P f vs.toArray w fun e w'=>∃ v av H' β' S',e = .returned v/\k av H'=some r/\RdA β' S' (look H') w' tm0 v av/\NN av=true/\HRel ⟨w,fun b=>∃ l,(look H l).isSome=true/\β l=some b,S,β⟩ β' S' (look H') w':=by
 unfold vfn at h;split at h
 case h_2=>cases h
 rename_i c hc;cases hb:(Nat.ble args.length fn.ntmps&&HF args) with
 |false=>simp_all
 |true=>
  simp only [hb,QiV] at h;exact Q1u hC hf hc hb (fun a hR=>Q4Q hC n c _ _ r h a w ⟨β,S,hR⟩) hO hA
end

section
variable {P:Program}
def QdN:List Value->List Nat->Option (List D)
 |[],_=>some []
 |v::r,ss=>
  match QdN r ss.tail with
  |some l=>match v with
   |.int k n=>some (.int k n::l)
   |.bool b=>some (.bool b::l)
   |.string s=>some (.str s.data.toList::l)
   |.slice none 0 0=>some (.sl (ss.headD 0) []::l)
   |_=>none
  |none=>none
def Q2v (P:Program):Nat->Nat->List Nat
 |0,_=>[]
 |f+1,t=>match P.underlying t with
  |some (.struct fs)=>fs.toList.flatMap fun fd=>Q2v P f fd.type
  |some (.array n e)=>(List.replicate n (Q2v P f e)).flatten
  |_=>[t]
def QdV (P:Program) (t:Nat):Nat:=
 match P.underlying t with
 |some (.slice e)=>P.cellsOf e
 |_=>0
def kdP (P:Program):TypeDesc->Option Kd
 |.int k=>some (.int k)
 |.bool=>some .bool
 |.string=>some .str
 |.slice e=>match P.info? e with
  |some i=>if 0<i.size then some (.sl e i.size) else none
  |none=>none
 |.struct fs=>if fs.toList.all (fun f=>match P.info? f.type with | some i=>i.size != 0 | none=>false) then some .struct else none
 |.array n e=>match P.info? e with
  |some i=>if 0<i.size then some (.array e i.size n) else none
  |none=>none
 |.pointer _=>some .ptr
 |.map K e=>match P.underlying K,P.info? e with
  |some (.int .i64),some i=>match i.zero with
   |some (.slice none 0 0)=>some .mapI
   |some (.bool false)=>some .mpb
   |_=>some .other
  |_,_=>some .other
 |.func ..=>some .other
 |.interface _=>some .other
 |_=>none
def Q8C (P:Program):TypeDesc->List (Nat × Nat)
 |.struct fs=>fs.toList.map fun f=>(f.offset,f.type)
 |.array n e=>(List.range n).map fun i=>(i*((P.info? e).map (·.size)).getD 0,e)
 |_=>[]
def Qeb (P:Program) (so:TypeId->Option (List Kd)):Nat->List Field->Option (List Kd)
 |_,[]=>some []
 |off,fd::r=>
  if fd.offset = off /\ fd.name ≠ "_" then match so fd.type with
   |some a=>if (P.info? fd.type).map (·.size)=some a.length then match Qeb P so (off+a.length) r with
    |some l=>some (a++l)
    |none=>none
    else none
   |none=>none
  else none
def QbW (P:Program):Nat->TypeId->Option (List Kd)
 |0,_=>none
 |f+1,t=>
  match P.underlying t with
  |some .bool=>some [.bool]
  |some (.int k)=>some [.int k]
  |some .string=>some [.str]
  |some (.struct fs)=>if P.stoodInHeld t then none else Qeb P (QbW P f) 0 fs.toList
  |_=>none
def Qhd (P:Program) (t:Nat):Option (List Kd):=
 match P.underlying t with
 |some (.struct _)=>if P.eqGuardType P.depth t then none else QbW P 6 t
 |some (.array 2 e)=>match P.underlying e with
  |some (.int k)=>if (P.info? e).map (·.size)=some 1/\P.eqGuardType P.depth t=false then some [.int k,.int k] else none
  |_=>none
 |_=>none
def QgN:Kd->Nat->Bool
 |.array _ ac n,k=>Nat.beq k (n*ac)
 |_,_=>true
def tyI (P:Program) (t:Nat):Option TyI:=
 match P.info? t,P.underlying t with
 |some i,some d=>match i.zero,kdP P d with
  |some z,some kd=>
   if z.cells.toList.length=i.size/\(Vv kd=false->i.size=1)/\QgN kd i.size=true then
    some { kd,size:=i.size,bytes:=i.bytes,zero:=z.cells.toList,zd:=(QdN z.cells.toList ((Q2v P 8 t).map (QdV P))).getD [],fields:=Q8C P d,eqk:=Qhd P t }
   else none
  |_,_=>none
 |_,_=>none
def QfF (P:Program):List Nat->TT
 |[]=>[]
 |t::r=>match tyI P t with
  |some ti=>(t,ti)::QfF P r
  |none=>QfF P r
theorem Q9Q:∀ {vs:List Value} {ss:List Nat} {l:List D},QdN vs ss=some l->∀ (j:Nat) (x:D),l[j]? = some x->∃ v,vs[j]? = some v/\∀ (S:Nat->Prop) (w:World),Rd S w v x
 |[],ss,l,h,j,x,hx=>by grind [QdN]
 |v::r,ss,l,h,j,x,hx=>by
  simp only [QdN] at h;split at h
  case h_2=>cases h
  rename_i l' aj;have ac:∀ d,l=d::l'->(∀ (S:Nat->Prop) (w:World),Rd S w v d)->∃ v',(v::r)[j]? = some v'/\∀ (S:Nat->Prop) (w:World),Rd S w v' x:=by
   intro d hd hr;cases j with
   |zero=>simp_all
   |succ j=>
    obtain ⟨v',h1,h2⟩:=Q9Q aj j x (by simp_all)
    simp_all
  split at h
  ·cases h;exact ac _ rfl fun _ _=>.int _ _
  ·cases h;exact ac _ rfl fun _ _=>.bool _
  ·cases h;exact ac _ rfl fun _ _=>.str _
  ·cases h;exact ac _ rfl fun _ _=>.sl0 _ _ _
  ·cases h
def Fv (P:Program) (t:TypeId) (xs:List Value):Value:=
 match P.underlying t with
 |some (.struct _)=>.agg xs.toArray
 |_=>xs.headD undef
theorem Q6I {t:TypeId} {f:Nat} {ks:List Kd} (hk:QbW P f t=some ks) (hi:(P.info? t).map (·.size)=some ks.length) {w:World} {cs:Array Value} {off:Nat} (an:off+ks.length<=cs.size) :
  (part t cs off).run P w = .ok (Fv P t ((cs.toList.drop off).take ks.length)) w:=by
 obtain ⟨i,ak,al⟩:=QiQ.1 hi;have one:∀ (d:TypeDesc),P.underlying t=some d->(∀ fs,d≠.struct fs)->(∀ n e,d≠.array n e)->ks.length=1->(part t cs off).run P w = .ok (Fv P t ((cs.toList.drop off).take ks.length)) w:=by
  intro d hd h1 h2 hl;have ac:(isAgg t).run P w = .ok false w:=by
   simp_all [isAgg,QiX,QV,QiT]
  have hc:cs[off]? = some (cs[off]'(by omega)):=Qj5 (by omega);have hp:Fv P t ((cs.toList.drop off).take ks.length)=cs[off]'(by omega):=by
   grind [List.drop_eq_getElem_cons,Fv]
  simp only [part,QiX,ac,QiT,Bool.false_eq_true,if_false,hc,hp];rfl
 cases f with
 |zero=>trivial
 |succ f=>
  unfold QbW at hk;split at hk
  ·rename_i hd;injection hk with hk;exact one _ hd (by simp) (by simp) (by rw [<- hk];rfl)
  ·rename_i k hd;injection hk with hk;exact one _ hd (by simp) (by simp) (by rw [<- hk];rfl)
  ·rename_i hd;injection hk with hk;exact one _ hd (by simp) (by simp) (by rw [<- hk];rfl)
  ·rename_i fs hd;have ac:(isAgg t).run P w = .ok true w:=by simp [isAgg,QV hd]
   have hp:Fv P t ((cs.toList.drop off).take ks.length) = .agg (cs.extract off (off+ks.length)):=by
    unfold Fv;rw [hd];simp only;congr 1;apply Array.ext';simp [List.take_drop]
   simp only [part,QiX,ac,QiT,if_true,sizeOf,YE ak,al,hp];rfl
  ·cases hk
theorem Qeu:∀ (f:Nat) (t:TypeId) (ks:List Kd),QbW P f t=some ks->∀ (d:Nat),f<=d->∀ (w:World) (xs ys:List Value) (bs:List Bool),xs.length=ks.length->ys.length=ks.length->bs.length=ks.length ->
  (∀ (j:Nat) (kd:Kd) (b:Bool),ks[j]? = some kd->bs[j]? = some b->CEq kd (xs.getD j undef) (ys.getD j undef) b)->(Op.equalIn d t (Fv P t xs) (Fv P t ys)).run P w = .ok (bs.all id) w:=by
 intro f;induction f with
 |zero=>grind [QbW]
 |succ f ih=>
  intro t ks hk d hd w xs ys bs hx hy hb hc;obtain ⟨d,rfl⟩:∃ d',d=d'+1:=⟨d-1,by omega⟩;unfold QbW at hk;split at hk
  ·rename_i ht;injection hk with hk;subst hk
   match xs,ys,bs,hx,hy,hb with
   |[x],[y],[b],_,_,_=>
    obtain ⟨m,n,h1,h2,h3⟩:=hc 0 _ _ rfl rfl;simp at h1 h2;subst h1 h2 h3;simp [Fv,ht,Op.equalIn,QV ht]
  ·rename_i k ht;injection hk with hk;subst hk
   match xs,ys,bs,hx,hy,hb with
   |[x],[y],[b],_,_,_=>
    obtain ⟨m,n,h1,h2,h3⟩:=hc 0 _ _ rfl rfl;simp at h1 h2;subst h1 h2 h3;simp [Fv,ht,Op.equalIn,QV ht]
  ·rename_i ht;injection hk with hk;subst hk
   match xs,ys,bs,hx,hy,hb with
   |[x],[y],[b],_,_,_=>
    obtain ⟨m,n,h1,h2,h3⟩:=hc 0 _ _ rfl rfl;simp at h1 h2;subst h1 h2 h3;simp only [Fv,ht,List.headD_cons,Op.equalIn,QiX,QV ht,QiT];rw [beq_toListBytes,ByteArray.toList_eq,ByteArray.toList_eq];simp
  ·rename_i fs ht;split at hk
   ·cases hk
   rename_i a1;have ax:P.fieldsOf t=fs:=by simp [Program.fieldsOf,ht]
   have a2:∀ (r:List Field) (off:Nat) (l:List Kd) (ac:List Bool),Qeb P (QbW P f) off r=some l->off+l.length<=xs.length->xs.length=ys.length->ac.length=l.length ->
     (∀ (j:Nat) (kd:Kd) (b:Bool),l[j]? = some kd->ac[j]? = some b->CEq kd (xs.getD (off+j) undef) (ys.getD (off+j) undef) b) ->
     (Op.eqFields d xs.toArray ys.toArray r).run P w = .ok (ac.all id) w:=by
    intro r;induction r with
    |nil=>
     intro off l ac hl _ _ ar _;simp [Qeb] at hl;subst hl;have:ac=[]:=List.eq_nil_of_length_eq_zero (by simpa using ar);subst this;simp [Op.eqFields]
    |cons fd r a6=>
     intro off l ac hl a5 ay ar aw;unfold Qeb at hl;split at hl
     case isFalse=>cases hl
     rename_i aq;split at hl
     case h_2=>cases hl
     rename_i a ha;split at hl
     case isFalse=>cases hl
     rename_i hi;split at hl
     case h_2=>cases hl
     rename_i l' a4;injection hl with hl;subst hl
     simp only [List.length_append] at a5 ar;have p1:=Q6I ha hi (w:=w) (cs:=xs.toArray) (off:=off) (by simp;omega);have p2:=Q6I ha hi (w:=w) (cs:=ys.toArray) (off:=off) (by simp;omega);have gd:∀ (zs:List Value) (j:Nat),zs.length=xs.length->j<a.length->((zs.drop off).take a.length).getD j undef=zs.getD (off+j) undef:=by
      intro zs j hz hj;simp only [List.getD,List.getElem?_take,hj,if_true,Qj2]
     have e1:=ih fd.type a ha d (by omega) w ((xs.drop off).take a.length) ((ys.drop off).take a.length) (ac.take a.length) (by simp;omega) (by simp;omega) (by simp;omega) (fun j kd b hj al=>by
      have an:j<a.length:=(QiR.1 hj).1;rw [gd xs j rfl an,gd ys j ay.symm an];refine aw j kd b (by rw [List.getElem?_append_left an];exact hj) ?_;rw [List.getElem?_take,if_pos an] at al;exact al)
     have e2:=a6 (off+a.length) l' (ac.drop a.length) a4 (by omega) ay (by simp;omega) (fun j kd b hj al=>by
      rw [Nat.add_assoc];refine aw (a.length+j) kd b (by rw [List.getElem?_append_right (by omega)];simpa using hj) ?_;rw [Qj2] at al;exact al)
     have az:ac.all id=((ac.take a.length).all id&&(ac.drop a.length).all id):=by
      rw [<- List.all_append,List.take_append_drop]
     simp only [Op.eqFields,aq.1,aq.2,ne_eq,not_false_eq_true,if_true,QiX,p1,p2,QiT,e1];rw [az];cases (ac.take a.length).all id with
     |true=>simp [e2]
     |false=>simp
   have:=a2 fs.toList 0 ks bs hk (by omega) (by omega) hb (fun j kd b h1 h2=>by rw [Qj4];exact hc j kd b h1 h2);have hp:∀ zs,Fv P t zs = .agg zs.toArray:=fun zs=>by simp [Fv,ht]
   rw [hp,hp,run_equalIn_struct w d t _ _ (by rw [ax];exact ht) (by simpa using a1),ax];exact this
  ·cases hk
theorem Qcf {t e:TypeId} {k:IntKind} (ht:P.underlying t=some (.array 2 e)) (he:P.underlying e=some (.int k)) (hi:(P.info? e).map (·.size)=some 1) (w:World) (a b c d:Int) :
  (Op.equalIn 10000 t (.agg #[.int k a,.int k b]) (.agg #[.int k c,.int k d])).run P w = .ok ((a == c)&&(b == d)) w:=by
 obtain ⟨i,aj,ak⟩:=QiQ.1 hi;have ac:(isAgg e).run P w = .ok false w:=by
  simp only [isAgg,QiX,QV he,QiT];rfl
 have hs:(Go.sizeOf e).run P w = .ok 1 w:=by simp only [sizeOf,QiX,YE aj,QiT,ak];rfl
 have hp:∀ (x y:Value),(part e #[x,y] 0).run P w = .ok x w/\(part e #[x,y] 1).run P w = .ok y w:=fun x y=>by
  constructor <;> simp [part,ac]
 have hq:∀ x y:Int,(Op.equalIn 9999 e (.int k x) (.int k y)).run P w = .ok (x == y) w:=fun x y=>by
  rw [Op.equalIn];simp [QV he]
 rw [Op.equalIn];simp only [QiX,QV ht,QiT,hs];simp [Std.Legacy.Range.forIn_eq_forIn_range',Std.Legacy.Range.size,List.range',(hp _ _).1,(hp _ _).2,hq];by_cases h1:a=c <;> by_cases h2:b=d <;> simp [h1,h2]
theorem QcC {t:Nat} {ks:List Kd} (h:Qhd P t=some ks):QhI P t ks:=by
 unfold Qhd at h;split at h
 case h_3=>cases h
 case h_2=>
  rename_i e ht;split at h
  case h_2=>cases h
  rename_i k he;split at h
  case isFalse=>cases h
  rename_i hg;injection h with h
  subst h;intro w xs ys bs hx hy hb hc;refine ⟨?_,hg.2⟩;obtain ⟨xs⟩:=xs;obtain ⟨ys⟩:=ys
  match xs,ys,bs,hx,hy,hb with
  |[x0,x1],[y0,y1],[b0,b1],_,_,_=>
   obtain ⟨m,n,h1,h2,h3⟩:=hc 0 _ _ rfl rfl;obtain ⟨m',n',aq,ao,ar⟩:=hc 1 _ _ rfl rfl
   simp_all [Qcf]
 rename_i fs ht;split at h
 ·cases h
 rename_i hg;intro w xs ys bs hx hy hb hc;refine ⟨?_,by simp_all⟩;have:=Qeu 6 t ks h 10000 (by omega) w xs.toList ys.toList bs (by omega) (by omega) hb (fun j kd b h1 h2=>by
  have:=hc j kd b h1 h2;simpa [Array.getD_eq_getD_getElem?,List.getD] using this)
 simp_all [Fv]
theorem Qfm {d:TypeDesc} {e ac:Nat} (hk:kdP P d=some (.sl e ac)):d = .slice e/\0<ac/\∃ i,P.info? e=some i/\i.size=ac:=by
 cases d <;> simp only [kdP,Option.some.injEq,reduceCtorEq] at hk
 all_goals grind
theorem QcK {t:TypeId} {d:TypeDesc} (hk:kdP P d=some .mapI) (hd:P.underlying t=some d):∃ K e,P.underlying t=some (.map K e)/\P.underlying K=some (.int .i64)/\∃ i,P.info? e=some i/\i.zero=some (.slice none 0 0):=by
 cases d <;> simp only [kdP,Option.some.injEq,reduceCtorEq] at hk
 all_goals grind
theorem Q7q {d:TypeDesc} (hk:kdP P d=some .struct):∃ fs,d = .struct fs/\∀ f∈fs.toList,∃ i,P.info? f.type=some i/\i.size≠0:=by
 cases d <;> simp only [kdP,Option.some.injEq,reduceCtorEq] at hk
 all_goals grind
theorem Q9J {d:TypeDesc} {e ac n:Nat} (hk:kdP P d=some (.array e ac n)):d = .array n e/\0<ac/\∃ i,P.info? e=some i/\i.size=ac:=by
 cases d <;> simp only [kdP,Option.some.injEq,reduceCtorEq] at hk
 all_goals grind
theorem Qdj {d:TypeDesc} {k:IntKind} (hk:kdP P d=some (.int k)):d = .int k:=by
 cases d <;> simp only [kdP,Option.some.injEq,Kd.int.injEq,reduceCtorEq] at hk <;> first | grind | ((repeat' split at hk) <;> simp at hk)
theorem QaY {d:TypeDesc} (hk:kdP P d=some .bool):d = .bool:=by
 cases d <;> simp only [kdP,Option.some.injEq,reduceCtorEq] at hk <;> first | rfl | grind
theorem QcZ {d:TypeDesc} (hk:kdP P d=some .str):d = .string:=by
 cases d <;> simp only [kdP,Option.some.injEq,reduceCtorEq] at hk <;> first | rfl | grind
theorem Qcr {t:TypeId} {d:TypeDesc} (hk:kdP P d=some .mpb) (hd:P.underlying t=some d):∃ K e,P.underlying t=some (.map K e)/\P.underlying K=some (.int .i64)/\∃ i,P.info? e=some i/\i.zero=some (.bool false):=by
 cases d <;> simp only [kdP,Option.some.injEq,reduceCtorEq] at hk
 all_goals grind
theorem Qfz {t:Nat} {ti:TyI} (h:tyI P t=some ti):TyOk P t ti:=by
 unfold tyI at h;split at h
 case h_2=>cases h
 rename_i i d hi hd;split at h
 case h_2=>cases h
 rename_i z kd hz hk;split at h
 case isFalse=>cases h
 rename_i hc;injection h with h
 subst h;refine ⟨⟨i,hi,rfl,rfl,z,hz,rfl⟩,fun hs=>⟨hc.2.1 hs,d,hd,?_,?_⟩,fun k he=>?_,fun he=>?_,fun he=>?_,fun e ak he=>?_,fun he=>?_,fun e ak n he=>?_,fun ks he=>QcC he,hc.1,fun hl j x hx=>?_,fun he=>?_,fun he=>?_⟩
 ·rintro fs rfl;simp only [kdP] at hk;split at hk
  ·injection hk with hk;subst hk;simp [Vv] at hs
  ·cases hk
 ·rintro n e rfl;simp only [kdP] at hk;split at hk
  ·split at hk
   ·injection hk with hk;subst hk;simp [Vv] at hs
   ·cases hk
  ·cases hk
 ·simp only at he;subst he;rw [Qdj hk] at hd;exact hd
 ·simp only at he;subst he;rw [QaY hk] at hd;exact hd
 ·simp only at he;subst he;rw [QcZ hk] at hd;exact hd
 ·simp only at he;subst he;obtain ⟨h1,h2,h3⟩:=Qfm hk;rw [h1] at hd;exact ⟨hd,h2,h3⟩
 ·simp only at he;subst he;obtain ⟨fs,h1,h2⟩:=Q7q hk;subst h1;exact ⟨fs,hd,rfl,h2⟩
 ·simp only at he;subst he;obtain ⟨h1,h2,i',h3,h4⟩:=Q9J hk;subst h1;refine ⟨hd,h2,⟨i',h3,h4⟩,QiO hc.2.2,?_⟩;simp [Q8C,h3,h4]
 ·simp only at hl hx;cases aj:QdN z.cells.toList ((Q2v P 8 t).map (QdV P)) with
  |none=>rw [aj] at hx;simp at hx
  |some l=>rw [aj] at hx;exact Q9Q aj j x (by simpa using hx)
 ·simp only at he;subst he;exact Qcr hk hd
 ·simp only at he;subst he;exact QcK hk hd
theorem QcG (ac:List Nat):TOk P (QfF P ac):=by
 induction ac with
 |nil=>intro t ti h;trivial
 |cons a r ih=>
  intro t ti h;unfold QfF at h;split at h
  ·rw [Y6] at h;by_cases e:t=a
   ·simp_all [if_pos,Qfz]
   ·rw [Qj9 e] at h;exact ih t ti h
  ·exact ih t ti h
mutual
def lf:AV->Bool
 |.ptr ..=>false
 |.arr _=>false
 |.ap ..=>false
 |.sa ..=>false
 |.gd ..=>false
 |.ag l=>lfL l
 |.tup l=>lfL l
 |.fn _ l=>lfL l
 |_=>true
def lfL:List AV->Bool
 |[]=>true
 |a::r=>lf a&&lfL r
end
mutual
theorem Q6w (l:Nat):∀ (av:AV),lf av=true->Um l av=false
 |.ptr ..,h=>by simp [lf] at h
 |.arr _,h=>by simp [lf] at h
 |.ap ..,h=>by simp [lf] at h
 |.sa ..,h=>by simp [lf] at h
 |.gd ..,h=>by simp [lf] at h
 |.ag r,h=>by simp only [Um];exact Ep l r (by simpa [lf] using h)
 |.tup r,h=>by simp only [Um];exact Ep l r (by simpa [lf] using h)
 |.fn _ r,h=>by simp only [Um];exact Ep l r (by simpa [lf] using h)
 |.top,_=>rfl
 |.d _,_=>rfl
 |.nil,_=>rfl
 |.el ..,_=>rfl
 |.fs ..,_=>rfl
 |.mpd _,_=>rfl
 |.ex _,_=>rfl
theorem Ep (l:Nat):∀ (r:List AV),lfL r=true->K2 l r=false
 |[],_=>rfl
 |a::r,h=>by
  simp only [lfL,QiP] at h;simp only [K2,Q6w l a h.1,Ep l r h.2,Bool.or_self]
end
mutual
theorem Q4y (t:Nat):∀ (av:AV),lf av=true->gds t av=false
 |.ptr ..,h=>by simp [lf] at h
 |.arr _,h=>by simp [lf] at h
 |.ap ..,h=>by simp [lf] at h
 |.sa ..,h=>by simp [lf] at h
 |.gd ..,h=>by simp [lf] at h
 |.ag r,h=>by simp only [gds];exact Q2q t r (by simpa [lf] using h)
 |.tup r,h=>by simp only [gds];exact Q2q t r (by simpa [lf] using h)
 |.fn _ r,h=>by simp only [gds];exact Q2q t r (by simpa [lf] using h)
 |.top,_=>rfl
 |.d _,_=>rfl
 |.nil,_=>rfl
 |.el ..,_=>rfl
 |.fs ..,_=>rfl
 |.mpd _,_=>rfl
 |.ex _,_=>rfl
theorem Q2q (t:Nat):∀ (r:List AV),lfL r=true->AS t r=false
 |[],_=>rfl
 |a::r,h=>by
  simp only [lfL,QiP] at h;simp only [AS,Q4y t a h.1,Q2q t r h.2,Bool.or_self]
end
theorem Q0X:∀ {l:List AV} {i:Nat} {x:AV},lfL l=true->l[i]? = some x->lf x=true
 |a::r,i,x,h,hx=>by
  simp only [lfL,QiP] at h;cases i with
  |zero=>simp at hx;subst hx;exact h.1
  |succ i=>exact Q0X h.2 (by simpa using hx)
theorem Fu {β β':Nat->Option Nat} {S S':Nat->Prop} {h h':Nat->Option Ob} {w w':World} {tm tm':Nat->Value} {v:Value} {av:AV} (hl:lf av=true) (hS:∀ b,S b->S' b) (hw:∀ b,S b->w'.heap[b]? = w.heap[b]?) (hv:RdA β S h w tm v av):RdA β' S' h' w' tm' v av:=
 hv.mono hS hw (fun l hn=>by rw [Q6w l av hl] at hn;cases hn) (fun t ht=>by rw [Q4y t av hl] at ht;cases ht)
def Qai (h:List (Nat × Ob)) (av:AV):Option AV:=
 match av with
 |.tup l=>match RY (look h) l with
  |some (l',_)=>bif lfL l' then some (.tup l') else none
  |none=>none
 |av=>match N2 (look h) av with
  |some (ac,_)=>bif lf ac then some ac else none
  |none=>none
def Qhp {R:Type} (K:AV->Option R):AV->List (Nat × Ob)->Option R:=fun av h=>match Qai h av with
 |some ac=>K ac
 |none=>none
theorem Q2m {β:Nat->Option Nat} {S:Nat->Prop} {H:List (Nat × Ob)} {w:World} {v:Value} {av ac:AV} (hO:Objs β S (look H) w) (h:Qai H av=some ac) (hv:RdA β S (look H) w tm0 v av) :
  ∃ bs,(∀ l,l∈bs->∃ e s rows,look H l=some (.arr e s rows))/\lf ac=true/\RdA β (fzS β S bs) (fzH (look H) bs) w tm0 v ac:=by
 unfold Qai at h;split at h
 ·rename_i l;split at h
  ·rename_i l' bs hc;cases hl:lfL l' with
   |false=>simp_all
   |true=>
    simp only [hl,QiV,Option.some.injEq] at h;subst h;refine ⟨bs,Ev hc,by assumption,?_⟩;obtain ⟨vs,rfl,al,hr⟩:=hv.tup_inv;obtain ⟨h1,h2⟩:=LB hc;refine .tup _ _ (by rw [al,h1]) fun i x hx=>?_
    have hi:i<l.length:=by grind
    have ak:=QiS hi;obtain ⟨ac,b2,g1,g2,g3⟩:=h2 i _ ak;rw [hx] at g1;injection g1 with g1
    subst g1;exact Q6O hO (fun _ _=>rfl) g3 g2 (hr i _ ak)
  ·cases h
 ·split at h
  ·rename_i aj bs hc;cases hl:lf aj with
   |false=>simp [hl] at h
   |true=>
    simp only [hl,QiV,Option.some.injEq] at h;subst h;exact ⟨bs,Bd hc,hl,Q6O hO (fun _ _=>rfl) (fun _ h=>h) hc hv⟩
  ·cases h
theorem QcI {C : VC} (hC : VCOk P C) {n f : Nat} {fn : Func} (hf : P.funcs[f]? = some fn) (hb : fn.body.isSome = true) (hn : (fn.name == "runtime.NumGoroutine") = false) {avs : List AV} {av : AV} {hl : Nat -> Option Ob} {rd : List Nat} (hlf : lfL avs = true)
  (h:vfn C n fn avs [] (Qhp some)=some av):Wn P f avs hl ⟨av,[],rd⟩:=by
 refine ⟨⟨fn,hf,hb,hn⟩,fun β S h' w args hO hA _=>?_⟩;have hO0:Objs (fun _=>none) S (look ([]:List (Nat × Ob))) w:=⟨fun l o h=>by trivial,fun l l' b h=>by simp [look] at h,fun l b h=>by simp [look] at h,hO.sb⟩;have hA0:ArgsRd (fun _=>none) S (look ([]:List (Nat × Ob))) w args avs:=⟨hA.1,fun i v av' h1 h2=>Fu (Q0X hlf h2) (fun _ h=>h) (fun _ _=>rfl) (hA.2 i v av' h1 h2)⟩;refine (Bb hC hf h hO0 hA0).mono fun e w' ⟨v,av0,H',β',S',he,hk,hrd,_,hr⟩=>?_
 unfold Qhp at hk;split at hk
 case h_2=>cases hk
 rename_i av' hav;injection hk with hk
 subst hk;have hO':Objs β' S' (look H') w':=⟨hr.ob,hr.inj,hr.apart,hr.sb⟩;obtain ⟨bs,hbs,hlf',hrd'⟩:=Q2m hO' hav hrd;have hnoM:∀ {b:Nat},(S b\/(∃ l,(look ([]:List (Nat × Ob)) l).isSome=true/\(none:Option Nat)=some b)\/w.heap.size<=b)->S b\/w.heap.size<=b:=by
  simp_all
 have hfz:∀ b,fzS β' S' bs b->S b\/w.heap.size<=b:=by
  intro b hS;rcases hS with hS | ⟨l,hl',hb'⟩
  ·exact hnoM (hr.sfr b hS)
  ·obtain ⟨e',s,rows,hh⟩:=hbs l hl';exact hnoM (.inr (hr.own l b (by simp [hh]) hb'))
 refine ⟨v,β,fzS β' S' bs,he,⟨fun b hS=>.inl (hr.s0 b hS),fun b hS=>?_,fun b hS=>?_,?_,fun _ _=>rfl,fun l o hl'=>by trivial,fun l hl'=>by simp [wrL] at hl',fun l b hl'=>by simp [wrL] at hl',fun l l' b hl'=>by simp [wrL] at hl',fun l hl'=>by simp [wrL] at hl',?_,fun t=>Q4y t _ hlf'⟩⟩
 ·grind
 ·rcases hS with hS | ⟨l,hl',hb'⟩
  ·exact hr.sb b hS
  ·obtain ⟨e',s,rows,hh⟩:=hbs l hl';rcases hr.ob l _ hh with ⟨hn',_⟩ | ⟨b2,cs,hb2,hw2,_⟩
   ·rw [hb'] at hn';cases hn'
   ·rw [hb'] at hb2;injection hb2 with hb2;subst hb2
    exact (QiZ.1 hw2).1
 ·refine hr.fr.mono fun b _ ⟨l,h1,_⟩=>?_
  simp [look] at h1
 ·exact Fu hlf' (fun _ h=>h) (fun _ _=>rfl) hrd'
end

section
variable {P:Program} {R:Type}
def Cl (av ac:AV):Prop:=∀ (β:Nat->Option Nat) (S:Nat->Prop) (h:Nat->Option Ob) (w:World) (tm:Nat->Value) (v:Value),RdA β S h w tm v av->RdA β S h w tm v ac
theorem Cl.refl (av:AV):Cl av av:=fun _ _ _ _ _ _ h=>h
theorem Cl.of_eq {a b:AV} (h:a=b):Cl a b:=h▸Cl.refl a
theorem Cl.nil (s:Nat):Cl .nil (.d (.sl s [])):=fun _ _ _ _ _ v h=>by rw [h.nil_inv];exact .d _ _ (.sl0 _ _ _)
inductive AVleL:List AV->List AV->Prop
 |nil:AVleL [] []
 |cons {a b:AV} {l r:List AV} (h:Cl a b) (t:AVleL l r):AVleL (a::l) (b::r)
theorem AVleL.length {l r:List AV} (h:AVleL l r):l.length=r.length:=by induction h <;> simp [*]
theorem AVleL.at {l r:List AV} (h:AVleL l r):∀ (i:Nat) (x:AV),r[i]? = some x->∃ y,l[i]? = some y/\Cl y x:=by
 induction h with
 |nil=>simp_all
 |cons h0 _ ih=>
  grind
theorem AVleL.refl:∀ l:List AV,AVleL l l
 |[]=>.nil
 |a::r=>.cons (Cl.refl a) (AVleL.refl r)
theorem Cl.ag {l r:List AV} (h:AVleL l r):Cl (.ag l) (.ag r):=fun _ _ _ _ _ v hv=>by
 obtain ⟨cs,rfl,ac,hr⟩:=hv.ag_inv;refine .ag cs r (ac.trans h.length) fun i x hx=>?_
 obtain ⟨y,h1,h2⟩:=h.at i x hx;exact h2 _ _ _ _ _ _ (hr i y h1)
theorem Cl.tup {l r:List AV} (h:AVleL l r):Cl (.tup l) (.tup r):=fun _ _ _ _ _ v hv=>by
 obtain ⟨cs,rfl,ac,hr⟩:=hv.tup_inv;refine .tup cs r (ac.trans h.length) fun i x hx=>?_
 obtain ⟨y,h1,h2⟩:=h.at i x hx;exact h2 _ _ _ _ _ _ (hr i y h1)
theorem Wn.conv {f:Nat} {ac avs':List AV} {hl:Nat->Option Ob} {dl:Dl} (h:AVleL ac avs') (hc:Wn P f avs' hl dl):Wn P f ac hl dl:=by
 obtain ⟨h1,h2⟩:=hc;refine ⟨h1,fun β S hh w args hO hA ak=>h2 β S hh w args hO ⟨hA.1.trans h.length,fun i v av hv aj=>?_⟩ ak⟩;obtain ⟨y,g1,g2⟩:=h.at i av aj;exact g2 _ _ _ _ _ _ (hA.2 i v y hv g1)
def prI (g:Bool) (ik:IntKind) (av:AV) (k:Int->Option R):Option R:=
 match av with
 |.d x=>gb g (Q3 ik x) 0 k
 |_=>none
def prB (g:Bool) (av:AV) (k:Bool->Option R):Option R:=
 match av with
 |.d x=>gb g (Gx x) false k
 |_=>none
def prT (g:Bool) (av:AV) (k:List UInt8->Option R):Option R:=
 match av with
 |.d x=>gb g (Nk x) [] k
 |_=>none
def prS (g:Bool) (ac:Nat) (av:AV) (k:List (List D)->Option R):Option R:=
 match av with
 |.d x=>gb g (pSl ac x) [] k
 |.nil=>k []
 |_=>none
def prG (av:AV) (k:List AV->Option R):Option R:=
 match av with
 |.ag l=>k l
 |_=>none
theorem V9 {g:Bool} {ik:IntKind} {av:AV} {k:Int->Option R} {r:R} (h:prI g ik av k=some r):∃ n,k n=some r/\(g=true->Cl av (.d (.int ik n))):=by
 unfold prI at h;split at h
 ·obtain ⟨n,hn,hp⟩:=Qm h;exact ⟨n,hn,fun hg=>.of_eq (by grind [FM])⟩
 ·cases h
theorem Q6b {g:Bool} {av:AV} {k:Bool->Option R} {r:R} (h:prB g av k=some r):∃ n,k n=some r/\(g=true->Cl av (.d (.bool n))):=by
 unfold prB at h;split at h
 ·obtain ⟨n,hn,hp⟩:=Qm h;exact ⟨n,hn,fun hg=>.of_eq (by grind [MH])⟩
 ·cases h
theorem Qbk {g:Bool} {av:AV} {k:List UInt8->Option R} {r:R} (h:prT g av k=some r):∃ n,k n=some r/\(g=true->Cl av (.d (.str n))):=by
 unfold prT at h;split at h
 ·obtain ⟨n,hn,hp⟩:=Qm h;exact ⟨n,hn,fun hg=>.of_eq (by grind [FC])⟩
 ·cases h
theorem Uh {g:Bool} {ac:Nat} {av:AV} {k:List (List D)->Option R} {r:R} (h:prS g ac av k=some r):∃ n,k n=some r/\(g=true->Cl av (.d (.sl ac n))):=by
 unfold prS at h;split at h
 ·obtain ⟨n,hn,hp⟩:=Qm h;exact ⟨n,hn,fun hg=>.of_eq (by grind [Q6D])⟩
 ·exact ⟨[],h,fun _=>.nil _⟩
 ·cases h
theorem B5 {av:AV} {k:List AV->Option R} {r:R} (h:prG av k=some r):∃ l,k l=some r/\av = .ag l:=by
 unfold prG at h
 grind
abbrev Kf:=(R:Type)->Nat->Bool->List AV->(Nat->Option Ob)->(Dl->Option R)->Option R
def Uo (P:Program) (f:Nat) (e:Kf):Prop:=
 ∀ (R:Type) (aj:Nat) (g:Bool) (ac:List AV) (hl:Nat->Option Ob) (k:Dl->Option R) (r:R),e R aj g ac hl k=some r->∃ dl,k dl=some r/\(g=true->Wn P f ac hl dl)
def Q3x (l:List (Nat × Kf)):Q5i:=fun R f ac g aj hl k=>
 match look1 l f with
 |some e=>e R ac g aj hl k
 |none=>none
where
 look1:List (Nat × Kf)->Nat->Option Kf
  |[],_=>none
  |(k,a)::r,t=>bif Nat.beq k t then some a else look1 r t
def Q6r (P:Program):List (Nat × Kf)->Prop
 |[]=>True
 |(f,e)::r=>Uo P f e/\Q6r P r
theorem Q62:∀ {l:List (Nat × Kf)} {f:Nat} {e:Kf},Q6r P l->Q3x.look1 l f=some e->Uo P f e
 |(k,a)::r,f,e,h,hl=>by
  simp only [Q3x.look1] at hl;cases hk:Nat.beq k f with
  |true=>
   simp only [hk,QiV,Option.some.injEq] at hl;subst hl;have:=QiO hk;subst this;exact h.1
  |false=>simp only [hk,Qj8] at hl;exact Q62 h.2 hl
theorem Q9x {l:List (Nat × Kf)} (h:Q6r P l):BC P (Q3x l):=by
 intro R f ac g aj hl k r hs;unfold Q3x at hs;split at hs
 ·rename_i e he;exact Q62 h he R ac g aj hl k r hs
 ·cases hs
def QfN (s:Nat):AV->AV
 |.nil=>.d (.sl s [])
 |av=>av
def QfW:List Nat->List AV->List AV
 |s::ss,a::r=>QfN s a::QfW ss r
 |[],r=>r
 |_::_,[]=>[]
def Qg0 (ss:List Nat):AV->AV
 |.ag l=>.ag (QfW ss l)
 |av=>QfN (ss.headD 0) av
def QfY:List (List Nat)->List AV->List AV
 |s::ss,a::r=>Qg0 s a::QfY ss r
 |[],r=>r
 |_::_,[]=>[]
def QdO (ss:List (List Nat)):AV->AV
 |.tup l=>.tup (QfY ss l)
 |av=>Qg0 (ss.headD []) av
theorem Q98 (s:Nat) (av:AV):Cl av (QfN s av):=by
 unfold QfN;split
 ·exact .nil s
 ·exact .refl _
theorem Q8w:∀ (ss:List Nat) (l:List AV),AVleL l (QfW ss l)
 |s::ss,a::r=>.cons (Q98 s a) (Q8w ss r)
 |[],r=>by unfold QfW;exact .refl r
 |_::_,[]=>.nil
theorem Q9t (ss:List Nat) (av:AV):Cl av (Qg0 ss av):=by
 unfold Qg0;split
 ·exact .ag (Q8w ss _)
 grind [Q98]
theorem Q8Z:∀ (ss:List (List Nat)) (l:List AV),AVleL l (QfY ss l)
 |s::ss,a::r=>.cons (Q9t s a) (Q8Z ss r)
 |[],r=>by unfold QfY;exact .refl r
 |_::_,[]=>.nil
theorem Q8D (ss:List (List Nat)) (av:AV):Cl av (QdO ss av):=by
 unfold QdO;split
 ·exact .tup (Q8Z ss _)
 grind [Q9t]
def retF {R:Type} (ss:List (List Nat)) (K:AV->Option R):AV->List (Nat × Ob)->Option R:=fun av h=>match Qai h av with
 |some ac=>bif lf (QdO ss ac) then K (QdO ss ac) else none
 |none=>none
theorem Q4T {α : Type} {K : AV -> Option α} {res : α} {f : Nat} {fn : Func} (hf : P.funcs[f]? = some fn) (hb : fn.body.isSome = true) (hn : (fn.name == "runtime.NumGoroutine") = false) {ss : List (List Nat)} {avs : List AV} {av : AV} {hl : Nat -> Option Ob} {rd : List Nat} (hlf : lfL avs = true)
  (hcall:∀ (β:Nat->Option Nat) (S:Nat->Prop) (w:World) (vs:List Value),Objs β S (look ([]:List (Nat × Ob))) w->ArgsRd β S (look ([]:List (Nat × Ob))) w vs avs->Calls P f vs.toArray w (M5 ([]:List (Nat × Ob)) (retF ss K) res β S w)) (hK:∀ x,K x=some res->x=av):Wn P f avs hl ⟨av,[],rd⟩:=by
 refine ⟨⟨fn,hf,hb,hn⟩,fun β S h' w args hO hA _=>?_⟩;have hO0:Objs (fun _=>none) S (look ([]:List (Nat × Ob))) w:=⟨fun l o h=>by trivial,fun l l' b h=>by simp [look] at h,fun l b h=>by simp [look] at h,hO.sb⟩;have hA0:ArgsRd (fun _=>none) S (look ([]:List (Nat × Ob))) w args avs:=⟨hA.1,fun i v av' h1 h2=>Fu (Q0X hlf h2) (fun _ h=>h) (fun _ _=>rfl) (hA.2 i v av' h1 h2)⟩;refine (hcall _ _ _ _ hO0 hA0).mono fun e w' ⟨v,av0,H',β',S',he,hk,hrd,_,hr⟩=>?_
 unfold retF at hk;split at hk
 case h_2=>cases hk
 rename_i av' hav;cases hlf2:lf (QdO ss av') with
 |false=>simp_all
 |true=>
  simp only [hlf2,QiV] at hk;have hk:=hK _ hk;subst hk;have hO':Objs β' S' (look H') w':=⟨hr.ob,hr.inj,hr.apart,hr.sb⟩;obtain ⟨bs,hbs,hlf',hrd'⟩:=Q2m hO' hav hrd;have hnoM:∀ {b:Nat},(S b\/(∃ l,(look ([]:List (Nat × Ob)) l).isSome=true/\(none:Option Nat)=some b)\/w.heap.size<=b)->S b\/w.heap.size<=b:=by
   simp_all
  have hfz:∀ b,fzS β' S' bs b->S b\/w.heap.size<=b:=by
   intro b hS;rcases hS with hS | ⟨l,hl',hb'⟩
   ·exact hnoM (hr.sfr b hS)
   ·obtain ⟨e',s,rows,hh⟩:=hbs l hl';exact hnoM (.inr (hr.own l b (by simp [hh]) hb'))
  refine ⟨v,β,fzS β' S' bs,he,⟨fun b hS=>.inl (hr.s0 b hS),fun b hS=>?_,fun b hS=>?_,?_,fun _ _=>rfl,fun l o hl'=>by trivial,fun l hl'=>by simp [wrL] at hl',fun l b hl'=>by simp [wrL] at hl',fun l l' b hl'=>by simp [wrL] at hl',fun l hl'=>by simp [wrL] at hl',?_,fun t=>Q4y t _ hlf2⟩⟩
  ·rcases hfz b hS with h1 | h1
   ·exact .inl h1
   ·exact .inr (.inl h1)
  ·rcases hS with hS | ⟨l,hl',hb'⟩
   ·exact hr.sb b hS
   ·obtain ⟨e',s,rows,hh⟩:=hbs l hl';rcases hr.ob l _ hh with ⟨hn',_⟩ | ⟨b2,cs,hb2,hw2,_⟩
    ·rw [hb'] at hn';cases hn'
    ·rw [hb'] at hb2;injection hb2 with hb2;subst hb2
     exact (QiZ.1 hw2).1
  ·refine hr.fr.mono fun b _ ⟨l,h1,_⟩=>?_
   simp [look] at h1
  ·exact Fu hlf2 (fun _ h=>h) (fun _ _=>rfl) (Q8D ss _ _ _ _ _ _ _ hrd')
def cL:Code->Code | .seq a _=>a | c=>c
def cR:Code->Code | .seq _ b=>b | c=>c
def cB:Code->Code | .block _ c=>c | .loop c=>c | c=>c
def cT:Code->Code | .cond _ a _=>a | c=>c
def cE:Code->Code | .cond _ _ b=>b | c=>c
def Jc (fn:Func):Code:=fn.body.getD .skip
end

section
variable {P:Program} {R:Type}
theorem Q6m {ρ:List (Nat × Nat)} {β β':Nat->Option Nat} {S:Nat->Prop} {h h':Nat->Option Ob} (ac:∀ l k,(l,k)∈ρ->β' k=β l) (ak:∀ l k o,(l,k)∈ρ->h l=some o->h' k=some (Qbr ρ o))
  (ar:∀ l k,(l,k)∈ρ->h l=none->h' k=none) {w:World} {tm:Nat->Value} {v:Value} {av:AV} (hv:RdA β S h w tm v av):RdA β' S h' w tm v (Uy ρ av):=by
 induction hv with
 |top v=>exact .top v
 |d v x hx=>exact .d v x hx
 |nil=>exact .nil
 |ag cs l hl _ ih=>
  refine .ag cs _ (by grind [Zn]) fun i x hx=>?_
  grind [J8,Option.map_eq_some_iff]
 |tup cs l hl _ ih=>
  refine .tup cs _ (by rw [Zn];exact hl) fun i x hx=>?_
  rw [J8,QiQ] at hx
  grind
 |fn f cs l hl _ ih=>
  refine .fn f cs _ (by rw [Zn];exact hl) fun i x hx=>?_
  rw [J8,QiQ] at hx;obtain ⟨y,hy,rfl⟩:=hx;exact ih i y hy
 |ptr l off b hb=>
  unfold Uy;split
  ·rename_i l' hl;exact .ptr _ _ _ ((ac _ _ (YR hl)).trans hb)
  ·exact .top _
 |sa v l t b hb hv=>
  unfold Uy;split
  ·rename_i l' hl;exact .sa _ _ _ b ((ac _ _ (YR hl)).trans hb) hv
  ·exact .top _
 |el ad row off c hs hc hr=>exact .el ad row off c hs hc hr
 |fs ad s rows hx=>exact .fs ad s rows hx
 |mpd v f hm=>exact .mpd v f hm
 |ex v=>exact .ex v
 |arr0 l e s hb hh=>
  unfold Uy;split
  ·rename_i l' hl;exact .arr0 _ e s ((ac _ _ (YR hl)).trans hb) (ak _ _ _ (YR hl) hh)
  ·exact .top _
 |arr l b cap e s rows cs ty fz hb hh hw aw ao aq=>
  unfold Uy;split
  ·rename_i l' hl;exact .arr _ b cap e s rows cs ty fz ((ac _ _ (YR hl)).trans hb) (ak _ _ _ (YR hl) hh) hw aw ao aq
  ·exact .top _
 |mp l b t f hb hh=>
  unfold Uy;split
  ·rename_i l' hl;exact .mp _ b t f ((ac _ _ (YR hl)).trans hb) (ak _ _ _ (YR hl) hh)
  ·exact .top _
 |ap l i off b e s rows hb hh=>
  unfold Uy;split
  ·rename_i l' hl;exact .ap _ i off b e s rows ((ac _ _ (YR hl)).trans hb) (ak _ _ _ (YR hl) hh)
  ·exact .top _
 |dang v av l hl hh h1=>
  cases av <;> simp [M8] at hl
  ·subst hl;unfold Uy;split
   ·rename_i l' an;exact .dang _ _ l' rfl (ar _ _ (YR an) hh) h1
   ·exact .top _
  ·subst hl;unfold Uy;split
   ·rename_i l' an;exact .dang _ _ l' rfl (ar _ _ (YR an) hh) h1
   ·exact .top _
 |gdT=>exact .top _
 |gdF=>exact .top _
def Qc5 (ρ:List (Nat × Nat)) (av:AV):Bool:=
 match av with
 |.ptr j _=>(look ρ j).isSome
 |av=>lf av
def DZ (ρ:List (Nat × Nat)):List AV->Bool
 |[]=>true
 |a::r=>Qc5 ρ a&&DZ ρ r
theorem Q2Z {ρ:List (Nat × Nat)}:∀ {l:List AV} {i:Nat} {x:AV},DZ ρ l=true->l[i]? = some x->Qc5 ρ x=true
 |a::r,0,x,h,hx=>by
  simp only [DZ,QiP] at h;simp at hx;subst hx;exact h.1
 |a::r,i+1,x,h,hx=>by
  simp only [DZ,QiP] at h;exact Q2Z h.2 (by simpa using hx)
def HN (σ:List (Nat × Nat)) (H:List (Nat × Ob)):List (Nat × Nat)->List (Nat × Option Ob)
 |[]=>[]
 |(j,l)::r=>(l,(look H j).map (Qbr σ))::HN σ H r
theorem Bh (σ:List (Nat × Nat)) (H:List (Nat × Ob)):∀ τ,(HN σ H τ).map (·.1)=τ.map (·.2)
 |[]=>rfl
 |(j,l)::r=>by simp [HN,Bh σ H r]
theorem Lh (σ:List (Nat × Nat)) (H:List (Nat × Ob)):∀ (τ:List (Nat × Nat)) (h:Nat->Option Ob),Xj (τ.map (·.2))=true->∀ j l,(j,l)∈τ->Hb h (HN σ H τ) l=(look H j).map (Qbr σ)
 |(a,b)::r,h,hn,j,l,hm=>by
  simp only [QiY,Xj,QiP,QiW] at hn;simp only [HN,Hb];rcases QiU.1 hm with hm | hm
  ·injection hm with e1 e2
   subst e1 e2;rw [V7]
   ·simp
   ·rw [Bh];intro ac;have:S6 l (r.map (·.2))=true:=by
     have:∀ (L:List Nat),l∈L->S6 l L=true:=by
      intro L;induction L with
      |nil=>simp_all
      |cons x xs ih=>
       grind [S6,Nat.beq_refl]
     simp_all
    simp_all
  ·exact Lh σ H r _ hn.2 j l hm
mutual
theorem Q1M (ρ:List (Nat × Nat)) (t:Nat):∀ av:AV,gds t (Uy ρ av)=false
 |.top=>rfl
 |.d _=>rfl
 |.nil=>rfl
 |.el ..=>rfl
 |.fs ..=>rfl
 |.mpd _=>rfl
 |.ex _=>rfl
 |.gd ..=>rfl
 |.ag l=>by simp only [Uy,gds];exact F9 ρ t l
 |.tup l=>by simp only [Uy,gds];exact F9 ρ t l
 |.fn _ l=>by simp only [Uy,gds];exact F9 ρ t l
 |.ptr l o=>by unfold Uy;split <;> rfl
 |.arr l=>by unfold Uy;split <;> rfl
 |.ap l i o=>by unfold Uy;split <;> rfl
 |.sa l t=>by unfold Uy;split <;> rfl
theorem F9 (ρ:List (Nat × Nat)) (t:Nat):∀ l:List AV,AS t (Q2L ρ l)=false
 |[]=>rfl
 |a::r=>by simp only [Q2L,AS,Q1M ρ t a,F9 ρ t r,Bool.or_self]
end
mutual
theorem Q8A (ρ:List (Nat × Nat)):∀ av:AV,lf av=true->Uy ρ av=av
 |.top,_=>rfl
 |.d _,_=>rfl
 |.nil,_=>rfl
 |.el ..,_=>rfl
 |.fs ..,_=>rfl
 |.mpd _,_=>rfl
 |.ex _,_=>rfl
 |.gd ..,h=>by simp [lf] at h
 |.ag l,h=>by simp only [Uy];rw [Q1p ρ l (by simpa [lf] using h)]
 |.tup l,h=>by simp only [Uy];rw [Q1p ρ l (by simpa [lf] using h)]
 |.fn _ l,h=>by simp only [Uy];rw [Q1p ρ l (by simpa [lf] using h)]
 |.ptr ..,h=>by simp [lf] at h
 |.arr _,h=>by simp [lf] at h
 |.ap ..,h=>by simp [lf] at h
 |.sa ..,h=>by simp [lf] at h
theorem Q1p (ρ:List (Nat × Nat)):∀ l:List AV,lfL l=true->Q2L ρ l=l
 |[],_=>rfl
 |a::r,h=>by
  simp only [lfL,QiP] at h;simp only [Q2L,Q8A ρ a h.1,Q1p ρ r h.2]
end
theorem Q6N {σ:List (Nat × Nat)} {l:Nat} (h:l ∉ σ.map (·.2)):inv σ l=none:=by
 cases hi:inv σ l with
 |none=>rfl
 |some j=>exact absurd (Qja.2 ⟨(j,l),Q91 hi,rfl⟩) h
theorem LM {ρ:List (Nat × Nat)} (hn:Xj (ρ.map (·.1))=true) {j l:Nat} (hm:(j,l)∈ρ):look ρ j=some l:=by
 cases hk:look ρ j with
 |none=>
  have:∀ (L:List (Nat × Nat)),(j,l)∈L->look L j≠none:=by
   intro L;induction L with
   |nil=>simp_all
   |cons x r ih=>
    grind [Y6]
  simp_all
 |some l'=>
  have:=HI hn (j,l) (j,l') hm (YR hk) rfl
  simp_all
structure HeapEnd (σ ρ:List (Nat × Nat)) (H:List (Nat × Ob)) (av:AV) (H':List (Nat × Ob)) (dl:Dl):Prop where
 v:Uy σ av=dl.v
 wr:HN σ H' σ=dl.wr
 all:∀ j l,(j,l)∈σ->(look H' j).isSome=true
 box:∀ j l,(j,l)∈ρ->∃ c c',look H j=some (.box c)/\look H' j=some (.box c')/\c'.length=c.length
theorem Q43 {α : Type} {K : AV -> List (Nat × Ob) -> Option α} {res : α} {f : Nat} {fn : Func} (hf : P.funcs[f]? = some fn) (hb : fn.body.isSome = true) (hn : (fn.name == "runtime.NumGoroutine") = false)
  {σ ρ:List (Nat × Nat)} {avs avs':List AV} {H:List (Nat × Ob)} {hl:Nat->Option Ob} {dl:Dl}
  (hav:avs=avs'.map (Uy ρ)) (hargs:DZ ρ avs'=true)
  (hsub:∀ p,p∈ρ->p∈σ) (h1:Xj (σ.map (·.1))=true) (h2:Xj (σ.map (·.2))=true) (hρ:Xj (ρ.map (·.1))=true)
  (hin:∀ j l,(j,l)∈ρ->1000000<=j/\∃ cs cs',hl l=some (.box cs)/\look H j=some (.box cs')/\AVleL cs cs'/\lfL cs'=true)
  (hinH:∀ j,(look H j).isSome=true->∃ l,(j,l)∈ρ)
  (hnew:∀ j l,(j,l)∈σ->(j,l)∈ρ\/hl l=none)
  (hwl:wrL dl=σ.map (·.2))
  (hcall:∀ (β:Nat->Option Nat) (S:Nat->Prop) (w:World) (vs:List Value),Objs β S (look H) w->ArgsRd β S (look H) w vs avs'->Calls P f vs.toArray w (M5 H K res β S w)) (hK:∀ av H',K av H'=some res->HeapEnd σ ρ H av H' dl):Wn P f avs hl dl:=by
 refine ⟨⟨fn,hf,hb,hn⟩,fun β S h' w args hO hA hag=>?_⟩;have hag:∀ {j l:Nat},(j,l)∈σ->h' l=hl l:=fun {j l} hm=>hag l (.inr (by rw [hwl];exact Qja.2 ⟨(j,l),hm,rfl⟩))
 have hlook:∀ {j l:Nat},(j,l)∈ρ->look ρ j=some l:=fun hm=>LM hρ hm
 have hβc:∀ {j l:Nat},(j,l)∈ρ->(look ρ j).bind β=β l:=fun hm=>by rw [hlook hm];rfl
 have hlk2:∀ {j j' l:Nat},(j,l)∈ρ->(j',l)∈ρ->j=j':=fun a b=>by
  have:=HI h2 _ _ (hsub _ a) (hsub _ b) rfl;injection this
 have hsome':∀ {j l:Nat},(j,l)∈ρ->(h' l).isSome=true:=fun hm=>by
  obtain ⟨_,cs,cs',g1,_⟩:=hin _ _ hm;rw [hag (hsub _ hm),g1];rfl
 have hO0:Objs (fun j=>(look ρ j).bind β) S (look H) w:=by
  refine ⟨fun j o ho=>?_,fun j j' b s1 s2 b1 b2=>?_,fun j b s1 b1=>?_,hO.sb⟩
  ·obtain ⟨l,hm⟩:=hinH j (by simp [ho]);obtain ⟨_,cs,cs',g1,g2,g3,g4⟩:=hin j l hm;rw [ho] at g2;injection g2 with g2
   subst g2;obtain ⟨b,ty,c0,fz,e1,e2,e3,e4,e5⟩:=hO.ob l _ ((hag (hsub _ hm)).trans g1);refine ⟨b,ty,c0,fz,(hβc hm).trans e1,e2,⟨e3.1,fun i l' t' hx=>by have:=Q0X g4 hx;simp [lf] at this⟩,e4.trans g3.length,fun i x hx=>?_⟩;obtain ⟨y,y1,y2⟩:=g3.at i x hx;exact Fu (Q0X g4 hx) (fun _ h=>h) (fun _ _=>rfl) (y2 _ _ _ _ _ _ (e5 i y y1))
  ·obtain ⟨l,hm⟩:=hinH j s1;obtain ⟨l',hm'⟩:=hinH j' s2;have:=hO.inj l l' b (hsome' hm) (hsome' hm') (by rw [<- hβc hm];exact b1) (by rw [<- hβc hm'];exact b2);subst this;exact hlk2 hm hm'
  ·obtain ⟨l,hm⟩:=hinH j s1;exact hO.apart l b (hsome' hm) (by rw [<- hβc hm];exact b1)
 have hA0:ArgsRd (fun j=>(look ρ j).bind β) S (look H) w args avs':=by
  refine ⟨by rw [hA.1,hav,List.length_map],fun i v av g1 g2=>?_⟩;have hr:=hA.2 i v (Uy ρ av) g1 (by rw [hav,List.getElem?_map,g2];rfl);have hok:=Q2Z hargs g2;unfold Qc5 at hok;split at hok
  ·rename_i j o;cases hj:look ρ j with
   |none=>rw [hj] at hok;cases hok
   |some l=>
    simp only [Uy,hj] at hr;cases hr with
    |ptr _ _ b hb'=>exact .ptr j o b (by simp only [hj];exact hb')
    |dang _ _ _ hl'=>simp [M8] at hl'
  ·rw [Q8A ρ av hok] at hr;exact Fu hok (fun _ h=>h) (fun _ _=>rfl) hr
 refine (hcall _ _ _ _ hO0 hA0).mono fun e w' ⟨v,av,H',β',S',he,hk,hrd,_,hr⟩=>?_
 obtain ⟨q1,q2,q3,q4⟩:=hK av H' hk;have hinv:∀ {j l:Nat},(j,l)∈σ->inv σ l=some j:=fun hm=>Q3F h2 hm
 let βo:Nat->Option Nat:=fun l=>match inv σ l with | some j=>β' j | none=>β l
 have hβo:∀ j l,(j,l)∈σ->βo l=β' j:=fun j l hm=>by simp only [βo,hinv hm]
 have hset:∀ j l,(j,l)∈σ->Hb h' dl.wr l=(look H' j).map (Qbr σ):=fun j l hm=>by rw [<- q2];exact Lh σ H' σ h' h2 j l hm
 have hmem:∀ {l:Nat},l∈wrL dl->∃ j,(j,l)∈σ:=fun hm=>by
  rw [hwl] at hm;obtain ⟨⟨j,l'⟩,m1,m2⟩:=Qja.1 hm;simp only at m2;subst m2;exact ⟨j,m1⟩
 have hpin:∀ {j l:Nat},(j,l)∈ρ->β' j=β l:=fun hm=>(hr.pin _ (hin _ _ hm).1).trans (hβc hm)
 have hren:∀ {v:Value} {x:AV},RdA β' S' (look H') w' tm0 v x->RdA βo S' (Hb h' dl.wr) w' tm0 v (Uy σ x):=fun hx=>
  Q6m hβo (fun j l o hm ho=>by rw [hset j l hm,ho];rfl) (fun j l hm ho=>by rw [hset j l hm,ho];rfl) hx
 have hnotin:∀ {j l:Nat},(j,l)∈σ->(j,l) ∉ ρ->∀ b,β' j=some b->w.heap.size<=b:=by
  intro j l hm hno b hb';rcases hr.own j b (q3 j l hm) hb' with ⟨j',s1,s2⟩ | h
  ·exfalso;obtain ⟨l',hm'⟩:=hinH j' s1;have e1:β' j'=some b:=(hpin hm').trans (by rw [<- hβc hm'];exact s2);have:=hr.inj j j' b (q3 j l hm) (q3 j' l' (hsub _ hm')) hb' e1;subst this;have:=HI h1 _ _ hm (hsub _ hm') rfl;exact hno (this▸hm')
  ·exact h
 have hMw:∀ b,(∃ j,(look H j).isSome=true/\(look ρ j).bind β=some b)->∃ l,l∈wrL dl/\(h' l).isSome=true/\β l=some b:=by
  intro b ⟨j,s1,s2⟩;obtain ⟨l,hm⟩:=hinH j s1;exact ⟨l,by rw [hwl];exact Qja.2 ⟨(j,l),hsub _ hm,rfl⟩,hsome' hm,by rw [<- hβc hm];exact s2⟩
 refine ⟨v,βo,S',he,⟨hr.s0,fun b hS=>?_,hr.sb,hr.fr.mono fun b _ hM=>hMw b hM,fun l hno=>?_,fun l o hm ho=>?_,fun l hm hs=>?_,fun l b hm hs hb'=>?_,fun l l' b hm hm' hs hs' hb' hb''=>?_,fun l hm hno hno'=>?_,?_,fun t=>by rw [<- q1];exact Q1M σ t av⟩⟩
 ·rcases hr.sfr b hS with g | g | g
  ·exact .inl g
  ·exact .inr (.inr (hMw b g))
  ·exact .inr (.inl g)
 ·have:inv σ l=none:=Q6N (by rw [<- hwl];exact hno);simp only [βo,this]
 ·obtain ⟨j,hj⟩:=hmem hm;rw [hset j l hj,QiQ] at ho;obtain ⟨o',ho',rfl⟩:=ho;have hob:=hr.ob j o' ho';cases o' with
  |box cells=>
   obtain ⟨b,ty,cs,fz,g1,g2,g3,g4,g5⟩:=hob;refine ⟨b,ty,cs,fz,(hβo j l hj).trans g1,g2,⟨g3.1,Q1k g3.2⟩,by rw [g4,Zn],fun i x hx=>?_⟩;rw [J8,QiQ] at hx;obtain ⟨y,hy,rfl⟩:=hx;exact hren (g5 i y hy)
  |arr e s rows=>
   rcases hob with ⟨g1,g2⟩ | ⟨b,cs,g1,g2,g3,g4,g5⟩
   ·exact .inl ⟨(hβo j l hj).trans g1,g2⟩
   ·exact .inr ⟨b,cs,(hβo j l hj).trans g1,g2,g3,g4,g5⟩
  |mp t f=>
   obtain ⟨b,hb,hm'⟩:=hob;exact ⟨b,(hβo j l hj).trans hb,hm'⟩
 ·obtain ⟨j,hj⟩:=hmem hm;rcases hnew j l hj with hp | hno
  ·obtain ⟨c,c',g1,g2,g3⟩:=q4 j l hp;obtain ⟨_,cs,cs',e1,e2,e3,_⟩:=hin j l hp;have hh:h' l=some (.box cs):=(hag hj).trans e1;refine ⟨(hβo j l hj).trans (hpin hp),fun hx=>(by rw [hh] at hx;cases hx),fun e s rows hx=>(by rw [hh] at hx;cases hx),fun b c0 ty fz _ hb' hw=>?_,fun t f hx=>(by rw [hh] at hx;cases hx)⟩;obtain ⟨b2,ty2,c2,fz2,k1,k2,_,k4,_⟩:=hr.ob j _ g2;obtain ⟨b3,ty3,c3,fz3,m1,m2,_,m4,_⟩:=hO.ob l _ hh;rw [hpin hp,hb'] at k1;injection k1 with k1
   subst k1;rw [hb'] at m1;injection m1 with m1
   subst m1;rw [hw] at m2;injection m2 with m2
   injection m2 with m2 _ _
   subst m2;refine ⟨c2,ty2,fz2,k2,?_⟩;rw [k4,m4,g3];rw [g1] at e2;injection e2 with e2
   injection e2 with e2
   rw [e2,e3.length]
  ·rw [hag hj,hno] at hs;cases hs
 ·obtain ⟨j,hj⟩:=hmem hm;rw [hβo j l hj] at hb';refine ⟨?_,hr.apart j b (q3 j l hj) hb'⟩;by_cases hp:(j,l)∈ρ
  ·exact .inr ⟨l,hm,hsome' hp,by rw [<- hpin hp];exact hb'⟩
  ·exact .inl (hnotin hj hp b hb')
 ·obtain ⟨j,hj⟩:=hmem hm;obtain ⟨j',hj'⟩:=hmem hm';rw [hβo j l hj] at hb';rw [hβo j' l' hj'] at hb'';have:=hr.inj j j' b (q3 j l hj) (q3 j' l' hj') hb' hb'';subst this;have:=HI h1 _ _ hj hj' rfl;injection this
 ·obtain ⟨j,hj⟩:=hmem hm;have:=q3 j l hj;rw [hset j l hj] at hno';cases hx:look H' j with
  |none=>rw [hx] at this;cases this
  |some o=>rw [hx] at hno';cases hno'
 ·rw [<- q1];exact hren hrd
def Qf0 (hl:Nat->Option Ob) (H:List (Nat × Ob)):List (Nat × Nat)->Prop
 |[]=>True
 |(j,l)::r=>(1000000<=j/\∃ cs ac,hl l=some (.box cs)/\look H j=some (.box ac)/\AVleL cs ac/\lfL ac=true)/\Qf0 hl H r
def Qbw (H:List (Nat × Ob)):List (Nat × Nat)->Prop
 |[]=>True
 |(j,_)::r=>(look H j).isSome=true/\Qbw H r
def Qei (H H':List (Nat × Ob)):List (Nat × Nat)->Prop
 |[]=>True
 |(j,_)::r=>(∃ c c',look H j=some (.box c)/\look H' j=some (.box c')/\c'.length=c.length)/\Qei H H' r
def Qg5 (hl:Nat->Option Ob):List (Nat × Nat)->Bool
 |[]=>true
 |(_,l)::r=>(hl l).isNone&&Qg5 hl r
theorem Q8m {hl:Nat->Option Ob} {H:List (Nat × Ob)}:∀ {ρ:List (Nat × Nat)},Qf0 hl H ρ->∀ j l,(j,l)∈ρ->1000000<=j/\∃ cs ac,hl l=some (.box cs)/\look H j=some (.box ac)/\AVleL cs ac/\lfL ac=true
 |(a,b)::r,h,j,l,hm=>by
  rcases QiU.1 hm with hm | hm
  ·injection hm with h1 h2;subst h1 h2;exact h.1
  ·exact Q8m h.2 j l hm
theorem Q4P {H:List (Nat × Ob)}:∀ {ρ:List (Nat × Nat)},Qbw H ρ->∀ j l,(j,l)∈ρ->(look H j).isSome=true
 |(a,b)::r,h,j,l,hm=>by
  rcases QiU.1 hm with hm | hm
  ·injection hm with h1 h2;subst h1 h2;exact h.1
  ·exact Q4P h.2 j l hm
theorem Q8h {H H':List (Nat × Ob)}:∀ {ρ:List (Nat × Nat)},Qei H H' ρ->∀ j l,(j,l)∈ρ->∃ c c',look H j=some (.box c)/\look H' j=some (.box c')/\c'.length=c.length
 |(a,b)::r,h,j,l,hm=>by
  rcases QiU.1 hm with hm | hm
  ·injection hm with h1 h2;subst h1 h2;exact h.1
  ·exact Q8h h.2 j l hm
theorem Q5X {hl:Nat->Option Ob}:∀ {ρ:List (Nat × Nat)},Qg5 hl ρ=true->∀ j l,(j,l)∈ρ->hl l=none
 |(a,b)::r,h,j,l,hm=>by
  simp only [Qg5,QiP] at h;rcases QiU.1 hm with hm | hm
  ·injection hm with h1 h2;subst h1 h2;simpa using h.1
  ·exact Q5X h.2 j l hm
theorem Q1O:∀ {H:List (Nat × Ob)} {ρ:List (Nat × Nat)},H.map (·.1)=ρ.map (·.1)->∀ j,(look H j).isSome=true->∃ l,(j,l)∈ρ
 |[],_,_,j,hs=>by simp [look] at hs
 |(a,o)::r,[],h,_,_=>by simp at h
 |(a,o)::r,(b,l)::ρ,h,j,hs=>by
  simp only [QiY,List.cons.injEq] at h;rw [Y6] at hs;by_cases e:j=a
  ·exact ⟨l,by rw [e,h.1];exact Qj6 ..⟩
  ·rw [Qj9 e] at hs;obtain ⟨l',hm⟩:=Q1O h.2 j hs;exact ⟨l',Qj1 _ hm⟩
def Gq (hl:Nat->Option Ob) (ρ ν:List (Nat × Nat)):Bool:=Xj ((ρ++ν).map (·.2))&&Qg5 hl ν
theorem AH {α : Type} {K : AV -> List (Nat × Ob) -> Option α} {res : α} {f : Nat} {fn : Func} (hf : P.funcs[f]? = some fn) (hb : fn.body.isSome = true) (hn : (fn.name == "runtime.NumGoroutine") = false)
  {ρ ν:List (Nat × Nat)} {avs avs':List AV} {H:List (Nat × Ob)} {hl:Nat->Option Ob} {dl:Dl}
  (hav:avs=avs'.map (Uy ρ)) (hargs:DZ ρ avs'=true) (h1:Xj ((ρ++ν).map (·.1))=true) (hρ:Xj (ρ.map (·.1))=true)
  (hc:Gq hl ρ ν=true) (hin:Qf0 hl H ρ) (hkeys:H.map (·.1)=ρ.map (·.1)) (hwl:wrL dl=(ρ++ν).map (·.2))
  (hcall:∀ (β:Nat->Option Nat) (S:Nat->Prop) (w:World) (vs:List Value),Objs β S (look H) w->ArgsRd β S (look H) w vs avs'->Calls P f vs.toArray w (M5 H K res β S w))
  (hK:∀ av H',K av H'=some res->Uy (ρ++ν) av=dl.v/\HN (ρ++ν) H' (ρ++ν)=dl.wr/\Qbw H' (ρ++ν)/\Qei H H' ρ):Wn P f avs hl dl:=by
 simp only [Gq,QiP] at hc;refine Q43 hf hb hn hav hargs (fun p hp=>Qjc _ hp) h1 hc.1 hρ (Q8m hin) (Q1O hkeys) (fun j l hm=>?_) hwl hcall fun av H' hk=>?_
 ·grind [Q5X]
 ·obtain ⟨q1,q2,q3,q4⟩:=hK av H' hk;exact ⟨q1,q2,Q4P q3,Q8h q4⟩
theorem QdJ {α : Type} {K : AV -> List (Nat × Ob) -> Option α} {res : α} {C : VC} (hC : VCOk P C) {n f : Nat} {fn : Func} (hf : P.funcs[f]? = some fn) (hb : fn.body.isSome = true) (hn : (fn.name == "runtime.NumGoroutine") = false)
  {ρ ν:List (Nat × Nat)} {avs avs':List AV} {H:List (Nat × Ob)} {hl:Nat->Option Ob} {dl:Dl}
  (hav:avs=avs'.map (Uy ρ)) (hargs:DZ ρ avs'=true) (h1:Xj ((ρ++ν).map (·.1))=true) (hρ:Xj (ρ.map (·.1))=true)
  (hc:Gq hl ρ ν=true) (hin:Qf0 hl H ρ) (hkeys:H.map (·.1)=ρ.map (·.1)) (hwl:wrL dl=(ρ++ν).map (·.2))
  (h:vfn C n fn avs' H K=some res)
  (hK:∀ av H',K av H'=some res->Uy (ρ++ν) av=dl.v/\HN (ρ++ν) H' (ρ++ν)=dl.wr/\Qbw H' (ρ++ν)/\Qei H H' ρ):Wn P f avs hl dl:=
 AH hf hb hn hav hargs h1 hρ hc hin hkeys hwl (fun _ _ _ _ hO hA=>Bb hC hf h hO hA) hK
theorem Qz {c:Bool} {x:Option R} {r:R} (h:(bif c then x else none)=some r):c=true/\x=some r:=by
 grind
def Qhb (l:List Nat) (a b:Kf):Kf:=fun R ac g aj hl k=>bif S6 ac l then a R ac g aj hl k else b R ac g aj hl k
theorem Qcn (l:List Nat) {f:Nat} {a b:Kf} (ha:Uo P f a) (hb:Uo P f b):Uo P f (Qhb l a b):=by
 intro R ac g aj hl k r h;unfold Qhb at h;cases hm:S6 ac l with
 |true=>rw [hm] at h;exact ha R ac g aj hl k r h
 |false=>rw [hm] at h;exact hb R ac g aj hl k r h
def prP (hl:Nat->Option Ob) (av:AV) (k:Nat->List AV->Option R):Option R:=
 match av with
 |.ptr l o=>bif Nat.beq o 0 then match hl l with
  |some (.box cs)=>k l cs
  |_=>none
  else none
 |_=>none
theorem QfS {hl:Nat->Option Ob} {av:AV} {k:Nat->List AV->Option R} {r:R} (h:prP hl av k=some r):∃ l cs,k l cs=some r/\av = .ptr l 0/\hl l=some (.box cs):=by
 unfold prP at h
 grind [Nat.beq,Nat.eq_of_beq_eq_true]
end

section
variable {P:Program} {R:Type}
def SW (w:World):Nat->Prop:=fun b=>b<w.heap.size
theorem Q8o {f:Nat} {ss:List (List Nat)} {K:AV->Option Bool} (hK:∀ x,K x=some true->x = .d (.bool true))
  {al:List AV} {args:List Value} {w:World} (hA:ArgsRd (fun _=>none) (SW w) (look ([]:List (Nat × Ob))) w args al) (aj:∀ (β:Nat->Option Nat) (S:Nat->Prop) (w:World) (vs:List Value),Objs β S (look ([]:List (Nat × Ob))) w->ArgsRd β S (look ([]:List (Nat × Ob))) w vs al->Calls P f vs.toArray w (M5 ([]:List (Nat × Ob)) (retF ss K) true β S w)) :
  Calls P f args.toArray w fun e w'=>e = .returned (.bool true)/\RowKit.Below w.heap.size w w':=by
 have hO:Objs (fun _=>none) (SW w) (look ([]:List (Nat × Ob))) w:=⟨fun l o h=>by simp [look] at h,fun l l' b h=>by simp [look] at h,fun l b h=>by simp [look] at h,fun b h=>h⟩;refine (aj _ _ _ _ hO hA).mono fun e w' ⟨v,av,H',β',S',he,hk,ar,_,hr⟩=>?_
 refine ⟨?_,Fr.below (hr.fr.mono fun b _ ⟨l,h1,_⟩=>by simp [look] at h1)⟩;unfold retF at hk;split at hk
 case h_2=>cases hk
 rename_i aq an;cases ac:lf (QdO ss aq) with
 |false=>simp [ac] at hk
 |true=>
  simp only [ac,QiV] at hk;have hk:=hK _ hk;have ao:Objs β' S' (look H') w':=⟨hr.ob,hr.inj,hr.apart,hr.sb⟩;obtain ⟨bs,_,_,ak⟩:=Q2m ao an ar;have:=Q8D ss _ _ _ _ _ _ _ ak;rw [hk] at this;rw [he,this.bool_inv]
theorem Q7d {β:Nat->Option Nat} {S:Nat->Prop} {h:Nat->Option Ob} {w:World}:ArgsRd β S h w [] []:=⟨rfl,fun i v av h=>by simp at h⟩
theorem Q59 {β:Nat->Option Nat} {S:Nat->Prop} {h:Nat->Option Ob} {w:World} {v:Value} {av:AV} {vs:List Value} {ac:List AV} (h0:RdA β S h w tm0 v av) (hr:ArgsRd β S h w vs ac):ArgsRd β S h w (v::vs) (av::ac):=by
 refine ⟨by simp [hr.1],fun i v' aj h1 h2=>?_⟩;cases i with
 |zero=>simp at h1 h2;subst h1 h2;exact h0
 |succ i=>exact hr.2 i v' aj (by simpa using h1) (by simpa using h2)
theorem QdD {w:World} {a:Addr} {v:Value} (h:w.cell? a=some v):a.block<w.heap.size:=by
 rcases Nat.lt_or_ge a.block w.heap.size with h1 | h1
 ·exact h1
 ·simp [World.cell?,Array.getElem?_eq_none h1] at h
theorem Q0 {α:Type} (g:Bool) (a z:α) (k:α->Option R):gb g (some a) z k=k a:=rfl
end

inductive Sh where
 |int (k:IntKind)
 |bool
 |str
 |sl (row:List Sh)
inductive Fit:Sh->D->Prop
 |int (k:IntKind) (n:Int) (h:(Lit.int k n).wf=true):Fit (.int k) (.int k n)
 |bool (b:Bool):Fit .bool (.bool b)
 |str (s:List UInt8) (h:s.length<=maxLen):Fit .str (.str s)
 |sl (row:List Sh) (rows:List (List D)) (h:rows.length<=maxLen) (hl:∀ (i:Nat) (r:List D),rows[i]? = some r->r.length=row.length)
   (hr:∀ (i j:Nat) (r:List D) (s:Sh) (x:D),rows[i]? = some r->row[j]? = some s->r[j]? = some x->Fit s x):Fit (.sl row) (.sl row.length rows)
def Qby (ss:List Sh) (ds:List D):Prop:=ds.length=ss.length/\∀ (j:Nat) (s:Sh) (x:D),ss[j]? = some s->ds[j]? = some x->Fit s x
def Qe2 (P:Program) (so:TypeId->Option (List Sh)):Nat->List Field->Option (List Sh)
 |_,[]=>some []
 |off,fd::r=>
  if fd.offset=off then match so fd.type with
   |some a=>if a.length=P.cellsOf fd.type then match Qe2 P so (off+a.length) r with
    |some l=>some (a++l)
    |none=>none
    else none
   |none=>none
  else none
def Q9n (P:Program):Nat->TypeId->Option (List Sh)
 |0,_=>none
 |f+1,t=>
  match P.underlying t with
  |some .bool=>some [.bool]
  |some (.int k)=>some [.int k]
  |some .string=>some [.str]
  |some (.slice e)=>match Q9n P f e with
   |some row=>if row.length=P.cellsOf e/\row.length≠0 then some [.sl row] else none
   |none=>none
  |some (.struct fs)=>match Qe2 P (Q9n P f) 0 fs.toList with
   |some l=>if l.length=P.cellsOf t then some l else none
   |none=>none
  |_=>none
section
variable {P:Program} {H:Type} {enc:TypeId × Value->H} {w:World}
def RdL (w:World) (cs:List Value) (ds:List D):Prop:=cs.length=ds.length/\∀ (j:Nat) (v:Value) (x:D),cs[j]? = some v->ds[j]? = some x->Rd (SW w) w v x
theorem Q5N {α:Type} {Q:Nat->α->Prop}:∀ (n:Nat),(∀ i,i<n->∃ a,Q i a)->∃ l:List α,l.length=n/\∀ (i:Nat) (a:α),l[i]? = some a->Q i a
 |0,_=>⟨[],rfl,fun i a h=>by simp at h⟩
 |n+1,h=>by
  obtain ⟨l,h1,h2⟩:=Q5N n fun i hi=>h i (by omega)
  obtain ⟨a,ha⟩:=h n (by omega);refine ⟨l++[a],by simp [h1],fun i x hx=>?_⟩;rw [List.getElem?_append] at hx;split at hx
  ·exact h2 i x hx
  ·have:i=l.length:=by
    rcases Nat.lt_or_ge (i-l.length) 1 with h3 | h3
    ·omega
    ·rw [Qjd (by simpa using h3)] at hx;cases hx
   subst this;simp at hx;subst hx;rw [h1];exact ha
theorem Qby.append {a b:List Sh} {x y:List D} (h1:Qby a x) (h2:Qby b y):Qby (a++b) (x++y):=by
 refine ⟨by simp [h1.1,h2.1],fun j s d hs hd=>?_⟩;rw [List.getElem?_append] at hs hd;rw [h1.1] at hd;split at hs
 ·rename_i h;rw [if_pos h] at hd;exact h1.2 j s d hs hd
 ·rename_i h;rw [Qj9 h] at hd;exact h2.2 _ s d hs hd
theorem RdL.append {a b:List Value} {x y:List D} (h1:RdL w a x) (h2:RdL w b y):RdL w (a++b) (x++y):=by
 refine ⟨by simp [h1.1,h2.1],fun j s d hs hd=>?_⟩;rw [List.getElem?_append] at hs hd;rw [h1.1] at hs;split at hd
 ·rename_i h;rw [if_pos h] at hs;exact h1.2 j s d hs hd
 ·rename_i h;rw [Qj9 h] at hs;exact h2.2 _ s d hs hd
theorem A5 {v:Value} {x:D} (h:Rd (SW w) w v x):RdL w [v] [x]:=⟨rfl,fun j v' x' h1 h2=>by
 cases j with
 |zero=>simp at h1 h2;subst h1 h2;exact h
 |succ j=>simp at h1⟩
theorem E9 {s:Sh} {x:D} (h:Fit s x):Qby [s] [x]:=⟨rfl,fun j v' x' h1 h2=>by
 cases j with
 |zero=>simp at h1 h2;subst h1 h2;exact h
 |succ j=>simp at h1⟩
theorem Q7P {base:Nat} {a:Addr} {n:Nat} {cs:List Value} (h:w.cells? base a n=some cs):cs.length=n/\∀ (j:Nat) (v:Value),cs[j]? = some v->w.cell? (a.add j)=some v:=by
 unfold World.cells? at h;split at h
 ·refine ⟨by simpa using mapM_some_length h,fun j v hv=>?_⟩;have hj:j<n:=by
   have h1:=mapM_some_length h;have h2:=(QiR.1 hv).1;simp at h1;omega
  have:=mapM_some_get h j j (by simp [hj]);rw [this,hv]
 ·cases h
def Got (w:World) (ss:List Sh) (cs:List Value):Prop:=∃ ds,RdL w cs ds/\Qby ss ds
theorem Q6l {base:Nat} {au:Nat->Bool} {ax:Bool}:∀ (n:Nat) (f:Nat) (t:TypeId) (ss:List Sh) (cs:List Value) (x:DataW H × List MemPlace),Q9n P f t=some ss->DataW.trod enc P w base au ax n t cs=some x->Got w ss cs:=by
 intro n;induction n with
 |zero=>intro f t ss cs x _ h;simp [DataW.trod] at h
 |succ n ih=>
  intro f t ss cs x hs h;cases f with
  |zero=>simp [Q9n] at hs
  |succ f=>
   unfold Q9n at hs;split at hs
   ·rename_i ht;injection hs with hs;subst hs
    obtain ⟨b,rfl,_⟩:=DataW.trod_bool ht h;exact ⟨[.bool b],A5 (.bool b),E9 (.bool b)⟩
   ·rename_i k ht;injection hs with hs;subst hs
    obtain ⟨b,rfl,_,hw⟩:=DataW.trod_int ht h;exact ⟨[.int k b],A5 (.int k b),E9 (.int k b hw)⟩
   ·rename_i ht;injection hs with hs;subst hs
    obtain ⟨b,rfl,_,hw⟩:=DataW.trod_string ht h;exact ⟨[.str b.data.toList],A5 (.str b),E9 (.str _ (by simpa using hw))⟩
   ·rename_i e ht;split at hs
    case h_2=>cases hs
    rename_i row a5;split at hs
    case isFalse=>cases hs
    rename_i ao;obtain ⟨ao,hz⟩:=ao;injection hs with hs;subst hs
    rcases DataW.trod_slice ht h with ⟨rfl,_⟩ | ⟨a,len,cap,al,rest,n',hn,rfl,_,hb,hl,hm,bp,hat,_,_⟩
    ·exact ⟨[.sl row.length []],A5 (.sl0 _ _ _),E9 (.sl row [] (Nat.zero_le _) (fun i r h=>by simp at h) (fun i j r s x h=>by simp at h))⟩
    ·obtain rfl:n=n':=by omega
     have az:∀ i,i<len->∃ r:List D,∃ cs,w.cells? base (a.add (i*P.cellsOf e)) (P.cellsOf e)=some cs/\RdL w cs r/\Qby row r:=by
      intro i hi;have h1:=hat i hi;have h2:al[i]? = some (al[i]'(by omega)):=QiS (by omega);rw [h2,Option.bind_eq_some_iff] at h1;obtain ⟨cs,hc,h1⟩:=h1;obtain ⟨ds,g1,g2⟩:=ih f e row cs _ a5 h1;exact ⟨ds,cs,hc,g1,g2⟩
     obtain ⟨rows,a1,ac⟩:=Q5N len az;refine ⟨[.sl row.length rows],A5 ?_,E9 (.sl row rows (by omega) (fun i r hr=>?_) (fun i j r s x hr hs hx=>?_))⟩
     ·cases len with
      |zero=>
       have:rows=[]:=List.eq_nil_of_length_eq_zero a1;subst this;exact .sl0 _ _ _
      |succ m=>
       have aj:∀ (i j:Nat) (r:List D) (x:D),rows[i]? = some r->r[j]? = some x->∃ v,w.cell? (a.add (i*row.length+j))=some v/\Rd (SW w) w v x:=by
        intro i j r x hr hx;obtain ⟨cs,hc,g1,g2⟩:=ac i r hr;obtain ⟨c1,c2⟩:=Q7P hc;have hj:j<cs.length:=by have:=(QiR.1 hx).1;have:=g1.1;omega
        have a2:cs[j]? = some (cs[j]' hj):=QiS hj;refine ⟨cs[j]' hj,?_,g1.2 j _ x a2 hx⟩;have:=c2 j _ a2;rw [Bm] at this;rw [ao];exact this
       ·have h0:∃ r,rows[0]? = some r:=⟨_,QiS (by omega)⟩;obtain ⟨r0,a4⟩:=h0;obtain ⟨bm,bo,g1,g2⟩:=ac 0 r0 a4;have ar:∃ x,r0[0]? = some x:=⟨_,QiS (by rw [g2.1];omega)⟩;obtain ⟨x0,ar⟩:=ar;obtain ⟨v0,bg,_⟩:=aj 0 0 r0 x0 a4 ar;have a3:a.block<w.heap.size:=by have:=QdD bg;rwa [JO] at this
        have:=Rd.sl (S:=SW w) (w:=w) a cap row.length rows (fun i j=>(w.cell? (a.add (i*row.length+j))).getD undef) a3 (by omega)
         (fun i r hr=>by obtain ⟨_,_,_,g2⟩:=ac i r hr;exact g2.1)
         (fun i j r x hr hx=>by obtain ⟨v,hv,_⟩:=aj i j r x hr hx;rw [hv];rfl)
         (fun i j r x hr hx=>by obtain ⟨v,hv,h2⟩:=aj i j r x hr hx;rw [hv];exact h2)
        rw [a1] at this;exact this
     ·obtain ⟨_,_,_,g2⟩:=ac i r hr;exact g2.1
     ·obtain ⟨_,_,_,g2⟩:=ac i r hr;exact g2.2 j s x hs hx
   ·rename_i fs ht;split at hs
    case h_2=>cases hs
    rename_i l hl;split at hs
    case isFalse=>cases hs
    rename_i ao;injection hs with hs;subst hs
    obtain ⟨xs,n',hn,_,bi,br,hat⟩:=DataW.trod_struct ht h;obtain rfl:n=n':=by omega
    have bd:∀ (r:List Field) (i off:Nat) (l:List Sh),fs.toList.drop i=r->Qe2 P (Q9n P f) off r=some l->off+l.length<=cs.length->Got w l ((cs.drop off).take l.length):=by
     intro r;induction r with
     |nil=>
      intro i off l _ hl _;simp [Qe2] at hl;subst hl;exact ⟨[],⟨by simp,fun j v x h=>by simp at h⟩,⟨rfl,fun j v x h=>by simp at h⟩⟩
     |cons fd r ba=>
      intro i off l hd hl bb;unfold Qe2 at hl;split at hl
      case isFalse=>cases hl
      rename_i ay;split at hl
      case h_2=>cases hl
      rename_i a ha;split at hl
      case isFalse=>cases hl
      rename_i aw;split at hl
      case h_2=>cases hl
      rename_i l' bh;injection hl with hl;subst hl
      have hi:fs[i]? = some fd:=by
       have:(fs.toList.drop i)[0]? = some fd:=by rw [hd];rfl
       rw [Qj2] at this;simpa using this
      have h1:=hat i fd hi;have a6:i<xs.length:=by
       have:=(QiZ.1 hi).1;omega
      rw [QiS a6,ay,<- aw] at h1;have g1:=ih f fd.type a _ _ ha h1;have g2:=ba (i+1) (off+a.length) l' (by rw [<- List.drop_drop,hd];rfl) bh (by simp at bb;omega);obtain ⟨d1,p1,q1⟩:=g1;obtain ⟨d2,p2,q2⟩:=g2;refine ⟨d1++d2,?_,q1.append q2⟩;have aq:(cs.drop off).take (a++l').length=(cs.drop off).take a.length++(cs.drop (off+a.length)).take l'.length:=by
       rw [List.length_append,List.take_add,List.drop_drop]
      rw [aq];exact p1.append p2
    have:=bd fs.toList 0 0 l rfl hl (by omega);rwa [List.drop_zero,List.take_of_length_le (by omega)] at this
   ·cases hs
inductive ASh where
 |one (s:Sh)
 |ag (ss:List Sh)
def Qdo (P:Program) (t:TypeId):Option ASh:=
 match P.underlying t with
 |some (.struct _)=>match Q9n P 9 t with
  |some l=>some (.ag l)
  |none=>none
 |_=>match Q9n P 9 t with
  |some [s]=>some (.one s)
  |_=>none
def ashL (P:Program):List TypeId->Option (List ASh)
 |[]=>some []
 |t::r=>match Qdo P t with
  |some a=>match ashL P r with
   |some l=>some (a::l)
   |none=>none
  |none=>none
def QhB:ASh->AV->Prop
 |.one s,av=>∃ x,av = .d x/\Fit s x
 |.ag ss,av=>∃ ds:List D,av = .ag (ds.map .d)/\Qby ss ds
def AFits:List ASh->List AV->Prop
 |[],[]=>True
 |a::as,v::vs=>QhB a v/\AFits as vs
 |_,_=>False
theorem Q23 {r:Reach} {base:Nat} {t:TypeId} {v:Value} {f:Nat} {ss:List Sh} (hs:Q9n P f t=some ss) (hn:∀ fs,P.underlying t≠some (.struct fs)) (h:Value.okWide P w r base t v):v.cells.toList=[v]:=by
 cases f with
 |zero=>simp [Q9n] at hs
 |succ f=>
  unfold Q9n at hs;split at hs
  ·rename_i ht;obtain ⟨b,rfl⟩:=WideShapes.okWide_bool ht h;rfl
  ·rename_i k ht;obtain ⟨b,rfl⟩:=WideShapes.okWide_int ht h;rfl
  ·rename_i ht;obtain ⟨b,rfl⟩:=WideShapes.okWide_string ht h;rfl
  ·rename_i e ht;obtain ⟨a,l,c,rfl⟩:=WideShapes.okWide_slice ht h;rfl
  ·rename_i fs ht;exact absurd ht (hn fs)
  ·cases hs
theorem Qdw {r:Reach} {base aj:Nat} {ac:Nat->Bool} {ak:Bool} {t:TypeId} {v:Value} {d:DataW H} {ps:List MemPlace} {a:ASh} (ha:Qdo P t=some a) (hv:Value.okWide P w r base t v) (h:DataW.Trod enc P w aj ac ak t v d ps) :
  ∃ av,RdA (fun _=>none) (SW w) (look ([]:List (Nat × Ob))) w tm0 v av/\QhB a av:=by
 obtain ⟨n,h⟩:=h;unfold Qdo at ha;split at ha
 ·rename_i fs ht;split at ha
  case h_2=>cases ha
  rename_i l hl;injection ha with ha;subst ha
  obtain ⟨ds,h1,h2⟩:=Q6l n 9 t l _ _ hl h;simp only [Value.okWide,ht] at hv;obtain ⟨cs,rfl,ar,_⟩:=hv;refine ⟨.ag (ds.map .d),.ag cs _ (by simpa [Value.cells] using h1.1) fun i x hx=>?_,ds,rfl,h2⟩;rw [List.getElem?_map,QiQ] at hx;obtain ⟨y,hy,rfl⟩:=hx;have hi:i<cs.size:=by
   have g1:=(QiR.1 hy).1;have g2:=h1.1;simp [Value.cells] at g2;omega
  have hc:cs.getD i undef=cs[i]:=by simp [Array.getD,hi]
  rw [hc];exact .d _ _ (h1.2 i _ y (by simp [Value.cells,hi]) hy)
 ·rename_i hn;split at ha
  case h_2=>cases ha
  rename_i s hs;injection ha with ha;subst ha
  have hc:=Q23 hs hn hv;obtain ⟨ds,h1,h2⟩:=Q6l n 9 t _ _ _ hs h;rw [hc] at h1;obtain ⟨x,rfl⟩:∃ x,ds=[x]:=by
   have:=h1.1
   match ds,this with
   |[x],_=>exact ⟨x,rfl⟩
  exact ⟨.d x,.d _ _ (h1.2 0 v x rfl rfl),x,rfl,h2.2 0 s x rfl rfl⟩
theorem Q6U {r:Reach} {base al:Nat} {ak:Nat->Bool} {an:Bool}:∀ (ts:List TypeId) (vs:List Value) (ds:List (DataW H)) (ps:List MemPlace) (as:List ASh),ashL P ts=some as ->
  (∀ (j:Nat) t v,ts[j]? = some t->vs[j]? = some v->Value.okWide P w r base t v)->DataW.TrodAll enc P w al ak an ts vs ds ps ->
  ∃ aj,ArgsRd (fun _=>none) (SW w) (look ([]:List (Nat × Ob))) w vs aj/\AFits as aj
 |[],vs,ds,ps,as,ac,hv,h=>by
  simp [ashL] at ac;subst ac;cases vs with
  |nil=>exact ⟨[],Q7d,trivial⟩
  |cons v vs=>cases ds <;> simp [DataW.TrodAll] at h
 |t::ts,vs,ds,ps,as,ac,hv,h=>by
  obtain ⟨v,aw,d,au,p,q,rfl,rfl,rfl,h1,h2⟩:=ChangeShapes.trodAll_cons h;unfold ashL at ac;split at ac
  case h_2=>cases ac
  rename_i a ha;split at ac
  case h_2=>cases ac
  rename_i ar ao;injection ac with ac
  subst ac;obtain ⟨av,g1,g2⟩:=Qdw ha (hv 0 t v rfl rfl) h1;obtain ⟨aj,g3,g4⟩:=Q6U ts aw au q ar ao (fun j t v h1 h2=>hv (j+1) t v (by simpa using h1) (by simpa using h2)) h2;exact ⟨av::aj,Q59 g1 g3,g2,g4⟩
theorem Q32 {W W':World} (hl:laidOutB P=true) (hb:RowKit.Below W.heap.size W W'):∀ (ts:List TypeId) (vs:List Value) (ds:List (DataW H)) (ps:List MemPlace),(ts.all fun t=>P.readableRec t&&decide (t<P.types.size))=true ->
  DataW.TrodAll enc P W 0 (fun _=>true) true ts vs ds ps->∃ pa,DataW.TrodAll enc P W' 0 (fun b=>decide (b<W.heap.size)) true ts vs ds pa
 |[],vs,ds,ps,_,h=>by
  cases vs <;> cases ds <;> simp [DataW.TrodAll] at h;exact ⟨[],rfl⟩
 |t::ts,vs,ds,ps,ht,h=>by
  obtain ⟨v,ao,d,an,p,q,rfl,rfl,rfl,h1,h2⟩:=ChangeShapes.trodAll_cons h;simp only [List.all_cons,QiP,decide_eq_true_eq] at ht;obtain ⟨pa,g⟩:=Q32 hl hb ts ao an q ht.2 h2;have al:∀ x∈p,x.block<W.heap.size:=by obtain ⟨m,hm⟩:=h1;exact DataW.trod_lt m _ _ _ hm
  exact ⟨p++pa,p,pa,RowKit.Below.trod hl ht.1.1 ht.1.2 h1 hb al,g,rfl⟩
theorem L3 {base:Nat} {ac:Nat->Bool} {ak:Bool}:∀ (ts:List TypeId) (vs:List Value) (ds:List (DataW H)) (ps:List MemPlace),DataW.TrodAll enc P w base ac ak ts vs ds ps->vs.length=ts.length/\ds.length=ts.length
 |[],vs,ds,ps,h=>by
  cases vs <;> cases ds <;> simp [DataW.TrodAll] at h;exact ⟨rfl,rfl⟩
 |t::ts,vs,ds,ps,h=>by
  obtain ⟨v,an,d,al,p,q,rfl,rfl,rfl,h1,h2⟩:=ChangeShapes.trodAll_cons h;have:=L3 ts an al q h2;simp [this.1,this.2]
theorem law_contract {fn:Func} {f:FuncId} {s:ChangeSpec} {as:List ASh} {tb:TypeId} (aq:laidOutB P=true)
  (ac:s.vars=[]) (ao:(fn.params.toList.all fun t=>P.readableRec t&&decide (t<P.types.size))=true) (a1:ashL P fn.params.toList=some as)
  (ax:fn.resultTypes = #[tb]) (hb:P.underlying tb=some .bool)
  {W:World} {base:Nat} {args:Array Value} {ds gs:List (DataW H)} {aj:List MemPlace}
  (ar:∀ (j:Nat) t v,fn.params[j]? = some t->args[j]? = some v->Value.okWide P W .any base t v)
  (hW:DataW.Whole enc P fn.params.toList s.vars false W args.toList ds gs aj)
  (al:∀ ds:List (DataW H),ds.length=fn.params.size->s.fn H ds={ results:=[.lit (.bool true)],args:=ds })
  (walk:∀ ak,AFits as ak->ArgsRd (fun _=>none) (SW W) (look ([]:List (Nat × Ob))) W args.toList ak->Calls P f args W fun e w'=>e = .returned (.bool true)/\RowKit.Below W.heap.size W w') :
  Calls P f args W fun e W'=>∃ v,e = .returned v/\s.post enc P fn false true false false W args v W':=by
 have ay:=hW;obtain ⟨p,q,hA,hV,rfl,ba,a7⟩:=hW;obtain ⟨ak,g1,g2⟩:=Q6U (r:=.any) (base:=base) _ _ _ _ as a1 (fun j t v h1 h2=>ar j t v (by simpa using h1) (by simpa using h2)) hA;refine (walk ak g2 g1).mono fun e W' ⟨he,aw⟩=>?_
 subst he;obtain ⟨pa,az⟩:=Q32 aq aw _ _ _ _ ao hA;rw [ac] at hV;obtain ⟨rfl,rfl⟩:=ChangeShapes.trodVars_none hV;have au:=(L3 _ _ _ _ hA).2;have an:=al ds (by simpa using au);refine ⟨_,rfl,ds,[],_,[],pa,[],ay,?_,?_,?_,aw.frame _,fun h=>by cases h⟩
 ·rw [List.append_nil,an,ax];exact ChangeShapes.trodAll_mk1 (RowKit.shut_bool hb _)
 ·rw [List.append_nil,an];exact az
 ·rw [List.append_nil,an,ac];rfl
end

section
variable {R:Type}
def i64 (x:Int):Prop := -9223372036854775808<=x/\x<=9223372036854775807
theorem Q6K {x:Int} (h:i64 x):wJ x=x:=IntWalk.i64_in x h
theorem Q53 {x:Int} (h1 : -9223372036854775808<=x) (h2:x<=9223372036854775807):wJ x=x:=IntWalk.i64_in x ⟨h1,h2⟩
theorem QhR {n:Int} (h:(Lit.int .i64 n).wf=true):i64 n:=by
 simpa [Lit.wf,IntKind.min,IntKind.max,IntKind.signed,IntKind.bits,i64] using h
theorem Q2 (n:Int):pIw (.int .i64 n)=some n:=rfl
theorem Rj (b:Bool):Gx (.bool b)=some b:=rfl
theorem XE (s:List UInt8):Nk (.str s)=some s:=rfl
theorem QA (k:Nat) (l:List (List D)):pSl k (.sl k l)=some l:=by simp [pSl]
theorem Q9H {α:Type} (f:α->List D) (l:List α) (i:Nat):Q1 (l.map f) (i:Int)=(l[i]?).map f:=by
 simp [Q1]
theorem QK {α:Type} {f:α->List D} {l:List α} {i:Nat} {a:α} (h:l[i]? = some a):Q1 (l.map f) (i:Int)=some (f a):=by rw [Q9H,h];rfl
theorem Ei {b:Int} (h:b≠0):nz b=some ():=by
 have:(b == 0)=false:=by simpa using h
 unfold nz;rw [this];rfl
theorem ZI {len:Nat} {n:Int} (h0:0<=n) (h:n<len):inB len n=some ():=by
 unfold inB;simp [h0,h]
theorem Zg {α:Type} {l:List α} {i:Nat} {a:α} {r:List α} (h:l.drop i=a::r):l[i]? = some a/\l.drop (i+1)=r/\i<l.length:=by
 have h1:(l.drop i)[0]? = some a:=by rw [h];rfl
 rw [Qj2] at h1;refine ⟨by simpa using h1,by rw [<- List.drop_drop,h];rfl,?_⟩;have:=(QiR.1 h1).1;omega
theorem Uf {α:Type} {l:List α} {i:Nat} (h:l.drop i=[]):l.length<=i:=List.drop_eq_nil_iff.1 h
theorem QU {c:Bool} (h:c=true) (x y:R):(bif c then x else y)=x:=by rw [h];rfl
theorem Q8 {c:Bool} (h:c=false) (x y:R):(bif c then x else y)=y:=by rw [h];rfl
def encI (l:List Int):List (List D):=l.map fun n=>[D.int .i64 n]
theorem Jf (l:List Int):(encI l).length=l.length:=by simp [encI]
theorem Tn {l:List Int} {i:Nat} {a:Int} (h:l[i]? = some a):Q1 (encI l) (i:Int)=some [.int .i64 a]:=QK h
theorem fit_ints {rows:List (List D)} (h:Fit (.sl [.int .i64]) (.sl 1 rows)):∃ l:List Int,rows=encI l/\(∀ n∈l,i64 n)/\l.length<=maxLen:=by
 cases h with
 |sl _ _ hm hl hr=>
  have h1:∀ i,i<rows.length->∃ n:Int,rows[i]? = some [.int .i64 n]/\i64 n:=by
   intro i hi;have ac:=QiS hi;have aj:=hl i _ ac;obtain ⟨x,hx⟩:∃ x,rows[i]=[x]:=by
    match hq:rows[i],aj with
    |[x],_=>exact ⟨x,rfl⟩
   have hf:=hr i 0 _ (.int .i64) x ac rfl (by rw [hx];rfl);cases hf with
   |int _ n hw=>exact ⟨n,by rw [ac,hx],QhR hw⟩
  obtain ⟨l,e1,e2⟩:=Q5N rows.length h1;refine ⟨l,?_,fun n hn=>?_,by omega⟩
  ·refine List.ext_getElem? fun i=>?_
   rcases Nat.lt_or_ge i l.length with hi | hi
   ·have:=(e2 i _ (QiS hi)).1;rw [this];simp [encI,hi]
   ·rw [Qjd (by omega),Qjd (by simpa [encI] using hi)]
  ·obtain ⟨i,hi⟩:=List.getElem?_of_mem hn;exact (e2 i _ hi).2
theorem fit_sl {row:List Sh} {x:D} (h:Fit (.sl row) x):∃ rows,x = .sl row.length rows:=by
 cases h with
 |sl _ rows _ _ _=>exact ⟨rows,rfl⟩
theorem fit_int {k:IntKind} {x:D} (h:Fit (.int k) x):∃ n,x = .int k n/\(Lit.int k n).wf=true:=by
 cases h with
 |int _ n h=>exact ⟨n,rfl,h⟩
theorem fit_bool {x:D} (h:Fit .bool x):∃ b,x = .bool b:=by
 cases h with
 |bool b=>exact ⟨b,rfl⟩
def lawK:AV->Option Bool
 |.d (.bool b)=>some b
 |_=>none
theorem lawK_ok (x:AV) (h:lawK x=some true):x = .d (.bool true):=by
 unfold lawK at h;split at h
 ·injection h with h;subst h;rfl
 ·cases h
end

abbrev bs (l:List UInt8):List UInt8:=l
abbrev LL:=List (List D)
abbrev dT (s:List UInt8):AV:=.d (.str s)
def cA:List Nat->Code->Code
 |[],c=>c
 |0::r,c=>cA r (cL c)
 |1::r,c=>cA r (cR c)
 |2::r,c=>cA r (cB c)
 |3::r,c=>cA r (cT c)
 |_::r,c=>cA r (cE c)
abbrev cK (r:Nat) (l:List Nat):Nat × Cfg:=(r,⟨l,[],[],[],[]⟩)
abbrev cO (r:Nat) (l o:List Nat):Nat × Cfg:=(r,⟨l,o.map fun x=>(x,x),[],[],[]⟩)
def rgN (d:Nat):Nat->Nat->List Nat->List Nat
 |_,0,r=>r
 |a,n+1,r=>a::rgN d (a+d) n r
abbrev rg1 (a n:Nat) (r:List Nat):List Nat:=rgN 1 a n r
def zp:List Nat->List Nat->List (Nat × Nat)
 |a::r,b::s=>(a,b)::zp r s
 |_,_=>[]
section
variable {A B C D E F R:Type}
end
def smX {A B C:Type} (r:A ⊕ B) (f:A->C) (g:B->C):C:=match r with
 |.inl a=>f a
 |.inr b=>g b
abbrev jn {α β:Type} (c:α) (f:α->β):β:=f c
abbrev Tu2 {A0 A1:Type} (a0:A0) (a1:A1):=some (a0,a1)
abbrev Tu3 {A0 A1 A2:Type} (a0:A0) (a1:A1) (a2:A2):=some (a0,a1,a2)
abbrev Tu4 {A0 A1 A2 A3:Type} (a0:A0) (a1:A1) (a2:A2) (a3:A3):=some (a0,a1,a2,a3)
abbrev Tu5 {A0 A1 A2 A3 A4:Type} (a0:A0) (a1:A1) (a2:A2) (a3:A3) (a4:A4):=some (a0,a1,a2,a3,a4)
abbrev Tu6 {A0 A1 A2 A3 A4 A5:Type} (a0:A0) (a1:A1) (a2:A2) (a3:A3) (a4:A4) (a5:A5):=some (a0,a1,a2,a3,a4,a5)
abbrev Tu7 {A0 A1 A2 A3 A4 A5 A6:Type} (a0:A0) (a1:A1) (a2:A2) (a3:A3) (a4:A4) (a5:A5) (a6:A6):=some (a0,a1,a2,a3,a4,a5,a6)
abbrev Tu8 {A0 A1 A2 A3 A4 A5 A6 A7:Type} (a0:A0) (a1:A1) (a2:A2) (a3:A3) (a4:A4) (a5:A5) (a6:A6) (a7:A7):=some (a0,a1,a2,a3,a4,a5,a6,a7)
abbrev Tu12 {A0 A1 A2 A3 A4 A5 A6 A7 A8 A9 A10 A11:Type} (a0:A0) (a1:A1) (a2:A2) (a3:A3) (a4:A4) (a5:A5) (a6:A6) (a7:A7) (a8:A8) (a9:A9) (a10:A10) (a11:A11):=some (a0,a1,a2,a3,a4,a5,a6,a7,a8,a9,a10,a11)

section
variable {P:Program} {R:Type}
mutual
def dm (ρ:List (Nat × Nat)):AV->Bool
 |.ptr j _=>(look ρ j).isSome
 |.arr j=>(look ρ j).isSome
 |.ap j _ _=>(look ρ j).isSome
 |.sa j _=>(look ρ j).isSome
 |.ag l=>dmL ρ l
 |.tup l=>dmL ρ l
 |.fn _ l=>dmL ρ l
 |.gd ..=>false
 |_=>true
def dmL (ρ:List (Nat × Nat)):List AV->Bool
 |[]=>true
 |a::r=>dm ρ a&&dmL ρ r
end
theorem Q7b {ρ:List (Nat × Nat)}:∀ {l:List AV} {i:Nat} {x:AV},dmL ρ l=true->l[i]? = some x->dm ρ x=true
 |a::r,0,x,h,hx=>by
  simp only [dmL,QiP] at h;simp at hx;subst hx;exact h.1
 |a::r,i+1,x,h,hx=>by
  simp only [dmL,QiP] at h;exact Q7b h.2 (by simpa using hx)
section
variable {ρ:List (Nat × Nat)} {β β':Nat->Option Nat} {S:Nat->Prop} {h h':Nat->Option Ob} {w:World} {tm:Nat->Value}
theorem QgL (hβ:∀ j l,look ρ j=some l->β' j=β l) (hh:∀ j l,look ρ j=some l->(h l).isSome=true/\(∀ e s rows,h l=some (.arr e s rows)->h' j=some (.arr e s rows))/\∀ t f,h l=some (.mp t f)->h' j=some (.mp t f)) :
  ∀ {v:Value} {y:AV},RdA β S h w tm v y->∀ x:AV,dm ρ x=true->y=Uy ρ x->RdA β' S h' w tm v x:=by
 intro v y hv;induction hv with
 |top v=>
  intro x hd he;cases x <;> simp only [Uy,reduceCtorEq] at he
  case top=>exact .top v
  all_goals grind [dm,Option.isSome_iff_exists]
 |d v z hz=>
  intro x hd he;cases x <;> simp only [Uy,reduceCtorEq] at he
  case d=>injection he with he;subst he;exact .d v _ hz
  all_goals grind
 |nil=>
  intro x hd he;cases x <;> simp only [Uy,reduceCtorEq] at he
  case nil=>exact .nil
  all_goals grind
 |ag cs l hl _ ih=>
  intro x hd he;cases x <;> simp only [Uy,reduceCtorEq] at he
  case ag r=>
   injection he with he
   subst he;rw [Zn] at hl;refine .ag cs r hl fun i z hz=>?_
   exact ih i (Uy ρ z) (by rw [J8,hz];rfl) z (Q7b (by simpa [dm] using hd) hz) rfl
  all_goals grind
 |tup cs l hl _ ih=>
  intro x hd he;cases x <;> simp only [Uy,reduceCtorEq] at he
  case tup r=>
   injection he with he
   subst he;rw [Zn] at hl;refine .tup cs r hl fun i z hz=>?_
   exact ih i (Uy ρ z) (by rw [J8,hz];rfl) z (Q7b (by simpa [dm] using hd) hz) rfl
  case ptr j o=>split at he <;> cases he
  case arr j=>split at he <;> cases he
  case sa j t=>split at he <;> cases he
  case ap j i o=>split at he <;> cases he
 |fn f cs l hl _ ih=>
  intro x hd he;cases x <;> simp only [Uy,reduceCtorEq] at he
  case fn g r=>
   injection he with he1 he2
   subst he1;subst he2;rw [Zn] at hl;refine .fn f cs r hl fun i z hz=>?_
   exact ih i (Uy ρ z) (by rw [J8,hz];rfl) z (Q7b (by simpa [dm] using hd) hz) rfl
  case ptr j o=>split at he <;> cases he
  case arr j=>split at he <;> cases he
  case sa j t=>split at he <;> cases he
  case ap j i o=>split at he <;> cases he
 |fs ad s rows hx=>
  intro x hd he;cases x <;> simp only [Uy,reduceCtorEq] at he
  case fs=>injection he with e1 e2;subst e1 e2;exact .fs ad _ _ hx
  case ptr j o=>split at he <;> cases he
  case arr j=>split at he <;> cases he
  case sa j t=>split at he <;> cases he
  case ap j i o=>split at he <;> cases he
 |ex v=>
  intro x hd he;cases x <;> simp only [Uy,reduceCtorEq] at he
  case ex=>injection he with e1;subst e1;exact .ex _
  case ptr j o=>split at he <;> cases he
  case arr j=>split at he <;> cases he
  case sa j t=>split at he <;> cases he
  case ap j i o=>split at he <;> cases he
 |mpd v f hm=>
  intro x hd he;cases x <;> simp only [Uy,reduceCtorEq] at he
  case mpd=>injection he with e1;subst e1;exact .mpd v _ hm
  case ptr j o=>split at he <;> cases he
  case arr j=>split at he <;> cases he
  case sa j t=>split at he <;> cases he
  case ap j i o=>split at he <;> cases he
 |ptr l off b hb=>
  intro x hd he;cases x <;> simp only [Uy,reduceCtorEq] at he
  case ptr j o=>
   split at he
   ·rename_i l' aj;injection he with e1 e2
    subst e1 e2;exact .ptr j _ b ((hβ j _ aj).trans hb)
   ·cases he
  case arr j=>split at he <;> cases he
  case sa j t=>split at he <;> cases he
  case ap j i o=>split at he <;> cases he
 |sa v l t b hb hv=>
  intro x hd he;cases x <;> simp only [Uy,reduceCtorEq] at he
  case sa j t=>
   split at he
   ·rename_i l' aj;injection he with e1 e2
    subst e1 e2;exact .sa v j _ b ((hβ j _ aj).trans hb) hv
   ·cases he
  case ptr j o=>split at he <;> cases he
  case arr j=>split at he <;> cases he
  case ap j i o=>split at he <;> cases he
 |el ad row off c hs hc hr=>
  intro x hd he;cases x <;> simp only [Uy,reduceCtorEq] at he
  case el r o=>injection he with e1 e2;subst e1 e2;exact .el ad _ _ c hs hc hr
  case ptr j o=>split at he <;> cases he
  case arr j=>split at he <;> cases he
  case sa j t=>split at he <;> cases he
  case ap j i o=>split at he <;> cases he
 |arr0 l e s hb hk=>
  intro x hd he;cases x <;> simp only [Uy,reduceCtorEq] at he
  case arr j=>
   split at he
   ·rename_i l' aj;injection he with e1
    subst e1;exact .arr0 j e s ((hβ j _ aj).trans hb) ((hh j _ aj).2.1 _ _ _ hk)
   ·cases he
  case ptr j o=>split at he <;> cases he
  case sa j t=>split at he <;> cases he
  case ap j i o=>split at he <;> cases he
 |arr l b cap e s rows cs ty fz hb hk hw aw aq ar=>
  intro x hd he;cases x <;> simp only [Uy,reduceCtorEq] at he
  case arr j=>
   split at he
   ·rename_i l' aj;injection he with e1
    subst e1;exact .arr j b cap e s rows cs ty fz ((hβ j _ aj).trans hb) ((hh j _ aj).2.1 _ _ _ hk) hw aw aq ar
   ·cases he
  case ptr j o=>split at he <;> cases he
  case sa j t=>split at he <;> cases he
  case ap j i o=>split at he <;> cases he
 |mp l b t f hb hk=>
  intro x hd he;cases x <;> simp only [Uy,reduceCtorEq] at he
  case arr j=>
   split at he
   ·rename_i l' aj;injection he with e1
    subst e1;exact .mp j b t f ((hβ j _ aj).trans hb) ((hh j _ aj).2.2 _ _ hk)
   ·cases he
  case ptr j o=>split at he <;> cases he
  case sa j t=>split at he <;> cases he
  case ap j i o=>split at he <;> cases he
 |ap l i off b e s rows hb hk=>
  intro x hd he;cases x <;> simp only [Uy,reduceCtorEq] at he
  case ap j i' o=>
   split at he
   ·rename_i l' aj;injection he with e1 e2 e3
    subst e1 e2 e3;exact .ap j _ _ b e s rows ((hβ j _ aj).trans hb) ((hh j _ aj).2.1 _ _ _ hk)
   ·cases he
  case ptr j o=>split at he <;> cases he
  case arr j=>split at he <;> cases he
  case sa j t=>split at he <;> cases he
 |dang v av l hl hk h1=>
  intro x hd he;exfalso;cases x with
  |ptr j o=>simp only [Uy] at he;split at he <;> (subst he;simp [M8] at hl)
  |sa j o=>simp only [Uy] at he;split at he <;> (subst he;simp [M8] at hl)
  |arr j=>
   simp only [Uy] at he;split at he
   ·rename_i l' aj;subst he;simp [M8] at hl;subst hl;have:=(hh j _ aj).1;rw [hk] at this;cases this
   ·subst he;simp [M8] at hl
  |ap j i o=>
   simp only [Uy] at he;split at he
   ·rename_i l' aj;subst he;simp [M8] at hl;subst hl;have:=(hh j _ aj).1;rw [hk] at this;cases this
   ·subst he;simp [M8] at hl
  |_=>simp only [Uy] at he;subst he;simp [M8] at hl
 |gdT v t b av ht hv ih=>
  intro x hd he;cases x <;> simp only [Uy,reduceCtorEq] at he
  case ptr j o=>split at he <;> cases he
  case arr j=>split at he <;> cases he
  case sa j t=>split at he <;> cases he
  case ap j i o=>split at he <;> cases he
 |gdF t b av ht=>
  intro x hd he;cases x <;> simp only [Uy,reduceCtorEq] at he
  case ptr j o=>split at he <;> cases he
  case arr j=>split at he <;> cases he
  case sa j t=>split at he <;> cases he
  case ap j i o=>split at he <;> cases he
end
def CLe (ρ:List (Nat × Nat)) (c c':AV):Prop:=(lf c'=true/\Cl c c')\/(dm ρ c'=true/\c=Uy ρ c')
inductive CLeL (ρ:List (Nat × Nat)):List AV->List AV->Prop
 |nil:CLeL ρ [] []
 |cons {a b:AV} {l r:List AV} (h:CLe ρ a b) (t:CLeL ρ l r):CLeL ρ (a::l) (b::r)
theorem CLeL.length {ρ:List (Nat × Nat)} {l r:List AV} (h:CLeL ρ l r):l.length=r.length:=by induction h <;> simp [*]
theorem CLeL.at {ρ:List (Nat × Nat)} {l r:List AV} (h:CLeL ρ l r):∀ (i:Nat) (x:AV),r[i]? = some x->∃ y,l[i]? = some y/\CLe ρ y x:=by
 induction h with
 |nil=>simp_all
 |cons h0 _ ih=>
  grind
theorem Qb3 {ρ:List (Nat × Nat)} {ty:TypeId} {cs ac:List AV} (hc:CLeL ρ cs ac) (h:Q7j ty cs):Q7j ty ac:=by
 intro i l t hi;obtain ⟨y,hy,aj⟩:=hc.at i _ hi;rcases aj with ⟨h1,_⟩ | ⟨h1,rfl⟩
 ·trivial
 ·obtain ⟨l',ak⟩:=Qj7.1 h1;simp only [Uy,ak] at hy;exact h i l' t hy
inductive OLe (ρ:List (Nat × Nat)):Ob->Ob->Prop
 |box {cs cs':List AV} (h:CLeL ρ cs cs'):OLe ρ (.box cs) (.box cs')
 |arr (e s:Nat) (rows:List (List D)):OLe ρ (.arr e s rows) (.arr e s rows)
 |mp (t:Nat) (f:Int->Bool):OLe ρ (.mp t f) (.mp t f)
def Q2b (o o':Option Ob):Prop:=
 (∃ c c',o=some (.box c)/\o'=some (.box c')/\c'.length=c.length) \/
 (∃ e s rows,o=some (.arr e s rows)/\(o'=none\/∃ ac,o'=some (.arr e s ac)/\ac.length=rows.length)) \/
 ∃ t f,o=some (.mp t f)/\(o'=none\/∃ f',o'=some (.mp t f'))
structure ShapeEnd (σ ρ:List (Nat × Nat)) (H:List (Nat × Ob)) (av:AV) (H':List (Nat × Ob)) (dl:Dl):Prop where
 v:Uy σ av=dl.v
 wr:HN σ H' σ=dl.wr
 news:∀ j l,(j,l)∈σ->(j,l) ∉ ρ->(look H' j).isSome=true
 old:∀ j l,(j,l)∈ρ->Q2b (look H j) (look H' j)
theorem FJ {α : Type} {K : AV -> List (Nat × Ob) -> Option α} {res : α} {f : Nat} {fn : Func} (hf : P.funcs[f]? = some fn) (hb : fn.body.isSome = true) (hn : (fn.name == "runtime.NumGoroutine") = false)
  {σ ρ:List (Nat × Nat)} {avs avs':List AV} {H:List (Nat × Ob)} {hl:Nat->Option Ob} {dl:Dl}
  (hav:CLeL ρ avs avs')
  (hsub:∀ p,p∈ρ->p∈σ) (h1:Xj (σ.map (·.1))=true) (h2:Xj (σ.map (·.2))=true) (hρ:Xj (ρ.map (·.1))=true)
  (hin:∀ j l,(j,l)∈ρ->1000000<=j/\∃ o o',hl l=some o/\look H j=some o'/\OLe ρ o o')
  (hinH:∀ j,(look H j).isSome=true->∃ l,(j,l)∈ρ)
  (hnew:∀ j l,(j,l)∈σ->(j,l)∈ρ\/hl l=none)
  (hwl:wrL dl=σ.map (·.2))
  (h:∀ (β:Nat->Option Nat) (S:Nat->Prop) (w:World) (vs:List Value),Objs β S (look H) w->ArgsRd β S (look H) w vs avs'->Calls P f vs.toArray w (M5 H K res β S w)) (hK:∀ av H',K av H'=some res->ShapeEnd σ ρ H av H' dl):Wn P f avs hl dl:=by
 refine ⟨⟨fn,hf,hb,hn⟩,fun β S h' w args hO hA hag=>?_⟩;have hag:∀ {j l:Nat},(j,l)∈σ->h' l=hl l:=fun {j l} hm=>hag l (.inr (by rw [hwl];exact Qja.2 ⟨(j,l),hm,rfl⟩))
 have hlook:∀ {j l:Nat},(j,l)∈ρ->look ρ j=some l:=fun hm=>LM hρ hm
 have hβc:∀ {j l:Nat},(j,l)∈ρ->(look ρ j).bind β=β l:=fun hm=>by rw [hlook hm];rfl
 have hlk2:∀ {j j' l:Nat},(j,l)∈ρ->(j',l)∈ρ->j=j':=fun a b=>by
  have:=HI h2 _ _ (hsub _ a) (hsub _ b) rfl;injection this
 have hsome':∀ {j l:Nat},(j,l)∈ρ->(h' l).isSome=true:=fun hm=>by
  obtain ⟨_,o,o',g1,_⟩:=hin _ _ hm;rw [hag (hsub _ hm),g1];rfl
 have hun:∀ {v:Value} {y x:AV},RdA β S h' w tm0 v y->CLe ρ y x->RdA (fun j=>(look ρ j).bind β) S (look H) w tm0 v x:=by
  intro v y x hv hc;rcases hc with ⟨c1,c2⟩ | ⟨c1,rfl⟩
  ·exact Fu c1 (fun _ h=>h) (fun _ _=>rfl) (c2 _ _ _ _ _ _ hv)
  ·refine QgL (ρ:=ρ) (fun j l hj=>by simp only [hj];rfl) (fun j l hj=>⟨hsome' (YR hj),fun e s rows hx=>?_,fun t f hx=>?_⟩) hv x c1 rfl <;>
   ·obtain ⟨_,o,o',g1,g2,g3⟩:=hin j l (YR hj);rw [hag (hsub _ (YR hj)),g1] at hx;injection hx with hx
    subst hx;cases g3;exact g2
 have hO0:Objs (fun j=>(look ρ j).bind β) S (look H) w:=by
  refine ⟨fun j o ho=>?_,fun j j' b s1 s2 b1 b2=>?_,fun j b s1 b1=>?_,hO.sb⟩
  ·obtain ⟨l,hm⟩:=hinH j (by simp [ho]);obtain ⟨_,oo,o',g1,g2,g3⟩:=hin j l hm;rw [ho] at g2;injection g2 with g2
   subst g2;have hob:=hO.ob l _ ((hag (hsub _ hm)).trans g1);cases g3 with
   |box g3=>
    obtain ⟨b,ty,c0,fz,e1,e2,e3,e4,e5⟩:=hob;refine ⟨b,ty,c0,fz,(hβc hm).trans e1,e2,⟨e3.1,Qb3 g3 e3.2⟩,e4.trans g3.length,fun i x hx=>?_⟩;obtain ⟨y,y1,y2⟩:=g3.at i x hx;exact hun (e5 i y y1) y2
   |arr e s rows=>
    rcases hob with ⟨e1,e2⟩ | ⟨b,cs,e1,e2,e3,e4,e5⟩
    ·exact .inl ⟨(hβc hm).trans e1,e2⟩
    ·exact .inr ⟨b,cs,(hβc hm).trans e1,e2,e3,e4,e5⟩
   |mp t f=>
    obtain ⟨b,e1,e2⟩:=hob;exact ⟨b,(hβc hm).trans e1,e2⟩
  ·obtain ⟨l,hm⟩:=hinH j s1;obtain ⟨l',hm'⟩:=hinH j' s2;have:=hO.inj l l' b (hsome' hm) (hsome' hm') (by rw [<- hβc hm];exact b1) (by rw [<- hβc hm'];exact b2);subst this;exact hlk2 hm hm'
  ·obtain ⟨l,hm⟩:=hinH j s1;exact hO.apart l b (hsome' hm) (by rw [<- hβc hm];exact b1)
 have hA0:ArgsRd (fun j=>(look ρ j).bind β) S (look H) w args avs':=by
  refine ⟨by rw [hA.1,hav.length],fun i v av g1 g2=>?_⟩;obtain ⟨y,y1,y2⟩:=hav.at i av g2;exact hun (hA.2 i v y g1 y1) y2
 refine (h _ _ _ _ hO0 hA0).mono fun e w' ⟨v,av,H',β',S',he,hk,hrd,_,hr⟩=>?_
 obtain ⟨q1,q2,q3,q4⟩:=hK av H' hk;have hinv:∀ {j l:Nat},(j,l)∈σ->inv σ l=some j:=fun hm=>Q3F h2 hm
 let βo:Nat->Option Nat:=fun l=>match inv σ l with | some j=>β' j | none=>β l
 have hβo:∀ j l,(j,l)∈σ->βo l=β' j:=fun j l hm=>by simp only [βo,hinv hm]
 have hset:∀ j l,(j,l)∈σ->Hb h' dl.wr l=(look H' j).map (Qbr σ):=fun j l hm=>by rw [<- q2];exact Lh σ H' σ h' h2 j l hm
 have hmem:∀ {l:Nat},l∈wrL dl->∃ j,(j,l)∈σ:=fun hm=>by
  rw [hwl] at hm;obtain ⟨⟨j,l'⟩,m1,m2⟩:=Qja.1 hm;simp only at m2;subst m2;exact ⟨j,m1⟩
 have hpin:∀ {j l:Nat},(j,l)∈ρ->β' j=β l:=fun hm=>(hr.pin _ (hin _ _ hm).1).trans (hβc hm)
 have hren:∀ {v:Value} {x:AV},RdA β' S' (look H') w' tm0 v x->RdA βo S' (Hb h' dl.wr) w' tm0 v (Uy σ x):=fun hx=>
  Q6m hβo (fun j l o hm ho=>by rw [hset j l hm,ho];rfl) (fun j l hm ho=>by rw [hset j l hm,ho];rfl) hx
 have hwmem:∀ {j l:Nat},(j,l)∈σ->l∈wrL dl:=fun {j l} hm=>by rw [hwl];exact Qja.2 ⟨(j,l),hm,rfl⟩
 have hMw:∀ b,(∃ j,(look H j).isSome=true/\(look ρ j).bind β=some b)->∃ l,l∈wrL dl/\(h' l).isSome=true/\β l=some b:=by
  intro b ⟨j,s1,s2⟩;obtain ⟨l,hm⟩:=hinH j s1;exact ⟨l,hwmem (hsub _ hm),hsome' hm,by rw [<- hβc hm];exact s2⟩
 have hw0:∀ {b:Nat},(∃ j,(look H j).isSome=true/\(look ρ j).bind β=some b)\/w.heap.size<=b->w.heap.size<=b\/∃ l0,l0∈wrL dl/\(h' l0).isSome=true/\β l0=some b:=by
  intro b hx;rcases hx with hx | hx
  ·exact .inr (hMw b hx)
  ·exact .inl hx
 refine ⟨v,βo,S',he,⟨hr.s0,fun b hS=>?_,hr.sb,hr.fr.mono fun b _ hM=>hMw b hM,fun l hno=>?_,fun l o hm ho=>?_,fun l hm hs=>?_,fun l b hm hs hb'=>?_,fun l l' b hm hm' hs hs' hb' hb''=>?_,fun l hm hno hno'=>?_,?_,fun t=>by rw [<- q1];exact Q1M σ t av⟩⟩
 ·rcases hr.sfr b hS with g | g | g
  ·exact .inl g
  ·exact .inr (.inr (hMw b g))
  ·exact .inr (.inl g)
 ·have:inv σ l=none:=Q6N (by rw [<- hwl];exact hno);simp only [βo,this]
 ·obtain ⟨j,hj⟩:=hmem hm;rw [hset j l hj,QiQ] at ho;obtain ⟨o',ho',rfl⟩:=ho;have hob:=hr.ob j o' ho';cases o' with
  |box cells=>
   obtain ⟨b,ty,cs,fz,g1,g2,g3,g4,g5⟩:=hob;refine ⟨b,ty,cs,fz,(hβo j l hj).trans g1,g2,⟨g3.1,Q1k g3.2⟩,by rw [g4,Zn],fun i x hx=>?_⟩;rw [J8,QiQ] at hx;obtain ⟨y,hy,rfl⟩:=hx;exact hren (g5 i y hy)
  |arr e s rows=>
   rcases hob with ⟨g1,g2⟩ | ⟨b,cs,g1,g2,g3,g4,g5⟩
   ·exact .inl ⟨(hβo j l hj).trans g1,g2⟩
   ·exact .inr ⟨b,cs,(hβo j l hj).trans g1,g2,g3,g4,g5⟩
  |mp t f=>
   obtain ⟨b,g1,g2⟩:=hob;exact ⟨b,(hβo j l hj).trans g1,g2⟩
 ·obtain ⟨j,hj⟩:=hmem hm;rcases hnew j l hj with hp | hno
  ·obtain ⟨hj6,o,o',e1,e2,e3⟩:=hin j l hp;have hh:h' l=some o:=(hag hj).trans e1;have hcells:∀ b cs ty fz,(Hb h' dl.wr l).isSome=true->β l=some b->w.heap[b]? = some (.cells cs ty fz)->∃ cs' ty' fz',w'.heap[b]? = some (.cells cs' ty' fz')/\cs'.size=cs.size:=by
    intro b cs ty fz hs' hb' hw;have hs2:(look H' j).isSome=true:=by
     rw [hset j l hj] at hs';cases hx:look H' j with
     |none=>rw [hx] at hs';cases hs'
     |some o=>rfl
    exact hr.psz j b hj6 hs2 ((hpin hp).trans hb') cs ty fz hw
   rcases q4 j l hp with ⟨c,c',g1,g2,g3⟩ | ⟨e,s,rows,g1,g2⟩ | ⟨t,f,g1,g2⟩
   ·rw [g1] at e2;injection e2 with e2
    subst e2;cases e3 with
    |box e3=>exact ⟨(hβo j l hj).trans (hpin hp),fun hx=>(by rw [hh] at hx;cases hx),fun e s rows hx=>(by rw [hh] at hx;cases hx),hcells,fun t f hx=>(by rw [hh] at hx;cases hx)⟩
   ·rw [g1] at e2;injection e2 with e2
    subst e2;cases e3 with
    |arr=>
     refine ⟨(hβo j l hj).trans (hpin hp),fun hx=>(by rw [hh] at hx;cases hx),fun e' s' rows2 hx=>?_,hcells,fun t f hx=>(by rw [hh] at hx;cases hx)⟩;rw [hh] at hx;injection hx with hx
     injection hx with x1 x2 x3
     subst x1 x2 x3;rcases g2 with g2 | ⟨rows',g2,g3⟩
     ·left;rw [hset j l hj,g2];rfl
     ·right;exact ⟨rows',by rw [hset j l hj,g2];rfl,g3⟩
   ·rw [g1] at e2;injection e2 with e2
    subst e2;cases e3 with
    |mp=>
     refine ⟨(hβo j l hj).trans (hpin hp),fun hx=>(by rw [hh] at hx;cases hx),fun e' s' rows2 hx=>(by rw [hh] at hx;cases hx),hcells,fun t' f2 hx=>?_⟩;rw [hh] at hx;injection hx with hx
     injection hx with x1 x2
     subst x1 x2;rcases g2 with g2 | ⟨f',g2⟩
     ·left;rw [hset j l hj,g2];rfl
     ·right;exact ⟨f',by rw [hset j l hj,g2];rfl⟩
  ·rw [hag hj,hno] at hs;cases hs
 ·obtain ⟨j,hj⟩:=hmem hm;rw [hβo j l hj] at hb';have hs2:(look H' j).isSome=true:=by
   rw [hset j l hj] at hs;cases hx:look H' j with
   |none=>rw [hx] at hs;cases hs
   |some o=>rfl
  exact ⟨hw0 (hr.own j b hs2 hb'),hr.apart j b hs2 hb'⟩
 ·obtain ⟨j,hj⟩:=hmem hm;obtain ⟨j',hj'⟩:=hmem hm';rw [hβo j l hj] at hb';rw [hβo j' l' hj'] at hb'';have hs2:∀ {j l:Nat},(j,l)∈σ->(Hb h' dl.wr l).isSome=true->(look H' j).isSome=true:=by
   intro j l hj hs;rw [hset j l hj] at hs;cases hx:look H' j with
   |none=>rw [hx] at hs;cases hs
   |some o=>rfl
  have:=hr.inj j j' b (hs2 hj hs) (hs2 hj' hs') hb' hb'';subst this;have:=HI h1 _ _ hj hj' rfl;injection this
 ·obtain ⟨j,hj⟩:=hmem hm;by_cases hp:(j,l)∈ρ
  ·have:=hsome' hp;rw [hno] at this;cases this
  ·have:=q3 j l hj hp;rw [hset j l hj] at hno';cases hx:look H' j with
   |none=>rw [hx] at this;cases this
   |some o=>rw [hx] at hno';cases hno'
 ·rw [<- q1];exact hren hrd
theorem QbH {α : Type} {K : AV -> List (Nat × Ob) -> Option α} {res : α} {C : VC} (hC : VCOk P C) {n f : Nat} {fn : Func} (hf : P.funcs[f]? = some fn) (hb : fn.body.isSome = true) (hn : (fn.name == "runtime.NumGoroutine") = false)
  {σ ρ:List (Nat × Nat)} {avs avs':List AV} {H:List (Nat × Ob)} {hl:Nat->Option Ob} {dl:Dl}
  (hav:CLeL ρ avs avs')
  (hsub:∀ p,p∈ρ->p∈σ) (h1:Xj (σ.map (·.1))=true) (h2:Xj (σ.map (·.2))=true) (hρ:Xj (ρ.map (·.1))=true)
  (hin:∀ j l,(j,l)∈ρ->1000000<=j/\∃ o o',hl l=some o/\look H j=some o'/\OLe ρ o o')
  (hinH:∀ j,(look H j).isSome=true->∃ l,(j,l)∈ρ)
  (hnew:∀ j l,(j,l)∈σ->(j,l)∈ρ\/hl l=none)
  (hwl:wrL dl=σ.map (·.2))
  (h:vfn C n fn avs' H K=some res) (hK:∀ av H',K av H'=some res->ShapeEnd σ ρ H av H' dl):Wn P f avs hl dl:=
 FJ hf hb hn hav hsub h1 h2 hρ hin hinH hnew hwl (fun _ _ _ _ hO hA=>Bb hC hf h hO hA) hK
end

section
variable {P:Program} {R:Type}
def prR (hl:Nat->Option Ob) (e s:Nat) (av:AV) (k:Nat->List (List D)->Option R):Option R:=
 match av with
 |.arr l=>match hl l with
  |some (.arr e' s' rows)=>bif Nat.beq e' e&&Nat.beq s' s then k l rows else none
  |_=>none
 |_=>none
theorem To {hl:Nat->Option Ob} {e s:Nat} {av:AV} {k:Nat->List (List D)->Option R} {r:R} (h:prR hl e s av k=some r):∃ l rows,k l rows=some r/\av = .arr l/\hl l=some (.arr e s rows):=by
 unfold prR at h;split at h
 ·split at h
  ·obtain ⟨hc,hk⟩:=Qz h
   grind [Nat.eq_of_beq_eq_true]
  ·cases h
 ·cases h
def prF (f:Nat) (av:AV) (k:List AV->Option R):Option R:=
 match av with
 |.fn f' ac=>bif Nat.beq f' f then k ac else none
 |_=>none
theorem Mo {f:Nat} {av:AV} {k:List AV->Option R} {r:R} (h:prF f av k=some r):∃ ac,k ac=some r/\av = .fn f ac:=by
 unfold prF at h;split at h
 ·obtain ⟨hc,hk⟩:=Qz h
  simp_all
 ·cases h
theorem CLe.data {ρ:List (Nat × Nat)} {c c':AV} (hl:lf c'=true) (h:Cl c c'):CLe ρ c c':=.inl ⟨hl,h⟩
theorem CLe.own {ρ:List (Nat × Nat)} {c c':AV} (hd:dm ρ c'=true) (h:c=Uy ρ c'):CLe ρ c c':=.inr ⟨hd,h⟩
def QeR (ρ0:List (Nat × Nat)) (hl:Nat->Option Ob) (H:List (Nat × Ob)):List (Nat × Nat)->Prop
 |[]=>True
 |(j,l)::r=>(1000000<=j/\∃ o o',hl l=some o/\look H j=some o'/\OLe ρ0 o o')/\QeR ρ0 hl H r
def Qf5 (H H':List (Nat × Ob)):List (Nat × Nat)->Prop
 |[]=>True
 |(j,_)::r=>Q2b (look H j) (look H' j)/\Qf5 H H' r
theorem Q8S {ρ0:List (Nat × Nat)} {hl:Nat->Option Ob} {H:List (Nat × Ob)}:∀ {ρ:List (Nat × Nat)},QeR ρ0 hl H ρ->∀ j l,(j,l)∈ρ->1000000<=j/\∃ o o',hl l=some o/\look H j=some o'/\OLe ρ0 o o'
 |(a,b)::r,h,j,l,hm=>by
  rcases QiU.1 hm with hm | hm
  ·injection hm with h1 h2;subst h1 h2;exact h.1
  ·exact Q8S h.2 j l hm
theorem Q8u {H H':List (Nat × Ob)}:∀ {ρ:List (Nat × Nat)},Qf5 H H' ρ->∀ j l,(j,l)∈ρ->Q2b (look H j) (look H' j)
 |(a,b)::r,h,j,l,hm=>by
  rcases QiU.1 hm with hm | hm
  ·injection hm with h1 h2;subst h1 h2;exact h.1
  ·exact Q8u h.2 j l hm
theorem Q9K {o o':Option Ob} {c c':List AV} (h1:o=some (.box c)) (h2:o'=some (.box c')) (h3:c'.length=c.length):Q2b o o':=.inl ⟨c,c',h1,h2,h3⟩
theorem Q7y {o o':Option Ob} {e s:Nat} {rows:List (List D)} (h1:o=some (.arr e s rows)) (h2:o'=none):Q2b o o':=.inr (.inl ⟨e,s,rows,h1,.inl h2⟩)
theorem Jn {o o':Option Ob} {e s:Nat} {rows ac:List (List D)} (h1:o=some (.arr e s rows)) (h2:o'=some (.arr e s ac)) (h3:ac.length=rows.length):Q2b o o':=.inr (.inl ⟨e,s,rows,h1,.inr ⟨ac,h2,h3⟩⟩)
theorem Q8R {o o':Option Ob} {t:Nat} {f f':Int->Bool} (h1:o=some (.mp t f)) (h2:o'=some (.mp t f')):Q2b o o':=.inr (.inr ⟨t,f,h1,.inr ⟨f',h2⟩⟩)
theorem Q4X {o o':Option Ob} {t:Nat} {f:Int->Bool} (h1:o=some (.mp t f)) (h2:o'=none):Q2b o o':=.inr (.inr ⟨t,f,h1,.inl h2⟩)
theorem JN {f:Nat} {ac:List AV} {hl:Nat->Option Ob} {dl:Dl} {g:Bool} {k:Dl->Option R} {r:R} (h:(bif g then none else k dl)=some r):∃ dl,k dl=some r/\(g=true->Wn P f ac hl dl):=by
 grind
theorem Q1e {α : Type} {K : AV -> List (Nat × Ob) -> Option α} {res : α} {f : Nat} {fn : Func} (hf : P.funcs[f]? = some fn) (hb : fn.body.isSome = true) (hn : (fn.name == "runtime.NumGoroutine") = false)
  {ρ ν:List (Nat × Nat)} {avs avs':List AV} {H:List (Nat × Ob)} {hl:Nat->Option Ob} {dl:Dl}
  (hav:CLeL ρ avs avs') (h1:Xj ((ρ++ν).map (·.1))=true) (hρ:Xj (ρ.map (·.1))=true)
  (hc:Gq hl ρ ν=true) (hin:QeR ρ hl H ρ) (hkeys:H.map (·.1)=ρ.map (·.1)) (hwl:wrL dl=(ρ++ν).map (·.2))
  (h:∀ (β:Nat->Option Nat) (S:Nat->Prop) (w:World) (vs:List Value),Objs β S (look H) w->ArgsRd β S (look H) w vs avs'->Calls P f vs.toArray w (M5 H K res β S w))
  (hK:∀ av H',K av H'=some res->Uy (ρ++ν) av=dl.v/\HN (ρ++ν) H' (ρ++ν)=dl.wr/\Qbw H' ν/\Qf5 H H' ρ):Wn P f avs hl dl:=by
 simp only [Gq,QiP] at hc;refine FJ hf hb hn hav (fun p hp=>Qjc _ hp) h1 hc.1 hρ (Q8S hin) (Q1O hkeys) (fun j l hm=>?_) hwl h fun av H' hk=>?_
 ·grind [Q5X]
 ·obtain ⟨q1,q2,q3,q4⟩:=hK av H' hk;refine ⟨q1,q2,fun j l hm hno=>?_,Q8u q4⟩
  grind [absurd,Q4P]
end

abbrev L4:=(R:Type)->St->(Exit->St->Option R)->Option R
section
variable {P:Program} {E:Env} {R:Type}
def Qf8 (P:Program) (c:Code) (F:L4):Prop:=
 ∀ (E:Env) (R:Type) (st:St) (k:Exit->St->Option R) (r:R),F R st k=some r->∀ a w,HK E st a w->(Code.loop c).wp P (Q0k E k r) a w
structure LpE (P:Program) where
 r:Nat
 c:Code
 L:L4
 t:St->Bool
 ok:Qf8 P c L
def Q7O:List (LpE P)->Nat->Option L4
 |[],_=>none
 |e::t,r=>bif Nat.beq e.r r then some e.L else Q7O t r
def Q7B (C:VC) (T:List (LpE P)):Code->St->(Exit->St->Option R)->Option R
 |.skip,st,k=>k .normal st
 |.region id aj ac,st,k=>Q1j C id aj ac st (k .normal)
 |.seq a b,st,k=>Q7B C T a st fun e st'=>match e with
  |.normal=>Q7B C T b st' k
  |.exit id=>k (.exit id) st'
  |.ret=>k .ret st'
  |_=>none
 |.cond c a b,st,k=>match evO st.tm c with
  |.d (.bool e)=>bif e then Q7B C T a st k else Q7B C T b st k
  |_=>none
 |.block id c,st,k=>Q7B C T c st fun e st'=>match e with
  |.normal=>k .normal st'
  |.exit j=>bif Nat.beq j id then k .normal st' else k (.exit j) st'
  |.ret=>k .ret st'
  |_=>none
 |.loop c,st,k=>match Q7O T (Q8v c) with
  |some L=>L R st k
  |none=>none
 |.exit id,st,k=>k (.exit id) st
 |.ret,st,k=>k .ret st
 |_,_,_=>none
def Ur:Code->List (Nat × Code)
 |.seq a b=>Ur a++Ur b
 |.cond _ a b=>Ur a++Ur b
 |.block _ c=>Ur c
 |.loop c=>[(Q8v c,c)]
 |_=>[]
def QeB (T:List (LpE P)) (ds:List (Nat × Code)):Prop:=∀ r c,(r,c)∈ds->∀ L,Q7O T r=some L->Qf8 P c L
def MU (T:List (LpE P)) (ds:List (Nat × Code)):List (Nat × Code):=ds.filter fun d=>S6 d.1 (T.map (·.r))
theorem Q9l {T:List (LpE P)} {r:Nat} {L:L4} (h:Q7O T r=some L):S6 r (T.map (·.r))=true:=by
 induction T with
 |nil=>cases h
 |cons e t ih=>
  grind [Q7O,Nat.beq,Nat.eq_of_beq_eq_true,S6,Nat.beq_refl]
theorem CY {T:List (LpE P)} {ds:List (Nat × Code)} (hn:Xj (T.map (·.r))=true) (h:MU T ds=T.map fun e=>(e.r,e.c)):QeB T ds:=by
 intro r c hm L hL;have hm:(r,c)∈T.map fun e=>(e.r,e.c):=by
  rw [<- h];exact List.mem_filter.2 ⟨hm,Q9l hL⟩
 clear h;induction T with
 |nil=>cases hm
 |cons e t ih=>
  simp only [QiY,Xj,QiP,QiW] at hn;simp only [QiY,QiU] at hm;simp only [Q7O] at hL;rcases hm with hm | hm
  ·injection hm with h1 h2
   subst h1 h2;simp only [Qje,QiV,Option.some.injEq] at hL;subst hL;exact e.ok
  ·cases hb:Nat.beq e.r r with
   |true=>
    have:=QiO hb;subst this;have aj:S6 e.r (t.map (·.r))=true:=by
     have:∀ (l:List (LpE P)),(e.r,c)∈l.map (fun x=>(x.r,x.c))->S6 e.r (l.map (·.r))=true:=by
      intro l;induction l with
      |nil=>simp_all
      |cons x xs ak=>
       intro h;simp only [QiY,QiU] at h
       grind [S6,Nat.beq_refl]
     simp_all
    simp_all
   |false=>
    simp_all
theorem Mx {C:VC} (hC:VCOk P C) {T:List (LpE P)}:∀ (c:Code),QeB T (Ur c)->∀ (st:St) (k:Exit->St->Option R) (r:R),Q7B C T c st k=some r->∀ a w,HK E st a w->c.wp P (Q0k E k r) a w:=by
 intro c;induction c with
 |skip=>intro _ st k r h a w hR;exact wp_skip ⟨st,hR,h⟩
 |region id au aq=>
  intro _ st k r h a w hR;exact Fe hC h hR fun st' a' w' ac hk=>⟨st',ac,hk⟩
 |seq x y an ak=>
  intro hT st k r h a w hR;refine wp_seq (wp_mono (an (fun r c hm=>hT r c (Qjc _ hm)) st _ r h a w hR) fun e a' w' hp=>?_);obtain ⟨st',ac,hk⟩:=hp;cases e with
  |normal=>exact ak (fun r c hm=>hT r c (List.mem_append_right _ hm)) st' k r hk a' w' ac
  |exit id=>exact ⟨st',ac,hk⟩
  |ret=>exact ⟨st',ac,hk⟩
  |_=>cases hk
 |cond c x y an ak=>
  intro hT st k r h a w hR;simp only [Q7B] at h;split at h
  ·rename_i e he;obtain ⟨β,S,al⟩:=hR;have hv:=(he▸Q4s al c).bool_inv;refine wp_cond hv ?_;cases e with
   |true=>exact an (fun r c hm=>hT r c (Qjc _ hm)) st k r (by simpa using h) a w ⟨β,S,al⟩
   |false=>exact ak (fun r c hm=>hT r c (List.mem_append_right _ hm)) st k r (by simpa using h) a w ⟨β,S,al⟩
  ·cases h
 |block id c ih=>
  intro hT st k r h a w hR;refine wp_block (wp_mono (ih hT st _ r h a w hR) fun e a' w' hp=>?_);obtain ⟨st',ac,hk⟩:=hp;cases e with
  |normal=>exact ⟨st',ac,hk⟩
  |exit j=>
   cases hb:Nat.beq j id with
   |true=>
    simp only [hb,QiV] at hk;have:=QiO hb;simp only [Exit.inBlock,this,if_true];exact ⟨st',ac,hk⟩
   |false=>
    simp only [hb,Qj8] at hk;have ao:¬ j=id:=fun e=>by simp_all
    simp only [Exit.inBlock,ao,if_false];exact ⟨st',ac,hk⟩
  |ret=>exact ⟨st',ac,hk⟩
  |_=>cases hk
 |loop c ih=>
  intro hT st k r h a w hR;simp only [Q7B] at h;split at h
  ·rename_i L hL;exact hT _ c (by simp [Ur]) L hL E _ st k r h a w hR
  ·cases h
 |exit id=>intro _ st k r h a w hR;exact wp_exit ⟨st,hR,h⟩
 |ret=>intro _ st k r h a w hR;exact wp_ret ⟨st,hR,h⟩
 |_=>grind [Q7B]
def lpK (F:L4) (k:Exit->St->Option R):Exit->St->Option R:=fun e st=>match e with
 |.normal=>F R st k
 |.exit id=>k (.exit id) st
 |.ret=>k .ret st
 |_=>none
theorem Q3S {c:Code} (F:Nat->L4) (h0:∀ (R:Type) st (k:Exit->St->Option R),F 0 R st k=none)
  (hs:∀ (m:Nat) (E:Env) (R:Type) st (k:Exit->St->Option R) r,F (m+1) R st k=some r->∀ a w,HK E st a w->c.wp P (Q0k E (lpK (F m) k) r) a w) :
  ∀ (m:Nat) (E:Env) (R:Type) (st:St) (k:Exit->St->Option R) (r:R),F m R st k=some r->∀ a w,HK E st a w->Code.rounds P c (Q0k E k r) m a w
 |0,E,R,st,k,r,h=>by rw [h0] at h;cases h
 |m+1,E,R,st,k,r,h=>by
  intro a w hR;rw [rounds_succ];refine wp_mono (hs m E R st k r h a w hR) fun e a' w' ⟨st',ac,hk⟩=>?_
  cases e with
  |normal=>exact Q3S F h0 hs m E R st' k r hk a' w' ac
  |exit id=>exact ⟨st',ac,hk⟩
  |ret=>exact ⟨st',ac,hk⟩
  |_=>cases hk
end
inductive LT where
 |I | B | T | L | R | D | N | M | P
abbrev yI:LT:=.I
abbrev yB:LT:=.B
abbrev yT:LT:=.T
abbrev yL:LT:=.L
abbrev yR:LT:=.R
abbrev yD:LT:=.D
abbrev yN:LT:=.N
abbrev yM:LT:=.M
abbrev yP:LT:=.P
inductive Lf where
 |I (x:Int)
 |B (x:Bool)
 |T (x:List UInt8)
 |L (x:List (List D))
 |R (x:List D)
 |D (x:Vx.D)
 |N (x:Nat)
 |M (x:Int->List (List Vx.D))
 |P (x:Int->Bool)
def LT.ty:LT->Type
 |.I=>Int
 |.B=>Bool
 |.T=>List UInt8
 |.L=>List (List Vx.D)
 |.R=>List Vx.D
 |.D=>Vx.D
 |.N=>Nat
 |.M=>Int->List (List Vx.D)
 |.P=>Int->Bool
def HL:List LT->Type
 |[]=>Unit
 |t::ts=>t.ty × HL ts
def LF:List LT->Type->Type
 |[],α=>α
 |t::ts,α=>t.ty->LF ts α
def Qae:(t:LT)->t.ty->Lf
 |.I,x=>.I x
 |.B,x=>.B x
 |.T,x=>.T x
 |.L,x=>.L x
 |.R,x=>.R x
 |.D,x=>.D x
 |.N,x=>.N x
 |.M,x=>.M x
 |.P,x=>.P x
def toL:(ts:List LT)->HL ts->List Lf
 |[],_=>[]
 |t::ts,v=>Qae t v.1::toL ts v.2
def apH {α:Type}:(ts:List LT)->LF ts α->HL ts->α
 |[],f,_=>f
 |_::ts,f,v=>apH ts (f v.1) v.2
def Q84:(t:LT)->Lf->Option t.ty
 |.I,.I x=>some x
 |.B,.B x=>some x
 |.T,.T x=>some x
 |.L,.L x=>some x
 |.R,.R x=>some x
 |.D,.D x=>some x
 |.N,.N x=>some x
 |.M,.M x=>some x
 |.P,.P x=>some x
 |_,_=>none
def apL {α:Type}:(ts:List LT)->LF ts (Option α)->List Lf->Option α
 |[],f,l=>match l with
  |[]=>f
  |_::_=>none
 |t::ts,f,l=>match l with
  |[]=>none
  |x::r=>match Q84 t x with
   |some v=>apL ts (f v) r
   |none=>none
theorem Ny {t:LT} {x:Lf} {v:t.ty} (h:Q84 t x=some v):x=Qae t v:=by
 cases t <;> cases x <;> first | (injection h with h;subst h;rfl) | cases h
theorem Fs {α:Type} (ts:List LT):∀ (f:LF ts (Option α)) (l:List Lf) (r:α),apL ts f l=some r->∃ v:HL ts,apH ts f v=some r/\l=toL ts v:=by
 induction ts with
 |nil=>
  intro f l r h;cases l with
  |nil=>exact ⟨(),h,rfl⟩
  |cons x l=>cases h
 |cons t ts ih=>
  intro f l r h;cases l with
  |nil=>cases h
  |cons x l=>
   replace h:(match Q84 t x with | some v=>apL ts (f v) l | none=>none)=some r:=h
   split at h
   ·rename_i v hv;obtain ⟨u,h1,h2⟩:=ih (f v) l r h;exact ⟨(v,u),h1,by rw [Ny hv,h2];rfl⟩
   ·cases h
inductive TA where
 |top | nil
 |i (k:IntKind) | b | t | l (s:Nat) | x
 |ci (k:IntKind) (n:Int) | cb (v:Bool) | ct (s:List UInt8) | cl (s:Nat)
 |ag (l:List TA) | tup (l:List TA) | fn (f:Nat) (l:List TA)
 |ptr (l off:Nat) | arr (l:Nat) | sa (l t:Nat)
 |el (off:Nat) | ap (l off:Nat) | ac (l i off:Nat)
 |fs (s:Nat) | mpd
 |gd (t:Nat) (w:Bool) (a:TA)
def Ds:List UInt8->List UInt8->Bool
 |[],[]=>true
 |a::r,b::s=>Nat.beq a.toNat b.toNat&&Ds r s
 |_,_=>false
theorem Q0N:∀ {a b:List UInt8},Ds a b=true->a=b
 |[],[],_=>rfl
 |x::r,y::s,h=>by
  simp only [Ds,QiP] at h;rw [UInt8.toNat_inj.1 (QiO h.1),Q0N h.2]
 |[],_::_,h=>by simp [Ds] at h
 |_::_,[],h=>by simp [Ds] at h
def oB {α:Type} (c:Bool) (x:α):Option α:=bif c then some x else none
theorem J5 {α:Type} {c:Bool} {x y:α} (h:oB c x=some y):c=true/\x=y:=by
 cases c with
 |true=>injection h with h;simp_all
 |false=>cases h
mutual
def rdT:TA->AV->List Lf->Option (List Lf)
 |.top,.top,acc=>some acc
 |.nil,.nil,acc=>some acc
 |.i k,.d (.int k' n),acc=>oB (k == k') (.I n::acc)
 |.b,.d (.bool v),acc=>some (.B v::acc)
 |.t,.d (.str s),acc=>some (.T s::acc)
 |.l s,.d (.sl s' r),acc=>oB (Nat.beq s s') (.L r::acc)
 |.x,.d d,acc=>some (.D d::acc)
 |.ci k n,.d (.int k' n'),acc=>oB (k == k'&&decide (n=n')) acc
 |.cb v,.d (.bool v'),acc=>oB (v == v') acc
 |.ct s,.d (.str s'),acc=>oB (Ds s s') acc
 |.cl s,.d (.sl s' []),acc=>oB (Nat.beq s s') acc
 |.ag l,.ag l',acc=>Qaa l l' acc
 |.tup l,.tup l',acc=>Qaa l l' acc
 |.fn f l,.fn f' l',acc=>bif Nat.beq f f' then Qaa l l' acc else none
 |.ptr l o,.ptr l' o',acc=>oB (Nat.beq l l'&&Nat.beq o o') acc
 |.arr l,.arr l',acc=>oB (Nat.beq l l') acc
 |.sa l o,.sa l' o',acc=>oB (Nat.beq l l'&&Nat.beq o o') acc
 |.el o,.el r o',acc=>oB (Nat.beq o o') (.R r::acc)
 |.ap l o,.ap l' i o',acc=>oB (Nat.beq l l'&&Nat.beq o o') (.N i::acc)
 |.ac l i o,.ap l' i' o',acc=>oB (Nat.beq l l'&&Nat.beq i i'&&Nat.beq o o') acc
 |.fs s,.fs s' r,acc=>oB (Nat.beq s s') (.L r::acc)
 |.mpd,.mpd f,acc=>some (.M f::acc)
 |.gd t w a,.gd t' w' a',acc=>bif Nat.beq t t'&&(w == w') then rdT a a' acc else none
 |_,_,_=>none
def Qaa:List TA->List AV->List Lf->Option (List Lf)
 |[],[],acc=>some acc
 |a::r,a'::r',acc=>match Qaa r r' acc with
  |some ac=>rdT a a' ac
  |none=>none
 |_,_,_=>none
end
mutual
def fiT:TA->List Lf->AV × List Lf
 |.i k,.I n::r=>(.d (.int k n),r)
 |.b,.B v::r=>(.d (.bool v),r)
 |.t,.T s::r=>(.d (.str s),r)
 |.l s,.L x::r=>(.d (.sl s x),r)
 |.x,.D d::r=>(.d d,r)
 |.ci k n,r=>(.d (.int k n),r)
 |.cb v,r=>(.d (.bool v),r)
 |.ct s,r=>(.d (.str s),r)
 |.cl s,r=>(.d (.sl s []),r)
 |.ag l,r=>(.ag (Q7G l r).1,(Q7G l r).2)
 |.tup l,r=>(.tup (Q7G l r).1,(Q7G l r).2)
 |.fn f l,r=>(.fn f (Q7G l r).1,(Q7G l r).2)
 |.ptr l o,r=>(.ptr l o,r)
 |.arr l,r=>(.arr l,r)
 |.sa l o,r=>(.sa l o,r)
 |.el o,.R x::r=>(.el x o,r)
 |.ap l o,.N i::r=>(.ap l i o,r)
 |.ac l i o,r=>(.ap l i o,r)
 |.fs s,.L x::r=>(.fs s x,r)
 |.mpd,.M f::r=>(.mpd f,r)
 |.gd t w a,r=>(.gd t w (fiT a r).1,(fiT a r).2)
 |.nil,r=>(.nil,r)
 |_,r=>(.top,r)
def Q7G:List TA->List Lf->List AV × List Lf
 |[],r=>([],r)
 |a::l,r=>((fiT a r).1::(Q7G l (fiT a r).2).1,(Q7G l (fiT a r).2).2)
end
mutual
theorem Q1H:∀ (ta:TA) (a:AV) (acc ls:List Lf),rdT ta a acc=some ls->fiT ta ls=(a,acc):=by
 intro ta a acc ls h;cases ta <;> cases a <;> try (simp only [rdT,reduceCtorEq] at h;done)
 case top.top=>simp only [rdT,Option.some.injEq] at h;subst h;simp [fiT]
 case nil.nil=>simp only [rdT,Option.some.injEq] at h;subst h;simp [fiT]
 case i.d k d=>
  cases d <;> try (simp only [rdT,reduceCtorEq] at h;done)
  simp only [rdT] at h;obtain ⟨h1,rfl⟩:=J5 h;rw [<- eq_of_beq h1];rfl
 case b.d d=>
  cases d <;> try (simp only [rdT,reduceCtorEq] at h;done)
  simp only [rdT,Option.some.injEq] at h;subst h;rfl
 case t.d d=>
  cases d <;> try (simp only [rdT,reduceCtorEq] at h;done)
  simp only [rdT,Option.some.injEq] at h;subst h;rfl
 case l.d s d=>
  cases d <;> try (simp only [rdT,reduceCtorEq] at h;done)
  simp only [rdT] at h;obtain ⟨h1,rfl⟩:=J5 h;rw [<- QiO h1];rfl
 case x.d d=>simp only [rdT,Option.some.injEq] at h;subst h;rfl
 case ci.d k n d=>
  cases d <;> try (simp only [rdT,reduceCtorEq] at h;done)
  simp only [rdT] at h;obtain ⟨h1,rfl⟩:=J5 h;simp only [QiP,decide_eq_true_eq] at h1;rw [<- eq_of_beq h1.1,<- h1.2];simp [fiT]
 case cb.d v d=>
  cases d <;> try (simp only [rdT,reduceCtorEq] at h;done)
  simp only [rdT] at h;obtain ⟨h1,rfl⟩:=J5 h;rw [<- eq_of_beq h1];simp [fiT]
 case ct.d s d=>
  cases d <;> try (simp only [rdT,reduceCtorEq] at h;done)
  simp only [rdT] at h;obtain ⟨h1,rfl⟩:=J5 h;rw [<- Q0N h1];simp [fiT]
 case cl.d s d=>
  cases d <;> try (simp only [rdT,reduceCtorEq] at h;done)
  rename_i s' rows;cases rows <;> try (simp only [rdT,reduceCtorEq] at h;done)
  simp only [rdT] at h;obtain ⟨h1,rfl⟩:=J5 h;rw [<- QiO h1];simp [fiT]
 case ag.ag l l'=>simp only [rdT] at h;have:=NJ l l' acc ls h;simp [fiT,this]
 case tup.tup l l'=>simp only [rdT] at h;have:=NJ l l' acc ls h;simp [fiT,this]
 case fn.fn f l f' l'=>
  simp only [rdT] at h;obtain ⟨h1,h⟩:=Qz h;have:=NJ l l' acc ls h;rw [<- QiO h1];simp [fiT,this]
 case ptr.ptr=>
  simp only [rdT] at h;obtain ⟨h1,rfl⟩:=J5 h;simp only [QiP] at h1;rw [<- QiO h1.1,<- QiO h1.2];simp [fiT]
 case arr.arr=>
  simp only [rdT] at h;obtain ⟨h1,rfl⟩:=J5 h;rw [<- QiO h1];simp [fiT]
 case sa.sa=>
  simp only [rdT] at h;obtain ⟨h1,rfl⟩:=J5 h;simp only [QiP] at h1;rw [<- QiO h1.1,<- QiO h1.2];simp [fiT]
 case el.el=>
  simp only [rdT] at h;obtain ⟨h1,rfl⟩:=J5 h;rw [<- QiO h1];rfl
 case ap.ap=>
  simp only [rdT] at h;obtain ⟨h1,rfl⟩:=J5 h;simp only [QiP] at h1;rw [<- QiO h1.1,<- QiO h1.2];rfl
 case ac.ap=>
  simp only [rdT] at h;obtain ⟨h1,rfl⟩:=J5 h;simp only [QiP] at h1;rw [<- QiO h1.1.1,<- QiO h1.1.2,<- QiO h1.2];simp [fiT]
 case fs.fs=>
  simp only [rdT] at h;obtain ⟨h1,rfl⟩:=J5 h;rw [<- QiO h1];rfl
 case mpd.mpd=>simp only [rdT,Option.some.injEq] at h;subst h;rfl
 case gd.gd ti w a ti' w' a'=>
  simp only [rdT] at h;obtain ⟨h1,h⟩:=Qz h;simp only [QiP] at h1;have:=Q1H a a' acc ls h;rw [<- QiO h1.1,<- eq_of_beq h1.2];simp [fiT,this]
theorem NJ:∀ (ta:List TA) (a:List AV) (acc ls:List Lf),Qaa ta a acc=some ls->Q7G ta ls=(a,acc):=by
 intro ta a acc ls h
 match ta,a,h with
 |[],[],h=>simp only [Qaa,Option.some.injEq] at h;subst h;simp [Q7G]
 |ta::ts,a::as,h=>
  simp only [Qaa] at h;split at h
  ·rename_i ac ha;have h1:=Q1H ta a ac ls h;have h2:=NJ ts as acc ac ha;simp [Q7G,h1,h2]
  ·cases h
 |[],_::_,h=>simp [Qaa] at h
 |_::_,[],h=>simp [Qaa] at h
end
abbrev tI:TA:=.i .i64
inductive TO where
 |box (l:List TA)
 |arr (e s:Nat)
 |arc (e s:Nat)
 |mp (t:Nat)
structure TS where
 n:Nat
 tm:List (Nat × TA)
 h:List (Nat × TO)
def rdO:TO->Ob->List Lf->Option (List Lf)
 |.box l,.box l',acc=>Qaa l l' acc
 |.arr e s,.arr e' s' r,acc=>oB (Nat.beq e e'&&Nat.beq s s') (.L r::acc)
 |.arc e s,.arr e' s' [],acc=>oB (Nat.beq e e'&&Nat.beq s s') acc
 |.mp e,.mp e' f,acc=>oB (Nat.beq e e') (.P f::acc)
 |_,_,_=>none
def fiO:TO->List Lf->Ob × List Lf
 |.box l,r=>(.box (Q7G l r).1,(Q7G l r).2)
 |.arr e s,.L x::r=>(.arr e s x,r)
 |.arr e s,r=>(.arr e s [],r)
 |.arc e s,r=>(.arr e s [],r)
 |.mp e,.P x::r=>(.mp e x,r)
 |.mp e,r=>(.mp e fun _=>false,r)
def rdM:List (Nat × TA)->List (Nat × AV)->List Lf->Option (List Lf)
 |[],[],acc=>some acc
 |(i,a)::r,(j,b)::s,acc=>bif Nat.beq i j then match rdM r s acc with
  |some ac=>rdT a b ac
  |none=>none
  else none
 |_,_,_=>none
def fiM:List (Nat × TA)->List Lf->List (Nat × AV) × List Lf
 |[],r=>([],r)
 |(i,a)::l,r=>((i,(fiT a r).1)::(fiM l (fiT a r).2).1,(fiM l (fiT a r).2).2)
def rdH:List (Nat × TO)->List (Nat × Ob)->List Lf->Option (List Lf)
 |[],[],acc=>some acc
 |(i,a)::r,(j,b)::s,acc=>bif Nat.beq i j then match rdH r s acc with
  |some ac=>rdO a b ac
  |none=>none
  else none
 |_,_,_=>none
def fiH:List (Nat × TO)->List Lf->List (Nat × Ob) × List Lf
 |[],r=>([],r)
 |(i,a)::l,r=>((i,(fiO a r).1)::(fiH l (fiO a r).2).1,(fiH l (fiO a r).2).2)
def rdS (Z:TS) (st:St):Option (List Lf):=bif Nat.beq Z.n st.n then match rdH Z.h st.h [] with
  |some acc=>rdM Z.tm st.tm acc
  |none=>none
 else none
def fiS (Z:TS) (l:List Lf):St:=⟨Z.n,(fiM Z.tm l).1,(fiH Z.h (fiM Z.tm l).2).1⟩
theorem Qbc {z:TO} {o:Ob} {acc ls:List Lf} (h:rdO z o acc=some ls):fiO z ls=(o,acc):=by
 cases z <;> cases o <;> try (simp only [rdO,reduceCtorEq] at h;done)
 case box.box=>simp only [rdO] at h;simp [fiO,NJ _ _ _ _ h]
 case arr.arr=>
  simp only [rdO] at h;obtain ⟨h1,rfl⟩:=J5 h;simp only [QiP] at h1;rw [<- QiO h1.1,<- QiO h1.2];rfl
 case arc.arr e s e' s' r=>
  cases r <;> try (simp only [rdO,reduceCtorEq] at h;done)
  simp only [rdO] at h;obtain ⟨h1,rfl⟩:=J5 h;simp only [QiP] at h1;rw [<- QiO h1.1,<- QiO h1.2];simp [fiO]
 case mp.mp=>
  simp only [rdO] at h;obtain ⟨h1,rfl⟩:=J5 h;rw [<- QiO h1];rfl
theorem Q6s:∀ {z:List (Nat × TA)} {l:List (Nat × AV)} {acc ls:List Lf},rdM z l acc=some ls->fiM z ls=(l,acc)
 |[],[],acc,ls,h=>by simp only [rdM,Option.some.injEq] at h;subst h;rfl
 |(i,a)::r,(j,b)::s,acc,ls,h=>by
  simp only [rdM] at h;obtain ⟨h1,h⟩:=Qz h;split at h
  ·rename_i ac ha;simp [fiM,Q1H _ _ _ _ h,Q6s ha,QiO h1]
  ·cases h
 |[],_::_,_,_,h=>by simp [rdM] at h
 |_::_,[],_,_,h=>by simp [rdM] at h
theorem Q68:∀ {z:List (Nat × TO)} {l:List (Nat × Ob)} {acc ls:List Lf},rdH z l acc=some ls->fiH z ls=(l,acc)
 |[],[],acc,ls,h=>by simp only [rdH,Option.some.injEq] at h;subst h;rfl
 |(i,a)::r,(j,b)::s,acc,ls,h=>by
  simp only [rdH] at h;obtain ⟨h1,h⟩:=Qz h;split at h
  ·rename_i ac ha;simp [fiH,Qbc h,Q68 ha,QiO h1]
  ·cases h
 |[],_::_,_,_,h=>by simp [rdH] at h
 |_::_,[],_,_,h=>by simp [rdH] at h
theorem Q6P {Z:TS} {st:St} {ls:List Lf} (h:rdS Z st=some ls):fiS Z ls=st:=by
 obtain ⟨h1,h⟩:=Qz h;split at h
 ·rename_i acc ha;simp only [fiS,Q6s h,Q68 ha,QiO h1]
 ·cases h
def Lp (C:VC) (ac:Nat) (Z:TS) (ts:List LT) (f:(R:Type)->(Exit->St->Option R)->LF ts (Option R)):L4:=fun R st k=>
 match rdS Z (Q0M C ac st) with
 |some ls=>apL ts (f R k) ls
 |none=>none
def mkL {P:Program} {C:VC} (hC:VCOk P C) (T:List (LpE P)) (r:Nat) (c:Code) (Z:TS) (ts:List LT) (f:Nat->(R:Type)->(Exit->St->Option R)->LF ts (Option R)) (m:Nat)
  (hr:Nat.beq r (Q8v c)=true:=by kernel_rfl) (hT:MU T (Ur c)=T.map fun e=>(e.r,e.c):=by kernel_rfl) (hn:Xj (T.map (·.r))=true:=by rfl)
  (h0:∀ R k v,apH ts (f 0 R k) v=none:=by intro R k v;rfl)
  (hs:∀ m R k v,apH ts (f (m+1) R k) v=Q7B C T c (fiS Z (toL ts v)) (lpK (Lp C (3000000000+r) Z ts (f m)) k):=by intro m R k v;kernel_rfl):LpE P where
 r:=r
 c:=c
 L:=Lp C (3000000000+r) Z ts (f m)
 t:=fun st=>(rdS Z (Q0M C (3000000000+r) st)).isSome
 ok:=by
  have hr:=QiO hr;have hT:=CY hn hT;intro E R st k x h a w hR;refine wp_loop_rounds m (Q3S (fun m=>Lp C (3000000000+r) Z ts (f m)) (fun R st k=>?_) (fun m E R st k x h a w hR=>?_) m E R st k x h a w hR)
  ·show Lp C (3000000000+r) Z ts (f 0) R st k=none;cases hx:Lp C (3000000000+r) Z ts (f 0) R st k with
   |none=>rfl
   |some x=>
    unfold Lp at hx;split at hx
    ·obtain ⟨v,hv,_⟩:=Fs _ _ _ _ hx;rw [h0] at hv;cases hv
    ·cases hx
  ·replace h:Lp C (3000000000+r) Z ts (f (m+1)) R st k=some x:=h
   unfold Lp at h;split at h
   ·rename_i ls al;obtain ⟨v,hv,rfl⟩:=Fs _ _ _ _ h;rw [hs,Q6P al] at hv;refine Mx hC c hT _ _ x hv a w ?_;unfold Q0M;split
    ·exact SV _ hR
    ·exact hR
   ·cases h
def orL {P:Program} (a b:LpE P) (hc:b.c=a.c:=by kernel_rfl):LpE P where
 r:=a.r
 c:=a.c
 L:=fun R st k=>bif a.t st then a.L R st k else b.L R st k
 t:=fun st=>a.t st||b.t st
 ok:=by
  intro E R st k r h
  replace h:(bif a.t st then a.L R st k else b.L R st k)=some r:=h
  cases ht:a.t st with
  |true=>rw [ht] at h;exact a.ok E R st k r h
  |false=>rw [ht] at h;rw [<- hc];exact b.ok E R st k r h
section
variable {P:Program} {R:Type}
def prM (hl:Nat->Option Ob) (e:Nat) (av:AV) (k:Nat->(Int->Bool)->Option R):Option R:=
 match av with
 |.arr l=>match hl l with
  |some (.mp e' f)=>bif Nat.beq e' e then k l f else none
  |_=>none
 |_=>none
theorem QfU {hl:Nat->Option Ob} {e:Nat} {av:AV} {k:Nat->(Int->Bool)->Option R} {r:R} (h:prM hl e av k=some r):∃ l f,k l f=some r/\av = .arr l/\hl l=some (.mp e f):=by
 unfold prM at h
 grind [Nat.eq_of_beq_eq_true]
def prN (av:AV) (k:Option R):Option R:=
 match av with
 |.nil=>k
 |_=>none
theorem QfZ {av:AV} {k:Option R} {r:R} (h:prN av k=some r):k=some r/\av = .nil:=by
 grind [prN]
def vfnT (C:VC) (T:List (LpE P)) (fn:Func) (args:List AV) (h:List (Nat × Ob)) (k:AV->List (Nat × Ob)->Option R):Option R:=
 bif fn.body.isSome&&(Nat.ble args.length fn.ntmps&&HF args) then Q7B C T (Jc fn) { n:=fn.ntmps,tm:=Q3G 0 args,h:=h } (fnK C.tt fn k) else none
theorem MM {C:VC} (hC:VCOk P C) {T:List (LpE P)} {f:Nat} {fn:Func} (hf:P.funcs[f]? = some fn) (hT:MU T (Ur (Jc fn))=T.map fun e=>(e.r,e.c)) (hn:Xj (T.map (·.r))=true)
  {args:List AV} {H:List (Nat × Ob)} {k:AV->List (Nat × Ob)->Option R} {r:R} (h:vfnT C T fn args H k=some r)
  (β:Nat->Option Nat) (S:Nat->Prop) (w:World) (vs:List Value) (hO:Objs β S (look H) w) (hA:ArgsRd β S (look H) w vs args):Calls P f vs.toArray w (M5 H k r β S w):=by
 obtain ⟨hb,h⟩:=Qz h;simp only [QiP] at hb;obtain ⟨c,hc⟩:=Qj7.1 hb.1;have ac:Jc fn=c:=by grind [Jc]
 rw [ac] at h hT;exact Q1u hC hf hc (by simp_all) (fun a hR=>Mx hC c (CY hn hT) _ _ r h a w ⟨β,S,hR⟩) hO hA
theorem QaV {α:Type} {K:AV->Option α} {res:α} {C:VC} (hC:VCOk P C) (T:List (LpE P)) {f:Nat} {fn:Func} {ss:List (List Nat)} {avs:List AV} {av:AV} {hl:Nat->Option Ob} {rd:List Nat}
  (h : vfnT C T fn avs [] (retF ss K) = some res) (hK : ∀ x, K x = some res -> x = av) (hf : P.funcs[f]? = some fn := by kernel_rfl) (hb : fn.body.isSome = true := by kernel_rfl) (hn : (fn.name == "runtime.NumGoroutine") = false := by kernel_rfl) (hlf : lfL avs = true := by rfl)
  (hT:MU T (Ur (Jc fn))=T.map fun e=>(e.r,e.c):=by kernel_rfl) (hn2:Xj (T.map (·.r))=true:=by rfl):Wn P f avs hl ⟨av,[],rd⟩:=
 Q4T hf hb hn hlf (MM hC hf hT hn2 h) hK
theorem QfT {α:Type} {K:AV->List (Nat × Ob)->Option α} {res:α} {C:VC} (hC:VCOk P C) (T:List (LpE P)) {f:Nat} {fn:Func}
  {ρ ν:List (Nat × Nat)} {avs avs':List AV} {H:List (Nat × Ob)} {hl:Nat->Option Ob} {dl:Dl}
  (hc:Gq hl ρ ν=true) (hin:Qf0 hl H ρ)
  (h:vfnT C T fn avs' H K=some res)
  (hK:∀ av H',K av H'=some res->Uy (ρ++ν) av=dl.v/\HN (ρ++ν) H' (ρ++ν)=dl.wr/\Qbw H' (ρ++ν)/\Qei H H' ρ)
  (hf : P.funcs[f]? = some fn := by kernel_rfl) (hb : fn.body.isSome = true := by kernel_rfl) (hn : (fn.name == "runtime.NumGoroutine") = false := by kernel_rfl)
  (hav:avs=avs'.map (Uy ρ):=by rfl) (hargs:DZ ρ avs'=true:=by rfl) (h1:Xj ((ρ++ν).map (·.1))=true:=by rfl) (hρ:Xj (ρ.map (·.1))=true:=by rfl) (hkeys:H.map (·.1)=ρ.map (·.1):=by rfl) (hwl:wrL dl=(ρ++ν).map (·.2):=by rfl)
  (hT:MU T (Ur (Jc fn))=T.map fun e=>(e.r,e.c):=by kernel_rfl) (hn2:Xj (T.map (·.r))=true:=by rfl):Wn P f avs hl dl:=
 AH hf hb hn hav hargs h1 hρ hc hin hkeys hwl (MM hC hf hT hn2 h) hK
theorem RM {α:Type} {K:AV->List (Nat × Ob)->Option α} {res:α} {C:VC} (hC:VCOk P C) (T:List (LpE P)) {f:Nat} {fn:Func}
  {ρ ν:List (Nat × Nat)} {avs avs':List AV} {H:List (Nat × Ob)} {hl:Nat->Option Ob} {dl:Dl}
  (hav:CLeL ρ avs avs') (hc:Gq hl ρ ν=true) (hin:QeR ρ hl H ρ)
  (h:vfnT C T fn avs' H K=some res)
  (hK:∀ av H',K av H'=some res->Uy (ρ++ν) av=dl.v/\HN (ρ++ν) H' (ρ++ν)=dl.wr/\Qbw H' ν/\Qf5 H H' ρ)
  (hf : P.funcs[f]? = some fn := by kernel_rfl) (hb : fn.body.isSome = true := by kernel_rfl) (hn : (fn.name == "runtime.NumGoroutine") = false := by kernel_rfl)
  (h1:Xj ((ρ++ν).map (·.1))=true:=by rfl) (hρ:Xj (ρ.map (·.1))=true:=by rfl) (hkeys:H.map (·.1)=ρ.map (·.1):=by rfl) (hwl:wrL dl=(ρ++ν).map (·.2):=by rfl)
  (hT:MU T (Ur (Jc fn))=T.map fun e=>(e.r,e.c):=by kernel_rfl) (hn2:Xj (T.map (·.r))=true:=by rfl):Wn P f avs hl dl:=
 Q1e hf hb hn hav h1 hρ hc hin hkeys hwl (MM hC hf hT hn2 h) hK
theorem lawT {C:VC} (hC:VCOk P C) (T:List (LpE P)) {f:Nat} {fn:Func} (hf:P.funcs[f]? = some fn) {ss:List (List Nat)} {K:AV->Option Bool} (hK:∀ x,K x=some true->x = .d (.bool true))
  {ac:List AV} {args:List Value} {w:World} (hA:ArgsRd (fun _=>none) (SW w) (look ([]:List (Nat × Ob))) w args ac) (h:vfnT C T fn ac [] (retF ss K)=some true)
  (hT:MU T (Ur (Jc fn))=T.map fun e=>(e.r,e.c):=by kernel_rfl) (aj:Xj (T.map (·.r))=true:=by rfl) :
  Calls P f args.toArray w fun e w'=>e = .returned (.bool true)/\RowKit.Below w.heap.size w w':=
 Q8o hK hA (MM hC hf hT aj h)
end

inductive DK where
 |i (k:IntKind) | b | t | l (s:Nat) | x
inductive Sp where
 |d (k:DK)
 |ag (ks:List DK)
 |tup (n:Nat)
 |ptr (p n:Nat)
 |pin (p n:Nat)
 |ps (p:Nat)
 |arr (p e s:Nat)
 |mp (p t:Nat)
 |fn (f n:Nat)
 |nil
 |gone (p:Nat)
 |pinm (p t:Nat)
 |agn (n:Nat)
 |ah (p:Nat)
 |top
def DK.lt:DK->LT
 |.i _=>.I
 |.b=>.B
 |.t=>.T
 |.l _=>.L
 |.x=>.D
def QhG:List DK->List LT->List LT
 |[],r=>r
 |k::ks,r=>k.lt::QhG ks r
def lts:List Sp->List LT
 |[]=>[]
 |.d k::r=>k.lt::lts r
 |.ag ks::r=>QhG ks (lts r)
 |.arr _ _ _::r=>.L::lts r
 |.mp _ _::r=>.P::lts r
 |.tup _::r=>lts r
 |.ptr _ _::r=>lts r
 |.pin _ _::r=>lts r
 |.ps _::r=>lts r
 |.fn _ _::r=>lts r
 |.nil::r=>lts r
 |.gone _::r=>lts r
 |.pinm _ _::r=>.P::lts r
 |.agn _::r=>lts r
 |.ah _::r=>lts r
 |.top::r=>lts r
def HT:List LT->Type
 |[]=>Unit
 |[t]=>t.ty
 |t::u::ts=>t.ty × HT (u::ts)
def crT {β:Type}:(ts:List LT)->(HT ts->β)->LF ts β
 |[],k=>k ()
 |[_],k=>fun x=>k x
 |_::u::ts,k=>fun x=>crT (u::ts) fun r=>k (x,r)
def toT:(ts:List LT)->HT ts->List Lf
 |[],_=>[]
 |[t],v=>[Qae t v]
 |t::u::ts,v=>Qae t v.1::toT (u::ts) v.2
def ofT:(ts:List LT)->List Lf->Option (HT ts)
 |[],l=>match l with
  |[]=>some ()
  |_=>none
 |[t],l=>match l with
  |[x]=>Q84 t x
  |_=>none
 |t::u::ts,l=>match l with
  |x::r=>match Q84 t x,ofT (u::ts) r with
   |some a,some b=>some (a,b)
   |_,_=>none
  |_=>none
def zL:(t:LT)->t.ty
 |.I=>(0:Int)
 |.B=>false
 |.T=>([]:List UInt8)
 |.L=>([]:List (List D))
 |.R=>([]:List D)
 |.D=>D.bool false
 |.N=>(0:Nat)
 |.M=>fun _=>[]
 |.P=>fun _=>false
def zT:(ts:List LT)->HT ts
 |[]=>()
 |[t]=>zL t
 |t::u::ts=>(zL t,zT (u::ts))
theorem Q1D:∀ (ts:List LT) {l:List Lf} {v:HT ts},ofT ts l=some v->toT ts v=l
 |[],l,v,h=>by
  cases l with
  |nil=>rfl
  |cons x r=>cases h
 |[t],l,v,h=>by
  match l,h with
  |[x],h=>exact congrArg (·::[]) (Ny (t:=t) h).symm
  |[],h=>cases h
  |_::_::_,h=>cases h
 |t::u::ts,l,v,h=>by
  match l,h with
  |[],h=>cases h
  |x::r,h=>
   replace h:(match Q84 t x,ofT (u::ts) r with | some a,some b=>some (a,b) | _,_=>none)=some v:=h
   split at h
   ·rename_i a b ha hb;injection h with h
    subst h;show Qae t a::toT (u::ts) b=x::r;rw [Q1D (u::ts) hb,Ny ha]
   ·cases h
section
variable {P:Program} {R:Type}
def prD (g:Bool) (k:DK) (a:AV) (K:Lf->Option R):Option R:=
 match k with
 |.i k=>prI g k a fun x=>K (.I x)
 |.b=>prB g a fun x=>K (.B x)
 |.t=>prT g a fun x=>K (.T x)
 |.l s=>prS g s a fun x=>K (.L x)
 |.x=>none
def QdG (g:Bool):List DK->List AV->(List Lf->Option R)->Option R
 |[],l,K=>match l with
  |[]=>K []
  |_=>none
 |k::ks,l,K=>match l with
  |a::r=>prD g k a fun x=>QdG g ks r fun y=>K (x::y)
  |_=>none
def rdP (g:Bool) (hl:Nat->Option Ob):List Sp->List AV->List (Nat × Nat)->(List Lf->List (Nat × Nat)->Option R)->Option R
 |[],st,ρ,K=>match st with
  |[]=>K [] ρ
  |_=>none
 |.d k::r,st,ρ,K=>match st with
  |a::st=>prD g k a fun x=>rdP g hl r st ρ fun ls ρ'=>K (x::ls) ρ'
  |_=>none
 |.ag ks::r,st,ρ,K=>match st with
  |.ag l::st=>QdG g ks l fun xs=>rdP g hl r st ρ fun ls ρ'=>K (xs++ls) ρ'
  |_=>none
 |.ptr p n::r,st,ρ,K=>match st with
  |.ptr l o::st=>match hl l with
   |some (.box cs)=>bif Nat.beq o 0&&Nat.beq cs.length n then rdP g hl r (cs++st) (ρ++[(p,l)]) K else none
   |_=>none
  |_=>none
 |.ps p::r,st,ρ,K=>match st with
  |.ptr l o::st=>match look ρ p with
   |some l'=>bif Nat.beq o 0&&Nat.beq l l' then rdP g hl r st ρ K else none
   |none=>none
  |_=>none
 |.arr p e s::r,st,ρ,K=>match st with
  |.arr l::st=>match hl l with
   |some (.arr e' s' rows)=>bif Nat.beq e e'&&Nat.beq s s' then rdP g hl r st (ρ++[(p,l)]) fun ls ρ'=>K (.L rows::ls) ρ' else none
   |_=>none
  |_=>none
 |.mp p t::r,st,ρ,K=>match st with
  |.arr l::st=>match hl l with
   |some (.mp t' f)=>bif Nat.beq t t' then rdP g hl r st (ρ++[(p,l)]) fun ls ρ'=>K (.P f::ls) ρ' else none
   |_=>none
  |_=>none
 |.fn f n::r,st,ρ,K=>match st with
  |.fn f' l::st=>bif Nat.beq f f'&&Nat.beq l.length n then rdP g hl r (l++st) ρ K else none
  |_=>none
 |.nil::r,st,ρ,K=>match st with
  |.nil::st=>rdP g hl r st ρ K
  |_=>none
 |.tup _::_,_,_,_=>none
 |.pin _ _::_,_,_,_=>none
 |.gone _::_,_,_,_=>none
 |.pinm _ _::_,_,_,_=>none
 |.agn _::_,_,_,_=>none
 |.ah _::_,_,_,_=>none
 |.top::_,_,_,_=>none
def bdD:DK->Lf->AV
 |.i k,.I x=>.d (.int k x)
 |.b,.B x=>.d (.bool x)
 |.t,.T x=>.d (.str x)
 |.l s,.L x=>.d (.sl s x)
 |.x,.D x=>.d x
 |_,_=>.top
def Q7z:List DK->List Lf->List AV × List Lf
 |[],ls=>([],ls)
 |k::ks,ls=>match ls with
  |x::r=>(bdD k x::(Q7z ks r).1,(Q7z ks r).2)
  |[]=>(.top::(Q7z ks []).1,[])
def bdS:List Sp->List Lf->List AV × List (Nat × Ob)
 |[],_=>([],[])
 |.d k::r,ls=>match ls with
  |x::ls=>(bdD k x::(bdS r ls).1,(bdS r ls).2)
  |[]=>([],[])
 |.ag ks::r,ls=>(.ag (Q7z ks ls).1::(bdS r (Q7z ks ls).2).1,(bdS r (Q7z ks ls).2).2)
 |.tup n::r,ls=>(.tup ((bdS r ls).1.take n)::(bdS r ls).1.drop n,(bdS r ls).2)
 |.ptr p n::r,ls=>(.ptr p 0::(bdS r ls).1.drop n,(p,.box ((bdS r ls).1.take n))::(bdS r ls).2)
 |.pin p n::r,ls=>((bdS r ls).1.drop n,(p,.box ((bdS r ls).1.take n))::(bdS r ls).2)
 |.ps p::r,ls=>(.ptr p 0::(bdS r ls).1,(bdS r ls).2)
 |.arr p e s::r,ls=>match ls with
  |.L x::ls=>(.arr p::(bdS r ls).1,(p,.arr e s x)::(bdS r ls).2)
  |_=>([],[])
 |.mp p t::r,ls=>match ls with
  |.P x::ls=>(.arr p::(bdS r ls).1,(p,.mp t x)::(bdS r ls).2)
  |_=>([],[])
 |.fn f n::r,ls=>(.fn f ((bdS r ls).1.take n)::(bdS r ls).1.drop n,(bdS r ls).2)
 |.nil::r,ls=>(.nil::(bdS r ls).1,(bdS r ls).2)
 |.gone _::r,ls=>bdS r ls
 |.pinm p t::r,ls=>match ls with
  |.P x::ls=>((bdS r ls).1,(p,.mp t x)::(bdS r ls).2)
  |_=>([],[])
 |.agn n::r,ls=>(.ag ((bdS r ls).1.take n)::(bdS r ls).1.drop n,(bdS r ls).2)
 |.ah p::r,ls=>(.arr p::(bdS r ls).1,(bdS r ls).2)
 |.top::r,ls=>(.top::(bdS r ls).1,(bdS r ls).2)
def isD:AV->Bool
 |.d _=>true
 |.nil=>true
 |.ag _=>true
 |_=>false
structure SR (ρ:List (Nat × Nat)) (a b:AV):Prop where
 d:isD b=true->lf b=true/\Cl a b
 o:isD b=false->dm ρ b=true/\a=Uy ρ b
inductive SRL (ρ:List (Nat × Nat)):List AV->List AV->Prop
 |nil:SRL ρ [] []
 |cons {a b:AV} {l r:List AV} (h:SR ρ a b) (t:SRL ρ l r):SRL ρ (a::l) (b::r)
theorem SRL.length {ρ:List (Nat × Nat)} {l r:List AV} (h:SRL ρ l r):l.length=r.length:=by induction h <;> simp [*]
theorem SRL.cle {ρ:List (Nat × Nat)} {l r:List AV} (h:SRL ρ l r):CLeL ρ l r:=by
 induction h with
 |nil=>exact .nil
 |@cons a b l r h _ ih=>
  refine .cons ?_ ih;cases hd:isD b with
  |true=>exact .data (h.d hd).1 (h.d hd).2
  |false=>exact .own (h.o hd).1 (h.o hd).2
theorem SRL.split {ρ:List (Nat × Nat)}:∀ {a b c:List AV},SRL ρ (a++b) c->SRL ρ a (c.take a.length)/\SRL ρ b (c.drop a.length)
 |[],b,c,h=>⟨by simpa using SRL.nil,by simpa using h⟩
 |x::a,b,c,h=>by
  cases h with
  |cons h t=>
   obtain ⟨h1,h2⟩:=SRL.split t;exact ⟨by simpa using SRL.cons h h1,by simpa using h2⟩
theorem SRL.own {ρ:List (Nat × Nat)} {l r:List AV} (h:SRL ρ l r) (hd:r.all (fun b=>!isD b)=true):dmL ρ r=true/\l=Q2L ρ r:=by
 induction h with
 |nil=>exact ⟨rfl,rfl⟩
 |cons h _ ih=>
  simp only [List.all_cons,QiP,QiW] at hd;obtain ⟨h1,h2⟩:=h.o hd.1;obtain ⟨h3,h4⟩:=ih hd.2;exact ⟨by simp [dmL,h1,h3],by simp [Q2L,<- h2,<- h4]⟩
theorem Q1r {g:Bool} {k:DK} {a:AV} {K:Lf->Option R} {r:R} (h:prD g k a K=some r):∃ x,K x=some r/\isD (bdD k x)=true/\lf (bdD k x)=true/\(g=true->Cl a (bdD k x)):=by
 cases k with
 |i k=>obtain ⟨x,h1,h2⟩:=V9 h;exact ⟨_,h1,rfl,rfl,h2⟩
 |b=>obtain ⟨x,h1,h2⟩:=Q6b h;exact ⟨_,h1,rfl,rfl,h2⟩
 |t=>obtain ⟨x,h1,h2⟩:=Qbk h;exact ⟨_,h1,rfl,rfl,h2⟩
 |l s=>obtain ⟨x,h1,h2⟩:=Uh h;exact ⟨_,h1,rfl,rfl,h2⟩
 |x=>cases h
theorem Bv {g:Bool}:∀ {ks:List DK} {l:List AV} {K:List Lf->Option R} {r:R},QdG g ks l K=some r->∃ xs,K xs=some r/\∀ ls,(Q7z ks (xs++ls)).2=ls/\lfL (Q7z ks (xs++ls)).1=true/\(g=true->AVleL l (Q7z ks (xs++ls)).1)
 |[],l,K,r,h=>by
  cases l with
  |nil=>exact ⟨[],h,fun ls=>⟨rfl,rfl,fun _=>.nil⟩⟩
  |cons a l=>cases h
 |k::ks,l,K,r,h=>by
  cases l with
  |nil=>cases h
  |cons a l=>
   replace h:prD g k a (fun x=>QdG g ks l fun y=>K (x::y))=some r:=h
   obtain ⟨x,h,h1,h2,h3⟩:=Q1r h;obtain ⟨xs,h,h4⟩:=Bv h;refine ⟨x::xs,h,fun ls=>?_⟩;obtain ⟨h5,h6,h7⟩:=h4 ls;exact ⟨h5,by simp [Q7z,lfL,h2,h6],fun hg=>.cons (h3 hg) (h7 hg)⟩
inductive OK where
 |box (n:Nat)
 |arr (e s:Nat)
 |mp (t:Nat)
 |gone
def T7:List Sp->List (Nat × OK)
 |[]=>[]
 |.ptr p n::r=>(p,.box n)::T7 r
 |.pin p n::r=>(p,.box n)::T7 r
 |.arr p e s::r=>(p,.arr e s)::T7 r
 |.mp p t::r=>(p,.mp t)::T7 r
 |.gone p::r=>(p,.gone)::T7 r
 |.pinm p t::r=>(p,.mp t)::T7 r
 |.agn _::r=>T7 r
 |.ah _::r=>T7 r
 |.top::r=>T7 r
 |.d _::r=>T7 r
 |.ag _::r=>T7 r
 |.tup _::r=>T7 r
 |.ps _::r=>T7 r
 |.fn _ _::r=>T7 r
 |.nil::r=>T7 r
def KOb:OK->Ob->Prop
 |.box n,.box c=>c.length=n
 |.arr e s,.arr e' s' _=>e'=e/\s'=s
 |.mp t,.mp t' _=>t'=t
 |_,_=>False
def AO:List Sp->List Lf->Bool
 |[],_=>true
 |.d _::r,ls=>AO r ls.tail
 |.ag ks::r,ls=>AO r (Q7z ks ls).2
 |.arr _ _ _::r,ls=>AO r ls.tail
 |.mp _ _::r,ls=>AO r ls.tail
 |.fn _ n::r,ls=>((bdS r ls).1.take n).all (fun b=>!isD b)&&AO r ls
 |.ptr _ _::r,ls=>AO r ls
 |.pin _ _::r,ls=>AO r ls
 |.ps _::r,ls=>AO r ls
 |.tup _::r,ls=>AO r ls
 |.nil::r,ls=>AO r ls
 |.gone _::r,ls=>AO r ls
 |.pinm _ _::r,ls=>AO r ls.tail
 |.agn _::r,ls=>AO r ls
 |.ah _::r,ls=>AO r ls
 |.top::r,ls=>AO r ls
inductive HinP (ρF:List (Nat × Nat)) (hl:Nat->Option Ob):List (Nat × OK)->List (Nat × Ob)->List (Nat × Nat)->Prop
 |nil:HinP ρF hl [] [] []
 |cons {p l:Nat} {κ:OK} {o o0:Ob} {K:List (Nat × OK)} {H:List (Nat × Ob)} {ρ:List (Nat × Nat)} (h0:hl l=some o0) (h1:OLe ρF o0 o) (h2:KOb κ o) (t:HinP ρF hl K H ρ):HinP ρF hl ((p,κ)::K) ((p,o)::H) ((p,l)::ρ)
theorem Q6L {g:Bool} {hl:Nat->Option Ob}:∀ (S:List Sp) (st:List AV) (ρ:List (Nat × Nat)) (K:List Lf->List (Nat × Nat)->Option R) (r:R),rdP g hl S st ρ K=some r ->
  ∃ ls ρ',K ls (ρ++ρ')=some r/\(ρ'.map (·.1)=(T7 S).map (·.1))/\(g=true->AO S ls=true->∀ ρF,(∀ p l,(p,l)∈ρ++ρ'->look ρF p=some l)->SRL ρF st (bdS S ls).1/\HinP ρF hl (T7 S) (bdS S ls).2 ρ'):=by
 intro S;induction S with
 |nil=>
  intro st ρ K r h;cases st with
  |nil=>exact ⟨[],[],by rw [List.append_nil];exact h,rfl,fun _ _ ρF _=>⟨.nil,.nil⟩⟩
  |cons a st=>cases h
 |cons s S ih=>
  intro st ρ K r h;cases s with
  |d k=>
   cases st with
   |nil=>cases h
   |cons a st=>
    replace h:prD g k a (fun x=>rdP g hl S st ρ fun ls ρ'=>K (x::ls) ρ')=some r:=h
    obtain ⟨x,h,h1,h2,h3⟩:=Q1r h;obtain ⟨ls,ρ',h,hk,hc⟩:=ih st ρ _ r h;refine ⟨x::ls,ρ',h,hk,fun hg hf ρF hρ=>?_⟩;obtain ⟨c1,c2⟩:=hc hg hf ρF hρ;exact ⟨.cons ⟨fun _=>⟨h2,h3 hg⟩,fun e=>(by rw [h1] at e;cases e)⟩ c1,c2⟩
  |ag ks=>
   match st,h with
   |.ag l::st,h=>
    replace h:QdG g ks l (fun xs=>rdP g hl S st ρ fun ls ρ'=>K (xs++ls) ρ')=some r:=h
    obtain ⟨xs,h,hx⟩:=Bv h;obtain ⟨ls,ρ',h,hk,hc⟩:=ih st ρ _ r h;obtain ⟨x1,x2,x3⟩:=hx ls;refine ⟨xs++ls,ρ',h,hk,fun hg hf ρF hρ=>?_⟩;simp only [AO,x1] at hf;obtain ⟨c1,c2⟩:=hc hg hf ρF hρ;simp only [bdS,x1];exact ⟨.cons ⟨fun _=>⟨x2,.ag (x3 hg)⟩,fun e=>(by cases e)⟩ c1,c2⟩
  |ptr p n=>
   match st,h with
   |.ptr l o::st,h=>
    simp only [rdP] at h;split at h
    ·rename_i cs ay;obtain ⟨hb,h'⟩:=Qz h;simp only [QiP] at hb;have ho:=QiO hb.1;have hn:=QiO hb.2;subst ho hn;obtain ⟨ls,ρ',h,hk,hc⟩:=ih (cs++st) (ρ++[(p,l)]) _ r h';rw [List.append_assoc] at h;refine ⟨ls,(p,l)::ρ',h,by simp [T7,hk],fun hg hf ρF hρ=>?_⟩;obtain ⟨c1,c2⟩:=hc hg hf ρF (fun a b hm=>hρ a b (by simpa using hm));obtain ⟨d1,d2⟩:=c1.split;have aj:=hρ p l (by simp);refine ⟨.cons ⟨fun e=>(by cases e),fun _=>⟨by simp [dm,aj],by simp [Uy,aj]⟩⟩ d2,.cons ay (.box d1.cle) ?_ c2⟩;exact d1.length.symm
    ·cases h
  |ps p=>
   match st,h with
   |.ptr l o::st,h=>
    simp only [rdP] at h;split at h
    ·rename_i l' aj;obtain ⟨hb,h'⟩:=Qz h;simp only [QiP] at hb;have ho:=QiO hb.1;have hn:=QiO hb.2;subst ho hn;obtain ⟨ls,ρ',h,hk,hc⟩:=ih st ρ _ r h';refine ⟨ls,ρ',h,hk,fun hg hf ρF hρ=>?_⟩;obtain ⟨c1,c2⟩:=hc hg hf ρF hρ;have au:=hρ p l (Qjc _ (YR aj));exact ⟨.cons ⟨fun e=>(by cases e),fun _=>⟨by simp [dm,au],by simp [Uy,au]⟩⟩ c1,c2⟩
    ·cases h
  |arr p e s=>
   match st,h with
   |.arr l::st,h=>
    simp only [rdP] at h;split at h
    ·rename_i e' s' rows ar;obtain ⟨hb,h'⟩:=Qz h;simp only [QiP] at hb;have ho:=QiO hb.1;have hn:=QiO hb.2;subst ho hn;obtain ⟨ls,ρ',h,hk,hc⟩:=ih st (ρ++[(p,l)]) _ r h';rw [List.append_assoc] at h;refine ⟨.L rows::ls,(p,l)::ρ',h,by simp [T7,hk],fun hg hf ρF hρ=>?_⟩;obtain ⟨c1,c2⟩:=hc hg hf ρF (fun a b hm=>hρ a b (by simpa using hm));have aj:=hρ p l (by simp);exact ⟨.cons ⟨fun e=>(by cases e),fun _=>⟨by simp [dm,aj],by simp [Uy,aj]⟩⟩ c1,.cons ar (.arr _ _ _) ⟨rfl,rfl⟩ c2⟩
    ·cases h
  |mp p t=>
   match st,h with
   |.arr l::st,h=>
    simp only [rdP] at h;split at h
    ·rename_i t' f ax;obtain ⟨hb,h'⟩:=Qz h;have ho:=QiO hb;subst ho;obtain ⟨ls,ρ',h,hk,hc⟩:=ih st (ρ++[(p,l)]) _ r h';rw [List.append_assoc] at h;refine ⟨.P f::ls,(p,l)::ρ',h,by simp [T7,hk],fun hg hf ρF hρ=>?_⟩;obtain ⟨c1,c2⟩:=hc hg hf ρF (fun a b hm=>hρ a b (by simpa using hm));have aj:=hρ p l (by simp);exact ⟨.cons ⟨fun e=>(by cases e),fun _=>⟨by simp [dm,aj],by simp [Uy,aj]⟩⟩ c1,.cons ax (.mp _ _) rfl c2⟩
    ·cases h
  |fn f n=>
   match st,h with
   |.fn f' l::st,h=>
    simp only [rdP] at h;obtain ⟨hb,h'⟩:=Qz h;simp only [QiP] at hb;have ho:=QiO hb.1;have hn:=QiO hb.2;subst ho hn;obtain ⟨ls,ρ',h,hk,hc⟩:=ih (l++st) ρ _ r h';refine ⟨ls,ρ',h,hk,fun hg hf ρF hρ=>?_⟩;simp only [AO,QiP] at hf;obtain ⟨c1,c2⟩:=hc hg hf.2 ρF hρ;obtain ⟨d1,d2⟩:=c1.split;obtain ⟨e1,e2⟩:=d1.own hf.1;exact ⟨.cons ⟨fun e=>(by cases e),fun _=>⟨by simpa [dm] using e1,by simp [Uy,<- e2]⟩⟩ d2,c2⟩
  |nil=>
   match st,h with
   |.nil::st,h=>
    obtain ⟨ls,ρ',h,hk,hc⟩:=ih st ρ _ r h;refine ⟨ls,ρ',h,hk,fun hg hf ρF hρ=>?_⟩;obtain ⟨c1,c2⟩:=hc hg hf ρF hρ;exact ⟨.cons ⟨fun _=>⟨rfl,.refl _⟩,fun e=>(by cases e)⟩ c1,c2⟩
  |tup n=>cases h
  |pin p n=>cases h
  |gone p=>cases h
  |pinm p t=>cases h
  |agn n=>cases h
  |ah p=>cases h
  |top=>cases h
def Rh:List Sp->Bool
 |[]=>true
 |.d _::r=>Rh r
 |.ag _::r=>Rh r
 |.nil::r=>Rh r
 |_=>false
theorem Qcq {g:Bool} {hl:Nat->Option Ob}:∀ (S:List Sp) (st:List AV) (ρ:List (Nat × Nat)) (K:List Lf->List (Nat × Nat)->Option R) (r:R),Rh S=true->rdP g hl S st ρ K=some r ->
  ∃ ls,K ls ρ=some r/\(g=true->lfL (bdS S ls).1=true/\AVleL st (bdS S ls).1):=by
 intro S;induction S with
 |nil=>
  intro st ρ K r _ h;cases st with
  |nil=>exact ⟨[],h,fun _=>⟨rfl,.nil⟩⟩
  |cons a st=>cases h
 |cons s S ih=>
  intro st ρ K r hd h;cases s with
  |d k=>
   cases st with
   |nil=>cases h
   |cons a st=>
    replace h:prD g k a (fun x=>rdP g hl S st ρ fun ls ρ'=>K (x::ls) ρ')=some r:=h
    obtain ⟨x,h,_,h2,h3⟩:=Q1r h;obtain ⟨ls,h,hc⟩:=ih st ρ _ r hd h;refine ⟨x::ls,h,fun hg=>?_⟩;obtain ⟨c1,c2⟩:=hc hg;exact ⟨by simp [bdS,lfL,h2,c1],.cons (h3 hg) c2⟩
  |ag ks=>
   match st,h with
   |.ag l::st,h=>
    replace h:QdG g ks l (fun xs=>rdP g hl S st ρ fun ls ρ'=>K (xs++ls) ρ')=some r:=h
    obtain ⟨xs,h,hx⟩:=Bv h;obtain ⟨ls,h,hc⟩:=ih st ρ _ r hd h;obtain ⟨x1,x2,x3⟩:=hx ls;refine ⟨xs++ls,h,fun hg=>?_⟩;obtain ⟨c1,c2⟩:=hc hg;simp only [bdS,x1];exact ⟨by simp [lfL,lf,x2,c1],.cons (.ag (x3 hg)) c2⟩
  |nil=>
   match st,h with
   |.nil::st,h=>
    obtain ⟨ls,h,hc⟩:=ih st ρ _ r hd h;refine ⟨ls,h,fun hg=>?_⟩;obtain ⟨c1,c2⟩:=hc hg;exact ⟨by simp [bdS,lfL,lf,c1],.cons (.refl _) c2⟩
  |_=>cases hd
def exD:DK->AV->Option Lf
 |.i k,.d (.int k' x)=>oB (k == k') (.I x)
 |.b,.d (.bool x)=>some (.B x)
 |.t,.d (.str x)=>some (.T x)
 |.l s,.d (.sl s' x)=>oB (Nat.beq s s') (.L x)
 |.x,.d x=>some (.D x)
 |_,_=>none
def QdP:List DK->List AV->Option (List Lf)
 |[],l=>match l with
  |[]=>some []
  |_=>none
 |k::ks,l=>match l with
  |a::r=>match exD k a,QdP ks r with
   |some x,some xs=>some (x::xs)
   |_,_=>none
  |_=>none
theorem Q6g {k:DK} {a:AV} {x:Lf} (h:exD k a=some x):bdD k x=a:=by
 cases k <;> cases a <;> try (simp only [exD,reduceCtorEq] at h;done)
 case i.d k d=>
  cases d <;> try (simp only [exD,reduceCtorEq] at h;done)
  simp only [exD] at h;obtain ⟨h1,rfl⟩:=J5 h;rw [<- eq_of_beq h1];rfl
 case b.d d=>
  cases d <;> try (simp only [exD,reduceCtorEq] at h;done)
  simp only [exD,Option.some.injEq] at h;subst h;rfl
 case t.d d=>
  cases d <;> try (simp only [exD,reduceCtorEq] at h;done)
  simp only [exD,Option.some.injEq] at h;subst h;rfl
 case l.d s d=>
  cases d <;> try (simp only [exD,reduceCtorEq] at h;done)
  simp only [exD] at h;obtain ⟨h1,rfl⟩:=J5 h;rw [<- QiO h1];rfl
 case x.d d=>simp only [exD,Option.some.injEq] at h;subst h;rfl
theorem Q3c:∀ {ks:List DK} {l:List AV} {xs:List Lf},QdP ks l=some xs->∀ ls,Q7z ks (xs++ls)=(l,ls)
 |[],l,xs,h,ls=>by
  cases l with
  |nil=>injection h with h;subst h;rfl
  |cons a l=>cases h
 |k::ks,l,xs,h,ls=>by
  cases l with
  |nil=>cases h
  |cons a l=>
   replace h:(match exD k a,QdP ks l with | some x,some xs=>some (x::xs) | _,_=>none)=some xs:=h
   split at h
   ·rename_i x ys hx hy;injection h with h
    subst h;simp [Q7z,Q6g hx,Q3c hy ls]
   ·cases h
def Q5z (a:Option Lf) (b:Option (List Lf)):Option (List Lf):=match a,b with
 |some x,some r=>some (x::r)
 |_,_=>none
def QfX (a b:Option (List Lf)):Option (List Lf):=match a,b with
 |some x,some r=>some (x++r)
 |_,_=>none
theorem Ms {a:Option Lf} {b:Option (List Lf)} {l:List Lf} (h:Q5z a b=some l):∃ x r,a=some x/\b=some r/\l=x::r:=by
 cases a <;> cases b <;> simp [Q5z] at h;exact ⟨_,_,rfl,rfl,h.symm⟩
theorem Q8k {a b:Option (List Lf)} {l:List Lf} (h:QfX a b=some l):∃ x r,a=some x/\b=some r/\l=x++r:=by
 cases a <;> cases b <;> simp [QfX] at h;exact ⟨_,_,rfl,rfl,h.symm⟩
def rdR (H:Nat->Option Ob):List Sp->List AV->Option (List Lf)
 |[],st=>match st with
  |[]=>some []
  |_=>none
 |.d k::r,st=>match st with
  |a::st=>Q5z (exD k a) (rdR H r st)
  |_=>none
 |.ag ks::r,st=>match st with
  |.ag l::st=>QfX (QdP ks l) (rdR H r st)
  |_=>none
 |.tup n::r,st=>match st with
  |.tup l::st=>bif Nat.beq l.length n then rdR H r (l++st) else none
  |_=>none
 |.ptr p n::r,st=>match st with
  |.ptr l o::st=>match H p with
   |some (.box cs)=>bif Nat.beq l p&&(Nat.beq o 0&&Nat.beq cs.length n) then rdR H r (cs++st) else none
   |_=>none
  |_=>none
 |.pin p n::r,st=>match H p with
  |some (.box cs)=>bif Nat.beq cs.length n then rdR H r (cs++st) else none
  |_=>none
 |.ps p::r,st=>match st with
  |.ptr l o::st=>bif Nat.beq l p&&Nat.beq o 0 then rdR H r st else none
  |_=>none
 |.arr p e s::r,st=>match st with
  |.arr l::st=>match H p with
   |some (.arr e' s' rows)=>bif Nat.beq l p&&(Nat.beq e e'&&Nat.beq s s') then Q5z (some (.L rows)) (rdR H r st) else none
   |_=>none
  |_=>none
 |.mp p t::r,st=>match st with
  |.arr l::st=>match H p with
   |some (.mp t' f)=>bif Nat.beq l p&&Nat.beq t t' then Q5z (some (.P f)) (rdR H r st) else none
   |_=>none
  |_=>none
 |.fn f n::r,st=>match st with
  |.fn f' l::st=>bif Nat.beq f f'&&Nat.beq l.length n then rdR H r (l++st) else none
  |_=>none
 |.nil::r,st=>match st with
  |.nil::st=>rdR H r st
  |_=>none
 |.gone p::r,st=>match H p with
  |none=>rdR H r st
  |_=>none
 |.pinm p t::r,st=>match H p with
  |some (.mp t' f)=>bif Nat.beq t t' then Q5z (some (.P f)) (rdR H r st) else none
  |_=>none
 |.agn n::r,st=>match st with
  |.ag l::st=>bif Nat.beq l.length n then rdR H r (l++st) else none
  |_=>none
 |.ah p::r,st=>match st with
  |.arr l::st=>bif Nat.beq l p then rdR H r st else none
  |_=>none
 |.top::r,st=>match st with
  |.top::st=>rdR H r st
  |_=>none
inductive RPr (Hf:Nat->Option Ob):List (Nat × OK)->List (Nat × Ob)->Prop
 |nil:RPr Hf [] []
 |gone {p:Nat} {K:List (Nat × OK)} {H:List (Nat × Ob)} (h:Hf p=none) (t:RPr Hf K H):RPr Hf ((p,.gone)::K) H
 |cons {p:Nat} {κ:OK} {o:Ob} {K:List (Nat × OK)} {H:List (Nat × Ob)} (h:Hf p=some o) (hk:KOb κ o) (t:RPr Hf K H):RPr Hf ((p,κ)::K) ((p,o)::H)
theorem FE {α:Type} {a b c:List α} (h:c=a++b) {n:Nat} (hn:a.length=n):c.take n=a/\c.drop n=b:=by
 subst h hn;simp
theorem Q6a {H:Nat->Option Ob}:∀ (S:List Sp) (st:List AV) (ls:List Lf),rdR H S st=some ls->(bdS S ls).1=st/\RPr H (T7 S) (bdS S ls).2:=by
 intro S;induction S with
 |nil=>
  intro st ls h;cases st with
  |nil=>injection h with h;subst h;exact ⟨rfl,.nil⟩
  |cons a st=>cases h
 |cons s S ih=>
  intro st ls h;cases s with
  |d k=>
   cases st with
   |nil=>cases h
   |cons a st=>
    obtain ⟨x,r,h1,h2,rfl⟩:=Ms (show Q5z (exD k a) (rdR H S st)=some ls from h);obtain ⟨i1,i2⟩:=ih st r h2;exact ⟨by simp [bdS,Q6g h1,i1],i2⟩
  |ag ks=>
   match st,h with
   |.ag l::st,h=>
    obtain ⟨x,r,h1,h2,rfl⟩:=Q8k (show QfX (QdP ks l) (rdR H S st)=some ls from h);obtain ⟨i1,i2⟩:=ih st r h2;have:=Q3c h1 r;exact ⟨by simp [bdS,this,i1],by simpa [bdS,T7,this] using i2⟩
  |tup n=>
   match st,h with
   |.tup l::st,h=>
    obtain ⟨hb,h2⟩:=Qz (show (bif Nat.beq l.length n then rdR H S (l++st) else none)=some ls from h);obtain ⟨i1,i2⟩:=ih _ _ h2;obtain ⟨j1,j2⟩:=FE i1 (QiO hb);exact ⟨by simp [bdS,j1,j2],i2⟩
  |ptr p n=>
   match st,h with
   |.ptr l o::st,h=>
    simp only [rdR] at h;split at h
    ·rename_i cs an;obtain ⟨hb,h2⟩:=Qz h;simp only [QiP] at hb;obtain ⟨i1,i2⟩:=ih _ _ h2;have hn:=QiO hb.2.2;obtain ⟨j1,j2⟩:=FE i1 hn;refine ⟨by simp [bdS,j2,QiO hb.1,QiO hb.2.1],?_⟩;simp only [bdS,T7,j1];exact .cons an hn i2
    ·cases h
  |pin p n=>
   simp only [rdR] at h;split at h
   ·rename_i cs an;obtain ⟨hb,h2⟩:=Qz h;obtain ⟨i1,i2⟩:=ih _ _ h2;have hn:=QiO hb;obtain ⟨j1,j2⟩:=FE i1 hn;refine ⟨by simp [bdS,j2],?_⟩;simp only [bdS,T7,j1];exact .cons an hn i2
   ·cases h
  |ps p=>
   match st,h with
   |.ptr l o::st,h=>
    obtain ⟨hb,h2⟩:=Qz (show (bif Nat.beq l p&&Nat.beq o 0 then rdR H S st else none)=some ls from h);simp only [QiP] at hb;obtain ⟨i1,i2⟩:=ih _ _ h2;exact ⟨by simp [bdS,i1,QiO hb.1,QiO hb.2],i2⟩
  |arr p e s=>
   match st,h with
   |.arr l::st,h=>
    simp only [rdR] at h;split at h
    ·rename_i e' s' rows al;obtain ⟨hb,h2⟩:=Qz h;simp only [QiP] at hb;obtain ⟨x,r,h1,h3,rfl⟩:=Ms h2;injection h1 with h1
     subst h1;obtain ⟨i1,i2⟩:=ih _ _ h3;have e1:=QiO hb.2.1;have e2:=QiO hb.2.2;subst e1 e2;exact ⟨by simp [bdS,i1,QiO hb.1],.cons al ⟨rfl,rfl⟩ i2⟩
    ·cases h
  |mp p t=>
   match st,h with
   |.arr l::st,h=>
    simp only [rdR] at h;split at h
    ·rename_i t' f hf;obtain ⟨hb,h2⟩:=Qz h;simp only [QiP] at hb;obtain ⟨x,r,h1,h3,rfl⟩:=Ms h2;injection h1 with h1
     subst h1;obtain ⟨i1,i2⟩:=ih _ _ h3;have e1:=QiO hb.2;subst e1;exact ⟨by simp [bdS,i1,QiO hb.1],.cons hf rfl i2⟩
    ·cases h
  |fn f n=>
   match st,h with
   |.fn f' l::st,h=>
    obtain ⟨hb,h2⟩:=Qz (show (bif Nat.beq f f'&&Nat.beq l.length n then rdR H S (l++st) else none)=some ls from h);simp only [QiP] at hb;obtain ⟨i1,i2⟩:=ih _ _ h2;obtain ⟨j1,j2⟩:=FE i1 (QiO hb.2);exact ⟨by simp [bdS,j1,j2,QiO hb.1],i2⟩
  |nil=>
   match st,h with
   |.nil::st,h=>
    obtain ⟨i1,i2⟩:=ih _ _ (show rdR H S st=some ls from h);exact ⟨by simp [bdS,i1],i2⟩
  |gone p=>
   simp only [rdR] at h;split at h
   ·rename_i hp;obtain ⟨i1,i2⟩:=ih _ _ h;exact ⟨i1,.gone hp i2⟩
   ·cases h
  |pinm p t=>
   simp only [rdR] at h;split at h
   ·rename_i t' f hf;obtain ⟨hb,h2⟩:=Qz h;obtain ⟨x,r,h1,h3,rfl⟩:=Ms h2;injection h1 with h1
    subst h1;obtain ⟨i1,i2⟩:=ih _ _ h3;have e1:=QiO hb;subst e1;exact ⟨i1,.cons hf rfl i2⟩
   ·cases h
  |agn n=>
   match st,h with
   |.ag l::st,h=>
    obtain ⟨hb,h2⟩:=Qz (show (bif Nat.beq l.length n then rdR H S (l++st) else none)=some ls from h);obtain ⟨i1,i2⟩:=ih _ _ h2;obtain ⟨j1,j2⟩:=FE i1 (QiO hb);exact ⟨by simp [bdS,j1,j2],i2⟩
  |ah p=>
   match st,h with
   |.arr l::st,h=>
    obtain ⟨hb,h2⟩:=Qz (show (bif Nat.beq l p then rdR H S st else none)=some ls from h);obtain ⟨i1,i2⟩:=ih _ _ h2;exact ⟨by simp [bdS,i1,QiO hb],i2⟩
  |top=>
   match st,h with
   |.top::st,h=>
    obtain ⟨i1,i2⟩:=ih _ _ (show rdR H S st=some ls from h);exact ⟨by simp [bdS,i1],i2⟩
theorem RPr.keys {Hf:Nat->Option Ob} {K:List (Nat × OK)} {H:List (Nat × Ob)} (h:RPr Hf K H) {p:Nat} (hp:S6 p (K.map (·.1))=false):look H p=none:=by
 induction h with
 |nil=>rfl
 |gone h _ ih=>simp only [QiY,S6,Qj0] at hp;exact ih hp.2
 |cons h _ _ ih=>
  simp only [QiY,S6,Qj0] at hp;simp [look,hp.1,ih hp.2]
theorem Q5h {α:Type} {p:Nat} {κ:α}:∀ {K:List (Nat × α)},(p,κ)∈K->S6 p (K.map (·.1))=true
 |(q,_)::K,h=>by
  rcases QiU.1 h with h | h
  ·injection h with h _;simp [S6,h,Qje]
  ·simp [S6,Q5h h]
theorem RPr.at {Hf:Nat->Option Ob} {K:List (Nat × OK)} {H:List (Nat × Ob)} (h:RPr Hf K H) (hn:Xj (K.map (·.1))=true) {p:Nat} {κ:OK} (hm:(p,κ)∈K) :
  look H p=Hf p/\((κ = .gone/\Hf p=none)\/∃ o,Hf p=some o/\KOb κ o):=by
 induction h with
 |nil=>cases hm
 |@gone q K H h t ih=>
  simp only [QiY,Xj,QiP,QiW] at hn;rcases QiU.1 hm with e | hm
  ·injection e with e1 e2
   subst e1 e2;exact ⟨(t.keys hn.1).trans h.symm,.inl ⟨rfl,h⟩⟩
  ·exact ih hn.2 hm
 |@cons q κ' o K H h hk t ih=>
  simp only [QiY,Xj,QiP,QiW] at hn;rcases QiU.1 hm with e | hm
  ·injection e with e1 e2
   subst e1 e2;exact ⟨by simp [look,Qje,h],.inr ⟨o,h,hk⟩⟩
  ·obtain ⟨i1,i2⟩:=ih hn.2 hm;refine ⟨?_,i2⟩;have:Nat.beq q p=false:=QcQ fun e=>by
    subst e;rw [Q5h hm] at hn;cases hn.1
   simp [look,this,i1]
theorem HinP.map1 {ρF:List (Nat × Nat)} {hl:Nat->Option Ob} {K:List (Nat × OK)} {H:List (Nat × Ob)} {ρ:List (Nat × Nat)} (h:HinP ρF hl K H ρ):H.map (·.1)=ρ.map (·.1)/\K.map (·.1)=ρ.map (·.1):=by
 induction h with
 |nil=>exact ⟨rfl,rfl⟩
 |cons _ _ _ _ ih=>simp [ih.1,ih.2]
theorem HinP.at {ρF:List (Nat × Nat)} {hl:Nat->Option Ob} {K:List (Nat × OK)} {H:List (Nat × Ob)} {ρ:List (Nat × Nat)} (h:HinP ρF hl K H ρ) (hn:Xj (ρ.map (·.1))=true) {p l:Nat} (hm:(p,l)∈ρ) :
  ∃ κ o o0,(p,κ)∈K/\look H p=some o/\hl l=some o0/\OLe ρF o0 o/\KOb κ o:=by
 induction h with
 |nil=>cases hm
 |@cons q l' κ o o0 K H ρ h0 h1 h2 t ih=>
  simp only [QiY,Xj,QiP,QiW] at hn;rcases QiU.1 hm with e | hm
  ·injection e with e1 e2
   subst e1 e2;exact ⟨κ,o,o0,Qj6 ..,by simp [look,Qje],h0,h1,h2⟩
  ·obtain ⟨κ',o',aj,g1,g2,g3⟩:=ih hn.2 hm;refine ⟨κ',o',aj,Qj1 _ g1,?_,g3⟩;have:Nat.beq q p=false:=QcQ fun e=>by
    subst e;rw [Q5h hm] at hn;cases hn.1
   simp [look,this,g2]
def kE (RS:List Sp):AV->Option (HT (lts RS)):=fun av=>match rdR (fun _=>none) RS [av] with
 |some ls=>ofT _ ls
 |none=>none
def kG (RS:List Sp):AV->List (Nat × Ob)->Option (HT (lts RS)):=fun av H=>match rdR (look H) RS [av] with
 |some ls=>ofT _ ls
 |none=>none
def Qi0 (S RS:List Sp) (f:LF (lts S) (Option (HT (lts RS)))):Kf:=fun _ _ g ac hl k=>
 rdP g hl S ac [] fun ls _=>gb g (apL (lts S) f ls) (zT _) fun r=>k ⟨(bdS RS (toT _ r)).1.headD .top,[],[]⟩
def nus (ac:Nat):Nat->List Nat->List (Nat × Nat)
 |_,[]=>[]
 |i,m::r=>(m,ac+50000*i)::nus ac (i+1) r
structure EnP (P:Program) (f:Nat) where
 E:Kf
 ok:Uo P f E
theorem Qdr {C:VC} (hC:VCOk P C) (T:List (LpE P)) {f:Nat} (fn:Func) (ss:List (List Nat)) (S RS:List Sp) (p:LF (lts S) (Option (HT (lts RS))))
  (h : ∀ v, vfnT C T fn (bdS S (toL _ v)).1 [] (retF ss (kE RS)) = apH _ p v) (hd : Rh S = true) (hf : P.funcs[f]? = some fn) (hb : fn.body.isSome = true) (hn : (fn.name == "runtime.NumGoroutine") = false)
  (hT:MU T (Ur (Jc fn))=T.map fun e=>(e.r,e.c)) (hn2:Xj (T.map (·.r))=true):Uo P f (Qi0 S RS p):=by
 intro R site g avs hl k r h0;obtain ⟨ls,h1,hc⟩:=Qcq S avs [] _ r hd h0;obtain ⟨res,h1,hres⟩:=Qm h1;refine ⟨_,h1,fun hg=>?_⟩;obtain ⟨v,hv,rfl⟩:=Fs _ _ _ _ (hres hg);obtain ⟨c1,c2⟩:=hc hg;refine Wn.conv c2 (QaV (K:=kE RS) hC T (fn:=fn) (ss:=ss) ((h v).trans hv) (fun x hx=>?_) hf hb hn c1 hT hn2)
 unfold kE at hx;split at hx
 ·rename_i ls' hls;obtain ⟨i1,_⟩:=Q6a _ _ _ hls;rw [Q1D _ hx,i1];rfl
 ·cases hx
theorem CU (ac:Nat):∀ (i:Nat) (ν:List Nat),(nus ac i ν).map (·.1)=ν
 |_,[]=>rfl
 |i,m::r=>by simp [nus,CU ac (i+1) r]
theorem F7 {α:Type} {p:Nat}:∀ {K:List (Nat × α)},S6 p (K.map (·.1))=true->∃ κ,(p,κ)∈K
 |(q,κ)::K,h=>by
  simp only [QiY,S6,Qj3] at h;rcases h with h | h
  ·exact ⟨κ,by rw [QiO h];exact Qj6 ..⟩
  ·obtain ⟨κ',hk⟩:=F7 h;exact ⟨κ',Qj1 _ hk⟩
def Qe7:OK->Bool
 |.gone=>true
 |_=>false
def QhK:OK->OK->Bool
 |.box n,.box m=>Nat.beq m n
 |.arr _ _,.gone=>true
 |.mp t,.mp t'=>Nat.beq t t'
 |.mp _,.gone=>true
 |_,_=>false
def Q46 (S RS:List Sp) (ν:List Nat):Bool:=
 Xj ((T7 S).map (·.1)++ν)&&(Xj ((T7 S).map (·.1))&&((T7 S).all (fun x=>Nat.ble 1000000 x.1)&&(Xj ((T7 RS).map (·.1)) &&
  ((T7 S).all (fun x=>S6 x.1 ((T7 RS).map (·.1))&&(T7 RS).all fun y=>!(Nat.beq y.1 x.1)||QhK x.2 y.2)&&ν.all (fun m=>S6 m ((T7 RS).map (·.1))&&(T7 RS).all fun y=>!(Nat.beq y.1 m)||!(Qe7 y.2))))))
theorem Ar {σ:List (Nat × Nat)} {H H':List (Nat × Ob)}:∀ {τ:List (Nat × Nat)},(∀ j l,(j,l)∈τ->look H j=look H' j)->HN σ H τ=HN σ H' τ
 |[],_=>rfl
 |(j,l)::r,h=>by
  simp only [HN];rw [h j l (Qj6 ..),Ar fun a b hm=>h a b (Qj1 _ hm)]
theorem Q9D {H:List (Nat × Ob)}:∀ {τ:List (Nat × Nat)},(∀ j l,(j,l)∈τ->(look H j).isSome=true)->Qbw H τ
 |[],_=>trivial
 |(j,l)::r,h=>⟨h j l (Qj6 ..),Q9D fun a b hm=>h a b (Qj1 _ hm)⟩
theorem Q8a {H H':List (Nat × Ob)}:∀ {τ:List (Nat × Nat)},(∀ j l,(j,l)∈τ->Q2b (look H j) (look H' j))->Qf5 H H' τ
 |[],_=>trivial
 |(j,l)::r,h=>⟨h j l (Qj6 ..),Q8a fun a b hm=>h a b (Qj1 _ hm)⟩
theorem Q89 {ρ0:List (Nat × Nat)} {hl:Nat->Option Ob} {H:List (Nat × Ob)}:∀ {τ:List (Nat × Nat)},(∀ j l,(j,l)∈τ->1000000<=j/\∃ o o',hl l=some o/\look H j=some o'/\OLe ρ0 o o')->QeR ρ0 hl H τ
 |[],_=>trivial
 |(j,l)::r,h=>⟨h j l (Qj6 ..),Q89 fun a b hm=>h a b (Qj1 _ hm)⟩
def Qid {f:Nat} (b:EnP P f):EnP P f where
 E:=fun R ac g aj hl k=>match aj with
  |[.gd _ _ .nil]=>bif g then none else k ⟨.nil,[],[]⟩
  |_=>b.E R ac g aj hl k
 ok:=by
  intro R ac g aj hl k r h;dsimp only at h;split at h
  ·exact JN h
  ·exact b.ok R ac g aj hl k r h
end
abbrev qI:DK:=.i .i64
abbrev qB:DK:=.b
abbrev qT:DK:=.t
abbrev qX:DK:=.x
abbrev qL (n:Nat):DK:=.l n
abbrev eA (l:List DK):Sp:=.ag l
abbrev eP (p n:Nat):Sp:=.ptr p n
abbrev eS (p:Nat):Sp:=.ps p
abbrev eR (p e s:Nat):Sp:=.arr p e s
abbrev eM (p t:Nat):Sp:=.mp p t
abbrev eF (f n:Nat):Sp:=.fn f n
abbrev eN:Sp:=.nil
abbrev eU:Sp:=.top
abbrev eT (n:Nat):Sp:=.tup n
abbrev eH (p:Nat):Sp:=.ah p
abbrev eO (n:Nat):Sp:=.agn n
abbrev sI:Sp:=.d (.i .i64)
abbrev sB:Sp:=.d .b
abbrev sT:Sp:=.d .t
abbrev sL (n:Nat):Sp:=.d (.l n)

end Go.Vx
