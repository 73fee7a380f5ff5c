/- Part of a proof. No conditions of their own. -/
import Derived.Test.YtekmjonablebcaaGreatTA
import Derived.Lib.AppendZeros
import Derived.LoopN
import Derived.ProofKit
import Derived.ChangeOld
import Derived.Carry
import Derived.ChangeArms
import Derived.WideShapes
import Derived.IntWalk
import Derived.KernelRfl
set_option linter.unusedVariables false
set_option linter.unusedSimpArgs false
noncomputable section
abbrev Qq3:=@Nat.eq_of_beq_eq_true
abbrev Qq4:=@Bool.and_eq_true
abbrev Qq5:=@Option.map_eq_some_iff
abbrev Qq6:=@Go.Result.andThen_ok
abbrev Qq7:=@List.getElem?_eq_some_iff
abbrev Qq8:=@cond_true
abbrev Qq9:=@List.getElem?_eq_getElem
abbrev Qqa:=@Go.Sem.run_bind
abbrev Qqb:=@List.mem_cons
abbrev Qqc:=@Bool.not_eq_true'
abbrev Qqd:=@Array.getElem?_eq_some_iff
abbrev Qqe:=@List.getElem?_drop
abbrev Qqf:=@Nat.zero_add
abbrev Qqg:=@Array.getElem?_eq_getElem
abbrev Qqh:=@List.map_cons
abbrev Qqi:=@Bool.or_eq_true
abbrev Qqj:=@if_neg
abbrev Qqk:=@Option.isSome_iff_exists
abbrev Qql:=@cond_false
abbrev Qqm:=@List.eq_nil_of_length_eq_zero
abbrev Qqn:=@Option.getD_some
abbrev Qqo:=@Bool.or_eq_false_iff
abbrev Qqp:=@List.mem_map
abbrev Qqq:=@Array.getElem?_toList
abbrev Qqr:=@if_pos
abbrev Qqs:=@List.getElem?_eq_none
abbrev Qqt:=@Nat.le_of_ble_eq_true
abbrev Qqu:=@Option.map_none
namespace Go.Vx
variable{hl:Nat->oP Ob} {ev:Operand->AV} {o:Oper} {t:TypeId}
section
variable{P:Program} {E:Env} {R:Type}
theorem Q6d{s:Y UInt8}{n b:Int}(h:Zo s n=some b):0<=n/\∃aa:n.toNat<s.length,b=((s[n.toNat]' aa).toNat:Int):=by
 grind[Zo]
theorem Q8W{tt:TT}(hT:TOk P tt){x i:Operand}(ho:o.op = .index t x i){g:Bool}{k:Dl->oP R}{r:R}(h:Qby tt g t (ev x) (ev i) k=some r):∃dl,k dl=some r/\(g=true->K2 P E o ev hl dl):=by
 have aa:x∈o.op.operands.toList:=by grind[Op.operands]
 have ai:i∈o.op.operands.toList:=by simp[ho,Op.operands]
 unfold Qby at h;split at h
 case h_2=>cases h
 rename_i s ik n hk hex ak;obtain⟨ti,aj,ac⟩:=Xv hk Q2;have hu:=(hT t ti aj).kstr ac;obtain⟨b,h,hp⟩:=Qz h;refine⟨_,h,λhg=>QB λβ S st a w hR hO hA=>?_⟩;obtain⟨bs,hs,hx⟩:=(hex▸hO.at aa).str_inv;have hi:=(ak▸hO.at ai).int_inv;obtain⟨h0,an,hb⟩:=Q6d (hp hg);have au:s.length=bs.size:=by simp_all
 refine⟨.int .u8 b,?_,.d _ _ (.int _ _)⟩;unfold execOp;have:=run_index_string (P:=P) w t bs ik n hu;rw[dif_pos ⟨h0,I⟩]at this
 simp_all [Qqa,Qq6,ByteArray.getElem_eq_getElem_data]
theorem VV{β:Nat->oP Nat}{S:Nat->Prop}{h:Nat->oP Ob}{w:World}{tm:Nat->Value}{ρ:Operand->Value}{x:oP Operand}{n:oP Int}(hb:Mi ev x=some n)(hx:∀y,x=some y->RdA β S h w tm (ρ y) (ev y)) :
  (x=none/\n=none)\/∃y k m,x=some y/\n=some m/\ρ y = .int k m:=by
 cases x with
 |none=>grind[Mi]
 |some y=>
  simp only[Mi]at hb;split at hb
  ·rename_i k m aa;simp at hb;exact .inr ⟨y,k,m,rfl,hb.symm,(aa▸hx y rfl).int_inv⟩
  ·cases hb
theorem MJ{len:Nat}{lo hi:oP Int}{q:Nat×Nat}(h:slB len lo hi=some q) :
  0<=lo.getD 0/\lo.getD 0<=hi.getD len/\hi.getD len<=len/\q=((lo.getD 0).toNat,(hi.getD len).toNat):=by
 grind[slB]
theorem MO(aa:Bool){len cap:Nat}(am:len<=cap){lo hi:oP Operand}{l h:oP Int}{ρ:Operand->Value}{w:World}{q:Nat×Nat}(hs:slB len l h=some q)(aj:(lo=none/\l=none)\/∃y k m,lo=some y/\l=some m/\ρ y = .int k m)(ai:(hi=none/\h=none)\/∃y k m,hi=some y/\h=some m/\ρ y = .int k m) :
  (Instr.sliceBounds aa len cap (lo.map ρ) (hi.map ρ) none).run P w = .ok (q.1,q.2,cap) w:=by
 obtain⟨h1,h2,h3,rfl⟩:=MJ hs;rcases aj with⟨rfl,rfl⟩|⟨y,k,m,rfl,rfl,hy⟩<;>rcases ai with⟨rfl,rfl⟩|⟨y',k',m',rfl,rfl,ak⟩<;>simp only[Option.getD_none,Qqn]at h1 h2 h3
 ·rfl
 ·have e1:0<=m'/\m'<=(cap:Int):=I
  simp_all [Instr.sliceBounds,run_sliceBound_if]
 ·simp_all [Instr.sliceBounds,run_sliceBound_if]
 ·have e1:0<=m'/\m'<=(cap:Int):=I
  have e2:0<=m/\m<=(m'.toNat:Int):=I
  simp_all [Instr.sliceBounds,run_sliceBound_if]
theorem Db{α:Type}{l:Y α}{q:Nat×Nat}{i:Nat}{a:α}(h:(cut l q)[i]? = some a):i<q.2-q.1/\l[q.1+i]? = some a:=by
 simp_all [cut,List.getElem?_take,Qqe]
theorem Q46{x:Operand}{lo hi:oP Operand}(ho:o.op = .slice t x lo hi none):x∈o.op.operands.toList/\(∀y,lo=some y->y∈o.op.operands.toList)/\∀y,hi=some y->y∈o.op.operands.toList:=by
 grind[Op.operands]
theorem Q8V{tt:TT}(hT:TOk P tt){x:Operand}{lo hi:oP Operand}(ho:o.op = .slice t x lo hi none){g:Bool}{k:Dl->oP R}{r:R}(h:Q9F tt g t (ev x) (Mi ev lo) (Mi ev hi) k=some r):∃dl,k dl=some r/\(g=true->K2 P E o ev hl dl):=by
 obtain⟨ay,ar,ac⟩:=Q46 ho;unfold Q9F at h;split at h
 case h_2=>cases h
 rename_i l' h' a2 az;split at h
 ·rename_i s hk hex;obtain⟨ti,au,ak⟩:=Xv hk Q2;have hu:=(hT t ti au).kstr ak;obtain⟨q,h,hp⟩:=Qz h;refine⟨_,h,λhg=>QB λβ S st a w hR hO hA=>?_⟩;obtain⟨bs,hs,hx⟩:=(hex▸hO.at ay).str_inv;have an:s.length=bs.size:=by simp_all
  have hb:=MO (P:=P) false (len:=s.length) (cap:=s.length) (Nat.le_refl _) (ρ:=a.eval) (w:=w) (hp hg) (VV a2 λy hy=>hO.at (ar y hy)) (VV az λy hy=>hO.at (ac y hy));rw[an]at hb;refine⟨.string (bs.extract q.1 q.2),?_,.d _ _ ?_⟩
  ·simp_all [execOp,Qqa,run_sliceAt_string,Qqu,Instr.slice,QM,Qq6,Option.isSome_none,Bool.false_eq_true,if_false]
  ·have:cut s q=(bs.extract q.1 q.2).data.toList:=by
    rw[hs];simp[cut,ByteArray.data_extract]
   rw[this];exact .str _
 ·rename_i e esz s rows hk hex;cases hb:Nat.beq s esz with
  |false=>simp[hb]at h
  |true=>
   simp only[hb,Qq8]at h;obtain rfl:=Qq3 hb;obtain⟨ti,au,ak⟩:=Xv hk Q2;obtain⟨hu,a4,inf,aj,an⟩:=(hT t ti au).ksl _ _ ak;obtain⟨q,h,hp⟩:=Qz h;refine⟨_,h,λhg=>QB λβ S st a w hR hO hA=>?_⟩;have a7:=(hex▸hO.at ay).d_inv;have hq:=MJ (hp hg);have ao:∀(ad:oP Addr) (cap:Nat),rows.length<=cap->a.eval x = .slice ad rows.length cap->(execOp a.eval o).run P w = .ok (.value (.slice (if cap=q.1 then ad else ad.map (·.add (q.1*s))) (q.2-q.1) (cap-q.1))) w:=by
    intro ad cap hc hx;have hb:=MO (P:=P) true hc (ρ:=a.eval) (w:=w) (hp hg) (VV a2 λy hy=>hO.at (ar y hy)) (VV az λy hy=>hO.at (ac y hy));unfold execOp;rw[ho];simp only[hx,Qqa,Instr.sliceAt,QM hu,Qq6,Qqu];simp only[Instr.slice,Qqa,QM hu,Qq6,hb,sizeOf,Yt aj,an];rfl
   have aw:(cut rows q).length=q.2-q.1:=by
    unfold cut;rw[hq.2.2.2];simp;omega
   generalize hv:a.eval x=v at a7 ao;cases a7 with
   |sl0 ad cap _=>
    refine⟨_,ao ad cap (Nat.zero_le _) rfl,.d _ _ ?_⟩;have:cut ([]:Y (Y D)) q=[]:=by simp[cut]
    rw[this];have h0:q.2-q.1=0:=by rw[this]at aw;simpa using aw.symm
    rw[h0];exact .sl0 _ _ _
   |sl ad cap _ _ c hS a5 a3 hc hr=>
    refine⟨_,ao (some ad) cap a5 rfl,.d _ _ ?_⟩;by_cases h0:q.2-q.1=0
    ·have:cut rows q=[]:=Qqm (by rw[aw,h0]);rw[this,h0];exact .sl0 _ _ _
    ·have a8:cap≠q.1:=by
      have:=hq.2.2.1;have:=hq.2.2.2;have h1:q.2<=rows.length:=by rw[this];simp;omega
      omega
     rw[Qqj a8,<- aw];refine Rd.sl (ad.add (q.1*s)) (cap-q.1) s (cut rows q) (λi j=>c (q.1+i) j) (by rw[JK];exact hS) ?_ ?_ ?_ ?_
     ·rw[aw];have:=hq.2.2.2;have h1:q.2<=rows.length:=by rw[this];simp;omega
      omega
     ·intro i r ai;exact a3 _ _ (Db ai).2
     ·intro i j r y ai hy;have:=hc (q.1+i) j r y (Db ai).2 hy;rw[BR,<- Nat.add_assoc,<- Nat.add_mul];exact this
     ·intro i j r y ai hy;exact hr (q.1+i) j r y (Db ai).2 hy
 ·rename_i e esz hk hex;obtain⟨ti,au,ak⟩:=Xv hk Q2;obtain⟨hu,a4,inf,aj,an⟩:=(hT t ti au).ksl _ _ ak;obtain⟨q,h,hp⟩:=Qz h;refine⟨_,h,λhg=>QB λβ S st a w hR hO hA=>?_⟩;have hx:=(hex▸hO.at ay).nil_inv;have hq:=MJ (hp hg);have hb:=MO (P:=P) true (Nat.le_refl 0) (ρ:=a.eval) (w:=w) (hp hg) (VV a2 λy hy=>hO.at (ar y hy)) (VV az λy hy=>hO.at (ac y hy));have h0:q.2-q.1=0:=by
   obtain⟨q1,q2,q3,q4⟩:=hq;rw[q4];show(h'.getD ((0:Nat):Int)).toNat-(l'.getD 0).toNat=0;omega
  have h1:0-q.1=0:=Nat.zero_sub _;refine⟨.slice none 0 0,?_,.nil⟩;unfold execOp;rw[ho];simp only[hx,Qqa,Instr.sliceAt,QM hu,Qq6,Qqu];simp only[Instr.slice,Qqa,QM hu,Qq6,hb,sizeOf,Yt aj,an,h0,h1,Qqu,ite_self];rfl
 ·cases h
theorem Q4G{len:Nat}{lo hi mx:oP Int}{q:Nat×Nat}(h:Qig len lo hi mx=some q):∃m,hi=some m/\mx=some m/\slB len lo (some m)=some q:=by
 unfold Qig at h
 grind
theorem BL{len cap:Nat}(ak:len<=cap){lo:oP Operand}{yh ym:Operand}{l:oP Int}{m:Int}{kh km:IntKind}{ρ:Operand->Value}{w:World}{q:Nat×Nat}(hs:slB len l (some m)=some q)(aa:(lo=none/\l=none)\/∃y k m,lo=some y/\l=some m/\ρ y = .int k m)(hh:ρ yh = .int kh m)(hm:ρ ym = .int km m) :
  (Instr.sliceBounds true len cap (lo.map ρ) (some (ρ yh)) (some (ρ ym))).run P w = .ok (q.1,q.2,q.2) w:=by
 obtain⟨h1,h2,h3,rfl⟩:=MJ hs;simp only[Qqn]at h2 h3;have e1:0<=m/\m<=(cap:Int):=by
  omega
 have e2:0<=m/\m<=(m.toNat:Int):=I
 rcases aa with⟨rfl,rfl⟩|⟨y,k,a,rfl,rfl,hy⟩
 ·simp_all [Instr.sliceBounds,run_sliceBound_if]
 ·simp only[Qqn]at h1 h2;have e3:0<=a/\a<=(m.toNat:Int):=I
  simp_all [Instr.sliceBounds,run_sliceBound_if,Qqr]
theorem Q8j{x mx:Operand}{lo hi:oP Operand}(ho:o.op = .slice t x lo hi (some mx)):x∈o.op.operands.toList/\(∀y,lo=some y->y∈o.op.operands.toList)/\(∀y,hi=some y->y∈o.op.operands.toList)/\mx∈o.op.operands.toList:=by
 grind[Op.operands]
theorem Q6z{tt:TT}(hT:TOk P tt){x mx:Operand}{lo hi:oP Operand}(ho:o.op = .slice t x lo hi (some mx)){g:Bool}{k:Dl->oP R}{r:R}(h:Q5F tt g t (ev x) (Mi ev lo) (Mi ev hi) (Mi ev (some mx)) k=some r):∃dl,k dl=some r/\(g=true->K2 P E o ev hl dl):=by
 obtain⟨bc,ao,ar,bh⟩:=Q8j ho;unfold Q5F at h;split at h
 case h_2=>cases h
 rename_i l' h' m' a7 a9 ba;split at h
 ·rename_i e esz s rows hk hex;cases hb:Nat.beq s esz with
  |false=>simp_all
  |true=>
   simp only[hb,Qq8]at h;obtain rfl:=Qq3 hb;obtain⟨ti,a4,az⟩:=Xv hk Q2;obtain⟨hu,a8,inf,aj,aw⟩:=(hT t ti a4).ksl _ _ az;obtain⟨q,h,hp⟩:=Qz h;refine⟨_,h,λhg=>QB λβ S st a w hR hO hA=>?_⟩;have bg:=(hex▸hO.at bc).d_inv;obtain⟨m,rfl,rfl,ak⟩:=Q4G (hp hg);have hq:=MJ ak;rcases VV a9 λy hy=>hO.at (ar y hy)with⟨_,hn⟩|⟨yh,kh,mh,rfl,e1,ay⟩
   ·cases hn
   rcases VV ba λy hy=>hO.at (by injection hy with hy;subst hy;exact bh)with⟨_,hn⟩|⟨ym,km,mm,e3,e2,a3⟩
   ·cases hn
   injection e1 with e1
   injection e2 with e2
   injection e3 with e3
   subst e1 e2 e3;have am:∀(ad:oP Addr) (cap:Nat),rows.length<=cap->a.eval x = .slice ad rows.length cap->(execOp a.eval o).run P w = .ok (.value (.slice (if q.2=q.1 then ad else ad.map (·.add (q.1*s))) (q.2-q.1) (q.2-q.1))) w:=by
    intro ad cap hc hx;have hb:=BL (P:=P) hc (ρ:=a.eval) (w:=w) ak (VV a7 λy hy=>hO.at (ao y hy)) ay a3;unfold execOp;rw[ho];simp only[hx,Qqa,Instr.sliceAt,QM hu,Qq6,Option.map_some];simp only[Instr.slice,Qqa,QM hu,Qq6,hb,sizeOf,Yt aj,aw];rfl
   have br:q.2<=rows.length:=by
    have h3:=hq.2.2.1;rw[hq.2.2.2];simp only[Qqn]at h3 ⊢;omega
   have ac:(cut rows q).length=q.2-q.1:=by
    unfold cut;simp;omega
   generalize hv:a.eval x=v at bg am;have au:∀(ad:oP Addr),Rd S w (.slice ad (q.2-q.1) (q.2-q.1)) (.sl s (cut rows q))->RdA β S (look st.h) w (tmv a) (.slice ad (q.2-q.1) (q.2-q.1)) (.fs s (cut rows q)):=by
    intro ad hr;have:=RdA.fs (β:=β) (h:=look st.h) (tm:=tmv a) ad s (cut rows q) (by rw[ac];exact hr);rw[ac]at this;exact this
   cases bg with
   |sl0 ad cap _=>
    refine⟨_,am ad cap (Nat.zero_le _) rfl,au _ ?_⟩;have:cut ([]:Y (Y D)) q=[]:=by simp[cut]
    rw[this];have h0:q.2-q.1=0:=by rw[this]at ac;simpa using ac.symm
    rw[h0];exact .sl0 _ _ _
   |sl ad cap _ _ c hS a6 bb hc hr=>
    refine⟨_,am (some ad) cap a6 rfl,au _ ?_⟩;by_cases h0:q.2-q.1=0
    ·have:cut rows q=[]:=Qqm (by rw[ac,h0]);rw[this,h0];exact .sl0 _ _ _
    ·have bi:q.2≠q.1:=I
     rw[Qqj bi];have:=Rd.sl (S:=S) (w:=w) (ad.add (q.1*s)) (q.2-q.1) s (cut rows q) (λi j=>c (q.1+i) j) (by rw[JK];exact hS) (by rw[ac];exact Nat.le_refl _) (λi r ai=>bb _ _ (Db ai).2) (λi j r y ai hy=>by
      have:=hc (q.1+i) j r y (Db ai).2 hy;rw[BR,<- Nat.add_assoc,<- Nat.add_mul];exact this) (λi j r y ai hy=>hr (q.1+i) j r y (Db ai).2 hy)
     rw[ac]at this;exact this
 ·rename_i e esz hk hex;obtain⟨ti,a4,az⟩:=Xv hk Q2;obtain⟨hu,a8,inf,aj,aw⟩:=(hT t ti a4).ksl _ _ az;obtain⟨q,h,hp⟩:=Qz h;refine⟨_,h,λhg=>QB λβ S st a w hR hO hA=>?_⟩;have hx:=(hex▸hO.at bc).nil_inv;obtain⟨m,rfl,rfl,ak⟩:=Q4G (hp hg);have hq:=MJ ak;rcases VV a9 λy hy=>hO.at (ar y hy)with⟨_,hn⟩|⟨yh,kh,mh,rfl,e1,ay⟩
  ·cases hn
  rcases VV ba λy hy=>hO.at (by injection hy with hy;subst hy;exact bh)with⟨_,hn⟩|⟨ym,km,mm,e3,e2,a3⟩
  ·cases hn
  injection e1 with e1
  injection e2 with e2
  injection e3 with e3
  subst e1 e2 e3;have hb:=BL (P:=P) (Nat.le_refl 0) (ρ:=a.eval) (w:=w) ak (VV a7 λy hy=>hO.at (ao y hy)) ay a3;have h0:q.2-q.1=0:=by
   obtain⟨q1,q2,q3,q4⟩:=hq;rw[q4];simp only[Qqn]at q2 q3 ⊢;omega
  refine⟨.slice none 0 0,?_,.fs none _ [] (.sl0 _ _ _)⟩;unfold execOp;rw[ho];simp only[hx,Qqa,Instr.sliceAt,QM hu,Qq6,Option.map_some];simp only[Instr.slice,Qqa,QM hu,Qq6,hb,sizeOf,Yt aj,aw,h0,Qqu,ite_self];rfl
 ·cases h
end
end Go.Vx
namespace Go.Vx
variable{hl:Nat->oP Ob} {ev:Operand->AV} {o:Oper} {tt:TT} {x:Operand}
section
variable{P:Program} {E:Env} {R:Type}
theorem Q43(hT:TOk P tt){c:Call}{s x:Operand}{t tn:Nat}(ho:o.op = .call c)(au:c.callee = .builtin .append)(ha:c.args.toList=[s,x])(hat:c.argTypes.toList=[t,tn]){g:Bool}{ai:Nat}{k:Dl->oP R}{r:R}(h:Q2E tt hl ai g t tn (ev s) (ev x) k=some r):∃dl,k dl=some r/\(g=true->K2 P E o ev hl dl):=by
 have ak:c.args = #[s,x]:=by grind
 have a8:c.argTypes = #[t,tn]:=by grind
 have bp:s∈o.op.operands.toList:=by grind[Op.operands,Call.operands]
 have bk:x∈o.op.operands.toList:=by simp[ho,Op.operands,Call.operands,au,ak]
 unfold Q2E at h;split at h
 case h_2=>cases h
 rename_i e esz kn kx n hk bc bm hex;split at h
 case h_2=>cases h
 rename_i ei am;cases hc:(Nat.ble 1 ei.bytes&&Nat.beq (Mf tt e).length esz)with
 |false=>simp_all
 |true=>
  simp only[hc,Qq8]at h;simp only[Qq4]at hc;have an:=Qqt hc.1;have aw:=Qq3 hc.2;have bq:Mf tt e=ei.zd:=by simp[Mf,am]
  rw[bq]at aw h;obtain⟨_,h,ay⟩:=Qz h;obtain⟨_,h,aa⟩:=Qz h;obtain⟨hn,h⟩:=U6 h;refine⟨_,h,λhg=>?_⟩;have aa:=Mb (aa hg);have ay:0<n:=by
   have:=ay hg;cases hd:decide (0<n)with
   |true=>simpa using hd
   |false=>simp[hd]at this
  obtain⟨ti,br,bl⟩:=Xv hk Q2;obtain⟨hu,b3,inf,ar,a2⟩:=(hT t ti br).ksl _ _ bl;obtain⟨bn,bb,ba⟩:=Xv bc Q2;have bv:=(hT tn bn bb).kint _ ba;obtain⟨b0,ac,a5,bh,z,hz,a7⟩:=(hT e ei am).inf;rw[ar]at ac;injection ac with ac
  subst ac;have aj:z.cells.size=esz:=by rw[<- Array.length_toList,a7,(hT e ei am).zlen,<- a5,a2]
  obtain⟨m,rfl⟩:=Int.eq_ofNat_of_zero_le (Int.le_of_lt ay);have bg:0<m:=I
  simp only[Int.toNat_natCast]at aa h ⊢;have b4:m<=140737488355328:=Nat.le_trans (by have:=Nat.mul_le_mul_left m an;omega) aa;intro β S st a w hR hO hA bz K Q hK;have a3:look st.h ai=none:=by rw[hA ai (.inr (by simp[wrL]))];exact hn
  have bi:Uz st ai=true:=by simpa[Wt,a3]using bz
  have hv:=(bm▸hO.at bp).nil_inv;have hx:=(hex▸hO.at bk).int_inv;have a6:=Lib.run_append_nil_zeros (P:=P) w t tn o.type e inf z kx kn hu bv ar hz m bg I I (by rw[bh];omega);have ax:(execOp a.eval o).run P w = .ok (.value (.slice (some ⟨w.heap.size,0,none⟩) m (grownCap w m 0 e))) (w.drew.alloc (.cells (Builtin.zeroCells z.cells m++Builtin.zeroCells z.cells (grownCap w m 0 e-m)) e)):=by
   unfold execOp;rw[ho];simp only[resolve,au,ak,a8,invoke,builtin,Qqa,Sem.run_pure,Qq6,List.map_toArray,Qqh,List.map_nil,hv,hx,a6]
  unfold Oper.wp;rw[ax];refine hK _ _ ?_;have base:V3 S w (Builtin.zeroCells z.cells m) z.cells.size (List.replicate m ei.zd):=
   V3.zero (by rw[aw,aj]) (QeS hT am (by rw[aw,<- a5,a2]) a7) (Nat.le_refl _)
  rw[aj]at base;have bo:=grownCap_ge w m 0 e;have bj:grownCap w m 0 e<=maxLen:=grownCap_le_maxLen w m 0 e (by unfold maxLen;omega);have ao:(Builtin.zeroCells z.cells m).toList.length=m*esz:=by rw[Array.length_toList,size_zeroCells,aj]
  have a9:(w.drew.alloc (.cells (Builtin.zeroCells z.cells m++Builtin.zeroCells z.cells (grownCap w m 0 e-m)) e)).ownsRow w.heap.size e esz (.slice (some ⟨w.heap.size,0,none⟩) m (grownCap w m 0 e)) m (Builtin.zeroCells z.cells m).toList:=by
   refine⟨ao,.inr ⟨w.heap.size,_,_,rfl,Nat.le_refl _,heap_alloc_new w.drew _,bo,bj,?_,?_⟩⟩
   ·simp only[Array.size_append,size_zeroCells,aj,<- Nat.add_mul];congr 1;omega
   ·rw[Array.toList_append,<- ao];exact List.take_left
  have:=Rr (w':=w.drew.alloc (.cells (Builtin.zeroCells z.cells m++Builtin.zeroCells z.cells (grownCap w m 0 e-m)) e)) (base:=w.heap.size) (e:=e) (rows:=[]) (news:=List.replicate m ei.zd) (v:=.slice none 0 0) (xs:=[]) (vals:=(Builtin.zeroCells z.cells m).toList) (v':=.slice (some ⟨w.heap.size,0,none⟩) m (grownCap w m 0 e)) hR
   (λi j r x h1 h2=>by rw[Qqq];exact base.2.2 i j r x h1 h2) (λi r h1=>base.2.1 i r h1) a3 bi none (λ_ h=>by cases h) (λb h=>by simp[Value.ownBlock]at h) (λi j r y h1=>by simp at h1) (λi r h1=>by simp at h1) Q2
   (by simpa using a9) ⟨rfl,rfl,rfl,by simp,λk hk _=>heap_alloc_old w.drew _ k hk⟩ (.inr λb hb=>by simp[Value.ownBlock]at hb;omega)
  exact this
theorem QcC(hT:TOk P tt){t l:Nat}{lo hi:oP Operand}(ho:o.op = .slice t x lo hi none){u g:Bool}{aa:Nat}(hex:ev x = .arr l){k:Dl->oP R}{r:R}(h:Qjt tt hl aa u t l (Mi ev lo) (Mi ev hi) k=some r):∃dl,k dl=some r/\(g=true->K2 P E o ev hl dl):=by
 obtain⟨bh,au,ax⟩:=Q46 ho;unfold Qjt at h;split at h
 case h_2=>cases h
 rename_i e esz h0 hk ba bb;cases am:(u&&decide (h0=0))with
 |false=>simp_all
 |true=>
  simp only[am,Qq8]at h;simp only[Qq4,decide_eq_true_eq]at am;obtain⟨_,rfl⟩:=am;split at h
  case h_2=>cases h
  rename_i e' s' rows ar;cases hb:(Nat.beq e e'&&Nat.beq esz s')with
  |false=>simp_all
  |true=>
   simp only[hb,Qq8]at h;simp only[Qq4]at hb;obtain rfl:=Qq3 hb.1;obtain rfl:=Qq3 hb.2;obtain⟨hn,h⟩:=U6 h;refine⟨_,h,λ_=>?_⟩;intro β S st a w hR hO hA a7 K Q hK;obtain⟨ti,bl,bi⟩:=Xv hk Q2;obtain⟨hu,bm,inf,a3,a9⟩:=(hT t ti bl).ksl _ _ bi;have aw:look st.h aa=none:=by rw[hA aa (.inr (by simp[wrL]))];exact hn
   have ac:look st.h l=some (.arr e esz rows):=by rw[hA l (.inl Q2)];exact ar
   have bg:Uz st aa=true:=by simp[Wt,aw]at a7;exact a7
   have hq:slB rows.length none (some 0)=some (0,0):=by simp[slB]
   have aj:∀(ad:oP Addr) (cap:Nat),rows.length<=cap->a.eval x = .slice ad rows.length cap->(execOp a.eval o).run P w = .ok (.value (.slice (if cap=0 then ad else ad.map (·.add (0*esz))) 0 cap)) w:=by
    intro ad cap hc hx;have hb:=MO (P:=P) true hc (ρ:=a.eval) (w:=w) hq (VV ba λy hy=>hO.at (au y hy)) (VV bb λy hy=>hO.at (ax y hy));unfold execOp;rw[ho];simp only[hx,Qqa,Instr.sliceAt,QM hu,Qq6,Qqu];simp only[Instr.slice,Qqa,QM hu,Qq6,hb,sizeOf,Yt a3,a9];rfl
   have ai:Src S w esz (.slice none 0 0) [] []:=⟨.inl ⟨rfl,rfl⟩,by simp,by simp,by simp,by simp⟩;have fin:∀(base:Nat) (v v':Value),(execOp a.eval o).run P w = .ok (.value v') w->w.ownsRow base e esz v' 0 []->(∀b,v.ownBlock=some b->β l=some b)->v'.ownBlock=v.ownBlock->o.wp P a w K Q:=by
    intro base v v' hr a4 a2 hat;unfold Oper.wp;rw[hr];refine hK _ _ ?_;exact Rr (rows:=[]) (news:=[]) (v:=v) (xs:=[]) (vals:=[]) hR ai.rd ai.row aw bg (some l) (λl' h=>by injection h with h;subst h;simp[ac]) (λb h=>⟨l,rfl,a2 b h⟩) (λi j r y h1=>by simp at h1) (λi r h1=>by simp at h1) Q2 a4 (World.grownBy.refl _ _) (.inl hat)
   rcases RdA.arr_inv ac (hex▸hO.at bh)with⟨_,bj,hv⟩|⟨b,cap,cs,ty,fz,an,hv,hw,az,ao,a5⟩
   ·subst bj;exact fin w.heap.size (.slice none 0 0) (.slice none 0 0) (aj none 0 (Nat.le_refl _) hv) (World.ownsRow_nil w w.heap.size e esz) (λb h=>by simp[Value.ownBlock]at h) rfl
   ·rcases hR.hr.ob l _ ac with⟨a6,_⟩|⟨b2,bk,ay,ak,bn,bq,bv⟩
    ·rw[an]at a6;cases a6
    obtain rfl:b=b2:=by rw[an]at ay;injection ay
    obtain rfl:cs=bk:=by rw[hw]at ak;injection ak with h1;injection h1
    refine fin 0 (.slice (some ⟨b,0,none⟩) rows.length cap) (.slice (some ⟨b,0,none⟩) 0 cap) ?_ ⟨by simp,.inr ⟨b,cap,cs,rfl,Nat.zero_le _,ak,Nat.zero_le _,a5,az,by simp⟩⟩ (λb3 h=>by simp[Value.ownBlock]at h;subst h;exact an) rfl;have:=aj (some ⟨b,0,none⟩) cap ao hv;have e0:(if cap=0 then some (⟨b,0,none⟩:Addr)else(some (⟨b,0,none⟩:Addr)).map (·.add (0*esz)))=some ⟨b,0,none⟩:=by
     split
     ·rfl
     ·simp[Addr.add]
    rw[e0]at this;exact this
theorem QcD(hT:TOk P tt){c:Call}{t:Nat}(ho:o.op = .call c)(hc:c.callee = .builtin .len)(ha:c.args.toList=[x])(hat:c.argTypes.toList=[t]){n:Int}{rd:Y Nat}(h:Qjf tt hl t (ev x)=some (n,rd)):K2 P E o ev hl ⟨.d (.int .i64 n),[],rd⟩:=by
 have ac:x∈o.op.operands.toList:=by grind[Op.operands,Call.operands]
 unfold Qjf at h;split at h
 ·rename_i e esz hk;split at h
  ·rename_i s rows aa;cases h;refine QB λβ S st a w hR hO hA=>?_
   obtain⟨ad,cap,hx⟩:=(aa▸hO.at ac).d_inv.len;exact⟨_,Tl hT ho hc ha hat hk hx,.d _ _ (.int _ _)⟩
  ·rename_i aa;cases h;refine QB λβ S st a w hR hO hA=>?_
   have hx:=(aa▸hO.at ac).nil_inv;exact⟨_,Tl hT ho hc ha hat hk hx,.d _ _ (.int _ _)⟩
  ·rename_i l aa;split at h
   ·rename_i e' s rows ak;cases h;refine QB λβ S st a w hR hO hA=>?_
    have am:look st.h l=some (.arr e' s rows):=by rw[hA l (.inl Q2)];exact ak
    rcases RdA.arr_inv am (aa▸hO.at ac)with⟨_,rfl,hx⟩|⟨b,cap,cs,ty,fz,_,hx,_⟩
    ·exact⟨_,Tl hT ho hc ha hat hk hx,.d _ _ (.int _ _)⟩
    ·exact⟨_,Tl hT ho hc ha hat hk hx,.d _ _ (.int _ _)⟩
   ·cases h
  ·cases h
 ·rename_i hk;split at h
  ·rename_i s aa;cases h;refine QB λβ S st a w hR hO hA=>?_
   have hx:=(aa▸hO.at ac).d_inv;generalize hy:a.eval x=y at hx;cases hx with
   |str s'=>
    refine⟨_,Q6a hT ho hc ha hat hk hy,?_⟩;have:s'.data.toList.length=s'.size:=by rfl
    rw[this];exact .d _ _ (.int _ _)
  ·cases h
 ·cases h
theorem Q1A{ρ:Operand->Value}{ev:Operand->AV}{β:Nat->oP Nat}{S:Nat->Prop}{h:Nat->oP Ob}{w:World}{tm:Nat->Value}(isMin:Bool) :
  ∀(r:Y Operand) (av v:AV) (u:Value),RdA β S h w tm u av->(∀x∈r,RdA β S h w tm (ρ x) (ev x))->BH isMin av (r.map ev)=some v ->
   ∃u',((r.map ρ).foldlM (if isMin then Builtin.min2 else Builtin.max2) u:Sem Value).run P w = .ok u' w/\RdA β S h w tm u' v
 |[],av,v,u,hu,_,hm=>by
  simp_all [BH]
 |x::r,av,v,u,hu,hr,hm=>by
  unfold BH at hm;split at hm
  ·simp_all
  ·rename_i k a k' b r' ac;injection ac with h1 h2
   cases hk:(k == k')with
   |false=>simp_all
   |true=>
    simp only[hk,Qq8]at hm;have ai:=(h1▸hr x Q2).int_inv;have aj:=hu.int_inv;subst h2;obtain⟨u',g1,g2⟩:=Q1A isMin r _ v (.int k (bif isMin then(if b<a then b else a)else(if a<b then b else a))) (.d _ _ (.int _ _)) (λy hy=>hr y (by simp[hy])) hm;refine⟨u',?_,g2⟩;simp only[Qqh,List.foldlM_cons,Qqa,aj,ai];cases isMin with
    |true=>assumption
    |false=>assumption
  ·cases hm
theorem Q0g{c:Call}{r:Y Operand}{isMin:Bool}(ho:o.op = .call c)(hc:c.callee = .builtin (if isMin then .min else .max))(ha:c.args.toList=x::r){v:AV}(h:BH isMin (ev x) (r.map ev)=some v):K2 P E o ev hl ⟨v,[],[]⟩:=by
 have aa:∀y,y∈c.args.toList->y∈o.op.operands.toList:=by
  grind[Op.operands,Call.operands]
 refine QB λβ S st a w hR hO hA=>?_
 obtain⟨u,g1,g2⟩:=Q1A (P:=P) (ρ:=a.eval) isMin r (ev x) v (a.eval x) (hO.at (aa x (by simp[ha]))) (λy hy=>hO.at (aa y (by simp[ha,hy]))) h;refine⟨u,?_,g2⟩;have ac:(c.args.map a.eval).toList=a.eval x::r.map a.eval:=by simp_all
 unfold execOp;rw[ho];cases isMin with
 |true=>
  simp_all [if_true,resolve,invoke,builtin,Builtin.min_,Qqa,Sem.run_pure,Qq6]
 |false=>
  simp only[Bool.false_eq_true,if_false]at hc g1;simp only[resolve,hc,invoke,builtin,Builtin.max_,Qqa,Sem.run_pure,Qq6,ac,g1]
theorem Q2a{f:Nat}{first aa:Array Operand}(ho:o.op = .makeFunc (.func f) first aa)(hf:first.toList=[]):K2 P E o ev hl ⟨.fn f (aa.toList.map ev),[],[]⟩:=by
 refine QB λβ S st a w hR hO hA=>⟨.func (.func f) #[] (aa.map a.eval),?_,.fn f _ _ Q2 λi x hx=>?_⟩
 ·simp_all [Array.ext',execOp,Instr.makeFunc]
 ·simp only[List.getElem?_map,Qq5]at hx;obtain⟨y,hy,rfl⟩:=hx;have ac:y∈o.op.operands.toList:=by
   grind[List.mem_of_getElem?,Op.operands]
  have hg:(aa.map a.eval).getD i undef=a.eval y:=by
   simp_all
  rw[hg];exact hO.at ac
theorem EE{spec:Q6g}(hS:A9 P spec)(hT:TOk P tt){aw:Nat}{g u:Bool}{k:Dl->oP R}{r:R}(h:vdl spec tt aw g u ev hl o.op k=some r):∃dl,k dl=some r/\(g=true->K2 P E o ev hl dl):=by
 cases ho:o.op with
 |move x=>grind[vdl,Q4C]
 |assign x=>rw[ho]at h;simp only[vdl]at h;exact⟨_,h,λ_=>Q4C (.inr ho)⟩
 |pick c x y=>
  rw[ho]at h;simp only[vdl]at h
  grind[Q9j]
 |alloc t=>
  rw[ho]at h;simp only[vdl]at h;split at h
  ·rename_i ti an;cases u with
   |false=>simp at h
   |true=>
    simp only[Qq8]at h;split at h
    ·rename_i e esz n hk;cases hb:Nat.beq ti.zd.length (n*esz)with
     |false=>simp_all
     |true=>
      simp only[hb,Qq8]at h;obtain⟨hn,h⟩:=U6 h
      grind[Q5X,Nat.eq_of_beq_eq_true]
    ·obtain⟨hn,h⟩:=U6 h;exact⟨_,h,λ_=>Q8X hT ho an hn⟩
  ·cases h
 |box t x=>
  rw[ho]at h;simp only[vdl]at h;split at h
  ·rename_i ti an;cases hc:(u&&(Nat.beq (Y5 (ev x)).length ti.size&&(Y5 (ev x)).all Q3G))with
   |false=>simp[hc]at h
   |true=>
    simp only[hc,Qq8]at h;simp only[Qq4]at hc;obtain⟨hn,h⟩:=U6 h;exact⟨_,h,λ_=>Qc1 ho hc.2.2 hn⟩
  ·cases h
 |build t ar=>
  rw[ho]at h;simp only[vdl]at h;split at h
  ·rename_i ti an;cases hs:V2 ti.kd with
   |false=>simp[hs]at h
   |true=>
    simp only[hs,Qq8]at h;split at h
    ·rename_i cs a2;exact⟨_,h,λ_=>Q8F hT ho an hs a2⟩
    ·cases h
  ·cases h
 |buildSlice t len ar=>
  rw[ho]at h;simp only[vdl]at h;obtain⟨dl,h1,h2⟩:=Q64 hT ho h;exact⟨dl,h1,λ_=>h2⟩
 |load t x=>rw[ho]at h;simp only[vdl]at h;exact Q9w hT ho h
 |store t x y=>
  rw[ho]at h;simp only[vdl]at h;cases u with
  |false=>simp at h
  |true=>
   simp only[Qq8]at h;split at h
   ·rename_i e esz n l hk hex;obtain⟨dl,h1,h2⟩:=Q65 hT ho hk hex h;exact⟨dl,h1,λ_=>h2⟩
   ·obtain⟨dl,h1,h2⟩:=Q8z hT ho h;exact⟨dl,h1,λ_=>h2⟩
 |nilCheck x=>
  rw[ho]at h;simp only[vdl]at h;split at h
  ·rename_i l o' hv;exact⟨_,h,λ_=>D3 ho hv⟩
  ·rename_i l o' hv;exact⟨_,h,λ_=>CM ho hv⟩
  ·rename_i l i o' hv;split at h
   ·rename_i ob az;exact⟨_,h,λ_=>B5 ho (by simp[az]) hv⟩
   ·cases h
  ·cases h
 |binOp op t x y t'=>rw[ho]at h;simp only[vdl]at h;exact Qc4 hT ho h
 |unOp op t x=>
  rw[ho]at h;simp only[vdl]at h;split at h
  ·rename_i v hv;exact⟨_,h,λ_=>Qfw ho hv⟩
  ·cases h
 |convert s t x=>
  rw[ho]at h;simp only[vdl]at h;split at h
  ·rename_i ks kd h1 h2;split at h
   ·rename_i kn n h3;exact⟨_,h,λ_=>Q5z hT ho h1 h2 h3⟩
   ·cases h
  ·rename_i e h1 h2;split at h
   ·rename_i h3;split at h
    ·rename_i rows rd h4;exact Q8k hT ho h1 h2 h3 h4 h
    ·cases h
   ·cases h
  ·rename_i h1 h2;split at h
   ·rename_i n h3;exact⟨_,h,λ_=>Q3b hT ho h1 h2 h3⟩
   ·cases h
  ·rename_i e h1 h2;split at h
   ·rename_i h3;split at h
    ·rename_i n h4;exact⟨_,h,λ_=>Q2f hT ho h1 h2 h3 h4⟩
    ·cases h
   ·cases h
  ·cases h
 |lookup t m x c=>
  rw[ho]at h;cases c with
  |true=>
   simp only[vdl]at h;split at h
   ·rename_i l n ht hm hx;split at h
    ·rename_i t' f ac;cases hc:Nat.ble 1048576 t' with
     |false=>rw[hc]at h;cases h
     |true=>rw[hc]at h;exact⟨_,h,λ_=>Q5t hT ho ht hm hx ac hc⟩
    ·cases h
   ·cases h
  |false=>
   simp only[vdl]at h;split at h
   ·rename_i f n ht hm hx;exact⟨_,h,λ_=>Q6I hT ho ht hm hx⟩
   ·rename_i l n ht hm hx;split at h
    ·rename_i t' f ac;cases hc:Nat.ble t' 1048575 with
     |false=>rw[hc]at h;cases h
     |true=>rw[hc]at h;exact⟨_,h,λ_=>Q5v hT ho ht hm hx ac hc⟩
    ·cases h
   ·cases h
 |makeMap t q=>
  rw[ho]at h;cases q with
  |some q=>simp[vdl]at h
  |none=>
   simp only[vdl]at h;split at h
   ·cases hc:(u&&Nat.ble t 1048575)with
    |false=>rw[hc]at h;simp at h
    |true=>
     rw[hc]at h;simp only[Qq8]at h;obtain⟨hn,h⟩:=U6 h;exact⟨_,h,λ_=>Cj ho hn⟩
   ·cases u with
    |false=>simp at h
    |true=>
     simp only[Qq8]at h;obtain⟨hn,h⟩:=U6 h;exact⟨_,h,λ_=>Cj ho hn⟩
   ·cases h
 |mapUpdate t m x v=>
  rw[ho]at h;simp only[vdl]at h;split at h
  ·rename_i l n b ht hm hx hv;split at h
   ·rename_i t' f ac;cases hc:(u&&Nat.ble t' 1048575)with
    |false=>rw[hc]at h;simp at h
    |true=>
     rw[hc]at h;simp only[Qq8]at h;exact⟨_,h,λ_=>Q1d hT ho ht hm hx hv ac (Bool.and_eq_true_iff.1 hc).2⟩
   ·cases h
  ·rename_i l n b ht hm hx hv;split at h
   ·rename_i t' f ac;cases hc:(u&&Nat.ble 1048576 t')with
    |false=>rw[hc]at h;simp at h
    |true=>
     rw[hc]at h;simp only[Qq8]at h;exact⟨_,h,λ_=>A8 hT ho ht hm hx hv ac (Bool.and_eq_true_iff.1 hc).2⟩
   ·cases h
  ·cases h
 |makeFunc f first ai=>
  rw[ho]at h;cases f with
  |func f=>
   simp only[vdl]at h;split at h
   ·rename_i am;cases hc:JD (ai.toList.map ev)with
    |false=>simp[hc]at h
    |true=>
     simp only[hc,Qq8]at h;exact⟨_,h,λ_=>Q2a ho am⟩
   ·cases h
  |_=>simp[vdl]at h
 |makeSlice t l c=>
  rw[ho]at h;simp only[vdl]at h;obtain⟨dl,h1,h2⟩:=QaI hT ho h;exact⟨dl,h1,λ_=>h2⟩
 |fieldAddr t x f=>
  rw[ho]at h;simp only[vdl]at h;obtain⟨dl,h1,h2⟩:=Q0J hT ho h;exact⟨dl,h1,λ_=>h2⟩
 |field t x f=>rw[ho]at h;simp only[vdl]at h;exact Q8C hT ho h
 |indexAddr t x i=>
  rw[ho]at h;simp only[vdl]at h;split at h
  ·rename_i e esz n l hk hex;exact Ae hT ho hk hex h
  ·exact Q0L hT ho h
 |index t x i=>rw[ho]at h;simp only[vdl]at h;exact Q8W hT ho h
 |slice t x lo hi mx=>
  rw[ho]at h;cases mx with
  |none=>
   simp only[vdl]at h;split at h
   ·rename_i l hex;exact QcC hT ho hex h
   ·exact Q8V hT ho h
  |some mx=>simp only[vdl]at h;exact Q6z hT ho h
 |extract x i=>
  rw[ho]at h;simp only[vdl]at h;split at h
  ·rename_i l hx;split at h
   ·rename_i v hv;exact⟨_,h,λ_=>Q4z ho hx hv⟩
   ·cases h
  ·cases h
 |call c=>
  rw[ho]at h;simp only[vdl]at h;split at h
  ·rename_i f hc;exact Q4S hS (Q8c ho hc) h
  ·rename_i t hc;split at h
   ·rename_i f cap au;exact Q4S hS (Q8S ho hc au) h
   ·cases h
  ·rename_i hc;split at h
   ·rename_i x t ha hat;split at h
    ·rename_i n rd hn;exact⟨_,h,λ_=>QcD hT ho hc ha hat hn⟩
    ·cases h
   ·cases h
  ·rename_i hc;split at h
   ·rename_i x t ha hat;split at h
    ·rename_i e esz hk au;refine⟨_,h,λ_=>QB λβ S st a w hR hO hA=>?_⟩;have ao:c.args = #[x]:=by rw[<- Array.toList_inj];simpa using ha
     have ay:x∈o.op.operands.toList:=by simp[ho,Op.operands,Call.operands,hc,ao]
     exact⟨_,Q6k hT ho hc ha hat hk (au▸hO.at ay).nil_inv,.d _ _ (.int _ _)⟩
    ·cases h
   ·cases h
  ·rename_i hc;split at h
   ·rename_i s x t t' ha hat;cases hb:Nat.beq t t' with
    |false=>simp only[hb,Qql]at h;exact Q43 hT ho hc ha hat h
    |true=>
     simp only[hb,Qq8]at h;obtain rfl:=Qq3 hb;exact Q6w hT ho hc ha hat h
   ·cases h
  ·rename_i hc;split at h
   ·rename_i x r' ha;split at h
    ·rename_i v hv;exact⟨_,h,λ_=>Q0g (isMin:=true) ho hc ha hv⟩
    ·cases h
   ·cases h
  ·rename_i hc;split at h
   ·rename_i x r' ha;split at h
    ·rename_i v hv;exact⟨_,h,λ_=>Q0g (isMin:=false) ho hc ha hv⟩
    ·cases h
   ·cases h
  ·cases h
 |_=>rw[ho]at h;simp[vdl]at h
end
end Go.Vx
namespace Go.Vx
variable{hl:Nat->oP Ob} {β:Nat->oP Nat} {S:Nat->Prop} {o:Oper} {st:St} {a:Act}
section
variable{P:Program} {E:Env} {R:Type}
theorem Qe1{d t:Nat}{tm:Y (Nat×AV)}{av:AV}(h:look tm t=some av)(hn:Qb8 d tm=false):gds d av=false:=by
 induction tm with
 |nil=>trivial
 |cons x r ih=>
  grind[Qb8,Bool.or_eq_false_iff,look,Nat.beq]
theorem AF{d:Nat}{v:Value}(hd:d<a.tmps.size)(t:Nat):tmv (a.put (some d) v) t=if t=d then v else tmv a t:=by
 unfold tmv Act.put;by_cases h:t<a.tmps.size
 ·by_cases e:t=d
  all_goals simp_all [Qqj,Ne.symm]
 grind
theorem BK{w':World}{dl:Dl}{v:Value}{dst:oP Nat}(ho:Q3Y st dl.v dst=true)(h:Out E st a dl v w'):JQ E (put st dst dl) (a.put dst v) w':=by
 obtain⟨β,S,hR,hv⟩:=h;cases dst with
 |none=>exact⟨β,S,hR.n,hR.dfr,hR.tm,hR.hr⟩
 |some d=>
  simp only[Q3Y,Qq4,Qqc]at ho;obtain⟨h1,h2,h3⟩:=ho;have hd:d<a.tmps.size:=by have:=Qqt h1;have:=hR.n;grind
  refine⟨β,S,?_,hR.dfr,λt av ht=>?_,hR.hr⟩
  ·show(a.tmps.setIfInBounds d v).size=st.n;simpa using hR.n
  ·simp only[put,Xe]at ht;have ac:∀(u:Value) (av:AV),gds d av=false->RdA β S (look (MQ st.h dl.wr)) w' (tmv a) u av->RdA β S (look (put st (some d) dl).h) w' (tmv (a.put (some d) v)) u av:=by
    intro u av hg hr;refine hr.mono (λ_ h=>h) (λ_ _=>rfl) (λ_ _=>Keep.rfl_ ..) (λt' ai=>?_);rw[AF hd,Qqj (λe=>by simp_all)]
   rw[AF hd];by_cases e:t=d
   ·simp_all
   ·rw[Qqj e]at ht ⊢;exact ac _ _ (Qe1 ht h3) (hR.tm t av ht)
theorem Q5i{w:World}(hR:Rel E β S st a w)(x:Operand):RdA β S (look st.h) w (tmv a) (a.eval x) (evO st.tm x):=by
 cases x with
 |tmp t=>
  simp only[evO,lkT];cases h:look st.tm t with
  |none=>exact .top _
  |some av=>exact hR.tm t av h
 |const v=>exact Az v
 |global g=>exact .top _
 |func f=>exact .fn f #[] [] rfl (λi x h=>by simp at h)
theorem Rj{tm:Y (Nat×AV)}{s:Nat}{av:AV}(h:lkT tm s=av)(hn:av≠.top):look tm s=some av:=by
 unfold lkT at h;cases hl:look tm s with
 |none=>simp_all
 |some b=>simp_all
theorem Qb9{e w:Bool}:bw e w=true↔e=w:=by cases e<;>cases w<;>simp[bw]
theorem Q3S{β:Nat->oP Nat}{S:Nat->Prop}{st:St}{a:Act}{w:World}(hR:Rel E β S st a w):∀(f s:Nat) (b g:Bool) (ch:Y (Nat×Bool)),ctx st.tm f s b=some (g,ch) ->
  (g=true↔tmv a s = .bool b)/\(g=true->∀p∈ch,tmv a p.1 = .bool p.2)
 |0,s,b,g,ch,h=>by trivial
 |f+1,s,b,g,ch,h=>by
  unfold ctx at h;split at h
  ·rename_i e he;have hv:=(hR.tm s _ (Rj he Q2)).bool_inv
   grind[bw,tmv,bool,Qb9]
  ·rename_i s' w' e he;split at h
   ·rename_i g' l hc;obtain⟨h1,h2⟩:=Q3S hR f s' w' g' l hc;have hv:=(hR.tm s _ (Rj he Q2)).gd_inv;have h3:(g'=true/\bw e b=true)↔tmv a s = .bool b:=by
     rcases hv with⟨h4,h5⟩|⟨h4,h5⟩
     ·rw[h5.bool_inv,Qb9,h1];simp[h4]
     ·rw[h5,h1];constructor
      ·simp_all
      ·intro h;cases h
    grind
   ·cases h
  ·cases h
theorem Q4X{tm tm':Y (Nat×AV)}:∀(f s:Nat) (b g:Bool) (ch:Y (Nat×Bool)),ctx tm f s b=some (g,ch)->(∀p∈ch,lkT tm' p.1=lkT tm p.1)->ctx tm' f s b=some (g,ch)
 |0,s,b,g,ch,h,_=>by assumption
 |f+1,s,b,g,ch,h,hc=>by
  have hs:(s,b)∈ch:=by
   grind[ctx]
  have hl:=hc (s,b) hs;unfold ctx at h ⊢;split at h
  ·simp_all
  ·rename_i s' w' e he;split at h
   ·rename_i g' l aa;obtain⟨rfl,rfl⟩:=h;have:=Q4X f s' w' g' l aa (λp hp=>hc p (by simp[hp]))
    simp_all
   ·cases h
  ·cases h
theorem Q7w{s:Nat}{b:Bool}:∀{l:Y (Nat×Bool)},Qfb l s b=true->(s,b)∈l
 |(x,y)::r,h=>by
  simp only[Qfb,Qqi,Qq4]at h;rcases h with⟨h1,h2⟩ | h
  ·simp_all
  ·simp[Q7w h]
theorem QgJ{h:Nat->oP Ob}{w:World}{tm:Nat->Value}{v:Value}{av:AV}{ch:Y (Nat×Bool)}(hc:∀p∈ch,tm p.1 = .bool p.2)(hv:RdA β S h w tm v av):RdA β S h w tm v (unw ch av):=by
 cases av with
 |gd s b av=>
  simp only[unw];cases hg:Qfb ch s b with
  |false=>simp_all
  |true=>
   rcases hv.gd_inv with⟨_,h⟩|⟨h,_⟩
   ·exact h
   ·exact absurd (hc _ (Q7w hg)) h
 |_=>exact hv
theorem Qa1{l:Nat}{ch:Y (Nat×Bool)}{av:AV}(h:Yu l av=false):Yu l (unw ch av)=false:=by
 cases av with
 |gd s b av=>
  grind[unw,Qfb,Yu]
 |_=>exact h
def C9(P:Program)(E:Env)(ops:Array Oper)(i:Nat)(rc:Rec)(lk:Nat->AV)(hl:Nat->oP Ob):Prop:=
 ∀st a w,JQ E st a w->(∀t,t∈rc.rt->lkT st.tm t=lk t)->(∀l,l∈rc.dl.rd\/l∈wrL rc.dl->look st.h l=hl l)->Q3Y st rc.dl.v rc.dst=true->Wt st rc.dl.wr=true ->
  ∀Q:Exit->Act->World->Prop,wpOp P ops Q i (λa' w'=>JQ E (put st rc.dst rc.dl) a' w') a w
def Q4Q(st:St)(rc:Rec):Prop:=Q3Y st rc.dl.v rc.dst=true/\Wt st rc.dl.wr=true
theorem Q1p{t:Nat}:∀{l:Y Operand},Operand.tmp t∈l->t∈So l
 |x::r,h=>by
  rcases Qqb.1 h with rfl | h
  ·simp[So]
  ·have:=Q1p h;cases x<;>simp[So,this]
theorem Q2P{tm tm':Y (Nat×AV)}{ch:Y Nat}(h:∀t,t∈So o.op.operands.toList++ch->lkT tm' t=lkT tm t){x:Operand}(hx:x∈o.op.operands.toList):evO tm' x=evO tm x:=by
 cases x with
 |tmp t=>exact h t (by simp[Q1p hx])
 |_=>rfl
theorem Q1l{ops:Array Oper}{i:Nat}(hi:ops[i]? = some o)(hg:o.guard=none){tm:Y (Nat×AV)}{dl:Dl}(aa:K2 P E o (evO tm) hl dl) :
  C9 P E ops i ⟨So o.op.operands.toList++[],o.dst,dl⟩ (lkT tm) hl:=by
 intro st a w ⟨β,S,hR⟩ hlk hA hd hcw Q;unfold wpOp;simp only[hi,Region.wanted,hg,if_true];left;refine aa β S st a w hR (λx hx=>?_) hA hcw _ _ λv w' ac=>BK hd ac
 rw[<- Q2P hlk hx]
 grind[Q5i,Q1U]
theorem F4{ops:Array Oper}{j s:Nat}{b:Bool}(hs:(ops[j]?).bind (·.dst)=some s):(yielded ops a.tmps j == some b)=true↔tmv a s = .bool b:=by
 unfold yielded tmv;rw[hs];simp only[Option.bind_some,Array.getD];by_cases h:s<a.tmps.size
 ·simp only[h,dite_true,Qqg h];cases hv:a.tmps[s]<;>simp[hv]
 ·simp only[h,dite_false];constructor
  ·simp_all
  ·intro h;cases h
theorem Qfv{R:Type}{c:Bool}{x:oP R}{r:R}(h:(bif c then x else none)=some r):c=true/\x=some r:=by
 grind
theorem QiA{g:Bool}{x y z:D}(h:jD g x y=some z):z=bif g then x else y:=by
 unfold jD at h
 grind[Nat.eq_of_beq_eq_true]
theorem Qjl{g:Bool}{x y z:AV}(h:jA g x y=some z):z=bif g then x else y:=by
 unfold jA at h;split at h
 ·grind[QiA]
 ·simp_all
 ·replace h:=Qfv h
  obtain⟨hk,h⟩:=h
  simp_all
 ·cases h
theorem QeE{g:Bool}:∀{x y z:Y AV},jL g x y=some z->z=bif g then x else y
 |[],[],z,h=>by simp only[jL,Option.some.injEq]at h;subst h;cases g<;>rfl
 |[],_::_,z,h=>by simp[jL]at h
 |_::_,[],z,h=>by simp[jL]at h
 |a::r,b::s,z,h=>by
  simp only[jL]at h;split at h
  ·rename_i c hc;split at h
   ·rename_i t ht;injection h with h
    subst h;rw[Qjl hc,QeE ht];cases g<;>rfl
   ·cases h
  ·cases h
theorem Q21{hl:Nat->oP Ob}:∀{wr aa:Y (Nat×oP Ob)},jW true hl wr=some aa->aa=wr
 |[],_,h=>by simp only[jW,Option.some.injEq]at h;exact h.symm
 |(l,some (.box new))::r,aa,h=>by
  simp only[jW]at h;split at h
  ·split at h
   ·rename_i c hc;split at h
    ·rename_i t ht;injection h with h
     subst h;rw[QeE hc,Q21 ht];rfl
    ·cases h
   ·cases h
  ·cases h
 |(l,some (.arr e s rows))::r,aa,h=>by
  simp only[jW]at h;split at h
  ·split at h
   ·rename_i t ht;injection h with h
    subst h;rw[Q21 ht];rfl
   ·cases h
  ·cases h
 |(l,none)::r,aa,h=>by
  simp only[jW]at h;split at h
  ·rename_i t ht;injection h with h
   subst h;rw[Q21 ht]
  ·cases h
def QiT(hl:Nat->oP Ob)(l:Nat)(o:oP Ob):Prop:=o=hl l\/o=none\/(hl l=none/\∃e s,o=some (.arr e s []))
theorem BC{hl:Nat->oP Ob}:∀{wr aa:Y (Nat×oP Ob)},jW false hl wr=some aa->∀p,p∈aa->QiT hl p.1 p.2
 |[],_,h,p,hp=>by simp only[jW,Option.some.injEq]at h;subst h;cases hp
 |(l,some (.box new))::r,aa,h,p,hp=>by
  simp only[jW]at h;split at h
  ·rename_i old ho;split at h
   ·rename_i c hc;split at h
    ·rename_i t ht;injection h with h
     subst h;rcases Qqb.1 hp with rfl | hp
     ·rw[QeE hc];exact .inl ho.symm
     ·exact BC ht p hp
    ·cases h
   ·cases h
  ·cases h
 |(l,some (.arr e s rows))::r,aa,h,p,hp=>by
  simp only[jW]at h;split at h
  ·rename_i hn;split at h
   ·rename_i t ht;injection h with h
    subst h;rcases Qqb.1 hp with rfl | hp
    ·exact .inr (.inr ⟨hn,e,s,rfl⟩)
    ·exact BC ht p hp
   ·cases h
  ·cases h
 |(l,none)::r,aa,h,p,hp=>by
  simp only[jW]at h;split at h
  ·rename_i t ht;injection h with h
   subst h;rcases Qqb.1 hp with rfl | hp
   ·exact .inr (.inl rfl)
   ·exact BC ht p hp
  ·cases h
theorem Q1D{Q:Nat->oP Ob->Prop}:∀{wr:Y (Nat×oP Ob)} {f:Nat->oP Ob} {l:Nat},(∀p,p∈wr->Q p.1 p.2)->l∈wr.map (·.1)->Q l (Hc f wr l)
 |(k,o)::r,f,l,h,hl=>by
  by_cases hr:l∈r.map (·.1)
  ·exact Q1D (wr:=r) (λp hp=>h p (by simp[hp])) hr
  simp_all [Hc,UT]
theorem Q5d{st:St}{l:Nat}{o:Ob}:∀{wr:Y (Nat×oP Ob)},Wt st wr=true->(l,some o)∈wr->look st.h l=none->Uz st l=true
 |(k,o')::r,h,hm,hn=>by
  simp only[Wt,Qq4]at h;rcases Qqb.1 hm with he | hm
  ·injection he with h1 h2
   subst h1 h2;have:=h.1;rw[hn]at this;exact this
  ·exact Q5d h.2 hm hn
theorem Ek:∀{wr:Y (Nat×oP Ob)} {f:Nat->oP Ob} {l:Nat} {o:Ob},l∈wr.map (·.1)->Hc f wr l=some o->(l,some o)∈wr
 |(k,o')::r,f,l,o,hl,h=>by
  by_cases hr:l∈r.map (·.1)
  ·exact List.mem_cons_of_mem _ (Ek (wr:=r) hr h)
  simp_all [Hc,UT]
theorem QcL{w:World}(hR:Rel E β S st a w){wr:Y (Nat×oP Ob)}(hw:∀p,p∈wr->QiT (look st.h) p.1 p.2)(hc:Wt st wr=true) :
  ∃β',Rel E β' S ⟨st.n,st.tm,MQ st.h wr⟩ a w:=by
 have ac:look (MQ st.h wr)=Hc (look st.h) wr:=HA wr st.h;have ai:∀l,Hc (look st.h) wr l=look st.h l\/(Hc (look st.h) wr l=none/\l∈wr.map (·.1))\/(look st.h l=none/\l∈wr.map (·.1)/\∃e s,Hc (look st.h) wr l=some (.arr e s [])):=by
  intro l;by_cases hl:l∈wr.map (·.1)
  ·rcases Q1D (f:=look st.h) hw hl with h | h | ⟨h1,h2⟩
   all_goals grind
  grind[UT]
 let β':Nat->oP Nat:=λl=>if look st.h l=none/\(Hc (look st.h) wr l).isSome=true then none else β l
 have hβ:∀l,(Hc (look st.h) wr l=look st.h l)->β' l=β l:=by
  grind
 have aa:∀l b,(look (MQ st.h wr) l).isSome=true->β' l=some b->(look st.h l).isSome=true/\β l=some b:=by
  intro l b h1 h2;rw[ac]at h1
  grind
 refine⟨β',hR.upd (H':=MQ st.h wr) (w':=w) (S':=S) (β':=β') (λ_ h=>h) (λ_ _=>rfl) (λl=>¬ Hc (look st.h) wr l=look st.h l) (λl hl=>?_) (λl hl=>?_) (λl o hl ho=>?_) ?_ ?_ ?_ hR.hr.sb hR.hr.sfr hR.hr.fr⟩
 ·simp_all
 ·rcases ai l with h | ⟨h,hm⟩|⟨h1,hm,e,s,h2⟩
  ·simp_all
  ·left;refine⟨?_,λ_=>by simp_all,λe s rows _=>.inl (by rw[ac];exact h),λb cs ty fz hs=>(by rw[ac,h]at hs;cases hs),λ_ _ _=>.inl (by rw[ac];exact h)⟩
   grind
  grind[Q5d,Ek]
 ·rcases ai l with h | ⟨h,hm⟩|⟨h1,hm,e,s,h2⟩
  ·exact absurd h hl
  ·rw[ac,h]at ho;cases ho
  ·rw[ac,h2]at ho;injection ho with ho
   subst ho;refine .inl ⟨?_,rfl⟩;show(if look st.h l=none/\(Hc (look st.h) wr l).isSome=true then none else β l)=none;rw[Qqr ⟨h1,by rw[h2];rfl⟩]
 ·intro l l' b h1 h2 h3 h4;obtain⟨a1,a2⟩:=aa l b h1 h3;obtain⟨b1,b2⟩:=aa l' b h2 h4;exact hR.hr.inj l l' b a1 b1 a2 b2
 ·intro l b h1 h2;obtain⟨a1,a2⟩:=aa l b h1 h2;exact hR.hr.apart l b a1 a2
 ·intro l b h1 h2;obtain⟨a1,a2⟩:=aa l b h1 h2;exact hR.hr.own l b a1 a2
theorem Q3N{ops:Array Oper}{i j s:Nat}{b:Bool}(hi:ops[i]? = some o)(hg:o.guard=some (j,b))(hs:(ops[j]?).bind (·.dst)=some s){tm:Y (Nat×AV)}{g:Bool}{ch:Y (Nat×Bool)}(ak:ctx tm 40 s b=some (g,ch)){dl:Dl}{wr:Y (Nat×oP Ob)}(hw:jW g hl dl.wr=some wr)(ac:g=true->K2 P E o (λx=>unw ch (evO tm x)) hl dl) :
  C9 P E ops i ⟨So o.op.operands.toList++ch.map (·.1),o.dst,⟨.gd s b dl.v,wr,dl.rd⟩⟩ (lkT tm) hl:=by
 intro st a w ⟨β,S,hR⟩ hlk hA hd hcw Q;have aj:=Q4X 40 s b g ch ak (tm':=st.tm) (λp hp=>hlk p.1 (by grind));obtain⟨h1,h2⟩:=Q3S hR 40 s b g ch aj;have hy:=F4 (a:=a) (b:=b) hs;unfold wpOp;simp only[hi,Region.wanted,hg];cases g with
 |true=>
  have aa:=h1.1 rfl;rw[Qqr (hy.2 aa)];left;obtain rfl:=Q21 hw;refine ac rfl β S st a w hR (λx hx=>?_) (λl h=>hA l h) hcw _ _ λv w' am=>?_
  ·have he:=Q2P hlk hx;show RdA _ _ _ _ _ _ (unw ch (evO tm x))/\∀l,Uz st l=true->Yu l (unw ch (evO tm x))=false;rw[<- he];exact⟨QgJ (h2 rfl) (Q5i hR x),λl hc=>Qa1 (Q1U hc x)⟩
  ·refine BK hd ?_;obtain⟨β',S',ai,hv⟩:=am;exact⟨β',S',ai,.gdT _ _ _ _ aa hv⟩
 |false=>
  have aa:¬ tmv a s = .bool b:=λh=>by simp_all
  rw[Qqj (λh=>aa (hy.1 h))];obtain⟨β',ai⟩:=QcL hR (wr:=wr) (λp hp=>by
   have:=BC hw p hp;have he:look st.h p.1=hl p.1:=hA p.1 (.inr (Qqp.2 ⟨p,hp,rfl⟩))
   grind[QiT]) hcw
  exact BK hd ⟨β',S,ai,.gdF _ _ _ aa⟩
theorem NW{ch:Y Nat}{dl:Dl}{k:St->Rec->oP R}{r:R}(h:QdZ st o ch dl k=some r) :
  Q4Q st ⟨So o.op.operands.toList++ch,o.dst,dl⟩/\k (put st o.dst dl) ⟨So o.op.operands.toList++ch,o.dst,dl⟩=some r:=by
 unfold QdZ at h;cases hc:(Q3Y st dl.v o.dst&&Wt st dl.wr)with
 |false=>simp_all
 |true=>
  simp only[hc,Qq8]at h;simp only[Qq4]at hc;trivial
theorem Q6p{spec:Q6g}{tt:TT}(hS:A9 P spec)(hT:TOk P tt){ops:Array Oper}{i:Nat}(hi:ops[i]? = some o){k:St->Rec->oP R}{r:R}(h:Qf3 spec tt ops o st k=some r) :
  ∃rc,k (put st rc.dst rc.dl) rc=some r/\rc.dst=o.dst/\Q4Q st rc/\C9 P E ops i rc (lkT st.tm) (look st.h):=by
 unfold Qf3 at h;split at h
 ·rename_i hg;obtain⟨dl,h,aa⟩:=EE (E:=E) hS hT h;obtain⟨hs,hk⟩:=NW h;exact⟨_,hk,rfl,hs,Q1l hi hg (aa rfl)⟩
 ·rename_i j b hg;split at h
  ·rename_i s hs;split at h
   ·rename_i g ch ai;obtain⟨dl,h,aa⟩:=EE (E:=E) hS hT h;split at h
    ·rename_i wr hw;obtain⟨aj,hk⟩:=NW h;exact⟨_,hk,rfl,aj,Q3N hi hg hs ai hw aa⟩
    ·cases h
   ·cases h
  ·cases h
def Q0b(P:Program)(E:Env)(ops:Array Oper):Nat->St->Y Rec->St->Prop
 |_,st,[],st'=>st'=st
 |i,st,rc::rs,st'=>(∃o,ops[i]? = some o/\rc.dst=o.dst)/\Q4Q st rc/\C9 P E ops i rc (lkT st.tm) (look st.h)/\Q0b P E ops (i+1) (put st rc.dst rc.dl) rs st'
theorem Q1K{spec:Q6g}{tt:TT}(hS:A9 P spec)(hT:TOk P tt){ops:Array Oper}{R:Type}:∀(l:Y Oper) (i:Nat) (st:St) (acc:Y Rec) (k:St->Y Rec->oP R) (r:R),(∀j,l[j]? = ops[i+j]?) ->
  Qih spec tt ops l st acc k=some r->∃recs st',recs.length=l.length/\k st' (acc++recs)=some r/\Q0b P E ops i st recs st'
 |[],i,st,acc,k,r,_,h=>⟨[],st,rfl,by grind[Qih],rfl⟩
 |o::l,i,st,acc,k,r,hl,h=>by
  have h0:ops[i]? = some o:=by simpa using (hl 0).symm
  obtain⟨rc,h,hd,hs,aa⟩:=Q6p (E:=E) hS hT h0 h;obtain⟨recs,st',h1,h2,h3⟩:=Q1K hS hT l (i+1) _ _ k r (λj=>by have:=hl (j+1);grind) h;exact⟨rc::recs,st',by simp[h1],by simp_all,⟨o,h0,hd⟩,hs,aa,h3⟩
theorem Am{s:Nat}{b:Bool}:∀{tm:Y (Nat×AV)},lkT tm s = .d (.bool b)->Q4v s b tm=tm
 |[],h=>by simp[lkT,look]at h
 |(t,a)::r,h=>by
  simp only[Q4v];cases ht:Nat.beq t s with
  |true=>
   simp only[lkT,look,ht,Qq8,Qqn]at h;rw[Qq8,h]
  |false=>
   simp only[lkT,look,ht,Qql]at h;rw[Qql,Am (tm:=r) h]
theorem Q5W{ops:Array Oper}{i j s:Nat}{b:Bool}(hi:ops[i]? = some o)(hg:o.guard=some (j,b))(hs:(ops[j]?).bind (·.dst)=some s){tm:Y (Nat×AV)}(ac:lkT tm s = .d (.bool b)){dl:Dl}(aa:K2 P E o (evO tm) hl dl) :
  C9 P E ops i ⟨So o.op.operands.toList++[s],o.dst,dl⟩ (lkT tm) hl:=by
 intro st a w ⟨β,S,hR⟩ hlk hA hd hcw Q;have aj:tmv a s = .bool b:=by
  have h1:=Q5i hR (.tmp s);rw[show evO st.tm (.tmp s)=lkT st.tm s from rfl,hlk s Q2,ac]at h1;exact h1.bool_inv
 unfold wpOp;simp only[hi,Region.wanted,hg];rw[Qqr ((F4 hs).2 aj)];left;refine aa β S st a w hR (λx hx=>?_) hA hcw _ _ λv w' ai=>BK hd ai
 rw[<- Q2P hlk hx]
 grind[Q5i,Q1U]
theorem Qbt{ops:Array Oper}{i j s:Nat}{b c:Bool}(hi:ops[i]? = some o)(hg:o.guard=some (j,b))(hs:(ops[j]?).bind (·.dst)=some s){tm:Y (Nat×AV)}(ac:lkT tm s = .d (.bool c))(ai:c≠b){av:AV} :
  C9 P E ops i ⟨So o.op.operands.toList++[s],o.dst,⟨.gd s b av,[],[]⟩⟩ (lkT tm) hl:=by
 intro st a w ⟨β,S,hR⟩ hlk hA hd hcw Q;have ak:tmv a s = .bool c:=by
  have h1:=Q5i hR (.tmp s);rw[show evO st.tm (.tmp s)=lkT st.tm s from rfl,hlk s Q2,ac]at h1;exact h1.bool_inv
 have aa:¬ tmv a s = .bool b:=by simp_all
 unfold wpOp;simp only[hi,Region.wanted,hg];rw[Qqj (λh=>aa ((F4 hs).1 h))];exact BK hd ⟨β,S,hR,.gdF _ _ _ aa⟩
theorem Q0h{spec:Q6g}{tt:TT}(hS:A9 P spec)(hT:TOk P tt){ops:Array Oper}{R:Type}:∀(l:Y Oper) (i:Nat) (st:St) (acc:Y Rec) (k:St->Y Rec->oP R) (r:R),(∀j,l[j]? = ops[i+j]?) ->
  Q1T spec tt ops l st acc k=some r->∃recs st',recs.length=l.length/\k st' (acc++recs)=some r/\Q0b P E ops i st recs st'
 |[],i,st,acc,k,r,_,h=>⟨[],st,rfl,by grind[Q1T],rfl⟩
 |o::l,i,st,acc,k,r,hl,h=>by
  have h0:ops[i]? = some o:=by simpa using (hl 0).symm
  have next:∀rc,rc.dst=o.dst->Q4Q st rc->C9 P E ops i rc (lkT st.tm) (look st.h)->Q1T spec tt ops l (put st rc.dst rc.dl) (acc++[rc]) k=some r->∃recs st',recs.length=(o::l).length/\k st' (acc++recs)=some r/\Q0b P E ops i st recs st':=by
   intro rc hd hs an h;obtain⟨recs,st',h1,h2,h3⟩:=Q0h hS hT l (i+1) _ _ k r (λj=>by have:=hl (j+1);grind) h;exact⟨rc::recs,st',by simp[h1],by simp_all,⟨o,h0,hd⟩,hs,an,h3⟩
  have one:∀(j s:Nat) (w c:Bool),o.guard=some (j,w)->(ops[j]?).bind (·.dst)=some s->lkT st.tm s = .d (.bool c)->Q7Z spec tt o s w c st (λst' rec=>Q1T spec tt ops l st' (acc++[rec]) k)=some r->∃recs st',recs.length=(o::l).length/\k st' (acc++recs)=some r/\Q0b P E ops i st recs st':=by
   intro j s w c hg hs aa h;unfold Q7Z at h;cases hb:(bif c then w else !w)with
   |true=>
    simp only[hb,Qq8]at h;have ak:c=w:=by grind
    subst ak;obtain⟨dl,h,ac⟩:=EE (E:=E) hS hT h;obtain⟨ai,hk⟩:=NW h;exact next _ rfl ai (Q5W h0 hg hs aa (ac rfl)) hk
   |false=>
    simp only[hb,Qql]at h;have ak:c≠w:=by grind
    obtain⟨ai,hk⟩:=NW h;exact next _ rfl ai (Qbt h0 hg hs aa ak) hk
  rw[Q1T]at h;split at h
  ·rename_i hg;obtain⟨dl,h,ac⟩:=EE (E:=E) hS hT h;obtain⟨ai,hk⟩:=NW h;exact next _ rfl ai (Q1l h0 hg (ac rfl)) hk
  ·rename_i j w hg;split at h
   ·rename_i s hs;split at h
    ·rename_i c aa;cases c with
     |true=>
      simp only[Qq8,Am aa]at h;exact one j s w true hg hs aa h
     |false=>
      simp only[Qql,Am aa]at h;exact one j s w false hg hs aa h
    ·cases h
   ·cases h
theorem Q9q{ops:Array Oper}{Q:Exit->Act->World->Prop}{st':St}(hQ:∀a w,JQ E st' a w->Q .normal a w):∀(recs:Y Rec) (i:Nat) (st:St) (a:Act) (w:World),Q0b P E ops i st recs st'->JQ E st a w ->
  wpOps P ops Q (List.range' i recs.length) a w
 |[],i,st,a,w,h,hR=>by
  simp only[Q0b]at h;subst h;exact hQ a w hR
 |rc::rs,i,st,a,w,h,hR=>by
  obtain⟨_,hs,aa,ac⟩:=h;simp only[List.length_cons,List.range'_succ];rw[wpOps_cons];exact wpOp_mono (λa' w' ai=>Q9q hQ rs (i+1) _ a' w' ac ai) (aa st a w hR (λ_ _=>rfl) (λ_ _=>rfl) hs.1 hs.2 Q)
end
end Go.Vx
namespace Go.Vx
section
variable{P:Program} {E:Env} {R:Type}
def Lst(listed:Array Bool)(i:Nat):Prop:=listed.getD i false=true
def Q2A(listed:Array Bool)(es:Y Edge):Prop:=∀e∈es,Region.binds .any e=true->Lst listed e.on
def Ly(ops:Y Oper)(listed:Array Bool):Prop:=∀(j:Nat) (o:Oper),ops[j]? = some o->Lst listed j->Q2A listed o.after.toList
theorem Q1I(acc:Y Nat)(i:Nat):∀(es:Y Edge) (s:Nat),(Q54 acc es s).testBit i=true->s.testBit i=true\/∃e∈es,Region.binds .any e=true/\(e.on=i\/(acc.getD e.on 0).testBit i=true)
 |[],s,h=>.inl h
 |e::r,s,h=>by
  simp only[Q54]at h;rcases Q1I acc i r _ h with h1 | ⟨e',h1,h2⟩
  ·cases hb:Region.binds .any e with
   |false=>rw[hb]at h1;exact .inl (by simpa using h1)
   |true=>
    rw[hb]at h1;simp only[Qq8,Nat.testBit_or,Qqi]at h1;rcases h1 with(h1 | h1) | h1
    ·exact .inl h1
    ·refine .inr ⟨e,by simp,hb,.inl ?_⟩;rw[Nat.testBit_two_pow]at h1;simpa using h1
    ·exact .inr ⟨e,by simp,hb,.inr h1⟩
  ·exact .inr ⟨e',by simp[h1],h2⟩
theorem Q88(ops:Y Oper):∀(l:Y Oper) (acc:Y Nat),(∀k,l[k]? = ops[acc.length+k]?) ->
  (∀(j i m:Nat) (o:Oper),acc[j]? = some m->ops[j]? = some o->m.testBit i=true->∀listed,Ly ops listed->Q2A listed o.after.toList->Lst listed i) ->
  (Q3k l acc).length=acc.length+l.length /\
  ∀(j i m:Nat) (o:Oper),(Q3k l acc)[j]? = some m->ops[j]? = some o->m.testBit i=true->∀listed,Ly ops listed->Q2A listed o.after.toList->Lst listed i
 |[],acc,_,h=>⟨by simp[Q3k],h⟩
 |o::l,acc,hl,h=>by
  have h0:ops[acc.length]? = some o:=by simpa using (hl 0).symm
  have:=Q88 ops l (acc++[Q54 acc o.after.toList 0]) (λk=>by
   have:=hl (k+1)
   grind) (λj i m o' h1 h2 h3 listed hc hp=>by
   by_cases hj:j<acc.length
   ·grind
   ·have ak:j=acc.length:=by
     grind
    subst ak;rw[List.getElem?_append_right (Nat.le_refl _)]at h1;simp at h1;subst h1;rw[h0]at h2;injection h2 with h2
    subst h2;rcases Q1I acc i _ _ h3 with h4 | ⟨e,h4,h5,h6⟩
    ·simp at h4
    ·have ac:=hp e h4 h5;rcases h6 with h6 | h6
     ·rw[<- h6];exact ac
     ·by_cases he:e.on<acc.length
      ·obtain⟨m',aa⟩:∃m',acc[e.on]? = some m':=⟨_,Qq9 he⟩;have ai:e.on<ops.length:=by
        have:=(Qq7.1 h0).1;omega
       have ho:=Qq9 ai;refine h e.on i m' _ aa ho ?_ listed hc (hc e.on _ ho ac);rw[List.getD_eq_getElem?_getD,aa]at h6;simpa using h6
      ·rw[List.getD_eq_getElem?_getD,Qqs I]at h6;simp at h6)
  grind[Q3k,Nat.add_assoc,Nat.add_comm]
def DL(listed:Array Bool):Nat->St->Y Rec->St
 |_,st,[]=>st
 |i,st,rc::rs=>DL listed (i+1) (bif listed.getD i false then put st rc.dst rc.dl else st) rs
def lkA(listed:Array Bool)(t:Nat):Nat->AV->Y Rec->AV
 |_,v,[]=>v
 |i,v,rc::rs=>lkA listed t (i+1) (if listed.getD i false=true/\rc.dst=some t then rc.dl.v else v) rs
def hA(listed:Array Bool):Nat->(Nat->oP Ob)->Y Rec->Nat->oP Ob
 |_,h,[]=>h
 |i,h,rc::rs=>hA listed (i+1) (if listed.getD i false=true then Hc h rc.dl.wr else h) rs
theorem Q9D(st:St)(dst:oP Nat)(dl:Dl)(t:Nat):lkT (put st dst dl).tm t=if dst=some t then dl.v else lkT st.tm t:=by
 cases dst with
 |none=>simp[put]
 |some d=>
  grind[put,lkT,Xe,Option.some.injEq]
theorem LC(listed:Array Bool)(t:Nat):∀(recs:Y Rec) (i:Nat) (st:St),lkT (DL listed i st recs).tm t=lkA listed t i (lkT st.tm t) recs
 |[],_,_=>rfl
 |rc::rs,i,st=>by
  simp only[DL,lkA];rw[LC listed t rs];congr 1;cases hl:listed.getD i false with
  |true=>simp[Q9D]
  |false=>simp
theorem C1(listed:Array Bool):∀(recs:Y Rec) (i:Nat) (st:St),look (DL listed i st recs).h=hA listed i (look st.h) recs
 |[],_,_=>rfl
 |rc::rs,i,st=>by
  simp only[DL,hA];rw[C1 listed rs];congr 1;cases hl:listed.getD i false with
  |true=>simp[put,HA]
  |false=>simp
theorem Q1F(listed:Array Bool):∀(recs:Y Rec) (i:Nat) (st:St),(DL listed i st recs).n=st.n
 |[],_,_=>rfl
 |rc::rs,i,st=>by
  simp only[DL];rw[Q1F listed rs];cases listed.getD i false<;>rfl
theorem EP{L1 L2:Array Bool}{t:Nat}:∀(recs:Y Rec) (i:Nat) (v:AV),(∀k rc,recs[k]? = some rc->rc.dst=some t->(Lst L1 (i+k)↔Lst L2 (i+k)))->lkA L1 t i v recs=lkA L2 t i v recs
 |[],_,_,_=>rfl
 |rc::rs,i,v,h=>by
  simp only[lkA];have h0:=h 0 rc rfl;have:(if L1.getD i false=true/\rc.dst=some t then rc.dl.v else v)=if L2.getD i false=true/\rc.dst=some t then rc.dl.v else v:=by
   by_cases hd:rc.dst=some t
   all_goals simp_all [Lst,Nat.add_zero]
  rw[this];exact EP rs (i+1) _ λk ac hk hd=>by
   have:=h (k+1) ac Q4 hd
   grind
theorem Bw{L1 L2:Array Bool}{l:Nat}:∀(recs:Y Rec) (i:Nat) (h1 h2:Nat->oP Ob),h1 l=h2 l->(∀k rc,recs[k]? = some rc->l∈wrL rc.dl->(Lst L1 (i+k)↔Lst L2 (i+k)))->hA L1 i h1 recs l=hA L2 i h2 recs l
 |[],_,_,_,he,_=>he
 |rc::rs,i,h1,h2,he,h=>by
  refine Bw rs (i+1) _ _ ?_ λk ac hk hd=>by
   have:=h (k+1) ac Q4 hd
   grind
  by_cases hd:l∈wrL rc.dl
  ·have:=h 0 rc rfl hd;simp only[Lst,Nat.add_zero]at this;by_cases hl:L1.getD i false=true
   ·rw[Qqr hl,Qqr (this.1 hl)];exact Q7s hd
   simp_all
  ·have e1:∀(c:Prop) [Decidable c] (f:Nat->oP Ob),(if c then Hc f rc.dl.wr else f) l=f l:=by
    intro c _ f;split
    ·exact UT hd
    ·rfl
   simp_all
theorem JQ.same{st st':St}{a:Act}{w:World}(h:JQ E st a w)(hn:st'.n=st.n)(ht:∀t,lkT st'.tm t=lkT st.tm t)(hh:look st'.h=look st.h):JQ E st' a w:=by
 obtain⟨β,S,hR⟩:=h;refine⟨β,S,by rw[hn];exact hR.n,hR.dfr,λt av ac=>?_,by rw[hh];exact hR.hr⟩;rw[hh];have h1:lkT st.tm t=av:=by grind[lkT]
 unfold lkT at h1;cases hl:look st.tm t with
 |none=>rw[hl]at h1;subst h1;exact .top _
 |some b=>rw[hl]at h1;subst h1;exact hR.tm t _ hl
end
section
variable{P:Program} {E:Env} {R:Type}
theorem Bl{x:Nat}:∀{l:Y Nat},Sa x l=true↔x∈l
 |[]=>by simp[Sa]
 |a::r=>by
  simp only[Sa,Qqi,Qqb,Bl (l:=r)];constructor
  ·rintro (h | h)
   ·exact .inl (Qq3 h).symm
   ·exact .inr h
  ·rintro (h | h)
   ·subst h;exact .inl (Nat.beq_refl _)
   ·exact .inr h
theorem N6{a b:Y Nat}{x:Nat}(h1:x∈a)(h2:x∈b):Tj a b=true:=by
 grind[Tj,List.any_eq_true,AX]
theorem Di{i:Nat}{a:Rec}{news:Y Nat}:∀{rs:Y Rec} {ms:Y Nat},BF i a news rs ms=true->∀(k:Nat) (b:Rec),rs[k]? = some b->∃m,ms[k]? = some m /\
  (U1 a b=true\/(∃l∈news,Cm l b=true)\/Qgy a.dst b.dl.v=true->m.testBit i=true)
 |[],_,_,k,b,hb=>by simp at hb
 |b0::r,[],h,k,b,hb=>by trivial
 |b0::r,m::ms,h,k,b,hb=>by
  simp only[BF,Qq4]at h;cases k with
  |zero=>
   grind
  |succ k=>exact Di h.2 k b Q4
theorem MX{ac:St}{aa:Y Nat}:∀{wr:Y (Nat×oP Ob)} {l:Nat},l∈P4 ac aa wr->WU l wr=true
 |[],l,h=>by simp[P4]at h
 |(k,o)::r,l,h=>by
  unfold P4 at h;split at h
  ·cases hm:Sa k aa with
   |true=>simp only[hm,Qq8]at h;simp[WU,MX h]
   |false=>
    simp only[hm,Qql,Qqb]at h;rcases h with rfl | h
    ·simp[WU]
    ·simp[WU,MX h]
  ·simp[WU,MX h]
theorem Q45{ac:St}{aa:Y Nat}{l:Nat}(hn:look ac.h l=none)(hs:l ∉ aa):∀{wr:Y (Nat×oP Ob)},WU l wr=true->l∈P4 ac aa wr
 |(k,o)::r,h=>by
  simp only[WU,Qqi,Qq4]at h;by_cases hk:k=l/\o.isSome=true
  ·obtain⟨rfl,ho⟩:=hk;obtain⟨o',rfl⟩:=Qqk.1 ho
   grind[Sa,absurd,Bl,P4]
  ·have hr:WU l r=true:=by
    grind[absurd,Nat.eq_of_beq_eq_true]
   have:=Q45 hn hs hr;unfold P4
   grind
theorem LJ{aj:St}:∀{rs:Y Rec} {i:Nat} {ai:Y Rec} {ac:Y Nat} {ms:Y Nat},Fj aj i ai ac rs ms=true->∀(k:Nat) (a:Rec),rs[k]? = some a ->
  ∃aa,(∀l∈aa,l∈ac\/∃k' b,k'<k/\rs[k']? = some b/\WU l b.dl.wr=true)/\BF (i+k) a (P4 aj aa a.dl.wr) (rs.drop (k+1)) (ms.drop (k+1))=true /\
   ∀l∈P4 aj aa a.dl.wr,Uz aj l=true/\(∀b∈ai,Cm l b=false)/\∀k' b,k'<k->rs[k']? = some b->Cm l b=false
 |[],i,ai,ac,ms,_,k,a,ha=>by simp at ha
 |a0::r,i,ai,ac,[],h,k,a,ha=>by simp[Fj]at h
 |a0::r,i,ai,ac,m::ms,h,k,a,ha=>by
  simp only[Fj,Qq4]at h;obtain⟨⟨h1,h2⟩,h3⟩:=h;cases k with
  |zero=>
   simp at ha;subst ha;refine⟨ac,λl hl=>.inl hl,by simpa using h1,λl hl=>?_⟩;rw[List.all_eq_true]at h2;have:=h2 l hl;simp only[Qq4,List.all_eq_true,Qqc]at this;exact⟨this.1,this.2,λk' b hk=>by omega⟩
  |succ k=>
   obtain⟨aa,g1,g2,g3⟩:=LJ h3 k a (by simpa using ha);refine⟨aa,λl hl=>?_,?_,λl hl=>?_⟩
   ·rcases g1 l hl with g | ⟨k',b,g4,g5,g6⟩
    ·rcases List.mem_append.1 g with g | g
     ·exact .inl g
     ·exact .inr ⟨0,a0,I,rfl,MX g⟩
    ·exact .inr ⟨k'+1,b,I,by simpa using g5,g6⟩
   ·rw[show i+(k+1)=i+1+k from I];simpa using g2
   ·obtain⟨g4,g5,g6⟩:=g3 l hl;refine⟨g4,λb hb=>g5 b (by simp[hb]),λk' b hk hb=>?_⟩;cases k' with
    |zero=>simp at hb;subst hb;exact g5 a0 Q2
    |succ k'=>exact g6 k' b I (by simpa using hb)
theorem N8{l:Nat}:∀{wr:Y (Nat×oP Ob)},WU l wr=true->l∈wr.map (·.1)
 |(k,o)::r,h=>by
  simp only[WU,Qqi,Qq4]at h;rcases h with⟨_,h2⟩ | h
  ·simp[Qq3 h2]
  ·simp only[Qqh,Qqb];exact .inr (N8 h)
theorem DE{l:Nat}:∀{wr:Y (Nat×oP Ob)} {h:Nat->oP Ob},(∀o,(l,o)∈wr->o.isSome=true)->(h l).isSome=true\/WU l wr=true->(Hc h wr l).isSome=true
 |[],h,_,hs=>by
  rcases hs with hs | hs
  ·exact hs
  ·simp[WU]at hs
 |(k,o)::r,h,hn,hs=>by
  simp only[Hc];refine DE (λo' aa=>hn o' (by simp[aa])) ?_;by_cases e:l=k
  ·subst e;left;rw[Qqr rfl];exact hn o Q2
  ·rw[Qqj e];rcases hs with hs | hs
   ·exact .inl hs
   ·simp only[WU,Qqi,Qq4]at hs;rcases hs with⟨_,h2⟩ | hs
    ·exact absurd (Qq3 h2).symm e
    ·exact .inr hs
theorem Q6Y{recs:Y Rec}{l:Nat}:∀{wr:Y (Nat×oP Ob)},QdO recs wr=true->(l,none)∈wr->∀b∈recs,WU l b.dl.wr=false
 |(k,o)::r,h,hm,b,hb=>by
  rcases Qqb.1 hm with e | aa
  ·injection e with e1 e2
   subst e1;subst e2;simp only[QdO,Qq4,List.all_eq_true,Qqc]at h;exact h.1 b hb
  ·cases o with
   |none=>simp only[QdO,Qq4]at h;exact Q6Y h.2 aa b hb
   |some o=>simp only[QdO]at h;exact Q6Y h aa b hb
theorem Qdw:∀{recs:Y Rec} (k:Nat) (b:Rec),rmL recs=true->recs[k]? = some b->QdO (recs.drop k) b.dl.wr=true
 |a::r,0,b,h,hb=>by
  simp only[rmL,Qq4]at h;simp at hb;subst hb;exact h.1
 |a::r,k+1,b,h,hb=>by
  simp only[rmL,Qq4]at h;exact Qdw k b h.2 (by simpa using hb)
theorem Q3x{listed:Array Bool}{l:Nat}:∀(recs:Y Rec) (i:Nat) (h:Nat->oP Ob),(∀k b,recs[k]? = some b->Lst listed (i+k)->∀o,(l,o)∈b.dl.wr->o.isSome=true)->((h l).isSome=true\/∃k b,recs[k]? = some b/\Lst listed (i+k)/\WU l b.dl.wr=true)->(hA listed i h recs l).isSome=true
 |[],i,h,_,hs=>by
  rcases hs with hs | ⟨k,b,hb,_⟩
  ·exact hs
  ·simp at hb
 |rc::rs,i,h,hn,hs=>by
  simp only[hA];refine Q3x rs (i+1) _ (λk b hb hl=>hn (k+1) b (by simpa using hb) (by rw[show i+(k+1)=i+1+k from I];exact hl)) ?_;rcases hs with hs | ⟨k,b,hb,hl,ho⟩
  ·left;split
   ·rename_i aa;exact DE (hn 0 rc rfl (by simpa[Lst]using aa)) (.inl hs)
   ·exact hs
  ·cases k with
   |zero=>
    simp at hb;subst hb;left;rw[Qqr (by simpa[Lst]using hl)];exact DE (hn 0 rc rfl hl) (.inr ho)
   |succ k=>exact .inr ⟨k,b,by simpa using hb,by rw[show i+1+k=i+(k+1)from I];exact hl,ho⟩
theorem Q90{l:Nat}{st:St}{dst:oP Nat}{dl:Dl}(h1:AY l st.tm=false)(h2:Yu l dl.v=false):AY l (put st dst dl).tm=false:=by
 cases dst<;>simp[put,AY,h1,h2]
theorem SM{l:Nat}:∀{wr:Y (Nat×oP Ob)} {h:Y (Nat×Ob)},Jx l h=false->Pl l wr=false->Jx l (MQ h wr)=false
 |[],h,h1,_=>h1
 |(k,none)::r,h,h1,h2=>by simp only[MQ];exact SM (V8 h1) (by simpa[Pl]using h2)
 |(k,some (.box c))::r,h,h1,h2=>by
  simp only[Pl,Qqo]at h2;simp only[MQ];exact SM (by simp[Jx,h2.1,V8 h1]) h2.2
 |(k,some (.arr e s rows))::r,h,h1,h2=>by
  simp only[Pl]at h2;simp only[MQ];exact SM (by simp[Jx,V8 h1]) h2
 |(k,some (.mp t f))::r,h,h1,h2=>by
  simp only[Pl]at h2;simp only[MQ];exact SM (by simp[Jx,V8 h1]) h2
theorem Q4i{listed:Array Bool}{l:Nat}:∀(recs:Y Rec) (i:Nat) (st:St),Uz st l=true->(∀k b,recs[k]? = some b->Lst listed (i+k)->Cm l b=false)->Uz (DL listed i st recs) l=true
 |[],_,_,h,_=>h
 |rc::rs,i,st,h,hn=>by
  simp only[DL];refine Q4i rs (i+1) _ ?_ λk b hb hl=>hn (k+1) b (by simpa using hb) (by rw[show i+(k+1)=i+1+k from I];exact hl)
  cases hl:listed.getD i false with
  |false=>exact h
  |true=>
   have:=hn 0 rc rfl hl;simp only[Cm,Qqo]at this;simp only[Uz,Qq4,Qqc]at h ⊢;exact⟨h.1,Q90 h.2.1 this.1,by simp only[Qq8,put];exact SM h.2.2 this.2⟩
theorem Q7a{listed:Array Bool}{d:Nat}:∀(recs:Y Rec) (i:Nat) (st:St),Qb8 d st.tm=false->(∀k b,recs[k]? = some b->Lst listed (i+k)->b.dst≠none->gds d b.dl.v=false)->Qb8 d (DL listed i st recs).tm=false
 |[],_,_,h,_=>h
 |rc::rs,i,st,h,hn=>by
  simp only[DL];refine Q7a rs (i+1) _ ?_ λk b hb hl=>hn (k+1) b (by simpa using hb) (by rw[show i+(k+1)=i+1+k from I];exact hl)
  cases hl:listed.getD i false with
  |false=>exact h
  |true=>
   cases hd:rc.dst with
   |none=>simpa[put]using h
   |some d'=>simp[put,Qb8,h,hn 0 rc rfl hl (by simp[hd])]
theorem Q7O{listed:Array Bool}{d:Nat}:∀(recs:Y Rec) (i:Nat) (st:St),Qb8 d (DL listed i st recs).tm=false->Qb8 d st.tm=false/\∀k b,recs[k]? = some b->Lst listed (i+k)->b.dst≠none->gds d b.dl.v=false
 |[],_,_,h=>⟨h,λk b hb=>by simp at hb⟩
 |rc::rs,i,st,h=>by
  obtain⟨h1,h2⟩:=Q7O rs (i+1) _ h;refine⟨?_,λk b hb hl hd=>?_⟩
  ·cases hl:listed.getD i false with
   |false=>simp_all
   |true=>
    cases hd:rc.dst with
    |none=>grind[put]
    |some d'=>simp_all [Qq8,put,Qb8,Qqo]
  ·cases k with
   |zero=>
    have ai:listed.getD i false=true:=by assumption
    cases aj:rc.dst with
    |none=>simp_all
    |some d'=>simp_all [Qq8,put,Qb8,Qqo]
   |succ k=>grind
def Qam(st:St):Nat->Y Rec->St
 |0,_=>st
 |_,[]=>st
 |i+1,rc::rs=>Qam (put st rc.dst rc.dl) i rs
theorem Q7j{ops:Array Oper}{st':St}:∀{recs:Y Rec} {i:Nat} {st:St},Q0b P E ops i st recs st'->∀(k:Nat) (rc:Rec),recs[k]? = some rc ->
  (∃o,ops[i+k]? = some o/\rc.dst=o.dst)/\Q4Q (Qam st k recs) rc/\C9 P E ops (i+k) rc (lkT (Qam st k recs).tm) (look (Qam st k recs).h)
 |[],_,_,_,k,rc,h=>by simp at h
 |r0::rs,i,st,hr,k,rc,h=>by
  obtain⟨h1,h2,h3,h4⟩:=hr;cases k with
  |zero=>simp at h;subst h;exact⟨h1,h2,h3⟩
  |succ k=>
   have:=Q7j h4 k rc (by simpa using h);rw[show i+1+k=i+(k+1)from I]at this;exact this
theorem Fu{ops:Array Oper}{st':St}:∀{recs:Y Rec} {i:Nat} {st:St},Q0b P E ops i st recs st'->st'=Qam st recs.length recs
 |[],_,_,h=>h
 |_::rs,_,_,h=>Fu (recs:=rs) h.2.2.2
def Nw(n k:Nat):Array Bool:=(Array.range n).map λi=>decide (i<k)
theorem H3{n k i:Nat}(hi:i<n):Lst (Nw n k) i↔i<k:=by
 unfold Lst Nw;simp[hi]
theorem Fp{n:Nat}:∀(recs:Y Rec) (i k:Nat) (st:St),i+recs.length<=n->Qam st k recs=DL (Nw n (i+k)) i st recs
 |[],i,k,st,_=>by cases k<;>rfl
 |rc::rs,i,0,st,h=>by
  simp only[Qam,DL];have h0:¬ Lst (Nw n (i+0)) i:=by grind[H3]
  have:(Nw n (i+0)).getD i false=false:=by grind[Lst]
  have:∀(rs:Y Rec) (j:Nat) (st:St),i<j->j+rs.length<=n->DL (Nw n i) j st rs=st:=by
   intro rs;induction rs with
   |nil=>intro j st _ _;rfl
   |cons x r aa=>
    intro j st hj hn;simp only[List.length_cons]at hn;simp only[DL];have h0:¬ Lst (Nw n i) j:=by rw[H3 I];omega
    grind[Nw,Lst]
  grind
 |rc::rs,i,k+1,st,h=>by
  simp only[List.length_cons]at h;simp only[Qam,DL];have h0:Lst (Nw n (i+(k+1))) i:=by rw[H3 I];omega
  have:(Nw n (i+(k+1))).getD i false=true:=h0;rw[this];simp only[Qq8];rw[Fp (n:=n) rs (i+1) k _ I,show i+1+k=i+(k+1)from I]
end
section
variable{P:Program} {E:Env} {R:Type}
theorem Q7V{L:Array Bool}{t:Nat}{v0:AV}:∀(recs:Y Rec) (i k:Nat) (rc:Rec) (v:AV),recs[k]? = some rc->Lst L (i+k)->rc.dst=some t->rc.dl.v=v0->(∀k' b,k<k'->recs[k']? = some b->Lst L (i+k')->b.dst≠some t)->lkA L t i v recs=v0
 |[],i,k,rc,v,h,_,_,_,_=>by simp at h
 |r0::rs,i,0,rc,v,h,hl,hd,hv,hlast=>by
  simp at h;subst h;simp only[lkA];have ac:L.getD i false=true:=by assumption
  rw[Qqr ⟨ac,hd⟩,hv];have:∀(rs:Y Rec) (j:Nat),(∀k' b,rs[k']? = some b->Lst L (j+k')->b.dst≠some t)->lkA L t j v0 rs=v0:=by
   intro rs;induction rs with
   |nil=>intro j _;rfl
   |cons x r ih=>
    intro j hj;simp only[lkA];rw[Qqj (λh=>hj 0 x rfl h.1 h.2)];exact ih (j+1) λk' b hb hl=>hj (k'+1) b Q4 (by grind)
  exact this rs (i+1) λk' b hb hl=>hlast (k'+1) b I (by simpa using hb) (by grind)
 |r0::rs,i,k+1,rc,v,h,hl,hd,hv,hlast=>by
  exact Q7V rs (i+1) k rc _ (by simpa using h) (by grind) hd hv λk' b hk hb ac=>hlast (k'+1) b I (by simpa using hb) (by grind)
theorem Q9M{L:Array Bool}{l:Nat}(h0:Nat->oP Ob):∀(recs:Y Rec) (i k:Nat) (rc:Rec) (h:Nat->oP Ob),recs[k]? = some rc->Lst L (i+k)->l∈wrL rc.dl->(∀k' b,k<k'->recs[k']? = some b->Lst L (i+k')->l ∉ wrL b.dl)->hA L i h recs l=Hc h0 rc.dl.wr l
 |[],i,k,rc,h,hb,_,_,_=>by simp at hb
 |r0::rs,i,0,rc,h,hb,hl,hd,hlast=>by
  simp at hb;subst hb;simp only[hA];have ac:L.getD i false=true:=by assumption
  rw[Qqr ac];have:∀(rs:Y Rec) (j:Nat) (f:Nat->oP Ob),(∀k' b,rs[k']? = some b->Lst L (j+k')->l ∉ wrL b.dl)->hA L j f rs l=f l:=by
   intro rs;induction rs with
   |nil=>intro j f _;rfl
   |cons x r ih=>
    intro j f hj;simp only[hA];rw[ih (j+1) _ λk' b hb hl=>hj (k'+1) b Q4 (by grind)];split
    ·rename_i hx;exact UT (hj 0 x rfl hx)
    ·rfl
  rw[this rs (i+1) _ λk' b hb hl=>hlast (k'+1) b I (by simpa using hb) (by grind)];exact Q7s hd
 |r0::rs,i,k+1,rc,h,hb,hl,hd,hlast=>by
  exact Q9M h0 rs (i+1) k rc _ (by simpa using hb) (by grind) hd λk' b hk aj ac=>hlast (k'+1) b I Q4 (by grind)
theorem Q5b{st:St}:∀{wr:Y (Nat×oP Ob)},(∀l o,(l,some o)∈wr->look st.h l=none->Uz st l=true)->Wt st wr=true
 |[],_=>rfl
 |(l,o)::r,h=>by
  simp only[Wt,Qq4];refine⟨?_,Q5b λl' o' hm=>h l' o' (by simp[hm])⟩;cases o with
  |none=>rfl
  |some o=>
   cases hs:look st.h l with
   |some o'=>rfl
   |none=>exact h l o Q2 hs
theorem Q1z{l:Nat}{o:Ob}:∀{wr:Y (Nat×oP Ob)},(l,some o)∈wr->WU l wr=true
 |(k,o')::r,h=>by
  rcases Qqb.1 h with e | h'
  ·injection e with e1 e2;subst e1;subst e2;simp[WU]
  ·simp[WU,Q1z h']
theorem R0{p q:Nat->Bool}{i:Nat}:∀{l:Y Nat},i∈l->(∀x∈l,q x=true->p x=true)->p i=true->q i=false->l.countP q<l.countP p
 |a::r,hm,aa,hp,hq=>by
  have hr:r.countP q<=r.countP p:=List.countP_mono_left λx hx=>aa x (by simp[hx])
  simp only[List.countP_cons];rcases Qqb.1 hm with rfl | ac
  ·simp[hp,hq];omega
  ·have:=R0 ac (λx hx=>aa x (by simp[hx])) hp hq;have h1:=aa a Q2;cases ai:q a
   ·simp;split<;>omega
   ·simp[h1 ai];omega
theorem R8{listed:Array Bool}{i j:Nat}(hi:i<listed.size):Lst (listed.setIfInBounds i true) j↔j=i\/Lst listed j:=by
 unfold Lst;by_cases hj:j<listed.size
 ·by_cases e:j=i
  all_goals simp_all [Ne.symm]
 grind
theorem Q8M{es:Y Edge}{i:Nat}(h:Q2q es i=true)(e:Edge)(hm:e∈es)(hb:Region.binds .any e=true):e.on<i:=by
 induction es with
 |nil=>simp at hm
 |cons e0 r ih=>
  simp only[Q2q,Qq4,Qqi,Qqc]at h
  grind[Nat.le_of_ble_eq_true]
theorem Tp{l:Y Oper}(k:Nat)(o:Oper)(e:Edge)(he:e∈o.after.toList)(hb:Region.binds .any e=true):∀i,KO l i=true->l[k]? = some o->e.on<i+k:=by
 induction l generalizing k with
 |nil=>simp_all
 |cons o0 r ih=>
  intro i h ho;simp only[KO,Qq4]at h;cases k with
  |zero=>simp at ho;subst ho;exact Q8M h.1 e he hb
  |succ k=>
   grind
theorem R1{ops:Array Oper}{listed:Array Bool}{i:Nat}(ac:listed.size=ops.size):i∈Region.ready .any ops listed↔∃o,ops[i]? = some o/\¬ Lst listed i/\Q2A listed o.after.toList:=by
 unfold Region.ready;simp only[List.mem_filter,List.mem_range,Qq4,Qqc];constructor
 ·rintro⟨h1,h2,h3⟩;have ho:=Qqg h1;refine⟨_,ho,?_,?_⟩
  ·simp_all [Lst,Array.getD,dite_true]
  ·rw[ho]at h3;simp only[Option.map_some,Qqn,Array.all_eq_true_iff_forall_mem,Qqi,Qqc]at h3;intro e he hb;rcases h3 e Q4 with h4 | h4
   ·simp_all
   ·exact h4
 ·rintro⟨o,ho,hn,hp⟩;have h1:=(Qqd.1 ho).1;have hi:i<listed.size:=I
  refine⟨h1,?_,?_⟩
  ·simp_all [Lst,Array.getD,dite_true]
  ·rw[ho];simp only[Option.map_some,Qqn,Array.all_eq_true_iff_forall_mem,Qqi,Qqc];intro e he;cases hb:Region.binds .any e with
   |false=>simp_all
   |true=>exact .inr (hp e (by simpa using he) hb)
theorem QbM{ops:Array Oper}{aa st':St}{recs:Y Rec}{Q:Exit->Act->World->Prop}(cb:recs.length=ops.size)(ar:Q0b P E ops 0 aa recs st')(hd:Q3T aa ops.toList recs=true)(hQ:∀a w,JQ E st' a w->Q .normal a w) :
  ∀(fuel:Nat) (listed:Array Bool) (a:Act) (w:World),listed.size=ops.size->Ly ops.toList listed->(List.range ops.size).countP (λi=>!listed.getD i false)<=fuel->JQ E (DL listed 0 aa recs) a w->wpAny P .any ops Q fuel listed a w:=by
 simp only[Q3T,Qq4]at hd;obtain⟨⟨a6,aw⟩,b2⟩:=hd;obtain⟨b5,a8⟩:=Q88 ops.toList ops.toList [] (λk=>by simp) (λj i m o h1=>by simp at h1);simp only[List.length_nil,Qqf,Array.length_toList]at b5;have bq:∀listed:Array Bool,listed.size=ops.size->Region.ready .any ops listed=[]->∀i,i<ops.size->Lst listed i:=by
  intro listed ao hr i;induction i using Nat.strongRecOn with
  |ind i ih=>
   intro hi;by_cases hl:Lst listed i
   ·exact hl
   ·exfalso;have ho:=Qqg hi;have:i∈Region.ready .any ops listed:=(R1 ao).2 ⟨_,ho,hl,λe he hb=>ih e.on (by
     have:=Tp i _ e he hb 0 a6 Q4;omega) (by
     have:=Tp i _ e he hb 0 a6 (by rw[Qqq];exact ho);omega)⟩
    simp_all
 have bi:∀(listed:Array Bool) (a:Act) (w:World),(∀i,i<ops.size->Lst listed i)->JQ E (DL listed 0 aa recs) a w->Q .normal a w:=by
  intro listed a w hl hR;refine hQ a w (hR.same ?_ (λt=>?_) ?_)
  ·rw[Fu ar,Fp (n:=ops.size) recs 0 _ aa I,Q1F,Q1F]
  ·rw[Fu ar,Fp (n:=ops.size) recs 0 _ aa I,LC,LC];refine EP recs 0 _ λk rc hk _=>?_
   have bb:=(Qq7.1 hk).1;rw[H3 I];exact⟨λ_=>hl _ I,λ_=>by omega⟩
  ·rw[Fu ar,Fp (n:=ops.size) recs 0 _ aa I,C1,C1];funext l;refine Bw recs 0 _ _ rfl λk rc hk _=>?_
   have bb:=(Qq7.1 hk).1;rw[H3 I];exact⟨λ_=>hl _ I,λ_=>by omega⟩
 intro fuel;induction fuel with
 |zero=>
  intro listed a w ao a9 bn hR;have hl:∀i,i<ops.size->Lst listed i:=by
   intro i hi;have h0:(List.range ops.size).countP (λi=>!listed.getD i false)=0:=I
   rw[List.countP_eq_zero]at h0;have:=h0 i (by simpa using hi);simpa[Lst]using this
  refine⟨?_,bi listed a w hl hR⟩;cases hr:Region.ready .any ops listed with
  |nil=>rfl
  |cons x xs=>
   exfalso;obtain⟨o,ho,hn,_⟩:=(R1 ao).1 (by rw[hr];simp:x∈Region.ready .any ops listed);exact hn (hl x (Qqd.1 ho).1)
 |succ fuel ih=>
  intro listed a w ao a9 bn hR;refine⟨λhr=>bi listed a w (bq listed ao hr) hR,λi hi=>?_⟩;obtain⟨o,ho,ay,bv⟩:=(R1 ao).1 hi;have bo:=(Qqd.1 ho).1;obtain⟨rc,ak⟩:∃rc,recs[i]? = some rc:=⟨_,Qq9 I⟩;obtain⟨⟨o',b4,ca⟩,bm,a4⟩:=Q7j ar i rc ak;simp only[Qqf]at b4 a4;have a7:∀(j m:Nat),(Q3k ops.toList [])[i]? = some m->m.testBit j=true->Lst listed j:=λj m h1 h2=>a8 i j m o h1 (by rw[Qqq];exact ho) h2 listed a9 bv
  have au:∀(j m:Nat),(Q3k ops.toList [])[j]? = some m->j<ops.size->m.testBit i=true->¬ Lst listed j:=λj m h1 h2 h3 hl=>by
   have a3:=Qqg h2;exact ay (a8 j i m _ h1 (by rw[Qqq];exact a3) h3 listed a9 (a9 j _ (by rw[Qqq];exact a3) hl))
  have a2:∀(p q:Nat) (x y:Rec),p<q->recs[p]? = some x->recs[q]? = some y->∃m,(Q3k ops.toList [])[q]? = some m/\(U1 x y=true\/Qgy x.dst y.dl.v=true->m.testBit p=true):=by
   intro p q x y cp hx hy;obtain⟨az,_,g2,_⟩:=LJ aw p x hx;obtain⟨m,hm,hc⟩:=Di g2 (q-(p+1)) y (by rw[Qqe,show p+1+(q-(p+1))=q from I];exact hy);rw[Qqe,show p+1+(q-(p+1))=q from I]at hm;refine⟨m,hm,λh=>?_⟩;have:=hc (by rcases h with h | h;exact .inl h;exact .inr (.inr h));simpa using this
  have bc:∀(j:Nat) (b:Rec),j<i->recs[j]? = some b->U1 b rc=true->Lst listed j:=λj b hj hb hc=>by
   obtain⟨m,hm,h1⟩:=a2 j i b rc hj hb ak;exact a7 j m hm (h1 (.inl hc))
  have aj:∀(j:Nat) (b:Rec),i<j->recs[j]? = some b->U1 rc b=true\/Qgy rc.dst b.dl.v=true->¬ Lst listed j:=λj b hj hb hc=>by
   obtain⟨m,hm,h1⟩:=a2 i j rc b hj ak hb;exact au j m hm (by have:=(Qq7.1 hb).1;omega) (h1 hc)
  have bg:∀(k:Nat) (b:Rec),recs[k]? = some b->(k<i->U1 b rc=true)->(i<k->U1 rc b=true)->(Lst listed (0+k)↔Lst (Nw ops.size (0+i)) (0+k)):=by
   intro k b hb h1 h2;have bb:=(Qq7.1 hb).1;rw[H3 I];simp only[Qqf];rcases Nat.lt_trichotomy k i with h | h | h
   ·exact⟨λ_=>h,λ_=>bc k b h hb (h1 h)⟩
   ·subst h;exact⟨λhl=>absurd hl ay,λhl=>by omega⟩
   ·exact⟨λhl=>absurd hl (aj k b h hb (.inl (h2 h))),λhl=>by omega⟩
  have bk:Qam aa i recs=DL (Nw ops.size (0+i)) 0 aa recs:=Fp recs 0 i aa I;have c1:∀t,t∈rc.rt->lkT (DL listed 0 aa recs).tm t=lkT (Qam aa i recs).tm t:=by
   intro t ht;rw[bk,LC,LC];refine EP recs 0 _ λk b hk ax=>bg k b hk (λ_=>?_) (λ_=>?_)
   ·simp[U1,inO,ax,AX ht]
   ·simp[U1,inO,ax,AX ht]
  have c2:∀l,l∈rc.dl.rd\/l∈wrL rc.dl->look (DL listed 0 aa recs).h l=look (Qam aa i recs).h l:=by
   intro l hl;rw[bk,C1,C1];refine Bw recs 0 _ _ rfl λk b hk hw=>bg k b hk (λ_=>?_) (λ_=>?_)
   ·rcases hl with hl | hl
    ·simp[U1,N6 hw hl]
    ·simp[U1,N6 hw hl]
   ·rcases hl with hl | hl
    ·simp[U1,N6 hw hl]
    ·simp[U1,N6 hl hw]
  have c3:Q3Y (DL listed 0 aa recs) rc.dl.v rc.dst=true:=by
   have h1:=bm.1;cases br:rc.dst with
   |none=>rfl
   |some d=>
    rw[br,bk]at h1;simp only[Q3Y,Qq4,Qqc,Q1F]at h1 ⊢;obtain⟨g1,g2⟩:=Q7O recs 0 aa h1.2.2;refine⟨h1.1,h1.2.1,Q7a recs 0 aa g1 λk b hb hl hn=>?_⟩;have bb:=(Qq7.1 hb).1;rcases Nat.lt_trichotomy k i with h | h | h
    ·exact g2 k b hb (by rw[H3 I];omega) hn
    ·subst h;simp only[Qqf]at hl;exact absurd hl ay
    ·cases hg:gds d b.dl.v with
     |false=>rfl
     |true=>simp only[Qqf]at hl;exact absurd hl (aj k b h hb (.inr (by simp[Qgy,br,hg])))
  have c4:Wt (DL listed 0 aa recs) rc.dl.wr=true:=by
   refine Q5b λl ob hm an=>?_
   have hs:=Q1z hm;have a5:∀k b,recs[k]? = some b->Lst listed (0+k)->∀o,(l,o)∈b.dl.wr->o.isSome=true:=by
    intro k b hb bj o ho;simp only[Qqf]at bj;cases o with
    |some _=>rfl
    |none=>
     exfalso;rcases Nat.lt_trichotomy k i with h | h | h
     ·have:=Q6Y (Qdw k b b2 hb) ho rc (List.mem_of_getElem? (i:=i-k) (by rw[Qqe,show k+(i-k)=i from I];exact ak));rw[hs]at this;cases this
     ·subst h;exact ay bj
     ·have bl:Tj (wrL rc.dl) (wrL b.dl)=true:=N6 (x:=l) (N8 hs) (Qqp.2 ⟨_,ho,rfl⟩);exact aj k b h hb (.inl (by simp[U1,bl])) bj
   rw[C1]at an;have hz:look aa.h l=none:=by
    cases hz:look aa.h l with
    |none=>rfl
    |some cn=>
     have:=Q3x (listed:=listed) recs 0 (look aa.h) a5 (.inl (by simp[hz]));rw[an]at this;cases this
   have b3:∀k b,k<i->recs[k]? = some b->WU l b.dl.wr=false:=by
    intro k b hk hb;cases hh:WU l b.dl.wr with
    |false=>rfl
    |true=>
     have bl:Tj (wrL b.dl) (wrL rc.dl)=true:=N6 (x:=l) (N8 hh) (N8 hs);have hc:U1 b rc=true:=by simp[U1,bl]
     have:=Q3x (listed:=listed) recs 0 (look aa.h) a5 (.inr ⟨k,b,hb,by simpa using bc k b hk hb hc,hh⟩);rw[an]at this;cases this
   obtain⟨az,g1,g2,g3⟩:=LJ aw i rc ak;have bh:l∈P4 aa az rc.dl.wr:=Q45 hz (λhl=>by
    rcases g1 l hl with h | ⟨k',b,h1,h2,h3⟩
    ·simp at h
    ·rw[b3 k' b h1 h2]at h3;cases h3) hs
   obtain⟨g4,_,g6⟩:=g3 l bh;refine Q4i recs 0 aa g4 λk b hb hl=>?_
   simp only[Qqf]at hl;have bb:=(Qq7.1 hb).1;rcases Nat.lt_trichotomy k i with h | h | h
   ·exact g6 k b h hb
   ·subst h;exact absurd hl ay
   ·cases hr:Cm l b with
    |false=>rfl
    |true=>
     exfalso;obtain⟨m,bp,hc⟩:=Di g2 (k-(i+1)) b (by rw[Qqe,show i+1+(k-(i+1))=k from I];exact hb);rw[Qqe,show i+1+(k-(i+1))=k from I]at bp;exact au k m bp I (by have:=hc (.inr (.inl ⟨l,bh,hr⟩));simpa using this) hl
  have b7:=a4 _ a w hR c1 c2 c3 c4 Q;have am:i<listed.size:=I
  refine wpOp_mono (λa' w' b0=>?_) b7;refine ih (listed.setIfInBounds i true) a' w' (by simpa using ao) ?_ ?_ ?_
  ·intro j oj a3 hl e he hb;rw[R8 am]at hl ⊢;rcases hl with rfl | hl
   ·have:oj=o:=by
     have:ops[j]? = some oj:=by simpa using a3
     rw[ho]at this;injection this with this;exact this.symm
    subst this;exact .inr (bv e he hb)
   ·exact .inr (a9 j oj a3 hl e he hb)
  ·have:(List.range ops.size).countP (λj=>!(listed.setIfInBounds i true).getD j false)<(List.range ops.size).countP (λj=>!listed.getD j false):=by
    refine R0 (i:=i) (by simpa using bo) (λx _ hx=>?_) ?_ ?_
    ·cases hl:listed.getD x false with
     |false=>rfl
     |true=>
      have:Lst (listed.setIfInBounds i true) x:=(R8 am).2 (.inr hl);simp only[Lst]at this;rw[this]at hx;cases hx
    ·cases hl:listed.getD i false with
     |false=>rfl
     |true=>exact absurd hl ay
    ·have:Lst (listed.setIfInBounds i true) i:=(R8 am).2 (.inl rfl);simp only[Lst]at this;rw[this];rfl
   omega
  ·have ai:∀k,k≠i->(Lst (listed.setIfInBounds i true) (0+k)↔Lst listed (0+k)):=λk hk=>by
    rw[R8 am];simp only[Qqf];exact⟨λh=>h.resolve_left hk,.inr⟩
   have ba:Lst (listed.setIfInBounds i true) (0+i):=by rw[R8 am];exact .inl (Qqf i)
   refine b0.same ?_ (λt=>?_) ?_
   ·rw[Q1F];simp[put,Q1F]
   ·rw[LC,Q9D];by_cases e:rc.dst=some t
    ·rw[Qqr e];refine Q7V recs 0 i rc _ ak ba e rfl λk' b hk hb hl=>?_
     intro ax;rw[ai k' I]at hl;simp only[Qqf]at hl;exact aj k' b hk hb (.inl (by simp[U1,e,ax])) hl
    ·rw[Qqj e,LC];refine EP recs 0 _ λk b hb ax=>ai k (λe2=>?_)
     subst e2;rw[ak]at hb;injection hb with hb;subst hb
     exact e ax
   ·rw[C1];funext l;have:look (put (DL listed 0 aa recs) rc.dst rc.dl).h l=Hc (hA listed 0 (look aa.h) recs) rc.dl.wr l:=by
     simp only[put,HA,C1]
    rw[this];by_cases e:l∈wrL rc.dl
    ·exact Q9M _ recs 0 i rc _ ak ba e λk' b hk hb hl hw=>by
      rw[ai k' I]at hl;simp only[Qqf]at hl;exact aj k' b hk hb (.inl (by simp[U1,N6 e hw])) hl
    ·rw[UT e];refine Bw recs 0 _ _ rfl λk b hb hw=>ai k (λe2=>?_)
     subst e2;rw[ak]at hb;injection hb with hb;subst hb
     exact e hw
end
end Go.Vx
namespace Go.Vx
variable{β:Nat->oP Nat} {S:Nat->Prop} {w:World} {st:St} {a:Act}
section
variable{P:Program} {E:Env} {R:Type}
def inv(ρ:Y (Nat×Nat))(k:Nat):oP Nat:=
 match ρ with
 |[]=>none
 |(l,l')::r=>if l'=k then some l else inv r k
theorem Qah{k l:Nat}:∀{ρ:Y (Nat×Nat)},inv ρ k=some l->(l,k)∈ρ
 |(a,b)::r,h=>by
  unfold inv at h;by_cases e:b=k
  ·rw[Qqr e]at h;injection h with h;subst e;subst h;simp
  ·rw[Qqj e]at h;simp[Qah h]
theorem HK{ρ:Y (Nat×Nat)}{f:Nat×Nat->Nat}(h:Xo (ρ.map f)=true):∀p q,p∈ρ->q∈ρ->f p=f q->p=q:=by
 induction ρ with
 |nil=>simp_all
 |cons x r ih=>
  simp only[Qqh,Xo,Qq4,Qqc]at h;have hx:∀q∈r,f q≠f x:=λq hq e=>by
   have:Sa (f x) (r.map f)=true:=Bl.2 (Qqp.2 ⟨q,hq,e⟩)
   simp_all
  grind
theorem Q4A{ρ:Y (Nat×Nat)}(h:Xo (ρ.map (·.2))=true){l k:Nat}(hm:(l,k)∈ρ):inv ρ k=some l:=by
 induction ρ with
 |nil=>simp at hm
 |cons x r ih=>
  obtain⟨a,b⟩:=x;unfold inv;by_cases e:b=k
  ·have:=HK h (a,b) (l,k) Q2 hm e
   simp_all
  ·rcases Qqb.1 hm with hm | hm
   all_goals simp_all [absurd,Qqh,Xo,Qq4]
theorem Y6{α:Type}{l:Nat}{o:α}:∀{ρ:Y (Nat×α)},look ρ l=some o->(l,o)∈ρ
 |(a,b)::r,h=>by
  rw[Xe]at h;by_cases e:l=a
  ·rw[Qqr e]at h;injection h with h;subst e;subst h;simp
  ·rw[Qqj e]at h;simp[Y6 h]
theorem Su{ρ:Y (Nat×Nat)}{h:Y (Nat×Ob)}:∀{ρs:Y (Nat×Nat)} {k:Nat} {o:Ob},look (Dk ρ h ρs) k=some o->∃l o',(l,k)∈ρs/\look h l=some o'/\o=Qd1 ρ o'
 |[],k,o,hk=>by simp[Dk,look]at hk
 |(l,l')::r,k,o,hk=>by
  unfold Dk at hk;split at hk
  ·rename_i o' aa;rw[Xe]at hk;by_cases e:k=l'
   ·rw[Qqr e]at hk;injection hk with hk
    subst e;exact⟨l,o',by simp,aa,hk.symm⟩
   ·rw[Qqj e]at hk;obtain⟨l2,o2,h1,h2⟩:=Su hk;exact⟨l2,o2,by simp[h1],h2⟩
  ·obtain⟨l2,o2,h1,h2⟩:=Su hk;exact⟨l2,o2,by simp[h1],h2⟩
theorem SV{ρ:Y (Nat×Nat)}{h:Y (Nat×Ob)}:∀{ρs:Y (Nat×Nat)} {l k:Nat} {o:Ob},Xo (ρs.map (·.2))=true->(l,k)∈ρs->look h l=some o->look (Dk ρ h ρs) k=some (Qd1 ρ o)
 |[],l,k,o,_,hm,_=>by simp at hm
 |(a,b)::r,l,k,o,hn,hm,ho=>by
  have aj:=hn;simp only[Qqh,Xo,Qq4,Qqc]at hn;unfold Dk;rcases Qqb.1 hm with e | aa
  ·injection e with e1 e2
   subst e1;subst e2;rw[ho];simp[Xe]
  ·have ac:k≠b:=λe=>by
    subst e;have:Sa k (r.map (·.2))=true:=Bl.2 (Qqp.2 ⟨(l,k),aa,rfl⟩);rw[hn.1]at this;cases this
   have ih:=SV (ρ:=ρ) (h:=h) hn.2 aa ho;split
   ·rw[Xe,Qqj ac];exact ih
   ·exact ih
theorem VU{ρ:Y (Nat×Nat)}:∀{l:Y AV} {i:Nat},(Q3H ρ l)[i]? = (l[i]?).map (Ue ρ)
 |[],i=>by simp[Q3H]
 |a::r,0=>by simp[Q3H]
 |a::r,i+1=>by simp only[Q3H,List.getElem?_cons_succ];exact VU
theorem Zc{ρ:Y (Nat×Nat)}:∀{l:Y AV},(Q3H ρ l).length=l.length
 |[]=>rfl
 |a::r=>by simp[Q3H,Zc (l:=r)]
theorem Q1W{ρ:Y (Nat×Nat)}{ty:TypeId}{cells:Y AV}(h:Q5J ty cells):Q5J ty (Q3H ρ cells):=by
 intro i l t hi;rw[VU,Qq5]at hi;obtain⟨y,hy,he⟩:=hi;cases y with
 |sa l' t'=>
  simp only[Ue]at he;split at he
  ·injection he with h1 h2
   subst h2;exact h i l' _ hy
  ·cases he
 |ptr a b=>grind[Ue]
 |arr a=>grind[Ue]
 |ap a b c=>simp only[Ue]at he;split at he<;>cases he
 |_=>trivial
theorem QcB{ty:TypeId}{cells:Y AV}{c l:Nat}(h:Q5J ty cells):Q5J ty (cells.set c (.arr l)):=by
 intro i l' t hi;rw[List.getElem?_set]at hi;split at hi
 ·simp_all
 ·exact h i l' t hi
theorem Q7F{ρ:Y (Nat×Nat)}{h:Y (Nat×Ob)}(hn:Xo (ρ.map (·.2))=true){β':Nat->oP Nat}(ar:∀l k,(l,k)∈ρ->β' k=β l){tm:Nat->Value}{v:Value}{av:AV}(hv:RdA β S (look h) w tm v av):RdA β' S (look (Dk ρ h ρ)) w tm v (Ue ρ av):=by
 have hβ:∀{l l':Nat},look ρ l=some l'->β' l'=β l:=λ{l l'} hl=>ar l l' (Y6 hl)
 have ac:∀{l l':Nat},look ρ l=some l'->look h l=none->look (Dk ρ h ρ) l'=none:=λ{l l'} hl hh=>by
  cases hk:look (Dk ρ h ρ) l' with
  |none=>rfl
  |some o=>
   obtain⟨l2,o2,h1,h2,_⟩:=Su hk;have e1:=Q4A hn h1;rw[Q4A hn (Y6 hl)]at e1
   simp_all
 induction hv with
 |top v=>exact .top v
 |d v x hx=>exact .d v x hx
 |nil=>exact .nil
 |ag cs l hl _ ih=>
  refine .ag cs _ (by grind[Zc]) λi x hx=>?_
  grind[VU,Option.map_eq_some_iff]
 |tup cs l hl _ ih=>
  refine .tup cs _ (by rw[Zc];exact hl) λi x hx=>?_
  rw[VU,Qq5]at hx
  grind
 |fn f cs l hl _ ih=>
  refine .fn f cs _ (by rw[Zc];exact hl) λi x hx=>?_
  rw[VU,Qq5]at hx;obtain⟨y,hy,rfl⟩:=hx;exact ih i y hy
 |ptr l off b hb=>
  unfold Ue;split
  ·rename_i l' hl;exact .ptr _ _ _ ((hβ hl).trans hb)
  ·exact .top _
 |sa v l t b hb hv=>
  unfold Ue;split
  ·rename_i l' hl;exact .sa _ _ _ b ((hβ hl).trans hb) hv
  ·exact .top _
 |el ad row off c hs hc hr=>exact .el ad row off c hs hc hr
 |fs ad s rows hx=>exact .fs ad s rows hx
 |mpd v f hm=>exact .mpd v f hm
 |ex v=>exact .ex v
 |arr0 l e s hb hh=>
  unfold Ue;split
  ·rename_i l' hl;exact .arr0 _ e s ((hβ hl).trans hb) (SV hn (Y6 hl) hh)
  ·exact .top _
 |arr l b cap e s rows cs ty fz hb hh hw ao am an=>
  unfold Ue;split
  ·rename_i l' hl;exact .arr _ b cap e s rows cs ty fz ((hβ hl).trans hb) (SV hn (Y6 hl) hh) hw ao am an
  ·exact .top _
 |mp l b t f hb hh=>
  unfold Ue;split
  ·rename_i l' hl;exact .mp _ b t f ((hβ hl).trans hb) (SV hn (Y6 hl) hh)
  ·exact .top _
 |ap l i off b e s rows hb hh=>
  unfold Ue;split
  ·rename_i l' hl;exact .ap _ i off b e s rows ((hβ hl).trans hb) (SV hn (Y6 hl) hh)
  ·exact .top _
 |dang v av l hl hh h1=>
  cases av<;>simp[Pg]at hl
  ·subst hl;unfold Ue;split
   ·rename_i l' aj;exact .dang _ _ l' rfl (ac aj hh) h1
   ·exact .top _
  ·subst hl;unfold Ue;split
   ·rename_i l' aj;exact .dang _ _ l' rfl (ac aj hh) h1
   ·exact .top _
 |gdT=>exact .top _
 |gdF=>exact .top _
theorem Q1M{ρ:Y (Nat×Nat)}{tm:Y (Nat×AV)}{t:Nat}{av:AV}:∀{ks:Y Nat},look (QaQ ρ tm ks) t=some av->av=Ue ρ (lkT tm t)
 |k::r,h=>by
  simp only[QaQ,Xe]at h;by_cases e:t=k
  ·rw[Qqr e]at h;injection h with h;rw[<- h,e]
  ·rw[Qqj e]at h;exact Q1M h
theorem Qci{ρ:Y (Nat×Nat)}{ks:Y Nat}(h1:Xo (ρ.map (·.1))=true)(h2:Xo (ρ.map (·.2))=true)(h3:∀l k,(l,k)∈ρ->l=k\/k<=999999)(h:JQ E st a w):JQ E { n:=st.n,tm:=QaQ ρ st.tm ks,h:=Dk ρ st.h ρ } a w:=by
 obtain⟨β,S,hR⟩:=h;have hβ:∀l k,(l,k)∈ρ->(if 1000000<=k then β k else(inv ρ k).bind β)=β l:=by
  intro l k hm;split
  ·grind
  ·rw[Q4A h2 hm];rfl
 have aa:∀{k b:Nat},(look (Dk ρ st.h ρ) k).isSome=true->(if 1000000<=k then β k else(inv ρ k).bind β)=some b->∃l,(l,k)∈ρ/\(look st.h l).isSome=true/\β l=some b:=by
  grind[Option.isSome_iff_exists,Su]
 refine⟨λk=>if 1000000<=k then β k else(inv ρ k).bind β,S,hR.n,hR.dfr,λt av ht=>?_,⟨λk o ho=>?_,λk k' b s1 s2 b1 b2=>?_,λk b s1 b1=>?_,λk b s1 b1=>?_,hR.hr.sb,hR.hr.sfr,hR.hr.s0,hR.hr.fr,λk hk=>by simp only[Qqr hk];exact hR.hr.pin k hk,λk b hk s1 b1=>?_⟩⟩
 ·rw[Q1M ht];refine Q7F h2 hβ ?_;unfold lkT;cases hl:look st.tm t with
  |none=>exact .top _
  |some aw=>exact hR.tm t aw hl
 ·obtain⟨l,o',g1,g2,rfl⟩:=Su ho;have ai:=hβ l k g1;have aj:=hR.hr.ob l o' g2;cases o' with
  |box cells=>
   obtain⟨b,ty,cs,fz,hb,hw,hf,ak,hr⟩:=aj;refine⟨b,ty,cs,fz,ai.trans hb,hw,⟨hf.1,Q1W hf.2⟩,by rw[ak,Zc],λi x hx=>?_⟩;rw[VU,Qq5]at hx;obtain⟨y,hy,rfl⟩:=hx
   grind[Q7F]
  |arr e s rows=>
   rcases aj with⟨hb,hn⟩|⟨b,cs,hb,hw,ak,ar,hr⟩
   ·exact .inl ⟨ai.trans hb,hn⟩
   ·exact .inr ⟨b,cs,ai.trans hb,hw,ak,ar,hr⟩
  |mp t f=>
   obtain⟨b,hb,hm⟩:=aj;exact⟨b,ai.trans hb,hm⟩
 ·obtain⟨l,g1,g2,g3⟩:=aa s1 b1;obtain⟨l',an,ao,au⟩:=aa s2 b2;have:=hR.hr.inj l l' b g2 ao g3 au;subst this;have:=HK h1 (l,k) (l,k') g1 an rfl
  simp_all
 ·obtain⟨l,g1,g2,g3⟩:=aa s1 b1;exact hR.hr.apart l b g2 g3
 ·obtain⟨l,g1,g2,g3⟩:=aa s1 b1;exact hR.hr.own l b g2 g3
 ·obtain⟨l,g1,g2,g3⟩:=aa s1 b1;rcases h3 l k g1 with h | h
  ·subst h;exact hR.hr.psz l b hk g2 g3
  ·omega
theorem Q4L{t k:Nat}{v av:AV}:∀{tm:Y (Nat×AV)},look (Qik tm t v) k=some av->(k=t/\av=v)\/look tm k=some av
 |(a,b)::r,h=>by
  unfold Qik at h;cases hb:Nat.beq a t with
  |true=>
   have:=Qq3 hb;subst this;simp only[hb,Qq8,Xe]at h;by_cases e:k=a
   ·rw[Qqr e]at h;injection h with h;exact .inl ⟨e,h.symm⟩
   ·rw[Qqj e]at h;exact .inr (by rw[Xe,Qqj e];exact h)
  |false=>
   simp only[hb,Qql,Xe]at h;by_cases e:k=a
   ·rw[Qqr e]at h;exact .inr (by rw[Xe,Qqr e];exact h)
   ·rw[Qqj e]at h;rcases Q4L h with h | h
    ·exact .inl h
    ·exact .inr (by rw[Xe,Qqj e];exact h)
theorem Q4q(hR:Rel E β S st a w){l e s:Nat}(hc:Uz st l=true)(hn:look st.h l=none):Rel E (RV β l none) S ⟨st.n,st.tm,(l,.arr e s [])::st.h⟩ a w:=by
 have ac:∀k,look ((l,Ob.arr e s [])::st.h) k=if k=l then some (.arr e s [])else look st.h k:=λk=>Xe l k _ st.h
 have aa:∀{k b:Nat},(look ((l,Ob.arr e s [])::st.h) k).isSome=true->RV β l none k=some b->(look st.h k).isSome=true/\β k=some b:=by
  intro k b h1 h2
  simp_all [RV,Qqr,Qqj]
 refine hR.upd (λ_ h=>h) (λ_ _=>rfl) (λk=>k=l) (λk hk=>⟨by grind[RV],by simp_all,λ_ _ _=>rfl⟩) (λk hk=>.inr (hk▸hc)) (λk o hk ho=>?_) (λk k' b h1 h2 h3 h4=>?_) (λk b h1 h2=>?_) (λk b h1 h2=>?_) hR.hr.sb hR.hr.sfr hR.hr.fr
 ·subst hk;rw[ac,Qqr rfl]at ho;injection ho with ho
  subst ho;exact .inl ⟨by simp[RV],rfl⟩
 ·exact hR.hr.inj k k' b (aa h1 h3).1 (aa h2 h4).1 (aa h1 h3).2 (aa h2 h4).2
 ·exact hR.hr.apart k b (aa h1 h2).1 (aa h1 h2).2
 ·exact hR.hr.own k b (aa h1 h2).1 (aa h1 h2).2
theorem Bk{a:Act}{w:World}:∀(l:Y (Nat×Nat×Nat×Nat)) (st:St),JQ E st a w->JQ E (QfJ st l) a w
 |[],st,h=>h
 |(t,l,e,s)::r,st,h=>by
  unfold QfJ;split
  ·rename_i ac;cases hc:(Uz st l&&(look st.h l).isNone)with
   |false=>simp only[Qql];exact Bk r st h
   |true=>
    simp only[Qq8];refine Bk r _ ?_;simp only[Qq4,Option.isNone_iff_eq_none]at hc;obtain⟨β,S,hR⟩:=h;have aa:=Q4q (e:=e) (s:=s) hR hc.1 hc.2;have hv:=(hR.tm t _ (Rj ac Q2)).nil_inv;refine⟨_,S,aa.n,aa.dfr,λt' av ht=>?_,aa.hr⟩;rcases Q4L ht with⟨rfl,rfl⟩ | ht
    ·rw[hv];exact .arr0 l e s (by simp[RV]) (by simp[Xe])
    ·exact aa.tm t' av ht
  ·exact Bk r st h
theorem EG{a:Act}{w:World}:∀(l:Y (Nat×Nat×Nat×Nat×Nat)) (st:St),JQ E st a w->JQ E (QfA st l) a w
 |[],st,h=>h
 |(b,c,l,e,s)::r,st,h=>by
  unfold QfA;split
  ·rename_i cells a2;split
   ·rename_i am;cases hc:(Uz st l&&(look st.h l).isNone)with
    |false=>simp only[Qql];exact EG r st h
    |true=>
     simp only[Qq8];refine EG r _ ?_;simp only[Qq4,Option.isNone_iff_eq_none]at hc;obtain⟨β,S,hR⟩:=h;have aw:b≠l:=λe=>by simp_all
     have ar:=Q4q (e:=e) (s:=s) hR hc.1 hc.2;have aa:look ((l,Ob.arr e s [])::st.h) b=some (.box cells):=by simp_all [Xe,Qqj]
     obtain⟨bb,ty,cs,fz,hb,hw,hf,ay,hr⟩:=ar.hr.ob b _ aa;have au:=ar.set (w':=w) (o':=.box (cells.set c (.arr l))) aa hb (λ_ _=>rfl) rfl rfl rfl rfl ?_ ?_
     ·refine JQ.same ⟨_,S,au⟩ rfl (λ_=>rfl) ?_
      grind[Xe,Bm]
     ·refine⟨rfl,λh=>?_,λe' s' rows h=>?_,λb2 ac aj ak _ _ ai=>⟨ac,aj,ak,ai,rfl⟩,λt f h=>by simp_all⟩
      all_goals grind
     ·have an:∀k,Keep (RV β l none) (look ((l,Ob.arr e s [])::st.h)) w (RV β l none) (look ((b,.box (cells.set c (.arr l)))::rem b ((l,Ob.arr e s [])::st.h))) w k:=by
       intro k;by_cases e1:k=b
       ·subst e1;refine⟨rfl,λh=>?_,λe' s' rows h=>?_,λb2 ac aj ak _ _ ai=>⟨ac,aj,ak,ai,rfl⟩,λt f h=>by rw[aa]at h;cases h⟩
        ·rw[aa]at h;cases h
        ·rw[aa]at h;cases h
       ·refine⟨rfl,λh=>by rw[Wb,Qqj e1];exact h,λe' s' rows h=>.inr ⟨rows,by rw[Wb,Qqj e1];exact h,rfl⟩,λb2 ac aj ak _ _ ai=>⟨ac,aj,ak,ai,rfl⟩,λ_ f h=>.inr ⟨f,by rw[Wb,Qqj e1];exact h⟩⟩
      refine⟨bb,ty,cs,fz,hb,hw,⟨hf.1,QcB hf.2⟩,by simpa using ay,λi x hx=>?_⟩;by_cases e1:i=c
      ·subst e1;have ax:=(Qq7.1 am).1;rw[List.getElem?_set_self ax]at hx;injection hx with hx
       subst hx;rw[(hr i _ am).nil_inv];exact .arr0 l e s (by simp[RV]) (by rw[Wb,Qqj (Ne.symm aw),Xe,Qqr rfl])
      ·rw[List.getElem?_set_ne (Ne.symm e1)]at hx;exact(hr i x hx).mono (λ_ h=>h) (λ_ _=>rfl) (λk _=>an k) (λ_ _=>rfl)
   ·exact EG r st h
  ·exact EG r st h
theorem QaH(c:Cfg)(h:JQ E st a w):JQ E (QeX c st) a w:=by
 unfold QeX;cases hc:(Xo (c.locs.map (·.1))&&(Xo (c.locs.map (·.2))&&c.locs.all λp=>Nat.beq p.1 p.2||Nat.ble p.2 999999))with
 |false=>simpa using h
 |true=>
  simp only[Qq4]at hc;exact EG _ _ (Bk _ _ (Qci hc.1 hc.2.1 (λl k hm=>by
   simp_all) h))
theorem DH{l s:Nat}{rows:Y (Y D)}:∀{r:Y AV} {i:Nat},(fzL l s rows r)[i]? = (r[i]?).map (fzA l s rows)
 |[],i=>by simp[fzL]
 |a::r,0=>by simp[fzL]
 |a::r,i+1=>by simp only[fzL,List.getElem?_cons_succ];exact DH
theorem SU{l s:Nat}{rows:Y (Y D)}:∀{r:Y AV},(fzL l s rows r).length=r.length
 |[]=>rfl
 |a::r=>by simp[fzL,SU (r:=r)]
theorem Q86{l s:Nat}{rows:Y (Y D)}{t:Nat}:∀{tm:Y (Nat×AV)},look (fzT l s rows tm) t=(look tm t).map (fzA l s rows)
 |[]=>rfl
 |(a,b)::r=>by
  simp only[fzT,Xe];by_cases e:t=a
  ·simp[e]
  ·simp only[e,if_false];exact Q86
theorem AO{l s:Nat}{rows:Y (Y D)}{k:Nat}:∀{h:Y (Nat×Ob)},look (QdB l s rows h) k=if k=l then none else(look h k).map (fzO l s rows)
 |[]=>by simp[QdB,look]
 |(a,b)::r=>by
  simp only[QdB];cases hb:Nat.beq a l with
  |true=>
   have:=Qq3 hb;subst this;simp only[Qq8];rw[AO (h:=r),Xe];by_cases e:k=a
   ·simp[e]
   ·simp[e]
  |false=>
   have aa:a≠l:=λe=>by subst e;simp at hb
   simp only[Qql,Xe];by_cases e:k=a
   ·subst e;simp[aa]
   ·simp only[e,if_false];exact AO
theorem QeV{ty:TypeId}{l s:Nat}{rows:Y (Y D)}{cells:Y AV}(h:Q5J ty cells):Q5J ty (fzL l s rows cells):=by
 intro i l' t hi;rw[DH,Qq5]at hi;obtain⟨y,hy,he⟩:=hi;cases y with
 |sa a b=>injection he with h1 h2;subst h2;exact h i a _ hy
 |arr k=>grind[fzA,Nat.beq]
 |ap k a b=>grind[fzA]
 |_=>trivial
theorem Qdd{h h':Nat->oP Ob}{l e s:Nat}{rows:Y (Y D)}(hO:Objs β S h w)(hh:h l=some (.arr e s rows))(ak:∀k,h' k=if k=l then none else(h k).map (fzO l s rows)){S':Nat->Prop}(hS:∀b,S b->S' b)(hb:∀b,β l=some b->S' b){tm:Nat->Value}{v:Value}{av:AV}(hv:RdA β S h w tm v av):RdA β S' h' w tm v (fzA l s rows av):=by
 induction hv with
 |top v=>exact .top v
 |d v x hx=>exact .d v x (hx.mono hS (λ_ _=>rfl))
 |nil=>exact .nil
 |ag cs r hl _ ih=>
  refine .ag cs _ (by grind[SU]) λi x hx=>?_
  grind[DH,Option.map_eq_some_iff]
 |tup cs r hl _ ih=>
  refine .tup cs _ (by rw[SU];exact hl) λi x hx=>?_
  rw[DH,Qq5]at hx
  grind
 |fn f cs r hl _ ih=>
  refine .fn f cs _ (by rw[SU];exact hl) λi x hx=>?_
  rw[DH,Qq5]at hx;obtain⟨y,hy,rfl⟩:=hx;exact ih i y hy
 |ptr k off b aa=>exact .ptr k off b aa
 |sa v k t b aa hv=>exact .sa v k t b aa hv
 |el ad row off c hs hc hr=>exact .el ad row off c (hS _ hs) hc (λj x hx=>(hr j x hx).mono hS (λ_ _=>rfl))
 |fs ad s rows hx=>exact .fs ad s rows (hx.mono hS (λ_ _=>rfl))
 |mpd v f hm=>exact .mpd v f (hm.mono hS (λ_ _=>rfl))
 |ex v=>exact .ex v
 |arr0 k e' s' aa hk=>
  unfold fzA;cases aj:Nat.beq k l with
  |true=>
   obtain rfl:=Qq3 aj;rw[hh]at hk;injection hk with hk
   injection hk with _ _ hk
   subst hk;exact .d _ _ (.sl0 _ _ _)
  |false=>
   have ac:k≠l:=λe=>by simp_all
   exact .arr0 k e' s' aa (by rw[ak,Qqj ac,hk];rfl)
 |arr k b cap e' s' ai cs ty fz aa hk hw ar am an=>
  unfold fzA;cases aj:Nat.beq k l with
  |true=>
   obtain rfl:=Qq3 aj;exact .d _ _ (Q80 hO hh (RdA.arr (tm:=tm) k b cap e' s' ai cs ty fz aa hk hw ar am an) hS hb)
  |false=>
   have ac:k≠l:=λe=>by subst e;simp at aj
   exact .arr k b cap e' s' ai cs ty fz aa (by rw[ak,Qqj ac,hk];rfl) hw ar am an
 |mp k b t f aa hk=>
  unfold fzA;cases aj:Nat.beq k l with
  |true=>
   simp_all
  |false=>
   have ac:k≠l:=λe=>by subst e;simp at aj
   exact .mp k b t f aa (by rw[ak,Qqj ac,hk];rfl)
 |ap k i off b e' s' ai aa hk=>
  unfold fzA;cases aj:Nat.beq k l with
  |true=>exact .top _
  |false=>
   have ac:k≠l:=λe=>by subst e;simp at aj
   exact .ap k i off b e' s' ai aa (by rw[ak,Qqj ac,hk];rfl)
 |dang v av k hl hk h1=>
  have ac:k≠l:=λe=>by simp_all
  have hn:h' k=none:=by rw[ak,Qqj ac,hk];rfl
  cases av<;>simp[Pg]at hl
  ·subst hl;unfold fzA;rw[QeJ ac];exact .dang _ _ _ rfl hn h1
  ·subst hl;unfold fzA;rw[QeJ ac];exact .dang _ _ _ rfl hn h1
 |gdT=>exact .top _
 |gdF=>exact .top _
theorem Qfr(l:Nat)(h:JQ E st a w):JQ E (fz1 st l) a w:=by
 unfold fz1;split
 case h_2=>exact h
 rename_i e s rows hl;obtain⟨β,S,hR⟩:=h;have hO:=hR.objs;have ao:∀k,look (QdB l s rows st.h) k=if k=l then none else(look st.h k).map (fzO l s rows):=λk=>AO
 have hS:∀b,S b->fzS β S [l] b:=λb hb=>.inl hb
 have au:∀b,β l=some b->fzS β S [l] b:=λb hb=>.inr ⟨l,by simp,hb⟩
 have aa:∀k,(look (QdB l s rows st.h) k).isSome=true->(look st.h k).isSome=true/\k≠l:=by
  grind
 refine⟨β,fzS β S [l],hR.n,hR.dfr,λt av ht=>?_,⟨λk o ho=>?_,λk k' b h1 h2=>hR.hr.inj k k' b (aa k h1).1 (aa k' h2).1,λk b h1 h2 ac=>?_,λk b h1 h2=>hR.hr.own k b (aa k h1).1 h2,λb ac=>?_,λb ac=>?_,λb hb=>.inl (hR.hr.s0 b hb),hR.hr.fr,hR.hr.pin,λk b hk h1=>hR.hr.psz k b hk (aa k h1).1⟩⟩
 ·rw[Q86,Qq5]at ht;obtain⟨a3,h1,rfl⟩:=ht;exact Qdd hO hl ao hS au (hR.tm t a3 h1)
 ·simp only at ho;rw[ao]at ho;by_cases e1:k=l
  ·simp_all
  ·rw[Qqj e1,Qq5]at ho;obtain⟨o',a2,rfl⟩:=ho;have ak:=hR.hr.ob k o' a2;cases o' with
   |box cells=>
    obtain⟨b,ty,cs,fz,hb,hw,hf,am,hr⟩:=ak;refine⟨b,ty,cs,fz,hb,hw,⟨hf.1,QeV hf.2⟩,by rw[am,SU],λi x hx=>?_⟩;rw[DH,Qq5]at hx;obtain⟨y,hy,rfl⟩:=hx
    grind[Qdd]
   |arr e' s' ay=>
    rcases ak with h0 | ⟨b,cs,hb,hw,am,az,hr⟩
    ·exact .inl h0
    ·refine .inr ⟨b,cs,hb,hw,am,az,λi j r x h4 h5=>?_⟩;obtain⟨v,hv,ax⟩:=hr i j r x h4 h5;exact⟨v,hv,ax.mono hS (λ_ _=>rfl)⟩
   |mp t f=>exact ak
 ·obtain⟨an,aw⟩:=aa k h1;rcases ac with ac | ⟨l',ai,aj⟩
  ·exact hR.hr.apart k b an h2 ac
  ·simp at ai;subst ai;exact aw (hR.hr.inj k l' b an (by simp[hl]) h2 aj)
 ·rcases ac with ac | ⟨l',ai,aj⟩
  ·exact hR.hr.sb b ac
  ·simp at ai;subst ai;exact KS hR (by simp[hl]) aj
 ·rcases ac with ac | ⟨l',ai,aj⟩
  ·exact hR.hr.sfr b ac
  ·simp at ai;subst ai;exact .inr (hR.hr.own l' b (by simp[hl]) aj)
theorem Qbw{a:Act}{w:World}:∀(ls:Y Nat) (st:St),JQ E st a w->JQ E (fzs st ls) a w
 |[],_,h=>h
 |l::r,_,h=>Qbw r _ (Qfr l h)
theorem Pj(c:Cfg)(h:JQ E st a w):JQ E (Qev c st) a w:=QaH _ (Qbw c.fz st h)
theorem Q9i(c:Cfg)(h:JQ E st a w):JQ E (QcW c st) a w:=by
 grind[QcW,Pj]
end
end Go.Vx
namespace Go.Vx
variable{β:Nat->oP Nat} {S:Nat->Prop} {w:World}
section
variable{P:Program} {E:Env} {R:Type}
theorem JQ.drawn{st:St}{a:Act}{w:World}(h:JQ E st a w)(n:Nat):JQ E st a { w with drawn:=n }:=by
 obtain⟨β,S,hR⟩:=h;have hA:∀(tm:Nat->Value) (v:Value) (av:AV),RdA β S (look st.h) w tm v av->RdA β S (look st.h) { w with drawn:=n } tm v av:=λtm v av hv=>
  hv.mono (λ_ h=>h) (λ_ _=>rfl) (λl _=>⟨rfl,λx=>x,λ_ _ rows hh=>.inr ⟨rows,hh,rfl⟩,λ_ cs ty fz _ _ hw=>⟨cs,ty,fz,hw,rfl⟩,λ_ f hh=>.inr ⟨f,hh⟩⟩) (λ_ _=>rfl)
 refine⟨β,S,hR.n,hR.dfr,λt av ht=>hA _ _ _ (hR.tm t av ht),⟨λl o ho=>?_,hR.hr.inj,hR.hr.apart,hR.hr.own,hR.hr.sb,hR.hr.sfr,hR.hr.s0,⟨hR.hr.fr.os,hR.hr.fr.tape,hR.hr.fr.output,hR.hr.fr.size,hR.hr.fr.block⟩,hR.hr.pin,hR.hr.psz⟩⟩;have aa:=hR.hr.ob l o ho;cases o with
 |box cells=>
  obtain⟨b,ty,cs,fz,hb,hw,hf,ac,hr⟩:=aa;exact⟨b,ty,cs,fz,hb,hw,hf,ac,λi x hx=>hA _ _ _ (hr i x hx)⟩
 |arr e s rows=>
  rcases aa with h0 | ⟨b,cs,hb,hw,ac,ak,hr⟩
  ·exact .inl h0
  ·refine .inr ⟨b,cs,hb,hw,ac,ak,λi j r x h4 h5=>?_⟩;obtain⟨v,hv,ai⟩:=hr i j r x h4 h5;exact⟨v,hv,Rd.mono (w:=w) (w':={ w with drawn:=n }) (λ_ h=>h) (λ_ _=>rfl) ai⟩
 |mp t f=>exact aa
structure VCOk(P:Program)(C:VC):Prop where
 spec:A9 P C.spec
 tt:TOk P C.tt
 mixed:P.follows .mixedOrders=true
def Em(E:Env)(k:Exit->St->oP R)(r:R):Exit->Act->World->Prop:=λe a w=>∃st,JQ E st a w/\k e st=some r
theorem FF{C:VC}(hC:VCOk P C){id:Nat}{ops:Array Oper}{aa:Bool}{st:St}{k:St->oP R}{r:R}(h:Q1V C id ops aa st k=some r){a:Act}(hR:JQ E st a w){Q:Exit->Act->World->Prop}(hQ:∀st' a' w',JQ E st' a' w'->k st'=some r->Q .normal a' w'):(Code.region id ops aa).wp P Q a w:=by
 unfold Q1V at h;obtain⟨recs,st',ac,h,ai⟩:∃recs st',recs.length=ops.toList.length/\(λst' recs=>bif !aa||Q3T st ops.toList recs then(match look C.cfg id with | some c=>k (QcW c st') | none=>k st')else none) st' ([]++recs)=some r/\Q0b P E ops 0 st recs st':=by
  cases hs:(look C.cfg (id+1000000000)).isSome with
  |true=>simp only[hs,Qq8]at h;exact Q0h (E:=E) hC.spec hC.tt ops.toList 0 st [] _ r (λj=>by simp) h
  |false=>simp only[hs,Qql]at h;exact Q1K (E:=E) hC.spec hC.tt ops.toList 0 st [] _ r (λj=>by simp) h
 simp only[List.nil_append]at h;cases hc:(!aa||Q3T st ops.toList recs)with
 |false=>simp_all
 |true=>
  simp only[hc,Qq8]at h;have aj:∀a w,JQ E st' a w->Q .normal a w:=by
   grind[Q9i]
  simp only[Array.length_toList]at ac;cases aa with
  |false=>
   grind[wp_region,Q9q,List.range_eq_range']
  |true=>
   simp only[Bool.not_true,Bool.false_or]at hc;refine wp_region_any hC.mixed ?_;refine QbM ac ai hc aj ops.size _ a _ Q2 ?_ ?_ ?_
   ·intro j o _ hl
    simp_all [Lst,Array.getD]
   ·refine Nat.le_trans List.countP_le_length ?_;simp
   ·have h0:∀(rs:Y Rec) (i:Nat) (s:St),DL (Array.replicate ops.size false) i s rs=s:=by
     intro rs;induction rs with
     |nil=>intro i s;rfl
     |cons x r ih=>
      intro i s;simp only[DL];have:(Array.replicate ops.size false).getD i false=false:=by simp[Array.getD]
      rw[this];exact ih (i+1) s
    rw[h0];exact hR.drawn _
theorem Q0p{c:Code}{ac:St->(Exit->St->oP R)->oP R}(aa:∀(st:St) (k:Exit->St->oP R) (r:R),ac st k=some r->∀a w,JQ E st a w->c.wp P (Em E k r) a w) :
  ∀(n:Nat) (st:St) (k:Exit->St->oP R) (r:R),Q9u ac n st k=some r->∀a w,JQ E st a w->Code.rounds P c (Em E k r) n a w
 |0,st,k,r,h=>by simp[Q9u]at h
 |n+1,st,k,r,h=>by
  intro a w hR;simp only[Q9u]at h;rw[rounds_succ];refine wp_mono (aa st _ r h a w hR) λe a' w' hp=>?_
  obtain⟨st',ai,hk⟩:=hp;cases e with
  |normal=>exact Q0p aa n st' k r hk a' w' ai
  |exit id=>exact⟨st',ai,hk⟩
  |ret=>exact⟨st',ai,hk⟩
  |_=>cases hk
theorem KJ{C:VC}(hC:VCOk P C)(n:Nat):∀(c:Code) (st:St) (k:Exit->St->oP R) (r:R),Gw C n c st k=some r->∀a w,JQ E st a w->c.wp P (Em E k r) a w:=by
 intro c;induction c with
 |skip=>intro st k r h a w hR;exact wp_skip ⟨st,hR,h⟩
 |region id ops am=>
  intro st k r h a w hR;exact FF hC h hR λst' a' w' aa hk=>⟨st',aa,hk⟩
 |seq x y aj ac=>
  intro st k r h a w hR;refine wp_seq (wp_mono (aj st _ r h a w hR) λe a' w' hp=>?_);obtain⟨st',aa,hk⟩:=hp;cases e with
  |normal=>exact ac st' k r hk a' w' aa
  |exit id=>exact⟨st',aa,hk⟩
  |ret=>exact⟨st',aa,hk⟩
  |_=>cases hk
 |cond c x y aj ac=>
  intro st k r h a w hR;simp only[Gw]at h;split at h
  ·rename_i e he;obtain⟨β,S,ai⟩:=hR;have hv:=(he▸Q5i ai c).bool_inv;refine wp_cond hv ?_;cases e with
   |true=>exact aj st k r (by simpa using h) a w ⟨β,S,ai⟩
   |false=>exact ac st k r (by simpa using h) a w ⟨β,S,ai⟩
  ·cases h
 |block id c ih=>
  intro st k r h a w hR;refine wp_block (wp_mono (ih st _ r h a w hR) λe a' w' hp=>?_);obtain⟨st',aa,hk⟩:=hp;cases e with
  |normal=>exact⟨st',aa,hk⟩
  |exit j=>
   cases hb:Nat.beq j id with
   |true=>
    simp only[hb,Qq8]at hk;have:=Qq3 hb;simp only[Exit.inBlock,this,if_true];exact⟨st',aa,hk⟩
   |false=>
    simp only[hb,Qql]at hk;have ak:¬ j=id:=λe=>by simp_all
    simp only[Exit.inBlock,ak,if_false];exact⟨st',aa,hk⟩
  |ret=>exact⟨st',aa,hk⟩
  |_=>cases hk
 |loop c ih=>
  intro st k r h a w hR;refine wp_loop_rounds _ (Q0p (λst k r h a w hR=>ih _ k r h a w ?_) _ st k r h a w hR)
  grind[Q1r,Pj]
 |exit id=>intro st k r h a w hR;exact wp_exit ⟨st,hR,h⟩
 |ret=>intro st k r h a w hR;exact wp_ret ⟨st,hR,h⟩
 |_=>grind[Gw]
theorem PC:∀(t:Nat) (av:AV),M9 av=true->gds t av=false
 |t,.gd ..,h=>by simp[M9]at h
 |t,.ag l,h=>by
  simp only[gds];exact go t l (by simpa[M9]using h)
 |t,.tup l,h=>by
  simp only[gds];exact go t l (by simpa[M9]using h)
 |t,.fn _ l,h=>by
  simp only[gds];exact go t l (by simpa[M9]using h)
 |t,.top,_=>rfl
 |t,.d _,_=>rfl
 |t,.nil,_=>rfl
 |t,.ptr ..,_=>rfl
 |t,.el ..,_=>rfl
 |t,.fs ..,_=>rfl
 |t,.mpd _,_=>rfl
 |t,.ex _,_=>rfl
 |t,.arr _,_=>rfl
 |t,.ap ..,_=>rfl
 |t,.sa ..,_=>rfl
where
 go:∀(t:Nat) (l:Y AV),KC l=true->Q0s t l=false
 |_,[],_=>rfl
 |t,a::r,h=>by
  simp only[KC,Qq4]at h;simp only[Q0s,Qqo];exact⟨PC t a h.1,go t r h.2⟩
theorem Dh:∀{args:Y AV} {i t:Nat} {av:AV},look (Q2J i args) t=some av->∃j,t=i+j/\args[j]? = some av
 |a::r,i,t,av,h=>by
  simp only[Q2J,Xe]at h;by_cases e:t=i
  ·rw[Qqr e]at h;injection h with h;exact⟨0,I,by simp[h]⟩
  ·rw[Qqj e]at h;obtain⟨j,h1,h2⟩:=Dh h;exact⟨j+1,I,by simpa using h2⟩
theorem Aa:∀{l:Y AV} {i:Nat} {x:AV},KC l=true->l[i]? = some x->M9 x=true
 |a::r,i,x,h,hx=>by
  simp only[KC,Qq4]at h;cases i with
  |zero=>simp at hx;subst hx;exact h.1
  |succ i=>exact Aa h.2 (by simpa using hx)
def Q62(tmps:Array Value):ResultVar->Sem Value
 |.tmp t=>pure (tmps.getD t undef)
 |.cell x t=>do loadVar t (<- asAddr (tmps.getD x undef))
theorem Q1P(fn:Func)(tmps:Array Value):results fn tmps=(do
  let vs <- fn.results.mapM (Q62 tmps)
  pure (if h:vs.size=1 then vs[0]else .tuple vs)):=rfl
theorem Q1q{ad:Addr}:(asAddr (.pointer (some ad))).run P w = .ok ad w:=by simp[asAddr]
theorem Q52{C:VC}(hC:VCOk P C){st:St}{a:Act}(hR:Rel E β S st a w){rv:ResultVar}{av:AV}(h:Q4W C.tt st rv=some av) :
  ∃v,(Q62 a.tmps rv).run P w = .ok v w/\RdA β S (look st.h) w (tmv a) v av:=by
 cases rv with
 |tmp t=>
  simp only[Q4W,Option.some.injEq]at h;subst h;exact⟨_,rfl,Q5i hR (.tmp t)⟩
 |cell x ty=>
  simp only[Q4W]at h;split at h
  ·rename_i l off hl;obtain⟨b,hb,hv⟩:=(hR.tm x _ (Rj hl Q2)).ptr_inv;split at h
   ·rename_i cells ti am aw;have an:=hC.tt ty ti aw;obtain⟨b',ay,cs,fz,a3,hw,_,az,hr⟩:=hR.hr.ob l _ am;obtain rfl:b=b':=by simp_all
    have hx:a.tmps.getD x undef = .pointer (some ⟨b,off,none⟩):=hv;cases hs:V2 ti.kd with
    |true=>
     simp only[hs,Qq8]at h;split at h
     ·rename_i a2 ax;cases h;obtain⟨h1,h2,h3⟩:=N4 ax;have ai:∀j,j<ti.size->off+j<cs.size:=λj hj=>by
       grind
      have aa:=Jb an hs (w:=w) (a:=⟨b,off,none⟩) (vs:=(List.range ti.size).map λj=>cs.getD (off+j) undef) Q2 (λj v hv=>by
       simp only[List.getElem?_map,Qq5]at hv;obtain⟨j',ar,rfl⟩:=hv;obtain⟨ac,he⟩:=Qq7.1 ar;simp at ac he;subst he;rw[JN,Jn hw];exact KZ (ai j ac))
      refine⟨.agg ((List.range ti.size).map λj=>cs.getD (off+j) undef).toArray,by simp only[Q62,hx,Qqa,Q1q,Qq6,aa],.ag _ _ (by simp[h1]) λi y hy=>?_⟩;have hi:i<ti.size:=by
       obtain⟨h6,_⟩:=Qq7.1 hy;omega
      rw[FY (v:=cs.getD (off+i) undef) (by simp[hi])];exact(hr (off+i) y ((h2 i hi).trans hy)).any_tm (h3 i y hy)
     ·cases h
    |false=>
     simp only[hs,Qql]at h;split at h
     ·rename_i c hc;cases aj:Q1h c with
      |false=>simp[aj]at h
      |true=>
       simp only[aj,Qq8,Option.some.injEq]at h;subst h;have ai:off<cs.size:=by
        obtain⟨h6,_⟩:=Qq7.1 hc;omega
       have aa:=J5 an hs (w:=w) (a:=⟨b,off,none⟩) (v:=cs.getD off undef) (by rw[Jn hw];exact KZ ai);exact⟨cs.getD off undef,by simp only[Q62,hx,Qqa,Q1q,Qq6,aa],(hr off c hc).any_tm aj⟩
     ·cases h
   ·cases h
  ·cases h
theorem C0{C:VC}(hC:VCOk P C){st:St}{a:Act}{w:World}{β:Nat->oP Nat}{S:Nat->Prop}(hR:Rel E β S st a w):∀{rs:Y ResultVar} {aa:Y AV},Q1O C.tt st rs=some aa ->
  ∃vs:Y Value,(rs.mapM (Q62 a.tmps)).run P w = .ok vs w/\vs.length=aa.length/\KC aa=true /\
   ∀(i:Nat) (v:Value) (av:AV),vs[i]? = some v->aa[i]? = some av->RdA β S (look st.h) w (tmv a) v av
 |[],aa,h=>by
  simp only[Q1O,Option.some.injEq]at h;subst h;exact⟨[],by simp,rfl,rfl,λi v av h=>by simp at h⟩
 |r::rs,aa,h=>by
  simp only[Q1O]at h;split at h
  ·rename_i x hx;split at h
   ·rename_i l hl;cases hg:M9 x with
    |false=>simp[hg]at h
    |true=>
     simp only[hg,Qq8,Option.some.injEq]at h;subst h;obtain⟨v,hv,aj⟩:=Q52 hC hR hx;obtain⟨vs,h1,h2,h3,h4⟩:=C0 hC hR hl;refine⟨v::vs,?_,by simp[h2],by simp[KC,hg,h3],λi u av hu ac=>?_⟩
     ·simp only[List.mapM_cons,Qqa,hv,h1,Qq6,Sem.run_pure]
     ·cases i with
      |zero=>simp at hu ac;subst hu;subst ac;exact aj
      |succ i=>exact h4 i u av (by simpa using hu) (by simpa using ac)
   ·cases h
  ·cases h
theorem Q0i{C:VC}(hC:VCOk P C){st:St}{a:Act}(hR:Rel E β S st a w){fn:Func}{av:AV}(h:Q0S C.tt st fn.results.toList=some av) :
  ∃v,(results fn a.tmps).run P w = .ok v w/\RdA β S (look st.h) w tm0 v av/\M9 av=true:=by
 have ai:∀(v:Value) (av:AV),M9 av=true->RdA β S (look st.h) w (tmv a) v av->RdA β S (look st.h) w tm0 v av:=λv av hg hr=>
  hr.mono (λ_ h=>h) (λ_ _=>rfl) (λl _=>Keep.rfl_ ..) (λt ht=>by grind[PC])
 unfold Q0S at h;have ak:∀aa,Q1O C.tt st fn.results.toList=some aa->∃vs:Y Value,(fn.results.mapM (Q62 a.tmps)).run P w = .ok vs.toArray w/\vs.length=aa.length/\KC aa=true /\
   ∀(i:Nat) (v:Value) (av:AV),vs[i]? = some v->aa[i]? = some av->RdA β S (look st.h) w (tmv a) v av:=by
  intro aa ha;obtain⟨vs,h1,h2,h3,h4⟩:=C0 hC hR ha;refine⟨vs,?_,h2,h3,h4⟩;rw[<- Array.toList_mapM,Sem.run_map]at h1;cases hr:(fn.results.mapM (Q62 a.tmps)).run P w with
  |ok b w'=>
   rw[hr]at h1;simp only[Qq6,Result.ok.injEq]at h1;obtain⟨h5,rfl⟩:=h1;congr 1
   grind
  |halt x w'=>simp_all
 split at h
 ·rename_i x hx;cases h;obtain⟨vs,h1,h2,h3,h4⟩:=ak _ hx
  match vs,h2 with
  |[v],_=>
   have hg:M9 av=true:=by grind[KC]
   refine⟨v,?_,ai v av hg (h4 0 v av rfl rfl),hg⟩
   simp_all [Q1P,Qqa,Qq6]
 ·rename_i l am hl;cases h;obtain⟨vs,h1,h2,h3,h4⟩:=ak _ hl;have hg:M9 (.tup l)=true:=by simpa[M9]using h3
  have an:¬ vs.toArray.size=1:=by
   intro h5;simp only[List.size_toArray]at h5
   match l,h5.symm.trans h2 with
   |[x],_=>exact am x rfl
  refine⟨.tuple vs.toArray,?_,ai _ _ hg (.tup _ _ (by simpa using h2) λi x hx=>?_),hg⟩
  ·rw[Q1P];simp only[Qqa,h1,Qq6,an,dite_false];rfl
  ·have hi:i<vs.length:=by have:=(Qq7.1 hx).1;omega
   have hv:=Qq9 hi;rw[FY hv];exact h4 i _ x hv hx
 ·cases h
def Ns(H:Y (Nat×Ob))(k:AV->Y (Nat×Ob)->oP R)(r:R)(β:Nat->oP Nat)(S:Nat->Prop)(w:World):Ending->World->Prop:=λe w'=>
 ∃v av H' β' S',e = .returned v/\k av H'=some r/\RdA β' S' (look H') w' tm0 v av/\M9 av=true/\HRel ⟨w,λb=>∃l,(look H l).isSome=true/\β l=some b,S,β⟩ β' S' (look H') w'
def fnK(tt:TT)(fn:Func)(k:AV->Y (Nat×Ob)->oP R):Exit->St->oP R:=λe st=>match e with
 |.ret=>match Q0S tt st fn.results.toList with
  |some v=>k v st.h
  |none=>none
 |.normal=>match Q0S tt st fn.results.toList with
  |some v=>k v st.h
  |none=>none
 |_=>none
theorem Q28{C:VC}(hC:VCOk P C){f:Nat}{fn:Func}{c:Code}(hf:P.funcs[f]? = some fn)(hc:fn.body=some c){args:Y AV}{H:Y (Nat×Ob)}{k:AV->Y (Nat×Ob)->oP R}{r:R}(hb:(Nat.ble args.length fn.ntmps&&KC args)=true){vs:Y Value}(an:∀a:Act,Rel ⟨w,λb=>∃l,(look H l).isSome=true/\β l=some b,S,β⟩ β S { n:=fn.ntmps,tm:=Q2J 0 args,h:=H } a w->c.wp P (Em ⟨w,λb=>∃l,(look H l).isSome=true/\β l=some b,S,β⟩ (fnK C.tt fn k) r) a w)(hO:Objs β S (look H) w)(hA:ArgsRd β S (look H) w vs args) :
  Calls P f vs.toArray w (Ns H k r β S w):=by
 simp only[Qq4]at hb;have az:=Qqt hb.1;refine calls_of_wp hf hc ?_;have hR:Rel ⟨w,λb=>∃l,(look H l).isSome=true/\β l=some b,S,β⟩ β S { n:=fn.ntmps,tm:=Q2J 0 args,h:=H } { tmps:=vs.toArray++Array.replicate (fn.ntmps-vs.toArray.size) undef,defers:=[] } w:=by
  refine⟨by simp;have:=hA.1;omega,rfl,λt av ht=>?_,⟨hO.ob,hO.inj,hO.apart,λl b h1 h2=>.inl ⟨l,h1,h2⟩,hO.sb,λb h=>.inl h,λb h=>h,Fr.refl _ _,λ_ _=>rfl,λ_ _ _ _ _ cs ty fz hw=>⟨cs,ty,fz,hw,rfl⟩⟩⟩;obtain⟨j,hj,aa⟩:=Dh ht;simp only[Qqf]at hj;subst hj;have ac:t<vs.length:=by have:=(Qq7.1 aa).1;have:=hA.1;omega
  have hv:=Qq9 ac;have aj:=hA.2 t _ av hv aa;have ar:tmv { tmps:=vs.toArray++Array.replicate (fn.ntmps-vs.toArray.size) undef,defers:=[] } t=vs[t]:=by
   unfold tmv;have h5:(vs.toArray++Array.replicate (fn.ntmps-vs.toArray.size) undef)[t]? = some vs[t]:=by
    rw[Array.getElem?_append_left (by simpa using ac)];simp[ac]
   have h6:=KZ (Qqd.1 h5).1;rw[h5]at h6;injection h6 with h6
   exact h6.symm
  rw[ar];exact aj.mono (λ_ h=>h) (λ_ _=>rfl) (λl _=>Keep.rfl_ ..) (λt' ak=>by rw[PC t' av (Aa hb.2 aa)]at ak;cases ak)
 refine wp_mono (an _ hR) λe a' w' hp=>?_
 obtain⟨st',⟨β',S',ai⟩,hk⟩:=hp;have fin:∀av,Q0S C.tt st' fn.results.toList=some av->k av st'.h=some r->a'.defers=[]/\∃v,(results fn a'.tmps).run P w' = .ok v w'/\∃am av H' β' S',Ending.returned v = .returned am/\k av H'=some r/\RdA β' S' (look H') w' tm0 am av/\M9 av=true/\HRel ⟨w,λb=>∃l,(look H l).isSome=true/\β l=some b,S,β⟩ β' S' (look H') w':=by
  intro av aa au;obtain⟨v,hv,aj,hg⟩:=Q0i hC ai aa;exact⟨ai.dfr,v,hv,v,av,st'.h,β',S',rfl,au,aj,hg,ai.hr⟩
 cases e with
 |ret=>
  simp only[fnK]at hk;split at hk
  ·rename_i av aa;exact fin av aa hk
  ·cases hk
 |normal=>
  simp only[fnK]at hk;split at hk
  ·rename_i av aa;exact fin av aa hk
  ·cases hk
 |_=>cases hk
theorem BG{C:VC}(hC:VCOk P C){n f:Nat}{fn:Func}(hf:P.funcs[f]? = some fn){args:Y AV}{H:Y (Nat×Ob)}{k:AV->Y (Nat×Ob)->oP R}{r:R}(h:vfn C n fn args H k=some r){vs:Y Value}(hO:Objs β S (look H) w)(hA:ArgsRd β S (look H) w vs args) :
  Calls P f vs.toArray w λe w'=>∃v av H' β' S',e = .returned v/\k av H'=some r/\RdA β' S' (look H') w' tm0 v av/\M9 av=true/\HRel ⟨w,λb=>∃l,(look H l).isSome=true/\β l=some b,S,β⟩ β' S' (look H') w':=by
 unfold vfn at h;split at h
 case h_2=>cases h
 rename_i c hc;cases hb:(Nat.ble args.length fn.ntmps&&KC args)with
 |false=>simp_all
 |true=>
  simp only[hb,Qq8]at h;exact Q28 hC hf hc hb (λa hR=>KJ hC n c _ _ r h a w ⟨β,S,hR⟩) hO hA
end
end Go.Vx
namespace Go.Vx
section
variable{P:Program}
def QfK:Y Value->Y Nat->oP (Y D)
 |[],_=>some []
 |v::r,ss=>
  match QfK r ss.tail with
  |some l=>match v with
   |.int k n=>some (.int k n::l)
   |.bool b=>some (.bool b::l)
   |.string s=>some (.str s.data.toList::l)
   |.slice none 0 0=>some (.sl (ss.headD 0) []::l)
   |_=>none
  |none=>none
def Q3m(P:Program):Nat->Nat->Y Nat
 |0,_=>[]
 |f+1,t=>match P.underlying t with
  |some (.struct fs)=>fs.toList.flatMap λfd=>Q3m P f fd.type
  |some (.array n e)=>(List.replicate n (Q3m P f e)).flatten
  |_=>[t]
def QfS(P:Program)(t:Nat):Nat:=
 match P.underlying t with
 |some (.slice e)=>P.cellsOf e
 |_=>0
def kdP(P:Program):TypeDesc->oP Kd
 |.int k=>some (.int k)
 |.bool=>some .bool
 |.string=>some .str
 |.slice e=>match P.info? e with
  |some i=>if 0<i.size then some (.sl e i.size)else none
  |none=>none
 |.struct fs=>if fs.toList.all (λf=>match P.info? f.type with | some i=>i.size != 0 | none=>false)then some .struct else none
 |.array n e=>match P.info? e with
  |some i=>if 0<i.size then some (.array e i.size n)else none
  |none=>none
 |.pointer _=>some .ptr
 |.map K e=>match P.underlying K,P.info? e with
  |some (.int .i64),some i=>match i.zero with
   |some (.slice none 0 0)=>some .mapI
   |some (.bool false)=>some .mpb
   |some (.int .i64 0)=>some .mpi
   |_=>some .other
  |_,_=>some .other
 |.func ..=>some .other
 |.interface _=>some .other
 |_=>none
def Q9Q(P:Program):TypeDesc->Y (Nat×Nat)
 |.struct fs=>fs.toList.map λf=>(f.offset,f.type)
 |.array n e=>(List.range n).map λi=>(i*((P.info? e).map (·.size)).getD 0,e)
 |_=>[]
def Qgb(P:Program)(so:TypeId->oP (Y Kd)):Nat->Y Field->oP (Y Kd)
 |_,[]=>some []
 |off,fd::r=>
  if fd.offset = off /\ fd.name ≠ "_" then match so fd.type with
   |some a=>if (P.info? fd.type).map (·.size)=some a.length then match Qgb P so (off+a.length) r with
    |some l=>some (a++l)
    |none=>none
    else none
   |none=>none
  else none
def QdF(P:Program):Nat->TypeId->oP (Y Kd)
 |0,_=>none
 |f+1,t=>
  match P.underlying t with
  |some .bool=>some [.bool]
  |some (.int k)=>some [.int k]
  |some .string=>some [.str]
  |some (.struct fs)=>if P.stoodInHeld t then none else Qgb P (QdF P f) 0 fs.toList
  |_=>none
def QjB(P:Program)(t:Nat):oP (Y Kd):=
 match P.underlying t with
 |some (.struct _)=>if P.eqGuardType P.depth t then none else QdF P 6 t
 |some (.array 2 e)=>match P.underlying e with
  |some (.int k)=>if (P.info? e).map (·.size)=some 1/\P.eqGuardType P.depth t=false then some [.int k,.int k]else none
  |_=>none
 |_=>none
def Qj8:Kd->Nat->Bool
 |.array _ esz n,k=>Nat.beq k (n*esz)
 |_,_=>true
def tyI(P:Program)(t:Nat):oP TyI:=
 match P.info? t,P.underlying t with
 |some i,some d=>match i.zero,kdP P d with
  |some z,some kd=>
   if z.cells.toList.length=i.size/\(V2 kd=false->i.size=1)/\Qj8 kd i.size=true then
    some { kd,size:=i.size,bytes:=i.bytes,zero:=z.cells.toList,zd:=(QfK z.cells.toList ((Q3m P 8 t).map (QfS P))).getD [],fields:=Q9Q P d,eqk:=QjB P t }
   else none
  |_,_=>none
 |_,_=>none
def QhP(P:Program):Y Nat->TT
 |[]=>[]
 |t::r=>match tyI P t with
  |some ti=>(t,ti)::QhP P r
  |none=>QhP P r
theorem Qbb:∀{vs:Y Value} {ss:Y Nat} {l:Y D},QfK vs ss=some l->∀(j:Nat) (x:D),l[j]? = some x->∃v,vs[j]? = some v/\∀(S:Nat->Prop) (w:World),Rd S w v x
 |[],ss,l,h,j,x,hx=>by grind[QfK]
 |v::r,ss,l,h,j,x,hx=>by
  simp only[QfK]at h;split at h
  case h_2=>cases h
  rename_i l' aa;have fin:∀d,l=d::l'->(∀(S:Nat->Prop) (w:World),Rd S w v d)->∃v',(v::r)[j]? = some v'/\∀(S:Nat->Prop) (w:World),Rd S w v' x:=by
   intro d hd hr;cases j with
   |zero=>simp_all
   |succ j=>
    obtain⟨v',h1,h2⟩:=Qbb aa j x Q4
    simp_all
  split at h
  ·cases h;exact fin _ rfl λ_ _=>.int _ _
  ·cases h;exact fin _ rfl λ_ _=>.bool _
  ·cases h;exact fin _ rfl λ_ _=>.str _
  ·cases h;exact fin _ rfl λ_ _=>.sl0 _ _ _
  ·cases h
def FV(P:Program)(t:TypeId)(xs:Y Value):Value:=
 match P.underlying t with
 |some (.struct _)=>.agg xs.toArray
 |_=>xs.headD undef
theorem Q7E{t:TypeId}{f:Nat}{ks:Y Kd}(hk:QdF P f t=some ks)(hi:(P.info? t).map (·.size)=some ks.length){w:World}{cs:Array Value}{off:Nat}(ak:off+ks.length<=cs.size) :
  (part t cs off).run P w = .ok (FV P t ((cs.toList.drop off).take ks.length)) w:=by
 obtain⟨i,ai,aj⟩:=Qq5.1 hi;have one:∀(d:TypeDesc),P.underlying t=some d->(∀fs,d≠.struct fs)->(∀n e,d≠.array n e)->ks.length=1->(part t cs off).run P w = .ok (FV P t ((cs.toList.drop off).take ks.length)) w:=by
  intro d hd h1 h2 hl;have aa:(isAgg t).run P w = .ok false w:=by
   simp_all [isAgg,Qqa,QM,Qq6]
  have hc:cs[off]? = some (cs[off]'I):=Qqg I;have hp:FV P t ((cs.toList.drop off).take ks.length)=cs[off]'I:=by
   grind[List.drop_eq_getElem_cons,FV]
  simp only[part,Qqa,aa,Qq6,Bool.false_eq_true,if_false,hc,hp];rfl
 cases f with
 |zero=>trivial
 |succ f=>
  unfold QdF at hk;split at hk
  ·rename_i hd;injection hk with hk;exact one _ hd Q2 Q2 (by rw[<- hk];rfl)
  ·rename_i k hd;injection hk with hk;exact one _ hd Q2 Q2 (by rw[<- hk];rfl)
  ·rename_i hd;injection hk with hk;exact one _ hd Q2 Q2 (by rw[<- hk];rfl)
  ·rename_i fs hd;have aa:(isAgg t).run P w = .ok true w:=by simp[isAgg,QM hd]
   have hp:FV P t ((cs.toList.drop off).take ks.length) = .agg (cs.extract off (off+ks.length)):=by
    unfold FV;rw[hd];simp only;congr 1;apply Array.ext';simp[List.take_drop]
   simp only[part,Qqa,aa,Qq6,if_true,sizeOf,Yt ai,aj,hp];rfl
  ·cases hk
theorem Qgv:∀(f:Nat) (t:TypeId) (ks:Y Kd),QdF P f t=some ks->∀(d:Nat),f<=d->∀(w:World) (xs ys:Y Value) (bs:Y Bool),xs.length=ks.length->ys.length=ks.length->bs.length=ks.length ->
  (∀(j:Nat) (kd:Kd) (b:Bool),ks[j]? = some kd->bs[j]? = some b->CEq kd (xs.getD j undef) (ys.getD j undef) b)->(Op.equalIn d t (FV P t xs) (FV P t ys)).run P w = .ok (bs.all id) w:=by
 intro f;induction f with
 |zero=>grind[QdF]
 |succ f ih=>
  intro t ks hk d hd w xs ys bs hx hy hb hc;obtain⟨d,rfl⟩:∃d',d=d'+1:=⟨d-1,I⟩;unfold QdF at hk;split at hk
  ·rename_i ht;injection hk with hk;subst hk
   match xs,ys,bs,hx,hy,hb with
   |[x],[y],[b],_,_,_=>
    obtain⟨m,n,h1,h2,h3⟩:=hc 0 _ _ rfl rfl;simp at h1 h2;subst h1 h2 h3;simp[FV,ht,Op.equalIn,QM ht]
  ·rename_i k ht;injection hk with hk;subst hk
   match xs,ys,bs,hx,hy,hb with
   |[x],[y],[b],_,_,_=>
    obtain⟨m,n,h1,h2,h3⟩:=hc 0 _ _ rfl rfl;simp at h1 h2;subst h1 h2 h3;simp[FV,ht,Op.equalIn,QM ht]
  ·rename_i ht;injection hk with hk;subst hk
   match xs,ys,bs,hx,hy,hb with
   |[x],[y],[b],_,_,_=>
    obtain⟨m,n,h1,h2,h3⟩:=hc 0 _ _ rfl rfl;simp at h1 h2;subst h1 h2 h3;simp only[FV,ht,List.headD_cons,Op.equalIn,Qqa,QM ht,Qq6];rw[beq_toListBytes,ByteArray.toList_eq,ByteArray.toList_eq];simp
  ·rename_i fs ht;split at hk
   ·cases hk
   rename_i az;have aw:P.fieldsOf t=fs:=by simp[Program.fieldsOf,ht]
   have a2:∀(r:Y Field) (off:Nat) (l:Y Kd) (aa:Y Bool),Qgb P (QdF P f) off r=some l->off+l.length<=xs.length->xs.length=ys.length->aa.length=l.length ->
     (∀(j:Nat) (kd:Kd) (b:Bool),l[j]? = some kd->aa[j]? = some b->CEq kd (xs.getD (off+j) undef) (ys.getD (off+j) undef) b) ->
     (Op.eqFields d xs.toArray ys.toArray r).run P w = .ok (aa.all id) w:=by
    intro r;induction r with
    |nil=>
     intro off l aa hl _ _ ao _;simp[Qgb]at hl;subst hl;have:aa=[]:=Qqm (by simpa using ao);subst this;simp[Op.eqFields]
    |cons fd r a6=>
     intro off l aa hl a5 ax ao au;unfold Qgb at hl;split at hl
     case isFalse=>cases hl
     rename_i an;split at hl
     case h_2=>cases hl
     rename_i a ha;split at hl
     case isFalse=>cases hl
     rename_i hi;split at hl
     case h_2=>cases hl
     rename_i l' a4;injection hl with hl;subst hl
     simp only[List.length_append]at a5 ao;have p1:=Q7E ha hi (w:=w) (cs:=xs.toArray) (off:=off) Q3;have p2:=Q7E ha hi (w:=w) (cs:=ys.toArray) (off:=off) Q3;have gd:∀(zs:Y Value) (j:Nat),zs.length=xs.length->j<a.length->((zs.drop off).take a.length).getD j undef=zs.getD (off+j) undef:=by
      intro zs j hz hj;simp only[List.getD,List.getElem?_take,hj,if_true,Qqe]
     have e1:=ih fd.type a ha d I w ((xs.drop off).take a.length) ((ys.drop off).take a.length) (aa.take a.length) Q3 Q3 Q3 (λj kd b hj aj=>by
      have ak:j<a.length:=(Qq7.1 hj).1;rw[gd xs j rfl ak,gd ys j ax.symm ak];refine au j kd b (by rw[List.getElem?_append_left ak];exact hj) ?_;rw[List.getElem?_take,Qqr ak]at aj;exact aj)
     have e2:=a6 (off+a.length) l' (aa.drop a.length) a4 I ax Q3 (λj kd b hj aj=>by
      rw[Nat.add_assoc];refine au (a.length+j) kd b (by rw[List.getElem?_append_right I];simpa using hj) ?_;rw[Qqe]at aj;exact aj)
     have ay:aa.all id=((aa.take a.length).all id&&(aa.drop a.length).all id):=by
      rw[<- List.all_append,List.take_append_drop]
     simp only[Op.eqFields,an.1,an.2,ne_eq,not_false_eq_true,if_true,Qqa,p1,p2,Qq6,e1];rw[ay];cases (aa.take a.length).all id with
     |true=>simp[e2]
     |false=>simp
   have:=a2 fs.toList 0 ks bs hk I I hb (λj kd b h1 h2=>by rw[Qqf];exact hc j kd b h1 h2);have hp:∀zs,FV P t zs = .agg zs.toArray:=λzs=>by simp[FV,ht]
   rw[hp,hp,run_equalIn_struct w d t _ _ (by rw[aw];exact ht) (by simpa using az),aw];exact this
  ·cases hk
theorem Qe0{t e:TypeId}{k:IntKind}(ht:P.underlying t=some (.array 2 e))(he:P.underlying e=some (.int k))(hi:(P.info? e).map (·.size)=some 1)(w:World)(a b c d:Int) :
  (Op.equalIn 10000 t (.agg #[.int k a,.int k b]) (.agg #[.int k c,.int k d])).run P w = .ok ((a == c)&&(b == d)) w:=by
 obtain⟨i,ac,ai⟩:=Qq5.1 hi;have aa:(isAgg e).run P w = .ok false w:=by
  simp only[isAgg,Qqa,QM he,Qq6];rfl
 have hs:(Go.sizeOf e).run P w = .ok 1 w:=by simp only[sizeOf,Qqa,Yt ac,Qq6,ai];rfl
 have hp:∀(x y:Value),(part e #[x,y] 0).run P w = .ok x w/\(part e #[x,y] 1).run P w = .ok y w:=λx y=>by
  constructor<;>simp[part,aa]
 have hq:∀x y:Int,(Op.equalIn 9999 e (.int k x) (.int k y)).run P w = .ok (x == y) w:=λx y=>by
  rw[Op.equalIn];simp[QM he]
 rw[Op.equalIn];simp only[Qqa,QM ht,Qq6,hs];simp[Std.Legacy.Range.forIn_eq_forIn_range',Std.Legacy.Range.size,List.range',(hp _ _).1,(hp _ _).2,hq];by_cases h1:a=c<;>by_cases h2:b=d<;>simp[h1,h2]
theorem Qeq{t:Nat}{ks:Y Kd}(h:QjB P t=some ks):Qkh P t ks:=by
 unfold QjB at h;split at h
 case h_3=>cases h
 case h_2=>
  rename_i e ht;split at h
  case h_2=>cases h
  rename_i k he;split at h
  case isFalse=>cases h
  rename_i hg;injection h with h
  subst h;intro w xs ys bs hx hy hb hc;refine⟨?_,hg.2⟩;obtain⟨xs⟩:=xs;obtain⟨ys⟩:=ys
  match xs,ys,bs,hx,hy,hb with
  |[x0,x1],[y0,y1],[b0,b1],_,_,_=>
   obtain⟨m,n,h1,h2,h3⟩:=hc 0 _ _ rfl rfl;obtain⟨m',n',an,am,ao⟩:=hc 1 _ _ rfl rfl
   simp_all [Qe0]
 rename_i fs ht;split at h
 ·cases h
 rename_i hg;intro w xs ys bs hx hy hb hc;refine⟨?_,by simp_all⟩;have:=Qgv 6 t ks h 10000 I w xs.toList ys.toList bs I I hb (λj kd b h1 h2=>by
  have:=hc j kd b h1 h2;simpa[Array.getD_eq_getD_getElem?,List.getD]using this)
 simp_all [FV]
theorem Qht{d:TypeDesc}{e esz:Nat}(hk:kdP P d=some (.sl e esz)):d = .slice e/\0<esz/\∃i,P.info? e=some i/\i.size=esz:=by
 cases d<;>simp only[kdP,Option.some.injEq,reduceCtorEq]at hk
 all_goals grind
theorem QeA{t:TypeId}{d:TypeDesc}(hk:kdP P d=some .mapI)(hd:P.underlying t=some d):∃K e,P.underlying t=some (.map K e)/\P.underlying K=some (.int .i64)/\∃i,P.info? e=some i/\i.zero=some (.slice none 0 0):=by
 cases d<;>simp only[kdP,Option.some.injEq,reduceCtorEq]at hk
 all_goals grind
theorem Q8n{d:TypeDesc}(hk:kdP P d=some .struct):∃fs,d = .struct fs/\∀f∈fs.toList,∃i,P.info? f.type=some i/\i.size≠0:=by
 cases d<;>simp only[kdP,Option.some.injEq,reduceCtorEq]at hk
 all_goals grind
theorem Qb3{d:TypeDesc}{e esz n:Nat}(hk:kdP P d=some (.array e esz n)):d = .array n e/\0<esz/\∃i,P.info? e=some i/\i.size=esz:=by
 cases d<;>simp only[kdP,Option.some.injEq,reduceCtorEq]at hk
 all_goals grind
theorem Qfe{d:TypeDesc}{k:IntKind}(hk:kdP P d=some (.int k)):d = .int k:=by
 cases d<;>simp only[kdP,Option.some.injEq,Kd.int.injEq,reduceCtorEq]at hk<;>first | grind | ((repeat' split at hk)<;>simp at hk)
theorem Qco{d:TypeDesc}(hk:kdP P d=some .bool):d = .bool:=by
 cases d<;>simp only[kdP,Option.some.injEq,reduceCtorEq]at hk<;>first | rfl | grind
theorem QeU{d:TypeDesc}(hk:kdP P d=some .str):d = .string:=by
 cases d<;>simp only[kdP,Option.some.injEq,reduceCtorEq]at hk<;>first | rfl | grind
theorem Qed{t:TypeId}{d:TypeDesc}(hk:kdP P d=some .mpb)(hd:P.underlying t=some d):∃K e,P.underlying t=some (.map K e)/\P.underlying K=some (.int .i64)/\∃i,P.info? e=some i/\i.zero=some (.bool false):=by
 cases d<;>simp only[kdP,Option.some.injEq,reduceCtorEq]at hk
 all_goals grind
theorem Qey{t:TypeId}{d:TypeDesc}(hk:kdP P d=some .mpi)(hd:P.underlying t=some d):∃K e,P.underlying t=some (.map K e)/\P.underlying K=some (.int .i64)/\∃i,P.info? e=some i/\i.zero=some (.int .i64 0):=by
 cases d<;>simp only[kdP,Option.some.injEq,reduceCtorEq]at hk
 all_goals grind
theorem QhI{t:Nat}{ti:TyI}(h:tyI P t=some ti):TyOk P t ti:=by
 unfold tyI at h;split at h
 case h_2=>cases h
 rename_i i d hi hd;split at h
 case h_2=>cases h
 rename_i z kd hz hk;split at h
 case isFalse=>cases h
 rename_i hc;injection h with h
 subst h;refine⟨⟨i,hi,rfl,rfl,z,hz,rfl⟩,λhs=>⟨hc.2.1 hs,d,hd,?_,?_⟩,λk he=>?_,λhe=>?_,λhe=>?_,λe esz he=>?_,λhe=>?_,λe esz n he=>?_,λks he=>Qeq he,hc.1,λhl j x hx=>?_,λhe=>?_,λhe=>?_,λhe=>?_⟩
 ·rintro fs rfl;simp only[kdP]at hk;split at hk
  ·injection hk with hk;subst hk;simp[V2]at hs
  ·cases hk
 ·rintro n e rfl;simp only[kdP]at hk;split at hk
  ·split at hk
   ·injection hk with hk;subst hk;simp[V2]at hs
   ·cases hk
  ·cases hk
 ·simp only at he;subst he;rw[Qfe hk]at hd;exact hd
 ·simp only at he;subst he;rw[Qco hk]at hd;exact hd
 ·simp only at he;subst he;rw[QeU hk]at hd;exact hd
 ·simp only at he;subst he;obtain⟨h1,h2,h3⟩:=Qht hk;rw[h1]at hd;exact⟨hd,h2,h3⟩
 ·simp only at he;subst he;obtain⟨fs,h1,h2⟩:=Q8n hk;subst h1;exact⟨fs,hd,rfl,h2⟩
 ·simp only at he;subst he;obtain⟨h1,h2,i',h3,h4⟩:=Qb3 hk;subst h1;refine⟨hd,h2,⟨i',h3,h4⟩,Qq3 hc.2.2,?_⟩;simp[Q9Q,h3,h4]
 ·simp only at hl hx;cases aa:QfK z.cells.toList ((Q3m P 8 t).map (QfS P))with
  |none=>rw[aa]at hx;simp at hx
  |some l=>rw[aa]at hx;exact Qbb aa j x (by simpa using hx)
 ·simp only at he;subst he;exact Qed hk hd
 ·simp only at he;subst he;exact QeA hk hd
 ·simp only at he;subst he;exact Qey hk hd
theorem Qeu(aa:Y Nat):TOk P (QhP P aa):=by
 induction aa with
 |nil=>intro t ti h;trivial
 |cons a r ih=>
  intro t ti h;unfold QhP at h;split at h
  ·rw[Xe]at h;by_cases e:t=a
   ·simp_all [Qqr,QhI]
   ·rw[Qqj e]at h;exact ih t ti h
  ·exact ih t ti h
mutual
def lf:AV->Bool
 |.ptr ..=>false
 |.arr _=>false
 |.ap ..=>false
 |.sa ..=>false
 |.gd ..=>false
 |.ag l=>lfL l
 |.tup l=>lfL l
 |.fn _ l=>lfL l
 |_=>true
def lfL:Y AV->Bool
 |[]=>true
 |a::r=>lf a&&lfL r
end
mutual
theorem Q7u(l:Nat):∀(av:AV),lf av=true->Yu l av=false
 |.ptr ..,h=>by simp[lf]at h
 |.arr _,h=>by simp[lf]at h
 |.ap ..,h=>by simp[lf]at h
 |.sa ..,h=>by simp[lf]at h
 |.gd ..,h=>by simp[lf]at h
 |.ag r,h=>by simp only[Yu];exact EO l r (by simpa[lf]using h)
 |.tup r,h=>by simp only[Yu];exact EO l r (by simpa[lf]using h)
 |.fn _ r,h=>by simp only[Yu];exact EO l r (by simpa[lf]using h)
 |.top,_=>rfl
 |.d _,_=>rfl
 |.nil,_=>rfl
 |.el ..,_=>rfl
 |.fs ..,_=>rfl
 |.mpd _,_=>rfl
 |.ex _,_=>rfl
theorem EO(l:Nat):∀(r:Y AV),lfL r=true->Gp l r=false
 |[],_=>rfl
 |a::r,h=>by
  simp only[lfL,Qq4]at h;simp only[Gp,Q7u l a h.1,EO l r h.2,Bool.or_self]
end
mutual
theorem Q5p(t:Nat):∀(av:AV),lf av=true->gds t av=false
 |.ptr ..,h=>by simp[lf]at h
 |.arr _,h=>by simp[lf]at h
 |.ap ..,h=>by simp[lf]at h
 |.sa ..,h=>by simp[lf]at h
 |.gd ..,h=>by simp[lf]at h
 |.ag r,h=>by simp only[gds];exact Q3g t r (by simpa[lf]using h)
 |.tup r,h=>by simp only[gds];exact Q3g t r (by simpa[lf]using h)
 |.fn _ r,h=>by simp only[gds];exact Q3g t r (by simpa[lf]using h)
 |.top,_=>rfl
 |.d _,_=>rfl
 |.nil,_=>rfl
 |.el ..,_=>rfl
 |.fs ..,_=>rfl
 |.mpd _,_=>rfl
 |.ex _,_=>rfl
theorem Q3g(t:Nat):∀(r:Y AV),lfL r=true->Q0s t r=false
 |[],_=>rfl
 |a::r,h=>by
  simp only[lfL,Qq4]at h;simp only[Q0s,Q5p t a h.1,Q3g t r h.2,Bool.or_self]
end
theorem Q1C:∀{l:Y AV} {i:Nat} {x:AV},lfL l=true->l[i]? = some x->lf x=true
 |a::r,i,x,h,hx=>by
  simp only[lfL,Qq4]at h;cases i with
  |zero=>simp at hx;subst hx;exact h.1
  |succ i=>exact Q1C h.2 (by simpa using hx)
theorem FU{β β':Nat->oP Nat}{S S':Nat->Prop}{h h':Nat->oP Ob}{w w':World}{tm tm':Nat->Value}{v:Value}{av:AV}(hl:lf av=true)(hS:∀b,S b->S' b)(hw:∀b,S b->w'.heap[b]? = w.heap[b]?)(hv:RdA β S h w tm v av):RdA β' S' h' w' tm' v av:=
 hv.mono hS hw (λl hn=>by rw[Q7u l av hl]at hn;cases hn) (λt ht=>by rw[Q5p t av hl]at ht;cases ht)
def QbF(h:Y (Nat×Ob))(av:AV):oP AV:=
 match av with
 |.tup l=>match Nh (look h) l with
  |some (l',_)=>bif lfL l' then some (.tup l')else none
  |none=>none
 |av=>match Nk (look h) av with
  |some (aa,_)=>bif lf aa then some aa else none
  |none=>none
def QjU{R:Type}(K:AV->oP R):AV->Y (Nat×Ob)->oP R:=λav h=>match QbF h av with
 |some aa=>K aa
 |none=>none
theorem Q3d{β:Nat->oP Nat}{S:Nat->Prop}{H:Y (Nat×Ob)}{w:World}{v:Value}{av aa:AV}(hO:Objs β S (look H) w)(h:QbF H av=some aa)(hv:RdA β S (look H) w tm0 v av) :
  ∃bs,(∀l,l∈bs->∃e s rows,look H l=some (.arr e s rows))/\lf aa=true/\RdA β (fzS β S bs) (fzH (look H) bs) w tm0 v aa:=by
 unfold QbF at h;split at h
 ·rename_i l;split at h
  ·rename_i l' bs hc;cases hl:lfL l' with
   |false=>simp_all
   |true=>
    simp only[hl,Qq8,Option.some.injEq]at h;subst h;refine⟨bs,ER hc,by assumption,?_⟩;obtain⟨vs,rfl,aj,hr⟩:=hv.tup_inv;obtain⟨h1,h2⟩:=F1 hc;refine .tup _ _ (by rw[aj,h1]) λi x hx=>?_
    have hi:i<l.length:=by grind
    have ai:=Qq9 hi;obtain⟨aa,b2,g1,g2,g3⟩:=h2 i _ ai;rw[hx]at g1;injection g1 with g1
    subst g1;exact Q7L hO (λ_ _=>rfl) g3 g2 (hr i _ ai)
  ·cases h
 ·split at h
  ·rename_i ac bs hc;cases hl:lf ac with
   |false=>simp[hl]at h
   |true=>
    simp only[hl,Qq8,Option.some.injEq]at h;subst h;exact⟨bs,BI hc,hl,Q7L hO (λ_ _=>rfl) (λ_ h=>h) hc hv⟩
  ·cases h
theorem Qew {C : VC} (hC : VCOk P C) {n f : Nat} {fn : Func} (hf : P.funcs[f]? = some fn) (hb : fn.body.isSome = true) (hn : (fn.name == "runtime.NumGoroutine") = false) {avs : Y AV} {av : AV} {hl : Nat -> oP Ob} {rd : Y Nat} (hlf : lfL avs = true)
  (h:vfn C n fn avs [] (QjU some)=some av):Wa P f avs hl ⟨av,[],rd⟩:=by
 refine⟨⟨fn,hf,hb,hn⟩,λβ S h' w args hO hA _=>?_⟩;have hO0:Objs (λ_=>none) S (look ([]:Y (Nat×Ob))) w:=⟨λl o h=>by trivial,λl l' b h=>by simp[look]at h,λl b h=>by simp[look]at h,hO.sb⟩;have hA0:ArgsRd (λ_=>none) S (look ([]:Y (Nat×Ob))) w args avs:=⟨hA.1,λi v av' h1 h2=>FU (Q1C hlf h2) (λ_ h=>h) (λ_ _=>rfl) (hA.2 i v av' h1 h2)⟩;refine(BG hC hf h hO0 hA0).mono λe w' ⟨v,av0,H',β',S',he,hk,hrd,_,hr⟩=>?_
 unfold QjU at hk;split at hk
 case h_2=>cases hk
 rename_i av' hav;injection hk with hk
 subst hk;have hO':Objs β' S' (look H') w':=⟨hr.ob,hr.inj,hr.apart,hr.sb⟩;obtain⟨bs,hbs,hlf',hrd'⟩:=Q3d hO' hav hrd;have hnoM:∀{b:Nat},(S b\/(∃l,(look ([]:Y (Nat×Ob)) l).isSome=true/\(none:oP Nat)=some b)\/w.heap.size<=b)->S b\/w.heap.size<=b:=by
  simp_all
 have hfz:∀b,fzS β' S' bs b->S b\/w.heap.size<=b:=by
  intro b hS;rcases hS with hS | ⟨l,hl',hb'⟩
  ·exact hnoM (hr.sfr b hS)
  ·obtain⟨e',s,rows,hh⟩:=hbs l hl';exact hnoM (.inr (hr.own l b (by simp[hh]) hb'))
 refine⟨v,β,fzS β' S' bs,he,⟨λb hS=>.inl (hr.s0 b hS),λb hS=>?_,λb hS=>?_,?_,λ_ _=>rfl,λl o hl'=>by trivial,λl hl'=>by simp[wrL]at hl',λl b hl'=>by simp[wrL]at hl',λl l' b hl'=>by simp[wrL]at hl',λl hl'=>by simp[wrL]at hl',?_,λt=>Q5p t _ hlf'⟩⟩
 ·grind
 ·rcases hS with hS | ⟨l,hl',hb'⟩
  ·exact hr.sb b hS
  ·obtain⟨e',s,rows,hh⟩:=hbs l hl';rcases hr.ob l _ hh with⟨hn',_⟩|⟨b2,cs,hb2,hw2,_⟩
   ·rw[hb']at hn';cases hn'
   ·rw[hb']at hb2;injection hb2 with hb2;subst hb2
    exact(Qqd.1 hw2).1
 ·refine hr.fr.mono λb _ ⟨l,h1,_⟩=>?_
  simp[look]at h1
 ·exact FU hlf' (λ_ h=>h) (λ_ _=>rfl) hrd'
end
section
variable{P:Program} {R:Type}
def CP(av aa:AV):Prop:=∀(β:Nat->oP Nat) (S:Nat->Prop) (h:Nat->oP Ob) (w:World) (tm:Nat->Value) (v:Value),RdA β S h w tm v av->RdA β S h w tm v aa
theorem CP.refl(av:AV):CP av av:=λ_ _ _ _ _ _ h=>h
theorem CP.of_eq{a b:AV}(h:a=b):CP a b:=h▸CP.refl a
theorem CP.nil(s:Nat):CP .nil (.d (.sl s [])):=λ_ _ _ _ _ v h=>by rw[h.nil_inv];exact .d _ _ (.sl0 _ _ _)
inductive AVleL:List AV->List AV->Prop
 |nil:AVleL [] []
 |cons {a b:AV} {l r:List AV} (h:CP a b) (t:AVleL l r):AVleL (a::l) (b::r)
theorem AVleL.length{l r:Y AV}(h:AVleL l r):l.length=r.length:=by induction h<;>simp[*]
theorem AVleL.at{l r:Y AV}(h:AVleL l r):∀(i:Nat) (x:AV),r[i]? = some x->∃y,l[i]? = some y/\CP y x:=by
 induction h with
 |nil=>simp_all
 |cons h0 _ ih=>
  grind
theorem AVleL.refl:∀l:Y AV,AVleL l l
 |[]=>.nil
 |a::r=>.cons (CP.refl a) (AVleL.refl r)
theorem CP.ag{l r:Y AV}(h:AVleL l r):CP (.ag l) (.ag r):=λ_ _ _ _ _ v hv=>by
 obtain⟨cs,rfl,aa,hr⟩:=hv.ag_inv;refine .ag cs r (aa.trans h.length) λi x hx=>?_
 obtain⟨y,h1,h2⟩:=h.at i x hx;exact h2 _ _ _ _ _ _ (hr i y h1)
theorem CP.tup{l r:Y AV}(h:AVleL l r):CP (.tup l) (.tup r):=λ_ _ _ _ _ v hv=>by
 obtain⟨cs,rfl,aa,hr⟩:=hv.tup_inv;refine .tup cs r (aa.trans h.length) λi x hx=>?_
 obtain⟨y,h1,h2⟩:=h.at i x hx;exact h2 _ _ _ _ _ _ (hr i y h1)
theorem Wa.conv{f:Nat}{aa avs':Y AV}{hl:Nat->oP Ob}{dl:Dl}(h:AVleL aa avs')(hc:Wa P f avs' hl dl):Wa P f aa hl dl:=by
 obtain⟨h1,h2⟩:=hc;refine⟨h1,λβ S hh w args hO hA ai=>h2 β S hh w args hO ⟨hA.1.trans h.length,λi v av hv ac=>?_⟩ ai⟩;obtain⟨y,g1,g2⟩:=h.at i av ac;exact g2 _ _ _ _ _ _ (hA.2 i v y hv g1)
def prI(g:Bool)(ik:IntKind)(av:AV)(k:Int->oP R):oP R:=
 match av with
 |.d x=>gb g (Qk ik x) 0 k
 |_=>none
def prB(g:Bool)(av:AV)(k:Bool->oP R):oP R:=
 match av with
 |.d x=>gb g (PV x) false k
 |_=>none
def prT(g:Bool)(av:AV)(k:Y UInt8->oP R):oP R:=
 match av with
 |.d x=>gb g (VA x) [] k
 |_=>none
def prS(g:Bool)(esz:Nat)(av:AV)(k:Y (Y D)->oP R):oP R:=
 match av with
 |.d x=>gb g (pSl esz x) [] k
 |.nil=>k []
 |_=>none
def prG(av:AV)(k:Y AV->oP R):oP R:=
 match av with
 |.ag l=>k l
 |_=>none
theorem Q2y{g:Bool}{ik:IntKind}{av:AV}{k:Int->oP R}{r:R}(h:prI g ik av k=some r):∃n,k n=some r/\(g=true->CP av (.d (.int ik n))):=by
 unfold prI at h;split at h
 ·obtain⟨n,hn,hp⟩:=Qz h;exact⟨n,hn,λhg=>.of_eq (by grind[Mk])⟩
 ·cases h
theorem QbS{g:Bool}{av:AV}{k:Bool->oP R}{r:R}(h:prB g av k=some r):∃n,k n=some r/\(g=true->CP av (.d (.bool n))):=by
 unfold prB at h;split at h
 ·obtain⟨n,hn,hp⟩:=Qz h;exact⟨n,hn,λhg=>.of_eq (by grind[MY])⟩
 ·cases h
theorem QcT{g:Bool}{av:AV}{k:Y UInt8->oP R}{r:R}(h:prT g av k=some r):∃n,k n=some r/\(g=true->CP av (.d (.str n))):=by
 unfold prT at h;split at h
 ·obtain⟨n,hn,hp⟩:=Qz h;exact⟨n,hn,λhg=>.of_eq (by grind[E3])⟩
 ·cases h
theorem Ur{g:Bool}{esz:Nat}{av:AV}{k:Y (Y D)->oP R}{r:R}(h:prS g esz av k=some r):∃n,k n=some r/\(g=true->CP av (.d (.sl esz n))):=by
 unfold prS at h;split at h
 ·obtain⟨n,hn,hp⟩:=Qz h;exact⟨n,hn,λhg=>.of_eq (by grind[Q7B])⟩
 ·exact⟨[],h,λ_=>.nil _⟩
 ·cases h
theorem Q30{av:AV}{k:Y AV->oP R}{r:R}(h:prG av k=some r):∃l,k l=some r/\av = .ag l:=by
 unfold prG at h
 grind
abbrev S7:=(R:Type)->Nat->Bool->Y AV->(Nat->oP Ob)->(Dl->oP R)->oP R
def UB(P:Program)(f:Nat)(e:S7):Prop:=
 ∀(R:Type) (ac:Nat) (g:Bool) (aa:Y AV) (hl:Nat->oP Ob) (k:Dl->oP R) (r:R),e R ac g aa hl k=some r->∃dl,k dl=some r/\(g=true->Wa P f aa hl dl)
def Ao(l:Y (Nat×S7)):Q6g:=λR f aa g ac hl k=>
 match look1 l f with
 |some e=>e R aa g ac hl k
 |none=>none
where
 look1:Y (Nat×S7)->Nat->oP S7
  |[],_=>none
  |(k,a)::r,t=>bif Nat.beq k t then some a else look1 r t
def Q7q(P:Program):Y (Nat×S7)->Prop
 |[]=>True
 |(f,e)::r=>UB P f e/\Q7q P r
theorem Q74:∀{l:Y (Nat×S7)} {f:Nat} {e:S7},Q7q P l->Ao.look1 l f=some e->UB P f e
 |(k,a)::r,f,e,h,hl=>by
  simp only[Ao.look1]at hl;cases hk:Nat.beq k f with
  |true=>
   simp only[hk,Qq8,Option.some.injEq]at hl;subst hl;have:=Qq3 hk;subst this;exact h.1
  |false=>simp only[hk,Qql]at hl;exact Q74 h.2 hl
theorem AW{l:Y (Nat×S7)}(h:Q7q P l):A9 P (Ao l):=by
 intro R f aa g ac hl k r hs;unfold Ao at hs;split at hs
 ·rename_i e he;exact Q74 h he R aa g ac hl k r hs
 ·cases hs
def Qi1(s:Nat):AV->AV
 |.nil=>.d (.sl s [])
 |av=>av
def Qia:Y Nat->Y AV->Y AV
 |s::ss,a::r=>Qi1 s a::Qia ss r
 |[],r=>r
 |_::_,[]=>[]
def Qie(ss:Y Nat):AV->AV
 |.ag l=>.ag (Qia ss l)
 |av=>Qi1 (ss.headD 0) av
def Qic:Y (Y Nat)->Y AV->Y AV
 |s::ss,a::r=>Qie s a::Qic ss r
 |[],r=>r
 |_::_,[]=>[]
def QfL(ss:Y (Y Nat)):AV->AV
 |.tup l=>.tup (Qic ss l)
 |av=>Qie (ss.headD []) av
theorem Qan(s:Nat)(av:AV):CP av (Qi1 s av):=by
 unfold Qi1;split
 ·exact .nil s
 ·exact .refl _
theorem Q9J:∀(ss:Y Nat) (l:Y AV),AVleL l (Qia ss l)
 |s::ss,a::r=>.cons (Qan s a) (Q9J ss r)
 |[],r=>by unfold Qia;exact .refl r
 |_::_,[]=>.nil
theorem QaK(ss:Y Nat)(av:AV):CP av (Qie ss av):=by
 unfold Qie;split
 ·exact .ag (Q9J ss _)
 grind[Qan]
theorem Qaf:∀(ss:Y (Y Nat)) (l:Y AV),AVleL l (Qic ss l)
 |s::ss,a::r=>.cons (QaK s a) (Qaf ss r)
 |[],r=>by unfold Qic;exact .refl r
 |_::_,[]=>.nil
theorem Q9R(ss:Y (Y Nat))(av:AV):CP av (QfL ss av):=by
 unfold QfL;split
 ·exact .tup (Qaf ss _)
 grind[QaK]
def retF{R:Type}(ss:Y (Y Nat))(K:AV->oP R):AV->Y (Nat×Ob)->oP R:=λav h=>match QbF h av with
 |some aa=>bif lf (QfL ss aa)then K (QfL ss aa)else none
 |none=>none
theorem Q5P {α : Type} {K : AV -> oP α} {res : α} {f : Nat} {fn : Func} (hf : P.funcs[f]? = some fn) (hb : fn.body.isSome = true) (hn : (fn.name == "runtime.NumGoroutine") = false) {ss : Y (Y Nat)} {avs : Y AV} {av : AV} {hl : Nat -> oP Ob} {rd : Y Nat} (hlf : lfL avs = true)
  (hcall:∀(β:Nat->oP Nat) (S:Nat->Prop) (w:World) (vs:Y Value),Objs β S (look ([]:Y (Nat×Ob))) w->ArgsRd β S (look ([]:Y (Nat×Ob))) w vs avs->Calls P f vs.toArray w (Ns ([]:Y (Nat×Ob)) (retF ss K) res β S w)) (hK:∀x,K x=some res->x=av):Wa P f avs hl ⟨av,[],rd⟩:=by
 refine⟨⟨fn,hf,hb,hn⟩,λβ S h' w args hO hA _=>?_⟩;have hO0:Objs (λ_=>none) S (look ([]:Y (Nat×Ob))) w:=⟨λl o h=>by trivial,λl l' b h=>by simp[look]at h,λl b h=>by simp[look]at h,hO.sb⟩;have hA0:ArgsRd (λ_=>none) S (look ([]:Y (Nat×Ob))) w args avs:=⟨hA.1,λi v av' h1 h2=>FU (Q1C hlf h2) (λ_ h=>h) (λ_ _=>rfl) (hA.2 i v av' h1 h2)⟩;refine(hcall _ _ _ _ hO0 hA0).mono λe w' ⟨v,av0,H',β',S',he,hk,hrd,_,hr⟩=>?_
 unfold retF at hk;split at hk
 case h_2=>cases hk
 rename_i av' hav;cases hlf2:lf (QfL ss av')with
 |false=>simp_all
 |true=>
  simp only[hlf2,Qq8]at hk;have hk:=hK _ hk;subst hk;have hO':Objs β' S' (look H') w':=⟨hr.ob,hr.inj,hr.apart,hr.sb⟩;obtain⟨bs,hbs,hlf',hrd'⟩:=Q3d hO' hav hrd;have hnoM:∀{b:Nat},(S b\/(∃l,(look ([]:Y (Nat×Ob)) l).isSome=true/\(none:oP Nat)=some b)\/w.heap.size<=b)->S b\/w.heap.size<=b:=by
   simp_all
  have hfz:∀b,fzS β' S' bs b->S b\/w.heap.size<=b:=by
   intro b hS;rcases hS with hS | ⟨l,hl',hb'⟩
   ·exact hnoM (hr.sfr b hS)
   ·obtain⟨e',s,rows,hh⟩:=hbs l hl';exact hnoM (.inr (hr.own l b (by simp[hh]) hb'))
  refine⟨v,β,fzS β' S' bs,he,⟨λb hS=>.inl (hr.s0 b hS),λb hS=>?_,λb hS=>?_,?_,λ_ _=>rfl,λl o hl'=>by trivial,λl hl'=>by simp[wrL]at hl',λl b hl'=>by simp[wrL]at hl',λl l' b hl'=>by simp[wrL]at hl',λl hl'=>by simp[wrL]at hl',?_,λt=>Q5p t _ hlf2⟩⟩
  ·rcases hfz b hS with h1 | h1
   ·exact .inl h1
   ·exact .inr (.inl h1)
  ·rcases hS with hS | ⟨l,hl',hb'⟩
   ·exact hr.sb b hS
   ·obtain⟨e',s,rows,hh⟩:=hbs l hl';rcases hr.ob l _ hh with⟨hn',_⟩|⟨b2,cs,hb2,hw2,_⟩
    ·rw[hb']at hn';cases hn'
    ·rw[hb']at hb2;injection hb2 with hb2;subst hb2
     exact(Qqd.1 hw2).1
  ·refine hr.fr.mono λb _ ⟨l,h1,_⟩=>?_
   simp[look]at h1
  ·exact FU hlf2 (λ_ h=>h) (λ_ _=>rfl) (Q9R ss _ _ _ _ _ _ _ hrd')
def cL:Code->Code | .seq a _=>a | c=>c
def cR:Code->Code | .seq _ b=>b | c=>c
def cB:Code->Code | .block _ c=>c | .loop c=>c | c=>c
def cT:Code->Code | .cond _ a _=>a | c=>c
def cE:Code->Code | .cond _ _ b=>b | c=>c
def Ve(fn:Func):Code:=fn.body.getD .skip
end
section
variable{P:Program} {R:Type}
theorem Q7m{ρ:Y (Nat×Nat)}{β β':Nat->oP Nat}{S:Nat->Prop}{h h':Nat->oP Ob}(aa:∀l k,(l,k)∈ρ->β' k=β l)(ai:∀l k o,(l,k)∈ρ->h l=some o->h' k=some (Qd1 ρ o))(ao:∀l k,(l,k)∈ρ->h l=none->h' k=none){w:World}{tm:Nat->Value}{v:Value}{av:AV}(hv:RdA β S h w tm v av):RdA β' S h' w tm v (Ue ρ av):=by
 induction hv with
 |top v=>exact .top v
 |d v x hx=>exact .d v x hx
 |nil=>exact .nil
 |ag cs l hl _ ih=>
  refine .ag cs _ (by grind[Zc]) λi x hx=>?_
  grind[VU,Option.map_eq_some_iff]
 |tup cs l hl _ ih=>
  refine .tup cs _ (by rw[Zc];exact hl) λi x hx=>?_
  rw[VU,Qq5]at hx
  grind
 |fn f cs l hl _ ih=>
  refine .fn f cs _ (by rw[Zc];exact hl) λi x hx=>?_
  rw[VU,Qq5]at hx;obtain⟨y,hy,rfl⟩:=hx;exact ih i y hy
 |ptr l off b hb=>
  unfold Ue;split
  ·rename_i l' hl;exact .ptr _ _ _ ((aa _ _ (Y6 hl)).trans hb)
  ·exact .top _
 |sa v l t b hb hv=>
  unfold Ue;split
  ·rename_i l' hl;exact .sa _ _ _ b ((aa _ _ (Y6 hl)).trans hb) hv
  ·exact .top _
 |el ad row off c hs hc hr=>exact .el ad row off c hs hc hr
 |fs ad s rows hx=>exact .fs ad s rows hx
 |mpd v f hm=>exact .mpd v f hm
 |ex v=>exact .ex v
 |arr0 l e s hb hh=>
  unfold Ue;split
  ·rename_i l' hl;exact .arr0 _ e s ((aa _ _ (Y6 hl)).trans hb) (ai _ _ _ (Y6 hl) hh)
  ·exact .top _
 |arr l b cap e s rows cs ty fz hb hh hw au am an=>
  unfold Ue;split
  ·rename_i l' hl;exact .arr _ b cap e s rows cs ty fz ((aa _ _ (Y6 hl)).trans hb) (ai _ _ _ (Y6 hl) hh) hw au am an
  ·exact .top _
 |mp l b t f hb hh=>
  unfold Ue;split
  ·rename_i l' hl;exact .mp _ b t f ((aa _ _ (Y6 hl)).trans hb) (ai _ _ _ (Y6 hl) hh)
  ·exact .top _
 |ap l i off b e s rows hb hh=>
  unfold Ue;split
  ·rename_i l' hl;exact .ap _ i off b e s rows ((aa _ _ (Y6 hl)).trans hb) (ai _ _ _ (Y6 hl) hh)
  ·exact .top _
 |dang v av l hl hh h1=>
  cases av<;>simp[Pg]at hl
  ·subst hl;unfold Ue;split
   ·rename_i l' ak;exact .dang _ _ l' rfl (ao _ _ (Y6 ak) hh) h1
   ·exact .top _
  ·subst hl;unfold Ue;split
   ·rename_i l' ak;exact .dang _ _ l' rfl (ao _ _ (Y6 ak) hh) h1
   ·exact .top _
 |gdT=>exact .top _
 |gdF=>exact .top _
def QdQ(ρ:Y (Nat×Nat))(av:AV):Bool:=
 match av with
 |.ptr j _=>(look ρ j).isSome
 |av=>lf av
def Ct(ρ:Y (Nat×Nat)):Y AV->Bool
 |[]=>true
 |a::r=>QdQ ρ a&&Ct ρ r
theorem Q3U{ρ:Y (Nat×Nat)}:∀{l:Y AV} {i:Nat} {x:AV},Ct ρ l=true->l[i]? = some x->QdQ ρ x=true
 |a::r,0,x,h,hx=>by
  simp only[Ct,Qq4]at h;simp at hx;subst hx;exact h.1
 |a::r,i+1,x,h,hx=>by
  simp only[Ct,Qq4]at h;exact Q3U h.2 (by simpa using hx)
def L6(σ:Y (Nat×Nat))(H:Y (Nat×Ob)):Y (Nat×Nat)->Y (Nat×oP Ob)
 |[]=>[]
 |(j,l)::r=>(l,(look H j).map (Qd1 σ))::L6 σ H r
theorem BM(σ:Y (Nat×Nat))(H:Y (Nat×Ob)):∀τ,(L6 σ H τ).map (·.1)=τ.map (·.2)
 |[]=>rfl
 |(j,l)::r=>by simp[L6,BM σ H r]
theorem Lz(σ:Y (Nat×Nat))(H:Y (Nat×Ob)):∀(τ:Y (Nat×Nat)) (h:Nat->oP Ob),Xo (τ.map (·.2))=true->∀j l,(j,l)∈τ->Hc h (L6 σ H τ) l=(look H j).map (Qd1 σ)
 |(a,b)::r,h,hn,j,l,hm=>by
  simp only[Qqh,Xo,Qq4,Qqc]at hn;simp only[L6,Hc];rcases Qqb.1 hm with hm | hm
  ·injection hm with e1 e2
   subst e1 e2;rw[UT]
   ·simp
   ·rw[BM];intro aa;have:Sa l (r.map (·.2))=true:=by
     have:∀(L:Y Nat),l∈L->Sa l L=true:=by
      intro L;induction L with
      |nil=>simp_all
      |cons x xs ih=>
       grind[Sa,Nat.beq_refl]
     simp_all
    simp_all
  ·exact Lz σ H r _ hn.2 j l hm
mutual
theorem Q2u(ρ:Y (Nat×Nat))(t:Nat):∀av:AV,gds t (Ue ρ av)=false
 |.top=>rfl
 |.d _=>rfl
 |.nil=>rfl
 |.el ..=>rfl
 |.fs ..=>rfl
 |.mpd _=>rfl
 |.ex _=>rfl
 |.gd ..=>rfl
 |.ag l=>by simp only[Ue,gds];exact Fx ρ t l
 |.tup l=>by simp only[Ue,gds];exact Fx ρ t l
 |.fn _ l=>by simp only[Ue,gds];exact Fx ρ t l
 |.ptr l o=>by unfold Ue;split<;>rfl
 |.arr l=>by unfold Ue;split<;>rfl
 |.ap l i o=>by unfold Ue;split<;>rfl
 |.sa l t=>by unfold Ue;split<;>rfl
theorem Fx(ρ:Y (Nat×Nat))(t:Nat):∀l:Y AV,Q0s t (Q3H ρ l)=false
 |[]=>rfl
 |a::r=>by simp only[Q3H,Q0s,Q2u ρ t a,Fx ρ t r,Bool.or_self]
end
mutual
theorem Q9N(ρ:Y (Nat×Nat)):∀av:AV,lf av=true->Ue ρ av=av
 |.top,_=>rfl
 |.d _,_=>rfl
 |.nil,_=>rfl
 |.el ..,_=>rfl
 |.fs ..,_=>rfl
 |.mpd _,_=>rfl
 |.ex _,_=>rfl
 |.gd ..,h=>by simp[lf]at h
 |.ag l,h=>by simp only[Ue];rw[Q22 ρ l (by simpa[lf]using h)]
 |.tup l,h=>by simp only[Ue];rw[Q22 ρ l (by simpa[lf]using h)]
 |.fn _ l,h=>by simp only[Ue];rw[Q22 ρ l (by simpa[lf]using h)]
 |.ptr ..,h=>by simp[lf]at h
 |.arr _,h=>by simp[lf]at h
 |.ap ..,h=>by simp[lf]at h
 |.sa ..,h=>by simp[lf]at h
theorem Q22(ρ:Y (Nat×Nat)):∀l:Y AV,lfL l=true->Q3H ρ l=l
 |[],_=>rfl
 |a::r,h=>by
  simp only[lfL,Qq4]at h;simp only[Q3H,Q9N ρ a h.1,Q22 ρ r h.2]
end
theorem Q7J{σ:Y (Nat×Nat)}{l:Nat}(h:l ∉ σ.map (·.2)):inv σ l=none:=by
 cases hi:inv σ l with
 |none=>rfl
 |some j=>exact absurd (Qqp.2 ⟨(j,l),Qah hi,rfl⟩) h
theorem F8{ρ:Y (Nat×Nat)}(hn:Xo (ρ.map (·.1))=true){j l:Nat}(hm:(j,l)∈ρ):look ρ j=some l:=by
 cases hk:look ρ j with
 |none=>
  have:∀(L:Y (Nat×Nat)),(j,l)∈L->look L j≠none:=by
   intro L;induction L with
   |nil=>simp_all
   |cons x r ih=>
    grind[Xe]
  simp_all
 |some l'=>
  have:=HK hn (j,l) (j,l') hm (Y6 hk) rfl
  simp_all
structure HeapEnd(σ ρ:List (Nat×Nat))(H:List (Nat×Ob))(av:AV)(H':List (Nat×Ob))(dl:Dl):Prop where
 v:Ue σ av=dl.v
 wr:L6 σ H' σ=dl.wr
 all:∀j l,(j,l)∈σ->(look H' j).isSome=true
 box:∀j l,(j,l)∈ρ->∃c c',look H j=some (.box c)/\look H' j=some (.box c')/\c'.length=c.length
theorem Q4Y {α : Type} {K : AV -> Y (Nat×Ob) -> oP α} {res : α} {f : Nat} {fn : Func} (hf : P.funcs[f]? = some fn) (hb : fn.body.isSome = true) (hn : (fn.name == "runtime.NumGoroutine") = false)
  {σ ρ:Y (Nat×Nat)} {avs avs':Y AV} {H:Y (Nat×Ob)} {hl:Nat->oP Ob} {dl:Dl}
  (hav:avs=avs'.map (Ue ρ)) (hargs:Ct ρ avs'=true)
  (hsub:∀p,p∈ρ->p∈σ) (h1:Xo (σ.map (·.1))=true) (h2:Xo (σ.map (·.2))=true) (hρ:Xo (ρ.map (·.1))=true)
  (hin:∀j l,(j,l)∈ρ->1000000<=j/\∃cs cs',hl l=some (.box cs)/\look H j=some (.box cs')/\AVleL cs cs'/\lfL cs'=true)
  (hinH:∀j,(look H j).isSome=true->∃l,(j,l)∈ρ)
  (hnew:∀j l,(j,l)∈σ->(j,l)∈ρ\/hl l=none)
  (hwl:wrL dl=σ.map (·.2))
  (hcall:∀(β:Nat->oP Nat) (S:Nat->Prop) (w:World) (vs:Y Value),Objs β S (look H) w->ArgsRd β S (look H) w vs avs'->Calls P f vs.toArray w (Ns H K res β S w)) (hK:∀av H',K av H'=some res->HeapEnd σ ρ H av H' dl):Wa P f avs hl dl:=by
 refine⟨⟨fn,hf,hb,hn⟩,λβ S h' w args hO hA hag=>?_⟩;have hag:∀{j l:Nat},(j,l)∈σ->h' l=hl l:=λ{j l} hm=>hag l (.inr (by rw[hwl];exact Qqp.2 ⟨(j,l),hm,rfl⟩))
 have hlook:∀{j l:Nat},(j,l)∈ρ->look ρ j=some l:=λhm=>F8 hρ hm
 have hβc:∀{j l:Nat},(j,l)∈ρ->(look ρ j).bind β=β l:=λhm=>by rw[hlook hm];rfl
 have hlk2:∀{j j' l:Nat},(j,l)∈ρ->(j',l)∈ρ->j=j':=λa b=>by
  have:=HK h2 _ _ (hsub _ a) (hsub _ b) rfl;injection this
 have hsome':∀{j l:Nat},(j,l)∈ρ->(h' l).isSome=true:=λhm=>by
  obtain⟨_,cs,cs',g1,_⟩:=hin _ _ hm;rw[hag (hsub _ hm),g1];rfl
 have hO0:Objs (λj=>(look ρ j).bind β) S (look H) w:=by
  refine⟨λj o ho=>?_,λj j' b s1 s2 b1 b2=>?_,λj b s1 b1=>?_,hO.sb⟩
  ·obtain⟨l,hm⟩:=hinH j (by simp[ho]);obtain⟨_,cs,cs',g1,g2,g3,g4⟩:=hin j l hm;rw[ho]at g2;injection g2 with g2
   subst g2;obtain⟨b,ty,c0,fz,e1,e2,e3,e4,e5⟩:=hO.ob l _ ((hag (hsub _ hm)).trans g1);refine⟨b,ty,c0,fz,(hβc hm).trans e1,e2,⟨e3.1,λi l' t' hx=>by have:=Q1C g4 hx;simp[lf]at this⟩,e4.trans g3.length,λi x hx=>?_⟩;obtain⟨y,y1,y2⟩:=g3.at i x hx;exact FU (Q1C g4 hx) (λ_ h=>h) (λ_ _=>rfl) (y2 _ _ _ _ _ _ (e5 i y y1))
  ·obtain⟨l,hm⟩:=hinH j s1;obtain⟨l',hm'⟩:=hinH j' s2;have:=hO.inj l l' b (hsome' hm) (hsome' hm') (by rw[<- hβc hm];exact b1) (by rw[<- hβc hm'];exact b2);subst this;exact hlk2 hm hm'
  ·obtain⟨l,hm⟩:=hinH j s1;exact hO.apart l b (hsome' hm) (by rw[<- hβc hm];exact b1)
 have hA0:ArgsRd (λj=>(look ρ j).bind β) S (look H) w args avs':=by
  refine⟨by rw[hA.1,hav,List.length_map],λi v av g1 g2=>?_⟩;have hr:=hA.2 i v (Ue ρ av) g1 (by rw[hav,List.getElem?_map,g2];rfl);have hok:=Q3U hargs g2;unfold QdQ at hok;split at hok
  ·rename_i j o;cases hj:look ρ j with
   |none=>rw[hj]at hok;cases hok
   |some l=>
    simp only[Ue,hj]at hr;cases hr with
    |ptr _ _ b hb'=>exact .ptr j o b (by simp only[hj];exact hb')
    |dang _ _ _ hl'=>simp[Pg]at hl'
  ·rw[Q9N ρ av hok]at hr;exact FU hok (λ_ h=>h) (λ_ _=>rfl) hr
 refine(hcall _ _ _ _ hO0 hA0).mono λe w' ⟨v,av,H',β',S',he,hk,hrd,_,hr⟩=>?_
 obtain⟨q1,q2,q3,q4⟩:=hK av H' hk;have hinv:∀{j l:Nat},(j,l)∈σ->inv σ l=some j:=λhm=>Q4A h2 hm
 let βo:Nat->oP Nat:=λl=>match inv σ l with | some j=>β' j | none=>β l
 have hβo:∀j l,(j,l)∈σ->βo l=β' j:=λj l hm=>by simp only[βo,hinv hm]
 have hset:∀j l,(j,l)∈σ->Hc h' dl.wr l=(look H' j).map (Qd1 σ):=λj l hm=>by rw[<- q2];exact Lz σ H' σ h' h2 j l hm
 have hmem:∀{l:Nat},l∈wrL dl->∃j,(j,l)∈σ:=λhm=>by
  rw[hwl]at hm;obtain⟨⟨j,l'⟩,m1,m2⟩:=Qqp.1 hm;simp only at m2;subst m2;exact⟨j,m1⟩
 have hpin:∀{j l:Nat},(j,l)∈ρ->β' j=β l:=λhm=>(hr.pin _ (hin _ _ hm).1).trans (hβc hm)
 have hren:∀{v:Value} {x:AV},RdA β' S' (look H') w' tm0 v x->RdA βo S' (Hc h' dl.wr) w' tm0 v (Ue σ x):=λhx=>
  Q7m hβo (λj l o hm ho=>by rw[hset j l hm,ho];rfl) (λj l hm ho=>by rw[hset j l hm,ho];rfl) hx
 have hnotin:∀{j l:Nat},(j,l)∈σ->(j,l) ∉ ρ->∀b,β' j=some b->w.heap.size<=b:=by
  intro j l hm hno b hb';rcases hr.own j b (q3 j l hm) hb' with⟨j',s1,s2⟩ | h
  ·exfalso;obtain⟨l',hm'⟩:=hinH j' s1;have e1:β' j'=some b:=(hpin hm').trans (by rw[<- hβc hm'];exact s2);have:=hr.inj j j' b (q3 j l hm) (q3 j' l' (hsub _ hm')) hb' e1;subst this;have:=HK h1 _ _ hm (hsub _ hm') rfl;exact hno (this▸hm')
  ·exact h
 have hMw:∀b,(∃j,(look H j).isSome=true/\(look ρ j).bind β=some b)->∃l,l∈wrL dl/\(h' l).isSome=true/\β l=some b:=by
  intro b ⟨j,s1,s2⟩;obtain⟨l,hm⟩:=hinH j s1;exact⟨l,by rw[hwl];exact Qqp.2 ⟨(j,l),hsub _ hm,rfl⟩,hsome' hm,by rw[<- hβc hm];exact s2⟩
 refine⟨v,βo,S',he,⟨hr.s0,λb hS=>?_,hr.sb,hr.fr.mono λb _ hM=>hMw b hM,λl hno=>?_,λl o hm ho=>?_,λl hm hs=>?_,λl b hm hs hb'=>?_,λl l' b hm hm' hs hs' hb' hb''=>?_,λl hm hno hno'=>?_,?_,λt=>by rw[<- q1];exact Q2u σ t av⟩⟩
 ·rcases hr.sfr b hS with g | g | g
  ·exact .inl g
  ·exact .inr (.inr (hMw b g))
  ·exact .inr (.inl g)
 ·have:inv σ l=none:=Q7J (by rw[<- hwl];exact hno);simp only[βo,this]
 ·obtain⟨j,hj⟩:=hmem hm;rw[hset j l hj,Qq5]at ho;obtain⟨o',ho',rfl⟩:=ho;have hob:=hr.ob j o' ho';cases o' with
  |box cells=>
   obtain⟨b,ty,cs,fz,g1,g2,g3,g4,g5⟩:=hob;refine⟨b,ty,cs,fz,(hβo j l hj).trans g1,g2,⟨g3.1,Q1W g3.2⟩,by rw[g4,Zc],λi x hx=>?_⟩;rw[VU,Qq5]at hx;obtain⟨y,hy,rfl⟩:=hx;exact hren (g5 i y hy)
  |arr e s rows=>
   rcases hob with⟨g1,g2⟩|⟨b,cs,g1,g2,g3,g4,g5⟩
   ·exact .inl ⟨(hβo j l hj).trans g1,g2⟩
   ·exact .inr ⟨b,cs,(hβo j l hj).trans g1,g2,g3,g4,g5⟩
  |mp t f=>
   obtain⟨b,hb,hm'⟩:=hob;exact⟨b,(hβo j l hj).trans hb,hm'⟩
 ·obtain⟨j,hj⟩:=hmem hm;rcases hnew j l hj with hp | hno
  ·obtain⟨c,c',g1,g2,g3⟩:=q4 j l hp;obtain⟨_,cs,cs',e1,e2,e3,_⟩:=hin j l hp;have hh:h' l=some (.box cs):=(hag hj).trans e1;refine⟨(hβo j l hj).trans (hpin hp),λhx=>(by rw[hh]at hx;cases hx),λe s rows hx=>(by rw[hh]at hx;cases hx),λb c0 ty fz _ hb' hw=>?_,λt f hx=>(by rw[hh]at hx;cases hx)⟩;obtain⟨b2,ty2,c2,fz2,k1,k2,_,k4,_⟩:=hr.ob j _ g2;obtain⟨b3,ty3,c3,fz3,m1,m2,_,m4,_⟩:=hO.ob l _ hh;rw[hpin hp,hb']at k1;injection k1 with k1
   subst k1;rw[hb']at m1;injection m1 with m1
   subst m1;rw[hw]at m2;injection m2 with m2
   injection m2 with m2 _ _
   subst m2;refine⟨c2,ty2,fz2,k2,?_⟩;rw[k4,m4,g3];rw[g1]at e2;injection e2 with e2
   injection e2 with e2
   rw[e2,e3.length]
  ·rw[hag hj,hno]at hs;cases hs
 ·obtain⟨j,hj⟩:=hmem hm;rw[hβo j l hj]at hb';refine⟨?_,hr.apart j b (q3 j l hj) hb'⟩;by_cases hp:(j,l)∈ρ
  ·exact .inr ⟨l,hm,hsome' hp,by rw[<- hpin hp];exact hb'⟩
  ·exact .inl (hnotin hj hp b hb')
 ·obtain⟨j,hj⟩:=hmem hm;obtain⟨j',hj'⟩:=hmem hm';rw[hβo j l hj]at hb';rw[hβo j' l' hj']at hb'';have:=hr.inj j j' b (q3 j l hj) (q3 j' l' hj') hb' hb'';subst this;have:=HK h1 _ _ hj hj' rfl;injection this
 ·obtain⟨j,hj⟩:=hmem hm;have:=q3 j l hj;rw[hset j l hj]at hno';cases hx:look H' j with
  |none=>rw[hx]at this;cases this
  |some o=>rw[hx]at hno';cases hno'
 ·rw[<- q1];exact hren hrd
def QgZ(hl:Nat->oP Ob)(H:Y (Nat×Ob)):Y (Nat×Nat)->Prop
 |[]=>True
 |(j,l)::r=>(1000000<=j/\∃cs aa,hl l=some (.box cs)/\look H j=some (.box aa)/\AVleL cs aa/\lfL aa=true)/\QgZ hl H r
def Qd8(H:Y (Nat×Ob)):Y (Nat×Nat)->Prop
 |[]=>True
 |(j,_)::r=>(look H j).isSome=true/\Qd8 H r
def Qgj(H H':Y (Nat×Ob)):Y (Nat×Nat)->Prop
 |[]=>True
 |(j,_)::r=>(∃c c',look H j=some (.box c)/\look H' j=some (.box c')/\c'.length=c.length)/\Qgj H H' r
def Qil(hl:Nat->oP Ob):Y (Nat×Nat)->Bool
 |[]=>true
 |(_,l)::r=>(hl l).isNone&&Qil hl r
theorem Q9v{hl:Nat->oP Ob}{H:Y (Nat×Ob)}:∀{ρ:Y (Nat×Nat)},QgZ hl H ρ->∀j l,(j,l)∈ρ->1000000<=j/\∃cs aa,hl l=some (.box cs)/\look H j=some (.box aa)/\AVleL cs aa/\lfL aa=true
 |(a,b)::r,h,j,l,hm=>by
  rcases Qqb.1 hm with hm | hm
  ·injection hm with h1 h2;subst h1 h2;exact h.1
  ·exact Q9v h.2 j l hm
theorem Q5M{H:Y (Nat×Ob)}:∀{ρ:Y (Nat×Nat)},Qd8 H ρ->∀j l,(j,l)∈ρ->(look H j).isSome=true
 |(a,b)::r,h,j,l,hm=>by
  rcases Qqb.1 hm with hm | hm
  ·injection hm with h1 h2;subst h1 h2;exact h.1
  ·exact Q5M h.2 j l hm
theorem Q9n{H H':Y (Nat×Ob)}:∀{ρ:Y (Nat×Nat)},Qgj H H' ρ->∀j l,(j,l)∈ρ->∃c c',look H j=some (.box c)/\look H' j=some (.box c')/\c'.length=c.length
 |(a,b)::r,h,j,l,hm=>by
  rcases Qqb.1 hm with hm | hm
  ·injection hm with h1 h2;subst h1 h2;exact h.1
  ·exact Q9n h.2 j l hm
theorem Q6X{hl:Nat->oP Ob}:∀{ρ:Y (Nat×Nat)},Qil hl ρ=true->∀j l,(j,l)∈ρ->hl l=none
 |(a,b)::r,h,j,l,hm=>by
  simp only[Qil,Qq4]at h;rcases Qqb.1 hm with hm | hm
  ·injection hm with h1 h2;subst h1 h2;simpa using h.1
  ·exact Q6X h.2 j l hm
theorem Q2x:∀{H:Y (Nat×Ob)} {ρ:Y (Nat×Nat)},H.map (·.1)=ρ.map (·.1)->∀j,(look H j).isSome=true->∃l,(j,l)∈ρ
 |[],_,_,j,hs=>by simp[look]at hs
 |(a,o)::r,[],h,_,_=>by simp at h
 |(a,o)::r,(b,l)::ρ,h,j,hs=>by
  simp only[Qqh,List.cons.injEq]at h;rw[Xe]at hs;by_cases e:j=a
  ·exact⟨l,by rw[e,h.1];exact List.mem_cons_self ..⟩
  ·rw[Qqj e]at hs;obtain⟨l',hm⟩:=Q2x h.2 j hs;exact⟨l',List.mem_cons_of_mem _ hm⟩
def Nq(hl:Nat->oP Ob)(ρ ν:Y (Nat×Nat)):Bool:=Xo ((ρ++ν).map (·.2))&&Qil hl ν
theorem Q0k {α : Type} {K : AV -> Y (Nat×Ob) -> oP α} {res : α} {f : Nat} {fn : Func} (hf : P.funcs[f]? = some fn) (hb : fn.body.isSome = true) (hn : (fn.name == "runtime.NumGoroutine") = false)
  {ρ ν:Y (Nat×Nat)} {avs avs':Y AV} {H:Y (Nat×Ob)} {hl:Nat->oP Ob} {dl:Dl}
  (hav:avs=avs'.map (Ue ρ)) (hargs:Ct ρ avs'=true) (h1:Xo ((ρ++ν).map (·.1))=true) (hρ:Xo (ρ.map (·.1))=true)
  (hc:Nq hl ρ ν=true) (hin:QgZ hl H ρ) (hkeys:H.map (·.1)=ρ.map (·.1)) (hwl:wrL dl=(ρ++ν).map (·.2))
  (hcall:∀(β:Nat->oP Nat) (S:Nat->Prop) (w:World) (vs:Y Value),Objs β S (look H) w->ArgsRd β S (look H) w vs avs'->Calls P f vs.toArray w (Ns H K res β S w))
  (hK:∀av H',K av H'=some res->Ue (ρ++ν) av=dl.v/\L6 (ρ++ν) H' (ρ++ν)=dl.wr/\Qd8 H' (ρ++ν)/\Qgj H H' ρ):Wa P f avs hl dl:=by
 simp only[Nq,Qq4]at hc;refine Q4Y hf hb hn hav hargs (λp hp=>List.mem_append_left _ hp) h1 hc.1 hρ (Q9v hin) (Q2x hkeys) (λj l hm=>?_) hwl hcall λav H' hk=>?_
 ·grind[Q6X]
 ·obtain⟨q1,q2,q3,q4⟩:=hK av H' hk;exact⟨q1,q2,Q5M q3,Q9n q4⟩
theorem QfH {α : Type} {K : AV -> Y (Nat×Ob) -> oP α} {res : α} {C : VC} (hC : VCOk P C) {n f : Nat} {fn : Func} (hf : P.funcs[f]? = some fn) (hb : fn.body.isSome = true) (hn : (fn.name == "runtime.NumGoroutine") = false)
  {ρ ν:Y (Nat×Nat)} {avs avs':Y AV} {H:Y (Nat×Ob)} {hl:Nat->oP Ob} {dl:Dl}
  (hav:avs=avs'.map (Ue ρ)) (hargs:Ct ρ avs'=true) (h1:Xo ((ρ++ν).map (·.1))=true) (hρ:Xo (ρ.map (·.1))=true)
  (hc:Nq hl ρ ν=true) (hin:QgZ hl H ρ) (hkeys:H.map (·.1)=ρ.map (·.1)) (hwl:wrL dl=(ρ++ν).map (·.2))
  (h:vfn C n fn avs' H K=some res)
  (hK:∀av H',K av H'=some res->Ue (ρ++ν) av=dl.v/\L6 (ρ++ν) H' (ρ++ν)=dl.wr/\Qd8 H' (ρ++ν)/\Qgj H H' ρ):Wa P f avs hl dl:=
 Q0k hf hb hn hav hargs h1 hρ hc hin hkeys hwl (λ_ _ _ _ hO hA=>BG hC hf h hO hA) hK
theorem Xn{c:Bool}{x:oP R}{r:R}(h:(bif c then x else none)=some r):c=true/\x=some r:=by
 grind
def Qjx(l:Y Nat)(a b:S7):S7:=λR aa g ac hl k=>bif Sa aa l then a R aa g ac hl k else b R aa g ac hl k
theorem Qe9(l:Y Nat){f:Nat}{a b:S7}(ha:UB P f a)(hb:UB P f b):UB P f (Qjx l a b):=by
 intro R aa g ac hl k r h;unfold Qjx at h;cases hm:Sa aa l with
 |true=>rw[hm]at h;exact ha R aa g ac hl k r h
 |false=>rw[hm]at h;exact hb R aa g ac hl k r h
def prP(hl:Nat->oP Ob)(av:AV)(k:Nat->Y AV->oP R):oP R:=
 match av with
 |.ptr l o=>bif Nat.beq o 0 then match hl l with
  |some (.box cs)=>k l cs
  |_=>none
  else none
 |_=>none
theorem Qi6{hl:Nat->oP Ob}{av:AV}{k:Nat->Y AV->oP R}{r:R}(h:prP hl av k=some r):∃l cs,k l cs=some r/\av = .ptr l 0/\hl l=some (.box cs):=by
 unfold prP at h
 grind[Nat.beq,Nat.eq_of_beq_eq_true]
end
end Go.Vx
namespace Go.Vx
variable{w:World}
section
variable{P:Program} {R:Type}
def SW(w:World):Nat->Prop:=λb=>b<w.heap.size
theorem Q9x{f:Nat}{ss:Y (Y Nat)}{K:AV->oP Bool}(hK:∀x,K x=some true->x = .d (.bool true)){aj:Y AV}{args:Y Value}(hA:ArgsRd (λ_=>none) (SW w) (look ([]:Y (Nat×Ob))) w args aj)(ac:∀(β:Nat->oP Nat) (S:Nat->Prop) (w:World) (vs:Y Value),Objs β S (look ([]:Y (Nat×Ob))) w->ArgsRd β S (look ([]:Y (Nat×Ob))) w vs aj->Calls P f vs.toArray w (Ns ([]:Y (Nat×Ob)) (retF ss K) true β S w)) :
  Calls P f args.toArray w λe w'=>e = .returned (.bool true)/\RowKit.Below w.heap.size w w':=by
 have hO:Objs (λ_=>none) (SW w) (look ([]:Y (Nat×Ob))) w:=⟨λl o h=>by simp[look]at h,λl l' b h=>by simp[look]at h,λl b h=>by simp[look]at h,λb h=>h⟩;refine(ac _ _ _ _ hO hA).mono λe w' ⟨v,av,H',β',S',he,hk,ao,_,hr⟩=>?_
 refine⟨?_,Fr.below (hr.fr.mono λb _ ⟨l,h1,_⟩=>by simp[look]at h1)⟩;unfold retF at hk;split at hk
 case h_2=>cases hk
 rename_i an ak;cases aa:lf (QfL ss an)with
 |false=>simp[aa]at hk
 |true=>
  simp only[aa,Qq8]at hk;have hk:=hK _ hk;have am:Objs β' S' (look H') w':=⟨hr.ob,hr.inj,hr.apart,hr.sb⟩;obtain⟨bs,_,_,ai⟩:=Q3d am ak ao;have:=Q9R ss _ _ _ _ _ _ _ ai;rw[hk]at this;rw[he,this.bool_inv]
theorem Q8b{β:Nat->oP Nat}{S:Nat->Prop}{h:Nat->oP Ob}:ArgsRd β S h w [] []:=⟨rfl,λi v av h=>by simp at h⟩
theorem Q67{β:Nat->oP Nat}{S:Nat->Prop}{h:Nat->oP Ob}{v:Value}{av:AV}{vs:Y Value}{aa:Y AV}(h0:RdA β S h w tm0 v av)(hr:ArgsRd β S h w vs aa):ArgsRd β S h w (v::vs) (av::aa):=by
 refine⟨by simp[hr.1],λi v' ac h1 h2=>?_⟩;cases i with
 |zero=>simp at h1 h2;subst h1 h2;exact h0
 |succ i=>exact hr.2 i v' ac (by simpa using h1) (by simpa using h2)
theorem Qfz{a:Addr}{v:Value}(h:w.cell? a=some v):a.block<w.heap.size:=by
 rcases Nat.lt_or_ge a.block w.heap.size with h1 | h1
 ·exact h1
 ·simp[World.cell?,Array.getElem?_eq_none h1]at h
theorem Qh{α:Type}(g:Bool)(a z:α)(k:α->oP R):gb g (some a) z k=k a:=rfl
theorem Q7M{α:Type}(p:oP α)(z:α)(k:α->oP R):gb false p z k=k (p.getD z):=by cases p<;>rfl
end
end Go.Vx
namespace Go.Vx
inductive Sh where
 |int (k:IntKind)
 |bool
 |str
 |sl (row:List Sh)
inductive Fit:Sh->D->Prop
 |int (k:IntKind) (n:Int) (h:(Lit.int k n).wf=true):Fit (.int k) (.int k n)
 |bool (b:Bool):Fit .bool (.bool b)
 |str (s:List UInt8) (h:s.length<=maxLen):Fit .str (.str s)
 |sl (row:List Sh) (rows:List (List D)) (h:rows.length<=maxLen) (hl:∀(i:Nat) (r:List D),rows[i]? = some r->r.length=row.length)
   (hr:∀(i j:Nat) (r:List D) (s:Sh) (x:D),rows[i]? = some r->row[j]? = some s->r[j]? = some x->Fit s x):Fit (.sl row) (.sl row.length rows)
def Qd9(ss:Y Sh)(ds:Y D):Prop:=ds.length=ss.length/\∀(j:Nat) (s:Sh) (x:D),ss[j]? = some s->ds[j]? = some x->Fit s x
def Qg1(P:Program)(so:TypeId->oP (Y Sh)):Nat->Y Field->oP (Y Sh)
 |_,[]=>some []
 |off,fd::r=>
  if fd.offset=off then match so fd.type with
   |some a=>if a.length=P.cellsOf fd.type then match Qg1 P so (off+a.length) r with
    |some l=>some (a++l)
    |none=>none
    else none
   |none=>none
  else none
def QaE(P:Program):Nat->TypeId->oP (Y Sh)
 |0,_=>none
 |f+1,t=>
  match P.underlying t with
  |some .bool=>some [.bool]
  |some (.int k)=>some [.int k]
  |some .string=>some [.str]
  |some (.slice e)=>match QaE P f e with
   |some row=>if row.length=P.cellsOf e/\row.length≠0 then some [.sl row]else none
   |none=>none
  |some (.struct fs)=>match Qg1 P (QaE P f) 0 fs.toList with
   |some l=>if l.length=P.cellsOf t then some l else none
   |none=>none
  |_=>none
section
variable{P:Program} {H:Type} {enc:TypeId×Value->H} {w:World}
def RdL(w:World)(cs:Y Value)(ds:Y D):Prop:=cs.length=ds.length/\∀(j:Nat) (v:Value) (x:D),cs[j]? = some v->ds[j]? = some x->Rd (SW w) w v x
theorem Q6N{α:Type}{Q:Nat->α->Prop}:∀(n:Nat),(∀i,i<n->∃a,Q i a)->∃l:Y α,l.length=n/\∀(i:Nat) (a:α),l[i]? = some a->Q i a
 |0,_=>⟨[],rfl,λi a h=>by simp at h⟩
 |n+1,h=>by
  obtain⟨l,h1,h2⟩:=Q6N n λi hi=>h i I
  obtain⟨a,ha⟩:=h n I;refine⟨l++[a],by simp[h1],λi x hx=>?_⟩;rw[List.getElem?_append]at hx;split at hx
  ·exact h2 i x hx
  ·have:i=l.length:=by
    rcases Nat.lt_or_ge (i-l.length) 1 with h3 | h3
    ·omega
    ·rw[Qqs (by simpa using h3)]at hx;cases hx
   subst this;simp at hx;subst hx;rw[h1];exact ha
theorem Qd9.append{a b:Y Sh}{x y:Y D}(h1:Qd9 a x)(h2:Qd9 b y):Qd9 (a++b) (x++y):=by
 refine⟨by simp[h1.1,h2.1],λj s d hs hd=>?_⟩;rw[List.getElem?_append]at hs hd;rw[h1.1]at hd;split at hs
 ·rename_i h;rw[Qqr h]at hd;exact h1.2 j s d hs hd
 ·rename_i h;rw[Qqj h]at hd;exact h2.2 _ s d hs hd
theorem RdL.append{a b:Y Value}{x y:Y D}(h1:RdL w a x)(h2:RdL w b y):RdL w (a++b) (x++y):=by
 refine⟨by simp[h1.1,h2.1],λj s d hs hd=>?_⟩;rw[List.getElem?_append]at hs hd;rw[h1.1]at hs;split at hd
 ·rename_i h;rw[Qqr h]at hs;exact h1.2 j s d hs hd
 ·rename_i h;rw[Qqj h]at hs;exact h2.2 _ s d hs hd
theorem AB{v:Value}{x:D}(h:Rd (SW w) w v x):RdL w [v] [x]:=⟨rfl,λj v' x' h1 h2=>by
 cases j with
 |zero=>simp at h1 h2;subst h1 h2;exact h
 |succ j=>simp at h1⟩
theorem Ez{s:Sh}{x:D}(h:Fit s x):Qd9 [s] [x]:=⟨rfl,λj v' x' h1 h2=>by
 cases j with
 |zero=>simp at h1 h2;subst h1 h2;exact h
 |succ j=>simp at h1⟩
theorem Q8P{base:Nat}{a:Addr}{n:Nat}{cs:Y Value}(h:w.cells? base a n=some cs):cs.length=n/\∀(j:Nat) (v:Value),cs[j]? = some v->w.cell? (a.add j)=some v:=by
 unfold World.cells? at h;split at h
 ·refine⟨by simpa using mapM_some_length h,λj v hv=>?_⟩;have hj:j<n:=by
   have h1:=mapM_some_length h;have h2:=(Qq7.1 hv).1;simp at h1;omega
  have:=mapM_some_get h j j (by simp[hj]);rw[this,hv]
 ·cases h
def Got(w:World)(ss:Y Sh)(cs:Y Value):Prop:=∃ds,RdL w cs ds/\Qd9 ss ds
theorem Q7l{base:Nat}{ar:Nat->Bool}{aw:Bool}:∀(n:Nat) (f:Nat) (t:TypeId) (ss:Y Sh) (cs:Y Value) (x:DataW H×Y MemPlace),QaE P f t=some ss->DataW.trod enc P w base ar aw n t cs=some x->Got w ss cs:=by
 intro n;induction n with
 |zero=>intro f t ss cs x _ h;simp[DataW.trod]at h
 |succ n ih=>
  intro f t ss cs x hs h;cases f with
  |zero=>simp[QaE]at hs
  |succ f=>
   unfold QaE at hs;split at hs
   ·rename_i ht;injection hs with hs;subst hs
    obtain⟨b,rfl,_⟩:=DataW.trod_bool ht h;exact⟨[.bool b],AB (.bool b),Ez (.bool b)⟩
   ·rename_i k ht;injection hs with hs;subst hs
    obtain⟨b,rfl,_,hw⟩:=DataW.trod_int ht h;exact⟨[.int k b],AB (.int k b),Ez (.int k b hw)⟩
   ·rename_i ht;injection hs with hs;subst hs
    obtain⟨b,rfl,_,hw⟩:=DataW.trod_string ht h;exact⟨[.str b.data.toList],AB (.str b),Ez (.str _ (by simpa using hw))⟩
   ·rename_i e ht;split at hs
    case h_2=>cases hs
    rename_i row a5;split at hs
    case isFalse=>cases hs
    rename_i am;obtain⟨am,hz⟩:=am;injection hs with hs;subst hs
    rcases DataW.trod_slice ht h with⟨rfl,_⟩|⟨a,len,cap,aj,rest,n',hn,rfl,_,hb,hl,hm,bo,hat,_,_⟩
    ·exact⟨[.sl row.length []],AB (.sl0 _ _ _),Ez (.sl row [] (Nat.zero_le _) (λi r h=>by simp at h) (λi j r s x h=>by simp at h))⟩
    ·obtain rfl:n=n':=I
     have ay:∀i,i<len->∃r:Y D,∃cs,w.cells? base (a.add (i*P.cellsOf e)) (P.cellsOf e)=some cs/\RdL w cs r/\Qd9 row r:=by
      intro i hi;have h1:=hat i hi;have h2:aj[i]? = some (aj[i]'I):=Qq9 I;rw[h2,Option.bind_eq_some_iff]at h1;obtain⟨cs,hc,h1⟩:=h1;obtain⟨ds,g1,g2⟩:=ih f e row cs _ a5 h1;exact⟨ds,cs,hc,g1,g2⟩
     obtain⟨rows,az,aa⟩:=Q6N len ay;refine⟨[.sl row.length rows],AB ?_,Ez (.sl row rows I (λi r hr=>?_) (λi j r s x hr hs hx=>?_))⟩
     ·cases len with
      |zero=>
       have:rows=[]:=Qqm az;subst this;exact .sl0 _ _ _
      |succ m=>
       have ac:∀(i j:Nat) (r:Y D) (x:D),rows[i]? = some r->r[j]? = some x->∃v,w.cell? (a.add (i*row.length+j))=some v/\Rd (SW w) w v x:=by
        intro i j r x hr hx;obtain⟨cs,hc,g1,g2⟩:=aa i r hr;obtain⟨c1,c2⟩:=Q8P hc;have hj:j<cs.length:=by have:=(Qq7.1 hx).1;have:=g1.1;omega
        have a2:cs[j]? = some (cs[j]' hj):=Qq9 hj;refine⟨cs[j]' hj,?_,g1.2 j _ x a2 hx⟩;have:=c2 j _ a2;rw[BR]at this;rw[am];exact this
       ·have h0:∃r,rows[0]? = some r:=⟨_,Qq9 I⟩;obtain⟨r0,a4⟩:=h0;obtain⟨bl,bn,g1,g2⟩:=aa 0 r0 a4;have ao:∃x,r0[0]? = some x:=⟨_,Qq9 (by rw[g2.1];omega)⟩;obtain⟨x0,ao⟩:=ao;obtain⟨v0,bg,_⟩:=ac 0 0 r0 x0 a4 ao;have a3:a.block<w.heap.size:=by have:=Qfz bg;rwa [JK]at this
        have:=Rd.sl (S:=SW w) (w:=w) a cap row.length rows (λi j=>(w.cell? (a.add (i*row.length+j))).getD undef) a3 I
         (λi r hr=>by obtain⟨_,_,_,g2⟩:=aa i r hr;exact g2.1)
         (λi j r x hr hx=>by obtain⟨v,hv,_⟩:=ac i j r x hr hx;rw[hv];rfl)
         (λi j r x hr hx=>by obtain⟨v,hv,h2⟩:=ac i j r x hr hx;rw[hv];exact h2)
        rw[az]at this;exact this
     ·obtain⟨_,_,_,g2⟩:=aa i r hr;exact g2.1
     ·obtain⟨_,_,_,g2⟩:=aa i r hr;exact g2.2 j s x hs hx
   ·rename_i fs ht;split at hs
    case h_2=>cases hs
    rename_i l hl;split at hs
    case isFalse=>cases hs
    rename_i am;injection hs with hs;subst hs
    obtain⟨xs,n',hn,_,bi,bq,hat⟩:=DataW.trod_struct ht h;obtain rfl:n=n':=I
    have bc:∀(r:Y Field) (i off:Nat) (l:Y Sh),fs.toList.drop i=r->Qg1 P (QaE P f) off r=some l->off+l.length<=cs.length->Got w l ((cs.drop off).take l.length):=by
     intro r;induction r with
     |nil=>
      intro i off l _ hl _;simp[Qg1]at hl;subst hl;exact⟨[],⟨by simp,λj v x h=>by simp at h⟩,⟨rfl,λj v x h=>by simp at h⟩⟩
     |cons fd r ba=>
      intro i off l hd hl bb;unfold Qg1 at hl;split at hl
      case isFalse=>cases hl
      rename_i ax;split at hl
      case h_2=>cases hl
      rename_i a ha;split at hl
      case isFalse=>cases hl
      rename_i au;split at hl
      case h_2=>cases hl
      rename_i l' bh;injection hl with hl;subst hl
      have hi:fs[i]? = some fd:=by
       have:(fs.toList.drop i)[0]? = some fd:=by rw[hd];rfl
       rw[Qqe]at this;simpa using this
      have h1:=hat i fd hi;have a6:i<xs.length:=by
       have:=(Qqd.1 hi).1;omega
      rw[Qq9 a6,ax,<- au]at h1;have g1:=ih f fd.type a _ _ ha h1;have g2:=ba (i+1) (off+a.length) l' (by rw[<- List.drop_drop,hd];rfl) bh (by simp at bb;omega);obtain⟨d1,p1,q1⟩:=g1;obtain⟨d2,p2,q2⟩:=g2;refine⟨d1++d2,?_,q1.append q2⟩;have an:(cs.drop off).take (a++l').length=(cs.drop off).take a.length++(cs.drop (off+a.length)).take l'.length:=by
       rw[List.length_append,List.take_add,List.drop_drop]
      rw[an];exact p1.append p2
    have:=bc fs.toList 0 0 l rfl hl I;rwa [List.drop_zero,List.take_of_length_le I]at this
   ·cases hs
inductive ASh where
 |one (s:Sh)
 |ag (ss:List Sh)
def Qfj(P:Program)(t:TypeId):oP ASh:=
 match P.underlying t with
 |some (.struct _)=>match QaE P 9 t with
  |some l=>some (.ag l)
  |none=>none
 |_=>match QaE P 9 t with
  |some [s]=>some (.one s)
  |_=>none
def ashL(P:Program):Y TypeId->oP (Y ASh)
 |[]=>some []
 |t::r=>match Qfj P t with
  |some a=>match ashL P r with
   |some l=>some (a::l)
   |none=>none
  |none=>none
def Qka:ASh->AV->Prop
 |.one s,av=>∃x,av = .d x/\Fit s x
 |.ag ss,av=>∃ds:Y D,av = .ag (ds.map .d)/\Qd9 ss ds
def AFits:Y ASh->Y AV->Prop
 |[],[]=>True
 |a::as,v::vs=>Qka a v/\AFits as vs
 |_,_=>False
theorem Q2S{r:Reach}{base:Nat}{t:TypeId}{v:Value}{f:Nat}{ss:Y Sh}(hs:QaE P f t=some ss)(hn:∀fs,P.underlying t≠some (.struct fs))(h:Value.okWide P w r base t v):v.cells.toList=[v]:=by
 cases f with
 |zero=>simp[QaE]at hs
 |succ f=>
  unfold QaE at hs;split at hs
  ·rename_i ht;obtain⟨b,rfl⟩:=WideShapes.okWide_bool ht h;rfl
  ·rename_i k ht;obtain⟨b,rfl⟩:=WideShapes.okWide_int ht h;rfl
  ·rename_i ht;obtain⟨b,rfl⟩:=WideShapes.okWide_string ht h;rfl
  ·rename_i e ht;obtain⟨a,l,c,rfl⟩:=WideShapes.okWide_slice ht h;rfl
  ·rename_i fs ht;exact absurd ht (hn fs)
  ·cases hs
theorem Qfs{r:Reach}{base ac:Nat}{aa:Nat->Bool}{ai:Bool}{t:TypeId}{v:Value}{d:DataW H}{ps:Y MemPlace}{a:ASh}(ha:Qfj P t=some a)(hv:Value.okWide P w r base t v)(h:DataW.Trod enc P w ac aa ai t v d ps) :
  ∃av,RdA (λ_=>none) (SW w) (look ([]:Y (Nat×Ob))) w tm0 v av/\Qka a av:=by
 obtain⟨n,h⟩:=h;unfold Qfj at ha;split at ha
 ·rename_i fs ht;split at ha
  case h_2=>cases ha
  rename_i l hl;injection ha with ha;subst ha
  obtain⟨ds,h1,h2⟩:=Q7l n 9 t l _ _ hl h;simp only[Value.okWide,ht]at hv;obtain⟨cs,rfl,an,_⟩:=hv;refine⟨.ag (ds.map .d),.ag cs _ (by simpa[Value.cells]using h1.1) λi x hx=>?_,ds,rfl,h2⟩;rw[List.getElem?_map,Qq5]at hx;obtain⟨y,hy,rfl⟩:=hx;have hi:i<cs.size:=by
   have g1:=(Qq7.1 hy).1;have g2:=h1.1;simp[Value.cells]at g2;omega
  have hc:cs.getD i undef=cs[i]:=by simp[Array.getD,hi]
  rw[hc];exact .d _ _ (h1.2 i _ y (by simp[Value.cells,hi]) hy)
 ·rename_i hn;split at ha
  case h_2=>cases ha
  rename_i s hs;injection ha with ha;subst ha
  have hc:=Q2S hs hn hv;obtain⟨ds,h1,h2⟩:=Q7l n 9 t _ _ _ hs h;rw[hc]at h1;obtain⟨x,rfl⟩:∃x,ds=[x]:=by
   have:=h1.1
   match ds,this with
   |[x],_=>exact⟨x,rfl⟩
  exact⟨.d x,.d _ _ (h1.2 0 v x rfl rfl),x,rfl,h2.2 0 s x rfl rfl⟩
theorem Q7R{r:Reach}{base aj:Nat}{ai:Nat->Bool}{ak:Bool}:∀(ts:Y TypeId) (vs:Y Value) (ds:Y (DataW H)) (ps:Y MemPlace) (as:Y ASh),ashL P ts=some as ->
  (∀(j:Nat) t v,ts[j]? = some t->vs[j]? = some v->Value.okWide P w r base t v)->DataW.TrodAll enc P w aj ai ak ts vs ds ps ->
  ∃ac,ArgsRd (λ_=>none) (SW w) (look ([]:Y (Nat×Ob))) w vs ac/\AFits as ac
 |[],vs,ds,ps,as,aa,hv,h=>by
  simp[ashL]at aa;subst aa;cases vs with
  |nil=>exact⟨[],Q8b,trivial⟩
  |cons v vs=>cases ds<;>simp[DataW.TrodAll]at h
 |t::ts,vs,ds,ps,as,aa,hv,h=>by
  obtain⟨v,au,d,ar,p,q,rfl,rfl,rfl,h1,h2⟩:=ChangeShapes.trodAll_cons h;unfold ashL at aa;split at aa
  case h_2=>cases aa
  rename_i a ha;split at aa
  case h_2=>cases aa
  rename_i ao am;injection aa with aa
  subst aa;obtain⟨av,g1,g2⟩:=Qfs ha (hv 0 t v rfl rfl) h1;obtain⟨ac,g3,g4⟩:=Q7R ts au ar q ao am (λj t v h1 h2=>hv (j+1) t v (by simpa using h1) (by simpa using h2)) h2;exact⟨av::ac,Q67 g1 g3,g2,g4⟩
theorem Q3X{W W':World}(hl:laidOutB P=true)(hb:RowKit.Below W.heap.size W W'):∀(ts:Y TypeId) (vs:Y Value) (ds:Y (DataW H)) (ps:Y MemPlace),(ts.all λt=>P.readableRec t&&decide (t<P.types.size))=true ->
  DataW.TrodAll enc P W 0 (λ_=>true) true ts vs ds ps->∃pa,DataW.TrodAll enc P W' 0 (λb=>decide (b<W.heap.size)) true ts vs ds pa
 |[],vs,ds,ps,_,h=>by
  cases vs<;>cases ds<;>simp[DataW.TrodAll]at h;exact⟨[],rfl⟩
 |t::ts,vs,ds,ps,ht,h=>by
  obtain⟨v,am,d,ak,p,q,rfl,rfl,rfl,h1,h2⟩:=ChangeShapes.trodAll_cons h;simp only[List.all_cons,Qq4,decide_eq_true_eq]at ht;obtain⟨pa,g⟩:=Q3X hl hb ts am ak q ht.2 h2;have aj:∀x∈p,x.block<W.heap.size:=by obtain⟨m,hm⟩:=h1;exact DataW.trod_lt m _ _ _ hm
  exact⟨p++pa,p,pa,RowKit.Below.trod hl ht.1.1 ht.1.2 h1 hb aj,g,rfl⟩
theorem Lm{base:Nat}{aa:Nat->Bool}{ai:Bool}:∀(ts:Y TypeId) (vs:Y Value) (ds:Y (DataW H)) (ps:Y MemPlace),DataW.TrodAll enc P w base aa ai ts vs ds ps->vs.length=ts.length/\ds.length=ts.length
 |[],vs,ds,ps,h=>by
  cases vs<;>cases ds<;>simp[DataW.TrodAll]at h;exact⟨rfl,rfl⟩
 |t::ts,vs,ds,ps,h=>by
  obtain⟨v,ak,d,aj,p,q,rfl,rfl,rfl,h1,h2⟩:=ChangeShapes.trodAll_cons h;have:=Lm ts ak aj q h2;simp[this.1,this.2]
theorem law_contract{fn:Func}{f:FuncId}{s:ChangeSpec}{as:Y ASh}{tb:TypeId}(an:laidOutB P=true)(aa:s.vars=[])(am:(fn.params.toList.all λt=>P.readableRec t&&decide (t<P.types.size))=true)(az:ashL P fn.params.toList=some as)(aw:fn.resultTypes = #[tb])(hb:P.underlying tb=some .bool){W:World}{base:Nat}{args:Array Value}{ds gs:Y (DataW H)}{ac:Y MemPlace}(ao:∀(j:Nat) t v,fn.params[j]? = some t->args[j]? = some v->Value.okWide P W .any base t v)(hW:DataW.Whole enc P fn.params.toList s.vars false W args.toList ds gs ac)(aj:∀ds:Y (DataW H),ds.length=fn.params.size->s.fn H ds={ results:=[.lit (.bool true)],args:=ds })(walk:∀ai,AFits as ai->ArgsRd (λ_=>none) (SW W) (look ([]:Y (Nat×Ob))) W args.toList ai->Calls P f args W λe w'=>e = .returned (.bool true)/\RowKit.Below W.heap.size W w') :
  Calls P f args W λe W'=>∃v,e = .returned v/\s.post enc P fn false true false false W args v W':=by
 have ax:=hW;obtain⟨p,q,hA,hV,rfl,a9,a7⟩:=hW;obtain⟨ai,g1,g2⟩:=Q7R (r:=.any) (base:=base) _ _ _ _ as az (λj t v h1 h2=>ao j t v (by simpa using h1) (by simpa using h2)) hA;refine(walk ai g2 g1).mono λe W' ⟨he,au⟩=>?_
 subst he;obtain⟨pa,ay⟩:=Q3X an au _ _ _ _ am hA;rw[aa]at hV;obtain⟨rfl,rfl⟩:=ChangeShapes.trodVars_none hV;have ar:=(Lm _ _ _ _ hA).2;have ak:=aj ds (by simpa using ar);refine⟨_,rfl,ds,[],_,[],pa,[],ax,?_,?_,?_,au.frame _,λh=>by cases h⟩
 ·rw[List.append_nil,ak,aw];exact ChangeShapes.trodAll_mk1 (RowKit.shut_bool hb _)
 ·rw[List.append_nil,ak];exact ay
 ·rw[List.append_nil,ak,aa];rfl
end
end Go.Vx
namespace Go.Vx
variable{i:Nat}
section
variable{R:Type}
def i64(x:Int):Prop := -9223372036854775808<=x/\x<=9223372036854775807
theorem Q7G{x:Int}(h:i64 x):wJ x=x:=IntWalk.i64_in x h
theorem Q60{x:Int}(h1 : -9223372036854775808<=x)(h2:x<=9223372036854775807):wJ x=x:=IntWalk.i64_in x ⟨h1,h2⟩
theorem Qkr{n:Int}(h:(Lit.int .i64 n).wf=true):i64 n:=by
 simpa[Lit.wf,IntKind.min,IntKind.max,IntKind.signed,IntKind.bits,i64]using h
theorem Qj(n:Int):pIw (.int .i64 n)=some n:=rfl
theorem LQ(b:Bool):PV (.bool b)=some b:=rfl
theorem XW(s:Y UInt8):VA (.str s)=some s:=rfl
theorem X2(k:Nat)(l:Y (Y D)):pSl k (.sl k l)=some l:=by simp[pSl]
theorem Qb1{α:Type}(f:α->Y D)(l:Y α)(i:Nat):Qi (l.map f) (i:Int)=(l[i]?).map f:=by
 simp[Qi]
theorem X6{α:Type}{f:α->Y D}{l:Y α}{a:α}(h:l[i]? = some a):Qi (l.map f) (i:Int)=some (f a):=by rw[Qb1,h];rfl
theorem DO{b:Int}(h:b≠0):nz b=some ():=by
 have:(b == 0)=false:=by simpa using h
 unfold nz;rw[this];rfl
theorem XR{len:Nat}{n:Int}(h0:0<=n)(h:n<len):inB len n=some ():=by
 unfold inB;simp[h0,h]
theorem Yf{α:Type}{l:Y α}{a:α}{r:Y α}(h:l.drop i=a::r):l[i]? = some a/\l.drop (i+1)=r/\i<l.length:=by
 have h1:(l.drop i)[0]? = some a:=by rw[h];rfl
 rw[Qqe]at h1;refine⟨by simpa using h1,by rw[<- List.drop_drop,h];rfl,?_⟩;have:=(Qq7.1 h1).1;omega
theorem Wc{α:Type}{l:Y α}(h:l.drop i=[]):l.length<=i:=List.drop_eq_nil_iff.1 h
theorem Xi{c:Bool}(h:c=true)(x y:R):(bif c then x else y)=x:=by rw[h];rfl
theorem Qq{c:Bool}(h:c=false)(x y:R):(bif c then x else y)=y:=by rw[h];rfl
def encI(l:Y Int):Y (Y D):=l.map λn=>[D.int .i64 n]
theorem QS(l:Y Int):(encI l).length=l.length:=by simp[encI]
theorem Hg{l:Y Int}{a:Int}(h:l[i]? = some a):Qi (encI l) (i:Int)=some [.int .i64 a]:=X6 h
theorem fit_ints{rows:Y (Y D)}(h:Fit (.sl [.int .i64]) (.sl 1 rows)):∃l:Y Int,rows=encI l/\(∀n∈l,i64 n)/\l.length<=maxLen:=by
 cases h with
 |sl _ _ hm hl hr=>
  have h1:∀i,i<rows.length->∃n:Int,rows[i]? = some [.int .i64 n]/\i64 n:=by
   intro i hi;have aa:=Qq9 hi;have ac:=hl i _ aa;obtain⟨x,hx⟩:∃x,rows[i]=[x]:=by
    match hq:rows[i],ac with
    |[x],_=>exact⟨x,rfl⟩
   have hf:=hr i 0 _ (.int .i64) x aa rfl (by rw[hx];rfl);cases hf with
   |int _ n hw=>exact⟨n,by rw[aa,hx],Qkr hw⟩
  obtain⟨l,e1,e2⟩:=Q6N rows.length h1;refine⟨l,?_,λn hn=>?_,I⟩
  ·refine List.ext_getElem? λi=>?_
   rcases Nat.lt_or_ge i l.length with hi | hi
   ·have:=(e2 i _ (Qq9 hi)).1;rw[this];simp[encI,hi]
   ·rw[Qqs I,Qqs (by simpa[encI]using hi)]
  ·obtain⟨i,hi⟩:=List.getElem?_of_mem hn;exact(e2 i _ hi).2
theorem fit_sl{row:Y Sh}{x:D}(h:Fit (.sl row) x):∃rows,x = .sl row.length rows:=by
 cases h with
 |sl _ rows _ _ _=>exact⟨rows,rfl⟩
theorem fit_int{k:IntKind}{x:D}(h:Fit (.int k) x):∃n,x = .int k n/\(Lit.int k n).wf=true:=by
 cases h with
 |int _ n h=>exact⟨n,rfl,h⟩
def lawK:AV->oP Bool
 |.d (.bool b)=>some b
 |_=>none
theorem lawK_ok(x:AV)(h:lawK x=some true):x = .d (.bool true):=by
 unfold lawK at h;split at h
 ·injection h with h;subst h;rfl
 ·cases h
end
end Go.Vx
namespace Go.Vx
abbrev bs(l:Y UInt8):Y UInt8:=l
abbrev LL:=Y (Y D)
abbrev dT(s:Y UInt8):AV:=.d (.str s)
def cA:Y Nat->Code->Code
 |[],c=>c
 |0::r,c=>cA r (cL c)
 |1::r,c=>cA r (cR c)
 |2::r,c=>cA r (cB c)
 |3::r,c=>cA r (cT c)
 |_::r,c=>cA r (cE c)
def zp:Y Nat->Y Nat->Y (Nat×Nat)
 |a::r,b::s=>(a,b)::zp r s
 |_,_=>[]
section
variable{A B C D E F R:Type}
end
def smX{A B C:Type}(r:A ⊕ B)(f:A->C)(g:B->C):C:=match r with
 |.inl a=>f a
 |.inr b=>g b
abbrev jn{α β:Type}(c:α)(f:α->β):β:=f c
abbrev Tu2{A0 A1:Type}(a0:A0)(a1:A1):=some (a0,a1)
abbrev Tu3{A0 A1 A2:Type}(a0:A0)(a1:A1)(a2:A2):=some (a0,a1,a2)
abbrev Tu4{A0 A1 A2 A3:Type}(a0:A0)(a1:A1)(a2:A2)(a3:A3):=some (a0,a1,a2,a3)
abbrev Tu5{A0 A1 A2 A3 A4:Type}(a0:A0)(a1:A1)(a2:A2)(a3:A3)(a4:A4):=some (a0,a1,a2,a3,a4)
abbrev Tu6{A0 A1 A2 A3 A4 A5:Type}(a0:A0)(a1:A1)(a2:A2)(a3:A3)(a4:A4)(a5:A5):=some (a0,a1,a2,a3,a4,a5)
abbrev Tu7{A0 A1 A2 A3 A4 A5 A6:Type}(a0:A0)(a1:A1)(a2:A2)(a3:A3)(a4:A4)(a5:A5)(a6:A6):=some (a0,a1,a2,a3,a4,a5,a6)
abbrev Tu8{A0 A1 A2 A3 A4 A5 A6 A7:Type}(a0:A0)(a1:A1)(a2:A2)(a3:A3)(a4:A4)(a5:A5)(a6:A6)(a7:A7):=some (a0,a1,a2,a3,a4,a5,a6,a7)
abbrev Tu10{A0 A1 A2 A3 A4 A5 A6 A7 A8 A9:Type}(a0:A0)(a1:A1)(a2:A2)(a3:A3)(a4:A4)(a5:A5)(a6:A6)(a7:A7)(a8:A8)(a9:A9):=some (a0,a1,a2,a3,a4,a5,a6,a7,a8,a9)
abbrev Tu11{A0 A1 A2 A3 A4 A5 A6 A7 A8 A9 A10:Type}(a0:A0)(a1:A1)(a2:A2)(a3:A3)(a4:A4)(a5:A5)(a6:A6)(a7:A7)(a8:A8)(a9:A9)(a10:A10):=some (a0,a1,a2,a3,a4,a5,a6,a7,a8,a9,a10)
abbrev Tu12{A0 A1 A2 A3 A4 A5 A6 A7 A8 A9 A10 A11:Type}(a0:A0)(a1:A1)(a2:A2)(a3:A3)(a4:A4)(a5:A5)(a6:A6)(a7:A7)(a8:A8)(a9:A9)(a10:A10)(a11:A11):=some (a0,a1,a2,a3,a4,a5,a6,a7,a8,a9,a10,a11)
abbrev Tu13{A0 A1 A2 A3 A4 A5 A6 A7 A8 A9 A10 A11 A12:Type}(a0:A0)(a1:A1)(a2:A2)(a3:A3)(a4:A4)(a5:A5)(a6:A6)(a7:A7)(a8:A8)(a9:A9)(a10:A10)(a11:A11)(a12:A12):=some (a0,a1,a2,a3,a4,a5,a6,a7,a8,a9,a10,a11,a12)
abbrev QkR:Y UInt8:=bs [0,1,2,2,3,3,3,3,4,4,4,4,4,4,4,4,5,5,5,5,5,5,5,5,5,5,5,5,5,5,5,5,6,6,6,6,6,6,6,6,6,6,6,6,6,6,6,6,6,6,6,6,6,6,6,6,6,6,6,6,6,6,6,6,7,7,7,7,7,7,7,7,7,7,7,7,7,7,7,7,7,7,7,7,7,7,7,7,7,7,7,7,7,7,7,7,7,7,7,7,7,7,7,7,7,7,7,7,7,7,7,7,7,7,7,7,7,7,7,7,7,7,7,7,7,7,7,7,8,8,8,8,8,8,8,8,8,8,8,8,8,8,8,8,8,8,8,8,8,8,8,8,8,8,8,8,8,8,8,8,8,8,8,8,8,8,8,8,8,8,8,8,8,8,8,8,8,8,8,8,8,8,8,8,8,8,8,8,8,8,8,8,8,8,8,8,8,8,8,8,8,8,8,8,8,8,8,8,8,8,8,8,8,8,8,8,8,8,8,8,8,8,8,8,8,8,8,8,8,8,8,8,8,8,8,8,8,8,8,8,8,8,8,8,8,8,8,8,8,8,8,8,8,8,8,8]
abbrev QlG:=Y D
abbrev QlH:=Y UInt8
structure Qe(R:Type)
structure Qf
instance {R:Type}:Inhabited (Qe R):=⟨⟨⟩⟩
instance:Inhabited Qf:=⟨⟨⟩⟩
section
variable{R A B C E:Type}{d e f g h d1 e1 f1:D}{i j s t i1 j1:Int}{l x y z l1 x1:LL}{r q r1 q1:QlG}{a b c a1 b1 c1:Nat}{p v p1 v1:Bool}{w w1:QlH}
def Q8:Bool->Bool->Qf:=default
instance:CoeDep Qf (Q8 p v) Bool:=⟨bif p then true else v⟩
def Q9:Bool->Bool->Qf:=default
instance:CoeDep Qf (Q9 p v) Bool:=⟨bif p then v else false⟩
def Qa(R:Type):Bool->(Bool->oP R)->Qe R:=default
instance (k:Bool->oP R):CoeDep (Qe R) (Qa R p k) (oP R):=⟨k p⟩
def Qb(R:Type):A->(A->oP R)->Qe R:=default
instance (a:A)(k:A->oP R):CoeDep (Qe R) (Qb R a k) (oP R):=⟨k a⟩
def Qc(R:Type):oP A->(A->oP R)->Qe R:=default
def Qd(R:Type):Bool->oP A->(A->oP R)->Qe R:=default
instance (a:oP (Unit))(k:Unit->oP R):CoeDep (Qe R) (Qc R a k) (oP R):=⟨gb true a () k⟩
instance (a:oP (Unit))(k:Unit->oP R):CoeDep (Qe R) (Qd R p a k) (oP R):=⟨gb p a () k⟩
instance (a:oP (Int))(k:Int->oP R):CoeDep (Qe R) (Qc R a k) (oP R):=⟨gb true a 0 k⟩
instance (a:oP (Int))(k:Int->oP R):CoeDep (Qe R) (Qd R p a k) (oP R):=⟨gb p a 0 k⟩
instance (a:oP (Int×Int))(k:Int×Int->oP R):CoeDep (Qe R) (Qc R a k) (oP R):=⟨gb true a (0,0) k⟩
instance (a:oP (Int×Int))(k:Int×Int->oP R):CoeDep (Qe R) (Qd R p a k) (oP R):=⟨gb p a (0,0) k⟩
instance (a:oP (Nat×Nat))(k:Nat×Nat->oP R):CoeDep (Qe R) (Qc R a k) (oP R):=⟨gb true a (0,0) k⟩
instance (a:oP (Nat×Nat))(k:Nat×Nat->oP R):CoeDep (Qe R) (Qd R p a k) (oP R):=⟨gb p a (0,0) k⟩
instance (a:oP (Y A))(k:Y A->oP R):CoeDep (Qe R) (Qc R a k) (oP R):=⟨gb true a [] k⟩
instance (a:oP (Y A))(k:Y A->oP R):CoeDep (Qe R) (Qd R p a k) (oP R):=⟨gb p a [] k⟩
instance (a:oP (Bool))(k:Bool->oP R):CoeDep (Qe R) (Qc R a k) (oP R):=⟨gb true a false k⟩
instance (a:oP (Bool))(k:Bool->oP R):CoeDep (Qe R) (Qd R p a k) (oP R):=⟨gb p a false k⟩
instance (a:oP (D))(k:D->oP R):CoeDep (Qe R) (Qc R a k) (oP R):=⟨gb true a oF k⟩
instance (a:oP (D))(k:D->oP R):CoeDep (Qe R) (Qd R p a k) (oP R):=⟨gb p a oF k⟩
instance (a:oP (Int×Bool))(k:Int×Bool->oP R):CoeDep (Qe R) (Qc R a k) (oP R):=⟨gb true a (0,false) k⟩
instance (a:oP (Int×Bool))(k:Int×Bool->oP R):CoeDep (Qe R) (Qd R p a k) (oP R):=⟨gb p a (0,false) k⟩
instance (a:oP ((Y A)×Int))(k:(Y A)×Int->oP R):CoeDep (Qe R) (Qc R a k) (oP R):=⟨gb true a ([],0) k⟩
instance (a:oP ((Y A)×Int))(k:(Y A)×Int->oP R):CoeDep (Qe R) (Qd R p a k) (oP R):=⟨gb p a ([],0) k⟩
instance (a:oP ((Y A)×Int×Int))(k:(Y A)×Int×Int->oP R):CoeDep (Qe R) (Qc R a k) (oP R):=⟨gb true a ([],0,0) k⟩
instance (a:oP ((Y A)×Int×Int))(k:(Y A)×Int×Int->oP R):CoeDep (Qe R) (Qd R p a k) (oP R):=⟨gb p a ([],0,0) k⟩
instance (a:oP (D×D×D×D×Bool))(k:D×D×D×D×Bool->oP R):CoeDep (Qe R) (Qc R a k) (oP R):=⟨gb true a (.bool false,.bool false,.bool false,.bool false,false) k⟩
instance (a:oP (D×D×D×D×Bool))(k:D×D×D×D×Bool->oP R):CoeDep (Qe R) (Qd R p a k) (oP R):=⟨gb p a (.bool false,.bool false,.bool false,.bool false,false) k⟩
instance (a:oP (D×D))(k:D×D->oP R):CoeDep (Qe R) (Qc R a k) (oP R):=⟨gb true a (.bool false,.bool false) k⟩
instance (a:oP (D×D))(k:D×D->oP R):CoeDep (Qe R) (Qd R p a k) (oP R):=⟨gb p a (.bool false,.bool false) k⟩
instance (a:oP (D×D×D×D×D×D×Bool))(k:D×D×D×D×D×D×Bool->oP R):CoeDep (Qe R) (Qc R a k) (oP R):=⟨gb true a (.bool false,.bool false,.bool false,.bool false,.bool false,.bool false,false) k⟩
instance (a:oP (D×D×D×D×D×D×Bool))(k:D×D×D×D×D×D×Bool->oP R):CoeDep (Qe R) (Qd R p a k) (oP R):=⟨gb p a (.bool false,.bool false,.bool false,.bool false,.bool false,.bool false,false) k⟩
def Qg(R:Type){A:Type}:(A->oP R)->A->Qe R:=default
instance {A:Type}(k:A->oP R)(a0:A):CoeDep (Qe R) (Qg R k a0) (oP R):=⟨k a0⟩
def QkS(R:Type){A B:Type}:(A->B->oP R)->A->B->Qe R:=default
instance {A B:Type}(k:A->B->oP R)(a0:A)(a1:B):CoeDep (Qe R) (QkS R k a0 a1) (oP R):=⟨k a0 a1⟩
def QkT(R:Type){A B C:Type}:(A->B->C->oP R)->A->B->C->Qe R:=default
instance {A B C:Type}(k:A->B->C->oP R)(a0:A)(a1:B)(a2:C):CoeDep (Qe R) (QkT R k a0 a1 a2) (oP R):=⟨k a0 a1 a2⟩
def QkU(R:Type){A B C D:Type}:(A->B->C->D->oP R)->A->B->C->D->Qe R:=default
instance {A B C D:Type}(k:A->B->C->D->oP R)(a0:A)(a1:B)(a2:C)(a3:D):CoeDep (Qe R) (QkU R k a0 a1 a2 a3) (oP R):=⟨k a0 a1 a2 a3⟩
def QkV(R:Type){A B C D E:Type}:(A->B->C->D->E->oP R)->A->B->C->D->E->Qe R:=default
instance {A B C D E:Type}(k:A->B->C->D->E->oP R)(a0:A)(a1:B)(a2:C)(a3:D)(a4:E):CoeDep (Qe R) (QkV R k a0 a1 a2 a3 a4) (oP R):=⟨k a0 a1 a2 a3 a4⟩
def QkW(R:Type){A B C D E F:Type}:(A->B->C->D->E->F->oP R)->A->B->C->D->E->F->Qe R:=λ_ _ _ _ _ _ _=>default
instance {A B C D E F:Type}(k:A->B->C->D->E->F->oP R)(a0:A)(a1:B)(a2:C)(a3:D)(a4:E)(a5:F):CoeDep (Qe R) (QkW R k a0 a1 a2 a3 a4 a5) (oP R):=⟨k a0 a1 a2 a3 a4 a5⟩
def QkX(R:Type){A B C D E F G:Type}:(A->B->C->D->E->F->G->oP R)->A->B->C->D->E->F->G->Qe R:=λ_ _ _ _ _ _ _ _=>default
instance {A B C D E F G:Type}(k:A->B->C->D->E->F->G->oP R)(a0:A)(a1:B)(a2:C)(a3:D)(a4:E)(a5:F)(a6:G):CoeDep (Qe R) (QkX R k a0 a1 a2 a3 a4 a5 a6) (oP R):=⟨k a0 a1 a2 a3 a4 a5 a6⟩
def QkZ(R:Type):D->D->(Int->Int->oP R)->Qe R:=default
instance (k:Int->Int->oP R):CoeDep (Qe R) (QkZ R d e k) (oP R):=⟨gb true (pIw d) 0 λA=>gb true (pIw e) 0 λB=>CoeDep.coe (QkS R k A B)⟩
def Ql0(R:Type):LL->Int->(D->oP R)->Qe R:=default
instance (k:D->oP R):CoeDep (Qe R) (Ql0 R l i k) (oP R):=⟨gb true (Qi l i) [] λA=>gb true A[0]? oF k⟩
def Ql1(R:Type):LL->Int->(QlG->D->D->D->oP R)->Qe R:=default
instance (k:QlG->D->D->D->oP R):CoeDep (Qe R) (Ql1 R l i k) (oP R):=⟨gb true (Qi l i) [] λA=>gb true A[0]? oF λB=>gb true A[1]? oF λC=>gb true A[2]? oF λE=>CoeDep.coe (QkU R k A B C E)⟩
def Ql2(R:Type):Nat->Int->LL->Nat->(QlG->oP R)->Qe R:=default
instance (k:QlG->oP R):CoeDep (Qe R) (Ql2 R a i l b k) (oP R):=⟨gb true (inB a i) () λ_=>gb true l[b]? [] k⟩
def Ql3(R:Type):LL->Int->(Int->oP R)->Qe R:=default
instance (k:Int->oP R):CoeDep (Qe R) (Ql3 R l i k) (oP R):=⟨Ql0 R l i λA=>gb true (pIw A) 0 k⟩
def Ql4(R:Type):LL->Int->(QlG->D->oP R)->Qe R:=default
instance (k:QlG->D->oP R):CoeDep (Qe R) (Ql4 R l i k) (oP R):=⟨gb true (Qi l i) [] λA=>gb true A[0]? oF λB=>CoeDep.coe (QkS R k A B)⟩
def Ql5(R:Type):Nat->Int->LL->Nat->(Int->oP R)->Qe R:=default
instance (k:Int->oP R):CoeDep (Qe R) (Ql5 R a i l b k) (oP R):=⟨Ql2 R a i l b λA=>gb true A[0]? oF λB=>gb true (pIw B) 0 k⟩
def Ql6(R:Type):D->LL->D->D->(LL->Int->QlH->Int->Int->Int->Int->oP R)->Qe R:=default
instance (k:LL->Int->QlH->Int->Int->Int->Int->oP R):CoeDep (Qe R) (Ql6 R d l e f k) (oP R):=⟨gb true (pIw d) 0 λA=>Ql1 R l A λB C E F=>gb true B[3]? oF λG=>gb true B[4]? oF λH=>gb true (pSl 2 e) [] λI=>gb true (pIw f) 0 λJ=>gb true (VA C) [] λK=>QkZ R E F λL M=>QkZ R G H λN O=>CoeDep.coe (QkX R k I J K L M N O)⟩
def Ql7(R:Type):D->Bool->D->(Int->Int->oP R)->Qe R:=default
instance (k:Int->Int->oP R):CoeDep (Qe R) (Ql7 R d p e k) (oP R):=⟨gb p (pIw d) 0 λA=>gb p (pIw e) 0 λB=>CoeDep.coe (QkS R k A B)⟩
def Ql8(R:Type):LL->Int->(QlH->oP R)->Qe R:=default
instance (k:QlH->oP R):CoeDep (Qe R) (Ql8 R l i k) (oP R):=⟨Ql0 R l i λA=>gb true (VA A) [] k⟩
def Ql9(R:Type):LL->Int->(QlG->D->oP R)->Qe R:=default
instance (k:QlG->D->oP R):CoeDep (Qe R) (Ql9 R l i k) (oP R):=⟨gb true (Qi l i) [] λA=>gb true A[0]? oF λ_=>gb true A[1]? oF λC=>CoeDep.coe (QkS R k A C)⟩
def Qla(R:Type):QlG->(D->D->D->oP R)->Qe R:=default
instance (k:D->D->D->oP R):CoeDep (Qe R) (Qla R r k) (oP R):=⟨gb true r[3]? oF λA=>gb true r[4]? oF λB=>gb true r[5]? oF λC=>CoeDep.coe (QkT R k A B C)⟩
def Qlb(R:Type):LL->Int->(Int->oP R)->Qe R:=default
instance (k:Int->oP R):CoeDep (Qe R) (Qlb R l i k) (oP R):=⟨gb true (Qi l i) [] λA=>gb true A[1]? oF λB=>gb true (pIw B) 0 k⟩
def Qlc(R:Type):LL->Int->(LL->oP R)->Qe R:=default
instance (k:LL->oP R):CoeDep (Qe R) (Qlc R l i k) (oP R):=⟨gb true (Qi l i) [] λA=>gb true A[3]? oF λB=>gb true (pSl 4 B) [] k⟩
def Qld(R:Type):LL->Int->(D->D->oP R)->Qe R:=default
instance (k:D->D->oP R):CoeDep (Qe R) (Qld R l i k) (oP R):=⟨Ql4 R l i λA B=>gb true A[1]? oF λC=>CoeDep.coe (QkS R k B C)⟩
def Qle(R:Type):Nat->Int->LL->Nat->(LL->oP R)->Qe R:=default
instance (k:LL->oP R):CoeDep (Qe R) (Qle R a i l b k) (oP R):=⟨Ql2 R a i l b λA=>gb true A[0]? oF λB=>gb true (pSl 1 B) [] k⟩
def Qlf(R:Type):LL->Int->(D->D->D->oP R)->Qe R:=default
instance (k:D->D->D->oP R):CoeDep (Qe R) (Qlf R l i k) (oP R):=⟨Ql4 R l i λA B=>gb true A[1]? oF λC=>gb true A[2]? oF λE=>CoeDep.coe (QkT R k B C E)⟩
def Qlg(R:Type):LL->Int->Bool->(QlH->oP R)->Qe R:=default
instance (k:QlH->oP R):CoeDep (Qe R) (Qlg R l i p k) (oP R):=⟨gb p (Qi l i) [] λA=>gb p A[0]? oF λB=>gb p (VA B) [] k⟩
def Qlh(R:Type):D->D->oP R->Qe R:=default
instance (k:oP R):CoeDep (Qe R) (Qlh R d e k) (oP R):=⟨gb true (pIw d) 0 λ_=>gb true (pIw e) 0 λ_=>k⟩
def Qli(R:Type):LL->Int->(LL->oP R)->Qe R:=default
instance (k:LL->oP R):CoeDep (Qe R) (Qli R l i k) (oP R):=⟨Ql0 R l i λA=>gb true (pSl 3 A) [] k⟩
def Qlj(R:Type):LL->Int->(Int->oP R)->Qe R:=default
instance (k:Int->oP R):CoeDep (Qe R) (Qlj R l i k) (oP R):=⟨gb true (Qi l i) [] λA=>gb true A[4]? oF λB=>gb true (pIw B) 0 k⟩
def Qlk(R:Type):QlG->(Int->oP R)->Qe R:=default
instance (k:Int->oP R):CoeDep (Qe R) (Qlk R r k) (oP R):=⟨gb true r[2]? oF λA=>gb true (pIw A) 0 k⟩
def Qll(R:Type):LL->Int->(D->D->D->D->oP R)->Qe R:=default
instance (k:D->D->D->D->oP R):CoeDep (Qe R) (Qll R l i k) (oP R):=⟨Ql1 R l i λA B C E=>gb true A[3]? oF λF=>CoeDep.coe (QkU R k B C E F)⟩
def Qlm(R:Type):QlG->(D->oP R)->Qe R:=default
instance (k:D->oP R):CoeDep (Qe R) (Qlm R r k) (oP R):=⟨gb true r[2]? oF λ_=>gb true r[3]? oF k⟩
def Qln(R:Type):Nat->Int->LL->Nat->(Int->oP R)->Qe R:=default
instance (k:Int->oP R):CoeDep (Qe R) (Qln R a i l b k) (oP R):=⟨Ql2 R a i l b λA=>gb true A[1]? oF λB=>gb true (pIw B) 0 k⟩
def Qlo(R:Type):D->D->(LL->Int->oP R)->Qe R:=default
instance (k:LL->Int->oP R):CoeDep (Qe R) (Qlo R d e k) (oP R):=⟨gb true (pSl 2 d) [] λA=>gb true (pIw e) 0 λB=>CoeDep.coe (QkS R k A B)⟩
def Qlp(R:Type):LL->Int->(QlG->oP R)->Qe R:=default
instance (k:QlG->oP R):CoeDep (Qe R) (Qlp R l i k) (oP R):=⟨gb true (Qi l i) [] λA=>gb true A[0]? oF λ_=>gb true A[1]? oF λ_=>CoeDep.coe (Qg R k A)⟩
def Qlq(R:Type):Nat->Nat->oP R->Qe R:=default
instance (k:oP R):CoeDep (Qe R) (Qlq R a b k) (oP R):=⟨gb true (Y9 a) () λ_=>gb true (Y9 b) () λ_=>k⟩
def Qlr(R:Type):D->D->D->D->(Int->Int->Int->Int->oP R)->Qe R:=default
instance (k:Int->Int->Int->Int->oP R):CoeDep (Qe R) (Qlr R d e f g k) (oP R):=⟨QkZ R d e λA B=>QkZ R f g λC E=>CoeDep.coe (QkU R k A B C E)⟩
def Qls(R:Type):LL->Int->Bool->(Int->oP R)->Qe R:=default
instance (k:Int->oP R):CoeDep (Qe R) (Qls R l i p k) (oP R):=⟨gb p (Qi l i) [] λA=>gb p A[1]? oF λB=>gb p (pIw B) 0 k⟩
def Qlt(R:Type):D->D->D->(Int->Int->Int->oP R)->Qe R:=default
instance (k:Int->Int->Int->oP R):CoeDep (Qe R) (Qlt R d e f k) (oP R):=⟨QkZ R d e λA B=>gb true (pIw f) 0 λC=>CoeDep.coe (QkT R k A B C)⟩
def Qlu(R:Type):LL->Int->(D->D->D->D->D->oP R)->Qe R:=default
instance (k:D->D->D->D->D->oP R):CoeDep (Qe R) (Qlu R l i k) (oP R):=⟨Ql1 R l i λA B C E=>gb true A[3]? oF λF=>gb true A[4]? oF λG=>CoeDep.coe (QkV R k B C E F G)⟩
def Qlv(R:Type):LL->Int->(D->Int->oP R)->Qe R:=default
instance (k:D->Int->oP R):CoeDep (Qe R) (Qlv R l i k) (oP R):=⟨Ql4 R l i λA B=>gb true A[1]? oF λC=>gb true A[2]? oF λ_=>gb true A[3]? oF λ_=>gb true A[4]? oF λ_=>gb true A[5]? oF λ_=>gb true (pIw B) 0 λI=>CoeDep.coe (QkS R k C I)⟩
def Qlw(R:Type):Nat->Int->Bool->LL->Nat->(D->oP R)->Qe R:=default
instance (k:D->oP R):CoeDep (Qe R) (Qlw R a i p l b k) (oP R):=⟨gb p (inB a i) () λ_=>gb p l[b]? [] λB=>gb p B[0]? oF k⟩
def Qlx(R:Type):QlG->(D->D->oP R)->Qe R:=default
instance (k:D->D->oP R):CoeDep (Qe R) (Qlx R r k) (oP R):=⟨gb true r[2]? oF λA=>gb true r[3]? oF λB=>CoeDep.coe (QkS R k A B)⟩
def Qly(R:Type):Int->oP R->Qe R:=default
instance (k:oP R):CoeDep (Qe R) (Qly R i k) (oP R):=⟨gb true (nz i) () λ_=>gb true (nz i) () λ_=>k⟩
def Qlz(R:Type):LL->Int->(Int->oP R)->Qe R:=default
instance (k:Int->oP R):CoeDep (Qe R) (Qlz R l i k) (oP R):=⟨gb true (Qi l i) [] λA=>Qlk R A k⟩
def QlA(R:Type):LL->Int->Bool->(Int->oP R)->Qe R:=default
instance (k:Int->oP R):CoeDep (Qe R) (QlA R l i p k) (oP R):=⟨gb p (Qi l i) [] λA=>gb p A[0]? oF λB=>gb p (pIw B) 0 k⟩
def QlB(R:Type):LL->Int->(LL->oP R)->Qe R:=default
instance (k:LL->oP R):CoeDep (Qe R) (QlB R l i k) (oP R):=⟨Ql0 R l i λA=>gb true (pSl 2 A) [] k⟩
def QlC(R:Type):LL->Int->(D->oP R)->Qe R:=default
instance (k:D->oP R):CoeDep (Qe R) (QlC R l i k) (oP R):=⟨gb true (Qi l i) [] λA=>gb true A[1]? oF k⟩
def QlD(R:Type):Nat->Int->LL->Nat->(Bool->oP R)->Qe R:=default
instance (k:Bool->oP R):CoeDep (Qe R) (QlD R a i l b k) (oP R):=⟨Ql2 R a i l b λA=>gb true A[0]? oF λB=>gb true (PV B) false k⟩
def QlE(R:Type):QlG->Bool->(D->D->oP R)->Qe R:=default
instance (k:D->D->oP R):CoeDep (Qe R) (QlE R r p k) (oP R):=⟨gb p r[0]? oF λA=>gb p r[1]? oF λB=>CoeDep.coe (QkS R k A B)⟩
def QlF(R:Type):D->LL->(D->D->oP R)->Qe R:=default
instance (k:D->D->oP R):CoeDep (Qe R) (QlF R d l k) (oP R):=⟨gb true (pIw d) 0 λA=>Qld R l A k⟩
end
abbrev QlI(R:Type):=Int->oP R
abbrev QlJ(R:Type):=Int->Bool->oP R
abbrev QlK(R:Type):=Nat->Int->oP R
abbrev QlL(R:Type):=Int->Bool->LL->oP R
abbrev QlM(R:Type):=Nat->Int->LL->oP R
abbrev QlN(R:Type):=Bool->oP R
abbrev QlO(R:Type):=LL->oP R
abbrev QlP(R:Type):=Int->Int->oP R
abbrev QlQ(R:Type):=Int->Int->Bool->oP R
abbrev QlR(R:Type):=LL->Int->oP R
abbrev QlS(R:Type):=Nat->Int->Int->oP R
abbrev QlT(R:Type):=Int->LL->oP R
abbrev QlU(R:Type):=Int->Bool->LL->LL->oP R
abbrev QlV(R:Type):=LL->Int->Int->oP R
abbrev QlW(R:Type):=Nat->Int->LL->LL->oP R
abbrev QlX(R:Type):=Nat->Int->Int->LL->oP R
abbrev QlY(R:Type):=Nat->Int->Int->LL->LL->oP R
abbrev QlZ(R:Type):=Int->Bool->LL->LL->Int->oP R
abbrev Qm0(R:Type):=Nat->Int->LL->LL->Int->oP R
abbrev Qm1(R:Type):=Int->Bool->LL->LL->LL->Int->oP R
abbrev Qm2(R:Type):=Nat->Int->LL->LL->LL->Int->oP R
abbrev Qm3(R:Type):=Int->Bool->Int->LL->oP R
abbrev Qm4(R:Type):=Int->Int->Bool->LL->oP R
abbrev Qm5(R:Type):=Int->Int->Bool->LL->LL->oP R
abbrev Qm6(R:Type):=Int->Bool->(Int->Bool)->oP R
abbrev Qm7(R:Type):=Nat->Int->(Int->Bool)->oP R
abbrev Qm8(R:Type):=Int->Bool->Int->Int->LL->LL->LL->LL->oP R
abbrev Qm9(R:Type):=LL->LL->LL->LL->Int->LL->LL->LL->LL->LL->LL->LL->oP R
section
variable{P:Program} {R:Type}
mutual
def dm(ρ:Y (Nat×Nat)):AV->Bool
 |.ptr j _=>(look ρ j).isSome
 |.arr j=>(look ρ j).isSome
 |.ap j _ _=>(look ρ j).isSome
 |.sa j _=>(look ρ j).isSome
 |.ag l=>dmL ρ l
 |.tup l=>dmL ρ l
 |.fn _ l=>dmL ρ l
 |.gd ..=>false
 |_=>true
def dmL(ρ:Y (Nat×Nat)):Y AV->Bool
 |[]=>true
 |a::r=>dm ρ a&&dmL ρ r
end
theorem Q8a{ρ:Y (Nat×Nat)}:∀{l:Y AV} {i:Nat} {x:AV},dmL ρ l=true->l[i]? = some x->dm ρ x=true
 |a::r,0,x,h,hx=>by
  simp only[dmL,Qq4]at h;simp at hx;subst hx;exact h.1
 |a::r,i+1,x,h,hx=>by
  simp only[dmL,Qq4]at h;exact Q8a h.2 (by simpa using hx)
section
variable{ρ:Y (Nat×Nat)} {β β':Nat->oP Nat} {S:Nat->Prop} {h h':Nat->oP Ob} {w:World} {tm:Nat->Value}
theorem Qj6(hβ:∀j l,look ρ j=some l->β' j=β l)(hh:∀j l,look ρ j=some l->(h l).isSome=true/\(∀e s rows,h l=some (.arr e s rows)->h' j=some (.arr e s rows))/\∀t f,h l=some (.mp t f)->h' j=some (.mp t f)) :
  ∀{v:Value} {y:AV},RdA β S h w tm v y->∀x:AV,dm ρ x=true->y=Ue ρ x->RdA β' S h' w tm v x:=by
 intro v y hv;induction hv with
 |top v=>
  intro x hd he;cases x<;>simp only[Ue,reduceCtorEq]at he
  case top=>exact .top v
  all_goals grind[dm,Option.isSome_iff_exists]
 |d v z hz=>
  intro x hd he;cases x<;>simp only[Ue,reduceCtorEq]at he
  case d=>injection he with he;subst he;exact .d v _ hz
  all_goals grind
 |nil=>
  intro x hd he;cases x<;>simp only[Ue,reduceCtorEq]at he
  case nil=>exact .nil
  all_goals grind
 |ag cs l hl _ ih=>
  intro x hd he;cases x<;>simp only[Ue,reduceCtorEq]at he
  case ag r=>
   injection he with he
   subst he;rw[Zc]at hl;refine .ag cs r hl λi z hz=>?_
   exact ih i (Ue ρ z) (by rw[VU,hz];rfl) z (Q8a (by simpa[dm]using hd) hz) rfl
  all_goals grind
 |tup cs l hl _ ih=>
  intro x hd he;cases x<;>simp only[Ue,reduceCtorEq]at he
  case tup r=>
   injection he with he
   subst he;rw[Zc]at hl;refine .tup cs r hl λi z hz=>?_
   exact ih i (Ue ρ z) (by rw[VU,hz];rfl) z (Q8a (by simpa[dm]using hd) hz) rfl
  case ptr j o=>split at he<;>cases he
  case arr j=>split at he<;>cases he
  case sa j t=>split at he<;>cases he
  case ap j i o=>split at he<;>cases he
 |fn f cs l hl _ ih=>
  intro x hd he;cases x<;>simp only[Ue,reduceCtorEq]at he
  case fn g r=>
   injection he with he1 he2
   subst he1;subst he2;rw[Zc]at hl;refine .fn f cs r hl λi z hz=>?_
   exact ih i (Ue ρ z) (by rw[VU,hz];rfl) z (Q8a (by simpa[dm]using hd) hz) rfl
  case ptr j o=>split at he<;>cases he
  case arr j=>split at he<;>cases he
  case sa j t=>split at he<;>cases he
  case ap j i o=>split at he<;>cases he
 |fs ad s rows hx=>
  intro x hd he;cases x<;>simp only[Ue,reduceCtorEq]at he
  case fs=>injection he with e1 e2;subst e1 e2;exact .fs ad _ _ hx
  case ptr j o=>split at he<;>cases he
  case arr j=>split at he<;>cases he
  case sa j t=>split at he<;>cases he
  case ap j i o=>split at he<;>cases he
 |ex v=>
  intro x hd he;cases x<;>simp only[Ue,reduceCtorEq]at he
  case ex=>injection he with e1;subst e1;exact .ex _
  case ptr j o=>split at he<;>cases he
  case arr j=>split at he<;>cases he
  case sa j t=>split at he<;>cases he
  case ap j i o=>split at he<;>cases he
 |mpd v f hm=>
  intro x hd he;cases x<;>simp only[Ue,reduceCtorEq]at he
  case mpd=>injection he with e1;subst e1;exact .mpd v _ hm
  case ptr j o=>split at he<;>cases he
  case arr j=>split at he<;>cases he
  case sa j t=>split at he<;>cases he
  case ap j i o=>split at he<;>cases he
 |ptr l off b hb=>
  intro x hd he;cases x<;>simp only[Ue,reduceCtorEq]at he
  case ptr j o=>
   split at he
   ·rename_i l' aa;injection he with e1 e2
    subst e1 e2;exact .ptr j _ b ((hβ j _ aa).trans hb)
   ·cases he
  case arr j=>split at he<;>cases he
  case sa j t=>split at he<;>cases he
  case ap j i o=>split at he<;>cases he
 |sa v l t b hb hv=>
  intro x hd he;cases x<;>simp only[Ue,reduceCtorEq]at he
  case sa j t=>
   split at he
   ·rename_i l' aa;injection he with e1 e2
    subst e1 e2;exact .sa v j _ b ((hβ j _ aa).trans hb) hv
   ·cases he
  case ptr j o=>split at he<;>cases he
  case arr j=>split at he<;>cases he
  case ap j i o=>split at he<;>cases he
 |el ad row off c hs hc hr=>
  intro x hd he;cases x<;>simp only[Ue,reduceCtorEq]at he
  case el r o=>injection he with e1 e2;subst e1 e2;exact .el ad _ _ c hs hc hr
  case ptr j o=>split at he<;>cases he
  case arr j=>split at he<;>cases he
  case sa j t=>split at he<;>cases he
  case ap j i o=>split at he<;>cases he
 |arr0 l e s hb hk=>
  intro x hd he;cases x<;>simp only[Ue,reduceCtorEq]at he
  case arr j=>
   split at he
   ·rename_i l' aa;injection he with e1
    subst e1;exact .arr0 j e s ((hβ j _ aa).trans hb) ((hh j _ aa).2.1 _ _ _ hk)
   ·cases he
  case ptr j o=>split at he<;>cases he
  case sa j t=>split at he<;>cases he
  case ap j i o=>split at he<;>cases he
 |arr l b cap e s rows cs ty fz hb hk hw ao am an=>
  intro x hd he;cases x<;>simp only[Ue,reduceCtorEq]at he
  case arr j=>
   split at he
   ·rename_i l' aa;injection he with e1
    subst e1;exact .arr j b cap e s rows cs ty fz ((hβ j _ aa).trans hb) ((hh j _ aa).2.1 _ _ _ hk) hw ao am an
   ·cases he
  case ptr j o=>split at he<;>cases he
  case sa j t=>split at he<;>cases he
  case ap j i o=>split at he<;>cases he
 |mp l b t f hb hk=>
  intro x hd he;cases x<;>simp only[Ue,reduceCtorEq]at he
  case arr j=>
   split at he
   ·rename_i l' aa;injection he with e1
    subst e1;exact .mp j b t f ((hβ j _ aa).trans hb) ((hh j _ aa).2.2 _ _ hk)
   ·cases he
  case ptr j o=>split at he<;>cases he
  case sa j t=>split at he<;>cases he
  case ap j i o=>split at he<;>cases he
 |ap l i off b e s rows hb hk=>
  intro x hd he;cases x<;>simp only[Ue,reduceCtorEq]at he
  case ap j i' o=>
   split at he
   ·rename_i l' aa;injection he with e1 e2 e3
    subst e1 e2 e3;exact .ap j _ _ b e s rows ((hβ j _ aa).trans hb) ((hh j _ aa).2.1 _ _ _ hk)
   ·cases he
  case ptr j o=>split at he<;>cases he
  case arr j=>split at he<;>cases he
  case sa j t=>split at he<;>cases he
 |dang v av l hl hk h1=>
  intro x hd he;exfalso;cases x with
  |ptr j o=>simp only[Ue]at he;split at he<;>(subst he;simp[Pg]at hl)
  |sa j o=>simp only[Ue]at he;split at he<;>(subst he;simp[Pg]at hl)
  |arr j=>
   simp only[Ue]at he;split at he
   ·rename_i l' aa;subst he;simp[Pg]at hl;subst hl;have:=(hh j _ aa).1;rw[hk]at this;cases this
   ·subst he;simp[Pg]at hl
  |ap j i o=>
   simp only[Ue]at he;split at he
   ·rename_i l' aa;subst he;simp[Pg]at hl;subst hl;have:=(hh j _ aa).1;rw[hk]at this;cases this
   ·subst he;simp[Pg]at hl
  |_=>simp only[Ue]at he;subst he;simp[Pg]at hl
 |gdT v t b av ht hv ih=>
  intro x hd he;cases x<;>simp only[Ue,reduceCtorEq]at he
  case ptr j o=>split at he<;>cases he
  case arr j=>split at he<;>cases he
  case sa j t=>split at he<;>cases he
  case ap j i o=>split at he<;>cases he
 |gdF t b av ht=>
  intro x hd he;cases x<;>simp only[Ue,reduceCtorEq]at he
  case ptr j o=>split at he<;>cases he
  case arr j=>split at he<;>cases he
  case sa j t=>split at he<;>cases he
  case ap j i o=>split at he<;>cases he
end
def CLe(ρ:Y (Nat×Nat))(c c':AV):Prop:=(lf c'=true/\CP c c')\/(dm ρ c'=true/\c=Ue ρ c')
inductive CLeL(ρ:List (Nat×Nat)):List AV->List AV->Prop
 |nil:CLeL ρ [] []
 |cons {a b:AV} {l r:List AV} (h:CLe ρ a b) (t:CLeL ρ l r):CLeL ρ (a::l) (b::r)
theorem CLeL.length{ρ:Y (Nat×Nat)}{l r:Y AV}(h:CLeL ρ l r):l.length=r.length:=by induction h<;>simp[*]
theorem CLeL.at{ρ:Y (Nat×Nat)}{l r:Y AV}(h:CLeL ρ l r):∀(i:Nat) (x:AV),r[i]? = some x->∃y,l[i]? = some y/\CLe ρ y x:=by
 induction h with
 |nil=>simp_all
 |cons h0 _ ih=>
  grind
theorem Qcv{ρ:Y (Nat×Nat)}{ty:TypeId}{cs aa:Y AV}(hc:CLeL ρ cs aa)(h:Q5J ty cs):Q5J ty aa:=by
 intro i l t hi;obtain⟨y,hy,ac⟩:=hc.at i _ hi;rcases ac with⟨h1,_⟩|⟨h1,rfl⟩
 ·trivial
 ·obtain⟨l',ai⟩:=Qqk.1 h1;simp only[Ue,ai]at hy;exact h i l' t hy
inductive OLe(ρ:List (Nat×Nat)):Ob->Ob->Prop
 |box {cs cs':List AV} (h:CLeL ρ cs cs'):OLe ρ (.box cs) (.box cs')
 |arr (e s:Nat) (rows:List (List D)):OLe ρ (.arr e s rows) (.arr e s rows)
 |mp (t:Nat) (f:Int->Bool):OLe ρ (.mp t f) (.mp t f)
def Q31(o o':oP Ob):Prop:=
 (∃c c',o=some (.box c)/\o'=some (.box c')/\c'.length=c.length) \/
 (∃e s rows,o=some (.arr e s rows)/\(o'=none\/∃aa,o'=some (.arr e s aa)/\aa.length=rows.length)) \/
 ∃t f,o=some (.mp t f)/\(o'=none\/∃f',o'=some (.mp t f'))
structure ShapeEnd(σ ρ:List (Nat×Nat))(H:List (Nat×Ob))(av:AV)(H':List (Nat×Ob))(dl:Dl):Prop where
 v:Ue σ av=dl.v
 wr:L6 σ H' σ=dl.wr
 news:∀j l,(j,l)∈σ->(j,l) ∉ ρ->(look H' j).isSome=true
 old:∀j l,(j,l)∈ρ->Q31 (look H j) (look H' j)
theorem Eb {α : Type} {K : AV -> Y (Nat×Ob) -> oP α} {res : α} {f : Nat} {fn : Func} (hf : P.funcs[f]? = some fn) (hb : fn.body.isSome = true) (hn : (fn.name == "runtime.NumGoroutine") = false)
  {σ ρ:Y (Nat×Nat)} {avs avs':Y AV} {H:Y (Nat×Ob)} {hl:Nat->oP Ob} {dl:Dl}
  (hav:CLeL ρ avs avs')
  (hsub:∀p,p∈ρ->p∈σ) (h1:Xo (σ.map (·.1))=true) (h2:Xo (σ.map (·.2))=true) (hρ:Xo (ρ.map (·.1))=true)
  (hin:∀j l,(j,l)∈ρ->1000000<=j/\∃o o',hl l=some o/\look H j=some o'/\OLe ρ o o')
  (hinH:∀j,(look H j).isSome=true->∃l,(j,l)∈ρ)
  (hnew:∀j l,(j,l)∈σ->(j,l)∈ρ\/hl l=none)
  (hwl:wrL dl=σ.map (·.2))
  (h:∀(β:Nat->oP Nat) (S:Nat->Prop) (w:World) (vs:Y Value),Objs β S (look H) w->ArgsRd β S (look H) w vs avs'->Calls P f vs.toArray w (Ns H K res β S w)) (hK:∀av H',K av H'=some res->ShapeEnd σ ρ H av H' dl):Wa P f avs hl dl:=by
 refine⟨⟨fn,hf,hb,hn⟩,λβ S h' w args hO hA hag=>?_⟩;have hag:∀{j l:Nat},(j,l)∈σ->h' l=hl l:=λ{j l} hm=>hag l (.inr (by rw[hwl];exact Qqp.2 ⟨(j,l),hm,rfl⟩))
 have hlook:∀{j l:Nat},(j,l)∈ρ->look ρ j=some l:=λhm=>F8 hρ hm
 have hβc:∀{j l:Nat},(j,l)∈ρ->(look ρ j).bind β=β l:=λhm=>by rw[hlook hm];rfl
 have hlk2:∀{j j' l:Nat},(j,l)∈ρ->(j',l)∈ρ->j=j':=λa b=>by
  have:=HK h2 _ _ (hsub _ a) (hsub _ b) rfl;injection this
 have hsome':∀{j l:Nat},(j,l)∈ρ->(h' l).isSome=true:=λhm=>by
  obtain⟨_,o,o',g1,_⟩:=hin _ _ hm;rw[hag (hsub _ hm),g1];rfl
 have hun:∀{v:Value} {y x:AV},RdA β S h' w tm0 v y->CLe ρ y x->RdA (λj=>(look ρ j).bind β) S (look H) w tm0 v x:=by
  intro v y x hv hc;rcases hc with⟨c1,c2⟩|⟨c1,rfl⟩
  ·exact FU c1 (λ_ h=>h) (λ_ _=>rfl) (c2 _ _ _ _ _ _ hv)
  ·refine Qj6 (ρ:=ρ) (λj l hj=>by simp only[hj];rfl) (λj l hj=>⟨hsome' (Y6 hj),λe s rows hx=>?_,λt f hx=>?_⟩) hv x c1 rfl<;>
   ·obtain⟨_,o,o',g1,g2,g3⟩:=hin j l (Y6 hj);rw[hag (hsub _ (Y6 hj)),g1]at hx;injection hx with hx
    subst hx;cases g3;exact g2
 have hO0:Objs (λj=>(look ρ j).bind β) S (look H) w:=by
  refine⟨λj o ho=>?_,λj j' b s1 s2 b1 b2=>?_,λj b s1 b1=>?_,hO.sb⟩
  ·obtain⟨l,hm⟩:=hinH j (by simp[ho]);obtain⟨_,oo,o',g1,g2,g3⟩:=hin j l hm;rw[ho]at g2;injection g2 with g2
   subst g2;have hob:=hO.ob l _ ((hag (hsub _ hm)).trans g1);cases g3 with
   |box g3=>
    obtain⟨b,ty,c0,fz,e1,e2,e3,e4,e5⟩:=hob;refine⟨b,ty,c0,fz,(hβc hm).trans e1,e2,⟨e3.1,Qcv g3 e3.2⟩,e4.trans g3.length,λi x hx=>?_⟩;obtain⟨y,y1,y2⟩:=g3.at i x hx;exact hun (e5 i y y1) y2
   |arr e s rows=>
    rcases hob with⟨e1,e2⟩|⟨b,cs,e1,e2,e3,e4,e5⟩
    ·exact .inl ⟨(hβc hm).trans e1,e2⟩
    ·exact .inr ⟨b,cs,(hβc hm).trans e1,e2,e3,e4,e5⟩
   |mp t f=>
    obtain⟨b,e1,e2⟩:=hob;exact⟨b,(hβc hm).trans e1,e2⟩
  ·obtain⟨l,hm⟩:=hinH j s1;obtain⟨l',hm'⟩:=hinH j' s2;have:=hO.inj l l' b (hsome' hm) (hsome' hm') (by rw[<- hβc hm];exact b1) (by rw[<- hβc hm'];exact b2);subst this;exact hlk2 hm hm'
  ·obtain⟨l,hm⟩:=hinH j s1;exact hO.apart l b (hsome' hm) (by rw[<- hβc hm];exact b1)
 have hA0:ArgsRd (λj=>(look ρ j).bind β) S (look H) w args avs':=by
  refine⟨by rw[hA.1,hav.length],λi v av g1 g2=>?_⟩;obtain⟨y,y1,y2⟩:=hav.at i av g2;exact hun (hA.2 i v y g1 y1) y2
 refine(h _ _ _ _ hO0 hA0).mono λe w' ⟨v,av,H',β',S',he,hk,hrd,_,hr⟩=>?_
 obtain⟨q1,q2,q3,q4⟩:=hK av H' hk;have hinv:∀{j l:Nat},(j,l)∈σ->inv σ l=some j:=λhm=>Q4A h2 hm
 let βo:Nat->oP Nat:=λl=>match inv σ l with | some j=>β' j | none=>β l
 have hβo:∀j l,(j,l)∈σ->βo l=β' j:=λj l hm=>by simp only[βo,hinv hm]
 have hset:∀j l,(j,l)∈σ->Hc h' dl.wr l=(look H' j).map (Qd1 σ):=λj l hm=>by rw[<- q2];exact Lz σ H' σ h' h2 j l hm
 have hmem:∀{l:Nat},l∈wrL dl->∃j,(j,l)∈σ:=λhm=>by
  rw[hwl]at hm;obtain⟨⟨j,l'⟩,m1,m2⟩:=Qqp.1 hm;simp only at m2;subst m2;exact⟨j,m1⟩
 have hpin:∀{j l:Nat},(j,l)∈ρ->β' j=β l:=λhm=>(hr.pin _ (hin _ _ hm).1).trans (hβc hm)
 have hren:∀{v:Value} {x:AV},RdA β' S' (look H') w' tm0 v x->RdA βo S' (Hc h' dl.wr) w' tm0 v (Ue σ x):=λhx=>
  Q7m hβo (λj l o hm ho=>by rw[hset j l hm,ho];rfl) (λj l hm ho=>by rw[hset j l hm,ho];rfl) hx
 have hwmem:∀{j l:Nat},(j,l)∈σ->l∈wrL dl:=λ{j l} hm=>by rw[hwl];exact Qqp.2 ⟨(j,l),hm,rfl⟩
 have hMw:∀b,(∃j,(look H j).isSome=true/\(look ρ j).bind β=some b)->∃l,l∈wrL dl/\(h' l).isSome=true/\β l=some b:=by
  intro b ⟨j,s1,s2⟩;obtain⟨l,hm⟩:=hinH j s1;exact⟨l,hwmem (hsub _ hm),hsome' hm,by rw[<- hβc hm];exact s2⟩
 have hw0:∀{b:Nat},(∃j,(look H j).isSome=true/\(look ρ j).bind β=some b)\/w.heap.size<=b->w.heap.size<=b\/∃l0,l0∈wrL dl/\(h' l0).isSome=true/\β l0=some b:=by
  intro b hx;rcases hx with hx | hx
  ·exact .inr (hMw b hx)
  ·exact .inl hx
 refine⟨v,βo,S',he,⟨hr.s0,λb hS=>?_,hr.sb,hr.fr.mono λb _ hM=>hMw b hM,λl hno=>?_,λl o hm ho=>?_,λl hm hs=>?_,λl b hm hs hb'=>?_,λl l' b hm hm' hs hs' hb' hb''=>?_,λl hm hno hno'=>?_,?_,λt=>by rw[<- q1];exact Q2u σ t av⟩⟩
 ·rcases hr.sfr b hS with g | g | g
  ·exact .inl g
  ·exact .inr (.inr (hMw b g))
  ·exact .inr (.inl g)
 ·have:inv σ l=none:=Q7J (by rw[<- hwl];exact hno);simp only[βo,this]
 ·obtain⟨j,hj⟩:=hmem hm;rw[hset j l hj,Qq5]at ho;obtain⟨o',ho',rfl⟩:=ho;have hob:=hr.ob j o' ho';cases o' with
  |box cells=>
   obtain⟨b,ty,cs,fz,g1,g2,g3,g4,g5⟩:=hob;refine⟨b,ty,cs,fz,(hβo j l hj).trans g1,g2,⟨g3.1,Q1W g3.2⟩,by rw[g4,Zc],λi x hx=>?_⟩;rw[VU,Qq5]at hx;obtain⟨y,hy,rfl⟩:=hx;exact hren (g5 i y hy)
  |arr e s rows=>
   rcases hob with⟨g1,g2⟩|⟨b,cs,g1,g2,g3,g4,g5⟩
   ·exact .inl ⟨(hβo j l hj).trans g1,g2⟩
   ·exact .inr ⟨b,cs,(hβo j l hj).trans g1,g2,g3,g4,g5⟩
  |mp t f=>
   obtain⟨b,g1,g2⟩:=hob;exact⟨b,(hβo j l hj).trans g1,g2⟩
 ·obtain⟨j,hj⟩:=hmem hm;rcases hnew j l hj with hp | hno
  ·obtain⟨hj6,o,o',e1,e2,e3⟩:=hin j l hp;have hh:h' l=some o:=(hag hj).trans e1;have hcells:∀b cs ty fz,(Hc h' dl.wr l).isSome=true->β l=some b->w.heap[b]? = some (.cells cs ty fz)->∃cs' ty' fz',w'.heap[b]? = some (.cells cs' ty' fz')/\cs'.size=cs.size:=by
    intro b cs ty fz hs' hb' hw;have hs2:(look H' j).isSome=true:=by
     rw[hset j l hj]at hs';cases hx:look H' j with
     |none=>rw[hx]at hs';cases hs'
     |some o=>rfl
    exact hr.psz j b hj6 hs2 ((hpin hp).trans hb') cs ty fz hw
   rcases q4 j l hp with⟨c,c',g1,g2,g3⟩|⟨e,s,rows,g1,g2⟩|⟨t,f,g1,g2⟩
   ·rw[g1]at e2;injection e2 with e2
    subst e2;cases e3 with
    |box e3=>exact⟨(hβo j l hj).trans (hpin hp),λhx=>(by rw[hh]at hx;cases hx),λe s rows hx=>(by rw[hh]at hx;cases hx),hcells,λt f hx=>(by rw[hh]at hx;cases hx)⟩
   ·rw[g1]at e2;injection e2 with e2
    subst e2;cases e3 with
    |arr=>
     refine⟨(hβo j l hj).trans (hpin hp),λhx=>(by rw[hh]at hx;cases hx),λe' s' rows2 hx=>?_,hcells,λt f hx=>(by rw[hh]at hx;cases hx)⟩;rw[hh]at hx;injection hx with hx
     injection hx with x1 x2 x3
     subst x1 x2 x3;rcases g2 with g2 | ⟨rows',g2,g3⟩
     ·left;rw[hset j l hj,g2];rfl
     ·right;exact⟨rows',by rw[hset j l hj,g2];rfl,g3⟩
   ·rw[g1]at e2;injection e2 with e2
    subst e2;cases e3 with
    |mp=>
     refine⟨(hβo j l hj).trans (hpin hp),λhx=>(by rw[hh]at hx;cases hx),λe' s' rows2 hx=>(by rw[hh]at hx;cases hx),hcells,λt' f2 hx=>?_⟩;rw[hh]at hx;injection hx with hx
     injection hx with x1 x2
     subst x1 x2;rcases g2 with g2 | ⟨f',g2⟩
     ·left;rw[hset j l hj,g2];rfl
     ·right;exact⟨f',by rw[hset j l hj,g2];rfl⟩
  ·rw[hag hj,hno]at hs;cases hs
 ·obtain⟨j,hj⟩:=hmem hm;rw[hβo j l hj]at hb';have hs2:(look H' j).isSome=true:=by
   rw[hset j l hj]at hs;cases hx:look H' j with
   |none=>rw[hx]at hs;cases hs
   |some o=>rfl
  exact⟨hw0 (hr.own j b hs2 hb'),hr.apart j b hs2 hb'⟩
 ·obtain⟨j,hj⟩:=hmem hm;obtain⟨j',hj'⟩:=hmem hm';rw[hβo j l hj]at hb';rw[hβo j' l' hj']at hb'';have hs2:∀{j l:Nat},(j,l)∈σ->(Hc h' dl.wr l).isSome=true->(look H' j).isSome=true:=by
   intro j l hj hs;rw[hset j l hj]at hs;cases hx:look H' j with
   |none=>rw[hx]at hs;cases hs
   |some o=>rfl
  have:=hr.inj j j' b (hs2 hj hs) (hs2 hj' hs') hb' hb'';subst this;have:=HK h1 _ _ hj hj' rfl;injection this
 ·obtain⟨j,hj⟩:=hmem hm;by_cases hp:(j,l)∈ρ
  ·have:=hsome' hp;rw[hno]at this;cases this
  ·have:=q3 j l hj hp;rw[hset j l hj]at hno';cases hx:look H' j with
   |none=>rw[hx]at this;cases this
   |some o=>rw[hx]at hno';cases hno'
 ·rw[<- q1];exact hren hrd
theorem Qdj {α : Type} {K : AV -> Y (Nat×Ob) -> oP α} {res : α} {C : VC} (hC : VCOk P C) {n f : Nat} {fn : Func} (hf : P.funcs[f]? = some fn) (hb : fn.body.isSome = true) (hn : (fn.name == "runtime.NumGoroutine") = false)
  {σ ρ:Y (Nat×Nat)} {avs avs':Y AV} {H:Y (Nat×Ob)} {hl:Nat->oP Ob} {dl:Dl}
  (hav:CLeL ρ avs avs')
  (hsub:∀p,p∈ρ->p∈σ) (h1:Xo (σ.map (·.1))=true) (h2:Xo (σ.map (·.2))=true) (hρ:Xo (ρ.map (·.1))=true)
  (hin:∀j l,(j,l)∈ρ->1000000<=j/\∃o o',hl l=some o/\look H j=some o'/\OLe ρ o o')
  (hinH:∀j,(look H j).isSome=true->∃l,(j,l)∈ρ)
  (hnew:∀j l,(j,l)∈σ->(j,l)∈ρ\/hl l=none)
  (hwl:wrL dl=σ.map (·.2))
  (h:vfn C n fn avs' H K=some res) (hK:∀av H',K av H'=some res->ShapeEnd σ ρ H av H' dl):Wa P f avs hl dl:=
 Eb hf hb hn hav hsub h1 h2 hρ hin hinH hnew hwl (λ_ _ _ _ hO hA=>BG hC hf h hO hA) hK
end
section
variable{P:Program} {R:Type}
theorem CLe.data{ρ:Y (Nat×Nat)}{c c':AV}(hl:lf c'=true)(h:CP c c'):CLe ρ c c':=.inl ⟨hl,h⟩
theorem CLe.own{ρ:Y (Nat×Nat)}{c c':AV}(hd:dm ρ c'=true)(h:c=Ue ρ c'):CLe ρ c c':=.inr ⟨hd,h⟩
def QgR(ρ0:Y (Nat×Nat))(hl:Nat->oP Ob)(H:Y (Nat×Ob)):Y (Nat×Nat)->Prop
 |[]=>True
 |(j,l)::r=>(1000000<=j/\∃o o',hl l=some o/\look H j=some o'/\OLe ρ0 o o')/\QgR ρ0 hl H r
def Qh6(H H':Y (Nat×Ob)):Y (Nat×Nat)->Prop
 |[]=>True
 |(j,_)::r=>Q31 (look H j) (look H' j)/\Qh6 H H' r
theorem Qa8{ρ0:Y (Nat×Nat)}{hl:Nat->oP Ob}{H:Y (Nat×Ob)}:∀{ρ:Y (Nat×Nat)},QgR ρ0 hl H ρ->∀j l,(j,l)∈ρ->1000000<=j/\∃o o',hl l=some o/\look H j=some o'/\OLe ρ0 o o'
 |(a,b)::r,h,j,l,hm=>by
  rcases Qqb.1 hm with hm | hm
  ·injection hm with h1 h2;subst h1 h2;exact h.1
  ·exact Qa8 h.2 j l hm
theorem Q9H{H H':Y (Nat×Ob)}:∀{ρ:Y (Nat×Nat)},Qh6 H H' ρ->∀j l,(j,l)∈ρ->Q31 (look H j) (look H' j)
 |(a,b)::r,h,j,l,hm=>by
  rcases Qqb.1 hm with hm | hm
  ·injection hm with h1 h2;subst h1 h2;exact h.1
  ·exact Q9H h.2 j l hm
theorem Qb4{o o':oP Ob}{c c':Y AV}(h1:o=some (.box c))(h2:o'=some (.box c'))(h3:c'.length=c.length):Q31 o o':=.inl ⟨c,c',h1,h2,h3⟩
theorem Q8u{o o':oP Ob}{e s:Nat}{rows:Y (Y D)}(h1:o=some (.arr e s rows))(h2:o'=none):Q31 o o':=.inr (.inl ⟨e,s,rows,h1,.inl h2⟩)
theorem Q8i{o o':oP Ob}{e s:Nat}{rows aa:Y (Y D)}(h1:o=some (.arr e s rows))(h2:o'=some (.arr e s aa))(h3:aa.length=rows.length):Q31 o o':=.inr (.inl ⟨e,s,rows,h1,.inr ⟨aa,h2,h3⟩⟩)
theorem Qa7{o o':oP Ob}{t:Nat}{f f':Int->Bool}(h1:o=some (.mp t f))(h2:o'=some (.mp t f')):Q31 o o':=.inr (.inr ⟨t,f,h1,.inr ⟨f',h2⟩⟩)
theorem Q5S{o o':oP Ob}{t:Nat}{f:Int->Bool}(h1:o=some (.mp t f))(h2:o'=none):Q31 o o':=.inr (.inr ⟨t,f,h1,.inl h2⟩)
theorem Qal{f:Nat}{aa:Y AV}{hl:Nat->oP Ob}{dl:Dl}{g:Bool}{k:Dl->oP R}{r:R}(h:(bif g then none else k dl)=some r):∃dl,k dl=some r/\(g=true->Wa P f aa hl dl):=by
 grind
theorem Q1R {α : Type} {K : AV -> Y (Nat×Ob) -> oP α} {res : α} {f : Nat} {fn : Func} (hf : P.funcs[f]? = some fn) (hb : fn.body.isSome = true) (hn : (fn.name == "runtime.NumGoroutine") = false)
  {ρ ν:Y (Nat×Nat)} {avs avs':Y AV} {H:Y (Nat×Ob)} {hl:Nat->oP Ob} {dl:Dl}
  (hav:CLeL ρ avs avs') (h1:Xo ((ρ++ν).map (·.1))=true) (hρ:Xo (ρ.map (·.1))=true)
  (hc:Nq hl ρ ν=true) (hin:QgR ρ hl H ρ) (hkeys:H.map (·.1)=ρ.map (·.1)) (hwl:wrL dl=(ρ++ν).map (·.2))
  (h:∀(β:Nat->oP Nat) (S:Nat->Prop) (w:World) (vs:Y Value),Objs β S (look H) w->ArgsRd β S (look H) w vs avs'->Calls P f vs.toArray w (Ns H K res β S w))
  (hK:∀av H',K av H'=some res->Ue (ρ++ν) av=dl.v/\L6 (ρ++ν) H' (ρ++ν)=dl.wr/\Qd8 H' ν/\Qh6 H H' ρ):Wa P f avs hl dl:=by
 simp only[Nq,Qq4]at hc;refine Eb hf hb hn hav (λp hp=>List.mem_append_left _ hp) h1 hc.1 hρ (Qa8 hin) (Q2x hkeys) (λj l hm=>?_) hwl h λav H' hk=>?_
 ·grind[Q6X]
 ·obtain⟨q1,q2,q3,q4⟩:=hK av H' hk;refine⟨q1,q2,λj l hm hno=>?_,Q9H q4⟩
  grind[absurd,Q5M]
end
abbrev Nm:=(R:Type)->St->(Exit->St->oP R)->oP R
section
variable{P:Program} {E:Env} {R:Type}
def Qcq(P:Program)(c:Code)(F:Nm):Prop:=
 ∀(E:Env) (R:Type) (st:St) (k:Exit->St->oP R) (r:R),F R st k=some r->∀a w,JQ E st a w->(Code.loop c).wp P (Em E k r) a w
structure LpE(P:Program) where
 r:Nat
 c:Code
 L:Nm
 t:St->Bool
 ok:Qcq P c L
def Q8O:Y (LpE P)->Nat->oP Nm
 |[],_=>none
 |e::t,r=>bif Nat.beq e.r r then some e.L else Q8O t r
def Q8y(C:VC)(T:Y (LpE P)):Code->St->(Exit->St->oP R)->oP R
 |.skip,st,k=>k .normal st
 |.region id ops aa,st,k=>Q1V C id ops aa st (k .normal)
 |.seq a b,st,k=>Q8y C T a st λe st'=>match e with
  |.normal=>Q8y C T b st' k
  |.exit id=>k (.exit id) st'
  |.ret=>k .ret st'
  |_=>none
 |.cond c a b,st,k=>match evO st.tm c with
  |.d (.bool e)=>bif e then Q8y C T a st k else Q8y C T b st k
  |_=>none
 |.block id c,st,k=>Q8y C T c st λe st'=>match e with
  |.normal=>k .normal st'
  |.exit j=>bif Nat.beq j id then k .normal st' else k (.exit j) st'
  |.ret=>k .ret st'
  |_=>none
 |.loop c,st,k=>match Q8O T (Q9I c)with
  |some L=>L R st k
  |none=>none
 |.exit id,st,k=>k (.exit id) st
 |.ret,st,k=>k .ret st
 |_,_,_=>none
def WW:Code->Y (Nat×Code)
 |.seq a b=>WW a++WW b
 |.cond _ a b=>WW a++WW b
 |.block _ c=>WW c
 |.loop c=>[(Q9I c,c)]
 |_=>[]
def QgD(T:Y (LpE P))(ds:Y (Nat×Code)):Prop:=∀r c,(r,c)∈ds->∀L,Q8O T r=some L->Qcq P c L
def Mr(T:Y (LpE P))(ds:Y (Nat×Code)):Y (Nat×Code):=ds.filter λd=>Sa d.1 (T.map (·.r))
theorem QaB{T:Y (LpE P)}{r:Nat}{L:Nm}(h:Q8O T r=some L):Sa r (T.map (·.r))=true:=by
 induction T with
 |nil=>cases h
 |cons e t ih=>
  grind[Q8O,Nat.beq,Nat.eq_of_beq_eq_true,Sa,Nat.beq_refl]
theorem Bv{T:Y (LpE P)}{ds:Y (Nat×Code)}(hn:Xo (T.map (·.r))=true)(h:Mr T ds=T.map λe=>(e.r,e.c)):QgD T ds:=by
 intro r c hm L hL;have hm:(r,c)∈T.map λe=>(e.r,e.c):=by
  rw[<- h];exact List.mem_filter.2 ⟨hm,QaB hL⟩
 clear h;induction T with
 |nil=>cases hm
 |cons e t ih=>
  simp only[Qqh,Xo,Qq4,Qqc]at hn;simp only[Qqh,Qqb]at hm;simp only[Q8O]at hL;rcases hm with hm | hm
  ·injection hm with h1 h2
   subst h1 h2;simp only[Nat.beq_refl,Qq8,Option.some.injEq]at hL;subst hL;exact e.ok
  ·cases hb:Nat.beq e.r r with
   |true=>
    have:=Qq3 hb;subst this;have ac:Sa e.r (t.map (·.r))=true:=by
     have:∀(l:Y (LpE P)),(e.r,c)∈l.map (λx=>(x.r,x.c))->Sa e.r (l.map (·.r))=true:=by
      intro l;induction l with
      |nil=>simp_all
      |cons x xs ai=>
       intro h;simp only[Qqh,Qqb]at h
       grind[Sa,Nat.beq_refl]
     simp_all
    simp_all
   |false=>
    simp_all
theorem MP{C:VC}(hC:VCOk P C){T:Y (LpE P)}:∀(c:Code),QgD T (WW c)->∀(st:St) (k:Exit->St->oP R) (r:R),Q8y C T c st k=some r->∀a w,JQ E st a w->c.wp P (Em E k r) a w:=by
 intro c;induction c with
 |skip=>intro _ st k r h a w hR;exact wp_skip ⟨st,hR,h⟩
 |region id ops an=>
  intro _ st k r h a w hR;exact FF hC h hR λst' a' w' aa hk=>⟨st',aa,hk⟩
 |seq x y ak ai=>
  intro hT st k r h a w hR;refine wp_seq (wp_mono (ak (λr c hm=>hT r c (List.mem_append_left _ hm)) st _ r h a w hR) λe a' w' hp=>?_);obtain⟨st',aa,hk⟩:=hp;cases e with
  |normal=>exact ai (λr c hm=>hT r c (List.mem_append_right _ hm)) st' k r hk a' w' aa
  |exit id=>exact⟨st',aa,hk⟩
  |ret=>exact⟨st',aa,hk⟩
  |_=>cases hk
 |cond c x y ak ai=>
  intro hT st k r h a w hR;simp only[Q8y]at h;split at h
  ·rename_i e he;obtain⟨β,S,aj⟩:=hR;have hv:=(he▸Q5i aj c).bool_inv;refine wp_cond hv ?_;cases e with
   |true=>exact ak (λr c hm=>hT r c (List.mem_append_left _ hm)) st k r (by simpa using h) a w ⟨β,S,aj⟩
   |false=>exact ai (λr c hm=>hT r c (List.mem_append_right _ hm)) st k r (by simpa using h) a w ⟨β,S,aj⟩
  ·cases h
 |block id c ih=>
  intro hT st k r h a w hR;refine wp_block (wp_mono (ih hT st _ r h a w hR) λe a' w' hp=>?_);obtain⟨st',aa,hk⟩:=hp;cases e with
  |normal=>exact⟨st',aa,hk⟩
  |exit j=>
   cases hb:Nat.beq j id with
   |true=>
    simp only[hb,Qq8]at hk;have:=Qq3 hb;simp only[Exit.inBlock,this,if_true];exact⟨st',aa,hk⟩
   |false=>
    simp only[hb,Qql]at hk;have am:¬ j=id:=λe=>by simp_all
    simp only[Exit.inBlock,am,if_false];exact⟨st',aa,hk⟩
  |ret=>exact⟨st',aa,hk⟩
  |_=>cases hk
 |loop c ih=>
  intro hT st k r h a w hR;simp only[Q8y]at h;split at h
  ·rename_i L hL;exact hT _ c (by simp[WW]) L hL E _ st k r h a w hR
  ·cases h
 |exit id=>intro _ st k r h a w hR;exact wp_exit ⟨st,hR,h⟩
 |ret=>intro _ st k r h a w hR;exact wp_ret ⟨st,hR,h⟩
 |_=>grind[Q8y]
def lpK(F:Nm)(k:Exit->St->oP R):Exit->St->oP R:=λe st=>match e with
 |.normal=>F R st k
 |.exit id=>k (.exit id) st
 |.ret=>k .ret st
 |_=>none
theorem Q4M{c:Code}(F:Nat->Nm)(h0:∀(R:Type) st (k:Exit->St->oP R),F 0 R st k=none)(hs:∀(m:Nat) (E:Env) (R:Type) st (k:Exit->St->oP R) r,F (m+1) R st k=some r->∀a w,JQ E st a w->c.wp P (Em E (lpK (F m) k) r) a w) :
  ∀(m:Nat) (E:Env) (R:Type) (st:St) (k:Exit->St->oP R) (r:R),F m R st k=some r->∀a w,JQ E st a w->Code.rounds P c (Em E k r) m a w
 |0,E,R,st,k,r,h=>by rw[h0]at h;cases h
 |m+1,E,R,st,k,r,h=>by
  intro a w hR;rw[rounds_succ];refine wp_mono (hs m E R st k r h a w hR) λe a' w' ⟨st',aa,hk⟩=>?_
  cases e with
  |normal=>exact Q4M F h0 hs m E R st' k r hk a' w' aa
  |exit id=>exact⟨st',aa,hk⟩
  |ret=>exact⟨st',aa,hk⟩
  |_=>cases hk
end
inductive LT where
 |I | B | T | L | R | D | N | M | P
abbrev yI:LT:=.I
abbrev yB:LT:=.B
abbrev yT:LT:=.T
abbrev yL:LT:=.L
abbrev yR:LT:=.R
abbrev yD:LT:=.D
abbrev yN:LT:=.N
abbrev yM:LT:=.M
abbrev yP:LT:=.P
inductive Lf where
 |I (x:Int)
 |B (x:Bool)
 |T (x:List UInt8)
 |L (x:List (List D))
 |R (x:List D)
 |D (x:Vx.D)
 |N (x:Nat)
 |M (x:Int->List (List Vx.D))
 |P (x:Int->Bool)
def LT.ty:LT->Type
 |.I=>Int
 |.B=>Bool
 |.T=>Y UInt8
 |.L=>Y (Y Vx.D)
 |.R=>Y Vx.D
 |.D=>Vx.D
 |.N=>Nat
 |.M=>Int->Y (Y Vx.D)
 |.P=>Int->Bool
def HL:Y LT->Type
 |[]=>Unit
 |t::ts=>t.ty×HL ts
def LF:Y LT->Type->Type
 |[],α=>α
 |t::ts,α=>t.ty->LF ts α
def QbD:(t:LT)->t.ty->Lf
 |.I,x=>.I x
 |.B,x=>.B x
 |.T,x=>.T x
 |.L,x=>.L x
 |.R,x=>.R x
 |.D,x=>.D x
 |.N,x=>.N x
 |.M,x=>.M x
 |.P,x=>.P x
def toL:(ts:Y LT)->HL ts->Y Lf
 |[],_=>[]
 |t::ts,v=>QbD t v.1::toL ts v.2
def apH{α:Type}:(ts:Y LT)->LF ts α->HL ts->α
 |[],f,_=>f
 |_::ts,f,v=>apH ts (f v.1) v.2
def Q94:(t:LT)->Lf->oP t.ty
 |.I,.I x=>some x
 |.B,.B x=>some x
 |.T,.T x=>some x
 |.L,.L x=>some x
 |.R,.R x=>some x
 |.D,.D x=>some x
 |.N,.N x=>some x
 |.M,.M x=>some x
 |.P,.P x=>some x
 |_,_=>none
def apL{α:Type}:(ts:Y LT)->LF ts (oP α)->Y Lf->oP α
 |[],f,l=>match l with
  |[]=>f
  |_::_=>none
 |t::ts,f,l=>match l with
  |[]=>none
  |x::r=>match Q94 t x with
   |some v=>apL ts (f v) r
   |none=>none
theorem NT{t:LT}{x:Lf}{v:t.ty}(h:Q94 t x=some v):x=QbD t v:=by
 cases t<;>cases x<;>first | (injection h with h;subst h;rfl) | cases h
theorem MN{α:Type}(ts:Y LT):∀(f:LF ts (oP α)) (l:Y Lf) (r:α),apL ts f l=some r->∃v:HL ts,apH ts f v=some r/\l=toL ts v:=by
 induction ts with
 |nil=>
  intro f l r h;cases l with
  |nil=>exact⟨(),h,rfl⟩
  |cons x l=>cases h
 |cons t ts ih=>
  intro f l r h;cases l with
  |nil=>cases h
  |cons x l=>
   replace h:(match Q94 t x with | some v=>apL ts (f v) l | none=>none)=some r:=h
   split at h
   ·rename_i v hv;obtain⟨u,h1,h2⟩:=ih (f v) l r h;exact⟨(v,u),h1,by rw[NT hv,h2];rfl⟩
   ·cases h
inductive TA where
 |top | nil
 |i (k:IntKind) | b | t | l (s:Nat) | x
 |ci (k:IntKind) (n:Int) | cb (v:Bool) | ct (s:List UInt8) | cl (s:Nat)
 |ag (l:List TA) | tup (l:List TA) | fn (f:Nat) (l:List TA)
 |ptr (l off:Nat) | arr (l:Nat) | sa (l t:Nat)
 |el (off:Nat) | ap (l off:Nat) | ac (l i off:Nat)
 |fs (s:Nat) | mpd
 |gd (t:Nat) (w:Bool) (a:TA)
def H8:Y UInt8->Y UInt8->Bool
 |[],[]=>true
 |a::r,b::s=>Nat.beq a.toNat b.toNat&&H8 r s
 |_,_=>false
theorem Jj:∀{a b:Y UInt8},H8 a b=true->a=b
 |[],[],_=>rfl
 |x::r,y::s,h=>by
  simp only[H8,Qq4]at h;rw[UInt8.toNat_inj.1 (Qq3 h.1),Jj h.2]
 |[],_::_,h=>by simp[H8]at h
 |_::_,[],h=>by simp[H8]at h
def oB{α:Type}(c:Bool)(x:α):oP α:=bif c then some x else none
theorem VT{α:Type}{c:Bool}{x y:α}(h:oB c x=some y):c=true/\x=y:=by
 cases c with
 |true=>injection h with h;simp_all
 |false=>cases h
mutual
def rdT:TA->AV->Y Lf->oP (Y Lf)
 |.top,.top,acc=>some acc
 |.nil,.nil,acc=>some acc
 |.i k,.d (.int k' n),acc=>oB (k == k') (.I n::acc)
 |.b,.d (.bool v),acc=>some (.B v::acc)
 |.t,.d (.str s),acc=>some (.T s::acc)
 |.l s,.d (.sl s' r),acc=>oB (Nat.beq s s') (.L r::acc)
 |.x,.d d,acc=>some (.D d::acc)
 |.ci k n,.d (.int k' n'),acc=>oB (k == k'&&decide (n=n')) acc
 |.cb v,.d (.bool v'),acc=>oB (v == v') acc
 |.ct s,.d (.str s'),acc=>oB (H8 s s') acc
 |.cl s,.d (.sl s' []),acc=>oB (Nat.beq s s') acc
 |.ag l,.ag l',acc=>QbA l l' acc
 |.tup l,.tup l',acc=>QbA l l' acc
 |.fn f l,.fn f' l',acc=>bif Nat.beq f f' then QbA l l' acc else none
 |.ptr l o,.ptr l' o',acc=>oB (Nat.beq l l'&&Nat.beq o o') acc
 |.arr l,.arr l',acc=>oB (Nat.beq l l') acc
 |.sa l o,.sa l' o',acc=>oB (Nat.beq l l'&&Nat.beq o o') acc
 |.el o,.el r o',acc=>oB (Nat.beq o o') (.R r::acc)
 |.ap l o,.ap l' i o',acc=>oB (Nat.beq l l'&&Nat.beq o o') (.N i::acc)
 |.ac l i o,.ap l' i' o',acc=>oB (Nat.beq l l'&&Nat.beq i i'&&Nat.beq o o') acc
 |.fs s,.fs s' r,acc=>oB (Nat.beq s s') (.L r::acc)
 |.mpd,.mpd f,acc=>some (.M f::acc)
 |.gd t w a,.gd t' w' a',acc=>bif Nat.beq t t'&&(w == w')then rdT a a' acc else none
 |_,_,_=>none
def QbA:Y TA->Y AV->Y Lf->oP (Y Lf)
 |[],[],acc=>some acc
 |a::r,a'::r',acc=>match QbA r r' acc with
  |some aa=>rdT a a' aa
  |none=>none
 |_,_,_=>none
end
mutual
def fiT:TA->Y Lf->AV×Y Lf
 |.i k,.I n::r=>(.d (.int k n),r)
 |.b,.B v::r=>(.d (.bool v),r)
 |.t,.T s::r=>(.d (.str s),r)
 |.l s,.L x::r=>(.d (.sl s x),r)
 |.x,.D d::r=>(.d d,r)
 |.ci k n,r=>(.d (.int k n),r)
 |.cb v,r=>(.d (.bool v),r)
 |.ct s,r=>(.d (.str s),r)
 |.cl s,r=>(.d (.sl s []),r)
 |.ag l,r=>(.ag (Q8E l r).1,(Q8E l r).2)
 |.tup l,r=>(.tup (Q8E l r).1,(Q8E l r).2)
 |.fn f l,r=>(.fn f (Q8E l r).1,(Q8E l r).2)
 |.ptr l o,r=>(.ptr l o,r)
 |.arr l,r=>(.arr l,r)
 |.sa l o,r=>(.sa l o,r)
 |.el o,.R x::r=>(.el x o,r)
 |.ap l o,.N i::r=>(.ap l i o,r)
 |.ac l i o,r=>(.ap l i o,r)
 |.fs s,.L x::r=>(.fs s x,r)
 |.mpd,.M f::r=>(.mpd f,r)
 |.gd t w a,r=>(.gd t w (fiT a r).1,(fiT a r).2)
 |.nil,r=>(.nil,r)
 |_,r=>(.top,r)
def Q8E:Y TA->Y Lf->Y AV×Y Lf
 |[],r=>([],r)
 |a::l,r=>((fiT a r).1::(Q8E l (fiT a r).2).1,(Q8E l (fiT a r).2).2)
end
mutual
theorem Q2o:∀(ta:TA) (a:AV) (acc ls:Y Lf),rdT ta a acc=some ls->fiT ta ls=(a,acc):=by
 intro ta a acc ls h;cases ta<;>cases a<;>try (simp only[rdT,reduceCtorEq]at h;done)
 case top.top=>simp only[rdT,Option.some.injEq]at h;subst h;simp[fiT]
 case nil.nil=>simp only[rdT,Option.some.injEq]at h;subst h;simp[fiT]
 case i.d k d=>
  cases d<;>try (simp only[rdT,reduceCtorEq]at h;done)
  simp only[rdT]at h;obtain⟨h1,rfl⟩:=VT h;rw[<- eq_of_beq h1];rfl
 case b.d d=>
  cases d<;>try (simp only[rdT,reduceCtorEq]at h;done)
  simp only[rdT,Option.some.injEq]at h;subst h;rfl
 case t.d d=>
  cases d<;>try (simp only[rdT,reduceCtorEq]at h;done)
  simp only[rdT,Option.some.injEq]at h;subst h;rfl
 case l.d s d=>
  cases d<;>try (simp only[rdT,reduceCtorEq]at h;done)
  simp only[rdT]at h;obtain⟨h1,rfl⟩:=VT h;rw[<- Qq3 h1];rfl
 case x.d d=>simp only[rdT,Option.some.injEq]at h;subst h;rfl
 case ci.d k n d=>
  cases d<;>try (simp only[rdT,reduceCtorEq]at h;done)
  simp only[rdT]at h;obtain⟨h1,rfl⟩:=VT h;simp only[Qq4,decide_eq_true_eq]at h1;rw[<- eq_of_beq h1.1,<- h1.2];simp[fiT]
 case cb.d v d=>
  cases d<;>try (simp only[rdT,reduceCtorEq]at h;done)
  simp only[rdT]at h;obtain⟨h1,rfl⟩:=VT h;rw[<- eq_of_beq h1];simp[fiT]
 case ct.d s d=>
  cases d<;>try (simp only[rdT,reduceCtorEq]at h;done)
  simp only[rdT]at h;obtain⟨h1,rfl⟩:=VT h;rw[<- Jj h1];simp[fiT]
 case cl.d s d=>
  cases d<;>try (simp only[rdT,reduceCtorEq]at h;done)
  rename_i s' rows;cases rows<;>try (simp only[rdT,reduceCtorEq]at h;done)
  simp only[rdT]at h;obtain⟨h1,rfl⟩:=VT h;rw[<- Qq3 h1];simp[fiT]
 case ag.ag l l'=>simp only[rdT]at h;have:=M5 l l' acc ls h;simp[fiT,this]
 case tup.tup l l'=>simp only[rdT]at h;have:=M5 l l' acc ls h;simp[fiT,this]
 case fn.fn f l f' l'=>
  simp only[rdT]at h;obtain⟨h1,h⟩:=Xn h;have:=M5 l l' acc ls h;rw[<- Qq3 h1];simp[fiT,this]
 case ptr.ptr=>
  simp only[rdT]at h;obtain⟨h1,rfl⟩:=VT h;simp only[Qq4]at h1;rw[<- Qq3 h1.1,<- Qq3 h1.2];simp[fiT]
 case arr.arr=>
  simp only[rdT]at h;obtain⟨h1,rfl⟩:=VT h;rw[<- Qq3 h1];simp[fiT]
 case sa.sa=>
  simp only[rdT]at h;obtain⟨h1,rfl⟩:=VT h;simp only[Qq4]at h1;rw[<- Qq3 h1.1,<- Qq3 h1.2];simp[fiT]
 case el.el=>
  simp only[rdT]at h;obtain⟨h1,rfl⟩:=VT h;rw[<- Qq3 h1];rfl
 case ap.ap=>
  simp only[rdT]at h;obtain⟨h1,rfl⟩:=VT h;simp only[Qq4]at h1;rw[<- Qq3 h1.1,<- Qq3 h1.2];rfl
 case ac.ap=>
  simp only[rdT]at h;obtain⟨h1,rfl⟩:=VT h;simp only[Qq4]at h1;rw[<- Qq3 h1.1.1,<- Qq3 h1.1.2,<- Qq3 h1.2];simp[fiT]
 case fs.fs=>
  simp only[rdT]at h;obtain⟨h1,rfl⟩:=VT h;rw[<- Qq3 h1];rfl
 case mpd.mpd=>simp only[rdT,Option.some.injEq]at h;subst h;rfl
 case gd.gd ti w a ti' w' a'=>
  simp only[rdT]at h;obtain⟨h1,h⟩:=Xn h;simp only[Qq4]at h1;have:=Q2o a a' acc ls h;rw[<- Qq3 h1.1,<- eq_of_beq h1.2];simp[fiT,this]
theorem M5:∀(ta:Y TA) (a:Y AV) (acc ls:Y Lf),QbA ta a acc=some ls->Q8E ta ls=(a,acc):=by
 intro ta a acc ls h
 match ta,a,h with
 |[],[],h=>simp only[QbA,Option.some.injEq]at h;subst h;simp[Q8E]
 |ta::ts,a::as,h=>
  simp only[QbA]at h;split at h
  ·rename_i aa ha;have h1:=Q2o ta a aa ls h;have h2:=M5 ts as acc aa ha;simp[Q8E,h1,h2]
  ·cases h
 |[],_::_,h=>simp[QbA]at h
 |_::_,[],h=>simp[QbA]at h
end
abbrev tI:TA:=.i .i64
inductive TO where
 |box (l:List TA)
 |arr (e s:Nat)
 |arc (e s:Nat)
 |mp (t:Nat)
structure TS where
 n:Nat
 tm:List (Nat×TA)
 h:List (Nat×TO)
def rdO:TO->Ob->Y Lf->oP (Y Lf)
 |.box l,.box l',acc=>QbA l l' acc
 |.arr e s,.arr e' s' r,acc=>oB (Nat.beq e e'&&Nat.beq s s') (.L r::acc)
 |.arc e s,.arr e' s' [],acc=>oB (Nat.beq e e'&&Nat.beq s s') acc
 |.mp e,.mp e' f,acc=>oB (Nat.beq e e') (.P f::acc)
 |_,_,_=>none
def fiO:TO->Y Lf->Ob×Y Lf
 |.box l,r=>(.box (Q8E l r).1,(Q8E l r).2)
 |.arr e s,.L x::r=>(.arr e s x,r)
 |.arr e s,r=>(.arr e s [],r)
 |.arc e s,r=>(.arr e s [],r)
 |.mp e,.P x::r=>(.mp e x,r)
 |.mp e,r=>(.mp e λ_=>false,r)
def rdM:Y (Nat×TA)->Y (Nat×AV)->Y Lf->oP (Y Lf)
 |[],[],acc=>some acc
 |(i,a)::r,(j,b)::s,acc=>bif Nat.beq i j then match rdM r s acc with
  |some aa=>rdT a b aa
  |none=>none
  else none
 |_,_,_=>none
def fiM:Y (Nat×TA)->Y Lf->Y (Nat×AV)×Y Lf
 |[],r=>([],r)
 |(i,a)::l,r=>((i,(fiT a r).1)::(fiM l (fiT a r).2).1,(fiM l (fiT a r).2).2)
def rdH:Y (Nat×TO)->Y (Nat×Ob)->Y Lf->oP (Y Lf)
 |[],[],acc=>some acc
 |(i,a)::r,(j,b)::s,acc=>bif Nat.beq i j then match rdH r s acc with
  |some aa=>rdO a b aa
  |none=>none
  else none
 |_,_,_=>none
def fiH:Y (Nat×TO)->Y Lf->Y (Nat×Ob)×Y Lf
 |[],r=>([],r)
 |(i,a)::l,r=>((i,(fiO a r).1)::(fiH l (fiO a r).2).1,(fiH l (fiO a r).2).2)
def rdS(Z:TS)(st:St):oP (Y Lf):=bif Nat.beq Z.n st.n then match rdH Z.h st.h []with
  |some acc=>rdM Z.tm st.tm acc
  |none=>none
 else none
def fiS(Z:TS)(l:Y Lf):St:=⟨Z.n,(fiM Z.tm l).1,(fiH Z.h (fiM Z.tm l).2).1⟩
theorem QcF{z:TO}{o:Ob}{acc ls:Y Lf}(h:rdO z o acc=some ls):fiO z ls=(o,acc):=by
 cases z<;>cases o<;>try (simp only[rdO,reduceCtorEq]at h;done)
 case box.box=>simp only[rdO]at h;simp[fiO,M5 _ _ _ _ h]
 case arr.arr=>
  simp only[rdO]at h;obtain⟨h1,rfl⟩:=VT h;simp only[Qq4]at h1;rw[<- Qq3 h1.1,<- Qq3 h1.2];rfl
 case arc.arr e s e' s' r=>
  cases r<;>try (simp only[rdO,reduceCtorEq]at h;done)
  simp only[rdO]at h;obtain⟨h1,rfl⟩:=VT h;simp only[Qq4]at h1;rw[<- Qq3 h1.1,<- Qq3 h1.2];simp[fiO]
 case mp.mp=>
  simp only[rdO]at h;obtain⟨h1,rfl⟩:=VT h;rw[<- Qq3 h1];rfl
theorem Q7r:∀{z:Y (Nat×TA)} {l:Y (Nat×AV)} {acc ls:Y Lf},rdM z l acc=some ls->fiM z ls=(l,acc)
 |[],[],acc,ls,h=>by simp only[rdM,Option.some.injEq]at h;subst h;rfl
 |(i,a)::r,(j,b)::s,acc,ls,h=>by
  simp only[rdM]at h;obtain⟨h1,h⟩:=Xn h;split at h
  ·rename_i aa ha;simp[fiM,Q2o _ _ _ _ h,Q7r ha,Qq3 h1]
  ·cases h
 |[],_::_,_,_,h=>by simp[rdM]at h
 |_::_,[],_,_,h=>by simp[rdM]at h
theorem Q79:∀{z:Y (Nat×TO)} {l:Y (Nat×Ob)} {acc ls:Y Lf},rdH z l acc=some ls->fiH z ls=(l,acc)
 |[],[],acc,ls,h=>by simp only[rdH,Option.some.injEq]at h;subst h;rfl
 |(i,a)::r,(j,b)::s,acc,ls,h=>by
  simp only[rdH]at h;obtain⟨h1,h⟩:=Xn h;split at h
  ·rename_i aa ha;simp[fiH,QcF h,Q79 ha,Qq3 h1]
  ·cases h
 |[],_::_,_,_,h=>by simp[rdH]at h
 |_::_,[],_,_,h=>by simp[rdH]at h
theorem Ev{Z:TS}{st:St}{ls:Y Lf}(h:rdS Z st=some ls):fiS Z ls=st:=by
 obtain⟨h1,h⟩:=Xn h;split at h
 ·rename_i acc ha;simp only[fiS,Q7r h,Q79 ha,Qq3 h1]
 ·cases h
def Lp(C:VC)(aa:Nat)(Z:TS)(ts:Y LT)(f:(R:Type)->(Exit->St->oP R)->LF ts (oP R)):Nm:=λR st k=>
 match rdS Z (Q1r C aa st)with
 |some ls=>apL ts (f R k) ls
 |none=>none
def mkL{P:Program}{C:VC}(hC:VCOk P C)(T:Y (LpE P))(r:Nat)(c:Code)(Z:TS)(ts:Y LT)(f:Nat->(R:Type)->(Exit->St->oP R)->LF ts (oP R))(m:Nat)(hr:Nat.beq r (Q9I c)=true:=by kernel_rfl)(hT:Mr T (WW c)=T.map λe=>(e.r,e.c):=by kernel_rfl)(hn:Xo (T.map (·.r))=true:=by rfl)(h0:∀R k v,apH ts (f 0 R k) v=none:=by intro R k v;rfl)(hs:∀m R k v,apH ts (f (m+1) R k) v=Q8y C T c (fiS Z (toL ts v)) (lpK (Lp C (3000000000+r) Z ts (f m)) k):=by intro m R k v;kernel_rfl):LpE P where
 r:=r
 c:=c
 L:=Lp C (3000000000+r) Z ts (f m)
 t:=λst=>(rdS Z (Q1r C (3000000000+r) st)).isSome
 ok:=by
  have hr:=Qq3 hr;have hT:=Bv hn hT;intro E R st k x h a w hR;refine wp_loop_rounds m (Q4M (λm=>Lp C (3000000000+r) Z ts (f m)) (λR st k=>?_) (λm E R st k x h a w hR=>?_) m E R st k x h a w hR)
  ·show Lp C (3000000000+r) Z ts (f 0) R st k=none;cases hx:Lp C (3000000000+r) Z ts (f 0) R st k with
   |none=>rfl
   |some x=>
    unfold Lp at hx;split at hx
    ·obtain⟨v,hv,_⟩:=MN _ _ _ _ hx;rw[h0]at hv;cases hv
    ·cases hx
  ·replace h:Lp C (3000000000+r) Z ts (f (m+1)) R st k=some x:=h
   unfold Lp at h;split at h
   ·rename_i ls ai;obtain⟨v,hv,rfl⟩:=MN _ _ _ _ h;rw[hs,Ev ai]at hv;refine MP hC c hT _ _ x hv a w ?_;unfold Q1r;split
    ·exact Pj _ hR
    ·exact hR
   ·cases h
def orL{P:Program}(a b:LpE P)(hc:b.c=a.c:=by kernel_rfl):LpE P where
 r:=a.r
 c:=a.c
 L:=λR st k=>bif a.t st then a.L R st k else b.L R st k
 t:=λst=>a.t st||b.t st
 ok:=by
  intro E R st k r h
  replace h:(bif a.t st then a.L R st k else b.L R st k)=some r:=h
  cases ht:a.t st with
  |true=>rw[ht]at h;exact a.ok E R st k r h
  |false=>rw[ht]at h;rw[<- hc];exact b.ok E R st k r h
section
variable{P:Program} {R:Type}
def prM(hl:Nat->oP Ob)(e:Nat)(av:AV)(k:Nat->(Int->Bool)->oP R):oP R:=
 match av with
 |.arr l=>match hl l with
  |some (.mp e' f)=>bif Nat.beq e' e then k l f else none
  |_=>none
 |_=>none
theorem Qi8{hl:Nat->oP Ob}{e:Nat}{av:AV}{k:Nat->(Int->Bool)->oP R}{r:R}(h:prM hl e av k=some r):∃l f,k l f=some r/\av = .arr l/\hl l=some (.mp e f):=by
 unfold prM at h
 grind[Nat.eq_of_beq_eq_true]
def prN(av:AV)(k:oP R):oP R:=
 match av with
 |.nil=>k
 |_=>none
theorem Qid{av:AV}{k:oP R}{r:R}(h:prN av k=some r):k=some r/\av = .nil:=by
 grind[prN]
def vfnT(C:VC)(T:Y (LpE P))(fn:Func)(args:Y AV)(h:Y (Nat×Ob))(k:AV->Y (Nat×Ob)->oP R):oP R:=
 bif fn.body.isSome&&(Nat.ble args.length fn.ntmps&&KC args)then Q8y C T (Ve fn) { n:=fn.ntmps,tm:=Q2J 0 args,h:=h } (fnK C.tt fn k)else none
theorem L5{C:VC}(hC:VCOk P C){T:Y (LpE P)}{f:Nat}{fn:Func}(hf:P.funcs[f]? = some fn)(hT:Mr T (WW (Ve fn))=T.map λe=>(e.r,e.c))(hn:Xo (T.map (·.r))=true){args:Y AV}{H:Y (Nat×Ob)}{k:AV->Y (Nat×Ob)->oP R}{r:R}(h:vfnT C T fn args H k=some r)(β:Nat->oP Nat)(S:Nat->Prop)(w:World)(vs:Y Value)(hO:Objs β S (look H) w)(hA:ArgsRd β S (look H) w vs args):Calls P f vs.toArray w (Ns H k r β S w):=by
 obtain⟨hb,h⟩:=Xn h;simp only[Qq4]at hb;obtain⟨c,hc⟩:=Qqk.1 hb.1;have aa:Ve fn=c:=by grind[Ve]
 rw[aa]at h hT;exact Q28 hC hf hc Q4 (λa hR=>MP hC c (Bv hn hT) _ _ r h a w ⟨β,S,hR⟩) hO hA
theorem Qcm {α:Type} {K:AV->oP α} {res:α} {C:VC} (hC:VCOk P C) (T:Y (LpE P)) {f:Nat} {fn:Func} {ss:Y (Y Nat)} {avs:Y AV} {av:AV} {hl:Nat->oP Ob} {rd:Y Nat}
  (h : vfnT C T fn avs [] (retF ss K) = some res) (hK : ∀x, K x = some res -> x = av) (hf : P.funcs[f]? = some fn := by kernel_rfl) (hb : fn.body.isSome = true := by kernel_rfl) (hn : (fn.name == "runtime.NumGoroutine") = false := by kernel_rfl) (hlf : lfL avs = true := by rfl)
  (hT:Mr T (WW (Ve fn))=T.map λe=>(e.r,e.c):=by kernel_rfl) (hn2:Xo (T.map (·.r))=true:=by rfl):Wa P f avs hl ⟨av,[],rd⟩:=
 Q5P hf hb hn hlf (L5 hC hf hT hn2 h) hK
theorem Qi7 {α:Type} {K:AV->Y (Nat×Ob)->oP α} {res:α} {C:VC} (hC:VCOk P C) (T:Y (LpE P)) {f:Nat} {fn:Func}
  {ρ ν:Y (Nat×Nat)} {avs avs':Y AV} {H:Y (Nat×Ob)} {hl:Nat->oP Ob} {dl:Dl}
  (hc:Nq hl ρ ν=true) (hin:QgZ hl H ρ)
  (h:vfnT C T fn avs' H K=some res)
  (hK:∀av H',K av H'=some res->Ue (ρ++ν) av=dl.v/\L6 (ρ++ν) H' (ρ++ν)=dl.wr/\Qd8 H' (ρ++ν)/\Qgj H H' ρ)
  (hf : P.funcs[f]? = some fn := by kernel_rfl) (hb : fn.body.isSome = true := by kernel_rfl) (hn : (fn.name == "runtime.NumGoroutine") = false := by kernel_rfl)
  (hav:avs=avs'.map (Ue ρ):=by rfl) (hargs:Ct ρ avs'=true:=by rfl) (h1:Xo ((ρ++ν).map (·.1))=true:=by rfl) (hρ:Xo (ρ.map (·.1))=true:=by rfl) (hkeys:H.map (·.1)=ρ.map (·.1):=by rfl) (hwl:wrL dl=(ρ++ν).map (·.2):=by rfl)
  (hT:Mr T (WW (Ve fn))=T.map λe=>(e.r,e.c):=by kernel_rfl) (hn2:Xo (T.map (·.r))=true:=by rfl):Wa P f avs hl dl:=
 Q0k hf hb hn hav hargs h1 hρ hc hin hkeys hwl (L5 hC hf hT hn2 h) hK
theorem QjG {α:Type} {K:AV->Y (Nat×Ob)->oP α} {res:α} {C:VC} (hC:VCOk P C) (T:Y (LpE P)) {f:Nat} {fn:Func}
  {ρ ν:Y (Nat×Nat)} {avs avs':Y AV} {H:Y (Nat×Ob)} {hl:Nat->oP Ob} {dl:Dl}
  (hav:CLeL ρ avs avs') (hc:Nq hl ρ ν=true) (hin:QgR ρ hl H ρ)
  (h:vfnT C T fn avs' H K=some res)
  (hK:∀av H',K av H'=some res->Ue (ρ++ν) av=dl.v/\L6 (ρ++ν) H' (ρ++ν)=dl.wr/\Qd8 H' ν/\Qh6 H H' ρ)
  (hf : P.funcs[f]? = some fn := by kernel_rfl) (hb : fn.body.isSome = true := by kernel_rfl) (hn : (fn.name == "runtime.NumGoroutine") = false := by kernel_rfl)
  (h1:Xo ((ρ++ν).map (·.1))=true:=by rfl) (hρ:Xo (ρ.map (·.1))=true:=by rfl) (hkeys:H.map (·.1)=ρ.map (·.1):=by rfl) (hwl:wrL dl=(ρ++ν).map (·.2):=by rfl)
  (hT:Mr T (WW (Ve fn))=T.map λe=>(e.r,e.c):=by kernel_rfl) (hn2:Xo (T.map (·.r))=true:=by rfl):Wa P f avs hl dl:=
 Q1R hf hb hn hav h1 hρ hc hin hkeys hwl (L5 hC hf hT hn2 h) hK
theorem lawT{C:VC}(hC:VCOk P C)(T:Y (LpE P)){f:Nat}{fn:Func}(hf:P.funcs[f]? = some fn){ss:Y (Y Nat)}{K:AV->oP Bool}(hK:∀x,K x=some true->x = .d (.bool true)){aa:Y AV}{args:Y Value}{w:World}(hA:ArgsRd (λ_=>none) (SW w) (look ([]:Y (Nat×Ob))) w args aa)(h:vfnT C T fn aa [] (retF ss K)=some true)(hT:Mr T (WW (Ve fn))=T.map λe=>(e.r,e.c):=by kernel_rfl)(ac:Xo (T.map (·.r))=true:=by rfl) :
  Calls P f args.toArray w λe w'=>e = .returned (.bool true)/\RowKit.Below w.heap.size w w':=
 Q9x hK hA (L5 hC hf hT ac h)
end
end Go.Vx
