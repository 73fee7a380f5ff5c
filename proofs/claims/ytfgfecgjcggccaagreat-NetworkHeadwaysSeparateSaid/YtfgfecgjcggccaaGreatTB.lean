/- Part of a proof. No conditions of their own. -/
import Derived.Test.YtfgfecgjcggccaaGreatTA
import Derived.Lib.AppendZeros
import Derived.LoopN
import Derived.ProofKit
import Derived.ChangeOld
import Derived.Carry
import Derived.ChangeArms
import Derived.WideShapes
import Derived.IntWalk
import Derived.KernelRfl
set_option linter.unusedVariables false
set_option linter.unusedSimpArgs false
abbrev Qdk:=@Nat.eq_of_beq_eq_true
abbrev Qdl:=@Bool.and_eq_true
abbrev Qdm:=@List.getElem?_eq_some_iff
abbrev Qdn:=@Option.map_eq_some_iff
abbrev Qdo:=@Go.Result.andThen_ok
abbrev Qdp:=@List.getElem?_eq_getElem
abbrev Qdq:=@cond_true
abbrev Qdr:=@List.mem_cons
abbrev Qds:=@Go.Sem.run_bind
abbrev Qdt:=@Bool.not_eq_true'
abbrev Qdu:=@Option.isSome_iff_exists
abbrev Qdv:=@Array.getElem?_eq_some_iff
abbrev Qdw:=@List.getElem?_drop
abbrev Qdx:=@if_neg
abbrev Qdy:=@Bool.or_eq_true
abbrev Qdz:=@Array.getElem?_toList
abbrev QdA:=@List.map_cons
abbrev QdB:=@cond_false
abbrev QdC:=@Nat.zero_add
abbrev QdD:=@Option.getD_some
abbrev QdE:=@Array.length_toList
abbrev QdF:=@Array.getElem?_eq_getElem
abbrev QdG:=@List.mem_map
abbrev QdH:=@List.eq_nil_of_length_eq_zero
abbrev QdI:=@Bool.or_eq_false_iff
abbrev QdJ:=@if_pos
abbrev QdK:=@Nat.le_of_ble_eq_true
abbrev QdL:=@List.getElem?_eq_none
abbrev QdM:=@Option.map_none
namespace Go.Vx
section
variable {P:Program} {E:Env} {R:Type}
theorem Q1Q {s:List UInt8} {n b:Int} (h:UA s n=some b):0<=n/\∃ ak:n.toNat<s.length,b=((s[n.toNat]' ak).toNat:Int):=by
 unfold UA at h;by_cases h0:0<=n
 ·simp only [h0,decide_true,Qdq,Qdn] at h;obtain ⟨c,hc,rfl⟩:=h;obtain ⟨h1,h2⟩:=Qdm.1 hc;exact ⟨h0,h1,by rw [h2]⟩
 ·simp [h0] at h
theorem Q4o {tt:TT} (hT:TOk P tt) {o:Oper} {t:TypeId} {x i:Operand} (ho:o.op = .index t x i) {g:Bool} {ev:Operand->AV} {hl:Nat->Option Ob} {k:Dl->Option R} {r:R}
  (h:Q6d tt g t (ev x) (ev i) k=some r):∃ dl,k dl=some r/\(g=true->Jn P E o ev hl dl):=by
 have ak:x∈o.op.operands.toList:=by simp [ho,Op.operands]
 have an:i∈o.op.operands.toList:=by simp [ho,Op.operands]
 unfold Q6d at h;split at h
 case h_2=>cases h
 rename_i s ik n hk aq ar;obtain ⟨ti,ao,am⟩:=Xh hk (by simp);have hu:=(hT t ti ao).kstr am;obtain ⟨b,h,hp⟩:=Qt h;refine ⟨_,h,fun hg=>Qj fun β S st a w hR hO hA=>?_⟩;obtain ⟨bs,hs,hx⟩:=(aq▸hO.at ak).str_inv;have hi:=(ar▸hO.at an).int_inv;obtain ⟨h0,aw,hb⟩:=Q1Q (hp hg);have a7:s.length=bs.size:=by rw [hs,QdE];rfl
 refine ⟨.int .u8 b,?_,.d _ _ (.int _ _)⟩;unfold execOp;rw [ho];have:=run_index_string (P:=P) w t bs ik n hu;rw [dif_pos ⟨h0,by omega⟩] at this;simp only [hx,hi,Qds,this,Qdo];have e:((bs[n.toNat]'(by omega)).toNat:Int)=b:=by
  rw [hb];subst hs;simp [ByteArray.getElem_eq_getElem_data]
 rw [e];rfl
theorem Uq {ev:Operand->AV} {β:Nat->Option Nat} {S:Nat->Prop} {h:Nat->Option Ob} {w:World} {tm:Nat->Value} {ρ:Operand->Value} {x:Option Operand} {n:Option Int} (hb:PI ev x=some n) (hx:∀ y,x=some y->RdA β S h w tm (ρ y) (ev y)) :
  (x=none/\n=none)\/∃ y k m,x=some y/\n=some m/\ρ y = .int k m:=by
 cases x with
 |none=>simp [PI] at hb;exact .inl ⟨rfl,hb.symm⟩
 |some y=>
  simp only [PI] at hb;split at hb
  ·rename_i k m ak;simp at hb;exact .inr ⟨y,k,m,rfl,hb.symm,(ak▸hx y rfl).int_inv⟩
  ·cases hb
theorem Sg {len:Nat} {lo hi:Option Int} {q:Nat × Nat} (h:slB len lo hi=some q) :
  0<=lo.getD 0/\lo.getD 0<=hi.getD len/\hi.getD len<=len/\q=((lo.getD 0).toNat,(hi.getD len).toNat):=by
 unfold slB at h;by_cases hc:0<=lo.getD 0/\lo.getD 0<=hi.getD len/\hi.getD len<=len
 ·simp only [hc,decide_true,Bool.and_self,Qdq,Option.some.injEq] at h;exact ⟨hc.1,hc.2.1,hc.2.2,h.symm⟩
 ·have:(decide (0<=lo.getD 0)&&(decide (lo.getD 0<=hi.getD len)&&decide (hi.getD len<=len)))=false:=by
   simp only [Bool.and_eq_false_iff,decide_eq_false_iff_not];omega
  rw [this] at h;cases h
theorem So (ak:Bool) {len cap:Nat} (aw:len<=cap) {lo hi:Option Operand} {l h:Option Int} {ρ:Operand->Value} {w:World} {q:Nat × Nat} (hs:slB len l h=some q)
  (ar:(lo=none/\l=none)\/∃ y k m,lo=some y/\l=some m/\ρ y = .int k m) (aq:(hi=none/\h=none)\/∃ y k m,hi=some y/\h=some m/\ρ y = .int k m) :
  (Instr.sliceBounds ak len cap (lo.map ρ) (hi.map ρ) none).run P w = .ok (q.1,q.2,cap) w:=by
 obtain ⟨h1,h2,h3,rfl⟩:=Sg hs;rcases ar with ⟨rfl,rfl⟩ | ⟨y,k,m,rfl,rfl,hy⟩ <;> rcases aq with ⟨rfl,rfl⟩ | ⟨y',k',m',rfl,rfl,am⟩ <;> simp only [Option.getD_none,QdD] at h1 h2 h3
 ·simp [Instr.sliceBounds]
 ·have e1:0<=m'/\m'<=(cap:Int):=by omega
  cases ak <;> simp [Instr.sliceBounds,am,run_sliceBound_if,e1]
 ·have e1:0<=m/\m<=(len:Int):=by omega
  simp [Instr.sliceBounds,hy,run_sliceBound_if,e1]
 ·have e1:0<=m'/\m'<=(cap:Int):=by omega
  have e2:0<=m/\m<=((m'.toNat:Nat):Int):=by omega
  cases ak <;> simp [Instr.sliceBounds,hy,am,run_sliceBound_if,e1,e2] <;> (intro hc;exfalso;omega)
theorem Mv {α:Type} {l:List α} {q:Nat × Nat} {i:Nat} {a:α} (h:(cut l q)[i]? = some a):i<q.2-q.1/\l[q.1+i]? = some a:=by
 unfold cut at h;rw [List.getElem?_take] at h;split at h
 ·rename_i hi;rw [Qdw] at h;exact ⟨hi,h⟩
 ·cases h
theorem AP {o:Oper} {t:TypeId} {x:Operand} {lo hi:Option Operand} (ho:o.op = .slice t x lo hi none):x∈o.op.operands.toList/\(∀ y,lo=some y->y∈o.op.operands.toList)/\∀ y,hi=some y->y∈o.op.operands.toList:=by
 refine ⟨by simp [ho,Op.operands],fun y hy=>?_,fun y hy=>?_⟩ <;> subst hy <;> simp [ho,Op.operands]
theorem Q4n {tt:TT} (hT:TOk P tt) {o:Oper} {t:TypeId} {x:Operand} {lo hi:Option Operand} (ho:o.op = .slice t x lo hi none) {g:Bool} {ev:Operand->AV} {hl:Nat->Option Ob} {k:Dl->Option R} {r:R}
  (h:Q4R tt g t (ev x) (PI ev lo) (PI ev hi) k=some r):∃ dl,k dl=some r/\(g=true->Jn P E o ev hl dl):=by
 obtain ⟨bc,ax,am⟩:=AP ho;unfold Q4R at h;split at h
 case h_2=>cases h
 rename_i l' h' bg bd;split at h
 ·rename_i s hk a6;obtain ⟨ti,ay,aq⟩:=Xh hk (by simp);have hu:=(hT t ti ay).kstr aq;obtain ⟨q,h,hp⟩:=Qt h;refine ⟨_,h,fun hg=>Qj fun β S st a w hR hO hA=>?_⟩;obtain ⟨bs,hs,hx⟩:=(a6▸hO.at bc).str_inv;have au:s.length=bs.size:=by rw [hs,QdE];rfl
  have hb:=So (P:=P) false (len:=s.length) (cap:=s.length) (Nat.le_refl _) (ρ:=a.eval) (w:=w) (hp hg) (Uq bg fun y hy=>hO.at (ax y hy)) (Uq bd fun y hy=>hO.at (am y hy));rw [au] at hb;refine ⟨.string (bs.extract q.1 q.2),?_,.d _ _ ?_⟩
  ·unfold execOp;rw [ho];simp only [hx,Qds,run_sliceAt_string w t _ _ _ _ hu,QdM];simp only [Instr.slice,Qds,QI hu,Qdo,hb,Option.isSome_none,Bool.false_eq_true,if_false];rfl
  ·have:cut s q=(bs.extract q.1 q.2).data.toList:=by
    rw [hs];simp [cut,ByteArray.data_extract]
   rw [this];exact .str _
 ·rename_i e bl s rows hk a6;cases hb:Nat.beq s bl with
  |false=>simp [hb] at h
  |true=>
   simp only [hb,Qdq] at h;obtain rfl:=Qdk hb;obtain ⟨ti,ay,aq⟩:=Xh hk (by simp);obtain ⟨hu,bi,inf,ao,au⟩:=(hT t ti ay).ksl _ _ aq;obtain ⟨q,h,hp⟩:=Qt h;refine ⟨_,h,fun hg=>Qj fun β S st a w hR hO hA=>?_⟩;have bm:=(a6▸hO.at bc).d_inv;have hq:=Sg (hp hg);have aw:∀ (ad:Option Addr) (cap:Nat),rows.length<=cap->a.eval x = .slice ad rows.length cap->(execOp a.eval o).run P w = .ok (.value (.slice (if cap=q.1 then ad else ad.map (·.add (q.1*s))) (q.2-q.1) (cap-q.1))) w:=by
    intro ad cap hc hx;have hb:=So (P:=P) true hc (ρ:=a.eval) (w:=w) (hp hg) (Uq bg fun y hy=>hO.at (ax y hy)) (Uq bd fun y hy=>hO.at (am y hy));unfold execOp;rw [ho];simp only [hx,Qds,Instr.sliceAt,QI hu,Qdo,QdM];simp only [Instr.slice,Qds,QI hu,Qdo,hb,sizeOf,XU ao,au];rfl
   have a7:(cut rows q).length=q.2-q.1:=by
    unfold cut;rw [hq.2.2.2];simp;omega
   generalize hv:a.eval x=v at bm aw;cases bm with
   |sl0 ad cap _=>
    refine ⟨_,aw ad cap (Nat.zero_le _) rfl,.d _ _ ?_⟩;have:cut ([]:List (List D)) q=[]:=by simp [cut]
    rw [this];have h0:q.2-q.1=0:=by rw [this] at a7;simpa using a7.symm
    rw [h0];exact .sl0 _ _ _
   |sl ad cap _ _ c hS bj bh hc hr=>
    refine ⟨_,aw (some ad) cap bj rfl,.d _ _ ?_⟩;by_cases h0:q.2-q.1=0
    ·have:cut rows q=[]:=QdH (by rw [a7,h0]);rw [this,h0];exact .sl0 _ _ _
    ·have bn:cap≠q.1:=by
      have:=hq.2.2.1;have:=hq.2.2.2;have h1:q.2<=rows.length:=by rw [this];simp;omega
      omega
     rw [Qdx bn,<- a7];refine Rd.sl (ad.add (q.1*s)) (cap-q.1) s (cut rows q) (fun i j=>c (q.1+i) j) (by rw [V2];exact hS) ?_ ?_ ?_ ?_
     ·rw [a7];have:=hq.2.2.2;have h1:q.2<=rows.length:=by rw [this];simp;omega
      omega
     ·intro i r an;exact bh _ _ (Mv an).2
     ·intro i j r y an hy;have:=hc (q.1+i) j r y (Mv an).2 hy;rw [Eh,<- Nat.add_assoc,<- Nat.add_mul];exact this
     ·intro i j r y an hy;exact hr (q.1+i) j r y (Mv an).2 hy
 ·rename_i e bl hk a6;obtain ⟨ti,ay,aq⟩:=Xh hk (by simp);obtain ⟨hu,bi,inf,ao,au⟩:=(hT t ti ay).ksl _ _ aq;obtain ⟨q,h,hp⟩:=Qt h;refine ⟨_,h,fun hg=>Qj fun β S st a w hR hO hA=>?_⟩;have hx:=(a6▸hO.at bc).nil_inv;have hq:=Sg (hp hg);have hb:=So (P:=P) true (Nat.le_refl 0) (ρ:=a.eval) (w:=w) (hp hg) (Uq bg fun y hy=>hO.at (ax y hy)) (Uq bd fun y hy=>hO.at (am y hy));have h0:q.2-q.1=0:=by
   obtain ⟨q1,q2,q3,q4⟩:=hq;rw [q4];show (h'.getD ((0:Nat):Int)).toNat-(l'.getD 0).toNat=0;omega
  have h1:0-q.1=0:=Nat.zero_sub _;refine ⟨.slice none 0 0,?_,.nil⟩;unfold execOp;rw [ho];simp only [hx,Qds,Instr.sliceAt,QI hu,Qdo,QdM];simp only [Instr.slice,Qds,QI hu,Qdo,hb,sizeOf,XU ao,au,h0,h1,QdM,ite_self];rfl
 ·cases h
theorem Q0s {len:Nat} {lo hi mx:Option Int} {q:Nat × Nat} (h:QaY len lo hi mx=some q):∃ m,hi=some m/\mx=some m/\slB len lo (some m)=some q:=by
 unfold QaY at h;split at h
 ·rename_i a b;cases hd:decide (a=b) with
  |false=>rw [hd] at h;cases h
  |true=>
   rw [hd] at h;have:=of_decide_eq_true hd;subst this;exact ⟨a,rfl,rfl,h⟩
 ·cases h
theorem Ea {len cap:Nat} (aw:len<=cap) {lo:Option Operand} {yh ym:Operand} {l:Option Int} {m:Int} {kh km:IntKind} {ρ:Operand->Value} {w:World} {q:Nat × Nat} (hs:slB len l (some m)=some q)
  (ak:(lo=none/\l=none)\/∃ y k m,lo=some y/\l=some m/\ρ y = .int k m) (hh:ρ yh = .int kh m) (hm:ρ ym = .int km m) :
  (Instr.sliceBounds true len cap (lo.map ρ) (some (ρ yh)) (some (ρ ym))).run P w = .ok (q.1,q.2,q.2) w:=by
 obtain ⟨h1,h2,h3,rfl⟩:=Sg hs;simp only [QdD] at h2 h3;have e1:0<=m/\m<=(cap:Int):=by
  rcases ak with ⟨rfl,rfl⟩ | ⟨y,k,a,rfl,rfl,hy⟩ <;> simp only [Option.getD_none,QdD] at h1 h2 <;> omega
 have e2:0<=m/\m<=((m.toNat:Nat):Int):=by omega
 rcases ak with ⟨rfl,rfl⟩ | ⟨y,k,a,rfl,rfl,hy⟩
 ·simp [Instr.sliceBounds,hh,hm,run_sliceBound_if,e1]
  try (intro hc;exfalso;omega)
 ·simp only [QdD] at h1 h2;have e3:0<=a/\a<=((m.toNat:Nat):Int):=by omega
  simp [Instr.sliceBounds,hh,hm,hy,run_sliceBound_if,e1,e3];rw [QdJ (by omega),QdJ (by omega)]
theorem Q3N {o:Oper} {t:TypeId} {x mx:Operand} {lo hi:Option Operand} (ho:o.op = .slice t x lo hi (some mx)):x∈o.op.operands.toList/\(∀ y,lo=some y->y∈o.op.operands.toList)/\(∀ y,hi=some y->y∈o.op.operands.toList)/\mx∈o.op.operands.toList:=by
 refine ⟨by simp [ho,Op.operands],fun y hy=>?_,fun y hy=>?_,by simp [ho,Op.operands]⟩ <;> subst hy <;> simp [ho,Op.operands]
theorem Q2d {tt:TT} (hT:TOk P tt) {o:Oper} {t:TypeId} {x mx:Operand} {lo hi:Option Operand} (ho:o.op = .slice t x lo hi (some mx)) {g:Bool} {ev:Operand->AV} {hl:Nat->Option Ob} {k:Dl->Option R} {r:R}
  (h:Q1k tt g t (ev x) (PI ev lo) (PI ev hi) (PI ev (some mx)) k=some r):∃ dl,k dl=some r/\(g=true->Jn P E o ev hl dl):=by
 obtain ⟨bp,aw,ax,bv⟩:=Q3N ho;unfold Q1k at h;split at h
 case h_2=>cases h
 rename_i l' h' m' bk bm bn;split at h
 ·rename_i e br s rows hk bh;cases hb:Nat.beq s br with
  |false=>simp [hb] at h
  |true=>
   simp only [hb,Qdq] at h;obtain rfl:=Qdk hb;obtain ⟨ti,bg,a9⟩:=Xh hk (by simp);obtain ⟨hu,bl,inf,ao,a6⟩:=(hT t ti bg).ksl _ _ a9;obtain ⟨q,h,hp⟩:=Qt h;refine ⟨_,h,fun hg=>Qj fun β S st a w hR hO hA=>?_⟩;have bu:=(bh▸hO.at bp).d_inv;obtain ⟨m,rfl,rfl,aq⟩:=Q0s (hp hg);have hq:=Sg aq;rcases Uq bm fun y hy=>hO.at (ax y hy) with ⟨_,hn⟩ | ⟨yh,kh,mh,rfl,e1,a8⟩
   ·cases hn
   rcases Uq bn fun y hy=>hO.at (by injection hy with hy;subst hy;exact bv) with ⟨_,hn⟩ | ⟨ym,km,mm,e3,e2,bd⟩
   ·cases hn
   injection e1 with e1
   injection e2 with e2
   injection e3 with e3
   subst e1 e2 e3;have ar:∀ (ad:Option Addr) (cap:Nat),rows.length<=cap->a.eval x = .slice ad rows.length cap->(execOp a.eval o).run P w = .ok (.value (.slice (if q.2=q.1 then ad else ad.map (·.add (q.1*s))) (q.2-q.1) (q.2-q.1))) w:=by
    intro ad cap hc hx;have hb:=Ea (P:=P) hc (ρ:=a.eval) (w:=w) aq (Uq bk fun y hy=>hO.at (aw y hy)) a8 bd;unfold execOp;rw [ho];simp only [hx,Qds,Instr.sliceAt,QI hu,Qdo,Option.map_some];simp only [Instr.slice,Qds,QI hu,Qdo,hb,sizeOf,XU ao,a6];rfl
   have b6:q.2<=rows.length:=by
    have h3:=hq.2.2.1;rw [hq.2.2.2];simp only [QdD] at h3 ⊢;omega
   have am:(cut rows q).length=q.2-q.1:=by
    unfold cut;simp;omega
   generalize hv:a.eval x=v at bu ar;have ay:∀ (ad:Option Addr),Rd S w (.slice ad (q.2-q.1) (q.2-q.1)) (.sl s (cut rows q))->RdA β S (look st.h) w (tmv a) (.slice ad (q.2-q.1) (q.2-q.1)) (.fs s (cut rows q)):=by
    intro ad hr;have:=RdA.fs (β:=β) (h:=look st.h) (tm:=tmv a) ad s (cut rows q) (by rw [am];exact hr);rw [am] at this;exact this
   cases bu with
   |sl0 ad cap _=>
    refine ⟨_,ar ad cap (Nat.zero_le _) rfl,ay _ ?_⟩;have:cut ([]:List (List D)) q=[]:=by simp [cut]
    rw [this];have h0:q.2-q.1=0:=by rw [this] at am;simpa using am.symm
    rw [h0];exact .sl0 _ _ _
   |sl ad cap _ _ c hS bj bo hc hr=>
    refine ⟨_,ar (some ad) cap bj rfl,ay _ ?_⟩;by_cases h0:q.2-q.1=0
    ·have:cut rows q=[]:=QdH (by rw [am,h0]);rw [this,h0];exact .sl0 _ _ _
    ·have bx:q.2≠q.1:=by omega
     rw [Qdx bx];have:=Rd.sl (S:=S) (w:=w) (ad.add (q.1*s)) (q.2-q.1) s (cut rows q) (fun i j=>c (q.1+i) j) (by rw [V2];exact hS) (by rw [am];exact Nat.le_refl _) (fun i r an=>bo _ _ (Mv an).2) (fun i j r y an hy=>by
      have:=hc (q.1+i) j r y (Mv an).2 hy;rw [Eh,<- Nat.add_assoc,<- Nat.add_mul];exact this) (fun i j r y an hy=>hr (q.1+i) j r y (Mv an).2 hy)
     rw [am] at this;exact this
 ·rename_i e br hk bh;obtain ⟨ti,bg,a9⟩:=Xh hk (by simp);obtain ⟨hu,bl,inf,ao,a6⟩:=(hT t ti bg).ksl _ _ a9;obtain ⟨q,h,hp⟩:=Qt h;refine ⟨_,h,fun hg=>Qj fun β S st a w hR hO hA=>?_⟩;have hx:=(bh▸hO.at bp).nil_inv;obtain ⟨m,rfl,rfl,aq⟩:=Q0s (hp hg);have hq:=Sg aq;rcases Uq bm fun y hy=>hO.at (ax y hy) with ⟨_,hn⟩ | ⟨yh,kh,mh,rfl,e1,a8⟩
  ·cases hn
  rcases Uq bn fun y hy=>hO.at (by injection hy with hy;subst hy;exact bv) with ⟨_,hn⟩ | ⟨ym,km,mm,e3,e2,bd⟩
  ·cases hn
  injection e1 with e1
  injection e2 with e2
  injection e3 with e3
  subst e1 e2 e3;have hb:=Ea (P:=P) (Nat.le_refl 0) (ρ:=a.eval) (w:=w) aq (Uq bk fun y hy=>hO.at (aw y hy)) a8 bd;have h0:q.2-q.1=0:=by
   obtain ⟨q1,q2,q3,q4⟩:=hq;rw [q4];simp only [QdD] at q2 q3 ⊢;omega
  refine ⟨.slice none 0 0,?_,.fs none _ [] (.sl0 _ _ _)⟩;unfold execOp;rw [ho];simp only [hx,Qds,Instr.sliceAt,QI hu,Qdo,Option.map_some];simp only [Instr.slice,Qds,QI hu,Qdo,hb,sizeOf,XU ao,a6,h0,QdM,ite_self];rfl
 ·cases h
end
section
variable {P:Program} {E:Env} {R:Type}
theorem AL {tt:TT} (hT:TOk P tt) {o:Oper} {c:Call} {s x:Operand} {t tn:Nat} (ho:o.op = .call c) (ar:c.callee = .builtin .append) (ha:c.args.toList=[s,x]) (hat:c.argTypes.toList=[t,tn]) {g:Bool} {ao:Nat} {ev:Operand->AV} {hl:Nat->Option Ob} {k:Dl->Option R} {r:R}
  (h:Br tt hl ao g t tn (ev s) (ev x) k=some r):∃ dl,k dl=some r/\(g=true->Jn P E o ev hl dl):=by
 have an:c.args = #[s,x]:=by rw [<- Array.toList_inj];simpa using ha
 have bl:c.argTypes = #[t,tn]:=by rw [<- Array.toList_inj];simpa using hat
 have b3:s∈o.op.operands.toList:=by simp [ho,Op.operands,Call.operands,ar,an]
 have bx:x∈o.op.operands.toList:=by simp [ho,Op.operands,Call.operands,ar,an]
 unfold Br at h;split at h
 case h_2=>cases h
 rename_i e aw kn kx n hk bp b0 b6;split at h
 case h_2=>cases h
 rename_i ei au;cases hc:(Nat.ble 1 ei.bytes&&Nat.beq (PF tt e).length aw) with
 |false=>simp [hc] at h
 |true=>
  simp only [hc,Qdq] at h;simp only [Qdl] at hc;have ax:=QdK hc.1;have a7:=Qdk hc.2;have b4:PF tt e=ei.zd:=by simp [PF,au]
  rw [b4] at a7 h;obtain ⟨_,h,a9⟩:=Qt h;obtain ⟨_,h,ak⟩:=Qt h;obtain ⟨hn,h⟩:=WE h;refine ⟨_,h,fun hg=>?_⟩;have ak:=PC (ak hg);have a9:0<n:=by
   have:=a9 hg;cases hd:decide (0<n) with
   |true=>simpa using hd
   |false=>simp [hd] at this
  obtain ⟨ti,b5,bz⟩:=Xh hk (by simp);obtain ⟨hu,cc,inf,a6,bd⟩:=(hT t ti b5).ksl _ _ bz;obtain ⟨b1,bo,bn⟩:=Xh bp (by simp);have b7:=(hT tn b1 bo).kint _ bn;obtain ⟨b9,am,bi,br,z,hz,bk⟩:=(hT e ei au).inf;rw [a6] at am;injection am with am
  subst am;have aq:z.cells.size=aw:=by rw [<- QdE,bk,(hT e ei au).zlen,<- bi,bd]
  obtain ⟨m,rfl⟩:=Int.eq_ofNat_of_zero_le (Int.le_of_lt a9);have bq:0<m:=by omega
  simp only [Int.toNat_natCast] at ak h ⊢;have ce:m<=140737488355328:=Nat.le_trans (by have:=Nat.mul_le_mul_left m ax;omega) ak;intro β S st a w hR hO hA b8 K Q hK;have bg:look st.h ao=none:=by rw [hA ao (.inr (by simp [wrL]))];exact hn
  have bu:Wn st ao=true:=by simpa [Zi,bg] using b8
  have hv:=(b0▸hO.at b3).nil_inv;have hx:=(b6▸hO.at bx).int_inv;have bj:=Lib.run_append_nil_zeros (P:=P) w t tn o.type e inf z kx kn hu b7 a6 hz m bq (by omega) (by omega) (by rw [br];omega);have a8:(execOp a.eval o).run P w = .ok (.value (.slice (some ⟨w.heap.size,0,none⟩) m (grownCap w m 0 e))) (w.drew.alloc (.cells (Builtin.zeroCells z.cells m++Builtin.zeroCells z.cells (grownCap w m 0 e-m)) e)):=by
   unfold execOp;rw [ho];simp only [resolve,ar,an,bl,invoke,builtin,Qds,Sem.run_pure,Qdo,List.map_toArray,QdA,List.map_nil,hv,hx,bj]
  unfold Oper.wp;rw [a8];refine hK _ _ ?_;have base:WH S w (Builtin.zeroCells z.cells m) z.cells.size (List.replicate m ei.zd):=
   WH.zero (by rw [a7,aq]) (Q8B hT au (by rw [a7,<- bi,bd]) bk) (Nat.le_refl _)
  rw [aq] at base;have b2:=grownCap_ge w m 0 e;have bv:grownCap w m 0 e<=maxLen:=grownCap_le_maxLen w m 0 e (by unfold maxLen;omega);have ay:(Builtin.zeroCells z.cells m).toList.length=m*aw:=by rw [QdE,size_zeroCells,aq]
  have bm:(w.drew.alloc (.cells (Builtin.zeroCells z.cells m++Builtin.zeroCells z.cells (grownCap w m 0 e-m)) e)).ownsRow w.heap.size e aw (.slice (some ⟨w.heap.size,0,none⟩) m (grownCap w m 0 e)) m (Builtin.zeroCells z.cells m).toList:=by
   refine ⟨ay,.inr ⟨w.heap.size,_,_,rfl,Nat.le_refl _,heap_alloc_new w.drew _,b2,bv,?_,?_⟩⟩
   ·simp only [Array.size_append,size_zeroCells,aq,<- Nat.add_mul];congr 1;omega
   ·rw [Array.toList_append,<- ay];exact List.take_left
  have:=Te (w':=w.drew.alloc (.cells (Builtin.zeroCells z.cells m++Builtin.zeroCells z.cells (grownCap w m 0 e-m)) e)) (base:=w.heap.size) (e:=e) (rows:=[]) (news:=List.replicate m ei.zd) (v:=.slice none 0 0) (xs:=[]) (vals:=(Builtin.zeroCells z.cells m).toList) (v':=.slice (some ⟨w.heap.size,0,none⟩) m (grownCap w m 0 e)) hR
   (fun i j r x h1 h2=>by rw [Qdz];exact base.2.2 i j r x h1 h2) (fun i r h1=>base.2.1 i r h1) bg bu none (fun _ h=>by cases h) (fun b h=>by simp [Value.ownBlock] at h) (fun i j r y h1=>by simp at h1) (fun i r h1=>by simp at h1) (by simp)
   (by simpa using bm) ⟨rfl,rfl,rfl,by simp,fun k hk _=>heap_alloc_old w.drew _ k hk⟩ (.inr fun b hb=>by simp [Value.ownBlock] at hb;omega)
  exact this
theorem Q72 {tt:TT} (hT:TOk P tt) {o:Oper} {t l:Nat} {x:Operand} {lo hi:Option Operand} (ho:o.op = .slice t x lo hi none) {u g:Bool} {am:Nat} {ev:Operand->AV} (b4:ev x = .arr l) {hl:Nat->Option Ob} {k:Dl->Option R} {r:R}
  (h:QbU tt hl am u t l (PI ev lo) (PI ev hi) k=some r):∃ dl,k dl=some r/\(g=true->Jn P E o ev hl dl):=by
 obtain ⟨bu,a6,a8⟩:=AP ho;unfold QbU at h;split at h
 case h_2=>cases h
 rename_i e ak h0 hk bo bp;cases ao:(u&&decide (h0=0)) with
 |false=>simp [ao] at h
 |true=>
  simp only [ao,Qdq] at h;simp only [Qdl,decide_eq_true_eq] at ao;obtain ⟨_,rfl⟩:=ao;split at h
  case h_2=>cases h
  rename_i e' s' rows ay;cases hb:(Nat.beq e e'&&Nat.beq ak s') with
  |false=>simp [hb] at h
  |true=>
   simp only [hb,Qdq] at h;simp only [Qdl] at hb;obtain rfl:=Qdk hb.1;obtain rfl:=Qdk hb.2;obtain ⟨hn,h⟩:=WE h;refine ⟨_,h,fun _=>?_⟩;intro β S st a w hR hO hA bl K Q hK;obtain ⟨ti,b1,bv⟩:=Xh hk (by simp);obtain ⟨hu,b5,inf,bh,bn⟩:=(hT t ti b1).ksl _ _ bv;have a7:look st.h am=none:=by rw [hA am (.inr (by simp [wrL]))];exact hn
   have an:look st.h l=some (.arr e ak rows):=by rw [hA l (.inl (by simp))];exact ay
   have br:Wn st am=true:=by simp [Zi,a7] at bl;exact bl
   have hq:slB rows.length none (some 0)=some (0,0):=by simp [slB]
   have ar:∀ (ad:Option Addr) (cap:Nat),rows.length<=cap->a.eval x = .slice ad rows.length cap->(execOp a.eval o).run P w = .ok (.value (.slice (if cap=0 then ad else ad.map (·.add (0*ak))) 0 cap)) w:=by
    intro ad cap hc hx;have hb:=So (P:=P) true hc (ρ:=a.eval) (w:=w) hq (Uq bo fun y hy=>hO.at (a6 y hy)) (Uq bp fun y hy=>hO.at (a8 y hy));unfold execOp;rw [ho];simp only [hx,Qds,Instr.sliceAt,QI hu,Qdo,QdM];simp only [Instr.slice,Qds,QI hu,Qdo,hb,sizeOf,XU bh,bn];rfl
   have aq:Src S w ak (.slice none 0 0) [] []:=⟨.inl ⟨rfl,rfl⟩,by simp,by simp,by simp,by simp⟩;have a9:∀ (base:Nat) (v v':Value),(execOp a.eval o).run P w = .ok (.value v') w->w.ownsRow base e ak v' 0 []->(∀ b,v.ownBlock=some b->β l=some b)->v'.ownBlock=v.ownBlock->o.wp P a w K Q:=by
    intro base v v' hr bi bg hat;unfold Oper.wp;rw [hr];refine hK _ _ ?_;exact Te (rows:=[]) (news:=[]) (v:=v) (xs:=[]) (vals:=[]) hR aq.rd aq.row a7 br (some l) (fun l' h=>by injection h with h;subst h;simp [an]) (fun b h=>⟨l,rfl,bg b h⟩) (fun i j r y h1=>by simp at h1) (fun i r h1=>by simp at h1) (by simp) bi (World.grownBy.refl _ _) (.inl hat)
   rcases RdA.arr_inv an (b4▸hO.at bu) with ⟨_,bx,hv⟩ | ⟨b,cap,cs,ty,fz,aw,hv,hw,bd,ax,bj⟩
   ·subst bx;exact a9 w.heap.size (.slice none 0 0) (.slice none 0 0) (ar none 0 (Nat.le_refl _) hv) (World.ownsRow_nil w w.heap.size e ak) (fun b h=>by simp [Value.ownBlock] at h) rfl
   ·rcases hR.hr.ob l _ an with ⟨bk,_⟩ | ⟨b2,b0,bc,au,b6,ca,ce⟩
    ·rw [aw] at bk;cases bk
    obtain rfl:b=b2:=by rw [aw] at bc;injection bc
    obtain rfl:cs=b0:=by rw [hw] at au;injection au with h1;injection h1
    refine a9 0 (.slice (some ⟨b,0,none⟩) rows.length cap) (.slice (some ⟨b,0,none⟩) 0 cap) ?_ ⟨by simp,.inr ⟨b,cap,cs,rfl,Nat.zero_le _,au,Nat.zero_le _,bj,bd,by simp⟩⟩ (fun b3 h=>by simp [Value.ownBlock] at h;subst h;exact aw) rfl;have:=ar (some ⟨b,0,none⟩) cap ax hv;have e0:(if cap=0 then some (⟨b,0,none⟩:Addr) else (some (⟨b,0,none⟩:Addr)).map (·.add (0*ak)))=some ⟨b,0,none⟩:=by
     split
     ·rfl
     ·simp [Addr.add]
    rw [e0] at this;exact this
theorem Q74 {tt:TT} (hT:TOk P tt) {o:Oper} {c:Call} {x:Operand} {t:Nat} (ho:o.op = .call c) (hc:c.callee = .builtin .len) (ha:c.args.toList=[x]) (hat:c.argTypes.toList=[t]) {ev:Operand->AV} {hl:Nat->Option Ob} {n:Int} {rd:List Nat}
  (h:QbJ tt hl t (ev x)=some (n,rd)):Jn P E o ev hl ⟨.d (.int .i64 n),[],rd⟩:=by
 have ao:c.args = #[x]:=by rw [<- Array.toList_inj];simpa using ha
 have am:x∈o.op.operands.toList:=by simp [ho,Op.operands,Call.operands,hc,ao]
 unfold QbJ at h;split at h
 ·rename_i e ay hk;split at h
  ·rename_i s rows ak;cases h;refine Qj fun β S st a w hR hO hA=>?_
   obtain ⟨ad,cap,hx⟩:=(ak▸hO.at am).d_inv.len;exact ⟨_,GJ hT ho hc ha hat hk hx,.d _ _ (.int _ _)⟩
  ·rename_i ak;cases h;refine Qj fun β S st a w hR hO hA=>?_
   have hx:=(ak▸hO.at am).nil_inv;exact ⟨_,GJ hT ho hc ha hat hk hx,.d _ _ (.int _ _)⟩
  ·rename_i l ak;split at h
   ·rename_i e' s rows ar;cases h;refine Qj fun β S st a w hR hO hA=>?_
    have aw:look st.h l=some (.arr e' s rows):=by rw [hA l (.inl (by simp))];exact ar
    rcases RdA.arr_inv aw (ak▸hO.at am) with ⟨_,rfl,hx⟩ | ⟨b,cap,cs,ty,fz,_,hx,_⟩
    ·exact ⟨_,GJ hT ho hc ha hat hk hx,.d _ _ (.int _ _)⟩
    ·exact ⟨_,GJ hT ho hc ha hat hk hx,.d _ _ (.int _ _)⟩
   ·cases h
  ·cases h
 ·rename_i hk;split at h
  ·rename_i s ak;cases h;refine Qj fun β S st a w hR hO hA=>?_
   have hx:=(ak▸hO.at am).d_inv;generalize hy:a.eval x=y at hx;cases hx with
   |str s'=>
    refine ⟨_,Q1N hT ho hc ha hat hk hy,?_⟩;have:s'.data.toList.length=s'.size:=by show s'.data.toList.length=s'.data.size;exact QdE
    rw [this];exact .d _ _ (.int _ _)
  ·cases h
 ·cases h
theorem CA {ρ:Operand->Value} {ev:Operand->AV} {β:Nat->Option Nat} {S:Nat->Prop} {h:Nat->Option Ob} {w:World} {tm:Nat->Value} (isMin:Bool) :
  ∀ (r:List Operand) (av v:AV) (u:Value),RdA β S h w tm u av->(∀ x∈r,RdA β S h w tm (ρ x) (ev x))->E6 isMin av (r.map ev)=some v ->
   ∃ u',((r.map ρ).foldlM (if isMin then Builtin.min2 else Builtin.max2) u:Sem Value).run P w = .ok u' w/\RdA β S h w tm u' v
 |[],av,v,u,hu,_,hm=>by
  simp [E6] at hm;subst hm;exact ⟨u,by simp,hu⟩
 |x::r,av,v,u,hu,hr,hm=>by
  simp only [QdA] at hm;unfold E6 at hm;split at hm
  ·rename_i h1;cases h1
  ·rename_i k a k' b r' am;injection am with h1 h2
   cases hk:(k == k') with
   |false=>simp [hk] at hm
   |true=>
    obtain rfl:k=k':=by simpa using hk
    simp only [hk,Qdq] at hm;have an:=(h1▸hr x (by simp)).int_inv;have aq:=hu.int_inv;subst h2;obtain ⟨u',g1,g2⟩:=CA isMin r _ v (.int k (bif isMin then (if b<a then b else a) else (if a<b then b else a))) (.d _ _ (.int _ _)) (fun y hy=>hr y (by simp [hy])) hm;refine ⟨u',?_,g2⟩;simp only [QdA,List.foldlM_cons,Qds,aq,an];cases isMin with
    |true=>simp only [if_true,Builtin.min2,Sem.run_pure,Qdo] at g1 ⊢;exact g1
    |false=>simp only [Bool.false_eq_true,if_false,Builtin.max2,Sem.run_pure,Qdo] at g1 ⊢;exact g1
  ·cases hm
theorem Ds {o:Oper} {c:Call} {x:Operand} {r:List Operand} {isMin:Bool} (ho:o.op = .call c) (hc:c.callee = .builtin (if isMin then .min else .max)) (ha:c.args.toList=x::r) {ev:Operand->AV} {hl:Nat->Option Ob} {v:AV}
  (h:E6 isMin (ev x) (r.map ev)=some v):Jn P E o ev hl ⟨v,[],[]⟩:=by
 have am:∀ y,y∈c.args.toList->y∈o.op.operands.toList:=by
  intro y hy;simp only [ho,Op.operands,Call.operands,hc];simpa using hy
 refine Qj fun β S st a w hR hO hA=>?_
 obtain ⟨u,g1,g2⟩:=CA (P:=P) (ρ:=a.eval) isMin r (ev x) v (a.eval x) (hO.at (am x (by simp [ha]))) (fun y hy=>hO.at (am y (by simp [ha,hy]))) h;refine ⟨u,?_,g2⟩;have ak:(c.args.map a.eval).toList=a.eval x::r.map a.eval:=by rw [Array.toList_map,ha];rfl
 unfold execOp;rw [ho];cases isMin with
 |true=>
  simp only [if_true] at hc g1;simp only [resolve,hc,invoke,builtin,Builtin.min_,Qds,Sem.run_pure,Qdo,ak,g1]
 |false=>
  simp only [Bool.false_eq_true,if_false] at hc g1;simp only [resolve,hc,invoke,builtin,Builtin.max_,Qds,Sem.run_pure,Qdo,ak,g1]
theorem B7 {o:Oper} {f:Nat} {first ak:Array Operand} (ho:o.op = .makeFunc (.func f) first ak) (hf:first.toList=[]) {ev:Operand->AV} {hl:Nat->Option Ob}:Jn P E o ev hl ⟨.fn f (ak.toList.map ev),[],[]⟩:=by
 refine Qj fun β S st a w hR hO hA=>⟨.func (.func f) #[] (ak.map a.eval),?_,.fn f _ _ (by simp) fun i x hx=>?_⟩
 ·have:first = #[]:=by apply Array.ext';simpa using hf
  subst this;unfold execOp;rw [ho];simp [Instr.makeFunc]
 ·simp only [List.getElem?_map,Qdn] at hx;obtain ⟨y,hy,rfl⟩:=hx;have am:y∈o.op.operands.toList:=by
   have:y∈ak.toList:=List.mem_of_getElem? hy;simp only [ho,Op.operands];simp at this;simp [this]
  have hg:(ak.map a.eval).getD i undef=a.eval y:=by
   rw [Qdz] at hy;rw [Array.getD_eq_getD_getElem?,Array.getElem?_map,hy];rfl
  rw [hg];exact hO.at am
theorem NV {spec:Q1j} {tt:TT} (hS:Ll P spec) (hT:TOk P tt) {o:Oper} {a8:Nat} {g u:Bool} {ev:Operand->AV} {hl:Nat->Option Ob} {k:Dl->Option R} {r:R}
  (h:vdl spec tt a8 g u ev hl o.op k=some r):∃ dl,k dl=some r/\(g=true->Jn P E o ev hl dl):=by
 cases ho:o.op with
 |move x=>rw [ho] at h;simp only [vdl] at h;exact ⟨_,h,fun _=>Q0o (.inl ho)⟩
 |assign x=>rw [ho] at h;simp only [vdl] at h;exact ⟨_,h,fun _=>Q0o (.inr ho)⟩
 |pick c x y=>
  rw [ho] at h;simp only [vdl] at h;cases c with
  |tmp s=>
   simp only at h;split at h
   ·rename_i e he;split at h
    ·rename_i a b hx hy;exact ⟨_,h,fun _=>Q4B ho he hx hy⟩
    ·cases h
   ·cases h
  |_=>simp at h
 |alloc t=>
  rw [ho] at h;simp only [vdl] at h;split at h
  ·rename_i ti ao;cases u with
   |false=>simp at h
   |true=>
    simp only [Qdq] at h;split at h
    ·rename_i e au n hk;cases hb:Nat.beq ti.zd.length (n*au) with
     |false=>simp [hb] at h
     |true=>
      simp only [hb,Qdq] at h;obtain ⟨hn,h⟩:=WE h;exact ⟨_,h,fun _=>Q1C hT ho ao hk (Qdk hb) hn⟩
    ·obtain ⟨hn,h⟩:=WE h;exact ⟨_,h,fun _=>Q4p hT ho ao hn⟩
  ·cases h
 |box t x=>
  rw [ho] at h;simp only [vdl] at h;split at h
  ·rename_i ti ao;cases hc:(u&&(Nat.beq (Xr (ev x)).length ti.size&&(Xr (ev x)).all C8)) with
   |false=>simp [hc] at h
   |true=>
    simp only [hc,Qdq] at h;simp only [Qdl] at hc;obtain ⟨hn,h⟩:=WE h;exact ⟨_,h,fun _=>Q6A ho hc.2.2 hn⟩
  ·cases h
 |build t ay=>
  rw [ho] at h;simp only [vdl] at h;split at h
  ·rename_i ti ao;cases hs:Uf ti.kd with
   |false=>simp [hs] at h
   |true=>
    simp only [hs,Qdq] at h;split at h
    ·rename_i cs bh;exact ⟨_,h,fun _=>Q4b hT ho ao hs bh⟩
    ·cases h
  ·cases h
 |buildSlice t len ay=>
  rw [ho] at h;simp only [vdl] at h;obtain ⟨dl,h1,h2⟩:=Q1H hT ho h;exact ⟨dl,h1,fun _=>h2⟩
 |load t x=>rw [ho] at h;simp only [vdl] at h;exact Q4J hT ho h
 |store t x y=>
  rw [ho] at h;simp only [vdl] at h;cases u with
  |false=>simp at h
  |true=>
   simp only [Qdq] at h;split at h
   ·rename_i e au n l hk aq;obtain ⟨dl,h1,h2⟩:=Q1I hT ho hk aq h;exact ⟨dl,h1,fun _=>h2⟩
   ·obtain ⟨dl,h1,h2⟩:=Q44 hT ho h;exact ⟨dl,h1,fun _=>h2⟩
 |nilCheck x=>
  rw [ho] at h;simp only [vdl] at h;split at h
  ·rename_i l o' hv;exact ⟨_,h,fun _=>Mn ho hv⟩
  ·rename_i l o' hv;exact ⟨_,h,fun _=>F3 ho hv⟩
  ·rename_i l i o' hv;split at h
   ·rename_i ob bg;exact ⟨_,h,fun _=>Fs ho (by simp [bg]) hv⟩
   ·cases h
  ·cases h
 |binOp op t x y t'=>rw [ho] at h;simp only [vdl] at h;exact Q6C hT ho h
 |unOp op t x=>
  rw [ho] at h;simp only [vdl] at h;split at h
  ·rename_i v hv;exact ⟨_,h,fun _=>Q96 ho hv⟩
  ·cases h
 |convert s t x=>
  rw [ho] at h;simp only [vdl] at h;split at h
  ·rename_i ks kd h1 h2;split at h
   ·rename_i kn n h3;exact ⟨_,h,fun _=>Q1h hT ho h1 h2 h3⟩
   ·cases h
  ·rename_i e h1 h2;split at h
   ·rename_i h3;split at h
    ·rename_i rows rd h4;exact Q3O hT ho h1 h2 h3 h4 h
    ·cases h
   ·cases h
  ·rename_i h1 h2;split at h
   ·rename_i n h3;exact ⟨_,h,fun _=>BX hT ho h1 h2 h3⟩
   ·cases h
  ·rename_i e h1 h2;split at h
   ·rename_i h3;split at h
    ·rename_i n h4;exact ⟨_,h,fun _=>Bb hT ho h1 h2 h3 h4⟩
    ·cases h
   ·cases h
  ·cases h
 |lookup t m x c=>
  rw [ho] at h;cases c with
  |true=>simp [vdl] at h
  |false=>
   simp only [vdl] at h;split at h
   ·rename_i f n ht hm hx;exact ⟨_,h,fun _=>Q2j hT ho ht hm hx⟩
   ·rename_i l n ht hm hx;split at h
    ·rename_i t' f aw;exact ⟨_,h,fun _=>Q1e hT ho ht hm hx aw⟩
    ·cases h
   ·cases h
 |makeMap t q=>
  rw [ho] at h;cases q with
  |some q=>simp [vdl] at h
  |none=>
   simp only [vdl] at h;split at h
   ·cases u with
    |false=>simp at h
    |true=>
     simp only [Qdq] at h;obtain ⟨hn,h⟩:=WE h;exact ⟨_,h,fun _=>Q0H ho hn⟩
   ·cases h
 |mapUpdate t m x v=>
  rw [ho] at h;simp only [vdl] at h;split at h
  ·rename_i l n b ht hm hx hv;split at h
   ·rename_i t' f aw;cases u with
    |false=>simp at h
    |true=>
     simp only [Qdq] at h;exact ⟨_,h,fun _=>Cf hT ho ht hm hx hv aw⟩
   ·cases h
  ·cases h
 |makeFunc f first an=>
  rw [ho] at h;cases f with
  |func f=>
   simp only [vdl] at h;split at h
   ·rename_i ar;cases hc:UX (an.toList.map ev) with
    |false=>simp [hc] at h
    |true=>
     simp only [hc,Qdq] at h;exact ⟨_,h,fun _=>B7 ho ar⟩
   ·cases h
  |_=>simp [vdl] at h
 |makeSlice t l c=>
  rw [ho] at h;simp only [vdl] at h;obtain ⟨dl,h1,h2⟩:=Q5B hT ho h;exact ⟨dl,h1,fun _=>h2⟩
 |fieldAddr t x f=>
  rw [ho] at h;simp only [vdl] at h;obtain ⟨dl,h1,h2⟩:=DR hT ho h;exact ⟨dl,h1,fun _=>h2⟩
 |field t x f=>rw [ho] at h;simp only [vdl] at h;exact Q47 hT ho h
 |indexAddr t x i=>
  rw [ho] at h;simp only [vdl] at h;split at h
  ·rename_i e au n l hk aq;exact Ex hT ho hk aq h
  ·exact DW hT ho h
 |index t x i=>rw [ho] at h;simp only [vdl] at h;exact Q4o hT ho h
 |slice t x lo hi mx=>
  rw [ho] at h;cases mx with
  |none=>
   simp only [vdl] at h;split at h
   ·rename_i l aq;exact Q72 hT ho aq h
   ·exact Q4n hT ho h
  |some mx=>simp only [vdl] at h;exact Q2d hT ho h
 |extract x i=>
  rw [ho] at h;simp only [vdl] at h;split at h
  ·rename_i l hx;split at h
   ·rename_i v hv;exact ⟨_,h,fun _=>Q0l ho hx hv⟩
   ·cases h
  ·cases h
 |call c=>
  rw [ho] at h;simp only [vdl] at h;split at h
  ·rename_i f hc;exact Q0C hS (Q3F ho hc) h
  ·rename_i t hc;split at h
   ·rename_i f cap a6;exact Q0C hS (Q4l ho hc a6) h
   ·cases h
  ·rename_i hc;split at h
   ·rename_i x t ha hat;split at h
    ·rename_i n rd hn;exact ⟨_,h,fun _=>Q74 hT ho hc ha hat hn⟩
    ·cases h
   ·cases h
  ·rename_i hc;split at h
   ·rename_i x t ha hat;split at h
    ·rename_i e au hk a6;refine ⟨_,h,fun _=>Qj fun β S st a w hR hO hA=>?_⟩;have ax:c.args = #[x]:=by rw [<- Array.toList_inj];simpa using ha
     have bc:x∈o.op.operands.toList:=by simp [ho,Op.operands,Call.operands,hc,ax]
     exact ⟨_,Q1Y hT ho hc ha hat hk (a6▸hO.at bc).nil_inv,.d _ _ (.int _ _)⟩
    ·cases h
   ·cases h
  ·rename_i hc;split at h
   ·rename_i s x t t' ha hat;cases hb:Nat.beq t t' with
    |false=>simp only [hb,QdB] at h;exact AL hT ho hc ha hat h
    |true=>
     simp only [hb,Qdq] at h;obtain rfl:=Qdk hb;exact Q29 hT ho hc ha hat h
   ·cases h
  ·rename_i hc;split at h
   ·rename_i x r' ha;split at h
    ·rename_i v hv;exact ⟨_,h,fun _=>Ds (isMin:=true) ho hc ha hv⟩
    ·cases h
   ·cases h
  ·rename_i hc;split at h
   ·rename_i x r' ha;split at h
    ·rename_i v hv;exact ⟨_,h,fun _=>Ds (isMin:=false) ho hc ha hv⟩
    ·cases h
   ·cases h
  ·cases h
 |_=>rw [ho] at h;simp [vdl] at h
end

section
variable {P:Program} {E:Env} {R:Type}
theorem Q84 {d t:Nat} {tm:List (Nat × AV)} {av:AV} (h:look tm t=some av) (hn:Q5U d tm=false):gds d av=false:=by
 induction tm with
 |nil=>simp [look] at h
 |cons x r ih=>
  obtain ⟨k,b⟩:=x;simp only [Q5U,QdI] at hn;simp only [look] at h;cases hk:Nat.beq k t with
  |true=>simp [hk] at h;subst h;exact hn.1
  |false=>simp [hk] at h;exact ih h hn.2
theorem Q5l {a:Act} {d:Nat} {v:Value} (hd:d<a.tmps.size) (t:Nat):tmv (a.put (some d) v) t=if t=d then v else tmv a t:=by
 unfold tmv Act.put;simp only [Array.getD,Array.size_setIfInBounds];by_cases h:t<a.tmps.size
 ·simp only [h,dite_true];by_cases e:t=d
  ·subst e;simp
  ·rw [Qdx e];simp [h,Ne.symm e]
 ·have e:t≠d:=by omega
  simp [h,e]
theorem E9 {st:St} {a:Act} {w':World} {dl:Dl} {v:Value} {dst:Option Nat} (ho:AG st dl.v dst=true) (h:Out E st a dl v w'):T0 E (put st dst dl) (a.put dst v) w':=by
 obtain ⟨β,S,hR,hv⟩:=h;cases dst with
 |none=>exact ⟨β,S,hR.n,hR.dfr,hR.tm,hR.hr⟩
 |some d=>
  simp only [AG,Qdl,Qdt] at ho;obtain ⟨h1,h2,h3⟩:=ho;have hd:d<a.tmps.size:=by have:=QdK h1;have:=hR.n;simp at this;omega
  refine ⟨β,S,?_,hR.dfr,fun t av ht=>?_,hR.hr⟩
  ·show (a.tmps.setIfInBounds d v).size=st.n;simpa using hR.n
  ·simp only [put,Xv] at ht;have an:∀ (u:Value) (av:AV),gds d av=false->RdA β S (look (Pd st.h dl.wr)) w' (tmv a) u av->RdA β S (look (put st (some d) dl).h) w' (tmv (a.put (some d) v)) u av:=by
    intro u av hg hr;refine hr.mono (fun _ h=>h) (fun _ _=>rfl) (fun _ _=>Keep.rfl_ ..) (fun t' am=>?_);rw [Q5l hd,Qdx (fun e=>by subst e;rw [hg] at am;cases am)]
   rw [Q5l hd];by_cases e:t=d
   ·rw [QdJ e] at ht ⊢;injection ht with ht
    subst ht;exact an v _ h2 hv
   ·rw [Qdx e] at ht ⊢;exact an _ _ (Q84 ht h3) (hR.tm t av ht)
theorem Q15 {β:Nat->Option Nat} {S:Nat->Prop} {st:St} {a:Act} {w:World} (hR:Rel E β S st a w) (x:Operand):RdA β S (look st.h) w (tmv a) (a.eval x) (evO st.tm x):=by
 cases x with
 |tmp t=>
  simp only [evO,lkT];cases h:look st.tm t with
  |none=>exact .top _
  |some av=>exact hR.tm t av h
 |const v=>exact EQ v
 |global g=>exact .top _
 |func f=>exact .fn f #[] [] rfl (fun i x h=>by simp at h)
theorem Ta {tm:List (Nat × AV)} {s:Nat} {av:AV} (h:lkT tm s=av) (hn:av≠.top):look tm s=some av:=by
 unfold lkT at h;cases hl:look tm s with
 |none=>rw [hl] at h;exact absurd h.symm hn
 |some b=>rw [hl] at h;simpa using h
theorem Q5V {e w:Bool}:bw e w=true↔e=w:=by cases e <;> cases w <;> simp [bw]
theorem Ax {β:Nat->Option Nat} {S:Nat->Prop} {st:St} {a:Act} {w:World} (hR:Rel E β S st a w):∀ (f s:Nat) (b g:Bool) (ch:List (Nat × Bool)),ctx st.tm f s b=some (g,ch) ->
  (g=true↔tmv a s = .bool b)/\(g=true->∀ p∈ch,tmv a p.1 = .bool p.2)
 |0,s,b,g,ch,h=>by simp [ctx] at h
 |f+1,s,b,g,ch,h=>by
  unfold ctx at h;split at h
  ·rename_i e he;simp only [Option.some.injEq,Prod.mk.injEq] at h;obtain ⟨rfl,rfl⟩:=h;have hv:=(hR.tm s _ (Ta he (by simp))).bool_inv;have h1:bw e b=true↔tmv a s = .bool b:=by rw [Q5V,hv];simp
   exact ⟨h1,fun hg p hp=>by simp at hp;subst hp;exact h1.1 hg⟩
  ·rename_i s' w' e he;split at h
   ·rename_i g' l hc;simp only [Option.some.injEq,Prod.mk.injEq] at h;obtain ⟨rfl,rfl⟩:=h;obtain ⟨h1,h2⟩:=Ax hR f s' w' g' l hc;have hv:=(hR.tm s _ (Ta he (by simp))).gd_inv;rw [Qdl];have h3:(g'=true/\bw e b=true)↔tmv a s = .bool b:=by
     rcases hv with ⟨h4,h5⟩ | ⟨h4,h5⟩
     ·rw [h5.bool_inv,Q5V,h1];simp [h4]
     ·rw [h5,h1];constructor
      ·intro h;exact absurd h.1 h4
      ·intro h;cases h
    refine ⟨h3,fun hg p hp=>?_⟩;rcases Qdr.1 hp with rfl | hp
    ·exact h3.1 hg
    ·exact h2 hg.1 p hp
   ·cases h
  ·cases h
theorem Q0I {tm tm':List (Nat × AV)}:∀ (f s:Nat) (b g:Bool) (ch:List (Nat × Bool)),ctx tm f s b=some (g,ch)->(∀ p∈ch,lkT tm' p.1=lkT tm p.1)->ctx tm' f s b=some (g,ch)
 |0,s,b,g,ch,h,_=>by simp [ctx] at h
 |f+1,s,b,g,ch,h,hc=>by
  have hs:(s,b)∈ch:=by
   unfold ctx at h;split at h
   ·cases h;simp
   ·split at h
    ·cases h;simp
    ·cases h
   ·cases h
  have hl:=hc (s,b) hs;unfold ctx at h ⊢;simp only at hl;split at h
  ·rename_i e he;simp only [hl,he];exact h
  ·rename_i s' w' e he;split at h
   ·rename_i g' l ak;simp only [Option.some.injEq,Prod.mk.injEq] at h;obtain ⟨rfl,rfl⟩:=h;have:=Q0I f s' w' g' l ak (fun p hp=>hc p (by simp [hp]));simp only [hl,he,this]
   ·cases h
  ·cases h
theorem Q37 {s:Nat} {b:Bool}:∀ {l:List (Nat × Bool)},Q8Q l s b=true->(s,b)∈l
 |(x,y)::r,h=>by
  simp only [Q8Q,Qdy,Qdl] at h;rcases h with ⟨h1,h2⟩ | h
  ·obtain rfl:=Qdk h1;obtain rfl:y=b:=by simpa using h2
   simp
  ·simp [Q37 h]
theorem Qa0 {β:Nat->Option Nat} {S:Nat->Prop} {h:Nat->Option Ob} {w:World} {tm:Nat->Value} {v:Value} {av:AV} {ch:List (Nat × Bool)} (hc:∀ p∈ch,tm p.1 = .bool p.2) (hv:RdA β S h w tm v av):RdA β S h w tm v (unw ch av):=by
 cases av with
 |gd s b av=>
  simp only [unw];cases hg:Q8Q ch s b with
  |false=>simpa using hv
  |true=>
   simp only [Qdq];rcases hv.gd_inv with ⟨_,h⟩ | ⟨h,_⟩
   ·exact h
   ·exact absurd (hc _ (Q37 hg)) h
 |_=>exact hv
theorem Q57 {l:Nat} {ch:List (Nat × Bool)} {av:AV} (h:ZL l av=false):ZL l (unw ch av)=false:=by
 cases av with
 |gd s b av=>
  simp only [unw];cases Q8Q ch s b with
  |false=>exact h
  |true=>simpa [ZL] using h
 |_=>exact h
def Lo (P:Program) (E:Env) (am:Array Oper) (i:Nat) (rc:Rec) (lk:Nat->AV) (hl:Nat->Option Ob):Prop:=
 ∀ st a w,T0 E st a w->(∀ t,t∈rc.rt->lkT st.tm t=lk t)->(∀ l,l∈rc.dl.rd\/l∈wrL rc.dl->look st.h l=hl l)->AG st rc.dl.v rc.dst=true->Zi st rc.dl.wr=true ->
  ∀ Q:Exit->Act->World->Prop,wpOp P am Q i (fun a' w'=>T0 E (put st rc.dst rc.dl) a' w') a w
def Q0z (st:St) (rc:Rec):Prop:=AG st rc.dl.v rc.dst=true/\Zi st rc.dl.wr=true
theorem Co {t:Nat}:∀ {l:List Operand},Operand.tmp t∈l->t∈Hq l
 |x::r,h=>by
  rcases Qdr.1 h with rfl | h
  ·simp [Hq]
  ·have:=Co h;cases x <;> simp [Hq,this]
theorem BC {tm tm':List (Nat × AV)} {o:Oper} {ch:List Nat} (h:∀ t,t∈Hq o.op.operands.toList++ch->lkT tm' t=lkT tm t) {x:Operand} (hx:x∈o.op.operands.toList):evO tm' x=evO tm x:=by
 cases x with
 |tmp t=>exact h t (by simp [Co hx])
 |_=>rfl
theorem Cl {am:Array Oper} {i:Nat} {o:Oper} (hi:am[i]? = some o) (hg:o.guard=none) {tm:List (Nat × AV)} {hl:Nat->Option Ob} {dl:Dl} (ak:Jn P E o (evO tm) hl dl) :
  Lo P E am i ⟨Hq o.op.operands.toList++[],o.dst,dl⟩ (lkT tm) hl:=by
 intro st a w ⟨β,S,hR⟩ hlk hA hd hcw Q;unfold wpOp;simp only [hi,Region.wanted,hg,if_true];left;refine ak β S st a w hR (fun x hx=>?_) hA hcw _ _ fun v w' an=>E9 hd an
 rw [<- BC hlk hx];exact ⟨Q15 hR x,fun l hc=>CV hc x⟩
theorem Rz {ak:Array Oper} {j s:Nat} {a:Act} {b:Bool} (hs:(ak[j]?).bind (·.dst)=some s):(yielded ak a.tmps j == some b)=true↔tmv a s = .bool b:=by
 unfold yielded tmv;rw [hs];simp only [Option.bind_some,Array.getD];by_cases h:s<a.tmps.size
 ·simp only [h,dite_true,QdF h];cases hv:a.tmps[s] <;> simp [hv]
 ·rw [Array.getElem?_eq_none (by omega)];simp only [h,dite_false];constructor
  ·intro h;cases h
  ·intro h;cases h
theorem Q2x {R:Type} {c:Bool} {x:Option R} {r:R} (h:(bif c then x else none)=some r):c=true/\x=some r:=by
 cases c with
 |true=>exact ⟨rfl,h⟩
 |false=>cases h
theorem Qba {g:Bool} {x y z:D} (h:jD g x y=some z):z=bif g then x else y:=by
 unfold jD at h;split at h
 ·rename_i k a k' b
  replace h:=Q2x h
  obtain ⟨hk,h⟩:=h;have:k=k':=by revert hk;cases k <;> cases k' <;> decide
  subst this;injection h with h
  subst h;cases g <;> rfl
 ·injection h with h;subst h;cases g <;> rfl
 ·injection h with h;subst h;cases g <;> rfl
 ·replace h:=Q2x h
  obtain ⟨hk,h⟩:=h;have:=Qdk hk;subst this;injection h with h
  subst h;cases g <;> rfl
 ·cases h
theorem QbO {g:Bool} {x y z:AV} (h:jA g x y=some z):z=bif g then x else y:=by
 unfold jA at h;split at h
 ·split at h
  ·rename_i hz;injection h with h
   subst h;rw [Qba hz];cases g <;> rfl
  ·cases h
 ·injection h with h;subst h;cases g <;> rfl
 ·replace h:=Q2x h
  obtain ⟨hk,h⟩:=h;simp only [Qdl] at hk;have h1:=Qdk hk.1;have h2:=Qdk hk.2;subst h1 h2;injection h with h
  subst h;cases g <;> rfl
 ·cases h
theorem Q8s {g:Bool}:∀ {x y z:List AV},jL g x y=some z->z=bif g then x else y
 |[],[],z,h=>by simp only [jL,Option.some.injEq] at h;subst h;cases g <;> rfl
 |[],_::_,z,h=>by simp [jL] at h
 |_::_,[],z,h=>by simp [jL] at h
 |a::r,b::s,z,h=>by
  simp only [jL] at h;split at h
  ·rename_i c hc;split at h
   ·rename_i t ht;injection h with h
    subst h;rw [QbO hc,Q8s ht];cases g <;> rfl
   ·cases h
  ·cases h
theorem B1 {hl:Nat->Option Ob}:∀ {wr ak:List (Nat × Option Ob)},jW true hl wr=some ak->ak=wr
 |[],_,h=>by simp only [jW,Option.some.injEq] at h;exact h.symm
 |(l,some (.box an))::r,ak,h=>by
  simp only [jW] at h;split at h
  ·split at h
   ·rename_i c hc;split at h
    ·rename_i t ht;injection h with h
     subst h;rw [Q8s hc,B1 ht];rfl
    ·cases h
   ·cases h
  ·cases h
 |(l,some (.arr e s rows))::r,ak,h=>by
  simp only [jW] at h;split at h
  ·split at h
   ·rename_i t ht;injection h with h
    subst h;rw [B1 ht];rfl
   ·cases h
  ·cases h
 |(l,none)::r,ak,h=>by
  simp only [jW] at h;split at h
  ·rename_i t ht;injection h with h
   subst h;rw [B1 ht]
  ·cases h
def Qbs (hl:Nat->Option Ob) (l:Nat) (o:Option Ob):Prop:=o=hl l\/o=none\/(hl l=none/\∃ e s,o=some (.arr e s []))
theorem E0 {hl:Nat->Option Ob}:∀ {wr ak:List (Nat × Option Ob)},jW false hl wr=some ak->∀ p,p∈ak->Qbs hl p.1 p.2
 |[],_,h,p,hp=>by simp only [jW,Option.some.injEq] at h;subst h;cases hp
 |(l,some (.box an))::r,ak,h,p,hp=>by
  simp only [jW] at h;split at h
  ·rename_i old ho;split at h
   ·rename_i c hc;split at h
    ·rename_i t ht;injection h with h
     subst h;rcases Qdr.1 hp with rfl | hp
     ·rw [Q8s hc];exact .inl ho.symm
     ·exact E0 ht p hp
    ·cases h
   ·cases h
  ·cases h
 |(l,some (.arr e s rows))::r,ak,h,p,hp=>by
  simp only [jW] at h;split at h
  ·rename_i hn;split at h
   ·rename_i t ht;injection h with h
    subst h;rcases Qdr.1 hp with rfl | hp
    ·exact .inr (.inr ⟨hn,e,s,rfl⟩)
    ·exact E0 ht p hp
   ·cases h
  ·cases h
 |(l,none)::r,ak,h,p,hp=>by
  simp only [jW] at h;split at h
  ·rename_i t ht;injection h with h
   subst h;rcases Qdr.1 hp with rfl | hp
   ·exact .inr (.inl rfl)
   ·exact E0 ht p hp
  ·cases h
theorem CD {Q:Nat->Option Ob->Prop}:∀ {wr:List (Nat × Option Ob)} {f:Nat->Option Ob} {l:Nat},(∀ p,p∈wr->Q p.1 p.2)->l∈wr.map (·.1)->Q l (VQ f wr l)
 |(k,o)::r,f,l,h,hl=>by
  by_cases hr:l∈r.map (·.1)
  ·exact CD (wr:=r) (fun p hp=>h p (by simp [hp])) hr
  ·have hk:l=k:=by simpa [hr] using hl
   subst hk;rw [VQ,Wy hr];simpa using h (l,o) (by simp)
theorem Q0Z {st:St} {l:Nat} {o:Ob}:∀ {wr:List (Nat × Option Ob)},Zi st wr=true->(l,some o)∈wr->look st.h l=none->Wn st l=true
 |(k,o')::r,h,hm,hn=>by
  simp only [Zi,Qdl] at h;rcases Qdr.1 hm with he | hm
  ·injection he with h1 h2
   subst h1 h2;have:=h.1;rw [hn] at this;exact this
  ·exact Q0Z h.2 hm hn
theorem NG:∀ {wr:List (Nat × Option Ob)} {f:Nat->Option Ob} {l:Nat} {o:Ob},l∈wr.map (·.1)->VQ f wr l=some o->(l,some o)∈wr
 |(k,o')::r,f,l,o,hl,h=>by
  by_cases hr:l∈r.map (·.1)
  ·exact List.mem_cons_of_mem _ (NG (wr:=r) hr h)
  ·have hk:l=k:=by simpa [hr] using hl
   subst hk;rw [VQ,Wy hr] at h;simp at h;simp [h]
theorem Q78 {β:Nat->Option Nat} {S:Nat->Prop} {st:St} {a:Act} {w:World} (hR:Rel E β S st a w) {wr:List (Nat × Option Ob)} (hw:∀ p,p∈wr->Qbs (look st.h) p.1 p.2) (hc:Zi st wr=true) :
  ∃ β',Rel E β' S ⟨st.n,st.tm,Pd st.h wr⟩ a w:=by
 have am:look (Pd st.h wr)=VQ (look st.h) wr:=G5 wr st.h;have ao:∀ l,VQ (look st.h) wr l=look st.h l\/(VQ (look st.h) wr l=none/\l∈wr.map (·.1))\/(look st.h l=none/\l∈wr.map (·.1)/\∃ e s,VQ (look st.h) wr l=some (.arr e s [])):=by
  intro l;by_cases hl:l∈wr.map (·.1)
  ·rcases CD (f:=look st.h) hw hl with h | h | ⟨h1,h2⟩
   ·exact .inl h
   ·exact .inr (.inl ⟨h,hl⟩)
   ·exact .inr (.inr ⟨h1,hl,h2⟩)
  ·exact .inl (Wy hl)
 let β':Nat->Option Nat:=fun l=>if look st.h l=none/\(VQ (look st.h) wr l).isSome=true then none else β l
 have hβ:∀ l,(VQ (look st.h) wr l=look st.h l)->β' l=β l:=by
  intro l h;show (if look st.h l=none/\(VQ (look st.h) wr l).isSome=true then none else β l)=β l;rw [Qdx];rintro ⟨h1,h2⟩;rw [h,h1] at h2;cases h2
 have ak:∀ l b,(look (Pd st.h wr) l).isSome=true->β' l=some b->(look st.h l).isSome=true/\β l=some b:=by
  intro l b h1 h2;rw [am] at h1;have an:(if look st.h l=none/\(VQ (look st.h) wr l).isSome=true then none else β l)=some b:=h2;by_cases hn:look st.h l=none/\(VQ (look st.h) wr l).isSome=true
  ·rw [QdJ hn] at an;cases an
  ·rw [Qdx hn] at an;refine ⟨?_,an⟩;cases hx:look st.h l with
   |none=>exact absurd ⟨hx,h1⟩ hn
   |some _=>rfl
 refine ⟨β',hR.upd (H':=Pd st.h wr) (w':=w) (S':=S) (β':=β') (fun _ h=>h) (fun _ _=>rfl) (fun l=>¬ VQ (look st.h) wr l=look st.h l) (fun l hl=>?_) (fun l hl=>?_) (fun l o hl ho=>?_) ?_ ?_ ?_ hR.hr.sb hR.hr.sfr hR.hr.fr⟩
 ·have hl:=Classical.not_not.1 hl;exact ⟨hβ l hl,by rw [am];exact hl,fun _ _ _=>rfl⟩
 ·rcases ao l with h | ⟨h,hm⟩ | ⟨h1,hm,e,s,h2⟩
  ·exact absurd h hl
  ·left;refine ⟨?_,fun _=>by rw [am];exact h,fun e s rows _=>.inl (by rw [am];exact h),fun b cs ty fz hs=>(by rw [am,h] at hs;cases hs),fun _ _ _=>.inl (by rw [am];exact h)⟩;show (if look st.h l=none/\(VQ (look st.h) wr l).isSome=true then none else β l)=β l;rw [Qdx];rintro ⟨_,h2⟩;rw [h] at h2;cases h2
  ·right;exact Q0Z hc (NG hm h2) h1
 ·rcases ao l with h | ⟨h,hm⟩ | ⟨h1,hm,e,s,h2⟩
  ·exact absurd h hl
  ·rw [am,h] at ho;cases ho
  ·rw [am,h2] at ho;injection ho with ho
   subst ho;refine .inl ⟨?_,rfl⟩;show (if look st.h l=none/\(VQ (look st.h) wr l).isSome=true then none else β l)=none;rw [QdJ ⟨h1,by rw [h2];rfl⟩]
 ·intro l l' b h1 h2 h3 h4;obtain ⟨a1,a2⟩:=ak l b h1 h3;obtain ⟨b1,b2⟩:=ak l' b h2 h4;exact hR.hr.inj l l' b a1 b1 a2 b2
 ·intro l b h1 h2;obtain ⟨a1,a2⟩:=ak l b h1 h2;exact hR.hr.apart l b a1 a2
 ·intro l b h1 h2;obtain ⟨a1,a2⟩:=ak l b h1 h2;exact hR.hr.own l b a1 a2
theorem As {ao:Array Oper} {i j s:Nat} {b:Bool} {o:Oper} (hi:ao[i]? = some o) (hg:o.guard=some (j,b)) (hs:(ao[j]?).bind (·.dst)=some s) {tm:List (Nat × AV)} {hl:Nat->Option Ob} {g:Bool} {ch:List (Nat × Bool)} (ar:ctx tm 40 s b=some (g,ch)) {dl:Dl} {wr:List (Nat × Option Ob)} (hw:jW g hl dl.wr=some wr)
  (am:g=true->Jn P E o (fun x=>unw ch (evO tm x)) hl dl) :
  Lo P E ao i ⟨Hq o.op.operands.toList++ch.map (·.1),o.dst,⟨.gd s b dl.v,wr,dl.rd⟩⟩ (lkT tm) hl:=by
 intro st a w ⟨β,S,hR⟩ hlk hA hd hcw Q;have aq:=Q0I 40 s b g ch ar (tm':=st.tm) (fun p hp=>hlk p.1 (by simp only [List.mem_append,QdG];exact .inr ⟨p,hp,rfl⟩));obtain ⟨h1,h2⟩:=Ax hR 40 s b g ch aq;have hy:=Rz (a:=a) (b:=b) hs;unfold wpOp;simp only [hi,Region.wanted,hg];cases g with
 |true=>
  have ak:=h1.1 rfl;rw [QdJ (hy.2 ak)];left;obtain rfl:=B1 hw;refine am rfl β S st a w hR (fun x hx=>?_) (fun l h=>hA l h) hcw _ _ fun v w' au=>?_
  ·have he:=BC hlk hx;show RdA _ _ _ _ _ _ (unw ch (evO tm x))/\∀ l,Wn st l=true->ZL l (unw ch (evO tm x))=false;rw [<- he];exact ⟨Qa0 (h2 rfl) (Q15 hR x),fun l hc=>Q57 (CV hc x)⟩
  ·refine E9 hd ?_;obtain ⟨β',S',an,hv⟩:=au;exact ⟨β',S',an,.gdT _ _ _ _ ak hv⟩
 |false=>
  have ak:¬ tmv a s = .bool b:=fun h=>by have:=h1.2 h;cases this
  rw [Qdx (fun h=>ak (hy.1 h))];obtain ⟨β',an⟩:=Q78 hR (wr:=wr) (fun p hp=>by
   have:=E0 hw p hp;have he:look st.h p.1=hl p.1:=hA p.1 (.inr (QdG.2 ⟨p,hp,rfl⟩));unfold Qbs at this ⊢;rw [he];exact this) hcw
  exact E9 hd ⟨β',S,an,.gdF _ _ _ ak⟩
theorem Pm {st:St} {o:Oper} {ch:List Nat} {dl:Dl} {k:St->Rec->Option R} {r:R} (h:Q82 st o ch dl k=some r) :
  Q0z st ⟨Hq o.op.operands.toList++ch,o.dst,dl⟩/\k (put st o.dst dl) ⟨Hq o.op.operands.toList++ch,o.dst,dl⟩=some r:=by
 unfold Q82 at h;cases hc:(AG st dl.v o.dst&&Zi st dl.wr) with
 |false=>simp [hc] at h
 |true=>
  simp only [hc,Qdq] at h;simp only [Qdl] at hc;exact ⟨hc,h⟩
theorem Q24 {spec:Q1j} {tt:TT} (hS:Ll P spec) (hT:TOk P tt) {am:Array Oper} {i:Nat} {o:Oper} (hi:am[i]? = some o) {st:St} {k:St->Rec->Option R} {r:R} (h:Q8L spec tt am o st k=some r) :
  ∃ rc,k (put st rc.dst rc.dl) rc=some r/\rc.dst=o.dst/\Q0z st rc/\Lo P E am i rc (lkT st.tm) (look st.h):=by
 unfold Q8L at h;split at h
 ·rename_i hg;obtain ⟨dl,h,ak⟩:=NV (E:=E) hS hT h;obtain ⟨hs,hk⟩:=Pm h;exact ⟨_,hk,rfl,hs,Cl hi hg (ak rfl)⟩
 ·rename_i j b hg;split at h
  ·rename_i s hs;split at h
   ·rename_i g ch ao;obtain ⟨dl,h,ak⟩:=NV (E:=E) hS hT h;split at h
    ·rename_i wr hw;obtain ⟨aq,hk⟩:=Pm h;exact ⟨_,hk,rfl,aq,As hi hg hs ao hw ak⟩
    ·cases h
   ·cases h
  ·cases h
def Do (P:Program) (E:Env) (ak:Array Oper):Nat->St->List Rec->St->Prop
 |_,st,[],st'=>st'=st
 |i,st,rc::rs,st'=>(∃ o,ak[i]? = some o/\rc.dst=o.dst)/\Q0z st rc/\Lo P E ak i rc (lkT st.tm) (look st.h)/\Do P E ak (i+1) (put st rc.dst rc.dl) rs st'
theorem CL {spec:Q1j} {tt:TT} (hS:Ll P spec) (hT:TOk P tt) {ak:Array Oper} {R:Type}:∀ (l:List Oper) (i:Nat) (st:St) (acc:List Rec) (k:St->List Rec->Option R) (r:R),(∀ j,l[j]? = ak[i+j]?) ->
  Qak spec tt ak l st acc k=some r->∃ recs st',recs.length=l.length/\k st' (acc++recs)=some r/\Do P E ak i st recs st'
 |[],i,st,acc,k,r,_,h=>⟨[],st,rfl,by simpa [Qak] using h,rfl⟩
 |o::l,i,st,acc,k,r,hl,h=>by
  have h0:ak[i]? = some o:=by simpa using (hl 0).symm
  simp only [Qak] at h;obtain ⟨rc,h,hd,hs,am⟩:=Q24 (E:=E) hS hT h0 h;obtain ⟨recs,st',h1,h2,h3⟩:=CL hS hT l (i+1) _ _ k r (fun j=>by have:=hl (j+1);simpa [Nat.add_assoc,Nat.add_comm 1 j] using this) h;exact ⟨rc::recs,st',by simp [h1],by simpa using h2,⟨o,h0,hd⟩,hs,am,h3⟩
theorem EG {s:Nat} {b:Bool}:∀ {tm:List (Nat × AV)},lkT tm s = .d (.bool b)->Q0c s b tm=tm
 |[],h=>by simp [lkT,look] at h
 |(t,a)::r,h=>by
  simp only [Q0c];cases ht:Nat.beq t s with
  |true=>
   simp only [lkT,look,ht,Qdq,QdD] at h;rw [Qdq,h]
  |false=>
   simp only [lkT,look,ht,QdB] at h;rw [QdB,EG (tm:=r) h]
theorem Q1B {am:Array Oper} {i j s:Nat} {b:Bool} {o:Oper} (hi:am[i]? = some o) (hg:o.guard=some (j,b)) (hs:(am[j]?).bind (·.dst)=some s) {tm:List (Nat × AV)} {hl:Nat->Option Ob} (an:lkT tm s = .d (.bool b)) {dl:Dl} (ak:Jn P E o (evO tm) hl dl) :
  Lo P E am i ⟨Hq o.op.operands.toList++[s],o.dst,dl⟩ (lkT tm) hl:=by
 intro st a w ⟨β,S,hR⟩ hlk hA hd hcw Q;have aq:tmv a s = .bool b:=by
  have h1:=Q15 hR (.tmp s);rw [show evO st.tm (.tmp s)=lkT st.tm s from rfl,hlk s (by simp),an] at h1;exact h1.bool_inv
 unfold wpOp;simp only [hi,Region.wanted,hg];rw [QdJ ((Rz hs).2 aq)];left;refine ak β S st a w hR (fun x hx=>?_) hA hcw _ _ fun v w' ao=>E9 hd ao
 rw [<- BC hlk hx];exact ⟨Q15 hR x,fun l hc=>CV hc x⟩
theorem Q69 {am:Array Oper} {i j s:Nat} {b c:Bool} {o:Oper} (hi:am[i]? = some o) (hg:o.guard=some (j,b)) (hs:(am[j]?).bind (·.dst)=some s) {tm:List (Nat × AV)} {hl:Nat->Option Ob} (an:lkT tm s = .d (.bool c)) (ao:c≠b) {av:AV} :
  Lo P E am i ⟨Hq o.op.operands.toList++[s],o.dst,⟨.gd s b av,[],[]⟩⟩ (lkT tm) hl:=by
 intro st a w ⟨β,S,hR⟩ hlk hA hd hcw Q;have aq:tmv a s = .bool c:=by
  have h1:=Q15 hR (.tmp s);rw [show evO st.tm (.tmp s)=lkT st.tm s from rfl,hlk s (by simp),an] at h1;exact h1.bool_inv
 have ak:¬ tmv a s = .bool b:=by rw [aq];intro h;injection h with h;exact ao h
 unfold wpOp;simp only [hi,Region.wanted,hg];rw [Qdx (fun h=>ak ((Rz hs).1 h))];exact E9 hd ⟨β,S,hR,.gdF _ _ _ ak⟩
theorem Dt {spec:Q1j} {tt:TT} (hS:Ll P spec) (hT:TOk P tt) {am:Array Oper} {R:Type}:∀ (l:List Oper) (i:Nat) (st:St) (acc:List Rec) (k:St->List Rec->Option R) (r:R),(∀ j,l[j]? = am[i+j]?) ->
  CU spec tt am l st acc k=some r->∃ recs st',recs.length=l.length/\k st' (acc++recs)=some r/\Do P E am i st recs st'
 |[],i,st,acc,k,r,_,h=>⟨[],st,rfl,by simpa [CU] using h,rfl⟩
 |o::l,i,st,acc,k,r,hl,h=>by
  have h0:am[i]? = some o:=by simpa using (hl 0).symm
  have next:∀ rc,rc.dst=o.dst->Q0z st rc->Lo P E am i rc (lkT st.tm) (look st.h)->CU spec tt am l (put st rc.dst rc.dl) (acc++[rc]) k=some r->∃ recs st',recs.length=(o::l).length/\k st' (acc++recs)=some r/\Do P E am i st recs st':=by
   intro rc hd hs aw h;obtain ⟨recs,st',h1,h2,h3⟩:=Dt hS hT l (i+1) _ _ k r (fun j=>by have:=hl (j+1);simpa [Nat.add_assoc,Nat.add_comm 1 j] using this) h;exact ⟨rc::recs,st',by simp [h1],by simpa using h2,⟨o,h0,hd⟩,hs,aw,h3⟩
  have one:∀ (j s:Nat) (w c:Bool),o.guard=some (j,w)->(am[j]?).bind (·.dst)=some s->lkT st.tm s = .d (.bool c)->Q3w spec tt o s w c st (fun st' rec=>CU spec tt am l st' (acc++[rec]) k)=some r->∃ recs st',recs.length=(o::l).length/\k st' (acc++recs)=some r/\Do P E am i st recs st':=by
   intro j s w c hg hs ak h;unfold Q3w at h;cases hb:(bif c then w else !w) with
   |true=>
    simp only [hb,Qdq] at h;have ar:c=w:=by revert hb;cases c <;> cases w <;> decide
    subst ar;obtain ⟨dl,h,an⟩:=NV (E:=E) hS hT h;obtain ⟨ao,hk⟩:=Pm h;exact next _ rfl ao (Q1B h0 hg hs ak (an rfl)) hk
   |false=>
    simp only [hb,QdB] at h;have ar:c≠w:=by revert hb;cases c <;> cases w <;> decide
    obtain ⟨ao,hk⟩:=Pm h;exact next _ rfl ao (Q69 h0 hg hs ak ar) hk
  rw [CU] at h;split at h
  ·rename_i hg;obtain ⟨dl,h,an⟩:=NV (E:=E) hS hT h;obtain ⟨ao,hk⟩:=Pm h;exact next _ rfl ao (Cl h0 hg (an rfl)) hk
  ·rename_i j w hg;split at h
   ·rename_i s hs;split at h
    ·rename_i c ak;cases c with
     |true=>
      simp only [Qdq,EG ak] at h;exact one j s w true hg hs ak h
     |false=>
      simp only [QdB,EG ak] at h;exact one j s w false hg hs ak h
    ·cases h
   ·cases h
theorem Q4F {an:Array Oper} {Q:Exit->Act->World->Prop} {st':St} (hQ:∀ a w,T0 E st' a w->Q .normal a w):∀ (recs:List Rec) (i:Nat) (st:St) (a:Act) (w:World),Do P E an i st recs st'->T0 E st a w ->
  wpOps P an Q (List.range' i recs.length) a w
 |[],i,st,a,w,h,hR=>by
  simp only [Do] at h;subst h;exact hQ a w hR
 |rc::rs,i,st,a,w,h,hR=>by
  obtain ⟨_,hs,ak,am⟩:=h;simp only [List.length_cons,List.range'_succ];rw [wpOps_cons];exact wpOp_mono (fun a' w' ao=>Q4F hQ rs (i+1) _ a' w' am ao) (ak st a w hR (fun _ _=>rfl) (fun _ _=>rfl) hs.1 hs.2 Q)
end

section
variable {P:Program} {E:Env} {R:Type}
def Lst (listed:Array Bool) (i:Nat):Prop:=listed.getD i false=true
def Q6J (listed:Array Bool) (es:List Edge):Prop:=∀ e∈es,Region.binds .any e=true->Lst listed e.on
def Q64 (ak:List Oper) (listed:Array Bool):Prop:=∀ (j:Nat) (o:Oper),ak[j]? = some o->Lst listed j->Q6J listed o.after.toList
theorem CH (acc:List Nat) (i:Nat):∀ (es:List Edge) (s:Nat),(Q0O acc es s).testBit i=true->s.testBit i=true\/∃ e∈es,Region.binds .any e=true/\(e.on=i\/(acc.getD e.on 0).testBit i=true)
 |[],s,h=>.inl h
 |e::r,s,h=>by
  simp only [Q0O] at h;rcases CH acc i r _ h with h1 | ⟨e',h1,h2⟩
  ·cases hb:Region.binds .any e with
   |false=>rw [hb] at h1;exact .inl (by simpa using h1)
   |true=>
    rw [hb] at h1;simp only [Qdq,Nat.testBit_or,Qdy] at h1;rcases h1 with (h1 | h1) | h1
    ·exact .inl h1
    ·refine .inr ⟨e,by simp,hb,.inl ?_⟩;rw [Nat.testBit_two_pow] at h1;simpa using h1
    ·exact .inr ⟨e,by simp,hb,.inr h1⟩
  ·exact .inr ⟨e',by simp [h1],h2⟩
theorem Q3C (ak:List Oper):∀ (l:List Oper) (acc:List Nat),(∀ k,l[k]? = ak[acc.length+k]?) ->
  (∀ (j i m:Nat) (o:Oper),acc[j]? = some m->ak[j]? = some o->m.testBit i=true->∀ listed,Q64 ak listed->Q6J listed o.after.toList->Lst listed i) ->
  (A2 l acc).length=acc.length+l.length /\
  ∀ (j i m:Nat) (o:Oper),(A2 l acc)[j]? = some m->ak[j]? = some o->m.testBit i=true->∀ listed,Q64 ak listed->Q6J listed o.after.toList->Lst listed i
 |[],acc,_,h=>⟨by simp [A2],h⟩
 |o::l,acc,hl,h=>by
  have h0:ak[acc.length]? = some o:=by simpa using (hl 0).symm
  have:=Q3C ak l (acc++[Q0O acc o.after.toList 0]) (fun k=>by
   have:=hl (k+1);simp only [List.getElem?_cons_succ] at this;rw [this];simp;congr 1;omega) (fun j i m o' h1 h2 h3 listed hc hp=>by
   by_cases hj:j<acc.length
   ·rw [List.getElem?_append_left hj] at h1;exact h j i m o' h1 h2 h3 listed hc hp
   ·have au:j=acc.length:=by
     have:=(Qdm.1 h1).1;simp at this;omega
    subst au;rw [List.getElem?_append_right (Nat.le_refl _)] at h1;simp at h1;subst h1;rw [h0] at h2;injection h2 with h2
    subst h2;rcases CH acc i _ _ h3 with h4 | ⟨e,h4,h5,h6⟩
    ·simp at h4
    ·have ao:=hp e h4 h5;rcases h6 with h6 | h6
     ·rw [<- h6];exact ao
     ·by_cases he:e.on<acc.length
      ·obtain ⟨m',an⟩:∃ m',acc[e.on]? = some m':=⟨_,Qdp he⟩;have aq:e.on<ak.length:=by
        have:=(Qdm.1 h0).1;omega
       have ho:=Qdp aq;refine h e.on i m' _ an ho ?_ listed hc (hc e.on _ ho ao);rw [List.getD_eq_getElem?_getD,an] at h6;simpa using h6
      ·rw [List.getD_eq_getElem?_getD,QdL (by omega)] at h6;simp at h6)
  simpa [A2,Nat.add_assoc,Nat.add_comm 1 l.length] using this
def Ma (listed:Array Bool):Nat->St->List Rec->St
 |_,st,[]=>st
 |i,st,rc::rs=>Ma listed (i+1) (bif listed.getD i false then put st rc.dst rc.dl else st) rs
def lkA (listed:Array Bool) (t:Nat):Nat->AV->List Rec->AV
 |_,v,[]=>v
 |i,v,rc::rs=>lkA listed t (i+1) (if listed.getD i false=true/\rc.dst=some t then rc.dl.v else v) rs
def hA (listed:Array Bool):Nat->(Nat->Option Ob)->List Rec->Nat->Option Ob
 |_,h,[]=>h
 |i,h,rc::rs=>hA listed (i+1) (if listed.getD i false=true then VQ h rc.dl.wr else h) rs
theorem Q4P (st:St) (dst:Option Nat) (dl:Dl) (t:Nat):lkT (put st dst dl).tm t=if dst=some t then dl.v else lkT st.tm t:=by
 cases dst with
 |none=>simp [put]
 |some d=>
  simp only [put,lkT,Xv,Option.some.injEq];by_cases e:t=d
  ·subst e;simp
  ·rw [Qdx e,Qdx (fun h=>e h.symm)]
theorem R8 (listed:Array Bool) (t:Nat):∀ (recs:List Rec) (i:Nat) (st:St),lkT (Ma listed i st recs).tm t=lkA listed t i (lkT st.tm t) recs
 |[],_,_=>rfl
 |rc::rs,i,st=>by
  simp only [Ma,lkA];rw [R8 listed t rs];congr 1;cases hl:listed.getD i false with
  |true=>simp [Q4P]
  |false=>simp
theorem Lh (listed:Array Bool):∀ (recs:List Rec) (i:Nat) (st:St),look (Ma listed i st recs).h=hA listed i (look st.h) recs
 |[],_,_=>rfl
 |rc::rs,i,st=>by
  simp only [Ma,hA];rw [Lh listed rs];congr 1;cases hl:listed.getD i false with
  |true=>simp [put,G5]
  |false=>simp
theorem CE (listed:Array Bool):∀ (recs:List Rec) (i:Nat) (st:St),(Ma listed i st recs).n=st.n
 |[],_,_=>rfl
 |rc::rs,i,st=>by
  simp only [Ma];rw [CE listed rs];cases listed.getD i false <;> rfl
theorem M4 {L1 L2:Array Bool} {t:Nat}:∀ (recs:List Rec) (i:Nat) (v:AV),(∀ k rc,recs[k]? = some rc->rc.dst=some t->(Lst L1 (i+k)↔Lst L2 (i+k)))->lkA L1 t i v recs=lkA L2 t i v recs
 |[],_,_,_=>rfl
 |rc::rs,i,v,h=>by
  simp only [lkA];have h0:=h 0 rc rfl;have:(if L1.getD i false=true/\rc.dst=some t then rc.dl.v else v)=if L2.getD i false=true/\rc.dst=some t then rc.dl.v else v:=by
   by_cases hd:rc.dst=some t
   ·have:=h0 hd;simp only [Lst,Nat.add_zero] at this;simp only [this]
   ·simp [hd]
  rw [this];exact M4 rs (i+1) _ fun k am hk hd=>by
   have:=h (k+1) am (by simpa using hk) hd;rw [show i+1+k=i+(k+1) from by omega];exact this
theorem FV {L1 L2:Array Bool} {l:Nat}:∀ (recs:List Rec) (i:Nat) (h1 h2:Nat->Option Ob),h1 l=h2 l->(∀ k rc,recs[k]? = some rc->l∈wrL rc.dl->(Lst L1 (i+k)↔Lst L2 (i+k)))->hA L1 i h1 recs l=hA L2 i h2 recs l
 |[],_,_,_,he,_=>he
 |rc::rs,i,h1,h2,he,h=>by
  simp only [hA];refine FV rs (i+1) _ _ ?_ fun k an hk hd=>by
   have:=h (k+1) an (by simpa using hk) hd;rw [show i+1+k=i+(k+1) from by omega];exact this
  by_cases hd:l∈wrL rc.dl
  ·have:=h 0 rc rfl hd;simp only [Lst,Nat.add_zero] at this;by_cases hl:L1.getD i false=true
   ·rw [QdJ hl,QdJ (this.1 hl)];exact Q32 hd
   ·rw [Qdx hl,Qdx (fun h=>hl (this.2 h))];exact he
  ·have e1:∀ (c:Prop) [Decidable c] (f:Nat->Option Ob),(if c then VQ f rc.dl.wr else f) l=f l:=by
    intro c _ f;split
    ·exact Wy hd
    ·rfl
   rw [e1,e1];exact he
theorem T0.same {st st':St} {a:Act} {w:World} (h:T0 E st a w) (hn:st'.n=st.n) (ht:∀ t,lkT st'.tm t=lkT st.tm t) (hh:look st'.h=look st.h):T0 E st' a w:=by
 obtain ⟨β,S,hR⟩:=h;refine ⟨β,S,by rw [hn];exact hR.n,hR.dfr,fun t av ak=>?_,by rw [hh];exact hR.hr⟩;rw [hh];have h1:lkT st.tm t=av:=by rw [<- ht t];simp [lkT,ak]
 unfold lkT at h1;cases hl:look st.tm t with
 |none=>rw [hl] at h1;simp at h1;subst h1;exact .top _
 |some b=>rw [hl] at h1;simp at h1;subst h1;exact hR.tm t _ hl
end

section
variable {P:Program} {E:Env} {R:Type}
theorem FK {x:Nat}:∀ {l:List Nat},Kp x l=true↔x∈l
 |[]=>by simp [Kp]
 |a::r=>by
  simp only [Kp,Qdy,Qdr,FK (l:=r)];constructor
  ·rintro (h | h)
   ·exact .inl (Qdk h).symm
   ·exact .inr h
  ·rintro (h | h)
   ·subst h;exact .inl (Nat.beq_refl _)
   ·exact .inr h
theorem TE {a b:List Nat} {x:Nat} (h1:x∈a) (h2:x∈b):GH a b=true:=by
 unfold GH;rw [List.any_eq_true];exact ⟨x,h1,Da h2⟩
theorem Mz {i:Nat} {a:Rec} {news:List Nat}:∀ {rs:List Rec} {ms:List Nat},Mc i a news rs ms=true->∀ (k:Nat) (b:Rec),rs[k]? = some b->∃ m,ms[k]? = some m /\
  (Zc a b=true\/(∃ l∈news,NQ l b=true)\/Q9e a.dst b.dl.v=true->m.testBit i=true)
 |[],_,_,k,b,hb=>by simp at hb
 |b0::r,[],h,k,b,hb=>by simp [Mc] at h
 |b0::r,m::ms,h,k,b,hb=>by
  simp only [Mc,Qdl] at h;cases k with
  |zero=>
   simp at hb;subst hb;refine ⟨m,rfl,fun hc=>?_⟩;have h1:=h.1;have:(Zc a b0||(news.any fun l=>NQ l b0)||Q9e a.dst b0.dl.v)=true:=by
    simp only [Qdy,List.any_eq_true];rcases hc with hc | hc | hc
    ·exact .inl (.inl hc)
    ·exact .inl (.inr hc)
    ·exact .inr hc
   rw [this] at h1;simpa using h1
  |succ k=>exact Mz h.2 k b (by simpa using hb)
theorem SC {am:St} {ak:List Nat}:∀ {wr:List (Nat × Option Ob)} {l:Nat},l∈Ki am ak wr->ZI l wr=true
 |[],l,h=>by simp [Ki] at h
 |(k,o)::r,l,h=>by
  unfold Ki at h;split at h
  ·cases hm:Kp k ak with
   |true=>simp only [hm,Qdq] at h;simp [ZI,SC h]
   |false=>
    simp only [hm,QdB,Qdr] at h;rcases h with rfl | h
    ·simp [ZI]
    ·simp [ZI,SC h]
  ·simp [ZI,SC h]
theorem AO {am:St} {ak:List Nat} {l:Nat} (hn:look am.h l=none) (hs:l ∉ ak):∀ {wr:List (Nat × Option Ob)},ZI l wr=true->l∈Ki am ak wr
 |(k,o)::r,h=>by
  simp only [ZI,Qdy,Qdl] at h;by_cases hk:k=l/\o.isSome=true
  ·obtain ⟨rfl,ho⟩:=hk;obtain ⟨o',rfl⟩:=Qdu.1 ho;have hm:Kp k ak=false:=by
    cases hm:Kp k ak with
    |false=>rfl
    |true=>exact absurd (FK.1 hm) hs
   simp [Ki,hn,hm]
  ·have hr:ZI l r=true:=by
    rcases h with ⟨h1,h2⟩ | h
    ·exact absurd ⟨Qdk h2,h1⟩ hk
    ·exact h
   have:=AO hn hs hr;unfold Ki;split
   ·cases Kp k ak <;> simp [this]
   ·exact this
theorem Ri {ao:St}:∀ {rs:List Rec} {i:Nat} {an:List Rec} {am:List Nat} {ms:List Nat},RM ao i an am rs ms=true->∀ (k:Nat) (a:Rec),rs[k]? = some a ->
  ∃ ak,(∀ l∈ak,l∈am\/∃ k' b,k'<k/\rs[k']? = some b/\ZI l b.dl.wr=true)/\Mc (i+k) a (Ki ao ak a.dl.wr) (rs.drop (k+1)) (ms.drop (k+1))=true /\
   ∀ l∈Ki ao ak a.dl.wr,Wn ao l=true/\(∀ b∈an,NQ l b=false)/\∀ k' b,k'<k->rs[k']? = some b->NQ l b=false
 |[],i,an,am,ms,_,k,a,ha=>by simp at ha
 |a0::r,i,an,am,[],h,k,a,ha=>by simp [RM] at h
 |a0::r,i,an,am,m::ms,h,k,a,ha=>by
  simp only [RM,Qdl] at h;obtain ⟨⟨h1,h2⟩,h3⟩:=h;cases k with
  |zero=>
   simp at ha;subst ha;refine ⟨am,fun l hl=>.inl hl,by simpa using h1,fun l hl=>?_⟩;rw [List.all_eq_true] at h2;have:=h2 l hl;simp only [Qdl,List.all_eq_true,Qdt] at this;exact ⟨this.1,this.2,fun k' b hk=>by omega⟩
  |succ k=>
   obtain ⟨ak,g1,g2,g3⟩:=Ri h3 k a (by simpa using ha);refine ⟨ak,fun l hl=>?_,?_,fun l hl=>?_⟩
   ·rcases g1 l hl with g | ⟨k',b,g4,g5,g6⟩
    ·rcases List.mem_append.1 g with g | g
     ·exact .inl g
     ·exact .inr ⟨0,a0,by omega,rfl,SC g⟩
    ·exact .inr ⟨k'+1,b,by omega,by simpa using g5,g6⟩
   ·rw [show i+(k+1)=i+1+k from by omega];simpa using g2
   ·obtain ⟨g4,g5,g6⟩:=g3 l hl;refine ⟨g4,fun b hb=>g5 b (by simp [hb]),fun k' b hk hb=>?_⟩;cases k' with
    |zero=>simp at hb;subst hb;exact g5 a0 (by simp)
    |succ k'=>exact g6 k' b (by omega) (by simpa using hb)
theorem TH {l:Nat}:∀ {wr:List (Nat × Option Ob)},ZI l wr=true->l∈wr.map (·.1)
 |(k,o)::r,h=>by
  simp only [ZI,Qdy,Qdl] at h;rcases h with ⟨_,h2⟩ | h
  ·simp [Qdk h2]
  ·simp only [QdA,Qdr];exact .inr (TH h)
theorem MW {l:Nat}:∀ {wr:List (Nat × Option Ob)} {h:Nat->Option Ob},(∀ o,(l,o)∈wr->o.isSome=true)->(h l).isSome=true\/ZI l wr=true->(VQ h wr l).isSome=true
 |[],h,_,hs=>by
  rcases hs with hs | hs
  ·exact hs
  ·simp [ZI] at hs
 |(k,o)::r,h,hn,hs=>by
  simp only [VQ];refine MW (fun o' ak=>hn o' (by simp [ak])) ?_;by_cases e:l=k
  ·subst e;left;rw [QdJ rfl];exact hn o (by simp)
  ·rw [Qdx e];rcases hs with hs | hs
   ·exact .inl hs
   ·simp only [ZI,Qdy,Qdl] at hs;rcases hs with ⟨_,h2⟩ | hs
    ·exact absurd (Qdk h2).symm e
    ·exact .inr hs
theorem Q2z {recs:List Rec} {l:Nat}:∀ {wr:List (Nat × Option Ob)},Q7U recs wr=true->(l,none)∈wr->∀ b∈recs,ZI l b.dl.wr=false
 |(k,o)::r,h,hm,b,hb=>by
  rcases Qdr.1 hm with e | ak
  ·injection e with e1 e2
   subst e1;subst e2;simp only [Q7U,Qdl,List.all_eq_true,Qdt] at h;exact h.1 b hb
  ·cases o with
   |none=>simp only [Q7U,Qdl] at h;exact Q2z h.2 ak b hb
   |some o=>simp only [Q7U] at h;exact Q2z h ak b hb
theorem Q7E:∀ {recs:List Rec} (k:Nat) (b:Rec),rmL recs=true->recs[k]? = some b->Q7U (recs.drop k) b.dl.wr=true
 |a::r,0,b,h,hb=>by
  simp only [rmL,Qdl] at h;simp at hb;subst hb;exact h.1
 |a::r,k+1,b,h,hb=>by
  simp only [rmL,Qdl] at h;exact Q7E k b h.2 (by simpa using hb)
theorem Ag {listed:Array Bool} {l:Nat}:∀ (recs:List Rec) (i:Nat) (h:Nat->Option Ob),(∀ k b,recs[k]? = some b->Lst listed (i+k)->∀ o,(l,o)∈b.dl.wr->o.isSome=true)->((h l).isSome=true\/∃ k b,recs[k]? = some b/\Lst listed (i+k)/\ZI l b.dl.wr=true)->(hA listed i h recs l).isSome=true
 |[],i,h,_,hs=>by
  rcases hs with hs | ⟨k,b,hb,_⟩
  ·exact hs
  ·simp at hb
 |rc::rs,i,h,hn,hs=>by
  simp only [hA];refine Ag rs (i+1) _ (fun k b hb hl=>hn (k+1) b (by simpa using hb) (by rw [show i+(k+1)=i+1+k from by omega];exact hl)) ?_;rcases hs with hs | ⟨k,b,hb,hl,ho⟩
  ·left;split
   ·rename_i ak;exact MW (hn 0 rc rfl (by simpa [Lst] using ak)) (.inl hs)
   ·exact hs
  ·cases k with
   |zero=>
    simp at hb;subst hb;left;rw [QdJ (by simpa [Lst] using hl)];exact MW (hn 0 rc rfl hl) (.inr ho)
   |succ k=>exact .inr ⟨k,b,by simpa using hb,by rw [show i+1+k=i+(k+1) from by omega];exact hl,ho⟩
theorem Q4r {l:Nat} {st:St} {dst:Option Nat} {dl:Dl} (h1:LC l st.tm=false) (h2:ZL l dl.v=false):LC l (put st dst dl).tm=false:=by
 cases dst <;> simp [put,LC,h1,h2]
theorem HM {l:Nat}:∀ {wr:List (Nat × Option Ob)} {h:List (Nat × Ob)},UT l h=false->K5 l wr=false->UT l (Pd h wr)=false
 |[],h,h1,_=>h1
 |(k,none)::r,h,h1,h2=>by simp only [Pd];exact HM (WN h1) (by simpa [K5] using h2)
 |(k,some (.box c))::r,h,h1,h2=>by
  simp only [K5,QdI] at h2;simp only [Pd];exact HM (by simp [UT,h2.1,WN h1]) h2.2
 |(k,some (.arr e s rows))::r,h,h1,h2=>by
  simp only [K5] at h2;simp only [Pd];exact HM (by simp [UT,WN h1]) h2
 |(k,some (.mp t f))::r,h,h1,h2=>by
  simp only [K5] at h2;simp only [Pd];exact HM (by simp [UT,WN h1]) h2
theorem Q02 {listed:Array Bool} {l:Nat}:∀ (recs:List Rec) (i:Nat) (st:St),Wn st l=true->(∀ k b,recs[k]? = some b->Lst listed (i+k)->NQ l b=false)->Wn (Ma listed i st recs) l=true
 |[],_,_,h,_=>h
 |rc::rs,i,st,h,hn=>by
  simp only [Ma];refine Q02 rs (i+1) _ ?_ fun k b hb hl=>hn (k+1) b (by simpa using hb) (by rw [show i+(k+1)=i+1+k from by omega];exact hl)
  cases hl:listed.getD i false with
  |false=>exact h
  |true=>
   have:=hn 0 rc rfl hl;simp only [NQ,QdI] at this;simp only [Wn,Qdl,Qdt] at h ⊢;exact ⟨h.1,Q4r h.2.1 this.1,by simp only [Qdq,put];exact HM h.2.2 this.2⟩
theorem Q2I {listed:Array Bool} {d:Nat}:∀ (recs:List Rec) (i:Nat) (st:St),Q5U d st.tm=false->(∀ k b,recs[k]? = some b->Lst listed (i+k)->b.dst≠none->gds d b.dl.v=false)->Q5U d (Ma listed i st recs).tm=false
 |[],_,_,h,_=>h
 |rc::rs,i,st,h,hn=>by
  simp only [Ma];refine Q2I rs (i+1) _ ?_ fun k b hb hl=>hn (k+1) b (by simpa using hb) (by rw [show i+(k+1)=i+1+k from by omega];exact hl)
  cases hl:listed.getD i false with
  |false=>exact h
  |true=>
   cases hd:rc.dst with
   |none=>simpa [put] using h
   |some d'=>simp [put,Q5U,h,hn 0 rc rfl hl (by simp [hd])]
theorem Q3p {listed:Array Bool} {d:Nat}:∀ (recs:List Rec) (i:Nat) (st:St),Q5U d (Ma listed i st recs).tm=false->Q5U d st.tm=false/\∀ k b,recs[k]? = some b->Lst listed (i+k)->b.dst≠none->gds d b.dl.v=false
 |[],_,_,h=>⟨h,fun k b hb=>by simp at hb⟩
 |rc::rs,i,st,h=>by
  simp only [Ma] at h;obtain ⟨h1,h2⟩:=Q3p rs (i+1) _ h;refine ⟨?_,fun k b hb hl hd=>?_⟩
  ·cases hl:listed.getD i false with
   |false=>rw [hl] at h1;simpa using h1
   |true=>
    rw [hl] at h1;cases hd:rc.dst with
    |none=>simpa [put,hd] using h1
    |some d'=>simp only [Qdq,put,hd,Q5U,QdI] at h1;exact h1.2
  ·cases k with
   |zero=>
    simp at hb;subst hb;have am:listed.getD i false=true:=by simpa [Lst] using hl
    rw [am] at h1;cases ak:rc.dst with
    |none=>exact absurd ak hd
    |some d'=>simp only [Qdq,put,ak,Q5U,QdI] at h1;exact h1.1
   |succ k=>exact h2 k b (by simpa using hb) (by rw [show i+1+k=i+(k+1) from by omega];exact hl) hd
def Q5m (st:St):Nat->List Rec->St
 |0,_=>st
 |_,[]=>st
 |i+1,rc::rs=>Q5m (put st rc.dst rc.dl) i rs
theorem Q2S {ak:Array Oper} {st':St}:∀ {recs:List Rec} {i:Nat} {st:St},Do P E ak i st recs st'->∀ (k:Nat) (rc:Rec),recs[k]? = some rc ->
  (∃ o,ak[i+k]? = some o/\rc.dst=o.dst)/\Q0z (Q5m st k recs) rc/\Lo P E ak (i+k) rc (lkT (Q5m st k recs).tm) (look (Q5m st k recs).h)
 |[],_,_,_,k,rc,h=>by simp at h
 |r0::rs,i,st,hr,k,rc,h=>by
  obtain ⟨h1,h2,h3,h4⟩:=hr;cases k with
  |zero=>simp at h;subst h;exact ⟨h1,h2,h3⟩
  |succ k=>
   have:=Q2S h4 k rc (by simpa using h);rw [show i+1+k=i+(k+1) from by omega] at this;exact this
theorem RU {ak:Array Oper} {st':St}:∀ {recs:List Rec} {i:Nat} {st:St},Do P E ak i st recs st'->st'=Q5m st recs.length recs
 |[],_,_,h=>h
 |_::rs,_,_,h=>RU (recs:=rs) h.2.2.2
def P1 (n k:Nat):Array Bool:=(Array.range n).map fun i=>decide (i<k)
theorem JJ {n k i:Nat} (hi:i<n):Lst (P1 n k) i↔i<k:=by
 unfold Lst P1;simp [hi]
theorem RR {n:Nat}:∀ (recs:List Rec) (i k:Nat) (st:St),i+recs.length<=n->Q5m st k recs=Ma (P1 n (i+k)) i st recs
 |[],i,k,st,_=>by cases k <;> rfl
 |rc::rs,i,0,st,h=>by
  simp only [List.length_cons] at h;simp only [Q5m,Ma];have h0:¬ Lst (P1 n (i+0)) i:=by rw [JJ (by omega)];omega
  have:(P1 n (i+0)).getD i false=false:=by simpa [Lst] using h0
  rw [this];simp only [QdB];have:∀ (rs:List Rec) (j:Nat) (st:St),i<j->j+rs.length<=n->Ma (P1 n i) j st rs=st:=by
   intro rs;induction rs with
   |nil=>intro j st _ _;rfl
   |cons x r am=>
    intro j st hj hn;simp only [List.length_cons] at hn;simp only [Ma];have h0:¬ Lst (P1 n i) j:=by rw [JJ (by omega)];omega
    have:(P1 n i).getD j false=false:=by simpa [Lst] using h0
    rw [this];exact am (j+1) st (by omega) (by omega)
  exact (this rs (i+1) st (by omega) (by omega)).symm
 |rc::rs,i,k+1,st,h=>by
  simp only [List.length_cons] at h;simp only [Q5m,Ma];have h0:Lst (P1 n (i+(k+1))) i:=by rw [JJ (by omega)];omega
  have:(P1 n (i+(k+1))).getD i false=true:=h0;rw [this];simp only [Qdq];rw [RR (n:=n) rs (i+1) k _ (by omega),show i+1+k=i+(k+1) from by omega]
end

section
variable {P:Program} {E:Env} {R:Type}
theorem Q3v {L:Array Bool} {t:Nat} {v0:AV}:∀ (recs:List Rec) (i k:Nat) (rc:Rec) (v:AV),recs[k]? = some rc->Lst L (i+k)->rc.dst=some t->rc.dl.v=v0->(∀ k' b,k<k'->recs[k']? = some b->Lst L (i+k')->b.dst≠some t)->lkA L t i v recs=v0
 |[],i,k,rc,v,h,_,_,_,_=>by simp at h
 |r0::rs,i,0,rc,v,h,hl,hd,hv,hlast=>by
  simp at h;subst h;simp only [lkA];have am:L.getD i false=true:=by simpa [Lst] using hl
  rw [QdJ ⟨am,hd⟩,hv];have:∀ (rs:List Rec) (j:Nat),(∀ k' b,rs[k']? = some b->Lst L (j+k')->b.dst≠some t)->lkA L t j v0 rs=v0:=by
   intro rs;induction rs with
   |nil=>intro j _;rfl
   |cons x r ih=>
    intro j hj;simp only [lkA];rw [Qdx (fun h=>hj 0 x rfl h.1 h.2)];exact ih (j+1) fun k' b hb hl=>hj (k'+1) b (by simpa using hb) (by rw [show j+(k'+1)=j+1+k' from by omega];exact hl)
  exact this rs (i+1) fun k' b hb hl=>hlast (k'+1) b (by omega) (by simpa using hb) (by rw [show i+(k'+1)=i+1+k' from by omega];exact hl)
 |r0::rs,i,k+1,rc,v,h,hl,hd,hv,hlast=>by
  simp only [lkA];exact Q3v rs (i+1) k rc _ (by simpa using h) (by rw [show i+1+k=i+(k+1) from by omega];exact hl) hd hv fun k' b hk hb am=>hlast (k'+1) b (by omega) (by simpa using hb) (by rw [show i+(k'+1)=i+1+k' from by omega];exact am)
theorem Q4W {L:Array Bool} {l:Nat} (h0:Nat->Option Ob):∀ (recs:List Rec) (i k:Nat) (rc:Rec) (h:Nat->Option Ob),recs[k]? = some rc->Lst L (i+k)->l∈wrL rc.dl->(∀ k' b,k<k'->recs[k']? = some b->Lst L (i+k')->l ∉ wrL b.dl)->hA L i h recs l=VQ h0 rc.dl.wr l
 |[],i,k,rc,h,hb,_,_,_=>by simp at hb
 |r0::rs,i,0,rc,h,hb,hl,hd,hlast=>by
  simp at hb;subst hb;simp only [hA];have am:L.getD i false=true:=by simpa [Lst] using hl
  rw [QdJ am];have:∀ (rs:List Rec) (j:Nat) (f:Nat->Option Ob),(∀ k' b,rs[k']? = some b->Lst L (j+k')->l ∉ wrL b.dl)->hA L j f rs l=f l:=by
   intro rs;induction rs with
   |nil=>intro j f _;rfl
   |cons x r ih=>
    intro j f hj;simp only [hA];rw [ih (j+1) _ fun k' b hb hl=>hj (k'+1) b (by simpa using hb) (by rw [show j+(k'+1)=j+1+k' from by omega];exact hl)];split
    ·rename_i hx;exact Wy (hj 0 x rfl hx)
    ·rfl
  rw [this rs (i+1) _ fun k' b hb hl=>hlast (k'+1) b (by omega) (by simpa using hb) (by rw [show i+(k'+1)=i+1+k' from by omega];exact hl)];exact Q32 hd
 |r0::rs,i,k+1,rc,h,hb,hl,hd,hlast=>by
  simp only [hA];exact Q4W h0 rs (i+1) k rc _ (by simpa using hb) (by rw [show i+1+k=i+(k+1) from by omega];exact hl) hd fun k' b hk ao am=>hlast (k'+1) b (by omega) (by simpa using ao) (by rw [show i+(k'+1)=i+1+k' from by omega];exact am)
theorem Q0X {st:St}:∀ {wr:List (Nat × Option Ob)},(∀ l o,(l,some o)∈wr->look st.h l=none->Wn st l=true)->Zi st wr=true
 |[],_=>rfl
 |(l,o)::r,h=>by
  simp only [Zi,Qdl];refine ⟨?_,Q0X fun l' o' hm=>h l' o' (by simp [hm])⟩;cases o with
  |none=>rfl
  |some o=>
   cases hs:look st.h l with
   |some o'=>rfl
   |none=>exact h l o (by simp) hs
theorem Cz {l:Nat} {o:Ob}:∀ {wr:List (Nat × Option Ob)},(l,some o)∈wr->ZI l wr=true
 |(k,o')::r,h=>by
  rcases Qdr.1 h with e | h'
  ·injection e with e1 e2;subst e1;subst e2;simp [ZI]
  ·simp [ZI,Cz h']
theorem Q11 {p q:Nat->Bool} {i:Nat}:∀ {l:List Nat},i∈l->(∀ x∈l,q x=true->p x=true)->p i=true->q i=false->l.countP q<l.countP p
 |a::r,hm,ak,hp,hq=>by
  have hr:r.countP q<=r.countP p:=List.countP_mono_left fun x hx=>ak x (by simp [hx])
  simp only [List.countP_cons];rcases Qdr.1 hm with rfl | am
  ·simp [hp,hq];omega
  ·have:=Q11 am (fun x hx=>ak x (by simp [hx])) hp hq;have h1:=ak a (by simp);cases an:q a
   ·simp;split <;> omega
   ·simp [h1 an];omega
theorem Ec {listed:Array Bool} {i j:Nat} (hi:i<listed.size):Lst (listed.setIfInBounds i true) j↔j=i\/Lst listed j:=by
 unfold Lst;simp only [Array.getD,Array.size_setIfInBounds];by_cases hj:j<listed.size
 ·simp only [hj,dite_true];by_cases e:j=i
  ·subst e;simp
  ·simp [hj,e,Ne.symm e]
 ·have:j≠i:=by omega
  simp [hj,this]
theorem Q4g {es:List Edge} {i:Nat} (h:Bj es i=true) (e:Edge) (hm:e∈es) (hb:Region.binds .any e=true):e.on<i:=by
 induction es with
 |nil=>simp at hm
 |cons e0 r ih=>
  simp only [Bj,Qdl,Qdy,Qdt] at h;rcases Qdr.1 hm with h0 | ak
  ·subst h0;rcases h.1 with h1 | h1
   ·rw [hb] at h1;cases h1
   ·have:=QdK h1;omega
  ·exact ih h.2 ak
theorem NH {l:List Oper} (k:Nat) (o:Oper) (e:Edge) (he:e∈o.after.toList) (hb:Region.binds .any e=true):∀ i,Si l i=true->l[k]? = some o->e.on<i+k:=by
 induction l generalizing k with
 |nil=>intro i _ ho;simp at ho
 |cons o0 r ih=>
  intro i h ho;simp only [Si,Qdl] at h;cases k with
  |zero=>simp at ho;subst ho;exact Q4g h.1 e he hb
  |succ k=>
   have:=ih k (i+1) h.2 (by simpa using ho);omega
theorem Dr {ak:Array Oper} {listed:Array Bool} {i:Nat} (ao:listed.size=ak.size):i∈Region.ready .any ak listed↔∃ o,ak[i]? = some o/\¬ Lst listed i/\Q6J listed o.after.toList:=by
 unfold Region.ready;simp only [List.mem_filter,List.mem_range,Qdl,Qdt];constructor
 ·rintro ⟨h1,h2,h3⟩;have ho:=QdF h1;refine ⟨_,ho,?_,?_⟩
  ·unfold Lst;have hi:i<listed.size:=by omega
   simp only [Array.getD,hi,dite_true] at h2 ⊢;rw [h2];simp
  ·rw [ho] at h3;simp only [Option.map_some,QdD,Array.all_eq_true_iff_forall_mem,Qdy,Qdt] at h3;intro e he hb;rcases h3 e (by simpa using he) with h4 | h4
   ·rw [hb] at h4;cases h4
   ·exact h4
 ·rintro ⟨o,ho,hn,hp⟩;have h1:=(Qdv.1 ho).1;have hi:i<listed.size:=by omega
  refine ⟨h1,?_,?_⟩
  ·unfold Lst at hn;simp only [Array.getD,hi,dite_true] at hn ⊢;simpa using hn
  ·rw [ho];simp only [Option.map_some,QdD,Array.all_eq_true_iff_forall_mem,Qdy,Qdt];intro e he;cases hb:Region.binds .any e with
   |false=>exact .inl rfl
   |true=>exact .inr (hp e (by simpa using he) hb)
theorem Q6q {ak:Array Oper} {am st':St} {recs:List Rec} {Q:Exit->Act->World->Prop} (cq:recs.length=ak.size) (a6:Do P E ak 0 am recs st') (hd:Ay am ak.toList recs=true) (hQ:∀ a w,T0 E st' a w->Q .normal a w) :
  ∀ (au:Nat) (listed:Array Bool) (a:Act) (w:World),listed.size=ak.size->Q64 ak.toList listed->(List.range ak.size).countP (fun i=>!listed.getD i false)<=au->T0 E (Ma listed 0 am recs) a w->wpAny P .any ak Q au listed a w:=by
 simp only [Ay,Qdl] at hd;obtain ⟨⟨bk,a8⟩,ce⟩:=hd;obtain ⟨cj,bm⟩:=Q3C ak.toList ak.toList [] (fun k=>by simp) (fun j i m o h1=>by simp at h1);simp only [List.length_nil,QdC,QdE] at cj;have b6:∀ listed:Array Bool,listed.size=ak.size->Region.ready .any ak listed=[]->∀ i,i<ak.size->Lst listed i:=by
  intro listed ay hr i;induction i using Nat.strongRecOn with
  |ind i ih=>
   intro hi;by_cases hl:Lst listed i
   ·exact hl
   ·exfalso;have ho:=QdF hi;have:i∈Region.ready .any ak listed:=(Dr ay).2 ⟨_,ho,hl,fun e he hb=>ih e.on (by
     have:=NH i _ e he hb 0 bk (by rw [Qdz];exact ho);omega) (by
     have:=NH i _ e he hb 0 bk (by rw [Qdz];exact ho);omega)⟩
    rw [hr] at this;simp at this
 have bx:∀ (listed:Array Bool) (a:Act) (w:World),(∀ i,i<ak.size->Lst listed i)->T0 E (Ma listed 0 am recs) a w->Q .normal a w:=by
  intro listed a w hl hR;refine hQ a w (hR.same ?_ (fun t=>?_) ?_)
  ·rw [RU a6,RR (n:=ak.size) recs 0 _ am (by omega),CE,CE]
  ·rw [RU a6,RR (n:=ak.size) recs 0 _ am (by omega),R8,R8];refine M4 recs 0 _ fun k rc hk _=>?_
   have bp:=(Qdm.1 hk).1;rw [JJ (by omega)];exact ⟨fun _=>hl _ (by omega),fun _=>by omega⟩
  ·rw [RU a6,RR (n:=ak.size) recs 0 _ am (by omega),Lh,Lh];funext l;refine FV recs 0 _ _ rfl fun k rc hk _=>?_
   have bp:=(Qdm.1 hk).1;rw [JJ (by omega)];exact ⟨fun _=>hl _ (by omega),fun _=>by omega⟩
 intro au;induction au with
 |zero=>
  intro listed a w ay bn b3 hR;have hl:∀ i,i<ak.size->Lst listed i:=by
   intro i hi;have h0:(List.range ak.size).countP (fun i=>!listed.getD i false)=0:=by omega
   rw [List.countP_eq_zero] at h0;have:=h0 i (by simpa using hi);simpa [Lst] using this
  refine ⟨?_,bx listed a w hl hR⟩;cases hr:Region.ready .any ak listed with
  |nil=>rfl
  |cons x xs=>
   exfalso;obtain ⟨o,ho,hn,_⟩:=(Dr ay).1 (by rw [hr];simp:x∈Region.ready .any ak listed);exact hn (hl x (Qdv.1 ho).1)
 |succ au ih=>
  intro listed a w ay bn b3 hR;refine ⟨fun hr=>bx listed a w (b6 listed ay hr) hR,fun i hi=>?_⟩;obtain ⟨o,ho,bc,b8⟩:=(Dr ay).1 hi;have b4:=(Qdv.1 ho).1;obtain ⟨rc,ar⟩:∃ rc,recs[i]? = some rc:=⟨_,Qdp (by omega)⟩;obtain ⟨⟨o',cg,cp⟩,b2,bi⟩:=Q2S a6 i rc ar;simp only [QdC] at cg bi;have bl:∀ (j m:Nat),(A2 ak.toList [])[i]? = some m->m.testBit j=true->Lst listed j:=fun j m h1 h2=>bm i j m o h1 (by rw [Qdz];exact ho) h2 listed bn b8
  have a7:∀ (j m:Nat),(A2 ak.toList [])[j]? = some m->j<ak.size->m.testBit i=true->¬ Lst listed j:=fun j m h1 h2 h3 hl=>by
   have bh:=QdF h2;exact bc (bm j i m _ h1 (by rw [Qdz];exact bh) h3 listed bn (bn j _ (by rw [Qdz];exact bh) hl))
  have bg:∀ (p q:Nat) (x y:Rec),p<q->recs[p]? = some x->recs[q]? = some y->∃ m,(A2 ak.toList [])[q]? = some m/\(Zc x y=true\/Q9e x.dst y.dl.v=true->m.testBit p=true):=by
   intro p q x y c7 hx hy;obtain ⟨bd,_,g2,_⟩:=Ri a8 p x hx;obtain ⟨m,hm,hc⟩:=Mz g2 (q-(p+1)) y (by rw [Qdw,show p+1+(q-(p+1))=q from by omega];exact hy);rw [Qdw,show p+1+(q-(p+1))=q from by omega] at hm;refine ⟨m,hm,fun h=>?_⟩;have:=hc (by rcases h with h | h;exact .inl h;exact .inr (.inr h));simpa using this
  have bq:∀ (j:Nat) (b:Rec),j<i->recs[j]? = some b->Zc b rc=true->Lst listed j:=fun j b hj hb hc=>by
   obtain ⟨m,hm,h1⟩:=bg j i b rc hj hb ar;exact bl j m hm (h1 (.inl hc))
  have aq:∀ (j:Nat) (b:Rec),i<j->recs[j]? = some b->Zc rc b=true\/Q9e rc.dst b.dl.v=true->¬ Lst listed j:=fun j b hj hb hc=>by
   obtain ⟨m,hm,h1⟩:=bg i j rc b hj ar hb;exact a7 j m hm (by have:=(Qdm.1 hb).1;omega) (h1 hc)
  have br:∀ (k:Nat) (b:Rec),recs[k]? = some b->(k<i->Zc b rc=true)->(i<k->Zc rc b=true)->(Lst listed (0+k)↔Lst (P1 ak.size (0+i)) (0+k)):=by
   intro k b hb h1 h2;have bp:=(Qdm.1 hb).1;rw [JJ (by omega)];simp only [QdC];rcases Nat.lt_trichotomy k i with h | h | h
   ·exact ⟨fun _=>h,fun _=>bq k b h hb (h1 h)⟩
   ·subst h;exact ⟨fun hl=>absurd hl bc,fun hl=>by omega⟩
   ·exact ⟨fun hl=>absurd hl (aq k b h hb (.inl (h2 h))),fun hl=>by omega⟩
  have b0:Q5m am i recs=Ma (P1 ak.size (0+i)) 0 am recs:=RR recs 0 i am (by omega);have c1:∀ t,t∈rc.rt->lkT (Ma listed 0 am recs).tm t=lkT (Q5m am i recs).tm t:=by
   intro t ht;rw [b0,R8,R8];refine M4 recs 0 _ fun k b hk a9=>br k b hk (fun _=>?_) (fun _=>?_)
   ·simp [Zc,inO,a9,Da ht]
   ·simp [Zc,inO,a9,Da ht]
  have c2:∀ l,l∈rc.dl.rd\/l∈wrL rc.dl->look (Ma listed 0 am recs).h l=look (Q5m am i recs).h l:=by
   intro l hl;rw [b0,Lh,Lh];refine FV recs 0 _ _ rfl fun k b hk hw=>br k b hk (fun _=>?_) (fun _=>?_)
   ·rcases hl with hl | hl
    ·simp [Zc,TE hw hl]
    ·simp [Zc,TE hw hl]
   ·rcases hl with hl | hl
    ·simp [Zc,TE hw hl]
    ·simp [Zc,TE hl hw]
  have c3:AG (Ma listed 0 am recs) rc.dl.v rc.dst=true:=by
   have h1:=b2.1;cases b7:rc.dst with
   |none=>rfl
   |some d=>
    rw [b7,b0] at h1;simp only [AG,Qdl,Qdt,CE] at h1 ⊢;obtain ⟨g1,g2⟩:=Q3p recs 0 am h1.2.2;refine ⟨h1.1,h1.2.1,Q2I recs 0 am g1 fun k b hb hl hn=>?_⟩;have bp:=(Qdm.1 hb).1;rcases Nat.lt_trichotomy k i with h | h | h
    ·exact g2 k b hb (by rw [JJ (by omega)];omega) hn
    ·subst h;simp only [QdC] at hl;exact absurd hl bc
    ·cases hg:gds d b.dl.v with
     |false=>rfl
     |true=>simp only [QdC] at hl;exact absurd hl (aq k b h hb (.inr (by simp [Q9e,b7,hg])))
  have c4:Zi (Ma listed 0 am recs) rc.dl.wr=true:=by
   refine Q0X fun l ob hm ax=>?_
   have hs:=Cz hm;have bj:∀ k b,recs[k]? = some b->Lst listed (0+k)->∀ o,(l,o)∈b.dl.wr->o.isSome=true:=by
    intro k b hb bz o ho;simp only [QdC] at bz;cases o with
    |some _=>rfl
    |none=>
     exfalso;rcases Nat.lt_trichotomy k i with h | h | h
     ·have:=Q2z (Q7E k b ce hb) ho rc (List.mem_of_getElem? (i:=i-k) (by rw [Qdw,show k+(i-k)=i from by omega];exact ar));rw [hs] at this;cases this
     ·subst h;exact bc bz
     ·have b1:GH (wrL rc.dl) (wrL b.dl)=true:=TE (x:=l) (TH hs) (QdG.2 ⟨_,ho,rfl⟩);exact aq k b h hb (.inl (by simp [Zc,b1])) bz
   rw [Lh] at ax;have hz:look am.h l=none:=by
    cases hz:look am.h l with
    |none=>rfl
    |some c5=>
     have:=Ag (listed:=listed) recs 0 (look am.h) bj (.inl (by simp [hz]));rw [ax] at this;cases this
   have cf:∀ k b,k<i->recs[k]? = some b->ZI l b.dl.wr=false:=by
    intro k b hk hb;cases hh:ZI l b.dl.wr with
    |false=>rfl
    |true=>
     have b1:GH (wrL b.dl) (wrL rc.dl)=true:=TE (x:=l) (TH hh) (TH hs);have hc:Zc b rc=true:=by simp [Zc,b1]
     have:=Ag (listed:=listed) recs 0 (look am.h) bj (.inr ⟨k,b,hb,by simpa using bq k b hk hb hc,hh⟩);rw [ax] at this;cases this
   obtain ⟨bd,g1,g2,g3⟩:=Ri a8 i rc ar;have bu:l∈Ki am bd rc.dl.wr:=AO hz (fun hl=>by
    rcases g1 l hl with h | ⟨k',b,h1,h2,h3⟩
    ·simp at h
    ·rw [cf k' b h1 h2] at h3;cases h3) hs
   obtain ⟨g4,_,g6⟩:=g3 l bu;refine Q02 recs 0 am g4 fun k b hb hl=>?_
   simp only [QdC] at hl;have bp:=(Qdm.1 hb).1;rcases Nat.lt_trichotomy k i with h | h | h
   ·exact g6 k b h hb
   ·subst h;exact absurd hl bc
   ·cases hr:NQ l b with
    |false=>rfl
    |true=>
     exfalso;obtain ⟨m,b5,hc⟩:=Mz g2 (k-(i+1)) b (by rw [Qdw,show i+1+(k-(i+1))=k from by omega];exact hb);rw [Qdw,show i+1+(k-(i+1))=k from by omega] at b5;exact a7 k m b5 (by omega) (by have:=hc (.inr (.inl ⟨l,bu,hr⟩));simpa using this) hl
  have cm:=bi _ a w hR c1 c2 c3 c4 Q;have aw:i<listed.size:=by omega
  refine wpOp_mono (fun a' w' cb=>?_) cm;refine ih (listed.setIfInBounds i true) a' w' (by simpa using ay) ?_ ?_ ?_
  ·intro j oj bh hl e he hb;rw [Ec aw] at hl ⊢;rcases hl with rfl | hl
   ·have:oj=o:=by
     have:ak[j]? = some oj:=by simpa using bh
     rw [ho] at this;injection this with this;exact this.symm
    subst this;exact .inr (b8 e he hb)
   ·exact .inr (bn j oj bh hl e he hb)
  ·have:(List.range ak.size).countP (fun j=>!(listed.setIfInBounds i true).getD j false)<(List.range ak.size).countP (fun j=>!listed.getD j false):=by
    refine Q11 (i:=i) (by simpa using b4) (fun x _ hx=>?_) ?_ ?_
    ·cases hl:listed.getD x false with
     |false=>rfl
     |true=>
      have:Lst (listed.setIfInBounds i true) x:=(Ec aw).2 (.inr hl);simp only [Lst] at this;rw [this] at hx;cases hx
    ·cases hl:listed.getD i false with
     |false=>rfl
     |true=>exact absurd hl bc
    ·have:Lst (listed.setIfInBounds i true) i:=(Ec aw).2 (.inl rfl);simp only [Lst] at this;rw [this];rfl
   omega
  ·have ao:∀ k,k≠i->(Lst (listed.setIfInBounds i true) (0+k)↔Lst listed (0+k)):=fun k hk=>by
    rw [Ec aw];simp only [QdC];exact ⟨fun h=>h.resolve_left hk,.inr⟩
   have bo:Lst (listed.setIfInBounds i true) (0+i):=by rw [Ec aw];exact .inl (QdC i)
   refine cb.same ?_ (fun t=>?_) ?_
   ·rw [CE];simp [put,CE]
   ·rw [R8,Q4P];by_cases e:rc.dst=some t
    ·rw [QdJ e];refine Q3v recs 0 i rc _ ar bo e rfl fun k' b hk hb hl=>?_
     intro a9;rw [ao k' (by omega)] at hl;simp only [QdC] at hl;exact aq k' b hk hb (.inl (by simp [Zc,e,a9])) hl
    ·rw [Qdx e,R8];refine M4 recs 0 _ fun k b hb a9=>ao k (fun e2=>?_)
     subst e2;rw [ar] at hb;injection hb with hb;subst hb
     exact e a9
   ·rw [Lh];funext l;have:look (put (Ma listed 0 am recs) rc.dst rc.dl).h l=VQ (hA listed 0 (look am.h) recs) rc.dl.wr l:=by
     simp only [put,G5,Lh]
    rw [this];by_cases e:l∈wrL rc.dl
    ·exact Q4W _ recs 0 i rc _ ar bo e fun k' b hk hb hl hw=>by
      rw [ao k' (by omega)] at hl;simp only [QdC] at hl;exact aq k' b hk hb (.inl (by simp [Zc,TE e hw])) hl
    ·rw [Wy e];refine FV recs 0 _ _ rfl fun k b hb hw=>ao k (fun e2=>?_)
     subst e2;rw [ar] at hb;injection hb with hb;subst hb
     exact e hw
end

section
variable {P:Program} {E:Env} {R:Type}
def inv (ρ:List (Nat × Nat)) (k:Nat):Option Nat:=
 match ρ with
 |[]=>none
 |(l,l')::r=>if l'=k then some l else inv r k
theorem Q5h {k l:Nat}:∀ {ρ:List (Nat × Nat)},inv ρ k=some l->(l,k)∈ρ
 |(a,b)::r,h=>by
  unfold inv at h;by_cases e:b=k
  ·rw [QdJ e] at h;injection h with h;subst e;subst h;simp
  ·rw [Qdx e] at h;simp [Q5h h]
theorem Gh {ρ:List (Nat × Nat)} {f:Nat × Nat->Nat} (h:Xd (ρ.map f)=true):∀ p q,p∈ρ->q∈ρ->f p=f q->p=q:=by
 induction ρ with
 |nil=>intro p q hp;simp at hp
 |cons x r ih=>
  simp only [QdA,Xd,Qdl,Qdt] at h;have hx:∀ q∈r,f q≠f x:=fun q hq e=>by
   have:Kp (f x) (r.map f)=true:=FK.2 (QdG.2 ⟨q,hq,e⟩);rw [h.1] at this;cases this
  intro p q hp hq he;rcases Qdr.1 hp with hp' | hp' <;> rcases Qdr.1 hq with ak | ak
  ·rw [hp',ak]
  ·exact absurd (by rw [<- he,hp']) (hx q ak)
  ·exact absurd (by rw [he,ak]) (hx p hp')
  ·exact ih h.2 p q hp' ak he
theorem Q0m {ρ:List (Nat × Nat)} (h:Xd (ρ.map (·.2))=true) {l k:Nat} (hm:(l,k)∈ρ):inv ρ k=some l:=by
 induction ρ with
 |nil=>simp at hm
 |cons x r ih=>
  obtain ⟨a,b⟩:=x;unfold inv;by_cases e:b=k
  ·rw [QdJ e];have:=Gh h (a,b) (l,k) (by simp) hm e;injection this with h1 h2
   rw [h1]
  ·rw [Qdx e];rcases Qdr.1 hm with hm | hm
   ·injection hm with h1 h2;exact absurd h2.symm e
   ·simp only [QdA,Xd,Qdl] at h;exact ih h.2 hm
theorem Y3 {α:Type} {l:Nat} {o:α}:∀ {ρ:List (Nat × α)},look ρ l=some o->(l,o)∈ρ
 |(a,b)::r,h=>by
  rw [Xv] at h;by_cases e:l=a
  ·rw [QdJ e] at h;injection h with h;subst e;subst h;simp
  ·rw [Qdx e] at h;simp [Y3 h]
theorem Hv {ρ:List (Nat × Nat)} {h:List (Nat × Ob)}:∀ {ρs:List (Nat × Nat)} {k:Nat} {o:Ob},look (MB ρ h ρs) k=some o->∃ l o',(l,k)∈ρs/\look h l=some o'/\o=Q7i ρ o'
 |[],k,o,hk=>by simp [MB,look] at hk
 |(l,l')::r,k,o,hk=>by
  unfold MB at hk;split at hk
  ·rename_i o' ak;rw [Xv] at hk;by_cases e:k=l'
   ·rw [QdJ e] at hk;injection hk with hk
    subst e;exact ⟨l,o',by simp,ak,hk.symm⟩
   ·rw [Qdx e] at hk;obtain ⟨l2,o2,h1,h2⟩:=Hv hk;exact ⟨l2,o2,by simp [h1],h2⟩
  ·obtain ⟨l2,o2,h1,h2⟩:=Hv hk;exact ⟨l2,o2,by simp [h1],h2⟩
theorem HS {ρ:List (Nat × Nat)} {h:List (Nat × Ob)}:∀ {ρs:List (Nat × Nat)} {l k:Nat} {o:Ob},Xd (ρs.map (·.2))=true->(l,k)∈ρs->look h l=some o->look (MB ρ h ρs) k=some (Q7i ρ o)
 |[],l,k,o,_,hm,_=>by simp at hm
 |(a,b)::r,l,k,o,hn,hm,ho=>by
  have ao:=hn;simp only [QdA,Xd,Qdl,Qdt] at hn;unfold MB;rcases Qdr.1 hm with e | ak
  ·injection e with e1 e2
   subst e1;subst e2;rw [ho];simp [Xv]
  ·have am:k≠b:=fun e=>by
    subst e;have:Kp k (r.map (·.2))=true:=FK.2 (QdG.2 ⟨(l,k),ak,rfl⟩);rw [hn.1] at this;cases this
   have ih:=HS (ρ:=ρ) (h:=h) hn.2 ak ho;split
   ·rw [Xv,Qdx am];exact ih
   ·exact ih
theorem Up {ρ:List (Nat × Nat)}:∀ {l:List AV} {i:Nat},(An ρ l)[i]? = (l[i]?).map (ZQ ρ)
 |[],i=>by simp [An]
 |a::r,0=>by simp [An]
 |a::r,i+1=>by simp only [An,List.getElem?_cons_succ];exact Up
theorem Yu {ρ:List (Nat × Nat)}:∀ {l:List AV},(An ρ l).length=l.length
 |[]=>rfl
 |a::r=>by simp [An,Yu (l:=r)]
theorem CY {ρ:List (Nat × Nat)} {ty:TypeId} {cells:List AV} (h:Q3K ty cells):Q3K ty (An ρ cells):=by
 intro i l t hi;rw [Up,Qdn] at hi;obtain ⟨y,hy,he⟩:=hi;cases y with
 |sa l' t'=>
  simp only [ZQ] at he;split at he
  ·injection he with h1 h2
   subst h2;exact h i l' _ hy
  ·cases he
 |ptr a b=>simp only [ZQ] at he;split at he <;> cases he
 |arr a=>simp only [ZQ] at he;split at he <;> cases he
 |ap a b c=>simp only [ZQ] at he;split at he <;> cases he
 |_=>simp [ZQ] at he
theorem Q70 {ty:TypeId} {cells:List AV} {c l:Nat} (h:Q3K ty cells):Q3K ty (cells.set c (.arr l)):=by
 intro i l' t hi;rw [List.getElem?_set] at hi;split at hi
 ·split at hi <;> cases hi
 ·exact h i l' t hi
theorem Q3h {ρ:List (Nat × Nat)} {β:Nat->Option Nat} {S:Nat->Prop} {h:List (Nat × Ob)} (hn:Xd (ρ.map (·.2))=true) {β':Nat->Option Nat} (ay:∀ l k,(l,k)∈ρ->β' k=β l) {w:World} {tm:Nat->Value} {v:Value} {av:AV}
  (hv:RdA β S (look h) w tm v av):RdA β' S (look (MB ρ h ρ)) w tm v (ZQ ρ av):=by
 have hβ:∀ {l l':Nat},look ρ l=some l'->β' l'=β l:=fun {l l'} hl=>ay l l' (Y3 hl)
 have am:∀ {l l':Nat},look ρ l=some l'->look h l=none->look (MB ρ h ρ) l'=none:=fun {l l'} hl hh=>by
  cases hk:look (MB ρ h ρ) l' with
  |none=>rfl
  |some o=>
   obtain ⟨l2,o2,h1,h2,_⟩:=Hv hk;have e1:=Q0m hn h1;rw [Q0m hn (Y3 hl)] at e1;injection e1 with e1
   subst e1;rw [hh] at h2;cases h2
 induction hv with
 |top v=>exact .top v
 |d v x hx=>exact .d v x hx
 |nil=>exact .nil
 |ag cs l hl _ ih=>
  refine .ag cs _ (by rw [Yu];exact hl) fun i x hx=>?_
  rw [Up,Qdn] at hx;obtain ⟨y,hy,rfl⟩:=hx;exact ih i y hy
 |tup cs l hl _ ih=>
  refine .tup cs _ (by rw [Yu];exact hl) fun i x hx=>?_
  rw [Up,Qdn] at hx;obtain ⟨y,hy,rfl⟩:=hx;exact ih i y hy
 |fn f cs l hl _ ih=>
  refine .fn f cs _ (by rw [Yu];exact hl) fun i x hx=>?_
  rw [Up,Qdn] at hx;obtain ⟨y,hy,rfl⟩:=hx;exact ih i y hy
 |ptr l off b hb=>
  unfold ZQ;split
  ·rename_i l' hl;exact .ptr _ _ _ ((hβ hl).trans hb)
  ·exact .top _
 |sa v l t b hb hv=>
  unfold ZQ;split
  ·rename_i l' hl;exact .sa _ _ _ b ((hβ hl).trans hb) hv
  ·exact .top _
 |el ad row off c hs hc hr=>exact .el ad row off c hs hc hr
 |fs ad s rows hx=>exact .fs ad s rows hx
 |mpd v f hm=>exact .mpd v f hm
 |ex v=>exact .ex v
 |arr0 l e s hb hh=>
  unfold ZQ;split
  ·rename_i l' hl;exact .arr0 _ e s ((hβ hl).trans hb) (HS hn (Y3 hl) hh)
  ·exact .top _
 |arr l b cap e s rows cs ty fz hb hh hw ax aq ar=>
  unfold ZQ;split
  ·rename_i l' hl;exact .arr _ b cap e s rows cs ty fz ((hβ hl).trans hb) (HS hn (Y3 hl) hh) hw ax aq ar
  ·exact .top _
 |mp l b t f hb hh=>
  unfold ZQ;split
  ·rename_i l' hl;exact .mp _ b t f ((hβ hl).trans hb) (HS hn (Y3 hl) hh)
  ·exact .top _
 |ap l i off b e s rows hb hh=>
  unfold ZQ;split
  ·rename_i l' hl;exact .ap _ i off b e s rows ((hβ hl).trans hb) (HS hn (Y3 hl) hh)
  ·exact .top _
 |dang v av l hl hh h1=>
  cases av <;> simp [VG] at hl
  ·subst hl;unfold ZQ;split
   ·rename_i l' an;exact .dang _ _ l' rfl (am an hh) h1
   ·exact .top _
  ·subst hl;unfold ZQ;split
   ·rename_i l' an;exact .dang _ _ l' rfl (am an hh) h1
   ·exact .top _
 |gdT=>exact .top _
 |gdF=>exact .top _
theorem CN {ρ:List (Nat × Nat)} {tm:List (Nat × AV)} {t:Nat} {av:AV}:∀ {ks:List Nat},look (Q5H ρ tm ks) t=some av->av=ZQ ρ (lkT tm t)
 |k::r,h=>by
  simp only [Q5H,Xv] at h;by_cases e:t=k
  ·rw [QdJ e] at h;injection h with h;rw [<- h,e]
  ·rw [Qdx e] at h;exact CN h
theorem Q6O {st:St} {a:Act} {w:World} {ρ:List (Nat × Nat)} {ks:List Nat} (h1:Xd (ρ.map (·.1))=true) (h2:Xd (ρ.map (·.2))=true) (h3:∀ l k,(l,k)∈ρ->l=k\/k<=999999) (h:T0 E st a w):T0 E { n:=st.n,tm:=Q5H ρ st.tm ks,h:=MB ρ st.h ρ } a w:=by
 obtain ⟨β,S,hR⟩:=h;have hβ:∀ l k,(l,k)∈ρ->(if 1000000<=k then β k else (inv ρ k).bind β)=β l:=by
  intro l k hm;split
  ·rcases h3 l k hm with h | h
   ·rw [h]
   ·omega
  ·rw [Q0m h2 hm];rfl
 have ak:∀ {k b:Nat},(look (MB ρ st.h ρ) k).isSome=true->(if 1000000<=k then β k else (inv ρ k).bind β)=some b->∃ l,(l,k)∈ρ/\(look st.h l).isSome=true/\β l=some b:=by
  intro k b hs hb;obtain ⟨o,ho⟩:=Qdu.1 hs;obtain ⟨l,o',g1,g2,_⟩:=Hv ho;rw [hβ l k g1] at hb;exact ⟨l,g1,by simp [g2],hb⟩
 refine ⟨fun k=>if 1000000<=k then β k else (inv ρ k).bind β,S,hR.n,hR.dfr,fun t av ht=>?_,⟨fun k o ho=>?_,fun k k' b s1 s2 b1 b2=>?_,fun k b s1 b1=>?_,fun k b s1 b1=>?_,hR.hr.sb,hR.hr.sfr,hR.hr.s0,hR.hr.fr,fun k hk=>by simp only [QdJ hk];exact hR.hr.pin k hk,fun k b hk s1 b1=>?_⟩⟩
 ·rw [CN ht];refine Q3h h2 hβ ?_;unfold lkT;cases hl:look st.tm t with
  |none=>exact .top _
  |some a8=>exact hR.tm t a8 hl
 ·obtain ⟨l,o',g1,g2,rfl⟩:=Hv ho;have an:=hβ l k g1;have ao:=hR.hr.ob l o' g2;cases o' with
  |box cells=>
   obtain ⟨b,ty,cs,fz,hb,hw,hf,aq,hr⟩:=ao;refine ⟨b,ty,cs,fz,an.trans hb,hw,⟨hf.1,CY hf.2⟩,by rw [aq,Yu],fun i x hx=>?_⟩;rw [Up,Qdn] at hx;obtain ⟨y,hy,rfl⟩:=hx;exact Q3h h2 hβ (hr i y hy)
  |arr e s rows=>
   rcases ao with ⟨hb,hn⟩ | ⟨b,cs,hb,hw,aq,a6,hr⟩
   ·exact .inl ⟨an.trans hb,hn⟩
   ·exact .inr ⟨b,cs,an.trans hb,hw,aq,a6,hr⟩
  |mp t f=>
   obtain ⟨b,hb,hm⟩:=ao;exact ⟨b,an.trans hb,hm⟩
 ·obtain ⟨l,g1,g2,g3⟩:=ak s1 b1;obtain ⟨l',aw,ay,a7⟩:=ak s2 b2;have:=hR.hr.inj l l' b g2 ay g3 a7;subst this;have:=Gh h1 (l,k) (l,k') g1 aw rfl;injection this
 ·obtain ⟨l,g1,g2,g3⟩:=ak s1 b1;exact hR.hr.apart l b g2 g3
 ·obtain ⟨l,g1,g2,g3⟩:=ak s1 b1;exact hR.hr.own l b g2 g3
 ·obtain ⟨l,g1,g2,g3⟩:=ak s1 b1;rcases h3 l k g1 with h | h
  ·subst h;exact hR.hr.psz l b hk g2 g3
  ·omega
theorem Q0w {t k:Nat} {v av:AV}:∀ {tm:List (Nat × AV)},look (QaZ tm t v) k=some av->(k=t/\av=v)\/look tm k=some av
 |(a,b)::r,h=>by
  unfold QaZ at h;cases hb:Nat.beq a t with
  |true=>
   have:=Qdk hb;subst this;simp only [hb,Qdq,Xv] at h;by_cases e:k=a
   ·rw [QdJ e] at h;injection h with h;exact .inl ⟨e,h.symm⟩
   ·rw [Qdx e] at h;exact .inr (by rw [Xv,Qdx e];exact h)
  |false=>
   simp only [hb,QdB,Xv] at h;by_cases e:k=a
   ·rw [QdJ e] at h;exact .inr (by rw [Xv,QdJ e];exact h)
   ·rw [Qdx e] at h;rcases Q0w h with h | h
    ·exact .inl h
    ·exact .inr (by rw [Xv,Qdx e];exact h)
theorem Q0a {β:Nat->Option Nat} {S:Nat->Prop} {st:St} {a:Act} {w:World} (hR:Rel E β S st a w) {l e s:Nat} (hc:Wn st l=true) (hn:look st.h l=none):Rel E (Ty β l none) S ⟨st.n,st.tm,(l,.arr e s [])::st.h⟩ a w:=by
 have am:∀ k,look ((l,Ob.arr e s [])::st.h) k=if k=l then some (.arr e s []) else look st.h k:=fun k=>Xv l k _ st.h
 have ak:∀ {k b:Nat},(look ((l,Ob.arr e s [])::st.h) k).isSome=true->Ty β l none k=some b->(look st.h k).isSome=true/\β k=some b:=by
  intro k b h1 h2;rw [am] at h1;unfold Ty at h2;by_cases e1:k=l
  ·rw [QdJ e1] at h2;cases h2
  ·rw [Qdx e1] at h1 h2;exact ⟨h1,h2⟩
 refine hR.upd (fun _ h=>h) (fun _ _=>rfl) (fun k=>k=l) (fun k hk=>⟨by simp [Ty,hk],by rw [am,Qdx hk],fun _ _ _=>rfl⟩) (fun k hk=>.inr (hk▸hc)) (fun k o hk ho=>?_) (fun k k' b h1 h2 h3 h4=>?_) (fun k b h1 h2=>?_) (fun k b h1 h2=>?_) hR.hr.sb hR.hr.sfr hR.hr.fr
 ·subst hk;rw [am,QdJ rfl] at ho;injection ho with ho
  subst ho;exact .inl ⟨by simp [Ty],rfl⟩
 ·exact hR.hr.inj k k' b (ak h1 h3).1 (ak h2 h4).1 (ak h1 h3).2 (ak h2 h4).2
 ·exact hR.hr.apart k b (ak h1 h2).1 (ak h1 h2).2
 ·exact hR.hr.own k b (ak h1 h2).1 (ak h1 h2).2
theorem FJ {a:Act} {w:World}:∀ (l:List (Nat × Nat × Nat × Nat)) (st:St),T0 E st a w->T0 E (Q9h st l) a w
 |[],st,h=>h
 |(t,l,e,s)::r,st,h=>by
  unfold Q9h;split
  ·rename_i am;cases hc:(Wn st l&&(look st.h l).isNone) with
   |false=>simp only [QdB];exact FJ r st h
   |true=>
    simp only [Qdq];refine FJ r _ ?_;simp only [Qdl,Option.isNone_iff_eq_none] at hc;obtain ⟨β,S,hR⟩:=h;have ak:=Q0a (e:=e) (s:=s) hR hc.1 hc.2;have hv:=(hR.tm t _ (Ta am (by simp))).nil_inv;refine ⟨_,S,ak.n,ak.dfr,fun t' av ht=>?_,ak.hr⟩;rcases Q0w ht with ⟨rfl,rfl⟩ | ht
    ·rw [hv];exact .arr0 l e s (by simp [Ty]) (by simp [Xv])
    ·exact ak.tm t' av ht
  ·exact FJ r st h
theorem NX {a:Act} {w:World}:∀ (l:List (Nat × Nat × Nat × Nat × Nat)) (st:St),T0 E st a w->T0 E (Q9a st l) a w
 |[],st,h=>h
 |(b,c,l,e,s)::r,st,h=>by
  unfold Q9a;split
  ·rename_i cells aq;split
   ·rename_i ax;cases hc:(Wn st l&&(look st.h l).isNone) with
    |false=>simp only [QdB];exact NX r st h
    |true=>
     simp only [Qdq];refine NX r _ ?_;simp only [Qdl,Option.isNone_iff_eq_none] at hc;obtain ⟨β,S,hR⟩:=h;have an:b≠l:=fun e=>by subst e;rw [hc.2] at aq;cases aq
     have a6:=Q0a (e:=e) (s:=s) hR hc.1 hc.2;have ak:look ((l,Ob.arr e s [])::st.h) b=some (.box cells):=by rw [Xv,Qdx an];exact aq
     obtain ⟨bb,ty,cs,fz,hb,hw,hf,a9,hr⟩:=a6.hr.ob b _ ak;have a7:=a6.set (w':=w) (o':=.box (cells.set c (.arr l))) ak hb (fun _ _=>rfl) rfl rfl rfl rfl ?_ ?_
     ·refine T0.same ⟨_,S,a7⟩ rfl (fun _=>rfl) ?_;funext k;simp only [Xv,FL];by_cases e1:k=l
      ·have:k≠b:=fun h=>an (h▸e1)
       simp [e1,Ne.symm an]
      ·by_cases e2:k=b
       ·simp [e2,an]
       ·simp [e1,e2]
     ·refine ⟨rfl,fun h=>?_,fun e' s' rows h=>?_,fun b2 am au aw _ _ ao=>⟨am,au,aw,ao,rfl⟩,fun t f h=>by rw [ak] at h;cases h⟩
      ·rw [ak] at h;cases h
      ·rw [ak] at h;cases h
     ·have ay:∀ k,Keep (Ty β l none) (look ((l,Ob.arr e s [])::st.h)) w (Ty β l none) (look ((b,.box (cells.set c (.arr l)))::rem b ((l,Ob.arr e s [])::st.h))) w k:=by
       intro k;by_cases e1:k=b
       ·subst e1;refine ⟨rfl,fun h=>?_,fun e' s' rows h=>?_,fun b2 am au aw _ _ ao=>⟨am,au,aw,ao,rfl⟩,fun t f h=>by rw [ak] at h;cases h⟩
        ·rw [ak] at h;cases h
        ·rw [ak] at h;cases h
       ·refine ⟨rfl,fun h=>by rw [ZM,Qdx e1];exact h,fun e' s' rows h=>.inr ⟨rows,by rw [ZM,Qdx e1];exact h,rfl⟩,fun b2 am au aw _ _ ao=>⟨am,au,aw,ao,rfl⟩,fun _ f h=>.inr ⟨f,by rw [ZM,Qdx e1];exact h⟩⟩
      refine ⟨bb,ty,cs,fz,hb,hw,⟨hf.1,Q70 hf.2⟩,by simpa using a9,fun i x hx=>?_⟩;by_cases e1:i=c
      ·subst e1;have a8:=(Qdm.1 ax).1;rw [List.getElem?_set_self a8] at hx;injection hx with hx
       subst hx;rw [(hr i _ ax).nil_inv];exact .arr0 l e s (by simp [Ty]) (by rw [ZM,Qdx (Ne.symm an),Xv,QdJ rfl])
      ·rw [List.getElem?_set_ne (Ne.symm e1)] at hx;exact (hr i x hx).mono (fun _ h=>h) (fun _ _=>rfl) (fun k _=>ay k) (fun _ _=>rfl)
   ·exact NX r st h
  ·exact NX r st h
theorem Q5A {st:St} {a:Act} {w:World} (c:Cfg) (h:T0 E st a w):T0 E (Q8G c st) a w:=by
 unfold Q8G;cases hc:(Xd (c.locs.map (·.1))&&(Xd (c.locs.map (·.2))&&c.locs.all fun p=>Nat.beq p.1 p.2||Nat.ble p.2 999999)) with
 |false=>simpa using h
 |true=>
  simp only [Qdl] at hc;simp only [Qdq];exact NX _ _ (FJ _ _ (Q6O hc.1 hc.2.1 (fun l k hm=>by
   have:=List.all_eq_true.1 hc.2.2 (l,k) hm;simp only [Qdy] at this;rcases this with h | h
   ·exact .inl (Qdk h)
   ·exact .inr (QdK h)) h))
theorem L0 {l s:Nat} {rows:List (List D)}:∀ {r:List AV} {i:Nat},(fzL l s rows r)[i]? = (r[i]?).map (fzA l s rows)
 |[],i=>by simp [fzL]
 |a::r,0=>by simp [fzL]
 |a::r,i+1=>by simp only [fzL,List.getElem?_cons_succ];exact L0
theorem HR {l s:Nat} {rows:List (List D)}:∀ {r:List AV},(fzL l s rows r).length=r.length
 |[]=>rfl
 |a::r=>by simp [fzL,HR (r:=r)]
theorem Q3A {l s:Nat} {rows:List (List D)} {t:Nat}:∀ {tm:List (Nat × AV)},look (fzT l s rows tm) t=(look tm t).map (fzA l s rows)
 |[]=>rfl
 |(a,b)::r=>by
  simp only [fzT,Xv];by_cases e:t=a
  ·simp [e]
  ·simp only [e,if_false];exact Q3A
theorem D1 {l s:Nat} {rows:List (List D)} {k:Nat}:∀ {h:List (Nat × Ob)},look (Q7I l s rows h) k=if k=l then none else (look h k).map (fzO l s rows)
 |[]=>by simp [Q7I,look]
 |(a,b)::r=>by
  simp only [Q7I];cases hb:Nat.beq a l with
  |true=>
   have:=Qdk hb;subst this;simp only [Qdq];rw [D1 (h:=r),Xv];by_cases e:k=a
   ·simp [e]
   ·simp [e]
  |false=>
   have ak:a≠l:=fun e=>by subst e;simp at hb
   simp only [QdB,Xv];by_cases e:k=a
   ·subst e;simp [ak]
   ·simp only [e,if_false];exact D1
theorem Q8F {ty:TypeId} {l s:Nat} {rows:List (List D)} {cells:List AV} (h:Q3K ty cells):Q3K ty (fzL l s rows cells):=by
 intro i l' t hi;rw [L0,Qdn] at hi;obtain ⟨y,hy,he⟩:=hi;cases y with
 |sa a b=>simp only [fzA] at he;injection he with h1 h2;subst h2;exact h i a _ hy
 |arr k=>simp only [fzA] at he;cases hb:Nat.beq k l <;> simp [hb] at he
 |ap k a b=>simp only [fzA] at he;cases hb:Nat.beq k l <;> simp [hb] at he
 |_=>simp [fzA] at he
theorem Q7u {β:Nat->Option Nat} {S:Nat->Prop} {h h':Nat->Option Ob} {w:World} {l e s:Nat} {rows:List (List D)} (hO:Objs β S h w) (hh:h l=some (.arr e s rows)) (aq:∀ k,h' k=if k=l then none else (h k).map (fzO l s rows)) {S':Nat->Prop} (hS:∀ b,S b->S' b) (hb:∀ b,β l=some b->S' b)
  {tm:Nat->Value} {v:Value} {av:AV} (hv:RdA β S h w tm v av):RdA β S' h' w tm v (fzA l s rows av):=by
 induction hv with
 |top v=>exact .top v
 |d v x hx=>exact .d v x (hx.mono hS (fun _ _=>rfl))
 |nil=>exact .nil
 |ag cs r hl _ ih=>
  refine .ag cs _ (by rw [HR];exact hl) fun i x hx=>?_
  rw [L0,Qdn] at hx;obtain ⟨y,hy,rfl⟩:=hx;exact ih i y hy
 |tup cs r hl _ ih=>
  refine .tup cs _ (by rw [HR];exact hl) fun i x hx=>?_
  rw [L0,Qdn] at hx;obtain ⟨y,hy,rfl⟩:=hx;exact ih i y hy
 |fn f cs r hl _ ih=>
  refine .fn f cs _ (by rw [HR];exact hl) fun i x hx=>?_
  rw [L0,Qdn] at hx;obtain ⟨y,hy,rfl⟩:=hx;exact ih i y hy
 |ptr k off b ak=>exact .ptr k off b ak
 |sa v k t b ak hv=>exact .sa v k t b ak hv
 |el ad row off c hs hc hr=>exact .el ad row off c (hS _ hs) hc (fun j x hx=>(hr j x hx).mono hS (fun _ _=>rfl))
 |fs ad s rows hx=>exact .fs ad s rows (hx.mono hS (fun _ _=>rfl))
 |mpd v f hm=>exact .mpd v f (hm.mono hS (fun _ _=>rfl))
 |ex v=>exact .ex v
 |arr0 k e' s' ak hk=>
  unfold fzA;cases an:Nat.beq k l with
  |true=>
   obtain rfl:=Qdk an;rw [hh] at hk;injection hk with hk
   injection hk with _ _ hk
   subst hk;exact .d _ _ (.sl0 _ _ _)
  |false=>
   have am:k≠l:=fun e=>by subst e;simp at an
   exact .arr0 k e' s' ak (by rw [aq,Qdx am,hk];rfl)
 |arr k b cap e' s' ao cs ty fz ak hk hw a6 ar au=>
  unfold fzA;cases an:Nat.beq k l with
  |true=>
   obtain rfl:=Qdk an;exact .d _ _ (Q3x hO hh (RdA.arr (tm:=tm) k b cap e' s' ao cs ty fz ak hk hw a6 ar au) hS hb)
  |false=>
   have am:k≠l:=fun e=>by subst e;simp at an
   exact .arr k b cap e' s' ao cs ty fz ak (by rw [aq,Qdx am,hk];rfl) hw a6 ar au
 |mp k b t f ak hk=>
  unfold fzA;cases an:Nat.beq k l with
  |true=>
   obtain rfl:=Qdk an;rw [hh] at hk;cases hk
  |false=>
   have am:k≠l:=fun e=>by subst e;simp at an
   exact .mp k b t f ak (by rw [aq,Qdx am,hk];rfl)
 |ap k i off b e' s' ao ak hk=>
  unfold fzA;cases an:Nat.beq k l with
  |true=>exact .top _
  |false=>
   have am:k≠l:=fun e=>by subst e;simp at an
   exact .ap k i off b e' s' ao ak (by rw [aq,Qdx am,hk];rfl)
 |dang v av k hl hk h1=>
  have am:k≠l:=fun e=>by subst e;rw [hh] at hk;cases hk
  have hn:h' k=none:=by rw [aq,Qdx am,hk];rfl
  cases av <;> simp [VG] at hl
  ·subst hl;unfold fzA;rw [Q7C am];exact .dang _ _ _ rfl hn h1
  ·subst hl;unfold fzA;rw [Q7C am];exact .dang _ _ _ rfl hn h1
 |gdT=>exact .top _
 |gdF=>exact .top _
theorem Q92 {st:St} {a:Act} {w:World} (l:Nat) (h:T0 E st a w):T0 E (fz1 st l) a w:=by
 unfold fz1;split
 case h_2=>exact h
 rename_i e s rows hl;obtain ⟨β,S,hR⟩:=h;have hO:=hR.objs;have aq:∀ k,look (Q7I l s rows st.h) k=if k=l then none else (look st.h k).map (fzO l s rows):=fun k=>D1
 have hS:∀ b,S b->fzS β S [l] b:=fun b hb=>.inl hb
 have ax:∀ b,β l=some b->fzS β S [l] b:=fun b hb=>.inr ⟨l,by simp,hb⟩
 have ak:∀ k,(look (Q7I l s rows st.h) k).isSome=true->(look st.h k).isSome=true/\k≠l:=by
  intro k hk;rw [aq] at hk;by_cases e1:k=l
  ·simp [e1] at hk
  ·simp [e1] at hk;exact ⟨hk,e1⟩
 refine ⟨β,fzS β S [l],hR.n,hR.dfr,fun t av ht=>?_,⟨fun k o ho=>?_,fun k k' b h1 h2=>hR.hr.inj k k' b (ak k h1).1 (ak k' h2).1,fun k b h1 h2 am=>?_,fun k b h1 h2=>hR.hr.own k b (ak k h1).1 h2,fun b am=>?_,fun b am=>?_,fun b hb=>.inl (hR.hr.s0 b hb),hR.hr.fr,hR.hr.pin,fun k b hk h1=>hR.hr.psz k b hk (ak k h1).1⟩⟩
 ·simp only at ht;rw [Q3A,Qdn] at ht;obtain ⟨bi,h1,rfl⟩:=ht;exact Q7u hO hl aq hS ax (hR.tm t bi h1)
 ·simp only at ho;rw [aq] at ho;by_cases e1:k=l
  ·simp [e1] at ho
  ·rw [Qdx e1,Qdn] at ho;obtain ⟨o',bg,rfl⟩:=ho;have ar:=hR.hr.ob k o' bg;cases o' with
   |box cells=>
    obtain ⟨b,ty,cs,fz,hb,hw,hf,au,hr⟩:=ar;refine ⟨b,ty,cs,fz,hb,hw,⟨hf.1,Q8F hf.2⟩,by rw [au,HR],fun i x hx=>?_⟩;rw [L0,Qdn] at hx;obtain ⟨y,hy,rfl⟩:=hx;exact Q7u hO hl aq hS ax (hr i y hy)
   |arr e' s' a8=>
    rcases ar with h0 | ⟨b,cs,hb,hw,au,bd,hr⟩
    ·exact .inl h0
    ·refine .inr ⟨b,cs,hb,hw,au,bd,fun i j r x h4 h5=>?_⟩;obtain ⟨v,hv,a7⟩:=hr i j r x h4 h5;exact ⟨v,hv,a7.mono hS (fun _ _=>rfl)⟩
   |mp t f=>exact ar
 ·obtain ⟨ay,a6⟩:=ak k h1;rcases am with am | ⟨l',an,ao⟩
  ·exact hR.hr.apart k b ay h2 am
  ·simp at an;subst an;exact a6 (hR.hr.inj k l' b ay (by simp [hl]) h2 ao)
 ·rcases am with am | ⟨l',an,ao⟩
  ·exact hR.hr.sb b am
  ·simp at an;subst an;exact P4 hR (by simp [hl]) ao
 ·rcases am with am | ⟨l',an,ao⟩
  ·exact hR.hr.sfr b am
  ·simp at an;subst an;exact .inr (hR.hr.own l' b (by simp [hl]) ao)
theorem Q6b {a:Act} {w:World}:∀ (ls:List Nat) (st:St),T0 E st a w->T0 E (fzs st ls) a w
 |[],_,h=>h
 |l::r,_,h=>Q6b r _ (Q92 l h)
theorem CW (c:Cfg) {st:St} {a:Act} {w:World} (h:T0 E st a w):T0 E (QaR c st) a w:=Q5A _ (Q6b c.fz st h)
end

section
variable {P:Program} {E:Env} {R:Type}
theorem T0.drawn {st:St} {a:Act} {w:World} (h:T0 E st a w) (n:Nat):T0 E st a { w with drawn:=n }:=by
 obtain ⟨β,S,hR⟩:=h;have hA:∀ (tm:Nat->Value) (v:Value) (av:AV),RdA β S (look st.h) w tm v av->RdA β S (look st.h) { w with drawn:=n } tm v av:=fun tm v av hv=>
  hv.mono (fun _ h=>h) (fun _ _=>rfl) (fun l _=>⟨rfl,fun x=>x,fun _ _ rows hh=>.inr ⟨rows,hh,rfl⟩,fun _ cs ty fz _ _ hw=>⟨cs,ty,fz,hw,rfl⟩,fun _ f hh=>.inr ⟨f,hh⟩⟩) (fun _ _=>rfl)
 refine ⟨β,S,hR.n,hR.dfr,fun t av ht=>hA _ _ _ (hR.tm t av ht),⟨fun l o ho=>?_,hR.hr.inj,hR.hr.apart,hR.hr.own,hR.hr.sb,hR.hr.sfr,hR.hr.s0,⟨hR.hr.fr.os,hR.hr.fr.tape,hR.hr.fr.output,hR.hr.fr.size,hR.hr.fr.block⟩,hR.hr.pin,hR.hr.psz⟩⟩;have ak:=hR.hr.ob l o ho;cases o with
 |box cells=>
  obtain ⟨b,ty,cs,fz,hb,hw,hf,am,hr⟩:=ak;exact ⟨b,ty,cs,fz,hb,hw,hf,am,fun i x hx=>hA _ _ _ (hr i x hx)⟩
 |arr e s rows=>
  rcases ak with h0 | ⟨b,cs,hb,hw,am,ar,hr⟩
  ·exact .inl h0
  ·refine .inr ⟨b,cs,hb,hw,am,ar,fun i j r x h4 h5=>?_⟩;obtain ⟨v,hv,ao⟩:=hr i j r x h4 h5;exact ⟨v,hv,Rd.mono (w:=w) (w':={ w with drawn:=n }) (fun _ h=>h) (fun _ _=>rfl) ao⟩
 |mp t f=>exact ak
structure VCOk (P:Program) (C:VC):Prop where
 spec:Ll P C.spec
 tt:TOk P C.tt
 mixed:P.follows .mixedOrders=true
def Q0D (E:Env) (k:Exit->St->Option R) (r:R):Exit->Act->World->Prop:=fun e a w=>∃ st,T0 E st a w/\k e st=some r
theorem N2 {C:VC} (hC:VCOk P C) {id:Nat} {ak:Array Oper} {am:Bool} {st:St} {k:St->Option R} {r:R} (h:CX C id ak am st k=some r) {a:Act} {w:World} (hR:T0 E st a w) {Q:Exit->Act->World->Prop}
  (hQ:∀ st' a' w',T0 E st' a' w'->k st'=some r->Q .normal a' w'):(Code.region id ak am).wp P Q a w:=by
 unfold CX at h;obtain ⟨recs,st',an,h,ao⟩:∃ recs st',recs.length=ak.toList.length/\(fun st' recs=>bif !am||Ay st ak.toList recs then (match look C.cfg id with | some c=>k (QaR c st') | none=>k st') else none) st' ([]++recs)=some r/\Do P E ak 0 st recs st':=by
  cases hs:(look C.cfg (id+1000000000)).isSome with
  |true=>simp only [hs,Qdq] at h;exact Dt (E:=E) hC.spec hC.tt ak.toList 0 st [] _ r (fun j=>by simp) h
  |false=>simp only [hs,QdB] at h;exact CL (E:=E) hC.spec hC.tt ak.toList 0 st [] _ r (fun j=>by simp) h
 simp only [List.nil_append] at h;cases hc:(!am||Ay st ak.toList recs) with
 |false=>simp [hc] at h
 |true=>
  simp only [hc,Qdq] at h;have aq:∀ a w,T0 E st' a w->Q .normal a w:=by
   intro a w ar;split at h
   ·rename_i c _;exact hQ _ a w (CW c ar) h
   ·exact hQ _ a w ar h
  simp only [QdE] at an;cases am with
  |false=>
   refine wp_region ?_;have:=Q4F aq recs 0 st a w ao hR;rw [an] at this;rw [List.range_eq_range'];exact this
  |true=>
   simp only [Bool.not_true,Bool.false_or] at hc;refine wp_region_any hC.mixed ?_;refine Q6q an ao hc aq ak.size _ a _ (by simp) ?_ ?_ ?_
   ·intro j o _ hl;exfalso;unfold Lst at hl;simp [Array.getD] at hl
   ·refine Nat.le_trans List.countP_le_length ?_;simp
   ·have h0:∀ (rs:List Rec) (i:Nat) (s:St),Ma (Array.replicate ak.size false) i s rs=s:=by
     intro rs;induction rs with
     |nil=>intro i s;rfl
     |cons x r ih=>
      intro i s;simp only [Ma];have:(Array.replicate ak.size false).getD i false=false:=by simp [Array.getD]
      rw [this];exact ih (i+1) s
    rw [h0];exact hR.drawn _
theorem Dy {c:Code} {am:St->(Exit->St->Option R)->Option R} (ak:∀ (st:St) (k:Exit->St->Option R) (r:R),am st k=some r->∀ a w,T0 E st a w->c.wp P (Q0D E k r) a w) :
  ∀ (n:Nat) (st:St) (k:Exit->St->Option R) (r:R),Q4H am n st k=some r->∀ a w,T0 E st a w->Code.rounds P c (Q0D E k r) n a w
 |0,st,k,r,h=>by simp [Q4H] at h
 |n+1,st,k,r,h=>by
  intro a w hR;simp only [Q4H] at h;rw [rounds_succ];refine wp_mono (ak st _ r h a w hR) fun e a' w' hp=>?_
  obtain ⟨st',an,hk⟩:=hp;cases e with
  |normal=>exact Dy ak n st' k r hk a' w' an
  |exit id=>exact ⟨st',an,hk⟩
  |ret=>exact ⟨st',an,hk⟩
  |_=>cases hk
theorem Q1s {C:VC} (hC:VCOk P C) (n:Nat):∀ (c:Code) (st:St) (k:Exit->St->Option R) (r:R),N9 C n c st k=some r->∀ a w,T0 E st a w->c.wp P (Q0D E k r) a w:=by
 intro c;induction c with
 |skip=>intro st k r h a w hR;exact wp_skip ⟨st,hR,h⟩
 |region id au ar=>
  intro st k r h a w hR;exact N2 hC h hR fun st' a' w' ak hk=>⟨st',ak,hk⟩
 |seq x y ao am=>
  intro st k r h a w hR;simp only [N9] at h;refine wp_seq (wp_mono (ao st _ r h a w hR) fun e a' w' hp=>?_);obtain ⟨st',ak,hk⟩:=hp;cases e with
  |normal=>exact am st' k r hk a' w' ak
  |exit id=>exact ⟨st',ak,hk⟩
  |ret=>exact ⟨st',ak,hk⟩
  |_=>cases hk
 |cond c x y ao am=>
  intro st k r h a w hR;simp only [N9] at h;split at h
  ·rename_i e he;obtain ⟨β,S,an⟩:=hR;have hv:=(he▸Q15 an c).bool_inv;refine wp_cond hv ?_;cases e with
   |true=>exact ao st k r (by simpa using h) a w ⟨β,S,an⟩
   |false=>exact am st k r (by simpa using h) a w ⟨β,S,an⟩
  ·cases h
 |block id c ih=>
  intro st k r h a w hR;simp only [N9] at h;refine wp_block (wp_mono (ih st _ r h a w hR) fun e a' w' hp=>?_);obtain ⟨st',ak,hk⟩:=hp;cases e with
  |normal=>exact ⟨st',ak,hk⟩
  |exit j=>
   cases hb:Nat.beq j id with
   |true=>
    simp only [hb,Qdq] at hk;have:=Qdk hb;simp only [Exit.inBlock,this,if_true];exact ⟨st',ak,hk⟩
   |false=>
    simp only [hb,QdB] at hk;have aq:¬ j=id:=fun e=>by subst e;simp at hb
    simp only [Exit.inBlock,aq,if_false];exact ⟨st',ak,hk⟩
  |ret=>exact ⟨st',ak,hk⟩
  |_=>cases hk
 |loop c ih=>
  intro st k r h a w hR;simp only [N9] at h;refine wp_loop_rounds _ (Dy (fun st k r h a w hR=>ih _ k r h a w ?_) _ st k r h a w hR);unfold Cq;split
  ·exact CW _ hR
  ·exact hR
 |exit id=>intro st k r h a w hR;exact wp_exit ⟨st,hR,h⟩
 |ret=>intro st k r h a w hR;exact wp_ret ⟨st,hR,h⟩
 |_=>intro st k r h;simp [N9] at h
theorem PY:∀ (t:Nat) (av:AV),PA av=true->gds t av=false
 |t,.gd ..,h=>by simp [PA] at h
 |t,.ag l,h=>by
  simp only [gds];exact go t l (by simpa [PA] using h)
 |t,.tup l,h=>by
  simp only [gds];exact go t l (by simpa [PA] using h)
 |t,.fn _ l,h=>by
  simp only [gds];exact go t l (by simpa [PA] using h)
 |t,.top,_=>rfl
 |t,.d _,_=>rfl
 |t,.nil,_=>rfl
 |t,.ptr ..,_=>rfl
 |t,.el ..,_=>rfl
 |t,.fs ..,_=>rfl
 |t,.mpd _,_=>rfl
 |t,.ex _,_=>rfl
 |t,.arr _,_=>rfl
 |t,.ap ..,_=>rfl
 |t,.sa ..,_=>rfl
where
 go:∀ (t:Nat) (l:List AV),Gz l=true->DD t l=false
 |_,[],_=>rfl
 |t,a::r,h=>by
  simp only [Gz,Qdl] at h;simp only [DD,QdI];exact ⟨PY t a h.1,go t r h.2⟩
theorem Cw:∀ {args:List AV} {i t:Nat} {av:AV},look (Q1W i args) t=some av->∃ j,t=i+j/\args[j]? = some av
 |a::r,i,t,av,h=>by
  simp only [Q1W,Xv] at h;by_cases e:t=i
  ·rw [QdJ e] at h;injection h with h;exact ⟨0,by omega,by simp [h]⟩
  ·rw [Qdx e] at h;obtain ⟨j,h1,h2⟩:=Cw h;exact ⟨j+1,by omega,by simpa using h2⟩
theorem AR:∀ {l:List AV} {i:Nat} {x:AV},Gz l=true->l[i]? = some x->PA x=true
 |a::r,i,x,h,hx=>by
  simp only [Gz,Qdl] at h;cases i with
  |zero=>simp at hx;subst hx;exact h.1
  |succ i=>exact AR h.2 (by simpa using hx)
def Q1G (tmps:Array Value):ResultVar->Sem Value
 |.tmp t=>pure (tmps.getD t undef)
 |.cell x t=>do loadVar t (<- asAddr (tmps.getD x undef))
theorem CQ (fn:Func) (tmps:Array Value):results fn tmps=(do
  let vs <- fn.results.mapM (Q1G tmps)
  pure (if h:vs.size=1 then vs[0] else .tuple vs)):=rfl
theorem Cp {w:World} {ad:Addr}:(asAddr (.pointer (some ad))).run P w = .ok ad w:=by simp [asAddr]
theorem Q0M {C:VC} (hC:VCOk P C) {st:St} {a:Act} {w:World} {β:Nat->Option Nat} {S:Nat->Prop} (hR:Rel E β S st a w) {rv:ResultVar} {av:AV} (h:Q3l C.tt st rv=some av) :
  ∃ v,(Q1G a.tmps rv).run P w = .ok v w/\RdA β S (look st.h) w (tmv a) v av:=by
 cases rv with
 |tmp t=>
  simp only [Q3l,Option.some.injEq] at h;subst h;exact ⟨_,rfl,Q15 hR (.tmp t)⟩
 |cell x ty=>
  simp only [Q3l] at h;split at h
  ·rename_i l off hl;obtain ⟨b,hb,hv⟩:=(hR.tm x _ (Ta hl (by simp))).ptr_inv;split at h
   ·rename_i cells ti ar a9;have aw:=hC.tt ty ti a9;obtain ⟨b',bj,cs,fz,ax,hw,_,bl,hr⟩:=hR.hr.ob l _ ar;obtain rfl:b=b':=by rw [hb] at ax;injection ax
    have hx:a.tmps.getD x undef = .pointer (some ⟨b,off,none⟩):=hv;cases hs:Uf ti.kd with
    |true=>
     simp only [hs,Qdq] at h;split at h
     ·rename_i au bc;cases h;obtain ⟨h1,h2,h3⟩:=TC bc;have an:∀ j,j<ti.size->off+j<cs.size:=fun j hj=>by
       have h4:=h2 j hj;have h5:au[j]? = some (au[j]'(by omega)):=Qdp (by omega);rw [h5] at h4;obtain ⟨h6,_⟩:=Qdm.1 h4;omega
      have ak:=J7 aw hs (w:=w) (a:=⟨b,off,none⟩) (vs:=(List.range ti.size).map fun j=>cs.getD (off+j) undef) (by simp) (fun j v hv=>by
       simp only [List.getElem?_map,Qdn] at hv;obtain ⟨j',a7,rfl⟩:=hv;obtain ⟨am,he⟩:=Qdm.1 a7;simp at am he;subst he;rw [Gc,UK hw];exact Ua (an j am))
      refine ⟨.agg ((List.range ti.size).map fun j=>cs.getD (off+j) undef).toArray,by simp only [Q1G,hx,Qds,Cp,Qdo,ak],.ag _ _ (by simp [h1]) fun i y hy=>?_⟩;have hi:i<ti.size:=by
       obtain ⟨h6,_⟩:=Qdm.1 hy;omega
      rw [Nh (v:=cs.getD (off+i) undef) (by simp [hi])];exact (hr (off+i) y ((h2 i hi).trans hy)).any_tm (h3 i y hy)
     ·cases h
    |false=>
     simp only [hs,QdB] at h;split at h
     ·rename_i c hc;cases ao:FN c with
      |false=>simp [ao] at h
      |true=>
       simp only [ao,Qdq,Option.some.injEq] at h;subst h;have an:off<cs.size:=by
        obtain ⟨h6,_⟩:=Qdm.1 hc;omega
       have ak:=VX aw hs (w:=w) (a:=⟨b,off,none⟩) (v:=cs.getD off undef) (by rw [UK hw];exact Ua an);exact ⟨cs.getD off undef,by simp only [Q1G,hx,Qds,Cp,Qdo,ak],(hr off c hc).any_tm ao⟩
     ·cases h
   ·cases h
  ·cases h
theorem Lg {C:VC} (hC:VCOk P C) {st:St} {a:Act} {w:World} {β:Nat->Option Nat} {S:Nat->Prop} (hR:Rel E β S st a w):∀ {rs:List ResultVar} {ak:List AV},CP C.tt st rs=some ak ->
  ∃ vs:List Value,(rs.mapM (Q1G a.tmps)).run P w = .ok vs w/\vs.length=ak.length/\Gz ak=true /\
   ∀ (i:Nat) (v:Value) (av:AV),vs[i]? = some v->ak[i]? = some av->RdA β S (look st.h) w (tmv a) v av
 |[],ak,h=>by
  simp only [CP,Option.some.injEq] at h;subst h;exact ⟨[],by simp,rfl,rfl,fun i v av h=>by simp at h⟩
 |r::rs,ak,h=>by
  simp only [CP] at h;split at h
  ·rename_i x hx;split at h
   ·rename_i l hl;cases hg:PA x with
    |false=>simp [hg] at h
    |true=>
     simp only [hg,Qdq,Option.some.injEq] at h;subst h;obtain ⟨v,hv,ar⟩:=Q0M hC hR hx;obtain ⟨vs,h1,h2,h3,h4⟩:=Lg hC hR hl;refine ⟨v::vs,?_,by simp [h2],by simp [Gz,hg,h3],fun i u av hu am=>?_⟩
     ·simp only [List.mapM_cons,Qds,hv,h1,Qdo,Sem.run_pure]
     ·cases i with
      |zero=>simp at hu am;subst hu;subst am;exact ar
      |succ i=>exact h4 i u av (by simpa using hu) (by simpa using am)
   ·cases h
  ·cases h
theorem Q2q {C:VC} (hC:VCOk P C) {st:St} {a:Act} {w:World} {β:Nat->Option Nat} {S:Nat->Prop} (hR:Rel E β S st a w) {fn:Func} {av:AV} (h:Q26 C.tt st fn.results.toList=some av) :
  ∃ v,(results fn a.tmps).run P w = .ok v w/\RdA β S (look st.h) w tm0 v av/\PA av=true:=by
 have an:∀ (v:Value) (av:AV),PA av=true->RdA β S (look st.h) w (tmv a) v av->RdA β S (look st.h) w tm0 v av:=fun v av hg hr=>
  hr.mono (fun _ h=>h) (fun _ _=>rfl) (fun l _=>Keep.rfl_ ..) (fun t ht=>by rw [PY t av hg] at ht;cases ht)
 unfold Q26 at h;have aq:∀ ak,CP C.tt st fn.results.toList=some ak->∃ vs:List Value,(fn.results.mapM (Q1G a.tmps)).run P w = .ok vs.toArray w/\vs.length=ak.length/\Gz ak=true /\
   ∀ (i:Nat) (v:Value) (av:AV),vs[i]? = some v->ak[i]? = some av->RdA β S (look st.h) w (tmv a) v av:=by
  intro ak ha;obtain ⟨vs,h1,h2,h3,h4⟩:=Lg hC hR ha;refine ⟨vs,?_,h2,h3,h4⟩;rw [<- Array.toList_mapM,Sem.run_map] at h1;cases hr:(fn.results.mapM (Q1G a.tmps)).run P w with
  |ok b w'=>
   rw [hr] at h1;simp only [Qdo,Result.ok.injEq] at h1;obtain ⟨h5,rfl⟩:=h1;congr 1;apply Array.ext';simpa using h5
  |halt x w'=>rw [hr] at h1;simp at h1
 split at h
 ·rename_i x hx;cases h;obtain ⟨vs,h1,h2,h3,h4⟩:=aq _ hx
  match vs,h2 with
  |[v],_=>
   have hg:PA av=true:=by simpa [Gz] using h3
   refine ⟨v,?_,an v av hg (h4 0 v av rfl rfl),hg⟩;rw [CQ];simp only [Qds,h1,Qdo];rfl
 ·rename_i l au hl;cases h;obtain ⟨vs,h1,h2,h3,h4⟩:=aq _ hl;have hg:PA (.tup l)=true:=by simpa [PA] using h3
  have aw:¬ vs.toArray.size=1:=by
   intro h5;simp only [List.size_toArray] at h5
   match l,h5.symm.trans h2 with
   |[x],_=>exact au x rfl
  refine ⟨.tuple vs.toArray,?_,an _ _ hg (.tup _ _ (by simpa using h2) fun i x hx=>?_),hg⟩
  ·rw [CQ];simp only [Qds,h1,Qdo,aw,dite_false];rfl
  ·have hi:i<vs.length:=by have:=(Qdm.1 hx).1;omega
   have hv:=Qdp hi;rw [Nh hv];exact h4 i _ x hv hx
 ·cases h
def Lz (H:List (Nat × Ob)) (k:AV->List (Nat × Ob)->Option R) (r:R) (β:Nat->Option Nat) (S:Nat->Prop) (w:World):Ending->World->Prop:=fun e w'=>
 ∃ v av H' β' S',e = .returned v/\k av H'=some r/\RdA β' S' (look H') w' tm0 v av/\PA av=true/\HRel ⟨w,fun b=>∃ l,(look H l).isSome=true/\β l=some b,S,β⟩ β' S' (look H') w'
def fnK (tt:TT) (fn:Func) (k:AV->List (Nat × Ob)->Option R):Exit->St->Option R:=fun e st=>match e with
 |.ret=>match Q26 tt st fn.results.toList with
  |some v=>k v st.h
  |none=>none
 |.normal=>match Q26 tt st fn.results.toList with
  |some v=>k v st.h
  |none=>none
 |_=>none
theorem Q2L {C:VC} (hC:VCOk P C) {f:Nat} {fn:Func} {c:Code} (hf:P.funcs[f]? = some fn) (hc:fn.body=some c) {args:List AV} {H:List (Nat × Ob)} {k:AV->List (Nat × Ob)->Option R} {r:R} (hb:(Nat.ble args.length fn.ntmps&&Gz args)=true)
  {β:Nat->Option Nat} {S:Nat->Prop} {w:World} {vs:List Value}
  (aw:∀ a:Act,Rel ⟨w,fun b=>∃ l,(look H l).isSome=true/\β l=some b,S,β⟩ β S { n:=fn.ntmps,tm:=Q1W 0 args,h:=H } a w->c.wp P (Q0D ⟨w,fun b=>∃ l,(look H l).isSome=true/\β l=some b,S,β⟩ (fnK C.tt fn k) r) a w) (hO:Objs β S (look H) w) (hA:ArgsRd β S (look H) w vs args) :
  Calls P f vs.toArray w (Lz H k r β S w):=by
 simp only [Qdl] at hb;have bi:=QdK hb.1;refine calls_of_wp hf hc ?_;have hR:Rel ⟨w,fun b=>∃ l,(look H l).isSome=true/\β l=some b,S,β⟩ β S { n:=fn.ntmps,tm:=Q1W 0 args,h:=H } { tmps:=vs.toArray++Array.replicate (fn.ntmps-vs.toArray.size) undef,defers:=[] } w:=by
  refine ⟨by simp;have:=hA.1;omega,rfl,fun t av ht=>?_,⟨hO.ob,hO.inj,hO.apart,fun l b h1 h2=>.inl ⟨l,h1,h2⟩,hO.sb,fun b h=>.inl h,fun b h=>h,Fr.refl _ _,fun _ _=>rfl,fun _ _ _ _ _ cs ty fz hw=>⟨cs,ty,fz,hw,rfl⟩⟩⟩;obtain ⟨j,hj,ak⟩:=Cw ht;simp only [QdC] at hj;subst hj;have am:t<vs.length:=by have:=(Qdm.1 ak).1;have:=hA.1;omega
  have hv:=Qdp am;have ao:=hA.2 t _ av hv ak;have a6:tmv { tmps:=vs.toArray++Array.replicate (fn.ntmps-vs.toArray.size) undef,defers:=[] } t=vs[t]:=by
   unfold tmv;have h5:(vs.toArray++Array.replicate (fn.ntmps-vs.toArray.size) undef)[t]? = some vs[t]:=by
    rw [Array.getElem?_append_left (by simpa using am)];simp [am]
   have h6:=Ua (Qdv.1 h5).1;rw [h5] at h6;injection h6 with h6
   exact h6.symm
  rw [a6];exact ao.mono (fun _ h=>h) (fun _ _=>rfl) (fun l _=>Keep.rfl_ ..) (fun t' ar=>by rw [PY t' av (AR hb.2 ak)] at ar;cases ar)
 refine wp_mono (aw _ hR) fun e a' w' hp=>?_
 obtain ⟨st',⟨β',S',an⟩,hk⟩:=hp;have aq:∀ av,Q26 C.tt st' fn.results.toList=some av->k av st'.h=some r->a'.defers=[]/\∃ v,(results fn a'.tmps).run P w' = .ok v w'/\∃ au av H' β' S',Ending.returned v = .returned au/\k av H'=some r/\RdA β' S' (look H') w' tm0 au av/\PA av=true/\HRel ⟨w,fun b=>∃ l,(look H l).isSome=true/\β l=some b,S,β⟩ β' S' (look H') w':=by
  intro av ak a7;obtain ⟨v,hv,ao,hg⟩:=Q2q hC an ak;exact ⟨an.dfr,v,hv,v,av,st'.h,β',S',rfl,a7,ao,hg,an.hr⟩
 cases e with
 |ret=>
  simp only [fnK] at hk;split at hk
  ·rename_i av ak;exact aq av ak hk
  ·cases hk
 |normal=>
  simp only [fnK] at hk;split at hk
  ·rename_i av ak;exact aq av ak hk
  ·cases hk
 |_=>cases hk
theorem E5 {C:VC} (hC:VCOk P C) {n f:Nat} {fn:Func} (hf:P.funcs[f]? = some fn) {args:List AV} {H:List (Nat × Ob)} {k:AV->List (Nat × Ob)->Option R} {r:R} (h:vfn C n fn args H k=some r)
  {β:Nat->Option Nat} {S:Nat->Prop} {w:World} {vs:List Value} (hO:Objs β S (look H) w) (hA:ArgsRd β S (look H) w vs args) :
  Calls P f vs.toArray w fun e w'=>∃ v av H' β' S',e = .returned v/\k av H'=some r/\RdA β' S' (look H') w' tm0 v av/\PA av=true/\HRel ⟨w,fun b=>∃ l,(look H l).isSome=true/\β l=some b,S,β⟩ β' S' (look H') w':=by
 unfold vfn at h;split at h
 case h_2=>cases h
 rename_i c hc;cases hb:(Nat.ble args.length fn.ntmps&&Gz args) with
 |false=>simp [hb] at h
 |true=>
  simp only [hb,Qdq] at h;exact Q2L hC hf hc hb (fun a hR=>Q1s hC n c _ _ r h a w ⟨β,S,hR⟩) hO hA
end

section
variable {P:Program}
def Q9k:List Value->List Nat->Option (List D)
 |[],_=>some []
 |v::r,ss=>
  match Q9k r ss.tail with
  |some l=>match v with
   |.int k n=>some (.int k n::l)
   |.bool b=>some (.bool b::l)
   |.string s=>some (.str s.data.toList::l)
   |.slice none 0 0=>some (.sl (ss.headD 0) []::l)
   |_=>none
  |none=>none
def A5 (P:Program):Nat->Nat->List Nat
 |0,_=>[]
 |f+1,t=>match P.underlying t with
  |some (.struct fs)=>fs.toList.flatMap fun fd=>A5 P f fd.type
  |some (.array n e)=>(List.replicate n (A5 P f e)).flatten
  |_=>[t]
def Q9t (P:Program) (t:Nat):Nat:=
 match P.underlying t with
 |some (.slice e)=>P.cellsOf e
 |_=>0
def kdP (P:Program):TypeDesc->Option Kd
 |.int k=>some (.int k)
 |.bool=>some .bool
 |.string=>some .str
 |.slice e=>match P.info? e with
  |some i=>if 0<i.size then some (.sl e i.size) else none
  |none=>none
 |.struct fs=>if fs.toList.all (fun f=>match P.info? f.type with | some i=>i.size != 0 | none=>false) then some .struct else none
 |.array n e=>match P.info? e with
  |some i=>if 0<i.size then some (.array e i.size n) else none
  |none=>none
 |.pointer _=>some .ptr
 |.map K e=>match P.underlying K,P.info? e with
  |some (.int .i64),some i=>match i.zero with
   |some (.slice none 0 0)=>some .mapI
   |some (.bool false)=>some .mpb
   |_=>some .other
  |_,_=>some .other
 |.func ..=>some .other
 |.interface _=>some .other
 |_=>none
def Q4Z (P:Program):TypeDesc->List (Nat × Nat)
 |.struct fs=>fs.toList.map fun f=>(f.offset,f.type)
 |.array n e=>(List.range n).map fun i=>(i*((P.info? e).map (·.size)).getD 0,e)
 |_=>[]
def Q9I (P:Program) (so:TypeId->Option (List Kd)):Nat->List Field->Option (List Kd)
 |_,[]=>some []
 |off,fd::r=>
  if fd.offset = off /\ fd.name ≠ "_" then match so fd.type with
   |some a=>if (P.info? fd.type).map (·.size)=some a.length then match Q9I P so (off+a.length) r with
    |some l=>some (a++l)
    |none=>none
    else none
   |none=>none
  else none
def Q71 (P:Program):Nat->TypeId->Option (List Kd)
 |0,_=>none
 |f+1,t=>
  match P.underlying t with
  |some .bool=>some [.bool]
  |some (.int k)=>some [.int k]
  |some .string=>some [.str]
  |some (.struct fs)=>if P.stoodInHeld t then none else Q9I P (Q71 P f) 0 fs.toList
  |_=>none
def QbX (P:Program) (t:Nat):Option (List Kd):=
 match P.underlying t with
 |some (.struct _)=>if P.eqGuardType P.depth t then none else Q71 P 6 t
 |some (.array 2 e)=>match P.underlying e with
  |some (.int k)=>if (P.info? e).map (·.size)=some 1/\P.eqGuardType P.depth t=false then some [.int k,.int k] else none
  |_=>none
 |_=>none
def QbG:Kd->Nat->Bool
 |.array _ ak n,k=>Nat.beq k (n*ak)
 |_,_=>true
def tyI (P:Program) (t:Nat):Option TyI:=
 match P.info? t,P.underlying t with
 |some i,some d=>match i.zero,kdP P d with
  |some z,some kd=>
   if z.cells.toList.length=i.size/\(Uf kd=false->i.size=1)/\QbG kd i.size=true then
    some { kd,size:=i.size,bytes:=i.bytes,zero:=z.cells.toList,zd:=(Q9k z.cells.toList ((A5 P 8 t).map (Q9t P))).getD [],fields:=Q4Z P d,eqk:=QbX P t }
   else none
  |_,_=>none
 |_,_=>none
def Q9j (P:Program):List Nat->TT
 |[]=>[]
 |t::r=>match tyI P t with
  |some ti=>(t,ti)::Q9j P r
  |none=>Q9j P r
theorem Q5W:∀ {vs:List Value} {ss:List Nat} {l:List D},Q9k vs ss=some l->∀ (j:Nat) (x:D),l[j]? = some x->∃ v,vs[j]? = some v/\∀ (S:Nat->Prop) (w:World),Rd S w v x
 |[],ss,l,h,j,x,hx=>by simp [Q9k] at h;subst h;simp at hx
 |v::r,ss,l,h,j,x,hx=>by
  simp only [Q9k] at h;split at h
  case h_2=>cases h
  rename_i l' am;have ak:∀ d,l=d::l'->(∀ (S:Nat->Prop) (w:World),Rd S w v d)->∃ v',(v::r)[j]? = some v'/\∀ (S:Nat->Prop) (w:World),Rd S w v' x:=by
   intro d hd hr;subst hd;cases j with
   |zero=>simp at hx;subst hx;exact ⟨v,rfl,hr⟩
   |succ j=>
    obtain ⟨v',h1,h2⟩:=Q5W am j x (by simpa using hx);exact ⟨v',by simpa using h1,h2⟩
  split at h
  ·cases h;exact ak _ rfl fun _ _=>.int _ _
  ·cases h;exact ak _ rfl fun _ _=>.bool _
  ·cases h;exact ak _ rfl fun _ _=>.str _
  ·cases h;exact ak _ rfl fun _ _=>.sl0 _ _ _
  ·cases h
def Ng (P:Program) (t:TypeId) (xs:List Value):Value:=
 match P.underlying t with
 |some (.struct _)=>.agg xs.toArray
 |_=>xs.headD undef
theorem Q3g {t:TypeId} {f:Nat} {ks:List Kd} (hk:Q71 P f t=some ks) (hi:(P.info? t).map (·.size)=some ks.length) {w:World} {cs:Array Value} {off:Nat} (ar:off+ks.length<=cs.size) :
  (part t cs off).run P w = .ok (Ng P t ((cs.toList.drop off).take ks.length)) w:=by
 obtain ⟨i,an,aq⟩:=Qdn.1 hi;have one:∀ (d:TypeDesc),P.underlying t=some d->(∀ fs,d≠.struct fs)->(∀ n e,d≠.array n e)->ks.length=1->(part t cs off).run P w = .ok (Ng P t ((cs.toList.drop off).take ks.length)) w:=by
  intro d hd h1 h2 hl;have ak:(isAgg t).run P w = .ok false w:=by
   simp only [isAgg,Qds,QI hd,Qdo];cases d <;> simp_all
  have hc:cs[off]? = some (cs[off]'(by omega)):=QdF (by omega);have hp:Ng P t ((cs.toList.drop off).take ks.length)=cs[off]'(by omega):=by
   have ao:off<cs.toList.length:=by simp;omega
   rw [hl,List.drop_eq_getElem_cons ao];unfold Ng;rw [hd];cases d <;> simp_all
  simp only [part,Qds,ak,Qdo,Bool.false_eq_true,if_false,hc,hp];rfl
 cases f with
 |zero=>simp [Q71] at hk
 |succ f=>
  unfold Q71 at hk;split at hk
  ·rename_i hd;injection hk with hk;exact one _ hd (by simp) (by simp) (by rw [<- hk];rfl)
  ·rename_i k hd;injection hk with hk;exact one _ hd (by simp) (by simp) (by rw [<- hk];rfl)
  ·rename_i hd;injection hk with hk;exact one _ hd (by simp) (by simp) (by rw [<- hk];rfl)
  ·rename_i fs hd;have ak:(isAgg t).run P w = .ok true w:=by simp [isAgg,QI hd]
   have hp:Ng P t ((cs.toList.drop off).take ks.length) = .agg (cs.extract off (off+ks.length)):=by
    unfold Ng;rw [hd];simp only;congr 1;apply Array.ext';simp [List.take_drop]
   simp only [part,Qds,ak,Qdo,if_true,sizeOf,XU an,aq,hp];rfl
  ·cases hk
theorem Q9T:∀ (f:Nat) (t:TypeId) (ks:List Kd),Q71 P f t=some ks->∀ (d:Nat),f<=d->∀ (w:World) (xs ys:List Value) (bs:List Bool),xs.length=ks.length->ys.length=ks.length->bs.length=ks.length ->
  (∀ (j:Nat) (kd:Kd) (b:Bool),ks[j]? = some kd->bs[j]? = some b->CEq kd (xs.getD j undef) (ys.getD j undef) b)->(Op.equalIn d t (Ng P t xs) (Ng P t ys)).run P w = .ok (bs.all id) w:=by
 intro f;induction f with
 |zero=>intro t ks hk;simp [Q71] at hk
 |succ f ih=>
  intro t ks hk d hd w xs ys bs hx hy hb hc;obtain ⟨d,rfl⟩:∃ d',d=d'+1:=⟨d-1,by omega⟩;unfold Q71 at hk;split at hk
  ·rename_i ht;injection hk with hk;subst hk
   match xs,ys,bs,hx,hy,hb with
   |[x],[y],[b],_,_,_=>
    obtain ⟨m,n,h1,h2,h3⟩:=hc 0 _ _ rfl rfl;simp at h1 h2;subst h1 h2 h3;simp [Ng,ht,Op.equalIn,QI ht]
  ·rename_i k ht;injection hk with hk;subst hk
   match xs,ys,bs,hx,hy,hb with
   |[x],[y],[b],_,_,_=>
    obtain ⟨m,n,h1,h2,h3⟩:=hc 0 _ _ rfl rfl;simp at h1 h2;subst h1 h2 h3;simp [Ng,ht,Op.equalIn,QI ht]
  ·rename_i ht;injection hk with hk;subst hk
   match xs,ys,bs,hx,hy,hb with
   |[x],[y],[b],_,_,_=>
    obtain ⟨m,n,h1,h2,h3⟩:=hc 0 _ _ rfl rfl;simp at h1 h2;subst h1 h2 h3;simp only [Ng,ht,List.headD_cons,Op.equalIn,Qds,QI ht,Qdo];rw [beq_toListBytes,ByteArray.toList_eq,ByteArray.toList_eq];simp
  ·rename_i fs ht;split at hk
   ·cases hk
   rename_i a9;have a6:P.fieldsOf t=fs:=by simp [Program.fieldsOf,ht]
   have bc:∀ (r:List Field) (off:Nat) (l:List Kd) (ak:List Bool),Q9I P (Q71 P f) off r=some l->off+l.length<=xs.length->xs.length=ys.length->ak.length=l.length ->
     (∀ (j:Nat) (kd:Kd) (b:Bool),l[j]? = some kd->ak[j]? = some b->CEq kd (xs.getD (off+j) undef) (ys.getD (off+j) undef) b) ->
     (Op.eqFields d xs.toArray ys.toArray r).run P w = .ok (ak.all id) w:=by
    intro r;induction r with
    |nil=>
     intro off l ak hl _ _ ax _;simp [Q9I] at hl;subst hl;have:ak=[]:=QdH (by simpa using ax);subst this;simp [Op.eqFields]
    |cons fd r bi=>
     intro off l ak hl bh a7 ax ay;unfold Q9I at hl;split at hl
     case isFalse=>cases hl
     rename_i aw;split at hl
     case h_2=>cases hl
     rename_i a ha;split at hl
     case isFalse=>cases hl
     rename_i hi;split at hl
     case h_2=>cases hl
     rename_i l' bg;injection hl with hl;subst hl
     simp only [List.length_append] at bh ax;have p1:=Q3g ha hi (w:=w) (cs:=xs.toArray) (off:=off) (by simp;omega);have p2:=Q3g ha hi (w:=w) (cs:=ys.toArray) (off:=off) (by simp;omega);have gd:∀ (zs:List Value) (j:Nat),zs.length=xs.length->j<a.length->((zs.drop off).take a.length).getD j undef=zs.getD (off+j) undef:=by
      intro zs j hz hj;simp only [List.getD,List.getElem?_take,hj,if_true,Qdw]
     have e1:=ih fd.type a ha d (by omega) w ((xs.drop off).take a.length) ((ys.drop off).take a.length) (ak.take a.length) (by simp;omega) (by simp;omega) (by simp;omega) (fun j kd b hj ao=>by
      have aq:j<a.length:=(Qdm.1 hj).1;rw [gd xs j rfl aq,gd ys j a7.symm aq];refine ay j kd b (by rw [List.getElem?_append_left aq];exact hj) ?_;rw [List.getElem?_take,QdJ aq] at ao;exact ao)
     have e2:=bi (off+a.length) l' (ak.drop a.length) bg (by omega) a7 (by simp;omega) (fun j kd b hj ao=>by
      rw [Nat.add_assoc];refine ay (a.length+j) kd b (by rw [List.getElem?_append_right (by omega)];simpa using hj) ?_;rw [Qdw] at ao;exact ao)
     have a8:ak.all id=((ak.take a.length).all id&&(ak.drop a.length).all id):=by
      rw [<- List.all_append,List.take_append_drop]
     simp only [Op.eqFields,aw.1,aw.2,ne_eq,not_false_eq_true,if_true,Qds,p1,p2,Qdo,e1];rw [a8];cases (ak.take a.length).all id with
     |true=>simp [e2]
     |false=>simp
   have:=bc fs.toList 0 ks bs hk (by omega) (by omega) hb (fun j kd b h1 h2=>by rw [QdC];exact hc j kd b h1 h2);have hp:∀ zs,Ng P t zs = .agg zs.toArray:=fun zs=>by simp [Ng,ht]
   rw [hp,hp,run_equalIn_struct w d t _ _ (by rw [a6];exact ht) (by simpa using a9),a6];exact this
  ·cases hk
theorem Q83 {t e:TypeId} {k:IntKind} (ht:P.underlying t=some (.array 2 e)) (he:P.underlying e=some (.int k)) (hi:(P.info? e).map (·.size)=some 1) (w:World) (a b c d:Int) :
  (Op.equalIn 10000 t (.agg #[.int k a,.int k b]) (.agg #[.int k c,.int k d])).run P w = .ok ((a == c)&&(b == d)) w:=by
 obtain ⟨i,am,an⟩:=Qdn.1 hi;have ak:(isAgg e).run P w = .ok false w:=by
  simp only [isAgg,Qds,QI he,Qdo];rfl
 have hs:(Go.sizeOf e).run P w = .ok 1 w:=by simp only [sizeOf,Qds,XU am,Qdo,an];rfl
 have hp:∀ (x y:Value),(part e #[x,y] 0).run P w = .ok x w/\(part e #[x,y] 1).run P w = .ok y w:=fun x y=>by
  constructor <;> simp [part,ak]
 have hq:∀ x y:Int,(Op.equalIn 9999 e (.int k x) (.int k y)).run P w = .ok (x == y) w:=fun x y=>by
  rw [Op.equalIn];simp [QI he]
 rw [Op.equalIn];simp only [Qds,QI ht,Qdo,hs];simp [Std.Legacy.Range.forIn_eq_forIn_range',Std.Legacy.Range.size,List.range',(hp _ _).1,(hp _ _).2,hq];by_cases h1:a=c <;> by_cases h2:b=d <;> simp [h1,h2]
theorem Q8l {t:Nat} {ks:List Kd} (h:QbX P t=some ks):Qcn P t ks:=by
 unfold QbX at h;split at h
 case h_3=>cases h
 case h_2=>
  rename_i e ht;split at h
  case h_2=>cases h
  rename_i k he;split at h
  case isFalse=>cases h
  rename_i hg;injection h with h
  subst h;intro w xs ys bs hx hy hb hc;refine ⟨?_,hg.2⟩;obtain ⟨xs⟩:=xs;obtain ⟨ys⟩:=ys
  match xs,ys,bs,hx,hy,hb with
  |[x0,x1],[y0,y1],[b0,b1],_,_,_=>
   obtain ⟨m,n,h1,h2,h3⟩:=hc 0 _ _ rfl rfl;obtain ⟨m',n',am,ak,aw⟩:=hc 1 _ _ rfl rfl;simp at h1 h2 am ak;subst h1 h2 h3 am ak aw;rw [Q83 ht he hg.1];simp
 rename_i fs ht;split at h
 ·cases h
 rename_i hg;intro w xs ys bs hx hy hb hc;refine ⟨?_,by simpa using hg⟩;have:=Q9T 6 t ks h 10000 (by omega) w xs.toList ys.toList bs (by simpa using hx) (by simpa using hy) hb (fun j kd b h1 h2=>by
  have:=hc j kd b h1 h2;simpa [Array.getD_eq_getD_getElem?,List.getD] using this)
 simpa [Ng,ht] using this
theorem Qav {d:TypeDesc} {e ak:Nat} (hk:kdP P d=some (.sl e ak)):d = .slice e/\0<ak/\∃ i,P.info? e=some i/\i.size=ak:=by
 cases d <;> simp only [kdP,Option.some.injEq,reduceCtorEq] at hk
 case slice e'=>
  split at hk
  ·rename_i i' am;split at hk
   ·injection hk with hk
    injection hk with h1 h2
    subst h1;exact ⟨rfl,by omega,i',am,h2⟩
   ·cases hk
  ·cases hk
 all_goals (repeat' split at hk) <;> simp at hk
theorem Q8q {t:TypeId} {d:TypeDesc} (hk:kdP P d=some .mapI) (hd:P.underlying t=some d):∃ K e,P.underlying t=some (.map K e)/\P.underlying K=some (.int .i64)/\∃ i,P.info? e=some i/\i.zero=some (.slice none 0 0):=by
 cases d <;> simp only [kdP,Option.some.injEq,reduceCtorEq] at hk
 case map K e=>
  split at hk
  ·rename_i i h1 h2;split at hk
   ·rename_i h3;exact ⟨K,e,hd,h1,i,h2,h3⟩
   ·cases hk
   ·cases hk
  ·cases hk
 all_goals (repeat' split at hk) <;> simp at hk
theorem Q3R {d:TypeDesc} (hk:kdP P d=some .struct):∃ fs,d = .struct fs/\∀ f∈fs.toList,∃ i,P.info? f.type=some i/\i.size≠0:=by
 cases d <;> simp only [kdP,Option.some.injEq,reduceCtorEq] at hk
 case struct fs=>
  split at hk
  ·rename_i ak;refine ⟨fs,rfl,fun f hf=>?_⟩;rw [List.all_eq_true] at ak;have:=ak f hf;split at this
   ·rename_i i' am;exact ⟨i',am,by simpa using this⟩
   ·cases this
  ·cases hk
 all_goals (repeat' split at hk) <;> simp at hk
theorem Q5Q {d:TypeDesc} {e ak n:Nat} (hk:kdP P d=some (.array e ak n)):d = .array n e/\0<ak/\∃ i,P.info? e=some i/\i.size=ak:=by
 cases d <;> simp only [kdP,Option.some.injEq,reduceCtorEq] at hk
 case array n' e'=>
  split at hk
  ·rename_i i' am;split at hk
   ·injection hk with hk
    injection hk with h1 h2 h3
    subst h1 h3;exact ⟨rfl,by omega,i',am,h2⟩
   ·cases hk
  ·cases hk
 all_goals (repeat' split at hk) <;> simp at hk
theorem Q8S {d:TypeDesc} {k:IntKind} (hk:kdP P d=some (.int k)):d = .int k:=by
 cases d <;> simp only [kdP,Option.some.injEq,Kd.int.injEq,reduceCtorEq] at hk <;> first | (subst hk;rfl) | ((repeat' split at hk) <;> simp at hk)
theorem Q6R {d:TypeDesc} (hk:kdP P d=some .bool):d = .bool:=by
 cases d <;> simp only [kdP,Option.some.injEq,reduceCtorEq] at hk <;> first | rfl | ((repeat' split at hk) <;> simp at hk)
theorem Q8C {d:TypeDesc} (hk:kdP P d=some .str):d = .string:=by
 cases d <;> simp only [kdP,Option.some.injEq,reduceCtorEq] at hk <;> first | rfl | ((repeat' split at hk) <;> simp at hk)
theorem Q8b {t:TypeId} {d:TypeDesc} (hk:kdP P d=some .mpb) (hd:P.underlying t=some d):∃ K e,P.underlying t=some (.map K e)/\P.underlying K=some (.int .i64)/\∃ i,P.info? e=some i/\i.zero=some (.bool false):=by
 cases d <;> simp only [kdP,Option.some.injEq,reduceCtorEq] at hk
 case map K e=>
  split at hk
  ·rename_i i h1 h2;split at hk
   ·cases hk
   ·rename_i h3;exact ⟨K,e,hd,h1,i,h2,h3⟩
   ·cases hk
  ·cases hk
 all_goals (repeat' split at hk) <;> simp at hk
theorem QaF {t:Nat} {ti:TyI} (h:tyI P t=some ti):TyOk P t ti:=by
 unfold tyI at h;split at h
 case h_2=>cases h
 rename_i i d hi hd;split at h
 case h_2=>cases h
 rename_i z kd hz hk;split at h
 case isFalse=>cases h
 rename_i hc;injection h with h
 subst h;refine ⟨⟨i,hi,rfl,rfl,z,hz,rfl⟩,fun hs=>⟨hc.2.1 hs,d,hd,?_,?_⟩,fun k he=>?_,fun he=>?_,fun he=>?_,fun e an he=>?_,fun he=>?_,fun e an n he=>?_,fun ks he=>Q8l he,hc.1,fun hl j x hx=>?_,fun he=>?_,fun he=>?_⟩
 ·rintro fs rfl;simp only [kdP] at hk;split at hk
  ·injection hk with hk;subst hk;simp [Uf] at hs
  ·cases hk
 ·rintro n e rfl;simp only [kdP] at hk;split at hk
  ·split at hk
   ·injection hk with hk;subst hk;simp [Uf] at hs
   ·cases hk
  ·cases hk
 ·simp only at he;subst he;rw [Q8S hk] at hd;exact hd
 ·simp only at he;subst he;rw [Q6R hk] at hd;exact hd
 ·simp only at he;subst he;rw [Q8C hk] at hd;exact hd
 ·simp only at he;subst he;obtain ⟨h1,h2,h3⟩:=Qav hk;rw [h1] at hd;exact ⟨hd,h2,h3⟩
 ·simp only at he;subst he;obtain ⟨fs,h1,h2⟩:=Q3R hk;subst h1;exact ⟨fs,hd,rfl,h2⟩
 ·simp only at he;subst he;obtain ⟨h1,h2,i',h3,h4⟩:=Q5Q hk;subst h1;refine ⟨hd,h2,⟨i',h3,h4⟩,Qdk hc.2.2,?_⟩;simp [Q4Z,h3,h4]
 ·simp only at hl hx;cases am:Q9k z.cells.toList ((A5 P 8 t).map (Q9t P)) with
  |none=>rw [am] at hx;simp at hx
  |some l=>rw [am] at hx;exact Q5W am j x (by simpa using hx)
 ·simp only at he;subst he;exact Q8b hk hd
 ·simp only at he;subst he;exact Q8q hk hd
theorem Q8n (ak:List Nat):TOk P (Q9j P ak):=by
 induction ak with
 |nil=>intro t ti h;simp [Q9j,look] at h
 |cons a r ih=>
  intro t ti h;unfold Q9j at h;split at h
  ·rename_i x hx;rw [Xv] at h;by_cases e:t=a
   ·rw [QdJ e] at h;injection h with h;subst h;subst e;exact QaF hx
   ·rw [Qdx e] at h;exact ih t ti h
  ·exact ih t ti h
mutual
def lf:AV->Bool
 |.ptr ..=>false
 |.arr _=>false
 |.ap ..=>false
 |.sa ..=>false
 |.gd ..=>false
 |.ag l=>lfL l
 |.tup l=>lfL l
 |.fn _ l=>lfL l
 |_=>true
def lfL:List AV->Bool
 |[]=>true
 |a::r=>lf a&&lfL r
end
mutual
theorem Q34 (l:Nat):∀ (av:AV),lf av=true->ZL l av=false
 |.ptr ..,h=>by simp [lf] at h
 |.arr _,h=>by simp [lf] at h
 |.ap ..,h=>by simp [lf] at h
 |.sa ..,h=>by simp [lf] at h
 |.gd ..,h=>by simp [lf] at h
 |.ag r,h=>by simp only [ZL];exact M3 l r (by simpa [lf] using h)
 |.tup r,h=>by simp only [ZL];exact M3 l r (by simpa [lf] using h)
 |.fn _ r,h=>by simp only [ZL];exact M3 l r (by simpa [lf] using h)
 |.top,_=>rfl
 |.d _,_=>rfl
 |.nil,_=>rfl
 |.el ..,_=>rfl
 |.fs ..,_=>rfl
 |.mpd _,_=>rfl
 |.ex _,_=>rfl
theorem M3 (l:Nat):∀ (r:List AV),lfL r=true->Vy l r=false
 |[],_=>rfl
 |a::r,h=>by
  simp only [lfL,Qdl] at h;simp only [Vy,Q34 l a h.1,M3 l r h.2,Bool.or_self]
end
mutual
theorem Q19 (t:Nat):∀ (av:AV),lf av=true->gds t av=false
 |.ptr ..,h=>by simp [lf] at h
 |.arr _,h=>by simp [lf] at h
 |.ap ..,h=>by simp [lf] at h
 |.sa ..,h=>by simp [lf] at h
 |.gd ..,h=>by simp [lf] at h
 |.ag r,h=>by simp only [gds];exact A1 t r (by simpa [lf] using h)
 |.tup r,h=>by simp only [gds];exact A1 t r (by simpa [lf] using h)
 |.fn _ r,h=>by simp only [gds];exact A1 t r (by simpa [lf] using h)
 |.top,_=>rfl
 |.d _,_=>rfl
 |.nil,_=>rfl
 |.el ..,_=>rfl
 |.fs ..,_=>rfl
 |.mpd _,_=>rfl
 |.ex _,_=>rfl
theorem A1 (t:Nat):∀ (r:List AV),lfL r=true->DD t r=false
 |[],_=>rfl
 |a::r,h=>by
  simp only [lfL,Qdl] at h;simp only [DD,Q19 t a h.1,A1 t r h.2,Bool.or_self]
end
theorem CC:∀ {l:List AV} {i:Nat} {x:AV},lfL l=true->l[i]? = some x->lf x=true
 |a::r,i,x,h,hx=>by
  simp only [lfL,Qdl] at h;cases i with
  |zero=>simp at hx;subst hx;exact h.1
  |succ i=>exact CC h.2 (by simpa using hx)
theorem Nf {β β':Nat->Option Nat} {S S':Nat->Prop} {h h':Nat->Option Ob} {w w':World} {tm tm':Nat->Value} {v:Value} {av:AV} (hl:lf av=true) (hS:∀ b,S b->S' b) (hw:∀ b,S b->w'.heap[b]? = w.heap[b]?) (hv:RdA β S h w tm v av):RdA β' S' h' w' tm' v av:=
 hv.mono hS hw (fun l hn=>by rw [Q34 l av hl] at hn;cases hn) (fun t ht=>by rw [Q19 t av hl] at ht;cases ht)
def Q6k (h:List (Nat × Ob)) (av:AV):Option AV:=
 match av with
 |.tup l=>match TN (look h) l with
  |some (l',_)=>bif lfL l' then some (.tup l') else none
  |none=>none
 |av=>match TR (look h) av with
  |some (ak,_)=>bif lf ak then some ak else none
  |none=>none
def Qc8 {R:Type} (K:AV->Option R):AV->List (Nat × Ob)->Option R:=fun av h=>match Q6k h av with
 |some ak=>K ak
 |none=>none
theorem BY {β:Nat->Option Nat} {S:Nat->Prop} {H:List (Nat × Ob)} {w:World} {v:Value} {av ak:AV} (hO:Objs β S (look H) w) (h:Q6k H av=some ak) (hv:RdA β S (look H) w tm0 v av) :
  ∃ bs,(∀ l,l∈bs->∃ e s rows,look H l=some (.arr e s rows))/\lf ak=true/\RdA β (fzS β S bs) (fzH (look H) bs) w tm0 v ak:=by
 unfold Q6k at h;split at h
 ·rename_i l;split at h
  ·rename_i l' bs hc;cases hl:lfL l' with
   |false=>simp [hl] at h
   |true=>
    simp only [hl,Qdq,Option.some.injEq] at h;subst h;refine ⟨bs,M7 hc,by simpa [lf] using hl,?_⟩;obtain ⟨vs,rfl,ao,hr⟩:=hv.tup_inv;obtain ⟨h1,h2⟩:=Rx hc;refine .tup _ _ (by rw [ao,h1]) fun i x hx=>?_
    have hi:i<l.length:=by have:=(Qdm.1 hx).1;omega
    have an:=Qdp hi;obtain ⟨ak,b2,g1,g2,g3⟩:=h2 i _ an;rw [hx] at g1;injection g1 with g1
    subst g1;exact Q3n hO (fun _ _=>rfl) g3 g2 (hr i _ an)
  ·cases h
 ·split at h
  ·rename_i am bs hc;cases hl:lf am with
   |false=>simp [hl] at h
   |true=>
    simp only [hl,Qdq,Option.some.injEq] at h;subst h;exact ⟨bs,E7 hc,hl,Q3n hO (fun _ _=>rfl) (fun _ h=>h) hc hv⟩
  ·cases h
theorem Q8o {C : VC} (hC : VCOk P C) {n f : Nat} {fn : Func} (hf : P.funcs[f]? = some fn) (hb : fn.body.isSome = true) (hn : (fn.name == "runtime.NumGoroutine") = false) {avs : List AV} {av : AV} {hl : Nat -> Option Ob} {rd : List Nat} (hlf : lfL avs = true)
  (h:vfn C n fn avs [] (Qc8 some)=some av):Ze P f avs hl ⟨av,[],rd⟩:=by
 refine ⟨⟨fn,hf,hb,hn⟩,fun β S h' w args hO hA _=>?_⟩;have hO0:Objs (fun _=>none) S (look ([]:List (Nat × Ob))) w:=⟨fun l o h=>by simp [look] at h,fun l l' b h=>by simp [look] at h,fun l b h=>by simp [look] at h,hO.sb⟩;have hA0:ArgsRd (fun _=>none) S (look ([]:List (Nat × Ob))) w args avs:=⟨hA.1,fun i v av' h1 h2=>Nf (CC hlf h2) (fun _ h=>h) (fun _ _=>rfl) (hA.2 i v av' h1 h2)⟩;refine (E5 hC hf h hO0 hA0).mono fun e w' ⟨v,av0,H',β',S',he,hk,hrd,_,hr⟩=>?_
 unfold Qc8 at hk;split at hk
 case h_2=>cases hk
 rename_i av' hav;injection hk with hk
 subst hk;have hO':Objs β' S' (look H') w':=⟨hr.ob,hr.inj,hr.apart,hr.sb⟩;obtain ⟨bs,hbs,hlf',hrd'⟩:=BY hO' hav hrd;have hnoM:∀ {b:Nat},(S b\/(∃ l,(look ([]:List (Nat × Ob)) l).isSome=true/\(none:Option Nat)=some b)\/w.heap.size<=b)->S b\/w.heap.size<=b:=by
  intro b h;rcases h with h | ⟨l,h,_⟩ | h
  ·exact .inl h
  ·simp [look] at h
  ·exact .inr h
 have hfz:∀ b,fzS β' S' bs b->S b\/w.heap.size<=b:=by
  intro b hS;rcases hS with hS | ⟨l,hl',hb'⟩
  ·exact hnoM (hr.sfr b hS)
  ·obtain ⟨e',s,rows,hh⟩:=hbs l hl';exact hnoM (.inr (hr.own l b (by simp [hh]) hb'))
 refine ⟨v,β,fzS β' S' bs,he,⟨fun b hS=>.inl (hr.s0 b hS),fun b hS=>?_,fun b hS=>?_,?_,fun _ _=>rfl,fun l o hl'=>by simp [wrL] at hl',fun l hl'=>by simp [wrL] at hl',fun l b hl'=>by simp [wrL] at hl',fun l l' b hl'=>by simp [wrL] at hl',fun l hl'=>by simp [wrL] at hl',?_,fun t=>Q19 t _ hlf'⟩⟩
 ·rcases hfz b hS with h1 | h1
  ·exact .inl h1
  ·exact .inr (.inl h1)
 ·rcases hS with hS | ⟨l,hl',hb'⟩
  ·exact hr.sb b hS
  ·obtain ⟨e',s,rows,hh⟩:=hbs l hl';rcases hr.ob l _ hh with ⟨hn',_⟩ | ⟨b2,cs,hb2,hw2,_⟩
   ·rw [hb'] at hn';cases hn'
   ·rw [hb'] at hb2;injection hb2 with hb2;subst hb2
    exact (Qdv.1 hw2).1
 ·refine hr.fr.mono fun b _ ⟨l,h1,_⟩=>?_
  simp [look] at h1
 ·exact Nf hlf' (fun _ h=>h) (fun _ _=>rfl) hrd'
end

section
variable {P:Program} {R:Type}
def F9 (av ak:AV):Prop:=∀ (β:Nat->Option Nat) (S:Nat->Prop) (h:Nat->Option Ob) (w:World) (tm:Nat->Value) (v:Value),RdA β S h w tm v av->RdA β S h w tm v ak
theorem F9.refl (av:AV):F9 av av:=fun _ _ _ _ _ _ h=>h
theorem F9.of_eq {a b:AV} (h:a=b):F9 a b:=h▸F9.refl a
theorem F9.nil (s:Nat):F9 .nil (.d (.sl s [])):=fun _ _ _ _ _ v h=>by rw [h.nil_inv];exact .d _ _ (.sl0 _ _ _)
inductive AVleL:List AV->List AV->Prop
 |nil:AVleL [] []
 |cons {a b:AV} {l r:List AV} (h:F9 a b) (t:AVleL l r):AVleL (a::l) (b::r)
theorem AVleL.length {l r:List AV} (h:AVleL l r):l.length=r.length:=by induction h <;> simp [*]
theorem AVleL.at {l r:List AV} (h:AVleL l r):∀ (i:Nat) (x:AV),r[i]? = some x->∃ y,l[i]? = some y/\F9 y x:=by
 induction h with
 |nil=>intro i x hx;simp at hx
 |cons h0 _ ih=>
  intro i x hx;cases i with
  |zero=>simp at hx;subst hx;exact ⟨_,rfl,h0⟩
  |succ i=>obtain ⟨y,h1,h2⟩:=ih i x (by simpa using hx);exact ⟨y,by simpa using h1,h2⟩
theorem AVleL.refl:∀ l:List AV,AVleL l l
 |[]=>.nil
 |a::r=>.cons (F9.refl a) (AVleL.refl r)
theorem F9.ag {l r:List AV} (h:AVleL l r):F9 (.ag l) (.ag r):=fun _ _ _ _ _ v hv=>by
 obtain ⟨cs,rfl,ak,hr⟩:=hv.ag_inv;refine .ag cs r (ak.trans h.length) fun i x hx=>?_
 obtain ⟨y,h1,h2⟩:=h.at i x hx;exact h2 _ _ _ _ _ _ (hr i y h1)
theorem F9.tup {l r:List AV} (h:AVleL l r):F9 (.tup l) (.tup r):=fun _ _ _ _ _ v hv=>by
 obtain ⟨cs,rfl,ak,hr⟩:=hv.tup_inv;refine .tup cs r (ak.trans h.length) fun i x hx=>?_
 obtain ⟨y,h1,h2⟩:=h.at i x hx;exact h2 _ _ _ _ _ _ (hr i y h1)
theorem Ze.conv {f:Nat} {ak avs':List AV} {hl:Nat->Option Ob} {dl:Dl} (h:AVleL ak avs') (hc:Ze P f avs' hl dl):Ze P f ak hl dl:=by
 obtain ⟨h1,h2⟩:=hc;refine ⟨h1,fun β S hh w args hO hA an=>h2 β S hh w args hO ⟨hA.1.trans h.length,fun i v av hv am=>?_⟩ an⟩;obtain ⟨y,g1,g2⟩:=h.at i av am;exact g2 _ _ _ _ _ _ (hA.2 i v y hv g1)
def prI (g:Bool) (ik:IntKind) (av:AV) (k:Int->Option R):Option R:=
 match av with
 |.d x=>gb g (Q3 ik x) 0 k
 |_=>none
def prB (g:Bool) (av:AV) (k:Bool->Option R):Option R:=
 match av with
 |.d x=>gb g (PM x) false k
 |_=>none
def prT (g:Bool) (av:AV) (k:List UInt8->Option R):Option R:=
 match av with
 |.d x=>gb g (Sv x) [] k
 |_=>none
def prS (g:Bool) (ak:Nat) (av:AV) (k:List (List D)->Option R):Option R:=
 match av with
 |.d x=>gb g (pSl ak x) [] k
 |.nil=>k []
 |_=>none
def prG (av:AV) (k:List AV->Option R):Option R:=
 match av with
 |.ag l=>k l
 |_=>none
theorem VU {g:Bool} {ik:IntKind} {av:AV} {k:Int->Option R} {r:R} (h:prI g ik av k=some r):∃ n,k n=some r/\(g=true->F9 av (.d (.int ik n))):=by
 unfold prI at h;split at h
 ·obtain ⟨n,hn,hp⟩:=Qt h;exact ⟨n,hn,fun hg=>.of_eq (by rw [Nz (hp hg)])⟩
 ·cases h
theorem Q6t {g:Bool} {av:AV} {k:Bool->Option R} {r:R} (h:prB g av k=some r):∃ n,k n=some r/\(g=true->F9 av (.d (.bool n))):=by
 unfold prB at h;split at h
 ·obtain ⟨n,hn,hp⟩:=Qt h;exact ⟨n,hn,fun hg=>.of_eq (by rw [SE (hp hg)])⟩
 ·cases h
theorem Q7c {g:Bool} {av:AV} {k:List UInt8->Option R} {r:R} (h:prT g av k=some r):∃ n,k n=some r/\(g=true->F9 av (.d (.str n))):=by
 unfold prT at h;split at h
 ·obtain ⟨n,hn,hp⟩:=Qt h;exact ⟨n,hn,fun hg=>.of_eq (by rw [Nl (hp hg)])⟩
 ·cases h
theorem Wg {g:Bool} {ak:Nat} {av:AV} {k:List (List D)->Option R} {r:R} (h:prS g ak av k=some r):∃ n,k n=some r/\(g=true->F9 av (.d (.sl ak n))):=by
 unfold prS at h;split at h
 ·obtain ⟨n,hn,hp⟩:=Qt h;exact ⟨n,hn,fun hg=>.of_eq (by rw [Q3d (hp hg)])⟩
 ·exact ⟨[],h,fun _=>.nil _⟩
 ·cases h
theorem BN {av:AV} {k:List AV->Option R} {r:R} (h:prG av k=some r):∃ l,k l=some r/\av = .ag l:=by
 unfold prG at h;split at h
 ·exact ⟨_,h,rfl⟩
 ·cases h
abbrev GV:=(R:Type)->Nat->Bool->List AV->(Nat->Option Ob)->(Dl->Option R)->Option R
def Uu (P:Program) (f:Nat) (e:GV):Prop:=
 ∀ (R:Type) (am:Nat) (g:Bool) (ak:List AV) (hl:Nat->Option Ob) (k:Dl->Option R) (r:R),e R am g ak hl k=some r->∃ dl,k dl=some r/\(g=true->Ze P f ak hl dl)
def Gv (l:List (Nat × GV)):Q1j:=fun R f ak g am hl k=>
 match look1 l f with
 |some e=>e R ak g am hl k
 |none=>none
where
 look1:List (Nat × GV)->Nat->Option GV
  |[],_=>none
  |(k,a)::r,t=>bif Nat.beq k t then some a else look1 r t
def Q30 (P:Program):List (Nat × GV)->Prop
 |[]=>True
 |(f,e)::r=>Uu P f e/\Q30 P r
theorem Q2C:∀ {l:List (Nat × GV)} {f:Nat} {e:GV},Q30 P l->Gv.look1 l f=some e->Uu P f e
 |(k,a)::r,f,e,h,hl=>by
  simp only [Gv.look1] at hl;cases hk:Nat.beq k f with
  |true=>
   simp only [hk,Qdq,Option.some.injEq] at hl;subst hl;have:=Qdk hk;subst this;exact h.1
  |false=>simp only [hk,QdB] at hl;exact Q2C h.2 hl
theorem Ug {l:List (Nat × GV)} (h:Q30 P l):Ll P (Gv l):=by
 intro R f ak g am hl k r hs;unfold Gv at hs;split at hs
 ·rename_i e he;exact Q2C h he R ak g am hl k r hs
 ·cases hs
def QaN (s:Nat):AV->AV
 |.nil=>.d (.sl s [])
 |av=>av
def QaT:List Nat->List AV->List AV
 |s::ss,a::r=>QaN s a::QaT ss r
 |[],r=>r
 |_::_,[]=>[]
def QaX (ss:List Nat):AV->AV
 |.ag l=>.ag (QaT ss l)
 |av=>QaN (ss.headD 0) av
def QaV:List (List Nat)->List AV->List AV
 |s::ss,a::r=>QaX s a::QaV ss r
 |[],r=>r
 |_::_,[]=>[]
def Q9l (ss:List (List Nat)):AV->AV
 |.tup l=>.tup (QaV ss l)
 |av=>QaX (ss.headD []) av
theorem Q5n (s:Nat) (av:AV):F9 av (QaN s av):=by
 unfold QaN;split
 ·exact .nil s
 ·exact .refl _
theorem Q4U:∀ (ss:List Nat) (l:List AV),AVleL l (QaT ss l)
 |s::ss,a::r=>.cons (Q5n s a) (Q4U ss r)
 |[],r=>by unfold QaT;exact .refl r
 |_::_,[]=>.nil
theorem Q5D (ss:List Nat) (av:AV):F9 av (QaX ss av):=by
 unfold QaX;split
 ·exact .ag (Q4U ss _)
 ·exact Q5n _ _
theorem Q5f:∀ (ss:List (List Nat)) (l:List AV),AVleL l (QaV ss l)
 |s::ss,a::r=>.cons (Q5D s a) (Q5f ss r)
 |[],r=>by unfold QaV;exact .refl r
 |_::_,[]=>.nil
theorem Q50 (ss:List (List Nat)) (av:AV):F9 av (Q9l ss av):=by
 unfold Q9l;split
 ·exact .tup (Q5f ss _)
 ·exact Q5D _ _
def retF {R:Type} (ss:List (List Nat)) (K:AV->Option R):AV->List (Nat × Ob)->Option R:=fun av h=>match Q6k h av with
 |some ak=>bif lf (Q9l ss ak) then K (Q9l ss ak) else none
 |none=>none
theorem Q1v {α : Type} {K : AV -> Option α} {res : α} {f : Nat} {fn : Func} (hf : P.funcs[f]? = some fn) (hb : fn.body.isSome = true) (hn : (fn.name == "runtime.NumGoroutine") = false) {ss : List (List Nat)} {avs : List AV} {av : AV} {hl : Nat -> Option Ob} {rd : List Nat} (hlf : lfL avs = true)
  (hcall:∀ (β:Nat->Option Nat) (S:Nat->Prop) (w:World) (vs:List Value),Objs β S (look ([]:List (Nat × Ob))) w->ArgsRd β S (look ([]:List (Nat × Ob))) w vs avs->Calls P f vs.toArray w (Lz ([]:List (Nat × Ob)) (retF ss K) res β S w)) (hK:∀ x,K x=some res->x=av):Ze P f avs hl ⟨av,[],rd⟩:=by
 refine ⟨⟨fn,hf,hb,hn⟩,fun β S h' w args hO hA _=>?_⟩;have hO0:Objs (fun _=>none) S (look ([]:List (Nat × Ob))) w:=⟨fun l o h=>by simp [look] at h,fun l l' b h=>by simp [look] at h,fun l b h=>by simp [look] at h,hO.sb⟩;have hA0:ArgsRd (fun _=>none) S (look ([]:List (Nat × Ob))) w args avs:=⟨hA.1,fun i v av' h1 h2=>Nf (CC hlf h2) (fun _ h=>h) (fun _ _=>rfl) (hA.2 i v av' h1 h2)⟩;refine (hcall _ _ _ _ hO0 hA0).mono fun e w' ⟨v,av0,H',β',S',he,hk,hrd,_,hr⟩=>?_
 unfold retF at hk;split at hk
 case h_2=>cases hk
 rename_i av' hav;cases hlf2:lf (Q9l ss av') with
 |false=>simp [hlf2] at hk
 |true=>
  simp only [hlf2,Qdq] at hk;have hk:=hK _ hk;subst hk;have hO':Objs β' S' (look H') w':=⟨hr.ob,hr.inj,hr.apart,hr.sb⟩;obtain ⟨bs,hbs,hlf',hrd'⟩:=BY hO' hav hrd;have hnoM:∀ {b:Nat},(S b\/(∃ l,(look ([]:List (Nat × Ob)) l).isSome=true/\(none:Option Nat)=some b)\/w.heap.size<=b)->S b\/w.heap.size<=b:=by
   intro b h;rcases h with h | ⟨l,h,_⟩ | h
   ·exact .inl h
   ·simp [look] at h
   ·exact .inr h
  have hfz:∀ b,fzS β' S' bs b->S b\/w.heap.size<=b:=by
   intro b hS;rcases hS with hS | ⟨l,hl',hb'⟩
   ·exact hnoM (hr.sfr b hS)
   ·obtain ⟨e',s,rows,hh⟩:=hbs l hl';exact hnoM (.inr (hr.own l b (by simp [hh]) hb'))
  refine ⟨v,β,fzS β' S' bs,he,⟨fun b hS=>.inl (hr.s0 b hS),fun b hS=>?_,fun b hS=>?_,?_,fun _ _=>rfl,fun l o hl'=>by simp [wrL] at hl',fun l hl'=>by simp [wrL] at hl',fun l b hl'=>by simp [wrL] at hl',fun l l' b hl'=>by simp [wrL] at hl',fun l hl'=>by simp [wrL] at hl',?_,fun t=>Q19 t _ hlf2⟩⟩
  ·rcases hfz b hS with h1 | h1
   ·exact .inl h1
   ·exact .inr (.inl h1)
  ·rcases hS with hS | ⟨l,hl',hb'⟩
   ·exact hr.sb b hS
   ·obtain ⟨e',s,rows,hh⟩:=hbs l hl';rcases hr.ob l _ hh with ⟨hn',_⟩ | ⟨b2,cs,hb2,hw2,_⟩
    ·rw [hb'] at hn';cases hn'
    ·rw [hb'] at hb2;injection hb2 with hb2;subst hb2
     exact (Qdv.1 hw2).1
  ·refine hr.fr.mono fun b _ ⟨l,h1,_⟩=>?_
   simp [look] at h1
  ·exact Nf hlf2 (fun _ h=>h) (fun _ _=>rfl) (Q50 ss _ _ _ _ _ _ _ hrd')
def cL:Code->Code | .seq a _=>a | c=>c
def cR:Code->Code | .seq _ b=>b | c=>c
def cB:Code->Code | .block _ c=>c | .loop c=>c | c=>c
def cT:Code->Code | .cond _ a _=>a | c=>c
def cE:Code->Code | .cond _ _ b=>b | c=>c
def Q6 (fn:Func):Code:=fn.body.getD .skip
end

section
variable {P:Program} {R:Type}
theorem Q2V {ρ:List (Nat × Nat)} {β β':Nat->Option Nat} {S:Nat->Prop} {h h':Nat->Option Ob} (ak:∀ l k,(l,k)∈ρ->β' k=β l) (an:∀ l k o,(l,k)∈ρ->h l=some o->h' k=some (Q7i ρ o))
  (au:∀ l k,(l,k)∈ρ->h l=none->h' k=none) {w:World} {tm:Nat->Value} {v:Value} {av:AV} (hv:RdA β S h w tm v av):RdA β' S h' w tm v (ZQ ρ av):=by
 induction hv with
 |top v=>exact .top v
 |d v x hx=>exact .d v x hx
 |nil=>exact .nil
 |ag cs l hl _ ih=>
  refine .ag cs _ (by rw [Yu];exact hl) fun i x hx=>?_
  rw [Up,Qdn] at hx;obtain ⟨y,hy,rfl⟩:=hx;exact ih i y hy
 |tup cs l hl _ ih=>
  refine .tup cs _ (by rw [Yu];exact hl) fun i x hx=>?_
  rw [Up,Qdn] at hx;obtain ⟨y,hy,rfl⟩:=hx;exact ih i y hy
 |fn f cs l hl _ ih=>
  refine .fn f cs _ (by rw [Yu];exact hl) fun i x hx=>?_
  rw [Up,Qdn] at hx;obtain ⟨y,hy,rfl⟩:=hx;exact ih i y hy
 |ptr l off b hb=>
  unfold ZQ;split
  ·rename_i l' hl;exact .ptr _ _ _ ((ak _ _ (Y3 hl)).trans hb)
  ·exact .top _
 |sa v l t b hb hv=>
  unfold ZQ;split
  ·rename_i l' hl;exact .sa _ _ _ b ((ak _ _ (Y3 hl)).trans hb) hv
  ·exact .top _
 |el ad row off c hs hc hr=>exact .el ad row off c hs hc hr
 |fs ad s rows hx=>exact .fs ad s rows hx
 |mpd v f hm=>exact .mpd v f hm
 |ex v=>exact .ex v
 |arr0 l e s hb hh=>
  unfold ZQ;split
  ·rename_i l' hl;exact .arr0 _ e s ((ak _ _ (Y3 hl)).trans hb) (an _ _ _ (Y3 hl) hh)
  ·exact .top _
 |arr l b cap e s rows cs ty fz hb hh hw ay aq ar=>
  unfold ZQ;split
  ·rename_i l' hl;exact .arr _ b cap e s rows cs ty fz ((ak _ _ (Y3 hl)).trans hb) (an _ _ _ (Y3 hl) hh) hw ay aq ar
  ·exact .top _
 |mp l b t f hb hh=>
  unfold ZQ;split
  ·rename_i l' hl;exact .mp _ b t f ((ak _ _ (Y3 hl)).trans hb) (an _ _ _ (Y3 hl) hh)
  ·exact .top _
 |ap l i off b e s rows hb hh=>
  unfold ZQ;split
  ·rename_i l' hl;exact .ap _ i off b e s rows ((ak _ _ (Y3 hl)).trans hb) (an _ _ _ (Y3 hl) hh)
  ·exact .top _
 |dang v av l hl hh h1=>
  cases av <;> simp [VG] at hl
  ·subst hl;unfold ZQ;split
   ·rename_i l' ao;exact .dang _ _ l' rfl (au _ _ (Y3 ao) hh) h1
   ·exact .top _
  ·subst hl;unfold ZQ;split
   ·rename_i l' ao;exact .dang _ _ l' rfl (au _ _ (Y3 ao) hh) h1
   ·exact .top _
 |gdT=>exact .top _
 |gdF=>exact .top _
def Q7W (ρ:List (Nat × Nat)) (av:AV):Bool:=
 match av with
 |.ptr j _=>(look ρ j).isSome
 |av=>lf av
def LI (ρ:List (Nat × Nat)):List AV->Bool
 |[]=>true
 |a::r=>Q7W ρ a&&LI ρ r
theorem AC {ρ:List (Nat × Nat)}:∀ {l:List AV} {i:Nat} {x:AV},LI ρ l=true->l[i]? = some x->Q7W ρ x=true
 |a::r,0,x,h,hx=>by
  simp only [LI,Qdl] at h;simp at hx;subst hx;exact h.1
 |a::r,i+1,x,h,hx=>by
  simp only [LI,Qdl] at h;exact AC h.2 (by simpa using hx)
def KV (σ:List (Nat × Nat)) (H:List (Nat × Ob)):List (Nat × Nat)->List (Nat × Option Ob)
 |[]=>[]
 |(j,l)::r=>(l,(look H j).map (Q7i σ))::KV σ H r
theorem Eb (σ:List (Nat × Nat)) (H:List (Nat × Ob)):∀ τ,(KV σ H τ).map (·.1)=τ.map (·.2)
 |[]=>rfl
 |(j,l)::r=>by simp [KV,Eb σ H r]
theorem R7 (σ:List (Nat × Nat)) (H:List (Nat × Ob)):∀ (τ:List (Nat × Nat)) (h:Nat->Option Ob),Xd (τ.map (·.2))=true->∀ j l,(j,l)∈τ->VQ h (KV σ H τ) l=(look H j).map (Q7i σ)
 |(a,b)::r,h,hn,j,l,hm=>by
  simp only [QdA,Xd,Qdl,Qdt] at hn;simp only [KV,VQ];rcases Qdr.1 hm with hm | hm
  ·injection hm with e1 e2
   subst e1 e2;rw [Wy]
   ·simp
   ·rw [Eb];intro ak;have:Kp l (r.map (·.2))=true:=by
     have:∀ (L:List Nat),l∈L->Kp l L=true:=by
      intro L;induction L with
      |nil=>intro h;cases h
      |cons x xs ih=>
       intro h;rcases Qdr.1 h with h | h
       ·subst h;simp [Kp,Nat.beq_refl]
       ·simp [Kp,ih h]
     exact this _ ak
    rw [this] at hn;exact absurd hn.1 (by simp)
  ·exact R7 σ H r _ hn.2 j l hm
mutual
theorem Bm (ρ:List (Nat × Nat)) (t:Nat):∀ av:AV,gds t (ZQ ρ av)=false
 |.top=>rfl
 |.d _=>rfl
 |.nil=>rfl
 |.el ..=>rfl
 |.fs ..=>rfl
 |.mpd _=>rfl
 |.ex _=>rfl
 |.gd ..=>rfl
 |.ag l=>by simp only [ZQ,gds];exact RW ρ t l
 |.tup l=>by simp only [ZQ,gds];exact RW ρ t l
 |.fn _ l=>by simp only [ZQ,gds];exact RW ρ t l
 |.ptr l o=>by unfold ZQ;split <;> rfl
 |.arr l=>by unfold ZQ;split <;> rfl
 |.ap l i o=>by unfold ZQ;split <;> rfl
 |.sa l t=>by unfold ZQ;split <;> rfl
theorem RW (ρ:List (Nat × Nat)) (t:Nat):∀ l:List AV,DD t (An ρ l)=false
 |[]=>rfl
 |a::r=>by simp only [An,DD,Bm ρ t a,RW ρ t r,Bool.or_self]
end
mutual
theorem Q4X (ρ:List (Nat × Nat)):∀ av:AV,lf av=true->ZQ ρ av=av
 |.top,_=>rfl
 |.d _,_=>rfl
 |.nil,_=>rfl
 |.el ..,_=>rfl
 |.fs ..,_=>rfl
 |.mpd _,_=>rfl
 |.ex _,_=>rfl
 |.gd ..,h=>by simp [lf] at h
 |.ag l,h=>by simp only [ZQ];rw [B2 ρ l (by simpa [lf] using h)]
 |.tup l,h=>by simp only [ZQ];rw [B2 ρ l (by simpa [lf] using h)]
 |.fn _ l,h=>by simp only [ZQ];rw [B2 ρ l (by simpa [lf] using h)]
 |.ptr ..,h=>by simp [lf] at h
 |.arr _,h=>by simp [lf] at h
 |.ap ..,h=>by simp [lf] at h
 |.sa ..,h=>by simp [lf] at h
theorem B2 (ρ:List (Nat × Nat)):∀ l:List AV,lfL l=true->An ρ l=l
 |[],_=>rfl
 |a::r,h=>by
  simp only [lfL,Qdl] at h;simp only [An,Q4X ρ a h.1,B2 ρ r h.2]
end
theorem Q3m {σ:List (Nat × Nat)} {l:Nat} (h:l ∉ σ.map (·.2)):inv σ l=none:=by
 cases hi:inv σ l with
 |none=>rfl
 |some j=>exact absurd (QdG.2 ⟨(j,l),Q5h hi,rfl⟩) h
theorem RF {ρ:List (Nat × Nat)} (hn:Xd (ρ.map (·.1))=true) {j l:Nat} (hm:(j,l)∈ρ):look ρ j=some l:=by
 cases hk:look ρ j with
 |none=>
  exfalso;have:∀ (L:List (Nat × Nat)),(j,l)∈L->look L j≠none:=by
   intro L;induction L with
   |nil=>intro h;cases h
   |cons x r ih=>
    intro h hl;obtain ⟨a,b⟩:=x;rw [Xv] at hl;by_cases e:j=a
    ·rw [QdJ e] at hl;cases hl
    ·rw [Qdx e] at hl;rcases Qdr.1 h with h | h
     ·injection h with h1 h2;exact e h1
     ·exact ih h hl
  exact this ρ hm hk
 |some l'=>
  have:=Gh hn (j,l) (j,l') hm (Y3 hk) rfl;injection this with _ h
  rw [h]
structure HeapEnd (σ ρ:List (Nat × Nat)) (H:List (Nat × Ob)) (av:AV) (H':List (Nat × Ob)) (dl:Dl):Prop where
 v:ZQ σ av=dl.v
 wr:KV σ H' σ=dl.wr
 all:∀ j l,(j,l)∈σ->(look H' j).isSome=true
 box:∀ j l,(j,l)∈ρ->∃ c c',look H j=some (.box c)/\look H' j=some (.box c')/\c'.length=c.length
theorem Q0J {α : Type} {K : AV -> List (Nat × Ob) -> Option α} {res : α} {f : Nat} {fn : Func} (hf : P.funcs[f]? = some fn) (hb : fn.body.isSome = true) (hn : (fn.name == "runtime.NumGoroutine") = false)
  {σ ρ:List (Nat × Nat)} {avs avs':List AV} {H:List (Nat × Ob)} {hl:Nat->Option Ob} {dl:Dl}
  (hav:avs=avs'.map (ZQ ρ)) (hargs:LI ρ avs'=true)
  (hsub:∀ p,p∈ρ->p∈σ) (h1:Xd (σ.map (·.1))=true) (h2:Xd (σ.map (·.2))=true) (hρ:Xd (ρ.map (·.1))=true)
  (hin:∀ j l,(j,l)∈ρ->1000000<=j/\∃ cs cs',hl l=some (.box cs)/\look H j=some (.box cs')/\AVleL cs cs'/\lfL cs'=true)
  (hinH:∀ j,(look H j).isSome=true->∃ l,(j,l)∈ρ)
  (hnew:∀ j l,(j,l)∈σ->(j,l)∈ρ\/hl l=none)
  (hwl:wrL dl=σ.map (·.2))
  (hcall:∀ (β:Nat->Option Nat) (S:Nat->Prop) (w:World) (vs:List Value),Objs β S (look H) w->ArgsRd β S (look H) w vs avs'->Calls P f vs.toArray w (Lz H K res β S w)) (hK:∀ av H',K av H'=some res->HeapEnd σ ρ H av H' dl):Ze P f avs hl dl:=by
 refine ⟨⟨fn,hf,hb,hn⟩,fun β S h' w args hO hA hag=>?_⟩;have hag:∀ {j l:Nat},(j,l)∈σ->h' l=hl l:=fun {j l} hm=>hag l (.inr (by rw [hwl];exact QdG.2 ⟨(j,l),hm,rfl⟩))
 have hlook:∀ {j l:Nat},(j,l)∈ρ->look ρ j=some l:=fun hm=>RF hρ hm
 have hβc:∀ {j l:Nat},(j,l)∈ρ->(look ρ j).bind β=β l:=fun hm=>by rw [hlook hm];rfl
 have hlk2:∀ {j j' l:Nat},(j,l)∈ρ->(j',l)∈ρ->j=j':=fun a b=>by
  have:=Gh h2 _ _ (hsub _ a) (hsub _ b) rfl;injection this
 have hsome':∀ {j l:Nat},(j,l)∈ρ->(h' l).isSome=true:=fun hm=>by
  obtain ⟨_,cs,cs',g1,_⟩:=hin _ _ hm;rw [hag (hsub _ hm),g1];rfl
 have hO0:Objs (fun j=>(look ρ j).bind β) S (look H) w:=by
  refine ⟨fun j o ho=>?_,fun j j' b s1 s2 b1 b2=>?_,fun j b s1 b1=>?_,hO.sb⟩
  ·obtain ⟨l,hm⟩:=hinH j (by simp [ho]);obtain ⟨_,cs,cs',g1,g2,g3,g4⟩:=hin j l hm;rw [ho] at g2;injection g2 with g2
   subst g2;obtain ⟨b,ty,c0,fz,e1,e2,e3,e4,e5⟩:=hO.ob l _ ((hag (hsub _ hm)).trans g1);refine ⟨b,ty,c0,fz,(hβc hm).trans e1,e2,⟨e3.1,fun i l' t' hx=>by have:=CC g4 hx;simp [lf] at this⟩,e4.trans g3.length,fun i x hx=>?_⟩;obtain ⟨y,y1,y2⟩:=g3.at i x hx;exact Nf (CC g4 hx) (fun _ h=>h) (fun _ _=>rfl) (y2 _ _ _ _ _ _ (e5 i y y1))
  ·obtain ⟨l,hm⟩:=hinH j s1;obtain ⟨l',hm'⟩:=hinH j' s2;have:=hO.inj l l' b (hsome' hm) (hsome' hm') (by rw [<- hβc hm];exact b1) (by rw [<- hβc hm'];exact b2);subst this;exact hlk2 hm hm'
  ·obtain ⟨l,hm⟩:=hinH j s1;exact hO.apart l b (hsome' hm) (by rw [<- hβc hm];exact b1)
 have hA0:ArgsRd (fun j=>(look ρ j).bind β) S (look H) w args avs':=by
  refine ⟨by rw [hA.1,hav,List.length_map],fun i v av g1 g2=>?_⟩;have hr:=hA.2 i v (ZQ ρ av) g1 (by rw [hav,List.getElem?_map,g2];rfl);have hok:=AC hargs g2;unfold Q7W at hok;split at hok
  ·rename_i j o;cases hj:look ρ j with
   |none=>rw [hj] at hok;cases hok
   |some l=>
    simp only [ZQ,hj] at hr;cases hr with
    |ptr _ _ b hb'=>exact .ptr j o b (by simp only [hj];exact hb')
    |dang _ _ _ hl'=>simp [VG] at hl'
  ·rw [Q4X ρ av hok] at hr;exact Nf hok (fun _ h=>h) (fun _ _=>rfl) hr
 refine (hcall _ _ _ _ hO0 hA0).mono fun e w' ⟨v,av,H',β',S',he,hk,hrd,_,hr⟩=>?_
 obtain ⟨q1,q2,q3,q4⟩:=hK av H' hk;have hinv:∀ {j l:Nat},(j,l)∈σ->inv σ l=some j:=fun hm=>Q0m h2 hm
 let βo:Nat->Option Nat:=fun l=>match inv σ l with | some j=>β' j | none=>β l
 have hβo:∀ j l,(j,l)∈σ->βo l=β' j:=fun j l hm=>by simp only [βo,hinv hm]
 have hset:∀ j l,(j,l)∈σ->VQ h' dl.wr l=(look H' j).map (Q7i σ):=fun j l hm=>by rw [<- q2];exact R7 σ H' σ h' h2 j l hm
 have hmem:∀ {l:Nat},l∈wrL dl->∃ j,(j,l)∈σ:=fun hm=>by
  rw [hwl] at hm;obtain ⟨⟨j,l'⟩,m1,m2⟩:=QdG.1 hm;simp only at m2;subst m2;exact ⟨j,m1⟩
 have hpin:∀ {j l:Nat},(j,l)∈ρ->β' j=β l:=fun hm=>(hr.pin _ (hin _ _ hm).1).trans (hβc hm)
 have hren:∀ {v:Value} {x:AV},RdA β' S' (look H') w' tm0 v x->RdA βo S' (VQ h' dl.wr) w' tm0 v (ZQ σ x):=fun hx=>
  Q2V hβo (fun j l o hm ho=>by rw [hset j l hm,ho];rfl) (fun j l hm ho=>by rw [hset j l hm,ho];rfl) hx
 have hnotin:∀ {j l:Nat},(j,l)∈σ->(j,l) ∉ ρ->∀ b,β' j=some b->w.heap.size<=b:=by
  intro j l hm hno b hb';rcases hr.own j b (q3 j l hm) hb' with ⟨j',s1,s2⟩ | h
  ·exfalso;obtain ⟨l',hm'⟩:=hinH j' s1;have e1:β' j'=some b:=(hpin hm').trans (by rw [<- hβc hm'];exact s2);have:=hr.inj j j' b (q3 j l hm) (q3 j' l' (hsub _ hm')) hb' e1;subst this;have:=Gh h1 _ _ hm (hsub _ hm') rfl;exact hno (this▸hm')
  ·exact h
 have hMw:∀ b,(∃ j,(look H j).isSome=true/\(look ρ j).bind β=some b)->∃ l,l∈wrL dl/\(h' l).isSome=true/\β l=some b:=by
  intro b ⟨j,s1,s2⟩;obtain ⟨l,hm⟩:=hinH j s1;exact ⟨l,by rw [hwl];exact QdG.2 ⟨(j,l),hsub _ hm,rfl⟩,hsome' hm,by rw [<- hβc hm];exact s2⟩
 refine ⟨v,βo,S',he,⟨hr.s0,fun b hS=>?_,hr.sb,hr.fr.mono fun b _ hM=>hMw b hM,fun l hno=>?_,fun l o hm ho=>?_,fun l hm hs=>?_,fun l b hm hs hb'=>?_,fun l l' b hm hm' hs hs' hb' hb''=>?_,fun l hm hno hno'=>?_,?_,fun t=>by rw [<- q1];exact Bm σ t av⟩⟩
 ·rcases hr.sfr b hS with g | g | g
  ·exact .inl g
  ·exact .inr (.inr (hMw b g))
  ·exact .inr (.inl g)
 ·have:inv σ l=none:=Q3m (by rw [<- hwl];exact hno);simp only [βo,this]
 ·obtain ⟨j,hj⟩:=hmem hm;rw [hset j l hj,Qdn] at ho;obtain ⟨o',ho',rfl⟩:=ho;have hob:=hr.ob j o' ho';cases o' with
  |box cells=>
   obtain ⟨b,ty,cs,fz,g1,g2,g3,g4,g5⟩:=hob;refine ⟨b,ty,cs,fz,(hβo j l hj).trans g1,g2,⟨g3.1,CY g3.2⟩,by rw [g4,Yu],fun i x hx=>?_⟩;rw [Up,Qdn] at hx;obtain ⟨y,hy,rfl⟩:=hx;exact hren (g5 i y hy)
  |arr e s rows=>
   rcases hob with ⟨g1,g2⟩ | ⟨b,cs,g1,g2,g3,g4,g5⟩
   ·exact .inl ⟨(hβo j l hj).trans g1,g2⟩
   ·exact .inr ⟨b,cs,(hβo j l hj).trans g1,g2,g3,g4,g5⟩
  |mp t f=>
   obtain ⟨b,hb,hm'⟩:=hob;exact ⟨b,(hβo j l hj).trans hb,hm'⟩
 ·obtain ⟨j,hj⟩:=hmem hm;rcases hnew j l hj with hp | hno
  ·obtain ⟨c,c',g1,g2,g3⟩:=q4 j l hp;obtain ⟨_,cs,cs',e1,e2,e3,_⟩:=hin j l hp;have hh:h' l=some (.box cs):=(hag hj).trans e1;refine ⟨(hβo j l hj).trans (hpin hp),fun hx=>(by rw [hh] at hx;cases hx),fun e s rows hx=>(by rw [hh] at hx;cases hx),fun b c0 ty fz _ hb' hw=>?_,fun t f hx=>(by rw [hh] at hx;cases hx)⟩;obtain ⟨b2,ty2,c2,fz2,k1,k2,_,k4,_⟩:=hr.ob j _ g2;obtain ⟨b3,ty3,c3,fz3,m1,m2,_,m4,_⟩:=hO.ob l _ hh;rw [hpin hp,hb'] at k1;injection k1 with k1
   subst k1;rw [hb'] at m1;injection m1 with m1
   subst m1;rw [hw] at m2;injection m2 with m2
   injection m2 with m2 _ _
   subst m2;refine ⟨c2,ty2,fz2,k2,?_⟩;rw [k4,m4,g3];rw [g1] at e2;injection e2 with e2
   injection e2 with e2
   rw [e2,e3.length]
  ·rw [hag hj,hno] at hs;cases hs
 ·obtain ⟨j,hj⟩:=hmem hm;rw [hβo j l hj] at hb';refine ⟨?_,hr.apart j b (q3 j l hj) hb'⟩;by_cases hp:(j,l)∈ρ
  ·exact .inr ⟨l,hm,hsome' hp,by rw [<- hpin hp];exact hb'⟩
  ·exact .inl (hnotin hj hp b hb')
 ·obtain ⟨j,hj⟩:=hmem hm;obtain ⟨j',hj'⟩:=hmem hm';rw [hβo j l hj] at hb';rw [hβo j' l' hj'] at hb'';have:=hr.inj j j' b (q3 j l hj) (q3 j' l' hj') hb' hb'';subst this;have:=Gh h1 _ _ hj hj' rfl;injection this
 ·obtain ⟨j,hj⟩:=hmem hm;have:=q3 j l hj;rw [hset j l hj] at hno';cases hx:look H' j with
  |none=>rw [hx] at this;cases this
  |some o=>rw [hx] at hno';cases hno'
 ·rw [<- q1];exact hren hrd
def Qaa (hl:Nat->Option Ob) (H:List (Nat × Ob)):List (Nat × Nat)->Prop
 |[]=>True
 |(j,l)::r=>(1000000<=j/\∃ cs ak,hl l=some (.box cs)/\look H j=some (.box ak)/\AVleL cs ak/\lfL ak=true)/\Qaa hl H r
def Q7o (H:List (Nat × Ob)):List (Nat × Nat)->Prop
 |[]=>True
 |(j,_)::r=>(look H j).isSome=true/\Q7o H r
def Q9O (H H':List (Nat × Ob)):List (Nat × Nat)->Prop
 |[]=>True
 |(j,_)::r=>(∃ c c',look H j=some (.box c)/\look H' j=some (.box c')/\c'.length=c.length)/\Q9O H H' r
def Qb0 (hl:Nat->Option Ob):List (Nat × Nat)->Bool
 |[]=>true
 |(_,l)::r=>(hl l).isNone&&Qb0 hl r
theorem Q4I {hl:Nat->Option Ob} {H:List (Nat × Ob)}:∀ {ρ:List (Nat × Nat)},Qaa hl H ρ->∀ j l,(j,l)∈ρ->1000000<=j/\∃ cs ak,hl l=some (.box cs)/\look H j=some (.box ak)/\AVleL cs ak/\lfL ak=true
 |(a,b)::r,h,j,l,hm=>by
  rcases Qdr.1 hm with hm | hm
  ·injection hm with h1 h2;subst h1 h2;exact h.1
  ·exact Q4I h.2 j l hm
theorem Q1r {H:List (Nat × Ob)}:∀ {ρ:List (Nat × Nat)},Q7o H ρ->∀ j l,(j,l)∈ρ->(look H j).isSome=true
 |(a,b)::r,h,j,l,hm=>by
  rcases Qdr.1 hm with hm | hm
  ·injection hm with h1 h2;subst h1 h2;exact h.1
  ·exact Q1r h.2 j l hm
theorem Q4D {H H':List (Nat × Ob)}:∀ {ρ:List (Nat × Nat)},Q9O H H' ρ->∀ j l,(j,l)∈ρ->∃ c c',look H j=some (.box c)/\look H' j=some (.box c')/\c'.length=c.length
 |(a,b)::r,h,j,l,hm=>by
  rcases Qdr.1 hm with hm | hm
  ·injection hm with h1 h2;subst h1 h2;exact h.1
  ·exact Q4D h.2 j l hm
theorem Q2y {hl:Nat->Option Ob}:∀ {ρ:List (Nat × Nat)},Qb0 hl ρ=true->∀ j l,(j,l)∈ρ->hl l=none
 |(a,b)::r,h,j,l,hm=>by
  simp only [Qb0,Qdl] at h;rcases Qdr.1 hm with hm | hm
  ·injection hm with h1 h2;subst h1 h2;simpa using h.1
  ·exact Q2y h.2 j l hm
theorem Bo:∀ {H:List (Nat × Ob)} {ρ:List (Nat × Nat)},H.map (·.1)=ρ.map (·.1)->∀ j,(look H j).isSome=true->∃ l,(j,l)∈ρ
 |[],_,_,j,hs=>by simp [look] at hs
 |(a,o)::r,[],h,_,_=>by simp at h
 |(a,o)::r,(b,l)::ρ,h,j,hs=>by
  simp only [QdA,List.cons.injEq] at h;rw [Xv] at hs;by_cases e:j=a
  ·exact ⟨l,by rw [e,h.1];exact List.mem_cons_self ..⟩
  ·rw [Qdx e] at hs;obtain ⟨l',hm⟩:=Bo h.2 j hs;exact ⟨l',List.mem_cons_of_mem _ hm⟩
def HK (hl:Nat->Option Ob) (ρ ν:List (Nat × Nat)):Bool:=Xd ((ρ++ν).map (·.2))&&Qb0 hl ν
theorem Du {α : Type} {K : AV -> List (Nat × Ob) -> Option α} {res : α} {f : Nat} {fn : Func} (hf : P.funcs[f]? = some fn) (hb : fn.body.isSome = true) (hn : (fn.name == "runtime.NumGoroutine") = false)
  {ρ ν:List (Nat × Nat)} {avs avs':List AV} {H:List (Nat × Ob)} {hl:Nat->Option Ob} {dl:Dl}
  (hav:avs=avs'.map (ZQ ρ)) (hargs:LI ρ avs'=true) (h1:Xd ((ρ++ν).map (·.1))=true) (hρ:Xd (ρ.map (·.1))=true)
  (hc:HK hl ρ ν=true) (hin:Qaa hl H ρ) (hkeys:H.map (·.1)=ρ.map (·.1)) (hwl:wrL dl=(ρ++ν).map (·.2))
  (hcall:∀ (β:Nat->Option Nat) (S:Nat->Prop) (w:World) (vs:List Value),Objs β S (look H) w->ArgsRd β S (look H) w vs avs'->Calls P f vs.toArray w (Lz H K res β S w))
  (hK:∀ av H',K av H'=some res->ZQ (ρ++ν) av=dl.v/\KV (ρ++ν) H' (ρ++ν)=dl.wr/\Q7o H' (ρ++ν)/\Q9O H H' ρ):Ze P f avs hl dl:=by
 simp only [HK,Qdl] at hc;refine Q0J hf hb hn hav hargs (fun p hp=>List.mem_append_left _ hp) h1 hc.1 hρ (Q4I hin) (Bo hkeys) (fun j l hm=>?_) hwl hcall fun av H' hk=>?_
 ·rcases List.mem_append.1 hm with hm | hm
  ·exact .inl hm
  ·exact .inr (Q2y hc.2 j l hm)
 ·obtain ⟨q1,q2,q3,q4⟩:=hK av H' hk;exact ⟨q1,q2,Q1r q3,Q4D q4⟩
theorem Q9f {α : Type} {K : AV -> List (Nat × Ob) -> Option α} {res : α} {C : VC} (hC : VCOk P C) {n f : Nat} {fn : Func} (hf : P.funcs[f]? = some fn) (hb : fn.body.isSome = true) (hn : (fn.name == "runtime.NumGoroutine") = false)
  {ρ ν:List (Nat × Nat)} {avs avs':List AV} {H:List (Nat × Ob)} {hl:Nat->Option Ob} {dl:Dl}
  (hav:avs=avs'.map (ZQ ρ)) (hargs:LI ρ avs'=true) (h1:Xd ((ρ++ν).map (·.1))=true) (hρ:Xd (ρ.map (·.1))=true)
  (hc:HK hl ρ ν=true) (hin:Qaa hl H ρ) (hkeys:H.map (·.1)=ρ.map (·.1)) (hwl:wrL dl=(ρ++ν).map (·.2))
  (h:vfn C n fn avs' H K=some res)
  (hK:∀ av H',K av H'=some res->ZQ (ρ++ν) av=dl.v/\KV (ρ++ν) H' (ρ++ν)=dl.wr/\Q7o H' (ρ++ν)/\Q9O H H' ρ):Ze P f avs hl dl:=
 Du hf hb hn hav hargs h1 hρ hc hin hkeys hwl (fun _ _ _ _ hO hA=>E5 hC hf h hO hA) hK
theorem QX {c:Bool} {x:Option R} {r:R} (h:(bif c then x else none)=some r):c=true/\x=some r:=by
 cases c with
 |false=>cases h
 |true=>exact ⟨rfl,h⟩
def Qck (l:List Nat) (a b:GV):GV:=fun R ak g am hl k=>bif Kp ak l then a R ak g am hl k else b R ak g am hl k
theorem Qbd (l:List Nat) {f:Nat} {a b:GV} (ha:Uu P f a) (hb:Uu P f b):Uu P f (Qck l a b):=by
 intro R ak g am hl k r h;unfold Qck at h;cases hm:Kp ak l with
 |true=>rw [hm] at h;exact ha R ak g am hl k r h
 |false=>rw [hm] at h;exact hb R ak g am hl k r h
def prP (hl:Nat->Option Ob) (av:AV) (k:Nat->List AV->Option R):Option R:=
 match av with
 |.ptr l o=>bif Nat.beq o 0 then match hl l with
  |some (.box cs)=>k l cs
  |_=>none
  else none
 |_=>none
theorem QaP {hl:Nat->Option Ob} {av:AV} {k:Nat->List AV->Option R} {r:R} (h:prP hl av k=some r):∃ l cs,k l cs=some r/\av = .ptr l 0/\hl l=some (.box cs):=by
 unfold prP at h;split at h
 ·rename_i l o;cases ho:Nat.beq o 0 with
  |false=>simp [ho] at h
  |true=>
   simp only [ho,Qdq] at h;have:=Qdk ho;subst this;split at h
   ·rename_i cs hb;exact ⟨l,cs,h,rfl,hb⟩
   ·cases h
 ·cases h
end

section
variable {P:Program} {R:Type}
def SW (w:World):Nat->Prop:=fun b=>b<w.heap.size
theorem Q4K {f:Nat} {ss:List (List Nat)} {K:AV->Option Bool} (hK:∀ x,K x=some true->x = .d (.bool true))
  {ao:List AV} {args:List Value} {w:World} (hA:ArgsRd (fun _=>none) (SW w) (look ([]:List (Nat × Ob))) w args ao) (am:∀ (β:Nat->Option Nat) (S:Nat->Prop) (w:World) (vs:List Value),Objs β S (look ([]:List (Nat × Ob))) w->ArgsRd β S (look ([]:List (Nat × Ob))) w vs ao->Calls P f vs.toArray w (Lz ([]:List (Nat × Ob)) (retF ss K) true β S w)) :
  Calls P f args.toArray w fun e w'=>e = .returned (.bool true)/\RowKit.Below w.heap.size w w':=by
 have hO:Objs (fun _=>none) (SW w) (look ([]:List (Nat × Ob))) w:=⟨fun l o h=>by simp [look] at h,fun l l' b h=>by simp [look] at h,fun l b h=>by simp [look] at h,fun b h=>h⟩;refine (am _ _ _ _ hO hA).mono fun e w' ⟨v,av,H',β',S',he,hk,aw,_,hr⟩=>?_
 refine ⟨?_,Fr.below (hr.fr.mono fun b _ ⟨l,h1,_⟩=>by simp [look] at h1)⟩;unfold retF at hk;split at hk
 case h_2=>cases hk
 rename_i au aq;cases ak:lf (Q9l ss au) with
 |false=>simp [ak] at hk
 |true=>
  simp only [ak,Qdq] at hk;have hk:=hK _ hk;have ar:Objs β' S' (look H') w':=⟨hr.ob,hr.inj,hr.apart,hr.sb⟩;obtain ⟨bs,_,_,an⟩:=BY ar aq aw;have:=Q50 ss _ _ _ _ _ _ _ an;rw [hk] at this;rw [he,this.bool_inv]
theorem Q3E {β:Nat->Option Nat} {S:Nat->Prop} {h:Nat->Option Ob} {w:World}:ArgsRd β S h w [] []:=⟨rfl,fun i v av h=>by simp at h⟩
theorem Q1K {β:Nat->Option Nat} {S:Nat->Prop} {h:Nat->Option Ob} {w:World} {v:Value} {av:AV} {vs:List Value} {ak:List AV} (h0:RdA β S h w tm0 v av) (hr:ArgsRd β S h w vs ak):ArgsRd β S h w (v::vs) (av::ak):=by
 refine ⟨by simp [hr.1],fun i v' am h1 h2=>?_⟩;cases i with
 |zero=>simp at h1 h2;subst h1 h2;exact h0
 |succ i=>exact hr.2 i v' am (by simpa using h1) (by simpa using h2)
theorem Q99 {w:World} {a:Addr} {v:Value} (h:w.cell? a=some v):a.block<w.heap.size:=by
 rcases Nat.lt_or_ge a.block w.heap.size with h1 | h1
 ·exact h1
 ·simp [World.cell?,Array.getElem?_eq_none h1] at h
theorem Q0 {α:Type} (g:Bool) (a z:α) (k:α->Option R):gb g (some a) z k=k a:=rfl
end

inductive Sh where
 |int (k:IntKind)
 |bool
 |str
 |sl (row:List Sh)
inductive Fit:Sh->D->Prop
 |int (k:IntKind) (n:Int) (h:(Lit.int k n).wf=true):Fit (.int k) (.int k n)
 |bool (b:Bool):Fit .bool (.bool b)
 |str (s:List UInt8) (h:s.length<=maxLen):Fit .str (.str s)
 |sl (row:List Sh) (rows:List (List D)) (h:rows.length<=maxLen) (hl:∀ (i:Nat) (r:List D),rows[i]? = some r->r.length=row.length)
   (hr:∀ (i j:Nat) (r:List D) (s:Sh) (x:D),rows[i]? = some r->row[j]? = some s->r[j]? = some x->Fit s x):Fit (.sl row) (.sl row.length rows)
def Q7p (ss:List Sh) (ds:List D):Prop:=ds.length=ss.length/\∀ (j:Nat) (s:Sh) (x:D),ss[j]? = some s->ds[j]? = some x->Fit s x
def Q9z (P:Program) (so:TypeId->Option (List Sh)):Nat->List Field->Option (List Sh)
 |_,[]=>some []
 |off,fd::r=>
  if fd.offset=off then match so fd.type with
   |some a=>if a.length=P.cellsOf fd.type then match Q9z P so (off+a.length) r with
    |some l=>some (a++l)
    |none=>none
    else none
   |none=>none
  else none
def Q5y (P:Program):Nat->TypeId->Option (List Sh)
 |0,_=>none
 |f+1,t=>
  match P.underlying t with
  |some .bool=>some [.bool]
  |some (.int k)=>some [.int k]
  |some .string=>some [.str]
  |some (.slice e)=>match Q5y P f e with
   |some row=>if row.length=P.cellsOf e/\row.length≠0 then some [.sl row] else none
   |none=>none
  |some (.struct fs)=>match Q9z P (Q5y P f) 0 fs.toList with
   |some l=>if l.length=P.cellsOf t then some l else none
   |none=>none
  |_=>none
section
variable {P:Program} {H:Type} {enc:TypeId × Value->H} {w:World}
def RdL (w:World) (cs:List Value) (ds:List D):Prop:=cs.length=ds.length/\∀ (j:Nat) (v:Value) (x:D),cs[j]? = some v->ds[j]? = some x->Rd (SW w) w v x
theorem Q2o {α:Type} {Q:Nat->α->Prop}:∀ (n:Nat),(∀ i,i<n->∃ a,Q i a)->∃ l:List α,l.length=n/\∀ (i:Nat) (a:α),l[i]? = some a->Q i a
 |0,_=>⟨[],rfl,fun i a h=>by simp at h⟩
 |n+1,h=>by
  obtain ⟨l,h1,h2⟩:=Q2o n fun i hi=>h i (by omega)
  obtain ⟨a,ha⟩:=h n (by omega);refine ⟨l++[a],by simp [h1],fun i x hx=>?_⟩;rw [List.getElem?_append] at hx;split at hx
  ·exact h2 i x hx
  ·have:i=l.length:=by
    rcases Nat.lt_or_ge (i-l.length) 1 with h3 | h3
    ·omega
    ·rw [QdL (by simpa using h3)] at hx;cases hx
   subst this;simp at hx;subst hx;rw [h1];exact ha
theorem Q7p.append {a b:List Sh} {x y:List D} (h1:Q7p a x) (h2:Q7p b y):Q7p (a++b) (x++y):=by
 refine ⟨by simp [h1.1,h2.1],fun j s d hs hd=>?_⟩;rw [List.getElem?_append] at hs hd;rw [h1.1] at hd;split at hs
 ·rename_i h;rw [QdJ h] at hd;exact h1.2 j s d hs hd
 ·rename_i h;rw [Qdx h] at hd;exact h2.2 _ s d hs hd
theorem RdL.append {a b:List Value} {x y:List D} (h1:RdL w a x) (h2:RdL w b y):RdL w (a++b) (x++y):=by
 refine ⟨by simp [h1.1,h2.1],fun j s d hs hd=>?_⟩;rw [List.getElem?_append] at hs hd;rw [h1.1] at hs;split at hd
 ·rename_i h;rw [QdJ h] at hs;exact h1.2 j s d hs hd
 ·rename_i h;rw [Qdx h] at hs;exact h2.2 _ s d hs hd
theorem ES {v:Value} {x:D} (h:Rd (SW w) w v x):RdL w [v] [x]:=⟨rfl,fun j v' x' h1 h2=>by
 cases j with
 |zero=>simp at h1 h2;subst h1 h2;exact h
 |succ j=>simp at h1⟩
theorem NR {s:Sh} {x:D} (h:Fit s x):Q7p [s] [x]:=⟨rfl,fun j v' x' h1 h2=>by
 cases j with
 |zero=>simp at h1 h2;subst h1 h2;exact h
 |succ j=>simp at h1⟩
theorem Q4j {base:Nat} {a:Addr} {n:Nat} {cs:List Value} (h:w.cells? base a n=some cs):cs.length=n/\∀ (j:Nat) (v:Value),cs[j]? = some v->w.cell? (a.add j)=some v:=by
 unfold World.cells? at h;split at h
 ·refine ⟨by simpa using mapM_some_length h,fun j v hv=>?_⟩;have hj:j<n:=by
   have h1:=mapM_some_length h;have h2:=(Qdm.1 hv).1;simp at h1;omega
  have:=mapM_some_get h j j (by simp [hj]);rw [this,hv]
 ·cases h
def Got (w:World) (ss:List Sh) (cs:List Value):Prop:=∃ ds,RdL w cs ds/\Q7p ss ds
theorem Q2U {base:Nat} {ax:Nat->Bool} {a6:Bool}:∀ (n:Nat) (f:Nat) (t:TypeId) (ss:List Sh) (cs:List Value) (x:DataW H × List MemPlace),Q5y P f t=some ss->DataW.trod enc P w base ax a6 n t cs=some x->Got w ss cs:=by
 intro n;induction n with
 |zero=>intro f t ss cs x _ h;simp [DataW.trod] at h
 |succ n ih=>
  intro f t ss cs x hs h;cases f with
  |zero=>simp [Q5y] at hs
  |succ f=>
   unfold Q5y at hs;split at hs
   ·rename_i ht;injection hs with hs;subst hs
    obtain ⟨b,rfl,_⟩:=DataW.trod_bool ht h;exact ⟨[.bool b],ES (.bool b),NR (.bool b)⟩
   ·rename_i k ht;injection hs with hs;subst hs
    obtain ⟨b,rfl,_,hw⟩:=DataW.trod_int ht h;exact ⟨[.int k b],ES (.int k b),NR (.int k b hw)⟩
   ·rename_i ht;injection hs with hs;subst hs
    obtain ⟨b,rfl,_,hw⟩:=DataW.trod_string ht h;exact ⟨[.str b.data.toList],ES (.str b),NR (.str _ (by simpa using hw))⟩
   ·rename_i e ht;split at hs
    case h_2=>cases hs
    rename_i row bh;split at hs
    case isFalse=>cases hs
    rename_i ar;obtain ⟨ar,hz⟩:=ar;injection hs with hs;subst hs
    rcases DataW.trod_slice ht h with ⟨rfl,_⟩ | ⟨a,len,cap,ao,rest,n',hn,rfl,_,hb,hl,hm,b3,hat,_,_⟩
    ·exact ⟨[.sl row.length []],ES (.sl0 _ _ _),NR (.sl row [] (Nat.zero_le _) (fun i r h=>by simp at h) (fun i j r s x h=>by simp at h))⟩
    ·obtain rfl:n=n':=by omega
     have a8:∀ i,i<len->∃ r:List D,∃ cs,w.cells? base (a.add (i*P.cellsOf e)) (P.cellsOf e)=some cs/\RdL w cs r/\Q7p row r:=by
      intro i hi;have h1:=hat i hi;have h2:ao[i]? = some (ao[i]'(by omega)):=Qdp (by omega);rw [h2,Option.bind_eq_some_iff] at h1;obtain ⟨cs,hc,h1⟩:=h1;obtain ⟨ds,g1,g2⟩:=ih f e row cs _ bh h1;exact ⟨ds,cs,hc,g1,g2⟩
     obtain ⟨rows,a9,ak⟩:=Q2o len a8;refine ⟨[.sl row.length rows],ES ?_,NR (.sl row rows (by omega) (fun i r hr=>?_) (fun i j r s x hr hs hx=>?_))⟩
     ·cases len with
      |zero=>
       have:rows=[]:=QdH a9;subst this;exact .sl0 _ _ _
      |succ m=>
       have am:∀ (i j:Nat) (r:List D) (x:D),rows[i]? = some r->r[j]? = some x->∃ v,w.cell? (a.add (i*row.length+j))=some v/\Rd (SW w) w v x:=by
        intro i j r x hr hx;obtain ⟨cs,hc,g1,g2⟩:=ak i r hr;obtain ⟨c1,c2⟩:=Q4j hc;have hj:j<cs.length:=by have:=(Qdm.1 hx).1;have:=g1.1;omega
        have bc:cs[j]? = some (cs[j]' hj):=Qdp hj;refine ⟨cs[j]' hj,?_,g1.2 j _ x bc hx⟩;have:=c2 j _ bc;rw [Eh] at this;rw [ar];exact this
       ·have h0:∃ r,rows[0]? = some r:=⟨_,Qdp (by omega)⟩;obtain ⟨r0,bg⟩:=h0;obtain ⟨b0,b2,g1,g2⟩:=ak 0 r0 bg;have aw:∃ x,r0[0]? = some x:=⟨_,Qdp (by rw [g2.1];omega)⟩;obtain ⟨x0,aw⟩:=aw;obtain ⟨v0,bq,_⟩:=am 0 0 r0 x0 bg aw;have bd:a.block<w.heap.size:=by have:=Q99 bq;rwa [V2] at this
        have:=Rd.sl (S:=SW w) (w:=w) a cap row.length rows (fun i j=>(w.cell? (a.add (i*row.length+j))).getD undef) bd (by omega)
         (fun i r hr=>by obtain ⟨_,_,_,g2⟩:=ak i r hr;exact g2.1)
         (fun i j r x hr hx=>by obtain ⟨v,hv,_⟩:=am i j r x hr hx;rw [hv];rfl)
         (fun i j r x hr hx=>by obtain ⟨v,hv,h2⟩:=am i j r x hr hx;rw [hv];exact h2)
        rw [a9] at this;exact this
     ·obtain ⟨_,_,_,g2⟩:=ak i r hr;exact g2.1
     ·obtain ⟨_,_,_,g2⟩:=ak i r hr;exact g2.2 j s x hs hx
   ·rename_i fs ht;split at hs
    case h_2=>cases hs
    rename_i l hl;split at hs
    case isFalse=>cases hs
    rename_i ar;injection hs with hs;subst hs
    obtain ⟨xs,n',hn,_,bu,b4,hat⟩:=DataW.trod_struct ht h;obtain rfl:n=n':=by omega
    have bp:∀ (r:List Field) (i off:Nat) (l:List Sh),fs.toList.drop i=r->Q9z P (Q5y P f) off r=some l->off+l.length<=cs.length->Got w l ((cs.drop off).take l.length):=by
     intro r;induction r with
     |nil=>
      intro i off l _ hl _;simp [Q9z] at hl;subst hl;exact ⟨[],⟨by simp,fun j v x h=>by simp at h⟩,⟨rfl,fun j v x h=>by simp at h⟩⟩
     |cons fd r bl=>
      intro i off l hd hl bm;unfold Q9z at hl;split at hl
      case isFalse=>cases hl
      rename_i a7;split at hl
      case h_2=>cases hl
      rename_i a ha;split at hl
      case isFalse=>cases hl
      rename_i ay;split at hl
      case h_2=>cases hl
      rename_i l' br;injection hl with hl;subst hl
      have hi:fs[i]? = some fd:=by
       have:(fs.toList.drop i)[0]? = some fd:=by rw [hd];rfl
       rw [Qdw] at this;simpa using this
      have h1:=hat i fd hi;have bi:i<xs.length:=by
       have:=(Qdv.1 hi).1;omega
      rw [Qdp bi,a7,<- ay] at h1;have g1:=ih f fd.type a _ _ ha h1;have g2:=bl (i+1) (off+a.length) l' (by rw [<- List.drop_drop,hd];rfl) br (by simp at bm;omega);obtain ⟨d1,p1,q1⟩:=g1;obtain ⟨d2,p2,q2⟩:=g2;refine ⟨d1++d2,?_,q1.append q2⟩;have au:(cs.drop off).take (a++l').length=(cs.drop off).take a.length++(cs.drop (off+a.length)).take l'.length:=by
       rw [List.length_append,List.take_add,List.drop_drop]
      rw [au];exact p1.append p2
    have:=bp fs.toList 0 0 l rfl hl (by omega);rwa [List.drop_zero,List.take_of_length_le (by omega)] at this
   ·cases hs
inductive ASh where
 |one (s:Sh)
 |ag (ss:List Sh)
def Q8W (P:Program) (t:TypeId):Option ASh:=
 match P.underlying t with
 |some (.struct _)=>match Q5y P 9 t with
  |some l=>some (.ag l)
  |none=>none
 |_=>match Q5y P 9 t with
  |some [s]=>some (.one s)
  |_=>none
def ashL (P:Program):List TypeId->Option (List ASh)
 |[]=>some []
 |t::r=>match Q8W P t with
  |some a=>match ashL P r with
   |some l=>some (a::l)
   |none=>none
  |none=>none
def Qcg:ASh->AV->Prop
 |.one s,av=>∃ x,av = .d x/\Fit s x
 |.ag ss,av=>∃ ds:List D,av = .ag (ds.map .d)/\Q7p ss ds
def AFits:List ASh->List AV->Prop
 |[],[]=>True
 |a::as,v::vs=>Qcg a v/\AFits as vs
 |_,_=>False
theorem BG {r:Reach} {base:Nat} {t:TypeId} {v:Value} {f:Nat} {ss:List Sh} (hs:Q5y P f t=some ss) (hn:∀ fs,P.underlying t≠some (.struct fs)) (h:Value.okWide P w r base t v):v.cells.toList=[v]:=by
 cases f with
 |zero=>simp [Q5y] at hs
 |succ f=>
  unfold Q5y at hs;split at hs
  ·rename_i ht;obtain ⟨b,rfl⟩:=WideShapes.okWide_bool ht h;rfl
  ·rename_i k ht;obtain ⟨b,rfl⟩:=WideShapes.okWide_int ht h;rfl
  ·rename_i ht;obtain ⟨b,rfl⟩:=WideShapes.okWide_string ht h;rfl
  ·rename_i e ht;obtain ⟨a,l,c,rfl⟩:=WideShapes.okWide_slice ht h;rfl
  ·rename_i fs ht;exact absurd ht (hn fs)
  ·cases hs
theorem Q93 {r:Reach} {base am:Nat} {ak:Nat->Bool} {an:Bool} {t:TypeId} {v:Value} {d:DataW H} {ps:List MemPlace} {a:ASh} (ha:Q8W P t=some a) (hv:Value.okWide P w r base t v) (h:DataW.Trod enc P w am ak an t v d ps) :
  ∃ av,RdA (fun _=>none) (SW w) (look ([]:List (Nat × Ob))) w tm0 v av/\Qcg a av:=by
 obtain ⟨n,h⟩:=h;unfold Q8W at ha;split at ha
 ·rename_i fs ht;split at ha
  case h_2=>cases ha
  rename_i l hl;injection ha with ha;subst ha
  obtain ⟨ds,h1,h2⟩:=Q2U n 9 t l _ _ hl h;simp only [Value.okWide,ht] at hv;obtain ⟨cs,rfl,aw,_⟩:=hv;refine ⟨.ag (ds.map .d),.ag cs _ (by simpa [Value.cells] using h1.1) fun i x hx=>?_,ds,rfl,h2⟩;rw [List.getElem?_map,Qdn] at hx;obtain ⟨y,hy,rfl⟩:=hx;have hi:i<cs.size:=by
   have g1:=(Qdm.1 hy).1;have g2:=h1.1;simp [Value.cells] at g2;omega
  have hc:cs.getD i undef=cs[i]:=by simp [Array.getD,hi]
  rw [hc];exact .d _ _ (h1.2 i _ y (by simp [Value.cells,hi]) hy)
 ·rename_i hn;split at ha
  case h_2=>cases ha
  rename_i s hs;injection ha with ha;subst ha
  have hc:=BG hs hn hv;obtain ⟨ds,h1,h2⟩:=Q2U n 9 t _ _ _ hs h;rw [hc] at h1;obtain ⟨x,rfl⟩:∃ x,ds=[x]:=by
   have:=h1.1
   match ds,this with
   |[x],_=>exact ⟨x,rfl⟩
  exact ⟨.d x,.d _ _ (h1.2 0 v x rfl rfl),x,rfl,h2.2 0 s x rfl rfl⟩
theorem Q3s {r:Reach} {base ao:Nat} {an:Nat->Bool} {aq:Bool}:∀ (ts:List TypeId) (vs:List Value) (ds:List (DataW H)) (ps:List MemPlace) (as:List ASh),ashL P ts=some as ->
  (∀ (j:Nat) t v,ts[j]? = some t->vs[j]? = some v->Value.okWide P w r base t v)->DataW.TrodAll enc P w ao an aq ts vs ds ps ->
  ∃ am,ArgsRd (fun _=>none) (SW w) (look ([]:List (Nat × Ob))) w vs am/\AFits as am
 |[],vs,ds,ps,as,ak,hv,h=>by
  simp [ashL] at ak;subst ak;cases vs with
  |nil=>exact ⟨[],Q3E,trivial⟩
  |cons v vs=>cases ds <;> simp [DataW.TrodAll] at h
 |t::ts,vs,ds,ps,as,ak,hv,h=>by
  obtain ⟨v,ay,d,ax,p,q,rfl,rfl,rfl,h1,h2⟩:=ChangeShapes.trodAll_cons h;unfold ashL at ak;split at ak
  case h_2=>cases ak
  rename_i a ha;split at ak
  case h_2=>cases ak
  rename_i aw ar;injection ak with ak
  subst ak;obtain ⟨av,g1,g2⟩:=Q93 ha (hv 0 t v rfl rfl) h1;obtain ⟨am,g3,g4⟩:=Q3s ts ay ax q aw ar (fun j t v h1 h2=>hv (j+1) t v (by simpa using h1) (by simpa using h2)) h2;exact ⟨av::am,Q1K g1 g3,g2,g4⟩
theorem AF {W W':World} (hl:laidOutB P=true) (hb:RowKit.Below W.heap.size W W'):∀ (ts:List TypeId) (vs:List Value) (ds:List (DataW H)) (ps:List MemPlace),(ts.all fun t=>P.readableRec t&&decide (t<P.types.size))=true ->
  DataW.TrodAll enc P W 0 (fun _=>true) true ts vs ds ps->∃ pa,DataW.TrodAll enc P W' 0 (fun b=>decide (b<W.heap.size)) true ts vs ds pa
 |[],vs,ds,ps,_,h=>by
  cases vs <;> cases ds <;> simp [DataW.TrodAll] at h;exact ⟨[],rfl⟩
 |t::ts,vs,ds,ps,ht,h=>by
  obtain ⟨v,aq,d,ao,p,q,rfl,rfl,rfl,h1,h2⟩:=ChangeShapes.trodAll_cons h;simp only [List.all_cons,Qdl,decide_eq_true_eq] at ht;obtain ⟨pa,g⟩:=AF hl hb ts aq ao q ht.2 h2;have an:∀ x∈p,x.block<W.heap.size:=by obtain ⟨m,hm⟩:=h1;exact DataW.trod_lt m _ _ _ hm
  exact ⟨p++pa,p,pa,RowKit.Below.trod hl ht.1.1 ht.1.2 h1 hb an,g,rfl⟩
theorem SY {base:Nat} {ak:Nat->Bool} {an:Bool}:∀ (ts:List TypeId) (vs:List Value) (ds:List (DataW H)) (ps:List MemPlace),DataW.TrodAll enc P w base ak an ts vs ds ps->vs.length=ts.length/\ds.length=ts.length
 |[],vs,ds,ps,h=>by
  cases vs <;> cases ds <;> simp [DataW.TrodAll] at h;exact ⟨rfl,rfl⟩
 |t::ts,vs,ds,ps,h=>by
  obtain ⟨v,aq,d,ao,p,q,rfl,rfl,rfl,h1,h2⟩:=ChangeShapes.trodAll_cons h;have:=SY ts aq ao q h2;simp [this.1,this.2]
theorem law_contract {fn:Func} {f:FuncId} {s:ChangeSpec} {as:List ASh} {tb:TypeId} (au:laidOutB P=true)
  (ak:s.vars=[]) (ar:(fn.params.toList.all fun t=>P.readableRec t&&decide (t<P.types.size))=true) (a9:ashL P fn.params.toList=some as)
  (a6:fn.resultTypes = #[tb]) (hb:P.underlying tb=some .bool)
  {W:World} {base:Nat} {args:Array Value} {ds gs:List (DataW H)} {am:List MemPlace}
  (aw:∀ (j:Nat) t v,fn.params[j]? = some t->args[j]? = some v->Value.okWide P W .any base t v)
  (hW:DataW.Whole enc P fn.params.toList s.vars false W args.toList ds gs am)
  (ao:∀ ds:List (DataW H),ds.length=fn.params.size->s.fn H ds={ results:=[.lit (.bool true)],args:=ds })
  (walk:∀ an,AFits as an->ArgsRd (fun _=>none) (SW W) (look ([]:List (Nat × Ob))) W args.toList an->Calls P f args W fun e w'=>e = .returned (.bool true)/\RowKit.Below W.heap.size W w') :
  Calls P f args W fun e W'=>∃ v,e = .returned v/\s.post enc P fn false true false false W args v W':=by
 have a7:=hW;obtain ⟨p,q,hA,hV,rfl,bl,bj⟩:=hW;obtain ⟨an,g1,g2⟩:=Q3s (r:=.any) (base:=base) _ _ _ _ as a9 (fun j t v h1 h2=>aw j t v (by simpa using h1) (by simpa using h2)) hA;refine (walk an g2 g1).mono fun e W' ⟨he,ay⟩=>?_
 subst he;obtain ⟨pa,a8⟩:=AF au ay _ _ _ _ ar hA;rw [ak] at hV;obtain ⟨rfl,rfl⟩:=ChangeShapes.trodVars_none hV;have ax:=(SY _ _ _ _ hA).2;have aq:=ao ds (by simpa using ax);refine ⟨_,rfl,ds,[],_,[],pa,[],a7,?_,?_,?_,ay.frame _,fun h=>by cases h⟩
 ·rw [List.append_nil,aq,a6];exact ChangeShapes.trodAll_mk1 (RowKit.shut_bool hb _)
 ·rw [List.append_nil,aq];exact a8
 ·rw [List.append_nil,aq,ak];rfl
end

section
variable {R:Type}
def i64 (x:Int):Prop := -9223372036854775808<=x/\x<=9223372036854775807
theorem Q3i {x:Int} (h:i64 x):wJ x=x:=IntWalk.i64_in x h
theorem Q1E {x:Int} (h1 : -9223372036854775808<=x) (h2:x<=9223372036854775807):wJ x=x:=IntWalk.i64_in x ⟨h1,h2⟩
theorem Qcv {n:Int} (h:(Lit.int .i64 n).wf=true):i64 n:=by
 simpa [Lit.wf,IntKind.min,IntKind.max,IntKind.signed,IntKind.bits,i64] using h
theorem Q1 (n:Int):pIw (.int .i64 n)=some n:=rfl
theorem Q1R (b:Bool):PM (.bool b)=some b:=rfl
theorem Xj (s:List UInt8):Sv (.str s)=some s:=rfl
theorem X6 (k:Nat) (l:List (List D)):pSl k (.sl k l)=some l:=by simp [pSl]
theorem Q5O {α:Type} (f:α->List D) (l:List α) (i:Nat):Q2 (l.map f) (i:Int)=(l[i]?).map f:=by
 simp [Q2]
theorem QT {α:Type} {f:α->List D} {l:List α} {i:Nat} {a:α} (h:l[i]? = some a):Q2 (l.map f) (i:Int)=some (f a):=by rw [Q5O,h];rfl
theorem Ca {b:Int} (h:b≠0):nz b=some ():=by
 have:(b == 0)=false:=by simpa using h
 unfold nz;rw [this];rfl
theorem ZG {len:Nat} {n:Int} (h0:0<=n) (h:n<len):inB len n=some ():=by
 unfold inB;simp [h0,h]
theorem XG {α:Type} {l:List α} {i:Nat} {a:α} {r:List α} (h:l.drop i=a::r):l[i]? = some a/\l.drop (i+1)=r/\i<l.length:=by
 have h1:(l.drop i)[0]? = some a:=by rw [h];rfl
 rw [Qdw] at h1;refine ⟨by simpa using h1,by rw [<- List.drop_drop,h];rfl,?_⟩;have:=(Qdm.1 h1).1;omega
theorem Y7 {α:Type} {l:List α} {i:Nat} (h:l.drop i=[]):l.length<=i:=List.drop_eq_nil_iff.1 h
theorem QJ {c:Bool} (h:c=true) (x y:R):(bif c then x else y)=x:=by rw [h];rfl
theorem Q8 {c:Bool} (h:c=false) (x y:R):(bif c then x else y)=y:=by rw [h];rfl
def encI (l:List Int):List (List D):=l.map fun n=>[D.int .i64 n]
theorem Vj (l:List Int):(encI l).length=l.length:=by simp [encI]
theorem No {l:List Int} {i:Nat} {a:Int} (h:l[i]? = some a):Q2 (encI l) (i:Int)=some [.int .i64 a]:=QT h
theorem fit_ints {rows:List (List D)} (h:Fit (.sl [.int .i64]) (.sl 1 rows)):∃ l:List Int,rows=encI l/\(∀ n∈l,i64 n)/\l.length<=maxLen:=by
 cases h with
 |sl _ _ hm hl hr=>
  have h1:∀ i,i<rows.length->∃ n:Int,rows[i]? = some [.int .i64 n]/\i64 n:=by
   intro i hi;have ak:=Qdp hi;have am:=hl i _ ak;obtain ⟨x,hx⟩:∃ x,rows[i]=[x]:=by
    match hq:rows[i],am with
    |[x],_=>exact ⟨x,rfl⟩
   have hf:=hr i 0 _ (.int .i64) x ak rfl (by rw [hx];rfl);cases hf with
   |int _ n hw=>exact ⟨n,by rw [ak,hx],Qcv hw⟩
  obtain ⟨l,e1,e2⟩:=Q2o rows.length h1;refine ⟨l,?_,fun n hn=>?_,by omega⟩
  ·refine List.ext_getElem? fun i=>?_
   rcases Nat.lt_or_ge i l.length with hi | hi
   ·have:=(e2 i _ (Qdp hi)).1;rw [this];simp [encI,hi]
   ·rw [QdL (by omega),QdL (by simpa [encI] using hi)]
  ·obtain ⟨i,hi⟩:=List.getElem?_of_mem hn;exact (e2 i _ hi).2
theorem fit_sl {row:List Sh} {x:D} (h:Fit (.sl row) x):∃ rows,x = .sl row.length rows:=by
 cases h with
 |sl _ rows _ _ _=>exact ⟨rows,rfl⟩
theorem fit_int {k:IntKind} {x:D} (h:Fit (.int k) x):∃ n,x = .int k n/\(Lit.int k n).wf=true:=by
 cases h with
 |int _ n h=>exact ⟨n,rfl,h⟩
def lawK:AV->Option Bool
 |.d (.bool b)=>some b
 |_=>none
theorem lawK_ok (x:AV) (h:lawK x=some true):x = .d (.bool true):=by
 unfold lawK at h;split at h
 ·injection h with h;subst h;rfl
 ·cases h
end

abbrev bs (l:List UInt8):List UInt8:=l
abbrev LL:=List (List D)
abbrev dI (x:Int):AV:=.d (.int .i64 x)
abbrev dB (b:Bool):AV:=.d (.bool b)
abbrev dT (s:List UInt8):AV:=.d (.str s)
abbrev dL (k:Nat) (r:LL):AV:=.d (.sl k r)
def cA:List Nat->Code->Code
 |[],c=>c
 |0::r,c=>cA r (cL c)
 |1::r,c=>cA r (cR c)
 |2::r,c=>cA r (cB c)
 |3::r,c=>cA r (cT c)
 |_::r,c=>cA r (cE c)
abbrev cK (r:Nat) (l:List Nat):Nat × Cfg:=(r,⟨l,[],[],[],[]⟩)
abbrev cO (r:Nat) (l o:List Nat):Nat × Cfg:=(r,⟨l,o.map fun x=>(x,x),[],[],[]⟩)
def rgN (d:Nat):Nat->Nat->List Nat->List Nat
 |_,0,r=>r
 |a,n+1,r=>a::rgN d (a+d) n r
abbrev rg1 (a n:Nat) (r:List Nat):List Nat:=rgN 1 a n r
abbrev rg5 (a n:Nat) (r:List Nat):List Nat:=rgN 50000 a n r
def zp:List Nat->List Nat->List (Nat × Nat)
 |a::r,b::s=>(a,b)::zp r s
 |_,_=>[]
section
variable {A B C D E F R:Type}
end
abbrev jn {α β:Type} (c:α) (f:α->β):β:=f c
abbrev Tu2 {A0 A1:Type} (a0:A0) (a1:A1):=some (a0,a1)
abbrev Tu3 {A0 A1 A2:Type} (a0:A0) (a1:A1) (a2:A2):=some (a0,a1,a2)
abbrev Tu4 {A0 A1 A2 A3:Type} (a0:A0) (a1:A1) (a2:A2) (a3:A3):=some (a0,a1,a2,a3)
abbrev Tu5 {A0 A1 A2 A3 A4:Type} (a0:A0) (a1:A1) (a2:A2) (a3:A3) (a4:A4):=some (a0,a1,a2,a3,a4)
abbrev Tu6 {A0 A1 A2 A3 A4 A5:Type} (a0:A0) (a1:A1) (a2:A2) (a3:A3) (a4:A4) (a5:A5):=some (a0,a1,a2,a3,a4,a5)
abbrev Tu7 {A0 A1 A2 A3 A4 A5 A6:Type} (a0:A0) (a1:A1) (a2:A2) (a3:A3) (a4:A4) (a5:A5) (a6:A6):=some (a0,a1,a2,a3,a4,a5,a6)
abbrev Tu8 {A0 A1 A2 A3 A4 A5 A6 A7:Type} (a0:A0) (a1:A1) (a2:A2) (a3:A3) (a4:A4) (a5:A5) (a6:A6) (a7:A7):=some (a0,a1,a2,a3,a4,a5,a6,a7)
abbrev Tu9 {A0 A1 A2 A3 A4 A5 A6 A7 A8:Type} (a0:A0) (a1:A1) (a2:A2) (a3:A3) (a4:A4) (a5:A5) (a6:A6) (a7:A7) (a8:A8):=some (a0,a1,a2,a3,a4,a5,a6,a7,a8)
abbrev Tu10 {A0 A1 A2 A3 A4 A5 A6 A7 A8 A9:Type} (a0:A0) (a1:A1) (a2:A2) (a3:A3) (a4:A4) (a5:A5) (a6:A6) (a7:A7) (a8:A8) (a9:A9):=some (a0,a1,a2,a3,a4,a5,a6,a7,a8,a9)
abbrev Tu12 {A0 A1 A2 A3 A4 A5 A6 A7 A8 A9 A10 A11:Type} (a0:A0) (a1:A1) (a2:A2) (a3:A3) (a4:A4) (a5:A5) (a6:A6) (a7:A7) (a8:A8) (a9:A9) (a10:A10) (a11:A11):=some (a0,a1,a2,a3,a4,a5,a6,a7,a8,a9,a10,a11)
abbrev Tu17 {A0 A1 A2 A3 A4 A5 A6 A7 A8 A9 A10 A11 A12 A13 A14 A15 A16:Type} (a0:A0) (a1:A1) (a2:A2) (a3:A3) (a4:A4) (a5:A5) (a6:A6) (a7:A7) (a8:A8) (a9:A9) (a10:A10) (a11:A11) (a12:A12) (a13:A13) (a14:A14) (a15:A15) (a16:A16):=some (a0,a1,a2,a3,a4,a5,a6,a7,a8,a9,a10,a11,a12,a13,a14,a15,a16)
abbrev Tu19 {A0 A1 A2 A3 A4 A5 A6 A7 A8 A9 A10 A11 A12 A13 A14 A15 A16 A17 A18:Type} (a0:A0) (a1:A1) (a2:A2) (a3:A3) (a4:A4) (a5:A5) (a6:A6) (a7:A7) (a8:A8) (a9:A9) (a10:A10) (a11:A11) (a12:A12) (a13:A13) (a14:A14) (a15:A15) (a16:A16) (a17:A17) (a18:A18):=some (a0,a1,a2,a3,a4,a5,a6,a7,a8,a9,a10,a11,a12,a13,a14,a15,a16,a17,a18)
abbrev Tu20 {A0 A1 A2 A3 A4 A5 A6 A7 A8 A9 A10 A11 A12 A13 A14 A15 A16 A17 A18 A19:Type} (a0:A0) (a1:A1) (a2:A2) (a3:A3) (a4:A4) (a5:A5) (a6:A6) (a7:A7) (a8:A8) (a9:A9) (a10:A10) (a11:A11) (a12:A12) (a13:A13) (a14:A14) (a15:A15) (a16:A16) (a17:A17) (a18:A18) (a19:A19):=some (a0,a1,a2,a3,a4,a5,a6,a7,a8,a9,a10,a11,a12,a13,a14,a15,a16,a17,a18,a19)
abbrev Tu24 {A0 A1 A2 A3 A4 A5 A6 A7 A8 A9 A10 A11 A12 A13 A14 A15 A16 A17 A18 A19 A20 A21 A22 A23:Type} (a0:A0) (a1:A1) (a2:A2) (a3:A3) (a4:A4) (a5:A5) (a6:A6) (a7:A7) (a8:A8) (a9:A9) (a10:A10) (a11:A11) (a12:A12) (a13:A13) (a14:A14) (a15:A15) (a16:A16) (a17:A17) (a18:A18) (a19:A19) (a20:A20) (a21:A21) (a22:A22) (a23:A23):=some (a0,a1,a2,a3,a4,a5,a6,a7,a8,a9,a10,a11,a12,a13,a14,a15,a16,a17,a18,a19,a20,a21,a22,a23)
abbrev zZ0:Int×LL×LL×LL×LL×Int×LL×LL×LL×LL×LL×LL×LL×LL×LL×LL×LL×Int×LL×LL:=(0,[],[],[],[],0,[],[],[],[],[],[],[],[],[],[],[],0,[],[])
abbrev zZ1:LL×LL×LL×LL×Int×LL×LL×LL×LL×LL×LL×LL×LL×LL×LL×LL×Int×LL×LL:=([],[],[],[],0,[],[],[],[],[],[],[],[],[],[],[],0,[],[])
abbrev zZ2:LL×LL×LL×LL×LL×LL×LL:=([],[],[],[],[],[],[])

section
variable {P:Program} {R:Type}
mutual
def dm (ρ:List (Nat × Nat)):AV->Bool
 |.ptr j _=>(look ρ j).isSome
 |.arr j=>(look ρ j).isSome
 |.ap j _ _=>(look ρ j).isSome
 |.sa j _=>(look ρ j).isSome
 |.ag l=>dmL ρ l
 |.tup l=>dmL ρ l
 |.fn _ l=>dmL ρ l
 |.gd ..=>false
 |_=>true
def dmL (ρ:List (Nat × Nat)):List AV->Bool
 |[]=>true
 |a::r=>dm ρ a&&dmL ρ r
end
theorem Q3D {ρ:List (Nat × Nat)}:∀ {l:List AV} {i:Nat} {x:AV},dmL ρ l=true->l[i]? = some x->dm ρ x=true
 |a::r,0,x,h,hx=>by
  simp only [dmL,Qdl] at h;simp at hx;subst hx;exact h.1
 |a::r,i+1,x,h,hx=>by
  simp only [dmL,Qdl] at h;exact Q3D h.2 (by simpa using hx)
section
variable {ρ:List (Nat × Nat)} {β β':Nat->Option Nat} {S:Nat->Prop} {h h':Nat->Option Ob} {w:World} {tm:Nat->Value}
theorem QbE (hβ:∀ j l,look ρ j=some l->β' j=β l) (hh:∀ j l,look ρ j=some l->(h l).isSome=true/\(∀ e s rows,h l=some (.arr e s rows)->h' j=some (.arr e s rows))/\∀ t f,h l=some (.mp t f)->h' j=some (.mp t f)) :
  ∀ {v:Value} {y:AV},RdA β S h w tm v y->∀ x:AV,dm ρ x=true->y=ZQ ρ x->RdA β' S h' w tm v x:=by
 intro v y hv;induction hv with
 |top v=>
  intro x hd he;cases x <;> simp only [ZQ,reduceCtorEq] at he
  case top=>exact .top v
  case ptr j o=>simp only [dm] at hd;obtain ⟨l,hl⟩:=Qdu.1 hd;rw [hl] at he;cases he
  case arr j=>simp only [dm] at hd;obtain ⟨l,hl⟩:=Qdu.1 hd;rw [hl] at he;cases he
  case ap j i o=>simp only [dm] at hd;obtain ⟨l,hl⟩:=Qdu.1 hd;rw [hl] at he;cases he
  case sa j o=>simp only [dm] at hd;obtain ⟨l,hl⟩:=Qdu.1 hd;rw [hl] at he;cases he
  case gd=>simp [dm] at hd
 |d v z hz=>
  intro x hd he;cases x <;> simp only [ZQ,reduceCtorEq] at he
  case d=>injection he with he;subst he;exact .d v _ hz
  case ptr j o=>split at he <;> cases he
  case arr j=>split at he <;> cases he
  case sa j t=>split at he <;> cases he
  case ap j i o=>split at he <;> cases he
 |nil=>
  intro x hd he;cases x <;> simp only [ZQ,reduceCtorEq] at he
  case nil=>exact .nil
  case ptr j o=>split at he <;> cases he
  case arr j=>split at he <;> cases he
  case sa j t=>split at he <;> cases he
  case ap j i o=>split at he <;> cases he
 |ag cs l hl _ ih=>
  intro x hd he;cases x <;> simp only [ZQ,reduceCtorEq] at he
  case ag r=>
   injection he with he
   subst he;rw [Yu] at hl;refine .ag cs r hl fun i z hz=>?_
   exact ih i (ZQ ρ z) (by rw [Up,hz];rfl) z (Q3D (by simpa [dm] using hd) hz) rfl
  case ptr j o=>split at he <;> cases he
  case arr j=>split at he <;> cases he
  case sa j t=>split at he <;> cases he
  case ap j i o=>split at he <;> cases he
 |tup cs l hl _ ih=>
  intro x hd he;cases x <;> simp only [ZQ,reduceCtorEq] at he
  case tup r=>
   injection he with he
   subst he;rw [Yu] at hl;refine .tup cs r hl fun i z hz=>?_
   exact ih i (ZQ ρ z) (by rw [Up,hz];rfl) z (Q3D (by simpa [dm] using hd) hz) rfl
  case ptr j o=>split at he <;> cases he
  case arr j=>split at he <;> cases he
  case sa j t=>split at he <;> cases he
  case ap j i o=>split at he <;> cases he
 |fn f cs l hl _ ih=>
  intro x hd he;cases x <;> simp only [ZQ,reduceCtorEq] at he
  case fn g r=>
   injection he with he1 he2
   subst he1;subst he2;rw [Yu] at hl;refine .fn f cs r hl fun i z hz=>?_
   exact ih i (ZQ ρ z) (by rw [Up,hz];rfl) z (Q3D (by simpa [dm] using hd) hz) rfl
  case ptr j o=>split at he <;> cases he
  case arr j=>split at he <;> cases he
  case sa j t=>split at he <;> cases he
  case ap j i o=>split at he <;> cases he
 |fs ad s rows hx=>
  intro x hd he;cases x <;> simp only [ZQ,reduceCtorEq] at he
  case fs=>injection he with e1 e2;subst e1 e2;exact .fs ad _ _ hx
  case ptr j o=>split at he <;> cases he
  case arr j=>split at he <;> cases he
  case sa j t=>split at he <;> cases he
  case ap j i o=>split at he <;> cases he
 |ex v=>
  intro x hd he;cases x <;> simp only [ZQ,reduceCtorEq] at he
  case ex=>injection he with e1;subst e1;exact .ex _
  case ptr j o=>split at he <;> cases he
  case arr j=>split at he <;> cases he
  case sa j t=>split at he <;> cases he
  case ap j i o=>split at he <;> cases he
 |mpd v f hm=>
  intro x hd he;cases x <;> simp only [ZQ,reduceCtorEq] at he
  case mpd=>injection he with e1;subst e1;exact .mpd v _ hm
  case ptr j o=>split at he <;> cases he
  case arr j=>split at he <;> cases he
  case sa j t=>split at he <;> cases he
  case ap j i o=>split at he <;> cases he
 |ptr l off b hb=>
  intro x hd he;cases x <;> simp only [ZQ,reduceCtorEq] at he
  case ptr j o=>
   split at he
   ·rename_i l' am;injection he with e1 e2
    subst e1 e2;exact .ptr j _ b ((hβ j _ am).trans hb)
   ·cases he
  case arr j=>split at he <;> cases he
  case sa j t=>split at he <;> cases he
  case ap j i o=>split at he <;> cases he
 |sa v l t b hb hv=>
  intro x hd he;cases x <;> simp only [ZQ,reduceCtorEq] at he
  case sa j t=>
   split at he
   ·rename_i l' am;injection he with e1 e2
    subst e1 e2;exact .sa v j _ b ((hβ j _ am).trans hb) hv
   ·cases he
  case ptr j o=>split at he <;> cases he
  case arr j=>split at he <;> cases he
  case ap j i o=>split at he <;> cases he
 |el ad row off c hs hc hr=>
  intro x hd he;cases x <;> simp only [ZQ,reduceCtorEq] at he
  case el r o=>injection he with e1 e2;subst e1 e2;exact .el ad _ _ c hs hc hr
  case ptr j o=>split at he <;> cases he
  case arr j=>split at he <;> cases he
  case sa j t=>split at he <;> cases he
  case ap j i o=>split at he <;> cases he
 |arr0 l e s hb hk=>
  intro x hd he;cases x <;> simp only [ZQ,reduceCtorEq] at he
  case arr j=>
   split at he
   ·rename_i l' am;injection he with e1
    subst e1;exact .arr0 j e s ((hβ j _ am).trans hb) ((hh j _ am).2.1 _ _ _ hk)
   ·cases he
  case ptr j o=>split at he <;> cases he
  case sa j t=>split at he <;> cases he
  case ap j i o=>split at he <;> cases he
 |arr l b cap e s rows cs ty fz hb hk hw ax ar au=>
  intro x hd he;cases x <;> simp only [ZQ,reduceCtorEq] at he
  case arr j=>
   split at he
   ·rename_i l' am;injection he with e1
    subst e1;exact .arr j b cap e s rows cs ty fz ((hβ j _ am).trans hb) ((hh j _ am).2.1 _ _ _ hk) hw ax ar au
   ·cases he
  case ptr j o=>split at he <;> cases he
  case sa j t=>split at he <;> cases he
  case ap j i o=>split at he <;> cases he
 |mp l b t f hb hk=>
  intro x hd he;cases x <;> simp only [ZQ,reduceCtorEq] at he
  case arr j=>
   split at he
   ·rename_i l' am;injection he with e1
    subst e1;exact .mp j b t f ((hβ j _ am).trans hb) ((hh j _ am).2.2 _ _ hk)
   ·cases he
  case ptr j o=>split at he <;> cases he
  case sa j t=>split at he <;> cases he
  case ap j i o=>split at he <;> cases he
 |ap l i off b e s rows hb hk=>
  intro x hd he;cases x <;> simp only [ZQ,reduceCtorEq] at he
  case ap j i' o=>
   split at he
   ·rename_i l' am;injection he with e1 e2 e3
    subst e1 e2 e3;exact .ap j _ _ b e s rows ((hβ j _ am).trans hb) ((hh j _ am).2.1 _ _ _ hk)
   ·cases he
  case ptr j o=>split at he <;> cases he
  case arr j=>split at he <;> cases he
  case sa j t=>split at he <;> cases he
 |dang v av l hl hk h1=>
  intro x hd he;exfalso;cases x with
  |ptr j o=>simp only [ZQ] at he;split at he <;> (subst he;simp [VG] at hl)
  |sa j o=>simp only [ZQ] at he;split at he <;> (subst he;simp [VG] at hl)
  |arr j=>
   simp only [ZQ] at he;split at he
   ·rename_i l' am;subst he;simp [VG] at hl;subst hl;have:=(hh j _ am).1;rw [hk] at this;cases this
   ·subst he;simp [VG] at hl
  |ap j i o=>
   simp only [ZQ] at he;split at he
   ·rename_i l' am;subst he;simp [VG] at hl;subst hl;have:=(hh j _ am).1;rw [hk] at this;cases this
   ·subst he;simp [VG] at hl
  |_=>simp only [ZQ] at he;subst he;simp [VG] at hl
 |gdT v t b av ht hv ih=>
  intro x hd he;cases x <;> simp only [ZQ,reduceCtorEq] at he
  case ptr j o=>split at he <;> cases he
  case arr j=>split at he <;> cases he
  case sa j t=>split at he <;> cases he
  case ap j i o=>split at he <;> cases he
 |gdF t b av ht=>
  intro x hd he;cases x <;> simp only [ZQ,reduceCtorEq] at he
  case ptr j o=>split at he <;> cases he
  case arr j=>split at he <;> cases he
  case sa j t=>split at he <;> cases he
  case ap j i o=>split at he <;> cases he
end
def CLe (ρ:List (Nat × Nat)) (c c':AV):Prop:=(lf c'=true/\F9 c c')\/(dm ρ c'=true/\c=ZQ ρ c')
inductive CLeL (ρ:List (Nat × Nat)):List AV->List AV->Prop
 |nil:CLeL ρ [] []
 |cons {a b:AV} {l r:List AV} (h:CLe ρ a b) (t:CLeL ρ l r):CLeL ρ (a::l) (b::r)
theorem CLeL.length {ρ:List (Nat × Nat)} {l r:List AV} (h:CLeL ρ l r):l.length=r.length:=by induction h <;> simp [*]
theorem CLeL.at {ρ:List (Nat × Nat)} {l r:List AV} (h:CLeL ρ l r):∀ (i:Nat) (x:AV),r[i]? = some x->∃ y,l[i]? = some y/\CLe ρ y x:=by
 induction h with
 |nil=>intro i x hx;simp at hx
 |cons h0 _ ih=>
  intro i x hx;cases i with
  |zero=>simp at hx;subst hx;exact ⟨_,rfl,h0⟩
  |succ i=>obtain ⟨y,h1,h2⟩:=ih i x (by simpa using hx);exact ⟨y,by simpa using h1,h2⟩
theorem Q6W {ρ:List (Nat × Nat)} {ty:TypeId} {cs ak:List AV} (hc:CLeL ρ cs ak) (h:Q3K ty cs):Q3K ty ak:=by
 intro i l t hi;obtain ⟨y,hy,am⟩:=hc.at i _ hi;rcases am with ⟨h1,_⟩ | ⟨h1,rfl⟩
 ·simp [lf] at h1
 ·simp only [dm] at h1;obtain ⟨l',an⟩:=Qdu.1 h1;simp only [ZQ,an] at hy;exact h i l' t hy
inductive OLe (ρ:List (Nat × Nat)):Ob->Ob->Prop
 |box {cs cs':List AV} (h:CLeL ρ cs cs'):OLe ρ (.box cs) (.box cs')
 |arr (e s:Nat) (rows:List (List D)):OLe ρ (.arr e s rows) (.arr e s rows)
 |mp (t:Nat) (f:Int->Bool):OLe ρ (.mp t f) (.mp t f)
def BO (o o':Option Ob):Prop:=
 (∃ c c',o=some (.box c)/\o'=some (.box c')/\c'.length=c.length) \/
 (∃ e s rows,o=some (.arr e s rows)/\(o'=none\/∃ ak,o'=some (.arr e s ak)/\ak.length=rows.length)) \/
 ∃ t f,o=some (.mp t f)/\(o'=none\/∃ f',o'=some (.mp t f'))
structure ShapeEnd (σ ρ:List (Nat × Nat)) (H:List (Nat × Ob)) (av:AV) (H':List (Nat × Ob)) (dl:Dl):Prop where
 v:ZQ σ av=dl.v
 wr:KV σ H' σ=dl.wr
 news:∀ j l,(j,l)∈σ->(j,l) ∉ ρ->(look H' j).isSome=true
 old:∀ j l,(j,l)∈ρ->BO (look H j) (look H' j)
theorem Nw {α : Type} {K : AV -> List (Nat × Ob) -> Option α} {res : α} {f : Nat} {fn : Func} (hf : P.funcs[f]? = some fn) (hb : fn.body.isSome = true) (hn : (fn.name == "runtime.NumGoroutine") = false)
  {σ ρ:List (Nat × Nat)} {avs avs':List AV} {H:List (Nat × Ob)} {hl:Nat->Option Ob} {dl:Dl}
  (hav:CLeL ρ avs avs')
  (hsub:∀ p,p∈ρ->p∈σ) (h1:Xd (σ.map (·.1))=true) (h2:Xd (σ.map (·.2))=true) (hρ:Xd (ρ.map (·.1))=true)
  (hin:∀ j l,(j,l)∈ρ->1000000<=j/\∃ o o',hl l=some o/\look H j=some o'/\OLe ρ o o')
  (hinH:∀ j,(look H j).isSome=true->∃ l,(j,l)∈ρ)
  (hnew:∀ j l,(j,l)∈σ->(j,l)∈ρ\/hl l=none)
  (hwl:wrL dl=σ.map (·.2))
  (h:∀ (β:Nat->Option Nat) (S:Nat->Prop) (w:World) (vs:List Value),Objs β S (look H) w->ArgsRd β S (look H) w vs avs'->Calls P f vs.toArray w (Lz H K res β S w)) (hK:∀ av H',K av H'=some res->ShapeEnd σ ρ H av H' dl):Ze P f avs hl dl:=by
 refine ⟨⟨fn,hf,hb,hn⟩,fun β S h' w args hO hA hag=>?_⟩;have hag:∀ {j l:Nat},(j,l)∈σ->h' l=hl l:=fun {j l} hm=>hag l (.inr (by rw [hwl];exact QdG.2 ⟨(j,l),hm,rfl⟩))
 have hlook:∀ {j l:Nat},(j,l)∈ρ->look ρ j=some l:=fun hm=>RF hρ hm
 have hβc:∀ {j l:Nat},(j,l)∈ρ->(look ρ j).bind β=β l:=fun hm=>by rw [hlook hm];rfl
 have hlk2:∀ {j j' l:Nat},(j,l)∈ρ->(j',l)∈ρ->j=j':=fun a b=>by
  have:=Gh h2 _ _ (hsub _ a) (hsub _ b) rfl;injection this
 have hsome':∀ {j l:Nat},(j,l)∈ρ->(h' l).isSome=true:=fun hm=>by
  obtain ⟨_,o,o',g1,_⟩:=hin _ _ hm;rw [hag (hsub _ hm),g1];rfl
 have hun:∀ {v:Value} {y x:AV},RdA β S h' w tm0 v y->CLe ρ y x->RdA (fun j=>(look ρ j).bind β) S (look H) w tm0 v x:=by
  intro v y x hv hc;rcases hc with ⟨c1,c2⟩ | ⟨c1,rfl⟩
  ·exact Nf c1 (fun _ h=>h) (fun _ _=>rfl) (c2 _ _ _ _ _ _ hv)
  ·refine QbE (ρ:=ρ) (fun j l hj=>by simp only [hj];rfl) (fun j l hj=>⟨hsome' (Y3 hj),fun e s rows hx=>?_,fun t f hx=>?_⟩) hv x c1 rfl <;>
   ·obtain ⟨_,o,o',g1,g2,g3⟩:=hin j l (Y3 hj);rw [hag (hsub _ (Y3 hj)),g1] at hx;injection hx with hx
    subst hx;cases g3;exact g2
 have hO0:Objs (fun j=>(look ρ j).bind β) S (look H) w:=by
  refine ⟨fun j o ho=>?_,fun j j' b s1 s2 b1 b2=>?_,fun j b s1 b1=>?_,hO.sb⟩
  ·obtain ⟨l,hm⟩:=hinH j (by simp [ho]);obtain ⟨_,oo,o',g1,g2,g3⟩:=hin j l hm;rw [ho] at g2;injection g2 with g2
   subst g2;have hob:=hO.ob l _ ((hag (hsub _ hm)).trans g1);cases g3 with
   |box g3=>
    obtain ⟨b,ty,c0,fz,e1,e2,e3,e4,e5⟩:=hob;refine ⟨b,ty,c0,fz,(hβc hm).trans e1,e2,⟨e3.1,Q6W g3 e3.2⟩,e4.trans g3.length,fun i x hx=>?_⟩;obtain ⟨y,y1,y2⟩:=g3.at i x hx;exact hun (e5 i y y1) y2
   |arr e s rows=>
    rcases hob with ⟨e1,e2⟩ | ⟨b,cs,e1,e2,e3,e4,e5⟩
    ·exact .inl ⟨(hβc hm).trans e1,e2⟩
    ·exact .inr ⟨b,cs,(hβc hm).trans e1,e2,e3,e4,e5⟩
   |mp t f=>
    obtain ⟨b,e1,e2⟩:=hob;exact ⟨b,(hβc hm).trans e1,e2⟩
  ·obtain ⟨l,hm⟩:=hinH j s1;obtain ⟨l',hm'⟩:=hinH j' s2;have:=hO.inj l l' b (hsome' hm) (hsome' hm') (by rw [<- hβc hm];exact b1) (by rw [<- hβc hm'];exact b2);subst this;exact hlk2 hm hm'
  ·obtain ⟨l,hm⟩:=hinH j s1;exact hO.apart l b (hsome' hm) (by rw [<- hβc hm];exact b1)
 have hA0:ArgsRd (fun j=>(look ρ j).bind β) S (look H) w args avs':=by
  refine ⟨by rw [hA.1,hav.length],fun i v av g1 g2=>?_⟩;obtain ⟨y,y1,y2⟩:=hav.at i av g2;exact hun (hA.2 i v y g1 y1) y2
 refine (h _ _ _ _ hO0 hA0).mono fun e w' ⟨v,av,H',β',S',he,hk,hrd,_,hr⟩=>?_
 obtain ⟨q1,q2,q3,q4⟩:=hK av H' hk;have hinv:∀ {j l:Nat},(j,l)∈σ->inv σ l=some j:=fun hm=>Q0m h2 hm
 let βo:Nat->Option Nat:=fun l=>match inv σ l with | some j=>β' j | none=>β l
 have hβo:∀ j l,(j,l)∈σ->βo l=β' j:=fun j l hm=>by simp only [βo,hinv hm]
 have hset:∀ j l,(j,l)∈σ->VQ h' dl.wr l=(look H' j).map (Q7i σ):=fun j l hm=>by rw [<- q2];exact R7 σ H' σ h' h2 j l hm
 have hmem:∀ {l:Nat},l∈wrL dl->∃ j,(j,l)∈σ:=fun hm=>by
  rw [hwl] at hm;obtain ⟨⟨j,l'⟩,m1,m2⟩:=QdG.1 hm;simp only at m2;subst m2;exact ⟨j,m1⟩
 have hpin:∀ {j l:Nat},(j,l)∈ρ->β' j=β l:=fun hm=>(hr.pin _ (hin _ _ hm).1).trans (hβc hm)
 have hren:∀ {v:Value} {x:AV},RdA β' S' (look H') w' tm0 v x->RdA βo S' (VQ h' dl.wr) w' tm0 v (ZQ σ x):=fun hx=>
  Q2V hβo (fun j l o hm ho=>by rw [hset j l hm,ho];rfl) (fun j l hm ho=>by rw [hset j l hm,ho];rfl) hx
 have hwmem:∀ {j l:Nat},(j,l)∈σ->l∈wrL dl:=fun {j l} hm=>by rw [hwl];exact QdG.2 ⟨(j,l),hm,rfl⟩
 have hMw:∀ b,(∃ j,(look H j).isSome=true/\(look ρ j).bind β=some b)->∃ l,l∈wrL dl/\(h' l).isSome=true/\β l=some b:=by
  intro b ⟨j,s1,s2⟩;obtain ⟨l,hm⟩:=hinH j s1;exact ⟨l,hwmem (hsub _ hm),hsome' hm,by rw [<- hβc hm];exact s2⟩
 have hw0:∀ {b:Nat},(∃ j,(look H j).isSome=true/\(look ρ j).bind β=some b)\/w.heap.size<=b->w.heap.size<=b\/∃ l0,l0∈wrL dl/\(h' l0).isSome=true/\β l0=some b:=by
  intro b hx;rcases hx with hx | hx
  ·exact .inr (hMw b hx)
  ·exact .inl hx
 refine ⟨v,βo,S',he,⟨hr.s0,fun b hS=>?_,hr.sb,hr.fr.mono fun b _ hM=>hMw b hM,fun l hno=>?_,fun l o hm ho=>?_,fun l hm hs=>?_,fun l b hm hs hb'=>?_,fun l l' b hm hm' hs hs' hb' hb''=>?_,fun l hm hno hno'=>?_,?_,fun t=>by rw [<- q1];exact Bm σ t av⟩⟩
 ·rcases hr.sfr b hS with g | g | g
  ·exact .inl g
  ·exact .inr (.inr (hMw b g))
  ·exact .inr (.inl g)
 ·have:inv σ l=none:=Q3m (by rw [<- hwl];exact hno);simp only [βo,this]
 ·obtain ⟨j,hj⟩:=hmem hm;rw [hset j l hj,Qdn] at ho;obtain ⟨o',ho',rfl⟩:=ho;have hob:=hr.ob j o' ho';cases o' with
  |box cells=>
   obtain ⟨b,ty,cs,fz,g1,g2,g3,g4,g5⟩:=hob;refine ⟨b,ty,cs,fz,(hβo j l hj).trans g1,g2,⟨g3.1,CY g3.2⟩,by rw [g4,Yu],fun i x hx=>?_⟩;rw [Up,Qdn] at hx;obtain ⟨y,hy,rfl⟩:=hx;exact hren (g5 i y hy)
  |arr e s rows=>
   rcases hob with ⟨g1,g2⟩ | ⟨b,cs,g1,g2,g3,g4,g5⟩
   ·exact .inl ⟨(hβo j l hj).trans g1,g2⟩
   ·exact .inr ⟨b,cs,(hβo j l hj).trans g1,g2,g3,g4,g5⟩
  |mp t f=>
   obtain ⟨b,g1,g2⟩:=hob;exact ⟨b,(hβo j l hj).trans g1,g2⟩
 ·obtain ⟨j,hj⟩:=hmem hm;rcases hnew j l hj with hp | hno
  ·obtain ⟨hj6,o,o',e1,e2,e3⟩:=hin j l hp;have hh:h' l=some o:=(hag hj).trans e1;have hcells:∀ b cs ty fz,(VQ h' dl.wr l).isSome=true->β l=some b->w.heap[b]? = some (.cells cs ty fz)->∃ cs' ty' fz',w'.heap[b]? = some (.cells cs' ty' fz')/\cs'.size=cs.size:=by
    intro b cs ty fz hs' hb' hw;have hs2:(look H' j).isSome=true:=by
     rw [hset j l hj] at hs';cases hx:look H' j with
     |none=>rw [hx] at hs';cases hs'
     |some o=>rfl
    exact hr.psz j b hj6 hs2 ((hpin hp).trans hb') cs ty fz hw
   rcases q4 j l hp with ⟨c,c',g1,g2,g3⟩ | ⟨e,s,rows,g1,g2⟩ | ⟨t,f,g1,g2⟩
   ·rw [g1] at e2;injection e2 with e2
    subst e2;cases e3 with
    |box e3=>exact ⟨(hβo j l hj).trans (hpin hp),fun hx=>(by rw [hh] at hx;cases hx),fun e s rows hx=>(by rw [hh] at hx;cases hx),hcells,fun t f hx=>(by rw [hh] at hx;cases hx)⟩
   ·rw [g1] at e2;injection e2 with e2
    subst e2;cases e3 with
    |arr=>
     refine ⟨(hβo j l hj).trans (hpin hp),fun hx=>(by rw [hh] at hx;cases hx),fun e' s' rows2 hx=>?_,hcells,fun t f hx=>(by rw [hh] at hx;cases hx)⟩;rw [hh] at hx;injection hx with hx
     injection hx with x1 x2 x3
     subst x1 x2 x3;rcases g2 with g2 | ⟨rows',g2,g3⟩
     ·left;rw [hset j l hj,g2];rfl
     ·right;exact ⟨rows',by rw [hset j l hj,g2];rfl,g3⟩
   ·rw [g1] at e2;injection e2 with e2
    subst e2;cases e3 with
    |mp=>
     refine ⟨(hβo j l hj).trans (hpin hp),fun hx=>(by rw [hh] at hx;cases hx),fun e' s' rows2 hx=>(by rw [hh] at hx;cases hx),hcells,fun t' f2 hx=>?_⟩;rw [hh] at hx;injection hx with hx
     injection hx with x1 x2
     subst x1 x2;rcases g2 with g2 | ⟨f',g2⟩
     ·left;rw [hset j l hj,g2];rfl
     ·right;exact ⟨f',by rw [hset j l hj,g2];rfl⟩
  ·rw [hag hj,hno] at hs;cases hs
 ·obtain ⟨j,hj⟩:=hmem hm;rw [hβo j l hj] at hb';have hs2:(look H' j).isSome=true:=by
   rw [hset j l hj] at hs;cases hx:look H' j with
   |none=>rw [hx] at hs;cases hs
   |some o=>rfl
  exact ⟨hw0 (hr.own j b hs2 hb'),hr.apart j b hs2 hb'⟩
 ·obtain ⟨j,hj⟩:=hmem hm;obtain ⟨j',hj'⟩:=hmem hm';rw [hβo j l hj] at hb';rw [hβo j' l' hj'] at hb'';have hs2:∀ {j l:Nat},(j,l)∈σ->(VQ h' dl.wr l).isSome=true->(look H' j).isSome=true:=by
   intro j l hj hs;rw [hset j l hj] at hs;cases hx:look H' j with
   |none=>rw [hx] at hs;cases hs
   |some o=>rfl
  have:=hr.inj j j' b (hs2 hj hs) (hs2 hj' hs') hb' hb'';subst this;have:=Gh h1 _ _ hj hj' rfl;injection this
 ·obtain ⟨j,hj⟩:=hmem hm;by_cases hp:(j,l)∈ρ
  ·have:=hsome' hp;rw [hno] at this;cases this
  ·have:=q3 j l hj hp;rw [hset j l hj] at hno';cases hx:look H' j with
   |none=>rw [hx] at this;cases this
   |some o=>rw [hx] at hno';cases hno'
 ·rw [<- q1];exact hren hrd
theorem Q7x {α : Type} {K : AV -> List (Nat × Ob) -> Option α} {res : α} {C : VC} (hC : VCOk P C) {n f : Nat} {fn : Func} (hf : P.funcs[f]? = some fn) (hb : fn.body.isSome = true) (hn : (fn.name == "runtime.NumGoroutine") = false)
  {σ ρ:List (Nat × Nat)} {avs avs':List AV} {H:List (Nat × Ob)} {hl:Nat->Option Ob} {dl:Dl}
  (hav:CLeL ρ avs avs')
  (hsub:∀ p,p∈ρ->p∈σ) (h1:Xd (σ.map (·.1))=true) (h2:Xd (σ.map (·.2))=true) (hρ:Xd (ρ.map (·.1))=true)
  (hin:∀ j l,(j,l)∈ρ->1000000<=j/\∃ o o',hl l=some o/\look H j=some o'/\OLe ρ o o')
  (hinH:∀ j,(look H j).isSome=true->∃ l,(j,l)∈ρ)
  (hnew:∀ j l,(j,l)∈σ->(j,l)∈ρ\/hl l=none)
  (hwl:wrL dl=σ.map (·.2))
  (h:vfn C n fn avs' H K=some res) (hK:∀ av H',K av H'=some res->ShapeEnd σ ρ H av H' dl):Ze P f avs hl dl:=
 Nw hf hb hn hav hsub h1 h2 hρ hin hinH hnew hwl (fun _ _ _ _ hO hA=>E5 hC hf h hO hA) hK
end

section
variable {P:Program} {R:Type}
def prR (hl:Nat->Option Ob) (e s:Nat) (av:AV) (k:Nat->List (List D)->Option R):Option R:=
 match av with
 |.arr l=>match hl l with
  |some (.arr e' s' rows)=>bif Nat.beq e' e&&Nat.beq s' s then k l rows else none
  |_=>none
 |_=>none
theorem Nt {hl:Nat->Option Ob} {e s:Nat} {av:AV} {k:Nat->List (List D)->Option R} {r:R} (h:prR hl e s av k=some r):∃ l rows,k l rows=some r/\av = .arr l/\hl l=some (.arr e s rows):=by
 unfold prR at h;split at h
 ·rename_i l;split at h
  ·rename_i e' s' rows hh;obtain ⟨hc,hk⟩:=QX h;simp only [Qdl] at hc;have h1:=Qdk hc.1;have h2:=Qdk hc.2;subst h1 h2;exact ⟨l,rows,hk,rfl,hh⟩
  ·cases h
 ·cases h
def prF (f:Nat) (av:AV) (k:List AV->Option R):Option R:=
 match av with
 |.fn f' ak=>bif Nat.beq f' f then k ak else none
 |_=>none
theorem CZ {f:Nat} {av:AV} {k:List AV->Option R} {r:R} (h:prF f av k=some r):∃ ak,k ak=some r/\av = .fn f ak:=by
 unfold prF at h;split at h
 ·obtain ⟨hc,hk⟩:=QX h;have h1:=Qdk hc;subst h1;exact ⟨_,hk,rfl⟩
 ·cases h
theorem CLe.data {ρ:List (Nat × Nat)} {c c':AV} (hl:lf c'=true) (h:F9 c c'):CLe ρ c c':=.inl ⟨hl,h⟩
theorem CLe.own {ρ:List (Nat × Nat)} {c c':AV} (hd:dm ρ c'=true) (h:c=ZQ ρ c'):CLe ρ c c':=.inr ⟨hd,h⟩
def Qa5 (ρ0:List (Nat × Nat)) (hl:Nat->Option Ob) (H:List (Nat × Ob)):List (Nat × Nat)->Prop
 |[]=>True
 |(j,l)::r=>(1000000<=j/\∃ o o',hl l=some o/\look H j=some o'/\OLe ρ0 o o')/\Qa5 ρ0 hl H r
def Qae (H H':List (Nat × Ob)):List (Nat × Nat)->Prop
 |[]=>True
 |(j,_)::r=>BO (look H j) (look H' j)/\Qae H H' r
theorem Q5c {ρ0:List (Nat × Nat)} {hl:Nat->Option Ob} {H:List (Nat × Ob)}:∀ {ρ:List (Nat × Nat)},Qa5 ρ0 hl H ρ->∀ j l,(j,l)∈ρ->1000000<=j/\∃ o o',hl l=some o/\look H j=some o'/\OLe ρ0 o o'
 |(a,b)::r,h,j,l,hm=>by
  rcases Qdr.1 hm with hm | hm
  ·injection hm with h1 h2;subst h1 h2;exact h.1
  ·exact Q5c h.2 j l hm
theorem Q4S {H H':List (Nat × Ob)}:∀ {ρ:List (Nat × Nat)},Qae H H' ρ->∀ j l,(j,l)∈ρ->BO (look H j) (look H' j)
 |(a,b)::r,h,j,l,hm=>by
  rcases Qdr.1 hm with hm | hm
  ·injection hm with h1 h2;subst h1 h2;exact h.1
  ·exact Q4S h.2 j l hm
theorem Q5R {o o':Option Ob} {c c':List AV} (h1:o=some (.box c)) (h2:o'=some (.box c')) (h3:c'.length=c.length):BO o o':=.inl ⟨c,c',h1,h2,h3⟩
theorem Q40 {o o':Option Ob} {e s:Nat} {rows:List (List D)} (h1:o=some (.arr e s rows)) (h2:o'=none):BO o o':=.inr (.inl ⟨e,s,rows,h1,.inl h2⟩)
theorem Hj {o o':Option Ob} {e s:Nat} {rows ak:List (List D)} (h1:o=some (.arr e s rows)) (h2:o'=some (.arr e s ak)) (h3:ak.length=rows.length):BO o o':=.inr (.inl ⟨e,s,rows,h1,.inr ⟨ak,h2,h3⟩⟩)
theorem Q5b {o o':Option Ob} {t:Nat} {f f':Int->Bool} (h1:o=some (.mp t f)) (h2:o'=some (.mp t f')):BO o o':=.inr (.inr ⟨t,f,h1,.inr ⟨f',h2⟩⟩)
theorem Q1y {o o':Option Ob} {t:Nat} {f:Int->Bool} (h1:o=some (.mp t f)) (h2:o'=none):BO o o':=.inr (.inr ⟨t,f,h1,.inl h2⟩)
theorem HI {f:Nat} {ak:List AV} {hl:Nat->Option Ob} {dl:Dl} {g:Bool} {k:Dl->Option R} {r:R} (h:(bif g then none else k dl)=some r):∃ dl,k dl=some r/\(g=true->Ze P f ak hl dl):=by
 cases g with
 |true=>cases h
 |false=>exact ⟨dl,h,fun h=>by cases h⟩
theorem Q4q {α : Type} {K : AV -> List (Nat × Ob) -> Option α} {res : α} {f : Nat} {fn : Func} (hf : P.funcs[f]? = some fn) (hb : fn.body.isSome = true) (hn : (fn.name == "runtime.NumGoroutine") = false)
  {ρ ν:List (Nat × Nat)} {avs avs':List AV} {H:List (Nat × Ob)} {hl:Nat->Option Ob} {dl:Dl}
  (hav:CLeL ρ avs avs') (h1:Xd ((ρ++ν).map (·.1))=true) (hρ:Xd (ρ.map (·.1))=true)
  (hc:HK hl ρ ν=true) (hin:Qa5 ρ hl H ρ) (hkeys:H.map (·.1)=ρ.map (·.1)) (hwl:wrL dl=(ρ++ν).map (·.2))
  (h:∀ (β:Nat->Option Nat) (S:Nat->Prop) (w:World) (vs:List Value),Objs β S (look H) w->ArgsRd β S (look H) w vs avs'->Calls P f vs.toArray w (Lz H K res β S w))
  (hK:∀ av H',K av H'=some res->ZQ (ρ++ν) av=dl.v/\KV (ρ++ν) H' (ρ++ν)=dl.wr/\Q7o H' ν/\Qae H H' ρ):Ze P f avs hl dl:=by
 simp only [HK,Qdl] at hc;refine Nw hf hb hn hav (fun p hp=>List.mem_append_left _ hp) h1 hc.1 hρ (Q5c hin) (Bo hkeys) (fun j l hm=>?_) hwl h fun av H' hk=>?_
 ·rcases List.mem_append.1 hm with hm | hm
  ·exact .inl hm
  ·exact .inr (Q2y hc.2 j l hm)
 ·obtain ⟨q1,q2,q3,q4⟩:=hK av H' hk;refine ⟨q1,q2,fun j l hm hno=>?_,Q4S q4⟩;rcases List.mem_append.1 hm with hm | hm
  ·exact absurd hm hno
  ·exact Q1r q3 j l hm
end

abbrev EC:=(R:Type)->St->(Exit->St->Option R)->Option R
section
variable {P:Program} {E:Env} {R:Type}
def Qah (P:Program) (c:Code) (F:EC):Prop:=
 ∀ (E:Env) (R:Type) (st:St) (k:Exit->St->Option R) (r:R),F R st k=some r->∀ a w,T0 E st a w->(Code.loop c).wp P (Q0D E k r) a w
structure LpE (P:Program) where
 r:Nat
 c:Code
 L:EC
 t:St->Bool
 ok:Qah P c L
def Q4i:List (LpE P)->Nat->Option EC
 |[],_=>none
 |e::t,r=>bif Nat.beq e.r r then some e.L else Q4i t r
def Q43 (C:VC) (T:List (LpE P)):Code->St->(Exit->St->Option R)->Option R
 |.skip,st,k=>k .normal st
 |.region id am ak,st,k=>CX C id am ak st (k .normal)
 |.seq a b,st,k=>Q43 C T a st fun e st'=>match e with
  |.normal=>Q43 C T b st' k
  |.exit id=>k (.exit id) st'
  |.ret=>k .ret st'
  |_=>none
 |.cond c a b,st,k=>match evO st.tm c with
  |.d (.bool e)=>bif e then Q43 C T a st k else Q43 C T b st k
  |_=>none
 |.block id c,st,k=>Q43 C T c st fun e st'=>match e with
  |.normal=>k .normal st'
  |.exit j=>bif Nat.beq j id then k .normal st' else k (.exit j) st'
  |.ret=>k .ret st'
  |_=>none
 |.loop c,st,k=>match Q4i T (Q6g c) with
  |some L=>L R st k
  |none=>none
 |.exit id,st,k=>k (.exit id) st
 |.ret,st,k=>k .ret st
 |_,_,_=>none
def UD:Code->List (Nat × Code)
 |.seq a b=>UD a++UD b
 |.cond _ a b=>UD a++UD b
 |.block _ c=>UD c
 |.loop c=>[(Q6g c,c)]
 |_=>[]
def Q9W (T:List (LpE P)) (ds:List (Nat × Code)):Prop:=∀ r c,(r,c)∈ds->∀ L,Q4i T r=some L->Qah P c L
def D5 (T:List (LpE P)) (ds:List (Nat × Code)):List (Nat × Code):=ds.filter fun d=>Kp d.1 (T.map (·.r))
theorem Q5w {T:List (LpE P)} {r:Nat} {L:EC} (h:Q4i T r=some L):Kp r (T.map (·.r))=true:=by
 induction T with
 |nil=>cases h
 |cons e t ih=>
  simp only [Q4i] at h;cases hb:Nat.beq e.r r with
  |true=>have:=Qdk hb;simp [Kp,this,Nat.beq_refl]
  |false=>rw [hb] at h;simp [Kp,ih h]
theorem Q3c {T:List (LpE P)} {ds:List (Nat × Code)} (hn:Xd (T.map (·.r))=true) (h:D5 T ds=T.map fun e=>(e.r,e.c)):Q9W T ds:=by
 intro r c hm L hL;have hm:(r,c)∈T.map fun e=>(e.r,e.c):=by
  rw [<- h];exact List.mem_filter.2 ⟨hm,Q5w hL⟩
 clear h;induction T with
 |nil=>cases hm
 |cons e t ih=>
  simp only [QdA,Xd,Qdl,Qdt] at hn;simp only [QdA,Qdr] at hm;simp only [Q4i] at hL;rcases hm with hm | hm
  ·injection hm with h1 h2
   subst h1 h2;simp only [Nat.beq_refl,Qdq,Option.some.injEq] at hL;subst hL;exact e.ok
  ·cases hb:Nat.beq e.r r with
   |true=>
    exfalso;have:=Qdk hb;subst this;have am:Kp e.r (t.map (·.r))=true:=by
     have:∀ (l:List (LpE P)),(e.r,c)∈l.map (fun x=>(x.r,x.c))->Kp e.r (l.map (·.r))=true:=by
      intro l;induction l with
      |nil=>intro h;cases h
      |cons x xs an=>
       intro h;simp only [QdA,Qdr] at h;rcases h with h | h
       ·injection h with h _
        simp [Kp,h,Nat.beq_refl]
       ·simp [Kp,an h]
     exact this t hm
    rw [am] at hn;exact absurd hn.1 (by simp)
   |false=>
    simp only [hb,QdB] at hL;exact ih hn.2 hL hm
theorem Cu {C:VC} (hC:VCOk P C) {T:List (LpE P)}:∀ (c:Code),Q9W T (UD c)->∀ (st:St) (k:Exit->St->Option R) (r:R),Q43 C T c st k=some r->∀ a w,T0 E st a w->c.wp P (Q0D E k r) a w:=by
 intro c;induction c with
 |skip=>intro _ st k r h a w hR;exact wp_skip ⟨st,hR,h⟩
 |region id ax au=>
  intro _ st k r h a w hR;exact N2 hC h hR fun st' a' w' ak hk=>⟨st',ak,hk⟩
 |seq x y aq an=>
  intro hT st k r h a w hR;simp only [Q43] at h;refine wp_seq (wp_mono (aq (fun r c hm=>hT r c (List.mem_append_left _ hm)) st _ r h a w hR) fun e a' w' hp=>?_);obtain ⟨st',ak,hk⟩:=hp;cases e with
  |normal=>exact an (fun r c hm=>hT r c (List.mem_append_right _ hm)) st' k r hk a' w' ak
  |exit id=>exact ⟨st',ak,hk⟩
  |ret=>exact ⟨st',ak,hk⟩
  |_=>cases hk
 |cond c x y aq an=>
  intro hT st k r h a w hR;simp only [Q43] at h;split at h
  ·rename_i e he;obtain ⟨β,S,ao⟩:=hR;have hv:=(he▸Q15 ao c).bool_inv;refine wp_cond hv ?_;cases e with
   |true=>exact aq (fun r c hm=>hT r c (List.mem_append_left _ hm)) st k r (by simpa using h) a w ⟨β,S,ao⟩
   |false=>exact an (fun r c hm=>hT r c (List.mem_append_right _ hm)) st k r (by simpa using h) a w ⟨β,S,ao⟩
  ·cases h
 |block id c ih=>
  intro hT st k r h a w hR;simp only [Q43] at h;refine wp_block (wp_mono (ih hT st _ r h a w hR) fun e a' w' hp=>?_);obtain ⟨st',ak,hk⟩:=hp;cases e with
  |normal=>exact ⟨st',ak,hk⟩
  |exit j=>
   cases hb:Nat.beq j id with
   |true=>
    simp only [hb,Qdq] at hk;have:=Qdk hb;simp only [Exit.inBlock,this,if_true];exact ⟨st',ak,hk⟩
   |false=>
    simp only [hb,QdB] at hk;have ar:¬ j=id:=fun e=>by subst e;simp at hb
    simp only [Exit.inBlock,ar,if_false];exact ⟨st',ak,hk⟩
  |ret=>exact ⟨st',ak,hk⟩
  |_=>cases hk
 |loop c ih=>
  intro hT st k r h a w hR;simp only [Q43] at h;split at h
  ·rename_i L hL;exact hT _ c (by simp [UD]) L hL E _ st k r h a w hR
  ·cases h
 |exit id=>intro _ st k r h a w hR;exact wp_exit ⟨st,hR,h⟩
 |ret=>intro _ st k r h a w hR;exact wp_ret ⟨st,hR,h⟩
 |_=>intro _ st k r h;simp [Q43] at h
def lpK (F:EC) (k:Exit->St->Option R):Exit->St->Option R:=fun e st=>match e with
 |.normal=>F R st k
 |.exit id=>k (.exit id) st
 |.ret=>k .ret st
 |_=>none
theorem Q0x {c:Code} (F:Nat->EC) (h0:∀ (R:Type) st (k:Exit->St->Option R),F 0 R st k=none)
  (hs:∀ (m:Nat) (E:Env) (R:Type) st (k:Exit->St->Option R) r,F (m+1) R st k=some r->∀ a w,T0 E st a w->c.wp P (Q0D E (lpK (F m) k) r) a w) :
  ∀ (m:Nat) (E:Env) (R:Type) (st:St) (k:Exit->St->Option R) (r:R),F m R st k=some r->∀ a w,T0 E st a w->Code.rounds P c (Q0D E k r) m a w
 |0,E,R,st,k,r,h=>by rw [h0] at h;cases h
 |m+1,E,R,st,k,r,h=>by
  intro a w hR;rw [rounds_succ];refine wp_mono (hs m E R st k r h a w hR) fun e a' w' ⟨st',ak,hk⟩=>?_
  cases e with
  |normal=>exact Q0x F h0 hs m E R st' k r hk a' w' ak
  |exit id=>exact ⟨st',ak,hk⟩
  |ret=>exact ⟨st',ak,hk⟩
  |_=>cases hk
end
inductive LT where
 |I | B | T | L | R | D | N | M | P
abbrev yI:LT:=.I
abbrev yB:LT:=.B
abbrev yT:LT:=.T
abbrev yL:LT:=.L
abbrev yR:LT:=.R
abbrev yD:LT:=.D
abbrev yN:LT:=.N
abbrev yM:LT:=.M
abbrev yP:LT:=.P
inductive Lf where
 |I (x:Int)
 |B (x:Bool)
 |T (x:List UInt8)
 |L (x:List (List D))
 |R (x:List D)
 |D (x:Vx.D)
 |N (x:Nat)
 |M (x:Int->List (List Vx.D))
 |P (x:Int->Bool)
def LT.ty:LT->Type
 |.I=>Int
 |.B=>Bool
 |.T=>List UInt8
 |.L=>List (List Vx.D)
 |.R=>List Vx.D
 |.D=>Vx.D
 |.N=>Nat
 |.M=>Int->List (List Vx.D)
 |.P=>Int->Bool
def HL:List LT->Type
 |[]=>Unit
 |t::ts=>t.ty × HL ts
def LF:List LT->Type->Type
 |[],α=>α
 |t::ts,α=>t.ty->LF ts α
def Qaj:(t:LT)->t.ty->Lf
 |.I,x=>.I x
 |.B,x=>.B x
 |.T,x=>.T x
 |.L,x=>.L x
 |.R,x=>.R x
 |.D,x=>.D x
 |.N,x=>.N x
 |.M,x=>.M x
 |.P,x=>.P x
def toL:(ts:List LT)->HL ts->List Lf
 |[],_=>[]
 |t::ts,v=>Qaj t v.1::toL ts v.2
def apH {α:Type}:(ts:List LT)->LF ts α->HL ts->α
 |[],f,_=>f
 |_::ts,f,v=>apH ts (f v.1) v.2
def Q9b:(t:LT)->Lf->Option t.ty
 |.I,.I x=>some x
 |.B,.B x=>some x
 |.T,.T x=>some x
 |.L,.L x=>some x
 |.R,.R x=>some x
 |.D,.D x=>some x
 |.N,.N x=>some x
 |.M,.M x=>some x
 |.P,.P x=>some x
 |_,_=>none
def apL {α:Type}:(ts:List LT)->LF ts (Option α)->List Lf->Option α
 |[],f,l=>match l with
  |[]=>f
  |_::_=>none
 |t::ts,f,l=>match l with
  |[]=>none
  |x::r=>match Q9b t x with
   |some v=>apL ts (f v) r
   |none=>none
theorem Eg {t:LT} {x:Lf} {v:t.ty} (h:Q9b t x=some v):x=Qaj t v:=by
 cases t <;> cases x <;> first | (injection h with h;subst h;rfl) | cases h
theorem FS {α:Type} (ts:List LT):∀ (f:LF ts (Option α)) (l:List Lf) (r:α),apL ts f l=some r->∃ v:HL ts,apH ts f v=some r/\l=toL ts v:=by
 induction ts with
 |nil=>
  intro f l r h;cases l with
  |nil=>exact ⟨(),h,rfl⟩
  |cons x l=>cases h
 |cons t ts ih=>
  intro f l r h;cases l with
  |nil=>cases h
  |cons x l=>
   replace h:(match Q9b t x with | some v=>apL ts (f v) l | none=>none)=some r:=h
   split at h
   ·rename_i v hv;obtain ⟨u,h1,h2⟩:=ih (f v) l r h;exact ⟨(v,u),h1,by rw [Eg hv,h2];rfl⟩
   ·cases h
inductive TA where
 |top | nil
 |i (k:IntKind) | b | t | l (s:Nat) | x
 |ci (k:IntKind) (n:Int) | cb (v:Bool) | ct (s:List UInt8) | cl (s:Nat)
 |ag (l:List TA) | tup (l:List TA) | fn (f:Nat) (l:List TA)
 |ptr (l off:Nat) | arr (l:Nat) | sa (l t:Nat)
 |el (off:Nat) | ap (l off:Nat) | ac (l i off:Nat)
 |fs (s:Nat) | mpd
 |gd (t:Nat) (w:Bool) (a:TA)
def L5:List UInt8->List UInt8->Bool
 |[],[]=>true
 |a::r,b::s=>Nat.beq a.toNat b.toNat&&L5 r s
 |_,_=>false
theorem Cr:∀ {a b:List UInt8},L5 a b=true->a=b
 |[],[],_=>rfl
 |x::r,y::s,h=>by
  simp only [L5,Qdl] at h;rw [UInt8.toNat_inj.1 (Qdk h.1),Cr h.2]
 |[],_::_,h=>by simp [L5] at h
 |_::_,[],h=>by simp [L5] at h
def oB {α:Type} (c:Bool) (x:α):Option α:=bif c then some x else none
theorem Un {α:Type} {c:Bool} {x y:α} (h:oB c x=some y):c=true/\x=y:=by
 cases c with
 |true=>injection h with h;exact ⟨rfl,h⟩
 |false=>cases h
mutual
def rdT:TA->AV->List Lf->Option (List Lf)
 |.top,.top,acc=>some acc
 |.nil,.nil,acc=>some acc
 |.i k,.d (.int k' n),acc=>oB (k == k') (.I n::acc)
 |.b,.d (.bool v),acc=>some (.B v::acc)
 |.t,.d (.str s),acc=>some (.T s::acc)
 |.l s,.d (.sl s' r),acc=>oB (Nat.beq s s') (.L r::acc)
 |.x,.d d,acc=>some (.D d::acc)
 |.ci k n,.d (.int k' n'),acc=>oB (k == k'&&decide (n=n')) acc
 |.cb v,.d (.bool v'),acc=>oB (v == v') acc
 |.ct s,.d (.str s'),acc=>oB (L5 s s') acc
 |.cl s,.d (.sl s' []),acc=>oB (Nat.beq s s') acc
 |.ag l,.ag l',acc=>Q6f l l' acc
 |.tup l,.tup l',acc=>Q6f l l' acc
 |.fn f l,.fn f' l',acc=>bif Nat.beq f f' then Q6f l l' acc else none
 |.ptr l o,.ptr l' o',acc=>oB (Nat.beq l l'&&Nat.beq o o') acc
 |.arr l,.arr l',acc=>oB (Nat.beq l l') acc
 |.sa l o,.sa l' o',acc=>oB (Nat.beq l l'&&Nat.beq o o') acc
 |.el o,.el r o',acc=>oB (Nat.beq o o') (.R r::acc)
 |.ap l o,.ap l' i o',acc=>oB (Nat.beq l l'&&Nat.beq o o') (.N i::acc)
 |.ac l i o,.ap l' i' o',acc=>oB (Nat.beq l l'&&Nat.beq i i'&&Nat.beq o o') acc
 |.fs s,.fs s' r,acc=>oB (Nat.beq s s') (.L r::acc)
 |.mpd,.mpd f,acc=>some (.M f::acc)
 |.gd t w a,.gd t' w' a',acc=>bif Nat.beq t t'&&(w == w') then rdT a a' acc else none
 |_,_,_=>none
def Q6f:List TA->List AV->List Lf->Option (List Lf)
 |[],[],acc=>some acc
 |a::r,a'::r',acc=>match Q6f r r' acc with
  |some ak=>rdT a a' ak
  |none=>none
 |_,_,_=>none
end
mutual
def fiT:TA->List Lf->AV × List Lf
 |.i k,.I n::r=>(.d (.int k n),r)
 |.b,.B v::r=>(.d (.bool v),r)
 |.t,.T s::r=>(.d (.str s),r)
 |.l s,.L x::r=>(.d (.sl s x),r)
 |.x,.D d::r=>(.d d,r)
 |.ci k n,r=>(.d (.int k n),r)
 |.cb v,r=>(.d (.bool v),r)
 |.ct s,r=>(.d (.str s),r)
 |.cl s,r=>(.d (.sl s []),r)
 |.ag l,r=>(.ag (Q4a l r).1,(Q4a l r).2)
 |.tup l,r=>(.tup (Q4a l r).1,(Q4a l r).2)
 |.fn f l,r=>(.fn f (Q4a l r).1,(Q4a l r).2)
 |.ptr l o,r=>(.ptr l o,r)
 |.arr l,r=>(.arr l,r)
 |.sa l o,r=>(.sa l o,r)
 |.el o,.R x::r=>(.el x o,r)
 |.ap l o,.N i::r=>(.ap l i o,r)
 |.ac l i o,r=>(.ap l i o,r)
 |.fs s,.L x::r=>(.fs s x,r)
 |.mpd,.M f::r=>(.mpd f,r)
 |.gd t w a,r=>(.gd t w (fiT a r).1,(fiT a r).2)
 |.nil,r=>(.nil,r)
 |_,r=>(.top,r)
def Q4a:List TA->List Lf->List AV × List Lf
 |[],r=>([],r)
 |a::l,r=>((fiT a r).1::(Q4a l (fiT a r).2).1,(Q4a l (fiT a r).2).2)
end
mutual
theorem Bi:∀ (ta:TA) (a:AV) (acc ls:List Lf),rdT ta a acc=some ls->fiT ta ls=(a,acc):=by
 intro ta a acc ls h;cases ta <;> cases a <;> try (simp only [rdT,reduceCtorEq] at h;done)
 case top.top=>simp only [rdT,Option.some.injEq] at h;subst h;simp [fiT]
 case nil.nil=>simp only [rdT,Option.some.injEq] at h;subst h;simp [fiT]
 case i.d k d=>
  cases d <;> try (simp only [rdT,reduceCtorEq] at h;done)
  simp only [rdT] at h;obtain ⟨h1,rfl⟩:=Un h;rw [<- eq_of_beq h1];rfl
 case b.d d=>
  cases d <;> try (simp only [rdT,reduceCtorEq] at h;done)
  simp only [rdT,Option.some.injEq] at h;subst h;rfl
 case t.d d=>
  cases d <;> try (simp only [rdT,reduceCtorEq] at h;done)
  simp only [rdT,Option.some.injEq] at h;subst h;rfl
 case l.d s d=>
  cases d <;> try (simp only [rdT,reduceCtorEq] at h;done)
  simp only [rdT] at h;obtain ⟨h1,rfl⟩:=Un h;rw [<- Qdk h1];rfl
 case x.d d=>simp only [rdT,Option.some.injEq] at h;subst h;rfl
 case ci.d k n d=>
  cases d <;> try (simp only [rdT,reduceCtorEq] at h;done)
  simp only [rdT] at h;obtain ⟨h1,rfl⟩:=Un h;simp only [Qdl,decide_eq_true_eq] at h1;rw [<- eq_of_beq h1.1,<- h1.2];simp [fiT]
 case cb.d v d=>
  cases d <;> try (simp only [rdT,reduceCtorEq] at h;done)
  simp only [rdT] at h;obtain ⟨h1,rfl⟩:=Un h;rw [<- eq_of_beq h1];simp [fiT]
 case ct.d s d=>
  cases d <;> try (simp only [rdT,reduceCtorEq] at h;done)
  simp only [rdT] at h;obtain ⟨h1,rfl⟩:=Un h;rw [<- Cr h1];simp [fiT]
 case cl.d s d=>
  cases d <;> try (simp only [rdT,reduceCtorEq] at h;done)
  rename_i s' rows;cases rows <;> try (simp only [rdT,reduceCtorEq] at h;done)
  simp only [rdT] at h;obtain ⟨h1,rfl⟩:=Un h;rw [<- Qdk h1];simp [fiT]
 case ag.ag l l'=>simp only [rdT] at h;have:=Pw l l' acc ls h;simp [fiT,this]
 case tup.tup l l'=>simp only [rdT] at h;have:=Pw l l' acc ls h;simp [fiT,this]
 case fn.fn f l f' l'=>
  simp only [rdT] at h;obtain ⟨h1,h⟩:=QX h;have:=Pw l l' acc ls h;rw [<- Qdk h1];simp [fiT,this]
 case ptr.ptr=>
  simp only [rdT] at h;obtain ⟨h1,rfl⟩:=Un h;simp only [Qdl] at h1;rw [<- Qdk h1.1,<- Qdk h1.2];simp [fiT]
 case arr.arr=>
  simp only [rdT] at h;obtain ⟨h1,rfl⟩:=Un h;rw [<- Qdk h1];simp [fiT]
 case sa.sa=>
  simp only [rdT] at h;obtain ⟨h1,rfl⟩:=Un h;simp only [Qdl] at h1;rw [<- Qdk h1.1,<- Qdk h1.2];simp [fiT]
 case el.el=>
  simp only [rdT] at h;obtain ⟨h1,rfl⟩:=Un h;rw [<- Qdk h1];rfl
 case ap.ap=>
  simp only [rdT] at h;obtain ⟨h1,rfl⟩:=Un h;simp only [Qdl] at h1;rw [<- Qdk h1.1,<- Qdk h1.2];rfl
 case ac.ap=>
  simp only [rdT] at h;obtain ⟨h1,rfl⟩:=Un h;simp only [Qdl] at h1;rw [<- Qdk h1.1.1,<- Qdk h1.1.2,<- Qdk h1.2];simp [fiT]
 case fs.fs=>
  simp only [rdT] at h;obtain ⟨h1,rfl⟩:=Un h;rw [<- Qdk h1];rfl
 case mpd.mpd=>simp only [rdT,Option.some.injEq] at h;subst h;rfl
 case gd.gd ti w a ti' w' a'=>
  simp only [rdT] at h;obtain ⟨h1,h⟩:=QX h;simp only [Qdl] at h1;have:=Bi a a' acc ls h;rw [<- Qdk h1.1,<- eq_of_beq h1.2];simp [fiT,this]
theorem Pw:∀ (ta:List TA) (a:List AV) (acc ls:List Lf),Q6f ta a acc=some ls->Q4a ta ls=(a,acc):=by
 intro ta a acc ls h
 match ta,a,h with
 |[],[],h=>simp only [Q6f,Option.some.injEq] at h;subst h;simp [Q4a]
 |ta::ts,a::as,h=>
  simp only [Q6f] at h;split at h
  ·rename_i ak ha;have h1:=Bi ta a ak ls h;have h2:=Pw ts as acc ak ha;simp [Q4a,h1,h2]
  ·cases h
 |[],_::_,h=>simp [Q6f] at h
 |_::_,[],h=>simp [Q6f] at h
end
abbrev tI:TA:=.i .i64
inductive TO where
 |box (l:List TA)
 |arr (e s:Nat)
 |arc (e s:Nat)
 |mp (t:Nat)
structure TS where
 n:Nat
 tm:List (Nat × TA)
 h:List (Nat × TO)
def rdO:TO->Ob->List Lf->Option (List Lf)
 |.box l,.box l',acc=>Q6f l l' acc
 |.arr e s,.arr e' s' r,acc=>oB (Nat.beq e e'&&Nat.beq s s') (.L r::acc)
 |.arc e s,.arr e' s' [],acc=>oB (Nat.beq e e'&&Nat.beq s s') acc
 |.mp e,.mp e' f,acc=>oB (Nat.beq e e') (.P f::acc)
 |_,_,_=>none
def fiO:TO->List Lf->Ob × List Lf
 |.box l,r=>(.box (Q4a l r).1,(Q4a l r).2)
 |.arr e s,.L x::r=>(.arr e s x,r)
 |.arr e s,r=>(.arr e s [],r)
 |.arc e s,r=>(.arr e s [],r)
 |.mp e,.P x::r=>(.mp e x,r)
 |.mp e,r=>(.mp e fun _=>false,r)
def rdM:List (Nat × TA)->List (Nat × AV)->List Lf->Option (List Lf)
 |[],[],acc=>some acc
 |(i,a)::r,(j,b)::s,acc=>bif Nat.beq i j then match rdM r s acc with
  |some ak=>rdT a b ak
  |none=>none
  else none
 |_,_,_=>none
def fiM:List (Nat × TA)->List Lf->List (Nat × AV) × List Lf
 |[],r=>([],r)
 |(i,a)::l,r=>((i,(fiT a r).1)::(fiM l (fiT a r).2).1,(fiM l (fiT a r).2).2)
def rdH:List (Nat × TO)->List (Nat × Ob)->List Lf->Option (List Lf)
 |[],[],acc=>some acc
 |(i,a)::r,(j,b)::s,acc=>bif Nat.beq i j then match rdH r s acc with
  |some ak=>rdO a b ak
  |none=>none
  else none
 |_,_,_=>none
def fiH:List (Nat × TO)->List Lf->List (Nat × Ob) × List Lf
 |[],r=>([],r)
 |(i,a)::l,r=>((i,(fiO a r).1)::(fiH l (fiO a r).2).1,(fiH l (fiO a r).2).2)
def rdS (Z:TS) (st:St):Option (List Lf):=bif Nat.beq Z.n st.n then match rdH Z.h st.h [] with
  |some acc=>rdM Z.tm st.tm acc
  |none=>none
 else none
def fiS (Z:TS) (l:List Lf):St:=⟨Z.n,(fiM Z.tm l).1,(fiH Z.h (fiM Z.tm l).2).1⟩
theorem Q75 {z:TO} {o:Ob} {acc ls:List Lf} (h:rdO z o acc=some ls):fiO z ls=(o,acc):=by
 cases z <;> cases o <;> try (simp only [rdO,reduceCtorEq] at h;done)
 case box.box=>simp only [rdO] at h;simp [fiO,Pw _ _ _ _ h]
 case arr.arr=>
  simp only [rdO] at h;obtain ⟨h1,rfl⟩:=Un h;simp only [Qdl] at h1;rw [<- Qdk h1.1,<- Qdk h1.2];rfl
 case arc.arr e s e' s' r=>
  cases r <;> try (simp only [rdO,reduceCtorEq] at h;done)
  simp only [rdO] at h;obtain ⟨h1,rfl⟩:=Un h;simp only [Qdl] at h1;rw [<- Qdk h1.1,<- Qdk h1.2];simp [fiO]
 case mp.mp=>
  simp only [rdO] at h;obtain ⟨h1,rfl⟩:=Un h;rw [<- Qdk h1];rfl
theorem Q31:∀ {z:List (Nat × TA)} {l:List (Nat × AV)} {acc ls:List Lf},rdM z l acc=some ls->fiM z ls=(l,acc)
 |[],[],acc,ls,h=>by simp only [rdM,Option.some.injEq] at h;subst h;rfl
 |(i,a)::r,(j,b)::s,acc,ls,h=>by
  simp only [rdM] at h;obtain ⟨h1,h⟩:=QX h;split at h
  ·rename_i ak ha;simp [fiM,Bi _ _ _ _ h,Q31 ha,Qdk h1]
  ·cases h
 |[],_::_,_,_,h=>by simp [rdM] at h
 |_::_,[],_,_,h=>by simp [rdM] at h
theorem Q2H:∀ {z:List (Nat × TO)} {l:List (Nat × Ob)} {acc ls:List Lf},rdH z l acc=some ls->fiH z ls=(l,acc)
 |[],[],acc,ls,h=>by simp only [rdH,Option.some.injEq] at h;subst h;rfl
 |(i,a)::r,(j,b)::s,acc,ls,h=>by
  simp only [rdH] at h;obtain ⟨h1,h⟩:=QX h;split at h
  ·rename_i ak ha;simp [fiH,Q75 h,Q2H ha,Qdk h1]
  ·cases h
 |[],_::_,_,_,h=>by simp [rdH] at h
 |_::_,[],_,_,h=>by simp [rdH] at h
theorem Q73 {Z:TS} {st:St} {ls:List Lf} (h:rdS Z st=some ls):fiS Z ls=st:=by
 unfold rdS at h;obtain ⟨h1,h⟩:=QX h;split at h
 ·rename_i acc ha;simp only [fiS,Q31 h,Q2H ha,Qdk h1]
 ·cases h
def Lp (C:VC) (ak:Nat) (Z:TS) (ts:List LT) (f:(R:Type)->(Exit->St->Option R)->LF ts (Option R)):EC:=fun R st k=>
 match rdS Z (Cq C ak st) with
 |some ls=>apL ts (f R k) ls
 |none=>none
def mkL {P:Program} {C:VC} (hC:VCOk P C) (T:List (LpE P)) (r:Nat) (c:Code) (Z:TS) (ts:List LT) (f:Nat->(R:Type)->(Exit->St->Option R)->LF ts (Option R)) (m:Nat)
  (hr:Nat.beq r (Q6g c)=true:=by kernel_rfl) (hT:D5 T (UD c)=T.map fun e=>(e.r,e.c):=by kernel_rfl) (hn:Xd (T.map (·.r))=true:=by rfl)
  (h0:∀ R k v,apH ts (f 0 R k) v=none:=by intro R k v;rfl)
  (hs:∀ m R k v,apH ts (f (m+1) R k) v=Q43 C T c (fiS Z (toL ts v)) (lpK (Lp C (3000000000+r) Z ts (f m)) k):=by intro m R k v;kernel_rfl):LpE P where
 r:=r
 c:=c
 L:=Lp C (3000000000+r) Z ts (f m)
 t:=fun st=>(rdS Z (Cq C (3000000000+r) st)).isSome
 ok:=by
  have hr:=Qdk hr;have hT:=Q3c hn hT;intro E R st k x h a w hR;refine wp_loop_rounds m (Q0x (fun m=>Lp C (3000000000+r) Z ts (f m)) (fun R st k=>?_) (fun m E R st k x h a w hR=>?_) m E R st k x h a w hR)
  ·show Lp C (3000000000+r) Z ts (f 0) R st k=none;cases hx:Lp C (3000000000+r) Z ts (f 0) R st k with
   |none=>rfl
   |some x=>
    unfold Lp at hx;split at hx
    ·obtain ⟨v,hv,_⟩:=FS _ _ _ _ hx;rw [h0] at hv;cases hv
    ·cases hx
  ·replace h:Lp C (3000000000+r) Z ts (f (m+1)) R st k=some x:=h
   unfold Lp at h;split at h
   ·rename_i ls ao;obtain ⟨v,hv,rfl⟩:=FS _ _ _ _ h;rw [hs,Q73 ao] at hv;refine Cu hC c hT _ _ x hv a w ?_;unfold Cq;split
    ·exact CW _ hR
    ·exact hR
   ·cases h
def orL {P:Program} (a b:LpE P) (hc:b.c=a.c:=by kernel_rfl):LpE P where
 r:=a.r
 c:=a.c
 L:=fun R st k=>bif a.t st then a.L R st k else b.L R st k
 t:=fun st=>a.t st||b.t st
 ok:=by
  intro E R st k r h
  replace h:(bif a.t st then a.L R st k else b.L R st k)=some r:=h
  cases ht:a.t st with
  |true=>rw [ht] at h;exact a.ok E R st k r h
  |false=>rw [ht] at h;rw [<- hc];exact b.ok E R st k r h
section
variable {P:Program} {R:Type}
def prM (hl:Nat->Option Ob) (e:Nat) (av:AV) (k:Nat->(Int->Bool)->Option R):Option R:=
 match av with
 |.arr l=>match hl l with
  |some (.mp e' f)=>bif Nat.beq e' e then k l f else none
  |_=>none
 |_=>none
theorem QaS {hl:Nat->Option Ob} {e:Nat} {av:AV} {k:Nat->(Int->Bool)->Option R} {r:R} (h:prM hl e av k=some r):∃ l f,k l f=some r/\av = .arr l/\hl l=some (.mp e f):=by
 unfold prM at h;split at h
 ·rename_i l;split at h
  ·rename_i e' f hh;obtain ⟨hc,hk⟩:=QX h;have h1:=Qdk hc;subst h1;exact ⟨l,f,hk,rfl,hh⟩
  ·cases h
 ·cases h
def prN (av:AV) (k:Option R):Option R:=
 match av with
 |.nil=>k
 |_=>none
theorem QaW {av:AV} {k:Option R} {r:R} (h:prN av k=some r):k=some r/\av = .nil:=by
 unfold prN at h;split at h
 ·exact ⟨h,rfl⟩
 ·cases h
def vfnT (C:VC) (T:List (LpE P)) (fn:Func) (args:List AV) (h:List (Nat × Ob)) (k:AV->List (Nat × Ob)->Option R):Option R:=
 bif fn.body.isSome&&(Nat.ble args.length fn.ntmps&&Gz args) then Q43 C T (Q6 fn) { n:=fn.ntmps,tm:=Q1W 0 args,h:=h } (fnK C.tt fn k) else none
theorem SG {C:VC} (hC:VCOk P C) {T:List (LpE P)} {f:Nat} {fn:Func} (hf:P.funcs[f]? = some fn) (hT:D5 T (UD (Q6 fn))=T.map fun e=>(e.r,e.c)) (hn:Xd (T.map (·.r))=true)
  {args:List AV} {H:List (Nat × Ob)} {k:AV->List (Nat × Ob)->Option R} {r:R} (h:vfnT C T fn args H k=some r)
  (β:Nat->Option Nat) (S:Nat->Prop) (w:World) (vs:List Value) (hO:Objs β S (look H) w) (hA:ArgsRd β S (look H) w vs args):Calls P f vs.toArray w (Lz H k r β S w):=by
 unfold vfnT at h;obtain ⟨hb,h⟩:=QX h;simp only [Qdl] at hb;obtain ⟨c,hc⟩:=Qdu.1 hb.1;have ak:Q6 fn=c:=by simp [Q6,hc]
 rw [ak] at h hT;exact Q2L hC hf hc (by simp only [Qdl];exact hb.2) (fun a hR=>Cu hC c (Q3c hn hT) _ _ r h a w ⟨β,S,hR⟩) hO hA
theorem Q6Q {α:Type} {K:AV->Option α} {res:α} {C:VC} (hC:VCOk P C) (T:List (LpE P)) {f:Nat} {fn:Func} {ss:List (List Nat)} {avs:List AV} {av:AV} {hl:Nat->Option Ob} {rd:List Nat}
  (h : vfnT C T fn avs [] (retF ss K) = some res) (hK : ∀ x, K x = some res -> x = av) (hf : P.funcs[f]? = some fn := by kernel_rfl) (hb : fn.body.isSome = true := by kernel_rfl) (hn : (fn.name == "runtime.NumGoroutine") = false := by kernel_rfl) (hlf : lfL avs = true := by rfl)
  (hT:D5 T (UD (Q6 fn))=T.map fun e=>(e.r,e.c):=by kernel_rfl) (hn2:Xd (T.map (·.r))=true:=by rfl):Ze P f avs hl ⟨av,[],rd⟩:=
 Q1v hf hb hn hlf (SG hC hf hT hn2 h) hK
theorem QaQ {α:Type} {K:AV->List (Nat × Ob)->Option α} {res:α} {C:VC} (hC:VCOk P C) (T:List (LpE P)) {f:Nat} {fn:Func}
  {ρ ν:List (Nat × Nat)} {avs avs':List AV} {H:List (Nat × Ob)} {hl:Nat->Option Ob} {dl:Dl}
  (hc:HK hl ρ ν=true) (hin:Qaa hl H ρ)
  (h:vfnT C T fn avs' H K=some res)
  (hK:∀ av H',K av H'=some res->ZQ (ρ++ν) av=dl.v/\KV (ρ++ν) H' (ρ++ν)=dl.wr/\Q7o H' (ρ++ν)/\Q9O H H' ρ)
  (hf : P.funcs[f]? = some fn := by kernel_rfl) (hb : fn.body.isSome = true := by kernel_rfl) (hn : (fn.name == "runtime.NumGoroutine") = false := by kernel_rfl)
  (hav:avs=avs'.map (ZQ ρ):=by rfl) (hargs:LI ρ avs'=true:=by rfl) (h1:Xd ((ρ++ν).map (·.1))=true:=by rfl) (hρ:Xd (ρ.map (·.1))=true:=by rfl) (hkeys:H.map (·.1)=ρ.map (·.1):=by rfl) (hwl:wrL dl=(ρ++ν).map (·.2):=by rfl)
  (hT:D5 T (UD (Q6 fn))=T.map fun e=>(e.r,e.c):=by kernel_rfl) (hn2:Xd (T.map (·.r))=true:=by rfl):Ze P f avs hl dl:=
 Du hf hb hn hav hargs h1 hρ hc hin hkeys hwl (SG hC hf hT hn2 h) hK
theorem L9 {α:Type} {K:AV->List (Nat × Ob)->Option α} {res:α} {C:VC} (hC:VCOk P C) (T:List (LpE P)) {f:Nat} {fn:Func}
  {ρ ν:List (Nat × Nat)} {avs avs':List AV} {H:List (Nat × Ob)} {hl:Nat->Option Ob} {dl:Dl}
  (hav:CLeL ρ avs avs') (hc:HK hl ρ ν=true) (hin:Qa5 ρ hl H ρ)
  (h:vfnT C T fn avs' H K=some res)
  (hK:∀ av H',K av H'=some res->ZQ (ρ++ν) av=dl.v/\KV (ρ++ν) H' (ρ++ν)=dl.wr/\Q7o H' ν/\Qae H H' ρ)
  (hf : P.funcs[f]? = some fn := by kernel_rfl) (hb : fn.body.isSome = true := by kernel_rfl) (hn : (fn.name == "runtime.NumGoroutine") = false := by kernel_rfl)
  (h1:Xd ((ρ++ν).map (·.1))=true:=by rfl) (hρ:Xd (ρ.map (·.1))=true:=by rfl) (hkeys:H.map (·.1)=ρ.map (·.1):=by rfl) (hwl:wrL dl=(ρ++ν).map (·.2):=by rfl)
  (hT:D5 T (UD (Q6 fn))=T.map fun e=>(e.r,e.c):=by kernel_rfl) (hn2:Xd (T.map (·.r))=true:=by rfl):Ze P f avs hl dl:=
 Q4q hf hb hn hav h1 hρ hc hin hkeys hwl (SG hC hf hT hn2 h) hK
theorem lawT {C:VC} (hC:VCOk P C) (T:List (LpE P)) {f:Nat} {fn:Func} (hf:P.funcs[f]? = some fn) {ss:List (List Nat)} {K:AV->Option Bool} (hK:∀ x,K x=some true->x = .d (.bool true))
  {ak:List AV} {args:List Value} {w:World} (hA:ArgsRd (fun _=>none) (SW w) (look ([]:List (Nat × Ob))) w args ak) (h:vfnT C T fn ak [] (retF ss K)=some true)
  (hT:D5 T (UD (Q6 fn))=T.map fun e=>(e.r,e.c):=by kernel_rfl) (am:Xd (T.map (·.r))=true:=by rfl) :
  Calls P f args.toArray w fun e w'=>e = .returned (.bool true)/\RowKit.Below w.heap.size w w':=
 Q4K hK hA (SG hC hf hT am h)
end

end Go.Vx
