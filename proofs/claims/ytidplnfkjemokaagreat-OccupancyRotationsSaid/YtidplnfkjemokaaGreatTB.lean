/- Part of a proof. No conditions of their own. -/
import Derived.Test.YtidplnfkjemokaaGreatTA
import Derived.Lib.ConvBytes
import Derived.LoopN
import Derived.ProofKit
import Derived.ChangeOld
import Derived.Carry
import Derived.ChangeArms
import Derived.WideShapes
import Derived.IntWalk
import Derived.KernelRfl
set_option linter.unusedVariables false
set_option linter.unusedSimpArgs false
namespace Go.Vx
section
variable {P:Program} {E:Env} {R:Type}
theorem RO {α:Type}:∀ (n s:Nat) (l:List α),(C6 n s l).length=n
  | 0,_,_=>rfl
  | n+1,s,l=>by simp [C6,RO n]
theorem Q5G {α:Type}:∀ (n s:Nat) (l:List α) (i:Nat),i<n→(C6 n s l)[i]? = some ((l.drop (i*s)).take s)
  | n+1,s,l,0,_=>by simp [C6]
  | n+1,s,l,i+1,h=>by
    simp only [C6,List.getElem?_cons_succ]
    rw [Q5G n s _ i (by omega),List.drop_drop,Nat.add_comm s,Nat.succ_mul]
theorem Q7T {S:Nat→Prop} {w:World} {cs:Array Value} {n s:Nat} {ds:List D} (hlen:ds.length=n*s) (hsz:n*s≤cs.size) (hr:∀ (j:Nat) (x:D),ds[j]? = some x→∃ v,cs[j]? = some v∧Rd S w v x):JZ S w cs s (C6 n s ds):=by
  refine ⟨by rw [RO];omega,fun i r h=>?_,fun i j r x h1 h2=>?_⟩
  · have hi:i<n:=by have:=(List.getElem?_eq_some_iff.1 h).1;rw [RO] at this;exact this
    rw [Q5G n s ds i hi] at h
    injection h with h
    subst h
    have hmul:(i+1)*s≤n*s:=Nat.mul_le_mul_right _ (by omega)
    have hsucc:(i+1)*s=i*s+s:=Nat.succ_mul i _
    simp
    omega
  · have hi:i<n:=by have:=(List.getElem?_eq_some_iff.1 h1).1;rw [RO] at this;exact this
    rw [Q5G n s ds i hi] at h1
    injection h1 with h1
    subst h1
    rw [List.getElem?_take] at h2
    split at h2
    case isFalse=>cases h2
    rw [List.getElem?_drop] at h2
    exact hr _ x h2
theorem Qcy {β:Nat→Option Nat} {S:Nat→Prop} {st:St} {a:Act} {w:World} (hR:Rel E β S st a w) {site e s:Nat} {rows:List (List D)} {cs:Array Value} (hlk:look st.h site=none) (hc:Jo st site=true) (h:JZ S w cs s rows) :
    Rel E (Cp β site (some w.heap.size)) S ⟨st.n,st.tm,(site,.arr e s rows)::rem site st.h⟩ a (w.alloc (.cells cs e)):=by
  obtain ⟨h1,h2,h3⟩:=h
  refine hR.new hlk hc (.inr ⟨w.heap.size,cs,by simp [Cp],PW _ _,h1,h2,fun i j r x h4 h5=>?_⟩)
  obtain ⟨v,hv,hr⟩:=h3 i j r x h4 h5
  exact ⟨v,hv,hr.mono (fun _ hb=>hb) (fun b hb=>Zn _ _ (hR.hr.sb b hb))⟩
theorem Qak {tt:TT} (hT:TOk P tt) {o:Oper} {t:TypeId} (ho:o.op = .alloc t) {ev:Operand→AV} {hl:Nat→Option Ob} {site:Nat} {ti:TyI} (hti:look tt t=some ti) {e esz n:Nat} (hk:ti.kd = .array e esz n) (hzd:ti.zd.length=n*esz) (hn:hl site=none) :
    Re P E o ev hl ⟨.ap site 0 0,[]++[(site,some (.arr t esz (C6 n esz ti.zd)))],[]⟩:=by
  have hty:=hT t ti hti
  obtain ⟨inf,hinf,_,_,z,hz,hzc⟩:=hty.inf
  obtain ⟨_,_,_,hsize,_⟩:=hty.karr e esz n hk
  have hzs:z.cells.size=n*esz:=by rw [← Array.length_toList,hzc,hty.zlen];exact hsize
  intro β S st a w hR hO hA hcl K Q hK
  have hlk:look st.h site=none:=by rw [hA site (.inr (by simp [wrL]))];exact hn
  have hc:Jo st site=true:=by simpa [VJ,hlk] using hcl
  have hrows:JZ S w z.cells esz (C6 n esz ti.zd):=Q7T hzd (by omega) fun j x hx=>by
    obtain ⟨v,hv,hr⟩:=hty.zd (by omega) j x hx
    refine ⟨v,?_,hr S w⟩
    rw [← hzc] at hv
    simpa using hv
  have hrun:(execOp a.eval o).run P w = .ok (.value (.pointer (some ⟨w.heap.size,0,none⟩))) (w.alloc (.cells z.cells t)):=by
    unfold execOp;rw [ho]
    simp [Instr.alloc,zeroValue,ZI hinf,hz,newVar,newRow]
  unfold Oper.wp
  rw [hrun]
  refine hK _ _ ⟨Cp β site (some w.heap.size),S,Qcy hR hlk hc hrows,?_⟩
  have:=RdA.ap (β:=Cp β site (some w.heap.size)) (S:=S) (h:=look (Af st.h ([]++[(site,some (Ob.arr t esz (C6 n esz ti.zd)))]))) (w:=w.alloc (.cells z.cells t)) (tm:=tmv a) site 0 0 w.heap.size t esz (C6 n esz ti.zd) (by simp [Cp]) (by simp [Af,Jz])
  simpa using this
theorem A7 {α:Type} {l:List α} {n:Nat} {u:Unit} (h:Q8Q l n=some u):l.length=n:=by
  unfold Q8Q at h
  cases hb:Nat.beq l.length n with
  | false=>simp [hb] at h
  | true=>exact Nat.eq_of_beq_eq_true hb
theorem Q6B {tt:TT} (hT:TOk P tt) {o:Oper} {t:TypeId} {x i:Operand} (ho:o.op = .indexAddr t x i) {g:Bool} {ev:Operand→AV} {hl:Nat→Option Ob} {k:Dl→Option R} {r:R} {e esz n l:Nat} (hk:BM tt t = .array e esz n) (hex:ev x = .ap l 0 0)
    (h:AT g hl esz n l (ev i) k=some r):∃ dl,k dl=some r∧(g=true→Re P E o ev hl dl):=by
  have hmx:x∈o.op.operands.toList:=by simp [ho,Op.operands]
  have hmi:i∈o.op.operands.toList:=by simp [ho,Op.operands]
  obtain ⟨ti,hti,hkd⟩:=Z2 hk (by simp)
  obtain ⟨hu,hpos,⟨i0,hi0,hsz0⟩,_,_⟩:=(hT t ti hti).karr _ _ _ hkd
  unfold AT at h
  split at h
  case h_2=>cases h
  rename_i ik y e' s rows hei harr
  cases hb:Nat.beq s esz with
  | false=>simp [hb] at h
  | true=>
    obtain rfl:=Nat.eq_of_beq_eq_true hb
    simp only [hb,cond_true] at h
    obtain ⟨u,h,hin⟩:=Qc h
    refine ⟨_,h,fun hg=>QV fun β S st a w hR hO hA=>?_⟩
    obtain ⟨h0,h1⟩:=Qbn (hin hg)
    have hi:=(hei▸hO.at hmi).int_inv
    have hlk:look st.h l=some (.arr e' s rows):=by rw [hA l (.inl (by simp))];exact harr
    obtain ⟨b,hb',hx⟩:=RdA.ap_inv hlk (hex▸hO.at hmx)
    have hrun:(execOp a.eval o).run P w = .ok (.value (.pointer (some ⟨b,y.toNat*s,none⟩))) w:=by
      unfold execOp;rw [ho]
      simp [Instr.indexAt,hx,hi,asIntOf,Y5 hu,h0,h1,sizeOf,ZI hi0,hsz0,Instr.sureAddr,T8]
    refine ⟨_,hrun,?_⟩
    have:=RdA.ap (β:=β) (S:=S) (h:=look st.h) (w:=w) (tm:=tmv a) l y.toNat 0 b e' s rows hb' hlk
    simpa using this
theorem QaS {tt:TT} (hT:TOk P tt) {o:Oper} {t:TypeId} {x y:Operand} (ho:o.op = .store t x y) {ev:Operand→AV} {hl:Nat→Option Ob} {k:Dl→Option R} {r:R} {e esz n l:Nat} (hk:BM tt t = .array e esz n) (hex:ev x = .ap l 0 0)
    (h:QaP hl esz n l (ev y) k=some r):∃ dl,k dl=some r∧Re P E o ev hl dl:=by
  have hmx:x∈o.op.operands.toList:=by simp [ho,Op.operands]
  have hmy:y∈o.op.operands.toList:=by simp [ho,Op.operands]
  obtain ⟨ti,hti,hkd⟩:=Z2 hk (by simp)
  have hty:=hT t ti hti
  obtain ⟨hu,hpos,_,hsize,_⟩:=hty.karr _ _ _ hkd
  unfold QaP at h
  split at h
  case h_2=>cases h
  rename_i e' s rows harr
  cases hb:Nat.beq s esz with
  | false=>simp [hb] at h
  | true=>
    obtain rfl:=Nat.eq_of_beq_eq_true hb
    simp only [hb,cond_true] at h
    split at h
    case h_2=>cases h
    rename_i ds hds
    cases hb2:Nat.beq ds.length (n*s) with
    | false=>simp [hb2] at h
    | true=>
      have hdl:=Nat.eq_of_beq_eq_true hb2
      simp only [hb2,cond_true] at h
      obtain ⟨u,h,hlen⟩:=Qc h
      have hrl:=A7 (hlen rfl)
      refine ⟨_,h,?_⟩
      intro β S st a w hR hO hA hcl K Q hK
      have hlk:look st.h l=some (.arr e' s rows):=by rw [hA l (.inl (by simp))];exact harr
      obtain ⟨b,hb',hx⟩:=RdA.ap_inv hlk (hex▸hO.at hmx)
      have hav:=Q6F hds
      obtain ⟨c1,c2,c3⟩:=Ag (hO.at hmy) (by rw [hav];exact Q3J ds)
      rcases hR.hr.ob l _ hlk with ⟨hbn,_⟩ | ⟨b',cs,hb2',hw,hfit,hrs,hrd⟩
      · rw [hb'] at hbn;cases hbn
      obtain rfl:b=b':=by rw [hb'] at hb2';injection hb2'
      rw [hrl] at hfit
      have hvl:(a.eval y).cells.size=n*s:=by rw [c1,hav];simpa using hdl
      obtain ⟨w',hrun,hwr⟩:∃ w',(storeCells ⟨b,0,none⟩ (a.eval y).cells.toList 0).run P w = .ok () w'∧Wrote b (ND cs 0 (a.eval y).cells.toList) e' (0,0) w w':=
        Tw b 0 e' (0,0) _ 0 cs w hw (Qgo _) (by simp [hvl];omega) c3
      have hget:∀ j,(ND cs 0 (a.eval y).cells.toList)[j]? = if j<n*s then (a.eval y).cells[j]? else cs[j]?:=by
        intro j
        rw [FN _ _ _ _ (by simp [hvl];omega)]
        simp [hvl]
      unfold Oper.wp
      have hx':a.eval x = .pointer (some ⟨b,0,none⟩):=by simpa using hx
      rw [BI ho hx' (BU hty (by rw [hvl,hsize]) hrun)]
      have hlk':∀ k',look ((l,Ob.arr e' s (C6 n s ds))::rem l st.h) k'=if k'=l then some (.arr e' s (C6 n s ds)) else look st.h k':=fun k'=>Jz l k' _ st.h
      have hkeepl:Keep β (look st.h) w β (look ((l,.arr e' s (C6 n s ds))::rem l st.h)) w' l:=by
        refine ⟨rfl,fun h=>?_,fun e1 s1 rows1 h=>?_,fun b2 cs2 ty2 fz2 _ hb2 hw2=>?_⟩
        · rw [hlk] at h;cases h
        · rw [hlk] at h;cases h
          exact .inr ⟨C6 n s ds,by rw [hlk',if_pos rfl],by rw [RO];omega⟩
        · rw [hb'] at hb2;injection hb2 with e;subst e
          rw [hw] at hw2;injection hw2 with e;injection e with e1 e2 e3;subst e1
          exact ⟨_,_,_,hwr.blk,Vu _ _ _⟩
      refine hK undef _ ⟨β,S,hR.set hlk hb' hwr.oth hwr.os hwr.tape hwr.output hwr.size hkeepl (.inr ⟨b,_,hb',hwr.blk,?_⟩),.top _⟩
      have hSw:∀ c,S c→w'.heap[c]? = w.heap[c]?:=fun c hc=>hwr.oth c (fun e=>by subst e;exact hR.hr.apart l c (by simp [hlk]) hb' hc)
      have hrows:JZ S w (ND cs 0 (a.eval y).cells.toList) s (C6 n s ds):=by
        refine Q7T hdl (by rw [Vu];exact hfit) fun j d hd=>?_
        have hj:j<n*s:=by have:=(List.getElem?_eq_some_iff.1 hd).1;omega
        have h1:=hget j
        rw [if_pos hj] at h1
        rw [h1]
        refine ⟨_,JO (cs:=(a.eval y).cells) (by omega),?_⟩
        have h2:=c2 j (.d d) (by rw [hav,List.getElem?_map,hd];rfl)
        exact h2.d_inv
      obtain ⟨r1,r2,r3⟩:=hrows
      exact ⟨r1,r2,fun i j r x h4 h5=>by
        obtain ⟨v,hv,hr⟩:=r3 i j r x h4 h5
        exact ⟨v,hv,hr.mono (fun _ h=>h) hSw⟩⟩
theorem QdR {β:Nat→Option Nat} {S:Nat→Prop} {st:St} {a:Act} {w w':World} (hR:Rel E β S st a w) (hold:∀ b,b<w.heap.size→w'.heap[b]? = w.heap[b]?) (hsz:w'.heap.size=w.heap.size+1) (hos:w'.os=w.os) (htp:w'.tape=w.tape) (hou:w'.output=w.output):Rel E β (fun b=>S b∨b=w.heap.size) st a w':=by
  have:=hR.upd (w':=w') (β':=β) (S':=fun b=>S b∨b=w.heap.size) (H':=st.h) (fun _ h=>.inl h) (fun b hb=>hold b (hR.hr.sb b hb)) (fun _=>False)
    (fun l _=>⟨rfl,rfl,fun b hs hb=>hold b (NL hR hs hb)⟩) (fun l h=>h.elim) (fun l o h=>h.elim) hR.hr.inj
    (fun l b hs hb hS=>by
      rcases hS with hS | hS
      · exact hR.hr.apart l b hs hb hS
      · have:=NL hR hs hb;omega)
    hR.hr.own
    (fun b hS=>by
      rw [hsz]
      rcases hS with hS | hS
      · have:=hR.hr.sb b hS;omega
      · omega)
    (fun b hS=>by
      rcases hS with hS | hS
      · exact hR.hr.sfr b hS
      · right;right;have:=hR.hr.fr.size;omega)
    ⟨hos.trans hR.hr.fr.os,htp.trans hR.hr.fr.tape,hou.trans hR.hr.fr.output,by have:=hR.hr.fr.size;omega,fun b hb hm=>(hold b (Nat.lt_of_lt_of_le hb hR.hr.fr.size)).trans (hR.hr.fr.block b hb hm)⟩
  exact this
theorem Q8A {tt:TT} (hT:TOk P tt) {o:Oper} {s t:TypeId} {x:Operand} (ho:o.op = .convert s t x) {ev:Operand→AV} {hl:Nat→Option Ob} {e:Nat} {n:List UInt8}
    (hs:BM tt s = .str) (ht:BM tt t = .sl e 1) (he:BM tt e = .int .u8) (hx:ev x = .d (.str n)):Re P E o ev hl ⟨.d (.sl 1 (QcH n)),[],[]⟩:=by
  obtain ⟨ti,hti,hkd⟩:=Z2 hs (by simp)
  obtain ⟨ti',hti',hkd'⟩:=Z2 ht (by simp)
  obtain ⟨ti2,hti2,hkd2⟩:=Z2 he (by simp)
  have hus:=(hT s ti hti).kstr hkd
  have hut:=((hT t ti' hti').ksl _ _ hkd').1
  have hue:=(hT e ti2 hti2).kint _ hkd2
  intro β S st a w hR hO hA hcl K Q hK
  obtain ⟨b,hb,hv⟩:=(hx▸hO.at (x:=x) (by simp [ho,Op.operands])).str_inv
  have hrun:(execOp a.eval o).run P w = .ok (.value (.slice (some ⟨w.heap.size,0,none⟩) b.size (grownCap w b.size 0 e))) (Lib.bytesWorld w e b):=by
    unfold execOp;rw [ho]
    simp only [hv,Sem.run_bind,Lib.run_convert_string_bytes w s t e b hus hut hue,Result.andThen_ok]
    rfl
  unfold Oper.wp
  rw [hrun]
  have hcap:b.size≤grownCap w b.size 0 e:=grownCap_ge w b.size 0 e
  refine hK _ _ ⟨β,fun c=>S c∨c=w.heap.size,QdR hR (fun c hc=>Lib.bytesWorld_at_old w e b c hc) (Lib.bytesWorld_size w e b) rfl rfl rfl,.d _ _ ?_⟩
  have hlen:(QcH n).length=b.size:=by simp [QcH,hb]
  rw [← hlen]
  refine JZ.rd (cs:=Lib.bytesCells w e b) ⟨?_,?_,?_⟩ (Lib.bytesWorld_at_new w e b) (.inr rfl) (by rw [hlen];exact hcap)
  · rw [hlen];simp [Lib.bytesCells]
  · intro i r h
    simp only [QcH,List.getElem?_map,Option.map_eq_some_iff] at h
    obtain ⟨c,_,rfl⟩:=h
    rfl
  · intro i j r d h1 h2
    simp only [QcH,List.getElem?_map,Option.map_eq_some_iff] at h1
    obtain ⟨c,hc,rfl⟩:=h1
    cases j with
    | zero=>
      simp at h2
      subst h2
      have hi:i<b.size:=by have:=(List.getElem?_eq_some_iff.1 hc).1;rw [hb] at this;simpa using this
      refine ⟨.int .u8 (c.toNat:Int),?_,.int _ _⟩
      rw [hb] at hc
      have:b.data[i]? = some c:=by simpa using hc
      have hi2:i<b.data.size:=hi
      simp only [Lib.bytesCells,Nat.mul_one,Nat.add_zero]
      rw [Array.getElem?_append_left (by simpa using hi2),Array.getElem?_map,this]
      rfl
    | succ j=>simp at h2
theorem Q0T (n:Int):∀ (es:List MapEntry) (i:Nat),(∀ e∈es,∃ m,e.key = .int .i64 m) →
    (AW es n=none∧Instr.findNow (.int .i64) (.int .i64 n) es i=some none)∨∃ j v,AW es n=some v∧Instr.findNow (.int .i64) (.int .i64 n) es i=some (some (j,v))
  | [],i,_=>.inl ⟨rfl,rfl⟩
  | e::r,i,h=>by
    obtain ⟨m,hm⟩:=h e (List.mem_cons_self ..)
    simp only [AW,hm,Instr.findNow,Instr.sameNow,if_true]
    by_cases hmn:m=n
    · right
      subst hmn
      exact ⟨i,e.val,by simp,by simp⟩
    · have hb:(n == m)=false:=by rw [beq_eq_false_iff_ne];exact fun h=>hmn h.symm
      simp only [hb,hmn,if_false]
      exact Q0T n r (i+1) fun x hx=>h x (List.mem_cons_of_mem _ hx)
theorem RdA.mpd_inv {β:Nat→Option Nat} {S:Nat→Prop} {h:Nat→Option Ob} {w:World} {tm:Nat→Value} {v:Value} {f:Int→List (List D)} (hv:RdA β S h w tm v (.mpd f)):Qcf S w v f:=by
  cases hv with
  | mpd _ _ hm=>exact hm
  | dang _ _ l hl=>simp [Ha] at hl
theorem QaO {tt:TT} (hT:TOk P tt) {o:Oper} {t:TypeId} {m x:Operand} (ho:o.op = .lookup t m x false) {ev:Operand→AV} {hl:Nat→Option Ob} {f:Int→List (List D)} {n:Int}
    (ht:BM tt t = .mapI) (hm:ev m = .mpd f) (hx:ev x = .d (.int .i64 n)):Re P E o ev hl ⟨.d (.sl 1 (f n)),[],[]⟩:=by
  obtain ⟨ti,hti,hkd⟩:=Z2 ht (by simp)
  obtain ⟨K0,e,hu,hk,i,hi,hz⟩:=(hT t ti hti).kmap hkd
  intro β S st a w hR hO hA hcl K Q hK
  obtain ⟨b,es,clock,hv,hS,hb,hkeys,hn,hsome⟩:=(hm▸hO.at (x:=m) (by simp [ho,Op.operands])).mpd_inv
  have hxv:=(hx▸hO.at (x:=x) (by simp [ho,Op.operands])).int_inv
  have hz':(zeroValue e).run P w = .ok (.slice none 0 0) w:=by simp [zeroValue,ZI hi,hz]
  have hck:(Instr.checkKey es.isEmpty 10000 K0 (.int .i64 n)).run P w = .ok () w:=by
    rw [show (10000:Nat)=9999+1 from rfl,Instr.checkKey]
    simp only [Sem.run_bind,Y5 hk,Result.andThen_ok]
    rfl
  obtain ⟨v,hrun,hrd⟩:∃ v,(Instr.lookup t (.map (some b)) (.int .i64 n) false).run P w = .ok v w∧Rd S w v (.sl 1 (f n)):=by
    rcases Q0T n es.toList 0 hkeys with ⟨h1,h2⟩ | ⟨j,v,h1,h2⟩
    · refine ⟨.slice none 0 0,?_,by rw [hn n h1];exact .sl0 _ _ _⟩
      simp [Instr.lookup,Y5 hu,MapKept.run_getObj_map hb,hck,Instr.findKey,Y5 hk,h2,hz',Result.andThen]
    · refine ⟨v,?_,hsome n v h1⟩
      simp [Instr.lookup,Y5 hu,MapKept.run_getObj_map hb,hck,Instr.findKey,Y5 hk,h2,Result.andThen]
  unfold Oper.wp execOp
  rw [ho]
  simp only [hv,hxv,Sem.run_bind,hrun,Result.andThen_ok]
  exact hK _ _ ⟨β,S,hR,.d _ _ hrd⟩
end
section
variable {P:Program} {E:Env} {R:Type}
theorem Qau {s:List UInt8} {n b:Int} (h:TP s n=some b):0≤n∧∃ hlt:n.toNat<s.length,b=((s[n.toNat]'hlt).toNat:Int):=by
  unfold TP at h
  by_cases h0:0≤n
  · simp only [h0,decide_true,cond_true,Option.map_eq_some_iff] at h
    obtain ⟨c,hc,rfl⟩:=h
    obtain ⟨h1,h2⟩:=List.getElem?_eq_some_iff.1 hc
    exact ⟨h0,h1,by rw [h2]⟩
  · simp [h0] at h
theorem QcC {tt:TT} (hT:TOk P tt) {o:Oper} {t:TypeId} {x i:Operand} (ho:o.op = .index t x i) {g:Bool} {ev:Operand→AV} {hl:Nat→Option Ob} {k:Dl→Option R} {r:R}
    (h:Qe5 tt g t (ev x) (ev i) k=some r):∃ dl,k dl=some r∧(g=true→Re P E o ev hl dl):=by
  have hmx:x∈o.op.operands.toList:=by simp [ho,Op.operands]
  have hmi:i∈o.op.operands.toList:=by simp [ho,Op.operands]
  unfold Qe5 at h
  split at h
  case h_2=>cases h
  rename_i s ik n hk hex hei
  obtain ⟨ti,hti,hkd⟩:=Z2 hk (by simp)
  have hu:=(hT t ti hti).kstr hkd
  obtain ⟨b,h,hp⟩:=Qc h
  refine ⟨_,h,fun hg=>QV fun β S st a w hR hO hA=>?_⟩
  obtain ⟨bs,hs,hx⟩:=(hex▸hO.at hmx).str_inv
  have hi:=(hei▸hO.at hmi).int_inv
  obtain ⟨h0,hlt,hb⟩:=Qau (hp hg)
  have hsz:s.length=bs.size:=by rw [hs,Array.length_toList];rfl
  refine ⟨.int .u8 b,?_,.d _ _ (.int _ _)⟩
  unfold execOp;rw [ho]
  have:=run_index_string (P:=P) w t bs ik n hu
  rw [dif_pos ⟨h0,by omega⟩] at this
  simp only [hx,hi,Sem.run_bind,this,Result.andThen_ok]
  have e:((bs[n.toNat]'(by omega)).toNat:Int)=b:=by
    rw [hb]
    subst hs
    simp [ByteArray.getElem_eq_getElem_data]
  rw [e];rfl
theorem Hl {ev:Operand→AV} {β:Nat→Option Nat} {S:Nat→Prop} {h:Nat→Option Ob} {w:World} {tm:Nat→Value} {ρ:Operand→Value} {x:Option Operand} {n:Option Int} (hb:Q37 ev x=some n) (hx:∀ y,x=some y→RdA β S h w tm (ρ y) (ev y)) :
    (x=none∧n=none)∨∃ y k m,x=some y∧n=some m∧ρ y = .int k m:=by
  cases x with
  | none=>simp [Q37] at hb;exact .inl ⟨rfl,hb.symm⟩
  | some y=>
    simp only [Q37] at hb
    split at hb
    · rename_i k m hev
      simp at hb
      exact .inr ⟨y,k,m,rfl,hb.symm,(hev▸hx y rfl).int_inv⟩
    · cases hb
theorem Aa {len:Nat} {lo hi:Option Int} {q:Nat × Nat} (h:slB len lo hi=some q) :
    0≤lo.getD 0∧lo.getD 0≤hi.getD len∧hi.getD len≤len∧q=((lo.getD 0).toNat,(hi.getD len).toNat):=by
  unfold slB at h
  by_cases hc:0≤lo.getD 0∧lo.getD 0≤hi.getD len∧hi.getD len≤len
  · simp only [hc,decide_true,Bool.and_self,cond_true,Option.some.injEq] at h
    exact ⟨hc.1,hc.2.1,hc.2.2,h.symm⟩
  · have:(decide (0≤lo.getD 0)&&(decide (lo.getD 0≤hi.getD len)&&decide (hi.getD len≤len)))=false:=by
      simp only [Bool.and_eq_false_iff,decide_eq_false_iff_not]
      omega
    rw [this] at h;cases h
theorem Q3z (isSlice:Bool) {len cap:Nat} (hlc:len≤cap) {lo hi:Option Operand} {l h:Option Int} {ρ:Operand→Value} {w:World} {q:Nat × Nat} (hs:slB len l h=some q)
    (hlo:(lo=none∧l=none)∨∃ y k m,lo=some y∧l=some m∧ρ y = .int k m) (hhi:(hi=none∧h=none)∨∃ y k m,hi=some y∧h=some m∧ρ y = .int k m) :
    (Instr.sliceBounds isSlice len cap (lo.map ρ) (hi.map ρ) none).run P w = .ok (q.1,q.2,cap) w:=by
  obtain ⟨h1,h2,h3,rfl⟩:=Aa hs
  rcases hlo with ⟨rfl,rfl⟩ | ⟨y,k,m,rfl,rfl,hy⟩ <;> rcases hhi with ⟨rfl,rfl⟩ | ⟨y',k',m',rfl,rfl,hy'⟩ <;> simp only [Option.getD_none,Option.getD_some] at h1 h2 h3
  · simp [Instr.sliceBounds]
  · have e1:0≤m'∧m'≤(cap:Int):=by omega
    cases isSlice <;> simp [Instr.sliceBounds,hy',run_sliceBound_if,e1]
  · have e1:0≤m∧m≤(len:Int):=by omega
    simp [Instr.sliceBounds,hy,run_sliceBound_if,e1]
  · have e1:0≤m'∧m'≤(cap:Int):=by omega
    have e2:0≤m∧m≤((m'.toNat:Nat):Int):=by omega
    cases isSlice <;> simp [Instr.sliceBounds,hy,hy',run_sliceBound_if,e1,e2] <;> (intro hc;exfalso;omega)
theorem Q2N {α:Type} {l:List α} {q:Nat × Nat} {i:Nat} {a:α} (h:(cut l q)[i]? = some a):i<q.2-q.1∧l[q.1+i]? = some a:=by
  unfold cut at h
  rw [List.getElem?_take] at h
  split at h
  · rename_i hi;rw [List.getElem?_drop] at h;exact ⟨hi,h⟩
  · cases h
theorem Qei {o:Oper} {t:TypeId} {x:Operand} {lo hi:Option Operand} (ho:o.op = .slice t x lo hi none):x∈o.op.operands.toList∧(∀ y,lo=some y→y∈o.op.operands.toList)∧∀ y,hi=some y→y∈o.op.operands.toList:=by
  refine ⟨by simp [ho,Op.operands],fun y hy=>?_,fun y hy=>?_⟩ <;> subst hy <;> simp [ho,Op.operands]
theorem Qcn {tt:TT} (hT:TOk P tt) {o:Oper} {t:TypeId} {x:Operand} {lo hi:Option Operand} (ho:o.op = .slice t x lo hi none) {g:Bool} {ev:Operand→AV} {hl:Nat→Option Ob} {k:Dl→Option R} {r:R}
    (h:QdS tt g t (ev x) (Q37 ev lo) (Q37 ev hi) k=some r):∃ dl,k dl=some r∧(g=true→Re P E o ev hl dl):=by
  obtain ⟨hmx,hmlo,hmhi⟩:=Qei ho
  unfold QdS at h
  split at h
  case h_2=>cases h
  rename_i l' h' hlo hhi
  split at h
  · rename_i s hk hex
    obtain ⟨ti,hti,hkd⟩:=Z2 hk (by simp)
    have hu:=(hT t ti hti).kstr hkd
    obtain ⟨q,h,hp⟩:=Qc h
    refine ⟨_,h,fun hg=>QV fun β S st a w hR hO hA=>?_⟩
    obtain ⟨bs,hs,hx⟩:=(hex▸hO.at hmx).str_inv
    have hsz:s.length=bs.size:=by rw [hs,Array.length_toList];rfl
    have hb:=Q3z (P:=P) false (len:=s.length) (cap:=s.length) (Nat.le_refl _) (ρ:=a.eval) (w:=w) (hp hg) (Hl hlo fun y hy=>hO.at (hmlo y hy)) (Hl hhi fun y hy=>hO.at (hmhi y hy))
    rw [hsz] at hb
    refine ⟨.string (bs.extract q.1 q.2),?_,.d _ _ ?_⟩
    · unfold execOp;rw [ho]
      simp only [hx,Sem.run_bind,run_sliceAt_string w t _ _ _ _ hu,Option.map_none]
      simp only [Instr.slice,Sem.run_bind,Y5 hu,Result.andThen_ok,hb,Option.isSome_none,Bool.false_eq_true,if_false]
      rfl
    · have:cut s q=(bs.extract q.1 q.2).data.toList:=by
        rw [hs];simp [cut,ByteArray.data_extract]
      rw [this];exact .str _
  · rename_i e esz s rows hk hex
    cases hb:Nat.beq s esz with
    | false=>simp [hb] at h
    | true=>
      simp only [hb,cond_true] at h
      obtain rfl:=Nat.eq_of_beq_eq_true hb
      obtain ⟨ti,hti,hkd⟩:=Z2 hk (by simp)
      obtain ⟨hu,hpos,inf,hinf,hsz⟩:=(hT t ti hti).ksl _ _ hkd
      obtain ⟨q,h,hp⟩:=Qc h
      refine ⟨_,h,fun hg=>QV fun β S st a w hR hO hA=>?_⟩
      have hrd:=(hex▸hO.at hmx).d_inv
      have hq:=Aa (hp hg)
      have hrun:∀ (ad:Option Addr) (cap:Nat),rows.length≤cap→a.eval x = .slice ad rows.length cap→(execOp a.eval o).run P w = .ok (.value (.slice (if cap=q.1 then ad else ad.map (·.add (q.1*s))) (q.2-q.1) (cap-q.1))) w:=by
        intro ad cap hc hx
        have hb:=Q3z (P:=P) true hc (ρ:=a.eval) (w:=w) (hp hg) (Hl hlo fun y hy=>hO.at (hmlo y hy)) (Hl hhi fun y hy=>hO.at (hmhi y hy))
        unfold execOp;rw [ho]
        simp only [hx,Sem.run_bind,Instr.sliceAt,Y5 hu,Result.andThen_ok,Option.map_none]
        simp only [Instr.slice,Sem.run_bind,Y5 hu,Result.andThen_ok,hb,sizeOf,ZI hinf,hsz]
        rfl
      have hcl:(cut rows q).length=q.2-q.1:=by
        unfold cut;rw [hq.2.2.2];simp;omega
      generalize hv:a.eval x=v at hrd hrun
      cases hrd with
      | sl0 ad cap _=>
        refine ⟨_,hrun ad cap (Nat.zero_le _) rfl,.d _ _ ?_⟩
        have:cut ([]:List (List D)) q=[]:=by simp [cut]
        rw [this]
        have h0:q.2-q.1=0:=by rw [this] at hcl;simpa using hcl.symm
        rw [h0]
        exact .sl0 _ _ _
      | sl ad cap _ _ c hS hcap hszr hc hr=>
        refine ⟨_,hrun (some ad) cap hcap rfl,.d _ _ ?_⟩
        by_cases h0:q.2-q.1=0
        · have:cut rows q=[]:=List.eq_nil_of_length_eq_zero (by rw [hcl,h0])
          rw [this,h0]
          exact .sl0 _ _ _
        · have hne:cap≠q.1:=by
            have:=hq.2.2.1
            have:=hq.2.2.2
            have h1:q.2≤rows.length:=by rw [this];simp;omega
            omega
          rw [if_neg hne,← hcl]
          refine Rd.sl (ad.add (q.1*s)) (cap-q.1) s (cut rows q) (fun i j=>c (q.1+i) j) (by rw [Hj];exact hS) ?_ ?_ ?_ ?_
          · rw [hcl]
            have:=hq.2.2.2
            have h1:q.2≤rows.length:=by rw [this];simp;omega
            omega
          · intro i r hr';exact hszr _ _ (Q2N hr').2
          · intro i j r y hr' hy
            have:=hc (q.1+i) j r y (Q2N hr').2 hy
            rw [Q5D,← Nat.add_assoc,← Nat.add_mul]
            exact this
          · intro i j r y hr' hy;exact hr (q.1+i) j r y (Q2N hr').2 hy
  · rename_i e esz hk hex
    obtain ⟨ti,hti,hkd⟩:=Z2 hk (by simp)
    obtain ⟨hu,hpos,inf,hinf,hsz⟩:=(hT t ti hti).ksl _ _ hkd
    obtain ⟨q,h,hp⟩:=Qc h
    refine ⟨_,h,fun hg=>QV fun β S st a w hR hO hA=>?_⟩
    have hx:=(hex▸hO.at hmx).nil_inv
    have hq:=Aa (hp hg)
    have hb:=Q3z (P:=P) true (Nat.le_refl 0) (ρ:=a.eval) (w:=w) (hp hg) (Hl hlo fun y hy=>hO.at (hmlo y hy)) (Hl hhi fun y hy=>hO.at (hmhi y hy))
    have h0:q.2-q.1=0:=by
      obtain ⟨q1,q2,q3,q4⟩:=hq
      rw [q4]
      show (h'.getD ((0:Nat):Int)).toNat-(l'.getD 0).toNat=0
      omega
    refine ⟨.slice none 0 (0-q.1),?_,.d _ _ (.sl0 _ _ _)⟩
    unfold execOp;rw [ho]
    simp only [hx,Sem.run_bind,Instr.sliceAt,Y5 hu,Result.andThen_ok,Option.map_none]
    simp only [Instr.slice,Sem.run_bind,Y5 hu,Result.andThen_ok,hb,sizeOf,ZI hinf,hsz,h0,Option.map_none,ite_self]
    rfl
  · cases h
theorem Q9I {len:Nat} {lo hi mx:Option Int} {q:Nat × Nat} (h:QhU len lo hi mx=some q):∃ m,hi=some m∧mx=some m∧slB len lo (some m)=some q:=by
  unfold QhU at h
  split at h
  · rename_i a b
    cases hd:decide (a=b) with
    | false=>rw [hd] at h;cases h
    | true=>
      rw [hd] at h
      have:=of_decide_eq_true hd
      subst this
      exact ⟨a,rfl,rfl,h⟩
  · cases h
theorem Q6g {len cap:Nat} (hlc:len≤cap) {lo:Option Operand} {yh ym:Operand} {l:Option Int} {m:Int} {kh km:IntKind} {ρ:Operand→Value} {w:World} {q:Nat × Nat} (hs:slB len l (some m)=some q)
    (hlo:(lo=none∧l=none)∨∃ y k m,lo=some y∧l=some m∧ρ y = .int k m) (hh:ρ yh = .int kh m) (hm:ρ ym = .int km m) :
    (Instr.sliceBounds true len cap (lo.map ρ) (some (ρ yh)) (some (ρ ym))).run P w = .ok (q.1,q.2,q.2) w:=by
  obtain ⟨h1,h2,h3,rfl⟩:=Aa hs
  simp only [Option.getD_some] at h2 h3
  have e1:0≤m∧m≤(cap:Int):=by
    rcases hlo with ⟨rfl,rfl⟩ | ⟨y,k,a,rfl,rfl,hy⟩ <;> simp only [Option.getD_none,Option.getD_some] at h1 h2 <;> omega
  have e2:0≤m∧m≤((m.toNat:Nat):Int):=by omega
  rcases hlo with ⟨rfl,rfl⟩ | ⟨y,k,a,rfl,rfl,hy⟩
  · simp [Instr.sliceBounds,hh,hm,run_sliceBound_if,e1]
    try (intro hc;exfalso;omega)
  · simp only [Option.getD_some] at h1 h2
    have e3:0≤a∧a≤((m.toNat:Nat):Int):=by omega
    simp [Instr.sliceBounds,hh,hm,hy,run_sliceBound_if,e1,e3]
    rw [if_pos (by omega),if_pos (by omega)]
theorem QcF {o:Oper} {t:TypeId} {x mx:Operand} {lo hi:Option Operand} (ho:o.op = .slice t x lo hi (some mx)):x∈o.op.operands.toList∧(∀ y,lo=some y→y∈o.op.operands.toList)∧(∀ y,hi=some y→y∈o.op.operands.toList)∧mx∈o.op.operands.toList:=by
  refine ⟨by simp [ho,Op.operands],fun y hy=>?_,fun y hy=>?_,by simp [ho,Op.operands]⟩ <;> subst hy <;> simp [ho,Op.operands]
theorem Qam {tt:TT} (hT:TOk P tt) {o:Oper} {t:TypeId} {x mx:Operand} {lo hi:Option Operand} (ho:o.op = .slice t x lo hi (some mx)) {g:Bool} {ev:Operand→AV} {hl:Nat→Option Ob} {k:Dl→Option R} {r:R}
    (h:Qay tt g t (ev x) (Q37 ev lo) (Q37 ev hi) (Q37 ev (some mx)) k=some r):∃ dl,k dl=some r∧(g=true→Re P E o ev hl dl):=by
  obtain ⟨hmx,hmlo,hmhi,hmm⟩:=QcF ho
  unfold Qay at h
  split at h
  case h_2=>cases h
  rename_i l' h' m' hlo hhi hmo
  split at h
  · rename_i e esz s rows hk hex
    cases hb:Nat.beq s esz with
    | false=>simp [hb] at h
    | true=>
      simp only [hb,cond_true] at h
      obtain rfl:=Nat.eq_of_beq_eq_true hb
      obtain ⟨ti,hti,hkd⟩:=Z2 hk (by simp)
      obtain ⟨hu,hpos,inf,hinf,hsz⟩:=(hT t ti hti).ksl _ _ hkd
      obtain ⟨q,h,hp⟩:=Qc h
      refine ⟨_,h,fun hg=>QV fun β S st a w hR hO hA=>?_⟩
      have hrd:=(hex▸hO.at hmx).d_inv
      obtain ⟨m,rfl,rfl,hsb⟩:=Q9I (hp hg)
      have hq:=Aa hsb
      rcases Hl hhi fun y hy=>hO.at (hmhi y hy) with ⟨_,hn⟩ | ⟨yh,kh,mh,rfl,e1,hyh⟩
      · cases hn
      rcases Hl hmo fun y hy=>hO.at (by injection hy with hy;subst hy;exact hmm) with ⟨_,hn⟩ | ⟨ym,km,mm,e3,e2,hym⟩
      · cases hn
      injection e1 with e1
      injection e2 with e2
      injection e3 with e3
      subst e1 e2 e3
      have hrun:∀ (ad:Option Addr) (cap:Nat),rows.length≤cap→a.eval x = .slice ad rows.length cap→(execOp a.eval o).run P w = .ok (.value (.slice (if q.2=q.1 then ad else ad.map (·.add (q.1*s))) (q.2-q.1) (q.2-q.1))) w:=by
        intro ad cap hc hx
        have hb:=Q6g (P:=P) hc (ρ:=a.eval) (w:=w) hsb (Hl hlo fun y hy=>hO.at (hmlo y hy)) hyh hym
        unfold execOp;rw [ho]
        simp only [hx,Sem.run_bind,Instr.sliceAt,Y5 hu,Result.andThen_ok,Option.map_some]
        simp only [Instr.slice,Sem.run_bind,Y5 hu,Result.andThen_ok,hb,sizeOf,ZI hinf,hsz]
        rfl
      have hq2:q.2≤rows.length:=by
        have h3:=hq.2.2.1
        rw [hq.2.2.2];simp only [Option.getD_some] at h3 ⊢;omega
      have hcl:(cut rows q).length=q.2-q.1:=by
        unfold cut;simp;omega
      generalize hv:a.eval x=v at hrd hrun
      have hfin:∀ (ad:Option Addr),Rd S w (.slice ad (q.2-q.1) (q.2-q.1)) (.sl s (cut rows q))→RdA β S (look st.h) w (tmv a) (.slice ad (q.2-q.1) (q.2-q.1)) (.fs s (cut rows q)):=by
        intro ad hr
        have:=RdA.fs (β:=β) (h:=look st.h) (tm:=tmv a) ad s (cut rows q) (by rw [hcl];exact hr)
        rw [hcl] at this
        exact this
      cases hrd with
      | sl0 ad cap _=>
        refine ⟨_,hrun ad cap (Nat.zero_le _) rfl,hfin _ ?_⟩
        have:cut ([]:List (List D)) q=[]:=by simp [cut]
        rw [this]
        have h0:q.2-q.1=0:=by rw [this] at hcl;simpa using hcl.symm
        rw [h0]
        exact .sl0 _ _ _
      | sl ad cap _ _ c hS hcap hszr hc hr=>
        refine ⟨_,hrun (some ad) cap hcap rfl,hfin _ ?_⟩
        by_cases h0:q.2-q.1=0
        · have:cut rows q=[]:=List.eq_nil_of_length_eq_zero (by rw [hcl,h0])
          rw [this,h0]
          exact .sl0 _ _ _
        · have hne:q.2≠q.1:=by omega
          rw [if_neg hne]
          have:=Rd.sl (S:=S) (w:=w) (ad.add (q.1*s)) (q.2-q.1) s (cut rows q) (fun i j=>c (q.1+i) j) (by rw [Hj];exact hS) (by rw [hcl];exact Nat.le_refl _) (fun i r hr'=>hszr _ _ (Q2N hr').2) (fun i j r y hr' hy=>by
            have:=hc (q.1+i) j r y (Q2N hr').2 hy
            rw [Q5D,← Nat.add_assoc,← Nat.add_mul]
            exact this) (fun i j r y hr' hy=>hr (q.1+i) j r y (Q2N hr').2 hy)
          rw [hcl] at this
          exact this
  · rename_i e esz hk hex
    obtain ⟨ti,hti,hkd⟩:=Z2 hk (by simp)
    obtain ⟨hu,hpos,inf,hinf,hsz⟩:=(hT t ti hti).ksl _ _ hkd
    obtain ⟨q,h,hp⟩:=Qc h
    refine ⟨_,h,fun hg=>QV fun β S st a w hR hO hA=>?_⟩
    have hx:=(hex▸hO.at hmx).nil_inv
    obtain ⟨m,rfl,rfl,hsb⟩:=Q9I (hp hg)
    have hq:=Aa hsb
    rcases Hl hhi fun y hy=>hO.at (hmhi y hy) with ⟨_,hn⟩ | ⟨yh,kh,mh,rfl,e1,hyh⟩
    · cases hn
    rcases Hl hmo fun y hy=>hO.at (by injection hy with hy;subst hy;exact hmm) with ⟨_,hn⟩ | ⟨ym,km,mm,e3,e2,hym⟩
    · cases hn
    injection e1 with e1
    injection e2 with e2
    injection e3 with e3
    subst e1 e2 e3
    have hb:=Q6g (P:=P) (Nat.le_refl 0) (ρ:=a.eval) (w:=w) hsb (Hl hlo fun y hy=>hO.at (hmlo y hy)) hyh hym
    have h0:q.2-q.1=0:=by
      obtain ⟨q1,q2,q3,q4⟩:=hq
      rw [q4]
      simp only [Option.getD_some] at q2 q3 ⊢
      omega
    refine ⟨.slice none 0 0,?_,.fs none _ [] (.sl0 _ _ _)⟩
    unfold execOp;rw [ho]
    simp only [hx,Sem.run_bind,Instr.sliceAt,Y5 hu,Result.andThen_ok,Option.map_some]
    simp only [Instr.slice,Sem.run_bind,Y5 hu,Result.andThen_ok,hb,sizeOf,ZI hinf,hsz,h0,Option.map_none,ite_self]
    rfl
  · cases h
end

section
variable {P:Program} {E:Env} {R:Type}
theorem QeZ {tt:TT} (hT:TOk P tt) {o:Oper} {c:Call} {x:Operand} {t:Nat} (ho:o.op = .call c) (hc:c.callee = .builtin .len) (ha:c.args.toList=[x]) (hat:c.argTypes.toList=[t]) {ev:Operand→AV} {hl:Nat→Option Ob} {n:Int} {rd:List Nat}
    (h:Qi6 tt hl t (ev x)=some (n,rd)):Re P E o ev hl ⟨.d (.int .i64 n),[],rd⟩:=by
  have hargs:c.args = #[x]:=by rw [← Array.toList_inj];simpa using ha
  have hmem:x∈o.op.operands.toList:=by simp [ho,Op.operands,Call.operands,hc,hargs]
  unfold Qi6 at h
  split at h
  · rename_i e esz hk
    split at h
    · rename_i s rows hev
      cases h
      refine QV fun β S st a w hR hO hA=>?_
      obtain ⟨ad,cap,hx⟩:=(hev▸hO.at hmem).d_inv.len
      exact ⟨_,NR hT ho hc ha hat hk hx,.d _ _ (.int _ _)⟩
    · rename_i hev
      cases h
      refine QV fun β S st a w hR hO hA=>?_
      have hx:=(hev▸hO.at hmem).nil_inv
      exact ⟨_,NR hT ho hc ha hat hk hx,.d _ _ (.int _ _)⟩
    · rename_i l hev
      split at h
      · rename_i e' s rows harr
        cases h
        refine QV fun β S st a w hR hO hA=>?_
        have hlk:look st.h l=some (.arr e' s rows):=by rw [hA l (.inl (by simp))];exact harr
        rcases RdA.arr_inv hlk (hev▸hO.at hmem) with ⟨_,rfl,hx⟩ | ⟨b,cap,cs,ty,fz,_,hx,_⟩
        · exact ⟨_,NR hT ho hc ha hat hk hx,.d _ _ (.int _ _)⟩
        · exact ⟨_,NR hT ho hc ha hat hk hx,.d _ _ (.int _ _)⟩
      · cases h
    · cases h
  · rename_i hk
    split at h
    · rename_i s hev
      cases h
      refine QV fun β S st a w hR hO hA=>?_
      have hx:=(hev▸hO.at hmem).d_inv
      generalize hy:a.eval x=y at hx
      cases hx with
      | str s'=>
        refine ⟨_,QaK hT ho hc ha hat hk hy,?_⟩
        have:s'.data.toList.length=s'.size:=by show s'.data.toList.length=s'.data.size;exact Array.length_toList
        rw [this]
        exact .d _ _ (.int _ _)
    · cases h
  · cases h
theorem Q7D {ρ:Operand→Value} {ev:Operand→AV} {β:Nat→Option Nat} {S:Nat→Prop} {h:Nat→Option Ob} {w:World} {tm:Nat→Value} (isMin:Bool) :
    ∀ (r:List Operand) (av v:AV) (u:Value),RdA β S h w tm u av→(∀ x∈r,RdA β S h w tm (ρ x) (ev x))→Q5f isMin av (r.map ev)=some v →
      ∃ u',((r.map ρ).foldlM (if isMin then Builtin.min2 else Builtin.max2) u:Sem Value).run P w = .ok u' w∧RdA β S h w tm u' v
  | [],av,v,u,hu,_,hm=>by
    simp [Q5f] at hm
    subst hm
    exact ⟨u,by simp,hu⟩
  | x::r,av,v,u,hu,hr,hm=>by
    simp only [List.map_cons] at hm
    unfold Q5f at hm
    split at hm
    · rename_i h1;cases h1
    · rename_i k a k' b r' heq
      injection heq with h1 h2
      cases hk:(k == k') with
      | false=>simp [hk] at hm
      | true=>
        obtain rfl:k=k':=by simpa using hk
        simp only [hk,cond_true] at hm
        have hxv:=(h1▸hr x (by simp)).int_inv
        have huv:=hu.int_inv
        subst h2
        obtain ⟨u',g1,g2⟩:=Q7D isMin r _ v (.int k (bif isMin then (if b<a then b else a) else (if a<b then b else a))) (.d _ _ (.int _ _)) (fun y hy=>hr y (by simp [hy])) hm
        refine ⟨u',?_,g2⟩
        simp only [List.map_cons,List.foldlM_cons,Sem.run_bind,huv,hxv]
        cases isMin with
        | true=>simp only [if_true,Builtin.min2,Sem.run_pure,Result.andThen_ok] at g1 ⊢;exact g1
        | false=>simp only [Bool.false_eq_true,if_false,Builtin.max2,Sem.run_pure,Result.andThen_ok] at g1 ⊢;exact g1
    · cases hm
theorem Q5X {o:Oper} {c:Call} {x:Operand} {r:List Operand} {isMin:Bool} (ho:o.op = .call c) (hc:c.callee = .builtin (if isMin then .min else .max)) (ha:c.args.toList=x::r) {ev:Operand→AV} {hl:Nat→Option Ob} {v:AV}
    (h:Q5f isMin (ev x) (r.map ev)=some v):Re P E o ev hl ⟨v,[],[]⟩:=by
  have hmem:∀ y,y∈c.args.toList→y∈o.op.operands.toList:=by
    intro y hy
    simp only [ho,Op.operands,Call.operands,hc]
    simpa using hy
  refine QV fun β S st a w hR hO hA=>?_
  obtain ⟨u,g1,g2⟩:=Q7D (P:=P) (ρ:=a.eval) isMin r (ev x) v (a.eval x) (hO.at (hmem x (by simp [ha]))) (fun y hy=>hO.at (hmem y (by simp [ha,hy]))) h
  refine ⟨u,?_,g2⟩
  have hlist:(c.args.map a.eval).toList=a.eval x::r.map a.eval:=by rw [Array.toList_map,ha];rfl
  unfold execOp;rw [ho]
  cases isMin with
  | true=>
    simp only [if_true] at hc g1
    simp only [resolve,hc,invoke,builtin,Builtin.min_,Sem.run_bind,Sem.run_pure,Result.andThen_ok,hlist,g1]
  | false=>
    simp only [Bool.false_eq_true,if_false] at hc g1
    simp only [resolve,hc,invoke,builtin,Builtin.max_,Sem.run_bind,Sem.run_pure,Result.andThen_ok,hlist,g1]
theorem Q8i {o:Oper} {f:Nat} {first captured:Array Operand} (ho:o.op = .makeFunc (.func f) first captured) (hf:first.toList=[]) {ev:Operand→AV} {hl:Nat→Option Ob}:Re P E o ev hl ⟨.fn f (captured.toList.map ev),[],[]⟩:=by
  refine QV fun β S st a w hR hO hA=>⟨.func (.func f) #[] (captured.map a.eval),?_,.fn f _ _ (by simp) fun i x hx=>?_⟩
  · have:first = #[]:=by apply Array.ext';simpa using hf
    subst this
    unfold execOp;rw [ho]
    simp [Instr.makeFunc]
  · simp only [List.getElem?_map,Option.map_eq_some_iff] at hx
    obtain ⟨y,hy,rfl⟩:=hx
    have hmem:y∈o.op.operands.toList:=by
      have:y∈captured.toList:=List.mem_of_getElem? hy
      simp only [ho,Op.operands]
      simp at this
      simp [this]
    have hg:(captured.map a.eval).getD i undef=a.eval y:=by
      rw [Array.getElem?_toList] at hy
      rw [Array.getD_eq_getD_getElem?,Array.getElem?_map,hy];rfl
    rw [hg]
    exact hO.at hmem
theorem Q2x {spec:Q9K} {tt:TT} (hS:Q1P P spec) (hT:TOk P tt) {o:Oper} {site:Nat} {g u:Bool} {ev:Operand→AV} {hl:Nat→Option Ob} {k:Dl→Option R} {r:R}
    (h:vdl spec tt site g u ev hl o.op k=some r):∃ dl,k dl=some r∧(g=true→Re P E o ev hl dl):=by
  cases ho:o.op with
  | move x=>rw [ho] at h;simp only [vdl] at h;exact ⟨_,h,fun _=>Qag (.inl ho)⟩
  | assign x=>rw [ho] at h;simp only [vdl] at h;exact ⟨_,h,fun _=>Qag (.inr ho)⟩
  | pick c x y=>
    rw [ho] at h;simp only [vdl] at h
    cases c with
    | tmp s=>
      simp only at h
      split at h
      · rename_i e he
        split at h
        · rename_i a b hx hy
          exact ⟨_,h,fun _=>QdI ho he hx hy⟩
        · cases h
      · cases h
    | _=>simp at h
  | alloc t=>
    rw [ho] at h;simp only [vdl] at h
    split at h
    · rename_i ti hti
      cases u with
      | false=>simp at h
      | true=>
        simp only [cond_true] at h
        split at h
        · rename_i e esz n hk
          cases hb:Nat.beq ti.zd.length (n*esz) with
          | false=>simp [hb] at h
          | true=>
            simp only [hb,cond_true] at h
            obtain ⟨hn,h⟩:=T9 h
            exact ⟨_,h,fun _=>Qak hT ho hti hk (Nat.eq_of_beq_eq_true hb) hn⟩
        · obtain ⟨hn,h⟩:=T9 h
          exact ⟨_,h,fun _=>Qcb hT ho hti hn⟩
    · cases h
  | box t x=>
    rw [ho] at h;simp only [vdl] at h
    split at h
    · rename_i ti hti
      cases hc:(u&&(Nat.beq (YH (ev x)).length ti.size&&(YH (ev x)).all Q76)) with
      | false=>simp [hc] at h
      | true=>
        simp only [hc,cond_true] at h
        simp only [Bool.and_eq_true] at hc
        obtain ⟨hn,h⟩:=T9 h
        exact ⟨_,h,fun _=>QeO ho hc.2.2 hn⟩
    · cases h
  | build t parts=>
    rw [ho] at h;simp only [vdl] at h
    split at h
    · rename_i ti hti
      cases hs:G1 ti.kd with
      | false=>simp [hs] at h
      | true=>
        simp only [hs,cond_true] at h
        split at h
        · rename_i cs hcs
          exact ⟨_,h,fun _=>QcL hT ho hti hs hcs⟩
        · cases h
    · cases h
  | buildSlice t len parts=>
    rw [ho] at h;simp only [vdl] at h
    obtain ⟨dl,h1,h2⟩:=QaU hT ho h
    exact ⟨dl,h1,fun _=>h2⟩
  | load t x=>rw [ho] at h;simp only [vdl] at h;exact Qdk hT ho h
  | store t x y=>
    rw [ho] at h;simp only [vdl] at h
    cases u with
    | false=>simp at h
    | true=>
      simp only [cond_true] at h
      split at h
      · rename_i e esz n l hk hex
        obtain ⟨dl,h1,h2⟩:=QaS hT ho hk hex h
        exact ⟨dl,h1,fun _=>h2⟩
      · obtain ⟨dl,h1,h2⟩:=QcK hT ho h
        exact ⟨dl,h1,fun _=>h2⟩
  | nilCheck x=>
    rw [ho] at h;simp only [vdl] at h
    split at h
    · rename_i l o' hv;exact ⟨_,h,fun _=>Q2W ho hv⟩
    · rename_i l o' hv;exact ⟨_,h,fun _=>Q4R ho hv⟩
    · rename_i l i o' hv
      split at h
      · rename_i ob hob
        exact ⟨_,h,fun _=>Q4H ho (by simp [hob]) hv⟩
      · cases h
    · cases h
  | binOp op t x y t'=>rw [ho] at h;simp only [vdl] at h;exact QeF hT ho h
  | unOp op t x=>
    rw [ho] at h;simp only [vdl] at h
    split at h
    · rename_i v hv;exact ⟨_,h,fun _=>Qgb ho hv⟩
    · cases h
  | convert s t x=>
    rw [ho] at h;simp only [vdl] at h
    split at h
    · rename_i ks kd h1 h2
      split at h
      · rename_i kn n h3;exact ⟨_,h,fun _=>Q9M hT ho h1 h2 h3⟩
      · cases h
    · rename_i e h1 h2
      split at h
      · rename_i h3
        split at h
        · rename_i rows rd h4;exact Qch hT ho h1 h2 h3 h4 h
        · cases h
      · cases h
    · rename_i h1 h2
      split at h
      · rename_i n h3;exact ⟨_,h,fun _=>Q8J hT ho h1 h2 h3⟩
      · cases h
    · rename_i e h1 h2
      split at h
      · rename_i h3
        split at h
        · rename_i n h4;exact ⟨_,h,fun _=>Q8A hT ho h1 h2 h3 h4⟩
        · cases h
      · cases h
    · cases h
  | lookup t m x c=>
    rw [ho] at h
    cases c with
    | true=>simp [vdl] at h
    | false=>
      simp only [vdl] at h
      split at h
      · rename_i f n ht hm hx
        exact ⟨_,h,fun _=>QaO hT ho ht hm hx⟩
      · cases h
  | makeFunc f first captured=>
    rw [ho] at h
    cases f with
    | func f=>
      simp only [vdl] at h
      split at h
      · rename_i hfirst
        cases hc:Hb (captured.toList.map ev) with
        | false=>simp [hc] at h
        | true=>
          simp only [hc,cond_true] at h
          exact ⟨_,h,fun _=>Q8i ho hfirst⟩
      · cases h
    | _=>simp [vdl] at h
  | makeSlice t l c=>
    rw [ho] at h;simp only [vdl] at h
    obtain ⟨dl,h1,h2⟩:=Qem hT ho h
    exact ⟨dl,h1,fun _=>h2⟩
  | fieldAddr t x f=>
    rw [ho] at h;simp only [vdl] at h
    obtain ⟨dl,h1,h2⟩:=Q71 hT ho h
    exact ⟨dl,h1,fun _=>h2⟩
  | field t x f=>rw [ho] at h;simp only [vdl] at h;exact QcD hT ho h
  | indexAddr t x i=>
    rw [ho] at h;simp only [vdl] at h
    split at h
    · rename_i e esz n l hk hex;exact Q6B hT ho hk hex h
    · exact Q6K hT ho h
  | index t x i=>rw [ho] at h;simp only [vdl] at h;exact QcC hT ho h
  | slice t x lo hi mx=>
    rw [ho] at h
    cases mx with
    | none=>simp only [vdl] at h;exact Qcn hT ho h
    | some mx=>simp only [vdl] at h;exact Qam hT ho h
  | extract x i=>
    rw [ho] at h;simp only [vdl] at h
    split at h
    · rename_i l hx
      split at h
      · rename_i v hv;exact ⟨_,h,fun _=>Q8U ho hx hv⟩
      · cases h
    · cases h
  | call c=>
    rw [ho] at h;simp only [vdl] at h
    split at h
    · rename_i f hc;exact Q96 hS (Qcm ho hc) h
    · rename_i t hc
      split at h
      · rename_i f cap hev;exact Q96 hS (Qcv ho hc hev) h
      · cases h
    · rename_i hc
      split at h
      · rename_i x t ha hat
        split at h
        · rename_i n rd hn;exact ⟨_,h,fun _=>QeZ hT ho hc ha hat hn⟩
        · cases h
      · cases h
    · rename_i hc
      split at h
      · rename_i s x t t' ha hat
        cases hb:Nat.beq t t' with
        | false=>simp [hb] at h
        | true=>
          simp only [hb,cond_true] at h
          obtain rfl:=Nat.eq_of_beq_eq_true hb
          exact Qb0 hT ho hc ha hat h
      · cases h
    · rename_i hc
      split at h
      · rename_i x r' ha
        split at h
        · rename_i v hv;exact ⟨_,h,fun _=>Q5X (isMin:=true) ho hc ha hv⟩
        · cases h
      · cases h
    · rename_i hc
      split at h
      · rename_i x r' ha
        split at h
        · rename_i v hv;exact ⟨_,h,fun _=>Q5X (isMin:=false) ho hc ha hv⟩
        · cases h
      · cases h
    · cases h
  | _=>rw [ho] at h;simp [vdl] at h
end

section
variable {P:Program} {E:Env} {R:Type}
theorem QfY {d t:Nat} {tm:List (Nat × AV)} {av:AV} (h:look tm t=some av) (hn:QdM d tm=false):gds d av=false:=by
  induction tm with
  | nil=>simp [look] at h
  | cons x r ih=>
    obtain ⟨k,b⟩:=x
    simp only [QdM,Bool.or_eq_false_iff] at hn
    simp only [look] at h
    cases hk:Nat.beq k t with
    | true=>simp [hk] at h;subst h;exact hn.1
    | false=>simp [hk] at h;exact ih h hn.2
theorem Q0M {a:Act} {d:Nat} {v:Value} (hd:d<a.tmps.size) (t:Nat):tmv (a.put (some d) v) t=if t=d then v else tmv a t:=by
  unfold tmv Act.put
  simp only [Array.getD,Array.size_setIfInBounds]
  by_cases h:t<a.tmps.size
  · simp only [h,dite_true]
    by_cases e:t=d
    · subst e;simp
    · rw [if_neg e]
      simp [h,Ne.symm e]
  · have e:t≠d:=by omega
    simp [h,e]
theorem Q61 {st:St} {a:Act} {w':World} {dl:Dl} {v:Value} {dst:Option Nat} (ho:Q9u st dl.v dst=true) (h:Out E st a dl v w'):Eh E (put st dst dl) (a.put dst v) w':=by
  obtain ⟨β,S,hR,hv⟩:=h
  cases dst with
  | none=>exact ⟨β,S,hR.n,hR.dfr,hR.tm,hR.hr⟩
  | some d=>
    simp only [Q9u,Bool.and_eq_true,Bool.not_eq_true'] at ho
    obtain ⟨h1,h2,h3⟩:=ho
    have hd:d<a.tmps.size:=by have:=Nat.le_of_ble_eq_true h1;have:=hR.n;simp at this;omega
    refine ⟨β,S,?_,hR.dfr,fun t av ht=>?_,hR.hr⟩
    · show (a.tmps.setIfInBounds d v).size=st.n
      simpa using hR.n
    · simp only [put,X4] at ht
      have key:∀ (u:Value) (av:AV),gds d av=false→RdA β S (look (Af st.h dl.wr)) w' (tmv a) u av→RdA β S (look (put st (some d) dl).h) w' (tmv (a.put (some d) v)) u av:=by
        intro u av hg hr
        refine hr.mono (fun _ h=>h) (fun _ _=>rfl) (fun _ _=>Keep.rfl_ ..) (fun t' ht'=>?_)
        rw [Q0M hd,if_neg (fun e=>by subst e;rw [hg] at ht';cases ht')]
      rw [Q0M hd]
      by_cases e:t=d
      · rw [if_pos e] at ht ⊢
        injection ht with ht
        subst ht
        exact key v _ h2 hv
      · rw [if_neg e] at ht ⊢
        exact key _ _ (QfY ht h3) (hR.tm t av ht)
theorem QaM {β:Nat→Option Nat} {S:Nat→Prop} {st:St} {a:Act} {w:World} (hR:Rel E β S st a w) (x:Operand):RdA β S (look st.h) w (tmv a) (a.eval x) (evO st.tm x):=by
  cases x with
  | tmp t=>
    simp only [evO,lkT]
    cases h:look st.tm t with
    | none=>exact .top _
    | some av=>exact hR.tm t av h
  | const v=>exact Q5N v
  | global g=>exact .top _
  | func f=>exact .fn f #[] [] rfl (fun i x h=>by simp at h)
theorem Dj {tm:List (Nat × AV)} {s:Nat} {av:AV} (h:lkT tm s=av) (hn:av≠.top):look tm s=some av:=by
  unfold lkT at h
  cases hl:look tm s with
  | none=>rw [hl] at h;exact absurd h.symm hn
  | some b=>rw [hl] at h;simpa using h
theorem Qdh {e w:Bool}:bw e w=true↔e=w:=by cases e <;> cases w <;> simp [bw]
theorem Qa9 {β:Nat→Option Nat} {S:Nat→Prop} {st:St} {a:Act} {w:World} (hR:Rel E β S st a w):∀ (f s:Nat) (b g:Bool) (ch:List (Nat × Bool)),ctx st.tm f s b=some (g,ch) →
    (g=true↔tmv a s = .bool b)∧(g=true→∀ p∈ch,tmv a p.1 = .bool p.2)
  | 0,s,b,g,ch,h=>by simp [ctx] at h
  | f+1,s,b,g,ch,h=>by
    unfold ctx at h
    split at h
    · rename_i e he
      simp only [Option.some.injEq,Prod.mk.injEq] at h
      obtain ⟨rfl,rfl⟩:=h
      have hv:=(hR.tm s _ (Dj he (by simp))).bool_inv
      have h1:bw e b=true↔tmv a s = .bool b:=by rw [Qdh,hv];simp
      exact ⟨h1,fun hg p hp=>by simp at hp;subst hp;exact h1.1 hg⟩
    · rename_i s' w' e he
      split at h
      · rename_i g' l hc
        simp only [Option.some.injEq,Prod.mk.injEq] at h
        obtain ⟨rfl,rfl⟩:=h
        obtain ⟨h1,h2⟩:=Qa9 hR f s' w' g' l hc
        have hv:=(hR.tm s _ (Dj he (by simp))).gd_inv
        rw [Bool.and_eq_true]
        have h3:(g'=true∧bw e b=true)↔tmv a s = .bool b:=by
          rcases hv with ⟨h4,h5⟩ | ⟨h4,h5⟩
          · rw [h5.bool_inv,Qdh,h1]
            simp [h4]
          · rw [h5,h1]
            constructor
            · intro h;exact absurd h.1 h4
            · intro h;cases h
        refine ⟨h3,fun hg p hp=>?_⟩
        rcases List.mem_cons.1 hp with rfl | hp
        · exact h3.1 hg
        · exact h2 hg.1 p hp
      · cases h
    · cases h
theorem Q9t {tm tm':List (Nat × AV)}:∀ (f s:Nat) (b g:Bool) (ch:List (Nat × Bool)),ctx tm f s b=some (g,ch)→(∀ p∈ch,lkT tm' p.1=lkT tm p.1)→ctx tm' f s b=some (g,ch)
  | 0,s,b,g,ch,h,_=>by simp [ctx] at h
  | f+1,s,b,g,ch,h,hc=>by
    have hs:(s,b)∈ch:=by
      unfold ctx at h
      split at h
      · cases h;simp
      · split at h
        · cases h;simp
        · cases h
      · cases h
    have hl:=hc (s,b) hs
    unfold ctx at h ⊢
    simp only at hl
    split at h
    · rename_i e he;simp only [hl,he];exact h
    · rename_i s' w' e he
      split at h
      · rename_i g' l hcc
        simp only [Option.some.injEq,Prod.mk.injEq] at h
        obtain ⟨rfl,rfl⟩:=h
        have:=Q9t f s' w' g' l hcc (fun p hp=>hc p (by simp [hp]))
        simp only [hl,he,this]
      · cases h
    · cases h
theorem Qba {s:Nat} {b:Bool}:∀ {l:List (Nat × Bool)},QfH l s b=true→(s,b)∈l
  | (x,y)::r,h=>by
    simp only [QfH,Bool.or_eq_true,Bool.and_eq_true] at h
    rcases h with ⟨h1,h2⟩ | h
    · obtain rfl:=Nat.eq_of_beq_eq_true h1
      obtain rfl:y=b:=by simpa using h2
      simp
    · simp [Qba h]
theorem Qh2 {β:Nat→Option Nat} {S:Nat→Prop} {h:Nat→Option Ob} {w:World} {tm:Nat→Value} {v:Value} {av:AV} {ch:List (Nat × Bool)} (hc:∀ p∈ch,tm p.1 = .bool p.2) (hv:RdA β S h w tm v av):RdA β S h w tm v (unw ch av):=by
  cases av with
  | gd s b av=>
    simp only [unw]
    cases hg:QfH ch s b with
    | false=>simpa using hv
    | true=>
      simp only [cond_true]
      rcases hv.gd_inv with ⟨_,h⟩ | ⟨h,_⟩
      · exact h
      · exact absurd (hc _ (Qba hg)) h
  | _=>exact hv
theorem QdT {l:Nat} {ch:List (Nat × Bool)} {av:AV} (h:U2 l av=false):U2 l (unw ch av)=false:=by
  cases av with
  | gd s b av=>
    simp only [unw]
    cases QfH ch s b with
    | false=>exact h
    | true=>simpa [U2] using h
  | _=>exact h
def Q3V (P:Program) (E:Env) (ops:Array Oper) (i:Nat) (rc:Rec) (lk:Nat→AV) (hl:Nat→Option Ob):Prop:=
  ∀ st a w,Eh E st a w→(∀ t,t∈rc.rt→lkT st.tm t=lk t)→(∀ l,l∈rc.dl.rd∨l∈wrL rc.dl→look st.h l=hl l)→Q9u st rc.dl.v rc.dst=true→VJ st rc.dl.wr=true →
    ∀ Q:Exit→Act→World→Prop,wpOp P ops Q i (fun a' w'=>Eh E (put st rc.dst rc.dl) a' w') a w
def Q7R (st:St) (rc:Rec):Prop:=Q9u st rc.dl.v rc.dst=true∧VJ st rc.dl.wr=true
theorem Q7y {t:Nat}:∀ {l:List Operand},Operand.tmp t∈l→t∈MV l
  | x::r,h=>by
    rcases List.mem_cons.1 h with rfl | h
    · simp [MV]
    · have:=Q7y h
      cases x <;> simp [MV,this]
theorem Q89 {tm tm':List (Nat × AV)} {o:Oper} {ch:List Nat} (h:∀ t,t∈MV o.op.operands.toList++ch→lkT tm' t=lkT tm t) {x:Operand} (hx:x∈o.op.operands.toList):evO tm' x=evO tm x:=by
  cases x with
  | tmp t=>exact h t (by simp [Q7y hx])
  | _=>rfl
theorem Q3b {ops:Array Oper} {i:Nat} {o:Oper} (hi:ops[i]? = some o) (hg:o.guard=none) {tm:List (Nat × AV)} {hl:Nat→Option Ob} {dl:Dl} (hgood:Re P E o (evO tm) hl dl) :
    Q3V P E ops i ⟨MV o.op.operands.toList++[],o.dst,dl⟩ (lkT tm) hl:=by
  intro st a w ⟨β,S,hR⟩ hlk hA hd hcw Q
  unfold wpOp
  simp only [hi,Region.wanted,hg,if_true]
  left
  refine hgood β S st a w hR (fun x hx=>?_) hA hcw _ _ fun v w' hout=>Q61 hd hout
  rw [← Q89 hlk hx]
  exact ⟨QaM hR x,fun l hc=>Q8d hc x⟩
theorem Q12 {ops:Array Oper} {j s:Nat} {a:Act} {b:Bool} (hs:(ops[j]?).bind (·.dst)=some s):(yielded ops a.tmps j == some b)=true↔tmv a s = .bool b:=by
  unfold yielded tmv
  rw [hs]
  simp only [Option.bind_some,Array.getD]
  by_cases h:s<a.tmps.size
  · simp only [h,dite_true,Array.getElem?_eq_getElem h]
    cases hv:a.tmps[s] <;> simp [hv]
  · rw [Array.getElem?_eq_none (by omega)]
    simp only [h,dite_false]
    constructor
    · intro h;cases h
    · intro h;cases h
theorem QaN {R:Type} {c:Bool} {x:Option R} {r:R} (h:(bif c then x else none)=some r):c=true∧x=some r:=by
  cases c with
  | true=>exact ⟨rfl,h⟩
  | false=>cases h
theorem Qib {g:Bool} {x y z:D} (h:jD g x y=some z):z=bif g then x else y:=by
  unfold jD at h
  split at h
  · rename_i k a k' b
    replace h:=QaN h
    obtain ⟨hk,h⟩:=h
    have:k=k':=by revert hk;cases k <;> cases k' <;> decide
    subst this
    injection h with h
    subst h
    cases g <;> rfl
  · injection h with h;subst h;cases g <;> rfl
  · injection h with h;subst h;cases g <;> rfl
  · replace h:=QaN h
    obtain ⟨hk,h⟩:=h
    have:=Nat.eq_of_beq_eq_true hk
    subst this
    injection h with h
    subst h
    cases g <;> rfl
  · cases h
theorem Qie {g:Bool} {x y z:AV} (h:jA g x y=some z):z=bif g then x else y:=by
  unfold jA at h
  split at h
  · split at h
    · rename_i hz
      injection h with h
      subst h
      rw [Qib hz]
      cases g <;> rfl
    · cases h
  · injection h with h;subst h;cases g <;> rfl
  · replace h:=QaN h
    obtain ⟨hk,h⟩:=h
    simp only [Bool.and_eq_true] at hk
    have h1:=Nat.eq_of_beq_eq_true hk.1
    have h2:=Nat.eq_of_beq_eq_true hk.2
    subst h1 h2
    injection h with h
    subst h
    cases g <;> rfl
  · cases h
theorem QfE {g:Bool}:∀ {x y z:List AV},jL g x y=some z→z=bif g then x else y
  | [],[],z,h=>by simp only [jL,Option.some.injEq] at h;subst h;cases g <;> rfl
  | [],_::_,z,h=>by simp [jL] at h
  | _::_,[],z,h=>by simp [jL] at h
  | a::r,b::s,z,h=>by
    simp only [jL] at h
    split at h
    · rename_i c hc
      split at h
      · rename_i t ht
        injection h with h
        subst h
        rw [Qie hc,QfE ht]
        cases g <;> rfl
      · cases h
    · cases h
theorem Q8r {hl:Nat→Option Ob}:∀ {wr wr':List (Nat × Option Ob)},jW true hl wr=some wr'→wr'=wr
  | [],_,h=>by simp only [jW,Option.some.injEq] at h;exact h.symm
  | (l,some (.box new))::r,wr',h=>by
    simp only [jW] at h
    split at h
    · split at h
      · rename_i c hc
        split at h
        · rename_i t ht
          injection h with h
          subst h
          rw [QfE hc,Q8r ht]
          rfl
        · cases h
      · cases h
    · cases h
  | (l,some (.arr e s rows))::r,wr',h=>by
    simp only [jW] at h
    split at h
    · split at h
      · rename_i t ht
        injection h with h
        subst h
        rw [Q8r ht]
        rfl
      · cases h
    · cases h
  | (l,none)::r,wr',h=>by
    simp only [jW] at h
    split at h
    · rename_i t ht
      injection h with h
      subst h
      rw [Q8r ht]
    · cases h
def Qi4 (hl:Nat→Option Ob) (l:Nat) (o:Option Ob):Prop:=o=hl l∨o=none∨(hl l=none∧∃ e s,o=some (.arr e s []))
theorem Q57 {hl:Nat→Option Ob}:∀ {wr wr':List (Nat × Option Ob)},jW false hl wr=some wr'→∀ p,p∈wr'→Qi4 hl p.1 p.2
  | [],_,h,p,hp=>by simp only [jW,Option.some.injEq] at h;subst h;cases hp
  | (l,some (.box new))::r,wr',h,p,hp=>by
    simp only [jW] at h
    split at h
    · rename_i old ho
      split at h
      · rename_i c hc
        split at h
        · rename_i t ht
          injection h with h
          subst h
          rcases List.mem_cons.1 hp with rfl | hp
          · rw [QfE hc];exact .inl ho.symm
          · exact Q57 ht p hp
        · cases h
      · cases h
    · cases h
  | (l,some (.arr e s rows))::r,wr',h,p,hp=>by
    simp only [jW] at h
    split at h
    · rename_i hn
      split at h
      · rename_i t ht
        injection h with h
        subst h
        rcases List.mem_cons.1 hp with rfl | hp
        · exact .inr (.inr ⟨hn,e,s,rfl⟩)
        · exact Q57 ht p hp
      · cases h
    · cases h
  | (l,none)::r,wr',h,p,hp=>by
    simp only [jW] at h
    split at h
    · rename_i t ht
      injection h with h
      subst h
      rcases List.mem_cons.1 hp with rfl | hp
      · exact .inr (.inl rfl)
      · exact Q57 ht p hp
    · cases h
theorem Q7G {Q:Nat→Option Ob→Prop}:∀ {wr:List (Nat × Option Ob)} {f:Nat→Option Ob} {l:Nat},(∀ p,p∈wr→Q p.1 p.2)→l∈wr.map (·.1)→Q l (H7 f wr l)
  | (k,o)::r,f,l,h,hl=>by
    by_cases hr:l∈r.map (·.1)
    · exact Q7G (wr:=r) (fun p hp=>h p (by simp [hp])) hr
    · have hk:l=k:=by simpa [hr] using hl
      subst hk
      rw [H7,VZ hr]
      simpa using h (l,o) (by simp)
theorem Q9p {st:St} {l:Nat} {o:Ob}:∀ {wr:List (Nat × Option Ob)},VJ st wr=true→(l,some o)∈wr→look st.h l=none→Jo st l=true
  | (k,o')::r,h,hm,hn=>by
    simp only [VJ,Bool.and_eq_true] at h
    rcases List.mem_cons.1 hm with he | hm
    · injection he with h1 h2
      subst h1 h2
      have:=h.1
      rw [hn] at this
      exact this
    · exact Q9p h.2 hm hn
theorem Q1Q:∀ {wr:List (Nat × Option Ob)} {f:Nat→Option Ob} {l:Nat} {o:Ob},l∈wr.map (·.1)→H7 f wr l=some o→(l,some o)∈wr
  | (k,o')::r,f,l,o,hl,h=>by
    by_cases hr:l∈r.map (·.1)
    · exact List.mem_cons_of_mem _ (Q1Q (wr:=r) hr h)
    · have hk:l=k:=by simpa [hr] using hl
      subst hk
      rw [H7,VZ hr] at h
      simp at h
      simp [h]
theorem QeS {β:Nat→Option Nat} {S:Nat→Prop} {st:St} {a:Act} {w:World} (hR:Rel E β S st a w) {wr:List (Nat × Option Ob)} (hw:∀ p,p∈wr→Qi4 (look st.h) p.1 p.2) (hc:VJ st wr=true) :
    ∃ β',Rel E β' S ⟨st.n,st.tm,Af st.h wr⟩ a w:=by
  have hlk:look (Af st.h wr)=H7 (look st.h) wr:=Rt wr st.h
  have key:∀ l,H7 (look st.h) wr l=look st.h l∨(H7 (look st.h) wr l=none∧l∈wr.map (·.1))∨(look st.h l=none∧l∈wr.map (·.1)∧∃ e s,H7 (look st.h) wr l=some (.arr e s [])):=by
    intro l
    by_cases hl:l∈wr.map (·.1)
    · rcases Q7G (f:=look st.h) hw hl with h | h | ⟨h1,h2⟩
      · exact .inl h
      · exact .inr (.inl ⟨h,hl⟩)
      · exact .inr (.inr ⟨h1,hl,h2⟩)
    · exact .inl (VZ hl)
  let β':Nat→Option Nat:=fun l=>if look st.h l=none∧(H7 (look st.h) wr l).isSome=true then none else β l
  have hβ:∀ l,(H7 (look st.h) wr l=look st.h l)→β' l=β l:=by
    intro l h
    show (if look st.h l=none∧(H7 (look st.h) wr l).isSome=true then none else β l)=β l
    rw [if_neg]
    rintro ⟨h1,h2⟩
    rw [h,h1] at h2
    cases h2
  have hsome:∀ l b,(look (Af st.h wr) l).isSome=true→β' l=some b→(look st.h l).isSome=true∧β l=some b:=by
    intro l b h1 h2
    rw [hlk] at h1
    have h2':(if look st.h l=none∧(H7 (look st.h) wr l).isSome=true then none else β l)=some b:=h2
    by_cases hn:look st.h l=none∧(H7 (look st.h) wr l).isSome=true
    · rw [if_pos hn] at h2';cases h2'
    · rw [if_neg hn] at h2'
      refine ⟨?_,h2'⟩
      cases hx:look st.h l with
      | none=>exact absurd ⟨hx,h1⟩ hn
      | some _=>rfl
  refine ⟨β',hR.upd (H':=Af st.h wr) (w':=w) (S':=S) (β':=β') (fun _ h=>h) (fun _ _=>rfl) (fun l=>¬ H7 (look st.h) wr l=look st.h l) (fun l hl=>?_) (fun l hl=>?_) (fun l o hl ho=>?_) ?_ ?_ ?_ hR.hr.sb hR.hr.sfr hR.hr.fr⟩
  · have hl:=Classical.not_not.1 hl
    exact ⟨hβ l hl,by rw [hlk];exact hl,fun _ _ _=>rfl⟩
  · rcases key l with h | ⟨h,hm⟩ | ⟨h1,hm,e,s,h2⟩
    · exact absurd h hl
    · left
      refine ⟨?_,fun _=>by rw [hlk];exact h,fun e s rows _=>.inl (by rw [hlk];exact h),fun b cs ty fz hs=>by rw [hlk,h] at hs;cases hs⟩
      show (if look st.h l=none∧(H7 (look st.h) wr l).isSome=true then none else β l)=β l
      rw [if_neg]
      rintro ⟨_,h2⟩
      rw [h] at h2
      cases h2
    · right
      exact Q9p hc (Q1Q hm h2) h1
  · rcases key l with h | ⟨h,hm⟩ | ⟨h1,hm,e,s,h2⟩
    · exact absurd h hl
    · rw [hlk,h] at ho;cases ho
    · rw [hlk,h2] at ho
      injection ho with ho
      subst ho
      refine .inl ⟨?_,rfl⟩
      show (if look st.h l=none∧(H7 (look st.h) wr l).isSome=true then none else β l)=none
      rw [if_pos ⟨h1,by rw [h2];rfl⟩]
  · intro l l' b h1 h2 h3 h4
    obtain ⟨a1,a2⟩:=hsome l b h1 h3
    obtain ⟨b1,b2⟩:=hsome l' b h2 h4
    exact hR.hr.inj l l' b a1 b1 a2 b2
  · intro l b h1 h2
    obtain ⟨a1,a2⟩:=hsome l b h1 h2
    exact hR.hr.apart l b a1 a2
  · intro l b h1 h2
    obtain ⟨a1,a2⟩:=hsome l b h1 h2
    exact hR.hr.own l b a1 a2
theorem Qa8 {ops:Array Oper} {i j s:Nat} {b:Bool} {o:Oper} (hi:ops[i]? = some o) (hg:o.guard=some (j,b)) (hs:(ops[j]?).bind (·.dst)=some s) {tm:List (Nat × AV)} {hl:Nat→Option Ob} {g:Bool} {ch:List (Nat × Bool)} (hctx:ctx tm 40 s b=some (g,ch)) {dl:Dl} {wr:List (Nat × Option Ob)} (hw:jW g hl dl.wr=some wr)
    (hgood:g=true→Re P E o (fun x=>unw ch (evO tm x)) hl dl) :
    Q3V P E ops i ⟨MV o.op.operands.toList++ch.map (·.1),o.dst,⟨.gd s b dl.v,wr,dl.rd⟩⟩ (lkT tm) hl:=by
  intro st a w ⟨β,S,hR⟩ hlk hA hd hcw Q
  have hctx':=Q9t 40 s b g ch hctx (tm':=st.tm) (fun p hp=>hlk p.1 (by simp only [List.mem_append,List.mem_map];exact .inr ⟨p,hp,rfl⟩))
  obtain ⟨h1,h2⟩:=Qa9 hR 40 s b g ch hctx'
  have hy:=Q12 (a:=a) (b:=b) hs
  unfold wpOp
  simp only [hi,Region.wanted,hg]
  cases g with
  | true=>
    have htm:=h1.1 rfl
    rw [if_pos (hy.2 htm)]
    left
    obtain rfl:=Q8r hw
    refine hgood rfl β S st a w hR (fun x hx=>?_) (fun l h=>hA l h) hcw _ _ fun v w' hout=>?_
    · have he:=Q89 hlk hx
      show RdA _ _ _ _ _ _ (unw ch (evO tm x))∧∀ l,Jo st l=true→U2 l (unw ch (evO tm x))=false
      rw [← he]
      exact ⟨Qh2 (h2 rfl) (QaM hR x),fun l hc=>QdT (Q8d hc x)⟩
    · refine Q61 hd ?_
      obtain ⟨β',S',hR',hv⟩:=hout
      exact ⟨β',S',hR',.gdT _ _ _ _ htm hv⟩
  | false=>
    have htm:¬ tmv a s = .bool b:=fun h=>by have:=h1.2 h;cases this
    rw [if_neg (fun h=>htm (hy.1 h))]
    obtain ⟨β',hR'⟩:=QeS hR (wr:=wr) (fun p hp=>by
      have:=Q57 hw p hp
      have he:look st.h p.1=hl p.1:=hA p.1 (.inr (List.mem_map.2 ⟨p,hp,rfl⟩))
      unfold Qi4 at this ⊢
      rw [he]
      exact this) hcw
    exact Q61 hd ⟨β',S,hR',.gdF _ _ _ htm⟩
theorem BN {st:St} {o:Oper} {ch:List Nat} {dl:Dl} {k:St→Rec→Option R} {r:R} (h:QgA st o ch dl k=some r) :
    Q7R st ⟨MV o.op.operands.toList++ch,o.dst,dl⟩∧k (put st o.dst dl) ⟨MV o.op.operands.toList++ch,o.dst,dl⟩=some r:=by
  unfold QgA at h
  cases hc:(Q9u st dl.v o.dst&&VJ st dl.wr) with
  | false=>simp [hc] at h
  | true=>
    simp only [hc,cond_true] at h
    simp only [Bool.and_eq_true] at hc
    exact ⟨hc,h⟩
theorem Q5V {spec:Q9K} {tt:TT} (hS:Q1P P spec) (hT:TOk P tt) {ops:Array Oper} {i:Nat} {o:Oper} (hi:ops[i]? = some o) {st:St} {k:St→Rec→Option R} {r:R} (h:Qgr spec tt ops o st k=some r) :
    ∃ rc,k (put st rc.dst rc.dl) rc=some r∧rc.dst=o.dst∧Q7R st rc∧Q3V P E ops i rc (lkT st.tm) (look st.h):=by
  unfold Qgr at h
  split at h
  · rename_i hg
    obtain ⟨dl,h,hgood⟩:=Q2x (E:=E) hS hT h
    obtain ⟨hs,hk⟩:=BN h
    exact ⟨_,hk,rfl,hs,Q3b hi hg (hgood rfl)⟩
  · rename_i j b hg
    split at h
    · rename_i s hs
      split at h
      · rename_i g ch hctx
        obtain ⟨dl,h,hgood⟩:=Q2x (E:=E) hS hT h
        split at h
        · rename_i wr hw
          obtain ⟨hs',hk⟩:=BN h
          exact ⟨_,hk,rfl,hs',Qa8 hi hg hs hctx hw hgood⟩
        · cases h
      · cases h
    · cases h
def Mq (P:Program) (E:Env) (ops:Array Oper):Nat→St→List Rec→St→Prop
  | _,st,[],st'=>st'=st
  | i,st,rc::rs,st'=>(∃ o,ops[i]? = some o∧rc.dst=o.dst)∧Q7R st rc∧Q3V P E ops i rc (lkT st.tm) (look st.h)∧Mq P E ops (i+1) (put st rc.dst rc.dl) rs st'
theorem Q7r {spec:Q9K} {tt:TT} (hS:Q1P P spec) (hT:TOk P tt) {ops:Array Oper} {R:Type}:∀ (l:List Oper) (i:Nat) (st:St) (acc:List Rec) (k:St→List Rec→Option R) (r:R),(∀ j,l[j]? = ops[i+j]?) →
    Qev spec tt ops l st acc k=some r→∃ recs st',recs.length=l.length∧k st' (acc++recs)=some r∧Mq P E ops i st recs st'
  | [],i,st,acc,k,r,_,h=>⟨[],st,rfl,by simpa [Qev] using h,rfl⟩
  | o::l,i,st,acc,k,r,hl,h=>by
    have h0:ops[i]? = some o:=by simpa using (hl 0).symm
    simp only [Qev] at h
    obtain ⟨rc,h,hd,hs,hstep⟩:=Q5V (E:=E) hS hT h0 h
    obtain ⟨recs,st',h1,h2,h3⟩:=Q7r hS hT l (i+1) _ _ k r (fun j=>by have:=hl (j+1);simpa [Nat.add_assoc,Nat.add_comm 1 j] using this) h
    exact ⟨rc::recs,st',by simp [h1],by simpa using h2,⟨o,h0,hd⟩,hs,hstep,h3⟩
theorem Q5T {s:Nat} {b:Bool}:∀ {tm:List (Nat × AV)},lkT tm s = .d (.bool b)→Q97 s b tm=tm
  | [],h=>by simp [lkT,look] at h
  | (t,a)::r,h=>by
    simp only [Q97]
    cases ht:Nat.beq t s with
    | true=>
      simp only [lkT,look,ht,cond_true,Option.getD_some] at h
      rw [cond_true,h]
    | false=>
      simp only [lkT,look,ht,cond_false] at h
      rw [cond_false,Q5T (tm:=r) h]
theorem QaR {ops:Array Oper} {i j s:Nat} {b:Bool} {o:Oper} (hi:ops[i]? = some o) (hg:o.guard=some (j,b)) (hs:(ops[j]?).bind (·.dst)=some s) {tm:List (Nat × AV)} {hl:Nat→Option Ob} (hlit:lkT tm s = .d (.bool b)) {dl:Dl} (hgood:Re P E o (evO tm) hl dl) :
    Q3V P E ops i ⟨MV o.op.operands.toList++[s],o.dst,dl⟩ (lkT tm) hl:=by
  intro st a w ⟨β,S,hR⟩ hlk hA hd hcw Q
  have htm:tmv a s = .bool b:=by
    have h1:=QaM hR (.tmp s)
    rw [show evO st.tm (.tmp s)=lkT st.tm s from rfl,hlk s (by simp),hlit] at h1
    exact h1.bool_inv
  unfold wpOp
  simp only [hi,Region.wanted,hg]
  rw [if_pos ((Q12 hs).2 htm)]
  left
  refine hgood β S st a w hR (fun x hx=>?_) hA hcw _ _ fun v w' hout=>Q61 hd hout
  rw [← Q89 hlk hx]
  exact ⟨QaM hR x,fun l hc=>Q8d hc x⟩
theorem Qd0 {ops:Array Oper} {i j s:Nat} {b c:Bool} {o:Oper} (hi:ops[i]? = some o) (hg:o.guard=some (j,b)) (hs:(ops[j]?).bind (·.dst)=some s) {tm:List (Nat × AV)} {hl:Nat→Option Ob} (hlit:lkT tm s = .d (.bool c)) (hne:c≠b) {av:AV} :
    Q3V P E ops i ⟨MV o.op.operands.toList++[s],o.dst,⟨.gd s b av,[],[]⟩⟩ (lkT tm) hl:=by
  intro st a w ⟨β,S,hR⟩ hlk hA hd hcw Q
  have htm:tmv a s = .bool c:=by
    have h1:=QaM hR (.tmp s)
    rw [show evO st.tm (.tmp s)=lkT st.tm s from rfl,hlk s (by simp),hlit] at h1
    exact h1.bool_inv
  have htm':¬ tmv a s = .bool b:=by rw [htm];intro h;injection h with h;exact hne h
  unfold wpOp
  simp only [hi,Region.wanted,hg]
  rw [if_neg (fun h=>htm' ((Q12 hs).1 h))]
  exact Q61 hd ⟨β,S,hR,.gdF _ _ _ htm'⟩
theorem Q5k {spec:Q9K} {tt:TT} (hS:Q1P P spec) (hT:TOk P tt) {ops:Array Oper} {R:Type}:∀ (l:List Oper) (i:Nat) (st:St) (acc:List Rec) (k:St→List Rec→Option R) (r:R),(∀ j,l[j]? = ops[i+j]?) →
    Q8l spec tt ops l st acc k=some r→∃ recs st',recs.length=l.length∧k st' (acc++recs)=some r∧Mq P E ops i st recs st'
  | [],i,st,acc,k,r,_,h=>⟨[],st,rfl,by simpa [Q8l] using h,rfl⟩
  | o::l,i,st,acc,k,r,hl,h=>by
    have h0:ops[i]? = some o:=by simpa using (hl 0).symm
    have next:∀ rc,rc.dst=o.dst→Q7R st rc→Q3V P E ops i rc (lkT st.tm) (look st.h)→Q8l spec tt ops l (put st rc.dst rc.dl) (acc++[rc]) k=some r→∃ recs st',recs.length=(o::l).length∧k st' (acc++recs)=some r∧Mq P E ops i st recs st':=by
      intro rc hd hs hstep h
      obtain ⟨recs,st',h1,h2,h3⟩:=Q5k hS hT l (i+1) _ _ k r (fun j=>by have:=hl (j+1);simpa [Nat.add_assoc,Nat.add_comm 1 j] using this) h
      exact ⟨rc::recs,st',by simp [h1],by simpa using h2,⟨o,h0,hd⟩,hs,hstep,h3⟩
    have one:∀ (j s:Nat) (w c:Bool),o.guard=some (j,w)→(ops[j]?).bind (·.dst)=some s→lkT st.tm s = .d (.bool c)→QbR spec tt o s w c st (fun st' rec=>Q8l spec tt ops l st' (acc++[rec]) k)=some r→∃ recs st',recs.length=(o::l).length∧k st' (acc++recs)=some r∧Mq P E ops i st recs st':=by
      intro j s w c hg hs hlit h
      unfold QbR at h
      cases hb:(bif c then w else !w) with
      | true=>
        simp only [hb,cond_true] at h
        have hcw:c=w:=by revert hb;cases c <;> cases w <;> decide
        subst hcw
        obtain ⟨dl,h,hgood⟩:=Q2x (E:=E) hS hT h
        obtain ⟨hs',hk⟩:=BN h
        exact next _ rfl hs' (QaR h0 hg hs hlit (hgood rfl)) hk
      | false=>
        simp only [hb,cond_false] at h
        have hcw:c≠w:=by revert hb;cases c <;> cases w <;> decide
        obtain ⟨hs',hk⟩:=BN h
        exact next _ rfl hs' (Qd0 h0 hg hs hlit hcw) hk
    rw [Q8l] at h
    split at h
    · rename_i hg
      obtain ⟨dl,h,hgood⟩:=Q2x (E:=E) hS hT h
      obtain ⟨hs',hk⟩:=BN h
      exact next _ rfl hs' (Q3b h0 hg (hgood rfl)) hk
    · rename_i j w hg
      split at h
      · rename_i s hs
        split at h
        · rename_i c hlit
          cases c with
          | true=>
            simp only [cond_true,Q5T hlit] at h
            exact one j s w true hg hs hlit h
          | false=>
            simp only [cond_false,Q5T hlit] at h
            exact one j s w false hg hs hlit h
        · cases h
      · cases h
theorem QaF {ops:Array Oper} {Q:Exit→Act→World→Prop} {st':St} (hQ:∀ a w,Eh E st' a w→Q .normal a w):∀ (recs:List Rec) (i:Nat) (st:St) (a:Act) (w:World),Mq P E ops i st recs st'→Eh E st a w →
    wpOps P ops Q (List.range' i recs.length) a w
  | [],i,st,a,w,h,hR=>by
    simp only [Mq] at h
    subst h
    exact hQ a w hR
  | rc::rs,i,st,a,w,h,hR=>by
    obtain ⟨_,hs,hstep,hrest⟩:=h
    simp only [List.length_cons,List.range'_succ]
    rw [wpOps_cons]
    exact wpOp_mono (fun a' w' hR'=>QaF hQ rs (i+1) _ a' w' hrest hR') (hstep st a w hR (fun _ _=>rfl) (fun _ _=>rfl) hs.1 hs.2 Q)
end

section
variable {P:Program} {E:Env} {R:Type}
def Lst (listed:Array Bool) (i:Nat):Prop:=listed.getD i false=true
def Q9Y (listed:Array Bool) (es:List Edge):Prop:=∀ e∈es,Region.binds .any e=true→Lst listed e.on
def Q3O (ops:List Oper) (listed:Array Bool):Prop:=∀ (j:Nat) (o:Oper),ops[j]? = some o→Lst listed j→Q9Y listed o.after.toList
theorem Q7w (acc:List Nat) (i:Nat):∀ (es:List Edge) (s:Nat),(Q9n acc es s).testBit i=true→s.testBit i=true∨∃ e∈es,Region.binds .any e=true∧(e.on=i∨(acc.getD e.on 0).testBit i=true)
  | [],s,h=>.inl h
  | e::r,s,h=>by
    simp only [Q9n] at h
    rcases Q7w acc i r _ h with h1 | ⟨e',h1,h2⟩
    · cases hb:Region.binds .any e with
      | false=>rw [hb] at h1;exact .inl (by simpa using h1)
      | true=>
        rw [hb] at h1
        simp only [cond_true,Nat.testBit_or,Bool.or_eq_true] at h1
        rcases h1 with (h1 | h1) | h1
        · exact .inl h1
        · refine .inr ⟨e,by simp,hb,.inl ?_⟩
          rw [Nat.testBit_two_pow] at h1
          simpa using h1
        · exact .inr ⟨e,by simp,hb,.inr h1⟩
    · exact .inr ⟨e',by simp [h1],h2⟩
theorem Qbl (ops:List Oper):∀ (l:List Oper) (acc:List Nat),(∀ k,l[k]? = ops[acc.length+k]?) →
    (∀ (j i m:Nat) (o:Oper),acc[j]? = some m→ops[j]? = some o→m.testBit i=true→∀ listed,Q3O ops listed→Q9Y listed o.after.toList→Lst listed i) →
    (Q86 l acc).length=acc.length+l.length ∧
    ∀ (j i m:Nat) (o:Oper),(Q86 l acc)[j]? = some m→ops[j]? = some o→m.testBit i=true→∀ listed,Q3O ops listed→Q9Y listed o.after.toList→Lst listed i
  | [],acc,_,h=>⟨by simp [Q86],h⟩
  | o::l,acc,hl,h=>by
    have h0:ops[acc.length]? = some o:=by simpa using (hl 0).symm
    have:=Qbl ops l (acc++[Q9n acc o.after.toList 0]) (fun k=>by
      have:=hl (k+1)
      simp only [List.getElem?_cons_succ] at this
      rw [this];simp;congr 1;omega) (fun j i m o' h1 h2 h3 listed hc hp=>by
      by_cases hj:j<acc.length
      · rw [List.getElem?_append_left hj] at h1
        exact h j i m o' h1 h2 h3 listed hc hp
      · have hje:j=acc.length:=by
          have:=(List.getElem?_eq_some_iff.1 h1).1
          simp at this
          omega
        subst hje
        rw [List.getElem?_append_right (Nat.le_refl _)] at h1
        simp at h1
        subst h1
        rw [h0] at h2
        injection h2 with h2
        subst h2
        rcases Q7w acc i _ _ h3 with h4 | ⟨e,h4,h5,h6⟩
        · simp at h4
        · have hpe:=hp e h4 h5
          rcases h6 with h6 | h6
          · rw [← h6];exact hpe
          · by_cases he:e.on<acc.length
            · obtain ⟨m',hm'⟩:∃ m',acc[e.on]? = some m':=⟨_,List.getElem?_eq_getElem he⟩
              have hlt:e.on<ops.length:=by
                have:=(List.getElem?_eq_some_iff.1 h0).1
                omega
              have ho:=List.getElem?_eq_getElem hlt
              refine h e.on i m' _ hm' ho ?_ listed hc (hc e.on _ ho hpe)
              rw [List.getD_eq_getElem?_getD,hm'] at h6
              simpa using h6
            · rw [List.getD_eq_getElem?_getD,List.getElem?_eq_none (by omega)] at h6
              simp at h6)
    simpa [Q86,Nat.add_assoc,Nat.add_comm 1 l.length] using this
def Q2C (listed:Array Bool):Nat→St→List Rec→St
  | _,st,[]=>st
  | i,st,rc::rs=>Q2C listed (i+1) (bif listed.getD i false then put st rc.dst rc.dl else st) rs
def lkA (listed:Array Bool) (t:Nat):Nat→AV→List Rec→AV
  | _,v,[]=>v
  | i,v,rc::rs=>lkA listed t (i+1) (if listed.getD i false=true∧rc.dst=some t then rc.dl.v else v) rs
def hA (listed:Array Bool):Nat→(Nat→Option Ob)→List Rec→Nat→Option Ob
  | _,h,[]=>h
  | i,h,rc::rs=>hA listed (i+1) (if listed.getD i false=true then H7 h rc.dl.wr else h) rs
theorem Qep (st:St) (dst:Option Nat) (dl:Dl) (t:Nat):lkT (put st dst dl).tm t=if dst=some t then dl.v else lkT st.tm t:=by
  cases dst with
  | none=>simp [put]
  | some d=>
    simp only [put,lkT,X4,Option.some.injEq]
    by_cases e:t=d
    · subst e;simp
    · rw [if_neg e,if_neg (fun h=>e h.symm)]
theorem Q0C (listed:Array Bool) (t:Nat):∀ (recs:List Rec) (i:Nat) (st:St),lkT (Q2C listed i st recs).tm t=lkA listed t i (lkT st.tm t) recs
  | [],_,_=>rfl
  | rc::rs,i,st=>by
    simp only [Q2C,lkA]
    rw [Q0C listed t rs]
    congr 1
    cases hl:listed.getD i false with
    | true=>simp [Qep]
    | false=>simp
theorem Q41 (listed:Array Bool):∀ (recs:List Rec) (i:Nat) (st:St),look (Q2C listed i st recs).h=hA listed i (look st.h) recs
  | [],_,_=>rfl
  | rc::rs,i,st=>by
    simp only [Q2C,hA]
    rw [Q41 listed rs]
    congr 1
    cases hl:listed.getD i false with
    | true=>simp [put,Rt]
    | false=>simp
theorem Q7F (listed:Array Bool):∀ (recs:List Rec) (i:Nat) (st:St),(Q2C listed i st recs).n=st.n
  | [],_,_=>rfl
  | rc::rs,i,st=>by
    simp only [Q2C]
    rw [Q7F listed rs]
    cases listed.getD i false <;> rfl
theorem Q2u {L1 L2:Array Bool} {t:Nat}:∀ (recs:List Rec) (i:Nat) (v:AV),(∀ k rc,recs[k]? = some rc→rc.dst=some t→(Lst L1 (i+k)↔Lst L2 (i+k)))→lkA L1 t i v recs=lkA L2 t i v recs
  | [],_,_,_=>rfl
  | rc::rs,i,v,h=>by
    simp only [lkA]
    have h0:=h 0 rc rfl
    have:(if L1.getD i false=true∧rc.dst=some t then rc.dl.v else v)=if L2.getD i false=true∧rc.dst=some t then rc.dl.v else v:=by
      by_cases hd:rc.dst=some t
      · have:=h0 hd
        simp only [Lst,Nat.add_zero] at this
        simp only [this]
      · simp [hd]
    rw [this]
    exact Q2u rs (i+1) _ fun k rc' hk hd=>by
      have:=h (k+1) rc' (by simpa using hk) hd
      rw [show i+1+k=i+(k+1) from by omega]
      exact this
theorem Q52 {L1 L2:Array Bool} {l:Nat}:∀ (recs:List Rec) (i:Nat) (h1 h2:Nat→Option Ob),h1 l=h2 l→(∀ k rc,recs[k]? = some rc→l∈wrL rc.dl→(Lst L1 (i+k)↔Lst L2 (i+k)))→hA L1 i h1 recs l=hA L2 i h2 recs l
  | [],_,_,_,he,_=>he
  | rc::rs,i,h1,h2,he,h=>by
    simp only [hA]
    refine Q52 rs (i+1) _ _ ?_ fun k rc' hk hd=>by
      have:=h (k+1) rc' (by simpa using hk) hd
      rw [show i+1+k=i+(k+1) from by omega]
      exact this
    by_cases hd:l∈wrL rc.dl
    · have:=h 0 rc rfl hd
      simp only [Lst,Nat.add_zero] at this
      by_cases hl:L1.getD i false=true
      · rw [if_pos hl,if_pos (this.1 hl)]
        exact Qc1 hd
      · rw [if_neg hl,if_neg (fun h=>hl (this.2 h))]
        exact he
    · have e1:∀ (c:Prop) [Decidable c] (f:Nat→Option Ob),(if c then H7 f rc.dl.wr else f) l=f l:=by
        intro c _ f
        split
        · exact VZ hd
        · rfl
      rw [e1,e1]
      exact he
theorem Eh.same {st st':St} {a:Act} {w:World} (h:Eh E st a w) (hn:st'.n=st.n) (ht:∀ t,lkT st'.tm t=lkT st.tm t) (hh:look st'.h=look st.h):Eh E st' a w:=by
  obtain ⟨β,S,hR⟩:=h
  refine ⟨β,S,by rw [hn];exact hR.n,hR.dfr,fun t av hav=>?_,by rw [hh];exact hR.hr⟩
  rw [hh]
  have h1:lkT st.tm t=av:=by rw [← ht t];simp [lkT,hav]
  unfold lkT at h1
  cases hl:look st.tm t with
  | none=>rw [hl] at h1;simp at h1;subst h1;exact .top _
  | some b=>rw [hl] at h1;simp at h1;subst h1;exact hR.tm t _ hl
end

section
variable {P:Program} {E:Env} {R:Type}
theorem Q58 {x:Nat}:∀ {l:List Nat},Q2D x l=true↔x∈l
  | []=>by simp [Q2D]
  | a::r=>by
    simp only [Q2D,Bool.or_eq_true,List.mem_cons,Q58 (l:=r)]
    constructor
    · rintro (h | h)
      · exact .inl (Nat.eq_of_beq_eq_true h).symm
      · exact .inr h
    · rintro (h | h)
      · subst h;exact .inl (Nat.beq_refl _)
      · exact .inr h
theorem EN {a b:List Nat} {x:Nat} (h1:x∈a) (h2:x∈b):NM a b=true:=by
  unfold NM
  rw [List.any_eq_true]
  exact ⟨x,h1,Q5H h2⟩
theorem Q3h {i:Nat} {a:Rec} {news:List Nat}:∀ {rs:List Rec} {ms:List Nat},Q30 i a news rs ms=true→∀ (k:Nat) (b:Rec),rs[k]? = some b→∃ m,ms[k]? = some m ∧
    (UA a b=true∨(∃ l∈news,Q2e l b=true)∨QgG a.dst b.dl.v=true→m.testBit i=true)
  | [],_,_,k,b,hb=>by simp at hb
  | b0::r,[],h,k,b,hb=>by simp [Q30] at h
  | b0::r,m::ms,h,k,b,hb=>by
    simp only [Q30,Bool.and_eq_true] at h
    cases k with
    | zero=>
      simp at hb
      subst hb
      refine ⟨m,rfl,fun hc=>?_⟩
      have h1:=h.1
      have:(UA a b0||(news.any fun l=>Q2e l b0)||QgG a.dst b0.dl.v)=true:=by
        simp only [Bool.or_eq_true,List.any_eq_true]
        rcases hc with hc | hc | hc
        · exact .inl (.inl hc)
        · exact .inl (.inr hc)
        · exact .inr hc
      rw [this] at h1
      simpa using h1
    | succ k=>exact Q3h h.2 k b (by simpa using hb)
theorem Ac {st0:St} {seen:List Nat}:∀ {wr:List (Nat × Option Ob)} {l:Nat},l∈My st0 seen wr→UZ l wr=true
  | [],l,h=>by simp [My] at h
  | (k,o)::r,l,h=>by
    unfold My at h
    split at h
    · cases hm:Q2D k seen with
      | true=>simp only [hm,cond_true] at h;simp [UZ,Ac h]
      | false=>
        simp only [hm,cond_false,List.mem_cons] at h
        rcases h with rfl | h
        · simp [UZ]
        · simp [UZ,Ac h]
    · simp [UZ,Ac h]
theorem Q9h {st0:St} {seen:List Nat} {l:Nat} (hn:look st0.h l=none) (hs:l ∉ seen):∀ {wr:List (Nat × Option Ob)},UZ l wr=true→l∈My st0 seen wr
  | (k,o)::r,h=>by
    simp only [UZ,Bool.or_eq_true,Bool.and_eq_true] at h
    by_cases hk:k=l∧o.isSome=true
    · obtain ⟨rfl,ho⟩:=hk
      obtain ⟨o',rfl⟩:=Option.isSome_iff_exists.1 ho
      have hm:Q2D k seen=false:=by
        cases hm:Q2D k seen with
        | false=>rfl
        | true=>exact absurd (Q58.1 hm) hs
      simp [My,hn,hm]
    · have hr:UZ l r=true:=by
        rcases h with ⟨h1,h2⟩ | h
        · exact absurd ⟨Nat.eq_of_beq_eq_true h2,h1⟩ hk
        · exact h
      have:=Q9h hn hs hr
      unfold My
      split
      · cases Q2D k seen <;> simp [this]
      · exact this
theorem Q0l {st0:St}:∀ {rs:List Rec} {i:Nat} {prev:List Rec} {seen:List Nat} {ms:List Nat},Q1S st0 i prev seen rs ms=true→∀ (k:Nat) (a:Rec),rs[k]? = some a →
    ∃ seen',(∀ l∈seen',l∈seen∨∃ k' b,k'<k∧rs[k']? = some b∧UZ l b.dl.wr=true)∧Q30 (i+k) a (My st0 seen' a.dl.wr) (rs.drop (k+1)) (ms.drop (k+1))=true ∧
      ∀ l∈My st0 seen' a.dl.wr,Jo st0 l=true∧(∀ b∈prev,Q2e l b=false)∧∀ k' b,k'<k→rs[k']? = some b→Q2e l b=false
  | [],i,prev,seen,ms,_,k,a,ha=>by simp at ha
  | a0::r,i,prev,seen,[],h,k,a,ha=>by simp [Q1S] at h
  | a0::r,i,prev,seen,m::ms,h,k,a,ha=>by
    simp only [Q1S,Bool.and_eq_true] at h
    obtain ⟨⟨h1,h2⟩,h3⟩:=h
    cases k with
    | zero=>
      simp at ha
      subst ha
      refine ⟨seen,fun l hl=>.inl hl,by simpa using h1,fun l hl=>?_⟩
      rw [List.all_eq_true] at h2
      have:=h2 l hl
      simp only [Bool.and_eq_true,List.all_eq_true,Bool.not_eq_true'] at this
      exact ⟨this.1,this.2,fun k' b hk=>by omega⟩
    | succ k=>
      obtain ⟨seen',g1,g2,g3⟩:=Q0l h3 k a (by simpa using ha)
      refine ⟨seen',fun l hl=>?_,?_,fun l hl=>?_⟩
      · rcases g1 l hl with g | ⟨k',b,g4,g5,g6⟩
        · rcases List.mem_append.1 g with g | g
          · exact .inl g
          · exact .inr ⟨0,a0,by omega,rfl,Ac g⟩
        · exact .inr ⟨k'+1,b,by omega,by simpa using g5,g6⟩
      · rw [show i+(k+1)=i+1+k from by omega]
        simpa using g2
      · obtain ⟨g4,g5,g6⟩:=g3 l hl
        refine ⟨g4,fun b hb=>g5 b (by simp [hb]),fun k' b hk hb=>?_⟩
        cases k' with
        | zero=>simp at hb;subst hb;exact g5 a0 (by simp)
        | succ k'=>exact g6 k' b (by omega) (by simpa using hb)
theorem D6 {l:Nat}:∀ {wr:List (Nat × Option Ob)},UZ l wr=true→l∈wr.map (·.1)
  | (k,o)::r,h=>by
    simp only [UZ,Bool.or_eq_true,Bool.and_eq_true] at h
    rcases h with ⟨_,h2⟩ | h
    · simp [Nat.eq_of_beq_eq_true h2]
    · simp only [List.map_cons,List.mem_cons];exact .inr (D6 h)
theorem Q3e {l:Nat}:∀ {wr:List (Nat × Option Ob)} {h:Nat→Option Ob},(∀ o,(l,o)∈wr→o.isSome=true)→(h l).isSome=true∨UZ l wr=true→(H7 h wr l).isSome=true
  | [],h,_,hs=>by
    rcases hs with hs | hs
    · exact hs
    · simp [UZ] at hs
  | (k,o)::r,h,hn,hs=>by
    simp only [H7]
    refine Q3e (fun o' ho'=>hn o' (by simp [ho'])) ?_
    by_cases e:l=k
    · subst e
      left
      rw [if_pos rfl]
      exact hn o (by simp)
    · rw [if_neg e]
      rcases hs with hs | hs
      · exact .inl hs
      · simp only [UZ,Bool.or_eq_true,Bool.and_eq_true] at hs
        rcases hs with ⟨_,h2⟩ | hs
        · exact absurd (Nat.eq_of_beq_eq_true h2).symm e
        · exact .inr hs
theorem Qb5 {recs:List Rec} {l:Nat}:∀ {wr:List (Nat × Option Ob)},Qfi recs wr=true→(l,none)∈wr→∀ b∈recs,UZ l b.dl.wr=false
  | (k,o)::r,h,hm,b,hb=>by
    rcases List.mem_cons.1 hm with e | hm'
    · injection e with e1 e2
      subst e1;subst e2
      simp only [Qfi,Bool.and_eq_true,List.all_eq_true,Bool.not_eq_true'] at h
      exact h.1 b hb
    · cases o with
      | none=>simp only [Qfi,Bool.and_eq_true] at h;exact Qb5 h.2 hm' b hb
      | some o=>simp only [Qfi] at h;exact Qb5 h hm' b hb
theorem Qfw:∀ {recs:List Rec} (k:Nat) (b:Rec),rmL recs=true→recs[k]? = some b→Qfi (recs.drop k) b.dl.wr=true
  | a::r,0,b,h,hb=>by
    simp only [rmL,Bool.and_eq_true] at h
    simp at hb
    subst hb
    exact h.1
  | a::r,k+1,b,h,hb=>by
    simp only [rmL,Bool.and_eq_true] at h
    exact Qfw k b h.2 (by simpa using hb)
theorem Q8P {listed:Array Bool} {l:Nat}:∀ (recs:List Rec) (i:Nat) (h:Nat→Option Ob),(∀ k b,recs[k]? = some b→Lst listed (i+k)→∀ o,(l,o)∈b.dl.wr→o.isSome=true)→((h l).isSome=true∨∃ k b,recs[k]? = some b∧Lst listed (i+k)∧UZ l b.dl.wr=true)→(hA listed i h recs l).isSome=true
  | [],i,h,_,hs=>by
    rcases hs with hs | ⟨k,b,hb,_⟩
    · exact hs
    · simp at hb
  | rc::rs,i,h,hn,hs=>by
    simp only [hA]
    refine Q8P rs (i+1) _ (fun k b hb hl=>hn (k+1) b (by simpa using hb) (by rw [show i+(k+1)=i+1+k from by omega];exact hl)) ?_
    rcases hs with hs | ⟨k,b,hb,hl,ho⟩
    · left
      split
      · rename_i hli
        exact Q3e (hn 0 rc rfl (by simpa [Lst] using hli)) (.inl hs)
      · exact hs
    · cases k with
      | zero=>
        simp at hb
        subst hb
        left
        rw [if_pos (by simpa [Lst] using hl)]
        exact Q3e (hn 0 rc rfl hl) (.inr ho)
      | succ k=>exact .inr ⟨k,b,by simpa using hb,by rw [show i+1+k=i+(k+1) from by omega];exact hl,ho⟩
theorem QcM {l:Nat} {st:St} {dst:Option Nat} {dl:Dl} (h1:Q3D l st.tm=false) (h2:U2 l dl.v=false):Q3D l (put st dst dl).tm=false:=by
  cases dst <;> simp [put,Q3D,h1,h2]
theorem Ae {l:Nat}:∀ {wr:List (Nat × Option Ob)} {h:List (Nat × Ob)},Su l h=false→E7 l wr=false→Su l (Af h wr)=false
  | [],h,h1,_=>h1
  | (k,none)::r,h,h1,h2=>by simp only [Af];exact Ae (T6 h1) (by simpa [E7] using h2)
  | (k,some (.box c))::r,h,h1,h2=>by
    simp only [E7,Bool.or_eq_false_iff] at h2
    simp only [Af]
    exact Ae (by simp [Su,h2.1,T6 h1]) h2.2
  | (k,some (.arr e s rows))::r,h,h1,h2=>by
    simp only [E7] at h2
    simp only [Af]
    exact Ae (by simp [Su,T6 h1]) h2
theorem Qa7 {listed:Array Bool} {l:Nat}:∀ (recs:List Rec) (i:Nat) (st:St),Jo st l=true→(∀ k b,recs[k]? = some b→Lst listed (i+k)→Q2e l b=false)→Jo (Q2C listed i st recs) l=true
  | [],_,_,h,_=>h
  | rc::rs,i,st,h,hn=>by
    simp only [Q2C]
    refine Qa7 rs (i+1) _ ?_ fun k b hb hl=>hn (k+1) b (by simpa using hb) (by rw [show i+(k+1)=i+1+k from by omega];exact hl)
    cases hl:listed.getD i false with
    | false=>exact h
    | true=>
      have:=hn 0 rc rfl hl
      simp only [Q2e,Bool.or_eq_false_iff] at this
      simp only [Jo,Bool.and_eq_true,Bool.not_eq_true'] at h ⊢
      exact ⟨h.1,QcM h.2.1 this.1,by simp only [cond_true,put];exact Ae h.2.2 this.2⟩
theorem Qby {listed:Array Bool} {d:Nat}:∀ (recs:List Rec) (i:Nat) (st:St),QdM d st.tm=false→(∀ k b,recs[k]? = some b→Lst listed (i+k)→b.dst≠none→gds d b.dl.v=false)→QdM d (Q2C listed i st recs).tm=false
  | [],_,_,h,_=>h
  | rc::rs,i,st,h,hn=>by
    simp only [Q2C]
    refine Qby rs (i+1) _ ?_ fun k b hb hl=>hn (k+1) b (by simpa using hb) (by rw [show i+(k+1)=i+1+k from by omega];exact hl)
    cases hl:listed.getD i false with
    | false=>exact h
    | true=>
      cases hd:rc.dst with
      | none=>simpa [put] using h
      | some d'=>simp [put,QdM,h,hn 0 rc rfl hl (by simp [hd])]
theorem QbY {listed:Array Bool} {d:Nat}:∀ (recs:List Rec) (i:Nat) (st:St),QdM d (Q2C listed i st recs).tm=false→QdM d st.tm=false∧∀ k b,recs[k]? = some b→Lst listed (i+k)→b.dst≠none→gds d b.dl.v=false
  | [],_,_,h=>⟨h,fun k b hb=>by simp at hb⟩
  | rc::rs,i,st,h=>by
    simp only [Q2C] at h
    obtain ⟨h1,h2⟩:=QbY rs (i+1) _ h
    refine ⟨?_,fun k b hb hl hd=>?_⟩
    · cases hl:listed.getD i false with
      | false=>rw [hl] at h1;simpa using h1
      | true=>
        rw [hl] at h1
        cases hd:rc.dst with
        | none=>simpa [put,hd] using h1
        | some d'=>simp only [cond_true,put,hd,QdM,Bool.or_eq_false_iff] at h1;exact h1.2
    · cases k with
      | zero=>
        simp at hb
        subst hb
        have hl':listed.getD i false=true:=by simpa [Lst] using hl
        rw [hl'] at h1
        cases hd':rc.dst with
        | none=>exact absurd hd' hd
        | some d'=>simp only [cond_true,put,hd',QdM,Bool.or_eq_false_iff] at h1;exact h1.1
      | succ k=>exact h2 k b (by simpa using hb) (by rw [show i+1+k=i+(k+1) from by omega];exact hl) hd
def QdL (st:St):Nat→List Rec→St
  | 0,_=>st
  | _,[]=>st
  | i+1,rc::rs=>QdL (put st rc.dst rc.dl) i rs
theorem QbP {ops:Array Oper} {st':St}:∀ {recs:List Rec} {i:Nat} {st:St},Mq P E ops i st recs st'→∀ (k:Nat) (rc:Rec),recs[k]? = some rc →
    (∃ o,ops[i+k]? = some o∧rc.dst=o.dst)∧Q7R (QdL st k recs) rc∧Q3V P E ops (i+k) rc (lkT (QdL st k recs).tm) (look (QdL st k recs).h)
  | [],_,_,_,k,rc,h=>by simp at h
  | r0::rs,i,st,hr,k,rc,h=>by
    obtain ⟨h1,h2,h3,h4⟩:=hr
    cases k with
    | zero=>simp at h;subst h;exact ⟨h1,h2,h3⟩
    | succ k=>
      have:=QbP h4 k rc (by simpa using h)
      rw [show i+1+k=i+(k+1) from by omega] at this
      exact this
theorem Q2v {ops:Array Oper} {st':St}:∀ {recs:List Rec} {i:Nat} {st:St},Mq P E ops i st recs st'→st'=QdL st recs.length recs
  | [],_,_,h=>h
  | _::rs,_,_,h=>Q2v (recs:=rs) h.2.2.2
def DC (n k:Nat):Array Bool:=(Array.range n).map fun i=>decide (i<k)
theorem SZ {n k i:Nat} (hi:i<n):Lst (DC n k) i↔i<k:=by
  unfold Lst DC
  simp [hi]
theorem Q1v {n:Nat}:∀ (recs:List Rec) (i k:Nat) (st:St),i+recs.length≤n→QdL st k recs=Q2C (DC n (i+k)) i st recs
  | [],i,k,st,_=>by cases k <;> rfl
  | rc::rs,i,0,st,h=>by
    simp only [List.length_cons] at h
    simp only [QdL,Q2C]
    have h0:¬ Lst (DC n (i+0)) i:=by rw [SZ (by omega)];omega
    have:(DC n (i+0)).getD i false=false:=by simpa [Lst] using h0
    rw [this]
    simp only [cond_false]
    have:∀ (rs:List Rec) (j:Nat) (st:St),i<j→j+rs.length≤n→Q2C (DC n i) j st rs=st:=by
      intro rs
      induction rs with
      | nil=>intro j st _ _;rfl
      | cons x r ih'=>
        intro j st hj hn
        simp only [List.length_cons] at hn
        simp only [Q2C]
        have h0:¬ Lst (DC n i) j:=by rw [SZ (by omega)];omega
        have:(DC n i).getD j false=false:=by simpa [Lst] using h0
        rw [this]
        exact ih' (j+1) st (by omega) (by omega)
    exact (this rs (i+1) st (by omega) (by omega)).symm
  | rc::rs,i,k+1,st,h=>by
    simp only [List.length_cons] at h
    simp only [QdL,Q2C]
    have h0:Lst (DC n (i+(k+1))) i:=by rw [SZ (by omega)];omega
    have:(DC n (i+(k+1))).getD i false=true:=h0
    rw [this]
    simp only [cond_true]
    rw [Q1v (n:=n) rs (i+1) k _ (by omega),show i+1+k=i+(k+1) from by omega]
end

section
variable {P:Program} {E:Env} {R:Type}
theorem Qbi {L:Array Bool} {t:Nat} {v0:AV}:∀ (recs:List Rec) (i k:Nat) (rc:Rec) (v:AV),recs[k]? = some rc→Lst L (i+k)→rc.dst=some t→rc.dl.v=v0→(∀ k' b,k<k'→recs[k']? = some b→Lst L (i+k')→b.dst≠some t)→lkA L t i v recs=v0
  | [],i,k,rc,v,h,_,_,_,_=>by simp at h
  | r0::rs,i,0,rc,v,h,hl,hd,hv,hlast=>by
    simp at h
    subst h
    simp only [lkA]
    have hl':L.getD i false=true:=by simpa [Lst] using hl
    rw [if_pos ⟨hl',hd⟩,hv]
    have:∀ (rs:List Rec) (j:Nat),(∀ k' b,rs[k']? = some b→Lst L (j+k')→b.dst≠some t)→lkA L t j v0 rs=v0:=by
      intro rs
      induction rs with
      | nil=>intro j _;rfl
      | cons x r ih=>
        intro j hj
        simp only [lkA]
        rw [if_neg (fun h=>hj 0 x rfl h.1 h.2)]
        exact ih (j+1) fun k' b hb hl=>hj (k'+1) b (by simpa using hb) (by rw [show j+(k'+1)=j+1+k' from by omega];exact hl)
    exact this rs (i+1) fun k' b hb hl=>hlast (k'+1) b (by omega) (by simpa using hb) (by rw [show i+(k'+1)=i+1+k' from by omega];exact hl)
  | r0::rs,i,k+1,rc,v,h,hl,hd,hv,hlast=>by
    simp only [lkA]
    exact Qbi rs (i+1) k rc _ (by simpa using h) (by rw [show i+1+k=i+(k+1) from by omega];exact hl) hd hv fun k' b hk hb hl'=>hlast (k'+1) b (by omega) (by simpa using hb) (by rw [show i+(k'+1)=i+1+k' from by omega];exact hl')
theorem QdO {L:Array Bool} {l:Nat} (h0:Nat→Option Ob):∀ (recs:List Rec) (i k:Nat) (rc:Rec) (h:Nat→Option Ob),recs[k]? = some rc→Lst L (i+k)→l∈wrL rc.dl→(∀ k' b,k<k'→recs[k']? = some b→Lst L (i+k')→l ∉ wrL b.dl)→hA L i h recs l=H7 h0 rc.dl.wr l
  | [],i,k,rc,h,hb,_,_,_=>by simp at hb
  | r0::rs,i,0,rc,h,hb,hl,hd,hlast=>by
    simp at hb
    subst hb
    simp only [hA]
    have hl':L.getD i false=true:=by simpa [Lst] using hl
    rw [if_pos hl']
    have:∀ (rs:List Rec) (j:Nat) (f:Nat→Option Ob),(∀ k' b,rs[k']? = some b→Lst L (j+k')→l ∉ wrL b.dl)→hA L j f rs l=f l:=by
      intro rs
      induction rs with
      | nil=>intro j f _;rfl
      | cons x r ih=>
        intro j f hj
        simp only [hA]
        rw [ih (j+1) _ fun k' b hb hl=>hj (k'+1) b (by simpa using hb) (by rw [show j+(k'+1)=j+1+k' from by omega];exact hl)]
        split
        · rename_i hx;exact VZ (hj 0 x rfl hx)
        · rfl
    rw [this rs (i+1) _ fun k' b hb hl=>hlast (k'+1) b (by omega) (by simpa using hb) (by rw [show i+(k'+1)=i+1+k' from by omega];exact hl)]
    exact Qc1 hd
  | r0::rs,i,k+1,rc,h,hb,hl,hd,hlast=>by
    simp only [hA]
    exact QdO h0 rs (i+1) k rc _ (by simpa using hb) (by rw [show i+1+k=i+(k+1) from by omega];exact hl) hd fun k' b hk hb' hl'=>hlast (k'+1) b (by omega) (by simpa using hb') (by rw [show i+(k'+1)=i+1+k' from by omega];exact hl')
theorem Q8T {st:St}:∀ {wr:List (Nat × Option Ob)},(∀ l o,(l,some o)∈wr→look st.h l=none→Jo st l=true)→VJ st wr=true
  | [],_=>rfl
  | (l,o)::r,h=>by
    simp only [VJ,Bool.and_eq_true]
    refine ⟨?_,Q8T fun l' o' hm=>h l' o' (by simp [hm])⟩
    cases o with
    | none=>rfl
    | some o=>
      cases hs:look st.h l with
      | some o'=>rfl
      | none=>exact h l o (by simp) hs
theorem Q7L {l:Nat} {o:Ob}:∀ {wr:List (Nat × Option Ob)},(l,some o)∈wr→UZ l wr=true
  | (k,o')::r,h=>by
    rcases List.mem_cons.1 h with e | h'
    · injection e with e1 e2;subst e1;subst e2;simp [UZ]
    · simp [UZ,Q7L h']
theorem Q5i {p q:Nat→Bool} {i:Nat}:∀ {l:List Nat},i∈l→(∀ x∈l,q x=true→p x=true)→p i=true→q i=false→l.countP q<l.countP p
  | a::r,hm,hle,hp,hq=>by
    have hr:r.countP q≤r.countP p:=List.countP_mono_left fun x hx=>hle x (by simp [hx])
    simp only [List.countP_cons]
    rcases List.mem_cons.1 hm with rfl | hm'
    · simp [hp,hq];omega
    · have:=Q5i hm' (fun x hx=>hle x (by simp [hx])) hp hq
      have h1:=hle a (by simp)
      cases hqa:q a
      · simp;split <;> omega
      · simp [h1 hqa];omega
theorem Nk {listed:Array Bool} {i j:Nat} (hi:i<listed.size):Lst (listed.setIfInBounds i true) j↔j=i∨Lst listed j:=by
  unfold Lst
  simp only [Array.getD,Array.size_setIfInBounds]
  by_cases hj:j<listed.size
  · simp only [hj,dite_true]
    by_cases e:j=i
    · subst e;simp
    · simp [hj,e,Ne.symm e]
  · have:j≠i:=by omega
    simp [hj,this]
theorem Qci {es:List Edge} {i:Nat} (h:Q84 es i=true) (e:Edge) (hm:e∈es) (hb:Region.binds .any e=true):e.on<i:=by
  induction es with
  | nil=>simp at hm
  | cons e0 r ih=>
    simp only [Q84,Bool.and_eq_true,Bool.or_eq_true,Bool.not_eq_true'] at h
    rcases List.mem_cons.1 hm with h0 | hm'
    · subst h0
      rcases h.1 with h1 | h1
      · rw [hb] at h1;cases h1
      · have:=Nat.le_of_ble_eq_true h1;omega
    · exact ih h.2 hm'
theorem NA {l:List Oper} (k:Nat) (o:Oper) (e:Edge) (he:e∈o.after.toList) (hb:Region.binds .any e=true):∀ i,SD l i=true→l[k]? = some o→e.on<i+k:=by
  induction l generalizing k with
  | nil=>intro i _ ho;simp at ho
  | cons o0 r ih=>
    intro i h ho
    simp only [SD,Bool.and_eq_true] at h
    cases k with
    | zero=>simp at ho;subst ho;exact Qci h.1 e he hb
    | succ k=>
      have:=ih k (i+1) h.2 (by simpa using ho)
      omega
theorem E8 {ops:Array Oper} {listed:Array Bool} {i:Nat} (hsz:listed.size=ops.size):i∈Region.ready .any ops listed↔∃ o,ops[i]? = some o∧¬ Lst listed i∧Q9Y listed o.after.toList:=by
  unfold Region.ready
  simp only [List.mem_filter,List.mem_range,Bool.and_eq_true,Bool.not_eq_true']
  constructor
  · rintro ⟨h1,h2,h3⟩
    have ho:=Array.getElem?_eq_getElem h1
    refine ⟨_,ho,?_,?_⟩
    · unfold Lst
      have hi:i<listed.size:=by omega
      simp only [Array.getD,hi,dite_true] at h2 ⊢
      rw [h2];simp
    · rw [ho] at h3
      simp only [Option.map_some,Option.getD_some,Array.all_eq_true_iff_forall_mem,Bool.or_eq_true,Bool.not_eq_true'] at h3
      intro e he hb
      rcases h3 e (by simpa using he) with h4 | h4
      · rw [hb] at h4;cases h4
      · exact h4
  · rintro ⟨o,ho,hn,hp⟩
    have h1:=(Array.getElem?_eq_some_iff.1 ho).1
    have hi:i<listed.size:=by omega
    refine ⟨h1,?_,?_⟩
    · unfold Lst at hn
      simp only [Array.getD,hi,dite_true] at hn ⊢
      simpa using hn
    · rw [ho]
      simp only [Option.map_some,Option.getD_some,Array.all_eq_true_iff_forall_mem,Bool.or_eq_true,Bool.not_eq_true']
      intro e he
      cases hb:Region.binds .any e with
      | false=>exact .inl rfl
      | true=>exact .inr (hp e (by simpa using he) hb)
theorem QeH {ops:Array Oper} {st0 st':St} {recs:List Rec} {Q:Exit→Act→World→Prop} (hlen:recs.length=ops.size) (hrun:Mq P E ops 0 st0 recs st') (hd:Q90 st0 ops.toList recs=true) (hQ:∀ a w,Eh E st' a w→Q .normal a w) :
    ∀ (fuel:Nat) (listed:Array Bool) (a:Act) (w:World),listed.size=ops.size→Q3O ops.toList listed→(List.range ops.size).countP (fun i=>!listed.getD i false)≤fuel→Eh E (Q2C listed 0 st0 recs) a w→wpAny P .any ops Q fuel listed a w:=by
  simp only [Q90,Bool.and_eq_true] at hd
  obtain ⟨⟨hedge,hpairs⟩,hrm⟩:=hd
  obtain ⟨hml,hmask⟩:=Qbl ops.toList ops.toList [] (fun k=>by simp) (fun j i m o h1=>by simp at h1)
  simp only [List.length_nil,Nat.zero_add,Array.length_toList] at hml
  have hall:∀ listed:Array Bool,listed.size=ops.size→Region.ready .any ops listed=[]→∀ i,i<ops.size→Lst listed i:=by
    intro listed hsz hr i
    induction i using Nat.strongRecOn with
    | ind i ih=>
      intro hi
      by_cases hl:Lst listed i
      · exact hl
      · exfalso
        have ho:=Array.getElem?_eq_getElem hi
        have:i∈Region.ready .any ops listed:=(E8 hsz).2 ⟨_,ho,hl,fun e he hb=>ih e.on (by
          have:=NA i _ e he hb 0 hedge (by rw [Array.getElem?_toList];exact ho);omega) (by
          have:=NA i _ e he hb 0 hedge (by rw [Array.getElem?_toList];exact ho);omega)⟩
        rw [hr] at this
        simp at this
  have hfin:∀ (listed:Array Bool) (a:Act) (w:World),(∀ i,i<ops.size→Lst listed i)→Eh E (Q2C listed 0 st0 recs) a w→Q .normal a w:=by
    intro listed a w hl hR
    refine hQ a w (hR.same ?_ (fun t=>?_) ?_)
    · rw [Q2v hrun,Q1v (n:=ops.size) recs 0 _ st0 (by omega),Q7F,Q7F]
    · rw [Q2v hrun,Q1v (n:=ops.size) recs 0 _ st0 (by omega),Q0C,Q0C]
      refine Q2u recs 0 _ fun k rc hk _=>?_
      have hk':=(List.getElem?_eq_some_iff.1 hk).1
      rw [SZ (by omega)]
      exact ⟨fun _=>hl _ (by omega),fun _=>by omega⟩
    · rw [Q2v hrun,Q1v (n:=ops.size) recs 0 _ st0 (by omega),Q41,Q41]
      funext l
      refine Q52 recs 0 _ _ rfl fun k rc hk _=>?_
      have hk':=(List.getElem?_eq_some_iff.1 hk).1
      rw [SZ (by omega)]
      exact ⟨fun _=>hl _ (by omega),fun _=>by omega⟩
  intro fuel
  induction fuel with
  | zero=>
    intro listed a w hsz hcl hcnt hR
    have hl:∀ i,i<ops.size→Lst listed i:=by
      intro i hi
      have h0:(List.range ops.size).countP (fun i=>!listed.getD i false)=0:=by omega
      rw [List.countP_eq_zero] at h0
      have:=h0 i (by simpa using hi)
      simpa [Lst] using this
    refine ⟨?_,hfin listed a w hl hR⟩
    cases hr:Region.ready .any ops listed with
    | nil=>rfl
    | cons x xs=>
      exfalso
      obtain ⟨o,ho,hn,_⟩:=(E8 hsz).1 (by rw [hr];simp:x∈Region.ready .any ops listed)
      exact hn (hl x (Array.getElem?_eq_some_iff.1 ho).1)
  | succ fuel ih=>
    intro listed a w hsz hcl hcnt hR
    refine ⟨fun hr=>hfin listed a w (hall listed hsz hr) hR,fun i hi=>?_⟩
    obtain ⟨o,ho,hni,hpi⟩:=(E8 hsz).1 hi
    have hilt:=(Array.getElem?_eq_some_iff.1 ho).1
    obtain ⟨rc,hrc⟩:∃ rc,recs[i]? = some rc:=⟨_,List.getElem?_eq_getElem (by omega)⟩
    obtain ⟨⟨o',ho',hdst⟩,hside,hstep⟩:=QbP hrun i rc hrc
    simp only [Nat.zero_add] at ho' hstep
    have hbefore:∀ (j m:Nat),(Q86 ops.toList [])[i]? = some m→m.testBit j=true→Lst listed j:=fun j m h1 h2=>hmask i j m o h1 (by rw [Array.getElem?_toList];exact ho) h2 listed hcl hpi
    have hafter:∀ (j m:Nat),(Q86 ops.toList [])[j]? = some m→j<ops.size→m.testBit i=true→¬ Lst listed j:=fun j m h1 h2 h3 hl=>by
      have hoj:=Array.getElem?_eq_getElem h2
      exact hni (hmask j i m _ h1 (by rw [Array.getElem?_toList];exact hoj) h3 listed hcl (hcl j _ (by rw [Array.getElem?_toList];exact hoj) hl))
    have hpair:∀ (p q:Nat) (x y:Rec),p<q→recs[p]? = some x→recs[q]? = some y→∃ m,(Q86 ops.toList [])[q]? = some m∧(UA x y=true∨QgG x.dst y.dl.v=true→m.testBit p=true):=by
      intro p q x y hpq hx hy
      obtain ⟨seen',_,g2,_⟩:=Q0l hpairs p x hx
      obtain ⟨m,hm,hc⟩:=Q3h g2 (q-(p+1)) y (by rw [List.getElem?_drop,show p+1+(q-(p+1))=q from by omega];exact hy)
      rw [List.getElem?_drop,show p+1+(q-(p+1))=q from by omega] at hm
      refine ⟨m,hm,fun h=>?_⟩
      have:=hc (by rcases h with h | h;exact .inl h;exact .inr (.inr h))
      simpa using this
    have hlow:∀ (j:Nat) (b:Rec),j<i→recs[j]? = some b→UA b rc=true→Lst listed j:=fun j b hj hb hc=>by
      obtain ⟨m,hm,h1⟩:=hpair j i b rc hj hb hrc
      exact hbefore j m hm (h1 (.inl hc))
    have hhigh:∀ (j:Nat) (b:Rec),i<j→recs[j]? = some b→UA rc b=true∨QgG rc.dst b.dl.v=true→¬ Lst listed j:=fun j b hj hb hc=>by
      obtain ⟨m,hm,h1⟩:=hpair i j rc b hj hrc hb
      exact hafter j m hm (by have:=(List.getElem?_eq_some_iff.1 hb).1;omega) (h1 hc)
    have hiff:∀ (k:Nat) (b:Rec),recs[k]? = some b→(k<i→UA b rc=true)→(i<k→UA rc b=true)→(Lst listed (0+k)↔Lst (DC ops.size (0+i)) (0+k)):=by
      intro k b hb h1 h2
      have hk':=(List.getElem?_eq_some_iff.1 hb).1
      rw [SZ (by omega)]
      simp only [Nat.zero_add]
      rcases Nat.lt_trichotomy k i with h | h | h
      · exact ⟨fun _=>h,fun _=>hlow k b h hb (h1 h)⟩
      · subst h;exact ⟨fun hl=>absurd hl hni,fun hl=>by omega⟩
      · exact ⟨fun hl=>absurd hl (hhigh k b h hb (.inl (h2 h))),fun hl=>by omega⟩
    have hst:QdL st0 i recs=Q2C (DC ops.size (0+i)) 0 st0 recs:=Q1v recs 0 i st0 (by omega)
    have c1:∀ t,t∈rc.rt→lkT (Q2C listed 0 st0 recs).tm t=lkT (QdL st0 i recs).tm t:=by
      intro t ht
      rw [hst,Q0C,Q0C]
      refine Q2u recs 0 _ fun k b hk hdb=>hiff k b hk (fun _=>?_) (fun _=>?_)
      · simp [UA,inO,hdb,Q5H ht]
      · simp [UA,inO,hdb,Q5H ht]
    have c2:∀ l,l∈rc.dl.rd∨l∈wrL rc.dl→look (Q2C listed 0 st0 recs).h l=look (QdL st0 i recs).h l:=by
      intro l hl
      rw [hst,Q41,Q41]
      refine Q52 recs 0 _ _ rfl fun k b hk hw=>hiff k b hk (fun _=>?_) (fun _=>?_)
      · rcases hl with hl | hl
        · simp [UA,EN hw hl]
        · simp [UA,EN hw hl]
      · rcases hl with hl | hl
        · simp [UA,EN hw hl]
        · simp [UA,EN hl hw]
    have c3:Q9u (Q2C listed 0 st0 recs) rc.dl.v rc.dst=true:=by
      have h1:=hside.1
      cases hdd:rc.dst with
      | none=>rfl
      | some d=>
        rw [hdd,hst] at h1
        simp only [Q9u,Bool.and_eq_true,Bool.not_eq_true',Q7F] at h1 ⊢
        obtain ⟨g1,g2⟩:=QbY recs 0 st0 h1.2.2
        refine ⟨h1.1,h1.2.1,Qby recs 0 st0 g1 fun k b hb hl hn=>?_⟩
        have hk':=(List.getElem?_eq_some_iff.1 hb).1
        rcases Nat.lt_trichotomy k i with h | h | h
        · exact g2 k b hb (by rw [SZ (by omega)];omega) hn
        · subst h;simp only [Nat.zero_add] at hl;exact absurd hl hni
        · cases hg:gds d b.dl.v with
          | false=>rfl
          | true=>simp only [Nat.zero_add] at hl;exact absurd hl (hhigh k b h hb (.inr (by simp [QgG,hdd,hg])))
    have c4:VJ (Q2C listed 0 st0 recs) rc.dl.wr=true:=by
      refine Q8T fun l ob hm hnone=>?_
      have hs:=Q7L hm
      have hnorm:∀ k b,recs[k]? = some b→Lst listed (0+k)→∀ o,(l,o)∈b.dl.wr→o.isSome=true:=by
        intro k b hb hlk o ho
        simp only [Nat.zero_add] at hlk
        cases o with
        | some _=>rfl
        | none=>
          exfalso
          rcases Nat.lt_trichotomy k i with h | h | h
          · have:=Qb5 (Qfw k b hrm hb) ho rc (List.mem_of_getElem? (i:=i-k) (by rw [List.getElem?_drop,show k+(i-k)=i from by omega];exact hrc))
            rw [hs] at this;cases this
          · subst h;exact hni hlk
          · have hmm:NM (wrL rc.dl) (wrL b.dl)=true:=EN (x:=l) (D6 hs) (List.mem_map.2 ⟨_,ho,rfl⟩)
            exact hhigh k b h hb (.inl (by simp [UA,hmm])) hlk
      rw [Q41] at hnone
      have hz:look st0.h l=none:=by
        cases hz:look st0.h l with
        | none=>rfl
        | some ob'=>
          have:=Q8P (listed:=listed) recs 0 (look st0.h) hnorm (.inl (by simp [hz]))
          rw [hnone] at this;cases this
      have hno:∀ k b,k<i→recs[k]? = some b→UZ l b.dl.wr=false:=by
        intro k b hk hb
        cases hh:UZ l b.dl.wr with
        | false=>rfl
        | true=>
          have hmm:NM (wrL b.dl) (wrL rc.dl)=true:=EN (x:=l) (D6 hh) (D6 hs)
          have hc:UA b rc=true:=by simp [UA,hmm]
          have:=Q8P (listed:=listed) recs 0 (look st0.h) hnorm (.inr ⟨k,b,hb,by simpa using hlow k b hk hb hc,hh⟩)
          rw [hnone] at this;cases this
      obtain ⟨seen',g1,g2,g3⟩:=Q0l hpairs i rc hrc
      have hmem:l∈My st0 seen' rc.dl.wr:=Q9h hz (fun hl=>by
        rcases g1 l hl with h | ⟨k',b,h1,h2,h3⟩
        · simp at h
        · rw [hno k' b h1 h2] at h3;cases h3) hs
      obtain ⟨g4,_,g6⟩:=g3 l hmem
      refine Qa7 recs 0 st0 g4 fun k b hb hl=>?_
      simp only [Nat.zero_add] at hl
      have hk':=(List.getElem?_eq_some_iff.1 hb).1
      rcases Nat.lt_trichotomy k i with h | h | h
      · exact g6 k b h hb
      · subst h;exact absurd hl hni
      · cases hr:Q2e l b with
        | false=>rfl
        | true=>
          exfalso
          obtain ⟨m,hm',hc⟩:=Q3h g2 (k-(i+1)) b (by rw [List.getElem?_drop,show i+1+(k-(i+1))=k from by omega];exact hb)
          rw [List.getElem?_drop,show i+1+(k-(i+1))=k from by omega] at hm'
          exact hafter k m hm' (by omega) (by have:=hc (.inr (.inl ⟨l,hmem,hr⟩));simpa using this) hl
    have hwp:=hstep _ a w hR c1 c2 c3 c4 Q
    have hisz:i<listed.size:=by omega
    refine wpOp_mono (fun a' w' hR'=>?_) hwp
    refine ih (listed.setIfInBounds i true) a' w' (by simpa using hsz) ?_ ?_ ?_
    · intro j oj hoj hl e he hb
      rw [Nk hisz] at hl ⊢
      rcases hl with rfl | hl
      · have:oj=o:=by
          have:ops[j]? = some oj:=by simpa using hoj
          rw [ho] at this;injection this with this;exact this.symm
        subst this
        exact .inr (hpi e he hb)
      · exact .inr (hcl j oj hoj hl e he hb)
    · have:(List.range ops.size).countP (fun j=>!(listed.setIfInBounds i true).getD j false)<(List.range ops.size).countP (fun j=>!listed.getD j false):=by
        refine Q5i (i:=i) (by simpa using hilt) (fun x _ hx=>?_) ?_ ?_
        · cases hl:listed.getD x false with
          | false=>rfl
          | true=>
            have:Lst (listed.setIfInBounds i true) x:=(Nk hisz).2 (.inr hl)
            simp only [Lst] at this
            rw [this] at hx;cases hx
        · cases hl:listed.getD i false with
          | false=>rfl
          | true=>exact absurd hl hni
        · have:Lst (listed.setIfInBounds i true) i:=(Nk hisz).2 (.inl rfl)
          simp only [Lst] at this
          rw [this];rfl
      omega
    · have hother:∀ k,k≠i→(Lst (listed.setIfInBounds i true) (0+k)↔Lst listed (0+k)):=fun k hk=>by
        rw [Nk hisz];simp only [Nat.zero_add];exact ⟨fun h=>h.resolve_left hk,.inr⟩
      have hself:Lst (listed.setIfInBounds i true) (0+i):=by rw [Nk hisz];exact .inl (Nat.zero_add i)
      refine hR'.same ?_ (fun t=>?_) ?_
      · rw [Q7F];simp [put,Q7F]
      · rw [Q0C,Qep]
        by_cases e:rc.dst=some t
        · rw [if_pos e]
          refine Qbi recs 0 i rc _ hrc hself e rfl fun k' b hk hb hl=>?_
          intro hdb
          rw [hother k' (by omega)] at hl
          simp only [Nat.zero_add] at hl
          exact hhigh k' b hk hb (.inl (by simp [UA,e,hdb])) hl
        · rw [if_neg e,Q0C]
          refine Q2u recs 0 _ fun k b hb hdb=>hother k (fun e2=>?_)
          subst e2
          rw [hrc] at hb;injection hb with hb;subst hb
          exact e hdb
      · rw [Q41]
        funext l
        have:look (put (Q2C listed 0 st0 recs) rc.dst rc.dl).h l=H7 (hA listed 0 (look st0.h) recs) rc.dl.wr l:=by
          simp only [put,Rt,Q41]
        rw [this]
        by_cases e:l∈wrL rc.dl
        · exact QdO _ recs 0 i rc _ hrc hself e fun k' b hk hb hl hw=>by
            rw [hother k' (by omega)] at hl
            simp only [Nat.zero_add] at hl
            exact hhigh k' b hk hb (.inl (by simp [UA,EN e hw])) hl
        · rw [VZ e]
          refine Q52 recs 0 _ _ rfl fun k b hb hw=>hother k (fun e2=>?_)
          subst e2
          rw [hrc] at hb;injection hb with hb;subst hb
          exact e hw
end

section
variable {P:Program} {E:Env} {R:Type}
def inv (ρ:List (Nat × Nat)) (k:Nat):Option Nat:=
  match ρ with
  | []=>none
  | (l,l')::r=>if l'=k then some l else inv r k
theorem Qeo {k l:Nat}:∀ {ρ:List (Nat × Nat)},inv ρ k=some l→(l,k)∈ρ
  | (a,b)::r,h=>by
    unfold inv at h
    by_cases e:b=k
    · rw [if_pos e] at h;injection h with h;subst e;subst h;simp
    · rw [if_neg e] at h;simp [Qeo h]
theorem Rv {ρ:List (Nat × Nat)} {f:Nat × Nat→Nat} (h:Uq (ρ.map f)=true):∀ p q,p∈ρ→q∈ρ→f p=f q→p=q:=by
  induction ρ with
  | nil=>intro p q hp;simp at hp
  | cons x r ih=>
    simp only [List.map_cons,Uq,Bool.and_eq_true,Bool.not_eq_true'] at h
    have hx:∀ q∈r,f q≠f x:=fun q hq e=>by
      have:Q2D (f x) (r.map f)=true:=Q58.2 (List.mem_map.2 ⟨q,hq,e⟩)
      rw [h.1] at this;cases this
    intro p q hp hq he
    rcases List.mem_cons.1 hp with hp' | hp' <;> rcases List.mem_cons.1 hq with hq' | hq'
    · rw [hp',hq']
    · exact absurd (by rw [← he,hp']) (hx q hq')
    · exact absurd (by rw [he,hq']) (hx p hp')
    · exact ih h.2 p q hp' hq' he
theorem Q9W {ρ:List (Nat × Nat)} (h:Uq (ρ.map (·.2))=true) {l k:Nat} (hm:(l,k)∈ρ):inv ρ k=some l:=by
  induction ρ with
  | nil=>simp at hm
  | cons x r ih=>
    obtain ⟨a,b⟩:=x
    unfold inv
    by_cases e:b=k
    · rw [if_pos e]
      have:=Rv h (a,b) (l,k) (by simp) hm e
      injection this with h1 h2
      rw [h1]
    · rw [if_neg e]
      rcases List.mem_cons.1 hm with hm | hm
      · injection hm with h1 h2;exact absurd h2.symm e
      · simp only [List.map_cons,Uq,Bool.and_eq_true] at h
        exact ih h.2 hm
theorem YG {α:Type} {l:Nat} {o:α}:∀ {ρ:List (Nat × α)},look ρ l=some o→(l,o)∈ρ
  | (a,b)::r,h=>by
    rw [X4] at h
    by_cases e:l=a
    · rw [if_pos e] at h;injection h with h;subst e;subst h;simp
    · rw [if_neg e] at h;simp [YG h]
theorem Eb {ρ:List (Nat × Nat)} {h:List (Nat × Ob)}:∀ {ρs:List (Nat × Nat)} {k:Nat} {o:Ob},look (Q2L ρ h ρs) k=some o→∃ l o',(l,k)∈ρs∧look h l=some o'∧o=Qfk ρ o'
  | [],k,o,hk=>by simp [Q2L,look] at hk
  | (l,l')::r,k,o,hk=>by
    unfold Q2L at hk
    split at hk
    · rename_i o' ho'
      rw [X4] at hk
      by_cases e:k=l'
      · rw [if_pos e] at hk
        injection hk with hk
        subst e
        exact ⟨l,o',by simp,ho',hk.symm⟩
      · rw [if_neg e] at hk
        obtain ⟨l2,o2,h1,h2⟩:=Eb hk
        exact ⟨l2,o2,by simp [h1],h2⟩
    · obtain ⟨l2,o2,h1,h2⟩:=Eb hk
      exact ⟨l2,o2,by simp [h1],h2⟩
theorem A6 {ρ:List (Nat × Nat)} {h:List (Nat × Ob)}:∀ {ρs:List (Nat × Nat)} {l k:Nat} {o:Ob},Uq (ρs.map (·.2))=true→(l,k)∈ρs→look h l=some o→look (Q2L ρ h ρs) k=some (Qfk ρ o)
  | [],l,k,o,_,hm,_=>by simp at hm
  | (a,b)::r,l,k,o,hn,hm,ho=>by
    have hn':=hn
    simp only [List.map_cons,Uq,Bool.and_eq_true,Bool.not_eq_true'] at hn
    unfold Q2L
    rcases List.mem_cons.1 hm with e | hm'
    · injection e with e1 e2
      subst e1;subst e2
      rw [ho]
      simp [X4]
    · have hne:k≠b:=fun e=>by
        subst e
        have:Q2D k (r.map (·.2))=true:=Q58.2 (List.mem_map.2 ⟨(l,k),hm',rfl⟩)
        rw [hn.1] at this;cases this
      have ih:=A6 (ρ:=ρ) (h:=h) hn.2 hm' ho
      split
      · rw [X4,if_neg hne];exact ih
      · exact ih
theorem GC {ρ:List (Nat × Nat)}:∀ {l:List AV} {i:Nat},(Qai ρ l)[i]? = (l[i]?).map (G6 ρ)
  | [],i=>by simp [Qai]
  | a::r,0=>by simp [Qai]
  | a::r,i+1=>by simp only [Qai,List.getElem?_cons_succ];exact GC
theorem WN {ρ:List (Nat × Nat)}:∀ {l:List AV},(Qai ρ l).length=l.length
  | []=>rfl
  | a::r=>by simp [Qai,WN (l:=r)]
theorem Q88 {ρ:List (Nat × Nat)} {ty:TypeId} {cells:List AV} (h:Qcz ty cells):Qcz ty (Qai ρ cells):=by
  intro i l t hi
  rw [GC,Option.map_eq_some_iff] at hi
  obtain ⟨y,hy,he⟩:=hi
  cases y with
  | sa l' t'=>
    simp only [G6] at he
    split at he
    · injection he with h1 h2
      subst h2
      exact h i l' _ hy
    · cases he
  | ptr a b=>simp only [G6] at he;split at he <;> cases he
  | arr a=>simp only [G6] at he;split at he <;> cases he
  | ap a b c=>simp only [G6] at he;split at he <;> cases he
  | _=>simp [G6] at he
theorem QeB {ty:TypeId} {cells:List AV} {c l:Nat} (h:Qcz ty cells):Qcz ty (cells.set c (.arr l)):=by
  intro i l' t hi
  rw [List.getElem?_set] at hi
  split at hi
  · split at hi <;> cases hi
  · exact h i l' t hi
theorem Qbg {ρ:List (Nat × Nat)} {β:Nat→Option Nat} {S:Nat→Prop} {h:List (Nat × Ob)} (hn:Uq (ρ.map (·.2))=true) {β':Nat→Option Nat} (hb':∀ l k,(l,k)∈ρ→β' k=β l) {w:World} {tm:Nat→Value} {v:Value} {av:AV}
    (hv:RdA β S (look h) w tm v av):RdA β' S (look (Q2L ρ h ρ)) w tm v (G6 ρ av):=by
  have hβ:∀ {l l':Nat},look ρ l=some l'→β' l'=β l:=fun {l l'} hl=>hb' l l' (YG hl)
  have hnone:∀ {l l':Nat},look ρ l=some l'→look h l=none→look (Q2L ρ h ρ) l'=none:=fun {l l'} hl hh=>by
    cases hk:look (Q2L ρ h ρ) l' with
    | none=>rfl
    | some o=>
      obtain ⟨l2,o2,h1,h2,_⟩:=Eb hk
      have e1:=Q9W hn h1
      rw [Q9W hn (YG hl)] at e1
      injection e1 with e1
      subst e1
      rw [hh] at h2;cases h2
  induction hv with
  | top v=>exact .top v
  | d v x hx=>exact .d v x hx
  | nil=>exact .nil
  | ag cs l hl _ ih=>
    refine .ag cs _ (by rw [WN];exact hl) fun i x hx=>?_
    rw [GC,Option.map_eq_some_iff] at hx
    obtain ⟨y,hy,rfl⟩:=hx
    exact ih i y hy
  | tup cs l hl _ ih=>
    refine .tup cs _ (by rw [WN];exact hl) fun i x hx=>?_
    rw [GC,Option.map_eq_some_iff] at hx
    obtain ⟨y,hy,rfl⟩:=hx
    exact ih i y hy
  | fn f cs l hl _ ih=>
    refine .fn f cs _ (by rw [WN];exact hl) fun i x hx=>?_
    rw [GC,Option.map_eq_some_iff] at hx
    obtain ⟨y,hy,rfl⟩:=hx
    exact ih i y hy
  | ptr l off b hb=>
    unfold G6
    split
    · rename_i l' hl;exact .ptr _ _ _ ((hβ hl).trans hb)
    · exact .top _
  | sa v l t b hb hv=>
    unfold G6
    split
    · rename_i l' hl;exact .sa _ _ _ b ((hβ hl).trans hb) hv
    · exact .top _
  | el ad row off c hs hc hr=>exact .el ad row off c hs hc hr
  | fs ad s rows hx=>exact .fs ad s rows hx
  | mpd v f hm=>exact .mpd v f hm
  | ex v=>exact .ex v
  | arr0 l e s hb hh=>
    unfold G6
    split
    · rename_i l' hl;exact .arr0 _ e s ((hβ hl).trans hb) (A6 hn (YG hl) hh)
    · exact .top _
  | arr l b cap e s rows cs ty fz hb hh hw hcs hcap hmax=>
    unfold G6
    split
    · rename_i l' hl;exact .arr _ b cap e s rows cs ty fz ((hβ hl).trans hb) (A6 hn (YG hl) hh) hw hcs hcap hmax
    · exact .top _
  | ap l i off b e s rows hb hh=>
    unfold G6
    split
    · rename_i l' hl;exact .ap _ i off b e s rows ((hβ hl).trans hb) (A6 hn (YG hl) hh)
    · exact .top _
  | dang v av l hl hh h1=>
    cases av <;> simp [Ha] at hl
    · subst hl
      unfold G6
      split
      · rename_i l' hl';exact .dang _ _ l' rfl (hnone hl' hh) h1
      · exact .top _
    · subst hl
      unfold G6
      split
      · rename_i l' hl';exact .dang _ _ l' rfl (hnone hl' hh) h1
      · exact .top _
  | gdT=>exact .top _
  | gdF=>exact .top _
theorem Q7K {ρ:List (Nat × Nat)} {tm:List (Nat × AV)} {t:Nat} {av:AV}:∀ {ks:List Nat},look (QdJ ρ tm ks) t=some av→av=G6 ρ (lkT tm t)
  | k::r,h=>by
    simp only [QdJ,X4] at h
    by_cases e:t=k
    · rw [if_pos e] at h;injection h with h;rw [← h,e]
    · rw [if_neg e] at h;exact Q7K h
theorem Qey {st:St} {a:Act} {w:World} {ρ:List (Nat × Nat)} {ks:List Nat} (h1:Uq (ρ.map (·.1))=true) (h2:Uq (ρ.map (·.2))=true) (h3:∀ l k,(l,k)∈ρ→l=k∨k≤999999) (h:Eh E st a w):Eh E { n:=st.n,tm:=QdJ ρ st.tm ks,h:=Q2L ρ st.h ρ } a w:=by
  obtain ⟨β,S,hR⟩:=h
  have hβ:∀ l k,(l,k)∈ρ→(if 1000000≤k then β k else (inv ρ k).bind β)=β l:=by
    intro l k hm
    split
    · rcases h3 l k hm with h | h
      · rw [h]
      · omega
    · rw [Q9W h2 hm];rfl
  have hsome:∀ {k b:Nat},(look (Q2L ρ st.h ρ) k).isSome=true→(if 1000000≤k then β k else (inv ρ k).bind β)=some b→∃ l,(l,k)∈ρ∧(look st.h l).isSome=true∧β l=some b:=by
    intro k b hs hb
    obtain ⟨o,ho⟩:=Option.isSome_iff_exists.1 hs
    obtain ⟨l,o',g1,g2,_⟩:=Eb ho
    rw [hβ l k g1] at hb
    exact ⟨l,g1,by simp [g2],hb⟩
  refine ⟨fun k=>if 1000000≤k then β k else (inv ρ k).bind β,S,hR.n,hR.dfr,fun t av ht=>?_,⟨fun k o ho=>?_,fun k k' b s1 s2 b1 b2=>?_,fun k b s1 b1=>?_,fun k b s1 b1=>?_,hR.hr.sb,hR.hr.sfr,hR.hr.s0,hR.hr.fr,fun k hk=>by simp only [if_pos hk];exact hR.hr.pin k hk,fun k b hk s1 b1=>?_⟩⟩
  · rw [Q7K ht]
    refine Qbg h2 hβ ?_
    unfold lkT
    cases hl:look st.tm t with
    | none=>exact .top _
    | some av'=>exact hR.tm t av' hl
  · obtain ⟨l,o',g1,g2,rfl⟩:=Eb ho
    have hb':=hβ l k g1
    have hob:=hR.hr.ob l o' g2
    cases o' with
    | box cells=>
      obtain ⟨b,ty,cs,fz,hb,hw,hf,hsz,hr⟩:=hob
      refine ⟨b,ty,cs,fz,hb'.trans hb,hw,⟨hf.1,Q88 hf.2⟩,by rw [hsz,WN],fun i x hx=>?_⟩
      rw [GC,Option.map_eq_some_iff] at hx
      obtain ⟨y,hy,rfl⟩:=hx
      exact Qbg h2 hβ (hr i y hy)
    | arr e s rows=>
      rcases hob with ⟨hb,hn⟩ | ⟨b,cs,hb,hw,hsz,hrl,hr⟩
      · exact .inl ⟨hb'.trans hb,hn⟩
      · exact .inr ⟨b,cs,hb'.trans hb,hw,hsz,hrl,hr⟩
  · obtain ⟨l,g1,g2,g3⟩:=hsome s1 b1
    obtain ⟨l',g1',g2',g3'⟩:=hsome s2 b2
    have:=hR.hr.inj l l' b g2 g2' g3 g3'
    subst this
    have:=Rv h1 (l,k) (l,k') g1 g1' rfl
    injection this
  · obtain ⟨l,g1,g2,g3⟩:=hsome s1 b1
    exact hR.hr.apart l b g2 g3
  · obtain ⟨l,g1,g2,g3⟩:=hsome s1 b1
    exact hR.hr.own l b g2 g3
  · obtain ⟨l,g1,g2,g3⟩:=hsome s1 b1
    rcases h3 l k g1 with h | h
    · subst h
      exact hR.hr.psz l b hk g2 g3
    · omega
theorem Q9U {t k:Nat} {v av:AV}:∀ {tm:List (Nat × AV)},look (QhP tm t v) k=some av→(k=t∧av=v)∨look tm k=some av
  | (a,b)::r,h=>by
    unfold QhP at h
    cases hb:Nat.beq a t with
    | true=>
      have:=Nat.eq_of_beq_eq_true hb
      subst this
      simp only [hb,cond_true,X4] at h
      by_cases e:k=a
      · rw [if_pos e] at h;injection h with h;exact .inl ⟨e,h.symm⟩
      · rw [if_neg e] at h;exact .inr (by rw [X4,if_neg e];exact h)
    | false=>
      simp only [hb,cond_false,X4] at h
      by_cases e:k=a
      · rw [if_pos e] at h;exact .inr (by rw [X4,if_pos e];exact h)
      · rw [if_neg e] at h
        rcases Q9U h with h | h
        · exact .inl h
        · exact .inr (by rw [X4,if_neg e];exact h)
theorem Q9D {β:Nat→Option Nat} {S:Nat→Prop} {st:St} {a:Act} {w:World} (hR:Rel E β S st a w) {l e s:Nat} (hc:Jo st l=true) (hn:look st.h l=none):Rel E (Cp β l none) S ⟨st.n,st.tm,(l,.arr e s [])::st.h⟩ a w:=by
  have hlk:∀ k,look ((l,Ob.arr e s [])::st.h) k=if k=l then some (.arr e s []) else look st.h k:=fun k=>X4 l k _ st.h
  have hne:∀ {k b:Nat},(look ((l,Ob.arr e s [])::st.h) k).isSome=true→Cp β l none k=some b→(look st.h k).isSome=true∧β k=some b:=by
    intro k b h1 h2
    rw [hlk] at h1
    unfold Cp at h2
    by_cases e1:k=l
    · rw [if_pos e1] at h2;cases h2
    · rw [if_neg e1] at h1 h2;exact ⟨h1,h2⟩
  refine hR.upd (fun _ h=>h) (fun _ _=>rfl) (fun k=>k=l) (fun k hk=>⟨by simp [Cp,hk],by rw [hlk,if_neg hk],fun _ _ _=>rfl⟩) (fun k hk=>.inr (hk▸hc)) (fun k o hk ho=>?_) (fun k k' b h1 h2 h3 h4=>?_) (fun k b h1 h2=>?_) (fun k b h1 h2=>?_) hR.hr.sb hR.hr.sfr hR.hr.fr
  · subst hk
    rw [hlk,if_pos rfl] at ho
    injection ho with ho
    subst ho
    exact .inl ⟨by simp [Cp],rfl⟩
  · exact hR.hr.inj k k' b (hne h1 h3).1 (hne h2 h4).1 (hne h1 h3).2 (hne h2 h4).2
  · exact hR.hr.apart k b (hne h1 h2).1 (hne h1 h2).2
  · exact hR.hr.own k b (hne h1 h2).1 (hne h1 h2).2
theorem Q5c {a:Act} {w:World}:∀ (l:List (Nat × Nat × Nat × Nat)) (st:St),Eh E st a w→Eh E (QgH st l) a w
  | [],st,h=>h
  | (t,l,e,s)::r,st,h=>by
    unfold QgH
    split
    · rename_i hnil
      cases hc:(Jo st l&&(look st.h l).isNone) with
      | false=>simp only [cond_false];exact Q5c r st h
      | true=>
        simp only [cond_true]
        refine Q5c r _ ?_
        simp only [Bool.and_eq_true,Option.isNone_iff_eq_none] at hc
        obtain ⟨β,S,hR⟩:=h
        have hR':=Q9D (e:=e) (s:=s) hR hc.1 hc.2
        have hv:=(hR.tm t _ (Dj hnil (by simp))).nil_inv
        refine ⟨_,S,hR'.n,hR'.dfr,fun t' av ht=>?_,hR'.hr⟩
        rcases Q9U ht with ⟨rfl,rfl⟩ | ht
        · rw [hv]
          exact .arr0 l e s (by simp [Cp]) (by simp [X4])
        · exact hR'.tm t' av ht
    · exact Q5c r st h
theorem Q2q {a:Act} {w:World}:∀ (l:List (Nat × Nat × Nat × Nat × Nat)) (st:St),Eh E st a w→Eh E (Qgk st l) a w
  | [],st,h=>h
  | (b,c,l,e,s)::r,st,h=>by
    unfold Qgk
    split
    · rename_i cells hbox
      split
      · rename_i hnil
        cases hc:(Jo st l&&(look st.h l).isNone) with
        | false=>simp only [cond_false];exact Q2q r st h
        | true=>
          simp only [cond_true]
          refine Q2q r _ ?_
          simp only [Bool.and_eq_true,Option.isNone_iff_eq_none] at hc
          obtain ⟨β,S,hR⟩:=h
          have hbl:b≠l:=fun e=>by subst e;rw [hc.2] at hbox;cases hbox
          have hR':=Q9D (e:=e) (s:=s) hR hc.1 hc.2
          have hbox':look ((l,Ob.arr e s [])::st.h) b=some (.box cells):=by rw [X4,if_neg hbl];exact hbox
          obtain ⟨bb,ty,cs,fz,hb,hw,hf,hsz,hr⟩:=hR'.hr.ob b _ hbox'
          have hset:=hR'.set (w':=w) (o':=.box (cells.set c (.arr l))) hbox' hb (fun _ _=>rfl) rfl rfl rfl rfl ?_ ?_
          · refine Eh.same ⟨_,S,hset⟩ rfl (fun _=>rfl) ?_
            funext k
            simp only [X4,Q56]
            by_cases e1:k=l
            · have:k≠b:=fun h=>hbl (h▸e1)
              simp [e1,Ne.symm hbl]
            · by_cases e2:k=b
              · simp [e2,hbl]
              · simp [e1,e2]
          · refine ⟨rfl,fun h=>?_,fun e' s' rows h=>?_,fun b2 cs2 ty2 fz2 _ _ hw2=>⟨cs2,ty2,fz2,hw2,rfl⟩⟩
            · rw [hbox'] at h;cases h
            · rw [hbox'] at h;cases h
          · have hkeep:∀ k,Keep (Cp β l none) (look ((l,Ob.arr e s [])::st.h)) w (Cp β l none) (look ((b,.box (cells.set c (.arr l)))::rem b ((l,Ob.arr e s [])::st.h))) w k:=by
              intro k
              by_cases e1:k=b
              · subst e1
                refine ⟨rfl,fun h=>?_,fun e' s' rows h=>?_,fun b2 cs2 ty2 fz2 _ _ hw2=>⟨cs2,ty2,fz2,hw2,rfl⟩⟩
                · rw [hbox'] at h;cases h
                · rw [hbox'] at h;cases h
              · refine ⟨rfl,fun h=>by rw [Jz,if_neg e1];exact h,fun e' s' rows h=>.inr ⟨rows,by rw [Jz,if_neg e1];exact h,rfl⟩,fun b2 cs2 ty2 fz2 _ _ hw2=>⟨cs2,ty2,fz2,hw2,rfl⟩⟩
            refine ⟨bb,ty,cs,fz,hb,hw,⟨hf.1,QeB hf.2⟩,by simpa using hsz,fun i x hx=>?_⟩
            by_cases e1:i=c
            · subst e1
              have hlt:=(List.getElem?_eq_some_iff.1 hnil).1
              rw [List.getElem?_set_self hlt] at hx
              injection hx with hx
              subst hx
              rw [(hr i _ hnil).nil_inv]
              exact .arr0 l e s (by simp [Cp]) (by rw [Jz,if_neg (Ne.symm hbl),X4,if_pos rfl])
            · rw [List.getElem?_set_ne (Ne.symm e1)] at hx
              exact (hr i x hx).mono (fun _ h=>h) (fun _ _=>rfl) (fun k _=>hkeep k) (fun _ _=>rfl)
      · exact Q2q r st h
    · exact Q2q r st h
theorem Qdy {st:St} {a:Act} {w:World} (c:Cfg) (h:Eh E st a w):Eh E (QfV c st) a w:=by
  unfold QfV
  cases hc:(Uq (c.locs.map (·.1))&&(Uq (c.locs.map (·.2))&&c.locs.all fun p=>Nat.beq p.1 p.2||Nat.ble p.2 999999)) with
  | false=>simpa using h
  | true=>
    simp only [Bool.and_eq_true] at hc
    simp only [cond_true]
    exact Q2q _ _ (Q5c _ _ (Qey hc.1 hc.2.1 (fun l k hm=>by
      have:=List.all_eq_true.1 hc.2.2 (l,k) hm
      simp only [Bool.or_eq_true] at this
      rcases this with h | h
      · exact .inl (Nat.eq_of_beq_eq_true h)
      · exact .inr (Nat.le_of_ble_eq_true h)) h))
theorem Q2V {l s:Nat} {rows:List (List D)}:∀ {r:List AV} {i:Nat},(fzL l s rows r)[i]? = (r[i]?).map (fzA l s rows)
  | [],i=>by simp [fzL]
  | a::r,0=>by simp [fzL]
  | a::r,i+1=>by simp only [fzL,List.getElem?_cons_succ];exact Q2V
theorem E2 {l s:Nat} {rows:List (List D)}:∀ {r:List AV},(fzL l s rows r).length=r.length
  | []=>rfl
  | a::r=>by simp [fzL,E2 (r:=r)]
theorem Qc4 {l s:Nat} {rows:List (List D)} {t:Nat}:∀ {tm:List (Nat × AV)},look (fzT l s rows tm) t=(look tm t).map (fzA l s rows)
  | []=>rfl
  | (a,b)::r=>by
    simp only [fzT,X4]
    by_cases e:t=a
    · simp [e]
    · simp only [e,if_false];exact Qc4
theorem Q5o {l s:Nat} {rows:List (List D)} {k:Nat}:∀ {h:List (Nat × Ob)},look (Qfn l s rows h) k=if k=l then none else (look h k).map (fzO l s rows)
  | []=>by simp [Qfn,look]
  | (a,b)::r=>by
    simp only [Qfn]
    cases hb:Nat.beq a l with
    | true=>
      have:=Nat.eq_of_beq_eq_true hb
      subst this
      simp only [cond_true]
      rw [Q5o (h:=r),X4]
      by_cases e:k=a
      · simp [e]
      · simp [e]
    | false=>
      have hne:a≠l:=fun e=>by subst e;simp at hb
      simp only [cond_false,X4]
      by_cases e:k=a
      · subst e;simp [hne]
      · simp only [e,if_false];exact Q5o
theorem QfI {ty:TypeId} {l s:Nat} {rows:List (List D)} {cells:List AV} (h:Qcz ty cells):Qcz ty (fzL l s rows cells):=by
  intro i l' t hi
  rw [Q2V,Option.map_eq_some_iff] at hi
  obtain ⟨y,hy,he⟩:=hi
  cases y with
  | sa a b=>simp only [fzA] at he;injection he with h1 h2;subst h2;exact h i a _ hy
  | arr k=>simp only [fzA] at he;cases hb:Nat.beq k l <;> simp [hb] at he
  | ap k a b=>simp only [fzA] at he;cases hb:Nat.beq k l <;> simp [hb] at he
  | _=>simp [fzA] at he
theorem Qfz {β:Nat→Option Nat} {S:Nat→Prop} {h h':Nat→Option Ob} {w:World} {l e s:Nat} {rows:List (List D)} (hO:Objs β S h w) (hh:h l=some (.arr e s rows)) (hh':∀ k,h' k=if k=l then none else (h k).map (fzO l s rows)) {S':Nat→Prop} (hS:∀ b,S b→S' b) (hb:∀ b,β l=some b→S' b)
    {tm:Nat→Value} {v:Value} {av:AV} (hv:RdA β S h w tm v av):RdA β S' h' w tm v (fzA l s rows av):=by
  induction hv with
  | top v=>exact .top v
  | d v x hx=>exact .d v x (hx.mono hS (fun _ _=>rfl))
  | nil=>exact .nil
  | ag cs r hl _ ih=>
    refine .ag cs _ (by rw [E2];exact hl) fun i x hx=>?_
    rw [Q2V,Option.map_eq_some_iff] at hx
    obtain ⟨y,hy,rfl⟩:=hx
    exact ih i y hy
  | tup cs r hl _ ih=>
    refine .tup cs _ (by rw [E2];exact hl) fun i x hx=>?_
    rw [Q2V,Option.map_eq_some_iff] at hx
    obtain ⟨y,hy,rfl⟩:=hx
    exact ih i y hy
  | fn f cs r hl _ ih=>
    refine .fn f cs _ (by rw [E2];exact hl) fun i x hx=>?_
    rw [Q2V,Option.map_eq_some_iff] at hx
    obtain ⟨y,hy,rfl⟩:=hx
    exact ih i y hy
  | ptr k off b hb'=>exact .ptr k off b hb'
  | sa v k t b hb' hv=>exact .sa v k t b hb' hv
  | el ad row off c hs hc hr=>exact .el ad row off c (hS _ hs) hc (fun j x hx=>(hr j x hx).mono hS (fun _ _=>rfl))
  | fs ad s rows hx=>exact .fs ad s rows (hx.mono hS (fun _ _=>rfl))
  | mpd v f hm=>exact .mpd v f (hm.mono hS (fun _ _=>rfl))
  | ex v=>exact .ex v
  | arr0 k e' s' hb' hk=>
    unfold fzA
    cases hkl:Nat.beq k l with
    | true=>
      obtain rfl:=Nat.eq_of_beq_eq_true hkl
      rw [hh] at hk
      injection hk with hk
      injection hk with _ _ hk
      subst hk
      exact .d _ _ (.sl0 _ _ _)
    | false=>
      have hne:k≠l:=fun e=>by subst e;simp at hkl
      exact .arr0 k e' s' hb' (by rw [hh',if_neg hne,hk];rfl)
  | arr k b cap e' s' rows' cs ty fz hb' hk hw hcs hcap hmax=>
    unfold fzA
    cases hkl:Nat.beq k l with
    | true=>
      obtain rfl:=Nat.eq_of_beq_eq_true hkl
      exact .d _ _ (QbX hO hh (RdA.arr (tm:=tm) k b cap e' s' rows' cs ty fz hb' hk hw hcs hcap hmax) hS hb)
    | false=>
      have hne:k≠l:=fun e=>by subst e;simp at hkl
      exact .arr k b cap e' s' rows' cs ty fz hb' (by rw [hh',if_neg hne,hk];rfl) hw hcs hcap hmax
  | ap k i off b e' s' rows' hb' hk=>
    unfold fzA
    cases hkl:Nat.beq k l with
    | true=>exact .top _
    | false=>
      have hne:k≠l:=fun e=>by subst e;simp at hkl
      exact .ap k i off b e' s' rows' hb' (by rw [hh',if_neg hne,hk];rfl)
  | dang v av k hl hk h1=>
    have hne:k≠l:=fun e=>by subst e;rw [hh] at hk;cases hk
    have hn:h' k=none:=by rw [hh',if_neg hne,hk];rfl
    cases av <;> simp [Ha] at hl
    · subst hl
      unfold fzA
      rw [QgF hne]
      exact .dang _ _ _ rfl hn h1
    · subst hl
      unfold fzA
      rw [QgF hne]
      exact .dang _ _ _ rfl hn h1
  | gdT=>exact .top _
  | gdF=>exact .top _
theorem Qg8 {st:St} {a:Act} {w:World} (l:Nat) (h:Eh E st a w):Eh E (fz1 st l) a w:=by
  unfold fz1
  split
  case h_2=>exact h
  rename_i e s rows hl
  obtain ⟨β,S,hR⟩:=h
  have hO:=hR.objs
  have hlk:∀ k,look (Qfn l s rows st.h) k=if k=l then none else (look st.h k).map (fzO l s rows):=fun k=>Q5o
  have hS:∀ b,S b→fzS β S [l] b:=fun b hb=>.inl hb
  have hbl:∀ b,β l=some b→fzS β S [l] b:=fun b hb=>.inr ⟨l,by simp,hb⟩
  have hsome:∀ k,(look (Qfn l s rows st.h) k).isSome=true→(look st.h k).isSome=true∧k≠l:=by
    intro k hk
    rw [hlk] at hk
    by_cases e1:k=l
    · simp [e1] at hk
    · simp [e1] at hk;exact ⟨hk,e1⟩
  refine ⟨β,fzS β S [l],hR.n,hR.dfr,fun t av ht=>?_,⟨fun k o ho=>?_,fun k k' b h1 h2=>hR.hr.inj k k' b (hsome k h1).1 (hsome k' h2).1,fun k b h1 h2 hS'=>?_,fun k b h1 h2=>hR.hr.own k b (hsome k h1).1 h2,fun b hS'=>?_,fun b hS'=>?_,fun b hb=>.inl (hR.hr.s0 b hb),hR.hr.fr,hR.hr.pin,fun k b hk h1=>hR.hr.psz k b hk (hsome k h1).1⟩⟩
  · simp only at ht
    rw [Qc4,Option.map_eq_some_iff] at ht
    obtain ⟨av',h1,rfl⟩:=ht
    exact Qfz hO hl hlk hS hbl (hR.tm t av' h1)
  · simp only at ho
    rw [hlk] at ho
    by_cases e1:k=l
    · simp [e1] at ho
    · rw [if_neg e1,Option.map_eq_some_iff] at ho
      obtain ⟨o',ho',rfl⟩:=ho
      have hob:=hR.hr.ob k o' ho'
      cases o' with
      | box cells=>
        obtain ⟨b,ty,cs,fz,hb,hw,hf,hsz,hr⟩:=hob
        refine ⟨b,ty,cs,fz,hb,hw,⟨hf.1,QfI hf.2⟩,by rw [hsz,E2],fun i x hx=>?_⟩
        rw [Q2V,Option.map_eq_some_iff] at hx
        obtain ⟨y,hy,rfl⟩:=hx
        exact Qfz hO hl hlk hS hbl (hr i y hy)
      | arr e' s' rows'=>
        rcases hob with h0 | ⟨b,cs,hb,hw,hsz,hrl,hr⟩
        · exact .inl h0
        · refine .inr ⟨b,cs,hb,hw,hsz,hrl,fun i j r x h4 h5=>?_⟩
          obtain ⟨v,hv,hr'⟩:=hr i j r x h4 h5
          exact ⟨v,hv,hr'.mono hS (fun _ _=>rfl)⟩
  · obtain ⟨h1',hne⟩:=hsome k h1
    rcases hS' with hS' | ⟨l',hl',hb'⟩
    · exact hR.hr.apart k b h1' h2 hS'
    · simp at hl'
      subst hl'
      exact hne (hR.hr.inj k l' b h1' (by simp [hl]) h2 hb')
  · rcases hS' with hS' | ⟨l',hl',hb'⟩
    · exact hR.hr.sb b hS'
    · simp at hl'
      subst hl'
      exact NL hR (by simp [hl]) hb'
  · rcases hS' with hS' | ⟨l',hl',hb'⟩
    · exact hR.hr.sfr b hS'
    · simp at hl'
      subst hl'
      exact .inr (hR.hr.own l' b (by simp [hl]) hb')
theorem Qek {a:Act} {w:World}:∀ (ls:List Nat) (st:St),Eh E st a w→Eh E (fzs st ls) a w
  | [],_,h=>h
  | l::r,_,h=>Qek r _ (Qg8 l h)
theorem QbW (c:Cfg) {st:St} {a:Act} {w:World} (h:Eh E st a w):Eh E (QhS c st) a w:=Qdy _ (Qek c.fz st h)
end

section
variable {P:Program} {E:Env} {R:Type}
theorem Eh.drawn {st:St} {a:Act} {w:World} (h:Eh E st a w) (n:Nat):Eh E st a { w with drawn:=n }:=by
  obtain ⟨β,S,hR⟩:=h
  have hA:∀ (tm:Nat→Value) (v:Value) (av:AV),RdA β S (look st.h) w tm v av→RdA β S (look st.h) { w with drawn:=n } tm v av:=fun tm v av hv=>
    hv.mono (fun _ h=>h) (fun _ _=>rfl) (fun l _=>⟨rfl,fun x=>x,fun _ _ rows hh=>.inr ⟨rows,hh,rfl⟩,fun _ cs ty fz _ _ hw=>⟨cs,ty,fz,hw,rfl⟩⟩) (fun _ _=>rfl)
  refine ⟨β,S,hR.n,hR.dfr,fun t av ht=>hA _ _ _ (hR.tm t av ht),⟨fun l o ho=>?_,hR.hr.inj,hR.hr.apart,hR.hr.own,hR.hr.sb,hR.hr.sfr,hR.hr.s0,⟨hR.hr.fr.os,hR.hr.fr.tape,hR.hr.fr.output,hR.hr.fr.size,hR.hr.fr.block⟩,hR.hr.pin,hR.hr.psz⟩⟩
  have hob:=hR.hr.ob l o ho
  cases o with
  | box cells=>
    obtain ⟨b,ty,cs,fz,hb,hw,hf,hsz,hr⟩:=hob
    exact ⟨b,ty,cs,fz,hb,hw,hf,hsz,fun i x hx=>hA _ _ _ (hr i x hx)⟩
  | arr e s rows=>
    rcases hob with h0 | ⟨b,cs,hb,hw,hsz,hrl,hr⟩
    · exact .inl h0
    · refine .inr ⟨b,cs,hb,hw,hsz,hrl,fun i j r x h4 h5=>?_⟩
      obtain ⟨v,hv,hr'⟩:=hr i j r x h4 h5
      exact ⟨v,hv,Rd.mono (w:=w) (w':={ w with drawn:=n }) (fun _ h=>h) (fun _ _=>rfl) hr'⟩
structure VCOk (P:Program) (C:VC):Prop where
  spec:Q1P P C.spec
  tt:TOk P C.tt
  mixed:P.follows .mixedOrders=true
def QeC (E:Env) (k:Exit→St→Option R) (r:R):Exit→Act→World→Prop:=fun e a w=>∃ st,Eh E st a w∧k e st=some r
theorem Q8g {C:VC} (hC:VCOk P C) {id:Nat} {ops:Array Oper} {draw:Bool} {st:St} {k:St→Option R} {r:R} (h:Qar C id ops draw st k=some r) {a:Act} {w:World} (hR:Eh E st a w) {Q:Exit→Act→World→Prop}
    (hQ:∀ st' a' w',Eh E st' a' w'→k st'=some r→Q .normal a' w'):(Code.region id ops draw).wp P Q a w:=by
  unfold Qar at h
  obtain ⟨recs,st',hlen,h,hrun⟩:∃ recs st',recs.length=ops.toList.length∧(fun st' recs=>bif !draw||Q90 st ops.toList recs then (match look C.cfg id with | some c=>k (QhS c st') | none=>k st') else none) st' ([]++recs)=some r∧Mq P E ops 0 st recs st':=by
    cases hs:(look C.cfg (id+1000000000)).isSome with
    | true=>simp only [hs,cond_true] at h;exact Q5k (E:=E) hC.spec hC.tt ops.toList 0 st [] _ r (fun j=>by simp) h
    | false=>simp only [hs,cond_false] at h;exact Q7r (E:=E) hC.spec hC.tt ops.toList 0 st [] _ r (fun j=>by simp) h
  simp only [List.nil_append] at h
  cases hc:(!draw||Q90 st ops.toList recs) with
  | false=>simp [hc] at h
  | true=>
    simp only [hc,cond_true] at h
    have hfin:∀ a w,Eh E st' a w→Q .normal a w:=by
      intro a w hR'
      split at h
      · rename_i c _;exact hQ _ a w (QbW c hR') h
      · exact hQ _ a w hR' h
    simp only [Array.length_toList] at hlen
    cases draw with
    | false=>
      refine wp_region ?_
      have:=QaF hfin recs 0 st a w hrun hR
      rw [hlen] at this
      rw [List.range_eq_range']
      exact this
    | true=>
      simp only [Bool.not_true,Bool.false_or] at hc
      refine wp_region_any hC.mixed ?_
      refine QeH hlen hrun hc hfin ops.size _ a _ (by simp) ?_ ?_ ?_
      · intro j o _ hl
        exfalso
        unfold Lst at hl
        simp [Array.getD] at hl
      · refine Nat.le_trans List.countP_le_length ?_
        simp
      · have h0:∀ (rs:List Rec) (i:Nat) (s:St),Q2C (Array.replicate ops.size false) i s rs=s:=by
          intro rs
          induction rs with
          | nil=>intro i s;rfl
          | cons x r ih=>
            intro i s
            simp only [Q2C]
            have:(Array.replicate ops.size false).getD i false=false:=by simp [Array.getD]
            rw [this]
            exact ih (i+1) s
        rw [h0]
        exact hR.drawn _
theorem Q6e {c:Code} {body:St→(Exit→St→Option R)→Option R} (hbody:∀ (st:St) (k:Exit→St→Option R) (r:R),body st k=some r→∀ a w,Eh E st a w→c.wp P (QeC E k r) a w) :
    ∀ (n:Nat) (st:St) (k:Exit→St→Option R) (r:R),X7 body n st k=some r→∀ a w,Eh E st a w→Code.rounds P c (QeC E k r) n a w
  | 0,st,k,r,h=>by simp [X7] at h
  | n+1,st,k,r,h=>by
    intro a w hR
    simp only [X7] at h
    rw [rounds_succ]
    refine wp_mono (hbody st _ r h a w hR) fun e a' w' hp=>?_
    obtain ⟨st',hR',hk⟩:=hp
    cases e with
    | normal=>exact Q6e hbody n st' k r hk a' w' hR'
    | exit id=>exact ⟨st',hR',hk⟩
    | ret=>exact ⟨st',hR',hk⟩
    | _=>cases hk
theorem Q0E {C:VC} (hC:VCOk P C) (n:Nat):∀ (c:Code) (st:St) (k:Exit→St→Option R) (r:R),Qi C n c st k=some r→∀ a w,Eh E st a w→c.wp P (QeC E k r) a w:=by
  intro c
  induction c with
  | skip=>intro st k r h a w hR;exact wp_skip ⟨st,hR,h⟩
  | region id ops draw=>
    intro st k r h a w hR
    exact Q8g hC h hR fun st' a' w' hR' hk=>⟨st',hR',hk⟩
  | seq x y ihx ihy=>
    intro st k r h a w hR
    simp only [Qi] at h
    refine wp_seq (wp_mono (ihx st _ r h a w hR) fun e a' w' hp=>?_)
    obtain ⟨st',hR',hk⟩:=hp
    cases e with
    | normal=>exact ihy st' k r hk a' w' hR'
    | exit id=>exact ⟨st',hR',hk⟩
    | ret=>exact ⟨st',hR',hk⟩
    | _=>cases hk
  | cond c x y ihx ihy=>
    intro st k r h a w hR
    simp only [Qi] at h
    split at h
    · rename_i e he
      obtain ⟨β,S,hR0⟩:=hR
      have hv:=(he▸QaM hR0 c).bool_inv
      refine wp_cond hv ?_
      cases e with
      | true=>exact ihx st k r (by simpa using h) a w ⟨β,S,hR0⟩
      | false=>exact ihy st k r (by simpa using h) a w ⟨β,S,hR0⟩
    · cases h
  | block id c ih=>
    intro st k r h a w hR
    simp only [Qi] at h
    refine wp_block (wp_mono (ih st _ r h a w hR) fun e a' w' hp=>?_)
    obtain ⟨st',hR',hk⟩:=hp
    cases e with
    | normal=>exact ⟨st',hR',hk⟩
    | exit j=>
      cases hb:Nat.beq j id with
      | true=>
        simp only [hb,cond_true] at hk
        have:=Nat.eq_of_beq_eq_true hb
        simp only [Exit.inBlock,this,if_true]
        exact ⟨st',hR',hk⟩
      | false=>
        simp only [hb,cond_false] at hk
        have hne:¬ j=id:=fun e=>by subst e;simp at hb
        simp only [Exit.inBlock,hne,if_false]
        exact ⟨st',hR',hk⟩
    | ret=>exact ⟨st',hR',hk⟩
    | _=>cases hk
  | loop c ih=>
    intro st k r h a w hR
    simp only [Qi] at h
    refine wp_loop_rounds _ (Q6e (fun st k r h a w hR=>ih _ k r h a w ?_) _ st k r h a w hR)
    unfold Q3N
    split
    · exact QbW _ hR
    · exact hR
  | exit id=>intro st k r h a w hR;exact wp_exit ⟨st,hR,h⟩
  | ret=>intro st k r h a w hR;exact wp_ret ⟨st,hR,h⟩
  | _=>intro st k r h;simp [Qi] at h
theorem Be:∀ (t:Nat) (av:AV),CS av=true→gds t av=false
  | t,.gd ..,h=>by simp [CS] at h
  | t,.ag l,h=>by
    simp only [gds]
    exact go t l (by simpa [CS] using h)
  | t,.tup l,h=>by
    simp only [gds]
    exact go t l (by simpa [CS] using h)
  | t,.fn _ l,h=>by
    simp only [gds]
    exact go t l (by simpa [CS] using h)
  | t,.top,_=>rfl
  | t,.d _,_=>rfl
  | t,.nil,_=>rfl
  | t,.ptr ..,_=>rfl
  | t,.el ..,_=>rfl
  | t,.fs ..,_=>rfl
  | t,.mpd _,_=>rfl
  | t,.ex _,_=>rfl
  | t,.arr _,_=>rfl
  | t,.ap ..,_=>rfl
  | t,.sa ..,_=>rfl
where
  go:∀ (t:Nat) (l:List AV),Sl l=true→Q55 t l=false
  | _,[],_=>rfl
  | t,a::r,h=>by
    simp only [Sl,Bool.and_eq_true] at h
    simp only [Q55,Bool.or_eq_false_iff]
    exact ⟨Be t a h.1,go t r h.2⟩
theorem Q7B:∀ {args:List AV} {i t:Nat} {av:AV},look (Q7m i args) t=some av→∃ j,t=i+j∧args[j]? = some av
  | a::r,i,t,av,h=>by
    simp only [Q7m,X4] at h
    by_cases e:t=i
    · rw [if_pos e] at h;injection h with h;exact ⟨0,by omega,by simp [h]⟩
    · rw [if_neg e] at h
      obtain ⟨j,h1,h2⟩:=Q7B h
      exact ⟨j+1,by omega,by simpa using h2⟩
theorem Q9Z:∀ {l:List AV} {i:Nat} {x:AV},Sl l=true→l[i]? = some x→CS x=true
  | a::r,i,x,h,hx=>by
    simp only [Sl,Bool.and_eq_true] at h
    cases i with
    | zero=>simp at hx;subst hx;exact h.1
    | succ i=>exact Q9Z h.2 (by simpa using hx)
def QaA (tmps:Array Value):ResultVar→Sem Value
  | .tmp t=>pure (tmps.getD t undef)
  | .cell x t=>do loadVar t (← asAddr (tmps.getD x undef))
theorem Q7O (fn:Func) (tmps:Array Value):results fn tmps=(do
    let vs ← fn.results.mapM (QaA tmps)
    pure (if h:vs.size=1 then vs[0] else .tuple vs)):=rfl
theorem Q7U {w:World} {ad:Addr}:(asAddr (.pointer (some ad))).run P w = .ok ad w:=by simp [asAddr]
theorem Qaa {C:VC} (hC:VCOk P C) {st:St} {a:Act} {w:World} {β:Nat→Option Nat} {S:Nat→Prop} (hR:Rel E β S st a w) {rv:ResultVar} {av:AV} (h:QbN C.tt st rv=some av) :
    ∃ v,(QaA a.tmps rv).run P w = .ok v w∧RdA β S (look st.h) w (tmv a) v av:=by
  cases rv with
  | tmp t=>
    simp only [QbN,Option.some.injEq] at h
    subst h
    exact ⟨_,rfl,QaM hR (.tmp t)⟩
  | cell x ty=>
    simp only [QbN] at h
    split at h
    · rename_i l off hl
      obtain ⟨b,hb,hv⟩:=(hR.tm x _ (Dj hl (by simp))).ptr_inv
      split at h
      · rename_i cells ti hbox hti
        have hty:=hC.tt ty ti hti
        obtain ⟨b',ty',cs,fz,hb',hw,_,hsz,hr⟩:=hR.hr.ob l _ hbox
        obtain rfl:b=b':=by rw [hb] at hb';injection hb'
        have hx:a.tmps.getD x undef = .pointer (some ⟨b,off,none⟩):=hv
        cases hs:G1 ti.kd with
        | true=>
          simp only [hs,cond_true] at h
          split at h
          · rename_i cs' hcs
            cases h
            obtain ⟨h1,h2,h3⟩:=Ek hcs
            have hlt:∀ j,j<ti.size→off+j<cs.size:=fun j hj=>by
              have h4:=h2 j hj
              have h5:cs'[j]? = some (cs'[j]'(by omega)):=List.getElem?_eq_getElem (by omega)
              rw [h5] at h4
              obtain ⟨h6,_⟩:=List.getElem?_eq_some_iff.1 h4
              omega
            have hload:=TK hty hs (w:=w) (a:=⟨b,off,none⟩) (vs:=(List.range ti.size).map fun j=>cs.getD (off+j) undef) (by simp) (fun j v hv=>by
              simp only [List.getElem?_map,Option.map_eq_some_iff] at hv
              obtain ⟨j',hj',rfl⟩:=hv
              obtain ⟨hlt',he⟩:=List.getElem?_eq_some_iff.1 hj'
              simp at hlt' he
              subst he
              rw [T8,KJ hw]
              exact JO (hlt j hlt'))
            refine ⟨.agg ((List.range ti.size).map fun j=>cs.getD (off+j) undef).toArray,by simp only [QaA,hx,Sem.run_bind,Q7U,Result.andThen_ok,hload],.ag _ _ (by simp [h1]) fun i y hy=>?_⟩
            have hi:i<ti.size:=by
              obtain ⟨h6,_⟩:=List.getElem?_eq_some_iff.1 hy
              omega
            rw [Q1i (v:=cs.getD (off+i) undef) (by simp [hi])]
            exact (hr (off+i) y ((h2 i hi).trans hy)).any_tm (h3 i y hy)
          · cases h
        | false=>
          simp only [hs,cond_false] at h
          split at h
          · rename_i c hc
            cases hng:Q5a c with
            | false=>simp [hng] at h
            | true=>
              simp only [hng,cond_true,Option.some.injEq] at h
              subst h
              have hlt:off<cs.size:=by
                obtain ⟨h6,_⟩:=List.getElem?_eq_some_iff.1 hc
                omega
              have hload:=PR hty hs (w:=w) (a:=⟨b,off,none⟩) (v:=cs.getD off undef) (by rw [KJ hw];exact JO hlt)
              exact ⟨cs.getD off undef,by simp only [QaA,hx,Sem.run_bind,Q7U,Result.andThen_ok,hload],(hr off c hc).any_tm hng⟩
          · cases h
      · cases h
    · cases h
theorem Q3F {C:VC} (hC:VCOk P C) {st:St} {a:Act} {w:World} {β:Nat→Option Nat} {S:Nat→Prop} (hR:Rel E β S st a w):∀ {rs:List ResultVar} {avs:List AV},Q7C C.tt st rs=some avs →
    ∃ vs:List Value,(rs.mapM (QaA a.tmps)).run P w = .ok vs w∧vs.length=avs.length∧Sl avs=true ∧
      ∀ (i:Nat) (v:Value) (av:AV),vs[i]? = some v→avs[i]? = some av→RdA β S (look st.h) w (tmv a) v av
  | [],avs,h=>by
    simp only [Q7C,Option.some.injEq] at h
    subst h
    exact ⟨[],by simp,rfl,rfl,fun i v av h=>by simp at h⟩
  | r::rs,avs,h=>by
    simp only [Q7C] at h
    split at h
    · rename_i x hx
      split at h
      · rename_i l hl
        cases hg:CS x with
        | false=>simp [hg] at h
        | true=>
          simp only [hg,cond_true,Option.some.injEq] at h
          subst h
          obtain ⟨v,hv,hrd⟩:=Qaa hC hR hx
          obtain ⟨vs,h1,h2,h3,h4⟩:=Q3F hC hR hl
          refine ⟨v::vs,?_,by simp [h2],by simp [Sl,hg,h3],fun i u av hu hav=>?_⟩
          · simp only [List.mapM_cons,Sem.run_bind,hv,h1,Result.andThen_ok,Sem.run_pure]
          · cases i with
            | zero=>simp at hu hav;subst hu;subst hav;exact hrd
            | succ i=>exact h4 i u av (by simpa using hu) (by simpa using hav)
      · cases h
    · cases h
theorem QaW {C:VC} (hC:VCOk P C) {st:St} {a:Act} {w:World} {β:Nat→Option Nat} {S:Nat→Prop} (hR:Rel E β S st a w) {fn:Func} {av:AV} (h:Q85 C.tt st fn.results.toList=some av) :
    ∃ v,(results fn a.tmps).run P w = .ok v w∧RdA β S (look st.h) w tm0 v av∧CS av=true:=by
  have hto:∀ (v:Value) (av:AV),CS av=true→RdA β S (look st.h) w (tmv a) v av→RdA β S (look st.h) w tm0 v av:=fun v av hg hr=>
    hr.mono (fun _ h=>h) (fun _ _=>rfl) (fun l _=>Keep.rfl_ ..) (fun t ht=>by rw [Be t av hg] at ht;cases ht)
  unfold Q85 at h
  have key:∀ avs,Q7C C.tt st fn.results.toList=some avs→∃ vs:List Value,(fn.results.mapM (QaA a.tmps)).run P w = .ok vs.toArray w∧vs.length=avs.length∧Sl avs=true ∧
      ∀ (i:Nat) (v:Value) (av:AV),vs[i]? = some v→avs[i]? = some av→RdA β S (look st.h) w (tmv a) v av:=by
    intro avs ha
    obtain ⟨vs,h1,h2,h3,h4⟩:=Q3F hC hR ha
    refine ⟨vs,?_,h2,h3,h4⟩
    rw [← Array.toList_mapM,Sem.run_map] at h1
    cases hr:(fn.results.mapM (QaA a.tmps)).run P w with
    | ok b w'=>
      rw [hr] at h1
      simp only [Result.andThen_ok,Result.ok.injEq] at h1
      obtain ⟨h5,rfl⟩:=h1
      congr 1
      apply Array.ext'
      simpa using h5
    | halt x w'=>rw [hr] at h1;simp at h1
  split at h
  · rename_i x hx
    cases h
    obtain ⟨vs,h1,h2,h3,h4⟩:=key _ hx
    match vs,h2 with
    | [v],_=>
      have hg:CS av=true:=by simpa [Sl] using h3
      refine ⟨v,?_,hto v av hg (h4 0 v av rfl rfl),hg⟩
      rw [Q7O]
      simp only [Sem.run_bind,h1,Result.andThen_ok]
      rfl
  · rename_i l hne hl
    cases h
    obtain ⟨vs,h1,h2,h3,h4⟩:=key _ hl
    have hg:CS (.tup l)=true:=by simpa [CS] using h3
    have hsz:¬ vs.toArray.size=1:=by
      intro h5
      simp only [List.size_toArray] at h5
      match l,h5.symm.trans h2 with
      | [x],_=>exact hne x rfl
    refine ⟨.tuple vs.toArray,?_,hto _ _ hg (.tup _ _ (by simpa using h2) fun i x hx=>?_),hg⟩
    · rw [Q7O]
      simp only [Sem.run_bind,h1,Result.andThen_ok,hsz,dite_false]
      rfl
    · have hi:i<vs.length:=by have:=(List.getElem?_eq_some_iff.1 hx).1;omega
      have hv:=List.getElem?_eq_getElem hi
      rw [Q1i hv]
      exact h4 i _ x hv hx
  · cases h
def QbJ (H:List (Nat × Ob)) (k:AV→List (Nat × Ob)→Option R) (r:R) (β:Nat→Option Nat) (S:Nat→Prop) (w:World):Ending→World→Prop:=fun e w'=>
  ∃ v av H' β' S',e = .returned v∧k av H'=some r∧RdA β' S' (look H') w' tm0 v av∧CS av=true∧HRel ⟨w,fun b=>∃ l,(look H l).isSome=true∧β l=some b,S,β⟩ β' S' (look H') w'
def fnK (tt:TT) (fn:Func) (k:AV→List (Nat × Ob)→Option R):Exit→St→Option R:=fun e st=>match e with
  | .ret=>match Q85 tt st fn.results.toList with
    | some v=>k v st.h
    | none=>none
  | .normal=>match Q85 tt st fn.results.toList with
    | some v=>k v st.h
    | none=>none
  | _=>none
theorem Qbr {C:VC} (hC:VCOk P C) {f:Nat} {fn:Func} {c:Code} (hf:P.funcs[f]? = some fn) (hc:fn.body=some c) {args:List AV} {H:List (Nat × Ob)} {k:AV→List (Nat × Ob)→Option R} {r:R} (hb:(Nat.ble args.length fn.ntmps&&Sl args)=true)
    {β:Nat→Option Nat} {S:Nat→Prop} {w:World} {vs:List Value}
    (hsem:∀ a:Act,Rel ⟨w,fun b=>∃ l,(look H l).isSome=true∧β l=some b,S,β⟩ β S { n:=fn.ntmps,tm:=Q7m 0 args,h:=H } a w→c.wp P (QeC ⟨w,fun b=>∃ l,(look H l).isSome=true∧β l=some b,S,β⟩ (fnK C.tt fn k) r) a w) (hO:Objs β S (look H) w) (hA:ArgsRd β S (look H) w vs args) :
    Calls P f vs.toArray w (QbJ H k r β S w):=by
  simp only [Bool.and_eq_true] at hb
  have hle:=Nat.le_of_ble_eq_true hb.1
  refine calls_of_wp hf hc ?_
  have hR:Rel ⟨w,fun b=>∃ l,(look H l).isSome=true∧β l=some b,S,β⟩ β S { n:=fn.ntmps,tm:=Q7m 0 args,h:=H } { tmps:=vs.toArray++Array.replicate (fn.ntmps-vs.toArray.size) undef,defers:=[] } w:=by
    refine ⟨by simp;have:=hA.1;omega,rfl,fun t av ht=>?_,⟨hO.ob,hO.inj,hO.apart,fun l b h1 h2=>.inl ⟨l,h1,h2⟩,hO.sb,fun b h=>.inl h,fun b h=>h,Fr.refl _ _,fun _ _=>rfl,fun _ _ _ _ _ cs ty fz hw=>⟨cs,ty,fz,hw,rfl⟩⟩⟩
    obtain ⟨j,hj,hav⟩:=Q7B ht
    simp only [Nat.zero_add] at hj
    subst hj
    have hlt:t<vs.length:=by have:=(List.getElem?_eq_some_iff.1 hav).1;have:=hA.1;omega
    have hv:=List.getElem?_eq_getElem hlt
    have hrd:=hA.2 t _ av hv hav
    have hge:tmv { tmps:=vs.toArray++Array.replicate (fn.ntmps-vs.toArray.size) undef,defers:=[] } t=vs[t]:=by
      unfold tmv
      have h5:(vs.toArray++Array.replicate (fn.ntmps-vs.toArray.size) undef)[t]? = some vs[t]:=by
        rw [Array.getElem?_append_left (by simpa using hlt)]
        simp [hlt]
      have h6:=JO (Array.getElem?_eq_some_iff.1 h5).1
      rw [h5] at h6
      injection h6 with h6
      exact h6.symm
    rw [hge]
    exact hrd.mono (fun _ h=>h) (fun _ _=>rfl) (fun l _=>Keep.rfl_ ..) (fun t' ht'=>by rw [Be t' av (Q9Z hb.2 hav)] at ht';cases ht')
  refine wp_mono (hsem _ hR) fun e a' w' hp=>?_
  obtain ⟨st',⟨β',S',hR'⟩,hk⟩:=hp
  have fin:∀ av,Q85 C.tt st' fn.results.toList=some av→k av st'.h=some r→a'.defers=[]∧∃ v,(results fn a'.tmps).run P w' = .ok v w'∧∃ v_1 av H' β' S',Ending.returned v = .returned v_1∧k av H'=some r∧RdA β' S' (look H') w' tm0 v_1 av∧CS av=true∧HRel ⟨w,fun b=>∃ l,(look H l).isSome=true∧β l=some b,S,β⟩ β' S' (look H') w':=by
    intro av hav hk'
    obtain ⟨v,hv,hrd,hg⟩:=QaW hC hR' hav
    exact ⟨hR'.dfr,v,hv,v,av,st'.h,β',S',rfl,hk',hrd,hg,hR'.hr⟩
  cases e with
  | ret=>
    simp only [fnK] at hk
    split at hk
    · rename_i av hav;exact fin av hav hk
    · cases hk
  | normal=>
    simp only [fnK] at hk
    split at hk
    · rename_i av hav;exact fin av hav hk
    · cases hk
  | _=>cases hk
theorem FX {C:VC} (hC:VCOk P C) {n f:Nat} {fn:Func} (hf:P.funcs[f]? = some fn) {args:List AV} {H:List (Nat × Ob)} {k:AV→List (Nat × Ob)→Option R} {r:R} (h:vfn C n fn args H k=some r)
    {β:Nat→Option Nat} {S:Nat→Prop} {w:World} {vs:List Value} (hO:Objs β S (look H) w) (hA:ArgsRd β S (look H) w vs args) :
    Calls P f vs.toArray w fun e w'=>∃ v av H' β' S',e = .returned v∧k av H'=some r∧RdA β' S' (look H') w' tm0 v av∧CS av=true∧HRel ⟨w,fun b=>∃ l,(look H l).isSome=true∧β l=some b,S,β⟩ β' S' (look H') w':=by
  unfold vfn at h
  split at h
  case h_2=>cases h
  rename_i c hc
  cases hb:(Nat.ble args.length fn.ntmps&&Sl args) with
  | false=>simp [hb] at h
  | true=>
    simp only [hb,cond_true] at h
    exact Qbr hC hf hc hb (fun a hR=>Q0E hC n c _ _ r h a w ⟨β,S,hR⟩) hO hA
end

section
variable {P:Program}
def QgI:List Value→List Nat→Option (List D)
  | [],_=>some []
  | v::r,ss=>
    match QgI r ss.tail with
    | some l=>match v with
      | .int k n=>some (.int k n::l)
      | .bool b=>some (.bool b::l)
      | .string s=>some (.str s.data.toList::l)
      | .slice none 0 0=>some (.sl (ss.headD 0) []::l)
      | _=>none
    | none=>none
def Q8c (P:Program):Nat→Nat→List Nat
  | 0,_=>[]
  | f+1,t=>match P.underlying t with
    | some (.struct fs)=>fs.toList.flatMap fun fd=>Q8c P f fd.type
    | some (.array n e)=>(List.replicate n (Q8c P f e)).flatten
    | _=>[t]
def QhA (P:Program) (t:Nat):Nat:=
  match P.underlying t with
  | some (.slice e)=>P.cellsOf e
  | _=>0
def kdP (P:Program):TypeDesc→Option Kd
  | .int k=>some (.int k)
  | .bool=>some .bool
  | .string=>some .str
  | .slice e=>match P.info? e with
    | some i=>if 0<i.size then some (.sl e i.size) else none
    | none=>none
  | .struct fs=>if fs.toList.all (fun f=>match P.info? f.type with | some i=>i.size != 0 | none=>false) then some .struct else none
  | .array n e=>match P.info? e with
    | some i=>if 0<i.size then some (.array e i.size n) else none
    | none=>none
  | .pointer _=>some .ptr
  | .map K e=>match P.underlying K,P.info? e with
    | some (.int .i64),some i=>match i.zero with
      | some (.slice none 0 0)=>some .mapI
      | _=>some .other
    | _,_=>some .other
  | .func ..=>some .other
  | .interface _=>some .other
  | _=>none
def QdA (P:Program):TypeDesc→List (Nat × Nat)
  | .struct fs=>fs.toList.map fun f=>(f.offset,f.type)
  | .array n e=>(List.range n).map fun i=>(i*((P.info? e).map (·.size)).getD 0,e)
  | _=>[]
def Qhv (P:Program) (so:TypeId→Option (List Kd)):Nat→List Field→Option (List Kd)
  | _,[]=>some []
  | off,fd::r=>
    if fd.offset = off ∧ fd.name ≠ "_" then match so fd.type with
      | some a=>if (P.info? fd.type).map (·.size)=some a.length then match Qhv P so (off+a.length) r with
        | some l=>some (a++l)
        | none=>none
        else none
      | none=>none
    else none
def QeE (P:Program):Nat→TypeId→Option (List Kd)
  | 0,_=>none
  | f+1,t=>
    match P.underlying t with
    | some .bool=>some [.bool]
    | some (.int k)=>some [.int k]
    | some .string=>some [.str]
    | some (.struct fs)=>if P.stoodInHeld t then none else Qhv P (QeE P f) 0 fs.toList
    | _=>none
def Qii (P:Program) (t:Nat):Option (List Kd):=
  match P.underlying t with
  | some (.struct _)=>if P.eqGuardType P.depth t then none else QeE P 6 t
  | some (.array 2 e)=>match P.underlying e with
    | some (.int k)=>if (P.info? e).map (·.size)=some 1∧P.eqGuardType P.depth t=false then some [.int k,.int k] else none
    | _=>none
  | _=>none
def Qik:Kd→Nat→Bool
  | .array _ esz n,k=>Nat.beq k (n*esz)
  | _,_=>true
def tyI (P:Program) (t:Nat):Option TyI:=
  match P.info? t,P.underlying t with
  | some i,some d=>match i.zero,kdP P d with
    | some z,some kd=>
      if z.cells.toList.length=i.size∧(G1 kd=false→i.size=1)∧Qik kd i.size=true then
        some { kd,size:=i.size,bytes:=i.bytes,zero:=z.cells.toList,zd:=(QgI z.cells.toList ((Q8c P 8 t).map (QhA P))).getD [],fields:=QdA P d,eqk:=Qii P t }
      else none
    | _,_=>none
  | _,_=>none
def QfT (P:Program):List Nat→TT
  | []=>[]
  | t::r=>match tyI P t with
    | some ti=>(t,ti)::QfT P r
    | none=>QfT P r
theorem Qed:∀ {vs:List Value} {ss:List Nat} {l:List D},QgI vs ss=some l→∀ (j:Nat) (x:D),l[j]? = some x→∃ v,vs[j]? = some v∧∀ (S:Nat→Prop) (w:World),Rd S w v x
  | [],ss,l,h,j,x,hx=>by simp [QgI] at h;subst h;simp at hx
  | v::r,ss,l,h,j,x,hx=>by
    simp only [QgI] at h
    split at h
    case h_2=>cases h
    rename_i l' hl'
    have fin:∀ d,l=d::l'→(∀ (S:Nat→Prop) (w:World),Rd S w v d)→∃ v',(v::r)[j]? = some v'∧∀ (S:Nat→Prop) (w:World),Rd S w v' x:=by
      intro d hd hr
      subst hd
      cases j with
      | zero=>simp at hx;subst hx;exact ⟨v,rfl,hr⟩
      | succ j=>
        obtain ⟨v',h1,h2⟩:=Qed hl' j x (by simpa using hx)
        exact ⟨v',by simpa using h1,h2⟩
    split at h
    · cases h;exact fin _ rfl fun _ _=>.int _ _
    · cases h;exact fin _ rfl fun _ _=>.bool _
    · cases h;exact fin _ rfl fun _ _=>.str _
    · cases h;exact fin _ rfl fun _ _=>.sl0 _ _ _
    · cases h
def Q1A (P:Program) (t:TypeId) (xs:List Value):Value:=
  match P.underlying t with
  | some (.struct _)=>.agg xs.toArray
  | _=>xs.headD undef
theorem Qc8 {t:TypeId} {f:Nat} {ks:List Kd} (hk:QeE P f t=some ks) (hi:(P.info? t).map (·.size)=some ks.length) {w:World} {cs:Array Value} {off:Nat} (hle:off+ks.length≤cs.size) :
    (part t cs off).run P w = .ok (Q1A P t ((cs.toList.drop off).take ks.length)) w:=by
  obtain ⟨i,hi1,hi2⟩:=Option.map_eq_some_iff.1 hi
  have one:∀ (d:TypeDesc),P.underlying t=some d→(∀ fs,d≠.struct fs)→(∀ n e,d≠.array n e)→ks.length=1→(part t cs off).run P w = .ok (Q1A P t ((cs.toList.drop off).take ks.length)) w:=by
    intro d hd h1 h2 hl
    have hagg:(isAgg t).run P w = .ok false w:=by
      simp only [isAgg,Sem.run_bind,Y5 hd,Result.andThen_ok]
      cases d <;> simp_all
    have hc:cs[off]? = some (cs[off]'(by omega)):=Array.getElem?_eq_getElem (by omega)
    have hp:Q1A P t ((cs.toList.drop off).take ks.length)=cs[off]'(by omega):=by
      have hlt:off<cs.toList.length:=by simp;omega
      rw [hl,List.drop_eq_getElem_cons hlt]
      unfold Q1A
      rw [hd]
      cases d <;> simp_all
    simp only [part,Sem.run_bind,hagg,Result.andThen_ok,Bool.false_eq_true,if_false,hc,hp]
    rfl
  cases f with
  | zero=>simp [QeE] at hk
  | succ f=>
    unfold QeE at hk
    split at hk
    · rename_i hd;injection hk with hk;exact one _ hd (by simp) (by simp) (by rw [← hk];rfl)
    · rename_i k hd;injection hk with hk;exact one _ hd (by simp) (by simp) (by rw [← hk];rfl)
    · rename_i hd;injection hk with hk;exact one _ hd (by simp) (by simp) (by rw [← hk];rfl)
    · rename_i fs hd
      have hagg:(isAgg t).run P w = .ok true w:=by simp [isAgg,Y5 hd]
      have hp:Q1A P t ((cs.toList.drop off).take ks.length) = .agg (cs.extract off (off+ks.length)):=by
        unfold Q1A
        rw [hd]
        simp only
        congr 1
        apply Array.ext'
        simp [List.take_drop]
      simp only [part,Sem.run_bind,hagg,Result.andThen_ok,if_true,sizeOf,ZI hi1,hi2,hp]
      rfl
    · cases hk
theorem Qh6:∀ (f:Nat) (t:TypeId) (ks:List Kd),QeE P f t=some ks→∀ (d:Nat),f≤d→∀ (w:World) (xs ys:List Value) (bs:List Bool),xs.length=ks.length→ys.length=ks.length→bs.length=ks.length →
    (∀ (j:Nat) (kd:Kd) (b:Bool),ks[j]? = some kd→bs[j]? = some b→CEq kd (xs.getD j undef) (ys.getD j undef) b)→(Op.equalIn d t (Q1A P t xs) (Q1A P t ys)).run P w = .ok (bs.all id) w:=by
  intro f
  induction f with
  | zero=>intro t ks hk;simp [QeE] at hk
  | succ f ih=>
    intro t ks hk d hd w xs ys bs hx hy hb hc
    obtain ⟨d,rfl⟩:∃ d',d=d'+1:=⟨d-1,by omega⟩
    unfold QeE at hk
    split at hk
    · rename_i ht
      injection hk with hk;subst hk
      match xs,ys,bs,hx,hy,hb with
      | [x],[y],[b],_,_,_=>
        obtain ⟨m,n,h1,h2,h3⟩:=hc 0 _ _ rfl rfl
        simp at h1 h2
        subst h1 h2 h3
        simp [Q1A,ht,Op.equalIn,Y5 ht]
    · rename_i k ht
      injection hk with hk;subst hk
      match xs,ys,bs,hx,hy,hb with
      | [x],[y],[b],_,_,_=>
        obtain ⟨m,n,h1,h2,h3⟩:=hc 0 _ _ rfl rfl
        simp at h1 h2
        subst h1 h2 h3
        simp [Q1A,ht,Op.equalIn,Y5 ht]
    · rename_i ht
      injection hk with hk;subst hk
      match xs,ys,bs,hx,hy,hb with
      | [x],[y],[b],_,_,_=>
        obtain ⟨m,n,h1,h2,h3⟩:=hc 0 _ _ rfl rfl
        simp at h1 h2
        subst h1 h2 h3
        simp only [Q1A,ht,List.headD_cons,Op.equalIn,Sem.run_bind,Y5 ht,Result.andThen_ok]
        rw [beq_toListBytes,ByteArray.toList_eq,ByteArray.toList_eq]
        simp
    · rename_i fs ht
      split at hk
      · cases hk
      rename_i hst
      have hfs:P.fieldsOf t=fs:=by simp [Program.fieldsOf,ht]
      have key:∀ (r:List Field) (off:Nat) (l:List Kd) (bs':List Bool),Qhv P (QeE P f) off r=some l→off+l.length≤xs.length→xs.length=ys.length→bs'.length=l.length →
          (∀ (j:Nat) (kd:Kd) (b:Bool),l[j]? = some kd→bs'[j]? = some b→CEq kd (xs.getD (off+j) undef) (ys.getD (off+j) undef) b) →
          (Op.eqFields d xs.toArray ys.toArray r).run P w = .ok (bs'.all id) w:=by
        intro r
        induction r with
        | nil=>
          intro off l bs' hl _ _ hbl _
          simp [Qhv] at hl
          subst hl
          have:bs'=[]:=List.eq_nil_of_length_eq_zero (by simpa using hbl)
          subst this
          simp [Op.eqFields]
        | cons fd r ihr=>
          intro off l bs' hl hle hxy hbl hcc
          unfold Qhv at hl
          split at hl
          case isFalse=>cases hl
          rename_i hoff
          split at hl
          case h_2=>cases hl
          rename_i a ha
          split at hl
          case isFalse=>cases hl
          rename_i hi
          split at hl
          case h_2=>cases hl
          rename_i l' hl'
          injection hl with hl;subst hl
          simp only [List.length_append] at hle hbl
          have p1:=Qc8 ha hi (w:=w) (cs:=xs.toArray) (off:=off) (by simp;omega)
          have p2:=Qc8 ha hi (w:=w) (cs:=ys.toArray) (off:=off) (by simp;omega)
          have gd:∀ (zs:List Value) (j:Nat),zs.length=xs.length→j<a.length→((zs.drop off).take a.length).getD j undef=zs.getD (off+j) undef:=by
            intro zs j hz hj
            simp only [List.getD,List.getElem?_take,hj,if_true,List.getElem?_drop]
          have e1:=ih fd.type a ha d (by omega) w ((xs.drop off).take a.length) ((ys.drop off).take a.length) (bs'.take a.length) (by simp;omega) (by simp;omega) (by simp;omega) (fun j kd b hj hb'=>by
            have hj':j<a.length:=(List.getElem?_eq_some_iff.1 hj).1
            rw [gd xs j rfl hj',gd ys j hxy.symm hj']
            refine hcc j kd b (by rw [List.getElem?_append_left hj'];exact hj) ?_
            rw [List.getElem?_take,if_pos hj'] at hb'
            exact hb')
          have e2:=ihr (off+a.length) l' (bs'.drop a.length) hl' (by omega) hxy (by simp;omega) (fun j kd b hj hb'=>by
            rw [Nat.add_assoc]
            refine hcc (a.length+j) kd b (by rw [List.getElem?_append_right (by omega)];simpa using hj) ?_
            rw [List.getElem?_drop] at hb'
            exact hb')
          have hall:bs'.all id=((bs'.take a.length).all id&&(bs'.drop a.length).all id):=by
            rw [← List.all_append,List.take_append_drop]
          simp only [Op.eqFields,hoff.1,hoff.2,ne_eq,not_false_eq_true,if_true,Sem.run_bind,p1,p2,Result.andThen_ok,e1]
          rw [hall]
          cases (bs'.take a.length).all id with
          | true=>simp [e2]
          | false=>simp
      have:=key fs.toList 0 ks bs hk (by omega) (by omega) hb (fun j kd b h1 h2=>by rw [Nat.zero_add];exact hc j kd b h1 h2)
      have hp:∀ zs,Q1A P t zs = .agg zs.toArray:=fun zs=>by simp [Q1A,ht]
      rw [hp,hp,run_equalIn_struct w d t _ _ (by rw [hfs];exact ht) (by simpa using hst),hfs]
      exact this
    · cases hk
theorem Qgg {t e:TypeId} {k:IntKind} (ht:P.underlying t=some (.array 2 e)) (he:P.underlying e=some (.int k)) (hi:(P.info? e).map (·.size)=some 1) (w:World) (a b c d:Int) :
    (Op.equalIn 10000 t (.agg #[.int k a,.int k b]) (.agg #[.int k c,.int k d])).run P w = .ok ((a == c)&&(b == d)) w:=by
  obtain ⟨i,hi1,hi2⟩:=Option.map_eq_some_iff.1 hi
  have hagg:(isAgg e).run P w = .ok false w:=by
    simp only [isAgg,Sem.run_bind,Y5 he,Result.andThen_ok]
    rfl
  have hs:(Go.sizeOf e).run P w = .ok 1 w:=by simp only [sizeOf,Sem.run_bind,ZI hi1,Result.andThen_ok,hi2];rfl
  have hp:∀ (x y:Value),(part e #[x,y] 0).run P w = .ok x w∧(part e #[x,y] 1).run P w = .ok y w:=fun x y=>by
    constructor <;> simp [part,hagg]
  have hq:∀ x y:Int,(Op.equalIn 9999 e (.int k x) (.int k y)).run P w = .ok (x == y) w:=fun x y=>by
    rw [Op.equalIn]
    simp [Y5 he]
  rw [Op.equalIn]
  simp only [Sem.run_bind,Y5 ht,Result.andThen_ok,hs]
  simp [Std.Legacy.Range.forIn_eq_forIn_range',Std.Legacy.Range.size,List.range',(hp _ _).1,(hp _ _).2,hq]
  by_cases h1:a=c <;> by_cases h2:b=d <;> simp [h1,h2]
theorem QfW {t:Nat} {ks:List Kd} (h:Qii P t=some ks):QiC P t ks:=by
  unfold Qii at h
  split at h
  case h_3=>cases h
  case h_2=>
    rename_i e ht
    split at h
    case h_2=>cases h
    rename_i k he
    split at h
    case isFalse=>cases h
    rename_i hg
    injection h with h
    subst h
    intro w xs ys bs hx hy hb hc
    refine ⟨?_,hg.2⟩
    obtain ⟨xs⟩:=xs
    obtain ⟨ys⟩:=ys
    match xs,ys,bs,hx,hy,hb with
    | [x0,x1],[y0,y1],[b0,b1],_,_,_=>
      obtain ⟨m,n,h1,h2,h3⟩:=hc 0 _ _ rfl rfl
      obtain ⟨m',n',h1',h2',h3'⟩:=hc 1 _ _ rfl rfl
      simp at h1 h2 h1' h2'
      subst h1 h2 h3 h1' h2' h3'
      rw [Qgg ht he hg.1]
      simp
  rename_i fs ht
  split at h
  · cases h
  rename_i hg
  intro w xs ys bs hx hy hb hc
  refine ⟨?_,by simpa using hg⟩
  have:=Qh6 6 t ks h 10000 (by omega) w xs.toList ys.toList bs (by simpa using hx) (by simpa using hy) hb (fun j kd b h1 h2=>by
    have:=hc j kd b h1 h2
    simpa [Array.getD_eq_getD_getElem?,List.getD] using this)
  simpa [Q1A,ht] using this
theorem Qhi {d:TypeDesc} {e esz:Nat} (hk:kdP P d=some (.sl e esz)):d = .slice e∧0<esz∧∃ i,P.info? e=some i∧i.size=esz:=by
  cases d <;> simp only [kdP,Option.some.injEq,reduceCtorEq] at hk
  case slice e'=>
    split at hk
    · rename_i i' hi'
      split at hk
      · injection hk with hk
        injection hk with h1 h2
        subst h1
        exact ⟨rfl,by omega,i',hi',h2⟩
      · cases hk
    · cases hk
  all_goals (repeat' split at hk) <;> simp at hk
theorem Qg1 {t:TypeId} {d:TypeDesc} (hk:kdP P d=some .mapI) (hd:P.underlying t=some d):∃ K e,P.underlying t=some (.map K e)∧P.underlying K=some (.int .i64)∧∃ i,P.info? e=some i∧i.zero=some (.slice none 0 0):=by
  cases d <;> simp only [kdP,Option.some.injEq,reduceCtorEq] at hk
  case map K e=>
    split at hk
    · rename_i i h1 h2
      split at hk
      · rename_i h3;exact ⟨K,e,hd,h1,i,h2,h3⟩
      · cases hk
    · cases hk
  all_goals (repeat' split at hk) <;> simp at hk
theorem Qcr {d:TypeDesc} (hk:kdP P d=some .struct):∃ fs,d = .struct fs∧∀ f∈fs.toList,∃ i,P.info? f.type=some i∧i.size≠0:=by
  cases d <;> simp only [kdP,Option.some.injEq,reduceCtorEq] at hk
  case struct fs=>
    split at hk
    · rename_i hall
      refine ⟨fs,rfl,fun f hf=>?_⟩
      rw [List.all_eq_true] at hall
      have:=hall f hf
      split at this
      · rename_i i' hi';exact ⟨i',hi',by simpa using this⟩
      · cases this
    · cases hk
  all_goals (repeat' split at hk) <;> simp at hk
theorem Qdl {d:TypeDesc} {e esz n:Nat} (hk:kdP P d=some (.array e esz n)):d = .array n e∧0<esz∧∃ i,P.info? e=some i∧i.size=esz:=by
  cases d <;> simp only [kdP,Option.some.injEq,reduceCtorEq] at hk
  case array n' e'=>
    split at hk
    · rename_i i' hi'
      split at hk
      · injection hk with hk
        injection hk with h1 h2 h3
        subst h1 h3
        exact ⟨rfl,by omega,i',hi',h2⟩
      · cases hk
    · cases hk
  all_goals (repeat' split at hk) <;> simp at hk
theorem Qge {d:TypeDesc} {k:IntKind} (hk:kdP P d=some (.int k)):d = .int k:=by
  cases d <;> simp only [kdP,Option.some.injEq,Kd.int.injEq,reduceCtorEq] at hk <;> first | (subst hk;rfl) | ((repeat' split at hk) <;> simp at hk)
theorem QeL {d:TypeDesc} (hk:kdP P d=some .bool):d = .bool:=by
  cases d <;> simp only [kdP,Option.some.injEq,reduceCtorEq] at hk <;> first | rfl | ((repeat' split at hk) <;> simp at hk)
theorem QfF {d:TypeDesc} (hk:kdP P d=some .str):d = .string:=by
  cases d <;> simp only [kdP,Option.some.injEq,reduceCtorEq] at hk <;> first | rfl | ((repeat' split at hk) <;> simp at hk)
theorem Qhr {t:Nat} {ti:TyI} (h:tyI P t=some ti):TyOk P t ti:=by
  unfold tyI at h
  split at h
  case h_2=>cases h
  rename_i i d hi hd
  split at h
  case h_2=>cases h
  rename_i z kd hz hk
  split at h
  case isFalse=>cases h
  rename_i hc
  injection h with h
  subst h
  refine ⟨⟨i,hi,rfl,rfl,z,hz,rfl⟩,fun hs=>⟨hc.2.1 hs,d,hd,?_,?_⟩,fun k he=>?_,fun he=>?_,fun he=>?_,fun e esz he=>?_,fun he=>?_,fun e esz n he=>?_,fun ks he=>QfW he,hc.1,fun hl j x hx=>?_,fun he=>?_⟩
  · rintro fs rfl
    simp only [kdP] at hk
    split at hk
    · injection hk with hk;subst hk;simp [G1] at hs
    · cases hk
  · rintro n e rfl
    simp only [kdP] at hk
    split at hk
    · split at hk
      · injection hk with hk;subst hk;simp [G1] at hs
      · cases hk
    · cases hk
  · simp only at he
    subst he
    rw [Qge hk] at hd
    exact hd
  · simp only at he
    subst he
    rw [QeL hk] at hd
    exact hd
  · simp only at he
    subst he
    rw [QfF hk] at hd
    exact hd
  · simp only at he
    subst he
    obtain ⟨h1,h2,h3⟩:=Qhi hk
    rw [h1] at hd
    exact ⟨hd,h2,h3⟩
  · simp only at he
    subst he
    obtain ⟨fs,h1,h2⟩:=Qcr hk
    subst h1
    exact ⟨fs,hd,rfl,h2⟩
  · simp only at he
    subst he
    obtain ⟨h1,h2,i',h3,h4⟩:=Qdl hk
    subst h1
    refine ⟨hd,h2,⟨i',h3,h4⟩,Nat.eq_of_beq_eq_true hc.2.2,?_⟩
    simp [QdA,h3,h4]
  · simp only at hl hx
    cases hz':QgI z.cells.toList ((Q8c P 8 t).map (QhA P)) with
    | none=>rw [hz'] at hx;simp at hx
    | some l=>rw [hz'] at hx;exact Qed hz' j x (by simpa using hx)
  · simp only at he
    subst he
    exact Qg1 hk hd
theorem Qec (ids:List Nat):TOk P (QfT P ids):=by
  induction ids with
  | nil=>intro t ti h;simp [QfT,look] at h
  | cons a r ih=>
    intro t ti h
    unfold QfT at h
    split at h
    · rename_i x hx
      rw [X4] at h
      by_cases e:t=a
      · rw [if_pos e] at h;injection h with h;subst h;subst e;exact Qhr hx
      · rw [if_neg e] at h;exact ih t ti h
    · exact ih t ti h
mutual
def lf:AV→Bool
  | .ptr ..=>false
  | .arr _=>false
  | .ap ..=>false
  | .sa ..=>false
  | .gd ..=>false
  | .ag l=>lfL l
  | .tup l=>lfL l
  | .fn _ l=>lfL l
  | _=>true
def lfL:List AV→Bool
  | []=>true
  | a::r=>lf a&&lfL r
end
mutual
theorem Qbo (l:Nat):∀ (av:AV),lf av=true→U2 l av=false
  | .ptr ..,h=>by simp [lf] at h
  | .arr _,h=>by simp [lf] at h
  | .ap ..,h=>by simp [lf] at h
  | .sa ..,h=>by simp [lf] at h
  | .gd ..,h=>by simp [lf] at h
  | .ag r,h=>by simp only [U2];exact Q2k l r (by simpa [lf] using h)
  | .tup r,h=>by simp only [U2];exact Q2k l r (by simpa [lf] using h)
  | .fn _ r,h=>by simp only [U2];exact Q2k l r (by simpa [lf] using h)
  | .top,_=>rfl
  | .d _,_=>rfl
  | .nil,_=>rfl
  | .el ..,_=>rfl
  | .fs ..,_=>rfl
  | .mpd _,_=>rfl
  | .ex _,_=>rfl
theorem Q2k (l:Nat):∀ (r:List AV),lfL r=true→KO l r=false
  | [],_=>rfl
  | a::r,h=>by
    simp only [lfL,Bool.and_eq_true] at h
    simp only [KO,Qbo l a h.1,Q2k l r h.2,Bool.or_self]
end
mutual
theorem Q9b (t:Nat):∀ (av:AV),lf av=true→gds t av=false
  | .ptr ..,h=>by simp [lf] at h
  | .arr _,h=>by simp [lf] at h
  | .ap ..,h=>by simp [lf] at h
  | .sa ..,h=>by simp [lf] at h
  | .gd ..,h=>by simp [lf] at h
  | .ag r,h=>by simp only [gds];exact Q8y t r (by simpa [lf] using h)
  | .tup r,h=>by simp only [gds];exact Q8y t r (by simpa [lf] using h)
  | .fn _ r,h=>by simp only [gds];exact Q8y t r (by simpa [lf] using h)
  | .top,_=>rfl
  | .d _,_=>rfl
  | .nil,_=>rfl
  | .el ..,_=>rfl
  | .fs ..,_=>rfl
  | .mpd _,_=>rfl
  | .ex _,_=>rfl
theorem Q8y (t:Nat):∀ (r:List AV),lfL r=true→Q55 t r=false
  | [],_=>rfl
  | a::r,h=>by
    simp only [lfL,Bool.and_eq_true] at h
    simp only [Q55,Q9b t a h.1,Q8y t r h.2,Bool.or_self]
end
theorem Q7I:∀ {l:List AV} {i:Nat} {x:AV},lfL l=true→l[i]? = some x→lf x=true
  | a::r,i,x,h,hx=>by
    simp only [lfL,Bool.and_eq_true] at h
    cases i with
    | zero=>simp at hx;subst hx;exact h.1
    | succ i=>exact Q7I h.2 (by simpa using hx)
theorem Q2l {β β':Nat→Option Nat} {S S':Nat→Prop} {h h':Nat→Option Ob} {w w':World} {tm tm':Nat→Value} {v:Value} {av:AV} (hl:lf av=true) (hS:∀ b,S b→S' b) (hw:∀ b,S b→w'.heap[b]? = w.heap[b]?) (hv:RdA β S h w tm v av):RdA β' S' h' w' tm' v av:=
  hv.mono hS hw (fun l hn=>by rw [Qbo l av hl] at hn;cases hn) (fun t ht=>by rw [Q9b t av hl] at ht;cases ht)
def QeY (h:List (Nat × Ob)) (av:AV):Option AV:=
  match av with
  | .tup l=>match DE (look h) l with
    | some (l',_)=>bif lfL l' then some (.tup l') else none
    | none=>none
  | av=>match Dp (look h) av with
    | some (av',_)=>bif lf av' then some av' else none
    | none=>none
def QiK {R:Type} (K:AV→Option R):AV→List (Nat × Ob)→Option R:=fun av h=>match QeY h av with
  | some av'=>K av'
  | none=>none
theorem Q8z {β:Nat→Option Nat} {S:Nat→Prop} {H:List (Nat × Ob)} {w:World} {v:Value} {av av':AV} (hO:Objs β S (look H) w) (h:QeY H av=some av') (hv:RdA β S (look H) w tm0 v av) :
    ∃ bs,(∀ l,l∈bs→∃ e s rows,look H l=some (.arr e s rows))∧lf av'=true∧RdA β (fzS β S bs) (fzH (look H) bs) w tm0 v av':=by
  unfold QeY at h
  split at h
  · rename_i l
    split at h
    · rename_i l' bs hc
      cases hl:lfL l' with
      | false=>simp [hl] at h
      | true=>
        simp only [hl,cond_true,Option.some.injEq] at h
        subst h
        refine ⟨bs,Q2m hc,by simpa [lf] using hl,?_⟩
        obtain ⟨vs,rfl,hsz,hr⟩:=hv.tup_inv
        obtain ⟨h1,h2⟩:=Q0x hc
        refine .tup _ _ (by rw [hsz,h1]) fun i x hx=>?_
        have hi:i<l.length:=by have:=(List.getElem?_eq_some_iff.1 hx).1;omega
        have hli:=List.getElem?_eq_getElem hi
        obtain ⟨av',b2,g1,g2,g3⟩:=h2 i _ hli
        rw [hx] at g1
        injection g1 with g1
        subst g1
        exact Qbc hO (fun _ _=>rfl) g3 g2 (hr i _ hli)
    · cases h
  · split at h
    · rename_i av'' bs hc
      cases hl:lf av'' with
      | false=>simp [hl] at h
      | true=>
        simp only [hl,cond_true,Option.some.injEq] at h
        subst h
        exact ⟨bs,Q5m hc,hl,Qbc hO (fun _ _=>rfl) (fun _ h=>h) hc hv⟩
    · cases h
theorem Qgd {C : VC} (hC : VCOk P C) {n f : Nat} {fn : Func} (hf : P.funcs[f]? = some fn) (hb : fn.body.isSome = true) (hn : (fn.name == "runtime.NumGoroutine") = false) {avs : List AV} {av : AV} {hl : Nat → Option Ob} {rd : List Nat} (hlf : lfL avs = true)
    (h:vfn C n fn avs [] (QiK some)=some av):QI P f avs hl ⟨av,[],rd⟩:=by
  refine ⟨⟨fn,hf,hb,hn⟩,fun β S h' w args hO hA _=>?_⟩
  have hO0:Objs (fun _=>none) S (look ([]:List (Nat × Ob))) w:=⟨fun l o h=>by simp [look] at h,fun l l' b h=>by simp [look] at h,fun l b h=>by simp [look] at h,hO.sb⟩
  have hA0:ArgsRd (fun _=>none) S (look ([]:List (Nat × Ob))) w args avs:=⟨hA.1,fun i v av' h1 h2=>Q2l (Q7I hlf h2) (fun _ h=>h) (fun _ _=>rfl) (hA.2 i v av' h1 h2)⟩
  refine (FX hC hf h hO0 hA0).mono fun e w' ⟨v,av0,H',β',S',he,hk,hrd,_,hr⟩=>?_
  unfold QiK at hk
  split at hk
  case h_2=>cases hk
  rename_i av' hav
  injection hk with hk
  subst hk
  have hO':Objs β' S' (look H') w':=⟨hr.ob,hr.inj,hr.apart,hr.sb⟩
  obtain ⟨bs,hbs,hlf',hrd'⟩:=Q8z hO' hav hrd
  have hnoM:∀ {b:Nat},(S b∨(∃ l,(look ([]:List (Nat × Ob)) l).isSome=true∧(none:Option Nat)=some b)∨w.heap.size≤b)→S b∨w.heap.size≤b:=by
    intro b h
    rcases h with h | ⟨l,h,_⟩ | h
    · exact .inl h
    · simp [look] at h
    · exact .inr h
  have hfz:∀ b,fzS β' S' bs b→S b∨w.heap.size≤b:=by
    intro b hS
    rcases hS with hS | ⟨l,hl',hb'⟩
    · exact hnoM (hr.sfr b hS)
    · obtain ⟨e',s,rows,hh⟩:=hbs l hl'
      exact hnoM (.inr (hr.own l b (by simp [hh]) hb'))
  refine ⟨v,β,fzS β' S' bs,he,⟨fun b hS=>.inl (hr.s0 b hS),fun b hS=>?_,fun b hS=>?_,?_,fun _ _=>rfl,fun l o hl'=>by simp [wrL] at hl',fun l hl'=>by simp [wrL] at hl',fun l b hl'=>by simp [wrL] at hl',fun l l' b hl'=>by simp [wrL] at hl',fun l hl'=>by simp [wrL] at hl',?_,fun t=>Q9b t _ hlf'⟩⟩
  · rcases hfz b hS with h1 | h1
    · exact .inl h1
    · exact .inr (.inl h1)
  · rcases hS with hS | ⟨l,hl',hb'⟩
    · exact hr.sb b hS
    · obtain ⟨e',s,rows,hh⟩:=hbs l hl'
      rcases hr.ob l _ hh with ⟨hn',_⟩ | ⟨b2,cs,hb2,hw2,_⟩
      · rw [hb'] at hn';cases hn'
      · rw [hb'] at hb2;injection hb2 with hb2;subst hb2
        exact (Array.getElem?_eq_some_iff.1 hw2).1
  · refine hr.fr.mono fun b _ ⟨l,h1,_⟩=>?_
    simp [look] at h1
  · exact Q2l hlf' (fun _ h=>h) (fun _ _=>rfl) hrd'
end

section
variable {P:Program} {R:Type}
def Q6C (av av':AV):Prop:=∀ (β:Nat→Option Nat) (S:Nat→Prop) (h:Nat→Option Ob) (w:World) (tm:Nat→Value) (v:Value),RdA β S h w tm v av→RdA β S h w tm v av'
theorem Q6C.refl (av:AV):Q6C av av:=fun _ _ _ _ _ _ h=>h
theorem Q6C.of_eq {a b:AV} (h:a=b):Q6C a b:=h▸Q6C.refl a
theorem Q6C.nil (s:Nat):Q6C .nil (.d (.sl s [])):=fun _ _ _ _ _ v h=>by rw [h.nil_inv];exact .d _ _ (.sl0 _ _ _)
inductive AVleL:List AV→List AV→Prop
  | nil:AVleL [] []
  | cons {a b:AV} {l r:List AV} (h:Q6C a b) (t:AVleL l r):AVleL (a::l) (b::r)
theorem AVleL.length {l r:List AV} (h:AVleL l r):l.length=r.length:=by induction h <;> simp [*]
theorem AVleL.at {l r:List AV} (h:AVleL l r):∀ (i:Nat) (x:AV),r[i]? = some x→∃ y,l[i]? = some y∧Q6C y x:=by
  induction h with
  | nil=>intro i x hx;simp at hx
  | cons h0 _ ih=>
    intro i x hx
    cases i with
    | zero=>simp at hx;subst hx;exact ⟨_,rfl,h0⟩
    | succ i=>obtain ⟨y,h1,h2⟩:=ih i x (by simpa using hx);exact ⟨y,by simpa using h1,h2⟩
theorem AVleL.refl:∀ l:List AV,AVleL l l
  | []=>.nil
  | a::r=>.cons (Q6C.refl a) (AVleL.refl r)
theorem Q6C.ag {l r:List AV} (h:AVleL l r):Q6C (.ag l) (.ag r):=fun _ _ _ _ _ v hv=>by
  obtain ⟨cs,rfl,hsz,hr⟩:=hv.ag_inv
  refine .ag cs r (hsz.trans h.length) fun i x hx=>?_
  obtain ⟨y,h1,h2⟩:=h.at i x hx
  exact h2 _ _ _ _ _ _ (hr i y h1)
theorem Q6C.tup {l r:List AV} (h:AVleL l r):Q6C (.tup l) (.tup r):=fun _ _ _ _ _ v hv=>by
  obtain ⟨cs,rfl,hsz,hr⟩:=hv.tup_inv
  refine .tup cs r (hsz.trans h.length) fun i x hx=>?_
  obtain ⟨y,h1,h2⟩:=h.at i x hx
  exact h2 _ _ _ _ _ _ (hr i y h1)
theorem QI.conv {f:Nat} {avs avs':List AV} {hl:Nat→Option Ob} {dl:Dl} (h:AVleL avs avs') (hc:QI P f avs' hl dl):QI P f avs hl dl:=by
  obtain ⟨h1,h2⟩:=hc
  refine ⟨h1,fun β S hh w args hO hA hl'=>h2 β S hh w args hO ⟨hA.1.trans h.length,fun i v av hv hav=>?_⟩ hl'⟩
  obtain ⟨y,g1,g2⟩:=h.at i av hav
  exact g2 _ _ _ _ _ _ (hA.2 i v y hv g1)
def prI (g:Bool) (ik:IntKind) (av:AV) (k:Int→Option R):Option R:=
  match av with
  | .d x=>gb g (XL ik x) 0 k
  | _=>none
def prB (g:Bool) (av:AV) (k:Bool→Option R):Option R:=
  match av with
  | .d x=>gb g (Eu x) false k
  | _=>none
def prT (g:Bool) (av:AV) (k:List UInt8→Option R):Option R:=
  match av with
  | .d x=>gb g (Qc0 x) [] k
  | _=>none
def prS (g:Bool) (esz:Nat) (av:AV) (k:List (List D)→Option R):Option R:=
  match av with
  | .d x=>gb g (pSl esz x) [] k
  | .nil=>k []
  | _=>none
def prG (av:AV) (k:List AV→Option R):Option R:=
  match av with
  | .ag l=>k l
  | _=>none
theorem Q2 {g:Bool} {ik:IntKind} {av:AV} {k:Int→Option R} {r:R} (h:prI g ik av k=some r):∃ n,k n=some r∧(g=true→Q6C av (.d (.int ik n))):=by
  unfold prI at h
  split at h
  · obtain ⟨n,hn,hp⟩:=Qc h
    exact ⟨n,hn,fun hg=>.of_eq (by rw [Q1t (hp hg)])⟩
  · cases h
theorem LO {g:Bool} {av:AV} {k:Bool→Option R} {r:R} (h:prB g av k=some r):∃ n,k n=some r∧(g=true→Q6C av (.d (.bool n))):=by
  unfold prB at h
  split at h
  · obtain ⟨n,hn,hp⟩:=Qc h
    exact ⟨n,hn,fun hg=>.of_eq (by rw [Ah (hp hg)])⟩
  · cases h
theorem VN {g:Bool} {av:AV} {k:List UInt8→Option R} {r:R} (h:prT g av k=some r):∃ n,k n=some r∧(g=true→Q6C av (.d (.str n))):=by
  unfold prT at h
  split at h
  · obtain ⟨n,hn,hp⟩:=Qc h
    exact ⟨n,hn,fun hg=>.of_eq (by rw [Q24 (hp hg)])⟩
  · cases h
theorem Q1 {g:Bool} {esz:Nat} {av:AV} {k:List (List D)→Option R} {r:R} (h:prS g esz av k=some r):∃ n,k n=some r∧(g=true→Q6C av (.d (.sl esz n))):=by
  unfold prS at h
  split at h
  · obtain ⟨n,hn,hp⟩:=Qc h
    exact ⟨n,hn,fun hg=>.of_eq (by rw [QbD (hp hg)])⟩
  · exact ⟨[],h,fun _=>.nil _⟩
  · cases h
theorem Qq {av:AV} {k:List AV→Option R} {r:R} (h:prG av k=some r):∃ l,k l=some r∧av = .ag l:=by
  unfold prG at h
  split at h
  · exact ⟨_,h,rfl⟩
  · cases h
abbrev XH:=(R:Type)→Nat→Bool→List AV→(Nat→Option Ob)→(Dl→Option R)→Option R
def Qo (P:Program) (f:Nat) (e:XH):Prop:=
  ∀ (R:Type) (site:Nat) (g:Bool) (avs:List AV) (hl:Nat→Option Ob) (k:Dl→Option R) (r:R),e R site g avs hl k=some r→∃ dl,k dl=some r∧(g=true→QI P f avs hl dl)
def QK (l:List (Nat × XH)):Q9K:=fun R f site g avs hl k=>
  match look1 l f with
  | some e=>e R site g avs hl k
  | none=>none
where
  look1:List (Nat × XH)→Nat→Option XH
    | [],_=>none
    | (k,a)::r,t=>bif Nat.beq k t then some a else look1 r t
def QbC (P:Program):List (Nat × XH)→Prop
  | []=>True
  | (f,e)::r=>Qo P f e∧QbC P r
theorem QbZ:∀ {l:List (Nat × XH)} {f:Nat} {e:XH},QbC P l→QK.look1 l f=some e→Qo P f e
  | (k,a)::r,f,e,h,hl=>by
    simp only [QK.look1] at hl
    cases hk:Nat.beq k f with
    | true=>
      simp only [hk,cond_true,Option.some.injEq] at hl
      subst hl
      have:=Nat.eq_of_beq_eq_true hk
      subst this
      exact h.1
    | false=>simp only [hk,cond_false] at hl;exact QbZ h.2 hl
theorem Qe {l:List (Nat × XH)} (h:QbC P l):Q1P P (QK l):=by
  intro R f site g avs hl k r hs
  unfold QK at hs
  split at hs
  · rename_i e he
    exact QbZ h he R site g avs hl k r hs
  · cases hs
def QhR (s:Nat):AV→AV
  | .nil=>.d (.sl s [])
  | av=>av
def QhO:List Nat→List AV→List AV
  | s::ss,a::r=>QhR s a::QhO ss r
  | [],r=>r
  | _::_,[]=>[]
def QhL (ss:List Nat):AV→AV
  | .ag l=>.ag (QhO ss l)
  | av=>QhR (ss.headD 0) av
def QhN:List (List Nat)→List AV→List AV
  | s::ss,a::r=>QhL s a::QhN ss r
  | [],r=>r
  | _::_,[]=>[]
def QgJ (ss:List (List Nat)):AV→AV
  | .tup l=>.tup (QhN ss l)
  | av=>QhL (ss.headD []) av
theorem Qeg (s:Nat) (av:AV):Q6C av (QhR s av):=by
  unfold QhR;split
  · exact .nil s
  · exact .refl _
theorem Qeb:∀ (ss:List Nat) (l:List AV),AVleL l (QhO ss l)
  | s::ss,a::r=>.cons (Qeg s a) (Qeb ss r)
  | [],r=>by unfold QhO;exact .refl r
  | _::_,[]=>.nil
theorem Qd7 (ss:List Nat) (av:AV):Q6C av (QhL ss av):=by
  unfold QhL;split
  · exact .ag (Qeb ss _)
  · exact Qeg _ _
theorem Qdq:∀ (ss:List (List Nat)) (l:List AV),AVleL l (QhN ss l)
  | s::ss,a::r=>.cons (Qd7 s a) (Qdq ss r)
  | [],r=>by unfold QhN;exact .refl r
  | _::_,[]=>.nil
theorem QdG (ss:List (List Nat)) (av:AV):Q6C av (QgJ ss av):=by
  unfold QgJ;split
  · exact .tup (Qdq ss _)
  · exact Qd7 _ _
def Wc {R:Type} (ss:List (List Nat)) (K:AV→Option R):AV→List (Nat × Ob)→Option R:=fun av h=>match QeY h av with
  | some av'=>bif lf (QgJ ss av') then K (QgJ ss av') else none
  | none=>none
theorem QcO {α : Type} {K : AV → Option α} {res : α} {C : VC} (hC : VCOk P C) {n f : Nat} {fn : Func} (hf : P.funcs[f]? = some fn) (hb : fn.body.isSome = true) (hn : (fn.name == "runtime.NumGoroutine") = false) {ss : List (List Nat)} {avs : List AV} {av : AV} {hl : Nat → Option Ob} {rd : List Nat} (hlf : lfL avs = true)
    (h:vfn C n fn avs [] (Wc ss K)=some res) (hK:∀ x,K x=some res→x=av):QI P f avs hl ⟨av,[],rd⟩:=by
  refine ⟨⟨fn,hf,hb,hn⟩,fun β S h' w args hO hA _=>?_⟩
  have hO0:Objs (fun _=>none) S (look ([]:List (Nat × Ob))) w:=⟨fun l o h=>by simp [look] at h,fun l l' b h=>by simp [look] at h,fun l b h=>by simp [look] at h,hO.sb⟩
  have hA0:ArgsRd (fun _=>none) S (look ([]:List (Nat × Ob))) w args avs:=⟨hA.1,fun i v av' h1 h2=>Q2l (Q7I hlf h2) (fun _ h=>h) (fun _ _=>rfl) (hA.2 i v av' h1 h2)⟩
  refine (FX hC hf h hO0 hA0).mono fun e w' ⟨v,av0,H',β',S',he,hk,hrd,_,hr⟩=>?_
  unfold Wc at hk
  split at hk
  case h_2=>cases hk
  rename_i av' hav
  cases hlf2:lf (QgJ ss av') with
  | false=>simp [hlf2] at hk
  | true=>
    simp only [hlf2,cond_true] at hk
    have hk:=hK _ hk
    subst hk
    have hO':Objs β' S' (look H') w':=⟨hr.ob,hr.inj,hr.apart,hr.sb⟩
    obtain ⟨bs,hbs,hlf',hrd'⟩:=Q8z hO' hav hrd
    have hnoM:∀ {b:Nat},(S b∨(∃ l,(look ([]:List (Nat × Ob)) l).isSome=true∧(none:Option Nat)=some b)∨w.heap.size≤b)→S b∨w.heap.size≤b:=by
      intro b h
      rcases h with h | ⟨l,h,_⟩ | h
      · exact .inl h
      · simp [look] at h
      · exact .inr h
    have hfz:∀ b,fzS β' S' bs b→S b∨w.heap.size≤b:=by
      intro b hS
      rcases hS with hS | ⟨l,hl',hb'⟩
      · exact hnoM (hr.sfr b hS)
      · obtain ⟨e',s,rows,hh⟩:=hbs l hl'
        exact hnoM (.inr (hr.own l b (by simp [hh]) hb'))
    refine ⟨v,β,fzS β' S' bs,he,⟨fun b hS=>.inl (hr.s0 b hS),fun b hS=>?_,fun b hS=>?_,?_,fun _ _=>rfl,fun l o hl'=>by simp [wrL] at hl',fun l hl'=>by simp [wrL] at hl',fun l b hl'=>by simp [wrL] at hl',fun l l' b hl'=>by simp [wrL] at hl',fun l hl'=>by simp [wrL] at hl',?_,fun t=>Q9b t _ hlf2⟩⟩
    · rcases hfz b hS with h1 | h1
      · exact .inl h1
      · exact .inr (.inl h1)
    · rcases hS with hS | ⟨l,hl',hb'⟩
      · exact hr.sb b hS
      · obtain ⟨e',s,rows,hh⟩:=hbs l hl'
        rcases hr.ob l _ hh with ⟨hn',_⟩ | ⟨b2,cs,hb2,hw2,_⟩
        · rw [hb'] at hn';cases hn'
        · rw [hb'] at hb2;injection hb2 with hb2;subst hb2
          exact (Array.getElem?_eq_some_iff.1 hw2).1
    · refine hr.fr.mono fun b _ ⟨l,h1,_⟩=>?_
      simp [look] at h1
    · exact Q2l hlf2 (fun _ h=>h) (fun _ _=>rfl) (QdG ss _ _ _ _ _ _ _ hrd')
def Xf (C:VC) (n:Nat) (b:Code) (k:Exit→St→Option R):Exit→St→Option R:=fun e st'=>match e with
  | .normal=>Qi C n b st' k
  | .exit id=>k (.exit id) st'
  | .ret=>k .ret st'
  | _=>none
def Q9 (id:Nat) (k:Exit→St→Option R):Exit→St→Option R:=fun e st'=>match e with
  | .normal=>k .normal st'
  | .exit j=>bif Nat.beq j id then k .normal st' else k (.exit j) st'
  | .ret=>k .ret st'
  | _=>none
def WB (body:St→(Exit→St→Option R)→Option R) (n:Nat) (k:Exit→St→Option R):Exit→St→Option R:=fun e st'=>match e with
  | .normal=>X7 body n st' k
  | .exit id=>k (.exit id) st'
  | .ret=>k .ret st'
  | _=>none
def cL:Code→Code | .seq a _=>a | c=>c
def cR:Code→Code | .seq _ b=>b | c=>c
def cB:Code→Code | .block _ c=>c | .loop c=>c | c=>c
def cT:Code→Code | .cond _ a _=>a | c=>c
def cE:Code→Code | .cond _ _ b=>b | c=>c
def Q8 (fn:Func):Code:=fn.body.getD .skip
def K3 (tt:TT) (rs:List ResultVar) (k:AV→List (Nat × Ob)→Option R):Exit→St→Option R:=fun e st=>match e with
  | .ret=>match Q85 tt st rs with
    | some v=>k v st.h
    | none=>none
  | .normal=>match Q85 tt st rs with
    | some v=>k v st.h
    | none=>none
  | _=>none
theorem Qhu (C:VC) (n:Nat) (fn:Func) (args:List AV) (h:List (Nat × Ob)) (k:AV→List (Nat × Ob)→Option R) (hb:fn.body.isSome=true) (hc:(Nat.ble args.length fn.ntmps&&Sl args)=true) :
    vfn C n fn args h k=Qi C n (Q8 fn) { n:=fn.ntmps,tm:=Q7m 0 args,h:=h } (K3 C.tt fn.results.toList k):=by
  unfold vfn Q8
  cases hbody:fn.body with
  | none=>rw [hbody] at hb;cases hb
  | some c=>simp only [hc,cond_true,Option.getD_some];rfl
theorem Qhl {C:VC} {n:Nat} {fn:Func} {args:List AV} {h:List (Nat × Ob)} {k:AV→List (Nat × Ob)→Option R} {c:Code} {m:Nat} {tm:List (Nat × AV)} {rs:List ResultVar} {tt:TT}
    (hb:fn.body.isSome=true) (h2:fn.ntmps=m) (hc:(Nat.ble args.length m&&Sl args)=true) (h1:Q8 fn=c) (h3:Q7m 0 args=tm) (h4:fn.results.toList=rs) (h5:C.tt=tt):vfn C n fn args h k=Qi C n c ⟨m,tm,h⟩ (K3 tt rs k):=by
  subst h1 h2 h3 h4 h5
  exact Qhu C n fn args h k hb hc
end

section
variable {P:Program} {R:Type}
theorem QbI {ρ:List (Nat × Nat)} {β β':Nat→Option Nat} {S:Nat→Prop} {h h':Nat→Option Ob} (hb':∀ l k,(l,k)∈ρ→β' k=β l) (hs':∀ l k o,(l,k)∈ρ→h l=some o→h' k=some (Qfk ρ o))
    (hn':∀ l k,(l,k)∈ρ→h l=none→h' k=none) {w:World} {tm:Nat→Value} {v:Value} {av:AV} (hv:RdA β S h w tm v av):RdA β' S h' w tm v (G6 ρ av):=by
  induction hv with
  | top v=>exact .top v
  | d v x hx=>exact .d v x hx
  | nil=>exact .nil
  | ag cs l hl _ ih=>
    refine .ag cs _ (by rw [WN];exact hl) fun i x hx=>?_
    rw [GC,Option.map_eq_some_iff] at hx
    obtain ⟨y,hy,rfl⟩:=hx
    exact ih i y hy
  | tup cs l hl _ ih=>
    refine .tup cs _ (by rw [WN];exact hl) fun i x hx=>?_
    rw [GC,Option.map_eq_some_iff] at hx
    obtain ⟨y,hy,rfl⟩:=hx
    exact ih i y hy
  | fn f cs l hl _ ih=>
    refine .fn f cs _ (by rw [WN];exact hl) fun i x hx=>?_
    rw [GC,Option.map_eq_some_iff] at hx
    obtain ⟨y,hy,rfl⟩:=hx
    exact ih i y hy
  | ptr l off b hb=>
    unfold G6
    split
    · rename_i l' hl;exact .ptr _ _ _ ((hb' _ _ (YG hl)).trans hb)
    · exact .top _
  | sa v l t b hb hv=>
    unfold G6
    split
    · rename_i l' hl;exact .sa _ _ _ b ((hb' _ _ (YG hl)).trans hb) hv
    · exact .top _
  | el ad row off c hs hc hr=>exact .el ad row off c hs hc hr
  | fs ad s rows hx=>exact .fs ad s rows hx
  | mpd v f hm=>exact .mpd v f hm
  | ex v=>exact .ex v
  | arr0 l e s hb hh=>
    unfold G6
    split
    · rename_i l' hl;exact .arr0 _ e s ((hb' _ _ (YG hl)).trans hb) (hs' _ _ _ (YG hl) hh)
    · exact .top _
  | arr l b cap e s rows cs ty fz hb hh hw hcs hcap hmax=>
    unfold G6
    split
    · rename_i l' hl;exact .arr _ b cap e s rows cs ty fz ((hb' _ _ (YG hl)).trans hb) (hs' _ _ _ (YG hl) hh) hw hcs hcap hmax
    · exact .top _
  | ap l i off b e s rows hb hh=>
    unfold G6
    split
    · rename_i l' hl;exact .ap _ i off b e s rows ((hb' _ _ (YG hl)).trans hb) (hs' _ _ _ (YG hl) hh)
    · exact .top _
  | dang v av l hl hh h1=>
    cases av <;> simp [Ha] at hl
    · subst hl
      unfold G6
      split
      · rename_i l' hl';exact .dang _ _ l' rfl (hn' _ _ (YG hl') hh) h1
      · exact .top _
    · subst hl
      unfold G6
      split
      · rename_i l' hl';exact .dang _ _ l' rfl (hn' _ _ (YG hl') hh) h1
      · exact .top _
  | gdT=>exact .top _
  | gdF=>exact .top _
def QfR (ρ:List (Nat × Nat)) (av:AV):Bool:=
  match av with
  | .ptr j _=>(look ρ j).isSome
  | av=>lf av
def Q7n (ρ:List (Nat × Nat)):List AV→Bool
  | []=>true
  | a::r=>QfR ρ a&&Q7n ρ r
theorem Q9z {ρ:List (Nat × Nat)}:∀ {l:List AV} {i:Nat} {x:AV},Q7n ρ l=true→l[i]? = some x→QfR ρ x=true
  | a::r,0,x,h,hx=>by
    simp only [Q7n,Bool.and_eq_true] at h
    simp at hx;subst hx;exact h.1
  | a::r,i+1,x,h,hx=>by
    simp only [Q7n,Bool.and_eq_true] at h
    exact Q9z h.2 (by simpa using hx)
def K2 (σ:List (Nat × Nat)) (H:List (Nat × Ob)):List (Nat × Nat)→List (Nat × Option Ob)
  | []=>[]
  | (j,l)::r=>(l,(look H j).map (Qfk σ))::K2 σ H r
theorem Q9d (σ:List (Nat × Nat)) (H:List (Nat × Ob)):∀ τ,(K2 σ H τ).map (·.1)=τ.map (·.2)
  | []=>rfl
  | (j,l)::r=>by simp [K2,Q9d σ H r]
theorem Q0v (σ:List (Nat × Nat)) (H:List (Nat × Ob)):∀ (τ:List (Nat × Nat)) (h:Nat→Option Ob),Uq (τ.map (·.2))=true→∀ j l,(j,l)∈τ→H7 h (K2 σ H τ) l=(look H j).map (Qfk σ)
  | (a,b)::r,h,hn,j,l,hm=>by
    simp only [List.map_cons,Uq,Bool.and_eq_true,Bool.not_eq_true'] at hn
    simp only [K2,H7]
    rcases List.mem_cons.1 hm with hm | hm
    · injection hm with e1 e2
      subst e1 e2
      rw [VZ]
      · simp
      · rw [Q9d]
        intro hin
        have:Q2D l (r.map (·.2))=true:=by
          have:∀ (L:List Nat),l∈L→Q2D l L=true:=by
            intro L
            induction L with
            | nil=>intro h;cases h
            | cons x xs ih=>
              intro h
              rcases List.mem_cons.1 h with h | h
              · subst h;simp [Q2D,Nat.beq_refl]
              · simp [Q2D,ih h]
          exact this _ hin
        rw [this] at hn
        exact absurd hn.1 (by simp)
    · exact Q0v σ H r _ hn.2 j l hm
mutual
theorem Q8K (ρ:List (Nat × Nat)) (t:Nat):∀ av:AV,gds t (G6 ρ av)=false
  | .top=>rfl
  | .d _=>rfl
  | .nil=>rfl
  | .el ..=>rfl
  | .fs ..=>rfl
  | .mpd _=>rfl
  | .ex _=>rfl
  | .gd ..=>rfl
  | .ag l=>by simp only [G6,gds];exact Q1N ρ t l
  | .tup l=>by simp only [G6,gds];exact Q1N ρ t l
  | .fn _ l=>by simp only [G6,gds];exact Q1N ρ t l
  | .ptr l o=>by unfold G6;split <;> rfl
  | .arr l=>by unfold G6;split <;> rfl
  | .ap l i o=>by unfold G6;split <;> rfl
  | .sa l t=>by unfold G6;split <;> rfl
theorem Q1N (ρ:List (Nat × Nat)) (t:Nat):∀ l:List AV,Q55 t (Qai ρ l)=false
  | []=>rfl
  | a::r=>by simp only [Qai,Q55,Q8K ρ t a,Q1N ρ t r,Bool.or_self]
end
mutual
theorem Qd4 (ρ:List (Nat × Nat)):∀ av:AV,lf av=true→G6 ρ av=av
  | .top,_=>rfl
  | .d _,_=>rfl
  | .nil,_=>rfl
  | .el ..,_=>rfl
  | .fs ..,_=>rfl
  | .mpd _,_=>rfl
  | .ex _,_=>rfl
  | .gd ..,h=>by simp [lf] at h
  | .ag l,h=>by simp only [G6];rw [Q83 ρ l (by simpa [lf] using h)]
  | .tup l,h=>by simp only [G6];rw [Q83 ρ l (by simpa [lf] using h)]
  | .fn _ l,h=>by simp only [G6];rw [Q83 ρ l (by simpa [lf] using h)]
  | .ptr ..,h=>by simp [lf] at h
  | .arr _,h=>by simp [lf] at h
  | .ap ..,h=>by simp [lf] at h
  | .sa ..,h=>by simp [lf] at h
theorem Q83 (ρ:List (Nat × Nat)):∀ l:List AV,lfL l=true→Qai ρ l=l
  | [],_=>rfl
  | a::r,h=>by
    simp only [lfL,Bool.and_eq_true] at h
    simp only [Qai,Qd4 ρ a h.1,Q83 ρ r h.2]
end
theorem Qbt {σ:List (Nat × Nat)} {l:Nat} (h:l ∉ σ.map (·.2)):inv σ l=none:=by
  cases hi:inv σ l with
  | none=>rfl
  | some j=>exact absurd (List.mem_map.2 ⟨(j,l),Qeo hi,rfl⟩) h
theorem Q5L {ρ:List (Nat × Nat)} (hn:Uq (ρ.map (·.1))=true) {j l:Nat} (hm:(j,l)∈ρ):look ρ j=some l:=by
  cases hk:look ρ j with
  | none=>
    exfalso
    have:∀ (L:List (Nat × Nat)),(j,l)∈L→look L j≠none:=by
      intro L
      induction L with
      | nil=>intro h;cases h
      | cons x r ih=>
        intro h hl
        obtain ⟨a,b⟩:=x
        rw [X4] at hl
        by_cases e:j=a
        · rw [if_pos e] at hl;cases hl
        · rw [if_neg e] at hl
          rcases List.mem_cons.1 h with h | h
          · injection h with h1 h2;exact e h1
          · exact ih h hl
    exact this ρ hm hk
  | some l'=>
    have:=Rv hn (j,l) (j,l') hm (YG hk) rfl
    injection this with _ h
    rw [h]
structure HeapEnd (σ ρ:List (Nat × Nat)) (H:List (Nat × Ob)) (av:AV) (H':List (Nat × Ob)) (dl:Dl):Prop where
  v:G6 σ av=dl.v
  wr:K2 σ H' σ=dl.wr
  all:∀ j l,(j,l)∈σ→(look H' j).isSome=true
  box:∀ j l,(j,l)∈ρ→∃ c c',look H j=some (.box c)∧look H' j=some (.box c')∧c'.length=c.length
theorem Qaq {α : Type} {K : AV → List (Nat × Ob) → Option α} {res : α} {C : VC} (hC : VCOk P C) {n f : Nat} {fn : Func} (hf : P.funcs[f]? = some fn) (hb : fn.body.isSome = true) (hn : (fn.name == "runtime.NumGoroutine") = false)
    {σ ρ:List (Nat × Nat)} {avs avs':List AV} {H:List (Nat × Ob)} {hl:Nat→Option Ob} {dl:Dl}
    (hav:avs=avs'.map (G6 ρ)) (hargs:Q7n ρ avs'=true)
    (hsub:∀ p,p∈ρ→p∈σ) (h1:Uq (σ.map (·.1))=true) (h2:Uq (σ.map (·.2))=true) (hρ:Uq (ρ.map (·.1))=true)
    (hin:∀ j l,(j,l)∈ρ→1000000≤j∧∃ cs cs',hl l=some (.box cs)∧look H j=some (.box cs')∧AVleL cs cs'∧lfL cs'=true)
    (hinH:∀ j,(look H j).isSome=true→∃ l,(j,l)∈ρ)
    (hnew:∀ j l,(j,l)∈σ→(j,l)∈ρ∨hl l=none)
    (hwl:wrL dl=σ.map (·.2))
    (h:vfn C n fn avs' H K=some res) (hK:∀ av H',K av H'=some res→HeapEnd σ ρ H av H' dl):QI P f avs hl dl:=by
  refine ⟨⟨fn,hf,hb,hn⟩,fun β S h' w args hO hA hag=>?_⟩
  have hag:∀ {j l:Nat},(j,l)∈σ→h' l=hl l:=fun {j l} hm=>hag l (.inr (by rw [hwl];exact List.mem_map.2 ⟨(j,l),hm,rfl⟩))
  have hlook:∀ {j l:Nat},(j,l)∈ρ→look ρ j=some l:=fun hm=>Q5L hρ hm
  have hβc:∀ {j l:Nat},(j,l)∈ρ→(look ρ j).bind β=β l:=fun hm=>by rw [hlook hm];rfl
  have hlk2:∀ {j j' l:Nat},(j,l)∈ρ→(j',l)∈ρ→j=j':=fun a b=>by
    have:=Rv h2 _ _ (hsub _ a) (hsub _ b) rfl
    injection this
  have hsome':∀ {j l:Nat},(j,l)∈ρ→(h' l).isSome=true:=fun hm=>by
    obtain ⟨_,cs,cs',g1,_⟩:=hin _ _ hm
    rw [hag (hsub _ hm),g1];rfl
  have hO0:Objs (fun j=>(look ρ j).bind β) S (look H) w:=by
    refine ⟨fun j o ho=>?_,fun j j' b s1 s2 b1 b2=>?_,fun j b s1 b1=>?_,hO.sb⟩
    · obtain ⟨l,hm⟩:=hinH j (by simp [ho])
      obtain ⟨_,cs,cs',g1,g2,g3,g4⟩:=hin j l hm
      rw [ho] at g2
      injection g2 with g2
      subst g2
      obtain ⟨b,ty,c0,fz,e1,e2,e3,e4,e5⟩:=hO.ob l _ ((hag (hsub _ hm)).trans g1)
      refine ⟨b,ty,c0,fz,(hβc hm).trans e1,e2,⟨e3.1,fun i l' t' hx=>by have:=Q7I g4 hx;simp [lf] at this⟩,e4.trans g3.length,fun i x hx=>?_⟩
      obtain ⟨y,y1,y2⟩:=g3.at i x hx
      exact Q2l (Q7I g4 hx) (fun _ h=>h) (fun _ _=>rfl) (y2 _ _ _ _ _ _ (e5 i y y1))
    · obtain ⟨l,hm⟩:=hinH j s1
      obtain ⟨l',hm'⟩:=hinH j' s2
      have:=hO.inj l l' b (hsome' hm) (hsome' hm') (by rw [← hβc hm];exact b1) (by rw [← hβc hm'];exact b2)
      subst this
      exact hlk2 hm hm'
    · obtain ⟨l,hm⟩:=hinH j s1
      exact hO.apart l b (hsome' hm) (by rw [← hβc hm];exact b1)
  have hA0:ArgsRd (fun j=>(look ρ j).bind β) S (look H) w args avs':=by
    refine ⟨by rw [hA.1,hav,List.length_map],fun i v av g1 g2=>?_⟩
    have hr:=hA.2 i v (G6 ρ av) g1 (by rw [hav,List.getElem?_map,g2];rfl)
    have hok:=Q9z hargs g2
    unfold QfR at hok
    split at hok
    · rename_i j o
      cases hj:look ρ j with
      | none=>rw [hj] at hok;cases hok
      | some l=>
        simp only [G6,hj] at hr
        cases hr with
        | ptr _ _ b hb'=>exact .ptr j o b (by simp only [hj];exact hb')
        | dang _ _ _ hl'=>simp [Ha] at hl'
    · rw [Qd4 ρ av hok] at hr
      exact Q2l hok (fun _ h=>h) (fun _ _=>rfl) hr
  refine (FX hC hf h hO0 hA0).mono fun e w' ⟨v,av,H',β',S',he,hk,hrd,_,hr⟩=>?_
  obtain ⟨q1,q2,q3,q4⟩:=hK av H' hk
  have hinv:∀ {j l:Nat},(j,l)∈σ→inv σ l=some j:=fun hm=>Q9W h2 hm
  let βo:Nat→Option Nat:=fun l=>match inv σ l with | some j=>β' j | none=>β l
  have hβo:∀ j l,(j,l)∈σ→βo l=β' j:=fun j l hm=>by simp only [βo,hinv hm]
  have hset:∀ j l,(j,l)∈σ→H7 h' dl.wr l=(look H' j).map (Qfk σ):=fun j l hm=>by rw [← q2];exact Q0v σ H' σ h' h2 j l hm
  have hmem:∀ {l:Nat},l∈wrL dl→∃ j,(j,l)∈σ:=fun hm=>by
    rw [hwl] at hm
    obtain ⟨⟨j,l'⟩,m1,m2⟩:=List.mem_map.1 hm
    simp only at m2
    subst m2
    exact ⟨j,m1⟩
  have hpin:∀ {j l:Nat},(j,l)∈ρ→β' j=β l:=fun hm=>(hr.pin _ (hin _ _ hm).1).trans (hβc hm)
  have hren:∀ {v:Value} {x:AV},RdA β' S' (look H') w' tm0 v x→RdA βo S' (H7 h' dl.wr) w' tm0 v (G6 σ x):=fun hx=>
    QbI hβo (fun j l o hm ho=>by rw [hset j l hm,ho];rfl) (fun j l hm ho=>by rw [hset j l hm,ho];rfl) hx
  have hnotin:∀ {j l:Nat},(j,l)∈σ→(j,l) ∉ ρ→∀ b,β' j=some b→w.heap.size≤b:=by
    intro j l hm hno b hb'
    rcases hr.own j b (q3 j l hm) hb' with ⟨j',s1,s2⟩ | h
    · exfalso
      obtain ⟨l',hm'⟩:=hinH j' s1
      have e1:β' j'=some b:=(hpin hm').trans (by rw [← hβc hm'];exact s2)
      have:=hr.inj j j' b (q3 j l hm) (q3 j' l' (hsub _ hm')) hb' e1
      subst this
      have:=Rv h1 _ _ hm (hsub _ hm') rfl
      exact hno (this▸hm')
    · exact h
  have hMw:∀ b,(∃ j,(look H j).isSome=true∧(look ρ j).bind β=some b)→∃ l,l∈wrL dl∧(h' l).isSome=true∧β l=some b:=by
    intro b ⟨j,s1,s2⟩
    obtain ⟨l,hm⟩:=hinH j s1
    exact ⟨l,by rw [hwl];exact List.mem_map.2 ⟨(j,l),hsub _ hm,rfl⟩,hsome' hm,by rw [← hβc hm];exact s2⟩
  refine ⟨v,βo,S',he,⟨hr.s0,fun b hS=>?_,hr.sb,hr.fr.mono fun b _ hM=>hMw b hM,fun l hno=>?_,fun l o hm ho=>?_,fun l hm hs=>?_,fun l b hm hs hb'=>?_,fun l l' b hm hm' hs hs' hb' hb''=>?_,fun l hm hno hno'=>?_,?_,fun t=>by rw [← q1];exact Q8K σ t av⟩⟩
  · rcases hr.sfr b hS with g | g | g
    · exact .inl g
    · exact .inr (.inr (hMw b g))
    · exact .inr (.inl g)
  · have:inv σ l=none:=Qbt (by rw [← hwl];exact hno)
    simp only [βo,this]
  · obtain ⟨j,hj⟩:=hmem hm
    rw [hset j l hj,Option.map_eq_some_iff] at ho
    obtain ⟨o',ho',rfl⟩:=ho
    have hob:=hr.ob j o' ho'
    cases o' with
    | box cells=>
      obtain ⟨b,ty,cs,fz,g1,g2,g3,g4,g5⟩:=hob
      refine ⟨b,ty,cs,fz,(hβo j l hj).trans g1,g2,⟨g3.1,Q88 g3.2⟩,by rw [g4,WN],fun i x hx=>?_⟩
      rw [GC,Option.map_eq_some_iff] at hx
      obtain ⟨y,hy,rfl⟩:=hx
      exact hren (g5 i y hy)
    | arr e s rows=>
      rcases hob with ⟨g1,g2⟩ | ⟨b,cs,g1,g2,g3,g4,g5⟩
      · exact .inl ⟨(hβo j l hj).trans g1,g2⟩
      · exact .inr ⟨b,cs,(hβo j l hj).trans g1,g2,g3,g4,g5⟩
  · obtain ⟨j,hj⟩:=hmem hm
    rcases hnew j l hj with hp | hno
    · obtain ⟨c,c',g1,g2,g3⟩:=q4 j l hp
      obtain ⟨_,cs,cs',e1,e2,e3,_⟩:=hin j l hp
      have hh:h' l=some (.box cs):=(hag hj).trans e1
      refine ⟨(hβo j l hj).trans (hpin hp),fun hx=>(by rw [hh] at hx;cases hx),fun e s rows hx=>(by rw [hh] at hx;cases hx),fun b c0 ty fz _ hb' hw=>?_⟩
      obtain ⟨b2,ty2,c2,fz2,k1,k2,_,k4,_⟩:=hr.ob j _ g2
      obtain ⟨b3,ty3,c3,fz3,m1,m2,_,m4,_⟩:=hO.ob l _ hh
      rw [hpin hp,hb'] at k1
      injection k1 with k1
      subst k1
      rw [hb'] at m1
      injection m1 with m1
      subst m1
      rw [hw] at m2
      injection m2 with m2
      injection m2 with m2 _ _
      subst m2
      refine ⟨c2,ty2,fz2,k2,?_⟩
      rw [k4,m4,g3]
      rw [g1] at e2
      injection e2 with e2
      injection e2 with e2
      rw [e2,e3.length]
    · rw [hag hj,hno] at hs;cases hs
  · obtain ⟨j,hj⟩:=hmem hm
    rw [hβo j l hj] at hb'
    refine ⟨?_,hr.apart j b (q3 j l hj) hb'⟩
    by_cases hp:(j,l)∈ρ
    · exact .inr ⟨l,hm,hsome' hp,by rw [← hpin hp];exact hb'⟩
    · exact .inl (hnotin hj hp b hb')
  · obtain ⟨j,hj⟩:=hmem hm
    obtain ⟨j',hj'⟩:=hmem hm'
    rw [hβo j l hj] at hb'
    rw [hβo j' l' hj'] at hb''
    have:=hr.inj j j' b (q3 j l hj) (q3 j' l' hj') hb' hb''
    subst this
    have:=Rv h1 _ _ hj hj' rfl
    injection this
  · obtain ⟨j,hj⟩:=hmem hm
    have:=q3 j l hj
    rw [hset j l hj] at hno'
    cases hx:look H' j with
    | none=>rw [hx] at this;cases this
    | some o=>rw [hx] at hno';cases hno'
  · rw [← q1];exact hren hrd
def Qix (hl:Nat→Option Ob) (H:List (Nat × Ob)):List (Nat × Nat)→Prop
  | []=>True
  | (j,l)::r=>(1000000≤j∧∃ cs cs',hl l=some (.box cs)∧look H j=some (.box cs')∧AVleL cs cs'∧lfL cs'=true)∧Qix hl H r
def QhI (H:List (Nat × Ob)):List (Nat × Nat)→Prop
  | []=>True
  | (j,_)::r=>(look H j).isSome=true∧QhI H r
def Qi9 (H H':List (Nat × Ob)):List (Nat × Nat)→Prop
  | []=>True
  | (j,_)::r=>(∃ c c',look H j=some (.box c)∧look H' j=some (.box c')∧c'.length=c.length)∧Qi9 H H' r
def QhK (hl:Nat→Option Ob):List (Nat × Nat)→Bool
  | []=>true
  | (_,l)::r=>(hl l).isNone&&QhK hl r
theorem Qe0 {hl:Nat→Option Ob} {H:List (Nat × Ob)}:∀ {ρ:List (Nat × Nat)},Qix hl H ρ→∀ j l,(j,l)∈ρ→1000000≤j∧∃ cs cs',hl l=some (.box cs)∧look H j=some (.box cs')∧AVleL cs cs'∧lfL cs'=true
  | (a,b)::r,h,j,l,hm=>by
    rcases List.mem_cons.1 hm with hm | hm
    · injection hm with h1 h2;subst h1 h2;exact h.1
    · exact Qe0 h.2 j l hm
theorem Qb3 {H:List (Nat × Ob)}:∀ {ρ:List (Nat × Nat)},QhI H ρ→∀ j l,(j,l)∈ρ→(look H j).isSome=true
  | (a,b)::r,h,j,l,hm=>by
    rcases List.mem_cons.1 hm with hm | hm
    · injection hm with h1 h2;subst h1 h2;exact h.1
    · exact Qb3 h.2 j l hm
theorem Qdw {H H':List (Nat × Ob)}:∀ {ρ:List (Nat × Nat)},Qi9 H H' ρ→∀ j l,(j,l)∈ρ→∃ c c',look H j=some (.box c)∧look H' j=some (.box c')∧c'.length=c.length
  | (a,b)::r,h,j,l,hm=>by
    rcases List.mem_cons.1 hm with hm | hm
    · injection hm with h1 h2;subst h1 h2;exact h.1
    · exact Qdw h.2 j l hm
theorem QaQ {hl:Nat→Option Ob}:∀ {ρ:List (Nat × Nat)},QhK hl ρ=true→∀ j l,(j,l)∈ρ→hl l=none
  | (a,b)::r,h,j,l,hm=>by
    simp only [QhK,Bool.and_eq_true] at h
    rcases List.mem_cons.1 hm with hm | hm
    · injection hm with h1 h2;subst h1 h2;simpa using h.1
    · exact QaQ h.2 j l hm
theorem Q8m:∀ {H:List (Nat × Ob)} {ρ:List (Nat × Nat)},H.map (·.1)=ρ.map (·.1)→∀ j,(look H j).isSome=true→∃ l,(j,l)∈ρ
  | [],_,_,j,hs=>by simp [look] at hs
  | (a,o)::r,[],h,_,_=>by simp at h
  | (a,o)::r,(b,l)::ρ,h,j,hs=>by
    simp only [List.map_cons,List.cons.injEq] at h
    rw [X4] at hs
    by_cases e:j=a
    · exact ⟨l,by rw [e,h.1];exact List.mem_cons_self ..⟩
    · rw [if_neg e] at hs
      obtain ⟨l',hm⟩:=Q8m h.2 j hs
      exact ⟨l',List.mem_cons_of_mem _ hm⟩
def UY (hl:Nat→Option Ob) (ρ ν:List (Nat × Nat)):Bool:=Uq ((ρ++ν).map (·.2))&&QhK hl ν
theorem Ad {α : Type} {K : AV → List (Nat × Ob) → Option α} {res : α} {C : VC} (hC : VCOk P C) {n f : Nat} {fn : Func} (hf : P.funcs[f]? = some fn) (hb : fn.body.isSome = true) (hn : (fn.name == "runtime.NumGoroutine") = false)
    {ρ ν:List (Nat × Nat)} {avs avs':List AV} {H:List (Nat × Ob)} {hl:Nat→Option Ob} {dl:Dl}
    (hav:avs=avs'.map (G6 ρ)) (hargs:Q7n ρ avs'=true) (h1:Uq ((ρ++ν).map (·.1))=true) (hρ:Uq (ρ.map (·.1))=true)
    (hc:UY hl ρ ν=true) (hin:Qix hl H ρ) (hkeys:H.map (·.1)=ρ.map (·.1)) (hwl:wrL dl=(ρ++ν).map (·.2))
    (h:vfn C n fn avs' H K=some res)
    (hK:∀ av H',K av H'=some res→G6 (ρ++ν) av=dl.v∧K2 (ρ++ν) H' (ρ++ν)=dl.wr∧QhI H' (ρ++ν)∧Qi9 H H' ρ):QI P f avs hl dl:=by
  simp only [UY,Bool.and_eq_true] at hc
  refine Qaq hC hf hb hn hav hargs (fun p hp=>List.mem_append_left _ hp) h1 hc.1 hρ (Qe0 hin) (Q8m hkeys) (fun j l hm=>?_) hwl h fun av H' hk=>?_
  · rcases List.mem_append.1 hm with hm | hm
    · exact .inl hm
    · exact .inr (QaQ hc.2 j l hm)
  · obtain ⟨q1,q2,q3,q4⟩:=hK av H' hk
    exact ⟨q1,q2,Qb3 q3,Qdw q4⟩
theorem Xa {c:Bool} {x:Option R} {r:R} (h:(bif c then x else none)=some r):c=true∧x=some r:=by
  cases c with
  | false=>cases h
  | true=>exact ⟨rfl,h⟩
def QiB (l:List Nat) (a b:XH):XH:=fun R site g avs hl k=>bif Q2D site l then a R site g avs hl k else b R site g avs hl k
theorem Qip (l:List Nat) {f:Nat} {a b:XH} (ha:Qo P f a) (hb:Qo P f b):Qo P f (QiB l a b):=by
  intro R site g avs hl k r h
  unfold QiB at h
  cases hm:Q2D site l with
  | true=>rw [hm] at h;exact ha R site g avs hl k r h
  | false=>rw [hm] at h;exact hb R site g avs hl k r h
def prP (hl:Nat→Option Ob) (av:AV) (k:Nat→List AV→Option R):Option R:=
  match av with
  | .ptr l o=>bif Nat.beq o 0 then match hl l with
    | some (.box cs)=>k l cs
    | _=>none
    else none
  | _=>none
theorem YT {hl:Nat→Option Ob} {av:AV} {k:Nat→List AV→Option R} {r:R} (h:prP hl av k=some r):∃ l cs,k l cs=some r∧av = .ptr l 0∧hl l=some (.box cs):=by
  unfold prP at h
  split at h
  · rename_i l o
    cases ho:Nat.beq o 0 with
    | false=>simp [ho] at h
    | true=>
      simp only [ho,cond_true] at h
      have:=Nat.eq_of_beq_eq_true ho
      subst this
      split at h
      · rename_i cs hb;exact ⟨l,cs,h,rfl,hb⟩
      · cases h
  · cases h
end

section
variable {P:Program} {R:Type}
def SW (w:World):Nat→Prop:=fun b=>b<w.heap.size
theorem law_true {C:VC} (hC:VCOk P C) {n f:Nat} {fn:Func} (hf:P.funcs[f]? = some fn) {ss:List (List Nat)} {K:AV→Option Bool} (hK:∀ x,K x=some true→x = .d (.bool true))
    {avs:List AV} {args:List Value} {w:World} (hA:ArgsRd (fun _=>none) (SW w) (look ([]:List (Nat × Ob))) w args avs) (h:vfn C n fn avs [] (Wc ss K)=some true) :
    Calls P f args.toArray w fun e w'=>e = .returned (.bool true)∧RowKit.Below w.heap.size w w':=by
  have hO:Objs (fun _=>none) (SW w) (look ([]:List (Nat × Ob))) w:=⟨fun l o h=>by simp [look] at h,fun l l' b h=>by simp [look] at h,fun l b h=>by simp [look] at h,fun b h=>h⟩
  refine (FX hC hf h hO hA).mono fun e w' ⟨v,av,H',β',S',he,hk,hrd,_,hr⟩=>?_
  refine ⟨?_,Fr.below (hr.fr.mono fun b _ ⟨l,h1,_⟩=>by simp [look] at h1)⟩
  unfold Wc at hk
  split at hk
  case h_2=>cases hk
  rename_i av' hav
  cases hlf2:lf (QgJ ss av') with
  | false=>simp [hlf2] at hk
  | true=>
    simp only [hlf2,cond_true] at hk
    have hk:=hK _ hk
    have hO':Objs β' S' (look H') w':=⟨hr.ob,hr.inj,hr.apart,hr.sb⟩
    obtain ⟨bs,_,_,hrd'⟩:=Q8z hO' hav hrd
    have:=QdG ss _ _ _ _ _ _ _ hrd'
    rw [hk] at this
    rw [he,this.bool_inv]
theorem Qcq {β:Nat→Option Nat} {S:Nat→Prop} {h:Nat→Option Ob} {w:World}:ArgsRd β S h w [] []:=⟨rfl,fun i v av h=>by simp at h⟩
theorem QaV {β:Nat→Option Nat} {S:Nat→Prop} {h:Nat→Option Ob} {w:World} {v:Value} {av:AV} {vs:List Value} {avs:List AV} (h0:RdA β S h w tm0 v av) (hr:ArgsRd β S h w vs avs):ArgsRd β S h w (v::vs) (av::avs):=by
  refine ⟨by simp [hr.1],fun i v' av' h1 h2=>?_⟩
  cases i with
  | zero=>simp at h1 h2;subst h1 h2;exact h0
  | succ i=>exact hr.2 i v' av' (by simpa using h1) (by simpa using h2)
theorem QfS {w:World} {a:Addr} {v:Value} (h:w.cell? a=some v):a.block<w.heap.size:=by
  rcases Nat.lt_or_ge a.block w.heap.size with h1 | h1
  · exact h1
  · simp [World.cell?,Array.getElem?_eq_none h1] at h
theorem Q0 {α:Type} (g:Bool) (a z:α) (k:α→Option R):gb g (some a) z k=k a:=rfl
end

inductive Sh where
  | int (k:IntKind)
  | bool
  | str
  | sl (row:List Sh)
inductive Fit:Sh→D→Prop
  | int (k:IntKind) (n:Int) (h:(Lit.int k n).wf=true):Fit (.int k) (.int k n)
  | bool (b:Bool):Fit .bool (.bool b)
  | str (s:List UInt8) (h:s.length≤maxLen):Fit .str (.str s)
  | sl (row:List Sh) (rows:List (List D)) (h:rows.length≤maxLen) (hl:∀ (i:Nat) (r:List D),rows[i]? = some r→r.length=row.length)
      (hr:∀ (i j:Nat) (r:List D) (s:Sh) (x:D),rows[i]? = some r→row[j]? = some s→r[j]? = some x→Fit s x):Fit (.sl row) (.sl row.length rows)
def Qfj (ss:List Sh) (ds:List D):Prop:=ds.length=ss.length∧∀ (j:Nat) (s:Sh) (x:D),ss[j]? = some s→ds[j]? = some x→Fit s x
def Qhn (P:Program) (so:TypeId→Option (List Sh)):Nat→List Field→Option (List Sh)
  | _,[]=>some []
  | off,fd::r=>
    if fd.offset=off then match so fd.type with
      | some a=>if a.length=P.cellsOf fd.type then match Qhn P so (off+a.length) r with
        | some l=>some (a++l)
        | none=>none
        else none
      | none=>none
    else none
def Qdg (P:Program):Nat→TypeId→Option (List Sh)
  | 0,_=>none
  | f+1,t=>
    match P.underlying t with
    | some .bool=>some [.bool]
    | some (.int k)=>some [.int k]
    | some .string=>some [.str]
    | some (.slice e)=>match Qdg P f e with
      | some row=>if row.length=P.cellsOf e∧row.length≠0 then some [.sl row] else none
      | none=>none
    | some (.struct fs)=>match Qhn P (Qdg P f) 0 fs.toList with
      | some l=>if l.length=P.cellsOf t then some l else none
      | none=>none
    | _=>none
section
variable {P:Program} {H:Type} {enc:TypeId × Value→H} {w:World}
def RdL (w:World) (cs:List Value) (ds:List D):Prop:=cs.length=ds.length∧∀ (j:Nat) (v:Value) (x:D),cs[j]? = some v→ds[j]? = some x→Rd (SW w) w v x
theorem QaI {α:Type} {Q:Nat→α→Prop}:∀ (n:Nat),(∀ i,i<n→∃ a,Q i a)→∃ l:List α,l.length=n∧∀ (i:Nat) (a:α),l[i]? = some a→Q i a
  | 0,_=>⟨[],rfl,fun i a h=>by simp at h⟩
  | n+1,h=>by
    obtain ⟨l,h1,h2⟩:=QaI n fun i hi=>h i (by omega)
    obtain ⟨a,ha⟩:=h n (by omega)
    refine ⟨l++[a],by simp [h1],fun i x hx=>?_⟩
    rw [List.getElem?_append] at hx
    split at hx
    · exact h2 i x hx
    · have:i=l.length:=by
        rcases Nat.lt_or_ge (i-l.length) 1 with h3 | h3
        · omega
        · rw [List.getElem?_eq_none (by simpa using h3)] at hx;cases hx
      subst this
      simp at hx
      subst hx
      rw [h1];exact ha
theorem Qfj.append {a b:List Sh} {x y:List D} (h1:Qfj a x) (h2:Qfj b y):Qfj (a++b) (x++y):=by
  refine ⟨by simp [h1.1,h2.1],fun j s d hs hd=>?_⟩
  rw [List.getElem?_append] at hs hd
  rw [h1.1] at hd
  split at hs
  · rename_i h;rw [if_pos h] at hd;exact h1.2 j s d hs hd
  · rename_i h;rw [if_neg h] at hd;exact h2.2 _ s d hs hd
theorem RdL.append {a b:List Value} {x y:List D} (h1:RdL w a x) (h2:RdL w b y):RdL w (a++b) (x++y):=by
  refine ⟨by simp [h1.1,h2.1],fun j s d hs hd=>?_⟩
  rw [List.getElem?_append] at hs hd
  rw [h1.1] at hs
  split at hd
  · rename_i h;rw [if_pos h] at hs;exact h1.2 j s d hs hd
  · rename_i h;rw [if_neg h] at hs;exact h2.2 _ s d hs hd
theorem Q6b {v:Value} {x:D} (h:Rd (SW w) w v x):RdL w [v] [x]:=⟨rfl,fun j v' x' h1 h2=>by
  cases j with
  | zero=>simp at h1 h2;subst h1 h2;exact h
  | succ j=>simp at h1⟩
theorem Q2j {s:Sh} {x:D} (h:Fit s x):Qfj [s] [x]:=⟨rfl,fun j v' x' h1 h2=>by
  cases j with
  | zero=>simp at h1 h2;subst h1 h2;exact h
  | succ j=>simp at h1⟩
theorem Qcj {base:Nat} {a:Addr} {n:Nat} {cs:List Value} (h:w.cells? base a n=some cs):cs.length=n∧∀ (j:Nat) (v:Value),cs[j]? = some v→w.cell? (a.add j)=some v:=by
  unfold World.cells? at h
  split at h
  · refine ⟨by simpa using mapM_some_length h,fun j v hv=>?_⟩
    have hj:j<n:=by
      have h1:=mapM_some_length h
      have h2:=(List.getElem?_eq_some_iff.1 hv).1
      simp at h1;omega
    have:=mapM_some_get h j j (by simp [hj])
    rw [this,hv]
  · cases h
def Got (w:World) (ss:List Sh) (cs:List Value):Prop:=∃ ds,RdL w cs ds∧Qfj ss ds
theorem Qc6 {base:Nat} {spare:Nat→Bool} {held:Bool}:∀ (n:Nat) (f:Nat) (t:TypeId) (ss:List Sh) (cs:List Value) (x:DataW H × List MemPlace),Qdg P f t=some ss→DataW.trod enc P w base spare held n t cs=some x→Got w ss cs:=by
  intro n
  induction n with
  | zero=>intro f t ss cs x _ h;simp [DataW.trod] at h
  | succ n ih=>
    intro f t ss cs x hs h
    cases f with
    | zero=>simp [Qdg] at hs
    | succ f=>
      unfold Qdg at hs
      split at hs
      · rename_i ht
        injection hs with hs;subst hs
        obtain ⟨b,rfl,_⟩:=DataW.trod_bool ht h
        exact ⟨[.bool b],Q6b (.bool b),Q2j (.bool b)⟩
      · rename_i k ht
        injection hs with hs;subst hs
        obtain ⟨b,rfl,_,hw⟩:=DataW.trod_int ht h
        exact ⟨[.int k b],Q6b (.int k b),Q2j (.int k b hw)⟩
      · rename_i ht
        injection hs with hs;subst hs
        obtain ⟨b,rfl,_,hw⟩:=DataW.trod_string ht h
        exact ⟨[.str b.data.toList],Q6b (.str b),Q2j (.str _ (by simpa using hw))⟩
      · rename_i e ht
        split at hs
        case h_2=>cases hs
        rename_i row hrow
        split at hs
        case isFalse=>cases hs
        rename_i hsz
        obtain ⟨hsz,hz⟩:=hsz
        injection hs with hs;subst hs
        rcases DataW.trod_slice ht h with ⟨rfl,_⟩ | ⟨a,len,cap,elems,rest,n',hn,rfl,_,hb,hl,hm,hel,hat,_,_⟩
        · exact ⟨[.sl row.length []],Q6b (.sl0 _ _ _),Q2j (.sl row [] (Nat.zero_le _) (fun i r h=>by simp at h) (fun i j r s x h=>by simp at h))⟩
        · obtain rfl:n=n':=by omega
          have hget:∀ i,i<len→∃ r:List D,∃ cs,w.cells? base (a.add (i*P.cellsOf e)) (P.cellsOf e)=some cs∧RdL w cs r∧Qfj row r:=by
            intro i hi
            have h1:=hat i hi
            have h2:elems[i]? = some (elems[i]'(by omega)):=List.getElem?_eq_getElem (by omega)
            rw [h2,Option.bind_eq_some_iff] at h1
            obtain ⟨cs,hc,h1⟩:=h1
            obtain ⟨ds,g1,g2⟩:=ih f e row cs _ hrow h1
            exact ⟨ds,cs,hc,g1,g2⟩
          obtain ⟨rows,hrl,hrows⟩:=QaI len hget
          refine ⟨[.sl row.length rows],Q6b ?_,Q2j (.sl row rows (by omega) (fun i r hr=>?_) (fun i j r s x hr hs hx=>?_))⟩
          · cases len with
            | zero=>
              have:rows=[]:=List.eq_nil_of_length_eq_zero hrl
              subst this
              exact .sl0 _ _ _
            | succ m=>
              have hcell:∀ (i j:Nat) (r:List D) (x:D),rows[i]? = some r→r[j]? = some x→∃ v,w.cell? (a.add (i*row.length+j))=some v∧Rd (SW w) w v x:=by
                intro i j r x hr hx
                obtain ⟨cs,hc,g1,g2⟩:=hrows i r hr
                obtain ⟨c1,c2⟩:=Qcj hc
                have hj:j<cs.length:=by have:=(List.getElem?_eq_some_iff.1 hx).1;have:=g1.1;omega
                have hcs:cs[j]? = some (cs[j]'hj):=List.getElem?_eq_getElem hj
                refine ⟨cs[j]'hj,?_,g1.2 j _ x hcs hx⟩
                have:=c2 j _ hcs
                rw [Q5D] at this
                rw [hsz]
                exact this
              · have h0:∃ r,rows[0]? = some r:=⟨_,List.getElem?_eq_getElem (by omega)⟩
                obtain ⟨r0,hr0⟩:=h0
                obtain ⟨cs0,hc0,g1,g2⟩:=hrows 0 r0 hr0
                have hx0:∃ x,r0[0]? = some x:=⟨_,List.getElem?_eq_getElem (by rw [g2.1];omega)⟩
                obtain ⟨x0,hx0⟩:=hx0
                obtain ⟨v0,hv0,_⟩:=hcell 0 0 r0 x0 hr0 hx0
                have hblk:a.block<w.heap.size:=by have:=QfS hv0;rwa [Hj] at this
                have:=Rd.sl (S:=SW w) (w:=w) a cap row.length rows (fun i j=>(w.cell? (a.add (i*row.length+j))).getD undef) hblk (by omega)
                  (fun i r hr=>by obtain ⟨_,_,_,g2⟩:=hrows i r hr;exact g2.1)
                  (fun i j r x hr hx=>by obtain ⟨v,hv,_⟩:=hcell i j r x hr hx;rw [hv];rfl)
                  (fun i j r x hr hx=>by obtain ⟨v,hv,h2⟩:=hcell i j r x hr hx;rw [hv];exact h2)
                rw [hrl] at this
                exact this
          · obtain ⟨_,_,_,g2⟩:=hrows i r hr;exact g2.1
          · obtain ⟨_,_,_,g2⟩:=hrows i r hr;exact g2.2 j s x hs hx
      · rename_i fs ht
        split at hs
        case h_2=>cases hs
        rename_i l hl
        split at hs
        case isFalse=>cases hs
        rename_i hsz
        injection hs with hs;subst hs
        obtain ⟨xs,n',hn,_,hlen,hxs,hat⟩:=DataW.trod_struct ht h
        obtain rfl:n=n':=by omega
        have key:∀ (r:List Field) (i off:Nat) (l:List Sh),fs.toList.drop i=r→Qhn P (Qdg P f) off r=some l→off+l.length≤cs.length→Got w l ((cs.drop off).take l.length):=by
          intro r
          induction r with
          | nil=>
            intro i off l _ hl _
            simp [Qhn] at hl
            subst hl
            exact ⟨[],⟨by simp,fun j v x h=>by simp at h⟩,⟨rfl,fun j v x h=>by simp at h⟩⟩
          | cons fd r ihr=>
            intro i off l hd hl hle
            unfold Qhn at hl
            split at hl
            case isFalse=>cases hl
            rename_i hoff
            split at hl
            case h_2=>cases hl
            rename_i a ha
            split at hl
            case isFalse=>cases hl
            rename_i hasz
            split at hl
            case h_2=>cases hl
            rename_i l' hl'
            injection hl with hl;subst hl
            have hi:fs[i]? = some fd:=by
              have:(fs.toList.drop i)[0]? = some fd:=by rw [hd];rfl
              rw [List.getElem?_drop] at this
              simpa using this
            have h1:=hat i fd hi
            have hi':i<xs.length:=by
              have:=(Array.getElem?_eq_some_iff.1 hi).1
              omega
            rw [List.getElem?_eq_getElem hi',hoff,← hasz] at h1
            have g1:=ih f fd.type a _ _ ha h1
            have g2:=ihr (i+1) (off+a.length) l' (by rw [← List.drop_drop,hd];rfl) hl' (by simp at hle;omega)
            obtain ⟨d1,p1,q1⟩:=g1
            obtain ⟨d2,p2,q2⟩:=g2
            refine ⟨d1++d2,?_,q1.append q2⟩
            have hsplit:(cs.drop off).take (a++l').length=(cs.drop off).take a.length++(cs.drop (off+a.length)).take l'.length:=by
              rw [List.length_append,List.take_add,List.drop_drop]
            rw [hsplit]
            exact p1.append p2
        have:=key fs.toList 0 0 l rfl hl (by omega)
        rwa [List.drop_zero,List.take_of_length_le (by omega)] at this
      · cases hs
inductive ASh where
  | one (s:Sh)
  | ag (ss:List Sh)
def QgB (P:Program) (t:TypeId):Option ASh:=
  match P.underlying t with
  | some (.struct _)=>match Qdg P 9 t with
    | some l=>some (.ag l)
    | none=>none
  | _=>match Qdg P 9 t with
    | some [s]=>some (.one s)
    | _=>none
def ashL (P:Program):List TypeId→Option (List ASh)
  | []=>some []
  | t::r=>match QgB P t with
    | some a=>match ashL P r with
      | some l=>some (a::l)
      | none=>none
    | none=>none
def QiE:ASh→AV→Prop
  | .one s,av=>∃ x,av = .d x∧Fit s x
  | .ag ss,av=>∃ ds:List D,av = .ag (ds.map .d)∧Qfj ss ds
def AFits:List ASh→List AV→Prop
  | [],[]=>True
  | a::as,v::vs=>QiE a v∧AFits as vs
  | _,_=>False
theorem Q8E {r:Reach} {base:Nat} {t:TypeId} {v:Value} {f:Nat} {ss:List Sh} (hs:Qdg P f t=some ss) (hn:∀ fs,P.underlying t≠some (.struct fs)) (h:Value.okWide P w r base t v):v.cells.toList=[v]:=by
  cases f with
  | zero=>simp [Qdg] at hs
  | succ f=>
    unfold Qdg at hs
    split at hs
    · rename_i ht;obtain ⟨b,rfl⟩:=WideShapes.okWide_bool ht h;rfl
    · rename_i k ht;obtain ⟨b,rfl⟩:=WideShapes.okWide_int ht h;rfl
    · rename_i ht;obtain ⟨b,rfl⟩:=WideShapes.okWide_string ht h;rfl
    · rename_i e ht;obtain ⟨a,l,c,rfl⟩:=WideShapes.okWide_slice ht h;rfl
    · rename_i fs ht;exact absurd ht (hn fs)
    · cases hs
theorem Qgw {r:Reach} {base base':Nat} {spare:Nat→Bool} {held:Bool} {t:TypeId} {v:Value} {d:DataW H} {ps:List MemPlace} {a:ASh} (ha:QgB P t=some a) (hv:Value.okWide P w r base t v) (h:DataW.Trod enc P w base' spare held t v d ps) :
    ∃ av,RdA (fun _=>none) (SW w) (look ([]:List (Nat × Ob))) w tm0 v av∧QiE a av:=by
  obtain ⟨n,h⟩:=h
  unfold QgB at ha
  split at ha
  · rename_i fs ht
    split at ha
    case h_2=>cases ha
    rename_i l hl
    injection ha with ha;subst ha
    obtain ⟨ds,h1,h2⟩:=Qc6 n 9 t l _ _ hl h
    simp only [Value.okWide,ht] at hv
    obtain ⟨cs,rfl,hsz,_⟩:=hv
    refine ⟨.ag (ds.map .d),.ag cs _ (by simpa [Value.cells] using h1.1) fun i x hx=>?_,ds,rfl,h2⟩
    rw [List.getElem?_map,Option.map_eq_some_iff] at hx
    obtain ⟨y,hy,rfl⟩:=hx
    have hi:i<cs.size:=by
      have g1:=(List.getElem?_eq_some_iff.1 hy).1
      have g2:=h1.1
      simp [Value.cells] at g2
      omega
    have hc:cs.getD i undef=cs[i]:=by simp [Array.getD,hi]
    rw [hc]
    exact .d _ _ (h1.2 i _ y (by simp [Value.cells,hi]) hy)
  · rename_i hn
    split at ha
    case h_2=>cases ha
    rename_i s hs
    injection ha with ha;subst ha
    have hc:=Q8E hs hn hv
    obtain ⟨ds,h1,h2⟩:=Qc6 n 9 t _ _ _ hs h
    rw [hc] at h1
    obtain ⟨x,rfl⟩:∃ x,ds=[x]:=by
      have:=h1.1
      match ds,this with
      | [x],_=>exact ⟨x,rfl⟩
    exact ⟨.d x,.d _ _ (h1.2 0 v x rfl rfl),x,rfl,h2.2 0 s x rfl rfl⟩
theorem QbL {r:Reach} {base base':Nat} {spare:Nat→Bool} {held:Bool}:∀ (ts:List TypeId) (vs:List Value) (ds:List (DataW H)) (ps:List MemPlace) (as:List ASh),ashL P ts=some as →
    (∀ (j:Nat) t v,ts[j]? = some t→vs[j]? = some v→Value.okWide P w r base t v)→DataW.TrodAll enc P w base' spare held ts vs ds ps →
    ∃ avs,ArgsRd (fun _=>none) (SW w) (look ([]:List (Nat × Ob))) w vs avs∧AFits as avs
  | [],vs,ds,ps,as,has,hv,h=>by
    simp [ashL] at has
    subst has
    cases vs with
    | nil=>exact ⟨[],Qcq,trivial⟩
    | cons v vs=>cases ds <;> simp [DataW.TrodAll] at h
  | t::ts,vs,ds,ps,as,has,hv,h=>by
    obtain ⟨v,vs',d,ds',p,q,rfl,rfl,rfl,h1,h2⟩:=ChangeShapes.trodAll_cons h
    unfold ashL at has
    split at has
    case h_2=>cases has
    rename_i a ha
    split at has
    case h_2=>cases has
    rename_i as' has'
    injection has with has
    subst has
    obtain ⟨av,g1,g2⟩:=Qgw ha (hv 0 t v rfl rfl) h1
    obtain ⟨avs,g3,g4⟩:=QbL ts vs' ds' q as' has' (fun j t v h1 h2=>hv (j+1) t v (by simpa using h1) (by simpa using h2)) h2
    exact ⟨av::avs,QaV g1 g3,g2,g4⟩
theorem Q9j {W W':World} (hl:laidOutB P=true) (hb:RowKit.Below W.heap.size W W'):∀ (ts:List TypeId) (vs:List Value) (ds:List (DataW H)) (ps:List MemPlace),(ts.all fun t=>P.readableRec t&&decide (t<P.types.size))=true →
    DataW.TrodAll enc P W 0 (fun _=>true) true ts vs ds ps→∃ pa,DataW.TrodAll enc P W' 0 (fun b=>decide (b<W.heap.size)) true ts vs ds pa
  | [],vs,ds,ps,_,h=>by
    cases vs <;> cases ds <;> simp [DataW.TrodAll] at h
    exact ⟨[],rfl⟩
  | t::ts,vs,ds,ps,ht,h=>by
    obtain ⟨v,vs',d,ds',p,q,rfl,rfl,rfl,h1,h2⟩:=ChangeShapes.trodAll_cons h
    simp only [List.all_cons,Bool.and_eq_true,decide_eq_true_eq] at ht
    obtain ⟨pa,g⟩:=Q9j hl hb ts vs' ds' q ht.2 h2
    have hlt:∀ x∈p,x.block<W.heap.size:=by obtain ⟨m,hm⟩:=h1;exact DataW.trod_lt m _ _ _ hm
    exact ⟨p++pa,p,pa,RowKit.Below.trod hl ht.1.1 ht.1.2 h1 hb hlt,g,rfl⟩
theorem AE {base:Nat} {spare:Nat→Bool} {held:Bool}:∀ (ts:List TypeId) (vs:List Value) (ds:List (DataW H)) (ps:List MemPlace),DataW.TrodAll enc P w base spare held ts vs ds ps→vs.length=ts.length∧ds.length=ts.length
  | [],vs,ds,ps,h=>by
    cases vs <;> cases ds <;> simp [DataW.TrodAll] at h
    exact ⟨rfl,rfl⟩
  | t::ts,vs,ds,ps,h=>by
    obtain ⟨v,vs',d,ds',p,q,rfl,rfl,rfl,h1,h2⟩:=ChangeShapes.trodAll_cons h
    have:=AE ts vs' ds' q h2
    simp [this.1,this.2]
theorem law_contract {fn:Func} {f:FuncId} {s:ChangeSpec} {as:List ASh} {tb:TypeId} (laid:laidOutB P=true)
    (hvars:s.vars=[]) (hpar:(fn.params.toList.all fun t=>P.readableRec t&&decide (t<P.types.size))=true) (has:ashL P fn.params.toList=some as)
    (hres:fn.resultTypes = #[tb]) (hb:P.underlying tb=some .bool)
    {W:World} {base:Nat} {args:Array Value} {ds gs:List (DataW H)} {before:List MemPlace}
    (hval:∀ (j:Nat) t v,fn.params[j]? = some t→args[j]? = some v→Value.okWide P W .any base t v)
    (hW:DataW.Whole enc P fn.params.toList s.vars false W args.toList ds gs before)
    (hspec:∀ ds:List (DataW H),ds.length=fn.params.size→s.fn H ds={ results:=[.lit (.bool true)],args:=ds })
    (walk:∀ avs,AFits as avs→ArgsRd (fun _=>none) (SW W) (look ([]:List (Nat × Ob))) W args.toList avs→Calls P f args W fun e w'=>e = .returned (.bool true)∧RowKit.Below W.heap.size W w') :
    Calls P f args W fun e W'=>∃ v,e = .returned v∧s.post enc P fn false true false false W args v W':=by
  have hW':=hW
  obtain ⟨p,q,hA,hV,rfl,hfz,hnd⟩:=hW
  obtain ⟨avs,g1,g2⟩:=QbL (r:=.any) (base:=base) _ _ _ _ as has (fun j t v h1 h2=>hval j t v (by simpa using h1) (by simpa using h2)) hA
  refine (walk avs g2 g1).mono fun e W' ⟨he,bel⟩=>?_
  subst he
  obtain ⟨pa,hpa⟩:=Q9j laid bel _ _ _ _ hpar hA
  rw [hvars] at hV
  obtain ⟨rfl,rfl⟩:=ChangeShapes.trodVars_none hV
  have hlen:=(AE _ _ _ _ hA).2
  have hsp:=hspec ds (by simpa using hlen)
  refine ⟨_,rfl,ds,[],_,[],pa,[],hW',?_,?_,?_,bel.frame _,fun h=>by cases h⟩
  · rw [List.append_nil,hsp,hres]
    exact ChangeShapes.trodAll_mk1 (RowKit.shut_bool hb _)
  · rw [List.append_nil,hsp];exact hpa
  · rw [List.append_nil,hsp,hvars];rfl
end

section
variable {R:Type}
def i64 (x:Int):Prop := -9223372036854775808≤x∧x≤9223372036854775807
theorem QbB {x:Int} (h:i64 x):IntKind.wrap .i64 x=x:=IntWalk.i64_in x h
theorem Q8k {x:Int} (h1 : -9223372036854775808≤x) (h2:x≤9223372036854775807):IntKind.wrap .i64 x=x:=IntWalk.i64_in x ⟨h1,h2⟩
theorem QiX {n:Int} (h:(Lit.int .i64 n).wf=true):i64 n:=by
  simpa [Lit.wf,IntKind.min,IntKind.max,IntKind.signed,IntKind.bits,i64] using h
theorem QN (n:Int):XL .i64 (.int .i64 n)=some n:=rfl
theorem Qd6 (s:List UInt8):Qc0 (.str s)=some s:=rfl
theorem F4 (k:Nat) (l:List (List D)):pSl k (.sl k l)=some l:=by simp [pSl]
theorem QdX {α:Type} (f:α→List D) (l:List α) (i:Nat):X2 (l.map f) (i:Int)=(l[i]?).map f:=by
  simp [X2]
theorem Q1k {α:Type} {f:α→List D} {l:List α} {i:Nat} {a:α} (h:l[i]? = some a):X2 (l.map f) (i:Int)=some (f a):=by rw [QdX,h];rfl
theorem Qgx {n:Nat} (h:n≤140737488355328):R0 n=some ():=by
  unfold R0;rw [Nat.ble_eq_true_of_le h];rfl
theorem QeV {b:Int} (h:b≠0):nz b=some ():=by
  have:(b == 0)=false:=by simpa using h
  unfold nz;rw [this];rfl
theorem DB {len:Nat} {n:Int} (h0:0≤n) (h:n<len):inB len n=some ():=by
  unfold inB;simp [h0,h]
theorem Q9E {α:Type} {l:List α} {i:Nat} {a:α} {r:List α} (h:l.drop i=a::r):l[i]? = some a∧l.drop (i+1)=r∧i<l.length:=by
  have h1:(l.drop i)[0]? = some a:=by rw [h];rfl
  rw [List.getElem?_drop] at h1
  refine ⟨by simpa using h1,by rw [← List.drop_drop,h];rfl,?_⟩
  have:=(List.getElem?_eq_some_iff.1 h1).1
  omega
theorem QbQ {α:Type} {l:List α} {i:Nat} (h:l.drop i=[]):l.length≤i:=List.drop_eq_nil_iff.1 h
theorem U9 {c:Bool} (h:c=true) (x y:R):(bif c then x else y)=x:=by rw [h];rfl
theorem XF {c:Bool} (h:c=false) (x y:R):(bif c then x else y)=y:=by rw [h];rfl
def encI (l:List Int):List (List D):=l.map fun n=>[D.int .i64 n]
theorem Q6t (l:List Int):(encI l).length=l.length:=by simp [encI]
theorem Qf8 {l:List Int} {i:Nat} {a:Int} (h:l[i]? = some a):X2 (encI l) (i:Int)=some [.int .i64 a]:=Q1k h
theorem fit_ints {rows:List (List D)} (h:Fit (.sl [.int .i64]) (.sl 1 rows)):∃ l:List Int,rows=encI l∧(∀ n∈l,i64 n)∧l.length≤maxLen:=by
  cases h with
  | sl _ _ hm hl hr=>
    have h1:∀ i,i<rows.length→∃ n:Int,rows[i]? = some [.int .i64 n]∧i64 n:=by
      intro i hi
      have hri:=List.getElem?_eq_getElem hi
      have hlen:=hl i _ hri
      obtain ⟨x,hx⟩:∃ x,rows[i]=[x]:=by
        match hq:rows[i],hlen with
        | [x],_=>exact ⟨x,rfl⟩
      have hf:=hr i 0 _ (.int .i64) x hri rfl (by rw [hx];rfl)
      cases hf with
      | int _ n hw=>exact ⟨n,by rw [hri,hx],QiX hw⟩
    obtain ⟨l,e1,e2⟩:=QaI rows.length h1
    refine ⟨l,?_,fun n hn=>?_,by omega⟩
    · refine List.ext_getElem? fun i=>?_
      rcases Nat.lt_or_ge i l.length with hi | hi
      · have:=(e2 i _ (List.getElem?_eq_getElem hi)).1
        rw [this]
        simp [encI,hi]
      · rw [List.getElem?_eq_none (by omega),List.getElem?_eq_none (by simpa [encI] using hi)]
    · obtain ⟨i,hi⟩:=List.getElem?_of_mem hn
      exact (e2 i _ hi).2
theorem fit_sl {row:List Sh} {x:D} (h:Fit (.sl row) x):∃ rows,x = .sl row.length rows:=by
  cases h with
  | sl _ rows _ _ _=>exact ⟨rows,rfl⟩
def lawK:AV→Option Bool
  | .d (.bool b)=>some b
  | _=>none
theorem lawK_ok (x:AV) (h:lawK x=some true):x = .d (.bool true):=by
  unfold lawK at h
  split at h
  · injection h with h;subst h;rfl
  · cases h
end

abbrev bs (l:List UInt8):List UInt8:=l
abbrev LL:=List (List D)
abbrev dI (x:Int):AV:=.d (.int .i64 x)
abbrev dB (b:Bool):AV:=.d (.bool b)
abbrev dT (s:List UInt8):AV:=.d (.str s)
abbrev dL (k:Nat) (r:LL):AV:=.d (.sl k r)
def cA:List Nat→Code→Code
  | [],c=>c
  | 0::r,c=>cA r (cL c)
  | 1::r,c=>cA r (cR c)
  | 2::r,c=>cA r (cB c)
  | 3::r,c=>cA r (cT c)
  | _::r,c=>cA r (cE c)
abbrev cK (r:Nat) (l:List Nat):Nat × Cfg:=(r,⟨l,[],[],[],[]⟩)
abbrev cO (r:Nat) (l o:List Nat):Nat × Cfg:=(r,⟨l,o.map fun x=>(x,x),[],[],[]⟩)
def rgN (d:Nat):Nat→Nat→List Nat→List Nat
  | _,0,r=>r
  | a,n+1,r=>a::rgN d (a+d) n r
abbrev rg1 (a n:Nat) (r:List Nat):List Nat:=rgN 1 a n r
abbrev rg5 (a n:Nat) (r:List Nat):List Nat:=rgN 50000 a n r
def zp:List Nat→List Nat→List (Nat × Nat)
  | a::r,b::s=>(a,b)::zp r s
  | _,_=>[]
theorem B0 {A B:Type} {o:Option A} {f:A→Option B} {r:B} (h:o.bind f=some r):∃ a,o=some a∧f a=some r:=Option.bind_eq_some_iff.1 h
section
variable {A B C D E F R:Type}
theorem cg1 (f:A→R) {a a':A} (h:a=a'):f a=f a':=h▸rfl
theorem cg2 (f:A→B→R) {a a':A} {b b':B} (h:a=a') (i:b=b'):f a b=f a' b':=h▸i▸rfl
theorem cg3 (f:A→B→C→R) {a a':A} {b b':B} {c c':C} (h:a=a') (i:b=b') (j:c=c'):f a b c=f a' b' c':=h▸i▸j▸rfl
end
theorem XM {R:Type} {C:VC} {n:Nat} {c:Code} {st st':St} (h:Q3N C (3000000000+QcS c) st=Q3N C (3000000000+QcS c) st') (m:Nat) (k:Exit→St→Option R):X7 (lB C n c) m st k=X7 (lB C n c) m st' k:=by
  cases m with
  | zero=>rfl
  | succ m=>show Qi C n c (Q3N C (3000000000+QcS c) st) _=Qi C n c (Q3N C (3000000000+QcS c) st') _;rw [h]
theorem lS {R:Type} {C:VC} {n:Nat} {c:Code} {st st':St} (h:Q3N C (3000000000+QcS c) st=st') (m:Nat) (k:Exit→St→Option R):X7 (lB C n c) (m+1) st k=Qi C n c st' (WB (lB C n c) m k):=by subst h;rfl
def Q4v:List UInt8:=[0,1,2,2]++(List.replicate 4 3++(List.replicate 8 4++(List.replicate 16 5++(List.replicate 32 6++(List.replicate 64 7++List.replicate 128 8)))))
def kI:AV→Option Int:=fun av=>match av with
  | .d (D.int .i64 r)=>some r
  | _=>none
def kB:AV→Option Bool:=fun av=>match av with
  | .d (D.bool r)=>some r
  | _=>none
theorem NW {r:Int} (x:AV) (h:kI x=some r):x = .d (D.int .i64 r):=by
  unfold kI at h
  split at h
  · injection h with h;subst h;rfl
  · cases h
theorem Da {r:Bool} (x:AV) (h:kB x=some r):x = .d (D.bool r):=by
  unfold kB at h
  split at h
  · injection h with h;subst h;rfl
  · cases h
theorem VP {R:Type} {C:VC} {n:Nat} {fn:Func} {args:List AV} {h:List (Nat × Ob)} {k:AV→List (Nat × Ob)→Option R} {c:Code} {m:Nat} {tm:List (Nat × AV)} {rs:List ResultVar} {tt:TT}
    (hb:fn.body.isSome=true:=by kernel_rfl) (h2:fn.ntmps=m:=by kernel_rfl) (hc:(Nat.ble args.length m&&Sl args)=true:=by rfl) (h1:Q8 fn=c:=by kernel_rfl) (h3:Q7m 0 args=tm:=by rfl) (h4:fn.results.toList=rs:=by kernel_rfl) (h5:C.tt=tt:=by rfl):vfn C n fn args h k=Qi C n c ⟨m,tm,h⟩ (K3 tt rs k):=
  Qhl hb h2 hc h1 h3 h4 h5
theorem QE {P:Program} {α:Type} {K:AV→Option α} {res:α} {C:VC} (hC:VCOk P C) {n f:Nat} {fn:Func} {ss:List (List Nat)} {avs:List AV} {av:AV} {hl:Nat→Option Ob} {rd:List Nat}
    (h : vfn C n fn avs [] (Wc ss K) = some res) (hK : ∀ x, K x = some res → x = av) (hf : P.funcs[f]? = some fn := by kernel_rfl) (hb : fn.body.isSome = true := by kernel_rfl) (hn : (fn.name == "runtime.NumGoroutine") = false := by kernel_rfl) (hlf : lfL avs = true := by rfl) : QI P f avs hl ⟨av, [], rd⟩ :=
  QcO hC hf hb hn hlf h hK

section
variable {P:Program} {R:Type}
mutual
def dm (ρ:List (Nat × Nat)):AV→Bool
  | .ptr j _=>(look ρ j).isSome
  | .arr j=>(look ρ j).isSome
  | .ap j _ _=>(look ρ j).isSome
  | .sa j _=>(look ρ j).isSome
  | .ag l=>dmL ρ l
  | .tup l=>dmL ρ l
  | .fn _ l=>dmL ρ l
  | .gd ..=>false
  | _=>true
def dmL (ρ:List (Nat × Nat)):List AV→Bool
  | []=>true
  | a::r=>dm ρ a&&dmL ρ r
end
theorem Qb7 {ρ:List (Nat × Nat)}:∀ {l:List AV} {i:Nat} {x:AV},dmL ρ l=true→l[i]? = some x→dm ρ x=true
  | a::r,0,x,h,hx=>by
    simp only [dmL,Bool.and_eq_true] at h
    simp at hx;subst hx;exact h.1
  | a::r,i+1,x,h,hx=>by
    simp only [dmL,Bool.and_eq_true] at h
    exact Qb7 h.2 (by simpa using hx)
section
variable {ρ:List (Nat × Nat)} {β β':Nat→Option Nat} {S:Nat→Prop} {h h':Nat→Option Ob} {w:World} {tm:Nat→Value}
theorem Qi3 (hβ:∀ j l,look ρ j=some l→β' j=β l) (hh:∀ j l,look ρ j=some l→(h l).isSome=true∧∀ e s rows,h l=some (.arr e s rows)→h' j=some (.arr e s rows)) :
    ∀ {v:Value} {y:AV},RdA β S h w tm v y→∀ x:AV,dm ρ x=true→y=G6 ρ x→RdA β' S h' w tm v x:=by
  intro v y hv
  induction hv with
  | top v=>
    intro x hd he
    cases x <;> simp only [G6,reduceCtorEq] at he
    case top=>exact .top v
    case ptr j o=>simp only [dm] at hd;obtain ⟨l,hl⟩:=Option.isSome_iff_exists.1 hd;rw [hl] at he;cases he
    case arr j=>simp only [dm] at hd;obtain ⟨l,hl⟩:=Option.isSome_iff_exists.1 hd;rw [hl] at he;cases he
    case ap j i o=>simp only [dm] at hd;obtain ⟨l,hl⟩:=Option.isSome_iff_exists.1 hd;rw [hl] at he;cases he
    case sa j o=>simp only [dm] at hd;obtain ⟨l,hl⟩:=Option.isSome_iff_exists.1 hd;rw [hl] at he;cases he
    case gd=>simp [dm] at hd
  | d v z hz=>
    intro x hd he
    cases x <;> simp only [G6,reduceCtorEq] at he
    case d=>injection he with he;subst he;exact .d v _ hz
    case ptr j o=>split at he <;> cases he
    case arr j=>split at he <;> cases he
    case sa j t=>split at he <;> cases he
    case ap j i o=>split at he <;> cases he
  | nil=>
    intro x hd he
    cases x <;> simp only [G6,reduceCtorEq] at he
    case nil=>exact .nil
    case ptr j o=>split at he <;> cases he
    case arr j=>split at he <;> cases he
    case sa j t=>split at he <;> cases he
    case ap j i o=>split at he <;> cases he
  | ag cs l hl _ ih=>
    intro x hd he
    cases x <;> simp only [G6,reduceCtorEq] at he
    case ag r=>
      injection he with he
      subst he
      rw [WN] at hl
      refine .ag cs r hl fun i z hz=>?_
      exact ih i (G6 ρ z) (by rw [GC,hz];rfl) z (Qb7 (by simpa [dm] using hd) hz) rfl
    case ptr j o=>split at he <;> cases he
    case arr j=>split at he <;> cases he
    case sa j t=>split at he <;> cases he
    case ap j i o=>split at he <;> cases he
  | tup cs l hl _ ih=>
    intro x hd he
    cases x <;> simp only [G6,reduceCtorEq] at he
    case tup r=>
      injection he with he
      subst he
      rw [WN] at hl
      refine .tup cs r hl fun i z hz=>?_
      exact ih i (G6 ρ z) (by rw [GC,hz];rfl) z (Qb7 (by simpa [dm] using hd) hz) rfl
    case ptr j o=>split at he <;> cases he
    case arr j=>split at he <;> cases he
    case sa j t=>split at he <;> cases he
    case ap j i o=>split at he <;> cases he
  | fn f cs l hl _ ih=>
    intro x hd he
    cases x <;> simp only [G6,reduceCtorEq] at he
    case fn g r=>
      injection he with he1 he2
      subst he1
      subst he2
      rw [WN] at hl
      refine .fn f cs r hl fun i z hz=>?_
      exact ih i (G6 ρ z) (by rw [GC,hz];rfl) z (Qb7 (by simpa [dm] using hd) hz) rfl
    case ptr j o=>split at he <;> cases he
    case arr j=>split at he <;> cases he
    case sa j t=>split at he <;> cases he
    case ap j i o=>split at he <;> cases he
  | fs ad s rows hx=>
    intro x hd he
    cases x <;> simp only [G6,reduceCtorEq] at he
    case fs=>injection he with e1 e2;subst e1 e2;exact .fs ad _ _ hx
    case ptr j o=>split at he <;> cases he
    case arr j=>split at he <;> cases he
    case sa j t=>split at he <;> cases he
    case ap j i o=>split at he <;> cases he
  | ex v=>
    intro x hd he
    cases x <;> simp only [G6,reduceCtorEq] at he
    case ex=>injection he with e1;subst e1;exact .ex _
    case ptr j o=>split at he <;> cases he
    case arr j=>split at he <;> cases he
    case sa j t=>split at he <;> cases he
    case ap j i o=>split at he <;> cases he
  | mpd v f hm=>
    intro x hd he
    cases x <;> simp only [G6,reduceCtorEq] at he
    case mpd=>injection he with e1;subst e1;exact .mpd v _ hm
    case ptr j o=>split at he <;> cases he
    case arr j=>split at he <;> cases he
    case sa j t=>split at he <;> cases he
    case ap j i o=>split at he <;> cases he
  | ptr l off b hb=>
    intro x hd he
    cases x <;> simp only [G6,reduceCtorEq] at he
    case ptr j o=>
      split at he
      · rename_i l' hl'
        injection he with e1 e2
        subst e1 e2
        exact .ptr j _ b ((hβ j _ hl').trans hb)
      · cases he
    case arr j=>split at he <;> cases he
    case sa j t=>split at he <;> cases he
    case ap j i o=>split at he <;> cases he
  | sa v l t b hb hv=>
    intro x hd he
    cases x <;> simp only [G6,reduceCtorEq] at he
    case sa j t=>
      split at he
      · rename_i l' hl'
        injection he with e1 e2
        subst e1 e2
        exact .sa v j _ b ((hβ j _ hl').trans hb) hv
      · cases he
    case ptr j o=>split at he <;> cases he
    case arr j=>split at he <;> cases he
    case ap j i o=>split at he <;> cases he
  | el ad row off c hs hc hr=>
    intro x hd he
    cases x <;> simp only [G6,reduceCtorEq] at he
    case el r o=>injection he with e1 e2;subst e1 e2;exact .el ad _ _ c hs hc hr
    case ptr j o=>split at he <;> cases he
    case arr j=>split at he <;> cases he
    case sa j t=>split at he <;> cases he
    case ap j i o=>split at he <;> cases he
  | arr0 l e s hb hk=>
    intro x hd he
    cases x <;> simp only [G6,reduceCtorEq] at he
    case arr j=>
      split at he
      · rename_i l' hl'
        injection he with e1
        subst e1
        exact .arr0 j e s ((hβ j _ hl').trans hb) ((hh j _ hl').2 _ _ _ hk)
      · cases he
    case ptr j o=>split at he <;> cases he
    case sa j t=>split at he <;> cases he
    case ap j i o=>split at he <;> cases he
  | arr l b cap e s rows cs ty fz hb hk hw hcs hcap hmax=>
    intro x hd he
    cases x <;> simp only [G6,reduceCtorEq] at he
    case arr j=>
      split at he
      · rename_i l' hl'
        injection he with e1
        subst e1
        exact .arr j b cap e s rows cs ty fz ((hβ j _ hl').trans hb) ((hh j _ hl').2 _ _ _ hk) hw hcs hcap hmax
      · cases he
    case ptr j o=>split at he <;> cases he
    case sa j t=>split at he <;> cases he
    case ap j i o=>split at he <;> cases he
  | ap l i off b e s rows hb hk=>
    intro x hd he
    cases x <;> simp only [G6,reduceCtorEq] at he
    case ap j i' o=>
      split at he
      · rename_i l' hl'
        injection he with e1 e2 e3
        subst e1 e2 e3
        exact .ap j _ _ b e s rows ((hβ j _ hl').trans hb) ((hh j _ hl').2 _ _ _ hk)
      · cases he
    case ptr j o=>split at he <;> cases he
    case arr j=>split at he <;> cases he
    case sa j t=>split at he <;> cases he
  | dang v av l hl hk h1=>
    intro x hd he
    exfalso
    cases x with
    | ptr j o=>simp only [G6] at he;split at he <;> (subst he;simp [Ha] at hl)
    | sa j o=>simp only [G6] at he;split at he <;> (subst he;simp [Ha] at hl)
    | arr j=>
      simp only [G6] at he
      split at he
      · rename_i l' hl'
        subst he
        simp [Ha] at hl
        subst hl
        have:=(hh j _ hl').1
        rw [hk] at this
        cases this
      · subst he;simp [Ha] at hl
    | ap j i o=>
      simp only [G6] at he
      split at he
      · rename_i l' hl'
        subst he
        simp [Ha] at hl
        subst hl
        have:=(hh j _ hl').1
        rw [hk] at this
        cases this
      · subst he;simp [Ha] at hl
    | _=>simp only [G6] at he;subst he;simp [Ha] at hl
  | gdT v t b av ht hv ih=>
    intro x hd he
    cases x <;> simp only [G6,reduceCtorEq] at he
    case ptr j o=>split at he <;> cases he
    case arr j=>split at he <;> cases he
    case sa j t=>split at he <;> cases he
    case ap j i o=>split at he <;> cases he
  | gdF t b av ht=>
    intro x hd he
    cases x <;> simp only [G6,reduceCtorEq] at he
    case ptr j o=>split at he <;> cases he
    case arr j=>split at he <;> cases he
    case sa j t=>split at he <;> cases he
    case ap j i o=>split at he <;> cases he
end
def CLe (ρ:List (Nat × Nat)) (c c':AV):Prop:=(lf c'=true∧Q6C c c')∨(dm ρ c'=true∧c=G6 ρ c')
inductive CLeL (ρ:List (Nat × Nat)):List AV→List AV→Prop
  | nil:CLeL ρ [] []
  | cons {a b:AV} {l r:List AV} (h:CLe ρ a b) (t:CLeL ρ l r):CLeL ρ (a::l) (b::r)
theorem CLeL.length {ρ:List (Nat × Nat)} {l r:List AV} (h:CLeL ρ l r):l.length=r.length:=by induction h <;> simp [*]
theorem CLeL.at {ρ:List (Nat × Nat)} {l r:List AV} (h:CLeL ρ l r):∀ (i:Nat) (x:AV),r[i]? = some x→∃ y,l[i]? = some y∧CLe ρ y x:=by
  induction h with
  | nil=>intro i x hx;simp at hx
  | cons h0 _ ih=>
    intro i x hx
    cases i with
    | zero=>simp at hx;subst hx;exact ⟨_,rfl,h0⟩
    | succ i=>obtain ⟨y,h1,h2⟩:=ih i x (by simpa using hx);exact ⟨y,by simpa using h1,h2⟩
theorem Qf4 {ρ:List (Nat × Nat)} {ty:TypeId} {cs cs':List AV} (hc:CLeL ρ cs cs') (h:Qcz ty cs):Qcz ty cs':=by
  intro i l t hi
  obtain ⟨y,hy,hcl⟩:=hc.at i _ hi
  rcases hcl with ⟨h1,_⟩ | ⟨h1,rfl⟩
  · simp [lf] at h1
  · simp only [dm] at h1
    obtain ⟨l',hl'⟩:=Option.isSome_iff_exists.1 h1
    simp only [G6,hl'] at hy
    exact h i l' t hy
inductive OLe (ρ:List (Nat × Nat)):Ob→Ob→Prop
  | box {cs cs':List AV} (h:CLeL ρ cs cs'):OLe ρ (.box cs) (.box cs')
  | arr (e s:Nat) (rows:List (List D)):OLe ρ (.arr e s rows) (.arr e s rows)
def Qcc (o o':Option Ob):Prop:=
  (∃ c c',o=some (.box c)∧o'=some (.box c')∧c'.length=c.length) ∨
  (∃ e s rows,o=some (.arr e s rows)∧(o'=none∨∃ rows',o'=some (.arr e s rows')∧rows'.length=rows.length))
structure ShapeEnd (σ ρ:List (Nat × Nat)) (H:List (Nat × Ob)) (av:AV) (H':List (Nat × Ob)) (dl:Dl):Prop where
  v:G6 σ av=dl.v
  wr:K2 σ H' σ=dl.wr
  news:∀ j l,(j,l)∈σ→(j,l) ∉ ρ→(look H' j).isSome=true
  old:∀ j l,(j,l)∈ρ→Qcc (look H j) (look H' j)
theorem Q15 {α : Type} {K : AV → List (Nat × Ob) → Option α} {res : α} {f : Nat} {fn : Func} (hf : P.funcs[f]? = some fn) (hb : fn.body.isSome = true) (hn : (fn.name == "runtime.NumGoroutine") = false)
    {σ ρ:List (Nat × Nat)} {avs avs':List AV} {H:List (Nat × Ob)} {hl:Nat→Option Ob} {dl:Dl}
    (hav:CLeL ρ avs avs')
    (hsub:∀ p,p∈ρ→p∈σ) (h1:Uq (σ.map (·.1))=true) (h2:Uq (σ.map (·.2))=true) (hρ:Uq (ρ.map (·.1))=true)
    (hin:∀ j l,(j,l)∈ρ→1000000≤j∧∃ o o',hl l=some o∧look H j=some o'∧OLe ρ o o')
    (hinH:∀ j,(look H j).isSome=true→∃ l,(j,l)∈ρ)
    (hnew:∀ j l,(j,l)∈σ→(j,l)∈ρ∨hl l=none)
    (hwl:wrL dl=σ.map (·.2))
    (h:∀ (β:Nat→Option Nat) (S:Nat→Prop) (w:World) (vs:List Value),Objs β S (look H) w→ArgsRd β S (look H) w vs avs'→Calls P f vs.toArray w (QbJ H K res β S w)) (hK:∀ av H',K av H'=some res→ShapeEnd σ ρ H av H' dl):QI P f avs hl dl:=by
  refine ⟨⟨fn,hf,hb,hn⟩,fun β S h' w args hO hA hag=>?_⟩
  have hag:∀ {j l:Nat},(j,l)∈σ→h' l=hl l:=fun {j l} hm=>hag l (.inr (by rw [hwl];exact List.mem_map.2 ⟨(j,l),hm,rfl⟩))
  have hlook:∀ {j l:Nat},(j,l)∈ρ→look ρ j=some l:=fun hm=>Q5L hρ hm
  have hβc:∀ {j l:Nat},(j,l)∈ρ→(look ρ j).bind β=β l:=fun hm=>by rw [hlook hm];rfl
  have hlk2:∀ {j j' l:Nat},(j,l)∈ρ→(j',l)∈ρ→j=j':=fun a b=>by
    have:=Rv h2 _ _ (hsub _ a) (hsub _ b) rfl
    injection this
  have hsome':∀ {j l:Nat},(j,l)∈ρ→(h' l).isSome=true:=fun hm=>by
    obtain ⟨_,o,o',g1,_⟩:=hin _ _ hm
    rw [hag (hsub _ hm),g1];rfl
  have hun:∀ {v:Value} {y x:AV},RdA β S h' w tm0 v y→CLe ρ y x→RdA (fun j=>(look ρ j).bind β) S (look H) w tm0 v x:=by
    intro v y x hv hc
    rcases hc with ⟨c1,c2⟩ | ⟨c1,rfl⟩
    · exact Q2l c1 (fun _ h=>h) (fun _ _=>rfl) (c2 _ _ _ _ _ _ hv)
    · refine Qi3 (ρ:=ρ) (fun j l hj=>by simp only [hj];rfl) (fun j l hj=>⟨hsome' (YG hj),fun e s rows hx=>?_⟩) hv x c1 rfl
      obtain ⟨_,o,o',g1,g2,g3⟩:=hin j l (YG hj)
      rw [hag (hsub _ (YG hj)),g1] at hx
      injection hx with hx
      subst hx
      cases g3
      exact g2
  have hO0:Objs (fun j=>(look ρ j).bind β) S (look H) w:=by
    refine ⟨fun j o ho=>?_,fun j j' b s1 s2 b1 b2=>?_,fun j b s1 b1=>?_,hO.sb⟩
    · obtain ⟨l,hm⟩:=hinH j (by simp [ho])
      obtain ⟨_,oo,o',g1,g2,g3⟩:=hin j l hm
      rw [ho] at g2
      injection g2 with g2
      subst g2
      have hob:=hO.ob l _ ((hag (hsub _ hm)).trans g1)
      cases g3 with
      | box g3=>
        obtain ⟨b,ty,c0,fz,e1,e2,e3,e4,e5⟩:=hob
        refine ⟨b,ty,c0,fz,(hβc hm).trans e1,e2,⟨e3.1,Qf4 g3 e3.2⟩,e4.trans g3.length,fun i x hx=>?_⟩
        obtain ⟨y,y1,y2⟩:=g3.at i x hx
        exact hun (e5 i y y1) y2
      | arr e s rows=>
        rcases hob with ⟨e1,e2⟩ | ⟨b,cs,e1,e2,e3,e4,e5⟩
        · exact .inl ⟨(hβc hm).trans e1,e2⟩
        · exact .inr ⟨b,cs,(hβc hm).trans e1,e2,e3,e4,e5⟩
    · obtain ⟨l,hm⟩:=hinH j s1
      obtain ⟨l',hm'⟩:=hinH j' s2
      have:=hO.inj l l' b (hsome' hm) (hsome' hm') (by rw [← hβc hm];exact b1) (by rw [← hβc hm'];exact b2)
      subst this
      exact hlk2 hm hm'
    · obtain ⟨l,hm⟩:=hinH j s1
      exact hO.apart l b (hsome' hm) (by rw [← hβc hm];exact b1)
  have hA0:ArgsRd (fun j=>(look ρ j).bind β) S (look H) w args avs':=by
    refine ⟨by rw [hA.1,hav.length],fun i v av g1 g2=>?_⟩
    obtain ⟨y,y1,y2⟩:=hav.at i av g2
    exact hun (hA.2 i v y g1 y1) y2
  refine (h _ _ _ _ hO0 hA0).mono fun e w' ⟨v,av,H',β',S',he,hk,hrd,_,hr⟩=>?_
  obtain ⟨q1,q2,q3,q4⟩:=hK av H' hk
  have hinv:∀ {j l:Nat},(j,l)∈σ→inv σ l=some j:=fun hm=>Q9W h2 hm
  let βo:Nat→Option Nat:=fun l=>match inv σ l with | some j=>β' j | none=>β l
  have hβo:∀ j l,(j,l)∈σ→βo l=β' j:=fun j l hm=>by simp only [βo,hinv hm]
  have hset:∀ j l,(j,l)∈σ→H7 h' dl.wr l=(look H' j).map (Qfk σ):=fun j l hm=>by rw [← q2];exact Q0v σ H' σ h' h2 j l hm
  have hmem:∀ {l:Nat},l∈wrL dl→∃ j,(j,l)∈σ:=fun hm=>by
    rw [hwl] at hm
    obtain ⟨⟨j,l'⟩,m1,m2⟩:=List.mem_map.1 hm
    simp only at m2
    subst m2
    exact ⟨j,m1⟩
  have hpin:∀ {j l:Nat},(j,l)∈ρ→β' j=β l:=fun hm=>(hr.pin _ (hin _ _ hm).1).trans (hβc hm)
  have hren:∀ {v:Value} {x:AV},RdA β' S' (look H') w' tm0 v x→RdA βo S' (H7 h' dl.wr) w' tm0 v (G6 σ x):=fun hx=>
    QbI hβo (fun j l o hm ho=>by rw [hset j l hm,ho];rfl) (fun j l hm ho=>by rw [hset j l hm,ho];rfl) hx
  have hwmem:∀ {j l:Nat},(j,l)∈σ→l∈wrL dl:=fun {j l} hm=>by rw [hwl];exact List.mem_map.2 ⟨(j,l),hm,rfl⟩
  have hMw:∀ b,(∃ j,(look H j).isSome=true∧(look ρ j).bind β=some b)→∃ l,l∈wrL dl∧(h' l).isSome=true∧β l=some b:=by
    intro b ⟨j,s1,s2⟩
    obtain ⟨l,hm⟩:=hinH j s1
    exact ⟨l,hwmem (hsub _ hm),hsome' hm,by rw [← hβc hm];exact s2⟩
  have hw0:∀ {b:Nat},(∃ j,(look H j).isSome=true∧(look ρ j).bind β=some b)∨w.heap.size≤b→w.heap.size≤b∨∃ l0,l0∈wrL dl∧(h' l0).isSome=true∧β l0=some b:=by
    intro b hx
    rcases hx with hx | hx
    · exact .inr (hMw b hx)
    · exact .inl hx
  refine ⟨v,βo,S',he,⟨hr.s0,fun b hS=>?_,hr.sb,hr.fr.mono fun b _ hM=>hMw b hM,fun l hno=>?_,fun l o hm ho=>?_,fun l hm hs=>?_,fun l b hm hs hb'=>?_,fun l l' b hm hm' hs hs' hb' hb''=>?_,fun l hm hno hno'=>?_,?_,fun t=>by rw [← q1];exact Q8K σ t av⟩⟩
  · rcases hr.sfr b hS with g | g | g
    · exact .inl g
    · exact .inr (.inr (hMw b g))
    · exact .inr (.inl g)
  · have:inv σ l=none:=Qbt (by rw [← hwl];exact hno)
    simp only [βo,this]
  · obtain ⟨j,hj⟩:=hmem hm
    rw [hset j l hj,Option.map_eq_some_iff] at ho
    obtain ⟨o',ho',rfl⟩:=ho
    have hob:=hr.ob j o' ho'
    cases o' with
    | box cells=>
      obtain ⟨b,ty,cs,fz,g1,g2,g3,g4,g5⟩:=hob
      refine ⟨b,ty,cs,fz,(hβo j l hj).trans g1,g2,⟨g3.1,Q88 g3.2⟩,by rw [g4,WN],fun i x hx=>?_⟩
      rw [GC,Option.map_eq_some_iff] at hx
      obtain ⟨y,hy,rfl⟩:=hx
      exact hren (g5 i y hy)
    | arr e s rows=>
      rcases hob with ⟨g1,g2⟩ | ⟨b,cs,g1,g2,g3,g4,g5⟩
      · exact .inl ⟨(hβo j l hj).trans g1,g2⟩
      · exact .inr ⟨b,cs,(hβo j l hj).trans g1,g2,g3,g4,g5⟩
  · obtain ⟨j,hj⟩:=hmem hm
    rcases hnew j l hj with hp | hno
    · obtain ⟨hj6,o,o',e1,e2,e3⟩:=hin j l hp
      have hh:h' l=some o:=(hag hj).trans e1
      have hcells:∀ b cs ty fz,(H7 h' dl.wr l).isSome=true→β l=some b→w.heap[b]? = some (.cells cs ty fz)→∃ cs' ty' fz',w'.heap[b]? = some (.cells cs' ty' fz')∧cs'.size=cs.size:=by
        intro b cs ty fz hs' hb' hw
        have hs2:(look H' j).isSome=true:=by
          rw [hset j l hj] at hs'
          cases hx:look H' j with
          | none=>rw [hx] at hs';cases hs'
          | some o=>rfl
        exact hr.psz j b hj6 hs2 ((hpin hp).trans hb') cs ty fz hw
      rcases q4 j l hp with ⟨c,c',g1,g2,g3⟩ | ⟨e,s,rows,g1,g2⟩
      · rw [g1] at e2
        injection e2 with e2
        subst e2
        cases e3 with
        | box e3=>exact ⟨(hβo j l hj).trans (hpin hp),fun hx=>(by rw [hh] at hx;cases hx),fun e s rows hx=>(by rw [hh] at hx;cases hx),hcells⟩
      · rw [g1] at e2
        injection e2 with e2
        subst e2
        cases e3 with
        | arr=>
          refine ⟨(hβo j l hj).trans (hpin hp),fun hx=>(by rw [hh] at hx;cases hx),fun e' s' rows2 hx=>?_,hcells⟩
          rw [hh] at hx
          injection hx with hx
          injection hx with x1 x2 x3
          subst x1 x2 x3
          rcases g2 with g2 | ⟨rows',g2,g3⟩
          · left;rw [hset j l hj,g2];rfl
          · right;exact ⟨rows',by rw [hset j l hj,g2];rfl,g3⟩
    · rw [hag hj,hno] at hs;cases hs
  · obtain ⟨j,hj⟩:=hmem hm
    rw [hβo j l hj] at hb'
    have hs2:(look H' j).isSome=true:=by
      rw [hset j l hj] at hs
      cases hx:look H' j with
      | none=>rw [hx] at hs;cases hs
      | some o=>rfl
    exact ⟨hw0 (hr.own j b hs2 hb'),hr.apart j b hs2 hb'⟩
  · obtain ⟨j,hj⟩:=hmem hm
    obtain ⟨j',hj'⟩:=hmem hm'
    rw [hβo j l hj] at hb'
    rw [hβo j' l' hj'] at hb''
    have hs2:∀ {j l:Nat},(j,l)∈σ→(H7 h' dl.wr l).isSome=true→(look H' j).isSome=true:=by
      intro j l hj hs
      rw [hset j l hj] at hs
      cases hx:look H' j with
      | none=>rw [hx] at hs;cases hs
      | some o=>rfl
    have:=hr.inj j j' b (hs2 hj hs) (hs2 hj' hs') hb' hb''
    subst this
    have:=Rv h1 _ _ hj hj' rfl
    injection this
  · obtain ⟨j,hj⟩:=hmem hm
    by_cases hp:(j,l)∈ρ
    · have:=hsome' hp
      rw [hno] at this
      cases this
    · have:=q3 j l hj hp
      rw [hset j l hj] at hno'
      cases hx:look H' j with
      | none=>rw [hx] at this;cases this
      | some o=>rw [hx] at hno';cases hno'
  · rw [← q1];exact hren hrd
theorem Qff {α : Type} {K : AV → List (Nat × Ob) → Option α} {res : α} {C : VC} (hC : VCOk P C) {n f : Nat} {fn : Func} (hf : P.funcs[f]? = some fn) (hb : fn.body.isSome = true) (hn : (fn.name == "runtime.NumGoroutine") = false)
    {σ ρ:List (Nat × Nat)} {avs avs':List AV} {H:List (Nat × Ob)} {hl:Nat→Option Ob} {dl:Dl}
    (hav:CLeL ρ avs avs')
    (hsub:∀ p,p∈ρ→p∈σ) (h1:Uq (σ.map (·.1))=true) (h2:Uq (σ.map (·.2))=true) (hρ:Uq (ρ.map (·.1))=true)
    (hin:∀ j l,(j,l)∈ρ→1000000≤j∧∃ o o',hl l=some o∧look H j=some o'∧OLe ρ o o')
    (hinH:∀ j,(look H j).isSome=true→∃ l,(j,l)∈ρ)
    (hnew:∀ j l,(j,l)∈σ→(j,l)∈ρ∨hl l=none)
    (hwl:wrL dl=σ.map (·.2))
    (h:vfn C n fn avs' H K=some res) (hK:∀ av H',K av H'=some res→ShapeEnd σ ρ H av H' dl):QI P f avs hl dl:=
  Q15 hf hb hn hav hsub h1 h2 hρ hin hinH hnew hwl (fun _ _ _ _ hO hA=>FX hC hf h hO hA) hK
end

section
variable {P:Program} {R:Type}
def prR (hl:Nat→Option Ob) (e s:Nat) (av:AV) (k:Nat→List (List D)→Option R):Option R:=
  match av with
  | .arr l=>match hl l with
    | some (.arr e' s' rows)=>bif Nat.beq e' e&&Nat.beq s' s then k l rows else none
    | _=>none
  | _=>none
theorem QH {hl:Nat→Option Ob} {e s:Nat} {av:AV} {k:Nat→List (List D)→Option R} {r:R} (h:prR hl e s av k=some r):∃ l rows,k l rows=some r∧av = .arr l∧hl l=some (.arr e s rows):=by
  unfold prR at h
  split at h
  · rename_i l
    split at h
    · rename_i e' s' rows hh
      obtain ⟨hc,hk⟩:=Xa h
      simp only [Bool.and_eq_true] at hc
      have h1:=Nat.eq_of_beq_eq_true hc.1
      have h2:=Nat.eq_of_beq_eq_true hc.2
      subst h1 h2
      exact ⟨l,rows,hk,rfl,hh⟩
    · cases h
  · cases h
def prF (f:Nat) (av:AV) (k:List AV→Option R):Option R:=
  match av with
  | .fn f' caps=>bif Nat.beq f' f then k caps else none
  | _=>none
theorem Rc {f:Nat} {av:AV} {k:List AV→Option R} {r:R} (h:prF f av k=some r):∃ caps,k caps=some r∧av = .fn f caps:=by
  unfold prF at h
  split at h
  · obtain ⟨hc,hk⟩:=Xa h
    have h1:=Nat.eq_of_beq_eq_true hc
    subst h1
    exact ⟨_,hk,rfl⟩
  · cases h
theorem CLe.data {ρ:List (Nat × Nat)} {c c':AV} (hl:lf c'=true) (h:Q6C c c'):CLe ρ c c':=.inl ⟨hl,h⟩
theorem CLe.own {ρ:List (Nat × Nat)} {c c':AV} (hd:dm ρ c'=true) (h:c=G6 ρ c'):CLe ρ c c':=.inr ⟨hd,h⟩
def QhV (ρ0:List (Nat × Nat)) (hl:Nat→Option Ob) (H:List (Nat × Ob)):List (Nat × Nat)→Prop
  | []=>True
  | (j,l)::r=>(1000000≤j∧∃ o o',hl l=some o∧look H j=some o'∧OLe ρ0 o o')∧QhV ρ0 hl H r
def QhT (H H':List (Nat × Ob)):List (Nat × Nat)→Prop
  | []=>True
  | (j,_)::r=>Qcc (look H j) (look H' j)∧QhT H H' r
theorem Qdc {ρ0:List (Nat × Nat)} {hl:Nat→Option Ob} {H:List (Nat × Ob)}:∀ {ρ:List (Nat × Nat)},QhV ρ0 hl H ρ→∀ j l,(j,l)∈ρ→1000000≤j∧∃ o o',hl l=some o∧look H j=some o'∧OLe ρ0 o o'
  | (a,b)::r,h,j,l,hm=>by
    rcases List.mem_cons.1 hm with hm | hm
    · injection hm with h1 h2;subst h1 h2;exact h.1
    · exact Qdc h.2 j l hm
theorem Qdf {H H':List (Nat × Ob)}:∀ {ρ:List (Nat × Nat)},QhT H H' ρ→∀ j l,(j,l)∈ρ→Qcc (look H j) (look H' j)
  | (a,b)::r,h,j,l,hm=>by
    rcases List.mem_cons.1 hm with hm | hm
    · injection hm with h1 h2;subst h1 h2;exact h.1
    · exact Qdf h.2 j l hm
theorem YI {o o':Option Ob} {c c':List AV} (h1:o=some (.box c)) (h2:o'=some (.box c')) (h3:c'.length=c.length):Qcc o o':=.inl ⟨c,c',h1,h2,h3⟩
theorem Qn {o o':Option Ob} {e s:Nat} {rows:List (List D)} (h1:o=some (.arr e s rows)) (h2:o'=none):Qcc o o':=.inr ⟨e,s,rows,h1,.inl h2⟩
theorem Q2Q {o o':Option Ob} {e s:Nat} {rows rows':List (List D)} (h1:o=some (.arr e s rows)) (h2:o'=some (.arr e s rows')) (h3:rows'.length=rows.length):Qcc o o':=.inr ⟨e,s,rows,h1,.inr ⟨rows',h2,h3⟩⟩
theorem Q62 {f:Nat} {avs:List AV} {hl:Nat→Option Ob} {dl:Dl} {g:Bool} {k:Dl→Option R} {r:R} (h:(bif g then none else k dl)=some r):∃ dl,k dl=some r∧(g=true→QI P f avs hl dl):=by
  cases g with
  | true=>cases h
  | false=>exact ⟨dl,h,fun h=>by cases h⟩
theorem Q7x {α : Type} {K : AV → List (Nat × Ob) → Option α} {res : α} {f : Nat} {fn : Func} (hf : P.funcs[f]? = some fn) (hb : fn.body.isSome = true) (hn : (fn.name == "runtime.NumGoroutine") = false)
    {ρ ν:List (Nat × Nat)} {avs avs':List AV} {H:List (Nat × Ob)} {hl:Nat→Option Ob} {dl:Dl}
    (hav:CLeL ρ avs avs') (h1:Uq ((ρ++ν).map (·.1))=true) (hρ:Uq (ρ.map (·.1))=true)
    (hc:UY hl ρ ν=true) (hin:QhV ρ hl H ρ) (hkeys:H.map (·.1)=ρ.map (·.1)) (hwl:wrL dl=(ρ++ν).map (·.2))
    (h:∀ (β:Nat→Option Nat) (S:Nat→Prop) (w:World) (vs:List Value),Objs β S (look H) w→ArgsRd β S (look H) w vs avs'→Calls P f vs.toArray w (QbJ H K res β S w))
    (hK:∀ av H',K av H'=some res→G6 (ρ++ν) av=dl.v∧K2 (ρ++ν) H' (ρ++ν)=dl.wr∧QhI H' ν∧QhT H H' ρ):QI P f avs hl dl:=by
  simp only [UY,Bool.and_eq_true] at hc
  refine Q15 hf hb hn hav (fun p hp=>List.mem_append_left _ hp) h1 hc.1 hρ (Qdc hin) (Q8m hkeys) (fun j l hm=>?_) hwl h fun av H' hk=>?_
  · rcases List.mem_append.1 hm with hm | hm
    · exact .inl hm
    · exact .inr (QaQ hc.2 j l hm)
  · obtain ⟨q1,q2,q3,q4⟩:=hK av H' hk
    refine ⟨q1,q2,fun j l hm hno=>?_,Qdf q4⟩
    rcases List.mem_append.1 hm with hm | hm
    · exact absurd hm hno
    · exact Qb3 q3 j l hm
theorem Zl {α : Type} {K : AV → List (Nat × Ob) → Option α} {res : α} {C : VC} (hC : VCOk P C) {n f : Nat} {fn : Func} (hf : P.funcs[f]? = some fn) (hb : fn.body.isSome = true) (hn : (fn.name == "runtime.NumGoroutine") = false)
    {ρ ν:List (Nat × Nat)} {avs avs':List AV} {H:List (Nat × Ob)} {hl:Nat→Option Ob} {dl:Dl}
    (hav:CLeL ρ avs avs') (h1:Uq ((ρ++ν).map (·.1))=true) (hρ:Uq (ρ.map (·.1))=true)
    (hc:UY hl ρ ν=true) (hin:QhV ρ hl H ρ) (hkeys:H.map (·.1)=ρ.map (·.1)) (hwl:wrL dl=(ρ++ν).map (·.2))
    (h:vfn C n fn avs' H K=some res)
    (hK:∀ av H',K av H'=some res→G6 (ρ++ν) av=dl.v∧K2 (ρ++ν) H' (ρ++ν)=dl.wr∧QhI H' ν∧QhT H H' ρ):QI P f avs hl dl:=
  Q7x hf hb hn hav h1 hρ hc hin hkeys hwl (fun _ _ _ _ hO hA=>FX hC hf h hO hA) hK
end

section
variable {P:Program}
theorem Qas {M:Nat→Prop} {w w':World} (h:RowKit.Below w.heap.size w w'):Fr M w w':=⟨h.os,h.tape,h.output,h.size,fun b hb _=>h.block b hb⟩
theorem Q2T {β:Nat→Option Nat} {S:Nat→Prop} {h:Nat→Option Ob} {w:World} {args:List Value} {a:AV} (hA:ArgsRd β S h w args [a]):∃ v,args=[v]∧RdA β S h w tm0 v a:=by
  obtain ⟨h1,h2⟩:=hA
  match args,h1 with
  | [v],_=>exact ⟨v,rfl,h2 0 v a rfl rfl⟩
end

end Go.Vx
