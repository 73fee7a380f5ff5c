/- Part of a proof. No conditions of their own. -/
import Derived.Test.YtidplnfkjemokaaGreatTB
import Derived.Sort.Row
import Derived.Sort.Grow
import Derived.Lib.SlicesCompact
set_option linter.unusedVariables false
set_option linter.unusedSimpArgs false
namespace Go.Vx
open Go.Sort
section
variable {P:Program} {R:Type}
def Y0 (zs:List Int):List (List D):=zs.map fun z=>[.int .i64 z]
def Qa6:List (List D)→Option (List Int)
  | []=>some []
  | [.int .i64 n]::r=>match Qa6 r with
    | some l=>some (n::l)
    | none=>none
  | _=>none
theorem Q7s:∀ {rows:List (List D)} {zs:List Int},Qa6 rows=some zs→rows=Y0 zs:=by
  intro rows
  induction rows with
  | nil=>intro s h;simp only [Qa6,Option.some.injEq] at h;subst h;rfl
  | cons x r ih=>
    intro s h
    unfold Qa6 at h
    split at h
    · rename_i h0;cases h0
    · rename_i n r' h0
      injection h0 with e1 e2
      subst e1 e2
      split at h
      · rename_i l hl
        injection h with h
        subst h
        rw [ih hl]
        rfl
      · cases h
    · cases h
def Q1q (zs:List Int):List Int:=zs.mergeSort fun x y=>decide (x≤y)
def DM (zs:List Int):List Int:=Lib.compact zs
theorem Q6G {enc:Int→Value} {w:World} {blk:Nat} {d:Array Int} {cs:Array Value} {e:TypeId} {fz:Nat × Nat} (h:w.heap[blk]? = some (.cells cs e fz)):(putRow enc w blk 0 d).heap[blk]? = some (.cells (putCells enc 0 d cs) e fz):=by
  simp [putRow,mapBlock,Array.getElem?_modify,h,onCells]
theorem AK {enc:Int→Value} {w:World} {blk k:Nat} {d:Array Int} (h:k≠blk):(putRow enc w blk 0 d).heap[k]? = w.heap[k]?:=by
  simp only [putRow,mapBlock,Array.getElem?_modify]
  rw [if_neg (fun e=>h e.symm)]
theorem Q1Y {enc:Int→Value} {off:Nat} {d:Array Int} {cs:Array Value}:(putCells enc off d cs).size=cs.size:=by simp [putCells]
theorem Q5P {enc:Int→Value} {zs:List Int} {cs:Array Value} {i:Nat} {z:Int} (h:zs[i]? = some z) (hc:i<cs.size):(putCells enc 0 zs.toArray cs)[i]? = some (enc z):=by
  have hi:=(List.getElem?_eq_some_iff.1 h).1
  have hz:=(List.getElem?_eq_some_iff.1 h).2
  simp [putCells,hc,hi,hz]
theorem QbV {w:World} {os:Array Obj} {k:Nat} (h:k<w.heap.size):(grow w os).heap[k]? = w.heap[k]?:=by simp [grow,Array.getElem?_append_left h]
theorem Q9a {β:Nat→Option Nat} {S:Nat→Prop} {h:Nat→Option Ob} {w:World} (hO:Objs β S h w) {l T:Nat} {zs:List Int} (h1:h l=some (.arr T 1 (Y0 zs))) {v:Value} (hv:RdA β S h w tm0 v (.arr l)) :
    (v = .slice none 0 0∧β l=none∧zs=[])∨∃ g cap cs,v = .slice (some ⟨g,0,none⟩) zs.length cap∧β l=some g∧w.heap[g]? = some (.cells cs T (0,0))∧cs.size=cap*1∧zs.length≤cap∧cap≤maxLen∧Holds (Value.int .i64) w g 0 zs.toArray:=by
  have hob:=hO.ob l _ h1
  have hlen:(Y0 zs).length=zs.length:=by simp [Y0]
  rcases hv.arr_inv h1 with ⟨hb,hr,rfl⟩ | ⟨b,cap,cs,ty,fz,hb,rfl,hw,hcs,hcap,hmax⟩
  · exact .inl ⟨rfl,hb,by simpa [Y0] using hr⟩
  · rcases hob with ⟨hn,_⟩ | ⟨g',cs',hb',hg',hle,hrow,hcell⟩
    · rw [hb] at hn;cases hn
    · rw [hb] at hb';injection hb' with hb';subst hb'
      rw [hw] at hg';injection hg' with hg';injection hg' with e1 e2 e3
      subst e1 e2 e3
      rw [hlen] at hcap ⊢
      refine .inr ⟨b,cap,cs,rfl,hb,hw,hcs,hcap,hmax,fun j hj=>?_⟩
      simp only [List.size_toArray] at hj
      obtain ⟨u,hu,hr⟩:=hcell j 0 [.int .i64 zs[j]] (.int .i64 zs[j]) (by simp [Y0,hj]) rfl
      rw [Nat.mul_one,Nat.add_zero] at hu
      cases hr
      constructor
      · simp [World.cell?,hw,hu,hj]
      · simp [World.frozen?,hw]
def Qbd (P:Program) (f:Nat):Prop:=
  (∀ (blk off cap:Nat) (zs:List Int) (w:World),Holds (Value.int .i64) w blk off zs.toArray→blk<w.heap.size→zs.length<4611686018427387904 →
    Calls P f #[.slice (some ⟨blk,off,none⟩) zs.length cap] w fun e w'=>e = .returned (.tuple #[])∧∃ n os,w'=grow (putRow (Value.int .i64) (Sort.ahead w n) blk off (zs.mergeSort fun x y=>decide (x≤y)).toArray) os) ∧
  ∀ (p:Option Addr) (cap:Nat) (w:World),Calls P f #[.slice p 0 cap] w fun e w'=>e = .returned (.tuple #[])∧w'=w
theorem Qfd {β:Nat→Option Nat} {S:Nat→Prop} {h:Nat→Option Ob} {w:World} {tm:Nat→Value}:RdA β S h w tm (.tuple #[]) (.tup []):=.tup _ _ rfl fun i x hi=>by simp at hi
theorem QaX {f T : Nat} {fn : Func} (hf : P.funcs[f]? = some fn) (hb : fn.body.isSome = true) (hn : (fn.name == "runtime.NumGoroutine") = false) (hW : Qbd P f) {hl : Nat → Option Ob} {l : Nat} {zs : List Int} (h1 : hl l = some (.arr T 1 (Y0 zs))) (hlen : zs.length < 4611686018427387904) :
    QI P f [.arr l] hl ⟨.tup [],[(l,some (.arr T 1 (Y0 (Q1q zs))))],[l]⟩:=by
  refine ⟨⟨fn,hf,hb,hn⟩,fun β S h w args hO hAr hh=>?_⟩
  have h1':h l=some (.arr T 1 (Y0 zs)):=by rw [hh l (.inl (by simp))];exact h1
  have hlS:(h l).isSome=true:=by rw [h1'];rfl
  obtain ⟨v,rfl,hv⟩:=Q2T hAr
  have hset:∀ k,H7 h [(l,some (Ob.arr T 1 (Y0 (Q1q zs))))] k=if k=l then some (.arr T 1 (Y0 (Q1q zs))) else h k:=fun k=>rfl
  have hmem:∀ k,k∈wrL ⟨.tup [],[(l,some (.arr T 1 (Y0 (Q1q zs))))],[l]⟩↔k=l:=fun k=>by simp [wrL]
  have hsl:(Q1q zs).length=zs.length:=by simp [Q1q]
  have hil:∀ ys:List Int,(Y0 ys).length=ys.length:=fun ys=>by simp [Y0]
  have fin:∀ (w':World),(∀ b,β l=some b→∃ cs cs':Array Value,w.heap[b]? = some (.cells cs T (0,0))∧w'.heap[b]? = some (.cells cs' T (0,0))∧cs'.size=cs.size∧zs.length≤cs.size∧∀ (i:Nat) (z:Int),(Q1q zs)[i]? = some z→cs'[i]? = some (Value.int .i64 z)) →
      (β l=none→zs=[])→Fr (fun b=>β l=some b) w w'→CallOut β S h w ⟨.tup [],[(l,some (.arr T 1 (Y0 (Q1q zs))))],[l]⟩ β S w' (.tuple #[]):=by
    intro w' hblk hnil hfr
    refine ⟨fun _ h=>h,fun _ h=>.inl h,fun x hS=>Nat.lt_of_lt_of_le (hO.sb x hS) hfr.size,hfr.mono fun x _ hx=>⟨l,(hmem l).2 rfl,hlS,hx⟩,fun _ _=>rfl,?_,?_,?_,?_,fun _ _ _ _=>rfl,Qfd,fun t=>rfl⟩
    · intro k o hk ho
      obtain rfl:=(hmem k).1 hk
      rw [show H7 h (Dl.wr ⟨.tup [],[(k,some (.arr T 1 (Y0 (Q1q zs))))],[k]⟩) k=_ from hset k,if_pos rfl] at ho
      injection ho with ho
      subst ho
      cases hb':β k with
      | none=>exact .inl ⟨hb',by rw [hnil hb'];simp [Q1q,Y0]⟩
      | some b=>
        obtain ⟨cs,cs',g1,g2,g3,g4,g5⟩:=hblk b hb'
        refine .inr ⟨b,cs',hb',g2,by rw [hil,hsl,g3];omega,fun i r hi=>?_,fun i j r y hi hj=>?_⟩
        · simp only [Y0,List.getElem?_map,Option.map_eq_some_iff] at hi
          obtain ⟨z,_,rfl⟩:=hi
          rfl
        · simp only [Y0,List.getElem?_map,Option.map_eq_some_iff] at hi
          obtain ⟨z,hz,rfl⟩:=hi
          match j,hj with
          | 0,hj=>
            simp only [List.getElem?_cons_zero,Option.some.injEq] at hj
            subst hj
            exact ⟨_,by simpa using g5 i z hz,.int _ _⟩
    · intro k hk hs
      obtain rfl:=(hmem k).1 hk
      have hsk:H7 h (Dl.wr ⟨.tup [],[(k,some (.arr T 1 (Y0 (Q1q zs))))],[k]⟩) k=_:=(hset k).trans (if_pos rfl)
      refine ⟨rfl,fun h0=>(by rw [h0] at hs;cases hs),fun e s rows hks=>?_,fun b cs ty fz _ hb' hw=>?_⟩
      · rw [h1'] at hks
        injection hks with hks
        injection hks with e1 e2 e3
        subst e1 e2 e3
        exact .inr ⟨_,hsk,by rw [hil,hil,hsl]⟩
      · obtain ⟨cs0,cs',g1,g2,g3,_⟩:=hblk b hb'
        rw [g1] at hw;injection hw with hw;injection hw with e1 e2 e3
        subst e1
        exact ⟨cs',_,_,g2,g3⟩
    · intro k x hk hs hx
      obtain rfl:=(hmem k).1 hk
      exact ⟨.inr ⟨k,hk,hlS,hx⟩,hO.apart k x hlS hx⟩
    · intro k k' x hk hk' _ _ _ _
      rw [(hmem k).1 hk,(hmem k').1 hk']
  rcases Q9a hO h1' hv with ⟨rfl,hbn,rfl⟩ | ⟨g,cap,cs,rfl,hbg,hg,hcs,hcap,hmax,hH⟩
  · refine (hW.2 none 0 w).mono fun e w' ⟨he,hw⟩=>⟨_,β,S,he,?_⟩
    subst hw
    exact fin w' (fun b hb'=>by rw [hbn] at hb';cases hb') (fun _=>rfl) (Fr.refl _ _)
  · have hlt:g<w.heap.size:=(Array.getElem?_eq_some_iff.1 hg).1
    refine (hW.1 g 0 cap zs w hH hlt hlen).mono fun e w' ⟨he,n,os,hw⟩=>⟨_,β,S,he,?_⟩
    subst hw
    have hlt':∀ k,k<w.heap.size→k<(putRow (Value.int .i64) (Sort.ahead w n) g 0 (zs.mergeSort fun x y=>decide (x≤y)).toArray).heap.size:=fun k hk=>by rw [size_putRow];exact hk
    have hg0:(Sort.ahead w n).heap[g]? = some (.cells cs T (0,0)):=hg
    refine fin _ (fun b hb'=>?_) (fun hb'=>by rw [hbg] at hb';cases hb') ⟨rfl,rfl,rfl,by simp only [grow,Array.size_append,size_putRow];exact Nat.le_add_right _ _,fun k hk hM=>?_⟩
    · rw [hbg] at hb';injection hb' with hb';subst hb'
      refine ⟨cs,putCells (Value.int .i64) 0 (Q1q zs).toArray cs,hg,(QbV (hlt' g hlt)).trans (Q6G hg0),Q1Y,by omega,fun i z hz=>Q5P hz ?_⟩
      have:=(List.getElem?_eq_some_iff.1 hz).1
      omega
    · rw [QbV (hlt' k hk),AK (fun e=>hM (by rw [hbg,e]))]
      rfl
def Qgn (T:Nat):XH:=fun _ _ g avs hl k=>match avs with
  | [.gd _ _ .nil]=>bif g then none else k ⟨.top,[],[]⟩
  | [.arr l]=>match hl l with
    | some (.arr e s rows)=>bif Nat.beq e T&&Nat.beq s 1 then gb g (Qa6 rows) [] fun zs=>gb g (R0 (List.length zs)) () fun _=>k ⟨.tup [],[(l,some (.arr T 1 (Y0 (Q1q zs))))],[l]⟩ else none
    | _=>none
  | _=>none
theorem Qex {f T : Nat} {fn : Func} (hf : P.funcs[f]? = some fn) (hb : fn.body.isSome = true) (hn : (fn.name == "runtime.NumGoroutine") = false) (hW : Qbd P f) : Qo P f (Qgn T) := by
  intro R site g avs hl k r h
  unfold Qgn at h
  split at h
  · cases g with
    | true=>cases h
    | false=>exact ⟨_,h,fun hg=>by cases hg⟩
  · rename_i l
    split at h
    · rename_i e s rows hh
      replace h:=Xa h
      obtain ⟨hc,h⟩:=h
      simp only [Bool.and_eq_true] at hc
      have e1:=Nat.eq_of_beq_eq_true hc.1
      have e2:=Nat.eq_of_beq_eq_true hc.2
      subst e1 e2
      replace h:=Qc h
      obtain ⟨zs,h,hz⟩:=h
      replace h:=Qc h
      obtain ⟨_,h,hr⟩:=h
      refine ⟨_,h,fun hg=>?_⟩
      have hz:=Q7s (hz hg)
      subst hz
      have:=FJ (hr hg)
      exact QaX hf hb hn hW hh (by omega)
    · cases h
  · cases h
def Q69 (P:Program) (f:Nat):Prop:=
  (∀ (blk off cap:Nat) (zs:List Int) (w:World),Holds (Value.int .i64) w blk off zs.toArray→zs.length≤9223372036854775807→zs.length≤cap →
    Calls P f #[.slice (some ⟨blk,off,none⟩) zs.length cap] w fun e w'=>e = .returned (.slice (some ⟨blk,off,none⟩) (Lib.compact zs).length cap)∧∃ q,w'=putRow (Value.int .i64) (Sort.ahead w q) blk off (Lib.compact zs++List.replicate (zs.length-(Lib.compact zs).length) 0).toArray) ∧
  ∀ (a:Option Addr) (cap:Nat) (w:World),Calls P f #[.slice a 0 cap] w fun e w'=>e = .returned (.slice a 0 cap)∧w'=w
theorem Qef (zs:List Int):(DM zs).length≤zs.length:=by
  unfold DM Lib.compact Lib.compactUpTo
  rw [List.length_map]
  refine Nat.le_trans (List.length_filter_le ..) ?_
  simp
theorem Q6W {f T : Nat} {fn : Func} (hf : P.funcs[f]? = some fn) (hb : fn.body.isSome = true) (hn : (fn.name == "runtime.NumGoroutine") = false) (hW : Q69 P f) {hl : Nat → Option Ob} {l N : Nat} {zs : List Int} (h1 : hl l = some (.arr T 1 (Y0 zs))) (h3 : hl N = none) (hlen : zs.length ≤ 140737488355328) :
    QI P f [.arr l] hl ⟨.arr N,[(l,none),(N,some (.arr T 1 (Y0 (DM zs))))],[l]⟩:=by
  refine ⟨⟨fn,hf,hb,hn⟩,fun β S h w args hO hAr hh=>?_⟩
  have h1':h l=some (.arr T 1 (Y0 zs)):=by rw [hh l (.inl (by simp))];exact h1
  have h3':h N=none:=by rw [hh N (.inr (by simp [wrL]))];exact h3
  have hlS:(h l).isSome=true:=by rw [h1'];rfl
  have hNl:N≠l:=fun e=>by rw [e,h1'] at h3';cases h3'
  obtain ⟨v,rfl,hv⟩:=Q2T hAr
  have hset:∀ k,H7 h [(l,none),(N,some (Ob.arr T 1 (Y0 (DM zs))))] k=if k=N then some (.arr T 1 (Y0 (DM zs))) else if k=l then none else h k:=fun k=>rfl
  have hmem:∀ k,k∈wrL ⟨.arr N,[(l,none),(N,some (.arr T 1 (Y0 (DM zs))))],[l]⟩↔k=l∨k=N:=fun k=>by simp [wrL]
  have hcl:=Qef zs
  have hil:∀ ys:List Int,(Y0 ys).length=ys.length:=fun ys=>by simp [Y0]
  have fin:∀ (w':World) (v':Value),(∀ b,β l=some b→∃ cap,∃ cs':Array Value,w'.heap[b]? = some (.cells cs' T (0,0))∧cs'.size=cap*1∧zs.length≤cap∧cap≤maxLen∧v' = .slice (some ⟨b,0,none⟩) (DM zs).length cap∧∀ (i:Nat) (z:Int),(DM zs)[i]? = some z→cs'[i]? = some (Value.int .i64 z)) →
      (β l=none→zs=[]∧v' = .slice none 0 0)→Fr (fun b=>β l=some b) w w' →
      CallOut β S h w ⟨.arr N,[(l,none),(N,some (.arr T 1 (Y0 (DM zs))))],[l]⟩ (fun k=>if k=N then β l else β k) S w' v':=by
    intro w' v' hblk hnil hfr
    have hsN:H7 h (Dl.wr ⟨.arr N,[(l,none),(N,some (.arr T 1 (Y0 (DM zs))))],[l]⟩) N=some (.arr T 1 (Y0 (DM zs))):=(hset N).trans (if_pos rfl)
    have hsl:H7 h (Dl.wr ⟨.arr N,[(l,none),(N,some (.arr T 1 (Y0 (DM zs))))],[l]⟩) l=none:=(hset l).trans (by rw [if_neg hNl.symm,if_pos rfl])
    refine ⟨fun _ h=>h,fun _ h=>.inl h,fun x hS=>Nat.lt_of_lt_of_le (hO.sb x hS) hfr.size,hfr.mono fun x _ hx=>⟨l,(hmem l).2 (.inl rfl),hlS,hx⟩,fun k hk=>?_,?_,?_,?_,?_,?_,?_,fun t=>rfl⟩
    · have:k≠N:=fun e=>hk ((hmem k).2 (.inr e))
      simp [this]
    · intro k o hk ho
      rcases (hmem k).1 hk with rfl | rfl
      · rw [hsl] at ho;cases ho
      · rw [hsN] at ho
        injection ho with ho
        subst ho
        cases hb':β l with
        | none=>exact .inl ⟨by simp [hb'],by rw [(hnil hb').1];rfl⟩
        | some b=>
          obtain ⟨cap,cs',g2,g3,g4,g5,g6,g7⟩:=hblk b hb'
          refine .inr ⟨b,cs',by simp [hb'],g2,by rw [hil,g3];omega,fun i r hi=>?_,fun i j r y hi hj=>?_⟩
          · simp only [Y0,List.getElem?_map,Option.map_eq_some_iff] at hi
            obtain ⟨z,_,rfl⟩:=hi
            rfl
          · simp only [Y0,List.getElem?_map,Option.map_eq_some_iff] at hi
            obtain ⟨z,hz,rfl⟩:=hi
            match j,hj with
            | 0,hj=>
              simp only [List.getElem?_cons_zero,Option.some.injEq] at hj
              subst hj
              exact ⟨_,by simpa using g7 i z hz,.int _ _⟩
    · intro k hk hs
      have hkN:k≠N:=fun e=>by rw [e,h3'] at hs;cases hs
      rcases (hmem k).1 hk with rfl | e
      · refine ⟨by simp [hkN],fun h0=>(by rw [h0] at hs;cases hs),fun e s rows hks=>.inl hsl,fun b cs ty fz hs'=>(by rw [hsl] at hs';cases hs')⟩
      · exact absurd e hkN
    · intro k x hk hs hx
      rcases (hmem k).1 hk with rfl | rfl
      · rw [hsl] at hs;cases hs
      · simp only [if_pos] at hx
        exact ⟨.inr ⟨l,(hmem l).2 (.inl rfl),hlS,hx⟩,hO.apart l x hlS hx⟩
    · intro k k' x hk hk' hs hs' _ _
      have key:∀ k,(k=l∨k=N)→(H7 h (Dl.wr ⟨.arr N,[(l,none),(N,some (.arr T 1 (Y0 (DM zs))))],[l]⟩) k).isSome=true→k=N:=by
        intro k h0 hs
        rcases h0 with rfl | h0
        · rw [hsl] at hs;cases hs
        · exact h0
      rw [key k ((hmem k).1 hk) hs,key k' ((hmem k').1 hk') hs']
    · intro k hk h0 hs
      rcases (hmem k).1 hk with rfl | rfl
      · rw [h1'] at h0;cases h0
      · rw [hsN] at hs;cases hs
    · cases hb':β l with
      | none=>
        obtain ⟨h0,hv'⟩:=hnil hb'
        rw [hv']
        exact .arr0 N T 1 (by simp [hb']) (by rw [hsN,h0];rfl)
      | some b=>
        obtain ⟨cap,cs',g2,g3,g4,g5,g6,g7⟩:=hblk b hb'
        rw [g6,← hil (DM zs)]
        exact .arr N b cap T 1 _ cs' T (0,0) (by simp [hb']) hsN g2 g3 (by rw [hil];omega) g5
  rcases Q9a hO h1' hv with ⟨rfl,hbn,rfl⟩ | ⟨g,cap,cs,rfl,hbg,hg,hcs,hcap,hmax,hH⟩
  · refine (hW.2 none 0 w).mono fun e w' ⟨he,hw⟩=>⟨_,fun k=>if k=N then β l else β k,S,he,?_⟩
    subst hw
    exact fin w' _ (fun b hb'=>by rw [hbn] at hb';cases hb') (fun _=>⟨rfl,rfl⟩) (Fr.refl _ _)
  · have hlt:g<w.heap.size:=(Array.getElem?_eq_some_iff.1 hg).1
    refine (hW.1 g 0 cap zs w hH (by omega) hcap).mono fun e w' ⟨he,q,hw⟩=>⟨_,fun k=>if k=N then β l else β k,S,he,?_⟩
    subst hw
    have hg0:(Sort.ahead w q).heap[g]? = some (.cells cs T (0,0)):=hg
    refine fin _ _ (fun b hb'=>?_) (fun hb'=>by rw [hbg] at hb';cases hb') ⟨rfl,rfl,rfl,by rw [size_putRow];exact Nat.le_refl _,fun k hk hM=>?_⟩
    · rw [hbg] at hb';injection hb' with hb';subst hb'
      refine ⟨cap,putCells (Value.int .i64) 0 (DM zs++List.replicate (zs.length-(DM zs).length) 0).toArray cs,Q6G hg0,by rw [Q1Y,hcs],hcap,hmax,rfl,fun i z hz=>Q5P ?_ ?_⟩
      · rw [List.getElem?_append_left (List.getElem?_eq_some_iff.1 hz).1];exact hz
      · have:=(List.getElem?_eq_some_iff.1 hz).1
        omega
    · rw [AK (fun e=>hM (by rw [hbg,e]))]
      rfl
def Q8p (T:Nat):XH:=fun _ site g avs hl k=>match avs with
  | [.gd _ _ .nil]=>bif g then none else k ⟨.top,[],[]⟩
  | [.arr l]=>match hl l with
    | some (.arr e s rows)=>bif Nat.beq e T&&(Nat.beq s 1&&(hl (site+100000)).isNone) then gb g (Qa6 rows) [] fun zs=>gb g (R0 (List.length zs)) () fun _=>k ⟨.arr (site+100000),[(l,none),(site+100000,some (.arr T 1 (Y0 (DM zs))))],[l]⟩ else none
    | _=>none
  | _=>none
theorem Qaz {f T : Nat} {fn : Func} (hf : P.funcs[f]? = some fn) (hb : fn.body.isSome = true) (hn : (fn.name == "runtime.NumGoroutine") = false) (hW : Q69 P f) : Qo P f (Q8p T) := by
  intro R site g avs hl k r h
  unfold Q8p at h
  split at h
  · cases g with
    | true=>cases h
    | false=>exact ⟨_,h,fun hg=>by cases hg⟩
  · rename_i l
    split at h
    · rename_i e s rows hh
      replace h:=Xa h
      obtain ⟨hc,h⟩:=h
      simp only [Bool.and_eq_true] at hc
      have e1:=Nat.eq_of_beq_eq_true hc.1
      have e2:=Nat.eq_of_beq_eq_true hc.2.1
      have e3:=Option.isNone_iff_eq_none.1 hc.2.2
      subst e1 e2
      replace h:=Qc h
      obtain ⟨zs,h,hz⟩:=h
      replace h:=Qc h
      obtain ⟨_,h,hr⟩:=h
      refine ⟨_,h,fun hg=>?_⟩
      have hz:=Q7s (hz hg)
      subst hz
      exact Q6W hf hb hn hW hh e3 (FJ (hr hg))
    · cases h
  · cases h
end
end Go.Vx
namespace Go.Vx
section
variable {P:Program} {E:Env} {R:Type}
structure Off (β:Nat→Option Nat) (S:Nat→Prop) (h:Nat→Option Ob) (w:World) (Hd:Nat→Prop):Prop where
  lt:∀ b,Hd b→b<w.heap.size
  nS:∀ b,Hd b→¬ S b
  nO:∀ b,Hd b→∀ l,(h l).isSome=true→β l≠some b
def Q8I (β:Nat→Option Nat) (S:Nat→Prop) (h:Nat→Option Ob) (w:World):Env:=⟨w,fun b=>∃ l,(h l).isSome=true∧β l=some b,S,β⟩
theorem Rel.anew {β:Nat→Option Nat} {S:Nat→Prop} {st:St} {a:Act} {w:World} (hR:Rel E β S st a w):Rel (Q8I β S (look st.h) w) β S st a w:=
  ⟨hR.n,hR.dfr,hR.tm,⟨hR.hr.ob,hR.hr.inj,hR.hr.apart,fun l b h1 h2=>.inl ⟨l,h1,h2⟩,hR.hr.sb,fun b h=>.inl h,fun b h=>h,Fr.refl _ _,fun _ _=>rfl,fun _ _ _ _ _ cs ty fz hw=>⟨cs,ty,fz,hw,rfl⟩⟩⟩
theorem Rel.back {β β':Nat→Option Nat} {S S':Nat→Prop} {st st':St} {a a':Act} {w w':World} (hR:Rel E β S st a w) (h:Rel (Q8I β S (look st.h) w) β' S' st' a' w') (hp:∀ l,1000000≤l→(look st'.h l).isSome=true→(look st.h l).isSome=true):Rel E β' S' st' a' w':=by
  have hown:∀ b,(∃ l,(look st.h l).isSome=true∧β l=some b)→E.M b∨E.w0.heap.size≤b:=fun b ⟨l,h1,h2⟩=>hR.hr.own l b h1 h2
  have hsz:=hR.hr.fr.size
  refine ⟨h.n,h.dfr,h.tm,⟨h.hr.ob,h.hr.inj,h.hr.apart,fun l b h1 h2=>?_,h.hr.sb,fun b hb=>?_,fun b hb=>h.hr.s0 b (hR.hr.s0 b hb),?_,fun l hl=>(h.hr.pin l hl).trans (hR.hr.pin l hl),fun l b hl hs hb cs ty fz hw=>?_⟩⟩
  · rcases h.hr.own l b h1 h2 with h3 | h3
    · exact hown b h3
    · exact .inr (Nat.le_trans hsz h3)
  · rcases h.hr.sfr b hb with h3 | h3 | h3
    · exact hR.hr.sfr b h3
    · exact .inr (hown b h3)
    · exact .inr (.inr (Nat.le_trans hsz h3))
  · have f1:=hR.hr.fr
    have f2:=h.hr.fr
    refine ⟨f2.os.trans f1.os,f2.tape.trans f1.tape,f2.output.trans f1.output,Nat.le_trans f1.size f2.size,fun b hb hM=>(f2.block b (Nat.lt_of_lt_of_le hb f1.size) (fun hm=>?_)).trans (f1.block b hb hM)⟩
    rcases hown b hm with h3 | h3
    · exact hM h3
    · omega
  · have hb0:β l=some b:=(h.hr.pin l hl).symm.trans hb
    obtain ⟨cs1,ty1,fz1,g1,g2⟩:=hR.hr.psz l b hl (hp l hl hs) hb0 cs ty fz hw
    obtain ⟨cs2,ty2,fz2,g3,g4⟩:=h.hr.psz l b hl hs hb cs1 ty1 fz1 g1
    exact ⟨cs2,ty2,fz2,g3,g4.trans g2⟩
theorem Off.keep {β β':Nat→Option Nat} {S S':Nat→Prop} {st st':St} {a':Act} {w w':World} {Hd:Nat→Prop} (hO:Off β S (look st.h) w Hd) (h:Rel (Q8I β S (look st.h) w) β' S' st' a' w') :
    Off β' S' (look st'.h) w' Hd∧∀ b,Hd b→w'.heap[b]? = w.heap[b]?:=by
  have hn:∀ b,Hd b→¬ ∃ l,(look st.h l).isSome=true∧β l=some b:=fun b hb ⟨l,h1,h2⟩=>hO.nO b hb l h1 h2
  refine ⟨⟨fun b hb=>Nat.lt_of_lt_of_le (hO.lt b hb) h.hr.fr.size,fun b hb hS=>?_,fun b hb l h1 h2=>?_⟩,fun b hb=>h.hr.fr.block b (hO.lt b hb) (hn b hb)⟩
  · rcases h.hr.sfr b hS with h3 | h3 | h3
    · exact hO.nS b hb h3
    · exact hn b hb h3
    · have:=hO.lt b hb
      have h3:w.heap.size≤b:=h3
      omega
  · rcases h.hr.own l b h1 h2 with h3 | h3
    · exact hn b hb h3
    · have:=hO.lt b hb
      have h3:w.heap.size≤b:=h3
      omega
theorem QcW {C:VC} (hC:VCOk P C) {n:Nat} {c:Code} {st:St} {k:Exit→St→Option R} {r:R} (h:Qi C n c st k=some r) {β:Nat→Option Nat} {S:Nat→Prop} {a:Act} {w:World} (hR:Rel E β S st a w) {Hd:Nat→Prop} (hO:Off β S (look st.h) w Hd)
    (hp:∀ e st',k e st'=some r→∀ l,1000000≤l→(look st'.h l).isSome=true→(look st.h l).isSome=true) :
    c.wp P (fun e a' w'=>∃ st' β' S',Rel E β' S' st' a' w'∧k e st'=some r∧Off β' S' (look st'.h) w' Hd∧(∀ b,Hd b→w'.heap[b]? = w.heap[b]?)∧Fr (fun b=>∃ l,(look st.h l).isSome=true∧β l=some b) w w') a w:=by
  refine wp_mono (Q0E (E:=Q8I β S (look st.h) w) hC n c st k r h a w ⟨β,S,hR.anew⟩) fun e a' w' ⟨st',⟨β',S',hR'⟩,hk⟩=>?_
  obtain ⟨h1,h2⟩:=hO.keep hR'
  exact ⟨st',β',S',hR.back hR' (hp e st' hk),hk,h1,h2,hR'.hr.fr⟩
theorem Qe2 {β:Nat→Option Nat} {S:Nat→Prop} {st:St} {a a':Act} {w w':World} {Hd:Nat→Prop} (hR:Rel E β S st a w) (hO:Off β S (look st.h) w Hd) (hnew:∀ b,Hd b→E.M b∨E.w0.heap.size≤b)
    (hn:a'.tmps.size=a.tmps.size) (hd:a'.defers=a.defers) (ht:∀ t av,look st.tm t=some av→tmv a' t=tmv a t∧∀ t',gds t' av=true→tmv a' t'=tmv a t')
    (hos:w'.os=w.os) (htape:w'.tape=w.tape) (hout:w'.output=w.output) (hsz:w.heap.size≤w'.heap.size) (hblk:∀ k,k<w.heap.size→¬ Hd k→w'.heap[k]? = w.heap[k]?):Rel E β S st a' w':=by
  have hSw:∀ b,S b→w'.heap[b]? = w.heap[b]?:=fun b hS=>hblk b (hR.hr.sb b hS) (fun h=>hO.nS b h hS)
  have hob:∀ l b,(look st.h l).isSome=true→β l=some b→w'.heap[b]? = w.heap[b]?:=fun l b hs hb=>hblk b (NL hR hs hb) (fun h=>hO.nO b h l hs hb)
  have h1:=hR.upd (w':=w') (β':=β) (S':=S) (H':=st.h) (fun _ h=>h) hSw (fun _=>False) (fun l _=>⟨rfl,rfl,fun b hs hb=>hob l b hs hb⟩) (fun l h=>h.elim) (fun l o h=>h.elim) hR.hr.inj hR.hr.apart hR.hr.own (fun b hS=>Nat.lt_of_lt_of_le (hR.hr.sb b hS) hsz) hR.hr.sfr (by
    have fr:=hR.hr.fr
    refine ⟨hos.trans fr.os,htape.trans fr.tape,hout.trans fr.output,Nat.le_trans fr.size hsz,fun b hb hM=>(hblk b (Nat.lt_of_lt_of_le hb fr.size) (fun h=>?_)).trans (fr.block b hb hM)⟩
    rcases hnew b h with h2 | h2
    · exact hM h2
    · omega)
  refine ⟨hn.trans h1.n,hd.trans h1.dfr,fun t av hl=>?_,h1.hr⟩
  obtain ⟨g1,g2⟩:=ht t av hl
  rw [g1]
  exact (h1.tm t av hl).mono (fun _ h=>h) (fun _ _=>rfl) (fun l _=>Keep.rfl_ ..) g2
theorem QeJ {ops:Array Oper} (hedge:SD ops.toList 0=true) {Q:Exit→Act→World→Prop} {J:Array Bool→Act→World→Prop}
    (hstep:∀ (listed:Array Bool) (a:Act) (w:World) (i:Nat) (o:Oper),listed.size=ops.size→Q3O ops.toList listed→J listed a w→ops[i]? = some o→¬ Lst listed i→Q9Y listed o.after.toList→wpOp P ops Q i (fun a' w'=>J (listed.setIfInBounds i true) a' w') a w)
    (hfin:∀ (listed:Array Bool) (a:Act) (w:World),J listed a w→(∀ i,i<ops.size→Lst listed i)→Q .normal a w) :
    ∀ (fuel:Nat) (listed:Array Bool) (a:Act) (w:World),listed.size=ops.size→Q3O ops.toList listed→(List.range ops.size).countP (fun i=>!listed.getD i false)≤fuel→J listed a w→wpAny P .any ops Q fuel listed a w:=by
  have hall:∀ listed:Array Bool,listed.size=ops.size→Region.ready .any ops listed=[]→∀ i,i<ops.size→Lst listed i:=by
    intro listed hsz hr i
    induction i using Nat.strongRecOn with
    | ind i ih=>
      intro hi
      by_cases hl:Lst listed i
      · exact hl
      · exfalso
        have ho:=Array.getElem?_eq_getElem hi
        have:i∈Region.ready .any ops listed:=(E8 hsz).2 ⟨_,ho,hl,fun e he hb=>ih e.on (by
          have:=NA i _ e he hb 0 hedge (by rw [Array.getElem?_toList];exact ho);omega) (by
          have:=NA i _ e he hb 0 hedge (by rw [Array.getElem?_toList];exact ho);omega)⟩
        rw [hr] at this
        simp at this
  intro fuel
  induction fuel with
  | zero=>
    intro listed a w hsz hcl hcnt hJ
    have hl:∀ i,i<ops.size→Lst listed i:=by
      intro i hi
      have h0:(List.range ops.size).countP (fun i=>!listed.getD i false)=0:=by omega
      rw [List.countP_eq_zero] at h0
      have:=h0 i (by simpa using hi)
      simpa [Lst] using this
    refine ⟨?_,hfin listed a w hJ hl⟩
    cases hr:Region.ready .any ops listed with
    | nil=>rfl
    | cons x xs=>
      exfalso
      obtain ⟨o,ho,hn,_⟩:=(E8 hsz).1 (by rw [hr];simp:x∈Region.ready .any ops listed)
      exact hn (hl x (Array.getElem?_eq_some_iff.1 ho).1)
  | succ fuel ih=>
    intro listed a w hsz hcl hcnt hJ
    refine ⟨fun hr=>hfin listed a w hJ (hall listed hsz hr),fun i hi=>?_⟩
    obtain ⟨o,ho,hni,hpi⟩:=(E8 hsz).1 hi
    have hilt:=(Array.getElem?_eq_some_iff.1 ho).1
    have hisz:i<listed.size:=by omega
    refine wpOp_mono (fun a' w' hJ'=>ih _ a' w' (by simpa using hsz) ?_ ?_ hJ') (hstep listed a w i o hsz hcl hJ ho hni hpi)
    · intro j oj hoj hl e he hb
      rw [Nk hisz] at hl ⊢
      rcases hl with rfl | hl
      · have:oj=o:=by
          have:ops[j]? = some oj:=by simpa using hoj
          rw [ho] at this;injection this with this;exact this.symm
        subst this
        exact .inr (hpi e he hb)
      · exact .inr (hcl j oj hoj hl e he hb)
    · have:(List.range ops.size).countP (fun j=>!(listed.setIfInBounds i true).getD j false)<(List.range ops.size).countP (fun j=>!listed.getD j false):=by
        refine Q5i (i:=i) (by simpa using hilt) (fun x _ hx=>?_) ?_ ?_
        · cases hl:listed.getD x false with
          | false=>rfl
          | true=>
            have:Lst (listed.setIfInBounds i true) x:=(Nk hisz).2 (.inr hl)
            simp only [Lst] at this
            rw [this] at hx;cases hx
        · cases hl:listed.getD i false with
          | false=>rfl
          | true=>exact absurd hl hni
        · have:Lst (listed.setIfInBounds i true) i:=(Nk hisz).2 (.inl rfl)
          simp only [Lst] at this
          rw [this];rfl
      omega
theorem QcJ {ops:Array Oper} {id:Nat} (hm:P.follows .mixedOrders=true) (hedge:SD ops.toList 0=true) {Q:Exit→Act→World→Prop} {J:Array Bool→Act→World→Prop}
    (hstep:∀ (listed:Array Bool) (a:Act) (w:World) (i:Nat) (o:Oper),listed.size=ops.size→Q3O ops.toList listed→J listed a w→ops[i]? = some o→¬ Lst listed i→Q9Y listed o.after.toList→wpOp P ops Q i (fun a' w'=>J (listed.setIfInBounds i true) a' w') a w)
    (hfin:∀ (listed:Array Bool) (a:Act) (w:World),J listed a w→(∀ i,i<ops.size→Lst listed i)→Q .normal a w) {a:Act} {w:World} (h0:J (Array.replicate ops.size false) a { w with drawn:=w.drawn+1 }):(Code.region id ops true).wp P Q a w:=by
  refine wp_region_any hm (QeJ hedge hstep hfin ops.size _ a _ (by simp) ?_ ?_ h0)
  · intro j o _ hl
    exfalso
    unfold Lst at hl
    simp [Array.getD] at hl
  · refine Nat.le_trans List.countP_le_length ?_
    simp
def QhB (l:Nat):Ob→Bool
  | .box cells=>KO l cells
  | .arr ..=>false
theorem Rel.sub {β:Nat→Option Nat} {S:Nat→Prop} {st st2:St} {a:Act} {w:World} (hR:Rel E β S st a w) (hn:st2.n=st.n)
    (ht:∀ t av,look st2.tm t=some av→look st.tm t=some av∧∀ l,U2 l av=true→look st2.h l=look st.h l)
    (hh:∀ l o,look st2.h l=some o→look st.h l=some o∧∀ m,QhB m o=true→look st2.h m=look st.h m):Rel E β S st2 a w:=by
  have hk:∀ l,look st2.h l=look st.h l→Keep β (look st.h) w β (look st2.h) w l:=fun l h=>⟨rfl,fun h0=>h.trans h0,fun e s rows h0=>.inr ⟨rows,h.trans h0,rfl⟩,fun b cs ty fz _ _ hw=>⟨cs,ty,fz,hw,rfl⟩⟩
  have hs:∀ l,(look st2.h l).isSome=true→(look st.h l).isSome=true:=fun l h=>by
    obtain ⟨o,ho⟩:=Option.isSome_iff_exists.1 h
    rw [(hh l o ho).1];rfl
  refine ⟨hR.n.trans hn.symm,hR.dfr,fun t av hl=>?_,⟨fun l o ho=>?_,fun l l' b h1 h2=>hR.hr.inj l l' b (hs l h1) (hs l' h2),fun l b h1=>hR.hr.apart l b (hs l h1),fun l b h1=>hR.hr.own l b (hs l h1),hR.hr.sb,hR.hr.sfr,hR.hr.s0,hR.hr.fr,hR.hr.pin,fun l b hl h1=>hR.hr.psz l b hl (hs l h1)⟩⟩
  · obtain ⟨g1,g2⟩:=ht t av hl
    exact (hR.tm t av g1).mono (fun _ h=>h) (fun _ _=>rfl) (fun l hl'=>hk l (g2 l hl')) (fun _ _=>rfl)
  · obtain ⟨g1,g2⟩:=hh l o ho
    have hob:=hR.hr.ob l o g1
    cases o with
    | arr e s rows=>exact hob
    | box cells=>
      obtain ⟨b,ty,cs,fz,h1,h2,h3,h4,h5⟩:=hob
      exact ⟨b,ty,cs,fz,h1,h2,h3,h4,fun i x hx=>(h5 i x hx).mono (fun _ h=>h) (fun _ _=>rfl) (fun m hm=>hk m (g2 m (E0 hx hm))) (fun _ _=>rfl)⟩
theorem Q6w {spec:Q9K} {tt:TT} (hS:Q1P P spec) (hT:TOk P tt) {ops:Array Oper} {R:Type}:∀ (l:List Oper) (i:Nat) (st:St) (acc:List Rec) (k:St→List Rec→Option R) (r:R),(∀ j,j<l.length→l[j]? = ops[i+j]?) →
    Qev spec tt ops l st acc k=some r→∃ recs st',recs.length=l.length∧k st' (acc++recs)=some r∧Mq P E ops i st recs st'
  | [],i,st,acc,k,r,_,h=>⟨[],st,rfl,by simpa [Qev] using h,rfl⟩
  | o::l,i,st,acc,k,r,hl,h=>by
    have h0:ops[i]? = some o:=by simpa using (hl 0 (by simp)).symm
    simp only [Qev] at h
    obtain ⟨rc,h,hd,hs,hstep⟩:=Q5V (E:=E) hS hT h0 h
    obtain ⟨recs,st',h1,h2,h3⟩:=Q6w hS hT l (i+1) _ _ k r (fun j hj=>by have:=hl (j+1) (by simp;omega);simpa [Nat.add_assoc,Nat.add_comm 1 j] using this) h
    exact ⟨rc::recs,st',by simp [h1],by simpa using h2,⟨o,h0,hd⟩,hs,hstep,h3⟩
theorem Mq.append {ops:Array Oper}:∀ {r1 r2:List Rec} {i:Nat} {st st1 st2:St},Mq P E ops i st r1 st1→Mq P E ops (i+r1.length) st1 r2 st2→Mq P E ops i st (r1++r2) st2
  | [],r2,i,st,st1,st2,h1,h2=>by simp only [Mq] at h1;subst h1;simpa using h2
  | rc::r1,r2,i,st,st1,st2,h1,h2=>by
    obtain ⟨a,b,c,d⟩:=h1
    exact ⟨a,b,c,Mq.append d (by rw [show i+1+r1.length=i+(rc::r1).length by simp;omega];exact h2)⟩
theorem Mq.one {ops:Array Oper} {i:Nat} {st:St} {o:Oper} (ho:ops[i]? = some o) (hg:o.guard=none) {dl:Dl} (hgood:Re P E o (evO st.tm) (look st.h) dl) (hs:Q7R st ⟨MV o.op.operands.toList++[],o.dst,dl⟩) :
    Mq P E ops i st [⟨MV o.op.operands.toList++[],o.dst,dl⟩] (put st o.dst dl):=
  ⟨⟨o,ho,rfl⟩,hs,Q3b ho hg hgood,rfl⟩
theorem Q8s {ops:Array Oper} {id:Nat} {st st':St} {recs:List Rec} (hrun:Mq P E ops 0 st recs st') (hlen:recs.length=ops.size) {a:Act} {w:World} (hR:Eh E st a w) {Q:Exit→Act→World→Prop} (hQ:∀ a' w',Eh E st' a' w'→Q .normal a' w') :
    (Code.region id ops false).wp P Q a w:=by
  refine wp_region ?_
  have:=QaF hQ recs 0 st a w hrun hR
  rw [hlen] at this
  rw [List.range_eq_range']
  exact this
end
end Go.Vx
