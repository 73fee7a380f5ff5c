/- Part of a proof. No conditions of their own. -/
import Derived.Test.YtfgfecgjcggccaaGreatTF
import Derived.Test.YtfgfecgjcggccaaGreatTC
import Derived.Test.YtfgfecgjcggccaaGreatTD
import Derived.Test.YtfgfecgjcggccaaGreatTB
import Derived.Laws.CopyOwn
import Derived.Deep.OwnRows
import Derived.Deep.RegionLaw
import Derived.Carry
import Derived.Test.YtfgfecgjcggccaaGreatProg
import Derived.Test.YtfgfecgjcggccaaGreatTE
set_option linter.unusedVariables false
set_option linter.unusedSimpArgs false
abbrev QeW:=@List.getElem?_eq_some_iff
abbrev QeX:=@Option.bind_eq_some_iff
abbrev QeY:=@List.take_of_length_le
abbrev QeZ:=@Bool.and_eq_true
abbrev Qf0:=@List.nil_append
set_option maxRecDepth 100000
namespace Go.Vx
open Go.Proofs
noncomputable def Yl (n:Nat):VB:=X5 [⟨136,YK n⟩] [cO 0 [0,1] [1000000],cO 1 [4] [1000000]]
noncomputable def Yn (n:Nat):EnP Tryz.prog 100:=mkG (Yl n).ok nT 100 Tryz.f100 [sL 4,eF 101 1,eP 1000000 4,sT,sI,sI,sL 4] [sB,eI 1000000 4,sT,sI,sI,sL 4] [] (pK (Qm n))
noncomputable def Ce (n:Nat):VB:=X5 [] [cK 0 [0],cK 1 [2]]
noncomputable def NS (n:Nat):EnP Tryz.prog 102:=mkE (Ce n).ok nT 102 Tryz.f102 [[0]] [sI] [sB] (pK (K9 n))

noncomputable def DF (n:Nat):VB:=X5 [] [cO 0 [1,2,3] [3],cK 1 [6]]
noncomputable def TG (n:Nat):EnP Tryz.prog 105:=mkE (DF n).ok nT 105 Tryz.f105 [[0]] [eA [qI,qL 5,qL 2,qL 4,qL 7,qL 4,qL 5,qL 3],sI,sI] [sB] (pK (JC n))

end Go.Vx
namespace Go.Vx
variable {R:Type}
def PE (n:Nat) (a0 a1:Int) (K:Int->Int->oP R):oP R:= gb true (EO 32) () fun a=>K (IntKind.wrap .u32 (shR .u64 (IntKind.wrap .u64 ((IntKind.wrap .u64 a0)*(IntKind.wrap .u64 a1))) 32)) (IntKind.wrap .u32 (IntKind.wrap .u64 ((IntKind.wrap .u64 a0)*(IntKind.wrap .u64 a1))))
def Kf (n:Nat) (a0 a1:Int) (K:Int->Int->oP R):oP R:= gb true (EO 32) () fun a=>gb true (EO 32) () fun b=>gb true (EO 32) () fun c=>gb true (EO 32) () fun d=>gb true (EO 32) () fun e=>K (IntKind.wrap .u64 ((IntKind.wrap .u64 ((IntKind.wrap .u64 ((shR .u64 a0 32)*(shR .u64 a1 32)))+(shR .u64 (IntKind.wrap .u64 ((IntKind.wrap .u64 ((shR .u64 a0 32)*(Q3f .u64 a1 4294967295)))+(shR .u64 (IntKind.wrap .u64 ((Q3f .u64 a0 4294967295)*(Q3f .u64 a1 4294967295))) 32))) 32)))+(shR .u64 (IntKind.wrap .u64 ((Q3f .u64 (IntKind.wrap .u64 ((IntKind.wrap .u64 ((shR .u64 a0 32)*(Q3f .u64 a1 4294967295)))+(shR .u64 (IntKind.wrap .u64 ((Q3f .u64 a0 4294967295)*(Q3f .u64 a1 4294967295))) 32))) 4294967295)+(IntKind.wrap .u64 ((Q3f .u64 a0 4294967295)*(shR .u64 a1 32))))) 32))) (IntKind.wrap .u64 (a0*a1))

def GW (n:Nat) (a0 a1:Int) (K:Int->Int->oP R):oP R:= bif false then gb true (PE n (IntKind.wrap .u32 a0) (IntKind.wrap .u32 a1) Tu2) (0,0) fun a=>K (IntKind.wrap .u64 a.1) (IntKind.wrap .u64 a.2) else gb true (Kf n a0 a1 Tu2) (0,0) fun c=>K c.1 c.2

end Go.Vx
set_option maxRecDepth 100000
namespace Go.Vx
open Go.Proofs
noncomputable def Nk (n:Nat):VB:=X5 [] [cK 0 [0,1],cK 1 [6],cK 2 [4,5]]
noncomputable def L4 (n:Nat):EnP Tryz.prog 198:=mkE (Nk n).ok nT 198 Tryz.f198 [[0],[0]] [eD (.i .u32),eD (.i .u32)] [eT 2,eD (.i .u32),eD (.i .u32)] (pK (PE n))
noncomputable def NF (n:Nat):VB:=X5 [] [cK 0 [0,1],cK 1 [0,1,6],cK 2 [0,1,6,7],cK 3 [0,1,6,7,8],cK 4 [0,1,6,7,8,9],cK 5 [0,1,6,7,8,9,10],cK 6 [0,1,6,7,9,11],cK 7 [0,1,6,7,9,11,12],cK 8 [0,1,6,7,9,12,13],cK 9 [0,1,7,9,12,13],cK 10 [0,1,4],cK 11 [4,5]]
noncomputable def MD (n:Nat):EnP Tryz.prog 199:=mkE (NF n).ok nT 199 Tryz.f199 [[0],[0]] [eD (.i .u64),eD (.i .u64)] [eT 2,eD (.i .u64),eD (.i .u64)] (pK (Kf n))

noncomputable def F2 (n:Nat):VB:=X5 [⟨198,L4 n⟩,⟨199,MD n⟩] [cK 0 [0,1],cK 1 [6,7],cK 2 [4,5],cK 3 [8,9],cK 4 [4,5]]
noncomputable def Po (n:Nat):EnP Tryz.prog 191:=mkE (F2 n).ok nT 191 Tryz.f191 [[0],[0]] [eD (.i .u64),eD (.i .u64)] [eT 2,eD (.i .u64),eD (.i .u64)] (pK (GW n))

end Go.Vx
namespace Go.Vx
open Go.Proofs Go.RowKit
section
variable {P:Program}
theorem B0 (w:World) (dT sT ty ak:TypeId) (g o am aq k:Nat) (a:Addr) (ao au:Nat) (an:Array Value) (t:TypeId) (cs:List Value)
  (hu:P.underlying dT=some (.slice ak)) (hs:(P.info? ak).map (·.size)=some k)
  (hg:w.heap[g]? = some (.cells an t (0,0))) (hn:cs.length=Nat.min ao am*k)
  (aw:∀ j v,cs[j]? = some v->w.cell? (a.add j)=some v) (ar:o+cs.length<=an.size) (b:∀ v∈cs,v.oneCell'=true) :
  (Builtin.copy_ #[dT,sT] ty #[.slice (some ⟨g,o,none⟩) am aq,.slice (some a) ao au]).run P w =
   .ok (goInt (Nat.min ao am)) (w.setRow g (an.toList.take o++cs++an.toList.drop (o+cs.length)).toArray):=by
 have hl:=run_loadCells_list (P:=P) w a cs aw;have ax:=run_storeCells_at P g o t cs 0 an w hg (by simpa using ar) b;cases hq:P.info? ak with
 |none=>simp [hq] at hs
 |some i=>
  have hi:i.size=k:=by simpa [hq] using hs
  simp [Builtin.copy_,run_underlying hu,Builtin.lenOf,Builtin.firstCells,sizeOf,typeInfo,hq,hi,<- hn,hl,ax]
theorem Q0S (w:World) (dT sT ty ak:TypeId) (g o am aq k:Nat) (a:Addr) (an ar:Nat) (ao:Array Value) (t:TypeId) (cs:List Value) (m:Nat)
  (hu:P.underlying dT=some (.slice ak)) (hs:(P.info? ak).map (·.size)=some k)
  (hg:w.heap[g]? = some (.cells ao t (0,0))) (hm:Nat.min an am=m) (hn:cs.length=m*k)
  (aw:∀ j v,cs[j]? = some v->w.cell? (a.add j)=some v) (au:o+cs.length<=ao.size) (c:∀ v∈cs,v.oneCell'=true) :
  ∃ w',(Builtin.copy_ #[dT,sT] ty #[.slice (some ⟨g,o,none⟩) am aq,.slice (some a) an ar]).run P w = .ok (.int .i64 (m:Int)) w' /\
   w'.heap[g]? = some (.cells (splice ao.toList o cs).toArray t (0,0))/\(∀ n,n<=g->∀ w0:World,Below n w0 w->Below n w0 w'):=by
 subst hm;refine ⟨_,B0 w dT sT ty ak g o am aq k a an ar ao t cs hu hs hg hn aw au c,by simpa [splice] using setRow_heap w g _ _ t _ hg,fun n hn w0 h=>⟨h.os,h.tape,h.output,by simpa [World.setRow] using h.size,fun b hb=>(setRow_other w g b _ (by omega)).trans (h.block b hb)⟩⟩
theorem DH {w:World} {au:Array Oper} {o:Oper} {a:Act} {K:Act->World->Prop} {Q:Exit->Act->World->Prop} {E:Prop} (a6:o.guard=none) (d s:Operand) (dT sT:TypeId)
  (ho:o.op = .call { callee:=.builtin .copy,args:=#[d,s],argTypes:=#[dT,sT] }) (ak:TypeId) (k:Nat) (hu:P.underlying dT=some (.slice ak)) (a7:(P.info? ak).map (·.size)=some k)
  (g off am aq:Nat) (ad:Addr) (an ar:Nat) (hd:a.eval d = .slice (some ⟨g,off,none⟩) am aq) (hs:a.eval s = .slice (some ad) an ar)
  (ao:Array Value) (t:TypeId) (hg:w.heap[g]? = some (.cells ao t (0,0))) (cs:List Value) (m:Nat) (hm:Nat.min an am=m) (hn:cs.length=m*k)
  (ay:∀ j v,cs[j]? = some v->w.cell? (ad.add j)=some v) (aw:off+cs.length<=ao.size) (b:∀ v∈cs,v.oneCell'=true)
  (h:∀ w',w'.heap[g]? = some (.cells (splice ao.toList off cs).toArray t (0,0))->(∀ n,n<=g->∀ w0:World,Below n w0 w->Below n w0 w')->K (a.put o.dst (.int .i64 (m:Int))) w') :
  if Region.wanted o (yielded au a.tmps)=true then Oper.wp P o a w K Q else E:=by
 have hw:Region.wanted o (yielded au a.tmps)=true:=by simp [Region.wanted,a6]
 rw [if_pos hw];obtain ⟨w',ax,h2,c⟩:=Q0S (P:=P) w dT sT o.type ak g off am aq k ad an ar ao t cs m hu a7 hg hm hn ay aw b;unfold Oper.wp;simp [execOp,ho,resolve,invoke,builtin,hd,hs,ax,Result.andThen];exact h w' h2 c
end
def SQ (a b:Value):Nat->List Value
 |0=>[]
 |m+1=>a::b::SQ a b m
theorem WA (a b:Value):∀ m,(SQ a b m).length=m*2
 |0=>rfl
 |m+1=>by simp [SQ,WA a b m];omega
theorem Bh (a b:Value) (k:Nat):∀ m,SQ a b (m+k)=SQ a b m++SQ a b k
 |0=>by simp [SQ]
 |m+1=>by rw [show m+1+k=(m+k)+1 by omega];simp [SQ,Bh a b k m]
theorem Q5p (a b:Value) {m k:Nat} (h:m<=k):(SQ a b k).take (m*2)=SQ a b m:=by
 obtain ⟨d,rfl⟩:=Nat.exists_eq_add_of_le h;rw [Bh,List.take_append_of_le_length (by rw [WA];omega),QeY (by rw [WA];omega)]
theorem B6 {a b:Value}:∀ {m:Nat} {v:Value},v∈SQ a b m->v=a\/v=b
 |m+1,v,h=>by
  simp only [SQ,List.mem_cons] at h;rcases h with h | h | h
  ·exact .inl h
  ·exact .inr h
  ·exact B6 h
theorem Q5N (a b:Value):∀ (m i:Nat),i<m->(SQ a b m)[i*2]? = some a/\(SQ a b m)[i*2+1]? = some b
 |m+1,0,h=>by simp [SQ]
 |m+1,i+1,h=>by
  have:=Q5N a b m i (by omega);rw [show (i+1)*2=i*2+1+1 by omega];simpa [SQ] using this
theorem mul_one (c:Nat) (hc:c<=100000):GW 0 1 (c:Int) (fun a b=>some (a,b))=some (0,(c:Int)):=by
 have d:shR .u64 1 (32:Int)=0:=by decide
 have h2:shR .u64 (c:Int) (32:Int)=0:=by
  show (c:Int).fdiv (2 ^ (min (32:Int).toNat IntKind.u64.bits))=0;rw [show (min (32:Int).toNat IntKind.u64.bits)=32 from rfl,Int.fdiv_eq_ediv_of_nonneg _ (by decide)];omega
 have e:Q3f .u64 1 (4294967295:Int)=1:=by decide
 have f:Q3f .u64 (c:Int) (4294967295:Int)=(c:Int):=by
  unfold Q3f;rw [BitVec.toNat_and,IntKind.wrap_u64];have e1:(BitVec.ofInt IntKind.u64.bits (c:Int)).toNat=c:=by
   rw [BitVec.toNat_ofInt];show ((c:Int) % ((2 ^ 64:Nat):Int)).toNat=c;omega
  have e2:(BitVec.ofInt IntKind.u64.bits (4294967295:Int)).toNat=2 ^ 32-1:=by decide
  rw [e1,e2,Nat.and_two_pow_sub_one_eq_mod];omega
 have w0:IntKind.u64.wrap 0=0:=by decide
 have wc:IntKind.u64.wrap (c:Int)=(c:Int):=by rw [IntKind.wrap_u64];omega
 have s0:shR .u64 0 (32:Int)=0:=by decide
 have a0:Q3f .u64 0 (4294967295:Int)=0:=by decide
 simp only [GW,Kf,cond_false,EO,d,h2,e,f,gb,Int.zero_mul,Int.one_mul,Int.mul_zero,Int.add_zero,w0,wc,s0,a0];rfl
theorem Q25 {β:Nat->Option Nat} {S:Nat->Prop} {h:Nat->Option Ob} {w:World} {tm:Nat->Value} {v:Value} {k:IntKind} {n:Int} (h:RdA β S h w tm v (.d (.int k n))):v = .int k n:=by
 cases h with
 |d _ _ q=>exact TJ q
 |dang _ _ _ hl=>cases hl
theorem Q55 (c:Nat) (hc:c<=100000) (w:World):Calls Tryz.prog 191 #[.int .u64 1,.int .u64 (c:Int)] w fun e w'=>e = .returned (.tuple #[.int .u64 0,.int .u64 c])/\RowKit.Below w.heap.size w w':=by
 have he:(Po 0).E Dl 0 true [.d (.int .u64 1),.d (.int .u64 (c:Int))] (fun _=>none) some=some ⟨.tup [.d (D.int .u64 0),.d (D.int .u64 (c:Int))],[],[]⟩:=by
  show gb true (GW 0 1 (c:Int) (fun f g=>some (f,g))) (0,0) (fun r=>(some ⟨.tup [.d (D.int .u64 r.1),.d (D.int .u64 r.2)],[],[]⟩:Option Dl))=_;rw [mul_one c hc];rfl
 refine (FZ (S:=fun _=>False) (XO ((Po 0).ok) he) (fun _ h=>h.elim) (Gs (.d _ _ (.int _ _)) (.d _ _ (.int _ _)))).mono fun e w' ⟨v,S',i,h2,j⟩=>⟨?_,j⟩
 rw [i];cases h2 with
 |tup cs l hl hr=>
  have d:=Q25 (hr 0 _ rfl);have q1:=Q25 (hr 1 _ rfl);obtain ⟨l⟩:=cs
  match l,hl with
  |[a,b],_=>
   simp at d q1;rw [d,q1]
 |dang v av l hl=>cases hl
noncomputable def Q8Y:Code:=(VR (Tryz.f183.body.getD .skip)).getD 9 .skip
set_option maxHeartbeats 8000000 in
set_option maxRecDepth 100000 in
theorem Tryz.repeat_r9 (d f g i l o p q r s t u x y z aa ab ac ad ae ag ah ai aj ak al am an ao ap aq ar au av aw ax az ba bb bc bd be bg bh bi ay a b:Value) (H c m k:Nat) (cu:Array Value) (w:World) (bj:m<c) (ca:(m:Int)<(c:Int)) (hk:Nat.min m (c-m)=k) (a7:w.heap[H]? = some (.cells cu 227 (0,0))) (h0:(0:Int)<=(m:Int)) (co:(m:Int)<=(c:Int))
  (bv:∀ (j:Nat) (v:Value),(SQ a b k)[j]? = some v->w.drew.cell? ((⟨H,0,none⟩:Addr).add j)=some v) (bu:m*2+(SQ a b k).length<=cu.size) (a9:∀ v∈SQ a b k,v.oneCell'=true) (cq:IntKind.i64.wrap ((m:Int)+(k:Int))=((m+k:Nat):Int)) :
  Code.wp Tryz.prog Q8Y (Q2T fun act w'=>∃ (bk bl bm bn bo bp bq br bt:Value),act=⟨(d::f::g::i::l::o::p::.slice (some ⟨H,0,none⟩) c c::.int .i64 ((m:Int)+(k:Int))::q::r::s::t::u::x::y::z::aa::ab::ac::ad::ae::ag::ah::ai::aj::ak::al::am::an::ao::ap::aq::ar::au::av::aw::ax::bk::bl::bm::bn::bo::bp::bq::br::bt::ay::[]).toArray,[]⟩/\w'.heap[H]? = some (.cells (splice cu.toList (m*2) (SQ a b k)).toArray 227 (0,0))/\(∀ n,n<=H->∀ w0:World,Below n w0 w->Below n w0 w')) ⟨(d::f::g::i::l::o::p::.slice (some ⟨H,0,none⟩) c c::.int .i64 (m:Int)::q::r::s::t::u::x::y::z::aa::ab::ac::ad::ae::ag::ah::ai::aj::ak::al::am::an::ao::ap::aq::ar::au::av::aw::ax::az::ba::bb::bc::bd::be::bg::bh::bi::ay::[]).toArray,[]⟩ w:=by
 conv=>arg 2;whnf
 have mixed:Tryz.prog.follows .mixedOrders=true:=by kernel_rfl
 have bx:(Tryz.prog.info? 227).map (·.size)=some 2:=by kernel_rfl
 have b1:c=m->0=m*2:=fun e=>absurd e (Nat.ne_of_gt bj)
 have a6:w.drew.heap[H]? = some (.cells cu 227 (0,0)):=a7
 go_region_law (first
  |(refine DH (by rfl) _ _ 194 194 (by rfl) 227 2 Tryz.underlying194 bx H (m*2) (c-m) (c-m) ⟨H,0,none⟩ m c (by go_simp;exact b1) (by go_simp) cu 227 a6 (SQ a b k) k hk (WA _ _ _) bv bu a9 ?_;intro w3 bz b0))
 all_goals
  dsimp only [Q2T];exact ⟨_,_,_,_,_,_,_,_,_,rfl,bz,fun n hn w0 h=>b0 n hn w0 (h.trans ⟨rfl,rfl,rfl,Nat.le_refl _,fun _ _=>rfl⟩)⟩
theorem Q3Q {a b:Value} {m k:Nat} {L:List Value} (ak:L.take (m*2)=SQ a b m):(splice L (m*2) (SQ a b k)).take ((m+k)*2)=SQ a b (m+k):=by
 simp only [splice];rw [ak,List.take_append,QeY (by rw [WA];omega),WA,List.take_append_of_le_length (by rw [WA];omega),QeY (by rw [WA];omega),Bh]
theorem Q9S {m k c:Nat} (h:m+k<=c) (hk:0<k):c-(intOf (.int .i64 ((m:Int)+(k:Int)))).toNat<c-(intOf (.int .i64 (m:Int))).toNat:=by
 simp only [intOf];omega
set_option maxHeartbeats 4000000 in
set_option maxRecDepth 100000 in
theorem Tryz.repeat_calls (w:World) (ad:Addr) (cap c:Nat) (b d:Value) (hc:c<=100000) (n:w.cell? (ad.add 0)=some b) (q:w.cell? (ad.add 1)=some d) (y:b.oneCell'=true) (o1:d.oneCell'=true) :
  Calls Tryz.prog 183 #[.slice (some ad) 1 cap,.int .i64 (c:Int)] w fun e w'=>∃ (H:Nat) (ak:Array Value),e = .returned (.slice (some ⟨H,0,none⟩) c c)/\w.heap.size<=H/\w'.heap[H]? = some (.cells ak 227 (0,0))/\ak.size=c*2/\ak.toList=SQ b d c/\Below w.heap.size w w':=by
 obtain ⟨r,hi,s⟩:=Option.map_eq_some_iff.1 (show (Tryz.prog.info? 227).map (fun i=>(i.zero.isSome,i.size,i.bytes))=some (true,2,16) by kernel_rfl);obtain ⟨hz,f⟩:=Prod.mk.inj s;obtain ⟨f,t⟩:=Prod.mk.inj f;obtain ⟨z,hz⟩:=Option.isSome_iff_exists.1 hz;have ay:∀ w:World,∃ ak:Array Value,ak.size=c*2/\(Instr.makeSlice 194 (.int .i64 (c:Int)) (.int .i64 (c:Int))).run Tryz.prog w = .ok (.slice (some ⟨w.heap.size,0,none⟩) c c) (w.alloc (.cells ak 227)):=by
  intro w;refine ⟨madeCells z.cells (c*2),size_madeCells _ _,?_⟩;have:=run_make (P:=Tryz.prog) w 194 227 r z Tryz.underlying194 hi hz .i64 .i64 (c:Int) (c:Int) (by omega) (by omega) (by rw [t];omega) (by omega);rw [f] at this;exact this
 have bd:(Tryz.prog.info? 227).map (·.size)=some 2:=by rw [hi];simp [f]
 have b3:IntKind.u64.wrap (c:Int)=(c:Int):=by rw [IntKind.wrap_u64];omega
 have b0:IntKind.i64.wrap (c:Int)=(c:Int):=by rw [IntKind.wrap_i64];omega
 have g0:(0:Int)<=(c:Int):=by omega
 have g1:¬ (9223372036854775807:Int)<(c:Int):=by omega
 go_enter Tryz.func183,Tryz.ntmps183
 go_wp2_with (go_at_call 191;refine (Q55 c hc _).mono ?_)
 rintro e w1 rfl hB;obtain ⟨ak,bl,bh⟩:=ay w1;clear ay;have au:=Wb hB (Nat.le_refl _) (.cells ak 227);have a8:∀ a:Addr,a.block<w.heap.size->(w1.alloc (.cells ak 227)).cell? a=w.cell? a:=fun a ha=>EB (au.block _ ha)
 have b4:=fun (j:Nat)=>V2 ad j
 have bj:ad.block<w.heap.size:=by have:=World.block_lt_of_cell? w _ n;rwa [V2] at this
 have hH:(w1.alloc (.cells ak 227)).heap[w1.heap.size]? = some (.cells ak 227 (0,0)):=heap_alloc_new w1 _;obtain ⟨m0,o⟩:∃ m0,Nat.min 1 c=m0:=⟨_,rfl⟩;have p:m0<=1/\m0<=c/\(0<c->0<m0):=by rw [<- o];simp only [Nat.min_def];split <;> omega
 obtain ⟨w2,a6,bn,bu⟩:=Q0S (P:=Tryz.prog) (w1.alloc (.cells ak 227)) 194 194 3 227 w1.heap.size 0 c c 2 ad 1 cap ak 227 (SQ b d m0) m0 Tryz.underlying194 bd hH o (WA _ _ _)
  (fun j v hj=>by
   have g:=(QeW.1 hj).1;rw [WA] at g;rw [a8 _ (by rw [V2];exact bj)];have hm:m0=1:=by omega
   subst hm;obtain rfl | rfl:j=0\/j=1:=by omega
   ·simp [SQ] at hj;rw [<- hj];exact n
   ·simp [SQ] at hj;rw [<- hj];exact q)
  (by rw [WA];omega) (fun v hv=>by rcases B6 hv with rfl | rfl <;> assumption)
 have bk:=bu w.heap.size hB.size w au;have aw:=hB.size;generalize bx:w1.heap.size=H at *
 go_wp2
 go_loopw [8] (fun i wr=>∃ (m:Nat) (cu:Array Value),i = .int .i64 (m:Int)/\m<=c/\(0<c->0<m)/\wr.heap[H]? = some (.cells cu 227 (0,0))/\cu.size=c*2/\cu.toList.take (m*2)=SQ b d m/\Below w.heap.size w wr)
  (fun i _=>c-(intOf i).toNat)
 case atStart=>
  refine ⟨m0,_,rfl,p.2.1,p.2.2,bn,?_,?_,bk⟩
  ·simp only [List.size_toArray];rw [length_splice _ _ _ (by rw [WA];simp;omega)];simpa using bl
  ·simp only [splice,List.take_zero,Qf0];rw [List.take_append_of_le_length (by rw [WA];exact Nat.le_refl _),QeY (by rw [WA];exact Nat.le_refl _)]
 case round=>
  obtain ⟨m,cu,rfl,b2,br,am,aq,ar,hF⟩:=hrel;clear bh a6;by_cases u:m<c
  ·have a7:((m:Int)<(c:Int)):=by omega
   have hp:0<m:=br (by omega);obtain ⟨k,hk⟩:∃ k,Nat.min m (c-m)=k:=⟨_,rfl⟩;have l:k<=m/\m+k<=c/\0<k:=by rw [<- hk];simp only [Nat.min_def];split <;> omega
   have e1:(if c=m then (some ⟨H,0,none⟩:Option Addr) else (some (⟨H,0,none⟩:Addr)).map (·.add (m*2)))=some ⟨H,m*2,none⟩:=by
    rw [if_neg (by omega)];simp [Gc]
   have a9:∀ (j:Nat) (v:Value),(SQ b d k)[j]? = some v->wr.drew.cell? ((⟨H,0,none⟩:Addr).add j)=some v:=by
    intro j v hj;have g:=(QeW.1 hj).1;rw [WA] at g;rw [Gc,Nat.zero_add];show wr.cell? _=_;rw [cell_of_row wr H j cu 227 (0,0) am,<- Array.getElem?_toList];have e:(cu.toList.take (m*2))[j]? = some v:=by
     rw [ar];have e2:=Q5p b d l.1;rw [<- e2,List.getElem?_take,if_pos g] at hj;exact hj
    rw [List.getElem?_take] at e;split at e
    ·exact e
    ·cases e
   have ao:m*2+(SQ b d k).length<=cu.size:=by rw [WA];omega
   have ax:∀ v∈SQ b d k,v.oneCell'=true:=fun v hv=>by rcases B6 hv with rfl | rfl <;> assumption
   have bc:wr.drew.heap[H]? = some (.cells cu 227 (0,0)):=am;have bp:IntKind.i64.wrap ((m:Int)+(k:Int))=((m+k:Nat):Int):=by rw [IntKind.wrap_i64];omega
   go_wp2
   refine Code.wp_mono ?_ (Tryz.repeat_r9 _ _ _ _ _ _ _ _ _ _ _ _ _ _ _ _ _ _ _ _ _ _ _ _ _ _ _ _ _ _ _ _ _ _ _ _ _ _ _ _ _ _ _ _ _ _ b d H c m k cu wr u a7 hk am (by omega) (by omega) a9 ao ax bp);rintro e act w3 h;cases e with
   |normal=>
    obtain ⟨_,_,_,_,_,_,_,_,_,rfl,bi,bo⟩:=h
    go_wp2
    refine ⟨⟨m+k,_,by rw [Int.natCast_add],l.2.1,fun _=>Nat.lt_of_lt_of_le hp (Nat.le_add_right m k),bi,?_,?_,bo _ aw w hF⟩,?_⟩
    ·simp only [List.size_toArray];rw [length_splice _ _ _ (by simpa using ao)];simpa using aq
    ·exact Q3Q ar
    ·exact Q9S l.2.1 l.2.2
   |_=>exact h.elim
  ·have x:m=c:=by omega
   subst x
   go_wp2
   refine bodyPost_ret (results_tmp rfl _ _ _) rfl ?_;refine ⟨H,cu,rfl,aw,am,aq,?_,hF⟩;rw [<- ar,QeY (by simpa using Nat.le_of_eq aq)]
theorem Q7F {S:Nat->Prop} {w:World} {v:Value} {x:D} (h:Rd S w v x):v.oneCell'=true:=by cases h <;> rfl
theorem Q6e {S:Nat->Prop} {w:World} {H c:Nat} {ak:Array Value} {a d:Value} {f g:D} (k:Rd S w a f) (l:Rd S w d g) (hH:w.heap[H]? = some (.cells ak 227 (0,0))) (am:ak.toList=SQ a d c) :
  Rd (fun b=>S b\/b=H) w (.slice (some ⟨H,0,none⟩) c c) (.sl 2 (List.replicate c [f,g])):=by
 have e:=Rd.sl (S:=fun b=>S b\/b=H) (w:=w) ⟨H,0,none⟩ c 2 (List.replicate c [f,g]) (fun i j=>if j=0 then a else d) (.inr rfl) (by simp) (fun i r hr=>?_) (fun i j r x hr hx=>?_) (fun i j r x hr hx=>?_)
 ·simpa using e
 ·obtain ⟨_,rfl⟩:=List.mem_replicate.1 (List.mem_of_getElem? hr);rfl
 ·have hi:i<c:=by have:=(QeW.1 hr).1;simpa using this
  obtain ⟨_,rfl⟩:=List.mem_replicate.1 (List.mem_of_getElem? hr);have hj:=(QeW.1 hx).1;simp at hj;rw [Gc,Nat.zero_add,cell_of_row w H _ ak 227 (0,0) hH,<- Array.getElem?_toList,am];have:=Q5N a d c i hi;obtain rfl | rfl:j=0\/j=1:=by omega
  ·simpa using this.1
  ·simpa using this.2
 ·obtain ⟨_,rfl⟩:=List.mem_replicate.1 (List.mem_of_getElem? hr);have hj:=(QeW.1 hx).1;simp at hj;obtain rfl | rfl:j=0\/j=1:=by omega
  ·simp at hx;subst hx;simpa using k.mono (fun _ h=>.inl h) (fun _ _=>rfl)
  ·simp at hx;subst hx;simpa using l.mono (fun _ h=>.inl h) (fun _ _=>rfl)
theorem BL (n:Nat) (a0:LL) (a1:Int) (res:LL) {hl:Nat->Option Ob} (h:Qb n a0 a1 some=some res):Ze Tryz.prog 183 [.d (D.sl 2 a0),.d (D.int .i64 a1)] hl ⟨.d (D.sl 2 res),[],[]⟩:=by
 unfold Qb at h;obtain ⟨hc,h⟩:=QX h;simp only [QeZ,decide_eq_true_eq] at hc;obtain ⟨⟨e1,hp⟩,hq⟩:=hc;have e1:=Nat.eq_of_beq_eq_true e1;injection h with h
 obtain ⟨c,rfl⟩:=Int.eq_ofNat_of_zero_le hp
 match a0,e1 with
 |[row],_=>
  subst h;refine Rh (fn:=Tryz.f183) (by kernel_rfl) (by kernel_rfl) (by kernel_rfl) rfl rfl fun S w args hS hA=>?_
  obtain ⟨hl,hA⟩:=hA
  match args,hl with
  |[i,j],_=>
   have a:=hA 0 _ _ rfl rfl;have q1:=Q25 (hA 1 _ _ rfl rfl);subst q1;cases a with
   |dang _ _ _ hl=>cases hl
   |d _ _ a=>
    cases a with
    |sl ad cap _ _ cf a8 ay ar ak ao=>
     have an:=ar 0 row rfl
     match row,an with
     |[k,l],_=>
      have k0:=ak 0 0 _ _ rfl rfl;have k1:=ak 0 1 _ _ rfl rfl;have f:=ao 0 0 _ _ rfl rfl;have g:=ao 0 1 _ _ rfl rfl;refine (Tryz.repeat_calls w ad cap c (cf 0 0) (cf 0 1) (by omega) k0 k1 (Q7F f) (Q7F g)).mono fun e w' ⟨H,a9,he,hH,am,bc,au,hB⟩=>?_
      have a7:H<w'.heap.size:=(Array.getElem?_eq_some_iff.1 am).1;refine ⟨_,fun b=>S b\/b=H,he,fun b h=>.inl h,fun b h=>h.elim .inl fun e=>.inr (by omega),fun b h=>h.elim (fun h=>Nat.lt_of_lt_of_le (hS b h) hB.size) (fun e=>by omega),.d _ _ ?_,hB⟩;exact Q6e (Rd.mono (fun _ h=>h) (fun b hb=>hB.block b (hS b hb)) f) (Rd.mono (fun _ h=>h) (fun b hb=>hB.block b (hS b hb)) g) am au
end Go.Vx
namespace Go.Vx
open Go.Proofs
def X1 (n:Nat):GV:=fun _ _ g ak _ k=>match ak with
 | [c0,c1]=>prS g 2 c0 fun a0=>prI g .i64 c1 fun a1=>
  gb g (Qb n a0 a1 some) [] fun r=>k ⟨.d (D.sl 2 r),[],[]⟩
 | _=>none
theorem Zl (n:Nat):Uu Tryz.prog 183 (X1 n):=by
  intro R am g an hl k r h
  unfold X1 at h
  split at h
  rotate_left
  · cases h
  replace h:=Wg h
  obtain ⟨a0,h,a⟩:=h
  replace h:=VU h
  obtain ⟨a1,h,b⟩:=h
  replace h:=Qt h
  obtain ⟨res,h,hr⟩:=h
  exact ⟨_,h,fun hg=>Ze.conv (avs':=[.d (D.sl 2 a0),.d (D.int .i64 a1)]) (.cons (a hg) (.cons (b hg) .nil)) (BL n a0 a1 res (hr hg))⟩
end Go.Vx
set_option maxRecDepth 100000
namespace Go.Vx
open Go.Proofs
noncomputable def BZ (n:Nat):VC:=⟨Gv [(99,(T7 n).E),(183,X1 n)],gtt,[cO 0 [2,3] [2,3],cO 1 [2,3,7] [2,3],cO 2 [2,3,7,17] [2,3],cK 3 [4,5,6],cO 4 [2,3,8] [2,3],(5,⟨[2,3,8,27,28,29],[(2,2),(3,3)],[(8,1008,227,2)],[],[]⟩),cO 6 [2,3,8,27,28,29,30] [2,3,1008],cO 7 [2,3,8,10,27,28,29] [2,3,10,1008],cO 8 [2,3,8,10,11,27,28,29] [2,3,10,11,1008],cO 9 [2,3,8,10,11,12,27,28,29] [2,3,10,11,12,1008],cO 10 [2,3,8,11,12,27,28,29,46] [2,3,11,12,1008],cO 11 [2,3,8,11,12,27,28,29] [2,3,11,12,1008],cO 12 [2,3,8,27,28,29] [2,3,57],cO 13 [2,3,8,27,28,29] [2,3,57],cO 14 [2,3,8,61] [2,3,1008],cK 15 [4,5,6],cO 16 [4,5,6] [1008],(3000000006,⟨[2,3,8,27,28,29],(zp [2,3,57,1008] [2,3,1008,1008]),[],[],[]⟩)]⟩
theorem R6 (n:Nat):VCOk Tryz.prog (BZ n):=gVC (Ug ⟨(T7 n).ok,⟨Zl n,trivial⟩⟩)
noncomputable def DE (n:Nat) (m:Nat):LpE Tryz.prog:=mkL (R6 n) nT 6 (cA [1,1,1,0,1,2,2] (Q6 Tryz.f164)) ⟨73,[(2,.ptr 2 0),(3,.ptr 3 0),(8,.arr 1008),(27,.l 2),(28,tI),(29,tI)],[(2,.box [.l 1,.l 1,.l 5,.l 6]),(3,.box [.l 2,tI]),(1008,.arr 227 2)]⟩ [yL,yI,yI,yL,yL,yL,yL,yL,yI,yL] (fun m R k c d a f g e h i j b=>Zf n c d e (fun a l b=>k (.exit 0) ⟨73,[(2,.ptr 2 0),(3,.ptr 3 0),(8,.arr 1008),(27,dL 2 c),(28,dI d),(29,dI a),(30,dB l)],[(2,.box [dL 1 f,dL 1 g,dL 5 e,dL 6 h]),(3,.box [dL 2 i,dI j]),(1008,.arr 227 2 b)]⟩) m a b) m
noncomputable def Ab (n:Nat):EnP Tryz.prog 164:=mkE (R6 n) [DE n n] 164 Tryz.f164 [[2],[0],[0]] [eA [qL 1,qL 1,qL 5,qL 6],eA [qL 2,qI]] [eT 3,sL 2,sI,sI] (pK (T6 n))
noncomputable def PS (n:Nat):VB:=X5 [] [cO 0 [1] [1],cK 1 [2]]
noncomputable def GB (n:Nat):EnP Tryz.prog 165:=mkE (PS n).ok nT 165 Tryz.f165 [[2]] [eA [qL 2,qI]] [sL 2] (pK (We n))

noncomputable def Pl (n:Nat):VB:=X5 [⟨164,Ab n⟩,⟨98,Gj n⟩,⟨165,GB n⟩] [cO 0 [3,4,5,6] [3,4,5,6],cO 1 (rg1 3 4 [8,9,10]) [3,4,5,6],cO 2 (rg1 3 4 [8,9,10,21]) [3,4,5,6],cO 3 [6,7] [6],cO 4 (rg1 3 4 [8,9,26]) [3,4,5,6],cO 5 [6,7] [6],cO 6 [3,5,6,8,9,29,30,31] [3,5,6],cO 7 [3,5,6,8,9,29,30,31,32] [3,5,6],cO 8 [3,5,6,8,9,12,29,30,31] [3,5,6,12],cO 9 [3,5,6,8,9,29,30,31,45] [3,5,6],cO 10 [6,7] [6],cO 11 [3,5,6,8,9,29,30,31] [3,5,6],cO 12 [6,7] [6]]
noncomputable def Ev (n:Nat) (m:Nat):LpE Tryz.prog:=mkL (Pl n).ok nT 7 (cA [1,1,1,1,0,1,2,2] (Q6 Tryz.f138)) ⟨51,[(3,.ptr 3 0),(5,.ptr 5 0),(6,.ptr 6 0),(8,.l 2),(9,tI),(29,.l 2),(30,tI),(31,tI)],[(3,.box [.l 1,.l 1,.l 5,.l 6]),(5,.box [.t,tI,tI,tI,tI]),(6,.box [.nil,.ci .i64 0])]⟩ [yL,yI,yL,yI,yI,yL,yL,yL,yL,yT,yI,yI,yI,yI] (fun m R k f g b c a h i d j l e o p q=>ZE n b c d e (k .ret ⟨51,[(6,.ptr 6 0),(7,dI (12:Int))],[(6,.box [.nil,dI (0:Int)])]⟩) (fun a r=>k (.exit 0) ⟨51,[(3,.ptr 3 0),(5,.ptr 5 0),(6,.ptr 6 0),(8,dL 2 f),(9,dI g),(29,dL 2 b),(30,dI c),(31,dI a),(32,dB r)],[(3,.box [dL 1 h,dL 1 i,dL 5 d,dL 6 j]),(5,.box [dT l,dI e,dI o,dI p,dI q]),(6,.box [.nil,dI (0:Int)])]⟩) m a) m
noncomputable def R3 (n:Nat):EnP Tryz.prog 138:=mkE (Pl n).ok [Ev n n] 138 Tryz.f138 [[2,0],[0]] [eA [qL 1,qL 1,qL 5,qL 6],eA [qL 2,qI],eA [qT,qI,qI,qI,qI]] [eT 2,eA [qL 2,qI],sI] (pK (Ga n))

noncomputable def LQ (n:Nat):VB:=X5 [⟨138,R3 n⟩] [cO 0 [3,4,5] [3,4,5],cK 1 [8],cK 2 [6]]
noncomputable def PD (n:Nat):EnP Tryz.prog 111:=mkE (LQ n).ok nT 111 Tryz.f111 [[0]] [eA [qL 1,qL 1,qL 5,qL 6],eA [qL 2,qI],eA [qT,qI,qI,qI,qI]] [sI] (pK (VI n))

noncomputable def A7 (n:Nat):VB:=X5 [] [cO 0 [2,3] [2,3],cK 1 [4]]
noncomputable def Pn (n:Nat):EnP Tryz.prog 107:=mkE (A7 n).ok nT 107 Tryz.f107 [[0]] [eA [qI,qL 5,qL 2,qL 4,qL 7,qL 4,qL 5,qL 3],eA [qI,qI,qI,qI]] [sI] (pK (GX n))

noncomputable def Az (n:Nat):VB:=X5 [] [cO 0 [2,3] [2,3],cK 1 [5,6],cK 2 [4]]
noncomputable def RB (n:Nat):EnP Tryz.prog 106:=mkE (Az n).ok nT 106 Tryz.f106 [[0]] [eA [qI,qL 5,qL 2,qL 4,qL 7,qL 4,qL 5,qL 3],eA [qI,qI,qI,qI]] [sI] (pK (HB n))

noncomputable def MO (n:Nat):VB:=X5 [⟨105,TG n⟩,⟨111,PD n⟩,⟨107,Pn n⟩,⟨106,RB n⟩] [cO 0 [3,4,5,6] [4,5,6],cO 1 (rg1 3 4 [9]) [4,5,6,9],cO 2 (rg1 3 4 [9,16]) [4,5,6,9],cO 3 (rg1 3 4 [9,16]) [4,5,6,9],cO 4 (rg1 3 4 [9,16]) [4,5,6,9],cO 5 (rg1 3 4 [9,16]) [4,5,6,9],cO 6 (rg1 3 4 [9,16]) [4,5,6,9],cO 7 (rg1 3 4 [9,16]) [4,5,6,9],cK 8 [8],cO 9 [3,5,6,9,10] [5,6,9],cO 10 [3,5,6,9,10,72] [5,6,9],cK 11 [8],cK 12 [89],cK 13 [8],cK 14 [8]]
noncomputable def Fu (n:Nat):EnP Tryz.prog 103:=mkE (MO n).ok nT 103 Tryz.f103 [[0]] [eA [qL 1,qL 1,qL 5,qL 6],eA [qI,qL 5,qL 2,qL 4,qL 7,qL 4,qL 5,qL 3],eA [qT,qI,qI,qL 4],sI] [sI] (pK (V7 n))

noncomputable def VV (n:Nat):VB:=X5 [⟨95,KG n⟩,⟨100,Yn n⟩,⟨102,NS n⟩,⟨103,Fu n⟩] [cO 0 [2,3] [2,3],cO 1 [2,3,10,11,12] [2,3],cO 2 [2,3,10,11,12,13] [2,3],cO 3 [2,3,5,6,10,11,12] [2,3,6],cO 4 [2,3,5,6,10,11,12,17] [2,3,6],cK 5 [4],cO 6 [2,3,6,10,11,12,22] [2,3,6],cK 7 [4],cO 8 [2,3,6,10,11,12,29] [2,3,6],cO 9 [2,3,6,10,11,12,29] [2,3,6],cO 10 [2,3,6,10,11,12,29] [2,3,6],cK 11 [4],cO 12 [2,3,6,10,11,12,43] [2,3,6],cK 13 [4],cO 14 [2,3,6,10,11,12,50,51] [2,3,6],cO 15 [2,3,6,10,11,12,50,51,52] [2,3,6],cO 16 [2,3,6,7,10,11,12,50,51] [2,3,6],cO 17 [2,3,6,8,10,11,12,50,51] [2,3,6],cO 18 [2,3,6,8,10,11,12,50,51,60] [2,3,6],cK 19 [4],cO 20 [2,3,6,10,11,12,50,51] [2,3,6],cO 21 [2,3,10,11,12] [2,3],cK 22 [4]]
noncomputable def M0 (n:Nat) (m:Nat):LpE Tryz.prog:=mkL (VV n).ok nT 15 (cA [1,0,1,2,2,1,1,0,2,1,1,1,2,2] (Q6 Tryz.f54)) ⟨64,[(2,.ptr 2 0),(3,.ptr 3 0),(6,.ptr 6 0),(10,.l 4),(11,tI),(12,tI),(50,tI),(51,tI)],[(2,.box [.l 1,.l 1,.l 5,.l 6]),(3,.box [tI,.l 5,.l 2,.l 4,.l 7,.l 4,.l 5,.l 3]),(6,.box [.t,tI,tI,.l 4])]⟩ [yL,yI,yI,yI,yI,yL,yL,yL,yL,yI,yL,yL,yL,yL,yL,yL,yL,yT,yI,yI,yL] (fun m R k v x y b a c d e f g h i j l o p q r s t u=>YZ n b c d e f g h i j l o p q r s t u (fun z=>k .ret ⟨64,[(4,dI z)],[]⟩) (fun a aa=>k (.exit 3) ⟨64,[(2,.ptr 2 0),(3,.ptr 3 0),(6,.ptr 6 0),(10,dL 4 v),(11,dI x),(12,dI y),(50,dI b),(51,dI a),(52,dB aa)],[(2,.box [dL 1 c,dL 1 d,dL 5 e,dL 6 f]),(3,.box [dI g,dL 5 h,dL 2 i,dL 4 j,dL 7 l,dL 4 o,dL 5 p,dL 3 q]),(6,.box [dT r,dI s,dI t,dL 4 u])]⟩) m a) m
noncomputable def Nj (n:Nat) (m:Nat):LpE Tryz.prog:=mkL (VV n).ok [M0 n n] 2 (cA [1,0,1,2,2] (Q6 Tryz.f54)) ⟨64,[(2,.ptr 2 0),(3,.ptr 3 0),(10,.l 4),(11,tI),(12,tI)],[(2,.box [.l 1,.l 1,.l 5,.l 6]),(3,.box [tI,.l 5,.l 2,.l 4,.l 7,.l 4,.l 5,.l 3])]⟩ [yL,yI,yI,yL,yL,yL,yL,yI,yL,yL,yL,yL,yL,yL,yL] (fun m R k b h2 a c d e f g h i j l o p q=>YY n b h2 c d e f g h i j l o p q (fun r=>k .ret ⟨64,[(4,dI r)],[]⟩) (fun a s=>k (.exit 0) ⟨64,[(2,.ptr 2 0),(3,.ptr 3 0),(10,dL 4 b),(11,dI h2),(12,dI a),(13,dB s)],[(2,.box [dL 1 c,dL 1 d,dL 5 e,dL 6 f]),(3,.box [dI g,dL 5 h,dL 2 i,dL 4 j,dL 7 l,dL 4 o,dL 5 p,dL 3 q])]⟩) m a) m
noncomputable def HZ (n:Nat):EnP Tryz.prog 54:=mkE (VV n).ok [Nj n n] 54 Tryz.f54 [[0]] [eA [qL 1,qL 1,qL 5,qL 6],eA [qI,qL 5,qL 2,qL 4,qL 7,qL 4,qL 5,qL 3]] [sI] (pK (WQ n))

noncomputable def Dp (n:Nat):VB:=X5 [] [cO 0 [1,2] [2],cK 1 [4]]
noncomputable def SZ (n:Nat):EnP Tryz.prog 108:=mkE (Dp n).ok nT 108 Tryz.f108 [[0]] [eA [qI,qL 5,qL 2,qL 4,qL 7,qL 4,qL 5,qL 3],sI] [sB] (pK (Vs n))

noncomputable def Dj (n:Nat):VB:=X5 [⟨108,SZ n⟩] [cO 0 [1,2,3] [3],cK 1 [6]]
noncomputable def ST (n:Nat):EnP Tryz.prog 104:=mkE (Dj n).ok nT 104 Tryz.f104 [[0]] [eA [qI,qL 5,qL 2,qL 4,qL 7,qL 4,qL 5,qL 3],sI,sI] [sB] (pK (Wc n))

noncomputable def Gx (n:Nat):VB:=X5 [⟨104,ST n⟩,⟨105,TG n⟩,⟨102,NS n⟩,⟨106,RB n⟩,⟨107,Pn n⟩] [cO 0 [2,3] [2,3],cO 1 [2,3,10,11,12] [2,3],cO 2 [2,3,10,11,12,13] [2,3],cO 3 [2,3,6,10,11,12] [2,3,6],cO 4 [2,3,6,10,11,12,53] [2,3,6],cK 5 [4],cO 6 [2,3,6,7,10,11,12] [2,3,6],cO 7 [2,3,7,8,10,11,12] [2,3],cO 8 [2,3,10,11,12,96] [2,3],cK 9 [4],cO 10 [2,3,10,11,12] [2,3],cK 11 [4]]
noncomputable def SH (n:Nat) (m:Nat):LpE Tryz.prog:=mkL (Gx n).ok nT 2 (cA [1,0,1,2,2] (Q6 Tryz.f55)) ⟨98,[(2,.ptr 2 0),(3,.ptr 3 0),(10,.l 7),(11,tI),(12,tI)],[(2,.box [.l 1,.l 1,.l 5,.l 6]),(3,.box [tI,.l 5,.l 2,.l 4,.l 7,.l 4,.l 5,.l 3])]⟩ [yL,yI,yI,yL,yL,yL,yL,yI,yL,yL,yL,yL,yL,yL,yL] (fun m R k b h2 a o p c q d e f g h i j l=>Yh n b h2 c d e f g h i j l (fun r=>k .ret ⟨98,[(4,dI r)],[]⟩) (fun a s=>k (.exit 0) ⟨98,[(2,.ptr 2 0),(3,.ptr 3 0),(10,dL 7 b),(11,dI h2),(12,dI a),(13,dB s)],[(2,.box [dL 1 o,dL 1 p,dL 5 c,dL 6 q]),(3,.box [dI d,dL 5 e,dL 2 f,dL 4 g,dL 7 h,dL 4 i,dL 5 j,dL 3 l])]⟩) m a) m
noncomputable def Kj (n:Nat):EnP Tryz.prog 55:=mkE (Gx n).ok [SH n n] 55 Tryz.f55 [[0]] [eA [qL 1,qL 1,qL 5,qL 6],eA [qI,qL 5,qL 2,qL 4,qL 7,qL 4,qL 5,qL 3]] [sI] (pK (Zt n))

noncomputable def Jm (n:Nat):VB:=X5 [] [cO 0 [1,2] [2,1000000],cO 1 [3] [1000000]]
noncomputable def JD (n:Nat):EnP Tryz.prog 110:=mkG (Jm n).ok nT 110 Tryz.f110 [eA [qI,qI,qI,qI],eP 1000000 4,sI,sI,sI,sI] [sB,eI 1000000 4,sI,sI,sI,sI] [] (pK (Z6 n))

noncomputable def Xo (n:Nat):VB:=X5 [⟨110,JD n⟩] [cO 0 [0,1] [1000000],cO 1 [0,1,7,8] [1000000],cO 2 [0,1,7,8,9] [1000000],cO 3 [0,1,5,7,8] [1000000],cO 4 [0,1,5,7,8,16] [1000000],cO 5 [4] [1000000],cO 6 [0,1,7,8] [1000000],cO 7 [4] [1000000]]
noncomputable def YH (n:Nat) (m:Nat):LpE Tryz.prog:=mkL (Xo n).ok nT 2 (cA [1,0,1,2,2] (Q6 Tryz.f137)) ⟨19,[(0,.l 4),(1,.fn 110 [.ptr 1000000 0]),(7,tI),(8,tI)],[(1000000,.box [tI,tI,tI,tI])]⟩ [yL,yI,yI,yI,yI,yI,yI] (fun m R k f h2 a b c d e=>Qa n f h2 (fun a g h i j=>k .ret ⟨19,[(4,dI a)],[(1000000,.box [dI g,dI h,dI i,dI j])]⟩) (fun a l b c d e=>k (.exit 0) ⟨19,[(0,dL 4 f),(1,.fn 110 [.ptr 1000000 0]),(7,dI h2),(8,dI a),(9,dB l)],[(1000000,.box [dI b,dI c,dI d,dI e])]⟩) m a b c d e) m
noncomputable def YL (n:Nat):EnP Tryz.prog 137:=mkG (Xo n).ok [YH n n] 137 Tryz.f137 [sL 4,eF 110 1,eP 1000000 4,sI,sI,sI,sI] [sI,eI 1000000 4,sI,sI,sI,sI] [] (pK (QN n))

noncomputable def Ym (n:Nat):VB:=X5 [⟨137,YL n⟩] [cO 0 [0,1] [1000000],cO 1 [4] [1000000]]
noncomputable def Yp (n:Nat):EnP Tryz.prog 109:=mkG (Ym n).ok nT 109 Tryz.f109 [sL 4,eF 110 1,eP 1000000 4,sI,sI,sI,sI] [sB,eI 1000000 4,sI,sI,sI,sI] [] (pK (Ql n))

noncomputable def KD (n:Nat):VB:=X5 [⟨108,SZ n⟩,⟨105,TG n⟩,⟨109,Yp n⟩,⟨106,RB n⟩,⟨107,Pn n⟩] [cO 0 [3] [3],cO 1 [3,10,11,12] [3],cO 2 (3::rg1 10 4 []) [3],cO 3 [3,5,6,10,11,12] [3,6],cO 4 [3,5,6,10,11,12,37] [3,6],cK 5 [4],cO 6 [3,6,10,11,12,43] [3,6],cK 7 [4],cO 8 [3,7,8,10,11,12] [3,7,8],cO 9 [3,10,11,12,79] [3],cK 10 [4],cO 11 [3,10,11,12] [3],cK 12 [4]]
noncomputable def Ny (n:Nat) (m:Nat):LpE Tryz.prog:=mkL (KD n).ok nT 2 (cA [1,0,1,2,2] (Q6 Tryz.f56)) ⟨81,[(3,.ptr 3 0),(10,.l 4),(11,tI),(12,tI)],[(3,.box [tI,.l 5,.l 2,.l 4,.l 7,.l 4,.l 5,.l 3])]⟩ [yL,yI,yI,yI,yL,yL,yL,yL,yL,yL,yL] (fun m R k b h2 a c d e f g h i j=>Z4 n b h2 c d e f g h i j (fun l=>k .ret ⟨81,[(4,dI l)],[]⟩) (fun a o=>k (.exit 0) ⟨81,[(3,.ptr 3 0),(10,dL 4 b),(11,dI h2),(12,dI a),(13,dB o)],[(3,.box [dI c,dL 5 d,dL 2 e,dL 4 f,dL 7 g,dL 4 h,dL 5 i,dL 3 j])]⟩) m a) m
noncomputable def HD (n:Nat):EnP Tryz.prog 56:=mkE (KD n).ok [Ny n n] 56 Tryz.f56 [[0]] [eA [qL 1,qL 1,qL 5,qL 6],eA [qI,qL 5,qL 2,qL 4,qL 7,qL 4,qL 5,qL 3]] [sI] (pK (WP n))

noncomputable def KO (n:Nat):VB:=X5 [⟨104,ST n⟩] [cO 0 [3] [3],cO 1 [3,8,9,10] [3],cO 2 [3,8,9,10,11] [3],cO 3 [3,6,8,9,10] [3,6],cO 4 [3,8,9,10,55] [3],cK 5 [4],cO 6 [3,8,9,10] [3],cK 7 [4]]
noncomputable def NA (n:Nat) (m:Nat):LpE Tryz.prog:=mkL (KO n).ok nT 2 (cA [1,0,1,2,2] (Q6 Tryz.f57)) ⟨57,[(3,.ptr 3 0),(8,.l 5),(9,tI),(10,tI)],[(3,.box [tI,.l 5,.l 2,.l 4,.l 7,.l 4,.l 5,.l 3])]⟩ [yL,yI,yI,yI,yL,yL,yL,yL,yL,yL,yL] (fun m R k b h2 a c d e f g h i j=>YU n b h2 c d e f g h i j (k .ret ⟨57,[(4,dI (4:Int))],[]⟩) (fun a l=>k (.exit 0) ⟨57,[(3,.ptr 3 0),(8,dL 5 b),(9,dI h2),(10,dI a),(11,dB l)],[(3,.box [dI c,dL 5 d,dL 2 e,dL 4 f,dL 7 g,dL 4 h,dL 5 i,dL 3 j])]⟩) m a) m
noncomputable def HN (n:Nat):EnP Tryz.prog 57:=mkE (KO n).ok [NA n n] 57 Tryz.f57 [[0]] [eA [qL 1,qL 1,qL 5,qL 6],eA [qI,qL 5,qL 2,qL 4,qL 7,qL 4,qL 5,qL 3]] [sI] (pK (WG n))

noncomputable def Gu (n:Nat):VB:=X5 [] [cO 0 [2,3] [2,3],cO 1 [2,8,9,10] [2],cO 2 [2,8,9,10,11] [2],cO 3 [2,6,8,9,10] [2,6],cO 4 [2,8,9,10,54] [2],cK 5 [4],cO 6 [2,8,9,10] [2],cK 7 [4]]
noncomputable def SO (n:Nat) (m:Nat):LpE Tryz.prog:=mkL (Gu n).ok nT 2 (cA [1,0,1,2,2] (Q6 Tryz.f58)) ⟨56,[(2,.ptr 2 0),(8,.l 3),(9,tI),(10,tI)],[(2,.box [.l 1,.l 1,.l 5,.l 6])]⟩ [yL,yI,yI,yL,yL,yL,yL] (fun m R k b h2 a c d e f=>Yg n b h2 c (k .ret ⟨56,[(4,dI (4:Int))],[]⟩) (fun a g=>k (.exit 0) ⟨56,[(2,.ptr 2 0),(8,dL 3 b),(9,dI h2),(10,dI a),(11,dB g)],[(2,.box [dL 1 c,dL 1 d,dL 5 e,dL 6 f])]⟩) m a) m
noncomputable def K8 (n:Nat):EnP Tryz.prog 58:=mkE (Gu n).ok [SO n n] 58 Tryz.f58 [[0]] [eA [qL 1,qL 1,qL 5,qL 6],eA [qI,qL 5,qL 2,qL 4,qL 7,qL 4,qL 5,qL 3]] [sI] (pK (Zm n))

end Go.Vx
namespace Go.Vx
open Go.Proofs Go.RowKit
theorem Q48 {S:Nat->Prop} {w:World} {v:Value} {x:D} (h:Rd S w v x):v.oneCell'=true:=by cases h <;> rfl
theorem RdLs.one {S:Nat->Prop} {w:World} {vs:List Value} {xs:List D} (h:RdLs S w vs xs):∀ x∈vs,x.oneCell'=true:=by
 induction h with
 |nil=>simp
 |cons h _ ih=>
  intro x hx;rcases List.mem_cons.1 hx with rfl | hx
  ·exact Q48 h
  ·exact ih x hx
theorem RdLs.len {S:Nat->Prop} {w:World} {vs:List Value} {xs:List D} (h:RdLs S w vs xs):vs.length=xs.length:=by
 induction h with
 |nil=>rfl
 |cons _ _ ih=>simp [ih]
theorem RdLs.keep {S:Nat->Prop} {w w':World} {m:Nat} {vs:List Value} {xs:List D} (h:RdLs S w vs xs) (hS:∀ b,S b->b<m) (hw:∀ b,b<m->w'.heap[b]? = w.heap[b]?):RdLs S w' vs xs:=by
 induction h with
 |nil=>exact .nil
 |cons h _ ih=>exact .cons (Rd.keep h hS hw) ih
def Gi (a b c d:LL):List D:=[D.sl 1 a,D.sl 1 b,D.sl 5 c,D.sl 6 d]
def G8 (a:Int) (b c d e f g h:LL):List D:=[D.int .i64 a,D.sl 5 b,D.sl 2 c,D.sl 4 d,D.sl 7 e,D.sl 4 f,D.sl 5 g,D.sl 3 h]
theorem FF {n:Nat} {a c d f:LL} {g:Int} {i j k l m o p:LL} (h:WB n a c d f g i j k l m o p some=some 0) {S:Nat->Prop} {w:World} (hS:∀ b,S b->b<w.heap.size) {vs us:List Value} (q:RdLs S w vs (Gi a c d f)) (s:RdLs S w us (G8 g i j k l m o p)) :
  Calls Tryz.prog 51 #[.agg vs.toArray,.agg us.toArray] w fun e w'=>e = .returned (.int .i64 0)/\Below w.heap.size w w':=by
 have he:(Hn n).E Dl 0 true [.ag ((Gi a c d f).map .d),.ag ((G8 g i j k l m o p).map .d)] (fun _=>none) some=some ⟨.d (.int .i64 0),[],[]⟩:=by
  show gb true (WB n a c d f g i j k l m o p some) 0 (fun r=>(some ⟨.d (D.int .i64 r),[],[]⟩:Option Dl))=_;rw [h];rfl
 exact J6 (XO ((Hn n).ok) he) hS (Gs (RdLs.agg q) (RdLs.agg s))
theorem L3 {n:Nat} {a c d f:LL} {g:Int} {i j k l m o p:LL} (h:ZV n a c d f g i j k l m o p some=some 0) {S:Nat->Prop} {w:World} (hS:∀ b,S b->b<w.heap.size) {vs us:List Value} (q:RdLs S w vs (Gi a c d f)) (s:RdLs S w us (G8 g i j k l m o p)) :
  Calls Tryz.prog 52 #[.agg vs.toArray,.agg us.toArray] w fun e w'=>e = .returned (.int .i64 0)/\Below w.heap.size w w':=by
 have he:(KI n).E Dl 0 true [.ag ((Gi a c d f).map .d),.ag ((G8 g i j k l m o p).map .d)] (fun _=>none) some=some ⟨.d (.int .i64 0),[],[]⟩:=by
  show gb true (ZV n a c d f g i j k l m o p some) 0 (fun r=>(some ⟨.d (D.int .i64 r),[],[]⟩:Option Dl))=_;rw [h];rfl
 exact J6 (XO ((KI n).ok) he) hS (Gs (RdLs.agg q) (RdLs.agg s))
theorem L8 {n:Nat} {a c d f:LL} {g:Int} {i j k l m o p:LL} (h:ZT n a c d f g i j k l m o p some=some 0) {S:Nat->Prop} {w:World} (hS:∀ b,S b->b<w.heap.size) {vs us:List Value} (q:RdLs S w vs (Gi a c d f)) (s:RdLs S w us (G8 g i j k l m o p)) :
  Calls Tryz.prog 53 #[.agg vs.toArray,.agg us.toArray] w fun e w'=>e = .returned (.int .i64 0)/\Below w.heap.size w w':=by
 have he:(KN n).E Dl 0 true [.ag ((Gi a c d f).map .d),.ag ((G8 g i j k l m o p).map .d)] (fun _=>none) some=some ⟨.d (.int .i64 0),[],[]⟩:=by
  show gb true (ZT n a c d f g i j k l m o p some) 0 (fun r=>(some ⟨.d (D.int .i64 r),[],[]⟩:Option Dl))=_;rw [h];rfl
 exact J6 (XO ((KN n).ok) he) hS (Gs (RdLs.agg q) (RdLs.agg s))
theorem FH {n:Nat} {a c d f:LL} {g:Int} {i j k l m o p:LL} (h:WQ n a c d f g i j k l m o p some=some 0) {S:Nat->Prop} {w:World} (hS:∀ b,S b->b<w.heap.size) {vs us:List Value} (q:RdLs S w vs (Gi a c d f)) (s:RdLs S w us (G8 g i j k l m o p)) :
  Calls Tryz.prog 54 #[.agg vs.toArray,.agg us.toArray] w fun e w'=>e = .returned (.int .i64 0)/\Below w.heap.size w w':=by
 have he:(HZ n).E Dl 0 true [.ag ((Gi a c d f).map .d),.ag ((G8 g i j k l m o p).map .d)] (fun _=>none) some=some ⟨.d (.int .i64 0),[],[]⟩:=by
  show gb true (WQ n a c d f g i j k l m o p some) 0 (fun r=>(some ⟨.d (D.int .i64 r),[],[]⟩:Option Dl))=_;rw [h];rfl
 exact J6 (XO ((HZ n).ok) he) hS (Gs (RdLs.agg q) (RdLs.agg s))
theorem Nc {n:Nat} {a c d f:LL} {g:Int} {i j k l m o p:LL} (h:Zt n a c d f g i j k l m o p some=some 0) {S:Nat->Prop} {w:World} (hS:∀ b,S b->b<w.heap.size) {vs us:List Value} (q:RdLs S w vs (Gi a c d f)) (s:RdLs S w us (G8 g i j k l m o p)) :
  Calls Tryz.prog 55 #[.agg vs.toArray,.agg us.toArray] w fun e w'=>e = .returned (.int .i64 0)/\Below w.heap.size w w':=by
 have he:(Kj n).E Dl 0 true [.ag ((Gi a c d f).map .d),.ag ((G8 g i j k l m o p).map .d)] (fun _=>none) some=some ⟨.d (.int .i64 0),[],[]⟩:=by
  show gb true (Zt n a c d f g i j k l m o p some) 0 (fun r=>(some ⟨.d (D.int .i64 r),[],[]⟩:Option Dl))=_;rw [h];rfl
 exact J6 (XO ((Kj n).ok) he) hS (Gs (RdLs.agg q) (RdLs.agg s))
theorem LU {n:Nat} {a c d f:LL} {g:Int} {i j k l m o p:LL} (h:WP n a c d f g i j k l m o p some=some 0) {S:Nat->Prop} {w:World} (hS:∀ b,S b->b<w.heap.size) {vs us:List Value} (q:RdLs S w vs (Gi a c d f)) (s:RdLs S w us (G8 g i j k l m o p)) :
  Calls Tryz.prog 56 #[.agg vs.toArray,.agg us.toArray] w fun e w'=>e = .returned (.int .i64 0)/\Below w.heap.size w w':=by
 have he:(HD n).E Dl 0 true [.ag ((Gi a c d f).map .d),.ag ((G8 g i j k l m o p).map .d)] (fun _=>none) some=some ⟨.d (.int .i64 0),[],[]⟩:=by
  show gb true (WP n a c d f g i j k l m o p some) 0 (fun r=>(some ⟨.d (D.int .i64 r),[],[]⟩:Option Dl))=_;rw [h];rfl
 exact J6 (XO ((HD n).ok) he) hS (Gs (RdLs.agg q) (RdLs.agg s))
theorem LP {n:Nat} {a c d f:LL} {g:Int} {i j k l m o p:LL} (h:WG n a c d f g i j k l m o p some=some 0) {S:Nat->Prop} {w:World} (hS:∀ b,S b->b<w.heap.size) {vs us:List Value} (q:RdLs S w vs (Gi a c d f)) (s:RdLs S w us (G8 g i j k l m o p)) :
  Calls Tryz.prog 57 #[.agg vs.toArray,.agg us.toArray] w fun e w'=>e = .returned (.int .i64 0)/\Below w.heap.size w w':=by
 have he:(HN n).E Dl 0 true [.ag ((Gi a c d f).map .d),.ag ((G8 g i j k l m o p).map .d)] (fun _=>none) some=some ⟨.d (.int .i64 0),[],[]⟩:=by
  show gb true (WG n a c d f g i j k l m o p some) 0 (fun r=>(some ⟨.d (D.int .i64 r),[],[]⟩:Option Dl))=_;rw [h];rfl
 exact J6 (XO ((HN n).ok) he) hS (Gs (RdLs.agg q) (RdLs.agg s))
theorem NM {n:Nat} {a c d f:LL} {g:Int} {i j k l m o p:LL} (h:Zm n a c d f g i j k l m o p some=some 0) {S:Nat->Prop} {w:World} (hS:∀ b,S b->b<w.heap.size) {vs us:List Value} (q:RdLs S w vs (Gi a c d f)) (s:RdLs S w us (G8 g i j k l m o p)) :
  Calls Tryz.prog 58 #[.agg vs.toArray,.agg us.toArray] w fun e w'=>e = .returned (.int .i64 0)/\Below w.heap.size w w':=by
 have he:(K8 n).E Dl 0 true [.ag ((Gi a c d f).map .d),.ag ((G8 g i j k l m o p).map .d)] (fun _=>none) some=some ⟨.d (.int .i64 0),[],[]⟩:=by
  show gb true (Zm n a c d f g i j k l m o p some) 0 (fun r=>(some ⟨.d (D.int .i64 r),[],[]⟩:Option Dl))=_;rw [h];rfl
 exact J6 (XO ((K8 n).ok) he) hS (Gs (RdLs.agg q) (RdLs.agg s))
theorem NU:∀ (n k:Nat),JU (fun _=>0) n k=0
 |0,_=>rfl
 |n+1,k=>by simp [JU,NU n (k+1)]
theorem Q1X (n:Nat) (a c d f:LL) (g:Int) (i j l m o p q:LL) (res:Int) {hl:Nat->Option Ob} (h:UO n a c d f g i j l m o p q some=some res):Ze Tryz.prog 25 [.ag [.d (D.sl 1 a),.d (D.sl 1 c),.d (D.sl 5 d),.d (D.sl 6 f)],.ag [.d (D.int .i64 g),.d (D.sl 5 i),.d (D.sl 2 j),.d (D.sl 4 l),.d (D.sl 7 m),.d (D.sl 4 o),.d (D.sl 5 p),.d (D.sl 3 q)]] hl ⟨.d (D.int .i64 res),[],[]⟩:=by
 obtain ⟨aq,h⟩:=QX h;injection h with h
 subst h;simp only [Q5z,QeZ] at aq;obtain ⟨⟨⟨⟨⟨⟨⟨k0,k1⟩,k2⟩,k3⟩,k4⟩,k5⟩,k6⟩,k7⟩:=aq;refine Rh (fn:=Tryz.f25) (by kernel_rfl) (by kernel_rfl) (by kernel_rfl) rfl rfl fun S w args hS hA=>?_
 obtain ⟨v,u,rfl,hv,hu⟩:=Q6z hA;obtain ⟨vs,rfl,hr⟩:=Q1p (xs:=Gi a c d f) hv;obtain ⟨us,rfl,hq⟩:=Q1p (xs:=G8 g i j l m o p q) hu;have ao:=hr.len;have ap:=hq.len
 match vs,us,ao,ap with
 |[r,s,t,y],[z,u1,u2,u3,u4,u5,u6,u7],_,_=>
  refine (Tryz.plancheck_calls w r s t y z u1 u2 u3 u4 u5 u6 u7 (fun _=>0) (fun k hk w' hs hw=>?_) (fun x hx=>?_)).mono fun e w' ⟨he,hB⟩=>?_
  ·have am:∀ b,S b->b<w'.heap.size:=fun b hb=>Nat.lt_of_lt_of_le (hS b hb) hs
   have ak:=hr.keep hS hw;have an:=hq.keep hS hw;obtain rfl | rfl | rfl | rfl | rfl | rfl | rfl | rfl:k=0\/k=1\/k=2\/k=3\/k=4\/k=5\/k=6\/k=7:=by omega
   ·exact FF (Uy k0) am ak an
   ·exact L3 (Uy k1) am ak an
   ·exact L8 (Uy k2) am ak an
   ·exact FH (Uy k3) am ak an
   ·exact Nc (Uy k4) am ak an
   ·exact LU (Uy k5) am ak an
   ·exact LP (Uy k6) am ak an
   ·exact NM (Uy k7) am ak an
  ·rcases List.mem_append.1 (show x∈[r,s,t,y]++[z,u1,u2,u3,u4,u5,u6,u7] from hx) with h | h
   ·exact hr.one x h
   ·exact hq.one x h
  ·rw [NU] at he;exact ⟨_,S,he,fun b h=>h,fun b h=>.inl h,fun b h=>Nat.lt_of_lt_of_le (hS b h) hB.size,.d _ _ (.int _ _),hB⟩
end Go.Vx
namespace Go.Vx
open Go.Proofs
def KL (n:Nat):GV:=fun _ _ g ak _ k=>match ak with
 | [c0,c1]=>
  prG c0 fun l0=>(match l0 with
  | [a,b,c,d]=>prS g 1 a fun e=>prS g 1 b fun f=>prS g 5 c fun h=>prS g 6 d fun i=>
  prG c1 fun l1=>(match l1 with
  | [j,l,m,o,p,q,s,t]=>prI g .i64 j fun u=>prS g 5 l fun v=>prS g 2 m fun x=>prS g 4 o fun y=>prS g 7 p fun z=>prS g 4 q fun aa=>prS g 5 s fun ab=>prS g 3 t fun ac=>
  gb g (UO n e f h i u v x y z aa ab ac some) 0 fun r=>k ⟨.d (D.int .i64 r),[],[]⟩
  | _=>none)
  | _=>none)
 | _=>none
theorem NI (n:Nat):Uu Tryz.prog 25 (KL n):=by
  intro R am g an hl k r h
  unfold KL at h
  split at h
  rotate_left
  · cases h
  replace h:=BN h
  obtain ⟨l0,h,q⟩:=h
  subst q
  split at h
  rotate_left
  · cases h
  replace h:=Wg h
  obtain ⟨a,h,s⟩:=h
  replace h:=Wg h
  obtain ⟨b,h,t⟩:=h
  replace h:=Wg h
  obtain ⟨c,h,u⟩:=h
  replace h:=Wg h
  obtain ⟨d,h,v⟩:=h
  replace h:=BN h
  obtain ⟨l1,h,e1⟩:=h
  subst e1
  split at h
  rotate_left
  · cases h
  replace h:=VU h
  obtain ⟨e,h,x⟩:=h
  replace h:=Wg h
  obtain ⟨f,h,y⟩:=h
  replace h:=Wg h
  obtain ⟨i,h,z⟩:=h
  replace h:=Wg h
  obtain ⟨j,h,aa⟩:=h
  replace h:=Wg h
  obtain ⟨l,h,ab⟩:=h
  replace h:=Wg h
  obtain ⟨m,h,ac⟩:=h
  replace h:=Wg h
  obtain ⟨o,h,ad⟩:=h
  replace h:=Wg h
  obtain ⟨p,h,ae⟩:=h
  replace h:=Qt h
  obtain ⟨res,h,hr⟩:=h
  exact ⟨_,h,fun hg=>Ze.conv (avs':=[.ag [.d (D.sl 1 a),.d (D.sl 1 b),.d (D.sl 5 c),.d (D.sl 6 d)],.ag [.d (D.int .i64 e),.d (D.sl 5 f),.d (D.sl 2 i),.d (D.sl 4 j),.d (D.sl 7 l),.d (D.sl 4 m),.d (D.sl 5 o),.d (D.sl 3 p)]]) (.cons (.ag (.cons (s hg) (.cons (t hg) (.cons (u hg) (.cons (v hg) .nil))))) (.cons (.ag (.cons (x hg) (.cons (y hg) (.cons (z hg) (.cons (aa hg) (.cons (ab hg) (.cons (ac hg) (.cons (ad hg) (.cons (ae hg) .nil))))))))) .nil)) (Q1X n a b c d e f i j l m o p res (hr hg))⟩
end Go.Vx
set_option maxRecDepth 100000
namespace Go.Vx
open Go.Proofs
noncomputable def Yv (n:Nat):VB:=X5 [] [(0,⟨[0,9,10,11],(zp (rg1 1000000 7 []) (1000000::rg1 98012 4 [98017,98018])),[],[],[]⟩),cO 1 (0::rg1 9 4 []) (rg1 98012 4 [98017,98018,1000000]),cO 2 [0,2,3,9,10,11] (3::rg1 98012 4 [98017,98018,1000000]),(3,⟨[0,2,3,9,10,11],(zp (3::29::rg1 98013 3 [98017,98018,1000000]) (3::rg1 98012 4 [98017,98018,1000000])),[],[],[]⟩),cO 4 [0,2,9,10,11,34,35] (rg1 98012 4 [98017,98018,1000000]),cO 5 [0,2,9,10,11,34,35,36] (rg1 98012 4 [98017,98018,1000000]),cO 6 [0,2,4,9,10,11,34,35] (rg1 98012 4 [98017,98018,1000000]),(7,⟨[0,2,9,10,11,34,35],(zp (51::rg1 98012 4 [98018,1000000]) (98017::rg1 98012 4 [98018,1000000])),[],[],[]⟩),cO 8 [0,2,9,10,11,34,35] (rg1 98012 4 [98017,98018,1000000]),cO 9 [0,9,10,11] (rg1 98012 4 [98017,98018,1000000]),cO 3000000001 [0,9,10,11] (rg1 98012 4 [98017,98018,1000000])]
noncomputable def Jt (n:Nat) (m:Nat):LpE Tryz.prog:=mkL (Yv n).ok nT 5 (cA [1,2,2,1,1,0,2,1,1,1,2,2] (Q6 Tryz.f26)) ⟨57,[(0,.ptr 1000000 0),(2,tI),(9,.l 4),(10,tI),(11,tI),(34,tI),(35,tI)],[(98012,.arr 3 1),(98013,.arr 62 1),(98014,.arr 3 1),(98015,.arr 139 4),(98017,.arr 54 3),(98018,.arr 52 6),(1000000,.box [.l 1,.l 1,.l 5,.l 6,tI,.l 5,.l 2,.l 4,.l 7,.l 4,.l 5,.l 3,.arr 98012,.arr 98013,.arr 98014,.arr 98015,tI,.arr 98017,.arr 98018])]⟩ [yI,yL,yI,yI,yI,yI,yL,yL,yL,yL,yL,yL,yL,yL,yL,yL,yI,yL,yL,yL,yL,yL,yL,yL,yI] (fun m R k (c:Int) (e:LL) (f g d a:Int) (h i j l b o p q r s:LL) (t:Int) (u v x y z aa ab:LL) (ac:Int)=>QW n c d (fun a ad b=>k (.exit 2) ⟨57,[(0,.ptr 1000000 0),(2,dI c),(9,dL 4 e),(10,dI f),(11,dI g),(34,dI d),(35,dI a),(36,dB ad)],[(98012,.arr 3 1 h),(98013,.arr 62 1 i),(98014,.arr 3 1 j),(98015,.arr 139 4 l),(98017,.arr 54 3 b),(98018,.arr 52 6 o),(1000000,.box [dL 1 p,dL 1 q,dL 5 r,dL 6 s,dI t,dL 5 u,dL 2 v,dL 4 x,dL 7 y,dL 4 z,dL 5 aa,dL 3 ab,.arr 98012,.arr 98013,.arr 98014,.arr 98015,dI ac,.arr 98017,.arr 98018])]⟩) m a b) m
noncomputable def JE (n:Nat) (m:Nat):LpE Tryz.prog:=mkL (Yv n).ok [Jt n n] 1 (cA [1,2,2] (Q6 Tryz.f26)) ⟨57,[(0,.ptr 1000000 0),(9,.l 4),(10,tI),(11,tI)],[(98012,.arr 3 1),(98013,.arr 62 1),(98014,.arr 3 1),(98015,.arr 139 4),(98017,.arr 54 3),(98018,.arr 52 6),(1000000,.box [.l 1,.l 1,.l 5,.l 6,tI,.l 5,.l 2,.l 4,.l 7,.l 4,.l 5,.l 3,.arr 98012,.arr 98013,.arr 98014,.arr 98015,tI,.arr 98017,.arr 98018])]⟩ [yL,yI,yI,yL,yL,yL,yL,yL,yL,yL,yL,yL,yL,yI,yL,yL,yL,yL,yL,yL,yL,yI] (fun m R k d h2 a b e f g c h i j l o p q r s t u v x y=>QH n d h2 (fun a z b c=>k (.exit 0) ⟨57,[(0,.ptr 1000000 0),(9,dL 4 d),(10,dI h2),(11,dI a),(12,dB z)],[(98012,.arr 3 1 b),(98013,.arr 62 1 e),(98014,.arr 3 1 f),(98015,.arr 139 4 g),(98017,.arr 54 3 c),(98018,.arr 52 6 h),(1000000,.box [dL 1 i,dL 1 j,dL 5 l,dL 6 o,dI p,dL 5 q,dL 2 r,dL 4 s,dL 7 t,dL 4 u,dL 5 v,dL 3 x,.arr 98012,.arr 98013,.arr 98014,.arr 98015,dI y,.arr 98017,.arr 98018])]⟩) m a b c) m
noncomputable def WU (n:Nat):EnP Tryz.prog 26:=mkG (Yv n).ok [JE n n] 26 Tryz.f26 [eP 1000000 19,sL 1,sL 1,sL 5,sL 6,sI,sL 5,sL 2,sL 4,sL 7,sL 4,sL 5,sL 3,eR 1000001 3 1,eR 1000002 62 1,eR 1000003 3 1,eR 1000004 139 4,sI,eR 1000005 54 3,eR 1000006 52 6] [eT 0,eI 1000000 19,sL 1,sL 1,sL 5,sL 6,sI,sL 5,sL 2,sL 4,sL 7,sL 4,sL 5,sL 3,eR 98012 3 1,eR 98013 62 1,eR 98014 3 1,eR 98015 139 4,sI,eR 98017 54 3,eR 98018 52 6,eG 1000001,eG 1000002,eG 1000003,eG 1000004,eG 1000005,eG 1000006] [98012,98013,98014,98015,98017,98018] (pK (Y2 n))
noncomputable def PO (n:Nat):VB:=X5 [] [cO 0 [1,2] [2],cK 1 [1,8,9,10],cK 2 [1,8,9,10,11],cO 3 [1,6,8,9,10] [6],cO 4 [1,6,8,9,10,17] [6],cK 5 [4],cK 6 [1,8,9,10],cK 7 [4]]
noncomputable def EX (n:Nat) (m:Nat):LpE Tryz.prog:=mkL (PO n).ok nT 2 (cA [1,0,1,2,2] (Q6 Tryz.f59)) ⟨22,[(1,tI),(8,.l 4),(9,tI),(10,tI)],[]⟩ [yI,yL,yI,yI] (fun m R k b h2 c a=>WM n b h2 c (fun d=>k .ret ⟨22,[(4,dI d)],[]⟩) (fun a e=>k (.exit 0) ⟨22,[(1,dI b),(8,dL 4 h2),(9,dI c),(10,dI a),(11,dB e)],[]⟩) m a) m
noncomputable def SU (n:Nat):EnP Tryz.prog 59:=mkE (PO n).ok [EX n n] 59 Tryz.f59 [[0]] [eA [qI,qL 5,qL 2,qL 4,qL 7,qL 4,qL 5,qL 3],sI] [sI] (pK (JZ n))

noncomputable def GC (n:Nat):VB:=X5 [⟨98,Gj n⟩] [cO 0 [0,1,5] [5],cK 1 [0,1,9],cK 2 [6],cK 3 [0,1,13],cK 4 [6],cK 5 [0,1,17,18,19],cK 6 [0,1,17,18,19,20],cO 7 [0,1,8,17,18,19] [8],cK 8 [0,1,17,18,19,40],cK 9 [6],cK 10 [0,1,17,18,19],cK 11 [50],cK 12 [6],cK 13 [6]]
noncomputable def SK (n:Nat) (m:Nat):LpE Tryz.prog:=mkL (GC n).ok nT 6 (cA [1,1,0,1,2,2] (Q6 Tryz.f192)) ⟨51,[(0,.l 2),(1,tI),(17,.l 2),(18,tI),(19,tI)],[]⟩ [yL,yI,yL,yI,yI] (fun m R k h2 d b c a=>Ye n b c (k .ret ⟨51,[(6,dI (4:Int))],[]⟩) (fun a e=>k (.exit 1) ⟨51,[(0,dL 2 h2),(1,dI d),(17,dL 2 b),(18,dI c),(19,dI a),(20,dB e)],[]⟩) m a) m
noncomputable def RI (n:Nat):EnP Tryz.prog 192:=mkE (GC n).ok [SK n n] 192 Tryz.f192 [[0]] [sL 2,sI,eA [qT,qI,qI,qI,qI]] [sI] (pK (UN n))

noncomputable def HV (n:Nat):VB:=X5 [] [cO 0 [0,1,5] [5],cO 1 [0,1,5,7] [5],cK 2 [7,20,21,22],cK 3 (7::rg1 20 4 []),cO 4 [7,9,20,21,22] [9],cK 5 [7,20,21,22],cK 6 [7,20,21,22],cK 7 [6]]
noncomputable def MT (n:Nat) (m:Nat):LpE Tryz.prog:=mkL (HV n).ok nT 3 (cA [1,1,0,1,2,2] (Q6 Tryz.f200)) ⟨32,[(7,tI),(20,.l 2),(21,tI),(22,tI)],[]⟩ [yI,yL,yI,yI] (fun m R k h2 b c a=>Zv n b c (fun h2 a d=>k (.exit 0) ⟨32,[(7,dI h2),(20,dL 2 b),(21,dI c),(22,dI a),(23,dB d)],[]⟩) m h2 a) m
noncomputable def LV (n:Nat):EnP Tryz.prog 200:=mkE (HV n).ok [MT n n] 200 Tryz.f200 [[0]] [sL 2,sI,eA [qT,qI,qI,qI,qI]] [sI] (pK (V9 n))

noncomputable def LZ (n:Nat):VB:=X5 [] [cO 0 [2,3] [2,3],cO 1 [2,3,5] [2,3],cO 2 [2,3,5,10] [2,3],cK 3 [5],cK 4 [4]]
noncomputable def D7 (n:Nat):EnP Tryz.prog 201:=mkE (LZ n).ok nT 201 Tryz.f201 [[0]] [eA [qI,qI],eA [qT,qI,qI,qI,qI]] [sI] (pK (GO n))

noncomputable def F5 (n:Nat):VB:=X5 [] [cO 0 [2,3] [2,3],cO 1 [2,3,5] [2,3],cO 2 [2,3,5,10] [2,3],cK 3 [5],cK 4 [4]]
noncomputable def EZ (n:Nat):EnP Tryz.prog 202:=mkE (F5 n).ok nT 202 Tryz.f202 [[0]] [eA [qI,qI],eA [qT,qI,qI,qI,qI]] [sI] (pK (GD n))

noncomputable def Vk (n:Nat):VB:=X5 [⟨200,LV n⟩,⟨201,D7 n⟩,⟨202,EZ n⟩] [cO 0 [0,1,5] [5],cO 1 [0,1,5,7] [5],cO 2 [0,1,5,7,8] [5,20],cO 3 [0,1,5,7,8,9] [5,20],cO 4 [0,1,5,7,8,9,10] [5,20],cO 5 [0,1,5,7,8,9,10,29] [5,20],cO 6 [0,1,5,7,8,9,10] [5,20],cO 7 [0,1,5,7,8,9,10,11] [5,20],cO 8 [0,1,5,7,8,10,11,12] [5,20],cO 9 [0,1,5,7,8,10,11] [5,20],cO 10 [0,1,5,7,8,9,10] [5,20],cO 11 [0,1,5,8,13] [5,20],cO 12 [0,1,5,8,13,68] [5,20],cO 13 [0,1,5,8,13] [5,20],cO 14 [0,1,5,8,13] [5,20],cO 15 [6] [20]]
noncomputable def Rs (n:Nat) (m:Nat):LpE Tryz.prog:=mkL (Vk n).ok nT 5 (cA [1,1,1,1,0,1,2,2] (Q6 Tryz.f193)) ⟨98,[(0,.l 2),(1,tI),(5,.ptr 5 0),(7,tI),(8,.arr 20),(9,tI),(10,tI)],[(5,.box [.t,tI,tI,tI,tI]),(20,.arr 3 1)]⟩ [yL,yI,yI,yI,yI,yT,yI,yI,yI,yI,yL] (fun m R k d e f a b g h i j l c=>XX n d e f g h i j l (fun a b o c=>k (.exit 0) ⟨98,[(0,dL 2 d),(1,dI e),(5,.ptr 5 0),(7,dI f),(8,.arr 20),(9,dI a),(10,dI b),(29,dB o)],[(5,.box [dT g,dI h,dI i,dI j,dI l]),(20,.arr 3 1 c)]⟩) m a b c) m
noncomputable def RJ (n:Nat) (m:Nat):LpE Tryz.prog:=mkL (Vk n).ok nT 12 (cA [1,1,1,1,1,0,1,2,2] (Q6 Tryz.f193)) ⟨98,[(0,.l 2),(1,tI),(5,.ptr 5 0),(8,.arr 20),(13,tI)],[(5,.box [.t,tI,tI,tI,tI]),(20,.arr 3 1)]⟩ [yL,yI,yI,yT,yI,yI,yI,yI,yL] (fun m R k c d a e f g h i b=>Yw n c d e f g h i (fun a j b=>k (.exit 2) ⟨98,[(0,dL 2 c),(1,dI d),(5,.ptr 5 0),(8,.arr 20),(13,dI a),(68,dB j)],[(5,.box [dT e,dI f,dI g,dI h,dI i]),(20,.arr 3 1 b)]⟩) m a b) m
noncomputable def Nx (n:Nat):EnP Tryz.prog 193:=mkG (Vk n).ok [Rs n n,RJ n n] 193 Tryz.f193 [sL 2,sI,eA [qT,qI,qI,qI,qI]] [eR 20 3 1] [20] (pK (Ve n))

noncomputable def ND (n:Nat):VB:=X5 [] [cK 0 [0],cK 1 [0,3],cK 2 [0,3,4],cK 3 [0,3,4,7],cK 4 [0,3,4],cK 5 [0,3,4,5],cK 6 [0,3,4,5,17],cK 7 [0,3,4],cK 8 [2]]
noncomputable def BD (n:Nat) (m:Nat):LpE Tryz.prog:=mkL (ND n).ok nT 3 (cA [1,1,0,1,2,2] (Q6 Tryz.f194)) ⟨20,[(0,tI),(3,tI),(4,tI)],[]⟩ [yI,yI,yI] (fun m R k b h2 a=>U7 n b (fun h2 a c=>k (.exit 0) ⟨20,[(0,dI b),(3,dI h2),(4,dI a),(7,dB c)],[]⟩) m h2 a) m
noncomputable def Q0r (n:Nat):EnP Tryz.prog 194:=mkE (ND n).ok [BD n n] 194 Tryz.f194 [[0]] [sI] [sI] (pK (HA n))

noncomputable def KM (n:Nat):VB:=X5 [⟨192,RI n⟩,⟨193,Nx n⟩,⟨194,Q0r n⟩] [cO 0 [0,1,5] [5],cO 1 [0,1,5,8] [5],cO 2 [0,1,5,8,17] [5],cK 3 [6,7],cO 4 [9] [50022],cO 5 [9,23,24,25] [50022],cO 6 (9::rg1 23 4 []) [50022],cO 7 [9,10,11,23,24,25] [50022],cO 8 [9,23,24,25] [50022],cO 9 [9,23,24,25] [50022],cO 10 [6,7] [50022]]
noncomputable def NN (n:Nat) (m:Nat):LpE Tryz.prog:=mkL (KM n).ok nT 6 (cA [1,1,1,0,1,2,2] (Q6 Tryz.f184)) ⟨37,[(9,.arr 50022),(23,.arr 50022),(24,tI),(25,tI)],[(50022,.arr 3 1)]⟩ [yI,yI,yL] (fun m R k c a b=>Z1 n c (fun a d b=>k (.exit 0) ⟨37,[(9,.arr 50022),(23,.arr 50022),(24,dI c),(25,dI a),(26,dB d)],[(50022,.arr 3 1 b)]⟩) m a b) m
noncomputable def Lc (n:Nat):EnP Tryz.prog 184:=mkE (KM n).ok [NN n n] 184 Tryz.f184 [[1],[0]] [sL 2,sI,eA [qT,qI,qI,qI,qI]] [eT 2,sL 1,sI] (pK (VL n))

noncomputable def Fl (n:Nat):VB:=X5 [] [cK 0 [0,1],cK 1 [0,1,8],cK 2 [4,5],cK 3 [0,1,6],cK 4 [6,15],cK 5 [6],cK 6 [4,5]]
noncomputable def Sb (n:Nat):EnP Tryz.prog 167:=mkE (Fl n).ok nT 167 Tryz.f167 [[0],[0]] [sI,sI] [eT 2,sI,sI] (pK (Jb n))

noncomputable def HJ (n:Nat):VB:=X5 [⟨184,Lc n⟩,⟨167,Sb n⟩] [cO 0 [0,1,5] [5],cK 1 [8,9],cK 2 [8,9,22],cK 3 [6,7],cO 4 [8,10] [26],cO 5 [8,10,11] [26],cO 6 [8,10,11,30] [26],cO 7 [8,10,11] [26],cO 8 [8,10,11,12] [26],cO 9 [8,10,11] [26],cO 10 [6,7] [26]]
noncomputable def Mm (n:Nat) (m:Nat):LpE Tryz.prog:=mkL (HJ n).ok nT 6 (cA [1,1,1,1,0,1,2,2] (Q6 Tryz.f166)) ⟨58,[(8,.l 1),(10,.arr 26),(11,tI)],[(26,.arr 3 1)]⟩ [yL,yI,yL] (fun m R k c a b=>Zz n c (fun a d b=>k (.exit 0) ⟨58,[(8,dL 1 c),(10,.arr 26),(11,dI a),(30,dB d)],[(26,.arr 3 1 b)]⟩) m a b) m
noncomputable def Fx (n:Nat):EnP Tryz.prog 166:=mkE (HJ n).ok [Mm n n] 166 Tryz.f166 [[1],[0]] [sL 2,sI,eA [qT,qI,qI,qI,qI]] [eT 2,sL 1,sI] (pK (V0 n))

noncomputable def C1 (n:Nat):VB:=X5 [⟨167,Sb n⟩] [cK 0 [0],cK 1 [3],cK 2 [2]]
noncomputable def TF (n:Nat):EnP Tryz.prog 140:=mkE (C1 n).ok nT 140 Tryz.f140 [[0]] [sI] [sI] (pK (Vg n))

noncomputable def HO (n:Nat):VB:=X5 [⟨138,R3 n⟩,⟨166,Fx n⟩,⟨165,GB n⟩,⟨140,TF n⟩] [cO 0 (rg1 3 5 []) [3,4,5],cO 1 (rg1 3 5 [9,10]) [3,4,5,10],cO 2 (rg1 3 5 [9,10,25]) [3,4,5,10],cK 3 [6,7,8,9],cO 4 (rg1 3 5 [11]) [3,4,5],cO 5 [3,5,6,7,11,13] [3,5],cO 6 [3,5,6,7,11,13,14] [3,5],(7,⟨[3,5,6,7,11,13,14,38,39,40],[(3,3),(5,5)],[(6,1006,3,1),(7,1007,3,1)],[],[]⟩),cO 8 [3,5,6,7,11,13,14,38,39,40,41] [3,5,1006,1007],cO 9 [3,5,6,7,11,13,14,15,16,38,39,40] [3,5,16,1006,1007],cO 10 [3,5,6,7,11,13,14,15,16,38,39,40] [3,5,16,51,1007],cO 11 [3,5,6,7,11,13,14,15,16,38,39,40,53] [3,5,16,51,1007],cO 12 [3,5,6,7,11,13,14,15,38,39,40] [3,5,51,1007],cO 13 [3,5,6,7,11,13,14,38,39,40,67] [3,5,51,1007],cO 14 [3,5,6,7,11,13,14,38,39,40] [3,5,51,77],cO 15 [3,5,6,7,11,13,14,38,39,40] [3,5,51,77,1007],cO 16 [6,7,11,14] [85,1006],cO 17 [6,7,8,9] [85,1006],(3000000008,⟨[3,5,6,7,11,13,14,38,39,40],(zp [3,5,51,1006,77,1007] [3,5,1006,1006,1007,1007]),[],[],[]⟩)]
noncomputable def MV (n:Nat) (m:Nat):LpE Tryz.prog:=mkL (HO n).ok nT 8 (cA [1,1,1,1,1,1,0,1,2,2] (Q6 Tryz.f139)) ⟨93,[(3,.ptr 3 0),(5,.ptr 5 0),(6,.arr 1006),(7,.arr 1007),(11,.l 1),(13,.l 2),(14,tI),(38,.l 2),(39,tI),(40,tI)],[(3,.box [.l 1,.l 1,.l 5,.l 6]),(5,.box [.t,tI,tI,tI,tI]),(1006,.arr 3 1),(1007,.arr 3 1)]⟩ [yL,yL,yI,yL,yI,yI,yL,yL,yL,yL,yT,yI,yI,yI,yI,yL,yL] (fun m R k e f a g h b l o i p q j r s t c d=>Xy n e f g h i j (fun a b u c d=>k (.exit 0) ⟨93,[(3,.ptr 3 0),(5,.ptr 5 0),(6,.arr 1006),(7,.arr 1007),(11,dL 1 e),(13,dL 2 f),(14,dI a),(38,dL 2 g),(39,dI h),(40,dI b),(41,dB u)],[(3,.box [dL 1 l,dL 1 o,dL 5 i,dL 6 p]),(5,.box [dT q,dI j,dI r,dI s,dI t]),(1006,.arr 3 1 c),(1007,.arr 3 1 d)]⟩) m a b c d) m
noncomputable def TV (n:Nat):EnP Tryz.prog 139:=mkE (HO n).ok [MV n n] 139 Tryz.f139 [[1],[1],[0],[0]] [eA [qL 1,qL 1,qL 5,qL 6],eA [qL 2,qI],eA [qT,qI,qI,qI,qI]] [eT 4,sL 1,sL 1,sI,sI] (pK (JW n))

noncomputable def Ml (n:Nat):VB:=X5 [] [cK 0 [0,1],cK 1 [0,1,8],cK 2 [4,5],cK 3 [0,1,6],cK 4 [6,15],cK 5 [6],cK 6 [4,5]]
noncomputable def Fc (n:Nat):EnP Tryz.prog 168:=mkE (Ml n).ok nT 168 Tryz.f168 [[0],[0]] [sI,sI] [eT 2,sI,sI] (pK (KW n))

noncomputable def Fm (n:Nat):VB:=X5 [⟨168,Fc n⟩] [cK 0 [0],cK 1 [3],cK 2 [2]]
noncomputable def PX (n:Nat):EnP Tryz.prog 141:=mkE (Fm n).ok nT 141 Tryz.f141 [[0]] [sI] [sI] (pK (U2 n))

noncomputable def SJ (n:Nat):VB:=X5 [] [cO 0 [1] [1],cO 1 [2] [10]]
noncomputable def Kl (n:Nat):EnP Tryz.prog 142:=mkG (SJ n).ok nT 142 Tryz.f142 [eA [qL 1,qL 1,qL 5,qL 6]] [eR 10 142 3] [10] (pK (UI n))

noncomputable def Vw (n:Nat):VB:=X5 [] [cO 0 [1,2,3,8] [1000000],cO 1 [1,2,3,8,20] [1000000],cO 2 [1,2,3,8] [1000000],cO 3 [] [1000000]]
def WK:AV->List (Nat × Ob)->Option (LL):=fun av H=>(look H 1000000).bind fun a=>match av,a with
 | .tup [],.arr p0 p1 b=>bif Nat.beq p0 142&&(Nat.beq p1 3) then some b else none
 | _,_=>none
theorem Hg (n:Nat) (a:LL) (a1 a2 a3:Int):vfnT (Vw n).C nT Tryz.f143 [.arr 1000000,.d (D.int .i64 a1),.d (D.int .i64 a2),.d (D.int .i64 a3)] [(1000000,.arr 142 3 a)] WK=QU n a a1 a2 a3 some:=by kernel_rfl
def U5 (n:Nat):GV:=fun _ am g ak hl k=>match ak with
 | [.gd _ _ .nil]=>bif g then none else k ⟨.nil,[],[]⟩
 | [c0,c1,b,c]=>prR hl 142 3 c0 fun l0 a=>prI g .i64 c1 fun a1=>prI g .i64 b fun a2=>prI g .i64 c fun a3=>
  bif HK hl [(1000000,l0)] [] then gb g (QU n a a1 a2 a3 some) [] fun r=>gb g (Ku r (List.length a)) () fun _=>k ⟨.tup [],[(l0,some (.arr 142 3 r))],[l0]⟩ else none
 | _=>none
theorem HG (n:Nat):Uu Tryz.prog 143 (U5 n):=by
  intro R ao g ar hl k r h
  unfold U5 at h
  split at h
  · exact HI h
  rotate_left
  · cases h
  obtain ⟨l0,a,h,c,d⟩:=Nt h
  obtain ⟨a1,h,e⟩:=VU h
  obtain ⟨a2,h,f⟩:=VU h
  obtain ⟨a3,h,i⟩:=VU h
  obtain ⟨hc,h⟩:=QX h
  obtain ⟨res,h,hr⟩:=Qt h
  obtain ⟨_,h,ak⟩:=Qt h
  have hL:=h
  subst c
  refine ⟨_,hL,fun hg=>L9 (K:=WK) (res:=res) (Vw n).ok nT (fn:=Tryz.f143) (ρ:=[(1000000,l0)]) (ν:=[]) (avs':=[.arr 1000000,.d (D.int .i64 a1),.d (D.int .i64 a2),.d (D.int .i64 a3)]) (H:=[(1000000,.arr 142 3 a)]) (.cons (.own rfl rfl) (.cons (.data rfl (e hg)) (.cons (.data rfl (f hg)) (.cons (.data rfl (i hg)) (.nil))))) hc (⟨⟨by decide,_,_,d,rfl,.arr _ _ _⟩,trivial⟩) ?_ ?_⟩
  · exact (Hg n a a1 a2 a3).trans (hr hg)
  · intro av H' hx
    unfold WK at hx
    simp only [QeX] at hx
    obtain ⟨j,b,hx⟩:=hx
    split at hx
    rotate_left
    · cases hx
    replace hx:=QX hx
    obtain ⟨an,hx⟩:=hx
    simp only [QeZ,Nat.beq_eq] at an
    obtain ⟨rfl,rfl⟩:=an
    injection hx with hx
    subst hx
    refine ⟨rfl,?_,trivial,⟨Hj rfl b (GY (ak hg)),trivial⟩⟩
    simp only [List.cons_append,Qf0,KV,b,Option.map_some,Option.map_none]
    rfl

noncomputable def AK (n:Nat):VC:=⟨Gv [(94,V3 n)],gtt,[cO 0 [2,3] [2,3],cK 1 [4]]⟩
theorem Bv (n:Nat):VCOk Tryz.prog (AK n):=gVC (Ug ⟨Ka n,trivial⟩)
noncomputable def Q00 (n:Nat):EnP Tryz.prog 185:=mkE (Bv n) nT 185 Tryz.f185 [[0]] [eA [qL 1,qL 1,qL 5,qL 6],eA [qI,qI]] [sB] (pK (Sl n))

noncomputable def EJ (n:Nat):VB:=X5 [] [cO 0 [1,2] [1,2],cO 1 [1,2,5] [1,2],cO 2 [2] [2],cO 3 [2] [2]]
noncomputable def DZ (n:Nat):EnP Tryz.prog 186:=mkE (EJ n).ok nT 186 Tryz.f186 [[0,0]] [eA [qI,qI]] [eA [qI,qI]] (pK (PL n))

noncomputable def SX (n:Nat):VB:=X5 [⟨185,Q00 n⟩,⟨158,GS n⟩,⟨186,DZ n⟩] [cO 0 [2,3] [2,3],cO 1 [2,3,14] [2,3],cK 2 [4],cO 3 [2,3,5] [2,3,5],cO 4 [2,5,20] [2,5],cO 5 [2,5] [2,5],cO 6 [2,5,6] [2,5],(7,⟨[5,6,23,24,25],[(5,5)],[(6,1006,169,4)],[],[]⟩),cO 8 [5,6,23,24,25,26] [5,1006],cO 9 [5,6,8,23,24,25] [5,8,1006],cO 10 [5,6,8,9,10,23,24,25] [5,8,9,10,1006],cO 11 [5,6,8,9,10,23,24,25,34] [5,8,9,10,1006],cO 12 [5,6,8,9,10,23,24,25,34,35] [5,8,9,10,1006],cO 13 [5,6,23,24,25] [5,47],cO 14 [5,6,8,9,23,24,25,48] [5,8,9,1006],cO 15 [5,6,23,24,25] [5,60],cO 16 [5,6,23,24,25] [5,47,60,1006],cO 17 [4] [1006],(3000000008,⟨[5,6,23,24,25],(zp [5,47,60,1006] [5,1006,1006,1006]),[],[],[]⟩)]
noncomputable def C9 (n:Nat) (m:Nat):LpE Tryz.prog:=mkL (SX n).ok nT 8 (cA [1,1,1,1,1,0,1,2,2] (Q6 Tryz.f169)) ⟨63,[(5,.ptr 5 0),(6,.arr 1006),(23,.l 6),(24,tI),(25,tI)],[(5,.box [tI,tI]),(1006,.arr 169 4)]⟩ [yL,yI,yI,yI,yI,yL] (fun m R k c d a e f b=>Zj n c d e f (fun a g b=>k (.exit 0) ⟨63,[(5,.ptr 5 0),(6,.arr 1006),(23,dL 6 c),(24,dI d),(25,dI a),(26,dB g)],[(5,.box [dI e,dI f]),(1006,.arr 169 4 b)]⟩) m a b) m
noncomputable def BS (n:Nat):EnP Tryz.prog 169:=mkE (SX n).ok [C9 n n] 169 Tryz.f169 [[4]] [eA [qL 1,qL 1,qL 5,qL 6],eA [qI,qI]] [sL 4] (pK (Ry n))

noncomputable def VD (n:Nat):VB:=X5 [⟨169,BS n⟩] [cO 0 [3,4,5] [3,4,5],cO 1 [5,11,12,13] [5],cO 2 (5::rg1 11 4 []) [5],cO 3 [5,8,11,12,13] [5,8],cO 4 [5,8,11,12,13,20] [5,8],cK 5 [6],cO 6 [5,11,12,13] [5],cK 7 [6]]
noncomputable def HU (n:Nat) (m:Nat):LpE Tryz.prog:=mkL (VD n).ok nT 2 (cA [1,0,1,2,2] (Q6 Tryz.f144)) ⟨24,[(5,.ptr 5 0),(11,.l 4),(12,tI),(13,tI)],[(5,.box [tI,tI])]⟩ [yL,yI,yI,yI,yI] (fun m R k h2 b a c d=>YV n h2 b c d (fun e=>k .ret ⟨24,[(6,dI e)],[]⟩) (fun a f=>k (.exit 0) ⟨24,[(5,.ptr 5 0),(11,dL 4 h2),(12,dI b),(13,dI a),(14,dB f)],[(5,.box [dI c,dI d])]⟩) m a) m
noncomputable def J1 (n:Nat):EnP Tryz.prog 144:=mkE (VD n).ok [HU n n] 144 Tryz.f144 [[0]] [eA [qL 1,qL 1,qL 5,qL 6],eA [qI,qI],eA [qI,qI]] [sI] (pK (YN n))

noncomputable def Js (n:Nat):VB:=X5 [] [cK 0 [0],cK 1 [0,3],(2,⟨[3,6,7,8],[],[(3,1003,142,3)],[],[]⟩),cO 3 [3,6,7,8,9] [1003],cO 4 [3,5,6,7,8] [5,1003],cO 5 [3,5,6,7,8,16] [5,1003],cO 6 [3,6,7,8] [20],cO 7 [3,6,7,8] [20,1003],cO 8 [2] [1003],(3000000003,⟨[3,6,7,8],[(20,1003),(1003,1003)],[],[],[]⟩)]
noncomputable def P5 (n:Nat) (m:Nat):LpE Tryz.prog:=mkL (Js n).ok nT 3 (cA [1,1,0,1,2,2] (Q6 Tryz.f145)) ⟨23,[(3,.arr 1003),(6,.l 3),(7,tI),(8,tI)],[(1003,.arr 142 3)]⟩ [yL,yI,yI,yL] (fun m R k c h2 a b=>XA n c h2 (fun a d b=>k (.exit 0) ⟨23,[(3,.arr 1003),(6,dL 3 c),(7,dI h2),(8,dI a),(9,dB d)],[(1003,.arr 142 3 b)]⟩) m a b) m
noncomputable def G6 (n:Nat):EnP Tryz.prog 145:=mkG (Js n).ok [P5 n n] 145 Tryz.f145 [sL 3] [eR 1003 142 3] [1003] (pK (U9 n))

noncomputable def P3 (n:Nat):VC:=⟨Gv [(139,(TV n).E),(140,(TF n).E),(141,(PX n).E),(142,(Kl n).E),(143,U5 n),(144,(J1 n).E),(145,(G6 n).E)],gtt,[cO 0 (rg1 3 5 []) [5,6,7],cO 1 (rg1 3 4 (rg1 13 4 [])) [5,6],cO 2 (rg1 3 4 (rg1 13 4 [35])) [5,6],cK 3 [10,11,12],cO 4 (rg1 3 4 [13,14,15,17]) [5,6],cO 5 [4,5,6,13,14,15,17,18] [5,6,48],cO 6 [4,5,6,13,14,15,17,18,19] [5,6,48],cO 7 [4,5,6,13,14,15,17,18,19,51] [5,6,48],cO 8 [4,5,6,13,14,15,17,18,19] [5,6,70],cO 9 [4,5,6,13,14,15,17,18,19] [5,6,70],cO 10 [5,6,13,15,17,18] [5,6,84],cO 11 [5,6,15,17,18,20] [5,6,20,84],cO 12 [5,6,15,17,18,20,21] [5,6,20,84,50095],cO 13 [5,6,15,17,18,20,21,97,98,99] [5,6,20,84,50095],cO 14 [5,6,15,17,18,20,21,97,98,99,100] [5,6,20,84,50095],cO 15 [5,6,15,17,18,20,21,22,23,97,98,99] [5,6,20,23,84,50095],cO 16 [5,6,15,17,18,20,21,22,23,97,98,99,106] [5,6,20,23,84,50095],cO 17 [5,6,15,17,18,20,21,22,23,97,98,99] [5,6,20,23,110,50095],cO 18 [5,6,15,17,18,20,21,22,23,97,98,99] [5,6,20,23,110,50095,84],cO 19 [5,6,15,17,18,20,21,22,23,97,98,99,126] [5,6,20,23,110,50095,84],cO 20 [5,6,15,17,18,20,21,22,24,97,98,99] [5,6,20,110,50095,84],cO 21 [5,6,15,17,18,20,21,97,98,99] [5,6,20,110,50095,84],cO 22 [5,6,15,17,18,20,21,22,24,97,98,99,147] [5,6,20,110,50095,84],cO 23 [5,6,15,17,18,20,21,22,24,97,98,99,150] [5,6,20,110,50095,84],cO 24 [5,6,15,17,18,20,21,97,98,99] [5,6,20,110,50095,84],cO 25 [5,6,15,17,18,20,21,97,98,99] [5,6,20,110,50095,84],cO 26 [10,11,12] [50174],(3000000007,⟨[4,5,6,13,14,15,17,18,19],(zp [5,6,48,70] [5,6,48,48]),[],[],[]⟩),(3000000014,⟨[5,6,15,17,18,20,21,97,98,99],(zp [5,6,20,84,110,50095] [5,6,20,84,84,50095]),[],[],[]⟩)]⟩
theorem U0 (n:Nat):VCOk Tryz.prog (P3 n):=gVC (Ug ⟨(TV n).ok,⟨(TF n).ok,⟨(PX n).ok,⟨(Kl n).ok,⟨HG n,⟨(J1 n).ok,⟨(G6 n).ok,trivial⟩⟩⟩⟩⟩⟩⟩)
noncomputable def Ts (n:Nat) (m:Nat):LpE Tryz.prog:=mkL (U0 n) nT 7 (cA [1,1,1,1,1,0,1,2,2] (Q6 Tryz.f112)) ⟨176,[(4,tI),(5,.ptr 5 0),(6,.ptr 6 0),(13,.l 1),(14,.l 1),(15,tI),(17,tI),(18,.arr 48),(19,tI)],[(5,.box [.l 1,.l 1,.l 5,.l 6]),(6,.box [.l 2,tI]),(48,.arr 142 3)]⟩ [yI,yL,yL,yI,yI,yI,yL,yL,yL,yL,yL,yI,yL] (fun m R k f c d g e a h i j l o p b=>Xs n c d e (fun a q b=>k (.exit 0) ⟨176,[(4,dI f),(5,.ptr 5 0),(6,.ptr 6 0),(13,dL 1 c),(14,dL 1 d),(15,dI g),(17,dI e),(18,.arr 48),(19,dI a),(51,dB q)],[(5,.box [dL 1 h,dL 1 i,dL 5 j,dL 6 l]),(6,.box [dL 2 o,dI p]),(48,.arr 142 3 b)]⟩) m a b) m
noncomputable def To (n:Nat) (m:Nat):LpE Tryz.prog:=mkL (U0 n) nT 14 (cA [1,1,1,1,1,1,1,1,1,0,1,2,2] (Q6 Tryz.f112)) ⟨176,[(5,.ptr 5 0),(6,.ptr 6 0),(15,tI),(17,tI),(18,.arr 84),(20,.ptr 20 0),(21,.arr 50095),(97,.l 2),(98,tI),(99,tI)],[(5,.box [.l 1,.l 1,.l 5,.l 6]),(6,.box [.l 2,tI]),(20,.box [.ci .i64 0,tI,tI]),(84,.arr 142 3),(50095,.arr 142 3)]⟩ [yI,yI,yL,yI,yI,yL,yL,yL,yL,yL,yI,yI,yI,yL,yL] (fun m R k q d e f a g h i j l r o p b c=>Qh n d e f g h i j l o p (fun a s b c=>k (.exit 2) ⟨176,[(5,.ptr 5 0),(6,.ptr 6 0),(15,dI q),(17,dI d),(18,.arr 84),(20,.ptr 20 0),(21,.arr 50095),(97,dL 2 e),(98,dI f),(99,dI a),(100,dB s)],[(5,.box [dL 1 g,dL 1 h,dL 5 i,dL 6 j]),(6,.box [dL 2 l,dI r]),(20,.box [dI (0:Int),dI o,dI p]),(84,.arr 142 3 b),(50095,.arr 142 3 c)]⟩) m a b c) m
noncomputable def Pa (n:Nat):EnP Tryz.prog 112:=mkE (U0 n) [Ts n n,To n n] 112 Tryz.f112 [[3],[0],[0]] [eA [qL 1,qL 1,qL 5,qL 6],eA [qL 2,qI],eA [qT,qI,qI,qI,qI],sI,sI] [eT 3,sL 3,sI,sI] (pK (UU n))

noncomputable def LW (n:Nat):VB:=X5 [⟨111,PD n⟩,⟨112,Pa n⟩] [cO 0 (rg1 3 5 []) [5,6,7],cO 1 (rg1 3 5 [13]) [5,6,7],cO 2 (rg1 3 5 [13,19]) [5,6,7],cK 3 [10,11,12],cO 4 (rg1 3 5 [34]) [5,6,7],cK 5 [10,11,12],cK 6 [10,11,12]]
noncomputable def PK (n:Nat):EnP Tryz.prog 60:=mkE (LW n).ok nT 60 Tryz.f60 [[3],[0],[0]] [eA [qL 1,qL 1,qL 5,qL 6],eA [qL 2,qI],eA [qT,qI,qI,qI,qI],sI,sI] [eT 3,sL 3,sI,sI] (pK (Wk n))

noncomputable def D3 (n:Nat):VC:=⟨Gv [(25,KL n),(59,(SU n).E),(60,(PK n).E)],gtt,[cO 0 [2,3] [2,3],cO 1 [2,3,21] [2,3],cK 2 [4,5,6],cO 3 [2,3,7] [2,3],cO 4 [2,3,7,8] [2,3],(5,⟨[2,3,7,8,23,24,25],[(2,2),(3,3)],[(7,1007,62,1),(8,1008,3,1)],[],[]⟩),cO 6 [2,3,7,8,23,24,25,26] [2,3,1007,1008],cO 7 [2,3,7,8,9,10,23,24,25] [2,3,10,1007,1008],cO 8 [2,3,7,8,9,10,23,24,25,31,32,33] [2,3,10,1007,1008],cO 9 [2,3,7,8,9,10,23,24,25,31,32,33,34] [2,3,10,1007,1008],cO 10 (2::3::rg1 7 6 [23,24,25,31,32,33]) [2,3,10,12,1007,1008],cO 11 (2::3::rg1 7 8 [23,24,25,31,32,33]) [2,3,10,12,1007,1008],cO 12 (2::3::rg1 7 8 [23,24,25,31,32,33,44]) [2,3,10,12,1007,1008],cO 13 (2::3::rg1 7 8 [23,24,25,31,32,33]) [2,3,10,12,1007,1008],cO 14 [2,3,7,8,9,10,12,13,14,23,24,25,31,32,33,50] [2,3,10,12,1007,1008],cO 15 [2,3,7,8,9,10,12,13,14,23,24,25,31,32,33] [2,3,10,12,1007,1008],cO 16 [2,3,7,8,9,10,15,16,17,23,24,25,31,32,33] [2,3,10,1007,1008],cO 17 [2,3,7,8,9,10,15,16,17,23,24,25,31,32,33,78] [2,3,10,1007,1008],cK 18 [4,5,6],cO 19 [2,3,7,8,9,10,16,23,24,25,31,32,33] [2,3,10,83,1008],cO 20 [2,3,7,8,9,10,23,24,25,31,32,33] [2,3,10,83,87],cO 21 [2,3,7,8,9,10,23,24,25,31,32,33] [2,3,10,83,87],cO 22 [2,3,7,8,23,24,25] [2,3,1007,1008],cO 23 [4,5,6] [1007,1008],cO 3000000006 [2,3,7,8,23,24,25] [2,3,1007,1008],(3000000009,⟨[2,3,7,8,9,10,23,24,25,31,32,33],(zp [2,3,10,83,1007,87,1008] [2,3,10,1007,1007,1008,1008]),[],[],[]⟩)]⟩
theorem Gn (n:Nat):VCOk Tryz.prog (D3 n):=gVC (Ug ⟨NI n,⟨(SU n).ok,⟨(PK n).ok,trivial⟩⟩⟩)
noncomputable def Ft (n:Nat) (m:Nat):LpE Tryz.prog:=mkL (Gn n) nT 9 (cA [1,1,1,1,0,1,2,2,1,1,0,2,1,1,2,2] (Q6 Tryz.f27)) ⟨92,[(2,.ptr 2 0),(3,.ptr 3 0),(7,.arr 1007),(8,.arr 1008),(9,tI),(10,.ptr 10 0),(23,.l 4),(24,tI),(25,tI),(31,.l 4),(32,tI),(33,tI)],[(2,.box [.l 1,.l 1,.l 5,.l 6]),(3,.box [tI,.l 5,.l 2,.l 4,.l 7,.l 4,.l 5,.l 3]),(10,.box [.x,.x,.x,.x]),(1007,.arr 62 1),(1008,.arr 3 1)]⟩ [yI,yL,yI,yI,yL,yI,yI,yL,yL,yL,yL,yI,yL,yL,yL,yL,yL,yL,yL,yD,yD,yD,yD,yL,yL] (fun m R k (d:Int) (y:LL) (z aa:Int) (e:LL) (f a:Int) (g h i j:LL) (l:Int) (o p q r s t u:LL) (ab v ac x:D) (b c:LL)=>XK n d e f g h i j l o p q r s t u v x (fun ad=>k .ret ⟨92,[(4,.nil),(5,.nil),(6,dI ad)],[]⟩) (fun a ae b c=>k (.exit 2) ⟨92,[(2,.ptr 2 0),(3,.ptr 3 0),(7,.arr 1007),(8,.arr 1008),(9,dI d),(10,.ptr 10 0),(23,dL 4 y),(24,dI z),(25,dI aa),(31,dL 4 e),(32,dI f),(33,dI a),(34,dB ae)],[(2,.box [dL 1 g,dL 1 h,dL 5 i,dL 6 j]),(3,.box [dI l,dL 5 o,dL 2 p,dL 4 q,dL 7 r,dL 4 s,dL 5 t,dL 3 u]),(10,.box [.d ab,.d v,.d ac,.d x]),(1007,.arr 62 1 b),(1008,.arr 3 1 c)]⟩) m a b c) m
noncomputable def F4 (n:Nat) (m:Nat):LpE Tryz.prog:=mkL (Gn n) [Ft n n] 6 (cA [1,1,1,1,0,1,2,2] (Q6 Tryz.f27)) ⟨92,[(2,.ptr 2 0),(3,.ptr 3 0),(7,.arr 1007),(8,.arr 1008),(23,.l 4),(24,tI),(25,tI)],[(2,.box [.l 1,.l 1,.l 5,.l 6]),(3,.box [tI,.l 5,.l 2,.l 4,.l 7,.l 4,.l 5,.l 3]),(1007,.arr 62 1),(1008,.arr 3 1)]⟩ [yL,yI,yI,yL,yL,yL,yL,yI,yL,yL,yL,yL,yL,yL,yL,yL,yL] (fun m R k h2 d a e f g h i j l o p q r s b c=>Z5 n h2 d e f g h i j l o p q r s (fun t=>k .ret ⟨92,[(4,.nil),(5,.nil),(6,dI t)],[]⟩) (fun a u b c=>k (.exit 0) ⟨92,[(2,.ptr 2 0),(3,.ptr 3 0),(7,.arr 1007),(8,.arr 1008),(23,dL 4 h2),(24,dI d),(25,dI a),(26,dB u)],[(2,.box [dL 1 e,dL 1 f,dL 5 g,dL 6 h]),(3,.box [dI i,dL 5 j,dL 2 l,dL 4 o,dL 7 p,dL 4 q,dL 5 r,dL 3 s]),(1007,.arr 62 1 b),(1008,.arr 3 1 c)]⟩) m a b c) m
noncomputable def PP (n:Nat):EnP Tryz.prog 27:=mkE (Gn n) [F4 n n] 27 Tryz.f27 [[1],[1],[0]] [eA [qL 1,qL 1,qL 5,qL 6],eA [qI,qL 5,qL 2,qL 4,qL 7,qL 4,qL 5,qL 3]] [eT 3,sL 1,sL 1,sI] (pK (GK n))

noncomputable def KA (n:Nat):VB:=X5 [] [(0,⟨[0,1,2],(zp (rg1 1000000 5 []) [1000000,98012,98015,98017,98018]),[],[],[]⟩),cO 1 [6] [98012,98015,98017,98018,1000000]]
noncomputable def V6 (n:Nat):EnP Tryz.prog 62:=mkG (KA n).ok nT 62 Tryz.f62 [eP 1000000 19,sL 1,sL 1,sL 5,sL 6,sI,sL 5,sL 2,sL 4,sL 7,sL 4,sL 5,sL 3,eR 1000001 3 1,sL 1,sL 1,eR 1000002 139 4,sI,eR 1000003 54 3,eR 1000004 52 6,sI,sI] [sI,eI 1000000 19,sL 1,sL 1,sL 5,sL 6,sI,sL 5,sL 2,sL 4,sL 7,sL 4,sL 5,sL 3,eR 98012 3 1,sL 1,sL 1,eR 98015 139 4,sI,eR 98017 54 3,eR 98018 52 6,eG 1000001,eG 1000002,eG 1000003,eG 1000004] [98012,98015,98017,98018] (pK (Xt n))

noncomputable def Gt (n:Nat):VB:=X5 [] [(0,⟨(rg1 0 6 [12]),(zp (rg1 1000000 5 []) [1000000,98012,98015,98017,98018]),[],[],[]⟩),(1,⟨[],(zp [37,98012,98017,98018,1000000] [98015,98012,98017,98018,1000000]),[],[],[]⟩)]
noncomputable def GQ (n:Nat):EnP Tryz.prog 61:=mkG (Gt n).ok nT 61 Tryz.f61 [eP 1000000 19,sL 1,sL 1,sL 5,sL 6,sI,sL 5,sL 2,sL 4,sL 7,sL 4,sL 5,sL 3,eR 1000001 3 1,sL 1,sL 1,eR 1000002 139 4,sI,eR 1000003 54 3,eR 1000004 52 6,sI,sI,sI,sI,sI] [eT 0,eI 1000000 19,sL 1,sL 1,sL 5,sL 6,sI,sL 5,sL 2,sL 4,sL 7,sL 4,sL 5,sL 3,eR 98012 3 1,sL 1,sL 1,eR 98015 139 4,sI,eR 98017 54 3,eR 98018 52 6,eG 1000001,eG 1000002,eG 1000003,eG 1000004] [98012,98015,98017,98018] (pK (XM n))

noncomputable def Kw (n:Nat):VB:=X5 [⟨62,V6 n⟩] [(0,⟨[0,1],(zp (rg1 1000000 5 []) [1000000,98012,98015,98017,98018]),[],[],[]⟩),(1,⟨[4],(zp (rg5 50018 4 [1000000]) [98012,98015,98017,98018,1000000]),[],[],[]⟩)]
noncomputable def KX (n:Nat):EnP Tryz.prog 63:=mkG (Kw n).ok nT 63 Tryz.f63 [eP 1000000 19,sL 1,sL 1,sL 5,sL 6,sI,sL 5,sL 2,sL 4,sL 7,sL 4,sL 5,sL 3,eR 1000001 3 1,sL 1,sL 1,eR 1000002 139 4,sI,eR 1000003 54 3,eR 1000004 52 6,sI] [sI,eI 1000000 19,sL 1,sL 1,sL 5,sL 6,sI,sL 5,sL 2,sL 4,sL 7,sL 4,sL 5,sL 3,eR 98012 3 1,sL 1,sL 1,eR 98015 139 4,sI,eR 98017 54 3,eR 98018 52 6,eG 1000001,eG 1000002,eG 1000003,eG 1000004] [98012,98015,98017,98018] (pK (Zd n))

noncomputable def XP (n:Nat):VB:=X5 [⟨62,V6 n⟩,⟨61,GQ n⟩,⟨63,KX n⟩] [(0,⟨[0,13,14,15],(zp (rg1 1000000 5 []) [1000000,98012,98015,98017,98018]),[],[],[]⟩),cO 1 (0::rg1 13 4 []) [98012,98015,98017,98018,1000000],cO 2 [0,2,3,13,14,15] [3,98012,98015,98017,98018,1000000],cO 3 [0,2,13,14,15,26,27,28] [98012,98015,98017,98018,1000000],cO 4 [0,2,13,14,15,26,27,28,29] [98012,98015,98017,98018,1000000],cO 5 [0,2,4,5,13,14,15,26,27,28] [5,98012,98015,98017,98018,1000000],(6,⟨[0,2,13,14,15,26,27,28],(zp (rg5 50049 4 [1000000]) [98012,98015,98017,98018,1000000]),[],[],[]⟩),cO 7 [0,2,13,14,15,26,27,28] [98012,98015,98017,98018,1000000],cO 8 [0,13,14,15] [98012,98015,98017,98018,1000000],cO 9 [0,56,57,58] [98012,98015,98017,98018,1000000],cO 10 (0::rg1 56 4 []) [98012,98015,98017,98018,1000000],cO 11 [0,7,56,57,58] [7,98012,98015,98017,98018,1000000],cO 12 [0,7,8,56,57,58] [7,98012,98015,98017,98018,1000000],(13,⟨[0,56,57,58],(zp (rg5 50092 4 [1000000]) [98012,98015,98017,98018,1000000]),[],[],[]⟩),cO 14 [0,56,57,58] [98012,98015,98017,98018,1000000],cO 3000000001 [0,13,14,15] [98012,98015,98017,98018,1000000]]
noncomputable def JY (n:Nat) (m:Nat):LpE Tryz.prog:=mkL (XP n).ok nT 4 (cA [0,1,2,2,1,1,0,2,1,1,2,2] (Q6 Tryz.f28)) ⟨94,[(0,.ptr 1000000 0),(2,tI),(13,.l 4),(14,tI),(15,tI),(26,.l 4),(27,tI),(28,tI)],[(98012,.arr 3 1),(98015,.arr 139 4),(98017,.arr 54 3),(98018,.arr 52 6),(1000000,.box [.l 1,.l 1,.l 5,.l 6,tI,.l 5,.l 2,.l 4,.l 7,.l 4,.l 5,.l 3,.arr 98012,.l 1,.l 1,.arr 98015,tI,.arr 98017,.arr 98018])]⟩ [yI,yL,yI,yI,yL,yI,yI,yL,yL,yL,yL,yL,yL,yL,yL,yI,yL,yL,yL,yL,yL,yL,yL,yL,yL,yI] (fun m R k (y:Int) (ab:LL) (ac ad:Int) (z:LL) (aa a:Int) (b c d e f g h i:LL) (j:Int) (l o p q r s t u v:LL) (x:Int)=>X4 n y z aa (fun a ae b c d e f g h i j l o p q r s t u v x=>k (.exit 2) ⟨94,[(0,.ptr 1000000 0),(2,dI y),(13,dL 4 ab),(14,dI ac),(15,dI ad),(26,dL 4 z),(27,dI aa),(28,dI a),(29,dB ae)],[(98012,.arr 3 1 b),(98015,.arr 139 4 c),(98017,.arr 54 3 d),(98018,.arr 52 6 e),(1000000,.box [dL 1 f,dL 1 g,dL 5 h,dL 6 i,dI j,dL 5 l,dL 2 o,dL 4 p,dL 7 q,dL 4 r,dL 5 s,dL 3 t,.arr 98012,dL 1 u,dL 1 v,.arr 98015,dI x,.arr 98017,.arr 98018])]⟩) m a b c d e f g h i j l o p q r s t u v x) m
noncomputable def G4 (n:Nat) (m:Nat):LpE Tryz.prog:=mkL (XP n).ok [JY n n] 1 (cA [0,1,2,2] (Q6 Tryz.f28)) ⟨94,[(0,.ptr 1000000 0),(13,.l 4),(14,tI),(15,tI)],[(98012,.arr 3 1),(98015,.arr 139 4),(98017,.arr 54 3),(98018,.arr 52 6),(1000000,.box [.l 1,.l 1,.l 5,.l 6,tI,.l 5,.l 2,.l 4,.l 7,.l 4,.l 5,.l 3,.arr 98012,.l 1,.l 1,.arr 98015,tI,.arr 98017,.arr 98018])]⟩ [yL,yI,yI,yL,yL,yL,yL,yL,yL,yL,yL,yI,yL,yL,yL,yL,yL,yL,yL,yL,yL,yI] (fun m R k y h2 a b c d e f g h i j l o p q r s t u v x=>Qu n y h2 (fun a z b c d e f g h i j l o p q r s t u v x=>k (.exit 0) ⟨94,[(0,.ptr 1000000 0),(13,dL 4 y),(14,dI h2),(15,dI a),(16,dB z)],[(98012,.arr 3 1 b),(98015,.arr 139 4 c),(98017,.arr 54 3 d),(98018,.arr 52 6 e),(1000000,.box [dL 1 f,dL 1 g,dL 5 h,dL 6 i,dI j,dL 5 l,dL 2 o,dL 4 p,dL 7 q,dL 4 r,dL 5 s,dL 3 t,.arr 98012,dL 1 u,dL 1 v,.arr 98015,dI x,.arr 98017,.arr 98018])]⟩) m a b c d e f g h i j l o p q r s t u v x) m
noncomputable def Gf (n:Nat) (m:Nat):LpE Tryz.prog:=mkL (XP n).ok nT 10 (cA [1,1,2,2] (Q6 Tryz.f28)) ⟨94,[(0,.ptr 1000000 0),(56,.l 4),(57,tI),(58,tI)],[(98012,.arr 3 1),(98015,.arr 139 4),(98017,.arr 54 3),(98018,.arr 52 6),(1000000,.box [.l 1,.l 1,.l 5,.l 6,tI,.l 5,.l 2,.l 4,.l 7,.l 4,.l 5,.l 3,.arr 98012,.l 1,.l 1,.arr 98015,tI,.arr 98017,.arr 98018])]⟩ [yL,yI,yI,yL,yL,yL,yL,yL,yL,yL,yL,yI,yL,yL,yL,yL,yL,yL,yL,yL,yL,yI] (fun m R k y z a b c d e f g h i j l o p q r s t u v x=>X3 n y z (fun a aa b c d e f g h i j l o p q r s t u v x=>k (.exit 4) ⟨94,[(0,.ptr 1000000 0),(56,dL 4 y),(57,dI z),(58,dI a),(59,dB aa)],[(98012,.arr 3 1 b),(98015,.arr 139 4 c),(98017,.arr 54 3 d),(98018,.arr 52 6 e),(1000000,.box [dL 1 f,dL 1 g,dL 5 h,dL 6 i,dI j,dL 5 l,dL 2 o,dL 4 p,dL 7 q,dL 4 r,dL 5 s,dL 3 t,.arr 98012,dL 1 u,dL 1 v,.arr 98015,dI x,.arr 98017,.arr 98018])]⟩) m a b c d e f g h i j l o p q r s t u v x) m
noncomputable def Ud (n:Nat):EnP Tryz.prog 28:=mkG (XP n).ok [G4 n n,Gf n n] 28 Tryz.f28 [eP 1000000 19,sL 1,sL 1,sL 5,sL 6,sI,sL 5,sL 2,sL 4,sL 7,sL 4,sL 5,sL 3,eR 1000001 3 1,sL 1,sL 1,eR 1000002 139 4,sI,eR 1000003 54 3,eR 1000004 52 6] [eT 0,eI 1000000 19,sL 1,sL 1,sL 5,sL 6,sI,sL 5,sL 2,sL 4,sL 7,sL 4,sL 5,sL 3,eR 98012 3 1,sL 1,sL 1,eR 98015 139 4,sI,eR 98017 54 3,eR 98018 52 6,eG 1000001,eG 1000002,eG 1000003,eG 1000004] [98012,98015,98017,98018] (pK (Y8 n))

noncomputable def P0 (n:Nat):VB:=X5 [] [cK 0 [0],cK 1 [0,3],cK 2 [3,6,7,8],cK 3 [3,6,7,8,9],cO 4 [3,5,6,7,8] [5],cO 5 (rg1 5 4 [32]) [5],cK 6 [2],cK 7 [3,6,7,8],cK 8 [3,6,7,8],cK 9 [2]]
noncomputable def F0 (n:Nat) (m:Nat):LpE Tryz.prog:=mkL (P0 n).ok nT 3 (cA [1,1,0,1,2,2] (Q6 Tryz.f113)) ⟨36,[(3,tI),(6,.l 3),(7,tI),(8,tI)],[]⟩ [yI,yL,yI,yI] (fun m R k a h2 c b=>ZW n h2 c (k .ret ⟨36,[(2,dB false)],[]⟩) (fun a b d=>k (.exit 0) ⟨36,[(3,dI a),(6,dL 3 h2),(7,dI c),(8,dI b),(9,dB d)],[]⟩) m a b) m
noncomputable def Pf (n:Nat):EnP Tryz.prog 113:=mkE (P0 n).ok [F0 n n] 113 Tryz.f113 [[0]] [sL 3] [sB] (pK (UQ n))

noncomputable def TX (n:Nat):VB:=X5 [⟨113,Pf n⟩] [cK 0 [0,1],cK 1 [0,1,17],cK 2 [4],cK 3 [0,18,19,20],cK 4 (0::rg1 18 4 []),cO 5 [0,6,18,19,20] [6],cK 6 [0,18,19,20,30],cK 7 [4],cK 8 [0,18,19,20],cK 9 [4]]
noncomputable def Fd (n:Nat) (m:Nat):LpE Tryz.prog:=mkL (TX n).ok nT 4 (cA [1,1,0,1,2,2] (Q6 Tryz.f64)) ⟨32,[(0,tI),(18,.l 3),(19,tI),(20,tI)],[]⟩ [yI,yL,yI,yI] (fun m R k h2 b c a=>W0 n h2 b c (k .ret ⟨32,[(4,dB false)],[]⟩) (fun a d=>k (.exit 0) ⟨32,[(0,dI h2),(18,dL 3 b),(19,dI c),(20,dI a),(21,dB d)],[]⟩) m a) m
noncomputable def EV (n:Nat):EnP Tryz.prog 64:=mkE (TX n).ok [Fd n n] 64 Tryz.f64 [[0]] [sI,sL 3] [sB] (pK (GF n))

noncomputable def Uo (n:Nat):VB:=X5 [] [(0,⟨(rg1 2 5 []),(zp (5::6::rg1 1000000 7 []) (5::6::rg1 1000000 4 [98132,98137,98138])),[],[],[]⟩),cO 1 [3,4,7,8] (98132::98137::98138::rg1 1000000 4 []),cO 2 [] (98132::98137::98138::rg1 1000000 4 [])]
noncomputable def Us (n:Nat):EnP Tryz.prog 66:=mkG (Uo n).ok nT 66 Tryz.f66 [eA [qI,qI,qI],eA [qI,qI,qI],eP 1000000 4,sI,sI,sI,sI,eP 1000001 1,sB,eP 1000002 1,eP 1000003 19,sL 1,sL 1,sL 5,sL 6,sI,sL 5,sL 2,sL 4,sL 7,sL 4,sL 5,sL 3,eR 1000004 3 1,sL 1,sL 1,sL 4,sI,eR 1000005 54 3,eR 1000006 52 6] [eT 0,eI 1000000 4,sI,sI,sI,sI,eI 1000001 1,sB,eI 1000002 1,eS 1000003,eI 1000003 19,sL 1,sL 1,sL 5,sL 6,sI,sL 5,sL 2,sL 4,sL 7,sL 4,sL 5,sL 3,eR 98132 3 1,sL 1,sL 1,sL 4,sI,eR 98137 54 3,eR 98138 52 6,eG 1000004,eG 1000005,eG 1000006] [98132,98137,98138] (pK (XL n))

noncomputable def ZO (n:Nat):VB:=X5 [⟨66,Us n⟩] [(0,⟨[0,2,4],(zp (4::rg1 1000000 7 []) [4,1000000,98012,98017,98018,1000004,1000005,1000006]),[],[],[]⟩),cO 1 [0,2,4,17,18,19] [4,98012,98017,98018,1000000,1000004,1000005,1000006],cO 2 [0,2,4,17,18,19,20] [4,98012,98017,98018,1000000,1000004,1000005,1000006],cO 3 [0,2,4,7,17,18,19] [4,7,98012,98017,98018,1000000,1000004,1000005,1000006],cO 4 [0,2,4,7,17,18,19,30,31,32] [4,7,98012,98017,98018,1000000,1000004,1000005,1000006],cO 5 [0,2,4,7,17,18,19,30,31,32,33] [4,7,98012,98017,98018,1000000,1000004,1000005,1000006],cO 6 [0,2,4,7,9,17,18,19,30,31,32] [4,7,9,98012,98017,98018,1000000,1000004,1000005,1000006],cO 7 [0,2,4,7,9,17,18,19,30,31,32,50] [4,7,9,98012,98017,98018,1000000,1000004,1000005,1000006],(8,⟨[0,2,4,7,17,18,19,30,31,32],(zp (4::7::rg5 50054 3 (1000000::rg1 1000004 3 [])) [4,7,98012,98017,98018,1000000,1000004,1000005,1000006]),[],[],[]⟩),cO 9 [0,2,4,7,17,18,19,30,31,32] [4,7,98012,98017,98018,1000000,1000004,1000005,1000006],cO 10 [0,2,4,17,18,19] [4,98012,98017,98018,1000000,1000004,1000005,1000006]]
noncomputable def Ky (n:Nat) (m:Nat):LpE Tryz.prog:=mkL (ZO n).ok nT 5 (cA [1,1,2,2,1,1,0,2,1,1,2,2] (Q6 Tryz.f65)) ⟨57,[(0,.ptr 1000000 0),(2,.fn 66 [.ptr 1000004 0,.ptr 1000005 0,.ptr 1000006 0]),(4,.ptr 4 0),(7,.ptr 7 0),(17,.l 3),(18,tI),(19,tI),(30,.l 3),(31,tI),(32,tI)],[(4,.box [tI,tI,tI,tI]),(7,.box [.x,.x,.x]),(98012,.arr 3 1),(98017,.arr 54 3),(98018,.arr 52 6),(1000000,.box [.l 1,.l 1,.l 5,.l 6,tI,.l 5,.l 2,.l 4,.l 7,.l 4,.l 5,.l 3,.arr 98012,.l 1,.l 1,.l 4,tI,.arr 98017,.arr 98018]),(1000004,.box [tI,tI,tI,tI]),(1000005,.box [.b]),(1000006,.box [.ptr 1000000 0])]⟩ [yL,yI,yI,yL,yI,yI,yI,yI,yI,yI,yD,yD,yD,yL,yL,yL,yL,yL,yL,yL,yI,yL,yL,yL,yL,yL,yL,yL,yL,yL,yL,yI,yI,yI,yI,yI,yB] (fun m R k (ak:LL) (al am:Int) (ad:LL) (ae a an ao ag ap:Int) (ah ai aj:D) (b c d e f g h:LL) (i:Int) (j l o p q r s t u v:LL) (x y z aa ab:Int) (ac:Bool)=>X8 n ad ae ag ah ai aj (fun a aq b c d e f g h i j l o p q r s t u v x y z aa ab ac=>k (.exit 2) ⟨57,[(0,.ptr 1000000 0),(2,.fn 66 [.ptr 1000004 0,.ptr 1000005 0,.ptr 1000006 0]),(4,.ptr 4 0),(7,.ptr 7 0),(17,dL 3 ak),(18,dI al),(19,dI am),(30,dL 3 ad),(31,dI ae),(32,dI a),(33,dB aq)],[(4,.box [dI an,dI ao,dI ag,dI ap]),(7,.box [.d ah,.d ai,.d aj]),(98012,.arr 3 1 b),(98017,.arr 54 3 c),(98018,.arr 52 6 d),(1000000,.box [dL 1 e,dL 1 f,dL 5 g,dL 6 h,dI i,dL 5 j,dL 2 l,dL 4 o,dL 7 p,dL 4 q,dL 5 r,dL 3 s,.arr 98012,dL 1 t,dL 1 u,dL 4 v,dI x,.arr 98017,.arr 98018]),(1000004,.box [dI y,dI z,dI aa,dI ab]),(1000005,.box [dB ac]),(1000006,.box [.ptr 1000000 0])]⟩) m a b c d e f g h i j l o p q r s t u v x y z aa ab ac) m
noncomputable def Kr (n:Nat) (m:Nat):LpE Tryz.prog:=mkL (ZO n).ok [Ky n n] 2 (cA [1,1,2,2] (Q6 Tryz.f65)) ⟨57,[(0,.ptr 1000000 0),(2,.fn 66 [.ptr 1000004 0,.ptr 1000005 0,.ptr 1000006 0]),(4,.ptr 4 0),(17,.l 3),(18,tI),(19,tI)],[(4,.box [tI,tI,tI,tI]),(98012,.arr 3 1),(98017,.arr 54 3),(98018,.arr 52 6),(1000000,.box [.l 1,.l 1,.l 5,.l 6,tI,.l 5,.l 2,.l 4,.l 7,.l 4,.l 5,.l 3,.arr 98012,.l 1,.l 1,.l 4,tI,.arr 98017,.arr 98018]),(1000004,.box [tI,tI,tI,tI]),(1000005,.box [.b]),(1000006,.box [.ptr 1000000 0])]⟩ [yL,yI,yI,yI,yI,yI,yI,yL,yL,yL,yL,yL,yL,yL,yI,yL,yL,yL,yL,yL,yL,yL,yL,yL,yL,yI,yI,yI,yI,yI,yB] (fun m R k (h4:LL) (h5 a h7 h8 h9 aj:Int) (b c d e f g h:LL) (i:Int) (j l o p q r s t u v:LL) (x y z aa ab:Int) (ac:Bool)=>QO n h4 h5 h8 h9 (fun a ak b c d e f g h i j l o p q r s t u v x y z aa ab ac=>k (.exit 0) ⟨57,[(0,.ptr 1000000 0),(2,.fn 66 [.ptr 1000004 0,.ptr 1000005 0,.ptr 1000006 0]),(4,.ptr 4 0),(17,dL 3 h4),(18,dI h5),(19,dI a),(20,dB ak)],[(4,.box [dI h7,dI h8,dI h9,dI aj]),(98012,.arr 3 1 b),(98017,.arr 54 3 c),(98018,.arr 52 6 d),(1000000,.box [dL 1 e,dL 1 f,dL 5 g,dL 6 h,dI i,dL 5 j,dL 2 l,dL 4 o,dL 7 p,dL 4 q,dL 5 r,dL 3 s,.arr 98012,dL 1 t,dL 1 u,dL 4 v,dI x,.arr 98017,.arr 98018]),(1000004,.box [dI y,dI z,dI aa,dI ab]),(1000005,.box [dB ac]),(1000006,.box [.ptr 1000000 0])]⟩) m a b c d e f g h i j l o p q r s t u v x y z aa ab ac) m
noncomputable def Hc (n:Nat):EnP Tryz.prog 65:=mkG (ZO n).ok [Kr n n] 65 Tryz.f65 [eP 1000000 19,sL 1,sL 1,sL 5,sL 6,sI,sL 5,sL 2,sL 4,sL 7,sL 4,sL 5,sL 3,eR 1000001 3 1,sL 1,sL 1,sL 4,sI,eR 1000002 54 3,eR 1000003 52 6,eA [qI,qI,qI,qI],eF 66 3,eP 1000004 4,sI,sI,sI,sI,eP 1000005 1,sB,eP 1000006 1,eS 1000000] [eT 0,eI 1000000 19,sL 1,sL 1,sL 5,sL 6,sI,sL 5,sL 2,sL 4,sL 7,sL 4,sL 5,sL 3,eR 98012 3 1,sL 1,sL 1,sL 4,sI,eR 98017 54 3,eR 98018 52 6,eI 1000004 4,sI,sI,sI,sI,eI 1000005 1,sB,eI 1000006 1,eS 1000000,eG 1000001,eG 1000002,eG 1000003] [98012,98017,98018] (pK (WZ n))

noncomputable def ZJ (n:Nat):VB:=X5 [⟨64,EV n⟩,⟨65,Hc n⟩] [(0,⟨[1],(zp (1::rg1 1000000 5 []) [1,1000000,98012,98015,98017,98018]),[],[],[]⟩),cO 1 [1,11,12,13] [1,98012,98015,98017,98018,1000000],cO 2 (1::rg1 11 4 []) [1,98012,98015,98017,98018,1000000],cO 3 [1,4,11,12,13] [1,98012,98015,98017,98018,1000000],cO 4 [1,11,12,13,24] [1,98012,98015,98017,98018,1000000],(5,⟨[2],(zp [98012,98015,98017,98018,1000000] [98012,98015,98017,98018,1000000]),[],[],[98015]⟩),cO 6 [1,11,12,13] [1,98012,98015,98017,98018,1000000],(7,⟨[1,29,30,31],(zp [1,98012,98017,98018,1000000] [1,98012,98017,98018,1000000]),[],[],[98015]⟩),cO 8 (1::rg1 29 4 []) [1,98012,98017,98018,1000000],cO 9 [1,6,29,30,31] [1,6,98012,98017,98018,1000000],cO 10 [1,6,7,29,30,31] [1,6,7,98012,98017,98018,1000000],(11,⟨[1,7,29,30,31],(zp (1::7::rg5 50038 3 [1000000]) [1,7,98012,98017,98018,1000000]),[],[],[]⟩),cO 12 [1,29,30,31,39] [1,98012,98017,98018,1000000],cO 13 [2] [98012,98017,98018,1000000],cO 14 [1,29,30,31] [1,98012,98017,98018,1000000],cO 15 [2] [98012,98017,98018,1000000]]
noncomputable def Kh (n:Nat) (m:Nat):LpE Tryz.prog:=mkL (ZJ n).ok nT 2 (cA [1,0,1,2,2] (Q6 Tryz.f29)) ⟨41,[(1,.ptr 1 0),(11,.l 1),(12,tI),(13,tI)],[(1,.box [.ptr 1000000 0]),(98012,.arr 3 1),(98015,.arr 139 4),(98017,.arr 54 3),(98018,.arr 52 6),(1000000,.box [.l 1,.l 1,.l 5,.l 6,tI,.l 5,.l 2,.l 4,.l 7,.l 4,.l 5,.l 3,.arr 98012,.l 1,.l 1,.arr 98015,tI,.arr 98017,.arr 98018])]⟩ [yL,yI,yI,yL,yL,yL,yL,yL,yL,yL,yL,yI,yL,yL,yL,yL,yL,yL,yL,yL,yL,yI] (fun m R k c h2 a d e f g h i j l b o p q r s t u v x y=>Xi n c h2 b (k .ret ⟨41,[(2,dB false)],[(98012,.arr 3 1 d),(98017,.arr 54 3 f),(98018,.arr 52 6 g),(1000000,.box [dL 1 h,dL 1 i,dL 5 j,dL 6 l,dI b,dL 5 o,dL 2 p,dL 4 q,dL 7 r,dL 4 s,dL 5 t,dL 3 u,.arr 98012,dL 1 v,dL 1 x,dL 4 e,dI y,.arr 98017,.arr 98018])]⟩) (fun a z=>k (.exit 0) ⟨41,[(1,.ptr 1 0),(11,dL 1 c),(12,dI h2),(13,dI a),(14,dB z)],[(1,.box [.ptr 1000000 0]),(98012,.arr 3 1 d),(98015,.arr 139 4 e),(98017,.arr 54 3 f),(98018,.arr 52 6 g),(1000000,.box [dL 1 h,dL 1 i,dL 5 j,dL 6 l,dI b,dL 5 o,dL 2 p,dL 4 q,dL 7 r,dL 4 s,dL 5 t,dL 3 u,.arr 98012,dL 1 v,dL 1 x,.arr 98015,dI y,.arr 98017,.arr 98018])]⟩) m a) m
noncomputable def Kk (n:Nat) (m:Nat):LpE Tryz.prog:=mkL (ZJ n).ok nT 8 (cA [1,1,0,1,2,2] (Q6 Tryz.f29)) ⟨41,[(1,.ptr 1 0),(29,.l 4),(30,tI),(31,tI)],[(1,.box [.ptr 1000000 0]),(98012,.arr 3 1),(98017,.arr 54 3),(98018,.arr 52 6),(1000000,.box [.l 1,.l 1,.l 5,.l 6,tI,.l 5,.l 2,.l 4,.l 7,.l 4,.l 5,.l 3,.arr 98012,.l 1,.l 1,.l 4,tI,.arr 98017,.arr 98018])]⟩ [yL,yI,yI,yL,yL,yL,yL,yL,yL,yL,yI,yL,yL,yL,yL,yL,yL,yL,yL,yL,yL,yI] (fun m R k y z a b c d e f g h i j l o p q r s t u v x=>Xl n y z (fun aa ab ac ad ae ag ah ai aj ak al am an ao ap aq ar au av=>k .ret ⟨41,[(2,dB false)],[(98012,.arr 3 1 aa),(98017,.arr 54 3 ab),(98018,.arr 52 6 ac),(1000000,.box [dL 1 ad,dL 1 ae,dL 5 ag,dL 6 ah,dI ai,dL 5 aj,dL 2 ak,dL 4 al,dL 7 am,dL 4 an,dL 5 ao,dL 3 ap,.arr 98012,dL 1 aq,dL 1 ar,dL 4 au,dI av,.arr 98017,.arr 98018])]⟩) (fun a aw b c d e f g h i j l o p q r s t u v x=>k (.exit 2) ⟨41,[(1,.ptr 1 0),(29,dL 4 y),(30,dI z),(31,dI a),(32,dB aw)],[(1,.box [.ptr 1000000 0]),(98012,.arr 3 1 b),(98017,.arr 54 3 c),(98018,.arr 52 6 d),(1000000,.box [dL 1 e,dL 1 f,dL 5 g,dL 6 h,dI i,dL 5 j,dL 2 l,dL 4 o,dL 7 p,dL 4 q,dL 5 r,dL 3 s,.arr 98012,dL 1 t,dL 1 u,dL 4 v,dI x,.arr 98017,.arr 98018])]⟩) m a b c d e f g h i j l o p q r s t u v x) m
noncomputable def US (n:Nat):EnP Tryz.prog 29:=mkG (ZJ n).ok [Kh n n,Kk n n] 29 Tryz.f29 [eP 1000000 19,sL 1,sL 1,sL 5,sL 6,sI,sL 5,sL 2,sL 4,sL 7,sL 4,sL 5,sL 3,eR 1000001 3 1,sL 1,sL 1,eR 1000002 139 4,sI,eR 1000003 54 3,eR 1000004 52 6] [sB,eI 1000000 19,sL 1,sL 1,sL 5,sL 6,sI,sL 5,sL 2,sL 4,sL 7,sL 4,sL 5,sL 3,eR 98012 3 1,sL 1,sL 1,sL 4,sI,eR 98017 54 3,eR 98018 52 6,eG 1000001,eG 1000002,eG 1000003,eG 1000004] [98012,98017,98018] (pK (Z2 n))

noncomputable def Kt (n:Nat):VB:=X5 [] [(0,⟨[0,1,2],(zp (rg1 1000000 4 []) [1000000,98012,98017,98018]),[],[],[]⟩),cO 1 [6] [98012,98017,98018,1000000]]
noncomputable def V5 (n:Nat):EnP Tryz.prog 62:=mkG (Kt n).ok nT 62 Tryz.f62 [eP 1000000 19,sL 1,sL 1,sL 5,sL 6,sI,sL 5,sL 2,sL 4,sL 7,sL 4,sL 5,sL 3,eR 1000001 3 1,sL 1,sL 1,sL 4,sI,eR 1000002 54 3,eR 1000003 52 6,sI,sI] [sI,eI 1000000 19,sL 1,sL 1,sL 5,sL 6,sI,sL 5,sL 2,sL 4,sL 7,sL 4,sL 5,sL 3,eR 98012 3 1,sL 1,sL 1,sL 4,sI,eR 98017 54 3,eR 98018 52 6,eG 1000001,eG 1000002,eG 1000003] [98012,98017,98018] (pK (QS n))

noncomputable def Mk (n:Nat):VB:=X5 [] [cK 0 [0],cK 1 [2]]
noncomputable def TU (n:Nat):EnP Tryz.prog 68:=mkE (Mk n).ok nT 68 Tryz.f68 [[0]] [sI] [sI] (pK (XT n))

noncomputable def MZ (n:Nat):VB:=X5 [] [cK 0 [0],cK 1 [2]]
noncomputable def LY (n:Nat):EnP Tryz.prog 69:=mkE (MZ n).ok nT 69 Tryz.f69 [[0]] [sI] [sI] (pK (Wp n))

noncomputable def KY (n:Nat):VB:=X5 [] [(0,⟨[],(zp (28::rg1 1000000 3 []) [98018,1000000,98012,98017]),[],[],[]⟩)]
noncomputable def Vz (n:Nat):EnP Tryz.prog 67:=mkG (KY n).ok nT 67 Tryz.f67 [eP 1000000 19,sL 1,sL 1,sL 5,sL 6,sI,sL 5,sL 2,sL 4,sL 7,sL 4,sL 5,sL 3,eR 1000001 3 1,sL 1,sL 1,sL 4,sI,eR 1000002 54 3,eR 1000003 52 6,sI,sI,sI,sI,sI,sI] [eT 0,eI 1000000 19,sL 1,sL 1,sL 5,sL 6,sI,sL 5,sL 2,sL 4,sL 7,sL 4,sL 5,sL 3,eR 98012 3 1,sL 1,sL 1,sL 4,sI,eR 98017 54 3,eR 98018 52 6,eG 1000001,eG 1000002,eG 1000003] [98012,98017,98018] (pK (X2 n))

noncomputable def Ks (n:Nat):VB:=X5 [⟨62,V5 n⟩] [(0,⟨[0,1],(zp (rg1 1000000 4 []) [1000000,98012,98017,98018]),[],[],[]⟩),(1,⟨[4],(zp (rg5 50018 3 [1000000]) [98012,98017,98018,1000000]),[],[],[]⟩)]
noncomputable def H3 (n:Nat):EnP Tryz.prog 63:=mkG (Ks n).ok nT 63 Tryz.f63 [eP 1000000 19,sL 1,sL 1,sL 5,sL 6,sI,sL 5,sL 2,sL 4,sL 7,sL 4,sL 5,sL 3,eR 1000001 3 1,sL 1,sL 1,sL 4,sI,eR 1000002 54 3,eR 1000003 52 6,sI] [sI,eI 1000000 19,sL 1,sL 1,sL 5,sL 6,sI,sL 5,sL 2,sL 4,sL 7,sL 4,sL 5,sL 3,eR 98012 3 1,sL 1,sL 1,sL 4,sI,eR 98017 54 3,eR 98018 52 6,eG 1000001,eG 1000002,eG 1000003] [98012,98017,98018] (pK (WW n))

noncomputable def QQ (n:Nat):VB:=X5 [⟨62,V5 n⟩,⟨68,TU n⟩,⟨69,LY n⟩,⟨67,Vz n⟩,⟨63,H3 n⟩] [(0,⟨[0,20,21,22],(zp (rg1 1000000 4 []) [1000000,98012,98017,98018]),[],[],[]⟩),cO 1 (0::rg1 20 4 []) [98012,98017,98018,1000000],cO 2 [0,2,3,20,21,22] [3,98012,98017,98018,1000000],cO 3 [0,2,3,20,21,22,28,29,30] [3,98012,98017,98018,1000000],cO 4 [0,2,3,20,21,22,28,29,30,31] [3,98012,98017,98018,1000000],cO 5 [0,2,3,4,5,20,21,22,28,29,30] [3,5,98012,98017,98018,1000000],(6,⟨(0::rg1 2 5 [20,21,22,28,29,30]),(zp (3::5::rg5 50038 3 [1000000]) [3,5,98012,98017,98018,1000000]),[],[],[]⟩),cO 7 (0::rg1 2 6 [20,21,22,28,29,30]) [3,5,98012,98017,98018,1000000],(8,⟨(0::rg1 2 5 [20,21,22,28,29,30]),(zp (3::5::rg5 50058 3 [1000000]) [3,5,98012,98017,98018,1000000]),[],[],[]⟩),cO 9 [0,2,3,5,6,20,21,22,28,29,30,64] [3,5,98012,98017,98018,1000000],(10,⟨[0,2,3,20,21,22,28,29,30],(zp (3::rg5 50077 3 [1000000]) [3,98012,98017,98018,1000000]),[],[],[]⟩),cO 11 [0,2,3,20,21,22,28,29,30] [3,98012,98017,98018,1000000],cO 12 [0,20,21,22] [98012,98017,98018,1000000],cO 13 [0,84,85,86] [98012,98017,98018,1000000],cO 14 (0::rg1 84 4 []) [98012,98017,98018,1000000],cO 15 [0,9,84,85,86] [9,98012,98017,98018,1000000],(16,⟨[0,9,10,11,84,85,86],(zp (9::rg5 50101 3 [1000000]) [9,98012,98017,98018,1000000]),[],[],[]⟩),(17,⟨[0,84,85,86],(zp (rg5 50113 3 [1000000]) [98012,98017,98018,1000000]),[],[],[]⟩),cO 18 [0,84,85,86] [98012,98017,98018,1000000],cO 19 [0,119,120,121] [98012,98017,98018,1000000],cO 20 (0::rg1 119 4 []) [98012,98017,98018,1000000],cO 21 [0,13,119,120,121] [13,98012,98017,98018,1000000],(22,⟨[0,119,120,121],(zp (rg5 50140 3 [1000000]) [98012,98017,98018,1000000]),[],[],[]⟩),cO 23 [0,119,120,121] [98012,98017,98018,1000000],cO 24 [0,146,147,148] [98012,98017,98018,1000000],cO 25 (0::rg1 146 4 []) [98012,98017,98018,1000000],cO 26 [0,15,146,147,148] [15,98012,98017,98018,1000000],(27,⟨[0,146,147,148],(zp (rg5 50171 3 [1000000]) [98012,98017,98018,1000000]),[],[],[]⟩),cO 28 [0,146,147,148] [98012,98017,98018,1000000],cO 3000000001 [0,20,21,22] [98012,98017,98018,1000000]]
noncomputable def Ji (n:Nat) (m:Nat):LpE Tryz.prog:=mkL (QQ n).ok nT 4 (cA [0,1,2,2,1,1,0,2,1,1,2,2] (Q6 Tryz.f30)) ⟨173,[(0,.ptr 1000000 0),(2,tI),(3,.ptr 3 0),(20,.l 4),(21,tI),(22,tI),(28,.l 4),(29,tI),(30,tI)],[(3,.box [.x,.x,.x,.x]),(98012,.arr 3 1),(98017,.arr 54 3),(98018,.arr 52 6),(1000000,.box [.l 1,.l 1,.l 5,.l 6,tI,.l 5,.l 2,.l 4,.l 7,.l 4,.l 5,.l 3,.arr 98012,.l 1,.l 1,.l 4,tI,.arr 98017,.arr 98018])]⟩ [yI,yL,yI,yI,yL,yI,yI,yD,yD,yD,yD,yL,yL,yL,yL,yL,yL,yL,yI,yL,yL,yL,yL,yL,yL,yL,yL,yL,yL,yI] (fun m R k (y:Int) (ad:LL) (ae ag:Int) (z:LL) (aa a:Int) (ah ai ab ac:D) (b c d e f g h:LL) (i:Int) (j l o p q r s t u v:LL) (x:Int)=>Qq n y z aa ab ac (fun a aj b c d e f g h i j l o p q r s t u v x=>k (.exit 2) ⟨173,[(0,.ptr 1000000 0),(2,dI y),(3,.ptr 3 0),(20,dL 4 ad),(21,dI ae),(22,dI ag),(28,dL 4 z),(29,dI aa),(30,dI a),(31,dB aj)],[(3,.box [.d ah,.d ai,.d ab,.d ac]),(98012,.arr 3 1 b),(98017,.arr 54 3 c),(98018,.arr 52 6 d),(1000000,.box [dL 1 e,dL 1 f,dL 5 g,dL 6 h,dI i,dL 5 j,dL 2 l,dL 4 o,dL 7 p,dL 4 q,dL 5 r,dL 3 s,.arr 98012,dL 1 t,dL 1 u,dL 4 v,dI x,.arr 98017,.arr 98018])]⟩) m a b c d e f g h i j l o p q r s t u v x) m
noncomputable def Jl (n:Nat) (m:Nat):LpE Tryz.prog:=mkL (QQ n).ok [Ji n n] 1 (cA [0,1,2,2] (Q6 Tryz.f30)) ⟨173,[(0,.ptr 1000000 0),(20,.l 4),(21,tI),(22,tI)],[(98012,.arr 3 1),(98017,.arr 54 3),(98018,.arr 52 6),(1000000,.box [.l 1,.l 1,.l 5,.l 6,tI,.l 5,.l 2,.l 4,.l 7,.l 4,.l 5,.l 3,.arr 98012,.l 1,.l 1,.l 4,tI,.arr 98017,.arr 98018])]⟩ [yL,yI,yI,yL,yL,yL,yL,yL,yL,yL,yI,yL,yL,yL,yL,yL,yL,yL,yL,yL,yL,yI] (fun m R k y h2 a b c d e f g h i j l o p q r s t u v x=>QA n y h2 (fun a z b c d e f g h i j l o p q r s t u v x=>k (.exit 0) ⟨173,[(0,.ptr 1000000 0),(20,dL 4 y),(21,dI h2),(22,dI a),(23,dB z)],[(98012,.arr 3 1 b),(98017,.arr 54 3 c),(98018,.arr 52 6 d),(1000000,.box [dL 1 e,dL 1 f,dL 5 g,dL 6 h,dI i,dL 5 j,dL 2 l,dL 4 o,dL 7 p,dL 4 q,dL 5 r,dL 3 s,.arr 98012,dL 1 t,dL 1 u,dL 4 v,dI x,.arr 98017,.arr 98018])]⟩) m a b c d e f g h i j l o p q r s t u v x) m
noncomputable def Jk (n:Nat) (m:Nat):LpE Tryz.prog:=mkL (QQ n).ok nT 14 (cA [1,0,1,2,2] (Q6 Tryz.f30)) ⟨173,[(0,.ptr 1000000 0),(84,.l 7),(85,tI),(86,tI)],[(98012,.arr 3 1),(98017,.arr 54 3),(98018,.arr 52 6),(1000000,.box [.l 1,.l 1,.l 5,.l 6,tI,.l 5,.l 2,.l 4,.l 7,.l 4,.l 5,.l 3,.arr 98012,.l 1,.l 1,.l 4,tI,.arr 98017,.arr 98018])]⟩ [yL,yI,yI,yL,yL,yL,yL,yL,yL,yL,yI,yL,yL,yL,yL,yL,yL,yL,yL,yL,yL,yI] (fun m R k y z a b c d e f g h i j l o p q r s t u v x=>QC n y z (fun a aa b c d e f g h i j l o p q r s t u v x=>k (.exit 4) ⟨173,[(0,.ptr 1000000 0),(84,dL 7 y),(85,dI z),(86,dI a),(87,dB aa)],[(98012,.arr 3 1 b),(98017,.arr 54 3 c),(98018,.arr 52 6 d),(1000000,.box [dL 1 e,dL 1 f,dL 5 g,dL 6 h,dI i,dL 5 j,dL 2 l,dL 4 o,dL 7 p,dL 4 q,dL 5 r,dL 3 s,.arr 98012,dL 1 t,dL 1 u,dL 4 v,dI x,.arr 98017,.arr 98018])]⟩) m a b c d e f g h i j l o p q r s t u v x) m
noncomputable def Jo (n:Nat) (m:Nat):LpE Tryz.prog:=mkL (QQ n).ok nT 20 (cA [1,1,0,1,2,2] (Q6 Tryz.f30)) ⟨173,[(0,.ptr 1000000 0),(119,.l 4),(120,tI),(121,tI)],[(98012,.arr 3 1),(98017,.arr 54 3),(98018,.arr 52 6),(1000000,.box [.l 1,.l 1,.l 5,.l 6,tI,.l 5,.l 2,.l 4,.l 7,.l 4,.l 5,.l 3,.arr 98012,.l 1,.l 1,.l 4,tI,.arr 98017,.arr 98018])]⟩ [yL,yI,yI,yL,yL,yL,yL,yL,yL,yL,yI,yL,yL,yL,yL,yL,yL,yL,yL,yL,yL,yI] (fun m R k y z a b c d e f g h i j l o p q r s t u v x=>QB n y z (fun a aa b c d e f g h i j l o p q r s t u v x=>k (.exit 6) ⟨173,[(0,.ptr 1000000 0),(119,dL 4 y),(120,dI z),(121,dI a),(122,dB aa)],[(98012,.arr 3 1 b),(98017,.arr 54 3 c),(98018,.arr 52 6 d),(1000000,.box [dL 1 e,dL 1 f,dL 5 g,dL 6 h,dI i,dL 5 j,dL 2 l,dL 4 o,dL 7 p,dL 4 q,dL 5 r,dL 3 s,.arr 98012,dL 1 t,dL 1 u,dL 4 v,dI x,.arr 98017,.arr 98018])]⟩) m a b c d e f g h i j l o p q r s t u v x) m
noncomputable def Jp (n:Nat) (m:Nat):LpE Tryz.prog:=mkL (QQ n).ok nT 25 (cA [1,1,1,1,2,2] (Q6 Tryz.f30)) ⟨173,[(0,.ptr 1000000 0),(146,.l 5),(147,tI),(148,tI)],[(98012,.arr 3 1),(98017,.arr 54 3),(98018,.arr 52 6),(1000000,.box [.l 1,.l 1,.l 5,.l 6,tI,.l 5,.l 2,.l 4,.l 7,.l 4,.l 5,.l 3,.arr 98012,.l 1,.l 1,.l 4,tI,.arr 98017,.arr 98018])]⟩ [yL,yI,yI,yL,yL,yL,yL,yL,yL,yL,yI,yL,yL,yL,yL,yL,yL,yL,yL,yL,yL,yI] (fun m R k y z a b c d e f g h i j l o p q r s t u v x=>QD n y z (fun a aa b c d e f g h i j l o p q r s t u v x=>k (.exit 8) ⟨173,[(0,.ptr 1000000 0),(146,dL 5 y),(147,dI z),(148,dI a),(149,dB aa)],[(98012,.arr 3 1 b),(98017,.arr 54 3 c),(98018,.arr 52 6 d),(1000000,.box [dL 1 e,dL 1 f,dL 5 g,dL 6 h,dI i,dL 5 j,dL 2 l,dL 4 o,dL 7 p,dL 4 q,dL 5 r,dL 3 s,.arr 98012,dL 1 t,dL 1 u,dL 4 v,dI x,.arr 98017,.arr 98018])]⟩) m a b c d e f g h i j l o p q r s t u v x) m
noncomputable def WJ (n:Nat):EnP Tryz.prog 30:=mkG (QQ n).ok [Jl n n,Jk n n,Jo n n,Jp n n] 30 Tryz.f30 [eP 1000000 19,sL 1,sL 1,sL 5,sL 6,sI,sL 5,sL 2,sL 4,sL 7,sL 4,sL 5,sL 3,eR 1000001 3 1,sL 1,sL 1,sL 4,sI,eR 1000002 54 3,eR 1000003 52 6] [eT 0,eI 1000000 19,sL 1,sL 1,sL 5,sL 6,sI,sL 5,sL 2,sL 4,sL 7,sL 4,sL 5,sL 3,eR 98012 3 1,sL 1,sL 1,sL 4,sI,eR 98017 54 3,eR 98018 52 6,eG 1000001,eG 1000002,eG 1000003] [98012,98017,98018] (pK (XV n))

noncomputable def ZN (n:Nat):VB:=X5 [] [cO 0 [2,3] [3,1000000,1000001],cO 1 [] [1000000,1000001]]
noncomputable def Wf (n:Nat):EnP Tryz.prog 114:=mkG (ZN n).ok nT 114 Tryz.f114 [eA [qI,qI,qI],eA [qI,qI,qI],eP 1000000 1,eM 1000001 145] [eT 0,eI 1000000 1,eH 1000001,eQ 1000001 145] [] (pK (Xe n))

noncomputable def ZP (n:Nat):VB:=X5 [⟨114,Wf n⟩] [(0,⟨[0,2,4],(zp (4::rg1 1000000 6 []) [4,1000000,98012,98017,98018,1000004,1000005]),[],[],[]⟩),cO 1 [0,2,4,17,18,19] [4,98012,98017,98018,1000000,1000004,1000005],cO 2 [0,2,4,17,18,19,20] [4,98012,98017,98018,1000000,1000004,1000005],cO 3 [0,2,4,7,17,18,19] [4,7,98012,98017,98018,1000000,1000004,1000005],cO 4 [0,2,4,7,17,18,19,30,31,32] [4,7,98012,98017,98018,1000000,1000004,1000005],cO 5 [0,2,4,7,17,18,19,30,31,32,33] [4,7,98012,98017,98018,1000000,1000004,1000005],cO 6 [0,2,4,7,9,17,18,19,30,31,32] [4,7,9,98012,98017,98018,1000000,1000004,1000005],cO 7 [0,2,4,7,9,17,18,19,30,31,32,50] [4,7,9,98012,98017,98018,1000000,1000004,1000005],cO 8 [0,2,4,7,17,18,19,30,31,32] [4,7,98012,98017,98018,1000000,1000004,1000005],cO 9 [0,2,4,7,17,18,19,30,31,32] [4,7,98012,98017,98018,1000000,1000004,1000005],cO 10 [0,2,4,17,18,19] [4,98012,98017,98018,1000000,1000004,1000005]]
noncomputable def Kv (n:Nat) (m:Nat):LpE Tryz.prog:=mkL (ZP n).ok nT 5 (cA [1,1,2,2,1,1,0,2,1,1,2,2] (Q6 Tryz.f65)) ⟨57,[(0,.ptr 1000000 0),(2,.fn 114 [.ptr 1000004 0]),(4,.ptr 4 0),(7,.ptr 7 0),(17,.l 3),(18,tI),(19,tI),(30,.l 3),(31,tI),(32,tI)],[(4,.box [tI,tI,tI,tI]),(7,.box [.x,.x,.x]),(98012,.arr 3 1),(98017,.arr 54 3),(98018,.arr 52 6),(1000000,.box [.l 1,.l 1,.l 5,.l 6,tI,.l 5,.l 2,.l 4,.l 7,.l 4,.l 5,.l 3,.arr 98012,.l 1,.l 1,.l 4,tI,.arr 98017,.arr 98018]),(1000004,.box [.arr 1000005]),(1000005,.mp 145)]⟩ [yL,yI,yI,yL,yI,yI,yI,yI,yI,yI,yD,yD,yD,yL,yL,yL,yL,yL,yL,yL,yI,yL,yL,yL,yL,yL,yL,yL,yL,yL,yL,yI,yP] (fun m R k (i:LL) (j l:Int) (c:LL) (d a o p e q:Int) (f g h:D) (r s t u v x y:LL) (z:Int) (aa ab ac ad ae ag ah ai aj ak:LL) (al:Int) (b:Int->Bool)=>X9 n c d e f g h (fun a am b=>k (.exit 2) ⟨57,[(0,.ptr 1000000 0),(2,.fn 114 [.ptr 1000004 0]),(4,.ptr 4 0),(7,.ptr 7 0),(17,dL 3 i),(18,dI j),(19,dI l),(30,dL 3 c),(31,dI d),(32,dI a),(33,dB am)],[(4,.box [dI o,dI p,dI e,dI q]),(7,.box [.d f,.d g,.d h]),(98012,.arr 3 1 r),(98017,.arr 54 3 s),(98018,.arr 52 6 t),(1000000,.box [dL 1 u,dL 1 v,dL 5 x,dL 6 y,dI z,dL 5 aa,dL 2 ab,dL 4 ac,dL 7 ad,dL 4 ae,dL 5 ag,dL 3 ah,.arr 98012,dL 1 ai,dL 1 aj,dL 4 ak,dI al,.arr 98017,.arr 98018]),(1000004,.box [.arr 1000005]),(1000005,.mp 145 b)]⟩) m a b) m
noncomputable def Kz (n:Nat) (m:Nat):LpE Tryz.prog:=mkL (ZP n).ok [Kv n n] 2 (cA [1,1,2,2] (Q6 Tryz.f65)) ⟨57,[(0,.ptr 1000000 0),(2,.fn 114 [.ptr 1000004 0]),(4,.ptr 4 0),(17,.l 3),(18,tI),(19,tI)],[(4,.box [tI,tI,tI,tI]),(98012,.arr 3 1),(98017,.arr 54 3),(98018,.arr 52 6),(1000000,.box [.l 1,.l 1,.l 5,.l 6,tI,.l 5,.l 2,.l 4,.l 7,.l 4,.l 5,.l 3,.arr 98012,.l 1,.l 1,.l 4,tI,.arr 98017,.arr 98018]),(1000004,.box [.arr 1000005]),(1000005,.mp 145)]⟩ [yL,yI,yI,yI,yI,yI,yI,yL,yL,yL,yL,yL,yL,yL,yI,yL,yL,yL,yL,yL,yL,yL,yL,yL,yL,yI,yP] (fun m R k (c:LL) (d a h e f i:Int) (j l o p q r s:LL) (t:Int) (u v x y z aa ab g ac ad:LL) (ae:Int) (b:Int->Bool)=>QP n c d e f g (fun a ag b=>k (.exit 0) ⟨57,[(0,.ptr 1000000 0),(2,.fn 114 [.ptr 1000004 0]),(4,.ptr 4 0),(17,dL 3 c),(18,dI d),(19,dI a),(20,dB ag)],[(4,.box [dI h,dI e,dI f,dI i]),(98012,.arr 3 1 j),(98017,.arr 54 3 l),(98018,.arr 52 6 o),(1000000,.box [dL 1 p,dL 1 q,dL 5 r,dL 6 s,dI t,dL 5 u,dL 2 v,dL 4 x,dL 7 y,dL 4 z,dL 5 aa,dL 3 ab,.arr 98012,dL 1 g,dL 1 ac,dL 4 ad,dI ae,.arr 98017,.arr 98018]),(1000004,.box [.arr 1000005]),(1000005,.mp 145 b)]⟩) m a b) m
noncomputable def H2 (n:Nat):EnP Tryz.prog 65:=mkG (ZP n).ok [Kz n n] 65 Tryz.f65 [eP 1000000 19,sL 1,sL 1,sL 5,sL 6,sI,sL 5,sL 2,sL 4,sL 7,sL 4,sL 5,sL 3,eR 1000001 3 1,sL 1,sL 1,sL 4,sI,eR 1000002 54 3,eR 1000003 52 6,eA [qI,qI,qI,qI],eF 114 1,eP 1000004 1,eM 1000005 145] [eT 0,eI 1000000 19,sL 1,sL 1,sL 5,sL 6,sI,sL 5,sL 2,sL 4,sL 7,sL 4,sL 5,sL 3,eR 98012 3 1,sL 1,sL 1,sL 4,sI,eR 98017 54 3,eR 98018 52 6,eI 1000004 1,eH 1000005,eQ 1000005 145,eG 1000001,eG 1000002,eG 1000003] [98012,98017,98018] (pK (U6 n))

noncomputable def ZD (n:Nat):VB:=X5 [⟨65,H2 n⟩] [(0,⟨[0,1,2],(zp (rg1 1000000 4 []) [1000000,98012,98017,98018]),[],[],[]⟩),cO 1 [0,1,2,7] [7,10,98012,98017,98018,1000000],cO 2 [0,1,2,7,14,15,16] [7,10,98012,98017,98018,1000000],cO 3 [0,1,2,7,14,15,16,17] [7,10,98012,98017,98018,1000000],cO 4 [0,1,2,7,9,14,15,16] [7,9,10,98012,98017,98018,1000000],cO 5 [0,1,2,7,9,14,15,16,41] [7,9,10,98012,98017,98018,1000000],(6,⟨[0,1,2,7,14,15,16],(zp (7::10::rg5 50045 3 [1000000]) [7,10,98012,98017,98018,1000000]),[],[],[]⟩),cO 7 [0,1,2,7,14,15,16] [7,10,98012,98017,98018,1000000],cO 8 [6] [10,98012,98017,98018,1000000]]
noncomputable def Vq (n:Nat) (m:Nat):LpE Tryz.prog:=mkL (ZD n).ok nT 3 (cA [1,1,0,1,2,2] (Q6 Tryz.f70)) ⟨48,[(0,.ptr 1000000 0),(1,tI),(2,tI),(7,.ptr 7 0),(14,.l 4),(15,tI),(16,tI)],[(7,.box [.arr 10]),(10,.mp 145),(98012,.arr 3 1),(98017,.arr 54 3),(98018,.arr 52 6),(1000000,.box [.l 1,.l 1,.l 5,.l 6,tI,.l 5,.l 2,.l 4,.l 7,.l 4,.l 5,.l 3,.arr 98012,.l 1,.l 1,.l 4,tI,.arr 98017,.arr 98018])]⟩ [yI,yI,yL,yI,yI,yP,yL,yL,yL,yL,yL,yL,yL,yI,yL,yL,yL,yL,yL,yL,yL,yL,yL,yL,yI] (fun m R k (z h2:Int) (h3:LL) (h4 a:Int) (b:Int->Bool) (c d e f g h i:LL) (j:Int) (l o p q r s t u v x:LL) (y:Int)=>Qr n z h2 h3 h4 (fun a ac b c d e f g h i j l o p q r s t u v x y=>k (.exit 0) ⟨48,[(0,.ptr 1000000 0),(1,dI z),(2,dI h2),(7,.ptr 7 0),(14,dL 4 h3),(15,dI h4),(16,dI a),(17,dB ac)],[(7,.box [.arr 10]),(10,.mp 145 b),(98012,.arr 3 1 c),(98017,.arr 54 3 d),(98018,.arr 52 6 e),(1000000,.box [dL 1 f,dL 1 g,dL 5 h,dL 6 i,dI j,dL 5 l,dL 2 o,dL 4 p,dL 7 q,dL 4 r,dL 5 s,dL 3 t,.arr 98012,dL 1 u,dL 1 v,dL 4 x,dI y,.arr 98017,.arr 98018])]⟩) m a b c d e f g h i j l o p q r s t u v x y) m
noncomputable def VE (n:Nat):EnP Tryz.prog 70:=mkG (ZD n).ok [Vq n n] 70 Tryz.f70 [eP 1000000 19,sL 1,sL 1,sL 5,sL 6,sI,sL 5,sL 2,sL 4,sL 7,sL 4,sL 5,sL 3,eR 1000001 3 1,sL 1,sL 1,sL 4,sI,eR 1000002 54 3,eR 1000003 52 6,sI,sI] [eM 10 145,eI 1000000 19,sL 1,sL 1,sL 5,sL 6,sI,sL 5,sL 2,sL 4,sL 7,sL 4,sL 5,sL 3,eR 98012 3 1,sL 1,sL 1,sL 4,sI,eR 98017 54 3,eR 98018 52 6,eG 1000001,eG 1000002,eG 1000003] [10,98012,98017,98018] (pK (XD n))

noncomputable def G9 (n:Nat):VB:=X5 [] [cO 0 [0,1] [1000000],cO 1 [0,1,5] [1000000],(2,⟨[1,5,8,9,10],[(1000000,1000000)],[(5,1005,142,3)],[],[]⟩),cO 3 [1,5,8,9,10,11] [1005,1000000],cO 4 [1,5,7,8,9,10] [7,1005,1000000],cO 5 [1,5,7,8,9,10,18] [7,1005,1000000],cO 6 [1,5,8,9,10] [22,1000000],cO 7 [1,5,8,9,10] [22,1000000,1005],cO 8 [4] [1005,1000000],(3000000003,⟨[1,5,8,9,10],(zp [22,1005,1000000] [1005,1005,1000000]),[],[],[]⟩)]
noncomputable def Px (n:Nat) (m:Nat):LpE Tryz.prog:=mkL (G9 n).ok nT 3 (cA [1,1,0,1,2,2] (Q6 Tryz.f72)) ⟨25,[(1,.arr 1000000),(5,.arr 1005),(8,.l 3),(9,tI),(10,tI)],[(1005,.arr 142 3),(1000000,.mp 145)]⟩ [yL,yI,yI,yL,yP] (fun m R k c h2 a b d=>XH n c h2 d (fun a e b=>k (.exit 0) ⟨25,[(1,.arr 1000000),(5,.arr 1005),(8,dL 3 c),(9,dI h2),(10,dI a),(11,dB e)],[(1005,.arr 142 3 b),(1000000,.mp 145 d)]⟩) m a b) m
noncomputable def SL (n:Nat):EnP Tryz.prog 72:=QcK (mkG (G9 n).ok [Px n n] 72 Tryz.f72 [sL 3,eM 1000000 145] [eR 1005 142 3,eQ 1000000 145] [1005] (pK (Wh n)))

noncomputable def N0 (n:Nat):VB:=X5 [] [cK 0 [0],cK 1 [2]]
noncomputable def JR (n:Nat):EnP Tryz.prog 170:=mkE (N0 n).ok nT 170 Tryz.f170 [[0]] [sI] [sB] (pK (WC n))

noncomputable def Q0h (n:Nat):VB:=X5 [] [cK 0 [0,1],cK 1 [0,1,7],cK 2 [4],cK 3 [1,5],cK 4 [1,5,12],cK 5 [5],cK 6 [4]]
noncomputable def DA (n:Nat):EnP Tryz.prog 92:=mkE (Q0h n).ok nT 92 Tryz.f92 [[0]] [sI,sI] [sI] (pK (Pv n))

noncomputable def T9 (n:Nat):VB:=X5 [] [cK 0 [0,1,2,3],cK 1 (rg1 0 4 [9]),(2,⟨[8],[],[(8,96001,119,2)],[],[]⟩),cK 3 (rg1 0 4 [13]),(4,⟨[8],[(21,96001)],[],[],[]⟩),cK 5 (rg1 0 4 [22]),(6,⟨[8],[(35,96001)],[],[],[]⟩),(7,⟨[8],[(47,96001)],[],[],[]⟩)]
noncomputable def P6 (n:Nat):EnP Tryz.prog 171:=mkG (T9 n).ok nT 171 Tryz.f171 [eN,sI,sI,sI] [eR 96001 119 2] [96001] (pK (UV n))

noncomputable def Dv (n:Nat):VB:=X5 [⟨170,JR n⟩,⟨92,DA n⟩,⟨171,P6 n⟩] [cK 0 [0,1,2],cK 1 [0,1,2,10],(2,⟨[6,7],[],[(6,50016,119,2)],[],[]⟩),cO 3 [6,7] [50016]]
noncomputable def C6 (n:Nat):EnP Tryz.prog 148:=mkG (Dv n).ok nT 148 Tryz.f148 [sI,sI,sI] [eT 2,eR 50016 119 2,sI] [50016] (pK (KC n))

noncomputable def TM (n:Nat):VB:=X5 [⟨170,JR n⟩] [cK 0 [0,1],cK 1 [0,1,10],cK 2 [4],cK 3 [0,1,5],cK 4 [0,5,11,12,13],cK 5 [0,5,11,12,13,14],cO 6 [0,5,7,11,12,13] [7],cO 7 [0,7,11,12,13,33] [7],cK 8 [4],cK 9 [0,5,11,12,13],cK 10 [0,5,11,12,13],cK 11 [4]]
noncomputable def LR (n:Nat) (m:Nat):LpE Tryz.prog:=mkL (TM n).ok nT 5 (cA [1,1,1,0,1,2,2] (Q6 Tryz.f150)) ⟨37,[(0,tI),(5,tI),(11,.l 2),(12,tI),(13,tI)],[]⟩ [yI,yI,yL,yI,yI] (fun m R k h2 a c d b=>ZY n h2 c d (k .ret ⟨37,[(4,dB false)],[]⟩) (fun a b e=>k (.exit 0) ⟨37,[(0,dI h2),(5,dI a),(11,dL 2 c),(12,dI d),(13,dI b),(14,dB e)],[]⟩) m a b) m
noncomputable def S3 (n:Nat):EnP Tryz.prog 150:=mkE (TM n).ok [LR n n] 150 Tryz.f150 [[0]] [sI,sL 2] [sB] (pK (VO n))

noncomputable def TK (n:Nat):VB:=X5 [⟨170,JR n⟩,⟨150,S3 n⟩] [cK 0 [0,1],cK 1 [0,1,9],cK 2 [4],cK 3 [0,10,11,12],cK 4 (0::rg1 10 4 []),cK 5 [0,6,10,11,12],cK 6 [0,10,11,12,19],cK 7 [4],cK 8 [0,10,11,12],cK 9 [4]]
noncomputable def Fo (n:Nat) (m:Nat):LpE Tryz.prog:=mkL (TK n).ok nT 4 (cA [1,1,0,1,2,2] (Q6 Tryz.f172)) ⟨21,[(0,tI),(10,.l 1),(11,tI),(12,tI)],[]⟩ [yI,yL,yI,yI] (fun m R k h2 b c a=>ZS n h2 b c (k .ret ⟨21,[(4,dI (1:Int))],[]⟩) (fun a d=>k (.exit 0) ⟨21,[(0,dI h2),(10,dL 1 b),(11,dI c),(12,dI a),(13,dB d)],[]⟩) m a) m
noncomputable def PU (n:Nat):EnP Tryz.prog 172:=mkE (TK n).ok [Fo n n] 172 Tryz.f172 [[0]] [sI,sL 1] [sI] (pK (GI n))

noncomputable def Z9 (n:Nat):VB:=X5 [] [cK 0 [0,1],cK 1 [0,1,6],cK 2 [0,1],cK 3 [0,1],cK 4 [0,1,16],cO 5 [0] [25],(6,⟨[4],[(25,96001)],[(4,96001,119,2)],[],[]⟩)]
noncomputable def Zu (n:Nat):EnP Tryz.prog 190:=mkG (Z9 n).ok nT 190 Tryz.f190 [eN,sI] [eR 96001 119 2] [96001] (pK (Qz n))

noncomputable def QV (n:Nat):VB:=X5 [⟨190,Zu n⟩] [cK 0 [0],cK 1 [0,3],cK 2 [0,3,9,10,11],cK 3 [0,3,9,10,11,12],cK 4 [0,3,5,9,10,11],cK 5 [0,3,9,10,11],cK 6 [0,3,9,10,11,20],cK 7 [0,3,9,10,11],cK 8 [0,3,9,10,11],cO 9 [0,6] [50024],cO 10 [6,25,26,27] [50024],cO 11 (6::rg1 25 4 []) [50024],cO 12 [6,8,25,26,27] [50024],cO 13 [6,25,26,27] [33],cO 14 [6,25,26,27] [33],cO 15 [2] [50024],(3000000011,⟨[6,25,26,27],[(33,50024),(50024,50024)],[],[],[]⟩)]
noncomputable def Zp (n:Nat) (m:Nat):LpE Tryz.prog:=mkL (QV n).ok nT 3 (cA [1,1,0,1,2,2] (Q6 Tryz.f174)) ⟨36,[(0,.l 1),(3,tI),(9,.l 1),(10,tI),(11,tI)],[]⟩ [yL,yI,yL,yI,yI] (fun m R k d h2 b c a=>Qc n b c (fun h2 a e=>k (.exit 0) ⟨36,[(0,dL 1 d),(3,dI h2),(9,dL 1 b),(10,dI c),(11,dI a),(12,dB e)],[]⟩) m h2 a) m
noncomputable def Zq (n:Nat) (m:Nat):LpE Tryz.prog:=mkL (QV n).ok nT 11 (cA [1,1,1,1,0,1,2,2] (Q6 Tryz.f174)) ⟨36,[(6,.arr 50024),(25,.l 1),(26,tI),(27,tI)],[(50024,.arr 119 2)]⟩ [yL,yI,yI,yL] (fun m R k c d a b=>Qd n c d (fun a e b=>k (.exit 2) ⟨36,[(6,.arr 50024),(25,dL 1 c),(26,dI d),(27,dI a),(28,dB e)],[(50024,.arr 119 2 b)]⟩) m a b) m
noncomputable def XJ (n:Nat):EnP Tryz.prog 174:=mkG (QV n).ok [Zp n n,Zq n n] 174 Tryz.f174 [sL 1] [eR 50024 119 2] [50024] (pK (QE n))

noncomputable def NO (n:Nat):VB:=X5 [] [cK 0 [0,2],cK 1 [0,2,4],cK 2 [0],cK 3 [0,2],cK 4 [0,2,8],cK 5 [0,2],cK 6 [0,2],cK 7 [2]]
noncomputable def Mo (n:Nat):EnP Tryz.prog 211:=mkE (NO n).ok nT 211 Tryz.f211 [[0]] [eD (.i .u32)] [sI] (pK (S8 n))

noncomputable def RZ (n:Nat):VB:=X5 [] [cK 0 [0,2],cK 1 [0,2,4],cK 2 [0],cK 3 [0,2],cK 4 [0,2,8],cK 5 [0,2],cK 6 [0,2],cK 7 [0,2,14],cK 8 [0,2],cK 9 [0,2],cK 10 [2]]
noncomputable def La (n:Nat):EnP Tryz.prog 212:=mkE (RZ n).ok nT 212 Tryz.f212 [[0]] [eD (.i .u64)] [sI] (pK (Pp n))

noncomputable def Fq (n:Nat):VB:=X5 [⟨211,Mo n⟩,⟨212,La n⟩] [cK 0 [0],cK 1 [2],cK 2 [2]]
noncomputable def Ph (n:Nat):EnP Tryz.prog 196:=mkE (Fq n).ok nT 196 Tryz.f196 [[0]] [eD (.i .u64)] [sI] (pK (T3 n))

noncomputable def LO (n:Nat):VB:=X5 [] [cK 0 [0],cK 1 [2]]
noncomputable def Ej (n:Nat):EnP Tryz.prog 197:=mkE (LO n).ok nT 197 Tryz.f197 [[0]] [sI] [sB] (pK (J2 n))

noncomputable def N8 (n:Nat):VB:=X5 [⟨197,Ej n⟩] [cK 0 [0,1],cK 1 [0,1,5],cK 2 [0,1,5,6],cK 3 [0,1,6,11],cK 4 [12],cK 5 [4],cK 6 [4],cK 7 [0,1,13],cK 8 [4],cK 9 [0,1,16],cK 10 [4],cK 11 [19],cK 12 [4],cK 13 [4]]
noncomputable def MH (n:Nat):EnP Tryz.prog 189:=mkE (N8 n).ok nT 189 Tryz.f189 [[0]] [sI,sI] [sI] (pK (Jf n))

noncomputable def K2 (n:Nat):VB:=X5 [⟨189,MH n⟩] [cO 0 [2,3] [2,3],cK 1 [4]]
noncomputable def Kx (n:Nat):EnP Tryz.prog 188:=mkE (K2 n).ok nT 188 Tryz.f188 [[0]] [eA [qI,qI],eA [qI,qI]] [sI] (pK (WD n))

noncomputable def Qw (n:Nat):VB:=X5 [⟨188,Kx n⟩] [cO 0 (rg1 0 4 [8]) [1000000],cO 1 (rg1 0 4 [8,14]) [1000000],cO 2 (rg1 0 4 [8]) [1000000],cO 3 (rg1 0 4 [8,9]) [1000000],cO 4 (rg1 0 4 [8,9,34]) [1000000],cO 5 (rg1 0 4 [8,9]) [1000000],cO 6 (rg1 0 4 [8,9]) [1000000]]
noncomputable def ZF (n:Nat) (m:Nat):LpE Tryz.prog:=mkL (Qw n).ok nT 4 (cA [1,2,2,1,0,2,1,2,2] (Q6 Tryz.f203)) ⟨53,[(0,.arr 1000000),(1,tI),(2,tI),(3,.fn 188 []),(8,tI),(9,tI)],[(1000000,.arr 119 2)]⟩ [yI,yI,yI,yI,yL] (fun m R k c d e a b=>Qe n c (fun a f b=>k (.exit 2) ⟨53,[(0,.arr 1000000),(1,dI c),(2,dI d),(3,.fn 188 []),(8,dI e),(9,dI a),(34,dB f)],[(1000000,.arr 119 2 b)]⟩) m a b) m
noncomputable def XE (n:Nat) (m:Nat):LpE Tryz.prog:=mkL (Qw n).ok [ZF n n] 1 (cA [1,2,2] (Q6 Tryz.f203)) ⟨53,[(0,.arr 1000000),(1,tI),(2,tI),(3,.fn 188 []),(8,tI)],[(1000000,.arr 119 2)]⟩ [yI,yI,yI,yL] (fun m R k c h2 a b=>Q7 n c h2 (fun a d b=>k (.exit 0) ⟨53,[(0,.arr 1000000),(1,dI c),(2,dI h2),(3,.fn 188 []),(8,dI a),(14,dB d)],[(1000000,.arr 119 2 b)]⟩) m a b) m
def QZ:AV->List (Nat × Ob)->Option (LL):=fun av H=>(look H 1000000).bind fun a=>match av,a with
 | .tup [],.arr p0 p1 b=>bif Nat.beq p0 119&&(Nat.beq p1 2) then some b else none
 | _,_=>none
theorem Zw (n:Nat) (a:LL) (a1 a2:Int):vfnT (Qw n).C [XE n n] Tryz.f203 [.arr 1000000,.d (D.int .i64 a1),.d (D.int .i64 a2),.fn 188 []] [(1000000,.arr 119 2 a)] QZ=QG n a a1 a2 some:=by kernel_rfl
def X7 (n:Nat):GV:=fun _ am g ak hl k=>match ak with
 | [.gd _ _ .nil]=>bif g then none else k ⟨.nil,[],[]⟩
 | [c0,c1,b,c]=>prR hl 119 2 c0 fun l0 a=>prI g .i64 c1 fun a1=>prI g .i64 b fun a2=>prF 188 c fun d=>(match d with
  | []=>
  bif HK hl [(1000000,l0)] [] then gb g (QG n a a1 a2 some) [] fun r=>gb g (Ku r (List.length a)) () fun _=>k ⟨.tup [],[(l0,some (.arr 119 2 r))],[l0]⟩ else none
  | _=>none)
 | _=>none
theorem ZB (n:Nat):Uu Tryz.prog 203 (X7 n):=by
  intro R ao g ar hl k r h
  unfold X7 at h
  split at h
  · exact HI h
  rotate_left
  · cases h
  obtain ⟨l0,a,h,c,d⟩:=Nt h
  obtain ⟨a1,h,e⟩:=VU h
  obtain ⟨a2,h,f⟩:=VU h
  obtain ⟨j,h,i⟩:=CZ h
  split at h
  rotate_left
  · cases h
  obtain ⟨hc,h⟩:=QX h
  obtain ⟨res,h,hr⟩:=Qt h
  obtain ⟨_,h,ak⟩:=Qt h
  have hL:=h
  subst c i
  refine ⟨_,hL,fun hg=>L9 (K:=QZ) (res:=res) (Qw n).ok [XE n n] (fn:=Tryz.f203) (ρ:=[(1000000,l0)]) (ν:=[]) (avs':=[.arr 1000000,.d (D.int .i64 a1),.d (D.int .i64 a2),.fn 188 []]) (H:=[(1000000,.arr 119 2 a)]) (.cons (.own rfl rfl) (.cons (.data rfl (e hg)) (.cons (.data rfl (f hg)) (.cons (.own rfl rfl) (.nil))))) hc (⟨⟨by decide,_,_,d,rfl,.arr _ _ _⟩,trivial⟩) ?_ ?_⟩
  · exact (Zw n a a1 a2).trans (hr hg)
  · intro av H' hx
    unfold QZ at hx
    simp only [QeX] at hx
    obtain ⟨l,b,hx⟩:=hx
    split at hx
    rotate_left
    · cases hx
    replace hx:=QX hx
    obtain ⟨am,hx⟩:=hx
    simp only [QeZ,Nat.beq_eq] at am
    obtain ⟨rfl,rfl⟩:=am
    injection hx with hx
    subst hx
    refine ⟨rfl,?_,trivial,⟨Hj rfl b (GY (ak hg)),trivial⟩⟩
    simp only [List.cons_append,Qf0,KV,b,Option.map_some,Option.map_none]
    rfl

noncomputable def Y4 (n:Nat):VC:=⟨Gv [(203,X7 n)],gtt,[cO 0 (rg1 0 5 [10]) [1000000],cO 1 (rg1 0 5 [10,11]) [1000000],cO 2 (rg1 0 5 [10,11,12]) [1000000],cO 3 (rg1 0 5 [10,11,12,25]) [1000000],cO 4 [] [1000000],cO 5 (rg1 0 5 [10,11,12,32]) [1000000],cK 6 [],cO 7 (rg1 0 5 [10,11,12,39]) [1000000],cK 8 (rg1 0 5 [10,11,12]),cK 9 (rg1 0 5 [10,11,12]),cK 10 (rg1 0 5 (rg1 10 5 [])),cK 11 (rg1 0 5 (rg1 10 5 [56])),cK 12 (rg1 0 5 (rg1 10 4 [])),cK 13 (rg1 0 5 (rg1 10 4 [])),cK 14 (rg1 0 5 (rg1 10 5 [])),cK 15 (rg1 0 5 (rg1 10 4 [75])),cK 16 (rg1 0 5 (rg1 10 4 [80])),cK 17 (rg1 0 5 (rg1 10 4 [97])),cK 18 [0,2,3,4,10,11,15],cK 19 (rg1 0 5 [10,11]),cK 20 (rg1 0 5 [12,16,17]),cK 21 (rg1 0 5 [11,12,16]),cK 22 (rg1 0 5 [11,12,16,18,19]),cK 23 (rg1 0 5 [11,16,18,19,20]),cK 24 (rg1 0 5 [11,16,18,19,20,125]),cK 25 (rg1 0 5 [10,11,16]),cK 26 [0,2,3,4,10,11,16],cK 27 (rg1 0 5 [10,11]),cK 28 (rg1 0 5 [10,11,16]),cK 29 [0,1,3,4,10,11,16],cK 30 (rg1 0 5 [10,11])]⟩
theorem XY (n:Nat):VCOk Tryz.prog (Y4 n):=gVC (Ug ⟨ZB n,trivial⟩)
noncomputable def XZ (n:Nat) (m:Nat):LpE Tryz.prog:=mkL (XY n) nT 2 (cA [1,1,2,2] (Q6 Tryz.f195)) ⟨148,[(0,.arr 1000000),(1,tI),(2,tI),(3,tI),(4,.fn 188 []),(10,.cb true),(11,.cb true)],[(1000000,.arr 119 2)]⟩ [yI,yI,yI,yL] (fun m R k a h2 b c=>Xk n a h2 b c (fun d=>k .ret ⟨148,[],[(1000000,.arr 119 2 d)]⟩) m ) m
def Xm:AV->List (Nat × Ob)->Option (LL):=fun av H=>(look H 1000000).bind fun a=>match av,a with
 | .tup [],.arr p0 p1 b=>bif Nat.beq p0 119&&(Nat.beq p1 2) then some b else none
 | _,_=>none
theorem Wx (n:Nat) (a:LL) (a1 a2 a3:Int):vfnT (Y4 n) [XZ n n] Tryz.f195 [.arr 1000000,.d (D.int .i64 a1),.d (D.int .i64 a2),.d (D.int .i64 a3),.fn 188 []] [(1000000,.arr 119 2 a)] Xm=QY n a a1 a2 a3 some:=by kernel_rfl
def Xp (n:Nat):GV:=fun _ am g ak hl k=>match ak with
 | [.gd _ _ .nil]=>bif g then none else k ⟨.nil,[],[]⟩
 | [c0,c1,b,c,d]=>prR hl 119 2 c0 fun l0 a=>prI g .i64 c1 fun a1=>prI g .i64 b fun a2=>prI g .i64 c fun a3=>prF 188 d fun e=>(match e with
  | []=>
  bif HK hl [(1000000,l0)] [] then gb g (QY n a a1 a2 a3 some) [] fun r=>gb g (Ku r (List.length a)) () fun _=>k ⟨.tup [],[(l0,some (.arr 119 2 r))],[l0]⟩ else none
  | _=>none)
 | _=>none
theorem WF (n:Nat):Uu Tryz.prog 195 (Xp n):=by
  intro R ao g ar hl k r h
  unfold Xp at h
  split at h
  · exact HI h
  rotate_left
  · cases h
  obtain ⟨l0,a,h,c,d⟩:=Nt h
  obtain ⟨a1,h,e⟩:=VU h
  obtain ⟨a2,h,f⟩:=VU h
  obtain ⟨a3,h,i⟩:=VU h
  obtain ⟨l,h,j⟩:=CZ h
  split at h
  rotate_left
  · cases h
  obtain ⟨hc,h⟩:=QX h
  obtain ⟨res,h,hr⟩:=Qt h
  obtain ⟨_,h,ak⟩:=Qt h
  have hL:=h
  subst c j
  refine ⟨_,hL,fun hg=>L9 (K:=Xm) (res:=res) (XY n) [XZ n n] (fn:=Tryz.f195) (ρ:=[(1000000,l0)]) (ν:=[]) (avs':=[.arr 1000000,.d (D.int .i64 a1),.d (D.int .i64 a2),.d (D.int .i64 a3),.fn 188 []]) (H:=[(1000000,.arr 119 2 a)]) (.cons (.own rfl rfl) (.cons (.data rfl (e hg)) (.cons (.data rfl (f hg)) (.cons (.data rfl (i hg)) (.cons (.own rfl rfl) (.nil)))))) hc (⟨⟨by decide,_,_,d,rfl,.arr _ _ _⟩,trivial⟩) ?_ ?_⟩
  · exact (Wx n a a1 a2 a3).trans (hr hg)
  · intro av H' hx
    unfold Xm at hx
    simp only [QeX] at hx
    obtain ⟨m,b,hx⟩:=hx
    split at hx
    rotate_left
    · cases hx
    replace hx:=QX hx
    obtain ⟨an,hx⟩:=hx
    simp only [QeZ,Nat.beq_eq] at an
    obtain ⟨rfl,rfl⟩:=an
    injection hx with hx
    subst hx
    refine ⟨rfl,?_,trivial,⟨Hj rfl b (GY (ak hg)),trivial⟩⟩
    simp only [List.cons_append,Qf0,KV,b,Option.map_some,Option.map_none]
    rfl

noncomputable def Xu (n:Nat):VC:=⟨Gv [(196,(Ph n).E),(195,Xp n)],gtt,[cO 0 [0,1,4] [1000000],cO 1 [] [1000000]]⟩
theorem YJ (n:Nat):VCOk Tryz.prog (Xu n):=gVC (Ug ⟨(Ph n).ok,⟨WF n,trivial⟩⟩)
def QK:AV->List (Nat × Ob)->Option (LL):=fun av H=>(look H 1000000).bind fun a=>match av,a with
 | .tup [],.arr p0 p1 b=>bif Nat.beq p0 119&&(Nat.beq p1 2) then some b else none
 | _,_=>none
theorem YE (n:Nat) (a:LL):vfnT (Xu n) nT Tryz.f187 [.arr 1000000,.fn 188 []] [(1000000,.arr 119 2 a)] QK=Qg n a some:=by kernel_rfl
def QL (n:Nat):GV:=fun _ am g ak hl k=>match ak with
 | [.gd _ _ .nil]=>bif g then none else k ⟨.nil,[],[]⟩
 | [c0,c1]=>prR hl 119 2 c0 fun l0 a=>prF 188 c1 fun m3=>(match m3 with
  | []=>
  bif HK hl [(1000000,l0)] [] then gb g (Qg n a some) [] fun r=>gb g (Ku r (List.length a)) () fun _=>k ⟨.tup [],[(l0,some (.arr 119 2 r))],[l0]⟩ else none
  | _=>none)
 | _=>none
theorem YM (n:Nat):Uu Tryz.prog 187 (QL n):=by
  intro R ao g ar hl k r h
  unfold QL at h
  split at h
  · exact HI h
  rotate_left
  · cases h
  obtain ⟨l0,a,h,c,d⟩:=Nt h
  obtain ⟨m3,h,e⟩:=CZ h
  split at h
  rotate_left
  · cases h
  obtain ⟨hc,h⟩:=QX h
  obtain ⟨res,h,hr⟩:=Qt h
  obtain ⟨_,h,ak⟩:=Qt h
  have hL:=h
  subst c e
  refine ⟨_,hL,fun hg=>L9 (K:=QK) (res:=res) (YJ n) nT (fn:=Tryz.f187) (ρ:=[(1000000,l0)]) (ν:=[]) (avs':=[.arr 1000000,.fn 188 []]) (H:=[(1000000,.arr 119 2 a)]) (.cons (.own rfl rfl) (.cons (.own rfl rfl) (.nil))) hc (⟨⟨by decide,_,_,d,rfl,.arr _ _ _⟩,trivial⟩) ?_ ?_⟩
  · exact (YE n a).trans (hr hg)
  · intro av H' hx
    unfold QK at hx
    simp only [QeX] at hx
    obtain ⟨f,b,hx⟩:=hx
    split at hx
    rotate_left
    · cases hx
    replace hx:=QX hx
    obtain ⟨am,hx⟩:=hx
    simp only [QeZ,Nat.beq_eq] at am
    obtain ⟨rfl,rfl⟩:=am
    injection hx with hx
    subst hx
    refine ⟨rfl,?_,trivial,⟨Hj rfl b (GY (ak hg)),trivial⟩⟩
    simp only [List.cons_append,Qf0,KV,b,Option.map_some,Option.map_none]
    rfl

noncomputable def KK (n:Nat):VC:=⟨Gv [(187,QL n)],gtt,[cO 0 [0] [1000000],cO 1 [0] [1000000],cO 2 [0,3] [1000000],(3,⟨[3,9,10,11],[(1000000,1000000)],[(3,1003,119,2)],[],[]⟩),cO 4 (3::rg1 9 4 []) [1003,1000000],cO 5 [3,5,9,10,11] [5,1003,1000000],cO 6 [3,5,6,9,10,11] [5,1003,1000000],cO 7 [3,5,6,9,10,11,29] [5,1003,1000000],cO 8 [3,9,10,11] [1003,1000000],cO 9 [3,9,10,11] [45,1000000],cO 10 [3,9,10,11] [1003,1000000,45],cO 11 [2] [1003,1000000],(3000000004,⟨[3,9,10,11],(zp [45,1003,1000000] [1003,1003,1000000]),[],[],[]⟩)]⟩
theorem K7 (n:Nat):VCOk Tryz.prog (KK n):=gVC (Ug ⟨YM n,trivial⟩)
noncomputable def Kb (n:Nat) (m:Nat):LpE Tryz.prog:=mkL (K7 n) nT 4 (cA [1,1,1,0,1,2,2] (Q6 Tryz.f173)) ⟨48,[(3,.arr 1003),(9,.arr 1000000),(10,tI),(11,tI)],[(1003,.arr 119 2),(1000000,.arr 119 2)]⟩ [yI,yI,yL,yL] (fun m R k c a b d=>X0 n c d (fun a e b=>k (.exit 0) ⟨48,[(3,.arr 1003),(9,.arr 1000000),(10,dI c),(11,dI a),(12,dB e)],[(1003,.arr 119 2 b),(1000000,.arr 119 2 d)]⟩) m a b) m
def Vn:AV->List (Nat × Ob)->Option (LL × LL):=fun av H=>(look H 1000000).bind fun a=>(look H 1003).bind fun b=>match av,a,b with
 | .arr p0,.arr p1 c d,.arr e f g=>bif Nat.beq p0 1003&&(Nat.beq p1 119&&(Nat.beq c 2&&(Nat.beq e 119&&(Nat.beq f 2)))) then some (g,d) else none
 | _,_,_=>none
theorem SS (n:Nat) (a:LL):vfnT (KK n) [Kb n n] Tryz.f173 [.arr 1000000] [(1000000,.arr 119 2 a)] Vn=Vd n a (fun b c=>some (b,c)):=by kernel_rfl
def J8 (n:Nat):GV:=fun _ ak g am hl k=>match am with
 | [.gd _ _ .nil]=>bif g then none else k ⟨.nil,[],[]⟩
 | [c0]=>prR hl 119 2 c0 fun l0 a=>
  bif HK hl [(1000000,l0)] [(1003,(ak+50000))] then gb g (Vd n a (fun b c=>some (b,c))) ([],[]) fun r=>gb g (Ku r.2 (List.length a)) () fun _=>k ⟨.arr (ak+50000),[(l0,some (.arr 119 2 r.2)),((ak+50000),some (.arr 119 2 r.1))],[l0]⟩ else none
 | _=>none
theorem RA (n:Nat):Uu Tryz.prog 173 (J8 n):=by
  intro R am g ar hl k r h
  unfold J8 at h
  split at h
  · exact HI h
  rotate_left
  · cases h
  obtain ⟨l0,a,h,d,e⟩:=Nt h
  obtain ⟨hc,h⟩:=QX h
  obtain ⟨res,h,hr⟩:=Qt h
  obtain ⟨_,h,ak⟩:=Qt h
  have hL:=h
  subst d
  refine ⟨_,hL,fun hg=>L9 (K:=Vn) (res:=res) (K7 n) [Kb n n] (fn:=Tryz.f173) (ρ:=[(1000000,l0)]) (ν:=[(1003,(am+50000))]) (avs':=[.arr 1000000]) (H:=[(1000000,.arr 119 2 a)]) (.cons (.own rfl rfl) (.nil)) hc (⟨⟨by decide,_,_,e,rfl,.arr _ _ _⟩,trivial⟩) ?_ ?_⟩
  · exact (SS n a).trans (hr hg)
  · intro av H' hx
    unfold Vn at hx
    simp only [QeX] at hx
    obtain ⟨f,b,i,c,hx⟩:=hx
    split at hx
    rotate_left
    · cases hx
    replace hx:=QX hx
    obtain ⟨an,hx⟩:=hx
    simp only [QeZ,Nat.beq_eq] at an
    obtain ⟨rfl,rfl,rfl,rfl,rfl⟩:=an
    injection hx with hx
    subst hx
    refine ⟨rfl,?_,⟨by rw [c];rfl,trivial⟩,⟨Hj rfl b (GY (ak hg)),trivial⟩⟩
    simp only [List.cons_append,Qf0,KV,b,c,Option.map_some,Option.map_none]
    rfl

noncomputable def EM (n:Nat):VC:=⟨Gv [(172,(PU n).E),(174,(XJ n).E),(173,J8 n)],gtt,[cK 0 [0,1,2],cK 1 [1,2,8],cK 2 [1,2,8,15],(3,⟨[6,7],[],[(6,50021,119,2)],[],[]⟩),cO 4 [6,7] [50021]]⟩
theorem F7 (n:Nat):VCOk Tryz.prog (EM n):=gVC (Ug ⟨(PU n).ok,⟨(XJ n).ok,⟨RA n,trivial⟩⟩⟩)
noncomputable def ED (n:Nat):EnP Tryz.prog 149:=mkG (F7 n) nT 149 Tryz.f149 [sI,sL 2,sL 2] [eT 2,eR 50021 119 2,sI] [50021] (pK (GP n))

noncomputable def VF (n:Nat):VB:=X5 [⟨148,C6 n⟩,⟨149,ED n⟩] [(0,⟨[2,3,4,5],(zp (4::5::rg1 1000000 3 []) [4,5,1000000,1000001,98040]),[],[],[]⟩),cO 1 [2,3,6,7] [98040,1000000,1000001],cO 2 [2,3,8] [50029,98040,1000000,1000001],(3,⟨[],(zp [50036,1000000,1000001] [98040,1000000,1000001]),[],[],[]⟩)]
noncomputable def VH (n:Nat):EnP Tryz.prog 147:=mkG (VF n).ok nT 147 Tryz.f147 [eA [qI,qI,qI],eA [qI,qI,qI],eP 1000000 1,sI,eP 1000001 1,eR 1000002 119 2] [eT 0,eI 1000000 1,sI,eI 1000001 1,eR 98040 119 2,eG 1000002] [98040] (pK (Yy n))

noncomputable def Gw (n:Nat):VB:=X5 [⟨147,VH n⟩] [cO 0 [0,1,2,15] [98040,1000000,1000001],cO 1 [0,1,2,6,7] [6,7,98040,1000000,1000001],cO 2 [0,1,2,6,7,26] [6,7,98040,1000000,1000001],(3,⟨[0,1,2,6,7],(zp [6,7,50030,1000000,1000001] [6,7,98040,1000000,1000001]),[],[],[]⟩),cO 4 [0,1,2,6,7,35] [6,7,98040,1000000,1000001],cO 5 [0,1,2,6,7] [6,7,98040,1000000,1000001],cO 6 [0,1,2,42] [98040,1000000,1000001],cO 7 [0,1,2] [98040,1000000,1000001],(3000000000,⟨[0,1,2],(zp [98040,1000002,1000000,1000001] [98040,98040,1000000,1000001]),[],[],[]⟩)]
noncomputable def SI (n:Nat) (m:Nat):LpE Tryz.prog:=mkL (Gw n).ok nT 0 (cA [2,2] (Q6 Tryz.f146)) ⟨45,[(0,.l 3),(1,.l 3),(2,.fn 147 [.ptr 1000000 0,.ptr 1000001 0])],[(98040,.arr 119 2),(1000000,.box [tI]),(1000001,.box [.arr 98040])]⟩ [yL,yL,yL,yI] (fun m R k a h2 b c=>Qn n  (fun a h2 d b c=>k (.exit 0) ⟨45,[(0,dL 3 a),(1,dL 3 h2),(2,.fn 147 [.ptr 1000000 0,.ptr 1000001 0]),(15,dB d)],[(98040,.arr 119 2 b),(1000000,.box [dI c]),(1000001,.box [.arr 98040])]⟩) m a h2 b c) m
noncomputable def Rj (n:Nat):EnP Tryz.prog 146:=mkG (Gw n).ok [SI n n] 146 Tryz.f146 [sL 3,sL 3,eF 147 2,eP 1000000 1,sI,eP 1000001 1,eR 1000002 119 2] [eT 0,eI 1000000 1,sI,eI 1000001 1,eR 98040 119 2,eG 1000002] [98040] (pK (JP n))

noncomputable def SP (n:Nat):VB:=X5 [⟨113,Pf n⟩,⟨146,Rj n⟩] [cO 0 [1,2,3] [3],cO 1 [1,2,3,9] [3],cO 2 [1,2,3,9] [3],(3,⟨[6,7],[],[(6,50024,119,2)],[],[]⟩),cO 4 [1,2,3,14] [3],cO 5 [1,2,3,14] [3],(6,⟨[6,7],[],[(6,50024,119,2)],[],[]⟩),(7,⟨[1,2,3,8],[(3,3),(8,8)],[],[(8,0,2320,119,2)],[]⟩),cO 8 [8] [8,50024],cO 9 [6,7] [50024]]
noncomputable def Ru (n:Nat):EnP Tryz.prog 115:=mkG (SP n).ok nT 115 Tryz.f115 [sI,sL 3,sL 3] [eT 2,eR 50024 119 2,sI] [50024] (pK (UP n))

noncomputable def MP (n:Nat):VB:=X5 [] [cO 0 [1] [1],cK 1 [2]]
noncomputable def FC (n:Nat):EnP Tryz.prog 175:=mkE (MP n).ok nT 175 Tryz.f175 [[0]] [eA [qI,qI]] [sI] (pK (Ha n))

noncomputable def TW (n:Nat):VB:=X5 [⟨175,FC n⟩] [cK 0 [0],cK 1 [0,3],cK 2 [3,6,7,8],cK 3 [3,6,7,8,9],cO 4 [3,5,6,7,8] [5],cK 5 [3,6,7,8],cK 6 [3,6,7,8],cK 7 [2]]
noncomputable def LX (n:Nat) (m:Nat):LpE Tryz.prog:=mkL (TW n).ok nT 3 (cA [1,1,0,1,2,2] (Q6 Tryz.f151)) ⟨18,[(3,tI),(6,.l 2),(7,tI),(8,tI)],[]⟩ [yI,yL,yI,yI] (fun m R k a h2 c b=>Z7 n h2 c (fun a b d=>k (.exit 0) ⟨18,[(3,dI a),(6,dL 2 h2),(7,dI c),(8,dI b),(9,dB d)],[]⟩) m a b) m
noncomputable def Dh (n:Nat):EnP Tryz.prog 151:=mkE (TW n).ok [LX n n] 151 Tryz.f151 [[0]] [sL 2] [sI] (pK (Tf n))

noncomputable def Fi (n:Nat):VB:=X5 [⟨150,S3 n⟩,⟨151,Dh n⟩] [cK 0 [0,1],cK 1 [1,8],cK 2 [4],cK 3 [4]]
noncomputable def Eu (n:Nat):EnP Tryz.prog 116:=mkE (Fi n).ok nT 116 Tryz.f116 [[0]] [sI,sL 2] [sI] (pK (GT n))

noncomputable def KJ:Code:=cA [1,1,1,1,1,1,0,1,2,2] (Q6 Tryz.f71)
noncomputable def Ja (n:Nat):VB:=X5 [⟨115,Ru n⟩,⟨116,Eu n⟩] [cK 0 [0,1,2],cO 1 [0,8,9] [50018],cO 2 [0,8,9,22] [50018],cK 3 [6,7],cO 4 [0,8,28] [50018],cK 5 [6,7],cO 6 [0,8,10] [50018],cO 7 [0,8,10,49] [50018],(8,⟨[0,8],[],[],[],[50018]⟩),cK 9 [0,8],cO 10 [0,8,11] [50018],(11,⟨[0,11,65,66,67],[(50018,50018)],[(11,1011,152,2)],[],[]⟩),cO 12 [0,11,65,66,67,68] [1011,50018],cO 13 [0,11,13,65,66,67] [13,1011,50018],cO 14 [0,11,65,66,67] [81,50018],cO 15 [0,11,65,66,67] [81,50018],cO 16 [6,7] [1011],(3000000012,⟨[0,11,65,66,67],(zp [81,1011,50018] [1011,1011,50018]),[],[],[]⟩)]
noncomputable def NB (n:Nat) (m:Nat):LpE Tryz.prog:=mkL (Ja n).ok nT 12 KJ ⟨84,[(0,tI),(11,.arr 1011),(65,.l 2),(66,tI),(67,tI)],[(1011,.arr 152 2)]⟩ [yI,yL,yI,yI,yL] (fun m R k c d e a b=>YT n c d e (fun a f b=>k (.exit 0) ⟨84,[(0,dI c),(11,.arr 1011),(65,dL 2 d),(66,dI e),(67,dI a),(68,dB f)],[(1011,.arr 152 2 b)]⟩) m a b) m
noncomputable def N1 (n:Nat) (m:Nat):LpE Tryz.prog:=mkL (Ja n).ok nT 12 KJ ⟨84,[(0,tI),(11,.arr 1011),(65,.arr 50018),(66,tI),(67,tI)],[(1011,.arr 152 2),(50018,.arr 119 2)]⟩ [yI,yI,yI,yL,yL] (fun m R k c d a b e=>Yc n c d e (fun a f b=>k (.exit 0) ⟨84,[(0,dI c),(11,.arr 1011),(65,.arr 50018),(66,dI d),(67,dI a),(68,dB f)],[(1011,.arr 152 2 b),(50018,.arr 119 2 e)]⟩) m a b) m
noncomputable def MK (n:Nat):EnP Tryz.prog 71:=mkE (Ja n).ok [orL (NB n n) (N1 n n)] 71 Tryz.f71 [[2],[0]] [sI,sL 3,sL 3] [eT 2,sL 2,sI] (pK (Ux n))

noncomputable def XB (n:Nat):VB:=X5 [⟨70,VE n⟩,⟨72,SL n⟩,⟨71,MK n⟩,⟨68,TU n⟩,⟨67,Vz n⟩] [(0,⟨[0],(zp (rg1 1000000 4 []) [1000000,98012,98017,98018]),[],[],[]⟩),cO 1 [0,14,15] [98012,98017,98018,1000000],cO 2 [0,14,15,16] [98012,98017,98018,1000000],cO 3 [0,3,14,15] [98012,98017,98018,1000000],cO 4 [0,3,4,14,15] [98012,98017,98018,1000000],cO 5 [0,3,4,14,15,26] [98012,98017,98018,1000000],cO 6 [0,3,4,14,15] [98012,98017,98018,1000000],(7,⟨[0,3,4,5,14,15],(zp (rg5 50032 4 [1000000]) [50032,98012,98017,98018,1000000]),[],[],[]⟩),cO 8 [0,3,4,6,7,14,15] [98012,98017,98018,1000000],cO 9 [0,3,4,6,7,14,15,61] [98012,98017,98018,1000000],cO 10 [2] [98012,98017,98018,1000000],cO 11 [0,3,4,14,15,63,64,65] [98012,98017,98018,1000000],cO 12 [0,3,4,14,15,63,64,65,66] [98012,98017,98018,1000000],cO 13 [0,3,4,9,14,15,63,64,65] [9,98012,98017,98018,1000000],(14,⟨[0,3,4,14,15,63,64,65],(zp (rg5 50078 3 [1000000]) [98012,98017,98018,1000000]),[],[],[]⟩),cO 15 [0,3,4,14,15,63,64,65] [98012,98017,98018,1000000],cO 16 [0,14,15] [98012,98017,98018,1000000],cO 17 [2] [98012,98017,98018,1000000]]
noncomputable def Jg (n:Nat) (m:Nat):LpE Tryz.prog:=mkL (XB n).ok nT 12 (cA [1,0,1,2,2,1,1,0,2,1,1,2,2,1,0,2,1,1,1,1,2,2] (Q6 Tryz.f31)) ⟨81,[(0,.ptr 1000000 0),(3,tI),(4,tI),(14,tI),(15,tI),(63,.l 2),(64,tI),(65,tI)],[(98012,.arr 3 1),(98017,.arr 54 3),(98018,.arr 52 6),(1000000,.box [.l 1,.l 1,.l 5,.l 6,tI,.l 5,.l 2,.l 4,.l 7,.l 4,.l 5,.l 3,.arr 98012,.l 1,.l 1,.l 4,tI,.arr 98017,.arr 98018])]⟩ [yI,yI,yI,yI,yL,yI,yI,yL,yL,yL,yL,yL,yL,yL,yI,yL,yL,yL,yL,yL,yL,yL,yL,yL,yL,yI] (fun m R k (y z ac ad:Int) (aa:LL) (ab a:Int) (b c d e f g h:LL) (i:Int) (j l o p q r s t u v:LL) (x:Int)=>Qv n y z aa ab (fun a ae b c d e f g h i j l o p q r s t u v x=>k (.exit 4) ⟨81,[(0,.ptr 1000000 0),(3,dI y),(4,dI z),(14,dI ac),(15,dI ad),(63,dL 2 aa),(64,dI ab),(65,dI a),(66,dB ae)],[(98012,.arr 3 1 b),(98017,.arr 54 3 c),(98018,.arr 52 6 d),(1000000,.box [dL 1 e,dL 1 f,dL 5 g,dL 6 h,dI i,dL 5 j,dL 2 l,dL 4 o,dL 7 p,dL 4 q,dL 5 r,dL 3 s,.arr 98012,dL 1 t,dL 1 u,dL 4 v,dI x,.arr 98017,.arr 98018])]⟩) m a b c d e f g h i j l o p q r s t u v x) m
noncomputable def J4 (n:Nat) (m:Nat):LpE Tryz.prog:=mkL (XB n).ok [Jg n n] 5 (cA [1,0,1,2,2,1,1,0,2,1,1,2,2] (Q6 Tryz.f31)) ⟨81,[(0,.ptr 1000000 0),(3,tI),(4,tI),(14,tI),(15,tI)],[(98012,.arr 3 1),(98017,.arr 54 3),(98018,.arr 52 6),(1000000,.box [.l 1,.l 1,.l 5,.l 6,tI,.l 5,.l 2,.l 4,.l 7,.l 4,.l 5,.l 3,.arr 98012,.l 1,.l 1,.l 4,tI,.arr 98017,.arr 98018])]⟩ [yI,yI,yI,yI,yL,yL,yL,yL,yL,yL,yL,yI,yL,yL,yL,yL,yL,yL,yL,yL,yL,yL,yI] (fun m R k y a z aa b c d e f g h i j l o p q r s t u v x=>Qx n y (fun ab ac ad ae ag ah ai aj ak al am an ao ap aq ar au av aw ax=>k .ret ⟨81,[(2,dI ab)],[(98012,.arr 3 1 ac),(98017,.arr 54 3 ad),(98018,.arr 52 6 ae),(1000000,.box [dL 1 ag,dL 1 ah,dL 5 ai,dL 6 aj,dI ak,dL 5 al,dL 2 am,dL 4 an,dL 7 ao,dL 4 ap,dL 5 aq,dL 3 ar,.arr 98012,dL 1 au,dL 1 av,dL 4 aw,dI ax,.arr 98017,.arr 98018])]⟩) (fun a ay b c d e f g h i j l o p q r s t u v x=>k (.exit 2) ⟨81,[(0,.ptr 1000000 0),(3,dI y),(4,dI a),(14,dI z),(15,dI aa),(26,dB ay)],[(98012,.arr 3 1 b),(98017,.arr 54 3 c),(98018,.arr 52 6 d),(1000000,.box [dL 1 e,dL 1 f,dL 5 g,dL 6 h,dI i,dL 5 j,dL 2 l,dL 4 o,dL 7 p,dL 4 q,dL 5 r,dL 3 s,.arr 98012,dL 1 t,dL 1 u,dL 4 v,dI x,.arr 98017,.arr 98018])]⟩) m a b c d e f g h i j l o p q r s t u v x) m
noncomputable def VZ (n:Nat) (m:Nat):LpE Tryz.prog:=mkL (XB n).ok [J4 n n] 2 (cA [1,0,1,2,2] (Q6 Tryz.f31)) ⟨81,[(0,.ptr 1000000 0),(14,tI),(15,tI)],[(98012,.arr 3 1),(98017,.arr 54 3),(98018,.arr 52 6),(1000000,.box [.l 1,.l 1,.l 5,.l 6,tI,.l 5,.l 2,.l 4,.l 7,.l 4,.l 5,.l 3,.arr 98012,.l 1,.l 1,.l 4,tI,.arr 98017,.arr 98018])]⟩ [yI,yI,yL,yL,yL,yL,yL,yL,yL,yI,yL,yL,yL,yL,yL,yL,yL,yL,yL,yL,yI] (fun m R k x h2 a b c d e f g h i j l o p q r s t u v=>Qi n x (fun y z aa ab ac ad ae ag ah ai aj ak al am an ao ap aq ar au=>k .ret ⟨81,[(2,dI y)],[(98012,.arr 3 1 z),(98017,.arr 54 3 aa),(98018,.arr 52 6 ab),(1000000,.box [dL 1 ac,dL 1 ad,dL 5 ae,dL 6 ag,dI ah,dL 5 ai,dL 2 aj,dL 4 ak,dL 7 al,dL 4 am,dL 5 an,dL 3 ao,.arr 98012,dL 1 ap,dL 1 aq,dL 4 ar,dI au,.arr 98017,.arr 98018])]⟩) (fun h2 av a b c d e f g h i j l o p q r s t u v=>k (.exit 0) ⟨81,[(0,.ptr 1000000 0),(14,dI x),(15,dI h2),(16,dB av)],[(98012,.arr 3 1 a),(98017,.arr 54 3 b),(98018,.arr 52 6 c),(1000000,.box [dL 1 d,dL 1 e,dL 5 f,dL 6 g,dI h,dL 5 i,dL 2 j,dL 4 l,dL 7 o,dL 4 p,dL 5 q,dL 3 r,.arr 98012,dL 1 s,dL 1 t,dL 4 u,dI v,.arr 98017,.arr 98018])]⟩) m h2 a b c d e f g h i j l o p q r s t u v) m
noncomputable def Wv (n:Nat):EnP Tryz.prog 31:=mkG (XB n).ok [VZ n n] 31 Tryz.f31 [eP 1000000 19,sL 1,sL 1,sL 5,sL 6,sI,sL 5,sL 2,sL 4,sL 7,sL 4,sL 5,sL 3,eR 1000001 3 1,sL 1,sL 1,sL 4,sI,eR 1000002 54 3,eR 1000003 52 6] [sI,eI 1000000 19,sL 1,sL 1,sL 5,sL 6,sI,sL 5,sL 2,sL 4,sL 7,sL 4,sL 5,sL 3,eR 98012 3 1,sL 1,sL 1,sL 4,sI,eR 98017 54 3,eR 98018 52 6,eG 1000001,eG 1000002,eG 1000003] [98012,98017,98018] (pK (YP n))

noncomputable def EI (n:Nat):VC:=⟨Gv [(25,KL n),(26,(WU n).E),(27,(PP n).E),(28,(Ud n).E),(29,(US n).E),(30,(WJ n).E),(31,(Wv n).E)],gtt,[cO 0 [2,3,4] [2,3,4],cO 1 [2,3,4,12] [2,3,4],cO 2 [4,5] [4],(3,⟨[2,3,4,6],(zp [2,3,4,20] [2,3,4,20]),[],[(20,12,2812,3,1),(20,13,2813,62,1),(20,14,2814,3,1),(20,15,2815,139,4),(20,17,2817,54,3),(20,18,2818,52,6)],[]⟩),cO 4 [2,3,4,6] (2::3::4::20::rg5 50022 6 []),cO 5 [2,3,4,6,29] (2::3::4::20::rg5 50022 6 []),cO 6 [4,5] [4],cO 7 [2,3,4,6] (2::3::4::20::rg5 50022 6 []),cO 8 [4,6,7] (4::20::50022::rg5 200022 3 []),cO 9 [4,6,7,45] (4::20::50022::rg5 200022 3 []),cO 10 [4,5] [4],cO 11 [4,6] (4::20::rg5 50049 4 []),cO 12 [4,6,52] (4::20::rg5 50051 3 []),cO 13 [4,5] [4],cO 14 [4,6] (4::20::rg5 50055 3 []),cO 15 [4,6,8] (4::20::rg5 50057 3 []),cO 16 [4,6,8,59] (4::20::rg5 50057 3 []),cO 17 [4,5] [4],cO 18 [4,6,68] (4::20::rg5 50057 3 []),cO 19 [4,5] [4],cO 20 [4,5] [4,100057,150057]]⟩
theorem Fg (n:Nat):VCOk Tryz.prog (EI n):=gVC (Ug ⟨NI n,⟨(WU n).ok,⟨(PP n).ok,⟨(Ud n).ok,⟨(US n).ok,⟨(WJ n).ok,⟨(Wv n).ok,trivial⟩⟩⟩⟩⟩⟩⟩)
noncomputable def E8 (n:Nat):EnP Tryz.prog 7:=mkE (Fg n) nT 7 Tryz.f7 [[0,3,6],[0]] [eA [qL 1,qL 1,qL 5,qL 6],eA [qI,qL 5,qL 2,qL 4,qL 7,qL 4,qL 5,qL 3]] [eT 2,eA [qI,qL 3,qL 6],sI] (pK (Wl n))

noncomputable def DJ (n:Nat):VB:=X5 [] [cO 0 [0] [0],cO 1 [0] [0,3,5]]
noncomputable def Bq (n:Nat):EnP Tryz.prog 33:=mkE (DJ n).ok nT 33 Tryz.f33 [[0,3,6]] [] [eA [qI,qL 3,qL 6]] (pK (RD n))

noncomputable def RO (n:Nat):VB:=X5 [] [cO 0 [1,2] [2],cK 1 [4]]
noncomputable def MA (n:Nat):EnP Tryz.prog 73:=mkE (RO n).ok nT 73 Tryz.f73 [[0]] [eA [qI,qL 3,qL 6],sI] [sB] (pK (VJ n))

noncomputable def TY (n:Nat):VB:=X5 [⟨73,MA n⟩] [cO 0 [1] [1],cO 1 [1,24] [1],cK 2 [2],cO 3 [1,26,27,28] [1],cO 4 (1::rg1 26 4 []) [1],cO 5 [1,4,26,27,28] [1,4],cO 6 [1,4,26,27,28,50] [1,4],cK 7 [2],cO 8 [1,4,26,27,28,75] [1,4],cK 9 [2],cO 10 [1,26,27,28,83] [1],cK 11 [2],cO 12 [1,26,27,28] [1],cK 13 [2]]
noncomputable def Fw (n:Nat) (m:Nat):LpE Tryz.prog:=mkL (TY n).ok nT 4 (cA [1,1,0,1,2,2] (Q6 Tryz.f34)) ⟨85,[(1,.ptr 1 0),(26,.l 6),(27,tI),(28,tI)],[(1,.box [tI,.l 3,.l 6])]⟩ [yL,yI,yI,yI,yL,yL] (fun m R k b h2 a c d e=>ZX n b h2 c d e (k .ret ⟨85,[(2,dB false)],[]⟩) (fun a f=>k (.exit 0) ⟨85,[(1,.ptr 1 0),(26,dL 6 b),(27,dI h2),(28,dI a),(29,dB f)],[(1,.box [dI c,dL 3 d,dL 6 e])]⟩) m a) m
noncomputable def Pq (n:Nat):EnP Tryz.prog 34:=mkE (TY n).ok [Fw n n] 34 Tryz.f34 [[0]] [eA [qI,qL 3,qL 6]] [sB] (pK (Je n))

noncomputable def S5 (n:Nat):VB:=X5 [⟨34,Pq n⟩] [cO 0 [1,2] [2],cO 1 [1,2,17] [2],cK 2 [4],cO 3 [2,18,19,20] [2],cO 4 (2::rg1 18 4 []) [2],cO 5 [2,6,18,19,20] [2],cO 6 [2,18,19,20,31] [2],cK 7 [4],cO 8 [2,18,19,20] [2],cK 9 [4]]
noncomputable def EH (n:Nat) (m:Nat):LpE Tryz.prog:=mkL (S5 n).ok nT 4 (cA [1,1,0,1,2,2] (Q6 Tryz.f43)) ⟨33,[(2,.ptr 2 0),(18,.l 1),(19,tI),(20,tI)],[(2,.box [tI,.l 3,.l 6])]⟩ [yL,yI,yI,yI,yL,yL] (fun m R k h2 b a c d e=>WR n h2 b c (k .ret ⟨33,[(4,dB false)],[]⟩) (fun a f=>k (.exit 0) ⟨33,[(2,.ptr 2 0),(18,dL 1 h2),(19,dI b),(20,dI a),(21,dB f)],[(2,.box [dI c,dL 3 d,dL 6 e])]⟩) m a) m
noncomputable def SV (n:Nat):EnP Tryz.prog 43:=mkE (S5 n).ok [EH n n] 43 Tryz.f43 [[0]] [eA [qI,qL 3,qL 6],sL 1] [sB] (pK (G7 n))

noncomputable def Rk (n:Nat):VB:=X5 [⟨92,DA n⟩] [cO 0 [1,3,5] [3,5],cK 1 [6]]
noncomputable def NE (n:Nat):EnP Tryz.prog 44:=mkE (Rk n).ok nT 44 Tryz.f44 [[0]] [eA [qI,qL 3,qL 6],sL 1,eA [qI,qI,qI,qI,qI,qI]] [sI] (pK (Vb n))

noncomputable def TP (n:Nat):VB:=X5 [⟨43,SV n⟩,⟨44,NE n⟩] [cO 0 [1,2] [2],cO 1 [1,2,11] [2],cK 2 [4,5],cO 3 [1,2,13,14,15] [2],cO 4 [1,2,13,14,15,16] [2],cO 5 [1,2,6,7,13,14,15] [2,7],cO 6 [1,2,6,13,14,15,26] [2],cK 7 [4,5],cO 8 [1,2,13,14,15] [2],cK 9 [4,5]]
noncomputable def F8 (n:Nat) (m:Nat):LpE Tryz.prog:=mkL (TP n).ok nT 4 (cA [1,1,0,1,2,2] (Q6 Tryz.f32)) ⟨29,[(1,.l 1),(2,.ptr 2 0),(13,.l 6),(14,tI),(15,tI)],[(2,.box [tI,.l 3,.l 6])]⟩ [yL,yL,yI,yI,yI,yL,yL] (fun m R k h2 b c a d e f=>ZZ n h2 b c d e f (fun a=>k .ret ⟨29,[(4,dI a),(5,dB true)],[]⟩) (fun a g=>k (.exit 0) ⟨29,[(1,dL 1 h2),(2,.ptr 2 0),(13,dL 6 b),(14,dI c),(15,dI a),(16,dB g)],[(2,.box [dI d,dL 3 e,dL 6 f])]⟩) m a) m
noncomputable def PW (n:Nat):EnP Tryz.prog 32:=mkE (TP n).ok [F8 n n] 32 Tryz.f32 [[0],[0]] [eA [qI,qL 3,qL 6],sL 1] [eT 2,sI,sB] (pK (GE n))

noncomputable def DS (n:Nat):VB:=X5 [⟨33,Bq n⟩,⟨32,PW n⟩,⟨34,Pq n⟩] [cK 0 [],cK 1 [2],cK 2 [0]]
noncomputable def B9 (n:Nat):EnP Tryz.prog 8:=mkE (DS n).ok nT 8 Tryz.f8 [[0]] [] [sB] (pK (ZH n))

noncomputable def Na (n:Nat):VB:=X5 [⟨18,Dw n⟩,⟨20,YX n⟩] [cO 0 [1,2] [2],cO 1 [2,5] [2,50009],cO 2 [2,5,6] [2,13,50009],cO 3 [2,5,6,15,16] [2,13,50009],cO 4 [2,5,6,15,16,17] [2,13,50009],cO 5 [2,5,6,7,15,16] [2,13,50009],cO 6 [2,5,6,15,16] [2,13,50009],cO 7 [2,5,6,15,16] [2,13,50009],cO 8 [4] [13]]
noncomputable def BU (n:Nat) (m:Nat):LpE Tryz.prog:=mkL (Na n).ok nT 4 (cA [1,1,1,0,1,2,2] (Q6 Tryz.f11)) ⟨28,[(2,.ptr 2 0),(5,.ptr 50009 0),(6,.arr 13),(15,tI),(16,tI)],[(2,.box [tI,.l 3,.l 6]),(13,.arr 3 1),(50009,.box [.l 1,tI])]⟩ [yI,yI,yI,yL,yL,yL,yL,yI] (fun m R k e a f g h b c d=>UL n e f (fun a i b c d=>k (.exit 0) ⟨28,[(2,.ptr 2 0),(5,.ptr 50009 0),(6,.arr 13),(15,dI e),(16,dI a),(17,dB i)],[(2,.box [dI f,dL 3 g,dL 6 h]),(13,.arr 3 1 b),(50009,.box [dL 1 c,dI d])]⟩) m a b c d) m
noncomputable def AA (n:Nat):EnP Tryz.prog 11:=mkE (Na n).ok [BU n n] 11 Tryz.f11 [[1]] [eA [qI,qL 3,qL 6],sL 1] [sL 1] (pK (HY n))

noncomputable def Cb (n:Nat):VB:=X5 [] [cK 0 [0],cK 1 [2]]
noncomputable def Bu (n:Nat):EnP Tryz.prog 154:=mkE (Cb n).ok nT 154 Tryz.f154 [[0]] [eD (.i .u8)] [sB] (pK (Rw n))

noncomputable def Bx (n:Nat):VB:=X5 [] [cK 0 [0],cK 1 [2]]
noncomputable def Q12 (n:Nat):EnP Tryz.prog 155:=mkE (Bx n).ok nT 155 Tryz.f155 [[0]] [eD (.i .u8)] [sB] (pK (CK n))

noncomputable def Lx (n:Nat):VB:=X5 [⟨154,Bu n⟩,⟨155,Q12 n⟩] [cK 0 [0],cK 1 [0,17],cK 2 [2],cK 3 [0,3],cK 4 [0,3,21],cK 5 [0,3],cK 6 [0,3,41],cK 7 [2],cK 8 [2]]
noncomputable def Q0U (n:Nat) (m:Nat):LpE Tryz.prog:=mkL (Lx n).ok nT 4 (cA [1,1,0,1,2,2] (Q6 Tryz.f121)) ⟨42,[(0,.t),(3,tI)],[]⟩ [yT,yI] (fun m R k b a=>Py n b (k .ret ⟨42,[(2,dB false)],[]⟩) (fun a c=>k (.exit 0) ⟨42,[(0,dT b),(3,dI a),(21,dB c)],[]⟩) m a) m
noncomputable def RG (n:Nat):EnP Tryz.prog 121:=mkE (Lx n).ok [Q0U n n] 121 Tryz.f121 [[0]] [sT] [sB] (pK (PN n))

noncomputable def NZ (n:Nat):VB:=X5 [⟨121,RG n⟩] [cK 0 [0,1],cK 1 [0,1,11],cK 2 [4],cK 3 [0,1,5],cK 4 [0,1,5,14],cK 5 [0,1,5],cK 6 [0,1,5,25],cK 7 [4],cK 8 [4]]
noncomputable def Bl (n:Nat) (m:Nat):LpE Tryz.prog:=mkL (NZ n).ok nT 4 (cA [1,1,0,1,2,2] (Q6 Tryz.f117)) ⟨26,[(0,.l 1),(1,tI),(5,tI)],[]⟩ [yL,yI,yI] (fun m R k b c a=>Tg n b c (k .ret ⟨26,[(4,dI (5:Int))],[]⟩) (fun a d=>k (.exit 0) ⟨26,[(0,dL 1 b),(1,dI c),(5,dI a),(14,dB d)],[]⟩) m a) m
noncomputable def Ap (n:Nat):EnP Tryz.prog 117:=mkE (NZ n).ok [Bl n n] 117 Tryz.f117 [[0]] [sL 1,sI] [sI] (pK (Sf n))

noncomputable def Gy (n:Nat):VB:=X5 [] [cO 0 [1] [1],cO 1 [1,3] [1],(2,⟨[1,3,4],[(1,1)],[(3,1003,9,1)],[],[]⟩),cO 3 [1,3,4,9] [1,1003],cO 4 [1,3,4] [1,20],cO 5 [1,3,4] [1,20],cO 6 [2] [1003],(3000000003,⟨[1,3,4],(zp [1,20,1003] [1,1003,1003]),[],[],[]⟩)]
noncomputable def SM (n:Nat) (m:Nat):LpE Tryz.prog:=mkL (Gy n).ok nT 3 (cA [1,1,0,1,2,2] (Q6 Tryz.f118)) ⟨22,[(1,.ptr 1 0),(3,.arr 1003),(4,tI)],[(1,.box [.l 1,.l 1,.l 5,.l 6]),(1003,.arr 9 1)]⟩ [yI,yL,yL,yL,yL,yL] (fun m R k a h2 d c e b=>Yf n c (fun a f b=>k (.exit 0) ⟨22,[(1,.ptr 1 0),(3,.arr 1003),(4,dI a),(9,dB f)],[(1,.box [dL 1 h2,dL 1 d,dL 5 c,dL 6 e]),(1003,.arr 9 1 b)]⟩) m a b) m
noncomputable def Rc (n:Nat):EnP Tryz.prog 118:=mkE (Gy n).ok [SM n n] 118 Tryz.f118 [[1]] [eA [qL 1,qL 1,qL 5,qL 6]] [sL 1] (pK (JQ n))

noncomputable def Q3L (n:Nat):VB:=X5 [] [cK 0 [0,1,2],cK 1 [6]]
noncomputable def AZ (n:Nat):EnP Tryz.prog 119:=mkE (Q3L n).ok nT 119 Tryz.f119 [[0]] [sI,sI,sI] [sB] (pK (Jx n))

noncomputable def Q23 (n:Nat):VB:=X5 [] [cO 0 [2,3] [2,3],cK 1 [4]]
noncomputable def CB (n:Nat):EnP Tryz.prog 152:=mkE (Q23 n).ok nT 152 Tryz.f152 [[0]] [eA [qI,qI,qI,qI,qI,qI],eA [qI,qI]] [sB] (pK (FQ n))

noncomputable def Lv (n:Nat):VB:=X5 [⟨152,CB n⟩] [cO 0 [1,3,5] [3,5],cO 1 [1,3,5,7] [3,5,7],cO 2 [1,3,5,7,8,9] [3,5,7,9],cO 3 [1,3,5,7,8,9,10] [3,5,7,9],cO 4 [1,3,5,7,8,9,10,19] [3,5,7,9],cO 5 [1,3,5,7,8,9,10] [3,5,7,9],cO 6 [1,3,5,7,8,9,10,28] [3,5,7,9],cO 7 [1,3,5,7,8,9,10] [3,5,7,9],cO 8 [1,3,5,7,8,9,10] [3,5,7,9],cK 9 [6]]
noncomputable def Q0G (n:Nat) (m:Nat):LpE Tryz.prog:=mkL (Lv n).ok nT 4 (cA [1,1,1,0,1,2,2] (Q6 Tryz.f153)) ⟨61,[(1,tI),(3,.ptr 3 0),(5,.ptr 5 0),(7,.ptr 7 0),(8,tI),(9,.ptr 9 0),(10,tI)],[(3,.box [.l 1,.l 1,.l 5,.l 6]),(5,.box [tI,tI]),(7,.box [.x,.x,.x,.x,.x,.x]),(9,.box [.x,.x,.x,.x,.x,.x])]⟩ [yI,yI,yI,yL,yL,yL,yL,yI,yI,yD,yD,yD,yD,yD,yD,yD,yD,yD,yD,yD,yD] (fun m R k i a b p q r j l o s t u v x y c d e f g h=>KP n i j l o (fun a b z c d e f g h=>k (.exit 0) ⟨61,[(1,dI i),(3,.ptr 3 0),(5,.ptr 5 0),(7,.ptr 7 0),(8,dI a),(9,.ptr 9 0),(10,dI b),(19,dB z)],[(3,.box [dL 1 p,dL 1 q,dL 5 r,dL 6 j]),(5,.box [dI l,dI o]),(7,.box [.d s,.d t,.d u,.d v,.d x,.d y]),(9,.box [.d c,.d d,.d e,.d f,.d g,.d h])]⟩) m a b c d e f g h) m
noncomputable def Q1P (n:Nat):EnP Tryz.prog 153:=mkE (Lv n).ok [Q0G n n] 153 Tryz.f153 [[0]] [eA [qL 1,qL 1,qL 5,qL 6],sI,eA [qI,qI]] [sB] (pK (Ep n))

noncomputable def Hx (n:Nat):VB:=X5 [⟨119,AZ n⟩,⟨152,CB n⟩,⟨153,Q1P n⟩] [cO 0 [1,2] [2],cO 1 [1,2,5] [2,5],cO 2 [1,2,5,6] [2,5],cO 3 [1,2,5,69] [2,5],cK 4 [4],cO 5 [1,2,7,8] [2,7,8],cO 6 [1,2,7,8,82] [2,7,8],cK 7 [4],cO 8 [1,2,7,8,9] [2,7,8],cO 9 [1,2,7,8,9,85] [2,7,8],cO 10 [1,2,7,8,9] [2,7,8],cO 11 [1,2,7,8,9,103] [2,7,8],cK 12 [4],cK 13 [115],cK 14 [4],cK 15 [4]]
noncomputable def Mh (n:Nat) (m:Nat):LpE Tryz.prog:=mkL (Hx n).ok nT 9 (cA [1,1,1,1,1,1,0,1,2,2] (Q6 Tryz.f120)) ⟨116,[(1,tI),(2,.ptr 2 0),(7,.ptr 7 0),(8,.ptr 8 0),(9,tI)],[(2,.box [.l 1,.l 1,.l 5,.l 6]),(7,.box [tI,tI]),(8,.box [tI,tI])]⟩ [yI,yI,yL,yL,yL,yL,yI,yI,yI,yI] (fun m R k b a h i j c d e f g=>JN n b c d e f g (k .ret ⟨116,[(4,dI (5:Int))],[]⟩) (fun a l=>k (.exit 0) ⟨116,[(1,dI b),(2,.ptr 2 0),(7,.ptr 7 0),(8,.ptr 8 0),(9,dI a),(85,dB l)],[(2,.box [dL 1 h,dL 1 i,dL 5 j,dL 6 c]),(7,.box [dI d,dI e]),(8,.box [dI f,dI g])]⟩) m a) m
noncomputable def LS (n:Nat):EnP Tryz.prog 120:=mkE (Hx n).ok [Mh n n] 120 Tryz.f120 [[0]] [eA [qL 1,qL 1,qL 5,qL 6],sI] [sI] (pK (Va n))

noncomputable def VW (n:Nat):VB:=X5 [⟨117,Ap n⟩,⟨118,Rc n⟩,⟨119,AZ n⟩,⟨120,LS n⟩] [cO 0 [1] [1],cO 1 [1,34] [1],cK 2 [2],cO 3 [1,38] [1],cK 4 [2],cO 5 [1,3] [1],cO 6 [1,3,43] [1],cO 7 [1,3] [1],cO 8 [1,3,4] [1],cO 9 [1,3,4,51] [1],cK 10 [2],cO 11 [1,5] [1],cO 12 [1,5,57] [1],cO 13 [1,5] [1],cO 14 [1,5,6] [1],cO 15 [1,5,6,65] [1],cK 16 [2],cO 17 [1,7] [1],cO 18 [1,7,8] [1],cO 19 [1,7,8,73] [1],cO 20 [1,7,8] [1],cO 21 [1,7,8,9] [1],cO 22 [1,7,8,9,80] [1],cK 23 [2],cO 24 [1,7,8,10] [1,10],cO 25 [1,7,8,112] [1],cK 26 [2],cO 27 [1,11] [1],cO 28 [1,11,117] [1],cO 29 [1,11] [1],cO 30 [1,11,12] [1],cO 31 [1,11,12,124] [1],cK 32 [2],cK 33 [2]]
noncomputable def BV (n:Nat) (m:Nat):LpE Tryz.prog:=mkL (VW n).ok nT 6 (cA [1,1,1,0,1,2,2] (Q6 Tryz.f74)) ⟨126,[(1,.ptr 1 0),(3,tI)],[(1,.box [.l 1,.l 1,.l 5,.l 6])]⟩ [yI,yL,yL,yL,yL] (fun m R k a h2 b c d=>Td n h2 (fun e=>k .ret ⟨126,[(2,dI e)],[]⟩) (fun a f=>k (.exit 0) ⟨126,[(1,.ptr 1 0),(3,dI a),(43,dB f)],[(1,.box [dL 1 h2,dL 1 b,dL 5 c,dL 6 d])]⟩) m a) m
noncomputable def BF (n:Nat) (m:Nat):LpE Tryz.prog:=mkL (VW n).ok nT 12 (cA [1,1,1,1,0,1,2,2] (Q6 Tryz.f74)) ⟨126,[(1,.ptr 1 0),(5,tI)],[(1,.box [.l 1,.l 1,.l 5,.l 6])]⟩ [yI,yL,yL,yL,yL] (fun m R k a c b d e=>Ti n b (fun f=>k .ret ⟨126,[(2,dI f)],[]⟩) (fun a g=>k (.exit 2) ⟨126,[(1,.ptr 1 0),(5,dI a),(57,dB g)],[(1,.box [dL 1 c,dL 1 b,dL 5 d,dL 6 e])]⟩) m a) m
noncomputable def Bz (n:Nat) (m:Nat):LpE Tryz.prog:=mkL (VW n).ok nT 19 (cA [1,1,1,1,1,1,0,1,2,2] (Q6 Tryz.f74)) ⟨126,[(1,.ptr 1 0),(7,.l 1),(8,tI)],[(1,.box [.l 1,.l 1,.l 5,.l 6])]⟩ [yL,yI,yL,yL,yL,yL] (fun m R k b a c e d f=>UM n b c d (fun g=>k .ret ⟨126,[(2,dI g)],[]⟩) (fun a h=>k (.exit 4) ⟨126,[(1,.ptr 1 0),(7,dL 1 b),(8,dI a),(73,dB h)],[(1,.box [dL 1 c,dL 1 e,dL 5 d,dL 6 f])]⟩) m a) m
noncomputable def Aa (n:Nat) (m:Nat):LpE Tryz.prog:=mkL (VW n).ok nT 28 (cA [1,1,1,1,1,1,1,0,1,2,2] (Q6 Tryz.f74)) ⟨126,[(1,.ptr 1 0),(11,tI)],[(1,.box [.l 1,.l 1,.l 5,.l 6])]⟩ [yI,yL,yL,yL,yL] (fun m R k a b c d e=>UF n b c d e (fun f=>k .ret ⟨126,[(2,dI f)],[]⟩) (fun a g=>k (.exit 6) ⟨126,[(1,.ptr 1 0),(11,dI a),(117,dB g)],[(1,.box [dL 1 b,dL 1 c,dL 5 d,dL 6 e])]⟩) m a) m
noncomputable def Lr (n:Nat):EnP Tryz.prog 74:=mkE (VW n).ok [BV n n,BF n n,Bz n n,Aa n n] 74 Tryz.f74 [[0]] [eA [qL 1,qL 1,qL 5,qL 6]] [sI] (pK (Vr n))

noncomputable def Lt (n:Nat):VB:=X5 [] [cO 0 [1] [1],cO 1 [1,43] [1],cK 2 [2],cO 3 [1,3] [1],cO 4 [1,3,48] [1],cO 5 [1,3] [1],cO 6 [1,3,58] [1],cK 7 [2],cK 8 [2]]
noncomputable def Q0N (n:Nat) (m:Nat):LpE Tryz.prog:=mkL (Lt n).ok nT 4 (cA [1,1,0,1,2,2] (Q6 Tryz.f75)) ⟨59,[(1,.ptr 1 0),(3,tI)],[(1,.box [tI,.l 5,.l 2,.l 4,.l 7,.l 4,.l 5,.l 3])]⟩ [yI,yI,yL,yL,yL,yL,yL,yL,yL] (fun m R k a h2 c d b e f g h=>Vv n b (k .ret ⟨59,[(2,dB true)],[]⟩) (fun a i=>k (.exit 0) ⟨59,[(1,.ptr 1 0),(3,dI a),(48,dB i)],[(1,.box [dI h2,dL 5 c,dL 2 d,dL 4 b,dL 7 e,dL 4 f,dL 5 g,dL 3 h])]⟩) m a) m
noncomputable def Q1Z (n:Nat):EnP Tryz.prog 75:=mkE (Lt n).ok [Q0N n n] 75 Tryz.f75 [[0]] [eA [qI,qL 5,qL 2,qL 4,qL 7,qL 4,qL 5,qL 3]] [sB] (pK (RX n))

noncomputable def Q49 (n:Nat):VB:=X5 [] [cK 0 [0,1,2],cK 1 [6]]
noncomputable def Hy (n:Nat):EnP Tryz.prog 76:=mkE (Q49 n).ok nT 76 Tryz.f76 [[0]] [sI,sI,sI] [sB] (pK (Uv n))

noncomputable def Q4e (n:Nat):VB:=X5 [] [cK 0 [0,1,2],cK 1 [6]]
noncomputable def M6 (n:Nat):EnP Tryz.prog 84:=mkE (Q4e n).ok nT 84 Tryz.f84 [[0]] [sI,sI,sI] [sB] (pK (Gm n))

noncomputable def Ni (n:Nat):VB:=X5 [⟨84,M6 n⟩] [cO 0 [1] [1],cK 1 [2]]
noncomputable def JI (n:Nat):EnP Tryz.prog 122:=mkE (Ni n).ok nT 122 Tryz.f122 [[0]] [eA [qT,qI,qI,qI,qI]] [sB] (pK (XF n))

noncomputable def KS (n:Nat):VB:=X5 [⟨121,RG n⟩,⟨122,JI n⟩] [cO 0 [1,2] [2],cO 1 [1,2,13] [2],cK 2 [4],cO 3 [1,2,5] [2],cO 4 [1,2,5,16] [2],cO 5 [1,2,5] [2],cO 6 [1,2,5,31] [2],cK 7 [4],cK 8 [38],cK 9 [4],cK 10 [4]]
noncomputable def Nm (n:Nat) (m:Nat):LpE Tryz.prog:=mkL (KS n).ok nT 4 (cA [1,1,0,1,2,2] (Q6 Tryz.f77)) ⟨39,[(1,tI),(2,.ptr 2 0),(5,tI)],[(2,.box [tI,.l 5,.l 2,.l 4,.l 7,.l 4,.l 5,.l 3])]⟩ [yI,yI,yI,yL,yL,yL,yL,yL,yL,yL] (fun m R k b a d c e f g h i j=>Jc n b c (k .ret ⟨39,[(4,dI (5:Int))],[]⟩) (fun a l=>k (.exit 0) ⟨39,[(1,dI b),(2,.ptr 2 0),(5,dI a),(16,dB l)],[(2,.box [dI d,dL 5 c,dL 2 e,dL 4 f,dL 7 g,dL 4 h,dL 5 i,dL 3 j])]⟩) m a) m
noncomputable def Mi (n:Nat):EnP Tryz.prog 77:=mkE (KS n).ok [Nm n n] 77 Tryz.f77 [[0]] [eA [qI,qL 5,qL 2,qL 4,qL 7,qL 4,qL 5,qL 3],sI] [sI] (pK (VT n))

noncomputable def R5 (n:Nat):VB:=X5 [] [cO 0 [2,3] [2,3],cO 1 [2,3,5] [2,3,5],cO 2 [2,5,16] [2,5],cO 3 [2,5] [2,5],cO 4 [2,5,6] [2,5],(5,⟨[2,5,6,7],[(2,2),(5,5)],[(6,1006,169,4)],[],[]⟩),cO 6 [2,5,6,7,22] [2,5,1006],cO 7 [2,5,6,7] [2,5,84,1006],cO 8 [2,5,6,7,8] [2,5,8,1006],cO 9 (2::rg1 5 5 []) [2,5,8,9,1006],cO 10 (2::rg1 5 5 [31]) [2,5,8,9,1006],cO 11 (2::rg1 5 5 []) [2,5,8,9,1006],cO 12 (2::rg1 5 5 [49]) [2,5,8,9,1006],cO 13 (2::rg1 5 5 []) [2,5,8,9,1006],cO 14 (2::rg1 5 5 [69]) [2,5,8,9,1006],cO 15 (2::rg1 5 6 []) [2,5,8,9,1006],cO 16 (2::rg1 5 6 [72]) [2,5,8,9,1006],cO 17 (2::rg1 5 6 []) [2,5,8,9,1006],cO 18 [2,5,6,7] [2,5,84],cO 19 [4] [1006],(3000000006,⟨[2,5,6,7],(zp [2,5,84,1006] [2,5,1006,1006]),[],[],[]⟩)]
noncomputable def DN (n:Nat) (m:Nat):LpE Tryz.prog:=mkL (R5 n).ok nT 6 (cA [1,1,1,1,0,1,2,2] (Q6 Tryz.f128)) ⟨86,[(2,.ptr 2 0),(5,.ptr 5 0),(6,.arr 1006),(7,tI)],[(2,.box [.l 1,.l 1,.l 5,.l 6]),(5,.box [tI,tI]),(1006,.arr 169 4)]⟩ [yI,yL,yL,yL,yL,yI,yI,yL] (fun m R k h2 e f g b c d a=>YG n b c d (fun h2 h a=>k (.exit 0) ⟨86,[(2,.ptr 2 0),(5,.ptr 5 0),(6,.arr 1006),(7,dI h2),(22,dB h)],[(2,.box [dL 1 e,dL 1 f,dL 5 g,dL 6 b]),(5,.box [dI c,dI d]),(1006,.arr 169 4 a)]⟩) m h2 a) m
noncomputable def BR (n:Nat):EnP Tryz.prog 128:=mkE (R5 n).ok [DN n n] 128 Tryz.f128 [[4]] [eA [qL 1,qL 1,qL 5,qL 6],eA [qI,qI]] [sL 4] (pK (EF n))

noncomputable def R4 (n:Nat):VB:=X5 [⟨128,BR n⟩] [cO 0 [3,4,5,6] [3,4,5,6],cO 1 [5,6,8] [5,6],cO 2 [5,6,8,9] [5,6],cO 3 [5,6,8,9,16] [5,6],cO 4 [5,6,8,9] [5,6],cO 5 [5,6,8,9,25] [5,6],cO 6 [6,7] [6],cO 7 [6,7] [6]]
noncomputable def DP (n:Nat) (m:Nat):LpE Tryz.prog:=mkL (R4 n).ok nT 3 (cA [1,1,0,1,2,2] (Q6 Tryz.f89)) ⟨31,[(5,.ptr 5 0),(6,.ptr 6 0),(8,.l 4),(9,tI)],[(5,.box [tI,tI]),(6,.box [.ci .i64 0,.ci .i64 0,.ci .i64 0,.ci .i64 0])]⟩ [yL,yI,yI,yI] (fun m R k h2 a b c=>Hb n h2 b c (fun d e f g=>k .ret ⟨31,[(6,.ptr 6 0),(7,dB true)],[(6,.box [.d d,.d e,.d f,.d g])]⟩) (fun a h=>k (.exit 0) ⟨31,[(5,.ptr 5 0),(6,.ptr 6 0),(8,dL 4 h2),(9,dI a),(16,dB h)],[(5,.box [dI b,dI c]),(6,.box [dI (0:Int),dI (0:Int),dI (0:Int),dI (0:Int)])]⟩) m a) m
noncomputable def Nv (n:Nat):EnP Tryz.prog 89:=mkE (R4 n).ok [DP n n] 89 Tryz.f89 [[0,0,0,0],[0]] [eA [qL 1,qL 1,qL 5,qL 6],eA [qI,qI],eA [qI,qI]] [eT 2,eA [qX,qX,qX,qX],sB] (pK (Vh n))

noncomputable def Wd (n:Nat):VB:=X5 [⟨74,Lr n⟩,⟨84,M6 n⟩,⟨89,Nv n⟩] [cO 0 [2,3] [2,3],cO 1 [2,3,13] [2,3],cK 2 [4],cO 3 [2,3,22] [2,3],cK 4 [4],cO 5 [2,3,34] [2,3],cK 6 [4],cO 7 [2,3,5] [2,3],cO 8 [2,3,5,39] [2,3],cO 9 [2,3,5] [2,3],cO 10 [2,3,5,63] [2,3],cK 11 [4],cO 12 [2,3,6] [2,3],cO 13 [2,3,6,68] [2,3],cO 14 [2,3,6] [2,3],cO 15 [2,3,6,7] [2,3],cO 16 [2,3,6,7,73] [2,3],cO 17 [2,3,6,7] [2,3],cO 18 [2,3,6,7,88] [2,3],cK 19 [4],cO 20 [2,3,8] [2,3],cO 21 [2,3,8,93] [2,3],cO 22 [2,3,8] [2,3],cO 23 [2,3,8,10] [2,3],cO 24 [2,3,8,113] [2,3],cK 25 [4],cK 26 [4]]
noncomputable def RQ (n:Nat) (m:Nat):LpE Tryz.prog:=mkL (Wd n).ok nT 8 (cA [1,1,1,1,0,1,2,2] (Q6 Tryz.f78)) ⟨114,[(2,.ptr 2 0),(3,.ptr 3 0),(5,tI)],[(2,.box [.l 1,.l 1,.l 5,.l 6]),(3,.box [.l 2,tI])]⟩ [yI,yL,yL,yL,yL,yL,yI] (fun m R k h2 c d a e b f=>Yd n a b (k .ret ⟨114,[(4,dI (4:Int))],[]⟩) (fun h2 g=>k (.exit 0) ⟨114,[(2,.ptr 2 0),(3,.ptr 3 0),(5,dI h2),(39,dB g)],[(2,.box [dL 1 c,dL 1 d,dL 5 a,dL 6 e]),(3,.box [dL 2 b,dI f])]⟩) m h2) m
noncomputable def RN (n:Nat) (m:Nat):LpE Tryz.prog:=mkL (Wd n).ok nT 16 (cA [1,1,1,1,1,0,1,2,2,1,0,2,1,2,2] (Q6 Tryz.f78)) ⟨114,[(2,.ptr 2 0),(3,.ptr 3 0),(6,tI),(7,tI)],[(2,.box [.l 1,.l 1,.l 5,.l 6]),(3,.box [.l 2,tI])]⟩ [yI,yI,yL,yL,yL,yL,yL,yI] (fun m R k b a d e f g c h=>J9 n b c (k .ret ⟨114,[(4,dI (5:Int))],[]⟩) (fun a i=>k (.exit 4) ⟨114,[(2,.ptr 2 0),(3,.ptr 3 0),(6,dI b),(7,dI a),(73,dB i)],[(2,.box [dL 1 d,dL 1 e,dL 5 f,dL 6 g]),(3,.box [dL 2 c,dI h])]⟩) m a) m
noncomputable def N4 (n:Nat) (m:Nat):LpE Tryz.prog:=mkL (Wd n).ok [RN n n] 13 (cA [1,1,1,1,1,0,1,2,2] (Q6 Tryz.f78)) ⟨114,[(2,.ptr 2 0),(3,.ptr 3 0),(6,tI)],[(2,.box [.l 1,.l 1,.l 5,.l 6]),(3,.box [.l 2,tI])]⟩ [yI,yL,yL,yL,yL,yL,yI] (fun m R k a c d e f b g=>Ur n b (k .ret ⟨114,[(4,dI (5:Int))],[]⟩) (fun a h=>k (.exit 2) ⟨114,[(2,.ptr 2 0),(3,.ptr 3 0),(6,dI a),(68,dB h)],[(2,.box [dL 1 c,dL 1 d,dL 5 e,dL 6 f]),(3,.box [dL 2 b,dI g])]⟩) m a) m
noncomputable def Nr (n:Nat) (m:Nat):LpE Tryz.prog:=mkL (Wd n).ok nT 21 (cA [1,1,1,1,1,1,0,1,2,2] (Q6 Tryz.f78)) ⟨114,[(2,.ptr 2 0),(3,.ptr 3 0),(8,tI)],[(2,.box [.l 1,.l 1,.l 5,.l 6]),(3,.box [.l 2,tI])]⟩ [yI,yL,yL,yL,yL,yL,yI] (fun m R k a b c d e f g=>Y9 n b c d e f (k .ret ⟨114,[(4,dI (11:Int))],[]⟩) (fun a h=>k (.exit 6) ⟨114,[(2,.ptr 2 0),(3,.ptr 3 0),(8,dI a),(93,dB h)],[(2,.box [dL 1 b,dL 1 c,dL 5 d,dL 6 e]),(3,.box [dL 2 f,dI g])]⟩) m a) m
noncomputable def Hm (n:Nat):EnP Tryz.prog 78:=mkE (Wd n).ok [RQ n n,N4 n n,Nr n n] 78 Tryz.f78 [[0]] [eA [qL 1,qL 1,qL 5,qL 6],eA [qL 2,qI]] [sI] (pK (UB n))

noncomputable def DU (n:Nat):VB:=X5 [] [cO 0 [1,2,3] [3],cK 1 [6]]
noncomputable def Tb (n:Nat):EnP Tryz.prog 123:=mkE (DU n).ok nT 123 Tryz.f123 [[0]] [eA [qI,qL 5,qL 2,qL 4,qL 7,qL 4,qL 5,qL 3],sI,sI] [sB] (pK (Jv n))

noncomputable def Tj (n:Nat):VB:=X5 [⟨78,Hm n⟩] [cO 0 [2,3] [2,3],cO 1 [2,3,7] [2,3],cO 2 [2,3,7,17] [2,3],cK 3 [4,5,6],cO 4 [2,3,8] [2,3],(5,⟨[2,3,8,9],[(2,2),(3,3)],[(8,1008,227,2)],[],[]⟩),cO 6 [2,3,8,9,26] [2,3,1008],cO 7 [2,3,8,9] [2,3,1008],cO 8 [2,3,8,9,10] [2,3,10,1008],cO 9 [2,3,8,9,10,11] [2,3,10,1008],cO 10 [2,3,8,9,10,11,47] [2,3,10,1008],cO 11 [2,3,8,9,10,11] [2,3,10,1008],cO 12 (2::3::rg1 8 5 []) [2,3,10,1008],cO 13 (2::3::rg1 8 5 [53]) [2,3,10,1008],cO 14 (2::3::rg1 8 5 []) [2,3,10,62],cO 15 (2::3::rg1 8 5 []) [2,3,10,62],cO 16 [2,3,8,65] [2,3,1008],cK 17 [4,5,6],cO 18 [4,5,6] [1008],cO 3000000006 [2,3,8,9] [2,3,1008],(3000000013,⟨(2::3::rg1 8 5 []),(zp [2,3,10,62,1008] [2,3,10,1008,1008]),[],[],[]⟩)]
noncomputable def BB (n:Nat) (m:Nat):LpE Tryz.prog:=mkL (Tj n).ok nT 13 (cA [1,1,1,0,1,2,2,1,0,2,1,1,1,1,2,2] (Q6 Tryz.f126)) ⟨77,[(2,.ptr 2 0),(3,.ptr 3 0),(8,.arr 1008),(9,tI),(10,.ptr 10 0),(11,tI),(12,tI)],[(2,.box [.l 1,.l 1,.l 5,.l 6]),(3,.box [.l 2,tI]),(10,.box [.x,.x,.x,.x,.x]),(1008,.arr 227 2)]⟩ [yI,yI,yI,yL,yL,yL,yL,yL,yI,yD,yD,yD,yD,yD,yL] (fun m R k f c a g h i j l o p d e q r b=>Wa n c d e (fun a s b=>k (.exit 2) ⟨77,[(2,.ptr 2 0),(3,.ptr 3 0),(8,.arr 1008),(9,dI f),(10,.ptr 10 0),(11,dI c),(12,dI a),(53,dB s)],[(2,.box [dL 1 g,dL 1 h,dL 5 i,dL 6 j]),(3,.box [dL 2 l,dI o]),(10,.box [.d p,.d d,.d e,.d q,.d r]),(1008,.arr 227 2 b)]⟩) m a b) m
noncomputable def By (n:Nat) (m:Nat):LpE Tryz.prog:=mkL (Tj n).ok [BB n n] 6 (cA [1,1,1,0,1,2,2] (Q6 Tryz.f126)) ⟨77,[(2,.ptr 2 0),(3,.ptr 3 0),(8,.arr 1008),(9,tI)],[(2,.box [.l 1,.l 1,.l 5,.l 6]),(3,.box [.l 2,tI]),(1008,.arr 227 2)]⟩ [yI,yL,yL,yL,yL,yL,yI,yL] (fun m R k h2 e f b g c d a=>Wi n b c d (fun h2 h a=>k (.exit 0) ⟨77,[(2,.ptr 2 0),(3,.ptr 3 0),(8,.arr 1008),(9,dI h2),(26,dB h)],[(2,.box [dL 1 e,dL 1 f,dL 5 b,dL 6 g]),(3,.box [dL 2 c,dI d]),(1008,.arr 227 2 a)]⟩) m h2 a) m
noncomputable def Lk (n:Nat):EnP Tryz.prog 126:=mkE (Tj n).ok [By n n] 126 Tryz.f126 [[2],[0],[0]] [eA [qL 1,qL 1,qL 5,qL 6],eA [qL 2,qI]] [eT 3,sL 2,sI,sI] (pK (Hw n))

noncomputable def Le (n:Nat):VB:=X5 [⟨126,Lk n⟩,⟨122,JI n⟩] [cO 0 [3,4,5] [3,4,5],cO 1 [3,4,5,9] [3,4,5],cO 2 [3,4,5,9,19] [3,4,5],cK 3 [6],cO 4 [3,4,5,23] [3,4,5],cK 5 [6],cO 6 [3,4,5,10] [3,4,5],cO 7 [3,4,5,10,31] [3,4,5],cO 8 [3,4,5,10] [3,4,5],cO 9 [3,4,5,10,48] [3,4,5],cK 10 [6],cK 11 [6]]
noncomputable def Q04 (n:Nat) (m:Nat):LpE Tryz.prog:=mkL (Le n).ok nT 7 (cA [1,1,1,0,1,2,2] (Q6 Tryz.f83)) ⟨49,[(3,.ptr 3 0),(4,.ptr 4 0),(5,.ptr 5 0),(10,tI)],[(3,.box [.l 1,.l 1,.l 5,.l 6]),(4,.box [.l 2,tI]),(5,.box [.t,tI,tI,tI,tI])]⟩ [yI,yL,yL,yL,yL,yL,yI,yT,yI,yI,yI,yI] (fun m R k a f g b h c d i e j l o=>VA n b c d e (k .ret ⟨49,[(6,dI (12:Int))],[]⟩) (fun a p=>k (.exit 0) ⟨49,[(3,.ptr 3 0),(4,.ptr 4 0),(5,.ptr 5 0),(10,dI a),(31,dB p)],[(3,.box [dL 1 f,dL 1 g,dL 5 b,dL 6 h]),(4,.box [dL 2 c,dI d]),(5,.box [dT i,dI e,dI j,dI l,dI o])]⟩) m a) m
noncomputable def Rp (n:Nat):EnP Tryz.prog 83:=mkE (Le n).ok [Q04 n n] 83 Tryz.f83 [[0]] [eA [qL 1,qL 1,qL 5,qL 6],eA [qL 2,qI],eA [qT,qI,qI,qI,qI]] [sI] (pK (HQ n))

noncomputable def BM (n:Nat):VB:=X5 [] [cO 0 [1] [1],cK 1 [2]]
noncomputable def PR (n:Nat):EnP Tryz.prog 124:=mkE (BM n).ok nT 124 Tryz.f124 [[0]] [eA [qL 2,qI]] [sI] (pK (GZ n))

noncomputable def Q0T (n:Nat):VB:=X5 [] [cO 0 [1] [1],cK 1 [2]]
noncomputable def Rv (n:Nat):EnP Tryz.prog 125:=mkE (Q0T n).ok nT 125 Tryz.f125 [[0]] [eA [qL 2,qI]] [sI] (pK (Hu n))

noncomputable def Ju (n:Nat):VB:=X5 [⟨121,RG n⟩,⟨76,Hy n⟩,⟨123,Tb n⟩,⟨83,Rp n⟩,⟨124,PR n⟩,⟨125,Rv n⟩] [cO 0 [2,3,4] [3,4],cO 1 [2,3,4,7] [3,4,7],cO 2 [2,3,4,7,21] [3,4,7],cK 3 [6],cO 4 [2,3,4,7,8] [3,4,7],cO 5 [2,3,4,7,8,24] [3,4,7],cO 6 [2,3,4,7,8] [3,4,7],cO 7 [2,3,4,7,8,35] [3,4,7],cK 8 [6],cO 9 [3,4,7,49] [3,4,7],cK 10 [6],cO 11 [3,4,7,53] [3,4,7],cK 12 [6],cO 13 [3,4,7,9] [3,4,7],cO 14 [3,4,7,9,58] [3,4,7],cO 15 [3,4,7,9] [3,4,7],cO 16 [3,4,7,9,10] [3,4,7,10],cO 17 [3,4,7,9,10,11] [3,4,7,10],cO 18 [3,4,7,9,10,110] [3,4,7,10],cK 19 [6],cO 20 [3,4,7,9,10,12] [3,4,7,10],cO 21 [3,4,7,9,10,12,126] [3,4,7,10],cK 22 [6],cO 23 [3,4,7,9,151] [3,4,7],cK 24 [6],cK 25 [6]]
noncomputable def MN (n:Nat) (m:Nat):LpE Tryz.prog:=mkL (Ju n).ok nT 5 (cA [1,1,1,0,1,2,2] (Q6 Tryz.f79)) ⟨152,[(2,tI),(3,.ptr 3 0),(4,.ptr 4 0),(7,.ptr 7 0),(8,tI)],[(3,.box [.l 1,.l 1,.l 5,.l 6]),(4,.box [tI,.l 5,.l 2,.l 4,.l 7,.l 4,.l 5,.l 3]),(7,.box [.x,.x,.x,.x])]⟩ [yI,yI,yL,yL,yL,yL,yI,yL,yL,yL,yL,yL,yL,yL,yD,yD,yD,yD] (fun m R k b a e f g h i j l c o p q r d s t u=>Zx n b c d (k .ret ⟨152,[(6,dI (5:Int))],[]⟩) (fun a v=>k (.exit 0) ⟨152,[(2,dI b),(3,.ptr 3 0),(4,.ptr 4 0),(7,.ptr 7 0),(8,dI a),(24,dB v)],[(3,.box [dL 1 e,dL 1 f,dL 5 g,dL 6 h]),(4,.box [dI i,dL 5 j,dL 2 l,dL 4 c,dL 7 o,dL 4 p,dL 5 q,dL 3 r]),(7,.box [.d d,.d s,.d t,.d u])]⟩) m a) m
noncomputable def L6 (n:Nat) (m:Nat):LpE Tryz.prog:=mkL (Ju n).ok nT 14 (cA [1,1,1,1,1,1,0,1,2,2] (Q6 Tryz.f79)) ⟨152,[(3,.ptr 3 0),(4,.ptr 4 0),(7,.ptr 7 0),(9,tI)],[(3,.box [.l 1,.l 1,.l 5,.l 6]),(4,.box [tI,.l 5,.l 2,.l 4,.l 7,.l 4,.l 5,.l 3]),(7,.box [.x,.x,.x,.x])]⟩ [yI,yL,yL,yL,yL,yI,yL,yL,yL,yL,yL,yL,yL,yD,yD,yD,yD] (fun m R k a b c d e f g h i j l o p s q t r=>Zo n b c d e f g h i j l o p q r (fun u=>k .ret ⟨152,[(6,dI u)],[]⟩) (fun a v=>k (.exit 2) ⟨152,[(3,.ptr 3 0),(4,.ptr 4 0),(7,.ptr 7 0),(9,dI a),(58,dB v)],[(3,.box [dL 1 b,dL 1 c,dL 5 d,dL 6 e]),(4,.box [dI f,dL 5 g,dL 2 h,dL 4 i,dL 7 j,dL 4 l,dL 5 o,dL 3 p]),(7,.box [.d s,.d q,.d t,.d r])]⟩) m a) m
noncomputable def FI (n:Nat):EnP Tryz.prog 79:=mkE (Ju n).ok [MN n n,L6 n n] 79 Tryz.f79 [[0]] [eA [qL 1,qL 1,qL 5,qL 6],eA [qI,qL 5,qL 2,qL 4,qL 7,qL 4,qL 5,qL 3],sI] [sI] (pK (JS n))

noncomputable def Q1g (n:Nat):VB:=X5 [⟨76,Hy n⟩] [cO 0 [1,2,3] [3],cK 1 [6]]
noncomputable def Dd (n:Nat):EnP Tryz.prog 82:=mkE (Q1g n).ok nT 82 Tryz.f82 [[0]] [eA [qI,qL 5,qL 2,qL 4,qL 7,qL 4,qL 5,qL 3],sI,sI] [sB] (pK (V4 n))

noncomputable def DC (n:Nat):VB:=X5 [] [cO 0 [1,2,3,6] [3,6],cO 1 [6] [6]]
noncomputable def Hd (n:Nat):EnP Tryz.prog 38:=mkE (DC n).ok nT 38 Tryz.f38 [[2,0]] [eA [qI,qL 5,qL 2,qL 4,qL 7,qL 4,qL 5,qL 3],sI,sI] [eA [qX,qX]] (pK (XI n))

noncomputable def R9 (n:Nat):VB:=X5 [⟨82,Dd n⟩,⟨123,Tb n⟩,⟨76,Hy n⟩,⟨38,Hd n⟩,⟨125,Rv n⟩,⟨124,PR n⟩] [cO 0 [3,4,5] [3,4,5],cO 1 [3,4,5,46] [3,4,5],cK 2 [6],cO 3 [3,4,5,7] [3,4,5],cK 4 [7,8],cK 5 [77],cK 6 [6],cK 7 [6]]
noncomputable def NL (n:Nat):EnP Tryz.prog 80:=mkE (R9 n).ok nT 80 Tryz.f80 [[0]] [eA [qL 1,qL 1,qL 5,qL 6],eA [qI,qL 5,qL 2,qL 4,qL 7,qL 4,qL 5,qL 3],eA [qI,qI,qI,qI,qI,qI,qI]] [sI] (pK (Gr n))

noncomputable def Hp (n:Nat):VB:=X5 [⟨76,Hy n⟩,⟨123,Tb n⟩,⟨38,Hd n⟩,⟨125,Rv n⟩,⟨124,PR n⟩] [cO 0 [1,2] [2],cO 1 [1,2,5] [2,5],cO 2 [1,2,5,40] [2,5],cK 3 [4],cO 4 [1,2,5,6] [2,5],cO 5 [1,2,5,6,43] [2,5],cO 6 [1,2,5,6] [2,5],cO 7 [1,2,5,6,65] [2,5],cK 8 [4],cO 9 [2,5,7,8] [2,5,7,8],cK 10 [99],cK 11 [4],cK 12 [4]]
noncomputable def MC (n:Nat) (m:Nat):LpE Tryz.prog:=mkL (Hp n).ok nT 5 (cA [1,1,1,0,1,2,2] (Q6 Tryz.f81)) ⟨100,[(1,tI),(2,.ptr 2 0),(5,.ptr 5 0),(6,tI)],[(2,.box [tI,.l 5,.l 2,.l 4,.l 7,.l 4,.l 5,.l 3]),(5,.box [.x,.x,.x,.x])]⟩ [yI,yI,yI,yL,yL,yL,yL,yL,yL,yL,yD,yD,yD,yD] (fun m R k b a f g h i j c l o d e p q=>Zy n b c d e (k .ret ⟨100,[(4,dI (5:Int))],[]⟩) (fun a r=>k (.exit 0) ⟨100,[(1,dI b),(2,.ptr 2 0),(5,.ptr 5 0),(6,dI a),(43,dB r)],[(2,.box [dI f,dL 5 g,dL 2 h,dL 4 i,dL 7 j,dL 4 c,dL 5 l,dL 3 o]),(5,.box [.d d,.d e,.d p,.d q])]⟩) m a) m
noncomputable def LN (n:Nat):EnP Tryz.prog 81:=mkE (Hp n).ok [MC n n] 81 Tryz.f81 [[0]] [eA [qI,qL 5,qL 2,qL 4,qL 7,qL 4,qL 5,qL 3],sI] [sI] (pK (JT n))

noncomputable def Y0 (n:Nat):VB:=X5 [⟨74,Lr n⟩,⟨75,Q1Z n⟩,⟨76,Hy n⟩,⟨77,Mi n⟩,⟨78,Hm n⟩,⟨79,FI n⟩,⟨80,NL n⟩,⟨81,LN n⟩,⟨82,Dd n⟩] [cO 0 [2,3] [2,3],cO 1 [2,3,21] [2,3],cK 2 [4],cO 3 [2,3,23] [2,3],cK 4 [4],cO 5 [2,3,27] [2,3],cK 6 [4],cO 7 [2,3,5] [2,3],cO 8 [2,3,5,32] [2,3],cO 9 [2,3,5] [2,3],cO 10 [2,3,5,6] [2,3],cO 11 [2,3,5,6,39] [2,3],cK 12 [4],cO 13 [2,3,7] [2,3],cO 14 [2,3,7,45] [2,3],cO 15 [2,3,7] [2,3],cO 16 [2,3,7,8] [2,3],cO 17 [2,3,7,8,56] [2,3],cK 18 [4],cO 19 [2,3,9] [2,3],cO 20 [2,3,9,62] [2,3],cO 21 [2,3,9] [2,3],cO 22 [2,3,9,10] [2,3],cO 23 [2,3,9,10,70] [2,3],cK 24 [4],cO 25 [2,3,11] [2,3],cO 26 [2,3,11,76] [2,3],cO 27 [2,3,11] [2,3],cO 28 [2,3,11,12] [2,3],cO 29 [2,3,11,12,88] [2,3],cK 30 [4],cO 31 [2,3,13] [2,3],cO 32 [2,3,13,94] [2,3],cO 33 [2,3,13] [2,3],cO 34 [2,3,13,14] [2,3],cO 35 [2,3,13,14,101] [2,3],cK 36 [4],cO 37 [2,3,15] [2,3],cO 38 [2,3,15,107] [2,3],cO 39 [2,3,15] [2,3],cO 40 [2,3,15,16] [2,3,16],cO 41 [2,3,15,153] [2,3],cK 42 [4],cO 43 [2,3,17] [2,3],cO 44 [2,3,17,158] [2,3],cO 45 [2,3,17] [2,3],cO 46 [2,3,17,18] [2,3,18],cO 47 [2,3,17,196] [2,3],cK 48 [4],cK 49 [4]]
noncomputable def MY (n:Nat) (m:Nat):LpE Tryz.prog:=mkL (Y0 n).ok nT 8 (cA [1,1,1,1,0,1,2,2] (Q6 Tryz.f35)) ⟨197,[(2,.ptr 2 0),(3,.ptr 3 0),(5,tI)],[(2,.box [.l 1,.l 1,.l 5,.l 6]),(3,.box [tI,.l 5,.l 2,.l 4,.l 7,.l 4,.l 5,.l 3])]⟩ [yI,yL,yL,yL,yL,yI,yL,yL,yL,yL,yL,yL,yL] (fun m R k a j l o p b c d e f g h i=>Zs n b c d e f g h i (fun q=>k .ret ⟨197,[(4,dI q)],[]⟩) (fun a r=>k (.exit 0) ⟨197,[(2,.ptr 2 0),(3,.ptr 3 0),(5,dI a),(32,dB r)],[(2,.box [dL 1 j,dL 1 l,dL 5 o,dL 6 p]),(3,.box [dI b,dL 5 c,dL 2 d,dL 4 e,dL 7 f,dL 4 g,dL 5 h,dL 3 i])]⟩) m a) m
noncomputable def Mg (n:Nat) (m:Nat):LpE Tryz.prog:=mkL (Y0 n).ok nT 14 (cA [1,1,1,1,1,0,1,2,2] (Q6 Tryz.f35)) ⟨197,[(2,.ptr 2 0),(3,.ptr 3 0),(7,tI)],[(2,.box [.l 1,.l 1,.l 5,.l 6]),(3,.box [tI,.l 5,.l 2,.l 4,.l 7,.l 4,.l 5,.l 3])]⟩ [yI,yL,yL,yL,yL,yI,yL,yL,yL,yL,yL,yL,yL] (fun m R k a b c d e g h f i j l o p=>Zn n b c d e f (fun q=>k .ret ⟨197,[(4,dI q)],[]⟩) (fun a r=>k (.exit 2) ⟨197,[(2,.ptr 2 0),(3,.ptr 3 0),(7,dI a),(45,dB r)],[(2,.box [dL 1 b,dL 1 c,dL 5 d,dL 6 e]),(3,.box [dI g,dL 5 h,dL 2 f,dL 4 i,dL 7 j,dL 4 l,dL 5 o,dL 3 p])]⟩) m a) m
noncomputable def Mj (n:Nat) (m:Nat):LpE Tryz.prog:=mkL (Y0 n).ok nT 20 (cA [1,1,1,1,1,1,0,1,2,2] (Q6 Tryz.f35)) ⟨197,[(2,.ptr 2 0),(3,.ptr 3 0),(9,tI)],[(2,.box [.l 1,.l 1,.l 5,.l 6]),(3,.box [tI,.l 5,.l 2,.l 4,.l 7,.l 4,.l 5,.l 3])]⟩ [yI,yL,yL,yL,yL,yI,yL,yL,yL,yL,yL,yL,yL] (fun m R k a b c d e f g h i j l o p=>Zr n b c d e f g h i j l o p (fun q=>k .ret ⟨197,[(4,dI q)],[]⟩) (fun a r=>k (.exit 4) ⟨197,[(2,.ptr 2 0),(3,.ptr 3 0),(9,dI a),(62,dB r)],[(2,.box [dL 1 b,dL 1 c,dL 5 d,dL 6 e]),(3,.box [dI f,dL 5 g,dL 2 h,dL 4 i,dL 7 j,dL 4 l,dL 5 o,dL 3 p])]⟩) m a) m
noncomputable def Lb (n:Nat) (m:Nat):LpE Tryz.prog:=mkL (Y0 n).ok nT 26 (cA [1,1,1,1,1,1,1,0,1,2,2] (Q6 Tryz.f35)) ⟨197,[(2,.ptr 2 0),(3,.ptr 3 0),(11,tI)],[(2,.box [.l 1,.l 1,.l 5,.l 6]),(3,.box [tI,.l 5,.l 2,.l 4,.l 7,.l 4,.l 5,.l 3])]⟩ [yI,yL,yL,yL,yL,yI,yL,yL,yL,yL,yL,yL,yL] (fun m R k a b c d e f g h i j l o p=>YB n b c d e f g h i j l o p (fun q=>k .ret ⟨197,[(4,dI q)],[]⟩) (fun a r=>k (.exit 6) ⟨197,[(2,.ptr 2 0),(3,.ptr 3 0),(11,dI a),(76,dB r)],[(2,.box [dL 1 b,dL 1 c,dL 5 d,dL 6 e]),(3,.box [dI f,dL 5 g,dL 2 h,dL 4 i,dL 7 j,dL 4 l,dL 5 o,dL 3 p])]⟩) m a) m
noncomputable def Mt (n:Nat) (m:Nat):LpE Tryz.prog:=mkL (Y0 n).ok nT 32 (cA [1,1,1,1,1,1,1,1,0,1,2,2] (Q6 Tryz.f35)) ⟨197,[(2,.ptr 2 0),(3,.ptr 3 0),(13,tI)],[(2,.box [.l 1,.l 1,.l 5,.l 6]),(3,.box [tI,.l 5,.l 2,.l 4,.l 7,.l 4,.l 5,.l 3])]⟩ [yI,yL,yL,yL,yL,yI,yL,yL,yL,yL,yL,yL,yL] (fun m R k a j l o p b c d e f g h i=>Yx n b c d e f g h i (fun q=>k .ret ⟨197,[(4,dI q)],[]⟩) (fun a r=>k (.exit 8) ⟨197,[(2,.ptr 2 0),(3,.ptr 3 0),(13,dI a),(94,dB r)],[(2,.box [dL 1 j,dL 1 l,dL 5 o,dL 6 p]),(3,.box [dI b,dL 5 c,dL 2 d,dL 4 e,dL 7 f,dL 4 g,dL 5 h,dL 3 i])]⟩) m a) m
noncomputable def Mw (n:Nat) (m:Nat):LpE Tryz.prog:=mkL (Y0 n).ok nT 38 (cA [1,1,1,1,1,1,1,1,1,0,1,2,2] (Q6 Tryz.f35)) ⟨197,[(2,.ptr 2 0),(3,.ptr 3 0),(15,tI)],[(2,.box [.l 1,.l 1,.l 5,.l 6]),(3,.box [tI,.l 5,.l 2,.l 4,.l 7,.l 4,.l 5,.l 3])]⟩ [yI,yL,yL,yL,yL,yI,yL,yL,yL,yL,yL,yL,yL] (fun m R k a j l o p b c d e f g h i=>Yt n b c d e f g h i (k .ret ⟨197,[(4,dI (4:Int))],[]⟩) (fun a q=>k (.exit 10) ⟨197,[(2,.ptr 2 0),(3,.ptr 3 0),(15,dI a),(107,dB q)],[(2,.box [dL 1 j,dL 1 l,dL 5 o,dL 6 p]),(3,.box [dI b,dL 5 c,dL 2 d,dL 4 e,dL 7 f,dL 4 g,dL 5 h,dL 3 i])]⟩) m a) m
noncomputable def My (n:Nat) (m:Nat):LpE Tryz.prog:=mkL (Y0 n).ok nT 44 (cA [1,1,1,1,1,1,1,1,1,1,0,1,2,2] (Q6 Tryz.f35)) ⟨197,[(2,.ptr 2 0),(3,.ptr 3 0),(17,tI)],[(2,.box [.l 1,.l 1,.l 5,.l 6]),(3,.box [tI,.l 5,.l 2,.l 4,.l 7,.l 4,.l 5,.l 3])]⟩ [yI,yL,yL,yL,yL,yI,yL,yL,yL,yL,yL,yL,yL] (fun m R k a b d e f g h i j l o p c=>Yz n b c (k .ret ⟨197,[(4,dI (4:Int))],[]⟩) (fun a q=>k (.exit 12) ⟨197,[(2,.ptr 2 0),(3,.ptr 3 0),(17,dI a),(158,dB q)],[(2,.box [dL 1 b,dL 1 d,dL 5 e,dL 6 f]),(3,.box [dI g,dL 5 h,dL 2 i,dL 4 j,dL 7 l,dL 4 o,dL 5 p,dL 3 c])]⟩) m a) m
noncomputable def FD (n:Nat):EnP Tryz.prog 35:=mkE (Y0 n).ok [MY n n,Mg n n,Mj n n,Lb n n,Mt n n,Mw n n,My n n] 35 Tryz.f35 [[0]] [eA [qL 1,qL 1,qL 5,qL 6],eA [qI,qL 5,qL 2,qL 4,qL 7,qL 4,qL 5,qL 3]] [sI] (pK (UW n))

noncomputable def Ns (n:Nat):VB:=X5 [] [cO 0 [1,2,4] [2,4],cO 1 [1,2,4,6] [2,4],cO 2 [1,2,4,6,11] [2,4],cO 3 [1,2,4,6] [2,4],cO 4 [1,2,4,6,21] [2,4],cO 5 [4,5] [4],cO 6 [4,5] [4]]
noncomputable def Bd (n:Nat) (m:Nat):LpE Tryz.prog:=mkL (Ns n).ok nT 2 (cA [1,0,1,2,2] (Q6 Tryz.f36)) ⟨28,[(1,tI),(2,.ptr 2 0),(4,.ptr 4 0),(6,tI)],[(2,.box [tI,.l 5,.l 2,.l 4,.l 7,.l 4,.l 5,.l 3]),(4,.box [.ci .i64 0,.ci .i64 0,.ci .i64 0,.ci .i64 0])]⟩ [yI,yI,yI,yL,yL,yL,yL,yL,yL,yL] (fun m R k a h2 c d e f g b h i=>UH n a b (fun j l o p=>k .ret ⟨28,[(4,.ptr 4 0),(5,dB true)],[(4,.box [.d j,.d l,.d o,.d p])]⟩) (fun h2 q=>k (.exit 0) ⟨28,[(1,dI a),(2,.ptr 2 0),(4,.ptr 4 0),(6,dI h2),(11,dB q)],[(2,.box [dI c,dL 5 d,dL 2 e,dL 4 f,dL 7 g,dL 4 b,dL 5 h,dL 3 i]),(4,.box [dI (0:Int),dI (0:Int),dI (0:Int),dI (0:Int)])]⟩) m h2) m
noncomputable def AX (n:Nat):EnP Tryz.prog 36:=mkE (Ns n).ok [Bd n n] 36 Tryz.f36 [[0,0,0,0],[0]] [eA [qI,qL 5,qL 2,qL 4,qL 7,qL 4,qL 5,qL 3],sI] [eT 2,eA [qX,qX,qX,qX],sB] (pK (SD n))

noncomputable def Dz (n:Nat):VB:=X5 [⟨122,JI n⟩,⟨84,M6 n⟩] [cO 0 [0,1,5] [5],cK 1 [0,1,10],cK 2 [6],cK 3 [0,1,13],cK 4 [6],cK 5 [0,1,7],cK 6 [0,1,7,17],cK 7 [0,1,7],cK 8 [0,1,7,35],cK 9 [6],cK 10 [44],cK 11 [6],cK 12 [6]]
noncomputable def Q1q (n:Nat) (m:Nat):LpE Tryz.prog:=mkL (Dz n).ok nT 6 (cA [1,1,1,0,1,2,2] (Q6 Tryz.f176)) ⟨45,[(0,.l 2),(1,tI),(7,tI)],[]⟩ [yL,yI,yI] (fun m R k h2 b a=>Jw n h2 (k .ret ⟨45,[(6,dI (4:Int))],[]⟩) (fun a c=>k (.exit 0) ⟨45,[(0,dL 2 h2),(1,dI b),(7,dI a),(17,dB c)],[]⟩) m a) m
noncomputable def Q3W (n:Nat):EnP Tryz.prog 176:=mkE (Dz n).ok [Q1q n n] 176 Tryz.f176 [[0]] [sL 2,sI,eA [qT,qI,qI,qI,qI]] [sI] (pK (FO n))

noncomputable def M9 (n:Nat):VB:=X5 [] [cO 0 [0,1,5] [5],cO 1 [0,1,5,7] [5],cK 2 [0,1,7,8],cK 3 [0,1,7,8,18],cK 4 [0,1,7,8],cK 5 [0,1,7,8],cK 6 [6]]
noncomputable def B4 (n:Nat) (m:Nat):LpE Tryz.prog:=mkL (M9 n).ok nT 3 (cA [1,1,0,1,2,2] (Q6 Tryz.f177)) ⟨29,[(0,.l 2),(1,tI),(7,tI),(8,tI)],[]⟩ [yL,yI,yI,yI] (fun m R k c h2 a b=>UE n c h2 (fun a b d=>k (.exit 0) ⟨29,[(0,dL 2 c),(1,dI h2),(7,dI a),(8,dI b),(18,dB d)],[]⟩) m a b) m
noncomputable def AJ (n:Nat):EnP Tryz.prog 177:=mkE (M9 n).ok [B4 n n] 177 Tryz.f177 [[0]] [sL 2,sI,eA [qT,qI,qI,qI,qI]] [sI] (pK (Ho n))

noncomputable def B3 (n:Nat):VB:=X5 [] [cO 0 [2,3] [2,3],cO 1 [2,3,7] [2,3],cK 2 [4],cK 3 [4]]
noncomputable def AS (n:Nat):EnP Tryz.prog 178:=mkE (B3 n).ok nT 178 Tryz.f178 [[0]] [eA [qI,qI],eA [qT,qI,qI,qI,qI]] [sI] (pK (SF n))

noncomputable def BT (n:Nat):VB:=X5 [] [cO 0 [2,3] [2,3],cO 1 [2,3,7] [2,3],cK 2 [4],cK 3 [4]]
noncomputable def Q0n (n:Nat):EnP Tryz.prog 179:=mkE (BT n).ok nT 179 Tryz.f179 [[0]] [eA [qI,qI],eA [qT,qI,qI,qI,qI]] [sI] (pK (SB n))

noncomputable def Ln (n:Nat):VB:=X5 [] [cK 0 [0],cK 1 [0,7],cK 2 [2],cK 3 [0,3,4],cK 4 [0,3,4,10],cK 5 [0,3,4,5],cK 6 [0,3,4,5,20],cK 7 [0,3,4],cK 8 [0,3,4],cK 9 [2]]
noncomputable def Q1a (n:Nat) (m:Nat):LpE Tryz.prog:=mkL (Ln n).ok nT 4 (cA [1,1,1,0,2,2] (Q6 Tryz.f180)) ⟨25,[(0,tI),(3,tI),(4,tI)],[]⟩ [yI,yI,yI] (fun m R k b h2 a=>Uw n b (fun h2 a c=>k (.exit 0) ⟨25,[(0,dI b),(3,dI h2),(4,dI a),(10,dB c)],[]⟩) m h2 a) m
noncomputable def Q1n (n:Nat):EnP Tryz.prog 180:=mkE (Ln n).ok [Q1a n n] 180 Tryz.f180 [[0]] [sI] [sI] (pK (S7 n))

noncomputable def UZ (n:Nat):VB:=X5 [⟨176,Q3W n⟩,⟨177,AJ n⟩,⟨178,AS n⟩,⟨179,Q0n n⟩,⟨180,Q1n n⟩] [cO 0 [0,1,5] [5],cO 1 [0,1,5,8] [5],cO 2 [0,1,5,8,21] [5],cK 3 [6,7],cO 4 [0,1,5,9] [5],cO 5 [0,1,5,9,10] [5,29],cO 6 [0,1,5,9,10,11] [5,29],cO 7 [0,1,5,9,10,11,32] [5,29],cO 8 [0,1,5,9,10,11] [5,29],cO 9 [0,1,5,9,10,11,12] [5,29],cO 10 [0,1,5,9,10,11] [5,29],cO 11 [0,1,5,9,10,13] [5,29],cO 12 [0,1,5,9,10,13,57] [5,29],cO 13 [0,1,5,9,10,13] [5,29],cO 14 [0,1,5,9,10,13] [5,29],cO 15 [0,1,5,9,10,14] [5,29],cO 16 [0,1,5,9,10,14,86] [5,29],cO 17 [0,1,5,9,10,14] [5,29],cO 18 [0,1,5,9,10,14] [5,29],cO 19 [9,10,15] [29],cO 20 [9,10,15,116] [29],cO 21 [9,10,15] [29],cO 22 [9,10,15] [29],cO 23 [6,7] [29]]
noncomputable def Cc (n:Nat) (m:Nat):LpE Tryz.prog:=mkL (UZ n).ok nT 7 (cA [1,1,1,1,0,1,2,2] (Q6 Tryz.f156)) ⟨128,[(0,.l 2),(1,tI),(5,.ptr 5 0),(9,tI),(10,.arr 29),(11,tI)],[(5,.box [.t,tI,tI,tI,tI]),(29,.arr 3 1)]⟩ [yL,yI,yI,yI,yT,yI,yI,yI,yI,yL] (fun m R k c d e a f g h i j b=>Wq n c d e f g h i j (fun a l b=>k (.exit 0) ⟨128,[(0,dL 2 c),(1,dI d),(5,.ptr 5 0),(9,dI e),(10,.arr 29),(11,dI a),(32,dB l)],[(5,.box [dT f,dI g,dI h,dI i,dI j]),(29,.arr 3 1 b)]⟩) m a b) m
noncomputable def DL (n:Nat) (m:Nat):LpE Tryz.prog:=mkL (UZ n).ok nT 12 (cA [1,1,1,1,1,0,1,2,2] (Q6 Tryz.f156)) ⟨128,[(0,.l 2),(1,tI),(5,.ptr 5 0),(9,tI),(10,.arr 29),(13,tI)],[(5,.box [.t,tI,tI,tI,tI]),(29,.arr 3 1)]⟩ [yL,yI,yI,yI,yT,yI,yI,yI,yI,yL] (fun m R k c d e a f g h i j b=>Wt n c d e f g h i j (fun a l b=>k (.exit 2) ⟨128,[(0,dL 2 c),(1,dI d),(5,.ptr 5 0),(9,dI e),(10,.arr 29),(13,dI a),(57,dB l)],[(5,.box [dT f,dI g,dI h,dI i,dI j]),(29,.arr 3 1 b)]⟩) m a b) m
noncomputable def C3 (n:Nat) (m:Nat):LpE Tryz.prog:=mkL (UZ n).ok nT 16 (cA [1,1,1,1,1,1,0,1,2,2] (Q6 Tryz.f156)) ⟨128,[(0,.l 2),(1,tI),(5,.ptr 5 0),(9,tI),(10,.arr 29),(14,tI)],[(5,.box [.t,tI,tI,tI,tI]),(29,.arr 3 1)]⟩ [yL,yI,yI,yI,yT,yI,yI,yI,yI,yL] (fun m R k c d j a e f g h i b=>Wu n c d e f g h i (fun a l b=>k (.exit 4) ⟨128,[(0,dL 2 c),(1,dI d),(5,.ptr 5 0),(9,dI j),(10,.arr 29),(14,dI a),(86,dB l)],[(5,.box [dT e,dI f,dI g,dI h,dI i]),(29,.arr 3 1 b)]⟩) m a b) m
noncomputable def DV (n:Nat) (m:Nat):LpE Tryz.prog:=mkL (UZ n).ok nT 20 (cA [1,1,1,1,1,1,1,0,1,2,2] (Q6 Tryz.f156)) ⟨128,[(9,tI),(10,.arr 29),(15,tI)],[(29,.arr 3 1)]⟩ [yI,yI,yL] (fun m R k c a b=>Uj n c (fun a d b=>k (.exit 6) ⟨128,[(9,dI c),(10,.arr 29),(15,dI a),(116,dB d)],[(29,.arr 3 1 b)]⟩) m a b) m
noncomputable def BP (n:Nat):EnP Tryz.prog 156:=mkE (UZ n).ok [Cc n n,DL n n,C3 n n,DV n n] 156 Tryz.f156 [[1],[0]] [sL 2,sI,eA [qT,qI,qI,qI,qI]] [eT 2,sL 1,sI] (pK (Tm n))

noncomputable def Q0E (n:Nat):VB:=X5 [] [cK 0 [0,1],cK 1 [0,1,5],cK 2 [5,12],cK 3 [5],cK 4 [4]]
noncomputable def Rm (n:Nat):EnP Tryz.prog 86:=mkE (Q0E n).ok nT 86 Tryz.f86 [[0]] [sI,sI] [sI] (pK (UY n))

noncomputable def M2 (n:Nat):VB:=X5 [⟨156,BP n⟩,⟨86,Rm n⟩] [cO 0 [0,1,5] [5],cK 1 [8,9],cK 2 [8,9,20],cK 3 [6,7],cO 4 [8,10] [24],cO 5 [8,10,11] [24],cO 6 [8,10,11,28] [24],cO 7 [8,10,11] [24],cO 8 [8,10,11] [24],cO 9 [6,7] [24]]
noncomputable def Bg (n:Nat) (m:Nat):LpE Tryz.prog:=mkL (M2 n).ok nT 6 (cA [1,1,1,1,0,1,2,2] (Q6 Tryz.f127)) ⟨52,[(8,.l 1),(10,.arr 24),(11,tI)],[(24,.arr 3 1)]⟩ [yL,yI,yL] (fun m R k c a b=>UJ n c (fun a d b=>k (.exit 0) ⟨52,[(8,dL 1 c),(10,.arr 24),(11,dI a),(28,dB d)],[(24,.arr 3 1 b)]⟩) m a b) m
noncomputable def Q0B (n:Nat):EnP Tryz.prog 127:=mkE (M2 n).ok [Bg n n] 127 Tryz.f127 [[1],[0]] [sL 2,sI,eA [qT,qI,qI,qI,qI]] [eT 2,sL 1,sI] (pK (Hk n))

noncomputable def PZ (n:Nat):VB:=X5 [⟨83,Rp n⟩,⟨126,Lk n⟩,⟨127,Q0B n⟩,⟨86,Rm n⟩] [cO 0 (rg1 3 5 []) [3,4,5],cO 1 (rg1 3 5 [10]) [3,4,5],cO 2 (rg1 3 5 [10,23]) [3,4,5],cK 3 [6,7,8,9],cO 4 (rg1 3 5 [11,12]) [3,4,5],cO 5 (rg1 3 5 [14]) [3,4,5],cO 6 (rg1 3 5 [14,16]) [3,4,5],(7,⟨(rg1 3 5 [14,16,17]),(zp [3,4,5] [3,4,5]),[(6,1006,3,1),(7,1007,3,1)],[],[]⟩),cO 8 (rg1 3 5 [14,16,17,46]) [3,4,5,1006,1007],cO 9 (rg1 3 5 [14,16,17]) [3,4,5,55,84],cO 10 (rg1 3 5 [14,16,17]) [3,4,5,55,1007],cO 11 (rg1 3 5 [14,16,17,57]) [3,4,5,55,1007],cO 12 (rg1 3 5 [14,16,17]) [3,4,5,55,1007],cO 13 (rg1 3 5 [14,16,17]) [3,4,5,55,84],cO 14 [6,7,8,9] [1006,1007],(3000000008,⟨(rg1 3 5 [14,16,17]),(zp [3,4,5,55,1006,84,1007] [3,4,5,1006,1006,1007,1007]),[],[],[]⟩)]
noncomputable def E4 (n:Nat) (m:Nat):LpE Tryz.prog:=mkL (PZ n).ok nT 8 (cA [1,1,1,1,1,0,1,2,2] (Q6 Tryz.f85)) ⟨94,[(3,.ptr 3 0),(4,.ptr 4 0),(5,.ptr 5 0),(6,.arr 1006),(7,.arr 1007),(14,.l 1),(16,tI),(17,tI)],[(3,.box [.l 1,.l 1,.l 5,.l 6]),(4,.box [.l 2,tI]),(5,.box [.t,tI,tI,tI,tI]),(1006,.arr 3 1),(1007,.arr 3 1)]⟩ [yL,yI,yI,yL,yL,yL,yL,yL,yI,yT,yI,yI,yI,yI,yL,yL] (fun m R k e a b j l f o g h p i q r s c d=>YO n e f g h i (fun a b t c d=>k (.exit 0) ⟨94,[(3,.ptr 3 0),(4,.ptr 4 0),(5,.ptr 5 0),(6,.arr 1006),(7,.arr 1007),(14,dL 1 e),(16,dI a),(17,dI b),(46,dB t)],[(3,.box [dL 1 j,dL 1 l,dL 5 f,dL 6 o]),(4,.box [dL 2 g,dI h]),(5,.box [dT p,dI i,dI q,dI r,dI s]),(1006,.arr 3 1 c),(1007,.arr 3 1 d)]⟩) m a b c d) m
noncomputable def DG (n:Nat):EnP Tryz.prog 85:=mkE (PZ n).ok [E4 n n] 85 Tryz.f85 [[1],[1],[0],[0]] [eA [qL 1,qL 1,qL 5,qL 6],eA [qL 2,qI],eA [qT,qI,qI,qI,qI]] [eT 4,sL 1,sL 1,sI,sI] (pK (KU n))

noncomputable def Ad (n:Nat):VB:=X5 [] [cK 0 [0,1],cK 1 [0,1,5],cK 2 [5,12],cK 3 [5],cK 4 [4]]
noncomputable def Q1c (n:Nat):EnP Tryz.prog 87:=mkE (Ad n).ok nT 87 Tryz.f87 [[0]] [sI,sI] [sI] (pK (Um n))

noncomputable def Rr (n:Nat):VB:=X5 [] [(0,⟨(rg1 0 4 [14]),(zp (rg1 1000000 3 []) [1000000,98000,98001]),[],[],[]⟩),cO 1 [0,1,2,3] [98000,98001,1000000],cO 2 [0,1,2,3] [98000,98001,1000000],cO 3 [] [98000,98001,1000000]]
noncomputable def N3 (n:Nat):EnP Tryz.prog 88:=mkG (Rr n).ok nT 88 Tryz.f88 [eP 1000000 2,eR 1000001 4 1,eR 1000002 142 3,sI,sI,sI] [eT 0,eI 1000000 2,eR 98000 4 1,eR 98001 142 3,eG 1000001,eG 1000002] [98000,98001] (pK (Yj n))

noncomputable def PG (n:Nat):VB:=X5 [⟨83,Rp n⟩,⟨84,M6 n⟩,⟨85,DG n⟩,⟨86,Rm n⟩,⟨87,Q1c n⟩,⟨88,N3 n⟩,⟨89,Nv n⟩] [cO 0 (rg1 3 5 []) [5,6,7],cO 1 (rg1 3 5 [13]) [5,6,7],cO 2 (rg1 3 5 [13,34]) [5,6,7],cK 3 [10,11,12],cO 4 (rg1 3 5 [43]) [5,6,7],cK 5 [10,11,12],cO 6 (rg1 3 4 [14,15,16]) [5,6],cO 7 (rg1 3 4 [14,15,16,18]) [5,6],cO 8 (rg1 3 4 [14,15,16,18,19]) [5,6,61,63,65],cO 9 (rg1 3 4 [14,15,16,18,19,20]) [5,6,61,63,65],cO 10 [3,4,5,6,14,15,16,18,19,20,21] [5,6,61,63,65],cO 11 (rg1 3 4 (14::15::16::rg1 18 5 [])) [5,6,61,63,65],cO 12 (rg1 3 4 (14::15::16::rg1 18 5 [73])) [5,6,61,63,65],cO 13 (rg1 3 4 (14::15::16::rg1 18 5 [])) [5,6,65,50169,100169,50134,100134],cO 14 (rg1 3 4 (14::15::16::rg1 18 5 [])) [5,6,61,63,65],cO 15 (rg1 3 4 (14::15::16::rg1 18 7 [])) [5,6,61,63,65],cO 16 (rg1 3 4 (14::15::16::rg1 18 5 [84])) [5,6,61,63,65],cO 17 (rg1 3 4 (14::15::16::rg1 18 7 [])) [5,6,61,63,65],cO 18 (rg1 3 4 (14::15::16::rg1 18 5 [94])) [5,6,61,63,65],cO 19 (rg1 3 4 (14::15::16::rg1 18 7 [])) [5,6,61,63,65],cO 20 (rg1 3 4 (14::15::16::rg1 18 5 [111])) [5,6,61,63,65],cO 21 (rg1 3 4 (14::15::16::rg1 18 7 [])) [5,6,61,63,65],cO 22 (rg1 3 4 (14::15::16::rg1 18 7 [])) [5,6,65,50134,100134],cO 23 (rg1 3 4 (14::15::16::rg1 18 7 [136])) [5,6,65,50134,100134],cO 24 (rg1 3 4 (14::15::16::rg1 18 8 [])) [5,6,25,65,50134,100134],cO 25 (rg1 3 4 (14::15::16::rg1 18 8 [155])) [5,6,25,65,50134,100134],cO 26 (rg1 3 4 (14::15::16::rg1 18 8 [158])) [5,6,25,65,50134,100134],cO 27 (rg1 3 4 (14::15::16::rg1 18 8 [])) [5,6,25,65,50134,100134],cO 28 (rg1 3 4 [14,15,16,18,19,20,22,24]) [5,6,65,50169,100169],cO 29 (rg1 3 4 (14::15::16::rg1 18 5 [])) [5,6,65,50169,100169,50134,100134],cO 30 [16,18,19,27] [61,63,65],(31,⟨[16,18,19,27,28],(zp [61,63,65] [61,63,65]),[(27,1027,142,3)],[],[]⟩),cO 32 [16,18,19,27,28,173] [61,63,65,1027],cO 33 [16,18,19,27,28] [61,63,65,192,1027],cO 34 [16,18,19,27,28,182] [61,63,65,1027],cO 35 [16,18,19,27,28] [61,63,65,192],cO 36 [10,11,12] [1027],(3000000012,⟨(rg1 3 4 (14::15::16::rg1 18 5 [])),(zp [5,6,61,50134,50169,63,100134,100169,65] [5,6,61,61,61,63,63,63,65]),[],[],[]⟩),(3000000032,⟨[16,18,19,27,28],(zp [61,63,65,192,1027] [61,63,65,1027,1027]),[],[],[]⟩)]
noncomputable def Q0b (n:Nat) (m:Nat):LpE Tryz.prog:=mkL (PG n).ok nT 12 (cA [1,1,1,1,1,1,1,1,0,1,2,2] (Q6 Tryz.f37)) ⟨195,[(3,tI),(4,tI),(5,.ptr 5 0),(6,.ptr 6 0),(14,.l 1),(15,.l 1),(16,tI),(18,tI),(19,.ptr 65 0),(20,tI),(21,tI),(22,tI)],[(5,.box [.l 1,.l 1,.l 5,.l 6]),(6,.box [.l 2,tI]),(61,.arr 4 1),(63,.arr 142 3),(65,.box [.arr 61,.arr 63])]⟩ [yI,yI,yL,yL,yI,yI,yI,yI,yI,yL,yL,yL,yL,yL,yI,yL,yL] (fun m R k e f g h i s j a b l o p q r t c d=>Zg n e f g h i j l o p q r (fun a b u c d=>k (.exit 0) ⟨195,[(3,dI e),(4,dI f),(5,.ptr 5 0),(6,.ptr 6 0),(14,dL 1 g),(15,dL 1 h),(16,dI i),(18,dI s),(19,.ptr 65 0),(20,dI j),(21,dI a),(22,dI b),(73,dB u)],[(5,.box [dL 1 l,dL 1 o,dL 5 p,dL 6 q]),(6,.box [dL 2 r,dI t]),(61,.arr 4 1 c),(63,.arr 142 3 d),(65,.box [.arr 61,.arr 63])]⟩) m a b c d) m
noncomputable def Q0t (n:Nat) (m:Nat):LpE Tryz.prog:=mkL (PG n).ok nT 32 (cA [1,1,1,1,1,1,1,1,1,1,0,1,2,2] (Q6 Tryz.f37)) ⟨195,[(16,tI),(18,tI),(19,.ptr 65 0),(27,.arr 1027),(28,tI)],[(61,.arr 4 1),(63,.arr 142 3),(65,.box [.arr 61,.arr 63]),(1027,.arr 142 3)]⟩ [yI,yI,yI,yL,yL,yL] (fun m R k f c a d e b=>WT n c d e (fun a g b=>k (.exit 3) ⟨195,[(16,dI f),(18,dI c),(19,.ptr 65 0),(27,.arr 1027),(28,dI a),(173,dB g)],[(61,.arr 4 1 d),(63,.arr 142 3 e),(65,.box [.arr 61,.arr 63]),(1027,.arr 142 3 b)]⟩) m a b) m
noncomputable def Q2l (n:Nat):EnP Tryz.prog 37:=mkE (PG n).ok [Q0b n n,Q0t n n] 37 Tryz.f37 [[3],[0],[0]] [eA [qL 1,qL 1,qL 5,qL 6],eA [qL 2,qI],eA [qT,qI,qI,qI,qI],sI,sI] [eT 3,sL 3,sI,sI] (pK (Gg n))

noncomputable def Hh (n:Nat):VB:=X5 [⟨35,FD n⟩,⟨36,AX n⟩,⟨38,Hd n⟩,⟨37,Q2l n⟩] [cO 0 [2,3] [2,3],cO 1 [2,3,22] [2,3],cK 2 [4,5,6],cO 3 [2,3,7] [2,3],cO 4 [2,3,7,8] [2,3],(5,⟨[2,3,7,8,9],[(2,2),(3,3)],[(7,1007,62,1),(8,1008,3,1)],[],[]⟩),cO 6 [2,3,7,8,9,27] [2,3,1007,1008],cO 7 [2,3,7,8,9] [2,3,1007,1008],cO 8 [2,3,7,8,9,10] [2,3,10,1007,1008],cO 9 (2::3::rg1 7 5 []) [2,3,10,1007,1008],cO 10 (2::3::rg1 7 5 [39]) [2,3,10,1007,1008],cO 11 (2::3::rg1 7 5 []) [2,3,10,108,112],cO 12 (2::3::rg1 7 7 []) [2,3,10,1007,1008],cO 13 (2::3::rg1 7 7 [50]) [2,3,10,1007,1008],cO 14 (2::3::rg1 7 7 []) [2,3,10,1007,1008],cO 15 (2::3::rg1 7 9 []) [2,3,10,14,1007,1008],cO 16 (2::3::rg1 7 9 [62]) [2,3,10,14,1007,1008],cO 17 (2::3::rg1 7 7 []) [2,3,10,1007,1008],cO 18 (2::3::rg1 7 8 [76]) [2,3,10,14,1007,1008],cO 19 (2::3::rg1 7 7 []) [2,3,10,1007,1008],cO 20 (2::3::rg1 7 5 [16,17]) [2,3,10,1007,1008],cO 21 (2::3::rg1 7 5 []) [2,3,10,108,112],cO 22 [4,5,6] [1007,1008],cO 3000000006 [2,3,7,8,9] [2,3,1007,1008],(3000000010,⟨(2::3::rg1 7 5 []),(zp [2,3,10,108,1007,112,1008] [2,3,10,1007,1007,1008,1008]),[],[],[]⟩)]
noncomputable def C0 (n:Nat) (m:Nat):LpE Tryz.prog:=mkL (Hh n).ok nT 10 (cA [1,1,1,1,0,1,2,2,1,0,2,1,1,2,2] (Q6 Tryz.f9)) ⟨115,[(2,.ptr 2 0),(3,.ptr 3 0),(7,.arr 1007),(8,.arr 1008),(9,tI),(10,.ptr 10 0),(11,tI)],[(2,.box [.l 1,.l 1,.l 5,.l 6]),(3,.box [tI,.l 5,.l 2,.l 4,.l 7,.l 4,.l 5,.l 3]),(10,.box [.x,.x,.x,.x]),(1007,.arr 62 1),(1008,.arr 3 1)]⟩ [yI,yI,yL,yL,yL,yL,yI,yL,yL,yL,yL,yL,yL,yL,yD,yD,yD,yD,yL,yL] (fun m R k d a e f g h i j l o p q r s v t x u b c=>Y6 n d e f g h i j l o p q r s t u (fun a y b c=>k (.exit 2) ⟨115,[(2,.ptr 2 0),(3,.ptr 3 0),(7,.arr 1007),(8,.arr 1008),(9,dI d),(10,.ptr 10 0),(11,dI a),(39,dB y)],[(2,.box [dL 1 e,dL 1 f,dL 5 g,dL 6 h]),(3,.box [dI i,dL 5 j,dL 2 l,dL 4 o,dL 7 p,dL 4 q,dL 5 r,dL 3 s]),(10,.box [.d v,.d t,.d x,.d u]),(1007,.arr 62 1 b),(1008,.arr 3 1 c)]⟩) m a b c) m
noncomputable def DX (n:Nat) (m:Nat):LpE Tryz.prog:=mkL (Hh n).ok [C0 n n] 6 (cA [1,1,1,1,0,1,2,2] (Q6 Tryz.f9)) ⟨115,[(2,.ptr 2 0),(3,.ptr 3 0),(7,.arr 1007),(8,.arr 1008),(9,tI)],[(2,.box [.l 1,.l 1,.l 5,.l 6]),(3,.box [tI,.l 5,.l 2,.l 4,.l 7,.l 4,.l 5,.l 3]),(1007,.arr 62 1),(1008,.arr 3 1)]⟩ [yI,yL,yL,yL,yL,yI,yL,yL,yL,yL,yL,yL,yL,yL,yL] (fun m R k h2 c d e f g h i j l o p q a b=>Ws n c d e f g h i j l o p q (fun h2 r a b=>k (.exit 0) ⟨115,[(2,.ptr 2 0),(3,.ptr 3 0),(7,.arr 1007),(8,.arr 1008),(9,dI h2),(27,dB r)],[(2,.box [dL 1 c,dL 1 d,dL 5 e,dL 6 f]),(3,.box [dI g,dL 5 h,dL 2 i,dL 4 j,dL 7 l,dL 4 o,dL 5 p,dL 3 q]),(1007,.arr 62 1 a),(1008,.arr 3 1 b)]⟩) m h2 a b) m
noncomputable def A3 (n:Nat):EnP Tryz.prog 9:=mkE (Hh n).ok [DX n n] 9 Tryz.f9 [[1],[1],[0]] [eA [qL 1,qL 1,qL 5,qL 6],eA [qI,qL 5,qL 2,qL 4,qL 7,qL 4,qL 5,qL 3]] [eT 3,sL 1,sL 1,sI] (pK (JF n))

noncomputable def Q1o (n:Nat):VB:=X5 [] [cK 0 [0,1,2],cK 1 [6]]
noncomputable def Q3S (n:Nat):EnP Tryz.prog 39:=mkE (Q1o n).ok nT 39 Tryz.f39 [[0]] [sI,sI,sI] [sB] (pK (Tq n))

noncomputable def R0 (n:Nat):VB:=X5 [⟨39,Q3S n⟩] [cO 0 [1] [1],cO 1 [1,20] [1],cK 2 [2],cO 3 [1,3] [1],cO 4 [1,3,25] [1],cO 5 [1,3] [1],cO 6 [1,3,4] [1,4],cO 7 [1,3,90] [1],cK 8 [2],cK 9 [2]]
noncomputable def C5 (n:Nat) (m:Nat):LpE Tryz.prog:=mkL (R0 n).ok nT 4 (cA [1,1,0,1,2,2] (Q6 Tryz.f10)) ⟨91,[(1,.ptr 1 0),(3,tI)],[(1,.box [tI,.l 3,.l 6])]⟩ [yI,yI,yL,yL] (fun m R k h2 a b c=>Ul n a b c (k .ret ⟨91,[(2,dB false)],[]⟩) (fun h2 d=>k (.exit 0) ⟨91,[(1,.ptr 1 0),(3,dI h2),(25,dB d)],[(1,.box [dI a,dL 3 b,dL 6 c])]⟩) m h2) m
noncomputable def Bn (n:Nat):EnP Tryz.prog 10:=mkE (R0 n).ok [C5 n n] 10 Tryz.f10 [[0]] [eA [qI,qL 3,qL 6]] [sB] (pK (K6 n))

noncomputable def Sc (n:Nat):VB:=X5 [] [cO 0 [1,2,3] [3],cO 1 [1,2,3,11,12] [3],cO 2 [1,2,3,11,12,13] [3],cO 3 [1,2,3,7,11,12] [3],cO 4 [1,2,3,8,11,12] [3,8],cO 5 [1,2,3,11,12,42] [3],cK 6 [6],cO 7 [1,2,3,11,12] [3],cK 8 [6]]
noncomputable def D4 (n:Nat) (m:Nat):LpE Tryz.prog:=mkL (Sc n).ok nT 2 (cA [1,0,1,2,2] (Q6 Tryz.f13)) ⟨44,[(1,tI),(2,tI),(3,.ptr 3 0),(11,tI),(12,tI)],[(3,.box [tI,.l 3,.l 6])]⟩ [yI,yI,yI,yI,yI,yL,yL] (fun m R k b h2 c a e f d=>WI n b h2 c d (k .ret ⟨44,[(6,dB true)],[]⟩) (fun a g=>k (.exit 0) ⟨44,[(1,dI b),(2,dI h2),(3,.ptr 3 0),(11,dI c),(12,dI a),(13,dB g)],[(3,.box [dI e,dL 3 f,dL 6 d])]⟩) m a) m
noncomputable def DI (n:Nat):EnP Tryz.prog 13:=mkE (Sc n).ok [D4 n n] 13 Tryz.f13 [[0]] [eA [qI,qL 3,qL 6],sI,sI] [sB] (pK (Uz n))

noncomputable def Hz (n:Nat):VB:=X5 [] [cK 0 [0],cK 1 [0,3],cK 2 [0,3,7],cK 3 [0,3],cK 4 [0,3,62],cK 5 [2],cK 6 [2]]
noncomputable def MF (n:Nat) (m:Nat):LpE Tryz.prog:=mkL (Hz n).ok nT 2 (cA [1,0,1,2,2] (Q6 Tryz.f90)) ⟨63,[(0,.l 3),(3,tI)],[]⟩ [yL,yI] (fun m R k a h2=>Yq n a (k .ret ⟨63,[(2,dB false)],[]⟩) (fun h2 b=>k (.exit 0) ⟨63,[(0,dL 3 a),(3,dI h2),(7,dB b)],[]⟩) m h2) m
noncomputable def Fh (n:Nat):EnP Tryz.prog 90:=mkE (Hz n).ok [MF n n] 90 Tryz.f90 [[0]] [sL 3] [sB] (pK (V8 n))

noncomputable def LB (n:Nat):VB:=X5 [] [cO 0 [0,1,4] [4],cO 1 [0,1,4,6] [4],cO 2 [0,1,4,6,10] [4],cO 3 [0,1,4,6] [4],cO 4 [0,1,4,6,19] [4],cO 5 [4,5] [4],cO 6 [4,5] [4]]
noncomputable def Q0v (n:Nat) (m:Nat):LpE Tryz.prog:=mkL (LB n).ok nT 2 (cA [1,0,1,2,2] (Q6 Tryz.f91)) ⟨25,[(0,.l 3),(1,tI),(4,.ptr 4 0),(6,tI)],[(4,.box [.ci .i64 0,.ci .i64 0,.ci .i64 0])]⟩ [yL,yI,yI] (fun m R k b h2 a=>Wj n b h2 (fun c d e=>k .ret ⟨25,[(4,.ptr 4 0),(5,dB true)],[(4,.box [.d c,.d d,.d e])]⟩) (fun a f=>k (.exit 0) ⟨25,[(0,dL 3 b),(1,dI h2),(4,.ptr 4 0),(6,dI a),(10,dB f)],[(4,.box [dI (0:Int),dI (0:Int),dI (0:Int)])]⟩) m a) m
noncomputable def Q2p (n:Nat):EnP Tryz.prog 91:=mkE (LB n).ok [Q0v n n] 91 Tryz.f91 [[0,0,0],[0]] [sL 3,sI] [eT 2,eA [qX,qX,qX],sB] (pK (EY n))

noncomputable def Q1U (n:Nat):VB:=X5 [] [cK 0 [0,1],cK 1 [0,1,7],cK 2 [4],cK 3 [1,5],cK 4 [1,5,12],cK 5 [5],cK 6 [4]]
noncomputable def CR (n:Nat):EnP Tryz.prog 42:=mkE (Q1U n).ok nT 42 Tryz.f42 [[0]] [sI,sI] [sI] (pK (E2 n))

noncomputable def JA (n:Nat):VB:=X5 [⟨76,Hy n⟩,⟨90,Fh n⟩,⟨91,Q2p n⟩,⟨42,CR n⟩] [cK 0 [0,1,2],cK 1 [0,1,2,16],cK 2 [6,7],cK 3 [0,1,2,24],cK 4 [6,7],cO 5 [0,1,2,8] [26],cO 6 [0,1,2,8,9] [26],cO 7 [0,1,2,8,9,30] [26],cO 8 [0,1,2,8,9] [26],cO 9 [0,1,2,8,9,10,11] [10,26],cO 10 [0,1,2,8,9,10,44] [10,26],cO 11 [0,1,2,8,9,10,12] [10,26],cO 12 [0,1,2,8,9,10,12,13] [10,26],cO 13 [0,1,2,8,9,10,12,13,70] [10,26],cO 14 [0,1,2,8,9,10,12,13] [10,26],cO 15 [0,1,2,8,9,10,12,13] [10,26],cO 16 [6,7] [26]]
noncomputable def MS (n:Nat) (m:Nat):LpE Tryz.prog:=mkL (JA n).ok nT 13 (cA [1,1,1,1,0,1,2,2,1,0,2,1,1,1,1,2,2] (Q6 Tryz.f40)) ⟨89,[(0,tI),(1,.l 3),(2,.l 3),(8,.arr 26),(9,tI),(10,.ptr 10 0),(12,tI),(13,tI)],[(10,.box [.x,.x,.x]),(26,.arr 4 1)]⟩ [yI,yL,yL,yI,yI,yI,yD,yD,yD,yL] (fun m R k c d h e f a i j g b=>YA n c d e f g (fun a l b=>k (.exit 2) ⟨89,[(0,dI c),(1,dL 3 d),(2,dL 3 h),(8,.arr 26),(9,dI e),(10,.ptr 10 0),(12,dI f),(13,dI a),(70,dB l)],[(10,.box [.d i,.d j,.d g]),(26,.arr 4 1 b)]⟩) m a b) m
noncomputable def Ms (n:Nat) (m:Nat):LpE Tryz.prog:=mkL (JA n).ok [MS n n] 7 (cA [1,1,1,1,0,1,2,2] (Q6 Tryz.f40)) ⟨89,[(0,tI),(1,.l 3),(2,.l 3),(8,.arr 26),(9,tI)],[(26,.arr 4 1)]⟩ [yI,yL,yL,yI,yL] (fun m R k c d e a b=>Xx n c d e (fun a f b=>k (.exit 0) ⟨89,[(0,dI c),(1,dL 3 d),(2,dL 3 e),(8,.arr 26),(9,dI a),(30,dB f)],[(26,.arr 4 1 b)]⟩) m a b) m
noncomputable def Ff (n:Nat):EnP Tryz.prog 40:=mkE (JA n).ok [Ms n n] 40 Tryz.f40 [[1],[0]] [sI,sL 3,sL 3] [eT 2,sL 1,sI] (pK (H6 n))

noncomputable def Hr (n:Nat):VB:=X5 [⟨40,Ff n⟩] [cK 0 [0,1,2],cK 1 [0,8,9],cK 2 [0,8,9,21],cK 3 [6,7],cK 4 [0,8,10],(5,⟨[0,8,10,11],[],[(10,1010,119,2)],[],[]⟩),cO 6 [0,8,10,11,25] [1010],cO 7 [0,8,10,11] [1010,60],cO 8 [0,8,10,11,32] [1010],cO 9 [0,8,10,11,12] [1010],cO 10 [0,8,10,11,12,46] [1010],cO 11 [0,8,10,11] [1010],cO 12 [0,8,10,11] [60],cO 13 [6,7] [1010],(3000000006,⟨[0,8,10,11],[(60,1010),(1010,1010)],[],[],[]⟩)]
noncomputable def MM (n:Nat) (m:Nat):LpE Tryz.prog:=mkL (Hr n).ok nT 6 (cA [1,1,1,1,0,1,2,2] (Q6 Tryz.f14)) ⟨62,[(0,tI),(8,.l 1),(10,.arr 1010),(11,tI)],[(1010,.arr 119 2)]⟩ [yI,yL,yI,yL] (fun m R k h2 c a b=>Xz n h2 c (fun a d b=>k (.exit 0) ⟨62,[(0,dI h2),(8,dL 1 c),(10,.arr 1010),(11,dI a),(25,dB d)],[(1010,.arr 119 2 b)]⟩) m a b) m
noncomputable def F6 (n:Nat):EnP Tryz.prog 14:=mkE (Hr n).ok [MM n n] 14 Tryz.f14 [[2],[0]] [sI,sL 3,sL 3] [eT 2,sL 2,sI] (pK (V1 n))

noncomputable def KQ (n:Nat):VB:=X5 [] [cK 0 [0,1],cK 1 [0,1,12],cK 2 [4],cK 3 [0,1,5],cK 4 [0,1,5,6],cK 5 [0,1,5,6,16],cK 6 [0,1,5,6],cK 7 [0,1,6,55],cK 8 [4],cK 9 [0,1,5,6],cK 10 [4]]
noncomputable def M1 (n:Nat) (m:Nat):LpE Tryz.prog:=mkL (KQ n).ok nT 5 (cA [1,1,1,0,1,2,2] (Q6 Tryz.f41)) ⟨61,[(0,tI),(1,.l 2),(5,tI),(6,tI)],[]⟩ [yI,yL,yI,yI] (fun m R k c h2 a b=>Yb n c h2 (k .ret ⟨61,[(4,dB false)],[]⟩) (fun a b d=>k (.exit 0) ⟨61,[(0,dI c),(1,dL 2 h2),(5,dI a),(6,dI b),(16,dB d)],[]⟩) m a b) m
noncomputable def Mr (n:Nat):EnP Tryz.prog 41:=mkE (KQ n).ok [M1 n n] 41 Tryz.f41 [[0]] [sI,sL 2] [sB] (pK (K4 n))

noncomputable def Et (n:Nat):VB:=X5 [⟨41,Mr n⟩,⟨42,CR n⟩] [cK 0 [0,1,2],cK 1 [0,1,2,12],cK 2 [6],cK 3 [1,7],cK 4 [1,7,8],cK 5 [1,7,8,19],cK 6 [1,7,8],cK 7 [1,7,8,37],cK 8 [6],cK 9 [6]]
noncomputable def Q27 (n:Nat) (m:Nat):LpE Tryz.prog:=mkL (Et n).ok nT 5 (cA [1,1,1,0,1,2,2] (Q6 Tryz.f15)) ⟨38,[(1,.l 2),(7,tI),(8,tI)],[]⟩ [yL,yI,yI] (fun m R k b c a=>JB n b c (k .ret ⟨38,[(6,dB true)],[]⟩) (fun a d=>k (.exit 0) ⟨38,[(1,dL 2 b),(7,dI c),(8,dI a),(19,dB d)],[]⟩) m a) m
noncomputable def Q3V (n:Nat):EnP Tryz.prog 15:=mkE (Et n).ok [Q27 n n] 15 Tryz.f15 [[0]] [sI,sL 2,sI] [sB] (pK (NC n))

noncomputable def Rb (n:Nat):VB:=X5 [⟨32,PW n⟩,⟨43,SV n⟩] [cO 0 [1,2] [2],cO 1 [1,2,6] [2],cK 2 [4]]
noncomputable def NT (n:Nat):EnP Tryz.prog 16:=mkE (Rb n).ok nT 16 Tryz.f16 [[0]] [eA [qI,qL 3,qL 6],sL 1] [sB] (pK (Uh n))

noncomputable def law11_NetworkHeadwaysSeparate_VB (n:Nat):VB:=X5 [⟨6,Q1l n⟩,⟨7,E8 n⟩,⟨8,B9 n⟩,⟨11,AA n⟩,⟨9,A3 n⟩,⟨10,Bn n⟩,⟨12,Di n⟩,⟨13,DI n⟩,⟨14,F6 n⟩,⟨15,Q3V n⟩,⟨16,NT n⟩] [cK 0 [0,1,2,3],cO 1 [1,2,3,9,10] [9,10],cO 2 [1,2,3,9,10,11,12] [9,10,11],cO 3 [1,2,3,9,10,11,31] [9,10,11],cK 4 [8],cO 5 [2,3,9,10,11,13] [9,10,11],cO 6 [2,3,10,11,13,14] [10,11],cO 7 [2,3,10,11,13,14,53] [10,11],cK 8 [8],cO 9 [2,3,10,11,13,14] [10,11],cO 10 [2,3,10,11,13,14,76] [10,11],cK 11 [8],cO 12 [2,3,10,11,13,17] [10,11],cO 13 [11,13,107] [11],cK 14 [8],cK 15 [8]]

end Go.Vx
