/- Part of a proof. No conditions of their own. -/
import Derived.Orders
import Derived.Below
import Derived.Laws.StructEq
import Derived.Laws.Strings3
import Derived.Laws.Concat
import Derived.Laws.BytesString
import Derived.Laws.Shifts
import Derived.Laws.Slices
import Derived.Laws.Cells
import Derived.Laws.Rows
import Derived.Tactics2
import Derived.WideLaws
import Derived.Laws.AppendOwn
import Derived.Maps.AppendAt
import Derived.ArgAppend
import Derived.Lib.ConvBytes
import Derived.Carry
set_option linter.unusedVariables false
set_option linter.unusedSimpArgs false
noncomputable section
abbrev Qp5:=@Go.Result.andThen_ok
abbrev Qp6:=@List.getElem?_eq_some_iff
abbrev Qp7:=@Bool.and_eq_true
abbrev Qp8:=@Nat.eq_of_beq_eq_true
abbrev Qp9:=@Go.Sem.run_bind
abbrev Qpa:=@cond_true
abbrev Qpb:=@Option.map_eq_some_iff
abbrev Qpc:=@Nat.mul_le_mul_right
abbrev Qpd:=@Go.ByteArray.toList_eq
abbrev Qpe:=@List.mem_of_getElem?
abbrev Qpf:=@List.eq_nil_of_length_eq_zero
abbrev Qpg:=@List.getElem?_map
abbrev Qph:=@Nat.le_of_ble_eq_true
abbrev Qpi:=@if_neg
abbrev Qpj:=@Array.length_toList
abbrev Qpk:=@Array.getElem?_eq_some_iff
abbrev Qpl:=@List.getElem?_eq_getElem
abbrev Qpm:=@if_pos
abbrev Qpn:=@Go.MapKept.run_getObj_map
abbrev Qpo:=@List.mem_cons
abbrev Qpp:=@List.all_eq_true
abbrev Qpq:=@List.getElem?_set_self
abbrev Qpr:=@List.getElem?_set_ne
abbrev Qps:=@Go.Sem.run_pure
abbrev Qpt:=@Nat.le_refl
abbrev Qpu:=@Nat.mul_le_mul_left
abbrev Qpv:=@List.length_cons
abbrev Qpw:=@Nat.lt_of_lt_of_le
abbrev Qpx:=@List.mem_append
abbrev Qpy:=@Nat.succ_mul
abbrev Qpz:=@List.map_cons
abbrev QpA:=@Nat.add_assoc
abbrev oP:=Option
theorem QoW {p:Prop} (h:p:=by omega):p:=h
theorem QoX {p:Prop} (h:p:=by decide):p:=h
theorem QoY {p:Prop} (h:p:=by simp):p:=h
theorem QoZ {p:Prop} (h:p:=by simp;omega):p:=h
theorem Qp2 {p:Prop} (h:p:=by simp_all):p:=h
theorem Qp3 (p:Prop) [Decidable p] (h:¬p:=by omega):decide p=false:=decide_eq_false h
theorem Qp4 (p:Prop) [Decidable p] (h:p:=by omega):decide p=true:=decide_eq_true h
namespace Go.Vx
inductive D where
 |int (k:IntKind) (n:Int)
 |bool (b:Bool)
 |str (s:List UInt8)
 |sl (size:Nat) (rows:List (List D))
inductive AV where
 |top
 |d (x:D)
 |nil
 |ag (l:List AV)
 |tup (l:List AV)
 |ptr (l off:Nat)
 |el (row:List D) (off:Nat)
 |arr (l:Nat)
 |ap (l i off:Nat)
 |gd (t:Nat) (w:Bool) (av:AV)
 |fn (f:Nat) (cap:List AV)
 |fs (s:Nat) (rows:List (List D))
 |sa (l t:Nat)
 |mpd (f:Int->List (List D))
 |ex (v:Value)
inductive Ob where
 |box (cells:List AV)
 |arr (elem size:Nat) (rows:List (List D))
 |mp (t:Nat) (f:Int->Bool)
structure St where
 n:Nat
 tm:List (Nat×AV)
 h:List (Nat×Ob)
def look {α:Type}:List (Nat×α)->Nat->oP α
 |[],_=>none
 |(k,a)::r,t=>bif Nat.beq k t then some a else look r t
def rem {α:Type} (l:Nat):List (Nat×α)->List (Nat×α)
 |[]=>[]
 |(k,a)::r=>bif Nat.beq k l then rem l r else (k,a)::rem l r
def Md (h:List (Nat×Ob)):List (Nat×oP Ob)->List (Nat×Ob)
 |[]=>h
 |(l,some o)::r=>Md ((l,o)::rem l h) r
 |(l,none)::r=>Md (rem l h) r
def Pu:Value->AV
 |.int k n=>.d (.int k n)
 |.bool b=>.d (.bool b)
 |.string s=>.d (.str s.data.toList)
 |.slice none 0 0=>.nil
 |_=>.top
inductive Kd where
 |int (k:IntKind)
 |bool
 |str
 |sl (e esz:Nat)
 |struct
 |array (e esz n:Nat)
 |ptr
 |mapI
 |mpb
 |other
structure TyI where
 kd:Kd
 size:Nat
 bytes:Nat
 zero:List Value
 zd:List D
 fields:List (Nat×Nat)
 eqk:oP (List Kd)
abbrev TT:=List (Nat×TyI)
structure Dl where
 v:AV
 wr:List (Nat×oP Ob)
 rd:List Nat
def lkT (tm:List (Nat×AV)) (t:Nat):AV:=(look tm t).getD .top
def evO (tm:List (Nat×AV)):Operand->AV
 |.tmp t=>lkT tm t
 |.const v=>Pu v
 |.global _=>.top
 |.func f=>.fn f []
def bw (e w:Bool):Bool:=bif w then e else !e
def ctx (tm:List (Nat×AV)):Nat->Nat->Bool->oP (Bool×List (Nat×Bool))
 |0,_,_=>none
 |f+1,s,w=>
  match lkT tm s with
  |.d (.bool e)=>some (bw e w,[(s,w)])
  |.gd s' w' (.d (.bool e))=>
   match ctx tm f s' w' with
   |some (g,l)=>some (g&&bw e w,(s,w)::l)
   |none=>none
  |_=>none
def Qew:List (Nat×Bool)->Nat->Bool->Bool
 |[],_,_=>false
 |(a,b)::r,s,w=>(Nat.beq a s&&(b == w))||Qew r s w
def unw (l:List (Nat×Bool)):AV->AV
 |.gd s w av=>bif Qew l s w then av else .gd s w av
 |av=>av
section
variable {R:Type}
def orZ {α:Type} (g:Bool) (p:oP α) (z:α):oP α:=
 match p with
 |some a=>some a
 |none=>bif g then none else some z
def gb {α:Type} (g:Bool) (p:oP α) (z:α) (k:α->oP R):oP R:=Option.bind (orZ g p z) k
def Q3 (k:IntKind):D->oP Int
 |.int k' n=>bif k == k' then some n else none
 |_=>none
def Ko:D->oP Bool
 |.bool b=>some b
 |_=>none
def N5:D->oP (List UInt8)
 |.str s=>some s
 |_=>none
def pSl (size:Nat):D->oP (List (List D))
 |.sl s rows=>bif Nat.beq s size then some rows else none
 |_=>none
def Jo:List AV->Bool
 |[]=>true
 |.ptr ..::r=>Jo r
 |.d _::r=>Jo r
 |_=>false
def Q0v:AV->Bool
 |.gd ..=>false
 |.fn _ l=>Jo l
 |.ag _=>false
 |.tup _=>false
 |_=>true
def prj (g:Bool) (kd:Kd) (av:AV) (k:AV->oP R):oP R:=
 match av with
 |.d x=>
  match kd with
  |.int ik=>gb g (Q3 ik x) 0 fun n=>k (.d (.int ik n))
  |.bool=>gb g (Ko x) false fun b=>k (.d (.bool b))
  |.str=>gb g (N5 x) [] fun s=>k (.d (.str s))
  |.sl _ ac=>gb g (pSl ac x) [] fun r=>k (.d (.sl ac r))
  |_=>none
 |av=>bif Q0v av then k av else none
def Q0Y (g:Bool) (row:List D):Nat->Nat->(List AV->oP R)->oP R
 |_,0,k=>k []
 |off,n+1,k=>gb g row[off]? (.bool false) fun c=>Q0Y g row (off+1) n fun cs=>k (.d c::cs)
def Bm (cells:List AV):Nat->Nat->oP (List AV)
 |_,0=>some []
 |off,n+1=>
  match cells[off]? with
  |some c=>match Bm cells (off+1) n with
   |some r=>bif Q0v c then some (c::r) else none
   |none=>none
  |none=>none
def Re:Kd->Bool
 |.struct=>true
 |_=>false
def Va:Kd->Bool
 |.struct=>true
 |.array ..=>true
 |_=>false
def N2 {α:Type}:Nat->Nat->List α->List (List α)
 |0,_,_=>[]
 |n+1,s,l=>l.take s::N2 n s (l.drop s)
def Hm {α:Type} (l:List α) (n:Nat):oP Unit:=bif Nat.beq l.length n then some () else none
def Q2O:AV->Bool
 |.d _ | .nil | .ptr .. | .el .. | .arr _ | .ap ..=>true
 |.fn _ l=>Jo l
 |_=>false
def M2 (cells:List AV):Nat->List AV->oP (List AV)
 |_,[]=>some cells
 |off,v::r=>bif Q2O v&&Nat.ble (off+1) cells.length then M2 (cells.set off v) (off+1) r else none
def Qen:List AV->oP (List D)
 |[]=>some []
 |.d x::r=>match Qen r with | some l=>some (x::l) | none=>none
 |_::_=>none
def Vj (tm:Operand->AV):List (Nat×Operand)->List (Nat×AV)
 |[]=>[]
 |(i,x)::r=>(i,tm x)::Vj tm r
def XM:AV->List AV
 |.ag l=>l
 |.fs s rows=>[.d (.sl s rows)]
 |v=>[v]
def Q0B (fields:List (Nat×Nat)) (tt:TT):List AV->List (Nat×AV)->oP (List AV)
 |cells,[]=>some cells
 |cells,(i,v)::r=>
  match fields[i]? with
  |some (off,t)=>match look tt t with
   |some ti=>bif Nat.beq (XM v).length ti.size&&Nat.ble (off+ti.size) cells.length then
     match M2 cells off (XM v) with
     |some cs=>Q0B fields tt cs r
     |none=>none
    else none
   |none=>none
  |none=>none
def EW (ti:TyI):List AV:=ti.zero.map Pu
def Q5R (ac t:Nat):Value->AV
 |.pointer none=>.sa ac t
 |v=>Pu v
def Q17 (ac t:Nat) (ti:TyI):List AV:=ti.zero.map (Q5R ac t)
def Q6L (op:BinOp) (k:IntKind) (a b:Int):oP D:=
 match op with
 |.add=>some (.int k (k.wrap (a+b)))
 |.sub=>some (.int k (k.wrap (a-b)))
 |.mul=>some (.int k (k.wrap (a*b)))
 |.eql=>some (.bool (a == b))
 |.neq=>some (.bool (a != b))
 |.lss=>some (.bool (decide (a<b)))
 |.leq=>some (.bool (decide (a<=b)))
 |.gtr=>some (.bool (decide (a>b)))
 |.geq=>some (.bool (decide (a>=b)))
 |_=>none
def nz (b:Int):oP Unit:=bif b == 0 then none else some ()
def BR (b:Int):oP Unit:=bif decide (0<=b) then some () else none
def Q9I (n:Nat):oP Unit:=bif Nat.ble n 9223372036854775807 then some () else none
def Q6T (k:IntKind) (a b:Int):Int:=k.wrap ((BitVec.ofInt k.bits a &&& BitVec.ofInt k.bits b).toNat)
def bOr (k:IntKind) (a b:Int):Int:=k.wrap ((BitVec.ofInt k.bits a ||| BitVec.ofInt k.bits b).toNat)
def Qi4 (k:IntKind) (a b:Int):Int:=k.wrap ((BitVec.ofInt k.bits a ^^^ BitVec.ofInt k.bits b).toNat)
def QfM (k:IntKind) (a:Int):Int:=Qi4 k (if k.signed then -1 else k.max) a
def Q8u (k:IntKind) (a b:Int):Int:=k.wrap ((BitVec.ofInt k.bits a &&& ~~~(BitVec.ofInt k.bits b)).toNat)
def shL (k:IntKind) (a b:Int):Int:=k.wrap (a*2 ^ min b.toNat k.bits)
def shR (k:IntKind) (a b:Int):Int:=a.fdiv (2 ^ min b.toNat k.bits)
def QgG (a b:List UInt8):Bool:=Op.bytesLess a b||a == b
def Q4D (g:Bool):List Kd->List AV->List AV->(List Bool->oP R)->oP R
 |[],[],[],k=>k []
 |kd::ks,.d a::xs,.d b::ys,k=>
  match kd with
  |.int ik=>gb g (Q3 ik a) 0 fun m=>gb g (Q3 ik b) 0 fun n=>Q4D g ks xs ys fun r=>k ((m == n)::r)
  |.bool=>gb g (Ko a) false fun m=>gb g (Ko b) false fun n=>Q4D g ks xs ys fun r=>k ((m == n)::r)
  |.str=>gb g (N5 a) [] fun m=>gb g (N5 b) [] fun n=>Q4D g ks xs ys fun r=>k ((m == n)::r)
  |_=>none
 |_,_,_,_=>none
def Qb5:List Bool->Bool
 |[]=>true
 |[b]=>b
 |b::r=>b&&Qb5 r
def Qil (g:Bool) (op:BinOp) (a b:List UInt8) (k:AV->oP R):oP R:=
 match op with
 |.add=>gb g (Q9I (a.length+b.length)) () fun _=>k (.d (.str (a++b)))
 |.eql=>k (.d (.bool (a == b)))
 |.neq=>k (.d (.bool (!(a == b))))
 |.lss=>k (.d (.bool (Op.bytesLess a b)))
 |.leq=>k (.d (.bool (QgG a b)))
 |.gtr=>k (.d (.bool (!QgG a b)))
 |.geq=>k (.d (.bool (!Op.bytesLess a b)))
 |_=>none
def QiU (g:Bool) (op:BinOp) (kd:Kd) (eqk:oP (List Kd)) (x y:AV) (k:AV->oP R):oP R:=
 match x,y with
 |.d (.int ka a),.d (.int kb b)=>
  match op with
  |.shl=>gb g (BR b) () fun _=>k (.d (.int ka (shL ka a b)))
  |.shr=>gb g (BR b) () fun _=>k (.d (.int ka (shR ka a b)))
  |op=>bif ka == kb then
   match op with
   |.quo=>gb g (nz b) () fun _=>k (.d (.int ka (ka.wrap (a.tdiv b))))
   |.rem=>gb g (nz b) () fun _=>k (.d (.int ka (a.tmod b)))
   |.and=>k (.d (.int ka (Q6T ka a b)))
   |.or=>k (.d (.int ka (bOr ka a b)))
   |.xor=>k (.d (.int ka (Qi4 ka a b)))
   |.andNot=>k (.d (.int ka (Q8u ka a b)))
   |_=>match Q6L op ka a b with
    |some r=>k (.d r)
    |none=>none
  else none
 |.d (.bool a),.d (.bool b)=>
  match kd,op with
  |.bool,.eql=>k (.d (.bool (a == b)))
  |.bool,.neq=>k (.d (.bool (!(a == b))))
  |_,_=>none
 |.d (.str a),.d (.str b)=>Qil g op a b k
 |.ag xs,.ag ys=>
  match eqk with
  |some ks=>match op with
   |.eql=>Q4D g ks xs ys fun bs=>k (.d (.bool (Qb5 bs)))
   |.neq=>Q4D g ks xs ys fun bs=>k (.d (.bool (!Qb5 bs)))
   |_=>none
  |none=>none
 |_,_=>none
def VU (s:List UInt8) (n:Int):oP Int:=bif decide (0<=n) then (s[n.toNat]?).map fun b=>(b.toNat:Int) else none
def slB (len:Nat) (lo hi:oP Int):oP (Nat×Nat):=
 bif decide (0<=lo.getD 0)&&(decide (lo.getD 0<=hi.getD len)&&decide (hi.getD len<=len)) then some ((lo.getD 0).toNat,(hi.getD len).toNat) else none
def QhF (len:Nat) (lo hi mx:oP Int):oP (Nat×Nat):=
 match hi,mx with
 |some h,some m=>bif decide (h=m) then slB len lo (some h) else none
 |_,_=>none
def neL {α:Type}:List α->oP Unit
 |[]=>none
 |_=>some ()
def cut {α:Type} (l:List α) (q:Nat×Nat):List α:=(l.drop q.1).take (q.2-q.1)
def Q1 (rows:List (List D)) (n:Int):oP (List D):=bif decide (0<=n) then rows[n.toNat]? else none
def inB (len:Nat) (n:Int):oP Unit:=bif decide (0<=n)&&decide (n<len) then some () else none
def Q0y (ac:Nat) (hl:Nat->oP Ob):AV->oP (List (List D)×List Nat)
 |.d (.sl s rows)=>bif Nat.beq s ac then some (rows,[]) else none
 |.nil=>some ([],[])
 |.arr l=>match hl l with
  |some (.arr _ s rows)=>bif Nat.beq s ac then some (rows,[l]) else none
  |_=>none
 |_=>none
end
abbrev oF:D:=.bool false
abbrev pIw:=Q3 .i64
abbrev wJ:=IntKind.wrap .i64
abbrev Q4 (x:Int):D:=.int .i64 x
abbrev Q4G:=(R:Type)->Nat->Nat->Bool->List AV->(Nat->oP Ob)->(Dl->oP R)->oP R
section
variable {R:Type}
def P5 (tt:TT) (t:Nat):Kd:=
 match look tt t with
 |some ti=>ti.kd
 |none=>.other
def Qe1 (tt:TT) (t:Nat):oP (List Kd):=
 match look tt t with
 |some ti=>ti.eqk
 |none=>none
def NF (ev:Operand->AV):oP Operand->oP (oP Int)
 |none=>some none
 |some x=>match ev x with
  |.d (.int _ n)=>some (some n)
  |_=>none
def QaO (tt:TT) (g:Bool) (t:Nat) (x i:AV) (k:Dl->oP R):oP R:=
 match P5 tt t,x,i with
 |.str,.d (.str s),.d (.int _ n)=>gb g (VU s n) 0 fun b=>k ⟨.d (.int .u8 b),[],[]⟩
 |_,_,_=>none
def Q8T (tt:TT) (g:Bool) (t:Nat) (x:AV) (lo hi:oP (oP Int)) (k:Dl->oP R):oP R:=
 match lo,hi with
 |some lo,some hi=>
  match P5 tt t,x with
  |.str,.d (.str s)=>gb g (slB s.length lo hi) (0,0) fun q=>k ⟨.d (.str (cut s q)),[],[]⟩
  |.sl _ ac,.d (.sl s rows)=>bif Nat.beq s ac then gb g (slB rows.length lo hi) (0,0) fun q=>k ⟨.d (.sl ac (cut rows q)),[],[]⟩ else none
  |.sl _ _,.nil=>gb g (slB 0 lo hi) (0,0) fun _=>k ⟨.nil,[],[]⟩
  |_,_=>none
 |_,_=>none
def Q4I (tt:TT) (g:Bool) (t:Nat) (x:AV) (lo hi mx:oP (oP Int)) (k:Dl->oP R):oP R:=
 match lo,hi,mx with
 |some lo,some hi,some mx=>
  match P5 tt t,x with
  |.sl _ ac,.d (.sl s rows)=>bif Nat.beq s ac then gb g (QhF rows.length lo hi mx) (0,0) fun q=>k ⟨.fs ac (cut rows q),[],[]⟩ else none
  |.sl _ ac,.nil=>gb g (QhF 0 lo hi mx) (0,0) fun _=>k ⟨.fs ac [],[],[]⟩
  |_,_=>none
 |_,_,_=>none
def EO:List (List D)->oP (List UInt8)
 |[]=>some []
 |[.int .u8 n]::r=>match EO r with
  |some l=>some (UInt8.ofNat n.toNat::l)
  |none=>none
 |_=>none
mutual
def R7:AV->Bool
 |.d (.int ..)=>true
 |.d (.bool _)=>true
 |.d (.str _)=>true
 |.d (.sl ..)=>false
 |.ag l=>Nb l
 |.tup l=>Nb l
 |.fn ..=>false
 |.fs ..=>false
 |.mpd _=>false
 |.el ..=>false
 |.gd ..=>false
 |_=>true
def Nb:List AV->Bool
 |[]=>true
 |a::r=>R7 a&&Nb r
end
def Q93:oP Ob->Bool
 |some (.box cells)=>Nb cells
 |some (.arr ..)=>false
 |some (.mp ..)=>false
 |none=>true
def Bc:List (Nat×oP Ob)->Bool
 |[]=>true
 |(_,o)::r=>Q93 o&&Bc r
def Q7O (hl:Nat->oP Ob):AV->oP (AV×List Nat)
 |.arr l=>match hl l with
  |some (.arr _ size rows)=>some (.d (.sl size rows),[l])
  |_=>none
 |av=>bif Q0v av then some (av,[]) else none
def DA (hl:Nat->oP Ob):List AV->oP (List AV×List Nat)
 |[]=>some ([],[])
 |a::r=>match Q7O hl a with
  |some (a',l)=>match DA hl r with
   |some (r',l')=>some (a'::r',l++l')
   |none=>none
  |none=>none
def RG (hl:Nat->oP Ob):AV->oP (AV×List Nat)
 |.ag cs=>match DA hl cs with
  |some (ac,l)=>some (.ag ac,l)
  |none=>none
 |av=>Q7O hl av
def RD (hl:Nat->oP Ob):List AV->oP (List AV×List Nat)
 |[]=>some ([],[])
 |a::r=>match RG hl a with
  |some (a',l)=>match RD hl r with
   |some (r',l')=>some (a'::r',l++l')
   |none=>none
  |none=>none
def Qav:List D->List AV->oP (List D)
 |[],[]=>some []
 |z::zs,a::r=>
  match Qav zs r with
  |some l=>match a with
   |.d x=>some (x::l)
   |.nil=>match z with
    |.sl e []=>some (.sl e []::l)
    |_=>none
   |_=>none
  |none=>none
 |_,_=>none
def NC (tt:TT) (t:Nat):List D:=
 match look tt t with
 |some ti=>ti.zd
 |none=>[]
def MW (z:List D):List (List D)->List (Nat×AV)->oP (List (List D))
 |rows,[]=>some rows
 |rows,(i,v)::r=>
  match Qav z (XM v) with
  |some row=>bif Nat.ble (i+1) rows.length then MW z (rows.set i row) r else none
  |none=>none
def Qd7 (row:List D):Nat->List D->List D
 |_,[]=>row
 |off,x::r=>Qd7 (row.set off x) (off+1) r
def Y1 (n:Nat):oP Unit:=bif Nat.ble n 140737488355328 then some () else none
def QeP (tt:TT) (g:Bool) (hl:Nat->oP Ob) (t:Nat) (a:AV) (k:Dl->oP R):oP R:=
 match look tt t with
 |some ti=>
  match a with
  |.ptr l off=>match hl l with
   |some (.box cells)=>
    bif Va ti.kd then
     match Bm cells off ti.size with
     |some cs=>k ⟨.ag cs,[],[l]⟩
     |none=>none
    else match cells[off]? with
     |some c=>prj g ti.kd c fun v=>k ⟨v,[],[l]⟩
     |none=>none
   |_=>none
  |.el row off=>
   bif Va ti.kd then Q0Y g row off ti.size fun cs=>k ⟨.ag cs,[],[]⟩
   else gb g row[off]? (.bool false) fun c=>prj g ti.kd (.d c) fun v=>k ⟨v,[],[]⟩
  |.ap l i off=>match hl l with
   |some (.arr _ _ rows)=>
    gb g rows[i]? [] fun row=>
     bif Va ti.kd then Q0Y g row off ti.size fun cs=>k ⟨.ag cs,[],[l]⟩
     else gb g row[off]? (.bool false) fun c=>prj g ti.kd (.d c) fun v=>k ⟨v,[],[l]⟩
   |_=>none
  |_=>none
 |none=>none
def Qau (tt:TT) (hl:Nat->oP Ob) (t:Nat) (a v:AV) (k:Dl->oP R):oP R:=
 match look tt t with
 |some ti=>
  bif Nat.beq (XM v).length ti.size then
   match a with
   |.ptr l off=>match hl l with
    |some (.box cells)=>match M2 cells off (XM v) with
     |some cs=>k ⟨.top,[(l,some (.box cs))],[l]⟩
     |none=>none
    |_=>none
   |.ap l i off=>match hl l with
    |some (.arr e size rows)=>match Qen (XM v) with
     |some ds=>gb true rows[i]? [] fun row=>bif Nat.ble (off+ds.length) size then k ⟨.top,[(l,some (.arr e size (rows.set i (Qd7 row off ds))))],[l]⟩ else none
     |none=>none
    |_=>none
   |_=>none
  else none
 |none=>none
def Q63 (hl:Nat->oP Ob) (ac n l:Nat) (v:AV) (k:Dl->oP R):oP R:=
 match hl l with
 |some (.arr e s rows)=>
  bif Nat.beq s ac then
   match Qen (XM v) with
   |some ds=>bif Nat.beq ds.length (n*ac) then gb true (Hm rows n) () fun _=>k ⟨.top,[(l,some (.arr e s (N2 n ac ds)))],[l]⟩ else none
   |none=>none
  else none
 |_=>none
def Lm (g:Bool) (hl:Nat->oP Ob) (ac n l:Nat) (i:AV) (k:Dl->oP R):oP R:=
 match i,hl l with
 |.d (.int _ x),some (.arr _ s _)=>bif Nat.beq s ac then gb g (inB n x) () fun _=>k ⟨.ap l x.toNat 0,[],[l]⟩ else none
 |_,_=>none
def Q8f (s:List UInt8):List (List D):=s.map fun b=>[D.int .u8 (b.toNat:Int)]
def Qar (tt:TT) (g:Bool) (t f:Nat) (x:AV) (k:Dl->oP R):oP R:=
 match look tt t with
 |some ti=>bif Re ti.kd then match ti.fields[f]? with
   |some (off,ft)=>match look tt ft with
    |some fi=>match x with
     |.ag cells=>
      bif Va fi.kd then
       match Bm cells off fi.size with
       |some cs=>k ⟨.ag cs,[],[]⟩
       |none=>none
      else match cells[off]? with
       |some c=>prj g fi.kd c fun v=>k ⟨v,[],[]⟩
       |none=>none
     |_=>none
    |none=>none
   |none=>none
  else none
 |none=>none
def D9 (tt:TT) (hl:Nat->oP Ob) (t f:Nat) (x:AV) (k:Dl->oP R):oP R:=
 match look tt t with
 |some ti=>bif Re ti.kd then match ti.fields[f]? with
   |some (off,_)=>match x with
    |.ptr l o=>k ⟨.ptr l (o+off),[],[]⟩
    |.el row o=>k ⟨.el row (o+off),[],[]⟩
    |.ap l i o=>match hl l with
     |some (.arr ..)=>k ⟨.ap l i (o+off),[],[l]⟩
     |_=>none
    |_=>none
   |none=>none
  else none
 |none=>none
def ET (tt:TT) (g:Bool) (hl:Nat->oP Ob) (t:Nat) (x i:AV) (k:Dl->oP R):oP R:=
 match P5 tt t,i with
 |.sl _ ac,.d (.int _ n)=>
  match x with
  |.d (.sl s rows)=>bif Nat.beq s ac then gb g (Q1 rows n) [] fun row=>k ⟨.el row 0,[],[]⟩ else none
  |.arr l=>match hl l with
   |some (.arr _ s rows)=>bif Nat.beq s ac then gb g (inB rows.length n) () fun _=>k ⟨.ap l n.toNat 0,[],[l]⟩ else none
   |_=>none
  |.nil=>gb g (Q1 [] n) [] fun row=>k ⟨.el row 0,[],[]⟩
  |_=>none
 |_,_=>none
def QiE (tt:TT) (hl:Nat->oP Ob) (t:Nat) (x:AV):oP (Int×List Nat):=
 match P5 tt t with
 |.sl _ _=>match x with
  |.d (.sl _ rows)=>some (rows.length,[])
  |.nil=>some (0,[])
  |.arr l=>match hl l with
   |some (.arr _ _ rows)=>some (rows.length,[l])
   |_=>none
  |_=>none
 |.str=>match x with
  |.d (.str s)=>some (s.length,[])
  |_=>none
 |_=>none
def B4 (isMin:Bool):AV->List AV->oP AV
 |a,[]=>some a
 |.d (.int k a),.d (.int k' b)::r=>bif k == k' then B4 isMin (.d (.int k (bif isMin then (if b<a then b else a) else (if a<b then b else a)))) r else none
 |_,_=>none
def Eu (hl:Nat->oP Ob) (ac:Nat) (o:Ob) (v:AV) (wr:List (Nat×oP Ob)) (rd:List Nat) (k:Dl->oP R):oP R:=
 match hl ac with
 |none=>k ⟨v,wr++[(ac,some o)],rd⟩
 |some _=>none
def Q1M (tt:TT) (hl:Nat->oP Ob) (ac:Nat) (g:Bool) (t tn:Nat) (s x:AV) (k:Dl->oP R):oP R:=
 match P5 tt t,P5 tt tn,s,x with
 |.sl e aj,.int _,.nil,.d (.int _ n)=>match look tt e with
  |some ei=>
   bif Nat.ble 1 ei.bytes&&Nat.beq (NC tt e).length aj then
   gb g (bif decide (0<n) then some () else none) () fun _=>
   gb g (Y1 (n.toNat*ei.bytes)) () fun _=>Eu hl ac (.arr e aj (List.replicate n.toNat (NC tt e))) (.arr ac) [] [] k
   else none
  |none=>none
 |_,_,_,_=>none
def Q7r (f:Int->Bool) (n:Int) (b:Bool):Int->Bool:=fun m=>bif decide (m=n) then b else f m
def QiW (tt:TT) (hl:Nat->oP Ob) (ac:Nat) (u:Bool) (t l:Nat) (lo hi:oP (oP Int)) (k:Dl->oP R):oP R:=
 match P5 tt t,lo,hi with
 |.sl e aj,some none,some (some h0)=>bif u&&decide (h0=0) then match hl l with
   |some (.arr e' s' _)=>bif Nat.beq e e'&&Nat.beq aj s' then Eu hl ac (.arr e aj []) (.arr ac) [(l,none)] [l] k else none
   |_=>none
  else none
 |_,_,_=>none
def Q5I (tt:TT) (ac:Nat) (g:Bool) (hl:Nat->oP Ob) (t:Nat) (s x:AV) (k:Dl->oP R):oP R:=
 match P5 tt t with
 |.sl e aj=>match look tt e with
  |some ei=>
   bif Nat.ble 1 ei.bytes&&Nat.beq ei.zero.length aj then
   match Q0y aj hl x with
   |some (news,rx)=>
    match s with
    |.nil=>gb g (Y1 (news.length*ei.bytes)) () fun _=>Eu hl ac (.arr e aj news) (.arr ac) [] rx k
    |.fs s0 rows=>bif Nat.beq s0 aj then gb g (neL news) () fun _=>gb g (Y1 ((rows.length+news.length)*ei.bytes)) () fun _=>Eu hl ac (.arr e aj (rows++news)) (.arr ac) [] rx k else none
    |.arr l=>match hl l with
     |some (.arr e' s' rows)=>bif Nat.beq e e'&&Nat.beq aj s' then
       gb g (Y1 ((rows.length+news.length)*ei.bytes)) () fun _=>Eu hl ac (.arr e aj (rows++news)) (.arr ac) [(l,none)] (l::rx) k
      else none
     |_=>none
    |_=>none
   |none=>none
   else none
  |none=>none
 |_=>none
def Ky (tt:TT) (hl:Nat->oP Ob) (aj:Nat) (u:Bool) (t len:Nat) (ak:List (Nat×AV)) (k:Dl->oP R):oP R:=
 match P5 tt t with
 |.sl e ac=>
  bif Nat.ble (len*ac) 16777216&&(look tt e).isSome&&Nat.beq (NC tt e).length ac then
   match MW (NC tt e) (List.replicate len (NC tt e)) ak with
   |some rows=>bif u then Eu hl aj (.arr e ac rows) (.arr aj) [] [] k else k ⟨.d (.sl ac rows),[],[]⟩
   |none=>none
  else none
 |_=>none
def Qdq (tt:TT) (hl:Nat->oP Ob) (ac:Nat) (u:Bool) (t:Nat) (l c:AV) (k:Dl->oP R):oP R:=
 bif u then
  match P5 tt t,l,c with
  |.sl e aj,.d (.int _ n),.d (.int _ m)=>match look tt e with
   |some ei=>
    bif Nat.ble 1 ei.bytes&&Nat.beq (NC tt e).length aj then
    gb true (bif decide (0<=n)&&decide (n<=m) then some () else none) () fun _=>
    gb true (Y1 (m.toNat*ei.bytes)) () fun _=>Eu hl ac (.arr e aj (List.replicate n.toNat (NC tt e))) (.arr ac) [] [] k
    else none
   |none=>none
  |_,_,_=>none
 else none
def PJ (x:Nat):List Nat->Bool
 |[]=>false
 |a::r=>Nat.beq a x||PJ x r
def HS (a b:List Nat):Bool:=a.any fun x=>PJ x b
def wrL (dl:Dl):List Nat:=dl.wr.map (·.1)
mutual
def Zf (l:Nat):AV->Bool
 |.ptr a _=>Nat.beq a l
 |.arr a=>Nat.beq a l
 |.ap a _ _=>Nat.beq a l
 |.sa a _=>Nat.beq a l
 |.ag r=>Jz l r
 |.tup r=>Jz l r
 |.fn _ r=>Jz l r
 |.gd _ _ v=>Zf l v
 |_=>false
def Jz (l:Nat):List AV->Bool
 |[]=>false
 |a::r=>Zf l a||Jz l r
end
def Pa (l:Nat):List (Nat×oP Ob)->Bool
 |[]=>false
 |(_,some (.box cells))::r=>Jz l cells||Pa l r
 |_::r=>Pa l r
def Bq (bs:List Nat) (dl:Dl):Bool:=bs.all fun l=>!Zf l dl.v&&!Pa l dl.wr
def Q5y:D->Bool
 |.sl ..=>false
 |_=>true
def BN (rows:List (List D)):Bool:=rows.all fun r=>r.all Q5y
def FG (l:List (List (List D))):oP Unit:=bif l.all BN then some () else none
def Q36:List (Nat×oP Ob)->List (List (List D))
 |[]=>[]
 |(_,some (.arr _ _ rows))::r=>rows::Q36 r
 |_::r=>Q36 r
def Qj1 (tt:TT) (e:Nat):Bool:=
 match look tt e with
 |some ti=>Nat.beq ti.zd.length ti.size&&ti.zd.all Q5y
 |none=>false
def Ee (tt:TT):List (Nat×oP Ob)->Bool
 |[]=>true
 |(_,some (.arr e _ _))::r=>Qj1 tt e&&Ee tt r
 |(_,some (.box cells))::r=>Nb cells&&Ee tt r
 |(_,some (.mp ..))::_=>false
 |(_,none)::r=>Ee tt r
def Vp:List (Nat×oP Ob)->Bool
 |[]=>true
 |(_,some (.arr _ _ rows))::r=>BN rows&&Vp r
 |(_,some (.box cells))::r=>Nb cells&&Vp r
 |(_,some (.mp ..))::_=>false
 |(_,none)::r=>Vp r
def Qjr (spec:Q4G) (f:Nat):Bool:=(spec Unit f 0 false [.gd 0 true .nil] (fun _=>none) fun _=>some ()).isSome
def Qad:AV->Bool
 |.ag l=>l.all Q0v
 |a=>Q0v a
def Qc7 (spec:Q4G) (tt:TT) (ac:Nat) (g u:Bool) (hl:Nat->oP Ob) (f:Nat) (args:List AV) (k:Dl->oP R):oP R:=
 bif Qjr spec f then (bif args.all Qad then spec R f ac g args hl k else none) else
 match RD hl args with
 |some (aj,bs)=>
  spec R f ac g aj hl fun dl=>
   bif !HS bs (wrL dl)&&(!HS bs dl.rd&&Bq bs dl) then
    bif bs.isEmpty||(R7 dl.v&&Bc dl.wr) then k ⟨dl.v,dl.wr,bs++dl.rd⟩
    else bif R7 dl.v&&Ee tt dl.wr then gb g (FG (Q36 dl.wr)) () fun _=>k ⟨dl.v,dl.wr,bs++dl.rd⟩
    else bif u then k ⟨dl.v,bs.map (fun l=>(l,none))++dl.wr,bs++dl.rd⟩ else none
   else none
 |none=>none
def vUn (op:UnOp) (x:AV):oP AV:=
 match op,x with
 |.not,.d (.bool b)=>some (.d (.bool !b))
 |.neg,.d (.int k n)=>some (.d (.int k (k.wrap (0-n))))
 |.xor,.d (.int k n)=>some (.d (.int k (QfM k n)))
 |_,_=>none
def cv1 (hl:Nat->oP Ob) (av:AV):AV:=
 match RG hl av with
 |some (a,_)=>a
 |none=>.top
def cvP (hl:Nat->oP Ob):List (Nat×AV)->List (Nat×AV)
 |[]=>[]
 |(i,a)::r=>(i,cv1 hl a)::cvP hl r
def bsP (hl:Nat->oP Ob):List (Nat×AV)->List Nat
 |[]=>[]
 |(_,a)::r=>match RG hl a with
  |some (_,b)=>b++bsP hl r
  |none=>bsP hl r
def QiC (hl:Nat->oP Ob) (bs:List Nat):Nat->oP Ob:=fun k=>bif PJ k bs then none else hl k
def Q4Y (tt:TT) (hl:Nat->oP Ob) (aj:Nat) (u:Bool) (t len:Nat) (ac:List (Nat×AV)) (k:Dl->oP R):oP R:=
 match bsP hl ac with
 |[]=>Ky tt hl aj u t len ac k
 |b::bs=>bif u then
   Ky tt (QiC hl (b::bs)) aj true t len (cvP hl ac) fun dl=>
    bif !HS (b::bs) (wrL dl)&&!HS (b::bs) dl.rd then k ⟨dl.v,(b::bs).map (fun l=>(l,none))++dl.wr,(b::bs)++dl.rd⟩ else none
  else none
def vdl (spec:Q4G) (tt:TT) (ac:Nat) (g u:Bool) (ev:Operand->AV) (hl:Nat->oP Ob) (op:Op) (k:Dl->oP R):oP R:=
 match op with
 |.move x=>k ⟨ev x,[],[]⟩
 |.assign x=>k ⟨ev x,[],[]⟩
 |.pick c x y=>
  match c with
  |.tmp s=>match ev (.tmp s) with
   |.d (.bool e)=>match unw [(s,true)] (ev x),unw [(s,false)] (ev y) with
    |.d (.bool a),.d (.bool b)=>k ⟨.d (.bool (bif e then a else b)),[],[]⟩
    |_,_=>none
   |_=>none
  |_=>none
 |.alloc t=>match look tt t with
  |some ti=>bif u then match ti.kd with
    |.array _ an n=>bif Nat.beq ti.zd.length (n*an) then Eu hl ac (.arr t an (N2 n an ti.zd)) (.ap ac 0 0) [] [] k else none
    |_=>Eu hl ac (.box (Q17 ac t ti)) (.ptr ac 0) [] [] k
   else none
  |none=>none
 |.box t x=>match look tt t with
  |some ti=>bif u&&(Nat.beq (XM (ev x)).length ti.size&&(XM (ev x)).all Q2O) then Eu hl ac (.box (XM (ev x))) (.ptr ac 0) [] [] k else none
  |none=>none
 |.build t ak=>match look tt t with
  |some ti=>bif Va ti.kd then match Q0B ti.fields tt (EW ti) (Vj ev ak.toList) with
    |some cs=>k ⟨.ag cs,[],[]⟩
    |none=>none
   else none
  |none=>none
 |.buildSlice t len ak=>Q4Y tt hl ac u t len (Vj ev ak.toList) k
 |.load t a=>QeP tt g hl t (ev a) k
 |.store t a v=>bif u then match P5 tt t,ev a with
   |.array _ an n,.ap l 0 0=>Q63 hl an n l (ev v) k
   |_,_=>Qau tt hl t (ev a) (ev v) k
  else none
 |.nilCheck x=>match ev x with
  |.ptr l o=>k ⟨.ptr l o,[],[]⟩
  |.el r o=>k ⟨.el r o,[],[]⟩
  |.ap l i o=>match hl l with
   |some _=>k ⟨.ap l i o,[],[l]⟩
   |none=>none
  |_=>none
 |.binOp op t x y _=>QiU g op (P5 tt t) (Qe1 tt t) (ev x) (ev y) fun v=>k ⟨v,[],[]⟩
 |.unOp op _ x=>match vUn op (ev x) with
  |some v=>k ⟨v,[],[]⟩
  |none=>none
 |.convert s t x=>match P5 tt s,P5 tt t with
  |.int _,.int kd=>match ev x with
   |.d (.int _ n)=>k ⟨.d (.int kd (kd.wrap n)),[],[]⟩
   |_=>none
  |.sl e 1,.str=>match P5 tt e with
   |.int .u8=>match Q0y 1 hl (ev x) with
    |some (rows,rd)=>gb g (EO rows) [] fun s=>k ⟨.d (.str s),[],rd⟩
    |none=>none
   |_=>none
  |.str,.str=>match ev x with
   |.d (.str s)=>k ⟨.d (.str s),[],[]⟩
   |_=>none
  |.str,.sl e 1=>match P5 tt e with
   |.int .u8=>match ev x with
    |.d (.str s)=>k ⟨.d (.sl 1 (Q8f s)),[],[]⟩
    |_=>none
   |_=>none
  |_,_=>none
 |.makeFunc (.func f) first aj=>match first.toList with
  |[]=>bif Jo (aj.toList.map ev) then k ⟨.fn f (aj.toList.map ev),[],[]⟩ else none
  |_=>none
 |.makeSlice t l c=>Qdq tt hl ac u t (ev l) (ev c) k
 |.fieldAddr t x f=>D9 tt hl t f (ev x) k
 |.field t x f=>Qar tt g t f (ev x) k
 |.indexAddr t x i=>match P5 tt t,ev x with
  |.array _ an n,.ap l 0 0=>Lm g hl an n l (ev i) k
  |_,_=>ET tt g hl t (ev x) (ev i) k
 |.index t x i=>QaO tt g t (ev x) (ev i) k
 |.slice t x lo hi none=>match ev x with
  |.arr l=>QiW tt hl ac u t l (NF ev lo) (NF ev hi) k
  |_=>Q8T tt g t (ev x) (NF ev lo) (NF ev hi) k
 |.makeMap t none=>match P5 tt t with
  |.mpb=>bif u then Eu hl ac (.mp t fun _=>false) (.arr ac) [] [] k else none
  |_=>none
 |.mapUpdate t m x v=>match P5 tt t,ev m,ev x,ev v with
  |.mpb,.arr l,.d (.int .i64 n),.d (.bool b)=>match hl l with
   |some (.mp t' f)=>bif u then k ⟨.top,[(l,some (.mp t' (Q7r f n b)))],[l]⟩ else none
   |_=>none
  |_,_,_,_=>none
 |.slice t x lo hi (some mx)=>Q4I tt g t (ev x) (NF ev lo) (NF ev hi) (NF ev (some mx)) k
 |.lookup t m x false=>match P5 tt t,ev m,ev x with
  |.mapI,.mpd f,.d (.int .i64 n)=>k ⟨.d (.sl 1 (f n)),[],[]⟩
  |.mpb,.arr l,.d (.int .i64 n)=>match hl l with
   |some (.mp _ f)=>k ⟨.d (.bool (f n)),[],[l]⟩
   |_=>none
  |_,_,_=>none
 |.extract x i=>match ev x with
  |.tup l=>match l[i]? with
   |some v=>k ⟨v,[],[]⟩
   |none=>none
  |_=>none
 |.call c=>match c.callee with
  |.value (.func f)=>Qc7 spec tt ac g u hl f (c.args.toList.map ev) k
  |.value (.tmp t)=>match ev (.tmp t) with
   |.fn f cap=>Qc7 spec tt ac g u hl f (c.args.toList.map ev++cap) k
   |_=>none
  |.builtin .len=>match c.args.toList,c.argTypes.toList with
   |[x],[t]=>match QiE tt hl t (ev x) with
    |some (n,rd)=>k ⟨.d (.int .i64 n),[],rd⟩
    |none=>none
   |_,_=>none
  |.builtin .cap=>match c.args.toList,c.argTypes.toList with
   |[x],[t]=>match P5 tt t,ev x with
    |.sl _ _,.nil=>k ⟨.d (.int .i64 0),[],[]⟩
    |_,_=>none
   |_,_=>none
  |.builtin .append=>match c.args.toList,c.argTypes.toList with
   |[s,x],[t,t']=>bif Nat.beq t t' then Q5I tt ac g hl t (ev s) (ev x) k else Q1M tt hl ac g t t' (ev s) (ev x) k
   |_,_=>none
  |.builtin .min=>match c.args.toList with
   |x::r=>match B4 true (ev x) (r.map ev) with
    |some v=>k ⟨v,[],[]⟩
    |none=>none
   |_=>none
  |.builtin .max=>match c.args.toList with
   |x::r=>match B4 false (ev x) (r.map ev) with
    |some v=>k ⟨v,[],[]⟩
    |none=>none
   |_=>none
  |_=>none
 |_=>none
def Ah (l:Nat):List (Nat×AV)->Bool
 |[]=>false
 |(_,a)::r=>Zf l a||Ah l r
def Jj (l:Nat):List (Nat×Ob)->Bool
 |[]=>false
 |(_,.box cells)::r=>Jz l cells||Jj l r
 |(_,.arr ..)::r=>Jj l r
 |(_,.mp ..)::r=>Jj l r
def Ut (st:St) (l:Nat):Bool:=Nat.ble l 999999&&(!Ah l st.tm&&!Jj l st.h)
def Wc (st:St):List (Nat×oP Ob)->Bool
 |[]=>true
 |(l,o)::r=>(match o,look st.h l with
  |some _,none=>Ut st l
  |_,_=>true)&&Wc st r
mutual
def gds (t:Nat):AV->Bool
 |.gd t' _ av=>Nat.beq t' t||gds t av
 |.ag l=>Ba t l
 |.tup l=>Ba t l
 |.fn _ l=>Ba t l
 |_=>false
def Ba (t:Nat):List AV->Bool
 |[]=>false
 |a::r=>gds t a||Ba t r
end
def Qam (d:Nat):List (Nat×AV)->Bool
 |[]=>false
 |(_,a)::r=>gds d a||Qam d r
structure Rec where
 rt:List Nat
 dst:oP Nat
 dl:Dl
def To:List Operand->List Nat
 |[]=>[]
 |.tmp t::r=>t::To r
 |_::r=>To r
def put (st:St) (dst:oP Nat) (dl:Dl):St:=
 { n:=st.n,tm:=match dst with | some d=>(d,dl.v)::st.tm | none=>st.tm,h:=Md st.h dl.wr }
def Q34 (st:St) (v:AV):oP Nat->Bool
 |some d=>Nat.ble (d+1) st.n&&(!gds d v&&!Qam d st.tm)
 |none=>true
def Qdi (st:St) (o:Oper) (ch:List Nat) (dl:Dl) (k:St->Rec->oP R):oP R:=
 bif Q34 st dl.v o.dst&&Wc st dl.wr then k (put st o.dst dl) ⟨To o.op.operands.toList++ch,o.dst,dl⟩ else none
def jD (g:Bool):D->D->oP D
 |.int k x,.int k' y=>bif k == k' then some (.int k (bif g then x else y)) else none
 |.bool x,.bool y=>some (.bool (bif g then x else y))
 |.str x,.str y=>some (.str (bif g then x else y))
 |.sl s x,.sl s' y=>bif Nat.beq s s' then some (.sl s (bif g then x else y)) else none
 |_,_=>none
def jA (g:Bool):AV->AV->oP AV
 |.d x,.d y=>match jD g x y with
  |some z=>some (.d z)
  |none=>none
 |.nil,.nil=>some .nil
 |.ptr l o,.ptr l' o'=>bif Nat.beq l l'&&Nat.beq o o' then some (.ptr l o) else none
 |_,_=>none
def jL (g:Bool):List AV->List AV->oP (List AV)
 |[],[]=>some []
 |a::r,b::s=>match jA g a b with
  |some c=>match jL g r s with
   |some t=>some (c::t)
   |none=>none
  |none=>none
 |_,_=>none
def jW (g:Bool) (hl:Nat->oP Ob):List (Nat×oP Ob)->oP (List (Nat×oP Ob))
 |[]=>some []
 |(l,some (.box ac))::r=>match hl l with
  |some (.box old)=>match jL g ac old with
   |some c=>match jW g hl r with
    |some t=>some ((l,some (.box c))::t)
    |none=>none
   |none=>none
  |_=>none
 |(l,some (.arr e s rows))::r=>match hl l with
  |none=>match jW g hl r with
   |some t=>some ((l,some (.arr e s (bif g then rows else [])))::t)
   |none=>none
  |some _=>none
 |(_,some (.mp ..))::_=>none
 |(l,none)::r=>match jW g hl r with
  |some t=>some ((l,none)::t)
  |none=>none
def Qer (spec:Q4G) (tt:TT) (ac:Array Oper) (o:Oper) (st:St) (k:St->Rec->oP R):oP R:=
 match o.guard with
 |none=>vdl spec tt (o.dst.getD 0) true true (evO st.tm) (look st.h) o.op fun dl=>Qdi st o [] dl k
 |some (j,w)=>match (ac[j]?).bind (·.dst) with
  |some s=>match ctx st.tm 40 s w with
   |some (g,ch)=>vdl spec tt (o.dst.getD 0) g false (fun x=>unw ch (evO st.tm x)) (look st.h) o.op fun dl=>
     match jW g (look st.h) dl.wr with
     |some wr=>Qdi st o (ch.map (·.1)) ⟨.gd s w dl.v,wr,dl.rd⟩ k
     |none=>none
   |none=>none
  |none=>none
def QbR (spec:Q4G) (tt:TT) (ac:Array Oper):List Oper->St->List Rec->(St->List Rec->oP R)->oP R
 |[],st,acc,k=>k st acc
 |o::r,st,acc,k=>Qer spec tt ac o st fun st' rec=>QbR spec tt ac r st' (acc++[rec]) k
def Q3z (s:Nat) (b:Bool):List (Nat×AV)->List (Nat×AV)
 |[]=>[]
 |(t,a)::r=>bif Nat.beq t s then (t,.d (.bool b))::r else (t,a)::Q3z s b r
def Q7i (spec:Q4G) (tt:TT) (o:Oper) (s:Nat) (w b:Bool) (st:St) (k:St->Rec->oP R):oP R:=
 bif (bif b then w else !w) then vdl spec tt (o.dst.getD 0) true true (evO st.tm) (look st.h) o.op fun dl=>Qdi st o [s] dl k
 else Qdi st o [s] ⟨.gd s w (.d (.bool false)),[],[]⟩ k
def Q1a (spec:Q4G) (tt:TT) (ac:Array Oper):List Oper->St->List Rec->(St->List Rec->oP R)->oP R
 |[],st,acc,k=>k st acc
 |o::r,st,acc,k=>match o.guard with
  |none=>vdl spec tt (o.dst.getD 0) true true (evO st.tm) (look st.h) o.op fun dl=>Qdi st o [] dl fun st' rec=>Q1a spec tt ac r st' (acc++[rec]) k
  |some (j,w)=>match (ac[j]?).bind (·.dst) with
   |some s=>match lkT st.tm s with
    |.d (.bool c)=>
     bif c then Q7i spec tt o s w true { n:=st.n,tm:=Q3z s true st.tm,h:=st.h } fun st' rec=>Q1a spec tt ac r st' (acc++[rec]) k
     else Q7i spec tt o s w false { n:=st.n,tm:=Q3z s false st.tm,h:=st.h } fun st' rec=>Q1a spec tt ac r st' (acc++[rec]) k
    |_=>none
   |none=>none
def Q49 (acc:List Nat):List Edge->Nat->Nat
 |[],s=>s
 |e::r,s=>Q49 acc r (bif Region.binds .any e then (s ||| (2 ^ e.on)) ||| acc.getD e.on 0 else s)
def Q2w:List Oper->List Nat->List Nat
 |[],acc=>acc
 |o::r,acc=>Q2w r (acc++[Q49 acc o.after.toList 0])
def Q1D:List Edge->Nat->Bool
 |[],_=>true
 |e::r,i=>(!Region.binds .any e||Nat.ble (e.on+1) i)&&Q1D r i
def Kg:List Oper->Nat->Bool
 |[],_=>true
 |o::r,i=>Q1D o.after.toList i&&Kg r (i+1)
def inO (d:oP Nat) (l:List Nat):Bool:=
 match d with
 |some x=>PJ x l
 |none=>false
def WO (a b:Rec):Bool:=
 inO a.dst b.rt||inO b.dst a.rt||(match a.dst,b.dst with | some x,some y=>Nat.beq x y | _,_=>false) ||
 HS (wrL a.dl) (wrL b.dl)||HS (wrL a.dl) b.dl.rd||HS (wrL b.dl) a.dl.rd
def TK (aj:St) (ac:List Nat):List (Nat×oP Ob)->List Nat
 |[]=>[]
 |(l,o)::r=>match o,look aj.h l with
  |some _,none=>bif PJ l ac then TK aj ac r else l::TK aj ac r
  |_,_=>TK aj ac r
def DH (l:Nat) (b:Rec):Bool:=Zf l b.dl.v||Pa l b.dl.wr
def QfZ (d:oP Nat) (v:AV):Bool:=
 match d with
 |some x=>gds x v
 |none=>false
def B1 (i:Nat) (a:Rec) (news:List Nat):List Rec->List Nat->Bool
 |[],_=>true
 |b::r,m::ms=>(!(WO a b||(news.any fun l=>DH l b)||QfZ a.dst b.dl.v)||m.testBit i)&&B1 i a news r ms
 |_::_,[]=>false
def LD (aj:St):Nat->List Rec->List Nat->List Rec->List Nat->Bool
 |_,_,_,[],_=>true
 |i,ak,ac,a::r,_::ms=>
  B1 i a (TK aj ac a.dl.wr) r ms&&((TK aj ac a.dl.wr).all fun l=>Ut aj l&&ak.all fun b=>!DH l b) &&
   LD aj (i+1) (ak++[a]) (ac++TK aj ac a.dl.wr) r ms
 |_,_,_,_::_,[]=>false
def WF (l:Nat):List (Nat×oP Ob)->Bool
 |[]=>false
 |(k,o)::r=>(o.isSome&&Nat.beq k l)||WF l r
def Qd6 (recs:List Rec):List (Nat×oP Ob)->Bool
 |[]=>true
 |(l,none)::r=>(recs.all fun b=>!WF l b.dl.wr)&&Qd6 recs r
 |_::r=>Qd6 recs r
def rmL:List Rec->Bool
 |[]=>true
 |a::r=>Qd6 (a::r) a.dl.wr&&rmL r
def Q2Z (aj:St) (ac:List Oper) (recs:List Rec):Bool:=
 Kg ac 0&&LD aj 0 [] [] recs (Q2w ac [])&&rmL recs
structure Cfg where
 keep:List Nat
 locs:List (Nat×Nat)
 mkT:List (Nat×Nat×Nat×Nat)
 mkH:List (Nat×Nat×Nat×Nat×Nat)
 fz:List Nat
mutual
def fzA (l s:Nat) (rows:List (List D)):AV->AV
 |.arr k=>bif Nat.beq k l then .d (.sl s rows) else .arr k
 |.ap k i o=>bif Nat.beq k l then .top else .ap k i o
 |.ag r=>.ag (fzL l s rows r)
 |.tup r=>.tup (fzL l s rows r)
 |.fn f r=>.fn f (fzL l s rows r)
 |.gd ..=>.top
 |av=>av
def fzL (l s:Nat) (rows:List (List D)):List AV->List AV
 |[]=>[]
 |a::r=>fzA l s rows a::fzL l s rows r
end
def fzO (l s:Nat) (rows:List (List D)):Ob->Ob
 |.box cells=>.box (fzL l s rows cells)
 |o=>o
def fzT (l s:Nat) (rows:List (List D)):List (Nat×AV)->List (Nat×AV)
 |[]=>[]
 |(t,a)::r=>(t,fzA l s rows a)::fzT l s rows r
def QcU (l s:Nat) (rows:List (List D)):List (Nat×Ob)->List (Nat×Ob)
 |[]=>[]
 |(k,o)::r=>bif Nat.beq k l then QcU l s rows r else (k,fzO l s rows o)::QcU l s rows r
def fz1 (st:St) (l:Nat):St:=
 match look st.h l with
 |some (.arr _ s rows)=>{ n:=st.n,tm:=fzT l s rows st.tm,h:=QcU l s rows st.h }
 |_=>st
def fzs (st:St):List Nat->St
 |[]=>st
 |l::r=>fzs (fz1 st l) r
mutual
def U4 (ρ:List (Nat×Nat)):AV->AV
 |.ptr l o=>match look ρ l with | some l'=>.ptr l' o | none=>.top
 |.arr l=>match look ρ l with | some l'=>.arr l' | none=>.top
 |.ap l i o=>match look ρ l with | some l'=>.ap l' i o | none=>.top
 |.sa l t=>match look ρ l with | some l'=>.sa l' t | none=>.top
 |.ag r=>.ag (Q2P ρ r)
 |.tup r=>.tup (Q2P ρ r)
 |.fn f r=>.fn f (Q2P ρ r)
 |.gd ..=>.top
 |av=>av
def Q2P (ρ:List (Nat×Nat)):List AV->List AV
 |[]=>[]
 |a::r=>U4 ρ a::Q2P ρ r
end
def Qcj (ρ:List (Nat×Nat)):Ob->Ob
 |.box cells=>.box (Q2P ρ cells)
 |.arr e s rows=>.arr e s rows
 |.mp t f=>.mp t f
def Qa4 (ρ:List (Nat×Nat)) (tm:List (Nat×AV)):List Nat->List (Nat×AV)
 |[]=>[]
 |t::r=>(t,U4 ρ (lkT tm t))::Qa4 ρ tm r
def EG (ρ:List (Nat×Nat)) (h:List (Nat×Ob)):List (Nat×Nat)->List (Nat×Ob)
 |[]=>[]
 |(l,l')::r=>match look h l with
  |some o=>(l',Qcj ρ o)::EG ρ h r
  |none=>EG ρ h r
def QhG (tm:List (Nat×AV)) (t:Nat) (v:AV):List (Nat×AV):=
 match tm with
 |[]=>[]
 |(k,a)::r=>bif Nat.beq k t then (k,v)::r else (k,a)::QhG r t v
def Qf4 (st:St):List (Nat×Nat×Nat×Nat)->St
 |[]=>st
 |(t,l,e,s)::r=>match lkT st.tm t with
  |.nil=>bif Ut st l&&(look st.h l).isNone then Qf4 { st with tm:=QhG st.tm t (.arr l),h:=(l,.arr e s [])::st.h } r else Qf4 st r
  |_=>Qf4 st r
def QeV (st:St):List (Nat×Nat×Nat×Nat×Nat)->St
 |[]=>st
 |(b,c,l,e,s)::r=>match look st.h b with
  |some (.box cells)=>match cells[c]? with
   |some .nil=>bif Ut st l&&(look st.h l).isNone then QeV { st with h:=(l,.arr e s [])::(b,.box (cells.set c (.arr l)))::rem b st.h } r else QeV st r
   |_=>QeV st r
  |_=>QeV st r
def X4:List Nat->Bool
 |[]=>true
 |a::r=>!PJ a r&&X4 r
def Qel (c:Cfg) (st:St):St:=
 bif X4 (c.locs.map (·.1))&&(X4 (c.locs.map (·.2))&&c.locs.all fun p=>Nat.beq p.1 p.2||Nat.ble p.2 999999) then QeV (Qf4 { n:=st.n,tm:=Qa4 c.locs st.tm c.keep,h:=EG c.locs st.h c.locs } c.mkT) c.mkH
 else st
def inH (h:List (Nat×Ob)):List (Nat×Nat)->List (Nat×Nat)
 |[]=>[]
 |p::r=>match look h p.1 with
  |some _=>p::inH h r
  |none=>inH h r
def Qj7 (c:Cfg) (st:St):St:=Qel ⟨c.keep,inH st.h c.locs,c.mkT,c.mkH,c.fz⟩ st
def QdS (c:Cfg) (st:St):St:=Qj7 c (fzs st c.fz)
def Qcf (c:Cfg) (st:St):St:=
 match c.keep with
 |[]=>QdS ⟨st.tm.map (·.1),st.h.map fun p=>(p.1,p.1),c.mkT,c.mkH,c.fz⟩ st
 |_::_=>QdS c st
structure VC where
 spec:Q4G
 tt:TT
 cfg:List (Nat×Cfg)
def Q1c (C:VC) (id:Nat) (ac:Array Oper) (aj:Bool) (st:St) (k:St->oP R):oP R:=
 (bif (look C.cfg (id+1000000000)).isSome then Q1a C.spec C.tt ac ac.toList st [] else QbR C.spec C.tt ac ac.toList st []) fun st' recs=>
  bif !aj||Q2Z st ac.toList recs then
   match look C.cfg id with
   |some c=>k (Qcf c st')
   |none=>k st'
  else none
def Be (ac:St->(Exit->St->oP R)->oP R):Nat->St->(Exit->St->oP R)->oP R
 |0,_,_=>none
 |n+1,st,k=>ac st fun e st'=>match e with
  |.normal=>Be ac n st' k
  |.exit id=>k (.exit id) st'
  |.ret=>k .ret st'
  |_=>none
def Q8n:Code->Nat
 |.region id _ _=>id
 |.seq a _=>Q8n a
 |.block _ c=>Q8n c
 |.loop c=>Q8n c
 |.cond _ a _=>Q8n a
 |_=>0
def QgP (C:VC) (n:Nat) (c:Code):Nat:=
 match look C.cfg (2000000000+Q8n c) with
 |some ⟨[m],_,_,_,_⟩=>m
 |_=>n
def Br (C:VC) (ac:Nat) (st:St):St:=
 match look C.cfg ac with
 |some q=>QdS q st
 |none=>st
def HR (C:VC) (n:Nat):Code->St->(Exit->St->oP R)->oP R
 |.skip,st,k=>k .normal st
 |.region id aj ac,st,k=>Q1c C id aj ac st (k .normal)
 |.seq a b,st,k=>HR C n a st fun e st'=>match e with
  |.normal=>HR C n b st' k
  |.exit id=>k (.exit id) st'
  |.ret=>k .ret st'
  |_=>none
 |.cond c a b,st,k=>match evO st.tm c with
  |.d (.bool e)=>bif e then HR C n a st k else HR C n b st k
  |_=>none
 |.block id c,st,k=>HR C n c st fun e st'=>match e with
  |.normal=>k .normal st'
  |.exit j=>bif Nat.beq j id then k .normal st' else k (.exit j) st'
  |.ret=>k .ret st'
  |_=>none
 |.loop c,st,k=>Be (fun st k=>HR C n c (Br C (3000000000+Q8n c) st) k) (QgP C n c) st k
 |.exit id,st,k=>k (.exit id) st
 |.ret,st,k=>k .ret st
 |_,_,_=>none
def lB (C:VC) (n:Nat) (c:Code) (st:St) (k:Exit->St->oP R):oP R:=HR C n c (Br C (3000000000+Q8n c) st) k
mutual
def Nt:AV->Bool
 |.gd ..=>false
 |.ag l=>H9 l
 |.tup l=>H9 l
 |.fn _ l=>H9 l
 |_=>true
def H9:List AV->Bool
 |[]=>true
 |a::r=>Nt a&&H9 r
end
def Q41 (tt:TT) (st:St):ResultVar->oP AV
 |.tmp t=>some (lkT st.tm t)
 |.cell a ty=>match lkT st.tm a with
  |.ptr l off=>match look st.h l,look tt ty with
   |some (.box cells),some ti=>
    bif Va ti.kd then
     match Bm cells off ti.size with
     |some cs=>some (.ag cs)
     |none=>none
    else match cells[off]? with
     |some c=>bif Q0v c then some c else none
     |none=>none
   |_,_=>none
  |_=>none
def Q15 (tt:TT) (st:St):List ResultVar->oP (List AV)
 |[]=>some []
 |r::rs=>match Q41 tt st r with
  |some a=>match Q15 tt st rs with
   |some l=>bif Nt a then some (a::l) else none
   |none=>none
  |none=>none
def Q24 (tt:TT) (st:St) (rs:List ResultVar):oP AV:=
 match Q15 tt st rs with
 |some [a]=>some a
 |some l=>some (.tup l)
 |none=>none
def Q1S:Nat->List AV->List (Nat×AV)
 |_,[]=>[]
 |i,a::r=>(i,a)::Q1S (i+1) r
def vfn (C:VC) (n:Nat) (fn:Func) (args:List AV) (h:List (Nat×Ob)) (k:AV->List (Nat×Ob)->oP R):oP R:=
 match fn.body with
 |some c=>bif Nat.ble args.length fn.ntmps&&H9 args then
   HR C n c { n:=fn.ntmps,tm:=Q1S 0 args,h:=h } fun e st=>match e with
    |.ret=>match Q24 C.tt st fn.results.toList with
     |some v=>k v st.h
     |none=>none
    |.normal=>match Q24 C.tt st fn.results.toList with
     |some v=>k v st.h
     |none=>none
    |_=>none
  else none
 |none=>none
end
inductive Rd (S:Nat->Prop) (w:World):Value->D->Prop
 |int (k:IntKind) (n:Int):Rd S w (.int k n) (.int k n)
 |bool (b:Bool):Rd S w (.bool b) (.bool b)
 |str (s:ByteArray):Rd S w (.string s) (.str s.data.toList)
 |sl0 (a:oP Addr) (cap size:Nat):Rd S w (.slice a 0 cap) (.sl size [])
 |sl (ad:Addr) (cap size:Nat) (rows:List (List D)) (c:Nat->Nat->Value)
   (hS:S ad.block) (hcap:rows.length<=cap) (hsz:∀ (i:Nat) (r:List D),rows[i]? = some r->r.length=size)
   (hc:∀ (i j:Nat) (r:List D) (x:D),rows[i]? = some r->r[j]? = some x->w.cell? (ad.add (i*size+j))=some (c i j))
   (hr:∀ (i j:Nat) (r:List D) (x:D),rows[i]? = some r->r[j]? = some x->Rd S w (c i j) x) :
   Rd S w (.slice (some ad) rows.length cap) (.sl size rows)
theorem Jx (a:Addr) (n:Nat):(a.add n).block=a.block:=by unfold Addr.add;split <;> rfl
theorem Bh (a:Addr) (i j:Nat):(a.add i).add j=a.add (i+j):=by
 grind [Addr.add,Nat.add_assoc]
theorem G4 (b o n:Nat):(⟨b,o,none⟩:Addr).add n=⟨b,o+n,none⟩:=by
 grind [Addr.add]
theorem Nu {w w':World} {a:Addr} (h:w'.heap[a.block]? = w.heap[a.block]?):w'.cell? a=w.cell? a:=by simp [World.cell?,h]
theorem Rd.mono {S S':Nat->Prop} {w w':World} {v:Value} {x:D} (hS:∀ b,S b->S' b) (hw:∀ b,S b->w'.heap[b]? = w.heap[b]?) (h:Rd S w v x):Rd S' w' v x:=by
 induction h with
 |int k n=>exact .int k n
 |bool b=>exact .bool b
 |str s=>exact .str s
 |sl0 a cap size=>exact .sl0 a cap size
 |sl ad cap size rows c hs ac aj hc _ ih=>
  exact .sl ad cap size rows c (hS _ hs) ac aj (fun i j r x h1 h2=>by
   grind [Nu,Jx]) ih
def Jq:List MapEntry->Int->oP Value
 |[],_=>none
 |e::r,n=>match e.key with
  |.int .i64 m=>if m=n then some e.val else Jq r n
  |_=>Jq r n
def Q8e (S:Nat->Prop) (w:World) (v:Value) (f:Int->List (List D)):Prop:=
 ∃ b es ac,v = .map (some b)/\S b/\w.heap[b]? = some (.map es ac)/\(∀ e∈es.toList,∃ n,e.key = .int .i64 n)/\(∀ n,Jq es.toList n=none->f n=[])/\∀ n v',Jq es.toList n=some v'->Rd S w v' (.sl 1 (f n))
theorem Q8e.mono {S S':Nat->Prop} {w w':World} {v:Value} {f:Int->List (List D)} (hS:∀ b,S b->S' b) (hw:∀ b,S b->w'.heap[b]? = w.heap[b]?) (h:Q8e S w v f):Q8e S' w' v f:=by
 obtain ⟨b,es,ac,h1,h2,h3,h4,h5,h6⟩:=h;exact ⟨b,es,ac,h1,hS b h2,(hw b h2).trans h3,h4,h5,fun n v' hl=>(h6 n v' hl).mono hS hw⟩
def MpR (w:World) (b:Nat) (f:Int->Bool):Prop:=
 ∃ es ac,w.heap[b]? = some (.map es ac)/\(∀ e∈es.toList,∃ n,e.key = .int .i64 n)/\(∀ n,Jq es.toList n=none->f n=false)/\∀ n v,Jq es.toList n=some v->v = .bool (f n)
theorem MpR.same {w w':World} {b:Nat} {f:Int->Bool} (h:MpR w b f) (hb:w'.heap[b]? = w.heap[b]?):MpR w' b f:=by
 obtain ⟨es,ac,h1,h2⟩:=h;exact ⟨es,ac,hb.trans h1,h2⟩
def Sz:AV->oP Nat
 |.arr l=>some l
 |.ap l _ _=>some l
 |_=>none
inductive RdA (β:Nat->oP Nat) (S:Nat->Prop) (h:Nat->oP Ob) (w:World) (tm:Nat->Value):Value->AV->Prop
 |top (v:Value):RdA β S h w tm v .top
 |d (v:Value) (x:D) (hx:Rd S w v x):RdA β S h w tm v (.d x)
 |nil:RdA β S h w tm (.slice none 0 0) .nil
 |ag (cs:Array Value) (l:List AV) (hl:cs.size=l.length) (hr:∀ (i:Nat) (x:AV),l[i]? = some x->RdA β S h w tm (cs.getD i undef) x):RdA β S h w tm (.agg cs) (.ag l)
 |tup (cs:Array Value) (l:List AV) (hl:cs.size=l.length) (hr:∀ (i:Nat) (x:AV),l[i]? = some x->RdA β S h w tm (cs.getD i undef) x):RdA β S h w tm (.tuple cs) (.tup l)
 |fn (f:Nat) (cs:Array Value) (l:List AV) (hl:cs.size=l.length) (hr:∀ (i:Nat) (x:AV),l[i]? = some x->RdA β S h w tm (cs.getD i undef) x):RdA β S h w tm (.func (.func f) #[] cs) (.fn f l)
 |fs (ad:oP Addr) (s:Nat) (rows:List (List D)) (hx:Rd S w (.slice ad rows.length rows.length) (.sl s rows)):RdA β S h w tm (.slice ad rows.length rows.length) (.fs s rows)
 |mpd (v:Value) (f:Int->List (List D)) (hm:Q8e S w v f):RdA β S h w tm v (.mpd f)
 |ex (v:Value):RdA β S h w tm v (.ex v)
 |ptr (l off b:Nat) (hb:β l=some b):RdA β S h w tm (.pointer (some ⟨b,off,none⟩)) (.ptr l off)
 |sa (v:Value) (l t b:Nat) (hb:β l=some b) (hv:v = .pointer none\/v = .pointer (some ⟨b,0,none⟩)):RdA β S h w tm v (.sa l t)
 |el (ad:Addr) (row:List D) (off:Nat) (c:Nat->Value) (hs:S ad.block)
   (hc:∀ (j:Nat) (x:D),row[off+j]? = some x->w.cell? (ad.add j)=some (c j)) (hr:∀ (j:Nat) (x:D),row[off+j]? = some x->Rd S w (c j) x) :
   RdA β S h w tm (.pointer (some ad)) (.el row off)
 |arr0 (l e s:Nat) (hb:β l=none) (hh:h l=some (.arr e s [])):RdA β S h w tm (.slice none 0 0) (.arr l)
 |arr (l b cap e s:Nat) (rows:List (List D)) (cs:Array Value) (ty:TypeId) (fz:Nat×Nat) (hb:β l=some b) (hh:h l=some (.arr e s rows))
   (hw:w.heap[b]? = some (.cells cs ty fz)) (hcs:cs.size=cap*s) (hcap:rows.length<=cap) (hmax:cap<=maxLen) :
   RdA β S h w tm (.slice (some ⟨b,0,none⟩) rows.length cap) (.arr l)
 |mp (l b t:Nat) (f:Int->Bool) (hb:β l=some b) (hh:h l=some (.mp t f)):RdA β S h w tm (.map (some b)) (.arr l)
 |ap (l i off b e s:Nat) (rows:List (List D)) (hb:β l=some b) (hh:h l=some (.arr e s rows)) :
   RdA β S h w tm (.pointer (some ⟨b,i*s+off,none⟩)) (.ap l i off)
 |dang (v:Value) (av:AV) (l:Nat) (hl:Sz av=some l) (hh:h l=none) (h1:v.oneCell'=true):RdA β S h w tm v av
 |gdT (v:Value) (t:Nat) (w':Bool) (av:AV) (ht:tm t = .bool w') (hv:RdA β S h w tm v av):RdA β S h w tm v (.gd t w' av)
 |gdF (t:Nat) (w':Bool) (av:AV) (ht:tm t≠.bool w'):RdA β S h w tm undef (.gd t w' av)
structure Keep (β:Nat->oP Nat) (h:Nat->oP Ob) (w:World) (β':Nat->oP Nat) (h':Nat->oP Ob) (w':World) (l:Nat):Prop where
 b:β' l=β l
 none_:h l=none->h' l=none
 arr:∀ e s rows,h l=some (.arr e s rows)->h' l=none\/∃ rows',h' l=some (.arr e s rows')/\rows'.length=rows.length
 cells:∀ b cs ty fz,(h' l).isSome=true->β l=some b->w.heap[b]? = some (.cells cs ty fz)->∃ cs' ty' fz',w'.heap[b]? = some (.cells cs' ty' fz')/\cs'.size=cs.size
 mp:∀ t f,h l=some (.mp t f)->h' l=none\/∃ f',h' l=some (.mp t f')
theorem Sf {l i:Nat} {r:List AV} {x:AV} (h:r[i]? = some x) (hn:Zf l x=true):Jz l r=true:=by
 induction r generalizing i with
 |nil=>simp at h
 |cons a r ih=>
  grind [Jz]
theorem Q4V {t i:Nat} {r:List AV} {x:AV} (h:r[i]? = some x) (hn:gds t x=true):Ba t r=true:=by
 induction r generalizing i with
 |nil=>simp at h
 |cons a r ih=>
  grind [Ba]
theorem RdA.mono {β β':Nat->oP Nat} {S S':Nat->Prop} {h h':Nat->oP Ob} {w w':World} {tm tm':Nat->Value} {v:Value} {av:AV}
  (hr:RdA β S h w tm v av) (hS:∀ b,S b->S' b) (hw:∀ b,S b->w'.heap[b]? = w.heap[b]?)
  (hk:∀ l,Zf l av=true->Keep β h w β' h' w' l) (ht:∀ t,gds t av=true->tm' t=tm t):RdA β' S' h' w' tm' v av:=by
 induction hr with
 |top v=>exact .top v
 |d v x hx=>exact .d v x (hx.mono hS hw)
 |nil=>exact .nil
 |ag cs l hl _ ih=>
  exact .ag cs l hl fun i x hx=>ih i x hx (fun k hn=>hk k (by grind [Zf,Sf])) (fun t hn=>ht t (by grind [gds,Q4V]))
 |tup cs l hl _ ih=>
  exact .tup cs l hl fun i x hx=>ih i x hx (fun k hn=>hk k (by simp [Zf,Sf hx hn])) (fun t hn=>ht t (by simp [gds,Q4V hx hn]))
 |fn f cs l hl _ ih=>
  exact .fn f cs l hl fun i x hx=>ih i x hx (fun k hn=>hk k (by simp [Zf,Sf hx hn])) (fun t hn=>ht t (by simp [gds,Q4V hx hn]))
 |fs ad s rows hx=>exact .fs ad s rows (hx.mono hS hw)
 |mpd v f hm=>exact .mpd v f (hm.mono hS hw)
 |ex v=>exact .ex v
 |ptr l off b hb=>exact .ptr l off b (by rw [(hk l (by simp [Zf])).b];exact hb)
 |sa v l t b hb hv=>exact .sa v l t b (by rw [(hk l (by simp [Zf])).b];exact hb) hv
 |el ad row off c hs hc hr=>
  exact .el ad row off c (hS _ hs) (fun j x hx=>by grind [Nu,Jx]) (fun j x hx=>(hr j x hx).mono hS hw)
 |arr0 l e s hb hh=>
  have K:=hk l (by simp [Zf]);rcases K.arr e s [] hh with hn | ⟨ac,aj,an⟩
  ·exact .dang _ _ l rfl hn rfl
  ·have:ac=[]:=Qpf QoW;subst this;exact .arr0 l e s (by rw [K.b];exact hb) aj
 |arr l b cap e s rows cs ty fz hb hh az a6 a3 aq=>
  have K:=hk l (by simp [Zf]);rcases K.arr e s rows hh with hn | ⟨ac,aj,an⟩
  ·exact .dang _ _ l rfl hn rfl
  ·obtain ⟨ay,au,a2,aw,a5⟩:=K.cells b cs ty fz (by simp [aj]) hb az;have:=RdA.arr (β:=β') (h:=h') (w:=w') (S:=S') (tm:=tm') l b cap e s ac ay au a2 (by rw [K.b];exact hb) aj aw QoW QoW aq
   simp_all
 |mp l b t f hb hh=>
  have K:=hk l (by simp [Zf]);rcases K.mp t f hh with hn | ⟨f',hf⟩
  ·exact .dang _ _ l rfl hn rfl
  ·exact .mp l b t f' (by rw [K.b];exact hb) hf
 |ap l i off b e s rows hb hh=>
  have K:=hk l (by simp [Zf]);rcases K.arr e s rows hh with hn | ⟨ac,aj,an⟩
  ·exact .dang _ _ l rfl hn rfl
  ·exact .ap l i off b e s ac (by rw [K.b];exact hb) aj
 |dang v av l hl hh h1=>
  refine .dang v av l hl ((hk l ?_).none_ hh) h1;cases av <;> simp [Sz] at hl <;> simp [Zf,hl]
 |gdT v t b av ar _ ih=>
  refine .gdT v t b av (by simp_all [gds]) (ih (fun k hn=>hk k (by assumption)) (fun t' hn=>ht t' (by grind [gds])))
 |gdF t b av ar=>exact .gdF t b av (by rw [ht t (by simp [gds])];exact ar)
structure Fr (M:Nat->Prop) (w w':World):Prop where
 os:w'.os=w.os
 tape:w'.tape=w.tape
 output:w'.output=w.output
 size:w.heap.size<=w'.heap.size
 block:∀ b,b<w.heap.size->¬ M b->w'.heap[b]? = w.heap[b]?
theorem Fr.refl (M:Nat->Prop) (w:World):Fr M w w:=⟨rfl,rfl,rfl,Qpt _,fun _ _ _=>rfl⟩
theorem Fr.trans {M:Nat->Prop} {a b c:World} (h:Fr M a b) (k:Fr M b c):Fr M a c:=
 ⟨k.os.trans h.os,k.tape.trans h.tape,k.output.trans h.output,Nat.le_trans h.size k.size,fun i hi hm=>(k.block i (Qpw hi h.size) hm).trans (h.block i hi hm)⟩
theorem Fr.mono {M M':Nat->Prop} {a b:World} (h:Fr M a b) (hM:∀ x,x<a.heap.size->M x->M' x):Fr M' a b:=
 ⟨h.os,h.tape,h.output,h.size,fun i hi hm=>h.block i hi (fun hx=>hm (hM i hi hx))⟩
theorem Fr.below {w w':World} (h:Fr (fun _=>False) w w'):RowKit.Below w.heap.size w w':=⟨h.os,h.tape,h.output,h.size,fun b hb=>h.block b hb (fun x=>x)⟩
def Qj4 (n:Nat) (fz:Nat×Nat):Prop:=∀ o,o<n->¬ (fz.1<=o/\o<fz.2)
def tm0:Nat->Value:=fun _=>undef
def Q7A (ty:TypeId) (cells:List AV):Prop:=∀ (i l t:Nat),cells[i]? = some (.sa l t)->ty=t
def ObR (β:Nat->oP Nat) (S:Nat->Prop) (h:Nat->oP Ob) (w:World) (l:Nat):Ob->Prop
 |.box cells=>∃ b ty cs fz,β l=some b/\w.heap[b]? = some (.cells cs ty fz)/\(Qj4 cs.size fz/\Q7A ty cells)/\cs.size=cells.length /\
   ∀ (i:Nat) (x:AV),cells[i]? = some x->RdA β S h w tm0 (cs.getD i undef) x
 |.arr e s rows=>(β l=none/\rows=[])\/∃ b cs,β l=some b/\w.heap[b]? = some (.cells cs e (0,0))/\rows.length*s<=cs.size /\
   (∀ (i:Nat) (r:List D),rows[i]? = some r->r.length=s)/\∀ (i j:Nat) (r:List D) (x:D),rows[i]? = some r->r[j]? = some x->∃ v,cs[i*s+j]? = some v/\Rd S w v x
 |.mp _ f=>∃ b,β l=some b/\MpR w b f
structure Env where
 w0:World
 M:Nat->Prop
 S0:Nat->Prop
 pin:Nat->oP Nat
def tmv (a:Act) (t:Nat):Value:=a.tmps.getD t undef
structure HRel (E:Env) (β:Nat->oP Nat) (S:Nat->Prop) (h:Nat->oP Ob) (w:World):Prop where
 ob:∀ l o,h l=some o->ObR β S h w l o
 inj:∀ l l' b,(h l).isSome=true->(h l').isSome=true->β l=some b->β l'=some b->l=l'
 apart:∀ l b,(h l).isSome=true->β l=some b->¬ S b
 own:∀ l b,(h l).isSome=true->β l=some b->E.M b\/E.w0.heap.size<=b
 sb:∀ b,S b->b<w.heap.size
 sfr:∀ b,S b->E.S0 b\/E.M b\/E.w0.heap.size<=b
 s0:∀ b,E.S0 b->S b
 fr:Fr E.M E.w0 w
 pin:∀ l,1000000<=l->β l=E.pin l
 psz:∀ l b,1000000<=l->(h l).isSome=true->β l=some b->∀ cs ty fz,E.w0.heap[b]? = some (.cells cs ty fz)->∃ cs' ty' fz',w.heap[b]? = some (.cells cs' ty' fz')/\cs'.size=cs.size
structure Rel (E:Env) (β:Nat->oP Nat) (S:Nat->Prop) (st:St) (a:Act) (w:World):Prop where
 n:a.tmps.size=st.n
 dfr:a.defers=[]
 tm:∀ t av,look st.tm t=some av->RdA β S (look st.h) w (tmv a) (tmv a t) av
 hr:HRel E β S (look st.h) w
def Kv (E:Env) (st:St) (a:Act) (w:World):Prop:=∃ β S,Rel E β S st a w
theorem Qe3 {a b:Nat} (h:¬ a=b):Nat.beq a b=false:=by
 grind [Nat.beq,absurd,Nat.eq_of_beq_eq_true]
theorem CE {α:Type} (l k:Nat) (h:List (Nat×α)):look (rem l h) k=if k=l then none else look h k:=by
 induction h with
 |nil=>simp [rem,look]
 |cons x r ih=>
  obtain ⟨a,o⟩:=x;simp only [rem,look];by_cases ha:a=l
  ·subst ha;simp only [Nat.beq_refl,Qpa,ih]
   grind [Nat.beq,Qe3]
  ·have h1:Nat.beq a l=false:=Qe3 ha;simp only [h1,cond_false,look,ih]
   grind
theorem Qx {α:Type} (l k:Nat) (o:α) (h:List (Nat×α)):look ((l,o)::h) k=if k=l then some o else look h k:=by
 grind [look,Nat.beq_refl,Nat.beq,Qe3]
theorem WK (l k:Nat) (o:Ob) (h:List (Nat×Ob)):look ((l,o)::rem l h) k=if k=l then some o else look h k:=by
 grind [Qx,CE]
end Go.Vx
namespace Go.Vx
variable {ev:Operand->AV}
def CEq (kd:Kd) (u v:Value) (b:Bool):Prop:=
 match kd with
 |.int k=>∃ m n,u = .int k m/\v = .int k n/\b=(m == n)
 |.bool=>∃ m n,u = .bool m/\v = .bool n/\b=(m == n)
 |.str=>∃ m n:ByteArray,u = .string m/\v = .string n/\b=(m.data.toList == n.data.toList)
 |_=>False
def QjI (P:Program) (t:Nat) (ks:List Kd):Prop:=
 ∀ (w:World) (xs ys:Array Value) (bs:List Bool),xs.size=ks.length->ys.size=ks.length->bs.length=ks.length ->
  (∀ (j:Nat) (kd:Kd) (b:Bool),ks[j]? = some kd->bs[j]? = some b->CEq kd (xs.getD j undef) (ys.getD j undef) b) ->
  (Op.equalIn 10000 t (.agg xs) (.agg ys)).run P w = .ok (bs.all id) w/\P.eqGuardType P.depth t=false
structure TyOk (P:Program) (t:Nat) (ti:TyI):Prop where
 inf:∃ i,P.info? t=some i/\i.size=ti.size/\i.bytes=ti.bytes/\∃ z,i.zero=some z/\z.cells.toList=ti.zero
 one:Va ti.kd=false->ti.size=1/\∃ d,P.underlying t=some d/\(∀ fs,d≠.struct fs)/\∀ n e,d≠.array n e
 kint:∀ k,ti.kd = .int k->P.underlying t=some (.int k)
 kbool:ti.kd = .bool->P.underlying t=some .bool
 kstr:ti.kd = .str->P.underlying t=some .string
 ksl:∀ e esz,ti.kd = .sl e esz->P.underlying t=some (.slice e)/\0<esz/\∃ i,P.info? e=some i/\i.size=esz
 kstruct:ti.kd = .struct->∃ fs,P.underlying t=some (.struct fs)/\fs.toList.map (fun f=>(f.offset,f.type))=ti.fields/\∀ f∈fs.toList,∃ i,P.info? f.type=some i/\i.size≠0
 karr:∀ e esz n,ti.kd = .array e esz n->P.underlying t=some (.array n e)/\0<esz/\(∃ i,P.info? e=some i/\i.size=esz)/\ti.size=n*esz/\ti.fields=(List.range n).map fun i=>(i*esz,e)
 keq:∀ ks,ti.eqk=some ks->QjI P t ks
 zlen:ti.zero.length=ti.size
 zd:ti.zd.length=ti.size->∀ (j:Nat) (x:D),ti.zd[j]? = some x->∃ v,ti.zero[j]? = some v/\∀ (S:Nat->Prop) (w:World),Rd S w v x
 kmpb:ti.kd = .mpb->∃ K e,P.underlying t=some (.map K e)/\P.underlying K=some (.int .i64)/\∃ i,P.info? e=some i/\i.zero=some (.bool false)
 kmap:ti.kd = .mapI->∃ K e,P.underlying t=some (.map K e)/\P.underlying K=some (.int .i64)/\∃ i,P.info? e=some i/\i.zero=some (.slice none 0 0)
def TOk (P:Program) (tt:TT):Prop:=∀ t ti,look tt t=some ti->TyOk P t ti
section
variable {P:Program}
theorem QA {t:TypeId} {d:TypeDesc} (h:P.underlying t=some d) (w:World):(underlying t).run P w = .ok d w:=by
 simp [underlying,h]
theorem Yi {t:TypeId} {i:TypeInfo} (h:P.info? t=some i) (w:World):(typeInfo t).run P w = .ok i w:=by
 simp [typeInfo,h]
theorem TyOk.size {t:Nat} {ti:TyI} (h:TyOk P t ti) (w:World):(sizeOf t).run P w = .ok ti.size w:=by
 obtain ⟨i,hi,hs,_⟩:=h.inf
 simp_all [sizeOf,Yi]
theorem TyOk.agg {t:Nat} {ti:TyI} (h:TyOk P t ti) (w:World):(isAgg t).run P w = .ok (Va ti.kd) w:=by
 cases hk:Va ti.kd with
 |true=>
  cases hh:ti.kd with
  |struct=>
   obtain ⟨fs,hu,_⟩:=h.kstruct hh;simp [isAgg,QA hu]
  |array e aj n=>
   have hu:=(h.karr e aj n hh).1;simp [isAgg,QA hu]
  |_=>grind [Va]
 |false=>
  obtain ⟨_,d,hu,h1,h2⟩:=h.one hk
  simp_all [isAgg,Qp9,QA,Qp5]
theorem QO {α R:Type} {g:Bool} {p:oP α} {z:α} {k:α->oP R} {r:R} (h:gb g p z k=some r) :
  ∃ a,k a=some r/\(g=true->p=some a):=by
 unfold gb orZ at h
 grind
def Out (E:Env) (st:St) (a:Act) (dl:Dl) (v:Value) (w':World):Prop:=
 ∃ β' S',Rel E β' S' ⟨st.n,st.tm,Md st.h dl.wr⟩ a w'/\RdA β' S' (look (Md st.h dl.wr)) w' (tmv a) v dl.v
def DR (β:Nat->oP Nat) (S:Nat->Prop) (st:St) (a:Act) (w:World) (o:Oper) (ev:Operand->AV):Prop:=
 ∀ x∈o.op.operands.toList,RdA β S (look st.h) w (tmv a) (a.eval x) (ev x)/\∀ l,Ut st l=true->Zf l (ev x)=false
def Qg7 (st:St) (hl:Nat->oP Ob) (dl:Dl):Prop:=∀ l,l∈dl.rd\/l∈wrL dl->look st.h l=hl l
def GC (P:Program) (E:Env) (o:Oper) (ev:Operand->AV) (hl:Nat->oP Ob) (dl:Dl):Prop:=
 ∀ β S st a w,Rel E β S st a w->DR β S st a w o ev->Qg7 st hl dl->Wc st dl.wr=true ->
  ∀ (K:Act->World->Prop) (Q:Exit->Act->World->Prop),(∀ v w',Out E st a dl v w'->K (a.put o.dst v) w')->o.wp P a w K Q
variable {E:Env}
theorem Qk {o:Oper} {hl:Nat->oP Ob} {v:AV} {rd:List Nat}
  (h:∀ β S st a w,Rel E β S st a w->DR β S st a w o ev->Qg7 st hl ⟨v,[],rd⟩->∃ u,(execOp a.eval o).run P w = .ok (.value u) w/\RdA β S (look st.h) w (tmv a) u v) :
  GC P E o ev hl ⟨v,[],rd⟩:=by
 intro β S st a w hR hO hA _ K Q hK;obtain ⟨u,ac,hu⟩:=h β S st a w hR hO hA;unfold Oper.wp;rw [ac];exact hK u w ⟨β,S,by assumption,by assumption⟩
theorem DR.at {β:Nat->oP Nat} {S:Nat->Prop} {st:St} {a:Act} {w:World} {o:Oper} (h:DR β S st a w o ev) {x:Operand} (hx:x∈o.op.operands.toList) :
  RdA β S (look st.h) w (tmv a) (a.eval x) (ev x):=(h x hx).1
theorem DR.nm {β:Nat->oP Nat} {S:Nat->Prop} {st:St} {a:Act} {w:World} {o:Oper} (h:DR β S st a w o ev) {x:Operand} (hx:x∈o.op.operands.toList) {l:Nat} (hc:Ut st l=true) :
  Zf l (ev x)=false:=(h x hx).2 l hc
section inv
variable {β:Nat->oP Nat} {S:Nat->Prop} {h:Nat->oP Ob} {w:World} {tm:Nat->Value} {v:Value}
theorem RdA.int_inv {k:IntKind} {n:Int} (hv:RdA β S h w tm v (.d (.int k n))):v = .int k n:=by
 cases hv with
 |d _ _ hx=>cases hx;rfl
 |dang _ _ l hl _ _=>trivial
theorem RdA.bool_inv {b:Bool} (hv:RdA β S h w tm v (.d (.bool b))):v = .bool b:=by
 cases hv with
 |d _ _ hx=>cases hx;rfl
 |dang _ _ l hl _ _=>trivial
theorem RdA.str_inv {l:List UInt8} (hv:RdA β S h w tm v (.d (.str l))):∃ s:ByteArray,l=s.data.toList/\v = .string s:=by
 cases hv with
 |d _ _ hx=>cases hx with
  |str s=>simp_all
 |dang _ _ l hl _ _=>trivial
theorem RdA.d_inv {x:D} (hv:RdA β S h w tm v (.d x)):Rd S w v x:=by
 cases hv with
 |d _ _ hx=>exact hx
 |dang _ _ l hl _ _=>trivial
theorem RdA.ptr_inv {l off:Nat} (hv:RdA β S h w tm v (.ptr l off)):∃ b,β l=some b/\v = .pointer (some ⟨b,off,none⟩):=by
 cases hv with
 |ptr _ _ b hb=>simp_all
 |dang _ _ l hl _ _=>trivial
theorem RdA.el_inv {row:List D} {off:Nat} (hv:RdA β S h w tm v (.el row off)) :
  ∃ (ad:Addr) (c:Nat->Value),v = .pointer (some ad)/\S ad.block/\(∀ (j:Nat) (x:D),row[off+j]? = some x->w.cell? (ad.add j)=some (c j))/\∀ (j:Nat) (x:D),row[off+j]? = some x->Rd S w (c j) x:=by
 cases hv with
 |el ad _ _ c hs hc hr=>exact ⟨ad,c,rfl,hs,hc,hr⟩
 |dang _ _ l hl _ _=>trivial
theorem RdA.ap_inv {l i off e s:Nat} {rows:List (List D)} (hh:h l=some (.arr e s rows)) (hv:RdA β S h w tm v (.ap l i off)) :
  ∃ b,β l=some b/\v = .pointer (some ⟨b,i*s+off,none⟩):=by
 cases hv with
 |ap _ _ _ b e' s' ac hb ak=>
  simp_all
 |dang _ _ l' hl hn _=>grind [Sz]
theorem RdA.ag_inv {l:List AV} (hv:RdA β S h w tm v (.ag l)):∃ cs:Array Value,v = .agg cs/\cs.size=l.length/\∀ (i:Nat) (x:AV),l[i]? = some x->RdA β S h w tm (cs.getD i undef) x:=by
 cases hv with
 |ag cs _ hl hr=>simp_all
 |dang _ _ l hl _ _=>trivial
theorem RdA.tup_inv {l:List AV} (hv:RdA β S h w tm v (.tup l)):∃ cs:Array Value,v = .tuple cs/\cs.size=l.length/\∀ (i:Nat) (x:AV),l[i]? = some x->RdA β S h w tm (cs.getD i undef) x:=by
 cases hv with
 |tup cs _ hl hr=>simp_all
 |dang _ _ l hl _ _=>trivial
theorem RdA.fs_inv {s:Nat} {rows:List (List D)} (hv:RdA β S h w tm v (.fs s rows)):∃ ad,v = .slice ad rows.length rows.length/\Rd S w v (.sl s rows):=by
 cases hv with
 |fs ad _ _ hx=>simp_all
 |dang _ _ l hl=>trivial
theorem RdA.nil_inv (hv:RdA β S h w tm v .nil):v = .slice none 0 0:=by
 cases hv with
 |nil=>rfl
 |dang _ _ l hl _ _=>trivial
theorem RdA.arr_inv {l e s:Nat} {rows:List (List D)} (hh:h l=some (.arr e s rows)) (hv:RdA β S h w tm v (.arr l)) :
  (β l=none/\rows=[]/\v = .slice none 0 0)\/∃ b cap cs ty fz,β l=some b/\v = .slice (some ⟨b,0,none⟩) rows.length cap/\w.heap[b]? = some (.cells cs ty fz)/\cs.size=cap*s/\rows.length<=cap/\cap<=maxLen:=by
 cases hv with
 |arr0 _ e' s' hb ac=>
  simp_all
 |arr _ b cap e' s' aj cs ty fz hb ac hw aq ak an=>
  grind
 |mp _ b t f hb ac=>simp_all
 |dang _ _ l' hl hn _=>grind [Sz]
theorem RdA.mp_inv {l t:Nat} {f:Int->Bool} (hh:h l=some (.mp t f)) (hv:RdA β S h w tm v (.arr l)):∃ b,β l=some b/\v = .map (some b):=by
 cases hv with
 |arr0 _ e' s' hb ac=>simp_all
 |arr _ b cap e' s' aj cs ty fz hb ac hw ar ak an=>rw [hh] at ac;cases ac
 |mp _ b t f hb ac=>simp_all
 |dang _ _ l' hl hn _=>grind [Sz]
end inv
theorem Fu {k:IntKind} {x:D} {n:Int} (h:Q3 k x=some n):x = .int k n:=by
 cases x with
 |int k' m=>
  grind [Q3]
 |_=>trivial
theorem Mm {x:D} {n:Bool} (h:Ko x=some n):x = .bool n:=by
 cases x <;> simp [Ko] at h;rw [h]
theorem Fg {x:D} {n:List UInt8} (h:N5 x=some n):x = .str n:=by
 cases x <;> simp [N5] at h;rw [h]
theorem Q6R {s:Nat} {x:D} {n:List (List D)} (h:pSl s x=some n):x = .sl s n:=by
 cases x with
 |sl s' m=>
  grind [pSl,Nat.beq,Nat.eq_of_beq_eq_true]
 |_=>trivial
theorem CT {R:Type} {g:Bool} {kd:Kd} {av:AV} {k:AV->oP R} {r:R} (h:prj g kd av k=some r) :
  ∃ v,k v=some r/\(g=true->v=av)/\Q0v av=true:=by
 unfold prj at h;split at h
 ·split at h
  ·obtain ⟨n,hn,hp⟩:=QO h;exact ⟨_,hn,fun hg=>by grind [Fu],rfl⟩
  ·obtain ⟨n,hn,hp⟩:=QO h;exact ⟨_,hn,fun hg=>by grind [Mm],rfl⟩
  ·obtain ⟨n,hn,hp⟩:=QO h;exact ⟨_,hn,fun hg=>by grind [Fg],rfl⟩
  ·obtain ⟨n,hn,hp⟩:=QO h;exact ⟨_,hn,fun hg=>by grind [Q6R],rfl⟩
  ·cases h
 grind
theorem L4 {R:Type} {g:Bool} {row:List D}:∀ {n off:Nat} {k:List AV->oP R} {r:R},Q0Y g row off n k=some r ->
  ∃ cs:List D,k (cs.map .d)=some r/\cs.length=n/\(g=true->∀ j,j<n->row[off+j]? = cs[j]?)
 |0,off,k,r,h=>⟨[],by simpa [Q0Y] using h,rfl,fun _ j hj=>by omega⟩
 |n+1,off,k,r,h=>by
  unfold Q0Y at h;obtain ⟨c,hc,hp⟩:=QO h;obtain ⟨cs,h1,h2,h3⟩:=L4 hc;refine ⟨c::cs,by simpa using h1,by simp [h2],fun hg j hj=>?_⟩;cases j with
  |zero=>simpa using hp hg
  |succ j=>
   have:=h3 hg j QoW;rw [show off+(j+1)=off+1+j from QoW];simpa using this
theorem Rs {cells:List AV}:∀ {n off:Nat} {cs:List AV},Bm cells off n=some cs->cs.length=n/\(∀ j,j<n->cells[off+j]? = cs[j]?)/\∀ (j:Nat) (c:AV),cs[j]? = some c->Q0v c=true
 |0,off,cs,h=>by
  simp [Bm] at h;subst h;exact ⟨rfl,fun j hj=>by omega,fun j c hc=>by simp at hc⟩
 |n+1,off,cs,h=>by
  unfold Bm at h;split at h
  ·rename_i c hc;split at h
   ·rename_i r hr;obtain ⟨h1,h2,h3⟩:=Rs hr;cases hn:Q0v c with
    |true=>
     simp [hn] at h;subst h;refine ⟨by simp [h1],fun j hj=>?_,fun j c' ac=>?_⟩
     ·cases j with
      |zero=>simpa using hc
      |succ j=>
       rw [show off+(j+1)=off+1+j from QoW];simpa using h2 j QoW
     ·cases j with
      |zero=>simp at ac;subst ac;exact hn
      |succ j=>exact h3 j c' (by simpa using ac)
    |false=>simp [hn] at h
   ·cases h
  ·cases h
theorem Q1x:∀ {l:List AV},Jo l=true->∀ t,Ba t l=false
 |[],_,_=>rfl
 |.ptr ..::r,h,t=>by simp [Ba,gds,Q1x (l:=r) (by simpa [Jo] using h) t]
 |.d _::r,h,t=>by simp [Ba,gds,Q1x (l:=r) (by simpa [Jo] using h) t]
 |.top::_,h,_=>by simp [Jo] at h
 |.nil::_,h,_=>by simp [Jo] at h
 |.ag _::_,h,_=>by simp [Jo] at h
 |.tup _::_,h,_=>by simp [Jo] at h
 |.el ..::_,h,_=>by simp [Jo] at h
 |.fs ..::_,h,_=>by simp [Jo] at h
 |.mpd _::_,h,_=>by simp [Jo] at h
 |.ex _::_,h,_=>by simp [Jo] at h
 |.arr _::_,h,_=>by simp [Jo] at h
 |.ap ..::_,h,_=>by simp [Jo] at h
 |.gd ..::_,h,_=>by simp [Jo] at h
 |.fn ..::_,h,_=>by simp [Jo] at h
theorem SO {av:AV} (h:Q0v av=true) (t:Nat):gds t av=false:=by
 cases av with
 |fn f l=>grind [gds,Q1x,Q0v]
 |_=>trivial
theorem RdA.any_tm {β:Nat->oP Nat} {S:Nat->Prop} {h:Nat->oP Ob} {w:World} {tm:Nat->Value} {v:Value} {av:AV} (hg:Q0v av=true)
  (hv:RdA β S h w tm0 v av):RdA β S h w tm v av:=by
 refine RdA.mono hv (fun _ hb=>hb) (fun _ _=>rfl) (fun l _=>⟨rfl,fun x=>x,fun e s rows hh=>.inr ⟨rows,hh,rfl⟩,fun b cs ty fz _ _ hw=>⟨cs,ty,fz,hw,rfl⟩,fun _ f hh=>.inr ⟨f,hh⟩⟩) (fun t ht=>?_)
 grind [SO]
end
end Go.Vx
namespace Go.Vx
variable {w:World}
section
variable {P:Program} {E:Env} {R:Type}
theorem J8 {b o:Nat} {cs:Array Value} {ty:TypeId} {fz:Nat×Nat} (h:w.heap[b]? = some (.cells cs ty fz)):w.cell? ⟨b,o,none⟩=cs[o]?:=by
 simp [World.cell?,h]
theorem Gu {t:Nat} {ti:TyI} (ht:TyOk P t ti) (hs:Va ti.kd=false) {a:Addr} {v:Value} (hc:w.cell? a=some v) :
  (loadVar t a).run P w = .ok v w:=by
 simp only [loadVar,Qp9,ht.agg,hs,Qp5,Bool.false_eq_true,if_false,run_load,hc]
theorem GE {t:Nat} {ti:TyI} (ht:TyOk P t ti) (hs:Va ti.kd=true) {a:Addr} {vs:List Value} (hl:vs.length=ti.size) (hc:∀ (j:Nat) (v:Value),vs[j]? = some v->w.cell? (a.add j)=some v) :
  (loadVar t a).run P w = .ok (.agg vs.toArray) w:=by
 have h1:=run_loadCells_list (P:=P) w a vs hc;rw [hl] at h1;simp only [loadVar,Qp9,ht.agg,hs,Qp5,if_true,ht.size,h1];rfl
theorem Hx {cs:Array Value} {i:Nat} (h:i<cs.size):cs[i]? = some (cs.getD i undef):=by
 simp_all
theorem Fd {vs:List Value} {i:Nat} {v:Value} (h:vs[i]? = some v):vs.toArray.getD i undef=v:=by
 simp_all
theorem JV {o:Oper} {t:TypeId} {x:Operand} (ho:o.op = .load t x) {a:Act} {ad:Addr} {v:Value} (hx:a.eval x = .pointer (some ad)) (hv:(loadVar t ad).run P w = .ok v w) :
  (execOp a.eval o).run P w = .ok (.value v) w:=by
 simp_all [execOp,Instr.loadAt,Instr.sureAddr]
theorem Q3A {S:Nat->Prop} {ad:Addr} {row:List D} {off:Nat} {c:Nat->Value} (hc:∀ (j:Nat) (x:D),row[off+j]? = some x->w.cell? (ad.add j)=some (c j))
  (hr:∀ (j:Nat) (x:D),row[off+j]? = some x->Rd S w (c j) x) {cs:List D} {n:Nat} (hn:cs.length=n) (ac:∀ j,j<n->row[off+j]? = cs[j]?) :
  ∃ vs:List Value,vs.length=n/\(∀ (j:Nat) (v:Value),vs[j]? = some v->w.cell? (ad.add j)=some v)/\∀ (j:Nat) (x:D),cs[j]? = some x->∃ v,vs[j]? = some v/\Rd S w v x:=by
 refine ⟨(List.range n).map c,by simp,fun j v hv=>?_,fun j x hx=>?_⟩
 all_goals grind
theorem Q9l {β:Nat->oP Nat} {S:Nat->Prop} {h:Nat->oP Ob} {tm:Nat->Value} {vs:List Value} {cs:List D} (hl:vs.length=cs.length)
  (hr:∀ (j:Nat) (x:D),cs[j]? = some x->∃ v,vs[j]? = some v/\Rd S w v x):RdA β S h w tm (.agg vs.toArray) (.ag (cs.map .d)):=by
 refine .ag _ _ (by simp [hl]) fun i x hx=>?_
 simp only [Qpg,Qpb] at hx;obtain ⟨y,hy,rfl⟩:=hx;obtain ⟨v,hv,ac⟩:=hr i y hy;rw [Fd hv];exact .d _ _ ac
theorem Q8K {tt:TT} (hT:TOk P tt) {o:Oper} {t:TypeId} {x:Operand} (ho:o.op = .load t x) {g:Bool} {ev:Operand->AV} {hl:Nat->oP Ob} {k:Dl->oP R} {r:R}
  (h:QeP tt g hl t (ev x) k=some r):∃ dl,k dl=some r/\(g=true->GC P E o ev hl dl):=by
 have aj:x∈o.op.operands.toList:=by grind [Op.operands]
 unfold QeP at h;split at h
 case h_2=>cases h
 rename_i ti bn;have az:=hT t ti bn;split at h
 ·-- a box
  rename_i l off ar;split at h
  ·rename_i cells aw;cases hs:Va ti.kd with
   |true=>
    simp only [hs,Qpa] at h;split at h
    ·rename_i cs a5;refine ⟨_,h,fun _=>Qk fun β S st a w hR hO hA=>?_⟩;obtain ⟨b,hb,hv⟩:=(ar▸hO.at aj).ptr_inv;have ak:look st.h l=some (.box cells):=by rw [hA l (.inl QoY)];exact aw
     obtain ⟨b',ty,vs,fz,ao,hw,_,bj,aq⟩:=hR.hr.ob l _ ak;obtain rfl:b=b':=by simp_all
     obtain ⟨h1,h2,h3⟩:=Rs a5;have au:∀ j,j<ti.size->off+j<vs.size:=fun j hj=>by
      grind
     refine ⟨_,JV ho hv (GE az hs (vs:=(List.range ti.size).map fun j=>vs.getD (off+j) undef) QoY fun j v hv=>?_),?_⟩
     ·simp only [Qpg,Qpb] at hv;obtain ⟨j',bm,rfl⟩:=hv;obtain ⟨ba,he⟩:=Qp6.1 bm;simp at ba he;subst he;rw [G4,J8 hw];exact Hx (au j ba)
     ·refine .ag _ _ (by simp [h1]) fun i y hy=>?_
      have hi:i<ti.size:=by
       obtain ⟨h6,_⟩:=Qp6.1 hy;omega
      rw [Fd (v:=vs.getD (off+i) undef) (by simp [hi])];exact (aq (off+i) y ((h2 i hi).trans hy)).any_tm (h3 i y hy)
    ·cases h
   |false=>
    simp only [hs,cond_false] at h;split at h
    ·rename_i c hc;obtain ⟨v,a4,a6,bi⟩:=CT h;refine ⟨_,a4,fun hg=>Qk fun β S st a w hR hO hA=>?_⟩;obtain ⟨b,hb,hv⟩:=(ar▸hO.at aj).ptr_inv;have ak:look st.h l=some (.box cells):=by rw [hA l (.inl QoY)];exact aw
     obtain ⟨b',ty,vs,fz,ao,hw,_,bj,aq⟩:=hR.hr.ob l _ ak;obtain rfl:b=b':=by rw [hb] at ao;injection ao
     have au:off<vs.size:=by
      obtain ⟨h6,_⟩:=Qp6.1 hc;omega
     refine ⟨_,JV ho hv (Gu az hs (by rw [J8 hw];exact Hx au)),?_⟩;rw [a6 hg];exact (aq off c hc).any_tm bi
    ·cases h
  ·cases h
 ·-- a row of data
  rename_i row off ar;cases hs:Va ti.kd with
  |true=>
   simp only [hs,Qpa] at h;obtain ⟨cs,hk,a3,a5⟩:=L4 h;refine ⟨_,hk,fun hg=>Qk fun β S st a w hR hO hA=>?_⟩;obtain ⟨ad,c,hv,_,hc,hr⟩:=(ar▸hO.at aj).el_inv;obtain ⟨vs,h1,h2,h3⟩:=Q3A hc hr a3 (a5 hg);exact ⟨_,JV ho hv (GE az hs h1 h2),Q9l QoW h3⟩
  |false=>
   simp only [hs,cond_false] at h;obtain ⟨c0,h,a7⟩:=QO h;obtain ⟨v,a4,a6,_⟩:=CT h;refine ⟨_,a4,fun hg=>Qk fun β S st a w hR hO hA=>?_⟩;obtain ⟨ad,c,hv,_,hc,hr⟩:=(ar▸hO.at aj).el_inv;refine ⟨_,JV ho hv (Gu az hs (v:=c 0) ?_),?_⟩
   ·have:=hc 0 c0 (a7 hg);simpa [Addr.add] using this
   ·rw [a6 hg];exact .d _ _ (hr 0 c0 (a7 hg))
 ·-- an array of the call's own
  rename_i l i off ar;split at h
  ·rename_i e s rows a8;obtain ⟨row,h,a9⟩:=QO h;cases hs:Va ti.kd with
   |true=>
    simp only [hs,Qpa] at h;obtain ⟨cs,hk,a3,a5⟩:=L4 h;refine ⟨_,hk,fun hg=>Qk fun β S st a w hR hO hA=>?_⟩;have ak:look st.h l=some (.arr e s rows):=by rw [hA l (.inl QoY)];exact a8
    obtain ⟨b,hb,hv⟩:=RdA.ap_inv ak (ar▸hO.at aj);have ac:=a9 hg;rcases hR.hr.ob l _ ak with ⟨_,hn⟩ | ⟨b',vs,ao,hw,_,bl,aq⟩
    ·subst hn;simp at ac
    obtain rfl:b=b':=by rw [hb] at ao;injection ao
    obtain ⟨bo,h1,h2,h3⟩:=Q3A (S:=S) (w:=w) (ad:=⟨b,i*s+off,none⟩) (row:=row) (off:=off) (c:=fun j=>vs.getD (i*s+(off+j)) undef)
     (fun j x hx=>by
      obtain ⟨v,bg,_⟩:=aq i (off+j) row x ac hx;rw [G4,J8 hw,QpA];obtain ⟨au,_⟩:=Qpk.1 bg;exact Hx au)
     (fun j x hx=>by
      obtain ⟨v,bg,bb⟩:=aq i (off+j) row x ac hx;obtain ⟨au,he⟩:=Qpk.1 bg;have:vs.getD (i*s+(off+j)) undef=v:=by simp [Array.getD,au,he]
      rw [this];exact bb) a3 (a5 hg)
    exact ⟨_,JV ho hv (GE az hs h1 h2),Q9l QoW h3⟩
   |false=>
    simp only [hs,cond_false] at h;obtain ⟨c0,h,a7⟩:=QO h;obtain ⟨v,a4,a6,_⟩:=CT h;refine ⟨_,a4,fun hg=>Qk fun β S st a w hR hO hA=>?_⟩;have ak:look st.h l=some (.arr e s rows):=by rw [hA l (.inl QoY)];exact a8
    obtain ⟨b,hb,hv⟩:=RdA.ap_inv ak (ar▸hO.at aj);have ac:=a9 hg;rcases hR.hr.ob l _ ak with ⟨_,hn⟩ | ⟨b',vs,ao,hw,_,bl,aq⟩
    ·subst hn;simp at ac
    obtain rfl:b=b':=by rw [hb] at ao;injection ao
    obtain ⟨u,hu,bb⟩:=aq i off row c0 ac (a7 hg);refine ⟨_,JV ho hv (Gu az hs (v:=u) ?_),?_⟩
    ·rw [J8 hw];exact hu
    ·rw [a6 hg];exact .d _ _ bb
  ·cases h
 ·cases h
end
end Go.Vx
namespace Go.Vx
variable {hl:Nat->oP Ob} {ev:Operand->AV} {w:World} {o:Oper} {tt:TT} {t:TypeId} {x:Operand}
section
variable {P:Program} {E:Env} {R:Type}
theorem Q3G (ho:o.op = .move x\/o.op = .assign x):GC P E o ev hl ⟨ev x,[],[]⟩:=by
 refine Qk fun β S st a w hR hO hA=>⟨a.eval x,?_,hO.at (by grind [Op.operands])⟩
 unfold execOp;rcases ho with ho | ho <;> rw [ho] <;> simp
theorem Nm (ho:o.op = .nilCheck x) {a:Act} {ad:Addr} (ac:a.eval x = .pointer (some ad)) :
  (execOp a.eval o).run P w = .ok (.value (.pointer (some ad))) w:=by
 simp_all [execOp]
theorem Es (ho:o.op = .nilCheck x) {l f:Nat} (hv:ev x = .ptr l f):GC P E o ev hl ⟨.ptr l f,[],[]⟩:=by
 refine Qk fun β S st a w hR hO hA=>?_
 have hx:=hv▸hO.at (x:=x) (by grind [Op.operands]);obtain ⟨b,_,h⟩:=hx.ptr_inv
 grind [Nm]
theorem C2 (ho:o.op = .nilCheck x) {l:List D} {f:Nat} (hv:ev x = .el l f):GC P E o ev hl ⟨.el l f,[],[]⟩:=by
 refine Qk fun β S st a w hR hO hA=>?_
 have hx:=hv▸hO.at (x:=x) (by grind [Op.operands]);obtain ⟨b,_,h,_⟩:=hx.el_inv
 grind [Nm]
theorem RdA.ap_ptr {β:Nat->oP Nat} {S:Nat->Prop} {h:Nat->oP Ob} {tm:Nat->Value} {v:Value} {l i off:Nat} (hh:(h l).isSome=true) (hv:RdA β S h w tm v (.ap l i off)):∃ ad,v = .pointer (some ad):=by
 cases hv with
 |ap _ _ _ b e s rows hb hh=>simp_all
 |dang _ _ l' hl hn _=>grind [Sz]
theorem Ck (ho:o.op = .nilCheck x) {l i f:Nat} (hs:(hl l).isSome=true) (hv:ev x = .ap l i f):GC P E o ev hl ⟨.ap l i f,[],[l]⟩:=by
 refine Qk fun β S st a w hR hO hA=>?_
 have hx:=hv▸hO.at (x:=x) (by grind [Op.operands]);obtain ⟨ad,h⟩:=hx.ap_ptr (by rw [hA l (.inl QoY)];exact hs)
 grind [Nm]
theorem Q9g {op:UnOp} (ho:o.op = .unOp op t x) {a:Act} {u v:Value} (hx:a.eval x=u) (h:(Op.unary op u).run P w = .ok v w) :
  (execOp a.eval o).run P w = .ok (.value v) w:=by
 simp_all [execOp]
theorem QeR {op:UnOp} (ho:o.op = .unOp op t x) {v:AV} (h:vUn op (ev x)=some v) :
  GC P E o ev hl ⟨v,[],[]⟩:=by
 refine Qk fun β S st a w hR hO hA=>?_
 have hx:=hO.at (x:=x) (by grind [Op.operands]);unfold vUn at h;split at h
 ·rename_i b hb;cases h;rw [hb] at hx;exact ⟨.bool (!b),Q9g ho hx.bool_inv (by rfl),.d _ _ (.bool _)⟩
 ·rename_i k n hb;cases h;rw [hb] at hx;exact ⟨.int k (k.wrap (0-n)),Q9g ho hx.int_inv (by rfl),.d _ _ (.int _ _)⟩
 ·rename_i k n hb;cases h;rw [hb] at hx;exact ⟨.int k (QfM k n),Q9g ho hx.int_inv (by rfl),.d _ _ (.int _ _)⟩
 ·cases h
theorem N7 (op:BinOp) (t:TypeId) (x y:Operand) (k k':IntKind) (a b:Int) (w:World):(eqGuard op t x y (.int k a) (.int k' b)).run P w = .ok () w:=by
 simp [eqGuard]
theorem RE (op:BinOp) (t:TypeId) (x y:Operand) (a b:Bool) (w:World):(eqGuard op t x y (.bool a) (.bool b)).run P w = .ok () w:=by
 simp [eqGuard]
theorem EZ {op:BinOp} {t t':TypeId} {x y:Operand} (ho:o.op = .binOp op t x y t') {a:Act} {u u' v:Value} (hx:a.eval x=u) (hy:a.eval y=u')
  (hg:(eqGuard op t x y u u').run P w = .ok () w) (h:(binOp op t u u').run P w = .ok v w) :
  (execOp a.eval o).run P w = .ok (.value v) w:=by
 simp_all [execOp]
theorem RQ (d:Nat) (hu:P.underlying t=some .bool) (a b:Bool) (w:World):(Op.equalIn (d+1) t (.bool a) (.bool b)).run P w = .ok (a == b) w:=by
 simp_all [Op.equalIn,Qp9,QA,Qp5]
theorem Q3i (hu:P.underlying t=some .bool) (a b:Bool) (w:World):(binOp .eql t (.bool a) (.bool b)).run P w = .ok (.bool (a == b)) w:=by
 simp_all [binOp,Op.equal,Op.maxDepth,Qp9,RQ,Qp5]
theorem Q4y (hu:P.underlying t=some .bool) (a b:Bool) (w:World):(binOp .neq t (.bool a) (.bool b)).run P w = .ok (.bool (!(a == b))) w:=by
 simp_all [binOp,Op.equal,Op.maxDepth,Qp9,RQ,Qp5]
theorem RdA.gd_inv {β:Nat->oP Nat} {S:Nat->Prop} {h:Nat->oP Ob} {tm:Nat->Value} {v:Value} {t:Nat} {b:Bool} {av:AV} (hv:RdA β S h w tm v (.gd t b av)) :
  (tm t = .bool b/\RdA β S h w tm v av)\/(tm t≠.bool b/\v=undef):=by
 cases hv with
 |gdT _ _ _ _ ht hv=>simp_all
 |gdF _ _ _ ht=>simp_all
 |dang _ _ l hl _ _=>trivial
def dv:D->Value
 |.int k n=>.int k n
 |.bool b=>.bool b
 |_=>undef
theorem Q88 {op:BinOp} {k:IntKind} {a b:Int} {d:D} (h:Q6L op k a b=some d) (t:TypeId) (w:World) (S:Nat->Prop):∃ v,(binOp op t (.int k a) (.int k b)).run P w = .ok v w/\Rd S w v d:=by
 refine ⟨dv d,?_,?_⟩
 ·cases op <;> simp only [Q6L,Option.some.injEq,reduceCtorEq] at h <;> subst h <;> simp [binOp,Op.intArith,Op.intCmp,dv]
 ·cases op <;> simp only [Q6L,Option.some.injEq,reduceCtorEq] at h <;> subst h <;> first | exact .int _ _ | exact .bool _
theorem Xu {t:Nat} {kd:Kd} (h:P5 tt t=kd) (hn:kd≠.other):∃ ti,look tt t=some ti/\ti.kd=kd:=by
 grind [P5,absurd]
theorem Bi (op:BinOp) (t:TypeId) (x y:Operand) (a b:ByteArray) (w:World):(eqGuard op t x y (.string a) (.string b)).run P w = .ok () w:=by
 simp [eqGuard]
theorem Q79:∀ (l:List Bool),Qb5 l=l.all id
 |[]=>rfl
 |[b]=>by simp [Qb5]
 |b::c::r=>by rw [show Qb5 (b::c::r)=(b&&Qb5 (c::r)) from rfl,Q79 (c::r)];simp
theorem BE {g:Bool}:∀ {ks:List Kd} {xs ys:List AV} {k:List Bool->oP R} {r:R},Q4D g ks xs ys k=some r->∃ bs,k bs=some r/\bs.length=ks.length/\xs.length=ks.length/\ys.length=ks.length /\
  (g=true->∀ (β:Nat->oP Nat) (S:Nat->Prop) (h:Nat->oP Ob) (w:World) (tm:Nat->Value) (us vs:Nat->Value),(∀ (i:Nat) (x:AV),xs[i]? = some x->RdA β S h w tm (us i) x)->(∀ (i:Nat) (x:AV),ys[i]? = some x->RdA β S h w tm (vs i) x) ->
   ∀ (j:Nat) (kd:Kd) (b:Bool),ks[j]? = some kd->bs[j]? = some b->CEq kd (us j) (vs j) b)
 |[],[],[],k,r,h=>⟨[],h,rfl,rfl,rfl,fun _ _ _ _ _ _ _ _ _ _ j kd b hj=>by simp at hj⟩
 |kd::ks,x::xs,y::ys,k,r,h=>by
  cases x with
  |d a=>
   cases y with
   |d b=>
    have ao:∀ (c:Bool),Q4D g ks xs ys (fun r=>k (c::r))=some r->(g=true->∀ (β:Nat->oP Nat) (S:Nat->Prop) (h:Nat->oP Ob) (w:World) (tm:Nat->Value) (u v:Value),RdA β S h w tm u (.d a)->RdA β S h w tm v (.d b)->CEq kd u v c) ->
      ∃ bs,k bs=some r/\bs.length=(kd::ks).length/\(AV.d a::xs).length=(kd::ks).length/\(AV.d b::ys).length=(kd::ks).length /\
      (g=true->∀ (β:Nat->oP Nat) (S:Nat->Prop) (h:Nat->oP Ob) (w:World) (tm:Nat->Value) (us vs:Nat->Value),(∀ (i:Nat) (x:AV),(AV.d a::xs)[i]? = some x->RdA β S h w tm (us i) x)->(∀ (i:Nat) (x:AV),(AV.d b::ys)[i]? = some x->RdA β S h w tm (vs i) x) ->
       ∀ (j:Nat) (an:Kd) (b:Bool),(kd::ks)[j]? = some an->bs[j]? = some b->CEq an (us j) (vs j) b):=by
     intro c hc hq;obtain ⟨bs,h1,h2,h3,h4,h5⟩:=BE hc;refine ⟨c::bs,h1,by simp [h2],by simp [h3],by simp [h4],fun hg β S hh w tm us vs hu hv j an b' hj hb=>?_⟩;cases j with
     |zero=>simp at hj hb;subst hj hb;exact hq hg β S hh w tm _ _ (hu 0 _ rfl) (hv 0 _ rfl)
     |succ j=>exact h5 hg β S hh w tm (fun i=>us (i+1)) (fun i=>vs (i+1)) (fun i x hx=>hu (i+1) x Qp2) (fun i x hx=>hv (i+1) x (by simpa using hx)) j an b' (by simpa using hj) (by simpa using hb)
    cases kd with
    |int ik=>
     simp only [Q4D] at h;obtain ⟨m,h,hm⟩:=QO h;obtain ⟨n,h,hn⟩:=QO h;refine ao _ h fun hg β S hh w tm u v hu hv=>?_
     rw [Fu (hm hg)] at hu;rw [Fu (hn hg)] at hv;exact ⟨m,n,hu.int_inv,hv.int_inv,rfl⟩
    |bool=>
     simp only [Q4D] at h;obtain ⟨m,h,hm⟩:=QO h;obtain ⟨n,h,hn⟩:=QO h;refine ao _ h fun hg β S hh w tm u v hu hv=>?_
     rw [Mm (hm hg)] at hu;rw [Mm (hn hg)] at hv;exact ⟨m,n,hu.bool_inv,hv.bool_inv,rfl⟩
    |str=>
     simp only [Q4D] at h;obtain ⟨m,h,hm⟩:=QO h;obtain ⟨n,h,hn⟩:=QO h;refine ao _ h fun hg β S hh w tm u v hu hv=>?_
     rw [Fg (hm hg)] at hu;rw [Fg (hn hg)] at hv;obtain ⟨s,rfl,rfl⟩:=hu.str_inv;obtain ⟨t,rfl,rfl⟩:=hv.str_inv;exact ⟨s,t,rfl,rfl,rfl⟩
    |_=>simp [Q4D] at h
   |_=>simp [Q4D] at h
  |_=>simp [Q4D] at h
 |[],[],_::_,k,r,h=>by simp [Q4D] at h
 |[],_::_,_,k,r,h=>by simp [Q4D] at h
 |_::_,[],_,k,r,h=>by simp [Q4D] at h
 |_::_,_::_,[],k,r,h=>by simp [Q4D] at h
theorem Qb0 {op:BinOp} {t t':TypeId} {x y:Operand} (ho:o.op = .binOp op t x y t') {g:Bool} {k:Dl->oP R} {r:R} {a0 b0:List UInt8} (ar:ev x = .d (.str a0)) (an:ev y = .d (.str b0))
  (h:Qil g op a0 b0 (fun v=>k ⟨v,[],[]⟩)=some r):∃ dl,k dl=some r/\(g=true->GC P E o ev hl dl):=by
 have aq:x∈o.op.operands.toList:=by grind [Op.operands]
 have ao:y∈o.op.operands.toList:=by simp [ho,Op.operands]
 have ac:∀ (d:D) (v:ByteArray->ByteArray->Value),k ⟨.d d,[],[]⟩=some r->(g=true->∀ (s u:ByteArray) (w:World) (S:Nat->Prop),s.data.toList=a0->u.data.toList=b0->(Op.stringOp op s u).run P w = .ok (v s u) w/\Rd S w (v s u) d)->∃ dl,k dl=some r/\(g=true->GC P E o ev hl dl):=by
  intro d v hk hr;refine ⟨_,hk,fun hg=>Qk fun β S st a w hR hO hA=>?_⟩;obtain ⟨s,hs,hx⟩:=(ar▸hO.at aq).str_inv;obtain ⟨u,hu,hy⟩:=(an▸hO.at ao).str_inv;obtain ⟨h1,h2⟩:=hr hg s u w S hs.symm hu.symm;refine ⟨_,EZ ho hx hy (Bi ..) ?_,.d _ _ h2⟩
  grind [binOp,Op.stringOp]
 cases op <;> simp only [Qil,reduceCtorEq] at h
 ·obtain ⟨_,h,hp⟩:=QO h;refine ac _ (fun s u=>.string (s++u)) h fun hg s u w S hs hu=>⟨?_,?_⟩
  ·have hp:=hp hg;unfold Q9I at hp;cases hb:Nat.ble (a0.length+b0.length) 9223372036854775807 with
   |false=>simp_all
   |true=>
    have:=Qph hb;refine run_string_add_sum w s u ?_;rw [<- hs,<- hu,Qpj,Qpj] at this;exact this
  ·have:(s++u).data.toList=a0++b0:=by simp_all
   rw [<- this];exact .str _
 ·exact ac _ (fun s u=>.bool (s.toList == u.toList)) h fun hg s u w S hs hu=>⟨by rfl,by rw [Qpd,Qpd,hs,hu];exact .bool _⟩
 ·exact ac _ (fun s u=>.bool (!(s.toList == u.toList))) h fun hg s u w S hs hu=>⟨by simp [Op.stringOp],by rw [Qpd,Qpd,hs,hu];exact .bool _⟩
 ·exact ac _ (fun s u=>.bool (Op.bytesLess s.toList u.toList)) h fun hg s u w S hs hu=>⟨by simp [Op.stringOp],by rw [Qpd,Qpd,hs,hu];exact .bool _⟩
 ·exact ac _ (fun s u=>.bool (Op.bytesLess s.toList u.toList||s.toList == u.toList)) h fun hg s u w S hs hu=>⟨by simp [Op.stringOp],by rw [Qpd,Qpd,hs,hu];exact .bool _⟩
 ·exact ac _ (fun s u=>.bool (!(Op.bytesLess s.toList u.toList||s.toList == u.toList))) h fun hg s u w S hs hu=>⟨by simp [Op.stringOp],by rw [Qpd,Qpd,hs,hu];exact .bool _⟩
 ·exact ac _ (fun s u=>.bool (!Op.bytesLess s.toList u.toList)) h fun hg s u w S hs hu=>⟨by simp [Op.stringOp],by rw [Qpd,Qpd,hs,hu];exact .bool _⟩
theorem Qbq (hT:TOk P tt) {op:BinOp} {t t':TypeId} {x y:Operand} (ho:o.op = .binOp op t x y t') {g:Bool} {k:Dl->oP R} {r:R}
  (h:QiU g op (P5 tt t) (Qe1 tt t) (ev x) (ev y) (fun v=>k ⟨v,[],[]⟩)=some r):∃ dl,k dl=some r/\(g=true->GC P E o ev hl dl):=by
 have au:x∈o.op.operands.toList:=by grind [Op.operands]
 have ar:y∈o.op.operands.toList:=by simp [ho,Op.operands]
 unfold QiU at h;split at h
 ·rename_i ka a0 kb b0 aj ac;have an:∀ (d:Int),k ⟨.d (.int ka d),[],[]⟩=some r->(g=true->∀ w:World,(binOp op t (.int ka a0) (.int kb b0)).run P w = .ok (.int ka d) w)->∃ dl,k dl=some r/\(g=true->GC P E o ev hl dl):=by
   intro d hk hr;refine ⟨_,hk,fun hg=>Qk fun β S st a w hR hO hA=>?_⟩;have hx:=(aj▸hO.at au).int_inv;have hy:=(ac▸hO.at ar).int_inv;exact ⟨_,EZ ho hx hy (N7 ..) (hr hg w),.d _ _ (.int _ _)⟩
  have a9:∀ {u:Unit},BR b0=some u->0<=b0:=by
   grind [BR]
  split at h
  ·obtain ⟨_,h,hp⟩:=QO h;refine an _ h fun hg w=>?_
   have h0:=a9 (hp hg);have:¬ b0<0:=QoW
   simp [binOp,Op.shift,this,shL]
  ·obtain ⟨_,h,hp⟩:=QO h;refine an _ h fun hg w=>?_
   have h0:=a9 (hp hg);have:¬ b0<0:=QoW
   simp [binOp,Op.shift,this,shR]
  ·rename_i bp bk;cases hk:(ka == kb) with
   |false=>simp [hk] at h
   |true=>
    obtain rfl:ka=kb:=by simpa using hk
    simp only [hk,Qpa] at h;split at h
    ·obtain ⟨_,h,hp⟩:=QO h;refine an _ h fun hg w=>?_
     have a3:¬ b0=0:=by
      intro e;subst e;simp [nz] at hp;exact absurd hp (by simp [hg])
     simp [binOp,Op.intDiv,a3]
    ·obtain ⟨_,h,hp⟩:=QO h;refine an _ h fun hg w=>?_
     have a3:¬ b0=0:=by
      intro e;subst e;simp [nz] at hp;exact absurd hp (by simp [hg])
     simp [binOp,Op.intDiv,a3]
    ·exact an _ h fun hg w=>by simp [binOp,Op.intBits,Q6T]
    ·exact an _ h fun hg w=>by simp [binOp,Op.intBits,bOr]
    ·exact an _ h fun hg w=>by simp [binOp,Op.intBits,Qi4]
    ·exact an _ h fun hg w=>by simp [binOp,Op.intBits,Q8u]
    ·split at h
     ·rename_i d hd;refine ⟨_,h,fun hg=>Qk fun β S st a w hR hO hA=>?_⟩;have hx:=(aj▸hO.at au).int_inv;have hy:=(ac▸hO.at ar).int_inv;obtain ⟨v,hv,hr⟩:=Q88 (P:=P) hd t w S;exact ⟨v,EZ ho hx hy (N7 ..) hv,.d _ _ hr⟩
     ·cases h
 ·rename_i a0 b0 aj ac;split at h
  ·rename_i a2;obtain ⟨ti,ao,aw⟩:=Xu a2 QoY;have hu:=(hT t ti ao).kbool aw;refine ⟨_,h,fun hg=>Qk fun β S st a w hR hO hA=>?_⟩;have hx:=(aj▸hO.at au).bool_inv;have hy:=(ac▸hO.at ar).bool_inv;exact ⟨.bool (a0 == b0),EZ ho hx hy (RE ..) (Q3i hu ..),.d _ _ (.bool _)⟩
  ·rename_i a2;obtain ⟨ti,ao,aw⟩:=Xu a2 QoY;have hu:=(hT t ti ao).kbool aw;refine ⟨_,h,fun hg=>Qk fun β S st a w hR hO hA=>?_⟩;have hx:=(aj▸hO.at au).bool_inv;have hy:=(ac▸hO.at ar).bool_inv;exact ⟨.bool (!(a0 == b0)),EZ ho hx hy (RE ..) (Q4y hu ..),.d _ _ (.bool _)⟩
  ·cases h
 ·rename_i a0 b0 aj ac;exact Qb0 ho aj ac h
 ·rename_i xs ys aj ac;split at h
  case h_2=>cases h
  rename_i ks az;obtain ⟨ti,ao,bc⟩:∃ ti,look tt t=some ti/\ti.eqk=some ks:=by
   unfold Qe1 at az;split at az
   ·rename_i ti ao;exact ⟨ti,ao,az⟩
   ·cases az
  have hE:=(hT t ti ao).keq ks bc;have a8:∀ (c:Bool->Bool) (bs:List Bool),k ⟨.d (.bool (c (Qb5 bs))),[],[]⟩=some r->bs.length=ks.length->xs.length=ks.length->ys.length=ks.length ->
    (∀ (u v:Array Value) (w:World) (b:Bool),(Op.equalIn 10000 t (.agg u) (.agg v)).run P w = .ok b w->(binOp op t (.agg u) (.agg v)).run P w = .ok (.bool (c b)) w) ->
    (g=true->∀ (β:Nat->oP Nat) (S:Nat->Prop) (h:Nat->oP Ob) (w:World) (tm:Nat->Value) (us vs:Nat->Value),(∀ (i:Nat) (x:AV),xs[i]? = some x->RdA β S h w tm (us i) x)->(∀ (i:Nat) (x:AV),ys[i]? = some x->RdA β S h w tm (vs i) x) ->
     ∀ (j:Nat) (kd:Kd) (b:Bool),ks[j]? = some kd->bs[j]? = some b->CEq kd (us j) (vs j) b)->∃ dl,k dl=some r/\(g=true->GC P E o ev hl dl):=by
   intro c bs hk h2 h3 h4 a7 h5;refine ⟨_,hk,fun hg=>Qk fun β S st a w hR hO hA=>?_⟩;obtain ⟨us,hx,br,bh⟩:=(aj▸hO.at au).ag_inv;obtain ⟨vs,hy,bn,bb⟩:=(ac▸hO.at ar).ag_inv;obtain ⟨e1,e2⟩:=hE w us vs bs QoW QoW h2 (h5 hg β S _ w _ (fun j=>us.getD j undef) (fun j=>vs.getD j undef) bh bb);refine ⟨.bool (c (Qb5 bs)),EZ ho hx hy (run_eqGuard_agg w op t x y us vs e2) ?_,.d _ _ (.bool _)⟩;rw [Q79];exact a7 us vs w _ e1
  split at h
  ·obtain ⟨bs,h1,h2,h3,h4,h5⟩:=BE h;exact a8 (fun b=>b) bs h1 h2 h3 h4 (fun u v w b hb=>by rw [run_eql_struct,hb];rfl) h5
  ·obtain ⟨bs,h1,h2,h3,h4,h5⟩:=BE h;exact a8 (fun b=>!b) bs h1 h2 h3 h4 (fun u v w b hb=>by rw [run_neq_struct,hb];rfl) h5
  ·cases h
 ·cases h
theorem Q4E (hT:TOk P tt) {s t:TypeId} (ho:o.op = .convert s t x) {ks kd kn:IntKind} {n:Int}
  (hs:P5 tt s = .int ks) (ht:P5 tt t = .int kd) (hx:ev x = .d (.int kn n)):GC P E o ev hl ⟨.d (.int kd (kd.wrap n)),[],[]⟩:=by
 obtain ⟨ti,ao,an⟩:=Xu hs QoY;obtain ⟨ak,aj,ac⟩:=Xu ht QoY;have ax:=(hT s ti ao).kint _ an;have aw:=(hT t ak aj).kint _ ac;refine Qk fun β S st a w hR hO hA=>?_
 have hv:=(hx▸hO.at (x:=x) (by simp [ho,Op.operands])).int_inv;refine ⟨_,?_,.d _ _ (.int _ _)⟩
 simp_all [execOp,convert,QA,Conv.intToInt]
theorem Q2n (hT:TOk P tt) {s t:TypeId} (ho:o.op = .convert s t x) {n:List UInt8}
  (hs:P5 tt s = .str) (ht:P5 tt t = .str) (hx:ev x = .d (.str n)):GC P E o ev hl ⟨.d (.str n),[],[]⟩:=by
 obtain ⟨ti,ao,an⟩:=Xu hs QoY;obtain ⟨ak,aj,ac⟩:=Xu ht QoY;have au:=(hT s ti ao).kstr an;have ar:=(hT t ak aj).kstr ac;refine Qk fun β S st a w hR hO hA=>?_
 obtain ⟨bs,hn,hv⟩:=(hx▸hO.at (x:=x) (by simp [ho,Op.operands])).str_inv;refine ⟨.string bs,?_,.d _ _ (by rw [hn];exact .str _)⟩
 simp_all [execOp,convert,QA]
theorem Q3D {i:Nat} (ho:o.op = .extract x i) {l:List AV} {v:AV} (hx:ev x = .tup l) (hv:l[i]? = some v) :
  GC P E o ev hl ⟨v,[],[]⟩:=by
 refine Qk fun β S st a w hR hO hA=>?_
 obtain ⟨cs,he,ak,hr⟩:=(hx▸hO.at (x:=x) (by grind [Op.operands])).tup_inv;refine ⟨_,?_,hr i v hv⟩;have ac:i<cs.size:=by
  grind
 simp_all [Hx,execOp,Instr.extract,Qp9]
theorem Q8C {s:Nat} {x y:Operand} (ho:o.op = .pick (.tmp s) x y) {e a0 b0:Bool}
  (he:ev (.tmp s) = .d (.bool e)) (hx:unw [(s,true)] (ev x) = .d (.bool a0)) (hy:unw [(s,false)] (ev y) = .d (.bool b0)) :
  GC P E o ev hl ⟨.d (.bool (bif e then a0 else b0)),[],[]⟩:=by
 refine Qk fun β S st a w hR hO hA=>?_
 have hc:=(he▸hO.at (x:=.tmp s) (by grind [Op.operands])).bool_inv;have hX:=hO.at (x:=x) (by simp [ho,Op.operands]);have hY:=hO.at (x:=y) (by simp [ho,Op.operands]);have aj:∀ (z:Operand) (t c:Bool),unw [(s,t)] (ev z) = .d (.bool c)->RdA β S (look st.h) w (tmv a) (a.eval z) (ev z)->e=t->a.eval z = .bool c:=by
  intro z t c hu hz ax;cases ac:ev z with
  |gd s' w' av=>
   rw [ac] at hu hz;simp only [unw,Qew,Bool.or_false] at hu;cases hm:(Nat.beq s s'&&(t == w')) with
   |false=>simp_all
   |true=>
    simp only [hm,Qpa] at hu;simp only [Qp7,beq_iff_eq] at hm;obtain ⟨h1,rfl⟩:=hm;obtain rfl:=Qp8 h1;subst hu;have a2:tmv a s = .bool t:=by
     have:tmv a s=a.eval (.tmp s):=rfl
     simp_all
    rcases hz.gd_inv with ⟨_,hv⟩ | ⟨aq,_⟩
    ·exact hv.bool_inv
    simp_all
  |d x'=>rw [ac] at hu hz;simp only [unw] at hu;rw [hu] at hz;exact hz.bool_inv
  |_=>rw [ac] at hu;simp [unw] at hu
 refine ⟨.bool (bif e then a0 else b0),?_,.d _ _ (.bool _)⟩;unfold execOp;rw [ho];cases e with
 |true=>simp [hc,asBool,aj x true a0 hx hX rfl]
 |false=>simp [hc,asBool,aj y false b0 hy hY rfl]
theorem Q8P {kd:Kd} (h:Re kd=true):kd = .struct:=by cases kd <;> simp [Re] at h;rfl
theorem Q6c (hT:TOk P tt) {t f off ft:Nat} {ti:TyI} (aj:look tt t=some ti) (hs:Re ti.kd=true) (hf:ti.fields[f]? = some (off,ft)) :
  ∃ fs fd,P.underlying t=some (.struct fs)/\fs[f]? = some fd/\fd.offset=off/\fd.type=ft/\∃ i,P.info? fd.type=some i/\i.size≠0:=by
 obtain ⟨fs,hu,ak,ao⟩:=(hT t ti aj).kstruct (Q8P hs);rw [<- ak,Qpg,Qpb] at hf;obtain ⟨fd,an,he⟩:=hf;injection he with he1 he2
 exact ⟨fs,fd,hu,by simp_all,he1,he2,ao fd (Qpe an)⟩
theorem AX (hT:TOk P tt) {f:Nat} (ho:o.op = .fieldAddr t x f) {k:Dl->oP R} {r:R}
  (h:D9 tt hl t f (ev x) k=some r):∃ dl,k dl=some r/\GC P E o ev hl dl:=by
 have ak:x∈o.op.operands.toList:=by grind [Op.operands]
 unfold D9 at h;split at h
 case h_2=>cases h
 rename_i ti ar;cases hs:Re ti.kd with
 |false=>simp_all
 |true=>
  simp only [hs,Qpa] at h;split at h
  case h_2=>cases h
  rename_i off ft hf;obtain ⟨fs,fd,hu,az,au,_,i,hi,aw⟩:=Q6c hT ar hs hf;have aj:∀ (a:Act) (w:World) (ad:Addr),a.eval x = .pointer (some ad)->(execOp a.eval o).run P w = .ok (.value (.pointer (some (ad.add off)))) w:=by
   simp_all [execOp,Instr.fieldAt,QA,Instr.sureAddr,fieldPlace,sizeOf,Yi]
  split at h
  ·rename_i l o' ac;refine ⟨_,h,Qk fun β S st a w hR hO hA=>?_⟩;obtain ⟨b,hb,hx⟩:=(ac▸hO.at ak).ptr_inv;exact ⟨_,aj a w _ hx,by rw [G4];exact .ptr _ _ _ hb⟩
  ·rename_i row o' ac;refine ⟨_,h,Qk fun β S st a w hR hO hA=>?_⟩;obtain ⟨ad,c,hx,hS,hc,hr⟩:=(ac▸hO.at ak).el_inv;refine ⟨_,aj a w _ hx,.el _ _ _ (fun j=>c (off+j)) (by rw [Jx];exact hS) (fun j y hy=>?_) (fun j y hy=>?_)⟩
   all_goals grind [Bh,Nat.add_assoc]
  ·rename_i l i' o' ac;split at h
   ·rename_i e s rows ao;refine ⟨_,h,Qk fun β S st a w hR hO hA=>?_⟩;have aq:look st.h l=some (.arr e s rows):=by rw [hA l (.inl QoY)];exact ao
    obtain ⟨b,hb,hx⟩:=RdA.ap_inv aq (ac▸hO.at ak);exact ⟨_,aj a w _ hx,by rw [G4,QpA];exact .ap _ _ _ _ _ _ _ hb aq⟩
   ·cases h
  ·cases h
theorem Q2S {t:Nat} {ti:TyI} (ht:TyOk P t ti) (hs:Va ti.kd=false) {cs:Array Value} {off:Nat} {v:Value} (hc:cs[off]? = some v) :
  (part t cs off).run P w = .ok v w:=by
 simp only [part,Qp9,ht.agg,hs,Qp5,Bool.false_eq_true,if_false,hc];rfl
theorem Q2V {t:Nat} {ti:TyI} (ht:TyOk P t ti) (hs:Va ti.kd=true) {cs:Array Value} {off:Nat} :
  (part t cs off).run P w = .ok (.agg (cs.extract off (off+ti.size))) w:=by
 simp only [part,Qp9,ht.agg,hs,Qp5,if_true,ht.size];rfl
theorem Q7Y (hT:TOk P tt) {f:Nat} (ho:o.op = .field t x f) {g:Bool} {k:Dl->oP R} {r:R}
  (h:Qar tt g t f (ev x) k=some r):∃ dl,k dl=some r/\(g=true->GC P E o ev hl dl):=by
 have ao:x∈o.op.operands.toList:=by grind [Op.operands]
 unfold Qar at h;split at h
 case h_2=>cases h
 rename_i ti a3;cases hs:Re ti.kd with
 |false=>simp_all
 |true=>
  simp only [hs,Qpa] at h;split at h
  case h_2=>cases h
  rename_i off ft hf;obtain ⟨fs,fd,hu,bj,ba,bi,i,hi,bb⟩:=Q6c hT a3 hs hf;split at h
  case h_2=>cases h
  rename_i fi a5;have ak:=hT ft fi a5;split at h
  case h_2=>cases h
  rename_i cells ar;have an:∀ (a:Act) (w:World) (cs:Array Value) (v:Value),a.eval x = .agg cs->(part ft cs off).run P w = .ok v w->(execOp a.eval o).run P w = .ok (.value v) w:=by
   simp_all [execOp,Instr.field,QA,asAgg]
  cases aj:Va fi.kd with
  |true=>
   simp only [aj,Qpa] at h;split at h
   ·rename_i cs a4;refine ⟨_,h,fun _=>Qk fun β S st a w hR hO hA=>?_⟩;obtain ⟨vs,hx,az,hr⟩:=(ar▸hO.at ao).ag_inv;obtain ⟨h1,h2,h3⟩:=Rs a4;refine ⟨_,an a w vs _ hx (Q2V ak aj),?_⟩;have aw:fi.size=0\/off+fi.size<=vs.size:=by
     rcases Nat.eq_zero_or_pos fi.size with h0 | h0
     ·exact .inl h0
     ·right;have h4:=h2 (fi.size-1) QoW;have h5:cs[fi.size-1]? = some (cs[fi.size-1]'QoW):=Qpl QoW;rw [h5] at h4;obtain ⟨h6,_⟩:=Qp6.1 h4;omega
    refine .ag _ _ (by rw [h1,Array.size_extract];rcases aw with h | h <;> omega) fun j y hy=>?_
    have hj:j<fi.size:=by obtain ⟨h6,_⟩:=Qp6.1 hy;omega
    have:=hr (off+j) y ((h2 j hj).trans hy);have he:(vs.extract off (off+fi.size)).getD j undef=vs.getD (off+j) undef:=by
     have aq:off+j<vs.size:=by rcases aw with h | h <;> omega
     have au:j<(vs.extract off (off+fi.size)).size:=by rw [Array.size_extract];omega
     simp only [Array.getD,aq,au,dite_true];simp
    simp_all
   ·cases h
  |false=>
   simp only [aj,cond_false] at h;split at h
   ·rename_i c hc;obtain ⟨v,a2,ax,_⟩:=CT h;refine ⟨_,a2,fun hg=>Qk fun β S st a w hR hO hA=>?_⟩;obtain ⟨vs,hx,az,hr⟩:=(ar▸hO.at ao).ag_inv;have aq:off<vs.size:=by obtain ⟨h6,_⟩:=Qp6.1 hc;omega
    exact ⟨_,an a w vs _ hx (Q2S ak aj (Hx aq)),by rw [ax hg];exact hr off c hc⟩
   ·cases h
end
end Go.Vx
namespace Go.Vx
variable {w:World} {o:Oper} {a:Act} {tt:TT} {x:Operand}
section
variable {P:Program} {E:Env} {R:Type}
theorem Rd.sl_inv {S:Nat->Prop} {v:Value} {s:Nat} {rows:List (List D)} (h:Rd S w v (.sl s rows)) :
  (rows=[]/\∃ a cap,v = .slice a 0 cap)\/∃ (ad:Addr) (cap:Nat) (c:Nat->Nat->Value),v = .slice (some ad) rows.length cap/\S ad.block/\rows.length<=cap/\(∀ (i:Nat) (r:List D),rows[i]? = some r->r.length=s) /\
   (∀ (i j:Nat) (r:List D) (x:D),rows[i]? = some r->r[j]? = some x->w.cell? (ad.add (i*s+j))=some (c i j))/\∀ (i j:Nat) (r:List D) (x:D),rows[i]? = some r->r[j]? = some x->Rd S w (c i j) x:=by
 cases h with
 |sl0 a cap=>simp_all
 |sl ad cap _ _ c hS ac aj hc hr=>exact .inr ⟨ad,cap,c,rfl,hS,ac,aj,hc,hr⟩
theorem Rd.len {S:Nat->Prop} {v:Value} {s:Nat} {rows:List (List D)} (h:Rd S w v (.sl s rows)):∃ a cap,v = .slice a rows.length cap:=by
 rcases h.sl_inv with ⟨rfl,a,cap,rfl⟩ | ⟨ad,cap,_,rfl,_⟩
 all_goals simp
theorem Eh {rows:List (List D)} {n:Int} {row:List D} (h:Q1 rows n=some row):0<=n/\n<rows.length/\rows[n.toNat]? = some row:=by
 grind [Q1]
theorem Q6O {len:Nat} {n:Int} {u:Unit} (h:inB len n=some u):0<=n/\n<len:=by
 grind [inB,decide]
theorem Eb (hT:TOk P tt) {t:TypeId} {x i:Operand} (ho:o.op = .indexAddr t x i) {e ac:Nat} (hk:P5 tt t = .sl e ac) {ad:Addr} {len cap:Nat} {ik:IntKind} {n:Int}
  (hx:a.eval x = .slice (some ad) len cap) (hi:a.eval i = .int ik n) (h0:0<=n) (h1:n<len) :
  (execOp a.eval o).run P w = .ok (.value (.pointer (some (ad.add (n.toNat*ac))))) w:=by
 obtain ⟨ti,ak,aj⟩:=Xu hk QoY;obtain ⟨hu,_,inf,an,aq⟩:=(hT t ti ak).ksl _ _ aj
 simp_all [execOp,Instr.indexAt,asIntOf,QA,sizeOf,Yi]
theorem AZ (hT:TOk P tt) {t:TypeId} {x i:Operand} (ho:o.op = .indexAddr t x i) {g:Bool} {ev:Operand->AV} {hl:Nat->oP Ob} {k:Dl->oP R} {r:R}
  (h:ET tt g hl t (ev x) (ev i) k=some r):∃ dl,k dl=some r/\(g=true->GC P E o ev hl dl):=by
 have an:x∈o.op.operands.toList:=by grind [Op.operands]
 have ar:i∈o.op.operands.toList:=by simp [ho,Op.operands]
 unfold ET at h;split at h
 case h_2=>cases h
 rename_i e ax ik n hk aw;split at h
 ·rename_i s rows aj;cases hb:Nat.beq s ax with
  |false=>simp_all
  |true=>
   obtain rfl:=Qp8 hb;simp only [hb,Qpa] at h;obtain ⟨row,h,ac⟩:=QO h;refine ⟨_,h,fun hg=>Qk fun β S st a w hR hO hA=>?_⟩;obtain ⟨h0,h1,h2⟩:=Eh (ac hg);have hi:=(aw▸hO.at ar).int_inv;rcases (aj▸hO.at an).d_inv.sl_inv with ⟨rfl,_⟩ | ⟨ad,cap,c,hx,hS,_,a2,hc,hr⟩
   ·simp at h2
   refine ⟨_,Eb hT ho hk hx hi h0 h1,.el _ _ _ (fun j=>c n.toNat j) (by grind [Jx]) (fun j y hy=>?_) (fun j y hy=>?_)⟩
   all_goals grind [Bh]
 ·rename_i l aj;split at h
  ·rename_i e' s rows aq;cases hb:Nat.beq s ax with
   |false=>simp [hb] at h
   |true=>
    obtain rfl:=Qp8 hb;simp only [hb,Qpa] at h;obtain ⟨u,h,ay⟩:=QO h;refine ⟨_,h,fun hg=>Qk fun β S st a w hR hO hA=>?_⟩;obtain ⟨h0,h1⟩:=Q6O (ay hg);have hi:=(aw▸hO.at ar).int_inv;have au:look st.h l=some (.arr e' s rows):=by rw [hA l (.inl QoY)];exact aq
    rcases RdA.arr_inv au (aj▸hO.at an) with ⟨_,rfl,_⟩ | ⟨b,cap,cs,ty,fz,az,hx,_⟩
    ·grind
    refine ⟨_,Eb hT ho hk hx hi h0 h1,?_⟩;rw [G4,Nat.zero_add];exact .ap l n.toNat 0 b e' s rows az au
  ·cases h
 ·obtain ⟨row,h,ac⟩:=QO h;refine ⟨_,h,fun hg=>?_⟩;obtain ⟨_,h1,_⟩:=Eh (ac hg);simp at h1;have:=(Eh (ac hg)).1;omega
 ·cases h
theorem HV (hT:TOk P tt) {c:Call} {t:Nat} {e ak:Nat} (ho:o.op = .call c) (hc:c.callee = .builtin .len) (ha:c.args.toList=[x]) (hat:c.argTypes.toList=[t]) (hk:P5 tt t = .sl e ak)
  {ad:oP Addr} {len cap:Nat} (hx:a.eval x = .slice ad len cap):(execOp a.eval o).run P w = .ok (.value (.int .i64 len)) w:=by
 obtain ⟨ti,aj,ac⟩:=Xu hk QoY;obtain ⟨hu,_⟩:=(hT t ti aj).ksl _ _ ac;have aq:c.args = #[x]:=by grind
 have an:c.argTypes = #[t]:=by rw [<- Array.toList_inj];simpa using hat
 simp_all [execOp,resolve,invoke,builtin,Builtin.len_,QA,goInt]
theorem Q5f (hT:TOk P tt) {c:Call} {t:Nat} (ho:o.op = .call c) (hc:c.callee = .builtin .len) (ha:c.args.toList=[x]) (hat:c.argTypes.toList=[t]) (hk:P5 tt t = .str)
  {s:ByteArray} (hx:a.eval x = .string s):(execOp a.eval o).run P w = .ok (.value (.int .i64 s.size)) w:=by
 obtain ⟨ti,aj,ac⟩:=Xu hk QoY;have hu:=(hT t ti aj).kstr ac;have an:c.args = #[x]:=by grind
 have ak:c.argTypes = #[t]:=by grind
 simp_all [execOp,resolve,invoke,builtin,Builtin.len_,QA,goInt]
theorem Q5p (hT:TOk P tt) {c:Call} {t:Nat} {e ak:Nat} (ho:o.op = .call c) (hc:c.callee = .builtin .cap) (ha:c.args.toList=[x]) (hat:c.argTypes.toList=[t]) (hk:P5 tt t = .sl e ak)
  (hx:a.eval x = .slice none 0 0):(execOp a.eval o).run P w = .ok (.value (.int .i64 0)) w:=by
 obtain ⟨ti,aj,ac⟩:=Xu hk QoY;obtain ⟨hu,_⟩:=(hT t ti aj).ksl _ _ ac;have ao:c.args = #[x]:=by grind
 have an:c.argTypes = #[t]:=by grind
 simp_all [execOp,resolve,invoke,builtin,Builtin.cap_,QA,goInt]
end
end Go.Vx
namespace Go.Vx
section
variable {E:Env} {β β':Nat->oP Nat} {S S':Nat->Prop} {st:St} {a:Act} {w w':World}
theorem Q9f {l t:Nat} {tm:List (Nat×AV)} {av:AV} (h:look tm t=some av) (hn:Zf l av=true):Ah l tm=true:=by
 induction tm with
 |nil=>trivial
 |cons x r ih=>
  grind [look,Nat.beq,Ah]
theorem Q8z {l t:Nat} {hs:List (Nat×Ob)} {cells:List AV} (h:look hs t=some (.box cells)) (hn:Jz l cells=true):Jj l hs=true:=by
 induction hs with
 |nil=>trivial
 |cons x r ih=>
  obtain ⟨k,b⟩:=x;simp only [look] at h;cases hk:Nat.beq k t with
  |true=>grind [Jj]
  |false=>simp [hk] at h;cases b <;> simp [Jj,ih h]
theorem Q6Z {l t:Nat} {av:AV} (hc:Ut st l=true) (h:look st.tm t=some av):Zf l av=false:=by
 grind [Zf,Ut,Q9f]
theorem Qa6 {l t i:Nat} {cells:List AV} {x:AV} (hc:Ut st l=true) (h:look st.h t=some (.box cells)) (hx:cells[i]? = some x):Zf l x=false:=by
 grind [Zf,Ut,Q8z,Sf]
theorem Keep.rfl_ (β:Nat->oP Nat) (h:Nat->oP Ob) (w:World) (l:Nat):Keep β h w β h w l:=
 ⟨rfl,fun x=>x,fun _ _ rows hh=>.inr ⟨rows,hh,rfl⟩,fun _ cs ty fz _ _ hw=>⟨cs,ty,fz,hw,rfl⟩,fun _ f hh=>.inr ⟨f,hh⟩⟩
theorem Rel.upd (hR:Rel E β S st a w) {H':List (Nat×Ob)} (ak:∀ b,S b->S' b) (ao:∀ b,S b->w'.heap[b]? = w.heap[b]?) (T:Nat->Prop)
  (hT:∀ l,¬ T l->β' l=β l/\look H' l=look st.h l/\∀ b,(look st.h l).isSome=true->β l=some b->w'.heap[b]? = w.heap[b]?)
  (ax:∀ l,T l->Keep β (look st.h) w β' (look H') w' l\/Ut st l=true)
  (a5:∀ l o,T l->look H' l=some o->ObR β' S' (look H') w' l o)
  (inj:∀ l l' b,(look H' l).isSome=true->(look H' l').isSome=true->β' l=some b->β' l'=some b->l=l')
  (apart:∀ l b,(look H' l).isSome=true->β' l=some b->¬ S' b)
  (own:∀ l b,(look H' l).isSome=true->β' l=some b->E.M b\/E.w0.heap.size<=b)
  (sb:∀ b,S' b->b<w'.heap.size) (sfr:∀ b,S' b->E.S0 b\/E.M b\/E.w0.heap.size<=b) (fr:Fr E.M E.w0 w') :
  Rel E β' S' ⟨st.n,st.tm,H'⟩ a w':=by
 have ac:∀ l,Keep β (look st.h) w β' (look H') w' l\/Ut st l=true:=by
  intro l;by_cases hl:T l
  ·exact ax l hl
  ·obtain ⟨h1,h2,h3⟩:=hT l hl;exact .inl ⟨h1,fun h=>by rw [h2];exact h,fun e s rows h=>.inr ⟨rows,by rw [h2];exact h,rfl⟩,fun b cs ty fz hs hb hw=>⟨cs,ty,fz,by rw [h3 b (by rw [<- h2];exact hs) hb];exact hw,rfl⟩,fun _ f h=>.inr ⟨f,by rw [h2];exact h⟩⟩
 have hA:∀ (tm:Nat->Value) (v:Value) (av:AV),(∀ l,Ut st l=true->Zf l av=false)->RdA β S (look st.h) w tm v av->RdA β' S' (look H') w' tm v av:=by
  intro tm v av hc hv;refine hv.mono ak ao (fun l hn=>?_) (fun _ _=>rfl);rcases ac l with h | h
  ·exact h
  ·rw [hc l h] at hn;cases hn
 refine ⟨hR.n,hR.dfr,fun t av ht=>hA _ _ _ (fun l hc=>Q6Z hc ht) (hR.tm t av ht),⟨?_,inj,apart,own,sb,sfr,fun b hb=>ak b (hR.hr.s0 b hb),fr,fun l hp=>?_,fun l b hp hs hb cs ty fz hw=>?_⟩⟩
 rotate_left
 ·refine Eq.trans ?_ (hR.hr.pin l hp);rcases ac l with h | h
  ·exact h.b
  ·simp only [Ut,Qp7] at h;have:=Qph h.1;omega
 ·rcases ac l with h | h
  ·have aw:(look st.h l).isSome=true:=by
    cases hx:look st.h l with
    |some o=>rfl
    |none=>rw [h.none_ hx] at hs;cases hs
   rw [h.b] at hb;obtain ⟨az,a2,fz1,g1,g2⟩:=hR.hr.psz l b hp aw hb cs ty fz hw;obtain ⟨ar,a4,a6,g3,g4⟩:=h.cells b az a2 fz1 hs hb g1;exact ⟨ar,a4,a6,g3,g4.trans g2⟩
  ·simp only [Ut,Qp7] at h;have:=Qph h.1;omega
 intro l o ho;by_cases hl:T l
 ·exact a5 l o hl ho
 ·obtain ⟨h1,h2,h3⟩:=hT l hl;rw [h2] at ho;have aj:=hR.hr.ob l o ho;cases o with
  |box cells=>
   obtain ⟨b,ty,cs,fz,hb,hw,hf,an,hr⟩:=aj;exact ⟨b,ty,cs,fz,h1.trans hb,(h3 b (by simp [ho]) hb).trans hw,hf,an,fun i x hx=>hA _ _ _ (fun l' hc=>Qa6 hc ho hx) (hr i x hx)⟩
  |arr e s rows=>
   rcases aj with ⟨hb,hn⟩ | ⟨b,cs,hb,hw,an,ay,hr⟩
   ·exact .inl ⟨h1.trans hb,hn⟩
   ·refine .inr ⟨b,cs,h1.trans hb,(h3 b (by simp [ho]) hb).trans hw,an,ay,fun i j r x h4 h5=>?_⟩;obtain ⟨v,hv,au⟩:=hr i j r x h4 h5;exact ⟨v,hv,au.mono ak ao⟩
  |mp t f=>
   obtain ⟨b,hb,hm⟩:=aj;exact ⟨b,h1.trans hb,hm.same (h3 b (by simp [ho]) hb)⟩
theorem HX (hR:Rel E β S st a w) {l b:Nat} (hs:(look st.h l).isSome=true) (hb:β l=some b):b<w.heap.size:=by
 cases ho:look st.h l with
 |none=>simp_all
 |some o=>
  have ac:=hR.hr.ob l o ho;have:∃ c,w.heap[b]? = some c:=by
   cases o with
   |box cells=>
    obtain ⟨b',ty,cs,fz,aj,hw,_⟩:=ac
    simp_all
   |arr e s rows=>
    rcases ac with ⟨aj,_⟩ | ⟨b',cs,aj,hw,_⟩
    all_goals grind
   |mp t f=>
    obtain ⟨b',aj,es,ak,hw,_⟩:=ac
    simp_all
  grind
theorem Yk (w:World) (o:Obj) {b:Nat} (h:b<w.heap.size):(w.alloc o).heap[b]? = w.heap[b]?:=by
 show (w.heap.push o)[b]? = _
 grind
theorem J2 (w:World) (o:Obj):(w.alloc o).heap[w.heap.size]? = some o:=by
 show (w.heap.push o)[w.heap.size]? = _;simp
theorem Q7m {M:Nat->Prop} {w0 w:World} (h:Fr M w0 w) (o:Obj):Fr M w0 (w.alloc o):=
 h.trans ⟨rfl,rfl,rfl,by show w.heap.size<=(w.heap.push o).size;simp,fun b hb _=>Yk w o hb⟩
def Rl (β:Nat->oP Nat) (l:Nat) (b:oP Nat):Nat->oP Nat:=fun k=>if k=l then b else β k
theorem Rel.new (hR:Rel E β S st a w) {l:Nat} {o:Ob} {ac:Obj} (hn:look st.h l=none) (hc:Ut st l=true)
  (an:ObR (Rl β l (some w.heap.size)) S (look ((l,o)::rem l st.h)) (w.alloc ac) l o) :
  Rel E (Rl β l (some w.heap.size)) S ⟨st.n,st.tm,(l,o)::rem l st.h⟩ a (w.alloc ac):=by
 have ak:∀ k,look ((l,o)::rem l st.h) k=if k=l then some o else look st.h k:=fun k=>WK l k o st.h
 refine hR.upd (fun _ h=>h) (fun b hb=>Yk w ac (hR.hr.sb b hb)) (fun k=>k=l) (fun k hk=>?_) (fun k hk=>.inr (hk▸hc)) (fun k o' hk ho=>?_) ?_ ?_ ?_ ?_ hR.hr.sfr (Q7m hR.hr.fr ac)
 ·grind [Rl,Yk,HX]
 ·simp_all
 ·intro k k' b h1 h2 h3 h4;rw [ak] at h1 h2;unfold Rl at h3 h4;by_cases e:k=l <;> by_cases e':k'=l
  ·rw [e,e']
  ·rw [Qpm e] at h3;rw [Qpi e'] at h4 h2;injection h3 with h3
   have:=HX hR h2 h4;omega
  ·rw [Qpm e'] at h4;rw [Qpi e] at h3 h1;injection h4 with h4
   have:=HX hR h1 h3;omega
  ·rw [Qpi e] at h3 h1;rw [Qpi e'] at h4 h2;exact hR.hr.inj k k' b h1 h2 h3 h4
 ·intro k b h1 h2 hS;rw [ak] at h1;unfold Rl at h2;by_cases e:k=l
  ·rw [Qpm e] at h2;injection h2 with h2
   have:=hR.hr.sb b hS;omega
  ·rw [Qpi e] at h2 h1;exact hR.hr.apart k b h1 h2 hS
 ·intro k b h1 h2;rw [ak] at h1;unfold Rl at h2;by_cases e:k=l
  ·rw [Qpm e] at h2;injection h2 with h2
   right;have:=hR.hr.fr.size;omega
  ·rw [Qpi e] at h2 h1;exact hR.hr.own k b h1 h2
 ·intro b hb;have:=hR.hr.sb b hb;simp;omega
theorem Rel.set (hR:Rel E β S st a w) {l b:Nat} {o o':Ob} (ho:look st.h l=some o) (hb:β l=some b)
  (aj:∀ k,k≠b->w'.heap[k]? = w.heap[k]?) (aw:w'.os=w.os) (an:w'.tape=w.tape) (ar:w'.output=w.output) (aq:w'.heap.size=w.heap.size)
  (hk:Keep β (look st.h) w β (look ((l,o')::rem l st.h)) w' l) (a4:ObR β S (look ((l,o')::rem l st.h)) w' l o') :
  Rel E β S ⟨st.n,st.tm,(l,o')::rem l st.h⟩ a w':=by
 have a3:∀ k,look ((l,o')::rem l st.h) k=if k=l then some o' else look st.h k:=fun k=>WK l k o' st.h
 have ao:(look st.h l).isSome=true:=by simp [ho]
 have ac:∀ k,(look ((l,o')::rem l st.h) k).isSome=true->(look st.h k).isSome=true:=by
  grind
 refine hR.upd (fun _ h=>h) (fun k hS=>aj k (fun e=>?_)) (fun k=>k=l) (fun k hk=>?_) (fun k ak=>.inl (ak▸hk)) (fun k a2 ak ax=>?_) ?_ ?_ ?_ ?_ hR.hr.sfr ?_
 ·subst e;exact hR.hr.apart l _ ao hb hS
 ·refine ⟨rfl,by simp_all,fun k' hs au=>aj k' (fun e=>?_)⟩;subst e;exact hk (hR.hr.inj k l _ hs ao au hb)
 ·simp_all
 ·exact fun k k' b' h1 h2 h3 h4=>hR.hr.inj k k' b' (ac k h1) (ac k' h2) h3 h4
 ·exact fun k b' h1 h2=>hR.hr.apart k b' (ac k h1) h2
 ·exact fun k b' h1 h2=>hR.hr.own k b' (ac k h1) h2
 ·intro k hS;rw [aq];exact hR.hr.sb k hS
 ·have fr:=hR.hr.fr;refine ⟨aw.trans fr.os,an.trans fr.tape,ar.trans fr.output,by rw [aq];exact fr.size,fun k ak hM=>(aj k (fun e=>?_)).trans (fr.block k ak hM)⟩;rcases hR.hr.own l _ ao hb with h | h
  all_goals grind
end
end Go.Vx
namespace Go.Vx
variable {hl:Nat->oP Ob} {ev:Operand->AV} {β:Nat->oP Nat} {S:Nat->Prop} {w:World} {h:Nat->oP Ob} {tm:Nat->Value} {v:Value}
section
variable {P:Program} {E:Env} {R:Type}
theorem BU (v:Value):RdA β S h w tm v (Pu v):=by
 unfold Pu;split
 ·exact .d _ _ (.int _ _)
 ·exact .d _ _ (.bool _)
 ·exact .d _ _ (.str _)
 ·exact .nil
 ·exact .top _
theorem Q97 {av:AV} (hv:RdA β S h w tm v av) (ho:Q2O av=true):v.oneCell'=true:=by
 cases hv <;> simp [Q2O] at ho <;> try rfl
 ·rename_i hx;cases hx <;> rfl
 ·assumption
theorem Dy {av:AV} (ho:Q2O av=true):Q0v av=true:=by
 cases av with
 |fn f l=>assumption
 |_=>trivial
theorem Q9L (h:v.oneCell'=true):v.cells = #[v]:=by cases v <;> simp [Value.oneCell'] at h <;> rfl
theorem RdA.to_tm0 {av:AV} (hg:Q0v av=true) (hv:RdA β S h w tm v av):RdA β S h w tm0 v av:=by
 refine RdA.mono hv (fun _ hb=>hb) (fun _ _=>rfl) (fun l _=>Keep.rfl_ ..) (fun t ht=>?_)
 grind [SO]
theorem Mj {av:AV} (hv:RdA β S h w tm v av) (ho:(XM av).all Q2O=true) :
  v.cells.size=(XM av).length/\(∀ (i:Nat) (x:AV),(XM av)[i]? = some x->RdA β S h w tm (v.cells.getD i undef) x)/\∀ u∈v.cells.toList,u.oneCell'=true:=by
 cases av with
 |ag l=>
  obtain ⟨cs,rfl,ak,hr⟩:=hv.ag_inv;refine ⟨ak,hr,fun u hu=>?_⟩;obtain ⟨i,hi,rfl⟩:=List.getElem_of_mem hu;have aj:i<cs.size:=by assumption
  have h1:l[i]? = some (l[i]'QoW):=Qpl QoW;have h2:=hr i _ h1;have h3:Q2O (l[i]'QoW)=true:=by
   grind [XM,List.all_eq_true,List.getElem_mem]
  have h4:=Q97 h2 h3;have h5:cs.getD i undef=cs[i]:=by simp [Array.getD,aj]
  grind [Value.cells]
 |fs s rows=>
  obtain ⟨ad,rfl,hr⟩:=hv.fs_inv;refine ⟨rfl,fun i x hx=>?_,fun u hu=>?_⟩
  ·cases i with
   |zero=>simp [XM] at hx;subst hx;exact .d _ _ hr
   |succ i=>trivial
  ·simp [Value.cells] at hu;subst hu;rfl
 |_=>
  all_goals
   simp only [XM,List.all_cons,List.all_nil,Bool.and_true] at ho
   first
    |have h1:=Q97 hv ho
     rw [Q9L h1];refine ⟨rfl,fun i x hx=>?_,fun u hu=>?_⟩
     ·cases i with
      |zero=>simp [XM] at hx;subst hx;simpa [Array.getD] using hv
      |succ i=>simp [XM] at hx
     simp_all
    |(simp [Q2O] at ho)
theorem US {ac:Nat} {o:Ob} {v:AV} {wr:List (Nat×oP Ob)} {rd:List Nat} {k:Dl->oP R} {r:R} (h:Eu hl ac o v wr rd k=some r) :
  hl ac=none/\k ⟨v,wr++[(ac,some o)],rd⟩=some r:=by
 grind [Eu]
theorem Qeq (n:Nat):Qj4 n (0,0):=fun _ _ h=>by omega
theorem BB {o:Oper} {ac:Nat} {cells:List AV} {ty:TypeId} (hn:hl ac=none) (ar:Q7A ty cells)
  (h:∀ β S st a w,Rel E β S st a w->DR β S st a w o ev->∃ cs:Array Value,(execOp a.eval o).run P w = .ok (.value (.pointer (some ⟨w.heap.size,0,none⟩))) (w.alloc (.cells cs ty))/\cs.size=cells.length /\
   ∀ (i:Nat) (x:AV),cells[i]? = some x->Q0v x=true/\((RdA β S (look st.h) w (tmv a) (cs.getD i undef) x/\(Ut st ac=true->Zf ac x=false))\/∃ t,x = .sa ac t/\cs.getD i undef = .pointer none)) :
  GC P E o ev hl ⟨.ptr ac 0,[]++[(ac,some (.box cells))],[]⟩:=by
 intro β S st a w hR hO hA a3 K Q hK;obtain ⟨cs,ak,ao,au⟩:=h β S st a w hR hO;have aw:look st.h ac=none:=by rw [hA ac (.inr (by simp [wrL]))];exact hn
 have hc:Ut st ac=true:=by grind [Wc]
 unfold Oper.wp;rw [ak];refine hK _ _ ⟨Rl β ac (some w.heap.size),S,?_,?_⟩
 ·refine hR.new aw hc ⟨w.heap.size,ty,cs,(0,0),by simp [Rl],J2 _ _,⟨Qeq _,ar⟩,ao,fun i x hx=>?_⟩;obtain ⟨h1,ax⟩:=au i x hx;rcases ax with ⟨h2,h3⟩ | ⟨t,rfl,hp⟩
  case inr=>exact .sa _ _ _ w.heap.size (by simp [Rl]) (.inl hp)
  refine (h2.to_tm0 h1).mono (fun _ hb=>hb) (fun b hb=>Yk _ _ (hR.hr.sb b hb)) (fun l a2=>?_) (fun _ _=>rfl);have aj:l≠ac:=fun e=>by simp_all
  exact ⟨by simp [Rl,aj],fun h=>by rw [WK,Qpi aj];exact h,fun e s rows h=>.inr ⟨rows,by rw [WK,Qpi aj];exact h,rfl⟩,
   fun b aq an fz hs hb hw=>⟨aq,an,fz,by rw [Yk _ _ (HX hR (by rw [WK,Qpi aj] at hs;exact hs) hb)];exact hw,rfl⟩,fun _ f h=>.inr ⟨f,by rw [WK,Qpi aj];exact h⟩⟩
 ·exact .ptr _ _ _ (by simp [Rl])
theorem BX (l:Nat) (v:Value):Zf l (Pu v)=false:=by
 unfold Pu;split <;> rfl
theorem Q7z (v:Value):Q0v (Pu v)=true:=by
 unfold Pu;split <;> rfl
theorem Q8j {tt:TT} (hT:TOk P tt) {o:Oper} {t:TypeId} (ho:o.op = .alloc t) {ac:Nat} {ti:TyI} (aq:look tt t=some ti) (hn:hl ac=none) :
  GC P E o ev hl ⟨.ptr ac 0,[]++[(ac,some (.box (Q17 ac t ti)))],[]⟩:=by
 obtain ⟨inf,au,_,_,z,hz,ar⟩:=(hT t ti aq).inf;have an:Q7A t (Q17 ac t ti):=by
  intro i l t' hi;simp only [Q17,Qpg,Qpb] at hi;obtain ⟨v,_,hv⟩:=hi;unfold Q5R at hv;split at hv
  ·injection hv
  ·unfold Pu at hv
   grind
 refine BB (ty:=t) hn an fun β S st a w hR hO=>⟨z.cells,?_,?_,fun i x hx=>?_⟩
 ·simp_all [execOp,Instr.alloc,zeroValue,Yi,newVar,newRow]
 ·grind [Array.length_toList,Q17]
 ·simp only [Q17,Qpg,Qpb] at hx;obtain ⟨v,hv,rfl⟩:=hx;have:z.cells.getD i undef=v:=by
   rw [<- ar] at hv;obtain ⟨hi,he⟩:=Qp6.1 hv;have ao:i<z.cells.size:=QoW
   simp only [Array.getD,ao,dite_true]
   assumption
  rw [this];unfold Q5R;split
  ·exact ⟨rfl,.inr ⟨t,rfl,rfl⟩⟩
  grind [Q7z,BU,BX]
theorem Q1b {st:St} {ac:Nat} (hc:Ut st ac=true) (x:Operand):Zf ac (evO st.tm x)=false:=by
 cases x with
 |tmp t=>
  simp only [evO,lkT];cases h:look st.tm t with
  |none=>rfl
  |some av=>grind [Q6Z]
 |const v=>exact BX ac v
 |_=>rfl
theorem Q3m {l i:Nat} {r:List AV} {x:AV} (h:r[i]? = some x) (hn:Jz l r=false):Zf l x=false:=by
 grind [Zf,Sf]
theorem Q07 {l:Nat} {av:AV} (h:Zf l av=false):Jz l (XM av)=false:=by
 cases av <;> simp_all [XM,Jz,Zf]
theorem Qbl {o:Oper} {t:TypeId} {x:Operand} (ho:o.op = .box t x) {aj:Nat} (ac:(XM (ev x)).all Q2O=true) (hn:hl aj=none) :
  GC P E o ev hl ⟨.ptr aj 0,[]++[(aj,some (.box (XM (ev x))))],[]⟩:=by
 have ak:x∈o.op.operands.toList:=by grind [Op.operands]
 have an:Q7A t (XM (ev x)):=by
  intro i l t' hi;rw [Qpp] at ac;have:=ac _ (Qpe hi);trivial
 refine BB (ty:=t) hn an fun β S st a w hR hO=>?_
 obtain ⟨h1,h2,_⟩:=Mj (hO.at ak) ac;refine ⟨(a.eval x).cells,?_,h1,fun i y hy=>⟨?_,.inl ⟨h2 i y hy,fun hc=>Q3m hy (Q07 (hO.nm ak hc))⟩⟩⟩
 ·simp_all [execOp,Instr.box,newVar,newRow]
 grind [List.all_eq_true,Dy,List.mem_of_getElem?]
structure Wrote (b:Nat) (cs:Array Value) (ty:TypeId) (fz:Nat×Nat) (w w':World):Prop where
 blk:w'.heap[b]? = some (.cells cs ty fz)
 oth:∀ k,k≠b->w'.heap[k]? = w.heap[k]?
 os:w'.os=w.os
 tape:w'.tape=w.tape
 output:w'.output=w.output
 size:w'.heap.size=w.heap.size
theorem Qal {b o:Nat} {cs:Array Value} {ty:TypeId} {fz:Nat×Nat} (h:w.heap[b]? = some (.cells cs ty fz)) (v:Value):Wrote b (cs.setIfInBounds o v) ty fz w (w.setCell ⟨b,o,none⟩ v):=by
 refine ⟨?_,fun k hk=>?_,rfl,rfl,rfl,by simp_all⟩
 ·simp [World.setCell,Array.getElem?_modify,h]
 ·simp only [World.setCell,Array.getElem?_modify]
  grind
theorem Wrote.trans {b:Nat} {cs aj:Array Value} {ty:TypeId} {fz:Nat×Nat} {w w' ak:World} (h:Wrote b cs ty fz w w') (h':Wrote b aj ty fz w' ak):Wrote b aj ty fz w ak:=
 ⟨h'.blk,fun k hk=>(h'.oth k hk).trans (h.oth k hk),h'.os.trans h.os,h'.tape.trans h.tape,h'.output.trans h.output,h'.size.trans h.size⟩
def TC (cs:Array Value):Nat->List Value->Array Value
 |_,[]=>cs
 |o,v::r=>TC (cs.setIfInBounds o v) (o+1) r
theorem U1:∀ (vs:List Value) (cs:Array Value) (o:Nat),(TC cs o vs).size=cs.size
 |[],_,_=>rfl
 |v::r,cs,o=>by simp [TC,U1 r]
theorem SC:∀ (vs:List Value) (cs:Array Value) (o j:Nat),o+vs.length<=cs.size->(TC cs o vs)[j]? = if o<=j/\j<o+vs.length then vs[j-o]? else cs[j]?
 |[],cs,o,j,_=>by simp [TC];intro h1 h2;omega
 |v::r,cs,o,j,h=>by
  simp only [Qpv] at h;rw [TC,SC r _ (o+1) j QoZ];simp only [Qpv];by_cases h1:o+1<=j/\j<o+1+r.length
  ·rw [Qpm h1,Qpm QoW];rw [show j-o=(j-(o+1))+1 from QoW];simp
  ·rw [Qpi h1];by_cases h2:j=o
   ·subst h2;rw [Qpm QoW];simp [Array.getElem?_setIfInBounds];omega
   ·rw [Qpi QoW];rw [Array.getElem?_setIfInBounds,Qpi QoW]
theorem Gh (b o:Nat) (ty:TypeId) (fz:Nat×Nat):∀ (vs:List Value) (i:Nat) (cs:Array Value) (w:World),w.heap[b]? = some (.cells cs ty fz)->Qj4 cs.size fz->o+i+vs.length<=cs.size->(∀ v∈vs,v.oneCell'=true) ->
  ∃ w',(storeCells ⟨b,o,none⟩ vs i).run P w = .ok () w'/\Wrote b (TC cs (o+i) vs) ty fz w w'
 |[],i,cs,w,h,_,_,_=>⟨w,by rfl,⟨h,fun _ _=>rfl,rfl,rfl,rfl,rfl⟩⟩
 |v::r,i,cs,w,h,hf,an,h1=>by
  simp only [Qpv] at an;have aj:o+i<cs.size:=QoW
  have ak:w.cell? ⟨b,o+i,none⟩=some (cs.getD (o+i) undef):=by rw [J8 h];simp_all
  have ar:w.frozen? ⟨b,o+i,none⟩=false:=by
   have:=hf (o+i) aj
   grind [World.frozen?]
  have aq:=run_store P w ⟨b,o+i,none⟩ v .plain (h1 v QoY);have hw:=Qal (o:=o+i) h v;obtain ⟨w',ao,ac⟩:=Gh b o ty fz r (i+1) (cs.setIfInBounds (o+i) v) (w.setCell ⟨b,o+i,none⟩ v) hw.blk Qp2 QoZ (fun u hu=>h1 u (by simp [hu]));refine ⟨w',?_,hw.trans ac⟩
  grind [storeCells,Sem.run_bind,G4,Result.andThen_ok]
theorem SJ:∀ {vs cells cs:List AV} {off:Nat},M2 cells off vs=some cs->cs.length=cells.length/\vs.all Q2O=true/\(vs≠[]->off+vs.length<=cells.length) /\
  ∀ j:Nat,cs[j]? = if off<=j/\j<off+vs.length then vs[j-off]? else cells[j]?
 |[],cells,cs,off,h=>by
  simp [M2] at h;subst h;refine ⟨rfl,rfl,fun h=>absurd rfl h,fun j=>?_⟩;rw [Qpi QoY]
 |v::r,cells,cs,off,h=>by
  unfold M2 at h;cases hc:(Q2O v&&Nat.ble (off+1) cells.length) with
  |false=>simp [hc] at h
  |true=>
   simp only [hc,Qpa] at h;simp only [Qp7] at hc;have ak:=Qph hc.2;obtain ⟨h1,h2,h3,h4⟩:=SJ h;simp only [List.length_set] at h1 h3;refine ⟨h1,by simp [hc.1,h2],fun _=>?_,fun j=>?_⟩
   ·by_cases hr:r=[]
    ·subst hr;simp;omega
    ·have:=h3 hr;simp;omega
   ·rw [h4 j];simp only [Qpv];by_cases e1:off+1<=j/\j<off+1+r.length
    ·rw [Qpm e1,Qpm QoW,show j-off=(j-(off+1))+1 from QoW];simp
    ·rw [Qpi e1];by_cases e2:j=off
     ·subst e2;rw [Qpm QoW,Qpq QoW];simp
     ·rw [Qpi QoW,Qpr QoW]
end
end Go.Vx
namespace Go.Vx
section
variable {P:Program} {E:Env} {R:Type}
theorem Q1g {cs ac:Array Value} {i j:Nat} (h:cs[i]? = ac[j]?):cs.getD i undef=ac.getD j undef:=by
 simp_all
theorem Nl {t:Nat} {ti:TyI} (ht:TyOk P t ti) {w w':World} {ad:Addr} {v:Value} (hs:v.cells.size=ti.size) (h:(storeCells ad v.cells.toList).run P w = .ok () w'):(storeVar t ad v).run P w = .ok () w':=by
 simp only [storeVar,Qp9,ht.size,Qp5]
 simp_all
theorem M0 {o:Oper} {t:TypeId} {x y:Operand} (ho:o.op = .store t x y) {a:Act} {w w':World} {ad:Addr} (hx:a.eval x = .pointer (some ad)) (hv:(storeVar t ad (a.eval y)).run P w = .ok () w') :
  (execOp a.eval o).run P w = .ok .skip w':=by
 simp_all [execOp,Instr.storeAt,Instr.sureAddr]
theorem AF:∀ {l:List AV} {ds:List D},Qen l=some ds->l=ds.map .d
 |[],ds,h=>by simp [Qen] at h;subst h;rfl
 |a::r,ds,h=>by
  cases a with
  |d x=>
   simp only [Qen] at h;split at h
   ·rename_i l' ac;cases h;rw [AF ac];rfl
   ·cases h
  |_=>simp [Qen] at h
theorem Q6f:∀ (ds:List D) (row:List D) (off j:Nat),off+ds.length<=row.length->(Qd7 row off ds)[j]? = if off<=j/\j<off+ds.length then ds[j-off]? else row[j]?
 |[],row,off,j,_=>by simp [Qd7];intro h1 h2;omega
 |v::r,row,off,j,h=>by
  simp only [Qpv] at h;rw [Qd7,Q6f r _ (off+1) j QoZ];simp only [Qpv];by_cases h1:off+1<=j/\j<off+1+r.length
  ·rw [Qpm h1,Qpm QoW,show j-off=(j-(off+1))+1 from QoW];simp
  ·rw [Qpi h1];by_cases h2:j=off
   ·subst h2;rw [Qpm QoW,Qpq QoW];simp
   ·rw [Qpi QoW,Qpr QoW]
theorem Ar:∀ (ds:List D) (row:List D) (off:Nat),(Qd7 row off ds).length=row.length
 |[],_,_=>rfl
 |v::r,row,off=>by simp [Qd7,Ar r]
theorem Dn (ds:List D):(ds.map AV.d).all Q2O=true:=by
 grind [Q2O]
theorem Q7W {tt:TT} (hT:TOk P tt) {o:Oper} {t:TypeId} {x y:Operand} (ho:o.op = .store t x y) {ev:Operand->AV} {hl:Nat->oP Ob} {k:Dl->oP R} {r:R}
  (h:Qau tt hl t (ev x) (ev y) k=some r):∃ dl,k dl=some r/\GC P E o ev hl dl:=by
 have b9:x∈o.op.operands.toList:=by grind [Op.operands]
 have b0:y∈o.op.operands.toList:=by simp [ho,Op.operands]
 unfold Qau at h;split at h
 case h_2=>cases h
 rename_i ti cr;have b6:=hT t ti cr;cases a2:Nat.beq (XM (ev y)).length ti.size with
 |false=>simp [a2] at h
 |true=>
  simp only [a2,Qpa] at h;have a3:=Qp8 a2;split at h
  ·-- a box
   rename_i l off br;split at h
   ·rename_i cells bb;split at h
    ·rename_i cs ck;refine ⟨_,h,?_⟩;intro β S st a w hR hO hA cw K Q hK;obtain ⟨h1,h2,h3,h4⟩:=SJ ck;obtain ⟨b,hb,hx⟩:=(br▸hO.at b9).ptr_inv;have aj:look st.h l=some (.box cells):=by rw [hA l (.inl QoY)];exact bb
     obtain ⟨b',ty,vs,fz,a5,hw,⟨hf,cg⟩,bh,bc⟩:=hR.hr.ob l _ aj;obtain rfl:b=b':=by rw [hb] at a5;injection a5
     obtain ⟨c1,c2,c3⟩:=Mj (hO.at b0) h2;have bl:off+(a.eval y).cells.toList.length<=vs.size\/(a.eval y).cells.toList.length=0:=by
      by_cases bz:XM (ev y)=[]
      ·right;simp [c1,bz]
      ·left;have:=h3 bz;simp [c1];omega
     have b4:off+0+(a.eval y).cells.toList.length<=vs.size\/(a.eval y).cells.toList=[]:=by
      rcases bl with h | h
      ·left;simpa using h
      ·right;exact Qpf h
     obtain ⟨w',a7,ac⟩:∃ w',(storeCells ⟨b,off,none⟩ (a.eval y).cells.toList 0).run P w = .ok () w'/\Wrote b (TC vs off (a.eval y).cells.toList) ty fz w w':=by
      rcases b4 with h | h
      ·exact Gh b off ty fz _ 0 vs w hw hf h c3
      ·rw [h];exact ⟨w,by simp [storeCells],⟨hw,fun _ _=>rfl,rfl,rfl,rfl,rfl⟩⟩
     have b7:Q7A ty cs:=by
      intro i l' t' hi;rw [h4 i] at hi;split at hi
      ·rw [Qpp] at h2;have:=h2 _ (Qpe hi);simp [Q2O] at this
      ·exact cg i l' t' hi
     have ao:∀ j,(TC vs off (a.eval y).cells.toList)[j]? = if off<=j/\j<off+(XM (ev y)).length then (a.eval y).cells[j-off]? else vs[j]?:=by
      intro j;rcases bl with h | h
      ·rw [SC _ _ _ _ h];simp [c1]
      ·have hn:(a.eval y).cells.toList=[]:=Qpf h;rw [hn,Qpi (by rw [<- c1,<- Qpj,hn];simp)];rfl
     unfold Oper.wp;rw [M0 ho hx (Nl b6 (by rw [c1];exact a3) a7)];refine hK undef _ ⟨β,S,?_,.top _⟩;have aw:∀ k',look ((l,Ob.box cs)::rem l st.h) k'=if k'=l then some (.box cs) else look st.h k':=fun k'=>WK l k' _ st.h
     have ak:Keep β (look st.h) w β (look ((l,.box cs)::rem l st.h)) w' l:=by
      refine ⟨rfl,fun h=>?_,fun e s rows h=>?_,fun b2 bp bn bv _ au ar=>?_,fun t f h=>by rw [aj] at h;cases h⟩
      ·rw [aj] at h;cases h
      ·rw [aj] at h;cases h
      ·rw [hb] at au;injection au with e;subst e
       rw [hw] at ar;injection ar with e;injection e with e1 e2 e3;subst e1
       exact ⟨_,_,_,ac.blk,U1 _ _ _⟩
     have a4:∀ l',Keep β (look st.h) w β (look ((l,.box cs)::rem l st.h)) w' l':=by
      intro l';by_cases e:l'=l
      ·subst e;exact ak
      ·exact ⟨rfl,fun h=>by rw [aw,Qpi e];exact h,fun e' s rows h=>.inr ⟨rows,by rw [aw,Qpi e];exact h,rfl⟩,
        fun b2 bp bn bv b5 au ar=>⟨bp,bn,bv,by rw [ac.oth b2 (fun e2=>by subst e2;rw [aw,Qpi e] at b5;exact e (hR.hr.inj l' l _ b5 (by simp [aj]) au hb))];exact ar,rfl⟩,fun _ f h=>.inr ⟨f,by rw [aw,Qpi e];exact h⟩⟩
     refine hR.set aj hb ac.oth ac.os ac.tape ac.output ac.size ak ⟨b,ty,_,fz,hb,ac.blk,⟨by rw [U1];exact hf,b7⟩,by rw [U1,bh,h1],fun i z hz=>?_⟩;rw [h4 i] at hz;by_cases e:off<=i/\i<off+(XM (ev y)).length
     ·rw [Qpm e] at hz;have bo:(TC vs off (a.eval y).cells.toList).getD i undef=(a.eval y).cells.getD (i-off) undef:=Q1g (by rw [ao i,Qpm e]);rw [bo];have hn:Q0v z=true:=Dy (by rw [Qpp] at h2;exact h2 z (Qpe hz));exact ((c2 (i-off) z hz).to_tm0 hn).mono (fun _ h=>h) (fun k' hS=>ac.oth k' (fun e2=>by subst e2;exact hR.hr.apart l _ (by simp [aj]) hb hS)) (fun l' _=>a4 l') (fun _ _=>rfl)
     ·rw [Qpi e] at hz;have bo:(TC vs off (a.eval y).cells.toList).getD i undef=vs.getD i undef:=Q1g (by rw [ao i,Qpi e]);rw [bo];exact (bc i z hz).mono (fun _ h=>h) (fun k' hS=>ac.oth k' (fun e2=>by subst e2;exact hR.hr.apart l _ (by simp [aj]) hb hS)) (fun l' _=>a4 l') (fun _ _=>rfl)
    ·cases h
   ·cases h
  ·-- an array of the call's own
   rename_i l i off br;split at h
   ·rename_i e s rows b3;split at h
    ·rename_i ds cn;obtain ⟨row,h,ca⟩:=QO h;have aq:=ca rfl;cases a6:Nat.ble (off+ds.length) s with
     |false=>simp [a6] at h
     |true=>
      simp only [a6,Qpa] at h;have bl:=Qph a6;refine ⟨_,h,?_⟩;intro β S st a w hR hO hA cw K Q hK;have bq:=AF cn;have aj:look st.h l=some (.arr e s rows):=by rw [hA l (.inl QoY)];exact b3
      obtain ⟨b,hb,hx⟩:=RdA.ap_inv aj (br▸hO.at b9);rcases hR.hr.ob l _ aj with ⟨_,hn⟩ | ⟨b',vs,a5,hw,bh,bk,bc⟩
      ·subst hn;simp at aq
      obtain rfl:b=b':=by rw [hb] at a5;injection a5
      obtain ⟨c1,c2,c3⟩:=Mj (hO.at b0) (by rw [bq];exact Dn ds);have b8:(a.eval y).cells.size=ds.length:=by rw [c1,bq];simp
      have hi:i<rows.length:=(Qp6.1 aq).1;have cp:row.length=s:=bk i row aq;have cy:(i+1)*s<=rows.length*s:=Qpc s hi;have cu:(i+1)*s=i*s+s:=Qpy i s;have bg:i*s+off+(a.eval y).cells.toList.length<=vs.size:=by simp [b8];omega
      obtain ⟨w',a7,ac⟩:=Gh (P:=P) b (i*s+off) e (0,0) (a.eval y).cells.toList 0 vs w hw (Qeq _) (by simpa using bg) c3;simp only [Nat.add_zero] at ac;have ao:∀ j,(TC vs (i*s+off) (a.eval y).cells.toList)[j]? = if i*s+off<=j/\j<i*s+off+ds.length then (a.eval y).cells[j-(i*s+off)]? else vs[j]?:=by
       intro j;rw [SC _ _ _ _ bg];simp [b8]
      unfold Oper.wp;rw [M0 ho hx (Nl b6 (by rw [c1];exact a3) a7)];refine hK undef _ ⟨β,S,?_,.top _⟩;have bi:∀ k',S k'->w'.heap[k']? = w.heap[k']?:=fun k' hS=>ac.oth k' (fun e2=>by subst e2;exact hR.hr.apart l _ (by simp [aj]) hb hS)
      have ak:Keep β (look st.h) w β (look ((l,.arr e s (rows.set i (Qd7 row off ds)))::rem l st.h)) w' l:=by
       refine ⟨rfl,fun h=>?_,fun e' s' cm h=>?_,fun b2 bp bn bv _ au ar=>?_,fun t f h=>by rw [aj] at h;cases h⟩
       ·rw [aj] at h;cases h
       ·rw [aj] at h;injection h with h;injection h with g1 g2 g3;subst g1;subst g2;subst g3
        exact .inr ⟨_,by rw [WK,Qpm rfl],by simp⟩
       ·rw [hb] at au;injection au with e;subst e
        rw [hw] at ar;injection ar with e;injection e with e1 e2 e3;subst e1
        exact ⟨_,_,_,ac.blk,U1 _ _ _⟩
      refine hR.set aj hb ac.oth ac.os ac.tape ac.output ac.size ak (.inr ⟨b,_,hb,ac.blk,by rw [U1];simpa using bh,fun i' r' az=>?_,fun i' j' r' z h4 h5=>?_⟩)
      ·by_cases e2:i'=i
       ·subst e2;rw [Qpq hi] at az;injection az with az;subst az
        rw [Ar];exact cp
       ·rw [Qpr QoW] at az;exact bk i' r' az
      ·by_cases e2:i'=i
       ·subst e2;rw [Qpq hi] at h4;injection h4 with h4;subst h4
        rw [Q6f _ _ _ _ QoW] at h5;by_cases e3:off<=j'/\j'<off+ds.length
        ·rw [Qpm e3] at h5;have hj:j'-off<(a.eval y).cells.size:=QoW
         refine ⟨(a.eval y).cells.getD (j'-off) undef,?_,?_⟩
         ·rw [ao,Qpm QoW,show i'*s+j'-(i'*s+off)=j'-off from QoW];exact Hx hj
         ·exact (c2 (j'-off) (.d z) (by rw [bq];simp [h5])).d_inv.mono (fun _ h=>h) bi
        ·rw [Qpi e3] at h5;obtain ⟨u,hu,bm⟩:=bc i' j' row z aq h5;exact ⟨u,by rw [ao,Qpi QoW];exact hu,bm.mono (fun _ h=>h) bi⟩
       ·rw [Qpr QoW] at h4;obtain ⟨u,hu,bm⟩:=bc i' j' r' z h4 h5;refine ⟨u,?_,bm.mono (fun _ h=>h) bi⟩;have c4:j'<s:=by
         have:=bk i' r' h4;have:=(Qp6.1 h5).1;omega
        rw [ao,Qpi ?_]
        ·exact hu
        ·rcases Nat.lt_or_gt_of_ne e2 with cf | co
         ·have:(i'+1)*s<=i*s:=Qpc s cf;have:(i'+1)*s=i'*s+s:=Qpy i' s;omega
         ·have:(i+1)*s<=i'*s:=Qpc s co;omega
    ·cases h
   ·cases h
  ·cases h
end
section
variable {P:Program} {E:Env} {R:Type}
theorem F5 {α β:Type} {f:α->Sem β} {g:α->β} {w:World}:∀ (l:List α),(∀ x∈l,(f x).run P w = .ok (g x) w)->(l.mapM f).run P w = .ok (l.map g) w
 |[],_=>by simp
 |a::l,h=>by
  have h1:=h a QoY;have h2:=F5 l (fun x hx=>h x (by simp [hx]));simp [List.mapM_cons,h1,h2]
theorem Q4e {α β:Type} {f:α->Sem β} {g:α->β} {w:World} (l:Array α) (h:∀ x∈l.toList,(f x).run P w = .ok (g x) w):(l.mapM f).run P w = .ok (l.map g) w:=by
 have h1:=F5 (P:=P) l.toList h;rw [<- Array.toList_mapM,Sem.run_map] at h1;cases hr:(l.mapM f).run P w with
 |ok b w'=>
  rw [hr] at h1;simp only [Qp5,Result.ok.injEq] at h1;obtain ⟨h2,rfl⟩:=h1;congr 1;apply Array.ext'
  simp_all
 |halt x w'=>simp_all
theorem Q8O (off:Nat):∀ (l:List Value) (k:Nat) (cs:Array Value),(l.zipIdx k).foldl (fun cs x=>cs.setIfInBounds (off+x.2) x.1) cs=TC cs (off+k) l
 |[],_,_=>rfl
 |v::r,k,cs=>by
  simp only [List.zipIdx_cons,List.foldl_cons,TC];rw [Q8O off r (k+1)];rfl
theorem QbU (off:Nat) (vs cs:Array Value):vs.zipIdx.foldl (fun cs x=>cs.setIfInBounds (off+x.2) x.1) cs=TC cs off vs.toList:=by
 rw [<- Array.foldl_toList,Array.toList_zipIdx,Q8O];rfl
theorem Q46 {ac:Nat->oP (Nat×Nat)} {cells:Array Value} {i off size:Nat} {v:Value} {rest:List (Nat×Value)} (hp:ac i=some (off,size)) (hs:v.cells.size=size) (hf:off+size<=cells.size) :
  Instr.fill ac cells ((i,v)::rest)=Instr.fill ac (TC cells off v.cells.toList) rest:=by
 grind [Instr.fill,QbU]
theorem EJ {tt:TT} {fields:List (Nat×Nat)} {ak:Nat->oP (Nat×Nat)} (ar:∀ (i off t:Nat) (ti:TyI),fields[i]? = some (off,t)->look tt t=some ti->ak i=some (off,ti.size))
  {β:Nat->oP Nat} {S:Nat->Prop} {h:Nat->oP Ob} {w:World} {tm:Nat->Value} {ρ:Operand->Value} {ev:Operand->AV} :
  ∀ (aj:List (Nat×Operand)) (cells ac:List AV) (cs:Array Value),(∀ p∈aj,RdA β S h w tm (ρ p.2) (ev p.2))->cs.size=cells.length ->
   (∀ (i:Nat) (x:AV),cells[i]? = some x->RdA β S h w tm (cs.getD i undef) x)->Q0B fields tt cells (Vj ev aj)=some ac ->
   ∃ ao,Instr.fill ak cs (aj.map fun p=>(p.1,ρ p.2))=some ao/\ao.size=ac.length /\
    ∀ (i:Nat) (x:AV),ac[i]? = some x->RdA β S h w tm (ao.getD i undef) x
 |[],cells,ac,cs,_,h1,h2,h3=>by
  grind [Vj,Q0B,Instr.fill]
 |(i,x)::aj,cells,ac,cs,hp,h1,h2,h3=>by
  simp only [Vj,Q0B] at h3;split at h3
  case h_2=>cases h3
  rename_i off t hf;split at h3
  case h_2=>cases h3
  rename_i ti ay;cases hc:(Nat.beq (XM (ev x)).length ti.size&&Nat.ble (off+ti.size) cells.length) with
  |false=>simp_all
  |true=>
   simp only [hc,Qpa] at h3;simp only [Qp7] at hc;have hl:=Qp8 hc.1;have a6:=Qph hc.2;split at h3
   case h_2=>cases h3
   rename_i az aw;obtain ⟨g1,g2,g3,g4⟩:=SJ aw;obtain ⟨c1,c2,c3⟩:=Mj (hp (i,x) QoY) g2;have an:=ar i off t ti hf ay;have au:off+(ρ x).cells.toList.length<=cs.size:=by simp [c1,hl];omega
   rw [Qpz,Q46 an (by rw [c1];exact hl) QoW];refine EJ ar aj az ac _ (fun p ax=>hp p (by simp [ax])) (by rw [U1,h1,g1]) (fun j y hy=>?_) h3;have a2:(TC cs off (ρ x).cells.toList)[j]? = if off<=j/\j<off+(XM (ev x)).length then (ρ x).cells[j-off]? else cs[j]?:=by
    rw [SC _ _ _ _ au];simp [c1]
   rw [g4 j] at hy;by_cases e:off<=j/\j<off+(XM (ev x)).length
   all_goals simp_all [Qpm,TC,undef,Q1g,Qpi]
theorem Q3t {t:TypeId} {ac:Array (Nat×Operand)} {o:Oper} (ho:o.op = .build t ac) {p:Nat×Operand} (hp:p∈ac.toList):p.2∈o.op.operands.toList:=by
 grind [Op.operands]
theorem Q81 {tt:TT} (hT:TOk P tt) {o:Oper} {t:TypeId} {aj:Array (Nat×Operand)} (ho:o.op = .build t aj) {ev:Operand->AV} {hl:Nat->oP Ob} {ti:TyI} (bn:look tt t=some ti) (hs:Va ti.kd=true) {cs:List AV}
  (h:Q0B ti.fields tt (EW ti) (Vj ev aj.toList)=some cs):GC P E o ev hl ⟨.ag cs,[],[]⟩:=by
 have a2:=hT t ti bn;obtain ⟨inf,an,_,_,z,hz,bl⟩:=a2.inf;refine Qk fun β S st a w hR hO hA=>?_
 have bc:z.cells.size=(EW ti).length:=by grind [Array.length_toList,EW]
 have a9:∀ (i:Nat) (x:AV),(EW ti)[i]? = some x->RdA β S (look st.h) w (tmv a) (z.cells.getD i undef) x:=by
  intro i x hx;simp only [EW,Qpg,Qpb] at hx;obtain ⟨v,hv,rfl⟩:=hx;have:z.cells.getD i undef=v:=by
   rw [<- bl] at hv;obtain ⟨hi,he⟩:=Qp6.1 hv;have bh:i<z.cells.size:=by simpa using hi
   simp only [Array.getD,bh,dite_true];simpa using he
  grind [BU]
 have ar:(aj.map fun x=>(x.1,a.eval x.2)).toList=aj.toList.map fun p=>(p.1,a.eval p.2):=by simp
 cases hk:ti.kd with
 |struct=>
  obtain ⟨fs,hu,bi,a7⟩:=a2.kstruct hk;let sz:Field->Nat:=fun f=>((P.info? f.type).map (·.size)).getD 0
  have ay:∀ f∈fs.toList,∃ i,P.info? f.type=some i/\i.size=sz f:=fun f hf=>by
   obtain ⟨i,hi,_⟩:=a7 f hf;exact ⟨i,hi,by simp [sz,hi]⟩
  have a3:∀ (i off t:Nat) (ak:TyI),ti.fields[i]? = some (off,t)->look tt t=some ak->(fs.map fun f=>(f.offset,sz f))[i]? = some (off,ak.size):=by
   intro i off t ak hf aq;rw [<- bi,Qpg,Qpb] at hf;obtain ⟨fd,a6,he⟩:=hf;injection he with he1 he2
   obtain ⟨inf,an,a8⟩:=ay fd (Qpe a6);obtain ⟨a5,ac,au,_⟩:=(hT t ak aq).inf;rw [<- he2,an] at ac;injection ac with ac
   subst ac;have bg:fs[i]? = some fd:=by simpa using a6
   simp [bg,he1,<- a8,au]
  obtain ⟨az,h1,h2,h3⟩:=EJ a3 (ρ:=a.eval) aj.toList _ _ z.cells (fun p hp=>hO.at (Q3t ho hp)) bc a9 h;refine ⟨.agg az,?_,.ag _ _ h2 h3⟩;have hm:=Q4e (P:=P) (w:=w) (f:=fun f:Field=>do pure (f.offset,<- sizeOf f.type)) (g:=fun f=>(f.offset,sz f)) fs (fun f hf=>by
   obtain ⟨i,hi,he⟩:=ay f hf;simp [sizeOf,Yi hi,he])
  unfold execOp;rw [ho];simp only [Instr.build,Qp9,zeroValue,Yi an,hz,QA hu,Qp5,Qps,hm,ar,h1]
 |array e ax n=>
  obtain ⟨hu,bq,⟨i0,bb,ba⟩,bj,ao⟩:=a2.karr e ax n hk;have a3:∀ (i off t:Nat) (ak:TyI),ti.fields[i]? = some (off,t)->look tt t=some ak->(fun i=>some (i*ax,ax)) i=some (off,ak.size):=by
   intro i off t ak hf aq;rw [ao,Qpg,Qpb] at hf;obtain ⟨j,hj,he⟩:=hf;have bk:j=i:=by
    have:=Qp6.1 hj;obtain ⟨h1,h2⟩:=this;simp at h2;omega
   injection he with he1 he2
   obtain ⟨a5,ac,au,_⟩:=(hT t ak aq).inf;rw [<- he2,bb] at ac;injection ac with ac
   subst ac;simp only [Option.some.injEq,Prod.mk.injEq];exact ⟨by rw [<- he1,bk],QoW⟩
  obtain ⟨az,h1,h2,h3⟩:=EJ a3 (ρ:=a.eval) aj.toList _ _ z.cells (fun p hp=>hO.at (Q3t ho hp)) bc a9 h;refine ⟨.agg az,?_,.ag _ _ h2 h3⟩;have bm:(sizeOf e).run P w = .ok ax w:=by simp [sizeOf,Yi bb,ba]
  unfold execOp;rw [ho];simp only [Instr.build,Qp9,zeroValue,Yi an,hz,QA hu,Qp5,Qps,bm,ar,h1]
 |_=>simp [hk,Va] at hs
def UV (S:Nat->Prop) (w:World) (cs:Array Value) (s:Nat) (rows:List (List D)):Prop:=
 rows.length*s<=cs.size/\(∀ (i:Nat) (r:List D),rows[i]? = some r->r.length=s)/\∀ (i j:Nat) (r:List D) (x:D),rows[i]? = some r->r[j]? = some x->∃ v,cs[i*s+j]? = some v/\Rd S w v x
theorem Q3a:∀ {z:List D} {l:List AV} {ds:List D},Qav z l=some ds->ds.length=z.length/\l.length=z.length/\l.all Q2O=true/\(∀ t,∀ x∈l,gds t x=false) /\
  ∀ (β:Nat->oP Nat) (S:Nat->Prop) (h:Nat->oP Ob) (w:World) (tm:Nat->Value) (vs:Nat->Value),(∀ (i:Nat) (x:AV),l[i]? = some x->RdA β S h w tm (vs i) x)->∀ (i:Nat) (d:D),ds[i]? = some d->Rd S w (vs i) d
 |[],[],ds,h=>by
  grind [Qav]
 |[],_::_,ds,h=>by trivial
 |_::_,[],ds,h=>by simp [Qav] at h
 |z::zs,a::r,ds,h=>by
  simp only [Qav] at h;split at h
  case h_2=>cases h
  rename_i l hl;obtain ⟨h1,h2,h3,h4,h5⟩:=Q3a hl;have aj:∀ d0,ds=d0::l->Q2O a=true->(∀ t,gds t a=false)->(∀ (β:Nat->oP Nat) (S:Nat->Prop) (h:Nat->oP Ob) (w:World) (tm:Nat->Value) (v:Value),RdA β S h w tm v a->Rd S w v d0) ->
    ds.length=(z::zs).length/\(a::r).length=(z::zs).length/\(a::r).all Q2O=true/\(∀ t,∀ x∈a::r,gds t x=false) /\
    ∀ (β:Nat->oP Nat) (S:Nat->Prop) (h:Nat->oP Ob) (w:World) (tm:Nat->Value) (vs:Nat->Value),(∀ (i:Nat) (x:AV),(a::r)[i]? = some x->RdA β S h w tm (vs i) x)->∀ (i:Nat) (d:D),ds[i]? = some d->Rd S w (vs i) d:=by
   intro d0 hd ho hg hr;subst hd;refine ⟨by simp [h1],by simp [h2],by simp [ho,h3],fun t x hx=>?_,fun β S h w tm vs hv i d hi=>?_⟩
   ·grind
   ·cases i with
    |zero=>simp at hi;subst hi;exact hr β S h w tm _ (hv 0 a rfl)
    |succ i=>exact h5 β S h w tm (fun i=>vs (i+1)) (fun i x hx=>hv (i+1) x Qp2) i d Qp2
  split at h
  ·rename_i x;cases h;exact aj x rfl rfl (fun _=>rfl) (fun _ _ _ _ _ _ hv=>hv.d_inv)
  ·split at h
   ·cases h;exact aj _ rfl rfl (fun _=>rfl) (fun _ _ _ _ _ v hv=>by rw [hv.nil_inv];exact .sl0 _ _ _)
   ·cases h
  ·cases h
end
end Go.Vx
namespace Go.Vx
variable {hl:Nat->oP Ob} {ev:Operand->AV} {S:Nat->Prop} {o:Oper}
section
variable {P:Program} {E:Env} {R:Type}
theorem UV.mono {S S':Nat->Prop} {w w':World} {cs:Array Value} {s:Nat} {rows:List (List D)} (h:UV S w cs s rows) (hS:∀ b,S b->S' b) (hw:∀ b,S b->w'.heap[b]? = w.heap[b]?):UV S' w' cs s rows:=
 ⟨h.1,h.2.1,fun i j r x h1 h2=>by
  obtain ⟨v,hv,hr⟩:=h.2.2 i j r x h1 h2;exact ⟨v,hv,hr.mono hS hw⟩⟩
theorem UV.set {S:Nat->Prop} {w:World} {cs:Array Value} {s:Nat} {rows:List (List D)} (h:UV S w cs s rows) {i:Nat} {row:List D} {vs:Array Value} (hi:i<rows.length) (hl:row.length=s) (a5:vs.size=s)
  (hr:∀ (j:Nat) (d:D),row[j]? = some d->Rd S w (vs.getD j undef) d):UV S w (TC cs (i*s) vs.toList) s (rows.set i row):=by
 obtain ⟨h1,h2,h3⟩:=h;have a2:(i+1)*s<=rows.length*s:=Qpc s hi;have aw:(i+1)*s=i*s+s:=Qpy i s;have az:i*s+vs.toList.length<=cs.size:=by grind
 have an:∀ j,(TC cs (i*s) vs.toList)[j]? = if i*s<=j/\j<i*s+s then vs[j-i*s]? else cs[j]?:=by
  grind [SC]
 refine ⟨by grind [U1],fun i' r' a3=>?_,fun i' j' r' x h4 h5=>?_⟩
 ·grind
 ·by_cases e2:i'=i
  ·subst e2;rw [Qpq hi] at h4;injection h4 with h4;subst h4
   have hj:j'<s:=by have:=(Qp6.1 h5).1;omega
   refine ⟨vs.getD j' undef,?_,hr j' x h5⟩
   simp_all
  ·rw [Qpr QoW] at h4;obtain ⟨u,hu,ax⟩:=h3 i' j' r' x h4 h5;refine ⟨u,?_,ax⟩;have a4:j'<s:=by
    have:=h2 i' r' h4;have:=(Qp6.1 h5).1;omega
   rw [an,Qpi ?_]
   ·exact hu
   ·rcases Nat.lt_or_gt_of_ne e2 with aq | au
    ·have:(i'+1)*s<=i*s:=Qpc s aq;have:(i'+1)*s=i'*s+s:=Qpy i' s;omega
    ·have:(i+1)*s<=i'*s:=Qpc s au;omega
theorem UV.zero {S:Nat->Prop} {w:World} {zero:Array Value} {z:List D} {n m:Nat} (hz:z.length=zero.size) (hr:∀ (j:Nat) (x:D),z[j]? = some x->∃ v,zero[j]? = some v/\Rd S w v x) (ao:n<=m) :
  UV S w ((Array.range (m*zero.size)).map (zero[· % zero.size]!)) zero.size (List.replicate n z):=by
 refine ⟨by simp_all [Qpc],fun i r h=>?_,fun i j r x h1 h2=>?_⟩
 ·grind
 ·rw [List.getElem?_replicate] at h1;split at h1
  case isFalse=>cases h1
  rename_i hi;injection h1 with h1;subst h1
  obtain ⟨v,hv,hx⟩:=hr j x h2;refine ⟨v,?_,hx⟩;have hj:j<zero.size:=(Qpk.1 hv).1;have ak:(i+1)*zero.size<=m*zero.size:=Qpc _ QoW;have ac:(i+1)*zero.size=i*zero.size+zero.size:=Qpy i _;have aj:(i*zero.size+j) % zero.size=j:=by rw [Nat.add_comm,Nat.add_mul_mod_self_right];exact Nat.mod_eq_of_lt hj
  grind
theorem Ab {ac e s:Nat} {rows:List (List D)} {rd:List Nat} (hn:hl ac=none)
  (h:∀ β S st a w,Rel E β S st a w->DR β S st a w o ev->(∀ l,l∈rd->look st.h l=hl l)->∃ (cs:Array Value) (cap:Nat),(execOp a.eval o).run P w = .ok (.value (.slice (some ⟨w.heap.size,0,none⟩) rows.length cap)) (w.alloc (.cells cs e))/\cs.size=cap*s/\rows.length<=cap/\cap<=maxLen/\UV S w cs s rows) :
  GC P E o ev hl ⟨.arr ac,[]++[(ac,some (.arr e s rows))],rd⟩:=by
 intro β S st a w hR hO hA a2 K Q hK;obtain ⟨cs,cap,an,ao,aj,ak,h1,h2,h3⟩:=h β S st a w hR hO (fun l aq=>hA l (.inl aq));have ar:look st.h ac=none:=by rw [hA ac (.inr (by simp [wrL]))];exact hn
 have hc:Ut st ac=true:=by grind [Wc]
 unfold Oper.wp;rw [an];refine hK _ _ ⟨Rl β ac (some w.heap.size),S,?_,?_⟩
 ·refine hR.new ar hc (.inr ⟨w.heap.size,cs,by simp [Rl],J2 _ _,h1,h2,fun i j r x h4 h5=>?_⟩);obtain ⟨v,hv,hr⟩:=h3 i j r x h4 h5;exact ⟨v,hv,hr.mono (fun _ hb=>hb) (fun b hb=>Yk _ _ (hR.hr.sb b hb))⟩
 ·exact .arr ac w.heap.size cap e s rows cs e (0,0) (by simp [Rl]) (by simp [Md,WK]) (J2 _ _) ao aj ak
theorem Qbc {β:Nat->oP Nat} {st:St} {a:Act} {w:World} (hR:Rel E β S st a w) (ac:Obj):Rel E β (fun b=>S b\/b=w.heap.size) st a (w.alloc ac):=by
 have:=hR.upd (w':=w.alloc ac) (β':=β) (S':=fun b=>S b\/b=w.heap.size) (H':=st.h) (fun _ h=>.inl h) (fun b hb=>Yk w ac (hR.hr.sb b hb)) (fun _=>False)
  (fun l _=>⟨rfl,rfl,fun b hs hb=>Yk w ac (HX hR hs hb)⟩) (fun l h=>h.elim) (fun l o h=>h.elim) hR.hr.inj
  (fun l b hs hb hS=>by
   rcases hS with hS | hS
   ·exact hR.hr.apart l b hs hb hS
   ·have:=HX hR hs hb;omega)
  hR.hr.own
  (fun b hS=>by
   simp;rcases hS with hS | hS
   ·have:=hR.hr.sb b hS;omega
   ·omega)
  (fun b hS=>by
   rcases hS with hS | hS
   ·exact hR.hr.sfr b hS
   ·right;right;have:=hR.hr.fr.size;omega)
  (Q7m hR.hr.fr ac)
 exact this
theorem UV.rd {w:World} {b cap s:Nat} {cs:Array Value} {ty:TypeId} {fz:Nat×Nat} {rows:List (List D)} (h:UV S w cs s rows) (hb:w.heap[b]? = some (.cells cs ty fz)) (hS:S b) (ac:rows.length<=cap) :
  Rd S w (.slice (some ⟨b,0,none⟩) rows.length cap) (.sl s rows):=by
 obtain ⟨h1,h2,h3⟩:=h;refine .sl _ cap s rows (fun i j=>cs.getD (i*s+j) undef) hS ac h2 (fun i j r x h4 h5=>?_) (fun i j r x h4 h5=>?_)
 ·obtain ⟨v,hv,_⟩:=h3 i j r x h4 h5;rw [G4,Nat.zero_add,J8 hb]
  simp_all
 grind [undef,Hx,Array.getElem?_eq_some_iff]
theorem Q4k {e s:Nat} {rows:List (List D)} {rd:List Nat}
  (h:∀ β S st a w,Rel E β S st a w->DR β S st a w o ev->∃ (cs:Array Value) (cap:Nat),(execOp a.eval o).run P w = .ok (.value (.slice (some ⟨w.heap.size,0,none⟩) rows.length cap)) (w.alloc (.cells cs e))/\rows.length<=cap/\UV S w cs s rows) :
  GC P E o ev hl ⟨.d (.sl s rows),[],rd⟩:=by
 intro β S st a w hR hO hA ao K Q hK;obtain ⟨cs,cap,aj,ac,h1⟩:=h β S st a w hR hO;unfold Oper.wp;rw [aj];refine hK _ _ ⟨β,fun b=>S b\/b=w.heap.size,Qbc hR _,.d _ _ ?_⟩;exact (h1.mono (fun _ hb=>.inl hb) (fun b hb=>Yk _ _ (hR.hr.sb b hb))).rd (J2 _ _) (.inr rfl) ac
theorem DM {β:Nat->oP Nat} {S:Nat->Prop} {h:Nat->oP Ob} {w:World} {tm:Nat->Value} {ρ:Operand->Value} {ev:Operand->AV} {z:List D} :
  ∀ (aj:List (Nat×Operand)) (rows ac:List (List D)) (cs:Array Value),(∀ p∈aj,RdA β S h w tm (ρ p.2) (ev p.2))->UV S w cs z.length rows->cs.size=rows.length*z.length ->
   MW z rows (Vj ev aj)=some ac ->
   ∃ ak,Instr.fill (fun i=>some (i*z.length,z.length)) cs (aj.map fun p=>(p.1,ρ p.2))=some ak/\UV S w ak z.length ac/\ak.size=cs.size/\ac.length=rows.length
 |[],rows,ac,cs,_,h1,h2,h3=>by
  simp [Vj,MW] at h3;subst h3;exact ⟨cs,by simp [Instr.fill],h1,rfl,rfl⟩
 |(i,x)::aj,rows,ac,cs,hp,h1,h2,h3=>by
  simp only [Vj,MW] at h3;split at h3
  case h_2=>cases h3
  rename_i row ao;cases hc:Nat.ble (i+1) rows.length with
  |false=>simp [hc] at h3
  |true=>
   simp only [hc,Qpa] at h3;have hi:=Qph hc;obtain ⟨t1,t2,t3,_,t5⟩:=Q3a ao;obtain ⟨c1,c2,_⟩:=Mj (hp (i,x) QoY) t3;have aw:(i+1)*z.length<=rows.length*z.length:=Qpc _ hi;have au:(i+1)*z.length=i*z.length+z.length:=Qpy i _;have ar:Instr.fill (fun i=>some (i*z.length,z.length)) cs ((i,ρ x)::aj.map fun p=>(p.1,ρ p.2))=_:=Q46 (i:=i) (off:=i*z.length) (size:=z.length) rfl (by rw [c1,t2]) QoW;rw [Qpz,ar];have an:=h1.set (i:=i) (row:=row) (vs:=(ρ x).cells) QoW t1 (by rw [c1,t2]) (fun j d hd=>t5 β S h w tm (fun j=>(ρ x).cells.getD j undef) c2 j d hd);obtain ⟨ak,g1,g2,g3,g4⟩:=DM aj (rows.set i row) ac _ (fun p aq=>hp p (by simp [aq])) an (by rw [U1,h2];simp) h3;exact ⟨ak,g1,g2,by rw [g3,U1],by rw [g4];simp⟩
theorem Q0t {t:TypeId} {n:Nat} {ac:Array (Nat×Operand)} (ho:o.op = .buildSlice t n ac) {p:Nat×Operand} (hp:p∈ac.toList):p.2∈o.op.operands.toList:=by
 grind [Op.operands]
theorem Qea {tt:TT} (hT:TOk P tt) {e:Nat} {ei:TyI} (ak:look tt e=some ei) (aj:ei.zd.length=ei.size) {w:World} {z:Value} (hz:z.cells.toList=ei.zero):∀ (j:Nat) (x:D),ei.zd[j]? = some x->∃ v,z.cells[j]? = some v/\Rd S w v x:=by
 intro j x hx;obtain ⟨v,hv,hr⟩:=(hT e ei ak).zd aj j x hx
 grind
theorem Nv {tt:TT} (hT:TOk P tt) {t:TypeId} {len:Nat} {ac:Array (Nat×Operand)} (ho:o.op = .buildSlice t len ac) {u:Bool} {bb:Nat} {k:Dl->oP R} {r:R}
  (h:Ky tt hl bb u t len (Vj ev ac.toList) k=some r):∃ dl,k dl=some r/\GC P E o ev hl dl:=by
 unfold Ky at h;split at h
 case h_2=>cases h
 rename_i e aj hk;cases hc:(Nat.ble (len*aj) 16777216&&(look tt e).isSome&&Nat.beq (NC tt e).length aj) with
 |false=>simp_all
 |true=>
  simp only [hc,Qpa] at h;simp only [Qp7] at hc;have bm:=Qph hc.1.1;obtain ⟨ei,a2⟩:=Option.isSome_iff_exists.1 hc.1.2;have an:=Qp8 hc.2;have bc:NC tt e=ei.zd:=by grind [NC]
  rw [bc] at an h;split at h
  case h_2=>cases h
  rename_i rows ay;obtain ⟨ti,bi,bg⟩:=Xu hk QoY;obtain ⟨hu,a6,inf,ao,ax⟩:=(hT t ti bi).ksl _ _ bg;obtain ⟨bl,ak,a4,_,z,hz,ba⟩:=(hT e ei a2).inf;rw [ao] at ak;injection ak with ak
  subst ak;have ar:z.cells.size=aj:=by rw [<- Qpj,ba,(hT e ei a2).zlen,<- a4,ax]
  have a9:∀ β S st a w,Rel E β S st a w->DR β S st a w o ev->∃ cs:Array Value,(execOp a.eval o).run P w = .ok (.value (.slice (some ⟨w.heap.size,0,none⟩) rows.length len)) (w.alloc (.cells cs e))/\cs.size=len*aj/\rows.length=len/\UV S w cs aj rows:=by
   intro β S st a w hR hO;have base:UV S w ((Array.range (len*z.cells.size)).map (z.cells[· % z.cells.size]!)) z.cells.size (List.replicate len ei.zd):=
    UV.zero (by rw [an,ar]) (Qea hT a2 (by rw [an,<- a4,ax]) ba) (Qpt _)
   rw [ar] at base;obtain ⟨bh,g1,g2,g3,g4⟩:=DM (ρ:=a.eval) (ev:=ev) (z:=ei.zd) ac.toList (List.replicate len ei.zd) rows _ (fun p hp=>hO.at (Q0t ho hp)) (by rw [an];exact base) (by simp [an]) ay;rw [an] at g1 g2;have aq:rows.length=len:=by rw [g4];simp
   refine ⟨bh,?_,by rw [g3];simp,aq,g2⟩;have aw:(ac.map fun x=>(x.1,a.eval x.2)).toList=ac.toList.map fun p=>(p.1,a.eval p.2):=by simp
   have bj:¬ len*aj>2 ^ 24:=QoW
   unfold execOp;rw [ho];simp only [Instr.buildSlice,Qp9,QA hu,sizeOf,Yi ao,ax,Qp5,Qps,bj,if_false,aw];by_cases h0:len*aj=0
   ·have au:((Array.range (len*aj)).map ((#[]:Array Value)[· % (#[]:Array Value).size]!))=((Array.range (len*aj)).map (z.cells[· % aj]!)):=by rw [h0];simp
    simp only [h0,if_true,Qp9,Qps,Qp5];rw [h0] at au g1;rw [au,g1,aq];simp [newRow]
   ·simp only [h0,if_false,Qp9,zeroValue,Yi ao,hz,Qp5,Qps,ar,g1];simp [newRow,aq]
  have az:len<=maxLen:=by
   have:len*1<=len*aj:=Qpu len a6;unfold maxLen;omega
  cases u with
  |true=>
   simp only [Qpa] at h;obtain ⟨hn,h⟩:=US h;refine ⟨_,h,Ab hn fun β S st a w hR hO _=>?_⟩;obtain ⟨cs,g1,g2,g3,g4⟩:=a9 β S st a w hR hO;exact ⟨cs,len,g1,g2,QoW,az,g4⟩
  |false=>
   simp only [cond_false] at h;refine ⟨_,h,Q4k (e:=e) fun β S st a w hR hO=>?_⟩;obtain ⟨cs,g1,g2,g3,g4⟩:=a9 β S st a w hR hO;exact ⟨cs,len,g1,QoW,g4⟩
theorem Nw {n:Nat} {u:Unit} (h:Y1 n=some u):n<=140737488355328:=by
 unfold Y1 at h;cases hb:Nat.ble n 140737488355328 with
 |true=>simp_all
 |false=>simp_all
theorem Q9X {tt:TT} (hT:TOk P tt) {t:TypeId} {l c:Operand} (ho:o.op = .makeSlice t l c) {u:Bool} {a6:Nat} {k:Dl->oP R} {r:R}
  (h:Qdq tt hl a6 u t (ev l) (ev c) k=some r):∃ dl,k dl=some r/\GC P E o ev hl dl:=by
 unfold Qdq at h;cases u with
 |false=>simp at h
 |true=>
  simp only [Qpa] at h;split at h
  case h_2=>cases h
  rename_i e ak kn n km m hk ba bj;split at h
  case h_2=>cases h
  rename_i ei au;cases hc:(Nat.ble 1 ei.bytes&&Nat.beq (NC tt e).length ak) with
  |false=>simp_all
  |true=>
   simp only [hc,Qpa] at h;simp only [Qp7] at hc;have ar:=Qph hc.1;have ay:=Qp8 hc.2;have a8:NC tt e=ei.zd:=by simp [NC,au]
   rw [a8] at ay h;obtain ⟨_,h,bi⟩:=QO h;obtain ⟨_,h,aj⟩:=QO h;have aj:=Nw (aj rfl);have bo:0<=n/\n<=m:=by
    have:=bi rfl;cases hd:(decide (0<=n)&&decide (n<=m)) with
    |true=>simpa using hd
    |false=>simp [hd] at this
   obtain ⟨hn,h⟩:=US h;obtain ⟨ti,bg,bb⟩:=Xu hk QoY;obtain ⟨hu,bm,inf,an,az⟩:=(hT t ti bg).ksl _ _ bb;obtain ⟨bl,ac,a2,bc,z,hz,a5⟩:=(hT e ei au).inf;rw [an] at ac;injection ac with ac
   subst ac;have ao:z.cells.size=ak:=by rw [<- Qpj,a5,(hT e ei au).zlen,<- a2,az]
   have bk:m.toNat<=140737488355328:=Nat.le_trans (by have:=Qpu m.toNat ar;omega) aj;have bh:IntKind.i64.wrap m=m:=by unfold IntKind.wrap;simp [IntKind.bits,IntKind.signed];omega
   have a7:IntKind.i64.wrap n=n:=by unfold IntKind.wrap;simp [IntKind.bits,IntKind.signed];omega
   refine ⟨_,h,Ab hn fun β S st a w hR hO _=>?_⟩;have a3:=(ba▸hO.at (x:=l) (by simp [ho,Op.operands])).int_inv;have a4:=(bj▸hO.at (x:=c) (by simp [ho,Op.operands])).int_inv;have base:UV S w ((Array.range (m.toNat*z.cells.size)).map (z.cells[· % z.cells.size]!)) z.cells.size (List.replicate n.toNat ei.zd):=
    UV.zero (by rw [ay,ao]) (Qea hT au (by rw [ay,<- a2,az]) a5) QoW
   rw [ao] at base;refine ⟨_,m.toNat,?_,?_,?_,?_,base⟩
   ·have aq:(m<0||(inf.bytes:Int)*m>2 ^ 48)=false:=by
     rw [bc];have h1:((ei.bytes:Int)*m)=((m.toNat*ei.bytes:Nat):Int):=by
      rw [Int.natCast_mul,Int.toNat_of_nonneg QoW,Int.mul_comm]
     have h2:¬ m<0:=QoW
     have h3:¬ ((m.toNat*ei.bytes:Nat):Int)>2 ^ 48:=QoW
     rw [h1,decide_eq_false h2,decide_eq_false h3];rfl
    have a9:((m<0||(inf.bytes:Int)*m>2 ^ 48)||n<0||n>m)=false:=by
     rw [aq];simp;omega
    unfold execOp;rw [ho];simp only [Instr.makeSlice,Qp9,QA hu,asInt,asIntOf,a3,a4,Yi an,Qp5,Qps,bh,a7,a9,Bool.false_eq_true,if_false,run_askRoom,sizeOf,az];by_cases h0:m.toNat*ak=0
    ·have ax:((Array.range (m.toNat*ak)).map ((#[]:Array Value)[· % (#[]:Array Value).size]!))=((Array.range (m.toNat*ak)).map (z.cells[· % ak]!)):=by rw [h0];simp
     simp only [h0,if_true,Qp9,Qps,Qp5];rw [h0] at ax;rw [ax];simp [newRow]
    ·simp only [h0,if_false,Qp9,zeroValue,Yi an,hz,Qp5,Qps,ao];simp [newRow]
   ·simp
   ·simp;omega
   ·unfold maxLen;omega
end
end Go.Vx
namespace Go.Vx
variable {β:Nat->oP Nat} {S:Nat->Prop} {w:World} {a:Act}
section
variable {P:Program} {E:Env} {R:Type}
theorem Rd.one {v:Value} {x:D} (h:Rd S w v x):v.oneCell'=true:=by cases h <;> rfl
structure Src (S:Nat->Prop) (w:World) (esz:Nat) (v:Value) (news:List (List D)) (vals:List Value):Prop where
 form:(v = .slice none 0 0/\news=[])\/(∃ c,v = .slice none 0 c/\news=[])\/∃ (ad:Addr) (c:Nat),v = .slice (some ad) news.length c/\∀ (j:Nat) (u:Value),vals[j]? = some u->w.cell? (ad.add j)=some u
 len:vals.length=news.length*esz
 one:∀ u∈vals,u.oneCell'=true
 row:∀ (i:Nat) (r:List D),news[i]? = some r->r.length=esz
 rd:∀ (i j:Nat) (r:List D) (x:D),news[i]? = some r->r[j]? = some x->∃ u,vals[i*esz+j]? = some u/\Rd S w u x
theorem Src.of_fun {ac:Nat} {news:List (List D)} {ad:Addr} {c:Nat} (f:Nat->Value) (ak:0<ac) (aj:∀ (i:Nat) (r:List D),news[i]? = some r->r.length=ac)
  (hc:∀ (i j:Nat) (r:List D) (x:D),news[i]? = some r->r[j]? = some x->w.cell? (ad.add (i*ac+j))=some (f (i*ac+j))/\Rd S w (f (i*ac+j)) x) :
  ∃ vals,Src S w ac (.slice (some ad) news.length c) news vals:=by
 have split:∀ q,q<news.length*ac->∃ i j r x,q=i*ac+j/\news[i]? = some r/\r[j]? = some x:=by
  intro q hq;have hi:q / ac<news.length:=Nat.div_lt_of_lt_mul (by grind);have hj:q % ac<ac:=Nat.mod_lt _ ak;have h1:news[q / ac]? = some (news[q / ac]):=Qpl hi;have h2:=aj _ _ h1;refine ⟨q / ac,q % ac,news[q / ac],(news[q / ac])[q % ac]'QoW,?_,h1,Qpl _⟩
  grind [Nat.mul_comm,Nat.div_add_mod]
 refine ⟨(List.range (news.length*ac)).map f,⟨.inr (.inr ⟨ad,c,rfl,fun j u hu=>?_⟩),by simp,fun u hu=>?_,aj,fun i j r x h1 h2=>?_⟩⟩
 ·grind
 ·obtain ⟨q,hq,rfl⟩:=List.mem_map.1 hu;obtain ⟨i,j',r,x,rfl,h1,h2⟩:=split q Qp2;exact (hc i j' r x h1 h2).2.one
 ·have hi:i<news.length:=(Qp6.1 h1).1;have hj:j<ac:=by have:=aj i r h1;have:=(Qp6.1 h2).1;omega
  have an:(i+1)*ac<=news.length*ac:=Qpc _ hi
  grind
theorem Q31 {ac:Nat} (an:0<ac) {hl:Nat->oP Ob} {av:AV} {news:List (List D)} {rx:List Nat} (h:Q0y ac hl av=some (news,rx))
  {st:St} (hR:Rel E β S st a w) {v:Value} (hv:RdA β S (look st.h) w (tmv a) v av) (hA:∀ l,l∈rx->look st.h l=hl l):∃ vals,Src S w ac v news vals:=by
 have ak:∀ v,(v = .slice none 0 0\/∃ c,v = .slice none 0 c)->Src S w ac v [] []:=fun v hv=>
  ⟨by grind,by simp,by simp,by simp,by simp⟩
 unfold Q0y at h;split at h
 ·rename_i s rows;cases hb:Nat.beq s ac with
  |false=>simp_all
  |true=>
   obtain rfl:=Qp8 hb;simp only [hb,Qpa,Option.some.injEq,Prod.mk.injEq] at h;obtain ⟨rfl,rfl⟩:=h;rcases hv.d_inv.sl_inv with ⟨rfl,ad,cap,rfl⟩ | ⟨ad,cap,c,rfl,hS,ao,aq,hc,hr⟩
   ·cases ad with
    |none=>exact ⟨[],ak _ (.inr ⟨cap,rfl⟩)⟩
    |some ad=>exact ⟨[],⟨.inr (.inr ⟨ad,cap,rfl,by simp⟩),by simp,by simp,by simp,by simp⟩⟩
   ·refine Src.of_fun (fun q=>c (q / s) (q % s)) an aq fun i j r x h1 h2=>?_
    have hj:j<s:=by grind
    simp_all [Nat.add_comm,Nat.add_mul_div_right,Nat.div_eq_of_lt,Nat.zero_add,Nat.add_mul_mod_self_right,Nat.mod_eq_of_lt]
 ·cases h;exact ⟨[],ak _ (.inl hv.nil_inv)⟩
 ·rename_i l;split at h
  ·rename_i e s rows a7;cases hb:Nat.beq s ac with
   |false=>simp [hb] at h
   |true=>
    obtain rfl:=Qp8 hb;simp only [hb,Qpa,Option.some.injEq,Prod.mk.injEq] at h;obtain ⟨rfl,rfl⟩:=h;have au:look st.h l=some (.arr e s rows):=by simp_all
    rcases RdA.arr_inv au hv with ⟨_,rfl,rfl⟩ | ⟨b,cap,cs,ty,fz,aw,rfl,hw,a8,ao,a6⟩
    ·exact ⟨[],ak _ (.inl rfl)⟩
    ·rcases hR.hr.ob l _ au with ⟨hn,_⟩ | ⟨b2,ay,ar,a2,aq,a3,a5⟩
     ·rw [aw] at hn;cases hn
     obtain rfl:b=b2:=by rw [aw] at ar;injection ar
     refine Src.of_fun (fun q=>ay.getD q undef) an a3 fun i j r x h1 h2=>?_
     obtain ⟨u,hu,a4⟩:=a5 i j r x h1 h2;have az:=(Qpk.1 hu).1;have aj:=Hx az;refine ⟨by rw [G4,Nat.zero_add,J8 a2];exact aj,?_⟩;rw [hu] at aj;injection aj with aj
     rw [<- aj];exact a4
  ·cases h
 ·cases h
theorem KG {t ty e:Nat} {i:TypeInfo} {z:Value} {aj base:Nat} (ht:P.underlying t=some (.slice e)) (hi:P.info? e=some i) (hz:i.zero=some z) (aq:i.size=aj) (az:z.cells.size=aj) (au:0<aj)
  {v:Value} {n:Nat} {xs:List Value} (an:w.ownsRow base e aj v n xs) {x:Value} {news:List (List D)} {vals:List Value} (ak:Src S w aj x news vals)
  (ax:n+news.length<=maxLen) (ao:(n+news.length)*i.bytes<=140737488355328) (ar:base<=w.heap.size) :
  ∃ v' w',(Builtin.append_ #[t,t] ty #[v,x]).run P w = .ok v' w'/\w'.ownsRow base e aj v' (n+news.length) (xs++vals)/\w.grownBy w' v.ownBlock/\(v'.ownBlock=v.ownBlock\/v'.ownBlock=some w.heap.size):=by
 have ac:∀ c,x = .slice none 0 c->news=[]->∃ v' w',(Builtin.append_ #[t,t] ty #[v,x]).run P w = .ok v' w'/\w'.ownsRow base e aj v' (n+news.length) (xs++vals)/\w.grownBy w' v.ownBlock/\(v'.ownBlock=v.ownBlock\/v'.ownBlock=some w.heap.size):=by
  intro c hx hn;subst hx;subst hn;have hv:vals=[]:=Qpf (by simpa using ak.len);subst hv;refine ⟨v,w,?_,by simpa using an,⟨rfl,rfl,rfl,Qpt _,fun _ _ _=>rfl⟩,.inl rfl⟩;rcases an.2 with ⟨rfl,rfl⟩ | ⟨g,cap,a4,rfl,_,_,ay,_⟩
  ·simp [Builtin.append_,QA ht,sizeOf,Yi hi,Builtin.lenOf,Builtin.firstCells]
  ·simp [Builtin.append_,QA ht,sizeOf,Yi hi,Builtin.lenOf,Builtin.firstCells,ay,storeCells]
 rcases ak.form with ⟨h1,h2⟩ | ⟨c,h1,h2⟩ | ⟨ad,c,rfl,hc⟩
 ·exact ac 0 h1 h2
 ·exact ac c h1 h2
 ·obtain ⟨v',w',g1,g2,g3,_,g5⟩:=run_append_own_at (P:=P) w base t ty e i z aj i.bytes ht hi hz aq rfl az au v n xs an ad news.length c vals ak.len hc ak.one ax ao ar;exact ⟨v',w',g1,g2,g3,g5⟩
theorem T2 {o:Oper} {c:Call} {s x:Operand} {t:Nat} (ho:o.op = .call c) (hc:c.callee = .builtin .append) (ha:c.args.toList=[s,x]) (hat:c.argTypes.toList=[t,t]) {w w':World} {v':Value}
  (h:(Builtin.append_ #[t,t] o.type #[a.eval s,a.eval x]).run P w = .ok v' w'):(execOp a.eval o).run P w = .ok (.value v') w':=by
 have aj:c.args = #[s,x]:=by grind
 have ac:c.argTypes = #[t,t]:=by grind
 simp_all [execOp,resolve,invoke,builtin,Qp9,Qps,Qp5,List.map_toArray,Qpz,List.map_nil]
def Cf (old:oP Nat) (h:List (Nat×Ob)):List (Nat×Ob):=
 match old with
 |some l=>rem l h
 |none=>h
theorem SU {st:St} {w w':World} (hR:Rel E β S st a w) {ac e aj:Nat} {rows news:List (List D)} {vals:List Value} (bp:∀ (i j:Nat) (r:List D) (x:D),news[i]? = some r->r[j]? = some x->∃ u,vals[i*aj+j]? = some u/\Rd S w u x) (br:∀ (i:Nat) (r:List D),news[i]? = some r->r.length=aj)
  (hn:look st.h ac=none) (hc:Ut st ac=true) {v v':Value} {base:Nat} {xs:List Value} (old:oP Nat)
  (ao:∀ l,old=some l->(look st.h l).isSome=true)
  (aq:∀ b,v.ownBlock=some b->∃ l,old=some l/\β l=some b)
  (bx:∀ (i j:Nat) (r:List D) (y:D),rows[i]? = some r->r[j]? = some y->∃ u,xs[i*aj+j]? = some u/\Rd S w u y) (bm:∀ (i:Nat) (r:List D),rows[i]? = some r->r.length=aj) (bo:xs.length=rows.length*aj)
  (a8:w'.ownsRow base e aj v' (rows.length+news.length) (xs++vals)) (hg:w.grownBy w' v.ownBlock) (hat:v'.ownBlock=v.ownBlock\/∀ b,v'.ownBlock=some b->w.heap.size<=b) :
  ∃ β' S',Rel E β' S' ⟨st.n,st.tm,(ac,.arr e aj (rows++news))::rem ac (Cf old st.h)⟩ a w' /\
   RdA β' S' (look ((ac,.arr e aj (rows++news))::rem ac (Cf old st.h))) w' (tmv a) v' (.arr ac):=by
 have ax:∀ k,look ((ac,Ob.arr e aj (rows++news))::rem ac (Cf old st.h)) k=if k=ac then some (.arr e aj (rows++news)) else if old=some k then none else look st.h k:=by
  intro k;rw [WK];by_cases e1:k=ac
  ·simp [e1]
  ·rw [Qpi e1,Qpi e1];cases old with
   |none=>simp [Cf]
   |some l=>
    simp only [Cf,CE,Option.some.injEq];by_cases e2:k=l
    ·simp [e2]
    ·rw [Qpi e2,Qpi (fun h=>e2 h.symm)]
 have ba:∀ b,S b->w'.heap[b]? = w.heap[b]?:=fun b hS=>hg.block b (hR.hr.sb b hS) (fun e1=>by
  obtain ⟨l,hl,hb⟩:=aq b e1.symm;exact hR.hr.apart l b (ao l hl) hb hS)
 have a5:∀ k b,(look st.h k).isSome=true->old≠some k->β k=some b->w'.heap[b]? = w.heap[b]?:=fun k b hs aw hb=>hg.block b (HX hR hs hb) (fun e1=>by
  obtain ⟨l,hl,au⟩:=aq b e1.symm;exact aw (by rw [hl,hR.hr.inj k l b hs (ao l hl) hb au]))
 have bz:(xs++vals).length=(rows.length+news.length)*aj:=a8.1;have a4:∀ (i j:Nat) (r:List D) (y:D),(rows++news)[i]? = some r->r[j]? = some y->∃ u,(xs++vals)[i*aj+j]? = some u/\Rd S w' u y:=by
  intro i j r y h1 h2;by_cases hi:i<rows.length
  ·rw [List.getElem?_append_left hi] at h1;obtain ⟨u,hu,hr⟩:=bx i j r y h1 h2;refine ⟨u,?_,hr.mono (fun _ h=>h) ba⟩;rw [List.getElem?_append_left ((Qp6.1 hu).1)];exact hu
  ·rw [List.getElem?_append_right QoW] at h1;obtain ⟨u,hu,hr⟩:=bp _ j r y h1 h2;refine ⟨u,?_,hr.mono (fun _ h=>h) ba⟩;have hm:i*aj=(i-rows.length)*aj+rows.length*aj:=by rw [<- Nat.add_mul];congr 1;omega
   rw [List.getElem?_append_right QoW,bo,show i*aj+j-rows.length*aj=(i-rows.length)*aj+j from QoW];exact hu
 have bc:∀ (i:Nat) (r:List D),(rows++news)[i]? = some r->r.length=aj:=by
  intro i r h1;by_cases hi:i<rows.length
  ·rw [List.getElem?_append_left hi] at h1;exact bm i r h1
  ·rw [List.getElem?_append_right QoW] at h1;exact br _ r h1
 obtain ⟨gb,ay,bq,bv⟩:∃ gb:oP Nat,v'.ownBlock=gb/\(∀ β',β' ac=gb->ObR β' S (look ((ac,Ob.arr e aj (rows++news))::rem ac (Cf old st.h))) w' ac (.arr e aj (rows++news))) /\
   ∀ β',β' ac=gb->RdA β' S (look ((ac,.arr e aj (rows++news))::rem ac (Cf old st.h))) w' (tmv a) v' (.arr ac):=by
  rcases a8.2 with ⟨rfl,h0⟩ | ⟨g,cap,bh,rfl,_,hw,a6,bn,bj,a9⟩
  ·have bk:rows++news=[]:=Qpf (by simpa using h0);refine ⟨none,rfl,fun β' hb=>.inl ⟨hb,bk⟩,fun β' hb=>.arr0 ac e aj hb (by rw [ax,Qpm rfl,bk])⟩
  ·have bg:(rows++news).length=rows.length+news.length:=by simp
   refine ⟨some g,rfl,fun β' hb=>.inr ⟨g,bh,hb,hw,?_,bc,fun i j r y h1 h2=>?_⟩,fun β' hb=>?_⟩
   ·rw [bg,bj];exact Qpc _ a6
   ·obtain ⟨u,hu,hr⟩:=a4 i j r y h1 h2;refine ⟨u,?_,hr⟩;rw [<- a9,List.getElem?_take] at hu;split at hu
    ·simpa using hu
    ·cases hu
   ·have:=RdA.arr (S:=S) (tm:=tmv a) (h:=look ((ac,Ob.arr e aj (rows++news))::rem ac (Cf old st.h))) ac g cap e aj (rows++news) bh e (0,0) hb (by rw [ax,Qpm rfl]) hw bj (by rw [bg];exact a6) bn;rw [bg] at this;exact this
 have a2:∀ k b,k≠ac->(look st.h k).isSome=true->old≠some k->β k=some b->gb=some b->False:=by
  intro k b _ hs aw hb he;rcases hat with h | h
  ·obtain ⟨l,hl,au⟩:=aq b (by rw [<- h,ay,he]);exact aw (by rw [hl,hR.hr.inj k l b hs (ao l hl) hb au])
  ·have:=h b (by rw [ay,he]);have:=HX hR hs hb;omega
 have an:∀ k,k≠ac->(look ((ac,Ob.arr e aj (rows++news))::rem ac (Cf old st.h)) k).isSome=true->(look st.h k).isSome=true/\old≠some k:=by
  intro k hk hs;rw [ax,Qpi hk] at hs;by_cases e1:old=some k
  ·rw [Qpm e1] at hs;cases hs
  ·rw [Qpi e1] at hs;exact ⟨hs,e1⟩
 have bl:old≠some ac:=fun e1=>by have:=ao ac e1;rw [hn] at this;cases this
 refine ⟨Rl β ac gb,S,?_,bv _ (by simp [Rl])⟩;refine hR.upd (fun _ h=>h) ba (fun k=>k=ac\/old=some k) (fun k hk=>?_) (fun k hk=>?_) (fun k o hk ho=>?_) ?_ ?_ ?_ (fun b hS=>Qpw (hR.hr.sb b hS) hg.size) hR.hr.sfr ?_
 ·have a3:k≠ac:=fun h=>hk (.inl h)
  have bi:old≠some k:=fun h=>hk (.inr h)
  exact ⟨by simp [Rl,a3],by rw [ax,Qpi a3,Qpi bi],fun b hs hb=>a5 k b hs bi hb⟩
 ·rcases hk with rfl | hk
  ·exact .inr hc
  ·left;have a3:k≠ac:=fun h=>bl (h▸hk)
   have ar:look ((ac,Ob.arr e aj (rows++news))::rem ac (Cf old st.h)) k=none:=by rw [ax,Qpi a3,Qpm hk]
   exact ⟨by simp [Rl,a3],fun _=>ar,fun _ _ _ _=>.inl ar,fun b cs ty fz hs=>(by rw [ar] at hs;cases hs),fun _ _ _=>.inl ar⟩
 ·by_cases e1:k=ac
  ·subst e1;rw [ax,Qpm rfl] at ho;injection ho with ho
   subst ho;exact bq _ (by simp [Rl])
  ·rcases hk with h | h
   ·exact absurd h e1
   ·rw [ax,Qpi e1,Qpm h] at ho;cases ho
 ·intro k k' b h1 h2 h3 h4;unfold Rl at h3 h4;by_cases e1:k=ac <;> by_cases e2:k'=ac
  ·rw [e1,e2]
  ·rw [Qpm e1] at h3;rw [Qpi e2] at h4;obtain ⟨hs,aw⟩:=an k' e2 h2;exact (a2 k' b e2 hs aw h4 h3).elim
  ·rw [Qpi e1] at h3;rw [Qpm e2] at h4;obtain ⟨hs,aw⟩:=an k e1 h1;exact (a2 k b e1 hs aw h3 h4).elim
  ·rw [Qpi e1] at h3;rw [Qpi e2] at h4;exact hR.hr.inj k k' b (an k e1 h1).1 (an k' e2 h2).1 h3 h4
 ·intro k b h1 h2 hS;unfold Rl at h2;by_cases e1:k=ac
  ·rw [Qpm e1] at h2;rcases hat with h | h
   ·obtain ⟨l,hl,au⟩:=aq b (by rw [<- h,ay,h2]);exact hR.hr.apart l b (ao l hl) au hS
   ·have:=h b (by rw [ay,h2]);have:=hR.hr.sb b hS;omega
  ·rw [Qpi e1] at h2;exact hR.hr.apart k b (an k e1 h1).1 h2 hS
 ·intro k b h1 h2;unfold Rl at h2;by_cases e1:k=ac
  ·rw [Qpm e1] at h2;rcases hat with h | h
   ·obtain ⟨l,hl,au⟩:=aq b (by rw [<- h,ay,h2]);exact hR.hr.own l b (ao l hl) au
   ·have:=h b (by rw [ay,h2]);right;have:=hR.hr.fr.size;omega
  ·rw [Qpi e1] at h2;exact hR.hr.own k b (an k e1 h1).1 h2
 ·have fr:=hR.hr.fr;refine ⟨hg.os.trans fr.os,hg.tape.trans fr.tape,hg.output.trans fr.output,Nat.le_trans fr.size hg.size,fun b hb hM=>(hg.block b (Qpw hb fr.size) (fun e1=>?_)).trans (fr.block b hb hM)⟩;obtain ⟨l,hl,au⟩:=aq b e1.symm;rcases hR.hr.own l b (ao l hl) au with h | h
  ·exact hM h
  ·omega
theorem EL {st:St} {w w':World} (hR:Rel E β S st a w) {ac e aj:Nat} {rows news:List (List D)} {vals:List Value} {x:Value} (ak:Src S w aj x news vals)
  (hn:look st.h ac=none) (hc:Ut st ac=true) {v v':Value} {base:Nat} {xs:List Value} (old:oP Nat)
  (ao:∀ l,old=some l->(look st.h l).isSome=true)
  (ar:∀ b,v.ownBlock=some b->∃ l,old=some l/\β l=some b)
  (aw:∀ (i j:Nat) (r:List D) (y:D),rows[i]? = some r->r[j]? = some y->∃ u,xs[i*aj+j]? = some u/\Rd S w u y) (aq:∀ (i:Nat) (r:List D),rows[i]? = some r->r.length=aj) (au:xs.length=rows.length*aj)
  (an:w'.ownsRow base e aj v' (rows.length+news.length) (xs++vals)) (hg:w.grownBy w' v.ownBlock) (hat:v'.ownBlock=v.ownBlock\/v'.ownBlock=some w.heap.size) :
  ∃ β' S',Rel E β' S' ⟨st.n,st.tm,(ac,.arr e aj (rows++news))::rem ac (Cf old st.h)⟩ a w' /\
   RdA β' S' (look ((ac,.arr e aj (rows++news))::rem ac (Cf old st.h))) w' (tmv a) v' (.arr ac):=
 SU hR ak.rd ak.row hn hc old ao ar aw aq au an hg (hat.imp id fun h b hb=>by rw [h] at hb;injection hb with hb;omega)
theorem Q5B {tt:TT} (hT:TOk P tt) {o:Oper} {c:Call} {s x:Operand} {t:Nat} (ho:o.op = .call c) (az:c.callee = .builtin .append) (ha:c.args.toList=[s,x]) (hat:c.argTypes.toList=[t,t]) {g:Bool} {ao:Nat} {ev:Operand->AV} {hl:Nat->oP Ob} {k:Dl->oP R} {r:R}
  (h:Q5I tt ao g hl t (ev s) (ev x) k=some r):∃ dl,k dl=some r/\(g=true->GC P E o ev hl dl):=by
 have bo:c.args = #[s,x]:=by grind
 have bv:s∈o.op.operands.toList:=by grind [Op.operands,Call.operands]
 have bq:x∈o.op.operands.toList:=by simp [ho,Op.operands,Call.operands,az,bo]
 unfold Q5I at h
 ·split at h
  case h_2=>cases h
  rename_i e ak hk;split at h
  case h_2=>cases h
  rename_i ei cn;cases hc:(Nat.ble 1 ei.bytes&&Nat.beq ei.zero.length ak) with
  |false=>simp_all
  |true=>
   simp only [hc,Qpa] at h;simp only [Qp7] at hc;have aw:=Qph hc.1;split at h
   case h_2=>cases h
   rename_i news rx a2;obtain ⟨ti,c2,cp⟩:=Xu hk QoY;obtain ⟨hu,aq,inf,ax,bc⟩:=(hT t ti c2).ksl _ _ cp;obtain ⟨c5,au,da,bg,z,hz,cr⟩:=(hT e ei cn).inf;rw [ax] at au;injection au with au
   subst au;have a4:z.cells.size=ak:=by rw [<- Qpj,cr];exact Qp8 hc.2
   split at h
   ·-- nil
    rename_i a9;obtain ⟨_,h,ac⟩:=QO h;obtain ⟨hn,h⟩:=US h;refine ⟨_,h,fun hg=>?_⟩;have ac:=Nw (ac hg);intro β S st a w hR hO hA a7 K Q hK;have ar:look st.h ao=none:=by rw [hA ao (.inr (by simp [wrL]))];exact hn
    have a5:Ut st ao=true:=by simpa [Wc,ar] using a7
    have hv:=(a9▸hO.at bv).nil_inv;obtain ⟨vals,aj⟩:=Q31 aq a2 hR (hO.at bq) (fun l a3=>hA l (.inl a3));have bi:news.length<=140737488355328:=Nat.le_trans (by have:=Qpu news.length aw;omega) ac;obtain ⟨v',w',g1,g2,g3,g4⟩:=KG (ty:=o.type) hu ax hz bc a4 aq (World.ownsRow_nil w w.heap.size e ak) aj (by unfold maxLen;omega) (by rw [bg];simpa using ac) (Qpt _);unfold Oper.wp;rw [T2 ho az ha hat (by rw [hv];exact g1)];refine hK _ _ ?_;have:=EL (rows:=[]) (v:=.slice none 0 0) hR aj ar a5 none (fun _ h=>by cases h) (fun b h=>by simp [Value.ownBlock] at h) (fun i j r y h1=>by simp at h1) (fun i r h1=>by simp at h1) QoY g2 g3 g4;exact this
   ·-- a full slice
    rename_i s0 rows a9;cases hb:Nat.beq s0 ak with
    |false=>simp [hb] at h
    |true=>
     simp only [hb,Qpa] at h;obtain rfl:=Qp8 hb;obtain ⟨_,h,a8⟩:=QO h;obtain ⟨_,h,ac⟩:=QO h;obtain ⟨hn,h⟩:=US h;refine ⟨_,h,fun hg=>?_⟩;have ac:=Nw (ac hg);have a8:news≠[]:=fun e=>by have:=a8 hg;rw [e] at this;cases this
     intro β S st a w hR hO hA a7 K Q hK;have ar:look st.h ao=none:=by rw [hA ao (.inr (by simp [wrL]))];exact hn
     have a5:Ut st ao=true:=by simpa [Wc,ar] using a7
     obtain ⟨ad,hv,br⟩:=(a9▸hO.at bv).fs_inv;obtain ⟨vals,aj⟩:=Q31 aq a2 hR (hO.at bq) (fun l a3=>hA l (.inl a3));have bi:rows.length+news.length<=140737488355328:=Nat.le_trans (by have:=Qpu (rows.length+news.length) aw;omega) ac;have de:0<news.length:=List.length_pos_iff.2 a8;obtain ⟨sa,sc,cq,c3⟩:∃ (sa:Addr) (sc:Nat),a.eval x = .slice (some sa) news.length sc/\∀ (j:Nat) (u:Value),vals[j]? = some u->w.cell? (sa.add j)=some u:=by
      rcases aj.form with ⟨_,h2⟩ | ⟨_,_,h2⟩ | ⟨sa,sc,h1,h2⟩
      ·exact absurd h2 a8
      ·exact absurd h2 a8
      ·exact ⟨sa,sc,h1,h2⟩
     obtain ⟨ce,ay⟩:=Q31 (hl:=hl) (av:=.d (.sl s0 rows)) (news:=rows) (rx:=[]) aq (by simp [Q0y]) hR (.d _ _ br) (fun l a3=>by cases a3);have bj:∀ c,a.eval s = .slice none 0 c->rows=[]->o.wp P a w K Q:=by
      intro c ca a6;have cy:a.eval s = .slice none 0 0:=by
       rw [hv,a6] at ca ⊢;injection ca with h1 h2 h3
       rw [h1];rfl
      subst a6;obtain ⟨v',w',g1,g2,g3,g4⟩:=KG (ty:=o.type) hu ax hz bc a4 aq (World.ownsRow_nil w w.heap.size e s0) aj (by unfold maxLen;omega) (by rw [bg];simpa using ac) (Qpt _);unfold Oper.wp;rw [T2 ho az ha hat (by rw [cy];exact g1)];refine hK _ _ ?_;exact EL (rows:=[]) (v:=.slice none 0 0) hR aj ar a5 none (fun _ h=>by cases h) (fun b h=>by simp [Value.ownBlock] at h) (fun i j r y h1=>by simp at h1) (fun i r h1=>by simp at h1) QoY g2 g3 g4
     rcases ay.form with ⟨h1,h2⟩ | ⟨c,h1,h2⟩ | ⟨oa,oc,h1,h2⟩
     ·exact bj _ h1 h2
     ·exact bj _ h1 h2
     ·have dd:oc=rows.length:=by
       rw [hv] at h1;injection h1 with _ _ h3
       exact h3.symm
      obtain ⟨v',w',g1,g2,g3⟩:=run_append_arg_grows (P:=P) w t o.type e inf z s0 inf.bytes hu ax hz bc rfl a4 aq oa rows.length oc ce ay.len h2 sa news.length sc vals aj.len c3 QoW (by unfold maxLen;omega) (by rw [bg];exact ac);unfold Oper.wp;rw [T2 ho az ha hat (by rw [h1,cq];exact g1)];refine hK _ _ ?_;refine SU (rows:=rows) (v:=.slice none 0 0) hR aj.rd aj.row ar a5 none (fun _ h=>by cases h) (fun b h=>by simp [Value.ownBlock] at h) ay.rd ay.row ay.len g2 g3 (.inr fun b hb=>?_);rcases g2.2 with ⟨rfl,_⟩ | ⟨g,cap,c8,rfl,db,_⟩
      ·simp [Value.ownBlock] at hb
      ·simp [Value.ownBlock] at hb;omega
   ·-- an array of the call's own
    rename_i l a9;split at h
    ·rename_i e' s' rows b4;cases hb:(Nat.beq e e'&&Nat.beq ak s') with
     |false=>simp [hb] at h
     |true=>
      simp only [hb,Qpa] at h;simp only [Qp7] at hb;obtain rfl:=Qp8 hb.1;obtain rfl:=Qp8 hb.2;obtain ⟨_,h,ac⟩:=QO h;obtain ⟨hn,h⟩:=US h;refine ⟨_,h,fun hg=>?_⟩;have ac:=Nw (ac hg);intro β S st a w hR hO hA a7 K Q hK;have ar:look st.h ao=none:=by rw [hA ao (.inr (by simp [wrL]))];exact hn
      have ba:look st.h l=some (.arr e ak rows):=by rw [hA l (.inl QoY)];exact b4
      have a5:Ut st ao=true:=by simp [Wc,ar] at a7;exact a7
      obtain ⟨vals,aj⟩:=Q31 aq a2 hR (hO.at bq) (fun l a3=>hA l (.inl (by simp [a3])));have bi:rows.length+news.length<=140737488355328:=Nat.le_trans (by have:=Qpu (rows.length+news.length) aw;omega) ac;have b5:∀ (base:Nat) (xs:List Value) (v:Value),a.eval s=v->w.ownsRow base e ak v rows.length xs->base<=w.heap.size->(∀ b,v.ownBlock=some b->β l=some b) ->
        (∀ (i j:Nat) (r:List D) (y:D),rows[i]? = some r->r[j]? = some y->∃ u,xs[i*ak+j]? = some u/\Rd S w u y)->(∀ (i:Nat) (r:List D),rows[i]? = some r->r.length=ak)->o.wp P a w K Q:=by
       intro base xs v hv bk bn b9 cx cc;obtain ⟨v',w',g1,g2,g3,g4⟩:=KG (ty:=o.type) hu ax hz bc a4 aq bk aj (by unfold maxLen;omega) (by rw [bg];exact ac) bn;unfold Oper.wp;rw [T2 ho az ha hat (by rw [hv];exact g1)];refine hK _ _ ?_;exact EL (rows:=rows) (v:=v) hR aj ar a5 (some l) (fun l' h=>by injection h with h;subst h;simp [ba]) (fun b h=>⟨l,rfl,b9 b h⟩) cx cc bk.1 g2 g3 g4
      rcases RdA.arr_inv ba (a9▸hO.at bv) with ⟨_,a6,hv⟩ | ⟨b,cap,cs,ty,fz,bp,hv,hw,b8,b1,cf⟩
      ·have:=World.ownsRow_nil w w.heap.size e ak;exact b5 w.heap.size [] _ hv (by rw [a6];exact this) (Qpt _) (fun b h=>by simp [Value.ownBlock] at h) (fun i j r y h1=>by rw [a6] at h1;simp at h1) (fun i r h1=>by rw [a6] at h1;simp at h1)
      ·rcases hR.hr.ob l _ ba with ⟨cj,_⟩ | ⟨b2,cw,b7,bm,c6,b6,br⟩
       ·rw [bp] at cj;cases cj
       obtain rfl:b=b2:=by rw [bp] at b7;injection b7
       obtain rfl:cs=cw:=by rw [hw] at bm;injection bm with h1;injection h1
       refine b5 0 (cs.toList.take (rows.length*ak)) _ hv ⟨by simp;omega,.inr ⟨b,cap,cs,rfl,Nat.zero_le _,bm,b1,cf,b8,rfl⟩⟩ (Nat.zero_le _) (fun b3 h=>by simp [Value.ownBlock] at h;subst h;exact bp) (fun i j r y h1 h2=>?_) b6;obtain ⟨u,cm,cu⟩:=br i j r y h1 h2;have hi:i<rows.length:=(Qp6.1 h1).1;have hj:j<ak:=by have:=b6 i r h1;have:=(Qp6.1 h2).1;omega
       have c7:(i+1)*ak<=rows.length*ak:=Qpc _ hi;have cz:(i+1)*ak=i*ak+ak:=Qpy i _;exact ⟨u,by rw [List.getElem?_take,Qpm QoW];simpa using cm,cu⟩
    ·cases h
   ·cases h
end
end Go.Vx
namespace Go.Vx
section
variable {P:Program} {E:Env} {R:Type}
def KI (h:Nat->oP Ob):List (Nat×oP Ob)->Nat->oP Ob
 |[]=>h
 |(l,o)::r=>KI (fun k=>if k=l then o else h k) r
theorem KY:∀ (wr:List (Nat×oP Ob)) (h:List (Nat×Ob)),look (Md h wr)=KI (look h) wr
 |[],h=>rfl
 |(l,some o)::r,h=>by
  rw [Md,KI,KY r];congr 1;funext k;exact WK l k o h
 |(l,none)::r,h=>by
  rw [Md,KI,KY r];congr 1;funext k;exact CE l k h
theorem UM:∀ {wr:List (Nat×oP Ob)} {h:Nat->oP Ob} {l:Nat},l ∉ wr.map (·.1)->KI h wr l=h l
 |[],_,_,_=>rfl
 |(k,o)::r,h,l,hn=>by
  simp only [Qpz,Qpo,not_or] at hn;rw [KI,UM hn.2,Qpi hn.1]
structure CallOut (β:Nat->oP Nat) (S:Nat->Prop) (h:Nat->oP Ob) (w:World) (dl:Dl) (β':Nat->oP Nat) (S':Nat->Prop) (w':World) (v:Value):Prop where
 hs:∀ b,S b->S' b
 sf:∀ b,S' b->S b\/w.heap.size<=b\/∃ l,l∈wrL dl/\(h l).isSome=true/\β l=some b
 sb:∀ b,S' b->b<w'.heap.size
 fr:Fr (fun b=>∃ l,l∈wrL dl/\(h l).isSome=true/\β l=some b) w w'
 bsame:∀ l,l ∉ wrL dl->β' l=β l
 obs:∀ l o,l∈wrL dl->KI h dl.wr l=some o->ObR β' S' (KI h dl.wr) w' l o
 keep:∀ l,l∈wrL dl->(h l).isSome=true->Keep β h w β' (KI h dl.wr) w' l
 blk:∀ l b,l∈wrL dl->(KI h dl.wr l).isSome=true->β' l=some b->(w.heap.size<=b\/∃ l0,l0∈wrL dl/\(h l0).isSome=true/\β l0=some b)/\¬ S' b
 inj:∀ l l' b,l∈wrL dl->l'∈wrL dl->(KI h dl.wr l).isSome=true->(KI h dl.wr l').isSome=true->β' l=some b->β' l'=some b->l=l'
 none:∀ l,l∈wrL dl->h l=none->KI h dl.wr l=none->β' l=β l
 res:RdA β' S' (KI h dl.wr) w' tm0 v dl.v
 gd:∀ t,gds t dl.v=false
structure Objs (β:Nat->oP Nat) (S:Nat->Prop) (h:Nat->oP Ob) (w:World):Prop where
 ob:∀ l o,h l=some o->ObR β S h w l o
 inj:∀ l l' b,(h l).isSome=true->(h l').isSome=true->β l=some b->β l'=some b->l=l'
 apart:∀ l b,(h l).isSome=true->β l=some b->¬ S b
 sb:∀ b,S b->b<w.heap.size
def ArgsRd (β:Nat->oP Nat) (S:Nat->Prop) (h:Nat->oP Ob) (w:World) (args:List Value) (ac:List AV):Prop:=
 args.length=ac.length/\∀ (i:Nat) (v:Value) (av:AV),args[i]? = some v->ac[i]? = some av->RdA β S h w tm0 v av
def ZM (P:Program) (f:Nat) (avs:List AV) (hl:Nat->oP Ob) (dl:Dl):Prop:=
 (∃ fn, P.funcs[f]? = some fn /\ fn.body.isSome = true /\ (fn.name == "runtime.NumGoroutine") = false) /\
 ∀ β S h w args,Objs β S h w->ArgsRd β S h w args avs->(∀ l,l∈dl.rd\/l∈wrL dl->h l=hl l) ->
  Calls P f args.toArray w fun e w'=>∃ v β' S',e = .returned v/\CallOut β S h w dl β' S' w' v
def Dp (P:Program) (spec:Q4G):Prop:=
 ∀ (R:Type) (f aj:Nat) (g:Bool) (ac:List AV) (hl:Nat->oP Ob) (k:Dl->oP R) (r:R),spec R f aj g ac hl k=some r ->
  ∃ dl,k dl=some r/\(g=true->ZM P f ac hl dl)
theorem Rel.objs {β:Nat->oP Nat} {S:Nat->Prop} {st:St} {a:Act} {w:World} (hR:Rel E β S st a w):Objs β S (look st.h) w:=⟨hR.hr.ob,hR.hr.inj,hR.hr.apart,hR.hr.sb⟩
theorem Qbg {β:Nat->oP Nat} {S S2:Nat->Prop} {h:Nat->oP Ob} {w:World} {tm:Nat->Value} {v:Value} {av:AV} (hv:RdA β S h w tm v av) (hs:R7 av=true):RdA β S2 h w tm v av:=by
 have hL:∀ (l:List AV) (i:Nat) (x:AV),l[i]? = some x->Nb l=true->R7 x=true:=by
  intro l;induction l with
  |nil=>simp_all
  |cons a r ih=>
   intro i x h hs;simp only [Nb,Qp7] at hs
   grind
 induction hv with
 |top v=>exact .top v
 |d v x hx=>cases hx with
  |int k n=>exact .d _ _ (.int k n)
  |bool b=>exact .d _ _ (.bool b)
  |str s=>exact .d _ _ (.str s)
  |sl0 a c s=>trivial
  |sl=>simp [R7] at hs
 |nil=>exact .nil
 |ag cs l hl _ ih=>exact .ag cs l hl fun i x hx=>ih i x hx (hL l i x hx (by assumption))
 |tup cs l hl _ ih=>exact .tup cs l hl fun i x hx=>ih i x hx (hL l i x hx (by simpa [R7] using hs))
 |fn=>simp [R7] at hs
 |ptr l off b hb=>exact .ptr l off b hb
 |sa v l t b hb hv=>exact .sa v l t b hb hv
 |el=>simp [R7] at hs
 |fs=>simp [R7] at hs
 |mpd=>simp [R7] at hs
 |ex v=>exact .ex v
 |arr0 l e s hb hh=>exact .arr0 l e s hb hh
 |arr l b cap e s rows cs ty fz hb hh hw an aj ak=>exact .arr l b cap e s rows cs ty fz hb hh hw an aj ak
 |mp l b t f hb hh=>exact .mp l b t f hb hh
 |ap l i off b e s rows hb hh=>exact .ap l i off b e s rows hb hh
 |dang v av l hl hh h1=>exact .dang v av l hl hh h1
 |gdT=>simp [R7] at hs
 |gdF=>simp [R7] at hs
theorem Qcb {β β':Nat->oP Nat} {S S':Nat->Prop} {st:St} {a:Act} {w w':World} {v:Value} (hR:Rel E β S st a w) {dl:Dl} (a5:Wc st dl.wr=true) (hc:CallOut β S (look st.h) w dl β' S' w' v) :
  Rel E β' S' ⟨st.n,st.tm,Md st.h dl.wr⟩ a w':=by
 have ak:=KY dl.wr st.h;have a2:∀ b,S b->w'.heap[b]? = w.heap[b]?:=fun b hS=>hc.fr.block b (hR.hr.sb b hS) (fun ⟨l,_,hs,hb⟩=>hR.hr.apart l b hs hb hS)
 have ar:∀ l,l∈wrL dl->look st.h l=none->KI (look st.h) dl.wr l=none\/Ut st l=true:=by
  intro l hl hn;have:∀ (wr:List (Nat×oP Ob)) (h:Nat->oP Ob),Wc st wr=true->h l=none->KI h wr l=none\/Ut st l=true:=by
   intro wr;induction wr with
   |nil=>intro h _ hn;exact .inl hn
   |cons x r ih=>
    intro h au a4;obtain ⟨k,o⟩:=x;simp only [Wc,Qp7] at au;by_cases e:l=k
    ·subst e;cases o with
     |none=>exact ih _ au.2 QoY
     |some o=>
      simp_all
    ·exact ih _ au.2 Qp2
  simp_all
 refine hR.upd hc.hs a2 (fun l=>l∈wrL dl) (fun l hl=>?_) (fun l hl=>?_) (fun l o hl ho=>?_) ?_ ?_ ?_ hc.sb ?_ ?_
 ·refine ⟨hc.bsame l hl,by rw [ak];exact UM hl,fun b hs hb=>hc.fr.block b (HX hR hs hb) (fun ⟨l',aq,ao,aj⟩=>?_)⟩;exact hl (by rw [hR.hr.inj l l' b hs ao hb aj];exact aq)
 ·cases hs:look st.h l with
  |some o=>left;rw [ak];exact hc.keep l hl (by simp [hs])
  |none=>
   rcases ar l hl hs with h | h
   ·left;refine ⟨?_,fun _=>Qp2,fun e s rows h'=>Qp2,fun b cs ty fz h'=>Qp2,fun t f h'=>(by rw [hs] at h';cases h')⟩;exact hc.none l hl hs h
   simp_all
 ·rw [ak] at ho ⊢;exact hc.obs l o hl ho
 ·intro l l' b h1 h2 h3 h4;rw [ak] at h1 h2;by_cases e1:l∈wrL dl <;> by_cases e2:l'∈wrL dl
  ·exact hc.inj l l' b e1 e2 h1 h2 h3 h4
  ·rw [UM e2] at h2;rw [hc.bsame l' e2] at h4;rcases (hc.blk l b e1 h1 h3).1 with h | ⟨l0,ax,hs,hb⟩
   ·have:=HX hR h2 h4;omega
   ·exact absurd ax (by rw [hR.hr.inj l0 l' b hs h2 hb h4];exact e2)
  ·rw [UM e1] at h1;rw [hc.bsame l e1] at h3;rcases (hc.blk l' b e2 h2 h4).1 with h | ⟨l0,ax,hs,hb⟩
   ·have:=HX hR h1 h3;omega
   ·exact absurd ax (by rw [<- hR.hr.inj l l0 b h1 hs h3 hb];exact e1)
  ·rw [UM e1] at h1;rw [UM e2] at h2;rw [hc.bsame l e1] at h3;rw [hc.bsame l' e2] at h4;exact hR.hr.inj l l' b h1 h2 h3 h4
 ·intro l b h1 h2 hS;rw [ak] at h1;by_cases e1:l∈wrL dl
  ·exact (hc.blk l b e1 h1 h2).2 hS
  ·rw [UM e1] at h1;rw [hc.bsame l e1] at h2;rcases hc.sf b hS with h | h | ⟨l',aq,ao,aj⟩
   ·exact hR.hr.apart l b h1 h2 h
   ·have:=HX hR h1 h2;omega
   ·exact e1 (by rw [hR.hr.inj l l' b h1 ao h2 aj];exact aq)
 ·intro l b h1 h2;rw [ak] at h1;by_cases e1:l∈wrL dl
  ·rcases (hc.blk l b e1 h1 h2).1 with h | ⟨l0,_,hs,hb⟩
   ·right;have:=hR.hr.fr.size;omega
   ·exact hR.hr.own l0 b hs hb
  ·rw [UM e1] at h1;rw [hc.bsame l e1] at h2;exact hR.hr.own l b h1 h2
 ·intro b hS;rcases hc.sf b hS with h | h | ⟨l',aq,ao,aj⟩
  ·exact hR.hr.sfr b h
  ·right;right;have:=hR.hr.fr.size;omega
  ·exact .inr (hR.hr.own l' b ao aj)
 ·have fr:=hR.hr.fr;refine ⟨hc.fr.os.trans fr.os,hc.fr.tape.trans fr.tape,hc.fr.output.trans fr.output,Nat.le_trans fr.size hc.fr.size,fun b hb hM=>(hc.fr.block b (Qpw hb fr.size) (fun ⟨l,_,hs,aj⟩=>?_)).trans (fr.block b hb hM)⟩;rcases hR.hr.own l b hs aj with h | h
  all_goals grind
end
end Go.Vx
namespace Go.Vx
variable {hl:Nat->oP Ob} {ev:Operand->AV} {β:Nat->oP Nat} {S:Nat->Prop} {w:World} {h:Nat->oP Ob} {tm:Nat->Value} {o:Oper} {v:Value}
section
variable {P:Program} {E:Env} {R:Type}
def fzS (β:Nat->oP Nat) (S:Nat->Prop) (bs:List Nat):Nat->Prop:=fun b=>S b\/∃ l,l∈bs/\β l=some b
def fzH (h:Nat->oP Ob) (bs:List Nat):Nat->oP Ob:=fun k=>if k∈bs then none else h k
theorem QdH (β:Nat->oP Nat) (h:Nat->oP Ob) (w:World) (bs:List Nat) (l:Nat):Keep β h w β (fzH h bs) w l:=by
 by_cases hl:l∈bs
 ·have hn:fzH h bs l=none:=by grind [fzH]
  exact ⟨rfl,fun _=>hn,fun _ _ _ _=>.inl hn,fun b cs ty fz hs=>Qp2,fun _ _ _=>.inl hn⟩
 ·have hn:fzH h bs l=h l:=by simp [fzH,hl]
  exact ⟨rfl,fun h=>by simp_all,fun e s rows hh=>.inr ⟨rows,by simp_all,rfl⟩,fun b cs ty fz _ _ hw=>⟨cs,ty,fz,hw,rfl⟩,fun _ f hh=>.inr ⟨f,by rw [hn];exact hh⟩⟩
theorem Q9d {av:AV} (bs:List Nat) (hv:RdA β S h w tm v av):RdA β (fzS β S bs) (fzH h bs) w tm v av:=
 hv.mono (fun _ hb=>.inl hb) (fun _ _=>rfl) (fun _ _=>QdH ..) (fun _ _=>rfl)
theorem Objs.fz {β:Nat->oP Nat} {S:Nat->Prop} {h:Nat->oP Ob} {w:World} (hO:Objs β S h w) (bs:List Nat) (au:∀ l,l∈bs->∃ e s rows,h l=some (.arr e s rows)) (a2:∀ l b,(h l).isSome=true->β l=some b->b<w.heap.size):Objs β (fzS β S bs) (fzH h bs) w:=by
 have ac:∀ l,(fzH h bs l).isSome=true->(h l).isSome=true/\l ∉ bs:=by
  grind [fzH]
 refine ⟨fun l o ho=>?_,fun l l' b h1 h2=>hO.inj l l' b (ac l h1).1 (ac l' h2).1,fun l b h1 h2 hS=>?_,fun b hS=>?_⟩
 ·have ay:h l=some o:=by
   grind [fzH]
  have aj:=hO.ob l o ay;cases o with
  |box cells=>
   obtain ⟨b,ty,cs,fz,hb,hw,hf,ak,hr⟩:=aj;exact ⟨b,ty,cs,fz,hb,hw,hf,ak,fun i x hx=>Q9d bs (hr i x hx)⟩
  |arr e s rows=>
   rcases aj with h0 | ⟨b,cs,hb,hw,ak,ax,hr⟩
   ·exact .inl h0
   ·refine .inr ⟨b,cs,hb,hw,ak,ax,fun i j r x h4 h5=>?_⟩;obtain ⟨v,hv,aw⟩:=hr i j r x h4 h5;exact ⟨v,hv,aw.mono (fun _ hb=>.inl hb) (fun _ _=>rfl)⟩
  |mp t f=>exact aj
 ·obtain ⟨aq,hn⟩:=ac l h1;rcases hS with hS | ⟨l',ao,az⟩
  ·exact hO.apart l b aq h2 hS
  ·obtain ⟨e,s,rows,hh⟩:=au l' ao;exact hn (by rw [hO.inj l l' b aq (by simp [hh]) h2 az];exact ao)
 ·rcases hS with hS | ⟨l,hl,hb⟩
  ·exact hO.sb b hS
  grind
theorem Q7j {l e s:Nat} {rows:List (List D)} (hO:Objs β S h w) (hh:h l=some (.arr e s rows)) (hv:RdA β S h w tm v (.arr l)) {S':Nat->Prop} (hS:∀ b,S b->S' b) (hb:∀ b,β l=some b->S' b) :
  Rd S' w v (.sl s rows):=by
 rcases RdA.arr_inv hh hv with ⟨_,rfl,rfl⟩ | ⟨b,cap,cs,ty,fz,aq,rfl,hw,ax,ac,_⟩
 ·exact .sl0 _ _ _
 ·rcases hO.ob l _ hh with ⟨hn,_⟩ | ⟨b2,aj,ay,ak,an,ao,ar⟩
  ·simp_all
  obtain rfl:b=b2:=by simp_all
  have hR:UV S' w aj s rows:=⟨an,ao,fun i j r x h1 h2=>by
   obtain ⟨u,hu,hr⟩:=ar i j r x h1 h2;exact ⟨u,hu,hr.mono hS (fun _ _=>rfl)⟩⟩
  exact hR.rd ak (hb b aq) ac
theorem Ej {av ac:AV} {bs:List Nat} (h:Q7O hl av=some (ac,bs)) :
  (bs=[]/\ac=av/\Q0v av=true)\/∃ l e s rows,av = .arr l/\ac = .d (.sl s rows)/\bs=[l]/\hl l=some (.arr e s rows):=by
 unfold Q7O at h
 grind
theorem Bs {hl:Nat->oP Ob}:∀ {l l':List AV} {bs:List Nat},DA hl l=some (l',bs)->l'.length=l.length/\∀ (i:Nat) (av:AV),l[i]? = some av->∃ ac b,l'[i]? = some ac/\Q7O hl av=some (ac,b)/\∀ x∈b,x∈bs
 |[],l',bs,h=>by
  simp only [DA,Option.some.injEq,Prod.mk.injEq] at h;obtain ⟨rfl,rfl⟩:=h;exact ⟨rfl,fun i av h=>by simp at h⟩
 |a::r,l',bs,h=>by
  simp only [DA] at h;split at h
  ·rename_i a' b ha;split at h
   ·rename_i r' b' hr;simp only [Option.some.injEq,Prod.mk.injEq] at h;obtain ⟨rfl,rfl⟩:=h;obtain ⟨h1,h2⟩:=Bs hr;refine ⟨by simp [h1],fun i av hi=>?_⟩;cases i with
    |zero=>simp at hi;subst hi;exact ⟨a',b,rfl,ha,fun x hx=>by simp [hx]⟩
    |succ i=>
     obtain ⟨ac,b2,g1,g2,g3⟩:=h2 i av (by simpa using hi);exact ⟨ac,b2,by simpa using g1,g2,fun x hx=>by simp [g3 x hx]⟩
   ·cases h
  ·cases h
theorem Q3j {hl:Nat->oP Ob}:∀ {l l':List AV} {bs:List Nat},DA hl l=some (l',bs)->∀ x∈bs,∃ e s rows,hl x=some (.arr e s rows)
 |[],l',bs,h=>by
  simp only [DA,Option.some.injEq,Prod.mk.injEq] at h;obtain ⟨_,rfl⟩:=h;simp
 |a::r,l',bs,h=>by
  simp only [DA] at h;split at h
  ·rename_i a' b ha;split at h
   ·rename_i r' b' hr;simp only [Option.some.injEq,Prod.mk.injEq] at h;obtain ⟨_,rfl⟩:=h;intro x hx;rcases Qpx.1 hx with hx | hx
    ·rcases Ej ha with ⟨rfl,_⟩ | ⟨l,e,s,rows,_,_,rfl,hh⟩
     ·simp at hx
     ·simp at hx;subst hx;exact ⟨e,s,rows,hh⟩
    ·exact Q3j hr x hx
   ·cases h
  ·cases h
theorem B5 {av ac:AV} {bs:List Nat} (h:RG hl av=some (ac,bs)):∀ x∈bs,∃ e s rows,hl x=some (.arr e s rows):=by
 unfold RG at h;split at h
 ·split at h
  ·rename_i aj l hc;obtain ⟨_,rfl⟩:=h;exact Q3j hc
  ·cases h
 ·rcases Ej h with ⟨rfl,_⟩ | ⟨l,e,s,rows,_,_,rfl,hh⟩
  all_goals grind
theorem Ed {hl:Nat->oP Ob}:∀ {l l':List AV} {bs:List Nat},RD hl l=some (l',bs)->∀ x∈bs,∃ e s rows,hl x=some (.arr e s rows)
 |[],l',bs,h=>by
  simp only [RD,Option.some.injEq,Prod.mk.injEq] at h;obtain ⟨_,rfl⟩:=h;simp
 |a::r,l',bs,h=>by
  simp only [RD] at h;split at h
  ·rename_i a' b ha;split at h
   ·rename_i r' b' hr;simp only [Option.some.injEq,Prod.mk.injEq] at h;obtain ⟨_,rfl⟩:=h;intro x hx;rcases Qpx.1 hx with hx | hx
    ·exact B5 ha x hx
    ·exact Ed hr x hx
   ·cases h
  ·cases h
theorem Lg {hl:Nat->oP Ob}:∀ {l l':List AV} {bs:List Nat},RD hl l=some (l',bs)->l'.length=l.length/\∀ (i:Nat) (av:AV),l[i]? = some av->∃ ac b,l'[i]? = some ac/\RG hl av=some (ac,b)/\∀ x∈b,x∈bs
 |[],l',bs,h=>by
  simp only [RD,Option.some.injEq,Prod.mk.injEq] at h;obtain ⟨rfl,rfl⟩:=h;exact ⟨rfl,fun i av h=>by simp at h⟩
 |a::r,l',bs,h=>by
  simp only [RD] at h;split at h
  ·rename_i a' b ha;split at h
   ·rename_i r' b' hr;simp only [Option.some.injEq,Prod.mk.injEq] at h;obtain ⟨rfl,rfl⟩:=h;obtain ⟨h1,h2⟩:=Lg hr;refine ⟨by simp [h1],fun i av hi=>?_⟩;cases i with
    |zero=>simp at hi;subst hi;exact ⟨a',b,rfl,ha,fun x hx=>by simp [hx]⟩
    |succ i=>
     obtain ⟨ac,b2,g1,g2,g3⟩:=h2 i av (by simpa using hi);exact ⟨ac,b2,by simpa using g1,g2,fun x hx=>by simp [g3 x hx]⟩
   ·cases h
  ·cases h
theorem Qff {h hl:Nat->oP Ob} {av ac:AV} {b bs:List Nat} (hO:Objs β S h w) (hA:∀ l,l∈bs->h l=hl l) (hb:∀ x∈b,x∈bs) (hc:Q7O hl av=some (ac,b)) (hv:RdA β S h w tm v av) :
  RdA β (fzS β S bs) (fzH h bs) w tm0 v ac:=by
 rcases Ej hc with ⟨_,rfl,hn⟩ | ⟨l,e,s,rows,rfl,rfl,rfl,hh⟩
 ·exact Q9d bs (hv.to_tm0 hn)
 ·exact .d _ _ (Q7j hO (by rw [hA l (hb l QoY)];exact hh) hv (fun _ h=>.inl h) (fun b' h'=>.inr ⟨l,hb l QoY,h'⟩))
theorem Q72 {h hl:Nat->oP Ob} {av ac:AV} {b bs:List Nat} (hO:Objs β S h w) (hA:∀ l,l∈bs->h l=hl l) (hb:∀ x∈b,x∈bs) (hc:RG hl av=some (ac,b)) (hv:RdA β S h w tm v av) :
  RdA β (fzS β S bs) (fzH h bs) w tm0 v ac:=by
 unfold RG at hc;split at hc
 ·rename_i cs;split at hc
  ·rename_i an l ak;obtain ⟨rfl,rfl⟩:=hc;obtain ⟨vs,rfl,aj,hr⟩:=hv.ag_inv;obtain ⟨h1,h2⟩:=Bs ak;refine .ag _ _ (by rw [aj,h1]) fun i x hx=>?_
   have hi:i<cs.length:=by grind
   have hc:=Qpl hi
   grind [Qff]
  ·cases hc
 grind [Qff]
theorem Q5e {o : Oper} {c : Call} {f : Nat} (ho : o.op = .call c) (hc : c.callee = .value (.func f)) {fn : Func} (hf : P.funcs[f]? = some fn) (hb : fn.body.isSome = true) (hn : (fn.name == "runtime.NumGoroutine") = false) {a : Act} {w : World} :
  (execOp a.eval o).run P w = .ok (.enter f (c.args.map a.eval)) w:=by
 unfold execOp;rw [ho];have h1 : ¬ fn.name = "runtime.NumGoroutine" := by simp_all
 have h2:¬ fn.body=none:=by intro h;rw [h] at hb;cases hb
 simp_all [resolve,Act.eval,Deferred.ofValue,invoke,callFunc]
theorem Ag {x:Nat}:∀ {l:List Nat},x∈l->PJ x l=true
 |a::r,h=>by
  rcases Qpo.1 h with rfl | h
  ·simp [PJ]
  ·simp [PJ,Ag h]
theorem JS {a b:List Nat} (h:HS a b=false) {x:Nat} (h1:x∈a) (h2:x∈b):False:=by
 grind [HS,List.any_eq_false,Ag]
theorem ES {h h':Nat->oP Ob}:∀ {wr:List (Nat×oP Ob)} {k:Nat},(k ∉ wr.map (·.1)->h k=h' k)->KI h wr k=KI h' wr k
 |[],k,hk=>hk QoY
 |(l,o)::r,k,hk=>by
  simp only [KI];refine ES fun hn=>?_
  by_cases e:k=l
  ·simp [e]
  ·rw [Qpi e,Qpi e];exact hk (by simp [e,hn])
theorem Ln {bs:List Nat} {l:Nat} (hl:l ∉ bs):fzH h bs l=h l:=by grind [fzH]
theorem Qe4 (β:Nat->oP Nat) (S:Nat->Prop):fzS β S []=S:=by funext b;simp [fzS]
theorem Qe2 (h:Nat->oP Ob):fzH h []=h:=by funext b;simp [fzH]
theorem Q7G {wr:List (Nat×oP Ob)} (hw:Vp wr=true):∀ (h:Nat->oP Ob) {l:Nat} {o:Ob},l∈wr.map (·.1)->KI h wr l=some o->(∃ cells,o = .box cells/\Nb cells=true/\(l,some o)∈wr)\/∃ e s rows,o = .arr e s rows/\BN rows=true:=by
 induction wr with
 |nil=>simp_all
 |cons x r ih=>
  intro h l o hl ho;obtain ⟨k,ob⟩:=x;have ac:Vp r=true:=by
   cases ob with
   |none=>assumption
   |some ob=>cases ob <;> first | simp_all [Vp,Qp7] | (simp [Vp] at hw)
  simp only [KI] at ho;by_cases hr:l∈r.map (·.1)
  ·grind
  ·rw [UM hr] at ho;simp only [Qpz,Qpo,hr,or_false] at hl;rw [Qpm hl] at ho;subst hl;subst ho;cases o with
   |box cells=>simp_all [Vp,Qp7]
   |arr e s rows=>simp only [Vp,Qp7] at hw;exact .inr ⟨e,s,rows,rfl,hw.1⟩
   |mp t f=>simp [Vp] at hw
theorem Kt:∀ {wr:List (Nat×oP Ob)},Bc wr=true->Vp wr=true
 |[],_=>rfl
 |(_,none)::r,h=>by simp only [Bc,Qp7] at h;simp only [Vp];exact Kt h.2
 |(_,some (.box cells))::r,h=>by simp only [Bc,Q93,Qp7] at h;simp only [Vp,Qp7];exact ⟨h.1,Kt h.2⟩
 |(_,some (.arr ..))::r,h=>by simp [Bc,Q93] at h
theorem Gw {tt:TT}:∀ {wr:List (Nat×oP Ob)},Ee tt wr=true->(Q36 wr).all BN=true->Vp wr=true
 |[],_,_=>rfl
 |(_,none)::r,h,h2=>by simp only [Ee] at h;simp only [Q36] at h2;simp only [Vp];exact Gw h h2
 |(_,some (.box cells))::r,h,h2=>by simp only [Ee,Qp7] at h;simp only [Q36] at h2;simp only [Vp,Qp7];exact ⟨h.1,Gw h.2 h2⟩
 |(_,some (.arr _ _ rows))::r,h,h2=>by simp only [Ee,Qp7] at h;simp only [Q36,List.all_cons,Qp7] at h2;simp only [Vp,Qp7];exact ⟨h2.1,Gw h.2 h2.2⟩
theorem Qdp {S S2:Nat->Prop} {x:D} (h:Rd S w v x) (hf:Q5y x=true):Rd S2 w v x:=by
 cases h with
 |int k n=>exact .int k n
 |bool b=>exact .bool b
 |str s=>exact .str s
 |sl0 a c s=>trivial
 |sl=>simp [Q5y] at hf
theorem Qbf {rows:List (List D)} (h:BN rows=true) {i j:Nat} {r:List D} {x:D} (h1:rows[i]? = some r) (h2:r[j]? = some x):Q5y x=true:=by
 simp only [BN,Qpp] at h;exact h r (Qpe h1) x (Qpe h2)
theorem Q35:∀ {l:List AV} {i:Nat} {x:AV},l[i]? = some x->Nb l=true->R7 x=true
 |a::r,i,x,h,hs=>by
  simp only [Nb,Qp7] at hs;cases i with
  |zero=>simp at h;subst h;exact hs.1
  |succ i=>exact Q35 (l:=r) (i:=i) (by simpa using h) hs.2
theorem Q9x {l k:Nat} {cells:List AV} {wr:List (Nat×oP Ob)} (hm:(k,some (Ob.box cells))∈wr) (hn:Pa l wr=false):Jz l cells=false:=by
 induction wr with
 |nil=>simp at hm
 |cons x r ih=>
  obtain ⟨k',o⟩:=x;rcases Qpo.1 hm with h1 | h1
  ·grind [Pa,Bool.or_eq_false_iff]
  ·cases o with
   |none=>grind [Pa]
   |some o=>
    cases o with
    |box c=>grind [Pa,Bool.or_eq_false_iff]
    |arr e s rows=>exact ih h1 (by assumption)
    |mp t f=>exact ih h1 (by simpa [Pa] using hn)
theorem Q6I {h h':Nat->oP Ob} {wr:List (Nat×oP Ob)} {k:Nat} (hk:k∈wr.map (·.1)):KI h wr k=KI h' wr k:=ES fun hn=>absurd hk hn
theorem CallOut.back {β β':Nat->oP Nat} {S S':Nat->Prop} {w w':World} {dl:Dl} {bs:List Nat} (hO:Objs β S h w) (ba:∀ l,l∈bs->∃ e s rows,h l=some (.arr e s rows))
  (hm:HS bs (wrL dl)=false) (aq:Bq bs dl=true) (a5:R7 dl.v=true) (a4:Vp dl.wr=true) (hc:CallOut β (fzS β S bs) (fzH h bs) w dl β' S' w' v) :
  CallOut β S h w dl β' (fun b=>S' b/\¬ ∃ l,l∈bs/\β l=some b) w' v:=by
 have ac:∀ l,l∈wrL dl->l ∉ bs:=fun l h1 h2=>JS hm h2 h1
 have ao:∀ l,l∈bs->(h l).isSome=true:=fun l hl=>by grind
 have aj:∀ l,l ∉ bs->KI (fzH h bs) dl.wr l=KI h dl.wr l:=fun l hl=>ES fun _=>Ln hl
 have an:∀ (u:Value) (av:AV),R7 av=true->(∀ l,l∈bs->Zf l av=false)->RdA β' S' (KI (fzH h bs) dl.wr) w' tm0 u av->RdA β' (fun b=>S' b/\¬ ∃ l,l∈bs/\β l=some b) (KI h dl.wr) w' tm0 u av:=by
  intro u av hs hn hr;refine (Qbg (S2:=fun b=>S' b/\¬ ∃ l,l∈bs/\β l=some b) hr hs).mono (fun _ h=>h) (fun _ _=>rfl) (fun l hl=>?_) (fun _ _=>rfl);have a6:l ∉ bs:=fun hb=>by simp_all
  have he:=aj l a6;exact ⟨rfl,fun h=>by simp_all,fun e s rows hh=>.inr ⟨rows,by simp_all,rfl⟩,fun b cs ty fz _ _ hw=>⟨cs,ty,fz,hw,rfl⟩,fun _ f hh=>.inr ⟨f,by rw [<- he];exact hh⟩⟩
 simp only [Bq,Qpp,Qp7,Bool.not_eq_true'] at aq;have ak:∀ l,l∈wrL dl->fzH h bs l=h l:=fun l hl=>Ln (ac l hl)
 refine ⟨fun b hS=>⟨hc.hs b (.inl hS),fun ⟨l,hl,hb⟩=>hO.apart l b (ao l hl) hb hS⟩,fun b hS=>?_,fun b hS=>hc.sb b hS.1,?_,hc.bsame,fun l o hl ho=>?_,fun l hl hs=>?_,fun l b hl hs hb=>?_,fun l l' b h1 h2 h3 h4=>?_,fun l hl h1 h2=>?_,an v dl.v a5 (fun l hl=>(aq l hl).1) hc.res,hc.gd⟩
 ·rcases hc.sf b hS.1 with h1 | h1 | ⟨l,h1,h2,h3⟩
  ·rcases h1 with h1 | h1
   all_goals grind
  all_goals grind
 ·exact hc.fr.mono fun b _ ⟨l,h1,h2,h3⟩=>⟨l,h1,by rw [<- ak l h1];exact h2,h3⟩
 ·rcases Q7G a4 h hl ho with ⟨cells,rfl,ay,au⟩ | ⟨e,s,rows,rfl,a2⟩
  case inr=>
   rcases hc.obs l _ hl (by rw [aj l (ac l hl)];exact ho) with g | ⟨b,cs,g1,g2,g3,g4,g5⟩
   ·exact .inl g
   ·refine .inr ⟨b,cs,g1,g2,g3,g4,fun i j r y h1 h2=>?_⟩;obtain ⟨u,q1,q2⟩:=g5 i j r y h1 h2;exact ⟨u,q1,Qdp q2 (Qbf a2 h1 h2)⟩
  obtain ⟨b,ty,cs,fz,hb,hw,hf,az,hr⟩:=hc.obs l _ hl (by rw [aj l (ac l hl)];exact ho);exact ⟨b,ty,cs,fz,hb,hw,hf,az,fun i x hx=>an _ x (Q35 hx ay) (fun l' a3=>Q3m hx (Q9x au (aq l' a3).2)) (hr i x hx)⟩
 ·have K:=hc.keep l hl (by rw [ak l hl];exact hs);have he:=aj l (ac l hl);exact ⟨K.b,fun h1=>by rw [<- he];exact K.none_ (by rw [ak l hl];exact h1),fun e s rows h1=>by rw [<- he];exact K.arr e s rows (by rw [ak l hl];exact h1),fun b cs ty fz h1=>K.cells b cs ty fz (by rw [he];exact h1),fun t f h1=>by rw [<- he];exact K.mp t f (by rw [ak l hl];exact h1)⟩
 ·obtain ⟨h1,h2⟩:=hc.blk l b hl (by rw [aj l (ac l hl)];exact hs) hb;refine ⟨?_,fun h3=>h2 h3.1⟩;rcases h1 with h1 | ⟨l0,g1,g2,g3⟩
  ·exact .inl h1
  ·exact .inr ⟨l0,g1,by rw [<- ak l0 g1];exact g2,g3⟩
 ·rw [<- aj l (ac l h1)] at h3;rw [<- aj l' (ac l' h2)] at h4;exact hc.inj l l' b h1 h2 h3 h4
 ·exact hc.none l hl (by rw [ak l hl];exact h1) (by rw [aj l (ac l hl)];exact h2)
theorem Rg {β β':Nat->oP Nat} {S S':Nat->Prop} {st:St} {a:Act} {w w':World} (hR:Rel E β S st a w) {dl:Dl} {rd:List Nat} (ac:Wc st dl.wr=true) (hc:CallOut β S (look st.h) w dl β' S' w' v) :
  Out E st a ⟨dl.v,dl.wr,rd⟩ v w':=by
 have h1:=Qcb hR ac hc;have h2:=hc.res;rw [<- KY] at h2;refine ⟨β',S',h1,?_⟩;exact h2.mono (fun _ h=>h) (fun _ _=>rfl) (fun l _=>Keep.rfl_ ..) (fun t ht=>by rw [hc.gd t] at ht;cases ht)
def Q8c (P:Program) (E:Env) (o:Oper) (ev:Operand->AV) (f:Nat) (avs0:List AV):Prop:=
 ∀ β S st a w,Rel E β S st a w->DR β S st a w o ev->∃ vals:List Value,vals.length=avs0.length/\(∀ (i:Nat) (v:Value) (x:AV),vals[i]? = some v->avs0[i]? = some x->RdA β S (look st.h) w (tmv a) v x) /\
  ∀ fn, P.funcs[f]? = some fn -> fn.body.isSome = true -> (fn.name == "runtime.NumGoroutine") = false -> (execOp a.eval o).run P w = .ok (.enter f vals.toArray) w
theorem Q7v {c:Call} {f:Nat} (ho:o.op = .call c) (hc:c.callee = .value (.func f)):Q8c P E o ev f (c.args.toList.map ev):=by
 intro β S st a w hR hO;refine ⟨c.args.toList.map a.eval,by simp,fun i v x h1 h2=>?_,fun fn hf hb hn=>?_⟩
 ·simp only [Qpg,Qpb] at h1 h2;obtain ⟨y,hy,rfl⟩:=h1;obtain ⟨y',ac,rfl⟩:=h2;rw [hy] at ac;injection ac with ac
  subst ac;have aj:y∈o.op.operands.toList:=by
   grind [List.mem_of_getElem?,Op.operands,Call.operands]
  exact hO.at aj
 ·rw [Q5e ho hc hf hb hn];congr 2
  grind
theorem RdA.fn_inv {f:Nat} {l:List AV} (hv:RdA β S h w tm v (.fn f l)):∃ cs:Array Value,v = .func (.func f) #[] cs/\cs.size=l.length/\∀ (i:Nat) (x:AV),l[i]? = some x->RdA β S h w tm (cs.getD i undef) x:=by
 cases hv with
 |fn _ cs _ hl hr=>simp_all
 |dang _ _ l hl _ _=>trivial
theorem Q8d {c:Call} {t f:Nat} {cap:List AV} (ho:o.op = .call c) (hc:c.callee = .value (.tmp t)) (hev:ev (.tmp t) = .fn f cap):Q8c P E o ev f (c.args.toList.map ev++cap):=by
 intro β S st a w hR hO;have hmt:Operand.tmp t∈o.op.operands.toList:=by simp [ho,Op.operands,Call.operands,hc]
 obtain ⟨cs,hcs,hsz,hr⟩:=(hev▸hO.at hmt).fn_inv;refine ⟨c.args.toList.map a.eval++cs.toList,by simp [hsz],fun i v x h1 h2=>?_,fun fn hf hb hn=>?_⟩
 ·rw [List.getElem?_append] at h1 h2;simp only [List.length_map] at h1 h2;split at h1
  ·rename_i hi;rw [Qpm hi] at h2;simp only [Qpg,Qpb] at h1 h2;obtain ⟨y,hy,rfl⟩:=h1;obtain ⟨y',hy',rfl⟩:=h2;rw [hy] at hy';injection hy' with hy'
   subst hy';have hmem:y∈o.op.operands.toList:=by
    have:y∈c.args.toList:=Qpe hy;simp only [ho,Op.operands,Call.operands,hc];simp at this;simp [this]
   exact hO.at hmem
  ·rename_i hi;rw [Qpi hi] at h2;have:=hr _ x h2;have hlt:=(Qp6.1 h1).1;have he:cs.getD (i-c.args.toList.length) undef=v:=by
    rw [Array.getElem?_toList] at h1;rw [Array.getD_eq_getD_getElem?,h1];rfl
   rw [he] at this;exact this
 ·have h1 : ¬ fn.name = "runtime.NumGoroutine" := by simpa using hn
  have h2:¬ fn.body=none:=by intro h;rw [h] at hb;cases hb
  have hv:a.eval (.tmp t) = .func (.func f) #[] cs:=hcs;unfold execOp;rw [ho];have harr:(c.args.toList.map a.eval++cs.toList).toArray=c.args.map a.eval++cs:=by apply Array.ext';simp
  rw [harr];simp [resolve,hc,hv,Deferred.ofValue,invoke,callFunc,hf,h1,h2]
theorem Q8D {st:St} {a:Act} (hR:Rel E β S st a w) {vals:List Value} {ac:List AV} (ar:vals.length=ac.length) (aj:∀ (i:Nat) (v:Value) (x:AV),vals[i]? = some v->ac[i]? = some x->RdA β S (look st.h) w (tmv a) v x) {ak:List AV} {bs:List Nat}
  (aq:RD hl ac=some (ak,bs)) (ao:∀ l,l∈bs->look st.h l=hl l):ArgsRd β (fzS β S bs) (fzH (look st.h) bs) w vals ak:=by
 obtain ⟨au,an⟩:=Lg aq;refine ⟨QoW,fun i v av h1 h2=>?_⟩;have hi:i<ac.length:=by grind
 have hx:=Qpl hi;obtain ⟨ax,b,g1,g2,g3⟩:=an i _ hx;rw [h2] at g1;injection g1 with g1
 subst g1;exact Q72 hR.objs ao g3 g2 (aj i v _ h1 hx)
theorem NO {f:Nat} {ac:List AV} (hF:Q8c P E o ev f ac) {aq:List AV} {bs:List Nat} {dl:Dl}
  (a4:RD hl ac=some (aq,bs)) (a3:ZM P f aq hl dl) (hm:HS bs (wrL dl)=false) (a9:HS bs dl.rd=false) (a5:Bq bs dl=true) (aj:bs=[]\/(R7 dl.v=true/\Vp dl.wr=true)) :
  GC P E o ev hl ⟨dl.v,dl.wr,bs++dl.rd⟩:=by
 intro β S st a w hR hO hA a6 K Q hK;obtain ⟨⟨fn,hf,hb,hn⟩,ak⟩:=a3;have ax:∀ l,l∈bs->look st.h l=hl l:=fun l h=>hA l (.inl (by simp [h]))
 have an:∀ l,l∈bs->∃ e s rows,look st.h l=some (.arr e s rows):=fun l h=>by grind [Ed]
 have ao:=hR.objs.fz bs an (fun l b hs hb=>HX hR hs hb);have ay:∀ l,l∈dl.rd\/l∈wrL dl->fzH (look st.h) bs l=hl l:=by
  intro l a2;rw [Ln (fun h=>by grind [JS])];rcases a2 with h1 | h1
  ·exact hA l (.inl (by simp [h1]))
  ·exact hA l (.inr h1)
 obtain ⟨vals,aw,az,ar⟩:=hF β S st a w hR hO;unfold Oper.wp;rw [ar fn hf hb hn];have:=ak β (fzS β S bs) (fzH (look st.h) bs) w _ ao (Q8D hR aw az a4 ax) ay;refine this.mono fun e w' ⟨v,β',S',he,au⟩=>?_
 subst he;refine hK v w' ?_;rcases aj with rfl | ⟨h1,h2⟩
 ·grind [Qe4,Qe2,Rg]
 ·exact Rg hR a6 (au.back hR.objs an hm a5 h1 h2)
theorem Rk:∀ (a b:List (Nat×oP Ob)) (h:List (Nat×Ob)),Md h (a++b)=Md (Md h a) b
 |[],_,_=>rfl
 |(l,some o)::r,b,h=>by simp [Md,Rk r b]
 |(l,none)::r,b,h=>by simp [Md,Rk r b]
theorem A9 (bs:List Nat) (h:List (Nat×Ob)):look (Md h (bs.map fun l=>(l,none)))=fzH (look h) bs:=by
 rw [KY];generalize look h=f;induction bs generalizing f with
 |nil=>rfl
 |cons a r ih=>
  simp only [Qpz,KI];rw [ih]
  grind [fzH]
theorem Q0A {st:St} {a:Act} (hR:Rel E β S st a w) (bs:List Nat) (ak:∀ l,l∈bs->∃ e s rows,look st.h l=some (.arr e s rows)) :
  Rel E β (fzS β S bs) ⟨st.n,st.tm,Md st.h (bs.map fun l=>(l,none))⟩ a w:=by
 have ac:=hR.objs.fz bs ak (fun l b hs hb=>HX hR hs hb);have an:=A9 bs st.h;refine ⟨hR.n,hR.dfr,fun t av ht=>by rw [an];exact Q9d bs (hR.tm t av ht),?_⟩;rw [an];have aj:∀ l,(fzH (look st.h) bs l).isSome=true->(look st.h l).isSome=true:=fun l hs=>by
  grind [fzH]
 refine ⟨ac.ob,ac.inj,ac.apart,fun l b hs hb=>hR.hr.own l b (aj l hs) hb,ac.sb,fun b hS=>?_,fun b h=>.inl (hR.hr.s0 b h),hR.hr.fr,hR.hr.pin,fun l b hp hs=>hR.hr.psz l b hp (aj l hs)⟩;rcases hS with h | ⟨l,hl,hb⟩
 ·exact hR.hr.sfr b h
 ·obtain ⟨e,s,rows,hh⟩:=ak l hl;exact .inr (hR.hr.own l b (by simp [hh]) hb)
theorem UZ {l k:Nat}:∀ {h:List (Nat×Ob)},Jj l h=false->Jj l (rem k h)=false
 |[],_=>rfl
 |(a,.box c)::r,hn=>by
  simp only [Jj,Bool.or_eq_false_iff] at hn;simp only [rem];cases Nat.beq a k with
  |true=>exact UZ hn.2
  |false=>simp [Jj,hn.1,UZ hn.2]
 |(a,.arr e s rows)::r,hn=>by
  simp only [Jj] at hn;simp only [rem];cases Nat.beq a k with
  |true=>exact UZ hn
  |false=>simp [Jj,UZ hn]
 |(a,.mp t f)::r,hn=>by
  simp only [Jj] at hn;simp only [rem];cases Nat.beq a k with
  |true=>exact UZ hn
  |false=>simp [Jj,UZ hn]
theorem Q4h {l:Nat}:∀ (bs:List Nat) {h:List (Nat×Ob)},Jj l h=false->Jj l (Md h (bs.map fun l=>(l,none)))=false
 |[],_,hn=>hn
 |a::r,h,hn=>by simp only [Qpz,Md];exact Q4h r (UZ hn)
theorem Rj {st:St}:∀ {a b:List (Nat×oP Ob)},Wc st (a++b)=true->Wc st b=true
 |[],_,h=>h
 |(l,o)::r,b,h=>by
  simp only [List.cons_append,Wc,Qp7] at h;exact Rj h.2
theorem Bl {st:St} {bs:List Nat}:∀ {wr:List (Nat×oP Ob)},(∀ l,l∈wr.map (·.1)->l ∉ bs)->Wc st wr=true->Wc ⟨st.n,st.tm,Md st.h (bs.map fun l=>(l,none))⟩ wr=true
 |[],_,_=>rfl
 |(l,o)::r,hn,h=>by
  simp only [Wc,Qp7] at h ⊢;refine ⟨?_,Bl (fun k hk=>hn k (by simp [hk])) h.2⟩;have ac:l ∉ bs:=hn l QoY;rw [A9,Ln ac];cases o with
  |none=>rfl
  |some o=>
   cases hs:look st.h l with
   |some o'=>rfl
   |none=>
    have h1:=h.1;rw [hs] at h1;simp only [Ut,Qp7,Bool.not_eq_true'] at h1 ⊢;exact ⟨h1.1,h1.2.1,Q4h bs h1.2.2⟩
theorem Cc {f:Nat} {aj:List AV} (hF:Q8c P E o ev f aj) {au:List AV} {bs:List Nat} {dl:Dl}
  (ax:RD hl aj=some (au,bs)) (a6:ZM P f au hl dl) (hm:HS bs (wrL dl)=false) (a3:HS bs dl.rd=false) :
  GC P E o ev hl ⟨dl.v,bs.map (fun l=>(l,none))++dl.wr,bs++dl.rd⟩:=by
 intro β S st a w hR hO hA a7 K Q hK;obtain ⟨⟨fn,hf,hb,hn⟩,an⟩:=a6;have ar:∀ l,l∈bs->look st.h l=hl l:=fun l h=>hA l (.inl (by simp [h]))
 have ao:∀ l,l∈bs->∃ e s rows,look st.h l=some (.arr e s rows):=fun l h=>by rw [ar l h];exact Ed ax l h
 have aq:=hR.objs.fz bs ao (fun l b hs hb=>HX hR hs hb);have a2:∀ l,l∈dl.rd\/l∈wrL dl->fzH (look st.h) bs l=hl l:=by
  intro l ac;rw [Ln (fun h=>by rcases ac with h1 | h1 <;> first | exact JS a3 h h1 | exact JS hm h h1)];rcases ac with h1 | h1
  ·exact hA l (.inl (by simp [h1]))
  ·exact hA l (.inr (by simp only [wrL,List.map_append,Qpx];exact .inr h1))
 obtain ⟨vals,ay,a4,aw⟩:=hF β S st a w hR hO;unfold Oper.wp;rw [aw fn hf hb hn];have:=an β (fzS β S bs) (fzH (look st.h) bs) w _ aq (Q8D hR ay a4 ax ar) a2;refine this.mono fun e w' ⟨v,β',S',he,ak⟩=>?_
 subst he;refine hK v w' ?_;rw [<- A9] at ak;have az:Wc ⟨st.n,st.tm,Md st.h (bs.map fun l=>(l,none))⟩ dl.wr=true:=Bl (fun l ac h=>JS hm h ac) (Rj a7);obtain ⟨a5,S'',g1,g2⟩:=Rg (rd:=bs++dl.rd) (Q0A hR bs ao) az ak;refine ⟨a5,S'',?_,?_⟩
 all_goals grind [Rk]
theorem BV {t:Nat}:∀ {l:List AV},l.all Q0v=true->Ba t l=false
 |[],_=>rfl
 |a::r,h=>by
  simp only [List.all_cons,Qp7] at h;simp only [Ba,SO h.1 t,BV h.2,Bool.or_false]
theorem Q3C {x:AV} (h:Qad x=true) (t:Nat):gds t x=false:=by
 unfold Qad at h
 grind [gds,BV,SO]
theorem Q1E {f:Nat} {ac:List AV} (hF:Q8c P E o ev f ac) {dl:Dl} (aw:ac.all Qad=true) (ar:ZM P f ac hl dl):GC P E o ev hl dl:=by
 intro β S st a w hR hO hA au K Q hK;obtain ⟨⟨fn,hf,hb,hn⟩,aj⟩:=ar;obtain ⟨vals,ao,aq,ak⟩:=hF β S st a w hR hO;unfold Oper.wp;rw [ak fn hf hb hn];have:=aj β S (look st.h) w _ hR.objs ⟨ao,fun i v x h1 h2=>(aq i v x h1 h2).mono (fun _ h=>h) (fun _ _=>rfl) (fun l _=>Keep.rfl_ ..) (fun t ht=>by
  grind [Q3C,List.all_eq_true,List.mem_of_getElem?])⟩ (fun l h=>hA l h)
 refine this.mono fun e w' ⟨v,β',S',he,an⟩=>?_
 subst he;exact hK v w' (Rg hR au an)
theorem Q3W {spec:Q4G} {tt:TT} (hS:Dp P spec) {f:Nat} {ao:Nat} {g u:Bool} {aj:List AV} (hF:Q8c P E o ev f aj) {k:Dl->oP R} {r:R}
  (h:Qc7 spec tt ao g u hl f aj k=some r):∃ dl,k dl=some r/\(g=true->GC P E o ev hl dl):=by
 unfold Qc7 at h;cases an:Qjr spec f with
 |true=>
  simp only [an,Qpa] at h;cases aq:aj.all Qad with
  |false=>simp_all
  |true=>
  simp only [aq,Qpa] at h;obtain ⟨dl,h,ar⟩:=hS _ _ _ _ _ _ _ _ h
  grind [Q1E]
 |false=>
 simp only [an,cond_false] at h;split at h
 case h_2=>cases h
 rename_i aw bs ax;obtain ⟨dl,h,ar⟩:=hS _ _ _ _ _ _ _ _ h;cases ac:(!HS bs (wrL dl)&&(!HS bs dl.rd&&Bq bs dl)) with
 |false=>simp_all
 |true=>
  simp only [ac,Qpa] at h;simp only [Qp7,Bool.not_eq_true'] at ac;obtain ⟨hm,au,ay⟩:=ac;cases hf:(bs.isEmpty||(R7 dl.v&&Bc dl.wr)) with
  |true=>
   simp only [hf,Qpa] at h
   grind [NO,Kt]
  |false=>
   simp only [hf,cond_false] at h;cases ak:(R7 dl.v&&Ee tt dl.wr) with
   |true=>
    simp only [ak,Qpa] at h;simp only [Qp7] at ak;obtain ⟨_,h,hp⟩:=QO h
    grind [NO,Gw,FG,Q36,BN]
   |false=>
    simp only [ak,cond_false] at h;cases u with
    |false=>simp at h
    |true=>
     simp only [Qpa] at h
     grind [Cc]
end
end Go.Vx
namespace Go.Vx
variable {hl:Nat->oP Ob}
section
variable {P:Program} {E:Env} {R:Type}
theorem Q4j {x:Nat}:∀ {l:List Nat},PJ x l=true↔x∈l
 |[]=>by simp [PJ]
 |a::r=>by
  simp only [PJ,Bool.or_eq_true,Q4j (l:=r),Qpo];constructor
  ·rintro (h | h)
   ·exact .inl (Qp8 h).symm
   ·exact .inr h
  ·rintro (h | h)
   ·exact .inl (by rw [h];exact Nat.beq_refl _)
   ·exact .inr h
def Qg4 (av:AV):Prop:=(∀ k,Zf k av=false)/\(∀ t,gds t av=false)/\av≠.top
theorem Qev (hl:Nat->oP Ob) (bs:List Nat):QiC hl bs=fzH hl bs:=by
 funext k;simp [QiC,fzH,PJ,Qpm,Q4j,Qpi]
theorem Q0W (hl:Nat->oP Ob) (ev:Operand->AV):∀ (l:List (Nat×Operand)),Vj (fun x=>cv1 hl (ev x)) l=cvP hl (Vj ev l)
 |[]=>rfl
 |(i,x)::r=>by simp only [Vj,cvP,Q0W hl ev r]
theorem Qa1 {hl:Nat->oP Ob} {ev:Operand->AV}:∀ {l:List (Nat×Operand)} {p:Nat×Operand},p∈l->∀ a b,RG hl (ev p.2)=some (a,b)->∀ x∈b,x∈bsP hl (Vj ev l)
 |(i,y)::r,p,hp,a,b,hc,x,hx=>by
  simp only [Vj,bsP];rcases Qpo.1 hp with rfl | hp
  ·simp only at hc;rw [hc];exact List.mem_append_left _ hx
  ·have ih:=Qa1 hp a b hc x hx;split
   ·exact List.mem_append_right _ ih
   ·exact ih
theorem Q5Z {hl:Nat->oP Ob}:∀ {l:List (Nat×AV)} {x:Nat},x∈bsP hl l->∃ e s rows,hl x=some (.arr e s rows)
 |[],x,h=>by simp [bsP] at h
 |(i,a)::r,x,h=>by
  simp only [bsP] at h;split at h
  ·rename_i a' b hc;rcases Qpx.1 h with h | h
   ·exact B5 hc x h
   ·exact Q5Z h
  ·exact Q5Z h
theorem Q3s:∀ {z:List D} {l:List AV} {ds:List D},Qav z l=some ds->(∀ k,Jz k l=false)/\(∀ t,Ba t l=false)/\∀ x∈l,x≠.top
 |[],[],ds,h=>⟨fun _=>rfl,fun _=>rfl,fun x h=>by simp at h⟩
 |[],_::_,ds,h=>by simp [Qav] at h
 |_::_,[],ds,h=>by simp [Qav] at h
 |z::zs,a::r,ds,h=>by
  simp only [Qav] at h;split at h
  case h_2=>cases h
  rename_i l hl;obtain ⟨h1,h2,h3⟩:=Q3s hl;split at h
  ·exact ⟨fun k=>by simp [Jz,Zf,h1 k],fun t=>by simp [Ba,gds,h2 t],fun x hx=>by
    rcases Qpo.1 hx with rfl | hx
    ·simp
    ·exact h3 x hx⟩
  ·exact ⟨fun k=>by simp [Jz,Zf,h1 k],fun t=>by simp [Ba,gds,h2 t],fun x hx=>by
    rcases Qpo.1 hx with rfl | hx
    ·simp
    ·exact h3 x hx⟩
  ·cases h
theorem Q7U {z:List D} {av:AV} {ds:List D} (h:Qav z (XM av)=some ds):Qg4 av:=by
 obtain ⟨h1,h2,h3⟩:=Q3s h;cases av with
 |ag l=>exact ⟨fun k=>by grind [Zf,XM],fun t=>by grind [gds,XM],by simp⟩
 |fs _ _=>exact ⟨fun k=>rfl,fun t=>rfl,by simp⟩
 |_=>exact ⟨fun k=>by simp_all [Jz,XM],fun t=>by simp_all [Ba,XM],h3 _ (by simp [XM])⟩
theorem DI {z:List D}:∀ {ac:List (Nat×AV)} {rows aj:List (List D)},MW z rows ac=some aj->∀ p∈ac,Qg4 p.2
 |[],_,_,_,p,hp=>by simp at hp
 |(i,v)::r,rows,aj,h,p,hp=>by
  simp only [MW] at h;split at h
  case h_2=>cases h
  rename_i row ak;cases hc:Nat.ble (i+1) rows.length with
  |false=>simp [hc] at h
  |true=>
   simp only [hc,Qpa] at h;rcases Qpo.1 hp with rfl | hp
   ·exact Q7U ak
   ·exact DI h p hp
theorem BZ {ev:Operand->AV}:∀ {l:List (Nat×Operand)} {p:Nat×Operand},p∈l->(p.1,ev p.2)∈Vj ev l
 |(i,y)::r,p,hp=>by
  simp only [Vj];rcases Qpo.1 hp with rfl | hp
  ·simp
  ·exact List.mem_cons_of_mem _ (BZ hp)
theorem Ax {tt:TT} {an:Nat} {u:Bool} {t len:Nat} {ac:List (Nat×AV)} {k:Dl->oP R} {r:R} (h:Ky tt hl an u t len ac k=some r):∀ p∈ac,Qg4 p.2:=by
 unfold Ky at h;split at h
 case h_2=>cases h
 rename_i e ak hk;cases hc:(Nat.ble (len*ak) 16777216&&(look tt e).isSome&&Nat.beq (NC tt e).length ak) with
 |false=>simp_all
 |true=>
  simp only [hc,Qpa] at h;split at h
  case h_2=>cases h
  rename_i rows aj;exact DI aj
theorem Q2W {o:Oper} {ev:Operand->AV} {bs:List Nat} {dl:Dl} (ax:∀ l,l∈bs->∃ e s rows,hl l=some (.arr e s rows))
  (ao:∀ x∈o.op.operands.toList,(∃ b,RG hl (ev x)=some (cv1 hl (ev x),b)/\∀ y∈b,y∈bs)/\Qg4 (cv1 hl (ev x)))
  (hG:GC P E o (fun x=>cv1 hl (ev x)) (fzH hl bs) dl) (hm:HS bs (wrL dl)=false) (a2:HS bs dl.rd=false):GC P E o ev hl ⟨dl.v,bs.map (fun l=>(l,none))++dl.wr,bs++dl.rd⟩:=by
 intro β S st a w hR hO hA ar K Q hK;have aq:∀ l,l∈bs->look st.h l=hl l:=fun l h=>hA l (.inl (by simp [h]))
 have ak:∀ l,l∈bs->∃ e s rows,look st.h l=some (.arr e s rows):=fun l h=>by simp_all
 have au:=Q0A hR bs ak;refine hG β (fzS β S bs) _ a w au (fun x hx=>⟨?_,fun l _=>(ao x hx).2.1 l⟩) ?_ (Bl (fun l ac h=>JS hm h ac) (Rj ar)) K Q fun v w' an=>hK v w' ?_
 ·obtain ⟨⟨b,h1,h2⟩,hb⟩:=ao x hx;rw [A9];exact (Q72 hR.objs aq h2 h1 (hO.at hx)).mono (fun _ h=>h) (fun _ _=>rfl) (fun l _=>Keep.rfl_ ..) (fun t ht=>by rw [hb.2.1 t] at ht;cases ht)
 ·intro l ac;have aj:l ∉ bs:=fun h=>by grind [JS]
  rw [A9,Ln aj,Ln aj];rcases ac with h1 | h1
  ·exact hA l (.inl (by simp [h1]))
  ·exact hA l (.inr (by simp_all [wrL,List.map_append,Qpx]))
 ·obtain ⟨β',S',g1,g2⟩:=an;refine ⟨β',S',?_,?_⟩
  all_goals grind [Rk]
theorem Q55 {tt:TT} (hT:TOk P tt) {o:Oper} {t:TypeId} {len:Nat} {ac:Array (Nat×Operand)} (ho:o.op = .buildSlice t len ac) {u:Bool} {aj:Nat} {ev:Operand->AV} {k:Dl->oP R} {r:R}
  (h:Q4Y tt hl aj u t len (Vj ev ac.toList) k=some r):∃ dl,k dl=some r/\GC P E o ev hl dl:=by
 unfold Q4Y at h;split at h
 ·exact Nv hT ho h
 ·rename_i b bs hb;cases u with
  |false=>simp at h
  |true=>
   rw [<- Q0W] at h;have ao:=Ax h;rw [Qev] at h;obtain ⟨dl,h,hG⟩:=Nv (E:=E) hT ho h;cases hc:(!HS (b::bs) (wrL dl)&&!HS (b::bs) dl.rd) with
   |false=>simp_all
   |true=>
    simp only [hc,Qpa] at h;simp only [Qp7,Bool.not_eq_true'] at hc;refine ⟨_,h,Q2W (fun l ak=>Q5Z (hb▸ak)) (fun x hx=>?_) hG hc.1 hc.2⟩;obtain ⟨i,hi⟩:∃ i,(i,x)∈ac.toList:=by
     grind [Op.operands]
    have hn:Qg4 (cv1 hl (ev x)):=ao _ (BZ hi);refine ⟨?_,hn⟩;unfold cv1 at hn ⊢;cases an:RG hl (ev x) with
    |none=>
     rw [an] at hn;exact absurd rfl hn.2.2
    |some q=>exact ⟨q.2,rfl,fun y hy=>by grind [Qa1]⟩
end
end Go.Vx
namespace Go.Vx
section
variable {P:Program} {E:Env} {R:Type}
theorem DF:∀ {rows:List (List D)} {s:List UInt8},EO rows=some s->∃ ns:List Int,rows=ns.map (fun n=>[D.int .u8 n])/\s=ns.map fun n=>UInt8.ofNat n.toNat
 |[],s,h=>by simp_all [EO]
 |row::r,s,h=>by
  unfold EO at h;split at h
  ·simp_all
  ·rename_i n r' he;injection he with he1 he2
   subst he1 he2;split at h
   ·rename_i l hl;injection h with h
    subst h;obtain ⟨ns,h1,h2⟩:=DF hl;exact ⟨n::ns,by simp [h1],by simp [h2]⟩
   ·cases h
  ·cases h
theorem Q0x:∀ (ns:List Int) (s:ByteArray),(ns.foldl (fun r n=>r.push (UInt8.ofNat n.toNat)) s).data.toList=s.data.toList++ns.map fun n=>UInt8.ofNat n.toNat
 |[],s=>by simp
 |n::ns,s=>by
  rw [List.foldl_cons,Q0x ns];simp [ByteArray.push]
theorem Q7F {tt:TT} (hT:TOk P tt) {o:Oper} {s t:TypeId} {x:Operand} (ho:o.op = .convert s t x) {g:Bool} {ev:Operand->AV} {hl:Nat->oP Ob} {e:Nat} {rows:List (List D)} {rd:List Nat}
  (hs:P5 tt s = .sl e 1) (ht:P5 tt t = .str) (he:P5 tt e = .int .u8) (hx:Q0y 1 hl (ev x)=some (rows,rd)) {k:Dl->oP R} {r:R} (h:gb g (EO rows) [] (fun s=>k ⟨.d (.str s),[],rd⟩)=some r) :
  ∃ dl,k dl=some r/\(g=true->GC P E o ev hl dl):=by
 obtain ⟨ti,bb,a6⟩:=Xu hs QoY;obtain ⟨a3,a2,ax⟩:=Xu ht QoY;obtain ⟨a7,ay,az⟩:=Xu he QoY;have a5:=((hT s ti bb).ksl _ _ a6).1;have a4:=(hT t a3 a2).kstr ax;have ba:=(hT e a7 ay).kint _ az;obtain ⟨str,h,hp⟩:=QO h;refine ⟨_,h,fun hg=>Qk fun β S st a w hR hO hA=>?_⟩;have hv:=hO.at (x:=x) (by simp [ho,Op.operands]);obtain ⟨vals,aw⟩:=Q31 QoW hx hR hv (fun l a8=>hA l (.inl a8));obtain ⟨ns,aj,ak⟩:=DF (hp hg);have ao:∀ bs:ByteArray,bs.data.toList=str->(execOp a.eval o).run P w = .ok (.value (.string bs)) w->∃ u,(execOp a.eval o).run P w = .ok (.value u) w/\RdA β S (look st.h) w (tmv a) u (.d (.str str)):=by
  intro bs hb hr;refine ⟨.string bs,hr,.d _ _ ?_⟩;rw [<- hb];exact .str _
 have ac:∀ (ad:oP Addr) (l c:Nat) (bs:ByteArray),a.eval x = .slice ad l c->(Conv.bytesToString (.slice ad l c)).run P w = .ok (.string bs) w->(execOp a.eval o).run P w = .ok (.value (.string bs)) w:=by
  intro ad l c bs a9 hb;unfold execOp;rw [ho];simp only [a9,Qp9,run_convert_bytes_string w s t e ad l c a5 ba a4,hb,Qp5];rfl
 rcases aw.form with ⟨hf,hn⟩ | ⟨c,hf,hn⟩ | ⟨ad,c,hf,au⟩
 ·refine ao .empty ?_ (ac none 0 0 _ hf (by simp [Conv.bytesToString]));rw [hn] at aj;have:ns=[]:=by
   cases ns with
   |nil=>rfl
   |cons a b=>simp at aj
  rw [ak,this];rfl
 ·refine ao .empty ?_ (ac none 0 c _ hf (by simp [Conv.bytesToString]));rw [hn] at aj;have:ns=[]:=by
   cases ns with
   |nil=>rfl
   |cons a b=>simp at aj
  rw [ak,this];rfl
 ·have bc:vals.length=ns.length:=by rw [aw.len,aj];simp
  have ar:vals=ns.map (Value.int .u8):=by
   refine List.ext_getElem? fun i=>?_
   rcases Nat.lt_or_ge i ns.length with hi | hi
   ·obtain ⟨u,hu,hr⟩:=aw.rd i 0 [D.int .u8 ns[i]] (D.int .u8 ns[i]) (by rw [aj];simp [hi]) rfl;rw [show i*1+0=i by omega] at hu;rw [hu];cases hr;simp [hi]
   ·rw [List.getElem?_eq_none QoW,List.getElem?_eq_none (by simpa using hi)]
  have an:=run_loadCells_list (P:=P) w ad vals au;have hr:=run_bytesToString (P:=P) w ad rows.length c ns (by
   rw [ar,List.length_map] at an;rw [show rows.length=ns.length by rw [aj];simp];exact an)
  refine ao _ ?_ (ac (some ad) _ c _ hf hr);rw [Q0x,ak];rfl
end
end Go.Vx
namespace Go.Vx
variable {hl:Nat->oP Ob} {ev:Operand->AV} {β:Nat->oP Nat} {S:Nat->Prop} {o:Oper} {tt:TT} {t:TypeId}
section
variable {P:Program} {E:Env} {R:Type}
theorem KS {α:Type}:∀ (n s:Nat) (l:List α),(N2 n s l).length=n
 |0,_,_=>rfl
 |n+1,s,l=>by simp [N2,KS n]
theorem BT {α:Type}:∀ (n s:Nat) (l:List α) (i:Nat),i<n->(N2 n s l)[i]? = some ((l.drop (i*s)).take s)
 |n+1,s,l,0,_=>by simp [N2]
 |n+1,s,l,i+1,h=>by
  simp only [N2,List.getElem?_cons_succ];rw [BT n s _ i QoW,List.drop_drop,Nat.add_comm s,Qpy]
theorem Q0z {w:World} {cs:Array Value} {n s:Nat} {ds:List D} (aj:ds.length=n*s) (ak:n*s<=cs.size) (hr:∀ (j:Nat) (x:D),ds[j]? = some x->∃ v,cs[j]? = some v/\Rd S w v x):UV S w cs s (N2 n s ds):=by
 refine ⟨by grind [KS],fun i r h=>?_,fun i j r x h1 h2=>?_⟩
 ·have hi:i<n:=by grind [List.getElem?_eq_some_iff,KS]
  rw [BT n s ds i hi] at h;have ac:(i+1)*s<=n*s:=Qpc _ QoW
  grind
 grind [List.getElem?_eq_some_iff,KS,BT]
theorem Q7x {st:St} {a:Act} {w:World} (hR:Rel E β S st a w) {ac e s:Nat} {rows:List (List D)} {cs:Array Value} (aj:look st.h ac=none) (hc:Ut st ac=true) (h:UV S w cs s rows) :
  Rel E (Rl β ac (some w.heap.size)) S ⟨st.n,st.tm,(ac,.arr e s rows)::rem ac st.h⟩ a (w.alloc (.cells cs e)):=by
 obtain ⟨h1,h2,h3⟩:=h;refine hR.new aj hc (.inr ⟨w.heap.size,cs,by simp [Rl],J2 _ _,h1,h2,fun i j r x h4 h5=>?_⟩);obtain ⟨v,hv,hr⟩:=h3 i j r x h4 h5;exact ⟨v,hv,hr.mono (fun _ hb=>hb) (fun b hb=>Yk _ _ (hR.hr.sb b hb))⟩
theorem Q51 (hT:TOk P tt) (ho:o.op = .alloc t) {ac:Nat} {ti:TyI} (aw:look tt t=some ti) {e aj n:Nat} (hk:ti.kd = .array e aj n) (au:ti.zd.length=n*aj) (hn:hl ac=none) :
  GC P E o ev hl ⟨.ap ac 0 0,[]++[(ac,some (.arr t aj (N2 n aj ti.zd)))],[]⟩:=by
 have ak:=hT t ti aw;obtain ⟨inf,az,_,_,z,hz,ax⟩:=ak.inf;obtain ⟨_,_,_,ao,_⟩:=ak.karr e aj n hk;have a3:z.cells.size=n*aj:=by rw [<- Qpj,ax,ak.zlen];exact ao
 intro β S st a w hR hO hA a4 K Q hK;have ay:look st.h ac=none:=by rw [hA ac (.inr (by simp [wrL]))];exact hn
 have hc:Ut st ac=true:=by grind [Wc]
 have aq:UV S w z.cells aj (N2 n aj ti.zd):=Q0z au QoW fun j x hx=>by
  obtain ⟨v,hv,hr⟩:=ak.zd QoW j x hx
  grind
 have ar:(execOp a.eval o).run P w = .ok (.value (.pointer (some ⟨w.heap.size,0,none⟩))) (w.alloc (.cells z.cells t)):=by
  simp_all [execOp,Instr.alloc,zeroValue,Yi,newVar,newRow]
 unfold Oper.wp;rw [ar];refine hK _ _ ⟨Rl β ac (some w.heap.size),S,Q7x hR ay hc aq,?_⟩;have:=RdA.ap (β:=Rl β ac (some w.heap.size)) (S:=S) (h:=look (Md st.h ([]++[(ac,some (Ob.arr t aj (N2 n aj ti.zd)))]))) (w:=w.alloc (.cells z.cells t)) (tm:=tmv a) ac 0 0 w.heap.size t aj (N2 n aj ti.zd) (by simp [Rl]) (by simp [Md,WK])
 simp_all
theorem Q0M {α:Type} {l:List α} {n:Nat} {u:Unit} (h:Hm l n=some u):l.length=n:=by
 grind [Hm,Nat.beq,Nat.eq_of_beq_eq_true]
theorem BC (hT:TOk P tt) {x i:Operand} (ho:o.op = .indexAddr t x i) {g:Bool} {k:Dl->oP R} {r:R} {e ac n l:Nat} (hk:P5 tt t = .array e ac n) (ay:ev x = .ap l 0 0)
  (h:Lm g hl ac n l (ev i) k=some r):∃ dl,k dl=some r/\(g=true->GC P E o ev hl dl):=by
 have aq:x∈o.op.operands.toList:=by grind [Op.operands]
 have au:i∈o.op.operands.toList:=by simp [ho,Op.operands]
 obtain ⟨ti,ax,ar⟩:=Xu hk QoY;obtain ⟨hu,a4,⟨i0,a3,ak⟩,_,_⟩:=(hT t ti ax).karr _ _ _ ar;unfold Lm at h;split at h
 case h_2=>cases h
 rename_i ik y e' s rows a2 aj;cases hb:Nat.beq s ac with
 |false=>simp_all
 |true=>
  obtain rfl:=Qp8 hb;simp only [hb,Qpa] at h;obtain ⟨u,h,aw⟩:=QO h;refine ⟨_,h,fun hg=>Qk fun β S st a w hR hO hA=>?_⟩;obtain ⟨h0,h1⟩:=Q6O (aw hg);have hi:=(a2▸hO.at au).int_inv;have ao:look st.h l=some (.arr e' s rows):=by rw [hA l (.inl QoY)];exact aj
  obtain ⟨b,az,hx⟩:=RdA.ap_inv ao (ay▸hO.at aq);have an:(execOp a.eval o).run P w = .ok (.value (.pointer (some ⟨b,y.toNat*s,none⟩))) w:=by
   unfold execOp;rw [ho];simp [Instr.indexAt,hx,hi,asIntOf,QA hu,h0,h1,sizeOf,Yi a3,ak,Instr.sureAddr,G4]
  refine ⟨_,an,?_⟩;have:=RdA.ap (β:=β) (S:=S) (h:=look st.h) (w:=w) (tm:=tmv a) l y.toNat 0 b e' s rows az ao;omega
theorem Q56 (hT:TOk P tt) {x y:Operand} (ho:o.op = .store t x y) {k:Dl->oP R} {r:R} {e ay n l:Nat} (hk:P5 tt t = .array e ay n) (bn:ev x = .ap l 0 0)
  (h:Q63 hl ay n l (ev y) k=some r):∃ dl,k dl=some r/\GC P E o ev hl dl:=by
 have bk:x∈o.op.operands.toList:=by grind [Op.operands]
 have bc:y∈o.op.operands.toList:=by simp [ho,Op.operands]
 obtain ⟨ti,bm,bl⟩:=Xu hk QoY;have a5:=hT t ti bm;obtain ⟨hu,bq,_,aw,_⟩:=a5.karr _ _ _ bl;unfold Q63 at h;split at h
 case h_2=>cases h
 rename_i e' s rows a4;cases hb:Nat.beq s ay with
 |false=>simp_all
 |true=>
  obtain rfl:=Qp8 hb;simp only [hb,Qpa] at h;split at h
  case h_2=>cases h
  rename_i ds bj;cases an:Nat.beq ds.length (n*s) with
  |false=>simp_all
  |true=>
   have a8:=Qp8 an;simp only [an,Qpa] at h;obtain ⟨u,h,a3⟩:=QO h;have bh:=Q0M (a3 rfl);refine ⟨_,h,?_⟩;intro β S st a w hR hO hA ca K Q hK;have aj:look st.h l=some (.arr e' s rows):=by rw [hA l (.inl QoY)];exact a4
   obtain ⟨b,ak,hx⟩:=RdA.ap_inv aj (bn▸hO.at bk);have az:=AF bj;obtain ⟨c1,c2,c3⟩:=Mj (hO.at bc) (by rw [az];exact Dn ds);rcases hR.hr.ob l _ aj with ⟨ba,_⟩ | ⟨b',cs,ar,hw,au,b8,b5⟩
   ·rw [ak] at ba;cases ba
   obtain rfl:b=b':=by rw [ak] at ar;injection ar
   rw [bh] at au;have aq:(a.eval y).cells.size=n*s:=by rw [c1,az];simpa using a8
   obtain ⟨w',a9,ac⟩:∃ w',(storeCells ⟨b,0,none⟩ (a.eval y).cells.toList 0).run P w = .ok () w'/\Wrote b (TC cs 0 (a.eval y).cells.toList) e' (0,0) w w':=
    Gh b 0 e' (0,0) _ 0 cs w hw (Qeq _) (by simp [aq];omega) c3
   have a6:∀ j,(TC cs 0 (a.eval y).cells.toList)[j]? = if j<n*s then (a.eval y).cells[j]? else cs[j]?:=by
    intro j;rw [SC _ _ _ _ (by simp [aq];omega)];simp [aq]
   unfold Oper.wp;have bi:a.eval x = .pointer (some ⟨b,0,none⟩):=by simpa using hx
   rw [M0 ho bi (Nl a5 (by rw [aq,aw]) a9)];have a7:∀ k',look ((l,Ob.arr e' s (N2 n s ds))::rem l st.h) k'=if k'=l then some (.arr e' s (N2 n s ds)) else look st.h k':=fun k'=>WK l k' _ st.h
   have ao:Keep β (look st.h) w β (look ((l,.arr e' s (N2 n s ds))::rem l st.h)) w' l:=by
    refine ⟨rfl,fun h=>?_,fun e1 s1 bb h=>?_,fun b2 b6 b3 cb _ an a2=>?_,fun t f h=>by rw [aj] at h;cases h⟩
    ·rw [aj] at h;cases h
    ·rw [aj] at h;cases h;exact .inr ⟨N2 n s ds,by rw [a7,Qpm rfl],by rw [KS];omega⟩
    ·rw [ak] at an;injection an with e;subst e
     rw [hw] at a2;injection a2 with e;injection e with e1 e2 e3;subst e1
     exact ⟨_,_,_,ac.blk,U1 _ _ _⟩
   refine hK undef _ ⟨β,S,hR.set aj ak ac.oth ac.os ac.tape ac.output ac.size ao (.inr ⟨b,_,ak,ac.blk,?_⟩),.top _⟩;have bg:∀ c,S c->w'.heap[c]? = w.heap[c]?:=fun c hc=>ac.oth c (fun e=>by subst e;exact hR.hr.apart l c (by simp [aj]) ak hc)
   have ax:UV S w (TC cs 0 (a.eval y).cells.toList) s (N2 n s ds):=by
    refine Q0z a8 (by rw [U1];exact au) fun j d hd=>?_
    have hj:j<n*s:=by have:=(Qp6.1 hd).1;omega
    have h1:=a6 j;rw [Qpm hj] at h1;rw [h1];refine ⟨_,Hx (cs:=(a.eval y).cells) QoW,?_⟩;have h2:=c2 j (.d d) (by rw [az,Qpg,hd];rfl);exact h2.d_inv
   obtain ⟨r1,r2,r3⟩:=ax;exact ⟨r1,r2,fun i j r x h4 h5=>by
    obtain ⟨v,hv,hr⟩:=r3 i j r x h4 h5;exact ⟨v,hv,hr.mono (fun _ h=>h) bg⟩⟩
theorem QaG {st:St} {a:Act} {w w':World} (hR:Rel E β S st a w) (ac:∀ b,b<w.heap.size->w'.heap[b]? = w.heap[b]?) (ao:w'.heap.size=w.heap.size+1) (an:w'.os=w.os) (ak:w'.tape=w.tape) (aj:w'.output=w.output):Rel E β (fun b=>S b\/b=w.heap.size) st a w':=by
 have:=hR.upd (w':=w') (β':=β) (S':=fun b=>S b\/b=w.heap.size) (H':=st.h) (fun _ h=>.inl h) (fun b hb=>ac b (hR.hr.sb b hb)) (fun _=>False)
  (fun l _=>⟨rfl,rfl,fun b hs hb=>ac b (HX hR hs hb)⟩) (fun l h=>h.elim) (fun l o h=>h.elim) hR.hr.inj
  (fun l b hs hb hS=>by
   rcases hS with hS | hS
   ·exact hR.hr.apart l b hs hb hS
   ·have:=HX hR hs hb;omega)
  hR.hr.own
  (fun b hS=>by
   rcases hS with hS | hS
   ·have:=hR.hr.sb b hS;omega
   ·omega)
  (fun b hS=>by
   rcases hS with hS | hS
   ·exact hR.hr.sfr b hS
   ·right;right;have:=hR.hr.fr.size;omega)
  ⟨an.trans hR.hr.fr.os,ak.trans hR.hr.fr.tape,aj.trans hR.hr.fr.output,by have:=hR.hr.fr.size;omega,fun b hb hm=>(ac b (Qpw hb hR.hr.fr.size)).trans (hR.hr.fr.block b hb hm)⟩
 exact this
theorem Q1t (hT:TOk P tt) {s t:TypeId} {x:Operand} (ho:o.op = .convert s t x) {e:Nat} {n:List UInt8}
  (hs:P5 tt s = .str) (ht:P5 tt t = .sl e 1) (he:P5 tt e = .int .u8) (hx:ev x = .d (.str n)):GC P E o ev hl ⟨.d (.sl 1 (Q8f n)),[],[]⟩:=by
 obtain ⟨ti,ay,aw⟩:=Xu hs QoY;obtain ⟨ar,aq,ac⟩:=Xu ht QoY;obtain ⟨ax,aj,ao⟩:=Xu he QoY;have a5:=(hT s ti ay).kstr aw;have a3:=((hT t ar aq).ksl _ _ ac).1;have a7:=(hT e ax aj).kint _ ao;intro β S st a w hR hO hA ba K Q hK;obtain ⟨b,hb,hv⟩:=(hx▸hO.at (x:=x) (by grind [Op.operands])).str_inv;have an:(execOp a.eval o).run P w = .ok (.value (.slice (some ⟨w.heap.size,0,none⟩) b.size (grownCap w b.size 0 e))) (Lib.bytesWorld w e b):=by
  simp_all [execOp,Qp9,Lib.run_convert_string_bytes,Qp5]
 unfold Oper.wp;rw [an];have az:b.size<=grownCap w b.size 0 e:=grownCap_ge w b.size 0 e;refine hK _ _ ⟨β,fun c=>S c\/c=w.heap.size,QaG hR (fun c hc=>Lib.bytesWorld_at_old w e b c hc) (Lib.bytesWorld_size w e b) rfl rfl rfl,.d _ _ ?_⟩;have ak:(Q8f n).length=b.size:=by simp [Q8f,hb]
 rw [<- ak];refine UV.rd (cs:=Lib.bytesCells w e b) ⟨?_,?_,?_⟩ (Lib.bytesWorld_at_new w e b) (.inr rfl) Qp2
 ·simp_all [Lib.bytesCells]
 ·simp_all [Q8f,Qpg,Qpb]
 ·intro i j r d h1 h2;simp only [Q8f,Qpg,Qpb] at h1;obtain ⟨c,hc,rfl⟩:=h1;cases j with
  |zero=>
   simp at h2;subst h2;have hi:i<b.size:=by have:=(Qp6.1 hc).1;rw [hb] at this;simpa using this
   refine ⟨.int .u8 (c.toNat:Int),?_,.int _ _⟩;rw [hb] at hc;have:b.data[i]? = some c:=by simpa using hc
   have au:i<b.data.size:=hi;simp only [Lib.bytesCells,Nat.mul_one,Nat.add_zero];rw [Array.getElem?_append_left (by simpa using au),Array.getElem?_map,this];rfl
  |succ j=>simp at h2
theorem TM (n:Int):∀ (es:List MapEntry) (i:Nat),(∀ e∈es,∃ m,e.key = .int .i64 m) ->
  (Jq es n=none/\Instr.findNow (.int .i64) (.int .i64 n) es i=some none)\/∃ j v,Jq es n=some v/\Instr.findNow (.int .i64) (.int .i64 n) es i=some (some (j,v))
 |[],i,_=>.inl ⟨rfl,rfl⟩
 |e::r,i,h=>by
  obtain ⟨m,hm⟩:=h e (List.mem_cons_self ..);simp only [Jq,hm,Instr.findNow,Instr.sameNow,if_true];by_cases aj:m=n
  ·simp_all
  ·have hb:(n == m)=false:=by grind
   simp only [hb,aj,if_false];exact TM n r (i+1) fun x hx=>h x (List.mem_cons_of_mem _ hx)
theorem RdA.mpd_inv {h:Nat->oP Ob} {w:World} {tm:Nat->Value} {v:Value} {f:Int->List (List D)} (hv:RdA β S h w tm v (.mpd f)):Q8e S w v f:=by
 cases hv with
 |mpd _ _ hm=>exact hm
 |dang _ _ l hl=>trivial
theorem Q5M (hT:TOk P tt) {m x:Operand} (ho:o.op = .lookup t m x false) {f:Int->List (List D)} {n:Int}
  (ht:P5 tt t = .mapI) (hm:ev m = .mpd f) (hx:ev x = .d (.int .i64 n)):GC P E o ev hl ⟨.d (.sl 1 (f n)),[],[]⟩:=by
 obtain ⟨ti,ar,ao⟩:=Xu ht QoY;obtain ⟨K0,e,hu,hk,i,hi,hz⟩:=(hT t ti ar).kmap ao;intro β S st a w hR hO hA a7 K Q hK;obtain ⟨b,es,au,hv,hS,hb,aj,hn,ac⟩:=(hm▸hO.at (x:=m) (by simp [ho,Op.operands])).mpd_inv;have aq:=(hx▸hO.at (x:=x) (by simp [ho,Op.operands])).int_inv;have aw:(zeroValue e).run P w = .ok (.slice none 0 0) w:=by simp [zeroValue,Yi hi,hz]
 have an:(Instr.checkKey es.isEmpty 10000 K0 (.int .i64 n)).run P w = .ok () w:=by
  rw [show (10000:Nat)=9999+1 from rfl,Instr.checkKey];simp only [Qp9,QA hk,Qp5];rfl
 obtain ⟨v,ak,ax⟩:∃ v,(Instr.lookup t (.map (some b)) (.int .i64 n) false).run P w = .ok v w/\Rd S w v (.sl 1 (f n)):=by
  rcases TM n es.toList 0 aj with ⟨h1,h2⟩ | ⟨j,v,h1,h2⟩
  ·refine ⟨.slice none 0 0,?_,by rw [hn n h1];exact .sl0 _ _ _⟩;simp [Instr.lookup,QA hu,Qpn hb,an,Instr.findKey,QA hk,h2,aw,Result.andThen]
  ·refine ⟨v,?_,ac n v h1⟩;simp [Instr.lookup,QA hu,Qpn hb,an,Instr.findKey,QA hk,h2,Result.andThen]
 unfold Oper.wp execOp;rw [ho];simp only [hv,aq,Qp9,ak,Qp5];exact hK _ _ ⟨β,S,hR,.d _ _ ax⟩
end
end Go.Vx
namespace Go.Vx
variable {hl:Nat->oP Ob} {ev:Operand->AV} {t:TypeId}
section
variable {P:Program} {E:Env} {R:Type}
theorem Q6G (n:Int) (u:Value):∀ (es:List MapEntry) (i:Nat),(∀ e∈es,∃ m,e.key = .int .i64 m)->Jq es n≠none ->
  ∃ j v e,Instr.findNow (.int .i64) (.int .i64 n) es i=some (some (i+j,v))/\es[j]? = some e/\e.key = .int .i64 n /\
   (∀ x∈es.modify j (fun e=>{ e with key:=.int .i64 n,val:=u }),∃ m,x.key = .int .i64 m)/\∀ m,Jq (es.modify j fun e=>{ e with key:=.int .i64 n,val:=u }) m=if m=n then some u else Jq es m
 |[],i,_,h=>absurd rfl h
 |e::r,i,h,hl=>by
  obtain ⟨k,hk⟩:=h e (List.mem_cons_self ..);by_cases aj:k=n
  ·subst aj;refine ⟨0,e.val,e,?_,rfl,hk,fun x hx=>?_,fun m=>?_⟩
   all_goals grind [Instr.findNow,Instr.sameNow,List.modify_zero_cons,Jq]
  ·have hb:(n == k)=false:=by grind
   simp only [Jq,hk,aj,if_false] at hl;obtain ⟨j,v,e',g1,g2,g3,g4,g5⟩:=Q6G n u r (i+1) (fun x hx=>h x (List.mem_cons_of_mem _ hx)) hl;refine ⟨j+1,v,e',?_,by simp_all,g3,fun x hx=>?_,fun m=>?_⟩
   ·simp only [Instr.findNow,Instr.sameNow,hk,hb,if_true,g1];rw [QpA,Nat.add_comm 1 j]
   ·simp only [List.modify_succ_cons,Qpo] at hx;rcases hx with rfl | hx
    ·exact ⟨k,hk⟩
    ·exact g4 x hx
   grind [List.modify_succ_cons,Jq]
theorem Q39 (n:Int) (e:MapEntry) (he:e.key = .int .i64 n):∀ (es:List MapEntry),(∀ e∈es,∃ m,e.key = .int .i64 m)->Jq es n=none->∀ m,Jq (es++[e]) m=if m=n then some e.val else Jq es m
 |[],_,_,m=>by
  simp only [List.nil_append,Jq,he];by_cases h:n=m
  ·simp [h]
  ·rw [Qpi h,Qpi (fun e=>h e.symm)]
 |x::r,h,hl,m=>by
  obtain ⟨k,hk⟩:=h x (List.mem_cons_self ..);simp only [Jq,hk] at hl;by_cases ac:k=n
  ·rw [Qpm ac] at hl;cases hl
  ·rw [Qpi ac] at hl;have ih:=Q39 n e he r (fun y hy=>h y (List.mem_cons_of_mem _ hy)) hl m;simp only [List.cons_append,Jq,hk,ih];by_cases hm:k=m
   ·subst hm;simp [ac]
   ·simp [hm]
theorem Q7w {tt:TT} (hT:TOk P tt) (ht:P5 tt t = .mpb) {w:World} {b:Nat} {f:Int->Bool} (hm:MpR w b f) (n:Int) (v:Bool) :
  ∃ w',(Instr.mapUpdate t (.map (some b)) (.int .i64 n) (.bool v)).run P w = .ok () w'/\MpR w' b (Q7r f n v)/\(∀ k,k≠b->w'.heap[k]? = w.heap[k]?)/\w'.os=w.os/\w'.tape=w.tape/\w'.output=w.output/\w'.heap.size=w.heap.size:=by
 obtain ⟨ti,a6,a4⟩:=Xu ht QoY;obtain ⟨K0,e,hu,hk,i,hi,hz⟩:=(hT t ti a6).kmpb a4;obtain ⟨es,ak,hb,ac,hn,ar⟩:=hm;have az:b<w.heap.size:=(Qpk.1 hb).1;have ay:(Instr.checkKey false 10000 K0 (.int .i64 n)).run P w = .ok () w:=by
  rw [show (10000:Nat)=9999+1 from rfl,Instr.checkKey];simp only [Qp9,QA hk,Qp5];rfl
 have au:∀ (an:Array MapEntry) (aj:Nat),(Instr.mapUpdate t (.map (some b)) (.int .i64 n) (.bool v)).run P w = .ok () { w with heap:=w.heap.setIfInBounds b (.map an aj) } ->
   (∀ e∈an.toList,∃ m,e.key = .int .i64 m)->(∀ m,Jq an.toList m=if m=n then some (.bool v) else Jq es.toList m) ->
   ∃ w',(Instr.mapUpdate t (.map (some b)) (.int .i64 n) (.bool v)).run P w = .ok () w'/\MpR w' b (Q7r f n v)/\(∀ k,k≠b->w'.heap[k]? = w.heap[k]?)/\w'.os=w.os/\w'.tape=w.tape/\w'.output=w.output/\w'.heap.size=w.heap.size:=by
  intro an aj aw a3 ax;refine ⟨_,aw,⟨an,aj,by simp [az],a3,fun m hm=>?_,fun m x hm=>?_⟩,fun k hk=>?_,rfl,rfl,rfl,by simp⟩
  ·rw [ax] at hm;by_cases e1:m=n
   ·rw [Qpm e1] at hm;cases hm
   ·rw [Qpi e1] at hm;simp [Q7r,e1,hn m hm]
  ·rw [ax] at hm;by_cases e1:m=n
   ·rw [Qpm e1] at hm;injection hm with hm;simp [Q7r,e1,<- hm]
   ·rw [Qpi e1] at hm;simp [Q7r,e1,ar m x hm]
  ·simp [Ne.symm hk]
 cases hl:Jq es.toList n with
 |none=>
  have hf:Instr.findNow (.int .i64) (.int .i64 n) es.toList 0=some none:=by
   rcases TM n es.toList 0 ac with ⟨_,h2⟩ | ⟨j,x,h1,_⟩
   ·exact h2
   ·rw [hl] at h1;cases h1
  refine au (es.push ⟨.int .i64 n,.bool v,ak⟩) (ak+1) ?_ (fun x hx=>?_) (fun m=>?_)
  ·simp [Instr.mapUpdate,QA hu,Qpn hb,ay,Instr.findKey,QA hk,hf,MapKept.run_setObj_map _ hb,Result.andThen]
  ·simp only [Array.toList_push,Qpx,List.mem_singleton] at hx;rcases hx with hx | rfl
   ·exact ac x hx
   ·exact ⟨n,rfl⟩
  ·rw [Array.toList_push];exact Q39 n _ rfl es.toList ac hl m
 |some x=>
  obtain ⟨j,y,e',g1,g2,g3,g4,g5⟩:=Q6G n (.bool v) es.toList 0 ac (by rw [hl];simp);rw [Nat.zero_add] at g1;have a5:es[j]? = some e':=by simpa using g2
  have a2:∀ (w:World),(Instr.keyThatStays (.int .i64 n) (.int .i64 n)).run P w = .ok (.int .i64 n) w:=by
   intro w;simp [Instr.keyThatStays,Instr.sameBits]
  refine au (es.modify j fun e=>{ e with key:=.int .i64 n,val:=.bool v }) ak ?_ (by rw [Array.toList_modify];exact g4) (fun m=>by rw [Array.toList_modify];exact g5 m);simp [Instr.mapUpdate,QA hu,Qpn hb,ay,Instr.findKey,QA hk,g1,a5,g3,a2,MapKept.run_setObj_map _ hb,Result.andThen]
theorem Q40 {o:Oper} (ho:o.op = .makeMap t none) {ac:Nat} (hn:hl ac=none) :
  GC P E o ev hl ⟨.arr ac,[]++[(ac,some (.mp t fun _=>false))],[]⟩:=by
 intro β S st a w hR hO hA ao K Q hK;have ak:look st.h ac=none:=by rw [hA ac (.inr (by simp [wrL]))];exact hn
 have hc:Ut st ac=true:=by grind [Wc]
 have aj:(execOp a.eval o).run P w = .ok (.value (.map (some w.heap.size))) (w.alloc (.map #[] 0)):=by
  unfold execOp;rw [ho];rfl
 unfold Oper.wp;rw [aj];refine hK _ _ ⟨Rl β ac (some w.heap.size),S,?_,.mp ac w.heap.size t (fun _=>false) (by simp [Rl]) (by simp [Md,look])⟩;exact hR.new ak hc ⟨w.heap.size,by simp [Rl],#[],0,J2 _ _,by simp,fun n _=>rfl,fun n v h=>by trivial⟩
theorem Q0s {tt:TT} (hT:TOk P tt) {o:Oper} {m x v:Operand} (ho:o.op = .mapUpdate t m x v) {l t':Nat} {f:Int->Bool} {n:Int} {b:Bool}
  (ht:P5 tt t = .mpb) (hm:ev m = .arr l) (hx:ev x = .d (.int .i64 n)) (hv:ev v = .d (.bool b)) (ac:hl l=some (.mp t' f)):GC P E o ev hl ⟨.top,[(l,some (.mp t' (Q7r f n b)))],[l]⟩:=by
 intro β S st a w hR hO hA bc K Q hK;have ac:look st.h l=some (.mp t' f):=by rw [hA l (.inl QoY)];exact ac
 obtain ⟨bk,hb,a7⟩:=RdA.mp_inv ac (hm▸hO.at (x:=m) (by grind [Op.operands]));have a9:=(hx▸hO.at (x:=x) (by simp [ho,Op.operands])).int_inv;have bg:=(hv▸hO.at (x:=v) (by simp [ho,Op.operands])).bool_inv;obtain ⟨b2,ba,aq⟩:=hR.hr.ob l _ ac;obtain rfl:bk=b2:=by simp_all
 obtain ⟨w',a2,ar,an,az,aj,ao,ax⟩:=Q7w hT ht aq n b;have ak:(execOp a.eval o).run P w = .ok .skip w':=by
  simp_all [execOp,Qp9,Qp5]
 unfold Oper.wp;rw [ak];refine hK undef _ ⟨β,S,?_,.top _⟩;obtain ⟨es,ay,a4,_⟩:=aq;refine hR.set ac hb an az aj ao ax ⟨rfl,fun h=>?_,fun e s rows h=>?_,fun b3 cs ty fz _ bh a6=>?_,fun t1 f1 h=>?_⟩ ⟨bk,hb,ar⟩
 ·simp_all
 ·rw [ac] at h;cases h
 ·simp_all
 ·rw [ac] at h;injection h with h
  injection h with h1 h2
  subst h1;exact .inr ⟨Q7r f n b,by rw [WK,Qpm rfl]⟩
theorem Q4C {tt:TT} (hT:TOk P tt) {o:Oper} {m x:Operand} (ho:o.op = .lookup t m x false) {l t':Nat} {f:Int->Bool} {n:Int}
  (ht:P5 tt t = .mpb) (hm:ev m = .arr l) (hx:ev x = .d (.int .i64 n)) (ac:hl l=some (.mp t' f)):GC P E o ev hl ⟨.d (.bool (f n)),[],[l]⟩:=by
 obtain ⟨ti,ay,aw⟩:=Xu ht QoY;obtain ⟨K0,e,hu,hk,i,hi,hz⟩:=(hT t ti ay).kmpb aw;refine Qk fun β S st a w hR hO hA=>?_
 have ac:look st.h l=some (.mp t' f):=by rw [hA l (.inl QoY)];exact ac
 obtain ⟨bk,hb,au⟩:=RdA.mp_inv ac (hm▸hO.at (x:=m) (by simp [ho,Op.operands]));have ax:=(hx▸hO.at (x:=x) (by simp [ho,Op.operands])).int_inv;obtain ⟨b2,aq,es,az,an,ak,hn,aj⟩:=hR.hr.ob l _ ac;obtain rfl:bk=b2:=by rw [hb] at aq;injection aq
 have a2:(zeroValue e).run P w = .ok (.bool false) w:=by simp [zeroValue,Yi hi,hz]
 have ar:(Instr.checkKey es.isEmpty 10000 K0 (.int .i64 n)).run P w = .ok () w:=by
  rw [show (10000:Nat)=9999+1 from rfl,Instr.checkKey];simp only [Qp9,QA hk,Qp5];rfl
 have ao:(Instr.lookup t (.map (some bk)) (.int .i64 n) false).run P w = .ok (.bool (f n)) w:=by
  rcases TM n es.toList 0 ak with ⟨h1,h2⟩ | ⟨j,v,h1,h2⟩
  ·rw [hn n h1];simp [Instr.lookup,QA hu,Qpn an,ar,Instr.findKey,QA hk,h2,a2,Result.andThen]
  ·rw [<- aj n v h1];simp [Instr.lookup,QA hu,Qpn an,ar,Instr.findKey,QA hk,h2,Result.andThen]
 refine ⟨.bool (f n),?_,.d _ _ (.bool _)⟩;unfold execOp;rw [ho];simp only [au,ax,Qp9,ao,Qp5];rfl
end
end Go.Vx
namespace Go.Vx
variable {hl:Nat->oP Ob} {ev:Operand->AV} {o:Oper} {t:TypeId}
section
variable {P:Program} {E:Env} {R:Type}
theorem Q5j {s:List UInt8} {n b:Int} (h:VU s n=some b):0<=n/\∃ ac:n.toNat<s.length,b=((s[n.toNat]' ac).toNat:Int):=by
 grind [VU]
theorem Q8i {tt:TT} (hT:TOk P tt) {x i:Operand} (ho:o.op = .index t x i) {g:Bool} {k:Dl->oP R} {r:R}
  (h:QaO tt g t (ev x) (ev i) k=some r):∃ dl,k dl=some r/\(g=true->GC P E o ev hl dl):=by
 have ac:x∈o.op.operands.toList:=by grind [Op.operands]
 have ak:i∈o.op.operands.toList:=by simp [ho,Op.operands]
 unfold QaO at h;split at h
 case h_2=>cases h
 rename_i s ik n hk ao aq;obtain ⟨ti,an,aj⟩:=Xu hk QoY;have hu:=(hT t ti an).kstr aj;obtain ⟨b,h,hp⟩:=QO h;refine ⟨_,h,fun hg=>Qk fun β S st a w hR hO hA=>?_⟩;obtain ⟨bs,hs,hx⟩:=(ao▸hO.at ac).str_inv;have hi:=(aq▸hO.at ak).int_inv;obtain ⟨h0,au,hb⟩:=Q5j (hp hg);have ay:s.length=bs.size:=by simp_all
 refine ⟨.int .u8 b,?_,.d _ _ (.int _ _)⟩;unfold execOp;have:=run_index_string (P:=P) w t bs ik n hu;rw [dif_pos ⟨h0,QoW⟩] at this
 simp_all [Qp9,Qp5,ByteArray.getElem_eq_getElem_data]
theorem VK {β:Nat->oP Nat} {S:Nat->Prop} {h:Nat->oP Ob} {w:World} {tm:Nat->Value} {ρ:Operand->Value} {x:oP Operand} {n:oP Int} (hb:NF ev x=some n) (hx:∀ y,x=some y->RdA β S h w tm (ρ y) (ev y)) :
  (x=none/\n=none)\/∃ y k m,x=some y/\n=some m/\ρ y = .int k m:=by
 cases x with
 |none=>grind [NF]
 |some y=>
  simp only [NF] at hb;split at hb
  ·rename_i k m ac;simp at hb;exact .inr ⟨y,k,m,rfl,hb.symm,(ac▸hx y rfl).int_inv⟩
  ·cases hb
theorem M5 {len:Nat} {lo hi:oP Int} {q:Nat×Nat} (h:slB len lo hi=some q) :
  0<=lo.getD 0/\lo.getD 0<=hi.getD len/\hi.getD len<=len/\q=((lo.getD 0).toNat,(hi.getD len).toNat):=by
 grind [slB]
theorem Mb (ac:Bool) {len cap:Nat} (aq:len<=cap) {lo hi:oP Operand} {l h:oP Int} {ρ:Operand->Value} {w:World} {q:Nat×Nat} (hs:slB len l h=some q)
  (an:(lo=none/\l=none)\/∃ y k m,lo=some y/\l=some m/\ρ y = .int k m) (ak:(hi=none/\h=none)\/∃ y k m,hi=some y/\h=some m/\ρ y = .int k m) :
  (Instr.sliceBounds ac len cap (lo.map ρ) (hi.map ρ) none).run P w = .ok (q.1,q.2,cap) w:=by
 obtain ⟨h1,h2,h3,rfl⟩:=M5 hs;rcases an with ⟨rfl,rfl⟩ | ⟨y,k,m,rfl,rfl,hy⟩ <;> rcases ak with ⟨rfl,rfl⟩ | ⟨y',k',m',rfl,rfl,ao⟩ <;> simp only [Option.getD_none,Option.getD_some] at h1 h2 h3
 ·rfl
 ·have e1:0<=m'/\m'<=(cap:Int):=QoW
  simp_all [Instr.sliceBounds,run_sliceBound_if]
 ·simp_all [Instr.sliceBounds,run_sliceBound_if]
 ·have e1:0<=m'/\m'<=(cap:Int):=QoW
  have e2:0<=m/\m<=(m'.toNat:Int):=QoW
  simp_all [Instr.sliceBounds,run_sliceBound_if]
theorem EA {α:Type} {l:List α} {q:Nat×Nat} {i:Nat} {a:α} (h:(cut l q)[i]? = some a):i<q.2-q.1/\l[q.1+i]? = some a:=by
 simp_all [cut,List.getElem?_take,List.getElem?_drop]
theorem Q3c {x:Operand} {lo hi:oP Operand} (ho:o.op = .slice t x lo hi none):x∈o.op.operands.toList/\(∀ y,lo=some y->y∈o.op.operands.toList)/\∀ y,hi=some y->y∈o.op.operands.toList:=by
 grind [Op.operands]
theorem Q8h {tt:TT} (hT:TOk P tt) {x:Operand} {lo hi:oP Operand} (ho:o.op = .slice t x lo hi none) {g:Bool} {k:Dl->oP R} {r:R}
  (h:Q8T tt g t (ev x) (NF ev lo) (NF ev hi) k=some r):∃ dl,k dl=some r/\(g=true->GC P E o ev hl dl):=by
 obtain ⟨a3,aw,aj⟩:=Q3c ho;unfold Q8T at h;split at h
 case h_2=>cases h
 rename_i l' h' a5 a4;split at h
 ·rename_i s hk ay;obtain ⟨ti,ax,ao⟩:=Xu hk QoY;have hu:=(hT t ti ax).kstr ao;obtain ⟨q,h,hp⟩:=QO h;refine ⟨_,h,fun hg=>Qk fun β S st a w hR hO hA=>?_⟩;obtain ⟨bs,hs,hx⟩:=(ay▸hO.at a3).str_inv;have ar:s.length=bs.size:=by simp_all
  have hb:=Mb (P:=P) false (len:=s.length) (cap:=s.length) (Qpt _) (ρ:=a.eval) (w:=w) (hp hg) (VK a5 fun y hy=>hO.at (aw y hy)) (VK a4 fun y hy=>hO.at (aj y hy));rw [ar] at hb;refine ⟨.string (bs.extract q.1 q.2),?_,.d _ _ ?_⟩
  ·simp_all [execOp,Qp9,run_sliceAt_string,Option.map_none,Instr.slice,QA,Qp5,Option.isSome_none,Bool.false_eq_true,if_false]
  ·have:cut s q=(bs.extract q.1 q.2).data.toList:=by
    rw [hs];simp [cut,ByteArray.data_extract]
   rw [this];exact .str _
 ·rename_i e ba s rows hk ay;cases hb:Nat.beq s ba with
  |false=>simp [hb] at h
  |true=>
   simp only [hb,Qpa] at h;obtain rfl:=Qp8 hb;obtain ⟨ti,ax,ao⟩:=Xu hk QoY;obtain ⟨hu,a7,inf,an,ar⟩:=(hT t ti ax).ksl _ _ ao;obtain ⟨q,h,hp⟩:=QO h;refine ⟨_,h,fun hg=>Qk fun β S st a w hR hO hA=>?_⟩;have bb:=(ay▸hO.at a3).d_inv;have hq:=M5 (hp hg);have au:∀ (ad:oP Addr) (cap:Nat),rows.length<=cap->a.eval x = .slice ad rows.length cap->(execOp a.eval o).run P w = .ok (.value (.slice (if cap=q.1 then ad else ad.map (·.add (q.1*s))) (q.2-q.1) (cap-q.1))) w:=by
    intro ad cap hc hx;have hb:=Mb (P:=P) true hc (ρ:=a.eval) (w:=w) (hp hg) (VK a5 fun y hy=>hO.at (aw y hy)) (VK a4 fun y hy=>hO.at (aj y hy));unfold execOp;rw [ho];simp only [hx,Qp9,Instr.sliceAt,QA hu,Qp5,Option.map_none];simp only [Instr.slice,Qp9,QA hu,Qp5,hb,sizeOf,Yi an,ar];rfl
   have az:(cut rows q).length=q.2-q.1:=by
    unfold cut;rw [hq.2.2.2];simp;omega
   generalize hv:a.eval x=v at bb au;cases bb with
   |sl0 ad cap _=>
    refine ⟨_,au ad cap (Nat.zero_le _) rfl,.d _ _ ?_⟩;have:cut ([]:List (List D)) q=[]:=by simp [cut]
    rw [this];have h0:q.2-q.1=0:=by rw [this] at az;simpa using az.symm
    rw [h0];exact .sl0 _ _ _
   |sl ad cap _ _ c hS a8 a6 hc hr=>
    refine ⟨_,au (some ad) cap a8 rfl,.d _ _ ?_⟩;by_cases h0:q.2-q.1=0
    ·have:cut rows q=[]:=Qpf (by rw [az,h0]);rw [this,h0];exact .sl0 _ _ _
    ·have bc:cap≠q.1:=by
      have:=hq.2.2.1;have:=hq.2.2.2;have h1:q.2<=rows.length:=by rw [this];simp;omega
      omega
     rw [Qpi bc,<- az];refine Rd.sl (ad.add (q.1*s)) (cap-q.1) s (cut rows q) (fun i j=>c (q.1+i) j) (by rw [Jx];exact hS) ?_ ?_ ?_ ?_
     ·rw [az];have:=hq.2.2.2;have h1:q.2<=rows.length:=by rw [this];simp;omega
      omega
     ·intro i r ak;exact a6 _ _ (EA ak).2
     ·intro i j r y ak hy;have:=hc (q.1+i) j r y (EA ak).2 hy;rw [Bh,<- QpA,<- Nat.add_mul];exact this
     ·intro i j r y ak hy;exact hr (q.1+i) j r y (EA ak).2 hy
 ·rename_i e ba hk ay;obtain ⟨ti,ax,ao⟩:=Xu hk QoY;obtain ⟨hu,a7,inf,an,ar⟩:=(hT t ti ax).ksl _ _ ao;obtain ⟨q,h,hp⟩:=QO h;refine ⟨_,h,fun hg=>Qk fun β S st a w hR hO hA=>?_⟩;have hx:=(ay▸hO.at a3).nil_inv;have hq:=M5 (hp hg);have hb:=Mb (P:=P) true (Qpt 0) (ρ:=a.eval) (w:=w) (hp hg) (VK a5 fun y hy=>hO.at (aw y hy)) (VK a4 fun y hy=>hO.at (aj y hy));have h0:q.2-q.1=0:=by
   obtain ⟨q1,q2,q3,q4⟩:=hq;rw [q4];show (h'.getD ((0:Nat):Int)).toNat-(l'.getD 0).toNat=0;omega
  have h1:0-q.1=0:=Nat.zero_sub _;refine ⟨.slice none 0 0,?_,.nil⟩;unfold execOp;rw [ho];simp only [hx,Qp9,Instr.sliceAt,QA hu,Qp5,Option.map_none];simp only [Instr.slice,Qp9,QA hu,Qp5,hb,sizeOf,Yi an,ar,h0,h1,Option.map_none,ite_self];rfl
 ·cases h
theorem Q3M {len:Nat} {lo hi mx:oP Int} {q:Nat×Nat} (h:QhF len lo hi mx=some q):∃ m,hi=some m/\mx=some m/\slB len lo (some m)=some q:=by
 unfold QhF at h
 grind
theorem B8 {len cap:Nat} (ao:len<=cap) {lo:oP Operand} {yh ym:Operand} {l:oP Int} {m:Int} {kh km:IntKind} {ρ:Operand->Value} {w:World} {q:Nat×Nat} (hs:slB len l (some m)=some q)
  (ac:(lo=none/\l=none)\/∃ y k m,lo=some y/\l=some m/\ρ y = .int k m) (hh:ρ yh = .int kh m) (hm:ρ ym = .int km m) :
  (Instr.sliceBounds true len cap (lo.map ρ) (some (ρ yh)) (some (ρ ym))).run P w = .ok (q.1,q.2,q.2) w:=by
 obtain ⟨h1,h2,h3,rfl⟩:=M5 hs;simp only [Option.getD_some] at h2 h3;have e1:0<=m/\m<=(cap:Int):=by
  omega
 have e2:0<=m/\m<=(m.toNat:Int):=QoW
 rcases ac with ⟨rfl,rfl⟩ | ⟨y,k,a,rfl,rfl,hy⟩
 ·simp_all [Instr.sliceBounds,run_sliceBound_if]
 ·simp only [Option.getD_some] at h1 h2;have e3:0<=a/\a<=(m.toNat:Int):=QoW
  simp_all [Instr.sliceBounds,run_sliceBound_if,Qpm]
theorem Q7E {x mx:Operand} {lo hi:oP Operand} (ho:o.op = .slice t x lo hi (some mx)):x∈o.op.operands.toList/\(∀ y,lo=some y->y∈o.op.operands.toList)/\(∀ y,hi=some y->y∈o.op.operands.toList)/\mx∈o.op.operands.toList:=by
 grind [Op.operands]
theorem Q5D {tt:TT} (hT:TOk P tt) {x mx:Operand} {lo hi:oP Operand} (ho:o.op = .slice t x lo hi (some mx)) {g:Bool} {k:Dl->oP R} {r:R}
  (h:Q4I tt g t (ev x) (NF ev lo) (NF ev hi) (NF ev (some mx)) k=some r):∃ dl,k dl=some r/\(g=true->GC P E o ev hl dl):=by
 obtain ⟨bi,au,aw,bl⟩:=Q7E ho;unfold Q4I at h;split at h
 case h_2=>cases h
 rename_i l' h' m' ba bc bg;split at h
 ·rename_i e bj s rows hk a7;cases hb:Nat.beq s bj with
  |false=>simp_all
  |true=>
   simp only [hb,Qpa] at h;obtain rfl:=Qp8 hb;obtain ⟨ti,a6,a3⟩:=Xu hk QoY;obtain ⟨hu,bb,inf,an,ay⟩:=(hT t ti a6).ksl _ _ a3;obtain ⟨q,h,hp⟩:=QO h;refine ⟨_,h,fun hg=>Qk fun β S st a w hR hO hA=>?_⟩;have bk:=(a7▸hO.at bi).d_inv;obtain ⟨m,rfl,rfl,ao⟩:=Q3M (hp hg);have hq:=M5 ao;rcases VK bc fun y hy=>hO.at (aw y hy) with ⟨_,hn⟩ | ⟨yh,kh,mh,rfl,e1,a2⟩
   ·cases hn
   rcases VK bg fun y hy=>hO.at (by injection hy with hy;subst hy;exact bl) with ⟨_,hn⟩ | ⟨ym,km,mm,e3,e2,a5⟩
   ·cases hn
   injection e1 with e1
   injection e2 with e2
   injection e3 with e3
   subst e1 e2 e3;have aq:∀ (ad:oP Addr) (cap:Nat),rows.length<=cap->a.eval x = .slice ad rows.length cap->(execOp a.eval o).run P w = .ok (.value (.slice (if q.2=q.1 then ad else ad.map (·.add (q.1*s))) (q.2-q.1) (q.2-q.1))) w:=by
    intro ad cap hc hx;have hb:=B8 (P:=P) hc (ρ:=a.eval) (w:=w) ao (VK ba fun y hy=>hO.at (au y hy)) a2 a5;unfold execOp;rw [ho];simp only [hx,Qp9,Instr.sliceAt,QA hu,Qp5,Option.map_some];simp only [Instr.slice,Qp9,QA hu,Qp5,hb,sizeOf,Yi an,ay];rfl
   have bz:q.2<=rows.length:=by
    have h3:=hq.2.2.1;rw [hq.2.2.2];simp only [Option.getD_some] at h3 ⊢;omega
   have aj:(cut rows q).length=q.2-q.1:=by
    unfold cut;simp;omega
   generalize hv:a.eval x=v at bk aq;have ax:∀ (ad:oP Addr),Rd S w (.slice ad (q.2-q.1) (q.2-q.1)) (.sl s (cut rows q))->RdA β S (look st.h) w (tmv a) (.slice ad (q.2-q.1) (q.2-q.1)) (.fs s (cut rows q)):=by
    intro ad hr;have:=RdA.fs (β:=β) (h:=look st.h) (tm:=tmv a) ad s (cut rows q) (by rw [aj];exact hr);rw [aj] at this;exact this
   cases bk with
   |sl0 ad cap _=>
    refine ⟨_,aq ad cap (Nat.zero_le _) rfl,ax _ ?_⟩;have:cut ([]:List (List D)) q=[]:=by simp [cut]
    rw [this];have h0:q.2-q.1=0:=by rw [this] at aj;simpa using aj.symm
    rw [h0];exact .sl0 _ _ _
   |sl ad cap _ _ c hS a9 bh hc hr=>
    refine ⟨_,aq (some ad) cap a9 rfl,ax _ ?_⟩;by_cases h0:q.2-q.1=0
    ·have:cut rows q=[]:=Qpf (by rw [aj,h0]);rw [this,h0];exact .sl0 _ _ _
    ·have bm:q.2≠q.1:=QoW
     rw [Qpi bm];have:=Rd.sl (S:=S) (w:=w) (ad.add (q.1*s)) (q.2-q.1) s (cut rows q) (fun i j=>c (q.1+i) j) (by rw [Jx];exact hS) (by rw [aj];exact Qpt _) (fun i r ak=>bh _ _ (EA ak).2) (fun i j r y ak hy=>by
      have:=hc (q.1+i) j r y (EA ak).2 hy;rw [Bh,<- QpA,<- Nat.add_mul];exact this) (fun i j r y ak hy=>hr (q.1+i) j r y (EA ak).2 hy)
     rw [aj] at this;exact this
 ·rename_i e bj hk a7;obtain ⟨ti,a6,a3⟩:=Xu hk QoY;obtain ⟨hu,bb,inf,an,ay⟩:=(hT t ti a6).ksl _ _ a3;obtain ⟨q,h,hp⟩:=QO h;refine ⟨_,h,fun hg=>Qk fun β S st a w hR hO hA=>?_⟩;have hx:=(a7▸hO.at bi).nil_inv;obtain ⟨m,rfl,rfl,ao⟩:=Q3M (hp hg);have hq:=M5 ao;rcases VK bc fun y hy=>hO.at (aw y hy) with ⟨_,hn⟩ | ⟨yh,kh,mh,rfl,e1,a2⟩
  ·cases hn
  rcases VK bg fun y hy=>hO.at (by injection hy with hy;subst hy;exact bl) with ⟨_,hn⟩ | ⟨ym,km,mm,e3,e2,a5⟩
  ·cases hn
  injection e1 with e1
  injection e2 with e2
  injection e3 with e3
  subst e1 e2 e3;have hb:=B8 (P:=P) (Qpt 0) (ρ:=a.eval) (w:=w) ao (VK ba fun y hy=>hO.at (au y hy)) a2 a5;have h0:q.2-q.1=0:=by
   obtain ⟨q1,q2,q3,q4⟩:=hq;rw [q4];simp only [Option.getD_some] at q2 q3 ⊢;omega
  refine ⟨.slice none 0 0,?_,.fs none _ [] (.sl0 _ _ _)⟩;unfold execOp;rw [ho];simp only [hx,Qp9,Instr.sliceAt,QA hu,Qp5,Option.map_some];simp only [Instr.slice,Qp9,QA hu,Qp5,hb,sizeOf,Yi an,ay,h0,Option.map_none,ite_self];rfl
 ·cases h
end
end Go.Vx
