/- Part of a proof. No conditions of their own. -/
import Derived.Orders
import Derived.Below
import Derived.Laws.StructEq
import Derived.Laws.Strings3
import Derived.Laws.Concat
import Derived.Laws.BytesString
import Derived.Laws.Shifts
import Derived.Laws.Slices
import Derived.Laws.Cells
import Derived.Laws.Rows
import Derived.Tactics2
import Derived.WideLaws
import Derived.Laws.AppendOwn
import Derived.Maps.AppendAt
import Derived.ArgAppend
import Derived.Lib.ConvBytes
import Derived.Carry
set_option linter.unusedVariables false
set_option linter.unusedSimpArgs false
noncomputable section
abbrev Qo7:=@Go.Result.andThen_ok
abbrev Qo8:=@List.getElem?_eq_some_iff
abbrev Qo9:=@Bool.and_eq_true
abbrev Qoa:=@Nat.eq_of_beq_eq_true
abbrev Qob:=@Go.Sem.run_bind
abbrev Qoc:=@cond_true
abbrev Qod:=@Option.map_eq_some_iff
abbrev Qoe:=@Nat.mul_le_mul_right
abbrev Qof:=@Go.ByteArray.toList_eq
abbrev Qog:=@List.mem_of_getElem?
abbrev Qoh:=@List.eq_nil_of_length_eq_zero
abbrev Qoi:=@List.getElem?_map
abbrev Qoj:=@Nat.le_of_ble_eq_true
abbrev Qok:=@if_neg
abbrev Qol:=@Array.length_toList
abbrev Qom:=@Array.getElem?_eq_some_iff
abbrev Qon:=@List.getElem?_eq_getElem
abbrev Qoo:=@if_pos
abbrev Qop:=@Go.MapKept.run_getObj_map
abbrev Qoq:=@List.mem_cons
abbrev Qor:=@List.all_eq_true
abbrev Qos:=@List.getElem?_set_self
abbrev Qot:=@List.getElem?_set_ne
abbrev Qou:=@Go.Sem.run_pure
abbrev Qov:=@Nat.le_refl
abbrev Qow:=@Nat.mul_le_mul_left
abbrev Qox:=@List.length_cons
abbrev Qoy:=@Nat.lt_of_lt_of_le
abbrev Qoz:=@List.mem_append
abbrev QoA:=@Nat.succ_mul
abbrev QoB:=@List.map_cons
abbrev QoC:=@Nat.add_assoc
abbrev oP:=Option
theorem Q0 {p:Prop} (h:p:=by omega):p:=h
theorem Q1 {p:Prop} (h:p:=by decide):p:=h
theorem Q2 {p:Prop} (h:p:=by simp):p:=h
theorem Q3 {p:Prop} (h:p:=by simp;omega):p:=h
theorem Q4 {p:Prop} (h:p:=by simp_all):p:=h
theorem Q5 (p:Prop) [Decidable p] (h:¬p:=by omega):decide p=false:=decide_eq_false h
theorem Q6 (p:Prop) [Decidable p] (h:p:=by omega):decide p=true:=decide_eq_true h
namespace Go.Vx
inductive D where
 |int (k:IntKind) (n:Int)
 |bool (b:Bool)
 |str (s:List UInt8)
 |sl (size:Nat) (rows:List (List D))
inductive AV where
 |top
 |d (x:D)
 |nil
 |ag (l:List AV)
 |tup (l:List AV)
 |ptr (l off:Nat)
 |el (row:List D) (off:Nat)
 |arr (l:Nat)
 |ap (l i off:Nat)
 |gd (t:Nat) (w:Bool) (av:AV)
 |fn (f:Nat) (cap:List AV)
 |fs (s:Nat) (rows:List (List D))
 |sa (l t:Nat)
 |mpd (f:Int->List (List D))
 |ex (v:Value)
inductive Ob where
 |box (cells:List AV)
 |arr (elem size:Nat) (rows:List (List D))
 |mp (t:Nat) (f:Int->Bool)
structure St where
 n:Nat
 tm:List (Nat×AV)
 h:List (Nat×Ob)
def look {α:Type}:List (Nat×α)->Nat->oP α
 |[],_=>none
 |(k,a)::r,t=>bif Nat.beq k t then some a else look r t
def rem {α:Type} (l:Nat):List (Nat×α)->List (Nat×α)
 |[]=>[]
 |(k,a)::r=>bif Nat.beq k l then rem l r else (k,a)::rem l r
def MO (h:List (Nat×Ob)):List (Nat×oP Ob)->List (Nat×Ob)
 |[]=>h
 |(l,some o)::r=>MO ((l,o)::rem l h) r
 |(l,none)::r=>MO (rem l h) r
def S1:Value->AV
 |.int k n=>.d (.int k n)
 |.bool b=>.d (.bool b)
 |.string s=>.d (.str s.data.toList)
 |.slice none 0 0=>.nil
 |_=>.top
inductive Kd where
 |int (k:IntKind)
 |bool
 |str
 |sl (e esz:Nat)
 |struct
 |array (e esz n:Nat)
 |ptr
 |mapI
 |mpb
 |other
structure TyI where
 kd:Kd
 size:Nat
 bytes:Nat
 zero:List Value
 zd:List D
 fields:List (Nat×Nat)
 eqk:oP (List Kd)
abbrev TT:=List (Nat×TyI)
structure Dl where
 v:AV
 wr:List (Nat×oP Ob)
 rd:List Nat
def lkT (tm:List (Nat×AV)) (t:Nat):AV:=(look tm t).getD .top
def evO (tm:List (Nat×AV)):Operand->AV
 |.tmp t=>lkT tm t
 |.const v=>S1 v
 |.global _=>.top
 |.func f=>.fn f []
def bw (e w:Bool):Bool:=bif w then e else !e
def ctx (tm:List (Nat×AV)):Nat->Nat->Bool->oP (Bool×List (Nat×Bool))
 |0,_,_=>none
 |f+1,s,w=>
  match lkT tm s with
  |.d (.bool e)=>some (bw e w,[(s,w)])
  |.gd s' w' (.d (.bool e))=>
   match ctx tm f s' w' with
   |some (g,l)=>some (g&&bw e w,(s,w)::l)
   |none=>none
  |_=>none
def Qei:List (Nat×Bool)->Nat->Bool->Bool
 |[],_,_=>false
 |(a,b)::r,s,w=>(Nat.beq a s&&(b == w))||Qei r s w
def unw (l:List (Nat×Bool)):AV->AV
 |.gd s w av=>bif Qei l s w then av else .gd s w av
 |av=>av
section
variable {R:Type}
def orZ {α:Type} (g:Bool) (p:oP α) (z:α):oP α:=
 match p with
 |some a=>some a
 |none=>bif g then none else some z
def gb {α:Type} (g:Bool) (p:oP α) (z:α) (k:α->oP R):oP R:=Option.bind (orZ g p z) k
def Qk (k:IntKind):D->oP Int
 |.int k' n=>bif k == k' then some n else none
 |_=>none
def Gp:D->oP Bool
 |.bool b=>some b
 |_=>none
def NB:D->oP (List UInt8)
 |.str s=>some s
 |_=>none
def pSl (size:Nat):D->oP (List (List D))
 |.sl s rows=>bif Nat.beq s size then some rows else none
 |_=>none
def JS:List AV->Bool
 |[]=>true
 |.ptr ..::r=>JS r
 |.d _::r=>JS r
 |_=>false
def Q12:AV->Bool
 |.gd ..=>false
 |.fn _ l=>JS l
 |.ag _=>false
 |.tup _=>false
 |_=>true
def prj (g:Bool) (kd:Kd) (av:AV) (k:AV->oP R):oP R:=
 match av with
 |.d x=>
  match kd with
  |.int ik=>gb g (Qk ik x) 0 fun n=>k (.d (.int ik n))
  |.bool=>gb g (Gp x) false fun b=>k (.d (.bool b))
  |.str=>gb g (NB x) [] fun s=>k (.d (.str s))
  |.sl _ ac=>gb g (pSl ac x) [] fun r=>k (.d (.sl ac r))
  |_=>none
 |av=>bif Q12 av then k av else none
def Q1t (g:Bool) (row:List D):Nat->Nat->(List AV->oP R)->oP R
 |_,0,k=>k []
 |off,n+1,k=>gb g row[off]? (.bool false) fun c=>Q1t g row (off+1) n fun cs=>k (.d c::cs)
def BT (cells:List AV):Nat->Nat->oP (List AV)
 |_,0=>some []
 |off,n+1=>
  match cells[off]? with
  |some c=>match BT cells (off+1) n with
   |some r=>bif Q12 c then some (c::r) else none
   |none=>none
  |none=>none
def RL:Kd->Bool
 |.struct=>true
 |_=>false
def VH:Kd->Bool
 |.struct=>true
 |.array ..=>true
 |_=>false
def NI {α:Type}:Nat->Nat->List α->List (List α)
 |0,_,_=>[]
 |n+1,s,l=>l.take s::NI n s (l.drop s)
def Tv {α:Type} (l:List α) (n:Nat):oP Unit:=bif Nat.beq l.length n then some () else none
def Q3g:AV->Bool
 |.d _ | .nil | .ptr .. | .el .. | .arr _ | .ap ..=>true
 |.fn _ l=>JS l
 |_=>false
def MD (cells:List AV):Nat->List AV->oP (List AV)
 |_,[]=>some cells
 |off,v::r=>bif Q3g v&&Nat.ble (off+1) cells.length then MD (cells.set off v) (off+1) r else none
def Qe8:List AV->oP (List D)
 |[]=>some []
 |.d x::r=>match Qe8 r with | some l=>some (x::l) | none=>none
 |_::_=>none
def VR (tm:Operand->AV):List (Nat×Operand)->List (Nat×AV)
 |[]=>[]
 |(i,x)::r=>(i,tm x)::VR tm r
def Y9:AV->List AV
 |.ag l=>l
 |.fs s rows=>[.d (.sl s rows)]
 |v=>[v]
def Q18 (fields:List (Nat×Nat)) (tt:TT):List AV->List (Nat×AV)->oP (List AV)
 |cells,[]=>some cells
 |cells,(i,v)::r=>
  match fields[i]? with
  |some (off,t)=>match look tt t with
   |some ti=>bif Nat.beq (Y9 v).length ti.size&&Nat.ble (off+ti.size) cells.length then
     match MD cells off (Y9 v) with
     |some cs=>Q18 fields tt cs r
     |none=>none
    else none
   |none=>none
  |none=>none
def DA (ti:TyI):List AV:=ti.zero.map S1
def Q6i (ac t:Nat):Value->AV
 |.pointer none=>.sa ac t
 |v=>S1 v
def Q1C (ac t:Nat) (ti:TyI):List AV:=ti.zero.map (Q6i ac t)
def Q77 (op:BinOp) (k:IntKind) (a b:Int):oP D:=
 match op with
 |.add=>some (.int k (k.wrap (a+b)))
 |.sub=>some (.int k (k.wrap (a-b)))
 |.mul=>some (.int k (k.wrap (a*b)))
 |.eql=>some (.bool (a == b))
 |.neq=>some (.bool (a != b))
 |.lss=>some (.bool (decide (a<b)))
 |.leq=>some (.bool (decide (a<=b)))
 |.gtr=>some (.bool (decide (a>b)))
 |.geq=>some (.bool (decide (a>=b)))
 |_=>none
def nz (b:Int):oP Unit:=bif b == 0 then none else some ()
def Ap (b:Int):oP Unit:=bif decide (0<=b) then some () else none
def Q9X (n:Nat):oP Unit:=bif Nat.ble n 9223372036854775807 then some () else none
def Q7g (k:IntKind) (a b:Int):Int:=k.wrap ((BitVec.ofInt k.bits a &&& BitVec.ofInt k.bits b).toNat)
def bOr (k:IntKind) (a b:Int):Int:=k.wrap ((BitVec.ofInt k.bits a ||| BitVec.ofInt k.bits b).toNat)
def Qhy (k:IntKind) (a b:Int):Int:=k.wrap ((BitVec.ofInt k.bits a ^^^ BitVec.ofInt k.bits b).toNat)
def Qfm (k:IntKind) (a:Int):Int:=Qhy k (if k.signed then -1 else k.max) a
def Q8I (k:IntKind) (a b:Int):Int:=k.wrap ((BitVec.ofInt k.bits a &&& ~~~(BitVec.ofInt k.bits b)).toNat)
def shL (k:IntKind) (a b:Int):Int:=k.wrap (a*2 ^ min b.toNat k.bits)
def shR (k:IntKind) (a b:Int):Int:=a.fdiv (2 ^ min b.toNat k.bits)
def Qge (a b:List UInt8):Bool:=Op.bytesLess a b||a == b
def Q54 (g:Bool):List Kd->List AV->List AV->(List Bool->oP R)->oP R
 |[],[],[],k=>k []
 |kd::ks,.d a::xs,.d b::ys,k=>
  match kd with
  |.int ik=>gb g (Qk ik a) 0 fun m=>gb g (Qk ik b) 0 fun n=>Q54 g ks xs ys fun r=>k ((m == n)::r)
  |.bool=>gb g (Gp a) false fun m=>gb g (Gp b) false fun n=>Q54 g ks xs ys fun r=>k ((m == n)::r)
  |.str=>gb g (NB a) [] fun m=>gb g (NB b) [] fun n=>Q54 g ks xs ys fun r=>k ((m == n)::r)
  |_=>none
 |_,_,_,_=>none
def Qbc:List Bool->Bool
 |[]=>true
 |[b]=>b
 |b::r=>b&&Qbc r
def QhK (g:Bool) (op:BinOp) (a b:List UInt8) (k:AV->oP R):oP R:=
 match op with
 |.add=>gb g (Q9X (a.length+b.length)) () fun _=>k (.d (.str (a++b)))
 |.eql=>k (.d (.bool (a == b)))
 |.neq=>k (.d (.bool (!(a == b))))
 |.lss=>k (.d (.bool (Op.bytesLess a b)))
 |.leq=>k (.d (.bool (Qge a b)))
 |.gtr=>k (.d (.bool (!Qge a b)))
 |.geq=>k (.d (.bool (!Op.bytesLess a b)))
 |_=>none
def Qie (g:Bool) (op:BinOp) (kd:Kd) (eqk:oP (List Kd)) (x y:AV) (k:AV->oP R):oP R:=
 match x,y with
 |.d (.int ka a),.d (.int kb b)=>
  match op with
  |.shl=>gb g (Ap b) () fun _=>k (.d (.int ka (shL ka a b)))
  |.shr=>gb g (Ap b) () fun _=>k (.d (.int ka (shR ka a b)))
  |op=>bif ka == kb then
   match op with
   |.quo=>gb g (nz b) () fun _=>k (.d (.int ka (ka.wrap (a.tdiv b))))
   |.rem=>gb g (nz b) () fun _=>k (.d (.int ka (a.tmod b)))
   |.and=>k (.d (.int ka (Q7g ka a b)))
   |.or=>k (.d (.int ka (bOr ka a b)))
   |.xor=>k (.d (.int ka (Qhy ka a b)))
   |.andNot=>k (.d (.int ka (Q8I ka a b)))
   |_=>match Q77 op ka a b with
    |some r=>k (.d r)
    |none=>none
  else none
 |.d (.bool a),.d (.bool b)=>
  match kd,op with
  |.bool,.eql=>k (.d (.bool (a == b)))
  |.bool,.neq=>k (.d (.bool (!(a == b))))
  |_,_=>none
 |.d (.str a),.d (.str b)=>QhK g op a b k
 |.ag xs,.ag ys=>
  match eqk with
  |some ks=>match op with
   |.eql=>Q54 g ks xs ys fun bs=>k (.d (.bool (Qbc bs)))
   |.neq=>Q54 g ks xs ys fun bs=>k (.d (.bool (!Qbc bs)))
   |_=>none
  |none=>none
 |_,_=>none
def Jo (s:List UInt8) (n:Int):oP Int:=bif decide (0<=n) then (s[n.toNat]?).map fun b=>(b.toNat:Int) else none
def slB (len:Nat) (lo hi:oP Int):oP (Nat×Nat):=
 bif decide (0<=lo.getD 0)&&(decide (lo.getD 0<=hi.getD len)&&decide (hi.getD len<=len)) then some ((lo.getD 0).toNat,(hi.getD len).toNat) else none
def Qh9 (len:Nat) (lo hi mx:oP Int):oP (Nat×Nat):=
 match hi,mx with
 |some h,some m=>bif decide (h=m) then slB len lo (some h) else none
 |_,_=>none
def neL {α:Type}:List α->oP Unit
 |[]=>none
 |_=>some ()
def cut {α:Type} (l:List α) (q:Nat×Nat):List α:=(l.drop q.1).take (q.2-q.1)
def Qi (rows:List (List D)) (n:Int):oP (List D):=bif decide (0<=n) then rows[n.toNat]? else none
def inB (len:Nat) (n:Int):oP Unit:=bif decide (0<=n)&&decide (n<len) then some () else none
def Q14 (ac:Nat) (hl:Nat->oP Ob):AV->oP (List (List D)×List Nat)
 |.d (.sl s rows)=>bif Nat.beq s ac then some (rows,[]) else none
 |.nil=>some ([],[])
 |.arr l=>match hl l with
  |some (.arr _ s rows)=>bif Nat.beq s ac then some (rows,[l]) else none
  |_=>none
 |_=>none
end
abbrev oF:D:=.bool false
abbrev pIw:=Qk .i64
abbrev wJ:=IntKind.wrap .i64
abbrev Ql (x:Int):D:=.int .i64 x
abbrev Q5L:=(R:Type)->Nat->Nat->Bool->List AV->(Nat->oP Ob)->(Dl->oP R)->oP R
section
variable {R:Type}
def Pz (tt:TT) (t:Nat):Kd:=
 match look tt t with
 |some ti=>ti.kd
 |none=>.other
def QdS (tt:TT) (t:Nat):oP (List Kd):=
 match look tt t with
 |some ti=>ti.eqk
 |none=>none
def Mf (ev:Operand->AV):oP Operand->oP (oP Int)
 |none=>some none
 |some x=>match ev x with
  |.d (.int _ n)=>some (some n)
  |_=>none
def QaW (tt:TT) (g:Bool) (t:Nat) (x i:AV) (k:Dl->oP R):oP R:=
 match Pz tt t,x,i with
 |.str,.d (.str s),.d (.int _ n)=>gb g (Jo s n) 0 fun b=>k ⟨.d (.int .u8 b),[],[]⟩
 |_,_,_=>none
def Q95 (tt:TT) (g:Bool) (t:Nat) (x:AV) (lo hi:oP (oP Int)) (k:Dl->oP R):oP R:=
 match lo,hi with
 |some lo,some hi=>
  match Pz tt t,x with
  |.str,.d (.str s)=>gb g (slB s.length lo hi) (0,0) fun q=>k ⟨.d (.str (cut s q)),[],[]⟩
  |.sl _ ac,.d (.sl s rows)=>bif Nat.beq s ac then gb g (slB rows.length lo hi) (0,0) fun q=>k ⟨.d (.sl ac (cut rows q)),[],[]⟩ else none
  |.sl _ _,.nil=>gb g (slB 0 lo hi) (0,0) fun _=>k ⟨.nil,[],[]⟩
  |_,_=>none
 |_,_=>none
def Q59 (tt:TT) (g:Bool) (t:Nat) (x:AV) (lo hi mx:oP (oP Int)) (k:Dl->oP R):oP R:=
 match lo,hi,mx with
 |some lo,some hi,some mx=>
  match Pz tt t,x with
  |.sl _ ac,.d (.sl s rows)=>bif Nat.beq s ac then gb g (Qh9 rows.length lo hi mx) (0,0) fun q=>k ⟨.fs ac (cut rows q),[],[]⟩ else none
  |.sl _ ac,.nil=>gb g (Qh9 0 lo hi mx) (0,0) fun _=>k ⟨.fs ac [],[],[]⟩
  |_,_=>none
 |_,_,_=>none
def Ds:List (List D)->oP (List UInt8)
 |[]=>some []
 |[.int .u8 n]::r=>match Ds r with
  |some l=>some (UInt8.ofNat n.toNat::l)
  |none=>none
 |_=>none
mutual
def RF:AV->Bool
 |.d (.int ..)=>true
 |.d (.bool _)=>true
 |.d (.str _)=>true
 |.d (.sl ..)=>false
 |.ag l=>NS l
 |.tup l=>NS l
 |.fn ..=>false
 |.fs ..=>false
 |.mpd _=>false
 |.el ..=>false
 |.gd ..=>false
 |_=>true
def NS:List AV->Bool
 |[]=>true
 |a::r=>RF a&&NS r
end
def Q9f:oP Ob->Bool
 |some (.box cells)=>NS cells
 |some (.arr ..)=>false
 |some (.mp ..)=>false
 |none=>true
def BL:List (Nat×oP Ob)->Bool
 |[]=>true
 |(_,o)::r=>Q9f o&&BL r
def Q8a (hl:Nat->oP Ob):AV->oP (AV×List Nat)
 |.arr l=>match hl l with
  |some (.arr _ size rows)=>some (.d (.sl size rows),[l])
  |_=>none
 |av=>bif Q12 av then some (av,[]) else none
def Ce (hl:Nat->oP Ob):List AV->oP (List AV×List Nat)
 |[]=>some ([],[])
 |a::r=>match Q8a hl a with
  |some (a',l)=>match Ce hl r with
   |some (r',l')=>some (a'::r',l++l')
   |none=>none
  |none=>none
def Nk (hl:Nat->oP Ob):AV->oP (AV×List Nat)
 |.ag cs=>match Ce hl cs with
  |some (ac,l)=>some (.ag ac,l)
  |none=>none
 |av=>Q8a hl av
def Nh (hl:Nat->oP Ob):List AV->oP (List AV×List Nat)
 |[]=>some ([],[])
 |a::r=>match Nk hl a with
  |some (a',l)=>match Nh hl r with
   |some (r',l')=>some (a'::r',l++l')
   |none=>none
  |none=>none
def QaI:List D->List AV->oP (List D)
 |[],[]=>some []
 |z::zs,a::r=>
  match QaI zs r with
  |some l=>match a with
   |.d x=>some (x::l)
   |.nil=>match z with
    |.sl e []=>some (.sl e []::l)
    |_=>none
   |_=>none
  |none=>none
 |_,_=>none
def Mc (tt:TT) (t:Nat):List D:=
 match look tt t with
 |some ti=>ti.zd
 |none=>[]
def LE (z:List D):List (List D)->List (Nat×AV)->oP (List (List D))
 |rows,[]=>some rows
 |rows,(i,v)::r=>
  match QaI z (Y9 v) with
  |some row=>bif Nat.ble (i+1) rows.length then LE z (rows.set i row) r else none
  |none=>none
def Qd5 (row:List D):Nat->List D->List D
 |_,[]=>row
 |off,x::r=>Qd5 (row.set off x) (off+1) r
def Yn (n:Nat):oP Unit:=bif Nat.ble n 140737488355328 then some () else none
def Qey (tt:TT) (g:Bool) (hl:Nat->oP Ob) (t:Nat) (a:AV) (k:Dl->oP R):oP R:=
 match look tt t with
 |some ti=>
  match a with
  |.ptr l off=>match hl l with
   |some (.box cells)=>
    bif VH ti.kd then
     match BT cells off ti.size with
     |some cs=>k ⟨.ag cs,[],[l]⟩
     |none=>none
    else match cells[off]? with
     |some c=>prj g ti.kd c fun v=>k ⟨v,[],[l]⟩
     |none=>none
   |_=>none
  |.el row off=>
   bif VH ti.kd then Q1t g row off ti.size fun cs=>k ⟨.ag cs,[],[]⟩
   else gb g row[off]? (.bool false) fun c=>prj g ti.kd (.d c) fun v=>k ⟨v,[],[]⟩
  |.ap l i off=>match hl l with
   |some (.arr _ _ rows)=>
    gb g rows[i]? [] fun row=>
     bif VH ti.kd then Q1t g row off ti.size fun cs=>k ⟨.ag cs,[],[l]⟩
     else gb g row[off]? (.bool false) fun c=>prj g ti.kd (.d c) fun v=>k ⟨v,[],[l]⟩
   |_=>none
  |_=>none
 |none=>none
def QaG (tt:TT) (hl:Nat->oP Ob) (t:Nat) (a v:AV) (k:Dl->oP R):oP R:=
 match look tt t with
 |some ti=>
  bif Nat.beq (Y9 v).length ti.size then
   match a with
   |.ptr l off=>match hl l with
    |some (.box cells)=>match MD cells off (Y9 v) with
     |some cs=>k ⟨.top,[(l,some (.box cs))],[l]⟩
     |none=>none
    |_=>none
   |.ap l i off=>match hl l with
    |some (.arr e size rows)=>match Qe8 (Y9 v) with
     |some ds=>gb true rows[i]? [] fun row=>bif Nat.ble (off+ds.length) size then k ⟨.top,[(l,some (.arr e size (rows.set i (Qd5 row off ds))))],[l]⟩ else none
     |none=>none
    |_=>none
   |_=>none
  else none
 |none=>none
def Q6t (hl:Nat->oP Ob) (ac n l:Nat) (v:AV) (k:Dl->oP R):oP R:=
 match hl l with
 |some (.arr e s rows)=>
  bif Nat.beq s ac then
   match Qe8 (Y9 v) with
   |some ds=>bif Nat.beq ds.length (n*ac) then gb true (Tv rows n) () fun _=>k ⟨.top,[(l,some (.arr e s (NI n ac ds)))],[l]⟩ else none
   |none=>none
  else none
 |_=>none
def F2 (g:Bool) (hl:Nat->oP Ob) (ac n l:Nat) (i:AV) (k:Dl->oP R):oP R:=
 match i,hl l with
 |.d (.int _ x),some (.arr _ s _)=>bif Nat.beq s ac then gb g (inB n x) () fun _=>k ⟨.ap l x.toNat 0,[],[l]⟩ else none
 |_,_=>none
def Q8w (s:List UInt8):List (List D):=s.map fun b=>[D.int .u8 (b.toNat:Int)]
def QaF (tt:TT) (g:Bool) (t f:Nat) (x:AV) (k:Dl->oP R):oP R:=
 match look tt t with
 |some ti=>bif RL ti.kd then match ti.fields[f]? with
   |some (off,ft)=>match look tt ft with
    |some fi=>match x with
     |.ag cells=>
      bif VH fi.kd then
       match BT cells off fi.size with
       |some cs=>k ⟨.ag cs,[],[]⟩
       |none=>none
      else match cells[off]? with
       |some c=>prj g fi.kd c fun v=>k ⟨v,[],[]⟩
       |none=>none
     |_=>none
    |none=>none
   |none=>none
  else none
 |none=>none
def DP (tt:TT) (hl:Nat->oP Ob) (t f:Nat) (x:AV) (k:Dl->oP R):oP R:=
 match look tt t with
 |some ti=>bif RL ti.kd then match ti.fields[f]? with
   |some (off,_)=>match x with
    |.ptr l o=>k ⟨.ptr l (o+off),[],[]⟩
    |.el row o=>k ⟨.el row (o+off),[],[]⟩
    |.ap l i o=>match hl l with
     |some (.arr ..)=>k ⟨.ap l i (o+off),[],[l]⟩
     |_=>none
    |_=>none
   |none=>none
  else none
 |none=>none
def Dx (tt:TT) (g:Bool) (hl:Nat->oP Ob) (t:Nat) (x i:AV) (k:Dl->oP R):oP R:=
 match Pz tt t,i with
 |.sl _ ac,.d (.int _ n)=>
  match x with
  |.d (.sl s rows)=>bif Nat.beq s ac then gb g (Qi rows n) [] fun row=>k ⟨.el row 0,[],[]⟩ else none
  |.arr l=>match hl l with
   |some (.arr _ s rows)=>bif Nat.beq s ac then gb g (inB rows.length n) () fun _=>k ⟨.ap l n.toNat 0,[],[l]⟩ else none
   |_=>none
  |.nil=>gb g (Qi [] n) [] fun row=>k ⟨.el row 0,[],[]⟩
  |_=>none
 |_,_=>none
def Qi2 (tt:TT) (hl:Nat->oP Ob) (t:Nat) (x:AV):oP (Int×List Nat):=
 match Pz tt t with
 |.sl _ _=>match x with
  |.d (.sl _ rows)=>some (rows.length,[])
  |.nil=>some (0,[])
  |.arr l=>match hl l with
   |some (.arr _ _ rows)=>some (rows.length,[l])
   |_=>none
  |_=>none
 |.str=>match x with
  |.d (.str s)=>some (s.length,[])
  |_=>none
 |_=>none
def BC (isMin:Bool):AV->List AV->oP AV
 |a,[]=>some a
 |.d (.int k a),.d (.int k' b)::r=>bif k == k' then BC isMin (.d (.int k (bif isMin then (if b<a then b else a) else (if a<b then b else a)))) r else none
 |_,_=>none
def D5 (hl:Nat->oP Ob) (ac:Nat) (o:Ob) (v:AV) (wr:List (Nat×oP Ob)) (rd:List Nat) (k:Dl->oP R):oP R:=
 match hl ac with
 |none=>k ⟨v,wr++[(ac,some o)],rd⟩
 |some _=>none
def Q2g (tt:TT) (hl:Nat->oP Ob) (ac:Nat) (g:Bool) (t tn:Nat) (s x:AV) (k:Dl->oP R):oP R:=
 match Pz tt t,Pz tt tn,s,x with
 |.sl e aj,.int _,.nil,.d (.int _ n)=>match look tt e with
  |some ei=>
   bif Nat.ble 1 ei.bytes&&Nat.beq (Mc tt e).length aj then
   gb g (bif decide (0<n) then some () else none) () fun _=>
   gb g (Yn (n.toNat*ei.bytes)) () fun _=>D5 hl ac (.arr e aj (List.replicate n.toNat (Mc tt e))) (.arr ac) [] [] k
   else none
  |none=>none
 |_,_,_,_=>none
def Q7O (f:Int->Bool) (n:Int) (b:Bool):Int->Bool:=fun m=>bif decide (m=n) then b else f m
def Qif (tt:TT) (hl:Nat->oP Ob) (ac:Nat) (u:Bool) (t l:Nat) (lo hi:oP (oP Int)) (k:Dl->oP R):oP R:=
 match Pz tt t,lo,hi with
 |.sl e aj,some none,some (some h0)=>bif u&&decide (h0=0) then match hl l with
   |some (.arr e' s' _)=>bif Nat.beq e e'&&Nat.beq aj s' then D5 hl ac (.arr e aj []) (.arr ac) [(l,none)] [l] k else none
   |_=>none
  else none
 |_,_,_=>none
def Q6b (tt:TT) (ac:Nat) (g:Bool) (hl:Nat->oP Ob) (t:Nat) (s x:AV) (k:Dl->oP R):oP R:=
 match Pz tt t with
 |.sl e aj=>match look tt e with
  |some ei=>
   bif Nat.ble 1 ei.bytes&&Nat.beq ei.zero.length aj then
   match Q14 aj hl x with
   |some (news,rx)=>
    match s with
    |.nil=>gb g (Yn (news.length*ei.bytes)) () fun _=>D5 hl ac (.arr e aj news) (.arr ac) [] rx k
    |.fs s0 rows=>bif Nat.beq s0 aj then gb g (neL news) () fun _=>gb g (Yn ((rows.length+news.length)*ei.bytes)) () fun _=>D5 hl ac (.arr e aj (rows++news)) (.arr ac) [] rx k else none
    |.arr l=>match hl l with
     |some (.arr e' s' rows)=>bif Nat.beq e e'&&Nat.beq aj s' then
       gb g (Yn ((rows.length+news.length)*ei.bytes)) () fun _=>D5 hl ac (.arr e aj (rows++news)) (.arr ac) [(l,none)] (l::rx) k
      else none
     |_=>none
    |_=>none
   |none=>none
   else none
  |none=>none
 |_=>none
def Hc (tt:TT) (hl:Nat->oP Ob) (aj:Nat) (u:Bool) (t len:Nat) (ak:List (Nat×AV)) (k:Dl->oP R):oP R:=
 match Pz tt t with
 |.sl e ac=>
  bif Nat.ble (len*ac) 16777216&&(look tt e).isSome&&Nat.beq (Mc tt e).length ac then
   match LE (Mc tt e) (List.replicate len (Mc tt e)) ak with
   |some rows=>bif u then D5 hl aj (.arr e ac rows) (.arr aj) [] [] k else k ⟨.d (.sl ac rows),[],[]⟩
   |none=>none
  else none
 |_=>none
def Qdp (tt:TT) (hl:Nat->oP Ob) (ac:Nat) (u:Bool) (t:Nat) (l c:AV) (k:Dl->oP R):oP R:=
 bif u then
  match Pz tt t,l,c with
  |.sl e aj,.d (.int _ n),.d (.int _ m)=>match look tt e with
   |some ei=>
    bif Nat.ble 1 ei.bytes&&Nat.beq (Mc tt e).length aj then
    gb true (bif decide (0<=n)&&decide (n<=m) then some () else none) () fun _=>
    gb true (Yn (m.toNat*ei.bytes)) () fun _=>D5 hl ac (.arr e aj (List.replicate n.toNat (Mc tt e))) (.arr ac) [] [] k
    else none
   |none=>none
  |_,_,_=>none
 else none
def Si (x:Nat):List Nat->Bool
 |[]=>false
 |a::r=>Nat.beq a x||Si x r
def TB (a b:List Nat):Bool:=a.any fun x=>Si x b
def wrL (dl:Dl):List Nat:=dl.wr.map (·.1)
mutual
def Ur (l:Nat):AV->Bool
 |.ptr a _=>Nat.beq a l
 |.arr a=>Nat.beq a l
 |.ap a _ _=>Nat.beq a l
 |.sa a _=>Nat.beq a l
 |.ag r=>Kh l r
 |.tup r=>Kh l r
 |.fn _ r=>Kh l r
 |.gd _ _ v=>Ur l v
 |_=>false
def Kh (l:Nat):List AV->Bool
 |[]=>false
 |a::r=>Ur l a||Kh l r
end
def PD (l:Nat):List (Nat×oP Ob)->Bool
 |[]=>false
 |(_,some (.box cells))::r=>Kh l cells||PD l r
 |_::r=>PD l r
def BX (bs:List Nat) (dl:Dl):Bool:=bs.all fun l=>!Ur l dl.v&&!PD l dl.wr
def Q5Z:D->Bool
 |.sl ..=>false
 |_=>true
def Ak (rows:List (List D)):Bool:=rows.all fun r=>r.all Q5Z
def Eh (l:List (List (List D))):oP Unit:=bif l.all Ak then some () else none
def Q3A:List (Nat×oP Ob)->List (List (List D))
 |[]=>[]
 |(_,some (.arr _ _ rows))::r=>rows::Q3A r
 |_::r=>Q3A r
def Qij (tt:TT) (e:Nat):Bool:=
 match look tt e with
 |some ti=>Nat.beq ti.zd.length ti.size&&ti.zd.all Q5Z
 |none=>false
def EP (tt:TT):List (Nat×oP Ob)->Bool
 |[]=>true
 |(_,some (.arr e _ _))::r=>Qij tt e&&EP tt r
 |(_,some (.box cells))::r=>NS cells&&EP tt r
 |(_,some (.mp ..))::_=>false
 |(_,none)::r=>EP tt r
def VX:List (Nat×oP Ob)->Bool
 |[]=>true
 |(_,some (.arr _ _ rows))::r=>Ak rows&&VX r
 |(_,some (.box cells))::r=>NS cells&&VX r
 |(_,some (.mp ..))::_=>false
 |(_,none)::r=>VX r
def QiH (spec:Q5L) (f:Nat):Bool:=(spec Unit f 0 false [.gd 0 true .nil] (fun _=>none) fun _=>some ()).isSome
def Qap:AV->Bool
 |.ag l=>l.all Q12
 |a=>Q12 a
def Qca (spec:Q5L) (tt:TT) (ac:Nat) (g u:Bool) (hl:Nat->oP Ob) (f:Nat) (args:List AV) (k:Dl->oP R):oP R:=
 bif QiH spec f then (bif args.all Qap then spec R f ac g args hl k else none) else
 match Nh hl args with
 |some (aj,bs)=>
  spec R f ac g aj hl fun dl=>
   bif !TB bs (wrL dl)&&(!TB bs dl.rd&&BX bs dl) then
    bif bs.isEmpty||(RF dl.v&&BL dl.wr) then k ⟨dl.v,dl.wr,bs++dl.rd⟩
    else bif RF dl.v&&EP tt dl.wr then gb g (Eh (Q3A dl.wr)) () fun _=>k ⟨dl.v,dl.wr,bs++dl.rd⟩
    else bif u then k ⟨dl.v,bs.map (fun l=>(l,none))++dl.wr,bs++dl.rd⟩ else none
   else none
 |none=>none
def vUn (op:UnOp) (x:AV):oP AV:=
 match op,x with
 |.not,.d (.bool b)=>some (.d (.bool !b))
 |.neg,.d (.int k n)=>some (.d (.int k (k.wrap (0-n))))
 |.xor,.d (.int k n)=>some (.d (.int k (Qfm k n)))
 |_,_=>none
def cv1 (hl:Nat->oP Ob) (av:AV):AV:=
 match Nk hl av with
 |some (a,_)=>a
 |none=>.top
def cvP (hl:Nat->oP Ob):List (Nat×AV)->List (Nat×AV)
 |[]=>[]
 |(i,a)::r=>(i,cv1 hl a)::cvP hl r
def bsP (hl:Nat->oP Ob):List (Nat×AV)->List Nat
 |[]=>[]
 |(_,a)::r=>match Nk hl a with
  |some (_,b)=>b++bsP hl r
  |none=>bsP hl r
def Qi0 (hl:Nat->oP Ob) (bs:List Nat):Nat->oP Ob:=fun k=>bif Si k bs then none else hl k
def Q5o (tt:TT) (hl:Nat->oP Ob) (aj:Nat) (u:Bool) (t len:Nat) (ac:List (Nat×AV)) (k:Dl->oP R):oP R:=
 match bsP hl ac with
 |[]=>Hc tt hl aj u t len ac k
 |b::bs=>bif u then
   Hc tt (Qi0 hl (b::bs)) aj true t len (cvP hl ac) fun dl=>
    bif !TB (b::bs) (wrL dl)&&!TB (b::bs) dl.rd then k ⟨dl.v,(b::bs).map (fun l=>(l,none))++dl.wr,(b::bs)++dl.rd⟩ else none
  else none
def vdl (spec:Q5L) (tt:TT) (ac:Nat) (g u:Bool) (ev:Operand->AV) (hl:Nat->oP Ob) (op:Op) (k:Dl->oP R):oP R:=
 match op with
 |.move x=>k ⟨ev x,[],[]⟩
 |.assign x=>k ⟨ev x,[],[]⟩
 |.pick c x y=>
  match c with
  |.tmp s=>match ev (.tmp s) with
   |.d (.bool e)=>match unw [(s,true)] (ev x),unw [(s,false)] (ev y) with
    |.d (.bool a),.d (.bool b)=>k ⟨.d (.bool (bif e then a else b)),[],[]⟩
    |_,_=>none
   |_=>none
  |_=>none
 |.alloc t=>match look tt t with
  |some ti=>bif u then match ti.kd with
    |.array _ an n=>bif Nat.beq ti.zd.length (n*an) then D5 hl ac (.arr t an (NI n an ti.zd)) (.ap ac 0 0) [] [] k else none
    |_=>D5 hl ac (.box (Q1C ac t ti)) (.ptr ac 0) [] [] k
   else none
  |none=>none
 |.box t x=>match look tt t with
  |some ti=>bif u&&(Nat.beq (Y9 (ev x)).length ti.size&&(Y9 (ev x)).all Q3g) then D5 hl ac (.box (Y9 (ev x))) (.ptr ac 0) [] [] k else none
  |none=>none
 |.build t ak=>match look tt t with
  |some ti=>bif VH ti.kd then match Q18 ti.fields tt (DA ti) (VR ev ak.toList) with
    |some cs=>k ⟨.ag cs,[],[]⟩
    |none=>none
   else none
  |none=>none
 |.buildSlice t len ak=>Q5o tt hl ac u t len (VR ev ak.toList) k
 |.load t a=>Qey tt g hl t (ev a) k
 |.store t a v=>bif u then match Pz tt t,ev a with
   |.array _ an n,.ap l 0 0=>Q6t hl an n l (ev v) k
   |_,_=>QaG tt hl t (ev a) (ev v) k
  else none
 |.nilCheck x=>match ev x with
  |.ptr l o=>k ⟨.ptr l o,[],[]⟩
  |.el r o=>k ⟨.el r o,[],[]⟩
  |.ap l i o=>match hl l with
   |some _=>k ⟨.ap l i o,[],[l]⟩
   |none=>none
  |_=>none
 |.binOp op t x y _=>Qie g op (Pz tt t) (QdS tt t) (ev x) (ev y) fun v=>k ⟨v,[],[]⟩
 |.unOp op _ x=>match vUn op (ev x) with
  |some v=>k ⟨v,[],[]⟩
  |none=>none
 |.convert s t x=>match Pz tt s,Pz tt t with
  |.int _,.int kd=>match ev x with
   |.d (.int _ n)=>k ⟨.d (.int kd (kd.wrap n)),[],[]⟩
   |_=>none
  |.sl e 1,.str=>match Pz tt e with
   |.int .u8=>match Q14 1 hl (ev x) with
    |some (rows,rd)=>gb g (Ds rows) [] fun s=>k ⟨.d (.str s),[],rd⟩
    |none=>none
   |_=>none
  |.str,.str=>match ev x with
   |.d (.str s)=>k ⟨.d (.str s),[],[]⟩
   |_=>none
  |.str,.sl e 1=>match Pz tt e with
   |.int .u8=>match ev x with
    |.d (.str s)=>k ⟨.d (.sl 1 (Q8w s)),[],[]⟩
    |_=>none
   |_=>none
  |_,_=>none
 |.makeFunc (.func f) first aj=>match first.toList with
  |[]=>bif JS (aj.toList.map ev) then k ⟨.fn f (aj.toList.map ev),[],[]⟩ else none
  |_=>none
 |.makeSlice t l c=>Qdp tt hl ac u t (ev l) (ev c) k
 |.fieldAddr t x f=>DP tt hl t f (ev x) k
 |.field t x f=>QaF tt g t f (ev x) k
 |.indexAddr t x i=>match Pz tt t,ev x with
  |.array _ an n,.ap l 0 0=>F2 g hl an n l (ev i) k
  |_,_=>Dx tt g hl t (ev x) (ev i) k
 |.index t x i=>QaW tt g t (ev x) (ev i) k
 |.slice t x lo hi none=>match ev x with
  |.arr l=>Qif tt hl ac u t l (Mf ev lo) (Mf ev hi) k
  |_=>Q95 tt g t (ev x) (Mf ev lo) (Mf ev hi) k
 |.makeMap t none=>match Pz tt t with
  |.mpb=>bif u then D5 hl ac (.mp t fun _=>false) (.arr ac) [] [] k else none
  |_=>none
 |.mapUpdate t m x v=>match Pz tt t,ev m,ev x,ev v with
  |.mpb,.arr l,.d (.int .i64 n),.d (.bool b)=>match hl l with
   |some (.mp t' f)=>bif u then k ⟨.top,[(l,some (.mp t' (Q7O f n b)))],[l]⟩ else none
   |_=>none
  |_,_,_,_=>none
 |.slice t x lo hi (some mx)=>Q59 tt g t (ev x) (Mf ev lo) (Mf ev hi) (Mf ev (some mx)) k
 |.lookup t m x false=>match Pz tt t,ev m,ev x with
  |.mapI,.mpd f,.d (.int .i64 n)=>k ⟨.d (.sl 1 (f n)),[],[]⟩
  |.mpb,.arr l,.d (.int .i64 n)=>match hl l with
   |some (.mp _ f)=>k ⟨.d (.bool (f n)),[],[l]⟩
   |_=>none
  |_,_,_=>none
 |.extract x i=>match ev x with
  |.tup l=>match l[i]? with
   |some v=>k ⟨v,[],[]⟩
   |none=>none
  |_=>none
 |.call c=>match c.callee with
  |.value (.func f)=>Qca spec tt ac g u hl f (c.args.toList.map ev) k
  |.value (.tmp t)=>match ev (.tmp t) with
   |.fn f cap=>Qca spec tt ac g u hl f (c.args.toList.map ev++cap) k
   |_=>none
  |.builtin .len=>match c.args.toList,c.argTypes.toList with
   |[x],[t]=>match Qi2 tt hl t (ev x) with
    |some (n,rd)=>k ⟨.d (.int .i64 n),[],rd⟩
    |none=>none
   |_,_=>none
  |.builtin .cap=>match c.args.toList,c.argTypes.toList with
   |[x],[t]=>match Pz tt t,ev x with
    |.sl _ _,.nil=>k ⟨.d (.int .i64 0),[],[]⟩
    |_,_=>none
   |_,_=>none
  |.builtin .append=>match c.args.toList,c.argTypes.toList with
   |[s,x],[t,t']=>bif Nat.beq t t' then Q6b tt ac g hl t (ev s) (ev x) k else Q2g tt hl ac g t t' (ev s) (ev x) k
   |_,_=>none
  |.builtin .min=>match c.args.toList with
   |x::r=>match BC true (ev x) (r.map ev) with
    |some v=>k ⟨v,[],[]⟩
    |none=>none
   |_=>none
  |.builtin .max=>match c.args.toList with
   |x::r=>match BC false (ev x) (r.map ev) with
    |some v=>k ⟨v,[],[]⟩
    |none=>none
   |_=>none
  |_=>none
 |_=>none
def AO (l:Nat):List (Nat×AV)->Bool
 |[]=>false
 |(_,a)::r=>Ur l a||AO l r
def JO (l:Nat):List (Nat×Ob)->Bool
 |[]=>false
 |(_,.box cells)::r=>Kh l cells||JO l r
 |(_,.arr ..)::r=>JO l r
 |(_,.mp ..)::r=>JO l r
def UY (st:St) (l:Nat):Bool:=Nat.ble l 999999&&(!AO l st.tm&&!JO l st.h)
def WI (st:St):List (Nat×oP Ob)->Bool
 |[]=>true
 |(l,o)::r=>(match o,look st.h l with
  |some _,none=>UY st l
  |_,_=>true)&&WI st r
mutual
def gds (t:Nat):AV->Bool
 |.gd t' _ av=>Nat.beq t' t||gds t av
 |.ag l=>Q0h t l
 |.tup l=>Q0h t l
 |.fn _ l=>Q0h t l
 |_=>false
def Q0h (t:Nat):List AV->Bool
 |[]=>false
 |a::r=>gds t a||Q0h t r
end
def QaB (d:Nat):List (Nat×AV)->Bool
 |[]=>false
 |(_,a)::r=>gds d a||QaB d r
structure Rec where
 rt:List Nat
 dst:oP Nat
 dl:Dl
def Sv:List Operand->List Nat
 |[]=>[]
 |.tmp t::r=>t::Sv r
 |_::r=>Sv r
def put (st:St) (dst:oP Nat) (dl:Dl):St:=
 { n:=st.n,tm:=match dst with | some d=>(d,dl.v)::st.tm | none=>st.tm,h:=MO st.h dl.wr }
def Q3y (st:St) (v:AV):oP Nat->Bool
 |some d=>Nat.ble (d+1) st.n&&(!gds d v&&!QaB d st.tm)
 |none=>true
def Qdg (st:St) (o:Oper) (ch:List Nat) (dl:Dl) (k:St->Rec->oP R):oP R:=
 bif Q3y st dl.v o.dst&&WI st dl.wr then k (put st o.dst dl) ⟨Sv o.op.operands.toList++ch,o.dst,dl⟩ else none
def jD (g:Bool):D->D->oP D
 |.int k x,.int k' y=>bif k == k' then some (.int k (bif g then x else y)) else none
 |.bool x,.bool y=>some (.bool (bif g then x else y))
 |.str x,.str y=>some (.str (bif g then x else y))
 |.sl s x,.sl s' y=>bif Nat.beq s s' then some (.sl s (bif g then x else y)) else none
 |_,_=>none
def jA (g:Bool):AV->AV->oP AV
 |.d x,.d y=>match jD g x y with
  |some z=>some (.d z)
  |none=>none
 |.nil,.nil=>some .nil
 |.ptr l o,.ptr l' o'=>bif Nat.beq l l'&&Nat.beq o o' then some (.ptr l o) else none
 |_,_=>none
def jL (g:Bool):List AV->List AV->oP (List AV)
 |[],[]=>some []
 |a::r,b::s=>match jA g a b with
  |some c=>match jL g r s with
   |some t=>some (c::t)
   |none=>none
  |none=>none
 |_,_=>none
def jW (g:Bool) (hl:Nat->oP Ob):List (Nat×oP Ob)->oP (List (Nat×oP Ob))
 |[]=>some []
 |(l,some (.box ac))::r=>match hl l with
  |some (.box old)=>match jL g ac old with
   |some c=>match jW g hl r with
    |some t=>some ((l,some (.box c))::t)
    |none=>none
   |none=>none
  |_=>none
 |(l,some (.arr e s rows))::r=>match hl l with
  |none=>match jW g hl r with
   |some t=>some ((l,some (.arr e s (bif g then rows else [])))::t)
   |none=>none
  |some _=>none
 |(_,some (.mp ..))::_=>none
 |(l,none)::r=>match jW g hl r with
  |some t=>some ((l,none)::t)
  |none=>none
def Qec (spec:Q5L) (tt:TT) (ac:Array Oper) (o:Oper) (st:St) (k:St->Rec->oP R):oP R:=
 match o.guard with
 |none=>vdl spec tt (o.dst.getD 0) true true (evO st.tm) (look st.h) o.op fun dl=>Qdg st o [] dl k
 |some (j,w)=>match (ac[j]?).bind (·.dst) with
  |some s=>match ctx st.tm 40 s w with
   |some (g,ch)=>vdl spec tt (o.dst.getD 0) g false (fun x=>unw ch (evO st.tm x)) (look st.h) o.op fun dl=>
     match jW g (look st.h) dl.wr with
     |some wr=>Qdg st o (ch.map (·.1)) ⟨.gd s w dl.v,wr,dl.rd⟩ k
     |none=>none
   |none=>none
  |none=>none
def Qha (spec:Q5L) (tt:TT) (ac:Array Oper):List Oper->St->List Rec->(St->List Rec->oP R)->oP R
 |[],st,acc,k=>k st acc
 |o::r,st,acc,k=>Qec spec tt ac o st fun st' rec=>Qha spec tt ac r st' (acc++[rec]) k
def Q43 (s:Nat) (b:Bool):List (Nat×AV)->List (Nat×AV)
 |[]=>[]
 |(t,a)::r=>bif Nat.beq t s then (t,.d (.bool b))::r else (t,a)::Q43 s b r
def Q7E (spec:Q5L) (tt:TT) (o:Oper) (s:Nat) (w b:Bool) (st:St) (k:St->Rec->oP R):oP R:=
 bif (bif b then w else !w) then vdl spec tt (o.dst.getD 0) true true (evO st.tm) (look st.h) o.op fun dl=>Qdg st o [s] dl k
 else Qdg st o [s] ⟨.gd s w (.d (.bool false)),[],[]⟩ k
def Q1F (spec:Q5L) (tt:TT) (ac:Array Oper):List Oper->St->List Rec->(St->List Rec->oP R)->oP R
 |[],st,acc,k=>k st acc
 |o::r,st,acc,k=>match o.guard with
  |none=>vdl spec tt (o.dst.getD 0) true true (evO st.tm) (look st.h) o.op fun dl=>Qdg st o [] dl fun st' rec=>Q1F spec tt ac r st' (acc++[rec]) k
  |some (j,w)=>match (ac[j]?).bind (·.dst) with
   |some s=>match lkT st.tm s with
    |.d (.bool c)=>
     bif c then Q7E spec tt o s w true { n:=st.n,tm:=Q43 s true st.tm,h:=st.h } fun st' rec=>Q1F spec tt ac r st' (acc++[rec]) k
     else Q7E spec tt o s w false { n:=st.n,tm:=Q43 s false st.tm,h:=st.h } fun st' rec=>Q1F spec tt ac r st' (acc++[rec]) k
    |_=>none
   |none=>none
def Q4B (acc:List Nat):List Edge->Nat->Nat
 |[],s=>s
 |e::r,s=>Q4B acc r (bif Region.binds .any e then (s ||| (2 ^ e.on)) ||| acc.getD e.on 0 else s)
def Q2W:List Oper->List Nat->List Nat
 |[],acc=>acc
 |o::r,acc=>Q2W r (acc++[Q4B acc o.after.toList 0])
def Q26:List Edge->Nat->Bool
 |[],_=>true
 |e::r,i=>(!Region.binds .any e||Nat.ble (e.on+1) i)&&Q26 r i
def MH:List Oper->Nat->Bool
 |[],_=>true
 |o::r,i=>Q26 o.after.toList i&&MH r (i+1)
def inO (d:oP Nat) (l:List Nat):Bool:=
 match d with
 |some x=>Si x l
 |none=>false
def Up (a b:Rec):Bool:=
 inO a.dst b.rt||inO b.dst a.rt||(match a.dst,b.dst with | some x,some y=>Nat.beq x y | _,_=>false) ||
 TB (wrL a.dl) (wrL b.dl)||TB (wrL a.dl) b.dl.rd||TB (wrL b.dl) a.dl.rd
def Pj (aj:St) (ac:List Nat):List (Nat×oP Ob)->List Nat
 |[]=>[]
 |(l,o)::r=>match o,look aj.h l with
  |some _,none=>bif Si l ac then Pj aj ac r else l::Pj aj ac r
  |_,_=>Pj aj ac r
def Cl (l:Nat) (b:Rec):Bool:=Ur l b.dl.v||PD l b.dl.wr
def QfA (d:oP Nat) (v:AV):Bool:=
 match d with
 |some x=>gds x v
 |none=>false
def Bz (i:Nat) (a:Rec) (news:List Nat):List Rec->List Nat->Bool
 |[],_=>true
 |b::r,m::ms=>(!(Up a b||(news.any fun l=>Cl l b)||QfA a.dst b.dl.v)||m.testBit i)&&Bz i a news r ms
 |_::_,[]=>false
def Ff (aj:St):Nat->List Rec->List Nat->List Rec->List Nat->Bool
 |_,_,_,[],_=>true
 |i,ak,ac,a::r,_::ms=>
  Bz i a (Pj aj ac a.dl.wr) r ms&&((Pj aj ac a.dl.wr).all fun l=>UY aj l&&ak.all fun b=>!Cl l b) &&
   Ff aj (i+1) (ak++[a]) (ac++Pj aj ac a.dl.wr) r ms
 |_,_,_,_::_,[]=>false
def Uf (l:Nat):List (Nat×oP Ob)->Bool
 |[]=>false
 |(k,o)::r=>(o.isSome&&Nat.beq k l)||Uf l r
def Qd4 (recs:List Rec):List (Nat×oP Ob)->Bool
 |[]=>true
 |(l,none)::r=>(recs.all fun b=>!Uf l b.dl.wr)&&Qd4 recs r
 |_::r=>Qd4 recs r
def rmL:List Rec->Bool
 |[]=>true
 |a::r=>Qd4 (a::r) a.dl.wr&&rmL r
def Q3t (aj:St) (ac:List Oper) (recs:List Rec):Bool:=
 MH ac 0&&Ff aj 0 [] [] recs (Q2W ac [])&&rmL recs
structure Cfg where
 keep:List Nat
 locs:List (Nat×Nat)
 mkT:List (Nat×Nat×Nat×Nat)
 mkH:List (Nat×Nat×Nat×Nat×Nat)
 fz:List Nat
mutual
def fzA (l s:Nat) (rows:List (List D)):AV->AV
 |.arr k=>bif Nat.beq k l then .d (.sl s rows) else .arr k
 |.ap k i o=>bif Nat.beq k l then .top else .ap k i o
 |.ag r=>.ag (fzL l s rows r)
 |.tup r=>.tup (fzL l s rows r)
 |.fn f r=>.fn f (fzL l s rows r)
 |.gd ..=>.top
 |av=>av
def fzL (l s:Nat) (rows:List (List D)):List AV->List AV
 |[]=>[]
 |a::r=>fzA l s rows a::fzL l s rows r
end
def fzO (l s:Nat) (rows:List (List D)):Ob->Ob
 |.box cells=>.box (fzL l s rows cells)
 |o=>o
def fzT (l s:Nat) (rows:List (List D)):List (Nat×AV)->List (Nat×AV)
 |[]=>[]
 |(t,a)::r=>(t,fzA l s rows a)::fzT l s rows r
def QcT (l s:Nat) (rows:List (List D)):List (Nat×Ob)->List (Nat×Ob)
 |[]=>[]
 |(k,o)::r=>bif Nat.beq k l then QcT l s rows r else (k,fzO l s rows o)::QcT l s rows r
def fz1 (st:St) (l:Nat):St:=
 match look st.h l with
 |some (.arr _ s rows)=>{ n:=st.n,tm:=fzT l s rows st.tm,h:=QcT l s rows st.h }
 |_=>st
def fzs (st:St):List Nat->St
 |[]=>st
 |l::r=>fzs (fz1 st l) r
mutual
def UB (ρ:List (Nat×Nat)):AV->AV
 |.ptr l o=>match look ρ l with | some l'=>.ptr l' o | none=>.top
 |.arr l=>match look ρ l with | some l'=>.arr l' | none=>.top
 |.ap l i o=>match look ρ l with | some l'=>.ap l' i o | none=>.top
 |.sa l t=>match look ρ l with | some l'=>.sa l' t | none=>.top
 |.ag r=>.ag (Q3i ρ r)
 |.tup r=>.tup (Q3i ρ r)
 |.fn f r=>.fn f (Q3i ρ r)
 |.gd ..=>.top
 |av=>av
def Q3i (ρ:List (Nat×Nat)):List AV->List AV
 |[]=>[]
 |a::r=>UB ρ a::Q3i ρ r
end
def Qck (ρ:List (Nat×Nat)):Ob->Ob
 |.box cells=>.box (Q3i ρ cells)
 |.arr e s rows=>.arr e s rows
 |.mp t f=>.mp t f
def Qag (ρ:List (Nat×Nat)) (tm:List (Nat×AV)):List Nat->List (Nat×AV)
 |[]=>[]
 |t::r=>(t,UB ρ (lkT tm t))::Qag ρ tm r
def Di (ρ:List (Nat×Nat)) (h:List (Nat×Ob)):List (Nat×Nat)->List (Nat×Ob)
 |[]=>[]
 |(l,l')::r=>match look h l with
  |some o=>(l',Qck ρ o)::Di ρ h r
  |none=>Di ρ h r
def Qhc (tm:List (Nat×AV)) (t:Nat) (v:AV):List (Nat×AV):=
 match tm with
 |[]=>[]
 |(k,a)::r=>bif Nat.beq k t then (k,v)::r else (k,a)::Qhc r t v
def QeL (st:St):List (Nat×Nat×Nat×Nat)->St
 |[]=>st
 |(t,l,e,s)::r=>match lkT st.tm t with
  |.nil=>bif UY st l&&(look st.h l).isNone then QeL { st with tm:=Qhc st.tm t (.arr l),h:=(l,.arr e s [])::st.h } r else QeL st r
  |_=>QeL st r
def QeE (st:St):List (Nat×Nat×Nat×Nat×Nat)->St
 |[]=>st
 |(b,c,l,e,s)::r=>match look st.h b with
  |some (.box cells)=>match cells[c]? with
   |some .nil=>bif UY st l&&(look st.h l).isNone then QeE { st with h:=(l,.arr e s [])::(b,.box (cells.set c (.arr l)))::rem b st.h } r else QeE st r
   |_=>QeE st r
  |_=>QeE st r
def Xm:List Nat->Bool
 |[]=>true
 |a::r=>!Si a r&&Xm r
def Qe6 (c:Cfg) (st:St):St:=
 bif Xm (c.locs.map (·.1))&&(Xm (c.locs.map (·.2))&&c.locs.all fun p=>Nat.beq p.1 p.2||Nat.ble p.2 999999) then QeE (QeL { n:=st.n,tm:=Qag c.locs st.tm c.keep,h:=Di c.locs st.h c.locs } c.mkT) c.mkH
 else st
def inH (h:List (Nat×Ob)):List (Nat×Nat)->List (Nat×Nat)
 |[]=>[]
 |p::r=>match look h p.1 with
  |some _=>p::inH h r
  |none=>inH h r
def Qip (c:Cfg) (st:St):St:=Qe6 ⟨c.keep,inH st.h c.locs,c.mkT,c.mkH,c.fz⟩ st
def QdJ (c:Cfg) (st:St):St:=Qip c (fzs st c.fz)
def Qch (c:Cfg) (st:St):St:=
 match c.keep with
 |[]=>QdJ ⟨st.tm.map (·.1),st.h.map fun p=>(p.1,p.1),c.mkT,c.mkH,c.fz⟩ st
 |_::_=>QdJ c st
structure VC where
 spec:Q5L
 tt:TT
 cfg:List (Nat×Cfg)
def Q1H (C:VC) (id:Nat) (ac:Array Oper) (aj:Bool) (st:St) (k:St->oP R):oP R:=
 (bif (look C.cfg (id+1000000000)).isSome then Q1F C.spec C.tt ac ac.toList st [] else Qha C.spec C.tt ac ac.toList st []) fun st' recs=>
  bif !aj||Q3t st ac.toList recs then
   match look C.cfg id with
   |some c=>k (Qch c st')
   |none=>k st'
  else none
def Q8X (ac:St->(Exit->St->oP R)->oP R):Nat->St->(Exit->St->oP R)->oP R
 |0,_,_=>none
 |n+1,st,k=>ac st fun e st'=>match e with
  |.normal=>Q8X ac n st' k
  |.exit id=>k (.exit id) st'
  |.ret=>k .ret st'
  |_=>none
def Q98:Code->Nat
 |.region id _ _=>id
 |.seq a _=>Q98 a
 |.block _ c=>Q98 c
 |.loop c=>Q98 c
 |.cond _ a _=>Q98 a
 |_=>0
def Qgl (C:VC) (n:Nat) (c:Code):Nat:=
 match look C.cfg (2000000000+Q98 c) with
 |some ⟨[m],_,_,_,_⟩=>m
 |_=>n
def Q1c (C:VC) (ac:Nat) (st:St):St:=
 match look C.cfg ac with
 |some q=>QdJ q st
 |none=>st
def A4 (C:VC) (n:Nat):Code->St->(Exit->St->oP R)->oP R
 |.skip,st,k=>k .normal st
 |.region id aj ac,st,k=>Q1H C id aj ac st (k .normal)
 |.seq a b,st,k=>A4 C n a st fun e st'=>match e with
  |.normal=>A4 C n b st' k
  |.exit id=>k (.exit id) st'
  |.ret=>k .ret st'
  |_=>none
 |.cond c a b,st,k=>match evO st.tm c with
  |.d (.bool e)=>bif e then A4 C n a st k else A4 C n b st k
  |_=>none
 |.block id c,st,k=>A4 C n c st fun e st'=>match e with
  |.normal=>k .normal st'
  |.exit j=>bif Nat.beq j id then k .normal st' else k (.exit j) st'
  |.ret=>k .ret st'
  |_=>none
 |.loop c,st,k=>Q8X (fun st k=>A4 C n c (Q1c C (3000000000+Q98 c) st) k) (Qgl C n c) st k
 |.exit id,st,k=>k (.exit id) st
 |.ret,st,k=>k .ret st
 |_,_,_=>none
def lB (C:VC) (n:Nat) (c:Code) (st:St) (k:Exit->St->oP R):oP R:=A4 C n c (Q1c C (3000000000+Q98 c) st) k
mutual
def M6:AV->Bool
 |.gd ..=>false
 |.ag l=>HS l
 |.tup l=>HS l
 |.fn _ l=>HS l
 |_=>true
def HS:List AV->Bool
 |[]=>true
 |a::r=>M6 a&&HS r
end
def Q4u (tt:TT) (st:St):ResultVar->oP AV
 |.tmp t=>some (lkT st.tm t)
 |.cell a ty=>match lkT st.tm a with
  |.ptr l off=>match look st.h l,look tt ty with
   |some (.box cells),some ti=>
    bif VH ti.kd then
     match BT cells off ti.size with
     |some cs=>some (.ag cs)
     |none=>none
    else match cells[off]? with
     |some c=>bif Q12 c then some c else none
     |none=>none
   |_,_=>none
  |_=>none
def Q1A (tt:TT) (st:St):List ResultVar->oP (List AV)
 |[]=>some []
 |r::rs=>match Q4u tt st r with
  |some a=>match Q1A tt st rs with
   |some l=>bif M6 a then some (a::l) else none
   |none=>none
  |none=>none
def Q2v (tt:TT) (st:St) (rs:List ResultVar):oP AV:=
 match Q1A tt st rs with
 |some [a]=>some a
 |some l=>some (.tup l)
 |none=>none
def Q4a:Nat->List AV->List (Nat×AV)
 |_,[]=>[]
 |i,a::r=>(i,a)::Q4a (i+1) r
def vfn (C:VC) (n:Nat) (fn:Func) (args:List AV) (h:List (Nat×Ob)) (k:AV->List (Nat×Ob)->oP R):oP R:=
 match fn.body with
 |some c=>bif Nat.ble args.length fn.ntmps&&HS args then
   A4 C n c { n:=fn.ntmps,tm:=Q4a 0 args,h:=h } fun e st=>match e with
    |.ret=>match Q2v C.tt st fn.results.toList with
     |some v=>k v st.h
     |none=>none
    |.normal=>match Q2v C.tt st fn.results.toList with
     |some v=>k v st.h
     |none=>none
    |_=>none
  else none
 |none=>none
end
inductive Rd (S:Nat->Prop) (w:World):Value->D->Prop
 |int (k:IntKind) (n:Int):Rd S w (.int k n) (.int k n)
 |bool (b:Bool):Rd S w (.bool b) (.bool b)
 |str (s:ByteArray):Rd S w (.string s) (.str s.data.toList)
 |sl0 (a:oP Addr) (cap size:Nat):Rd S w (.slice a 0 cap) (.sl size [])
 |sl (ad:Addr) (cap size:Nat) (rows:List (List D)) (c:Nat->Nat->Value)
   (hS:S ad.block) (hcap:rows.length<=cap) (hsz:∀ (i:Nat) (r:List D),rows[i]? = some r->r.length=size)
   (hc:∀ (i j:Nat) (r:List D) (x:D),rows[i]? = some r->r[j]? = some x->w.cell? (ad.add (i*size+j))=some (c i j))
   (hr:∀ (i j:Nat) (r:List D) (x:D),rows[i]? = some r->r[j]? = some x->Rd S w (c i j) x) :
   Rd S w (.slice (some ad) rows.length cap) (.sl size rows)
theorem JY (a:Addr) (n:Nat):(a.add n).block=a.block:=by unfold Addr.add;split <;> rfl
theorem BN (a:Addr) (i j:Nat):(a.add i).add j=a.add (i+j):=by
 grind [Addr.add,Nat.add_assoc]
theorem HQ (b o n:Nat):(⟨b,o,none⟩:Addr).add n=⟨b,o+n,none⟩:=by
 grind [Addr.add]
theorem Ae {w w':World} {a:Addr} (h:w'.heap[a.block]? = w.heap[a.block]?):w'.cell? a=w.cell? a:=by simp [World.cell?,h]
theorem Rd.mono {S S':Nat->Prop} {w w':World} {v:Value} {x:D} (hS:∀ b,S b->S' b) (hw:∀ b,S b->w'.heap[b]? = w.heap[b]?) (h:Rd S w v x):Rd S' w' v x:=by
 induction h with
 |int k n=>exact .int k n
 |bool b=>exact .bool b
 |str s=>exact .str s
 |sl0 a cap size=>exact .sl0 a cap size
 |sl ad cap size rows c hs ac aj hc _ ih=>
  exact .sl ad cap size rows c (hS _ hs) ac aj (fun i j r x h1 h2=>by
   grind [Ae,JY]) ih
def Ts:List MapEntry->Int->oP Value
 |[],_=>none
 |e::r,n=>match e.key with
  |.int .i64 m=>if m=n then some e.val else Ts r n
  |_=>Ts r n
def QaH (S:Nat->Prop) (w:World) (v:Value) (f:Int->List (List D)):Prop:=
 ∃ b es ac,v = .map (some b)/\S b/\w.heap[b]? = some (.map es ac)/\(∀ e∈es.toList,∃ n,e.key = .int .i64 n)/\(∀ n,Ts es.toList n=none->f n=[])/\∀ n v',Ts es.toList n=some v'->Rd S w v' (.sl 1 (f n))
theorem QaH.mono {S S':Nat->Prop} {w w':World} {v:Value} {f:Int->List (List D)} (hS:∀ b,S b->S' b) (hw:∀ b,S b->w'.heap[b]? = w.heap[b]?) (h:QaH S w v f):QaH S' w' v f:=by
 obtain ⟨b,es,ac,h1,h2,h3,h4,h5,h6⟩:=h;exact ⟨b,es,ac,h1,hS b h2,(hw b h2).trans h3,h4,h5,fun n v' hl=>(h6 n v' hl).mono hS hw⟩
def MpR (w:World) (b:Nat) (f:Int->Bool):Prop:=
 ∃ es ac,w.heap[b]? = some (.map es ac)/\(∀ e∈es.toList,∃ n,e.key = .int .i64 n)/\(∀ n,Ts es.toList n=none->f n=false)/\∀ n v,Ts es.toList n=some v->v = .bool (f n)
theorem MpR.same {w w':World} {b:Nat} {f:Int->Bool} (h:MpR w b f) (hb:w'.heap[b]? = w.heap[b]?):MpR w' b f:=by
 obtain ⟨es,ac,h1,h2⟩:=h;exact ⟨es,ac,hb.trans h1,h2⟩
def Mp:AV->oP Nat
 |.arr l=>some l
 |.ap l _ _=>some l
 |_=>none
inductive RdA (β:Nat->oP Nat) (S:Nat->Prop) (h:Nat->oP Ob) (w:World) (tm:Nat->Value):Value->AV->Prop
 |top (v:Value):RdA β S h w tm v .top
 |d (v:Value) (x:D) (hx:Rd S w v x):RdA β S h w tm v (.d x)
 |nil:RdA β S h w tm (.slice none 0 0) .nil
 |ag (cs:Array Value) (l:List AV) (hl:cs.size=l.length) (hr:∀ (i:Nat) (x:AV),l[i]? = some x->RdA β S h w tm (cs.getD i undef) x):RdA β S h w tm (.agg cs) (.ag l)
 |tup (cs:Array Value) (l:List AV) (hl:cs.size=l.length) (hr:∀ (i:Nat) (x:AV),l[i]? = some x->RdA β S h w tm (cs.getD i undef) x):RdA β S h w tm (.tuple cs) (.tup l)
 |fn (f:Nat) (cs:Array Value) (l:List AV) (hl:cs.size=l.length) (hr:∀ (i:Nat) (x:AV),l[i]? = some x->RdA β S h w tm (cs.getD i undef) x):RdA β S h w tm (.func (.func f) #[] cs) (.fn f l)
 |fs (ad:oP Addr) (s:Nat) (rows:List (List D)) (hx:Rd S w (.slice ad rows.length rows.length) (.sl s rows)):RdA β S h w tm (.slice ad rows.length rows.length) (.fs s rows)
 |mpd (v:Value) (f:Int->List (List D)) (hm:QaH S w v f):RdA β S h w tm v (.mpd f)
 |ex (v:Value):RdA β S h w tm v (.ex v)
 |ptr (l off b:Nat) (hb:β l=some b):RdA β S h w tm (.pointer (some ⟨b,off,none⟩)) (.ptr l off)
 |sa (v:Value) (l t b:Nat) (hb:β l=some b) (hv:v = .pointer none\/v = .pointer (some ⟨b,0,none⟩)):RdA β S h w tm v (.sa l t)
 |el (ad:Addr) (row:List D) (off:Nat) (c:Nat->Value) (hs:S ad.block)
   (hc:∀ (j:Nat) (x:D),row[off+j]? = some x->w.cell? (ad.add j)=some (c j)) (hr:∀ (j:Nat) (x:D),row[off+j]? = some x->Rd S w (c j) x) :
   RdA β S h w tm (.pointer (some ad)) (.el row off)
 |arr0 (l e s:Nat) (hb:β l=none) (hh:h l=some (.arr e s [])):RdA β S h w tm (.slice none 0 0) (.arr l)
 |arr (l b cap e s:Nat) (rows:List (List D)) (cs:Array Value) (ty:TypeId) (fz:Nat×Nat) (hb:β l=some b) (hh:h l=some (.arr e s rows))
   (hw:w.heap[b]? = some (.cells cs ty fz)) (hcs:cs.size=cap*s) (hcap:rows.length<=cap) (hmax:cap<=maxLen) :
   RdA β S h w tm (.slice (some ⟨b,0,none⟩) rows.length cap) (.arr l)
 |mp (l b t:Nat) (f:Int->Bool) (hb:β l=some b) (hh:h l=some (.mp t f)):RdA β S h w tm (.map (some b)) (.arr l)
 |ap (l i off b e s:Nat) (rows:List (List D)) (hb:β l=some b) (hh:h l=some (.arr e s rows)) :
   RdA β S h w tm (.pointer (some ⟨b,i*s+off,none⟩)) (.ap l i off)
 |dang (v:Value) (av:AV) (l:Nat) (hl:Mp av=some l) (hh:h l=none) (h1:v.oneCell'=true):RdA β S h w tm v av
 |gdT (v:Value) (t:Nat) (w':Bool) (av:AV) (ht:tm t = .bool w') (hv:RdA β S h w tm v av):RdA β S h w tm v (.gd t w' av)
 |gdF (t:Nat) (w':Bool) (av:AV) (ht:tm t≠.bool w'):RdA β S h w tm undef (.gd t w' av)
structure Keep (β:Nat->oP Nat) (h:Nat->oP Ob) (w:World) (β':Nat->oP Nat) (h':Nat->oP Ob) (w':World) (l:Nat):Prop where
 b:β' l=β l
 none_:h l=none->h' l=none
 arr:∀ e s rows,h l=some (.arr e s rows)->h' l=none\/∃ rows',h' l=some (.arr e s rows')/\rows'.length=rows.length
 cells:∀ b cs ty fz,(h' l).isSome=true->β l=some b->w.heap[b]? = some (.cells cs ty fz)->∃ cs' ty' fz',w'.heap[b]? = some (.cells cs' ty' fz')/\cs'.size=cs.size
 mp:∀ t f,h l=some (.mp t f)->h' l=none\/∃ f',h' l=some (.mp t f')
theorem Mg {l i:Nat} {r:List AV} {x:AV} (h:r[i]? = some x) (hn:Ur l x=true):Kh l r=true:=by
 induction r generalizing i with
 |nil=>simp at h
 |cons a r ih=>
  grind [Kh]
theorem Q5l {t i:Nat} {r:List AV} {x:AV} (h:r[i]? = some x) (hn:gds t x=true):Q0h t r=true:=by
 induction r generalizing i with
 |nil=>simp at h
 |cons a r ih=>
  grind [Q0h]
theorem RdA.mono {β β':Nat->oP Nat} {S S':Nat->Prop} {h h':Nat->oP Ob} {w w':World} {tm tm':Nat->Value} {v:Value} {av:AV}
  (hr:RdA β S h w tm v av) (hS:∀ b,S b->S' b) (hw:∀ b,S b->w'.heap[b]? = w.heap[b]?)
  (hk:∀ l,Ur l av=true->Keep β h w β' h' w' l) (ht:∀ t,gds t av=true->tm' t=tm t):RdA β' S' h' w' tm' v av:=by
 induction hr with
 |top v=>exact .top v
 |d v x hx=>exact .d v x (hx.mono hS hw)
 |nil=>exact .nil
 |ag cs l hl _ ih=>
  exact .ag cs l hl fun i x hx=>ih i x hx (fun k hn=>hk k (by grind [Ur,Mg])) (fun t hn=>ht t (by grind [gds,Q5l]))
 |tup cs l hl _ ih=>
  exact .tup cs l hl fun i x hx=>ih i x hx (fun k hn=>hk k (by simp [Ur,Mg hx hn])) (fun t hn=>ht t (by simp [gds,Q5l hx hn]))
 |fn f cs l hl _ ih=>
  exact .fn f cs l hl fun i x hx=>ih i x hx (fun k hn=>hk k (by simp [Ur,Mg hx hn])) (fun t hn=>ht t (by simp [gds,Q5l hx hn]))
 |fs ad s rows hx=>exact .fs ad s rows (hx.mono hS hw)
 |mpd v f hm=>exact .mpd v f (hm.mono hS hw)
 |ex v=>exact .ex v
 |ptr l off b hb=>exact .ptr l off b (by rw [(hk l (by simp [Ur])).b];exact hb)
 |sa v l t b hb hv=>exact .sa v l t b (by rw [(hk l (by simp [Ur])).b];exact hb) hv
 |el ad row off c hs hc hr=>
  exact .el ad row off c (hS _ hs) (fun j x hx=>by grind [Ae,JY]) (fun j x hx=>(hr j x hx).mono hS hw)
 |arr0 l e s hb hh=>
  have K:=hk l (by simp [Ur]);rcases K.arr e s [] hh with hn | ⟨ac,aj,an⟩
  ·exact .dang _ _ l rfl hn rfl
  ·have:ac=[]:=Qoh Q0;subst this;exact .arr0 l e s (by rw [K.b];exact hb) aj
 |arr l b cap e s rows cs ty fz hb hh az a6 a3 aq=>
  have K:=hk l (by simp [Ur]);rcases K.arr e s rows hh with hn | ⟨ac,aj,an⟩
  ·exact .dang _ _ l rfl hn rfl
  ·obtain ⟨ay,au,a2,aw,a5⟩:=K.cells b cs ty fz (by simp [aj]) hb az;have:=RdA.arr (β:=β') (h:=h') (w:=w') (S:=S') (tm:=tm') l b cap e s ac ay au a2 (by rw [K.b];exact hb) aj aw Q0 Q0 aq
   simp_all
 |mp l b t f hb hh=>
  have K:=hk l (by simp [Ur]);rcases K.mp t f hh with hn | ⟨f',hf⟩
  ·exact .dang _ _ l rfl hn rfl
  ·exact .mp l b t f' (by rw [K.b];exact hb) hf
 |ap l i off b e s rows hb hh=>
  have K:=hk l (by simp [Ur]);rcases K.arr e s rows hh with hn | ⟨ac,aj,an⟩
  ·exact .dang _ _ l rfl hn rfl
  ·exact .ap l i off b e s ac (by rw [K.b];exact hb) aj
 |dang v av l hl hh h1=>
  refine .dang v av l hl ((hk l ?_).none_ hh) h1;cases av <;> simp [Mp] at hl <;> simp [Ur,hl]
 |gdT v t b av ar _ ih=>
  refine .gdT v t b av (by simp_all [gds]) (ih (fun k hn=>hk k (by assumption)) (fun t' hn=>ht t' (by grind [gds])))
 |gdF t b av ar=>exact .gdF t b av (by rw [ht t (by simp [gds])];exact ar)
structure Fr (M:Nat->Prop) (w w':World):Prop where
 os:w'.os=w.os
 tape:w'.tape=w.tape
 output:w'.output=w.output
 size:w.heap.size<=w'.heap.size
 block:∀ b,b<w.heap.size->¬ M b->w'.heap[b]? = w.heap[b]?
theorem Fr.refl (M:Nat->Prop) (w:World):Fr M w w:=⟨rfl,rfl,rfl,Qov _,fun _ _ _=>rfl⟩
theorem Fr.trans {M:Nat->Prop} {a b c:World} (h:Fr M a b) (k:Fr M b c):Fr M a c:=
 ⟨k.os.trans h.os,k.tape.trans h.tape,k.output.trans h.output,Nat.le_trans h.size k.size,fun i hi hm=>(k.block i (Qoy hi h.size) hm).trans (h.block i hi hm)⟩
theorem Fr.mono {M M':Nat->Prop} {a b:World} (h:Fr M a b) (hM:∀ x,x<a.heap.size->M x->M' x):Fr M' a b:=
 ⟨h.os,h.tape,h.output,h.size,fun i hi hm=>h.block i hi (fun hx=>hm (hM i hi hx))⟩
theorem Fr.below {w w':World} (h:Fr (fun _=>False) w w'):RowKit.Below w.heap.size w w':=⟨h.os,h.tape,h.output,h.size,fun b hb=>h.block b hb (fun x=>x)⟩
def Qim (n:Nat) (fz:Nat×Nat):Prop:=∀ o,o<n->¬ (fz.1<=o/\o<fz.2)
def tm0:Nat->Value:=fun _=>undef
def Q7Y (ty:TypeId) (cells:List AV):Prop:=∀ (i l t:Nat),cells[i]? = some (.sa l t)->ty=t
def ObR (β:Nat->oP Nat) (S:Nat->Prop) (h:Nat->oP Ob) (w:World) (l:Nat):Ob->Prop
 |.box cells=>∃ b ty cs fz,β l=some b/\w.heap[b]? = some (.cells cs ty fz)/\(Qim cs.size fz/\Q7Y ty cells)/\cs.size=cells.length /\
   ∀ (i:Nat) (x:AV),cells[i]? = some x->RdA β S h w tm0 (cs.getD i undef) x
 |.arr e s rows=>(β l=none/\rows=[])\/∃ b cs,β l=some b/\w.heap[b]? = some (.cells cs e (0,0))/\rows.length*s<=cs.size /\
   (∀ (i:Nat) (r:List D),rows[i]? = some r->r.length=s)/\∀ (i j:Nat) (r:List D) (x:D),rows[i]? = some r->r[j]? = some x->∃ v,cs[i*s+j]? = some v/\Rd S w v x
 |.mp _ f=>∃ b,β l=some b/\MpR w b f
structure Env where
 w0:World
 M:Nat->Prop
 S0:Nat->Prop
 pin:Nat->oP Nat
def tmv (a:Act) (t:Nat):Value:=a.tmps.getD t undef
structure HRel (E:Env) (β:Nat->oP Nat) (S:Nat->Prop) (h:Nat->oP Ob) (w:World):Prop where
 ob:∀ l o,h l=some o->ObR β S h w l o
 inj:∀ l l' b,(h l).isSome=true->(h l').isSome=true->β l=some b->β l'=some b->l=l'
 apart:∀ l b,(h l).isSome=true->β l=some b->¬ S b
 own:∀ l b,(h l).isSome=true->β l=some b->E.M b\/E.w0.heap.size<=b
 sb:∀ b,S b->b<w.heap.size
 sfr:∀ b,S b->E.S0 b\/E.M b\/E.w0.heap.size<=b
 s0:∀ b,E.S0 b->S b
 fr:Fr E.M E.w0 w
 pin:∀ l,1000000<=l->β l=E.pin l
 psz:∀ l b,1000000<=l->(h l).isSome=true->β l=some b->∀ cs ty fz,E.w0.heap[b]? = some (.cells cs ty fz)->∃ cs' ty' fz',w.heap[b]? = some (.cells cs' ty' fz')/\cs'.size=cs.size
structure Rel (E:Env) (β:Nat->oP Nat) (S:Nat->Prop) (st:St) (a:Act) (w:World):Prop where
 n:a.tmps.size=st.n
 dfr:a.defers=[]
 tm:∀ t av,look st.tm t=some av->RdA β S (look st.h) w (tmv a) (tmv a t) av
 hr:HRel E β S (look st.h) w
def HZ (E:Env) (st:St) (a:Act) (w:World):Prop:=∃ β S,Rel E β S st a w
theorem QdU {a b:Nat} (h:¬ a=b):Nat.beq a b=false:=by
 grind [Nat.beq,absurd,Nat.eq_of_beq_eq_true]
theorem Bg {α:Type} (l k:Nat) (h:List (Nat×α)):look (rem l h) k=if k=l then none else look h k:=by
 induction h with
 |nil=>simp [rem,look]
 |cons x r ih=>
  obtain ⟨a,o⟩:=x;simp only [rem,look];by_cases ha:a=l
  ·subst ha;simp only [Nat.beq_refl,Qoc,ih]
   grind [Nat.beq,QdU]
  ·have h1:Nat.beq a l=false:=QdU ha;simp only [h1,cond_false,look,ih]
   grind
theorem Y7 {α:Type} (l k:Nat) (o:α) (h:List (Nat×α)):look ((l,o)::h) k=if k=l then some o else look h k:=by
 grind [look,Nat.beq_refl,Nat.beq,QdU]
theorem Uk (l k:Nat) (o:Ob) (h:List (Nat×Ob)):look ((l,o)::rem l h) k=if k=l then some o else look h k:=by
 grind [Y7,Bg]
end Go.Vx
namespace Go.Vx
variable {ev:Operand->AV}
def CEq (kd:Kd) (u v:Value) (b:Bool):Prop:=
 match kd with
 |.int k=>∃ m n,u = .int k m/\v = .int k n/\b=(m == n)
 |.bool=>∃ m n,u = .bool m/\v = .bool n/\b=(m == n)
 |.str=>∃ m n:ByteArray,u = .string m/\v = .string n/\b=(m.data.toList == n.data.toList)
 |_=>False
def QiW (P:Program) (t:Nat) (ks:List Kd):Prop:=
 ∀ (w:World) (xs ys:Array Value) (bs:List Bool),xs.size=ks.length->ys.size=ks.length->bs.length=ks.length ->
  (∀ (j:Nat) (kd:Kd) (b:Bool),ks[j]? = some kd->bs[j]? = some b->CEq kd (xs.getD j undef) (ys.getD j undef) b) ->
  (Op.equalIn 10000 t (.agg xs) (.agg ys)).run P w = .ok (bs.all id) w/\P.eqGuardType P.depth t=false
structure TyOk (P:Program) (t:Nat) (ti:TyI):Prop where
 inf:∃ i,P.info? t=some i/\i.size=ti.size/\i.bytes=ti.bytes/\∃ z,i.zero=some z/\z.cells.toList=ti.zero
 one:VH ti.kd=false->ti.size=1/\∃ d,P.underlying t=some d/\(∀ fs,d≠.struct fs)/\∀ n e,d≠.array n e
 kint:∀ k,ti.kd = .int k->P.underlying t=some (.int k)
 kbool:ti.kd = .bool->P.underlying t=some .bool
 kstr:ti.kd = .str->P.underlying t=some .string
 ksl:∀ e esz,ti.kd = .sl e esz->P.underlying t=some (.slice e)/\0<esz/\∃ i,P.info? e=some i/\i.size=esz
 kstruct:ti.kd = .struct->∃ fs,P.underlying t=some (.struct fs)/\fs.toList.map (fun f=>(f.offset,f.type))=ti.fields/\∀ f∈fs.toList,∃ i,P.info? f.type=some i/\i.size≠0
 karr:∀ e esz n,ti.kd = .array e esz n->P.underlying t=some (.array n e)/\0<esz/\(∃ i,P.info? e=some i/\i.size=esz)/\ti.size=n*esz/\ti.fields=(List.range n).map fun i=>(i*esz,e)
 keq:∀ ks,ti.eqk=some ks->QiW P t ks
 zlen:ti.zero.length=ti.size
 zd:ti.zd.length=ti.size->∀ (j:Nat) (x:D),ti.zd[j]? = some x->∃ v,ti.zero[j]? = some v/\∀ (S:Nat->Prop) (w:World),Rd S w v x
 kmpb:ti.kd = .mpb->∃ K e,P.underlying t=some (.map K e)/\P.underlying K=some (.int .i64)/\∃ i,P.info? e=some i/\i.zero=some (.bool false)
 kmap:ti.kd = .mapI->∃ K e,P.underlying t=some (.map K e)/\P.underlying K=some (.int .i64)/\∃ i,P.info? e=some i/\i.zero=some (.slice none 0 0)
def TOk (P:Program) (tt:TT):Prop:=∀ t ti,look tt t=some ti->TyOk P t ti
section
variable {P:Program}
theorem X5 {t:TypeId} {d:TypeDesc} (h:P.underlying t=some d) (w:World):(underlying t).run P w = .ok d w:=by
 simp [underlying,h]
theorem YI {t:TypeId} {i:TypeInfo} (h:P.info? t=some i) (w:World):(typeInfo t).run P w = .ok i w:=by
 simp [typeInfo,h]
theorem TyOk.size {t:Nat} {ti:TyI} (h:TyOk P t ti) (w:World):(sizeOf t).run P w = .ok ti.size w:=by
 obtain ⟨i,hi,hs,_⟩:=h.inf
 simp_all [sizeOf,YI]
theorem TyOk.agg {t:Nat} {ti:TyI} (h:TyOk P t ti) (w:World):(isAgg t).run P w = .ok (VH ti.kd) w:=by
 cases hk:VH ti.kd with
 |true=>
  cases hh:ti.kd with
  |struct=>
   obtain ⟨fs,hu,_⟩:=h.kstruct hh;simp [isAgg,X5 hu]
  |array e aj n=>
   have hu:=(h.karr e aj n hh).1;simp [isAgg,X5 hu]
  |_=>grind [VH]
 |false=>
  obtain ⟨_,d,hu,h1,h2⟩:=h.one hk
  simp_all [isAgg,Qob,X5,Qo7]
theorem X6 {α R:Type} {g:Bool} {p:oP α} {z:α} {k:α->oP R} {r:R} (h:gb g p z k=some r) :
  ∃ a,k a=some r/\(g=true->p=some a):=by
 unfold gb orZ at h
 grind
def Out (E:Env) (st:St) (a:Act) (dl:Dl) (v:Value) (w':World):Prop:=
 ∃ β' S',Rel E β' S' ⟨st.n,st.tm,MO st.h dl.wr⟩ a w'/\RdA β' S' (look (MO st.h dl.wr)) w' (tmv a) v dl.v
def BJ (β:Nat->oP Nat) (S:Nat->Prop) (st:St) (a:Act) (w:World) (o:Oper) (ev:Operand->AV):Prop:=
 ∀ x∈o.op.operands.toList,RdA β S (look st.h) w (tmv a) (a.eval x) (ev x)/\∀ l,UY st l=true->Ur l (ev x)=false
def QfG (st:St) (hl:Nat->oP Ob) (dl:Dl):Prop:=∀ l,l∈dl.rd\/l∈wrL dl->look st.h l=hl l
def KE (P:Program) (E:Env) (o:Oper) (ev:Operand->AV) (hl:Nat->oP Ob) (dl:Dl):Prop:=
 ∀ β S st a w,Rel E β S st a w->BJ β S st a w o ev->QfG st hl dl->WI st dl.wr=true ->
  ∀ (K:Act->World->Prop) (Q:Exit->Act->World->Prop),(∀ v w',Out E st a dl v w'->K (a.put o.dst v) w')->o.wp P a w K Q
variable {E:Env}
theorem QE {o:Oper} {hl:Nat->oP Ob} {v:AV} {rd:List Nat}
  (h:∀ β S st a w,Rel E β S st a w->BJ β S st a w o ev->QfG st hl ⟨v,[],rd⟩->∃ u,(execOp a.eval o).run P w = .ok (.value u) w/\RdA β S (look st.h) w (tmv a) u v) :
  KE P E o ev hl ⟨v,[],rd⟩:=by
 intro β S st a w hR hO hA _ K Q hK;obtain ⟨u,ac,hu⟩:=h β S st a w hR hO hA;unfold Oper.wp;rw [ac];exact hK u w ⟨β,S,by assumption,by assumption⟩
theorem BJ.at {β:Nat->oP Nat} {S:Nat->Prop} {st:St} {a:Act} {w:World} {o:Oper} (h:BJ β S st a w o ev) {x:Operand} (hx:x∈o.op.operands.toList) :
  RdA β S (look st.h) w (tmv a) (a.eval x) (ev x):=(h x hx).1
theorem BJ.nm {β:Nat->oP Nat} {S:Nat->Prop} {st:St} {a:Act} {w:World} {o:Oper} (h:BJ β S st a w o ev) {x:Operand} (hx:x∈o.op.operands.toList) {l:Nat} (hc:UY st l=true) :
  Ur l (ev x)=false:=(h x hx).2 l hc
section inv
variable {β:Nat->oP Nat} {S:Nat->Prop} {h:Nat->oP Ob} {w:World} {tm:Nat->Value} {v:Value}
theorem RdA.int_inv {k:IntKind} {n:Int} (hv:RdA β S h w tm v (.d (.int k n))):v = .int k n:=by
 cases hv with
 |d _ _ hx=>cases hx;rfl
 |dang _ _ l hl _ _=>trivial
theorem RdA.bool_inv {b:Bool} (hv:RdA β S h w tm v (.d (.bool b))):v = .bool b:=by
 cases hv with
 |d _ _ hx=>cases hx;rfl
 |dang _ _ l hl _ _=>trivial
theorem RdA.str_inv {l:List UInt8} (hv:RdA β S h w tm v (.d (.str l))):∃ s:ByteArray,l=s.data.toList/\v = .string s:=by
 cases hv with
 |d _ _ hx=>cases hx with
  |str s=>simp_all
 |dang _ _ l hl _ _=>trivial
theorem RdA.d_inv {x:D} (hv:RdA β S h w tm v (.d x)):Rd S w v x:=by
 cases hv with
 |d _ _ hx=>exact hx
 |dang _ _ l hl _ _=>trivial
theorem RdA.ptr_inv {l off:Nat} (hv:RdA β S h w tm v (.ptr l off)):∃ b,β l=some b/\v = .pointer (some ⟨b,off,none⟩):=by
 cases hv with
 |ptr _ _ b hb=>simp_all
 |dang _ _ l hl _ _=>trivial
theorem RdA.el_inv {row:List D} {off:Nat} (hv:RdA β S h w tm v (.el row off)) :
  ∃ (ad:Addr) (c:Nat->Value),v = .pointer (some ad)/\S ad.block/\(∀ (j:Nat) (x:D),row[off+j]? = some x->w.cell? (ad.add j)=some (c j))/\∀ (j:Nat) (x:D),row[off+j]? = some x->Rd S w (c j) x:=by
 cases hv with
 |el ad _ _ c hs hc hr=>exact ⟨ad,c,rfl,hs,hc,hr⟩
 |dang _ _ l hl _ _=>trivial
theorem RdA.ap_inv {l i off e s:Nat} {rows:List (List D)} (hh:h l=some (.arr e s rows)) (hv:RdA β S h w tm v (.ap l i off)) :
  ∃ b,β l=some b/\v = .pointer (some ⟨b,i*s+off,none⟩):=by
 cases hv with
 |ap _ _ _ b e' s' ac hb ak=>
  simp_all
 |dang _ _ l' hl hn _=>grind [Mp]
theorem RdA.ag_inv {l:List AV} (hv:RdA β S h w tm v (.ag l)):∃ cs:Array Value,v = .agg cs/\cs.size=l.length/\∀ (i:Nat) (x:AV),l[i]? = some x->RdA β S h w tm (cs.getD i undef) x:=by
 cases hv with
 |ag cs _ hl hr=>simp_all
 |dang _ _ l hl _ _=>trivial
theorem RdA.tup_inv {l:List AV} (hv:RdA β S h w tm v (.tup l)):∃ cs:Array Value,v = .tuple cs/\cs.size=l.length/\∀ (i:Nat) (x:AV),l[i]? = some x->RdA β S h w tm (cs.getD i undef) x:=by
 cases hv with
 |tup cs _ hl hr=>simp_all
 |dang _ _ l hl _ _=>trivial
theorem RdA.fs_inv {s:Nat} {rows:List (List D)} (hv:RdA β S h w tm v (.fs s rows)):∃ ad,v = .slice ad rows.length rows.length/\Rd S w v (.sl s rows):=by
 cases hv with
 |fs ad _ _ hx=>simp_all
 |dang _ _ l hl=>trivial
theorem RdA.nil_inv (hv:RdA β S h w tm v .nil):v = .slice none 0 0:=by
 cases hv with
 |nil=>rfl
 |dang _ _ l hl _ _=>trivial
theorem RdA.arr_inv {l e s:Nat} {rows:List (List D)} (hh:h l=some (.arr e s rows)) (hv:RdA β S h w tm v (.arr l)) :
  (β l=none/\rows=[]/\v = .slice none 0 0)\/∃ b cap cs ty fz,β l=some b/\v = .slice (some ⟨b,0,none⟩) rows.length cap/\w.heap[b]? = some (.cells cs ty fz)/\cs.size=cap*s/\rows.length<=cap/\cap<=maxLen:=by
 cases hv with
 |arr0 _ e' s' hb ac=>
  simp_all
 |arr _ b cap e' s' aj cs ty fz hb ac hw aq ak an=>
  grind
 |mp _ b t f hb ac=>simp_all
 |dang _ _ l' hl hn _=>grind [Mp]
theorem RdA.mp_inv {l t:Nat} {f:Int->Bool} (hh:h l=some (.mp t f)) (hv:RdA β S h w tm v (.arr l)):∃ b,β l=some b/\v = .map (some b):=by
 cases hv with
 |arr0 _ e' s' hb ac=>simp_all
 |arr _ b cap e' s' aj cs ty fz hb ac hw ar ak an=>rw [hh] at ac;cases ac
 |mp _ b t f hb ac=>simp_all
 |dang _ _ l' hl hn _=>grind [Mp]
end inv
theorem E7 {k:IntKind} {x:D} {n:Int} (h:Qk k x=some n):x = .int k n:=by
 cases x with
 |int k' m=>
  grind [Qk]
 |_=>trivial
theorem MZ {x:D} {n:Bool} (h:Gp x=some n):x = .bool n:=by
 cases x <;> simp [Gp] at h;rw [h]
theorem FU {x:D} {n:List UInt8} (h:NB x=some n):x = .str n:=by
 cases x <;> simp [NB] at h;rw [h]
theorem Q7d {s:Nat} {x:D} {n:List (List D)} (h:pSl s x=some n):x = .sl s n:=by
 cases x with
 |sl s' m=>
  grind [pSl,Nat.beq,Nat.eq_of_beq_eq_true]
 |_=>trivial
theorem Bu {R:Type} {g:Bool} {kd:Kd} {av:AV} {k:AV->oP R} {r:R} (h:prj g kd av k=some r) :
  ∃ v,k v=some r/\(g=true->v=av)/\Q12 av=true:=by
 unfold prj at h;split at h
 ·split at h
  ·obtain ⟨n,hn,hp⟩:=X6 h;exact ⟨_,hn,fun hg=>by grind [E7],rfl⟩
  ·obtain ⟨n,hn,hp⟩:=X6 h;exact ⟨_,hn,fun hg=>by grind [MZ],rfl⟩
  ·obtain ⟨n,hn,hp⟩:=X6 h;exact ⟨_,hn,fun hg=>by grind [FU],rfl⟩
  ·obtain ⟨n,hn,hp⟩:=X6 h;exact ⟨_,hn,fun hg=>by grind [Q7d],rfl⟩
  ·cases h
 grind
theorem LN {R:Type} {g:Bool} {row:List D}:∀ {n off:Nat} {k:List AV->oP R} {r:R},Q1t g row off n k=some r ->
  ∃ cs:List D,k (cs.map .d)=some r/\cs.length=n/\(g=true->∀ j,j<n->row[off+j]? = cs[j]?)
 |0,off,k,r,h=>⟨[],by simpa [Q1t] using h,rfl,fun _ j hj=>by omega⟩
 |n+1,off,k,r,h=>by
  unfold Q1t at h;obtain ⟨c,hc,hp⟩:=X6 h;obtain ⟨cs,h1,h2,h3⟩:=LN hc;refine ⟨c::cs,by simpa using h1,by simp [h2],fun hg j hj=>?_⟩;cases j with
  |zero=>simpa using hp hg
  |succ j=>
   have:=h3 hg j Q0;rw [show off+(j+1)=off+1+j from Q0];simpa using this
theorem N5 {cells:List AV}:∀ {n off:Nat} {cs:List AV},BT cells off n=some cs->cs.length=n/\(∀ j,j<n->cells[off+j]? = cs[j]?)/\∀ (j:Nat) (c:AV),cs[j]? = some c->Q12 c=true
 |0,off,cs,h=>by
  simp [BT] at h;subst h;exact ⟨rfl,fun j hj=>by omega,fun j c hc=>by simp at hc⟩
 |n+1,off,cs,h=>by
  unfold BT at h;split at h
  ·rename_i c hc;split at h
   ·rename_i r hr;obtain ⟨h1,h2,h3⟩:=N5 hr;cases hn:Q12 c with
    |true=>
     simp [hn] at h;subst h;refine ⟨by simp [h1],fun j hj=>?_,fun j c' ac=>?_⟩
     ·cases j with
      |zero=>simpa using hc
      |succ j=>
       rw [show off+(j+1)=off+1+j from Q0];simpa using h2 j Q0
     ·cases j with
      |zero=>simp at ac;subst ac;exact hn
      |succ j=>exact h3 j c' (by simpa using ac)
    |false=>simp [hn] at h
   ·cases h
  ·cases h
theorem Q20:∀ {l:List AV},JS l=true->∀ t,Q0h t l=false
 |[],_,_=>rfl
 |.ptr ..::r,h,t=>by simp [Q0h,gds,Q20 (l:=r) (by simpa [JS] using h) t]
 |.d _::r,h,t=>by simp [Q0h,gds,Q20 (l:=r) (by simpa [JS] using h) t]
 |.top::_,h,_=>by simp [JS] at h
 |.nil::_,h,_=>by simp [JS] at h
 |.ag _::_,h,_=>by simp [JS] at h
 |.tup _::_,h,_=>by simp [JS] at h
 |.el ..::_,h,_=>by simp [JS] at h
 |.fs ..::_,h,_=>by simp [JS] at h
 |.mpd _::_,h,_=>by simp [JS] at h
 |.ex _::_,h,_=>by simp [JS] at h
 |.arr _::_,h,_=>by simp [JS] at h
 |.ap ..::_,h,_=>by simp [JS] at h
 |.gd ..::_,h,_=>by simp [JS] at h
 |.fn ..::_,h,_=>by simp [JS] at h
theorem Rm {av:AV} (h:Q12 av=true) (t:Nat):gds t av=false:=by
 cases av with
 |fn f l=>grind [gds,Q20,Q12]
 |_=>trivial
theorem RdA.any_tm {β:Nat->oP Nat} {S:Nat->Prop} {h:Nat->oP Ob} {w:World} {tm:Nat->Value} {v:Value} {av:AV} (hg:Q12 av=true)
  (hv:RdA β S h w tm0 v av):RdA β S h w tm v av:=by
 refine RdA.mono hv (fun _ hb=>hb) (fun _ _=>rfl) (fun l _=>⟨rfl,fun x=>x,fun e s rows hh=>.inr ⟨rows,hh,rfl⟩,fun b cs ty fz _ _ hw=>⟨cs,ty,fz,hw,rfl⟩,fun _ f hh=>.inr ⟨f,hh⟩⟩) (fun t ht=>?_)
 grind [Rm]
end
end Go.Vx
namespace Go.Vx
variable {w:World}
section
variable {P:Program} {E:Env} {R:Type}
theorem JC {b o:Nat} {cs:Array Value} {ty:TypeId} {fz:Nat×Nat} (h:w.heap[b]? = some (.cells cs ty fz)):w.cell? ⟨b,o,none⟩=cs[o]?:=by
 simp [World.cell?,h]
theorem K7 {t:Nat} {ti:TyI} (ht:TyOk P t ti) (hs:VH ti.kd=false) {a:Addr} {v:Value} (hc:w.cell? a=some v) :
  (loadVar t a).run P w = .ok v w:=by
 simp only [loadVar,Qob,ht.agg,hs,Qo7,Bool.false_eq_true,if_false,run_load,hc]
theorem Kl {t:Nat} {ti:TyI} (ht:TyOk P t ti) (hs:VH ti.kd=true) {a:Addr} {vs:List Value} (hl:vs.length=ti.size) (hc:∀ (j:Nat) (v:Value),vs[j]? = some v->w.cell? (a.add j)=some v) :
  (loadVar t a).run P w = .ok (.agg vs.toArray) w:=by
 have h1:=run_loadCells_list (P:=P) w a vs hc;rw [hl] at h1;simp only [loadVar,Qob,ht.agg,hs,Qo7,if_true,ht.size,h1];rfl
theorem Td {cs:Array Value} {i:Nat} (h:i<cs.size):cs[i]? = some (cs.getD i undef):=by
 simp_all
theorem FP {vs:List Value} {i:Nat} {v:Value} (h:vs[i]? = some v):vs.toArray.getD i undef=v:=by
 simp_all
theorem Hd {o:Oper} {t:TypeId} {x:Operand} (ho:o.op = .load t x) {a:Act} {ad:Addr} {v:Value} (hx:a.eval x = .pointer (some ad)) (hv:(loadVar t ad).run P w = .ok v w) :
  (execOp a.eval o).run P w = .ok (.value v) w:=by
 simp_all [execOp,Instr.loadAt,Instr.sureAddr]
theorem Q44 {S:Nat->Prop} {ad:Addr} {row:List D} {off:Nat} {c:Nat->Value} (hc:∀ (j:Nat) (x:D),row[off+j]? = some x->w.cell? (ad.add j)=some (c j))
  (hr:∀ (j:Nat) (x:D),row[off+j]? = some x->Rd S w (c j) x) {cs:List D} {n:Nat} (hn:cs.length=n) (ac:∀ j,j<n->row[off+j]? = cs[j]?) :
  ∃ vs:List Value,vs.length=n/\(∀ (j:Nat) (v:Value),vs[j]? = some v->w.cell? (ad.add j)=some v)/\∀ (j:Nat) (x:D),cs[j]? = some x->∃ v,vs[j]? = some v/\Rd S w v x:=by
 refine ⟨(List.range n).map c,by simp,fun j v hv=>?_,fun j x hx=>?_⟩
 all_goals grind
theorem Q9z {β:Nat->oP Nat} {S:Nat->Prop} {h:Nat->oP Ob} {tm:Nat->Value} {vs:List Value} {cs:List D} (hl:vs.length=cs.length)
  (hr:∀ (j:Nat) (x:D),cs[j]? = some x->∃ v,vs[j]? = some v/\Rd S w v x):RdA β S h w tm (.agg vs.toArray) (.ag (cs.map .d)):=by
 refine .ag _ _ (by simp [hl]) fun i x hx=>?_
 simp only [Qoi,Qod] at hx;obtain ⟨y,hy,rfl⟩:=hx;obtain ⟨v,hv,ac⟩:=hr i y hy;rw [FP hv];exact .d _ _ ac
theorem Q8Z {tt:TT} (hT:TOk P tt) {o:Oper} {t:TypeId} {x:Operand} (ho:o.op = .load t x) {g:Bool} {ev:Operand->AV} {hl:Nat->oP Ob} {k:Dl->oP R} {r:R}
  (h:Qey tt g hl t (ev x) k=some r):∃ dl,k dl=some r/\(g=true->KE P E o ev hl dl):=by
 have aj:x∈o.op.operands.toList:=by grind [Op.operands]
 unfold Qey at h;split at h
 case h_2=>cases h
 rename_i ti bn;have az:=hT t ti bn;split at h
 ·-- a box
  rename_i l off ar;split at h
  ·rename_i cells aw;cases hs:VH ti.kd with
   |true=>
    simp only [hs,Qoc] at h;split at h
    ·rename_i cs a5;refine ⟨_,h,fun _=>QE fun β S st a w hR hO hA=>?_⟩;obtain ⟨b,hb,hv⟩:=(ar▸hO.at aj).ptr_inv;have ak:look st.h l=some (.box cells):=by rw [hA l (.inl Q2)];exact aw
     obtain ⟨b',ty,vs,fz,ao,hw,_,bj,aq⟩:=hR.hr.ob l _ ak;obtain rfl:b=b':=by simp_all
     obtain ⟨h1,h2,h3⟩:=N5 a5;have au:∀ j,j<ti.size->off+j<vs.size:=fun j hj=>by
      grind
     refine ⟨_,Hd ho hv (Kl az hs (vs:=(List.range ti.size).map fun j=>vs.getD (off+j) undef) Q2 fun j v hv=>?_),?_⟩
     ·simp only [Qoi,Qod] at hv;obtain ⟨j',bm,rfl⟩:=hv;obtain ⟨ba,he⟩:=Qo8.1 bm;simp at ba he;subst he;rw [HQ,JC hw];exact Td (au j ba)
     ·refine .ag _ _ (by simp [h1]) fun i y hy=>?_
      have hi:i<ti.size:=by
       obtain ⟨h6,_⟩:=Qo8.1 hy;omega
      rw [FP (v:=vs.getD (off+i) undef) (by simp [hi])];exact (aq (off+i) y ((h2 i hi).trans hy)).any_tm (h3 i y hy)
    ·cases h
   |false=>
    simp only [hs,cond_false] at h;split at h
    ·rename_i c hc;obtain ⟨v,a4,a6,bi⟩:=Bu h;refine ⟨_,a4,fun hg=>QE fun β S st a w hR hO hA=>?_⟩;obtain ⟨b,hb,hv⟩:=(ar▸hO.at aj).ptr_inv;have ak:look st.h l=some (.box cells):=by rw [hA l (.inl Q2)];exact aw
     obtain ⟨b',ty,vs,fz,ao,hw,_,bj,aq⟩:=hR.hr.ob l _ ak;obtain rfl:b=b':=by rw [hb] at ao;injection ao
     have au:off<vs.size:=by
      obtain ⟨h6,_⟩:=Qo8.1 hc;omega
     refine ⟨_,Hd ho hv (K7 az hs (by rw [JC hw];exact Td au)),?_⟩;rw [a6 hg];exact (aq off c hc).any_tm bi
    ·cases h
  ·cases h
 ·-- a row of data
  rename_i row off ar;cases hs:VH ti.kd with
  |true=>
   simp only [hs,Qoc] at h;obtain ⟨cs,hk,a3,a5⟩:=LN h;refine ⟨_,hk,fun hg=>QE fun β S st a w hR hO hA=>?_⟩;obtain ⟨ad,c,hv,_,hc,hr⟩:=(ar▸hO.at aj).el_inv;obtain ⟨vs,h1,h2,h3⟩:=Q44 hc hr a3 (a5 hg);exact ⟨_,Hd ho hv (Kl az hs h1 h2),Q9z Q0 h3⟩
  |false=>
   simp only [hs,cond_false] at h;obtain ⟨c0,h,a7⟩:=X6 h;obtain ⟨v,a4,a6,_⟩:=Bu h;refine ⟨_,a4,fun hg=>QE fun β S st a w hR hO hA=>?_⟩;obtain ⟨ad,c,hv,_,hc,hr⟩:=(ar▸hO.at aj).el_inv;refine ⟨_,Hd ho hv (K7 az hs (v:=c 0) ?_),?_⟩
   ·have:=hc 0 c0 (a7 hg);simpa [Addr.add] using this
   ·rw [a6 hg];exact .d _ _ (hr 0 c0 (a7 hg))
 ·-- an array of the call's own
  rename_i l i off ar;split at h
  ·rename_i e s rows a8;obtain ⟨row,h,a9⟩:=X6 h;cases hs:VH ti.kd with
   |true=>
    simp only [hs,Qoc] at h;obtain ⟨cs,hk,a3,a5⟩:=LN h;refine ⟨_,hk,fun hg=>QE fun β S st a w hR hO hA=>?_⟩;have ak:look st.h l=some (.arr e s rows):=by rw [hA l (.inl Q2)];exact a8
    obtain ⟨b,hb,hv⟩:=RdA.ap_inv ak (ar▸hO.at aj);have ac:=a9 hg;rcases hR.hr.ob l _ ak with ⟨_,hn⟩ | ⟨b',vs,ao,hw,_,bl,aq⟩
    ·subst hn;simp at ac
    obtain rfl:b=b':=by rw [hb] at ao;injection ao
    obtain ⟨bo,h1,h2,h3⟩:=Q44 (S:=S) (w:=w) (ad:=⟨b,i*s+off,none⟩) (row:=row) (off:=off) (c:=fun j=>vs.getD (i*s+(off+j)) undef)
     (fun j x hx=>by
      obtain ⟨v,bg,_⟩:=aq i (off+j) row x ac hx;rw [HQ,JC hw,QoC];obtain ⟨au,_⟩:=Qom.1 bg;exact Td au)
     (fun j x hx=>by
      obtain ⟨v,bg,bb⟩:=aq i (off+j) row x ac hx;obtain ⟨au,he⟩:=Qom.1 bg;have:vs.getD (i*s+(off+j)) undef=v:=by simp [Array.getD,au,he]
      rw [this];exact bb) a3 (a5 hg)
    exact ⟨_,Hd ho hv (Kl az hs h1 h2),Q9z Q0 h3⟩
   |false=>
    simp only [hs,cond_false] at h;obtain ⟨c0,h,a7⟩:=X6 h;obtain ⟨v,a4,a6,_⟩:=Bu h;refine ⟨_,a4,fun hg=>QE fun β S st a w hR hO hA=>?_⟩;have ak:look st.h l=some (.arr e s rows):=by rw [hA l (.inl Q2)];exact a8
    obtain ⟨b,hb,hv⟩:=RdA.ap_inv ak (ar▸hO.at aj);have ac:=a9 hg;rcases hR.hr.ob l _ ak with ⟨_,hn⟩ | ⟨b',vs,ao,hw,_,bl,aq⟩
    ·subst hn;simp at ac
    obtain rfl:b=b':=by rw [hb] at ao;injection ao
    obtain ⟨u,hu,bb⟩:=aq i off row c0 ac (a7 hg);refine ⟨_,Hd ho hv (K7 az hs (v:=u) ?_),?_⟩
    ·rw [JC hw];exact hu
    ·rw [a6 hg];exact .d _ _ bb
  ·cases h
 ·cases h
end
end Go.Vx
namespace Go.Vx
variable {hl:Nat->oP Ob} {ev:Operand->AV} {w:World} {o:Oper} {tt:TT} {t:TypeId} {x:Operand}
section
variable {P:Program} {E:Env} {R:Type}
theorem Q4c (ho:o.op = .move x\/o.op = .assign x):KE P E o ev hl ⟨ev x,[],[]⟩:=by
 refine QE fun β S st a w hR hO hA=>⟨a.eval x,?_,hO.at (by grind [Op.operands])⟩
 unfold execOp;rcases ho with ho | ho <;> rw [ho] <;> simp
theorem M1 (ho:o.op = .nilCheck x) {a:Act} {ad:Addr} (ac:a.eval x = .pointer (some ad)) :
  (execOp a.eval o).run P w = .ok (.value (.pointer (some ad))) w:=by
 simp_all [execOp]
theorem D3 (ho:o.op = .nilCheck x) {l f:Nat} (hv:ev x = .ptr l f):KE P E o ev hl ⟨.ptr l f,[],[]⟩:=by
 refine QE fun β S st a w hR hO hA=>?_
 have hx:=hv▸hO.at (x:=x) (by grind [Op.operands]);obtain ⟨b,_,h⟩:=hx.ptr_inv
 grind [M1]
theorem CH (ho:o.op = .nilCheck x) {l:List D} {f:Nat} (hv:ev x = .el l f):KE P E o ev hl ⟨.el l f,[],[]⟩:=by
 refine QE fun β S st a w hR hO hA=>?_
 have hx:=hv▸hO.at (x:=x) (by grind [Op.operands]);obtain ⟨b,_,h,_⟩:=hx.el_inv
 grind [M1]
theorem RdA.ap_ptr {β:Nat->oP Nat} {S:Nat->Prop} {h:Nat->oP Ob} {tm:Nat->Value} {v:Value} {l i off:Nat} (hh:(h l).isSome=true) (hv:RdA β S h w tm v (.ap l i off)):∃ ad,v = .pointer (some ad):=by
 cases hv with
 |ap _ _ _ b e s rows hb hh=>simp_all
 |dang _ _ l' hl hn _=>grind [Mp]
theorem CV (ho:o.op = .nilCheck x) {l i f:Nat} (hs:(hl l).isSome=true) (hv:ev x = .ap l i f):KE P E o ev hl ⟨.ap l i f,[],[l]⟩:=by
 refine QE fun β S st a w hR hO hA=>?_
 have hx:=hv▸hO.at (x:=x) (by grind [Op.operands]);obtain ⟨ad,h⟩:=hx.ap_ptr (by rw [hA l (.inl Q2)];exact hs)
 grind [M1]
theorem Q9u {op:UnOp} (ho:o.op = .unOp op t x) {a:Act} {u v:Value} (hx:a.eval x=u) (h:(Op.unary op u).run P w = .ok v w) :
  (execOp a.eval o).run P w = .ok (.value v) w:=by
 simp_all [execOp]
theorem QeA {op:UnOp} (ho:o.op = .unOp op t x) {v:AV} (h:vUn op (ev x)=some v) :
  KE P E o ev hl ⟨v,[],[]⟩:=by
 refine QE fun β S st a w hR hO hA=>?_
 have hx:=hO.at (x:=x) (by grind [Op.operands]);unfold vUn at h;split at h
 ·rename_i b hb;cases h;rw [hb] at hx;exact ⟨.bool (!b),Q9u ho hx.bool_inv (by rfl),.d _ _ (.bool _)⟩
 ·rename_i k n hb;cases h;rw [hb] at hx;exact ⟨.int k (k.wrap (0-n)),Q9u ho hx.int_inv (by rfl),.d _ _ (.int _ _)⟩
 ·rename_i k n hb;cases h;rw [hb] at hx;exact ⟨.int k (Qfm k n),Q9u ho hx.int_inv (by rfl),.d _ _ (.int _ _)⟩
 ·cases h
theorem NM (op:BinOp) (t:TypeId) (x y:Operand) (k k':IntKind) (a b:Int) (w:World):(eqGuard op t x y (.int k a) (.int k' b)).run P w = .ok () w:=by
 simp [eqGuard]
theorem Nj (op:BinOp) (t:TypeId) (x y:Operand) (a b:Bool) (w:World):(eqGuard op t x y (.bool a) (.bool b)).run P w = .ok () w:=by
 simp [eqGuard]
theorem DE {op:BinOp} {t t':TypeId} {x y:Operand} (ho:o.op = .binOp op t x y t') {a:Act} {u u' v:Value} (hx:a.eval x=u) (hy:a.eval y=u')
  (hg:(eqGuard op t x y u u').run P w = .ok () w) (h:(binOp op t u u').run P w = .ok v w) :
  (execOp a.eval o).run P w = .ok (.value v) w:=by
 simp_all [execOp]
theorem Nt (d:Nat) (hu:P.underlying t=some .bool) (a b:Bool) (w:World):(Op.equalIn (d+1) t (.bool a) (.bool b)).run P w = .ok (a == b) w:=by
 simp_all [Op.equalIn,Qob,X5,Qo7]
theorem Q3N (hu:P.underlying t=some .bool) (a b:Bool) (w:World):(binOp .eql t (.bool a) (.bool b)).run P w = .ok (.bool (a == b)) w:=by
 simp_all [binOp,Op.equal,Op.maxDepth,Qob,Nt,Qo7]
theorem Q50 (hu:P.underlying t=some .bool) (a b:Bool) (w:World):(binOp .neq t (.bool a) (.bool b)).run P w = .ok (.bool (!(a == b))) w:=by
 simp_all [binOp,Op.equal,Op.maxDepth,Qob,Nt,Qo7]
theorem RdA.gd_inv {β:Nat->oP Nat} {S:Nat->Prop} {h:Nat->oP Ob} {tm:Nat->Value} {v:Value} {t:Nat} {b:Bool} {av:AV} (hv:RdA β S h w tm v (.gd t b av)) :
  (tm t = .bool b/\RdA β S h w tm v av)\/(tm t≠.bool b/\v=undef):=by
 cases hv with
 |gdT _ _ _ _ ht hv=>simp_all
 |gdF _ _ _ ht=>simp_all
 |dang _ _ l hl _ _=>trivial
def dv:D->Value
 |.int k n=>.int k n
 |.bool b=>.bool b
 |_=>undef
theorem Q8r {op:BinOp} {k:IntKind} {a b:Int} {d:D} (h:Q77 op k a b=some d) (t:TypeId) (w:World) (S:Nat->Prop):∃ v,(binOp op t (.int k a) (.int k b)).run P w = .ok v w/\Rd S w v d:=by
 refine ⟨dv d,?_,?_⟩
 ·cases op <;> simp only [Q77,Option.some.injEq,reduceCtorEq] at h <;> subst h <;> simp [binOp,Op.intArith,Op.intCmp,dv]
 ·cases op <;> simp only [Q77,Option.some.injEq,reduceCtorEq] at h <;> subst h <;> first | exact .int _ _ | exact .bool _
theorem XR {t:Nat} {kd:Kd} (h:Pz tt t=kd) (hn:kd≠.other):∃ ti,look tt t=some ti/\ti.kd=kd:=by
 grind [Pz,absurd]
theorem BO (op:BinOp) (t:TypeId) (x y:Operand) (a b:ByteArray) (w:World):(eqGuard op t x y (.string a) (.string b)).run P w = .ok () w:=by
 simp [eqGuard]
theorem Q7w:∀ (l:List Bool),Qbc l=l.all id
 |[]=>rfl
 |[b]=>by simp [Qbc]
 |b::c::r=>by rw [show Qbc (b::c::r)=(b&&Qbc (c::r)) from rfl,Q7w (c::r)];simp
theorem Ab {g:Bool}:∀ {ks:List Kd} {xs ys:List AV} {k:List Bool->oP R} {r:R},Q54 g ks xs ys k=some r->∃ bs,k bs=some r/\bs.length=ks.length/\xs.length=ks.length/\ys.length=ks.length /\
  (g=true->∀ (β:Nat->oP Nat) (S:Nat->Prop) (h:Nat->oP Ob) (w:World) (tm:Nat->Value) (us vs:Nat->Value),(∀ (i:Nat) (x:AV),xs[i]? = some x->RdA β S h w tm (us i) x)->(∀ (i:Nat) (x:AV),ys[i]? = some x->RdA β S h w tm (vs i) x) ->
   ∀ (j:Nat) (kd:Kd) (b:Bool),ks[j]? = some kd->bs[j]? = some b->CEq kd (us j) (vs j) b)
 |[],[],[],k,r,h=>⟨[],h,rfl,rfl,rfl,fun _ _ _ _ _ _ _ _ _ _ j kd b hj=>by simp at hj⟩
 |kd::ks,x::xs,y::ys,k,r,h=>by
  cases x with
  |d a=>
   cases y with
   |d b=>
    have ao:∀ (c:Bool),Q54 g ks xs ys (fun r=>k (c::r))=some r->(g=true->∀ (β:Nat->oP Nat) (S:Nat->Prop) (h:Nat->oP Ob) (w:World) (tm:Nat->Value) (u v:Value),RdA β S h w tm u (.d a)->RdA β S h w tm v (.d b)->CEq kd u v c) ->
      ∃ bs,k bs=some r/\bs.length=(kd::ks).length/\(AV.d a::xs).length=(kd::ks).length/\(AV.d b::ys).length=(kd::ks).length /\
      (g=true->∀ (β:Nat->oP Nat) (S:Nat->Prop) (h:Nat->oP Ob) (w:World) (tm:Nat->Value) (us vs:Nat->Value),(∀ (i:Nat) (x:AV),(AV.d a::xs)[i]? = some x->RdA β S h w tm (us i) x)->(∀ (i:Nat) (x:AV),(AV.d b::ys)[i]? = some x->RdA β S h w tm (vs i) x) ->
       ∀ (j:Nat) (an:Kd) (b:Bool),(kd::ks)[j]? = some an->bs[j]? = some b->CEq an (us j) (vs j) b):=by
     intro c hc hq;obtain ⟨bs,h1,h2,h3,h4,h5⟩:=Ab hc;refine ⟨c::bs,h1,by simp [h2],by simp [h3],by simp [h4],fun hg β S hh w tm us vs hu hv j an b' hj hb=>?_⟩;cases j with
     |zero=>simp at hj hb;subst hj hb;exact hq hg β S hh w tm _ _ (hu 0 _ rfl) (hv 0 _ rfl)
     |succ j=>exact h5 hg β S hh w tm (fun i=>us (i+1)) (fun i=>vs (i+1)) (fun i x hx=>hu (i+1) x Q4) (fun i x hx=>hv (i+1) x (by simpa using hx)) j an b' (by simpa using hj) (by simpa using hb)
    cases kd with
    |int ik=>
     simp only [Q54] at h;obtain ⟨m,h,hm⟩:=X6 h;obtain ⟨n,h,hn⟩:=X6 h;refine ao _ h fun hg β S hh w tm u v hu hv=>?_
     rw [E7 (hm hg)] at hu;rw [E7 (hn hg)] at hv;exact ⟨m,n,hu.int_inv,hv.int_inv,rfl⟩
    |bool=>
     simp only [Q54] at h;obtain ⟨m,h,hm⟩:=X6 h;obtain ⟨n,h,hn⟩:=X6 h;refine ao _ h fun hg β S hh w tm u v hu hv=>?_
     rw [MZ (hm hg)] at hu;rw [MZ (hn hg)] at hv;exact ⟨m,n,hu.bool_inv,hv.bool_inv,rfl⟩
    |str=>
     simp only [Q54] at h;obtain ⟨m,h,hm⟩:=X6 h;obtain ⟨n,h,hn⟩:=X6 h;refine ao _ h fun hg β S hh w tm u v hu hv=>?_
     rw [FU (hm hg)] at hu;rw [FU (hn hg)] at hv;obtain ⟨s,rfl,rfl⟩:=hu.str_inv;obtain ⟨t,rfl,rfl⟩:=hv.str_inv;exact ⟨s,t,rfl,rfl,rfl⟩
    |_=>simp [Q54] at h
   |_=>simp [Q54] at h
  |_=>simp [Q54] at h
 |[],[],_::_,k,r,h=>by simp [Q54] at h
 |[],_::_,_,k,r,h=>by simp [Q54] at h
 |_::_,[],_,k,r,h=>by simp [Q54] at h
 |_::_,_::_,[],k,r,h=>by simp [Q54] at h
theorem Qb7 {op:BinOp} {t t':TypeId} {x y:Operand} (ho:o.op = .binOp op t x y t') {g:Bool} {k:Dl->oP R} {r:R} {a0 b0:List UInt8} (ar:ev x = .d (.str a0)) (an:ev y = .d (.str b0))
  (h:QhK g op a0 b0 (fun v=>k ⟨v,[],[]⟩)=some r):∃ dl,k dl=some r/\(g=true->KE P E o ev hl dl):=by
 have aq:x∈o.op.operands.toList:=by grind [Op.operands]
 have ao:y∈o.op.operands.toList:=by simp [ho,Op.operands]
 have ac:∀ (d:D) (v:ByteArray->ByteArray->Value),k ⟨.d d,[],[]⟩=some r->(g=true->∀ (s u:ByteArray) (w:World) (S:Nat->Prop),s.data.toList=a0->u.data.toList=b0->(Op.stringOp op s u).run P w = .ok (v s u) w/\Rd S w (v s u) d)->∃ dl,k dl=some r/\(g=true->KE P E o ev hl dl):=by
  intro d v hk hr;refine ⟨_,hk,fun hg=>QE fun β S st a w hR hO hA=>?_⟩;obtain ⟨s,hs,hx⟩:=(ar▸hO.at aq).str_inv;obtain ⟨u,hu,hy⟩:=(an▸hO.at ao).str_inv;obtain ⟨h1,h2⟩:=hr hg s u w S hs.symm hu.symm;refine ⟨_,DE ho hx hy (BO ..) ?_,.d _ _ h2⟩
  grind [binOp,Op.stringOp]
 cases op <;> simp only [QhK,reduceCtorEq] at h
 ·obtain ⟨_,h,hp⟩:=X6 h;refine ac _ (fun s u=>.string (s++u)) h fun hg s u w S hs hu=>⟨?_,?_⟩
  ·have hp:=hp hg;unfold Q9X at hp;cases hb:Nat.ble (a0.length+b0.length) 9223372036854775807 with
   |false=>simp_all
   |true=>
    have:=Qoj hb;refine run_string_add_sum w s u ?_;rw [<- hs,<- hu,Qol,Qol] at this;exact this
  ·have:(s++u).data.toList=a0++b0:=by simp_all
   rw [<- this];exact .str _
 ·exact ac _ (fun s u=>.bool (s.toList == u.toList)) h fun hg s u w S hs hu=>⟨by rfl,by rw [Qof,Qof,hs,hu];exact .bool _⟩
 ·exact ac _ (fun s u=>.bool (!(s.toList == u.toList))) h fun hg s u w S hs hu=>⟨by simp [Op.stringOp],by rw [Qof,Qof,hs,hu];exact .bool _⟩
 ·exact ac _ (fun s u=>.bool (Op.bytesLess s.toList u.toList)) h fun hg s u w S hs hu=>⟨by simp [Op.stringOp],by rw [Qof,Qof,hs,hu];exact .bool _⟩
 ·exact ac _ (fun s u=>.bool (Op.bytesLess s.toList u.toList||s.toList == u.toList)) h fun hg s u w S hs hu=>⟨by simp [Op.stringOp],by rw [Qof,Qof,hs,hu];exact .bool _⟩
 ·exact ac _ (fun s u=>.bool (!(Op.bytesLess s.toList u.toList||s.toList == u.toList))) h fun hg s u w S hs hu=>⟨by simp [Op.stringOp],by rw [Qof,Qof,hs,hu];exact .bool _⟩
 ·exact ac _ (fun s u=>.bool (!Op.bytesLess s.toList u.toList)) h fun hg s u w S hs hu=>⟨by simp [Op.stringOp],by rw [Qof,Qof,hs,hu];exact .bool _⟩
theorem Qby (hT:TOk P tt) {op:BinOp} {t t':TypeId} {x y:Operand} (ho:o.op = .binOp op t x y t') {g:Bool} {k:Dl->oP R} {r:R}
  (h:Qie g op (Pz tt t) (QdS tt t) (ev x) (ev y) (fun v=>k ⟨v,[],[]⟩)=some r):∃ dl,k dl=some r/\(g=true->KE P E o ev hl dl):=by
 have au:x∈o.op.operands.toList:=by grind [Op.operands]
 have ar:y∈o.op.operands.toList:=by simp [ho,Op.operands]
 unfold Qie at h;split at h
 ·rename_i ka a0 kb b0 aj ac;have an:∀ (d:Int),k ⟨.d (.int ka d),[],[]⟩=some r->(g=true->∀ w:World,(binOp op t (.int ka a0) (.int kb b0)).run P w = .ok (.int ka d) w)->∃ dl,k dl=some r/\(g=true->KE P E o ev hl dl):=by
   intro d hk hr;refine ⟨_,hk,fun hg=>QE fun β S st a w hR hO hA=>?_⟩;have hx:=(aj▸hO.at au).int_inv;have hy:=(ac▸hO.at ar).int_inv;exact ⟨_,DE ho hx hy (NM ..) (hr hg w),.d _ _ (.int _ _)⟩
  have a9:∀ {u:Unit},Ap b0=some u->0<=b0:=by
   grind [Ap]
  split at h
  ·obtain ⟨_,h,hp⟩:=X6 h;refine an _ h fun hg w=>?_
   have h0:=a9 (hp hg);have:¬ b0<0:=Q0
   simp [binOp,Op.shift,this,shL]
  ·obtain ⟨_,h,hp⟩:=X6 h;refine an _ h fun hg w=>?_
   have h0:=a9 (hp hg);have:¬ b0<0:=Q0
   simp [binOp,Op.shift,this,shR]
  ·rename_i bp bl;cases hk:(ka == kb) with
   |false=>simp [hk] at h
   |true=>
    obtain rfl:ka=kb:=by simpa using hk
    simp only [hk,Qoc] at h;split at h
    ·obtain ⟨_,h,hp⟩:=X6 h;refine an _ h fun hg w=>?_
     have a3:¬ b0=0:=by
      intro e;subst e;simp [nz] at hp;exact absurd hp (by simp [hg])
     simp [binOp,Op.intDiv,a3]
    ·obtain ⟨_,h,hp⟩:=X6 h;refine an _ h fun hg w=>?_
     have a3:¬ b0=0:=by
      intro e;subst e;simp [nz] at hp;exact absurd hp (by simp [hg])
     simp [binOp,Op.intDiv,a3]
    ·exact an _ h fun hg w=>by simp [binOp,Op.intBits,Q7g]
    ·exact an _ h fun hg w=>by simp [binOp,Op.intBits,bOr]
    ·exact an _ h fun hg w=>by simp [binOp,Op.intBits,Qhy]
    ·exact an _ h fun hg w=>by simp [binOp,Op.intBits,Q8I]
    ·split at h
     ·rename_i d hd;refine ⟨_,h,fun hg=>QE fun β S st a w hR hO hA=>?_⟩;have hx:=(aj▸hO.at au).int_inv;have hy:=(ac▸hO.at ar).int_inv;obtain ⟨v,hv,hr⟩:=Q8r (P:=P) hd t w S;exact ⟨v,DE ho hx hy (NM ..) hv,.d _ _ hr⟩
     ·cases h
 ·rename_i a0 b0 aj ac;split at h
  ·rename_i a2;obtain ⟨ti,ao,aw⟩:=XR a2 Q2;have hu:=(hT t ti ao).kbool aw;refine ⟨_,h,fun hg=>QE fun β S st a w hR hO hA=>?_⟩;have hx:=(aj▸hO.at au).bool_inv;have hy:=(ac▸hO.at ar).bool_inv;exact ⟨.bool (a0 == b0),DE ho hx hy (Nj ..) (Q3N hu ..),.d _ _ (.bool _)⟩
  ·rename_i a2;obtain ⟨ti,ao,aw⟩:=XR a2 Q2;have hu:=(hT t ti ao).kbool aw;refine ⟨_,h,fun hg=>QE fun β S st a w hR hO hA=>?_⟩;have hx:=(aj▸hO.at au).bool_inv;have hy:=(ac▸hO.at ar).bool_inv;exact ⟨.bool (!(a0 == b0)),DE ho hx hy (Nj ..) (Q50 hu ..),.d _ _ (.bool _)⟩
  ·cases h
 ·rename_i a0 b0 aj ac;exact Qb7 ho aj ac h
 ·rename_i xs ys aj ac;split at h
  case h_2=>cases h
  rename_i ks az;obtain ⟨ti,ao,bg⟩:∃ ti,look tt t=some ti/\ti.eqk=some ks:=by
   unfold QdS at az;split at az
   ·rename_i ti ao;exact ⟨ti,ao,az⟩
   ·cases az
  have hE:=(hT t ti ao).keq ks bg;have a8:∀ (c:Bool->Bool) (bs:List Bool),k ⟨.d (.bool (c (Qbc bs))),[],[]⟩=some r->bs.length=ks.length->xs.length=ks.length->ys.length=ks.length ->
    (∀ (u v:Array Value) (w:World) (b:Bool),(Op.equalIn 10000 t (.agg u) (.agg v)).run P w = .ok b w->(binOp op t (.agg u) (.agg v)).run P w = .ok (.bool (c b)) w) ->
    (g=true->∀ (β:Nat->oP Nat) (S:Nat->Prop) (h:Nat->oP Ob) (w:World) (tm:Nat->Value) (us vs:Nat->Value),(∀ (i:Nat) (x:AV),xs[i]? = some x->RdA β S h w tm (us i) x)->(∀ (i:Nat) (x:AV),ys[i]? = some x->RdA β S h w tm (vs i) x) ->
     ∀ (j:Nat) (kd:Kd) (b:Bool),ks[j]? = some kd->bs[j]? = some b->CEq kd (us j) (vs j) b)->∃ dl,k dl=some r/\(g=true->KE P E o ev hl dl):=by
   intro c bs hk h2 h3 h4 a7 h5;refine ⟨_,hk,fun hg=>QE fun β S st a w hR hO hA=>?_⟩;obtain ⟨us,hx,br,bi⟩:=(aj▸hO.at au).ag_inv;obtain ⟨vs,hy,bo,bb⟩:=(ac▸hO.at ar).ag_inv;obtain ⟨e1,e2⟩:=hE w us vs bs Q0 Q0 h2 (h5 hg β S _ w _ (fun j=>us.getD j undef) (fun j=>vs.getD j undef) bi bb);refine ⟨.bool (c (Qbc bs)),DE ho hx hy (run_eqGuard_agg w op t x y us vs e2) ?_,.d _ _ (.bool _)⟩;rw [Q7w];exact a7 us vs w _ e1
  split at h
  ·obtain ⟨bs,h1,h2,h3,h4,h5⟩:=Ab h;exact a8 (fun b=>b) bs h1 h2 h3 h4 (fun u v w b hb=>by rw [run_eql_struct,hb];rfl) h5
  ·obtain ⟨bs,h1,h2,h3,h4,h5⟩:=Ab h;exact a8 (fun b=>!b) bs h1 h2 h3 h4 (fun u v w b hb=>by rw [run_neq_struct,hb];rfl) h5
  ·cases h
 ·cases h
theorem Q55 (hT:TOk P tt) {s t:TypeId} (ho:o.op = .convert s t x) {ks kd kn:IntKind} {n:Int}
  (hs:Pz tt s = .int ks) (ht:Pz tt t = .int kd) (hx:ev x = .d (.int kn n)):KE P E o ev hl ⟨.d (.int kd (kd.wrap n)),[],[]⟩:=by
 obtain ⟨ti,ao,an⟩:=XR hs Q2;obtain ⟨ak,aj,ac⟩:=XR ht Q2;have ay:=(hT s ti ao).kint _ an;have ax:=(hT t ak aj).kint _ ac;refine QE fun β S st a w hR hO hA=>?_
 have hv:=(hx▸hO.at (x:=x) (by simp [ho,Op.operands])).int_inv;refine ⟨_,?_,.d _ _ (.int _ _)⟩
 simp_all [execOp,convert,X5,Conv.intToInt]
theorem Q2N (hT:TOk P tt) {s t:TypeId} (ho:o.op = .convert s t x) {n:List UInt8}
  (hs:Pz tt s = .str) (ht:Pz tt t = .str) (hx:ev x = .d (.str n)):KE P E o ev hl ⟨.d (.str n),[],[]⟩:=by
 obtain ⟨ti,ao,an⟩:=XR hs Q2;obtain ⟨ak,aj,ac⟩:=XR ht Q2;have aw:=(hT s ti ao).kstr an;have au:=(hT t ak aj).kstr ac;refine QE fun β S st a w hR hO hA=>?_
 obtain ⟨bs,hn,hv⟩:=(hx▸hO.at (x:=x) (by simp [ho,Op.operands])).str_inv;refine ⟨.string bs,?_,.d _ _ (by rw [hn];exact .str _)⟩
 simp_all [execOp,convert,X5]
theorem Q47 {i:Nat} (ho:o.op = .extract x i) {l:List AV} {v:AV} (hx:ev x = .tup l) (hv:l[i]? = some v) :
  KE P E o ev hl ⟨v,[],[]⟩:=by
 refine QE fun β S st a w hR hO hA=>?_
 obtain ⟨cs,he,ak,hr⟩:=(hx▸hO.at (x:=x) (by grind [Op.operands])).tup_inv;refine ⟨_,?_,hr i v hv⟩;have ac:i<cs.size:=by
  grind
 simp_all [Td,execOp,Instr.extract,Qob]
theorem Q8Q {s:Nat} {x y:Operand} (ho:o.op = .pick (.tmp s) x y) {e a0 b0:Bool}
  (he:ev (.tmp s) = .d (.bool e)) (hx:unw [(s,true)] (ev x) = .d (.bool a0)) (hy:unw [(s,false)] (ev y) = .d (.bool b0)) :
  KE P E o ev hl ⟨.d (.bool (bif e then a0 else b0)),[],[]⟩:=by
 refine QE fun β S st a w hR hO hA=>?_
 have hc:=(he▸hO.at (x:=.tmp s) (by grind [Op.operands])).bool_inv;have hX:=hO.at (x:=x) (by simp [ho,Op.operands]);have hY:=hO.at (x:=y) (by simp [ho,Op.operands]);have aj:∀ (z:Operand) (t c:Bool),unw [(s,t)] (ev z) = .d (.bool c)->RdA β S (look st.h) w (tmv a) (a.eval z) (ev z)->e=t->a.eval z = .bool c:=by
  intro z t c hu hz ax;cases ac:ev z with
  |gd s' w' av=>
   rw [ac] at hu hz;simp only [unw,Qei,Bool.or_false] at hu;cases hm:(Nat.beq s s'&&(t == w')) with
   |false=>simp_all
   |true=>
    simp only [hm,Qoc] at hu;simp only [Qo9,beq_iff_eq] at hm;obtain ⟨h1,rfl⟩:=hm;obtain rfl:=Qoa h1;subst hu;have a2:tmv a s = .bool t:=by
     have:tmv a s=a.eval (.tmp s):=rfl
     simp_all
    rcases hz.gd_inv with ⟨_,hv⟩ | ⟨aq,_⟩
    ·exact hv.bool_inv
    simp_all
  |d x'=>rw [ac] at hu hz;simp only [unw] at hu;rw [hu] at hz;exact hz.bool_inv
  |_=>rw [ac] at hu;simp [unw] at hu
 refine ⟨.bool (bif e then a0 else b0),?_,.d _ _ (.bool _)⟩;unfold execOp;rw [ho];cases e with
 |true=>simp [hc,asBool,aj x true a0 hx hX rfl]
 |false=>simp [hc,asBool,aj y false b0 hy hY rfl]
theorem Q93 {kd:Kd} (h:RL kd=true):kd = .struct:=by cases kd <;> simp [RL] at h;rfl
theorem Q6C (hT:TOk P tt) {t f off ft:Nat} {ti:TyI} (aj:look tt t=some ti) (hs:RL ti.kd=true) (hf:ti.fields[f]? = some (off,ft)) :
  ∃ fs fd,P.underlying t=some (.struct fs)/\fs[f]? = some fd/\fd.offset=off/\fd.type=ft/\∃ i,P.info? fd.type=some i/\i.size≠0:=by
 obtain ⟨fs,hu,ak,ao⟩:=(hT t ti aj).kstruct (Q93 hs);rw [<- ak,Qoi,Qod] at hf;obtain ⟨fd,an,he⟩:=hf;injection he with he1 he2
 exact ⟨fs,fd,hu,by simp_all,he1,he2,ao fd (Qog an)⟩
theorem Q0u (hT:TOk P tt) {f:Nat} (ho:o.op = .fieldAddr t x f) {k:Dl->oP R} {r:R}
  (h:DP tt hl t f (ev x) k=some r):∃ dl,k dl=some r/\KE P E o ev hl dl:=by
 have ak:x∈o.op.operands.toList:=by grind [Op.operands]
 unfold DP at h;split at h
 case h_2=>cases h
 rename_i ti ar;cases hs:RL ti.kd with
 |false=>simp_all
 |true=>
  simp only [hs,Qoc] at h;split at h
  case h_2=>cases h
  rename_i off ft hf;obtain ⟨fs,fd,hu,a2,au,_,i,hi,aw⟩:=Q6C hT ar hs hf;have aj:∀ (a:Act) (w:World) (ad:Addr),a.eval x = .pointer (some ad)->(execOp a.eval o).run P w = .ok (.value (.pointer (some (ad.add off)))) w:=by
   simp_all [execOp,Instr.fieldAt,X5,Instr.sureAddr,fieldPlace,sizeOf,YI]
  split at h
  ·rename_i l o' ac;refine ⟨_,h,QE fun β S st a w hR hO hA=>?_⟩;obtain ⟨b,hb,hx⟩:=(ac▸hO.at ak).ptr_inv;exact ⟨_,aj a w _ hx,by rw [HQ];exact .ptr _ _ _ hb⟩
  ·rename_i row o' ac;refine ⟨_,h,QE fun β S st a w hR hO hA=>?_⟩;obtain ⟨ad,c,hx,hS,hc,hr⟩:=(ac▸hO.at ak).el_inv;refine ⟨_,aj a w _ hx,.el _ _ _ (fun j=>c (off+j)) (by rw [JY];exact hS) (fun j y hy=>?_) (fun j y hy=>?_)⟩
   all_goals grind [BN,Nat.add_assoc]
  ·rename_i l i' o' ac;split at h
   ·rename_i e s rows ao;refine ⟨_,h,QE fun β S st a w hR hO hA=>?_⟩;have aq:look st.h l=some (.arr e s rows):=by rw [hA l (.inl Q2)];exact ao
    obtain ⟨b,hb,hx⟩:=RdA.ap_inv aq (ac▸hO.at ak);exact ⟨_,aj a w _ hx,by rw [HQ,QoC];exact .ap _ _ _ _ _ _ _ hb aq⟩
   ·cases h
  ·cases h
theorem Q3l {t:Nat} {ti:TyI} (ht:TyOk P t ti) (hs:VH ti.kd=false) {cs:Array Value} {off:Nat} {v:Value} (hc:cs[off]? = some v) :
  (part t cs off).run P w = .ok v w:=by
 simp only [part,Qob,ht.agg,hs,Qo7,Bool.false_eq_true,if_false,hc];rfl
theorem Q3o {t:Nat} {ti:TyI} (ht:TyOk P t ti) (hs:VH ti.kd=true) {cs:Array Value} {off:Nat} :
  (part t cs off).run P w = .ok (.agg (cs.extract off (off+ti.size))) w:=by
 simp only [part,Qob,ht.agg,hs,Qo7,if_true,ht.size];rfl
theorem Q8i (hT:TOk P tt) {f:Nat} (ho:o.op = .field t x f) {g:Bool} {k:Dl->oP R} {r:R}
  (h:QaF tt g t f (ev x) k=some r):∃ dl,k dl=some r/\(g=true->KE P E o ev hl dl):=by
 have ao:x∈o.op.operands.toList:=by grind [Op.operands]
 unfold QaF at h;split at h
 case h_2=>cases h
 rename_i ti a3;cases hs:RL ti.kd with
 |false=>simp_all
 |true=>
  simp only [hs,Qoc] at h;split at h
  case h_2=>cases h
  rename_i off ft hf;obtain ⟨fs,fd,hu,bk,bb,bj,i,hi,bc⟩:=Q6C hT a3 hs hf;split at h
  case h_2=>cases h
  rename_i fi a5;have ak:=hT ft fi a5;split at h
  case h_2=>cases h
  rename_i cells ar;have an:∀ (a:Act) (w:World) (cs:Array Value) (v:Value),a.eval x = .agg cs->(part ft cs off).run P w = .ok v w->(execOp a.eval o).run P w = .ok (.value v) w:=by
   simp_all [execOp,Instr.field,X5,asAgg]
  cases aj:VH fi.kd with
  |true=>
   simp only [aj,Qoc] at h;split at h
   ·rename_i cs a4;refine ⟨_,h,fun _=>QE fun β S st a w hR hO hA=>?_⟩;obtain ⟨vs,hx,az,hr⟩:=(ar▸hO.at ao).ag_inv;obtain ⟨h1,h2,h3⟩:=N5 a4;refine ⟨_,an a w vs _ hx (Q3o ak aj),?_⟩;have aw:fi.size=0\/off+fi.size<=vs.size:=by
     rcases Nat.eq_zero_or_pos fi.size with h0 | h0
     ·exact .inl h0
     ·right;have h4:=h2 (fi.size-1) Q0;have h5:cs[fi.size-1]? = some (cs[fi.size-1]'Q0):=Qon Q0;rw [h5] at h4;obtain ⟨h6,_⟩:=Qo8.1 h4;omega
    refine .ag _ _ (by rw [h1,Array.size_extract];rcases aw with h | h <;> omega) fun j y hy=>?_
    have hj:j<fi.size:=by obtain ⟨h6,_⟩:=Qo8.1 hy;omega
    have:=hr (off+j) y ((h2 j hj).trans hy);have he:(vs.extract off (off+fi.size)).getD j undef=vs.getD (off+j) undef:=by
     have aq:off+j<vs.size:=by rcases aw with h | h <;> omega
     have au:j<(vs.extract off (off+fi.size)).size:=by rw [Array.size_extract];omega
     simp only [Array.getD,aq,au,dite_true];simp
    simp_all
   ·cases h
  |false=>
   simp only [aj,cond_false] at h;split at h
   ·rename_i c hc;obtain ⟨v,a2,ax,_⟩:=Bu h;refine ⟨_,a2,fun hg=>QE fun β S st a w hR hO hA=>?_⟩;obtain ⟨vs,hx,az,hr⟩:=(ar▸hO.at ao).ag_inv;have aq:off<vs.size:=by obtain ⟨h6,_⟩:=Qo8.1 hc;omega
    exact ⟨_,an a w vs _ hx (Q3l ak aj (Td aq)),by rw [ax hg];exact hr off c hc⟩
   ·cases h
end
end Go.Vx
namespace Go.Vx
variable {w:World} {o:Oper} {a:Act} {tt:TT} {x:Operand}
section
variable {P:Program} {E:Env} {R:Type}
theorem Rd.sl_inv {S:Nat->Prop} {v:Value} {s:Nat} {rows:List (List D)} (h:Rd S w v (.sl s rows)) :
  (rows=[]/\∃ a cap,v = .slice a 0 cap)\/∃ (ad:Addr) (cap:Nat) (c:Nat->Nat->Value),v = .slice (some ad) rows.length cap/\S ad.block/\rows.length<=cap/\(∀ (i:Nat) (r:List D),rows[i]? = some r->r.length=s) /\
   (∀ (i j:Nat) (r:List D) (x:D),rows[i]? = some r->r[j]? = some x->w.cell? (ad.add (i*s+j))=some (c i j))/\∀ (i j:Nat) (r:List D) (x:D),rows[i]? = some r->r[j]? = some x->Rd S w (c i j) x:=by
 cases h with
 |sl0 a cap=>simp_all
 |sl ad cap _ _ c hS ac aj hc hr=>exact .inr ⟨ad,cap,c,rfl,hS,ac,aj,hc,hr⟩
theorem Rd.len {S:Nat->Prop} {v:Value} {s:Nat} {rows:List (List D)} (h:Rd S w v (.sl s rows)):∃ a cap,v = .slice a rows.length cap:=by
 rcases h.sl_inv with ⟨rfl,a,cap,rfl⟩ | ⟨ad,cap,_,rfl,_⟩
 all_goals simp
theorem ET {rows:List (List D)} {n:Int} {row:List D} (h:Qi rows n=some row):0<=n/\n<rows.length/\rows[n.toNat]? = some row:=by
 grind [Qi]
theorem Q7a {len:Nat} {n:Int} {u:Unit} (h:inB len n=some u):0<=n/\n<len:=by
 grind [inB,decide]
theorem EK (hT:TOk P tt) {t:TypeId} {x i:Operand} (ho:o.op = .indexAddr t x i) {e ac:Nat} (hk:Pz tt t = .sl e ac) {ad:Addr} {len cap:Nat} {ik:IntKind} {n:Int}
  (hx:a.eval x = .slice (some ad) len cap) (hi:a.eval i = .int ik n) (h0:0<=n) (h1:n<len) :
  (execOp a.eval o).run P w = .ok (.value (.pointer (some (ad.add (n.toNat*ac))))) w:=by
 obtain ⟨ti,ak,aj⟩:=XR hk Q2;obtain ⟨hu,_,inf,an,ar⟩:=(hT t ti ak).ksl _ _ aj
 simp_all [execOp,Instr.indexAt,asIntOf,X5,sizeOf,YI]
theorem Q0w (hT:TOk P tt) {t:TypeId} {x i:Operand} (ho:o.op = .indexAddr t x i) {g:Bool} {ev:Operand->AV} {hl:Nat->oP Ob} {k:Dl->oP R} {r:R}
  (h:Dx tt g hl t (ev x) (ev i) k=some r):∃ dl,k dl=some r/\(g=true->KE P E o ev hl dl):=by
 have an:x∈o.op.operands.toList:=by grind [Op.operands]
 have ar:i∈o.op.operands.toList:=by simp [ho,Op.operands]
 unfold Dx at h;split at h
 case h_2=>cases h
 rename_i e ax ik n hk aw;split at h
 ·rename_i s rows aj;cases hb:Nat.beq s ax with
  |false=>simp_all
  |true=>
   obtain rfl:=Qoa hb;simp only [hb,Qoc] at h;obtain ⟨row,h,ac⟩:=X6 h;refine ⟨_,h,fun hg=>QE fun β S st a w hR hO hA=>?_⟩;obtain ⟨h0,h1,h2⟩:=ET (ac hg);have hi:=(aw▸hO.at ar).int_inv;rcases (aj▸hO.at an).d_inv.sl_inv with ⟨rfl,_⟩ | ⟨ad,cap,c,hx,hS,_,a3,hc,hr⟩
   ·simp at h2
   refine ⟨_,EK hT ho hk hx hi h0 h1,.el _ _ _ (fun j=>c n.toNat j) (by grind [JY]) (fun j y hy=>?_) (fun j y hy=>?_)⟩
   all_goals grind [BN]
 ·rename_i l aj;split at h
  ·rename_i e' s rows aq;cases hb:Nat.beq s ax with
   |false=>simp [hb] at h
   |true=>
    obtain rfl:=Qoa hb;simp only [hb,Qoc] at h;obtain ⟨u,h,ay⟩:=X6 h;refine ⟨_,h,fun hg=>QE fun β S st a w hR hO hA=>?_⟩;obtain ⟨h0,h1⟩:=Q7a (ay hg);have hi:=(aw▸hO.at ar).int_inv;have au:look st.h l=some (.arr e' s rows):=by rw [hA l (.inl Q2)];exact aq
    rcases RdA.arr_inv au (aj▸hO.at an) with ⟨_,rfl,_⟩ | ⟨b,cap,cs,ty,fz,az,hx,_⟩
    ·grind
    refine ⟨_,EK hT ho hk hx hi h0 h1,?_⟩;rw [HQ,Nat.zero_add];exact .ap l n.toNat 0 b e' s rows az au
  ·cases h
 ·obtain ⟨row,h,ac⟩:=X6 h;refine ⟨_,h,fun hg=>?_⟩;obtain ⟨_,h1,_⟩:=ET (ac hg);simp at h1;have:=(ET (ac hg)).1;omega
 ·cases h
theorem TD (hT:TOk P tt) {c:Call} {t:Nat} {e ak:Nat} (ho:o.op = .call c) (hc:c.callee = .builtin .len) (ha:c.args.toList=[x]) (hat:c.argTypes.toList=[t]) (hk:Pz tt t = .sl e ak)
  {ad:oP Addr} {len cap:Nat} (hx:a.eval x = .slice ad len cap):(execOp a.eval o).run P w = .ok (.value (.int .i64 len)) w:=by
 obtain ⟨ti,aj,ac⟩:=XR hk Q2;obtain ⟨hu,_⟩:=(hT t ti aj).ksl _ _ ac;have ar:c.args = #[x]:=by grind
 have an:c.argTypes = #[t]:=by rw [<- Array.toList_inj];simpa using hat
 simp_all [execOp,resolve,invoke,builtin,Builtin.len_,X5,goInt]
theorem Q5E (hT:TOk P tt) {c:Call} {t:Nat} (ho:o.op = .call c) (hc:c.callee = .builtin .len) (ha:c.args.toList=[x]) (hat:c.argTypes.toList=[t]) (hk:Pz tt t = .str)
  {s:ByteArray} (hx:a.eval x = .string s):(execOp a.eval o).run P w = .ok (.value (.int .i64 s.size)) w:=by
 obtain ⟨ti,aj,ac⟩:=XR hk Q2;have hu:=(hT t ti aj).kstr ac;have an:c.args = #[x]:=by grind
 have ak:c.argTypes = #[t]:=by grind
 simp_all [execOp,resolve,invoke,builtin,Builtin.len_,X5,goInt]
theorem Q5P (hT:TOk P tt) {c:Call} {t:Nat} {e ak:Nat} (ho:o.op = .call c) (hc:c.callee = .builtin .cap) (ha:c.args.toList=[x]) (hat:c.argTypes.toList=[t]) (hk:Pz tt t = .sl e ak)
  (hx:a.eval x = .slice none 0 0):(execOp a.eval o).run P w = .ok (.value (.int .i64 0)) w:=by
 obtain ⟨ti,aj,ac⟩:=XR hk Q2;obtain ⟨hu,_⟩:=(hT t ti aj).ksl _ _ ac;have ao:c.args = #[x]:=by grind
 have an:c.argTypes = #[t]:=by grind
 simp_all [execOp,resolve,invoke,builtin,Builtin.cap_,X5,goInt]
end
end Go.Vx
namespace Go.Vx
section
variable {E:Env} {β β':Nat->oP Nat} {S S':Nat->Prop} {st:St} {a:Act} {w w':World}
theorem Q9s {l t:Nat} {tm:List (Nat×AV)} {av:AV} (h:look tm t=some av) (hn:Ur l av=true):AO l tm=true:=by
 induction tm with
 |nil=>trivial
 |cons x r ih=>
  grind [look,Nat.beq,AO]
theorem Q8N {l t:Nat} {hs:List (Nat×Ob)} {cells:List AV} (h:look hs t=some (.box cells)) (hn:Kh l cells=true):JO l hs=true:=by
 induction hs with
 |nil=>trivial
 |cons x r ih=>
  obtain ⟨k,b⟩:=x;simp only [look] at h;cases hk:Nat.beq k t with
  |true=>grind [JO]
  |false=>simp [hk] at h;cases b <;> simp [JO,ih h]
theorem Q7m {l t:Nat} {av:AV} (hc:UY st l=true) (h:look st.tm t=some av):Ur l av=false:=by
 grind [Ur,UY,Q9s]
theorem Qaj {l t i:Nat} {cells:List AV} {x:AV} (hc:UY st l=true) (h:look st.h t=some (.box cells)) (hx:cells[i]? = some x):Ur l x=false:=by
 grind [Ur,UY,Q8N,Mg]
theorem Keep.rfl_ (β:Nat->oP Nat) (h:Nat->oP Ob) (w:World) (l:Nat):Keep β h w β h w l:=
 ⟨rfl,fun x=>x,fun _ _ rows hh=>.inr ⟨rows,hh,rfl⟩,fun _ cs ty fz _ _ hw=>⟨cs,ty,fz,hw,rfl⟩,fun _ f hh=>.inr ⟨f,hh⟩⟩
theorem Rel.upd (hR:Rel E β S st a w) {H':List (Nat×Ob)} (ak:∀ b,S b->S' b) (ao:∀ b,S b->w'.heap[b]? = w.heap[b]?) (T:Nat->Prop)
  (hT:∀ l,¬ T l->β' l=β l/\look H' l=look st.h l/\∀ b,(look st.h l).isSome=true->β l=some b->w'.heap[b]? = w.heap[b]?)
  (ax:∀ l,T l->Keep β (look st.h) w β' (look H') w' l\/UY st l=true)
  (a5:∀ l o,T l->look H' l=some o->ObR β' S' (look H') w' l o)
  (inj:∀ l l' b,(look H' l).isSome=true->(look H' l').isSome=true->β' l=some b->β' l'=some b->l=l')
  (apart:∀ l b,(look H' l).isSome=true->β' l=some b->¬ S' b)
  (own:∀ l b,(look H' l).isSome=true->β' l=some b->E.M b\/E.w0.heap.size<=b)
  (sb:∀ b,S' b->b<w'.heap.size) (sfr:∀ b,S' b->E.S0 b\/E.M b\/E.w0.heap.size<=b) (fr:Fr E.M E.w0 w') :
  Rel E β' S' ⟨st.n,st.tm,H'⟩ a w':=by
 have ac:∀ l,Keep β (look st.h) w β' (look H') w' l\/UY st l=true:=by
  intro l;by_cases hl:T l
  ·exact ax l hl
  ·obtain ⟨h1,h2,h3⟩:=hT l hl;exact .inl ⟨h1,fun h=>by rw [h2];exact h,fun e s rows h=>.inr ⟨rows,by rw [h2];exact h,rfl⟩,fun b cs ty fz hs hb hw=>⟨cs,ty,fz,by rw [h3 b (by rw [<- h2];exact hs) hb];exact hw,rfl⟩,fun _ f h=>.inr ⟨f,by rw [h2];exact h⟩⟩
 have hA:∀ (tm:Nat->Value) (v:Value) (av:AV),(∀ l,UY st l=true->Ur l av=false)->RdA β S (look st.h) w tm v av->RdA β' S' (look H') w' tm v av:=by
  intro tm v av hc hv;refine hv.mono ak ao (fun l hn=>?_) (fun _ _=>rfl);rcases ac l with h | h
  ·exact h
  ·rw [hc l h] at hn;cases hn
 refine ⟨hR.n,hR.dfr,fun t av ht=>hA _ _ _ (fun l hc=>Q7m hc ht) (hR.tm t av ht),⟨?_,inj,apart,own,sb,sfr,fun b hb=>ak b (hR.hr.s0 b hb),fr,fun l hp=>?_,fun l b hp hs hb cs ty fz hw=>?_⟩⟩
 rotate_left
 ·refine Eq.trans ?_ (hR.hr.pin l hp);rcases ac l with h | h
  ·exact h.b
  ·simp only [UY,Qo9] at h;have:=Qoj h.1;omega
 ·rcases ac l with h | h
  ·have aw:(look st.h l).isSome=true:=by
    cases hx:look st.h l with
    |some o=>rfl
    |none=>rw [h.none_ hx] at hs;cases hs
   rw [h.b] at hb;obtain ⟨az,a2,fz1,g1,g2⟩:=hR.hr.psz l b hp aw hb cs ty fz hw;obtain ⟨ar,a4,a6,g3,g4⟩:=h.cells b az a2 fz1 hs hb g1;exact ⟨ar,a4,a6,g3,g4.trans g2⟩
  ·simp only [UY,Qo9] at h;have:=Qoj h.1;omega
 intro l o ho;by_cases hl:T l
 ·exact a5 l o hl ho
 ·obtain ⟨h1,h2,h3⟩:=hT l hl;rw [h2] at ho;have aj:=hR.hr.ob l o ho;cases o with
  |box cells=>
   obtain ⟨b,ty,cs,fz,hb,hw,hf,an,hr⟩:=aj;exact ⟨b,ty,cs,fz,h1.trans hb,(h3 b (by simp [ho]) hb).trans hw,hf,an,fun i x hx=>hA _ _ _ (fun l' hc=>Qaj hc ho hx) (hr i x hx)⟩
  |arr e s rows=>
   rcases aj with ⟨hb,hn⟩ | ⟨b,cs,hb,hw,an,ay,hr⟩
   ·exact .inl ⟨h1.trans hb,hn⟩
   ·refine .inr ⟨b,cs,h1.trans hb,(h3 b (by simp [ho]) hb).trans hw,an,ay,fun i j r x h4 h5=>?_⟩;obtain ⟨v,hv,au⟩:=hr i j r x h4 h5;exact ⟨v,hv,au.mono ak ao⟩
  |mp t f=>
   obtain ⟨b,hb,hm⟩:=aj;exact ⟨b,h1.trans hb,hm.same (h3 b (by simp [ho]) hb)⟩
theorem NA (hR:Rel E β S st a w) {l b:Nat} (hs:(look st.h l).isSome=true) (hb:β l=some b):b<w.heap.size:=by
 cases ho:look st.h l with
 |none=>simp_all
 |some o=>
  have ac:=hR.hr.ob l o ho;have:∃ c,w.heap[b]? = some c:=by
   cases o with
   |box cells=>
    obtain ⟨b',ty,cs,fz,aj,hw,_⟩:=ac
    simp_all
   |arr e s rows=>
    rcases ac with ⟨aj,_⟩ | ⟨b',cs,aj,hw,_⟩
    all_goals grind
   |mp t f=>
    obtain ⟨b',aj,es,ak,hw,_⟩:=ac
    simp_all
  grind
theorem ZH (w:World) (o:Obj) {b:Nat} (h:b<w.heap.size):(w.alloc o).heap[b]? = w.heap[b]?:=by
 show (w.heap.push o)[b]? = _
 grind
theorem Jx (w:World) (o:Obj):(w.alloc o).heap[w.heap.size]? = some o:=by
 show (w.heap.push o)[w.heap.size]? = _;simp
theorem Q7I {M:Nat->Prop} {w0 w:World} (h:Fr M w0 w) (o:Obj):Fr M w0 (w.alloc o):=
 h.trans ⟨rfl,rfl,rfl,by show w.heap.size<=(w.heap.push o).size;simp,fun b hb _=>ZH w o hb⟩
def RY (β:Nat->oP Nat) (l:Nat) (b:oP Nat):Nat->oP Nat:=fun k=>if k=l then b else β k
theorem Rel.new (hR:Rel E β S st a w) {l:Nat} {o:Ob} {ac:Obj} (hn:look st.h l=none) (hc:UY st l=true)
  (an:ObR (RY β l (some w.heap.size)) S (look ((l,o)::rem l st.h)) (w.alloc ac) l o) :
  Rel E (RY β l (some w.heap.size)) S ⟨st.n,st.tm,(l,o)::rem l st.h⟩ a (w.alloc ac):=by
 have ak:∀ k,look ((l,o)::rem l st.h) k=if k=l then some o else look st.h k:=fun k=>Uk l k o st.h
 refine hR.upd (fun _ h=>h) (fun b hb=>ZH w ac (hR.hr.sb b hb)) (fun k=>k=l) (fun k hk=>?_) (fun k hk=>.inr (hk▸hc)) (fun k o' hk ho=>?_) ?_ ?_ ?_ ?_ hR.hr.sfr (Q7I hR.hr.fr ac)
 ·grind [RY,ZH,NA]
 ·simp_all
 ·intro k k' b h1 h2 h3 h4;rw [ak] at h1 h2;unfold RY at h3 h4;by_cases e:k=l <;> by_cases e':k'=l
  ·rw [e,e']
  ·rw [Qoo e] at h3;rw [Qok e'] at h4 h2;injection h3 with h3
   have:=NA hR h2 h4;omega
  ·rw [Qoo e'] at h4;rw [Qok e] at h3 h1;injection h4 with h4
   have:=NA hR h1 h3;omega
  ·rw [Qok e] at h3 h1;rw [Qok e'] at h4 h2;exact hR.hr.inj k k' b h1 h2 h3 h4
 ·intro k b h1 h2 hS;rw [ak] at h1;unfold RY at h2;by_cases e:k=l
  ·rw [Qoo e] at h2;injection h2 with h2
   have:=hR.hr.sb b hS;omega
  ·rw [Qok e] at h2 h1;exact hR.hr.apart k b h1 h2 hS
 ·intro k b h1 h2;rw [ak] at h1;unfold RY at h2;by_cases e:k=l
  ·rw [Qoo e] at h2;injection h2 with h2
   right;have:=hR.hr.fr.size;omega
  ·rw [Qok e] at h2 h1;exact hR.hr.own k b h1 h2
 ·intro b hb;have:=hR.hr.sb b hb;simp;omega
theorem Rel.set (hR:Rel E β S st a w) {l b:Nat} {o o':Ob} (ho:look st.h l=some o) (hb:β l=some b)
  (aj:∀ k,k≠b->w'.heap[k]? = w.heap[k]?) (aw:w'.os=w.os) (an:w'.tape=w.tape) (ar:w'.output=w.output) (aq:w'.heap.size=w.heap.size)
  (hk:Keep β (look st.h) w β (look ((l,o')::rem l st.h)) w' l) (a4:ObR β S (look ((l,o')::rem l st.h)) w' l o') :
  Rel E β S ⟨st.n,st.tm,(l,o')::rem l st.h⟩ a w':=by
 have a3:∀ k,look ((l,o')::rem l st.h) k=if k=l then some o' else look st.h k:=fun k=>Uk l k o' st.h
 have ao:(look st.h l).isSome=true:=by simp [ho]
 have ac:∀ k,(look ((l,o')::rem l st.h) k).isSome=true->(look st.h k).isSome=true:=by
  grind
 refine hR.upd (fun _ h=>h) (fun k hS=>aj k (fun e=>?_)) (fun k=>k=l) (fun k hk=>?_) (fun k ak=>.inl (ak▸hk)) (fun k a2 ak ax=>?_) ?_ ?_ ?_ ?_ hR.hr.sfr ?_
 ·subst e;exact hR.hr.apart l _ ao hb hS
 ·refine ⟨rfl,by simp_all,fun k' hs au=>aj k' (fun e=>?_)⟩;subst e;exact hk (hR.hr.inj k l _ hs ao au hb)
 ·simp_all
 ·exact fun k k' b' h1 h2 h3 h4=>hR.hr.inj k k' b' (ac k h1) (ac k' h2) h3 h4
 ·exact fun k b' h1 h2=>hR.hr.apart k b' (ac k h1) h2
 ·exact fun k b' h1 h2=>hR.hr.own k b' (ac k h1) h2
 ·intro k hS;rw [aq];exact hR.hr.sb k hS
 ·have fr:=hR.hr.fr;refine ⟨aw.trans fr.os,an.trans fr.tape,ar.trans fr.output,by rw [aq];exact fr.size,fun k ak hM=>(aj k (fun e=>?_)).trans (fr.block k ak hM)⟩;rcases hR.hr.own l _ ao hb with h | h
  all_goals grind
end
end Go.Vx
namespace Go.Vx
variable {hl:Nat->oP Ob} {ev:Operand->AV} {β:Nat->oP Nat} {S:Nat->Prop} {w:World} {h:Nat->oP Ob} {tm:Nat->Value} {v:Value}
section
variable {P:Program} {E:Env} {R:Type}
theorem As (v:Value):RdA β S h w tm v (S1 v):=by
 unfold S1;split
 ·exact .d _ _ (.int _ _)
 ·exact .d _ _ (.bool _)
 ·exact .d _ _ (.str _)
 ·exact .nil
 ·exact .top _
theorem Q9k {av:AV} (hv:RdA β S h w tm v av) (ho:Q3g av=true):v.oneCell'=true:=by
 cases hv <;> simp [Q3g] at ho <;> try rfl
 ·rename_i hx;cases hx <;> rfl
 ·assumption
theorem Cb {av:AV} (ho:Q3g av=true):Q12 av=true:=by
 cases av with
 |fn f l=>assumption
 |_=>trivial
theorem Qa0 (h:v.oneCell'=true):v.cells = #[v]:=by cases v <;> simp [Value.oneCell'] at h <;> rfl
theorem RdA.to_tm0 {av:AV} (hg:Q12 av=true) (hv:RdA β S h w tm v av):RdA β S h w tm0 v av:=by
 refine RdA.mono hv (fun _ hb=>hb) (fun _ _=>rfl) (fun l _=>Keep.rfl_ ..) (fun t ht=>?_)
 grind [Rm]
theorem MV {av:AV} (hv:RdA β S h w tm v av) (ho:(Y9 av).all Q3g=true) :
  v.cells.size=(Y9 av).length/\(∀ (i:Nat) (x:AV),(Y9 av)[i]? = some x->RdA β S h w tm (v.cells.getD i undef) x)/\∀ u∈v.cells.toList,u.oneCell'=true:=by
 cases av with
 |ag l=>
  obtain ⟨cs,rfl,ak,hr⟩:=hv.ag_inv;refine ⟨ak,hr,fun u hu=>?_⟩;obtain ⟨i,hi,rfl⟩:=List.getElem_of_mem hu;have aj:i<cs.size:=by assumption
  have h1:l[i]? = some (l[i]'Q0):=Qon Q0;have h2:=hr i _ h1;have h3:Q3g (l[i]'Q0)=true:=by
   grind [Y9,List.all_eq_true,List.getElem_mem]
  have h4:=Q9k h2 h3;have h5:cs.getD i undef=cs[i]:=by simp [Array.getD,aj]
  grind [Value.cells]
 |fs s rows=>
  obtain ⟨ad,rfl,hr⟩:=hv.fs_inv;refine ⟨rfl,fun i x hx=>?_,fun u hu=>?_⟩
  ·cases i with
   |zero=>simp [Y9] at hx;subst hx;exact .d _ _ hr
   |succ i=>trivial
  ·simp [Value.cells] at hu;subst hu;rfl
 |_=>
  all_goals
   simp only [Y9,List.all_cons,List.all_nil,Bool.and_true] at ho
   first
    |have h1:=Q9k hv ho
     rw [Qa0 h1];refine ⟨rfl,fun i x hx=>?_,fun u hu=>?_⟩
     ·cases i with
      |zero=>simp [Y9] at hx;subst hx;simpa [Array.getD] using hv
      |succ i=>simp [Y9] at hx
     simp_all
    |(simp [Q3g] at ho)
theorem Vn {ac:Nat} {o:Ob} {v:AV} {wr:List (Nat×oP Ob)} {rd:List Nat} {k:Dl->oP R} {r:R} (h:D5 hl ac o v wr rd k=some r) :
  hl ac=none/\k ⟨v,wr++[(ac,some o)],rd⟩=some r:=by
 grind [D5]
theorem Qeb (n:Nat):Qim n (0,0):=fun _ _ h=>by omega
theorem A7 {o:Oper} {ac:Nat} {cells:List AV} {ty:TypeId} (hn:hl ac=none) (ar:Q7Y ty cells)
  (h:∀ β S st a w,Rel E β S st a w->BJ β S st a w o ev->∃ cs:Array Value,(execOp a.eval o).run P w = .ok (.value (.pointer (some ⟨w.heap.size,0,none⟩))) (w.alloc (.cells cs ty))/\cs.size=cells.length /\
   ∀ (i:Nat) (x:AV),cells[i]? = some x->Q12 x=true/\((RdA β S (look st.h) w (tmv a) (cs.getD i undef) x/\(UY st ac=true->Ur ac x=false))\/∃ t,x = .sa ac t/\cs.getD i undef = .pointer none)) :
  KE P E o ev hl ⟨.ptr ac 0,[]++[(ac,some (.box cells))],[]⟩:=by
 intro β S st a w hR hO hA a3 K Q hK;obtain ⟨cs,ak,ao,au⟩:=h β S st a w hR hO;have aw:look st.h ac=none:=by rw [hA ac (.inr (by simp [wrL]))];exact hn
 have hc:UY st ac=true:=by grind [WI]
 unfold Oper.wp;rw [ak];refine hK _ _ ⟨RY β ac (some w.heap.size),S,?_,?_⟩
 ·refine hR.new aw hc ⟨w.heap.size,ty,cs,(0,0),by simp [RY],Jx _ _,⟨Qeb _,ar⟩,ao,fun i x hx=>?_⟩;obtain ⟨h1,ax⟩:=au i x hx;rcases ax with ⟨h2,h3⟩ | ⟨t,rfl,hp⟩
  case inr=>exact .sa _ _ _ w.heap.size (by simp [RY]) (.inl hp)
  refine (h2.to_tm0 h1).mono (fun _ hb=>hb) (fun b hb=>ZH _ _ (hR.hr.sb b hb)) (fun l a2=>?_) (fun _ _=>rfl);have aj:l≠ac:=fun e=>by simp_all
  exact ⟨by simp [RY,aj],fun h=>by rw [Uk,Qok aj];exact h,fun e s rows h=>.inr ⟨rows,by rw [Uk,Qok aj];exact h,rfl⟩,
   fun b aq an fz hs hb hw=>⟨aq,an,fz,by rw [ZH _ _ (NA hR (by rw [Uk,Qok aj] at hs;exact hs) hb)];exact hw,rfl⟩,fun _ f h=>.inr ⟨f,by rw [Uk,Qok aj];exact h⟩⟩
 ·exact .ptr _ _ _ (by simp [RY])
theorem Aw (l:Nat) (v:Value):Ur l (S1 v)=false:=by
 unfold S1;split <;> rfl
theorem Q7X (v:Value):Q12 (S1 v)=true:=by
 unfold S1;split <;> rfl
theorem Q8A {tt:TT} (hT:TOk P tt) {o:Oper} {t:TypeId} (ho:o.op = .alloc t) {ac:Nat} {ti:TyI} (aq:look tt t=some ti) (hn:hl ac=none) :
  KE P E o ev hl ⟨.ptr ac 0,[]++[(ac,some (.box (Q1C ac t ti)))],[]⟩:=by
 obtain ⟨inf,au,_,_,z,hz,ar⟩:=(hT t ti aq).inf;have an:Q7Y t (Q1C ac t ti):=by
  intro i l t' hi;simp only [Q1C,Qoi,Qod] at hi;obtain ⟨v,_,hv⟩:=hi;unfold Q6i at hv;split at hv
  ·injection hv
  ·unfold S1 at hv
   grind
 refine A7 (ty:=t) hn an fun β S st a w hR hO=>⟨z.cells,?_,?_,fun i x hx=>?_⟩
 ·simp_all [execOp,Instr.alloc,zeroValue,YI,newVar,newRow]
 ·grind [Array.length_toList,Q1C]
 ·simp only [Q1C,Qoi,Qod] at hx;obtain ⟨v,hv,rfl⟩:=hx;have:z.cells.getD i undef=v:=by
   rw [<- ar] at hv;obtain ⟨hi,he⟩:=Qo8.1 hv;have ao:i<z.cells.size:=Q0
   simp only [Array.getD,ao,dite_true]
   assumption
  rw [this];unfold Q6i;split
  ·exact ⟨rfl,.inr ⟨t,rfl,rfl⟩⟩
  grind [Q7X,As,Aw]
theorem Q1G {st:St} {ac:Nat} (hc:UY st ac=true) (x:Operand):Ur ac (evO st.tm x)=false:=by
 cases x with
 |tmp t=>
  simp only [evO,lkT];cases h:look st.tm t with
  |none=>rfl
  |some av=>grind [Q7m]
 |const v=>exact Aw ac v
 |_=>rfl
theorem Q3R {l i:Nat} {r:List AV} {x:AV} (h:r[i]? = some x) (hn:Kh l r=false):Ur l x=false:=by
 grind [Ur,Mg]
theorem Q0E {l:Nat} {av:AV} (h:Ur l av=false):Kh l (Y9 av)=false:=by
 cases av <;> simp_all [Y9,Kh,Ur]
theorem Qbt {o:Oper} {t:TypeId} {x:Operand} (ho:o.op = .box t x) {aj:Nat} (ac:(Y9 (ev x)).all Q3g=true) (hn:hl aj=none) :
  KE P E o ev hl ⟨.ptr aj 0,[]++[(aj,some (.box (Y9 (ev x))))],[]⟩:=by
 have ak:x∈o.op.operands.toList:=by grind [Op.operands]
 have an:Q7Y t (Y9 (ev x)):=by
  intro i l t' hi;rw [Qor] at ac;have:=ac _ (Qog hi);trivial
 refine A7 (ty:=t) hn an fun β S st a w hR hO=>?_
 obtain ⟨h1,h2,_⟩:=MV (hO.at ak) ac;refine ⟨(a.eval x).cells,?_,h1,fun i y hy=>⟨?_,.inl ⟨h2 i y hy,fun hc=>Q3R hy (Q0E (hO.nm ak hc))⟩⟩⟩
 ·simp_all [execOp,Instr.box,newVar,newRow]
 grind [List.all_eq_true,Cb,List.mem_of_getElem?]
structure Wrote (b:Nat) (cs:Array Value) (ty:TypeId) (fz:Nat×Nat) (w w':World):Prop where
 blk:w'.heap[b]? = some (.cells cs ty fz)
 oth:∀ k,k≠b->w'.heap[k]? = w.heap[k]?
 os:w'.os=w.os
 tape:w'.tape=w.tape
 output:w'.output=w.output
 size:w'.heap.size=w.heap.size
theorem QaA {b o:Nat} {cs:Array Value} {ty:TypeId} {fz:Nat×Nat} (h:w.heap[b]? = some (.cells cs ty fz)) (v:Value):Wrote b (cs.setIfInBounds o v) ty fz w (w.setCell ⟨b,o,none⟩ v):=by
 refine ⟨?_,fun k hk=>?_,rfl,rfl,rfl,by simp_all⟩
 ·simp [World.setCell,Array.getElem?_modify,h]
 ·simp only [World.setCell,Array.getElem?_modify]
  grind
theorem Wrote.trans {b:Nat} {cs aj:Array Value} {ty:TypeId} {fz:Nat×Nat} {w w' ak:World} (h:Wrote b cs ty fz w w') (h':Wrote b aj ty fz w' ak):Wrote b aj ty fz w ak:=
 ⟨h'.blk,fun k hk=>(h'.oth k hk).trans (h.oth k hk),h'.os.trans h.os,h'.tape.trans h.tape,h'.output.trans h.output,h'.size.trans h.size⟩
def Pd (cs:Array Value):Nat->List Value->Array Value
 |_,[]=>cs
 |o,v::r=>Pd (cs.setIfInBounds o v) (o+1) r
theorem Uy:∀ (vs:List Value) (cs:Array Value) (o:Nat),(Pd cs o vs).size=cs.size
 |[],_,_=>rfl
 |v::r,cs,o=>by simp [Pd,Uy r]
theorem R7:∀ (vs:List Value) (cs:Array Value) (o j:Nat),o+vs.length<=cs.size->(Pd cs o vs)[j]? = if o<=j/\j<o+vs.length then vs[j-o]? else cs[j]?
 |[],cs,o,j,_=>by simp [Pd];intro h1 h2;omega
 |v::r,cs,o,j,h=>by
  simp only [Qox] at h;rw [Pd,R7 r _ (o+1) j Q3];simp only [Qox];by_cases h1:o+1<=j/\j<o+1+r.length
  ·rw [Qoo h1,Qoo Q0];rw [show j-o=(j-(o+1))+1 from Q0];simp
  ·rw [Qok h1];by_cases h2:j=o
   ·subst h2;rw [Qoo Q0];simp [Array.getElem?_setIfInBounds];omega
   ·rw [Qok Q0];rw [Array.getElem?_setIfInBounds,Qok Q0]
theorem GQ (b o:Nat) (ty:TypeId) (fz:Nat×Nat):∀ (vs:List Value) (i:Nat) (cs:Array Value) (w:World),w.heap[b]? = some (.cells cs ty fz)->Qim cs.size fz->o+i+vs.length<=cs.size->(∀ v∈vs,v.oneCell'=true) ->
  ∃ w',(storeCells ⟨b,o,none⟩ vs i).run P w = .ok () w'/\Wrote b (Pd cs (o+i) vs) ty fz w w'
 |[],i,cs,w,h,_,_,_=>⟨w,by rfl,⟨h,fun _ _=>rfl,rfl,rfl,rfl,rfl⟩⟩
 |v::r,i,cs,w,h,hf,an,h1=>by
  simp only [Qox] at an;have aj:o+i<cs.size:=Q0
  have ak:w.cell? ⟨b,o+i,none⟩=some (cs.getD (o+i) undef):=by rw [JC h];simp_all
  have ar:w.frozen? ⟨b,o+i,none⟩=false:=by
   have:=hf (o+i) aj
   grind [World.frozen?]
  have aq:=run_store P w ⟨b,o+i,none⟩ v .plain (h1 v Q2);have hw:=QaA (o:=o+i) h v;obtain ⟨w',ao,ac⟩:=GQ b o ty fz r (i+1) (cs.setIfInBounds (o+i) v) (w.setCell ⟨b,o+i,none⟩ v) hw.blk Q4 Q3 (fun u hu=>h1 u (by simp [hu]));refine ⟨w',?_,hw.trans ac⟩
  grind [storeCells,Sem.run_bind,HQ,Result.andThen_ok]
theorem Rg:∀ {vs cells cs:List AV} {off:Nat},MD cells off vs=some cs->cs.length=cells.length/\vs.all Q3g=true/\(vs≠[]->off+vs.length<=cells.length) /\
  ∀ j:Nat,cs[j]? = if off<=j/\j<off+vs.length then vs[j-off]? else cells[j]?
 |[],cells,cs,off,h=>by
  simp [MD] at h;subst h;refine ⟨rfl,rfl,fun h=>absurd rfl h,fun j=>?_⟩;rw [Qok Q2]
 |v::r,cells,cs,off,h=>by
  unfold MD at h;cases hc:(Q3g v&&Nat.ble (off+1) cells.length) with
  |false=>simp [hc] at h
  |true=>
   simp only [hc,Qoc] at h;simp only [Qo9] at hc;have ak:=Qoj hc.2;obtain ⟨h1,h2,h3,h4⟩:=Rg h;simp only [List.length_set] at h1 h3;refine ⟨h1,by simp [hc.1,h2],fun _=>?_,fun j=>?_⟩
   ·by_cases hr:r=[]
    ·subst hr;simp;omega
    ·have:=h3 hr;simp;omega
   ·rw [h4 j];simp only [Qox];by_cases e1:off+1<=j/\j<off+1+r.length
    ·rw [Qoo e1,Qoo Q0,show j-off=(j-(off+1))+1 from Q0];simp
    ·rw [Qok e1];by_cases e2:j=off
     ·subst e2;rw [Qoo Q0,Qos Q0];simp
     ·rw [Qok Q0,Qot Q0]
end
end Go.Vx
namespace Go.Vx
section
variable {P:Program} {E:Env} {R:Type}
theorem Q1L {cs ac:Array Value} {i j:Nat} (h:cs[i]? = ac[j]?):cs.getD i undef=ac.getD j undef:=by
 simp_all
theorem M0 {t:Nat} {ti:TyI} (ht:TyOk P t ti) {w w':World} {ad:Addr} {v:Value} (hs:v.cells.size=ti.size) (h:(storeCells ad v.cells.toList).run P w = .ok () w'):(storeVar t ad v).run P w = .ok () w':=by
 simp only [storeVar,Qob,ht.size,Qo7]
 simp_all
theorem MA {o:Oper} {t:TypeId} {x y:Operand} (ho:o.op = .store t x y) {a:Act} {w w':World} {ad:Addr} (hx:a.eval x = .pointer (some ad)) (hv:(storeVar t ad (a.eval y)).run P w = .ok () w') :
  (execOp a.eval o).run P w = .ok .skip w':=by
 simp_all [execOp,Instr.storeAt,Instr.sureAddr]
theorem Q0d:∀ {l:List AV} {ds:List D},Qe8 l=some ds->l=ds.map .d
 |[],ds,h=>by simp [Qe8] at h;subst h;rfl
 |a::r,ds,h=>by
  cases a with
  |d x=>
   simp only [Qe8] at h;split at h
   ·rename_i l' ac;cases h;rw [Q0d ac];rfl
   ·cases h
  |_=>simp [Qe8] at h
theorem Q6E:∀ (ds:List D) (row:List D) (off j:Nat),off+ds.length<=row.length->(Qd5 row off ds)[j]? = if off<=j/\j<off+ds.length then ds[j-off]? else row[j]?
 |[],row,off,j,_=>by simp [Qd5];intro h1 h2;omega
 |v::r,row,off,j,h=>by
  simp only [Qox] at h;rw [Qd5,Q6E r _ (off+1) j Q3];simp only [Qox];by_cases h1:off+1<=j/\j<off+1+r.length
  ·rw [Qoo h1,Qoo Q0,show j-off=(j-(off+1))+1 from Q0];simp
  ·rw [Qok h1];by_cases h2:j=off
   ·subst h2;rw [Qoo Q0,Qos Q0];simp
   ·rw [Qok Q0,Qot Q0]
theorem AZ:∀ (ds:List D) (row:List D) (off:Nat),(Qd5 row off ds).length=row.length
 |[],_,_=>rfl
 |v::r,row,off=>by simp [Qd5,AZ r]
theorem C1 (ds:List D):(ds.map AV.d).all Q3g=true:=by
 grind [Q3g]
theorem Q8g {tt:TT} (hT:TOk P tt) {o:Oper} {t:TypeId} {x y:Operand} (ho:o.op = .store t x y) {ev:Operand->AV} {hl:Nat->oP Ob} {k:Dl->oP R} {r:R}
  (h:QaG tt hl t (ev x) (ev y) k=some r):∃ dl,k dl=some r/\KE P E o ev hl dl:=by
 have b7:x∈o.op.operands.toList:=by grind [Op.operands]
 have bx:y∈o.op.operands.toList:=by simp [ho,Op.operands]
 unfold QaG at h;split at h
 case h_2=>cases h
 rename_i ti cp;have b4:=hT t ti cp;cases ay:Nat.beq (Y9 (ev y)).length ti.size with
 |false=>simp [ay] at h
 |true=>
  simp only [ay,Qoc] at h;have az:=Qoa ay;split at h
  ·-- a box
   rename_i l off bp;split at h
   ·rename_i cells a9;split at h
    ·rename_i cs cg;refine ⟨_,h,?_⟩;intro β S st a w hR hO hA cr K Q hK;obtain ⟨h1,h2,h3,h4⟩:=Rg cg;obtain ⟨b,hb,hx⟩:=(bp▸hO.at b7).ptr_inv;have aj:look st.h l=some (.box cells):=by rw [hA l (.inl Q2)];exact a9
     obtain ⟨b',ty,vs,fz,a3,hw,⟨hf,ce⟩,bc,ba⟩:=hR.hr.ob l _ aj;obtain rfl:b=b':=by rw [hb] at a3;injection a3
     obtain ⟨c1,c2,c3⟩:=MV (hO.at bx) h2;have bj:off+(a.eval y).cells.toList.length<=vs.size\/(a.eval y).cells.toList.length=0:=by
      by_cases bv:Y9 (ev y)=[]
      ·right;simp [c1,bv]
      ·left;have:=h3 bv;simp [c1];omega
     have b1:off+0+(a.eval y).cells.toList.length<=vs.size\/(a.eval y).cells.toList=[]:=by
      rcases bj with h | h
      ·left;simpa using h
      ·right;exact Qoh h
     obtain ⟨w',a5,ac⟩:∃ w',(storeCells ⟨b,off,none⟩ (a.eval y).cells.toList 0).run P w = .ok () w'/\Wrote b (Pd vs off (a.eval y).cells.toList) ty fz w w':=by
      rcases b1 with h | h
      ·exact GQ b off ty fz _ 0 vs w hw hf h c3
      ·rw [h];exact ⟨w,by simp [storeCells],⟨hw,fun _ _=>rfl,rfl,rfl,rfl,rfl⟩⟩
     have b5:Q7Y ty cs:=by
      intro i l' t' hi;rw [h4 i] at hi;split at hi
      ·rw [Qor] at h2;have:=h2 _ (Qog hi);simp [Q3g] at this
      ·exact ce i l' t' hi
     have ao:∀ j,(Pd vs off (a.eval y).cells.toList)[j]? = if off<=j/\j<off+(Y9 (ev y)).length then (a.eval y).cells[j-off]? else vs[j]?:=by
      intro j;rcases bj with h | h
      ·rw [R7 _ _ _ _ h];simp [c1]
      ·have hn:(a.eval y).cells.toList=[]:=Qoh h;rw [hn,Qok (by rw [<- c1,<- Qol,hn];simp)];rfl
     unfold Oper.wp;rw [MA ho hx (M0 b4 (by rw [c1];exact az) a5)];refine hK undef _ ⟨β,S,?_,.top _⟩;have aw:∀ k',look ((l,Ob.box cs)::rem l st.h) k'=if k'=l then some (.box cs) else look st.h k':=fun k'=>Uk l k' _ st.h
     have ak:Keep β (look st.h) w β (look ((l,.box cs)::rem l st.h)) w' l:=by
      refine ⟨rfl,fun h=>?_,fun e s rows h=>?_,fun b2 bn bl bq _ au ar=>?_,fun t f h=>by rw [aj] at h;cases h⟩
      ·rw [aj] at h;cases h
      ·rw [aj] at h;cases h
      ·rw [hb] at au;injection au with e;subst e
       rw [hw] at ar;injection ar with e;injection e with e1 e2 e3;subst e1
       exact ⟨_,_,_,ac.blk,Uy _ _ _⟩
     have a2:∀ l',Keep β (look st.h) w β (look ((l,.box cs)::rem l st.h)) w' l':=by
      intro l';by_cases e:l'=l
      ·subst e;exact ak
      ·exact ⟨rfl,fun h=>by rw [aw,Qok e];exact h,fun e' s rows h=>.inr ⟨rows,by rw [aw,Qok e];exact h,rfl⟩,
        fun b2 bn bl bq b3 au ar=>⟨bn,bl,bq,by rw [ac.oth b2 (fun e2=>by subst e2;rw [aw,Qok e] at b3;exact e (hR.hr.inj l' l _ b3 (by simp [aj]) au hb))];exact ar,rfl⟩,fun _ f h=>.inr ⟨f,by rw [aw,Qok e];exact h⟩⟩
     refine hR.set aj hb ac.oth ac.os ac.tape ac.output ac.size ak ⟨b,ty,_,fz,hb,ac.blk,⟨by rw [Uy];exact hf,b5⟩,by rw [Uy,bc,h1],fun i z hz=>?_⟩;rw [h4 i] at hz;by_cases e:off<=i/\i<off+(Y9 (ev y)).length
     ·rw [Qoo e] at hz;have bm:(Pd vs off (a.eval y).cells.toList).getD i undef=(a.eval y).cells.getD (i-off) undef:=Q1L (by rw [ao i,Qoo e]);rw [bm];have hn:Q12 z=true:=Cb (by rw [Qor] at h2;exact h2 z (Qog hz));exact ((c2 (i-off) z hz).to_tm0 hn).mono (fun _ h=>h) (fun k' hS=>ac.oth k' (fun e2=>by subst e2;exact hR.hr.apart l _ (by simp [aj]) hb hS)) (fun l' _=>a2 l') (fun _ _=>rfl)
     ·rw [Qok e] at hz;have bm:(Pd vs off (a.eval y).cells.toList).getD i undef=vs.getD i undef:=Q1L (by rw [ao i,Qok e]);rw [bm];exact (ba i z hz).mono (fun _ h=>h) (fun k' hS=>ac.oth k' (fun e2=>by subst e2;exact hR.hr.apart l _ (by simp [aj]) hb hS)) (fun l' _=>a2 l') (fun _ _=>rfl)
    ·cases h
   ·cases h
  ·-- an array of the call's own
   rename_i l i off bp;split at h
   ·rename_i e s rows b0;split at h
    ·rename_i ds ck;obtain ⟨row,h,b8⟩:=X6 h;have aq:=b8 rfl;cases a4:Nat.ble (off+ds.length) s with
     |false=>simp [a4] at h
     |true=>
      simp only [a4,Qoc] at h;have bj:=Qoj a4;refine ⟨_,h,?_⟩;intro β S st a w hR hO hA cr K Q hK;have bo:=Q0d ck;have aj:look st.h l=some (.arr e s rows):=by rw [hA l (.inl Q2)];exact b0
      obtain ⟨b,hb,hx⟩:=RdA.ap_inv aj (bp▸hO.at b7);rcases hR.hr.ob l _ aj with ⟨_,hn⟩ | ⟨b',vs,a3,hw,bc,bi,ba⟩
      ·subst hn;simp at aq
      obtain rfl:b=b':=by rw [hb] at a3;injection a3
      obtain ⟨c1,c2,c3⟩:=MV (hO.at bx) (by rw [bo];exact C1 ds);have b6:(a.eval y).cells.size=ds.length:=by rw [c1,bo];simp
      have hi:i<rows.length:=(Qo8.1 aq).1;have cn:row.length=s:=bi i row aq;have cw:(i+1)*s<=rows.length*s:=Qoe s hi;have cq:(i+1)*s=i*s+s:=QoA i s;have bb:i*s+off+(a.eval y).cells.toList.length<=vs.size:=by simp [b6];omega
      obtain ⟨w',a5,ac⟩:=GQ (P:=P) b (i*s+off) e (0,0) (a.eval y).cells.toList 0 vs w hw (Qeb _) (by simpa using bb) c3;simp only [Nat.add_zero] at ac;have ao:∀ j,(Pd vs (i*s+off) (a.eval y).cells.toList)[j]? = if i*s+off<=j/\j<i*s+off+ds.length then (a.eval y).cells[j-(i*s+off)]? else vs[j]?:=by
       intro j;rw [R7 _ _ _ _ bb];simp [b6]
      unfold Oper.wp;rw [MA ho hx (M0 b4 (by rw [c1];exact az) a5)];refine hK undef _ ⟨β,S,?_,.top _⟩;have bg:∀ k',S k'->w'.heap[k']? = w.heap[k']?:=fun k' hS=>ac.oth k' (fun e2=>by subst e2;exact hR.hr.apart l _ (by simp [aj]) hb hS)
      have ak:Keep β (look st.h) w β (look ((l,.arr e s (rows.set i (Qd5 row off ds)))::rem l st.h)) w' l:=by
       refine ⟨rfl,fun h=>?_,fun e' s' cj h=>?_,fun b2 bn bl bq _ au ar=>?_,fun t f h=>by rw [aj] at h;cases h⟩
       ·rw [aj] at h;cases h
       ·rw [aj] at h;injection h with h;injection h with g1 g2 g3;subst g1;subst g2;subst g3
        exact .inr ⟨_,by rw [Uk,Qoo rfl],by simp⟩
       ·rw [hb] at au;injection au with e;subst e
        rw [hw] at ar;injection ar with e;injection e with e1 e2 e3;subst e1
        exact ⟨_,_,_,ac.blk,Uy _ _ _⟩
      refine hR.set aj hb ac.oth ac.os ac.tape ac.output ac.size ak (.inr ⟨b,_,hb,ac.blk,by rw [Uy];simpa using bc,fun i' r' ax=>?_,fun i' j' r' z h4 h5=>?_⟩)
      ·by_cases e2:i'=i
       ·subst e2;rw [Qos hi] at ax;injection ax with ax;subst ax
        rw [AZ];exact cn
       ·rw [Qot Q0] at ax;exact bi i' r' ax
      ·by_cases e2:i'=i
       ·subst e2;rw [Qos hi] at h4;injection h4 with h4;subst h4
        rw [Q6E _ _ _ _ Q0] at h5;by_cases e3:off<=j'/\j'<off+ds.length
        ·rw [Qoo e3] at h5;have hj:j'-off<(a.eval y).cells.size:=Q0
         refine ⟨(a.eval y).cells.getD (j'-off) undef,?_,?_⟩
         ·rw [ao,Qoo Q0,show i'*s+j'-(i'*s+off)=j'-off from Q0];exact Td hj
         ·exact (c2 (j'-off) (.d z) (by rw [bo];simp [h5])).d_inv.mono (fun _ h=>h) bg
        ·rw [Qok e3] at h5;obtain ⟨u,hu,bk⟩:=ba i' j' row z aq h5;exact ⟨u,by rw [ao,Qok Q0];exact hu,bk.mono (fun _ h=>h) bg⟩
       ·rw [Qot Q0] at h4;obtain ⟨u,hu,bk⟩:=ba i' j' r' z h4 h5;refine ⟨u,?_,bk.mono (fun _ h=>h) bg⟩;have cz:j'<s:=by
         have:=bi i' r' h4;have:=(Qo8.1 h5).1;omega
        rw [ao,Qok ?_]
        ·exact hu
        ·rcases Nat.lt_or_gt_of_ne e2 with cc | cm
         ·have:(i'+1)*s<=i*s:=Qoe s cc;have:(i'+1)*s=i'*s+s:=QoA i' s;omega
         ·have:(i+1)*s<=i'*s:=Qoe s cm;omega
    ·cases h
   ·cases h
  ·cases h
end
section
variable {P:Program} {E:Env} {R:Type}
theorem FH {α β:Type} {f:α->Sem β} {g:α->β} {w:World}:∀ (l:List α),(∀ x∈l,(f x).run P w = .ok (g x) w)->(l.mapM f).run P w = .ok (l.map g) w
 |[],_=>by simp
 |a::l,h=>by
  have h1:=h a Q2;have h2:=FH l (fun x hx=>h x (by simp [hx]));simp [List.mapM_cons,h1,h2]
theorem Q4H {α β:Type} {f:α->Sem β} {g:α->β} {w:World} (l:Array α) (h:∀ x∈l.toList,(f x).run P w = .ok (g x) w):(l.mapM f).run P w = .ok (l.map g) w:=by
 have h1:=FH (P:=P) l.toList h;rw [<- Array.toList_mapM,Sem.run_map] at h1;cases hr:(l.mapM f).run P w with
 |ok b w'=>
  rw [hr] at h1;simp only [Qo7,Result.ok.injEq] at h1;obtain ⟨h2,rfl⟩:=h1;congr 1;apply Array.ext'
  simp_all
 |halt x w'=>simp_all
theorem Q92 (off:Nat):∀ (l:List Value) (k:Nat) (cs:Array Value),(l.zipIdx k).foldl (fun cs x=>cs.setIfInBounds (off+x.2) x.1) cs=Pd cs (off+k) l
 |[],_,_=>rfl
 |v::r,k,cs=>by
  simp only [List.zipIdx_cons,List.foldl_cons,Pd];rw [Q92 off r (k+1)];rfl
theorem Qc0 (off:Nat) (vs cs:Array Value):vs.zipIdx.foldl (fun cs x=>cs.setIfInBounds (off+x.2) x.1) cs=Pd cs off vs.toList:=by
 rw [<- Array.foldl_toList,Array.toList_zipIdx,Q92];rfl
theorem Q4y {ac:Nat->oP (Nat×Nat)} {cells:Array Value} {i off size:Nat} {v:Value} {rest:List (Nat×Value)} (hp:ac i=some (off,size)) (hs:v.cells.size=size) (hf:off+size<=cells.size) :
  Instr.fill ac cells ((i,v)::rest)=Instr.fill ac (Pd cells off v.cells.toList) rest:=by
 grind [Instr.fill,Qc0]
theorem Dm {tt:TT} {fields:List (Nat×Nat)} {ak:Nat->oP (Nat×Nat)} (ar:∀ (i off t:Nat) (ti:TyI),fields[i]? = some (off,t)->look tt t=some ti->ak i=some (off,ti.size))
  {β:Nat->oP Nat} {S:Nat->Prop} {h:Nat->oP Ob} {w:World} {tm:Nat->Value} {ρ:Operand->Value} {ev:Operand->AV} :
  ∀ (aj:List (Nat×Operand)) (cells ac:List AV) (cs:Array Value),(∀ p∈aj,RdA β S h w tm (ρ p.2) (ev p.2))->cs.size=cells.length ->
   (∀ (i:Nat) (x:AV),cells[i]? = some x->RdA β S h w tm (cs.getD i undef) x)->Q18 fields tt cells (VR ev aj)=some ac ->
   ∃ ao,Instr.fill ak cs (aj.map fun p=>(p.1,ρ p.2))=some ao/\ao.size=ac.length /\
    ∀ (i:Nat) (x:AV),ac[i]? = some x->RdA β S h w tm (ao.getD i undef) x
 |[],cells,ac,cs,_,h1,h2,h3=>by
  grind [VR,Q18,Instr.fill]
 |(i,x)::aj,cells,ac,cs,hp,h1,h2,h3=>by
  simp only [VR,Q18] at h3;split at h3
  case h_2=>cases h3
  rename_i off t hf;split at h3
  case h_2=>cases h3
  rename_i ti ay;cases hc:(Nat.beq (Y9 (ev x)).length ti.size&&Nat.ble (off+ti.size) cells.length) with
  |false=>simp_all
  |true=>
   simp only [hc,Qoc] at h3;simp only [Qo9] at hc;have hl:=Qoa hc.1;have a6:=Qoj hc.2;split at h3
   case h_2=>cases h3
   rename_i az aw;obtain ⟨g1,g2,g3,g4⟩:=Rg aw;obtain ⟨c1,c2,c3⟩:=MV (hp (i,x) Q2) g2;have an:=ar i off t ti hf ay;have au:off+(ρ x).cells.toList.length<=cs.size:=by simp [c1,hl];omega
   rw [QoB,Q4y an (by rw [c1];exact hl) Q0];refine Dm ar aj az ac _ (fun p ax=>hp p (by simp [ax])) (by rw [Uy,h1,g1]) (fun j y hy=>?_) h3;have a2:(Pd cs off (ρ x).cells.toList)[j]? = if off<=j/\j<off+(Y9 (ev x)).length then (ρ x).cells[j-off]? else cs[j]?:=by
    rw [R7 _ _ _ _ au];simp [c1]
   rw [g4 j] at hy;by_cases e:off<=j/\j<off+(Y9 (ev x)).length
   all_goals simp_all [Qoo,Pd,undef,Q1L,Qok]
theorem Q3Y {t:TypeId} {ac:Array (Nat×Operand)} {o:Oper} (ho:o.op = .build t ac) {p:Nat×Operand} (hp:p∈ac.toList):p.2∈o.op.operands.toList:=by
 grind [Op.operands]
theorem Q8l {tt:TT} (hT:TOk P tt) {o:Oper} {t:TypeId} {aj:Array (Nat×Operand)} (ho:o.op = .build t aj) {ev:Operand->AV} {hl:Nat->oP Ob} {ti:TyI} (bp:look tt t=some ti) (hs:VH ti.kd=true) {cs:List AV}
  (h:Q18 ti.fields tt (DA ti) (VR ev aj.toList)=some cs):KE P E o ev hl ⟨.ag cs,[],[]⟩:=by
 have a2:=hT t ti bp;obtain ⟨inf,an,_,_,z,hz,bn⟩:=a2.inf;refine QE fun β S st a w hR hO hA=>?_
 have bc:z.cells.size=(DA ti).length:=by grind [Array.length_toList,DA]
 have a9:∀ (i:Nat) (x:AV),(DA ti)[i]? = some x->RdA β S (look st.h) w (tmv a) (z.cells.getD i undef) x:=by
  intro i x hx;simp only [DA,Qoi,Qod] at hx;obtain ⟨v,hv,rfl⟩:=hx;have:z.cells.getD i undef=v:=by
   rw [<- bn] at hv;obtain ⟨hi,he⟩:=Qo8.1 hv;have bi:i<z.cells.size:=by simpa using hi
   simp only [Array.getD,bi,dite_true];simpa using he
  grind [As]
 have ar:(aj.map fun x=>(x.1,a.eval x.2)).toList=aj.toList.map fun p=>(p.1,a.eval p.2):=by simp
 cases hk:ti.kd with
 |struct=>
  obtain ⟨fs,hu,bk,a7⟩:=a2.kstruct hk;let sz:Field->Nat:=fun f=>((P.info? f.type).map (·.size)).getD 0
  have ay:∀ f∈fs.toList,∃ i,P.info? f.type=some i/\i.size=sz f:=fun f hf=>by
   obtain ⟨i,hi,_⟩:=a7 f hf;exact ⟨i,hi,by simp [sz,hi]⟩
  have a3:∀ (i off t:Nat) (ak:TyI),ti.fields[i]? = some (off,t)->look tt t=some ak->(fs.map fun f=>(f.offset,sz f))[i]? = some (off,ak.size):=by
   intro i off t ak hf aq;rw [<- bk,Qoi,Qod] at hf;obtain ⟨fd,a6,he⟩:=hf;injection he with he1 he2
   obtain ⟨inf,an,a8⟩:=ay fd (Qog a6);obtain ⟨a5,ac,au,_⟩:=(hT t ak aq).inf;rw [<- he2,an] at ac;injection ac with ac
   subst ac;have bg:fs[i]? = some fd:=by simpa using a6
   simp [bg,he1,<- a8,au]
  obtain ⟨az,h1,h2,h3⟩:=Dm a3 (ρ:=a.eval) aj.toList _ _ z.cells (fun p hp=>hO.at (Q3Y ho hp)) bc a9 h;refine ⟨.agg az,?_,.ag _ _ h2 h3⟩;have hm:=Q4H (P:=P) (w:=w) (f:=fun f:Field=>do pure (f.offset,<- sizeOf f.type)) (g:=fun f=>(f.offset,sz f)) fs (fun f hf=>by
   obtain ⟨i,hi,he⟩:=ay f hf;simp [sizeOf,YI hi,he])
  unfold execOp;rw [ho];simp only [Instr.build,Qob,zeroValue,YI an,hz,X5 hu,Qo7,Qou,hm,ar,h1]
 |array e ax n=>
  obtain ⟨hu,bv,⟨i0,bb,ba⟩,bl,ao⟩:=a2.karr e ax n hk;have a3:∀ (i off t:Nat) (ak:TyI),ti.fields[i]? = some (off,t)->look tt t=some ak->(fun i=>some (i*ax,ax)) i=some (off,ak.size):=by
   intro i off t ak hf aq;rw [ao,Qoi,Qod] at hf;obtain ⟨j,hj,he⟩:=hf;have bm:j=i:=by
    have:=Qo8.1 hj;obtain ⟨h1,h2⟩:=this;simp at h2;omega
   injection he with he1 he2
   obtain ⟨a5,ac,au,_⟩:=(hT t ak aq).inf;rw [<- he2,bb] at ac;injection ac with ac
   subst ac;simp only [Option.some.injEq,Prod.mk.injEq];exact ⟨by rw [<- he1,bm],Q0⟩
  obtain ⟨az,h1,h2,h3⟩:=Dm a3 (ρ:=a.eval) aj.toList _ _ z.cells (fun p hp=>hO.at (Q3Y ho hp)) bc a9 h;refine ⟨.agg az,?_,.ag _ _ h2 h3⟩;have bo:(sizeOf e).run P w = .ok ax w:=by simp [sizeOf,YI bb,ba]
  unfold execOp;rw [ho];simp only [Instr.build,Qob,zeroValue,YI an,hz,X5 hu,Qo7,Qou,bo,ar,h1]
 |_=>simp [hk,VH] at hs
def Vr (S:Nat->Prop) (w:World) (cs:Array Value) (s:Nat) (rows:List (List D)):Prop:=
 rows.length*s<=cs.size/\(∀ (i:Nat) (r:List D),rows[i]? = some r->r.length=s)/\∀ (i j:Nat) (r:List D) (x:D),rows[i]? = some r->r[j]? = some x->∃ v,cs[i*s+j]? = some v/\Rd S w v x
theorem Q3E:∀ {z:List D} {l:List AV} {ds:List D},QaI z l=some ds->ds.length=z.length/\l.length=z.length/\l.all Q3g=true/\(∀ t,∀ x∈l,gds t x=false) /\
  ∀ (β:Nat->oP Nat) (S:Nat->Prop) (h:Nat->oP Ob) (w:World) (tm:Nat->Value) (vs:Nat->Value),(∀ (i:Nat) (x:AV),l[i]? = some x->RdA β S h w tm (vs i) x)->∀ (i:Nat) (d:D),ds[i]? = some d->Rd S w (vs i) d
 |[],[],ds,h=>by
  grind [QaI]
 |[],_::_,ds,h=>by trivial
 |_::_,[],ds,h=>by simp [QaI] at h
 |z::zs,a::r,ds,h=>by
  simp only [QaI] at h;split at h
  case h_2=>cases h
  rename_i l hl;obtain ⟨h1,h2,h3,h4,h5⟩:=Q3E hl;have aj:∀ d0,ds=d0::l->Q3g a=true->(∀ t,gds t a=false)->(∀ (β:Nat->oP Nat) (S:Nat->Prop) (h:Nat->oP Ob) (w:World) (tm:Nat->Value) (v:Value),RdA β S h w tm v a->Rd S w v d0) ->
    ds.length=(z::zs).length/\(a::r).length=(z::zs).length/\(a::r).all Q3g=true/\(∀ t,∀ x∈a::r,gds t x=false) /\
    ∀ (β:Nat->oP Nat) (S:Nat->Prop) (h:Nat->oP Ob) (w:World) (tm:Nat->Value) (vs:Nat->Value),(∀ (i:Nat) (x:AV),(a::r)[i]? = some x->RdA β S h w tm (vs i) x)->∀ (i:Nat) (d:D),ds[i]? = some d->Rd S w (vs i) d:=by
   intro d0 hd ho hg hr;subst hd;refine ⟨by simp [h1],by simp [h2],by simp [ho,h3],fun t x hx=>?_,fun β S h w tm vs hv i d hi=>?_⟩
   ·grind
   ·cases i with
    |zero=>simp at hi;subst hi;exact hr β S h w tm _ (hv 0 a rfl)
    |succ i=>exact h5 β S h w tm (fun i=>vs (i+1)) (fun i x hx=>hv (i+1) x Q4) i d Q4
  split at h
  ·rename_i x;cases h;exact aj x rfl rfl (fun _=>rfl) (fun _ _ _ _ _ _ hv=>hv.d_inv)
  ·split at h
   ·cases h;exact aj _ rfl rfl (fun _=>rfl) (fun _ _ _ _ _ v hv=>by rw [hv.nil_inv];exact .sl0 _ _ _)
   ·cases h
  ·cases h
end
end Go.Vx
namespace Go.Vx
variable {hl:Nat->oP Ob} {ev:Operand->AV} {S:Nat->Prop} {o:Oper}
section
variable {P:Program} {E:Env} {R:Type}
theorem Vr.mono {S S':Nat->Prop} {w w':World} {cs:Array Value} {s:Nat} {rows:List (List D)} (h:Vr S w cs s rows) (hS:∀ b,S b->S' b) (hw:∀ b,S b->w'.heap[b]? = w.heap[b]?):Vr S' w' cs s rows:=
 ⟨h.1,h.2.1,fun i j r x h1 h2=>by
  obtain ⟨v,hv,hr⟩:=h.2.2 i j r x h1 h2;exact ⟨v,hv,hr.mono hS hw⟩⟩
theorem Vr.set {S:Nat->Prop} {w:World} {cs:Array Value} {s:Nat} {rows:List (List D)} (h:Vr S w cs s rows) {i:Nat} {row:List D} {vs:Array Value} (hi:i<rows.length) (hl:row.length=s) (a3:vs.size=s)
  (hr:∀ (j:Nat) (d:D),row[j]? = some d->Rd S w (vs.getD j undef) d):Vr S w (Pd cs (i*s) vs.toList) s (rows.set i row):=by
 obtain ⟨h1,h2,h3⟩:=h;have ay:(i+1)*s<=rows.length*s:=Qoe s hi;have au:(i+1)*s=i*s+s:=QoA i s;have ax:i*s+vs.toList.length<=cs.size:=by grind
 have ak:∀ j,(Pd cs (i*s) vs.toList)[j]? = if i*s<=j/\j<i*s+s then vs[j-i*s]? else cs[j]?:=by
  grind [R7]
 refine ⟨by grind [Uy],fun i' r' az=>?_,fun i' j' r' x h4 h5=>?_⟩
 ·grind
 ·by_cases e2:i'=i
  ·subst e2;rw [Qos hi] at h4;injection h4 with h4;subst h4
   have hj:j'<s:=by have:=(Qo8.1 h5).1;omega
   refine ⟨vs.getD j' undef,?_,hr j' x h5⟩
   simp_all
  ·rw [Qot Q0] at h4;obtain ⟨u,hu,aw⟩:=h3 i' j' r' x h4 h5;refine ⟨u,?_,aw⟩;have a2:j'<s:=by
    have:=h2 i' r' h4;have:=(Qo8.1 h5).1;omega
   rw [ak,Qok ?_]
   ·exact hu
   ·rcases Nat.lt_or_gt_of_ne e2 with ao | ar
    ·have:(i'+1)*s<=i*s:=Qoe s ao;have:(i'+1)*s=i'*s+s:=QoA i' s;omega
    ·have:(i+1)*s<=i'*s:=Qoe s ar;omega
theorem Vr.zero {S:Nat->Prop} {w:World} {zero:Array Value} {z:List D} {n m:Nat} (hz:z.length=zero.size) (hr:∀ (j:Nat) (x:D),z[j]? = some x->∃ v,zero[j]? = some v/\Rd S w v x) (ao:n<=m) :
  Vr S w ((Array.range (m*zero.size)).map (zero[· % zero.size]!)) zero.size (List.replicate n z):=by
 refine ⟨by simp_all [Qoe],fun i r h=>?_,fun i j r x h1 h2=>?_⟩
 ·grind
 ·rw [List.getElem?_replicate] at h1;split at h1
  case isFalse=>cases h1
  rename_i hi;injection h1 with h1;subst h1
  obtain ⟨v,hv,hx⟩:=hr j x h2;refine ⟨v,?_,hx⟩;have hj:j<zero.size:=(Qom.1 hv).1;have ak:(i+1)*zero.size<=m*zero.size:=Qoe _ Q0;have ac:(i+1)*zero.size=i*zero.size+zero.size:=QoA i _;have aj:(i*zero.size+j) % zero.size=j:=by rw [Nat.add_comm,Nat.add_mul_mod_self_right];exact Nat.mod_eq_of_lt hj
  grind
theorem AH {ac e s:Nat} {rows:List (List D)} {rd:List Nat} (hn:hl ac=none)
  (h:∀ β S st a w,Rel E β S st a w->BJ β S st a w o ev->(∀ l,l∈rd->look st.h l=hl l)->∃ (cs:Array Value) (cap:Nat),(execOp a.eval o).run P w = .ok (.value (.slice (some ⟨w.heap.size,0,none⟩) rows.length cap)) (w.alloc (.cells cs e))/\cs.size=cap*s/\rows.length<=cap/\cap<=maxLen/\Vr S w cs s rows) :
  KE P E o ev hl ⟨.arr ac,[]++[(ac,some (.arr e s rows))],rd⟩:=by
 intro β S st a w hR hO hA a2 K Q hK;obtain ⟨cs,cap,an,ao,aj,ak,h1,h2,h3⟩:=h β S st a w hR hO (fun l aq=>hA l (.inl aq));have ar:look st.h ac=none:=by rw [hA ac (.inr (by simp [wrL]))];exact hn
 have hc:UY st ac=true:=by grind [WI]
 unfold Oper.wp;rw [an];refine hK _ _ ⟨RY β ac (some w.heap.size),S,?_,?_⟩
 ·refine hR.new ar hc (.inr ⟨w.heap.size,cs,by simp [RY],Jx _ _,h1,h2,fun i j r x h4 h5=>?_⟩);obtain ⟨v,hv,hr⟩:=h3 i j r x h4 h5;exact ⟨v,hv,hr.mono (fun _ hb=>hb) (fun b hb=>ZH _ _ (hR.hr.sb b hb))⟩
 ·exact .arr ac w.heap.size cap e s rows cs e (0,0) (by simp [RY]) (by simp [MO,Uk]) (Jx _ _) ao aj ak
theorem Qbk {β:Nat->oP Nat} {st:St} {a:Act} {w:World} (hR:Rel E β S st a w) (ac:Obj):Rel E β (fun b=>S b\/b=w.heap.size) st a (w.alloc ac):=by
 have:=hR.upd (w':=w.alloc ac) (β':=β) (S':=fun b=>S b\/b=w.heap.size) (H':=st.h) (fun _ h=>.inl h) (fun b hb=>ZH w ac (hR.hr.sb b hb)) (fun _=>False)
  (fun l _=>⟨rfl,rfl,fun b hs hb=>ZH w ac (NA hR hs hb)⟩) (fun l h=>h.elim) (fun l o h=>h.elim) hR.hr.inj
  (fun l b hs hb hS=>by
   rcases hS with hS | hS
   ·exact hR.hr.apart l b hs hb hS
   ·have:=NA hR hs hb;omega)
  hR.hr.own
  (fun b hS=>by
   simp;rcases hS with hS | hS
   ·have:=hR.hr.sb b hS;omega
   ·omega)
  (fun b hS=>by
   rcases hS with hS | hS
   ·exact hR.hr.sfr b hS
   ·right;right;have:=hR.hr.fr.size;omega)
  (Q7I hR.hr.fr ac)
 exact this
theorem Vr.rd {w:World} {b cap s:Nat} {cs:Array Value} {ty:TypeId} {fz:Nat×Nat} {rows:List (List D)} (h:Vr S w cs s rows) (hb:w.heap[b]? = some (.cells cs ty fz)) (hS:S b) (ac:rows.length<=cap) :
  Rd S w (.slice (some ⟨b,0,none⟩) rows.length cap) (.sl s rows):=by
 obtain ⟨h1,h2,h3⟩:=h;refine .sl _ cap s rows (fun i j=>cs.getD (i*s+j) undef) hS ac h2 (fun i j r x h4 h5=>?_) (fun i j r x h4 h5=>?_)
 ·obtain ⟨v,hv,_⟩:=h3 i j r x h4 h5;rw [HQ,Nat.zero_add,JC hb]
  simp_all
 grind [undef,Td,Array.getElem?_eq_some_iff]
theorem Q4N {e s:Nat} {rows:List (List D)} {rd:List Nat}
  (h:∀ β S st a w,Rel E β S st a w->BJ β S st a w o ev->∃ (cs:Array Value) (cap:Nat),(execOp a.eval o).run P w = .ok (.value (.slice (some ⟨w.heap.size,0,none⟩) rows.length cap)) (w.alloc (.cells cs e))/\rows.length<=cap/\Vr S w cs s rows) :
  KE P E o ev hl ⟨.d (.sl s rows),[],rd⟩:=by
 intro β S st a w hR hO hA ao K Q hK;obtain ⟨cs,cap,aj,ac,h1⟩:=h β S st a w hR hO;unfold Oper.wp;rw [aj];refine hK _ _ ⟨β,fun b=>S b\/b=w.heap.size,Qbk hR _,.d _ _ ?_⟩;exact (h1.mono (fun _ hb=>.inl hb) (fun b hb=>ZH _ _ (hR.hr.sb b hb))).rd (Jx _ _) (.inr rfl) ac
theorem Cp {β:Nat->oP Nat} {S:Nat->Prop} {h:Nat->oP Ob} {w:World} {tm:Nat->Value} {ρ:Operand->Value} {ev:Operand->AV} {z:List D} :
  ∀ (aj:List (Nat×Operand)) (rows ac:List (List D)) (cs:Array Value),(∀ p∈aj,RdA β S h w tm (ρ p.2) (ev p.2))->Vr S w cs z.length rows->cs.size=rows.length*z.length ->
   LE z rows (VR ev aj)=some ac ->
   ∃ ak,Instr.fill (fun i=>some (i*z.length,z.length)) cs (aj.map fun p=>(p.1,ρ p.2))=some ak/\Vr S w ak z.length ac/\ak.size=cs.size/\ac.length=rows.length
 |[],rows,ac,cs,_,h1,h2,h3=>by
  simp [VR,LE] at h3;subst h3;exact ⟨cs,by simp [Instr.fill],h1,rfl,rfl⟩
 |(i,x)::aj,rows,ac,cs,hp,h1,h2,h3=>by
  simp only [VR,LE] at h3;split at h3
  case h_2=>cases h3
  rename_i row ao;cases hc:Nat.ble (i+1) rows.length with
  |false=>simp [hc] at h3
  |true=>
   simp only [hc,Qoc] at h3;have hi:=Qoj hc;obtain ⟨t1,t2,t3,_,t5⟩:=Q3E ao;obtain ⟨c1,c2,_⟩:=MV (hp (i,x) Q2) t3;have aw:(i+1)*z.length<=rows.length*z.length:=Qoe _ hi;have au:(i+1)*z.length=i*z.length+z.length:=QoA i _;have ar:Instr.fill (fun i=>some (i*z.length,z.length)) cs ((i,ρ x)::aj.map fun p=>(p.1,ρ p.2))=_:=Q4y (i:=i) (off:=i*z.length) (size:=z.length) rfl (by rw [c1,t2]) Q0;rw [QoB,ar];have an:=h1.set (i:=i) (row:=row) (vs:=(ρ x).cells) Q0 t1 (by rw [c1,t2]) (fun j d hd=>t5 β S h w tm (fun j=>(ρ x).cells.getD j undef) c2 j d hd);obtain ⟨ak,g1,g2,g3,g4⟩:=Cp aj (rows.set i row) ac _ (fun p aq=>hp p (by simp [aq])) an (by rw [Uy,h2];simp) h3;exact ⟨ak,g1,g2,by rw [g3,Uy],by rw [g4];simp⟩
theorem Q10 {t:TypeId} {n:Nat} {ac:Array (Nat×Operand)} (ho:o.op = .buildSlice t n ac) {p:Nat×Operand} (hp:p∈ac.toList):p.2∈o.op.operands.toList:=by
 grind [Op.operands]
theorem Qe0 {tt:TT} (hT:TOk P tt) {e:Nat} {ei:TyI} (ak:look tt e=some ei) (aj:ei.zd.length=ei.size) {w:World} {z:Value} (hz:z.cells.toList=ei.zero):∀ (j:Nat) (x:D),ei.zd[j]? = some x->∃ v,z.cells[j]? = some v/\Rd S w v x:=by
 intro j x hx;obtain ⟨v,hv,hr⟩:=(hT e ei ak).zd aj j x hx
 grind
theorem M7 {tt:TT} (hT:TOk P tt) {t:TypeId} {len:Nat} {ac:Array (Nat×Operand)} (ho:o.op = .buildSlice t len ac) {u:Bool} {bb:Nat} {k:Dl->oP R} {r:R}
  (h:Hc tt hl bb u t len (VR ev ac.toList) k=some r):∃ dl,k dl=some r/\KE P E o ev hl dl:=by
 unfold Hc at h;split at h
 case h_2=>cases h
 rename_i e aj hk;cases hc:(Nat.ble (len*aj) 16777216&&(look tt e).isSome&&Nat.beq (Mc tt e).length aj) with
 |false=>simp_all
 |true=>
  simp only [hc,Qoc] at h;simp only [Qo9] at hc;have bn:=Qoj hc.1.1;obtain ⟨ei,a2⟩:=Option.isSome_iff_exists.1 hc.1.2;have an:=Qoa hc.2;have bg:Mc tt e=ei.zd:=by grind [Mc]
  rw [bg] at an h;split at h
  case h_2=>cases h
  rename_i rows ay;obtain ⟨ti,bj,bh⟩:=XR hk Q2;obtain ⟨hu,a6,inf,ao,ax⟩:=(hT t ti bj).ksl _ _ bh;obtain ⟨bm,ak,a4,_,z,hz,ba⟩:=(hT e ei a2).inf;rw [ao] at ak;injection ak with ak
  subst ak;have ar:z.cells.size=aj:=by rw [<- Qol,ba,(hT e ei a2).zlen,<- a4,ax]
  have a9:∀ β S st a w,Rel E β S st a w->BJ β S st a w o ev->∃ cs:Array Value,(execOp a.eval o).run P w = .ok (.value (.slice (some ⟨w.heap.size,0,none⟩) rows.length len)) (w.alloc (.cells cs e))/\cs.size=len*aj/\rows.length=len/\Vr S w cs aj rows:=by
   intro β S st a w hR hO;have base:Vr S w ((Array.range (len*z.cells.size)).map (z.cells[· % z.cells.size]!)) z.cells.size (List.replicate len ei.zd):=
    Vr.zero (by rw [an,ar]) (Qe0 hT a2 (by rw [an,<- a4,ax]) ba) (Qov _)
   rw [ar] at base;obtain ⟨bi,g1,g2,g3,g4⟩:=Cp (ρ:=a.eval) (ev:=ev) (z:=ei.zd) ac.toList (List.replicate len ei.zd) rows _ (fun p hp=>hO.at (Q10 ho hp)) (by rw [an];exact base) (by simp [an]) ay;rw [an] at g1 g2;have aq:rows.length=len:=by rw [g4];simp
   refine ⟨bi,?_,by rw [g3];simp,aq,g2⟩;have aw:(ac.map fun x=>(x.1,a.eval x.2)).toList=ac.toList.map fun p=>(p.1,a.eval p.2):=by simp
   have bk:¬ len*aj>2 ^ 24:=Q0
   unfold execOp;rw [ho];simp only [Instr.buildSlice,Qob,X5 hu,sizeOf,YI ao,ax,Qo7,Qou,bk,if_false,aw];by_cases h0:len*aj=0
   ·have au:((Array.range (len*aj)).map ((#[]:Array Value)[· % (#[]:Array Value).size]!))=((Array.range (len*aj)).map (z.cells[· % aj]!)):=by rw [h0];simp
    simp only [h0,if_true,Qob,Qou,Qo7];rw [h0] at au g1;rw [au,g1,aq];simp [newRow]
   ·simp only [h0,if_false,Qob,zeroValue,YI ao,hz,Qo7,Qou,ar,g1];simp [newRow,aq]
  have az:len<=maxLen:=by
   have:len*1<=len*aj:=Qow len a6;unfold maxLen;omega
  cases u with
  |true=>
   simp only [Qoc] at h;obtain ⟨hn,h⟩:=Vn h;refine ⟨_,h,AH hn fun β S st a w hR hO _=>?_⟩;obtain ⟨cs,g1,g2,g3,g4⟩:=a9 β S st a w hR hO;exact ⟨cs,len,g1,g2,Q0,az,g4⟩
  |false=>
   simp only [cond_false] at h;refine ⟨_,h,Q4N (e:=e) fun β S st a w hR hO=>?_⟩;obtain ⟨cs,g1,g2,g3,g4⟩:=a9 β S st a w hR hO;exact ⟨cs,len,g1,Q0,g4⟩
theorem M8 {n:Nat} {u:Unit} (h:Yn n=some u):n<=140737488355328:=by
 unfold Yn at h;cases hb:Nat.ble n 140737488355328 with
 |true=>simp_all
 |false=>simp_all
theorem Qa9 {tt:TT} (hT:TOk P tt) {t:TypeId} {l c:Operand} (ho:o.op = .makeSlice t l c) {u:Bool} {a6:Nat} {k:Dl->oP R} {r:R}
  (h:Qdp tt hl a6 u t (ev l) (ev c) k=some r):∃ dl,k dl=some r/\KE P E o ev hl dl:=by
 unfold Qdp at h;cases u with
 |false=>simp at h
 |true=>
  simp only [Qoc] at h;split at h
  case h_2=>cases h
  rename_i e ak kn n km m hk bb bk;split at h
  case h_2=>cases h
  rename_i ei au;cases hc:(Nat.ble 1 ei.bytes&&Nat.beq (Mc tt e).length ak) with
  |false=>simp_all
  |true=>
   simp only [hc,Qoc] at h;simp only [Qo9] at hc;have ar:=Qoj hc.1;have ay:=Qoa hc.2;have a9:Mc tt e=ei.zd:=by simp [Mc,au]
   rw [a9] at ay h;obtain ⟨_,h,bj⟩:=X6 h;obtain ⟨_,h,aj⟩:=X6 h;have aj:=M8 (aj rfl);have bp:0<=n/\n<=m:=by
    have:=bj rfl;cases hd:(decide (0<=n)&&decide (n<=m)) with
    |true=>simpa using hd
    |false=>simp [hd] at this
   obtain ⟨hn,h⟩:=Vn h;obtain ⟨ti,bh,bc⟩:=XR hk Q2;obtain ⟨hu,bn,inf,an,az⟩:=(hT t ti bh).ksl _ _ bc;obtain ⟨bm,ac,a2,bg,z,hz,a5⟩:=(hT e ei au).inf;rw [an] at ac;injection ac with ac
   subst ac;have ao:z.cells.size=ak:=by rw [<- Qol,a5,(hT e ei au).zlen,<- a2,az]
   have bl:m.toNat<=140737488355328:=Nat.le_trans (by have:=Qow m.toNat ar;omega) aj;have bi:IntKind.i64.wrap m=m:=by unfold IntKind.wrap;simp [IntKind.bits,IntKind.signed];omega
   have a8:IntKind.i64.wrap n=n:=by unfold IntKind.wrap;simp [IntKind.bits,IntKind.signed];omega
   refine ⟨_,h,AH hn fun β S st a w hR hO _=>?_⟩;have a3:=(bb▸hO.at (x:=l) (by simp [ho,Op.operands])).int_inv;have a4:=(bk▸hO.at (x:=c) (by simp [ho,Op.operands])).int_inv;have base:Vr S w ((Array.range (m.toNat*z.cells.size)).map (z.cells[· % z.cells.size]!)) z.cells.size (List.replicate n.toNat ei.zd):=
    Vr.zero (by rw [ay,ao]) (Qe0 hT au (by rw [ay,<- a2,az]) a5) Q0
   rw [ao] at base;refine ⟨_,m.toNat,?_,?_,?_,?_,base⟩
   ·have aq:(m<0||(inf.bytes:Int)*m>2 ^ 48)=false:=by
     rw [bg];have h1:((ei.bytes:Int)*m)=((m.toNat*ei.bytes:Nat):Int):=by
      rw [Int.natCast_mul,Int.toNat_of_nonneg Q0,Int.mul_comm]
     have h2:¬ m<0:=Q0
     have h3:¬ ((m.toNat*ei.bytes:Nat):Int)>2 ^ 48:=Q0
     rw [h1,decide_eq_false h2,decide_eq_false h3];rfl
    have ba:((m<0||(inf.bytes:Int)*m>2 ^ 48)||n<0||n>m)=false:=by
     rw [aq];simp;omega
    unfold execOp;rw [ho];simp only [Instr.makeSlice,Qob,X5 hu,asInt,asIntOf,a3,a4,YI an,Qo7,Qou,bi,a8,ba,Bool.false_eq_true,if_false,run_askRoom,sizeOf,az];by_cases h0:m.toNat*ak=0
    ·have ax:((Array.range (m.toNat*ak)).map ((#[]:Array Value)[· % (#[]:Array Value).size]!))=((Array.range (m.toNat*ak)).map (z.cells[· % ak]!)):=by rw [h0];simp
     simp only [h0,if_true,Qob,Qou,Qo7];rw [h0] at ax;rw [ax];simp [newRow]
    ·simp only [h0,if_false,Qob,zeroValue,YI an,hz,Qo7,Qou,ao];simp [newRow]
   ·simp
   ·simp;omega
   ·unfold maxLen;omega
end
end Go.Vx
namespace Go.Vx
variable {β:Nat->oP Nat} {S:Nat->Prop} {w:World} {a:Act}
section
variable {P:Program} {E:Env} {R:Type}
theorem Rd.one {v:Value} {x:D} (h:Rd S w v x):v.oneCell'=true:=by cases h <;> rfl
structure Src (S:Nat->Prop) (w:World) (esz:Nat) (v:Value) (news:List (List D)) (vals:List Value):Prop where
 form:(v = .slice none 0 0/\news=[])\/(∃ c,v = .slice none 0 c/\news=[])\/∃ (ad:Addr) (c:Nat),v = .slice (some ad) news.length c/\∀ (j:Nat) (u:Value),vals[j]? = some u->w.cell? (ad.add j)=some u
 len:vals.length=news.length*esz
 one:∀ u∈vals,u.oneCell'=true
 row:∀ (i:Nat) (r:List D),news[i]? = some r->r.length=esz
 rd:∀ (i j:Nat) (r:List D) (x:D),news[i]? = some r->r[j]? = some x->∃ u,vals[i*esz+j]? = some u/\Rd S w u x
theorem Src.of_fun {ac:Nat} {news:List (List D)} {ad:Addr} {c:Nat} (f:Nat->Value) (ak:0<ac) (aj:∀ (i:Nat) (r:List D),news[i]? = some r->r.length=ac)
  (hc:∀ (i j:Nat) (r:List D) (x:D),news[i]? = some r->r[j]? = some x->w.cell? (ad.add (i*ac+j))=some (f (i*ac+j))/\Rd S w (f (i*ac+j)) x) :
  ∃ vals,Src S w ac (.slice (some ad) news.length c) news vals:=by
 have split:∀ q,q<news.length*ac->∃ i j r x,q=i*ac+j/\news[i]? = some r/\r[j]? = some x:=by
  intro q hq;have hi:q / ac<news.length:=Nat.div_lt_of_lt_mul (by grind);have hj:q % ac<ac:=Nat.mod_lt _ ak;have h1:news[q / ac]? = some (news[q / ac]):=Qon hi;have h2:=aj _ _ h1;refine ⟨q / ac,q % ac,news[q / ac],(news[q / ac])[q % ac]'Q0,?_,h1,Qon _⟩
  grind [Nat.mul_comm,Nat.div_add_mod]
 refine ⟨(List.range (news.length*ac)).map f,⟨.inr (.inr ⟨ad,c,rfl,fun j u hu=>?_⟩),by simp,fun u hu=>?_,aj,fun i j r x h1 h2=>?_⟩⟩
 ·grind
 ·obtain ⟨q,hq,rfl⟩:=List.mem_map.1 hu;obtain ⟨i,j',r,x,rfl,h1,h2⟩:=split q Q4;exact (hc i j' r x h1 h2).2.one
 ·have hi:i<news.length:=(Qo8.1 h1).1;have hj:j<ac:=by have:=aj i r h1;have:=(Qo8.1 h2).1;omega
  have an:(i+1)*ac<=news.length*ac:=Qoe _ hi
  grind
theorem Q3v {ac:Nat} (an:0<ac) {hl:Nat->oP Ob} {av:AV} {news:List (List D)} {rx:List Nat} (h:Q14 ac hl av=some (news,rx))
  {st:St} (hR:Rel E β S st a w) {v:Value} (hv:RdA β S (look st.h) w (tmv a) v av) (hA:∀ l,l∈rx->look st.h l=hl l):∃ vals,Src S w ac v news vals:=by
 have ak:∀ v,(v = .slice none 0 0\/∃ c,v = .slice none 0 c)->Src S w ac v [] []:=fun v hv=>
  ⟨by grind,by simp,by simp,by simp,by simp⟩
 unfold Q14 at h;split at h
 ·rename_i s rows;cases hb:Nat.beq s ac with
  |false=>simp_all
  |true=>
   obtain rfl:=Qoa hb;simp only [hb,Qoc,Option.some.injEq,Prod.mk.injEq] at h;obtain ⟨rfl,rfl⟩:=h;rcases hv.d_inv.sl_inv with ⟨rfl,ad,cap,rfl⟩ | ⟨ad,cap,c,rfl,hS,ao,aq,hc,hr⟩
   ·cases ad with
    |none=>exact ⟨[],ak _ (.inr ⟨cap,rfl⟩)⟩
    |some ad=>exact ⟨[],⟨.inr (.inr ⟨ad,cap,rfl,by simp⟩),by simp,by simp,by simp,by simp⟩⟩
   ·refine Src.of_fun (fun q=>c (q / s) (q % s)) an aq fun i j r x h1 h2=>?_
    have hj:j<s:=by grind
    simp_all [Nat.add_comm,Nat.add_mul_div_right,Nat.div_eq_of_lt,Nat.zero_add,Nat.add_mul_mod_self_right,Nat.mod_eq_of_lt]
 ·cases h;exact ⟨[],ak _ (.inl hv.nil_inv)⟩
 ·rename_i l;split at h
  ·rename_i e s rows a7;cases hb:Nat.beq s ac with
   |false=>simp [hb] at h
   |true=>
    obtain rfl:=Qoa hb;simp only [hb,Qoc,Option.some.injEq,Prod.mk.injEq] at h;obtain ⟨rfl,rfl⟩:=h;have au:look st.h l=some (.arr e s rows):=by simp_all
    rcases RdA.arr_inv au hv with ⟨_,rfl,rfl⟩ | ⟨b,cap,cs,ty,fz,aw,rfl,hw,a8,ao,a6⟩
    ·exact ⟨[],ak _ (.inl rfl)⟩
    ·rcases hR.hr.ob l _ au with ⟨hn,_⟩ | ⟨b2,ay,ar,a2,aq,a3,a5⟩
     ·rw [aw] at hn;cases hn
     obtain rfl:b=b2:=by rw [aw] at ar;injection ar
     refine Src.of_fun (fun q=>ay.getD q undef) an a3 fun i j r x h1 h2=>?_
     obtain ⟨u,hu,a4⟩:=a5 i j r x h1 h2;have az:=(Qom.1 hu).1;have aj:=Td az;refine ⟨by rw [HQ,Nat.zero_add,JC a2];exact aj,?_⟩;rw [hu] at aj;injection aj with aj
     rw [<- aj];exact a4
  ·cases h
 ·cases h
theorem PZ {t ty e:Nat} {i:TypeInfo} {z:Value} {aj base:Nat} (ht:P.underlying t=some (.slice e)) (hi:P.info? e=some i) (hz:i.zero=some z) (aq:i.size=aj) (az:z.cells.size=aj) (au:0<aj)
  {v:Value} {n:Nat} {xs:List Value} (an:w.ownsRow base e aj v n xs) {x:Value} {news:List (List D)} {vals:List Value} (ak:Src S w aj x news vals)
  (ax:n+news.length<=maxLen) (ao:(n+news.length)*i.bytes<=140737488355328) (ar:base<=w.heap.size) :
  ∃ v' w',(Builtin.append_ #[t,t] ty #[v,x]).run P w = .ok v' w'/\w'.ownsRow base e aj v' (n+news.length) (xs++vals)/\w.grownBy w' v.ownBlock/\(v'.ownBlock=v.ownBlock\/v'.ownBlock=some w.heap.size):=by
 have ac:∀ c,x = .slice none 0 c->news=[]->∃ v' w',(Builtin.append_ #[t,t] ty #[v,x]).run P w = .ok v' w'/\w'.ownsRow base e aj v' (n+news.length) (xs++vals)/\w.grownBy w' v.ownBlock/\(v'.ownBlock=v.ownBlock\/v'.ownBlock=some w.heap.size):=by
  intro c hx hn;subst hx;subst hn;have hv:vals=[]:=Qoh (by simpa using ak.len);subst hv;refine ⟨v,w,?_,by simpa using an,⟨rfl,rfl,rfl,Qov _,fun _ _ _=>rfl⟩,.inl rfl⟩;rcases an.2 with ⟨rfl,rfl⟩ | ⟨g,cap,a4,rfl,_,_,ay,_⟩
  ·simp [Builtin.append_,X5 ht,sizeOf,YI hi,Builtin.lenOf,Builtin.firstCells]
  ·simp [Builtin.append_,X5 ht,sizeOf,YI hi,Builtin.lenOf,Builtin.firstCells,ay,storeCells]
 rcases ak.form with ⟨h1,h2⟩ | ⟨c,h1,h2⟩ | ⟨ad,c,rfl,hc⟩
 ·exact ac 0 h1 h2
 ·exact ac c h1 h2
 ·obtain ⟨v',w',g1,g2,g3,_,g5⟩:=run_append_own_at (P:=P) w base t ty e i z aj i.bytes ht hi hz aq rfl az au v n xs an ad news.length c vals ak.len hc ak.one ax ao ar;exact ⟨v',w',g1,g2,g3,g5⟩
theorem TJ {o:Oper} {c:Call} {s x:Operand} {t:Nat} (ho:o.op = .call c) (hc:c.callee = .builtin .append) (ha:c.args.toList=[s,x]) (hat:c.argTypes.toList=[t,t]) {w w':World} {v':Value}
  (h:(Builtin.append_ #[t,t] o.type #[a.eval s,a.eval x]).run P w = .ok v' w'):(execOp a.eval o).run P w = .ok (.value v') w':=by
 have aj:c.args = #[s,x]:=by grind
 have ac:c.argTypes = #[t,t]:=by grind
 simp_all [execOp,resolve,invoke,builtin,Qob,Qou,Qo7,List.map_toArray,QoB,List.map_nil]
def CS (old:oP Nat) (h:List (Nat×Ob)):List (Nat×Ob):=
 match old with
 |some l=>rem l h
 |none=>h
theorem Rs {st:St} {w w':World} (hR:Rel E β S st a w) {ac e aj:Nat} {rows news:List (List D)} {vals:List Value} (bo:∀ (i j:Nat) (r:List D) (x:D),news[i]? = some r->r[j]? = some x->∃ u,vals[i*aj+j]? = some u/\Rd S w u x) (bq:∀ (i:Nat) (r:List D),news[i]? = some r->r.length=aj)
  (hn:look st.h ac=none) (hc:UY st ac=true) {v v':Value} {base:Nat} {xs:List Value} (old:oP Nat)
  (ao:∀ l,old=some l->(look st.h l).isSome=true)
  (aq:∀ b,v.ownBlock=some b->∃ l,old=some l/\β l=some b)
  (bv:∀ (i j:Nat) (r:List D) (y:D),rows[i]? = some r->r[j]? = some y->∃ u,xs[i*aj+j]? = some u/\Rd S w u y) (bl:∀ (i:Nat) (r:List D),rows[i]? = some r->r.length=aj) (bn:xs.length=rows.length*aj)
  (a7:w'.ownsRow base e aj v' (rows.length+news.length) (xs++vals)) (hg:w.grownBy w' v.ownBlock) (hat:v'.ownBlock=v.ownBlock\/∀ b,v'.ownBlock=some b->w.heap.size<=b) :
  ∃ β' S',Rel E β' S' ⟨st.n,st.tm,(ac,.arr e aj (rows++news))::rem ac (CS old st.h)⟩ a w' /\
   RdA β' S' (look ((ac,.arr e aj (rows++news))::rem ac (CS old st.h))) w' (tmv a) v' (.arr ac):=by
 have ax:∀ k,look ((ac,Ob.arr e aj (rows++news))::rem ac (CS old st.h)) k=if k=ac then some (.arr e aj (rows++news)) else if old=some k then none else look st.h k:=by
  intro k;rw [Uk];by_cases e1:k=ac
  ·simp [e1]
  ·rw [Qok e1,Qok e1];cases old with
   |none=>simp [CS]
   |some l=>
    simp only [CS,Bg,Option.some.injEq];by_cases e2:k=l
    ·simp [e2]
    ·rw [Qok e2,Qok (fun h=>e2 h.symm)]
 have a9:∀ b,S b->w'.heap[b]? = w.heap[b]?:=fun b hS=>hg.block b (hR.hr.sb b hS) (fun e1=>by
  obtain ⟨l,hl,hb⟩:=aq b e1.symm;exact hR.hr.apart l b (ao l hl) hb hS)
 have a4:∀ k b,(look st.h k).isSome=true->old≠some k->β k=some b->w'.heap[b]? = w.heap[b]?:=fun k b hs aw hb=>hg.block b (NA hR hs hb) (fun e1=>by
  obtain ⟨l,hl,au⟩:=aq b e1.symm;exact aw (by rw [hl,hR.hr.inj k l b hs (ao l hl) hb au]))
 have bx:(xs++vals).length=(rows.length+news.length)*aj:=a7.1;have a3:∀ (i j:Nat) (r:List D) (y:D),(rows++news)[i]? = some r->r[j]? = some y->∃ u,(xs++vals)[i*aj+j]? = some u/\Rd S w' u y:=by
  intro i j r y h1 h2;by_cases hi:i<rows.length
  ·rw [List.getElem?_append_left hi] at h1;obtain ⟨u,hu,hr⟩:=bv i j r y h1 h2;refine ⟨u,?_,hr.mono (fun _ h=>h) a9⟩;rw [List.getElem?_append_left ((Qo8.1 hu).1)];exact hu
  ·rw [List.getElem?_append_right Q0] at h1;obtain ⟨u,hu,hr⟩:=bo _ j r y h1 h2;refine ⟨u,?_,hr.mono (fun _ h=>h) a9⟩;have hm:i*aj=(i-rows.length)*aj+rows.length*aj:=by rw [<- Nat.add_mul];congr 1;omega
   rw [List.getElem?_append_right Q0,bn,show i*aj+j-rows.length*aj=(i-rows.length)*aj+j from Q0];exact hu
 have bb:∀ (i:Nat) (r:List D),(rows++news)[i]? = some r->r.length=aj:=by
  intro i r h1;by_cases hi:i<rows.length
  ·rw [List.getElem?_append_left hi] at h1;exact bl i r h1
  ·rw [List.getElem?_append_right Q0] at h1;exact bq _ r h1
 obtain ⟨gb,ay,bp,br⟩:∃ gb:oP Nat,v'.ownBlock=gb/\(∀ β',β' ac=gb->ObR β' S (look ((ac,Ob.arr e aj (rows++news))::rem ac (CS old st.h))) w' ac (.arr e aj (rows++news))) /\
   ∀ β',β' ac=gb->RdA β' S (look ((ac,.arr e aj (rows++news))::rem ac (CS old st.h))) w' (tmv a) v' (.arr ac):=by
  rcases a7.2 with ⟨rfl,h0⟩ | ⟨g,cap,bg,rfl,_,hw,a5,bm,bi,a8⟩
  ·have bj:rows++news=[]:=Qoh (by simpa using h0);refine ⟨none,rfl,fun β' hb=>.inl ⟨hb,bj⟩,fun β' hb=>.arr0 ac e aj hb (by rw [ax,Qoo rfl,bj])⟩
  ·have bc:(rows++news).length=rows.length+news.length:=by simp
   refine ⟨some g,rfl,fun β' hb=>.inr ⟨g,bg,hb,hw,?_,bb,fun i j r y h1 h2=>?_⟩,fun β' hb=>?_⟩
   ·rw [bc,bi];exact Qoe _ a5
   ·obtain ⟨u,hu,hr⟩:=a3 i j r y h1 h2;refine ⟨u,?_,hr⟩;rw [<- a8,List.getElem?_take] at hu;split at hu
    ·simpa using hu
    ·cases hu
   ·have:=RdA.arr (S:=S) (tm:=tmv a) (h:=look ((ac,Ob.arr e aj (rows++news))::rem ac (CS old st.h))) ac g cap e aj (rows++news) bg e (0,0) hb (by rw [ax,Qoo rfl]) hw bi (by rw [bc];exact a5) bm;rw [bc] at this;exact this
 have az:∀ k b,k≠ac->(look st.h k).isSome=true->old≠some k->β k=some b->gb=some b->False:=by
  intro k b _ hs aw hb he;rcases hat with h | h
  ·obtain ⟨l,hl,au⟩:=aq b (by rw [<- h,ay,he]);exact aw (by rw [hl,hR.hr.inj k l b hs (ao l hl) hb au])
  ·have:=h b (by rw [ay,he]);have:=NA hR hs hb;omega
 have an:∀ k,k≠ac->(look ((ac,Ob.arr e aj (rows++news))::rem ac (CS old st.h)) k).isSome=true->(look st.h k).isSome=true/\old≠some k:=by
  intro k hk hs;rw [ax,Qok hk] at hs;by_cases e1:old=some k
  ·rw [Qoo e1] at hs;cases hs
  ·rw [Qok e1] at hs;exact ⟨hs,e1⟩
 have bk:old≠some ac:=fun e1=>by have:=ao ac e1;rw [hn] at this;cases this
 refine ⟨RY β ac gb,S,?_,br _ (by simp [RY])⟩;refine hR.upd (fun _ h=>h) a9 (fun k=>k=ac\/old=some k) (fun k hk=>?_) (fun k hk=>?_) (fun k o hk ho=>?_) ?_ ?_ ?_ (fun b hS=>Qoy (hR.hr.sb b hS) hg.size) hR.hr.sfr ?_
 ·have a2:k≠ac:=fun h=>hk (.inl h)
  have bh:old≠some k:=fun h=>hk (.inr h)
  exact ⟨by simp [RY,a2],by rw [ax,Qok a2,Qok bh],fun b hs hb=>a4 k b hs bh hb⟩
 ·rcases hk with rfl | hk
  ·exact .inr hc
  ·left;have a2:k≠ac:=fun h=>bk (h▸hk)
   have ar:look ((ac,Ob.arr e aj (rows++news))::rem ac (CS old st.h)) k=none:=by rw [ax,Qok a2,Qoo hk]
   exact ⟨by simp [RY,a2],fun _=>ar,fun _ _ _ _=>.inl ar,fun b cs ty fz hs=>(by rw [ar] at hs;cases hs),fun _ _ _=>.inl ar⟩
 ·by_cases e1:k=ac
  ·subst e1;rw [ax,Qoo rfl] at ho;injection ho with ho
   subst ho;exact bp _ (by simp [RY])
  ·rcases hk with h | h
   ·exact absurd h e1
   ·rw [ax,Qok e1,Qoo h] at ho;cases ho
 ·intro k k' b h1 h2 h3 h4;unfold RY at h3 h4;by_cases e1:k=ac <;> by_cases e2:k'=ac
  ·rw [e1,e2]
  ·rw [Qoo e1] at h3;rw [Qok e2] at h4;obtain ⟨hs,aw⟩:=an k' e2 h2;exact (az k' b e2 hs aw h4 h3).elim
  ·rw [Qok e1] at h3;rw [Qoo e2] at h4;obtain ⟨hs,aw⟩:=an k e1 h1;exact (az k b e1 hs aw h3 h4).elim
  ·rw [Qok e1] at h3;rw [Qok e2] at h4;exact hR.hr.inj k k' b (an k e1 h1).1 (an k' e2 h2).1 h3 h4
 ·intro k b h1 h2 hS;unfold RY at h2;by_cases e1:k=ac
  ·rw [Qoo e1] at h2;rcases hat with h | h
   ·obtain ⟨l,hl,au⟩:=aq b (by rw [<- h,ay,h2]);exact hR.hr.apart l b (ao l hl) au hS
   ·have:=h b (by rw [ay,h2]);have:=hR.hr.sb b hS;omega
  ·rw [Qok e1] at h2;exact hR.hr.apart k b (an k e1 h1).1 h2 hS
 ·intro k b h1 h2;unfold RY at h2;by_cases e1:k=ac
  ·rw [Qoo e1] at h2;rcases hat with h | h
   ·obtain ⟨l,hl,au⟩:=aq b (by rw [<- h,ay,h2]);exact hR.hr.own l b (ao l hl) au
   ·have:=h b (by rw [ay,h2]);right;have:=hR.hr.fr.size;omega
  ·rw [Qok e1] at h2;exact hR.hr.own k b (an k e1 h1).1 h2
 ·have fr:=hR.hr.fr;refine ⟨hg.os.trans fr.os,hg.tape.trans fr.tape,hg.output.trans fr.output,Nat.le_trans fr.size hg.size,fun b hb hM=>(hg.block b (Qoy hb fr.size) (fun e1=>?_)).trans (fr.block b hb hM)⟩;obtain ⟨l,hl,au⟩:=aq b e1.symm;rcases hR.hr.own l b (ao l hl) au with h | h
  ·exact hM h
  ·omega
theorem Do {st:St} {w w':World} (hR:Rel E β S st a w) {ac e aj:Nat} {rows news:List (List D)} {vals:List Value} {x:Value} (ak:Src S w aj x news vals)
  (hn:look st.h ac=none) (hc:UY st ac=true) {v v':Value} {base:Nat} {xs:List Value} (old:oP Nat)
  (ao:∀ l,old=some l->(look st.h l).isSome=true)
  (ar:∀ b,v.ownBlock=some b->∃ l,old=some l/\β l=some b)
  (aw:∀ (i j:Nat) (r:List D) (y:D),rows[i]? = some r->r[j]? = some y->∃ u,xs[i*aj+j]? = some u/\Rd S w u y) (aq:∀ (i:Nat) (r:List D),rows[i]? = some r->r.length=aj) (au:xs.length=rows.length*aj)
  (an:w'.ownsRow base e aj v' (rows.length+news.length) (xs++vals)) (hg:w.grownBy w' v.ownBlock) (hat:v'.ownBlock=v.ownBlock\/v'.ownBlock=some w.heap.size) :
  ∃ β' S',Rel E β' S' ⟨st.n,st.tm,(ac,.arr e aj (rows++news))::rem ac (CS old st.h)⟩ a w' /\
   RdA β' S' (look ((ac,.arr e aj (rows++news))::rem ac (CS old st.h))) w' (tmv a) v' (.arr ac):=
 Rs hR ak.rd ak.row hn hc old ao ar aw aq au an hg (hat.imp id fun h b hb=>by rw [h] at hb;injection hb with hb;omega)
theorem Q62 {tt:TT} (hT:TOk P tt) {o:Oper} {c:Call} {s x:Operand} {t:Nat} (ho:o.op = .call c) (az:c.callee = .builtin .append) (ha:c.args.toList=[s,x]) (hat:c.argTypes.toList=[t,t]) {g:Bool} {ao:Nat} {ev:Operand->AV} {hl:Nat->oP Ob} {k:Dl->oP R} {r:R}
  (h:Q6b tt ao g hl t (ev s) (ev x) k=some r):∃ dl,k dl=some r/\(g=true->KE P E o ev hl dl):=by
 have bo:c.args = #[s,x]:=by grind
 have bv:s∈o.op.operands.toList:=by grind [Op.operands,Call.operands]
 have bq:x∈o.op.operands.toList:=by simp [ho,Op.operands,Call.operands,az,bo]
 unfold Q6b at h
 ·split at h
  case h_2=>cases h
  rename_i e ak hk;split at h
  case h_2=>cases h
  rename_i ei cn;cases hc:(Nat.ble 1 ei.bytes&&Nat.beq ei.zero.length ak) with
  |false=>simp_all
  |true=>
   simp only [hc,Qoc] at h;simp only [Qo9] at hc;have aw:=Qoj hc.1;split at h
   case h_2=>cases h
   rename_i news rx a2;obtain ⟨ti,c2,cp⟩:=XR hk Q2;obtain ⟨hu,aq,inf,ax,bc⟩:=(hT t ti c2).ksl _ _ cp;obtain ⟨c5,au,db,bg,z,hz,cr⟩:=(hT e ei cn).inf;rw [ax] at au;injection au with au
   subst au;have a4:z.cells.size=ak:=by rw [<- Qol,cr];exact Qoa hc.2
   split at h
   ·-- nil
    rename_i a9;obtain ⟨_,h,ac⟩:=X6 h;obtain ⟨hn,h⟩:=Vn h;refine ⟨_,h,fun hg=>?_⟩;have ac:=M8 (ac hg);intro β S st a w hR hO hA a7 K Q hK;have ar:look st.h ao=none:=by rw [hA ao (.inr (by simp [wrL]))];exact hn
    have a5:UY st ao=true:=by simpa [WI,ar] using a7
    have hv:=(a9▸hO.at bv).nil_inv;obtain ⟨vals,aj⟩:=Q3v aq a2 hR (hO.at bq) (fun l a3=>hA l (.inl a3));have bi:news.length<=140737488355328:=Nat.le_trans (by have:=Qow news.length aw;omega) ac;obtain ⟨v',w',g1,g2,g3,g4⟩:=PZ (ty:=o.type) hu ax hz bc a4 aq (World.ownsRow_nil w w.heap.size e ak) aj (by unfold maxLen;omega) (by rw [bg];simpa using ac) (Qov _);unfold Oper.wp;rw [TJ ho az ha hat (by rw [hv];exact g1)];refine hK _ _ ?_;have:=Do (rows:=[]) (v:=.slice none 0 0) hR aj ar a5 none (fun _ h=>by cases h) (fun b h=>by simp [Value.ownBlock] at h) (fun i j r y h1=>by simp at h1) (fun i r h1=>by simp at h1) Q2 g2 g3 g4;exact this
   ·-- a full slice
    rename_i s0 rows a9;cases hb:Nat.beq s0 ak with
    |false=>simp [hb] at h
    |true=>
     simp only [hb,Qoc] at h;obtain rfl:=Qoa hb;obtain ⟨_,h,a8⟩:=X6 h;obtain ⟨_,h,ac⟩:=X6 h;obtain ⟨hn,h⟩:=Vn h;refine ⟨_,h,fun hg=>?_⟩;have ac:=M8 (ac hg);have a8:news≠[]:=fun e=>by have:=a8 hg;rw [e] at this;cases this
     intro β S st a w hR hO hA a7 K Q hK;have ar:look st.h ao=none:=by rw [hA ao (.inr (by simp [wrL]))];exact hn
     have a5:UY st ao=true:=by simpa [WI,ar] using a7
     obtain ⟨ad,hv,br⟩:=(a9▸hO.at bv).fs_inv;obtain ⟨vals,aj⟩:=Q3v aq a2 hR (hO.at bq) (fun l a3=>hA l (.inl a3));have bi:rows.length+news.length<=140737488355328:=Nat.le_trans (by have:=Qow (rows.length+news.length) aw;omega) ac;have df:0<news.length:=List.length_pos_iff.2 a8;obtain ⟨sa,sc,cq,c3⟩:∃ (sa:Addr) (sc:Nat),a.eval x = .slice (some sa) news.length sc/\∀ (j:Nat) (u:Value),vals[j]? = some u->w.cell? (sa.add j)=some u:=by
      rcases aj.form with ⟨_,h2⟩ | ⟨_,_,h2⟩ | ⟨sa,sc,h1,h2⟩
      ·exact absurd h2 a8
      ·exact absurd h2 a8
      ·exact ⟨sa,sc,h1,h2⟩
     obtain ⟨ce,ay⟩:=Q3v (hl:=hl) (av:=.d (.sl s0 rows)) (news:=rows) (rx:=[]) aq (by simp [Q14]) hR (.d _ _ br) (fun l a3=>by cases a3);have bj:∀ c,a.eval s = .slice none 0 c->rows=[]->o.wp P a w K Q:=by
      intro c ca a6;have cy:a.eval s = .slice none 0 0:=by
       rw [hv,a6] at ca ⊢;injection ca with h1 h2 h3
       rw [h1];rfl
      subst a6;obtain ⟨v',w',g1,g2,g3,g4⟩:=PZ (ty:=o.type) hu ax hz bc a4 aq (World.ownsRow_nil w w.heap.size e s0) aj (by unfold maxLen;omega) (by rw [bg];simpa using ac) (Qov _);unfold Oper.wp;rw [TJ ho az ha hat (by rw [cy];exact g1)];refine hK _ _ ?_;exact Do (rows:=[]) (v:=.slice none 0 0) hR aj ar a5 none (fun _ h=>by cases h) (fun b h=>by simp [Value.ownBlock] at h) (fun i j r y h1=>by simp at h1) (fun i r h1=>by simp at h1) Q2 g2 g3 g4
     rcases ay.form with ⟨h1,h2⟩ | ⟨c,h1,h2⟩ | ⟨oa,oc,h1,h2⟩
     ·exact bj _ h1 h2
     ·exact bj _ h1 h2
     ·have de:oc=rows.length:=by
       rw [hv] at h1;injection h1 with _ _ h3
       exact h3.symm
      obtain ⟨v',w',g1,g2,g3⟩:=run_append_arg_grows (P:=P) w t o.type e inf z s0 inf.bytes hu ax hz bc rfl a4 aq oa rows.length oc ce ay.len h2 sa news.length sc vals aj.len c3 Q0 (by unfold maxLen;omega) (by rw [bg];exact ac);unfold Oper.wp;rw [TJ ho az ha hat (by rw [h1,cq];exact g1)];refine hK _ _ ?_;refine Rs (rows:=rows) (v:=.slice none 0 0) hR aj.rd aj.row ar a5 none (fun _ h=>by cases h) (fun b h=>by simp [Value.ownBlock] at h) ay.rd ay.row ay.len g2 g3 (.inr fun b hb=>?_);rcases g2.2 with ⟨rfl,_⟩ | ⟨g,cap,c9,rfl,dc,_⟩
      ·simp [Value.ownBlock] at hb
      ·simp [Value.ownBlock] at hb;omega
   ·-- an array of the call's own
    rename_i l a9;split at h
    ·rename_i e' s' rows b4;cases hb:(Nat.beq e e'&&Nat.beq ak s') with
     |false=>simp [hb] at h
     |true=>
      simp only [hb,Qoc] at h;simp only [Qo9] at hb;obtain rfl:=Qoa hb.1;obtain rfl:=Qoa hb.2;obtain ⟨_,h,ac⟩:=X6 h;obtain ⟨hn,h⟩:=Vn h;refine ⟨_,h,fun hg=>?_⟩;have ac:=M8 (ac hg);intro β S st a w hR hO hA a7 K Q hK;have ar:look st.h ao=none:=by rw [hA ao (.inr (by simp [wrL]))];exact hn
      have ba:look st.h l=some (.arr e ak rows):=by rw [hA l (.inl Q2)];exact b4
      have a5:UY st ao=true:=by simp [WI,ar] at a7;exact a7
      obtain ⟨vals,aj⟩:=Q3v aq a2 hR (hO.at bq) (fun l a3=>hA l (.inl (by simp [a3])));have bi:rows.length+news.length<=140737488355328:=Nat.le_trans (by have:=Qow (rows.length+news.length) aw;omega) ac;have b5:∀ (base:Nat) (xs:List Value) (v:Value),a.eval s=v->w.ownsRow base e ak v rows.length xs->base<=w.heap.size->(∀ b,v.ownBlock=some b->β l=some b) ->
        (∀ (i j:Nat) (r:List D) (y:D),rows[i]? = some r->r[j]? = some y->∃ u,xs[i*ak+j]? = some u/\Rd S w u y)->(∀ (i:Nat) (r:List D),rows[i]? = some r->r.length=ak)->o.wp P a w K Q:=by
       intro base xs v hv bk bn b9 cx cc;obtain ⟨v',w',g1,g2,g3,g4⟩:=PZ (ty:=o.type) hu ax hz bc a4 aq bk aj (by unfold maxLen;omega) (by rw [bg];exact ac) bn;unfold Oper.wp;rw [TJ ho az ha hat (by rw [hv];exact g1)];refine hK _ _ ?_;exact Do (rows:=rows) (v:=v) hR aj ar a5 (some l) (fun l' h=>by injection h with h;subst h;simp [ba]) (fun b h=>⟨l,rfl,b9 b h⟩) cx cc bk.1 g2 g3 g4
      rcases RdA.arr_inv ba (a9▸hO.at bv) with ⟨_,a6,hv⟩ | ⟨b,cap,cs,ty,fz,bp,hv,hw,b8,b1,cf⟩
      ·have:=World.ownsRow_nil w w.heap.size e ak;exact b5 w.heap.size [] _ hv (by rw [a6];exact this) (Qov _) (fun b h=>by simp [Value.ownBlock] at h) (fun i j r y h1=>by rw [a6] at h1;simp at h1) (fun i r h1=>by rw [a6] at h1;simp at h1)
      ·rcases hR.hr.ob l _ ba with ⟨cj,_⟩ | ⟨b2,cw,b7,bm,c7,b6,br⟩
       ·rw [bp] at cj;cases cj
       obtain rfl:b=b2:=by rw [bp] at b7;injection b7
       obtain rfl:cs=cw:=by rw [hw] at bm;injection bm with h1;injection h1
       refine b5 0 (cs.toList.take (rows.length*ak)) _ hv ⟨by simp;omega,.inr ⟨b,cap,cs,rfl,Nat.zero_le _,bm,b1,cf,b8,rfl⟩⟩ (Nat.zero_le _) (fun b3 h=>by simp [Value.ownBlock] at h;subst h;exact bp) (fun i j r y h1 h2=>?_) b6;obtain ⟨u,cm,cu⟩:=br i j r y h1 h2;have hi:i<rows.length:=(Qo8.1 h1).1;have hj:j<ak:=by have:=b6 i r h1;have:=(Qo8.1 h2).1;omega
       have c8:(i+1)*ak<=rows.length*ak:=Qoe _ hi;have cz:(i+1)*ak=i*ak+ak:=QoA i _;exact ⟨u,by rw [List.getElem?_take,Qoo Q0];simpa using cm,cu⟩
    ·cases h
   ·cases h
end
end Go.Vx
namespace Go.Vx
section
variable {P:Program} {E:Env} {R:Type}
def Hl (h:Nat->oP Ob):List (Nat×oP Ob)->Nat->oP Ob
 |[]=>h
 |(l,o)::r=>Hl (fun k=>if k=l then o else h k) r
theorem HH:∀ (wr:List (Nat×oP Ob)) (h:List (Nat×Ob)),look (MO h wr)=Hl (look h) wr
 |[],h=>rfl
 |(l,some o)::r,h=>by
  rw [MO,Hl,HH r];congr 1;funext k;exact Uk l k o h
 |(l,none)::r,h=>by
  rw [MO,Hl,HH r];congr 1;funext k;exact Bg l k h
theorem Vf:∀ {wr:List (Nat×oP Ob)} {h:Nat->oP Ob} {l:Nat},l ∉ wr.map (·.1)->Hl h wr l=h l
 |[],_,_,_=>rfl
 |(k,o)::r,h,l,hn=>by
  simp only [QoB,Qoq,not_or] at hn;rw [Hl,Vf hn.2,Qok hn.1]
structure CallOut (β:Nat->oP Nat) (S:Nat->Prop) (h:Nat->oP Ob) (w:World) (dl:Dl) (β':Nat->oP Nat) (S':Nat->Prop) (w':World) (v:Value):Prop where
 hs:∀ b,S b->S' b
 sf:∀ b,S' b->S b\/w.heap.size<=b\/∃ l,l∈wrL dl/\(h l).isSome=true/\β l=some b
 sb:∀ b,S' b->b<w'.heap.size
 fr:Fr (fun b=>∃ l,l∈wrL dl/\(h l).isSome=true/\β l=some b) w w'
 bsame:∀ l,l ∉ wrL dl->β' l=β l
 obs:∀ l o,l∈wrL dl->Hl h dl.wr l=some o->ObR β' S' (Hl h dl.wr) w' l o
 keep:∀ l,l∈wrL dl->(h l).isSome=true->Keep β h w β' (Hl h dl.wr) w' l
 blk:∀ l b,l∈wrL dl->(Hl h dl.wr l).isSome=true->β' l=some b->(w.heap.size<=b\/∃ l0,l0∈wrL dl/\(h l0).isSome=true/\β l0=some b)/\¬ S' b
 inj:∀ l l' b,l∈wrL dl->l'∈wrL dl->(Hl h dl.wr l).isSome=true->(Hl h dl.wr l').isSome=true->β' l=some b->β' l'=some b->l=l'
 none:∀ l,l∈wrL dl->h l=none->Hl h dl.wr l=none->β' l=β l
 res:RdA β' S' (Hl h dl.wr) w' tm0 v dl.v
 gd:∀ t,gds t dl.v=false
structure Objs (β:Nat->oP Nat) (S:Nat->Prop) (h:Nat->oP Ob) (w:World):Prop where
 ob:∀ l o,h l=some o->ObR β S h w l o
 inj:∀ l l' b,(h l).isSome=true->(h l').isSome=true->β l=some b->β l'=some b->l=l'
 apart:∀ l b,(h l).isSome=true->β l=some b->¬ S b
 sb:∀ b,S b->b<w.heap.size
def ArgsRd (β:Nat->oP Nat) (S:Nat->Prop) (h:Nat->oP Ob) (w:World) (args:List Value) (ac:List AV):Prop:=
 args.length=ac.length/\∀ (i:Nat) (v:Value) (av:AV),args[i]? = some v->ac[i]? = some av->RdA β S h w tm0 v av
def Wp (P:Program) (f:Nat) (avs:List AV) (hl:Nat->oP Ob) (dl:Dl):Prop:=
 (∃ fn, P.funcs[f]? = some fn /\ fn.body.isSome = true /\ (fn.name == "runtime.NumGoroutine") = false) /\
 ∀ β S h w args,Objs β S h w->ArgsRd β S h w args avs->(∀ l,l∈dl.rd\/l∈wrL dl->h l=hl l) ->
  Calls P f args.toArray w fun e w'=>∃ v β' S',e = .returned v/\CallOut β S h w dl β' S' w' v
def A3 (P:Program) (spec:Q5L):Prop:=
 ∀ (R:Type) (f aj:Nat) (g:Bool) (ac:List AV) (hl:Nat->oP Ob) (k:Dl->oP R) (r:R),spec R f aj g ac hl k=some r ->
  ∃ dl,k dl=some r/\(g=true->Wp P f ac hl dl)
theorem Rel.objs {β:Nat->oP Nat} {S:Nat->Prop} {st:St} {a:Act} {w:World} (hR:Rel E β S st a w):Objs β S (look st.h) w:=⟨hR.hr.ob,hR.hr.inj,hR.hr.apart,hR.hr.sb⟩
theorem Qbo {β:Nat->oP Nat} {S S2:Nat->Prop} {h:Nat->oP Ob} {w:World} {tm:Nat->Value} {v:Value} {av:AV} (hv:RdA β S h w tm v av) (hs:RF av=true):RdA β S2 h w tm v av:=by
 have hL:∀ (l:List AV) (i:Nat) (x:AV),l[i]? = some x->NS l=true->RF x=true:=by
  intro l;induction l with
  |nil=>simp_all
  |cons a r ih=>
   intro i x h hs;simp only [NS,Qo9] at hs
   grind
 induction hv with
 |top v=>exact .top v
 |d v x hx=>cases hx with
  |int k n=>exact .d _ _ (.int k n)
  |bool b=>exact .d _ _ (.bool b)
  |str s=>exact .d _ _ (.str s)
  |sl0 a c s=>trivial
  |sl=>simp [RF] at hs
 |nil=>exact .nil
 |ag cs l hl _ ih=>exact .ag cs l hl fun i x hx=>ih i x hx (hL l i x hx (by assumption))
 |tup cs l hl _ ih=>exact .tup cs l hl fun i x hx=>ih i x hx (hL l i x hx (by simpa [RF] using hs))
 |fn=>simp [RF] at hs
 |ptr l off b hb=>exact .ptr l off b hb
 |sa v l t b hb hv=>exact .sa v l t b hb hv
 |el=>simp [RF] at hs
 |fs=>simp [RF] at hs
 |mpd=>simp [RF] at hs
 |ex v=>exact .ex v
 |arr0 l e s hb hh=>exact .arr0 l e s hb hh
 |arr l b cap e s rows cs ty fz hb hh hw an aj ak=>exact .arr l b cap e s rows cs ty fz hb hh hw an aj ak
 |mp l b t f hb hh=>exact .mp l b t f hb hh
 |ap l i off b e s rows hb hh=>exact .ap l i off b e s rows hb hh
 |dang v av l hl hh h1=>exact .dang v av l hl hh h1
 |gdT=>simp [RF] at hs
 |gdF=>simp [RF] at hs
theorem Qcd {β β':Nat->oP Nat} {S S':Nat->Prop} {st:St} {a:Act} {w w':World} {v:Value} (hR:Rel E β S st a w) {dl:Dl} (a4:WI st dl.wr=true) (hc:CallOut β S (look st.h) w dl β' S' w' v) :
  Rel E β' S' ⟨st.n,st.tm,MO st.h dl.wr⟩ a w':=by
 have ak:=HH dl.wr st.h;have az:∀ b,S b->w'.heap[b]? = w.heap[b]?:=fun b hS=>hc.fr.block b (hR.hr.sb b hS) (fun ⟨l,_,hs,hb⟩=>hR.hr.apart l b hs hb hS)
 have ar:∀ l,l∈wrL dl->look st.h l=none->Hl (look st.h) dl.wr l=none\/UY st l=true:=by
  intro l hl hn;have:∀ (wr:List (Nat×oP Ob)) (h:Nat->oP Ob),WI st wr=true->h l=none->Hl h wr l=none\/UY st l=true:=by
   intro wr;induction wr with
   |nil=>intro h _ hn;exact .inl hn
   |cons x r ih=>
    intro h au a3;obtain ⟨k,o⟩:=x;simp only [WI,Qo9] at au;by_cases e:l=k
    ·subst e;cases o with
     |none=>exact ih _ au.2 Q2
     |some o=>
      simp_all
    ·exact ih _ au.2 Q4
  simp_all
 refine hR.upd hc.hs az (fun l=>l∈wrL dl) (fun l hl=>?_) (fun l hl=>?_) (fun l o hl ho=>?_) ?_ ?_ ?_ hc.sb ?_ ?_
 ·refine ⟨hc.bsame l hl,by rw [ak];exact Vf hl,fun b hs hb=>hc.fr.block b (NA hR hs hb) (fun ⟨l',aq,ao,aj⟩=>?_)⟩;exact hl (by rw [hR.hr.inj l l' b hs ao hb aj];exact aq)
 ·cases hs:look st.h l with
  |some o=>left;rw [ak];exact hc.keep l hl (by simp [hs])
  |none=>
   rcases ar l hl hs with h | h
   ·left;refine ⟨?_,fun _=>Q4,fun e s rows h'=>Q4,fun b cs ty fz h'=>Q4,fun t f h'=>(by rw [hs] at h';cases h')⟩;exact hc.none l hl hs h
   simp_all
 ·rw [ak] at ho ⊢;exact hc.obs l o hl ho
 ·intro l l' b h1 h2 h3 h4;rw [ak] at h1 h2;by_cases e1:l∈wrL dl <;> by_cases e2:l'∈wrL dl
  ·exact hc.inj l l' b e1 e2 h1 h2 h3 h4
  ·rw [Vf e2] at h2;rw [hc.bsame l' e2] at h4;rcases (hc.blk l b e1 h1 h3).1 with h | ⟨l0,ax,hs,hb⟩
   ·have:=NA hR h2 h4;omega
   ·exact absurd ax (by rw [hR.hr.inj l0 l' b hs h2 hb h4];exact e2)
  ·rw [Vf e1] at h1;rw [hc.bsame l e1] at h3;rcases (hc.blk l' b e2 h2 h4).1 with h | ⟨l0,ax,hs,hb⟩
   ·have:=NA hR h1 h3;omega
   ·exact absurd ax (by rw [<- hR.hr.inj l l0 b h1 hs h3 hb];exact e1)
  ·rw [Vf e1] at h1;rw [Vf e2] at h2;rw [hc.bsame l e1] at h3;rw [hc.bsame l' e2] at h4;exact hR.hr.inj l l' b h1 h2 h3 h4
 ·intro l b h1 h2 hS;rw [ak] at h1;by_cases e1:l∈wrL dl
  ·exact (hc.blk l b e1 h1 h2).2 hS
  ·rw [Vf e1] at h1;rw [hc.bsame l e1] at h2;rcases hc.sf b hS with h | h | ⟨l',aq,ao,aj⟩
   ·exact hR.hr.apart l b h1 h2 h
   ·have:=NA hR h1 h2;omega
   ·exact e1 (by rw [hR.hr.inj l l' b h1 ao h2 aj];exact aq)
 ·intro l b h1 h2;rw [ak] at h1;by_cases e1:l∈wrL dl
  ·rcases (hc.blk l b e1 h1 h2).1 with h | ⟨l0,_,hs,hb⟩
   ·right;have:=hR.hr.fr.size;omega
   ·exact hR.hr.own l0 b hs hb
  ·rw [Vf e1] at h1;rw [hc.bsame l e1] at h2;exact hR.hr.own l b h1 h2
 ·intro b hS;rcases hc.sf b hS with h | h | ⟨l',aq,ao,aj⟩
  ·exact hR.hr.sfr b h
  ·right;right;have:=hR.hr.fr.size;omega
  ·exact .inr (hR.hr.own l' b ao aj)
 ·have fr:=hR.hr.fr;refine ⟨hc.fr.os.trans fr.os,hc.fr.tape.trans fr.tape,hc.fr.output.trans fr.output,Nat.le_trans fr.size hc.fr.size,fun b hb hM=>(hc.fr.block b (Qoy hb fr.size) (fun ⟨l,_,hs,aj⟩=>?_)).trans (fr.block b hb hM)⟩;rcases hR.hr.own l b hs aj with h | h
  all_goals grind
end
end Go.Vx
namespace Go.Vx
variable {hl:Nat->oP Ob} {ev:Operand->AV} {β:Nat->oP Nat} {S:Nat->Prop} {w:World} {h:Nat->oP Ob} {tm:Nat->Value} {o:Oper} {v:Value}
section
variable {P:Program} {E:Env} {R:Type}
def fzS (β:Nat->oP Nat) (S:Nat->Prop) (bs:List Nat):Nat->Prop:=fun b=>S b\/∃ l,l∈bs/\β l=some b
def fzH (h:Nat->oP Ob) (bs:List Nat):Nat->oP Ob:=fun k=>if k∈bs then none else h k
theorem QdB (β:Nat->oP Nat) (h:Nat->oP Ob) (w:World) (bs:List Nat) (l:Nat):Keep β h w β (fzH h bs) w l:=by
 by_cases hl:l∈bs
 ·have hn:fzH h bs l=none:=by grind [fzH]
  exact ⟨rfl,fun _=>hn,fun _ _ _ _=>.inl hn,fun b cs ty fz hs=>Q4,fun _ _ _=>.inl hn⟩
 ·have hn:fzH h bs l=h l:=by simp [fzH,hl]
  exact ⟨rfl,fun h=>by simp_all,fun e s rows hh=>.inr ⟨rows,by simp_all,rfl⟩,fun b cs ty fz _ _ hw=>⟨cs,ty,fz,hw,rfl⟩,fun _ f hh=>.inr ⟨f,by rw [hn];exact hh⟩⟩
theorem Q9q {av:AV} (bs:List Nat) (hv:RdA β S h w tm v av):RdA β (fzS β S bs) (fzH h bs) w tm v av:=
 hv.mono (fun _ hb=>.inl hb) (fun _ _=>rfl) (fun _ _=>QdB ..) (fun _ _=>rfl)
theorem Objs.fz {β:Nat->oP Nat} {S:Nat->Prop} {h:Nat->oP Ob} {w:World} (hO:Objs β S h w) (bs:List Nat) (au:∀ l,l∈bs->∃ e s rows,h l=some (.arr e s rows)) (a2:∀ l b,(h l).isSome=true->β l=some b->b<w.heap.size):Objs β (fzS β S bs) (fzH h bs) w:=by
 have ac:∀ l,(fzH h bs l).isSome=true->(h l).isSome=true/\l ∉ bs:=by
  grind [fzH]
 refine ⟨fun l o ho=>?_,fun l l' b h1 h2=>hO.inj l l' b (ac l h1).1 (ac l' h2).1,fun l b h1 h2 hS=>?_,fun b hS=>?_⟩
 ·have ay:h l=some o:=by
   grind [fzH]
  have aj:=hO.ob l o ay;cases o with
  |box cells=>
   obtain ⟨b,ty,cs,fz,hb,hw,hf,ak,hr⟩:=aj;exact ⟨b,ty,cs,fz,hb,hw,hf,ak,fun i x hx=>Q9q bs (hr i x hx)⟩
  |arr e s rows=>
   rcases aj with h0 | ⟨b,cs,hb,hw,ak,ax,hr⟩
   ·exact .inl h0
   ·refine .inr ⟨b,cs,hb,hw,ak,ax,fun i j r x h4 h5=>?_⟩;obtain ⟨v,hv,aw⟩:=hr i j r x h4 h5;exact ⟨v,hv,aw.mono (fun _ hb=>.inl hb) (fun _ _=>rfl)⟩
  |mp t f=>exact aj
 ·obtain ⟨aq,hn⟩:=ac l h1;rcases hS with hS | ⟨l',ao,az⟩
  ·exact hO.apart l b aq h2 hS
  ·obtain ⟨e,s,rows,hh⟩:=au l' ao;exact hn (by rw [hO.inj l l' b aq (by simp [hh]) h2 az];exact ao)
 ·rcases hS with hS | ⟨l,hl,hb⟩
  ·exact hO.sb b hS
  grind
theorem Q7F {l e s:Nat} {rows:List (List D)} (hO:Objs β S h w) (hh:h l=some (.arr e s rows)) (hv:RdA β S h w tm v (.arr l)) {S':Nat->Prop} (hS:∀ b,S b->S' b) (hb:∀ b,β l=some b->S' b) :
  Rd S' w v (.sl s rows):=by
 rcases RdA.arr_inv hh hv with ⟨_,rfl,rfl⟩ | ⟨b,cap,cs,ty,fz,aq,rfl,hw,ax,ac,_⟩
 ·exact .sl0 _ _ _
 ·rcases hO.ob l _ hh with ⟨hn,_⟩ | ⟨b2,aj,ay,ak,an,ao,ar⟩
  ·simp_all
  obtain rfl:b=b2:=by simp_all
  have hR:Vr S' w aj s rows:=⟨an,ao,fun i j r x h1 h2=>by
   obtain ⟨u,hu,hr⟩:=ar i j r x h1 h2;exact ⟨u,hu,hr.mono hS (fun _ _=>rfl)⟩⟩
  exact hR.rd ak (hb b aq) ac
theorem EV {av ac:AV} {bs:List Nat} (h:Q8a hl av=some (ac,bs)) :
  (bs=[]/\ac=av/\Q12 av=true)\/∃ l e s rows,av = .arr l/\ac = .d (.sl s rows)/\bs=[l]/\hl l=some (.arr e s rows):=by
 unfold Q8a at h
 grind
theorem BY {hl:Nat->oP Ob}:∀ {l l':List AV} {bs:List Nat},Ce hl l=some (l',bs)->l'.length=l.length/\∀ (i:Nat) (av:AV),l[i]? = some av->∃ ac b,l'[i]? = some ac/\Q8a hl av=some (ac,b)/\∀ x∈b,x∈bs
 |[],l',bs,h=>by
  simp only [Ce,Option.some.injEq,Prod.mk.injEq] at h;obtain ⟨rfl,rfl⟩:=h;exact ⟨rfl,fun i av h=>by simp at h⟩
 |a::r,l',bs,h=>by
  simp only [Ce] at h;split at h
  ·rename_i a' b ha;split at h
   ·rename_i r' b' hr;simp only [Option.some.injEq,Prod.mk.injEq] at h;obtain ⟨rfl,rfl⟩:=h;obtain ⟨h1,h2⟩:=BY hr;refine ⟨by simp [h1],fun i av hi=>?_⟩;cases i with
    |zero=>simp at hi;subst hi;exact ⟨a',b,rfl,ha,fun x hx=>by simp [hx]⟩
    |succ i=>
     obtain ⟨ac,b2,g1,g2,g3⟩:=h2 i av (by simpa using hi);exact ⟨ac,b2,by simpa using g1,g2,fun x hx=>by simp [g3 x hx]⟩
   ·cases h
  ·cases h
theorem Q3O {hl:Nat->oP Ob}:∀ {l l':List AV} {bs:List Nat},Ce hl l=some (l',bs)->∀ x∈bs,∃ e s rows,hl x=some (.arr e s rows)
 |[],l',bs,h=>by
  simp only [Ce,Option.some.injEq,Prod.mk.injEq] at h;obtain ⟨_,rfl⟩:=h;simp
 |a::r,l',bs,h=>by
  simp only [Ce] at h;split at h
  ·rename_i a' b ha;split at h
   ·rename_i r' b' hr;simp only [Option.some.injEq,Prod.mk.injEq] at h;obtain ⟨_,rfl⟩:=h;intro x hx;rcases Qoz.1 hx with hx | hx
    ·rcases EV ha with ⟨rfl,_⟩ | ⟨l,e,s,rows,_,_,rfl,hh⟩
     ·simp at hx
     ·simp at hx;subst hx;exact ⟨e,s,rows,hh⟩
    ·exact Q3O hr x hx
   ·cases h
  ·cases h
theorem BD {av ac:AV} {bs:List Nat} (h:Nk hl av=some (ac,bs)):∀ x∈bs,∃ e s rows,hl x=some (.arr e s rows):=by
 unfold Nk at h;split at h
 ·split at h
  ·rename_i aj l hc;obtain ⟨_,rfl⟩:=h;exact Q3O hc
  ·cases h
 ·rcases EV h with ⟨rfl,_⟩ | ⟨l,e,s,rows,_,_,rfl,hh⟩
  all_goals grind
theorem EO {hl:Nat->oP Ob}:∀ {l l':List AV} {bs:List Nat},Nh hl l=some (l',bs)->∀ x∈bs,∃ e s rows,hl x=some (.arr e s rows)
 |[],l',bs,h=>by
  simp only [Nh,Option.some.injEq,Prod.mk.injEq] at h;obtain ⟨_,rfl⟩:=h;simp
 |a::r,l',bs,h=>by
  simp only [Nh] at h;split at h
  ·rename_i a' b ha;split at h
   ·rename_i r' b' hr;simp only [Option.some.injEq,Prod.mk.injEq] at h;obtain ⟨_,rfl⟩:=h;intro x hx;rcases Qoz.1 hx with hx | hx
    ·exact BD ha x hx
    ·exact EO hr x hx
   ·cases h
  ·cases h
theorem LW {hl:Nat->oP Ob}:∀ {l l':List AV} {bs:List Nat},Nh hl l=some (l',bs)->l'.length=l.length/\∀ (i:Nat) (av:AV),l[i]? = some av->∃ ac b,l'[i]? = some ac/\Nk hl av=some (ac,b)/\∀ x∈b,x∈bs
 |[],l',bs,h=>by
  simp only [Nh,Option.some.injEq,Prod.mk.injEq] at h;obtain ⟨rfl,rfl⟩:=h;exact ⟨rfl,fun i av h=>by simp at h⟩
 |a::r,l',bs,h=>by
  simp only [Nh] at h;split at h
  ·rename_i a' b ha;split at h
   ·rename_i r' b' hr;simp only [Option.some.injEq,Prod.mk.injEq] at h;obtain ⟨rfl,rfl⟩:=h;obtain ⟨h1,h2⟩:=LW hr;refine ⟨by simp [h1],fun i av hi=>?_⟩;cases i with
    |zero=>simp at hi;subst hi;exact ⟨a',b,rfl,ha,fun x hx=>by simp [hx]⟩
    |succ i=>
     obtain ⟨ac,b2,g1,g2,g3⟩:=h2 i av (by simpa using hi);exact ⟨ac,b2,by simpa using g1,g2,fun x hx=>by simp [g3 x hx]⟩
   ·cases h
  ·cases h
theorem QeT {h hl:Nat->oP Ob} {av ac:AV} {b bs:List Nat} (hO:Objs β S h w) (hA:∀ l,l∈bs->h l=hl l) (hb:∀ x∈b,x∈bs) (hc:Q8a hl av=some (ac,b)) (hv:RdA β S h w tm v av) :
  RdA β (fzS β S bs) (fzH h bs) w tm0 v ac:=by
 rcases EV hc with ⟨_,rfl,hn⟩ | ⟨l,e,s,rows,rfl,rfl,rfl,hh⟩
 ·exact Q9q bs (hv.to_tm0 hn)
 ·exact .d _ _ (Q7F hO (by rw [hA l (hb l Q2)];exact hh) hv (fun _ h=>.inl h) (fun b' h'=>.inr ⟨l,hb l Q2,h'⟩))
theorem Q7p {h hl:Nat->oP Ob} {av ac:AV} {b bs:List Nat} (hO:Objs β S h w) (hA:∀ l,l∈bs->h l=hl l) (hb:∀ x∈b,x∈bs) (hc:Nk hl av=some (ac,b)) (hv:RdA β S h w tm v av) :
  RdA β (fzS β S bs) (fzH h bs) w tm0 v ac:=by
 unfold Nk at hc;split at hc
 ·rename_i cs;split at hc
  ·rename_i an l ak;obtain ⟨rfl,rfl⟩:=hc;obtain ⟨vs,rfl,aj,hr⟩:=hv.ag_inv;obtain ⟨h1,h2⟩:=BY ak;refine .ag _ _ (by rw [aj,h1]) fun i x hx=>?_
   have hi:i<cs.length:=by grind
   have hc:=Qon hi
   grind [QeT]
  ·cases hc
 grind [QeT]
theorem Q5D {o : Oper} {c : Call} {f : Nat} (ho : o.op = .call c) (hc : c.callee = .value (.func f)) {fn : Func} (hf : P.funcs[f]? = some fn) (hb : fn.body.isSome = true) (hn : (fn.name == "runtime.NumGoroutine") = false) {a : Act} {w : World} :
  (execOp a.eval o).run P w = .ok (.enter f (c.args.map a.eval)) w:=by
 unfold execOp;rw [ho];have h1 : ¬ fn.name = "runtime.NumGoroutine" := by simp_all
 have h2:¬ fn.body=none:=by intro h;rw [h] at hb;cases hb
 simp_all [resolve,Act.eval,Deferred.ofValue,invoke,callFunc]
theorem AN {x:Nat}:∀ {l:List Nat},x∈l->Si x l=true
 |a::r,h=>by
  rcases Qoq.1 h with rfl | h
  ·simp [Si]
  ·simp [Si,AN h]
theorem Gm {a b:List Nat} (h:TB a b=false) {x:Nat} (h1:x∈a) (h2:x∈b):False:=by
 grind [TB,List.any_eq_false,AN]
theorem Dw {h h':Nat->oP Ob}:∀ {wr:List (Nat×oP Ob)} {k:Nat},(k ∉ wr.map (·.1)->h k=h' k)->Hl h wr k=Hl h' wr k
 |[],k,hk=>hk Q2
 |(l,o)::r,k,hk=>by
  simp only [Hl];refine Dw fun hn=>?_
  by_cases e:k=l
  ·simp [e]
  ·rw [Qok e,Qok e];exact hk (by simp [e,hn])
theorem F3 {bs:List Nat} {l:Nat} (hl:l ∉ bs):fzH h bs l=h l:=by grind [fzH]
theorem QdV (β:Nat->oP Nat) (S:Nat->Prop):fzS β S []=S:=by funext b;simp [fzS]
theorem QdT (h:Nat->oP Ob):fzH h []=h:=by funext b;simp [fzH]
theorem Q83 {wr:List (Nat×oP Ob)} (hw:VX wr=true):∀ (h:Nat->oP Ob) {l:Nat} {o:Ob},l∈wr.map (·.1)->Hl h wr l=some o->(∃ cells,o = .box cells/\NS cells=true/\(l,some o)∈wr)\/∃ e s rows,o = .arr e s rows/\Ak rows=true:=by
 induction wr with
 |nil=>simp_all
 |cons x r ih=>
  intro h l o hl ho;obtain ⟨k,ob⟩:=x;have ac:VX r=true:=by
   cases ob with
   |none=>assumption
   |some ob=>cases ob <;> first | simp_all [VX,Qo9] | (simp [VX] at hw)
  simp only [Hl] at ho;by_cases hr:l∈r.map (·.1)
  ·grind
  ·rw [Vf hr] at ho;simp only [QoB,Qoq,hr,or_false] at hl;rw [Qoo hl] at ho;subst hl;subst ho;cases o with
   |box cells=>simp_all [VX,Qo9]
   |arr e s rows=>simp only [VX,Qo9] at hw;exact .inr ⟨e,s,rows,rfl,hw.1⟩
   |mp t f=>simp [VX] at hw
theorem H8:∀ {wr:List (Nat×oP Ob)},BL wr=true->VX wr=true
 |[],_=>rfl
 |(_,none)::r,h=>by simp only [BL,Qo9] at h;simp only [VX];exact H8 h.2
 |(_,some (.box cells))::r,h=>by simp only [BL,Q9f,Qo9] at h;simp only [VX,Qo9];exact ⟨h.1,H8 h.2⟩
 |(_,some (.arr ..))::r,h=>by simp [BL,Q9f] at h
theorem Ka {tt:TT}:∀ {wr:List (Nat×oP Ob)},EP tt wr=true->(Q3A wr).all Ak=true->VX wr=true
 |[],_,_=>rfl
 |(_,none)::r,h,h2=>by simp only [EP] at h;simp only [Q3A] at h2;simp only [VX];exact Ka h h2
 |(_,some (.box cells))::r,h,h2=>by simp only [EP,Qo9] at h;simp only [Q3A] at h2;simp only [VX,Qo9];exact ⟨h.1,Ka h.2 h2⟩
 |(_,some (.arr _ _ rows))::r,h,h2=>by simp only [EP,Qo9] at h;simp only [Q3A,List.all_cons,Qo9] at h2;simp only [VX,Qo9];exact ⟨h2.1,Ka h.2 h2.2⟩
theorem Qdo {S S2:Nat->Prop} {x:D} (h:Rd S w v x) (hf:Q5Z x=true):Rd S2 w v x:=by
 cases h with
 |int k n=>exact .int k n
 |bool b=>exact .bool b
 |str s=>exact .str s
 |sl0 a c s=>trivial
 |sl=>simp [Q5Z] at hf
theorem Qbn {rows:List (List D)} (h:Ak rows=true) {i j:Nat} {r:List D} {x:D} (h1:rows[i]? = some r) (h2:r[j]? = some x):Q5Z x=true:=by
 simp only [Ak,Qor] at h;exact h r (Qog h1) x (Qog h2)
theorem Q3z:∀ {l:List AV} {i:Nat} {x:AV},l[i]? = some x->NS l=true->RF x=true
 |a::r,i,x,h,hs=>by
  simp only [NS,Qo9] at hs;cases i with
  |zero=>simp at h;subst h;exact hs.1
  |succ i=>exact Q3z (l:=r) (i:=i) (by simpa using h) hs.2
theorem Q9I {l k:Nat} {cells:List AV} {wr:List (Nat×oP Ob)} (hm:(k,some (Ob.box cells))∈wr) (hn:PD l wr=false):Kh l cells=false:=by
 induction wr with
 |nil=>simp at hm
 |cons x r ih=>
  obtain ⟨k',o⟩:=x;rcases Qoq.1 hm with h1 | h1
  ·grind [PD,Bool.or_eq_false_iff]
  ·cases o with
   |none=>grind [PD]
   |some o=>
    cases o with
    |box c=>grind [PD,Bool.or_eq_false_iff]
    |arr e s rows=>exact ih h1 (by assumption)
    |mp t f=>exact ih h1 (by simpa [PD] using hn)
theorem Q74 {h h':Nat->oP Ob} {wr:List (Nat×oP Ob)} {k:Nat} (hk:k∈wr.map (·.1)):Hl h wr k=Hl h' wr k:=Dw fun hn=>absurd hk hn
theorem CallOut.back {β β':Nat->oP Nat} {S S':Nat->Prop} {w w':World} {dl:Dl} {bs:List Nat} (hO:Objs β S h w) (ba:∀ l,l∈bs->∃ e s rows,h l=some (.arr e s rows))
  (hm:TB bs (wrL dl)=false) (aq:BX bs dl=true) (a5:RF dl.v=true) (a4:VX dl.wr=true) (hc:CallOut β (fzS β S bs) (fzH h bs) w dl β' S' w' v) :
  CallOut β S h w dl β' (fun b=>S' b/\¬ ∃ l,l∈bs/\β l=some b) w' v:=by
 have ac:∀ l,l∈wrL dl->l ∉ bs:=fun l h1 h2=>Gm hm h2 h1
 have ao:∀ l,l∈bs->(h l).isSome=true:=fun l hl=>by grind
 have aj:∀ l,l ∉ bs->Hl (fzH h bs) dl.wr l=Hl h dl.wr l:=fun l hl=>Dw fun _=>F3 hl
 have an:∀ (u:Value) (av:AV),RF av=true->(∀ l,l∈bs->Ur l av=false)->RdA β' S' (Hl (fzH h bs) dl.wr) w' tm0 u av->RdA β' (fun b=>S' b/\¬ ∃ l,l∈bs/\β l=some b) (Hl h dl.wr) w' tm0 u av:=by
  intro u av hs hn hr;refine (Qbo (S2:=fun b=>S' b/\¬ ∃ l,l∈bs/\β l=some b) hr hs).mono (fun _ h=>h) (fun _ _=>rfl) (fun l hl=>?_) (fun _ _=>rfl);have a6:l ∉ bs:=fun hb=>by simp_all
  have he:=aj l a6;exact ⟨rfl,fun h=>by simp_all,fun e s rows hh=>.inr ⟨rows,by simp_all,rfl⟩,fun b cs ty fz _ _ hw=>⟨cs,ty,fz,hw,rfl⟩,fun _ f hh=>.inr ⟨f,by rw [<- he];exact hh⟩⟩
 simp only [BX,Qor,Qo9,Bool.not_eq_true'] at aq;have ak:∀ l,l∈wrL dl->fzH h bs l=h l:=fun l hl=>F3 (ac l hl)
 refine ⟨fun b hS=>⟨hc.hs b (.inl hS),fun ⟨l,hl,hb⟩=>hO.apart l b (ao l hl) hb hS⟩,fun b hS=>?_,fun b hS=>hc.sb b hS.1,?_,hc.bsame,fun l o hl ho=>?_,fun l hl hs=>?_,fun l b hl hs hb=>?_,fun l l' b h1 h2 h3 h4=>?_,fun l hl h1 h2=>?_,an v dl.v a5 (fun l hl=>(aq l hl).1) hc.res,hc.gd⟩
 ·rcases hc.sf b hS.1 with h1 | h1 | ⟨l,h1,h2,h3⟩
  ·rcases h1 with h1 | h1
   all_goals grind
  all_goals grind
 ·exact hc.fr.mono fun b _ ⟨l,h1,h2,h3⟩=>⟨l,h1,by rw [<- ak l h1];exact h2,h3⟩
 ·rcases Q83 a4 h hl ho with ⟨cells,rfl,ay,au⟩ | ⟨e,s,rows,rfl,a2⟩
  case inr=>
   rcases hc.obs l _ hl (by rw [aj l (ac l hl)];exact ho) with g | ⟨b,cs,g1,g2,g3,g4,g5⟩
   ·exact .inl g
   ·refine .inr ⟨b,cs,g1,g2,g3,g4,fun i j r y h1 h2=>?_⟩;obtain ⟨u,q1,q2⟩:=g5 i j r y h1 h2;exact ⟨u,q1,Qdo q2 (Qbn a2 h1 h2)⟩
  obtain ⟨b,ty,cs,fz,hb,hw,hf,az,hr⟩:=hc.obs l _ hl (by rw [aj l (ac l hl)];exact ho);exact ⟨b,ty,cs,fz,hb,hw,hf,az,fun i x hx=>an _ x (Q3z hx ay) (fun l' a3=>Q3R hx (Q9I au (aq l' a3).2)) (hr i x hx)⟩
 ·have K:=hc.keep l hl (by rw [ak l hl];exact hs);have he:=aj l (ac l hl);exact ⟨K.b,fun h1=>by rw [<- he];exact K.none_ (by rw [ak l hl];exact h1),fun e s rows h1=>by rw [<- he];exact K.arr e s rows (by rw [ak l hl];exact h1),fun b cs ty fz h1=>K.cells b cs ty fz (by rw [he];exact h1),fun t f h1=>by rw [<- he];exact K.mp t f (by rw [ak l hl];exact h1)⟩
 ·obtain ⟨h1,h2⟩:=hc.blk l b hl (by rw [aj l (ac l hl)];exact hs) hb;refine ⟨?_,fun h3=>h2 h3.1⟩;rcases h1 with h1 | ⟨l0,g1,g2,g3⟩
  ·exact .inl h1
  ·exact .inr ⟨l0,g1,by rw [<- ak l0 g1];exact g2,g3⟩
 ·rw [<- aj l (ac l h1)] at h3;rw [<- aj l' (ac l' h2)] at h4;exact hc.inj l l' b h1 h2 h3 h4
 ·exact hc.none l hl (by rw [ak l hl];exact h1) (by rw [aj l (ac l hl)];exact h2)
theorem RQ {β β':Nat->oP Nat} {S S':Nat->Prop} {st:St} {a:Act} {w w':World} (hR:Rel E β S st a w) {dl:Dl} {rd:List Nat} (ac:WI st dl.wr=true) (hc:CallOut β S (look st.h) w dl β' S' w' v) :
  Out E st a ⟨dl.v,dl.wr,rd⟩ v w':=by
 have h1:=Qcd hR ac hc;have h2:=hc.res;rw [<- HH] at h2;refine ⟨β',S',h1,?_⟩;exact h2.mono (fun _ h=>h) (fun _ _=>rfl) (fun l _=>Keep.rfl_ ..) (fun t ht=>by rw [hc.gd t] at ht;cases ht)
def Q8u (P:Program) (E:Env) (o:Oper) (ev:Operand->AV) (f:Nat) (avs0:List AV):Prop:=
 ∀ β S st a w,Rel E β S st a w->BJ β S st a w o ev->∃ vals:List Value,vals.length=avs0.length/\(∀ (i:Nat) (v:Value) (x:AV),vals[i]? = some v->avs0[i]? = some x->RdA β S (look st.h) w (tmv a) v x) /\
  ∀ fn, P.funcs[f]? = some fn -> fn.body.isSome = true -> (fn.name == "runtime.NumGoroutine") = false -> (execOp a.eval o).run P w = .ok (.enter f vals.toArray) w
theorem Q7T {c:Call} {f:Nat} (ho:o.op = .call c) (hc:c.callee = .value (.func f)):Q8u P E o ev f (c.args.toList.map ev):=by
 intro β S st a w hR hO;refine ⟨c.args.toList.map a.eval,by simp,fun i v x h1 h2=>?_,fun fn hf hb hn=>?_⟩
 ·simp only [Qoi,Qod] at h1 h2;obtain ⟨y,hy,rfl⟩:=h1;obtain ⟨y',ac,rfl⟩:=h2;rw [hy] at ac;injection ac with ac
  subst ac;have aj:y∈o.op.operands.toList:=by
   grind [List.mem_of_getElem?,Op.operands,Call.operands]
  exact hO.at aj
 ·rw [Q5D ho hc hf hb hn];congr 2
  grind
theorem RdA.fn_inv {f:Nat} {l:List AV} (hv:RdA β S h w tm v (.fn f l)):∃ cs:Array Value,v = .func (.func f) #[] cs/\cs.size=l.length/\∀ (i:Nat) (x:AV),l[i]? = some x->RdA β S h w tm (cs.getD i undef) x:=by
 cases hv with
 |fn _ cs _ hl hr=>simp_all
 |dang _ _ l hl _ _=>trivial
theorem Q8v {c:Call} {t f:Nat} {cap:List AV} (ho:o.op = .call c) (hc:c.callee = .value (.tmp t)) (hev:ev (.tmp t) = .fn f cap):Q8u P E o ev f (c.args.toList.map ev++cap):=by
 intro β S st a w hR hO;have hmt:Operand.tmp t∈o.op.operands.toList:=by simp [ho,Op.operands,Call.operands,hc]
 obtain ⟨cs,hcs,hsz,hr⟩:=(hev▸hO.at hmt).fn_inv;refine ⟨c.args.toList.map a.eval++cs.toList,by simp [hsz],fun i v x h1 h2=>?_,fun fn hf hb hn=>?_⟩
 ·rw [List.getElem?_append] at h1 h2;simp only [List.length_map] at h1 h2;split at h1
  ·rename_i hi;rw [Qoo hi] at h2;simp only [Qoi,Qod] at h1 h2;obtain ⟨y,hy,rfl⟩:=h1;obtain ⟨y',hy',rfl⟩:=h2;rw [hy] at hy';injection hy' with hy'
   subst hy';have hmem:y∈o.op.operands.toList:=by
    have:y∈c.args.toList:=Qog hy;simp only [ho,Op.operands,Call.operands,hc];simp at this;simp [this]
   exact hO.at hmem
  ·rename_i hi;rw [Qok hi] at h2;have:=hr _ x h2;have hlt:=(Qo8.1 h1).1;have he:cs.getD (i-c.args.toList.length) undef=v:=by
    rw [Array.getElem?_toList] at h1;rw [Array.getD_eq_getD_getElem?,h1];rfl
   rw [he] at this;exact this
 ·have h1 : ¬ fn.name = "runtime.NumGoroutine" := by simpa using hn
  have h2:¬ fn.body=none:=by intro h;rw [h] at hb;cases hb
  have hv:a.eval (.tmp t) = .func (.func f) #[] cs:=hcs;unfold execOp;rw [ho];have harr:(c.args.toList.map a.eval++cs.toList).toArray=c.args.map a.eval++cs:=by apply Array.ext';simp
  rw [harr];simp [resolve,hc,hv,Deferred.ofValue,invoke,callFunc,hf,h1,h2]
theorem Q8R {st:St} {a:Act} (hR:Rel E β S st a w) {vals:List Value} {ac:List AV} (ar:vals.length=ac.length) (aj:∀ (i:Nat) (v:Value) (x:AV),vals[i]? = some v->ac[i]? = some x->RdA β S (look st.h) w (tmv a) v x) {ak:List AV} {bs:List Nat}
  (aq:Nh hl ac=some (ak,bs)) (ao:∀ l,l∈bs->look st.h l=hl l):ArgsRd β (fzS β S bs) (fzH (look st.h) bs) w vals ak:=by
 obtain ⟨au,an⟩:=LW aq;refine ⟨Q0,fun i v av h1 h2=>?_⟩;have hi:i<ac.length:=by grind
 have hx:=Qon hi;obtain ⟨ax,b,g1,g2,g3⟩:=an i _ hx;rw [h2] at g1;injection g1 with g1
 subst g1;exact Q7p hR.objs ao g3 g2 (aj i v _ h1 hx)
theorem Mq {f:Nat} {ac:List AV} (hF:Q8u P E o ev f ac) {aq:List AV} {bs:List Nat} {dl:Dl}
  (a4:Nh hl ac=some (aq,bs)) (a3:Wp P f aq hl dl) (hm:TB bs (wrL dl)=false) (a9:TB bs dl.rd=false) (a5:BX bs dl=true) (aj:bs=[]\/(RF dl.v=true/\VX dl.wr=true)) :
  KE P E o ev hl ⟨dl.v,dl.wr,bs++dl.rd⟩:=by
 intro β S st a w hR hO hA a6 K Q hK;obtain ⟨⟨fn,hf,hb,hn⟩,ak⟩:=a3;have ax:∀ l,l∈bs->look st.h l=hl l:=fun l h=>hA l (.inl (by simp [h]))
 have an:∀ l,l∈bs->∃ e s rows,look st.h l=some (.arr e s rows):=fun l h=>by grind [EO]
 have ao:=hR.objs.fz bs an (fun l b hs hb=>NA hR hs hb);have ay:∀ l,l∈dl.rd\/l∈wrL dl->fzH (look st.h) bs l=hl l:=by
  intro l a2;rw [F3 (fun h=>by grind [Gm])];rcases a2 with h1 | h1
  ·exact hA l (.inl (by simp [h1]))
  ·exact hA l (.inr h1)
 obtain ⟨vals,aw,az,ar⟩:=hF β S st a w hR hO;unfold Oper.wp;rw [ar fn hf hb hn];have:=ak β (fzS β S bs) (fzH (look st.h) bs) w _ ao (Q8R hR aw az a4 ax) ay;refine this.mono fun e w' ⟨v,β',S',he,au⟩=>?_
 subst he;refine hK v w' ?_;rcases aj with rfl | ⟨h1,h2⟩
 ·grind [QdV,QdT,RQ]
 ·exact RQ hR a6 (au.back hR.objs an hm a5 h1 h2)
theorem RX:∀ (a b:List (Nat×oP Ob)) (h:List (Nat×Ob)),MO h (a++b)=MO (MO h a) b
 |[],_,_=>rfl
 |(l,some o)::r,b,h=>by simp [MO,RX r b]
 |(l,none)::r,b,h=>by simp [MO,RX r b]
theorem AE (bs:List Nat) (h:List (Nat×Ob)):look (MO h (bs.map fun l=>(l,none)))=fzH (look h) bs:=by
 rw [HH];generalize look h=f;induction bs generalizing f with
 |nil=>rfl
 |cons a r ih=>
  simp only [QoB,Hl];rw [ih]
  grind [fzH]
theorem Q17 {st:St} {a:Act} (hR:Rel E β S st a w) (bs:List Nat) (ak:∀ l,l∈bs->∃ e s rows,look st.h l=some (.arr e s rows)) :
  Rel E β (fzS β S bs) ⟨st.n,st.tm,MO st.h (bs.map fun l=>(l,none))⟩ a w:=by
 have ac:=hR.objs.fz bs ak (fun l b hs hb=>NA hR hs hb);have an:=AE bs st.h;refine ⟨hR.n,hR.dfr,fun t av ht=>by rw [an];exact Q9q bs (hR.tm t av ht),?_⟩;rw [an];have aj:∀ l,(fzH (look st.h) bs l).isSome=true->(look st.h l).isSome=true:=fun l hs=>by
  grind [fzH]
 refine ⟨ac.ob,ac.inj,ac.apart,fun l b hs hb=>hR.hr.own l b (aj l hs) hb,ac.sb,fun b hS=>?_,fun b h=>.inl (hR.hr.s0 b h),hR.hr.fr,hR.hr.pin,fun l b hp hs=>hR.hr.psz l b hp (aj l hs)⟩;rcases hS with h | ⟨l,hl,hb⟩
 ·exact hR.hr.sfr b h
 ·obtain ⟨e,s,rows,hh⟩:=ak l hl;exact .inr (hR.hr.own l b (by simp [hh]) hb)
theorem Vw {l k:Nat}:∀ {h:List (Nat×Ob)},JO l h=false->JO l (rem k h)=false
 |[],_=>rfl
 |(a,.box c)::r,hn=>by
  simp only [JO,Bool.or_eq_false_iff] at hn;simp only [rem];cases Nat.beq a k with
  |true=>exact Vw hn.2
  |false=>simp [JO,hn.1,Vw hn.2]
 |(a,.arr e s rows)::r,hn=>by
  simp only [JO] at hn;simp only [rem];cases Nat.beq a k with
  |true=>exact Vw hn
  |false=>simp [JO,Vw hn]
 |(a,.mp t f)::r,hn=>by
  simp only [JO] at hn;simp only [rem];cases Nat.beq a k with
  |true=>exact Vw hn
  |false=>simp [JO,Vw hn]
theorem Q4K {l:Nat}:∀ (bs:List Nat) {h:List (Nat×Ob)},JO l h=false->JO l (MO h (bs.map fun l=>(l,none)))=false
 |[],_,hn=>hn
 |a::r,h,hn=>by simp only [QoB,MO];exact Q4K r (Vw hn)
theorem RW {st:St}:∀ {a b:List (Nat×oP Ob)},WI st (a++b)=true->WI st b=true
 |[],_,h=>h
 |(l,o)::r,b,h=>by
  simp only [List.cons_append,WI,Qo9] at h;exact RW h.2
theorem BS {st:St} {bs:List Nat}:∀ {wr:List (Nat×oP Ob)},(∀ l,l∈wr.map (·.1)->l ∉ bs)->WI st wr=true->WI ⟨st.n,st.tm,MO st.h (bs.map fun l=>(l,none))⟩ wr=true
 |[],_,_=>rfl
 |(l,o)::r,hn,h=>by
  simp only [WI,Qo9] at h ⊢;refine ⟨?_,BS (fun k hk=>hn k (by simp [hk])) h.2⟩;have ac:l ∉ bs:=hn l Q2;rw [AE,F3 ac];cases o with
  |none=>rfl
  |some o=>
   cases hs:look st.h l with
   |some o'=>rfl
   |none=>
    have h1:=h.1;rw [hs] at h1;simp only [UY,Qo9,Bool.not_eq_true'] at h1 ⊢;exact ⟨h1.1,h1.2.1,Q4K bs h1.2.2⟩
theorem CQ {f:Nat} {aj:List AV} (hF:Q8u P E o ev f aj) {au:List AV} {bs:List Nat} {dl:Dl}
  (ax:Nh hl aj=some (au,bs)) (a6:Wp P f au hl dl) (hm:TB bs (wrL dl)=false) (a3:TB bs dl.rd=false) :
  KE P E o ev hl ⟨dl.v,bs.map (fun l=>(l,none))++dl.wr,bs++dl.rd⟩:=by
 intro β S st a w hR hO hA a7 K Q hK;obtain ⟨⟨fn,hf,hb,hn⟩,an⟩:=a6;have ar:∀ l,l∈bs->look st.h l=hl l:=fun l h=>hA l (.inl (by simp [h]))
 have ao:∀ l,l∈bs->∃ e s rows,look st.h l=some (.arr e s rows):=fun l h=>by rw [ar l h];exact EO ax l h
 have aq:=hR.objs.fz bs ao (fun l b hs hb=>NA hR hs hb);have a2:∀ l,l∈dl.rd\/l∈wrL dl->fzH (look st.h) bs l=hl l:=by
  intro l ac;rw [F3 (fun h=>by rcases ac with h1 | h1 <;> first | exact Gm a3 h h1 | exact Gm hm h h1)];rcases ac with h1 | h1
  ·exact hA l (.inl (by simp [h1]))
  ·exact hA l (.inr (by simp only [wrL,List.map_append,Qoz];exact .inr h1))
 obtain ⟨vals,ay,a4,aw⟩:=hF β S st a w hR hO;unfold Oper.wp;rw [aw fn hf hb hn];have:=an β (fzS β S bs) (fzH (look st.h) bs) w _ aq (Q8R hR ay a4 ax ar) a2;refine this.mono fun e w' ⟨v,β',S',he,ak⟩=>?_
 subst he;refine hK v w' ?_;rw [<- AE] at ak;have az:WI ⟨st.n,st.tm,MO st.h (bs.map fun l=>(l,none))⟩ dl.wr=true:=BS (fun l ac h=>Gm hm h ac) (RW a7);obtain ⟨a5,S'',g1,g2⟩:=RQ (rd:=bs++dl.rd) (Q17 hR bs ao) az ak;refine ⟨a5,S'',?_,?_⟩
 all_goals grind [RX]
theorem Au {t:Nat}:∀ {l:List AV},l.all Q12=true->Q0h t l=false
 |[],_=>rfl
 |a::r,h=>by
  simp only [List.all_cons,Qo9] at h;simp only [Q0h,Rm h.1 t,Au h.2,Bool.or_false]
theorem Q46 {x:AV} (h:Qap x=true) (t:Nat):gds t x=false:=by
 unfold Qap at h
 grind [gds,Au,Rm]
theorem Q27 {f:Nat} {ac:List AV} (hF:Q8u P E o ev f ac) {dl:Dl} (aw:ac.all Qap=true) (ar:Wp P f ac hl dl):KE P E o ev hl dl:=by
 intro β S st a w hR hO hA au K Q hK;obtain ⟨⟨fn,hf,hb,hn⟩,aj⟩:=ar;obtain ⟨vals,ao,aq,ak⟩:=hF β S st a w hR hO;unfold Oper.wp;rw [ak fn hf hb hn];have:=aj β S (look st.h) w _ hR.objs ⟨ao,fun i v x h1 h2=>(aq i v x h1 h2).mono (fun _ h=>h) (fun _ _=>rfl) (fun l _=>Keep.rfl_ ..) (fun t ht=>by
  grind [Q46,List.all_eq_true,List.mem_of_getElem?])⟩ (fun l h=>hA l h)
 refine this.mono fun e w' ⟨v,β',S',he,an⟩=>?_
 subst he;exact hK v w' (RQ hR au an)
theorem Q4p {spec:Q5L} {tt:TT} (hS:A3 P spec) {f:Nat} {ao:Nat} {g u:Bool} {aj:List AV} (hF:Q8u P E o ev f aj) {k:Dl->oP R} {r:R}
  (h:Qca spec tt ao g u hl f aj k=some r):∃ dl,k dl=some r/\(g=true->KE P E o ev hl dl):=by
 unfold Qca at h;cases an:QiH spec f with
 |true=>
  simp only [an,Qoc] at h;cases aq:aj.all Qap with
  |false=>simp_all
  |true=>
  simp only [aq,Qoc] at h;obtain ⟨dl,h,ar⟩:=hS _ _ _ _ _ _ _ _ h
  grind [Q27]
 |false=>
 simp only [an,cond_false] at h;split at h
 case h_2=>cases h
 rename_i aw bs ax;obtain ⟨dl,h,ar⟩:=hS _ _ _ _ _ _ _ _ h;cases ac:(!TB bs (wrL dl)&&(!TB bs dl.rd&&BX bs dl)) with
 |false=>simp_all
 |true=>
  simp only [ac,Qoc] at h;simp only [Qo9,Bool.not_eq_true'] at ac;obtain ⟨hm,au,ay⟩:=ac;cases hf:(bs.isEmpty||(RF dl.v&&BL dl.wr)) with
  |true=>
   simp only [hf,Qoc] at h
   grind [Mq,H8]
  |false=>
   simp only [hf,cond_false] at h;cases ak:(RF dl.v&&EP tt dl.wr) with
   |true=>
    simp only [ak,Qoc] at h;simp only [Qo9] at ak;obtain ⟨_,h,hp⟩:=X6 h
    grind [Mq,Ka,Eh,Q3A,Ak]
   |false=>
    simp only [ak,cond_false] at h;cases u with
    |false=>simp at h
    |true=>
     simp only [Qoc] at h
     grind [CQ]
end
end Go.Vx
namespace Go.Vx
variable {hl:Nat->oP Ob}
section
variable {P:Program} {E:Env} {R:Type}
theorem Q4M {x:Nat}:∀ {l:List Nat},Si x l=true↔x∈l
 |[]=>by simp [Si]
 |a::r=>by
  simp only [Si,Bool.or_eq_true,Q4M (l:=r),Qoq];constructor
  ·rintro (h | h)
   ·exact .inl (Qoa h).symm
   ·exact .inr h
  ·rintro (h | h)
   ·exact .inl (by rw [h];exact Nat.beq_refl _)
   ·exact .inr h
def QfE (av:AV):Prop:=(∀ k,Ur k av=false)/\(∀ t,gds t av=false)/\av≠.top
theorem Qeh (hl:Nat->oP Ob) (bs:List Nat):Qi0 hl bs=fzH hl bs:=by
 funext k;simp [Qi0,fzH,Si,Qoo,Q4M,Qok]
theorem Q1r (hl:Nat->oP Ob) (ev:Operand->AV):∀ (l:List (Nat×Operand)),VR (fun x=>cv1 hl (ev x)) l=cvP hl (VR ev l)
 |[]=>rfl
 |(i,x)::r=>by simp only [VR,cvP,Q1r hl ev r]
theorem Qac {hl:Nat->oP Ob} {ev:Operand->AV}:∀ {l:List (Nat×Operand)} {p:Nat×Operand},p∈l->∀ a b,Nk hl (ev p.2)=some (a,b)->∀ x∈b,x∈bsP hl (VR ev l)
 |(i,y)::r,p,hp,a,b,hc,x,hx=>by
  simp only [VR,bsP];rcases Qoq.1 hp with rfl | hp
  ·simp only at hc;rw [hc];exact List.mem_append_left _ hx
  ·have ih:=Qac hp a b hc x hx;split
   ·exact List.mem_append_right _ ih
   ·exact ih
theorem Q6p {hl:Nat->oP Ob}:∀ {l:List (Nat×AV)} {x:Nat},x∈bsP hl l->∃ e s rows,hl x=some (.arr e s rows)
 |[],x,h=>by simp [bsP] at h
 |(i,a)::r,x,h=>by
  simp only [bsP] at h;split at h
  ·rename_i a' b hc;rcases Qoz.1 h with h | h
   ·exact BD hc x h
   ·exact Q6p h
  ·exact Q6p h
theorem Q3X:∀ {z:List D} {l:List AV} {ds:List D},QaI z l=some ds->(∀ k,Kh k l=false)/\(∀ t,Q0h t l=false)/\∀ x∈l,x≠.top
 |[],[],ds,h=>⟨fun _=>rfl,fun _=>rfl,fun x h=>by simp at h⟩
 |[],_::_,ds,h=>by simp [QaI] at h
 |_::_,[],ds,h=>by simp [QaI] at h
 |z::zs,a::r,ds,h=>by
  simp only [QaI] at h;split at h
  case h_2=>cases h
  rename_i l hl;obtain ⟨h1,h2,h3⟩:=Q3X hl;split at h
  ·exact ⟨fun k=>by simp [Kh,Ur,h1 k],fun t=>by simp [Q0h,gds,h2 t],fun x hx=>by
    rcases Qoq.1 hx with rfl | hx
    ·simp
    ·exact h3 x hx⟩
  ·exact ⟨fun k=>by simp [Kh,Ur,h1 k],fun t=>by simp [Q0h,gds,h2 t],fun x hx=>by
    rcases Qoq.1 hx with rfl | hx
    ·simp
    ·exact h3 x hx⟩
  ·cases h
theorem Q8e {z:List D} {av:AV} {ds:List D} (h:QaI z (Y9 av)=some ds):QfE av:=by
 obtain ⟨h1,h2,h3⟩:=Q3X h;cases av with
 |ag l=>exact ⟨fun k=>by grind [Ur,Y9],fun t=>by grind [gds,Y9],by simp⟩
 |fs _ _=>exact ⟨fun k=>rfl,fun t=>rfl,by simp⟩
 |_=>exact ⟨fun k=>by simp_all [Kh,Y9],fun t=>by simp_all [Q0h,Y9],h3 _ (by simp [Y9])⟩
theorem Cm {z:List D}:∀ {ac:List (Nat×AV)} {rows aj:List (List D)},LE z rows ac=some aj->∀ p∈ac,QfE p.2
 |[],_,_,_,p,hp=>by simp at hp
 |(i,v)::r,rows,aj,h,p,hp=>by
  simp only [LE] at h;split at h
  case h_2=>cases h
  rename_i row ak;cases hc:Nat.ble (i+1) rows.length with
  |false=>simp [hc] at h
  |true=>
   simp only [hc,Qoc] at h;rcases Qoq.1 hp with rfl | hp
   ·exact Q8e ak
   ·exact Cm h p hp
theorem Ay {ev:Operand->AV}:∀ {l:List (Nat×Operand)} {p:Nat×Operand},p∈l->(p.1,ev p.2)∈VR ev l
 |(i,y)::r,p,hp=>by
  simp only [VR];rcases Qoq.1 hp with rfl | hp
  ·simp
  ·exact List.mem_cons_of_mem _ (Ay hp)
theorem Q04 {tt:TT} {an:Nat} {u:Bool} {t len:Nat} {ac:List (Nat×AV)} {k:Dl->oP R} {r:R} (h:Hc tt hl an u t len ac k=some r):∀ p∈ac,QfE p.2:=by
 unfold Hc at h;split at h
 case h_2=>cases h
 rename_i e ak hk;cases hc:(Nat.ble (len*ak) 16777216&&(look tt e).isSome&&Nat.beq (Mc tt e).length ak) with
 |false=>simp_all
 |true=>
  simp only [hc,Qoc] at h;split at h
  case h_2=>cases h
  rename_i rows aj;exact Cm aj
theorem Q3p {o:Oper} {ev:Operand->AV} {bs:List Nat} {dl:Dl} (ax:∀ l,l∈bs->∃ e s rows,hl l=some (.arr e s rows))
  (ao:∀ x∈o.op.operands.toList,(∃ b,Nk hl (ev x)=some (cv1 hl (ev x),b)/\∀ y∈b,y∈bs)/\QfE (cv1 hl (ev x)))
  (hG:KE P E o (fun x=>cv1 hl (ev x)) (fzH hl bs) dl) (hm:TB bs (wrL dl)=false) (a2:TB bs dl.rd=false):KE P E o ev hl ⟨dl.v,bs.map (fun l=>(l,none))++dl.wr,bs++dl.rd⟩:=by
 intro β S st a w hR hO hA ar K Q hK;have aq:∀ l,l∈bs->look st.h l=hl l:=fun l h=>hA l (.inl (by simp [h]))
 have ak:∀ l,l∈bs->∃ e s rows,look st.h l=some (.arr e s rows):=fun l h=>by simp_all
 have au:=Q17 hR bs ak;refine hG β (fzS β S bs) _ a w au (fun x hx=>⟨?_,fun l _=>(ao x hx).2.1 l⟩) ?_ (BS (fun l ac h=>Gm hm h ac) (RW ar)) K Q fun v w' an=>hK v w' ?_
 ·obtain ⟨⟨b,h1,h2⟩,hb⟩:=ao x hx;rw [AE];exact (Q7p hR.objs aq h2 h1 (hO.at hx)).mono (fun _ h=>h) (fun _ _=>rfl) (fun l _=>Keep.rfl_ ..) (fun t ht=>by rw [hb.2.1 t] at ht;cases ht)
 ·intro l ac;have aj:l ∉ bs:=fun h=>by grind [Gm]
  rw [AE,F3 aj,F3 aj];rcases ac with h1 | h1
  ·exact hA l (.inl (by simp [h1]))
  ·exact hA l (.inr (by simp_all [wrL,List.map_append,Qoz]))
 ·obtain ⟨β',S',g1,g2⟩:=an;refine ⟨β',S',?_,?_⟩
  all_goals grind [RX]
theorem Q5w {tt:TT} (hT:TOk P tt) {o:Oper} {t:TypeId} {len:Nat} {ac:Array (Nat×Operand)} (ho:o.op = .buildSlice t len ac) {u:Bool} {aj:Nat} {ev:Operand->AV} {k:Dl->oP R} {r:R}
  (h:Q5o tt hl aj u t len (VR ev ac.toList) k=some r):∃ dl,k dl=some r/\KE P E o ev hl dl:=by
 unfold Q5o at h;split at h
 ·exact M7 hT ho h
 ·rename_i b bs hb;cases u with
  |false=>simp at h
  |true=>
   rw [<- Q1r] at h;have ao:=Q04 h;rw [Qeh] at h;obtain ⟨dl,h,hG⟩:=M7 (E:=E) hT ho h;cases hc:(!TB (b::bs) (wrL dl)&&!TB (b::bs) dl.rd) with
   |false=>simp_all
   |true=>
    simp only [hc,Qoc] at h;simp only [Qo9,Bool.not_eq_true'] at hc;refine ⟨_,h,Q3p (fun l ak=>Q6p (hb▸ak)) (fun x hx=>?_) hG hc.1 hc.2⟩;obtain ⟨i,hi⟩:∃ i,(i,x)∈ac.toList:=by
     grind [Op.operands]
    have hn:QfE (cv1 hl (ev x)):=ao _ (Ay hi);refine ⟨?_,hn⟩;unfold cv1 at hn ⊢;cases an:Nk hl (ev x) with
    |none=>
     rw [an] at hn;exact absurd rfl hn.2.2
    |some q=>exact ⟨q.2,rfl,fun y hy=>by grind [Qac]⟩
end
end Go.Vx
namespace Go.Vx
section
variable {P:Program} {E:Env} {R:Type}
theorem Cj:∀ {rows:List (List D)} {s:List UInt8},Ds rows=some s->∃ ns:List Int,rows=ns.map (fun n=>[D.int .u8 n])/\s=ns.map fun n=>UInt8.ofNat n.toNat
 |[],s,h=>by simp_all [Ds]
 |row::r,s,h=>by
  unfold Ds at h;split at h
  ·simp_all
  ·rename_i n r' he;injection he with he1 he2
   subst he1 he2;split at h
   ·rename_i l hl;injection h with h
    subst h;obtain ⟨ns,h1,h2⟩:=Cj hl;exact ⟨n::ns,by simp [h1],by simp [h2]⟩
   ·cases h
  ·cases h
theorem Q13:∀ (ns:List Int) (s:ByteArray),(ns.foldl (fun r n=>r.push (UInt8.ofNat n.toNat)) s).data.toList=s.data.toList++ns.map fun n=>UInt8.ofNat n.toNat
 |[],s=>by simp
 |n::ns,s=>by
  rw [List.foldl_cons,Q13 ns];simp [ByteArray.push]
theorem Q82 {tt:TT} (hT:TOk P tt) {o:Oper} {s t:TypeId} {x:Operand} (ho:o.op = .convert s t x) {g:Bool} {ev:Operand->AV} {hl:Nat->oP Ob} {e:Nat} {rows:List (List D)} {rd:List Nat}
  (hs:Pz tt s = .sl e 1) (ht:Pz tt t = .str) (he:Pz tt e = .int .u8) (hx:Q14 1 hl (ev x)=some (rows,rd)) {k:Dl->oP R} {r:R} (h:gb g (Ds rows) [] (fun s=>k ⟨.d (.str s),[],rd⟩)=some r) :
  ∃ dl,k dl=some r/\(g=true->KE P E o ev hl dl):=by
 obtain ⟨ti,bc,a7⟩:=XR hs Q2;obtain ⟨a3,a2,ax⟩:=XR ht Q2;obtain ⟨a8,ay,az⟩:=XR he Q2;have a6:=((hT s ti bc).ksl _ _ a7).1;have a4:=(hT t a3 a2).kstr ax;have bb:=(hT e a8 ay).kint _ az;obtain ⟨str,h,hp⟩:=X6 h;refine ⟨_,h,fun hg=>QE fun β S st a w hR hO hA=>?_⟩;have hv:=hO.at (x:=x) (by simp [ho,Op.operands]);obtain ⟨vals,aw⟩:=Q3v Q0 hx hR hv (fun l a9=>hA l (.inl a9));obtain ⟨ns,aj,ak⟩:=Cj (hp hg);have ao:∀ bs:ByteArray,bs.data.toList=str->(execOp a.eval o).run P w = .ok (.value (.string bs)) w->∃ u,(execOp a.eval o).run P w = .ok (.value u) w/\RdA β S (look st.h) w (tmv a) u (.d (.str str)):=by
  intro bs hb hr;refine ⟨.string bs,hr,.d _ _ ?_⟩;rw [<- hb];exact .str _
 have ac:∀ (ad:oP Addr) (l c:Nat) (bs:ByteArray),a.eval x = .slice ad l c->(Conv.bytesToString (.slice ad l c)).run P w = .ok (.string bs) w->(execOp a.eval o).run P w = .ok (.value (.string bs)) w:=by
  intro ad l c bs ba hb;unfold execOp;rw [ho];simp only [ba,Qob,run_convert_bytes_string w s t e ad l c a6 bb a4,hb,Qo7];rfl
 rcases aw.form with ⟨hf,hn⟩ | ⟨c,hf,hn⟩ | ⟨ad,c,hf,au⟩
 ·refine ao .empty ?_ (ac none 0 0 _ hf (by simp [Conv.bytesToString]));rw [hn] at aj;have:ns=[]:=by
   cases ns with
   |nil=>rfl
   |cons a b=>simp at aj
  rw [ak,this];rfl
 ·refine ao .empty ?_ (ac none 0 c _ hf (by simp [Conv.bytesToString]));rw [hn] at aj;have:ns=[]:=by
   cases ns with
   |nil=>rfl
   |cons a b=>simp at aj
  rw [ak,this];rfl
 ·have bg:vals.length=ns.length:=by rw [aw.len,aj];simp
  have ar:vals=ns.map (Value.int .u8):=by
   refine List.ext_getElem? fun i=>?_
   rcases Nat.lt_or_ge i ns.length with hi | hi
   ·obtain ⟨u,hu,hr⟩:=aw.rd i 0 [D.int .u8 ns[i]] (D.int .u8 ns[i]) (by rw [aj];simp [hi]) rfl;rw [show i*1+0=i by omega] at hu;rw [hu];cases hr;simp [hi]
   ·rw [List.getElem?_eq_none Q0,List.getElem?_eq_none (by simpa using hi)]
  have an:=run_loadCells_list (P:=P) w ad vals au;have hr:=run_bytesToString (P:=P) w ad rows.length c ns (by
   rw [ar,List.length_map] at an;rw [show rows.length=ns.length by rw [aj];simp];exact an)
  refine ao _ ?_ (ac (some ad) _ c _ hf hr);rw [Q13,ak];rfl
end
end Go.Vx
namespace Go.Vx
variable {hl:Nat->oP Ob} {ev:Operand->AV} {β:Nat->oP Nat} {S:Nat->Prop} {o:Oper} {tt:TT} {t:TypeId}
section
variable {P:Program} {E:Env} {R:Type}
theorem Hz {α:Type}:∀ (n s:Nat) (l:List α),(NI n s l).length=n
 |0,_,_=>rfl
 |n+1,s,l=>by simp [NI,Hz n]
theorem Ar {α:Type}:∀ (n s:Nat) (l:List α) (i:Nat),i<n->(NI n s l)[i]? = some ((l.drop (i*s)).take s)
 |n+1,s,l,0,_=>by simp [NI]
 |n+1,s,l,i+1,h=>by
  simp only [NI,List.getElem?_cons_succ];rw [Ar n s _ i Q0,List.drop_drop,Nat.add_comm s,QoA]
theorem Q15 {w:World} {cs:Array Value} {n s:Nat} {ds:List D} (aj:ds.length=n*s) (ak:n*s<=cs.size) (hr:∀ (j:Nat) (x:D),ds[j]? = some x->∃ v,cs[j]? = some v/\Rd S w v x):Vr S w cs s (NI n s ds):=by
 refine ⟨by grind [Hz],fun i r h=>?_,fun i j r x h1 h2=>?_⟩
 ·have hi:i<n:=by grind [List.getElem?_eq_some_iff,Hz]
  rw [Ar n s ds i hi] at h;have ac:(i+1)*s<=n*s:=Qoe _ Q0
  grind
 grind [List.getElem?_eq_some_iff,Hz,Ar]
theorem Q7V {st:St} {a:Act} {w:World} (hR:Rel E β S st a w) {ac e s:Nat} {rows:List (List D)} {cs:Array Value} (aj:look st.h ac=none) (hc:UY st ac=true) (h:Vr S w cs s rows) :
  Rel E (RY β ac (some w.heap.size)) S ⟨st.n,st.tm,(ac,.arr e s rows)::rem ac st.h⟩ a (w.alloc (.cells cs e)):=by
 obtain ⟨h1,h2,h3⟩:=h;refine hR.new aj hc (.inr ⟨w.heap.size,cs,by simp [RY],Jx _ _,h1,h2,fun i j r x h4 h5=>?_⟩);obtain ⟨v,hv,hr⟩:=h3 i j r x h4 h5;exact ⟨v,hv,hr.mono (fun _ hb=>hb) (fun b hb=>ZH _ _ (hR.hr.sb b hb))⟩
theorem Q5r (hT:TOk P tt) (ho:o.op = .alloc t) {ac:Nat} {ti:TyI} (aw:look tt t=some ti) {e aj n:Nat} (hk:ti.kd = .array e aj n) (au:ti.zd.length=n*aj) (hn:hl ac=none) :
  KE P E o ev hl ⟨.ap ac 0 0,[]++[(ac,some (.arr t aj (NI n aj ti.zd)))],[]⟩:=by
 have ak:=hT t ti aw;obtain ⟨inf,az,_,_,z,hz,ax⟩:=ak.inf;obtain ⟨_,_,_,ao,_⟩:=ak.karr e aj n hk;have a4:z.cells.size=n*aj:=by rw [<- Qol,ax,ak.zlen];exact ao
 intro β S st a w hR hO hA a5 K Q hK;have ay:look st.h ac=none:=by rw [hA ac (.inr (by simp [wrL]))];exact hn
 have hc:UY st ac=true:=by grind [WI]
 have aq:Vr S w z.cells aj (NI n aj ti.zd):=Q15 au Q0 fun j x hx=>by
  obtain ⟨v,hv,hr⟩:=ak.zd Q0 j x hx
  grind
 have ar:(execOp a.eval o).run P w = .ok (.value (.pointer (some ⟨w.heap.size,0,none⟩))) (w.alloc (.cells z.cells t)):=by
  simp_all [execOp,Instr.alloc,zeroValue,YI,newVar,newRow]
 unfold Oper.wp;rw [ar];refine hK _ _ ⟨RY β ac (some w.heap.size),S,Q7V hR ay hc aq,?_⟩;have:=RdA.ap (β:=RY β ac (some w.heap.size)) (S:=S) (h:=look (MO st.h ([]++[(ac,some (Ob.arr t aj (NI n aj ti.zd)))]))) (w:=w.alloc (.cells z.cells t)) (tm:=tmv a) ac 0 0 w.heap.size t aj (NI n aj ti.zd) (by simp [RY]) (by simp [MO,Uk])
 simp_all
theorem Q1i {α:Type} {l:List α} {n:Nat} {u:Unit} (h:Tv l n=some u):l.length=n:=by
 grind [Tv,Nat.beq,Nat.eq_of_beq_eq_true]
theorem A8 (hT:TOk P tt) {x i:Operand} (ho:o.op = .indexAddr t x i) {g:Bool} {k:Dl->oP R} {r:R} {e ac n l:Nat} (hk:Pz tt t = .array e ac n) (ay:ev x = .ap l 0 0)
  (h:F2 g hl ac n l (ev i) k=some r):∃ dl,k dl=some r/\(g=true->KE P E o ev hl dl):=by
 have aq:x∈o.op.operands.toList:=by grind [Op.operands]
 have au:i∈o.op.operands.toList:=by simp [ho,Op.operands]
 obtain ⟨ti,ax,ar⟩:=XR hk Q2;obtain ⟨hu,a4,⟨i0,a3,ak⟩,_,_⟩:=(hT t ti ax).karr _ _ _ ar;unfold F2 at h;split at h
 case h_2=>cases h
 rename_i ik y e' s rows a2 aj;cases hb:Nat.beq s ac with
 |false=>simp_all
 |true=>
  obtain rfl:=Qoa hb;simp only [hb,Qoc] at h;obtain ⟨u,h,aw⟩:=X6 h;refine ⟨_,h,fun hg=>QE fun β S st a w hR hO hA=>?_⟩;obtain ⟨h0,h1⟩:=Q7a (aw hg);have hi:=(a2▸hO.at au).int_inv;have ao:look st.h l=some (.arr e' s rows):=by rw [hA l (.inl Q2)];exact aj
  obtain ⟨b,az,hx⟩:=RdA.ap_inv ao (ay▸hO.at aq);have an:(execOp a.eval o).run P w = .ok (.value (.pointer (some ⟨b,y.toNat*s,none⟩))) w:=by
   unfold execOp;rw [ho];simp [Instr.indexAt,hx,hi,asIntOf,X5 hu,h0,h1,sizeOf,YI a3,ak,Instr.sureAddr,HQ]
  refine ⟨_,an,?_⟩;have:=RdA.ap (β:=β) (S:=S) (h:=look st.h) (w:=w) (tm:=tmv a) l y.toNat 0 b e' s rows az ao;omega
theorem Q5x (hT:TOk P tt) {x y:Operand} (ho:o.op = .store t x y) {k:Dl->oP R} {r:R} {e ay n l:Nat} (hk:Pz tt t = .array e ay n) (bn:ev x = .ap l 0 0)
  (h:Q6t hl ay n l (ev y) k=some r):∃ dl,k dl=some r/\KE P E o ev hl dl:=by
 have bk:x∈o.op.operands.toList:=by grind [Op.operands]
 have bc:y∈o.op.operands.toList:=by simp [ho,Op.operands]
 obtain ⟨ti,bm,bl⟩:=XR hk Q2;have a5:=hT t ti bm;obtain ⟨hu,bq,_,aw,_⟩:=a5.karr _ _ _ bl;unfold Q6t at h;split at h
 case h_2=>cases h
 rename_i e' s rows a4;cases hb:Nat.beq s ay with
 |false=>simp_all
 |true=>
  obtain rfl:=Qoa hb;simp only [hb,Qoc] at h;split at h
  case h_2=>cases h
  rename_i ds bj;cases an:Nat.beq ds.length (n*s) with
  |false=>simp_all
  |true=>
   have a8:=Qoa an;simp only [an,Qoc] at h;obtain ⟨u,h,a3⟩:=X6 h;have bh:=Q1i (a3 rfl);refine ⟨_,h,?_⟩;intro β S st a w hR hO hA cc K Q hK;have aj:look st.h l=some (.arr e' s rows):=by rw [hA l (.inl Q2)];exact a4
   obtain ⟨b,ak,hx⟩:=RdA.ap_inv aj (bn▸hO.at bk);have az:=Q0d bj;obtain ⟨c1,c2,c3⟩:=MV (hO.at bc) (by rw [az];exact C1 ds);rcases hR.hr.ob l _ aj with ⟨ba,_⟩ | ⟨b',cs,ar,hw,au,b9,b6⟩
   ·rw [ak] at ba;cases ba
   obtain rfl:b=b':=by rw [ak] at ar;injection ar
   rw [bh] at au;have aq:(a.eval y).cells.size=n*s:=by rw [c1,az];simpa using a8
   obtain ⟨w',a9,ac⟩:∃ w',(storeCells ⟨b,0,none⟩ (a.eval y).cells.toList 0).run P w = .ok () w'/\Wrote b (Pd cs 0 (a.eval y).cells.toList) e' (0,0) w w':=
    GQ b 0 e' (0,0) _ 0 cs w hw (Qeb _) (by simp [aq];omega) c3
   have a6:∀ j,(Pd cs 0 (a.eval y).cells.toList)[j]? = if j<n*s then (a.eval y).cells[j]? else cs[j]?:=by
    intro j;rw [R7 _ _ _ _ (by simp [aq];omega)];simp [aq]
   unfold Oper.wp;have bi:a.eval x = .pointer (some ⟨b,0,none⟩):=by simpa using hx
   rw [MA ho bi (M0 a5 (by rw [aq,aw]) a9)];have a7:∀ k',look ((l,Ob.arr e' s (NI n s ds))::rem l st.h) k'=if k'=l then some (.arr e' s (NI n s ds)) else look st.h k':=fun k'=>Uk l k' _ st.h
   have ao:Keep β (look st.h) w β (look ((l,.arr e' s (NI n s ds))::rem l st.h)) w' l:=by
    refine ⟨rfl,fun h=>?_,fun e1 s1 bb h=>?_,fun b2 b7 b4 ce _ an a2=>?_,fun t f h=>by rw [aj] at h;cases h⟩
    ·rw [aj] at h;cases h
    ·rw [aj] at h;cases h;exact .inr ⟨NI n s ds,by rw [a7,Qoo rfl],by rw [Hz];omega⟩
    ·rw [ak] at an;injection an with e;subst e
     rw [hw] at a2;injection a2 with e;injection e with e1 e2 e3;subst e1
     exact ⟨_,_,_,ac.blk,Uy _ _ _⟩
   refine hK undef _ ⟨β,S,hR.set aj ak ac.oth ac.os ac.tape ac.output ac.size ao (.inr ⟨b,_,ak,ac.blk,?_⟩),.top _⟩;have bg:∀ c,S c->w'.heap[c]? = w.heap[c]?:=fun c hc=>ac.oth c (fun e=>by subst e;exact hR.hr.apart l c (by simp [aj]) ak hc)
   have ax:Vr S w (Pd cs 0 (a.eval y).cells.toList) s (NI n s ds):=by
    refine Q15 a8 (by rw [Uy];exact au) fun j d hd=>?_
    have hj:j<n*s:=by have:=(Qo8.1 hd).1;omega
    have h1:=a6 j;rw [Qoo hj] at h1;rw [h1];refine ⟨_,Td (cs:=(a.eval y).cells) Q0,?_⟩;have h2:=c2 j (.d d) (by rw [az,Qoi,hd];rfl);exact h2.d_inv
   obtain ⟨r1,r2,r3⟩:=ax;exact ⟨r1,r2,fun i j r x h4 h5=>by
    obtain ⟨v,hv,hr⟩:=r3 i j r x h4 h5;exact ⟨v,hv,hr.mono (fun _ h=>h) bg⟩⟩
theorem QaQ {st:St} {a:Act} {w w':World} (hR:Rel E β S st a w) (ac:∀ b,b<w.heap.size->w'.heap[b]? = w.heap[b]?) (ao:w'.heap.size=w.heap.size+1) (an:w'.os=w.os) (ak:w'.tape=w.tape) (aj:w'.output=w.output):Rel E β (fun b=>S b\/b=w.heap.size) st a w':=by
 have:=hR.upd (w':=w') (β':=β) (S':=fun b=>S b\/b=w.heap.size) (H':=st.h) (fun _ h=>.inl h) (fun b hb=>ac b (hR.hr.sb b hb)) (fun _=>False)
  (fun l _=>⟨rfl,rfl,fun b hs hb=>ac b (NA hR hs hb)⟩) (fun l h=>h.elim) (fun l o h=>h.elim) hR.hr.inj
  (fun l b hs hb hS=>by
   rcases hS with hS | hS
   ·exact hR.hr.apart l b hs hb hS
   ·have:=NA hR hs hb;omega)
  hR.hr.own
  (fun b hS=>by
   rcases hS with hS | hS
   ·have:=hR.hr.sb b hS;omega
   ·omega)
  (fun b hS=>by
   rcases hS with hS | hS
   ·exact hR.hr.sfr b hS
   ·right;right;have:=hR.hr.fr.size;omega)
  ⟨an.trans hR.hr.fr.os,ak.trans hR.hr.fr.tape,aj.trans hR.hr.fr.output,by have:=hR.hr.fr.size;omega,fun b hb hm=>(ac b (Qoy hb hR.hr.fr.size)).trans (hR.hr.fr.block b hb hm)⟩
 exact this
theorem Q1X (hT:TOk P tt) {s t:TypeId} {x:Operand} (ho:o.op = .convert s t x) {e:Nat} {n:List UInt8}
  (hs:Pz tt s = .str) (ht:Pz tt t = .sl e 1) (he:Pz tt e = .int .u8) (hx:ev x = .d (.str n)):KE P E o ev hl ⟨.d (.sl 1 (Q8w n)),[],[]⟩:=by
 obtain ⟨ti,az,ax⟩:=XR hs Q2;obtain ⟨ar,aq,ac⟩:=XR ht Q2;obtain ⟨ay,aj,ao⟩:=XR he Q2;have a6:=(hT s ti az).kstr ax;have a4:=((hT t ar aq).ksl _ _ ac).1;have a8:=(hT e ay aj).kint _ ao;intro β S st a w hR hO hA bb K Q hK;obtain ⟨b,hb,hv⟩:=(hx▸hO.at (x:=x) (by grind [Op.operands])).str_inv;have an:(execOp a.eval o).run P w = .ok (.value (.slice (some ⟨w.heap.size,0,none⟩) b.size (grownCap w b.size 0 e))) (Lib.bytesWorld w e b):=by
  simp_all [execOp,Qob,Lib.run_convert_string_bytes,Qo7]
 unfold Oper.wp;rw [an];have a2:b.size<=grownCap w b.size 0 e:=grownCap_ge w b.size 0 e;refine hK _ _ ⟨β,fun c=>S c\/c=w.heap.size,QaQ hR (fun c hc=>Lib.bytesWorld_at_old w e b c hc) (Lib.bytesWorld_size w e b) rfl rfl rfl,.d _ _ ?_⟩;have ak:(Q8w n).length=b.size:=by simp [Q8w,hb]
 rw [<- ak];refine Vr.rd (cs:=Lib.bytesCells w e b) ⟨?_,?_,?_⟩ (Lib.bytesWorld_at_new w e b) (.inr rfl) Q4
 ·simp_all [Lib.bytesCells]
 ·simp_all [Q8w,Qoi,Qod]
 ·intro i j r d h1 h2;simp only [Q8w,Qoi,Qod] at h1;obtain ⟨c,hc,rfl⟩:=h1;cases j with
  |zero=>
   simp at h2;subst h2;have hi:i<b.size:=by have:=(Qo8.1 hc).1;rw [hb] at this;simpa using this
   refine ⟨.int .u8 (c.toNat:Int),?_,.int _ _⟩;rw [hb] at hc;have:b.data[i]? = some c:=by simpa using hc
   have au:i<b.data.size:=hi;simp only [Lib.bytesCells,Nat.mul_one,Nat.add_zero];rw [Array.getElem?_append_left (by simpa using au),Array.getElem?_map,this];rfl
  |succ j=>simp at h2
theorem RV (n:Int):∀ (es:List MapEntry) (i:Nat),(∀ e∈es,∃ m,e.key = .int .i64 m) ->
  (Ts es n=none/\Instr.findNow (.int .i64) (.int .i64 n) es i=some none)\/∃ j v,Ts es n=some v/\Instr.findNow (.int .i64) (.int .i64 n) es i=some (some (j,v))
 |[],i,_=>.inl ⟨rfl,rfl⟩
 |e::r,i,h=>by
  obtain ⟨m,hm⟩:=h e (List.mem_cons_self ..);simp only [Ts,hm,Instr.findNow,Instr.sameNow,if_true];by_cases aj:m=n
  ·simp_all
  ·have hb:(n == m)=false:=by grind
   simp only [hb,aj,if_false];exact RV n r (i+1) fun x hx=>h x (List.mem_cons_of_mem _ hx)
theorem RdA.mpd_inv {h:Nat->oP Ob} {w:World} {tm:Nat->Value} {v:Value} {f:Int->List (List D)} (hv:RdA β S h w tm v (.mpd f)):QaH S w v f:=by
 cases hv with
 |mpd _ _ hm=>exact hm
 |dang _ _ l hl=>trivial
theorem Q6e (hT:TOk P tt) {m x:Operand} (ho:o.op = .lookup t m x false) {f:Int->List (List D)} {n:Int}
  (ht:Pz tt t = .mapI) (hm:ev m = .mpd f) (hx:ev x = .d (.int .i64 n)):KE P E o ev hl ⟨.d (.sl 1 (f n)),[],[]⟩:=by
 obtain ⟨ti,ar,ao⟩:=XR ht Q2;obtain ⟨K0,e,hu,hk,i,hi,hz⟩:=(hT t ti ar).kmap ao;intro β S st a w hR hO hA a8 K Q hK;obtain ⟨b,es,au,hv,hS,hb,aj,hn,ac⟩:=(hm▸hO.at (x:=m) (by simp [ho,Op.operands])).mpd_inv;have aq:=(hx▸hO.at (x:=x) (by simp [ho,Op.operands])).int_inv;have aw:(zeroValue e).run P w = .ok (.slice none 0 0) w:=by simp [zeroValue,YI hi,hz]
 have an:(Instr.checkKey es.isEmpty 10000 K0 (.int .i64 n)).run P w = .ok () w:=by
  rw [show (10000:Nat)=9999+1 from rfl,Instr.checkKey];simp only [Qob,X5 hk,Qo7];rfl
 obtain ⟨v,ak,ax⟩:∃ v,(Instr.lookup t (.map (some b)) (.int .i64 n) false).run P w = .ok v w/\Rd S w v (.sl 1 (f n)):=by
  rcases RV n es.toList 0 aj with ⟨h1,h2⟩ | ⟨j,v,h1,h2⟩
  ·refine ⟨.slice none 0 0,?_,by rw [hn n h1];exact .sl0 _ _ _⟩;simp [Instr.lookup,X5 hu,Qop hb,an,Instr.findKey,X5 hk,h2,aw,Result.andThen]
  ·refine ⟨v,?_,ac n v h1⟩;simp [Instr.lookup,X5 hu,Qop hb,an,Instr.findKey,X5 hk,h2,Result.andThen]
 unfold Oper.wp execOp;rw [ho];simp only [hv,aq,Qob,ak,Qo7];exact hK _ _ ⟨β,S,hR,.d _ _ ax⟩
end
end Go.Vx
namespace Go.Vx
variable {hl:Nat->oP Ob} {ev:Operand->AV} {t:TypeId}
section
variable {P:Program} {E:Env} {R:Type}
theorem Q70 (n:Int) (u:Value):∀ (es:List MapEntry) (i:Nat),(∀ e∈es,∃ m,e.key = .int .i64 m)->Ts es n≠none ->
  ∃ j v e,Instr.findNow (.int .i64) (.int .i64 n) es i=some (some (i+j,v))/\es[j]? = some e/\e.key = .int .i64 n /\
   (∀ x∈es.modify j (fun e=>{ e with key:=.int .i64 n,val:=u }),∃ m,x.key = .int .i64 m)/\∀ m,Ts (es.modify j fun e=>{ e with key:=.int .i64 n,val:=u }) m=if m=n then some u else Ts es m
 |[],i,_,h=>absurd rfl h
 |e::r,i,h,hl=>by
  obtain ⟨k,hk⟩:=h e (List.mem_cons_self ..);by_cases aj:k=n
  ·subst aj;refine ⟨0,e.val,e,?_,rfl,hk,fun x hx=>?_,fun m=>?_⟩
   all_goals grind [Instr.findNow,Instr.sameNow,List.modify_zero_cons,Ts]
  ·have hb:(n == k)=false:=by grind
   simp only [Ts,hk,aj,if_false] at hl;obtain ⟨j,v,e',g1,g2,g3,g4,g5⟩:=Q70 n u r (i+1) (fun x hx=>h x (List.mem_cons_of_mem _ hx)) hl;refine ⟨j+1,v,e',?_,by simp_all,g3,fun x hx=>?_,fun m=>?_⟩
   ·simp only [Instr.findNow,Instr.sameNow,hk,hb,if_true,g1];rw [QoC,Nat.add_comm 1 j]
   ·simp only [List.modify_succ_cons,Qoq] at hx;rcases hx with rfl | hx
    ·exact ⟨k,hk⟩
    ·exact g4 x hx
   grind [List.modify_succ_cons,Ts]
theorem Q3D (n:Int) (e:MapEntry) (he:e.key = .int .i64 n):∀ (es:List MapEntry),(∀ e∈es,∃ m,e.key = .int .i64 m)->Ts es n=none->∀ m,Ts (es++[e]) m=if m=n then some e.val else Ts es m
 |[],_,_,m=>by
  simp only [List.nil_append,Ts,he];by_cases h:n=m
  ·simp [h]
  ·rw [Qok h,Qok (fun e=>h e.symm)]
 |x::r,h,hl,m=>by
  obtain ⟨k,hk⟩:=h x (List.mem_cons_self ..);simp only [Ts,hk] at hl;by_cases ac:k=n
  ·rw [Qoo ac] at hl;cases hl
  ·rw [Qok ac] at hl;have ih:=Q3D n e he r (fun y hy=>h y (List.mem_cons_of_mem _ hy)) hl m;simp only [List.cons_append,Ts,hk,ih];by_cases hm:k=m
   ·subst hm;simp [ac]
   ·simp [hm]
theorem Q7U {tt:TT} (hT:TOk P tt) (ht:Pz tt t = .mpb) {w:World} {b:Nat} {f:Int->Bool} (hm:MpR w b f) (n:Int) (v:Bool) :
  ∃ w',(Instr.mapUpdate t (.map (some b)) (.int .i64 n) (.bool v)).run P w = .ok () w'/\MpR w' b (Q7O f n v)/\(∀ k,k≠b->w'.heap[k]? = w.heap[k]?)/\w'.os=w.os/\w'.tape=w.tape/\w'.output=w.output/\w'.heap.size=w.heap.size:=by
 obtain ⟨ti,a6,a4⟩:=XR ht Q2;obtain ⟨K0,e,hu,hk,i,hi,hz⟩:=(hT t ti a6).kmpb a4;obtain ⟨es,ak,hb,ac,hn,ar⟩:=hm;have az:b<w.heap.size:=(Qom.1 hb).1;have ay:(Instr.checkKey false 10000 K0 (.int .i64 n)).run P w = .ok () w:=by
  rw [show (10000:Nat)=9999+1 from rfl,Instr.checkKey];simp only [Qob,X5 hk,Qo7];rfl
 have au:∀ (an:Array MapEntry) (aj:Nat),(Instr.mapUpdate t (.map (some b)) (.int .i64 n) (.bool v)).run P w = .ok () { w with heap:=w.heap.setIfInBounds b (.map an aj) } ->
   (∀ e∈an.toList,∃ m,e.key = .int .i64 m)->(∀ m,Ts an.toList m=if m=n then some (.bool v) else Ts es.toList m) ->
   ∃ w',(Instr.mapUpdate t (.map (some b)) (.int .i64 n) (.bool v)).run P w = .ok () w'/\MpR w' b (Q7O f n v)/\(∀ k,k≠b->w'.heap[k]? = w.heap[k]?)/\w'.os=w.os/\w'.tape=w.tape/\w'.output=w.output/\w'.heap.size=w.heap.size:=by
  intro an aj aw a3 ax;refine ⟨_,aw,⟨an,aj,by simp [az],a3,fun m hm=>?_,fun m x hm=>?_⟩,fun k hk=>?_,rfl,rfl,rfl,by simp⟩
  ·rw [ax] at hm;by_cases e1:m=n
   ·rw [Qoo e1] at hm;cases hm
   ·rw [Qok e1] at hm;simp [Q7O,e1,hn m hm]
  ·rw [ax] at hm;by_cases e1:m=n
   ·rw [Qoo e1] at hm;injection hm with hm;simp [Q7O,e1,<- hm]
   ·rw [Qok e1] at hm;simp [Q7O,e1,ar m x hm]
  ·simp [Ne.symm hk]
 cases hl:Ts es.toList n with
 |none=>
  have hf:Instr.findNow (.int .i64) (.int .i64 n) es.toList 0=some none:=by
   rcases RV n es.toList 0 ac with ⟨_,h2⟩ | ⟨j,x,h1,_⟩
   ·exact h2
   ·rw [hl] at h1;cases h1
  refine au (es.push ⟨.int .i64 n,.bool v,ak⟩) (ak+1) ?_ (fun x hx=>?_) (fun m=>?_)
  ·simp [Instr.mapUpdate,X5 hu,Qop hb,ay,Instr.findKey,X5 hk,hf,MapKept.run_setObj_map _ hb,Result.andThen]
  ·simp only [Array.toList_push,Qoz,List.mem_singleton] at hx;rcases hx with hx | rfl
   ·exact ac x hx
   ·exact ⟨n,rfl⟩
  ·rw [Array.toList_push];exact Q3D n _ rfl es.toList ac hl m
 |some x=>
  obtain ⟨j,y,e',g1,g2,g3,g4,g5⟩:=Q70 n (.bool v) es.toList 0 ac (by rw [hl];simp);rw [Nat.zero_add] at g1;have a5:es[j]? = some e':=by simpa using g2
  have a2:∀ (w:World),(Instr.keyThatStays (.int .i64 n) (.int .i64 n)).run P w = .ok (.int .i64 n) w:=by
   intro w;simp [Instr.keyThatStays,Instr.sameBits]
  refine au (es.modify j fun e=>{ e with key:=.int .i64 n,val:=.bool v }) ak ?_ (by rw [Array.toList_modify];exact g4) (fun m=>by rw [Array.toList_modify];exact g5 m);simp [Instr.mapUpdate,X5 hu,Qop hb,ay,Instr.findKey,X5 hk,g1,a5,g3,a2,MapKept.run_setObj_map _ hb,Result.andThen]
theorem Q4t {o:Oper} (ho:o.op = .makeMap t none) {ac:Nat} (hn:hl ac=none) :
  KE P E o ev hl ⟨.arr ac,[]++[(ac,some (.mp t fun _=>false))],[]⟩:=by
 intro β S st a w hR hO hA ao K Q hK;have ak:look st.h ac=none:=by rw [hA ac (.inr (by simp [wrL]))];exact hn
 have hc:UY st ac=true:=by grind [WI]
 have aj:(execOp a.eval o).run P w = .ok (.value (.map (some w.heap.size))) (w.alloc (.map #[] 0)):=by
  unfold execOp;rw [ho];rfl
 unfold Oper.wp;rw [aj];refine hK _ _ ⟨RY β ac (some w.heap.size),S,?_,.mp ac w.heap.size t (fun _=>false) (by simp [RY]) (by simp [MO,look])⟩;exact hR.new ak hc ⟨w.heap.size,by simp [RY],#[],0,Jx _ _,by simp,fun n _=>rfl,fun n v h=>by trivial⟩
theorem Q0Z {tt:TT} (hT:TOk P tt) {o:Oper} {m x v:Operand} (ho:o.op = .mapUpdate t m x v) {l t':Nat} {f:Int->Bool} {n:Int} {b:Bool}
  (ht:Pz tt t = .mpb) (hm:ev m = .arr l) (hx:ev x = .d (.int .i64 n)) (hv:ev v = .d (.bool b)) (ac:hl l=some (.mp t' f)):KE P E o ev hl ⟨.top,[(l,some (.mp t' (Q7O f n b)))],[l]⟩:=by
 intro β S st a w hR hO hA bg K Q hK;have ac:look st.h l=some (.mp t' f):=by rw [hA l (.inl Q2)];exact ac
 obtain ⟨bk,hb,a7⟩:=RdA.mp_inv ac (hm▸hO.at (x:=m) (by grind [Op.operands]));have ba:=(hx▸hO.at (x:=x) (by simp [ho,Op.operands])).int_inv;have bh:=(hv▸hO.at (x:=v) (by simp [ho,Op.operands])).bool_inv;obtain ⟨b2,bb,aq⟩:=hR.hr.ob l _ ac;obtain rfl:bk=b2:=by simp_all
 obtain ⟨w',a2,ar,an,az,aj,ao,ax⟩:=Q7U hT ht aq n b;have ak:(execOp a.eval o).run P w = .ok .skip w':=by
  simp_all [execOp,Qob,Qo7]
 unfold Oper.wp;rw [ak];refine hK undef _ ⟨β,S,?_,.top _⟩;obtain ⟨es,ay,a4,_⟩:=aq;refine hR.set ac hb an az aj ao ax ⟨rfl,fun h=>?_,fun e s rows h=>?_,fun b3 cs ty fz _ bi a6=>?_,fun t1 f1 h=>?_⟩ ⟨bk,hb,ar⟩
 ·simp_all
 ·rw [ac] at h;cases h
 ·simp_all
 ·rw [ac] at h;injection h with h
  injection h with h1 h2
  subst h1;exact .inr ⟨Q7O f n b,by rw [Uk,Qoo rfl]⟩
theorem Q53 {tt:TT} (hT:TOk P tt) {o:Oper} {m x:Operand} (ho:o.op = .lookup t m x false) {l t':Nat} {f:Int->Bool} {n:Int}
  (ht:Pz tt t = .mpb) (hm:ev m = .arr l) (hx:ev x = .d (.int .i64 n)) (ac:hl l=some (.mp t' f)):KE P E o ev hl ⟨.d (.bool (f n)),[],[l]⟩:=by
 obtain ⟨ti,ay,aw⟩:=XR ht Q2;obtain ⟨K0,e,hu,hk,i,hi,hz⟩:=(hT t ti ay).kmpb aw;refine QE fun β S st a w hR hO hA=>?_
 have ac:look st.h l=some (.mp t' f):=by rw [hA l (.inl Q2)];exact ac
 obtain ⟨bk,hb,au⟩:=RdA.mp_inv ac (hm▸hO.at (x:=m) (by simp [ho,Op.operands]));have ax:=(hx▸hO.at (x:=x) (by simp [ho,Op.operands])).int_inv;obtain ⟨b2,aq,es,az,an,ak,hn,aj⟩:=hR.hr.ob l _ ac;obtain rfl:bk=b2:=by rw [hb] at aq;injection aq
 have a2:(zeroValue e).run P w = .ok (.bool false) w:=by simp [zeroValue,YI hi,hz]
 have ar:(Instr.checkKey es.isEmpty 10000 K0 (.int .i64 n)).run P w = .ok () w:=by
  rw [show (10000:Nat)=9999+1 from rfl,Instr.checkKey];simp only [Qob,X5 hk,Qo7];rfl
 have ao:(Instr.lookup t (.map (some bk)) (.int .i64 n) false).run P w = .ok (.bool (f n)) w:=by
  rcases RV n es.toList 0 ak with ⟨h1,h2⟩ | ⟨j,v,h1,h2⟩
  ·rw [hn n h1];simp [Instr.lookup,X5 hu,Qop an,ar,Instr.findKey,X5 hk,h2,a2,Result.andThen]
  ·rw [<- aj n v h1];simp [Instr.lookup,X5 hu,Qop an,ar,Instr.findKey,X5 hk,h2,Result.andThen]
 refine ⟨.bool (f n),?_,.d _ _ (.bool _)⟩;unfold execOp;rw [ho];simp only [au,ax,Qob,ao,Qo7];rfl
end
end Go.Vx
namespace Go.Vx
variable {hl:Nat->oP Ob} {ev:Operand->AV} {o:Oper} {t:TypeId}
section
variable {P:Program} {E:Env} {R:Type}
theorem Q5I {s:List UInt8} {n b:Int} (h:Jo s n=some b):0<=n/\∃ ac:n.toNat<s.length,b=((s[n.toNat]' ac).toNat:Int):=by
 grind [Jo]
theorem Q8z {tt:TT} (hT:TOk P tt) {x i:Operand} (ho:o.op = .index t x i) {g:Bool} {k:Dl->oP R} {r:R}
  (h:QaW tt g t (ev x) (ev i) k=some r):∃ dl,k dl=some r/\(g=true->KE P E o ev hl dl):=by
 have ac:x∈o.op.operands.toList:=by grind [Op.operands]
 have ak:i∈o.op.operands.toList:=by simp [ho,Op.operands]
 unfold QaW at h;split at h
 case h_2=>cases h
 rename_i s ik n hk ao aq;obtain ⟨ti,an,aj⟩:=XR hk Q2;have hu:=(hT t ti an).kstr aj;obtain ⟨b,h,hp⟩:=X6 h;refine ⟨_,h,fun hg=>QE fun β S st a w hR hO hA=>?_⟩;obtain ⟨bs,hs,hx⟩:=(ao▸hO.at ac).str_inv;have hi:=(aq▸hO.at ak).int_inv;obtain ⟨h0,au,hb⟩:=Q5I (hp hg);have az:s.length=bs.size:=by simp_all
 refine ⟨.int .u8 b,?_,.d _ _ (.int _ _)⟩;unfold execOp;have:=run_index_string (P:=P) w t bs ik n hu;rw [dif_pos ⟨h0,Q0⟩] at this
 simp_all [Qob,Qo7,ByteArray.getElem_eq_getElem_data]
theorem Jg {β:Nat->oP Nat} {S:Nat->Prop} {h:Nat->oP Ob} {w:World} {tm:Nat->Value} {ρ:Operand->Value} {x:oP Operand} {n:oP Int} (hb:Mf ev x=some n) (hx:∀ y,x=some y->RdA β S h w tm (ρ y) (ev y)) :
  (x=none/\n=none)\/∃ y k m,x=some y/\n=some m/\ρ y = .int k m:=by
 cases x with
 |none=>grind [Mf]
 |some y=>
  simp only [Mf] at hb;split at hb
  ·rename_i k m ac;simp at hb;exact .inr ⟨y,k,m,rfl,hb.symm,(ac▸hx y rfl).int_inv⟩
  ·cases hb
theorem MF {len:Nat} {lo hi:oP Int} {q:Nat×Nat} (h:slB len lo hi=some q) :
  0<=lo.getD 0/\lo.getD 0<=hi.getD len/\hi.getD len<=len/\q=((lo.getD 0).toNat,(hi.getD len).toNat):=by
 grind [slB]
theorem MM (ac:Bool) {len cap:Nat} (aq:len<=cap) {lo hi:oP Operand} {l h:oP Int} {ρ:Operand->Value} {w:World} {q:Nat×Nat} (hs:slB len l h=some q)
  (an:(lo=none/\l=none)\/∃ y k m,lo=some y/\l=some m/\ρ y = .int k m) (ak:(hi=none/\h=none)\/∃ y k m,hi=some y/\h=some m/\ρ y = .int k m) :
  (Instr.sliceBounds ac len cap (lo.map ρ) (hi.map ρ) none).run P w = .ok (q.1,q.2,cap) w:=by
 obtain ⟨h1,h2,h3,rfl⟩:=MF hs;rcases an with ⟨rfl,rfl⟩ | ⟨y,k,m,rfl,rfl,hy⟩ <;> rcases ak with ⟨rfl,rfl⟩ | ⟨y',k',m',rfl,rfl,ao⟩ <;> simp only [Option.getD_none,Option.getD_some] at h1 h2 h3
 ·rfl
 ·have e1:0<=m'/\m'<=(cap:Int):=Q0
  simp_all [Instr.sliceBounds,run_sliceBound_if]
 ·simp_all [Instr.sliceBounds,run_sliceBound_if]
 ·have e1:0<=m'/\m'<=(cap:Int):=Q0
  have e2:0<=m/\m<=(m'.toNat:Int):=Q0
  simp_all [Instr.sliceBounds,run_sliceBound_if]
theorem Da {α:Type} {l:List α} {q:Nat×Nat} {i:Nat} {a:α} (h:(cut l q)[i]? = some a):i<q.2-q.1/\l[q.1+i]? = some a:=by
 simp_all [cut,List.getElem?_take,List.getElem?_drop]
theorem Q3G {x:Operand} {lo hi:oP Operand} (ho:o.op = .slice t x lo hi none):x∈o.op.operands.toList/\(∀ y,lo=some y->y∈o.op.operands.toList)/\∀ y,hi=some y->y∈o.op.operands.toList:=by
 grind [Op.operands]
theorem Q8y {tt:TT} (hT:TOk P tt) {x:Operand} {lo hi:oP Operand} (ho:o.op = .slice t x lo hi none) {g:Bool} {k:Dl->oP R} {r:R}
  (h:Q95 tt g t (ev x) (Mf ev lo) (Mf ev hi) k=some r):∃ dl,k dl=some r/\(g=true->KE P E o ev hl dl):=by
 obtain ⟨a3,aw,aj⟩:=Q3G ho;unfold Q95 at h;split at h
 case h_2=>cases h
 rename_i l' h' a5 a4;split at h
 ·rename_i s hk ay;obtain ⟨ti,ax,ao⟩:=XR hk Q2;have hu:=(hT t ti ax).kstr ao;obtain ⟨q,h,hp⟩:=X6 h;refine ⟨_,h,fun hg=>QE fun β S st a w hR hO hA=>?_⟩;obtain ⟨bs,hs,hx⟩:=(ay▸hO.at a3).str_inv;have ar:s.length=bs.size:=by simp_all
  have hb:=MM (P:=P) false (len:=s.length) (cap:=s.length) (Qov _) (ρ:=a.eval) (w:=w) (hp hg) (Jg a5 fun y hy=>hO.at (aw y hy)) (Jg a4 fun y hy=>hO.at (aj y hy));rw [ar] at hb;refine ⟨.string (bs.extract q.1 q.2),?_,.d _ _ ?_⟩
  ·simp_all [execOp,Qob,run_sliceAt_string,Option.map_none,Instr.slice,X5,Qo7,Option.isSome_none,Bool.false_eq_true,if_false]
  ·have:cut s q=(bs.extract q.1 q.2).data.toList:=by
    rw [hs];simp [cut,ByteArray.data_extract]
   rw [this];exact .str _
 ·rename_i e ba s rows hk ay;cases hb:Nat.beq s ba with
  |false=>simp [hb] at h
  |true=>
   simp only [hb,Qoc] at h;obtain rfl:=Qoa hb;obtain ⟨ti,ax,ao⟩:=XR hk Q2;obtain ⟨hu,a7,inf,an,ar⟩:=(hT t ti ax).ksl _ _ ao;obtain ⟨q,h,hp⟩:=X6 h;refine ⟨_,h,fun hg=>QE fun β S st a w hR hO hA=>?_⟩;have bb:=(ay▸hO.at a3).d_inv;have hq:=MF (hp hg);have au:∀ (ad:oP Addr) (cap:Nat),rows.length<=cap->a.eval x = .slice ad rows.length cap->(execOp a.eval o).run P w = .ok (.value (.slice (if cap=q.1 then ad else ad.map (·.add (q.1*s))) (q.2-q.1) (cap-q.1))) w:=by
    intro ad cap hc hx;have hb:=MM (P:=P) true hc (ρ:=a.eval) (w:=w) (hp hg) (Jg a5 fun y hy=>hO.at (aw y hy)) (Jg a4 fun y hy=>hO.at (aj y hy));unfold execOp;rw [ho];simp only [hx,Qob,Instr.sliceAt,X5 hu,Qo7,Option.map_none];simp only [Instr.slice,Qob,X5 hu,Qo7,hb,sizeOf,YI an,ar];rfl
   have az:(cut rows q).length=q.2-q.1:=by
    unfold cut;rw [hq.2.2.2];simp;omega
   generalize hv:a.eval x=v at bb au;cases bb with
   |sl0 ad cap _=>
    refine ⟨_,au ad cap (Nat.zero_le _) rfl,.d _ _ ?_⟩;have:cut ([]:List (List D)) q=[]:=by simp [cut]
    rw [this];have h0:q.2-q.1=0:=by rw [this] at az;simpa using az.symm
    rw [h0];exact .sl0 _ _ _
   |sl ad cap _ _ c hS a8 a6 hc hr=>
    refine ⟨_,au (some ad) cap a8 rfl,.d _ _ ?_⟩;by_cases h0:q.2-q.1=0
    ·have:cut rows q=[]:=Qoh (by rw [az,h0]);rw [this,h0];exact .sl0 _ _ _
    ·have bc:cap≠q.1:=by
      have:=hq.2.2.1;have:=hq.2.2.2;have h1:q.2<=rows.length:=by rw [this];simp;omega
      omega
     rw [Qok bc,<- az];refine Rd.sl (ad.add (q.1*s)) (cap-q.1) s (cut rows q) (fun i j=>c (q.1+i) j) (by rw [JY];exact hS) ?_ ?_ ?_ ?_
     ·rw [az];have:=hq.2.2.2;have h1:q.2<=rows.length:=by rw [this];simp;omega
      omega
     ·intro i r ak;exact a6 _ _ (Da ak).2
     ·intro i j r y ak hy;have:=hc (q.1+i) j r y (Da ak).2 hy;rw [BN,<- QoC,<- Nat.add_mul];exact this
     ·intro i j r y ak hy;exact hr (q.1+i) j r y (Da ak).2 hy
 ·rename_i e ba hk ay;obtain ⟨ti,ax,ao⟩:=XR hk Q2;obtain ⟨hu,a7,inf,an,ar⟩:=(hT t ti ax).ksl _ _ ao;obtain ⟨q,h,hp⟩:=X6 h;refine ⟨_,h,fun hg=>QE fun β S st a w hR hO hA=>?_⟩;have hx:=(ay▸hO.at a3).nil_inv;have hq:=MF (hp hg);have hb:=MM (P:=P) true (Qov 0) (ρ:=a.eval) (w:=w) (hp hg) (Jg a5 fun y hy=>hO.at (aw y hy)) (Jg a4 fun y hy=>hO.at (aj y hy));have h0:q.2-q.1=0:=by
   obtain ⟨q1,q2,q3,q4⟩:=hq;rw [q4];show (h'.getD ((0:Nat):Int)).toNat-(l'.getD 0).toNat=0;omega
  have h1:0-q.1=0:=Nat.zero_sub _;refine ⟨.slice none 0 0,?_,.nil⟩;unfold execOp;rw [ho];simp only [hx,Qob,Instr.sliceAt,X5 hu,Qo7,Option.map_none];simp only [Instr.slice,Qob,X5 hu,Qo7,hb,sizeOf,YI an,ar,h0,h1,Option.map_none,ite_self];rfl
 ·cases h
theorem Q4g {len:Nat} {lo hi mx:oP Int} {q:Nat×Nat} (h:Qh9 len lo hi mx=some q):∃ m,hi=some m/\mx=some m/\slB len lo (some m)=some q:=by
 unfold Qh9 at h
 grind
theorem BG {len cap:Nat} (ao:len<=cap) {lo:oP Operand} {yh ym:Operand} {l:oP Int} {m:Int} {kh km:IntKind} {ρ:Operand->Value} {w:World} {q:Nat×Nat} (hs:slB len l (some m)=some q)
  (ac:(lo=none/\l=none)\/∃ y k m,lo=some y/\l=some m/\ρ y = .int k m) (hh:ρ yh = .int kh m) (hm:ρ ym = .int km m) :
  (Instr.sliceBounds true len cap (lo.map ρ) (some (ρ yh)) (some (ρ ym))).run P w = .ok (q.1,q.2,q.2) w:=by
 obtain ⟨h1,h2,h3,rfl⟩:=MF hs;simp only [Option.getD_some] at h2 h3;have e1:0<=m/\m<=(cap:Int):=by
  omega
 have e2:0<=m/\m<=(m.toNat:Int):=Q0
 rcases ac with ⟨rfl,rfl⟩ | ⟨y,k,a,rfl,rfl,hy⟩
 ·simp_all [Instr.sliceBounds,run_sliceBound_if]
 ·simp only [Option.getD_some] at h1 h2;have e3:0<=a/\a<=(m.toNat:Int):=Q0
  simp_all [Instr.sliceBounds,run_sliceBound_if,Qoo]
theorem Q81 {x mx:Operand} {lo hi:oP Operand} (ho:o.op = .slice t x lo hi (some mx)):x∈o.op.operands.toList/\(∀ y,lo=some y->y∈o.op.operands.toList)/\(∀ y,hi=some y->y∈o.op.operands.toList)/\mx∈o.op.operands.toList:=by
 grind [Op.operands]
theorem Q66 {tt:TT} (hT:TOk P tt) {x mx:Operand} {lo hi:oP Operand} (ho:o.op = .slice t x lo hi (some mx)) {g:Bool} {k:Dl->oP R} {r:R}
  (h:Q59 tt g t (ev x) (Mf ev lo) (Mf ev hi) (Mf ev (some mx)) k=some r):∃ dl,k dl=some r/\(g=true->KE P E o ev hl dl):=by
 obtain ⟨bh,au,aw,bk⟩:=Q81 ho;unfold Q59 at h;split at h
 case h_2=>cases h
 rename_i l' h' m' a9 bb bc;split at h
 ·rename_i e bi s rows hk a6;cases hb:Nat.beq s bi with
  |false=>simp_all
  |true=>
   simp only [hb,Qoc] at h;obtain rfl:=Qoa hb;obtain ⟨ti,a5,a3⟩:=XR hk Q2;obtain ⟨hu,ba,inf,an,ay⟩:=(hT t ti a5).ksl _ _ a3;obtain ⟨q,h,hp⟩:=X6 h;refine ⟨_,h,fun hg=>QE fun β S st a w hR hO hA=>?_⟩;have bj:=(a6▸hO.at bh).d_inv;obtain ⟨m,rfl,rfl,ao⟩:=Q4g (hp hg);have hq:=MF ao;rcases Jg bb fun y hy=>hO.at (aw y hy) with ⟨_,hn⟩ | ⟨yh,kh,mh,rfl,e1,a2⟩
   ·cases hn
   rcases Jg bc fun y hy=>hO.at (by injection hy with hy;subst hy;exact bk) with ⟨_,hn⟩ | ⟨ym,km,mm,e3,e2,a4⟩
   ·cases hn
   injection e1 with e1
   injection e2 with e2
   injection e3 with e3
   subst e1 e2 e3;have aq:∀ (ad:oP Addr) (cap:Nat),rows.length<=cap->a.eval x = .slice ad rows.length cap->(execOp a.eval o).run P w = .ok (.value (.slice (if q.2=q.1 then ad else ad.map (·.add (q.1*s))) (q.2-q.1) (q.2-q.1))) w:=by
    intro ad cap hc hx;have hb:=BG (P:=P) hc (ρ:=a.eval) (w:=w) ao (Jg a9 fun y hy=>hO.at (au y hy)) a2 a4;unfold execOp;rw [ho];simp only [hx,Qob,Instr.sliceAt,X5 hu,Qo7,Option.map_some];simp only [Instr.slice,Qob,X5 hu,Qo7,hb,sizeOf,YI an,ay];rfl
   have bz:q.2<=rows.length:=by
    have h3:=hq.2.2.1;rw [hq.2.2.2];simp only [Option.getD_some] at h3 ⊢;omega
   have aj:(cut rows q).length=q.2-q.1:=by
    unfold cut;simp;omega
   generalize hv:a.eval x=v at bj aq;have ax:∀ (ad:oP Addr),Rd S w (.slice ad (q.2-q.1) (q.2-q.1)) (.sl s (cut rows q))->RdA β S (look st.h) w (tmv a) (.slice ad (q.2-q.1) (q.2-q.1)) (.fs s (cut rows q)):=by
    intro ad hr;have:=RdA.fs (β:=β) (h:=look st.h) (tm:=tmv a) ad s (cut rows q) (by rw [aj];exact hr);rw [aj] at this;exact this
   cases bj with
   |sl0 ad cap _=>
    refine ⟨_,aq ad cap (Nat.zero_le _) rfl,ax _ ?_⟩;have:cut ([]:List (List D)) q=[]:=by simp [cut]
    rw [this];have h0:q.2-q.1=0:=by rw [this] at aj;simpa using aj.symm
    rw [h0];exact .sl0 _ _ _
   |sl ad cap _ _ c hS a8 bg hc hr=>
    refine ⟨_,aq (some ad) cap a8 rfl,ax _ ?_⟩;by_cases h0:q.2-q.1=0
    ·have:cut rows q=[]:=Qoh (by rw [aj,h0]);rw [this,h0];exact .sl0 _ _ _
    ·have bl:q.2≠q.1:=Q0
     rw [Qok bl];have:=Rd.sl (S:=S) (w:=w) (ad.add (q.1*s)) (q.2-q.1) s (cut rows q) (fun i j=>c (q.1+i) j) (by rw [JY];exact hS) (by rw [aj];exact Qov _) (fun i r ak=>bg _ _ (Da ak).2) (fun i j r y ak hy=>by
      have:=hc (q.1+i) j r y (Da ak).2 hy;rw [BN,<- QoC,<- Nat.add_mul];exact this) (fun i j r y ak hy=>hr (q.1+i) j r y (Da ak).2 hy)
     rw [aj] at this;exact this
 ·rename_i e bi hk a6;obtain ⟨ti,a5,a3⟩:=XR hk Q2;obtain ⟨hu,ba,inf,an,ay⟩:=(hT t ti a5).ksl _ _ a3;obtain ⟨q,h,hp⟩:=X6 h;refine ⟨_,h,fun hg=>QE fun β S st a w hR hO hA=>?_⟩;have hx:=(a6▸hO.at bh).nil_inv;obtain ⟨m,rfl,rfl,ao⟩:=Q4g (hp hg);have hq:=MF ao;rcases Jg bb fun y hy=>hO.at (aw y hy) with ⟨_,hn⟩ | ⟨yh,kh,mh,rfl,e1,a2⟩
  ·cases hn
  rcases Jg bc fun y hy=>hO.at (by injection hy with hy;subst hy;exact bk) with ⟨_,hn⟩ | ⟨ym,km,mm,e3,e2,a4⟩
  ·cases hn
  injection e1 with e1
  injection e2 with e2
  injection e3 with e3
  subst e1 e2 e3;have hb:=BG (P:=P) (Qov 0) (ρ:=a.eval) (w:=w) ao (Jg a9 fun y hy=>hO.at (au y hy)) a2 a4;have h0:q.2-q.1=0:=by
   obtain ⟨q1,q2,q3,q4⟩:=hq;rw [q4];simp only [Option.getD_some] at q2 q3 ⊢;omega
  refine ⟨.slice none 0 0,?_,.fs none _ [] (.sl0 _ _ _)⟩;unfold execOp;rw [ho];simp only [hx,Qob,Instr.sliceAt,X5 hu,Qo7,Option.map_some];simp only [Instr.slice,Qob,X5 hu,Qo7,hb,sizeOf,YI an,ay,h0,Option.map_none,ite_self];rfl
 ·cases h
end
end Go.Vx
