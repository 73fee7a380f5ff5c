/- Part of a proof. No conditions of their own. -/
import Derived.Orders
import Derived.Below
import Derived.Laws.StructEq
import Derived.Laws.Strings3
import Derived.Laws.Concat
import Derived.Laws.BytesString
import Derived.Laws.Shifts
import Derived.Laws.Slices
import Derived.Laws.Cells
import Derived.Laws.Rows
import Derived.Tactics2
import Derived.WideLaws
import Derived.Laws.AppendOwn
import Derived.Maps.AppendAt
import Derived.ArgAppend
import Derived.Lib.ConvBytes
import Derived.Carry
set_option linter.unusedVariables false
set_option linter.unusedSimpArgs false
noncomputable section
abbrev QnR:=@Go.Result.andThen_ok
abbrev QnS:=@List.getElem?_eq_some_iff
abbrev QnT:=@Bool.and_eq_true
abbrev QnU:=@Nat.eq_of_beq_eq_true
abbrev QnV:=@Go.Sem.run_bind
abbrev QnW:=@cond_true
abbrev QnX:=@Option.map_eq_some_iff
abbrev QnY:=@Nat.mul_le_mul_right
abbrev QnZ:=@Go.ByteArray.toList_eq
abbrev Qo0:=@List.mem_of_getElem?
abbrev Qo1:=@List.eq_nil_of_length_eq_zero
abbrev Qo2:=@List.getElem?_map
abbrev Qo3:=@Nat.le_of_ble_eq_true
abbrev Qo4:=@if_neg
abbrev Qo5:=@Array.length_toList
abbrev Qo6:=@Array.getElem?_eq_some_iff
abbrev Qo7:=@List.getElem?_eq_getElem
abbrev Qo8:=@if_pos
abbrev Qo9:=@Go.MapKept.run_getObj_map
abbrev Qoa:=@List.mem_cons
abbrev Qob:=@List.all_eq_true
abbrev Qoc:=@List.getElem?_set_self
abbrev Qod:=@List.getElem?_set_ne
abbrev Qoe:=@Go.Sem.run_pure
abbrev Qof:=@Nat.le_refl
abbrev Qog:=@Nat.mul_le_mul_left
abbrev Qoh:=@List.length_cons
abbrev Qoi:=@Nat.lt_of_lt_of_le
abbrev Qoj:=@List.mem_append
abbrev Qok:=@Nat.succ_mul
abbrev Qol:=@List.map_cons
abbrev Qom:=@Nat.add_assoc
abbrev oP:=Option
theorem QnI {p:Prop} (h:p:=by omega):p:=h
theorem QnJ {p:Prop} (h:p:=by decide):p:=h
theorem QnK {p:Prop} (h:p:=by simp):p:=h
theorem QnL {p:Prop} (h:p:=by simp;omega):p:=h
theorem QnO {p:Prop} (h:p:=by simp_all):p:=h
theorem QnP (p:Prop) [Decidable p] (h:¬p:=by omega):decide p=false:=decide_eq_false h
theorem QnQ (p:Prop) [Decidable p] (h:p:=by omega):decide p=true:=decide_eq_true h
namespace Go.Vx
inductive D where
 |int (k:IntKind) (n:Int)
 |bool (b:Bool)
 |str (s:List UInt8)
 |sl (size:Nat) (rows:List (List D))
inductive AV where
 |top
 |d (x:D)
 |nil
 |ag (l:List AV)
 |tup (l:List AV)
 |ptr (l off:Nat)
 |el (row:List D) (off:Nat)
 |arr (l:Nat)
 |ap (l i off:Nat)
 |gd (t:Nat) (w:Bool) (av:AV)
 |fn (f:Nat) (cap:List AV)
 |fs (s:Nat) (rows:List (List D))
 |sa (l t:Nat)
 |mpd (f:Int->List (List D))
 |ex (v:Value)
inductive Ob where
 |box (cells:List AV)
 |arr (elem size:Nat) (rows:List (List D))
 |mp (t:Nat) (f:Int->Bool)
structure St where
 n:Nat
 tm:List (Nat×AV)
 h:List (Nat×Ob)
def look {α:Type}:List (Nat×α)->Nat->oP α
 |[],_=>none
 |(k,a)::r,t=>bif Nat.beq k t then some a else look r t
def rem {α:Type} (l:Nat):List (Nat×α)->List (Nat×α)
 |[]=>[]
 |(k,a)::r=>bif Nat.beq k l then rem l r else (k,a)::rem l r
def NE (h:List (Nat×Ob)):List (Nat×oP Ob)->List (Nat×Ob)
 |[]=>h
 |(l,some o)::r=>NE ((l,o)::rem l h) r
 |(l,none)::r=>NE (rem l h) r
def TX:Value->AV
 |.int k n=>.d (.int k n)
 |.bool b=>.d (.bool b)
 |.string s=>.d (.str s.data.toList)
 |.slice none 0 0=>.nil
 |_=>.top
inductive Kd where
 |int (k:IntKind)
 |bool
 |str
 |sl (e esz:Nat)
 |struct
 |array (e esz n:Nat)
 |ptr
 |mapI
 |mpb
 |other
structure TyI where
 kd:Kd
 size:Nat
 bytes:Nat
 zero:List Value
 zd:List D
 fields:List (Nat×Nat)
 eqk:oP (List Kd)
abbrev TT:=List (Nat×TyI)
structure Dl where
 v:AV
 wr:List (Nat×oP Ob)
 rd:List Nat
def lkT (tm:List (Nat×AV)) (t:Nat):AV:=(look tm t).getD .top
def evO (tm:List (Nat×AV)):Operand->AV
 |.tmp t=>lkT tm t
 |.const v=>TX v
 |.global _=>.top
 |.func f=>.fn f []
def bw (e w:Bool):Bool:=bif w then e else !e
def ctx (tm:List (Nat×AV)):Nat->Nat->Bool->oP (Bool×List (Nat×Bool))
 |0,_,_=>none
 |f+1,s,w=>
  match lkT tm s with
  |.d (.bool e)=>some (bw e w,[(s,w)])
  |.gd s' w' (.d (.bool e))=>
   match ctx tm f s' w' with
   |some (g,l)=>some (g&&bw e w,(s,w)::l)
   |none=>none
  |_=>none
def QdC:List (Nat×Bool)->Nat->Bool->Bool
 |[],_,_=>false
 |(a,b)::r,s,w=>(Nat.beq a s&&(b == w))||QdC r s w
def unw (l:List (Nat×Bool)):AV->AV
 |.gd s w av=>bif QdC l s w then av else .gd s w av
 |av=>av
section
variable {R:Type}
def orZ {α:Type} (g:Bool) (p:oP α) (z:α):oP α:=
 match p with
 |some a=>some a
 |none=>bif g then none else some z
def gb {α:Type} (g:Bool) (p:oP α) (z:α) (k:α->oP R):oP R:=Option.bind (orZ g p z) k
def Q3 (k:IntKind):D->oP Int
 |.int k' n=>bif k == k' then some n else none
 |_=>none
def KA:D->oP Bool
 |.bool b=>some b
 |_=>none
def Rw:D->oP (List UInt8)
 |.str s=>some s
 |_=>none
def pSl (size:Nat):D->oP (List (List D))
 |.sl s rows=>bif Nat.beq s size then some rows else none
 |_=>none
def J1:List AV->Bool
 |[]=>true
 |.ptr ..::r=>J1 r
 |.d _::r=>J1 r
 |_=>false
def AK:AV->Bool
 |.gd ..=>false
 |.fn _ l=>J1 l
 |.ag _=>false
 |.tup _=>false
 |_=>true
def prj (g:Bool) (kd:Kd) (av:AV) (k:AV->oP R):oP R:=
 match av with
 |.d x=>
  match kd with
  |.int ik=>gb g (Q3 ik x) 0 fun n=>k (.d (.int ik n))
  |.bool=>gb g (KA x) false fun b=>k (.d (.bool b))
  |.str=>gb g (Rw x) [] fun s=>k (.d (.str s))
  |.sl _ ac=>gb g (pSl ac x) [] fun r=>k (.d (.sl ac r))
  |_=>none
 |av=>bif AK av then k av else none
def Q0e (g:Bool) (row:List D):Nat->Nat->(List AV->oP R)->oP R
 |_,0,k=>k []
 |off,n+1,k=>gb g row[off]? (.bool false) fun c=>Q0e g row (off+1) n fun cs=>k (.d c::cs)
def CE (cells:List AV):Nat->Nat->oP (List AV)
 |_,0=>some []
 |off,n+1=>
  match cells[off]? with
  |some c=>match CE cells (off+1) n with
   |some r=>bif AK c then some (c::r) else none
   |none=>none
  |none=>none
def SE:Kd->Bool
 |.struct=>true
 |_=>false
def UQ:Kd->Bool
 |.struct=>true
 |.array ..=>true
 |_=>false
def Rt {α:Type}:Nat->Nat->List α->List (List α)
 |0,_,_=>[]
 |n+1,s,l=>l.take s::Rt n s (l.drop s)
def Hj {α:Type} (l:List α) (n:Nat):oP Unit:=bif Nat.beq l.length n then some () else none
def Q25:AV->Bool
 |.d _ | .nil | .ptr .. | .el .. | .arr _ | .ap ..=>true
 |.fn _ l=>J1 l
 |_=>false
def Nu (cells:List AV):Nat->List AV->oP (List AV)
 |_,[]=>some cells
 |off,v::r=>bif Q25 v&&Nat.ble (off+1) cells.length then Nu (cells.set off v) (off+1) r else none
def Qdt:List AV->oP (List D)
 |[]=>some []
 |.d x::r=>match Qdt r with | some l=>some (x::l) | none=>none
 |_::_=>none
def UZ (tm:Operand->AV):List (Nat×Operand)->List (Nat×AV)
 |[]=>[]
 |(i,x)::r=>(i,tm x)::UZ tm r
def XI:AV->List AV
 |.ag l=>l
 |.fs s rows=>[.d (.sl s rows)]
 |v=>[v]
def AQ (fields:List (Nat×Nat)) (tt:TT):List AV->List (Nat×AV)->oP (List AV)
 |cells,[]=>some cells
 |cells,(i,v)::r=>
  match fields[i]? with
  |some (off,t)=>match look tt t with
   |some ti=>bif Nat.beq (XI v).length ti.size&&Nat.ble (off+ti.size) cells.length then
     match Nu cells off (XI v) with
     |some cs=>AQ fields tt cs r
     |none=>none
    else none
   |none=>none
  |none=>none
def Eg (ti:TyI):List AV:=ti.zero.map TX
def Q57 (ac t:Nat):Value->AV
 |.pointer none=>.sa ac t
 |v=>TX v
def Q0o (ac t:Nat) (ti:TyI):List AV:=ti.zero.map (Q57 ac t)
def Q62 (op:BinOp) (k:IntKind) (a b:Int):oP D:=
 match op with
 |.add=>some (.int k (k.wrap (a+b)))
 |.sub=>some (.int k (k.wrap (a-b)))
 |.mul=>some (.int k (k.wrap (a*b)))
 |.eql=>some (.bool (a == b))
 |.neq=>some (.bool (a != b))
 |.lss=>some (.bool (decide (a<b)))
 |.leq=>some (.bool (decide (a<=b)))
 |.gtr=>some (.bool (decide (a>b)))
 |.geq=>some (.bool (decide (a>=b)))
 |_=>none
def nz (b:Int):oP Unit:=bif b == 0 then none else some ()
def B9 (b:Int):oP Unit:=bif decide (0<=b) then some () else none
def Q8U (n:Nat):oP Unit:=bif Nat.ble n 9223372036854775807 then some () else none
def Q6a (k:IntKind) (a b:Int):Int:=k.wrap ((BitVec.ofInt k.bits a &&& BitVec.ofInt k.bits b).toNat)
def bOr (k:IntKind) (a b:Int):Int:=k.wrap ((BitVec.ofInt k.bits a ||| BitVec.ofInt k.bits b).toNat)
def Qh5 (k:IntKind) (a b:Int):Int:=k.wrap ((BitVec.ofInt k.bits a ^^^ BitVec.ofInt k.bits b).toNat)
def QeP (k:IntKind) (a:Int):Int:=Qh5 k (if k.signed then -1 else k.max) a
def Q7J (k:IntKind) (a b:Int):Int:=k.wrap ((BitVec.ofInt k.bits a &&& ~~~(BitVec.ofInt k.bits b)).toNat)
def shL (k:IntKind) (a b:Int):Int:=k.wrap (a*2 ^ min b.toNat k.bits)
def shR (k:IntKind) (a b:Int):Int:=a.fdiv (2 ^ min b.toNat k.bits)
def QfK (a b:List UInt8):Bool:=Op.bytesLess a b||a == b
def Q3U (g:Bool):List Kd->List AV->List AV->(List Bool->oP R)->oP R
 |[],[],[],k=>k []
 |kd::ks,.d a::xs,.d b::ys,k=>
  match kd with
  |.int ik=>gb g (Q3 ik a) 0 fun m=>gb g (Q3 ik b) 0 fun n=>Q3U g ks xs ys fun r=>k ((m == n)::r)
  |.bool=>gb g (KA a) false fun m=>gb g (KA b) false fun n=>Q3U g ks xs ys fun r=>k ((m == n)::r)
  |.str=>gb g (Rw a) [] fun m=>gb g (Rw b) [] fun n=>Q3U g ks xs ys fun r=>k ((m == n)::r)
  |_=>none
 |_,_,_,_=>none
def Qah:List Bool->Bool
 |[]=>true
 |[b]=>b
 |b::r=>b&&Qah r
def Qhm (g:Bool) (op:BinOp) (a b:List UInt8) (k:AV->oP R):oP R:=
 match op with
 |.add=>gb g (Q8U (a.length+b.length)) () fun _=>k (.d (.str (a++b)))
 |.eql=>k (.d (.bool (a == b)))
 |.neq=>k (.d (.bool (!(a == b))))
 |.lss=>k (.d (.bool (Op.bytesLess a b)))
 |.leq=>k (.d (.bool (QfK a b)))
 |.gtr=>k (.d (.bool (!QfK a b)))
 |.geq=>k (.d (.bool (!Op.bytesLess a b)))
 |_=>none
def QhV (g:Bool) (op:BinOp) (kd:Kd) (eqk:oP (List Kd)) (x y:AV) (k:AV->oP R):oP R:=
 match x,y with
 |.d (.int ka a),.d (.int kb b)=>
  match op with
  |.shl=>gb g (B9 b) () fun _=>k (.d (.int ka (shL ka a b)))
  |.shr=>gb g (B9 b) () fun _=>k (.d (.int ka (shR ka a b)))
  |op=>bif ka == kb then
   match op with
   |.quo=>gb g (nz b) () fun _=>k (.d (.int ka (ka.wrap (a.tdiv b))))
   |.rem=>gb g (nz b) () fun _=>k (.d (.int ka (a.tmod b)))
   |.and=>k (.d (.int ka (Q6a ka a b)))
   |.or=>k (.d (.int ka (bOr ka a b)))
   |.xor=>k (.d (.int ka (Qh5 ka a b)))
   |.andNot=>k (.d (.int ka (Q7J ka a b)))
   |_=>match Q62 op ka a b with
    |some r=>k (.d r)
    |none=>none
  else none
 |.d (.bool a),.d (.bool b)=>
  match kd,op with
  |.bool,.eql=>k (.d (.bool (a == b)))
  |.bool,.neq=>k (.d (.bool (!(a == b))))
  |_,_=>none
 |.d (.str a),.d (.str b)=>Qhm g op a b k
 |.ag xs,.ag ys=>
  match eqk with
  |some ks=>match op with
   |.eql=>Q3U g ks xs ys fun bs=>k (.d (.bool (Qah bs)))
   |.neq=>Q3U g ks xs ys fun bs=>k (.d (.bool (!Qah bs)))
   |_=>none
  |none=>none
 |_,_=>none
def Vw (s:List UInt8) (n:Int):oP Int:=bif decide (0<=n) then (s[n.toNat]?).map fun b=>(b.toNat:Int) else none
def slB (len:Nat) (lo hi:oP Int):oP (Nat×Nat):=
 bif decide (0<=lo.getD 0)&&(decide (lo.getD 0<=hi.getD len)&&decide (hi.getD len<=len)) then some ((lo.getD 0).toNat,(hi.getD len).toNat) else none
def QgJ (len:Nat) (lo hi mx:oP Int):oP (Nat×Nat):=
 match hi,mx with
 |some h,some m=>bif decide (h=m) then slB len lo (some h) else none
 |_,_=>none
def neL {α:Type}:List α->oP Unit
 |[]=>none
 |_=>some ()
def cut {α:Type} (l:List α) (q:Nat×Nat):List α:=(l.drop q.1).take (q.2-q.1)
def Q1 (rows:List (List D)) (n:Int):oP (List D):=bif decide (0<=n) then rows[n.toNat]? else none
def inB (len:Nat) (n:Int):oP Unit:=bif decide (0<=n)&&decide (n<len) then some () else none
def AN (ac:Nat) (hl:Nat->oP Ob):AV->oP (List (List D)×List Nat)
 |.d (.sl s rows)=>bif Nat.beq s ac then some (rows,[]) else none
 |.nil=>some ([],[])
 |.arr l=>match hl l with
  |some (.arr _ s rows)=>bif Nat.beq s ac then some (rows,[l]) else none
  |_=>none
 |_=>none
end
abbrev oF:D:=.bool false
abbrev pIw:=Q3 .i64
abbrev wJ:=IntKind.wrap .i64
abbrev Q4 (x:Int):D:=.int .i64 x
abbrev Q3X:=(R:Type)->Nat->Nat->Bool->List AV->(Nat->oP Ob)->(Dl->oP R)->oP R
section
variable {R:Type}
def Tt (tt:TT) (t:Nat):Kd:=
 match look tt t with
 |some ti=>ti.kd
 |none=>.other
def Qd7 (tt:TT) (t:Nat):oP (List Kd):=
 match look tt t with
 |some ti=>ti.eqk
 |none=>none
def N6 (ev:Operand->AV):oP Operand->oP (oP Int)
 |none=>some none
 |some x=>match ev x with
  |.d (.int _ n)=>some (some n)
  |_=>none
def Qa0 (tt:TT) (g:Bool) (t:Nat) (x i:AV) (k:Dl->oP R):oP R:=
 match Tt tt t,x,i with
 |.str,.d (.str s),.d (.int _ n)=>gb g (Vw s n) 0 fun b=>k ⟨.d (.int .u8 b),[],[]⟩
 |_,_,_=>none
def Q87 (tt:TT) (g:Bool) (t:Nat) (x:AV) (lo hi:oP (oP Int)) (k:Dl->oP R):oP R:=
 match lo,hi with
 |some lo,some hi=>
  match Tt tt t,x with
  |.str,.d (.str s)=>gb g (slB s.length lo hi) (0,0) fun q=>k ⟨.d (.str (cut s q)),[],[]⟩
  |.sl _ ac,.d (.sl s rows)=>bif Nat.beq s ac then gb g (slB rows.length lo hi) (0,0) fun q=>k ⟨.d (.sl ac (cut rows q)),[],[]⟩ else none
  |.sl _ _,.nil=>gb g (slB 0 lo hi) (0,0) fun _=>k ⟨.nil,[],[]⟩
  |_,_=>none
 |_,_=>none
def Q40 (tt:TT) (g:Bool) (t:Nat) (x:AV) (lo hi mx:oP (oP Int)) (k:Dl->oP R):oP R:=
 match lo,hi,mx with
 |some lo,some hi,some mx=>
  match Tt tt t,x with
  |.sl _ ac,.d (.sl s rows)=>bif Nat.beq s ac then gb g (QgJ rows.length lo hi mx) (0,0) fun q=>k ⟨.fs ac (cut rows q),[],[]⟩ else none
  |.sl _ ac,.nil=>gb g (QgJ 0 lo hi mx) (0,0) fun _=>k ⟨.fs ac [],[],[]⟩
  |_,_=>none
 |_,_,_=>none
def E8:List (List D)->oP (List UInt8)
 |[]=>some []
 |[.int .u8 n]::r=>match E8 r with
  |some l=>some (UInt8.ofNat n.toNat::l)
  |none=>none
 |_=>none
mutual
def Sx:AV->Bool
 |.d (.int ..)=>true
 |.d (.bool _)=>true
 |.d (.str _)=>true
 |.d (.sl ..)=>false
 |.ag l=>RE l
 |.tup l=>RE l
 |.fn ..=>false
 |.fs ..=>false
 |.mpd _=>false
 |.el ..=>false
 |.gd ..=>false
 |_=>true
def RE:List AV->Bool
 |[]=>true
 |a::r=>Sx a&&RE r
end
def Q8g:oP Ob->Bool
 |some (.box cells)=>RE cells
 |some (.arr ..)=>false
 |some (.mp ..)=>false
 |none=>true
def Ct:List (Nat×oP Ob)->Bool
 |[]=>true
 |(_,o)::r=>Q8g o&&Ct r
def Q74 (hl:Nat->oP Ob):AV->oP (AV×List Nat)
 |.arr l=>match hl l with
  |some (.arr _ size rows)=>some (.d (.sl size rows),[l])
  |_=>none
 |av=>bif AK av then some (av,[]) else none
def ES (hl:Nat->oP Ob):List AV->oP (List AV×List Nat)
 |[]=>some ([],[])
 |a::r=>match Q74 hl a with
  |some (a',l)=>match ES hl r with
   |some (r',l')=>some (a'::r',l++l')
   |none=>none
  |none=>none
def R5 (hl:Nat->oP Ob):AV->oP (AV×List Nat)
 |.ag cs=>match ES hl cs with
  |some (ac,l)=>some (.ag ac,l)
  |none=>none
 |av=>Q74 hl av
def R2 (hl:Nat->oP Ob):List AV->oP (List AV×List Nat)
 |[]=>some ([],[])
 |a::r=>match R5 hl a with
  |some (a',l)=>match R2 hl r with
   |some (r',l')=>some (a'::r',l++l')
   |none=>none
  |none=>none
def Q9H:List D->List AV->oP (List D)
 |[],[]=>some []
 |z::zs,a::r=>
  match Q9H zs r with
  |some l=>match a with
   |.d x=>some (x::l)
   |.nil=>match z with
    |.sl e []=>some (.sl e []::l)
    |_=>none
   |_=>none
  |none=>none
 |_,_=>none
def N3 (tt:TT) (t:Nat):List D:=
 match look tt t with
 |some ti=>ti.zd
 |none=>[]
def Ml (z:List D):List (List D)->List (Nat×AV)->oP (List (List D))
 |rows,[]=>some rows
 |rows,(i,v)::r=>
  match Q9H z (XI v) with
  |some row=>bif Nat.ble (i+1) rows.length then Ml z (rows.set i row) r else none
  |none=>none
def Qcd (row:List D):Nat->List D->List D
 |_,[]=>row
 |off,x::r=>Qcd (row.set off x) (off+1) r
def Y9 (n:Nat):oP Unit:=bif Nat.ble n 140737488355328 then some () else none
def QdT (tt:TT) (g:Bool) (hl:Nat->oP Ob) (t:Nat) (a:AV) (k:Dl->oP R):oP R:=
 match look tt t with
 |some ti=>
  match a with
  |.ptr l off=>match hl l with
   |some (.box cells)=>
    bif UQ ti.kd then
     match CE cells off ti.size with
     |some cs=>k ⟨.ag cs,[],[l]⟩
     |none=>none
    else match cells[off]? with
     |some c=>prj g ti.kd c fun v=>k ⟨v,[],[l]⟩
     |none=>none
   |_=>none
  |.el row off=>
   bif UQ ti.kd then Q0e g row off ti.size fun cs=>k ⟨.ag cs,[],[]⟩
   else gb g row[off]? (.bool false) fun c=>prj g ti.kd (.d c) fun v=>k ⟨v,[],[]⟩
  |.ap l i off=>match hl l with
   |some (.arr _ _ rows)=>
    gb g rows[i]? [] fun row=>
     bif UQ ti.kd then Q0e g row off ti.size fun cs=>k ⟨.ag cs,[],[l]⟩
     else gb g row[off]? (.bool false) fun c=>prj g ti.kd (.d c) fun v=>k ⟨v,[],[l]⟩
   |_=>none
  |_=>none
 |none=>none
def Q9F (tt:TT) (hl:Nat->oP Ob) (t:Nat) (a v:AV) (k:Dl->oP R):oP R:=
 match look tt t with
 |some ti=>
  bif Nat.beq (XI v).length ti.size then
   match a with
   |.ptr l off=>match hl l with
    |some (.box cells)=>match Nu cells off (XI v) with
     |some cs=>k ⟨.top,[(l,some (.box cs))],[l]⟩
     |none=>none
    |_=>none
   |.ap l i off=>match hl l with
    |some (.arr e size rows)=>match Qdt (XI v) with
     |some ds=>gb true rows[i]? [] fun row=>bif Nat.ble (off+ds.length) size then k ⟨.top,[(l,some (.arr e size (rows.set i (Qcd row off ds))))],[l]⟩ else none
     |none=>none
    |_=>none
   |_=>none
  else none
 |none=>none
def Q5i (hl:Nat->oP Ob) (ac n l:Nat) (v:AV) (k:Dl->oP R):oP R:=
 match hl l with
 |some (.arr e s rows)=>
  bif Nat.beq s ac then
   match Qdt (XI v) with
   |some ds=>bif Nat.beq ds.length (n*ac) then gb true (Hj rows n) () fun _=>k ⟨.top,[(l,some (.arr e s (Rt n ac ds)))],[l]⟩ else none
   |none=>none
  else none
 |_=>none
def MI (g:Bool) (hl:Nat->oP Ob) (ac n l:Nat) (i:AV) (k:Dl->oP R):oP R:=
 match i,hl l with
 |.d (.int _ x),some (.arr _ s _)=>bif Nat.beq s ac then gb g (inB n x) () fun _=>k ⟨.ap l x.toNat 0,[],[l]⟩ else none
 |_,_=>none
def Q7u (s:List UInt8):List (List D):=s.map fun b=>[D.int .u8 (b.toNat:Int)]
def Q9E (tt:TT) (g:Bool) (t f:Nat) (x:AV) (k:Dl->oP R):oP R:=
 match look tt t with
 |some ti=>bif SE ti.kd then match ti.fields[f]? with
   |some (off,ft)=>match look tt ft with
    |some fi=>match x with
     |.ag cells=>
      bif UQ fi.kd then
       match CE cells off fi.size with
       |some cs=>k ⟨.ag cs,[],[]⟩
       |none=>none
      else match cells[off]? with
       |some c=>prj g fi.kd c fun v=>k ⟨v,[],[]⟩
       |none=>none
     |_=>none
    |none=>none
   |none=>none
  else none
 |none=>none
def Et (tt:TT) (hl:Nat->oP Ob) (t f:Nat) (x:AV) (k:Dl->oP R):oP R:=
 match look tt t with
 |some ti=>bif SE ti.kd then match ti.fields[f]? with
   |some (off,_)=>match x with
    |.ptr l o=>k ⟨.ptr l (o+off),[],[]⟩
    |.el row o=>k ⟨.el row (o+off),[],[]⟩
    |.ap l i o=>match hl l with
     |some (.arr ..)=>k ⟨.ap l i (o+off),[],[l]⟩
     |_=>none
    |_=>none
   |none=>none
  else none
 |none=>none
def Ed (tt:TT) (g:Bool) (hl:Nat->oP Ob) (t:Nat) (x i:AV) (k:Dl->oP R):oP R:=
 match Tt tt t,i with
 |.sl _ ac,.d (.int _ n)=>
  match x with
  |.d (.sl s rows)=>bif Nat.beq s ac then gb g (Q1 rows n) [] fun row=>k ⟨.el row 0,[],[]⟩ else none
  |.arr l=>match hl l with
   |some (.arr _ s rows)=>bif Nat.beq s ac then gb g (inB rows.length n) () fun _=>k ⟨.ap l n.toNat 0,[],[l]⟩ else none
   |_=>none
  |.nil=>gb g (Q1 [] n) [] fun row=>k ⟨.el row 0,[],[]⟩
  |_=>none
 |_,_=>none
def QhE (tt:TT) (hl:Nat->oP Ob) (t:Nat) (x:AV):oP (Int×List Nat):=
 match Tt tt t with
 |.sl _ _=>match x with
  |.d (.sl _ rows)=>some (rows.length,[])
  |.nil=>some (0,[])
  |.arr l=>match hl l with
   |some (.arr _ _ rows)=>some (rows.length,[l])
   |_=>none
  |_=>none
 |.str=>match x with
  |.d (.str s)=>some (s.length,[])
  |_=>none
 |_=>none
def Cl (isMin:Bool):AV->List AV->oP AV
 |a,[]=>some a
 |.d (.int k a),.d (.int k' b)::r=>bif k == k' then Cl isMin (.d (.int k (bif isMin then (if b<a then b else a) else (if a<b then b else a)))) r else none
 |_,_=>none
def FL (hl:Nat->oP Ob) (ac:Nat) (o:Ob) (v:AV) (wr:List (Nat×oP Ob)) (rd:List Nat) (k:Dl->oP R):oP R:=
 match hl ac with
 |none=>k ⟨v,wr++[(ac,some o)],rd⟩
 |some _=>none
def Q15 (tt:TT) (hl:Nat->oP Ob) (ac:Nat) (g:Bool) (t tn:Nat) (s x:AV) (k:Dl->oP R):oP R:=
 match Tt tt t,Tt tt tn,s,x with
 |.sl e aj,.int _,.nil,.d (.int _ n)=>match look tt e with
  |some ei=>
   bif Nat.ble 1 ei.bytes&&Nat.beq (N3 tt e).length aj then
   gb g (bif decide (0<n) then some () else none) () fun _=>
   gb g (Y9 (n.toNat*ei.bytes)) () fun _=>FL hl ac (.arr e aj (List.replicate n.toNat (N3 tt e))) (.arr ac) [] [] k
   else none
  |none=>none
 |_,_,_,_=>none
def Q6I (f:Int->Bool) (n:Int) (b:Bool):Int->Bool:=fun m=>bif decide (m=n) then b else f m
def QhX (tt:TT) (hl:Nat->oP Ob) (ac:Nat) (u:Bool) (t l:Nat) (lo hi:oP (oP Int)) (k:Dl->oP R):oP R:=
 match Tt tt t,lo,hi with
 |.sl e aj,some none,some (some h0)=>bif u&&decide (h0=0) then match hl l with
   |some (.arr e' s' _)=>bif Nat.beq e e'&&Nat.beq aj s' then FL hl ac (.arr e aj []) (.arr ac) [(l,none)] [l] k else none
   |_=>none
  else none
 |_,_,_=>none
def Q4Y (tt:TT) (ac:Nat) (g:Bool) (hl:Nat->oP Ob) (t:Nat) (s x:AV) (k:Dl->oP R):oP R:=
 match Tt tt t with
 |.sl e aj=>match look tt e with
  |some ei=>
   bif Nat.ble 1 ei.bytes&&Nat.beq ei.zero.length aj then
   match AN aj hl x with
   |some (news,rx)=>
    match s with
    |.nil=>gb g (Y9 (news.length*ei.bytes)) () fun _=>FL hl ac (.arr e aj news) (.arr ac) [] rx k
    |.fs s0 rows=>bif Nat.beq s0 aj then gb g (neL news) () fun _=>gb g (Y9 ((rows.length+news.length)*ei.bytes)) () fun _=>FL hl ac (.arr e aj (rows++news)) (.arr ac) [] rx k else none
    |.arr l=>match hl l with
     |some (.arr e' s' rows)=>bif Nat.beq e e'&&Nat.beq aj s' then
       gb g (Y9 ((rows.length+news.length)*ei.bytes)) () fun _=>FL hl ac (.arr e aj (rows++news)) (.arr ac) [(l,none)] (l::rx) k
      else none
     |_=>none
    |_=>none
   |none=>none
   else none
  |none=>none
 |_=>none
def K4 (tt:TT) (hl:Nat->oP Ob) (aj:Nat) (u:Bool) (t len:Nat) (ak:List (Nat×AV)) (k:Dl->oP R):oP R:=
 match Tt tt t with
 |.sl e ac=>
  bif Nat.ble (len*ac) 16777216&&(look tt e).isSome&&Nat.beq (N3 tt e).length ac then
   match Ml (N3 tt e) (List.replicate len (N3 tt e)) ak with
   |some rows=>bif u then FL hl aj (.arr e ac rows) (.arr aj) [] [] k else k ⟨.d (.sl ac rows),[],[]⟩
   |none=>none
  else none
 |_=>none
def Qcw (tt:TT) (hl:Nat->oP Ob) (ac:Nat) (u:Bool) (t:Nat) (l c:AV) (k:Dl->oP R):oP R:=
 bif u then
  match Tt tt t,l,c with
  |.sl e aj,.d (.int _ n),.d (.int _ m)=>match look tt e with
   |some ei=>
    bif Nat.ble 1 ei.bytes&&Nat.beq (N3 tt e).length aj then
    gb true (bif decide (0<=n)&&decide (n<=m) then some () else none) () fun _=>
    gb true (Y9 (m.toNat*ei.bytes)) () fun _=>FL hl ac (.arr e aj (List.replicate n.toNat (N3 tt e))) (.arr ac) [] [] k
    else none
   |none=>none
  |_,_,_=>none
 else none
def Pd (x:Nat):List Nat->Bool
 |[]=>false
 |a::r=>Nat.beq a x||Pd x r
def Hp (a b:List Nat):Bool:=a.any fun x=>Pd x b
def wrL (dl:Dl):List Nat:=dl.wr.map (·.1)
mutual
def Z3 (l:Nat):AV->Bool
 |.ptr a _=>Nat.beq a l
 |.arr a=>Nat.beq a l
 |.ap a _ _=>Nat.beq a l
 |.sa a _=>Nat.beq a l
 |.ag r=>Je l r
 |.tup r=>Je l r
 |.fn _ r=>Je l r
 |.gd _ _ v=>Z3 l v
 |_=>false
def Je (l:Nat):List AV->Bool
 |[]=>false
 |a::r=>Z3 l a||Je l r
end
def Ty (l:Nat):List (Nat×oP Ob)->Bool
 |[]=>false
 |(_,some (.box cells))::r=>Je l cells||Ty l r
 |_::r=>Ty l r
def CI (bs:List Nat) (dl:Dl):Bool:=bs.all fun l=>!Z3 l dl.v&&!Ty l dl.wr
def Q4P:D->Bool
 |.sl ..=>false
 |_=>true
def B5 (rows:List (List D)):Bool:=rows.all fun r=>r.all Q4P
def LW (l:List (List (List D))):oP Unit:=bif l.all B5 then some () else none
def Q2o:List (Nat×oP Ob)->List (List (List D))
 |[]=>[]
 |(_,some (.arr _ _ rows))::r=>rows::Q2o r
 |_::r=>Q2o r
def Qi2 (tt:TT) (e:Nat):Bool:=
 match look tt e with
 |some ti=>Nat.beq ti.zd.length ti.size&&ti.zd.all Q4P
 |none=>false
def Fu (tt:TT):List (Nat×oP Ob)->Bool
 |[]=>true
 |(_,some (.arr e _ _))::r=>Qi2 tt e&&Fu tt r
 |(_,some (.box cells))::r=>RE cells&&Fu tt r
 |(_,some (.mp ..))::_=>false
 |(_,none)::r=>Fu tt r
def V5:List (Nat×oP Ob)->Bool
 |[]=>true
 |(_,some (.arr _ _ rows))::r=>B5 rows&&V5 r
 |(_,some (.box cells))::r=>RE cells&&V5 r
 |(_,some (.mp ..))::_=>false
 |(_,none)::r=>V5 r
def Qip (spec:Q3X) (f:Nat):Bool:=(spec Unit f 0 false [.gd 0 true .nil] (fun _=>none) fun _=>some ()).isSome
def Q9p:AV->Bool
 |.ag l=>l.all AK
 |a=>AK a
def Qbh (spec:Q3X) (tt:TT) (ac:Nat) (g u:Bool) (hl:Nat->oP Ob) (f:Nat) (args:List AV) (k:Dl->oP R):oP R:=
 bif Qip spec f then (bif args.all Q9p then spec R f ac g args hl k else none) else
 match R2 hl args with
 |some (aj,bs)=>
  spec R f ac g aj hl fun dl=>
   bif !Hp bs (wrL dl)&&(!Hp bs dl.rd&&CI bs dl) then
    bif bs.isEmpty||(Sx dl.v&&Ct dl.wr) then k ⟨dl.v,dl.wr,bs++dl.rd⟩
    else bif Sx dl.v&&Fu tt dl.wr then gb g (LW (Q2o dl.wr)) () fun _=>k ⟨dl.v,dl.wr,bs++dl.rd⟩
    else bif u then k ⟨dl.v,bs.map (fun l=>(l,none))++dl.wr,bs++dl.rd⟩ else none
   else none
 |none=>none
def vUn (op:UnOp) (x:AV):oP AV:=
 match op,x with
 |.not,.d (.bool b)=>some (.d (.bool !b))
 |.neg,.d (.int k n)=>some (.d (.int k (k.wrap (0-n))))
 |.xor,.d (.int k n)=>some (.d (.int k (QeP k n)))
 |_,_=>none
def cv1 (hl:Nat->oP Ob) (av:AV):AV:=
 match R5 hl av with
 |some (a,_)=>a
 |none=>.top
def cvP (hl:Nat->oP Ob):List (Nat×AV)->List (Nat×AV)
 |[]=>[]
 |(i,a)::r=>(i,cv1 hl a)::cvP hl r
def bsP (hl:Nat->oP Ob):List (Nat×AV)->List Nat
 |[]=>[]
 |(_,a)::r=>match R5 hl a with
  |some (_,b)=>b++bsP hl r
  |none=>bsP hl r
def QhC (hl:Nat->oP Ob) (bs:List Nat):Nat->oP Ob:=fun k=>bif Pd k bs then none else hl k
def Q4h (tt:TT) (hl:Nat->oP Ob) (aj:Nat) (u:Bool) (t len:Nat) (ac:List (Nat×AV)) (k:Dl->oP R):oP R:=
 match bsP hl ac with
 |[]=>K4 tt hl aj u t len ac k
 |b::bs=>bif u then
   K4 tt (QhC hl (b::bs)) aj true t len (cvP hl ac) fun dl=>
    bif !Hp (b::bs) (wrL dl)&&!Hp (b::bs) dl.rd then k ⟨dl.v,(b::bs).map (fun l=>(l,none))++dl.wr,(b::bs)++dl.rd⟩ else none
  else none
def vdl (spec:Q3X) (tt:TT) (ac:Nat) (g u:Bool) (ev:Operand->AV) (hl:Nat->oP Ob) (op:Op) (k:Dl->oP R):oP R:=
 match op with
 |.move x=>k ⟨ev x,[],[]⟩
 |.assign x=>k ⟨ev x,[],[]⟩
 |.pick c x y=>
  match c with
  |.tmp s=>match ev (.tmp s) with
   |.d (.bool e)=>match unw [(s,true)] (ev x),unw [(s,false)] (ev y) with
    |.d (.bool a),.d (.bool b)=>k ⟨.d (.bool (bif e then a else b)),[],[]⟩
    |_,_=>none
   |_=>none
  |_=>none
 |.alloc t=>match look tt t with
  |some ti=>bif u then match ti.kd with
    |.array _ al n=>bif Nat.beq ti.zd.length (n*al) then FL hl ac (.arr t al (Rt n al ti.zd)) (.ap ac 0 0) [] [] k else none
    |_=>FL hl ac (.box (Q0o ac t ti)) (.ptr ac 0) [] [] k
   else none
  |none=>none
 |.box t x=>match look tt t with
  |some ti=>bif u&&(Nat.beq (XI (ev x)).length ti.size&&(XI (ev x)).all Q25) then FL hl ac (.box (XI (ev x))) (.ptr ac 0) [] [] k else none
  |none=>none
 |.build t ak=>match look tt t with
  |some ti=>bif UQ ti.kd then match AQ ti.fields tt (Eg ti) (UZ ev ak.toList) with
    |some cs=>k ⟨.ag cs,[],[]⟩
    |none=>none
   else none
  |none=>none
 |.buildSlice t len ak=>Q4h tt hl ac u t len (UZ ev ak.toList) k
 |.load t a=>QdT tt g hl t (ev a) k
 |.store t a v=>bif u then match Tt tt t,ev a with
   |.array _ al n,.ap l 0 0=>Q5i hl al n l (ev v) k
   |_,_=>Q9F tt hl t (ev a) (ev v) k
  else none
 |.nilCheck x=>match ev x with
  |.ptr l o=>k ⟨.ptr l o,[],[]⟩
  |.el r o=>k ⟨.el r o,[],[]⟩
  |.ap l i o=>match hl l with
   |some _=>k ⟨.ap l i o,[],[l]⟩
   |none=>none
  |_=>none
 |.binOp op t x y _=>QhV g op (Tt tt t) (Qd7 tt t) (ev x) (ev y) fun v=>k ⟨v,[],[]⟩
 |.unOp op _ x=>match vUn op (ev x) with
  |some v=>k ⟨v,[],[]⟩
  |none=>none
 |.convert s t x=>match Tt tt s,Tt tt t with
  |.int _,.int kd=>match ev x with
   |.d (.int _ n)=>k ⟨.d (.int kd (kd.wrap n)),[],[]⟩
   |_=>none
  |.sl e 1,.str=>match Tt tt e with
   |.int .u8=>match AN 1 hl (ev x) with
    |some (rows,rd)=>gb g (E8 rows) [] fun s=>k ⟨.d (.str s),[],rd⟩
    |none=>none
   |_=>none
  |.str,.str=>match ev x with
   |.d (.str s)=>k ⟨.d (.str s),[],[]⟩
   |_=>none
  |.str,.sl e 1=>match Tt tt e with
   |.int .u8=>match ev x with
    |.d (.str s)=>k ⟨.d (.sl 1 (Q7u s)),[],[]⟩
    |_=>none
   |_=>none
  |_,_=>none
 |.makeFunc (.func f) first aj=>match first.toList with
  |[]=>bif J1 (aj.toList.map ev) then k ⟨.fn f (aj.toList.map ev),[],[]⟩ else none
  |_=>none
 |.makeSlice t l c=>Qcw tt hl ac u t (ev l) (ev c) k
 |.fieldAddr t x f=>Et tt hl t f (ev x) k
 |.field t x f=>Q9E tt g t f (ev x) k
 |.indexAddr t x i=>match Tt tt t,ev x with
  |.array _ al n,.ap l 0 0=>MI g hl al n l (ev i) k
  |_,_=>Ed tt g hl t (ev x) (ev i) k
 |.index t x i=>Qa0 tt g t (ev x) (ev i) k
 |.slice t x lo hi none=>match ev x with
  |.arr l=>QhX tt hl ac u t l (N6 ev lo) (N6 ev hi) k
  |_=>Q87 tt g t (ev x) (N6 ev lo) (N6 ev hi) k
 |.makeMap t none=>match Tt tt t with
  |.mpb=>bif u then FL hl ac (.mp t fun _=>false) (.arr ac) [] [] k else none
  |_=>none
 |.mapUpdate t m x v=>match Tt tt t,ev m,ev x,ev v with
  |.mpb,.arr l,.d (.int .i64 n),.d (.bool b)=>match hl l with
   |some (.mp t' f)=>bif u then k ⟨.top,[(l,some (.mp t' (Q6I f n b)))],[l]⟩ else none
   |_=>none
  |_,_,_,_=>none
 |.slice t x lo hi (some mx)=>Q40 tt g t (ev x) (N6 ev lo) (N6 ev hi) (N6 ev (some mx)) k
 |.lookup t m x false=>match Tt tt t,ev m,ev x with
  |.mapI,.mpd f,.d (.int .i64 n)=>k ⟨.d (.sl 1 (f n)),[],[]⟩
  |.mpb,.arr l,.d (.int .i64 n)=>match hl l with
   |some (.mp _ f)=>k ⟨.d (.bool (f n)),[],[l]⟩
   |_=>none
  |_,_,_=>none
 |.extract x i=>match ev x with
  |.tup l=>match l[i]? with
   |some v=>k ⟨v,[],[]⟩
   |none=>none
  |_=>none
 |.call c=>match c.callee with
  |.value (.func f)=>Qbh spec tt ac g u hl f (c.args.toList.map ev) k
  |.value (.tmp t)=>match ev (.tmp t) with
   |.fn f cap=>Qbh spec tt ac g u hl f (c.args.toList.map ev++cap) k
   |_=>none
  |.builtin .len=>match c.args.toList,c.argTypes.toList with
   |[x],[t]=>match QhE tt hl t (ev x) with
    |some (n,rd)=>k ⟨.d (.int .i64 n),[],rd⟩
    |none=>none
   |_,_=>none
  |.builtin .cap=>match c.args.toList,c.argTypes.toList with
   |[x],[t]=>match Tt tt t,ev x with
    |.sl _ _,.nil=>k ⟨.d (.int .i64 0),[],[]⟩
    |_,_=>none
   |_,_=>none
  |.builtin .append=>match c.args.toList,c.argTypes.toList with
   |[s,x],[t,t']=>bif Nat.beq t t' then Q4Y tt ac g hl t (ev s) (ev x) k else Q15 tt hl ac g t t' (ev s) (ev x) k
   |_,_=>none
  |.builtin .min=>match c.args.toList with
   |x::r=>match Cl true (ev x) (r.map ev) with
    |some v=>k ⟨v,[],[]⟩
    |none=>none
   |_=>none
  |.builtin .max=>match c.args.toList with
   |x::r=>match Cl false (ev x) (r.map ev) with
    |some v=>k ⟨v,[],[]⟩
    |none=>none
   |_=>none
  |_=>none
 |_=>none
def By (l:Nat):List (Nat×AV)->Bool
 |[]=>false
 |(_,a)::r=>Z3 l a||By l r
def VW (l:Nat):List (Nat×Ob)->Bool
 |[]=>false
 |(_,.box cells)::r=>Je l cells||VW l r
 |(_,.arr ..)::r=>VW l r
 |(_,.mp ..)::r=>VW l r
def Uc (st:St) (l:Nat):Bool:=Nat.ble l 999999&&(!By l st.tm&&!VW l st.h)
def ZQ (st:St):List (Nat×oP Ob)->Bool
 |[]=>true
 |(l,o)::r=>(match o,look st.h l with
  |some _,none=>Uc st l
  |_,_=>true)&&ZQ st r
mutual
def gds (t:Nat):AV->Bool
 |.gd t' _ av=>Nat.beq t' t||gds t av
 |.ag l=>Cr t l
 |.tup l=>Cr t l
 |.fn _ l=>Cr t l
 |_=>false
def Cr (t:Nat):List AV->Bool
 |[]=>false
 |a::r=>gds t a||Cr t r
end
def Q9z (d:Nat):List (Nat×AV)->Bool
 |[]=>false
 |(_,a)::r=>gds d a||Q9z d r
structure Rec where
 rt:List Nat
 dst:oP Nat
 dl:Dl
def HU:List Operand->List Nat
 |[]=>[]
 |.tmp t::r=>t::HU r
 |_::r=>HU r
def put (st:St) (dst:oP Nat) (dl:Dl):St:=
 { n:=st.n,tm:=match dst with | some d=>(d,dl.v)::st.tm | none=>st.tm,h:=NE st.h dl.wr }
def Q2m (st:St) (v:AV):oP Nat->Bool
 |some d=>Nat.ble (d+1) st.n&&(!gds d v&&!Q9z d st.tm)
 |none=>true
def Qco (st:St) (o:Oper) (ch:List Nat) (dl:Dl) (k:St->Rec->oP R):oP R:=
 bif Q2m st dl.v o.dst&&ZQ st dl.wr then k (put st o.dst dl) ⟨HU o.op.operands.toList++ch,o.dst,dl⟩ else none
def jD (g:Bool):D->D->oP D
 |.int k x,.int k' y=>bif k == k' then some (.int k (bif g then x else y)) else none
 |.bool x,.bool y=>some (.bool (bif g then x else y))
 |.str x,.str y=>some (.str (bif g then x else y))
 |.sl s x,.sl s' y=>bif Nat.beq s s' then some (.sl s (bif g then x else y)) else none
 |_,_=>none
def jA (g:Bool):AV->AV->oP AV
 |.d x,.d y=>match jD g x y with
  |some z=>some (.d z)
  |none=>none
 |.nil,.nil=>some .nil
 |.ptr l o,.ptr l' o'=>bif Nat.beq l l'&&Nat.beq o o' then some (.ptr l o) else none
 |_,_=>none
def jL (g:Bool):List AV->List AV->oP (List AV)
 |[],[]=>some []
 |a::r,b::s=>match jA g a b with
  |some c=>match jL g r s with
   |some t=>some (c::t)
   |none=>none
  |none=>none
 |_,_=>none
def jW (g:Bool) (hl:Nat->oP Ob):List (Nat×oP Ob)->oP (List (Nat×oP Ob))
 |[]=>some []
 |(l,some (.box ac))::r=>match hl l with
  |some (.box old)=>match jL g ac old with
   |some c=>match jW g hl r with
    |some t=>some ((l,some (.box c))::t)
    |none=>none
   |none=>none
  |_=>none
 |(l,some (.arr e s rows))::r=>match hl l with
  |none=>match jW g hl r with
   |some t=>some ((l,some (.arr e s (bif g then rows else [])))::t)
   |none=>none
  |some _=>none
 |(_,some (.mp ..))::_=>none
 |(l,none)::r=>match jW g hl r with
  |some t=>some ((l,none)::t)
  |none=>none
def Qdx (spec:Q3X) (tt:TT) (ac:Array Oper) (o:Oper) (st:St) (k:St->Rec->oP R):oP R:=
 match o.guard with
 |none=>vdl spec tt (o.dst.getD 0) true true (evO st.tm) (look st.h) o.op fun dl=>Qco st o [] dl k
 |some (j,w)=>match (ac[j]?).bind (·.dst) with
  |some s=>match ctx st.tm 40 s w with
   |some (g,ch)=>vdl spec tt (o.dst.getD 0) g false (fun x=>unw ch (evO st.tm x)) (look st.h) o.op fun dl=>
     match jW g (look st.h) dl.wr with
     |some wr=>Qco st o (ch.map (·.1)) ⟨.gd s w dl.v,wr,dl.rd⟩ k
     |none=>none
   |none=>none
  |none=>none
def Qb1 (spec:Q3X) (tt:TT) (ac:Array Oper):List Oper->St->List Rec->(St->List Rec->oP R)->oP R
 |[],st,acc,k=>k st acc
 |o::r,st,acc,k=>Qdx spec tt ac o st fun st' rec=>Qb1 spec tt ac r st' (acc++[rec]) k
def Q2R (s:Nat) (b:Bool):List (Nat×AV)->List (Nat×AV)
 |[]=>[]
 |(t,a)::r=>bif Nat.beq t s then (t,.d (.bool b))::r else (t,a)::Q2R s b r
def Q6z (spec:Q3X) (tt:TT) (o:Oper) (s:Nat) (w b:Bool) (st:St) (k:St->Rec->oP R):oP R:=
 bif (bif b then w else !w) then vdl spec tt (o.dst.getD 0) true true (evO st.tm) (look st.h) o.op fun dl=>Qco st o [s] dl k
 else Qco st o [s] ⟨.gd s w (.d (.bool false)),[],[]⟩ k
def Q0r (spec:Q3X) (tt:TT) (ac:Array Oper):List Oper->St->List Rec->(St->List Rec->oP R)->oP R
 |[],st,acc,k=>k st acc
 |o::r,st,acc,k=>match o.guard with
  |none=>vdl spec tt (o.dst.getD 0) true true (evO st.tm) (look st.h) o.op fun dl=>Qco st o [] dl fun st' rec=>Q0r spec tt ac r st' (acc++[rec]) k
  |some (j,w)=>match (ac[j]?).bind (·.dst) with
   |some s=>match lkT st.tm s with
    |.d (.bool c)=>
     bif c then Q6z spec tt o s w true { n:=st.n,tm:=Q2R s true st.tm,h:=st.h } fun st' rec=>Q0r spec tt ac r st' (acc++[rec]) k
     else Q6z spec tt o s w false { n:=st.n,tm:=Q2R s false st.tm,h:=st.h } fun st' rec=>Q0r spec tt ac r st' (acc++[rec]) k
    |_=>none
   |none=>none
def Q3r (acc:List Nat):List Edge->Nat->Nat
 |[],s=>s
 |e::r,s=>Q3r acc r (bif Region.binds .any e then (s ||| (2 ^ e.on)) ||| acc.getD e.on 0 else s)
def Q1P:List Oper->List Nat->List Nat
 |[],acc=>acc
 |o::r,acc=>Q1P r (acc++[Q3r acc o.after.toList 0])
def Q0V:List Edge->Nat->Bool
 |[],_=>true
 |e::r,i=>(!Region.binds .any e||Nat.ble (e.on+1) i)&&Q0V r i
def GL:List Oper->Nat->Bool
 |[],_=>true
 |o::r,i=>Q0V o.after.toList i&&GL r (i+1)
def inO (d:oP Nat) (l:List Nat):Bool:=
 match d with
 |some x=>Pd x l
 |none=>false
def Wy (a b:Rec):Bool:=
 inO a.dst b.rt||inO b.dst a.rt||(match a.dst,b.dst with | some x,some y=>Nat.beq x y | _,_=>false) ||
 Hp (wrL a.dl) (wrL b.dl)||Hp (wrL a.dl) b.dl.rd||Hp (wrL b.dl) a.dl.rd
def Tb (aj:St) (ac:List Nat):List (Nat×oP Ob)->List Nat
 |[]=>[]
 |(l,o)::r=>match o,look aj.h l with
  |some _,none=>bif Pd l ac then Tb aj ac r else l::Tb aj ac r
  |_,_=>Tb aj ac r
def EZ (l:Nat) (b:Rec):Bool:=Z3 l b.dl.v||Ty l b.dl.wr
def Qf4 (d:oP Nat) (v:AV):Bool:=
 match d with
 |some x=>gds x v
 |none=>false
def Ci (i:Nat) (a:Rec) (news:List Nat):List Rec->List Nat->Bool
 |[],_=>true
 |b::r,m::ms=>(!(Wy a b||(news.any fun l=>EZ l b)||Qf4 a.dst b.dl.v)||m.testBit i)&&Ci i a news r ms
 |_::_,[]=>false
def MW (aj:St):Nat->List Rec->List Nat->List Rec->List Nat->Bool
 |_,_,_,[],_=>true
 |i,ak,ac,a::r,_::ms=>
  Ci i a (Tb aj ac a.dl.wr) r ms&&((Tb aj ac a.dl.wr).all fun l=>Uc aj l&&ak.all fun b=>!EZ l b) &&
   MW aj (i+1) (ak++[a]) (ac++Tb aj ac a.dl.wr) r ms
 |_,_,_,_::_,[]=>false
def Wq (l:Nat):List (Nat×oP Ob)->Bool
 |[]=>false
 |(k,o)::r=>(o.isSome&&Nat.beq k l)||Wq l r
def Qcc (recs:List Rec):List (Nat×oP Ob)->Bool
 |[]=>true
 |(l,none)::r=>(recs.all fun b=>!Wq l b.dl.wr)&&Qcc recs r
 |_::r=>Qcc recs r
def rmL:List Rec->Bool
 |[]=>true
 |a::r=>Qcc (a::r) a.dl.wr&&rmL r
def Q2h (aj:St) (ac:List Oper) (recs:List Rec):Bool:=
 GL ac 0&&MW aj 0 [] [] recs (Q1P ac [])&&rmL recs
structure Cfg where
 keep:List Nat
 locs:List (Nat×Nat)
 mkT:List (Nat×Nat×Nat×Nat)
 mkH:List (Nat×Nat×Nat×Nat×Nat)
 fz:List Nat
mutual
def fzA (l s:Nat) (rows:List (List D)):AV->AV
 |.arr k=>bif Nat.beq k l then .d (.sl s rows) else .arr k
 |.ap k i o=>bif Nat.beq k l then .top else .ap k i o
 |.ag r=>.ag (fzL l s rows r)
 |.tup r=>.tup (fzL l s rows r)
 |.fn f r=>.fn f (fzL l s rows r)
 |.gd ..=>.top
 |av=>av
def fzL (l s:Nat) (rows:List (List D)):List AV->List AV
 |[]=>[]
 |a::r=>fzA l s rows a::fzL l s rows r
end
def fzO (l s:Nat) (rows:List (List D)):Ob->Ob
 |.box cells=>.box (fzL l s rows cells)
 |o=>o
def fzT (l s:Nat) (rows:List (List D)):List (Nat×AV)->List (Nat×AV)
 |[]=>[]
 |(t,a)::r=>(t,fzA l s rows a)::fzT l s rows r
def Qc0 (l s:Nat) (rows:List (List D)):List (Nat×Ob)->List (Nat×Ob)
 |[]=>[]
 |(k,o)::r=>bif Nat.beq k l then Qc0 l s rows r else (k,fzO l s rows o)::Qc0 l s rows r
def fz1 (st:St) (l:Nat):St:=
 match look st.h l with
 |some (.arr _ s rows)=>{ n:=st.n,tm:=fzT l s rows st.tm,h:=Qc0 l s rows st.h }
 |_=>st
def fzs (st:St):List Nat->St
 |[]=>st
 |l::r=>fzs (fz1 st l) r
mutual
def WM (ρ:List (Nat×Nat)):AV->AV
 |.ptr l o=>match look ρ l with | some l'=>.ptr l' o | none=>.top
 |.arr l=>match look ρ l with | some l'=>.arr l' | none=>.top
 |.ap l i o=>match look ρ l with | some l'=>.ap l' i o | none=>.top
 |.sa l t=>match look ρ l with | some l'=>.sa l' t | none=>.top
 |.ag r=>.ag (Q26 ρ r)
 |.tup r=>.tup (Q26 ρ r)
 |.fn f r=>.fn f (Q26 ρ r)
 |.gd ..=>.top
 |av=>av
def Q26 (ρ:List (Nat×Nat)):List AV->List AV
 |[]=>[]
 |a::r=>WM ρ a::Q26 ρ r
end
def Qbt (ρ:List (Nat×Nat)):Ob->Ob
 |.box cells=>.box (Q26 ρ cells)
 |.arr e s rows=>.arr e s rows
 |.mp t f=>.mp t f
def Q9h (ρ:List (Nat×Nat)) (tm:List (Nat×AV)):List Nat->List (Nat×AV)
 |[]=>[]
 |t::r=>(t,WM ρ (lkT tm t))::Q9h ρ tm r
def FY (ρ:List (Nat×Nat)) (h:List (Nat×Ob)):List (Nat×Nat)->List (Nat×Ob)
 |[]=>[]
 |(l,l')::r=>match look h l with
  |some o=>(l',Qbt ρ o)::FY ρ h r
  |none=>FY ρ h r
def QgK (tm:List (Nat×AV)) (t:Nat) (v:AV):List (Nat×AV):=
 match tm with
 |[]=>[]
 |(k,a)::r=>bif Nat.beq k t then (k,v)::r else (k,a)::QgK r t v
def Qe7 (st:St):List (Nat×Nat×Nat×Nat)->St
 |[]=>st
 |(t,l,e,s)::r=>match lkT st.tm t with
  |.nil=>bif Uc st l&&(look st.h l).isNone then Qe7 { st with tm:=QgK st.tm t (.arr l),h:=(l,.arr e s [])::st.h } r else Qe7 st r
  |_=>Qe7 st r
def Qe0 (st:St):List (Nat×Nat×Nat×Nat×Nat)->St
 |[]=>st
 |(b,c,l,e,s)::r=>match look st.h b with
  |some (.box cells)=>match cells[c]? with
   |some .nil=>bif Uc st l&&(look st.h l).isNone then Qe0 { st with h:=(l,.arr e s [])::(b,.box (cells.set c (.arr l)))::rem b st.h } r else Qe0 st r
   |_=>Qe0 st r
  |_=>Qe0 st r
def X5:List Nat->Bool
 |[]=>true
 |a::r=>!Pd a r&&X5 r
def Qdr (c:Cfg) (st:St):St:=
 bif X5 (c.locs.map (·.1))&&(X5 (c.locs.map (·.2))&&c.locs.all fun p=>Nat.beq p.1 p.2||Nat.ble p.2 999999) then Qe0 (Qe7 { n:=st.n,tm:=Q9h c.locs st.tm c.keep,h:=FY c.locs st.h c.locs } c.mkT) c.mkH
 else st
def inH (h:List (Nat×Ob)):List (Nat×Nat)->List (Nat×Nat)
 |[]=>[]
 |p::r=>match look h p.1 with
  |some _=>p::inH h r
  |none=>inH h r
def Qi8 (c:Cfg) (st:St):St:=Qdr ⟨c.keep,inH st.h c.locs,c.mkT,c.mkH,c.fz⟩ st
def QcZ (c:Cfg) (st:St):St:=Qi8 c (fzs st c.fz)
def Qbp (c:Cfg) (st:St):St:=
 match c.keep with
 |[]=>QcZ ⟨st.tm.map (·.1),st.h.map fun p=>(p.1,p.1),c.mkT,c.mkH,c.fz⟩ st
 |_::_=>QcZ c st
structure VC where
 spec:Q3X
 tt:TT
 cfg:List (Nat×Cfg)
def Q0u (C:VC) (id:Nat) (ac:Array Oper) (aj:Bool) (st:St) (k:St->oP R):oP R:=
 (bif (look C.cfg (id+1000000000)).isSome then Q0r C.spec C.tt ac ac.toList st [] else Qb1 C.spec C.tt ac ac.toList st []) fun st' recs=>
  bif !aj||Q2h st ac.toList recs then
   match look C.cfg id with
   |some c=>k (Qbp c st')
   |none=>k st'
  else none
def Cu (ac:St->(Exit->St->oP R)->oP R):Nat->St->(Exit->St->oP R)->oP R
 |0,_,_=>none
 |n+1,st,k=>ac st fun e st'=>match e with
  |.normal=>Cu ac n st' k
  |.exit id=>k (.exit id) st'
  |.ret=>k .ret st'
  |_=>none
def Q7B:Code->Nat
 |.region id _ _=>id
 |.seq a _=>Q7B a
 |.block _ c=>Q7B c
 |.loop c=>Q7B c
 |.cond _ a _=>Q7B a
 |_=>0
def QfT (C:VC) (n:Nat) (c:Code):Nat:=
 match look C.cfg (2000000000+Q7B c) with
 |some ⟨[m],_,_,_,_⟩=>m
 |_=>n
def CJ (C:VC) (ac:Nat) (st:St):St:=
 match look C.cfg ac with
 |some q=>QcZ q st
 |none=>st
def Ho (C:VC) (n:Nat):Code->St->(Exit->St->oP R)->oP R
 |.skip,st,k=>k .normal st
 |.region id aj ac,st,k=>Q0u C id aj ac st (k .normal)
 |.seq a b,st,k=>Ho C n a st fun e st'=>match e with
  |.normal=>Ho C n b st' k
  |.exit id=>k (.exit id) st'
  |.ret=>k .ret st'
  |_=>none
 |.cond c a b,st,k=>match evO st.tm c with
  |.d (.bool e)=>bif e then Ho C n a st k else Ho C n b st k
  |_=>none
 |.block id c,st,k=>Ho C n c st fun e st'=>match e with
  |.normal=>k .normal st'
  |.exit j=>bif Nat.beq j id then k .normal st' else k (.exit j) st'
  |.ret=>k .ret st'
  |_=>none
 |.loop c,st,k=>Cu (fun st k=>Ho C n c (CJ C (3000000000+Q7B c) st) k) (QfT C n c) st k
 |.exit id,st,k=>k (.exit id) st
 |.ret,st,k=>k .ret st
 |_,_,_=>none
def lB (C:VC) (n:Nat) (c:Code) (st:St) (k:Exit->St->oP R):oP R:=Ho C n c (CJ C (3000000000+Q7B c) st) k
mutual
def RV:AV->Bool
 |.gd ..=>false
 |.ag l=>KF l
 |.tup l=>KF l
 |.fn _ l=>KF l
 |_=>true
def KF:List AV->Bool
 |[]=>true
 |a::r=>RV a&&KF r
end
def Q3j (tt:TT) (st:St):ResultVar->oP AV
 |.tmp t=>some (lkT st.tm t)
 |.cell a ty=>match lkT st.tm a with
  |.ptr l off=>match look st.h l,look tt ty with
   |some (.box cells),some ti=>
    bif UQ ti.kd then
     match CE cells off ti.size with
     |some cs=>some (.ag cs)
     |none=>none
    else match cells[off]? with
     |some c=>bif AK c then some c else none
     |none=>none
   |_,_=>none
  |_=>none
def Q0m (tt:TT) (st:St):List ResultVar->oP (List AV)
 |[]=>some []
 |r::rs=>match Q3j tt st r with
  |some a=>match Q0m tt st rs with
   |some l=>bif RV a then some (a::l) else none
   |none=>none
  |none=>none
def Q1l (tt:TT) (st:St) (rs:List ResultVar):oP AV:=
 match Q0m tt st rs with
 |some [a]=>some a
 |some l=>some (.tup l)
 |none=>none
def Q19:Nat->List AV->List (Nat×AV)
 |_,[]=>[]
 |i,a::r=>(i,a)::Q19 (i+1) r
def vfn (C:VC) (n:Nat) (fn:Func) (args:List AV) (h:List (Nat×Ob)) (k:AV->List (Nat×Ob)->oP R):oP R:=
 match fn.body with
 |some c=>bif Nat.ble args.length fn.ntmps&&KF args then
   Ho C n c { n:=fn.ntmps,tm:=Q19 0 args,h:=h } fun e st=>match e with
    |.ret=>match Q1l C.tt st fn.results.toList with
     |some v=>k v st.h
     |none=>none
    |.normal=>match Q1l C.tt st fn.results.toList with
     |some v=>k v st.h
     |none=>none
    |_=>none
  else none
 |none=>none
end
inductive Rd (S:Nat->Prop) (w:World):Value->D->Prop
 |int (k:IntKind) (n:Int):Rd S w (.int k n) (.int k n)
 |bool (b:Bool):Rd S w (.bool b) (.bool b)
 |str (s:ByteArray):Rd S w (.string s) (.str s.data.toList)
 |sl0 (a:oP Addr) (cap size:Nat):Rd S w (.slice a 0 cap) (.sl size [])
 |sl (ad:Addr) (cap size:Nat) (rows:List (List D)) (c:Nat->Nat->Value)
   (hS:S ad.block) (hcap:rows.length<=cap) (hsz:∀ (i:Nat) (r:List D),rows[i]? = some r->r.length=size)
   (hc:∀ (i j:Nat) (r:List D) (x:D),rows[i]? = some r->r[j]? = some x->w.cell? (ad.add (i*size+j))=some (c i j))
   (hr:∀ (i j:Nat) (r:List D) (x:D),rows[i]? = some r->r[j]? = some x->Rd S w (c i j) x) :
   Rd S w (.slice (some ad) rows.length cap) (.sl size rows)
theorem Jc (a:Addr) (n:Nat):(a.add n).block=a.block:=by unfold Addr.add;split <;> rfl
theorem Cz (a:Addr) (i j:Nat):(a.add i).add j=a.add (i+j):=by
 grind [Addr.add,Nat.add_assoc]
theorem JJ (b o n:Nat):(⟨b,o,none⟩:Addr).add n=⟨b,o+n,none⟩:=by
 grind [Addr.add]
theorem RW {w w':World} {a:Addr} (h:w'.heap[a.block]? = w.heap[a.block]?):w'.cell? a=w.cell? a:=by simp [World.cell?,h]
theorem Rd.mono {S S':Nat->Prop} {w w':World} {v:Value} {x:D} (hS:∀ b,S b->S' b) (hw:∀ b,S b->w'.heap[b]? = w.heap[b]?) (h:Rd S w v x):Rd S' w' v x:=by
 induction h with
 |int k n=>exact .int k n
 |bool b=>exact .bool b
 |str s=>exact .str s
 |sl0 a cap size=>exact .sl0 a cap size
 |sl ad cap size rows c hs ac aj hc _ ih=>
  exact .sl ad cap size rows c (hS _ hs) ac aj (fun i j r x h1 h2=>by
   grind [RW,Jc]) ih
def J3:List MapEntry->Int->oP Value
 |[],_=>none
 |e::r,n=>match e.key with
  |.int .i64 m=>if m=n then some e.val else J3 r n
  |_=>J3 r n
def Q7t (S:Nat->Prop) (w:World) (v:Value) (f:Int->List (List D)):Prop:=
 ∃ b es ac,v = .map (some b)/\S b/\w.heap[b]? = some (.map es ac)/\(∀ e∈es.toList,∃ n,e.key = .int .i64 n)/\(∀ n,J3 es.toList n=none->f n=[])/\∀ n v',J3 es.toList n=some v'->Rd S w v' (.sl 1 (f n))
theorem Q7t.mono {S S':Nat->Prop} {w w':World} {v:Value} {f:Int->List (List D)} (hS:∀ b,S b->S' b) (hw:∀ b,S b->w'.heap[b]? = w.heap[b]?) (h:Q7t S w v f):Q7t S' w' v f:=by
 obtain ⟨b,es,ac,h1,h2,h3,h4,h5,h6⟩:=h;exact ⟨b,es,ac,h1,hS b h2,(hw b h2).trans h3,h4,h5,fun n v' hl=>(h6 n v' hl).mono hS hw⟩
def MpR (w:World) (b:Nat) (f:Int->Bool):Prop:=
 ∃ es ac,w.heap[b]? = some (.map es ac)/\(∀ e∈es.toList,∃ n,e.key = .int .i64 n)/\(∀ n,J3 es.toList n=none->f n=false)/\∀ n v,J3 es.toList n=some v->v = .bool (f n)
theorem MpR.same {w w':World} {b:Nat} {f:Int->Bool} (h:MpR w b f) (hb:w'.heap[b]? = w.heap[b]?):MpR w' b f:=by
 obtain ⟨es,ac,h1,h2⟩:=h;exact ⟨es,ac,hb.trans h1,h2⟩
def PP:AV->oP Nat
 |.arr l=>some l
 |.ap l _ _=>some l
 |_=>none
inductive RdA (β:Nat->oP Nat) (S:Nat->Prop) (h:Nat->oP Ob) (w:World) (tm:Nat->Value):Value->AV->Prop
 |top (v:Value):RdA β S h w tm v .top
 |d (v:Value) (x:D) (hx:Rd S w v x):RdA β S h w tm v (.d x)
 |nil:RdA β S h w tm (.slice none 0 0) .nil
 |ag (cs:Array Value) (l:List AV) (hl:cs.size=l.length) (hr:∀ (i:Nat) (x:AV),l[i]? = some x->RdA β S h w tm (cs.getD i undef) x):RdA β S h w tm (.agg cs) (.ag l)
 |tup (cs:Array Value) (l:List AV) (hl:cs.size=l.length) (hr:∀ (i:Nat) (x:AV),l[i]? = some x->RdA β S h w tm (cs.getD i undef) x):RdA β S h w tm (.tuple cs) (.tup l)
 |fn (f:Nat) (cs:Array Value) (l:List AV) (hl:cs.size=l.length) (hr:∀ (i:Nat) (x:AV),l[i]? = some x->RdA β S h w tm (cs.getD i undef) x):RdA β S h w tm (.func (.func f) #[] cs) (.fn f l)
 |fs (ad:oP Addr) (s:Nat) (rows:List (List D)) (hx:Rd S w (.slice ad rows.length rows.length) (.sl s rows)):RdA β S h w tm (.slice ad rows.length rows.length) (.fs s rows)
 |mpd (v:Value) (f:Int->List (List D)) (hm:Q7t S w v f):RdA β S h w tm v (.mpd f)
 |ex (v:Value):RdA β S h w tm v (.ex v)
 |ptr (l off b:Nat) (hb:β l=some b):RdA β S h w tm (.pointer (some ⟨b,off,none⟩)) (.ptr l off)
 |sa (v:Value) (l t b:Nat) (hb:β l=some b) (hv:v = .pointer none\/v = .pointer (some ⟨b,0,none⟩)):RdA β S h w tm v (.sa l t)
 |el (ad:Addr) (row:List D) (off:Nat) (c:Nat->Value) (hs:S ad.block)
   (hc:∀ (j:Nat) (x:D),row[off+j]? = some x->w.cell? (ad.add j)=some (c j)) (hr:∀ (j:Nat) (x:D),row[off+j]? = some x->Rd S w (c j) x) :
   RdA β S h w tm (.pointer (some ad)) (.el row off)
 |arr0 (l e s:Nat) (hb:β l=none) (hh:h l=some (.arr e s [])):RdA β S h w tm (.slice none 0 0) (.arr l)
 |arr (l b cap e s:Nat) (rows:List (List D)) (cs:Array Value) (ty:TypeId) (fz:Nat×Nat) (hb:β l=some b) (hh:h l=some (.arr e s rows))
   (hw:w.heap[b]? = some (.cells cs ty fz)) (hcs:cs.size=cap*s) (hcap:rows.length<=cap) (hmax:cap<=maxLen) :
   RdA β S h w tm (.slice (some ⟨b,0,none⟩) rows.length cap) (.arr l)
 |mp (l b t:Nat) (f:Int->Bool) (hb:β l=some b) (hh:h l=some (.mp t f)):RdA β S h w tm (.map (some b)) (.arr l)
 |ap (l i off b e s:Nat) (rows:List (List D)) (hb:β l=some b) (hh:h l=some (.arr e s rows)) :
   RdA β S h w tm (.pointer (some ⟨b,i*s+off,none⟩)) (.ap l i off)
 |dang (v:Value) (av:AV) (l:Nat) (hl:PP av=some l) (hh:h l=none) (h1:v.oneCell'=true):RdA β S h w tm v av
 |gdT (v:Value) (t:Nat) (w':Bool) (av:AV) (ht:tm t = .bool w') (hv:RdA β S h w tm v av):RdA β S h w tm v (.gd t w' av)
 |gdF (t:Nat) (w':Bool) (av:AV) (ht:tm t≠.bool w'):RdA β S h w tm undef (.gd t w' av)
structure Keep (β:Nat->oP Nat) (h:Nat->oP Ob) (w:World) (β':Nat->oP Nat) (h':Nat->oP Ob) (w':World) (l:Nat):Prop where
 b:β' l=β l
 none_:h l=none->h' l=none
 arr:∀ e s rows,h l=some (.arr e s rows)->h' l=none\/∃ rows',h' l=some (.arr e s rows')/\rows'.length=rows.length
 cells:∀ b cs ty fz,(h' l).isSome=true->β l=some b->w.heap[b]? = some (.cells cs ty fz)->∃ cs' ty' fz',w'.heap[b]? = some (.cells cs' ty' fz')/\cs'.size=cs.size
 mp:∀ t f,h l=some (.mp t f)->h' l=none\/∃ f',h' l=some (.mp t f')
theorem PB {l i:Nat} {r:List AV} {x:AV} (h:r[i]? = some x) (hn:Z3 l x=true):Je l r=true:=by
 induction r generalizing i with
 |nil=>simp at h
 |cons a r ih=>
  grind [Je]
theorem Q4e {t i:Nat} {r:List AV} {x:AV} (h:r[i]? = some x) (hn:gds t x=true):Cr t r=true:=by
 induction r generalizing i with
 |nil=>simp at h
 |cons a r ih=>
  grind [Cr]
theorem RdA.mono {β β':Nat->oP Nat} {S S':Nat->Prop} {h h':Nat->oP Ob} {w w':World} {tm tm':Nat->Value} {v:Value} {av:AV}
  (hr:RdA β S h w tm v av) (hS:∀ b,S b->S' b) (hw:∀ b,S b->w'.heap[b]? = w.heap[b]?)
  (hk:∀ l,Z3 l av=true->Keep β h w β' h' w' l) (ht:∀ t,gds t av=true->tm' t=tm t):RdA β' S' h' w' tm' v av:=by
 induction hr with
 |top v=>exact .top v
 |d v x hx=>exact .d v x (hx.mono hS hw)
 |nil=>exact .nil
 |ag cs l hl _ ih=>
  exact .ag cs l hl fun i x hx=>ih i x hx (fun k hn=>hk k (by grind [Z3,PB])) (fun t hn=>ht t (by grind [gds,Q4e]))
 |tup cs l hl _ ih=>
  exact .tup cs l hl fun i x hx=>ih i x hx (fun k hn=>hk k (by simp [Z3,PB hx hn])) (fun t hn=>ht t (by simp [gds,Q4e hx hn]))
 |fn f cs l hl _ ih=>
  exact .fn f cs l hl fun i x hx=>ih i x hx (fun k hn=>hk k (by simp [Z3,PB hx hn])) (fun t hn=>ht t (by simp [gds,Q4e hx hn]))
 |fs ad s rows hx=>exact .fs ad s rows (hx.mono hS hw)
 |mpd v f hm=>exact .mpd v f (hm.mono hS hw)
 |ex v=>exact .ex v
 |ptr l off b hb=>exact .ptr l off b (by rw [(hk l (by simp [Z3])).b];exact hb)
 |sa v l t b hb hv=>exact .sa v l t b (by rw [(hk l (by simp [Z3])).b];exact hb) hv
 |el ad row off c hs hc hr=>
  exact .el ad row off c (hS _ hs) (fun j x hx=>by grind [RW,Jc]) (fun j x hx=>(hr j x hx).mono hS hw)
 |arr0 l e s hb hh=>
  have K:=hk l (by simp [Z3]);rcases K.arr e s [] hh with hn | ⟨ac,aj,al⟩
  ·exact .dang _ _ l rfl hn rfl
  ·have:ac=[]:=Qo1 QnI;subst this;exact .arr0 l e s (by rw [K.b];exact hb) aj
 |arr l b cap e s rows cs ty fz hb hh ay a4 a1 ao=>
  have K:=hk l (by simp [Z3]);rcases K.arr e s rows hh with hn | ⟨ac,aj,al⟩
  ·exact .dang _ _ l rfl hn rfl
  ·obtain ⟨ax,ar,az,au,a3⟩:=K.cells b cs ty fz (by simp [aj]) hb ay;have:=RdA.arr (β:=β') (h:=h') (w:=w') (S:=S') (tm:=tm') l b cap e s ac ax ar az (by rw [K.b];exact hb) aj au QnI QnI ao
   simp_all
 |mp l b t f hb hh=>
  have K:=hk l (by simp [Z3]);rcases K.mp t f hh with hn | ⟨f',hf⟩
  ·exact .dang _ _ l rfl hn rfl
  ·exact .mp l b t f' (by rw [K.b];exact hb) hf
 |ap l i off b e s rows hb hh=>
  have K:=hk l (by simp [Z3]);rcases K.arr e s rows hh with hn | ⟨ac,aj,al⟩
  ·exact .dang _ _ l rfl hn rfl
  ·exact .ap l i off b e s ac (by rw [K.b];exact hb) aj
 |dang v av l hl hh h1=>
  refine .dang v av l hl ((hk l ?_).none_ hh) h1;cases av <;> simp [PP] at hl <;> simp [Z3,hl]
 |gdT v t b av aq _ ih=>
  refine .gdT v t b av (by simp_all [gds]) (ih (fun k hn=>hk k (by assumption)) (fun t' hn=>ht t' (by grind [gds])))
 |gdF t b av aq=>exact .gdF t b av (by rw [ht t (by simp [gds])];exact aq)
structure Fr (M:Nat->Prop) (w w':World):Prop where
 os:w'.os=w.os
 tape:w'.tape=w.tape
 output:w'.output=w.output
 size:w.heap.size<=w'.heap.size
 block:∀ b,b<w.heap.size->¬ M b->w'.heap[b]? = w.heap[b]?
theorem Fr.refl (M:Nat->Prop) (w:World):Fr M w w:=⟨rfl,rfl,rfl,Qof _,fun _ _ _=>rfl⟩
theorem Fr.trans {M:Nat->Prop} {a b c:World} (h:Fr M a b) (k:Fr M b c):Fr M a c:=
 ⟨k.os.trans h.os,k.tape.trans h.tape,k.output.trans h.output,Nat.le_trans h.size k.size,fun i hi hm=>(k.block i (Qoi hi h.size) hm).trans (h.block i hi hm)⟩
theorem Fr.mono {M M':Nat->Prop} {a b:World} (h:Fr M a b) (hM:∀ x,x<a.heap.size->M x->M' x):Fr M' a b:=
 ⟨h.os,h.tape,h.output,h.size,fun i hi hm=>h.block i hi (fun hx=>hm (hM i hi hx))⟩
theorem Fr.below {w w':World} (h:Fr (fun _=>False) w w'):RowKit.Below w.heap.size w w':=⟨h.os,h.tape,h.output,h.size,fun b hb=>h.block b hb (fun x=>x)⟩
def Qi5 (n:Nat) (fz:Nat×Nat):Prop:=∀ o,o<n->¬ (fz.1<=o/\o<fz.2)
def tm0:Nat->Value:=fun _=>undef
def Q6R (ty:TypeId) (cells:List AV):Prop:=∀ (i l t:Nat),cells[i]? = some (.sa l t)->ty=t
def ObR (β:Nat->oP Nat) (S:Nat->Prop) (h:Nat->oP Ob) (w:World) (l:Nat):Ob->Prop
 |.box cells=>∃ b ty cs fz,β l=some b/\w.heap[b]? = some (.cells cs ty fz)/\(Qi5 cs.size fz/\Q6R ty cells)/\cs.size=cells.length /\
   ∀ (i:Nat) (x:AV),cells[i]? = some x->RdA β S h w tm0 (cs.getD i undef) x
 |.arr e s rows=>(β l=none/\rows=[])\/∃ b cs,β l=some b/\w.heap[b]? = some (.cells cs e (0,0))/\rows.length*s<=cs.size /\
   (∀ (i:Nat) (r:List D),rows[i]? = some r->r.length=s)/\∀ (i j:Nat) (r:List D) (x:D),rows[i]? = some r->r[j]? = some x->∃ v,cs[i*s+j]? = some v/\Rd S w v x
 |.mp _ f=>∃ b,β l=some b/\MpR w b f
structure Env where
 w0:World
 M:Nat->Prop
 S0:Nat->Prop
 pin:Nat->oP Nat
def tmv (a:Act) (t:Nat):Value:=a.tmps.getD t undef
structure HRel (E:Env) (β:Nat->oP Nat) (S:Nat->Prop) (h:Nat->oP Ob) (w:World):Prop where
 ob:∀ l o,h l=some o->ObR β S h w l o
 inj:∀ l l' b,(h l).isSome=true->(h l').isSome=true->β l=some b->β l'=some b->l=l'
 apart:∀ l b,(h l).isSome=true->β l=some b->¬ S b
 own:∀ l b,(h l).isSome=true->β l=some b->E.M b\/E.w0.heap.size<=b
 sb:∀ b,S b->b<w.heap.size
 sfr:∀ b,S b->E.S0 b\/E.M b\/E.w0.heap.size<=b
 s0:∀ b,E.S0 b->S b
 fr:Fr E.M E.w0 w
 pin:∀ l,1000000<=l->β l=E.pin l
 psz:∀ l b,1000000<=l->(h l).isSome=true->β l=some b->∀ cs ty fz,E.w0.heap[b]? = some (.cells cs ty fz)->∃ cs' ty' fz',w.heap[b]? = some (.cells cs' ty' fz')/\cs'.size=cs.size
structure Rel (E:Env) (β:Nat->oP Nat) (S:Nat->Prop) (st:St) (a:Act) (w:World):Prop where
 n:a.tmps.size=st.n
 dfr:a.defers=[]
 tm:∀ t av,look st.tm t=some av->RdA β S (look st.h) w (tmv a) (tmv a t) av
 hr:HRel E β S (look st.h) w
def GZ (E:Env) (st:St) (a:Act) (w:World):Prop:=∃ β S,Rel E β S st a w
theorem Qd9 {a b:Nat} (h:¬ a=b):Nat.beq a b=false:=by
 grind [Nat.beq,absurd,Nat.eq_of_beq_eq_true]
theorem DS {α:Type} (l k:Nat) (h:List (Nat×α)):look (rem l h) k=if k=l then none else look h k:=by
 induction h with
 |nil=>simp [rem,look]
 |cons x r ih=>
  obtain ⟨a,o⟩:=x;simp only [rem,look];by_cases ha:a=l
  ·subst ha;simp only [Nat.beq_refl,QnW,ih]
   grind [Nat.beq,Qd9]
  ·have h1:Nat.beq a l=false:=Qd9 ha;simp only [h1,cond_false,look,ih]
   grind
theorem Qx {α:Type} (l k:Nat) (o:α) (h:List (Nat×α)):look ((l,o)::h) k=if k=l then some o else look h k:=by
 grind [look,Nat.beq_refl,Nat.beq,Qd9]
theorem Wu (l k:Nat) (o:Ob) (h:List (Nat×Ob)):look ((l,o)::rem l h) k=if k=l then some o else look h k:=by
 grind [Qx,DS]
end Go.Vx
namespace Go.Vx
variable {ev:Operand->AV}
def CEq (kd:Kd) (u v:Value) (b:Bool):Prop:=
 match kd with
 |.int k=>∃ m n,u = .int k m/\v = .int k n/\b=(m == n)
 |.bool=>∃ m n,u = .bool m/\v = .bool n/\b=(m == n)
 |.str=>∃ m n:ByteArray,u = .string m/\v = .string n/\b=(m.data.toList == n.data.toList)
 |_=>False
def QiI (P:Program) (t:Nat) (ks:List Kd):Prop:=
 ∀ (w:World) (xs ys:Array Value) (bs:List Bool),xs.size=ks.length->ys.size=ks.length->bs.length=ks.length ->
  (∀ (j:Nat) (kd:Kd) (b:Bool),ks[j]? = some kd->bs[j]? = some b->CEq kd (xs.getD j undef) (ys.getD j undef) b) ->
  (Op.equalIn 10000 t (.agg xs) (.agg ys)).run P w = .ok (bs.all id) w/\P.eqGuardType P.depth t=false
structure TyOk (P:Program) (t:Nat) (ti:TyI):Prop where
 inf:∃ i,P.info? t=some i/\i.size=ti.size/\i.bytes=ti.bytes/\∃ z,i.zero=some z/\z.cells.toList=ti.zero
 one:UQ ti.kd=false->ti.size=1/\∃ d,P.underlying t=some d/\(∀ fs,d≠.struct fs)/\∀ n e,d≠.array n e
 kint:∀ k,ti.kd = .int k->P.underlying t=some (.int k)
 kbool:ti.kd = .bool->P.underlying t=some .bool
 kstr:ti.kd = .str->P.underlying t=some .string
 ksl:∀ e esz,ti.kd = .sl e esz->P.underlying t=some (.slice e)/\0<esz/\∃ i,P.info? e=some i/\i.size=esz
 kstruct:ti.kd = .struct->∃ fs,P.underlying t=some (.struct fs)/\fs.toList.map (fun f=>(f.offset,f.type))=ti.fields/\∀ f∈fs.toList,∃ i,P.info? f.type=some i/\i.size≠0
 karr:∀ e esz n,ti.kd = .array e esz n->P.underlying t=some (.array n e)/\0<esz/\(∃ i,P.info? e=some i/\i.size=esz)/\ti.size=n*esz/\ti.fields=(List.range n).map fun i=>(i*esz,e)
 keq:∀ ks,ti.eqk=some ks->QiI P t ks
 zlen:ti.zero.length=ti.size
 zd:ti.zd.length=ti.size->∀ (j:Nat) (x:D),ti.zd[j]? = some x->∃ v,ti.zero[j]? = some v/\∀ (S:Nat->Prop) (w:World),Rd S w v x
 kmpb:ti.kd = .mpb->∃ K e,P.underlying t=some (.map K e)/\P.underlying K=some (.int .i64)/\∃ i,P.info? e=some i/\i.zero=some (.bool false)
 kmap:ti.kd = .mapI->∃ K e,P.underlying t=some (.map K e)/\P.underlying K=some (.int .i64)/\∃ i,P.info? e=some i/\i.zero=some (.slice none 0 0)
def TOk (P:Program) (tt:TT):Prop:=∀ t ti,look tt t=some ti->TyOk P t ti
section
variable {P:Program}
theorem QA {t:TypeId} {d:TypeDesc} (h:P.underlying t=some d) (w:World):(underlying t).run P w = .ok d w:=by
 simp [underlying,h]
theorem Yd {t:TypeId} {i:TypeInfo} (h:P.info? t=some i) (w:World):(typeInfo t).run P w = .ok i w:=by
 simp [typeInfo,h]
theorem TyOk.size {t:Nat} {ti:TyI} (h:TyOk P t ti) (w:World):(sizeOf t).run P w = .ok ti.size w:=by
 obtain ⟨i,hi,hs,_⟩:=h.inf
 simp_all [sizeOf,Yd]
theorem TyOk.agg {t:Nat} {ti:TyI} (h:TyOk P t ti) (w:World):(isAgg t).run P w = .ok (UQ ti.kd) w:=by
 cases hk:UQ ti.kd with
 |true=>
  cases hh:ti.kd with
  |struct=>
   obtain ⟨fs,hu,_⟩:=h.kstruct hh;simp [isAgg,QA hu]
  |array e aj n=>
   have hu:=(h.karr e aj n hh).1;simp [isAgg,QA hu]
  |_=>grind [UQ]
 |false=>
  obtain ⟨_,d,hu,h1,h2⟩:=h.one hk
  simp_all [isAgg,QnV,QA,QnR]
theorem QO {α R:Type} {g:Bool} {p:oP α} {z:α} {k:α->oP R} {r:R} (h:gb g p z k=some r) :
  ∃ a,k a=some r/\(g=true->p=some a):=by
 unfold gb orZ at h
 grind
def Out (E:Env) (st:St) (a:Act) (dl:Dl) (v:Value) (w':World):Prop:=
 ∃ β' S',Rel E β' S' ⟨st.n,st.tm,NE st.h dl.wr⟩ a w'/\RdA β' S' (look (NE st.h dl.wr)) w' (tmv a) v dl.v
def D8 (β:Nat->oP Nat) (S:Nat->Prop) (st:St) (a:Act) (w:World) (o:Oper) (ev:Operand->AV):Prop:=
 ∀ x∈o.op.operands.toList,RdA β S (look st.h) w (tmv a) (a.eval x) (ev x)/\∀ l,Uc st l=true->Z3 l (ev x)=false
def Qfb (st:St) (hl:Nat->oP Ob) (dl:Dl):Prop:=∀ l,l∈dl.rd\/l∈wrL dl->look st.h l=hl l
def Ge (P:Program) (E:Env) (o:Oper) (ev:Operand->AV) (hl:Nat->oP Ob) (dl:Dl):Prop:=
 ∀ β S st a w,Rel E β S st a w->D8 β S st a w o ev->Qfb st hl dl->ZQ st dl.wr=true ->
  ∀ (K:Act->World->Prop) (Q:Exit->Act->World->Prop),(∀ v w',Out E st a dl v w'->K (a.put o.dst v) w')->o.wp P a w K Q
variable {E:Env}
theorem Qk {o:Oper} {hl:Nat->oP Ob} {v:AV} {rd:List Nat}
  (h:∀ β S st a w,Rel E β S st a w->D8 β S st a w o ev->Qfb st hl ⟨v,[],rd⟩->∃ u,(execOp a.eval o).run P w = .ok (.value u) w/\RdA β S (look st.h) w (tmv a) u v) :
  Ge P E o ev hl ⟨v,[],rd⟩:=by
 intro β S st a w hR hO hA _ K Q hK;obtain ⟨u,ac,hu⟩:=h β S st a w hR hO hA;unfold Oper.wp;rw [ac];exact hK u w ⟨β,S,by assumption,by assumption⟩
theorem D8.at {β:Nat->oP Nat} {S:Nat->Prop} {st:St} {a:Act} {w:World} {o:Oper} (h:D8 β S st a w o ev) {x:Operand} (hx:x∈o.op.operands.toList) :
  RdA β S (look st.h) w (tmv a) (a.eval x) (ev x):=(h x hx).1
theorem D8.nm {β:Nat->oP Nat} {S:Nat->Prop} {st:St} {a:Act} {w:World} {o:Oper} (h:D8 β S st a w o ev) {x:Operand} (hx:x∈o.op.operands.toList) {l:Nat} (hc:Uc st l=true) :
  Z3 l (ev x)=false:=(h x hx).2 l hc
section inv
variable {β:Nat->oP Nat} {S:Nat->Prop} {h:Nat->oP Ob} {w:World} {tm:Nat->Value} {v:Value}
theorem RdA.int_inv {k:IntKind} {n:Int} (hv:RdA β S h w tm v (.d (.int k n))):v = .int k n:=by
 cases hv with
 |d _ _ hx=>cases hx;rfl
 |dang _ _ l hl _ _=>trivial
theorem RdA.bool_inv {b:Bool} (hv:RdA β S h w tm v (.d (.bool b))):v = .bool b:=by
 cases hv with
 |d _ _ hx=>cases hx;rfl
 |dang _ _ l hl _ _=>trivial
theorem RdA.str_inv {l:List UInt8} (hv:RdA β S h w tm v (.d (.str l))):∃ s:ByteArray,l=s.data.toList/\v = .string s:=by
 cases hv with
 |d _ _ hx=>cases hx with
  |str s=>simp_all
 |dang _ _ l hl _ _=>trivial
theorem RdA.d_inv {x:D} (hv:RdA β S h w tm v (.d x)):Rd S w v x:=by
 cases hv with
 |d _ _ hx=>exact hx
 |dang _ _ l hl _ _=>trivial
theorem RdA.ptr_inv {l off:Nat} (hv:RdA β S h w tm v (.ptr l off)):∃ b,β l=some b/\v = .pointer (some ⟨b,off,none⟩):=by
 cases hv with
 |ptr _ _ b hb=>simp_all
 |dang _ _ l hl _ _=>trivial
theorem RdA.el_inv {row:List D} {off:Nat} (hv:RdA β S h w tm v (.el row off)) :
  ∃ (ad:Addr) (c:Nat->Value),v = .pointer (some ad)/\S ad.block/\(∀ (j:Nat) (x:D),row[off+j]? = some x->w.cell? (ad.add j)=some (c j))/\∀ (j:Nat) (x:D),row[off+j]? = some x->Rd S w (c j) x:=by
 cases hv with
 |el ad _ _ c hs hc hr=>exact ⟨ad,c,rfl,hs,hc,hr⟩
 |dang _ _ l hl _ _=>trivial
theorem RdA.ap_inv {l i off e s:Nat} {rows:List (List D)} (hh:h l=some (.arr e s rows)) (hv:RdA β S h w tm v (.ap l i off)) :
  ∃ b,β l=some b/\v = .pointer (some ⟨b,i*s+off,none⟩):=by
 cases hv with
 |ap _ _ _ b e' s' ac hb ak=>
  simp_all
 |dang _ _ l' hl hn _=>grind [PP]
theorem RdA.ag_inv {l:List AV} (hv:RdA β S h w tm v (.ag l)):∃ cs:Array Value,v = .agg cs/\cs.size=l.length/\∀ (i:Nat) (x:AV),l[i]? = some x->RdA β S h w tm (cs.getD i undef) x:=by
 cases hv with
 |ag cs _ hl hr=>simp_all
 |dang _ _ l hl _ _=>trivial
theorem RdA.tup_inv {l:List AV} (hv:RdA β S h w tm v (.tup l)):∃ cs:Array Value,v = .tuple cs/\cs.size=l.length/\∀ (i:Nat) (x:AV),l[i]? = some x->RdA β S h w tm (cs.getD i undef) x:=by
 cases hv with
 |tup cs _ hl hr=>simp_all
 |dang _ _ l hl _ _=>trivial
theorem RdA.fs_inv {s:Nat} {rows:List (List D)} (hv:RdA β S h w tm v (.fs s rows)):∃ ad,v = .slice ad rows.length rows.length/\Rd S w v (.sl s rows):=by
 cases hv with
 |fs ad _ _ hx=>simp_all
 |dang _ _ l hl=>trivial
theorem RdA.nil_inv (hv:RdA β S h w tm v .nil):v = .slice none 0 0:=by
 cases hv with
 |nil=>rfl
 |dang _ _ l hl _ _=>trivial
theorem RdA.arr_inv {l e s:Nat} {rows:List (List D)} (hh:h l=some (.arr e s rows)) (hv:RdA β S h w tm v (.arr l)) :
  (β l=none/\rows=[]/\v = .slice none 0 0)\/∃ b cap cs ty fz,β l=some b/\v = .slice (some ⟨b,0,none⟩) rows.length cap/\w.heap[b]? = some (.cells cs ty fz)/\cs.size=cap*s/\rows.length<=cap/\cap<=maxLen:=by
 cases hv with
 |arr0 _ e' s' hb ac=>
  simp_all
 |arr _ b cap e' s' aj cs ty fz hb ac hw ao ak al=>
  grind
 |mp _ b t f hb ac=>simp_all
 |dang _ _ l' hl hn _=>grind [PP]
theorem RdA.mp_inv {l t:Nat} {f:Int->Bool} (hh:h l=some (.mp t f)) (hv:RdA β S h w tm v (.arr l)):∃ b,β l=some b/\v = .map (some b):=by
 cases hv with
 |arr0 _ e' s' hb ac=>simp_all
 |arr _ b cap e' s' aj cs ty fz hb ac hw aq ak al=>rw [hh] at ac;cases ac
 |mp _ b t f hb ac=>simp_all
 |dang _ _ l' hl hn _=>grind [PP]
end inv
theorem LM {k:IntKind} {x:D} {n:Int} (h:Q3 k x=some n):x = .int k n:=by
 cases x with
 |int k' m=>
  grind [Q3]
 |_=>trivial
theorem NM {x:D} {n:Bool} (h:KA x=some n):x = .bool n:=by
 cases x <;> simp [KA] at h;rw [h]
theorem Lx {x:D} {n:List UInt8} (h:Rw x=some n):x = .str n:=by
 cases x <;> simp [Rw] at h;rw [h]
theorem Q68 {s:Nat} {x:D} {n:List (List D)} (h:pSl s x=some n):x = .sl s n:=by
 cases x with
 |sl s' m=>
  grind [pSl,Nat.beq,Nat.eq_of_beq_eq_true]
 |_=>trivial
theorem C7 {R:Type} {g:Bool} {kd:Kd} {av:AV} {k:AV->oP R} {r:R} (h:prj g kd av k=some r) :
  ∃ v,k v=some r/\(g=true->v=av)/\AK av=true:=by
 unfold prj at h;split at h
 ·split at h
  ·obtain ⟨n,hn,hp⟩:=QO h;exact ⟨_,hn,fun hg=>by grind [LM],rfl⟩
  ·obtain ⟨n,hn,hp⟩:=QO h;exact ⟨_,hn,fun hg=>by grind [NM],rfl⟩
  ·obtain ⟨n,hn,hp⟩:=QO h;exact ⟨_,hn,fun hg=>by grind [Lx],rfl⟩
  ·obtain ⟨n,hn,hp⟩:=QO h;exact ⟨_,hn,fun hg=>by grind [Q68],rfl⟩
  ·cases h
 grind
theorem Ms {R:Type} {g:Bool} {row:List D}:∀ {n off:Nat} {k:List AV->oP R} {r:R},Q0e g row off n k=some r ->
  ∃ cs:List D,k (cs.map .d)=some r/\cs.length=n/\(g=true->∀ j,j<n->row[off+j]? = cs[j]?)
 |0,off,k,r,h=>⟨[],by simpa [Q0e] using h,rfl,fun _ j hj=>by omega⟩
 |n+1,off,k,r,h=>by
  unfold Q0e at h;obtain ⟨c,hc,hp⟩:=QO h;obtain ⟨cs,h1,h2,h3⟩:=Ms hc;refine ⟨c::cs,by simpa using h1,by simp [h2],fun hg j hj=>?_⟩;cases j with
  |zero=>simpa using hp hg
  |succ j=>
   have:=h3 hg j QnI;rw [show off+(j+1)=off+1+j from QnI];simpa using this
theorem SS {cells:List AV}:∀ {n off:Nat} {cs:List AV},CE cells off n=some cs->cs.length=n/\(∀ j,j<n->cells[off+j]? = cs[j]?)/\∀ (j:Nat) (c:AV),cs[j]? = some c->AK c=true
 |0,off,cs,h=>by
  simp [CE] at h;subst h;exact ⟨rfl,fun j hj=>by omega,fun j c hc=>by simp at hc⟩
 |n+1,off,cs,h=>by
  unfold CE at h;split at h
  ·rename_i c hc;split at h
   ·rename_i r hr;obtain ⟨h1,h2,h3⟩:=SS hr;cases hn:AK c with
    |true=>
     simp [hn] at h;subst h;refine ⟨by simp [h1],fun j hj=>?_,fun j c' ac=>?_⟩
     ·cases j with
      |zero=>simpa using hc
      |succ j=>
       rw [show off+(j+1)=off+1+j from QnI];simpa using h2 j QnI
     ·cases j with
      |zero=>simp at ac;subst ac;exact hn
      |succ j=>exact h3 j c' (by simpa using ac)
    |false=>simp [hn] at h
   ·cases h
  ·cases h
theorem Q0P:∀ {l:List AV},J1 l=true->∀ t,Cr t l=false
 |[],_,_=>rfl
 |.ptr ..::r,h,t=>by simp [Cr,gds,Q0P (l:=r) (by simpa [J1] using h) t]
 |.d _::r,h,t=>by simp [Cr,gds,Q0P (l:=r) (by simpa [J1] using h) t]
 |.top::_,h,_=>by simp [J1] at h
 |.nil::_,h,_=>by simp [J1] at h
 |.ag _::_,h,_=>by simp [J1] at h
 |.tup _::_,h,_=>by simp [J1] at h
 |.el ..::_,h,_=>by simp [J1] at h
 |.fs ..::_,h,_=>by simp [J1] at h
 |.mpd _::_,h,_=>by simp [J1] at h
 |.ex _::_,h,_=>by simp [J1] at h
 |.arr _::_,h,_=>by simp [J1] at h
 |.ap ..::_,h,_=>by simp [J1] at h
 |.gd ..::_,h,_=>by simp [J1] at h
 |.fn ..::_,h,_=>by simp [J1] at h
theorem Sf {av:AV} (h:AK av=true) (t:Nat):gds t av=false:=by
 cases av with
 |fn f l=>grind [gds,Q0P,AK]
 |_=>trivial
theorem RdA.any_tm {β:Nat->oP Nat} {S:Nat->Prop} {h:Nat->oP Ob} {w:World} {tm:Nat->Value} {v:Value} {av:AV} (hg:AK av=true)
  (hv:RdA β S h w tm0 v av):RdA β S h w tm v av:=by
 refine RdA.mono hv (fun _ hb=>hb) (fun _ _=>rfl) (fun l _=>⟨rfl,fun x=>x,fun e s rows hh=>.inr ⟨rows,hh,rfl⟩,fun b cs ty fz _ _ hw=>⟨cs,ty,fz,hw,rfl⟩,fun _ f hh=>.inr ⟨f,hh⟩⟩) (fun t ht=>?_)
 grind [Sf]
end
end Go.Vx
namespace Go.Vx
variable {w:World}
section
variable {P:Program} {E:Env} {R:Type}
theorem VL {b o:Nat} {cs:Array Value} {ty:TypeId} {fz:Nat×Nat} (h:w.heap[b]? = some (.cells cs ty fz)):w.cell? ⟨b,o,none⟩=cs[o]?:=by
 simp [World.cell?,h]
theorem G6 {t:Nat} {ti:TyI} (ht:TyOk P t ti) (hs:UQ ti.kd=false) {a:Addr} {v:Value} (hc:w.cell? a=some v) :
  (loadVar t a).run P w = .ok v w:=by
 simp only [loadVar,QnV,ht.agg,hs,QnR,Bool.false_eq_true,if_false,run_load,hc]
theorem Gg {t:Nat} {ti:TyI} (ht:TyOk P t ti) (hs:UQ ti.kd=true) {a:Addr} {vs:List Value} (hl:vs.length=ti.size) (hc:∀ (j:Nat) (v:Value),vs[j]? = some v->w.cell? (a.add j)=some v) :
  (loadVar t a).run P w = .ok (.agg vs.toArray) w:=by
 have h1:=run_loadCells_list (P:=P) w a vs hc;rw [hl] at h1;simp only [loadVar,QnV,ht.agg,hs,QnR,if_true,ht.size,h1];rfl
theorem KY {cs:Array Value} {i:Nat} (h:i<cs.size):cs[i]? = some (cs.getD i undef):=by
 simp_all
theorem Lu {vs:List Value} {i:Nat} {v:Value} (h:vs[i]? = some v):vs.toArray.getD i undef=v:=by
 simp_all
theorem JA {o:Oper} {t:TypeId} {x:Operand} (ho:o.op = .load t x) {a:Act} {ad:Addr} {v:Value} (hx:a.eval x = .pointer (some ad)) (hv:(loadVar t ad).run P w = .ok v w) :
  (execOp a.eval o).run P w = .ok (.value v) w:=by
 simp_all [execOp,Instr.loadAt,Instr.sureAddr]
theorem Q2S {S:Nat->Prop} {ad:Addr} {row:List D} {off:Nat} {c:Nat->Value} (hc:∀ (j:Nat) (x:D),row[off+j]? = some x->w.cell? (ad.add j)=some (c j))
  (hr:∀ (j:Nat) (x:D),row[off+j]? = some x->Rd S w (c j) x) {cs:List D} {n:Nat} (hn:cs.length=n) (ac:∀ j,j<n->row[off+j]? = cs[j]?) :
  ∃ vs:List Value,vs.length=n/\(∀ (j:Nat) (v:Value),vs[j]? = some v->w.cell? (ad.add j)=some v)/\∀ (j:Nat) (x:D),cs[j]? = some x->∃ v,vs[j]? = some v/\Rd S w v x:=by
 refine ⟨(List.range n).map c,by simp,fun j v hv=>?_,fun j x hx=>?_⟩
 all_goals grind
theorem Q8y {β:Nat->oP Nat} {S:Nat->Prop} {h:Nat->oP Ob} {tm:Nat->Value} {vs:List Value} {cs:List D} (hl:vs.length=cs.length)
  (hr:∀ (j:Nat) (x:D),cs[j]? = some x->∃ v,vs[j]? = some v/\Rd S w v x):RdA β S h w tm (.agg vs.toArray) (.ag (cs.map .d)):=by
 refine .ag _ _ (by simp [hl]) fun i x hx=>?_
 simp only [Qo2,QnX] at hx;obtain ⟨y,hy,rfl⟩:=hx;obtain ⟨v,hv,ac⟩:=hr i y hy;rw [Lu hv];exact .d _ _ ac
theorem Q7Y {tt:TT} (hT:TOk P tt) {o:Oper} {t:TypeId} {x:Operand} (ho:o.op = .load t x) {g:Bool} {ev:Operand->AV} {hl:Nat->oP Ob} {k:Dl->oP R} {r:R}
  (h:QdT tt g hl t (ev x) k=some r):∃ dl,k dl=some r/\(g=true->Ge P E o ev hl dl):=by
 have aj:x∈o.op.operands.toList:=by grind [Op.operands]
 unfold QdT at h;split at h
 case h_2=>cases h
 rename_i ti bl;have ay:=hT t ti bl;split at h
 ·-- a box
  rename_i l off aq;split at h
  ·rename_i cells au;cases hs:UQ ti.kd with
   |true=>
    simp only [hs,QnW] at h;split at h
    ·rename_i cs a3;refine ⟨_,h,fun _=>Qk fun β S st a w hR hO hA=>?_⟩;obtain ⟨b,hb,hv⟩:=(aq▸hO.at aj).ptr_inv;have ak:look st.h l=some (.box cells):=by rw [hA l (.inl QnK)];exact au
     obtain ⟨b',ty,vs,fz,al,hw,_,bh,ao⟩:=hR.hr.ob l _ ak;obtain rfl:b=b':=by simp_all
     obtain ⟨h1,h2,h3⟩:=SS a3;have ar:∀ j,j<ti.size->off+j<vs.size:=fun j hj=>by
      grind
     refine ⟨_,JA ho hv (Gg ay hs (vs:=(List.range ti.size).map fun j=>vs.getD (off+j) undef) QnK fun j v hv=>?_),?_⟩
     ·simp only [Qo2,QnX] at hv;obtain ⟨j',bk,rfl⟩:=hv;obtain ⟨a8,he⟩:=QnS.1 bk;simp at a8 he;subst he;rw [JJ,VL hw];exact KY (ar j a8)
     ·refine .ag _ _ (by simp [h1]) fun i y hy=>?_
      have hi:i<ti.size:=by
       obtain ⟨h6,_⟩:=QnS.1 hy;omega
      rw [Lu (v:=vs.getD (off+i) undef) (by simp [hi])];exact (ao (off+i) y ((h2 i hi).trans hy)).any_tm (h3 i y hy)
    ·cases h
   |false=>
    simp only [hs,cond_false] at h;split at h
    ·rename_i c hc;obtain ⟨v,a2,a4,bg⟩:=C7 h;refine ⟨_,a2,fun hg=>Qk fun β S st a w hR hO hA=>?_⟩;obtain ⟨b,hb,hv⟩:=(aq▸hO.at aj).ptr_inv;have ak:look st.h l=some (.box cells):=by rw [hA l (.inl QnK)];exact au
     obtain ⟨b',ty,vs,fz,al,hw,_,bh,ao⟩:=hR.hr.ob l _ ak;obtain rfl:b=b':=by rw [hb] at al;injection al
     have ar:off<vs.size:=by
      obtain ⟨h6,_⟩:=QnS.1 hc;omega
     refine ⟨_,JA ho hv (G6 ay hs (by rw [VL hw];exact KY ar)),?_⟩;rw [a4 hg];exact (ao off c hc).any_tm bg
    ·cases h
  ·cases h
 ·-- a row of data
  rename_i row off aq;cases hs:UQ ti.kd with
  |true=>
   simp only [hs,QnW] at h;obtain ⟨cs,hk,a1,a3⟩:=Ms h;refine ⟨_,hk,fun hg=>Qk fun β S st a w hR hO hA=>?_⟩;obtain ⟨ad,c,hv,_,hc,hr⟩:=(aq▸hO.at aj).el_inv;obtain ⟨vs,h1,h2,h3⟩:=Q2S hc hr a1 (a3 hg);exact ⟨_,JA ho hv (Gg ay hs h1 h2),Q8y QnI h3⟩
  |false=>
   simp only [hs,cond_false] at h;obtain ⟨c0,h,a5⟩:=QO h;obtain ⟨v,a2,a4,_⟩:=C7 h;refine ⟨_,a2,fun hg=>Qk fun β S st a w hR hO hA=>?_⟩;obtain ⟨ad,c,hv,_,hc,hr⟩:=(aq▸hO.at aj).el_inv;refine ⟨_,JA ho hv (G6 ay hs (v:=c 0) ?_),?_⟩
   ·have:=hc 0 c0 (a5 hg);simpa [Addr.add] using this
   ·rw [a4 hg];exact .d _ _ (hr 0 c0 (a5 hg))
 ·-- an array of the call's own
  rename_i l i off aq;split at h
  ·rename_i e s rows a6;obtain ⟨row,h,a7⟩:=QO h;cases hs:UQ ti.kd with
   |true=>
    simp only [hs,QnW] at h;obtain ⟨cs,hk,a1,a3⟩:=Ms h;refine ⟨_,hk,fun hg=>Qk fun β S st a w hR hO hA=>?_⟩;have ak:look st.h l=some (.arr e s rows):=by rw [hA l (.inl QnK)];exact a6
    obtain ⟨b,hb,hv⟩:=RdA.ap_inv ak (aq▸hO.at aj);have ac:=a7 hg;rcases hR.hr.ob l _ ak with ⟨_,hn⟩ | ⟨b',vs,al,hw,_,bj,ao⟩
    ·subst hn;simp at ac
    obtain rfl:b=b':=by rw [hb] at al;injection al
    obtain ⟨bm,h1,h2,h3⟩:=Q2S (S:=S) (w:=w) (ad:=⟨b,i*s+off,none⟩) (row:=row) (off:=off) (c:=fun j=>vs.getD (i*s+(off+j)) undef)
     (fun j x hx=>by
      obtain ⟨v,bb,_⟩:=ao i (off+j) row x ac hx;rw [JJ,VL hw,Qom];obtain ⟨ar,_⟩:=Qo6.1 bb;exact KY ar)
     (fun j x hx=>by
      obtain ⟨v,bb,a9⟩:=ao i (off+j) row x ac hx;obtain ⟨ar,he⟩:=Qo6.1 bb;have:vs.getD (i*s+(off+j)) undef=v:=by simp [Array.getD,ar,he]
      rw [this];exact a9) a1 (a3 hg)
    exact ⟨_,JA ho hv (Gg ay hs h1 h2),Q8y QnI h3⟩
   |false=>
    simp only [hs,cond_false] at h;obtain ⟨c0,h,a5⟩:=QO h;obtain ⟨v,a2,a4,_⟩:=C7 h;refine ⟨_,a2,fun hg=>Qk fun β S st a w hR hO hA=>?_⟩;have ak:look st.h l=some (.arr e s rows):=by rw [hA l (.inl QnK)];exact a6
    obtain ⟨b,hb,hv⟩:=RdA.ap_inv ak (aq▸hO.at aj);have ac:=a7 hg;rcases hR.hr.ob l _ ak with ⟨_,hn⟩ | ⟨b',vs,al,hw,_,bj,ao⟩
    ·subst hn;simp at ac
    obtain rfl:b=b':=by rw [hb] at al;injection al
    obtain ⟨u,hu,a9⟩:=ao i off row c0 ac (a5 hg);refine ⟨_,JA ho hv (G6 ay hs (v:=u) ?_),?_⟩
    ·rw [VL hw];exact hu
    ·rw [a4 hg];exact .d _ _ a9
  ·cases h
 ·cases h
end
end Go.Vx
namespace Go.Vx
variable {hl:Nat->oP Ob} {ev:Operand->AV} {w:World} {o:Oper} {tt:TT} {t:TypeId} {x:Operand}
section
variable {P:Program} {E:Env} {R:Type}
theorem Q2Y (ho:o.op = .move x\/o.op = .assign x):Ge P E o ev hl ⟨ev x,[],[]⟩:=by
 refine Qk fun β S st a w hR hO hA=>⟨a.eval x,?_,hO.at (by grind [Op.operands])⟩
 unfold execOp;rcases ho with ho | ho <;> rw [ho] <;> simp
theorem RO (ho:o.op = .nilCheck x) {a:Act} {ad:Addr} (ac:a.eval x = .pointer (some ad)) :
  (execOp a.eval o).run P w = .ok (.value (.pointer (some ad))) w:=by
 simp_all [execOp]
theorem FJ (ho:o.op = .nilCheck x) {l f:Nat} (hv:ev x = .ptr l f):Ge P E o ev hl ⟨.ptr l f,[],[]⟩:=by
 refine Qk fun β S st a w hR hO hA=>?_
 have hx:=hv▸hO.at (x:=x) (by grind [Op.operands]);obtain ⟨b,_,h⟩:=hx.ptr_inv
 grind [RO]
theorem Dk (ho:o.op = .nilCheck x) {l:List D} {f:Nat} (hv:ev x = .el l f):Ge P E o ev hl ⟨.el l f,[],[]⟩:=by
 refine Qk fun β S st a w hR hO hA=>?_
 have hx:=hv▸hO.at (x:=x) (by grind [Op.operands]);obtain ⟨b,_,h,_⟩:=hx.el_inv
 grind [RO]
theorem RdA.ap_ptr {β:Nat->oP Nat} {S:Nat->Prop} {h:Nat->oP Ob} {tm:Nat->Value} {v:Value} {l i off:Nat} (hh:(h l).isSome=true) (hv:RdA β S h w tm v (.ap l i off)):∃ ad,v = .pointer (some ad):=by
 cases hv with
 |ap _ _ _ b e s rows hb hh=>simp_all
 |dang _ _ l' hl hn _=>grind [PP]
theorem DB (ho:o.op = .nilCheck x) {l i f:Nat} (hs:(hl l).isSome=true) (hv:ev x = .ap l i f):Ge P E o ev hl ⟨.ap l i f,[],[l]⟩:=by
 refine Qk fun β S st a w hR hO hA=>?_
 have hx:=hv▸hO.at (x:=x) (by grind [Op.operands]);obtain ⟨ad,h⟩:=hx.ap_ptr (by rw [hA l (.inl QnK)];exact hs)
 grind [RO]
theorem Q8t {op:UnOp} (ho:o.op = .unOp op t x) {a:Act} {u v:Value} (hx:a.eval x=u) (h:(Op.unary op u).run P w = .ok v w) :
  (execOp a.eval o).run P w = .ok (.value v) w:=by
 simp_all [execOp]
theorem QdV {op:UnOp} (ho:o.op = .unOp op t x) {v:AV} (h:vUn op (ev x)=some v) :
  Ge P E o ev hl ⟨v,[],[]⟩:=by
 refine Qk fun β S st a w hR hO hA=>?_
 have hx:=hO.at (x:=x) (by grind [Op.operands]);unfold vUn at h;split at h
 ·rename_i b hb;cases h;rw [hb] at hx;exact ⟨.bool (!b),Q8t ho hx.bool_inv (by rfl),.d _ _ (.bool _)⟩
 ·rename_i k n hb;cases h;rw [hb] at hx;exact ⟨.int k (k.wrap (0-n)),Q8t ho hx.int_inv (by rfl),.d _ _ (.int _ _)⟩
 ·rename_i k n hb;cases h;rw [hb] at hx;exact ⟨.int k (QeP k n),Q8t ho hx.int_inv (by rfl),.d _ _ (.int _ _)⟩
 ·cases h
theorem Ry (op:BinOp) (t:TypeId) (x y:Operand) (k k':IntKind) (a b:Int) (w:World):(eqGuard op t x y (.int k a) (.int k' b)).run P w = .ok () w:=by
 simp [eqGuard]
theorem R3 (op:BinOp) (t:TypeId) (x y:Operand) (a b:Bool) (w:World):(eqGuard op t x y (.bool a) (.bool b)).run P w = .ok () w:=by
 simp [eqGuard]
theorem Ej {op:BinOp} {t t':TypeId} {x y:Operand} (ho:o.op = .binOp op t x y t') {a:Act} {u u' v:Value} (hx:a.eval x=u) (hy:a.eval y=u')
  (hg:(eqGuard op t x y u u').run P w = .ok () w) (h:(binOp op t u u').run P w = .ok v w) :
  (execOp a.eval o).run P w = .ok (.value v) w:=by
 simp_all [execOp]
theorem Rh (d:Nat) (hu:P.underlying t=some .bool) (a b:Bool) (w:World):(Op.equalIn (d+1) t (.bool a) (.bool b)).run P w = .ok (a == b) w:=by
 simp_all [Op.equalIn,QnV,QA,QnR]
theorem Q2A (hu:P.underlying t=some .bool) (a b:Bool) (w:World):(binOp .eql t (.bool a) (.bool b)).run P w = .ok (.bool (a == b)) w:=by
 simp_all [binOp,Op.equal,Op.maxDepth,QnV,Rh,QnR]
theorem Q3P (hu:P.underlying t=some .bool) (a b:Bool) (w:World):(binOp .neq t (.bool a) (.bool b)).run P w = .ok (.bool (!(a == b))) w:=by
 simp_all [binOp,Op.equal,Op.maxDepth,QnV,Rh,QnR]
theorem RdA.gd_inv {β:Nat->oP Nat} {S:Nat->Prop} {h:Nat->oP Ob} {tm:Nat->Value} {v:Value} {t:Nat} {b:Bool} {av:AV} (hv:RdA β S h w tm v (.gd t b av)) :
  (tm t = .bool b/\RdA β S h w tm v av)\/(tm t≠.bool b/\v=undef):=by
 cases hv with
 |gdT _ _ _ _ ht hv=>simp_all
 |gdF _ _ _ ht=>simp_all
 |dang _ _ l hl _ _=>trivial
def dv:D->Value
 |.int k n=>.int k n
 |.bool b=>.bool b
 |_=>undef
theorem Q7o {op:BinOp} {k:IntKind} {a b:Int} {d:D} (h:Q62 op k a b=some d) (t:TypeId) (w:World) (S:Nat->Prop):∃ v,(binOp op t (.int k a) (.int k b)).run P w = .ok v w/\Rd S w v d:=by
 refine ⟨dv d,?_,?_⟩
 ·cases op <;> simp only [Q62,Option.some.injEq,reduceCtorEq] at h <;> subst h <;> simp [binOp,Op.intArith,Op.intCmp,dv]
 ·cases op <;> simp only [Q62,Option.some.injEq,reduceCtorEq] at h <;> subst h <;> first | exact .int _ _ | exact .bool _
theorem Xq {t:Nat} {kd:Kd} (h:Tt tt t=kd) (hn:kd≠.other):∃ ti,look tt t=some ti/\ti.kd=kd:=by
 grind [Tt,absurd]
theorem CA (op:BinOp) (t:TypeId) (x y:Operand) (a b:ByteArray) (w:World):(eqGuard op t x y (.string a) (.string b)).run P w = .ok () w:=by
 simp [eqGuard]
theorem Q6r:∀ (l:List Bool),Qah l=l.all id
 |[]=>rfl
 |[b]=>by simp [Qah]
 |b::c::r=>by rw [show Qah (b::c::r)=(b&&Qah (c::r)) from rfl,Q6r (c::r)];simp
theorem CW {g:Bool}:∀ {ks:List Kd} {xs ys:List AV} {k:List Bool->oP R} {r:R},Q3U g ks xs ys k=some r->∃ bs,k bs=some r/\bs.length=ks.length/\xs.length=ks.length/\ys.length=ks.length /\
  (g=true->∀ (β:Nat->oP Nat) (S:Nat->Prop) (h:Nat->oP Ob) (w:World) (tm:Nat->Value) (us vs:Nat->Value),(∀ (i:Nat) (x:AV),xs[i]? = some x->RdA β S h w tm (us i) x)->(∀ (i:Nat) (x:AV),ys[i]? = some x->RdA β S h w tm (vs i) x) ->
   ∀ (j:Nat) (kd:Kd) (b:Bool),ks[j]? = some kd->bs[j]? = some b->CEq kd (us j) (vs j) b)
 |[],[],[],k,r,h=>⟨[],h,rfl,rfl,rfl,fun _ _ _ _ _ _ _ _ _ _ j kd b hj=>by simp at hj⟩
 |kd::ks,x::xs,y::ys,k,r,h=>by
  cases x with
  |d a=>
   cases y with
   |d b=>
    have an:∀ (c:Bool),Q3U g ks xs ys (fun r=>k (c::r))=some r->(g=true->∀ (β:Nat->oP Nat) (S:Nat->Prop) (h:Nat->oP Ob) (w:World) (tm:Nat->Value) (u v:Value),RdA β S h w tm u (.d a)->RdA β S h w tm v (.d b)->CEq kd u v c) ->
      ∃ bs,k bs=some r/\bs.length=(kd::ks).length/\(AV.d a::xs).length=(kd::ks).length/\(AV.d b::ys).length=(kd::ks).length /\
      (g=true->∀ (β:Nat->oP Nat) (S:Nat->Prop) (h:Nat->oP Ob) (w:World) (tm:Nat->Value) (us vs:Nat->Value),(∀ (i:Nat) (x:AV),(AV.d a::xs)[i]? = some x->RdA β S h w tm (us i) x)->(∀ (i:Nat) (x:AV),(AV.d b::ys)[i]? = some x->RdA β S h w tm (vs i) x) ->
       ∀ (j:Nat) (al:Kd) (b:Bool),(kd::ks)[j]? = some al->bs[j]? = some b->CEq al (us j) (vs j) b):=by
     intro c hc hq;obtain ⟨bs,h1,h2,h3,h4,h5⟩:=CW hc;refine ⟨c::bs,h1,by simp [h2],by simp [h3],by simp [h4],fun hg β S hh w tm us vs hu hv j al b' hj hb=>?_⟩;cases j with
     |zero=>simp at hj hb;subst hj hb;exact hq hg β S hh w tm _ _ (hu 0 _ rfl) (hv 0 _ rfl)
     |succ j=>exact h5 hg β S hh w tm (fun i=>us (i+1)) (fun i=>vs (i+1)) (fun i x hx=>hu (i+1) x QnO) (fun i x hx=>hv (i+1) x (by simpa using hx)) j al b' (by simpa using hj) (by simpa using hb)
    cases kd with
    |int ik=>
     simp only [Q3U] at h;obtain ⟨m,h,hm⟩:=QO h;obtain ⟨n,h,hn⟩:=QO h;refine an _ h fun hg β S hh w tm u v hu hv=>?_
     rw [LM (hm hg)] at hu;rw [LM (hn hg)] at hv;exact ⟨m,n,hu.int_inv,hv.int_inv,rfl⟩
    |bool=>
     simp only [Q3U] at h;obtain ⟨m,h,hm⟩:=QO h;obtain ⟨n,h,hn⟩:=QO h;refine an _ h fun hg β S hh w tm u v hu hv=>?_
     rw [NM (hm hg)] at hu;rw [NM (hn hg)] at hv;exact ⟨m,n,hu.bool_inv,hv.bool_inv,rfl⟩
    |str=>
     simp only [Q3U] at h;obtain ⟨m,h,hm⟩:=QO h;obtain ⟨n,h,hn⟩:=QO h;refine an _ h fun hg β S hh w tm u v hu hv=>?_
     rw [Lx (hm hg)] at hu;rw [Lx (hn hg)] at hv;obtain ⟨s,rfl,rfl⟩:=hu.str_inv;obtain ⟨t,rfl,rfl⟩:=hv.str_inv;exact ⟨s,t,rfl,rfl,rfl⟩
    |_=>simp [Q3U] at h
   |_=>simp [Q3U] at h
  |_=>simp [Q3U] at h
 |[],[],_::_,k,r,h=>by simp [Q3U] at h
 |[],_::_,_,k,r,h=>by simp [Q3U] at h
 |_::_,[],_,k,r,h=>by simp [Q3U] at h
 |_::_,_::_,[],k,r,h=>by simp [Q3U] at h
theorem Qac {op:BinOp} {t t':TypeId} {x y:Operand} (ho:o.op = .binOp op t x y t') {g:Bool} {k:Dl->oP R} {r:R} {a0 b0:List UInt8} (aq:ev x = .d (.str a0)) (al:ev y = .d (.str b0))
  (h:Qhm g op a0 b0 (fun v=>k ⟨v,[],[]⟩)=some r):∃ dl,k dl=some r/\(g=true->Ge P E o ev hl dl):=by
 have ao:x∈o.op.operands.toList:=by grind [Op.operands]
 have an:y∈o.op.operands.toList:=by simp [ho,Op.operands]
 have ac:∀ (d:D) (v:ByteArray->ByteArray->Value),k ⟨.d d,[],[]⟩=some r->(g=true->∀ (s u:ByteArray) (w:World) (S:Nat->Prop),s.data.toList=a0->u.data.toList=b0->(Op.stringOp op s u).run P w = .ok (v s u) w/\Rd S w (v s u) d)->∃ dl,k dl=some r/\(g=true->Ge P E o ev hl dl):=by
  intro d v hk hr;refine ⟨_,hk,fun hg=>Qk fun β S st a w hR hO hA=>?_⟩;obtain ⟨s,hs,hx⟩:=(aq▸hO.at ao).str_inv;obtain ⟨u,hu,hy⟩:=(al▸hO.at an).str_inv;obtain ⟨h1,h2⟩:=hr hg s u w S hs.symm hu.symm;refine ⟨_,Ej ho hx hy (CA ..) ?_,.d _ _ h2⟩
  grind [binOp,Op.stringOp]
 cases op <;> simp only [Qhm,reduceCtorEq] at h
 ·obtain ⟨_,h,hp⟩:=QO h;refine ac _ (fun s u=>.string (s++u)) h fun hg s u w S hs hu=>⟨?_,?_⟩
  ·have hp:=hp hg;unfold Q8U at hp;cases hb:Nat.ble (a0.length+b0.length) 9223372036854775807 with
   |false=>simp_all
   |true=>
    have:=Qo3 hb;refine run_string_add_sum w s u ?_;rw [<- hs,<- hu,Qo5,Qo5] at this;exact this
  ·have:(s++u).data.toList=a0++b0:=by simp_all
   rw [<- this];exact .str _
 ·exact ac _ (fun s u=>.bool (s.toList == u.toList)) h fun hg s u w S hs hu=>⟨by rfl,by rw [QnZ,QnZ,hs,hu];exact .bool _⟩
 ·exact ac _ (fun s u=>.bool (!(s.toList == u.toList))) h fun hg s u w S hs hu=>⟨by simp [Op.stringOp],by rw [QnZ,QnZ,hs,hu];exact .bool _⟩
 ·exact ac _ (fun s u=>.bool (Op.bytesLess s.toList u.toList)) h fun hg s u w S hs hu=>⟨by simp [Op.stringOp],by rw [QnZ,QnZ,hs,hu];exact .bool _⟩
 ·exact ac _ (fun s u=>.bool (Op.bytesLess s.toList u.toList||s.toList == u.toList)) h fun hg s u w S hs hu=>⟨by simp [Op.stringOp],by rw [QnZ,QnZ,hs,hu];exact .bool _⟩
 ·exact ac _ (fun s u=>.bool (!(Op.bytesLess s.toList u.toList||s.toList == u.toList))) h fun hg s u w S hs hu=>⟨by simp [Op.stringOp],by rw [QnZ,QnZ,hs,hu];exact .bool _⟩
 ·exact ac _ (fun s u=>.bool (!Op.bytesLess s.toList u.toList)) h fun hg s u w S hs hu=>⟨by simp [Op.stringOp],by rw [QnZ,QnZ,hs,hu];exact .bool _⟩
theorem QaB (hT:TOk P tt) {op:BinOp} {t t':TypeId} {x y:Operand} (ho:o.op = .binOp op t x y t') {g:Bool} {k:Dl->oP R} {r:R}
  (h:QhV g op (Tt tt t) (Qd7 tt t) (ev x) (ev y) (fun v=>k ⟨v,[],[]⟩)=some r):∃ dl,k dl=some r/\(g=true->Ge P E o ev hl dl):=by
 have ar:x∈o.op.operands.toList:=by grind [Op.operands]
 have aq:y∈o.op.operands.toList:=by simp [ho,Op.operands]
 unfold QhV at h;split at h
 ·rename_i ka a0 kb b0 aj ac;have al:∀ (d:Int),k ⟨.d (.int ka d),[],[]⟩=some r->(g=true->∀ w:World,(binOp op t (.int ka a0) (.int kb b0)).run P w = .ok (.int ka d) w)->∃ dl,k dl=some r/\(g=true->Ge P E o ev hl dl):=by
   intro d hk hr;refine ⟨_,hk,fun hg=>Qk fun β S st a w hR hO hA=>?_⟩;have hx:=(aj▸hO.at ar).int_inv;have hy:=(ac▸hO.at aq).int_inv;exact ⟨_,Ej ho hx hy (Ry ..) (hr hg w),.d _ _ (.int _ _)⟩
  have a7:∀ {u:Unit},B9 b0=some u->0<=b0:=by
   grind [B9]
  split at h
  ·obtain ⟨_,h,hp⟩:=QO h;refine al _ h fun hg w=>?_
   have h0:=a7 (hp hg);have:¬ b0<0:=QnI
   simp [binOp,Op.shift,this,shL]
  ·obtain ⟨_,h,hp⟩:=QO h;refine al _ h fun hg w=>?_
   have h0:=a7 (hp hg);have:¬ b0<0:=QnI
   simp [binOp,Op.shift,this,shR]
  ·rename_i bn bi;cases hk:(ka == kb) with
   |false=>simp [hk] at h
   |true=>
    obtain rfl:ka=kb:=by simpa using hk
    simp only [hk,QnW] at h;split at h
    ·obtain ⟨_,h,hp⟩:=QO h;refine al _ h fun hg w=>?_
     have a1:¬ b0=0:=by
      intro e;subst e;simp [nz] at hp;exact absurd hp (by simp [hg])
     simp [binOp,Op.intDiv,a1]
    ·obtain ⟨_,h,hp⟩:=QO h;refine al _ h fun hg w=>?_
     have a1:¬ b0=0:=by
      intro e;subst e;simp [nz] at hp;exact absurd hp (by simp [hg])
     simp [binOp,Op.intDiv,a1]
    ·exact al _ h fun hg w=>by simp [binOp,Op.intBits,Q6a]
    ·exact al _ h fun hg w=>by simp [binOp,Op.intBits,bOr]
    ·exact al _ h fun hg w=>by simp [binOp,Op.intBits,Qh5]
    ·exact al _ h fun hg w=>by simp [binOp,Op.intBits,Q7J]
    ·split at h
     ·rename_i d hd;refine ⟨_,h,fun hg=>Qk fun β S st a w hR hO hA=>?_⟩;have hx:=(aj▸hO.at ar).int_inv;have hy:=(ac▸hO.at aq).int_inv;obtain ⟨v,hv,hr⟩:=Q7o (P:=P) hd t w S;exact ⟨v,Ej ho hx hy (Ry ..) hv,.d _ _ hr⟩
     ·cases h
 ·rename_i a0 b0 aj ac;split at h
  ·rename_i az;obtain ⟨ti,an,au⟩:=Xq az QnK;have hu:=(hT t ti an).kbool au;refine ⟨_,h,fun hg=>Qk fun β S st a w hR hO hA=>?_⟩;have hx:=(aj▸hO.at ar).bool_inv;have hy:=(ac▸hO.at aq).bool_inv;exact ⟨.bool (a0 == b0),Ej ho hx hy (R3 ..) (Q2A hu ..),.d _ _ (.bool _)⟩
  ·rename_i az;obtain ⟨ti,an,au⟩:=Xq az QnK;have hu:=(hT t ti an).kbool au;refine ⟨_,h,fun hg=>Qk fun β S st a w hR hO hA=>?_⟩;have hx:=(aj▸hO.at ar).bool_inv;have hy:=(ac▸hO.at aq).bool_inv;exact ⟨.bool (!(a0 == b0)),Ej ho hx hy (R3 ..) (Q3P hu ..),.d _ _ (.bool _)⟩
  ·cases h
 ·rename_i a0 b0 aj ac;exact Qac ho aj ac h
 ·rename_i xs ys aj ac;split at h
  case h_2=>cases h
  rename_i ks ay;obtain ⟨ti,an,ba⟩:∃ ti,look tt t=some ti/\ti.eqk=some ks:=by
   unfold Qd7 at ay;split at ay
   ·rename_i ti an;exact ⟨ti,an,ay⟩
   ·cases ay
  have hE:=(hT t ti an).keq ks ba;have a6:∀ (c:Bool->Bool) (bs:List Bool),k ⟨.d (.bool (c (Qah bs))),[],[]⟩=some r->bs.length=ks.length->xs.length=ks.length->ys.length=ks.length ->
    (∀ (u v:Array Value) (w:World) (b:Bool),(Op.equalIn 10000 t (.agg u) (.agg v)).run P w = .ok b w->(binOp op t (.agg u) (.agg v)).run P w = .ok (.bool (c b)) w) ->
    (g=true->∀ (β:Nat->oP Nat) (S:Nat->Prop) (h:Nat->oP Ob) (w:World) (tm:Nat->Value) (us vs:Nat->Value),(∀ (i:Nat) (x:AV),xs[i]? = some x->RdA β S h w tm (us i) x)->(∀ (i:Nat) (x:AV),ys[i]? = some x->RdA β S h w tm (vs i) x) ->
     ∀ (j:Nat) (kd:Kd) (b:Bool),ks[j]? = some kd->bs[j]? = some b->CEq kd (us j) (vs j) b)->∃ dl,k dl=some r/\(g=true->Ge P E o ev hl dl):=by
   intro c bs hk h2 h3 h4 a5 h5;refine ⟨_,hk,fun hg=>Qk fun β S st a w hR hO hA=>?_⟩;obtain ⟨us,hx,bp,bc⟩:=(aj▸hO.at ar).ag_inv;obtain ⟨vs,hy,bl,a9⟩:=(ac▸hO.at aq).ag_inv;obtain ⟨e1,e2⟩:=hE w us vs bs QnI QnI h2 (h5 hg β S _ w _ (fun j=>us.getD j undef) (fun j=>vs.getD j undef) bc a9);refine ⟨.bool (c (Qah bs)),Ej ho hx hy (run_eqGuard_agg w op t x y us vs e2) ?_,.d _ _ (.bool _)⟩;rw [Q6r];exact a5 us vs w _ e1
  split at h
  ·obtain ⟨bs,h1,h2,h3,h4,h5⟩:=CW h;exact a6 (fun b=>b) bs h1 h2 h3 h4 (fun u v w b hb=>by rw [run_eql_struct,hb];rfl) h5
  ·obtain ⟨bs,h1,h2,h3,h4,h5⟩:=CW h;exact a6 (fun b=>!b) bs h1 h2 h3 h4 (fun u v w b hb=>by rw [run_neq_struct,hb];rfl) h5
  ·cases h
 ·cases h
theorem Q3V (hT:TOk P tt) {s t:TypeId} (ho:o.op = .convert s t x) {ks kd kn:IntKind} {n:Int}
  (hs:Tt tt s = .int ks) (ht:Tt tt t = .int kd) (hx:ev x = .d (.int kn n)):Ge P E o ev hl ⟨.d (.int kd (kd.wrap n)),[],[]⟩:=by
 obtain ⟨ti,an,al⟩:=Xq hs QnK;obtain ⟨ak,aj,ac⟩:=Xq ht QnK;have aw:=(hT s ti an).kint _ al;have au:=(hT t ak aj).kint _ ac;refine Qk fun β S st a w hR hO hA=>?_
 have hv:=(hx▸hO.at (x:=x) (by simp [ho,Op.operands])).int_inv;refine ⟨_,?_,.d _ _ (.int _ _)⟩
 simp_all [execOp,convert,QA,Conv.intToInt]
theorem Q1G (hT:TOk P tt) {s t:TypeId} (ho:o.op = .convert s t x) {n:List UInt8}
  (hs:Tt tt s = .str) (ht:Tt tt t = .str) (hx:ev x = .d (.str n)):Ge P E o ev hl ⟨.d (.str n),[],[]⟩:=by
 obtain ⟨ti,an,al⟩:=Xq hs QnK;obtain ⟨ak,aj,ac⟩:=Xq ht QnK;have ar:=(hT s ti an).kstr al;have aq:=(hT t ak aj).kstr ac;refine Qk fun β S st a w hR hO hA=>?_
 obtain ⟨bs,hn,hv⟩:=(hx▸hO.at (x:=x) (by simp [ho,Op.operands])).str_inv;refine ⟨.string bs,?_,.d _ _ (by rw [hn];exact .str _)⟩
 simp_all [execOp,convert,QA]
theorem Q2V {i:Nat} (ho:o.op = .extract x i) {l:List AV} {v:AV} (hx:ev x = .tup l) (hv:l[i]? = some v) :
  Ge P E o ev hl ⟨v,[],[]⟩:=by
 refine Qk fun β S st a w hR hO hA=>?_
 obtain ⟨cs,he,ak,hr⟩:=(hx▸hO.at (x:=x) (by grind [Op.operands])).tup_inv;refine ⟨_,?_,hr i v hv⟩;have ac:i<cs.size:=by
  grind
 simp_all [KY,execOp,Instr.extract,QnV]
theorem Q7R {s:Nat} {x y:Operand} (ho:o.op = .pick (.tmp s) x y) {e a0 b0:Bool}
  (he:ev (.tmp s) = .d (.bool e)) (hx:unw [(s,true)] (ev x) = .d (.bool a0)) (hy:unw [(s,false)] (ev y) = .d (.bool b0)) :
  Ge P E o ev hl ⟨.d (.bool (bif e then a0 else b0)),[],[]⟩:=by
 refine Qk fun β S st a w hR hO hA=>?_
 have hc:=(he▸hO.at (x:=.tmp s) (by grind [Op.operands])).bool_inv;have hX:=hO.at (x:=x) (by simp [ho,Op.operands]);have hY:=hO.at (x:=y) (by simp [ho,Op.operands]);have aj:∀ (z:Operand) (t c:Bool),unw [(s,t)] (ev z) = .d (.bool c)->RdA β S (look st.h) w (tmv a) (a.eval z) (ev z)->e=t->a.eval z = .bool c:=by
  intro z t c hu hz aw;cases ac:ev z with
  |gd s' w' av=>
   rw [ac] at hu hz;simp only [unw,QdC,Bool.or_false] at hu;cases hm:(Nat.beq s s'&&(t == w')) with
   |false=>simp_all
   |true=>
    simp only [hm,QnW] at hu;simp only [QnT,beq_iff_eq] at hm;obtain ⟨h1,rfl⟩:=hm;obtain rfl:=QnU h1;subst hu;have az:tmv a s = .bool t:=by
     have:tmv a s=a.eval (.tmp s):=rfl
     simp_all
    rcases hz.gd_inv with ⟨_,hv⟩ | ⟨ao,_⟩
    ·exact hv.bool_inv
    simp_all
  |d x'=>rw [ac] at hu hz;simp only [unw] at hu;rw [hu] at hz;exact hz.bool_inv
  |_=>rw [ac] at hu;simp [unw] at hu
 refine ⟨.bool (bif e then a0 else b0),?_,.d _ _ (.bool _)⟩;unfold execOp;rw [ho];cases e with
 |true=>simp [hc,asBool,aj x true a0 hx hX rfl]
 |false=>simp [hc,asBool,aj y false b0 hy hY rfl]
theorem Q83 {kd:Kd} (h:SE kd=true):kd = .struct:=by cases kd <;> simp [SE] at h;rfl
theorem Q5r (hT:TOk P tt) {t f off ft:Nat} {ti:TyI} (aj:look tt t=some ti) (hs:SE ti.kd=true) (hf:ti.fields[f]? = some (off,ft)) :
  ∃ fs fd,P.underlying t=some (.struct fs)/\fs[f]? = some fd/\fd.offset=off/\fd.type=ft/\∃ i,P.info? fd.type=some i/\i.size≠0:=by
 obtain ⟨fs,hu,ak,an⟩:=(hT t ti aj).kstruct (Q83 hs);rw [<- ak,Qo2,QnX] at hf;obtain ⟨fd,al,he⟩:=hf;injection he with he1 he2
 exact ⟨fs,fd,hu,by simp_all,he1,he2,an fd (Qo0 al)⟩
theorem Ad (hT:TOk P tt) {f:Nat} (ho:o.op = .fieldAddr t x f) {k:Dl->oP R} {r:R}
  (h:Et tt hl t f (ev x) k=some r):∃ dl,k dl=some r/\Ge P E o ev hl dl:=by
 have ak:x∈o.op.operands.toList:=by grind [Op.operands]
 unfold Et at h;split at h
 case h_2=>cases h
 rename_i ti aq;cases hs:SE ti.kd with
 |false=>simp_all
 |true=>
  simp only [hs,QnW] at h;split at h
  case h_2=>cases h
  rename_i off ft hf;obtain ⟨fs,fd,hu,ay,ar,_,i,hi,au⟩:=Q5r hT aq hs hf;have aj:∀ (a:Act) (w:World) (ad:Addr),a.eval x = .pointer (some ad)->(execOp a.eval o).run P w = .ok (.value (.pointer (some (ad.add off)))) w:=by
   simp_all [execOp,Instr.fieldAt,QA,Instr.sureAddr,fieldPlace,sizeOf,Yd]
  split at h
  ·rename_i l o' ac;refine ⟨_,h,Qk fun β S st a w hR hO hA=>?_⟩;obtain ⟨b,hb,hx⟩:=(ac▸hO.at ak).ptr_inv;exact ⟨_,aj a w _ hx,by rw [JJ];exact .ptr _ _ _ hb⟩
  ·rename_i row o' ac;refine ⟨_,h,Qk fun β S st a w hR hO hA=>?_⟩;obtain ⟨ad,c,hx,hS,hc,hr⟩:=(ac▸hO.at ak).el_inv;refine ⟨_,aj a w _ hx,.el _ _ _ (fun j=>c (off+j)) (by rw [Jc];exact hS) (fun j y hy=>?_) (fun j y hy=>?_)⟩
   all_goals grind [Cz,Nat.add_assoc]
  ·rename_i l i' o' ac;split at h
   ·rename_i e s rows an;refine ⟨_,h,Qk fun β S st a w hR hO hA=>?_⟩;have ao:look st.h l=some (.arr e s rows):=by rw [hA l (.inl QnK)];exact an
    obtain ⟨b,hb,hx⟩:=RdA.ap_inv ao (ac▸hO.at ak);exact ⟨_,aj a w _ hx,by rw [JJ,Qom];exact .ap _ _ _ _ _ _ _ hb ao⟩
   ·cases h
  ·cases h
theorem Q2a {t:Nat} {ti:TyI} (ht:TyOk P t ti) (hs:UQ ti.kd=false) {cs:Array Value} {off:Nat} {v:Value} (hc:cs[off]? = some v) :
  (part t cs off).run P w = .ok v w:=by
 simp only [part,QnV,ht.agg,hs,QnR,Bool.false_eq_true,if_false,hc];rfl
theorem Q2d {t:Nat} {ti:TyI} (ht:TyOk P t ti) (hs:UQ ti.kd=true) {cs:Array Value} {off:Nat} :
  (part t cs off).run P w = .ok (.agg (cs.extract off (off+ti.size))) w:=by
 simp only [part,QnV,ht.agg,hs,QnR,if_true,ht.size];rfl
theorem Q7e (hT:TOk P tt) {f:Nat} (ho:o.op = .field t x f) {g:Bool} {k:Dl->oP R} {r:R}
  (h:Q9E tt g t f (ev x) k=some r):∃ dl,k dl=some r/\(g=true->Ge P E o ev hl dl):=by
 have an:x∈o.op.operands.toList:=by grind [Op.operands]
 unfold Q9E at h;split at h
 case h_2=>cases h
 rename_i ti a1;cases hs:SE ti.kd with
 |false=>simp_all
 |true=>
  simp only [hs,QnW] at h;split at h
  case h_2=>cases h
  rename_i off ft hf;obtain ⟨fs,fd,hu,bh,a8,bg,i,hi,a9⟩:=Q5r hT a1 hs hf;split at h
  case h_2=>cases h
  rename_i fi a3;have ak:=hT ft fi a3;split at h
  case h_2=>cases h
  rename_i cells aq;have al:∀ (a:Act) (w:World) (cs:Array Value) (v:Value),a.eval x = .agg cs->(part ft cs off).run P w = .ok v w->(execOp a.eval o).run P w = .ok (.value v) w:=by
   simp_all [execOp,Instr.field,QA,asAgg]
  cases aj:UQ fi.kd with
  |true=>
   simp only [aj,QnW] at h;split at h
   ·rename_i cs a2;refine ⟨_,h,fun _=>Qk fun β S st a w hR hO hA=>?_⟩;obtain ⟨vs,hx,ay,hr⟩:=(aq▸hO.at an).ag_inv;obtain ⟨h1,h2,h3⟩:=SS a2;refine ⟨_,al a w vs _ hx (Q2d ak aj),?_⟩;have au:fi.size=0\/off+fi.size<=vs.size:=by
     rcases Nat.eq_zero_or_pos fi.size with h0 | h0
     ·exact .inl h0
     ·right;have h4:=h2 (fi.size-1) QnI;have h5:cs[fi.size-1]? = some (cs[fi.size-1]'QnI):=Qo7 QnI;rw [h5] at h4;obtain ⟨h6,_⟩:=QnS.1 h4;omega
    refine .ag _ _ (by rw [h1,Array.size_extract];rcases au with h | h <;> omega) fun j y hy=>?_
    have hj:j<fi.size:=by obtain ⟨h6,_⟩:=QnS.1 hy;omega
    have:=hr (off+j) y ((h2 j hj).trans hy);have he:(vs.extract off (off+fi.size)).getD j undef=vs.getD (off+j) undef:=by
     have ao:off+j<vs.size:=by rcases au with h | h <;> omega
     have ar:j<(vs.extract off (off+fi.size)).size:=by rw [Array.size_extract];omega
     simp only [Array.getD,ao,ar,dite_true];simp
    simp_all
   ·cases h
  |false=>
   simp only [aj,cond_false] at h;split at h
   ·rename_i c hc;obtain ⟨v,az,aw,_⟩:=C7 h;refine ⟨_,az,fun hg=>Qk fun β S st a w hR hO hA=>?_⟩;obtain ⟨vs,hx,ay,hr⟩:=(aq▸hO.at an).ag_inv;have ao:off<vs.size:=by obtain ⟨h6,_⟩:=QnS.1 hc;omega
    exact ⟨_,al a w vs _ hx (Q2a ak aj (KY ao)),by rw [aw hg];exact hr off c hc⟩
   ·cases h
end
end Go.Vx
namespace Go.Vx
variable {w:World} {o:Oper} {a:Act} {tt:TT} {x:Operand}
section
variable {P:Program} {E:Env} {R:Type}
theorem Rd.sl_inv {S:Nat->Prop} {v:Value} {s:Nat} {rows:List (List D)} (h:Rd S w v (.sl s rows)) :
  (rows=[]/\∃ a cap,v = .slice a 0 cap)\/∃ (ad:Addr) (cap:Nat) (c:Nat->Nat->Value),v = .slice (some ad) rows.length cap/\S ad.block/\rows.length<=cap/\(∀ (i:Nat) (r:List D),rows[i]? = some r->r.length=s) /\
   (∀ (i j:Nat) (r:List D) (x:D),rows[i]? = some r->r[j]? = some x->w.cell? (ad.add (i*s+j))=some (c i j))/\∀ (i j:Nat) (r:List D) (x:D),rows[i]? = some r->r[j]? = some x->Rd S w (c i j) x:=by
 cases h with
 |sl0 a cap=>simp_all
 |sl ad cap _ _ c hS ac aj hc hr=>exact .inr ⟨ad,cap,c,rfl,hS,ac,aj,hc,hr⟩
theorem Rd.len {S:Nat->Prop} {v:Value} {s:Nat} {rows:List (List D)} (h:Rd S w v (.sl s rows)):∃ a cap,v = .slice a rows.length cap:=by
 rcases h.sl_inv with ⟨rfl,a,cap,rfl⟩ | ⟨ad,cap,_,rfl,_⟩
 all_goals simp
theorem Fx {rows:List (List D)} {n:Int} {row:List D} (h:Q1 rows n=some row):0<=n/\n<rows.length/\rows[n.toNat]? = some row:=by
 grind [Q1]
theorem Q65 {len:Nat} {n:Int} {u:Unit} (h:inB len n=some u):0<=n/\n<len:=by
 grind [inB,decide]
theorem Fp (hT:TOk P tt) {t:TypeId} {x i:Operand} (ho:o.op = .indexAddr t x i) {e ac:Nat} (hk:Tt tt t = .sl e ac) {ad:Addr} {len cap:Nat} {ik:IntKind} {n:Int}
  (hx:a.eval x = .slice (some ad) len cap) (hi:a.eval i = .int ik n) (h0:0<=n) (h1:n<len) :
  (execOp a.eval o).run P w = .ok (.value (.pointer (some (ad.add (n.toNat*ac))))) w:=by
 obtain ⟨ti,ak,aj⟩:=Xq hk QnK;obtain ⟨hu,_,inf,al,ao⟩:=(hT t ti ak).ksl _ _ aj
 simp_all [execOp,Instr.indexAt,asIntOf,QA,sizeOf,Yd]
theorem Af (hT:TOk P tt) {t:TypeId} {x i:Operand} (ho:o.op = .indexAddr t x i) {g:Bool} {ev:Operand->AV} {hl:Nat->oP Ob} {k:Dl->oP R} {r:R}
  (h:Ed tt g hl t (ev x) (ev i) k=some r):∃ dl,k dl=some r/\(g=true->Ge P E o ev hl dl):=by
 have al:x∈o.op.operands.toList:=by grind [Op.operands]
 have aq:i∈o.op.operands.toList:=by simp [ho,Op.operands]
 unfold Ed at h;split at h
 case h_2=>cases h
 rename_i e aw ik n hk au;split at h
 ·rename_i s rows aj;cases hb:Nat.beq s aw with
  |false=>simp_all
  |true=>
   obtain rfl:=QnU hb;simp only [hb,QnW] at h;obtain ⟨row,h,ac⟩:=QO h;refine ⟨_,h,fun hg=>Qk fun β S st a w hR hO hA=>?_⟩;obtain ⟨h0,h1,h2⟩:=Fx (ac hg);have hi:=(au▸hO.at aq).int_inv;rcases (aj▸hO.at al).d_inv.sl_inv with ⟨rfl,_⟩ | ⟨ad,cap,c,hx,hS,_,az,hc,hr⟩
   ·simp at h2
   refine ⟨_,Fp hT ho hk hx hi h0 h1,.el _ _ _ (fun j=>c n.toNat j) (by grind [Jc]) (fun j y hy=>?_) (fun j y hy=>?_)⟩
   all_goals grind [Cz]
 ·rename_i l aj;split at h
  ·rename_i e' s rows ao;cases hb:Nat.beq s aw with
   |false=>simp [hb] at h
   |true=>
    obtain rfl:=QnU hb;simp only [hb,QnW] at h;obtain ⟨u,h,ax⟩:=QO h;refine ⟨_,h,fun hg=>Qk fun β S st a w hR hO hA=>?_⟩;obtain ⟨h0,h1⟩:=Q65 (ax hg);have hi:=(au▸hO.at aq).int_inv;have ar:look st.h l=some (.arr e' s rows):=by rw [hA l (.inl QnK)];exact ao
    rcases RdA.arr_inv ar (aj▸hO.at al) with ⟨_,rfl,_⟩ | ⟨b,cap,cs,ty,fz,ay,hx,_⟩
    ·grind
    refine ⟨_,Fp hT ho hk hx hi h0 h1,?_⟩;rw [JJ,Nat.zero_add];exact .ap l n.toNat 0 b e' s rows ay ar
  ·cases h
 ·obtain ⟨row,h,ac⟩:=QO h;refine ⟨_,h,fun hg=>?_⟩;obtain ⟨_,h1,_⟩:=Fx (ac hg);simp at h1;have:=(Fx (ac hg)).1;omega
 ·cases h
theorem Hr (hT:TOk P tt) {c:Call} {t:Nat} {e ak:Nat} (ho:o.op = .call c) (hc:c.callee = .builtin .len) (ha:c.args.toList=[x]) (hat:c.argTypes.toList=[t]) (hk:Tt tt t = .sl e ak)
  {ad:oP Addr} {len cap:Nat} (hx:a.eval x = .slice ad len cap):(execOp a.eval o).run P w = .ok (.value (.int .i64 len)) w:=by
 obtain ⟨ti,aj,ac⟩:=Xq hk QnK;obtain ⟨hu,_⟩:=(hT t ti aj).ksl _ _ ac;have ao:c.args = #[x]:=by grind
 have al:c.argTypes = #[t]:=by rw [<- Array.toList_inj];simpa using hat
 simp_all [execOp,resolve,invoke,builtin,Builtin.len_,QA,goInt]
theorem Q4y (hT:TOk P tt) {c:Call} {t:Nat} (ho:o.op = .call c) (hc:c.callee = .builtin .len) (ha:c.args.toList=[x]) (hat:c.argTypes.toList=[t]) (hk:Tt tt t = .str)
  {s:ByteArray} (hx:a.eval x = .string s):(execOp a.eval o).run P w = .ok (.value (.int .i64 s.size)) w:=by
 obtain ⟨ti,aj,ac⟩:=Xq hk QnK;have hu:=(hT t ti aj).kstr ac;have al:c.args = #[x]:=by grind
 have ak:c.argTypes = #[t]:=by grind
 simp_all [execOp,resolve,invoke,builtin,Builtin.len_,QA,goInt]
theorem Q4H (hT:TOk P tt) {c:Call} {t:Nat} {e ak:Nat} (ho:o.op = .call c) (hc:c.callee = .builtin .cap) (ha:c.args.toList=[x]) (hat:c.argTypes.toList=[t]) (hk:Tt tt t = .sl e ak)
  (hx:a.eval x = .slice none 0 0):(execOp a.eval o).run P w = .ok (.value (.int .i64 0)) w:=by
 obtain ⟨ti,aj,ac⟩:=Xq hk QnK;obtain ⟨hu,_⟩:=(hT t ti aj).ksl _ _ ac;have an:c.args = #[x]:=by grind
 have al:c.argTypes = #[t]:=by grind
 simp_all [execOp,resolve,invoke,builtin,Builtin.cap_,QA,goInt]
end
end Go.Vx
namespace Go.Vx
section
variable {E:Env} {β β':Nat->oP Nat} {S S':Nat->Prop} {st:St} {a:Act} {w w':World}
theorem Q8s {l t:Nat} {tm:List (Nat×AV)} {av:AV} (h:look tm t=some av) (hn:Z3 l av=true):By l tm=true:=by
 induction tm with
 |nil=>trivial
 |cons x r ih=>
  grind [look,Nat.beq,By]
theorem Q7O {l t:Nat} {hs:List (Nat×Ob)} {cells:List AV} (h:look hs t=some (.box cells)) (hn:Je l cells=true):VW l hs=true:=by
 induction hs with
 |nil=>trivial
 |cons x r ih=>
  obtain ⟨k,b⟩:=x;simp only [look] at h;cases hk:Nat.beq k t with
  |true=>grind [VW]
  |false=>simp [hk] at h;cases b <;> simp [VW,ih h]
theorem Q6g {l t:Nat} {av:AV} (hc:Uc st l=true) (h:look st.tm t=some av):Z3 l av=false:=by
 grind [Z3,Uc,Q8s]
theorem Q9j {l t i:Nat} {cells:List AV} {x:AV} (hc:Uc st l=true) (h:look st.h t=some (.box cells)) (hx:cells[i]? = some x):Z3 l x=false:=by
 grind [Z3,Uc,Q7O,PB]
theorem Keep.rfl_ (β:Nat->oP Nat) (h:Nat->oP Ob) (w:World) (l:Nat):Keep β h w β h w l:=
 ⟨rfl,fun x=>x,fun _ _ rows hh=>.inr ⟨rows,hh,rfl⟩,fun _ cs ty fz _ _ hw=>⟨cs,ty,fz,hw,rfl⟩,fun _ f hh=>.inr ⟨f,hh⟩⟩
theorem Rel.upd (hR:Rel E β S st a w) {H':List (Nat×Ob)} (ak:∀ b,S b->S' b) (an:∀ b,S b->w'.heap[b]? = w.heap[b]?) (T:Nat->Prop)
  (hT:∀ l,¬ T l->β' l=β l/\look H' l=look st.h l/\∀ b,(look st.h l).isSome=true->β l=some b->w'.heap[b]? = w.heap[b]?)
  (aw:∀ l,T l->Keep β (look st.h) w β' (look H') w' l\/Uc st l=true)
  (a3:∀ l o,T l->look H' l=some o->ObR β' S' (look H') w' l o)
  (inj:∀ l l' b,(look H' l).isSome=true->(look H' l').isSome=true->β' l=some b->β' l'=some b->l=l')
  (apart:∀ l b,(look H' l).isSome=true->β' l=some b->¬ S' b)
  (own:∀ l b,(look H' l).isSome=true->β' l=some b->E.M b\/E.w0.heap.size<=b)
  (sb:∀ b,S' b->b<w'.heap.size) (sfr:∀ b,S' b->E.S0 b\/E.M b\/E.w0.heap.size<=b) (fr:Fr E.M E.w0 w') :
  Rel E β' S' ⟨st.n,st.tm,H'⟩ a w':=by
 have ac:∀ l,Keep β (look st.h) w β' (look H') w' l\/Uc st l=true:=by
  intro l;by_cases hl:T l
  ·exact aw l hl
  ·obtain ⟨h1,h2,h3⟩:=hT l hl;exact .inl ⟨h1,fun h=>by rw [h2];exact h,fun e s rows h=>.inr ⟨rows,by rw [h2];exact h,rfl⟩,fun b cs ty fz hs hb hw=>⟨cs,ty,fz,by rw [h3 b (by rw [<- h2];exact hs) hb];exact hw,rfl⟩,fun _ f h=>.inr ⟨f,by rw [h2];exact h⟩⟩
 have hA:∀ (tm:Nat->Value) (v:Value) (av:AV),(∀ l,Uc st l=true->Z3 l av=false)->RdA β S (look st.h) w tm v av->RdA β' S' (look H') w' tm v av:=by
  intro tm v av hc hv;refine hv.mono ak an (fun l hn=>?_) (fun _ _=>rfl);rcases ac l with h | h
  ·exact h
  ·rw [hc l h] at hn;cases hn
 refine ⟨hR.n,hR.dfr,fun t av ht=>hA _ _ _ (fun l hc=>Q6g hc ht) (hR.tm t av ht),⟨?_,inj,apart,own,sb,sfr,fun b hb=>ak b (hR.hr.s0 b hb),fr,fun l hp=>?_,fun l b hp hs hb cs ty fz hw=>?_⟩⟩
 rotate_left
 ·refine Eq.trans ?_ (hR.hr.pin l hp);rcases ac l with h | h
  ·exact h.b
  ·simp only [Uc,QnT] at h;have:=Qo3 h.1;omega
 ·rcases ac l with h | h
  ·have au:(look st.h l).isSome=true:=by
    cases hx:look st.h l with
    |some o=>rfl
    |none=>rw [h.none_ hx] at hs;cases hs
   rw [h.b] at hb;obtain ⟨ay,az,fz1,g1,g2⟩:=hR.hr.psz l b hp au hb cs ty fz hw;obtain ⟨aq,a2,a4,g3,g4⟩:=h.cells b ay az fz1 hs hb g1;exact ⟨aq,a2,a4,g3,g4.trans g2⟩
  ·simp only [Uc,QnT] at h;have:=Qo3 h.1;omega
 intro l o ho;by_cases hl:T l
 ·exact a3 l o hl ho
 ·obtain ⟨h1,h2,h3⟩:=hT l hl;rw [h2] at ho;have aj:=hR.hr.ob l o ho;cases o with
  |box cells=>
   obtain ⟨b,ty,cs,fz,hb,hw,hf,al,hr⟩:=aj;exact ⟨b,ty,cs,fz,h1.trans hb,(h3 b (by simp [ho]) hb).trans hw,hf,al,fun i x hx=>hA _ _ _ (fun l' hc=>Q9j hc ho hx) (hr i x hx)⟩
  |arr e s rows=>
   rcases aj with ⟨hb,hn⟩ | ⟨b,cs,hb,hw,al,ax,hr⟩
   ·exact .inl ⟨h1.trans hb,hn⟩
   ·refine .inr ⟨b,cs,h1.trans hb,(h3 b (by simp [ho]) hb).trans hw,al,ax,fun i j r x h4 h5=>?_⟩;obtain ⟨v,hv,ar⟩:=hr i j r x h4 h5;exact ⟨v,hv,ar.mono ak an⟩
  |mp t f=>
   obtain ⟨b,hb,hm⟩:=aj;exact ⟨b,h1.trans hb,hm.same (h3 b (by simp [ho]) hb)⟩
theorem Hs (hR:Rel E β S st a w) {l b:Nat} (hs:(look st.h l).isSome=true) (hb:β l=some b):b<w.heap.size:=by
 cases ho:look st.h l with
 |none=>simp_all
 |some o=>
  have ac:=hR.hr.ob l o ho;have:∃ c,w.heap[b]? = some c:=by
   cases o with
   |box cells=>
    obtain ⟨b',ty,cs,fz,aj,hw,_⟩:=ac
    simp_all
   |arr e s rows=>
    rcases ac with ⟨aj,_⟩ | ⟨b',cs,aj,hw,_⟩
    all_goals grind
   |mp t f=>
    obtain ⟨b',aj,es,ak,hw,_⟩:=ac
    simp_all
  grind
theorem Yf (w:World) (o:Obj) {b:Nat} (h:b<w.heap.size):(w.alloc o).heap[b]? = w.heap[b]?:=by
 show (w.heap.push o)[b]? = _
 grind
theorem VH (w:World) (o:Obj):(w.alloc o).heap[w.heap.size]? = some o:=by
 show (w.heap.push o)[w.heap.size]? = _;simp
theorem Q6D {M:Nat->Prop} {w0 w:World} (h:Fr M w0 w) (o:Obj):Fr M w0 (w.alloc o):=
 h.trans ⟨rfl,rfl,rfl,by show w.heap.size<=(w.heap.push o).size;simp,fun b hb _=>Yf w o hb⟩
def SL (β:Nat->oP Nat) (l:Nat) (b:oP Nat):Nat->oP Nat:=fun k=>if k=l then b else β k
theorem Rel.new (hR:Rel E β S st a w) {l:Nat} {o:Ob} {ac:Obj} (hn:look st.h l=none) (hc:Uc st l=true)
  (al:ObR (SL β l (some w.heap.size)) S (look ((l,o)::rem l st.h)) (w.alloc ac) l o) :
  Rel E (SL β l (some w.heap.size)) S ⟨st.n,st.tm,(l,o)::rem l st.h⟩ a (w.alloc ac):=by
 have ak:∀ k,look ((l,o)::rem l st.h) k=if k=l then some o else look st.h k:=fun k=>Wu l k o st.h
 refine hR.upd (fun _ h=>h) (fun b hb=>Yf w ac (hR.hr.sb b hb)) (fun k=>k=l) (fun k hk=>?_) (fun k hk=>.inr (hk▸hc)) (fun k o' hk ho=>?_) ?_ ?_ ?_ ?_ hR.hr.sfr (Q6D hR.hr.fr ac)
 ·grind [SL,Yf,Hs]
 ·simp_all
 ·intro k k' b h1 h2 h3 h4;rw [ak] at h1 h2;unfold SL at h3 h4;by_cases e:k=l <;> by_cases e':k'=l
  ·rw [e,e']
  ·rw [Qo8 e] at h3;rw [Qo4 e'] at h4 h2;injection h3 with h3
   have:=Hs hR h2 h4;omega
  ·rw [Qo8 e'] at h4;rw [Qo4 e] at h3 h1;injection h4 with h4
   have:=Hs hR h1 h3;omega
  ·rw [Qo4 e] at h3 h1;rw [Qo4 e'] at h4 h2;exact hR.hr.inj k k' b h1 h2 h3 h4
 ·intro k b h1 h2 hS;rw [ak] at h1;unfold SL at h2;by_cases e:k=l
  ·rw [Qo8 e] at h2;injection h2 with h2
   have:=hR.hr.sb b hS;omega
  ·rw [Qo4 e] at h2 h1;exact hR.hr.apart k b h1 h2 hS
 ·intro k b h1 h2;rw [ak] at h1;unfold SL at h2;by_cases e:k=l
  ·rw [Qo8 e] at h2;injection h2 with h2
   right;have:=hR.hr.fr.size;omega
  ·rw [Qo4 e] at h2 h1;exact hR.hr.own k b h1 h2
 ·intro b hb;have:=hR.hr.sb b hb;simp;omega
theorem Rel.set (hR:Rel E β S st a w) {l b:Nat} {o o':Ob} (ho:look st.h l=some o) (hb:β l=some b)
  (aj:∀ k,k≠b->w'.heap[k]? = w.heap[k]?) (au:w'.os=w.os) (al:w'.tape=w.tape) (aq:w'.output=w.output) (ao:w'.heap.size=w.heap.size)
  (hk:Keep β (look st.h) w β (look ((l,o')::rem l st.h)) w' l) (a2:ObR β S (look ((l,o')::rem l st.h)) w' l o') :
  Rel E β S ⟨st.n,st.tm,(l,o')::rem l st.h⟩ a w':=by
 have a1:∀ k,look ((l,o')::rem l st.h) k=if k=l then some o' else look st.h k:=fun k=>Wu l k o' st.h
 have an:(look st.h l).isSome=true:=by simp [ho]
 have ac:∀ k,(look ((l,o')::rem l st.h) k).isSome=true->(look st.h k).isSome=true:=by
  grind
 refine hR.upd (fun _ h=>h) (fun k hS=>aj k (fun e=>?_)) (fun k=>k=l) (fun k hk=>?_) (fun k ak=>.inl (ak▸hk)) (fun k az ak aw=>?_) ?_ ?_ ?_ ?_ hR.hr.sfr ?_
 ·subst e;exact hR.hr.apart l _ an hb hS
 ·refine ⟨rfl,by simp_all,fun k' hs ar=>aj k' (fun e=>?_)⟩;subst e;exact hk (hR.hr.inj k l _ hs an ar hb)
 ·simp_all
 ·exact fun k k' b' h1 h2 h3 h4=>hR.hr.inj k k' b' (ac k h1) (ac k' h2) h3 h4
 ·exact fun k b' h1 h2=>hR.hr.apart k b' (ac k h1) h2
 ·exact fun k b' h1 h2=>hR.hr.own k b' (ac k h1) h2
 ·intro k hS;rw [ao];exact hR.hr.sb k hS
 ·have fr:=hR.hr.fr;refine ⟨au.trans fr.os,al.trans fr.tape,aq.trans fr.output,by rw [ao];exact fr.size,fun k ak hM=>(aj k (fun e=>?_)).trans (fr.block k ak hM)⟩;rcases hR.hr.own l _ an hb with h | h
  all_goals grind
end
end Go.Vx
namespace Go.Vx
variable {hl:Nat->oP Ob} {ev:Operand->AV} {β:Nat->oP Nat} {S:Nat->Prop} {w:World} {h:Nat->oP Ob} {tm:Nat->Value} {v:Value}
section
variable {P:Program} {E:Env} {R:Type}
theorem Bc (v:Value):RdA β S h w tm v (TX v):=by
 unfold TX;split
 ·exact .d _ _ (.int _ _)
 ·exact .d _ _ (.bool _)
 ·exact .d _ _ (.str _)
 ·exact .nil
 ·exact .top _
theorem Q8k {av:AV} (hv:RdA β S h w tm v av) (ho:Q25 av=true):v.oneCell'=true:=by
 cases hv <;> simp [Q25] at ho <;> try rfl
 ·rename_i hx;cases hx <;> rfl
 ·assumption
theorem EQ {av:AV} (ho:Q25 av=true):AK av=true:=by
 cases av with
 |fn f l=>assumption
 |_=>trivial
theorem Q8X (h:v.oneCell'=true):v.cells = #[v]:=by cases v <;> simp [Value.oneCell'] at h <;> rfl
theorem RdA.to_tm0 {av:AV} (hg:AK av=true) (hv:RdA β S h w tm v av):RdA β S h w tm0 v av:=by
 refine RdA.mono hv (fun _ hb=>hb) (fun _ _=>rfl) (fun l _=>Keep.rfl_ ..) (fun t ht=>?_)
 grind [Sf]
theorem NJ {av:AV} (hv:RdA β S h w tm v av) (ho:(XI av).all Q25=true) :
  v.cells.size=(XI av).length/\(∀ (i:Nat) (x:AV),(XI av)[i]? = some x->RdA β S h w tm (v.cells.getD i undef) x)/\∀ u∈v.cells.toList,u.oneCell'=true:=by
 cases av with
 |ag l=>
  obtain ⟨cs,rfl,ak,hr⟩:=hv.ag_inv;refine ⟨ak,hr,fun u hu=>?_⟩;obtain ⟨i,hi,rfl⟩:=List.getElem_of_mem hu;have aj:i<cs.size:=by assumption
  have h1:l[i]? = some (l[i]'QnI):=Qo7 QnI;have h2:=hr i _ h1;have h3:Q25 (l[i]'QnI)=true:=by
   grind [XI,List.all_eq_true,List.getElem_mem]
  have h4:=Q8k h2 h3;have h5:cs.getD i undef=cs[i]:=by simp [Array.getD,aj]
  grind [Value.cells]
 |fs s rows=>
  obtain ⟨ad,rfl,hr⟩:=hv.fs_inv;refine ⟨rfl,fun i x hx=>?_,fun u hu=>?_⟩
  ·cases i with
   |zero=>simp [XI] at hx;subst hx;exact .d _ _ hr
   |succ i=>trivial
  ·simp [Value.cells] at hu;subst hu;rfl
 |_=>
  all_goals
   simp only [XI,List.all_cons,List.all_nil,Bool.and_true] at ho
   first
    |have h1:=Q8k hv ho
     rw [Q8X h1];refine ⟨rfl,fun i x hx=>?_,fun u hu=>?_⟩
     ·cases i with
      |zero=>simp [XI] at hx;subst hx;simpa [Array.getD] using hv
      |succ i=>simp [XI] at hx
     simp_all
    |(simp [Q25] at ho)
theorem Uz {ac:Nat} {o:Ob} {v:AV} {wr:List (Nat×oP Ob)} {rd:List Nat} {k:Dl->oP R} {r:R} (h:FL hl ac o v wr rd k=some r) :
  hl ac=none/\k ⟨v,wr++[(ac,some o)],rd⟩=some r:=by
 grind [FL]
theorem Qdw (n:Nat):Qi5 n (0,0):=fun _ _ h=>by omega
theorem CT {o:Oper} {ac:Nat} {cells:List AV} {ty:TypeId} (hn:hl ac=none) (aq:Q6R ty cells)
  (h:∀ β S st a w,Rel E β S st a w->D8 β S st a w o ev->∃ cs:Array Value,(execOp a.eval o).run P w = .ok (.value (.pointer (some ⟨w.heap.size,0,none⟩))) (w.alloc (.cells cs ty))/\cs.size=cells.length /\
   ∀ (i:Nat) (x:AV),cells[i]? = some x->AK x=true/\((RdA β S (look st.h) w (tmv a) (cs.getD i undef) x/\(Uc st ac=true->Z3 ac x=false))\/∃ t,x = .sa ac t/\cs.getD i undef = .pointer none)) :
  Ge P E o ev hl ⟨.ptr ac 0,[]++[(ac,some (.box cells))],[]⟩:=by
 intro β S st a w hR hO hA a1 K Q hK;obtain ⟨cs,ak,an,ar⟩:=h β S st a w hR hO;have au:look st.h ac=none:=by rw [hA ac (.inr (by simp [wrL]))];exact hn
 have hc:Uc st ac=true:=by grind [ZQ]
 unfold Oper.wp;rw [ak];refine hK _ _ ⟨SL β ac (some w.heap.size),S,?_,?_⟩
 ·refine hR.new au hc ⟨w.heap.size,ty,cs,(0,0),by simp [SL],VH _ _,⟨Qdw _,aq⟩,an,fun i x hx=>?_⟩;obtain ⟨h1,aw⟩:=ar i x hx;rcases aw with ⟨h2,h3⟩ | ⟨t,rfl,hp⟩
  case inr=>exact .sa _ _ _ w.heap.size (by simp [SL]) (.inl hp)
  refine (h2.to_tm0 h1).mono (fun _ hb=>hb) (fun b hb=>Yf _ _ (hR.hr.sb b hb)) (fun l az=>?_) (fun _ _=>rfl);have aj:l≠ac:=fun e=>by simp_all
  exact ⟨by simp [SL,aj],fun h=>by rw [Wu,Qo4 aj];exact h,fun e s rows h=>.inr ⟨rows,by rw [Wu,Qo4 aj];exact h,rfl⟩,
   fun b ao al fz hs hb hw=>⟨ao,al,fz,by rw [Yf _ _ (Hs hR (by rw [Wu,Qo4 aj] at hs;exact hs) hb)];exact hw,rfl⟩,fun _ f h=>.inr ⟨f,by rw [Wu,Qo4 aj];exact h⟩⟩
 ·exact .ptr _ _ _ (by simp [SL])
theorem Bg (l:Nat) (v:Value):Z3 l (TX v)=false:=by
 unfold TX;split <;> rfl
theorem Q6Q (v:Value):AK (TX v)=true:=by
 unfold TX;split <;> rfl
theorem Q7y {tt:TT} (hT:TOk P tt) {o:Oper} {t:TypeId} (ho:o.op = .alloc t) {ac:Nat} {ti:TyI} (ao:look tt t=some ti) (hn:hl ac=none) :
  Ge P E o ev hl ⟨.ptr ac 0,[]++[(ac,some (.box (Q0o ac t ti)))],[]⟩:=by
 obtain ⟨inf,ar,_,_,z,hz,aq⟩:=(hT t ti ao).inf;have al:Q6R t (Q0o ac t ti):=by
  intro i l t' hi;simp only [Q0o,Qo2,QnX] at hi;obtain ⟨v,_,hv⟩:=hi;unfold Q57 at hv;split at hv
  ·injection hv
  ·unfold TX at hv
   grind
 refine CT (ty:=t) hn al fun β S st a w hR hO=>⟨z.cells,?_,?_,fun i x hx=>?_⟩
 ·simp_all [execOp,Instr.alloc,zeroValue,Yd,newVar,newRow]
 ·grind [Array.length_toList,Q0o]
 ·simp only [Q0o,Qo2,QnX] at hx;obtain ⟨v,hv,rfl⟩:=hx;have:z.cells.getD i undef=v:=by
   rw [<- aq] at hv;obtain ⟨hi,he⟩:=QnS.1 hv;have an:i<z.cells.size:=QnI
   simp only [Array.getD,an,dite_true]
   assumption
  rw [this];unfold Q57;split
  ·exact ⟨rfl,.inr ⟨t,rfl,rfl⟩⟩
  grind [Q6Q,Bc,Bg]
theorem Q0s {st:St} {ac:Nat} (hc:Uc st ac=true) (x:Operand):Z3 ac (evO st.tm x)=false:=by
 cases x with
 |tmp t=>
  simp only [evO,lkT];cases h:look st.tm t with
  |none=>rfl
  |some av=>grind [Q6g]
 |const v=>exact Bg ac v
 |_=>rfl
theorem Q2E {l i:Nat} {r:List AV} {x:AV} (h:r[i]? = some x) (hn:Je l r=false):Z3 l x=false:=by
 grind [Z3,PB]
theorem An {l:Nat} {av:AV} (h:Z3 l av=false):Je l (XI av)=false:=by
 cases av <;> simp_all [XI,Je,Z3]
theorem Qax {o:Oper} {t:TypeId} {x:Operand} (ho:o.op = .box t x) {aj:Nat} (ac:(XI (ev x)).all Q25=true) (hn:hl aj=none) :
  Ge P E o ev hl ⟨.ptr aj 0,[]++[(aj,some (.box (XI (ev x))))],[]⟩:=by
 have ak:x∈o.op.operands.toList:=by grind [Op.operands]
 have al:Q6R t (XI (ev x)):=by
  intro i l t' hi;rw [Qob] at ac;have:=ac _ (Qo0 hi);trivial
 refine CT (ty:=t) hn al fun β S st a w hR hO=>?_
 obtain ⟨h1,h2,_⟩:=NJ (hO.at ak) ac;refine ⟨(a.eval x).cells,?_,h1,fun i y hy=>⟨?_,.inl ⟨h2 i y hy,fun hc=>Q2E hy (An (hO.nm ak hc))⟩⟩⟩
 ·simp_all [execOp,Instr.box,newVar,newRow]
 grind [List.all_eq_true,EQ,List.mem_of_getElem?]
structure Wrote (b:Nat) (cs:Array Value) (ty:TypeId) (fz:Nat×Nat) (w w':World):Prop where
 blk:w'.heap[b]? = some (.cells cs ty fz)
 oth:∀ k,k≠b->w'.heap[k]? = w.heap[k]?
 os:w'.os=w.os
 tape:w'.tape=w.tape
 output:w'.output=w.output
 size:w'.heap.size=w.heap.size
theorem Q9y {b o:Nat} {cs:Array Value} {ty:TypeId} {fz:Nat×Nat} (h:w.heap[b]? = some (.cells cs ty fz)) (v:Value):Wrote b (cs.setIfInBounds o v) ty fz w (w.setCell ⟨b,o,none⟩ v):=by
 refine ⟨?_,fun k hk=>?_,rfl,rfl,rfl,by simp_all⟩
 ·simp [World.setCell,Array.getElem?_modify,h]
 ·simp only [World.setCell,Array.getElem?_modify]
  grind
theorem Wrote.trans {b:Nat} {cs aj:Array Value} {ty:TypeId} {fz:Nat×Nat} {w w' ak:World} (h:Wrote b cs ty fz w w') (h':Wrote b aj ty fz w' ak):Wrote b aj ty fz w ak:=
 ⟨h'.blk,fun k hk=>(h'.oth k hk).trans (h.oth k hk),h'.os.trans h.os,h'.tape.trans h.tape,h'.output.trans h.output,h'.size.trans h.size⟩
def T7 (cs:Array Value):Nat->List Value->Array Value
 |_,[]=>cs
 |o,v::r=>T7 (cs.setIfInBounds o v) (o+1) r
theorem WJ:∀ (vs:List Value) (cs:Array Value) (o:Nat),(T7 cs o vs).size=cs.size
 |[],_,_=>rfl
 |v::r,cs,o=>by simp [T7,WJ r]
theorem PS:∀ (vs:List Value) (cs:Array Value) (o j:Nat),o+vs.length<=cs.size->(T7 cs o vs)[j]? = if o<=j/\j<o+vs.length then vs[j-o]? else cs[j]?
 |[],cs,o,j,_=>by simp [T7];intro h1 h2;omega
 |v::r,cs,o,j,h=>by
  simp only [Qoh] at h;rw [T7,PS r _ (o+1) j QnL];simp only [Qoh];by_cases h1:o+1<=j/\j<o+1+r.length
  ·rw [Qo8 h1,Qo8 QnI];rw [show j-o=(j-(o+1))+1 from QnI];simp
  ·rw [Qo4 h1];by_cases h2:j=o
   ·subst h2;rw [Qo8 QnI];simp [Array.getElem?_setIfInBounds];omega
   ·rw [Qo4 QnI];rw [Array.getElem?_setIfInBounds,Qo4 QnI]
theorem JU (b o:Nat) (ty:TypeId) (fz:Nat×Nat):∀ (vs:List Value) (i:Nat) (cs:Array Value) (w:World),w.heap[b]? = some (.cells cs ty fz)->Qi5 cs.size fz->o+i+vs.length<=cs.size->(∀ v∈vs,v.oneCell'=true) ->
  ∃ w',(storeCells ⟨b,o,none⟩ vs i).run P w = .ok () w'/\Wrote b (T7 cs (o+i) vs) ty fz w w'
 |[],i,cs,w,h,_,_,_=>⟨w,by rfl,⟨h,fun _ _=>rfl,rfl,rfl,rfl,rfl⟩⟩
 |v::r,i,cs,w,h,hf,al,h1=>by
  simp only [Qoh] at al;have aj:o+i<cs.size:=QnI
  have ak:w.cell? ⟨b,o+i,none⟩=some (cs.getD (o+i) undef):=by rw [VL h];simp_all
  have aq:w.frozen? ⟨b,o+i,none⟩=false:=by
   have:=hf (o+i) aj
   grind [World.frozen?]
  have ao:=run_store P w ⟨b,o+i,none⟩ v .plain (h1 v QnK);have hw:=Q9y (o:=o+i) h v;obtain ⟨w',an,ac⟩:=JU b o ty fz r (i+1) (cs.setIfInBounds (o+i) v) (w.setCell ⟨b,o+i,none⟩ v) hw.blk QnO QnL (fun u hu=>h1 u (by simp [hu]));refine ⟨w',?_,hw.trans ac⟩
  grind [storeCells,Sem.run_bind,JJ,Result.andThen_ok]
theorem S8:∀ {vs cells cs:List AV} {off:Nat},Nu cells off vs=some cs->cs.length=cells.length/\vs.all Q25=true/\(vs≠[]->off+vs.length<=cells.length) /\
  ∀ j:Nat,cs[j]? = if off<=j/\j<off+vs.length then vs[j-off]? else cells[j]?
 |[],cells,cs,off,h=>by
  simp [Nu] at h;subst h;refine ⟨rfl,rfl,fun h=>absurd rfl h,fun j=>?_⟩;rw [Qo4 QnK]
 |v::r,cells,cs,off,h=>by
  unfold Nu at h;cases hc:(Q25 v&&Nat.ble (off+1) cells.length) with
  |false=>simp [hc] at h
  |true=>
   simp only [hc,QnW] at h;simp only [QnT] at hc;have ak:=Qo3 hc.2;obtain ⟨h1,h2,h3,h4⟩:=S8 h;simp only [List.length_set] at h1 h3;refine ⟨h1,by simp [hc.1,h2],fun _=>?_,fun j=>?_⟩
   ·by_cases hr:r=[]
    ·subst hr;simp;omega
    ·have:=h3 hr;simp;omega
   ·rw [h4 j];simp only [Qoh];by_cases e1:off+1<=j/\j<off+1+r.length
    ·rw [Qo8 e1,Qo8 QnI,show j-off=(j-(off+1))+1 from QnI];simp
    ·rw [Qo4 e1];by_cases e2:j=off
     ·subst e2;rw [Qo8 QnI,Qoc QnI];simp
     ·rw [Qo4 QnI,Qod QnI]
end
end Go.Vx
namespace Go.Vx
section
variable {P:Program} {E:Env} {R:Type}
theorem Q0y {cs ac:Array Value} {i j:Nat} (h:cs[i]? = ac[j]?):cs.getD i undef=ac.getD j undef:=by
 simp_all
theorem RN {t:Nat} {ti:TyI} (ht:TyOk P t ti) {w w':World} {ad:Addr} {v:Value} (hs:v.cells.size=ti.size) (h:(storeCells ad v.cells.toList).run P w = .ok () w'):(storeVar t ad v).run P w = .ok () w':=by
 simp only [storeVar,QnV,ht.size,QnR]
 simp_all
theorem Ns {o:Oper} {t:TypeId} {x y:Operand} (ho:o.op = .store t x y) {a:Act} {w w':World} {ad:Addr} (hx:a.eval x = .pointer (some ad)) (hv:(storeVar t ad (a.eval y)).run P w = .ok () w') :
  (execOp a.eval o).run P w = .ok .skip w':=by
 simp_all [execOp,Instr.storeAt,Instr.sureAddr]
theorem BU:∀ {l:List AV} {ds:List D},Qdt l=some ds->l=ds.map .d
 |[],ds,h=>by simp [Qdt] at h;subst h;rfl
 |a::r,ds,h=>by
  cases a with
  |d x=>
   simp only [Qdt] at h;split at h
   ·rename_i l' ac;cases h;rw [BU ac];rfl
   ·cases h
  |_=>simp [Qdt] at h
theorem Q5v:∀ (ds:List D) (row:List D) (off j:Nat),off+ds.length<=row.length->(Qcd row off ds)[j]? = if off<=j/\j<off+ds.length then ds[j-off]? else row[j]?
 |[],row,off,j,_=>by simp [Qcd];intro h1 h2;omega
 |v::r,row,off,j,h=>by
  simp only [Qoh] at h;rw [Qcd,Q5v r _ (off+1) j QnL];simp only [Qoh];by_cases h1:off+1<=j/\j<off+1+r.length
  ·rw [Qo8 h1,Qo8 QnI,show j-off=(j-(off+1))+1 from QnI];simp
  ·rw [Qo4 h1];by_cases h2:j=off
   ·subst h2;rw [Qo8 QnI,Qoc QnI];simp
   ·rw [Qo4 QnI,Qod QnI]
theorem BH:∀ (ds:List D) (row:List D) (off:Nat),(Qcd row off ds).length=row.length
 |[],_,_=>rfl
 |v::r,row,off=>by simp [Qcd,BH r]
theorem EF (ds:List D):(ds.map AV.d).all Q25=true:=by
 grind [Q25]
theorem Q7c {tt:TT} (hT:TOk P tt) {o:Oper} {t:TypeId} {x y:Operand} (ho:o.op = .store t x y) {ev:Operand->AV} {hl:Nat->oP Ob} {k:Dl->oP R} {r:R}
  (h:Q9F tt hl t (ev x) (ev y) k=some r):∃ dl,k dl=some r/\Ge P E o ev hl dl:=by
 have b6:x∈o.op.operands.toList:=by grind [Op.operands]
 have bv:y∈o.op.operands.toList:=by simp [ho,Op.operands]
 unfold Q9F at h;split at h
 case h_2=>cases h
 rename_i ti co;have b3:=hT t ti co;cases az:Nat.beq (XI (ev y)).length ti.size with
 |false=>simp [az] at h
 |true=>
  simp only [az,QnW] at h;have a1:=QnU az;split at h
  ·-- a box
   rename_i l off bp;split at h
   ·rename_i cells a9;split at h
    ·rename_i cs cf;refine ⟨_,h,?_⟩;intro β S st a w hR hO hA cq K Q hK;obtain ⟨h1,h2,h3,h4⟩:=S8 cf;obtain ⟨b,hb,hx⟩:=(bp▸hO.at b6).ptr_inv;have aj:look st.h l=some (.box cells):=by rw [hA l (.inl QnK)];exact a9
     obtain ⟨b',ty,vs,fz,a3,hw,⟨hf,cc⟩,bc,ba⟩:=hR.hr.ob l _ aj;obtain rfl:b=b':=by rw [hb] at a3;injection a3
     obtain ⟨c1,c2,c3⟩:=NJ (hO.at bv) h2;have bj:off+(a.eval y).cells.toList.length<=vs.size\/(a.eval y).cells.toList.length=0:=by
      by_cases bu:XI (ev y)=[]
      ·right;simp [c1,bu]
      ·left;have:=h3 bu;simp [c1];omega
     have b0:off+0+(a.eval y).cells.toList.length<=vs.size\/(a.eval y).cells.toList=[]:=by
      rcases bj with h | h
      ·left;simpa using h
      ·right;exact Qo1 h
     obtain ⟨w',a5,ac⟩:∃ w',(storeCells ⟨b,off,none⟩ (a.eval y).cells.toList 0).run P w = .ok () w'/\Wrote b (T7 vs off (a.eval y).cells.toList) ty fz w w':=by
      rcases b0 with h | h
      ·exact JU b off ty fz _ 0 vs w hw hf h c3
      ·rw [h];exact ⟨w,by simp [storeCells],⟨hw,fun _ _=>rfl,rfl,rfl,rfl,rfl⟩⟩
     have b4:Q6R ty cs:=by
      intro i l' t' hi;rw [h4 i] at hi;split at hi
      ·rw [Qob] at h2;have:=h2 _ (Qo0 hi);simp [Q25] at this
      ·exact cc i l' t' hi
     have al:∀ j,(T7 vs off (a.eval y).cells.toList)[j]? = if off<=j/\j<off+(XI (ev y)).length then (a.eval y).cells[j-off]? else vs[j]?:=by
      intro j;rcases bj with h | h
      ·rw [PS _ _ _ _ h];simp [c1]
      ·have hn:(a.eval y).cells.toList=[]:=Qo1 h;rw [hn,Qo4 (by rw [<- c1,<- Qo5,hn];simp)];rfl
     unfold Oper.wp;rw [Ns ho hx (RN b3 (by rw [c1];exact a1) a5)];refine hK undef _ ⟨β,S,?_,.top _⟩;have au:∀ k',look ((l,Ob.box cs)::rem l st.h) k'=if k'=l then some (.box cs) else look st.h k':=fun k'=>Wu l k' _ st.h
     have ak:Keep β (look st.h) w β (look ((l,.box cs)::rem l st.h)) w' l:=by
      refine ⟨rfl,fun h=>?_,fun e s rows h=>?_,fun b2 bn bl bq _ ar aq=>?_,fun t f h=>by rw [aj] at h;cases h⟩
      ·rw [aj] at h;cases h
      ·rw [aj] at h;cases h
      ·rw [hb] at ar;injection ar with e;subst e
       rw [hw] at aq;injection aq with e;injection e with e1 e2 e3;subst e1
       exact ⟨_,_,_,ac.blk,WJ _ _ _⟩
     have a2:∀ l',Keep β (look st.h) w β (look ((l,.box cs)::rem l st.h)) w' l':=by
      intro l';by_cases e:l'=l
      ·subst e;exact ak
      ·exact ⟨rfl,fun h=>by rw [au,Qo4 e];exact h,fun e' s rows h=>.inr ⟨rows,by rw [au,Qo4 e];exact h,rfl⟩,
        fun b2 bn bl bq b1 ar aq=>⟨bn,bl,bq,by rw [ac.oth b2 (fun e2=>by subst e2;rw [au,Qo4 e] at b1;exact e (hR.hr.inj l' l _ b1 (by simp [aj]) ar hb))];exact aq,rfl⟩,fun _ f h=>.inr ⟨f,by rw [au,Qo4 e];exact h⟩⟩
     refine hR.set aj hb ac.oth ac.os ac.tape ac.output ac.size ak ⟨b,ty,_,fz,hb,ac.blk,⟨by rw [WJ];exact hf,b4⟩,by rw [WJ,bc,h1],fun i z hz=>?_⟩;rw [h4 i] at hz;by_cases e:off<=i/\i<off+(XI (ev y)).length
     ·rw [Qo8 e] at hz;have bm:(T7 vs off (a.eval y).cells.toList).getD i undef=(a.eval y).cells.getD (i-off) undef:=Q0y (by rw [al i,Qo8 e]);rw [bm];have hn:AK z=true:=EQ (by rw [Qob] at h2;exact h2 z (Qo0 hz));exact ((c2 (i-off) z hz).to_tm0 hn).mono (fun _ h=>h) (fun k' hS=>ac.oth k' (fun e2=>by subst e2;exact hR.hr.apart l _ (by simp [aj]) hb hS)) (fun l' _=>a2 l') (fun _ _=>rfl)
     ·rw [Qo4 e] at hz;have bm:(T7 vs off (a.eval y).cells.toList).getD i undef=vs.getD i undef:=Q0y (by rw [al i,Qo4 e]);rw [bm];exact (ba i z hz).mono (fun _ h=>h) (fun k' hS=>ac.oth k' (fun e2=>by subst e2;exact hR.hr.apart l _ (by simp [aj]) hb hS)) (fun l' _=>a2 l') (fun _ _=>rfl)
    ·cases h
   ·cases h
  ·-- an array of the call's own
   rename_i l i off bp;split at h
   ·rename_i e s rows bz;split at h
    ·rename_i ds cj;obtain ⟨row,h,b7⟩:=QO h;have ao:=b7 rfl;cases a4:Nat.ble (off+ds.length) s with
     |false=>simp [a4] at h
     |true=>
      simp only [a4,QnW] at h;have bj:=Qo3 a4;refine ⟨_,h,?_⟩;intro β S st a w hR hO hA cq K Q hK;have bo:=BU cj;have aj:look st.h l=some (.arr e s rows):=by rw [hA l (.inl QnK)];exact bz
      obtain ⟨b,hb,hx⟩:=RdA.ap_inv aj (bp▸hO.at b6);rcases hR.hr.ob l _ aj with ⟨_,hn⟩ | ⟨b',vs,a3,hw,bc,bi,ba⟩
      ·subst hn;simp at ao
      obtain rfl:b=b':=by rw [hb] at a3;injection a3
      obtain ⟨c1,c2,c3⟩:=NJ (hO.at bv) (by rw [bo];exact EF ds);have b5:(a.eval y).cells.size=ds.length:=by rw [c1,bo];simp
      have hi:i<rows.length:=(QnS.1 ao).1;have cm:row.length=s:=bi i row ao;have cu:(i+1)*s<=rows.length*s:=QnY s hi;have cp:(i+1)*s=i*s+s:=Qok i s;have bb:i*s+off+(a.eval y).cells.toList.length<=vs.size:=by simp [b5];omega
      obtain ⟨w',a5,ac⟩:=JU (P:=P) b (i*s+off) e (0,0) (a.eval y).cells.toList 0 vs w hw (Qdw _) (by simpa using bb) c3;simp only [Nat.add_zero] at ac;have al:∀ j,(T7 vs (i*s+off) (a.eval y).cells.toList)[j]? = if i*s+off<=j/\j<i*s+off+ds.length then (a.eval y).cells[j-(i*s+off)]? else vs[j]?:=by
       intro j;rw [PS _ _ _ _ bb];simp [b5]
      unfold Oper.wp;rw [Ns ho hx (RN b3 (by rw [c1];exact a1) a5)];refine hK undef _ ⟨β,S,?_,.top _⟩;have bg:∀ k',S k'->w'.heap[k']? = w.heap[k']?:=fun k' hS=>ac.oth k' (fun e2=>by subst e2;exact hR.hr.apart l _ (by simp [aj]) hb hS)
      have ak:Keep β (look st.h) w β (look ((l,.arr e s (rows.set i (Qcd row off ds)))::rem l st.h)) w' l:=by
       refine ⟨rfl,fun h=>?_,fun e' s' cg h=>?_,fun b2 bn bl bq _ ar aq=>?_,fun t f h=>by rw [aj] at h;cases h⟩
       ·rw [aj] at h;cases h
       ·rw [aj] at h;injection h with h;injection h with g1 g2 g3;subst g1;subst g2;subst g3
        exact .inr ⟨_,by rw [Wu,Qo8 rfl],by simp⟩
       ·rw [hb] at ar;injection ar with e;subst e
        rw [hw] at aq;injection aq with e;injection e with e1 e2 e3;subst e1
        exact ⟨_,_,_,ac.blk,WJ _ _ _⟩
      refine hR.set aj hb ac.oth ac.os ac.tape ac.output ac.size ak (.inr ⟨b,_,hb,ac.blk,by rw [WJ];simpa using bc,fun i' r' ay=>?_,fun i' j' r' z h4 h5=>?_⟩)
      ·by_cases e2:i'=i
       ·subst e2;rw [Qoc hi] at ay;injection ay with ay;subst ay
        rw [BH];exact cm
       ·rw [Qod QnI] at ay;exact bi i' r' ay
      ·by_cases e2:i'=i
       ·subst e2;rw [Qoc hi] at h4;injection h4 with h4;subst h4
        rw [Q5v _ _ _ _ QnI] at h5;by_cases e3:off<=j'/\j'<off+ds.length
        ·rw [Qo8 e3] at h5;have hj:j'-off<(a.eval y).cells.size:=QnI
         refine ⟨(a.eval y).cells.getD (j'-off) undef,?_,?_⟩
         ·rw [al,Qo8 QnI,show i'*s+j'-(i'*s+off)=j'-off from QnI];exact KY hj
         ·exact (c2 (j'-off) (.d z) (by rw [bo];simp [h5])).d_inv.mono (fun _ h=>h) bg
        ·rw [Qo4 e3] at h5;obtain ⟨u,hu,bk⟩:=ba i' j' row z ao h5;exact ⟨u,by rw [al,Qo4 QnI];exact hu,bk.mono (fun _ h=>h) bg⟩
       ·rw [Qod QnI] at h4;obtain ⟨u,hu,bk⟩:=ba i' j' r' z h4 h5;refine ⟨u,?_,bk.mono (fun _ h=>h) bg⟩;have cx:j'<s:=by
         have:=bi i' r' h4;have:=(QnS.1 h5).1;omega
        rw [al,Qo4 ?_]
        ·exact hu
        ·rcases Nat.lt_or_gt_of_ne e2 with cb | ck
         ·have:(i'+1)*s<=i*s:=QnY s cb;have:(i'+1)*s=i'*s+s:=Qok i' s;omega
         ·have:(i+1)*s<=i'*s:=QnY s ck;omega
    ·cases h
   ·cases h
  ·cases h
end
section
variable {P:Program} {E:Env} {R:Type}
theorem Lj {α β:Type} {f:α->Sem β} {g:α->β} {w:World}:∀ (l:List α),(∀ x∈l,(f x).run P w = .ok (g x) w)->(l.mapM f).run P w = .ok (l.map g) w
 |[],_=>by simp
 |a::l,h=>by
  have h1:=h a QnK;have h2:=Lj l (fun x hx=>h x (by simp [hx]));simp [List.mapM_cons,h1,h2]
theorem Q3w {α β:Type} {f:α->Sem β} {g:α->β} {w:World} (l:Array α) (h:∀ x∈l.toList,(f x).run P w = .ok (g x) w):(l.mapM f).run P w = .ok (l.map g) w:=by
 have h1:=Lj (P:=P) l.toList h;rw [<- Array.toList_mapM,Sem.run_map] at h1;cases hr:(l.mapM f).run P w with
 |ok b w'=>
  rw [hr] at h1;simp only [QnR,Result.ok.injEq] at h1;obtain ⟨h2,rfl⟩:=h1;congr 1;apply Array.ext'
  simp_all
 |halt x w'=>simp_all
theorem Q82 (off:Nat):∀ (l:List Value) (k:Nat) (cs:Array Value),(l.zipIdx k).foldl (fun cs x=>cs.setIfInBounds (off+x.2) x.1) cs=T7 cs (off+k) l
 |[],_,_=>rfl
 |v::r,k,cs=>by
  simp only [List.zipIdx_cons,List.foldl_cons,T7];rw [Q82 off r (k+1)];rfl
theorem Qb4 (off:Nat) (vs cs:Array Value):vs.zipIdx.foldl (fun cs x=>cs.setIfInBounds (off+x.2) x.1) cs=T7 cs off vs.toList:=by
 rw [<- Array.foldl_toList,Array.toList_zipIdx,Q82];rfl
theorem Q3o {ac:Nat->oP (Nat×Nat)} {cells:Array Value} {i off size:Nat} {v:Value} {rest:List (Nat×Value)} (hp:ac i=some (off,size)) (hs:v.cells.size=size) (hf:off+size<=cells.size) :
  Instr.fill ac cells ((i,v)::rest)=Instr.fill ac (T7 cells off v.cells.toList) rest:=by
 grind [Instr.fill,Qb4]
theorem E3 {tt:TT} {fields:List (Nat×Nat)} {ak:Nat->oP (Nat×Nat)} (aq:∀ (i off t:Nat) (ti:TyI),fields[i]? = some (off,t)->look tt t=some ti->ak i=some (off,ti.size))
  {β:Nat->oP Nat} {S:Nat->Prop} {h:Nat->oP Ob} {w:World} {tm:Nat->Value} {ρ:Operand->Value} {ev:Operand->AV} :
  ∀ (aj:List (Nat×Operand)) (cells ac:List AV) (cs:Array Value),(∀ p∈aj,RdA β S h w tm (ρ p.2) (ev p.2))->cs.size=cells.length ->
   (∀ (i:Nat) (x:AV),cells[i]? = some x->RdA β S h w tm (cs.getD i undef) x)->AQ fields tt cells (UZ ev aj)=some ac ->
   ∃ an,Instr.fill ak cs (aj.map fun p=>(p.1,ρ p.2))=some an/\an.size=ac.length /\
    ∀ (i:Nat) (x:AV),ac[i]? = some x->RdA β S h w tm (an.getD i undef) x
 |[],cells,ac,cs,_,h1,h2,h3=>by
  grind [UZ,AQ,Instr.fill]
 |(i,x)::aj,cells,ac,cs,hp,h1,h2,h3=>by
  simp only [UZ,AQ] at h3;split at h3
  case h_2=>cases h3
  rename_i off t hf;split at h3
  case h_2=>cases h3
  rename_i ti ax;cases hc:(Nat.beq (XI (ev x)).length ti.size&&Nat.ble (off+ti.size) cells.length) with
  |false=>simp_all
  |true=>
   simp only [hc,QnW] at h3;simp only [QnT] at hc;have hl:=QnU hc.1;have a4:=Qo3 hc.2;split at h3
   case h_2=>cases h3
   rename_i ay au;obtain ⟨g1,g2,g3,g4⟩:=S8 au;obtain ⟨c1,c2,c3⟩:=NJ (hp (i,x) QnK) g2;have al:=aq i off t ti hf ax;have ar:off+(ρ x).cells.toList.length<=cs.size:=by simp [c1,hl];omega
   rw [Qol,Q3o al (by rw [c1];exact hl) QnI];refine E3 aq aj ay ac _ (fun p aw=>hp p (by simp [aw])) (by rw [WJ,h1,g1]) (fun j y hy=>?_) h3;have az:(T7 cs off (ρ x).cells.toList)[j]? = if off<=j/\j<off+(XI (ev x)).length then (ρ x).cells[j-off]? else cs[j]?:=by
    rw [PS _ _ _ _ ar];simp [c1]
   rw [g4 j] at hy;by_cases e:off<=j/\j<off+(XI (ev x)).length
   all_goals simp_all [Qo8,T7,undef,Q0y,Qo4]
theorem Q2L {t:TypeId} {ac:Array (Nat×Operand)} {o:Oper} (ho:o.op = .build t ac) {p:Nat×Operand} (hp:p∈ac.toList):p.2∈o.op.operands.toList:=by
 grind [Op.operands]
theorem Q7h {tt:TT} (hT:TOk P tt) {o:Oper} {t:TypeId} {aj:Array (Nat×Operand)} (ho:o.op = .build t aj) {ev:Operand->AV} {hl:Nat->oP Ob} {ti:TyI} (bl:look tt t=some ti) (hs:UQ ti.kd=true) {cs:List AV}
  (h:AQ ti.fields tt (Eg ti) (UZ ev aj.toList)=some cs):Ge P E o ev hl ⟨.ag cs,[],[]⟩:=by
 have az:=hT t ti bl;obtain ⟨inf,al,_,_,z,hz,bj⟩:=az.inf;refine Qk fun β S st a w hR hO hA=>?_
 have ba:z.cells.size=(Eg ti).length:=by grind [Array.length_toList,Eg]
 have a7:∀ (i:Nat) (x:AV),(Eg ti)[i]? = some x->RdA β S (look st.h) w (tmv a) (z.cells.getD i undef) x:=by
  intro i x hx;simp only [Eg,Qo2,QnX] at hx;obtain ⟨v,hv,rfl⟩:=hx;have:z.cells.getD i undef=v:=by
   rw [<- bj] at hv;obtain ⟨hi,he⟩:=QnS.1 hv;have bc:i<z.cells.size:=by simpa using hi
   simp only [Array.getD,bc,dite_true];simpa using he
  grind [Bc]
 have aq:(aj.map fun x=>(x.1,a.eval x.2)).toList=aj.toList.map fun p=>(p.1,a.eval p.2):=by simp
 cases hk:ti.kd with
 |struct=>
  obtain ⟨fs,hu,bg,a5⟩:=az.kstruct hk;let sz:Field->Nat:=fun f=>((P.info? f.type).map (·.size)).getD 0
  have ax:∀ f∈fs.toList,∃ i,P.info? f.type=some i/\i.size=sz f:=fun f hf=>by
   obtain ⟨i,hi,_⟩:=a5 f hf;exact ⟨i,hi,by simp [sz,hi]⟩
  have a1:∀ (i off t:Nat) (ak:TyI),ti.fields[i]? = some (off,t)->look tt t=some ak->(fs.map fun f=>(f.offset,sz f))[i]? = some (off,ak.size):=by
   intro i off t ak hf ao;rw [<- bg,Qo2,QnX] at hf;obtain ⟨fd,a4,he⟩:=hf;injection he with he1 he2
   obtain ⟨inf,al,a6⟩:=ax fd (Qo0 a4);obtain ⟨a3,ac,ar,_⟩:=(hT t ak ao).inf;rw [<- he2,al] at ac;injection ac with ac
   subst ac;have bb:fs[i]? = some fd:=by simpa using a4
   simp [bb,he1,<- a6,ar]
  obtain ⟨ay,h1,h2,h3⟩:=E3 a1 (ρ:=a.eval) aj.toList _ _ z.cells (fun p hp=>hO.at (Q2L ho hp)) ba a7 h;refine ⟨.agg ay,?_,.ag _ _ h2 h3⟩;have hm:=Q3w (P:=P) (w:=w) (f:=fun f:Field=>do pure (f.offset,<- sizeOf f.type)) (g:=fun f=>(f.offset,sz f)) fs (fun f hf=>by
   obtain ⟨i,hi,he⟩:=ax f hf;simp [sizeOf,Yd hi,he])
  unfold execOp;rw [ho];simp only [Instr.build,QnV,zeroValue,Yd al,hz,QA hu,QnR,Qoe,hm,aq,h1]
 |array e aw n=>
  obtain ⟨hu,bo,⟨i0,a9,a8⟩,bh,an⟩:=az.karr e aw n hk;have a1:∀ (i off t:Nat) (ak:TyI),ti.fields[i]? = some (off,t)->look tt t=some ak->(fun i=>some (i*aw,aw)) i=some (off,ak.size):=by
   intro i off t ak hf ao;rw [an,Qo2,QnX] at hf;obtain ⟨j,hj,he⟩:=hf;have bi:j=i:=by
    have:=QnS.1 hj;obtain ⟨h1,h2⟩:=this;simp at h2;omega
   injection he with he1 he2
   obtain ⟨a3,ac,ar,_⟩:=(hT t ak ao).inf;rw [<- he2,a9] at ac;injection ac with ac
   subst ac;simp only [Option.some.injEq,Prod.mk.injEq];exact ⟨by rw [<- he1,bi],QnI⟩
  obtain ⟨ay,h1,h2,h3⟩:=E3 a1 (ρ:=a.eval) aj.toList _ _ z.cells (fun p hp=>hO.at (Q2L ho hp)) ba a7 h;refine ⟨.agg ay,?_,.ag _ _ h2 h3⟩;have bk:(sizeOf e).run P w = .ok aw w:=by simp [sizeOf,Yd a9,a8]
  unfold execOp;rw [ho];simp only [Instr.build,QnV,zeroValue,Yd al,hz,QA hu,QnR,Qoe,bk,aq,h1]
 |_=>simp [hk,UQ] at hs
def UC (S:Nat->Prop) (w:World) (cs:Array Value) (s:Nat) (rows:List (List D)):Prop:=
 rows.length*s<=cs.size/\(∀ (i:Nat) (r:List D),rows[i]? = some r->r.length=s)/\∀ (i j:Nat) (r:List D) (x:D),rows[i]? = some r->r[j]? = some x->∃ v,cs[i*s+j]? = some v/\Rd S w v x
theorem Q2s:∀ {z:List D} {l:List AV} {ds:List D},Q9H z l=some ds->ds.length=z.length/\l.length=z.length/\l.all Q25=true/\(∀ t,∀ x∈l,gds t x=false) /\
  ∀ (β:Nat->oP Nat) (S:Nat->Prop) (h:Nat->oP Ob) (w:World) (tm:Nat->Value) (vs:Nat->Value),(∀ (i:Nat) (x:AV),l[i]? = some x->RdA β S h w tm (vs i) x)->∀ (i:Nat) (d:D),ds[i]? = some d->Rd S w (vs i) d
 |[],[],ds,h=>by
  grind [Q9H]
 |[],_::_,ds,h=>by trivial
 |_::_,[],ds,h=>by simp [Q9H] at h
 |z::zs,a::r,ds,h=>by
  simp only [Q9H] at h;split at h
  case h_2=>cases h
  rename_i l hl;obtain ⟨h1,h2,h3,h4,h5⟩:=Q2s hl;have aj:∀ d0,ds=d0::l->Q25 a=true->(∀ t,gds t a=false)->(∀ (β:Nat->oP Nat) (S:Nat->Prop) (h:Nat->oP Ob) (w:World) (tm:Nat->Value) (v:Value),RdA β S h w tm v a->Rd S w v d0) ->
    ds.length=(z::zs).length/\(a::r).length=(z::zs).length/\(a::r).all Q25=true/\(∀ t,∀ x∈a::r,gds t x=false) /\
    ∀ (β:Nat->oP Nat) (S:Nat->Prop) (h:Nat->oP Ob) (w:World) (tm:Nat->Value) (vs:Nat->Value),(∀ (i:Nat) (x:AV),(a::r)[i]? = some x->RdA β S h w tm (vs i) x)->∀ (i:Nat) (d:D),ds[i]? = some d->Rd S w (vs i) d:=by
   intro d0 hd ho hg hr;subst hd;refine ⟨by simp [h1],by simp [h2],by simp [ho,h3],fun t x hx=>?_,fun β S h w tm vs hv i d hi=>?_⟩
   ·grind
   ·cases i with
    |zero=>simp at hi;subst hi;exact hr β S h w tm _ (hv 0 a rfl)
    |succ i=>exact h5 β S h w tm (fun i=>vs (i+1)) (fun i x hx=>hv (i+1) x QnO) i d QnO
  split at h
  ·rename_i x;cases h;exact aj x rfl rfl (fun _=>rfl) (fun _ _ _ _ _ _ hv=>hv.d_inv)
  ·split at h
   ·cases h;exact aj _ rfl rfl (fun _=>rfl) (fun _ _ _ _ _ v hv=>by rw [hv.nil_inv];exact .sl0 _ _ _)
   ·cases h
  ·cases h
end
end Go.Vx
namespace Go.Vx
variable {hl:Nat->oP Ob} {ev:Operand->AV} {S:Nat->Prop} {o:Oper}
section
variable {P:Program} {E:Env} {R:Type}
theorem UC.mono {S S':Nat->Prop} {w w':World} {cs:Array Value} {s:Nat} {rows:List (List D)} (h:UC S w cs s rows) (hS:∀ b,S b->S' b) (hw:∀ b,S b->w'.heap[b]? = w.heap[b]?):UC S' w' cs s rows:=
 ⟨h.1,h.2.1,fun i j r x h1 h2=>by
  obtain ⟨v,hv,hr⟩:=h.2.2 i j r x h1 h2;exact ⟨v,hv,hr.mono hS hw⟩⟩
theorem UC.set {S:Nat->Prop} {w:World} {cs:Array Value} {s:Nat} {rows:List (List D)} (h:UC S w cs s rows) {i:Nat} {row:List D} {vs:Array Value} (hi:i<rows.length) (hl:row.length=s) (a3:vs.size=s)
  (hr:∀ (j:Nat) (d:D),row[j]? = some d->Rd S w (vs.getD j undef) d):UC S w (T7 cs (i*s) vs.toList) s (rows.set i row):=by
 obtain ⟨h1,h2,h3⟩:=h;have az:(i+1)*s<=rows.length*s:=QnY s hi;have au:(i+1)*s=i*s+s:=Qok i s;have ay:i*s+vs.toList.length<=cs.size:=by grind
 have al:∀ j,(T7 cs (i*s) vs.toList)[j]? = if i*s<=j/\j<i*s+s then vs[j-i*s]? else cs[j]?:=by
  grind [PS]
 refine ⟨by grind [WJ],fun i' r' a1=>?_,fun i' j' r' x h4 h5=>?_⟩
 ·grind
 ·by_cases e2:i'=i
  ·subst e2;rw [Qoc hi] at h4;injection h4 with h4;subst h4
   have hj:j'<s:=by have:=(QnS.1 h5).1;omega
   refine ⟨vs.getD j' undef,?_,hr j' x h5⟩
   simp_all
  ·rw [Qod QnI] at h4;obtain ⟨u,hu,aw⟩:=h3 i' j' r' x h4 h5;refine ⟨u,?_,aw⟩;have a2:j'<s:=by
    have:=h2 i' r' h4;have:=(QnS.1 h5).1;omega
   rw [al,Qo4 ?_]
   ·exact hu
   ·rcases Nat.lt_or_gt_of_ne e2 with ao | ar
    ·have:(i'+1)*s<=i*s:=QnY s ao;have:(i'+1)*s=i'*s+s:=Qok i' s;omega
    ·have:(i+1)*s<=i'*s:=QnY s ar;omega
theorem UC.zero {S:Nat->Prop} {w:World} {zero:Array Value} {z:List D} {n m:Nat} (hz:z.length=zero.size) (hr:∀ (j:Nat) (x:D),z[j]? = some x->∃ v,zero[j]? = some v/\Rd S w v x) (an:n<=m) :
  UC S w ((Array.range (m*zero.size)).map (zero[· % zero.size]!)) zero.size (List.replicate n z):=by
 refine ⟨by simp_all [QnY],fun i r h=>?_,fun i j r x h1 h2=>?_⟩
 ·grind
 ·rw [List.getElem?_replicate] at h1;split at h1
  case isFalse=>cases h1
  rename_i hi;injection h1 with h1;subst h1
  obtain ⟨v,hv,hx⟩:=hr j x h2;refine ⟨v,?_,hx⟩;have hj:j<zero.size:=(Qo6.1 hv).1;have ak:(i+1)*zero.size<=m*zero.size:=QnY _ QnI;have ac:(i+1)*zero.size=i*zero.size+zero.size:=Qok i _;have aj:(i*zero.size+j) % zero.size=j:=by rw [Nat.add_comm,Nat.add_mul_mod_self_right];exact Nat.mod_eq_of_lt hj
  grind
theorem Br {ac e s:Nat} {rows:List (List D)} {rd:List Nat} (hn:hl ac=none)
  (h:∀ β S st a w,Rel E β S st a w->D8 β S st a w o ev->(∀ l,l∈rd->look st.h l=hl l)->∃ (cs:Array Value) (cap:Nat),(execOp a.eval o).run P w = .ok (.value (.slice (some ⟨w.heap.size,0,none⟩) rows.length cap)) (w.alloc (.cells cs e))/\cs.size=cap*s/\rows.length<=cap/\cap<=maxLen/\UC S w cs s rows) :
  Ge P E o ev hl ⟨.arr ac,[]++[(ac,some (.arr e s rows))],rd⟩:=by
 intro β S st a w hR hO hA az K Q hK;obtain ⟨cs,cap,al,an,aj,ak,h1,h2,h3⟩:=h β S st a w hR hO (fun l ao=>hA l (.inl ao));have aq:look st.h ac=none:=by rw [hA ac (.inr (by simp [wrL]))];exact hn
 have hc:Uc st ac=true:=by grind [ZQ]
 unfold Oper.wp;rw [al];refine hK _ _ ⟨SL β ac (some w.heap.size),S,?_,?_⟩
 ·refine hR.new aq hc (.inr ⟨w.heap.size,cs,by simp [SL],VH _ _,h1,h2,fun i j r x h4 h5=>?_⟩);obtain ⟨v,hv,hr⟩:=h3 i j r x h4 h5;exact ⟨v,hv,hr.mono (fun _ hb=>hb) (fun b hb=>Yf _ _ (hR.hr.sb b hb))⟩
 ·exact .arr ac w.heap.size cap e s rows cs e (0,0) (by simp [SL]) (by simp [NE,Wu]) (VH _ _) an aj ak
theorem Qao {β:Nat->oP Nat} {st:St} {a:Act} {w:World} (hR:Rel E β S st a w) (ac:Obj):Rel E β (fun b=>S b\/b=w.heap.size) st a (w.alloc ac):=by
 have:=hR.upd (w':=w.alloc ac) (β':=β) (S':=fun b=>S b\/b=w.heap.size) (H':=st.h) (fun _ h=>.inl h) (fun b hb=>Yf w ac (hR.hr.sb b hb)) (fun _=>False)
  (fun l _=>⟨rfl,rfl,fun b hs hb=>Yf w ac (Hs hR hs hb)⟩) (fun l h=>h.elim) (fun l o h=>h.elim) hR.hr.inj
  (fun l b hs hb hS=>by
   rcases hS with hS | hS
   ·exact hR.hr.apart l b hs hb hS
   ·have:=Hs hR hs hb;omega)
  hR.hr.own
  (fun b hS=>by
   simp;rcases hS with hS | hS
   ·have:=hR.hr.sb b hS;omega
   ·omega)
  (fun b hS=>by
   rcases hS with hS | hS
   ·exact hR.hr.sfr b hS
   ·right;right;have:=hR.hr.fr.size;omega)
  (Q6D hR.hr.fr ac)
 exact this
theorem UC.rd {w:World} {b cap s:Nat} {cs:Array Value} {ty:TypeId} {fz:Nat×Nat} {rows:List (List D)} (h:UC S w cs s rows) (hb:w.heap[b]? = some (.cells cs ty fz)) (hS:S b) (ac:rows.length<=cap) :
  Rd S w (.slice (some ⟨b,0,none⟩) rows.length cap) (.sl s rows):=by
 obtain ⟨h1,h2,h3⟩:=h;refine .sl _ cap s rows (fun i j=>cs.getD (i*s+j) undef) hS ac h2 (fun i j r x h4 h5=>?_) (fun i j r x h4 h5=>?_)
 ·obtain ⟨v,hv,_⟩:=h3 i j r x h4 h5;rw [JJ,Nat.zero_add,VL hb]
  simp_all
 grind [undef,KY,Array.getElem?_eq_some_iff]
theorem Q3C {e s:Nat} {rows:List (List D)} {rd:List Nat}
  (h:∀ β S st a w,Rel E β S st a w->D8 β S st a w o ev->∃ (cs:Array Value) (cap:Nat),(execOp a.eval o).run P w = .ok (.value (.slice (some ⟨w.heap.size,0,none⟩) rows.length cap)) (w.alloc (.cells cs e))/\rows.length<=cap/\UC S w cs s rows) :
  Ge P E o ev hl ⟨.d (.sl s rows),[],rd⟩:=by
 intro β S st a w hR hO hA an K Q hK;obtain ⟨cs,cap,aj,ac,h1⟩:=h β S st a w hR hO;unfold Oper.wp;rw [aj];refine hK _ _ ⟨β,fun b=>S b\/b=w.heap.size,Qao hR _,.d _ _ ?_⟩;exact (h1.mono (fun _ hb=>.inl hb) (fun b hb=>Yf _ _ (hR.hr.sb b hb))).rd (VH _ _) (.inr rfl) ac
theorem D3 {β:Nat->oP Nat} {S:Nat->Prop} {h:Nat->oP Ob} {w:World} {tm:Nat->Value} {ρ:Operand->Value} {ev:Operand->AV} {z:List D} :
  ∀ (aj:List (Nat×Operand)) (rows ac:List (List D)) (cs:Array Value),(∀ p∈aj,RdA β S h w tm (ρ p.2) (ev p.2))->UC S w cs z.length rows->cs.size=rows.length*z.length ->
   Ml z rows (UZ ev aj)=some ac ->
   ∃ ak,Instr.fill (fun i=>some (i*z.length,z.length)) cs (aj.map fun p=>(p.1,ρ p.2))=some ak/\UC S w ak z.length ac/\ak.size=cs.size/\ac.length=rows.length
 |[],rows,ac,cs,_,h1,h2,h3=>by
  simp [UZ,Ml] at h3;subst h3;exact ⟨cs,by simp [Instr.fill],h1,rfl,rfl⟩
 |(i,x)::aj,rows,ac,cs,hp,h1,h2,h3=>by
  simp only [UZ,Ml] at h3;split at h3
  case h_2=>cases h3
  rename_i row an;cases hc:Nat.ble (i+1) rows.length with
  |false=>simp [hc] at h3
  |true=>
   simp only [hc,QnW] at h3;have hi:=Qo3 hc;obtain ⟨t1,t2,t3,_,t5⟩:=Q2s an;obtain ⟨c1,c2,_⟩:=NJ (hp (i,x) QnK) t3;have au:(i+1)*z.length<=rows.length*z.length:=QnY _ hi;have ar:(i+1)*z.length=i*z.length+z.length:=Qok i _;have aq:Instr.fill (fun i=>some (i*z.length,z.length)) cs ((i,ρ x)::aj.map fun p=>(p.1,ρ p.2))=_:=Q3o (i:=i) (off:=i*z.length) (size:=z.length) rfl (by rw [c1,t2]) QnI;rw [Qol,aq];have al:=h1.set (i:=i) (row:=row) (vs:=(ρ x).cells) QnI t1 (by rw [c1,t2]) (fun j d hd=>t5 β S h w tm (fun j=>(ρ x).cells.getD j undef) c2 j d hd);obtain ⟨ak,g1,g2,g3,g4⟩:=D3 aj (rows.set i row) ac _ (fun p ao=>hp p (by simp [ao])) al (by rw [WJ,h2];simp) h3;exact ⟨ak,g1,g2,by rw [g3,WJ],by rw [g4];simp⟩
theorem AI {t:TypeId} {n:Nat} {ac:Array (Nat×Operand)} (ho:o.op = .buildSlice t n ac) {p:Nat×Operand} (hp:p∈ac.toList):p.2∈o.op.operands.toList:=by
 grind [Op.operands]
theorem Qdf {tt:TT} (hT:TOk P tt) {e:Nat} {ei:TyI} (ak:look tt e=some ei) (aj:ei.zd.length=ei.size) {w:World} {z:Value} (hz:z.cells.toList=ei.zero):∀ (j:Nat) (x:D),ei.zd[j]? = some x->∃ v,z.cells[j]? = some v/\Rd S w v x:=by
 intro j x hx;obtain ⟨v,hv,hr⟩:=(hT e ei ak).zd aj j x hx
 grind
theorem RX {tt:TT} (hT:TOk P tt) {t:TypeId} {len:Nat} {ac:Array (Nat×Operand)} (ho:o.op = .buildSlice t len ac) {u:Bool} {a9:Nat} {k:Dl->oP R} {r:R}
  (h:K4 tt hl a9 u t len (UZ ev ac.toList) k=some r):∃ dl,k dl=some r/\Ge P E o ev hl dl:=by
 unfold K4 at h;split at h
 case h_2=>cases h
 rename_i e aj hk;cases hc:(Nat.ble (len*aj) 16777216&&(look tt e).isSome&&Nat.beq (N3 tt e).length aj) with
 |false=>simp_all
 |true=>
  simp only [hc,QnW] at h;simp only [QnT] at hc;have bk:=Qo3 hc.1.1;obtain ⟨ei,az⟩:=Option.isSome_iff_exists.1 hc.1.2;have al:=QnU hc.2;have ba:N3 tt e=ei.zd:=by grind [N3]
  rw [ba] at al h;split at h
  case h_2=>cases h
  rename_i rows ax;obtain ⟨ti,bg,bb⟩:=Xq hk QnK;obtain ⟨hu,a4,inf,an,aw⟩:=(hT t ti bg).ksl _ _ bb;obtain ⟨bj,ak,a2,_,z,hz,a8⟩:=(hT e ei az).inf;rw [an] at ak;injection ak with ak
  subst ak;have aq:z.cells.size=aj:=by rw [<- Qo5,a8,(hT e ei az).zlen,<- a2,aw]
  have a7:∀ β S st a w,Rel E β S st a w->D8 β S st a w o ev->∃ cs:Array Value,(execOp a.eval o).run P w = .ok (.value (.slice (some ⟨w.heap.size,0,none⟩) rows.length len)) (w.alloc (.cells cs e))/\cs.size=len*aj/\rows.length=len/\UC S w cs aj rows:=by
   intro β S st a w hR hO;have base:UC S w ((Array.range (len*z.cells.size)).map (z.cells[· % z.cells.size]!)) z.cells.size (List.replicate len ei.zd):=
    UC.zero (by rw [al,aq]) (Qdf hT az (by rw [al,<- a2,aw]) a8) (Qof _)
   rw [aq] at base;obtain ⟨bc,g1,g2,g3,g4⟩:=D3 (ρ:=a.eval) (ev:=ev) (z:=ei.zd) ac.toList (List.replicate len ei.zd) rows _ (fun p hp=>hO.at (AI ho hp)) (by rw [al];exact base) (by simp [al]) ax;rw [al] at g1 g2;have ao:rows.length=len:=by rw [g4];simp
   refine ⟨bc,?_,by rw [g3];simp,ao,g2⟩;have au:(ac.map fun x=>(x.1,a.eval x.2)).toList=ac.toList.map fun p=>(p.1,a.eval p.2):=by simp
   have bh:¬ len*aj>2 ^ 24:=QnI
   unfold execOp;rw [ho];simp only [Instr.buildSlice,QnV,QA hu,sizeOf,Yd an,aw,QnR,Qoe,bh,if_false,au];by_cases h0:len*aj=0
   ·have ar:((Array.range (len*aj)).map ((#[]:Array Value)[· % (#[]:Array Value).size]!))=((Array.range (len*aj)).map (z.cells[· % aj]!)):=by rw [h0];simp
    simp only [h0,if_true,QnV,Qoe,QnR];rw [h0] at ar g1;rw [ar,g1,ao];simp [newRow]
   ·simp only [h0,if_false,QnV,zeroValue,Yd an,hz,QnR,Qoe,aq,g1];simp [newRow,ao]
  have ay:len<=maxLen:=by
   have:len*1<=len*aj:=Qog len a4;unfold maxLen;omega
  cases u with
  |true=>
   simp only [QnW] at h;obtain ⟨hn,h⟩:=Uz h;refine ⟨_,h,Br hn fun β S st a w hR hO _=>?_⟩;obtain ⟨cs,g1,g2,g3,g4⟩:=a7 β S st a w hR hO;exact ⟨cs,len,g1,g2,QnI,ay,g4⟩
  |false=>
   simp only [cond_false] at h;refine ⟨_,h,Q3C (e:=e) fun β S st a w hR hO=>?_⟩;obtain ⟨cs,g1,g2,g3,g4⟩:=a7 β S st a w hR hO;exact ⟨cs,len,g1,QnI,g4⟩
theorem RY {n:Nat} {u:Unit} (h:Y9 n=some u):n<=140737488355328:=by
 unfold Y9 at h;cases hb:Nat.ble n 140737488355328 with
 |true=>simp_all
 |false=>simp_all
theorem Q99 {tt:TT} (hT:TOk P tt) {t:TypeId} {l c:Operand} (ho:o.op = .makeSlice t l c) {u:Bool} {a4:Nat} {k:Dl->oP R} {r:R}
  (h:Qcw tt hl a4 u t (ev l) (ev c) k=some r):∃ dl,k dl=some r/\Ge P E o ev hl dl:=by
 unfold Qcw at h;cases u with
 |false=>simp at h
 |true=>
  simp only [QnW] at h;split at h
  case h_2=>cases h
  rename_i e ak kn n km m hk a8 bh;split at h
  case h_2=>cases h
  rename_i ei ar;cases hc:(Nat.ble 1 ei.bytes&&Nat.beq (N3 tt e).length ak) with
  |false=>simp_all
  |true=>
   simp only [hc,QnW] at h;simp only [QnT] at hc;have aq:=Qo3 hc.1;have ax:=QnU hc.2;have a6:N3 tt e=ei.zd:=by simp [N3,ar]
   rw [a6] at ax h;obtain ⟨_,h,bg⟩:=QO h;obtain ⟨_,h,aj⟩:=QO h;have aj:=RY (aj rfl);have bm:0<=n/\n<=m:=by
    have:=bg rfl;cases hd:(decide (0<=n)&&decide (n<=m)) with
    |true=>simpa using hd
    |false=>simp [hd] at this
   obtain ⟨hn,h⟩:=Uz h;obtain ⟨ti,bb,a9⟩:=Xq hk QnK;obtain ⟨hu,bk,inf,al,ay⟩:=(hT t ti bb).ksl _ _ a9;obtain ⟨bj,ac,az,ba,z,hz,a3⟩:=(hT e ei ar).inf;rw [al] at ac;injection ac with ac
   subst ac;have an:z.cells.size=ak:=by rw [<- Qo5,a3,(hT e ei ar).zlen,<- az,ay]
   have bi:m.toNat<=140737488355328:=Nat.le_trans (by have:=Qog m.toNat aq;omega) aj;have bc:IntKind.i64.wrap m=m:=by unfold IntKind.wrap;simp [IntKind.bits,IntKind.signed];omega
   have a5:IntKind.i64.wrap n=n:=by unfold IntKind.wrap;simp [IntKind.bits,IntKind.signed];omega
   refine ⟨_,h,Br hn fun β S st a w hR hO _=>?_⟩;have a1:=(a8▸hO.at (x:=l) (by simp [ho,Op.operands])).int_inv;have a2:=(bh▸hO.at (x:=c) (by simp [ho,Op.operands])).int_inv;have base:UC S w ((Array.range (m.toNat*z.cells.size)).map (z.cells[· % z.cells.size]!)) z.cells.size (List.replicate n.toNat ei.zd):=
    UC.zero (by rw [ax,an]) (Qdf hT ar (by rw [ax,<- az,ay]) a3) QnI
   rw [an] at base;refine ⟨_,m.toNat,?_,?_,?_,?_,base⟩
   ·have ao:(m<0||(inf.bytes:Int)*m>2 ^ 48)=false:=by
     rw [ba];have h1:((ei.bytes:Int)*m)=((m.toNat*ei.bytes:Nat):Int):=by
      rw [Int.natCast_mul,Int.toNat_of_nonneg QnI,Int.mul_comm]
     have h2:¬ m<0:=QnI
     have h3:¬ ((m.toNat*ei.bytes:Nat):Int)>2 ^ 48:=QnI
     rw [h1,decide_eq_false h2,decide_eq_false h3];rfl
    have a7:((m<0||(inf.bytes:Int)*m>2 ^ 48)||n<0||n>m)=false:=by
     rw [ao];simp;omega
    unfold execOp;rw [ho];simp only [Instr.makeSlice,QnV,QA hu,asInt,asIntOf,a1,a2,Yd al,QnR,Qoe,bc,a5,a7,Bool.false_eq_true,if_false,run_askRoom,sizeOf,ay];by_cases h0:m.toNat*ak=0
    ·have aw:((Array.range (m.toNat*ak)).map ((#[]:Array Value)[· % (#[]:Array Value).size]!))=((Array.range (m.toNat*ak)).map (z.cells[· % ak]!)):=by rw [h0];simp
     simp only [h0,if_true,QnV,Qoe,QnR];rw [h0] at aw;rw [aw];simp [newRow]
    ·simp only [h0,if_false,QnV,zeroValue,Yd al,hz,QnR,Qoe,an];simp [newRow]
   ·simp
   ·simp;omega
   ·unfold maxLen;omega
end
end Go.Vx
namespace Go.Vx
variable {β:Nat->oP Nat} {S:Nat->Prop} {w:World} {a:Act}
section
variable {P:Program} {E:Env} {R:Type}
theorem Rd.one {v:Value} {x:D} (h:Rd S w v x):v.oneCell'=true:=by cases h <;> rfl
structure Src (S:Nat->Prop) (w:World) (esz:Nat) (v:Value) (news:List (List D)) (vals:List Value):Prop where
 form:(v = .slice none 0 0/\news=[])\/(∃ c,v = .slice none 0 c/\news=[])\/∃ (ad:Addr) (c:Nat),v = .slice (some ad) news.length c/\∀ (j:Nat) (u:Value),vals[j]? = some u->w.cell? (ad.add j)=some u
 len:vals.length=news.length*esz
 one:∀ u∈vals,u.oneCell'=true
 row:∀ (i:Nat) (r:List D),news[i]? = some r->r.length=esz
 rd:∀ (i j:Nat) (r:List D) (x:D),news[i]? = some r->r[j]? = some x->∃ u,vals[i*esz+j]? = some u/\Rd S w u x
theorem Src.of_fun {ac:Nat} {news:List (List D)} {ad:Addr} {c:Nat} (f:Nat->Value) (ak:0<ac) (aj:∀ (i:Nat) (r:List D),news[i]? = some r->r.length=ac)
  (hc:∀ (i j:Nat) (r:List D) (x:D),news[i]? = some r->r[j]? = some x->w.cell? (ad.add (i*ac+j))=some (f (i*ac+j))/\Rd S w (f (i*ac+j)) x) :
  ∃ vals,Src S w ac (.slice (some ad) news.length c) news vals:=by
 have split:∀ q,q<news.length*ac->∃ i j r x,q=i*ac+j/\news[i]? = some r/\r[j]? = some x:=by
  intro q hq;have hi:q / ac<news.length:=Nat.div_lt_of_lt_mul (by grind);have hj:q % ac<ac:=Nat.mod_lt _ ak;have h1:news[q / ac]? = some (news[q / ac]):=Qo7 hi;have h2:=aj _ _ h1;refine ⟨q / ac,q % ac,news[q / ac],(news[q / ac])[q % ac]'QnI,?_,h1,Qo7 _⟩
  grind [Nat.mul_comm,Nat.div_add_mod]
 refine ⟨(List.range (news.length*ac)).map f,⟨.inr (.inr ⟨ad,c,rfl,fun j u hu=>?_⟩),by simp,fun u hu=>?_,aj,fun i j r x h1 h2=>?_⟩⟩
 ·grind
 ·obtain ⟨q,hq,rfl⟩:=List.mem_map.1 hu;obtain ⟨i,j',r,x,rfl,h1,h2⟩:=split q QnO;exact (hc i j' r x h1 h2).2.one
 ·have hi:i<news.length:=(QnS.1 h1).1;have hj:j<ac:=by have:=aj i r h1;have:=(QnS.1 h2).1;omega
  have al:(i+1)*ac<=news.length*ac:=QnY _ hi
  grind
theorem Q2j {ac:Nat} (al:0<ac) {hl:Nat->oP Ob} {av:AV} {news:List (List D)} {rx:List Nat} (h:AN ac hl av=some (news,rx))
  {st:St} (hR:Rel E β S st a w) {v:Value} (hv:RdA β S (look st.h) w (tmv a) v av) (hA:∀ l,l∈rx->look st.h l=hl l):∃ vals,Src S w ac v news vals:=by
 have ak:∀ v,(v = .slice none 0 0\/∃ c,v = .slice none 0 c)->Src S w ac v [] []:=fun v hv=>
  ⟨by grind,by simp,by simp,by simp,by simp⟩
 unfold AN at h;split at h
 ·rename_i s rows;cases hb:Nat.beq s ac with
  |false=>simp_all
  |true=>
   obtain rfl:=QnU hb;simp only [hb,QnW,Option.some.injEq,Prod.mk.injEq] at h;obtain ⟨rfl,rfl⟩:=h;rcases hv.d_inv.sl_inv with ⟨rfl,ad,cap,rfl⟩ | ⟨ad,cap,c,rfl,hS,an,ao,hc,hr⟩
   ·cases ad with
    |none=>exact ⟨[],ak _ (.inr ⟨cap,rfl⟩)⟩
    |some ad=>exact ⟨[],⟨.inr (.inr ⟨ad,cap,rfl,by simp⟩),by simp,by simp,by simp,by simp⟩⟩
   ·refine Src.of_fun (fun q=>c (q / s) (q % s)) al ao fun i j r x h1 h2=>?_
    have hj:j<s:=by grind
    simp_all [Nat.add_comm,Nat.add_mul_div_right,Nat.div_eq_of_lt,Nat.zero_add,Nat.add_mul_mod_self_right,Nat.mod_eq_of_lt]
 ·cases h;exact ⟨[],ak _ (.inl hv.nil_inv)⟩
 ·rename_i l;split at h
  ·rename_i e s rows a5;cases hb:Nat.beq s ac with
   |false=>simp [hb] at h
   |true=>
    obtain rfl:=QnU hb;simp only [hb,QnW,Option.some.injEq,Prod.mk.injEq] at h;obtain ⟨rfl,rfl⟩:=h;have ar:look st.h l=some (.arr e s rows):=by simp_all
    rcases RdA.arr_inv ar hv with ⟨_,rfl,rfl⟩ | ⟨b,cap,cs,ty,fz,au,rfl,hw,a6,an,a4⟩
    ·exact ⟨[],ak _ (.inl rfl)⟩
    ·rcases hR.hr.ob l _ ar with ⟨hn,_⟩ | ⟨b2,ax,aq,az,ao,a1,a3⟩
     ·rw [au] at hn;cases hn
     obtain rfl:b=b2:=by rw [au] at aq;injection aq
     refine Src.of_fun (fun q=>ax.getD q undef) al a1 fun i j r x h1 h2=>?_
     obtain ⟨u,hu,a2⟩:=a3 i j r x h1 h2;have ay:=(Qo6.1 hu).1;have aj:=KY ay;refine ⟨by rw [JJ,Nat.zero_add,VL az];exact aj,?_⟩;rw [hu] at aj;injection aj with aj
     rw [<- aj];exact a2
  ·cases h
 ·cases h
theorem Kb {t ty e:Nat} {i:TypeInfo} {z:Value} {aj base:Nat} (ht:P.underlying t=some (.slice e)) (hi:P.info? e=some i) (hz:i.zero=some z) (ao:i.size=aj) (ay:z.cells.size=aj) (ar:0<aj)
  {v:Value} {n:Nat} {xs:List Value} (al:w.ownsRow base e aj v n xs) {x:Value} {news:List (List D)} {vals:List Value} (ak:Src S w aj x news vals)
  (aw:n+news.length<=maxLen) (an:(n+news.length)*i.bytes<=140737488355328) (aq:base<=w.heap.size) :
  ∃ v' w',(Builtin.append_ #[t,t] ty #[v,x]).run P w = .ok v' w'/\w'.ownsRow base e aj v' (n+news.length) (xs++vals)/\w.grownBy w' v.ownBlock/\(v'.ownBlock=v.ownBlock\/v'.ownBlock=some w.heap.size):=by
 have ac:∀ c,x = .slice none 0 c->news=[]->∃ v' w',(Builtin.append_ #[t,t] ty #[v,x]).run P w = .ok v' w'/\w'.ownsRow base e aj v' (n+news.length) (xs++vals)/\w.grownBy w' v.ownBlock/\(v'.ownBlock=v.ownBlock\/v'.ownBlock=some w.heap.size):=by
  intro c hx hn;subst hx;subst hn;have hv:vals=[]:=Qo1 (by simpa using ak.len);subst hv;refine ⟨v,w,?_,by simpa using al,⟨rfl,rfl,rfl,Qof _,fun _ _ _=>rfl⟩,.inl rfl⟩;rcases al.2 with ⟨rfl,rfl⟩ | ⟨g,cap,a2,rfl,_,_,ax,_⟩
  ·simp [Builtin.append_,QA ht,sizeOf,Yd hi,Builtin.lenOf,Builtin.firstCells]
  ·simp [Builtin.append_,QA ht,sizeOf,Yd hi,Builtin.lenOf,Builtin.firstCells,ax,storeCells]
 rcases ak.form with ⟨h1,h2⟩ | ⟨c,h1,h2⟩ | ⟨ad,c,rfl,hc⟩
 ·exact ac 0 h1 h2
 ·exact ac c h1 h2
 ·obtain ⟨v',w',g1,g2,g3,_,g5⟩:=run_append_own_at (P:=P) w base t ty e i z aj i.bytes ht hi hz ao rfl ay ar v n xs al ad news.length c vals ak.len hc ak.one aw an aq;exact ⟨v',w',g1,g2,g3,g5⟩
theorem Hw {o:Oper} {c:Call} {s x:Operand} {t:Nat} (ho:o.op = .call c) (hc:c.callee = .builtin .append) (ha:c.args.toList=[s,x]) (hat:c.argTypes.toList=[t,t]) {w w':World} {v':Value}
  (h:(Builtin.append_ #[t,t] o.type #[a.eval s,a.eval x]).run P w = .ok v' w'):(execOp a.eval o).run P w = .ok (.value v') w':=by
 have aj:c.args = #[s,x]:=by grind
 have ac:c.argTypes = #[t,t]:=by grind
 simp_all [execOp,resolve,invoke,builtin,QnV,Qoe,QnR,List.map_toArray,Qol,List.map_nil]
def Dy (old:oP Nat) (h:List (Nat×Ob)):List (Nat×Ob):=
 match old with
 |some l=>rem l h
 |none=>h
theorem Sl {st:St} {w w':World} (hR:Rel E β S st a w) {ac e aj:Nat} {rows news:List (List D)} {vals:List Value} (bn:∀ (i j:Nat) (r:List D) (x:D),news[i]? = some r->r[j]? = some x->∃ u,vals[i*aj+j]? = some u/\Rd S w u x) (bp:∀ (i:Nat) (r:List D),news[i]? = some r->r.length=aj)
  (hn:look st.h ac=none) (hc:Uc st ac=true) {v v':Value} {base:Nat} {xs:List Value} (old:oP Nat)
  (an:∀ l,old=some l->(look st.h l).isSome=true)
  (ao:∀ b,v.ownBlock=some b->∃ l,old=some l/\β l=some b)
  (br:∀ (i j:Nat) (r:List D) (y:D),rows[i]? = some r->r[j]? = some y->∃ u,xs[i*aj+j]? = some u/\Rd S w u y) (bk:∀ (i:Nat) (r:List D),rows[i]? = some r->r.length=aj) (bm:xs.length=rows.length*aj)
  (a6:w'.ownsRow base e aj v' (rows.length+news.length) (xs++vals)) (hg:w.grownBy w' v.ownBlock) (hat:v'.ownBlock=v.ownBlock\/∀ b,v'.ownBlock=some b->w.heap.size<=b) :
  ∃ β' S',Rel E β' S' ⟨st.n,st.tm,(ac,.arr e aj (rows++news))::rem ac (Dy old st.h)⟩ a w' /\
   RdA β' S' (look ((ac,.arr e aj (rows++news))::rem ac (Dy old st.h))) w' (tmv a) v' (.arr ac):=by
 have aw:∀ k,look ((ac,Ob.arr e aj (rows++news))::rem ac (Dy old st.h)) k=if k=ac then some (.arr e aj (rows++news)) else if old=some k then none else look st.h k:=by
  intro k;rw [Wu];by_cases e1:k=ac
  ·simp [e1]
  ·rw [Qo4 e1,Qo4 e1];cases old with
   |none=>simp [Dy]
   |some l=>
    simp only [Dy,DS,Option.some.injEq];by_cases e2:k=l
    ·simp [e2]
    ·rw [Qo4 e2,Qo4 (fun h=>e2 h.symm)]
 have a8:∀ b,S b->w'.heap[b]? = w.heap[b]?:=fun b hS=>hg.block b (hR.hr.sb b hS) (fun e1=>by
  obtain ⟨l,hl,hb⟩:=ao b e1.symm;exact hR.hr.apart l b (an l hl) hb hS)
 have a3:∀ k b,(look st.h k).isSome=true->old≠some k->β k=some b->w'.heap[b]? = w.heap[b]?:=fun k b hs au hb=>hg.block b (Hs hR hs hb) (fun e1=>by
  obtain ⟨l,hl,ar⟩:=ao b e1.symm;exact au (by rw [hl,hR.hr.inj k l b hs (an l hl) hb ar]))
 have bu:(xs++vals).length=(rows.length+news.length)*aj:=a6.1;have a2:∀ (i j:Nat) (r:List D) (y:D),(rows++news)[i]? = some r->r[j]? = some y->∃ u,(xs++vals)[i*aj+j]? = some u/\Rd S w' u y:=by
  intro i j r y h1 h2;by_cases hi:i<rows.length
  ·rw [List.getElem?_append_left hi] at h1;obtain ⟨u,hu,hr⟩:=br i j r y h1 h2;refine ⟨u,?_,hr.mono (fun _ h=>h) a8⟩;rw [List.getElem?_append_left ((QnS.1 hu).1)];exact hu
  ·rw [List.getElem?_append_right QnI] at h1;obtain ⟨u,hu,hr⟩:=bn _ j r y h1 h2;refine ⟨u,?_,hr.mono (fun _ h=>h) a8⟩;have hm:i*aj=(i-rows.length)*aj+rows.length*aj:=by rw [<- Nat.add_mul];congr 1;omega
   rw [List.getElem?_append_right QnI,bm,show i*aj+j-rows.length*aj=(i-rows.length)*aj+j from QnI];exact hu
 have ba:∀ (i:Nat) (r:List D),(rows++news)[i]? = some r->r.length=aj:=by
  intro i r h1;by_cases hi:i<rows.length
  ·rw [List.getElem?_append_left hi] at h1;exact bk i r h1
  ·rw [List.getElem?_append_right QnI] at h1;exact bp _ r h1
 obtain ⟨gb,ax,bo,bq⟩:∃ gb:oP Nat,v'.ownBlock=gb/\(∀ β',β' ac=gb->ObR β' S (look ((ac,Ob.arr e aj (rows++news))::rem ac (Dy old st.h))) w' ac (.arr e aj (rows++news))) /\
   ∀ β',β' ac=gb->RdA β' S (look ((ac,.arr e aj (rows++news))::rem ac (Dy old st.h))) w' (tmv a) v' (.arr ac):=by
  rcases a6.2 with ⟨rfl,h0⟩ | ⟨g,cap,bc,rfl,_,hw,a4,bl,bh,a7⟩
  ·have bi:rows++news=[]:=Qo1 (by simpa using h0);refine ⟨none,rfl,fun β' hb=>.inl ⟨hb,bi⟩,fun β' hb=>.arr0 ac e aj hb (by rw [aw,Qo8 rfl,bi])⟩
  ·have bb:(rows++news).length=rows.length+news.length:=by simp
   refine ⟨some g,rfl,fun β' hb=>.inr ⟨g,bc,hb,hw,?_,ba,fun i j r y h1 h2=>?_⟩,fun β' hb=>?_⟩
   ·rw [bb,bh];exact QnY _ a4
   ·obtain ⟨u,hu,hr⟩:=a2 i j r y h1 h2;refine ⟨u,?_,hr⟩;rw [<- a7,List.getElem?_take] at hu;split at hu
    ·simpa using hu
    ·cases hu
   ·have:=RdA.arr (S:=S) (tm:=tmv a) (h:=look ((ac,Ob.arr e aj (rows++news))::rem ac (Dy old st.h))) ac g cap e aj (rows++news) bc e (0,0) hb (by rw [aw,Qo8 rfl]) hw bh (by rw [bb];exact a4) bl;rw [bb] at this;exact this
 have az:∀ k b,k≠ac->(look st.h k).isSome=true->old≠some k->β k=some b->gb=some b->False:=by
  intro k b _ hs au hb he;rcases hat with h | h
  ·obtain ⟨l,hl,ar⟩:=ao b (by rw [<- h,ax,he]);exact au (by rw [hl,hR.hr.inj k l b hs (an l hl) hb ar])
  ·have:=h b (by rw [ax,he]);have:=Hs hR hs hb;omega
 have al:∀ k,k≠ac->(look ((ac,Ob.arr e aj (rows++news))::rem ac (Dy old st.h)) k).isSome=true->(look st.h k).isSome=true/\old≠some k:=by
  intro k hk hs;rw [aw,Qo4 hk] at hs;by_cases e1:old=some k
  ·rw [Qo8 e1] at hs;cases hs
  ·rw [Qo4 e1] at hs;exact ⟨hs,e1⟩
 have bj:old≠some ac:=fun e1=>by have:=an ac e1;rw [hn] at this;cases this
 refine ⟨SL β ac gb,S,?_,bq _ (by simp [SL])⟩;refine hR.upd (fun _ h=>h) a8 (fun k=>k=ac\/old=some k) (fun k hk=>?_) (fun k hk=>?_) (fun k o hk ho=>?_) ?_ ?_ ?_ (fun b hS=>Qoi (hR.hr.sb b hS) hg.size) hR.hr.sfr ?_
 ·have a1:k≠ac:=fun h=>hk (.inl h)
  have bg:old≠some k:=fun h=>hk (.inr h)
  exact ⟨by simp [SL,a1],by rw [aw,Qo4 a1,Qo4 bg],fun b hs hb=>a3 k b hs bg hb⟩
 ·rcases hk with rfl | hk
  ·exact .inr hc
  ·left;have a1:k≠ac:=fun h=>bj (h▸hk)
   have aq:look ((ac,Ob.arr e aj (rows++news))::rem ac (Dy old st.h)) k=none:=by rw [aw,Qo4 a1,Qo8 hk]
   exact ⟨by simp [SL,a1],fun _=>aq,fun _ _ _ _=>.inl aq,fun b cs ty fz hs=>(by rw [aq] at hs;cases hs),fun _ _ _=>.inl aq⟩
 ·by_cases e1:k=ac
  ·subst e1;rw [aw,Qo8 rfl] at ho;injection ho with ho
   subst ho;exact bo _ (by simp [SL])
  ·rcases hk with h | h
   ·exact absurd h e1
   ·rw [aw,Qo4 e1,Qo8 h] at ho;cases ho
 ·intro k k' b h1 h2 h3 h4;unfold SL at h3 h4;by_cases e1:k=ac <;> by_cases e2:k'=ac
  ·rw [e1,e2]
  ·rw [Qo8 e1] at h3;rw [Qo4 e2] at h4;obtain ⟨hs,au⟩:=al k' e2 h2;exact (az k' b e2 hs au h4 h3).elim
  ·rw [Qo4 e1] at h3;rw [Qo8 e2] at h4;obtain ⟨hs,au⟩:=al k e1 h1;exact (az k b e1 hs au h3 h4).elim
  ·rw [Qo4 e1] at h3;rw [Qo4 e2] at h4;exact hR.hr.inj k k' b (al k e1 h1).1 (al k' e2 h2).1 h3 h4
 ·intro k b h1 h2 hS;unfold SL at h2;by_cases e1:k=ac
  ·rw [Qo8 e1] at h2;rcases hat with h | h
   ·obtain ⟨l,hl,ar⟩:=ao b (by rw [<- h,ax,h2]);exact hR.hr.apart l b (an l hl) ar hS
   ·have:=h b (by rw [ax,h2]);have:=hR.hr.sb b hS;omega
  ·rw [Qo4 e1] at h2;exact hR.hr.apart k b (al k e1 h1).1 h2 hS
 ·intro k b h1 h2;unfold SL at h2;by_cases e1:k=ac
  ·rw [Qo8 e1] at h2;rcases hat with h | h
   ·obtain ⟨l,hl,ar⟩:=ao b (by rw [<- h,ax,h2]);exact hR.hr.own l b (an l hl) ar
   ·have:=h b (by rw [ax,h2]);right;have:=hR.hr.fr.size;omega
  ·rw [Qo4 e1] at h2;exact hR.hr.own k b (al k e1 h1).1 h2
 ·have fr:=hR.hr.fr;refine ⟨hg.os.trans fr.os,hg.tape.trans fr.tape,hg.output.trans fr.output,Nat.le_trans fr.size hg.size,fun b hb hM=>(hg.block b (Qoi hb fr.size) (fun e1=>?_)).trans (fr.block b hb hM)⟩;obtain ⟨l,hl,ar⟩:=ao b e1.symm;rcases hR.hr.own l b (an l hl) ar with h | h
  ·exact hM h
  ·omega
theorem E5 {st:St} {w w':World} (hR:Rel E β S st a w) {ac e aj:Nat} {rows news:List (List D)} {vals:List Value} {x:Value} (ak:Src S w aj x news vals)
  (hn:look st.h ac=none) (hc:Uc st ac=true) {v v':Value} {base:Nat} {xs:List Value} (old:oP Nat)
  (an:∀ l,old=some l->(look st.h l).isSome=true)
  (aq:∀ b,v.ownBlock=some b->∃ l,old=some l/\β l=some b)
  (au:∀ (i j:Nat) (r:List D) (y:D),rows[i]? = some r->r[j]? = some y->∃ u,xs[i*aj+j]? = some u/\Rd S w u y) (ao:∀ (i:Nat) (r:List D),rows[i]? = some r->r.length=aj) (ar:xs.length=rows.length*aj)
  (al:w'.ownsRow base e aj v' (rows.length+news.length) (xs++vals)) (hg:w.grownBy w' v.ownBlock) (hat:v'.ownBlock=v.ownBlock\/v'.ownBlock=some w.heap.size) :
  ∃ β' S',Rel E β' S' ⟨st.n,st.tm,(ac,.arr e aj (rows++news))::rem ac (Dy old st.h)⟩ a w' /\
   RdA β' S' (look ((ac,.arr e aj (rows++news))::rem ac (Dy old st.h))) w' (tmv a) v' (.arr ac):=
 Sl hR ak.rd ak.row hn hc old an aq au ao ar al hg (hat.imp id fun h b hb=>by rw [h] at hb;injection hb with hb;omega)
theorem Q4S {tt:TT} (hT:TOk P tt) {o:Oper} {c:Call} {s x:Operand} {t:Nat} (ho:o.op = .call c) (ay:c.callee = .builtin .append) (ha:c.args.toList=[s,x]) (hat:c.argTypes.toList=[t,t]) {g:Bool} {al:Nat} {ev:Operand->AV} {hl:Nat->oP Ob} {k:Dl->oP R} {r:R}
  (h:Q4Y tt al g hl t (ev s) (ev x) k=some r):∃ dl,k dl=some r/\(g=true->Ge P E o ev hl dl):=by
 have bm:c.args = #[s,x]:=by grind
 have bq:s∈o.op.operands.toList:=by grind [Op.operands,Call.operands]
 have bo:x∈o.op.operands.toList:=by simp [ho,Op.operands,Call.operands,ay,bm]
 unfold Q4Y at h
 ·split at h
  case h_2=>cases h
  rename_i e ak hk;split at h
  case h_2=>cases h
  rename_i ei cj;cases hc:(Nat.ble 1 ei.bytes&&Nat.beq ei.zero.length ak) with
  |false=>simp_all
  |true=>
   simp only [hc,QnW] at h;simp only [QnT] at hc;have au:=Qo3 hc.1;split at h
   case h_2=>cases h
   rename_i news rx az;obtain ⟨ti,cx,cm⟩:=Xq hk QnK;obtain ⟨hu,ao,inf,aw,ba⟩:=(hT t ti cx).ksl _ _ cm;obtain ⟨c2,ar,c7,bb,z,hz,co⟩:=(hT e ei cj).inf;rw [aw] at ar;injection ar with ar
   subst ar;have a2:z.cells.size=ak:=by rw [<- Qo5,co];exact QnU hc.2
   split at h
   ·-- nil
    rename_i a7;obtain ⟨_,h,ac⟩:=QO h;obtain ⟨hn,h⟩:=Uz h;refine ⟨_,h,fun hg=>?_⟩;have ac:=RY (ac hg);intro β S st a w hR hO hA a5 K Q hK;have aq:look st.h al=none:=by rw [hA al (.inr (by simp [wrL]))];exact hn
    have a3:Uc st al=true:=by simpa [ZQ,aq] using a5
    have hv:=(a7▸hO.at bq).nil_inv;obtain ⟨vals,aj⟩:=Q2j ao az hR (hO.at bo) (fun l a1=>hA l (.inl a1));have bg:news.length<=140737488355328:=Nat.le_trans (by have:=Qog news.length au;omega) ac;obtain ⟨v',w',g1,g2,g3,g4⟩:=Kb (ty:=o.type) hu aw hz ba a2 ao (World.ownsRow_nil w w.heap.size e ak) aj (by unfold maxLen;omega) (by rw [bb];simpa using ac) (Qof _);unfold Oper.wp;rw [Hw ho ay ha hat (by rw [hv];exact g1)];refine hK _ _ ?_;have:=E5 (rows:=[]) (v:=.slice none 0 0) hR aj aq a3 none (fun _ h=>by cases h) (fun b h=>by simp [Value.ownBlock] at h) (fun i j r y h1=>by simp at h1) (fun i r h1=>by simp at h1) QnK g2 g3 g4;exact this
   ·-- a full slice
    rename_i s0 rows a7;cases hb:Nat.beq s0 ak with
    |false=>simp [hb] at h
    |true=>
     simp only [hb,QnW] at h;obtain rfl:=QnU hb;obtain ⟨_,h,a6⟩:=QO h;obtain ⟨_,h,ac⟩:=QO h;obtain ⟨hn,h⟩:=Uz h;refine ⟨_,h,fun hg=>?_⟩;have ac:=RY (ac hg);have a6:news≠[]:=fun e=>by have:=a6 hg;rw [e] at this;cases this
     intro β S st a w hR hO hA a5 K Q hK;have aq:look st.h al=none:=by rw [hA al (.inr (by simp [wrL]))];exact hn
     have a3:Uc st al=true:=by simpa [ZQ,aq] using a5
     obtain ⟨ad,hv,bp⟩:=(a7▸hO.at bq).fs_inv;obtain ⟨vals,aj⟩:=Q2j ao az hR (hO.at bo) (fun l a1=>hA l (.inl a1));have bg:rows.length+news.length<=140737488355328:=Nat.le_trans (by have:=Qog (rows.length+news.length) au;omega) ac;have db:0<news.length:=List.length_pos_iff.2 a6;obtain ⟨sa,sc,cn,cy⟩:∃ (sa:Addr) (sc:Nat),a.eval x = .slice (some sa) news.length sc/\∀ (j:Nat) (u:Value),vals[j]? = some u->w.cell? (sa.add j)=some u:=by
      rcases aj.form with ⟨_,h2⟩ | ⟨_,_,h2⟩ | ⟨sa,sc,h1,h2⟩
      ·exact absurd h2 a6
      ·exact absurd h2 a6
      ·exact ⟨sa,sc,h1,h2⟩
     obtain ⟨ca,ax⟩:=Q2j (hl:=hl) (av:=.d (.sl s0 rows)) (news:=rows) (rx:=[]) ao (by simp [AN]) hR (.d _ _ bp) (fun l a1=>by cases a1);have bh:∀ c,a.eval s = .slice none 0 c->rows=[]->o.wp P a w K Q:=by
      intro c b7 a4;have cu:a.eval s = .slice none 0 0:=by
       rw [hv,a4] at b7 ⊢;injection b7 with h1 h2 h3
       rw [h1];rfl
      subst a4;obtain ⟨v',w',g1,g2,g3,g4⟩:=Kb (ty:=o.type) hu aw hz ba a2 ao (World.ownsRow_nil w w.heap.size e s0) aj (by unfold maxLen;omega) (by rw [bb];simpa using ac) (Qof _);unfold Oper.wp;rw [Hw ho ay ha hat (by rw [cu];exact g1)];refine hK _ _ ?_;exact E5 (rows:=[]) (v:=.slice none 0 0) hR aj aq a3 none (fun _ h=>by cases h) (fun b h=>by simp [Value.ownBlock] at h) (fun i j r y h1=>by simp at h1) (fun i r h1=>by simp at h1) QnK g2 g3 g4
     rcases ax.form with ⟨h1,h2⟩ | ⟨c,h1,h2⟩ | ⟨oa,oc,h1,h2⟩
     ·exact bh _ h1 h2
     ·exact bh _ h1 h2
     ·have da:oc=rows.length:=by
       rw [hv] at h1;injection h1 with _ _ h3
       exact h3.symm
      obtain ⟨v',w',g1,g2,g3⟩:=run_append_arg_grows (P:=P) w t o.type e inf z s0 inf.bytes hu aw hz ba rfl a2 ao oa rows.length oc ca ax.len h2 sa news.length sc vals aj.len cy QnI (by unfold maxLen;omega) (by rw [bb];exact ac);unfold Oper.wp;rw [Hw ho ay ha hat (by rw [h1,cn];exact g1)];refine hK _ _ ?_;refine Sl (rows:=rows) (v:=.slice none 0 0) hR aj.rd aj.row aq a3 none (fun _ h=>by cases h) (fun b h=>by simp [Value.ownBlock] at h) ax.rd ax.row ax.len g2 g3 (.inr fun b hb=>?_);rcases g2.2 with ⟨rfl,_⟩ | ⟨g,cap,c5,rfl,c8,_⟩
      ·simp [Value.ownBlock] at hb
      ·simp [Value.ownBlock] at hb;omega
   ·-- an array of the call's own
    rename_i l a7;split at h
    ·rename_i e' s' rows bz;cases hb:(Nat.beq e e'&&Nat.beq ak s') with
     |false=>simp [hb] at h
     |true=>
      simp only [hb,QnW] at h;simp only [QnT] at hb;obtain rfl:=QnU hb.1;obtain rfl:=QnU hb.2;obtain ⟨_,h,ac⟩:=QO h;obtain ⟨hn,h⟩:=Uz h;refine ⟨_,h,fun hg=>?_⟩;have ac:=RY (ac hg);intro β S st a w hR hO hA a5 K Q hK;have aq:look st.h al=none:=by rw [hA al (.inr (by simp [wrL]))];exact hn
      have a8:look st.h l=some (.arr e ak rows):=by rw [hA l (.inl QnK)];exact bz
      have a3:Uc st al=true:=by simp [ZQ,aq] at a5;exact a5
      obtain ⟨vals,aj⟩:=Q2j ao az hR (hO.at bo) (fun l a1=>hA l (.inl (by simp [a1])));have bg:rows.length+news.length<=140737488355328:=Nat.le_trans (by have:=Qog (rows.length+news.length) au;omega) ac;have b0:∀ (base:Nat) (xs:List Value) (v:Value),a.eval s=v->w.ownsRow base e ak v rows.length xs->base<=w.heap.size->(∀ b,v.ownBlock=some b->β l=some b) ->
        (∀ (i j:Nat) (r:List D) (y:D),rows[i]? = some r->r[j]? = some y->∃ u,xs[i*ak+j]? = some u/\Rd S w u y)->(∀ (i:Nat) (r:List D),rows[i]? = some r->r.length=ak)->o.wp P a w K Q:=by
       intro base xs v hv bi bl b6 cr b9;obtain ⟨v',w',g1,g2,g3,g4⟩:=Kb (ty:=o.type) hu aw hz ba a2 ao bi aj (by unfold maxLen;omega) (by rw [bb];exact ac) bl;unfold Oper.wp;rw [Hw ho ay ha hat (by rw [hv];exact g1)];refine hK _ _ ?_;exact E5 (rows:=rows) (v:=v) hR aj aq a3 (some l) (fun l' h=>by injection h with h;subst h;simp [a8]) (fun b h=>⟨l,rfl,b6 b h⟩) cr b9 bi.1 g2 g3 g4
      rcases RdA.arr_inv a8 (a7▸hO.at bq) with ⟨_,a4,hv⟩ | ⟨b,cap,cs,ty,fz,bn,hv,hw,b5,bx,cb⟩
      ·have:=World.ownsRow_nil w w.heap.size e ak;exact b0 w.heap.size [] _ hv (by rw [a4];exact this) (Qof _) (fun b h=>by simp [Value.ownBlock] at h) (fun i j r y h1=>by rw [a4] at h1;simp at h1) (fun i r h1=>by rw [a4] at h1;simp at h1)
      ·rcases hR.hr.ob l _ a8 with ⟨ce,_⟩ | ⟨b2,cq,b4,bk,c3,b1,bp⟩
       ·rw [bn] at ce;cases ce
       obtain rfl:b=b2:=by rw [bn] at b4;injection b4
       obtain rfl:cs=cq:=by rw [hw] at bk;injection bk with h1;injection h1
       refine b0 0 (cs.toList.take (rows.length*ak)) _ hv ⟨by simp;omega,.inr ⟨b,cap,cs,rfl,Nat.zero_le _,bk,bx,cb,b5,rfl⟩⟩ (Nat.zero_le _) (fun b3 h=>by simp [Value.ownBlock] at h;subst h;exact bn) (fun i j r y h1 h2=>?_) b1;obtain ⟨u,cg,cp⟩:=bp i j r y h1 h2;have hi:i<rows.length:=(QnS.1 h1).1;have hj:j<ak:=by have:=b1 i r h1;have:=(QnS.1 h2).1;omega
       have c4:(i+1)*ak<=rows.length*ak:=QnY _ hi;have cw:(i+1)*ak=i*ak+ak:=Qok i _;exact ⟨u,by rw [List.getElem?_take,Qo8 QnI];simpa using cg,cp⟩
    ·cases h
   ·cases h
end
end Go.Vx
namespace Go.Vx
section
variable {P:Program} {E:Env} {R:Type}
def Kg (h:Nat->oP Ob):List (Nat×oP Ob)->Nat->oP Ob
 |[]=>h
 |(l,o)::r=>Kg (fun k=>if k=l then o else h k) r
theorem Kx:∀ (wr:List (Nat×oP Ob)) (h:List (Nat×Ob)),look (NE h wr)=Kg (look h) wr
 |[],h=>rfl
 |(l,some o)::r,h=>by
  rw [NE,Kg,Kx r];congr 1;funext k;exact Wu l k o h
 |(l,none)::r,h=>by
  rw [NE,Kg,Kx r];congr 1;funext k;exact DS l k h
theorem Ut:∀ {wr:List (Nat×oP Ob)} {h:Nat->oP Ob} {l:Nat},l ∉ wr.map (·.1)->Kg h wr l=h l
 |[],_,_,_=>rfl
 |(k,o)::r,h,l,hn=>by
  simp only [Qol,Qoa,not_or] at hn;rw [Kg,Ut hn.2,Qo4 hn.1]
structure CallOut (β:Nat->oP Nat) (S:Nat->Prop) (h:Nat->oP Ob) (w:World) (dl:Dl) (β':Nat->oP Nat) (S':Nat->Prop) (w':World) (v:Value):Prop where
 hs:∀ b,S b->S' b
 sf:∀ b,S' b->S b\/w.heap.size<=b\/∃ l,l∈wrL dl/\(h l).isSome=true/\β l=some b
 sb:∀ b,S' b->b<w'.heap.size
 fr:Fr (fun b=>∃ l,l∈wrL dl/\(h l).isSome=true/\β l=some b) w w'
 bsame:∀ l,l ∉ wrL dl->β' l=β l
 obs:∀ l o,l∈wrL dl->Kg h dl.wr l=some o->ObR β' S' (Kg h dl.wr) w' l o
 keep:∀ l,l∈wrL dl->(h l).isSome=true->Keep β h w β' (Kg h dl.wr) w' l
 blk:∀ l b,l∈wrL dl->(Kg h dl.wr l).isSome=true->β' l=some b->(w.heap.size<=b\/∃ l0,l0∈wrL dl/\(h l0).isSome=true/\β l0=some b)/\¬ S' b
 inj:∀ l l' b,l∈wrL dl->l'∈wrL dl->(Kg h dl.wr l).isSome=true->(Kg h dl.wr l').isSome=true->β' l=some b->β' l'=some b->l=l'
 none:∀ l,l∈wrL dl->h l=none->Kg h dl.wr l=none->β' l=β l
 res:RdA β' S' (Kg h dl.wr) w' tm0 v dl.v
 gd:∀ t,gds t dl.v=false
structure Objs (β:Nat->oP Nat) (S:Nat->Prop) (h:Nat->oP Ob) (w:World):Prop where
 ob:∀ l o,h l=some o->ObR β S h w l o
 inj:∀ l l' b,(h l).isSome=true->(h l').isSome=true->β l=some b->β l'=some b->l=l'
 apart:∀ l b,(h l).isSome=true->β l=some b->¬ S b
 sb:∀ b,S b->b<w.heap.size
def ArgsRd (β:Nat->oP Nat) (S:Nat->Prop) (h:Nat->oP Ob) (w:World) (args:List Value) (ac:List AV):Prop:=
 args.length=ac.length/\∀ (i:Nat) (v:Value) (av:AV),args[i]? = some v->ac[i]? = some av->RdA β S h w tm0 v av
def ZA (P:Program) (f:Nat) (avs:List AV) (hl:Nat->oP Ob) (dl:Dl):Prop:=
 (∃ fn, P.funcs[f]? = some fn /\ fn.body.isSome = true /\ (fn.name == "runtime.NumGoroutine") = false) /\
 ∀ β S h w args,Objs β S h w->ArgsRd β S h w args avs->(∀ l,l∈dl.rd\/l∈wrL dl->h l=hl l) ->
  Calls P f args.toArray w fun e w'=>∃ v β' S',e = .returned v/\CallOut β S h w dl β' S' w' v
def EH (P:Program) (spec:Q3X):Prop:=
 ∀ (R:Type) (f aj:Nat) (g:Bool) (ac:List AV) (hl:Nat->oP Ob) (k:Dl->oP R) (r:R),spec R f aj g ac hl k=some r ->
  ∃ dl,k dl=some r/\(g=true->ZA P f ac hl dl)
theorem Rel.objs {β:Nat->oP Nat} {S:Nat->Prop} {st:St} {a:Act} {w:World} (hR:Rel E β S st a w):Objs β S (look st.h) w:=⟨hR.hr.ob,hR.hr.inj,hR.hr.apart,hR.hr.sb⟩
theorem Qas {β:Nat->oP Nat} {S S2:Nat->Prop} {h:Nat->oP Ob} {w:World} {tm:Nat->Value} {v:Value} {av:AV} (hv:RdA β S h w tm v av) (hs:Sx av=true):RdA β S2 h w tm v av:=by
 have hL:∀ (l:List AV) (i:Nat) (x:AV),l[i]? = some x->RE l=true->Sx x=true:=by
  intro l;induction l with
  |nil=>simp_all
  |cons a r ih=>
   intro i x h hs;simp only [RE,QnT] at hs
   grind
 induction hv with
 |top v=>exact .top v
 |d v x hx=>cases hx with
  |int k n=>exact .d _ _ (.int k n)
  |bool b=>exact .d _ _ (.bool b)
  |str s=>exact .d _ _ (.str s)
  |sl0 a c s=>trivial
  |sl=>simp [Sx] at hs
 |nil=>exact .nil
 |ag cs l hl _ ih=>exact .ag cs l hl fun i x hx=>ih i x hx (hL l i x hx (by assumption))
 |tup cs l hl _ ih=>exact .tup cs l hl fun i x hx=>ih i x hx (hL l i x hx (by simpa [Sx] using hs))
 |fn=>simp [Sx] at hs
 |ptr l off b hb=>exact .ptr l off b hb
 |sa v l t b hb hv=>exact .sa v l t b hb hv
 |el=>simp [Sx] at hs
 |fs=>simp [Sx] at hs
 |mpd=>simp [Sx] at hs
 |ex v=>exact .ex v
 |arr0 l e s hb hh=>exact .arr0 l e s hb hh
 |arr l b cap e s rows cs ty fz hb hh hw al aj ak=>exact .arr l b cap e s rows cs ty fz hb hh hw al aj ak
 |mp l b t f hb hh=>exact .mp l b t f hb hh
 |ap l i off b e s rows hb hh=>exact .ap l i off b e s rows hb hh
 |dang v av l hl hh h1=>exact .dang v av l hl hh h1
 |gdT=>simp [Sx] at hs
 |gdF=>simp [Sx] at hs
theorem Qbl {β β':Nat->oP Nat} {S S':Nat->Prop} {st:St} {a:Act} {w w':World} {v:Value} (hR:Rel E β S st a w) {dl:Dl} (a3:ZQ st dl.wr=true) (hc:CallOut β S (look st.h) w dl β' S' w' v) :
  Rel E β' S' ⟨st.n,st.tm,NE st.h dl.wr⟩ a w':=by
 have ak:=Kx dl.wr st.h;have az:∀ b,S b->w'.heap[b]? = w.heap[b]?:=fun b hS=>hc.fr.block b (hR.hr.sb b hS) (fun ⟨l,_,hs,hb⟩=>hR.hr.apart l b hs hb hS)
 have aq:∀ l,l∈wrL dl->look st.h l=none->Kg (look st.h) dl.wr l=none\/Uc st l=true:=by
  intro l hl hn;have:∀ (wr:List (Nat×oP Ob)) (h:Nat->oP Ob),ZQ st wr=true->h l=none->Kg h wr l=none\/Uc st l=true:=by
   intro wr;induction wr with
   |nil=>intro h _ hn;exact .inl hn
   |cons x r ih=>
    intro h ar a2;obtain ⟨k,o⟩:=x;simp only [ZQ,QnT] at ar;by_cases e:l=k
    ·subst e;cases o with
     |none=>exact ih _ ar.2 QnK
     |some o=>
      simp_all
    ·exact ih _ ar.2 QnO
  simp_all
 refine hR.upd hc.hs az (fun l=>l∈wrL dl) (fun l hl=>?_) (fun l hl=>?_) (fun l o hl ho=>?_) ?_ ?_ ?_ hc.sb ?_ ?_
 ·refine ⟨hc.bsame l hl,by rw [ak];exact Ut hl,fun b hs hb=>hc.fr.block b (Hs hR hs hb) (fun ⟨l',ao,an,aj⟩=>?_)⟩;exact hl (by rw [hR.hr.inj l l' b hs an hb aj];exact ao)
 ·cases hs:look st.h l with
  |some o=>left;rw [ak];exact hc.keep l hl (by simp [hs])
  |none=>
   rcases aq l hl hs with h | h
   ·left;refine ⟨?_,fun _=>QnO,fun e s rows h'=>QnO,fun b cs ty fz h'=>QnO,fun t f h'=>(by rw [hs] at h';cases h')⟩;exact hc.none l hl hs h
   simp_all
 ·rw [ak] at ho ⊢;exact hc.obs l o hl ho
 ·intro l l' b h1 h2 h3 h4;rw [ak] at h1 h2;by_cases e1:l∈wrL dl <;> by_cases e2:l'∈wrL dl
  ·exact hc.inj l l' b e1 e2 h1 h2 h3 h4
  ·rw [Ut e2] at h2;rw [hc.bsame l' e2] at h4;rcases (hc.blk l b e1 h1 h3).1 with h | ⟨l0,aw,hs,hb⟩
   ·have:=Hs hR h2 h4;omega
   ·exact absurd aw (by rw [hR.hr.inj l0 l' b hs h2 hb h4];exact e2)
  ·rw [Ut e1] at h1;rw [hc.bsame l e1] at h3;rcases (hc.blk l' b e2 h2 h4).1 with h | ⟨l0,aw,hs,hb⟩
   ·have:=Hs hR h1 h3;omega
   ·exact absurd aw (by rw [<- hR.hr.inj l l0 b h1 hs h3 hb];exact e1)
  ·rw [Ut e1] at h1;rw [Ut e2] at h2;rw [hc.bsame l e1] at h3;rw [hc.bsame l' e2] at h4;exact hR.hr.inj l l' b h1 h2 h3 h4
 ·intro l b h1 h2 hS;rw [ak] at h1;by_cases e1:l∈wrL dl
  ·exact (hc.blk l b e1 h1 h2).2 hS
  ·rw [Ut e1] at h1;rw [hc.bsame l e1] at h2;rcases hc.sf b hS with h | h | ⟨l',ao,an,aj⟩
   ·exact hR.hr.apart l b h1 h2 h
   ·have:=Hs hR h1 h2;omega
   ·exact e1 (by rw [hR.hr.inj l l' b h1 an h2 aj];exact ao)
 ·intro l b h1 h2;rw [ak] at h1;by_cases e1:l∈wrL dl
  ·rcases (hc.blk l b e1 h1 h2).1 with h | ⟨l0,_,hs,hb⟩
   ·right;have:=hR.hr.fr.size;omega
   ·exact hR.hr.own l0 b hs hb
  ·rw [Ut e1] at h1;rw [hc.bsame l e1] at h2;exact hR.hr.own l b h1 h2
 ·intro b hS;rcases hc.sf b hS with h | h | ⟨l',ao,an,aj⟩
  ·exact hR.hr.sfr b h
  ·right;right;have:=hR.hr.fr.size;omega
  ·exact .inr (hR.hr.own l' b an aj)
 ·have fr:=hR.hr.fr;refine ⟨hc.fr.os.trans fr.os,hc.fr.tape.trans fr.tape,hc.fr.output.trans fr.output,Nat.le_trans fr.size hc.fr.size,fun b hb hM=>(hc.fr.block b (Qoi hb fr.size) (fun ⟨l,_,hs,aj⟩=>?_)).trans (fr.block b hb hM)⟩;rcases hR.hr.own l b hs aj with h | h
  all_goals grind
end
end Go.Vx
namespace Go.Vx
variable {hl:Nat->oP Ob} {ev:Operand->AV} {β:Nat->oP Nat} {S:Nat->Prop} {w:World} {h:Nat->oP Ob} {tm:Nat->Value} {o:Oper} {v:Value}
section
variable {P:Program} {E:Env} {R:Type}
def fzS (β:Nat->oP Nat) (S:Nat->Prop) (bs:List Nat):Nat->Prop:=fun b=>S b\/∃ l,l∈bs/\β l=some b
def fzH (h:Nat->oP Ob) (bs:List Nat):Nat->oP Ob:=fun k=>if k∈bs then none else h k
theorem QcO (β:Nat->oP Nat) (h:Nat->oP Ob) (w:World) (bs:List Nat) (l:Nat):Keep β h w β (fzH h bs) w l:=by
 by_cases hl:l∈bs
 ·have hn:fzH h bs l=none:=by grind [fzH]
  exact ⟨rfl,fun _=>hn,fun _ _ _ _=>.inl hn,fun b cs ty fz hs=>QnO,fun _ _ _=>.inl hn⟩
 ·have hn:fzH h bs l=h l:=by simp [fzH,hl]
  exact ⟨rfl,fun h=>by simp_all,fun e s rows hh=>.inr ⟨rows,by simp_all,rfl⟩,fun b cs ty fz _ _ hw=>⟨cs,ty,fz,hw,rfl⟩,fun _ f hh=>.inr ⟨f,by rw [hn];exact hh⟩⟩
theorem Q8q {av:AV} (bs:List Nat) (hv:RdA β S h w tm v av):RdA β (fzS β S bs) (fzH h bs) w tm v av:=
 hv.mono (fun _ hb=>.inl hb) (fun _ _=>rfl) (fun _ _=>QcO ..) (fun _ _=>rfl)
theorem Objs.fz {β:Nat->oP Nat} {S:Nat->Prop} {h:Nat->oP Ob} {w:World} (hO:Objs β S h w) (bs:List Nat) (ar:∀ l,l∈bs->∃ e s rows,h l=some (.arr e s rows)) (az:∀ l b,(h l).isSome=true->β l=some b->b<w.heap.size):Objs β (fzS β S bs) (fzH h bs) w:=by
 have ac:∀ l,(fzH h bs l).isSome=true->(h l).isSome=true/\l ∉ bs:=by
  grind [fzH]
 refine ⟨fun l o ho=>?_,fun l l' b h1 h2=>hO.inj l l' b (ac l h1).1 (ac l' h2).1,fun l b h1 h2 hS=>?_,fun b hS=>?_⟩
 ·have ax:h l=some o:=by
   grind [fzH]
  have aj:=hO.ob l o ax;cases o with
  |box cells=>
   obtain ⟨b,ty,cs,fz,hb,hw,hf,ak,hr⟩:=aj;exact ⟨b,ty,cs,fz,hb,hw,hf,ak,fun i x hx=>Q8q bs (hr i x hx)⟩
  |arr e s rows=>
   rcases aj with h0 | ⟨b,cs,hb,hw,ak,aw,hr⟩
   ·exact .inl h0
   ·refine .inr ⟨b,cs,hb,hw,ak,aw,fun i j r x h4 h5=>?_⟩;obtain ⟨v,hv,au⟩:=hr i j r x h4 h5;exact ⟨v,hv,au.mono (fun _ hb=>.inl hb) (fun _ _=>rfl)⟩
  |mp t f=>exact aj
 ·obtain ⟨ao,hn⟩:=ac l h1;rcases hS with hS | ⟨l',an,ay⟩
  ·exact hO.apart l b ao h2 hS
  ·obtain ⟨e,s,rows,hh⟩:=ar l' an;exact hn (by rw [hO.inj l l' b ao (by simp [hh]) h2 ay];exact an)
 ·rcases hS with hS | ⟨l,hl,hb⟩
  ·exact hO.sb b hS
  grind
theorem Q6A {l e s:Nat} {rows:List (List D)} (hO:Objs β S h w) (hh:h l=some (.arr e s rows)) (hv:RdA β S h w tm v (.arr l)) {S':Nat->Prop} (hS:∀ b,S b->S' b) (hb:∀ b,β l=some b->S' b) :
  Rd S' w v (.sl s rows):=by
 rcases RdA.arr_inv hh hv with ⟨_,rfl,rfl⟩ | ⟨b,cap,cs,ty,fz,ao,rfl,hw,aw,ac,_⟩
 ·exact .sl0 _ _ _
 ·rcases hO.ob l _ hh with ⟨hn,_⟩ | ⟨b2,aj,ax,ak,al,an,aq⟩
  ·simp_all
  obtain rfl:b=b2:=by simp_all
  have hR:UC S' w aj s rows:=⟨al,an,fun i j r x h1 h2=>by
   obtain ⟨u,hu,hr⟩:=aq i j r x h1 h2;exact ⟨u,hu,hr.mono hS (fun _ _=>rfl)⟩⟩
  exact hR.rd ak (hb b ao) ac
theorem Fz {av ac:AV} {bs:List Nat} (h:Q74 hl av=some (ac,bs)) :
  (bs=[]/\ac=av/\AK av=true)\/∃ l e s rows,av = .arr l/\ac = .d (.sl s rows)/\bs=[l]/\hl l=some (.arr e s rows):=by
 unfold Q74 at h
 grind
theorem CK {hl:Nat->oP Ob}:∀ {l l':List AV} {bs:List Nat},ES hl l=some (l',bs)->l'.length=l.length/\∀ (i:Nat) (av:AV),l[i]? = some av->∃ ac b,l'[i]? = some ac/\Q74 hl av=some (ac,b)/\∀ x∈b,x∈bs
 |[],l',bs,h=>by
  simp only [ES,Option.some.injEq,Prod.mk.injEq] at h;obtain ⟨rfl,rfl⟩:=h;exact ⟨rfl,fun i av h=>by simp at h⟩
 |a::r,l',bs,h=>by
  simp only [ES] at h;split at h
  ·rename_i a' b ha;split at h
   ·rename_i r' b' hr;simp only [Option.some.injEq,Prod.mk.injEq] at h;obtain ⟨rfl,rfl⟩:=h;obtain ⟨h1,h2⟩:=CK hr;refine ⟨by simp [h1],fun i av hi=>?_⟩;cases i with
    |zero=>simp at hi;subst hi;exact ⟨a',b,rfl,ha,fun x hx=>by simp [hx]⟩
    |succ i=>
     obtain ⟨ac,b2,g1,g2,g3⟩:=h2 i av (by simpa using hi);exact ⟨ac,b2,by simpa using g1,g2,fun x hx=>by simp [g3 x hx]⟩
   ·cases h
  ·cases h
theorem Q2B {hl:Nat->oP Ob}:∀ {l l':List AV} {bs:List Nat},ES hl l=some (l',bs)->∀ x∈bs,∃ e s rows,hl x=some (.arr e s rows)
 |[],l',bs,h=>by
  simp only [ES,Option.some.injEq,Prod.mk.injEq] at h;obtain ⟨_,rfl⟩:=h;simp
 |a::r,l',bs,h=>by
  simp only [ES] at h;split at h
  ·rename_i a' b ha;split at h
   ·rename_i r' b' hr;simp only [Option.some.injEq,Prod.mk.injEq] at h;obtain ⟨_,rfl⟩:=h;intro x hx;rcases Qoj.1 hx with hx | hx
    ·rcases Fz ha with ⟨rfl,_⟩ | ⟨l,e,s,rows,_,_,rfl,hh⟩
     ·simp at hx
     ·simp at hx;subst hx;exact ⟨e,s,rows,hh⟩
    ·exact Q2B hr x hx
   ·cases h
  ·cases h
theorem Cm {av ac:AV} {bs:List Nat} (h:R5 hl av=some (ac,bs)):∀ x∈bs,∃ e s rows,hl x=some (.arr e s rows):=by
 unfold R5 at h;split at h
 ·split at h
  ·rename_i aj l hc;obtain ⟨_,rfl⟩:=h;exact Q2B hc
  ·cases h
 ·rcases Fz h with ⟨rfl,_⟩ | ⟨l,e,s,rows,_,_,rfl,hh⟩
  all_goals grind
theorem Ft {hl:Nat->oP Ob}:∀ {l l':List AV} {bs:List Nat},R2 hl l=some (l',bs)->∀ x∈bs,∃ e s rows,hl x=some (.arr e s rows)
 |[],l',bs,h=>by
  simp only [R2,Option.some.injEq,Prod.mk.injEq] at h;obtain ⟨_,rfl⟩:=h;simp
 |a::r,l',bs,h=>by
  simp only [R2] at h;split at h
  ·rename_i a' b ha;split at h
   ·rename_i r' b' hr;simp only [Option.some.injEq,Prod.mk.injEq] at h;obtain ⟨_,rfl⟩:=h;intro x hx;rcases Qoj.1 hx with hx | hx
    ·exact Cm ha x hx
    ·exact Ft hr x hx
   ·cases h
  ·cases h
theorem MD {hl:Nat->oP Ob}:∀ {l l':List AV} {bs:List Nat},R2 hl l=some (l',bs)->l'.length=l.length/\∀ (i:Nat) (av:AV),l[i]? = some av->∃ ac b,l'[i]? = some ac/\R5 hl av=some (ac,b)/\∀ x∈b,x∈bs
 |[],l',bs,h=>by
  simp only [R2,Option.some.injEq,Prod.mk.injEq] at h;obtain ⟨rfl,rfl⟩:=h;exact ⟨rfl,fun i av h=>by simp at h⟩
 |a::r,l',bs,h=>by
  simp only [R2] at h;split at h
  ·rename_i a' b ha;split at h
   ·rename_i r' b' hr;simp only [Option.some.injEq,Prod.mk.injEq] at h;obtain ⟨rfl,rfl⟩:=h;obtain ⟨h1,h2⟩:=MD hr;refine ⟨by simp [h1],fun i av hi=>?_⟩;cases i with
    |zero=>simp at hi;subst hi;exact ⟨a',b,rfl,ha,fun x hx=>by simp [hx]⟩
    |succ i=>
     obtain ⟨ac,b2,g1,g2,g3⟩:=h2 i av (by simpa using hi);exact ⟨ac,b2,by simpa using g1,g2,fun x hx=>by simp [g3 x hx]⟩
   ·cases h
  ·cases h
theorem Qei {h hl:Nat->oP Ob} {av ac:AV} {b bs:List Nat} (hO:Objs β S h w) (hA:∀ l,l∈bs->h l=hl l) (hb:∀ x∈b,x∈bs) (hc:Q74 hl av=some (ac,b)) (hv:RdA β S h w tm v av) :
  RdA β (fzS β S bs) (fzH h bs) w tm0 v ac:=by
 rcases Fz hc with ⟨_,rfl,hn⟩ | ⟨l,e,s,rows,rfl,rfl,rfl,hh⟩
 ·exact Q8q bs (hv.to_tm0 hn)
 ·exact .d _ _ (Q6A hO (by rw [hA l (hb l QnK)];exact hh) hv (fun _ h=>.inl h) (fun b' h'=>.inr ⟨l,hb l QnK,h'⟩))
theorem Q6j {h hl:Nat->oP Ob} {av ac:AV} {b bs:List Nat} (hO:Objs β S h w) (hA:∀ l,l∈bs->h l=hl l) (hb:∀ x∈b,x∈bs) (hc:R5 hl av=some (ac,b)) (hv:RdA β S h w tm v av) :
  RdA β (fzS β S bs) (fzH h bs) w tm0 v ac:=by
 unfold R5 at hc;split at hc
 ·rename_i cs;split at hc
  ·rename_i al l ak;obtain ⟨rfl,rfl⟩:=hc;obtain ⟨vs,rfl,aj,hr⟩:=hv.ag_inv;obtain ⟨h1,h2⟩:=CK ak;refine .ag _ _ (by rw [aj,h1]) fun i x hx=>?_
   have hi:i<cs.length:=by grind
   have hc:=Qo7 hi
   grind [Qei]
  ·cases hc
 grind [Qei]
theorem Q4x {o : Oper} {c : Call} {f : Nat} (ho : o.op = .call c) (hc : c.callee = .value (.func f)) {fn : Func} (hf : P.funcs[f]? = some fn) (hb : fn.body.isSome = true) (hn : (fn.name == "runtime.NumGoroutine") = false) {a : Act} {w : World} :
  (execOp a.eval o).run P w = .ok (.enter f (c.args.map a.eval)) w:=by
 unfold execOp;rw [ho];have h1 : ¬ fn.name = "runtime.NumGoroutine" := by simp_all
 have h2:¬ fn.body=none:=by intro h;rw [h] at hb;cases hb
 simp_all [resolve,Act.eval,Deferred.ofValue,invoke,callFunc]
theorem Bx {x:Nat}:∀ {l:List Nat},x∈l->Pd x l=true
 |a::r,h=>by
  rcases Qoa.1 h with rfl | h
  ·simp [Pd]
  ·simp [Pd,Bx h]
theorem Jx {a b:List Nat} (h:Hp a b=false) {x:Nat} (h1:x∈a) (h2:x∈b):False:=by
 grind [Hp,List.any_eq_false,Bx]
theorem Ec {h h':Nat->oP Ob}:∀ {wr:List (Nat×oP Ob)} {k:Nat},(k ∉ wr.map (·.1)->h k=h' k)->Kg h wr k=Kg h' wr k
 |[],k,hk=>hk QnK
 |(l,o)::r,k,hk=>by
  simp only [Kg];refine Ec fun hn=>?_
  by_cases e:k=l
  ·simp [e]
  ·rw [Qo4 e,Qo4 e];exact hk (by simp [e,hn])
theorem MJ {bs:List Nat} {l:Nat} (hl:l ∉ bs):fzH h bs l=h l:=by grind [fzH]
theorem Qda (β:Nat->oP Nat) (S:Nat->Prop):fzS β S []=S:=by funext b;simp [fzS]
theorem Qd8 (h:Nat->oP Ob):fzH h []=h:=by funext b;simp [fzH]
theorem Q6W {wr:List (Nat×oP Ob)} (hw:V5 wr=true):∀ (h:Nat->oP Ob) {l:Nat} {o:Ob},l∈wr.map (·.1)->Kg h wr l=some o->(∃ cells,o = .box cells/\RE cells=true/\(l,some o)∈wr)\/∃ e s rows,o = .arr e s rows/\B5 rows=true:=by
 induction wr with
 |nil=>simp_all
 |cons x r ih=>
  intro h l o hl ho;obtain ⟨k,ob⟩:=x;have ac:V5 r=true:=by
   cases ob with
   |none=>assumption
   |some ob=>cases ob <;> first | simp_all [V5,QnT] | (simp [V5] at hw)
  simp only [Kg] at ho;by_cases hr:l∈r.map (·.1)
  ·grind
  ·rw [Ut hr] at ho;simp only [Qol,Qoa,hr,or_false] at hl;rw [Qo8 hl] at ho;subst hl;subst ho;cases o with
   |box cells=>simp_all [V5,QnT]
   |arr e s rows=>simp only [V5,QnT] at hw;exact .inr ⟨e,s,rows,rfl,hw.1⟩
   |mp t f=>simp [V5] at hw
theorem GX:∀ {wr:List (Nat×oP Ob)},Ct wr=true->V5 wr=true
 |[],_=>rfl
 |(_,none)::r,h=>by simp only [Ct,QnT] at h;simp only [V5];exact GX h.2
 |(_,some (.box cells))::r,h=>by simp only [Ct,Q8g,QnT] at h;simp only [V5,QnT];exact ⟨h.1,GX h.2⟩
 |(_,some (.arr ..))::r,h=>by simp [Ct,Q8g] at h
theorem G8 {tt:TT}:∀ {wr:List (Nat×oP Ob)},Fu tt wr=true->(Q2o wr).all B5=true->V5 wr=true
 |[],_,_=>rfl
 |(_,none)::r,h,h2=>by simp only [Fu] at h;simp only [Q2o] at h2;simp only [V5];exact G8 h h2
 |(_,some (.box cells))::r,h,h2=>by simp only [Fu,QnT] at h;simp only [Q2o] at h2;simp only [V5,QnT];exact ⟨h.1,G8 h.2 h2⟩
 |(_,some (.arr _ _ rows))::r,h,h2=>by simp only [Fu,QnT] at h;simp only [Q2o,List.all_cons,QnT] at h2;simp only [V5,QnT];exact ⟨h2.1,G8 h.2 h2.2⟩
theorem Qcv {S S2:Nat->Prop} {x:D} (h:Rd S w v x) (hf:Q4P x=true):Rd S2 w v x:=by
 cases h with
 |int k n=>exact .int k n
 |bool b=>exact .bool b
 |str s=>exact .str s
 |sl0 a c s=>trivial
 |sl=>simp [Q4P] at hf
theorem Qar {rows:List (List D)} (h:B5 rows=true) {i j:Nat} {r:List D} {x:D} (h1:rows[i]? = some r) (h2:r[j]? = some x):Q4P x=true:=by
 simp only [B5,Qob] at h;exact h r (Qo0 h1) x (Qo0 h2)
theorem Q2n:∀ {l:List AV} {i:Nat} {x:AV},l[i]? = some x->RE l=true->Sx x=true
 |a::r,i,x,h,hs=>by
  simp only [RE,QnT] at hs;cases i with
  |zero=>simp at h;subst h;exact hs.1
  |succ i=>exact Q2n (l:=r) (i:=i) (by simpa using h) hs.2
theorem Q8K {l k:Nat} {cells:List AV} {wr:List (Nat×oP Ob)} (hm:(k,some (Ob.box cells))∈wr) (hn:Ty l wr=false):Je l cells=false:=by
 induction wr with
 |nil=>simp at hm
 |cons x r ih=>
  obtain ⟨k',o⟩:=x;rcases Qoa.1 hm with h1 | h1
  ·grind [Ty,Bool.or_eq_false_iff]
  ·cases o with
   |none=>grind [Ty]
   |some o=>
    cases o with
    |box c=>grind [Ty,Bool.or_eq_false_iff]
    |arr e s rows=>exact ih h1 (by assumption)
    |mp t f=>exact ih h1 (by simpa [Ty] using hn)
theorem Q5Z {h h':Nat->oP Ob} {wr:List (Nat×oP Ob)} {k:Nat} (hk:k∈wr.map (·.1)):Kg h wr k=Kg h' wr k:=Ec fun hn=>absurd hk hn
theorem CallOut.back {β β':Nat->oP Nat} {S S':Nat->Prop} {w w':World} {dl:Dl} {bs:List Nat} (hO:Objs β S h w) (a8:∀ l,l∈bs->∃ e s rows,h l=some (.arr e s rows))
  (hm:Hp bs (wrL dl)=false) (ao:CI bs dl=true) (a3:Sx dl.v=true) (a2:V5 dl.wr=true) (hc:CallOut β (fzS β S bs) (fzH h bs) w dl β' S' w' v) :
  CallOut β S h w dl β' (fun b=>S' b/\¬ ∃ l,l∈bs/\β l=some b) w' v:=by
 have ac:∀ l,l∈wrL dl->l ∉ bs:=fun l h1 h2=>Jx hm h2 h1
 have an:∀ l,l∈bs->(h l).isSome=true:=fun l hl=>by grind
 have aj:∀ l,l ∉ bs->Kg (fzH h bs) dl.wr l=Kg h dl.wr l:=fun l hl=>Ec fun _=>MJ hl
 have al:∀ (u:Value) (av:AV),Sx av=true->(∀ l,l∈bs->Z3 l av=false)->RdA β' S' (Kg (fzH h bs) dl.wr) w' tm0 u av->RdA β' (fun b=>S' b/\¬ ∃ l,l∈bs/\β l=some b) (Kg h dl.wr) w' tm0 u av:=by
  intro u av hs hn hr;refine (Qas (S2:=fun b=>S' b/\¬ ∃ l,l∈bs/\β l=some b) hr hs).mono (fun _ h=>h) (fun _ _=>rfl) (fun l hl=>?_) (fun _ _=>rfl);have a4:l ∉ bs:=fun hb=>by simp_all
  have he:=aj l a4;exact ⟨rfl,fun h=>by simp_all,fun e s rows hh=>.inr ⟨rows,by simp_all,rfl⟩,fun b cs ty fz _ _ hw=>⟨cs,ty,fz,hw,rfl⟩,fun _ f hh=>.inr ⟨f,by rw [<- he];exact hh⟩⟩
 simp only [CI,Qob,QnT,Bool.not_eq_true'] at ao;have ak:∀ l,l∈wrL dl->fzH h bs l=h l:=fun l hl=>MJ (ac l hl)
 refine ⟨fun b hS=>⟨hc.hs b (.inl hS),fun ⟨l,hl,hb⟩=>hO.apart l b (an l hl) hb hS⟩,fun b hS=>?_,fun b hS=>hc.sb b hS.1,?_,hc.bsame,fun l o hl ho=>?_,fun l hl hs=>?_,fun l b hl hs hb=>?_,fun l l' b h1 h2 h3 h4=>?_,fun l hl h1 h2=>?_,al v dl.v a3 (fun l hl=>(ao l hl).1) hc.res,hc.gd⟩
 ·rcases hc.sf b hS.1 with h1 | h1 | ⟨l,h1,h2,h3⟩
  ·rcases h1 with h1 | h1
   all_goals grind
  all_goals grind
 ·exact hc.fr.mono fun b _ ⟨l,h1,h2,h3⟩=>⟨l,h1,by rw [<- ak l h1];exact h2,h3⟩
 ·rcases Q6W a2 h hl ho with ⟨cells,rfl,ax,ar⟩ | ⟨e,s,rows,rfl,az⟩
  case inr=>
   rcases hc.obs l _ hl (by rw [aj l (ac l hl)];exact ho) with g | ⟨b,cs,g1,g2,g3,g4,g5⟩
   ·exact .inl g
   ·refine .inr ⟨b,cs,g1,g2,g3,g4,fun i j r y h1 h2=>?_⟩;obtain ⟨u,q1,q2⟩:=g5 i j r y h1 h2;exact ⟨u,q1,Qcv q2 (Qar az h1 h2)⟩
  obtain ⟨b,ty,cs,fz,hb,hw,hf,ay,hr⟩:=hc.obs l _ hl (by rw [aj l (ac l hl)];exact ho);exact ⟨b,ty,cs,fz,hb,hw,hf,ay,fun i x hx=>al _ x (Q2n hx ax) (fun l' a1=>Q2E hx (Q8K ar (ao l' a1).2)) (hr i x hx)⟩
 ·have K:=hc.keep l hl (by rw [ak l hl];exact hs);have he:=aj l (ac l hl);exact ⟨K.b,fun h1=>by rw [<- he];exact K.none_ (by rw [ak l hl];exact h1),fun e s rows h1=>by rw [<- he];exact K.arr e s rows (by rw [ak l hl];exact h1),fun b cs ty fz h1=>K.cells b cs ty fz (by rw [he];exact h1),fun t f h1=>by rw [<- he];exact K.mp t f (by rw [ak l hl];exact h1)⟩
 ·obtain ⟨h1,h2⟩:=hc.blk l b hl (by rw [aj l (ac l hl)];exact hs) hb;refine ⟨?_,fun h3=>h2 h3.1⟩;rcases h1 with h1 | ⟨l0,g1,g2,g3⟩
  ·exact .inl h1
  ·exact .inr ⟨l0,g1,by rw [<- ak l0 g1];exact g2,g3⟩
 ·rw [<- aj l (ac l h1)] at h3;rw [<- aj l' (ac l' h2)] at h4;exact hc.inj l l' b h1 h2 h3 h4
 ·exact hc.none l hl (by rw [ak l hl];exact h1) (by rw [aj l (ac l hl)];exact h2)
theorem SG {β β':Nat->oP Nat} {S S':Nat->Prop} {st:St} {a:Act} {w w':World} (hR:Rel E β S st a w) {dl:Dl} {rd:List Nat} (ac:ZQ st dl.wr=true) (hc:CallOut β S (look st.h) w dl β' S' w' v) :
  Out E st a ⟨dl.v,dl.wr,rd⟩ v w':=by
 have h1:=Qbl hR ac hc;have h2:=hc.res;rw [<- Kx] at h2;refine ⟨β',S',h1,?_⟩;exact h2.mono (fun _ h=>h) (fun _ _=>rfl) (fun l _=>Keep.rfl_ ..) (fun t ht=>by rw [hc.gd t] at ht;cases ht)
def Q7r (P:Program) (E:Env) (o:Oper) (ev:Operand->AV) (f:Nat) (avs0:List AV):Prop:=
 ∀ β S st a w,Rel E β S st a w->D8 β S st a w o ev->∃ vals:List Value,vals.length=avs0.length/\(∀ (i:Nat) (v:Value) (x:AV),vals[i]? = some v->avs0[i]? = some x->RdA β S (look st.h) w (tmv a) v x) /\
  ∀ fn, P.funcs[f]? = some fn -> fn.body.isSome = true -> (fn.name == "runtime.NumGoroutine") = false -> (execOp a.eval o).run P w = .ok (.enter f vals.toArray) w
theorem Q6M {c:Call} {f:Nat} (ho:o.op = .call c) (hc:c.callee = .value (.func f)):Q7r P E o ev f (c.args.toList.map ev):=by
 intro β S st a w hR hO;refine ⟨c.args.toList.map a.eval,by simp,fun i v x h1 h2=>?_,fun fn hf hb hn=>?_⟩
 ·simp only [Qo2,QnX] at h1 h2;obtain ⟨y,hy,rfl⟩:=h1;obtain ⟨y',ac,rfl⟩:=h2;rw [hy] at ac;injection ac with ac
  subst ac;have aj:y∈o.op.operands.toList:=by
   grind [List.mem_of_getElem?,Op.operands,Call.operands]
  exact hO.at aj
 ·rw [Q4x ho hc hf hb hn];congr 2
  grind
theorem RdA.fn_inv {f:Nat} {l:List AV} (hv:RdA β S h w tm v (.fn f l)):∃ cs:Array Value,v = .func (.func f) #[] cs/\cs.size=l.length/\∀ (i:Nat) (x:AV),l[i]? = some x->RdA β S h w tm (cs.getD i undef) x:=by
 cases hv with
 |fn _ cs _ hl hr=>simp_all
 |dang _ _ l hl _ _=>trivial
theorem Q7s {c:Call} {t f:Nat} {cap:List AV} (ho:o.op = .call c) (hc:c.callee = .value (.tmp t)) (hev:ev (.tmp t) = .fn f cap):Q7r P E o ev f (c.args.toList.map ev++cap):=by
 intro β S st a w hR hO;have hmt:Operand.tmp t∈o.op.operands.toList:=by simp [ho,Op.operands,Call.operands,hc]
 obtain ⟨cs,hcs,hsz,hr⟩:=(hev▸hO.at hmt).fn_inv;refine ⟨c.args.toList.map a.eval++cs.toList,by simp [hsz],fun i v x h1 h2=>?_,fun fn hf hb hn=>?_⟩
 ·rw [List.getElem?_append] at h1 h2;simp only [List.length_map] at h1 h2;split at h1
  ·rename_i hi;rw [Qo8 hi] at h2;simp only [Qo2,QnX] at h1 h2;obtain ⟨y,hy,rfl⟩:=h1;obtain ⟨y',hy',rfl⟩:=h2;rw [hy] at hy';injection hy' with hy'
   subst hy';have hmem:y∈o.op.operands.toList:=by
    have:y∈c.args.toList:=Qo0 hy;simp only [ho,Op.operands,Call.operands,hc];simp at this;simp [this]
   exact hO.at hmem
  ·rename_i hi;rw [Qo4 hi] at h2;have:=hr _ x h2;have hlt:=(QnS.1 h1).1;have he:cs.getD (i-c.args.toList.length) undef=v:=by
    rw [Array.getElem?_toList] at h1;rw [Array.getD_eq_getD_getElem?,h1];rfl
   rw [he] at this;exact this
 ·have h1 : ¬ fn.name = "runtime.NumGoroutine" := by simpa using hn
  have h2:¬ fn.body=none:=by intro h;rw [h] at hb;cases hb
  have hv:a.eval (.tmp t) = .func (.func f) #[] cs:=hcs;unfold execOp;rw [ho];have harr:(c.args.toList.map a.eval++cs.toList).toArray=c.args.map a.eval++cs:=by apply Array.ext';simp
  rw [harr];simp [resolve,hc,hv,Deferred.ofValue,invoke,callFunc,hf,h1,h2]
theorem Q7S {st:St} {a:Act} (hR:Rel E β S st a w) {vals:List Value} {ac:List AV} (aq:vals.length=ac.length) (aj:∀ (i:Nat) (v:Value) (x:AV),vals[i]? = some v->ac[i]? = some x->RdA β S (look st.h) w (tmv a) v x) {ak:List AV} {bs:List Nat}
  (ao:R2 hl ac=some (ak,bs)) (an:∀ l,l∈bs->look st.h l=hl l):ArgsRd β (fzS β S bs) (fzH (look st.h) bs) w vals ak:=by
 obtain ⟨ar,al⟩:=MD ao;refine ⟨QnI,fun i v av h1 h2=>?_⟩;have hi:i<ac.length:=by grind
 have hx:=Qo7 hi;obtain ⟨aw,b,g1,g2,g3⟩:=al i _ hx;rw [h2] at g1;injection g1 with g1
 subst g1;exact Q6j hR.objs an g3 g2 (aj i v _ h1 hx)
theorem Nf {f:Nat} {ac:List AV} (hF:Q7r P E o ev f ac) {ao:List AV} {bs:List Nat} {dl:Dl}
  (a2:R2 hl ac=some (ao,bs)) (a1:ZA P f ao hl dl) (hm:Hp bs (wrL dl)=false) (a7:Hp bs dl.rd=false) (a3:CI bs dl=true) (aj:bs=[]\/(Sx dl.v=true/\V5 dl.wr=true)) :
  Ge P E o ev hl ⟨dl.v,dl.wr,bs++dl.rd⟩:=by
 intro β S st a w hR hO hA a4 K Q hK;obtain ⟨⟨fn,hf,hb,hn⟩,ak⟩:=a1;have aw:∀ l,l∈bs->look st.h l=hl l:=fun l h=>hA l (.inl (by simp [h]))
 have al:∀ l,l∈bs->∃ e s rows,look st.h l=some (.arr e s rows):=fun l h=>by grind [Ft]
 have an:=hR.objs.fz bs al (fun l b hs hb=>Hs hR hs hb);have ax:∀ l,l∈dl.rd\/l∈wrL dl->fzH (look st.h) bs l=hl l:=by
  intro l az;rw [MJ (fun h=>by grind [Jx])];rcases az with h1 | h1
  ·exact hA l (.inl (by simp [h1]))
  ·exact hA l (.inr h1)
 obtain ⟨vals,au,ay,aq⟩:=hF β S st a w hR hO;unfold Oper.wp;rw [aq fn hf hb hn];have:=ak β (fzS β S bs) (fzH (look st.h) bs) w _ an (Q7S hR au ay a2 aw) ax;refine this.mono fun e w' ⟨v,β',S',he,ar⟩=>?_
 subst he;refine hK v w' ?_;rcases aj with rfl | ⟨h1,h2⟩
 ·grind [Qda,Qd8,SG]
 ·exact SG hR a4 (ar.back hR.objs al hm a3 h1 h2)
theorem SK:∀ (a b:List (Nat×oP Ob)) (h:List (Nat×Ob)),NE h (a++b)=NE (NE h a) b
 |[],_,_=>rfl
 |(l,some o)::r,b,h=>by simp [NE,SK r b]
 |(l,none)::r,b,h=>by simp [NE,SK r b]
theorem Bp (bs:List Nat) (h:List (Nat×Ob)):look (NE h (bs.map fun l=>(l,none)))=fzH (look h) bs:=by
 rw [Kx];generalize look h=f;induction bs generalizing f with
 |nil=>rfl
 |cons a r ih=>
  simp only [Qol,Kg];rw [ih]
  grind [fzH]
theorem AP {st:St} {a:Act} (hR:Rel E β S st a w) (bs:List Nat) (ak:∀ l,l∈bs->∃ e s rows,look st.h l=some (.arr e s rows)) :
  Rel E β (fzS β S bs) ⟨st.n,st.tm,NE st.h (bs.map fun l=>(l,none))⟩ a w:=by
 have ac:=hR.objs.fz bs ak (fun l b hs hb=>Hs hR hs hb);have al:=Bp bs st.h;refine ⟨hR.n,hR.dfr,fun t av ht=>by rw [al];exact Q8q bs (hR.tm t av ht),?_⟩;rw [al];have aj:∀ l,(fzH (look st.h) bs l).isSome=true->(look st.h l).isSome=true:=fun l hs=>by
  grind [fzH]
 refine ⟨ac.ob,ac.inj,ac.apart,fun l b hs hb=>hR.hr.own l b (aj l hs) hb,ac.sb,fun b hS=>?_,fun b h=>.inl (hR.hr.s0 b h),hR.hr.fr,hR.hr.pin,fun l b hp hs=>hR.hr.psz l b hp (aj l hs)⟩;rcases hS with h | ⟨l,hl,hb⟩
 ·exact hR.hr.sfr b h
 ·obtain ⟨e,s,rows,hh⟩:=ak l hl;exact .inr (hR.hr.own l b (by simp [hh]) hb)
theorem UF {l k:Nat}:∀ {h:List (Nat×Ob)},VW l h=false->VW l (rem k h)=false
 |[],_=>rfl
 |(a,.box c)::r,hn=>by
  simp only [VW,Bool.or_eq_false_iff] at hn;simp only [rem];cases Nat.beq a k with
  |true=>exact UF hn.2
  |false=>simp [VW,hn.1,UF hn.2]
 |(a,.arr e s rows)::r,hn=>by
  simp only [VW] at hn;simp only [rem];cases Nat.beq a k with
  |true=>exact UF hn
  |false=>simp [VW,UF hn]
 |(a,.mp t f)::r,hn=>by
  simp only [VW] at hn;simp only [rem];cases Nat.beq a k with
  |true=>exact UF hn
  |false=>simp [VW,UF hn]
theorem Q3z {l:Nat}:∀ (bs:List Nat) {h:List (Nat×Ob)},VW l h=false->VW l (NE h (bs.map fun l=>(l,none)))=false
 |[],_,hn=>hn
 |a::r,h,hn=>by simp only [Qol,NE];exact Q3z r (UF hn)
theorem SJ {st:St}:∀ {a b:List (Nat×oP Ob)},ZQ st (a++b)=true->ZQ st b=true
 |[],_,h=>h
 |(l,o)::r,b,h=>by
  simp only [List.cons_append,ZQ,QnT] at h;exact SJ h.2
theorem CD {st:St} {bs:List Nat}:∀ {wr:List (Nat×oP Ob)},(∀ l,l∈wr.map (·.1)->l ∉ bs)->ZQ st wr=true->ZQ ⟨st.n,st.tm,NE st.h (bs.map fun l=>(l,none))⟩ wr=true
 |[],_,_=>rfl
 |(l,o)::r,hn,h=>by
  simp only [ZQ,QnT] at h ⊢;refine ⟨?_,CD (fun k hk=>hn k (by simp [hk])) h.2⟩;have ac:l ∉ bs:=hn l QnK;rw [Bp,MJ ac];cases o with
  |none=>rfl
  |some o=>
   cases hs:look st.h l with
   |some o'=>rfl
   |none=>
    have h1:=h.1;rw [hs] at h1;simp only [Uc,QnT,Bool.not_eq_true'] at h1 ⊢;exact ⟨h1.1,h1.2.1,Q3z bs h1.2.2⟩
theorem Dw {f:Nat} {aj:List AV} (hF:Q7r P E o ev f aj) {ar:List AV} {bs:List Nat} {dl:Dl}
  (aw:R2 hl aj=some (ar,bs)) (a4:ZA P f ar hl dl) (hm:Hp bs (wrL dl)=false) (a1:Hp bs dl.rd=false) :
  Ge P E o ev hl ⟨dl.v,bs.map (fun l=>(l,none))++dl.wr,bs++dl.rd⟩:=by
 intro β S st a w hR hO hA a5 K Q hK;obtain ⟨⟨fn,hf,hb,hn⟩,al⟩:=a4;have aq:∀ l,l∈bs->look st.h l=hl l:=fun l h=>hA l (.inl (by simp [h]))
 have an:∀ l,l∈bs->∃ e s rows,look st.h l=some (.arr e s rows):=fun l h=>by rw [aq l h];exact Ft aw l h
 have ao:=hR.objs.fz bs an (fun l b hs hb=>Hs hR hs hb);have az:∀ l,l∈dl.rd\/l∈wrL dl->fzH (look st.h) bs l=hl l:=by
  intro l ac;rw [MJ (fun h=>by rcases ac with h1 | h1 <;> first | exact Jx a1 h h1 | exact Jx hm h h1)];rcases ac with h1 | h1
  ·exact hA l (.inl (by simp [h1]))
  ·exact hA l (.inr (by simp only [wrL,List.map_append,Qoj];exact .inr h1))
 obtain ⟨vals,ax,a2,au⟩:=hF β S st a w hR hO;unfold Oper.wp;rw [au fn hf hb hn];have:=al β (fzS β S bs) (fzH (look st.h) bs) w _ ao (Q7S hR ax a2 aw aq) az;refine this.mono fun e w' ⟨v,β',S',he,ak⟩=>?_
 subst he;refine hK v w' ?_;rw [<- Bp] at ak;have ay:ZQ ⟨st.n,st.tm,NE st.h (bs.map fun l=>(l,none))⟩ dl.wr=true:=CD (fun l ac h=>Jx hm h ac) (SJ a5);obtain ⟨a3,S'',g1,g2⟩:=SG (rd:=bs++dl.rd) (AP hR bs an) ay ak;refine ⟨a3,S'',?_,?_⟩
 all_goals grind [SK]
theorem Be {t:Nat}:∀ {l:List AV},l.all AK=true->Cr t l=false
 |[],_=>rfl
 |a::r,h=>by
  simp only [List.all_cons,QnT] at h;simp only [Cr,Sf h.1 t,Be h.2,Bool.or_false]
theorem Q2U {x:AV} (h:Q9p x=true) (t:Nat):gds t x=false:=by
 unfold Q9p at h
 grind [gds,Be,Sf]
theorem Q0W {f:Nat} {ac:List AV} (hF:Q7r P E o ev f ac) {dl:Dl} (au:ac.all Q9p=true) (aq:ZA P f ac hl dl):Ge P E o ev hl dl:=by
 intro β S st a w hR hO hA ar K Q hK;obtain ⟨⟨fn,hf,hb,hn⟩,aj⟩:=aq;obtain ⟨vals,an,ao,ak⟩:=hF β S st a w hR hO;unfold Oper.wp;rw [ak fn hf hb hn];have:=aj β S (look st.h) w _ hR.objs ⟨an,fun i v x h1 h2=>(ao i v x h1 h2).mono (fun _ h=>h) (fun _ _=>rfl) (fun l _=>Keep.rfl_ ..) (fun t ht=>by
  grind [Q2U,List.all_eq_true,List.mem_of_getElem?])⟩ (fun l h=>hA l h)
 refine this.mono fun e w' ⟨v,β',S',he,al⟩=>?_
 subst he;exact hK v w' (SG hR ar al)
theorem Q3d {spec:Q3X} {tt:TT} (hS:EH P spec) {f:Nat} {an:Nat} {g u:Bool} {aj:List AV} (hF:Q7r P E o ev f aj) {k:Dl->oP R} {r:R}
  (h:Qbh spec tt an g u hl f aj k=some r):∃ dl,k dl=some r/\(g=true->Ge P E o ev hl dl):=by
 unfold Qbh at h;cases al:Qip spec f with
 |true=>
  simp only [al,QnW] at h;cases ao:aj.all Q9p with
  |false=>simp_all
  |true=>
  simp only [ao,QnW] at h;obtain ⟨dl,h,aq⟩:=hS _ _ _ _ _ _ _ _ h
  grind [Q0W]
 |false=>
 simp only [al,cond_false] at h;split at h
 case h_2=>cases h
 rename_i au bs aw;obtain ⟨dl,h,aq⟩:=hS _ _ _ _ _ _ _ _ h;cases ac:(!Hp bs (wrL dl)&&(!Hp bs dl.rd&&CI bs dl)) with
 |false=>simp_all
 |true=>
  simp only [ac,QnW] at h;simp only [QnT,Bool.not_eq_true'] at ac;obtain ⟨hm,ar,ax⟩:=ac;cases hf:(bs.isEmpty||(Sx dl.v&&Ct dl.wr)) with
  |true=>
   simp only [hf,QnW] at h
   grind [Nf,GX]
  |false=>
   simp only [hf,cond_false] at h;cases ak:(Sx dl.v&&Fu tt dl.wr) with
   |true=>
    simp only [ak,QnW] at h;simp only [QnT] at ak;obtain ⟨_,h,hp⟩:=QO h
    grind [Nf,G8,LW,Q2o,B5]
   |false=>
    simp only [ak,cond_false] at h;cases u with
    |false=>simp at h
    |true=>
     simp only [QnW] at h
     grind [Dw]
end
end Go.Vx
namespace Go.Vx
variable {hl:Nat->oP Ob}
section
variable {P:Program} {E:Env} {R:Type}
theorem Q3B {x:Nat}:∀ {l:List Nat},Pd x l=true↔x∈l
 |[]=>by simp [Pd]
 |a::r=>by
  simp only [Pd,Bool.or_eq_true,Q3B (l:=r),Qoa];constructor
  ·rintro (h | h)
   ·exact .inl (QnU h).symm
   ·exact .inr h
  ·rintro (h | h)
   ·exact .inl (by rw [h];exact Nat.beq_refl _)
   ·exact .inr h
def Qf9 (av:AV):Prop:=(∀ k,Z3 k av=false)/\(∀ t,gds t av=false)/\av≠.top
theorem QdB (hl:Nat->oP Ob) (bs:List Nat):QhC hl bs=fzH hl bs:=by
 funext k;simp [QhC,fzH,Pd,Qo8,Q3B,Qo4]
theorem Q0c (hl:Nat->oP Ob) (ev:Operand->AV):∀ (l:List (Nat×Operand)),UZ (fun x=>cv1 hl (ev x)) l=cvP hl (UZ ev l)
 |[]=>rfl
 |(i,x)::r=>by simp only [UZ,cvP,Q0c hl ev r]
theorem Q9e {hl:Nat->oP Ob} {ev:Operand->AV}:∀ {l:List (Nat×Operand)} {p:Nat×Operand},p∈l->∀ a b,R5 hl (ev p.2)=some (a,b)->∀ x∈b,x∈bsP hl (UZ ev l)
 |(i,y)::r,p,hp,a,b,hc,x,hx=>by
  simp only [UZ,bsP];rcases Qoa.1 hp with rfl | hp
  ·simp only at hc;rw [hc];exact List.mem_append_left _ hx
  ·have ih:=Q9e hp a b hc x hx;split
   ·exact List.mem_append_right _ ih
   ·exact ih
theorem Q5e {hl:Nat->oP Ob}:∀ {l:List (Nat×AV)} {x:Nat},x∈bsP hl l->∃ e s rows,hl x=some (.arr e s rows)
 |[],x,h=>by simp [bsP] at h
 |(i,a)::r,x,h=>by
  simp only [bsP] at h;split at h
  ·rename_i a' b hc;rcases Qoj.1 h with h | h
   ·exact Cm hc x h
   ·exact Q5e h
  ·exact Q5e h
theorem Q2K:∀ {z:List D} {l:List AV} {ds:List D},Q9H z l=some ds->(∀ k,Je k l=false)/\(∀ t,Cr t l=false)/\∀ x∈l,x≠.top
 |[],[],ds,h=>⟨fun _=>rfl,fun _=>rfl,fun x h=>by simp at h⟩
 |[],_::_,ds,h=>by simp [Q9H] at h
 |_::_,[],ds,h=>by simp [Q9H] at h
 |z::zs,a::r,ds,h=>by
  simp only [Q9H] at h;split at h
  case h_2=>cases h
  rename_i l hl;obtain ⟨h1,h2,h3⟩:=Q2K hl;split at h
  ·exact ⟨fun k=>by simp [Je,Z3,h1 k],fun t=>by simp [Cr,gds,h2 t],fun x hx=>by
    rcases Qoa.1 hx with rfl | hx
    ·simp
    ·exact h3 x hx⟩
  ·exact ⟨fun k=>by simp [Je,Z3,h1 k],fun t=>by simp [Cr,gds,h2 t],fun x hx=>by
    rcases Qoa.1 hx with rfl | hx
    ·simp
    ·exact h3 x hx⟩
  ·cases h
theorem Q7a {z:List D} {av:AV} {ds:List D} (h:Q9H z (XI av)=some ds):Qf9 av:=by
 obtain ⟨h1,h2,h3⟩:=Q2K h;cases av with
 |ag l=>exact ⟨fun k=>by grind [Z3,XI],fun t=>by grind [gds,XI],by simp⟩
 |fs _ _=>exact ⟨fun k=>rfl,fun t=>rfl,by simp⟩
 |_=>exact ⟨fun k=>by simp_all [Je,XI],fun t=>by simp_all [Cr,XI],h3 _ (by simp [XI])⟩
theorem D0 {z:List D}:∀ {ac:List (Nat×AV)} {rows aj:List (List D)},Ml z rows ac=some aj->∀ p∈ac,Qf9 p.2
 |[],_,_,_,p,hp=>by simp at hp
 |(i,v)::r,rows,aj,h,p,hp=>by
  simp only [Ml] at h;split at h
  case h_2=>cases h
  rename_i row ak;cases hc:Nat.ble (i+1) rows.length with
  |false=>simp [hc] at h
  |true=>
   simp only [hc,QnW] at h;rcases Qoa.1 hp with rfl | hp
   ·exact Q7a ak
   ·exact D0 h p hp
theorem Bi {ev:Operand->AV}:∀ {l:List (Nat×Operand)} {p:Nat×Operand},p∈l->(p.1,ev p.2)∈UZ ev l
 |(i,y)::r,p,hp=>by
  simp only [UZ];rcases Qoa.1 hp with rfl | hp
  ·simp
  ·exact List.mem_cons_of_mem _ (Bi hp)
theorem BM {tt:TT} {al:Nat} {u:Bool} {t len:Nat} {ac:List (Nat×AV)} {k:Dl->oP R} {r:R} (h:K4 tt hl al u t len ac k=some r):∀ p∈ac,Qf9 p.2:=by
 unfold K4 at h;split at h
 case h_2=>cases h
 rename_i e ak hk;cases hc:(Nat.ble (len*ak) 16777216&&(look tt e).isSome&&Nat.beq (N3 tt e).length ak) with
 |false=>simp_all
 |true=>
  simp only [hc,QnW] at h;split at h
  case h_2=>cases h
  rename_i rows aj;exact D0 aj
theorem Q2e {o:Oper} {ev:Operand->AV} {bs:List Nat} {dl:Dl} (aw:∀ l,l∈bs->∃ e s rows,hl l=some (.arr e s rows))
  (an:∀ x∈o.op.operands.toList,(∃ b,R5 hl (ev x)=some (cv1 hl (ev x),b)/\∀ y∈b,y∈bs)/\Qf9 (cv1 hl (ev x)))
  (hG:Ge P E o (fun x=>cv1 hl (ev x)) (fzH hl bs) dl) (hm:Hp bs (wrL dl)=false) (az:Hp bs dl.rd=false):Ge P E o ev hl ⟨dl.v,bs.map (fun l=>(l,none))++dl.wr,bs++dl.rd⟩:=by
 intro β S st a w hR hO hA aq K Q hK;have ao:∀ l,l∈bs->look st.h l=hl l:=fun l h=>hA l (.inl (by simp [h]))
 have ak:∀ l,l∈bs->∃ e s rows,look st.h l=some (.arr e s rows):=fun l h=>by simp_all
 have ar:=AP hR bs ak;refine hG β (fzS β S bs) _ a w ar (fun x hx=>⟨?_,fun l _=>(an x hx).2.1 l⟩) ?_ (CD (fun l ac h=>Jx hm h ac) (SJ aq)) K Q fun v w' al=>hK v w' ?_
 ·obtain ⟨⟨b,h1,h2⟩,hb⟩:=an x hx;rw [Bp];exact (Q6j hR.objs ao h2 h1 (hO.at hx)).mono (fun _ h=>h) (fun _ _=>rfl) (fun l _=>Keep.rfl_ ..) (fun t ht=>by rw [hb.2.1 t] at ht;cases ht)
 ·intro l ac;have aj:l ∉ bs:=fun h=>by grind [Jx]
  rw [Bp,MJ aj,MJ aj];rcases ac with h1 | h1
  ·exact hA l (.inl (by simp [h1]))
  ·exact hA l (.inr (by simp_all [wrL,List.map_append,Qoj]))
 ·obtain ⟨β',S',g1,g2⟩:=al;refine ⟨β',S',?_,?_⟩
  all_goals grind [SK]
theorem Q4o {tt:TT} (hT:TOk P tt) {o:Oper} {t:TypeId} {len:Nat} {ac:Array (Nat×Operand)} (ho:o.op = .buildSlice t len ac) {u:Bool} {aj:Nat} {ev:Operand->AV} {k:Dl->oP R} {r:R}
  (h:Q4h tt hl aj u t len (UZ ev ac.toList) k=some r):∃ dl,k dl=some r/\Ge P E o ev hl dl:=by
 unfold Q4h at h;split at h
 ·exact RX hT ho h
 ·rename_i b bs hb;cases u with
  |false=>simp at h
  |true=>
   rw [<- Q0c] at h;have an:=BM h;rw [QdB] at h;obtain ⟨dl,h,hG⟩:=RX (E:=E) hT ho h;cases hc:(!Hp (b::bs) (wrL dl)&&!Hp (b::bs) dl.rd) with
   |false=>simp_all
   |true=>
    simp only [hc,QnW] at h;simp only [QnT,Bool.not_eq_true'] at hc;refine ⟨_,h,Q2e (fun l ak=>Q5e (hb▸ak)) (fun x hx=>?_) hG hc.1 hc.2⟩;obtain ⟨i,hi⟩:∃ i,(i,x)∈ac.toList:=by
     grind [Op.operands]
    have hn:Qf9 (cv1 hl (ev x)):=an _ (Bi hi);refine ⟨?_,hn⟩;unfold cv1 at hn ⊢;cases al:R5 hl (ev x) with
    |none=>
     rw [al] at hn;exact absurd rfl hn.2.2
    |some q=>exact ⟨q.2,rfl,fun y hy=>by grind [Q9e]⟩
end
end Go.Vx
namespace Go.Vx
section
variable {P:Program} {E:Env} {R:Type}
theorem EX:∀ {rows:List (List D)} {s:List UInt8},E8 rows=some s->∃ ns:List Int,rows=ns.map (fun n=>[D.int .u8 n])/\s=ns.map fun n=>UInt8.ofNat n.toNat
 |[],s,h=>by simp_all [E8]
 |row::r,s,h=>by
  unfold E8 at h;split at h
  ·simp_all
  ·rename_i n r' he;injection he with he1 he2
   subst he1 he2;split at h
   ·rename_i l hl;injection h with h
    subst h;obtain ⟨ns,h1,h2⟩:=EX hl;exact ⟨n::ns,by simp [h1],by simp [h2]⟩
   ·cases h
  ·cases h
theorem AM:∀ (ns:List Int) (s:ByteArray),(ns.foldl (fun r n=>r.push (UInt8.ofNat n.toNat)) s).data.toList=s.data.toList++ns.map fun n=>UInt8.ofNat n.toNat
 |[],s=>by simp
 |n::ns,s=>by
  rw [List.foldl_cons,AM ns];simp [ByteArray.push]
theorem Q6V {tt:TT} (hT:TOk P tt) {o:Oper} {s t:TypeId} {x:Operand} (ho:o.op = .convert s t x) {g:Bool} {ev:Operand->AV} {hl:Nat->oP Ob} {e:Nat} {rows:List (List D)} {rd:List Nat}
  (hs:Tt tt s = .sl e 1) (ht:Tt tt t = .str) (he:Tt tt e = .int .u8) (hx:AN 1 hl (ev x)=some (rows,rd)) {k:Dl->oP R} {r:R} (h:gb g (E8 rows) [] (fun s=>k ⟨.d (.str s),[],rd⟩)=some r) :
  ∃ dl,k dl=some r/\(g=true->Ge P E o ev hl dl):=by
 obtain ⟨ti,a9,a4⟩:=Xq hs QnK;obtain ⟨a1,az,aw⟩:=Xq ht QnK;obtain ⟨a5,ax,ay⟩:=Xq he QnK;have a3:=((hT s ti a9).ksl _ _ a4).1;have a2:=(hT t a1 az).kstr aw;have a8:=(hT e a5 ax).kint _ ay;obtain ⟨str,h,hp⟩:=QO h;refine ⟨_,h,fun hg=>Qk fun β S st a w hR hO hA=>?_⟩;have hv:=hO.at (x:=x) (by simp [ho,Op.operands]);obtain ⟨vals,au⟩:=Q2j QnI hx hR hv (fun l a6=>hA l (.inl a6));obtain ⟨ns,aj,ak⟩:=EX (hp hg);have an:∀ bs:ByteArray,bs.data.toList=str->(execOp a.eval o).run P w = .ok (.value (.string bs)) w->∃ u,(execOp a.eval o).run P w = .ok (.value u) w/\RdA β S (look st.h) w (tmv a) u (.d (.str str)):=by
  intro bs hb hr;refine ⟨.string bs,hr,.d _ _ ?_⟩;rw [<- hb];exact .str _
 have ac:∀ (ad:oP Addr) (l c:Nat) (bs:ByteArray),a.eval x = .slice ad l c->(Conv.bytesToString (.slice ad l c)).run P w = .ok (.string bs) w->(execOp a.eval o).run P w = .ok (.value (.string bs)) w:=by
  intro ad l c bs a7 hb;unfold execOp;rw [ho];simp only [a7,QnV,run_convert_bytes_string w s t e ad l c a3 a8 a2,hb,QnR];rfl
 rcases au.form with ⟨hf,hn⟩ | ⟨c,hf,hn⟩ | ⟨ad,c,hf,ar⟩
 ·refine an .empty ?_ (ac none 0 0 _ hf (by simp [Conv.bytesToString]));rw [hn] at aj;have:ns=[]:=by
   cases ns with
   |nil=>rfl
   |cons a b=>simp at aj
  rw [ak,this];rfl
 ·refine an .empty ?_ (ac none 0 c _ hf (by simp [Conv.bytesToString]));rw [hn] at aj;have:ns=[]:=by
   cases ns with
   |nil=>rfl
   |cons a b=>simp at aj
  rw [ak,this];rfl
 ·have ba:vals.length=ns.length:=by rw [au.len,aj];simp
  have aq:vals=ns.map (Value.int .u8):=by
   refine List.ext_getElem? fun i=>?_
   rcases Nat.lt_or_ge i ns.length with hi | hi
   ·obtain ⟨u,hu,hr⟩:=au.rd i 0 [D.int .u8 ns[i]] (D.int .u8 ns[i]) (by rw [aj];simp [hi]) rfl;rw [show i*1+0=i by omega] at hu;rw [hu];cases hr;simp [hi]
   ·rw [List.getElem?_eq_none QnI,List.getElem?_eq_none (by simpa using hi)]
  have al:=run_loadCells_list (P:=P) w ad vals ar;have hr:=run_bytesToString (P:=P) w ad rows.length c ns (by
   rw [aq,List.length_map] at al;rw [show rows.length=ns.length by rw [aj];simp];exact al)
  refine an _ ?_ (ac (some ad) _ c _ hf hr);rw [AM,ak];rfl
end
end Go.Vx
namespace Go.Vx
variable {hl:Nat->oP Ob} {ev:Operand->AV} {β:Nat->oP Nat} {S:Nat->Prop} {o:Oper} {tt:TT} {t:TypeId}
section
variable {P:Program} {E:Env} {R:Type}
theorem Kr {α:Type}:∀ (n s:Nat) (l:List α),(Rt n s l).length=n
 |0,_,_=>rfl
 |n+1,s,l=>by simp [Rt,Kr n]
theorem Bb {α:Type}:∀ (n s:Nat) (l:List α) (i:Nat),i<n->(Rt n s l)[i]? = some ((l.drop (i*s)).take s)
 |n+1,s,l,0,_=>by simp [Rt]
 |n+1,s,l,i+1,h=>by
  simp only [Rt,List.getElem?_cons_succ];rw [Bb n s _ i QnI,List.drop_drop,Nat.add_comm s,Qok]
theorem AO {w:World} {cs:Array Value} {n s:Nat} {ds:List D} (aj:ds.length=n*s) (ak:n*s<=cs.size) (hr:∀ (j:Nat) (x:D),ds[j]? = some x->∃ v,cs[j]? = some v/\Rd S w v x):UC S w cs s (Rt n s ds):=by
 refine ⟨by grind [Kr],fun i r h=>?_,fun i j r x h1 h2=>?_⟩
 ·have hi:i<n:=by grind [List.getElem?_eq_some_iff,Kr]
  rw [Bb n s ds i hi] at h;have ac:(i+1)*s<=n*s:=QnY _ QnI
  grind
 grind [List.getElem?_eq_some_iff,Kr,Bb]
theorem Q6O {st:St} {a:Act} {w:World} (hR:Rel E β S st a w) {ac e s:Nat} {rows:List (List D)} {cs:Array Value} (aj:look st.h ac=none) (hc:Uc st ac=true) (h:UC S w cs s rows) :
  Rel E (SL β ac (some w.heap.size)) S ⟨st.n,st.tm,(ac,.arr e s rows)::rem ac st.h⟩ a (w.alloc (.cells cs e)):=by
 obtain ⟨h1,h2,h3⟩:=h;refine hR.new aj hc (.inr ⟨w.heap.size,cs,by simp [SL],VH _ _,h1,h2,fun i j r x h4 h5=>?_⟩);obtain ⟨v,hv,hr⟩:=h3 i j r x h4 h5;exact ⟨v,hv,hr.mono (fun _ hb=>hb) (fun b hb=>Yf _ _ (hR.hr.sb b hb))⟩
theorem Q4k (hT:TOk P tt) (ho:o.op = .alloc t) {ac:Nat} {ti:TyI} (au:look tt t=some ti) {e aj n:Nat} (hk:ti.kd = .array e aj n) (ar:ti.zd.length=n*aj) (hn:hl ac=none) :
  Ge P E o ev hl ⟨.ap ac 0 0,[]++[(ac,some (.arr t aj (Rt n aj ti.zd)))],[]⟩:=by
 have ak:=hT t ti au;obtain ⟨inf,ay,_,_,z,hz,aw⟩:=ak.inf;obtain ⟨_,_,_,an,_⟩:=ak.karr e aj n hk;have a1:z.cells.size=n*aj:=by rw [<- Qo5,aw,ak.zlen];exact an
 intro β S st a w hR hO hA a2 K Q hK;have ax:look st.h ac=none:=by rw [hA ac (.inr (by simp [wrL]))];exact hn
 have hc:Uc st ac=true:=by grind [ZQ]
 have ao:UC S w z.cells aj (Rt n aj ti.zd):=AO ar QnI fun j x hx=>by
  obtain ⟨v,hv,hr⟩:=ak.zd QnI j x hx
  grind
 have aq:(execOp a.eval o).run P w = .ok (.value (.pointer (some ⟨w.heap.size,0,none⟩))) (w.alloc (.cells z.cells t)):=by
  simp_all [execOp,Instr.alloc,zeroValue,Yd,newVar,newRow]
 unfold Oper.wp;rw [aq];refine hK _ _ ⟨SL β ac (some w.heap.size),S,Q6O hR ax hc ao,?_⟩;have:=RdA.ap (β:=SL β ac (some w.heap.size)) (S:=S) (h:=look (NE st.h ([]++[(ac,some (Ob.arr t aj (Rt n aj ti.zd)))]))) (w:=w.alloc (.cells z.cells t)) (tm:=tmv a) ac 0 0 w.heap.size t aj (Rt n aj ti.zd) (by simp [SL]) (by simp [NE,Wu])
 simp_all
theorem Q02 {α:Type} {l:List α} {n:Nat} {u:Unit} (h:Hj l n=some u):l.length=n:=by
 grind [Hj,Nat.beq,Nat.eq_of_beq_eq_true]
theorem CU (hT:TOk P tt) {x i:Operand} (ho:o.op = .indexAddr t x i) {g:Bool} {k:Dl->oP R} {r:R} {e ac n l:Nat} (hk:Tt tt t = .array e ac n) (ax:ev x = .ap l 0 0)
  (h:MI g hl ac n l (ev i) k=some r):∃ dl,k dl=some r/\(g=true->Ge P E o ev hl dl):=by
 have ao:x∈o.op.operands.toList:=by grind [Op.operands]
 have ar:i∈o.op.operands.toList:=by simp [ho,Op.operands]
 obtain ⟨ti,aw,aq⟩:=Xq hk QnK;obtain ⟨hu,a2,⟨i0,a1,ak⟩,_,_⟩:=(hT t ti aw).karr _ _ _ aq;unfold MI at h;split at h
 case h_2=>cases h
 rename_i ik y e' s rows az aj;cases hb:Nat.beq s ac with
 |false=>simp_all
 |true=>
  obtain rfl:=QnU hb;simp only [hb,QnW] at h;obtain ⟨u,h,au⟩:=QO h;refine ⟨_,h,fun hg=>Qk fun β S st a w hR hO hA=>?_⟩;obtain ⟨h0,h1⟩:=Q65 (au hg);have hi:=(az▸hO.at ar).int_inv;have an:look st.h l=some (.arr e' s rows):=by rw [hA l (.inl QnK)];exact aj
  obtain ⟨b,ay,hx⟩:=RdA.ap_inv an (ax▸hO.at ao);have al:(execOp a.eval o).run P w = .ok (.value (.pointer (some ⟨b,y.toNat*s,none⟩))) w:=by
   unfold execOp;rw [ho];simp [Instr.indexAt,hx,hi,asIntOf,QA hu,h0,h1,sizeOf,Yd a1,ak,Instr.sureAddr,JJ]
  refine ⟨_,al,?_⟩;have:=RdA.ap (β:=β) (S:=S) (h:=look st.h) (w:=w) (tm:=tmv a) l y.toNat 0 b e' s rows ay an;omega
theorem Q4p (hT:TOk P tt) {x y:Operand} (ho:o.op = .store t x y) {k:Dl->oP R} {r:R} {e ax n l:Nat} (hk:Tt tt t = .array e ax n) (bl:ev x = .ap l 0 0)
  (h:Q5i hl ax n l (ev y) k=some r):∃ dl,k dl=some r/\Ge P E o ev hl dl:=by
 have bi:x∈o.op.operands.toList:=by grind [Op.operands]
 have ba:y∈o.op.operands.toList:=by simp [ho,Op.operands]
 obtain ⟨ti,bk,bj⟩:=Xq hk QnK;have a3:=hT t ti bk;obtain ⟨hu,bo,_,au,_⟩:=a3.karr _ _ _ bj;unfold Q5i at h;split at h
 case h_2=>cases h
 rename_i e' s rows a2;cases hb:Nat.beq s ax with
 |false=>simp_all
 |true=>
  obtain rfl:=QnU hb;simp only [hb,QnW] at h;split at h
  case h_2=>cases h
  rename_i ds bh;cases al:Nat.beq ds.length (n*s) with
  |false=>simp_all
  |true=>
   have a6:=QnU al;simp only [al,QnW] at h;obtain ⟨u,h,a1⟩:=QO h;have bc:=Q02 (a1 rfl);refine ⟨_,h,?_⟩;intro β S st a w hR hO hA b7 K Q hK;have aj:look st.h l=some (.arr e' s rows):=by rw [hA l (.inl QnK)];exact a2
   obtain ⟨b,ak,hx⟩:=RdA.ap_inv aj (bl▸hO.at bi);have ay:=BU bh;obtain ⟨c1,c2,c3⟩:=NJ (hO.at ba) (by rw [ay];exact EF ds);rcases hR.hr.ob l _ aj with ⟨a8,_⟩ | ⟨b',cs,aq,hw,ar,b5,b1⟩
   ·rw [ak] at a8;cases a8
   obtain rfl:b=b':=by rw [ak] at aq;injection aq
   rw [bc] at ar;have ao:(a.eval y).cells.size=n*s:=by rw [c1,ay];simpa using a6
   obtain ⟨w',a7,ac⟩:∃ w',(storeCells ⟨b,0,none⟩ (a.eval y).cells.toList 0).run P w = .ok () w'/\Wrote b (T7 cs 0 (a.eval y).cells.toList) e' (0,0) w w':=
    JU b 0 e' (0,0) _ 0 cs w hw (Qdw _) (by simp [ao];omega) c3
   have a4:∀ j,(T7 cs 0 (a.eval y).cells.toList)[j]? = if j<n*s then (a.eval y).cells[j]? else cs[j]?:=by
    intro j;rw [PS _ _ _ _ (by simp [ao];omega)];simp [ao]
   unfold Oper.wp;have bg:a.eval x = .pointer (some ⟨b,0,none⟩):=by simpa using hx
   rw [Ns ho bg (RN a3 (by rw [ao,au]) a7)];have a5:∀ k',look ((l,Ob.arr e' s (Rt n s ds))::rem l st.h) k'=if k'=l then some (.arr e' s (Rt n s ds)) else look st.h k':=fun k'=>Wu l k' _ st.h
   have an:Keep β (look st.h) w β (look ((l,.arr e' s (Rt n s ds))::rem l st.h)) w' l:=by
    refine ⟨rfl,fun h=>?_,fun e1 s1 a9 h=>?_,fun b2 b3 bz b8 _ al az=>?_,fun t f h=>by rw [aj] at h;cases h⟩
    ·rw [aj] at h;cases h
    ·rw [aj] at h;cases h;exact .inr ⟨Rt n s ds,by rw [a5,Qo8 rfl],by rw [Kr];omega⟩
    ·rw [ak] at al;injection al with e;subst e
     rw [hw] at az;injection az with e;injection e with e1 e2 e3;subst e1
     exact ⟨_,_,_,ac.blk,WJ _ _ _⟩
   refine hK undef _ ⟨β,S,hR.set aj ak ac.oth ac.os ac.tape ac.output ac.size an (.inr ⟨b,_,ak,ac.blk,?_⟩),.top _⟩;have bb:∀ c,S c->w'.heap[c]? = w.heap[c]?:=fun c hc=>ac.oth c (fun e=>by subst e;exact hR.hr.apart l c (by simp [aj]) ak hc)
   have aw:UC S w (T7 cs 0 (a.eval y).cells.toList) s (Rt n s ds):=by
    refine AO a6 (by rw [WJ];exact ar) fun j d hd=>?_
    have hj:j<n*s:=by have:=(QnS.1 hd).1;omega
    have h1:=a4 j;rw [Qo8 hj] at h1;rw [h1];refine ⟨_,KY (cs:=(a.eval y).cells) QnI,?_⟩;have h2:=c2 j (.d d) (by rw [ay,Qo2,hd];rfl);exact h2.d_inv
   obtain ⟨r1,r2,r3⟩:=aw;exact ⟨r1,r2,fun i j r x h4 h5=>by
    obtain ⟨v,hv,hr⟩:=r3 i j r x h4 h5;exact ⟨v,hv,hr.mono (fun _ h=>h) bb⟩⟩
theorem Q9S {st:St} {a:Act} {w w':World} (hR:Rel E β S st a w) (ac:∀ b,b<w.heap.size->w'.heap[b]? = w.heap[b]?) (an:w'.heap.size=w.heap.size+1) (al:w'.os=w.os) (ak:w'.tape=w.tape) (aj:w'.output=w.output):Rel E β (fun b=>S b\/b=w.heap.size) st a w':=by
 have:=hR.upd (w':=w') (β':=β) (S':=fun b=>S b\/b=w.heap.size) (H':=st.h) (fun _ h=>.inl h) (fun b hb=>ac b (hR.hr.sb b hb)) (fun _=>False)
  (fun l _=>⟨rfl,rfl,fun b hs hb=>ac b (Hs hR hs hb)⟩) (fun l h=>h.elim) (fun l o h=>h.elim) hR.hr.inj
  (fun l b hs hb hS=>by
   rcases hS with hS | hS
   ·exact hR.hr.apart l b hs hb hS
   ·have:=Hs hR hs hb;omega)
  hR.hr.own
  (fun b hS=>by
   rcases hS with hS | hS
   ·have:=hR.hr.sb b hS;omega
   ·omega)
  (fun b hS=>by
   rcases hS with hS | hS
   ·exact hR.hr.sfr b hS
   ·right;right;have:=hR.hr.fr.size;omega)
  ⟨al.trans hR.hr.fr.os,ak.trans hR.hr.fr.tape,aj.trans hR.hr.fr.output,by have:=hR.hr.fr.size;omega,fun b hb hm=>(ac b (Qoi hb hR.hr.fr.size)).trans (hR.hr.fr.block b hb hm)⟩
 exact this
theorem Q0L (hT:TOk P tt) {s t:TypeId} {x:Operand} (ho:o.op = .convert s t x) {e:Nat} {n:List UInt8}
  (hs:Tt tt s = .str) (ht:Tt tt t = .sl e 1) (he:Tt tt e = .int .u8) (hx:ev x = .d (.str n)):Ge P E o ev hl ⟨.d (.sl 1 (Q7u n)),[],[]⟩:=by
 obtain ⟨ti,ax,au⟩:=Xq hs QnK;obtain ⟨aq,ao,ac⟩:=Xq ht QnK;obtain ⟨aw,aj,an⟩:=Xq he QnK;have a3:=(hT s ti ax).kstr au;have a1:=((hT t aq ao).ksl _ _ ac).1;have a5:=(hT e aw aj).kint _ an;intro β S st a w hR hO hA a8 K Q hK;obtain ⟨b,hb,hv⟩:=(hx▸hO.at (x:=x) (by grind [Op.operands])).str_inv;have al:(execOp a.eval o).run P w = .ok (.value (.slice (some ⟨w.heap.size,0,none⟩) b.size (grownCap w b.size 0 e))) (Lib.bytesWorld w e b):=by
  simp_all [execOp,QnV,Lib.run_convert_string_bytes,QnR]
 unfold Oper.wp;rw [al];have ay:b.size<=grownCap w b.size 0 e:=grownCap_ge w b.size 0 e;refine hK _ _ ⟨β,fun c=>S c\/c=w.heap.size,Q9S hR (fun c hc=>Lib.bytesWorld_at_old w e b c hc) (Lib.bytesWorld_size w e b) rfl rfl rfl,.d _ _ ?_⟩;have ak:(Q7u n).length=b.size:=by simp [Q7u,hb]
 rw [<- ak];refine UC.rd (cs:=Lib.bytesCells w e b) ⟨?_,?_,?_⟩ (Lib.bytesWorld_at_new w e b) (.inr rfl) QnO
 ·simp_all [Lib.bytesCells]
 ·simp_all [Q7u,Qo2,QnX]
 ·intro i j r d h1 h2;simp only [Q7u,Qo2,QnX] at h1;obtain ⟨c,hc,rfl⟩:=h1;cases j with
  |zero=>
   simp at h2;subst h2;have hi:i<b.size:=by have:=(QnS.1 hc).1;rw [hb] at this;simpa using this
   refine ⟨.int .u8 (c.toNat:Int),?_,.int _ _⟩;rw [hb] at hc;have:b.data[i]? = some c:=by simpa using hc
   have ar:i<b.data.size:=hi;simp only [Lib.bytesCells,Nat.mul_one,Nat.add_zero];rw [Array.getElem?_append_left (by simpa using ar),Array.getElem?_map,this];rfl
  |succ j=>simp at h2
theorem Tc (n:Int):∀ (es:List MapEntry) (i:Nat),(∀ e∈es,∃ m,e.key = .int .i64 m) ->
  (J3 es n=none/\Instr.findNow (.int .i64) (.int .i64 n) es i=some none)\/∃ j v,J3 es n=some v/\Instr.findNow (.int .i64) (.int .i64 n) es i=some (some (j,v))
 |[],i,_=>.inl ⟨rfl,rfl⟩
 |e::r,i,h=>by
  obtain ⟨m,hm⟩:=h e (List.mem_cons_self ..);simp only [J3,hm,Instr.findNow,Instr.sameNow,if_true];by_cases aj:m=n
  ·simp_all
  ·have hb:(n == m)=false:=by grind
   simp only [hb,aj,if_false];exact Tc n r (i+1) fun x hx=>h x (List.mem_cons_of_mem _ hx)
theorem RdA.mpd_inv {h:Nat->oP Ob} {w:World} {tm:Nat->Value} {v:Value} {f:Int->List (List D)} (hv:RdA β S h w tm v (.mpd f)):Q7t S w v f:=by
 cases hv with
 |mpd _ _ hm=>exact hm
 |dang _ _ l hl=>trivial
theorem Q52 (hT:TOk P tt) {m x:Operand} (ho:o.op = .lookup t m x false) {f:Int->List (List D)} {n:Int}
  (ht:Tt tt t = .mapI) (hm:ev m = .mpd f) (hx:ev x = .d (.int .i64 n)):Ge P E o ev hl ⟨.d (.sl 1 (f n)),[],[]⟩:=by
 obtain ⟨ti,aq,an⟩:=Xq ht QnK;obtain ⟨K0,e,hu,hk,i,hi,hz⟩:=(hT t ti aq).kmap an;intro β S st a w hR hO hA a5 K Q hK;obtain ⟨b,es,ar,hv,hS,hb,aj,hn,ac⟩:=(hm▸hO.at (x:=m) (by simp [ho,Op.operands])).mpd_inv;have ao:=(hx▸hO.at (x:=x) (by simp [ho,Op.operands])).int_inv;have au:(zeroValue e).run P w = .ok (.slice none 0 0) w:=by simp [zeroValue,Yd hi,hz]
 have al:(Instr.checkKey es.isEmpty 10000 K0 (.int .i64 n)).run P w = .ok () w:=by
  rw [show (10000:Nat)=9999+1 from rfl,Instr.checkKey];simp only [QnV,QA hk,QnR];rfl
 obtain ⟨v,ak,aw⟩:∃ v,(Instr.lookup t (.map (some b)) (.int .i64 n) false).run P w = .ok v w/\Rd S w v (.sl 1 (f n)):=by
  rcases Tc n es.toList 0 aj with ⟨h1,h2⟩ | ⟨j,v,h1,h2⟩
  ·refine ⟨.slice none 0 0,?_,by rw [hn n h1];exact .sl0 _ _ _⟩;simp [Instr.lookup,QA hu,Qo9 hb,al,Instr.findKey,QA hk,h2,au,Result.andThen]
  ·refine ⟨v,?_,ac n v h1⟩;simp [Instr.lookup,QA hu,Qo9 hb,al,Instr.findKey,QA hk,h2,Result.andThen]
 unfold Oper.wp execOp;rw [ho];simp only [hv,ao,QnV,ak,QnR];exact hK _ _ ⟨β,S,hR,.d _ _ aw⟩
end
end Go.Vx
namespace Go.Vx
variable {hl:Nat->oP Ob} {ev:Operand->AV} {t:TypeId}
section
variable {P:Program} {E:Env} {R:Type}
theorem Q5X (n:Int) (u:Value):∀ (es:List MapEntry) (i:Nat),(∀ e∈es,∃ m,e.key = .int .i64 m)->J3 es n≠none ->
  ∃ j v e,Instr.findNow (.int .i64) (.int .i64 n) es i=some (some (i+j,v))/\es[j]? = some e/\e.key = .int .i64 n /\
   (∀ x∈es.modify j (fun e=>{ e with key:=.int .i64 n,val:=u }),∃ m,x.key = .int .i64 m)/\∀ m,J3 (es.modify j fun e=>{ e with key:=.int .i64 n,val:=u }) m=if m=n then some u else J3 es m
 |[],i,_,h=>absurd rfl h
 |e::r,i,h,hl=>by
  obtain ⟨k,hk⟩:=h e (List.mem_cons_self ..);by_cases aj:k=n
  ·subst aj;refine ⟨0,e.val,e,?_,rfl,hk,fun x hx=>?_,fun m=>?_⟩
   all_goals grind [Instr.findNow,Instr.sameNow,List.modify_zero_cons,J3]
  ·have hb:(n == k)=false:=by grind
   simp only [J3,hk,aj,if_false] at hl;obtain ⟨j,v,e',g1,g2,g3,g4,g5⟩:=Q5X n u r (i+1) (fun x hx=>h x (List.mem_cons_of_mem _ hx)) hl;refine ⟨j+1,v,e',?_,by simp_all,g3,fun x hx=>?_,fun m=>?_⟩
   ·simp only [Instr.findNow,Instr.sameNow,hk,hb,if_true,g1];rw [Qom,Nat.add_comm 1 j]
   ·simp only [List.modify_succ_cons,Qoa] at hx;rcases hx with rfl | hx
    ·exact ⟨k,hk⟩
    ·exact g4 x hx
   grind [List.modify_succ_cons,J3]
theorem Q2r (n:Int) (e:MapEntry) (he:e.key = .int .i64 n):∀ (es:List MapEntry),(∀ e∈es,∃ m,e.key = .int .i64 m)->J3 es n=none->∀ m,J3 (es++[e]) m=if m=n then some e.val else J3 es m
 |[],_,_,m=>by
  simp only [List.nil_append,J3,he];by_cases h:n=m
  ·simp [h]
  ·rw [Qo4 h,Qo4 (fun e=>h e.symm)]
 |x::r,h,hl,m=>by
  obtain ⟨k,hk⟩:=h x (List.mem_cons_self ..);simp only [J3,hk] at hl;by_cases ac:k=n
  ·rw [Qo8 ac] at hl;cases hl
  ·rw [Qo4 ac] at hl;have ih:=Q2r n e he r (fun y hy=>h y (List.mem_cons_of_mem _ hy)) hl m;simp only [List.cons_append,J3,hk,ih];by_cases hm:k=m
   ·subst hm;simp [ac]
   ·simp [hm]
theorem Q6N {tt:TT} (hT:TOk P tt) (ht:Tt tt t = .mpb) {w:World} {b:Nat} {f:Int->Bool} (hm:MpR w b f) (n:Int) (v:Bool) :
  ∃ w',(Instr.mapUpdate t (.map (some b)) (.int .i64 n) (.bool v)).run P w = .ok () w'/\MpR w' b (Q6I f n v)/\(∀ k,k≠b->w'.heap[k]? = w.heap[k]?)/\w'.os=w.os/\w'.tape=w.tape/\w'.output=w.output/\w'.heap.size=w.heap.size:=by
 obtain ⟨ti,a4,a2⟩:=Xq ht QnK;obtain ⟨K0,e,hu,hk,i,hi,hz⟩:=(hT t ti a4).kmpb a2;obtain ⟨es,ak,hb,ac,hn,aq⟩:=hm;have ay:b<w.heap.size:=(Qo6.1 hb).1;have ax:(Instr.checkKey false 10000 K0 (.int .i64 n)).run P w = .ok () w:=by
  rw [show (10000:Nat)=9999+1 from rfl,Instr.checkKey];simp only [QnV,QA hk,QnR];rfl
 have ar:∀ (al:Array MapEntry) (aj:Nat),(Instr.mapUpdate t (.map (some b)) (.int .i64 n) (.bool v)).run P w = .ok () { w with heap:=w.heap.setIfInBounds b (.map al aj) } ->
   (∀ e∈al.toList,∃ m,e.key = .int .i64 m)->(∀ m,J3 al.toList m=if m=n then some (.bool v) else J3 es.toList m) ->
   ∃ w',(Instr.mapUpdate t (.map (some b)) (.int .i64 n) (.bool v)).run P w = .ok () w'/\MpR w' b (Q6I f n v)/\(∀ k,k≠b->w'.heap[k]? = w.heap[k]?)/\w'.os=w.os/\w'.tape=w.tape/\w'.output=w.output/\w'.heap.size=w.heap.size:=by
  intro al aj au a1 aw;refine ⟨_,au,⟨al,aj,by simp [ay],a1,fun m hm=>?_,fun m x hm=>?_⟩,fun k hk=>?_,rfl,rfl,rfl,by simp⟩
  ·rw [aw] at hm;by_cases e1:m=n
   ·rw [Qo8 e1] at hm;cases hm
   ·rw [Qo4 e1] at hm;simp [Q6I,e1,hn m hm]
  ·rw [aw] at hm;by_cases e1:m=n
   ·rw [Qo8 e1] at hm;injection hm with hm;simp [Q6I,e1,<- hm]
   ·rw [Qo4 e1] at hm;simp [Q6I,e1,aq m x hm]
  ·simp [Ne.symm hk]
 cases hl:J3 es.toList n with
 |none=>
  have hf:Instr.findNow (.int .i64) (.int .i64 n) es.toList 0=some none:=by
   rcases Tc n es.toList 0 ac with ⟨_,h2⟩ | ⟨j,x,h1,_⟩
   ·exact h2
   ·rw [hl] at h1;cases h1
  refine ar (es.push ⟨.int .i64 n,.bool v,ak⟩) (ak+1) ?_ (fun x hx=>?_) (fun m=>?_)
  ·simp [Instr.mapUpdate,QA hu,Qo9 hb,ax,Instr.findKey,QA hk,hf,MapKept.run_setObj_map _ hb,Result.andThen]
  ·simp only [Array.toList_push,Qoj,List.mem_singleton] at hx;rcases hx with hx | rfl
   ·exact ac x hx
   ·exact ⟨n,rfl⟩
  ·rw [Array.toList_push];exact Q2r n _ rfl es.toList ac hl m
 |some x=>
  obtain ⟨j,y,e',g1,g2,g3,g4,g5⟩:=Q5X n (.bool v) es.toList 0 ac (by rw [hl];simp);rw [Nat.zero_add] at g1;have a3:es[j]? = some e':=by simpa using g2
  have az:∀ (w:World),(Instr.keyThatStays (.int .i64 n) (.int .i64 n)).run P w = .ok (.int .i64 n) w:=by
   intro w;simp [Instr.keyThatStays,Instr.sameBits]
  refine ar (es.modify j fun e=>{ e with key:=.int .i64 n,val:=.bool v }) ak ?_ (by rw [Array.toList_modify];exact g4) (fun m=>by rw [Array.toList_modify];exact g5 m);simp [Instr.mapUpdate,QA hu,Qo9 hb,ax,Instr.findKey,QA hk,g1,a3,g3,az,MapKept.run_setObj_map _ hb,Result.andThen]
theorem Q3i {o:Oper} (ho:o.op = .makeMap t none) {ac:Nat} (hn:hl ac=none) :
  Ge P E o ev hl ⟨.arr ac,[]++[(ac,some (.mp t fun _=>false))],[]⟩:=by
 intro β S st a w hR hO hA an K Q hK;have ak:look st.h ac=none:=by rw [hA ac (.inr (by simp [wrL]))];exact hn
 have hc:Uc st ac=true:=by grind [ZQ]
 have aj:(execOp a.eval o).run P w = .ok (.value (.map (some w.heap.size))) (w.alloc (.map #[] 0)):=by
  unfold execOp;rw [ho];rfl
 unfold Oper.wp;rw [aj];refine hK _ _ ⟨SL β ac (some w.heap.size),S,?_,.mp ac w.heap.size t (fun _=>false) (by simp [SL]) (by simp [NE,look])⟩;exact hR.new ak hc ⟨w.heap.size,by simp [SL],#[],0,VH _ _,by simp,fun n _=>rfl,fun n v h=>by trivial⟩
theorem AH {tt:TT} (hT:TOk P tt) {o:Oper} {m x v:Operand} (ho:o.op = .mapUpdate t m x v) {l t':Nat} {f:Int->Bool} {n:Int} {b:Bool}
  (ht:Tt tt t = .mpb) (hm:ev m = .arr l) (hx:ev x = .d (.int .i64 n)) (hv:ev v = .d (.bool b)) (ac:hl l=some (.mp t' f)):Ge P E o ev hl ⟨.top,[(l,some (.mp t' (Q6I f n b)))],[l]⟩:=by
 intro β S st a w hR hO hA ba K Q hK;have ac:look st.h l=some (.mp t' f):=by rw [hA l (.inl QnK)];exact ac
 obtain ⟨bk,hb,a5⟩:=RdA.mp_inv ac (hm▸hO.at (x:=m) (by grind [Op.operands]));have a7:=(hx▸hO.at (x:=x) (by simp [ho,Op.operands])).int_inv;have bb:=(hv▸hO.at (x:=v) (by simp [ho,Op.operands])).bool_inv;obtain ⟨b2,a8,ao⟩:=hR.hr.ob l _ ac;obtain rfl:bk=b2:=by simp_all
 obtain ⟨w',az,aq,al,ay,aj,an,aw⟩:=Q6N hT ht ao n b;have ak:(execOp a.eval o).run P w = .ok .skip w':=by
  simp_all [execOp,QnV,QnR]
 unfold Oper.wp;rw [ak];refine hK undef _ ⟨β,S,?_,.top _⟩;obtain ⟨es,ax,a2,_⟩:=ao;refine hR.set ac hb al ay aj an aw ⟨rfl,fun h=>?_,fun e s rows h=>?_,fun b3 cs ty fz _ bc a4=>?_,fun t1 f1 h=>?_⟩ ⟨bk,hb,aq⟩
 ·simp_all
 ·rw [ac] at h;cases h
 ·simp_all
 ·rw [ac] at h;injection h with h
  injection h with h1 h2
  subst h1;exact .inr ⟨Q6I f n b,by rw [Wu,Qo8 rfl]⟩
theorem Q3T {tt:TT} (hT:TOk P tt) {o:Oper} {m x:Operand} (ho:o.op = .lookup t m x false) {l t':Nat} {f:Int->Bool} {n:Int}
  (ht:Tt tt t = .mpb) (hm:ev m = .arr l) (hx:ev x = .d (.int .i64 n)) (ac:hl l=some (.mp t' f)):Ge P E o ev hl ⟨.d (.bool (f n)),[],[l]⟩:=by
 obtain ⟨ti,ax,au⟩:=Xq ht QnK;obtain ⟨K0,e,hu,hk,i,hi,hz⟩:=(hT t ti ax).kmpb au;refine Qk fun β S st a w hR hO hA=>?_
 have ac:look st.h l=some (.mp t' f):=by rw [hA l (.inl QnK)];exact ac
 obtain ⟨bk,hb,ar⟩:=RdA.mp_inv ac (hm▸hO.at (x:=m) (by simp [ho,Op.operands]));have aw:=(hx▸hO.at (x:=x) (by simp [ho,Op.operands])).int_inv;obtain ⟨b2,ao,es,ay,al,ak,hn,aj⟩:=hR.hr.ob l _ ac;obtain rfl:bk=b2:=by rw [hb] at ao;injection ao
 have az:(zeroValue e).run P w = .ok (.bool false) w:=by simp [zeroValue,Yd hi,hz]
 have aq:(Instr.checkKey es.isEmpty 10000 K0 (.int .i64 n)).run P w = .ok () w:=by
  rw [show (10000:Nat)=9999+1 from rfl,Instr.checkKey];simp only [QnV,QA hk,QnR];rfl
 have an:(Instr.lookup t (.map (some bk)) (.int .i64 n) false).run P w = .ok (.bool (f n)) w:=by
  rcases Tc n es.toList 0 ak with ⟨h1,h2⟩ | ⟨j,v,h1,h2⟩
  ·rw [hn n h1];simp [Instr.lookup,QA hu,Qo9 al,aq,Instr.findKey,QA hk,h2,az,Result.andThen]
  ·rw [<- aj n v h1];simp [Instr.lookup,QA hu,Qo9 al,aq,Instr.findKey,QA hk,h2,Result.andThen]
 refine ⟨.bool (f n),?_,.d _ _ (.bool _)⟩;unfold execOp;rw [ho];simp only [ar,aw,QnV,an,QnR];rfl
end
end Go.Vx
namespace Go.Vx
variable {hl:Nat->oP Ob} {ev:Operand->AV} {o:Oper} {t:TypeId}
section
variable {P:Program} {E:Env} {R:Type}
theorem Q4C {s:List UInt8} {n b:Int} (h:Vw s n=some b):0<=n/\∃ ac:n.toNat<s.length,b=((s[n.toNat]' ac).toNat:Int):=by
 grind [Vw]
theorem Q7x {tt:TT} (hT:TOk P tt) {x i:Operand} (ho:o.op = .index t x i) {g:Bool} {k:Dl->oP R} {r:R}
  (h:Qa0 tt g t (ev x) (ev i) k=some r):∃ dl,k dl=some r/\(g=true->Ge P E o ev hl dl):=by
 have ac:x∈o.op.operands.toList:=by grind [Op.operands]
 have ak:i∈o.op.operands.toList:=by simp [ho,Op.operands]
 unfold Qa0 at h;split at h
 case h_2=>cases h
 rename_i s ik n hk an ao;obtain ⟨ti,al,aj⟩:=Xq hk QnK;have hu:=(hT t ti al).kstr aj;obtain ⟨b,h,hp⟩:=QO h;refine ⟨_,h,fun hg=>Qk fun β S st a w hR hO hA=>?_⟩;obtain ⟨bs,hs,hx⟩:=(an▸hO.at ac).str_inv;have hi:=(ao▸hO.at ak).int_inv;obtain ⟨h0,ar,hb⟩:=Q4C (hp hg);have ax:s.length=bs.size:=by simp_all
 refine ⟨.int .u8 b,?_,.d _ _ (.int _ _)⟩;unfold execOp;have:=run_index_string (P:=P) w t bs ik n hu;rw [dif_pos ⟨h0,QnI⟩] at this
 simp_all [QnV,QnR,ByteArray.getElem_eq_getElem_data]
theorem Vn {β:Nat->oP Nat} {S:Nat->Prop} {h:Nat->oP Ob} {w:World} {tm:Nat->Value} {ρ:Operand->Value} {x:oP Operand} {n:oP Int} (hb:N6 ev x=some n) (hx:∀ y,x=some y->RdA β S h w tm (ρ y) (ev y)) :
  (x=none/\n=none)\/∃ y k m,x=some y/\n=some m/\ρ y = .int k m:=by
 cases x with
 |none=>grind [N6]
 |some y=>
  simp only [N6] at hb;split at hb
  ·rename_i k m ac;simp at hb;exact .inr ⟨y,k,m,rfl,hb.symm,(ac▸hx y rfl).int_inv⟩
  ·cases hb
theorem Nw {len:Nat} {lo hi:oP Int} {q:Nat×Nat} (h:slB len lo hi=some q) :
  0<=lo.getD 0/\lo.getD 0<=hi.getD len/\hi.getD len<=len/\q=((lo.getD 0).toNat,(hi.getD len).toNat):=by
 grind [slB]
theorem NC (ac:Bool) {len cap:Nat} (ao:len<=cap) {lo hi:oP Operand} {l h:oP Int} {ρ:Operand->Value} {w:World} {q:Nat×Nat} (hs:slB len l h=some q)
  (al:(lo=none/\l=none)\/∃ y k m,lo=some y/\l=some m/\ρ y = .int k m) (ak:(hi=none/\h=none)\/∃ y k m,hi=some y/\h=some m/\ρ y = .int k m) :
  (Instr.sliceBounds ac len cap (lo.map ρ) (hi.map ρ) none).run P w = .ok (q.1,q.2,cap) w:=by
 obtain ⟨h1,h2,h3,rfl⟩:=Nw hs;rcases al with ⟨rfl,rfl⟩ | ⟨y,k,m,rfl,rfl,hy⟩ <;> rcases ak with ⟨rfl,rfl⟩ | ⟨y',k',m',rfl,rfl,an⟩ <;> simp only [Option.getD_none,Option.getD_some] at h1 h2 h3
 ·rfl
 ·have e1:0<=m'/\m'<=(cap:Int):=QnI
  simp_all [Instr.sliceBounds,run_sliceBound_if]
 ·simp_all [Instr.sliceBounds,run_sliceBound_if]
 ·have e1:0<=m'/\m'<=(cap:Int):=QnI
  have e2:0<=m/\m<=(m'.toNat:Int):=QnI
  simp_all [Instr.sliceBounds,run_sliceBound_if]
theorem FQ {α:Type} {l:List α} {q:Nat×Nat} {i:Nat} {a:α} (h:(cut l q)[i]? = some a):i<q.2-q.1/\l[q.1+i]? = some a:=by
 simp_all [cut,List.getElem?_take,List.getElem?_drop]
theorem Q2u {x:Operand} {lo hi:oP Operand} (ho:o.op = .slice t x lo hi none):x∈o.op.operands.toList/\(∀ y,lo=some y->y∈o.op.operands.toList)/\∀ y,hi=some y->y∈o.op.operands.toList:=by
 grind [Op.operands]
theorem Q7w {tt:TT} (hT:TOk P tt) {x:Operand} {lo hi:oP Operand} (ho:o.op = .slice t x lo hi none) {g:Bool} {k:Dl->oP R} {r:R}
  (h:Q87 tt g t (ev x) (N6 ev lo) (N6 ev hi) k=some r):∃ dl,k dl=some r/\(g=true->Ge P E o ev hl dl):=by
 obtain ⟨a1,au,aj⟩:=Q2u ho;unfold Q87 at h;split at h
 case h_2=>cases h
 rename_i l' h' a3 a2;split at h
 ·rename_i s hk ax;obtain ⟨ti,aw,an⟩:=Xq hk QnK;have hu:=(hT t ti aw).kstr an;obtain ⟨q,h,hp⟩:=QO h;refine ⟨_,h,fun hg=>Qk fun β S st a w hR hO hA=>?_⟩;obtain ⟨bs,hs,hx⟩:=(ax▸hO.at a1).str_inv;have aq:s.length=bs.size:=by simp_all
  have hb:=NC (P:=P) false (len:=s.length) (cap:=s.length) (Qof _) (ρ:=a.eval) (w:=w) (hp hg) (Vn a3 fun y hy=>hO.at (au y hy)) (Vn a2 fun y hy=>hO.at (aj y hy));rw [aq] at hb;refine ⟨.string (bs.extract q.1 q.2),?_,.d _ _ ?_⟩
  ·simp_all [execOp,QnV,run_sliceAt_string,Option.map_none,Instr.slice,QA,QnR,Option.isSome_none,Bool.false_eq_true,if_false]
  ·have:cut s q=(bs.extract q.1 q.2).data.toList:=by
    rw [hs];simp [cut,ByteArray.data_extract]
   rw [this];exact .str _
 ·rename_i e a8 s rows hk ax;cases hb:Nat.beq s a8 with
  |false=>simp [hb] at h
  |true=>
   simp only [hb,QnW] at h;obtain rfl:=QnU hb;obtain ⟨ti,aw,an⟩:=Xq hk QnK;obtain ⟨hu,a5,inf,al,aq⟩:=(hT t ti aw).ksl _ _ an;obtain ⟨q,h,hp⟩:=QO h;refine ⟨_,h,fun hg=>Qk fun β S st a w hR hO hA=>?_⟩;have a9:=(ax▸hO.at a1).d_inv;have hq:=Nw (hp hg);have ar:∀ (ad:oP Addr) (cap:Nat),rows.length<=cap->a.eval x = .slice ad rows.length cap->(execOp a.eval o).run P w = .ok (.value (.slice (if cap=q.1 then ad else ad.map (·.add (q.1*s))) (q.2-q.1) (cap-q.1))) w:=by
    intro ad cap hc hx;have hb:=NC (P:=P) true hc (ρ:=a.eval) (w:=w) (hp hg) (Vn a3 fun y hy=>hO.at (au y hy)) (Vn a2 fun y hy=>hO.at (aj y hy));unfold execOp;rw [ho];simp only [hx,QnV,Instr.sliceAt,QA hu,QnR,Option.map_none];simp only [Instr.slice,QnV,QA hu,QnR,hb,sizeOf,Yd al,aq];rfl
   have ay:(cut rows q).length=q.2-q.1:=by
    unfold cut;rw [hq.2.2.2];simp;omega
   generalize hv:a.eval x=v at a9 ar;cases a9 with
   |sl0 ad cap _=>
    refine ⟨_,ar ad cap (Nat.zero_le _) rfl,.d _ _ ?_⟩;have:cut ([]:List (List D)) q=[]:=by simp [cut]
    rw [this];have h0:q.2-q.1=0:=by rw [this] at ay;simpa using ay.symm
    rw [h0];exact .sl0 _ _ _
   |sl ad cap _ _ c hS a6 a4 hc hr=>
    refine ⟨_,ar (some ad) cap a6 rfl,.d _ _ ?_⟩;by_cases h0:q.2-q.1=0
    ·have:cut rows q=[]:=Qo1 (by rw [ay,h0]);rw [this,h0];exact .sl0 _ _ _
    ·have ba:cap≠q.1:=by
      have:=hq.2.2.1;have:=hq.2.2.2;have h1:q.2<=rows.length:=by rw [this];simp;omega
      omega
     rw [Qo4 ba,<- ay];refine Rd.sl (ad.add (q.1*s)) (cap-q.1) s (cut rows q) (fun i j=>c (q.1+i) j) (by rw [Jc];exact hS) ?_ ?_ ?_ ?_
     ·rw [ay];have:=hq.2.2.2;have h1:q.2<=rows.length:=by rw [this];simp;omega
      omega
     ·intro i r ak;exact a4 _ _ (FQ ak).2
     ·intro i j r y ak hy;have:=hc (q.1+i) j r y (FQ ak).2 hy;rw [Cz,<- Qom,<- Nat.add_mul];exact this
     ·intro i j r y ak hy;exact hr (q.1+i) j r y (FQ ak).2 hy
 ·rename_i e a8 hk ax;obtain ⟨ti,aw,an⟩:=Xq hk QnK;obtain ⟨hu,a5,inf,al,aq⟩:=(hT t ti aw).ksl _ _ an;obtain ⟨q,h,hp⟩:=QO h;refine ⟨_,h,fun hg=>Qk fun β S st a w hR hO hA=>?_⟩;have hx:=(ax▸hO.at a1).nil_inv;have hq:=Nw (hp hg);have hb:=NC (P:=P) true (Qof 0) (ρ:=a.eval) (w:=w) (hp hg) (Vn a3 fun y hy=>hO.at (au y hy)) (Vn a2 fun y hy=>hO.at (aj y hy));have h0:q.2-q.1=0:=by
   obtain ⟨q1,q2,q3,q4⟩:=hq;rw [q4];show (h'.getD ((0:Nat):Int)).toNat-(l'.getD 0).toNat=0;omega
  have h1:0-q.1=0:=Nat.zero_sub _;refine ⟨.slice none 0 0,?_,.nil⟩;unfold execOp;rw [ho];simp only [hx,QnV,Instr.sliceAt,QA hu,QnR,Option.map_none];simp only [Instr.slice,QnV,QA hu,QnR,hb,sizeOf,Yd al,aq,h0,h1,Option.map_none,ite_self];rfl
 ·cases h
theorem Q33 {len:Nat} {lo hi mx:oP Int} {q:Nat×Nat} (h:QgJ len lo hi mx=some q):∃ m,hi=some m/\mx=some m/\slB len lo (some m)=some q:=by
 unfold QgJ at h
 grind
theorem Cp {len cap:Nat} (an:len<=cap) {lo:oP Operand} {yh ym:Operand} {l:oP Int} {m:Int} {kh km:IntKind} {ρ:Operand->Value} {w:World} {q:Nat×Nat} (hs:slB len l (some m)=some q)
  (ac:(lo=none/\l=none)\/∃ y k m,lo=some y/\l=some m/\ρ y = .int k m) (hh:ρ yh = .int kh m) (hm:ρ ym = .int km m) :
  (Instr.sliceBounds true len cap (lo.map ρ) (some (ρ yh)) (some (ρ ym))).run P w = .ok (q.1,q.2,q.2) w:=by
 obtain ⟨h1,h2,h3,rfl⟩:=Nw hs;simp only [Option.getD_some] at h2 h3;have e1:0<=m/\m<=(cap:Int):=by
  omega
 have e2:0<=m/\m<=(m.toNat:Int):=QnI
 rcases ac with ⟨rfl,rfl⟩ | ⟨y,k,a,rfl,rfl,hy⟩
 ·simp_all [Instr.sliceBounds,run_sliceBound_if]
 ·simp only [Option.getD_some] at h1 h2;have e3:0<=a/\a<=(m.toNat:Int):=QnI
  simp_all [Instr.sliceBounds,run_sliceBound_if,Qo8]
theorem Q6U {x mx:Operand} {lo hi:oP Operand} (ho:o.op = .slice t x lo hi (some mx)):x∈o.op.operands.toList/\(∀ y,lo=some y->y∈o.op.operands.toList)/\(∀ y,hi=some y->y∈o.op.operands.toList)/\mx∈o.op.operands.toList:=by
 grind [Op.operands]
theorem Q4U {tt:TT} (hT:TOk P tt) {x mx:Operand} {lo hi:oP Operand} (ho:o.op = .slice t x lo hi (some mx)) {g:Bool} {k:Dl->oP R} {r:R}
  (h:Q40 tt g t (ev x) (N6 ev lo) (N6 ev hi) (N6 ev (some mx)) k=some r):∃ dl,k dl=some r/\(g=true->Ge P E o ev hl dl):=by
 obtain ⟨bg,ar,au,bj⟩:=Q6U ho;unfold Q40 at h;split at h
 case h_2=>cases h
 rename_i l' h' m' a8 ba bb;split at h
 ·rename_i e bh s rows hk a5;cases hb:Nat.beq s bh with
  |false=>simp_all
  |true=>
   simp only [hb,QnW] at h;obtain rfl:=QnU hb;obtain ⟨ti,a4,a1⟩:=Xq hk QnK;obtain ⟨hu,a9,inf,al,ax⟩:=(hT t ti a4).ksl _ _ a1;obtain ⟨q,h,hp⟩:=QO h;refine ⟨_,h,fun hg=>Qk fun β S st a w hR hO hA=>?_⟩;have bi:=(a5▸hO.at bg).d_inv;obtain ⟨m,rfl,rfl,an⟩:=Q33 (hp hg);have hq:=Nw an;rcases Vn ba fun y hy=>hO.at (au y hy) with ⟨_,hn⟩ | ⟨yh,kh,mh,rfl,e1,az⟩
   ·cases hn
   rcases Vn bb fun y hy=>hO.at (by injection hy with hy;subst hy;exact bj) with ⟨_,hn⟩ | ⟨ym,km,mm,e3,e2,a3⟩
   ·cases hn
   injection e1 with e1
   injection e2 with e2
   injection e3 with e3
   subst e1 e2 e3;have ao:∀ (ad:oP Addr) (cap:Nat),rows.length<=cap->a.eval x = .slice ad rows.length cap->(execOp a.eval o).run P w = .ok (.value (.slice (if q.2=q.1 then ad else ad.map (·.add (q.1*s))) (q.2-q.1) (q.2-q.1))) w:=by
    intro ad cap hc hx;have hb:=Cp (P:=P) hc (ρ:=a.eval) (w:=w) an (Vn a8 fun y hy=>hO.at (ar y hy)) az a3;unfold execOp;rw [ho];simp only [hx,QnV,Instr.sliceAt,QA hu,QnR,Option.map_some];simp only [Instr.slice,QnV,QA hu,QnR,hb,sizeOf,Yd al,ax];rfl
   have bu:q.2<=rows.length:=by
    have h3:=hq.2.2.1;rw [hq.2.2.2];simp only [Option.getD_some] at h3 ⊢;omega
   have aj:(cut rows q).length=q.2-q.1:=by
    unfold cut;simp;omega
   generalize hv:a.eval x=v at bi ao;have aw:∀ (ad:oP Addr),Rd S w (.slice ad (q.2-q.1) (q.2-q.1)) (.sl s (cut rows q))->RdA β S (look st.h) w (tmv a) (.slice ad (q.2-q.1) (q.2-q.1)) (.fs s (cut rows q)):=by
    intro ad hr;have:=RdA.fs (β:=β) (h:=look st.h) (tm:=tmv a) ad s (cut rows q) (by rw [aj];exact hr);rw [aj] at this;exact this
   cases bi with
   |sl0 ad cap _=>
    refine ⟨_,ao ad cap (Nat.zero_le _) rfl,aw _ ?_⟩;have:cut ([]:List (List D)) q=[]:=by simp [cut]
    rw [this];have h0:q.2-q.1=0:=by rw [this] at aj;simpa using aj.symm
    rw [h0];exact .sl0 _ _ _
   |sl ad cap _ _ c hS a7 bc hc hr=>
    refine ⟨_,ao (some ad) cap a7 rfl,aw _ ?_⟩;by_cases h0:q.2-q.1=0
    ·have:cut rows q=[]:=Qo1 (by rw [aj,h0]);rw [this,h0];exact .sl0 _ _ _
    ·have bk:q.2≠q.1:=QnI
     rw [Qo4 bk];have:=Rd.sl (S:=S) (w:=w) (ad.add (q.1*s)) (q.2-q.1) s (cut rows q) (fun i j=>c (q.1+i) j) (by rw [Jc];exact hS) (by rw [aj];exact Qof _) (fun i r ak=>bc _ _ (FQ ak).2) (fun i j r y ak hy=>by
      have:=hc (q.1+i) j r y (FQ ak).2 hy;rw [Cz,<- Qom,<- Nat.add_mul];exact this) (fun i j r y ak hy=>hr (q.1+i) j r y (FQ ak).2 hy)
     rw [aj] at this;exact this
 ·rename_i e bh hk a5;obtain ⟨ti,a4,a1⟩:=Xq hk QnK;obtain ⟨hu,a9,inf,al,ax⟩:=(hT t ti a4).ksl _ _ a1;obtain ⟨q,h,hp⟩:=QO h;refine ⟨_,h,fun hg=>Qk fun β S st a w hR hO hA=>?_⟩;have hx:=(a5▸hO.at bg).nil_inv;obtain ⟨m,rfl,rfl,an⟩:=Q33 (hp hg);have hq:=Nw an;rcases Vn ba fun y hy=>hO.at (au y hy) with ⟨_,hn⟩ | ⟨yh,kh,mh,rfl,e1,az⟩
  ·cases hn
  rcases Vn bb fun y hy=>hO.at (by injection hy with hy;subst hy;exact bj) with ⟨_,hn⟩ | ⟨ym,km,mm,e3,e2,a3⟩
  ·cases hn
  injection e1 with e1
  injection e2 with e2
  injection e3 with e3
  subst e1 e2 e3;have hb:=Cp (P:=P) (Qof 0) (ρ:=a.eval) (w:=w) an (Vn a8 fun y hy=>hO.at (ar y hy)) az a3;have h0:q.2-q.1=0:=by
   obtain ⟨q1,q2,q3,q4⟩:=hq;rw [q4];simp only [Option.getD_some] at q2 q3 ⊢;omega
  refine ⟨.slice none 0 0,?_,.fs none _ [] (.sl0 _ _ _)⟩;unfold execOp;rw [ho];simp only [hx,QnV,Instr.sliceAt,QA hu,QnR,Option.map_some];simp only [Instr.slice,QnV,QA hu,QnR,hb,sizeOf,Yd al,ax,h0,Option.map_none,ite_self];rfl
 ·cases h
end
end Go.Vx
