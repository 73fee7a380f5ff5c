/- Part of a proof. No conditions of their own. -/
import Derived.Orders
import Derived.Below
import Derived.Laws.StructEq
import Derived.Laws.Strings3
import Derived.Laws.Concat
import Derived.Laws.BytesString
import Derived.Laws.Shifts
import Derived.Laws.Slices
import Derived.Laws.Cells
import Derived.Laws.Rows
import Derived.Tactics2
import Derived.WideLaws
import Derived.Laws.AppendOwn
import Derived.Maps.AppendAt
import Derived.ArgAppend
import Derived.Lib.ConvBytes
import Derived.Carry
set_option linter.unusedVariables false
set_option linter.unusedSimpArgs false
noncomputable section
abbrev QhT:=@Go.Result.andThen_ok
abbrev QhU:=@List.getElem?_eq_some_iff
abbrev QhV:=@Bool.and_eq_true
abbrev QhW:=@Nat.eq_of_beq_eq_true
abbrev QhX:=@Go.Sem.run_bind
abbrev QhY:=@cond_true
abbrev QhZ:=@Option.map_eq_some_iff
abbrev Qi0:=@Nat.mul_le_mul_right
abbrev Qi1:=@Go.ByteArray.toList_eq
abbrev Qi2:=@List.mem_of_getElem?
abbrev Qi3:=@List.eq_nil_of_length_eq_zero
abbrev Qi4:=@List.getElem?_map
abbrev Qi5:=@Nat.le_of_ble_eq_true
abbrev Qi6:=@if_neg
abbrev Qi7:=@Array.length_toList
abbrev Qi8:=@Array.getElem?_eq_some_iff
abbrev Qi9:=@List.getElem?_eq_getElem
abbrev Qia:=@if_pos
abbrev Qib:=@Go.MapKept.run_getObj_map
abbrev Qic:=@List.mem_cons
abbrev Qid:=@List.all_eq_true
abbrev Qie:=@List.getElem?_set_self
abbrev Qif:=@List.getElem?_set_ne
abbrev Qig:=@Go.Sem.run_pure
abbrev Qih:=@Nat.le_refl
abbrev Qii:=@Nat.mul_le_mul_left
abbrev Qij:=@List.length_cons
abbrev Qik:=@Nat.lt_of_lt_of_le
abbrev Qil:=@List.mem_append
abbrev Qim:=@Nat.succ_mul
abbrev Qin:=@List.map_cons
abbrev Qio:=@Nat.add_assoc
namespace Go.Vx
inductive D where
 |int (k:IntKind) (n:Int)
 |bool (b:Bool)
 |str (s:List UInt8)
 |sl (size:Nat) (rows:List (List D))
inductive AV where
 |top
 |d (x:D)
 |nil
 |ag (l:List AV)
 |tup (l:List AV)
 |ptr (l off:Nat)
 |el (row:List D) (off:Nat)
 |arr (l:Nat)
 |ap (l i off:Nat)
 |gd (t:Nat) (w:Bool) (av:AV)
 |fn (f:Nat) (cap:List AV)
 |fs (s:Nat) (rows:List (List D))
 |sa (l t:Nat)
 |mpd (f:Int->List (List D))
 |ex (v:Value)
inductive Ob where
 |box (cells:List AV)
 |arr (elem size:Nat) (rows:List (List D))
 |mp (t:Nat) (f:Int->Bool)
structure St where
 n:Nat
 tm:List (Nat × AV)
 h:List (Nat × Ob)
def look {α:Type}:List (Nat × α)->Nat->Option α
 |[],_=>none
 |(k,a)::r,t=>bif Nat.beq k t then some a else look r t
def rem {α:Type} (l:Nat):List (Nat × α)->List (Nat × α)
 |[]=>[]
 |(k,a)::r=>bif Nat.beq k l then rem l r else (k,a)::rem l r
def NL (h:List (Nat × Ob)):List (Nat × Option Ob)->List (Nat × Ob)
 |[]=>h
 |(l,some o)::r=>NL ((l,o)::rem l h) r
 |(l,none)::r=>NL (rem l h) r
def Pb:Value->AV
 |.int k n=>.d (.int k n)
 |.bool b=>.d (.bool b)
 |.string s=>.d (.str s.data.toList)
 |.slice none 0 0=>.nil
 |_=>.top
inductive Kd where
 |int (k:IntKind)
 |bool
 |str
 |sl (e esz:Nat)
 |struct
 |array (e esz n:Nat)
 |ptr
 |mapI
 |mpb
 |other
structure TyI where
 kd:Kd
 size:Nat
 bytes:Nat
 zero:List Value
 zd:List D
 fields:List (Nat × Nat)
 eqk:Option (List Kd)
abbrev TT:=List (Nat × TyI)
structure Dl where
 v:AV
 wr:List (Nat × Option Ob)
 rd:List Nat
def lkT (tm:List (Nat × AV)) (t:Nat):AV:=(look tm t).getD .top
def evO (tm:List (Nat × AV)):Operand->AV
 |.tmp t=>lkT tm t
 |.const v=>Pb v
 |.global _=>.top
 |.func f=>.fn f []
def bw (e w:Bool):Bool:=bif w then e else !e
def ctx (tm:List (Nat × AV)):Nat->Nat->Bool->Option (Bool × List (Nat × Bool))
 |0,_,_=>none
 |f+1,s,w=>
  match lkT tm s with
  |.d (.bool e)=>some (bw e w,[(s,w)])
  |.gd s' w' (.d (.bool e))=>
   match ctx tm f s' w' with
   |some (g,l)=>some (g&&bw e w,(s,w)::l)
   |none=>none
  |_=>none
def QcF:List (Nat × Bool)->Nat->Bool->Bool
 |[],_,_=>false
 |(a,b)::r,s,w=>(Nat.beq a s&&(b == w))||QcF r s w
def unw (l:List (Nat × Bool)):AV->AV
 |.gd s w av=>bif QcF l s w then av else .gd s w av
 |av=>av
section
variable {R:Type}
def orZ {α:Type} (g:Bool) (p:Option α) (z:α):Option α:=
 match p with
 |some a=>some a
 |none=>bif g then none else some z
def gb {α:Type} (g:Bool) (p:Option α) (z:α) (k:α->Option R):Option R:=Option.bind (orZ g p z) k
def Q2 (k:IntKind):D->Option Int
 |.int k' n=>bif k == k' then some n else none
 |_=>none
def Kl:D->Option Bool
 |.bool b=>some b
 |_=>none
def RD:D->Option (List UInt8)
 |.str s=>some s
 |_=>none
def pSl (size:Nat):D->Option (List (List D))
 |.sl s rows=>bif Nat.beq s size then some rows else none
 |_=>none
def Jl:List AV->Bool
 |[]=>true
 |.ptr ..::r=>Jl r
 |.d _::r=>Jl r
 |_=>false
def AK:AV->Bool
 |.gd ..=>false
 |.fn _ l=>Jl l
 |.ag _=>false
 |.tup _=>false
 |_=>true
def prj (g:Bool) (kd:Kd) (av:AV) (k:AV->Option R):Option R:=
 match av with
 |.d x=>
  match kd with
  |.int ik=>gb g (Q2 ik x) 0 fun n=>k (.d (.int ik n))
  |.bool=>gb g (Kl x) false fun b=>k (.d (.bool b))
  |.str=>gb g (RD x) [] fun s=>k (.d (.str s))
  |.sl _ aj=>gb g (pSl aj x) [] fun r=>k (.d (.sl aj r))
  |_=>none
 |av=>bif AK av then k av else none
def Q0c (g:Bool) (row:List D):Nat->Nat->(List AV->Option R)->Option R
 |_,0,k=>k []
 |off,n+1,k=>gb g row[off]? (.bool false) fun c=>Q0c g row (off+1) n fun cs=>k (.d c::cs)
def CH (cells:List AV):Nat->Nat->Option (List AV)
 |_,0=>some []
 |off,n+1=>
  match cells[off]? with
  |some c=>match CH cells (off+1) n with
   |some r=>bif AK c then some (c::r) else none
   |none=>none
  |none=>none
def SJ:Kd->Bool
 |.struct=>true
 |_=>false
def V8:Kd->Bool
 |.struct=>true
 |.array ..=>true
 |_=>false
def Ry {α:Type}:Nat->Nat->List α->List (List α)
 |0,_,_=>[]
 |n+1,s,l=>l.take s::Ry n s (l.drop s)
def He {α:Type} (l:List α) (n:Nat):Option Unit:=bif Nat.beq l.length n then some () else none
def Q1S:AV->Bool
 |.d _ | .nil | .ptr .. | .el .. | .arr _ | .ap ..=>true
 |.fn _ l=>Jl l
 |_=>false
def Nz (cells:List AV):Nat->List AV->Option (List AV)
 |_,[]=>some cells
 |off,v::r=>bif Q1S v&&Nat.ble (off+1) cells.length then Nz (cells.set off v) (off+1) r else none
def Qcu:List AV->Option (List D)
 |[]=>some []
 |.d x::r=>match Qcu r with | some l=>some (x::l) | none=>none
 |_::_=>none
def Vg (tm:Operand->AV):List (Nat × Operand)->List (Nat × AV)
 |[]=>[]
 |(i,x)::r=>(i,tm x)::Vg tm r
def XN:AV->List AV
 |.ag l=>l
 |.fs s rows=>[.d (.sl s rows)]
 |v=>[v]
def AQ (fields:List (Nat × Nat)) (tt:TT):List AV->List (Nat × AV)->Option (List AV)
 |cells,[]=>some cells
 |cells,(i,v)::r=>
  match fields[i]? with
  |some (off,t)=>match look tt t with
   |some ti=>bif Nat.beq (XN v).length ti.size&&Nat.ble (off+ti.size) cells.length then
     match Nz cells off (XN v) with
     |some cs=>AQ fields tt cs r
     |none=>none
    else none
   |none=>none
  |none=>none
def Et (ti:TyI):List AV:=ti.zero.map Pb
def Q4X (aj t:Nat):Value->AV
 |.pointer none=>.sa aj t
 |v=>Pb v
def Q0l (aj t:Nat) (ti:TyI):List AV:=ti.zero.map (Q4X aj t)
def Q5K (op:BinOp) (k:IntKind) (a b:Int):Option D:=
 match op with
 |.add=>some (.int k (k.wrap (a+b)))
 |.sub=>some (.int k (k.wrap (a-b)))
 |.mul=>some (.int k (k.wrap (a*b)))
 |.eql=>some (.bool (a == b))
 |.neq=>some (.bool (a != b))
 |.lss=>some (.bool (decide (a<b)))
 |.leq=>some (.bool (decide (a<=b)))
 |.gtr=>some (.bool (decide (a>b)))
 |.geq=>some (.bool (decide (a>=b)))
 |_=>none
def nz (b:Int):Option Unit:=bif b == 0 then none else some ()
def B8 (b:Int):Option Unit:=bif decide (0<=b) then some () else none
def Q8t (n:Nat):Option Unit:=bif Nat.ble n 9223372036854775807 then some () else none
def Q5S (k:IntKind) (a b:Int):Int:=k.wrap ((BitVec.ofInt k.bits a &&& BitVec.ofInt k.bits b).toNat)
def bOr (k:IntKind) (a b:Int):Int:=k.wrap ((BitVec.ofInt k.bits a ||| BitVec.ofInt k.bits b).toNat)
def QfP (k:IntKind) (a b:Int):Int:=k.wrap ((BitVec.ofInt k.bits a ^^^ BitVec.ofInt k.bits b).toNat)
def QdJ (k:IntKind) (a:Int):Int:=QfP k (if k.signed then -1 else k.max) a
def Q7l (k:IntKind) (a b:Int):Int:=k.wrap ((BitVec.ofInt k.bits a &&& ~~~(BitVec.ofInt k.bits b)).toNat)
def shL (k:IntKind) (a b:Int):Int:=k.wrap (a*2 ^ min b.toNat k.bits)
def shR (k:IntKind) (a b:Int):Int:=a.fdiv (2 ^ min b.toNat k.bits)
def Qey (a b:List UInt8):Bool:=Op.bytesLess a b||a == b
def Q3K (g:Bool):List Kd->List AV->List AV->(List Bool->Option R)->Option R
 |[],[],[],k=>k []
 |kd::ks,.d a::xs,.d b::ys,k=>
  match kd with
  |.int ik=>gb g (Q2 ik a) 0 fun m=>gb g (Q2 ik b) 0 fun n=>Q3K g ks xs ys fun r=>k ((m == n)::r)
  |.bool=>gb g (Kl a) false fun m=>gb g (Kl b) false fun n=>Q3K g ks xs ys fun r=>k ((m == n)::r)
  |.str=>gb g (RD a) [] fun m=>gb g (RD b) [] fun n=>Q3K g ks xs ys fun r=>k ((m == n)::r)
  |_=>none
 |_,_,_,_=>none
def Q9I:List Bool->Bool
 |[]=>true
 |[b]=>b
 |b::r=>b&&Q9I r
def Qg3 (g:Bool) (op:BinOp) (a b:List UInt8) (k:AV->Option R):Option R:=
 match op with
 |.add=>gb g (Q8t (a.length+b.length)) () fun _=>k (.d (.str (a++b)))
 |.eql=>k (.d (.bool (a == b)))
 |.neq=>k (.d (.bool (!(a == b))))
 |.lss=>k (.d (.bool (Op.bytesLess a b)))
 |.leq=>k (.d (.bool (Qey a b)))
 |.gtr=>k (.d (.bool (!Qey a b)))
 |.geq=>k (.d (.bool (!Op.bytesLess a b)))
 |_=>none
def Qgz (g:Bool) (op:BinOp) (kd:Kd) (eqk:Option (List Kd)) (x y:AV) (k:AV->Option R):Option R:=
 match x,y with
 |.d (.int ka a),.d (.int kb b)=>
  match op with
  |.shl=>gb g (B8 b) () fun _=>k (.d (.int ka (shL ka a b)))
  |.shr=>gb g (B8 b) () fun _=>k (.d (.int ka (shR ka a b)))
  |op=>bif ka == kb then
   match op with
   |.quo=>gb g (nz b) () fun _=>k (.d (.int ka (ka.wrap (a.tdiv b))))
   |.rem=>gb g (nz b) () fun _=>k (.d (.int ka (a.tmod b)))
   |.and=>k (.d (.int ka (Q5S ka a b)))
   |.or=>k (.d (.int ka (bOr ka a b)))
   |.xor=>k (.d (.int ka (QfP ka a b)))
   |.andNot=>k (.d (.int ka (Q7l ka a b)))
   |_=>match Q5K op ka a b with
    |some r=>k (.d r)
    |none=>none
  else none
 |.d (.bool a),.d (.bool b)=>
  match kd,op with
  |.bool,.eql=>k (.d (.bool (a == b)))
  |.bool,.neq=>k (.d (.bool (!(a == b))))
  |_,_=>none
 |.d (.str a),.d (.str b)=>Qg3 g op a b k
 |.ag xs,.ag ys=>
  match eqk with
  |some ks=>match op with
   |.eql=>Q3K g ks xs ys fun bs=>k (.d (.bool (Q9I bs)))
   |.neq=>Q3K g ks xs ys fun bs=>k (.d (.bool (!Q9I bs)))
   |_=>none
  |none=>none
 |_,_=>none
def VP (s:List UInt8) (n:Int):Option Int:=bif decide (0<=n) then (s[n.toNat]?).map fun b=>(b.toNat:Int) else none
def slB (len:Nat) (lo hi:Option Int):Option (Nat × Nat):=
 bif decide (0<=lo.getD 0)&&(decide (lo.getD 0<=hi.getD len)&&decide (hi.getD len<=len)) then some ((lo.getD 0).toNat,(hi.getD len).toNat) else none
def Qfq (len:Nat) (lo hi mx:Option Int):Option (Nat × Nat):=
 match hi,mx with
 |some h,some m=>bif decide (h=m) then slB len lo (some h) else none
 |_,_=>none
def neL {α:Type}:List α->Option Unit
 |[]=>none
 |_=>some ()
def cut {α:Type} (l:List α) (q:Nat × Nat):List α:=(l.drop q.1).take (q.2-q.1)
def Q1 (rows:List (List D)) (n:Int):Option (List D):=bif decide (0<=n) then rows[n.toNat]? else none
def inB (len:Nat) (n:Int):Option Unit:=bif decide (0<=n)&&decide (n<len) then some () else none
def AM (aj:Nat) (hl:Nat->Option Ob):AV->Option (List (List D) × List Nat)
 |.d (.sl s rows)=>bif Nat.beq s aj then some (rows,[]) else none
 |.nil=>some ([],[])
 |.arr l=>match hl l with
  |some (.arr _ s rows)=>bif Nat.beq s aj then some (rows,[l]) else none
  |_=>none
 |_=>none
end
abbrev oP:=Option
abbrev oF:D:=.bool false
abbrev pIw:=Q2 .i64
abbrev wJ:=IntKind.wrap .i64
abbrev Q4 (x:Int):D:=.int .i64 x
end Go.Vx
namespace Go.Vx
abbrev Q4r:=(R:Type)->Nat->Nat->Bool->List AV->(Nat->Option Ob)->(Dl->Option R)->Option R
section
variable {R:Type}
def TJ (tt:TT) (t:Nat):Kd:=
 match look tt t with
 |some ti=>ti.kd
 |none=>.other
def Qcb (tt:TT) (t:Nat):Option (List Kd):=
 match look tt t with
 |some ti=>ti.eqk
 |none=>none
def Nc (ev:Operand->AV):Option Operand->Option (Option Int)
 |none=>some none
 |some x=>match ev x with
  |.d (.int _ n)=>some (some n)
  |_=>none
def Q9s (tt:TT) (g:Bool) (t:Nat) (x i:AV) (k:Dl->Option R):Option R:=
 match TJ tt t,x,i with
 |.str,.d (.str s),.d (.int _ n)=>gb g (VP s n) 0 fun b=>k ⟨.d (.int .u8 b),[],[]⟩
 |_,_,_=>none
def Q7I (tt:TT) (g:Bool) (t:Nat) (x:AV) (lo hi:Option (Option Int)) (k:Dl->Option R):Option R:=
 match lo,hi with
 |some lo,some hi=>
  match TJ tt t,x with
  |.str,.d (.str s)=>gb g (slB s.length lo hi) (0,0) fun q=>k ⟨.d (.str (cut s q)),[],[]⟩
  |.sl _ aj,.d (.sl s rows)=>bif Nat.beq s aj then gb g (slB rows.length lo hi) (0,0) fun q=>k ⟨.d (.sl aj (cut rows q)),[],[]⟩ else none
  |.sl _ _,.nil=>gb g (slB 0 lo hi) (0,0) fun _=>k ⟨.nil,[],[]⟩
  |_,_=>none
 |_,_=>none
def Q3O (tt:TT) (g:Bool) (t:Nat) (x:AV) (lo hi mx:Option (Option Int)) (k:Dl->Option R):Option R:=
 match lo,hi,mx with
 |some lo,some hi,some mx=>
  match TJ tt t,x with
  |.sl _ aj,.d (.sl s rows)=>bif Nat.beq s aj then gb g (Qfq rows.length lo hi mx) (0,0) fun q=>k ⟨.fs aj (cut rows q),[],[]⟩ else none
  |.sl _ aj,.nil=>gb g (Qfq 0 lo hi mx) (0,0) fun _=>k ⟨.fs aj [],[],[]⟩
  |_,_=>none
 |_,_,_=>none
def El:List (List D)->Option (List UInt8)
 |[]=>some []
 |[.int .u8 n]::r=>match El r with
  |some l=>some (UInt8.ofNat n.toNat::l)
  |none=>none
 |_=>none
mutual
def SE:AV->Bool
 |.d (.int ..)=>true
 |.d (.bool _)=>true
 |.d (.str _)=>true
 |.d (.sl ..)=>false
 |.ag l=>RJ l
 |.tup l=>RJ l
 |.fn ..=>false
 |.fs ..=>false
 |.mpd _=>false
 |.el ..=>false
 |.gd ..=>false
 |_=>true
def RJ:List AV->Bool
 |[]=>true
 |a::r=>SE a&&RJ r
end
def Q7Q:Option Ob->Bool
 |some (.box cells)=>RJ cells
 |some (.arr ..)=>false
 |some (.mp ..)=>false
 |none=>true
def CB:List (Nat × Option Ob)->Bool
 |[]=>true
 |(_,o)::r=>Q7Q o&&CB r
def Q6L (hl:Nat->Option Ob):AV->Option (AV × List Nat)
 |.arr l=>match hl l with
  |some (.arr _ size rows)=>some (.d (.sl size rows),[l])
  |_=>none
 |av=>bif AK av then some (av,[]) else none
def D4 (hl:Nat->Option Ob):List AV->Option (List AV × List Nat)
 |[]=>some ([],[])
 |a::r=>match Q6L hl a with
  |some (a',l)=>match D4 hl r with
   |some (r',l')=>some (a'::r',l++l')
   |none=>none
  |none=>none
def Ra (hl:Nat->Option Ob):AV->Option (AV × List Nat)
 |.ag cs=>match D4 hl cs with
  |some (aj,l)=>some (.ag aj,l)
  |none=>none
 |av=>Q6L hl av
def R7 (hl:Nat->Option Ob):List AV->Option (List AV × List Nat)
 |[]=>some ([],[])
 |a::r=>match Ra hl a with
  |some (a',l)=>match R7 hl r with
   |some (r',l')=>some (a'::r',l++l')
   |none=>none
  |none=>none
def Q9e:List D->List AV->Option (List D)
 |[],[]=>some []
 |z::zs,a::r=>
  match Q9e zs r with
  |some l=>match a with
   |.d x=>some (x::l)
   |.nil=>match z with
    |.sl e []=>some (.sl e []::l)
    |_=>none
   |_=>none
  |none=>none
 |_,_=>none
def N9 (tt:TT) (t:Nat):List D:=
 match look tt t with
 |some ti=>ti.zd
 |none=>[]
def Mv (z:List D):List (List D)->List (Nat × AV)->Option (List (List D))
 |rows,[]=>some rows
 |rows,(i,v)::r=>
  match Q9e z (XN v) with
  |some row=>bif Nat.ble (i+1) rows.length then Mv z (rows.set i row) r else none
  |none=>none
def Qbt (row:List D):Nat->List D->List D
 |_,[]=>row
 |off,x::r=>Qbt (row.set off x) (off+1) r
def Yf (n:Nat):Option Unit:=bif Nat.ble n 140737488355328 then some () else none
def QcY (tt:TT) (g:Bool) (hl:Nat->Option Ob) (t:Nat) (a:AV) (k:Dl->Option R):Option R:=
 match look tt t with
 |some ti=>
  match a with
  |.ptr l off=>match hl l with
   |some (.box cells)=>
    bif V8 ti.kd then
     match CH cells off ti.size with
     |some cs=>k ⟨.ag cs,[],[l]⟩
     |none=>none
    else match cells[off]? with
     |some c=>prj g ti.kd c fun v=>k ⟨v,[],[l]⟩
     |none=>none
   |_=>none
  |.el row off=>
   bif V8 ti.kd then Q0c g row off ti.size fun cs=>k ⟨.ag cs,[],[]⟩
   else gb g row[off]? (.bool false) fun c=>prj g ti.kd (.d c) fun v=>k ⟨v,[],[]⟩
  |.ap l i off=>match hl l with
   |some (.arr _ _ rows)=>
    gb g rows[i]? [] fun row=>
     bif V8 ti.kd then Q0c g row off ti.size fun cs=>k ⟨.ag cs,[],[l]⟩
     else gb g row[off]? (.bool false) fun c=>prj g ti.kd (.d c) fun v=>k ⟨v,[],[l]⟩
   |_=>none
  |_=>none
 |none=>none
def Q9c (tt:TT) (hl:Nat->Option Ob) (t:Nat) (a v:AV) (k:Dl->Option R):Option R:=
 match look tt t with
 |some ti=>
  bif Nat.beq (XN v).length ti.size then
   match a with
   |.ptr l off=>match hl l with
    |some (.box cells)=>match Nz cells off (XN v) with
     |some cs=>k ⟨.top,[(l,some (.box cs))],[l]⟩
     |none=>none
    |_=>none
   |.ap l i off=>match hl l with
    |some (.arr e size rows)=>match Qcu (XN v) with
     |some ds=>gb true rows[i]? [] fun row=>bif Nat.ble (off+ds.length) size then k ⟨.top,[(l,some (.arr e size (rows.set i (Qbt row off ds))))],[l]⟩ else none
     |none=>none
    |_=>none
   |_=>none
  else none
 |none=>none
def Q58 (hl:Nat->Option Ob) (aj n l:Nat) (v:AV) (k:Dl->Option R):Option R:=
 match hl l with
 |some (.arr e s rows)=>
  bif Nat.beq s aj then
   match Qcu (XN v) with
   |some ds=>bif Nat.beq ds.length (n*aj) then gb true (He rows n) () fun _=>k ⟨.top,[(l,some (.arr e s (Ry n aj ds)))],[l]⟩ else none
   |none=>none
  else none
 |_=>none
def MP (g:Bool) (hl:Nat->Option Ob) (aj n l:Nat) (i:AV) (k:Dl->Option R):Option R:=
 match i,hl l with
 |.d (.int _ x),some (.arr _ s _)=>bif Nat.beq s aj then gb g (inB n x) () fun _=>k ⟨.ap l x.toNat 0,[],[l]⟩ else none
 |_,_=>none
def Q79 (s:List UInt8):List (List D):=s.map fun b=>[D.int .u8 (b.toNat:Int)]
def Q9b (tt:TT) (g:Bool) (t f:Nat) (x:AV) (k:Dl->Option R):Option R:=
 match look tt t with
 |some ti=>bif SJ ti.kd then match ti.fields[f]? with
   |some (off,ft)=>match look tt ft with
    |some fi=>match x with
     |.ag cells=>
      bif V8 fi.kd then
       match CH cells off fi.size with
       |some cs=>k ⟨.ag cs,[],[]⟩
       |none=>none
      else match cells[off]? with
       |some c=>prj g fi.kd c fun v=>k ⟨v,[],[]⟩
       |none=>none
     |_=>none
    |none=>none
   |none=>none
  else none
 |none=>none
def EI (tt:TT) (hl:Nat->Option Ob) (t f:Nat) (x:AV) (k:Dl->Option R):Option R:=
 match look tt t with
 |some ti=>bif SJ ti.kd then match ti.fields[f]? with
   |some (off,_)=>match x with
    |.ptr l o=>k ⟨.ptr l (o+off),[],[]⟩
    |.el row o=>k ⟨.el row (o+off),[],[]⟩
    |.ap l i o=>match hl l with
     |some (.arr ..)=>k ⟨.ap l i (o+off),[],[l]⟩
     |_=>none
    |_=>none
   |none=>none
  else none
 |none=>none
def Ep (tt:TT) (g:Bool) (hl:Nat->Option Ob) (t:Nat) (x i:AV) (k:Dl->Option R):Option R:=
 match TJ tt t,i with
 |.sl _ aj,.d (.int _ n)=>
  match x with
  |.d (.sl s rows)=>bif Nat.beq s aj then gb g (Q1 rows n) [] fun row=>k ⟨.el row 0,[],[]⟩ else none
  |.arr l=>match hl l with
   |some (.arr _ s rows)=>bif Nat.beq s aj then gb g (inB rows.length n) () fun _=>k ⟨.ap l n.toNat 0,[],[l]⟩ else none
   |_=>none
  |.nil=>gb g (Q1 [] n) [] fun row=>k ⟨.el row 0,[],[]⟩
  |_=>none
 |_,_=>none
def Qgm (tt:TT) (hl:Nat->Option Ob) (t:Nat) (x:AV):Option (Int × List Nat):=
 match TJ tt t with
 |.sl _ _=>match x with
  |.d (.sl _ rows)=>some (rows.length,[])
  |.nil=>some (0,[])
  |.arr l=>match hl l with
   |some (.arr _ _ rows)=>some (rows.length,[l])
   |_=>none
  |_=>none
 |.str=>match x with
  |.d (.str s)=>some (s.length,[])
  |_=>none
 |_=>none
def Cq (isMin:Bool):AV->List AV->Option AV
 |a,[]=>some a
 |.d (.int k a),.d (.int k' b)::r=>bif k == k' then Cq isMin (.d (.int k (bif isMin then (if b<a then b else a) else (if a<b then b else a)))) r else none
 |_,_=>none
def FZ (hl:Nat->Option Ob) (aj:Nat) (o:Ob) (v:AV) (wr:List (Nat × Option Ob)) (rd:List Nat) (k:Dl->Option R):Option R:=
 match hl aj with
 |none=>k ⟨v,wr++[(aj,some o)],rd⟩
 |some _=>none
def Q0W (tt:TT) (hl:Nat->Option Ob) (aj:Nat) (g:Bool) (t tn:Nat) (s x:AV) (k:Dl->Option R):Option R:=
 match TJ tt t,TJ tt tn,s,x with
 |.sl e ak,.int _,.nil,.d (.int _ n)=>match look tt e with
  |some ei=>
   bif Nat.ble 1 ei.bytes&&Nat.beq (N9 tt e).length ak then
   gb g (bif decide (0<n) then some () else none) () fun _=>
   gb g (Yf (n.toNat*ei.bytes)) () fun _=>FZ hl aj (.arr e ak (List.replicate n.toNat (N9 tt e))) (.arr aj) [] [] k
   else none
  |none=>none
 |_,_,_,_=>none
def Q6q (f:Int->Bool) (n:Int) (b:Bool):Int->Bool:=fun m=>bif decide (m=n) then b else f m
def QgB (tt:TT) (hl:Nat->Option Ob) (aj:Nat) (u:Bool) (t l:Nat) (lo hi:Option (Option Int)) (k:Dl->Option R):Option R:=
 match TJ tt t,lo,hi with
 |.sl e ak,some none,some (some h0)=>bif u&&decide (h0=0) then match hl l with
   |some (.arr e' s' _)=>bif Nat.beq e e'&&Nat.beq ak s' then FZ hl aj (.arr e ak []) (.arr aj) [(l,none)] [l] k else none
   |_=>none
  else none
 |_,_,_=>none
def Q4P (tt:TT) (aj:Nat) (g:Bool) (hl:Nat->Option Ob) (t:Nat) (s x:AV) (k:Dl->Option R):Option R:=
 match TJ tt t with
 |.sl e ak=>match look tt e with
  |some ei=>
   bif Nat.ble 1 ei.bytes&&Nat.beq ei.zero.length ak then
   match AM ak hl x with
   |some (news,rx)=>
    match s with
    |.nil=>gb g (Yf (news.length*ei.bytes)) () fun _=>FZ hl aj (.arr e ak news) (.arr aj) [] rx k
    |.fs s0 rows=>bif Nat.beq s0 ak then gb g (neL news) () fun _=>gb g (Yf ((rows.length+news.length)*ei.bytes)) () fun _=>FZ hl aj (.arr e ak (rows++news)) (.arr aj) [] rx k else none
    |.arr l=>match hl l with
     |some (.arr e' s' rows)=>bif Nat.beq e e'&&Nat.beq ak s' then
       gb g (Yf ((rows.length+news.length)*ei.bytes)) () fun _=>FZ hl aj (.arr e ak (rows++news)) (.arr aj) [(l,none)] (l::rx) k
      else none
     |_=>none
    |_=>none
   |none=>none
   else none
  |none=>none
 |_=>none
def Ku (tt:TT) (hl:Nat->Option Ob) (ak:Nat) (u:Bool) (t len:Nat) (an:List (Nat × AV)) (k:Dl->Option R):Option R:=
 match TJ tt t with
 |.sl e aj=>
  bif Nat.ble (len*aj) 16777216&&(look tt e).isSome&&Nat.beq (N9 tt e).length aj then
   match Mv (N9 tt e) (List.replicate len (N9 tt e)) an with
   |some rows=>bif u then FZ hl ak (.arr e aj rows) (.arr ak) [] [] k else k ⟨.d (.sl aj rows),[],[]⟩
   |none=>none
  else none
 |_=>none
def QbK (tt:TT) (hl:Nat->Option Ob) (aj:Nat) (u:Bool) (t:Nat) (l c:AV) (k:Dl->Option R):Option R:=
 bif u then
  match TJ tt t,l,c with
  |.sl e ak,.d (.int _ n),.d (.int _ m)=>match look tt e with
   |some ei=>
    bif Nat.ble 1 ei.bytes&&Nat.beq (N9 tt e).length ak then
    gb true (bif decide (0<=n)&&decide (n<=m) then some () else none) () fun _=>
    gb true (Yf (m.toNat*ei.bytes)) () fun _=>FZ hl aj (.arr e ak (List.replicate n.toNat (N9 tt e))) (.arr aj) [] [] k
    else none
   |none=>none
  |_,_,_=>none
 else none
def Pr (x:Nat):List Nat->Bool
 |[]=>false
 |a::r=>Nat.beq a x||Pr x r
def HI (a b:List Nat):Bool:=a.any fun x=>Pr x b
def wrL (dl:Dl):List Nat:=dl.wr.map (·.1)
mutual
def WT (l:Nat):AV->Bool
 |.ptr a _=>Nat.beq a l
 |.arr a=>Nat.beq a l
 |.ap a _ _=>Nat.beq a l
 |.sa a _=>Nat.beq a l
 |.ag r=>Gv l r
 |.tup r=>Gv l r
 |.fn _ r=>Gv l r
 |.gd _ _ v=>WT l v
 |_=>false
def Gv (l:Nat):List AV->Bool
 |[]=>false
 |a::r=>WT l a||Gv l r
end
def TP (l:Nat):List (Nat × Option Ob)->Bool
 |[]=>false
 |(_,some (.box cells))::r=>Gv l cells||TP l r
 |_::r=>TP l r
def CL (bs:List Nat) (dl:Dl):Bool:=bs.all fun l=>!WT l dl.v&&!TP l dl.wr
def Q4G:D->Bool
 |.sl ..=>false
 |_=>true
def B5 (rows:List (List D)):Bool:=rows.all fun r=>r.all Q4G
def Fa (l:List (List (List D))):Option Unit:=bif l.all B5 then some () else none
def Q2a:List (Nat × Option Ob)->List (List (List D))
 |[]=>[]
 |(_,some (.arr _ _ rows))::r=>rows::Q2a r
 |_::r=>Q2a r
def QgF (tt:TT) (e:Nat):Bool:=
 match look tt e with
 |some ti=>Nat.beq ti.zd.length ti.size&&ti.zd.all Q4G
 |none=>false
def FJ (tt:TT):List (Nat × Option Ob)->Bool
 |[]=>true
 |(_,some (.arr e _ _))::r=>QgF tt e&&FJ tt r
 |(_,some (.box cells))::r=>RJ cells&&FJ tt r
 |(_,some (.mp ..))::_=>false
 |(_,none)::r=>FJ tt r
def Vm:List (Nat × Option Ob)->Bool
 |[]=>true
 |(_,some (.arr _ _ rows))::r=>B5 rows&&Vm r
 |(_,some (.box cells))::r=>RJ cells&&Vm r
 |(_,some (.mp ..))::_=>false
 |(_,none)::r=>Vm r
def Qh4 (spec:Q4r) (f:Nat):Bool:=(spec Unit f 0 false [.gd 0 true .nil] (fun _=>none) fun _=>some ()).isSome
def Q8X:AV->Bool
 |.ag l=>l.all AK
 |a=>AK a
def QaB (spec:Q4r) (tt:TT) (aj:Nat) (g u:Bool) (hl:Nat->Option Ob) (f:Nat) (args:List AV) (k:Dl->Option R):Option R:=
 bif Qh4 spec f then (bif args.all Q8X then spec R f aj g args hl k else none) else
 match R7 hl args with
 |some (ak,bs)=>
  spec R f aj g ak hl fun dl=>
   bif !HI bs (wrL dl)&&(!HI bs dl.rd&&CL bs dl) then
    bif bs.isEmpty||(SE dl.v&&CB dl.wr) then k ⟨dl.v,dl.wr,bs++dl.rd⟩
    else bif SE dl.v&&FJ tt dl.wr then gb g (Fa (Q2a dl.wr)) () fun _=>k ⟨dl.v,dl.wr,bs++dl.rd⟩
    else bif u then k ⟨dl.v,bs.map (fun l=>(l,none))++dl.wr,bs++dl.rd⟩ else none
   else none
 |none=>none
def vUn (op:UnOp) (x:AV):Option AV:=
 match op,x with
 |.not,.d (.bool b)=>some (.d (.bool !b))
 |.neg,.d (.int k n)=>some (.d (.int k (k.wrap (0-n))))
 |.xor,.d (.int k n)=>some (.d (.int k (QdJ k n)))
 |_,_=>none
def cv1 (hl:Nat->Option Ob) (av:AV):AV:=
 match Ra hl av with
 |some (a,_)=>a
 |none=>.top
def cvP (hl:Nat->Option Ob):List (Nat × AV)->List (Nat × AV)
 |[]=>[]
 |(i,a)::r=>(i,cv1 hl a)::cvP hl r
def bsP (hl:Nat->Option Ob):List (Nat × AV)->List Nat
 |[]=>[]
 |(_,a)::r=>match Ra hl a with
  |some (_,b)=>b++bsP hl r
  |none=>bsP hl r
def Qgk (hl:Nat->Option Ob) (bs:List Nat):Nat->Option Ob:=fun k=>bif Pr k bs then none else hl k
def Q43 (tt:TT) (hl:Nat->Option Ob) (ak:Nat) (u:Bool) (t len:Nat) (aj:List (Nat × AV)) (k:Dl->Option R):Option R:=
 match bsP hl aj with
 |[]=>Ku tt hl ak u t len aj k
 |b::bs=>bif u then
   Ku tt (Qgk hl (b::bs)) ak true t len (cvP hl aj) fun dl=>
    bif !HI (b::bs) (wrL dl)&&!HI (b::bs) dl.rd then k ⟨dl.v,(b::bs).map (fun l=>(l,none))++dl.wr,(b::bs)++dl.rd⟩ else none
  else none
def vdl (spec:Q4r) (tt:TT) (aj:Nat) (g u:Bool) (ev:Operand->AV) (hl:Nat->Option Ob) (op:Op) (k:Dl->Option R):Option R:=
 match op with
 |.move x=>k ⟨ev x,[],[]⟩
 |.assign x=>k ⟨ev x,[],[]⟩
 |.pick c x y=>
  match c with
  |.tmp s=>match ev (.tmp s) with
   |.d (.bool e)=>match unw [(s,true)] (ev x),unw [(s,false)] (ev y) with
    |.d (.bool a),.d (.bool b)=>k ⟨.d (.bool (bif e then a else b)),[],[]⟩
    |_,_=>none
   |_=>none
  |_=>none
 |.alloc t=>match look tt t with
  |some ti=>bif u then match ti.kd with
    |.array _ ao n=>bif Nat.beq ti.zd.length (n*ao) then FZ hl aj (.arr t ao (Ry n ao ti.zd)) (.ap aj 0 0) [] [] k else none
    |_=>FZ hl aj (.box (Q0l aj t ti)) (.ptr aj 0) [] [] k
   else none
  |none=>none
 |.box t x=>match look tt t with
  |some ti=>bif u&&(Nat.beq (XN (ev x)).length ti.size&&(XN (ev x)).all Q1S) then FZ hl aj (.box (XN (ev x))) (.ptr aj 0) [] [] k else none
  |none=>none
 |.build t an=>match look tt t with
  |some ti=>bif V8 ti.kd then match AQ ti.fields tt (Et ti) (Vg ev an.toList) with
    |some cs=>k ⟨.ag cs,[],[]⟩
    |none=>none
   else none
  |none=>none
 |.buildSlice t len an=>Q43 tt hl aj u t len (Vg ev an.toList) k
 |.load t a=>QcY tt g hl t (ev a) k
 |.store t a v=>bif u then match TJ tt t,ev a with
   |.array _ ao n,.ap l 0 0=>Q58 hl ao n l (ev v) k
   |_,_=>Q9c tt hl t (ev a) (ev v) k
  else none
 |.nilCheck x=>match ev x with
  |.ptr l o=>k ⟨.ptr l o,[],[]⟩
  |.el r o=>k ⟨.el r o,[],[]⟩
  |.ap l i o=>match hl l with
   |some _=>k ⟨.ap l i o,[],[l]⟩
   |none=>none
  |_=>none
 |.binOp op t x y _=>Qgz g op (TJ tt t) (Qcb tt t) (ev x) (ev y) fun v=>k ⟨v,[],[]⟩
 |.unOp op _ x=>match vUn op (ev x) with
  |some v=>k ⟨v,[],[]⟩
  |none=>none
 |.convert s t x=>match TJ tt s,TJ tt t with
  |.int _,.int kd=>match ev x with
   |.d (.int _ n)=>k ⟨.d (.int kd (kd.wrap n)),[],[]⟩
   |_=>none
  |.sl e 1,.str=>match TJ tt e with
   |.int .u8=>match AM 1 hl (ev x) with
    |some (rows,rd)=>gb g (El rows) [] fun s=>k ⟨.d (.str s),[],rd⟩
    |none=>none
   |_=>none
  |.str,.str=>match ev x with
   |.d (.str s)=>k ⟨.d (.str s),[],[]⟩
   |_=>none
  |.str,.sl e 1=>match TJ tt e with
   |.int .u8=>match ev x with
    |.d (.str s)=>k ⟨.d (.sl 1 (Q79 s)),[],[]⟩
    |_=>none
   |_=>none
  |_,_=>none
 |.makeFunc (.func f) first ak=>match first.toList with
  |[]=>bif Jl (ak.toList.map ev) then k ⟨.fn f (ak.toList.map ev),[],[]⟩ else none
  |_=>none
 |.makeSlice t l c=>QbK tt hl aj u t (ev l) (ev c) k
 |.fieldAddr t x f=>EI tt hl t f (ev x) k
 |.field t x f=>Q9b tt g t f (ev x) k
 |.indexAddr t x i=>match TJ tt t,ev x with
  |.array _ ao n,.ap l 0 0=>MP g hl ao n l (ev i) k
  |_,_=>Ep tt g hl t (ev x) (ev i) k
 |.index t x i=>Q9s tt g t (ev x) (ev i) k
 |.slice t x lo hi none=>match ev x with
  |.arr l=>QgB tt hl aj u t l (Nc ev lo) (Nc ev hi) k
  |_=>Q7I tt g t (ev x) (Nc ev lo) (Nc ev hi) k
 |.makeMap t none=>match TJ tt t with
  |.mpb=>bif u then FZ hl aj (.mp t fun _=>false) (.arr aj) [] [] k else none
  |_=>none
 |.mapUpdate t m x v=>match TJ tt t,ev m,ev x,ev v with
  |.mpb,.arr l,.d (.int .i64 n),.d (.bool b)=>match hl l with
   |some (.mp t' f)=>bif u then k ⟨.top,[(l,some (.mp t' (Q6q f n b)))],[l]⟩ else none
   |_=>none
  |_,_,_,_=>none
 |.slice t x lo hi (some mx)=>Q3O tt g t (ev x) (Nc ev lo) (Nc ev hi) (Nc ev (some mx)) k
 |.lookup t m x false=>match TJ tt t,ev m,ev x with
  |.mapI,.mpd f,.d (.int .i64 n)=>k ⟨.d (.sl 1 (f n)),[],[]⟩
  |.mpb,.arr l,.d (.int .i64 n)=>match hl l with
   |some (.mp _ f)=>k ⟨.d (.bool (f n)),[],[l]⟩
   |_=>none
  |_,_,_=>none
 |.extract x i=>match ev x with
  |.tup l=>match l[i]? with
   |some v=>k ⟨v,[],[]⟩
   |none=>none
  |_=>none
 |.call c=>match c.callee with
  |.value (.func f)=>QaB spec tt aj g u hl f (c.args.toList.map ev) k
  |.value (.tmp t)=>match ev (.tmp t) with
   |.fn f cap=>QaB spec tt aj g u hl f (c.args.toList.map ev++cap) k
   |_=>none
  |.builtin .len=>match c.args.toList,c.argTypes.toList with
   |[x],[t]=>match Qgm tt hl t (ev x) with
    |some (n,rd)=>k ⟨.d (.int .i64 n),[],rd⟩
    |none=>none
   |_,_=>none
  |.builtin .cap=>match c.args.toList,c.argTypes.toList with
   |[x],[t]=>match TJ tt t,ev x with
    |.sl _ _,.nil=>k ⟨.d (.int .i64 0),[],[]⟩
    |_,_=>none
   |_,_=>none
  |.builtin .append=>match c.args.toList,c.argTypes.toList with
   |[s,x],[t,t']=>bif Nat.beq t t' then Q4P tt aj g hl t (ev s) (ev x) k else Q0W tt hl aj g t t' (ev s) (ev x) k
   |_,_=>none
  |.builtin .min=>match c.args.toList with
   |x::r=>match Cq true (ev x) (r.map ev) with
    |some v=>k ⟨v,[],[]⟩
    |none=>none
   |_=>none
  |.builtin .max=>match c.args.toList with
   |x::r=>match Cq false (ev x) (r.map ev) with
    |some v=>k ⟨v,[],[]⟩
    |none=>none
   |_=>none
  |_=>none
 |_=>none
def Bv (l:Nat):List (Nat × AV)->Bool
 |[]=>false
 |(_,a)::r=>WT l a||Bv l r
def Jg (l:Nat):List (Nat × Ob)->Bool
 |[]=>false
 |(_,.box cells)::r=>Gv l cells||Jg l r
 |(_,.arr ..)::r=>Jg l r
 |(_,.mp ..)::r=>Jg l r
def Us (st:St) (l:Nat):Bool:=Nat.ble l 999999&&(!Bv l st.tm&&!Jg l st.h)
def We (st:St):List (Nat × Option Ob)->Bool
 |[]=>true
 |(l,o)::r=>(match o,look st.h l with
  |some _,none=>Us st l
  |_,_=>true)&&We st r
mutual
def gds (t:Nat):AV->Bool
 |.gd t' _ av=>Nat.beq t' t||gds t av
 |.ag l=>BV t l
 |.tup l=>BV t l
 |.fn _ l=>BV t l
 |_=>false
def BV (t:Nat):List AV->Bool
 |[]=>false
 |a::r=>gds t a||BV t r
end
def Q97 (d:Nat):List (Nat × AV)->Bool
 |[]=>false
 |(_,a)::r=>gds d a||Q97 d r
structure Rec where
 rt:List Nat
 dst:Option Nat
 dl:Dl
def PC:List Operand->List Nat
 |[]=>[]
 |.tmp t::r=>t::PC r
 |_::r=>PC r
def put (st:St) (dst:Option Nat) (dl:Dl):St:=
 { n:=st.n,tm:=match dst with | some d=>(d,dl.v)::st.tm | none=>st.tm,h:=NL st.h dl.wr }
def Q28 (st:St) (v:AV):Option Nat->Bool
 |some d=>Nat.ble (d+1) st.n&&(!gds d v&&!Q97 d st.tm)
 |none=>true
def QbD (st:St) (o:Oper) (ch:List Nat) (dl:Dl) (k:St->Rec->Option R):Option R:=
 bif Q28 st dl.v o.dst&&We st dl.wr then k (put st o.dst dl) ⟨PC o.op.operands.toList++ch,o.dst,dl⟩ else none
def jD (g:Bool):D->D->Option D
 |.int k x,.int k' y=>bif k == k' then some (.int k (bif g then x else y)) else none
 |.bool x,.bool y=>some (.bool (bif g then x else y))
 |.str x,.str y=>some (.str (bif g then x else y))
 |.sl s x,.sl s' y=>bif Nat.beq s s' then some (.sl s (bif g then x else y)) else none
 |_,_=>none
def jA (g:Bool):AV->AV->Option AV
 |.d x,.d y=>match jD g x y with
  |some z=>some (.d z)
  |none=>none
 |.nil,.nil=>some .nil
 |.ptr l o,.ptr l' o'=>bif Nat.beq l l'&&Nat.beq o o' then some (.ptr l o) else none
 |_,_=>none
def jL (g:Bool):List AV->List AV->Option (List AV)
 |[],[]=>some []
 |a::r,b::s=>match jA g a b with
  |some c=>match jL g r s with
   |some t=>some (c::t)
   |none=>none
  |none=>none
 |_,_=>none
def jW (g:Bool) (hl:Nat->Option Ob):List (Nat × Option Ob)->Option (List (Nat × Option Ob))
 |[]=>some []
 |(l,some (.box aj))::r=>match hl l with
  |some (.box old)=>match jL g aj old with
   |some c=>match jW g hl r with
    |some t=>some ((l,some (.box c))::t)
    |none=>none
   |none=>none
  |_=>none
 |(l,some (.arr e s rows))::r=>match hl l with
  |none=>match jW g hl r with
   |some t=>some ((l,some (.arr e s (bif g then rows else [])))::t)
   |none=>none
  |some _=>none
 |(_,some (.mp ..))::_=>none
 |(l,none)::r=>match jW g hl r with
  |some t=>some ((l,none)::t)
  |none=>none
def Qcy (spec:Q4r) (tt:TT) (aj:Array Oper) (o:Oper) (st:St) (k:St->Rec->Option R):Option R:=
 match o.guard with
 |none=>vdl spec tt (o.dst.getD 0) true true (evO st.tm) (look st.h) o.op fun dl=>QbD st o [] dl k
 |some (j,w)=>match (aj[j]?).bind (·.dst) with
  |some s=>match ctx st.tm 40 s w with
   |some (g,ch)=>vdl spec tt (o.dst.getD 0) g false (fun x=>unw ch (evO st.tm x)) (look st.h) o.op fun dl=>
     match jW g (look st.h) dl.wr with
     |some wr=>QbD st o (ch.map (·.1)) ⟨.gd s w dl.v,wr,dl.rd⟩ k
     |none=>none
   |none=>none
  |none=>none
def Qfr (spec:Q4r) (tt:TT) (aj:Array Oper):List Oper->St->List Rec->(St->List Rec->Option R)->Option R
 |[],st,acc,k=>k st acc
 |o::r,st,acc,k=>Qcy spec tt aj o st fun st' rec=>Qfr spec tt aj r st' (acc++[rec]) k
def Q2F (s:Nat) (b:Bool):List (Nat × AV)->List (Nat × AV)
 |[]=>[]
 |(t,a)::r=>bif Nat.beq t s then (t,.d (.bool b))::r else (t,a)::Q2F s b r
def Q6h (spec:Q4r) (tt:TT) (o:Oper) (s:Nat) (w b:Bool) (st:St) (k:St->Rec->Option R):Option R:=
 bif (bif b then w else !w) then vdl spec tt (o.dst.getD 0) true true (evO st.tm) (look st.h) o.op fun dl=>QbD st o [s] dl k
 else QbD st o [s] ⟨.gd s w (.d (.bool false)),[],[]⟩ k
def Q0o (spec:Q4r) (tt:TT) (aj:Array Oper):List Oper->St->List Rec->(St->List Rec->Option R)->Option R
 |[],st,acc,k=>k st acc
 |o::r,st,acc,k=>match o.guard with
  |none=>vdl spec tt (o.dst.getD 0) true true (evO st.tm) (look st.h) o.op fun dl=>QbD st o [] dl fun st' rec=>Q0o spec tt aj r st' (acc++[rec]) k
  |some (j,w)=>match (aj[j]?).bind (·.dst) with
   |some s=>match lkT st.tm s with
    |.d (.bool c)=>
     bif c then Q6h spec tt o s w true { n:=st.n,tm:=Q2F s true st.tm,h:=st.h } fun st' rec=>Q0o spec tt aj r st' (acc++[rec]) k
     else Q6h spec tt o s w false { n:=st.n,tm:=Q2F s false st.tm,h:=st.h } fun st' rec=>Q0o spec tt aj r st' (acc++[rec]) k
    |_=>none
   |none=>none
def Q3f (acc:List Nat):List Edge->Nat->Nat
 |[],s=>s
 |e::r,s=>Q3f acc r (bif Region.binds .any e then (s ||| (2 ^ e.on)) ||| acc.getD e.on 0 else s)
def Q1A:List Oper->List Nat->List Nat
 |[],acc=>acc
 |o::r,acc=>Q1A r (acc++[Q3f acc o.after.toList 0])
def Q0P:List Edge->Nat->Bool
 |[],_=>true
 |e::r,i=>(!Region.binds .any e||Nat.ble (e.on+1) i)&&Q0P r i
def NE:List Oper->Nat->Bool
 |[],_=>true
 |o::r,i=>Q0P o.after.toList i&&NE r (i+1)
def inO (d:Option Nat) (l:List Nat):Bool:=
 match d with
 |some x=>Pr x l
 |none=>false
def WQ (a b:Rec):Bool:=
 inO a.dst b.rt||inO b.dst a.rt||(match a.dst,b.dst with | some x,some y=>Nat.beq x y | _,_=>false) ||
 HI (wrL a.dl) (wrL b.dl)||HI (wrL a.dl) b.dl.rd||HI (wrL b.dl) a.dl.rd
def To (ak:St) (aj:List Nat):List (Nat × Option Ob)->List Nat
 |[]=>[]
 |(l,o)::r=>match o,look ak.h l with
  |some _,none=>bif Pr l aj then To ak aj r else l::To ak aj r
  |_,_=>To ak aj r
def Dc (l:Nat) (b:Rec):Bool:=WT l b.dl.v||TP l b.dl.wr
def QdU (d:Option Nat) (v:AV):Bool:=
 match d with
 |some x=>gds x v
 |none=>false
def Co (i:Nat) (a:Rec) (news:List Nat):List Rec->List Nat->Bool
 |[],_=>true
 |b::r,m::ms=>(!(WQ a b||(news.any fun l=>Dc l b)||QdU a.dst b.dl.v)||m.testBit i)&&Co i a news r ms
 |_::_,[]=>false
def L5 (ak:St):Nat->List Rec->List Nat->List Rec->List Nat->Bool
 |_,_,_,[],_=>true
 |i,an,aj,a::r,_::ms=>
  Co i a (To ak aj a.dl.wr) r ms&&((To ak aj a.dl.wr).all fun l=>Us ak l&&an.all fun b=>!Dc l b) &&
   L5 ak (i+1) (an++[a]) (aj++To ak aj a.dl.wr) r ms
 |_,_,_,_::_,[]=>false
def WG (l:Nat):List (Nat × Option Ob)->Bool
 |[]=>false
 |(k,o)::r=>(o.isSome&&Nat.beq k l)||WG l r
def Qbs (recs:List Rec):List (Nat × Option Ob)->Bool
 |[]=>true
 |(l,none)::r=>(recs.all fun b=>!WG l b.dl.wr)&&Qbs recs r
 |_::r=>Qbs recs r
def rmL:List Rec->Bool
 |[]=>true
 |a::r=>Qbs (a::r) a.dl.wr&&rmL r
def Q23 (ak:St) (aj:List Oper) (recs:List Rec):Bool:=
 NE aj 0&&L5 ak 0 [] [] recs (Q1A aj [])&&rmL recs
structure Cfg where
 keep:List Nat
 locs:List (Nat × Nat)
 mkT:List (Nat × Nat × Nat × Nat)
 mkH:List (Nat × Nat × Nat × Nat × Nat)
 fz:List Nat
mutual
def fzA (l s:Nat) (rows:List (List D)):AV->AV
 |.arr k=>bif Nat.beq k l then .d (.sl s rows) else .arr k
 |.ap k i o=>bif Nat.beq k l then .top else .ap k i o
 |.ag r=>.ag (fzL l s rows r)
 |.tup r=>.tup (fzL l s rows r)
 |.fn f r=>.fn f (fzL l s rows r)
 |.gd ..=>.top
 |av=>av
def fzL (l s:Nat) (rows:List (List D)):List AV->List AV
 |[]=>[]
 |a::r=>fzA l s rows a::fzL l s rows r
end
def fzO (l s:Nat) (rows:List (List D)):Ob->Ob
 |.box cells=>.box (fzL l s rows cells)
 |o=>o
def fzT (l s:Nat) (rows:List (List D)):List (Nat × AV)->List (Nat × AV)
 |[]=>[]
 |(t,a)::r=>(t,fzA l s rows a)::fzT l s rows r
def Qbg (l s:Nat) (rows:List (List D)):List (Nat × Ob)->List (Nat × Ob)
 |[]=>[]
 |(k,o)::r=>bif Nat.beq k l then Qbg l s rows r else (k,fzO l s rows o)::Qbg l s rows r
def fz1 (st:St) (l:Nat):St:=
 match look st.h l with
 |some (.arr _ s rows)=>{ n:=st.n,tm:=fzT l s rows st.tm,h:=Qbg l s rows st.h }
 |_=>st
def fzs (st:St):List Nat->St
 |[]=>st
 |l::r=>fzs (fz1 st l) r
mutual
def U6 (ρ:List (Nat × Nat)):AV->AV
 |.ptr l o=>match look ρ l with | some l'=>.ptr l' o | none=>.top
 |.arr l=>match look ρ l with | some l'=>.arr l' | none=>.top
 |.ap l i o=>match look ρ l with | some l'=>.ap l' i o | none=>.top
 |.sa l t=>match look ρ l with | some l'=>.sa l' t | none=>.top
 |.ag r=>.ag (Q1T ρ r)
 |.tup r=>.tup (Q1T ρ r)
 |.fn f r=>.fn f (Q1T ρ r)
 |.gd ..=>.top
 |av=>av
def Q1T (ρ:List (Nat × Nat)):List AV->List AV
 |[]=>[]
 |a::r=>U6 ρ a::Q1T ρ r
end
def QaM (ρ:List (Nat × Nat)):Ob->Ob
 |.box cells=>.box (Q1T ρ cells)
 |.arr e s rows=>.arr e s rows
 |.mp t f=>.mp t f
def Q8O (ρ:List (Nat × Nat)) (tm:List (Nat × AV)):List Nat->List (Nat × AV)
 |[]=>[]
 |t::r=>(t,U6 ρ (lkT tm t))::Q8O ρ tm r
def Ed (ρ:List (Nat × Nat)) (h:List (Nat × Ob)):List (Nat × Nat)->List (Nat × Ob)
 |[]=>[]
 |(l,l')::r=>match look h l with
  |some o=>(l',QaM ρ o)::Ed ρ h r
  |none=>Ed ρ h r
def Qfs (tm:List (Nat × AV)) (t:Nat) (v:AV):List (Nat × AV):=
 match tm with
 |[]=>[]
 |(k,a)::r=>bif Nat.beq k t then (k,v)::r else (k,a)::Qfs r t v
def Qd9 (st:St):List (Nat × Nat × Nat × Nat)->St
 |[]=>st
 |(t,l,e,s)::r=>match lkT st.tm t with
  |.nil=>bif Us st l&&(look st.h l).isNone then Qd9 { st with tm:=Qfs st.tm t (.arr l),h:=(l,.arr e s [])::st.h } r else Qd9 st r
  |_=>Qd9 st r
def Qd3 (st:St):List (Nat × Nat × Nat × Nat × Nat)->St
 |[]=>st
 |(b,c,l,e,s)::r=>match look st.h b with
  |some (.box cells)=>match cells[c]? with
   |some .nil=>bif Us st l&&(look st.h l).isNone then Qd3 { st with h:=(l,.arr e s [])::(b,.box (cells.set c (.arr l)))::rem b st.h } r else Qd3 st r
   |_=>Qd3 st r
  |_=>Qd3 st r
def X3:List Nat->Bool
 |[]=>true
 |a::r=>!Pr a r&&X3 r
def Qcs (c:Cfg) (st:St):St:=
 bif X3 (c.locs.map (·.1))&&(X3 (c.locs.map (·.2))&&c.locs.all fun p=>Nat.beq p.1 p.2||Nat.ble p.2 999999) then Qd3 (Qd9 { n:=st.n,tm:=Q8O c.locs st.tm c.keep,h:=Ed c.locs st.h c.locs } c.mkT) c.mkH
 else st
def inH (h:List (Nat × Ob)):List (Nat × Nat)->List (Nat × Nat)
 |[]=>[]
 |p::r=>match look h p.1 with
  |some _=>p::inH h r
  |none=>inH h r
def QgL (c:Cfg) (st:St):St:=Qcs ⟨c.keep,inH st.h c.locs,c.mkT,c.mkH,c.fz⟩ st
def Qc3 (c:Cfg) (st:St):St:=QgL c (fzs st c.fz)
def QaI (c:Cfg) (st:St):St:=
 match c.keep with
 |[]=>Qc3 ⟨st.tm.map (·.1),st.h.map fun p=>(p.1,p.1),c.mkT,c.mkH,c.fz⟩ st
 |_::_=>Qc3 c st
structure VC where
 spec:Q4r
 tt:TT
 cfg:List (Nat × Cfg)
def Q0q (C:VC) (id:Nat) (aj:Array Oper) (ak:Bool) (st:St) (k:St->Option R):Option R:=
 (bif (look C.cfg (id+1000000000)).isSome then Q0o C.spec C.tt aj aj.toList st [] else Qfr C.spec C.tt aj aj.toList st []) fun st' recs=>
  bif !ak||Q23 st aj.toList recs then
   match look C.cfg id with
   |some c=>k (QaI c st')
   |none=>k st'
  else none
def Q7A (aj:St->(Exit->St->Option R)->Option R):Nat->St->(Exit->St->Option R)->Option R
 |0,_,_=>none
 |n+1,st,k=>aj st fun e st'=>match e with
  |.normal=>Q7A aj n st' k
  |.exit id=>k (.exit id) st'
  |.ret=>k .ret st'
  |_=>none
def Q7K:Code->Nat
 |.region id _ _=>id
 |.seq a _=>Q7K a
 |.block _ c=>Q7K c
 |.loop c=>Q7K c
 |.cond _ a _=>Q7K a
 |_=>0
def QeE (C:VC) (n:Nat) (c:Code):Nat:=
 match look C.cfg (2000000000+Q7K c) with
 |some ⟨[m],_,_,_,_⟩=>m
 |_=>n
def AU (C:VC) (key:Nat) (st:St):St:=
 match look C.cfg key with
 |some q=>Qc3 q st
 |none=>st
def CQ (C:VC) (n:Nat):Code->St->(Exit->St->Option R)->Option R
 |.skip,st,k=>k .normal st
 |.region id ak aj,st,k=>Q0q C id ak aj st (k .normal)
 |.seq a b,st,k=>CQ C n a st fun e st'=>match e with
  |.normal=>CQ C n b st' k
  |.exit id=>k (.exit id) st'
  |.ret=>k .ret st'
  |_=>none
 |.cond c a b,st,k=>match evO st.tm c with
  |.d (.bool e)=>bif e then CQ C n a st k else CQ C n b st k
  |_=>none
 |.block id c,st,k=>CQ C n c st fun e st'=>match e with
  |.normal=>k .normal st'
  |.exit j=>bif Nat.beq j id then k .normal st' else k (.exit j) st'
  |.ret=>k .ret st'
  |_=>none
 |.loop c,st,k=>Q7A (fun st k=>CQ C n c (AU C (3000000000+Q7K c) st) k) (QeE C n c) st k
 |.exit id,st,k=>k (.exit id) st
 |.ret,st,k=>k .ret st
 |_,_,_=>none
def lB (C:VC) (n:Nat) (c:Code) (st:St) (k:Exit->St->Option R):Option R:=CQ C n c (AU C (3000000000+Q7K c) st) k
mutual
def N0:AV->Bool
 |.gd ..=>false
 |.ag l=>H4 l
 |.tup l=>H4 l
 |.fn _ l=>H4 l
 |_=>true
def H4:List AV->Bool
 |[]=>true
 |a::r=>N0 a&&H4 r
end
def Q38 (tt:TT) (st:St):ResultVar->Option AV
 |.tmp t=>some (lkT st.tm t)
 |.cell a ty=>match lkT st.tm a with
  |.ptr l off=>match look st.h l,look tt ty with
   |some (.box cells),some ti=>
    bif V8 ti.kd then
     match CH cells off ti.size with
     |some cs=>some (.ag cs)
     |none=>none
    else match cells[off]? with
     |some c=>bif AK c then some c else none
     |none=>none
   |_,_=>none
  |_=>none
def Q0j (tt:TT) (st:St):List ResultVar->Option (List AV)
 |[]=>some []
 |r::rs=>match Q38 tt st r with
  |some a=>match Q0j tt st rs with
   |some l=>bif N0 a then some (a::l) else none
   |none=>none
  |none=>none
def Q1a (tt:TT) (st:St) (rs:List ResultVar):Option AV:=
 match Q0j tt st rs with
 |some [a]=>some a
 |some l=>some (.tup l)
 |none=>none
def Q2L:Nat->List AV->List (Nat × AV)
 |_,[]=>[]
 |i,a::r=>(i,a)::Q2L (i+1) r
def vfn (C:VC) (n:Nat) (fn:Func) (args:List AV) (h:List (Nat × Ob)) (k:AV->List (Nat × Ob)->Option R):Option R:=
 match fn.body with
 |some c=>bif Nat.ble args.length fn.ntmps&&H4 args then
   CQ C n c { n:=fn.ntmps,tm:=Q2L 0 args,h:=h } fun e st=>match e with
    |.ret=>match Q1a C.tt st fn.results.toList with
     |some v=>k v st.h
     |none=>none
    |.normal=>match Q1a C.tt st fn.results.toList with
     |some v=>k v st.h
     |none=>none
    |_=>none
  else none
 |none=>none
end
end Go.Vx
namespace Go.Vx
inductive Rd (S:Nat->Prop) (w:World):Value->D->Prop
 |int (k:IntKind) (n:Int):Rd S w (.int k n) (.int k n)
 |bool (b:Bool):Rd S w (.bool b) (.bool b)
 |str (s:ByteArray):Rd S w (.string s) (.str s.data.toList)
 |sl0 (a:Option Addr) (cap size:Nat):Rd S w (.slice a 0 cap) (.sl size [])
 |sl (ad:Addr) (cap size:Nat) (rows:List (List D)) (c:Nat->Nat->Value)
   (hS:S ad.block) (hcap:rows.length<=cap) (hsz:∀ (i:Nat) (r:List D),rows[i]? = some r->r.length=size)
   (hc:∀ (i j:Nat) (r:List D) (x:D),rows[i]? = some r->r[j]? = some x->w.cell? (ad.add (i*size+j))=some (c i j))
   (hr:∀ (i j:Nat) (r:List D) (x:D),rows[i]? = some r->r[j]? = some x->Rd S w (c i j) x) :
   Rd S w (.slice (some ad) rows.length cap) (.sl size rows)
theorem Jt (a:Addr) (n:Nat):(a.add n).block=a.block:=by unfold Addr.add;split <;> rfl
theorem CC (a:Addr) (i j:Nat):(a.add i).add j=a.add (i+j):=by
 grind [Addr.add,Nat.add_assoc]
theorem KZ (b o n:Nat):(⟨b,o,none⟩:Addr).add n=⟨b,o+n,none⟩:=by
 grind [Addr.add]
theorem Xu {w w':World} {a:Addr} (h:w'.heap[a.block]? = w.heap[a.block]?):w'.cell? a=w.cell? a:=by simp [World.cell?,h]
theorem Rd.mono {S S':Nat->Prop} {w w':World} {v:Value} {x:D} (hS:∀ b,S b->S' b) (hw:∀ b,S b->w'.heap[b]? = w.heap[b]?) (h:Rd S w v x):Rd S' w' v x:=by
 induction h with
 |int k n=>exact .int k n
 |bool b=>exact .bool b
 |str s=>exact .str s
 |sl0 a cap size=>exact .sl0 a cap size
 |sl ad cap size rows c hs aj ak hc _ ih=>
  exact .sl ad cap size rows c (hS _ hs) aj ak (fun i j r x h1 h2=>by
   grind [Xu,Jt]) ih
def HD:List MapEntry->Int->Option Value
 |[],_=>none
 |e::r,n=>match e.key with
  |.int .i64 m=>if m=n then some e.val else HD r n
  |_=>HD r n
def Q9d (S:Nat->Prop) (w:World) (v:Value) (f:Int->List (List D)):Prop:=
 ∃ b es aj,v = .map (some b)/\S b/\w.heap[b]? = some (.map es aj)/\(∀ e∈es.toList,∃ n,e.key = .int .i64 n)/\(∀ n,HD es.toList n=none->f n=[])/\∀ n v',HD es.toList n=some v'->Rd S w v' (.sl 1 (f n))
theorem Q9d.mono {S S':Nat->Prop} {w w':World} {v:Value} {f:Int->List (List D)} (hS:∀ b,S b->S' b) (hw:∀ b,S b->w'.heap[b]? = w.heap[b]?) (h:Q9d S w v f):Q9d S' w' v f:=by
 obtain ⟨b,es,aj,h1,h2,h3,h4,h5,h6⟩:=h;exact ⟨b,es,aj,h1,hS b h2,(hw b h2).trans h3,h4,h5,fun n v' hl=>(h6 n v' hl).mono hS hw⟩
def MpR (w:World) (b:Nat) (f:Int->Bool):Prop:=
 ∃ es aj,w.heap[b]? = some (.map es aj)/\(∀ e∈es.toList,∃ n,e.key = .int .i64 n)/\(∀ n,HD es.toList n=none->f n=false)/\∀ n v,HD es.toList n=some v->v = .bool (f n)
theorem MpR.same {w w':World} {b:Nat} {f:Int->Bool} (h:MpR w b f) (hb:w'.heap[b]? = w.heap[b]?):MpR w' b f:=by
 obtain ⟨es,aj,h1,h2⟩:=h;exact ⟨es,aj,hb.trans h1,h2⟩
def Nm:AV->Option Nat
 |.arr l=>some l
 |.ap l _ _=>some l
 |_=>none
inductive RdA (β:Nat->Option Nat) (S:Nat->Prop) (h:Nat->Option Ob) (w:World) (tm:Nat->Value):Value->AV->Prop
 |top (v:Value):RdA β S h w tm v .top
 |d (v:Value) (x:D) (hx:Rd S w v x):RdA β S h w tm v (.d x)
 |nil:RdA β S h w tm (.slice none 0 0) .nil
 |ag (cs:Array Value) (l:List AV) (hl:cs.size=l.length) (hr:∀ (i:Nat) (x:AV),l[i]? = some x->RdA β S h w tm (cs.getD i undef) x):RdA β S h w tm (.agg cs) (.ag l)
 |tup (cs:Array Value) (l:List AV) (hl:cs.size=l.length) (hr:∀ (i:Nat) (x:AV),l[i]? = some x->RdA β S h w tm (cs.getD i undef) x):RdA β S h w tm (.tuple cs) (.tup l)
 |fn (f:Nat) (cs:Array Value) (l:List AV) (hl:cs.size=l.length) (hr:∀ (i:Nat) (x:AV),l[i]? = some x->RdA β S h w tm (cs.getD i undef) x):RdA β S h w tm (.func (.func f) #[] cs) (.fn f l)
 |fs (ad:Option Addr) (s:Nat) (rows:List (List D)) (hx:Rd S w (.slice ad rows.length rows.length) (.sl s rows)):RdA β S h w tm (.slice ad rows.length rows.length) (.fs s rows)
 |mpd (v:Value) (f:Int->List (List D)) (hm:Q9d S w v f):RdA β S h w tm v (.mpd f)
 |ex (v:Value):RdA β S h w tm v (.ex v)
 |ptr (l off b:Nat) (hb:β l=some b):RdA β S h w tm (.pointer (some ⟨b,off,none⟩)) (.ptr l off)
 |sa (v:Value) (l t b:Nat) (hb:β l=some b) (hv:v = .pointer none\/v = .pointer (some ⟨b,0,none⟩)):RdA β S h w tm v (.sa l t)
 |el (ad:Addr) (row:List D) (off:Nat) (c:Nat->Value) (hs:S ad.block)
   (hc:∀ (j:Nat) (x:D),row[off+j]? = some x->w.cell? (ad.add j)=some (c j)) (hr:∀ (j:Nat) (x:D),row[off+j]? = some x->Rd S w (c j) x) :
   RdA β S h w tm (.pointer (some ad)) (.el row off)
 |arr0 (l e s:Nat) (hb:β l=none) (hh:h l=some (.arr e s [])):RdA β S h w tm (.slice none 0 0) (.arr l)
 |arr (l b cap e s:Nat) (rows:List (List D)) (cs:Array Value) (ty:TypeId) (fz:Nat × Nat) (hb:β l=some b) (hh:h l=some (.arr e s rows))
   (hw:w.heap[b]? = some (.cells cs ty fz)) (hcs:cs.size=cap*s) (hcap:rows.length<=cap) (hmax:cap<=maxLen) :
   RdA β S h w tm (.slice (some ⟨b,0,none⟩) rows.length cap) (.arr l)
 |mp (l b t:Nat) (f:Int->Bool) (hb:β l=some b) (hh:h l=some (.mp t f)):RdA β S h w tm (.map (some b)) (.arr l)
 |ap (l i off b e s:Nat) (rows:List (List D)) (hb:β l=some b) (hh:h l=some (.arr e s rows)) :
   RdA β S h w tm (.pointer (some ⟨b,i*s+off,none⟩)) (.ap l i off)
 |dang (v:Value) (av:AV) (l:Nat) (hl:Nm av=some l) (hh:h l=none) (h1:v.oneCell'=true):RdA β S h w tm v av
 |gdT (v:Value) (t:Nat) (w':Bool) (av:AV) (ht:tm t = .bool w') (hv:RdA β S h w tm v av):RdA β S h w tm v (.gd t w' av)
 |gdF (t:Nat) (w':Bool) (av:AV) (ht:tm t≠.bool w'):RdA β S h w tm undef (.gd t w' av)
structure Keep (β:Nat->Option Nat) (h:Nat->Option Ob) (w:World) (β':Nat->Option Nat) (h':Nat->Option Ob) (w':World) (l:Nat):Prop where
 b:β' l=β l
 none_:h l=none->h' l=none
 arr:∀ e s rows,h l=some (.arr e s rows)->h' l=none\/∃ rows',h' l=some (.arr e s rows')/\rows'.length=rows.length
 cells:∀ b cs ty fz,(h' l).isSome=true->β l=some b->w.heap[b]? = some (.cells cs ty fz)->∃ cs' ty' fz',w'.heap[b]? = some (.cells cs' ty' fz')/\cs'.size=cs.size
 mp:∀ t f,h l=some (.mp t f)->h' l=none\/∃ f',h' l=some (.mp t f')
theorem Nd {l i:Nat} {r:List AV} {x:AV} (h:r[i]? = some x) (hn:WT l x=true):Gv l r=true:=by
 induction r generalizing i with
 |nil=>simp at h
 |cons a r ih=>
  grind [Gv]
theorem Q40 {t i:Nat} {r:List AV} {x:AV} (h:r[i]? = some x) (hn:gds t x=true):BV t r=true:=by
 induction r generalizing i with
 |nil=>simp at h
 |cons a r ih=>
  grind [BV]
theorem RdA.mono {β β':Nat->Option Nat} {S S':Nat->Prop} {h h':Nat->Option Ob} {w w':World} {tm tm':Nat->Value} {v:Value} {av:AV}
  (hr:RdA β S h w tm v av) (hS:∀ b,S b->S' b) (hw:∀ b,S b->w'.heap[b]? = w.heap[b]?)
  (hk:∀ l,WT l av=true->Keep β h w β' h' w' l) (ht:∀ t,gds t av=true->tm' t=tm t):RdA β' S' h' w' tm' v av:=by
 induction hr with
 |top v=>exact .top v
 |d v x hx=>exact .d v x (hx.mono hS hw)
 |nil=>exact .nil
 |ag cs l hl _ ih=>
  exact .ag cs l hl fun i x hx=>ih i x hx (fun k hn=>hk k (by grind [WT,Nd])) (fun t hn=>ht t (by grind [gds,Q40]))
 |tup cs l hl _ ih=>
  exact .tup cs l hl fun i x hx=>ih i x hx (fun k hn=>hk k (by simp [WT,Nd hx hn])) (fun t hn=>ht t (by simp [gds,Q40 hx hn]))
 |fn f cs l hl _ ih=>
  exact .fn f cs l hl fun i x hx=>ih i x hx (fun k hn=>hk k (by simp [WT,Nd hx hn])) (fun t hn=>ht t (by simp [gds,Q40 hx hn]))
 |fs ad s rows hx=>exact .fs ad s rows (hx.mono hS hw)
 |mpd v f hm=>exact .mpd v f (hm.mono hS hw)
 |ex v=>exact .ex v
 |ptr l off b hb=>exact .ptr l off b (by rw [(hk l (by simp [WT])).b];exact hb)
 |sa v l t b hb hv=>exact .sa v l t b (by rw [(hk l (by simp [WT])).b];exact hb) hv
 |el ad row off c hs hc hr=>
  exact .el ad row off c (hS _ hs) (fun j x hx=>by grind [Xu,Jt]) (fun j x hx=>(hr j x hx).mono hS hw)
 |arr0 l e s hb hh=>
  have K:=hk l (by simp [WT]);rcases K.arr e s [] hh with hn | ⟨aj,ak,ao⟩
  ·exact .dang _ _ l rfl hn rfl
  ·have:aj=[]:=Qi3 (by omega);subst this;exact .arr0 l e s (by rw [K.b];exact hb) ak
 |arr l b cap e s rows cs ty fz hb hh a2 a8 a4 ar=>
  have K:=hk l (by simp [WT]);rcases K.arr e s rows hh with hn | ⟨aj,ak,ao⟩
  ·exact .dang _ _ l rfl hn rfl
  ·obtain ⟨az,aw,a3,ax,a6⟩:=K.cells b cs ty fz (by simp [ak]) hb a2;have:=RdA.arr (β:=β') (h:=h') (w:=w') (S:=S') (tm:=tm') l b cap e s aj az aw a3 (by rw [K.b];exact hb) ak ax (by omega) (by omega) ar
   simp_all
 |mp l b t f hb hh=>
  have K:=hk l (by simp [WT]);rcases K.mp t f hh with hn | ⟨f',hf⟩
  ·exact .dang _ _ l rfl hn rfl
  ·exact .mp l b t f' (by rw [K.b];exact hb) hf
 |ap l i off b e s rows hb hh=>
  have K:=hk l (by simp [WT]);rcases K.arr e s rows hh with hn | ⟨aj,ak,ao⟩
  ·exact .dang _ _ l rfl hn rfl
  ·exact .ap l i off b e s aj (by rw [K.b];exact hb) ak
 |dang v av l hl hh h1=>
  refine .dang v av l hl ((hk l ?_).none_ hh) h1;cases av <;> simp [Nm] at hl <;> simp [WT,hl]
 |gdT v t b av au _ ih=>
  refine .gdT v t b av (by simp_all [gds]) (ih (fun k hn=>hk k (by assumption)) (fun t' hn=>ht t' (by grind [gds])))
 |gdF t b av au=>exact .gdF t b av (by rw [ht t (by simp [gds])];exact au)
structure Fr (M:Nat->Prop) (w w':World):Prop where
 os:w'.os=w.os
 tape:w'.tape=w.tape
 output:w'.output=w.output
 size:w.heap.size<=w'.heap.size
 block:∀ b,b<w.heap.size->¬ M b->w'.heap[b]? = w.heap[b]?
theorem Fr.refl (M:Nat->Prop) (w:World):Fr M w w:=⟨rfl,rfl,rfl,Qih _,fun _ _ _=>rfl⟩
theorem Fr.trans {M:Nat->Prop} {a b c:World} (h:Fr M a b) (k:Fr M b c):Fr M a c:=
 ⟨k.os.trans h.os,k.tape.trans h.tape,k.output.trans h.output,Nat.le_trans h.size k.size,fun i hi hm=>(k.block i (Qik hi h.size) hm).trans (h.block i hi hm)⟩
theorem Fr.mono {M M':Nat->Prop} {a b:World} (h:Fr M a b) (hM:∀ x,x<a.heap.size->M x->M' x):Fr M' a b:=
 ⟨h.os,h.tape,h.output,h.size,fun i hi hm=>h.block i hi (fun hx=>hm (hM i hi hx))⟩
theorem Fr.below {w w':World} (h:Fr (fun _=>False) w w'):RowKit.Below w.heap.size w w':=⟨h.os,h.tape,h.output,h.size,fun b hb=>h.block b hb (fun x=>x)⟩
def QgJ (n:Nat) (fz:Nat × Nat):Prop:=∀ o,o<n->¬ (fz.1<=o/\o<fz.2)
def tm0:Nat->Value:=fun _=>undef
def Q6y (ty:TypeId) (cells:List AV):Prop:=∀ (i l t:Nat),cells[i]? = some (.sa l t)->ty=t
def ObR (β:Nat->Option Nat) (S:Nat->Prop) (h:Nat->Option Ob) (w:World) (l:Nat):Ob->Prop
 |.box cells=>∃ b ty cs fz,β l=some b/\w.heap[b]? = some (.cells cs ty fz)/\(QgJ cs.size fz/\Q6y ty cells)/\cs.size=cells.length /\
   ∀ (i:Nat) (x:AV),cells[i]? = some x->RdA β S h w tm0 (cs.getD i undef) x
 |.arr e s rows=>(β l=none/\rows=[])\/∃ b cs,β l=some b/\w.heap[b]? = some (.cells cs e (0,0))/\rows.length*s<=cs.size /\
   (∀ (i:Nat) (r:List D),rows[i]? = some r->r.length=s)/\∀ (i j:Nat) (r:List D) (x:D),rows[i]? = some r->r[j]? = some x->∃ v,cs[i*s+j]? = some v/\Rd S w v x
 |.mp _ f=>∃ b,β l=some b/\MpR w b f
structure Env where
 w0:World
 M:Nat->Prop
 S0:Nat->Prop
 pin:Nat->Option Nat
def tmv (a:Act) (t:Nat):Value:=a.tmps.getD t undef
structure HRel (E:Env) (β:Nat->Option Nat) (S:Nat->Prop) (h:Nat->Option Ob) (w:World):Prop where
 ob:∀ l o,h l=some o->ObR β S h w l o
 inj:∀ l l' b,(h l).isSome=true->(h l').isSome=true->β l=some b->β l'=some b->l=l'
 apart:∀ l b,(h l).isSome=true->β l=some b->¬ S b
 own:∀ l b,(h l).isSome=true->β l=some b->E.M b\/E.w0.heap.size<=b
 sb:∀ b,S b->b<w.heap.size
 sfr:∀ b,S b->E.S0 b\/E.M b\/E.w0.heap.size<=b
 s0:∀ b,E.S0 b->S b
 fr:Fr E.M E.w0 w
 pin:∀ l,1000000<=l->β l=E.pin l
 psz:∀ l b,1000000<=l->(h l).isSome=true->β l=some b->∀ cs ty fz,E.w0.heap[b]? = some (.cells cs ty fz)->∃ cs' ty' fz',w.heap[b]? = some (.cells cs' ty' fz')/\cs'.size=cs.size
structure Rel (E:Env) (β:Nat->Option Nat) (S:Nat->Prop) (st:St) (a:Act) (w:World):Prop where
 n:a.tmps.size=st.n
 dfr:a.defers=[]
 tm:∀ t av,look st.tm t=some av->RdA β S (look st.h) w (tmv a) (tmv a t) av
 hr:HRel E β S (look st.h) w
def Hc (E:Env) (st:St) (a:Act) (w:World):Prop:=∃ β S,Rel E β S st a w
theorem Qcd {a b:Nat} (h:¬ a=b):Nat.beq a b=false:=by
 grind [Nat.beq,absurd,Nat.eq_of_beq_eq_true]
theorem C3 {α:Type} (l k:Nat) (h:List (Nat × α)):look (rem l h) k=if k=l then none else look h k:=by
 induction h with
 |nil=>simp [rem,look]
 |cons x r ih=>
  obtain ⟨a,o⟩:=x;simp only [rem,look];by_cases ha:a=l
  ·subst ha;simp only [Nat.beq_refl,QhY,ih]
   grind [Nat.beq,Qcd]
  ·have h1:Nat.beq a l=false:=Qcd ha;simp only [h1,cond_false,look,ih]
   grind
theorem XL {α:Type} (l k:Nat) (o:α) (h:List (Nat × α)):look ((l,o)::h) k=if k=l then some o else look h k:=by
 grind [look,Nat.beq_refl,Nat.beq,Qcd]
theorem WL (l k:Nat) (o:Ob) (h:List (Nat × Ob)):look ((l,o)::rem l h) k=if k=l then some o else look h k:=by
 grind [XL,C3]
end Go.Vx
namespace Go.Vx
def CEq (kd:Kd) (u v:Value) (b:Bool):Prop:=
 match kd with
 |.int k=>∃ m n,u = .int k m/\v = .int k n/\b=(m == n)
 |.bool=>∃ m n,u = .bool m/\v = .bool n/\b=(m == n)
 |.str=>∃ m n:ByteArray,u = .string m/\v = .string n/\b=(m.data.toList == n.data.toList)
 |_=>False
def Qhi (P:Program) (t:Nat) (ks:List Kd):Prop:=
 ∀ (w:World) (xs ys:Array Value) (bs:List Bool),xs.size=ks.length->ys.size=ks.length->bs.length=ks.length ->
  (∀ (j:Nat) (kd:Kd) (b:Bool),ks[j]? = some kd->bs[j]? = some b->CEq kd (xs.getD j undef) (ys.getD j undef) b) ->
  (Op.equalIn 10000 t (.agg xs) (.agg ys)).run P w = .ok (bs.all id) w/\P.eqGuardType P.depth t=false
structure TyOk (P:Program) (t:Nat) (ti:TyI):Prop where
 inf:∃ i,P.info? t=some i/\i.size=ti.size/\i.bytes=ti.bytes/\∃ z,i.zero=some z/\z.cells.toList=ti.zero
 one:V8 ti.kd=false->ti.size=1/\∃ d,P.underlying t=some d/\(∀ fs,d≠.struct fs)/\∀ n e,d≠.array n e
 kint:∀ k,ti.kd = .int k->P.underlying t=some (.int k)
 kbool:ti.kd = .bool->P.underlying t=some .bool
 kstr:ti.kd = .str->P.underlying t=some .string
 ksl:∀ e esz,ti.kd = .sl e esz->P.underlying t=some (.slice e)/\0<esz/\∃ i,P.info? e=some i/\i.size=esz
 kstruct:ti.kd = .struct->∃ fs,P.underlying t=some (.struct fs)/\fs.toList.map (fun f=>(f.offset,f.type))=ti.fields/\∀ f∈fs.toList,∃ i,P.info? f.type=some i/\i.size≠0
 karr:∀ e esz n,ti.kd = .array e esz n->P.underlying t=some (.array n e)/\0<esz/\(∃ i,P.info? e=some i/\i.size=esz)/\ti.size=n*esz/\ti.fields=(List.range n).map fun i=>(i*esz,e)
 keq:∀ ks,ti.eqk=some ks->Qhi P t ks
 zlen:ti.zero.length=ti.size
 zd:ti.zd.length=ti.size->∀ (j:Nat) (x:D),ti.zd[j]? = some x->∃ v,ti.zero[j]? = some v/\∀ (S:Nat->Prop) (w:World),Rd S w v x
 kmpb:ti.kd = .mpb->∃ K e,P.underlying t=some (.map K e)/\P.underlying K=some (.int .i64)/\∃ i,P.info? e=some i/\i.zero=some (.bool false)
 kmap:ti.kd = .mapI->∃ K e,P.underlying t=some (.map K e)/\P.underlying K=some (.int .i64)/\∃ i,P.info? e=some i/\i.zero=some (.slice none 0 0)
def TOk (P:Program) (tt:TT):Prop:=∀ t ti,look tt t=some ti->TyOk P t ti
section
variable {P:Program}
theorem QN {t:TypeId} {d:TypeDesc} (h:P.underlying t=some d) (w:World):(underlying t).run P w = .ok d w:=by
 simp [underlying,h]
theorem Yl {t:TypeId} {i:TypeInfo} (h:P.info? t=some i) (w:World):(typeInfo t).run P w = .ok i w:=by
 simp [typeInfo,h]
theorem TyOk.size {t:Nat} {ti:TyI} (h:TyOk P t ti) (w:World):(sizeOf t).run P w = .ok ti.size w:=by
 obtain ⟨i,hi,hs,_⟩:=h.inf
 simp_all [sizeOf,Yl]
theorem TyOk.agg {t:Nat} {ti:TyI} (h:TyOk P t ti) (w:World):(isAgg t).run P w = .ok (V8 ti.kd) w:=by
 cases hk:V8 ti.kd with
 |true=>
  cases hh:ti.kd with
  |struct=>
   obtain ⟨fs,hu,_⟩:=h.kstruct hh;simp [isAgg,QN hu]
  |array e an n=>
   have hu:=(h.karr e an n hh).1;simp [isAgg,QN hu]
  |_=>grind [V8]
 |false=>
  obtain ⟨_,d,hu,h1,h2⟩:=h.one hk
  simp_all [isAgg,QhX,QN,QhT]
theorem QM {α R:Type} {g:Bool} {p:Option α} {z:α} {k:α->Option R} {r:R} (h:gb g p z k=some r) :
  ∃ a,k a=some r/\(g=true->p=some a):=by
 unfold gb orZ at h
 grind
def Out (E:Env) (st:St) (a:Act) (dl:Dl) (v:Value) (w':World):Prop:=
 ∃ β' S',Rel E β' S' ⟨st.n,st.tm,NL st.h dl.wr⟩ a w'/\RdA β' S' (look (NL st.h dl.wr)) w' (tmv a) v dl.v
def Cz (β:Nat->Option Nat) (S:Nat->Prop) (st:St) (a:Act) (w:World) (o:Oper) (ev:Operand->AV):Prop:=
 ∀ x∈o.op.operands.toList,RdA β S (look st.h) w (tmv a) (a.eval x) (ev x)/\∀ l,Us st l=true->WT l (ev x)=false
def Qe1 (st:St) (hl:Nat->Option Ob) (dl:Dl):Prop:=∀ l,l∈dl.rd\/l∈wrL dl->look st.h l=hl l
def GQ (P:Program) (E:Env) (o:Oper) (ev:Operand->AV) (hl:Nat->Option Ob) (dl:Dl):Prop:=
 ∀ β S st a w,Rel E β S st a w->Cz β S st a w o ev->Qe1 st hl dl->We st dl.wr=true ->
  ∀ (K:Act->World->Prop) (Q:Exit->Act->World->Prop),(∀ v w',Out E st a dl v w'->K (a.put o.dst v) w')->o.wp P a w K Q
variable {E:Env}
theorem Qk {o:Oper} {ev:Operand->AV} {hl:Nat->Option Ob} {v:AV} {rd:List Nat}
  (h:∀ β S st a w,Rel E β S st a w->Cz β S st a w o ev->Qe1 st hl ⟨v,[],rd⟩->∃ u,(execOp a.eval o).run P w = .ok (.value u) w/\RdA β S (look st.h) w (tmv a) u v) :
  GQ P E o ev hl ⟨v,[],rd⟩:=by
 intro β S st a w hR hO hA _ K Q hK;obtain ⟨u,aj,hu⟩:=h β S st a w hR hO hA;unfold Oper.wp;rw [aj];exact hK u w ⟨β,S,by assumption,by assumption⟩
theorem Cz.at {β:Nat->Option Nat} {S:Nat->Prop} {st:St} {a:Act} {w:World} {o:Oper} {ev:Operand->AV} (h:Cz β S st a w o ev) {x:Operand} (hx:x∈o.op.operands.toList) :
  RdA β S (look st.h) w (tmv a) (a.eval x) (ev x):=(h x hx).1
theorem Cz.nm {β:Nat->Option Nat} {S:Nat->Prop} {st:St} {a:Act} {w:World} {o:Oper} {ev:Operand->AV} (h:Cz β S st a w o ev) {x:Operand} (hx:x∈o.op.operands.toList) {l:Nat} (hc:Us st l=true) :
  WT l (ev x)=false:=(h x hx).2 l hc
section inv
variable {β:Nat->Option Nat} {S:Nat->Prop} {h:Nat->Option Ob} {w:World} {tm:Nat->Value} {v:Value}
theorem RdA.int_inv {k:IntKind} {n:Int} (hv:RdA β S h w tm v (.d (.int k n))):v = .int k n:=by
 cases hv with
 |d _ _ hx=>cases hx;rfl
 |dang _ _ l hl _ _=>trivial
theorem RdA.bool_inv {b:Bool} (hv:RdA β S h w tm v (.d (.bool b))):v = .bool b:=by
 cases hv with
 |d _ _ hx=>cases hx;rfl
 |dang _ _ l hl _ _=>trivial
theorem RdA.str_inv {l:List UInt8} (hv:RdA β S h w tm v (.d (.str l))):∃ s:ByteArray,l=s.data.toList/\v = .string s:=by
 cases hv with
 |d _ _ hx=>cases hx with
  |str s=>simp_all
 |dang _ _ l hl _ _=>trivial
theorem RdA.d_inv {x:D} (hv:RdA β S h w tm v (.d x)):Rd S w v x:=by
 cases hv with
 |d _ _ hx=>exact hx
 |dang _ _ l hl _ _=>trivial
theorem RdA.ptr_inv {l off:Nat} (hv:RdA β S h w tm v (.ptr l off)):∃ b,β l=some b/\v = .pointer (some ⟨b,off,none⟩):=by
 cases hv with
 |ptr _ _ b hb=>simp_all
 |dang _ _ l hl _ _=>trivial
theorem RdA.el_inv {row:List D} {off:Nat} (hv:RdA β S h w tm v (.el row off)) :
  ∃ (ad:Addr) (c:Nat->Value),v = .pointer (some ad)/\S ad.block/\(∀ (j:Nat) (x:D),row[off+j]? = some x->w.cell? (ad.add j)=some (c j))/\∀ (j:Nat) (x:D),row[off+j]? = some x->Rd S w (c j) x:=by
 cases hv with
 |el ad _ _ c hs hc hr=>exact ⟨ad,c,rfl,hs,hc,hr⟩
 |dang _ _ l hl _ _=>trivial
theorem RdA.ap_inv {l i off e s:Nat} {rows:List (List D)} (hh:h l=some (.arr e s rows)) (hv:RdA β S h w tm v (.ap l i off)) :
  ∃ b,β l=some b/\v = .pointer (some ⟨b,i*s+off,none⟩):=by
 cases hv with
 |ap _ _ _ b e' s' aj hb an=>
  simp_all
 |dang _ _ l' hl hn _=>grind [Nm]
theorem RdA.ag_inv {l:List AV} (hv:RdA β S h w tm v (.ag l)):∃ cs:Array Value,v = .agg cs/\cs.size=l.length/\∀ (i:Nat) (x:AV),l[i]? = some x->RdA β S h w tm (cs.getD i undef) x:=by
 cases hv with
 |ag cs _ hl hr=>simp_all
 |dang _ _ l hl _ _=>trivial
theorem RdA.tup_inv {l:List AV} (hv:RdA β S h w tm v (.tup l)):∃ cs:Array Value,v = .tuple cs/\cs.size=l.length/\∀ (i:Nat) (x:AV),l[i]? = some x->RdA β S h w tm (cs.getD i undef) x:=by
 cases hv with
 |tup cs _ hl hr=>simp_all
 |dang _ _ l hl _ _=>trivial
theorem RdA.fs_inv {s:Nat} {rows:List (List D)} (hv:RdA β S h w tm v (.fs s rows)):∃ ad,v = .slice ad rows.length rows.length/\Rd S w v (.sl s rows):=by
 cases hv with
 |fs ad _ _ hx=>simp_all
 |dang _ _ l hl=>trivial
theorem RdA.nil_inv (hv:RdA β S h w tm v .nil):v = .slice none 0 0:=by
 cases hv with
 |nil=>rfl
 |dang _ _ l hl _ _=>trivial
theorem RdA.arr_inv {l e s:Nat} {rows:List (List D)} (hh:h l=some (.arr e s rows)) (hv:RdA β S h w tm v (.arr l)) :
  (β l=none/\rows=[]/\v = .slice none 0 0)\/∃ b cap cs ty fz,β l=some b/\v = .slice (some ⟨b,0,none⟩) rows.length cap/\w.heap[b]? = some (.cells cs ty fz)/\cs.size=cap*s/\rows.length<=cap/\cap<=maxLen:=by
 cases hv with
 |arr0 _ e' s' hb aj=>
  simp_all
 |arr _ b cap e' s' ak cs ty fz hb aj hw aq an ao=>
  grind
 |mp _ b t f hb aj=>simp_all
 |dang _ _ l' hl hn _=>grind [Nm]
theorem RdA.mp_inv {l t:Nat} {f:Int->Bool} (hh:h l=some (.mp t f)) (hv:RdA β S h w tm v (.arr l)):∃ b,β l=some b/\v = .map (some b):=by
 cases hv with
 |arr0 _ e' s' hb aj=>simp_all
 |arr _ b cap e' s' ak cs ty fz hb aj hw ar an ao=>rw [hh] at aj;cases aj
 |mp _ b t f hb aj=>simp_all
 |dang _ _ l' hl hn _=>grind [Nm]
end inv
theorem LZ {k:IntKind} {x:D} {n:Int} (h:Q2 k x=some n):x = .int k n:=by
 cases x with
 |int k' m=>
  grind [Q2]
 |_=>trivial
theorem NV {x:D} {n:Bool} (h:Kl x=some n):x = .bool n:=by
 cases x <;> simp [Kl] at h;rw [h]
theorem LI {x:D} {n:List UInt8} (h:RD x=some n):x = .str n:=by
 cases x <;> simp [RD] at h;rw [h]
theorem Q5Q {s:Nat} {x:D} {n:List (List D)} (h:pSl s x=some n):x = .sl s n:=by
 cases x with
 |sl s' m=>
  grind [pSl,Nat.beq,Nat.eq_of_beq_eq_true]
 |_=>trivial
theorem Ci {R:Type} {g:Bool} {kd:Kd} {av:AV} {k:AV->Option R} {r:R} (h:prj g kd av k=some r) :
  ∃ v,k v=some r/\(g=true->v=av)/\AK av=true:=by
 unfold prj at h;split at h
 ·split at h
  ·obtain ⟨n,hn,hp⟩:=QM h;exact ⟨_,hn,fun hg=>by grind [LZ],rfl⟩
  ·obtain ⟨n,hn,hp⟩:=QM h;exact ⟨_,hn,fun hg=>by grind [NV],rfl⟩
  ·obtain ⟨n,hn,hp⟩:=QM h;exact ⟨_,hn,fun hg=>by grind [LI],rfl⟩
  ·obtain ⟨n,hn,hp⟩:=QM h;exact ⟨_,hn,fun hg=>by grind [Q5Q],rfl⟩
  ·cases h
 grind
theorem MB {R:Type} {g:Bool} {row:List D}:∀ {n off:Nat} {k:List AV->Option R} {r:R},Q0c g row off n k=some r ->
  ∃ cs:List D,k (cs.map .d)=some r/\cs.length=n/\(g=true->∀ j,j<n->row[off+j]? = cs[j]?)
 |0,off,k,r,h=>⟨[],by simpa [Q0c] using h,rfl,fun _ j hj=>by omega⟩
 |n+1,off,k,r,h=>by
  unfold Q0c at h;obtain ⟨c,hc,hp⟩:=QM h;obtain ⟨cs,h1,h2,h3⟩:=MB hc;refine ⟨c::cs,by simpa using h1,by simp [h2],fun hg j hj=>?_⟩;cases j with
  |zero=>simpa using hp hg
  |succ j=>
   have:=h3 hg j (by omega);rw [show off+(j+1)=off+1+j from by omega];simpa using this
theorem SY {cells:List AV}:∀ {n off:Nat} {cs:List AV},CH cells off n=some cs->cs.length=n/\(∀ j,j<n->cells[off+j]? = cs[j]?)/\∀ (j:Nat) (c:AV),cs[j]? = some c->AK c=true
 |0,off,cs,h=>by
  simp [CH] at h;subst h;exact ⟨rfl,fun j hj=>by omega,fun j c hc=>by simp at hc⟩
 |n+1,off,cs,h=>by
  unfold CH at h;split at h
  ·rename_i c hc;split at h
   ·rename_i r hr;obtain ⟨h1,h2,h3⟩:=SY hr;cases hn:AK c with
    |true=>
     simp [hn] at h;subst h;refine ⟨by simp [h1],fun j hj=>?_,fun j c' aj=>?_⟩
     ·cases j with
      |zero=>simpa using hc
      |succ j=>
       rw [show off+(j+1)=off+1+j from by omega];simpa using h2 j (by omega)
     ·cases j with
      |zero=>simp at aj;subst aj;exact hn
      |succ j=>exact h3 j c' (by simpa using aj)
    |false=>simp [hn] at h
   ·cases h
  ·cases h
theorem Q0I:∀ {l:List AV},Jl l=true->∀ t,BV t l=false
 |[],_,_=>rfl
 |.ptr ..::r,h,t=>by simp [BV,gds,Q0I (l:=r) (by simpa [Jl] using h) t]
 |.d _::r,h,t=>by simp [BV,gds,Q0I (l:=r) (by simpa [Jl] using h) t]
 |.top::_,h,_=>by simp [Jl] at h
 |.nil::_,h,_=>by simp [Jl] at h
 |.ag _::_,h,_=>by simp [Jl] at h
 |.tup _::_,h,_=>by simp [Jl] at h
 |.el ..::_,h,_=>by simp [Jl] at h
 |.fs ..::_,h,_=>by simp [Jl] at h
 |.mpd _::_,h,_=>by simp [Jl] at h
 |.ex _::_,h,_=>by simp [Jl] at h
 |.arr _::_,h,_=>by simp [Jl] at h
 |.ap ..::_,h,_=>by simp [Jl] at h
 |.gd ..::_,h,_=>by simp [Jl] at h
 |.fn ..::_,h,_=>by simp [Jl] at h
theorem Sl {av:AV} (h:AK av=true) (t:Nat):gds t av=false:=by
 cases av with
 |fn f l=>grind [gds,Q0I,AK]
 |_=>trivial
theorem RdA.any_tm {β:Nat->Option Nat} {S:Nat->Prop} {h:Nat->Option Ob} {w:World} {tm:Nat->Value} {v:Value} {av:AV} (hg:AK av=true)
  (hv:RdA β S h w tm0 v av):RdA β S h w tm v av:=by
 refine RdA.mono hv (fun _ hb=>hb) (fun _ _=>rfl) (fun l _=>⟨rfl,fun x=>x,fun e s rows hh=>.inr ⟨rows,hh,rfl⟩,fun b cs ty fz _ _ hw=>⟨cs,ty,fz,hw,rfl⟩,fun _ f hh=>.inr ⟨f,hh⟩⟩) (fun t ht=>?_)
 grind [Sl]
end
end Go.Vx
namespace Go.Vx
section
variable {P:Program} {E:Env} {R:Type}
theorem J3 {w:World} {b o:Nat} {cs:Array Value} {ty:TypeId} {fz:Nat × Nat} (h:w.heap[b]? = some (.cells cs ty fz)):w.cell? ⟨b,o,none⟩=cs[o]?:=by
 simp [World.cell?,h]
theorem Gn {t:Nat} {ti:TyI} (ht:TyOk P t ti) (hs:V8 ti.kd=false) {w:World} {a:Addr} {v:Value} (hc:w.cell? a=some v) :
  (loadVar t a).run P w = .ok v w:=by
 simp only [loadVar,QhX,ht.agg,hs,QhT,Bool.false_eq_true,if_false,run_load,hc]
theorem GA {t:Nat} {ti:TyI} (ht:TyOk P t ti) (hs:V8 ti.kd=true) {w:World} {a:Addr} {vs:List Value} (hl:vs.length=ti.size) (hc:∀ (j:Nat) (v:Value),vs[j]? = some v->w.cell? (a.add j)=some v) :
  (loadVar t a).run P w = .ok (.agg vs.toArray) w:=by
 have h1:=run_loadCells_list (P:=P) w a vs hc;rw [hl] at h1;simp only [loadVar,QhX,ht.agg,hs,QhT,if_true,ht.size,h1];rfl
theorem Hp {cs:Array Value} {i:Nat} (h:i<cs.size):cs[i]? = some (cs.getD i undef):=by
 simp_all
theorem LE {vs:List Value} {i:Nat} {v:Value} (h:vs[i]? = some v):vs.toArray.getD i undef=v:=by
 simp_all
theorem Kv {o:Oper} {t:TypeId} {x:Operand} (ho:o.op = .load t x) {a:Act} {w:World} {ad:Addr} {v:Value} (hx:a.eval x = .pointer (some ad)) (hv:(loadVar t ad).run P w = .ok v w) :
  (execOp a.eval o).run P w = .ok (.value v) w:=by
 simp_all [execOp,Instr.loadAt,Instr.sureAddr]
theorem Q2G {S:Nat->Prop} {w:World} {ad:Addr} {row:List D} {off:Nat} {c:Nat->Value} (hc:∀ (j:Nat) (x:D),row[off+j]? = some x->w.cell? (ad.add j)=some (c j))
  (hr:∀ (j:Nat) (x:D),row[off+j]? = some x->Rd S w (c j) x) {cs:List D} {n:Nat} (hn:cs.length=n) (aj:∀ j,j<n->row[off+j]? = cs[j]?) :
  ∃ vs:List Value,vs.length=n/\(∀ (j:Nat) (v:Value),vs[j]? = some v->w.cell? (ad.add j)=some v)/\∀ (j:Nat) (x:D),cs[j]? = some x->∃ v,vs[j]? = some v/\Rd S w v x:=by
 refine ⟨(List.range n).map c,by simp,fun j v hv=>?_,fun j x hx=>?_⟩
 all_goals grind
theorem Q88 {β:Nat->Option Nat} {S:Nat->Prop} {h:Nat->Option Ob} {w:World} {tm:Nat->Value} {vs:List Value} {cs:List D} (hl:vs.length=cs.length)
  (hr:∀ (j:Nat) (x:D),cs[j]? = some x->∃ v,vs[j]? = some v/\Rd S w v x):RdA β S h w tm (.agg vs.toArray) (.ag (cs.map .d)):=by
 refine .ag _ _ (by simp [hl]) fun i x hx=>?_
 simp only [Qi4,QhZ] at hx;obtain ⟨y,hy,rfl⟩:=hx;obtain ⟨v,hv,aj⟩:=hr i y hy;rw [LE hv];exact .d _ _ aj
theorem Q7C {tt:TT} (hT:TOk P tt) {o:Oper} {t:TypeId} {x:Operand} (ho:o.op = .load t x) {g:Bool} {ev:Operand->AV} {hl:Nat->Option Ob} {k:Dl->Option R} {r:R}
  (h:QcY tt g hl t (ev x) k=some r):∃ dl,k dl=some r/\(g=true->GQ P E o ev hl dl):=by
 have ak:x∈o.op.operands.toList:=by grind [Op.operands]
 unfold QcY at h;split at h
 case h_2=>cases h
 rename_i ti bo;have a2:=hT t ti bo;split at h
 ·-- a box
  rename_i l off au;split at h
  ·rename_i cells ax;cases hs:V8 ti.kd with
   |true=>
    simp only [hs,QhY] at h;split at h
    ·rename_i cs a6;refine ⟨_,h,fun _=>Qk fun β S st a w hR hO hA=>?_⟩;obtain ⟨b,hb,hv⟩:=(au▸hO.at ak).ptr_inv;have ao:look st.h l=some (.box cells):=by rw [hA l (.inl (by simp))];exact ax
     obtain ⟨b',ty,vs,fz,aq,hw,_,bk,ar⟩:=hR.hr.ob l _ ao;obtain rfl:b=b':=by simp_all
     obtain ⟨h1,h2,h3⟩:=SY a6;have aw:∀ j,j<ti.size->off+j<vs.size:=fun j hj=>by
      grind
     refine ⟨_,Kv ho hv (GA a2 hs (vs:=(List.range ti.size).map fun j=>vs.getD (off+j) undef) (by simp) fun j v hv=>?_),?_⟩
     ·simp only [Qi4,QhZ] at hv;obtain ⟨j',bn,rfl⟩:=hv;obtain ⟨bb,he⟩:=QhU.1 bn;simp at bb he;subst he;rw [KZ,J3 hw];exact Hp (aw j bb)
     ·refine .ag _ _ (by simp [h1]) fun i y hy=>?_
      have hi:i<ti.size:=by
       obtain ⟨h6,_⟩:=QhU.1 hy;omega
      rw [LE (v:=vs.getD (off+i) undef) (by simp [hi])];exact (ar (off+i) y ((h2 i hi).trans hy)).any_tm (h3 i y hy)
    ·cases h
   |false=>
    simp only [hs,cond_false] at h;split at h
    ·rename_i c hc;obtain ⟨v,a5,a7,bj⟩:=Ci h;refine ⟨_,a5,fun hg=>Qk fun β S st a w hR hO hA=>?_⟩;obtain ⟨b,hb,hv⟩:=(au▸hO.at ak).ptr_inv;have ao:look st.h l=some (.box cells):=by rw [hA l (.inl (by simp))];exact ax
     obtain ⟨b',ty,vs,fz,aq,hw,_,bk,ar⟩:=hR.hr.ob l _ ao;obtain rfl:b=b':=by rw [hb] at aq;injection aq
     have aw:off<vs.size:=by
      obtain ⟨h6,_⟩:=QhU.1 hc;omega
     refine ⟨_,Kv ho hv (Gn a2 hs (by rw [J3 hw];exact Hp aw)),?_⟩;rw [a7 hg];exact (ar off c hc).any_tm bj
    ·cases h
  ·cases h
 ·-- a row of data
  rename_i row off au;cases hs:V8 ti.kd with
  |true=>
   simp only [hs,QhY] at h;obtain ⟨cs,hk,a4,a6⟩:=MB h;refine ⟨_,hk,fun hg=>Qk fun β S st a w hR hO hA=>?_⟩;obtain ⟨ad,c,hv,_,hc,hr⟩:=(au▸hO.at ak).el_inv;obtain ⟨vs,h1,h2,h3⟩:=Q2G hc hr a4 (a6 hg);exact ⟨_,Kv ho hv (GA a2 hs h1 h2),Q88 (by omega) h3⟩
  |false=>
   simp only [hs,cond_false] at h;obtain ⟨c0,h,a8⟩:=QM h;obtain ⟨v,a5,a7,_⟩:=Ci h;refine ⟨_,a5,fun hg=>Qk fun β S st a w hR hO hA=>?_⟩;obtain ⟨ad,c,hv,_,hc,hr⟩:=(au▸hO.at ak).el_inv;refine ⟨_,Kv ho hv (Gn a2 hs (v:=c 0) ?_),?_⟩
   ·have:=hc 0 c0 (a8 hg);simpa [Addr.add] using this
   ·rw [a7 hg];exact .d _ _ (hr 0 c0 (a8 hg))
 ·-- an array of the call's own
  rename_i l i off au;split at h
  ·rename_i e s rows a9;obtain ⟨row,h,ba⟩:=QM h;cases hs:V8 ti.kd with
   |true=>
    simp only [hs,QhY] at h;obtain ⟨cs,hk,a4,a6⟩:=MB h;refine ⟨_,hk,fun hg=>Qk fun β S st a w hR hO hA=>?_⟩;have ao:look st.h l=some (.arr e s rows):=by rw [hA l (.inl (by simp))];exact a9
    obtain ⟨b,hb,hv⟩:=RdA.ap_inv ao (au▸hO.at ak);have aj:=ba hg;rcases hR.hr.ob l _ ao with ⟨_,hn⟩ | ⟨b',vs,aq,hw,_,bm,ar⟩
    ·subst hn;simp at aj
    obtain rfl:b=b':=by rw [hb] at aq;injection aq
    obtain ⟨bp,h1,h2,h3⟩:=Q2G (S:=S) (w:=w) (ad:=⟨b,i*s+off,none⟩) (row:=row) (off:=off) (c:=fun j=>vs.getD (i*s+(off+j)) undef)
     (fun j x hx=>by
      obtain ⟨v,bh,_⟩:=ar i (off+j) row x aj hx;rw [KZ,J3 hw,Qio];obtain ⟨aw,_⟩:=Qi8.1 bh;exact Hp aw)
     (fun j x hx=>by
      obtain ⟨v,bh,bc⟩:=ar i (off+j) row x aj hx;obtain ⟨aw,he⟩:=Qi8.1 bh;have:vs.getD (i*s+(off+j)) undef=v:=by simp [Array.getD,aw,he]
      rw [this];exact bc) a4 (a6 hg)
    exact ⟨_,Kv ho hv (GA a2 hs h1 h2),Q88 (by omega) h3⟩
   |false=>
    simp only [hs,cond_false] at h;obtain ⟨c0,h,a8⟩:=QM h;obtain ⟨v,a5,a7,_⟩:=Ci h;refine ⟨_,a5,fun hg=>Qk fun β S st a w hR hO hA=>?_⟩;have ao:look st.h l=some (.arr e s rows):=by rw [hA l (.inl (by simp))];exact a9
    obtain ⟨b,hb,hv⟩:=RdA.ap_inv ao (au▸hO.at ak);have aj:=ba hg;rcases hR.hr.ob l _ ao with ⟨_,hn⟩ | ⟨b',vs,aq,hw,_,bm,ar⟩
    ·subst hn;simp at aj
    obtain rfl:b=b':=by rw [hb] at aq;injection aq
    obtain ⟨u,hu,bc⟩:=ar i off row c0 aj (a8 hg);refine ⟨_,Kv ho hv (Gn a2 hs (v:=u) ?_),?_⟩
    ·rw [J3 hw];exact hu
    ·rw [a7 hg];exact .d _ _ bc
  ·cases h
 ·cases h
end
end Go.Vx
namespace Go.Vx
section
variable {P:Program} {E:Env} {R:Type}
theorem Q2N {o:Oper} {x:Operand} (ho:o.op = .move x\/o.op = .assign x) {ev:Operand->AV} {hl:Nat->Option Ob}:GQ P E o ev hl ⟨ev x,[],[]⟩:=by
 refine Qk fun β S st a w hR hO hA=>⟨a.eval x,?_,hO.at (by grind [Op.operands])⟩
 unfold execOp;rcases ho with ho | ho <;> rw [ho] <;> simp
theorem RU {o:Oper} {x:Operand} (ho:o.op = .nilCheck x) {a:Act} {w:World} {ad:Addr} (aj:a.eval x = .pointer (some ad)) :
  (execOp a.eval o).run P w = .ok (.value (.pointer (some ad))) w:=by
 simp_all [execOp]
theorem FW {o:Oper} {x:Operand} (ho:o.op = .nilCheck x) {ev:Operand->AV} {hl:Nat->Option Ob} {l f:Nat} (hv:ev x = .ptr l f):GQ P E o ev hl ⟨.ptr l f,[],[]⟩:=by
 refine Qk fun β S st a w hR hO hA=>?_
 have hx:=hv▸hO.at (x:=x) (by grind [Op.operands]);obtain ⟨b,_,h⟩:=hx.ptr_inv
 grind [RU]
theorem Dw {o:Oper} {x:Operand} (ho:o.op = .nilCheck x) {ev:Operand->AV} {hl:Nat->Option Ob} {l:List D} {f:Nat} (hv:ev x = .el l f):GQ P E o ev hl ⟨.el l f,[],[]⟩:=by
 refine Qk fun β S st a w hR hO hA=>?_
 have hx:=hv▸hO.at (x:=x) (by grind [Op.operands]);obtain ⟨b,_,h,_⟩:=hx.el_inv
 grind [RU]
theorem RdA.ap_ptr {β:Nat->Option Nat} {S:Nat->Prop} {h:Nat->Option Ob} {w:World} {tm:Nat->Value} {v:Value} {l i off:Nat} (hh:(h l).isSome=true) (hv:RdA β S h w tm v (.ap l i off)):∃ ad,v = .pointer (some ad):=by
 cases hv with
 |ap _ _ _ b e s rows hb hh=>simp_all
 |dang _ _ l' hl hn _=>grind [Nm]
theorem DL {o:Oper} {x:Operand} (ho:o.op = .nilCheck x) {ev:Operand->AV} {hl:Nat->Option Ob} {l i f:Nat} (hs:(hl l).isSome=true) (hv:ev x = .ap l i f):GQ P E o ev hl ⟨.ap l i f,[],[l]⟩:=by
 refine Qk fun β S st a w hR hO hA=>?_
 have hx:=hv▸hO.at (x:=x) (by grind [Op.operands]);obtain ⟨ad,h⟩:=hx.ap_ptr (by rw [hA l (.inl (by simp))];exact hs)
 grind [RU]
theorem Q83 {o:Oper} {op:UnOp} {t:TypeId} {x:Operand} (ho:o.op = .unOp op t x) {a:Act} {w:World} {u v:Value} (hx:a.eval x=u) (h:(Op.unary op u).run P w = .ok v w) :
  (execOp a.eval o).run P w = .ok (.value v) w:=by
 simp_all [execOp]
theorem Qd0 {o:Oper} {op:UnOp} {t:TypeId} {x:Operand} (ho:o.op = .unOp op t x) {ev:Operand->AV} {hl:Nat->Option Ob} {v:AV} (h:vUn op (ev x)=some v) :
  GQ P E o ev hl ⟨v,[],[]⟩:=by
 refine Qk fun β S st a w hR hO hA=>?_
 have hx:=hO.at (x:=x) (by grind [Op.operands]);unfold vUn at h;split at h
 ·rename_i b hb;cases h;rw [hb] at hx;exact ⟨.bool (!b),Q83 ho hx.bool_inv (by rfl),.d _ _ (.bool _)⟩
 ·rename_i k n hb;cases h;rw [hb] at hx;exact ⟨.int k (k.wrap (0-n)),Q83 ho hx.int_inv (by rfl),.d _ _ (.int _ _)⟩
 ·rename_i k n hb;cases h;rw [hb] at hx;exact ⟨.int k (QdJ k n),Q83 ho hx.int_inv (by rfl),.d _ _ (.int _ _)⟩
 ·cases h
theorem RF (op:BinOp) (t:TypeId) (x y:Operand) (k k':IntKind) (a b:Int) (w:World):(eqGuard op t x y (.int k a) (.int k' b)).run P w = .ok () w:=by
 simp [eqGuard]
theorem R8 (op:BinOp) (t:TypeId) (x y:Operand) (a b:Bool) (w:World):(eqGuard op t x y (.bool a) (.bool b)).run P w = .ok () w:=by
 simp [eqGuard]
theorem Ew {o:Oper} {op:BinOp} {t t':TypeId} {x y:Operand} (ho:o.op = .binOp op t x y t') {a:Act} {w:World} {u u' v:Value} (hx:a.eval x=u) (hy:a.eval y=u')
  (hg:(eqGuard op t x y u u').run P w = .ok () w) (h:(binOp op t u u').run P w = .ok v w) :
  (execOp a.eval o).run P w = .ok (.value v) w:=by
 simp_all [execOp]
theorem Rl (d:Nat) {t:TypeId} (hu:P.underlying t=some .bool) (a b:Bool) (w:World):(Op.equalIn (d+1) t (.bool a) (.bool b)).run P w = .ok (a == b) w:=by
 simp_all [Op.equalIn,QhX,QN,QhT]
theorem Q2o {t:TypeId} (hu:P.underlying t=some .bool) (a b:Bool) (w:World):(binOp .eql t (.bool a) (.bool b)).run P w = .ok (.bool (a == b)) w:=by
 simp_all [binOp,Op.equal,Op.maxDepth,QhX,Rl,QhT]
theorem Q3F {t:TypeId} (hu:P.underlying t=some .bool) (a b:Bool) (w:World):(binOp .neq t (.bool a) (.bool b)).run P w = .ok (.bool (!(a == b))) w:=by
 simp_all [binOp,Op.equal,Op.maxDepth,QhX,Rl,QhT]
theorem RdA.gd_inv {β:Nat->Option Nat} {S:Nat->Prop} {h:Nat->Option Ob} {w:World} {tm:Nat->Value} {v:Value} {t:Nat} {b:Bool} {av:AV} (hv:RdA β S h w tm v (.gd t b av)) :
  (tm t = .bool b/\RdA β S h w tm v av)\/(tm t≠.bool b/\v=undef):=by
 cases hv with
 |gdT _ _ _ _ ht hv=>simp_all
 |gdF _ _ _ ht=>simp_all
 |dang _ _ l hl _ _=>trivial
def dv:D->Value
 |.int k n=>.int k n
 |.bool b=>.bool b
 |_=>undef
theorem Q72 {op:BinOp} {k:IntKind} {a b:Int} {d:D} (h:Q5K op k a b=some d) (t:TypeId) (w:World) (S:Nat->Prop):∃ v,(binOp op t (.int k a) (.int k b)).run P w = .ok v w/\Rd S w v d:=by
 refine ⟨dv d,?_,?_⟩
 ·cases op <;> simp only [Q5K,Option.some.injEq,reduceCtorEq] at h <;> subst h <;> simp [binOp,Op.intArith,Op.intCmp,dv]
 ·cases op <;> simp only [Q5K,Option.some.injEq,reduceCtorEq] at h <;> subst h <;> first | exact .int _ _ | exact .bool _
theorem Xt {tt:TT} {t:Nat} {kd:Kd} (h:TJ tt t=kd) (hn:kd≠.other):∃ ti,look tt t=some ti/\ti.kd=kd:=by
 grind [TJ,absurd]
theorem CD (op:BinOp) (t:TypeId) (x y:Operand) (a b:ByteArray) (w:World):(eqGuard op t x y (.string a) (.string b)).run P w = .ok () w:=by
 simp [eqGuard]
theorem Q67:∀ (l:List Bool),Q9I l=l.all id
 |[]=>rfl
 |[b]=>by simp [Q9I]
 |b::c::r=>by rw [show Q9I (b::c::r)=(b&&Q9I (c::r)) from rfl,Q67 (c::r)];simp
theorem CW {g:Bool}:∀ {ks:List Kd} {xs ys:List AV} {k:List Bool->Option R} {r:R},Q3K g ks xs ys k=some r->∃ bs,k bs=some r/\bs.length=ks.length/\xs.length=ks.length/\ys.length=ks.length /\
  (g=true->∀ (β:Nat->Option Nat) (S:Nat->Prop) (h:Nat->Option Ob) (w:World) (tm:Nat->Value) (us vs:Nat->Value),(∀ (i:Nat) (x:AV),xs[i]? = some x->RdA β S h w tm (us i) x)->(∀ (i:Nat) (x:AV),ys[i]? = some x->RdA β S h w tm (vs i) x) ->
   ∀ (j:Nat) (kd:Kd) (b:Bool),ks[j]? = some kd->bs[j]? = some b->CEq kd (us j) (vs j) b)
 |[],[],[],k,r,h=>⟨[],h,rfl,rfl,rfl,fun _ _ _ _ _ _ _ _ _ _ j kd b hj=>by simp at hj⟩
 |kd::ks,x::xs,y::ys,k,r,h=>by
  cases x with
  |d a=>
   cases y with
   |d b=>
    have ar:∀ (c:Bool),Q3K g ks xs ys (fun r=>k (c::r))=some r->(g=true->∀ (β:Nat->Option Nat) (S:Nat->Prop) (h:Nat->Option Ob) (w:World) (tm:Nat->Value) (u v:Value),RdA β S h w tm u (.d a)->RdA β S h w tm v (.d b)->CEq kd u v c) ->
      ∃ bs,k bs=some r/\bs.length=(kd::ks).length/\(AV.d a::xs).length=(kd::ks).length/\(AV.d b::ys).length=(kd::ks).length /\
      (g=true->∀ (β:Nat->Option Nat) (S:Nat->Prop) (h:Nat->Option Ob) (w:World) (tm:Nat->Value) (us vs:Nat->Value),(∀ (i:Nat) (x:AV),(AV.d a::xs)[i]? = some x->RdA β S h w tm (us i) x)->(∀ (i:Nat) (x:AV),(AV.d b::ys)[i]? = some x->RdA β S h w tm (vs i) x) ->
       ∀ (j:Nat) (aq:Kd) (b:Bool),(kd::ks)[j]? = some aq->bs[j]? = some b->CEq aq (us j) (vs j) b):=by
     intro c hc hq;obtain ⟨bs,h1,h2,h3,h4,h5⟩:=CW hc;refine ⟨c::bs,h1,by simp [h2],by simp [h3],by simp [h4],fun hg β S hh w tm us vs hu hv j aq b' hj hb=>?_⟩;cases j with
     |zero=>simp at hj hb;subst hj hb;exact hq hg β S hh w tm _ _ (hu 0 _ rfl) (hv 0 _ rfl)
     |succ j=>exact h5 hg β S hh w tm (fun i=>us (i+1)) (fun i=>vs (i+1)) (fun i x hx=>hu (i+1) x (by simp_all)) (fun i x hx=>hv (i+1) x (by simpa using hx)) j aq b' (by simpa using hj) (by simpa using hb)
    cases kd with
    |int ik=>
     simp only [Q3K] at h;obtain ⟨m,h,hm⟩:=QM h;obtain ⟨n,h,hn⟩:=QM h;refine ar _ h fun hg β S hh w tm u v hu hv=>?_
     rw [LZ (hm hg)] at hu;rw [LZ (hn hg)] at hv;exact ⟨m,n,hu.int_inv,hv.int_inv,rfl⟩
    |bool=>
     simp only [Q3K] at h;obtain ⟨m,h,hm⟩:=QM h;obtain ⟨n,h,hn⟩:=QM h;refine ar _ h fun hg β S hh w tm u v hu hv=>?_
     rw [NV (hm hg)] at hu;rw [NV (hn hg)] at hv;exact ⟨m,n,hu.bool_inv,hv.bool_inv,rfl⟩
    |str=>
     simp only [Q3K] at h;obtain ⟨m,h,hm⟩:=QM h;obtain ⟨n,h,hn⟩:=QM h;refine ar _ h fun hg β S hh w tm u v hu hv=>?_
     rw [LI (hm hg)] at hu;rw [LI (hn hg)] at hv;obtain ⟨s,rfl,rfl⟩:=hu.str_inv;obtain ⟨t,rfl,rfl⟩:=hv.str_inv;exact ⟨s,t,rfl,rfl,rfl⟩
    |_=>simp [Q3K] at h
   |_=>simp [Q3K] at h
  |_=>simp [Q3K] at h
 |[],[],_::_,k,r,h=>by simp [Q3K] at h
 |[],_::_,_,k,r,h=>by simp [Q3K] at h
 |_::_,[],_,k,r,h=>by simp [Q3K] at h
 |_::_,_::_,[],k,r,h=>by simp [Q3K] at h
theorem Q9D {o:Oper} {op:BinOp} {t t':TypeId} {x y:Operand} (ho:o.op = .binOp op t x y t') {g:Bool} {ev:Operand->AV} {hl:Nat->Option Ob} {k:Dl->Option R} {r:R} {a0 b0:List UInt8} (aw:ev x = .d (.str a0)) (aq:ev y = .d (.str b0))
  (h:Qg3 g op a0 b0 (fun v=>k ⟨v,[],[]⟩)=some r):∃ dl,k dl=some r/\(g=true->GQ P E o ev hl dl):=by
 have au:x∈o.op.operands.toList:=by grind [Op.operands]
 have ar:y∈o.op.operands.toList:=by simp [ho,Op.operands]
 have aj:∀ (d:D) (v:ByteArray->ByteArray->Value),k ⟨.d d,[],[]⟩=some r->(g=true->∀ (s u:ByteArray) (w:World) (S:Nat->Prop),s.data.toList=a0->u.data.toList=b0->(Op.stringOp op s u).run P w = .ok (v s u) w/\Rd S w (v s u) d)->∃ dl,k dl=some r/\(g=true->GQ P E o ev hl dl):=by
  intro d v hk hr;refine ⟨_,hk,fun hg=>Qk fun β S st a w hR hO hA=>?_⟩;obtain ⟨s,hs,hx⟩:=(aw▸hO.at au).str_inv;obtain ⟨u,hu,hy⟩:=(aq▸hO.at ar).str_inv;obtain ⟨h1,h2⟩:=hr hg s u w S hs.symm hu.symm;refine ⟨_,Ew ho hx hy (CD ..) ?_,.d _ _ h2⟩
  grind [binOp,Op.stringOp]
 cases op <;> simp only [Qg3,reduceCtorEq] at h
 ·obtain ⟨_,h,hp⟩:=QM h;refine aj _ (fun s u=>.string (s++u)) h fun hg s u w S hs hu=>⟨?_,?_⟩
  ·have hp:=hp hg;unfold Q8t at hp;cases hb:Nat.ble (a0.length+b0.length) 9223372036854775807 with
   |false=>simp_all
   |true=>
    have:=Qi5 hb;refine run_string_add_sum w s u ?_;rw [<- hs,<- hu,Qi7,Qi7] at this;exact this
  ·have:(s++u).data.toList=a0++b0:=by simp_all
   rw [<- this];exact .str _
 ·exact aj _ (fun s u=>.bool (s.toList == u.toList)) h fun hg s u w S hs hu=>⟨by rfl,by rw [Qi1,Qi1,hs,hu];exact .bool _⟩
 ·exact aj _ (fun s u=>.bool (!(s.toList == u.toList))) h fun hg s u w S hs hu=>⟨by simp [Op.stringOp],by rw [Qi1,Qi1,hs,hu];exact .bool _⟩
 ·exact aj _ (fun s u=>.bool (Op.bytesLess s.toList u.toList)) h fun hg s u w S hs hu=>⟨by simp [Op.stringOp],by rw [Qi1,Qi1,hs,hu];exact .bool _⟩
 ·exact aj _ (fun s u=>.bool (Op.bytesLess s.toList u.toList||s.toList == u.toList)) h fun hg s u w S hs hu=>⟨by simp [Op.stringOp],by rw [Qi1,Qi1,hs,hu];exact .bool _⟩
 ·exact aj _ (fun s u=>.bool (!(Op.bytesLess s.toList u.toList||s.toList == u.toList))) h fun hg s u w S hs hu=>⟨by simp [Op.stringOp],by rw [Qi1,Qi1,hs,hu];exact .bool _⟩
 ·exact aj _ (fun s u=>.bool (!Op.bytesLess s.toList u.toList)) h fun hg s u w S hs hu=>⟨by simp [Op.stringOp],by rw [Qi1,Qi1,hs,hu];exact .bool _⟩
theorem Qa3 {tt:TT} (hT:TOk P tt) {o:Oper} {op:BinOp} {t t':TypeId} {x y:Operand} (ho:o.op = .binOp op t x y t') {g:Bool} {ev:Operand->AV} {hl:Nat->Option Ob} {k:Dl->Option R} {r:R}
  (h:Qgz g op (TJ tt t) (Qcb tt t) (ev x) (ev y) (fun v=>k ⟨v,[],[]⟩)=some r):∃ dl,k dl=some r/\(g=true->GQ P E o ev hl dl):=by
 have aw:x∈o.op.operands.toList:=by grind [Op.operands]
 have au:y∈o.op.operands.toList:=by simp [ho,Op.operands]
 unfold Qgz at h;split at h
 ·rename_i ka a0 kb b0 ak aj;have ao:∀ (d:Int),k ⟨.d (.int ka d),[],[]⟩=some r->(g=true->∀ w:World,(binOp op t (.int ka a0) (.int kb b0)).run P w = .ok (.int ka d) w)->∃ dl,k dl=some r/\(g=true->GQ P E o ev hl dl):=by
   intro d hk hr;refine ⟨_,hk,fun hg=>Qk fun β S st a w hR hO hA=>?_⟩;have hx:=(ak▸hO.at aw).int_inv;have hy:=(aj▸hO.at au).int_inv;exact ⟨_,Ew ho hx hy (RF ..) (hr hg w),.d _ _ (.int _ _)⟩
  have a9:∀ {u:Unit},B8 b0=some u->0<=b0:=by
   grind [B8]
  split at h
  ·obtain ⟨_,h,hp⟩:=QM h;refine ao _ h fun hg w=>?_
   have h0:=a9 (hp hg);have:¬ b0<0:=by omega
   simp [binOp,Op.shift,this,shL]
  ·obtain ⟨_,h,hp⟩:=QM h;refine ao _ h fun hg w=>?_
   have h0:=a9 (hp hg);have:¬ b0<0:=by omega
   simp [binOp,Op.shift,this,shR]
  ·rename_i br bm;cases hk:(ka == kb) with
   |false=>simp [hk] at h
   |true=>
    obtain rfl:ka=kb:=by simpa using hk
    simp only [hk,QhY] at h;split at h
    ·obtain ⟨_,h,hp⟩:=QM h;refine ao _ h fun hg w=>?_
     have a4:¬ b0=0:=by
      intro e;subst e;simp [nz] at hp;exact absurd hp (by simp [hg])
     simp [binOp,Op.intDiv,a4]
    ·obtain ⟨_,h,hp⟩:=QM h;refine ao _ h fun hg w=>?_
     have a4:¬ b0=0:=by
      intro e;subst e;simp [nz] at hp;exact absurd hp (by simp [hg])
     simp [binOp,Op.intDiv,a4]
    ·exact ao _ h fun hg w=>by simp [binOp,Op.intBits,Q5S]
    ·exact ao _ h fun hg w=>by simp [binOp,Op.intBits,bOr]
    ·exact ao _ h fun hg w=>by simp [binOp,Op.intBits,QfP]
    ·exact ao _ h fun hg w=>by simp [binOp,Op.intBits,Q7l]
    ·split at h
     ·rename_i d hd;refine ⟨_,h,fun hg=>Qk fun β S st a w hR hO hA=>?_⟩;have hx:=(ak▸hO.at aw).int_inv;have hy:=(aj▸hO.at au).int_inv;obtain ⟨v,hv,hr⟩:=Q72 (P:=P) hd t w S;exact ⟨v,Ew ho hx hy (RF ..) hv,.d _ _ hr⟩
     ·cases h
 ·rename_i a0 b0 ak aj;split at h
  ·rename_i a3;obtain ⟨ti,aq,ax⟩:=Xt a3 (by simp);have hu:=(hT t ti aq).kbool ax;refine ⟨_,h,fun hg=>Qk fun β S st a w hR hO hA=>?_⟩;have hx:=(ak▸hO.at aw).bool_inv;have hy:=(aj▸hO.at au).bool_inv;exact ⟨.bool (a0 == b0),Ew ho hx hy (R8 ..) (Q2o hu ..),.d _ _ (.bool _)⟩
  ·rename_i a3;obtain ⟨ti,aq,ax⟩:=Xt a3 (by simp);have hu:=(hT t ti aq).kbool ax;refine ⟨_,h,fun hg=>Qk fun β S st a w hR hO hA=>?_⟩;have hx:=(ak▸hO.at aw).bool_inv;have hy:=(aj▸hO.at au).bool_inv;exact ⟨.bool (!(a0 == b0)),Ew ho hx hy (R8 ..) (Q3F hu ..),.d _ _ (.bool _)⟩
  ·cases h
 ·rename_i a0 b0 ak aj;exact Q9D ho ak aj h
 ·rename_i xs ys ak aj;split at h
  case h_2=>cases h
  rename_i ks a2;obtain ⟨ti,aq,bg⟩:∃ ti,look tt t=some ti/\ti.eqk=some ks:=by
   unfold Qcb at a2;split at a2
   ·rename_i ti aq;exact ⟨ti,aq,a2⟩
   ·cases a2
  have hE:=(hT t ti aq).keq ks bg;have key:∀ (c:Bool->Bool) (bs:List Bool),k ⟨.d (.bool (c (Q9I bs))),[],[]⟩=some r->bs.length=ks.length->xs.length=ks.length->ys.length=ks.length ->
    (∀ (u v:Array Value) (w:World) (b:Bool),(Op.equalIn 10000 t (.agg u) (.agg v)).run P w = .ok b w->(binOp op t (.agg u) (.agg v)).run P w = .ok (.bool (c b)) w) ->
    (g=true->∀ (β:Nat->Option Nat) (S:Nat->Prop) (h:Nat->Option Ob) (w:World) (tm:Nat->Value) (us vs:Nat->Value),(∀ (i:Nat) (x:AV),xs[i]? = some x->RdA β S h w tm (us i) x)->(∀ (i:Nat) (x:AV),ys[i]? = some x->RdA β S h w tm (vs i) x) ->
     ∀ (j:Nat) (kd:Kd) (b:Bool),ks[j]? = some kd->bs[j]? = some b->CEq kd (us j) (vs j) b)->∃ dl,k dl=some r/\(g=true->GQ P E o ev hl dl):=by
   intro c bs hk h2 h3 h4 a8 h5;refine ⟨_,hk,fun hg=>Qk fun β S st a w hR hO hA=>?_⟩;obtain ⟨us,hx,bx,bj⟩:=(ak▸hO.at aw).ag_inv;obtain ⟨vs,hy,bp,bb⟩:=(aj▸hO.at au).ag_inv;obtain ⟨e1,e2⟩:=hE w us vs bs (by omega) (by omega) h2 (h5 hg β S _ w _ (fun j=>us.getD j undef) (fun j=>vs.getD j undef) bj bb);refine ⟨.bool (c (Q9I bs)),Ew ho hx hy (run_eqGuard_agg w op t x y us vs e2) ?_,.d _ _ (.bool _)⟩;rw [Q67];exact a8 us vs w _ e1
  split at h
  ·obtain ⟨bs,h1,h2,h3,h4,h5⟩:=CW h;exact key (fun b=>b) bs h1 h2 h3 h4 (fun u v w b hb=>by rw [run_eql_struct,hb];rfl) h5
  ·obtain ⟨bs,h1,h2,h3,h4,h5⟩:=CW h;exact key (fun b=>!b) bs h1 h2 h3 h4 (fun u v w b hb=>by rw [run_neq_struct,hb];rfl) h5
  ·cases h
 ·cases h
theorem Q3L {tt:TT} (hT:TOk P tt) {o:Oper} {s t:TypeId} {x:Operand} (ho:o.op = .convert s t x) {ev:Operand->AV} {hl:Nat->Option Ob} {ks kd kn:IntKind} {n:Int}
  (hs:TJ tt s = .int ks) (ht:TJ tt t = .int kd) (hx:ev x = .d (.int kn n)):GQ P E o ev hl ⟨.d (.int kd (kd.wrap n)),[],[]⟩:=by
 obtain ⟨ti,aq,ao⟩:=Xt hs (by simp);obtain ⟨an,ak,aj⟩:=Xt ht (by simp);have az:=(hT s ti aq).kint _ ao;have ay:=(hT t an ak).kint _ aj;refine Qk fun β S st a w hR hO hA=>?_
 have hv:=(hx▸hO.at (x:=x) (by simp [ho,Op.operands])).int_inv;refine ⟨_,?_,.d _ _ (.int _ _)⟩
 simp_all [execOp,convert,QN,Conv.intToInt]
theorem Q1s {tt:TT} (hT:TOk P tt) {o:Oper} {s t:TypeId} {x:Operand} (ho:o.op = .convert s t x) {ev:Operand->AV} {hl:Nat->Option Ob} {n:List UInt8}
  (hs:TJ tt s = .str) (ht:TJ tt t = .str) (hx:ev x = .d (.str n)):GQ P E o ev hl ⟨.d (.str n),[],[]⟩:=by
 obtain ⟨ti,aq,ao⟩:=Xt hs (by simp);obtain ⟨an,ak,aj⟩:=Xt ht (by simp);have ax:=(hT s ti aq).kstr ao;have aw:=(hT t an ak).kstr aj;refine Qk fun β S st a w hR hO hA=>?_
 obtain ⟨bs,hn,hv⟩:=(hx▸hO.at (x:=x) (by simp [ho,Op.operands])).str_inv;refine ⟨.string bs,?_,.d _ _ (by rw [hn];exact .str _)⟩
 simp_all [execOp,convert,QN]
theorem Q2J {o:Oper} {x:Operand} {i:Nat} (ho:o.op = .extract x i) {ev:Operand->AV} {hl:Nat->Option Ob} {l:List AV} {v:AV} (hx:ev x = .tup l) (hv:l[i]? = some v) :
  GQ P E o ev hl ⟨v,[],[]⟩:=by
 refine Qk fun β S st a w hR hO hA=>?_
 obtain ⟨cs,he,an,hr⟩:=(hx▸hO.at (x:=x) (by grind [Op.operands])).tup_inv;refine ⟨_,?_,hr i v hv⟩;have aj:i<cs.size:=by
  grind
 simp_all [Hp,execOp,Instr.extract,QhX]
theorem Q7t {o:Oper} {s:Nat} {x y:Operand} (ho:o.op = .pick (.tmp s) x y) {ev:Operand->AV} {hl:Nat->Option Ob} {e a0 b0:Bool}
  (he:ev (.tmp s) = .d (.bool e)) (hx:unw [(s,true)] (ev x) = .d (.bool a0)) (hy:unw [(s,false)] (ev y) = .d (.bool b0)) :
  GQ P E o ev hl ⟨.d (.bool (bif e then a0 else b0)),[],[]⟩:=by
 refine Qk fun β S st a w hR hO hA=>?_
 have hc:=(he▸hO.at (x:=.tmp s) (by grind [Op.operands])).bool_inv;have hX:=hO.at (x:=x) (by simp [ho,Op.operands]);have hY:=hO.at (x:=y) (by simp [ho,Op.operands]);have key:∀ (z:Operand) (t c:Bool),unw [(s,t)] (ev z) = .d (.bool c)->RdA β S (look st.h) w (tmv a) (a.eval z) (ev z)->e=t->a.eval z = .bool c:=by
  intro z t c hu hz ax;cases ak:ev z with
  |gd s' w' av=>
   rw [ak] at hu hz;simp only [unw,QcF,Bool.or_false] at hu;cases hm:(Nat.beq s s'&&(t == w')) with
   |false=>simp_all
   |true=>
    simp only [hm,QhY] at hu;simp only [QhV,beq_iff_eq] at hm;obtain ⟨h1,rfl⟩:=hm;obtain rfl:=QhW h1;subst hu;have a2:tmv a s = .bool t:=by
     have:tmv a s=a.eval (.tmp s):=rfl
     simp_all
    rcases hz.gd_inv with ⟨_,hv⟩ | ⟨aq,_⟩
    ·exact hv.bool_inv
    simp_all
  |d x'=>rw [ak] at hu hz;simp only [unw] at hu;rw [hu] at hz;exact hz.bool_inv
  |_=>rw [ak] at hu;simp [unw] at hu
 refine ⟨.bool (bif e then a0 else b0),?_,.d _ _ (.bool _)⟩;unfold execOp;rw [ho];cases e with
 |true=>simp [hc,asBool,key x true a0 hx hX rfl]
 |false=>simp [hc,asBool,key y false b0 hy hY rfl]
theorem Q7G {kd:Kd} (h:SJ kd=true):kd = .struct:=by cases kd <;> simp [SJ] at h;rfl
theorem Q5g {tt:TT} (hT:TOk P tt) {t f off ft:Nat} {ti:TyI} (ak:look tt t=some ti) (hs:SJ ti.kd=true) (hf:ti.fields[f]? = some (off,ft)) :
  ∃ fs fd,P.underlying t=some (.struct fs)/\fs[f]? = some fd/\fd.offset=off/\fd.type=ft/\∃ i,P.info? fd.type=some i/\i.size≠0:=by
 obtain ⟨fs,hu,an,aq⟩:=(hT t ti ak).kstruct (Q7G hs);rw [<- an,Qi4,QhZ] at hf;obtain ⟨fd,ao,he⟩:=hf;injection he with he1 he2
 exact ⟨fs,fd,hu,by simp_all,he1,he2,aq fd (Qi2 ao)⟩
theorem Ab {tt:TT} (hT:TOk P tt) {o:Oper} {t:TypeId} {x:Operand} {f:Nat} (ho:o.op = .fieldAddr t x f) {ev:Operand->AV} {hl:Nat->Option Ob} {k:Dl->Option R} {r:R}
  (h:EI tt hl t f (ev x) k=some r):∃ dl,k dl=some r/\GQ P E o ev hl dl:=by
 have an:x∈o.op.operands.toList:=by grind [Op.operands]
 unfold EI at h;split at h
 case h_2=>cases h
 rename_i ti au;cases hs:SJ ti.kd with
 |false=>simp_all
 |true=>
  simp only [hs,QhY] at h;split at h
  case h_2=>cases h
  rename_i off ft hf;obtain ⟨fs,fd,hu,a3,aw,_,i,hi,ax⟩:=Q5g hT au hs hf;have ak:∀ (a:Act) (w:World) (ad:Addr),a.eval x = .pointer (some ad)->(execOp a.eval o).run P w = .ok (.value (.pointer (some (ad.add off)))) w:=by
   simp_all [execOp,Instr.fieldAt,QN,Instr.sureAddr,fieldPlace,sizeOf,Yl]
  split at h
  ·rename_i l o' aj;refine ⟨_,h,Qk fun β S st a w hR hO hA=>?_⟩;obtain ⟨b,hb,hx⟩:=(aj▸hO.at an).ptr_inv;exact ⟨_,ak a w _ hx,by rw [KZ];exact .ptr _ _ _ hb⟩
  ·rename_i row o' aj;refine ⟨_,h,Qk fun β S st a w hR hO hA=>?_⟩;obtain ⟨ad,c,hx,hS,hc,hr⟩:=(aj▸hO.at an).el_inv;refine ⟨_,ak a w _ hx,.el _ _ _ (fun j=>c (off+j)) (by rw [Jt];exact hS) (fun j y hy=>?_) (fun j y hy=>?_)⟩
   all_goals grind [CC,Nat.add_assoc]
  ·rename_i l i' o' aj;split at h
   ·rename_i e s rows aq;refine ⟨_,h,Qk fun β S st a w hR hO hA=>?_⟩;have ar:look st.h l=some (.arr e s rows):=by rw [hA l (.inl (by simp))];exact aq
    obtain ⟨b,hb,hx⟩:=RdA.ap_inv ar (aj▸hO.at an);exact ⟨_,ak a w _ hx,by rw [KZ,Qio];exact .ap _ _ _ _ _ _ _ hb ar⟩
   ·cases h
  ·cases h
theorem Q1W {t:Nat} {ti:TyI} (ht:TyOk P t ti) (hs:V8 ti.kd=false) {w:World} {cs:Array Value} {off:Nat} {v:Value} (hc:cs[off]? = some v) :
  (part t cs off).run P w = .ok v w:=by
 simp only [part,QhX,ht.agg,hs,QhT,Bool.false_eq_true,if_false,hc];rfl
theorem Q1Z {t:Nat} {ti:TyI} (ht:TyOk P t ti) (hs:V8 ti.kd=true) {w:World} {cs:Array Value} {off:Nat} :
  (part t cs off).run P w = .ok (.agg (cs.extract off (off+ti.size))) w:=by
 simp only [part,QhX,ht.agg,hs,QhT,if_true,ht.size];rfl
theorem Q6T {tt:TT} (hT:TOk P tt) {o:Oper} {t:TypeId} {x:Operand} {f:Nat} (ho:o.op = .field t x f) {g:Bool} {ev:Operand->AV} {hl:Nat->Option Ob} {k:Dl->Option R} {r:R}
  (h:Q9b tt g t f (ev x) k=some r):∃ dl,k dl=some r/\(g=true->GQ P E o ev hl dl):=by
 have aq:x∈o.op.operands.toList:=by grind [Op.operands]
 unfold Q9b at h;split at h
 case h_2=>cases h
 rename_i ti a4;cases hs:SJ ti.kd with
 |false=>simp_all
 |true=>
  simp only [hs,QhY] at h;split at h
  case h_2=>cases h
  rename_i off ft hf;obtain ⟨fs,fd,hu,bl,bc,bk,i,hi,bg⟩:=Q5g hT a4 hs hf;split at h
  case h_2=>cases h
  rename_i fi a6;have an:=hT ft fi a6;split at h
  case h_2=>cases h
  rename_i cells au;have ao:∀ (a:Act) (w:World) (cs:Array Value) (v:Value),a.eval x = .agg cs->(part ft cs off).run P w = .ok v w->(execOp a.eval o).run P w = .ok (.value v) w:=by
   simp_all [execOp,Instr.field,QN,asAgg]
  cases ak:V8 fi.kd with
  |true=>
   simp only [ak,QhY] at h;split at h
   ·rename_i cs a5;refine ⟨_,h,fun _=>Qk fun β S st a w hR hO hA=>?_⟩;obtain ⟨vs,hx,a2,hr⟩:=(au▸hO.at aq).ag_inv;obtain ⟨h1,h2,h3⟩:=SY a5;refine ⟨_,ao a w vs _ hx (Q1Z an ak),?_⟩;have ax:fi.size=0\/off+fi.size<=vs.size:=by
     rcases Nat.eq_zero_or_pos fi.size with h0 | h0
     ·exact .inl h0
     ·right;have h4:=h2 (fi.size-1) (by omega);have h5:cs[fi.size-1]? = some (cs[fi.size-1]'(by omega)):=Qi9 (by omega);rw [h5] at h4;obtain ⟨h6,_⟩:=QhU.1 h4;omega
    refine .ag _ _ (by rw [h1,Array.size_extract];rcases ax with h | h <;> omega) fun j y hy=>?_
    have hj:j<fi.size:=by obtain ⟨h6,_⟩:=QhU.1 hy;omega
    have:=hr (off+j) y ((h2 j hj).trans hy);have he:(vs.extract off (off+fi.size)).getD j undef=vs.getD (off+j) undef:=by
     have ar:off+j<vs.size:=by rcases ax with h | h <;> omega
     have aw:j<(vs.extract off (off+fi.size)).size:=by rw [Array.size_extract];omega
     simp only [Array.getD,ar,aw,dite_true];simp
    simp_all
   ·cases h
  |false=>
   simp only [ak,cond_false] at h;split at h
   ·rename_i c hc;obtain ⟨v,a3,ay,_⟩:=Ci h;refine ⟨_,a3,fun hg=>Qk fun β S st a w hR hO hA=>?_⟩;obtain ⟨vs,hx,a2,hr⟩:=(au▸hO.at aq).ag_inv;have ar:off<vs.size:=by obtain ⟨h6,_⟩:=QhU.1 hc;omega
    exact ⟨_,ao a w vs _ hx (Q1W an ak (Hp ar)),by rw [ay hg];exact hr off c hc⟩
   ·cases h
end
end Go.Vx
namespace Go.Vx
section
variable {P:Program} {E:Env} {R:Type}
theorem Rd.sl_inv {S:Nat->Prop} {w:World} {v:Value} {s:Nat} {rows:List (List D)} (h:Rd S w v (.sl s rows)) :
  (rows=[]/\∃ a cap,v = .slice a 0 cap)\/∃ (ad:Addr) (cap:Nat) (c:Nat->Nat->Value),v = .slice (some ad) rows.length cap/\S ad.block/\rows.length<=cap/\(∀ (i:Nat) (r:List D),rows[i]? = some r->r.length=s) /\
   (∀ (i j:Nat) (r:List D) (x:D),rows[i]? = some r->r[j]? = some x->w.cell? (ad.add (i*s+j))=some (c i j))/\∀ (i j:Nat) (r:List D) (x:D),rows[i]? = some r->r[j]? = some x->Rd S w (c i j) x:=by
 cases h with
 |sl0 a cap=>simp_all
 |sl ad cap _ _ c hS aj ak hc hr=>exact .inr ⟨ad,cap,c,rfl,hS,aj,ak,hc,hr⟩
theorem Rd.len {S:Nat->Prop} {w:World} {v:Value} {s:Nat} {rows:List (List D)} (h:Rd S w v (.sl s rows)):∃ a cap,v = .slice a rows.length cap:=by
 rcases h.sl_inv with ⟨rfl,a,cap,rfl⟩ | ⟨ad,cap,_,rfl,_⟩
 all_goals simp
theorem FM {rows:List (List D)} {n:Int} {row:List D} (h:Q1 rows n=some row):0<=n/\n<rows.length/\rows[n.toNat]? = some row:=by
 grind [Q1]
theorem Q5N {len:Nat} {n:Int} {u:Unit} (h:inB len n=some u):0<=n/\n<len:=by
 grind [inB,decide]
theorem FG {tt:TT} (hT:TOk P tt) {o:Oper} {t:TypeId} {x i:Operand} (ho:o.op = .indexAddr t x i) {e aj:Nat} (hk:TJ tt t = .sl e aj) {a:Act} {w:World} {ad:Addr} {len cap:Nat} {ik:IntKind} {n:Int}
  (hx:a.eval x = .slice (some ad) len cap) (hi:a.eval i = .int ik n) (h0:0<=n) (h1:n<len) :
  (execOp a.eval o).run P w = .ok (.value (.pointer (some (ad.add (n.toNat*aj))))) w:=by
 obtain ⟨ti,an,ak⟩:=Xt hk (by simp);obtain ⟨hu,_,inf,ao,au⟩:=(hT t ti an).ksl _ _ ak
 simp_all [execOp,Instr.indexAt,asIntOf,QN,sizeOf,Yl]
theorem Ae {tt:TT} (hT:TOk P tt) {o:Oper} {t:TypeId} {x i:Operand} (ho:o.op = .indexAddr t x i) {g:Bool} {ev:Operand->AV} {hl:Nat->Option Ob} {k:Dl->Option R} {r:R}
  (h:Ep tt g hl t (ev x) (ev i) k=some r):∃ dl,k dl=some r/\(g=true->GQ P E o ev hl dl):=by
 have ao:x∈o.op.operands.toList:=by grind [Op.operands]
 have au:i∈o.op.operands.toList:=by simp [ho,Op.operands]
 unfold Ep at h;split at h
 case h_2=>cases h
 rename_i e ay ik n hk ax;split at h
 ·rename_i s rows ak;cases hb:Nat.beq s ay with
  |false=>simp_all
  |true=>
   obtain rfl:=QhW hb;simp only [hb,QhY] at h;obtain ⟨row,h,aj⟩:=QM h;refine ⟨_,h,fun hg=>Qk fun β S st a w hR hO hA=>?_⟩;obtain ⟨h0,h1,h2⟩:=FM (aj hg);have hi:=(ax▸hO.at au).int_inv;rcases (ak▸hO.at ao).d_inv.sl_inv with ⟨rfl,_⟩ | ⟨ad,cap,c,hx,hS,_,a4,hc,hr⟩
   ·simp at h2
   refine ⟨_,FG hT ho hk hx hi h0 h1,.el _ _ _ (fun j=>c n.toNat j) (by grind [Jt]) (fun j y hy=>?_) (fun j y hy=>?_)⟩
   all_goals grind [CC]
 ·rename_i l ak;split at h
  ·rename_i e' s rows ar;cases hb:Nat.beq s ay with
   |false=>simp [hb] at h
   |true=>
    obtain rfl:=QhW hb;simp only [hb,QhY] at h;obtain ⟨u,h,az⟩:=QM h;refine ⟨_,h,fun hg=>Qk fun β S st a w hR hO hA=>?_⟩;obtain ⟨h0,h1⟩:=Q5N (az hg);have hi:=(ax▸hO.at au).int_inv;have aw:look st.h l=some (.arr e' s rows):=by rw [hA l (.inl (by simp))];exact ar
    rcases RdA.arr_inv aw (ak▸hO.at ao) with ⟨_,rfl,_⟩ | ⟨b,cap,cs,ty,fz,a2,hx,_⟩
    ·grind
    refine ⟨_,FG hT ho hk hx hi h0 h1,?_⟩;rw [KZ,Nat.zero_add];exact .ap l n.toNat 0 b e' s rows a2 aw
  ·cases h
 ·obtain ⟨row,h,aj⟩:=QM h;refine ⟨_,h,fun hg=>?_⟩;obtain ⟨_,h1,_⟩:=FM (aj hg);simp at h1;have:=(FM (aj hg)).1;omega
 ·cases h
theorem HK {tt:TT} (hT:TOk P tt) {o:Oper} {c:Call} {x:Operand} {t:Nat} {e an:Nat} (ho:o.op = .call c) (hc:c.callee = .builtin .len) (ha:c.args.toList=[x]) (hat:c.argTypes.toList=[t]) (hk:TJ tt t = .sl e an)
  {a:Act} {w:World} {ad:Option Addr} {len cap:Nat} (hx:a.eval x = .slice ad len cap):(execOp a.eval o).run P w = .ok (.value (.int .i64 len)) w:=by
 obtain ⟨ti,ak,aj⟩:=Xt hk (by simp);obtain ⟨hu,_⟩:=(hT t ti ak).ksl _ _ aj;have au:c.args = #[x]:=by grind
 have ao:c.argTypes = #[t]:=by rw [<- Array.toList_inj];simpa using hat
 simp_all [execOp,resolve,invoke,builtin,Builtin.len_,QN,goInt]
theorem Q4k {tt:TT} (hT:TOk P tt) {o:Oper} {c:Call} {x:Operand} {t:Nat} (ho:o.op = .call c) (hc:c.callee = .builtin .len) (ha:c.args.toList=[x]) (hat:c.argTypes.toList=[t]) (hk:TJ tt t = .str)
  {a:Act} {w:World} {s:ByteArray} (hx:a.eval x = .string s):(execOp a.eval o).run P w = .ok (.value (.int .i64 s.size)) w:=by
 obtain ⟨ti,ak,aj⟩:=Xt hk (by simp);have hu:=(hT t ti ak).kstr aj;have ao:c.args = #[x]:=by grind
 have an:c.argTypes = #[t]:=by grind
 simp_all [execOp,resolve,invoke,builtin,Builtin.len_,QN,goInt]
theorem Q4v {tt:TT} (hT:TOk P tt) {o:Oper} {c:Call} {x:Operand} {t:Nat} {e an:Nat} (ho:o.op = .call c) (hc:c.callee = .builtin .cap) (ha:c.args.toList=[x]) (hat:c.argTypes.toList=[t]) (hk:TJ tt t = .sl e an)
  {a:Act} {w:World} (hx:a.eval x = .slice none 0 0):(execOp a.eval o).run P w = .ok (.value (.int .i64 0)) w:=by
 obtain ⟨ti,ak,aj⟩:=Xt hk (by simp);obtain ⟨hu,_⟩:=(hT t ti ak).ksl _ _ aj;have aq:c.args = #[x]:=by grind
 have ao:c.argTypes = #[t]:=by grind
 simp_all [execOp,resolve,invoke,builtin,Builtin.cap_,QN,goInt]
end
end Go.Vx
namespace Go.Vx
section
variable {E:Env} {β β':Nat->Option Nat} {S S':Nat->Prop} {st:St} {a:Act} {w w':World}
theorem Q82 {l t:Nat} {tm:List (Nat × AV)} {av:AV} (h:look tm t=some av) (hn:WT l av=true):Bv l tm=true:=by
 induction tm with
 |nil=>trivial
 |cons x r ih=>
  grind [look,Nat.beq,Bv]
theorem Q7q {l t:Nat} {hs:List (Nat × Ob)} {cells:List AV} (h:look hs t=some (.box cells)) (hn:Gv l cells=true):Jg l hs=true:=by
 induction hs with
 |nil=>trivial
 |cons x r ih=>
  obtain ⟨k,b⟩:=x;simp only [look] at h;cases hk:Nat.beq k t with
  |true=>grind [Jg]
  |false=>simp [hk] at h;cases b <;> simp [Jg,ih h]
theorem Q5X {l t:Nat} {av:AV} (hc:Us st l=true) (h:look st.tm t=some av):WT l av=false:=by
 grind [WT,Us,Q82]
theorem Q8R {l t i:Nat} {cells:List AV} {x:AV} (hc:Us st l=true) (h:look st.h t=some (.box cells)) (hx:cells[i]? = some x):WT l x=false:=by
 grind [WT,Us,Q7q,Nd]
theorem Keep.rfl_ (β:Nat->Option Nat) (h:Nat->Option Ob) (w:World) (l:Nat):Keep β h w β h w l:=
 ⟨rfl,fun x=>x,fun _ _ rows hh=>.inr ⟨rows,hh,rfl⟩,fun _ cs ty fz _ _ hw=>⟨cs,ty,fz,hw,rfl⟩,fun _ f hh=>.inr ⟨f,hh⟩⟩
theorem Rel.upd (hR:Rel E β S st a w) {H':List (Nat × Ob)} (an:∀ b,S b->S' b) (aq:∀ b,S b->w'.heap[b]? = w.heap[b]?) (T:Nat->Prop)
  (hT:∀ l,¬ T l->β' l=β l/\look H' l=look st.h l/\∀ b,(look st.h l).isSome=true->β l=some b->w'.heap[b]? = w.heap[b]?)
  (ay:∀ l,T l->Keep β (look st.h) w β' (look H') w' l\/Us st l=true)
  (a6:∀ l o,T l->look H' l=some o->ObR β' S' (look H') w' l o)
  (inj:∀ l l' b,(look H' l).isSome=true->(look H' l').isSome=true->β' l=some b->β' l'=some b->l=l')
  (apart:∀ l b,(look H' l).isSome=true->β' l=some b->¬ S' b)
  (own:∀ l b,(look H' l).isSome=true->β' l=some b->E.M b\/E.w0.heap.size<=b)
  (sb:∀ b,S' b->b<w'.heap.size) (sfr:∀ b,S' b->E.S0 b\/E.M b\/E.w0.heap.size<=b) (fr:Fr E.M E.w0 w') :
  Rel E β' S' ⟨st.n,st.tm,H'⟩ a w':=by
 have aj:∀ l,Keep β (look st.h) w β' (look H') w' l\/Us st l=true:=by
  intro l;by_cases hl:T l
  ·exact ay l hl
  ·obtain ⟨h1,h2,h3⟩:=hT l hl;exact .inl ⟨h1,fun h=>by rw [h2];exact h,fun e s rows h=>.inr ⟨rows,by rw [h2];exact h,rfl⟩,fun b cs ty fz hs hb hw=>⟨cs,ty,fz,by rw [h3 b (by rw [<- h2];exact hs) hb];exact hw,rfl⟩,fun _ f h=>.inr ⟨f,by rw [h2];exact h⟩⟩
 have hA:∀ (tm:Nat->Value) (v:Value) (av:AV),(∀ l,Us st l=true->WT l av=false)->RdA β S (look st.h) w tm v av->RdA β' S' (look H') w' tm v av:=by
  intro tm v av hc hv;refine hv.mono an aq (fun l hn=>?_) (fun _ _=>rfl);rcases aj l with h | h
  ·exact h
  ·rw [hc l h] at hn;cases hn
 refine ⟨hR.n,hR.dfr,fun t av ht=>hA _ _ _ (fun l hc=>Q5X hc ht) (hR.tm t av ht),⟨?_,inj,apart,own,sb,sfr,fun b hb=>an b (hR.hr.s0 b hb),fr,fun l hp=>?_,fun l b hp hs hb cs ty fz hw=>?_⟩⟩
 rotate_left
 ·refine Eq.trans ?_ (hR.hr.pin l hp);rcases aj l with h | h
  ·exact h.b
  ·simp only [Us,QhV] at h;have:=Qi5 h.1;omega
 ·rcases aj l with h | h
  ·have ax:(look st.h l).isSome=true:=by
    cases hx:look st.h l with
    |some o=>rfl
    |none=>rw [h.none_ hx] at hs;cases hs
   rw [h.b] at hb;obtain ⟨a2,a3,fz1,g1,g2⟩:=hR.hr.psz l b hp ax hb cs ty fz hw;obtain ⟨au,a5,a7,g3,g4⟩:=h.cells b a2 a3 fz1 hs hb g1;exact ⟨au,a5,a7,g3,g4.trans g2⟩
  ·simp only [Us,QhV] at h;have:=Qi5 h.1;omega
 intro l o ho;by_cases hl:T l
 ·exact a6 l o hl ho
 ·obtain ⟨h1,h2,h3⟩:=hT l hl;rw [h2] at ho;have ak:=hR.hr.ob l o ho;cases o with
  |box cells=>
   obtain ⟨b,ty,cs,fz,hb,hw,hf,ao,hr⟩:=ak;exact ⟨b,ty,cs,fz,h1.trans hb,(h3 b (by simp [ho]) hb).trans hw,hf,ao,fun i x hx=>hA _ _ _ (fun l' hc=>Q8R hc ho hx) (hr i x hx)⟩
  |arr e s rows=>
   rcases ak with ⟨hb,hn⟩ | ⟨b,cs,hb,hw,ao,az,hr⟩
   ·exact .inl ⟨h1.trans hb,hn⟩
   ·refine .inr ⟨b,cs,h1.trans hb,(h3 b (by simp [ho]) hb).trans hw,ao,az,fun i j r x h4 h5=>?_⟩;obtain ⟨v,hv,aw⟩:=hr i j r x h4 h5;exact ⟨v,hv,aw.mono an aq⟩
  |mp t f=>
   obtain ⟨b,hb,hm⟩:=ak;exact ⟨b,h1.trans hb,hm.same (h3 b (by simp [ho]) hb)⟩
theorem Rt (hR:Rel E β S st a w) {l b:Nat} (hs:(look st.h l).isSome=true) (hb:β l=some b):b<w.heap.size:=by
 cases ho:look st.h l with
 |none=>simp_all
 |some o=>
  have aj:=hR.hr.ob l o ho;have:∃ c,w.heap[b]? = some c:=by
   cases o with
   |box cells=>
    obtain ⟨b',ty,cs,fz,ak,hw,_⟩:=aj
    simp_all
   |arr e s rows=>
    rcases aj with ⟨ak,_⟩ | ⟨b',cs,ak,hw,_⟩
    all_goals grind
   |mp t f=>
    obtain ⟨b',ak,es,an,hw,_⟩:=aj
    simp_all
  grind
theorem Zh (w:World) (o:Obj) {b:Nat} (h:b<w.heap.size):(w.alloc o).heap[b]? = w.heap[b]?:=by
 show (w.heap.push o)[b]? = _
 grind
theorem VY (w:World) (o:Obj):(w.alloc o).heap[w.heap.size]? = some o:=by
 show (w.heap.push o)[w.heap.size]? = _;simp
theorem Q6l {M:Nat->Prop} {w0 w:World} (h:Fr M w0 w) (o:Obj):Fr M w0 (w.alloc o):=
 h.trans ⟨rfl,rfl,rfl,by show w.heap.size<=(w.heap.push o).size;simp,fun b hb _=>Zh w o hb⟩
def SQ (β:Nat->Option Nat) (l:Nat) (b:Option Nat):Nat->Option Nat:=fun k=>if k=l then b else β k
theorem Rel.new (hR:Rel E β S st a w) {l:Nat} {o:Ob} {aj:Obj} (hn:look st.h l=none) (hc:Us st l=true)
  (ao:ObR (SQ β l (some w.heap.size)) S (look ((l,o)::rem l st.h)) (w.alloc aj) l o) :
  Rel E (SQ β l (some w.heap.size)) S ⟨st.n,st.tm,(l,o)::rem l st.h⟩ a (w.alloc aj):=by
 have an:∀ k,look ((l,o)::rem l st.h) k=if k=l then some o else look st.h k:=fun k=>WL l k o st.h
 refine hR.upd (fun _ h=>h) (fun b hb=>Zh w aj (hR.hr.sb b hb)) (fun k=>k=l) (fun k hk=>?_) (fun k hk=>.inr (hk▸hc)) (fun k o' hk ho=>?_) ?_ ?_ ?_ ?_ hR.hr.sfr (Q6l hR.hr.fr aj)
 ·grind [SQ,Zh,Rt]
 ·simp_all
 ·intro k k' b h1 h2 h3 h4;rw [an] at h1 h2;unfold SQ at h3 h4;by_cases e:k=l <;> by_cases e':k'=l
  ·rw [e,e']
  ·rw [Qia e] at h3;rw [Qi6 e'] at h4 h2;injection h3 with h3
   have:=Rt hR h2 h4;omega
  ·rw [Qia e'] at h4;rw [Qi6 e] at h3 h1;injection h4 with h4
   have:=Rt hR h1 h3;omega
  ·rw [Qi6 e] at h3 h1;rw [Qi6 e'] at h4 h2;exact hR.hr.inj k k' b h1 h2 h3 h4
 ·intro k b h1 h2 hS;rw [an] at h1;unfold SQ at h2;by_cases e:k=l
  ·rw [Qia e] at h2;injection h2 with h2
   have:=hR.hr.sb b hS;omega
  ·rw [Qi6 e] at h2 h1;exact hR.hr.apart k b h1 h2 hS
 ·intro k b h1 h2;rw [an] at h1;unfold SQ at h2;by_cases e:k=l
  ·rw [Qia e] at h2;injection h2 with h2
   right;have:=hR.hr.fr.size;omega
  ·rw [Qi6 e] at h2 h1;exact hR.hr.own k b h1 h2
 ·intro b hb;have:=hR.hr.sb b hb;simp;omega
theorem Rel.set (hR:Rel E β S st a w) {l b:Nat} {o o':Ob} (ho:look st.h l=some o) (hb:β l=some b)
  (ak:∀ k,k≠b->w'.heap[k]? = w.heap[k]?) (ax:w'.os=w.os) (ao:w'.tape=w.tape) (au:w'.output=w.output) (ar:w'.heap.size=w.heap.size)
  (hk:Keep β (look st.h) w β (look ((l,o')::rem l st.h)) w' l) (a5:ObR β S (look ((l,o')::rem l st.h)) w' l o') :
  Rel E β S ⟨st.n,st.tm,(l,o')::rem l st.h⟩ a w':=by
 have a4:∀ k,look ((l,o')::rem l st.h) k=if k=l then some o' else look st.h k:=fun k=>WL l k o' st.h
 have aq:(look st.h l).isSome=true:=by simp [ho]
 have aj:∀ k,(look ((l,o')::rem l st.h) k).isSome=true->(look st.h k).isSome=true:=by
  grind
 refine hR.upd (fun _ h=>h) (fun k hS=>ak k (fun e=>?_)) (fun k=>k=l) (fun k hk=>?_) (fun k an=>.inl (an▸hk)) (fun k a3 an ay=>?_) ?_ ?_ ?_ ?_ hR.hr.sfr ?_
 ·subst e;exact hR.hr.apart l _ aq hb hS
 ·refine ⟨rfl,by simp_all,fun k' hs aw=>ak k' (fun e=>?_)⟩;subst e;exact hk (hR.hr.inj k l _ hs aq aw hb)
 ·simp_all
 ·exact fun k k' b' h1 h2 h3 h4=>hR.hr.inj k k' b' (aj k h1) (aj k' h2) h3 h4
 ·exact fun k b' h1 h2=>hR.hr.apart k b' (aj k h1) h2
 ·exact fun k b' h1 h2=>hR.hr.own k b' (aj k h1) h2
 ·intro k hS;rw [ar];exact hR.hr.sb k hS
 ·have fr:=hR.hr.fr;refine ⟨ax.trans fr.os,ao.trans fr.tape,au.trans fr.output,by rw [ar];exact fr.size,fun k an hM=>(ak k (fun e=>?_)).trans (fr.block k an hM)⟩;rcases hR.hr.own l _ aq hb with h | h
  all_goals grind
end
end Go.Vx
namespace Go.Vx
section
variable {P:Program} {E:Env} {R:Type}
theorem Bb {β:Nat->Option Nat} {S:Nat->Prop} {h:Nat->Option Ob} {w:World} {tm:Nat->Value} (v:Value):RdA β S h w tm v (Pb v):=by
 unfold Pb;split
 ·exact .d _ _ (.int _ _)
 ·exact .d _ _ (.bool _)
 ·exact .d _ _ (.str _)
 ·exact .nil
 ·exact .top _
theorem Q7V {β:Nat->Option Nat} {S:Nat->Prop} {h:Nat->Option Ob} {w:World} {tm:Nat->Value} {v:Value} {av:AV} (hv:RdA β S h w tm v av) (ho:Q1S av=true):v.oneCell'=true:=by
 cases hv <;> simp [Q1S] at ho <;> try rfl
 ·rename_i hx;cases hx <;> rfl
 ·assumption
theorem D2 {av:AV} (ho:Q1S av=true):AK av=true:=by
 cases av with
 |fn f l=>assumption
 |_=>trivial
theorem Q8x {v:Value} (h:v.oneCell'=true):v.cells = #[v]:=by cases v <;> simp [Value.oneCell'] at h <;> rfl
theorem RdA.to_tm0 {β:Nat->Option Nat} {S:Nat->Prop} {h:Nat->Option Ob} {w:World} {tm:Nat->Value} {v:Value} {av:AV} (hg:AK av=true) (hv:RdA β S h w tm v av):RdA β S h w tm0 v av:=by
 refine RdA.mono hv (fun _ hb=>hb) (fun _ _=>rfl) (fun l _=>Keep.rfl_ ..) (fun t ht=>?_)
 grind [Sl]
theorem NR {β:Nat->Option Nat} {S:Nat->Prop} {h:Nat->Option Ob} {w:World} {tm:Nat->Value} {v:Value} {av:AV} (hv:RdA β S h w tm v av) (ho:(XN av).all Q1S=true) :
  v.cells.size=(XN av).length/\(∀ (i:Nat) (x:AV),(XN av)[i]? = some x->RdA β S h w tm (v.cells.getD i undef) x)/\∀ u∈v.cells.toList,u.oneCell'=true:=by
 cases av with
 |ag l=>
  obtain ⟨cs,rfl,ao,hr⟩:=hv.ag_inv;refine ⟨ao,hr,fun u hu=>?_⟩;obtain ⟨i,hi,rfl⟩:=List.getElem_of_mem hu;have an:i<cs.size:=by assumption
  have h1:l[i]? = some (l[i]'(by omega)):=Qi9 (by omega);have h2:=hr i _ h1;have h3:Q1S (l[i]'(by omega))=true:=by
   grind [XN,List.all_eq_true,List.getElem_mem]
  have h4:=Q7V h2 h3;have h5:cs.getD i undef=cs[i]:=by simp [Array.getD,an]
  grind [Value.cells]
 |fs s rows=>
  obtain ⟨ad,rfl,hr⟩:=hv.fs_inv;refine ⟨rfl,fun i x hx=>?_,fun u hu=>?_⟩
  ·cases i with
   |zero=>simp [XN] at hx;subst hx;exact .d _ _ hr
   |succ i=>trivial
  ·simp [Value.cells] at hu;subst hu;rfl
 |_=>
  all_goals
   simp only [XN,List.all_cons,List.all_nil,Bool.and_true] at ho
   first
    |have h1:=Q7V hv ho
     rw [Q8x h1];refine ⟨rfl,fun i x hx=>?_,fun u hu=>?_⟩
     ·cases i with
      |zero=>simp [XN] at hx;subst hx;simpa [Array.getD] using hv
      |succ i=>simp [XN] at hx
     simp_all
    |(simp [Q1S] at ho)
theorem UR {hl:Nat->Option Ob} {aj:Nat} {o:Ob} {v:AV} {wr:List (Nat × Option Ob)} {rd:List Nat} {k:Dl->Option R} {r:R} (h:FZ hl aj o v wr rd k=some r) :
  hl aj=none/\k ⟨v,wr++[(aj,some o)],rd⟩=some r:=by
 grind [FZ]
theorem Qcx (n:Nat):QgJ n (0,0):=fun _ _ h=>by omega
theorem CT {o:Oper} {ev:Operand->AV} {hl:Nat->Option Ob} {aj:Nat} {cells:List AV} {ty:TypeId} (hn:hl aj=none) (au:Q6y ty cells)
  (h:∀ β S st a w,Rel E β S st a w->Cz β S st a w o ev->∃ cs:Array Value,(execOp a.eval o).run P w = .ok (.value (.pointer (some ⟨w.heap.size,0,none⟩))) (w.alloc (.cells cs ty))/\cs.size=cells.length /\
   ∀ (i:Nat) (x:AV),cells[i]? = some x->AK x=true/\((RdA β S (look st.h) w (tmv a) (cs.getD i undef) x/\(Us st aj=true->WT aj x=false))\/∃ t,x = .sa aj t/\cs.getD i undef = .pointer none)) :
  GQ P E o ev hl ⟨.ptr aj 0,[]++[(aj,some (.box cells))],[]⟩:=by
 intro β S st a w hR hO hA a4 K Q hK;obtain ⟨cs,an,aq,aw⟩:=h β S st a w hR hO;have ax:look st.h aj=none:=by rw [hA aj (.inr (by simp [wrL]))];exact hn
 have hc:Us st aj=true:=by grind [We]
 unfold Oper.wp;rw [an];refine hK _ _ ⟨SQ β aj (some w.heap.size),S,?_,?_⟩
 ·refine hR.new ax hc ⟨w.heap.size,ty,cs,(0,0),by simp [SQ],VY _ _,⟨Qcx _,au⟩,aq,fun i x hx=>?_⟩;obtain ⟨h1,ay⟩:=aw i x hx;rcases ay with ⟨h2,h3⟩ | ⟨t,rfl,hp⟩
  case inr=>exact .sa _ _ _ w.heap.size (by simp [SQ]) (.inl hp)
  refine (h2.to_tm0 h1).mono (fun _ hb=>hb) (fun b hb=>Zh _ _ (hR.hr.sb b hb)) (fun l a3=>?_) (fun _ _=>rfl);have ak:l≠aj:=fun e=>by simp_all
  exact ⟨by simp [SQ,ak],fun h=>by rw [WL,Qi6 ak];exact h,fun e s rows h=>.inr ⟨rows,by rw [WL,Qi6 ak];exact h,rfl⟩,
   fun b ar ao fz hs hb hw=>⟨ar,ao,fz,by rw [Zh _ _ (Rt hR (by rw [WL,Qi6 ak] at hs;exact hs) hb)];exact hw,rfl⟩,fun _ f h=>.inr ⟨f,by rw [WL,Qi6 ak];exact h⟩⟩
 ·exact .ptr _ _ _ (by simp [SQ])
theorem Bf (l:Nat) (v:Value):WT l (Pb v)=false:=by
 unfold Pb;split <;> rfl
theorem Q6x (v:Value):AK (Pb v)=true:=by
 unfold Pb;split <;> rfl
theorem Q7d {tt:TT} (hT:TOk P tt) {o:Oper} {t:TypeId} (ho:o.op = .alloc t) {ev:Operand->AV} {hl:Nat->Option Ob} {aj:Nat} {ti:TyI} (ar:look tt t=some ti) (hn:hl aj=none) :
  GQ P E o ev hl ⟨.ptr aj 0,[]++[(aj,some (.box (Q0l aj t ti)))],[]⟩:=by
 obtain ⟨inf,aw,_,_,z,hz,au⟩:=(hT t ti ar).inf;have ao:Q6y t (Q0l aj t ti):=by
  intro i l t' hi;simp only [Q0l,Qi4,QhZ] at hi;obtain ⟨v,_,hv⟩:=hi;unfold Q4X at hv;split at hv
  ·injection hv
  ·unfold Pb at hv
   grind
 refine CT (ty:=t) hn ao fun β S st a w hR hO=>⟨z.cells,?_,?_,fun i x hx=>?_⟩
 ·simp_all [execOp,Instr.alloc,zeroValue,Yl,newVar,newRow]
 ·grind [Array.length_toList,Q0l]
 ·simp only [Q0l,Qi4,QhZ] at hx;obtain ⟨v,hv,rfl⟩:=hx;have:z.cells.getD i undef=v:=by
   rw [<- au] at hv;obtain ⟨hi,he⟩:=QhU.1 hv;have aq:i<z.cells.size:=by omega
   simp only [Array.getD,aq,dite_true]
   assumption
  rw [this];unfold Q4X;split
  ·exact ⟨rfl,.inr ⟨t,rfl,rfl⟩⟩
  grind [Q6x,Bb,Bf]
theorem Q0p {st:St} {aj:Nat} (hc:Us st aj=true) (x:Operand):WT aj (evO st.tm x)=false:=by
 cases x with
 |tmp t=>
  simp only [evO,lkT];cases h:look st.tm t with
  |none=>rfl
  |some av=>grind [Q5X]
 |const v=>exact Bf aj v
 |_=>rfl
theorem Q2t {l i:Nat} {r:List AV} {x:AV} (h:r[i]? = some x) (hn:Gv l r=false):WT l x=false:=by
 grind [WT,Nd]
theorem Am {l:Nat} {av:AV} (h:WT l av=false):Gv l (XN av)=false:=by
 cases av <;> simp_all [XN,Gv,WT]
theorem Q9Z {o:Oper} {t:TypeId} {x:Operand} (ho:o.op = .box t x) {ev:Operand->AV} {hl:Nat->Option Ob} {ak:Nat} (aj:(XN (ev x)).all Q1S=true) (hn:hl ak=none) :
  GQ P E o ev hl ⟨.ptr ak 0,[]++[(ak,some (.box (XN (ev x))))],[]⟩:=by
 have an:x∈o.op.operands.toList:=by grind [Op.operands]
 have ao:Q6y t (XN (ev x)):=by
  intro i l t' hi;rw [Qid] at aj;have:=aj _ (Qi2 hi);trivial
 refine CT (ty:=t) hn ao fun β S st a w hR hO=>?_
 obtain ⟨h1,h2,_⟩:=NR (hO.at an) aj;refine ⟨(a.eval x).cells,?_,h1,fun i y hy=>⟨?_,.inl ⟨h2 i y hy,fun hc=>Q2t hy (Am (hO.nm an hc))⟩⟩⟩
 ·simp_all [execOp,Instr.box,newVar,newRow]
 grind [List.all_eq_true,D2,List.mem_of_getElem?]
structure Wrote (b:Nat) (cs:Array Value) (ty:TypeId) (fz:Nat × Nat) (w w':World):Prop where
 blk:w'.heap[b]? = some (.cells cs ty fz)
 oth:∀ k,k≠b->w'.heap[k]? = w.heap[k]?
 os:w'.os=w.os
 tape:w'.tape=w.tape
 output:w'.output=w.output
 size:w'.heap.size=w.heap.size
theorem Q96 {w:World} {b o:Nat} {cs:Array Value} {ty:TypeId} {fz:Nat × Nat} (h:w.heap[b]? = some (.cells cs ty fz)) (v:Value):Wrote b (cs.setIfInBounds o v) ty fz w (w.setCell ⟨b,o,none⟩ v):=by
 refine ⟨?_,fun k hk=>?_,rfl,rfl,rfl,by simp_all⟩
 ·simp [World.setCell,Array.getElem?_modify,h]
 ·simp only [World.setCell,Array.getElem?_modify]
  grind
theorem Wrote.trans {b:Nat} {cs ak:Array Value} {ty:TypeId} {fz:Nat × Nat} {w w' an:World} (h:Wrote b cs ty fz w w') (h':Wrote b ak ty fz w' an):Wrote b ak ty fz w an:=
 ⟨h'.blk,fun k hk=>(h'.oth k hk).trans (h.oth k hk),h'.os.trans h.os,h'.tape.trans h.tape,h'.output.trans h.output,h'.size.trans h.size⟩
def Tj (cs:Array Value):Nat->List Value->Array Value
 |_,[]=>cs
 |o,v::r=>Tj (cs.setIfInBounds o v) (o+1) r
theorem U3:∀ (vs:List Value) (cs:Array Value) (o:Nat),(Tj cs o vs).size=cs.size
 |[],_,_=>rfl
 |v::r,cs,o=>by simp [Tj,U3 r]
theorem S6:∀ (vs:List Value) (cs:Array Value) (o j:Nat),o+vs.length<=cs.size->(Tj cs o vs)[j]? = if o<=j/\j<o+vs.length then vs[j-o]? else cs[j]?
 |[],cs,o,j,_=>by simp [Tj];intro h1 h2;omega
 |v::r,cs,o,j,h=>by
  simp only [Qij] at h;rw [Tj,S6 r _ (o+1) j (by simp;omega)];simp only [Qij];by_cases h1:o+1<=j/\j<o+1+r.length
  ·rw [Qia h1,Qia (by omega)];rw [show j-o=(j-(o+1))+1 from by omega];simp
  ·rw [Qi6 h1];by_cases h2:j=o
   ·subst h2;rw [Qia (by omega)];simp [Array.getElem?_setIfInBounds];omega
   ·rw [Qi6 (by omega)];rw [Array.getElem?_setIfInBounds,Qi6 (by omega)]
theorem G9 (b o:Nat) (ty:TypeId) (fz:Nat × Nat):∀ (vs:List Value) (i:Nat) (cs:Array Value) (w:World),w.heap[b]? = some (.cells cs ty fz)->QgJ cs.size fz->o+i+vs.length<=cs.size->(∀ v∈vs,v.oneCell'=true) ->
  ∃ w',(storeCells ⟨b,o,none⟩ vs i).run P w = .ok () w'/\Wrote b (Tj cs (o+i) vs) ty fz w w'
 |[],i,cs,w,h,_,_,_=>⟨w,by rfl,⟨h,fun _ _=>rfl,rfl,rfl,rfl,rfl⟩⟩
 |v::r,i,cs,w,h,hf,ao,h1=>by
  simp only [Qij] at ao;have ak:o+i<cs.size:=by omega
  have an:w.cell? ⟨b,o+i,none⟩=some (cs.getD (o+i) undef):=by rw [J3 h];simp_all
  have aw:w.frozen? ⟨b,o+i,none⟩=false:=by
   have:=hf (o+i) ak
   grind [World.frozen?]
  have ar:=run_store P w ⟨b,o+i,none⟩ v .plain (h1 v (by simp));have hw:=Q96 (o:=o+i) h v;obtain ⟨w',aq,aj⟩:=G9 b o ty fz r (i+1) (cs.setIfInBounds (o+i) v) (w.setCell ⟨b,o+i,none⟩ v) hw.blk (by simp_all) (by simp;omega) (fun u hu=>h1 u (by simp [hu]));refine ⟨w',?_,hw.trans aj⟩
  grind [storeCells,Sem.run_bind,KZ,Result.andThen_ok]
theorem Sc:∀ {vs cells cs:List AV} {off:Nat},Nz cells off vs=some cs->cs.length=cells.length/\vs.all Q1S=true/\(vs≠[]->off+vs.length<=cells.length) /\
  ∀ j:Nat,cs[j]? = if off<=j/\j<off+vs.length then vs[j-off]? else cells[j]?
 |[],cells,cs,off,h=>by
  simp [Nz] at h;subst h;refine ⟨rfl,rfl,fun h=>absurd rfl h,fun j=>?_⟩;rw [Qi6 (by simp)]
 |v::r,cells,cs,off,h=>by
  unfold Nz at h;cases hc:(Q1S v&&Nat.ble (off+1) cells.length) with
  |false=>simp [hc] at h
  |true=>
   simp only [hc,QhY] at h;simp only [QhV] at hc;have an:=Qi5 hc.2;obtain ⟨h1,h2,h3,h4⟩:=Sc h;simp only [List.length_set] at h1 h3;refine ⟨h1,by simp [hc.1,h2],fun _=>?_,fun j=>?_⟩
   ·by_cases hr:r=[]
    ·subst hr;simp;omega
    ·have:=h3 hr;simp;omega
   ·rw [h4 j];simp only [Qij];by_cases e1:off+1<=j/\j<off+1+r.length
    ·rw [Qia e1,Qia (by omega),show j-off=(j-(off+1))+1 from by omega];simp
    ·rw [Qi6 e1];by_cases e2:j=off
     ·subst e2;rw [Qia (by omega),Qie (by omega)];simp
     ·rw [Qi6 (by omega),Qif (by omega)]
end
end Go.Vx
namespace Go.Vx
section
variable {P:Program} {E:Env} {R:Type}
theorem Q0t {cs aj:Array Value} {i j:Nat} (h:cs[i]? = aj[j]?):cs.getD i undef=aj.getD j undef:=by
 simp_all
theorem RT {t:Nat} {ti:TyI} (ht:TyOk P t ti) {w w':World} {ad:Addr} {v:Value} (hs:v.cells.size=ti.size) (h:(storeCells ad v.cells.toList).run P w = .ok () w'):(storeVar t ad v).run P w = .ok () w':=by
 simp only [storeVar,QhX,ht.size,QhT]
 simp_all
theorem Nx {o:Oper} {t:TypeId} {x y:Operand} (ho:o.op = .store t x y) {a:Act} {w w':World} {ad:Addr} (hx:a.eval x = .pointer (some ad)) (hv:(storeVar t ad (a.eval y)).run P w = .ok () w') :
  (execOp a.eval o).run P w = .ok .skip w':=by
 simp_all [execOp,Instr.storeAt,Instr.sureAddr]
theorem BR:∀ {l:List AV} {ds:List D},Qcu l=some ds->l=ds.map .d
 |[],ds,h=>by simp [Qcu] at h;subst h;rfl
 |a::r,ds,h=>by
  cases a with
  |d x=>
   simp only [Qcu] at h;split at h
   ·rename_i l' aj;cases h;rw [BR aj];rfl
   ·cases h
  |_=>simp [Qcu] at h
theorem Q5i:∀ (ds:List D) (row:List D) (off j:Nat),off+ds.length<=row.length->(Qbt row off ds)[j]? = if off<=j/\j<off+ds.length then ds[j-off]? else row[j]?
 |[],row,off,j,_=>by simp [Qbt];intro h1 h2;omega
 |v::r,row,off,j,h=>by
  simp only [Qij] at h;rw [Qbt,Q5i r _ (off+1) j (by simp;omega)];simp only [Qij];by_cases h1:off+1<=j/\j<off+1+r.length
  ·rw [Qia h1,Qia (by omega),show j-off=(j-(off+1))+1 from by omega];simp
  ·rw [Qi6 h1];by_cases h2:j=off
   ·subst h2;rw [Qia (by omega),Qie (by omega)];simp
   ·rw [Qi6 (by omega),Qif (by omega)]
theorem BE:∀ (ds:List D) (row:List D) (off:Nat),(Qbt row off ds).length=row.length
 |[],_,_=>rfl
 |v::r,row,off=>by simp [Qbt,BE r]
theorem ET (ds:List D):(ds.map AV.d).all Q1S=true:=by
 grind [Q1S]
theorem Q6R {tt:TT} (hT:TOk P tt) {o:Oper} {t:TypeId} {x y:Operand} (ho:o.op = .store t x y) {ev:Operand->AV} {hl:Nat->Option Ob} {k:Dl->Option R} {r:R}
  (h:Q9c tt hl t (ev x) (ev y) k=some r):∃ dl,k dl=some r/\GQ P E o ev hl dl:=by
 have ca:x∈o.op.operands.toList:=by grind [Op.operands]
 have b1:y∈o.op.operands.toList:=by simp [ho,Op.operands]
 unfold Q9c at h;split at h
 case h_2=>cases h
 rename_i ti cw;have b7:=hT t ti cw;cases a3:Nat.beq (XN (ev y)).length ti.size with
 |false=>simp [a3] at h
 |true=>
  simp only [a3,QhY] at h;have a4:=QhW a3;split at h
  ·-- a box
   rename_i l off bv;split at h
   ·rename_i cells bc;split at h
    ·rename_i cs cm;refine ⟨_,h,?_⟩;intro β S st a w hR hO hA cy K Q hK;obtain ⟨h1,h2,h3,h4⟩:=Sc cm;obtain ⟨b,hb,hx⟩:=(bv▸hO.at ca).ptr_inv;have ak:look st.h l=some (.box cells):=by rw [hA l (.inl (by simp))];exact bc
     obtain ⟨b',ty,vs,fz,a6,hw,⟨hf,cj⟩,bi,bg⟩:=hR.hr.ob l _ ak;obtain rfl:b=b':=by rw [hb] at a6;injection a6
     obtain ⟨c1,c2,c3⟩:=NR (hO.at b1) h2;have bm:off+(a.eval y).cells.toList.length<=vs.size\/(a.eval y).cells.toList.length=0:=by
      by_cases b0:XN (ev y)=[]
      ·right;simp [c1,b0]
      ·left;have:=h3 b0;simp [c1];omega
     have b5:off+0+(a.eval y).cells.toList.length<=vs.size\/(a.eval y).cells.toList=[]:=by
      rcases bm with h | h
      ·left;simpa using h
      ·right;exact Qi3 h
     obtain ⟨w',a8,aj⟩:∃ w',(storeCells ⟨b,off,none⟩ (a.eval y).cells.toList 0).run P w = .ok () w'/\Wrote b (Tj vs off (a.eval y).cells.toList) ty fz w w':=by
      rcases b5 with h | h
      ·exact G9 b off ty fz _ 0 vs w hw hf h c3
      ·rw [h];exact ⟨w,by simp [storeCells],⟨hw,fun _ _=>rfl,rfl,rfl,rfl,rfl⟩⟩
     have b8:Q6y ty cs:=by
      intro i l' t' hi;rw [h4 i] at hi;split at hi
      ·rw [Qid] at h2;have:=h2 _ (Qi2 hi);simp [Q1S] at this
      ·exact cj i l' t' hi
     have aq:∀ j,(Tj vs off (a.eval y).cells.toList)[j]? = if off<=j/\j<off+(XN (ev y)).length then (a.eval y).cells[j-off]? else vs[j]?:=by
      intro j;rcases bm with h | h
      ·rw [S6 _ _ _ _ h];simp [c1]
      ·have hn:(a.eval y).cells.toList=[]:=Qi3 h;rw [hn,Qi6 (by rw [<- c1,<- Qi7,hn];simp)];rfl
     unfold Oper.wp;rw [Nx ho hx (RT b7 (by rw [c1];exact a4) a8)];refine hK undef _ ⟨β,S,?_,.top _⟩;have ax:∀ k',look ((l,Ob.box cs)::rem l st.h) k'=if k'=l then some (.box cs) else look st.h k':=fun k'=>WL l k' _ st.h
     have ao:Keep β (look st.h) w β (look ((l,.box cs)::rem l st.h)) w' l:=by
      refine ⟨rfl,fun h=>?_,fun e s rows h=>?_,fun b2 bq bo bx _ aw au=>?_,fun t f h=>by rw [ak] at h;cases h⟩
      ·rw [ak] at h;cases h
      ·rw [ak] at h;cases h
      ·rw [hb] at aw;injection aw with e;subst e
       rw [hw] at au;injection au with e;injection e with e1 e2 e3;subst e1
       exact ⟨_,_,_,aj.blk,U3 _ _ _⟩
     have a5:∀ l',Keep β (look st.h) w β (look ((l,.box cs)::rem l st.h)) w' l':=by
      intro l';by_cases e:l'=l
      ·subst e;exact ao
      ·exact ⟨rfl,fun h=>by rw [ax,Qi6 e];exact h,fun e' s rows h=>.inr ⟨rows,by rw [ax,Qi6 e];exact h,rfl⟩,
        fun b2 bq bo bx b6 aw au=>⟨bq,bo,bx,by rw [aj.oth b2 (fun e2=>by subst e2;rw [ax,Qi6 e] at b6;exact e (hR.hr.inj l' l _ b6 (by simp [ak]) aw hb))];exact au,rfl⟩,fun _ f h=>.inr ⟨f,by rw [ax,Qi6 e];exact h⟩⟩
     refine hR.set ak hb aj.oth aj.os aj.tape aj.output aj.size ao ⟨b,ty,_,fz,hb,aj.blk,⟨by rw [U3];exact hf,b8⟩,by rw [U3,bi,h1],fun i z hz=>?_⟩;rw [h4 i] at hz;by_cases e:off<=i/\i<off+(XN (ev y)).length
     ·rw [Qia e] at hz;have bp:(Tj vs off (a.eval y).cells.toList).getD i undef=(a.eval y).cells.getD (i-off) undef:=Q0t (by rw [aq i,Qia e]);rw [bp];have hn:AK z=true:=D2 (by rw [Qid] at h2;exact h2 z (Qi2 hz));exact ((c2 (i-off) z hz).to_tm0 hn).mono (fun _ h=>h) (fun k' hS=>aj.oth k' (fun e2=>by subst e2;exact hR.hr.apart l _ (by simp [ak]) hb hS)) (fun l' _=>a5 l') (fun _ _=>rfl)
     ·rw [Qi6 e] at hz;have bp:(Tj vs off (a.eval y).cells.toList).getD i undef=vs.getD i undef:=Q0t (by rw [aq i,Qi6 e]);rw [bp];exact (bg i z hz).mono (fun _ h=>h) (fun k' hS=>aj.oth k' (fun e2=>by subst e2;exact hR.hr.apart l _ (by simp [ak]) hb hS)) (fun l' _=>a5 l') (fun _ _=>rfl)
    ·cases h
   ·cases h
  ·-- an array of the call's own
   rename_i l i off bv;split at h
   ·rename_i e s rows b4;split at h
    ·rename_i ds co;obtain ⟨row,h,cb⟩:=QM h;have ar:=cb rfl;cases a7:Nat.ble (off+ds.length) s with
     |false=>simp [a7] at h
     |true=>
      simp only [a7,QhY] at h;have bm:=Qi5 a7;refine ⟨_,h,?_⟩;intro β S st a w hR hO hA cy K Q hK;have br:=BR co;have ak:look st.h l=some (.arr e s rows):=by rw [hA l (.inl (by simp))];exact b4
      obtain ⟨b,hb,hx⟩:=RdA.ap_inv ak (bv▸hO.at ca);rcases hR.hr.ob l _ ak with ⟨_,hn⟩ | ⟨b',vs,a6,hw,bi,bl,bg⟩
      ·subst hn;simp at ar
      obtain rfl:b=b':=by rw [hb] at a6;injection a6
      obtain ⟨c1,c2,c3⟩:=NR (hO.at b1) (by rw [br];exact ET ds);have b9:(a.eval y).cells.size=ds.length:=by rw [c1,br];simp
      have hi:i<rows.length:=(QhU.1 ar).1;have cr:row.length=s:=bl i row ar;have c4:(i+1)*s<=rows.length*s:=Qi0 s hi;have cx:(i+1)*s=i*s+s:=Qim i s;have bh:i*s+off+(a.eval y).cells.toList.length<=vs.size:=by simp [b9];omega
      obtain ⟨w',a8,aj⟩:=G9 (P:=P) b (i*s+off) e (0,0) (a.eval y).cells.toList 0 vs w hw (Qcx _) (by simpa using bh) c3;simp only [Nat.add_zero] at aj;have aq:∀ j,(Tj vs (i*s+off) (a.eval y).cells.toList)[j]? = if i*s+off<=j/\j<i*s+off+ds.length then (a.eval y).cells[j-(i*s+off)]? else vs[j]?:=by
       intro j;rw [S6 _ _ _ _ bh];simp [b9]
      unfold Oper.wp;rw [Nx ho hx (RT b7 (by rw [c1];exact a4) a8)];refine hK undef _ ⟨β,S,?_,.top _⟩;have bj:∀ k',S k'->w'.heap[k']? = w.heap[k']?:=fun k' hS=>aj.oth k' (fun e2=>by subst e2;exact hR.hr.apart l _ (by simp [ak]) hb hS)
      have ao:Keep β (look st.h) w β (look ((l,.arr e s (rows.set i (Qbt row off ds)))::rem l st.h)) w' l:=by
       refine ⟨rfl,fun h=>?_,fun e' s' cn h=>?_,fun b2 bq bo bx _ aw au=>?_,fun t f h=>by rw [ak] at h;cases h⟩
       ·rw [ak] at h;cases h
       ·rw [ak] at h;injection h with h;injection h with g1 g2 g3;subst g1;subst g2;subst g3
        exact .inr ⟨_,by rw [WL,Qia rfl],by simp⟩
       ·rw [hb] at aw;injection aw with e;subst e
        rw [hw] at au;injection au with e;injection e with e1 e2 e3;subst e1
        exact ⟨_,_,_,aj.blk,U3 _ _ _⟩
      refine hR.set ak hb aj.oth aj.os aj.tape aj.output aj.size ao (.inr ⟨b,_,hb,aj.blk,by rw [U3];simpa using bi,fun i' r' a2=>?_,fun i' j' r' z h4 h5=>?_⟩)
      ·by_cases e2:i'=i
       ·subst e2;rw [Qie hi] at a2;injection a2 with a2;subst a2
        rw [BE];exact cr
       ·rw [Qif (by omega)] at a2;exact bl i' r' a2
      ·by_cases e2:i'=i
       ·subst e2;rw [Qie hi] at h4;injection h4 with h4;subst h4
        rw [Q5i _ _ _ _ (by omega)] at h5;by_cases e3:off<=j'/\j'<off+ds.length
        ·rw [Qia e3] at h5;have hj:j'-off<(a.eval y).cells.size:=by omega
         refine ⟨(a.eval y).cells.getD (j'-off) undef,?_,?_⟩
         ·rw [aq,Qia (by omega),show i'*s+j'-(i'*s+off)=j'-off from by omega];exact Hp hj
         ·exact (c2 (j'-off) (.d z) (by rw [br];simp [h5])).d_inv.mono (fun _ h=>h) bj
        ·rw [Qi6 e3] at h5;obtain ⟨u,hu,bn⟩:=bg i' j' row z ar h5;exact ⟨u,by rw [aq,Qi6 (by omega)];exact hu,bn.mono (fun _ h=>h) bj⟩
       ·rw [Qif (by omega)] at h4;obtain ⟨u,hu,bn⟩:=bg i' j' r' z h4 h5;refine ⟨u,?_,bn.mono (fun _ h=>h) bj⟩;have c7:j'<s:=by
         have:=bl i' r' h4;have:=(QhU.1 h5).1;omega
        rw [aq,Qi6 ?_]
        ·exact hu
        ·rcases Nat.lt_or_gt_of_ne e2 with cg | cp
         ·have:(i'+1)*s<=i*s:=Qi0 s cg;have:(i'+1)*s=i'*s+s:=Qim i' s;omega
         ·have:(i+1)*s<=i'*s:=Qi0 s cp;omega
    ·cases h
   ·cases h
  ·cases h
end
end Go.Vx
namespace Go.Vx
section
variable {P:Program} {E:Env} {R:Type}
theorem Lx {α β:Type} {f:α->Sem β} {g:α->β} {w:World}:∀ (l:List α),(∀ x∈l,(f x).run P w = .ok (g x) w)->(l.mapM f).run P w = .ok (l.map g) w
 |[],_=>by simp
 |a::l,h=>by
  have h1:=h a (by simp);have h2:=Lx l (fun x hx=>h x (by simp [hx]));simp [List.mapM_cons,h1,h2]
theorem Q3k {α β:Type} {f:α->Sem β} {g:α->β} {w:World} (l:Array α) (h:∀ x∈l.toList,(f x).run P w = .ok (g x) w):(l.mapM f).run P w = .ok (l.map g) w:=by
 have h1:=Lx (P:=P) l.toList h;rw [<- Array.toList_mapM,Sem.run_map] at h1;cases hr:(l.mapM f).run P w with
 |ok b w'=>
  rw [hr] at h1;simp only [QhT,Result.ok.injEq] at h1;obtain ⟨h2,rfl⟩:=h1;congr 1;apply Array.ext'
  simp_all
 |halt x w'=>simp_all
theorem Q7F (off:Nat):∀ (l:List Value) (k:Nat) (cs:Array Value),(l.zipIdx k).foldl (fun cs x=>cs.setIfInBounds (off+x.2) x.1) cs=Tj cs (off+k) l
 |[],_,_=>rfl
 |v::r,k,cs=>by
  simp only [List.zipIdx_cons,List.foldl_cons,Tj];rw [Q7F off r (k+1)];rfl
theorem Qar (off:Nat) (vs cs:Array Value):vs.zipIdx.foldl (fun cs x=>cs.setIfInBounds (off+x.2) x.1) cs=Tj cs off vs.toList:=by
 rw [<- Array.foldl_toList,Array.toList_zipIdx,Q7F];rfl
theorem Q3c {aj:Nat->Option (Nat × Nat)} {cells:Array Value} {i off size:Nat} {v:Value} {rest:List (Nat × Value)} (hp:aj i=some (off,size)) (hs:v.cells.size=size) (hf:off+size<=cells.size) :
  Instr.fill aj cells ((i,v)::rest)=Instr.fill aj (Tj cells off v.cells.toList) rest:=by
 grind [Instr.fill,Qar]
theorem Eg {tt:TT} {fields:List (Nat × Nat)} {an:Nat->Option (Nat × Nat)} (au:∀ (i off t:Nat) (ti:TyI),fields[i]? = some (off,t)->look tt t=some ti->an i=some (off,ti.size))
  {β:Nat->Option Nat} {S:Nat->Prop} {h:Nat->Option Ob} {w:World} {tm:Nat->Value} {ρ:Operand->Value} {ev:Operand->AV} :
  ∀ (ak:List (Nat × Operand)) (cells aj:List AV) (cs:Array Value),(∀ p∈ak,RdA β S h w tm (ρ p.2) (ev p.2))->cs.size=cells.length ->
   (∀ (i:Nat) (x:AV),cells[i]? = some x->RdA β S h w tm (cs.getD i undef) x)->AQ fields tt cells (Vg ev ak)=some aj ->
   ∃ aq,Instr.fill an cs (ak.map fun p=>(p.1,ρ p.2))=some aq/\aq.size=aj.length /\
    ∀ (i:Nat) (x:AV),aj[i]? = some x->RdA β S h w tm (aq.getD i undef) x
 |[],cells,aj,cs,_,h1,h2,h3=>by
  grind [Vg,AQ,Instr.fill]
 |(i,x)::ak,cells,aj,cs,hp,h1,h2,h3=>by
  simp only [Vg,AQ] at h3;split at h3
  case h_2=>cases h3
  rename_i off t hf;split at h3
  case h_2=>cases h3
  rename_i ti az;cases hc:(Nat.beq (XN (ev x)).length ti.size&&Nat.ble (off+ti.size) cells.length) with
  |false=>simp_all
  |true=>
   simp only [hc,QhY] at h3;simp only [QhV] at hc;have hl:=QhW hc.1;have a7:=Qi5 hc.2;split at h3
   case h_2=>cases h3
   rename_i a2 ax;obtain ⟨g1,g2,g3,g4⟩:=Sc ax;obtain ⟨c1,c2,c3⟩:=NR (hp (i,x) (by simp)) g2;have ao:=au i off t ti hf az;have aw:off+(ρ x).cells.toList.length<=cs.size:=by simp [c1,hl];omega
   rw [Qin,Q3c ao (by rw [c1];exact hl) (by omega)];refine Eg au ak a2 aj _ (fun p ay=>hp p (by simp [ay])) (by rw [U3,h1,g1]) (fun j y hy=>?_) h3;have a3:(Tj cs off (ρ x).cells.toList)[j]? = if off<=j/\j<off+(XN (ev x)).length then (ρ x).cells[j-off]? else cs[j]?:=by
    rw [S6 _ _ _ _ aw];simp [c1]
   rw [g4 j] at hy;by_cases e:off<=j/\j<off+(XN (ev x)).length
   all_goals simp_all [Qia,Tj,undef,Q0t,Qi6]
theorem Q2A {t:TypeId} {aj:Array (Nat × Operand)} {o:Oper} (ho:o.op = .build t aj) {p:Nat × Operand} (hp:p∈aj.toList):p.2∈o.op.operands.toList:=by
 grind [Op.operands]
theorem Q6W {tt:TT} (hT:TOk P tt) {o:Oper} {t:TypeId} {ak:Array (Nat × Operand)} (ho:o.op = .build t ak) {ev:Operand->AV} {hl:Nat->Option Ob} {ti:TyI} (br:look tt t=some ti) (hs:V8 ti.kd=true) {cs:List AV}
  (h:AQ ti.fields tt (Et ti) (Vg ev ak.toList)=some cs):GQ P E o ev hl ⟨.ag cs,[],[]⟩:=by
 have a3:=hT t ti br;obtain ⟨inf,ao,_,_,z,hz,bo⟩:=a3.inf;refine Qk fun β S st a w hR hO hA=>?_
 have bg:z.cells.size=(Et ti).length:=by grind [Array.length_toList,Et]
 have ba:∀ (i:Nat) (x:AV),(Et ti)[i]? = some x->RdA β S (look st.h) w (tmv a) (z.cells.getD i undef) x:=by
  intro i x hx;simp only [Et,Qi4,QhZ] at hx;obtain ⟨v,hv,rfl⟩:=hx;have:z.cells.getD i undef=v:=by
   rw [<- bo] at hv;obtain ⟨hi,he⟩:=QhU.1 hv;have bj:i<z.cells.size:=by simpa using hi
   simp only [Array.getD,bj,dite_true];simpa using he
  grind [Bb]
 have au:(ak.map fun x=>(x.1,a.eval x.2)).toList=ak.toList.map fun p=>(p.1,a.eval p.2):=by simp
 cases hk:ti.kd with
 |struct=>
  obtain ⟨fs,hu,bl,a8⟩:=a3.kstruct hk;let sz:Field->Nat:=fun f=>((P.info? f.type).map (·.size)).getD 0
  have az:∀ f∈fs.toList,∃ i,P.info? f.type=some i/\i.size=sz f:=fun f hf=>by
   obtain ⟨i,hi,_⟩:=a8 f hf;exact ⟨i,hi,by simp [sz,hi]⟩
  have a4:∀ (i off t:Nat) (an:TyI),ti.fields[i]? = some (off,t)->look tt t=some an->(fs.map fun f=>(f.offset,sz f))[i]? = some (off,an.size):=by
   intro i off t an hf ar;rw [<- bl,Qi4,QhZ] at hf;obtain ⟨fd,a7,he⟩:=hf;injection he with he1 he2
   obtain ⟨inf,ao,a9⟩:=az fd (Qi2 a7);obtain ⟨a6,aj,aw,_⟩:=(hT t an ar).inf;rw [<- he2,ao] at aj;injection aj with aj
   subst aj;have bh:fs[i]? = some fd:=by simpa using a7
   simp [bh,he1,<- a9,aw]
  obtain ⟨a2,h1,h2,h3⟩:=Eg a4 (ρ:=a.eval) ak.toList _ _ z.cells (fun p hp=>hO.at (Q2A ho hp)) bg ba h;refine ⟨.agg a2,?_,.ag _ _ h2 h3⟩;have hm:=Q3k (P:=P) (w:=w) (f:=fun f:Field=>do pure (f.offset,<- sizeOf f.type)) (g:=fun f=>(f.offset,sz f)) fs (fun f hf=>by
   obtain ⟨i,hi,he⟩:=az f hf;simp [sizeOf,Yl hi,he])
  unfold execOp;rw [ho];simp only [Instr.build,QhX,zeroValue,Yl ao,hz,QN hu,QhT,Qig,hm,au,h1]
 |array e ay n=>
  obtain ⟨hu,bz,⟨i0,bc,bb⟩,bm,aq⟩:=a3.karr e ay n hk;have a4:∀ (i off t:Nat) (an:TyI),ti.fields[i]? = some (off,t)->look tt t=some an->(fun i=>some (i*ay,ay)) i=some (off,an.size):=by
   intro i off t an hf ar;rw [aq,Qi4,QhZ] at hf;obtain ⟨j,hj,he⟩:=hf;have bn:j=i:=by
    have:=QhU.1 hj;obtain ⟨h1,h2⟩:=this;simp at h2;omega
   injection he with he1 he2
   obtain ⟨a6,aj,aw,_⟩:=(hT t an ar).inf;rw [<- he2,bc] at aj;injection aj with aj
   subst aj;simp only [Option.some.injEq,Prod.mk.injEq];exact ⟨by rw [<- he1,bn],by omega⟩
  obtain ⟨a2,h1,h2,h3⟩:=Eg a4 (ρ:=a.eval) ak.toList _ _ z.cells (fun p hp=>hO.at (Q2A ho hp)) bg ba h;refine ⟨.agg a2,?_,.ag _ _ h2 h3⟩;have bq:(sizeOf e).run P w = .ok ay w:=by simp [sizeOf,Yl bc,bb]
  unfold execOp;rw [ho];simp only [Instr.build,QhX,zeroValue,Yl ao,hz,QN hu,QhT,Qig,bq,au,h1]
 |_=>simp [hk,V8] at hs
def UU (S:Nat->Prop) (w:World) (cs:Array Value) (s:Nat) (rows:List (List D)):Prop:=
 rows.length*s<=cs.size/\(∀ (i:Nat) (r:List D),rows[i]? = some r->r.length=s)/\∀ (i j:Nat) (r:List D) (x:D),rows[i]? = some r->r[j]? = some x->∃ v,cs[i*s+j]? = some v/\Rd S w v x
theorem Q2e:∀ {z:List D} {l:List AV} {ds:List D},Q9e z l=some ds->ds.length=z.length/\l.length=z.length/\l.all Q1S=true/\(∀ t,∀ x∈l,gds t x=false) /\
  ∀ (β:Nat->Option Nat) (S:Nat->Prop) (h:Nat->Option Ob) (w:World) (tm:Nat->Value) (vs:Nat->Value),(∀ (i:Nat) (x:AV),l[i]? = some x->RdA β S h w tm (vs i) x)->∀ (i:Nat) (d:D),ds[i]? = some d->Rd S w (vs i) d
 |[],[],ds,h=>by
  grind [Q9e]
 |[],_::_,ds,h=>by trivial
 |_::_,[],ds,h=>by simp [Q9e] at h
 |z::zs,a::r,ds,h=>by
  simp only [Q9e] at h;split at h
  case h_2=>cases h
  rename_i l hl;obtain ⟨h1,h2,h3,h4,h5⟩:=Q2e hl;have ak:∀ d0,ds=d0::l->Q1S a=true->(∀ t,gds t a=false)->(∀ (β:Nat->Option Nat) (S:Nat->Prop) (h:Nat->Option Ob) (w:World) (tm:Nat->Value) (v:Value),RdA β S h w tm v a->Rd S w v d0) ->
    ds.length=(z::zs).length/\(a::r).length=(z::zs).length/\(a::r).all Q1S=true/\(∀ t,∀ x∈a::r,gds t x=false) /\
    ∀ (β:Nat->Option Nat) (S:Nat->Prop) (h:Nat->Option Ob) (w:World) (tm:Nat->Value) (vs:Nat->Value),(∀ (i:Nat) (x:AV),(a::r)[i]? = some x->RdA β S h w tm (vs i) x)->∀ (i:Nat) (d:D),ds[i]? = some d->Rd S w (vs i) d:=by
   intro d0 hd ho hg hr;subst hd;refine ⟨by simp [h1],by simp [h2],by simp [ho,h3],fun t x hx=>?_,fun β S h w tm vs hv i d hi=>?_⟩
   ·grind
   ·cases i with
    |zero=>simp at hi;subst hi;exact hr β S h w tm _ (hv 0 a rfl)
    |succ i=>exact h5 β S h w tm (fun i=>vs (i+1)) (fun i x hx=>hv (i+1) x (by simp_all)) i d (by simp_all)
  split at h
  ·rename_i x;cases h;exact ak x rfl rfl (fun _=>rfl) (fun _ _ _ _ _ _ hv=>hv.d_inv)
  ·split at h
   ·cases h;exact ak _ rfl rfl (fun _=>rfl) (fun _ _ _ _ _ v hv=>by rw [hv.nil_inv];exact .sl0 _ _ _)
   ·cases h
  ·cases h
end
end Go.Vx
namespace Go.Vx
section
variable {P:Program} {E:Env} {R:Type}
theorem UU.mono {S S':Nat->Prop} {w w':World} {cs:Array Value} {s:Nat} {rows:List (List D)} (h:UU S w cs s rows) (hS:∀ b,S b->S' b) (hw:∀ b,S b->w'.heap[b]? = w.heap[b]?):UU S' w' cs s rows:=
 ⟨h.1,h.2.1,fun i j r x h1 h2=>by
  obtain ⟨v,hv,hr⟩:=h.2.2 i j r x h1 h2;exact ⟨v,hv,hr.mono hS hw⟩⟩
theorem UU.set {S:Nat->Prop} {w:World} {cs:Array Value} {s:Nat} {rows:List (List D)} (h:UU S w cs s rows) {i:Nat} {row:List D} {vs:Array Value} (hi:i<rows.length) (hl:row.length=s) (a7:vs.size=s)
  (hr:∀ (j:Nat) (d:D),row[j]? = some d->Rd S w (vs.getD j undef) d):UU S w (Tj cs (i*s) vs.toList) s (rows.set i row):=by
 obtain ⟨h1,h2,h3⟩:=h;have a3:(i+1)*s<=rows.length*s:=Qi0 s hi;have ax:(i+1)*s=i*s+s:=Qim i s;have a2:i*s+vs.toList.length<=cs.size:=by grind
 have ao:∀ j,(Tj cs (i*s) vs.toList)[j]? = if i*s<=j/\j<i*s+s then vs[j-i*s]? else cs[j]?:=by
  grind [S6]
 refine ⟨by grind [U3],fun i' r' a4=>?_,fun i' j' r' x h4 h5=>?_⟩
 ·grind
 ·by_cases e2:i'=i
  ·subst e2;rw [Qie hi] at h4;injection h4 with h4;subst h4
   have hj:j'<s:=by have:=(QhU.1 h5).1;omega
   refine ⟨vs.getD j' undef,?_,hr j' x h5⟩
   simp_all
  ·rw [Qif (by omega)] at h4;obtain ⟨u,hu,ay⟩:=h3 i' j' r' x h4 h5;refine ⟨u,?_,ay⟩;have a5:j'<s:=by
    have:=h2 i' r' h4;have:=(QhU.1 h5).1;omega
   rw [ao,Qi6 ?_]
   ·exact hu
   ·rcases Nat.lt_or_gt_of_ne e2 with ar | aw
    ·have:(i'+1)*s<=i*s:=Qi0 s ar;have:(i'+1)*s=i'*s+s:=Qim i' s;omega
    ·have:(i+1)*s<=i'*s:=Qi0 s aw;omega
theorem UU.zero {S:Nat->Prop} {w:World} {zero:Array Value} {z:List D} {n m:Nat} (hz:z.length=zero.size) (hr:∀ (j:Nat) (x:D),z[j]? = some x->∃ v,zero[j]? = some v/\Rd S w v x) (aq:n<=m) :
  UU S w ((Array.range (m*zero.size)).map (zero[· % zero.size]!)) zero.size (List.replicate n z):=by
 refine ⟨by simp_all [Qi0],fun i r h=>?_,fun i j r x h1 h2=>?_⟩
 ·grind
 ·rw [List.getElem?_replicate] at h1;split at h1
  case isFalse=>cases h1
  rename_i hi;injection h1 with h1;subst h1
  obtain ⟨v,hv,hx⟩:=hr j x h2;refine ⟨v,?_,hx⟩;have hj:j<zero.size:=(Qi8.1 hv).1;have an:(i+1)*zero.size<=m*zero.size:=Qi0 _ (by omega);have aj:(i+1)*zero.size=i*zero.size+zero.size:=Qim i _;have ak:(i*zero.size+j) % zero.size=j:=by rw [Nat.add_comm,Nat.add_mul_mod_self_right];exact Nat.mod_eq_of_lt hj
  grind
theorem Bp {o:Oper} {ev:Operand->AV} {hl:Nat->Option Ob} {aj e s:Nat} {rows:List (List D)} {rd:List Nat} (hn:hl aj=none)
  (h:∀ β S st a w,Rel E β S st a w->Cz β S st a w o ev->(∀ l,l∈rd->look st.h l=hl l)->∃ (cs:Array Value) (cap:Nat),(execOp a.eval o).run P w = .ok (.value (.slice (some ⟨w.heap.size,0,none⟩) rows.length cap)) (w.alloc (.cells cs e))/\cs.size=cap*s/\rows.length<=cap/\cap<=maxLen/\UU S w cs s rows) :
  GQ P E o ev hl ⟨.arr aj,[]++[(aj,some (.arr e s rows))],rd⟩:=by
 intro β S st a w hR hO hA a3 K Q hK;obtain ⟨cs,cap,ao,aq,ak,an,h1,h2,h3⟩:=h β S st a w hR hO (fun l ar=>hA l (.inl ar));have au:look st.h aj=none:=by rw [hA aj (.inr (by simp [wrL]))];exact hn
 have hc:Us st aj=true:=by grind [We]
 unfold Oper.wp;rw [ao];refine hK _ _ ⟨SQ β aj (some w.heap.size),S,?_,?_⟩
 ·refine hR.new au hc (.inr ⟨w.heap.size,cs,by simp [SQ],VY _ _,h1,h2,fun i j r x h4 h5=>?_⟩);obtain ⟨v,hv,hr⟩:=h3 i j r x h4 h5;exact ⟨v,hv,hr.mono (fun _ hb=>hb) (fun b hb=>Zh _ _ (hR.hr.sb b hb))⟩
 ·exact .arr aj w.heap.size cap e s rows cs e (0,0) (by simp [SQ]) (by simp [NL,WL]) (VY _ _) aq ak an
theorem Q9T {β:Nat->Option Nat} {S:Nat->Prop} {st:St} {a:Act} {w:World} (hR:Rel E β S st a w) (aj:Obj):Rel E β (fun b=>S b\/b=w.heap.size) st a (w.alloc aj):=by
 have:=hR.upd (w':=w.alloc aj) (β':=β) (S':=fun b=>S b\/b=w.heap.size) (H':=st.h) (fun _ h=>.inl h) (fun b hb=>Zh w aj (hR.hr.sb b hb)) (fun _=>False)
  (fun l _=>⟨rfl,rfl,fun b hs hb=>Zh w aj (Rt hR hs hb)⟩) (fun l h=>h.elim) (fun l o h=>h.elim) hR.hr.inj
  (fun l b hs hb hS=>by
   rcases hS with hS | hS
   ·exact hR.hr.apart l b hs hb hS
   ·have:=Rt hR hs hb;omega)
  hR.hr.own
  (fun b hS=>by
   simp;rcases hS with hS | hS
   ·have:=hR.hr.sb b hS;omega
   ·omega)
  (fun b hS=>by
   rcases hS with hS | hS
   ·exact hR.hr.sfr b hS
   ·right;right;have:=hR.hr.fr.size;omega)
  (Q6l hR.hr.fr aj)
 exact this
theorem UU.rd {S:Nat->Prop} {w:World} {b cap s:Nat} {cs:Array Value} {ty:TypeId} {fz:Nat × Nat} {rows:List (List D)} (h:UU S w cs s rows) (hb:w.heap[b]? = some (.cells cs ty fz)) (hS:S b) (aj:rows.length<=cap) :
  Rd S w (.slice (some ⟨b,0,none⟩) rows.length cap) (.sl s rows):=by
 obtain ⟨h1,h2,h3⟩:=h;refine .sl _ cap s rows (fun i j=>cs.getD (i*s+j) undef) hS aj h2 (fun i j r x h4 h5=>?_) (fun i j r x h4 h5=>?_)
 ·obtain ⟨v,hv,_⟩:=h3 i j r x h4 h5;rw [KZ,Nat.zero_add,J3 hb]
  simp_all
 grind [undef,Hp,Array.getElem?_eq_some_iff]
theorem Q3q {o:Oper} {ev:Operand->AV} {hl:Nat->Option Ob} {e s:Nat} {rows:List (List D)} {rd:List Nat}
  (h:∀ β S st a w,Rel E β S st a w->Cz β S st a w o ev->∃ (cs:Array Value) (cap:Nat),(execOp a.eval o).run P w = .ok (.value (.slice (some ⟨w.heap.size,0,none⟩) rows.length cap)) (w.alloc (.cells cs e))/\rows.length<=cap/\UU S w cs s rows) :
  GQ P E o ev hl ⟨.d (.sl s rows),[],rd⟩:=by
 intro β S st a w hR hO hA aq K Q hK;obtain ⟨cs,cap,ak,aj,h1⟩:=h β S st a w hR hO;unfold Oper.wp;rw [ak];refine hK _ _ ⟨β,fun b=>S b\/b=w.heap.size,Q9T hR _,.d _ _ ?_⟩;exact (h1.mono (fun _ hb=>.inl hb) (fun b hb=>Zh _ _ (hR.hr.sb b hb))).rd (VY _ _) (.inr rfl) aj
theorem Dh {β:Nat->Option Nat} {S:Nat->Prop} {h:Nat->Option Ob} {w:World} {tm:Nat->Value} {ρ:Operand->Value} {ev:Operand->AV} {z:List D} :
  ∀ (ak:List (Nat × Operand)) (rows aj:List (List D)) (cs:Array Value),(∀ p∈ak,RdA β S h w tm (ρ p.2) (ev p.2))->UU S w cs z.length rows->cs.size=rows.length*z.length ->
   Mv z rows (Vg ev ak)=some aj ->
   ∃ an,Instr.fill (fun i=>some (i*z.length,z.length)) cs (ak.map fun p=>(p.1,ρ p.2))=some an/\UU S w an z.length aj/\an.size=cs.size/\aj.length=rows.length
 |[],rows,aj,cs,_,h1,h2,h3=>by
  simp [Vg,Mv] at h3;subst h3;exact ⟨cs,by simp [Instr.fill],h1,rfl,rfl⟩
 |(i,x)::ak,rows,aj,cs,hp,h1,h2,h3=>by
  simp only [Vg,Mv] at h3;split at h3
  case h_2=>cases h3
  rename_i row aq;cases hc:Nat.ble (i+1) rows.length with
  |false=>simp [hc] at h3
  |true=>
   simp only [hc,QhY] at h3;have hi:=Qi5 hc;obtain ⟨t1,t2,t3,_,t5⟩:=Q2e aq;obtain ⟨c1,c2,_⟩:=NR (hp (i,x) (by simp)) t3;have ax:(i+1)*z.length<=rows.length*z.length:=Qi0 _ hi;have aw:(i+1)*z.length=i*z.length+z.length:=Qim i _;have au:Instr.fill (fun i=>some (i*z.length,z.length)) cs ((i,ρ x)::ak.map fun p=>(p.1,ρ p.2))=_:=Q3c (i:=i) (off:=i*z.length) (size:=z.length) rfl (by rw [c1,t2]) (by omega);rw [Qin,au];have ao:=h1.set (i:=i) (row:=row) (vs:=(ρ x).cells) (by omega) t1 (by rw [c1,t2]) (fun j d hd=>t5 β S h w tm (fun j=>(ρ x).cells.getD j undef) c2 j d hd);obtain ⟨an,g1,g2,g3,g4⟩:=Dh ak (rows.set i row) aj _ (fun p ar=>hp p (by simp [ar])) ao (by rw [U3,h2];simp) h3;exact ⟨an,g1,g2,by rw [g3,U3],by rw [g4];simp⟩
theorem AI {t:TypeId} {n:Nat} {aj:Array (Nat × Operand)} {o:Oper} (ho:o.op = .buildSlice t n aj) {p:Nat × Operand} (hp:p∈aj.toList):p.2∈o.op.operands.toList:=by
 grind [Op.operands]
theorem Qck {tt:TT} (hT:TOk P tt) {e:Nat} {ei:TyI} (an:look tt e=some ei) (ak:ei.zd.length=ei.size) {S:Nat->Prop} {w:World} {z:Value} (hz:z.cells.toList=ei.zero):∀ (j:Nat) (x:D),ei.zd[j]? = some x->∃ v,z.cells[j]? = some v/\Rd S w v x:=by
 intro j x hx;obtain ⟨v,hv,hr⟩:=(hT e ei an).zd ak j x hx
 grind
theorem N1 {tt:TT} (hT:TOk P tt) {o:Oper} {t:TypeId} {len:Nat} {aj:Array (Nat × Operand)} (ho:o.op = .buildSlice t len aj) {u:Bool} {bb:Nat} {ev:Operand->AV} {hl:Nat->Option Ob} {k:Dl->Option R} {r:R}
  (h:Ku tt hl bb u t len (Vg ev aj.toList) k=some r):∃ dl,k dl=some r/\GQ P E o ev hl dl:=by
 unfold Ku at h;split at h
 case h_2=>cases h
 rename_i e ak hk;cases hc:(Nat.ble (len*ak) 16777216&&(look tt e).isSome&&Nat.beq (N9 tt e).length ak) with
 |false=>simp_all
 |true=>
  simp only [hc,QhY] at h;simp only [QhV] at hc;have bn:=Qi5 hc.1.1;obtain ⟨ei,a3⟩:=Option.isSome_iff_exists.1 hc.1.2;have ao:=QhW hc.2;have bg:N9 tt e=ei.zd:=by grind [N9]
  rw [bg] at ao h;split at h
  case h_2=>cases h
  rename_i rows az;obtain ⟨ti,bj,bh⟩:=Xt hk (by simp);obtain ⟨hu,a7,inf,aq,ay⟩:=(hT t ti bj).ksl _ _ bh;obtain ⟨bm,an,a5,_,z,hz,ba⟩:=(hT e ei a3).inf;rw [aq] at an;injection an with an
  subst an;have au:z.cells.size=ak:=by rw [<- Qi7,ba,(hT e ei a3).zlen,<- a5,ay]
  have key:∀ β S st a w,Rel E β S st a w->Cz β S st a w o ev->∃ cs:Array Value,(execOp a.eval o).run P w = .ok (.value (.slice (some ⟨w.heap.size,0,none⟩) rows.length len)) (w.alloc (.cells cs e))/\cs.size=len*ak/\rows.length=len/\UU S w cs ak rows:=by
   intro β S st a w hR hO;have base:UU S w ((Array.range (len*z.cells.size)).map (z.cells[· % z.cells.size]!)) z.cells.size (List.replicate len ei.zd):=
    UU.zero (by rw [ao,au]) (Qck hT a3 (by rw [ao,<- a5,ay]) ba) (Qih _)
   rw [au] at base;obtain ⟨bi,g1,g2,g3,g4⟩:=Dh (ρ:=a.eval) (ev:=ev) (z:=ei.zd) aj.toList (List.replicate len ei.zd) rows _ (fun p hp=>hO.at (AI ho hp)) (by rw [ao];exact base) (by simp [ao]) az;rw [ao] at g1 g2;have ar:rows.length=len:=by rw [g4];simp
   refine ⟨bi,?_,by rw [g3];simp,ar,g2⟩;have ax:(aj.map fun x=>(x.1,a.eval x.2)).toList=aj.toList.map fun p=>(p.1,a.eval p.2):=by simp
   have bk:¬ len*ak>2 ^ 24:=by omega
   unfold execOp;rw [ho];simp only [Instr.buildSlice,QhX,QN hu,sizeOf,Yl aq,ay,QhT,Qig,bk,if_false,ax];by_cases h0:len*ak=0
   ·have aw:((Array.range (len*ak)).map ((#[]:Array Value)[· % (#[]:Array Value).size]!))=((Array.range (len*ak)).map (z.cells[· % ak]!)):=by rw [h0];simp
    simp only [h0,if_true,QhX,Qig,QhT];rw [h0] at aw g1;rw [aw,g1,ar];simp [newRow]
   ·simp only [h0,if_false,QhX,zeroValue,Yl aq,hz,QhT,Qig,au,g1];simp [newRow,ar]
  have a2:len<=maxLen:=by
   have:len*1<=len*ak:=Qii len a7;unfold maxLen;omega
  cases u with
  |true=>
   simp only [QhY] at h;obtain ⟨hn,h⟩:=UR h;refine ⟨_,h,Bp hn fun β S st a w hR hO _=>?_⟩;obtain ⟨cs,g1,g2,g3,g4⟩:=key β S st a w hR hO;exact ⟨cs,len,g1,g2,by omega,a2,g4⟩
  |false=>
   simp only [cond_false] at h;refine ⟨_,h,Q3q (e:=e) fun β S st a w hR hO=>?_⟩;obtain ⟨cs,g1,g2,g3,g4⟩:=key β S st a w hR hO;exact ⟨cs,len,g1,by omega,g4⟩
theorem N2 {n:Nat} {u:Unit} (h:Yf n=some u):n<=140737488355328:=by
 unfold Yf at h;cases hb:Nat.ble n 140737488355328 with
 |true=>simp_all
 |false=>simp_all
theorem Q8G {tt:TT} (hT:TOk P tt) {o:Oper} {t:TypeId} {l c:Operand} (ho:o.op = .makeSlice t l c) {u:Bool} {a7:Nat} {ev:Operand->AV} {hl:Nat->Option Ob} {k:Dl->Option R} {r:R}
  (h:QbK tt hl a7 u t (ev l) (ev c) k=some r):∃ dl,k dl=some r/\GQ P E o ev hl dl:=by
 unfold QbK at h;cases u with
 |false=>simp at h
 |true=>
  simp only [QhY] at h;split at h
  case h_2=>cases h
  rename_i e an kn n km m hk bc bl;split at h
  case h_2=>cases h
  rename_i ei aw;cases hc:(Nat.ble 1 ei.bytes&&Nat.beq (N9 tt e).length an) with
  |false=>simp_all
  |true=>
   simp only [hc,QhY] at h;simp only [QhV] at hc;have au:=Qi5 hc.1;have az:=QhW hc.2;have ba:N9 tt e=ei.zd:=by simp [N9,aw]
   rw [ba] at az h;obtain ⟨_,h,bk⟩:=QM h;obtain ⟨_,h,ak⟩:=QM h;have ak:=N2 (ak rfl);have bq:0<=n/\n<=m:=by
    have:=bk rfl;cases hd:(decide (0<=n)&&decide (n<=m)) with
    |true=>simpa using hd
    |false=>simp [hd] at this
   obtain ⟨hn,h⟩:=UR h;obtain ⟨ti,bi,bg⟩:=Xt hk (by simp);obtain ⟨hu,bo,inf,ao,a2⟩:=(hT t ti bi).ksl _ _ bg;obtain ⟨bn,aj,a3,bh,z,hz,a6⟩:=(hT e ei aw).inf;rw [ao] at aj;injection aj with aj
   subst aj;have aq:z.cells.size=an:=by rw [<- Qi7,a6,(hT e ei aw).zlen,<- a3,a2]
   have bm:m.toNat<=140737488355328:=Nat.le_trans (by have:=Qii m.toNat au;omega) ak;have bj:IntKind.i64.wrap m=m:=by unfold IntKind.wrap;simp [IntKind.bits,IntKind.signed];omega
   have a9:IntKind.i64.wrap n=n:=by unfold IntKind.wrap;simp [IntKind.bits,IntKind.signed];omega
   refine ⟨_,h,Bp hn fun β S st a w hR hO _=>?_⟩;have a4:=(bc▸hO.at (x:=l) (by simp [ho,Op.operands])).int_inv;have a5:=(bl▸hO.at (x:=c) (by simp [ho,Op.operands])).int_inv;have base:UU S w ((Array.range (m.toNat*z.cells.size)).map (z.cells[· % z.cells.size]!)) z.cells.size (List.replicate n.toNat ei.zd):=
    UU.zero (by rw [az,aq]) (Qck hT aw (by rw [az,<- a3,a2]) a6) (by omega)
   rw [aq] at base;refine ⟨_,m.toNat,?_,?_,?_,?_,base⟩
   ·have ar:(m<0||(inf.bytes:Int)*m>2 ^ 48)=false:=by
     rw [bh];have h1:((ei.bytes:Int)*m)=((m.toNat*ei.bytes:Nat):Int):=by
      rw [Int.natCast_mul,Int.toNat_of_nonneg (by omega),Int.mul_comm]
     have h2:¬ m<0:=by omega
     have h3:¬ ((m.toNat*ei.bytes:Nat):Int)>2 ^ 48:=by omega
     rw [h1,decide_eq_false h2,decide_eq_false h3];rfl
    have bb:((m<0||(inf.bytes:Int)*m>2 ^ 48)||n<0||n>m)=false:=by
     rw [ar];simp;omega
    unfold execOp;rw [ho];simp only [Instr.makeSlice,QhX,QN hu,asInt,asIntOf,a4,a5,Yl ao,QhT,Qig,bj,a9,bb,Bool.false_eq_true,if_false,run_askRoom,sizeOf,a2];by_cases h0:m.toNat*an=0
    ·have ay:((Array.range (m.toNat*an)).map ((#[]:Array Value)[· % (#[]:Array Value).size]!))=((Array.range (m.toNat*an)).map (z.cells[· % an]!)):=by rw [h0];simp
     simp only [h0,if_true,QhX,Qig,QhT];rw [h0] at ay;rw [ay];simp [newRow]
    ·simp only [h0,if_false,QhX,zeroValue,Yl ao,hz,QhT,Qig,aq];simp [newRow]
   ·simp
   ·simp;omega
   ·unfold maxLen;omega
end
end Go.Vx
namespace Go.Vx
section
variable {P:Program} {E:Env} {R:Type}
theorem Rd.one {S:Nat->Prop} {w:World} {v:Value} {x:D} (h:Rd S w v x):v.oneCell'=true:=by cases h <;> rfl
structure Src (S:Nat->Prop) (w:World) (esz:Nat) (v:Value) (news:List (List D)) (vals:List Value):Prop where
 form:(v = .slice none 0 0/\news=[])\/(∃ c,v = .slice none 0 c/\news=[])\/∃ (ad:Addr) (c:Nat),v = .slice (some ad) news.length c/\∀ (j:Nat) (u:Value),vals[j]? = some u->w.cell? (ad.add j)=some u
 len:vals.length=news.length*esz
 one:∀ u∈vals,u.oneCell'=true
 row:∀ (i:Nat) (r:List D),news[i]? = some r->r.length=esz
 rd:∀ (i j:Nat) (r:List D) (x:D),news[i]? = some r->r[j]? = some x->∃ u,vals[i*esz+j]? = some u/\Rd S w u x
theorem Src.of_fun {S:Nat->Prop} {w:World} {aj:Nat} {news:List (List D)} {ad:Addr} {c:Nat} (f:Nat->Value) (an:0<aj) (ak:∀ (i:Nat) (r:List D),news[i]? = some r->r.length=aj)
  (hc:∀ (i j:Nat) (r:List D) (x:D),news[i]? = some r->r[j]? = some x->w.cell? (ad.add (i*aj+j))=some (f (i*aj+j))/\Rd S w (f (i*aj+j)) x) :
  ∃ vals,Src S w aj (.slice (some ad) news.length c) news vals:=by
 have split:∀ q,q<news.length*aj->∃ i j r x,q=i*aj+j/\news[i]? = some r/\r[j]? = some x:=by
  intro q hq;have hi:q / aj<news.length:=Nat.div_lt_of_lt_mul (by grind);have hj:q % aj<aj:=Nat.mod_lt _ an;have h1:news[q / aj]? = some (news[q / aj]):=Qi9 hi;have h2:=ak _ _ h1;refine ⟨q / aj,q % aj,news[q / aj],(news[q / aj])[q % aj]'(by omega),?_,h1,Qi9 _⟩
  grind [Nat.mul_comm,Nat.div_add_mod]
 refine ⟨(List.range (news.length*aj)).map f,⟨.inr (.inr ⟨ad,c,rfl,fun j u hu=>?_⟩),by simp,fun u hu=>?_,ak,fun i j r x h1 h2=>?_⟩⟩
 ·grind
 ·obtain ⟨q,hq,rfl⟩:=List.mem_map.1 hu;obtain ⟨i,j',r,x,rfl,h1,h2⟩:=split q (by simp_all);exact (hc i j' r x h1 h2).2.one
 ·have hi:i<news.length:=(QhU.1 h1).1;have hj:j<aj:=by have:=ak i r h1;have:=(QhU.1 h2).1;omega
  have ao:(i+1)*aj<=news.length*aj:=Qi0 _ hi
  grind
theorem Q25 {aj:Nat} (ao:0<aj) {hl:Nat->Option Ob} {av:AV} {news:List (List D)} {rx:List Nat} (h:AM aj hl av=some (news,rx))
  {β:Nat->Option Nat} {S:Nat->Prop} {st:St} {a:Act} {w:World} (hR:Rel E β S st a w) {v:Value} (hv:RdA β S (look st.h) w (tmv a) v av) (hA:∀ l,l∈rx->look st.h l=hl l):∃ vals,Src S w aj v news vals:=by
 have an:∀ v,(v = .slice none 0 0\/∃ c,v = .slice none 0 c)->Src S w aj v [] []:=fun v hv=>
  ⟨by grind,by simp,by simp,by simp,by simp⟩
 unfold AM at h;split at h
 ·rename_i s rows;cases hb:Nat.beq s aj with
  |false=>simp_all
  |true=>
   obtain rfl:=QhW hb;simp only [hb,QhY,Option.some.injEq,Prod.mk.injEq] at h;obtain ⟨rfl,rfl⟩:=h;rcases hv.d_inv.sl_inv with ⟨rfl,ad,cap,rfl⟩ | ⟨ad,cap,c,rfl,hS,aq,ar,hc,hr⟩
   ·cases ad with
    |none=>exact ⟨[],an _ (.inr ⟨cap,rfl⟩)⟩
    |some ad=>exact ⟨[],⟨.inr (.inr ⟨ad,cap,rfl,by simp⟩),by simp,by simp,by simp,by simp⟩⟩
   ·refine Src.of_fun (fun q=>c (q / s) (q % s)) ao ar fun i j r x h1 h2=>?_
    have hj:j<s:=by grind
    simp_all [Nat.add_comm,Nat.add_mul_div_right,Nat.div_eq_of_lt,Nat.zero_add,Nat.add_mul_mod_self_right,Nat.mod_eq_of_lt]
 ·cases h;exact ⟨[],an _ (.inl hv.nil_inv)⟩
 ·rename_i l;split at h
  ·rename_i e s rows a8;cases hb:Nat.beq s aj with
   |false=>simp [hb] at h
   |true=>
    obtain rfl:=QhW hb;simp only [hb,QhY,Option.some.injEq,Prod.mk.injEq] at h;obtain ⟨rfl,rfl⟩:=h;have aw:look st.h l=some (.arr e s rows):=by simp_all
    rcases RdA.arr_inv aw hv with ⟨_,rfl,rfl⟩ | ⟨b,cap,cs,ty,fz,ax,rfl,hw,ba,aq,a7⟩
    ·exact ⟨[],an _ (.inl rfl)⟩
    ·rcases hR.hr.ob l _ aw with ⟨hn,_⟩ | ⟨b2,az,au,a3,ar,a4,a6⟩
     ·rw [ax] at hn;cases hn
     obtain rfl:b=b2:=by rw [ax] at au;injection au
     refine Src.of_fun (fun q=>az.getD q undef) ao a4 fun i j r x h1 h2=>?_
     obtain ⟨u,hu,a5⟩:=a6 i j r x h1 h2;have a2:=(Qi8.1 hu).1;have ak:=Hp a2;refine ⟨by rw [KZ,Nat.zero_add,J3 a3];exact ak,?_⟩;rw [hu] at ak;injection ak with ak
     rw [<- ak];exact a5
  ·cases h
 ·cases h
theorem Pa {w:World} {t ty e:Nat} {i:TypeInfo} {z:Value} {ak base:Nat} (ht:P.underlying t=some (.slice e)) (hi:P.info? e=some i) (hz:i.zero=some z) (ar:i.size=ak) (a2:z.cells.size=ak) (aw:0<ak)
  {v:Value} {n:Nat} {xs:List Value} (ao:w.ownsRow base e ak v n xs) {S:Nat->Prop} {x:Value} {news:List (List D)} {vals:List Value} (an:Src S w ak x news vals)
  (ay:n+news.length<=maxLen) (aq:(n+news.length)*i.bytes<=140737488355328) (au:base<=w.heap.size) :
  ∃ v' w',(Builtin.append_ #[t,t] ty #[v,x]).run P w = .ok v' w'/\w'.ownsRow base e ak v' (n+news.length) (xs++vals)/\w.grownBy w' v.ownBlock/\(v'.ownBlock=v.ownBlock\/v'.ownBlock=some w.heap.size):=by
 have aj:∀ c,x = .slice none 0 c->news=[]->∃ v' w',(Builtin.append_ #[t,t] ty #[v,x]).run P w = .ok v' w'/\w'.ownsRow base e ak v' (n+news.length) (xs++vals)/\w.grownBy w' v.ownBlock/\(v'.ownBlock=v.ownBlock\/v'.ownBlock=some w.heap.size):=by
  intro c hx hn;subst hx;subst hn;have hv:vals=[]:=Qi3 (by simpa using an.len);subst hv;refine ⟨v,w,?_,by simpa using ao,⟨rfl,rfl,rfl,Qih _,fun _ _ _=>rfl⟩,.inl rfl⟩;rcases ao.2 with ⟨rfl,rfl⟩ | ⟨g,cap,a5,rfl,_,_,az,_⟩
  ·simp [Builtin.append_,QN ht,sizeOf,Yl hi,Builtin.lenOf,Builtin.firstCells]
  ·simp [Builtin.append_,QN ht,sizeOf,Yl hi,Builtin.lenOf,Builtin.firstCells,az,storeCells]
 rcases an.form with ⟨h1,h2⟩ | ⟨c,h1,h2⟩ | ⟨ad,c,rfl,hc⟩
 ·exact aj 0 h1 h2
 ·exact aj c h1 h2
 ·obtain ⟨v',w',g1,g2,g3,_,g5⟩:=run_append_own_at (P:=P) w base t ty e i z ak i.bytes ht hi hz ar rfl a2 aw v n xs ao ad news.length c vals an.len hc an.one ay aq au;exact ⟨v',w',g1,g2,g3,g5⟩
theorem HO {o:Oper} {c:Call} {s x:Operand} {t:Nat} (ho:o.op = .call c) (hc:c.callee = .builtin .append) (ha:c.args.toList=[s,x]) (hat:c.argTypes.toList=[t,t]) {a:Act} {w w':World} {v':Value}
  (h:(Builtin.append_ #[t,t] o.type #[a.eval s,a.eval x]).run P w = .ok v' w'):(execOp a.eval o).run P w = .ok (.value v') w':=by
 have ak:c.args = #[s,x]:=by grind
 have aj:c.argTypes = #[t,t]:=by grind
 simp_all [execOp,resolve,invoke,builtin,QhX,Qig,QhT,List.map_toArray,Qin,List.map_nil]
def DH (old:Option Nat) (h:List (Nat × Ob)):List (Nat × Ob):=
 match old with
 |some l=>rem l h
 |none=>h
theorem Sr {β:Nat->Option Nat} {S:Nat->Prop} {st:St} {a:Act} {w w':World} (hR:Rel E β S st a w) {aj e ak:Nat} {rows news:List (List D)} {vals:List Value} (br:∀ (i j:Nat) (r:List D) (x:D),news[i]? = some r->r[j]? = some x->∃ u,vals[i*ak+j]? = some u/\Rd S w u x) (bx:∀ (i:Nat) (r:List D),news[i]? = some r->r.length=ak)
  (hn:look st.h aj=none) (hc:Us st aj=true) {v v':Value} {base:Nat} {xs:List Value} (old:Option Nat)
  (aq:∀ l,old=some l->(look st.h l).isSome=true)
  (ar:∀ b,v.ownBlock=some b->∃ l,old=some l/\β l=some b)
  (b0:∀ (i j:Nat) (r:List D) (y:D),rows[i]? = some r->r[j]? = some y->∃ u,xs[i*ak+j]? = some u/\Rd S w u y) (bo:∀ (i:Nat) (r:List D),rows[i]? = some r->r.length=ak) (bq:xs.length=rows.length*ak)
  (ba:w'.ownsRow base e ak v' (rows.length+news.length) (xs++vals)) (hg:w.grownBy w' v.ownBlock) (hat:v'.ownBlock=v.ownBlock\/∀ b,v'.ownBlock=some b->w.heap.size<=b) :
  ∃ β' S',Rel E β' S' ⟨st.n,st.tm,(aj,.arr e ak (rows++news))::rem aj (DH old st.h)⟩ a w' /\
   RdA β' S' (look ((aj,.arr e ak (rows++news))::rem aj (DH old st.h))) w' (tmv a) v' (.arr aj):=by
 have ay:∀ k,look ((aj,Ob.arr e ak (rows++news))::rem aj (DH old st.h)) k=if k=aj then some (.arr e ak (rows++news)) else if old=some k then none else look st.h k:=by
  intro k;rw [WL];by_cases e1:k=aj
  ·simp [e1]
  ·rw [Qi6 e1,Qi6 e1];cases old with
   |none=>simp [DH]
   |some l=>
    simp only [DH,C3,Option.some.injEq];by_cases e2:k=l
    ·simp [e2]
    ·rw [Qi6 e2,Qi6 (fun h=>e2 h.symm)]
 have bc:∀ b,S b->w'.heap[b]? = w.heap[b]?:=fun b hS=>hg.block b (hR.hr.sb b hS) (fun e1=>by
  obtain ⟨l,hl,hb⟩:=ar b e1.symm;exact hR.hr.apart l b (aq l hl) hb hS)
 have a6:∀ k b,(look st.h k).isSome=true->old≠some k->β k=some b->w'.heap[b]? = w.heap[b]?:=fun k b hs ax hb=>hg.block b (Rt hR hs hb) (fun e1=>by
  obtain ⟨l,hl,aw⟩:=ar b e1.symm;exact ax (by rw [hl,hR.hr.inj k l b hs (aq l hl) hb aw]))
 have b1:(xs++vals).length=(rows.length+news.length)*ak:=ba.1;have a5:∀ (i j:Nat) (r:List D) (y:D),(rows++news)[i]? = some r->r[j]? = some y->∃ u,(xs++vals)[i*ak+j]? = some u/\Rd S w' u y:=by
  intro i j r y h1 h2;by_cases hi:i<rows.length
  ·rw [List.getElem?_append_left hi] at h1;obtain ⟨u,hu,hr⟩:=b0 i j r y h1 h2;refine ⟨u,?_,hr.mono (fun _ h=>h) bc⟩;rw [List.getElem?_append_left ((QhU.1 hu).1)];exact hu
  ·rw [List.getElem?_append_right (by omega)] at h1;obtain ⟨u,hu,hr⟩:=br _ j r y h1 h2;refine ⟨u,?_,hr.mono (fun _ h=>h) bc⟩;have hm:i*ak=(i-rows.length)*ak+rows.length*ak:=by rw [<- Nat.add_mul];congr 1;omega
   rw [List.getElem?_append_right (by omega),bq,show i*ak+j-rows.length*ak=(i-rows.length)*ak+j from by omega];exact hu
 have bh:∀ (i:Nat) (r:List D),(rows++news)[i]? = some r->r.length=ak:=by
  intro i r h1;by_cases hi:i<rows.length
  ·rw [List.getElem?_append_left hi] at h1;exact bo i r h1
  ·rw [List.getElem?_append_right (by omega)] at h1;exact bx _ r h1
 obtain ⟨gb,az,bv,bz⟩:∃ gb:Option Nat,v'.ownBlock=gb/\(∀ β',β' aj=gb->ObR β' S (look ((aj,Ob.arr e ak (rows++news))::rem aj (DH old st.h))) w' aj (.arr e ak (rows++news))) /\
   ∀ β',β' aj=gb->RdA β' S (look ((aj,.arr e ak (rows++news))::rem aj (DH old st.h))) w' (tmv a) v' (.arr aj):=by
  rcases ba.2 with ⟨rfl,h0⟩ | ⟨g,cap,bj,rfl,_,hw,a8,bp,bl,bb⟩
  ·have bm:rows++news=[]:=Qi3 (by simpa using h0);refine ⟨none,rfl,fun β' hb=>.inl ⟨hb,bm⟩,fun β' hb=>.arr0 aj e ak hb (by rw [ay,Qia rfl,bm])⟩
  ·have bi:(rows++news).length=rows.length+news.length:=by simp
   refine ⟨some g,rfl,fun β' hb=>.inr ⟨g,bj,hb,hw,?_,bh,fun i j r y h1 h2=>?_⟩,fun β' hb=>?_⟩
   ·rw [bi,bl];exact Qi0 _ a8
   ·obtain ⟨u,hu,hr⟩:=a5 i j r y h1 h2;refine ⟨u,?_,hr⟩;rw [<- bb,List.getElem?_take] at hu;split at hu
    ·simpa using hu
    ·cases hu
   ·have:=RdA.arr (S:=S) (tm:=tmv a) (h:=look ((aj,Ob.arr e ak (rows++news))::rem aj (DH old st.h))) aj g cap e ak (rows++news) bj e (0,0) hb (by rw [ay,Qia rfl]) hw bl (by rw [bi];exact a8) bp;rw [bi] at this;exact this
 have a3:∀ k b,k≠aj->(look st.h k).isSome=true->old≠some k->β k=some b->gb=some b->False:=by
  intro k b _ hs ax hb he;rcases hat with h | h
  ·obtain ⟨l,hl,aw⟩:=ar b (by rw [<- h,az,he]);exact ax (by rw [hl,hR.hr.inj k l b hs (aq l hl) hb aw])
  ·have:=h b (by rw [az,he]);have:=Rt hR hs hb;omega
 have ao:∀ k,k≠aj->(look ((aj,Ob.arr e ak (rows++news))::rem aj (DH old st.h)) k).isSome=true->(look st.h k).isSome=true/\old≠some k:=by
  intro k hk hs;rw [ay,Qi6 hk] at hs;by_cases e1:old=some k
  ·rw [Qia e1] at hs;cases hs
  ·rw [Qi6 e1] at hs;exact ⟨hs,e1⟩
 have bn:old≠some aj:=fun e1=>by have:=aq aj e1;rw [hn] at this;cases this
 refine ⟨SQ β aj gb,S,?_,bz _ (by simp [SQ])⟩;refine hR.upd (fun _ h=>h) bc (fun k=>k=aj\/old=some k) (fun k hk=>?_) (fun k hk=>?_) (fun k o hk ho=>?_) ?_ ?_ ?_ (fun b hS=>Qik (hR.hr.sb b hS) hg.size) hR.hr.sfr ?_
 ·have a4:k≠aj:=fun h=>hk (.inl h)
  have bk:old≠some k:=fun h=>hk (.inr h)
  exact ⟨by simp [SQ,a4],by rw [ay,Qi6 a4,Qi6 bk],fun b hs hb=>a6 k b hs bk hb⟩
 ·rcases hk with rfl | hk
  ·exact .inr hc
  ·left;have a4:k≠aj:=fun h=>bn (h▸hk)
   have au:look ((aj,Ob.arr e ak (rows++news))::rem aj (DH old st.h)) k=none:=by rw [ay,Qi6 a4,Qia hk]
   exact ⟨by simp [SQ,a4],fun _=>au,fun _ _ _ _=>.inl au,fun b cs ty fz hs=>(by rw [au] at hs;cases hs),fun _ _ _=>.inl au⟩
 ·by_cases e1:k=aj
  ·subst e1;rw [ay,Qia rfl] at ho;injection ho with ho
   subst ho;exact bv _ (by simp [SQ])
  ·rcases hk with h | h
   ·exact absurd h e1
   ·rw [ay,Qi6 e1,Qia h] at ho;cases ho
 ·intro k k' b h1 h2 h3 h4;unfold SQ at h3 h4;by_cases e1:k=aj <;> by_cases e2:k'=aj
  ·rw [e1,e2]
  ·rw [Qia e1] at h3;rw [Qi6 e2] at h4;obtain ⟨hs,ax⟩:=ao k' e2 h2;exact (a3 k' b e2 hs ax h4 h3).elim
  ·rw [Qi6 e1] at h3;rw [Qia e2] at h4;obtain ⟨hs,ax⟩:=ao k e1 h1;exact (a3 k b e1 hs ax h3 h4).elim
  ·rw [Qi6 e1] at h3;rw [Qi6 e2] at h4;exact hR.hr.inj k k' b (ao k e1 h1).1 (ao k' e2 h2).1 h3 h4
 ·intro k b h1 h2 hS;unfold SQ at h2;by_cases e1:k=aj
  ·rw [Qia e1] at h2;rcases hat with h | h
   ·obtain ⟨l,hl,aw⟩:=ar b (by rw [<- h,az,h2]);exact hR.hr.apart l b (aq l hl) aw hS
   ·have:=h b (by rw [az,h2]);have:=hR.hr.sb b hS;omega
  ·rw [Qi6 e1] at h2;exact hR.hr.apart k b (ao k e1 h1).1 h2 hS
 ·intro k b h1 h2;unfold SQ at h2;by_cases e1:k=aj
  ·rw [Qia e1] at h2;rcases hat with h | h
   ·obtain ⟨l,hl,aw⟩:=ar b (by rw [<- h,az,h2]);exact hR.hr.own l b (aq l hl) aw
   ·have:=h b (by rw [az,h2]);right;have:=hR.hr.fr.size;omega
  ·rw [Qi6 e1] at h2;exact hR.hr.own k b (ao k e1 h1).1 h2
 ·have fr:=hR.hr.fr;refine ⟨hg.os.trans fr.os,hg.tape.trans fr.tape,hg.output.trans fr.output,Nat.le_trans fr.size hg.size,fun b hb hM=>(hg.block b (Qik hb fr.size) (fun e1=>?_)).trans (fr.block b hb hM)⟩;obtain ⟨l,hl,aw⟩:=ar b e1.symm;rcases hR.hr.own l b (aq l hl) aw with h | h
  ·exact hM h
  ·omega
theorem Ei {β:Nat->Option Nat} {S:Nat->Prop} {st:St} {a:Act} {w w':World} (hR:Rel E β S st a w) {aj e ak:Nat} {rows news:List (List D)} {vals:List Value} {x:Value} (an:Src S w ak x news vals)
  (hn:look st.h aj=none) (hc:Us st aj=true) {v v':Value} {base:Nat} {xs:List Value} (old:Option Nat)
  (aq:∀ l,old=some l->(look st.h l).isSome=true)
  (au:∀ b,v.ownBlock=some b->∃ l,old=some l/\β l=some b)
  (ax:∀ (i j:Nat) (r:List D) (y:D),rows[i]? = some r->r[j]? = some y->∃ u,xs[i*ak+j]? = some u/\Rd S w u y) (ar:∀ (i:Nat) (r:List D),rows[i]? = some r->r.length=ak) (aw:xs.length=rows.length*ak)
  (ao:w'.ownsRow base e ak v' (rows.length+news.length) (xs++vals)) (hg:w.grownBy w' v.ownBlock) (hat:v'.ownBlock=v.ownBlock\/v'.ownBlock=some w.heap.size) :
  ∃ β' S',Rel E β' S' ⟨st.n,st.tm,(aj,.arr e ak (rows++news))::rem aj (DH old st.h)⟩ a w' /\
   RdA β' S' (look ((aj,.arr e ak (rows++news))::rem aj (DH old st.h))) w' (tmv a) v' (.arr aj):=
 Sr hR an.rd an.row hn hc old aq au ax ar aw ao hg (hat.imp id fun h b hb=>by rw [h] at hb;injection hb with hb;omega)
theorem Q4J {tt:TT} (hT:TOk P tt) {o:Oper} {c:Call} {s x:Operand} {t:Nat} (ho:o.op = .call c) (a2:c.callee = .builtin .append) (ha:c.args.toList=[s,x]) (hat:c.argTypes.toList=[t,t]) {g:Bool} {aq:Nat} {ev:Operand->AV} {hl:Nat->Option Ob} {k:Dl->Option R} {r:R}
  (h:Q4P tt aq g hl t (ev s) (ev x) k=some r):∃ dl,k dl=some r/\(g=true->GQ P E o ev hl dl):=by
 have bp:c.args = #[s,x]:=by grind
 have bx:s∈o.op.operands.toList:=by grind [Op.operands,Call.operands]
 have br:x∈o.op.operands.toList:=by simp [ho,Op.operands,Call.operands,a2,bp]
 unfold Q4P at h
 ·split at h
  case h_2=>cases h
  rename_i e ao hk;split at h
  case h_2=>cases h
  rename_i ei cp;cases hc:(Nat.ble 1 ei.bytes&&Nat.beq ei.zero.length ao) with
  |false=>simp_all
  |true=>
   simp only [hc,QhY] at h;simp only [QhV] at hc;have ax:=Qi5 hc.1;split at h
   case h_2=>cases h
   rename_i news rx a3;obtain ⟨ti,c4,cr⟩:=Xt hk (by simp);obtain ⟨hu,ar,inf,ay,bg⟩:=(hT t ti c4).ksl _ _ cr;obtain ⟨c7,aw,dd,bh,z,hz,cw⟩:=(hT e ei cp).inf;rw [ay] at aw;injection aw with aw
   subst aw;have a5:z.cells.size=ao:=by rw [<- Qi7,cw];exact QhW hc.2
   split at h
   ·-- nil
    rename_i ba;obtain ⟨_,h,aj⟩:=QM h;obtain ⟨hn,h⟩:=UR h;refine ⟨_,h,fun hg=>?_⟩;have aj:=N2 (aj hg);intro β S st a w hR hO hA a8 K Q hK;have au:look st.h aq=none:=by rw [hA aq (.inr (by simp [wrL]))];exact hn
    have a6:Us st aq=true:=by simpa [We,au] using a8
    have hv:=(ba▸hO.at bx).nil_inv;obtain ⟨vals,ak⟩:=Q25 ar a3 hR (hO.at br) (fun l a4=>hA l (.inl a4));have bj:news.length<=140737488355328:=Nat.le_trans (by have:=Qii news.length ax;omega) aj;obtain ⟨v',w',g1,g2,g3,g4⟩:=Pa (ty:=o.type) hu ay hz bg a5 ar (World.ownsRow_nil w w.heap.size e ao) ak (by unfold maxLen;omega) (by rw [bh];simpa using aj) (Qih _);unfold Oper.wp;rw [HO ho a2 ha hat (by rw [hv];exact g1)];refine hK _ _ ?_;have:=Ei (rows:=[]) (v:=.slice none 0 0) hR ak au a6 none (fun _ h=>by cases h) (fun b h=>by simp [Value.ownBlock] at h) (fun i j r y h1=>by simp at h1) (fun i r h1=>by simp at h1) (by simp) g2 g3 g4;exact this
   ·-- a full slice
    rename_i s0 rows ba;cases hb:Nat.beq s0 ao with
    |false=>simp [hb] at h
    |true=>
     simp only [hb,QhY] at h;obtain rfl:=QhW hb;obtain ⟨_,h,a9⟩:=QM h;obtain ⟨_,h,aj⟩:=QM h;obtain ⟨hn,h⟩:=UR h;refine ⟨_,h,fun hg=>?_⟩;have aj:=N2 (aj hg);have a9:news≠[]:=fun e=>by have:=a9 hg;rw [e] at this;cases this
     intro β S st a w hR hO hA a8 K Q hK;have au:look st.h aq=none:=by rw [hA aq (.inr (by simp [wrL]))];exact hn
     have a6:Us st aq=true:=by simpa [We,au] using a8
     obtain ⟨ad,hv,bv⟩:=(ba▸hO.at bx).fs_inv;obtain ⟨vals,ak⟩:=Q25 ar a3 hR (hO.at br) (fun l a4=>hA l (.inl a4));have bj:rows.length+news.length<=140737488355328:=Nat.le_trans (by have:=Qii (rows.length+news.length) ax;omega) aj;have dg:0<news.length:=List.length_pos_iff.2 a9;obtain ⟨sa,sc,cu,c5⟩:∃ (sa:Addr) (sc:Nat),a.eval x = .slice (some sa) news.length sc/\∀ (j:Nat) (u:Value),vals[j]? = some u->w.cell? (sa.add j)=some u:=by
      rcases ak.form with ⟨_,h2⟩ | ⟨_,_,h2⟩ | ⟨sa,sc,h1,h2⟩
      ·exact absurd h2 a9
      ·exact absurd h2 a9
      ·exact ⟨sa,sc,h1,h2⟩
     obtain ⟨cf,az⟩:=Q25 (hl:=hl) (av:=.d (.sl s0 rows)) (news:=rows) (rx:=[]) ar (by simp [AM]) hR (.d _ _ bv) (fun l a4=>by cases a4);have bk:∀ c,a.eval s = .slice none 0 c->rows=[]->o.wp P a w K Q:=by
      intro c cb a7;have c2:a.eval s = .slice none 0 0:=by
       rw [hv,a7] at cb ⊢;injection cb with h1 h2 h3
       rw [h1];rfl
      subst a7;obtain ⟨v',w',g1,g2,g3,g4⟩:=Pa (ty:=o.type) hu ay hz bg a5 ar (World.ownsRow_nil w w.heap.size e s0) ak (by unfold maxLen;omega) (by rw [bh];simpa using aj) (Qih _);unfold Oper.wp;rw [HO ho a2 ha hat (by rw [c2];exact g1)];refine hK _ _ ?_;exact Ei (rows:=[]) (v:=.slice none 0 0) hR ak au a6 none (fun _ h=>by cases h) (fun b h=>by simp [Value.ownBlock] at h) (fun i j r y h1=>by simp at h1) (fun i r h1=>by simp at h1) (by simp) g2 g3 g4
     rcases az.form with ⟨h1,h2⟩ | ⟨c,h1,h2⟩ | ⟨oa,oc,h1,h2⟩
     ·exact bk _ h1 h2
     ·exact bk _ h1 h2
     ·have df:oc=rows.length:=by
       rw [hv] at h1;injection h1 with _ _ h3
       exact h3.symm
      obtain ⟨v',w',g1,g2,g3⟩:=run_append_arg_grows (P:=P) w t o.type e inf z s0 inf.bytes hu ay hz bg rfl a5 ar oa rows.length oc cf az.len h2 sa news.length sc vals ak.len c5 (by omega) (by unfold maxLen;omega) (by rw [bh];exact aj);unfold Oper.wp;rw [HO ho a2 ha hat (by rw [h1,cu];exact g1)];refine hK _ _ ?_;refine Sr (rows:=rows) (v:=.slice none 0 0) hR ak.rd ak.row au a6 none (fun _ h=>by cases h) (fun b h=>by simp [Value.ownBlock] at h) az.rd az.row az.len g2 g3 (.inr fun b hb=>?_);rcases g2.2 with ⟨rfl,_⟩ | ⟨g,cap,db,rfl,de,_⟩
      ·simp [Value.ownBlock] at hb
      ·simp [Value.ownBlock] at hb;omega
   ·-- an array of the call's own
    rename_i l ba;split at h
    ·rename_i e' s' rows b5;cases hb:(Nat.beq e e'&&Nat.beq ao s') with
     |false=>simp [hb] at h
     |true=>
      simp only [hb,QhY] at h;simp only [QhV] at hb;obtain rfl:=QhW hb.1;obtain rfl:=QhW hb.2;obtain ⟨_,h,aj⟩:=QM h;obtain ⟨hn,h⟩:=UR h;refine ⟨_,h,fun hg=>?_⟩;have aj:=N2 (aj hg);intro β S st a w hR hO hA a8 K Q hK;have au:look st.h aq=none:=by rw [hA aq (.inr (by simp [wrL]))];exact hn
      have bb:look st.h l=some (.arr e ao rows):=by rw [hA l (.inl (by simp))];exact b5
      have a6:Us st aq=true:=by simp [We,au] at a8;exact a8
      obtain ⟨vals,ak⟩:=Q25 ar a3 hR (hO.at br) (fun l a4=>hA l (.inl (by simp [a4])));have bj:rows.length+news.length<=140737488355328:=Nat.le_trans (by have:=Qii (rows.length+news.length) ax;omega) aj;have b6:∀ (base:Nat) (xs:List Value) (v:Value),a.eval s=v->w.ownsRow base e ao v rows.length xs->base<=w.heap.size->(∀ b,v.ownBlock=some b->β l=some b) ->
        (∀ (i j:Nat) (r:List D) (y:D),rows[i]? = some r->r[j]? = some y->∃ u,xs[i*ao+j]? = some u/\Rd S w u y)->(∀ (i:Nat) (r:List D),rows[i]? = some r->r.length=ao)->o.wp P a w K Q:=by
       intro base xs v hv bl bo ca cz ce;obtain ⟨v',w',g1,g2,g3,g4⟩:=Pa (ty:=o.type) hu ay hz bg a5 ar bl ak (by unfold maxLen;omega) (by rw [bh];exact aj) bo;unfold Oper.wp;rw [HO ho a2 ha hat (by rw [hv];exact g1)];refine hK _ _ ?_;exact Ei (rows:=rows) (v:=v) hR ak au a6 (some l) (fun l' h=>by injection h with h;subst h;simp [bb]) (fun b h=>⟨l,rfl,ca b h⟩) cz ce bl.1 g2 g3 g4
      rcases RdA.arr_inv bb (ba▸hO.at bx) with ⟨_,a7,hv⟩ | ⟨b,cap,cs,ty,fz,bq,hv,hw,b9,b4,cg⟩
      ·have:=World.ownsRow_nil w w.heap.size e ao;exact b6 w.heap.size [] _ hv (by rw [a7];exact this) (Qih _) (fun b h=>by simp [Value.ownBlock] at h) (fun i j r y h1=>by rw [a7] at h1;simp at h1) (fun i r h1=>by rw [a7] at h1;simp at h1)
      ·rcases hR.hr.ob l _ bb with ⟨ck,_⟩ | ⟨b2,cy,b8,bn,c9,b7,bv⟩
       ·rw [bq] at ck;cases ck
       obtain rfl:b=b2:=by rw [bq] at b8;injection b8
       obtain rfl:cs=cy:=by rw [hw] at bn;injection bn with h1;injection h1
       refine b6 0 (cs.toList.take (rows.length*ao)) _ hv ⟨by simp;omega,.inr ⟨b,cap,cs,rfl,Nat.zero_le _,bn,b4,cg,b9,rfl⟩⟩ (Nat.zero_le _) (fun b3 h=>by simp [Value.ownBlock] at h;subst h;exact bq) (fun i j r y h1 h2=>?_) b7;obtain ⟨u,co,cx⟩:=bv i j r y h1 h2;have hi:i<rows.length:=(QhU.1 h1).1;have hj:j<ao:=by have:=b7 i r h1;have:=(QhU.1 h2).1;omega
       have da:(i+1)*ao<=rows.length*ao:=Qi0 _ hi;have c3:(i+1)*ao=i*ao+ao:=Qim i _;exact ⟨u,by rw [List.getElem?_take,Qia (by omega)];simpa using co,cx⟩
    ·cases h
   ·cases h
end
end Go.Vx
namespace Go.Vx
section
variable {P:Program} {E:Env} {R:Type}
def KE (h:Nat->Option Ob):List (Nat × Option Ob)->Nat->Option Ob
 |[]=>h
 |(l,o)::r=>KE (fun k=>if k=l then o else h k) r
theorem KT:∀ (wr:List (Nat × Option Ob)) (h:List (Nat × Ob)),look (NL h wr)=KE (look h) wr
 |[],h=>rfl
 |(l,some o)::r,h=>by
  rw [NL,KE,KT r];congr 1;funext k;exact WL l k o h
 |(l,none)::r,h=>by
  rw [NL,KE,KT r];congr 1;funext k;exact C3 l k h
theorem UL:∀ {wr:List (Nat × Option Ob)} {h:Nat->Option Ob} {l:Nat},l ∉ wr.map (·.1)->KE h wr l=h l
 |[],_,_,_=>rfl
 |(k,o)::r,h,l,hn=>by
  simp only [Qin,Qic,not_or] at hn;rw [KE,UL hn.2,Qi6 hn.1]
structure CallOut (β:Nat->Option Nat) (S:Nat->Prop) (h:Nat->Option Ob) (w:World) (dl:Dl) (β':Nat->Option Nat) (S':Nat->Prop) (w':World) (v:Value):Prop where
 hs:∀ b,S b->S' b
 sf:∀ b,S' b->S b\/w.heap.size<=b\/∃ l,l∈wrL dl/\(h l).isSome=true/\β l=some b
 sb:∀ b,S' b->b<w'.heap.size
 fr:Fr (fun b=>∃ l,l∈wrL dl/\(h l).isSome=true/\β l=some b) w w'
 bsame:∀ l,l ∉ wrL dl->β' l=β l
 obs:∀ l o,l∈wrL dl->KE h dl.wr l=some o->ObR β' S' (KE h dl.wr) w' l o
 keep:∀ l,l∈wrL dl->(h l).isSome=true->Keep β h w β' (KE h dl.wr) w' l
 blk:∀ l b,l∈wrL dl->(KE h dl.wr l).isSome=true->β' l=some b->(w.heap.size<=b\/∃ l0,l0∈wrL dl/\(h l0).isSome=true/\β l0=some b)/\¬ S' b
 inj:∀ l l' b,l∈wrL dl->l'∈wrL dl->(KE h dl.wr l).isSome=true->(KE h dl.wr l').isSome=true->β' l=some b->β' l'=some b->l=l'
 none:∀ l,l∈wrL dl->h l=none->KE h dl.wr l=none->β' l=β l
 res:RdA β' S' (KE h dl.wr) w' tm0 v dl.v
 gd:∀ t,gds t dl.v=false
structure Objs (β:Nat->Option Nat) (S:Nat->Prop) (h:Nat->Option Ob) (w:World):Prop where
 ob:∀ l o,h l=some o->ObR β S h w l o
 inj:∀ l l' b,(h l).isSome=true->(h l').isSome=true->β l=some b->β l'=some b->l=l'
 apart:∀ l b,(h l).isSome=true->β l=some b->¬ S b
 sb:∀ b,S b->b<w.heap.size
def ArgsRd (β:Nat->Option Nat) (S:Nat->Prop) (h:Nat->Option Ob) (w:World) (args:List Value) (aj:List AV):Prop:=
 args.length=aj.length/\∀ (i:Nat) (v:Value) (av:AV),args[i]? = some v->aj[i]? = some av->RdA β S h w tm0 v av
def Zi (P:Program) (f:Nat) (avs:List AV) (hl:Nat->Option Ob) (dl:Dl):Prop:=
 (∃ fn, P.funcs[f]? = some fn /\ fn.body.isSome = true /\ (fn.name == "runtime.NumGoroutine") = false) /\
 ∀ β S h w args,Objs β S h w->ArgsRd β S h w args avs->(∀ l,l∈dl.rd\/l∈wrL dl->h l=hl l) ->
  Calls P f args.toArray w fun e w'=>∃ v β' S',e = .returned v/\CallOut β S h w dl β' S' w' v
def CP (P:Program) (spec:Q4r):Prop:=
 ∀ (R:Type) (f ak:Nat) (g:Bool) (aj:List AV) (hl:Nat->Option Ob) (k:Dl->Option R) (r:R),spec R f ak g aj hl k=some r ->
  ∃ dl,k dl=some r/\(g=true->Zi P f aj hl dl)
theorem Rel.objs {β:Nat->Option Nat} {S:Nat->Prop} {st:St} {a:Act} {w:World} (hR:Rel E β S st a w):Objs β S (look st.h) w:=⟨hR.hr.ob,hR.hr.inj,hR.hr.apart,hR.hr.sb⟩
theorem Q9X {β:Nat->Option Nat} {S S2:Nat->Prop} {h:Nat->Option Ob} {w:World} {tm:Nat->Value} {v:Value} {av:AV} (hv:RdA β S h w tm v av) (hs:SE av=true):RdA β S2 h w tm v av:=by
 have hL:∀ (l:List AV) (i:Nat) (x:AV),l[i]? = some x->RJ l=true->SE x=true:=by
  intro l;induction l with
  |nil=>simp_all
  |cons a r ih=>
   intro i x h hs;simp only [RJ,QhV] at hs
   grind
 induction hv with
 |top v=>exact .top v
 |d v x hx=>cases hx with
  |int k n=>exact .d _ _ (.int k n)
  |bool b=>exact .d _ _ (.bool b)
  |str s=>exact .d _ _ (.str s)
  |sl0 a c s=>trivial
  |sl=>simp [SE] at hs
 |nil=>exact .nil
 |ag cs l hl _ ih=>exact .ag cs l hl fun i x hx=>ih i x hx (hL l i x hx (by assumption))
 |tup cs l hl _ ih=>exact .tup cs l hl fun i x hx=>ih i x hx (hL l i x hx (by simpa [SE] using hs))
 |fn=>simp [SE] at hs
 |ptr l off b hb=>exact .ptr l off b hb
 |sa v l t b hb hv=>exact .sa v l t b hb hv
 |el=>simp [SE] at hs
 |fs=>simp [SE] at hs
 |mpd=>simp [SE] at hs
 |ex v=>exact .ex v
 |arr0 l e s hb hh=>exact .arr0 l e s hb hh
 |arr l b cap e s rows cs ty fz hb hh hw ao ak an=>exact .arr l b cap e s rows cs ty fz hb hh hw ao ak an
 |mp l b t f hb hh=>exact .mp l b t f hb hh
 |ap l i off b e s rows hb hh=>exact .ap l i off b e s rows hb hh
 |dang v av l hl hh h1=>exact .dang v av l hl hh h1
 |gdT=>simp [SE] at hs
 |gdF=>simp [SE] at hs
theorem QaE {β β':Nat->Option Nat} {S S':Nat->Prop} {st:St} {a:Act} {w w':World} {v:Value} (hR:Rel E β S st a w) {dl:Dl} (a6:We st dl.wr=true) (hc:CallOut β S (look st.h) w dl β' S' w' v) :
  Rel E β' S' ⟨st.n,st.tm,NL st.h dl.wr⟩ a w':=by
 have an:=KT dl.wr st.h;have a3:∀ b,S b->w'.heap[b]? = w.heap[b]?:=fun b hS=>hc.fr.block b (hR.hr.sb b hS) (fun ⟨l,_,hs,hb⟩=>hR.hr.apart l b hs hb hS)
 have au:∀ l,l∈wrL dl->look st.h l=none->KE (look st.h) dl.wr l=none\/Us st l=true:=by
  intro l hl hn;have:∀ (wr:List (Nat × Option Ob)) (h:Nat->Option Ob),We st wr=true->h l=none->KE h wr l=none\/Us st l=true:=by
   intro wr;induction wr with
   |nil=>intro h _ hn;exact .inl hn
   |cons x r ih=>
    intro h aw a5;obtain ⟨k,o⟩:=x;simp only [We,QhV] at aw;by_cases e:l=k
    ·subst e;cases o with
     |none=>exact ih _ aw.2 (by simp)
     |some o=>
      simp_all
    ·exact ih _ aw.2 (by simp_all)
  simp_all
 refine hR.upd hc.hs a3 (fun l=>l∈wrL dl) (fun l hl=>?_) (fun l hl=>?_) (fun l o hl ho=>?_) ?_ ?_ ?_ hc.sb ?_ ?_
 ·refine ⟨hc.bsame l hl,by rw [an];exact UL hl,fun b hs hb=>hc.fr.block b (Rt hR hs hb) (fun ⟨l',ar,aq,ak⟩=>?_)⟩;exact hl (by rw [hR.hr.inj l l' b hs aq hb ak];exact ar)
 ·cases hs:look st.h l with
  |some o=>left;rw [an];exact hc.keep l hl (by simp [hs])
  |none=>
   rcases au l hl hs with h | h
   ·left;refine ⟨?_,fun _=>(by simp_all),fun e s rows h'=>(by simp_all),fun b cs ty fz h'=>(by simp_all),fun t f h'=>(by rw [hs] at h';cases h')⟩;exact hc.none l hl hs h
   simp_all
 ·rw [an] at ho ⊢;exact hc.obs l o hl ho
 ·intro l l' b h1 h2 h3 h4;rw [an] at h1 h2;by_cases e1:l∈wrL dl <;> by_cases e2:l'∈wrL dl
  ·exact hc.inj l l' b e1 e2 h1 h2 h3 h4
  ·rw [UL e2] at h2;rw [hc.bsame l' e2] at h4;rcases (hc.blk l b e1 h1 h3).1 with h | ⟨l0,ay,hs,hb⟩
   ·have:=Rt hR h2 h4;omega
   ·exact absurd ay (by rw [hR.hr.inj l0 l' b hs h2 hb h4];exact e2)
  ·rw [UL e1] at h1;rw [hc.bsame l e1] at h3;rcases (hc.blk l' b e2 h2 h4).1 with h | ⟨l0,ay,hs,hb⟩
   ·have:=Rt hR h1 h3;omega
   ·exact absurd ay (by rw [<- hR.hr.inj l l0 b h1 hs h3 hb];exact e1)
  ·rw [UL e1] at h1;rw [UL e2] at h2;rw [hc.bsame l e1] at h3;rw [hc.bsame l' e2] at h4;exact hR.hr.inj l l' b h1 h2 h3 h4
 ·intro l b h1 h2 hS;rw [an] at h1;by_cases e1:l∈wrL dl
  ·exact (hc.blk l b e1 h1 h2).2 hS
  ·rw [UL e1] at h1;rw [hc.bsame l e1] at h2;rcases hc.sf b hS with h | h | ⟨l',ar,aq,ak⟩
   ·exact hR.hr.apart l b h1 h2 h
   ·have:=Rt hR h1 h2;omega
   ·exact e1 (by rw [hR.hr.inj l l' b h1 aq h2 ak];exact ar)
 ·intro l b h1 h2;rw [an] at h1;by_cases e1:l∈wrL dl
  ·rcases (hc.blk l b e1 h1 h2).1 with h | ⟨l0,_,hs,hb⟩
   ·right;have:=hR.hr.fr.size;omega
   ·exact hR.hr.own l0 b hs hb
  ·rw [UL e1] at h1;rw [hc.bsame l e1] at h2;exact hR.hr.own l b h1 h2
 ·intro b hS;rcases hc.sf b hS with h | h | ⟨l',ar,aq,ak⟩
  ·exact hR.hr.sfr b h
  ·right;right;have:=hR.hr.fr.size;omega
  ·exact .inr (hR.hr.own l' b aq ak)
 ·have fr:=hR.hr.fr;refine ⟨hc.fr.os.trans fr.os,hc.fr.tape.trans fr.tape,hc.fr.output.trans fr.output,Nat.le_trans fr.size hc.fr.size,fun b hb hM=>(hc.fr.block b (Qik hb fr.size) (fun ⟨l,_,hs,ak⟩=>?_)).trans (fr.block b hb hM)⟩;rcases hR.hr.own l b hs ak with h | h
  all_goals grind
end
end Go.Vx
namespace Go.Vx
section
variable {P:Program} {E:Env} {R:Type}
def fzS (β:Nat->Option Nat) (S:Nat->Prop) (bs:List Nat):Nat->Prop:=fun b=>S b\/∃ l,l∈bs/\β l=some b
def fzH (h:Nat->Option Ob) (bs:List Nat):Nat->Option Ob:=fun k=>if k∈bs then none else h k
theorem QbV (β:Nat->Option Nat) (h:Nat->Option Ob) (w:World) (bs:List Nat) (l:Nat):Keep β h w β (fzH h bs) w l:=by
 by_cases hl:l∈bs
 ·have hn:fzH h bs l=none:=by grind [fzH]
  exact ⟨rfl,fun _=>hn,fun _ _ _ _=>.inl hn,fun b cs ty fz hs=>(by simp_all),fun _ _ _=>.inl hn⟩
 ·have hn:fzH h bs l=h l:=by simp [fzH,hl]
  exact ⟨rfl,fun h=>by simp_all,fun e s rows hh=>.inr ⟨rows,by simp_all,rfl⟩,fun b cs ty fz _ _ hw=>⟨cs,ty,fz,hw,rfl⟩,fun _ f hh=>.inr ⟨f,by rw [hn];exact hh⟩⟩
theorem Q80 {β:Nat->Option Nat} {S:Nat->Prop} {h:Nat->Option Ob} {w:World} {tm:Nat->Value} {v:Value} {av:AV} (bs:List Nat) (hv:RdA β S h w tm v av):RdA β (fzS β S bs) (fzH h bs) w tm v av:=
 hv.mono (fun _ hb=>.inl hb) (fun _ _=>rfl) (fun _ _=>QbV ..) (fun _ _=>rfl)
theorem Objs.fz {β:Nat->Option Nat} {S:Nat->Prop} {h:Nat->Option Ob} {w:World} (hO:Objs β S h w) (bs:List Nat) (aw:∀ l,l∈bs->∃ e s rows,h l=some (.arr e s rows)) (a3:∀ l b,(h l).isSome=true->β l=some b->b<w.heap.size):Objs β (fzS β S bs) (fzH h bs) w:=by
 have aj:∀ l,(fzH h bs l).isSome=true->(h l).isSome=true/\l ∉ bs:=by
  grind [fzH]
 refine ⟨fun l o ho=>?_,fun l l' b h1 h2=>hO.inj l l' b (aj l h1).1 (aj l' h2).1,fun l b h1 h2 hS=>?_,fun b hS=>?_⟩
 ·have az:h l=some o:=by
   grind [fzH]
  have ak:=hO.ob l o az;cases o with
  |box cells=>
   obtain ⟨b,ty,cs,fz,hb,hw,hf,an,hr⟩:=ak;exact ⟨b,ty,cs,fz,hb,hw,hf,an,fun i x hx=>Q80 bs (hr i x hx)⟩
  |arr e s rows=>
   rcases ak with h0 | ⟨b,cs,hb,hw,an,ay,hr⟩
   ·exact .inl h0
   ·refine .inr ⟨b,cs,hb,hw,an,ay,fun i j r x h4 h5=>?_⟩;obtain ⟨v,hv,ax⟩:=hr i j r x h4 h5;exact ⟨v,hv,ax.mono (fun _ hb=>.inl hb) (fun _ _=>rfl)⟩
  |mp t f=>exact ak
 ·obtain ⟨ar,hn⟩:=aj l h1;rcases hS with hS | ⟨l',aq,a2⟩
  ·exact hO.apart l b ar h2 hS
  ·obtain ⟨e,s,rows,hh⟩:=aw l' aq;exact hn (by rw [hO.inj l l' b ar (by simp [hh]) h2 a2];exact aq)
 ·rcases hS with hS | ⟨l,hl,hb⟩
  ·exact hO.sb b hS
  grind
theorem Q6i {β:Nat->Option Nat} {S:Nat->Prop} {h:Nat->Option Ob} {w:World} {tm:Nat->Value} {v:Value} {l e s:Nat} {rows:List (List D)} (hO:Objs β S h w) (hh:h l=some (.arr e s rows)) (hv:RdA β S h w tm v (.arr l)) {S':Nat->Prop} (hS:∀ b,S b->S' b) (hb:∀ b,β l=some b->S' b) :
  Rd S' w v (.sl s rows):=by
 rcases RdA.arr_inv hh hv with ⟨_,rfl,rfl⟩ | ⟨b,cap,cs,ty,fz,ar,rfl,hw,az,aj,_⟩
 ·exact .sl0 _ _ _
 ·rcases hO.ob l _ hh with ⟨hn,_⟩ | ⟨b2,ak,a2,an,ao,aq,au⟩
  ·simp_all
  obtain rfl:b=b2:=by simp_all
  have hR:UU S' w ak s rows:=⟨ao,aq,fun i j r x h1 h2=>by
   obtain ⟨u,hu,hr⟩:=au i j r x h1 h2;exact ⟨u,hu,hr.mono hS (fun _ _=>rfl)⟩⟩
  exact hR.rd an (hb b ar) aj
theorem FO {hl:Nat->Option Ob} {av aj:AV} {bs:List Nat} (h:Q6L hl av=some (aj,bs)) :
  (bs=[]/\aj=av/\AK av=true)\/∃ l e s rows,av = .arr l/\aj = .d (.sl s rows)/\bs=[l]/\hl l=some (.arr e s rows):=by
 unfold Q6L at h
 grind
theorem CM {hl:Nat->Option Ob}:∀ {l l':List AV} {bs:List Nat},D4 hl l=some (l',bs)->l'.length=l.length/\∀ (i:Nat) (av:AV),l[i]? = some av->∃ aj b,l'[i]? = some aj/\Q6L hl av=some (aj,b)/\∀ x∈b,x∈bs
 |[],l',bs,h=>by
  simp only [D4,Option.some.injEq,Prod.mk.injEq] at h;obtain ⟨rfl,rfl⟩:=h;exact ⟨rfl,fun i av h=>by simp at h⟩
 |a::r,l',bs,h=>by
  simp only [D4] at h;split at h
  ·rename_i a' b ha;split at h
   ·rename_i r' b' hr;simp only [Option.some.injEq,Prod.mk.injEq] at h;obtain ⟨rfl,rfl⟩:=h;obtain ⟨h1,h2⟩:=CM hr;refine ⟨by simp [h1],fun i av hi=>?_⟩;cases i with
    |zero=>simp at hi;subst hi;exact ⟨a',b,rfl,ha,fun x hx=>by simp [hx]⟩
    |succ i=>
     obtain ⟨aj,b2,g1,g2,g3⟩:=h2 i av (by simpa using hi);exact ⟨aj,b2,by simpa using g1,g2,fun x hx=>by simp [g3 x hx]⟩
   ·cases h
  ·cases h
theorem Q2p {hl:Nat->Option Ob}:∀ {l l':List AV} {bs:List Nat},D4 hl l=some (l',bs)->∀ x∈bs,∃ e s rows,hl x=some (.arr e s rows)
 |[],l',bs,h=>by
  simp only [D4,Option.some.injEq,Prod.mk.injEq] at h;obtain ⟨_,rfl⟩:=h;simp
 |a::r,l',bs,h=>by
  simp only [D4] at h;split at h
  ·rename_i a' b ha;split at h
   ·rename_i r' b' hr;simp only [Option.some.injEq,Prod.mk.injEq] at h;obtain ⟨_,rfl⟩:=h;intro x hx;rcases Qil.1 hx with hx | hx
    ·rcases FO ha with ⟨rfl,_⟩ | ⟨l,e,s,rows,_,_,rfl,hh⟩
     ·simp at hx
     ·simp at hx;subst hx;exact ⟨e,s,rows,hh⟩
    ·exact Q2p hr x hx
   ·cases h
  ·cases h
theorem Cr {hl:Nat->Option Ob} {av aj:AV} {bs:List Nat} (h:Ra hl av=some (aj,bs)):∀ x∈bs,∃ e s rows,hl x=some (.arr e s rows):=by
 unfold Ra at h;split at h
 ·split at h
  ·rename_i ak l hc;obtain ⟨_,rfl⟩:=h;exact Q2p hc
  ·cases h
 ·rcases FO h with ⟨rfl,_⟩ | ⟨l,e,s,rows,_,_,rfl,hh⟩
  all_goals grind
theorem FI {hl:Nat->Option Ob}:∀ {l l':List AV} {bs:List Nat},R7 hl l=some (l',bs)->∀ x∈bs,∃ e s rows,hl x=some (.arr e s rows)
 |[],l',bs,h=>by
  simp only [R7,Option.some.injEq,Prod.mk.injEq] at h;obtain ⟨_,rfl⟩:=h;simp
 |a::r,l',bs,h=>by
  simp only [R7] at h;split at h
  ·rename_i a' b ha;split at h
   ·rename_i r' b' hr;simp only [Option.some.injEq,Prod.mk.injEq] at h;obtain ⟨_,rfl⟩:=h;intro x hx;rcases Qil.1 hx with hx | hx
    ·exact Cr ha x hx
    ·exact FI hr x hx
   ·cases h
  ·cases h
theorem MK {hl:Nat->Option Ob}:∀ {l l':List AV} {bs:List Nat},R7 hl l=some (l',bs)->l'.length=l.length/\∀ (i:Nat) (av:AV),l[i]? = some av->∃ aj b,l'[i]? = some aj/\Ra hl av=some (aj,b)/\∀ x∈b,x∈bs
 |[],l',bs,h=>by
  simp only [R7,Option.some.injEq,Prod.mk.injEq] at h;obtain ⟨rfl,rfl⟩:=h;exact ⟨rfl,fun i av h=>by simp at h⟩
 |a::r,l',bs,h=>by
  simp only [R7] at h;split at h
  ·rename_i a' b ha;split at h
   ·rename_i r' b' hr;simp only [Option.some.injEq,Prod.mk.injEq] at h;obtain ⟨rfl,rfl⟩:=h;obtain ⟨h1,h2⟩:=MK hr;refine ⟨by simp [h1],fun i av hi=>?_⟩;cases i with
    |zero=>simp at hi;subst hi;exact ⟨a',b,rfl,ha,fun x hx=>by simp [hx]⟩
    |succ i=>
     obtain ⟨aj,b2,g1,g2,g3⟩:=h2 i av (by simpa using hi);exact ⟨aj,b2,by simpa using g1,g2,fun x hx=>by simp [g3 x hx]⟩
   ·cases h
  ·cases h
theorem Qdh {β:Nat->Option Nat} {S:Nat->Prop} {h hl:Nat->Option Ob} {w:World} {tm:Nat->Value} {v:Value} {av aj:AV} {b bs:List Nat} (hO:Objs β S h w) (hA:∀ l,l∈bs->h l=hl l) (hb:∀ x∈b,x∈bs) (hc:Q6L hl av=some (aj,b)) (hv:RdA β S h w tm v av) :
  RdA β (fzS β S bs) (fzH h bs) w tm0 v aj:=by
 rcases FO hc with ⟨_,rfl,hn⟩ | ⟨l,e,s,rows,rfl,rfl,rfl,hh⟩
 ·exact Q80 bs (hv.to_tm0 hn)
 ·exact .d _ _ (Q6i hO (by rw [hA l (hb l (by simp))];exact hh) hv (fun _ h=>.inl h) (fun b' h'=>.inr ⟨l,hb l (by simp),h'⟩))
theorem Q60 {β:Nat->Option Nat} {S:Nat->Prop} {h hl:Nat->Option Ob} {w:World} {tm:Nat->Value} {v:Value} {av aj:AV} {b bs:List Nat} (hO:Objs β S h w) (hA:∀ l,l∈bs->h l=hl l) (hb:∀ x∈b,x∈bs) (hc:Ra hl av=some (aj,b)) (hv:RdA β S h w tm v av) :
  RdA β (fzS β S bs) (fzH h bs) w tm0 v aj:=by
 unfold Ra at hc;split at hc
 ·rename_i cs;split at hc
  ·rename_i ao l an;obtain ⟨rfl,rfl⟩:=hc;obtain ⟨vs,rfl,ak,hr⟩:=hv.ag_inv;obtain ⟨h1,h2⟩:=CM an;refine .ag _ _ (by rw [ak,h1]) fun i x hx=>?_
   have hi:i<cs.length:=by grind
   have hc:=Qi9 hi
   grind [Qdh]
  ·cases hc
 grind [Qdh]
theorem Q4j {o : Oper} {c : Call} {f : Nat} (ho : o.op = .call c) (hc : c.callee = .value (.func f)) {fn : Func} (hf : P.funcs[f]? = some fn) (hb : fn.body.isSome = true) (hn : (fn.name == "runtime.NumGoroutine") = false) {a : Act} {w : World} :
  (execOp a.eval o).run P w = .ok (.enter f (c.args.map a.eval)) w:=by
 unfold execOp;rw [ho];have h1 : ¬ fn.name = "runtime.NumGoroutine" := by simp_all
 have h2:¬ fn.body=none:=by intro h;rw [h] at hb;cases hb
 simp_all [resolve,Act.eval,Deferred.ofValue,invoke,callFunc]
theorem Bu {x:Nat}:∀ {l:List Nat},x∈l->Pr x l=true
 |a::r,h=>by
  rcases Qic.1 h with rfl | h
  ·simp [Pr]
  ·simp [Pr,Bu h]
theorem JM {a b:List Nat} (h:HI a b=false) {x:Nat} (h1:x∈a) (h2:x∈b):False:=by
 grind [HI,List.any_eq_false,Bu]
theorem Eo {h h':Nat->Option Ob}:∀ {wr:List (Nat × Option Ob)} {k:Nat},(k ∉ wr.map (·.1)->h k=h' k)->KE h wr k=KE h' wr k
 |[],k,hk=>hk (by simp)
 |(l,o)::r,k,hk=>by
  simp only [KE];refine Eo fun hn=>?_
  by_cases e:k=l
  ·simp [e]
  ·rw [Qi6 e,Qi6 e];exact hk (by simp [e,hn])
theorem MQ {h:Nat->Option Ob} {bs:List Nat} {l:Nat} (hl:l ∉ bs):fzH h bs l=h l:=by grind [fzH]
theorem Qce (β:Nat->Option Nat) (S:Nat->Prop):fzS β S []=S:=by funext b;simp [fzS]
theorem Qcc (h:Nat->Option Ob):fzH h []=h:=by funext b;simp [fzH]
theorem Q6E {wr:List (Nat × Option Ob)} (hw:Vm wr=true):∀ (h:Nat->Option Ob) {l:Nat} {o:Ob},l∈wr.map (·.1)->KE h wr l=some o->(∃ cells,o = .box cells/\RJ cells=true/\(l,some o)∈wr)\/∃ e s rows,o = .arr e s rows/\B5 rows=true:=by
 induction wr with
 |nil=>simp_all
 |cons x r ih=>
  intro h l o hl ho;obtain ⟨k,ob⟩:=x;have aj:Vm r=true:=by
   cases ob with
   |none=>assumption
   |some ob=>cases ob <;> first | simp_all [Vm,QhV] | (simp [Vm] at hw)
  simp only [KE] at ho;by_cases hr:l∈r.map (·.1)
  ·grind
  ·rw [UL hr] at ho;simp only [Qin,Qic,hr,or_false] at hl;rw [Qia hl] at ho;subst hl;subst ho;cases o with
   |box cells=>simp_all [Vm,QhV]
   |arr e s rows=>simp only [Vm,QhV] at hw;exact .inr ⟨e,s,rows,rfl,hw.1⟩
   |mp t f=>simp [Vm] at hw
theorem Kq:∀ {wr:List (Nat × Option Ob)},CB wr=true->Vm wr=true
 |[],_=>rfl
 |(_,none)::r,h=>by simp only [CB,QhV] at h;simp only [Vm];exact Kq h.2
 |(_,some (.box cells))::r,h=>by simp only [CB,Q7Q,QhV] at h;simp only [Vm,QhV];exact ⟨h.1,Kq h.2⟩
 |(_,some (.arr ..))::r,h=>by simp [CB,Q7Q] at h
theorem Gq {tt:TT}:∀ {wr:List (Nat × Option Ob)},FJ tt wr=true->(Q2a wr).all B5=true->Vm wr=true
 |[],_,_=>rfl
 |(_,none)::r,h,h2=>by simp only [FJ] at h;simp only [Q2a] at h2;simp only [Vm];exact Gq h h2
 |(_,some (.box cells))::r,h,h2=>by simp only [FJ,QhV] at h;simp only [Q2a] at h2;simp only [Vm,QhV];exact ⟨h.1,Gq h.2 h2⟩
 |(_,some (.arr _ _ rows))::r,h,h2=>by simp only [FJ,QhV] at h;simp only [Q2a,List.all_cons,QhV] at h2;simp only [Vm,QhV];exact ⟨h2.1,Gq h.2 h2.2⟩
theorem QbJ {S S2:Nat->Prop} {w:World} {v:Value} {x:D} (h:Rd S w v x) (hf:Q4G x=true):Rd S2 w v x:=by
 cases h with
 |int k n=>exact .int k n
 |bool b=>exact .bool b
 |str s=>exact .str s
 |sl0 a c s=>trivial
 |sl=>simp [Q4G] at hf
theorem Q9W {rows:List (List D)} (h:B5 rows=true) {i j:Nat} {r:List D} {x:D} (h1:rows[i]? = some r) (h2:r[j]? = some x):Q4G x=true:=by
 simp only [B5,Qid] at h;exact h r (Qi2 h1) x (Qi2 h2)
theorem Q29:∀ {l:List AV} {i:Nat} {x:AV},l[i]? = some x->RJ l=true->SE x=true
 |a::r,i,x,h,hs=>by
  simp only [RJ,QhV] at hs;cases i with
  |zero=>simp at h;subst h;exact hs.1
  |succ i=>exact Q29 (l:=r) (i:=i) (by simpa using h) hs.2
theorem Q8h {l k:Nat} {cells:List AV} {wr:List (Nat × Option Ob)} (hm:(k,some (Ob.box cells))∈wr) (hn:TP l wr=false):Gv l cells=false:=by
 induction wr with
 |nil=>simp at hm
 |cons x r ih=>
  obtain ⟨k',o⟩:=x;rcases Qic.1 hm with h1 | h1
  ·grind [TP,Bool.or_eq_false_iff]
  ·cases o with
   |none=>grind [TP]
   |some o=>
    cases o with
    |box c=>grind [TP,Bool.or_eq_false_iff]
    |arr e s rows=>exact ih h1 (by assumption)
    |mp t f=>exact ih h1 (by simpa [TP] using hn)
theorem Q5G {h h':Nat->Option Ob} {wr:List (Nat × Option Ob)} {k:Nat} (hk:k∈wr.map (·.1)):KE h wr k=KE h' wr k:=Eo fun hn=>absurd hk hn
theorem CallOut.back {β β':Nat->Option Nat} {S S':Nat->Prop} {h:Nat->Option Ob} {w w':World} {dl:Dl} {v:Value} {bs:List Nat} (hO:Objs β S h w) (bb:∀ l,l∈bs->∃ e s rows,h l=some (.arr e s rows))
  (hm:HI bs (wrL dl)=false) (ar:CL bs dl=true) (a6:SE dl.v=true) (a5:Vm dl.wr=true) (hc:CallOut β (fzS β S bs) (fzH h bs) w dl β' S' w' v) :
  CallOut β S h w dl β' (fun b=>S' b/\¬ ∃ l,l∈bs/\β l=some b) w' v:=by
 have aj:∀ l,l∈wrL dl->l ∉ bs:=fun l h1 h2=>JM hm h2 h1
 have aq:∀ l,l∈bs->(h l).isSome=true:=fun l hl=>by grind
 have ak:∀ l,l ∉ bs->KE (fzH h bs) dl.wr l=KE h dl.wr l:=fun l hl=>Eo fun _=>MQ hl
 have ao:∀ (u:Value) (av:AV),SE av=true->(∀ l,l∈bs->WT l av=false)->RdA β' S' (KE (fzH h bs) dl.wr) w' tm0 u av->RdA β' (fun b=>S' b/\¬ ∃ l,l∈bs/\β l=some b) (KE h dl.wr) w' tm0 u av:=by
  intro u av hs hn hr;refine (Q9X (S2:=fun b=>S' b/\¬ ∃ l,l∈bs/\β l=some b) hr hs).mono (fun _ h=>h) (fun _ _=>rfl) (fun l hl=>?_) (fun _ _=>rfl);have a7:l ∉ bs:=fun hb=>by simp_all
  have he:=ak l a7;exact ⟨rfl,fun h=>by simp_all,fun e s rows hh=>.inr ⟨rows,by simp_all,rfl⟩,fun b cs ty fz _ _ hw=>⟨cs,ty,fz,hw,rfl⟩,fun _ f hh=>.inr ⟨f,by rw [<- he];exact hh⟩⟩
 simp only [CL,Qid,QhV,Bool.not_eq_true'] at ar;have an:∀ l,l∈wrL dl->fzH h bs l=h l:=fun l hl=>MQ (aj l hl)
 refine ⟨fun b hS=>⟨hc.hs b (.inl hS),fun ⟨l,hl,hb⟩=>hO.apart l b (aq l hl) hb hS⟩,fun b hS=>?_,fun b hS=>hc.sb b hS.1,?_,hc.bsame,fun l o hl ho=>?_,fun l hl hs=>?_,fun l b hl hs hb=>?_,fun l l' b h1 h2 h3 h4=>?_,fun l hl h1 h2=>?_,ao v dl.v a6 (fun l hl=>(ar l hl).1) hc.res,hc.gd⟩
 ·rcases hc.sf b hS.1 with h1 | h1 | ⟨l,h1,h2,h3⟩
  ·rcases h1 with h1 | h1
   all_goals grind
  all_goals grind
 ·exact hc.fr.mono fun b _ ⟨l,h1,h2,h3⟩=>⟨l,h1,by rw [<- an l h1];exact h2,h3⟩
 ·rcases Q6E a5 h hl ho with ⟨cells,rfl,az,aw⟩ | ⟨e,s,rows,rfl,a3⟩
  case inr=>
   rcases hc.obs l _ hl (by rw [ak l (aj l hl)];exact ho) with g | ⟨b,cs,g1,g2,g3,g4,g5⟩
   ·exact .inl g
   ·refine .inr ⟨b,cs,g1,g2,g3,g4,fun i j r y h1 h2=>?_⟩;obtain ⟨u,q1,q2⟩:=g5 i j r y h1 h2;exact ⟨u,q1,QbJ q2 (Q9W a3 h1 h2)⟩
  obtain ⟨b,ty,cs,fz,hb,hw,hf,a2,hr⟩:=hc.obs l _ hl (by rw [ak l (aj l hl)];exact ho);exact ⟨b,ty,cs,fz,hb,hw,hf,a2,fun i x hx=>ao _ x (Q29 hx az) (fun l' a4=>Q2t hx (Q8h aw (ar l' a4).2)) (hr i x hx)⟩
 ·have K:=hc.keep l hl (by rw [an l hl];exact hs);have he:=ak l (aj l hl);exact ⟨K.b,fun h1=>by rw [<- he];exact K.none_ (by rw [an l hl];exact h1),fun e s rows h1=>by rw [<- he];exact K.arr e s rows (by rw [an l hl];exact h1),fun b cs ty fz h1=>K.cells b cs ty fz (by rw [he];exact h1),fun t f h1=>by rw [<- he];exact K.mp t f (by rw [an l hl];exact h1)⟩
 ·obtain ⟨h1,h2⟩:=hc.blk l b hl (by rw [ak l (aj l hl)];exact hs) hb;refine ⟨?_,fun h3=>h2 h3.1⟩;rcases h1 with h1 | ⟨l0,g1,g2,g3⟩
  ·exact .inl h1
  ·exact .inr ⟨l0,g1,by rw [<- an l0 g1];exact g2,g3⟩
 ·rw [<- ak l (aj l h1)] at h3;rw [<- ak l' (aj l' h2)] at h4;exact hc.inj l l' b h1 h2 h3 h4
 ·exact hc.none l hl (by rw [an l hl];exact h1) (by rw [ak l (aj l hl)];exact h2)
theorem SL {β β':Nat->Option Nat} {S S':Nat->Prop} {st:St} {a:Act} {w w':World} {v:Value} (hR:Rel E β S st a w) {dl:Dl} {rd:List Nat} (aj:We st dl.wr=true) (hc:CallOut β S (look st.h) w dl β' S' w' v) :
  Out E st a ⟨dl.v,dl.wr,rd⟩ v w':=by
 have h1:=QaE hR aj hc;have h2:=hc.res;rw [<- KT] at h2;refine ⟨β',S',h1,?_⟩;exact h2.mono (fun _ h=>h) (fun _ _=>rfl) (fun l _=>Keep.rfl_ ..) (fun t ht=>by rw [hc.gd t] at ht;cases ht)
def Q76 (P:Program) (E:Env) (o:Oper) (ev:Operand->AV) (f:Nat) (avs0:List AV):Prop:=
 ∀ β S st a w,Rel E β S st a w->Cz β S st a w o ev->∃ vals:List Value,vals.length=avs0.length/\(∀ (i:Nat) (v:Value) (x:AV),vals[i]? = some v->avs0[i]? = some x->RdA β S (look st.h) w (tmv a) v x) /\
  ∀ fn, P.funcs[f]? = some fn -> fn.body.isSome = true -> (fn.name == "runtime.NumGoroutine") = false -> (execOp a.eval o).run P w = .ok (.enter f vals.toArray) w
theorem Q6t {o:Oper} {c:Call} {f:Nat} (ho:o.op = .call c) (hc:c.callee = .value (.func f)) {ev:Operand->AV}:Q76 P E o ev f (c.args.toList.map ev):=by
 intro β S st a w hR hO;refine ⟨c.args.toList.map a.eval,by simp,fun i v x h1 h2=>?_,fun fn hf hb hn=>?_⟩
 ·simp only [Qi4,QhZ] at h1 h2;obtain ⟨y,hy,rfl⟩:=h1;obtain ⟨y',aj,rfl⟩:=h2;rw [hy] at aj;injection aj with aj
  subst aj;have ak:y∈o.op.operands.toList:=by
   grind [List.mem_of_getElem?,Op.operands,Call.operands]
  exact hO.at ak
 ·rw [Q4j ho hc hf hb hn];congr 2
  grind
theorem RdA.fn_inv {β:Nat->Option Nat} {S:Nat->Prop} {h:Nat->Option Ob} {w:World} {tm:Nat->Value} {v:Value} {f:Nat} {l:List AV} (hv:RdA β S h w tm v (.fn f l)):∃ cs:Array Value,v = .func (.func f) #[] cs/\cs.size=l.length/\∀ (i:Nat) (x:AV),l[i]? = some x->RdA β S h w tm (cs.getD i undef) x:=by
 cases hv with
 |fn _ cs _ hl hr=>simp_all
 |dang _ _ l hl _ _=>trivial
theorem Q78 {o:Oper} {c:Call} {t f:Nat} {cap:List AV} (ho:o.op = .call c) (hc:c.callee = .value (.tmp t)) {ev:Operand->AV} (hev:ev (.tmp t) = .fn f cap):Q76 P E o ev f (c.args.toList.map ev++cap):=by
 intro β S st a w hR hO;have hmt:Operand.tmp t∈o.op.operands.toList:=by simp [ho,Op.operands,Call.operands,hc]
 obtain ⟨cs,hcs,hsz,hr⟩:=(hev▸hO.at hmt).fn_inv;refine ⟨c.args.toList.map a.eval++cs.toList,by simp [hsz],fun i v x h1 h2=>?_,fun fn hf hb hn=>?_⟩
 ·rw [List.getElem?_append] at h1 h2;simp only [List.length_map] at h1 h2;split at h1
  ·rename_i hi;rw [Qia hi] at h2;simp only [Qi4,QhZ] at h1 h2;obtain ⟨y,hy,rfl⟩:=h1;obtain ⟨y',hy',rfl⟩:=h2;rw [hy] at hy';injection hy' with hy'
   subst hy';have hmem:y∈o.op.operands.toList:=by
    have:y∈c.args.toList:=Qi2 hy;simp only [ho,Op.operands,Call.operands,hc];simp at this;simp [this]
   exact hO.at hmem
  ·rename_i hi;rw [Qi6 hi] at h2;have:=hr _ x h2;have hlt:=(QhU.1 h1).1;have he:cs.getD (i-c.args.toList.length) undef=v:=by
    rw [Array.getElem?_toList] at h1;rw [Array.getD_eq_getD_getElem?,h1];rfl
   rw [he] at this;exact this
 ·have h1 : ¬ fn.name = "runtime.NumGoroutine" := by simpa using hn
  have h2:¬ fn.body=none:=by intro h;rw [h] at hb;cases hb
  have hv:a.eval (.tmp t) = .func (.func f) #[] cs:=hcs;unfold execOp;rw [ho];have harr:(c.args.toList.map a.eval++cs.toList).toArray=c.args.map a.eval++cs:=by apply Array.ext';simp
  rw [harr];simp [resolve,hc,hv,Deferred.ofValue,invoke,callFunc,hf,h1,h2]
theorem Q7u {β:Nat->Option Nat} {S:Nat->Prop} {st:St} {a:Act} {w:World} (hR:Rel E β S st a w) {hl:Nat->Option Ob} {vals:List Value} {aj:List AV} (au:vals.length=aj.length) (ak:∀ (i:Nat) (v:Value) (x:AV),vals[i]? = some v->aj[i]? = some x->RdA β S (look st.h) w (tmv a) v x) {an:List AV} {bs:List Nat}
  (ar:R7 hl aj=some (an,bs)) (aq:∀ l,l∈bs->look st.h l=hl l):ArgsRd β (fzS β S bs) (fzH (look st.h) bs) w vals an:=by
 obtain ⟨aw,ao⟩:=MK ar;refine ⟨by omega,fun i v av h1 h2=>?_⟩;have hi:i<aj.length:=by grind
 have hx:=Qi9 hi;obtain ⟨ay,b,g1,g2,g3⟩:=ao i _ hx;rw [h2] at g1;injection g1 with g1
 subst g1;exact Q60 hR.objs aq g3 g2 (ak i v _ h1 hx)
theorem Nn {o:Oper} {f:Nat} {ev:Operand->AV} {aj:List AV} (hF:Q76 P E o ev f aj) {hl:Nat->Option Ob} {ar:List AV} {bs:List Nat} {dl:Dl}
  (a5:R7 hl aj=some (ar,bs)) (a4:Zi P f ar hl dl) (hm:HI bs (wrL dl)=false) (ba:HI bs dl.rd=false) (a6:CL bs dl=true) (ak:bs=[]\/(SE dl.v=true/\Vm dl.wr=true)) :
  GQ P E o ev hl ⟨dl.v,dl.wr,bs++dl.rd⟩:=by
 intro β S st a w hR hO hA a7 K Q hK;obtain ⟨⟨fn,hf,hb,hn⟩,an⟩:=a4;have ay:∀ l,l∈bs->look st.h l=hl l:=fun l h=>hA l (.inl (by simp [h]))
 have ao:∀ l,l∈bs->∃ e s rows,look st.h l=some (.arr e s rows):=fun l h=>by grind [FI]
 have aq:=hR.objs.fz bs ao (fun l b hs hb=>Rt hR hs hb);have az:∀ l,l∈dl.rd\/l∈wrL dl->fzH (look st.h) bs l=hl l:=by
  intro l a3;rw [MQ (fun h=>by grind [JM])];rcases a3 with h1 | h1
  ·exact hA l (.inl (by simp [h1]))
  ·exact hA l (.inr h1)
 obtain ⟨vals,ax,a2,au⟩:=hF β S st a w hR hO;unfold Oper.wp;rw [au fn hf hb hn];have:=an β (fzS β S bs) (fzH (look st.h) bs) w _ aq (Q7u hR ax a2 a5 ay) az;refine this.mono fun e w' ⟨v,β',S',he,aw⟩=>?_
 subst he;refine hK v w' ?_;rcases ak with rfl | ⟨h1,h2⟩
 ·grind [Qce,Qcc,SL]
 ·exact SL hR a7 (aw.back hR.objs ao hm a6 h1 h2)
theorem SP:∀ (a b:List (Nat × Option Ob)) (h:List (Nat × Ob)),NL h (a++b)=NL (NL h a) b
 |[],_,_=>rfl
 |(l,some o)::r,b,h=>by simp [NL,SP r b]
 |(l,none)::r,b,h=>by simp [NL,SP r b]
theorem Bn (bs:List Nat) (h:List (Nat × Ob)):look (NL h (bs.map fun l=>(l,none)))=fzH (look h) bs:=by
 rw [KT];generalize look h=f;induction bs generalizing f with
 |nil=>rfl
 |cons a r ih=>
  simp only [Qin,KE];rw [ih]
  grind [fzH]
theorem AP {β:Nat->Option Nat} {S:Nat->Prop} {st:St} {a:Act} {w:World} (hR:Rel E β S st a w) (bs:List Nat) (an:∀ l,l∈bs->∃ e s rows,look st.h l=some (.arr e s rows)) :
  Rel E β (fzS β S bs) ⟨st.n,st.tm,NL st.h (bs.map fun l=>(l,none))⟩ a w:=by
 have aj:=hR.objs.fz bs an (fun l b hs hb=>Rt hR hs hb);have ao:=Bn bs st.h;refine ⟨hR.n,hR.dfr,fun t av ht=>by rw [ao];exact Q80 bs (hR.tm t av ht),?_⟩;rw [ao];have ak:∀ l,(fzH (look st.h) bs l).isSome=true->(look st.h l).isSome=true:=fun l hs=>by
  grind [fzH]
 refine ⟨aj.ob,aj.inj,aj.apart,fun l b hs hb=>hR.hr.own l b (ak l hs) hb,aj.sb,fun b hS=>?_,fun b h=>.inl (hR.hr.s0 b h),hR.hr.fr,hR.hr.pin,fun l b hp hs=>hR.hr.psz l b hp (ak l hs)⟩;rcases hS with h | ⟨l,hl,hb⟩
 ·exact hR.hr.sfr b h
 ·obtain ⟨e,s,rows,hh⟩:=an l hl;exact .inr (hR.hr.own l b (by simp [hh]) hb)
theorem UY {l k:Nat}:∀ {h:List (Nat × Ob)},Jg l h=false->Jg l (rem k h)=false
 |[],_=>rfl
 |(a,.box c)::r,hn=>by
  simp only [Jg,Bool.or_eq_false_iff] at hn;simp only [rem];cases Nat.beq a k with
  |true=>exact UY hn.2
  |false=>simp [Jg,hn.1,UY hn.2]
 |(a,.arr e s rows)::r,hn=>by
  simp only [Jg] at hn;simp only [rem];cases Nat.beq a k with
  |true=>exact UY hn
  |false=>simp [Jg,UY hn]
 |(a,.mp t f)::r,hn=>by
  simp only [Jg] at hn;simp only [rem];cases Nat.beq a k with
  |true=>exact UY hn
  |false=>simp [Jg,UY hn]
theorem Q3n {l:Nat}:∀ (bs:List Nat) {h:List (Nat × Ob)},Jg l h=false->Jg l (NL h (bs.map fun l=>(l,none)))=false
 |[],_,hn=>hn
 |a::r,h,hn=>by simp only [Qin,NL];exact Q3n r (UY hn)
theorem SO {st:St}:∀ {a b:List (Nat × Option Ob)},We st (a++b)=true->We st b=true
 |[],_,h=>h
 |(l,o)::r,b,h=>by
  simp only [List.cons_append,We,QhV] at h;exact SO h.2
theorem CG {st:St} {bs:List Nat}:∀ {wr:List (Nat × Option Ob)},(∀ l,l∈wr.map (·.1)->l ∉ bs)->We st wr=true->We ⟨st.n,st.tm,NL st.h (bs.map fun l=>(l,none))⟩ wr=true
 |[],_,_=>rfl
 |(l,o)::r,hn,h=>by
  simp only [We,QhV] at h ⊢;refine ⟨?_,CG (fun k hk=>hn k (by simp [hk])) h.2⟩;have aj:l ∉ bs:=hn l (by simp);rw [Bn,MQ aj];cases o with
  |none=>rfl
  |some o=>
   cases hs:look st.h l with
   |some o'=>rfl
   |none=>
    have h1:=h.1;rw [hs] at h1;simp only [Us,QhV,Bool.not_eq_true'] at h1 ⊢;exact ⟨h1.1,h1.2.1,Q3n bs h1.2.2⟩
theorem DF {o:Oper} {f:Nat} {ev:Operand->AV} {ak:List AV} (hF:Q76 P E o ev f ak) {hl:Nat->Option Ob} {aw:List AV} {bs:List Nat} {dl:Dl}
  (ay:R7 hl ak=some (aw,bs)) (a7:Zi P f aw hl dl) (hm:HI bs (wrL dl)=false) (a4:HI bs dl.rd=false) :
  GQ P E o ev hl ⟨dl.v,bs.map (fun l=>(l,none))++dl.wr,bs++dl.rd⟩:=by
 intro β S st a w hR hO hA a8 K Q hK;obtain ⟨⟨fn,hf,hb,hn⟩,ao⟩:=a7;have au:∀ l,l∈bs->look st.h l=hl l:=fun l h=>hA l (.inl (by simp [h]))
 have aq:∀ l,l∈bs->∃ e s rows,look st.h l=some (.arr e s rows):=fun l h=>by rw [au l h];exact FI ay l h
 have ar:=hR.objs.fz bs aq (fun l b hs hb=>Rt hR hs hb);have a3:∀ l,l∈dl.rd\/l∈wrL dl->fzH (look st.h) bs l=hl l:=by
  intro l aj;rw [MQ (fun h=>by rcases aj with h1 | h1 <;> first | exact JM a4 h h1 | exact JM hm h h1)];rcases aj with h1 | h1
  ·exact hA l (.inl (by simp [h1]))
  ·exact hA l (.inr (by simp only [wrL,List.map_append,Qil];exact .inr h1))
 obtain ⟨vals,az,a5,ax⟩:=hF β S st a w hR hO;unfold Oper.wp;rw [ax fn hf hb hn];have:=ao β (fzS β S bs) (fzH (look st.h) bs) w _ ar (Q7u hR az a5 ay au) a3;refine this.mono fun e w' ⟨v,β',S',he,an⟩=>?_
 subst he;refine hK v w' ?_;rw [<- Bn] at an;have a2:We ⟨st.n,st.tm,NL st.h (bs.map fun l=>(l,none))⟩ dl.wr=true:=CG (fun l aj h=>JM hm h aj) (SO a8);obtain ⟨a6,S'',g1,g2⟩:=SL (rd:=bs++dl.rd) (AP hR bs aq) a2 an;refine ⟨a6,S'',?_,?_⟩
 all_goals grind [SP]
theorem Bc {t:Nat}:∀ {l:List AV},l.all AK=true->BV t l=false
 |[],_=>rfl
 |a::r,h=>by
  simp only [List.all_cons,QhV] at h;simp only [BV,Sl h.1 t,Bc h.2,Bool.or_false]
theorem Q2I {x:AV} (h:Q8X x=true) (t:Nat):gds t x=false:=by
 unfold Q8X at h
 grind [gds,Bc,Sl]
theorem Q0Q {o:Oper} {f:Nat} {ev:Operand->AV} {aj:List AV} (hF:Q76 P E o ev f aj) {hl:Nat->Option Ob} {dl:Dl} (ax:aj.all Q8X=true) (au:Zi P f aj hl dl):GQ P E o ev hl dl:=by
 intro β S st a w hR hO hA aw K Q hK;obtain ⟨⟨fn,hf,hb,hn⟩,ak⟩:=au;obtain ⟨vals,aq,ar,an⟩:=hF β S st a w hR hO;unfold Oper.wp;rw [an fn hf hb hn];have:=ak β S (look st.h) w _ hR.objs ⟨aq,fun i v x h1 h2=>(ar i v x h1 h2).mono (fun _ h=>h) (fun _ _=>rfl) (fun l _=>Keep.rfl_ ..) (fun t ht=>by
  grind [Q2I,List.all_eq_true,List.mem_of_getElem?])⟩ (fun l h=>hA l h)
 refine this.mono fun e w' ⟨v,β',S',he,ao⟩=>?_
 subst he;exact hK v w' (SL hR aw ao)
theorem Q31 {spec:Q4r} {tt:TT} (hS:CP P spec) {o:Oper} {f:Nat} {aq:Nat} {g u:Bool} {ev:Operand->AV} {ak:List AV} (hF:Q76 P E o ev f ak) {hl:Nat->Option Ob} {k:Dl->Option R} {r:R}
  (h:QaB spec tt aq g u hl f ak k=some r):∃ dl,k dl=some r/\(g=true->GQ P E o ev hl dl):=by
 unfold QaB at h;cases ao:Qh4 spec f with
 |true=>
  simp only [ao,QhY] at h;cases ar:ak.all Q8X with
  |false=>simp_all
  |true=>
  simp only [ar,QhY] at h;obtain ⟨dl,h,au⟩:=hS _ _ _ _ _ _ _ _ h
  grind [Q0Q]
 |false=>
 simp only [ao,cond_false] at h;split at h
 case h_2=>cases h
 rename_i ax bs ay;obtain ⟨dl,h,au⟩:=hS _ _ _ _ _ _ _ _ h;cases aj:(!HI bs (wrL dl)&&(!HI bs dl.rd&&CL bs dl)) with
 |false=>simp_all
 |true=>
  simp only [aj,QhY] at h;simp only [QhV,Bool.not_eq_true'] at aj;obtain ⟨hm,aw,az⟩:=aj;cases hf:(bs.isEmpty||(SE dl.v&&CB dl.wr)) with
  |true=>
   simp only [hf,QhY] at h
   grind [Nn,Kq]
  |false=>
   simp only [hf,cond_false] at h;cases an:(SE dl.v&&FJ tt dl.wr) with
   |true=>
    simp only [an,QhY] at h;simp only [QhV] at an;obtain ⟨_,h,hp⟩:=QM h
    grind [Nn,Gq,Fa,Q2a,B5]
   |false=>
    simp only [an,cond_false] at h;cases u with
    |false=>simp at h
    |true=>
     simp only [QhY] at h
     grind [DF]
end
end Go.Vx
namespace Go.Vx
section
variable {P:Program} {E:Env} {R:Type}
theorem Q3p {x:Nat}:∀ {l:List Nat},Pr x l=true↔x∈l
 |[]=>by simp [Pr]
 |a::r=>by
  simp only [Pr,Bool.or_eq_true,Q3p (l:=r),Qic];constructor
  ·rintro (h | h)
   ·exact .inl (QhW h).symm
   ·exact .inr h
  ·rintro (h | h)
   ·exact .inl (by rw [h];exact Nat.beq_refl _)
   ·exact .inr h
def QdY (av:AV):Prop:=(∀ k,WT k av=false)/\(∀ t,gds t av=false)/\av≠.top
theorem QcC (hl:Nat->Option Ob) (bs:List Nat):Qgk hl bs=fzH hl bs:=by
 funext k;simp [Qgk,fzH,Pr,Qia,Q3p,Qi6]
theorem Q0a (hl:Nat->Option Ob) (ev:Operand->AV):∀ (l:List (Nat × Operand)),Vg (fun x=>cv1 hl (ev x)) l=cvP hl (Vg ev l)
 |[]=>rfl
 |(i,x)::r=>by simp only [Vg,cvP,Q0a hl ev r]
theorem Q8K {hl:Nat->Option Ob} {ev:Operand->AV}:∀ {l:List (Nat × Operand)} {p:Nat × Operand},p∈l->∀ a b,Ra hl (ev p.2)=some (a,b)->∀ x∈b,x∈bsP hl (Vg ev l)
 |(i,y)::r,p,hp,a,b,hc,x,hx=>by
  simp only [Vg,bsP];rcases Qic.1 hp with rfl | hp
  ·simp only at hc;rw [hc];exact List.mem_append_left _ hx
  ·have ih:=Q8K hp a b hc x hx;split
   ·exact List.mem_append_right _ ih
   ·exact ih
theorem Q55 {hl:Nat->Option Ob}:∀ {l:List (Nat × AV)} {x:Nat},x∈bsP hl l->∃ e s rows,hl x=some (.arr e s rows)
 |[],x,h=>by simp [bsP] at h
 |(i,a)::r,x,h=>by
  simp only [bsP] at h;split at h
  ·rename_i a' b hc;rcases Qil.1 h with h | h
   ·exact Cr hc x h
   ·exact Q55 h
  ·exact Q55 h
theorem Q2z:∀ {z:List D} {l:List AV} {ds:List D},Q9e z l=some ds->(∀ k,Gv k l=false)/\(∀ t,BV t l=false)/\∀ x∈l,x≠.top
 |[],[],ds,h=>⟨fun _=>rfl,fun _=>rfl,fun x h=>by simp at h⟩
 |[],_::_,ds,h=>by simp [Q9e] at h
 |_::_,[],ds,h=>by simp [Q9e] at h
 |z::zs,a::r,ds,h=>by
  simp only [Q9e] at h;split at h
  case h_2=>cases h
  rename_i l hl;obtain ⟨h1,h2,h3⟩:=Q2z hl;split at h
  ·exact ⟨fun k=>by simp [Gv,WT,h1 k],fun t=>by simp [BV,gds,h2 t],fun x hx=>by
    rcases Qic.1 hx with rfl | hx
    ·simp
    ·exact h3 x hx⟩
  ·exact ⟨fun k=>by simp [Gv,WT,h1 k],fun t=>by simp [BV,gds,h2 t],fun x hx=>by
    rcases Qic.1 hx with rfl | hx
    ·simp
    ·exact h3 x hx⟩
  ·cases h
theorem Q6P {z:List D} {av:AV} {ds:List D} (h:Q9e z (XN av)=some ds):QdY av:=by
 obtain ⟨h1,h2,h3⟩:=Q2z h;cases av with
 |ag l=>exact ⟨fun k=>by grind [WT,XN],fun t=>by grind [gds,XN],by simp⟩
 |fs _ _=>exact ⟨fun k=>rfl,fun t=>rfl,by simp⟩
 |_=>exact ⟨fun k=>by simp_all [Gv,XN],fun t=>by simp_all [BV,XN],h3 _ (by simp [XN])⟩
theorem Dd {z:List D}:∀ {aj:List (Nat × AV)} {rows ak:List (List D)},Mv z rows aj=some ak->∀ p∈aj,QdY p.2
 |[],_,_,_,p,hp=>by simp at hp
 |(i,v)::r,rows,ak,h,p,hp=>by
  simp only [Mv] at h;split at h
  case h_2=>cases h
  rename_i row an;cases hc:Nat.ble (i+1) rows.length with
  |false=>simp [hc] at h
  |true=>
   simp only [hc,QhY] at h;rcases Qic.1 hp with rfl | hp
   ·exact Q6P an
   ·exact Dd h p hp
theorem Bh {ev:Operand->AV}:∀ {l:List (Nat × Operand)} {p:Nat × Operand},p∈l->(p.1,ev p.2)∈Vg ev l
 |(i,y)::r,p,hp=>by
  simp only [Vg];rcases Qic.1 hp with rfl | hp
  ·simp
  ·exact List.mem_cons_of_mem _ (Bh hp)
theorem BI {tt:TT} {hl:Nat->Option Ob} {ao:Nat} {u:Bool} {t len:Nat} {aj:List (Nat × AV)} {k:Dl->Option R} {r:R} (h:Ku tt hl ao u t len aj k=some r):∀ p∈aj,QdY p.2:=by
 unfold Ku at h;split at h
 case h_2=>cases h
 rename_i e an hk;cases hc:(Nat.ble (len*an) 16777216&&(look tt e).isSome&&Nat.beq (N9 tt e).length an) with
 |false=>simp_all
 |true=>
  simp only [hc,QhY] at h;split at h
  case h_2=>cases h
  rename_i rows ak;exact Dd ak
theorem Q20 {o:Oper} {ev:Operand->AV} {hl:Nat->Option Ob} {bs:List Nat} {dl:Dl} (ay:∀ l,l∈bs->∃ e s rows,hl l=some (.arr e s rows))
  (aq:∀ x∈o.op.operands.toList,(∃ b,Ra hl (ev x)=some (cv1 hl (ev x),b)/\∀ y∈b,y∈bs)/\QdY (cv1 hl (ev x)))
  (hG:GQ P E o (fun x=>cv1 hl (ev x)) (fzH hl bs) dl) (hm:HI bs (wrL dl)=false) (a3:HI bs dl.rd=false):GQ P E o ev hl ⟨dl.v,bs.map (fun l=>(l,none))++dl.wr,bs++dl.rd⟩:=by
 intro β S st a w hR hO hA au K Q hK;have ar:∀ l,l∈bs->look st.h l=hl l:=fun l h=>hA l (.inl (by simp [h]))
 have an:∀ l,l∈bs->∃ e s rows,look st.h l=some (.arr e s rows):=fun l h=>by simp_all
 have aw:=AP hR bs an;refine hG β (fzS β S bs) _ a w aw (fun x hx=>⟨?_,fun l _=>(aq x hx).2.1 l⟩) ?_ (CG (fun l aj h=>JM hm h aj) (SO au)) K Q fun v w' ao=>hK v w' ?_
 ·obtain ⟨⟨b,h1,h2⟩,hb⟩:=aq x hx;rw [Bn];exact (Q60 hR.objs ar h2 h1 (hO.at hx)).mono (fun _ h=>h) (fun _ _=>rfl) (fun l _=>Keep.rfl_ ..) (fun t ht=>by rw [hb.2.1 t] at ht;cases ht)
 ·intro l aj;have ak:l ∉ bs:=fun h=>by grind [JM]
  rw [Bn,MQ ak,MQ ak];rcases aj with h1 | h1
  ·exact hA l (.inl (by simp [h1]))
  ·exact hA l (.inr (by simp_all [wrL,List.map_append,Qil]))
 ·obtain ⟨β',S',g1,g2⟩:=ao;refine ⟨β',S',?_,?_⟩
  all_goals grind [SP]
theorem Q4d {tt:TT} (hT:TOk P tt) {o:Oper} {t:TypeId} {len:Nat} {aj:Array (Nat × Operand)} (ho:o.op = .buildSlice t len aj) {u:Bool} {ak:Nat} {ev:Operand->AV} {hl:Nat->Option Ob} {k:Dl->Option R} {r:R}
  (h:Q43 tt hl ak u t len (Vg ev aj.toList) k=some r):∃ dl,k dl=some r/\GQ P E o ev hl dl:=by
 unfold Q43 at h;split at h
 ·exact N1 hT ho h
 ·rename_i b bs hb;cases u with
  |false=>simp at h
  |true=>
   rw [<- Q0a] at h;have aq:=BI h;rw [QcC] at h;obtain ⟨dl,h,hG⟩:=N1 (E:=E) hT ho h;cases hc:(!HI (b::bs) (wrL dl)&&!HI (b::bs) dl.rd) with
   |false=>simp_all
   |true=>
    simp only [hc,QhY] at h;simp only [QhV,Bool.not_eq_true'] at hc;refine ⟨_,h,Q20 (fun l an=>Q55 (hb▸an)) (fun x hx=>?_) hG hc.1 hc.2⟩;obtain ⟨i,hi⟩:∃ i,(i,x)∈aj.toList:=by
     grind [Op.operands]
    have hn:QdY (cv1 hl (ev x)):=aq _ (Bh hi);refine ⟨?_,hn⟩;unfold cv1 at hn ⊢;cases ao:Ra hl (ev x) with
    |none=>
     rw [ao] at hn;exact absurd rfl hn.2.2
    |some q=>exact ⟨q.2,rfl,fun y hy=>by grind [Q8K]⟩
end
end Go.Vx
namespace Go.Vx
section
variable {P:Program} {E:Env} {R:Type}
theorem Da:∀ {rows:List (List D)} {s:List UInt8},El rows=some s->∃ ns:List Int,rows=ns.map (fun n=>[D.int .u8 n])/\s=ns.map fun n=>UInt8.ofNat n.toNat
 |[],s,h=>by simp_all [El]
 |row::r,s,h=>by
  unfold El at h;split at h
  ·simp_all
  ·rename_i n r' he;injection he with he1 he2
   subst he1 he2;split at h
   ·rename_i l hl;injection h with h
    subst h;obtain ⟨ns,h1,h2⟩:=Da hl;exact ⟨n::ns,by simp [h1],by simp [h2]⟩
   ·cases h
  ·cases h
theorem AL:∀ (ns:List Int) (s:ByteArray),(ns.foldl (fun r n=>r.push (UInt8.ofNat n.toNat)) s).data.toList=s.data.toList++ns.map fun n=>UInt8.ofNat n.toNat
 |[],s=>by simp
 |n::ns,s=>by
  rw [List.foldl_cons,AL ns];simp [ByteArray.push]
theorem Q6C {tt:TT} (hT:TOk P tt) {o:Oper} {s t:TypeId} {x:Operand} (ho:o.op = .convert s t x) {g:Bool} {ev:Operand->AV} {hl:Nat->Option Ob} {e:Nat} {rows:List (List D)} {rd:List Nat}
  (hs:TJ tt s = .sl e 1) (ht:TJ tt t = .str) (he:TJ tt e = .int .u8) (hx:AM 1 hl (ev x)=some (rows,rd)) {k:Dl->Option R} {r:R} (h:gb g (El rows) [] (fun s=>k ⟨.d (.str s),[],rd⟩)=some r) :
  ∃ dl,k dl=some r/\(g=true->GQ P E o ev hl dl):=by
 obtain ⟨ti,bg,a8⟩:=Xt hs (by simp);obtain ⟨a4,a3,ay⟩:=Xt ht (by simp);obtain ⟨a9,az,a2⟩:=Xt he (by simp);have a7:=((hT s ti bg).ksl _ _ a8).1;have a5:=(hT t a4 a3).kstr ay;have bc:=(hT e a9 az).kint _ a2;obtain ⟨str,h,hp⟩:=QM h;refine ⟨_,h,fun hg=>Qk fun β S st a w hR hO hA=>?_⟩;have hv:=hO.at (x:=x) (by simp [ho,Op.operands]);obtain ⟨vals,ax⟩:=Q25 (by omega) hx hR hv (fun l ba=>hA l (.inl ba));obtain ⟨ns,ak,an⟩:=Da (hp hg);have aq:∀ bs:ByteArray,bs.data.toList=str->(execOp a.eval o).run P w = .ok (.value (.string bs)) w->∃ u,(execOp a.eval o).run P w = .ok (.value u) w/\RdA β S (look st.h) w (tmv a) u (.d (.str str)):=by
  intro bs hb hr;refine ⟨.string bs,hr,.d _ _ ?_⟩;rw [<- hb];exact .str _
 have aj:∀ (ad:Option Addr) (l c:Nat) (bs:ByteArray),a.eval x = .slice ad l c->(Conv.bytesToString (.slice ad l c)).run P w = .ok (.string bs) w->(execOp a.eval o).run P w = .ok (.value (.string bs)) w:=by
  intro ad l c bs bb hb;unfold execOp;rw [ho];simp only [bb,QhX,run_convert_bytes_string w s t e ad l c a7 bc a5,hb,QhT];rfl
 rcases ax.form with ⟨hf,hn⟩ | ⟨c,hf,hn⟩ | ⟨ad,c,hf,aw⟩
 ·refine aq .empty ?_ (aj none 0 0 _ hf (by simp [Conv.bytesToString]));rw [hn] at ak;have:ns=[]:=by
   cases ns with
   |nil=>rfl
   |cons a b=>simp at ak
  rw [an,this];rfl
 ·refine aq .empty ?_ (aj none 0 c _ hf (by simp [Conv.bytesToString]));rw [hn] at ak;have:ns=[]:=by
   cases ns with
   |nil=>rfl
   |cons a b=>simp at ak
  rw [an,this];rfl
 ·have bh:vals.length=ns.length:=by rw [ax.len,ak];simp
  have au:vals=ns.map (Value.int .u8):=by
   refine List.ext_getElem? fun i=>?_
   rcases Nat.lt_or_ge i ns.length with hi | hi
   ·obtain ⟨u,hu,hr⟩:=ax.rd i 0 [D.int .u8 ns[i]] (D.int .u8 ns[i]) (by rw [ak];simp [hi]) rfl;rw [show i*1+0=i by omega] at hu;rw [hu];cases hr;simp [hi]
   ·rw [List.getElem?_eq_none (by omega),List.getElem?_eq_none (by simpa using hi)]
  have ao:=run_loadCells_list (P:=P) w ad vals aw;have hr:=run_bytesToString (P:=P) w ad rows.length c ns (by
   rw [au,List.length_map] at ao;rw [show rows.length=ns.length by rw [ak];simp];exact ao)
  refine aq _ ?_ (aj (some ad) _ c _ hf hr);rw [AL,an];rfl
end
end Go.Vx
namespace Go.Vx
section
variable {P:Program} {E:Env} {R:Type}
theorem KO {α:Type}:∀ (n s:Nat) (l:List α),(Ry n s l).length=n
 |0,_,_=>rfl
 |n+1,s,l=>by simp [Ry,KO n]
theorem Ba {α:Type}:∀ (n s:Nat) (l:List α) (i:Nat),i<n->(Ry n s l)[i]? = some ((l.drop (i*s)).take s)
 |n+1,s,l,0,_=>by simp [Ry]
 |n+1,s,l,i+1,h=>by
  simp only [Ry,List.getElem?_cons_succ];rw [Ba n s _ i (by omega),List.drop_drop,Nat.add_comm s,Qim]
theorem AN {S:Nat->Prop} {w:World} {cs:Array Value} {n s:Nat} {ds:List D} (ak:ds.length=n*s) (an:n*s<=cs.size) (hr:∀ (j:Nat) (x:D),ds[j]? = some x->∃ v,cs[j]? = some v/\Rd S w v x):UU S w cs s (Ry n s ds):=by
 refine ⟨by grind [KO],fun i r h=>?_,fun i j r x h1 h2=>?_⟩
 ·have hi:i<n:=by grind [List.getElem?_eq_some_iff,KO]
  rw [Ba n s ds i hi] at h;have aj:(i+1)*s<=n*s:=Qi0 _ (by omega)
  grind
 grind [List.getElem?_eq_some_iff,KO,Ba]
theorem Q6v {β:Nat->Option Nat} {S:Nat->Prop} {st:St} {a:Act} {w:World} (hR:Rel E β S st a w) {aj e s:Nat} {rows:List (List D)} {cs:Array Value} (ak:look st.h aj=none) (hc:Us st aj=true) (h:UU S w cs s rows) :
  Rel E (SQ β aj (some w.heap.size)) S ⟨st.n,st.tm,(aj,.arr e s rows)::rem aj st.h⟩ a (w.alloc (.cells cs e)):=by
 obtain ⟨h1,h2,h3⟩:=h;refine hR.new ak hc (.inr ⟨w.heap.size,cs,by simp [SQ],VY _ _,h1,h2,fun i j r x h4 h5=>?_⟩);obtain ⟨v,hv,hr⟩:=h3 i j r x h4 h5;exact ⟨v,hv,hr.mono (fun _ hb=>hb) (fun b hb=>Zh _ _ (hR.hr.sb b hb))⟩
theorem Q48 {tt:TT} (hT:TOk P tt) {o:Oper} {t:TypeId} (ho:o.op = .alloc t) {ev:Operand->AV} {hl:Nat->Option Ob} {aj:Nat} {ti:TyI} (ax:look tt t=some ti) {e ak n:Nat} (hk:ti.kd = .array e ak n) (aw:ti.zd.length=n*ak) (hn:hl aj=none) :
  GQ P E o ev hl ⟨.ap aj 0 0,[]++[(aj,some (.arr t ak (Ry n ak ti.zd)))],[]⟩:=by
 have an:=hT t ti ax;obtain ⟨inf,a2,_,_,z,hz,ay⟩:=an.inf;obtain ⟨_,_,_,aq,_⟩:=an.karr e ak n hk;have a5:z.cells.size=n*ak:=by rw [<- Qi7,ay,an.zlen];exact aq
 intro β S st a w hR hO hA a6 K Q hK;have az:look st.h aj=none:=by rw [hA aj (.inr (by simp [wrL]))];exact hn
 have hc:Us st aj=true:=by grind [We]
 have ar:UU S w z.cells ak (Ry n ak ti.zd):=AN aw (by omega) fun j x hx=>by
  obtain ⟨v,hv,hr⟩:=an.zd (by omega) j x hx
  grind
 have au:(execOp a.eval o).run P w = .ok (.value (.pointer (some ⟨w.heap.size,0,none⟩))) (w.alloc (.cells z.cells t)):=by
  simp_all [execOp,Instr.alloc,zeroValue,Yl,newVar,newRow]
 unfold Oper.wp;rw [au];refine hK _ _ ⟨SQ β aj (some w.heap.size),S,Q6v hR az hc ar,?_⟩;have:=RdA.ap (β:=SQ β aj (some w.heap.size)) (S:=S) (h:=look (NL st.h ([]++[(aj,some (Ob.arr t ak (Ry n ak ti.zd)))]))) (w:=w.alloc (.cells z.cells t)) (tm:=tmv a) aj 0 0 w.heap.size t ak (Ry n ak ti.zd) (by simp [SQ]) (by simp [NL,WL])
 simp_all
theorem Q01 {α:Type} {l:List α} {n:Nat} {u:Unit} (h:He l n=some u):l.length=n:=by
 grind [He,Nat.beq,Nat.eq_of_beq_eq_true]
theorem CU {tt:TT} (hT:TOk P tt) {o:Oper} {t:TypeId} {x i:Operand} (ho:o.op = .indexAddr t x i) {g:Bool} {ev:Operand->AV} {hl:Nat->Option Ob} {k:Dl->Option R} {r:R} {e aj n l:Nat} (hk:TJ tt t = .array e aj n) (az:ev x = .ap l 0 0)
  (h:MP g hl aj n l (ev i) k=some r):∃ dl,k dl=some r/\(g=true->GQ P E o ev hl dl):=by
 have ar:x∈o.op.operands.toList:=by grind [Op.operands]
 have aw:i∈o.op.operands.toList:=by simp [ho,Op.operands]
 obtain ⟨ti,ay,au⟩:=Xt hk (by simp);obtain ⟨hu,a5,⟨i0,a4,an⟩,_,_⟩:=(hT t ti ay).karr _ _ _ au;unfold MP at h;split at h
 case h_2=>cases h
 rename_i ik y e' s rows a3 ak;cases hb:Nat.beq s aj with
 |false=>simp_all
 |true=>
  obtain rfl:=QhW hb;simp only [hb,QhY] at h;obtain ⟨u,h,ax⟩:=QM h;refine ⟨_,h,fun hg=>Qk fun β S st a w hR hO hA=>?_⟩;obtain ⟨h0,h1⟩:=Q5N (ax hg);have hi:=(a3▸hO.at aw).int_inv;have aq:look st.h l=some (.arr e' s rows):=by rw [hA l (.inl (by simp))];exact ak
  obtain ⟨b,a2,hx⟩:=RdA.ap_inv aq (az▸hO.at ar);have ao:(execOp a.eval o).run P w = .ok (.value (.pointer (some ⟨b,y.toNat*s,none⟩))) w:=by
   unfold execOp;rw [ho];simp [Instr.indexAt,hx,hi,asIntOf,QN hu,h0,h1,sizeOf,Yl a4,an,Instr.sureAddr,KZ]
  refine ⟨_,ao,?_⟩;have:=RdA.ap (β:=β) (S:=S) (h:=look st.h) (w:=w) (tm:=tmv a) l y.toNat 0 b e' s rows a2 aq;omega
theorem Q4e {tt:TT} (hT:TOk P tt) {o:Oper} {t:TypeId} {x y:Operand} (ho:o.op = .store t x y) {ev:Operand->AV} {hl:Nat->Option Ob} {k:Dl->Option R} {r:R} {e az n l:Nat} (hk:TJ tt t = .array e az n) (bo:ev x = .ap l 0 0)
  (h:Q58 hl az n l (ev y) k=some r):∃ dl,k dl=some r/\GQ P E o ev hl dl:=by
 have bl:x∈o.op.operands.toList:=by grind [Op.operands]
 have bg:y∈o.op.operands.toList:=by simp [ho,Op.operands]
 obtain ⟨ti,bn,bm⟩:=Xt hk (by simp);have a6:=hT t ti bn;obtain ⟨hu,br,_,ax,_⟩:=a6.karr _ _ _ bm;unfold Q58 at h;split at h
 case h_2=>cases h
 rename_i e' s rows a5;cases hb:Nat.beq s az with
 |false=>simp_all
 |true=>
  obtain rfl:=QhW hb;simp only [hb,QhY] at h;split at h
  case h_2=>cases h
  rename_i ds bk;cases ao:Nat.beq ds.length (n*s) with
  |false=>simp_all
  |true=>
   have a9:=QhW ao;simp only [ao,QhY] at h;obtain ⟨u,h,a4⟩:=QM h;have bi:=Q01 (a4 rfl);refine ⟨_,h,?_⟩;intro β S st a w hR hO hA ce K Q hK;have ak:look st.h l=some (.arr e' s rows):=by rw [hA l (.inl (by simp))];exact a5
   obtain ⟨b,an,hx⟩:=RdA.ap_inv ak (bo▸hO.at bl);have a2:=BR bk;obtain ⟨c1,c2,c3⟩:=NR (hO.at bg) (by rw [a2];exact ET ds);rcases hR.hr.ob l _ ak with ⟨bb,_⟩ | ⟨b',cs,au,hw,aw,ca,b7⟩
   ·rw [an] at bb;cases bb
   obtain rfl:b=b':=by rw [an] at au;injection au
   rw [bi] at aw;have ar:(a.eval y).cells.size=n*s:=by rw [c1,a2];simpa using a9
   obtain ⟨w',ba,aj⟩:∃ w',(storeCells ⟨b,0,none⟩ (a.eval y).cells.toList 0).run P w = .ok () w'/\Wrote b (Tj cs 0 (a.eval y).cells.toList) e' (0,0) w w':=
    G9 b 0 e' (0,0) _ 0 cs w hw (Qcx _) (by simp [ar];omega) c3
   have a7:∀ j,(Tj cs 0 (a.eval y).cells.toList)[j]? = if j<n*s then (a.eval y).cells[j]? else cs[j]?:=by
    intro j;rw [S6 _ _ _ _ (by simp [ar];omega)];simp [ar]
   unfold Oper.wp;have bj:a.eval x = .pointer (some ⟨b,0,none⟩):=by simpa using hx
   rw [Nx ho bj (RT a6 (by rw [ar,ax]) ba)];have a8:∀ k',look ((l,Ob.arr e' s (Ry n s ds))::rem l st.h) k'=if k'=l then some (.arr e' s (Ry n s ds)) else look st.h k':=fun k'=>WL l k' _ st.h
   have aq:Keep β (look st.h) w β (look ((l,.arr e' s (Ry n s ds))::rem l st.h)) w' l:=by
    refine ⟨rfl,fun h=>?_,fun e1 s1 bc h=>?_,fun b2 b8 b5 cf _ ao a3=>?_,fun t f h=>by rw [ak] at h;cases h⟩
    ·rw [ak] at h;cases h
    ·rw [ak] at h;cases h;exact .inr ⟨Ry n s ds,by rw [a8,Qia rfl],by rw [KO];omega⟩
    ·rw [an] at ao;injection ao with e;subst e
     rw [hw] at a3;injection a3 with e;injection e with e1 e2 e3;subst e1
     exact ⟨_,_,_,aj.blk,U3 _ _ _⟩
   refine hK undef _ ⟨β,S,hR.set ak an aj.oth aj.os aj.tape aj.output aj.size aq (.inr ⟨b,_,an,aj.blk,?_⟩),.top _⟩;have bh:∀ c,S c->w'.heap[c]? = w.heap[c]?:=fun c hc=>aj.oth c (fun e=>by subst e;exact hR.hr.apart l c (by simp [ak]) an hc)
   have ay:UU S w (Tj cs 0 (a.eval y).cells.toList) s (Ry n s ds):=by
    refine AN a9 (by rw [U3];exact aw) fun j d hd=>?_
    have hj:j<n*s:=by have:=(QhU.1 hd).1;omega
    have h1:=a7 j;rw [Qia hj] at h1;rw [h1];refine ⟨_,Hp (cs:=(a.eval y).cells) (by omega),?_⟩;have h2:=c2 j (.d d) (by rw [a2,Qi4,hd];rfl);exact h2.d_inv
   obtain ⟨r1,r2,r3⟩:=ay;exact ⟨r1,r2,fun i j r x h4 h5=>by
    obtain ⟨v,hv,hr⟩:=r3 i j r x h4 h5;exact ⟨v,hv,hr.mono (fun _ h=>h) bh⟩⟩
theorem Q9m {β:Nat->Option Nat} {S:Nat->Prop} {st:St} {a:Act} {w w':World} (hR:Rel E β S st a w) (aj:∀ b,b<w.heap.size->w'.heap[b]? = w.heap[b]?) (aq:w'.heap.size=w.heap.size+1) (ao:w'.os=w.os) (an:w'.tape=w.tape) (ak:w'.output=w.output):Rel E β (fun b=>S b\/b=w.heap.size) st a w':=by
 have:=hR.upd (w':=w') (β':=β) (S':=fun b=>S b\/b=w.heap.size) (H':=st.h) (fun _ h=>.inl h) (fun b hb=>aj b (hR.hr.sb b hb)) (fun _=>False)
  (fun l _=>⟨rfl,rfl,fun b hs hb=>aj b (Rt hR hs hb)⟩) (fun l h=>h.elim) (fun l o h=>h.elim) hR.hr.inj
  (fun l b hs hb hS=>by
   rcases hS with hS | hS
   ·exact hR.hr.apart l b hs hb hS
   ·have:=Rt hR hs hb;omega)
  hR.hr.own
  (fun b hS=>by
   rcases hS with hS | hS
   ·have:=hR.hr.sb b hS;omega
   ·omega)
  (fun b hS=>by
   rcases hS with hS | hS
   ·exact hR.hr.sfr b hS
   ·right;right;have:=hR.hr.fr.size;omega)
  ⟨ao.trans hR.hr.fr.os,an.trans hR.hr.fr.tape,ak.trans hR.hr.fr.output,by have:=hR.hr.fr.size;omega,fun b hb hm=>(aj b (Qik hb hR.hr.fr.size)).trans (hR.hr.fr.block b hb hm)⟩
 exact this
theorem Q0F {tt:TT} (hT:TOk P tt) {o:Oper} {s t:TypeId} {x:Operand} (ho:o.op = .convert s t x) {ev:Operand->AV} {hl:Nat->Option Ob} {e:Nat} {n:List UInt8}
  (hs:TJ tt s = .str) (ht:TJ tt t = .sl e 1) (he:TJ tt e = .int .u8) (hx:ev x = .d (.str n)):GQ P E o ev hl ⟨.d (.sl 1 (Q79 n)),[],[]⟩:=by
 obtain ⟨ti,a2,ay⟩:=Xt hs (by simp);obtain ⟨au,ar,aj⟩:=Xt ht (by simp);obtain ⟨az,ak,aq⟩:=Xt he (by simp);have a7:=(hT s ti a2).kstr ay;have a5:=((hT t au ar).ksl _ _ aj).1;have a9:=(hT e az ak).kint _ aq;intro β S st a w hR hO hA bc K Q hK;obtain ⟨b,hb,hv⟩:=(hx▸hO.at (x:=x) (by grind [Op.operands])).str_inv;have ao:(execOp a.eval o).run P w = .ok (.value (.slice (some ⟨w.heap.size,0,none⟩) b.size (grownCap w b.size 0 e))) (Lib.bytesWorld w e b):=by
  simp_all [execOp,QhX,Lib.run_convert_string_bytes,QhT]
 unfold Oper.wp;rw [ao];have a3:b.size<=grownCap w b.size 0 e:=grownCap_ge w b.size 0 e;refine hK _ _ ⟨β,fun c=>S c\/c=w.heap.size,Q9m hR (fun c hc=>Lib.bytesWorld_at_old w e b c hc) (Lib.bytesWorld_size w e b) rfl rfl rfl,.d _ _ ?_⟩;have an:(Q79 n).length=b.size:=by simp [Q79,hb]
 rw [<- an];refine UU.rd (cs:=Lib.bytesCells w e b) ⟨?_,?_,?_⟩ (Lib.bytesWorld_at_new w e b) (.inr rfl) (by simp_all)
 ·simp_all [Lib.bytesCells]
 ·simp_all [Q79,Qi4,QhZ]
 ·intro i j r d h1 h2;simp only [Q79,Qi4,QhZ] at h1;obtain ⟨c,hc,rfl⟩:=h1;cases j with
  |zero=>
   simp at h2;subst h2;have hi:i<b.size:=by have:=(QhU.1 hc).1;rw [hb] at this;simpa using this
   refine ⟨.int .u8 (c.toNat:Int),?_,.int _ _⟩;rw [hb] at hc;have:b.data[i]? = some c:=by simpa using hc
   have aw:i<b.data.size:=hi;simp only [Lib.bytesCells,Nat.mul_one,Nat.add_zero];rw [Array.getElem?_append_left (by simpa using aw),Array.getElem?_map,this];rfl
  |succ j=>simp at h2
theorem SN (n:Int):∀ (es:List MapEntry) (i:Nat),(∀ e∈es,∃ m,e.key = .int .i64 m) ->
  (HD es n=none/\Instr.findNow (.int .i64) (.int .i64 n) es i=some none)\/∃ j v,HD es n=some v/\Instr.findNow (.int .i64) (.int .i64 n) es i=some (some (j,v))
 |[],i,_=>.inl ⟨rfl,rfl⟩
 |e::r,i,h=>by
  obtain ⟨m,hm⟩:=h e (List.mem_cons_self ..);simp only [HD,hm,Instr.findNow,Instr.sameNow,if_true];by_cases ak:m=n
  ·simp_all
  ·have hb:(n == m)=false:=by grind
   simp only [hb,ak,if_false];exact SN n r (i+1) fun x hx=>h x (List.mem_cons_of_mem _ hx)
theorem RdA.mpd_inv {β:Nat->Option Nat} {S:Nat->Prop} {h:Nat->Option Ob} {w:World} {tm:Nat->Value} {v:Value} {f:Int->List (List D)} (hv:RdA β S h w tm v (.mpd f)):Q9d S w v f:=by
 cases hv with
 |mpd _ _ hm=>exact hm
 |dang _ _ l hl=>trivial
theorem Q4T {tt:TT} (hT:TOk P tt) {o:Oper} {t:TypeId} {m x:Operand} (ho:o.op = .lookup t m x false) {ev:Operand->AV} {hl:Nat->Option Ob} {f:Int->List (List D)} {n:Int}
  (ht:TJ tt t = .mapI) (hm:ev m = .mpd f) (hx:ev x = .d (.int .i64 n)):GQ P E o ev hl ⟨.d (.sl 1 (f n)),[],[]⟩:=by
 obtain ⟨ti,au,aq⟩:=Xt ht (by simp);obtain ⟨K0,e,hu,hk,i,hi,hz⟩:=(hT t ti au).kmap aq;intro β S st a w hR hO hA ba K Q hK;obtain ⟨b,es,aw,hv,hS,hb,ak,hn,aj⟩:=(hm▸hO.at (x:=m) (by simp [ho,Op.operands])).mpd_inv;have ar:=(hx▸hO.at (x:=x) (by simp [ho,Op.operands])).int_inv;have ax:(zeroValue e).run P w = .ok (.slice none 0 0) w:=by simp [zeroValue,Yl hi,hz]
 have ao:(Instr.checkKey es.isEmpty 10000 K0 (.int .i64 n)).run P w = .ok () w:=by
  rw [show (10000:Nat)=9999+1 from rfl,Instr.checkKey];simp only [QhX,QN hk,QhT];rfl
 obtain ⟨v,an,ay⟩:∃ v,(Instr.lookup t (.map (some b)) (.int .i64 n) false).run P w = .ok v w/\Rd S w v (.sl 1 (f n)):=by
  rcases SN n es.toList 0 ak with ⟨h1,h2⟩ | ⟨j,v,h1,h2⟩
  ·refine ⟨.slice none 0 0,?_,by rw [hn n h1];exact .sl0 _ _ _⟩;simp [Instr.lookup,QN hu,Qib hb,ao,Instr.findKey,QN hk,h2,ax,Result.andThen]
  ·refine ⟨v,?_,aj n v h1⟩;simp [Instr.lookup,QN hu,Qib hb,ao,Instr.findKey,QN hk,h2,Result.andThen]
 unfold Oper.wp execOp;rw [ho];simp only [hv,ar,QhX,an,QhT];exact hK _ _ ⟨β,S,hR,.d _ _ ay⟩
end
end Go.Vx
namespace Go.Vx
section
variable {P:Program} {E:Env} {R:Type}
theorem Q5D (n:Int) (u:Value):∀ (es:List MapEntry) (i:Nat),(∀ e∈es,∃ m,e.key = .int .i64 m)->HD es n≠none ->
  ∃ j v e,Instr.findNow (.int .i64) (.int .i64 n) es i=some (some (i+j,v))/\es[j]? = some e/\e.key = .int .i64 n /\
   (∀ x∈es.modify j (fun e=>{ e with key:=.int .i64 n,val:=u }),∃ m,x.key = .int .i64 m)/\∀ m,HD (es.modify j fun e=>{ e with key:=.int .i64 n,val:=u }) m=if m=n then some u else HD es m
 |[],i,_,h=>absurd rfl h
 |e::r,i,h,hl=>by
  obtain ⟨k,hk⟩:=h e (List.mem_cons_self ..);by_cases ak:k=n
  ·subst ak;refine ⟨0,e.val,e,?_,rfl,hk,fun x hx=>?_,fun m=>?_⟩
   all_goals grind [Instr.findNow,Instr.sameNow,List.modify_zero_cons,HD]
  ·have hb:(n == k)=false:=by grind
   simp only [HD,hk,ak,if_false] at hl;obtain ⟨j,v,e',g1,g2,g3,g4,g5⟩:=Q5D n u r (i+1) (fun x hx=>h x (List.mem_cons_of_mem _ hx)) hl;refine ⟨j+1,v,e',?_,by simp_all,g3,fun x hx=>?_,fun m=>?_⟩
   ·simp only [Instr.findNow,Instr.sameNow,hk,hb,if_true,g1];rw [Qio,Nat.add_comm 1 j]
   ·simp only [List.modify_succ_cons,Qic] at hx;rcases hx with rfl | hx
    ·exact ⟨k,hk⟩
    ·exact g4 x hx
   grind [List.modify_succ_cons,HD]
theorem Q2d (n:Int) (e:MapEntry) (he:e.key = .int .i64 n):∀ (es:List MapEntry),(∀ e∈es,∃ m,e.key = .int .i64 m)->HD es n=none->∀ m,HD (es++[e]) m=if m=n then some e.val else HD es m
 |[],_,_,m=>by
  simp only [List.nil_append,HD,he];by_cases h:n=m
  ·simp [h]
  ·rw [Qi6 h,Qi6 (fun e=>h e.symm)]
 |x::r,h,hl,m=>by
  obtain ⟨k,hk⟩:=h x (List.mem_cons_self ..);simp only [HD,hk] at hl;by_cases aj:k=n
  ·rw [Qia aj] at hl;cases hl
  ·rw [Qi6 aj] at hl;have ih:=Q2d n e he r (fun y hy=>h y (List.mem_cons_of_mem _ hy)) hl m;simp only [List.cons_append,HD,hk,ih];by_cases hm:k=m
   ·subst hm;simp [aj]
   ·simp [hm]
theorem Q6u {tt:TT} (hT:TOk P tt) {t:TypeId} (ht:TJ tt t = .mpb) {w:World} {b:Nat} {f:Int->Bool} (hm:MpR w b f) (n:Int) (v:Bool) :
  ∃ w',(Instr.mapUpdate t (.map (some b)) (.int .i64 n) (.bool v)).run P w = .ok () w'/\MpR w' b (Q6q f n v)/\(∀ k,k≠b->w'.heap[k]? = w.heap[k]?)/\w'.os=w.os/\w'.tape=w.tape/\w'.output=w.output/\w'.heap.size=w.heap.size:=by
 obtain ⟨ti,a7,a5⟩:=Xt ht (by simp);obtain ⟨K0,e,hu,hk,i,hi,hz⟩:=(hT t ti a7).kmpb a5;obtain ⟨es,an,hb,aj,hn,au⟩:=hm;have a2:b<w.heap.size:=(Qi8.1 hb).1;have az:(Instr.checkKey false 10000 K0 (.int .i64 n)).run P w = .ok () w:=by
  rw [show (10000:Nat)=9999+1 from rfl,Instr.checkKey];simp only [QhX,QN hk,QhT];rfl
 have aw:∀ (ao:Array MapEntry) (ak:Nat),(Instr.mapUpdate t (.map (some b)) (.int .i64 n) (.bool v)).run P w = .ok () { w with heap:=w.heap.setIfInBounds b (.map ao ak) } ->
   (∀ e∈ao.toList,∃ m,e.key = .int .i64 m)->(∀ m,HD ao.toList m=if m=n then some (.bool v) else HD es.toList m) ->
   ∃ w',(Instr.mapUpdate t (.map (some b)) (.int .i64 n) (.bool v)).run P w = .ok () w'/\MpR w' b (Q6q f n v)/\(∀ k,k≠b->w'.heap[k]? = w.heap[k]?)/\w'.os=w.os/\w'.tape=w.tape/\w'.output=w.output/\w'.heap.size=w.heap.size:=by
  intro ao ak ax a4 ay;refine ⟨_,ax,⟨ao,ak,by simp [a2],a4,fun m hm=>?_,fun m x hm=>?_⟩,fun k hk=>?_,rfl,rfl,rfl,by simp⟩
  ·rw [ay] at hm;by_cases e1:m=n
   ·rw [Qia e1] at hm;cases hm
   ·rw [Qi6 e1] at hm;simp [Q6q,e1,hn m hm]
  ·rw [ay] at hm;by_cases e1:m=n
   ·rw [Qia e1] at hm;injection hm with hm;simp [Q6q,e1,<- hm]
   ·rw [Qi6 e1] at hm;simp [Q6q,e1,au m x hm]
  ·simp [Ne.symm hk]
 cases hl:HD es.toList n with
 |none=>
  have hf:Instr.findNow (.int .i64) (.int .i64 n) es.toList 0=some none:=by
   rcases SN n es.toList 0 aj with ⟨_,h2⟩ | ⟨j,x,h1,_⟩
   ·exact h2
   ·rw [hl] at h1;cases h1
  refine aw (es.push ⟨.int .i64 n,.bool v,an⟩) (an+1) ?_ (fun x hx=>?_) (fun m=>?_)
  ·simp [Instr.mapUpdate,QN hu,Qib hb,az,Instr.findKey,QN hk,hf,MapKept.run_setObj_map _ hb,Result.andThen]
  ·simp only [Array.toList_push,Qil,List.mem_singleton] at hx;rcases hx with hx | rfl
   ·exact aj x hx
   ·exact ⟨n,rfl⟩
  ·rw [Array.toList_push];exact Q2d n _ rfl es.toList aj hl m
 |some x=>
  obtain ⟨j,y,e',g1,g2,g3,g4,g5⟩:=Q5D n (.bool v) es.toList 0 aj (by rw [hl];simp);rw [Nat.zero_add] at g1;have a6:es[j]? = some e':=by simpa using g2
  have a3:∀ (w:World),(Instr.keyThatStays (.int .i64 n) (.int .i64 n)).run P w = .ok (.int .i64 n) w:=by
   intro w;simp [Instr.keyThatStays,Instr.sameBits]
  refine aw (es.modify j fun e=>{ e with key:=.int .i64 n,val:=.bool v }) an ?_ (by rw [Array.toList_modify];exact g4) (fun m=>by rw [Array.toList_modify];exact g5 m);simp [Instr.mapUpdate,QN hu,Qib hb,az,Instr.findKey,QN hk,g1,a6,g3,a3,MapKept.run_setObj_map _ hb,Result.andThen]
theorem Q37 {o:Oper} {t:TypeId} (ho:o.op = .makeMap t none) {ev:Operand->AV} {hl:Nat->Option Ob} {aj:Nat} (hn:hl aj=none) :
  GQ P E o ev hl ⟨.arr aj,[]++[(aj,some (.mp t fun _=>false))],[]⟩:=by
 intro β S st a w hR hO hA aq K Q hK;have an:look st.h aj=none:=by rw [hA aj (.inr (by simp [wrL]))];exact hn
 have hc:Us st aj=true:=by grind [We]
 have ak:(execOp a.eval o).run P w = .ok (.value (.map (some w.heap.size))) (w.alloc (.map #[] 0)):=by
  unfold execOp;rw [ho];rfl
 unfold Oper.wp;rw [ak];refine hK _ _ ⟨SQ β aj (some w.heap.size),S,?_,.mp aj w.heap.size t (fun _=>false) (by simp [SQ]) (by simp [NL,look])⟩;exact hR.new an hc ⟨w.heap.size,by simp [SQ],#[],0,VY _ _,by simp,fun n _=>rfl,fun n v h=>by trivial⟩
theorem AH {tt:TT} (hT:TOk P tt) {o:Oper} {t:TypeId} {m x v:Operand} (ho:o.op = .mapUpdate t m x v) {ev:Operand->AV} {hl:Nat->Option Ob} {l t':Nat} {f:Int->Bool} {n:Int} {b:Bool}
  (ht:TJ tt t = .mpb) (hm:ev m = .arr l) (hx:ev x = .d (.int .i64 n)) (hv:ev v = .d (.bool b)) (aj:hl l=some (.mp t' f)):GQ P E o ev hl ⟨.top,[(l,some (.mp t' (Q6q f n b)))],[l]⟩:=by
 intro β S st a w hR hO hA bh K Q hK;have aj:look st.h l=some (.mp t' f):=by rw [hA l (.inl (by simp))];exact aj
 obtain ⟨bk,hb,a8⟩:=RdA.mp_inv aj (hm▸hO.at (x:=m) (by grind [Op.operands]));have bb:=(hx▸hO.at (x:=x) (by simp [ho,Op.operands])).int_inv;have bi:=(hv▸hO.at (x:=v) (by simp [ho,Op.operands])).bool_inv;obtain ⟨b2,bc,ar⟩:=hR.hr.ob l _ aj;obtain rfl:bk=b2:=by simp_all
 obtain ⟨w',a3,au,ao,a2,ak,aq,ay⟩:=Q6u hT ht ar n b;have an:(execOp a.eval o).run P w = .ok .skip w':=by
  simp_all [execOp,QhX,QhT]
 unfold Oper.wp;rw [an];refine hK undef _ ⟨β,S,?_,.top _⟩;obtain ⟨es,az,a5,_⟩:=ar;refine hR.set aj hb ao a2 ak aq ay ⟨rfl,fun h=>?_,fun e s rows h=>?_,fun b3 cs ty fz _ bj a7=>?_,fun t1 f1 h=>?_⟩ ⟨bk,hb,au⟩
 ·simp_all
 ·rw [aj] at h;cases h
 ·simp_all
 ·rw [aj] at h;injection h with h
  injection h with h1 h2
  subst h1;exact .inr ⟨Q6q f n b,by rw [WL,Qia rfl]⟩
theorem Q3I {tt:TT} (hT:TOk P tt) {o:Oper} {t:TypeId} {m x:Operand} (ho:o.op = .lookup t m x false) {ev:Operand->AV} {hl:Nat->Option Ob} {l t':Nat} {f:Int->Bool} {n:Int}
  (ht:TJ tt t = .mpb) (hm:ev m = .arr l) (hx:ev x = .d (.int .i64 n)) (aj:hl l=some (.mp t' f)):GQ P E o ev hl ⟨.d (.bool (f n)),[],[l]⟩:=by
 obtain ⟨ti,az,ax⟩:=Xt ht (by simp);obtain ⟨K0,e,hu,hk,i,hi,hz⟩:=(hT t ti az).kmpb ax;refine Qk fun β S st a w hR hO hA=>?_
 have aj:look st.h l=some (.mp t' f):=by rw [hA l (.inl (by simp))];exact aj
 obtain ⟨bk,hb,aw⟩:=RdA.mp_inv aj (hm▸hO.at (x:=m) (by simp [ho,Op.operands]));have ay:=(hx▸hO.at (x:=x) (by simp [ho,Op.operands])).int_inv;obtain ⟨b2,ar,es,a2,ao,an,hn,ak⟩:=hR.hr.ob l _ aj;obtain rfl:bk=b2:=by rw [hb] at ar;injection ar
 have a3:(zeroValue e).run P w = .ok (.bool false) w:=by simp [zeroValue,Yl hi,hz]
 have au:(Instr.checkKey es.isEmpty 10000 K0 (.int .i64 n)).run P w = .ok () w:=by
  rw [show (10000:Nat)=9999+1 from rfl,Instr.checkKey];simp only [QhX,QN hk,QhT];rfl
 have aq:(Instr.lookup t (.map (some bk)) (.int .i64 n) false).run P w = .ok (.bool (f n)) w:=by
  rcases SN n es.toList 0 an with ⟨h1,h2⟩ | ⟨j,v,h1,h2⟩
  ·rw [hn n h1];simp [Instr.lookup,QN hu,Qib ao,au,Instr.findKey,QN hk,h2,a3,Result.andThen]
  ·rw [<- ak n v h1];simp [Instr.lookup,QN hu,Qib ao,au,Instr.findKey,QN hk,h2,Result.andThen]
 refine ⟨.bool (f n),?_,.d _ _ (.bool _)⟩;unfold execOp;rw [ho];simp only [aw,ay,QhX,aq,QhT];rfl
end
end Go.Vx
namespace Go.Vx
section
variable {P:Program} {E:Env} {R:Type}
theorem Q4n {s:List UInt8} {n b:Int} (h:VP s n=some b):0<=n/\∃ aj:n.toNat<s.length,b=((s[n.toNat]' aj).toNat:Int):=by
 grind [VP]
theorem Q7c {tt:TT} (hT:TOk P tt) {o:Oper} {t:TypeId} {x i:Operand} (ho:o.op = .index t x i) {g:Bool} {ev:Operand->AV} {hl:Nat->Option Ob} {k:Dl->Option R} {r:R}
  (h:Q9s tt g t (ev x) (ev i) k=some r):∃ dl,k dl=some r/\(g=true->GQ P E o ev hl dl):=by
 have aj:x∈o.op.operands.toList:=by grind [Op.operands]
 have an:i∈o.op.operands.toList:=by simp [ho,Op.operands]
 unfold Q9s at h;split at h
 case h_2=>cases h
 rename_i s ik n hk aq ar;obtain ⟨ti,ao,ak⟩:=Xt hk (by simp);have hu:=(hT t ti ao).kstr ak;obtain ⟨b,h,hp⟩:=QM h;refine ⟨_,h,fun hg=>Qk fun β S st a w hR hO hA=>?_⟩;obtain ⟨bs,hs,hx⟩:=(aq▸hO.at aj).str_inv;have hi:=(ar▸hO.at an).int_inv;obtain ⟨h0,aw,hb⟩:=Q4n (hp hg);have a2:s.length=bs.size:=by simp_all
 refine ⟨.int .u8 b,?_,.d _ _ (.int _ _)⟩;unfold execOp;have:=run_index_string (P:=P) w t bs ik n hu;rw [dif_pos ⟨h0,by omega⟩] at this
 simp_all [QhX,QhT,ByteArray.getElem_eq_getElem_data]
theorem VH {ev:Operand->AV} {β:Nat->Option Nat} {S:Nat->Prop} {h:Nat->Option Ob} {w:World} {tm:Nat->Value} {ρ:Operand->Value} {x:Option Operand} {n:Option Int} (hb:Nc ev x=some n) (hx:∀ y,x=some y->RdA β S h w tm (ρ y) (ev y)) :
  (x=none/\n=none)\/∃ y k m,x=some y/\n=some m/\ρ y = .int k m:=by
 cases x with
 |none=>grind [Nc]
 |some y=>
  simp only [Nc] at hb;split at hb
  ·rename_i k m aj;simp at hb;exact .inr ⟨y,k,m,rfl,hb.symm,(aj▸hx y rfl).int_inv⟩
  ·cases hb
theorem NC {len:Nat} {lo hi:Option Int} {q:Nat × Nat} (h:slB len lo hi=some q) :
  0<=lo.getD 0/\lo.getD 0<=hi.getD len/\hi.getD len<=len/\q=((lo.getD 0).toNat,(hi.getD len).toNat):=by
 grind [slB]
theorem NJ (aj:Bool) {len cap:Nat} (ar:len<=cap) {lo hi:Option Operand} {l h:Option Int} {ρ:Operand->Value} {w:World} {q:Nat × Nat} (hs:slB len l h=some q)
  (ao:(lo=none/\l=none)\/∃ y k m,lo=some y/\l=some m/\ρ y = .int k m) (an:(hi=none/\h=none)\/∃ y k m,hi=some y/\h=some m/\ρ y = .int k m) :
  (Instr.sliceBounds aj len cap (lo.map ρ) (hi.map ρ) none).run P w = .ok (q.1,q.2,cap) w:=by
 obtain ⟨h1,h2,h3,rfl⟩:=NC hs;rcases ao with ⟨rfl,rfl⟩ | ⟨y,k,m,rfl,rfl,hy⟩ <;> rcases an with ⟨rfl,rfl⟩ | ⟨y',k',m',rfl,rfl,aq⟩ <;> simp only [Option.getD_none,Option.getD_some] at h1 h2 h3
 ·rfl
 ·have e1:0<=m'/\m'<=(cap:Int):=by omega
  simp_all [Instr.sliceBounds,run_sliceBound_if]
 ·simp_all [Instr.sliceBounds,run_sliceBound_if]
 ·have e1:0<=m'/\m'<=(cap:Int):=by omega
  have e2:0<=m/\m<=((m'.toNat:Nat):Int):=by omega
  simp_all [Instr.sliceBounds,run_sliceBound_if]
theorem E7 {α:Type} {l:List α} {q:Nat × Nat} {i:Nat} {a:α} (h:(cut l q)[i]? = some a):i<q.2-q.1/\l[q.1+i]? = some a:=by
 simp_all [cut,List.getElem?_take,List.getElem?_drop]
theorem Q2g {o:Oper} {t:TypeId} {x:Operand} {lo hi:Option Operand} (ho:o.op = .slice t x lo hi none):x∈o.op.operands.toList/\(∀ y,lo=some y->y∈o.op.operands.toList)/\∀ y,hi=some y->y∈o.op.operands.toList:=by
 grind [Op.operands]
theorem Q7b {tt:TT} (hT:TOk P tt) {o:Oper} {t:TypeId} {x:Operand} {lo hi:Option Operand} (ho:o.op = .slice t x lo hi none) {g:Bool} {ev:Operand->AV} {hl:Nat->Option Ob} {k:Dl->Option R} {r:R}
  (h:Q7I tt g t (ev x) (Nc ev lo) (Nc ev hi) k=some r):∃ dl,k dl=some r/\(g=true->GQ P E o ev hl dl):=by
 obtain ⟨a4,ax,ak⟩:=Q2g ho;unfold Q7I at h;split at h
 case h_2=>cases h
 rename_i l' h' a6 a5;split at h
 ·rename_i s hk az;obtain ⟨ti,ay,aq⟩:=Xt hk (by simp);have hu:=(hT t ti ay).kstr aq;obtain ⟨q,h,hp⟩:=QM h;refine ⟨_,h,fun hg=>Qk fun β S st a w hR hO hA=>?_⟩;obtain ⟨bs,hs,hx⟩:=(az▸hO.at a4).str_inv;have au:s.length=bs.size:=by simp_all
  have hb:=NJ (P:=P) false (len:=s.length) (cap:=s.length) (Qih _) (ρ:=a.eval) (w:=w) (hp hg) (VH a6 fun y hy=>hO.at (ax y hy)) (VH a5 fun y hy=>hO.at (ak y hy));rw [au] at hb;refine ⟨.string (bs.extract q.1 q.2),?_,.d _ _ ?_⟩
  ·simp_all [execOp,QhX,run_sliceAt_string,Option.map_none,Instr.slice,QN,QhT,Option.isSome_none,Bool.false_eq_true,if_false]
  ·have:cut s q=(bs.extract q.1 q.2).data.toList:=by
    rw [hs];simp [cut,ByteArray.data_extract]
   rw [this];exact .str _
 ·rename_i e bc s rows hk az;cases hb:Nat.beq s bc with
  |false=>simp [hb] at h
  |true=>
   simp only [hb,QhY] at h;obtain rfl:=QhW hb;obtain ⟨ti,ay,aq⟩:=Xt hk (by simp);obtain ⟨hu,a9,inf,ao,au⟩:=(hT t ti ay).ksl _ _ aq;obtain ⟨q,h,hp⟩:=QM h;refine ⟨_,h,fun hg=>Qk fun β S st a w hR hO hA=>?_⟩;have bg:=(az▸hO.at a4).d_inv;have hq:=NC (hp hg);have aw:∀ (ad:Option Addr) (cap:Nat),rows.length<=cap->a.eval x = .slice ad rows.length cap->(execOp a.eval o).run P w = .ok (.value (.slice (if cap=q.1 then ad else ad.map (·.add (q.1*s))) (q.2-q.1) (cap-q.1))) w:=by
    intro ad cap hc hx;have hb:=NJ (P:=P) true hc (ρ:=a.eval) (w:=w) (hp hg) (VH a6 fun y hy=>hO.at (ax y hy)) (VH a5 fun y hy=>hO.at (ak y hy));unfold execOp;rw [ho];simp only [hx,QhX,Instr.sliceAt,QN hu,QhT,Option.map_none];simp only [Instr.slice,QhX,QN hu,QhT,hb,sizeOf,Yl ao,au];rfl
   have a2:(cut rows q).length=q.2-q.1:=by
    unfold cut;rw [hq.2.2.2];simp;omega
   generalize hv:a.eval x=v at bg aw;cases bg with
   |sl0 ad cap _=>
    refine ⟨_,aw ad cap (Nat.zero_le _) rfl,.d _ _ ?_⟩;have:cut ([]:List (List D)) q=[]:=by simp [cut]
    rw [this];have h0:q.2-q.1=0:=by rw [this] at a2;simpa using a2.symm
    rw [h0];exact .sl0 _ _ _
   |sl ad cap _ _ c hS ba a8 hc hr=>
    refine ⟨_,aw (some ad) cap ba rfl,.d _ _ ?_⟩;by_cases h0:q.2-q.1=0
    ·have:cut rows q=[]:=Qi3 (by rw [a2,h0]);rw [this,h0];exact .sl0 _ _ _
    ·have bh:cap≠q.1:=by
      have:=hq.2.2.1;have:=hq.2.2.2;have h1:q.2<=rows.length:=by rw [this];simp;omega
      omega
     rw [Qi6 bh,<- a2];refine Rd.sl (ad.add (q.1*s)) (cap-q.1) s (cut rows q) (fun i j=>c (q.1+i) j) (by rw [Jt];exact hS) ?_ ?_ ?_ ?_
     ·rw [a2];have:=hq.2.2.2;have h1:q.2<=rows.length:=by rw [this];simp;omega
      omega
     ·intro i r an;exact a8 _ _ (E7 an).2
     ·intro i j r y an hy;have:=hc (q.1+i) j r y (E7 an).2 hy;rw [CC,<- Qio,<- Nat.add_mul];exact this
     ·intro i j r y an hy;exact hr (q.1+i) j r y (E7 an).2 hy
 ·rename_i e bc hk az;obtain ⟨ti,ay,aq⟩:=Xt hk (by simp);obtain ⟨hu,a9,inf,ao,au⟩:=(hT t ti ay).ksl _ _ aq;obtain ⟨q,h,hp⟩:=QM h;refine ⟨_,h,fun hg=>Qk fun β S st a w hR hO hA=>?_⟩;have hx:=(az▸hO.at a4).nil_inv;have hq:=NC (hp hg);have hb:=NJ (P:=P) true (Qih 0) (ρ:=a.eval) (w:=w) (hp hg) (VH a6 fun y hy=>hO.at (ax y hy)) (VH a5 fun y hy=>hO.at (ak y hy));have h0:q.2-q.1=0:=by
   obtain ⟨q1,q2,q3,q4⟩:=hq;rw [q4];show (h'.getD ((0:Nat):Int)).toNat-(l'.getD 0).toNat=0;omega
  have h1:0-q.1=0:=Nat.zero_sub _;refine ⟨.slice none 0 0,?_,.nil⟩;unfold execOp;rw [ho];simp only [hx,QhX,Instr.sliceAt,QN hu,QhT,Option.map_none];simp only [Instr.slice,QhX,QN hu,QhT,hb,sizeOf,Yl ao,au,h0,h1,Option.map_none,ite_self];rfl
 ·cases h
theorem Q2S {len:Nat} {lo hi mx:Option Int} {q:Nat × Nat} (h:Qfq len lo hi mx=some q):∃ m,hi=some m/\mx=some m/\slB len lo (some m)=some q:=by
 unfold Qfq at h
 grind
theorem Cu {len cap:Nat} (aq:len<=cap) {lo:Option Operand} {yh ym:Operand} {l:Option Int} {m:Int} {kh km:IntKind} {ρ:Operand->Value} {w:World} {q:Nat × Nat} (hs:slB len l (some m)=some q)
  (aj:(lo=none/\l=none)\/∃ y k m,lo=some y/\l=some m/\ρ y = .int k m) (hh:ρ yh = .int kh m) (hm:ρ ym = .int km m) :
  (Instr.sliceBounds true len cap (lo.map ρ) (some (ρ yh)) (some (ρ ym))).run P w = .ok (q.1,q.2,q.2) w:=by
 obtain ⟨h1,h2,h3,rfl⟩:=NC hs;simp only [Option.getD_some] at h2 h3;have e1:0<=m/\m<=(cap:Int):=by
  omega
 have e2:0<=m/\m<=((m.toNat:Nat):Int):=by omega
 rcases aj with ⟨rfl,rfl⟩ | ⟨y,k,a,rfl,rfl,hy⟩
 ·simp_all [Instr.sliceBounds,run_sliceBound_if]
 ·simp only [Option.getD_some] at h1 h2;have e3:0<=a/\a<=((m.toNat:Nat):Int):=by omega
  simp_all [Instr.sliceBounds,run_sliceBound_if,Qia]
theorem Q6B {o:Oper} {t:TypeId} {x mx:Operand} {lo hi:Option Operand} (ho:o.op = .slice t x lo hi (some mx)):x∈o.op.operands.toList/\(∀ y,lo=some y->y∈o.op.operands.toList)/\(∀ y,hi=some y->y∈o.op.operands.toList)/\mx∈o.op.operands.toList:=by
 grind [Op.operands]
theorem Q4L {tt:TT} (hT:TOk P tt) {o:Oper} {t:TypeId} {x mx:Operand} {lo hi:Option Operand} (ho:o.op = .slice t x lo hi (some mx)) {g:Bool} {ev:Operand->AV} {hl:Nat->Option Ob} {k:Dl->Option R} {r:R}
  (h:Q3O tt g t (ev x) (Nc ev lo) (Nc ev hi) (Nc ev (some mx)) k=some r):∃ dl,k dl=some r/\(g=true->GQ P E o ev hl dl):=by
 obtain ⟨bj,aw,ax,bn⟩:=Q6B ho;unfold Q3O at h;split at h
 case h_2=>cases h
 rename_i l' h' m' bb bg bh;split at h
 ·rename_i e bl s rows hk a8;cases hb:Nat.beq s bl with
  |false=>simp_all
  |true=>
   simp only [hb,QhY] at h;obtain rfl:=QhW hb;obtain ⟨ti,a7,a4⟩:=Xt hk (by simp);obtain ⟨hu,bc,inf,ao,az⟩:=(hT t ti a7).ksl _ _ a4;obtain ⟨q,h,hp⟩:=QM h;refine ⟨_,h,fun hg=>Qk fun β S st a w hR hO hA=>?_⟩;have bm:=(a8▸hO.at bj).d_inv;obtain ⟨m,rfl,rfl,aq⟩:=Q2S (hp hg);have hq:=NC aq;rcases VH bg fun y hy=>hO.at (ax y hy) with ⟨_,hn⟩ | ⟨yh,kh,mh,rfl,e1,a3⟩
   ·cases hn
   rcases VH bh fun y hy=>hO.at (by injection hy with hy;subst hy;exact bn) with ⟨_,hn⟩ | ⟨ym,km,mm,e3,e2,a6⟩
   ·cases hn
   injection e1 with e1
   injection e2 with e2
   injection e3 with e3
   subst e1 e2 e3;have ar:∀ (ad:Option Addr) (cap:Nat),rows.length<=cap->a.eval x = .slice ad rows.length cap->(execOp a.eval o).run P w = .ok (.value (.slice (if q.2=q.1 then ad else ad.map (·.add (q.1*s))) (q.2-q.1) (q.2-q.1))) w:=by
    intro ad cap hc hx;have hb:=Cu (P:=P) hc (ρ:=a.eval) (w:=w) aq (VH bb fun y hy=>hO.at (aw y hy)) a3 a6;unfold execOp;rw [ho];simp only [hx,QhX,Instr.sliceAt,QN hu,QhT,Option.map_some];simp only [Instr.slice,QhX,QN hu,QhT,hb,sizeOf,Yl ao,az];rfl
   have b2:q.2<=rows.length:=by
    have h3:=hq.2.2.1;rw [hq.2.2.2];simp only [Option.getD_some] at h3 ⊢;omega
   have ak:(cut rows q).length=q.2-q.1:=by
    unfold cut;simp;omega
   generalize hv:a.eval x=v at bm ar;have ay:∀ (ad:Option Addr),Rd S w (.slice ad (q.2-q.1) (q.2-q.1)) (.sl s (cut rows q))->RdA β S (look st.h) w (tmv a) (.slice ad (q.2-q.1) (q.2-q.1)) (.fs s (cut rows q)):=by
    intro ad hr;have:=RdA.fs (β:=β) (h:=look st.h) (tm:=tmv a) ad s (cut rows q) (by rw [ak];exact hr);rw [ak] at this;exact this
   cases bm with
   |sl0 ad cap _=>
    refine ⟨_,ar ad cap (Nat.zero_le _) rfl,ay _ ?_⟩;have:cut ([]:List (List D)) q=[]:=by simp [cut]
    rw [this];have h0:q.2-q.1=0:=by rw [this] at ak;simpa using ak.symm
    rw [h0];exact .sl0 _ _ _
   |sl ad cap _ _ c hS ba bi hc hr=>
    refine ⟨_,ar (some ad) cap ba rfl,ay _ ?_⟩;by_cases h0:q.2-q.1=0
    ·have:cut rows q=[]:=Qi3 (by rw [ak,h0]);rw [this,h0];exact .sl0 _ _ _
    ·have bo:q.2≠q.1:=by omega
     rw [Qi6 bo];have:=Rd.sl (S:=S) (w:=w) (ad.add (q.1*s)) (q.2-q.1) s (cut rows q) (fun i j=>c (q.1+i) j) (by rw [Jt];exact hS) (by rw [ak];exact Qih _) (fun i r an=>bi _ _ (E7 an).2) (fun i j r y an hy=>by
      have:=hc (q.1+i) j r y (E7 an).2 hy;rw [CC,<- Qio,<- Nat.add_mul];exact this) (fun i j r y an hy=>hr (q.1+i) j r y (E7 an).2 hy)
     rw [ak] at this;exact this
 ·rename_i e bl hk a8;obtain ⟨ti,a7,a4⟩:=Xt hk (by simp);obtain ⟨hu,bc,inf,ao,az⟩:=(hT t ti a7).ksl _ _ a4;obtain ⟨q,h,hp⟩:=QM h;refine ⟨_,h,fun hg=>Qk fun β S st a w hR hO hA=>?_⟩;have hx:=(a8▸hO.at bj).nil_inv;obtain ⟨m,rfl,rfl,aq⟩:=Q2S (hp hg);have hq:=NC aq;rcases VH bg fun y hy=>hO.at (ax y hy) with ⟨_,hn⟩ | ⟨yh,kh,mh,rfl,e1,a3⟩
  ·cases hn
  rcases VH bh fun y hy=>hO.at (by injection hy with hy;subst hy;exact bn) with ⟨_,hn⟩ | ⟨ym,km,mm,e3,e2,a6⟩
  ·cases hn
  injection e1 with e1
  injection e2 with e2
  injection e3 with e3
  subst e1 e2 e3;have hb:=Cu (P:=P) (Qih 0) (ρ:=a.eval) (w:=w) aq (VH bb fun y hy=>hO.at (aw y hy)) a3 a6;have h0:q.2-q.1=0:=by
   obtain ⟨q1,q2,q3,q4⟩:=hq;rw [q4];simp only [Option.getD_some] at q2 q3 ⊢;omega
  refine ⟨.slice none 0 0,?_,.fs none _ [] (.sl0 _ _ _)⟩;unfold execOp;rw [ho];simp only [hx,QhX,Instr.sliceAt,QN hu,QhT,Option.map_some];simp only [Instr.slice,QhX,QN hu,QhT,hb,sizeOf,Yl ao,az,h0,Option.map_none,ite_self];rfl
 ·cases h
end
end Go.Vx
