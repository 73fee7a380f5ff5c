/- Part of a proof. No conditions of their own. -/
import Derived.Orders
import Derived.Below
import Derived.Laws.StructEq
import Derived.Laws.Strings3
import Derived.Laws.Concat
import Derived.Laws.BytesString
import Derived.Laws.Shifts
import Derived.Laws.Slices
import Derived.Laws.Cells
import Derived.Laws.Rows
import Derived.Tactics2
import Derived.WideLaws
import Derived.Laws.AppendOwn
import Derived.Maps.AppendAt
import Derived.ArgAppend
import Derived.Lib.ConvBytes
import Derived.Carry
set_option linter.unusedVariables false
set_option linter.unusedSimpArgs false
abbrev QcO:=@List.getElem?_eq_some_iff
abbrev QcP:=@Bool.and_eq_true
abbrev QcQ:=@Go.Result.andThen_ok
abbrev QcR:=@Nat.eq_of_beq_eq_true
abbrev QcS:=@Option.map_eq_some_iff
abbrev QcT:=@Go.Sem.run_bind
abbrev QcU:=@cond_true
abbrev QcV:=@Nat.mul_le_mul_right
abbrev QcW:=@List.getElem?_map
abbrev QcX:=@if_neg
abbrev QcY:=@Nat.le_of_ble_eq_true
abbrev QcZ:=@Go.ByteArray.toList_eq
abbrev Qd0:=@List.mem_of_getElem?
abbrev Qd1:=@List.getElem?_eq_getElem
abbrev Qd2:=@Array.getElem?_eq_some_iff
abbrev Qd3:=@Array.length_toList
abbrev Qd4:=@List.eq_nil_of_length_eq_zero
abbrev Qd5:=@List.mem_cons
abbrev Qd6:=@if_pos
abbrev Qd7:=@Array.toList_inj
abbrev Qd8:=@List.getElem?_set_self
abbrev Qd9:=@Go.MapKept.run_getObj_map
abbrev Qda:=@List.all_eq_true
abbrev Qdb:=@List.getElem?_set_ne
abbrev Qdc:=@Nat.succ_mul
abbrev Qdd:=@List.mem_cons_of_mem
abbrev Qde:=@Go.Sem.run_pure
abbrev Qdf:=@Nat.mul_le_mul_left
abbrev Qdg:=@List.length_cons
abbrev Qdh:=@Nat.lt_of_lt_of_le
abbrev Qdi:=@List.mem_append
abbrev Qdj:=@List.map_cons
namespace Go.Vx
inductive D where
 |int (k:IntKind) (n:Int)
 |bool (b:Bool)
 |str (s:List UInt8)
 |sl (size:Nat) (rows:List (List D))
inductive AV where
 |top
 |d (x:D)
 |nil
 |ag (l:List AV)
 |tup (l:List AV)
 |ptr (l off:Nat)
 |el (row:List D) (off:Nat)
 |arr (l:Nat)
 |ap (l i off:Nat)
 |gd (t:Nat) (w:Bool) (av:AV)
 |fn (f:Nat) (cap:List AV)
 |fs (s:Nat) (rows:List (List D))
 |sa (l t:Nat)
 |mpd (f:Int->List (List D))
 |ex (v:Value)
inductive Ob where
 |box (cells:List AV)
 |arr (elem size:Nat) (rows:List (List D))
 |mp (t:Nat) (f:Int->Bool)
structure St where
 n:Nat
 tm:List (Nat × AV)
 h:List (Nat × Ob)
def look {α:Type}:List (Nat × α)->Nat->Option α
 |[],_=>none
 |(k,a)::r,t=>bif Nat.beq k t then some a else look r t
def rem {α:Type} (l:Nat):List (Nat × α)->List (Nat × α)
 |[]=>[]
 |(k,a)::r=>bif Nat.beq k l then rem l r else (k,a)::rem l r
def Pd (h:List (Nat × Ob)):List (Nat × Option Ob)->List (Nat × Ob)
 |[]=>h
 |(l,some o)::r=>Pd ((l,o)::rem l h) r
 |(l,none)::r=>Pd (rem l h) r
def H1:Value->AV
 |.int k n=>.d (.int k n)
 |.bool b=>.d (.bool b)
 |.string s=>.d (.str s.data.toList)
 |.slice none 0 0=>.nil
 |_=>.top
inductive Kd where
 |int (k:IntKind)
 |bool
 |str
 |sl (e esz:Nat)
 |struct
 |array (e esz n:Nat)
 |ptr
 |mapI
 |mpb
 |other
structure TyI where
 kd:Kd
 size:Nat
 bytes:Nat
 zero:List Value
 zd:List D
 fields:List (Nat × Nat)
 eqk:Option (List Kd)
abbrev TT:=List (Nat × TyI)
structure Dl where
 v:AV
 wr:List (Nat × Option Ob)
 rd:List Nat
def lkT (tm:List (Nat × AV)) (t:Nat):AV:=(look tm t).getD .top
def evO (tm:List (Nat × AV)):Operand->AV
 |.tmp t=>lkT tm t
 |.const v=>H1 v
 |.global _=>.top
 |.func f=>.fn f []
def bw (e w:Bool):Bool:=bif w then e else !e
def ctx (tm:List (Nat × AV)):Nat->Nat->Bool->Option (Bool × List (Nat × Bool))
 |0,_,_=>none
 |f+1,s,w=>
  match lkT tm s with
  |.d (.bool e)=>some (bw e w,[(s,w)])
  |.gd s' w' (.d (.bool e))=>
   match ctx tm f s' w' with
   |some (g,l)=>some (g&&bw e w,(s,w)::l)
   |none=>none
  |_=>none
def Q8Q:List (Nat × Bool)->Nat->Bool->Bool
 |[],_,_=>false
 |(a,b)::r,s,w=>(Nat.beq a s&&(b == w))||Q8Q r s w
def unw (l:List (Nat × Bool)):AV->AV
 |.gd s w av=>bif Q8Q l s w then av else .gd s w av
 |av=>av
section
variable {R:Type}
def orZ {α:Type} (g:Bool) (p:Option α) (z:α):Option α:=
 match p with
 |some a=>some a
 |none=>bif g then none else some z
def gb {α:Type} (g:Bool) (p:Option α) (z:α) (k:α->Option R):Option R:=Option.bind (orZ g p z) k
def Q3 (k:IntKind):D->Option Int
 |.int k' n=>bif k == k' then some n else none
 |_=>none
def PM:D->Option Bool
 |.bool b=>some b
 |_=>none
def Sv:D->Option (List UInt8)
 |.str s=>some s
 |_=>none
def pSl (size:Nat):D->Option (List (List D))
 |.sl s rows=>bif Nat.beq s size then some rows else none
 |_=>none
def UX:List AV->Bool
 |[]=>true
 |.ptr ..::r=>UX r
 |.d _::r=>UX r
 |_=>false
def FN:AV->Bool
 |.gd ..=>false
 |.fn _ l=>UX l
 |.ag _=>false
 |.tup _=>false
 |_=>true
def prj (g:Bool) (kd:Kd) (av:AV) (k:AV->Option R):Option R:=
 match av with
 |.d x=>
  match kd with
  |.int ik=>gb g (Q3 ik x) 0 fun n=>k (.d (.int ik n))
  |.bool=>gb g (PM x) false fun b=>k (.d (.bool b))
  |.str=>gb g (Sv x) [] fun s=>k (.d (.str s))
  |.sl _ ak=>gb g (pSl ak x) [] fun r=>k (.d (.sl ak r))
  |_=>none
 |av=>bif FN av then k av else none
def CJ (g:Bool) (row:List D):Nat->Nat->(List AV->Option R)->Option R
 |_,0,k=>k []
 |off,n+1,k=>gb g row[off]? (.bool false) fun c=>CJ g row (off+1) n fun cs=>k (.d c::cs)
def Em (cells:List AV):Nat->Nat->Option (List AV)
 |_,0=>some []
 |off,n+1=>
  match cells[off]? with
  |some c=>match Em cells (off+1) n with
   |some r=>bif FN c then some (c::r) else none
   |none=>none
  |none=>none
def Tp:Kd->Bool
 |.struct=>true
 |_=>false
def Uf:Kd->Bool
 |.struct=>true
 |.array ..=>true
 |_=>false
def P9 {α:Type}:Nat->Nat->List α->List (List α)
 |0,_,_=>[]
 |n+1,s,l=>l.take s::P9 n s (l.drop s)
def Ku {α:Type} (l:List α) (n:Nat):Option Unit:=bif Nat.beq l.length n then some () else none
def C8:AV->Bool
 |.d _ | .nil | .ptr .. | .el .. | .arr _ | .ap ..=>true
 |.fn _ l=>UX l
 |_=>false
def Sd (cells:List AV):Nat->List AV->Option (List AV)
 |_,[]=>some cells
 |off,v::r=>bif C8 v&&Nat.ble (off+1) cells.length then Sd (cells.set off v) (off+1) r else none
def Q8I:List AV->Option (List D)
 |[]=>some []
 |.d x::r=>match Q8I r with | some l=>some (x::l) | none=>none
 |_::_=>none
def U4 (tm:Operand->AV):List (Nat × Operand)->List (Nat × AV)
 |[]=>[]
 |(i,x)::r=>(i,tm x)::U4 tm r
def Xr:AV->List AV
 |.ag l=>l
 |.fs s rows=>[.d (.sl s rows)]
 |v=>[v]
def Cn (fields:List (Nat × Nat)) (tt:TT):List AV->List (Nat × AV)->Option (List AV)
 |cells,[]=>some cells
 |cells,(i,v)::r=>
  match fields[i]? with
  |some (off,t)=>match look tt t with
   |some ti=>bif Nat.beq (Xr v).length ti.size&&Nat.ble (off+ti.size) cells.length then
     match Sd cells off (Xr v) with
     |some cs=>Cn fields tt cs r
     |none=>none
    else none
   |none=>none
  |none=>none
def MU (ti:TyI):List AV:=ti.zero.map H1
def Q2n (ak t:Nat):Value->AV
 |.pointer none=>.sa ak t
 |v=>H1 v
def CS (ak t:Nat) (ti:TyI):List AV:=ti.zero.map (Q2n ak t)
def Q36 (op:BinOp) (k:IntKind) (a b:Int):Option D:=
 match op with
 |.add=>some (.int k (k.wrap (a+b)))
 |.sub=>some (.int k (k.wrap (a-b)))
 |.mul=>some (.int k (k.wrap (a*b)))
 |.eql=>some (.bool (a == b))
 |.neq=>some (.bool (a != b))
 |.lss=>some (.bool (decide (a<b)))
 |.leq=>some (.bool (decide (a<=b)))
 |.gtr=>some (.bool (decide (a>b)))
 |.geq=>some (.bool (decide (a>=b)))
 |_=>none
def nz (b:Int):Option Unit:=bif b == 0 then none else some ()
def EO (b:Int):Option Unit:=bif decide (0<=b) then some () else none
def Q5s (n:Nat):Option Unit:=bif Nat.ble n 9223372036854775807 then some () else none
def Q3f (k:IntKind) (a b:Int):Int:=k.wrap ((BitVec.ofInt k.bits a &&& BitVec.ofInt k.bits b).toNat)
def bOr (k:IntKind) (a b:Int):Int:=k.wrap ((BitVec.ofInt k.bits a ||| BitVec.ofInt k.bits b).toNat)
def QaO (k:IntKind) (a b:Int):Int:=k.wrap ((BitVec.ofInt k.bits a ^^^ BitVec.ofInt k.bits b).toNat)
def Q8d (k:IntKind) (a:Int):Int:=QaO k (if k.signed then -1 else k.max) a
def Q4v (k:IntKind) (a b:Int):Int:=k.wrap ((BitVec.ofInt k.bits a &&& ~~~(BitVec.ofInt k.bits b)).toNat)
def shL (k:IntKind) (a b:Int):Int:=k.wrap (a*2 ^ min b.toNat k.bits)
def shR (k:IntKind) (a b:Int):Int:=a.fdiv (2 ^ min b.toNat k.bits)
def Qal (a b:List UInt8):Bool:=Op.bytesLess a b||a == b
def Q1f (g:Bool):List Kd->List AV->List AV->(List Bool->Option R)->Option R
 |[],[],[],k=>k []
 |kd::ks,.d a::xs,.d b::ys,k=>
  match kd with
  |.int ik=>gb g (Q3 ik a) 0 fun m=>gb g (Q3 ik b) 0 fun n=>Q1f g ks xs ys fun r=>k ((m == n)::r)
  |.bool=>gb g (PM a) false fun m=>gb g (PM b) false fun n=>Q1f g ks xs ys fun r=>k ((m == n)::r)
  |.str=>gb g (Sv a) [] fun m=>gb g (Sv b) [] fun n=>Q1f g ks xs ys fun r=>k ((m == n)::r)
  |_=>none
 |_,_,_,_=>none
def Q6p:List Bool->Bool
 |[]=>true
 |[b]=>b
 |b::r=>b&&Q6p r
def Qbv (g:Bool) (op:BinOp) (a b:List UInt8) (k:AV->Option R):Option R:=
 match op with
 |.add=>gb g (Q5s (a.length+b.length)) () fun _=>k (.d (.str (a++b)))
 |.eql=>k (.d (.bool (a == b)))
 |.neq=>k (.d (.bool (!(a == b))))
 |.lss=>k (.d (.bool (Op.bytesLess a b)))
 |.leq=>k (.d (.bool (Qal a b)))
 |.gtr=>k (.d (.bool (!Qal a b)))
 |.geq=>k (.d (.bool (!Op.bytesLess a b)))
 |_=>none
def QbS (g:Bool) (op:BinOp) (kd:Kd) (eqk:Option (List Kd)) (x y:AV) (k:AV->Option R):Option R:=
 match x,y with
 |.d (.int ka a),.d (.int kb b)=>
  match op with
  |.shl=>gb g (EO b) () fun _=>k (.d (.int ka (shL ka a b)))
  |.shr=>gb g (EO b) () fun _=>k (.d (.int ka (shR ka a b)))
  |op=>bif ka == kb then
   match op with
   |.quo=>gb g (nz b) () fun _=>k (.d (.int ka (ka.wrap (a.tdiv b))))
   |.rem=>gb g (nz b) () fun _=>k (.d (.int ka (a.tmod b)))
   |.and=>k (.d (.int ka (Q3f ka a b)))
   |.or=>k (.d (.int ka (bOr ka a b)))
   |.xor=>k (.d (.int ka (QaO ka a b)))
   |.andNot=>k (.d (.int ka (Q4v ka a b)))
   |_=>match Q36 op ka a b with
    |some r=>k (.d r)
    |none=>none
  else none
 |.d (.bool a),.d (.bool b)=>
  match kd,op with
  |.bool,.eql=>k (.d (.bool (a == b)))
  |.bool,.neq=>k (.d (.bool (!(a == b))))
  |_,_=>none
 |.d (.str a),.d (.str b)=>Qbv g op a b k
 |.ag xs,.ag ys=>
  match eqk with
  |some ks=>match op with
   |.eql=>Q1f g ks xs ys fun bs=>k (.d (.bool (Q6p bs)))
   |.neq=>Q1f g ks xs ys fun bs=>k (.d (.bool (!Q6p bs)))
   |_=>none
  |none=>none
 |_,_=>none
def UA (s:List UInt8) (n:Int):Option Int:=bif decide (0<=n) then (s[n.toNat]?).map fun b=>(b.toNat:Int) else none
def slB (len:Nat) (lo hi:Option Int):Option (Nat × Nat):=
 bif decide (0<=lo.getD 0)&&(decide (lo.getD 0<=hi.getD len)&&decide (hi.getD len<=len)) then some ((lo.getD 0).toNat,(hi.getD len).toNat) else none
def QaY (len:Nat) (lo hi mx:Option Int):Option (Nat × Nat):=
 match hi,mx with
 |some h,some m=>bif decide (h=m) then slB len lo (some h) else none
 |_,_=>none
def neL {α:Type}:List α->Option Unit
 |[]=>none
 |_=>some ()
def cut {α:Type} (l:List α) (q:Nat × Nat):List α:=(l.drop q.1).take (q.2-q.1)
def Q2 (rows:List (List D)) (n:Int):Option (List D):=bif decide (0<=n) then rows[n.toNat]? else none
def inB (len:Nat) (n:Int):Option Unit:=bif decide (0<=n)&&decide (n<len) then some () else none
def Cj (ak:Nat) (hl:Nat->Option Ob):AV->Option (List (List D) × List Nat)
 |.d (.sl s rows)=>bif Nat.beq s ak then some (rows,[]) else none
 |.nil=>some ([],[])
 |.arr l=>match hl l with
  |some (.arr _ s rows)=>bif Nat.beq s ak then some (rows,[l]) else none
  |_=>none
 |_=>none
end
abbrev oP:=Option
abbrev oF:D:=.bool false
abbrev pIw:=Q3 .i64
abbrev wJ:=IntKind.wrap .i64
abbrev Q5 (x:Int):D:=.int .i64 x
abbrev Q1j:=(R:Type)->Nat->Nat->Bool->List AV->(Nat->Option Ob)->(Dl->Option R)->Option R
section
variable {R:Type}
def KB (tt:TT) (t:Nat):Kd:=
 match look tt t with
 |some ti=>ti.kd
 |none=>.other
def Q8u (tt:TT) (t:Nat):Option (List Kd):=
 match look tt t with
 |some ti=>ti.eqk
 |none=>none
def PI (ev:Operand->AV):Option Operand->Option (Option Int)
 |none=>some none
 |some x=>match ev x with
  |.d (.int _ n)=>some (some n)
  |_=>none
def Q6d (tt:TT) (g:Bool) (t:Nat) (x i:AV) (k:Dl->Option R):Option R:=
 match KB tt t,x,i with
 |.str,.d (.str s),.d (.int _ n)=>gb g (UA s n) 0 fun b=>k ⟨.d (.int .u8 b),[],[]⟩
 |_,_,_=>none
def Q4R (tt:TT) (g:Bool) (t:Nat) (x:AV) (lo hi:Option (Option Int)) (k:Dl->Option R):Option R:=
 match lo,hi with
 |some lo,some hi=>
  match KB tt t,x with
  |.str,.d (.str s)=>gb g (slB s.length lo hi) (0,0) fun q=>k ⟨.d (.str (cut s q)),[],[]⟩
  |.sl _ ak,.d (.sl s rows)=>bif Nat.beq s ak then gb g (slB rows.length lo hi) (0,0) fun q=>k ⟨.d (.sl ak (cut rows q)),[],[]⟩ else none
  |.sl _ _,.nil=>gb g (slB 0 lo hi) (0,0) fun _=>k ⟨.nil,[],[]⟩
  |_,_=>none
 |_,_=>none
def Q1k (tt:TT) (g:Bool) (t:Nat) (x:AV) (lo hi mx:Option (Option Int)) (k:Dl->Option R):Option R:=
 match lo,hi,mx with
 |some lo,some hi,some mx=>
  match KB tt t,x with
  |.sl _ ak,.d (.sl s rows)=>bif Nat.beq s ak then gb g (QaY rows.length lo hi mx) (0,0) fun q=>k ⟨.fs ak (cut rows q),[],[]⟩ else none
  |.sl _ ak,.nil=>gb g (QaY 0 lo hi mx) (0,0) fun _=>k ⟨.fs ak [],[],[]⟩
  |_,_=>none
 |_,_,_=>none
def ML:List (List D)->Option (List UInt8)
 |[]=>some []
 |[.int .u8 n]::r=>match ML r with
  |some l=>some (UInt8.ofNat n.toNat::l)
  |none=>none
 |_=>none
mutual
def H7:AV->Bool
 |.d (.int ..)=>true
 |.d (.bool _)=>true
 |.d (.str _)=>true
 |.d (.sl ..)=>false
 |.ag l=>Pj l
 |.tup l=>Pj l
 |.fn ..=>false
 |.fs ..=>false
 |.mpd _=>false
 |.el ..=>false
 |.gd ..=>false
 |_=>true
def Pj:List AV->Bool
 |[]=>true
 |a::r=>H7 a&&Pj r
end
def Q4Y:Option Ob->Bool
 |some (.box cells)=>Pj cells
 |some (.arr ..)=>false
 |some (.mp ..)=>false
 |none=>true
def Ef:List (Nat × Option Ob)->Bool
 |[]=>true
 |(_,o)::r=>Q4Y o&&Ef r
def Q3X (hl:Nat->Option Ob):AV->Option (AV × List Nat)
 |.arr l=>match hl l with
  |some (.arr _ size rows)=>some (.d (.sl size rows),[l])
  |_=>none
 |av=>bif FN av then some (av,[]) else none
def Lw (hl:Nat->Option Ob):List AV->Option (List AV × List Nat)
 |[]=>some ([],[])
 |a::r=>match Q3X hl a with
  |some (a',l)=>match Lw hl r with
   |some (r',l')=>some (a'::r',l++l')
   |none=>none
  |none=>none
def TR (hl:Nat->Option Ob):AV->Option (AV × List Nat)
 |.ag cs=>match Lw hl cs with
  |some (ak,l)=>some (.ag ak,l)
  |none=>none
 |av=>Q3X hl av
def TN (hl:Nat->Option Ob):List AV->Option (List AV × List Nat)
 |[]=>some ([],[])
 |a::r=>match TR hl a with
  |some (a',l)=>match TN hl r with
   |some (r',l')=>some (a'::r',l++l')
   |none=>none
  |none=>none
def Q4t:List D->List AV->Option (List D)
 |[],[]=>some []
 |z::zs,a::r=>
  match Q4t zs r with
  |some l=>match a with
   |.d x=>some (x::l)
   |.nil=>match z with
    |.sl e []=>some (.sl e []::l)
    |_=>none
   |_=>none
  |none=>none
 |_,_=>none
def PF (tt:TT) (t:Nat):List D:=
 match look tt t with
 |some ti=>ti.zd
 |none=>[]
def Rf (z:List D):List (List D)->List (Nat × AV)->Option (List (List D))
 |rows,[]=>some rows
 |rows,(i,v)::r=>
  match Q4t z (Xr v) with
  |some row=>bif Nat.ble (i+1) rows.length then Rf z (rows.set i row) r else none
  |none=>none
def Q7V (row:List D):Nat->List D->List D
 |_,[]=>row
 |off,x::r=>Q7V (row.set off x) (off+1) r
def YD (n:Nat):Option Unit:=bif Nat.ble n 140737488355328 then some () else none
def Q95 (tt:TT) (g:Bool) (hl:Nat->Option Ob) (t:Nat) (a:AV) (k:Dl->Option R):Option R:=
 match look tt t with
 |some ti=>
  match a with
  |.ptr l off=>match hl l with
   |some (.box cells)=>
    bif Uf ti.kd then
     match Em cells off ti.size with
     |some cs=>k ⟨.ag cs,[],[l]⟩
     |none=>none
    else match cells[off]? with
     |some c=>prj g ti.kd c fun v=>k ⟨v,[],[l]⟩
     |none=>none
   |_=>none
  |.el row off=>
   bif Uf ti.kd then CJ g row off ti.size fun cs=>k ⟨.ag cs,[],[]⟩
   else gb g row[off]? (.bool false) fun c=>prj g ti.kd (.d c) fun v=>k ⟨v,[],[]⟩
  |.ap l i off=>match hl l with
   |some (.arr _ _ rows)=>
    gb g rows[i]? [] fun row=>
     bif Uf ti.kd then CJ g row off ti.size fun cs=>k ⟨.ag cs,[],[l]⟩
     else gb g row[off]? (.bool false) fun c=>prj g ti.kd (.d c) fun v=>k ⟨v,[],[l]⟩
   |_=>none
  |_=>none
 |none=>none
def Q5Z (tt:TT) (hl:Nat->Option Ob) (t:Nat) (a v:AV) (k:Dl->Option R):Option R:=
 match look tt t with
 |some ti=>
  bif Nat.beq (Xr v).length ti.size then
   match a with
   |.ptr l off=>match hl l with
    |some (.box cells)=>match Sd cells off (Xr v) with
     |some cs=>k ⟨.top,[(l,some (.box cs))],[l]⟩
     |none=>none
    |_=>none
   |.ap l i off=>match hl l with
    |some (.arr e size rows)=>match Q8I (Xr v) with
     |some ds=>gb true rows[i]? [] fun row=>bif Nat.ble (off+ds.length) size then k ⟨.top,[(l,some (.arr e size (rows.set i (Q7V row off ds))))],[l]⟩ else none
     |none=>none
    |_=>none
   |_=>none
  else none
 |none=>none
def Q2w (hl:Nat->Option Ob) (ak n l:Nat) (v:AV) (k:Dl->Option R):Option R:=
 match hl l with
 |some (.arr e s rows)=>
  bif Nat.beq s ak then
   match Q8I (Xr v) with
   |some ds=>bif Nat.beq ds.length (n*ak) then gb true (Ku rows n) () fun _=>k ⟨.top,[(l,some (.arr e s (P9 n ak ds)))],[l]⟩ else none
   |none=>none
  else none
 |_=>none
def RC (g:Bool) (hl:Nat->Option Ob) (ak n l:Nat) (i:AV) (k:Dl->Option R):Option R:=
 match i,hl l with
 |.d (.int _ x),some (.arr _ s _)=>bif Nat.beq s ak then gb g (inB n x) () fun _=>k ⟨.ap l x.toNat 0,[],[l]⟩ else none
 |_,_=>none
def Q4m (s:List UInt8):List (List D):=s.map fun b=>[D.int .u8 (b.toNat:Int)]
def Q5Y (tt:TT) (g:Bool) (t f:Nat) (x:AV) (k:Dl->Option R):Option R:=
 match look tt t with
 |some ti=>bif Tp ti.kd then match ti.fields[f]? with
   |some (off,ft)=>match look tt ft with
    |some fi=>match x with
     |.ag cells=>
      bif Uf fi.kd then
       match Em cells off fi.size with
       |some cs=>k ⟨.ag cs,[],[]⟩
       |none=>none
      else match cells[off]? with
       |some c=>prj g fi.kd c fun v=>k ⟨v,[],[]⟩
       |none=>none
     |_=>none
    |none=>none
   |none=>none
  else none
 |none=>none
def L7 (tt:TT) (hl:Nat->Option Ob) (t f:Nat) (x:AV) (k:Dl->Option R):Option R:=
 match look tt t with
 |some ti=>bif Tp ti.kd then match ti.fields[f]? with
   |some (off,_)=>match x with
    |.ptr l o=>k ⟨.ptr l (o+off),[],[]⟩
    |.el row o=>k ⟨.el row (o+off),[],[]⟩
    |.ap l i o=>match hl l with
     |some (.arr ..)=>k ⟨.ap l i (o+off),[],[l]⟩
     |_=>none
    |_=>none
   |none=>none
  else none
 |none=>none
def MR (tt:TT) (g:Bool) (hl:Nat->Option Ob) (t:Nat) (x i:AV) (k:Dl->Option R):Option R:=
 match KB tt t,i with
 |.sl _ ak,.d (.int _ n)=>
  match x with
  |.d (.sl s rows)=>bif Nat.beq s ak then gb g (Q2 rows n) [] fun row=>k ⟨.el row 0,[],[]⟩ else none
  |.arr l=>match hl l with
   |some (.arr _ s rows)=>bif Nat.beq s ak then gb g (inB rows.length n) () fun _=>k ⟨.ap l n.toNat 0,[],[l]⟩ else none
   |_=>none
  |.nil=>gb g (Q2 [] n) [] fun row=>k ⟨.el row 0,[],[]⟩
  |_=>none
 |_,_=>none
def QbJ (tt:TT) (hl:Nat->Option Ob) (t:Nat) (x:AV):Option (Int × List Nat):=
 match KB tt t with
 |.sl _ _=>match x with
  |.d (.sl _ rows)=>some (rows.length,[])
  |.nil=>some (0,[])
  |.arr l=>match hl l with
   |some (.arr _ _ rows)=>some (rows.length,[l])
   |_=>none
  |_=>none
 |.str=>match x with
  |.d (.str s)=>some (s.length,[])
  |_=>none
 |_=>none
def E6 (isMin:Bool):AV->List AV->Option AV
 |a,[]=>some a
 |.d (.int k a),.d (.int k' b)::r=>bif k == k' then E6 isMin (.d (.int k (bif isMin then (if b<a then b else a) else (if a<b then b else a)))) r else none
 |_,_=>none
def Mp (hl:Nat->Option Ob) (ak:Nat) (o:Ob) (v:AV) (wr:List (Nat × Option Ob)) (rd:List Nat) (k:Dl->Option R):Option R:=
 match hl ak with
 |none=>k ⟨v,wr++[(ak,some o)],rd⟩
 |some _=>none
def Br (tt:TT) (hl:Nat->Option Ob) (ak:Nat) (g:Bool) (t tn:Nat) (s x:AV) (k:Dl->Option R):Option R:=
 match KB tt t,KB tt tn,s,x with
 |.sl e am,.int _,.nil,.d (.int _ n)=>match look tt e with
  |some ei=>
   bif Nat.ble 1 ei.bytes&&Nat.beq (PF tt e).length am then
   gb g (bif decide (0<n) then some () else none) () fun _=>
   gb g (YD (n.toNat*ei.bytes)) () fun _=>Mp hl ak (.arr e am (List.replicate n.toNat (PF tt e))) (.arr ak) [] [] k
   else none
  |none=>none
 |_,_,_,_=>none
def Q7e (f:Int->Bool) (n:Int) (b:Bool):Int->Bool:=fun m=>bif decide (m=n) then b else f m
def QbU (tt:TT) (hl:Nat->Option Ob) (ak:Nat) (u:Bool) (t l:Nat) (lo hi:Option (Option Int)) (k:Dl->Option R):Option R:=
 match KB tt t,lo,hi with
 |.sl e am,some none,some (some h0)=>bif u&&decide (h0=0) then match hl l with
   |some (.arr e' s' _)=>bif Nat.beq e e'&&Nat.beq am s' then Mp hl ak (.arr e am []) (.arr ak) [(l,none)] [l] k else none
   |_=>none
  else none
 |_,_,_=>none
def Q2g (tt:TT) (ak:Nat) (g:Bool) (hl:Nat->Option Ob) (t:Nat) (s x:AV) (k:Dl->Option R):Option R:=
 match KB tt t with
 |.sl e am=>match look tt e with
  |some ei=>
   bif Nat.ble 1 ei.bytes&&Nat.beq ei.zero.length am then
   match Cj am hl x with
   |some (news,rx)=>
    match s with
    |.nil=>gb g (YD (news.length*ei.bytes)) () fun _=>Mp hl ak (.arr e am news) (.arr ak) [] rx k
    |.fs s0 rows=>bif Nat.beq s0 am then gb g (neL news) () fun _=>gb g (YD ((rows.length+news.length)*ei.bytes)) () fun _=>Mp hl ak (.arr e am (rows++news)) (.arr ak) [] rx k else none
    |.arr l=>match hl l with
     |some (.arr e' s' rows)=>bif Nat.beq e e'&&Nat.beq am s' then
       gb g (YD ((rows.length+news.length)*ei.bytes)) () fun _=>Mp hl ak (.arr e am (rows++news)) (.arr ak) [(l,none)] (l::rx) k
      else none
     |_=>none
    |_=>none
   |none=>none
   else none
  |none=>none
 |_=>none
def JL (tt:TT) (hl:Nat->Option Ob) (am:Nat) (u:Bool) (t len:Nat) (an:List (Nat × AV)) (k:Dl->Option R):Option R:=
 match KB tt t with
 |.sl e ak=>
  bif Nat.ble (len*ak) 16777216&&(look tt e).isSome&&Nat.beq (PF tt e).length ak then
   match Rf (PF tt e) (List.replicate len (PF tt e)) an with
   |some rows=>bif u then Mp hl am (.arr e ak rows) (.arr am) [] [] k else k ⟨.d (.sl ak rows),[],[]⟩
   |none=>none
  else none
 |_=>none
def Q89 (tt:TT) (hl:Nat->Option Ob) (ak:Nat) (u:Bool) (t:Nat) (l c:AV) (k:Dl->Option R):Option R:=
 bif u then
  match KB tt t,l,c with
  |.sl e am,.d (.int _ n),.d (.int _ m)=>match look tt e with
   |some ei=>
    bif Nat.ble 1 ei.bytes&&Nat.beq (PF tt e).length am then
    gb true (bif decide (0<=n)&&decide (n<=m) then some () else none) () fun _=>
    gb true (YD (m.toNat*ei.bytes)) () fun _=>Mp hl ak (.arr e am (List.replicate n.toNat (PF tt e))) (.arr ak) [] [] k
    else none
   |none=>none
  |_,_,_=>none
 else none
def Kp (x:Nat):List Nat->Bool
 |[]=>false
 |a::r=>Nat.beq a x||Kp x r
def GH (a b:List Nat):Bool:=a.any fun x=>Kp x b
def wrL (dl:Dl):List Nat:=dl.wr.map (·.1)
mutual
def ZL (l:Nat):AV->Bool
 |.ptr a _=>Nat.beq a l
 |.arr a=>Nat.beq a l
 |.ap a _ _=>Nat.beq a l
 |.sa a _=>Nat.beq a l
 |.ag r=>Vy l r
 |.tup r=>Vy l r
 |.fn _ r=>Vy l r
 |.gd _ _ v=>ZL l v
 |_=>false
def Vy (l:Nat):List AV->Bool
 |[]=>false
 |a::r=>ZL l a||Vy l r
end
def K5 (l:Nat):List (Nat × Option Ob)->Bool
 |[]=>false
 |(_,some (.box cells))::r=>Vy l cells||K5 l r
 |_::r=>K5 l r
def Er (bs:List Nat) (dl:Dl):Bool:=bs.all fun l=>!ZL l dl.v&&!K5 l dl.wr
def Q0A:D->Bool
 |.sl ..=>false
 |_=>true
def EK (rows:List (List D)):Bool:=rows.all fun r=>r.all Q0A
def NK (l:List (List (List D))):Option Unit:=bif l.all EK then some () else none
def AI:List (Nat × Option Ob)->List (List (List D))
 |[]=>[]
 |(_,some (.arr _ _ rows))::r=>rows::AI r
 |_::r=>AI r
def QbW (tt:TT) (e:Nat):Bool:=
 match look tt e with
 |some ti=>Nat.beq ti.zd.length ti.size&&ti.zd.all Q0A
 |none=>false
def M8 (tt:TT):List (Nat × Option Ob)->Bool
 |[]=>true
 |(_,some (.arr e _ _))::r=>QbW tt e&&M8 tt r
 |(_,some (.box cells))::r=>Pj cells&&M8 tt r
 |(_,some (.mp ..))::_=>false
 |(_,none)::r=>M8 tt r
def WO:List (Nat × Option Ob)->Bool
 |[]=>true
 |(_,some (.arr _ _ rows))::r=>EK rows&&WO r
 |(_,some (.box cells))::r=>Pj cells&&WO r
 |(_,some (.mp ..))::_=>false
 |(_,none)::r=>WO r
def Qc9 (spec:Q1j) (f:Nat):Bool:=(spec Unit f 0 false [.gd 0 true .nil] (fun _=>none) fun _=>some ()).isSome
def Q5M:AV->Bool
 |.ag l=>l.all FN
 |a=>FN a
def Q79 (spec:Q1j) (tt:TT) (ak:Nat) (g u:Bool) (hl:Nat->Option Ob) (f:Nat) (args:List AV) (k:Dl->Option R):Option R:=
 bif Qc9 spec f then (bif args.all Q5M then spec R f ak g args hl k else none) else
 match TN hl args with
 |some (am,bs)=>
  spec R f ak g am hl fun dl=>
   bif !GH bs (wrL dl)&&(!GH bs dl.rd&&Er bs dl) then
    bif bs.isEmpty||(H7 dl.v&&Ef dl.wr) then k ⟨dl.v,dl.wr,bs++dl.rd⟩
    else bif H7 dl.v&&M8 tt dl.wr then gb g (NK (AI dl.wr)) () fun _=>k ⟨dl.v,dl.wr,bs++dl.rd⟩
    else bif u then k ⟨dl.v,bs.map (fun l=>(l,none))++dl.wr,bs++dl.rd⟩ else none
   else none
 |none=>none
def vUn (op:UnOp) (x:AV):Option AV:=
 match op,x with
 |.not,.d (.bool b)=>some (.d (.bool !b))
 |.neg,.d (.int k n)=>some (.d (.int k (k.wrap (0-n))))
 |.xor,.d (.int k n)=>some (.d (.int k (Q8d k n)))
 |_,_=>none
def cv1 (hl:Nat->Option Ob) (av:AV):AV:=
 match TR hl av with
 |some (a,_)=>a
 |none=>.top
def cvP (hl:Nat->Option Ob):List (Nat × AV)->List (Nat × AV)
 |[]=>[]
 |(i,a)::r=>(i,cv1 hl a)::cvP hl r
def bsP (hl:Nat->Option Ob):List (Nat × AV)->List Nat
 |[]=>[]
 |(_,a)::r=>match TR hl a with
  |some (_,b)=>b++bsP hl r
  |none=>bsP hl r
def QbH (hl:Nat->Option Ob) (bs:List Nat):Nat->Option Ob:=fun k=>bif Kp k bs then none else hl k
def Q1z (tt:TT) (hl:Nat->Option Ob) (am:Nat) (u:Bool) (t len:Nat) (ak:List (Nat × AV)) (k:Dl->Option R):Option R:=
 match bsP hl ak with
 |[]=>JL tt hl am u t len ak k
 |b::bs=>bif u then
   JL tt (QbH hl (b::bs)) am true t len (cvP hl ak) fun dl=>
    bif !GH (b::bs) (wrL dl)&&!GH (b::bs) dl.rd then k ⟨dl.v,(b::bs).map (fun l=>(l,none))++dl.wr,(b::bs)++dl.rd⟩ else none
  else none
def vdl (spec:Q1j) (tt:TT) (ak:Nat) (g u:Bool) (ev:Operand->AV) (hl:Nat->Option Ob) (op:Op) (k:Dl->Option R):Option R:=
 match op with
 |.move x=>k ⟨ev x,[],[]⟩
 |.assign x=>k ⟨ev x,[],[]⟩
 |.pick c x y=>
  match c with
  |.tmp s=>match ev (.tmp s) with
   |.d (.bool e)=>match unw [(s,true)] (ev x),unw [(s,false)] (ev y) with
    |.d (.bool a),.d (.bool b)=>k ⟨.d (.bool (bif e then a else b)),[],[]⟩
    |_,_=>none
   |_=>none
  |_=>none
 |.alloc t=>match look tt t with
  |some ti=>bif u then match ti.kd with
    |.array _ ao n=>bif Nat.beq ti.zd.length (n*ao) then Mp hl ak (.arr t ao (P9 n ao ti.zd)) (.ap ak 0 0) [] [] k else none
    |_=>Mp hl ak (.box (CS ak t ti)) (.ptr ak 0) [] [] k
   else none
  |none=>none
 |.box t x=>match look tt t with
  |some ti=>bif u&&(Nat.beq (Xr (ev x)).length ti.size&&(Xr (ev x)).all C8) then Mp hl ak (.box (Xr (ev x))) (.ptr ak 0) [] [] k else none
  |none=>none
 |.build t an=>match look tt t with
  |some ti=>bif Uf ti.kd then match Cn ti.fields tt (MU ti) (U4 ev an.toList) with
    |some cs=>k ⟨.ag cs,[],[]⟩
    |none=>none
   else none
  |none=>none
 |.buildSlice t len an=>Q1z tt hl ak u t len (U4 ev an.toList) k
 |.load t a=>Q95 tt g hl t (ev a) k
 |.store t a v=>bif u then match KB tt t,ev a with
   |.array _ ao n,.ap l 0 0=>Q2w hl ao n l (ev v) k
   |_,_=>Q5Z tt hl t (ev a) (ev v) k
  else none
 |.nilCheck x=>match ev x with
  |.ptr l o=>k ⟨.ptr l o,[],[]⟩
  |.el r o=>k ⟨.el r o,[],[]⟩
  |.ap l i o=>match hl l with
   |some _=>k ⟨.ap l i o,[],[l]⟩
   |none=>none
  |_=>none
 |.binOp op t x y _=>QbS g op (KB tt t) (Q8u tt t) (ev x) (ev y) fun v=>k ⟨v,[],[]⟩
 |.unOp op _ x=>match vUn op (ev x) with
  |some v=>k ⟨v,[],[]⟩
  |none=>none
 |.convert s t x=>match KB tt s,KB tt t with
  |.int _,.int kd=>match ev x with
   |.d (.int _ n)=>k ⟨.d (.int kd (kd.wrap n)),[],[]⟩
   |_=>none
  |.sl e 1,.str=>match KB tt e with
   |.int .u8=>match Cj 1 hl (ev x) with
    |some (rows,rd)=>gb g (ML rows) [] fun s=>k ⟨.d (.str s),[],rd⟩
    |none=>none
   |_=>none
  |.str,.str=>match ev x with
   |.d (.str s)=>k ⟨.d (.str s),[],[]⟩
   |_=>none
  |.str,.sl e 1=>match KB tt e with
   |.int .u8=>match ev x with
    |.d (.str s)=>k ⟨.d (.sl 1 (Q4m s)),[],[]⟩
    |_=>none
   |_=>none
  |_,_=>none
 |.makeFunc (.func f) first am=>match first.toList with
  |[]=>bif UX (am.toList.map ev) then k ⟨.fn f (am.toList.map ev),[],[]⟩ else none
  |_=>none
 |.makeSlice t l c=>Q89 tt hl ak u t (ev l) (ev c) k
 |.fieldAddr t x f=>L7 tt hl t f (ev x) k
 |.field t x f=>Q5Y tt g t f (ev x) k
 |.indexAddr t x i=>match KB tt t,ev x with
  |.array _ ao n,.ap l 0 0=>RC g hl ao n l (ev i) k
  |_,_=>MR tt g hl t (ev x) (ev i) k
 |.index t x i=>Q6d tt g t (ev x) (ev i) k
 |.slice t x lo hi none=>match ev x with
  |.arr l=>QbU tt hl ak u t l (PI ev lo) (PI ev hi) k
  |_=>Q4R tt g t (ev x) (PI ev lo) (PI ev hi) k
 |.makeMap t none=>match KB tt t with
  |.mpb=>bif u then Mp hl ak (.mp t fun _=>false) (.arr ak) [] [] k else none
  |_=>none
 |.mapUpdate t m x v=>match KB tt t,ev m,ev x,ev v with
  |.mpb,.arr l,.d (.int .i64 n),.d (.bool b)=>match hl l with
   |some (.mp t' f)=>bif u then k ⟨.top,[(l,some (.mp t' (Q7e f n b)))],[l]⟩ else none
   |_=>none
  |_,_,_,_=>none
 |.slice t x lo hi (some mx)=>Q1k tt g t (ev x) (PI ev lo) (PI ev hi) (PI ev (some mx)) k
 |.lookup t m x false=>match KB tt t,ev m,ev x with
  |.mapI,.mpd f,.d (.int .i64 n)=>k ⟨.d (.sl 1 (f n)),[],[]⟩
  |.mpb,.arr l,.d (.int .i64 n)=>match hl l with
   |some (.mp _ f)=>k ⟨.d (.bool (f n)),[],[l]⟩
   |_=>none
  |_,_,_=>none
 |.extract x i=>match ev x with
  |.tup l=>match l[i]? with
   |some v=>k ⟨v,[],[]⟩
   |none=>none
  |_=>none
 |.call c=>match c.callee with
  |.value (.func f)=>Q79 spec tt ak g u hl f (c.args.toList.map ev) k
  |.value (.tmp t)=>match ev (.tmp t) with
   |.fn f cap=>Q79 spec tt ak g u hl f (c.args.toList.map ev++cap) k
   |_=>none
  |.builtin .len=>match c.args.toList,c.argTypes.toList with
   |[x],[t]=>match QbJ tt hl t (ev x) with
    |some (n,rd)=>k ⟨.d (.int .i64 n),[],rd⟩
    |none=>none
   |_,_=>none
  |.builtin .cap=>match c.args.toList,c.argTypes.toList with
   |[x],[t]=>match KB tt t,ev x with
    |.sl _ _,.nil=>k ⟨.d (.int .i64 0),[],[]⟩
    |_,_=>none
   |_,_=>none
  |.builtin .append=>match c.args.toList,c.argTypes.toList with
   |[s,x],[t,t']=>bif Nat.beq t t' then Q2g tt ak g hl t (ev s) (ev x) k else Br tt hl ak g t t' (ev s) (ev x) k
   |_,_=>none
  |.builtin .min=>match c.args.toList with
   |x::r=>match E6 true (ev x) (r.map ev) with
    |some v=>k ⟨v,[],[]⟩
    |none=>none
   |_=>none
  |.builtin .max=>match c.args.toList with
   |x::r=>match E6 false (ev x) (r.map ev) with
    |some v=>k ⟨v,[],[]⟩
    |none=>none
   |_=>none
  |_=>none
 |_=>none
def LC (l:Nat):List (Nat × AV)->Bool
 |[]=>false
 |(_,a)::r=>ZL l a||LC l r
def UT (l:Nat):List (Nat × Ob)->Bool
 |[]=>false
 |(_,.box cells)::r=>Vy l cells||UT l r
 |(_,.arr ..)::r=>UT l r
 |(_,.mp ..)::r=>UT l r
def Wn (st:St) (l:Nat):Bool:=Nat.ble l 999999&&(!LC l st.tm&&!UT l st.h)
def Zi (st:St):List (Nat × Option Ob)->Bool
 |[]=>true
 |(l,o)::r=>(match o,look st.h l with
  |some _,none=>Wn st l
  |_,_=>true)&&Zi st r
mutual
def gds (t:Nat):AV->Bool
 |.gd t' _ av=>Nat.beq t' t||gds t av
 |.ag l=>DD t l
 |.tup l=>DD t l
 |.fn _ l=>DD t l
 |_=>false
def DD (t:Nat):List AV->Bool
 |[]=>false
 |a::r=>gds t a||DD t r
end
def Q5U (d:Nat):List (Nat × AV)->Bool
 |[]=>false
 |(_,a)::r=>gds d a||Q5U d r
structure Rec where
 rt:List Nat
 dst:Option Nat
 dl:Dl
def Hq:List Operand->List Nat
 |[]=>[]
 |.tmp t::r=>t::Hq r
 |_::r=>Hq r
def put (st:St) (dst:Option Nat) (dl:Dl):St:=
 { n:=st.n,tm:=match dst with | some d=>(d,dl.v)::st.tm | none=>st.tm,h:=Pd st.h dl.wr }
def AG (st:St) (v:AV):Option Nat->Bool
 |some d=>Nat.ble (d+1) st.n&&(!gds d v&&!Q5U d st.tm)
 |none=>true
def Q82 (st:St) (o:Oper) (ch:List Nat) (dl:Dl) (k:St->Rec->Option R):Option R:=
 bif AG st dl.v o.dst&&Zi st dl.wr then k (put st o.dst dl) ⟨Hq o.op.operands.toList++ch,o.dst,dl⟩ else none
def jD (g:Bool):D->D->Option D
 |.int k x,.int k' y=>bif k == k' then some (.int k (bif g then x else y)) else none
 |.bool x,.bool y=>some (.bool (bif g then x else y))
 |.str x,.str y=>some (.str (bif g then x else y))
 |.sl s x,.sl s' y=>bif Nat.beq s s' then some (.sl s (bif g then x else y)) else none
 |_,_=>none
def jA (g:Bool):AV->AV->Option AV
 |.d x,.d y=>match jD g x y with
  |some z=>some (.d z)
  |none=>none
 |.nil,.nil=>some .nil
 |.ptr l o,.ptr l' o'=>bif Nat.beq l l'&&Nat.beq o o' then some (.ptr l o) else none
 |_,_=>none
def jL (g:Bool):List AV->List AV->Option (List AV)
 |[],[]=>some []
 |a::r,b::s=>match jA g a b with
  |some c=>match jL g r s with
   |some t=>some (c::t)
   |none=>none
  |none=>none
 |_,_=>none
def jW (g:Bool) (hl:Nat->Option Ob):List (Nat × Option Ob)->Option (List (Nat × Option Ob))
 |[]=>some []
 |(l,some (.box ak))::r=>match hl l with
  |some (.box old)=>match jL g ak old with
   |some c=>match jW g hl r with
    |some t=>some ((l,some (.box c))::t)
    |none=>none
   |none=>none
  |_=>none
 |(l,some (.arr e s rows))::r=>match hl l with
  |none=>match jW g hl r with
   |some t=>some ((l,some (.arr e s (bif g then rows else [])))::t)
   |none=>none
  |some _=>none
 |(_,some (.mp ..))::_=>none
 |(l,none)::r=>match jW g hl r with
  |some t=>some ((l,none)::t)
  |none=>none
def Q8L (spec:Q1j) (tt:TT) (ak:Array Oper) (o:Oper) (st:St) (k:St->Rec->Option R):Option R:=
 match o.guard with
 |none=>vdl spec tt (o.dst.getD 0) true true (evO st.tm) (look st.h) o.op fun dl=>Q82 st o [] dl k
 |some (j,w)=>match (ak[j]?).bind (·.dst) with
  |some s=>match ctx st.tm 40 s w with
   |some (g,ch)=>vdl spec tt (o.dst.getD 0) g false (fun x=>unw ch (evO st.tm x)) (look st.h) o.op fun dl=>
     match jW g (look st.h) dl.wr with
     |some wr=>Q82 st o (ch.map (·.1)) ⟨.gd s w dl.v,wr,dl.rd⟩ k
     |none=>none
   |none=>none
  |none=>none
def Qak (spec:Q1j) (tt:TT) (ak:Array Oper):List Oper->St->List Rec->(St->List Rec->Option R)->Option R
 |[],st,acc,k=>k st acc
 |o::r,st,acc,k=>Q8L spec tt ak o st fun st' rec=>Qak spec tt ak r st' (acc++[rec]) k
def Q0c (s:Nat) (b:Bool):List (Nat × AV)->List (Nat × AV)
 |[]=>[]
 |(t,a)::r=>bif Nat.beq t s then (t,.d (.bool b))::r else (t,a)::Q0c s b r
def Q3w (spec:Q1j) (tt:TT) (o:Oper) (s:Nat) (w b:Bool) (st:St) (k:St->Rec->Option R):Option R:=
 bif (bif b then w else !w) then vdl spec tt (o.dst.getD 0) true true (evO st.tm) (look st.h) o.op fun dl=>Q82 st o [s] dl k
 else Q82 st o [s] ⟨.gd s w (.d (.bool false)),[],[]⟩ k
def CU (spec:Q1j) (tt:TT) (ak:Array Oper):List Oper->St->List Rec->(St->List Rec->Option R)->Option R
 |[],st,acc,k=>k st acc
 |o::r,st,acc,k=>match o.guard with
  |none=>vdl spec tt (o.dst.getD 0) true true (evO st.tm) (look st.h) o.op fun dl=>Q82 st o [] dl fun st' rec=>CU spec tt ak r st' (acc++[rec]) k
  |some (j,w)=>match (ak[j]?).bind (·.dst) with
   |some s=>match lkT st.tm s with
    |.d (.bool c)=>
     bif c then Q3w spec tt o s w true { n:=st.n,tm:=Q0c s true st.tm,h:=st.h } fun st' rec=>CU spec tt ak r st' (acc++[rec]) k
     else Q3w spec tt o s w false { n:=st.n,tm:=Q0c s false st.tm,h:=st.h } fun st' rec=>CU spec tt ak r st' (acc++[rec]) k
    |_=>none
   |none=>none
def Q0O (acc:List Nat):List Edge->Nat->Nat
 |[],s=>s
 |e::r,s=>Q0O acc r (bif Region.binds .any e then (s ||| (2 ^ e.on)) ||| acc.getD e.on 0 else s)
def A2:List Oper->List Nat->List Nat
 |[],acc=>acc
 |o::r,acc=>A2 r (acc++[Q0O acc o.after.toList 0])
def Bj:List Edge->Nat->Bool
 |[],_=>true
 |e::r,i=>(!Region.binds .any e||Nat.ble (e.on+1) i)&&Bj r i
def Si:List Oper->Nat->Bool
 |[],_=>true
 |o::r,i=>Bj o.after.toList i&&Si r (i+1)
def inO (d:Option Nat) (l:List Nat):Bool:=
 match d with
 |some x=>Kp x l
 |none=>false
def Zc (a b:Rec):Bool:=
 inO a.dst b.rt||inO b.dst a.rt||(match a.dst,b.dst with | some x,some y=>Nat.beq x y | _,_=>false) ||
 GH (wrL a.dl) (wrL b.dl)||GH (wrL a.dl) b.dl.rd||GH (wrL b.dl) a.dl.rd
def Ki (am:St) (ak:List Nat):List (Nat × Option Ob)->List Nat
 |[]=>[]
 |(l,o)::r=>match o,look am.h l with
  |some _,none=>bif Kp l ak then Ki am ak r else l::Ki am ak r
  |_,_=>Ki am ak r
def NQ (l:Nat) (b:Rec):Bool:=ZL l b.dl.v||K5 l b.dl.wr
def Q9e (d:Option Nat) (v:AV):Bool:=
 match d with
 |some x=>gds x v
 |none=>false
def Mc (i:Nat) (a:Rec) (news:List Nat):List Rec->List Nat->Bool
 |[],_=>true
 |b::r,m::ms=>(!(Zc a b||(news.any fun l=>NQ l b)||Q9e a.dst b.dl.v)||m.testBit i)&&Mc i a news r ms
 |_::_,[]=>false
def RM (am:St):Nat->List Rec->List Nat->List Rec->List Nat->Bool
 |_,_,_,[],_=>true
 |i,an,ak,a::r,_::ms=>
  Mc i a (Ki am ak a.dl.wr) r ms&&((Ki am ak a.dl.wr).all fun l=>Wn am l&&an.all fun b=>!NQ l b) &&
   RM am (i+1) (an++[a]) (ak++Ki am ak a.dl.wr) r ms
 |_,_,_,_::_,[]=>false
def ZI (l:Nat):List (Nat × Option Ob)->Bool
 |[]=>false
 |(k,o)::r=>(o.isSome&&Nat.beq k l)||ZI l r
def Q7U (recs:List Rec):List (Nat × Option Ob)->Bool
 |[]=>true
 |(l,none)::r=>(recs.all fun b=>!ZI l b.dl.wr)&&Q7U recs r
 |_::r=>Q7U recs r
def rmL:List Rec->Bool
 |[]=>true
 |a::r=>Q7U (a::r) a.dl.wr&&rmL r
def Ay (am:St) (ak:List Oper) (recs:List Rec):Bool:=
 Si ak 0&&RM am 0 [] [] recs (A2 ak [])&&rmL recs
structure Cfg where
 keep:List Nat
 locs:List (Nat × Nat)
 mkT:List (Nat × Nat × Nat × Nat)
 mkH:List (Nat × Nat × Nat × Nat × Nat)
 fz:List Nat
mutual
def fzA (l s:Nat) (rows:List (List D)):AV->AV
 |.arr k=>bif Nat.beq k l then .d (.sl s rows) else .arr k
 |.ap k i o=>bif Nat.beq k l then .top else .ap k i o
 |.ag r=>.ag (fzL l s rows r)
 |.tup r=>.tup (fzL l s rows r)
 |.fn f r=>.fn f (fzL l s rows r)
 |.gd ..=>.top
 |av=>av
def fzL (l s:Nat) (rows:List (List D)):List AV->List AV
 |[]=>[]
 |a::r=>fzA l s rows a::fzL l s rows r
end
def fzO (l s:Nat) (rows:List (List D)):Ob->Ob
 |.box cells=>.box (fzL l s rows cells)
 |o=>o
def fzT (l s:Nat) (rows:List (List D)):List (Nat × AV)->List (Nat × AV)
 |[]=>[]
 |(t,a)::r=>(t,fzA l s rows a)::fzT l s rows r
def Q7I (l s:Nat) (rows:List (List D)):List (Nat × Ob)->List (Nat × Ob)
 |[]=>[]
 |(k,o)::r=>bif Nat.beq k l then Q7I l s rows r else (k,fzO l s rows o)::Q7I l s rows r
def fz1 (st:St) (l:Nat):St:=
 match look st.h l with
 |some (.arr _ s rows)=>{ n:=st.n,tm:=fzT l s rows st.tm,h:=Q7I l s rows st.h }
 |_=>st
def fzs (st:St):List Nat->St
 |[]=>st
 |l::r=>fzs (fz1 st l) r
mutual
def ZQ (ρ:List (Nat × Nat)):AV->AV
 |.ptr l o=>match look ρ l with | some l'=>.ptr l' o | none=>.top
 |.arr l=>match look ρ l with | some l'=>.arr l' | none=>.top
 |.ap l i o=>match look ρ l with | some l'=>.ap l' i o | none=>.top
 |.sa l t=>match look ρ l with | some l'=>.sa l' t | none=>.top
 |.ag r=>.ag (An ρ r)
 |.tup r=>.tup (An ρ r)
 |.fn f r=>.fn f (An ρ r)
 |.gd ..=>.top
 |av=>av
def An (ρ:List (Nat × Nat)):List AV->List AV
 |[]=>[]
 |a::r=>ZQ ρ a::An ρ r
end
def Q7i (ρ:List (Nat × Nat)):Ob->Ob
 |.box cells=>.box (An ρ cells)
 |.arr e s rows=>.arr e s rows
 |.mp t f=>.mp t f
def Q5H (ρ:List (Nat × Nat)) (tm:List (Nat × AV)):List Nat->List (Nat × AV)
 |[]=>[]
 |t::r=>(t,ZQ ρ (lkT tm t))::Q5H ρ tm r
def MB (ρ:List (Nat × Nat)) (h:List (Nat × Ob)):List (Nat × Nat)->List (Nat × Ob)
 |[]=>[]
 |(l,l')::r=>match look h l with
  |some o=>(l',Q7i ρ o)::MB ρ h r
  |none=>MB ρ h r
def QaZ (tm:List (Nat × AV)) (t:Nat) (v:AV):List (Nat × AV):=
 match tm with
 |[]=>[]
 |(k,a)::r=>bif Nat.beq k t then (k,v)::r else (k,a)::QaZ r t v
def Q9h (st:St):List (Nat × Nat × Nat × Nat)->St
 |[]=>st
 |(t,l,e,s)::r=>match lkT st.tm t with
  |.nil=>bif Wn st l&&(look st.h l).isNone then Q9h { st with tm:=QaZ st.tm t (.arr l),h:=(l,.arr e s [])::st.h } r else Q9h st r
  |_=>Q9h st r
def Q9a (st:St):List (Nat × Nat × Nat × Nat × Nat)->St
 |[]=>st
 |(b,c,l,e,s)::r=>match look st.h b with
  |some (.box cells)=>match cells[c]? with
   |some .nil=>bif Wn st l&&(look st.h l).isNone then Q9a { st with h:=(l,.arr e s [])::(b,.box (cells.set c (.arr l)))::rem b st.h } r else Q9a st r
   |_=>Q9a st r
  |_=>Q9a st r
def Xd:List Nat->Bool
 |[]=>true
 |a::r=>!Kp a r&&Xd r
def Q8G (c:Cfg) (st:St):St:=
 bif Xd (c.locs.map (·.1))&&(Xd (c.locs.map (·.2))&&c.locs.all fun p=>Nat.beq p.1 p.2||Nat.ble p.2 999999) then Q9a (Q9h { n:=st.n,tm:=Q5H c.locs st.tm c.keep,h:=MB c.locs st.h c.locs } c.mkT) c.mkH
 else st
def inH (h:List (Nat × Ob)):List (Nat × Nat)->List (Nat × Nat)
 |[]=>[]
 |p::r=>match look h p.1 with
  |some _=>p::inH h r
  |none=>inH h r
def Qc0 (c:Cfg) (st:St):St:=Q8G ⟨c.keep,inH st.h c.locs,c.mkT,c.mkH,c.fz⟩ st
def QaR (c:Cfg) (st:St):St:=Qc0 c (fzs st c.fz)
structure VC where
 spec:Q1j
 tt:TT
 cfg:List (Nat × Cfg)
def CX (C:VC) (id:Nat) (ak:Array Oper) (am:Bool) (st:St) (k:St->Option R):Option R:=
 (bif (look C.cfg (id+1000000000)).isSome then CU C.spec C.tt ak ak.toList st [] else Qak C.spec C.tt ak ak.toList st []) fun st' recs=>
  bif !am||Ay st ak.toList recs then
   match look C.cfg id with
   |some c=>k (QaR c st')
   |none=>k st'
  else none
def Q4H (ak:St->(Exit->St->Option R)->Option R):Nat->St->(Exit->St->Option R)->Option R
 |0,_,_=>none
 |n+1,st,k=>ak st fun e st'=>match e with
  |.normal=>Q4H ak n st' k
  |.exit id=>k (.exit id) st'
  |.ret=>k .ret st'
  |_=>none
def Q6g:Code->Nat
 |.region id _ _=>id
 |.seq a _=>Q6g a
 |.block _ c=>Q6g c
 |.loop c=>Q6g c
 |.cond _ a _=>Q6g a
 |_=>0
def Qaq (C:VC) (n:Nat) (c:Code):Nat:=
 match look C.cfg (2000000000+Q6g c) with
 |some ⟨[m],_,_,_,_⟩=>m
 |_=>n
def Cq (C:VC) (ak:Nat) (st:St):St:=
 match look C.cfg ak with
 |some q=>QaR q st
 |none=>st
def N9 (C:VC) (n:Nat):Code->St->(Exit->St->Option R)->Option R
 |.skip,st,k=>k .normal st
 |.region id am ak,st,k=>CX C id am ak st (k .normal)
 |.seq a b,st,k=>N9 C n a st fun e st'=>match e with
  |.normal=>N9 C n b st' k
  |.exit id=>k (.exit id) st'
  |.ret=>k .ret st'
  |_=>none
 |.cond c a b,st,k=>match evO st.tm c with
  |.d (.bool e)=>bif e then N9 C n a st k else N9 C n b st k
  |_=>none
 |.block id c,st,k=>N9 C n c st fun e st'=>match e with
  |.normal=>k .normal st'
  |.exit j=>bif Nat.beq j id then k .normal st' else k (.exit j) st'
  |.ret=>k .ret st'
  |_=>none
 |.loop c,st,k=>Q4H (fun st k=>N9 C n c (Cq C (3000000000+Q6g c) st) k) (Qaq C n c) st k
 |.exit id,st,k=>k (.exit id) st
 |.ret,st,k=>k .ret st
 |_,_,_=>none
def lB (C:VC) (n:Nat) (c:Code) (st:St) (k:Exit->St->Option R):Option R:=N9 C n c (Cq C (3000000000+Q6g c) st) k
mutual
def PA:AV->Bool
 |.gd ..=>false
 |.ag l=>Gz l
 |.tup l=>Gz l
 |.fn _ l=>Gz l
 |_=>true
def Gz:List AV->Bool
 |[]=>true
 |a::r=>PA a&&Gz r
end
def Q3l (tt:TT) (st:St):ResultVar->Option AV
 |.tmp t=>some (lkT st.tm t)
 |.cell a ty=>match lkT st.tm a with
  |.ptr l off=>match look st.h l,look tt ty with
   |some (.box cells),some ti=>
    bif Uf ti.kd then
     match Em cells off ti.size with
     |some cs=>some (.ag cs)
     |none=>none
    else match cells[off]? with
     |some c=>bif FN c then some c else none
     |none=>none
   |_,_=>none
  |_=>none
def CP (tt:TT) (st:St):List ResultVar->Option (List AV)
 |[]=>some []
 |r::rs=>match Q3l tt st r with
  |some a=>match CP tt st rs with
   |some l=>bif PA a then some (a::l) else none
   |none=>none
  |none=>none
def Q26 (tt:TT) (st:St) (rs:List ResultVar):Option AV:=
 match CP tt st rs with
 |some [a]=>some a
 |some l=>some (.tup l)
 |none=>none
def Q1W:Nat->List AV->List (Nat × AV)
 |_,[]=>[]
 |i,a::r=>(i,a)::Q1W (i+1) r
def vfn (C:VC) (n:Nat) (fn:Func) (args:List AV) (h:List (Nat × Ob)) (k:AV->List (Nat × Ob)->Option R):Option R:=
 match fn.body with
 |some c=>bif Nat.ble args.length fn.ntmps&&Gz args then
   N9 C n c { n:=fn.ntmps,tm:=Q1W 0 args,h:=h } fun e st=>match e with
    |.ret=>match Q26 C.tt st fn.results.toList with
     |some v=>k v st.h
     |none=>none
    |.normal=>match Q26 C.tt st fn.results.toList with
     |some v=>k v st.h
     |none=>none
    |_=>none
  else none
 |none=>none
end

inductive Rd (S:Nat->Prop) (w:World):Value->D->Prop
 |int (k:IntKind) (n:Int):Rd S w (.int k n) (.int k n)
 |bool (b:Bool):Rd S w (.bool b) (.bool b)
 |str (s:ByteArray):Rd S w (.string s) (.str s.data.toList)
 |sl0 (a:Option Addr) (cap size:Nat):Rd S w (.slice a 0 cap) (.sl size [])
 |sl (ad:Addr) (cap size:Nat) (rows:List (List D)) (c:Nat->Nat->Value)
   (hS:S ad.block) (hcap:rows.length<=cap) (hsz:∀ (i:Nat) (r:List D),rows[i]? = some r->r.length=size)
   (hc:∀ (i j:Nat) (r:List D) (x:D),rows[i]? = some r->r[j]? = some x->w.cell? (ad.add (i*size+j))=some (c i j))
   (hr:∀ (i j:Nat) (r:List D) (x:D),rows[i]? = some r->r[j]? = some x->Rd S w (c i j) x) :
   Rd S w (.slice (some ad) rows.length cap) (.sl size rows)
theorem V2 (a:Addr) (n:Nat):(a.add n).block=a.block:=by unfold Addr.add;split <;> rfl
theorem Eh (a:Addr) (i j:Nat):(a.add i).add j=a.add (i+j):=by
 unfold Addr.add;by_cases hi:i=0 <;> by_cases hj:j=0 <;> simp [hi,hj,Nat.add_assoc]
theorem Gc (b o n:Nat):(⟨b,o,none⟩:Addr).add n=⟨b,o+n,none⟩:=by
 unfold Addr.add;split
 ·subst_vars;rfl
 ·rfl
theorem EB {w w':World} {a:Addr} (h:w'.heap[a.block]? = w.heap[a.block]?):w'.cell? a=w.cell? a:=by simp [World.cell?,h]
theorem Rd.mono {S S':Nat->Prop} {w w':World} {v:Value} {x:D} (hS:∀ b,S b->S' b) (hw:∀ b,S b->w'.heap[b]? = w.heap[b]?) (h:Rd S w v x):Rd S' w' v x:=by
 induction h with
 |int k n=>exact .int k n
 |bool b=>exact .bool b
 |str s=>exact .str s
 |sl0 a cap size=>exact .sl0 a cap size
 |sl ad cap size rows c hs ak am hc _ ih=>
  exact .sl ad cap size rows c (hS _ hs) ak am (fun i j r x h1 h2=>by
   rw [EB (w:=w) (by rw [V2];exact hw _ hs)];exact hc i j r x h1 h2) ih
def D.flat:D->Bool
 |.sl _ []=>true
 |.sl _ (_::_)=>false
 |_=>true
def Gk:List MapEntry->Int->Option Value
 |[],_=>none
 |e::r,n=>match e.key with
  |.int .i64 m=>if m=n then some e.val else Gk r n
  |_=>Gk r n
def Q60 (S:Nat->Prop) (w:World) (v:Value) (f:Int->List (List D)):Prop:=
 ∃ b es ak,v = .map (some b)/\S b/\w.heap[b]? = some (.map es ak)/\(∀ e∈es.toList,∃ n,e.key = .int .i64 n)/\(∀ n,Gk es.toList n=none->f n=[])/\∀ n v',Gk es.toList n=some v'->Rd S w v' (.sl 1 (f n))
theorem Q60.mono {S S':Nat->Prop} {w w':World} {v:Value} {f:Int->List (List D)} (hS:∀ b,S b->S' b) (hw:∀ b,S b->w'.heap[b]? = w.heap[b]?) (h:Q60 S w v f):Q60 S' w' v f:=by
 obtain ⟨b,es,ak,h1,h2,h3,h4,h5,h6⟩:=h;exact ⟨b,es,ak,h1,hS b h2,(hw b h2).trans h3,h4,h5,fun n v' hl=>(h6 n v' hl).mono hS hw⟩
def MpR (w:World) (b:Nat) (f:Int->Bool):Prop:=
 ∃ es ak,w.heap[b]? = some (.map es ak)/\(∀ e∈es.toList,∃ n,e.key = .int .i64 n)/\(∀ n,Gk es.toList n=none->f n=false)/\∀ n v,Gk es.toList n=some v->v = .bool (f n)
theorem MpR.same {w w':World} {b:Nat} {f:Int->Bool} (h:MpR w b f) (hb:w'.heap[b]? = w.heap[b]?):MpR w' b f:=by
 obtain ⟨es,ak,h1,h2⟩:=h;exact ⟨es,ak,hb.trans h1,h2⟩
def VG:AV->Option Nat
 |.arr l=>some l
 |.ap l _ _=>some l
 |_=>none
inductive RdA (β:Nat->Option Nat) (S:Nat->Prop) (h:Nat->Option Ob) (w:World) (tm:Nat->Value):Value->AV->Prop
 |top (v:Value):RdA β S h w tm v .top
 |d (v:Value) (x:D) (hx:Rd S w v x):RdA β S h w tm v (.d x)
 |nil:RdA β S h w tm (.slice none 0 0) .nil
 |ag (cs:Array Value) (l:List AV) (hl:cs.size=l.length) (hr:∀ (i:Nat) (x:AV),l[i]? = some x->RdA β S h w tm (cs.getD i undef) x):RdA β S h w tm (.agg cs) (.ag l)
 |tup (cs:Array Value) (l:List AV) (hl:cs.size=l.length) (hr:∀ (i:Nat) (x:AV),l[i]? = some x->RdA β S h w tm (cs.getD i undef) x):RdA β S h w tm (.tuple cs) (.tup l)
 |fn (f:Nat) (cs:Array Value) (l:List AV) (hl:cs.size=l.length) (hr:∀ (i:Nat) (x:AV),l[i]? = some x->RdA β S h w tm (cs.getD i undef) x):RdA β S h w tm (.func (.func f) #[] cs) (.fn f l)
 |fs (ad:Option Addr) (s:Nat) (rows:List (List D)) (hx:Rd S w (.slice ad rows.length rows.length) (.sl s rows)):RdA β S h w tm (.slice ad rows.length rows.length) (.fs s rows)
 |mpd (v:Value) (f:Int->List (List D)) (hm:Q60 S w v f):RdA β S h w tm v (.mpd f)
 |ex (v:Value):RdA β S h w tm v (.ex v)
 |ptr (l off b:Nat) (hb:β l=some b):RdA β S h w tm (.pointer (some ⟨b,off,none⟩)) (.ptr l off)
 |sa (v:Value) (l t b:Nat) (hb:β l=some b) (hv:v = .pointer none\/v = .pointer (some ⟨b,0,none⟩)):RdA β S h w tm v (.sa l t)
 |el (ad:Addr) (row:List D) (off:Nat) (c:Nat->Value) (hs:S ad.block)
   (hc:∀ (j:Nat) (x:D),row[off+j]? = some x->w.cell? (ad.add j)=some (c j)) (hr:∀ (j:Nat) (x:D),row[off+j]? = some x->Rd S w (c j) x) :
   RdA β S h w tm (.pointer (some ad)) (.el row off)
 |arr0 (l e s:Nat) (hb:β l=none) (hh:h l=some (.arr e s [])):RdA β S h w tm (.slice none 0 0) (.arr l)
 |arr (l b cap e s:Nat) (rows:List (List D)) (cs:Array Value) (ty:TypeId) (fz:Nat × Nat) (hb:β l=some b) (hh:h l=some (.arr e s rows))
   (hw:w.heap[b]? = some (.cells cs ty fz)) (hcs:cs.size=cap*s) (hcap:rows.length<=cap) (hmax:cap<=maxLen) :
   RdA β S h w tm (.slice (some ⟨b,0,none⟩) rows.length cap) (.arr l)
 |mp (l b t:Nat) (f:Int->Bool) (hb:β l=some b) (hh:h l=some (.mp t f)):RdA β S h w tm (.map (some b)) (.arr l)
 |ap (l i off b e s:Nat) (rows:List (List D)) (hb:β l=some b) (hh:h l=some (.arr e s rows)) :
   RdA β S h w tm (.pointer (some ⟨b,i*s+off,none⟩)) (.ap l i off)
 |dang (v:Value) (av:AV) (l:Nat) (hl:VG av=some l) (hh:h l=none) (h1:v.oneCell'=true):RdA β S h w tm v av
 |gdT (v:Value) (t:Nat) (w':Bool) (av:AV) (ht:tm t = .bool w') (hv:RdA β S h w tm v av):RdA β S h w tm v (.gd t w' av)
 |gdF (t:Nat) (w':Bool) (av:AV) (ht:tm t≠.bool w'):RdA β S h w tm undef (.gd t w' av)
structure Keep (β:Nat->Option Nat) (h:Nat->Option Ob) (w:World) (β':Nat->Option Nat) (h':Nat->Option Ob) (w':World) (l:Nat):Prop where
 b:β' l=β l
 none_:h l=none->h' l=none
 arr:∀ e s rows,h l=some (.arr e s rows)->h' l=none\/∃ rows',h' l=some (.arr e s rows')/\rows'.length=rows.length
 cells:∀ b cs ty fz,(h' l).isSome=true->β l=some b->w.heap[b]? = some (.cells cs ty fz)->∃ cs' ty' fz',w'.heap[b]? = some (.cells cs' ty' fz')/\cs'.size=cs.size
 mp:∀ t f,h l=some (.mp t f)->h' l=none\/∃ f',h' l=some (.mp t f')
theorem PJ {l i:Nat} {r:List AV} {x:AV} (h:r[i]? = some x) (hn:ZL l x=true):Vy l r=true:=by
 induction r generalizing i with
 |nil=>simp at h
 |cons a r ih=>
  cases i with
  |zero=>simp at h;subst h;simp [Vy,hn]
  |succ i=>simp at h;simp [Vy,ih h]
theorem Q1w {t i:Nat} {r:List AV} {x:AV} (h:r[i]? = some x) (hn:gds t x=true):DD t r=true:=by
 induction r generalizing i with
 |nil=>simp at h
 |cons a r ih=>
  cases i with
  |zero=>simp at h;subst h;simp [DD,hn]
  |succ i=>simp at h;simp [DD,ih h]
theorem RdA.mono {β β':Nat->Option Nat} {S S':Nat->Prop} {h h':Nat->Option Ob} {w w':World} {tm tm':Nat->Value} {v:Value} {av:AV}
  (hr:RdA β S h w tm v av) (hS:∀ b,S b->S' b) (hw:∀ b,S b->w'.heap[b]? = w.heap[b]?)
  (hk:∀ l,ZL l av=true->Keep β h w β' h' w' l) (ht:∀ t,gds t av=true->tm' t=tm t):RdA β' S' h' w' tm' v av:=by
 induction hr with
 |top v=>exact .top v
 |d v x hx=>exact .d v x (hx.mono hS hw)
 |nil=>exact .nil
 |ag cs l hl _ ih=>
  exact .ag cs l hl fun i x hx=>ih i x hx (fun k hn=>hk k (by simp [ZL,PJ hx hn])) (fun t hn=>ht t (by simp [gds,Q1w hx hn]))
 |tup cs l hl _ ih=>
  exact .tup cs l hl fun i x hx=>ih i x hx (fun k hn=>hk k (by simp [ZL,PJ hx hn])) (fun t hn=>ht t (by simp [gds,Q1w hx hn]))
 |fn f cs l hl _ ih=>
  exact .fn f cs l hl fun i x hx=>ih i x hx (fun k hn=>hk k (by simp [ZL,PJ hx hn])) (fun t hn=>ht t (by simp [gds,Q1w hx hn]))
 |fs ad s rows hx=>exact .fs ad s rows (hx.mono hS hw)
 |mpd v f hm=>exact .mpd v f (hm.mono hS hw)
 |ex v=>exact .ex v
 |ptr l off b hb=>exact .ptr l off b (by rw [(hk l (by simp [ZL])).b];exact hb)
 |sa v l t b hb hv=>exact .sa v l t b (by rw [(hk l (by simp [ZL])).b];exact hb) hv
 |el ad row off c hs hc hr=>
  exact .el ad row off c (hS _ hs) (fun j x hx=>by rw [EB (w:=w) (by rw [V2];exact hw _ hs)];exact hc j x hx) (fun j x hx=>(hr j x hx).mono hS hw)
 |arr0 l e s hb hh=>
  have K:=hk l (by simp [ZL]);rcases K.arr e s [] hh with hn | ⟨ak,an,am⟩
  ·exact .dang _ _ l rfl hn rfl
  ·have:ak=[]:=Qd4 (by simpa using am);subst this;exact .arr0 l e s (by rw [K.b];exact hb) an
 |arr l b cap e s rows cs ty fz hb hh bg bd au aw=>
  have K:=hk l (by simp [ZL]);rcases K.arr e s rows hh with hn | ⟨ak,an,am⟩
  ·exact .dang _ _ l rfl hn rfl
  ·obtain ⟨bc,a6,bh,a7,a9⟩:=K.cells b cs ty fz (by simp [an]) hb bg;have:=RdA.arr (β:=β') (h:=h') (w:=w') (S:=S') (tm:=tm') l b cap e s ak bc a6 bh (by rw [K.b];exact hb) an a7 (by rw [a9];exact bd) (by rw [am];exact au) aw;rw [am] at this;exact this
 |mp l b t f hb hh=>
  have K:=hk l (by simp [ZL]);rcases K.mp t f hh with hn | ⟨f',hf⟩
  ·exact .dang _ _ l rfl hn rfl
  ·exact .mp l b t f' (by rw [K.b];exact hb) hf
 |ap l i off b e s rows hb hh=>
  have K:=hk l (by simp [ZL]);rcases K.arr e s rows hh with hn | ⟨ak,an,am⟩
  ·exact .dang _ _ l rfl hn rfl
  ·exact .ap l i off b e s ak (by rw [K.b];exact hb) an
 |dang v av l hl hh h1=>
  refine .dang v av l hl ((hk l ?_).none_ hh) h1;cases av <;> simp [VG] at hl <;> simp [ZL,hl]
 |gdT v t b av aq _ ih=>
  refine .gdT v t b av (by rw [ht t (by simp [gds])];exact aq) (ih (fun k hn=>hk k (by simpa [ZL] using hn)) (fun t' hn=>ht t' (by simp [gds,hn])))
 |gdF t b av aq=>exact .gdF t b av (by rw [ht t (by simp [gds])];exact aq)
structure Fr (M:Nat->Prop) (w w':World):Prop where
 os:w'.os=w.os
 tape:w'.tape=w.tape
 output:w'.output=w.output
 size:w.heap.size<=w'.heap.size
 block:∀ b,b<w.heap.size->¬ M b->w'.heap[b]? = w.heap[b]?
theorem Fr.refl (M:Nat->Prop) (w:World):Fr M w w:=⟨rfl,rfl,rfl,Nat.le_refl _,fun _ _ _=>rfl⟩
theorem Fr.trans {M:Nat->Prop} {a b c:World} (h:Fr M a b) (k:Fr M b c):Fr M a c:=
 ⟨k.os.trans h.os,k.tape.trans h.tape,k.output.trans h.output,Nat.le_trans h.size k.size,fun i hi hm=>(k.block i (Qdh hi h.size) hm).trans (h.block i hi hm)⟩
theorem Fr.mono {M M':Nat->Prop} {a b:World} (h:Fr M a b) (hM:∀ x,x<a.heap.size->M x->M' x):Fr M' a b:=
 ⟨h.os,h.tape,h.output,h.size,fun i hi hm=>h.block i hi (fun hx=>hm (hM i hi hx))⟩
theorem Fr.below {w w':World} (h:Fr (fun _=>False) w w'):RowKit.Below w.heap.size w w':=⟨h.os,h.tape,h.output,h.size,fun b hb=>h.block b hb (fun x=>x)⟩
def QbY (n:Nat) (fz:Nat × Nat):Prop:=∀ o,o<n->¬ (fz.1<=o/\o<fz.2)
def tm0:Nat->Value:=fun _=>undef
def Q3K (ty:TypeId) (cells:List AV):Prop:=∀ (i l t:Nat),cells[i]? = some (.sa l t)->ty=t
def ObR (β:Nat->Option Nat) (S:Nat->Prop) (h:Nat->Option Ob) (w:World) (l:Nat):Ob->Prop
 |.box cells=>∃ b ty cs fz,β l=some b/\w.heap[b]? = some (.cells cs ty fz)/\(QbY cs.size fz/\Q3K ty cells)/\cs.size=cells.length /\
   ∀ (i:Nat) (x:AV),cells[i]? = some x->RdA β S h w tm0 (cs.getD i undef) x
 |.arr e s rows=>(β l=none/\rows=[])\/∃ b cs,β l=some b/\w.heap[b]? = some (.cells cs e (0,0))/\rows.length*s<=cs.size /\
   (∀ (i:Nat) (r:List D),rows[i]? = some r->r.length=s)/\∀ (i j:Nat) (r:List D) (x:D),rows[i]? = some r->r[j]? = some x->∃ v,cs[i*s+j]? = some v/\Rd S w v x
 |.mp _ f=>∃ b,β l=some b/\MpR w b f
structure Env where
 w0:World
 M:Nat->Prop
 S0:Nat->Prop
 pin:Nat->Option Nat
def tmv (a:Act) (t:Nat):Value:=a.tmps.getD t undef
structure HRel (E:Env) (β:Nat->Option Nat) (S:Nat->Prop) (h:Nat->Option Ob) (w:World):Prop where
 ob:∀ l o,h l=some o->ObR β S h w l o
 inj:∀ l l' b,(h l).isSome=true->(h l').isSome=true->β l=some b->β l'=some b->l=l'
 apart:∀ l b,(h l).isSome=true->β l=some b->¬ S b
 own:∀ l b,(h l).isSome=true->β l=some b->E.M b\/E.w0.heap.size<=b
 sb:∀ b,S b->b<w.heap.size
 sfr:∀ b,S b->E.S0 b\/E.M b\/E.w0.heap.size<=b
 s0:∀ b,E.S0 b->S b
 fr:Fr E.M E.w0 w
 pin:∀ l,1000000<=l->β l=E.pin l
 psz:∀ l b,1000000<=l->(h l).isSome=true->β l=some b->∀ cs ty fz,E.w0.heap[b]? = some (.cells cs ty fz)->∃ cs' ty' fz',w.heap[b]? = some (.cells cs' ty' fz')/\cs'.size=cs.size
structure Rel (E:Env) (β:Nat->Option Nat) (S:Nat->Prop) (st:St) (a:Act) (w:World):Prop where
 n:a.tmps.size=st.n
 dfr:a.defers=[]
 tm:∀ t av,look st.tm t=some av->RdA β S (look st.h) w (tmv a) (tmv a t) av
 hr:HRel E β S (look st.h) w
def T0 (E:Env) (st:St) (a:Act) (w:World):Prop:=∃ β S,Rel E β S st a w
theorem Q7C {a b:Nat} (h:¬ a=b):Nat.beq a b=false:=by
 cases e:Nat.beq a b with
 |false=>rfl
 |true=>exact absurd (QcR e) h
theorem FL {α:Type} (l k:Nat) (h:List (Nat × α)):look (rem l h) k=if k=l then none else look h k:=by
 induction h with
 |nil=>simp [rem,look]
 |cons x r ih=>
  obtain ⟨a,o⟩:=x;simp only [rem,look];by_cases ha:a=l
  ·subst ha;simp only [Nat.beq_refl,QcU,ih];by_cases hk:k=a
   ·simp [hk]
   ·simp only [hk,if_false];have:Nat.beq a k=false:=Q7C (fun e=>hk e.symm);simp [this]
  ·have h1:Nat.beq a l=false:=Q7C ha;simp only [h1,cond_false,look,ih];by_cases hk:a=k
   ·subst hk;simp [ha]
   ·have h2:Nat.beq a k=false:=Q7C hk;simp [h2]
theorem Xv {α:Type} (l k:Nat) (o:α) (h:List (Nat × α)):look ((l,o)::h) k=if k=l then some o else look h k:=by
 simp only [look];by_cases hk:k=l
 ·subst hk;simp [Nat.beq_refl]
 ·have h2:Nat.beq l k=false:=Q7C (fun e=>hk e.symm);simp [h2,hk]
theorem ZM (l k:Nat) (o:Ob) (h:List (Nat × Ob)):look ((l,o)::rem l h) k=if k=l then some o else look h k:=by
 rw [Xv,FL];by_cases hk:k=l <;> simp [hk]

def CEq (kd:Kd) (u v:Value) (b:Bool):Prop:=
 match kd with
 |.int k=>∃ m n,u = .int k m/\v = .int k n/\b=(m == n)
 |.bool=>∃ m n,u = .bool m/\v = .bool n/\b=(m == n)
 |.str=>∃ m n:ByteArray,u = .string m/\v = .string n/\b=(m.data.toList == n.data.toList)
 |_=>False
def Qcn (P:Program) (t:Nat) (ks:List Kd):Prop:=
 ∀ (w:World) (xs ys:Array Value) (bs:List Bool),xs.size=ks.length->ys.size=ks.length->bs.length=ks.length ->
  (∀ (j:Nat) (kd:Kd) (b:Bool),ks[j]? = some kd->bs[j]? = some b->CEq kd (xs.getD j undef) (ys.getD j undef) b) ->
  (Op.equalIn 10000 t (.agg xs) (.agg ys)).run P w = .ok (bs.all id) w/\P.eqGuardType P.depth t=false
structure TyOk (P:Program) (t:Nat) (ti:TyI):Prop where
 inf:∃ i,P.info? t=some i/\i.size=ti.size/\i.bytes=ti.bytes/\∃ z,i.zero=some z/\z.cells.toList=ti.zero
 one:Uf ti.kd=false->ti.size=1/\∃ d,P.underlying t=some d/\(∀ fs,d≠.struct fs)/\∀ n e,d≠.array n e
 kint:∀ k,ti.kd = .int k->P.underlying t=some (.int k)
 kbool:ti.kd = .bool->P.underlying t=some .bool
 kstr:ti.kd = .str->P.underlying t=some .string
 ksl:∀ e esz,ti.kd = .sl e esz->P.underlying t=some (.slice e)/\0<esz/\∃ i,P.info? e=some i/\i.size=esz
 kstruct:ti.kd = .struct->∃ fs,P.underlying t=some (.struct fs)/\fs.toList.map (fun f=>(f.offset,f.type))=ti.fields/\∀ f∈fs.toList,∃ i,P.info? f.type=some i/\i.size≠0
 karr:∀ e esz n,ti.kd = .array e esz n->P.underlying t=some (.array n e)/\0<esz/\(∃ i,P.info? e=some i/\i.size=esz)/\ti.size=n*esz/\ti.fields=(List.range n).map fun i=>(i*esz,e)
 keq:∀ ks,ti.eqk=some ks->Qcn P t ks
 zlen:ti.zero.length=ti.size
 zd:ti.zd.length=ti.size->∀ (j:Nat) (x:D),ti.zd[j]? = some x->∃ v,ti.zero[j]? = some v/\∀ (S:Nat->Prop) (w:World),Rd S w v x
 kmpb:ti.kd = .mpb->∃ K e,P.underlying t=some (.map K e)/\P.underlying K=some (.int .i64)/\∃ i,P.info? e=some i/\i.zero=some (.bool false)
 kmap:ti.kd = .mapI->∃ K e,P.underlying t=some (.map K e)/\P.underlying K=some (.int .i64)/\∃ i,P.info? e=some i/\i.zero=some (.slice none 0 0)
def TOk (P:Program) (tt:TT):Prop:=∀ t ti,look tt t=some ti->TyOk P t ti
section
variable {P:Program}
theorem QI {t:TypeId} {d:TypeDesc} (h:P.underlying t=some d) (w:World):(underlying t).run P w = .ok d w:=by
 simp [underlying,h]
theorem XU {t:TypeId} {i:TypeInfo} (h:P.info? t=some i) (w:World):(typeInfo t).run P w = .ok i w:=by
 simp [typeInfo,h]
theorem TyOk.size {t:Nat} {ti:TyI} (h:TyOk P t ti) (w:World):(sizeOf t).run P w = .ok ti.size w:=by
 obtain ⟨i,hi,hs,_⟩:=h.inf;simp [sizeOf,XU hi,hs]
theorem TyOk.agg {t:Nat} {ti:TyI} (h:TyOk P t ti) (w:World):(isAgg t).run P w = .ok (Uf ti.kd) w:=by
 cases hk:Uf ti.kd with
 |true=>
  cases hh:ti.kd with
  |struct=>
   obtain ⟨fs,hu,_⟩:=h.kstruct hh;simp [isAgg,QI hu]
  |array e ao n=>
   have hu:=(h.karr e ao n hh).1;simp [isAgg,QI hu]
  |_=>simp [hh,Uf] at hk
 |false=>
  obtain ⟨_,d,hu,h1,h2⟩:=h.one hk;simp only [isAgg,QcT,QI hu,QcQ];cases d <;> simp_all
theorem Qt {α R:Type} {g:Bool} {p:Option α} {z:α} {k:α->Option R} {r:R} (h:gb g p z k=some r) :
  ∃ a,k a=some r/\(g=true->p=some a):=by
 unfold gb orZ at h;cases p with
 |some a=>exact ⟨a,by simpa using h,fun _=>rfl⟩
 |none=>
  cases g with
  |true=>simp at h
  |false=>exact ⟨z,by simpa using h,fun h=>by cases h⟩
def Out (E:Env) (st:St) (a:Act) (dl:Dl) (v:Value) (w':World):Prop:=
 ∃ β' S',Rel E β' S' ⟨st.n,st.tm,Pd st.h dl.wr⟩ a w'/\RdA β' S' (look (Pd st.h dl.wr)) w' (tmv a) v dl.v
def Ed (β:Nat->Option Nat) (S:Nat->Prop) (st:St) (a:Act) (w:World) (o:Oper) (ev:Operand->AV):Prop:=
 ∀ x∈o.op.operands.toList,RdA β S (look st.h) w (tmv a) (a.eval x) (ev x)/\∀ l,Wn st l=true->ZL l (ev x)=false
def Q9Y (st:St) (hl:Nat->Option Ob) (dl:Dl):Prop:=∀ l,l∈dl.rd\/l∈wrL dl->look st.h l=hl l
def Jn (P:Program) (E:Env) (o:Oper) (ev:Operand->AV) (hl:Nat->Option Ob) (dl:Dl):Prop:=
 ∀ β S st a w,Rel E β S st a w->Ed β S st a w o ev->Q9Y st hl dl->Zi st dl.wr=true ->
  ∀ (K:Act->World->Prop) (Q:Exit->Act->World->Prop),(∀ v w',Out E st a dl v w'->K (a.put o.dst v) w')->o.wp P a w K Q
variable {E:Env}
theorem Qj {o:Oper} {ev:Operand->AV} {hl:Nat->Option Ob} {v:AV} {rd:List Nat}
  (h:∀ β S st a w,Rel E β S st a w->Ed β S st a w o ev->Q9Y st hl ⟨v,[],rd⟩->∃ u,(execOp a.eval o).run P w = .ok (.value u) w/\RdA β S (look st.h) w (tmv a) u v) :
  Jn P E o ev hl ⟨v,[],rd⟩:=by
 intro β S st a w hR hO hA _ K Q hK;obtain ⟨u,ak,hu⟩:=h β S st a w hR hO hA;unfold Oper.wp;rw [ak];exact hK u w ⟨β,S,by simpa [Pd] using hR,by simpa [Pd] using hu⟩
theorem Ed.at {β:Nat->Option Nat} {S:Nat->Prop} {st:St} {a:Act} {w:World} {o:Oper} {ev:Operand->AV} (h:Ed β S st a w o ev) {x:Operand} (hx:x∈o.op.operands.toList) :
  RdA β S (look st.h) w (tmv a) (a.eval x) (ev x):=(h x hx).1
theorem Ed.nm {β:Nat->Option Nat} {S:Nat->Prop} {st:St} {a:Act} {w:World} {o:Oper} {ev:Operand->AV} (h:Ed β S st a w o ev) {x:Operand} (hx:x∈o.op.operands.toList) {l:Nat} (hc:Wn st l=true) :
  ZL l (ev x)=false:=(h x hx).2 l hc
section inv
variable {β:Nat->Option Nat} {S:Nat->Prop} {h:Nat->Option Ob} {w:World} {tm:Nat->Value} {v:Value}
theorem RdA.int_inv {k:IntKind} {n:Int} (hv:RdA β S h w tm v (.d (.int k n))):v = .int k n:=by
 cases hv with
 |d _ _ hx=>cases hx;rfl
 |dang _ _ l hl _ _=>simp [VG] at hl
theorem RdA.bool_inv {b:Bool} (hv:RdA β S h w tm v (.d (.bool b))):v = .bool b:=by
 cases hv with
 |d _ _ hx=>cases hx;rfl
 |dang _ _ l hl _ _=>simp [VG] at hl
theorem RdA.str_inv {l:List UInt8} (hv:RdA β S h w tm v (.d (.str l))):∃ s:ByteArray,l=s.data.toList/\v = .string s:=by
 cases hv with
 |d _ _ hx=>cases hx with
  |str s=>exact ⟨s,rfl,rfl⟩
 |dang _ _ l hl _ _=>simp [VG] at hl
theorem RdA.d_inv {x:D} (hv:RdA β S h w tm v (.d x)):Rd S w v x:=by
 cases hv with
 |d _ _ hx=>exact hx
 |dang _ _ l hl _ _=>simp [VG] at hl
theorem RdA.ptr_inv {l off:Nat} (hv:RdA β S h w tm v (.ptr l off)):∃ b,β l=some b/\v = .pointer (some ⟨b,off,none⟩):=by
 cases hv with
 |ptr _ _ b hb=>exact ⟨b,hb,rfl⟩
 |dang _ _ l hl _ _=>simp [VG] at hl
theorem RdA.el_inv {row:List D} {off:Nat} (hv:RdA β S h w tm v (.el row off)) :
  ∃ (ad:Addr) (c:Nat->Value),v = .pointer (some ad)/\S ad.block/\(∀ (j:Nat) (x:D),row[off+j]? = some x->w.cell? (ad.add j)=some (c j))/\∀ (j:Nat) (x:D),row[off+j]? = some x->Rd S w (c j) x:=by
 cases hv with
 |el ad _ _ c hs hc hr=>exact ⟨ad,c,rfl,hs,hc,hr⟩
 |dang _ _ l hl _ _=>simp [VG] at hl
theorem RdA.ap_inv {l i off e s:Nat} {rows:List (List D)} (hh:h l=some (.arr e s rows)) (hv:RdA β S h w tm v (.ap l i off)) :
  ∃ b,β l=some b/\v = .pointer (some ⟨b,i*s+off,none⟩):=by
 cases hv with
 |ap _ _ _ b e' s' am hb ak=>
  rw [hh] at ak;injection ak with ak
  injection ak with h1 h2 h3
  subst h2;exact ⟨b,hb,rfl⟩
 |dang _ _ l' hl hn _=>simp [VG] at hl;subst hl;rw [hh] at hn;cases hn
theorem RdA.ag_inv {l:List AV} (hv:RdA β S h w tm v (.ag l)):∃ cs:Array Value,v = .agg cs/\cs.size=l.length/\∀ (i:Nat) (x:AV),l[i]? = some x->RdA β S h w tm (cs.getD i undef) x:=by
 cases hv with
 |ag cs _ hl hr=>exact ⟨cs,rfl,hl,hr⟩
 |dang _ _ l hl _ _=>simp [VG] at hl
theorem RdA.tup_inv {l:List AV} (hv:RdA β S h w tm v (.tup l)):∃ cs:Array Value,v = .tuple cs/\cs.size=l.length/\∀ (i:Nat) (x:AV),l[i]? = some x->RdA β S h w tm (cs.getD i undef) x:=by
 cases hv with
 |tup cs _ hl hr=>exact ⟨cs,rfl,hl,hr⟩
 |dang _ _ l hl _ _=>simp [VG] at hl
theorem RdA.fs_inv {s:Nat} {rows:List (List D)} (hv:RdA β S h w tm v (.fs s rows)):∃ ad,v = .slice ad rows.length rows.length/\Rd S w v (.sl s rows):=by
 cases hv with
 |fs ad _ _ hx=>exact ⟨ad,rfl,hx⟩
 |dang _ _ l hl=>simp [VG] at hl
theorem RdA.nil_inv (hv:RdA β S h w tm v .nil):v = .slice none 0 0:=by
 cases hv with
 |nil=>rfl
 |dang _ _ l hl _ _=>simp [VG] at hl
theorem RdA.arr_inv {l e s:Nat} {rows:List (List D)} (hh:h l=some (.arr e s rows)) (hv:RdA β S h w tm v (.arr l)) :
  (β l=none/\rows=[]/\v = .slice none 0 0)\/∃ b cap cs ty fz,β l=some b/\v = .slice (some ⟨b,0,none⟩) rows.length cap/\w.heap[b]? = some (.cells cs ty fz)/\cs.size=cap*s/\rows.length<=cap/\cap<=maxLen:=by
 cases hv with
 |arr0 _ e' s' hb ak=>
  rw [hh] at ak;injection ak with ak
  injection ak with h1 h2 h3
  exact .inl ⟨hb,h3,rfl⟩
 |arr _ b cap e' s' aq cs ty fz hb ak hw ar am an=>
  rw [hh] at ak;injection ak with ak
  injection ak with h1 h2 h3
  subst h2;subst h3;exact .inr ⟨b,cap,cs,ty,fz,hb,rfl,hw,ar,am,an⟩
 |mp _ b t f hb ak=>rw [hh] at ak;cases ak
 |dang _ _ l' hl hn _=>simp [VG] at hl;subst hl;rw [hh] at hn;cases hn
theorem RdA.mp_inv {l t:Nat} {f:Int->Bool} (hh:h l=some (.mp t f)) (hv:RdA β S h w tm v (.arr l)):∃ b,β l=some b/\v = .map (some b):=by
 cases hv with
 |arr0 _ e' s' hb ak=>rw [hh] at ak;cases ak
 |arr _ b cap e' s' am cs ty fz hb ak hw au ao aq=>rw [hh] at ak;cases ak
 |mp _ b t f hb ak=>exact ⟨b,hb,rfl⟩
 |dang _ _ l' hl hn _=>simp [VG] at hl;subst hl;rw [hh] at hn;cases hn
end inv
theorem Nz {k:IntKind} {x:D} {n:Int} (h:Q3 k x=some n):x = .int k n:=by
 cases x with
 |int k' m=>
  unfold Q3 at h;cases hk:(k == k') with
  |true=>
   simp [hk] at h;subst h;have:k=k':=by simpa using hk
   rw [this]
  |false=>simp [hk] at h
 |_=>simp [Q3] at h
theorem SE {x:D} {n:Bool} (h:PM x=some n):x = .bool n:=by
 cases x <;> simp [PM] at h;rw [h]
theorem Nl {x:D} {n:List UInt8} (h:Sv x=some n):x = .str n:=by
 cases x <;> simp [Sv] at h;rw [h]
theorem Q3d {s:Nat} {x:D} {n:List (List D)} (h:pSl s x=some n):x = .sl s n:=by
 cases x with
 |sl s' m=>
  unfold pSl at h;cases hk:Nat.beq s' s with
  |true=>
   simp [hk] at h;subst h;rw [QcR hk]
  |false=>simp [hk] at h
 |_=>simp [pSl] at h
theorem FY {R:Type} {g:Bool} {kd:Kd} {av:AV} {k:AV->Option R} {r:R} (h:prj g kd av k=some r) :
  ∃ v,k v=some r/\(g=true->v=av)/\FN av=true:=by
 unfold prj at h;split at h
 ·split at h
  ·obtain ⟨n,hn,hp⟩:=Qt h;exact ⟨_,hn,fun hg=>by rw [Nz (hp hg)],rfl⟩
  ·obtain ⟨n,hn,hp⟩:=Qt h;exact ⟨_,hn,fun hg=>by rw [SE (hp hg)],rfl⟩
  ·obtain ⟨n,hn,hp⟩:=Qt h;exact ⟨_,hn,fun hg=>by rw [Nl (hp hg)],rfl⟩
  ·obtain ⟨n,hn,hp⟩:=Qt h;exact ⟨_,hn,fun hg=>by rw [Q3d (hp hg)],rfl⟩
  ·cases h
 ·cases hn:FN av with
  |true=>exact ⟨_,by simpa [hn] using h,fun _=>rfl,rfl⟩
  |false=>simp [hn] at h
theorem Rl {R:Type} {g:Bool} {row:List D}:∀ {n off:Nat} {k:List AV->Option R} {r:R},CJ g row off n k=some r ->
  ∃ cs:List D,k (cs.map .d)=some r/\cs.length=n/\(g=true->∀ j,j<n->row[off+j]? = cs[j]?)
 |0,off,k,r,h=>⟨[],by simpa [CJ] using h,rfl,fun _ j hj=>by omega⟩
 |n+1,off,k,r,h=>by
  unfold CJ at h;obtain ⟨c,hc,hp⟩:=Qt h;obtain ⟨cs,h1,h2,h3⟩:=Rl hc;refine ⟨c::cs,by simpa using h1,by simp [h2],fun hg j hj=>?_⟩;cases j with
  |zero=>simpa using hp hg
  |succ j=>
   have:=h3 hg j (by omega);rw [show off+(j+1)=off+1+j from by omega];simpa using this
theorem TC {cells:List AV}:∀ {n off:Nat} {cs:List AV},Em cells off n=some cs->cs.length=n/\(∀ j,j<n->cells[off+j]? = cs[j]?)/\∀ (j:Nat) (c:AV),cs[j]? = some c->FN c=true
 |0,off,cs,h=>by
  simp [Em] at h;subst h;exact ⟨rfl,fun j hj=>by omega,fun j c hc=>by simp at hc⟩
 |n+1,off,cs,h=>by
  unfold Em at h;split at h
  ·rename_i c hc;split at h
   ·rename_i r hr;obtain ⟨h1,h2,h3⟩:=TC hr;cases hn:FN c with
    |true=>
     simp [hn] at h;subst h;refine ⟨by simp [h1],fun j hj=>?_,fun j c' ak=>?_⟩
     ·cases j with
      |zero=>simpa using hc
      |succ j=>
       rw [show off+(j+1)=off+1+j from by omega];simpa using h2 j (by omega)
     ·cases j with
      |zero=>simp at ak;subst ak;exact hn
      |succ j=>exact h3 j c' (by simpa using ak)
    |false=>simp [hn] at h
   ·cases h
  ·cases h
theorem Be:∀ {l:List AV},UX l=true->∀ t,DD t l=false
 |[],_,_=>rfl
 |.ptr ..::r,h,t=>by simp [DD,gds,Be (l:=r) (by simpa [UX] using h) t]
 |.d _::r,h,t=>by simp [DD,gds,Be (l:=r) (by simpa [UX] using h) t]
 |.top::_,h,_=>by simp [UX] at h
 |.nil::_,h,_=>by simp [UX] at h
 |.ag _::_,h,_=>by simp [UX] at h
 |.tup _::_,h,_=>by simp [UX] at h
 |.el ..::_,h,_=>by simp [UX] at h
 |.fs ..::_,h,_=>by simp [UX] at h
 |.mpd _::_,h,_=>by simp [UX] at h
 |.ex _::_,h,_=>by simp [UX] at h
 |.arr _::_,h,_=>by simp [UX] at h
 |.ap ..::_,h,_=>by simp [UX] at h
 |.gd ..::_,h,_=>by simp [UX] at h
 |.fn ..::_,h,_=>by simp [UX] at h
theorem T8 {av:AV} (h:FN av=true) (t:Nat):gds t av=false:=by
 cases av with
 |fn f l=>simp only [gds];exact Be (by simpa [FN] using h) t
 |_=>simp [FN] at h <;> rfl
theorem RdA.any_tm {β:Nat->Option Nat} {S:Nat->Prop} {h:Nat->Option Ob} {w:World} {tm:Nat->Value} {v:Value} {av:AV} (hg:FN av=true)
  (hv:RdA β S h w tm0 v av):RdA β S h w tm v av:=by
 refine RdA.mono hv (fun _ hb=>hb) (fun _ _=>rfl) (fun l _=>⟨rfl,fun x=>x,fun e s rows hh=>.inr ⟨rows,hh,rfl⟩,fun b cs ty fz _ _ hw=>⟨cs,ty,fz,hw,rfl⟩,fun _ f hh=>.inr ⟨f,hh⟩⟩) (fun t ht=>?_);rw [T8 hg t] at ht;cases ht
end

section
variable {P:Program} {E:Env} {R:Type}
theorem UK {w:World} {b o:Nat} {cs:Array Value} {ty:TypeId} {fz:Nat × Nat} (h:w.heap[b]? = some (.cells cs ty fz)):w.cell? ⟨b,o,none⟩=cs[o]?:=by
 simp [World.cell?,h]
theorem VX {t:Nat} {ti:TyI} (ht:TyOk P t ti) (hs:Uf ti.kd=false) {w:World} {a:Addr} {v:Value} (hc:w.cell? a=some v) :
  (loadVar t a).run P w = .ok v w:=by
 simp only [loadVar,QcT,ht.agg,hs,QcQ,Bool.false_eq_true,if_false,run_load,hc]
theorem J7 {t:Nat} {ti:TyI} (ht:TyOk P t ti) (hs:Uf ti.kd=true) {w:World} {a:Addr} {vs:List Value} (hl:vs.length=ti.size) (hc:∀ (j:Nat) (v:Value),vs[j]? = some v->w.cell? (a.add j)=some v) :
  (loadVar t a).run P w = .ok (.agg vs.toArray) w:=by
 have h1:=run_loadCells_list (P:=P) w a vs hc;rw [hl] at h1;simp only [loadVar,QcT,ht.agg,hs,QcQ,if_true,ht.size,h1];rfl
theorem Ua {cs:Array Value} {i:Nat} (h:i<cs.size):cs[i]? = some (cs.getD i undef):=by
 simp [Array.getD,h]
theorem Nh {vs:List Value} {i:Nat} {v:Value} (h:vs[i]? = some v):vs.toArray.getD i undef=v:=by
 obtain ⟨hi,rfl⟩:=QcO.1 h;simp [Array.getD,hi]
theorem JM {o:Oper} {t:TypeId} {x:Operand} (ho:o.op = .load t x) {a:Act} {w:World} {ad:Addr} {v:Value} (hx:a.eval x = .pointer (some ad)) (hv:(loadVar t ad).run P w = .ok v w) :
  (execOp a.eval o).run P w = .ok (.value v) w:=by
 unfold execOp;rw [ho];simp [Instr.loadAt,Instr.sureAddr,hx,hv]
theorem Q0g {S:Nat->Prop} {w:World} {ad:Addr} {row:List D} {off:Nat} {c:Nat->Value} (hc:∀ (j:Nat) (x:D),row[off+j]? = some x->w.cell? (ad.add j)=some (c j))
  (hr:∀ (j:Nat) (x:D),row[off+j]? = some x->Rd S w (c j) x) {cs:List D} {n:Nat} (hn:cs.length=n) (am:∀ j,j<n->row[off+j]? = cs[j]?) :
  ∃ vs:List Value,vs.length=n/\(∀ (j:Nat) (v:Value),vs[j]? = some v->w.cell? (ad.add j)=some v)/\∀ (j:Nat) (x:D),cs[j]? = some x->∃ v,vs[j]? = some v/\Rd S w v x:=by
 refine ⟨(List.range n).map c,by simp,fun j v hv=>?_,fun j x hx=>?_⟩
 ·simp only [QcW,QcS] at hv;obtain ⟨j',an,rfl⟩:=hv;obtain ⟨ak,he⟩:=QcO.1 an;simp at ak he;subst he;have h1:=am j ak;have h2:cs[j]? = some (cs[j]'(by omega)):=Qd1 (by omega);exact hc j _ (h1.trans h2)
 ·have ak:j<n:=by
   rcases Nat.lt_or_ge j n with h | h
   ·exact h
   ·rw [List.getElem?_eq_none (by omega)] at hx;cases hx
  exact ⟨c j,by simp [ak],hr j x ((am j ak).trans hx)⟩
theorem Q5d {β:Nat->Option Nat} {S:Nat->Prop} {h:Nat->Option Ob} {w:World} {tm:Nat->Value} {vs:List Value} {cs:List D} (hl:vs.length=cs.length)
  (hr:∀ (j:Nat) (x:D),cs[j]? = some x->∃ v,vs[j]? = some v/\Rd S w v x):RdA β S h w tm (.agg vs.toArray) (.ag (cs.map .d)):=by
 refine .ag _ _ (by simp [hl]) fun i x hx=>?_
 simp only [QcW,QcS] at hx;obtain ⟨y,hy,rfl⟩:=hx;obtain ⟨v,hv,ak⟩:=hr i y hy;rw [Nh hv];exact .d _ _ ak
theorem Q4J {tt:TT} (hT:TOk P tt) {o:Oper} {t:TypeId} {x:Operand} (ho:o.op = .load t x) {g:Bool} {ev:Operand->AV} {hl:Nat->Option Ob} {k:Dl->Option R} {r:R}
  (h:Q95 tt g hl t (ev x) k=some r):∃ dl,k dl=some r/\(g=true->Jn P E o ev hl dl):=by
 have ao:x∈o.op.operands.toList:=by simp [ho,Op.operands]
 unfold Q95 at h;split at h
 case h_2=>cases h
 rename_i ti bz;have a7:=hT t ti bz;split at h
 ·-- a box
  rename_i l off au;split at h
  ·rename_i cells ax;cases hs:Uf ti.kd with
   |true=>
    simp only [hs,QcU] at h;split at h
    ·rename_i cs bd;refine ⟨_,h,fun _=>Qj fun β S st a w hR hO hA=>?_⟩;obtain ⟨b,hb,hv⟩:=(au▸hO.at ao).ptr_inv;have aq:look st.h l=some (.box cells):=by rw [hA l (.inl (by simp))];exact ax
     obtain ⟨b',ty,vs,fz,am,hw,_,br,ar⟩:=hR.hr.ob l _ aq;obtain rfl:b=b':=by rw [hb] at am;injection am
     obtain ⟨h1,h2,h3⟩:=TC bd;have aw:∀ j,j<ti.size->off+j<vs.size:=fun j hj=>by
      have h4:=h2 j hj;have h5:cs[j]? = some (cs[j]'(by omega)):=Qd1 (by omega);rw [h5] at h4;obtain ⟨h6,_⟩:=QcO.1 h4;omega
     refine ⟨_,JM ho hv (J7 a7 hs (vs:=(List.range ti.size).map fun j=>vs.getD (off+j) undef) (by simp) fun j v hv=>?_),?_⟩
     ·simp only [QcW,QcS] at hv;obtain ⟨j',bx,rfl⟩:=hv;obtain ⟨bk,he⟩:=QcO.1 bx;simp at bk he;subst he;rw [Gc,UK hw];exact Ua (aw j bk)
     ·refine .ag _ _ (by simp [h1]) fun i y hy=>?_
      have hi:i<ti.size:=by
       obtain ⟨h6,_⟩:=QcO.1 hy;omega
      rw [Nh (v:=vs.getD (off+i) undef) (by simp [hi])];exact (ar (off+i) y ((h2 i hi).trans hy)).any_tm (h3 i y hy)
    ·cases h
   |false=>
    simp only [hs,cond_false] at h;split at h
    ·rename_i c hc;obtain ⟨v,bc,bg,bq⟩:=FY h;refine ⟨_,bc,fun hg=>Qj fun β S st a w hR hO hA=>?_⟩;obtain ⟨b,hb,hv⟩:=(au▸hO.at ao).ptr_inv;have aq:look st.h l=some (.box cells):=by rw [hA l (.inl (by simp))];exact ax
     obtain ⟨b',ty,vs,fz,am,hw,_,br,ar⟩:=hR.hr.ob l _ aq;obtain rfl:b=b':=by rw [hb] at am;injection am
     have aw:off<vs.size:=by
      obtain ⟨h6,_⟩:=QcO.1 hc;omega
     refine ⟨_,JM ho hv (VX a7 hs (by rw [UK hw];exact Ua aw)),?_⟩;rw [bg hg];exact (ar off c hc).any_tm bq
    ·cases h
  ·cases h
 ·-- a row of data
  rename_i row off au;cases hs:Uf ti.kd with
  |true=>
   simp only [hs,QcU] at h;obtain ⟨cs,hk,a9,bd⟩:=Rl h;refine ⟨_,hk,fun hg=>Qj fun β S st a w hR hO hA=>?_⟩;obtain ⟨ad,c,hv,_,hc,hr⟩:=(au▸hO.at ao).el_inv;obtain ⟨vs,h1,h2,h3⟩:=Q0g hc hr a9 (bd hg);exact ⟨_,JM ho hv (J7 a7 hs h1 h2),Q5d (by omega) h3⟩
  |false=>
   simp only [hs,cond_false] at h;obtain ⟨c0,h,bh⟩:=Qt h;obtain ⟨v,bc,bg,_⟩:=FY h;refine ⟨_,bc,fun hg=>Qj fun β S st a w hR hO hA=>?_⟩;obtain ⟨ad,c,hv,_,hc,hr⟩:=(au▸hO.at ao).el_inv;refine ⟨_,JM ho hv (VX a7 hs (v:=c 0) ?_),?_⟩
   ·have:=hc 0 c0 (bh hg);simpa [Addr.add] using this
   ·rw [bg hg];exact .d _ _ (hr 0 c0 (bh hg))
 ·-- an array of the call's own
  rename_i l i off au;split at h
  ·rename_i e s rows bi;obtain ⟨row,h,bj⟩:=Qt h;cases hs:Uf ti.kd with
   |true=>
    simp only [hs,QcU] at h;obtain ⟨cs,hk,a9,bd⟩:=Rl h;refine ⟨_,hk,fun hg=>Qj fun β S st a w hR hO hA=>?_⟩;have aq:look st.h l=some (.arr e s rows):=by rw [hA l (.inl (by simp))];exact bi
    obtain ⟨b,hb,hv⟩:=RdA.ap_inv aq (au▸hO.at ao);have ak:=bj hg;rcases hR.hr.ob l _ aq with ⟨_,hn⟩ | ⟨b',vs,am,hw,_,bv,ar⟩
    ·subst hn;simp at ak
    obtain rfl:b=b':=by rw [hb] at am;injection am
    obtain ⟨b2,h1,h2,h3⟩:=Q0g (S:=S) (w:=w) (ad:=⟨b,i*s+off,none⟩) (row:=row) (off:=off) (c:=fun j=>vs.getD (i*s+(off+j)) undef)
     (fun j x hx=>by
      obtain ⟨v,bo,_⟩:=ar i (off+j) row x ak hx;rw [Gc,UK hw,Nat.add_assoc];obtain ⟨aw,_⟩:=Qd2.1 bo;exact Ua aw)
     (fun j x hx=>by
      obtain ⟨v,bo,bl⟩:=ar i (off+j) row x ak hx;obtain ⟨aw,he⟩:=Qd2.1 bo;have:vs.getD (i*s+(off+j)) undef=v:=by simp [Array.getD,aw,he]
      rw [this];exact bl) a9 (bd hg)
    exact ⟨_,JM ho hv (J7 a7 hs h1 h2),Q5d (by omega) h3⟩
   |false=>
    simp only [hs,cond_false] at h;obtain ⟨c0,h,bh⟩:=Qt h;obtain ⟨v,bc,bg,_⟩:=FY h;refine ⟨_,bc,fun hg=>Qj fun β S st a w hR hO hA=>?_⟩;have aq:look st.h l=some (.arr e s rows):=by rw [hA l (.inl (by simp))];exact bi
    obtain ⟨b,hb,hv⟩:=RdA.ap_inv aq (au▸hO.at ao);have ak:=bj hg;rcases hR.hr.ob l _ aq with ⟨_,hn⟩ | ⟨b',vs,am,hw,_,bv,ar⟩
    ·subst hn;simp at ak
    obtain rfl:b=b':=by rw [hb] at am;injection am
    obtain ⟨u,hu,bl⟩:=ar i off row c0 ak (bh hg);refine ⟨_,JM ho hv (VX a7 hs (v:=u) ?_),?_⟩
    ·rw [UK hw];exact hu
    ·rw [bg hg];exact .d _ _ bl
  ·cases h
 ·cases h
end

section
variable {P:Program} {E:Env} {R:Type}
theorem Q0o {o:Oper} {x:Operand} (ho:o.op = .move x\/o.op = .assign x) {ev:Operand->AV} {hl:Nat->Option Ob}:Jn P E o ev hl ⟨ev x,[],[]⟩:=by
 refine Qj fun β S st a w hR hO hA=>⟨a.eval x,?_,hO.at (by rcases ho with ho | ho <;> simp [ho,Op.operands])⟩
 unfold execOp;rcases ho with ho | ho <;> rw [ho] <;> simp
theorem Pu {o:Oper} {x:Operand} (ho:o.op = .nilCheck x) {a:Act} {w:World} {ad:Addr} (ak:a.eval x = .pointer (some ad)) :
  (execOp a.eval o).run P w = .ok (.value (.pointer (some ad))) w:=by
 unfold execOp;rw [ho];simp [ak]
theorem Mn {o:Oper} {x:Operand} (ho:o.op = .nilCheck x) {ev:Operand->AV} {hl:Nat->Option Ob} {l f:Nat} (hv:ev x = .ptr l f):Jn P E o ev hl ⟨.ptr l f,[],[]⟩:=by
 refine Qj fun β S st a w hR hO hA=>?_
 have hx:=hv▸hO.at (x:=x) (by simp [ho,Op.operands]);obtain ⟨b,_,h⟩:=hx.ptr_inv;exact ⟨_,Pu ho h,h▸hx⟩
theorem F3 {o:Oper} {x:Operand} (ho:o.op = .nilCheck x) {ev:Operand->AV} {hl:Nat->Option Ob} {l:List D} {f:Nat} (hv:ev x = .el l f):Jn P E o ev hl ⟨.el l f,[],[]⟩:=by
 refine Qj fun β S st a w hR hO hA=>?_
 have hx:=hv▸hO.at (x:=x) (by simp [ho,Op.operands]);obtain ⟨b,_,h,_⟩:=hx.el_inv;exact ⟨_,Pu ho h,h▸hx⟩
theorem RdA.ap_ptr {β:Nat->Option Nat} {S:Nat->Prop} {h:Nat->Option Ob} {w:World} {tm:Nat->Value} {v:Value} {l i off:Nat} (hh:(h l).isSome=true) (hv:RdA β S h w tm v (.ap l i off)):∃ ad,v = .pointer (some ad):=by
 cases hv with
 |ap _ _ _ b e s rows hb hh=>exact ⟨_,rfl⟩
 |dang _ _ l' hl hn _=>simp [VG] at hl;subst hl;rw [hn] at hh;cases hh
theorem Fs {o:Oper} {x:Operand} (ho:o.op = .nilCheck x) {ev:Operand->AV} {hl:Nat->Option Ob} {l i f:Nat} (hs:(hl l).isSome=true) (hv:ev x = .ap l i f):Jn P E o ev hl ⟨.ap l i f,[],[l]⟩:=by
 refine Qj fun β S st a w hR hO hA=>?_
 have hx:=hv▸hO.at (x:=x) (by simp [ho,Op.operands]);obtain ⟨ad,h⟩:=hx.ap_ptr (by rw [hA l (.inl (by simp))];exact hs);exact ⟨_,Pu ho h,h▸hx⟩
theorem Q59 {o:Oper} {op:UnOp} {t:TypeId} {x:Operand} (ho:o.op = .unOp op t x) {a:Act} {w:World} {u v:Value} (hx:a.eval x=u) (h:(Op.unary op u).run P w = .ok v w) :
  (execOp a.eval o).run P w = .ok (.value v) w:=by
 unfold execOp;rw [ho];simp [hx,h]
theorem Q96 {o:Oper} {op:UnOp} {t:TypeId} {x:Operand} (ho:o.op = .unOp op t x) {ev:Operand->AV} {hl:Nat->Option Ob} {v:AV} (h:vUn op (ev x)=some v) :
  Jn P E o ev hl ⟨v,[],[]⟩:=by
 refine Qj fun β S st a w hR hO hA=>?_
 have hx:=hO.at (x:=x) (by simp [ho,Op.operands]);unfold vUn at h;split at h
 ·rename_i b hb;cases h;rw [hb] at hx;exact ⟨.bool (!b),Q59 ho hx.bool_inv (by simp [Op.unary]),.d _ _ (.bool _)⟩
 ·rename_i k n hb;cases h;rw [hb] at hx;exact ⟨.int k (k.wrap (0-n)),Q59 ho hx.int_inv (by simp [Op.unary,Op.intArith]),.d _ _ (.int _ _)⟩
 ·rename_i k n hb;cases h;rw [hb] at hx;exact ⟨.int k (Q8d k n),Q59 ho hx.int_inv (by simp [Op.unary,Op.intBits,Q8d,QaO]),.d _ _ (.int _ _)⟩
 ·cases h
theorem Pg (op:BinOp) (t:TypeId) (x y:Operand) (k k':IntKind) (a b:Int) (w:World):(eqGuard op t x y (.int k a) (.int k' b)).run P w = .ok () w:=by
 cases op <;> simp [eqGuard]
theorem TQ (op:BinOp) (t:TypeId) (x y:Operand) (a b:Bool) (w:World):(eqGuard op t x y (.bool a) (.bool b)).run P w = .ok () w:=by
 cases op <;> simp [eqGuard]
theorem MX {o:Oper} {op:BinOp} {t t':TypeId} {x y:Operand} (ho:o.op = .binOp op t x y t') {a:Act} {w:World} {u u' v:Value} (hx:a.eval x=u) (hy:a.eval y=u')
  (hg:(eqGuard op t x y u u').run P w = .ok () w) (h:(binOp op t u u').run P w = .ok v w) :
  (execOp a.eval o).run P w = .ok (.value v) w:=by
 unfold execOp;rw [ho];simp [hx,hy,h,hg]
theorem TZ (d:Nat) {t:TypeId} (hu:P.underlying t=some .bool) (a b:Bool) (w:World):(Op.equalIn (d+1) t (.bool a) (.bool b)).run P w = .ok (a == b) w:=by
 simp only [Op.equalIn,QcT,QI hu,QcQ];rfl
theorem AW {t:TypeId} (hu:P.underlying t=some .bool) (a b:Bool) (w:World):(binOp .eql t (.bool a) (.bool b)).run P w = .ok (.bool (a == b)) w:=by
 simp only [binOp,Op.equal,Op.maxDepth,QcT,TZ 9999 hu,QcQ];rfl
theorem Q1b {t:TypeId} (hu:P.underlying t=some .bool) (a b:Bool) (w:World):(binOp .neq t (.bool a) (.bool b)).run P w = .ok (.bool (!(a == b))) w:=by
 simp only [binOp,Op.equal,Op.maxDepth,QcT,TZ 9999 hu,QcQ];rfl
theorem RdA.gd_inv {β:Nat->Option Nat} {S:Nat->Prop} {h:Nat->Option Ob} {w:World} {tm:Nat->Value} {v:Value} {t:Nat} {b:Bool} {av:AV} (hv:RdA β S h w tm v (.gd t b av)) :
  (tm t = .bool b/\RdA β S h w tm v av)\/(tm t≠.bool b/\v=undef):=by
 cases hv with
 |gdT _ _ _ _ ht hv=>exact .inl ⟨ht,hv⟩
 |gdF _ _ _ ht=>exact .inr ⟨ht,rfl⟩
 |dang _ _ l hl _ _=>simp [VG] at hl
def dv:D->Value
 |.int k n=>.int k n
 |.bool b=>.bool b
 |_=>undef
theorem Q4h {op:BinOp} {k:IntKind} {a b:Int} {d:D} (h:Q36 op k a b=some d) (t:TypeId) (w:World) (S:Nat->Prop):∃ v,(binOp op t (.int k a) (.int k b)).run P w = .ok v w/\Rd S w v d:=by
 refine ⟨dv d,?_,?_⟩
 ·cases op <;> simp only [Q36,Option.some.injEq,reduceCtorEq] at h <;> subst h <;> simp [binOp,Op.intArith,Op.intCmp,dv]
 ·cases op <;> simp only [Q36,Option.some.injEq,reduceCtorEq] at h <;> subst h <;> first | exact .int _ _ | exact .bool _
theorem Xh {tt:TT} {t:Nat} {kd:Kd} (h:KB tt t=kd) (hn:kd≠.other):∃ ti,look tt t=some ti/\ti.kd=kd:=by
 unfold KB at h;split at h
 ·rename_i ti am;exact ⟨ti,am,h⟩
 ·exact absurd h.symm hn
theorem Ei (op:BinOp) (t:TypeId) (x y:Operand) (a b:ByteArray) (w:World):(eqGuard op t x y (.string a) (.string b)).run P w = .ok () w:=by
 cases op <;> simp [eqGuard]
theorem Q3t:∀ (l:List Bool),Q6p l=l.all id
 |[]=>rfl
 |[b]=>by simp [Q6p]
 |b::c::r=>by rw [show Q6p (b::c::r)=(b&&Q6p (c::r)) from rfl,Q3t (c::r)];simp
theorem Ez {g:Bool}:∀ {ks:List Kd} {xs ys:List AV} {k:List Bool->Option R} {r:R},Q1f g ks xs ys k=some r->∃ bs,k bs=some r/\bs.length=ks.length/\xs.length=ks.length/\ys.length=ks.length /\
  (g=true->∀ (β:Nat->Option Nat) (S:Nat->Prop) (h:Nat->Option Ob) (w:World) (tm:Nat->Value) (us vs:Nat->Value),(∀ (i:Nat) (x:AV),xs[i]? = some x->RdA β S h w tm (us i) x)->(∀ (i:Nat) (x:AV),ys[i]? = some x->RdA β S h w tm (vs i) x) ->
   ∀ (j:Nat) (kd:Kd) (b:Bool),ks[j]? = some kd->bs[j]? = some b->CEq kd (us j) (vs j) b)
 |[],[],[],k,r,h=>⟨[],h,rfl,rfl,rfl,fun _ _ _ _ _ _ _ _ _ _ j kd b hj=>by simp at hj⟩
 |kd::ks,x::xs,y::ys,k,r,h=>by
  cases x with
  |d a=>
   cases y with
   |d b=>
    have ar:∀ (c:Bool),Q1f g ks xs ys (fun r=>k (c::r))=some r->(g=true->∀ (β:Nat->Option Nat) (S:Nat->Prop) (h:Nat->Option Ob) (w:World) (tm:Nat->Value) (u v:Value),RdA β S h w tm u (.d a)->RdA β S h w tm v (.d b)->CEq kd u v c) ->
      ∃ bs,k bs=some r/\bs.length=(kd::ks).length/\(AV.d a::xs).length=(kd::ks).length/\(AV.d b::ys).length=(kd::ks).length /\
      (g=true->∀ (β:Nat->Option Nat) (S:Nat->Prop) (h:Nat->Option Ob) (w:World) (tm:Nat->Value) (us vs:Nat->Value),(∀ (i:Nat) (x:AV),(AV.d a::xs)[i]? = some x->RdA β S h w tm (us i) x)->(∀ (i:Nat) (x:AV),(AV.d b::ys)[i]? = some x->RdA β S h w tm (vs i) x) ->
       ∀ (j:Nat) (aq:Kd) (b:Bool),(kd::ks)[j]? = some aq->bs[j]? = some b->CEq aq (us j) (vs j) b):=by
     intro c hc hq;obtain ⟨bs,h1,h2,h3,h4,h5⟩:=Ez hc;refine ⟨c::bs,h1,by simp [h2],by simp [h3],by simp [h4],fun hg β S hh w tm us vs hu hv j aq b' hj hb=>?_⟩;cases j with
     |zero=>simp at hj hb;subst hj hb;exact hq hg β S hh w tm _ _ (hu 0 _ rfl) (hv 0 _ rfl)
     |succ j=>exact h5 hg β S hh w tm (fun i=>us (i+1)) (fun i=>vs (i+1)) (fun i x hx=>hu (i+1) x (by simpa using hx)) (fun i x hx=>hv (i+1) x (by simpa using hx)) j aq b' (by simpa using hj) (by simpa using hb)
    cases kd with
    |int ik=>
     simp only [Q1f] at h;obtain ⟨m,h,hm⟩:=Qt h;obtain ⟨n,h,hn⟩:=Qt h;refine ar _ h fun hg β S hh w tm u v hu hv=>?_
     rw [Nz (hm hg)] at hu;rw [Nz (hn hg)] at hv;exact ⟨m,n,hu.int_inv,hv.int_inv,rfl⟩
    |bool=>
     simp only [Q1f] at h;obtain ⟨m,h,hm⟩:=Qt h;obtain ⟨n,h,hn⟩:=Qt h;refine ar _ h fun hg β S hh w tm u v hu hv=>?_
     rw [SE (hm hg)] at hu;rw [SE (hn hg)] at hv;exact ⟨m,n,hu.bool_inv,hv.bool_inv,rfl⟩
    |str=>
     simp only [Q1f] at h;obtain ⟨m,h,hm⟩:=Qt h;obtain ⟨n,h,hn⟩:=Qt h;refine ar _ h fun hg β S hh w tm u v hu hv=>?_
     rw [Nl (hm hg)] at hu;rw [Nl (hn hg)] at hv;obtain ⟨s,rfl,rfl⟩:=hu.str_inv;obtain ⟨t,rfl,rfl⟩:=hv.str_inv;exact ⟨s,t,rfl,rfl,rfl⟩
    |_=>simp [Q1f] at h
   |_=>simp [Q1f] at h
  |_=>simp [Q1f] at h
 |[],[],_::_,k,r,h=>by simp [Q1f] at h
 |[],_::_,_,k,r,h=>by simp [Q1f] at h
 |_::_,[],_,k,r,h=>by simp [Q1f] at h
 |_::_,_::_,[],k,r,h=>by simp [Q1f] at h
theorem Q6l {o:Oper} {op:BinOp} {t t':TypeId} {x y:Operand} (ho:o.op = .binOp op t x y t') {g:Bool} {ev:Operand->AV} {hl:Nat->Option Ob} {k:Dl->Option R} {r:R} {a0 b0:List UInt8} (aw:ev x = .d (.str a0)) (aq:ev y = .d (.str b0))
  (h:Qbv g op a0 b0 (fun v=>k ⟨v,[],[]⟩)=some r):∃ dl,k dl=some r/\(g=true->Jn P E o ev hl dl):=by
 have au:x∈o.op.operands.toList:=by simp [ho,Op.operands]
 have ar:y∈o.op.operands.toList:=by simp [ho,Op.operands]
 have am:∀ (d:D) (v:ByteArray->ByteArray->Value),k ⟨.d d,[],[]⟩=some r->(g=true->∀ (s u:ByteArray) (w:World) (S:Nat->Prop),s.data.toList=a0->u.data.toList=b0->(Op.stringOp op s u).run P w = .ok (v s u) w/\Rd S w (v s u) d)->∃ dl,k dl=some r/\(g=true->Jn P E o ev hl dl):=by
  intro d v hk hr;refine ⟨_,hk,fun hg=>Qj fun β S st a w hR hO hA=>?_⟩;obtain ⟨s,hs,hx⟩:=(aw▸hO.at au).str_inv;obtain ⟨u,hu,hy⟩:=(aq▸hO.at ar).str_inv;obtain ⟨h1,h2⟩:=hr hg s u w S hs.symm hu.symm;refine ⟨_,MX ho hx hy (Ei ..) ?_,.d _ _ h2⟩;have:binOp op t (.string s) (.string u)=Op.stringOp op s u:=by cases op <;> simp [binOp,Op.stringOp]
  rw [this];exact h1
 cases op <;> simp only [Qbv,reduceCtorEq] at h
 ·obtain ⟨_,h,hp⟩:=Qt h;refine am _ (fun s u=>.string (s++u)) h fun hg s u w S hs hu=>⟨?_,?_⟩
  ·have hp:=hp hg;unfold Q5s at hp;cases hb:Nat.ble (a0.length+b0.length) 9223372036854775807 with
   |false=>rw [hb] at hp;cases hp
   |true=>
    have:=QcY hb;refine run_string_add_sum w s u ?_;rw [<- hs,<- hu,Qd3,Qd3] at this;exact this
  ·have:(s++u).data.toList=a0++b0:=by rw [<- hs,<- hu];simp [ByteArray.data_append]
   rw [<- this];exact .str _
 ·exact am _ (fun s u=>.bool (s.toList == u.toList)) h fun hg s u w S hs hu=>⟨by simp [Op.stringOp],by rw [QcZ,QcZ,hs,hu];exact .bool _⟩
 ·exact am _ (fun s u=>.bool (!(s.toList == u.toList))) h fun hg s u w S hs hu=>⟨by simp [Op.stringOp],by rw [QcZ,QcZ,hs,hu];exact .bool _⟩
 ·exact am _ (fun s u=>.bool (Op.bytesLess s.toList u.toList)) h fun hg s u w S hs hu=>⟨by simp [Op.stringOp],by rw [QcZ,QcZ,hs,hu];exact .bool _⟩
 ·exact am _ (fun s u=>.bool (Op.bytesLess s.toList u.toList||s.toList == u.toList)) h fun hg s u w S hs hu=>⟨by simp [Op.stringOp],by rw [QcZ,QcZ,hs,hu];exact .bool _⟩
 ·exact am _ (fun s u=>.bool (!(Op.bytesLess s.toList u.toList||s.toList == u.toList))) h fun hg s u w S hs hu=>⟨by simp [Op.stringOp],by rw [QcZ,QcZ,hs,hu];exact .bool _⟩
 ·exact am _ (fun s u=>.bool (!Op.bytesLess s.toList u.toList)) h fun hg s u w S hs hu=>⟨by simp [Op.stringOp],by rw [QcZ,QcZ,hs,hu];exact .bool _⟩
theorem Q6C {tt:TT} (hT:TOk P tt) {o:Oper} {op:BinOp} {t t':TypeId} {x y:Operand} (ho:o.op = .binOp op t x y t') {g:Bool} {ev:Operand->AV} {hl:Nat->Option Ob} {k:Dl->Option R} {r:R}
  (h:QbS g op (KB tt t) (Q8u tt t) (ev x) (ev y) (fun v=>k ⟨v,[],[]⟩)=some r):∃ dl,k dl=some r/\(g=true->Jn P E o ev hl dl):=by
 have aw:x∈o.op.operands.toList:=by simp [ho,Op.operands]
 have au:y∈o.op.operands.toList:=by simp [ho,Op.operands]
 unfold QbS at h;split at h
 ·rename_i ka a0 kb b0 am ak;have ao:∀ (d:Int),k ⟨.d (.int ka d),[],[]⟩=some r->(g=true->∀ w:World,(binOp op t (.int ka a0) (.int kb b0)).run P w = .ok (.int ka d) w)->∃ dl,k dl=some r/\(g=true->Jn P E o ev hl dl):=by
   intro d hk hr;refine ⟨_,hk,fun hg=>Qj fun β S st a w hR hO hA=>?_⟩;have hx:=(am▸hO.at aw).int_inv;have hy:=(ak▸hO.at au).int_inv;exact ⟨_,MX ho hx hy (Pg ..) (hr hg w),.d _ _ (.int _ _)⟩
  have bk:∀ {u:Unit},EO b0=some u->0<=b0:=by
   intro u hp;unfold EO at hp;by_cases h0:0<=b0
   ·exact h0
   ·simp [h0] at hp
  split at h
  ·obtain ⟨_,h,hp⟩:=Qt h;refine ao _ h fun hg w=>?_
   have h0:=bk (hp hg);have:¬ b0<0:=by omega
   simp [binOp,Op.shift,this,shL]
  ·obtain ⟨_,h,hp⟩:=Qt h;refine ao _ h fun hg w=>?_
   have h0:=bk (hp hg);have:¬ b0<0:=by omega
   simp [binOp,Op.shift,this,shR]
  ·rename_i b4 bx;cases hk:(ka == kb) with
   |false=>simp [hk] at h
   |true=>
    obtain rfl:ka=kb:=by simpa using hk
    simp only [hk,QcU] at h;split at h
    ·obtain ⟨_,h,hp⟩:=Qt h;refine ao _ h fun hg w=>?_
     have bc:¬ b0=0:=by
      intro e;subst e;simp [nz] at hp;exact absurd hp (by simp [hg])
     simp [binOp,Op.intDiv,bc]
    ·obtain ⟨_,h,hp⟩:=Qt h;refine ao _ h fun hg w=>?_
     have bc:¬ b0=0:=by
      intro e;subst e;simp [nz] at hp;exact absurd hp (by simp [hg])
     simp [binOp,Op.intDiv,bc]
    ·exact ao _ h fun hg w=>by simp [binOp,Op.intBits,Q3f]
    ·exact ao _ h fun hg w=>by simp [binOp,Op.intBits,bOr]
    ·exact ao _ h fun hg w=>by simp [binOp,Op.intBits,QaO]
    ·exact ao _ h fun hg w=>by simp [binOp,Op.intBits,Q4v]
    ·split at h
     ·rename_i d hd;refine ⟨_,h,fun hg=>Qj fun β S st a w hR hO hA=>?_⟩;have hx:=(am▸hO.at aw).int_inv;have hy:=(ak▸hO.at au).int_inv;obtain ⟨v,hv,hr⟩:=Q4h (P:=P) hd t w S;exact ⟨v,MX ho hx hy (Pg ..) hv,.d _ _ hr⟩
     ·cases h
 ·rename_i a0 b0 am ak;split at h
  ·rename_i a9;obtain ⟨ti,aq,ax⟩:=Xh a9 (by simp);have hu:=(hT t ti aq).kbool ax;refine ⟨_,h,fun hg=>Qj fun β S st a w hR hO hA=>?_⟩;have hx:=(am▸hO.at aw).bool_inv;have hy:=(ak▸hO.at au).bool_inv;exact ⟨.bool (a0 == b0),MX ho hx hy (TQ ..) (AW hu ..),.d _ _ (.bool _)⟩
  ·rename_i a9;obtain ⟨ti,aq,ax⟩:=Xh a9 (by simp);have hu:=(hT t ti aq).kbool ax;refine ⟨_,h,fun hg=>Qj fun β S st a w hR hO hA=>?_⟩;have hx:=(am▸hO.at aw).bool_inv;have hy:=(ak▸hO.at au).bool_inv;exact ⟨.bool (!(a0 == b0)),MX ho hx hy (TQ ..) (Q1b hu ..),.d _ _ (.bool _)⟩
  ·cases h
 ·rename_i a0 b0 am ak;exact Q6l ho am ak h
 ·rename_i xs ys am ak;split at h
  case h_2=>cases h
  rename_i ks a7;obtain ⟨ti,aq,bo⟩:∃ ti,look tt t=some ti/\ti.eqk=some ks:=by
   unfold Q8u at a7;split at a7
   ·rename_i ti aq;exact ⟨ti,aq,a7⟩
   ·cases a7
  have hE:=(hT t ti aq).keq ks bo;have bj:∀ (c:Bool->Bool) (bs:List Bool),k ⟨.d (.bool (c (Q6p bs))),[],[]⟩=some r->bs.length=ks.length->xs.length=ks.length->ys.length=ks.length ->
    (∀ (u v:Array Value) (w:World) (b:Bool),(Op.equalIn 10000 t (.agg u) (.agg v)).run P w = .ok b w->(binOp op t (.agg u) (.agg v)).run P w = .ok (.bool (c b)) w) ->
    (g=true->∀ (β:Nat->Option Nat) (S:Nat->Prop) (h:Nat->Option Ob) (w:World) (tm:Nat->Value) (us vs:Nat->Value),(∀ (i:Nat) (x:AV),xs[i]? = some x->RdA β S h w tm (us i) x)->(∀ (i:Nat) (x:AV),ys[i]? = some x->RdA β S h w tm (vs i) x) ->
     ∀ (j:Nat) (kd:Kd) (b:Bool),ks[j]? = some kd->bs[j]? = some b->CEq kd (us j) (vs j) b)->∃ dl,k dl=some r/\(g=true->Jn P E o ev hl dl):=by
   intro c bs hk h2 h3 h4 bi h5;refine ⟨_,hk,fun hg=>Qj fun β S st a w hR hO hA=>?_⟩;obtain ⟨us,hx,b6,br⟩:=(am▸hO.at aw).ag_inv;obtain ⟨vs,hy,b2,bm⟩:=(ak▸hO.at au).ag_inv;obtain ⟨e1,e2⟩:=hE w us vs bs (by omega) (by omega) h2 (h5 hg β S _ w _ (fun j=>us.getD j undef) (fun j=>vs.getD j undef) br bm);refine ⟨.bool (c (Q6p bs)),MX ho hx hy (run_eqGuard_agg w op t x y us vs e2) ?_,.d _ _ (.bool _)⟩;rw [Q3t];exact bi us vs w _ e1
  split at h
  ·obtain ⟨bs,h1,h2,h3,h4,h5⟩:=Ez h;exact bj (fun b=>b) bs h1 h2 h3 h4 (fun u v w b hb=>by rw [run_eql_struct,hb];rfl) h5
  ·obtain ⟨bs,h1,h2,h3,h4,h5⟩:=Ez h;exact bj (fun b=>!b) bs h1 h2 h3 h4 (fun u v w b hb=>by rw [run_neq_struct,hb];rfl) h5
  ·cases h
 ·cases h
theorem Q1h {tt:TT} (hT:TOk P tt) {o:Oper} {s t:TypeId} {x:Operand} (ho:o.op = .convert s t x) {ev:Operand->AV} {hl:Nat->Option Ob} {ks kd kn:IntKind} {n:Int}
  (hs:KB tt s = .int ks) (ht:KB tt t = .int kd) (hx:ev x = .d (.int kn n)):Jn P E o ev hl ⟨.d (.int kd (kd.wrap n)),[],[]⟩:=by
 obtain ⟨ti,au,ar⟩:=Xh hs (by simp);obtain ⟨an,am,ak⟩:=Xh ht (by simp);have aq:=(hT s ti au).kint _ ar;have ao:=(hT t an am).kint _ ak;refine Qj fun β S st a w hR hO hA=>?_
 have hv:=(hx▸hO.at (x:=x) (by simp [ho,Op.operands])).int_inv;refine ⟨_,?_,.d _ _ (.int _ _)⟩;unfold execOp;rw [ho];simp [convert,QI aq,QI ao,hv,Conv.intToInt]
theorem BX {tt:TT} (hT:TOk P tt) {o:Oper} {s t:TypeId} {x:Operand} (ho:o.op = .convert s t x) {ev:Operand->AV} {hl:Nat->Option Ob} {n:List UInt8}
  (hs:KB tt s = .str) (ht:KB tt t = .str) (hx:ev x = .d (.str n)):Jn P E o ev hl ⟨.d (.str n),[],[]⟩:=by
 obtain ⟨ti,au,ar⟩:=Xh hs (by simp);obtain ⟨an,am,ak⟩:=Xh ht (by simp);have aq:=(hT s ti au).kstr ar;have ao:=(hT t an am).kstr ak;refine Qj fun β S st a w hR hO hA=>?_
 obtain ⟨bs,hn,hv⟩:=(hx▸hO.at (x:=x) (by simp [ho,Op.operands])).str_inv;refine ⟨.string bs,?_,.d _ _ (by rw [hn];exact .str _)⟩;unfold execOp;rw [ho];simp [convert,QI aq,QI ao,hv]
theorem Q0l {o:Oper} {x:Operand} {i:Nat} (ho:o.op = .extract x i) {ev:Operand->AV} {hl:Nat->Option Ob} {l:List AV} {v:AV} (hx:ev x = .tup l) (hv:l[i]? = some v) :
  Jn P E o ev hl ⟨v,[],[]⟩:=by
 refine Qj fun β S st a w hR hO hA=>?_
 obtain ⟨cs,he,aq,hr⟩:=(hx▸hO.at (x:=x) (by simp [ho,Op.operands])).tup_inv;refine ⟨_,?_,hr i v hv⟩;have ak:i<cs.size:=by
  obtain ⟨h6,_⟩:=QcO.1 hv;omega
 have hg:=Ua ak;unfold execOp;rw [ho];simp only [Instr.extract,he,hg,QcT];rfl
theorem Q4B {o:Oper} {s:Nat} {x y:Operand} (ho:o.op = .pick (.tmp s) x y) {ev:Operand->AV} {hl:Nat->Option Ob} {e a0 b0:Bool}
  (he:ev (.tmp s) = .d (.bool e)) (hx:unw [(s,true)] (ev x) = .d (.bool a0)) (hy:unw [(s,false)] (ev y) = .d (.bool b0)) :
  Jn P E o ev hl ⟨.d (.bool (bif e then a0 else b0)),[],[]⟩:=by
 refine Qj fun β S st a w hR hO hA=>?_
 have hc:=(he▸hO.at (x:=.tmp s) (by simp [ho,Op.operands])).bool_inv;have hX:=hO.at (x:=x) (by simp [ho,Op.operands]);have hY:=hO.at (x:=y) (by simp [ho,Op.operands]);have an:∀ (z:Operand) (t c:Bool),unw [(s,t)] (ev z) = .d (.bool c)->RdA β S (look st.h) w (tmv a) (a.eval z) (ev z)->e=t->a.eval z = .bool c:=by
  intro z t c hu hz au;cases am:ev z with
  |gd s' w' av=>
   rw [am] at hu hz;simp only [unw,Q8Q,Bool.or_false] at hu;cases hm:(Nat.beq s s'&&(t == w')) with
   |false=>simp [hm] at hu
   |true=>
    simp only [hm,QcU] at hu;simp only [QcP,beq_iff_eq] at hm;obtain ⟨h1,rfl⟩:=hm;obtain rfl:=QcR h1;subst hu;have aw:tmv a s = .bool t:=by
     have:tmv a s=a.eval (.tmp s):=rfl;rw [this,hc,au]
    rcases hz.gd_inv with ⟨_,hv⟩ | ⟨aq,_⟩
    ·exact hv.bool_inv
    ·exact absurd aw aq
  |d x'=>rw [am] at hu hz;simp only [unw] at hu;rw [hu] at hz;exact hz.bool_inv
  |_=>rw [am] at hu;simp [unw] at hu
 refine ⟨.bool (bif e then a0 else b0),?_,.d _ _ (.bool _)⟩;unfold execOp;rw [ho];cases e with
 |true=>simp [hc,asBool,an x true a0 hx hX rfl]
 |false=>simp [hc,asBool,an y false b0 hy hY rfl]
theorem Q4N {kd:Kd} (h:Tp kd=true):kd = .struct:=by cases kd <;> simp [Tp] at h;rfl
theorem Q2E {tt:TT} (hT:TOk P tt) {t f off ft:Nat} {ti:TyI} (an:look tt t=some ti) (hs:Tp ti.kd=true) (hf:ti.fields[f]? = some (off,ft)) :
  ∃ fs fd,P.underlying t=some (.struct fs)/\fs[f]? = some fd/\fd.offset=off/\fd.type=ft/\∃ i,P.info? fd.type=some i/\i.size≠0:=by
 obtain ⟨fs,hu,ao,aq⟩:=(hT t ti an).kstruct (Q4N hs);rw [<- ao,QcW,QcS] at hf;obtain ⟨fd,ak,he⟩:=hf;injection he with he1 he2
 exact ⟨fs,fd,hu,by simpa using ak,he1,he2,aq fd (Qd0 ak)⟩
theorem DR {tt:TT} (hT:TOk P tt) {o:Oper} {t:TypeId} {x:Operand} {f:Nat} (ho:o.op = .fieldAddr t x f) {ev:Operand->AV} {hl:Nat->Option Ob} {k:Dl->Option R} {r:R}
  (h:L7 tt hl t f (ev x) k=some r):∃ dl,k dl=some r/\Jn P E o ev hl dl:=by
 have an:x∈o.op.operands.toList:=by simp [ho,Op.operands]
 unfold L7 at h;split at h
 case h_2=>cases h
 rename_i ti ay;cases hs:Tp ti.kd with
 |false=>simp [hs] at h
 |true=>
  simp only [hs,QcU] at h;split at h
  case h_2=>cases h
  rename_i off ft hf;obtain ⟨fs,fd,hu,a6,au,_,i,hi,aw⟩:=Q2E hT ay hs hf;have am:∀ (a:Act) (w:World) (ad:Addr),a.eval x = .pointer (some ad)->(execOp a.eval o).run P w = .ok (.value (.pointer (some (ad.add off)))) w:=by
   intro a w ad hx;unfold execOp;rw [ho];simp [Instr.fieldAt,QI hu,a6,Instr.sureAddr,hx,fieldPlace,sizeOf,XU hi,aw,au]
  split at h
  ·rename_i l o' ak;refine ⟨_,h,Qj fun β S st a w hR hO hA=>?_⟩;obtain ⟨b,hb,hx⟩:=(ak▸hO.at an).ptr_inv;exact ⟨_,am a w _ hx,by rw [Gc];exact .ptr _ _ _ hb⟩
  ·rename_i row o' ak;refine ⟨_,h,Qj fun β S st a w hR hO hA=>?_⟩;obtain ⟨ad,c,hx,hS,hc,hr⟩:=(ak▸hO.at an).el_inv;refine ⟨_,am a w _ hx,.el _ _ _ (fun j=>c (off+j)) (by rw [V2];exact hS) (fun j y hy=>?_) (fun j y hy=>?_)⟩
   ·rw [Eh];exact hc (off+j) y (by rw [<- Nat.add_assoc];exact hy)
   ·exact hr (off+j) y (by rw [<- Nat.add_assoc];exact hy)
  ·rename_i l i' o' ak;split at h
   ·rename_i e s rows aq;refine ⟨_,h,Qj fun β S st a w hR hO hA=>?_⟩;have ar:look st.h l=some (.arr e s rows):=by rw [hA l (.inl (by simp))];exact aq
    obtain ⟨b,hb,hx⟩:=RdA.ap_inv ar (ak▸hO.at an);exact ⟨_,am a w _ hx,by rw [Gc,Nat.add_assoc];exact .ap _ _ _ _ _ _ _ hb ar⟩
   ·cases h
  ·cases h
theorem Aq {t:Nat} {ti:TyI} (ht:TyOk P t ti) (hs:Uf ti.kd=false) {w:World} {cs:Array Value} {off:Nat} {v:Value} (hc:cs[off]? = some v) :
  (part t cs off).run P w = .ok v w:=by
 simp only [part,QcT,ht.agg,hs,QcQ,Bool.false_eq_true,if_false,hc];rfl
theorem Au {t:Nat} {ti:TyI} (ht:TyOk P t ti) (hs:Uf ti.kd=true) {w:World} {cs:Array Value} {off:Nat} :
  (part t cs off).run P w = .ok (.agg (cs.extract off (off+ti.size))) w:=by
 simp only [part,QcT,ht.agg,hs,QcQ,if_true,ht.size];rfl
theorem Q47 {tt:TT} (hT:TOk P tt) {o:Oper} {t:TypeId} {x:Operand} {f:Nat} (ho:o.op = .field t x f) {g:Bool} {ev:Operand->AV} {hl:Nat->Option Ob} {k:Dl->Option R} {r:R}
  (h:Q5Y tt g t f (ev x) k=some r):∃ dl,k dl=some r/\(g=true->Jn P E o ev hl dl):=by
 have aq:x∈o.op.operands.toList:=by simp [ho,Op.operands]
 unfold Q5Y at h;split at h
 case h_2=>cases h
 rename_i ti bc;cases hs:Tp ti.kd with
 |false=>simp [hs] at h
 |true=>
  simp only [hs,QcU] at h;split at h
  case h_2=>cases h
  rename_i off ft hf;obtain ⟨fs,fd,hu,bi,ay,bg,i,hi,bn⟩:=Q2E hT bc hs hf;split at h
  case h_2=>cases h
  rename_i fi bh;have an:=hT ft fi bh;split at h
  case h_2=>cases h
  rename_i cells au;have ao:∀ (a:Act) (w:World) (cs:Array Value) (v:Value),a.eval x = .agg cs->(part ft cs off).run P w = .ok v w->(execOp a.eval o).run P w = .ok (.value v) w:=by
   intro a w cs v hx hp;unfold execOp;rw [ho];simp [Instr.field,QI hu,bi,hx,asAgg,ay,bg,hp]
  cases am:Uf fi.kd with
  |true=>
   simp only [am,QcU] at h;split at h
   ·rename_i cs bd;refine ⟨_,h,fun _=>Qj fun β S st a w hR hO hA=>?_⟩;obtain ⟨vs,hx,a8,hr⟩:=(au▸hO.at aq).ag_inv;obtain ⟨h1,h2,h3⟩:=TC bd;refine ⟨_,ao a w vs _ hx (Au an am),?_⟩;have ax:fi.size=0\/off+fi.size<=vs.size:=by
     rcases Nat.eq_zero_or_pos fi.size with h0 | h0
     ·exact .inl h0
     ·right;have h4:=h2 (fi.size-1) (by omega);have h5:cs[fi.size-1]? = some (cs[fi.size-1]'(by omega)):=Qd1 (by omega);rw [h5] at h4;obtain ⟨h6,_⟩:=QcO.1 h4;omega
    refine .ag _ _ (by rw [h1,Array.size_extract];rcases ax with h | h <;> omega) fun j y hy=>?_
    have hj:j<fi.size:=by obtain ⟨h6,_⟩:=QcO.1 hy;omega
    have:=hr (off+j) y ((h2 j hj).trans hy);have he:(vs.extract off (off+fi.size)).getD j undef=vs.getD (off+j) undef:=by
     have ar:off+j<vs.size:=by rcases ax with h | h <;> omega
     have aw:j<(vs.extract off (off+fi.size)).size:=by rw [Array.size_extract];omega
     simp only [Array.getD,ar,aw,dite_true];simp
    rw [he];exact this
   ·cases h
  |false=>
   simp only [am,cond_false] at h;split at h
   ·rename_i c hc;obtain ⟨v,a9,a6,_⟩:=FY h;refine ⟨_,a9,fun hg=>Qj fun β S st a w hR hO hA=>?_⟩;obtain ⟨vs,hx,a8,hr⟩:=(au▸hO.at aq).ag_inv;have ar:off<vs.size:=by obtain ⟨h6,_⟩:=QcO.1 hc;omega
    exact ⟨_,ao a w vs _ hx (Aq an am (Ua ar)),by rw [a6 hg];exact hr off c hc⟩
   ·cases h
end

section
variable {P:Program} {E:Env} {R:Type}
theorem Rd.sl_inv {S:Nat->Prop} {w:World} {v:Value} {s:Nat} {rows:List (List D)} (h:Rd S w v (.sl s rows)) :
  (rows=[]/\∃ a cap,v = .slice a 0 cap)\/∃ (ad:Addr) (cap:Nat) (c:Nat->Nat->Value),v = .slice (some ad) rows.length cap/\S ad.block/\rows.length<=cap/\(∀ (i:Nat) (r:List D),rows[i]? = some r->r.length=s) /\
   (∀ (i j:Nat) (r:List D) (x:D),rows[i]? = some r->r[j]? = some x->w.cell? (ad.add (i*s+j))=some (c i j))/\∀ (i j:Nat) (r:List D) (x:D),rows[i]? = some r->r[j]? = some x->Rd S w (c i j) x:=by
 cases h with
 |sl0 a cap=>exact .inl ⟨rfl,a,cap,rfl⟩
 |sl ad cap _ _ c hS ak am hc hr=>exact .inr ⟨ad,cap,c,rfl,hS,ak,am,hc,hr⟩
theorem Rd.len {S:Nat->Prop} {w:World} {v:Value} {s:Nat} {rows:List (List D)} (h:Rd S w v (.sl s rows)):∃ a cap,v = .slice a rows.length cap:=by
 rcases h.sl_inv with ⟨rfl,a,cap,rfl⟩ | ⟨ad,cap,_,rfl,_⟩
 ·exact ⟨a,cap,rfl⟩
 ·exact ⟨some ad,cap,rfl⟩
theorem Md {rows:List (List D)} {n:Int} {row:List D} (h:Q2 rows n=some row):0<=n/\n<rows.length/\rows[n.toNat]? = some row:=by
 unfold Q2 at h;cases hd:decide (0<=n) with
 |false=>simp [hd] at h
 |true=>
  simp only [hd,QcU] at h;obtain ⟨ak,_⟩:=QcO.1 h;have:0<=n:=by simpa using hd
  exact ⟨this,by omega,h⟩
theorem Q39 {len:Nat} {n:Int} {u:Unit} (h:inB len n=some u):0<=n/\n<len:=by
 unfold inB at h;cases hd:(decide (0<=n)&&decide (n<len)) with
 |false=>simp [hd] at h
 |true=>simpa using hd
theorem M5 {tt:TT} (hT:TOk P tt) {o:Oper} {t:TypeId} {x i:Operand} (ho:o.op = .indexAddr t x i) {e am:Nat} (hk:KB tt t = .sl e am) {a:Act} {w:World} {ad:Addr} {len cap:Nat} {ik:IntKind} {n:Int}
  (hx:a.eval x = .slice (some ad) len cap) (hi:a.eval i = .int ik n) (h0:0<=n) (h1:n<len) :
  (execOp a.eval o).run P w = .ok (.value (.pointer (some (ad.add (n.toNat*am))))) w:=by
 obtain ⟨ti,aq,an⟩:=Xh hk (by simp);obtain ⟨hu,_,inf,ak,ao⟩:=(hT t ti aq).ksl _ _ an;unfold execOp;rw [ho];simp [Instr.indexAt,hx,hi,asIntOf,QI hu,h0,h1,sizeOf,XU ak,ao]
theorem DW {tt:TT} (hT:TOk P tt) {o:Oper} {t:TypeId} {x i:Operand} (ho:o.op = .indexAddr t x i) {g:Bool} {ev:Operand->AV} {hl:Nat->Option Ob} {k:Dl->Option R} {r:R}
  (h:MR tt g hl t (ev x) (ev i) k=some r):∃ dl,k dl=some r/\(g=true->Jn P E o ev hl dl):=by
 have ao:x∈o.op.operands.toList:=by simp [ho,Op.operands]
 have au:i∈o.op.operands.toList:=by simp [ho,Op.operands]
 unfold MR at h;split at h
 case h_2=>cases h
 rename_i e ay ik n hk ax;split at h
 ·rename_i s rows am;cases hb:Nat.beq s ay with
  |false=>simp [hb] at h
  |true=>
   obtain rfl:=QcR hb;simp only [hb,QcU] at h;obtain ⟨row,h,ak⟩:=Qt h;refine ⟨_,h,fun hg=>Qj fun β S st a w hR hO hA=>?_⟩;obtain ⟨h0,h1,h2⟩:=Md (ak hg);have hi:=(ax▸hO.at au).int_inv;rcases (am▸hO.at ao).d_inv.sl_inv with ⟨rfl,_⟩ | ⟨ad,cap,c,hx,hS,_,bc,hc,hr⟩
   ·simp at h2
   refine ⟨_,M5 hT ho hk hx hi h0 h1,.el _ _ _ (fun j=>c n.toNat j) (by rw [V2];exact hS) (fun j y hy=>?_) (fun j y hy=>?_)⟩
   ·rw [Eh];exact hc n.toNat j row y h2 (by simpa using hy)
   ·exact hr n.toNat j row y h2 (by simpa using hy)
 ·rename_i l am;split at h
  ·rename_i e' s rows ar;cases hb:Nat.beq s ay with
   |false=>simp [hb] at h
   |true=>
    obtain rfl:=QcR hb;simp only [hb,QcU] at h;obtain ⟨u,h,a6⟩:=Qt h;refine ⟨_,h,fun hg=>Qj fun β S st a w hR hO hA=>?_⟩;obtain ⟨h0,h1⟩:=Q39 (a6 hg);have hi:=(ax▸hO.at au).int_inv;have aw:look st.h l=some (.arr e' s rows):=by rw [hA l (.inl (by simp))];exact ar
    rcases RdA.arr_inv aw (am▸hO.at ao) with ⟨_,rfl,_⟩ | ⟨b,cap,cs,ty,fz,a8,hx,_⟩
    ·simp at h1;omega
    refine ⟨_,M5 hT ho hk hx hi h0 h1,?_⟩;rw [Gc,Nat.zero_add];exact .ap l n.toNat 0 b e' s rows a8 aw
  ·cases h
 ·obtain ⟨row,h,ak⟩:=Qt h;refine ⟨_,h,fun hg=>?_⟩;obtain ⟨_,h1,_⟩:=Md (ak hg);simp at h1;have:=(Md (ak hg)).1;omega
 ·cases h
theorem GJ {tt:TT} (hT:TOk P tt) {o:Oper} {c:Call} {x:Operand} {t:Nat} {e ao:Nat} (ho:o.op = .call c) (hc:c.callee = .builtin .len) (ha:c.args.toList=[x]) (hat:c.argTypes.toList=[t]) (hk:KB tt t = .sl e ao)
  {a:Act} {w:World} {ad:Option Addr} {len cap:Nat} (hx:a.eval x = .slice ad len cap):(execOp a.eval o).run P w = .ok (.value (.int .i64 len)) w:=by
 obtain ⟨ti,an,am⟩:=Xh hk (by simp);obtain ⟨hu,_⟩:=(hT t ti an).ksl _ _ am;have aq:c.args = #[x]:=by rw [<- Qd7];simpa using ha
 have ak:c.argTypes = #[t]:=by rw [<- Qd7];simpa using hat
 unfold execOp;rw [ho];simp [resolve,hc,aq,ak,invoke,builtin,Builtin.len_,hx,QI hu,goInt]
theorem Q1N {tt:TT} (hT:TOk P tt) {o:Oper} {c:Call} {x:Operand} {t:Nat} (ho:o.op = .call c) (hc:c.callee = .builtin .len) (ha:c.args.toList=[x]) (hat:c.argTypes.toList=[t]) (hk:KB tt t = .str)
  {a:Act} {w:World} {s:ByteArray} (hx:a.eval x = .string s):(execOp a.eval o).run P w = .ok (.value (.int .i64 s.size)) w:=by
 obtain ⟨ti,ao,an⟩:=Xh hk (by simp);have hu:=(hT t ti ao).kstr an;have am:c.args = #[x]:=by rw [<- Qd7];simpa using ha
 have ak:c.argTypes = #[t]:=by rw [<- Qd7];simpa using hat
 unfold execOp;rw [ho];simp [resolve,hc,am,ak,invoke,builtin,Builtin.len_,hx,QI hu,goInt]
theorem Q1Y {tt:TT} (hT:TOk P tt) {o:Oper} {c:Call} {x:Operand} {t:Nat} {e aq:Nat} (ho:o.op = .call c) (hc:c.callee = .builtin .cap) (ha:c.args.toList=[x]) (hat:c.argTypes.toList=[t]) (hk:KB tt t = .sl e aq)
  {a:Act} {w:World} (hx:a.eval x = .slice none 0 0):(execOp a.eval o).run P w = .ok (.value (.int .i64 0)) w:=by
 obtain ⟨ti,ao,an⟩:=Xh hk (by simp);obtain ⟨hu,_⟩:=(hT t ti ao).ksl _ _ an;have am:c.args = #[x]:=by rw [<- Qd7];simpa using ha
 have ak:c.argTypes = #[t]:=by rw [<- Qd7];simpa using hat
 unfold execOp;rw [ho];simp [resolve,hc,am,ak,invoke,builtin,Builtin.cap_,hx,QI hu,goInt]
end

section
variable {E:Env} {β β':Nat->Option Nat} {S S':Nat->Prop} {st:St} {a:Act} {w w':World}
theorem Q58 {l t:Nat} {tm:List (Nat × AV)} {av:AV} (h:look tm t=some av) (hn:ZL l av=true):LC l tm=true:=by
 induction tm with
 |nil=>simp [look] at h
 |cons x r ih=>
  obtain ⟨k,b⟩:=x;simp only [look] at h;cases hk:Nat.beq k t with
  |true=>simp [hk] at h;subst h;simp [LC,hn]
  |false=>simp [hk] at h;simp [LC,ih h]
theorem Q4z {l t:Nat} {hs:List (Nat × Ob)} {cells:List AV} (h:look hs t=some (.box cells)) (hn:Vy l cells=true):UT l hs=true:=by
 induction hs with
 |nil=>simp [look] at h
 |cons x r ih=>
  obtain ⟨k,b⟩:=x;simp only [look] at h;cases hk:Nat.beq k t with
  |true=>simp [hk] at h;subst h;simp [UT,hn]
  |false=>simp [hk] at h;cases b <;> simp [UT,ih h]
theorem Q3j {l t:Nat} {av:AV} (hc:Wn st l=true) (h:look st.tm t=some av):ZL l av=false:=by
 cases hn:ZL l av with
 |false=>rfl
 |true=>simp [Wn,Q58 h hn] at hc
theorem Q5I {l t i:Nat} {cells:List AV} {x:AV} (hc:Wn st l=true) (h:look st.h t=some (.box cells)) (hx:cells[i]? = some x):ZL l x=false:=by
 cases hn:ZL l x with
 |false=>rfl
 |true=>simp [Wn,Q4z h (PJ hx hn)] at hc
theorem Keep.rfl_ (β:Nat->Option Nat) (h:Nat->Option Ob) (w:World) (l:Nat):Keep β h w β h w l:=
 ⟨rfl,fun x=>x,fun _ _ rows hh=>.inr ⟨rows,hh,rfl⟩,fun _ cs ty fz _ _ hw=>⟨cs,ty,fz,hw,rfl⟩,fun _ f hh=>.inr ⟨f,hh⟩⟩
theorem Rel.upd (hR:Rel E β S st a w) {H':List (Nat × Ob)} (an:∀ b,S b->S' b) (ar:∀ b,S b->w'.heap[b]? = w.heap[b]?) (T:Nat->Prop)
  (hT:∀ l,¬ T l->β' l=β l/\look H' l=look st.h l/\∀ b,(look st.h l).isSome=true->β l=some b->w'.heap[b]? = w.heap[b]?)
  (ay:∀ l,T l->Keep β (look st.h) w β' (look H') w' l\/Wn st l=true)
  (bd:∀ l o,T l->look H' l=some o->ObR β' S' (look H') w' l o)
  (inj:∀ l l' b,(look H' l).isSome=true->(look H' l').isSome=true->β' l=some b->β' l'=some b->l=l')
  (apart:∀ l b,(look H' l).isSome=true->β' l=some b->¬ S' b)
  (own:∀ l b,(look H' l).isSome=true->β' l=some b->E.M b\/E.w0.heap.size<=b)
  (sb:∀ b,S' b->b<w'.heap.size) (sfr:∀ b,S' b->E.S0 b\/E.M b\/E.w0.heap.size<=b) (fr:Fr E.M E.w0 w') :
  Rel E β' S' ⟨st.n,st.tm,H'⟩ a w':=by
 have ak:∀ l,Keep β (look st.h) w β' (look H') w' l\/Wn st l=true:=by
  intro l;by_cases hl:T l
  ·exact ay l hl
  ·obtain ⟨h1,h2,h3⟩:=hT l hl;exact .inl ⟨h1,fun h=>by rw [h2];exact h,fun e s rows h=>.inr ⟨rows,by rw [h2];exact h,rfl⟩,fun b cs ty fz hs hb hw=>⟨cs,ty,fz,by rw [h3 b (by rw [<- h2];exact hs) hb];exact hw,rfl⟩,fun _ f h=>.inr ⟨f,by rw [h2];exact h⟩⟩
 have hA:∀ (tm:Nat->Value) (v:Value) (av:AV),(∀ l,Wn st l=true->ZL l av=false)->RdA β S (look st.h) w tm v av->RdA β' S' (look H') w' tm v av:=by
  intro tm v av hc hv;refine hv.mono an ar (fun l hn=>?_) (fun _ _=>rfl);rcases ak l with h | h
  ·exact h
  ·rw [hc l h] at hn;cases hn
 refine ⟨hR.n,hR.dfr,fun t av ht=>hA _ _ _ (fun l hc=>Q3j hc ht) (hR.tm t av ht),⟨?_,inj,apart,own,sb,sfr,fun b hb=>an b (hR.hr.s0 b hb),fr,fun l hp=>?_,fun l b hp hs hb cs ty fz hw=>?_⟩⟩
 rotate_left
 ·refine Eq.trans ?_ (hR.hr.pin l hp);rcases ak l with h | h
  ·exact h.b
  ·simp only [Wn,QcP] at h;have:=QcY h.1;omega
 ·rcases ak l with h | h
  ·have ax:(look st.h l).isSome=true:=by
    cases hx:look st.h l with
    |some o=>rfl
    |none=>rw [h.none_ hx] at hs;cases hs
   rw [h.b] at hb;obtain ⟨a7,a8,fz1,g1,g2⟩:=hR.hr.psz l b hp ax hb cs ty fz hw;obtain ⟨au,bc,bg,g3,g4⟩:=h.cells b a7 a8 fz1 hs hb g1;exact ⟨au,bc,bg,g3,g4.trans g2⟩
  ·simp only [Wn,QcP] at h;have:=QcY h.1;omega
 intro l o ho;by_cases hl:T l
 ·exact bd l o hl ho
 ·obtain ⟨h1,h2,h3⟩:=hT l hl;rw [h2] at ho;have am:=hR.hr.ob l o ho;cases o with
  |box cells=>
   obtain ⟨b,ty,cs,fz,hb,hw,hf,aq,hr⟩:=am;exact ⟨b,ty,cs,fz,h1.trans hb,(h3 b (by simp [ho]) hb).trans hw,hf,aq,fun i x hx=>hA _ _ _ (fun l' hc=>Q5I hc ho hx) (hr i x hx)⟩
  |arr e s rows=>
   rcases am with ⟨hb,hn⟩ | ⟨b,cs,hb,hw,aq,a6,hr⟩
   ·exact .inl ⟨h1.trans hb,hn⟩
   ·refine .inr ⟨b,cs,h1.trans hb,(h3 b (by simp [ho]) hb).trans hw,aq,a6,fun i j r x h4 h5=>?_⟩;obtain ⟨v,hv,aw⟩:=hr i j r x h4 h5;exact ⟨v,hv,aw.mono an ar⟩
  |mp t f=>
   obtain ⟨b,hb,hm⟩:=am;exact ⟨b,h1.trans hb,hm.same (h3 b (by simp [ho]) hb)⟩
theorem P4 (hR:Rel E β S st a w) {l b:Nat} (hs:(look st.h l).isSome=true) (hb:β l=some b):b<w.heap.size:=by
 cases ho:look st.h l with
 |none=>simp [ho] at hs
 |some o=>
  have am:=hR.hr.ob l o ho;have:∃ c,w.heap[b]? = some c:=by
   cases o with
   |box cells=>
    obtain ⟨b',ty,cs,fz,ak,hw,_⟩:=am;rw [hb] at ak;injection ak with e;subst e
    exact ⟨_,hw⟩
   |arr e s rows=>
    rcases am with ⟨ak,_⟩ | ⟨b',cs,ak,hw,_⟩
    ·rw [hb] at ak;cases ak
    ·rw [hb] at ak;injection ak with e;subst e
     exact ⟨_,hw⟩
   |mp t f=>
    obtain ⟨b',ak,es,ao,hw,_⟩:=am;rw [hb] at ak;injection ak with e;subst e
    exact ⟨_,hw⟩
  obtain ⟨c,hc⟩:=this;rcases Nat.lt_or_ge b w.heap.size with h | h
  ·exact h
  ·rw [Array.getElem?_eq_none h] at hc;cases hc
theorem YI (w:World) (o:Obj) {b:Nat} (h:b<w.heap.size):(w.alloc o).heap[b]? = w.heap[b]?:=by
 show (w.heap.push o)[b]? = _;rw [Array.getElem?_push,QcX (by omega)]
theorem UG (w:World) (o:Obj):(w.alloc o).heap[w.heap.size]? = some o:=by
 show (w.heap.push o)[w.heap.size]? = _;simp
theorem Q3z {M:Nat->Prop} {w0 w:World} (h:Fr M w0 w) (o:Obj):Fr M w0 (w.alloc o):=
 h.trans ⟨rfl,rfl,rfl,by show w.heap.size<=(w.heap.push o).size;simp,fun b hb _=>YI w o hb⟩
def Ty (β:Nat->Option Nat) (l:Nat) (b:Option Nat):Nat->Option Nat:=fun k=>if k=l then b else β k
theorem Rel.new (hR:Rel E β S st a w) {l:Nat} {o:Ob} {ak:Obj} (hn:look st.h l=none) (hc:Wn st l=true)
  (ao:ObR (Ty β l (some w.heap.size)) S (look ((l,o)::rem l st.h)) (w.alloc ak) l o) :
  Rel E (Ty β l (some w.heap.size)) S ⟨st.n,st.tm,(l,o)::rem l st.h⟩ a (w.alloc ak):=by
 have am:∀ k,look ((l,o)::rem l st.h) k=if k=l then some o else look st.h k:=fun k=>ZM l k o st.h
 refine hR.upd (fun _ h=>h) (fun b hb=>YI w ak (hR.hr.sb b hb)) (fun k=>k=l) (fun k hk=>?_) (fun k hk=>.inr (hk▸hc)) (fun k o' hk ho=>?_) ?_ ?_ ?_ ?_ hR.hr.sfr (Q3z hR.hr.fr ak)
 ·exact ⟨by simp [Ty,hk],by rw [am,QcX hk],fun b hs hb=>YI w ak (P4 hR hs hb)⟩
 ·subst hk;rw [am,Qd6 rfl] at ho;injection ho with ho
  subst ho;exact ao
 ·intro k k' b h1 h2 h3 h4;rw [am] at h1 h2;unfold Ty at h3 h4;by_cases e:k=l <;> by_cases e':k'=l
  ·rw [e,e']
  ·exfalso;rw [Qd6 e] at h3;rw [QcX e'] at h4 h2;injection h3 with h3
   have:=P4 hR h2 h4;omega
  ·exfalso;rw [Qd6 e'] at h4;rw [QcX e] at h3 h1;injection h4 with h4
   have:=P4 hR h1 h3;omega
  ·rw [QcX e] at h3 h1;rw [QcX e'] at h4 h2;exact hR.hr.inj k k' b h1 h2 h3 h4
 ·intro k b h1 h2 hS;rw [am] at h1;unfold Ty at h2;by_cases e:k=l
  ·rw [Qd6 e] at h2;injection h2 with h2
   have:=hR.hr.sb b hS;omega
  ·rw [QcX e] at h2 h1;exact hR.hr.apart k b h1 h2 hS
 ·intro k b h1 h2;rw [am] at h1;unfold Ty at h2;by_cases e:k=l
  ·rw [Qd6 e] at h2;injection h2 with h2
   right;have:=hR.hr.fr.size;omega
  ·rw [QcX e] at h2 h1;exact hR.hr.own k b h1 h2
 ·intro b hb;have:=hR.hr.sb b hb;show b<(w.heap.push ak).size;simp;omega
theorem Rel.set (hR:Rel E β S st a w) {l b:Nat} {o o':Ob} (ho:look st.h l=some o) (hb:β l=some b)
  (ao:∀ k,k≠b->w'.heap[k]? = w.heap[k]?) (a6:w'.os=w.os) (ar:w'.tape=w.tape) (ax:w'.output=w.output) (aw:w'.heap.size=w.heap.size)
  (hk:Keep β (look st.h) w β (look ((l,o')::rem l st.h)) w' l) (a8:ObR β S (look ((l,o')::rem l st.h)) w' l o') :
  Rel E β S ⟨st.n,st.tm,(l,o')::rem l st.h⟩ a w':=by
 have au:∀ k,look ((l,o')::rem l st.h) k=if k=l then some o' else look st.h k:=fun k=>ZM l k o' st.h
 have aq:(look st.h l).isSome=true:=by simp [ho]
 have ak:∀ k,(look ((l,o')::rem l st.h) k).isSome=true->(look st.h k).isSome=true:=by
  intro k am;rw [au] at am;by_cases e:k=l
  ·rw [e];exact aq
  ·rwa [QcX e] at am
 refine hR.upd (fun _ h=>h) (fun k hS=>ao k (fun e=>?_)) (fun k=>k=l) (fun k hk=>?_) (fun k am=>.inl (am▸hk)) (fun k bd am an=>?_) ?_ ?_ ?_ ?_ hR.hr.sfr ?_
 ·subst e;exact hR.hr.apart l _ aq hb hS
 ·refine ⟨rfl,by rw [au,QcX hk],fun k' hs ay=>ao k' (fun e=>?_)⟩;subst e;exact hk (hR.hr.inj k l _ hs aq ay hb)
 ·subst am;rw [au,Qd6 rfl] at an;injection an with an
  subst an;exact a8
 ·exact fun k k' b' h1 h2 h3 h4=>hR.hr.inj k k' b' (ak k h1) (ak k' h2) h3 h4
 ·exact fun k b' h1 h2=>hR.hr.apart k b' (ak k h1) h2
 ·exact fun k b' h1 h2=>hR.hr.own k b' (ak k h1) h2
 ·intro k hS;rw [aw];exact hR.hr.sb k hS
 ·have fr:=hR.hr.fr;refine ⟨a6.trans fr.os,ar.trans fr.tape,ax.trans fr.output,by rw [aw];exact fr.size,fun k am hM=>(ao k (fun e=>?_)).trans (fr.block k am hM)⟩;subst e;rcases hR.hr.own l _ aq hb with h | h
  ·exact hM h
  ·omega
end

section
variable {P:Program} {E:Env} {R:Type}
theorem EQ {β:Nat->Option Nat} {S:Nat->Prop} {h:Nat->Option Ob} {w:World} {tm:Nat->Value} (v:Value):RdA β S h w tm v (H1 v):=by
 unfold H1;split
 ·exact .d _ _ (.int _ _)
 ·exact .d _ _ (.bool _)
 ·exact .d _ _ (.str _)
 ·exact .nil
 ·exact .top _
theorem Q52 {β:Nat->Option Nat} {S:Nat->Prop} {h:Nat->Option Ob} {w:World} {tm:Nat->Value} {v:Value} {av:AV} (hv:RdA β S h w tm v av) (ho:C8 av=true):v.oneCell'=true:=by
 cases hv <;> simp [C8] at ho <;> try rfl
 ·rename_i hx;cases hx <;> rfl
 ·assumption
theorem Lu {av:AV} (ho:C8 av=true):FN av=true:=by
 cases av with
 |fn f l=>simpa [C8,FN] using ho
 |_=>simp [C8] at ho <;> rfl
theorem Q5u {v:Value} (h:v.oneCell'=true):v.cells = #[v]:=by cases v <;> simp [Value.oneCell'] at h <;> rfl
theorem RdA.to_tm0 {β:Nat->Option Nat} {S:Nat->Prop} {h:Nat->Option Ob} {w:World} {tm:Nat->Value} {v:Value} {av:AV} (hg:FN av=true) (hv:RdA β S h w tm v av):RdA β S h w tm0 v av:=by
 refine RdA.mono hv (fun _ hb=>hb) (fun _ _=>rfl) (fun l _=>Keep.rfl_ ..) (fun t ht=>?_);rw [T8 hg t] at ht;cases ht
theorem Sz {β:Nat->Option Nat} {S:Nat->Prop} {h:Nat->Option Ob} {w:World} {tm:Nat->Value} {v:Value} {av:AV} (hv:RdA β S h w tm v av) (ho:(Xr av).all C8=true) :
  v.cells.size=(Xr av).length/\(∀ (i:Nat) (x:AV),(Xr av)[i]? = some x->RdA β S h w tm (v.cells.getD i undef) x)/\∀ u∈v.cells.toList,u.oneCell'=true:=by
 cases av with
 |ag l=>
  obtain ⟨cs,rfl,ao,hr⟩:=hv.ag_inv;refine ⟨ao,hr,fun u hu=>?_⟩;obtain ⟨i,hi,rfl⟩:=List.getElem_of_mem hu;have an:i<cs.size:=by simpa [Value.cells] using hi
  have h1:l[i]? = some (l[i]'(by omega)):=Qd1 (by omega);have h2:=hr i _ h1;have h3:C8 (l[i]'(by omega))=true:=by
   simp only [Xr,Qda] at ho;exact ho _ (List.getElem_mem _)
  have h4:=Q52 h2 h3;have h5:cs.getD i undef=cs[i]:=by simp [Array.getD,an]
  rw [h5] at h4;simpa [Value.cells] using h4
 |fs s rows=>
  obtain ⟨ad,rfl,hr⟩:=hv.fs_inv;refine ⟨rfl,fun i x hx=>?_,fun u hu=>?_⟩
  ·cases i with
   |zero=>simp [Xr] at hx;subst hx;exact .d _ _ hr
   |succ i=>simp [Xr] at hx
  ·simp [Value.cells] at hu;subst hu;rfl
 |_=>
  all_goals
   simp only [Xr,List.all_cons,List.all_nil,Bool.and_true] at ho
   first
    |have h1:=Q52 hv ho
     rw [Q5u h1];refine ⟨rfl,fun i x hx=>?_,fun u hu=>?_⟩
     ·cases i with
      |zero=>simp [Xr] at hx;subst hx;simpa [Array.getD] using hv
      |succ i=>simp [Xr] at hx
     ·simp at hu;subst hu;exact h1
    |(simp [C8] at ho)
theorem WE {hl:Nat->Option Ob} {ak:Nat} {o:Ob} {v:AV} {wr:List (Nat × Option Ob)} {rd:List Nat} {k:Dl->Option R} {r:R} (h:Mp hl ak o v wr rd k=some r) :
  hl ak=none/\k ⟨v,wr++[(ak,some o)],rd⟩=some r:=by
 unfold Mp at h;split at h
 ·exact ⟨by assumption,h⟩
 ·cases h
theorem Q8K (n:Nat):QbY n (0,0):=fun _ _ h=>by omega
theorem Ew {o:Oper} {ev:Operand->AV} {hl:Nat->Option Ob} {ak:Nat} {cells:List AV} {ty:TypeId} (hn:hl ak=none) (ax:Q3K ty cells)
  (h:∀ β S st a w,Rel E β S st a w->Ed β S st a w o ev->∃ cs:Array Value,(execOp a.eval o).run P w = .ok (.value (.pointer (some ⟨w.heap.size,0,none⟩))) (w.alloc (.cells cs ty))/\cs.size=cells.length /\
   ∀ (i:Nat) (x:AV),cells[i]? = some x->FN x=true/\((RdA β S (look st.h) w (tmv a) (cs.getD i undef) x/\(Wn st ak=true->ZL ak x=false))\/∃ t,x = .sa ak t/\cs.getD i undef = .pointer none)) :
  Jn P E o ev hl ⟨.ptr ak 0,[]++[(ak,some (.box cells))],[]⟩:=by
 intro β S st a w hR hO hA a6 K Q hK;obtain ⟨cs,an,au,ay⟩:=h β S st a w hR hO;have aq:look st.h ak=none:=by rw [hA ak (.inr (by simp [wrL]))];exact hn
 have hc:Wn st ak=true:=by simpa [Zi,aq] using a6
 unfold Oper.wp;rw [an];refine hK _ _ ⟨Ty β ak (some w.heap.size),S,?_,?_⟩
 ·refine hR.new aq hc ⟨w.heap.size,ty,cs,(0,0),by simp [Ty],UG _ _,⟨Q8K _,ax⟩,au,fun i x hx=>?_⟩;obtain ⟨h1,a7⟩:=ay i x hx;rcases a7 with ⟨h2,h3⟩ | ⟨t,rfl,hp⟩
  case inr=>exact .sa _ _ _ w.heap.size (by simp [Ty]) (.inl hp)
  refine (h2.to_tm0 h1).mono (fun _ hb=>hb) (fun b hb=>YI _ _ (hR.hr.sb b hb)) (fun l ao=>?_) (fun _ _=>rfl);have am:l≠ak:=fun e=>by subst e;rw [h3 hc] at ao;cases ao
  exact ⟨by simp [Ty,am],fun h=>by rw [ZM,QcX am];exact h,fun e s rows h=>.inr ⟨rows,by rw [ZM,QcX am];exact h,rfl⟩,
   fun b aw ar fz hs hb hw=>⟨aw,ar,fz,by rw [YI _ _ (P4 hR (by rw [ZM,QcX am] at hs;exact hs) hb)];exact hw,rfl⟩,fun _ f h=>.inr ⟨f,by rw [ZM,QcX am];exact h⟩⟩
 ·exact .ptr _ _ _ (by simp [Ty])
theorem ET (l:Nat) (v:Value):ZL l (H1 v)=false:=by
 unfold H1;split <;> rfl
theorem Q3J (v:Value):FN (H1 v)=true:=by
 unfold H1;split <;> rfl
theorem Q4p {tt:TT} (hT:TOk P tt) {o:Oper} {t:TypeId} (ho:o.op = .alloc t) {ev:Operand->AV} {hl:Nat->Option Ob} {ak:Nat} {ti:TyI} (aw:look tt t=some ti) (hn:hl ak=none) :
  Jn P E o ev hl ⟨.ptr ak 0,[]++[(ak,some (.box (CS ak t ti)))],[]⟩:=by
 obtain ⟨inf,an,_,_,z,hz,ao⟩:=(hT t ti aw).inf;have ar:Q3K t (CS ak t ti):=by
  intro i l t' hi;simp only [CS,QcW,QcS] at hi;obtain ⟨v,_,hv⟩:=hi;unfold Q2n at hv;split at hv
  ·injection hv
  ·unfold H1 at hv;split at hv <;> cases hv
 refine Ew (ty:=t) hn ar fun β S st a w hR hO=>⟨z.cells,?_,?_,fun i x hx=>?_⟩
 ·unfold execOp;rw [ho];simp [Instr.alloc,zeroValue,XU an,hz,newVar,newRow]
 ·rw [<- Qd3,ao];simp [CS]
 ·simp only [CS,QcW,QcS] at hx;obtain ⟨v,hv,rfl⟩:=hx;have:z.cells.getD i undef=v:=by
   rw [<- ao] at hv;obtain ⟨hi,he⟩:=QcO.1 hv;have au:i<z.cells.size:=by simpa using hi
   simp only [Array.getD,au,dite_true];simpa using he
  rw [this];unfold Q2n;split
  ·exact ⟨rfl,.inr ⟨t,rfl,rfl⟩⟩
  ·exact ⟨Q3J v,.inl ⟨EQ v,fun _=>ET ak v⟩⟩
theorem CV {st:St} {ak:Nat} (hc:Wn st ak=true) (x:Operand):ZL ak (evO st.tm x)=false:=by
 cases x with
 |tmp t=>
  simp only [evO,lkT];cases h:look st.tm t with
  |none=>rfl
  |some av=>exact Q3j hc h
 |const v=>exact ET ak v
 |_=>rfl
theorem Q01 {l i:Nat} {r:List AV} {x:AV} (h:r[i]? = some x) (hn:Vy l r=false):ZL l x=false:=by
 cases hx:ZL l x with
 |false=>rfl
 |true=>rw [PJ h hx] at hn;cases hn
theorem C4 {l:Nat} {av:AV} (h:ZL l av=false):Vy l (Xr av)=false:=by
 cases av <;> simp_all [Xr,Vy,ZL]
theorem Q6A {o:Oper} {t:TypeId} {x:Operand} (ho:o.op = .box t x) {ev:Operand->AV} {hl:Nat->Option Ob} {am:Nat} (ak:(Xr (ev x)).all C8=true) (hn:hl am=none) :
  Jn P E o ev hl ⟨.ptr am 0,[]++[(am,some (.box (Xr (ev x))))],[]⟩:=by
 have an:x∈o.op.operands.toList:=by simp [ho,Op.operands]
 have ao:Q3K t (Xr (ev x)):=by
  intro i l t' hi;rw [Qda] at ak;have:=ak _ (Qd0 hi);simp [C8] at this
 refine Ew (ty:=t) hn ao fun β S st a w hR hO=>?_
 obtain ⟨h1,h2,_⟩:=Sz (hO.at an) ak;refine ⟨(a.eval x).cells,?_,h1,fun i y hy=>⟨?_,.inl ⟨h2 i y hy,fun hc=>Q01 hy (C4 (hO.nm an hc))⟩⟩⟩
 ·unfold execOp;rw [ho];simp [Instr.box,newVar,newRow]
 ·rw [Qda] at ak;exact Lu (ak y (Qd0 hy))
structure Wrote (b:Nat) (cs:Array Value) (ty:TypeId) (fz:Nat × Nat) (w w':World):Prop where
 blk:w'.heap[b]? = some (.cells cs ty fz)
 oth:∀ k,k≠b->w'.heap[k]? = w.heap[k]?
 os:w'.os=w.os
 tape:w'.tape=w.tape
 output:w'.output=w.output
 size:w'.heap.size=w.heap.size
theorem Q5T {w:World} {b o:Nat} {cs:Array Value} {ty:TypeId} {fz:Nat × Nat} (h:w.heap[b]? = some (.cells cs ty fz)) (v:Value):Wrote b (cs.setIfInBounds o v) ty fz w (w.setCell ⟨b,o,none⟩ v):=by
 refine ⟨?_,fun k hk=>?_,rfl,rfl,rfl,by simp [World.setCell]⟩
 ·simp [World.setCell,Array.getElem?_modify,h]
 ·simp only [World.setCell,Array.getElem?_modify];rw [QcX (by omega)]
theorem Wrote.trans {b:Nat} {cs am:Array Value} {ty:TypeId} {fz:Nat × Nat} {w w' an:World} (h:Wrote b cs ty fz w w') (h':Wrote b am ty fz w' an):Wrote b am ty fz w an:=
 ⟨h'.blk,fun k hk=>(h'.oth k hk).trans (h.oth k hk),h'.os.trans h.os,h'.tape.trans h.tape,h'.output.trans h.output,h'.size.trans h.size⟩
def GL (cs:Array Value):Nat->List Value->Array Value
 |_,[]=>cs
 |o,v::r=>GL (cs.setIfInBounds o v) (o+1) r
theorem ZU:∀ (vs:List Value) (cs:Array Value) (o:Nat),(GL cs o vs).size=cs.size
 |[],_,_=>rfl
 |v::r,cs,o=>by simp [GL,ZU r]
theorem HW:∀ (vs:List Value) (cs:Array Value) (o j:Nat),o+vs.length<=cs.size->(GL cs o vs)[j]? = if o<=j/\j<o+vs.length then vs[j-o]? else cs[j]?
 |[],cs,o,j,_=>by simp [GL];intro h1 h2;omega
 |v::r,cs,o,j,h=>by
  simp only [Qdg] at h;rw [GL,HW r _ (o+1) j (by simp;omega)];simp only [Qdg];by_cases h1:o+1<=j/\j<o+1+r.length
  ·rw [Qd6 h1,Qd6 (by omega)];rw [show j-o=(j-(o+1))+1 from by omega];simp
  ·rw [QcX h1];by_cases h2:j=o
   ·subst h2;rw [Qd6 (by omega)];simp [Array.getElem?_setIfInBounds];omega
   ·rw [QcX (by omega)];rw [Array.getElem?_setIfInBounds,QcX (by omega)]
theorem VK (b o:Nat) (ty:TypeId) (fz:Nat × Nat):∀ (vs:List Value) (i:Nat) (cs:Array Value) (w:World),w.heap[b]? = some (.cells cs ty fz)->QbY cs.size fz->o+i+vs.length<=cs.size->(∀ v∈vs,v.oneCell'=true) ->
  ∃ w',(storeCells ⟨b,o,none⟩ vs i).run P w = .ok () w'/\Wrote b (GL cs (o+i) vs) ty fz w w'
 |[],i,cs,w,h,_,_,_=>⟨w,by simp [storeCells],⟨h,fun _ _=>rfl,rfl,rfl,rfl,rfl⟩⟩
 |v::r,i,cs,w,h,hf,ar,h1=>by
  simp only [Qdg] at ar;have an:o+i<cs.size:=by omega
  have am:w.cell? ⟨b,o+i,none⟩=some (cs.getD (o+i) undef):=by rw [UK h];exact Ua an
  have au:w.frozen? ⟨b,o+i,none⟩=false:=by
   have:=hf (o+i) an;simp only [World.frozen?,h];simp;intro h2;omega
  have ak:=run_store P w ⟨b,o+i,none⟩ v .plain (h1 v (by simp));rw [am] at ak;simp only [au,Bool.false_eq_true,if_false] at ak;have hw:=Q5T (o:=o+i) h v;obtain ⟨w',ao,aq⟩:=VK b o ty fz r (i+1) (cs.setIfInBounds (o+i) v) (w.setCell ⟨b,o+i,none⟩ v) hw.blk (by simpa using hf) (by simp;omega) (fun u hu=>h1 u (by simp [hu]));refine ⟨w',?_,hw.trans aq⟩;simp only [storeCells,QcT,Gc,ak,QcQ,ao]
theorem T4:∀ {vs cells cs:List AV} {off:Nat},Sd cells off vs=some cs->cs.length=cells.length/\vs.all C8=true/\(vs≠[]->off+vs.length<=cells.length) /\
  ∀ j:Nat,cs[j]? = if off<=j/\j<off+vs.length then vs[j-off]? else cells[j]?
 |[],cells,cs,off,h=>by
  simp [Sd] at h;subst h;refine ⟨rfl,rfl,fun h=>absurd rfl h,fun j=>?_⟩;rw [QcX (by simp)]
 |v::r,cells,cs,off,h=>by
  unfold Sd at h;cases hc:(C8 v&&Nat.ble (off+1) cells.length) with
  |false=>simp [hc] at h
  |true=>
   simp only [hc,QcU] at h;simp only [QcP] at hc;have an:=QcY hc.2;obtain ⟨h1,h2,h3,h4⟩:=T4 h;simp only [List.length_set] at h1 h3;refine ⟨h1,by simp [hc.1,h2],fun _=>?_,fun j=>?_⟩
   ·by_cases hr:r=[]
    ·subst hr;simp;omega
    ·have:=h3 hr;simp;omega
   ·rw [h4 j];simp only [Qdg];by_cases e1:off+1<=j/\j<off+1+r.length
    ·rw [Qd6 e1,Qd6 (by omega),show j-off=(j-(off+1))+1 from by omega];simp
    ·rw [QcX e1];by_cases e2:j=off
     ·subst e2;rw [Qd6 (by omega),Qd8 (by omega)];simp
     ·rw [QcX (by omega),Qdb (by omega)]
end

section
variable {P:Program} {E:Env} {R:Type}
theorem FM {cs ak:Array Value} {i j:Nat} (h:cs[i]? = ak[j]?):cs.getD i undef=ak.getD j undef:=by
 by_cases hi:i<cs.size <;> by_cases hj:j<ak.size
 ·rw [Ua hi,Ua hj] at h;injection h
 ·rw [Ua hi,Array.getElem?_eq_none (by omega)] at h;cases h
 ·rw [Ua hj,Array.getElem?_eq_none (by omega)] at h;cases h
 ·simp [Array.getD,hi,hj]
theorem Ps {t:Nat} {ti:TyI} (ht:TyOk P t ti) {w w':World} {ad:Addr} {v:Value} (hs:v.cells.size=ti.size) (h:(storeCells ad v.cells.toList).run P w = .ok () w'):(storeVar t ad v).run P w = .ok () w':=by
 simp only [storeVar,QcT,ht.size,QcQ];rw [QcX (by omega)];simp [h]
theorem S9 {o:Oper} {t:TypeId} {x y:Operand} (ho:o.op = .store t x y) {a:Act} {w w':World} {ad:Addr} (hx:a.eval x = .pointer (some ad)) (hv:(storeVar t ad (a.eval y)).run P w = .ok () w') :
  (execOp a.eval o).run P w = .ok .skip w':=by
 unfold execOp;rw [ho];simp [Instr.storeAt,Instr.sureAddr,hx,hv]
theorem DB:∀ {l:List AV} {ds:List D},Q8I l=some ds->l=ds.map .d
 |[],ds,h=>by simp [Q8I] at h;subst h;rfl
 |a::r,ds,h=>by
  cases a with
  |d x=>
   simp only [Q8I] at h;split at h
   ·rename_i l' ak;cases h;rw [DB ak];rfl
   ·cases h
  |_=>simp [Q8I] at h
theorem Q2F:∀ (ds:List D) (row:List D) (off j:Nat),off+ds.length<=row.length->(Q7V row off ds)[j]? = if off<=j/\j<off+ds.length then ds[j-off]? else row[j]?
 |[],row,off,j,_=>by simp [Q7V];intro h1 h2;omega
 |v::r,row,off,j,h=>by
  simp only [Qdg] at h;rw [Q7V,Q2F r _ (off+1) j (by simp;omega)];simp only [Qdg];by_cases h1:off+1<=j/\j<off+1+r.length
  ·rw [Qd6 h1,Qd6 (by omega),show j-off=(j-(off+1))+1 from by omega];simp
  ·rw [QcX h1];by_cases h2:j=off
   ·subst h2;rw [Qd6 (by omega),Qd8 (by omega)];simp
   ·rw [QcX (by omega),Qdb (by omega)]
theorem Dn:∀ (ds:List D) (row:List D) (off:Nat),(Q7V row off ds).length=row.length
 |[],_,_=>rfl
 |v::r,row,off=>by simp [Q7V,Dn r]
theorem Lj (ds:List D):(ds.map AV.d).all C8=true:=by
 induction ds with
 |nil=>rfl
 |cons x r ih=>simp [C8]
theorem Q44 {tt:TT} (hT:TOk P tt) {o:Oper} {t:TypeId} {x y:Operand} (ho:o.op = .store t x y) {ev:Operand->AV} {hl:Nat->Option Ob} {k:Dl->Option R} {r:R}
  (h:Q5Z tt hl t (ev x) (ev y) k=some r):∃ dl,k dl=some r/\Jn P E o ev hl dl:=by
 have cg:x∈o.op.operands.toList:=by simp [ho,Op.operands]
 have b7:y∈o.op.operands.toList:=by simp [ho,Op.operands]
 unfold Q5Z at h;split at h
 case h_2=>cases h
 rename_i ti c5;have cc:=hT t ti c5;cases a8:Nat.beq (Xr (ev y)).length ti.size with
 |false=>simp [a8] at h
 |true=>
  simp only [a8,QcU] at h;have a9:=QcR a8;split at h
  ·-- a box
   rename_i l off b1;split at h
   ·rename_i cells bk;split at h
    ·rename_i cs cu;refine ⟨_,h,?_⟩;intro β S st a w hR hO hA c7 K Q hK;obtain ⟨h1,h2,h3,h4⟩:=T4 cu;obtain ⟨b,hb,hx⟩:=(b1▸hO.at cg).ptr_inv;have am:look st.h l=some (.box cells):=by rw [hA l (.inl (by simp))];exact bk
     obtain ⟨b',ty,vs,fz,bd,hw,⟨hf,cq⟩,bn,bl⟩:=hR.hr.ob l _ am;obtain rfl:b=b':=by rw [hb] at bd;injection bd
     obtain ⟨c1,c2,c3⟩:=Sz (hO.at b7) h2;have br:off+(a.eval y).cells.toList.length<=vs.size\/(a.eval y).cells.toList.length=0:=by
      by_cases b6:Xr (ev y)=[]
      ·right;simp [c1,b6]
      ·left;have:=h3 b6;simp [c1];omega
     have ca:off+0+(a.eval y).cells.toList.length<=vs.size\/(a.eval y).cells.toList=[]:=by
      rcases br with h | h
      ·left;simpa using h
      ·right;exact Qd4 h
     obtain ⟨w',bh,ak⟩:∃ w',(storeCells ⟨b,off,none⟩ (a.eval y).cells.toList 0).run P w = .ok () w'/\Wrote b (GL vs off (a.eval y).cells.toList) ty fz w w':=by
      rcases ca with h | h
      ·exact VK b off ty fz _ 0 vs w hw hf h c3
      ·rw [h];exact ⟨w,by simp [storeCells],⟨hw,fun _ _=>rfl,rfl,rfl,rfl,rfl⟩⟩
     have ce:Q3K ty cs:=by
      intro i l' t' hi;rw [h4 i] at hi;split at hi
      ·rw [Qda] at h2;have:=h2 _ (Qd0 hi);simp [C8] at this
      ·exact cq i l' t' hi
     have aq:∀ j,(GL vs off (a.eval y).cells.toList)[j]? = if off<=j/\j<off+(Xr (ev y)).length then (a.eval y).cells[j-off]? else vs[j]?:=by
      intro j;rcases br with h | h
      ·rw [HW _ _ _ _ h];simp [c1]
      ·have hn:(a.eval y).cells.toList=[]:=Qd4 h;rw [hn,QcX (by rw [<- c1,<- Qd3,hn];simp)];rfl
     unfold Oper.wp;rw [S9 ho hx (Ps cc (by rw [c1];exact a9) bh)];refine hK undef _ ⟨β,S,?_,.top _⟩;have ax:∀ k',look ((l,Ob.box cs)::rem l st.h) k'=if k'=l then some (.box cs) else look st.h k':=fun k'=>ZM l k' _ st.h
     have ao:Keep β (look st.h) w β (look ((l,.box cs)::rem l st.h)) w' l:=by
      refine ⟨rfl,fun h=>?_,fun e s rows h=>?_,fun b2 bz bv b3 _ aw au=>?_,fun t f h=>by rw [am] at h;cases h⟩
      ·rw [am] at h;cases h
      ·rw [am] at h;cases h
      ·rw [hb] at aw;injection aw with e;subst e
       rw [hw] at au;injection au with e;injection e with e1 e2 e3;subst e1
       exact ⟨_,_,_,ak.blk,ZU _ _ _⟩
     have bc:∀ l',Keep β (look st.h) w β (look ((l,.box cs)::rem l st.h)) w' l':=by
      intro l';by_cases e:l'=l
      ·subst e;exact ao
      ·exact ⟨rfl,fun h=>by rw [ax,QcX e];exact h,fun e' s rows h=>.inr ⟨rows,by rw [ax,QcX e];exact h,rfl⟩,
        fun b2 bz bv b3 cb aw au=>⟨bz,bv,b3,by rw [ak.oth b2 (fun e2=>by subst e2;rw [ax,QcX e] at cb;exact e (hR.hr.inj l' l _ cb (by simp [am]) aw hb))];exact au,rfl⟩,fun _ f h=>.inr ⟨f,by rw [ax,QcX e];exact h⟩⟩
     refine hR.set am hb ak.oth ak.os ak.tape ak.output ak.size ao ⟨b,ty,_,fz,hb,ak.blk,⟨by rw [ZU];exact hf,ce⟩,by rw [ZU,bn,h1],fun i z hz=>?_⟩;rw [h4 i] at hz;by_cases e:off<=i/\i<off+(Xr (ev y)).length
     ·rw [Qd6 e] at hz;have bx:(GL vs off (a.eval y).cells.toList).getD i undef=(a.eval y).cells.getD (i-off) undef:=FM (by rw [aq i,Qd6 e]);rw [bx];have hn:FN z=true:=Lu (by rw [Qda] at h2;exact h2 z (Qd0 hz));exact ((c2 (i-off) z hz).to_tm0 hn).mono (fun _ h=>h) (fun k' hS=>ak.oth k' (fun e2=>by subst e2;exact hR.hr.apart l _ (by simp [am]) hb hS)) (fun l' _=>bc l') (fun _ _=>rfl)
     ·rw [QcX e] at hz;have bx:(GL vs off (a.eval y).cells.toList).getD i undef=vs.getD i undef:=FM (by rw [aq i,QcX e]);rw [bx];exact (bl i z hz).mono (fun _ h=>h) (fun k' hS=>ak.oth k' (fun e2=>by subst e2;exact hR.hr.apart l _ (by simp [am]) hb hS)) (fun l' _=>bc l') (fun _ _=>rfl)
    ·cases h
   ·cases h
  ·-- an array of the call's own
   rename_i l i off b1;split at h
   ·rename_i e s rows b9;split at h
    ·rename_i ds cw;obtain ⟨row,h,cj⟩:=Qt h;have ar:=cj rfl;cases bg:Nat.ble (off+ds.length) s with
     |false=>simp [bg] at h
     |true=>
      simp only [bg,QcU] at h;have br:=QcY bg;refine ⟨_,h,?_⟩;intro β S st a w hR hO hA c7 K Q hK;have b0:=DB cw;have am:look st.h l=some (.arr e s rows):=by rw [hA l (.inl (by simp))];exact b9
      obtain ⟨b,hb,hx⟩:=RdA.ap_inv am (b1▸hO.at cg);rcases hR.hr.ob l _ am with ⟨_,hn⟩ | ⟨b',vs,bd,hw,bn,bq,bl⟩
      ·subst hn;simp at ar
      obtain rfl:b=b':=by rw [hb] at bd;injection bd
      obtain ⟨c1,c2,c3⟩:=Sz (hO.at b7) (by rw [b0];exact Lj ds);have cf:(a.eval y).cells.size=ds.length:=by rw [c1,b0];simp
      have hi:i<rows.length:=(QcO.1 ar).1;have cz:row.length=s:=bq i row ar;have c9:(i+1)*s<=rows.length*s:=QcV s hi;have c6:(i+1)*s=i*s+s:=Qdc i s;have bm:i*s+off+(a.eval y).cells.toList.length<=vs.size:=by simp [cf];omega
      obtain ⟨w',bh,ak⟩:=VK (P:=P) b (i*s+off) e (0,0) (a.eval y).cells.toList 0 vs w hw (Q8K _) (by simpa using bm) c3;simp only [Nat.add_zero] at ak;have aq:∀ j,(GL vs (i*s+off) (a.eval y).cells.toList)[j]? = if i*s+off<=j/\j<i*s+off+ds.length then (a.eval y).cells[j-(i*s+off)]? else vs[j]?:=by
       intro j;rw [HW _ _ _ _ bm];simp [cf]
      unfold Oper.wp;rw [S9 ho hx (Ps cc (by rw [c1];exact a9) bh)];refine hK undef _ ⟨β,S,?_,.top _⟩;have bo:∀ k',S k'->w'.heap[k']? = w.heap[k']?:=fun k' hS=>ak.oth k' (fun e2=>by subst e2;exact hR.hr.apart l _ (by simp [am]) hb hS)
      have ao:Keep β (look st.h) w β (look ((l,.arr e s (rows.set i (Q7V row off ds)))::rem l st.h)) w' l:=by
       refine ⟨rfl,fun h=>?_,fun e' s' cv h=>?_,fun b2 bz bv b3 _ aw au=>?_,fun t f h=>by rw [am] at h;cases h⟩
       ·rw [am] at h;cases h
       ·rw [am] at h;injection h with h;injection h with g1 g2 g3;subst g1;subst g2;subst g3
        exact .inr ⟨_,by rw [ZM,Qd6 rfl],by simp⟩
       ·rw [hb] at aw;injection aw with e;subst e
        rw [hw] at au;injection au with e;injection e with e1 e2 e3;subst e1
        exact ⟨_,_,_,ak.blk,ZU _ _ _⟩
      refine hR.set am hb ak.oth ak.os ak.tape ak.output ak.size ao (.inr ⟨b,_,hb,ak.blk,by rw [ZU];simpa using bn,fun i' r' a7=>?_,fun i' j' r' z h4 h5=>?_⟩)
      ·by_cases e2:i'=i
       ·subst e2;rw [Qd8 hi] at a7;injection a7 with a7;subst a7
        rw [Dn];exact cz
       ·rw [Qdb (by omega)] at a7;exact bq i' r' a7
      ·by_cases e2:i'=i
       ·subst e2;rw [Qd8 hi] at h4;injection h4 with h4;subst h4
        rw [Q2F _ _ _ _ (by omega)] at h5;by_cases e3:off<=j'/\j'<off+ds.length
        ·rw [Qd6 e3] at h5;have hj:j'-off<(a.eval y).cells.size:=by omega
         refine ⟨(a.eval y).cells.getD (j'-off) undef,?_,?_⟩
         ·rw [aq,Qd6 (by omega),show i'*s+j'-(i'*s+off)=j'-off from by omega];exact Ua hj
         ·exact (c2 (j'-off) (.d z) (by rw [b0];simp [h5])).d_inv.mono (fun _ h=>h) bo
        ·rw [QcX e3] at h5;obtain ⟨u,hu,bu⟩:=bl i' j' row z ar h5;exact ⟨u,by rw [aq,QcX (by omega)];exact hu,bu.mono (fun _ h=>h) bo⟩
       ·rw [Qdb (by omega)] at h4;obtain ⟨u,hu,bu⟩:=bl i' j' r' z h4 h5;refine ⟨u,?_,bu.mono (fun _ h=>h) bo⟩;have dc:j'<s:=by
         have:=bq i' r' h4;have:=(QcO.1 h5).1;omega
        rw [aq,QcX ?_]
        ·exact hu
        ·rcases Nat.lt_or_gt_of_ne e2 with cp | cx
         ·have:(i'+1)*s<=i*s:=QcV s cp;have:(i'+1)*s=i'*s+s:=Qdc i' s;omega
         ·have:(i+1)*s<=i'*s:=QcV s cx;omega
    ·cases h
   ·cases h
  ·cases h
end

section
variable {P:Program} {E:Env} {R:Type}
theorem N5 {α β:Type} {f:α->Sem β} {g:α->β} {w:World}:∀ (l:List α),(∀ x∈l,(f x).run P w = .ok (g x) w)->(l.mapM f).run P w = .ok (l.map g) w
 |[],_=>by simp
 |a::l,h=>by
  have h1:=h a (by simp);have h2:=N5 l (fun x hx=>h x (by simp [hx]));simp [List.mapM_cons,h1,h2]
theorem Q0V {α β:Type} {f:α->Sem β} {g:α->β} {w:World} (l:Array α) (h:∀ x∈l.toList,(f x).run P w = .ok (g x) w):(l.mapM f).run P w = .ok (l.map g) w:=by
 have h1:=N5 (P:=P) l.toList h;rw [<- Array.toList_mapM,Sem.run_map] at h1;cases hr:(l.mapM f).run P w with
 |ok b w'=>
  rw [hr] at h1;simp only [QcQ,Result.ok.injEq] at h1;obtain ⟨h2,rfl⟩:=h1;congr 1;apply Array.ext';simpa using h2
 |halt x w'=>rw [hr] at h1;simp at h1
theorem Q4M (off:Nat):∀ (l:List Value) (k:Nat) (cs:Array Value),(l.zipIdx k).foldl (fun cs x=>cs.setIfInBounds (off+x.2) x.1) cs=GL cs (off+k) l
 |[],_,_=>rfl
 |v::r,k,cs=>by
  simp only [List.zipIdx_cons,List.foldl_cons,GL];rw [Q4M off r (k+1)];rfl
theorem Q6Y (off:Nat) (vs cs:Array Value):vs.zipIdx.foldl (fun cs x=>cs.setIfInBounds (off+x.2) x.1) cs=GL cs off vs.toList:=by
 rw [<- Array.foldl_toList,Array.toList_zipIdx,Q4M];rfl
theorem Q0L {ak:Nat->Option (Nat × Nat)} {cells:Array Value} {i off size:Nat} {v:Value} {rest:List (Nat × Value)} (hp:ak i=some (off,size)) (hs:v.cells.size=size) (hf:off+size<=cells.size) :
  Instr.fill ak cells ((i,v)::rest)=Instr.fill ak (GL cells off v.cells.toList) rest:=by
 have hc:(v.cells.size≠size||off+v.cells.size>cells.size)=false:=by simp [hs];omega
 simp only [Instr.fill,hp];rw [QcX (by rw [hc];simp)];congr 1;exact Q6Y off v.cells cells
theorem ME {tt:TT} {fields:List (Nat × Nat)} {ao:Nat->Option (Nat × Nat)} (ax:∀ (i off t:Nat) (ti:TyI),fields[i]? = some (off,t)->look tt t=some ti->ao i=some (off,ti.size))
  {β:Nat->Option Nat} {S:Nat->Prop} {h:Nat->Option Ob} {w:World} {tm:Nat->Value} {ρ:Operand->Value} {ev:Operand->AV} :
  ∀ (am:List (Nat × Operand)) (cells ak:List AV) (cs:Array Value),(∀ p∈am,RdA β S h w tm (ρ p.2) (ev p.2))->cs.size=cells.length ->
   (∀ (i:Nat) (x:AV),cells[i]? = some x->RdA β S h w tm (cs.getD i undef) x)->Cn fields tt cells (U4 ev am)=some ak ->
   ∃ au,Instr.fill ao cs (am.map fun p=>(p.1,ρ p.2))=some au/\au.size=ak.length /\
    ∀ (i:Nat) (x:AV),ak[i]? = some x->RdA β S h w tm (au.getD i undef) x
 |[],cells,ak,cs,_,h1,h2,h3=>by
  simp [U4,Cn] at h3;subst h3;exact ⟨cs,by simp [Instr.fill],h1,h2⟩
 |(i,x)::am,cells,ak,cs,hp,h1,h2,h3=>by
  simp only [U4,Cn] at h3;split at h3
  case h_2=>cases h3
  rename_i off t hf;split at h3
  case h_2=>cases h3
  rename_i ti a9;cases hc:(Nat.beq (Xr (ev x)).length ti.size&&Nat.ble (off+ti.size) cells.length) with
  |false=>simp [hc] at h3
  |true=>
   simp only [hc,QcU] at h3;simp only [QcP] at hc;have hl:=QcR hc.1;have bi:=QcY hc.2;split at h3
   case h_2=>cases h3
   rename_i bc a7;obtain ⟨g1,g2,g3,g4⟩:=T4 a7;obtain ⟨c1,c2,c3⟩:=Sz (hp (i,x) (by simp)) g2;have aq:=ax i off t ti hf a9;have ay:off+(ρ x).cells.toList.length<=cs.size:=by simp [c1,hl];omega
   rw [Qdj,Q0L aq (by rw [c1];exact hl) (by omega)];refine ME ax am bc ak _ (fun p a8=>hp p (by simp [a8])) (by rw [ZU,h1,g1]) (fun j y hy=>?_) h3;have an:(GL cs off (ρ x).cells.toList)[j]? = if off<=j/\j<off+(Xr (ev x)).length then (ρ x).cells[j-off]? else cs[j]?:=by
    rw [HW _ _ _ _ ay];simp [c1]
   rw [g4 j] at hy;by_cases e:off<=j/\j<off+(Xr (ev x)).length
   ·rw [Qd6 e] at hy an;have ar:(GL cs off (ρ x).cells.toList).getD j undef=(ρ x).cells.getD (j-off) undef:=FM an;rw [ar];exact c2 _ y hy
   ·rw [QcX e] at hy an;have ar:(GL cs off (ρ x).cells.toList).getD j undef=cs.getD j undef:=FM an;rw [ar];exact h2 j y hy
theorem Q08 {t:TypeId} {ak:Array (Nat × Operand)} {o:Oper} (ho:o.op = .build t ak) {p:Nat × Operand} (hp:p∈ak.toList):p.2∈o.op.operands.toList:=by
 simp only [ho,Op.operands];simpa using ⟨p.1,by simpa using hp⟩
theorem Q4b {tt:TT} (hT:TOk P tt) {o:Oper} {t:TypeId} {am:Array (Nat × Operand)} (ho:o.op = .build t am) {ev:Operand->AV} {hl:Nat->Option Ob} {ti:TyI} (b1:look tt t=some ti) (hs:Uf ti.kd=true) {cs:List AV}
  (h:Cn ti.fields tt (MU ti) (U4 ev am.toList)=some cs):Jn P E o ev hl ⟨.ag cs,[],[]⟩:=by
 have a8:=hT t ti b1;obtain ⟨inf,ao,_,_,z,hz,bl⟩:=a8.inf;refine Qj fun β S st a w hR hO hA=>?_
 have bn:z.cells.size=(MU ti).length:=by rw [<- Qd3,bl];simp [MU]
 have bj:∀ (i:Nat) (x:AV),(MU ti)[i]? = some x->RdA β S (look st.h) w (tmv a) (z.cells.getD i undef) x:=by
  intro i x hx;simp only [MU,QcW,QcS] at hx;obtain ⟨v,hv,rfl⟩:=hx;have:z.cells.getD i undef=v:=by
   rw [<- bl] at hv;obtain ⟨hi,he⟩:=QcO.1 hv;have bq:i<z.cells.size:=by simpa using hi
   simp only [Array.getD,bq,dite_true];simpa using he
  rw [this];exact EQ v
 have au:(am.map fun x=>(x.1,a.eval x.2)).toList=am.toList.map fun p=>(p.1,a.eval p.2):=by simp
 cases hk:ti.kd with
 |struct=>
  obtain ⟨fs,hu,bu,bh⟩:=a8.kstruct hk;let sz:Field->Nat:=fun f=>((P.info? f.type).map (·.size)).getD 0
  have a6:∀ f∈fs.toList,∃ i,P.info? f.type=some i/\i.size=sz f:=fun f hf=>by
   obtain ⟨i,hi,_⟩:=bh f hf;exact ⟨i,hi,by simp [sz,hi]⟩
  have a9:∀ (i off t:Nat) (an:TyI),ti.fields[i]? = some (off,t)->look tt t=some an->(fs.map fun f=>(f.offset,sz f))[i]? = some (off,an.size):=by
   intro i off t an hf ar;rw [<- bu,QcW,QcS] at hf;obtain ⟨fd,bg,he⟩:=hf;injection he with he1 he2
   obtain ⟨inf,ao,bi⟩:=a6 fd (Qd0 bg);obtain ⟨bd,ak,aw,_⟩:=(hT t an ar).inf;rw [<- he2,ao] at ak;injection ak with ak
   subst ak;have bo:fs[i]? = some fd:=by simpa using bg
   simp [bo,he1,<- bi,aw]
  obtain ⟨a7,h1,h2,h3⟩:=ME a9 (ρ:=a.eval) am.toList _ _ z.cells (fun p hp=>hO.at (Q08 ho hp)) bn bj h;refine ⟨.agg a7,?_,.ag _ _ h2 h3⟩;have hm:=Q0V (P:=P) (w:=w) (f:=fun f:Field=>do pure (f.offset,<- sizeOf f.type)) (g:=fun f=>(f.offset,sz f)) fs (fun f hf=>by
   obtain ⟨i,hi,he⟩:=a6 f hf;simp [sizeOf,XU hi,he])
  unfold execOp;rw [ho];simp only [Instr.build,QcT,zeroValue,XU ao,hz,QI hu,QcQ,Qde,hm,au,h1]
 |array e ay n=>
  obtain ⟨hu,b4,⟨i0,bm,bk⟩,bv,aq⟩:=a8.karr e ay n hk;have a9:∀ (i off t:Nat) (an:TyI),ti.fields[i]? = some (off,t)->look tt t=some an->(fun i=>some (i*ay,ay)) i=some (off,an.size):=by
   intro i off t an hf ar;rw [aq,QcW,QcS] at hf;obtain ⟨j,hj,he⟩:=hf;have bx:j=i:=by
    have:=QcO.1 hj;obtain ⟨h1,h2⟩:=this;simp at h2;omega
   injection he with he1 he2
   obtain ⟨bd,ak,aw,_⟩:=(hT t an ar).inf;rw [<- he2,bm] at ak;injection ak with ak
   subst ak;simp only [Option.some.injEq,Prod.mk.injEq];exact ⟨by rw [<- he1,bx],by omega⟩
  obtain ⟨a7,h1,h2,h3⟩:=ME a9 (ρ:=a.eval) am.toList _ _ z.cells (fun p hp=>hO.at (Q08 ho hp)) bn bj h;refine ⟨.agg a7,?_,.ag _ _ h2 h3⟩;have b0:(sizeOf e).run P w = .ok ay w:=by simp [sizeOf,XU bm,bk]
  unfold execOp;rw [ho];simp only [Instr.build,QcT,zeroValue,XU ao,hz,QI hu,QcQ,Qde,b0,au,h1]
 |_=>simp [hk,Uf] at hs
def WH (S:Nat->Prop) (w:World) (cs:Array Value) (s:Nat) (rows:List (List D)):Prop:=
 rows.length*s<=cs.size/\(∀ (i:Nat) (r:List D),rows[i]? = some r->r.length=s)/\∀ (i j:Nat) (r:List D) (x:D),rows[i]? = some r->r[j]? = some x->∃ v,cs[i*s+j]? = some v/\Rd S w v x
theorem AN:∀ {z:List D} {l:List AV} {ds:List D},Q4t z l=some ds->ds.length=z.length/\l.length=z.length/\l.all C8=true/\(∀ t,∀ x∈l,gds t x=false) /\
  ∀ (β:Nat->Option Nat) (S:Nat->Prop) (h:Nat->Option Ob) (w:World) (tm:Nat->Value) (vs:Nat->Value),(∀ (i:Nat) (x:AV),l[i]? = some x->RdA β S h w tm (vs i) x)->∀ (i:Nat) (d:D),ds[i]? = some d->Rd S w (vs i) d
 |[],[],ds,h=>by
  simp [Q4t] at h;subst h;exact ⟨rfl,rfl,rfl,fun _ _ h=>by simp at h,fun _ _ _ _ _ _ _ i d h=>by simp at h⟩
 |[],_::_,ds,h=>by simp [Q4t] at h
 |_::_,[],ds,h=>by simp [Q4t] at h
 |z::zs,a::r,ds,h=>by
  simp only [Q4t] at h;split at h
  case h_2=>cases h
  rename_i l hl;obtain ⟨h1,h2,h3,h4,h5⟩:=AN hl;have am:∀ d0,ds=d0::l->C8 a=true->(∀ t,gds t a=false)->(∀ (β:Nat->Option Nat) (S:Nat->Prop) (h:Nat->Option Ob) (w:World) (tm:Nat->Value) (v:Value),RdA β S h w tm v a->Rd S w v d0) ->
    ds.length=(z::zs).length/\(a::r).length=(z::zs).length/\(a::r).all C8=true/\(∀ t,∀ x∈a::r,gds t x=false) /\
    ∀ (β:Nat->Option Nat) (S:Nat->Prop) (h:Nat->Option Ob) (w:World) (tm:Nat->Value) (vs:Nat->Value),(∀ (i:Nat) (x:AV),(a::r)[i]? = some x->RdA β S h w tm (vs i) x)->∀ (i:Nat) (d:D),ds[i]? = some d->Rd S w (vs i) d:=by
   intro d0 hd ho hg hr;subst hd;refine ⟨by simp [h1],by simp [h2],by simp [ho,h3],fun t x hx=>?_,fun β S h w tm vs hv i d hi=>?_⟩
   ·rcases Qd5.1 hx with rfl | hx
    ·exact hg t
    ·exact h4 t x hx
   ·cases i with
    |zero=>simp at hi;subst hi;exact hr β S h w tm _ (hv 0 a rfl)
    |succ i=>exact h5 β S h w tm (fun i=>vs (i+1)) (fun i x hx=>hv (i+1) x (by simpa using hx)) i d (by simpa using hi)
  split at h
  ·rename_i x;cases h;exact am x rfl rfl (fun _=>rfl) (fun _ _ _ _ _ _ hv=>hv.d_inv)
  ·split at h
   ·cases h;exact am _ rfl rfl (fun _=>rfl) (fun _ _ _ _ _ v hv=>by rw [hv.nil_inv];exact .sl0 _ _ _)
   ·cases h
  ·cases h
end

section
variable {P:Program} {E:Env} {R:Type}
theorem WH.mono {S S':Nat->Prop} {w w':World} {cs:Array Value} {s:Nat} {rows:List (List D)} (h:WH S w cs s rows) (hS:∀ b,S b->S' b) (hw:∀ b,S b->w'.heap[b]? = w.heap[b]?):WH S' w' cs s rows:=
 ⟨h.1,h.2.1,fun i j r x h1 h2=>by
  obtain ⟨v,hv,hr⟩:=h.2.2 i j r x h1 h2;exact ⟨v,hv,hr.mono hS hw⟩⟩
theorem WH.set {S:Nat->Prop} {w:World} {cs:Array Value} {s:Nat} {rows:List (List D)} (h:WH S w cs s rows) {i:Nat} {row:List D} {vs:Array Value} (hi:i<rows.length) (hl:row.length=s) (au:vs.size=s)
  (hr:∀ (j:Nat) (d:D),row[j]? = some d->Rd S w (vs.getD j undef) d):WH S w (GL cs (i*s) vs.toList) s (rows.set i row):=by
 obtain ⟨h1,h2,h3⟩:=h;have bc:(i+1)*s<=rows.length*s:=QcV s hi;have a8:(i+1)*s=i*s+s:=Qdc i s;have ar:i*s+vs.toList.length<=cs.size:=by simp [au];omega
 have an:∀ j,(GL cs (i*s) vs.toList)[j]? = if i*s<=j/\j<i*s+s then vs[j-i*s]? else cs[j]?:=by
  intro j;rw [HW _ _ _ _ ar];simp [au]
 refine ⟨by rw [ZU];simpa using h1,fun i' r' ak=>?_,fun i' j' r' x h4 h5=>?_⟩
 ·by_cases e2:i'=i
  ·subst e2;rw [Qd8 hi] at ak;injection ak with ak;subst ak
   exact hl
  ·rw [Qdb (by omega)] at ak;exact h2 i' r' ak
 ·by_cases e2:i'=i
  ·subst e2;rw [Qd8 hi] at h4;injection h4 with h4;subst h4
   have hj:j'<s:=by have:=(QcO.1 h5).1;omega
   refine ⟨vs.getD j' undef,?_,hr j' x h5⟩;rw [an,Qd6 (by omega),show i'*s+j'-i'*s=j' from by omega];exact Ua (by omega)
  ·rw [Qdb (by omega)] at h4;obtain ⟨u,hu,a9⟩:=h3 i' j' r' x h4 h5;refine ⟨u,?_,a9⟩;have bd:j'<s:=by
    have:=h2 i' r' h4;have:=(QcO.1 h5).1;omega
   rw [an,QcX ?_]
   ·exact hu
   ·rcases Nat.lt_or_gt_of_ne e2 with a6 | a7
    ·have:(i'+1)*s<=i*s:=QcV s a6;have:(i'+1)*s=i'*s+s:=Qdc i' s;omega
    ·have:(i+1)*s<=i'*s:=QcV s a7;omega
theorem WH.zero {S:Nat->Prop} {w:World} {zero:Array Value} {z:List D} {n m:Nat} (hz:z.length=zero.size) (hr:∀ (j:Nat) (x:D),z[j]? = some x->∃ v,zero[j]? = some v/\Rd S w v x) (ao:n<=m) :
  WH S w ((Array.range (m*zero.size)).map (zero[· % zero.size]!)) zero.size (List.replicate n z):=by
 refine ⟨by simp;exact QcV _ ao,fun i r h=>?_,fun i j r x h1 h2=>?_⟩
 ·rw [List.getElem?_replicate] at h;split at h
  ·injection h with h;subst h;exact hz
  ·cases h
 ·rw [List.getElem?_replicate] at h1;split at h1
  case isFalse=>cases h1
  rename_i hi;injection h1 with h1;subst h1
  obtain ⟨v,hv,hx⟩:=hr j x h2;refine ⟨v,?_,hx⟩;have hj:j<zero.size:=(Qd2.1 hv).1;have aq:(i+1)*zero.size<=m*zero.size:=QcV _ (by omega);have am:(i+1)*zero.size=i*zero.size+zero.size:=Qdc i _;have ak:(i*zero.size+j) % zero.size=j:=by rw [Nat.add_comm,Nat.add_mul_mod_self_right];exact Nat.mod_eq_of_lt hj
  rw [Array.getElem?_map,Array.getElem?_range,Qd6 (by omega)];simp only [Option.map_some,ak];rw [getElem!_pos zero j hj];rw [Array.getElem?_eq_getElem hj] at hv;exact hv
theorem D2 {o:Oper} {ev:Operand->AV} {hl:Nat->Option Ob} {ak e s:Nat} {rows:List (List D)} {rd:List Nat} (hn:hl ak=none)
  (h:∀ β S st a w,Rel E β S st a w->Ed β S st a w o ev->(∀ l,l∈rd->look st.h l=hl l)->∃ (cs:Array Value) (cap:Nat),(execOp a.eval o).run P w = .ok (.value (.slice (some ⟨w.heap.size,0,none⟩) rows.length cap)) (w.alloc (.cells cs e))/\cs.size=cap*s/\rows.length<=cap/\cap<=maxLen/\WH S w cs s rows) :
  Jn P E o ev hl ⟨.arr ak,[]++[(ak,some (.arr e s rows))],rd⟩:=by
 intro β S st a w hR hO hA aw K Q hK;obtain ⟨cs,cap,ao,ar,am,an,h1,h2,h3⟩:=h β S st a w hR hO (fun l au=>hA l (.inl au));have aq:look st.h ak=none:=by rw [hA ak (.inr (by simp [wrL]))];exact hn
 have hc:Wn st ak=true:=by simpa [Zi,aq] using aw
 unfold Oper.wp;rw [ao];refine hK _ _ ⟨Ty β ak (some w.heap.size),S,?_,?_⟩
 ·refine hR.new aq hc (.inr ⟨w.heap.size,cs,by simp [Ty],UG _ _,h1,h2,fun i j r x h4 h5=>?_⟩);obtain ⟨v,hv,hr⟩:=h3 i j r x h4 h5;exact ⟨v,hv,hr.mono (fun _ hb=>hb) (fun b hb=>YI _ _ (hR.hr.sb b hb))⟩
 ·exact .arr ak w.heap.size cap e s rows cs e (0,0) (by simp [Ty]) (by simp [Pd,ZM]) (UG _ _) ar am an
theorem Q6u {β:Nat->Option Nat} {S:Nat->Prop} {st:St} {a:Act} {w:World} (hR:Rel E β S st a w) (am:Obj):Rel E β (fun b=>S b\/b=w.heap.size) st a (w.alloc am):=by
 have:=hR.upd (w':=w.alloc am) (β':=β) (S':=fun b=>S b\/b=w.heap.size) (H':=st.h) (fun _ h=>.inl h) (fun b hb=>YI w am (hR.hr.sb b hb)) (fun _=>False)
  (fun l _=>⟨rfl,rfl,fun b hs hb=>YI w am (P4 hR hs hb)⟩) (fun l h=>h.elim) (fun l o h=>h.elim) hR.hr.inj
  (fun l b hs hb hS=>by
   rcases hS with hS | hS
   ·exact hR.hr.apart l b hs hb hS
   ·have:=P4 hR hs hb;omega)
  hR.hr.own
  (fun b hS=>by
   show b<(w.heap.push am).size;simp;rcases hS with hS | hS
   ·have:=hR.hr.sb b hS;omega
   ·omega)
  (fun b hS=>by
   rcases hS with hS | hS
   ·exact hR.hr.sfr b hS
   ·right;right;have:=hR.hr.fr.size;omega)
  (Q3z hR.hr.fr am)
 exact this
theorem WH.rd {S:Nat->Prop} {w:World} {b cap s:Nat} {cs:Array Value} {ty:TypeId} {fz:Nat × Nat} {rows:List (List D)} (h:WH S w cs s rows) (hb:w.heap[b]? = some (.cells cs ty fz)) (hS:S b) (ak:rows.length<=cap) :
  Rd S w (.slice (some ⟨b,0,none⟩) rows.length cap) (.sl s rows):=by
 obtain ⟨h1,h2,h3⟩:=h;refine .sl _ cap s rows (fun i j=>cs.getD (i*s+j) undef) hS ak h2 (fun i j r x h4 h5=>?_) (fun i j r x h4 h5=>?_)
 ·obtain ⟨v,hv,_⟩:=h3 i j r x h4 h5;rw [Gc,Nat.zero_add,UK hb];exact Ua (Qd2.1 hv).1
 ·obtain ⟨v,hv,hr⟩:=h3 i j r x h4 h5;have:cs.getD (i*s+j) undef=v:=by
   have h6:=Ua (Qd2.1 hv).1;rw [hv] at h6;injection h6 with h6
   exact h6.symm
  rw [this];exact hr
theorem Q10 {o:Oper} {ev:Operand->AV} {hl:Nat->Option Ob} {e s:Nat} {rows:List (List D)} {rd:List Nat}
  (h:∀ β S st a w,Rel E β S st a w->Ed β S st a w o ev->∃ (cs:Array Value) (cap:Nat),(execOp a.eval o).run P w = .ok (.value (.slice (some ⟨w.heap.size,0,none⟩) rows.length cap)) (w.alloc (.cells cs e))/\rows.length<=cap/\WH S w cs s rows) :
  Jn P E o ev hl ⟨.d (.sl s rows),[],rd⟩:=by
 intro β S st a w hR hO hA aq K Q hK;obtain ⟨cs,cap,am,ak,h1⟩:=h β S st a w hR hO;unfold Oper.wp;rw [am];refine hK _ _ ⟨β,fun b=>S b\/b=w.heap.size,Q6u hR _,.d _ _ ?_⟩;exact (h1.mono (fun _ hb=>.inl hb) (fun b hb=>YI _ _ (hR.hr.sb b hb))).rd (UG _ _) (.inr rfl) ak
theorem LK {β:Nat->Option Nat} {S:Nat->Prop} {h:Nat->Option Ob} {w:World} {tm:Nat->Value} {ρ:Operand->Value} {ev:Operand->AV} {z:List D} :
  ∀ (am:List (Nat × Operand)) (rows ak:List (List D)) (cs:Array Value),(∀ p∈am,RdA β S h w tm (ρ p.2) (ev p.2))->WH S w cs z.length rows->cs.size=rows.length*z.length ->
   Rf z rows (U4 ev am)=some ak ->
   ∃ an,Instr.fill (fun i=>some (i*z.length,z.length)) cs (am.map fun p=>(p.1,ρ p.2))=some an/\WH S w an z.length ak/\an.size=cs.size/\ak.length=rows.length
 |[],rows,ak,cs,_,h1,h2,h3=>by
  simp [U4,Rf] at h3;subst h3;exact ⟨cs,by simp [Instr.fill],h1,rfl,rfl⟩
 |(i,x)::am,rows,ak,cs,hp,h1,h2,h3=>by
  simp only [U4,Rf] at h3;split at h3
  case h_2=>cases h3
  rename_i row aq;cases hc:Nat.ble (i+1) rows.length with
  |false=>simp [hc] at h3
  |true=>
   simp only [hc,QcU] at h3;have hi:=QcY hc;obtain ⟨t1,t2,t3,_,t5⟩:=AN aq;obtain ⟨c1,c2,_⟩:=Sz (hp (i,x) (by simp)) t3;have ax:(i+1)*z.length<=rows.length*z.length:=QcV _ hi;have aw:(i+1)*z.length=i*z.length+z.length:=Qdc i _;have au:Instr.fill (fun i=>some (i*z.length,z.length)) cs ((i,ρ x)::am.map fun p=>(p.1,ρ p.2))=_:=Q0L (i:=i) (off:=i*z.length) (size:=z.length) rfl (by rw [c1,t2]) (by omega);rw [Qdj,au];have ao:=h1.set (i:=i) (row:=row) (vs:=(ρ x).cells) (by omega) t1 (by rw [c1,t2]) (fun j d hd=>t5 β S h w tm (fun j=>(ρ x).cells.getD j undef) c2 j d hd);obtain ⟨an,g1,g2,g3,g4⟩:=LK am (rows.set i row) ak _ (fun p ar=>hp p (by simp [ar])) ao (by rw [ZU,h2];simp) h3;exact ⟨an,g1,g2,by rw [g3,ZU],by rw [g4];simp⟩
theorem Cg {t:TypeId} {n:Nat} {ak:Array (Nat × Operand)} {o:Oper} (ho:o.op = .buildSlice t n ak) {p:Nat × Operand} (hp:p∈ak.toList):p.2∈o.op.operands.toList:=by
 simp only [ho,Op.operands];simpa using ⟨p.1,by simpa using hp⟩
theorem Q8B {tt:TT} (hT:TOk P tt) {e:Nat} {ei:TyI} (an:look tt e=some ei) (am:ei.zd.length=ei.size) {S:Nat->Prop} {w:World} {z:Value} (hz:z.cells.toList=ei.zero):∀ (j:Nat) (x:D),ei.zd[j]? = some x->∃ v,z.cells[j]? = some v/\Rd S w v x:=by
 intro j x hx;obtain ⟨v,hv,hr⟩:=(hT e ei an).zd am j x hx;refine ⟨v,?_,hr S w⟩;rw [<- hz] at hv;simpa using hv
theorem PB {tt:TT} (hT:TOk P tt) {o:Oper} {t:TypeId} {len:Nat} {ak:Array (Nat × Operand)} (ho:o.op = .buildSlice t len ak) {u:Bool} {bl:Nat} {ev:Operand->AV} {hl:Nat->Option Ob} {k:Dl->Option R} {r:R}
  (h:JL tt hl bl u t len (U4 ev ak.toList) k=some r):∃ dl,k dl=some r/\Jn P E o ev hl dl:=by
 unfold JL at h;split at h
 case h_2=>cases h
 rename_i e am hk;cases hc:(Nat.ble (len*am) 16777216&&(look tt e).isSome&&Nat.beq (PF tt e).length am) with
 |false=>simp [hc] at h
 |true=>
  simp only [hc,QcU] at h;simp only [QcP] at hc;have bx:=QcY hc.1.1;obtain ⟨ei,aw⟩:=Option.isSome_iff_exists.1 hc.1.2;have ao:=QcR hc.2;have bn:PF tt e=ei.zd:=by simp [PF,aw]
  rw [bn] at ao h;split at h
  case h_2=>cases h
  rename_i rows a7;obtain ⟨ti,bq,bo⟩:=Xh hk (by simp);obtain ⟨hu,bg,inf,aq,a6⟩:=(hT t ti bq).ksl _ _ bo;obtain ⟨bv,an,bc,_,z,hz,bk⟩:=(hT e ei aw).inf;rw [aq] at an;injection an with an
  subst an;have au:z.cells.size=am:=by rw [<- Qd3,bk,(hT e ei aw).zlen,<- bc,a6]
  have bj:∀ β S st a w,Rel E β S st a w->Ed β S st a w o ev->∃ cs:Array Value,(execOp a.eval o).run P w = .ok (.value (.slice (some ⟨w.heap.size,0,none⟩) rows.length len)) (w.alloc (.cells cs e))/\cs.size=len*am/\rows.length=len/\WH S w cs am rows:=by
   intro β S st a w hR hO;have base:WH S w ((Array.range (len*z.cells.size)).map (z.cells[· % z.cells.size]!)) z.cells.size (List.replicate len ei.zd):=
    WH.zero (by rw [ao,au]) (Q8B hT aw (by rw [ao,<- bc,a6]) bk) (Nat.le_refl _)
   rw [au] at base;obtain ⟨bp,g1,g2,g3,g4⟩:=LK (ρ:=a.eval) (ev:=ev) (z:=ei.zd) ak.toList (List.replicate len ei.zd) rows _ (fun p hp=>hO.at (Cg ho hp)) (by rw [ao];exact base) (by simp [ao]) a7;rw [ao] at g1 g2;have ar:rows.length=len:=by rw [g4];simp
   refine ⟨bp,?_,by rw [g3];simp,ar,g2⟩;have ay:(ak.map fun x=>(x.1,a.eval x.2)).toList=ak.toList.map fun p=>(p.1,a.eval p.2):=by simp
   have br:¬ len*am>2 ^ 24:=by omega
   unfold execOp;rw [ho];simp only [Instr.buildSlice,QcT,QI hu,sizeOf,XU aq,a6,QcQ,Qde,br,if_false,ay];by_cases h0:len*am=0
   ·have ax:((Array.range (len*am)).map ((#[]:Array Value)[· % (#[]:Array Value).size]!))=((Array.range (len*am)).map (z.cells[· % am]!)):=by rw [h0];simp
    simp only [h0,if_true,QcT,Qde,QcQ];rw [h0] at ax g1;rw [ax,g1,ar];simp [newRow]
   ·simp only [h0,if_false,QcT,zeroValue,XU aq,hz,QcQ,Qde,au,g1];simp [newRow,ar]
  have a8:len<=maxLen:=by
   have:len*1<=len*am:=Qdf len bg;unfold maxLen;omega
  cases u with
  |true=>
   simp only [QcU] at h;obtain ⟨hn,h⟩:=WE h;refine ⟨_,h,D2 hn fun β S st a w hR hO _=>?_⟩;obtain ⟨cs,g1,g2,g3,g4⟩:=bj β S st a w hR hO;exact ⟨cs,len,g1,g2,by omega,a8,g4⟩
  |false=>
   simp only [cond_false] at h;refine ⟨_,h,Q10 (e:=e) fun β S st a w hR hO=>?_⟩;obtain ⟨cs,g1,g2,g3,g4⟩:=bj β S st a w hR hO;exact ⟨cs,len,g1,by omega,g4⟩
theorem PC {n:Nat} {u:Unit} (h:YD n=some u):n<=140737488355328:=by
 unfold YD at h;cases hb:Nat.ble n 140737488355328 with
 |true=>exact QcY hb
 |false=>simp [hb] at h
theorem Q5B {tt:TT} (hT:TOk P tt) {o:Oper} {t:TypeId} {l c:Operand} (ho:o.op = .makeSlice t l c) {u:Bool} {bg:Nat} {ev:Operand->AV} {hl:Nat->Option Ob} {k:Dl->Option R} {r:R}
  (h:Q89 tt hl bg u t (ev l) (ev c) k=some r):∃ dl,k dl=some r/\Jn P E o ev hl dl:=by
 unfold Q89 at h;cases u with
 |false=>simp at h
 |true=>
  simp only [QcU] at h;split at h
  case h_2=>cases h
  rename_i e an kn n km m hk bl br;split at h
  case h_2=>cases h
  rename_i ei aw;cases hc:(Nat.ble 1 ei.bytes&&Nat.beq (PF tt e).length an) with
  |false=>simp [hc] at h
  |true=>
   simp only [hc,QcU] at h;simp only [QcP] at hc;have au:=QcY hc.1;have a6:=QcR hc.2;have bj:PF tt e=ei.zd:=by simp [PF,aw]
   rw [bj] at a6 h;obtain ⟨_,h,bq⟩:=Qt h;obtain ⟨_,h,am⟩:=Qt h;have am:=PC (am rfl);have b0:0<=n/\n<=m:=by
    have:=bq rfl;cases hd:(decide (0<=n)&&decide (n<=m)) with
    |true=>simpa using hd
    |false=>simp [hd] at this
   obtain ⟨hn,h⟩:=WE h;obtain ⟨ti,bo,bm⟩:=Xh hk (by simp);obtain ⟨hu,bx,inf,ao,a7⟩:=(hT t ti bo).ksl _ _ bm;obtain ⟨bv,ak,a8,bn,z,hz,bd⟩:=(hT e ei aw).inf;rw [ao] at ak;injection ak with ak
   subst ak;have aq:z.cells.size=an:=by rw [<- Qd3,bd,(hT e ei aw).zlen,<- a8,a7]
   have bu:m.toNat<=140737488355328:=Nat.le_trans (by have:=Qdf m.toNat au;omega) am;have bp:IntKind.i64.wrap m=m:=by unfold IntKind.wrap;simp [IntKind.bits,IntKind.signed];omega
   have bi:IntKind.i64.wrap n=n:=by unfold IntKind.wrap;simp [IntKind.bits,IntKind.signed];omega
   refine ⟨_,h,D2 hn fun β S st a w hR hO _=>?_⟩;have a9:=(bl▸hO.at (x:=l) (by simp [ho,Op.operands])).int_inv;have bc:=(br▸hO.at (x:=c) (by simp [ho,Op.operands])).int_inv;have base:WH S w ((Array.range (m.toNat*z.cells.size)).map (z.cells[· % z.cells.size]!)) z.cells.size (List.replicate n.toNat ei.zd):=
    WH.zero (by rw [a6,aq]) (Q8B hT aw (by rw [a6,<- a8,a7]) bd) (by omega)
   rw [aq] at base;refine ⟨_,m.toNat,?_,?_,?_,?_,base⟩
   ·have ar:(m<0||(inf.bytes:Int)*m>2 ^ 48)=false:=by
     rw [bn];have h1:((ei.bytes:Int)*m)=((m.toNat*ei.bytes:Nat):Int):=by
      rw [Int.natCast_mul,Int.toNat_of_nonneg (by omega),Int.mul_comm]
     have h2:¬ m<0:=by omega
     have h3:¬ ((m.toNat*ei.bytes:Nat):Int)>2 ^ 48:=by omega
     rw [h1,decide_eq_false h2,decide_eq_false h3];rfl
    have bk:((m<0||(inf.bytes:Int)*m>2 ^ 48)||n<0||n>m)=false:=by
     rw [ar];simp;omega
    unfold execOp;rw [ho];simp only [Instr.makeSlice,QcT,QI hu,asInt,asIntOf,a9,bc,XU ao,QcQ,Qde,bp,bi,bk,Bool.false_eq_true,if_false,run_askRoom,sizeOf,a7];by_cases h0:m.toNat*an=0
    ·have ay:((Array.range (m.toNat*an)).map ((#[]:Array Value)[· % (#[]:Array Value).size]!))=((Array.range (m.toNat*an)).map (z.cells[· % an]!)):=by rw [h0];simp
     simp only [h0,if_true,QcT,Qde,QcQ];rw [h0] at ay;rw [ay];simp [newRow]
    ·simp only [h0,if_false,QcT,zeroValue,XU ao,hz,QcQ,Qde,aq];simp [newRow]
   ·simp
   ·simp;omega
   ·unfold maxLen;omega
end

section
variable {P:Program} {E:Env} {R:Type}
theorem Rd.one {S:Nat->Prop} {w:World} {v:Value} {x:D} (h:Rd S w v x):v.oneCell'=true:=by cases h <;> rfl
structure Src (S:Nat->Prop) (w:World) (esz:Nat) (v:Value) (news:List (List D)) (vals:List Value):Prop where
 form:(v = .slice none 0 0/\news=[])\/(∃ c,v = .slice none 0 c/\news=[])\/∃ (ad:Addr) (c:Nat),v = .slice (some ad) news.length c/\∀ (j:Nat) (u:Value),vals[j]? = some u->w.cell? (ad.add j)=some u
 len:vals.length=news.length*esz
 one:∀ u∈vals,u.oneCell'=true
 row:∀ (i:Nat) (r:List D),news[i]? = some r->r.length=esz
 rd:∀ (i j:Nat) (r:List D) (x:D),news[i]? = some r->r[j]? = some x->∃ u,vals[i*esz+j]? = some u/\Rd S w u x
theorem Src.of_fun {S:Nat->Prop} {w:World} {ak:Nat} {news:List (List D)} {ad:Addr} {c:Nat} (f:Nat->Value) (ao:0<ak) (am:∀ (i:Nat) (r:List D),news[i]? = some r->r.length=ak)
  (hc:∀ (i j:Nat) (r:List D) (x:D),news[i]? = some r->r[j]? = some x->w.cell? (ad.add (i*ak+j))=some (f (i*ak+j))/\Rd S w (f (i*ak+j)) x) :
  ∃ vals,Src S w ak (.slice (some ad) news.length c) news vals:=by
 have split:∀ q,q<news.length*ak->∃ i j r x,q=i*ak+j/\news[i]? = some r/\r[j]? = some x:=by
  intro q hq;have hi:q / ak<news.length:=Nat.div_lt_of_lt_mul (by rw [Nat.mul_comm];exact hq);have hj:q % ak<ak:=Nat.mod_lt _ ao;have h1:news[q / ak]? = some (news[q / ak]):=Qd1 hi;have h2:=am _ _ h1;refine ⟨q / ak,q % ak,news[q / ak],(news[q / ak])[q % ak]'(by omega),?_,h1,Qd1 _⟩;rw [Nat.mul_comm];exact (Nat.div_add_mod q ak).symm
 refine ⟨(List.range (news.length*ak)).map f,⟨.inr (.inr ⟨ad,c,rfl,fun j u hu=>?_⟩),by simp,fun u hu=>?_,am,fun i j r x h1 h2=>?_⟩⟩
 ·simp only [QcW,QcS] at hu;obtain ⟨j',au,rfl⟩:=hu;obtain ⟨an,he⟩:=QcO.1 au;simp at an he;subst he;obtain ⟨i,j',r,x,rfl,h1,h2⟩:=split j an;exact (hc i j' r x h1 h2).1
 ·obtain ⟨q,hq,rfl⟩:=List.mem_map.1 hu;obtain ⟨i,j',r,x,rfl,h1,h2⟩:=split q (by simpa using hq);exact (hc i j' r x h1 h2).2.one
 ·have hi:i<news.length:=(QcO.1 h1).1;have hj:j<ak:=by have:=am i r h1;have:=(QcO.1 h2).1;omega
  have ax:(i+1)*ak<=news.length*ak:=QcV _ hi;have aw:(i+1)*ak=i*ak+ak:=Qdc i _;have an:i*ak+j<news.length*ak:=by omega
  exact ⟨f (i*ak+j),by simp [an],(hc i j r x h1 h2).2⟩
theorem AD {ak:Nat} (an:0<ak) {hl:Nat->Option Ob} {av:AV} {news:List (List D)} {rx:List Nat} (h:Cj ak hl av=some (news,rx))
  {β:Nat->Option Nat} {S:Nat->Prop} {st:St} {a:Act} {w:World} (hR:Rel E β S st a w) {v:Value} (hv:RdA β S (look st.h) w (tmv a) v av) (hA:∀ l,l∈rx->look st.h l=hl l):∃ vals,Src S w ak v news vals:=by
 have ao:∀ v,(v = .slice none 0 0\/∃ c,v = .slice none 0 c)->Src S w ak v [] []:=fun v hv=>
  ⟨by rcases hv with rfl | ⟨c,rfl⟩ <;> simp,by simp,by simp,by simp,by simp⟩
 unfold Cj at h;split at h
 ·rename_i s rows;cases hb:Nat.beq s ak with
  |false=>simp [hb] at h
  |true=>
   obtain rfl:=QcR hb;simp only [hb,QcU,Option.some.injEq,Prod.mk.injEq] at h;obtain ⟨rfl,rfl⟩:=h;rcases hv.d_inv.sl_inv with ⟨rfl,ad,cap,rfl⟩ | ⟨ad,cap,c,rfl,hS,ar,aq,hc,hr⟩
   ·cases ad with
    |none=>exact ⟨[],ao _ (.inr ⟨cap,rfl⟩)⟩
    |some ad=>exact ⟨[],⟨.inr (.inr ⟨ad,cap,rfl,by simp⟩),by simp,by simp,by simp,by simp⟩⟩
   ·refine Src.of_fun (fun q=>c (q / s) (q % s)) an aq fun i j r x h1 h2=>?_
    have hj:j<s:=by have:=aq i r h1;have:=(QcO.1 h2).1;omega
    have e1:(i*s+j) / s=i:=by rw [Nat.add_comm,Nat.add_mul_div_right _ _ an,Nat.div_eq_of_lt hj,Nat.zero_add]
    have e2:(i*s+j) % s=j:=by rw [Nat.add_comm,Nat.add_mul_mod_self_right];exact Nat.mod_eq_of_lt hj
    simp only [e1,e2];exact ⟨hc i j r x h1 h2,hr i j r x h1 h2⟩
 ·cases h;exact ⟨[],ao _ (.inl hv.nil_inv)⟩
 ·rename_i l;split at h
  ·rename_i e s rows au;cases hb:Nat.beq s ak with
   |false=>simp [hb] at h
   |true=>
    obtain rfl:=QcR hb;simp only [hb,QcU,Option.some.injEq,Prod.mk.injEq] at h;obtain ⟨rfl,rfl⟩:=h;have ax:look st.h l=some (.arr e s rows):=by rw [hA l (by simp)];exact au
    rcases RdA.arr_inv ax hv with ⟨_,rfl,rfl⟩ | ⟨b,cap,cs,ty,fz,ay,rfl,hw,bk,ar,bh⟩
    ·exact ⟨[],ao _ (.inl rfl)⟩
    ·rcases hR.hr.ob l _ ax with ⟨hn,_⟩ | ⟨b2,a7,aw,a9,aq,bc,bg⟩
     ·rw [ay] at hn;cases hn
     obtain rfl:b=b2:=by rw [ay] at aw;injection aw
     refine Src.of_fun (fun q=>a7.getD q undef) an bc fun i j r x h1 h2=>?_
     obtain ⟨u,hu,bd⟩:=bg i j r x h1 h2;have a8:=(Qd2.1 hu).1;have am:=Ua a8;refine ⟨by rw [Gc,Nat.zero_add,UK a9];exact am,?_⟩;rw [hu] at am;injection am with am
     rw [<- am];exact bd
  ·cases h
 ·cases h
theorem KZ {w:World} {t ty e:Nat} {i:TypeInfo} {z:Value} {am base:Nat} (ht:P.underlying t=some (.slice e)) (hi:P.info? e=some i) (hz:i.zero=some z) (ar:i.size=am) (a7:z.cells.size=am) (aw:0<am)
  {v:Value} {n:Nat} {xs:List Value} (ao:w.ownsRow base e am v n xs) {S:Nat->Prop} {x:Value} {news:List (List D)} {vals:List Value} (an:Src S w am x news vals)
  (ay:n+news.length<=maxLen) (aq:(n+news.length)*i.bytes<=140737488355328) (au:base<=w.heap.size) :
  ∃ v' w',(Builtin.append_ #[t,t] ty #[v,x]).run P w = .ok v' w'/\w'.ownsRow base e am v' (n+news.length) (xs++vals)/\w.grownBy w' v.ownBlock/\(v'.ownBlock=v.ownBlock\/v'.ownBlock=some w.heap.size):=by
 have ak:∀ c,x = .slice none 0 c->news=[]->∃ v' w',(Builtin.append_ #[t,t] ty #[v,x]).run P w = .ok v' w'/\w'.ownsRow base e am v' (n+news.length) (xs++vals)/\w.grownBy w' v.ownBlock/\(v'.ownBlock=v.ownBlock\/v'.ownBlock=some w.heap.size):=by
  intro c hx hn;subst hx;subst hn;have hv:vals=[]:=Qd4 (by simpa using an.len);subst hv;refine ⟨v,w,?_,by simpa using ao,⟨rfl,rfl,rfl,Nat.le_refl _,fun _ _ _=>rfl⟩,.inl rfl⟩;rcases ao.2 with ⟨rfl,rfl⟩ | ⟨g,cap,bc,rfl,_,_,a6,_⟩
  ·simp [Builtin.append_,QI ht,sizeOf,XU hi,Builtin.lenOf,Builtin.firstCells]
  ·simp [Builtin.append_,QI ht,sizeOf,XU hi,Builtin.lenOf,Builtin.firstCells,a6,storeCells]
 rcases an.form with ⟨h1,h2⟩ | ⟨c,h1,h2⟩ | ⟨ad,c,rfl,hc⟩
 ·exact ak 0 h1 h2
 ·exact ak c h1 h2
 ·obtain ⟨v',w',g1,g2,g3,_,g5⟩:=run_append_own_at (P:=P) w base t ty e i z am i.bytes ht hi hz ar rfl a7 aw v n xs ao ad news.length c vals an.len hc an.one ay aq au;exact ⟨v',w',g1,g2,g3,g5⟩
theorem GN {o:Oper} {c:Call} {s x:Operand} {t:Nat} (ho:o.op = .call c) (hc:c.callee = .builtin .append) (ha:c.args.toList=[s,x]) (hat:c.argTypes.toList=[t,t]) {a:Act} {w w':World} {v':Value}
  (h:(Builtin.append_ #[t,t] o.type #[a.eval s,a.eval x]).run P w = .ok v' w'):(execOp a.eval o).run P w = .ok (.value v') w':=by
 have am:c.args = #[s,x]:=by rw [<- Qd7];simpa using ha
 have ak:c.argTypes = #[t,t]:=by rw [<- Qd7];simpa using hat
 unfold execOp;rw [ho];simp only [resolve,hc,am,ak,invoke,builtin,QcT,Qde,QcQ,List.map_toArray,Qdj,List.map_nil,h]
def Fk (old:Option Nat) (h:List (Nat × Ob)):List (Nat × Ob):=
 match old with
 |some l=>rem l h
 |none=>h
theorem Te {β:Nat->Option Nat} {S:Nat->Prop} {st:St} {a:Act} {w w':World} (hR:Rel E β S st a w) {ak e am:Nat} {rows news:List (List D)} {vals:List Value} (b2:∀ (i j:Nat) (r:List D) (x:D),news[i]? = some r->r[j]? = some x->∃ u,vals[i*am+j]? = some u/\Rd S w u x) (b4:∀ (i:Nat) (r:List D),news[i]? = some r->r.length=am)
  (hn:look st.h ak=none) (hc:Wn st ak=true) {v v':Value} {base:Nat} {xs:List Value} (old:Option Nat)
  (aq:∀ l,old=some l->(look st.h l).isSome=true)
  (ar:∀ b,v.ownBlock=some b->∃ l,old=some l/\β l=some b)
  (b6:∀ (i j:Nat) (r:List D) (y:D),rows[i]? = some r->r[j]? = some y->∃ u,xs[i*am+j]? = some u/\Rd S w u y) (bz:∀ (i:Nat) (r:List D),rows[i]? = some r->r.length=am) (b1:xs.length=rows.length*am)
  (bj:w'.ownsRow base e am v' (rows.length+news.length) (xs++vals)) (hg:w.grownBy w' v.ownBlock) (hat:v'.ownBlock=v.ownBlock\/∀ b,v'.ownBlock=some b->w.heap.size<=b) :
  ∃ β' S',Rel E β' S' ⟨st.n,st.tm,(ak,.arr e am (rows++news))::rem ak (Fk old st.h)⟩ a w' /\
   RdA β' S' (look ((ak,.arr e am (rows++news))::rem ak (Fk old st.h))) w' (tmv a) v' (.arr ak):=by
 have ay:∀ k,look ((ak,Ob.arr e am (rows++news))::rem ak (Fk old st.h)) k=if k=ak then some (.arr e am (rows++news)) else if old=some k then none else look st.h k:=by
  intro k;rw [ZM];by_cases e1:k=ak
  ·simp [e1]
  ·rw [QcX e1,QcX e1];cases old with
   |none=>simp [Fk]
   |some l=>
    simp only [Fk,FL,Option.some.injEq];by_cases e2:k=l
    ·simp [e2]
    ·rw [QcX e2,QcX (fun h=>e2 h.symm)]
 have bm:∀ b,S b->w'.heap[b]? = w.heap[b]?:=fun b hS=>hg.block b (hR.hr.sb b hS) (fun e1=>by
  obtain ⟨l,hl,hb⟩:=ar b e1.symm;exact hR.hr.apart l b (aq l hl) hb hS)
 have bd:∀ k b,(look st.h k).isSome=true->old≠some k->β k=some b->w'.heap[b]? = w.heap[b]?:=fun k b hs ax hb=>hg.block b (P4 hR hs hb) (fun e1=>by
  obtain ⟨l,hl,aw⟩:=ar b e1.symm;exact ax (by rw [hl,hR.hr.inj k l b hs (aq l hl) hb aw]))
 have b7:(xs++vals).length=(rows.length+news.length)*am:=bj.1;have bc:∀ (i j:Nat) (r:List D) (y:D),(rows++news)[i]? = some r->r[j]? = some y->∃ u,(xs++vals)[i*am+j]? = some u/\Rd S w' u y:=by
  intro i j r y h1 h2;by_cases hi:i<rows.length
  ·rw [List.getElem?_append_left hi] at h1;obtain ⟨u,hu,hr⟩:=b6 i j r y h1 h2;refine ⟨u,?_,hr.mono (fun _ h=>h) bm⟩;rw [List.getElem?_append_left ((QcO.1 hu).1)];exact hu
  ·rw [List.getElem?_append_right (by omega)] at h1;obtain ⟨u,hu,hr⟩:=b2 _ j r y h1 h2;refine ⟨u,?_,hr.mono (fun _ h=>h) bm⟩;have hm:i*am=(i-rows.length)*am+rows.length*am:=by rw [<- Nat.add_mul];congr 1;omega
   rw [List.getElem?_append_right (by omega),b1,show i*am+j-rows.length*am=(i-rows.length)*am+j from by omega];exact hu
 have bo:∀ (i:Nat) (r:List D),(rows++news)[i]? = some r->r.length=am:=by
  intro i r h1;by_cases hi:i<rows.length
  ·rw [List.getElem?_append_left hi] at h1;exact bz i r h1
  ·rw [List.getElem?_append_right (by omega)] at h1;exact b4 _ r h1
 obtain ⟨gb,a6,b3,b5⟩:∃ gb:Option Nat,v'.ownBlock=gb/\(∀ β',β' ak=gb->ObR β' S (look ((ak,Ob.arr e am (rows++news))::rem ak (Fk old st.h))) w' ak (.arr e am (rows++news))) /\
   ∀ β',β' ak=gb->RdA β' S (look ((ak,.arr e am (rows++news))::rem ak (Fk old st.h))) w' (tmv a) v' (.arr ak):=by
  rcases bj.2 with ⟨rfl,h0⟩ | ⟨g,cap,bq,rfl,_,hw,bh,b0,bu,bl⟩
  ·have bv:rows++news=[]:=Qd4 (by simpa using h0);refine ⟨none,rfl,fun β' hb=>.inl ⟨hb,bv⟩,fun β' hb=>.arr0 ak e am hb (by rw [ay,Qd6 rfl,bv])⟩
  ·have bp:(rows++news).length=rows.length+news.length:=by simp
   refine ⟨some g,rfl,fun β' hb=>.inr ⟨g,bq,hb,hw,?_,bo,fun i j r y h1 h2=>?_⟩,fun β' hb=>?_⟩
   ·rw [bp,bu];exact QcV _ bh
   ·obtain ⟨u,hu,hr⟩:=bc i j r y h1 h2;refine ⟨u,?_,hr⟩;rw [<- bl,List.getElem?_take] at hu;split at hu
    ·simpa using hu
    ·cases hu
   ·have:=RdA.arr (S:=S) (tm:=tmv a) (h:=look ((ak,Ob.arr e am (rows++news))::rem ak (Fk old st.h))) ak g cap e am (rows++news) bq e (0,0) hb (by rw [ay,Qd6 rfl]) hw bu (by rw [bp];exact bh) b0;rw [bp] at this;exact this
 have a8:∀ k b,k≠ak->(look st.h k).isSome=true->old≠some k->β k=some b->gb=some b->False:=by
  intro k b _ hs ax hb he;rcases hat with h | h
  ·obtain ⟨l,hl,aw⟩:=ar b (by rw [<- h,a6,he]);exact ax (by rw [hl,hR.hr.inj k l b hs (aq l hl) hb aw])
  ·have:=h b (by rw [a6,he]);have:=P4 hR hs hb;omega
 have ao:∀ k,k≠ak->(look ((ak,Ob.arr e am (rows++news))::rem ak (Fk old st.h)) k).isSome=true->(look st.h k).isSome=true/\old≠some k:=by
  intro k hk hs;rw [ay,QcX hk] at hs;by_cases e1:old=some k
  ·rw [Qd6 e1] at hs;cases hs
  ·rw [QcX e1] at hs;exact ⟨hs,e1⟩
 have bx:old≠some ak:=fun e1=>by have:=aq ak e1;rw [hn] at this;cases this
 refine ⟨Ty β ak gb,S,?_,b5 _ (by simp [Ty])⟩;refine hR.upd (fun _ h=>h) bm (fun k=>k=ak\/old=some k) (fun k hk=>?_) (fun k hk=>?_) (fun k o hk ho=>?_) ?_ ?_ ?_ (fun b hS=>Qdh (hR.hr.sb b hS) hg.size) hR.hr.sfr ?_
 ·have a9:k≠ak:=fun h=>hk (.inl h)
  have br:old≠some k:=fun h=>hk (.inr h)
  exact ⟨by simp [Ty,a9],by rw [ay,QcX a9,QcX br],fun b hs hb=>bd k b hs br hb⟩
 ·rcases hk with rfl | hk
  ·exact .inr hc
  ·left;have a9:k≠ak:=fun h=>bx (h▸hk)
   have au:look ((ak,Ob.arr e am (rows++news))::rem ak (Fk old st.h)) k=none:=by rw [ay,QcX a9,Qd6 hk]
   exact ⟨by simp [Ty,a9],fun _=>au,fun _ _ _ _=>.inl au,fun b cs ty fz hs=>(by rw [au] at hs;cases hs),fun _ _ _=>.inl au⟩
 ·by_cases e1:k=ak
  ·subst e1;rw [ay,Qd6 rfl] at ho;injection ho with ho
   subst ho;exact b3 _ (by simp [Ty])
  ·rcases hk with h | h
   ·exact absurd h e1
   ·rw [ay,QcX e1,Qd6 h] at ho;cases ho
 ·intro k k' b h1 h2 h3 h4;unfold Ty at h3 h4;by_cases e1:k=ak <;> by_cases e2:k'=ak
  ·rw [e1,e2]
  ·rw [Qd6 e1] at h3;rw [QcX e2] at h4;obtain ⟨hs,ax⟩:=ao k' e2 h2;exact (a8 k' b e2 hs ax h4 h3).elim
  ·rw [QcX e1] at h3;rw [Qd6 e2] at h4;obtain ⟨hs,ax⟩:=ao k e1 h1;exact (a8 k b e1 hs ax h3 h4).elim
  ·rw [QcX e1] at h3;rw [QcX e2] at h4;exact hR.hr.inj k k' b (ao k e1 h1).1 (ao k' e2 h2).1 h3 h4
 ·intro k b h1 h2 hS;unfold Ty at h2;by_cases e1:k=ak
  ·rw [Qd6 e1] at h2;rcases hat with h | h
   ·obtain ⟨l,hl,aw⟩:=ar b (by rw [<- h,a6,h2]);exact hR.hr.apart l b (aq l hl) aw hS
   ·have:=h b (by rw [a6,h2]);have:=hR.hr.sb b hS;omega
  ·rw [QcX e1] at h2;exact hR.hr.apart k b (ao k e1 h1).1 h2 hS
 ·intro k b h1 h2;unfold Ty at h2;by_cases e1:k=ak
  ·rw [Qd6 e1] at h2;rcases hat with h | h
   ·obtain ⟨l,hl,aw⟩:=ar b (by rw [<- h,a6,h2]);exact hR.hr.own l b (aq l hl) aw
   ·have:=h b (by rw [a6,h2]);right;have:=hR.hr.fr.size;omega
  ·rw [QcX e1] at h2;exact hR.hr.own k b (ao k e1 h1).1 h2
 ·have fr:=hR.hr.fr;refine ⟨hg.os.trans fr.os,hg.tape.trans fr.tape,hg.output.trans fr.output,Nat.le_trans fr.size hg.size,fun b hb hM=>(hg.block b (Qdh hb fr.size) (fun e1=>?_)).trans (fr.block b hb hM)⟩;obtain ⟨l,hl,aw⟩:=ar b e1.symm;rcases hR.hr.own l b (aq l hl) aw with h | h
  ·exact hM h
  ·omega
theorem MG {β:Nat->Option Nat} {S:Nat->Prop} {st:St} {a:Act} {w w':World} (hR:Rel E β S st a w) {ak e am:Nat} {rows news:List (List D)} {vals:List Value} {x:Value} (an:Src S w am x news vals)
  (hn:look st.h ak=none) (hc:Wn st ak=true) {v v':Value} {base:Nat} {xs:List Value} (old:Option Nat)
  (aq:∀ l,old=some l->(look st.h l).isSome=true)
  (au:∀ b,v.ownBlock=some b->∃ l,old=some l/\β l=some b)
  (ax:∀ (i j:Nat) (r:List D) (y:D),rows[i]? = some r->r[j]? = some y->∃ u,xs[i*am+j]? = some u/\Rd S w u y) (ar:∀ (i:Nat) (r:List D),rows[i]? = some r->r.length=am) (aw:xs.length=rows.length*am)
  (ao:w'.ownsRow base e am v' (rows.length+news.length) (xs++vals)) (hg:w.grownBy w' v.ownBlock) (hat:v'.ownBlock=v.ownBlock\/v'.ownBlock=some w.heap.size) :
  ∃ β' S',Rel E β' S' ⟨st.n,st.tm,(ak,.arr e am (rows++news))::rem ak (Fk old st.h)⟩ a w' /\
   RdA β' S' (look ((ak,.arr e am (rows++news))::rem ak (Fk old st.h))) w' (tmv a) v' (.arr ak):=
 Te hR an.rd an.row hn hc old aq au ax ar aw ao hg (hat.imp id fun h b hb=>by rw [h] at hb;injection hb with hb;omega)
theorem Q29 {tt:TT} (hT:TOk P tt) {o:Oper} {c:Call} {s x:Operand} {t:Nat} (ho:o.op = .call c) (au:c.callee = .builtin .append) (ha:c.args.toList=[s,x]) (hat:c.argTypes.toList=[t,t]) {g:Bool} {aq:Nat} {ev:Operand->AV} {hl:Nat->Option Ob} {k:Dl->Option R} {r:R}
  (h:Q2g tt aq g hl t (ev s) (ev x) k=some r):∃ dl,k dl=some r/\(g=true->Jn P E o ev hl dl):=by
 have bj:c.args = #[s,x]:=by rw [<- Qd7];simpa using ha
 have b5:s∈o.op.operands.toList:=by simp [ho,Op.operands,Call.operands,au,bj]
 have b1:x∈o.op.operands.toList:=by simp [ho,Op.operands,Call.operands,au,bj]
 unfold Q2g at h
 ·split at h
  case h_2=>cases h
  rename_i e ao hk;split at h
  case h_2=>cases h
  rename_i ei cw;cases hc:(Nat.ble 1 ei.bytes&&Nat.beq ei.zero.length ao) with
  |false=>simp [hc] at h
  |true=>
   simp only [hc,QcU] at h;simp only [QcP] at hc;have ay:=QcY hc.1;split at h
   case h_2=>cases h
   rename_i news rx a8;obtain ⟨ti,c8,cy⟩:=Xh hk (by simp);obtain ⟨hu,ar,inf,a6,bn⟩:=(hT t ti c8).ksl _ _ cy;obtain ⟨db,ax,dh,bo,z,hz,c2⟩:=(hT e ei cw).inf;rw [a6] at ax;injection ax with ax
   subst ax;have bc:z.cells.size=ao:=by rw [<- Qd3,c2];exact QcR hc.2
   split at h
   ·-- nil
    rename_i bk;obtain ⟨_,h,ak⟩:=Qt h;obtain ⟨hn,h⟩:=WE h;refine ⟨_,h,fun hg=>?_⟩;have ak:=PC (ak hg);intro β S st a w hR hO hA bh K Q hK;have aw:look st.h aq=none:=by rw [hA aq (.inr (by simp [wrL]))];exact hn
    have bd:Wn st aq=true:=by simpa [Zi,aw] using bh
    have hv:=(bk▸hO.at b5).nil_inv;obtain ⟨vals,am⟩:=AD ar a8 hR (hO.at b1) (fun l a9=>hA l (.inl a9));have bq:news.length<=140737488355328:=Nat.le_trans (by have:=Qdf news.length ay;omega) ak;obtain ⟨v',w',g1,g2,g3,g4⟩:=KZ (ty:=o.type) hu a6 hz bn bc ar (World.ownsRow_nil w w.heap.size e ao) am (by unfold maxLen;omega) (by rw [bo];simpa using ak) (Nat.le_refl _);unfold Oper.wp;rw [GN ho au ha hat (by rw [hv];exact g1)];refine hK _ _ ?_;have:=MG (rows:=[]) (v:=.slice none 0 0) hR am aw bd none (fun _ h=>by cases h) (fun b h=>by simp [Value.ownBlock] at h) (fun i j r y h1=>by simp at h1) (fun i r h1=>by simp at h1) (by simp) g2 g3 g4;exact this
   ·-- a full slice
    rename_i s0 rows bk;cases hb:Nat.beq s0 ao with
    |false=>simp [hb] at h
    |true=>
     simp only [hb,QcU] at h;obtain rfl:=QcR hb;obtain ⟨_,h,bi⟩:=Qt h;obtain ⟨_,h,ak⟩:=Qt h;obtain ⟨hn,h⟩:=WE h;refine ⟨_,h,fun hg=>?_⟩;have ak:=PC (ak hg);have bi:news≠[]:=fun e=>by have:=bi hg;rw [e] at this;cases this
     intro β S st a w hR hO hA bh K Q hK;have aw:look st.h aq=none:=by rw [hA aq (.inr (by simp [wrL]))];exact hn
     have bd:Wn st aq=true:=by simpa [Zi,aw] using bh
     obtain ⟨ad,hv,b4⟩:=(bk▸hO.at b5).fs_inv;obtain ⟨vals,am⟩:=AD ar a8 hR (hO.at b1) (fun l a9=>hA l (.inl a9));have bq:rows.length+news.length<=140737488355328:=Nat.le_trans (by have:=Qdf (rows.length+news.length) ay;omega) ak;have dp:0<news.length:=List.length_pos_iff.2 bi;obtain ⟨sa,sc,cz,c9⟩:∃ (sa:Addr) (sc:Nat),a.eval x = .slice (some sa) news.length sc/\∀ (j:Nat) (u:Value),vals[j]? = some u->w.cell? (sa.add j)=some u:=by
      rcases am.form with ⟨_,h2⟩ | ⟨_,_,h2⟩ | ⟨sa,sc,h1,h2⟩
      ·exact absurd h2 bi
      ·exact absurd h2 bi
      ·exact ⟨sa,sc,h1,h2⟩
     obtain ⟨cn,a7⟩:=AD (hl:=hl) (av:=.d (.sl s0 rows)) (news:=rows) (rx:=[]) ar (by simp [Cj]) hR (.d _ _ b4) (fun l a9=>by cases a9);have br:∀ c,a.eval s = .slice none 0 c->rows=[]->o.wp P a w K Q:=by
      intro c cj bg;have c6:a.eval s = .slice none 0 0:=by
       rw [hv,bg] at cj ⊢;injection cj with h1 h2 h3
       rw [h1];rfl
      subst bg;obtain ⟨v',w',g1,g2,g3,g4⟩:=KZ (ty:=o.type) hu a6 hz bn bc ar (World.ownsRow_nil w w.heap.size e s0) am (by unfold maxLen;omega) (by rw [bo];simpa using ak) (Nat.le_refl _);unfold Oper.wp;rw [GN ho au ha hat (by rw [c6];exact g1)];refine hK _ _ ?_;exact MG (rows:=[]) (v:=.slice none 0 0) hR am aw bd none (fun _ h=>by cases h) (fun b h=>by simp [Value.ownBlock] at h) (fun i j r y h1=>by simp at h1) (fun i r h1=>by simp at h1) (by simp) g2 g3 g4
     rcases a7.form with ⟨h1,h2⟩ | ⟨c,h1,h2⟩ | ⟨oa,oc,h1,h2⟩
     ·exact br _ h1 h2
     ·exact br _ h1 h2
     ·have dn:oc=rows.length:=by
       rw [hv] at h1;injection h1 with _ _ h3
       exact h3.symm
      obtain ⟨v',w',g1,g2,g3⟩:=run_append_arg_grows (P:=P) w t o.type e inf z s0 inf.bytes hu a6 hz bn rfl bc ar oa rows.length oc cn a7.len h2 sa news.length sc vals am.len c9 (by omega) (by unfold maxLen;omega) (by rw [bo];exact ak);unfold Oper.wp;rw [GN ho au ha hat (by rw [h1,cz];exact g1)];refine hK _ _ ?_;refine Te (rows:=rows) (v:=.slice none 0 0) hR am.rd am.row aw bd none (fun _ h=>by cases h) (fun b h=>by simp [Value.ownBlock] at h) a7.rd a7.row a7.len g2 g3 (.inr fun b hb=>?_);rcases g2.2 with ⟨rfl,_⟩ | ⟨g,cap,df,rfl,dj,_⟩
      ·simp [Value.ownBlock] at hb
      ·simp [Value.ownBlock] at hb;omega
   ·-- an array of the call's own
    rename_i l bk;split at h
    ·rename_i e' s' rows ca;cases hb:(Nat.beq e e'&&Nat.beq ao s') with
     |false=>simp [hb] at h
     |true=>
      simp only [hb,QcU] at h;simp only [QcP] at hb;obtain rfl:=QcR hb.1;obtain rfl:=QcR hb.2;obtain ⟨_,h,ak⟩:=Qt h;obtain ⟨hn,h⟩:=WE h;refine ⟨_,h,fun hg=>?_⟩;have ak:=PC (ak hg);intro β S st a w hR hO hA bh K Q hK;have aw:look st.h aq=none:=by rw [hA aq (.inr (by simp [wrL]))];exact hn
      have bl:look st.h l=some (.arr e ao rows):=by rw [hA l (.inl (by simp))];exact ca
      have bd:Wn st aq=true:=by simp [Zi,aw] at bh;exact bh
      obtain ⟨vals,am⟩:=AD ar a8 hR (hO.at b1) (fun l a9=>hA l (.inl (by simp [a9])));have bq:rows.length+news.length<=140737488355328:=Nat.le_trans (by have:=Qdf (rows.length+news.length) ay;omega) ak;have cb:∀ (base:Nat) (xs:List Value) (v:Value),a.eval s=v->w.ownsRow base e ao v rows.length xs->base<=w.heap.size->(∀ b,v.ownBlock=some b->β l=some b) ->
        (∀ (i j:Nat) (r:List D) (y:D),rows[i]? = some r->r[j]? = some y->∃ u,xs[i*ao+j]? = some u/\Rd S w u y)->(∀ (i:Nat) (r:List D),rows[i]? = some r->r.length=ao)->o.wp P a w K Q:=by
       intro base xs v hv bu bz cg c5 cm;obtain ⟨v',w',g1,g2,g3,g4⟩:=KZ (ty:=o.type) hu a6 hz bn bc ar bu am (by unfold maxLen;omega) (by rw [bo];exact ak) bz;unfold Oper.wp;rw [GN ho au ha hat (by rw [hv];exact g1)];refine hK _ _ ?_;exact MG (rows:=rows) (v:=v) hR am aw bd (some l) (fun l' h=>by injection h with h;subst h;simp [bl]) (fun b h=>⟨l,rfl,cg b h⟩) c5 cm bu.1 g2 g3 g4
      rcases RdA.arr_inv bl (bk▸hO.at b5) with ⟨_,bg,hv⟩ | ⟨b,cap,cs,ty,fz,b0,hv,hw,cf,b9,co⟩
      ·have:=World.ownsRow_nil w w.heap.size e ao;exact cb w.heap.size [] _ hv (by rw [bg];exact this) (Nat.le_refl _) (fun b h=>by simp [Value.ownBlock] at h) (fun i j r y h1=>by rw [bg] at h1;simp at h1) (fun i r h1=>by rw [bg] at h1;simp at h1)
      ·rcases hR.hr.ob l _ bl with ⟨cq,_⟩ | ⟨b2,c4,ce,bx,dd,cc,b4⟩
       ·rw [b0] at cq;cases cq
       obtain rfl:b=b2:=by rw [b0] at ce;injection ce
       obtain rfl:cs=c4:=by rw [hw] at bx;injection bx with h1;injection h1
       refine cb 0 (cs.toList.take (rows.length*ao)) _ hv ⟨by simp;omega,.inr ⟨b,cap,cs,rfl,Nat.zero_le _,bx,b9,co,cf,rfl⟩⟩ (Nat.zero_le _) (fun b3 h=>by simp [Value.ownBlock] at h;subst h;exact b0) (fun i j r y h1 h2=>?_) cc;obtain ⟨u,cv,c3⟩:=b4 i j r y h1 h2;have hi:i<rows.length:=(QcO.1 h1).1;have hj:j<ao:=by have:=cc i r h1;have:=(QcO.1 h2).1;omega
       have de:(i+1)*ao<=rows.length*ao:=QcV _ hi;have c7:(i+1)*ao=i*ao+ao:=Qdc i _;exact ⟨u,by rw [List.getElem?_take,Qd6 (by omega)];simpa using cv,c3⟩
    ·cases h
   ·cases h
end

section
variable {P:Program} {E:Env} {R:Type}
def VQ (h:Nat->Option Ob):List (Nat × Option Ob)->Nat->Option Ob
 |[]=>h
 |(l,o)::r=>VQ (fun k=>if k=l then o else h k) r
theorem G5:∀ (wr:List (Nat × Option Ob)) (h:List (Nat × Ob)),look (Pd h wr)=VQ (look h) wr
 |[],h=>rfl
 |(l,some o)::r,h=>by
  rw [Pd,VQ,G5 r];congr 1;funext k;exact ZM l k o h
 |(l,none)::r,h=>by
  rw [Pd,VQ,G5 r];congr 1;funext k;exact FL l k h
theorem Wy:∀ {wr:List (Nat × Option Ob)} {h:Nat->Option Ob} {l:Nat},l ∉ wr.map (·.1)->VQ h wr l=h l
 |[],_,_,_=>rfl
 |(k,o)::r,h,l,hn=>by
  simp only [Qdj,Qd5,not_or] at hn;rw [VQ,Wy hn.2,QcX hn.1]
structure CallOut (β:Nat->Option Nat) (S:Nat->Prop) (h:Nat->Option Ob) (w:World) (dl:Dl) (β':Nat->Option Nat) (S':Nat->Prop) (w':World) (v:Value):Prop where
 hs:∀ b,S b->S' b
 sf:∀ b,S' b->S b\/w.heap.size<=b\/∃ l,l∈wrL dl/\(h l).isSome=true/\β l=some b
 sb:∀ b,S' b->b<w'.heap.size
 fr:Fr (fun b=>∃ l,l∈wrL dl/\(h l).isSome=true/\β l=some b) w w'
 bsame:∀ l,l ∉ wrL dl->β' l=β l
 obs:∀ l o,l∈wrL dl->VQ h dl.wr l=some o->ObR β' S' (VQ h dl.wr) w' l o
 keep:∀ l,l∈wrL dl->(h l).isSome=true->Keep β h w β' (VQ h dl.wr) w' l
 blk:∀ l b,l∈wrL dl->(VQ h dl.wr l).isSome=true->β' l=some b->(w.heap.size<=b\/∃ l0,l0∈wrL dl/\(h l0).isSome=true/\β l0=some b)/\¬ S' b
 inj:∀ l l' b,l∈wrL dl->l'∈wrL dl->(VQ h dl.wr l).isSome=true->(VQ h dl.wr l').isSome=true->β' l=some b->β' l'=some b->l=l'
 none:∀ l,l∈wrL dl->h l=none->VQ h dl.wr l=none->β' l=β l
 res:RdA β' S' (VQ h dl.wr) w' tm0 v dl.v
 gd:∀ t,gds t dl.v=false
structure Objs (β:Nat->Option Nat) (S:Nat->Prop) (h:Nat->Option Ob) (w:World):Prop where
 ob:∀ l o,h l=some o->ObR β S h w l o
 inj:∀ l l' b,(h l).isSome=true->(h l').isSome=true->β l=some b->β l'=some b->l=l'
 apart:∀ l b,(h l).isSome=true->β l=some b->¬ S b
 sb:∀ b,S b->b<w.heap.size
def ArgsRd (β:Nat->Option Nat) (S:Nat->Prop) (h:Nat->Option Ob) (w:World) (args:List Value) (ak:List AV):Prop:=
 args.length=ak.length/\∀ (i:Nat) (v:Value) (av:AV),args[i]? = some v->ak[i]? = some av->RdA β S h w tm0 v av
def Ze (P:Program) (f:Nat) (avs:List AV) (hl:Nat->Option Ob) (dl:Dl):Prop:=
 (∃ fn, P.funcs[f]? = some fn /\ fn.body.isSome = true /\ (fn.name == "runtime.NumGoroutine") = false) /\
 ∀ β S h w args,Objs β S h w->ArgsRd β S h w args avs->(∀ l,l∈dl.rd\/l∈wrL dl->h l=hl l) ->
  Calls P f args.toArray w fun e w'=>∃ v β' S',e = .returned v/\CallOut β S h w dl β' S' w' v
def Ll (P:Program) (spec:Q1j):Prop:=
 ∀ (R:Type) (f am:Nat) (g:Bool) (ak:List AV) (hl:Nat->Option Ob) (k:Dl->Option R) (r:R),spec R f am g ak hl k=some r ->
  ∃ dl,k dl=some r/\(g=true->Ze P f ak hl dl)
theorem Rel.objs {β:Nat->Option Nat} {S:Nat->Prop} {st:St} {a:Act} {w:World} (hR:Rel E β S st a w):Objs β S (look st.h) w:=⟨hR.hr.ob,hR.hr.inj,hR.hr.apart,hR.hr.sb⟩
theorem Q6y {β:Nat->Option Nat} {S S2:Nat->Prop} {h:Nat->Option Ob} {w:World} {tm:Nat->Value} {v:Value} {av:AV} (hv:RdA β S h w tm v av) (hs:H7 av=true):RdA β S2 h w tm v av:=by
 have hL:∀ (l:List AV) (i:Nat) (x:AV),l[i]? = some x->Pj l=true->H7 x=true:=by
  intro l;induction l with
  |nil=>intro i x h;simp at h
  |cons a r ih=>
   intro i x h hs;simp only [Pj,QcP] at hs;cases i with
   |zero=>simp at h;subst h;exact hs.1
   |succ i=>exact ih i x (by simpa using h) hs.2
 induction hv with
 |top v=>exact .top v
 |d v x hx=>cases hx with
  |int k n=>exact .d _ _ (.int k n)
  |bool b=>exact .d _ _ (.bool b)
  |str s=>exact .d _ _ (.str s)
  |sl0 a c s=>simp [H7] at hs
  |sl=>simp [H7] at hs
 |nil=>exact .nil
 |ag cs l hl _ ih=>exact .ag cs l hl fun i x hx=>ih i x hx (hL l i x hx (by simpa [H7] using hs))
 |tup cs l hl _ ih=>exact .tup cs l hl fun i x hx=>ih i x hx (hL l i x hx (by simpa [H7] using hs))
 |fn=>simp [H7] at hs
 |ptr l off b hb=>exact .ptr l off b hb
 |sa v l t b hb hv=>exact .sa v l t b hb hv
 |el=>simp [H7] at hs
 |fs=>simp [H7] at hs
 |mpd=>simp [H7] at hs
 |ex v=>exact .ex v
 |arr0 l e s hb hh=>exact .arr0 l e s hb hh
 |arr l b cap e s rows cs ty fz hb hh hw ao am an=>exact .arr l b cap e s rows cs ty fz hb hh hw ao am an
 |mp l b t f hb hh=>exact .mp l b t f hb hh
 |ap l i off b e s rows hb hh=>exact .ap l i off b e s rows hb hh
 |dang v av l hl hh h1=>exact .dang v av l hl hh h1
 |gdT=>simp [H7] at hs
 |gdF=>simp [H7] at hs
theorem Q7b {β β':Nat->Option Nat} {S S':Nat->Prop} {st:St} {a:Act} {w w':World} {v:Value} (hR:Rel E β S st a w) {dl:Dl} (a9:Zi st dl.wr=true) (hc:CallOut β S (look st.h) w dl β' S' w' v) :
  Rel E β' S' ⟨st.n,st.tm,Pd st.h dl.wr⟩ a w':=by
 have ak:=G5 dl.wr st.h;have bc:∀ b,S b->w'.heap[b]? = w.heap[b]?:=fun b hS=>hc.fr.block b (hR.hr.sb b hS) (fun ⟨l,_,hs,hb⟩=>hR.hr.apart l b hs hb hS)
 have au:∀ l,l∈wrL dl->look st.h l=none->VQ (look st.h) dl.wr l=none\/Wn st l=true:=by
  intro l hl hn;have:∀ (wr:List (Nat × Option Ob)) (h:Nat->Option Ob),Zi st wr=true->h l=none->VQ h wr l=none\/Wn st l=true:=by
   intro wr;induction wr with
   |nil=>intro h _ hn;exact .inl hn
   |cons x r ih=>
    intro h aq a8;obtain ⟨k,o⟩:=x;simp only [Zi,QcP] at aq;by_cases e:l=k
    ·subst e;cases o with
     |none=>exact ih _ aq.2 (by simp)
     |some o=>
      right;have:=aq.1;rw [hn] at this;exact this
    ·exact ih _ aq.2 (by rw [QcX e];exact a8)
  exact this dl.wr (look st.h) a9 hn
 refine hR.upd hc.hs bc (fun l=>l∈wrL dl) (fun l hl=>?_) (fun l hl=>?_) (fun l o hl ho=>?_) ?_ ?_ ?_ hc.sb ?_ ?_
 ·refine ⟨hc.bsame l hl,by rw [ak];exact Wy hl,fun b hs hb=>hc.fr.block b (P4 hR hs hb) (fun ⟨l',ar,ao,an⟩=>?_)⟩;exact hl (by rw [hR.hr.inj l l' b hs ao hb an];exact ar)
 ·cases hs:look st.h l with
  |some o=>left;rw [ak];exact hc.keep l hl (by simp [hs])
  |none=>
   rcases au l hl hs with h | h
   ·left;refine ⟨?_,fun _=>(by rw [ak];exact h),fun e s rows h'=>(by rw [hs] at h';cases h'),fun b cs ty fz h'=>(by rw [ak,h] at h';cases h'),fun t f h'=>(by rw [hs] at h';cases h')⟩;exact hc.none l hl hs h
   ·exact .inr h
 ·rw [ak] at ho ⊢;exact hc.obs l o hl ho
 ·intro l l' b h1 h2 h3 h4;rw [ak] at h1 h2;by_cases e1:l∈wrL dl <;> by_cases e2:l'∈wrL dl
  ·exact hc.inj l l' b e1 e2 h1 h2 h3 h4
  ·rw [Wy e2] at h2;rw [hc.bsame l' e2] at h4;rcases (hc.blk l b e1 h1 h3).1 with h | ⟨l0,ay,hs,hb⟩
   ·have:=P4 hR h2 h4;omega
   ·exact absurd ay (by rw [hR.hr.inj l0 l' b hs h2 hb h4];exact e2)
  ·rw [Wy e1] at h1;rw [hc.bsame l e1] at h3;rcases (hc.blk l' b e2 h2 h4).1 with h | ⟨l0,ay,hs,hb⟩
   ·have:=P4 hR h1 h3;omega
   ·exact absurd ay (by rw [<- hR.hr.inj l l0 b h1 hs h3 hb];exact e1)
  ·rw [Wy e1] at h1;rw [Wy e2] at h2;rw [hc.bsame l e1] at h3;rw [hc.bsame l' e2] at h4;exact hR.hr.inj l l' b h1 h2 h3 h4
 ·intro l b h1 h2 hS;rw [ak] at h1;by_cases e1:l∈wrL dl
  ·exact (hc.blk l b e1 h1 h2).2 hS
  ·rw [Wy e1] at h1;rw [hc.bsame l e1] at h2;rcases hc.sf b hS with h | h | ⟨l',ar,ao,an⟩
   ·exact hR.hr.apart l b h1 h2 h
   ·have:=P4 hR h1 h2;omega
   ·exact e1 (by rw [hR.hr.inj l l' b h1 ao h2 an];exact ar)
 ·intro l b h1 h2;rw [ak] at h1;by_cases e1:l∈wrL dl
  ·rcases (hc.blk l b e1 h1 h2).1 with h | ⟨l0,_,hs,hb⟩
   ·right;have:=hR.hr.fr.size;omega
   ·exact hR.hr.own l0 b hs hb
  ·rw [Wy e1] at h1;rw [hc.bsame l e1] at h2;exact hR.hr.own l b h1 h2
 ·intro b hS;rcases hc.sf b hS with h | h | ⟨l',ar,ao,an⟩
  ·exact hR.hr.sfr b h
  ·right;right;have:=hR.hr.fr.size;omega
  ·exact .inr (hR.hr.own l' b ao an)
 ·have fr:=hR.hr.fr;refine ⟨hc.fr.os.trans fr.os,hc.fr.tape.trans fr.tape,hc.fr.output.trans fr.output,Nat.le_trans fr.size hc.fr.size,fun b hb hM=>(hc.fr.block b (Qdh hb fr.size) (fun ⟨l,_,hs,an⟩=>?_)).trans (fr.block b hb hM)⟩;rcases hR.hr.own l b hs an with h | h
  ·exact hM h
  ·omega
end

section
variable {P:Program} {E:Env} {R:Type}
def fzS (β:Nat->Option Nat) (S:Nat->Prop) (bs:List Nat):Nat->Prop:=fun b=>S b\/∃ l,l∈bs/\β l=some b
def fzH (h:Nat->Option Ob) (bs:List Nat):Nat->Option Ob:=fun k=>if k∈bs then none else h k
theorem Q8i (β:Nat->Option Nat) (h:Nat->Option Ob) (w:World) (bs:List Nat) (l:Nat):Keep β h w β (fzH h bs) w l:=by
 by_cases hl:l∈bs
 ·have hn:fzH h bs l=none:=by simp [fzH,hl]
  exact ⟨rfl,fun _=>hn,fun _ _ _ _=>.inl hn,fun b cs ty fz hs=>(by rw [hn] at hs;cases hs),fun _ _ _=>.inl hn⟩
 ·have hn:fzH h bs l=h l:=by simp [fzH,hl]
  exact ⟨rfl,fun h=>by rw [hn];exact h,fun e s rows hh=>.inr ⟨rows,by rw [hn];exact hh,rfl⟩,fun b cs ty fz _ _ hw=>⟨cs,ty,fz,hw,rfl⟩,fun _ f hh=>.inr ⟨f,by rw [hn];exact hh⟩⟩
theorem Q56 {β:Nat->Option Nat} {S:Nat->Prop} {h:Nat->Option Ob} {w:World} {tm:Nat->Value} {v:Value} {av:AV} (bs:List Nat) (hv:RdA β S h w tm v av):RdA β (fzS β S bs) (fzH h bs) w tm v av:=
 hv.mono (fun _ hb=>.inl hb) (fun _ _=>rfl) (fun _ _=>Q8i ..) (fun _ _=>rfl)
theorem Objs.fz {β:Nat->Option Nat} {S:Nat->Prop} {h:Nat->Option Ob} {w:World} (hO:Objs β S h w) (bs:List Nat) (aq:∀ l,l∈bs->∃ e s rows,h l=some (.arr e s rows)) (ax:∀ l b,(h l).isSome=true->β l=some b->b<w.heap.size):Objs β (fzS β S bs) (fzH h bs) w:=by
 have ak:∀ l,(fzH h bs l).isSome=true->(h l).isSome=true/\l ∉ bs:=by
  intro l hs;by_cases hl:l∈bs
  ·simp [fzH,hl] at hs
  ·simp [fzH,hl] at hs;exact ⟨hs,hl⟩
 refine ⟨fun l o ho=>?_,fun l l' b h1 h2=>hO.inj l l' b (ak l h1).1 (ak l' h2).1,fun l b h1 h2 hS=>?_,fun b hS=>?_⟩
 ·have a9:h l=some o:=by
   by_cases hl:l∈bs
   ·simp [fzH,hl] at ho
   ·simpa [fzH,hl] using ho
  have am:=hO.ob l o a9;cases o with
  |box cells=>
   obtain ⟨b,ty,cs,fz,hb,hw,hf,an,hr⟩:=am;exact ⟨b,ty,cs,fz,hb,hw,hf,an,fun i x hx=>Q56 bs (hr i x hx)⟩
  |arr e s rows=>
   rcases am with h0 | ⟨b,cs,hb,hw,an,a8,hr⟩
   ·exact .inl h0
   ·refine .inr ⟨b,cs,hb,hw,an,a8,fun i j r x h4 h5=>?_⟩;obtain ⟨v,hv,ay⟩:=hr i j r x h4 h5;exact ⟨v,hv,ay.mono (fun _ hb=>.inl hb) (fun _ _=>rfl)⟩
  |mp t f=>exact am
 ·obtain ⟨aw,hn⟩:=ak l h1;rcases hS with hS | ⟨l',au,bc⟩
  ·exact hO.apart l b aw h2 hS
  ·obtain ⟨e,s,rows,hh⟩:=aq l' au;exact hn (by rw [hO.inj l l' b aw (by simp [hh]) h2 bc];exact au)
 ·rcases hS with hS | ⟨l,hl,hb⟩
  ·exact hO.sb b hS
  ·obtain ⟨e,s,rows,hh⟩:=aq l hl;exact ax l b (by simp [hh]) hb
theorem Q3x {β:Nat->Option Nat} {S:Nat->Prop} {h:Nat->Option Ob} {w:World} {tm:Nat->Value} {v:Value} {l e s:Nat} {rows:List (List D)} (hO:Objs β S h w) (hh:h l=some (.arr e s rows)) (hv:RdA β S h w tm v (.arr l)) {S':Nat->Prop} (hS:∀ b,S b->S' b) (hb:∀ b,β l=some b->S' b) :
  Rd S' w v (.sl s rows):=by
 rcases RdA.arr_inv hh hv with ⟨_,rfl,rfl⟩ | ⟨b,cap,cs,ty,fz,ak,rfl,hw,a7,am,_⟩
 ·exact .sl0 _ _ _
 ·rcases hO.ob l _ hh with ⟨hn,_⟩ | ⟨b2,ao,an,aq,ar,au,aw⟩
  ·rw [ak] at hn;cases hn
  obtain rfl:b=b2:=by rw [ak] at an;injection an
  have hR:WH S' w ao s rows:=⟨ar,au,fun i j r x h1 h2=>by
   obtain ⟨u,hu,hr⟩:=aw i j r x h1 h2;exact ⟨u,hu,hr.mono hS (fun _ _=>rfl)⟩⟩
  exact hR.rd aq (hb b ak) am
theorem Mf {hl:Nat->Option Ob} {av ak:AV} {bs:List Nat} (h:Q3X hl av=some (ak,bs)) :
  (bs=[]/\ak=av/\FN av=true)\/∃ l e s rows,av = .arr l/\ak = .d (.sl s rows)/\bs=[l]/\hl l=some (.arr e s rows):=by
 unfold Q3X at h;split at h
 ·rename_i l;split at h
  ·rename_i e s rows hh;cases h;exact .inr ⟨l,e,s,rows,rfl,rfl,rfl,hh⟩
  ·cases h
 ·cases hn:FN av with
  |true=>simp only [hn,QcU,Option.some.injEq,Prod.mk.injEq] at h;exact .inl ⟨h.2.symm,h.1.symm,rfl⟩
  |false=>simp [hn] at h
theorem Es {hl:Nat->Option Ob}:∀ {l l':List AV} {bs:List Nat},Lw hl l=some (l',bs)->l'.length=l.length/\∀ (i:Nat) (av:AV),l[i]? = some av->∃ ak b,l'[i]? = some ak/\Q3X hl av=some (ak,b)/\∀ x∈b,x∈bs
 |[],l',bs,h=>by
  simp only [Lw,Option.some.injEq,Prod.mk.injEq] at h;obtain ⟨rfl,rfl⟩:=h;exact ⟨rfl,fun i av h=>by simp at h⟩
 |a::r,l',bs,h=>by
  simp only [Lw] at h;split at h
  ·rename_i a' b ha;split at h
   ·rename_i r' b' hr;simp only [Option.some.injEq,Prod.mk.injEq] at h;obtain ⟨rfl,rfl⟩:=h;obtain ⟨h1,h2⟩:=Es hr;refine ⟨by simp [h1],fun i av hi=>?_⟩;cases i with
    |zero=>simp at hi;subst hi;exact ⟨a',b,rfl,ha,fun x hx=>by simp [hx]⟩
    |succ i=>
     obtain ⟨ak,b2,g1,g2,g3⟩:=h2 i av (by simpa using hi);exact ⟨ak,b2,by simpa using g1,g2,fun x hx=>by simp [g3 x hx]⟩
   ·cases h
  ·cases h
theorem AY {hl:Nat->Option Ob}:∀ {l l':List AV} {bs:List Nat},Lw hl l=some (l',bs)->∀ x∈bs,∃ e s rows,hl x=some (.arr e s rows)
 |[],l',bs,h=>by
  simp only [Lw,Option.some.injEq,Prod.mk.injEq] at h;obtain ⟨_,rfl⟩:=h;simp
 |a::r,l',bs,h=>by
  simp only [Lw] at h;split at h
  ·rename_i a' b ha;split at h
   ·rename_i r' b' hr;simp only [Option.some.injEq,Prod.mk.injEq] at h;obtain ⟨_,rfl⟩:=h;intro x hx;rcases Qdi.1 hx with hx | hx
    ·rcases Mf ha with ⟨rfl,_⟩ | ⟨l,e,s,rows,_,_,rfl,hh⟩
     ·simp at hx
     ·simp at hx;subst hx;exact ⟨e,s,rows,hh⟩
    ·exact AY hr x hx
   ·cases h
  ·cases h
theorem E7 {hl:Nat->Option Ob} {av ak:AV} {bs:List Nat} (h:TR hl av=some (ak,bs)):∀ x∈bs,∃ e s rows,hl x=some (.arr e s rows):=by
 unfold TR at h;split at h
 ·split at h
  ·rename_i am l hc;simp only [Option.some.injEq,Prod.mk.injEq] at h;obtain ⟨_,rfl⟩:=h;exact AY hc
  ·cases h
 ·intro x hx;rcases Mf h with ⟨rfl,_⟩ | ⟨l,e,s,rows,_,_,rfl,hh⟩
  ·simp at hx
  ·simp at hx;subst hx;exact ⟨e,s,rows,hh⟩
theorem M7 {hl:Nat->Option Ob}:∀ {l l':List AV} {bs:List Nat},TN hl l=some (l',bs)->∀ x∈bs,∃ e s rows,hl x=some (.arr e s rows)
 |[],l',bs,h=>by
  simp only [TN,Option.some.injEq,Prod.mk.injEq] at h;obtain ⟨_,rfl⟩:=h;simp
 |a::r,l',bs,h=>by
  simp only [TN] at h;split at h
  ·rename_i a' b ha;split at h
   ·rename_i r' b' hr;simp only [Option.some.injEq,Prod.mk.injEq] at h;obtain ⟨_,rfl⟩:=h;intro x hx;rcases Qdi.1 hx with hx | hx
    ·exact E7 ha x hx
    ·exact M7 hr x hx
   ·cases h
  ·cases h
theorem Rx {hl:Nat->Option Ob}:∀ {l l':List AV} {bs:List Nat},TN hl l=some (l',bs)->l'.length=l.length/\∀ (i:Nat) (av:AV),l[i]? = some av->∃ ak b,l'[i]? = some ak/\TR hl av=some (ak,b)/\∀ x∈b,x∈bs
 |[],l',bs,h=>by
  simp only [TN,Option.some.injEq,Prod.mk.injEq] at h;obtain ⟨rfl,rfl⟩:=h;exact ⟨rfl,fun i av h=>by simp at h⟩
 |a::r,l',bs,h=>by
  simp only [TN] at h;split at h
  ·rename_i a' b ha;split at h
   ·rename_i r' b' hr;simp only [Option.some.injEq,Prod.mk.injEq] at h;obtain ⟨rfl,rfl⟩:=h;obtain ⟨h1,h2⟩:=Rx hr;refine ⟨by simp [h1],fun i av hi=>?_⟩;cases i with
    |zero=>simp at hi;subst hi;exact ⟨a',b,rfl,ha,fun x hx=>by simp [hx]⟩
    |succ i=>
     obtain ⟨ak,b2,g1,g2,g3⟩:=h2 i av (by simpa using hi);exact ⟨ak,b2,by simpa using g1,g2,fun x hx=>by simp [g3 x hx]⟩
   ·cases h
  ·cases h
theorem Q9r {β:Nat->Option Nat} {S:Nat->Prop} {h hl:Nat->Option Ob} {w:World} {tm:Nat->Value} {v:Value} {av ak:AV} {b bs:List Nat} (hO:Objs β S h w) (hA:∀ l,l∈bs->h l=hl l) (hb:∀ x∈b,x∈bs) (hc:Q3X hl av=some (ak,b)) (hv:RdA β S h w tm v av) :
  RdA β (fzS β S bs) (fzH h bs) w tm0 v ak:=by
 rcases Mf hc with ⟨_,rfl,hn⟩ | ⟨l,e,s,rows,rfl,rfl,rfl,hh⟩
 ·exact Q56 bs (hv.to_tm0 hn)
 ·exact .d _ _ (Q3x hO (by rw [hA l (hb l (by simp))];exact hh) hv (fun _ h=>.inl h) (fun b' h'=>.inr ⟨l,hb l (by simp),h'⟩))
theorem Q3n {β:Nat->Option Nat} {S:Nat->Prop} {h hl:Nat->Option Ob} {w:World} {tm:Nat->Value} {v:Value} {av ak:AV} {b bs:List Nat} (hO:Objs β S h w) (hA:∀ l,l∈bs->h l=hl l) (hb:∀ x∈b,x∈bs) (hc:TR hl av=some (ak,b)) (hv:RdA β S h w tm v av) :
  RdA β (fzS β S bs) (fzH h bs) w tm0 v ak:=by
 unfold TR at hc;split at hc
 ·rename_i cs;split at hc
  ·rename_i aw l an;simp only [Option.some.injEq,Prod.mk.injEq] at hc;obtain ⟨rfl,rfl⟩:=hc;obtain ⟨vs,rfl,am,hr⟩:=hv.ag_inv;obtain ⟨h1,h2⟩:=Es an;refine .ag _ _ (by rw [am,h1]) fun i x hx=>?_
   have hi:i<cs.length:=by have:=(QcO.1 hx).1;omega
   have hc:=Qd1 hi;obtain ⟨ak,b2,g1,g2,g3⟩:=h2 i _ hc;rw [hx] at g1;injection g1 with g1
   subst g1;exact Q9r hO hA (fun y hy=>hb y (g3 y hy)) g2 (hr i _ hc)
  ·cases hc
 ·exact Q9r hO hA hb hc hv
theorem Q1M {o : Oper} {c : Call} {f : Nat} (ho : o.op = .call c) (hc : c.callee = .value (.func f)) {fn : Func} (hf : P.funcs[f]? = some fn) (hb : fn.body.isSome = true) (hn : (fn.name == "runtime.NumGoroutine") = false) {a : Act} {w : World} :
  (execOp a.eval o).run P w = .ok (.enter f (c.args.map a.eval)) w:=by
 unfold execOp;rw [ho];have h1 : ¬ fn.name = "runtime.NumGoroutine" := by simpa using hn
 have h2:¬ fn.body=none:=by intro h;rw [h] at hb;cases hb
 simp [resolve,hc,Act.eval,Deferred.ofValue,invoke,callFunc,hf,h1,h2]
theorem Da {x:Nat}:∀ {l:List Nat},x∈l->Kp x l=true
 |a::r,h=>by
  rcases Qd5.1 h with rfl | h
  ·simp [Kp]
  ·simp [Kp,Da h]
theorem U3 {a b:List Nat} (h:GH a b=false) {x:Nat} (h1:x∈a) (h2:x∈b):False:=by
 unfold GH at h;rw [List.any_eq_false] at h;exact h x h1 (Da h2)
theorem MQ {h h':Nat->Option Ob}:∀ {wr:List (Nat × Option Ob)} {k:Nat},(k ∉ wr.map (·.1)->h k=h' k)->VQ h wr k=VQ h' wr k
 |[],k,hk=>hk (by simp)
 |(l,o)::r,k,hk=>by
  simp only [VQ];refine MQ fun hn=>?_
  by_cases e:k=l
  ·simp [e]
  ·rw [QcX e,QcX e];exact hk (by simp [e,hn])
theorem RE {h:Nat->Option Ob} {bs:List Nat} {l:Nat} (hl:l ∉ bs):fzH h bs l=h l:=by simp [fzH,hl]
theorem Q8w (β:Nat->Option Nat) (S:Nat->Prop):fzS β S []=S:=by funext b;simp [fzS]
theorem Q8v (h:Nat->Option Ob):fzH h []=h:=by funext b;simp [fzH]
theorem Q3P {wr:List (Nat × Option Ob)} (hw:WO wr=true):∀ (h:Nat->Option Ob) {l:Nat} {o:Ob},l∈wr.map (·.1)->VQ h wr l=some o->(∃ cells,o = .box cells/\Pj cells=true/\(l,some o)∈wr)\/∃ e s rows,o = .arr e s rows/\EK rows=true:=by
 induction wr with
 |nil=>intro h l o hl;simp at hl
 |cons x r ih=>
  intro h l o hl ho;obtain ⟨k,ob⟩:=x;have am:WO r=true:=by
   cases ob with
   |none=>simpa [WO] using hw
   |some ob=>cases ob <;> first | (simp only [WO,QcP] at hw;exact hw.2) | (simp [WO] at hw)
  simp only [VQ] at ho;by_cases hr:l∈r.map (·.1)
  ·rcases ih am _ hr ho with ⟨cells,h1,h2,h3⟩ | h1
   ·exact .inl ⟨cells,h1,h2,by simp [h3]⟩
   ·exact .inr h1
  ·rw [Wy hr] at ho;simp only [Qdj,Qd5,hr,or_false] at hl;rw [Qd6 hl] at ho;subst hl;subst ho;cases o with
   |box cells=>simp only [WO,QcP] at hw;exact .inl ⟨cells,rfl,hw.1,by simp⟩
   |arr e s rows=>simp only [WO,QcP] at hw;exact .inr ⟨e,s,rows,rfl,hw.1⟩
   |mp t f=>simp [WO] at hw
theorem JH:∀ {wr:List (Nat × Option Ob)},Ef wr=true->WO wr=true
 |[],_=>rfl
 |(_,none)::r,h=>by simp only [Ef,QcP] at h;simp only [WO];exact JH h.2
 |(_,some (.box cells))::r,h=>by simp only [Ef,Q4Y,QcP] at h;simp only [WO,QcP];exact ⟨h.1,JH h.2⟩
 |(_,some (.arr ..))::r,h=>by simp [Ef,Q4Y] at h
theorem J0 {tt:TT}:∀ {wr:List (Nat × Option Ob)},M8 tt wr=true->(AI wr).all EK=true->WO wr=true
 |[],_,_=>rfl
 |(_,none)::r,h,h2=>by simp only [M8] at h;simp only [AI] at h2;simp only [WO];exact J0 h h2
 |(_,some (.box cells))::r,h,h2=>by simp only [M8,QcP] at h;simp only [AI] at h2;simp only [WO,QcP];exact ⟨h.1,J0 h.2 h2⟩
 |(_,some (.arr _ _ rows))::r,h,h2=>by simp only [M8,QcP] at h;simp only [AI,List.all_cons,QcP] at h2;simp only [WO,QcP];exact ⟨h2.1,J0 h.2 h2.2⟩
theorem Q88 {S S2:Nat->Prop} {w:World} {v:Value} {x:D} (h:Rd S w v x) (hf:Q0A x=true):Rd S2 w v x:=by
 cases h with
 |int k n=>exact .int k n
 |bool b=>exact .bool b
 |str s=>exact .str s
 |sl0 a c s=>simp [Q0A] at hf
 |sl=>simp [Q0A] at hf
theorem Q6x {rows:List (List D)} (h:EK rows=true) {i j:Nat} {r:List D} {x:D} (h1:rows[i]? = some r) (h2:r[j]? = some x):Q0A x=true:=by
 simp only [EK,Qda] at h;exact h r (Qd0 h1) x (Qd0 h2)
theorem AH:∀ {l:List AV} {i:Nat} {x:AV},l[i]? = some x->Pj l=true->H7 x=true
 |a::r,i,x,h,hs=>by
  simp only [Pj,QcP] at hs;cases i with
  |zero=>simp at h;subst h;exact hs.1
  |succ i=>exact AH (l:=r) (i:=i) (by simpa using h) hs.2
theorem Q5j {l k:Nat} {cells:List AV} {wr:List (Nat × Option Ob)} (hm:(k,some (Ob.box cells))∈wr) (hn:K5 l wr=false):Vy l cells=false:=by
 induction wr with
 |nil=>simp at hm
 |cons x r ih=>
  obtain ⟨k',o⟩:=x;rcases Qd5.1 hm with h1 | h1
  ·injection h1 with h2 h3
   subst h3;simp only [K5,Bool.or_eq_false_iff] at hn;exact hn.1
  ·cases o with
   |none=>exact ih h1 (by simpa [K5] using hn)
   |some o=>
    cases o with
    |box c=>simp only [K5,Bool.or_eq_false_iff] at hn;exact ih h1 hn.2
    |arr e s rows=>exact ih h1 (by simpa [K5] using hn)
    |mp t f=>exact ih h1 (by simpa [K5] using hn)
theorem Q32 {h h':Nat->Option Ob} {wr:List (Nat × Option Ob)} {k:Nat} (hk:k∈wr.map (·.1)):VQ h wr k=VQ h' wr k:=MQ fun hn=>absurd hk hn
theorem CallOut.back {β β':Nat->Option Nat} {S S':Nat->Prop} {h:Nat->Option Ob} {w w':World} {dl:Dl} {v:Value} {bs:List Nat} (hO:Objs β S h w) (a6:∀ l,l∈bs->∃ e s rows,h l=some (.arr e s rows))
  (hm:GH bs (wrL dl)=false) (au:Er bs dl=true) (bi:H7 dl.v=true) (bh:WO dl.wr=true) (hc:CallOut β (fzS β S bs) (fzH h bs) w dl β' S' w' v) :
  CallOut β S h w dl β' (fun b=>S' b/\¬ ∃ l,l∈bs/\β l=some b) w' v:=by
 have ak:∀ l,l∈wrL dl->l ∉ bs:=fun l h1 h2=>U3 hm h2 h1
 have ar:∀ l,l∈bs->(h l).isSome=true:=fun l hl=>by obtain ⟨e,s,rows,hh⟩:=a6 l hl;simp [hh]
 have am:∀ l,l ∉ bs->VQ (fzH h bs) dl.wr l=VQ h dl.wr l:=fun l hl=>MQ fun _=>RE hl
 have ao:∀ (u:Value) (av:AV),H7 av=true->(∀ l,l∈bs->ZL l av=false)->RdA β' S' (VQ (fzH h bs) dl.wr) w' tm0 u av->RdA β' (fun b=>S' b/\¬ ∃ l,l∈bs/\β l=some b) (VQ h dl.wr) w' tm0 u av:=by
  intro u av hs hn hr;refine (Q6y (S2:=fun b=>S' b/\¬ ∃ l,l∈bs/\β l=some b) hr hs).mono (fun _ h=>h) (fun _ _=>rfl) (fun l hl=>?_) (fun _ _=>rfl);have bj:l ∉ bs:=fun hb=>by rw [hn l hb] at hl;cases hl
  have he:=am l bj;exact ⟨rfl,fun h=>by rw [<- he];exact h,fun e s rows hh=>.inr ⟨rows,by rw [<- he];exact hh,rfl⟩,fun b cs ty fz _ _ hw=>⟨cs,ty,fz,hw,rfl⟩,fun _ f hh=>.inr ⟨f,by rw [<- he];exact hh⟩⟩
 simp only [Er,Qda,QcP,Bool.not_eq_true'] at au;have an:∀ l,l∈wrL dl->fzH h bs l=h l:=fun l hl=>RE (ak l hl)
 refine ⟨fun b hS=>⟨hc.hs b (.inl hS),fun ⟨l,hl,hb⟩=>hO.apart l b (ar l hl) hb hS⟩,fun b hS=>?_,fun b hS=>hc.sb b hS.1,?_,hc.bsame,fun l o hl ho=>?_,fun l hl hs=>?_,fun l b hl hs hb=>?_,fun l l' b h1 h2 h3 h4=>?_,fun l hl h1 h2=>?_,ao v dl.v bi (fun l hl=>(au l hl).1) hc.res,hc.gd⟩
 ·rcases hc.sf b hS.1 with h1 | h1 | ⟨l,h1,h2,h3⟩
  ·rcases h1 with h1 | h1
   ·exact .inl h1
   ·exact absurd h1 hS.2
  ·exact .inr (.inl h1)
  ·exact .inr (.inr ⟨l,h1,by rw [<- an l h1];exact h2,h3⟩)
 ·exact hc.fr.mono fun b _ ⟨l,h1,h2,h3⟩=>⟨l,h1,by rw [<- an l h1];exact h2,h3⟩
 ·rcases Q3P bh h hl ho with ⟨cells,rfl,a8,ay⟩ | ⟨e,s,rows,rfl,bd⟩
  case inr=>
   rcases hc.obs l _ hl (by rw [am l (ak l hl)];exact ho) with g | ⟨b,cs,g1,g2,g3,g4,g5⟩
   ·exact .inl g
   ·refine .inr ⟨b,cs,g1,g2,g3,g4,fun i j r y h1 h2=>?_⟩;obtain ⟨u,q1,q2⟩:=g5 i j r y h1 h2;exact ⟨u,q1,Q88 q2 (Q6x bd h1 h2)⟩
  obtain ⟨b,ty,cs,fz,hb,hw,hf,a9,hr⟩:=hc.obs l _ hl (by rw [am l (ak l hl)];exact ho);exact ⟨b,ty,cs,fz,hb,hw,hf,a9,fun i x hx=>ao _ x (AH hx a8) (fun l' bg=>Q01 hx (Q5j ay (au l' bg).2)) (hr i x hx)⟩
 ·have K:=hc.keep l hl (by rw [an l hl];exact hs);have he:=am l (ak l hl);exact ⟨K.b,fun h1=>by rw [<- he];exact K.none_ (by rw [an l hl];exact h1),fun e s rows h1=>by rw [<- he];exact K.arr e s rows (by rw [an l hl];exact h1),fun b cs ty fz h1=>K.cells b cs ty fz (by rw [he];exact h1),fun t f h1=>by rw [<- he];exact K.mp t f (by rw [an l hl];exact h1)⟩
 ·obtain ⟨h1,h2⟩:=hc.blk l b hl (by rw [am l (ak l hl)];exact hs) hb;refine ⟨?_,fun h3=>h2 h3.1⟩;rcases h1 with h1 | ⟨l0,g1,g2,g3⟩
  ·exact .inl h1
  ·exact .inr ⟨l0,g1,by rw [<- an l0 g1];exact g2,g3⟩
 ·rw [<- am l (ak l h1)] at h3;rw [<- am l' (ak l' h2)] at h4;exact hc.inj l l' b h1 h2 h3 h4
 ·exact hc.none l hl (by rw [an l hl];exact h1) (by rw [am l (ak l hl)];exact h2)
theorem Tt {β β':Nat->Option Nat} {S S':Nat->Prop} {st:St} {a:Act} {w w':World} {v:Value} (hR:Rel E β S st a w) {dl:Dl} {rd:List Nat} (ak:Zi st dl.wr=true) (hc:CallOut β S (look st.h) w dl β' S' w' v) :
  Out E st a ⟨dl.v,dl.wr,rd⟩ v w':=by
 have h1:=Q7b hR ak hc;have h2:=hc.res;rw [<- G5] at h2;refine ⟨β',S',h1,?_⟩;exact h2.mono (fun _ h=>h) (fun _ _=>rfl) (fun l _=>Keep.rfl_ ..) (fun t ht=>by rw [hc.gd t] at ht;cases ht)
def Q4k (P:Program) (E:Env) (o:Oper) (ev:Operand->AV) (f:Nat) (avs0:List AV):Prop:=
 ∀ β S st a w,Rel E β S st a w->Ed β S st a w o ev->∃ vals:List Value,vals.length=avs0.length/\(∀ (i:Nat) (v:Value) (x:AV),vals[i]? = some v->avs0[i]? = some x->RdA β S (look st.h) w (tmv a) v x) /\
  ∀ fn, P.funcs[f]? = some fn -> fn.body.isSome = true -> (fn.name == "runtime.NumGoroutine") = false -> (execOp a.eval o).run P w = .ok (.enter f vals.toArray) w
theorem Q3F {o:Oper} {c:Call} {f:Nat} (ho:o.op = .call c) (hc:c.callee = .value (.func f)) {ev:Operand->AV}:Q4k P E o ev f (c.args.toList.map ev):=by
 intro β S st a w hR hO;refine ⟨c.args.toList.map a.eval,by simp,fun i v x h1 h2=>?_,fun fn hf hb hn=>?_⟩
 ·simp only [QcW,QcS] at h1 h2;obtain ⟨y,hy,rfl⟩:=h1;obtain ⟨y',ak,rfl⟩:=h2;rw [hy] at ak;injection ak with ak
  subst ak;have am:y∈o.op.operands.toList:=by
   have:y∈c.args.toList:=Qd0 hy;simp only [ho,Op.operands,Call.operands,hc];simp at this;simp [this]
  exact hO.at am
 ·rw [Q1M ho hc hf hb hn];congr 2;apply Array.ext';rw [Array.toList_map]
theorem RdA.fn_inv {β:Nat->Option Nat} {S:Nat->Prop} {h:Nat->Option Ob} {w:World} {tm:Nat->Value} {v:Value} {f:Nat} {l:List AV} (hv:RdA β S h w tm v (.fn f l)):∃ cs:Array Value,v = .func (.func f) #[] cs/\cs.size=l.length/\∀ (i:Nat) (x:AV),l[i]? = some x->RdA β S h w tm (cs.getD i undef) x:=by
 cases hv with
 |fn _ cs _ hl hr=>exact ⟨cs,rfl,hl,hr⟩
 |dang _ _ l hl _ _=>simp [VG] at hl
theorem Q4l {o:Oper} {c:Call} {t f:Nat} {cap:List AV} (ho:o.op = .call c) (hc:c.callee = .value (.tmp t)) {ev:Operand->AV} (hev:ev (.tmp t) = .fn f cap):Q4k P E o ev f (c.args.toList.map ev++cap):=by
 intro β S st a w hR hO;have hmt:Operand.tmp t∈o.op.operands.toList:=by simp [ho,Op.operands,Call.operands,hc]
 obtain ⟨cs,hcs,hsz,hr⟩:=(hev▸hO.at hmt).fn_inv;refine ⟨c.args.toList.map a.eval++cs.toList,by simp [hsz],fun i v x h1 h2=>?_,fun fn hf hb hn=>?_⟩
 ·rw [List.getElem?_append] at h1 h2;simp only [List.length_map] at h1 h2;split at h1
  ·rename_i hi;rw [Qd6 hi] at h2;simp only [QcW,QcS] at h1 h2;obtain ⟨y,hy,rfl⟩:=h1;obtain ⟨y',hy',rfl⟩:=h2;rw [hy] at hy';injection hy' with hy'
   subst hy';have hmem:y∈o.op.operands.toList:=by
    have:y∈c.args.toList:=Qd0 hy;simp only [ho,Op.operands,Call.operands,hc];simp at this;simp [this]
   exact hO.at hmem
  ·rename_i hi;rw [QcX hi] at h2;have:=hr _ x h2;have hlt:=(QcO.1 h1).1;have he:cs.getD (i-c.args.toList.length) undef=v:=by
    rw [Array.getElem?_toList] at h1;rw [Array.getD_eq_getD_getElem?,h1];rfl
   rw [he] at this;exact this
 ·have h1 : ¬ fn.name = "runtime.NumGoroutine" := by simpa using hn
  have h2:¬ fn.body=none:=by intro h;rw [h] at hb;cases hb
  have hv:a.eval (.tmp t) = .func (.func f) #[] cs:=hcs;unfold execOp;rw [ho];have harr:(c.args.toList.map a.eval++cs.toList).toArray=c.args.map a.eval++cs:=by apply Array.ext';simp
  rw [harr];simp [resolve,hc,hv,Deferred.ofValue,invoke,callFunc,hf,h1,h2]
theorem Q4C {β:Nat->Option Nat} {S:Nat->Prop} {st:St} {a:Act} {w:World} (hR:Rel E β S st a w) {hl:Nat->Option Ob} {vals:List Value} {ak:List AV} (an:vals.length=ak.length) (am:∀ (i:Nat) (v:Value) (x:AV),vals[i]? = some v->ak[i]? = some x->RdA β S (look st.h) w (tmv a) v x) {aq:List AV} {bs:List Nat}
  (aw:TN hl ak=some (aq,bs)) (au:∀ l,l∈bs->look st.h l=hl l):ArgsRd β (fzS β S bs) (fzH (look st.h) bs) w vals aq:=by
 obtain ⟨ao,ar⟩:=Rx aw;refine ⟨by rw [ao,an],fun i v av h1 h2=>?_⟩;have hi:i<ak.length:=by have:=(QcO.1 h1).1;omega
 have hx:=Qd1 hi;obtain ⟨ay,b,g1,g2,g3⟩:=ar i _ hx;rw [h2] at g1;injection g1 with g1
 subst g1;exact Q3n hR.objs au g3 g2 (am i v _ h1 hx)
theorem PV {o:Oper} {f:Nat} {ev:Operand->AV} {am:List AV} (hF:Q4k P E o ev f am) {hl:Nat->Option Ob} {aw:List AV} {bs:List Nat} {dl:Dl}
  (a6:TN hl am=some (aw,bs)) (bg:Ze P f aw hl dl) (hm:GH bs (wrL dl)=false) (bc:GH bs dl.rd=false) (bh:Er bs dl=true) (an:bs=[]\/(H7 dl.v=true/\WO dl.wr=true)) :
  Jn P E o ev hl ⟨dl.v,dl.wr,bs++dl.rd⟩:=by
 intro β S st a w hR hO hA a7 K Q hK;obtain ⟨⟨fn,hf,hb,hn⟩,ao⟩:=bg;have au:∀ l,l∈bs->look st.h l=hl l:=fun l h=>hA l (.inl (by simp [h]))
 have aq:∀ l,l∈bs->∃ e s rows,look st.h l=some (.arr e s rows):=fun l h=>by rw [au l h];exact M7 a6 l h
 have ar:=hR.objs.fz bs aq (fun l b hs hb=>P4 hR hs hb);have a9:∀ l,l∈dl.rd\/l∈wrL dl->fzH (look st.h) bs l=hl l:=by
  intro l ay;rw [RE (fun h=>by rcases ay with h1 | h1 <;> first | exact U3 bc h h1 | exact U3 hm h h1)];rcases ay with h1 | h1
  ·exact hA l (.inl (by simp [h1]))
  ·exact hA l (.inr h1)
 obtain ⟨vals,a8,bd,ax⟩:=hF β S st a w hR hO;unfold Oper.wp;rw [ax fn hf hb hn];have:=ao β (fzS β S bs) (fzH (look st.h) bs) w _ ar (Q4C hR a8 bd a6 au) a9;refine this.mono fun e w' ⟨v,β',S',he,ak⟩=>?_
 subst he;refine hK v w' ?_;rcases an with rfl | ⟨h1,h2⟩
 ·rw [Q8w,Q8v] at ak;exact Tt hR a7 ak
 ·exact Tt hR a7 (ak.back hR.objs aq hm bh h1 h2)
theorem JO:∀ (a b:List (Nat × Option Ob)) (h:List (Nat × Ob)),Pd h (a++b)=Pd (Pd h a) b
 |[],_,_=>rfl
 |(l,some o)::r,b,h=>by simp [Pd,JO r b]
 |(l,none)::r,b,h=>by simp [Pd,JO r b]
theorem D0 (bs:List Nat) (h:List (Nat × Ob)):look (Pd h (bs.map fun l=>(l,none)))=fzH (look h) bs:=by
 rw [G5];generalize look h=f;induction bs generalizing f with
 |nil=>funext k;simp [VQ,fzH]
 |cons a r ih=>
  simp only [Qdj,VQ];rw [ih];funext k;by_cases e:k=a
  ·subst e;simp [fzH]
  ·by_cases e2:k∈r <;> simp [fzH,e,e2]
theorem Cm {β:Nat->Option Nat} {S:Nat->Prop} {st:St} {a:Act} {w:World} (hR:Rel E β S st a w) (bs:List Nat) (an:∀ l,l∈bs->∃ e s rows,look st.h l=some (.arr e s rows)) :
  Rel E β (fzS β S bs) ⟨st.n,st.tm,Pd st.h (bs.map fun l=>(l,none))⟩ a w:=by
 have ak:=hR.objs.fz bs an (fun l b hs hb=>P4 hR hs hb);have ao:=D0 bs st.h;refine ⟨hR.n,hR.dfr,fun t av ht=>by rw [ao];exact Q56 bs (hR.tm t av ht),?_⟩;rw [ao];have am:∀ l,(fzH (look st.h) bs l).isSome=true->(look st.h l).isSome=true:=fun l hs=>by
  by_cases hl:l∈bs
  ·simp [fzH,hl] at hs
  ·simpa [fzH,hl] using hs
 refine ⟨ak.ob,ak.inj,ak.apart,fun l b hs hb=>hR.hr.own l b (am l hs) hb,ak.sb,fun b hS=>?_,fun b h=>.inl (hR.hr.s0 b h),hR.hr.fr,hR.hr.pin,fun l b hp hs=>hR.hr.psz l b hp (am l hs)⟩;rcases hS with h | ⟨l,hl,hb⟩
 ·exact hR.hr.sfr b h
 ·obtain ⟨e,s,rows,hh⟩:=an l hl;exact .inr (hR.hr.own l b (by simp [hh]) hb)
theorem WN {l k:Nat}:∀ {h:List (Nat × Ob)},UT l h=false->UT l (rem k h)=false
 |[],_=>rfl
 |(a,.box c)::r,hn=>by
  simp only [UT,Bool.or_eq_false_iff] at hn;simp only [rem];cases Nat.beq a k with
  |true=>exact WN hn.2
  |false=>simp [UT,hn.1,WN hn.2]
 |(a,.arr e s rows)::r,hn=>by
  simp only [UT] at hn;simp only [rem];cases Nat.beq a k with
  |true=>exact WN hn
  |false=>simp [UT,WN hn]
 |(a,.mp t f)::r,hn=>by
  simp only [UT] at hn;simp only [rem];cases Nat.beq a k with
  |true=>exact WN hn
  |false=>simp [UT,WN hn]
theorem Q0Y {l:Nat}:∀ (bs:List Nat) {h:List (Nat × Ob)},UT l h=false->UT l (Pd h (bs.map fun l=>(l,none)))=false
 |[],_,hn=>hn
 |a::r,h,hn=>by simp only [Qdj,Pd];exact Q0Y r (WN hn)
theorem Tx {st:St}:∀ {a b:List (Nat × Option Ob)},Zi st (a++b)=true->Zi st b=true
 |[],_,h=>h
 |(l,o)::r,b,h=>by
  simp only [List.cons_append,Zi,QcP] at h;exact Tx h.2
theorem El {st:St} {bs:List Nat}:∀ {wr:List (Nat × Option Ob)},(∀ l,l∈wr.map (·.1)->l ∉ bs)->Zi st wr=true->Zi ⟨st.n,st.tm,Pd st.h (bs.map fun l=>(l,none))⟩ wr=true
 |[],_,_=>rfl
 |(l,o)::r,hn,h=>by
  simp only [Zi,QcP] at h ⊢;refine ⟨?_,El (fun k hk=>hn k (by simp [hk])) h.2⟩;have ak:l ∉ bs:=hn l (by simp);rw [D0,RE ak];cases o with
  |none=>rfl
  |some o=>
   cases hs:look st.h l with
   |some o'=>rfl
   |none=>
    have h1:=h.1;rw [hs] at h1;simp only [Wn,QcP,Bool.not_eq_true'] at h1 ⊢;exact ⟨h1.1,h1.2.1,Q0Y bs h1.2.2⟩
theorem Fe {o:Oper} {f:Nat} {ev:Operand->AV} {am:List AV} (hF:Q4k P E o ev f am) {hl:Nat->Option Ob} {aw:List AV} {bs:List Nat} {dl:Dl}
  (ay:TN hl am=some (aw,bs)) (bg:Ze P f aw hl dl) (hm:GH bs (wrL dl)=false) (a9:GH bs dl.rd=false) :
  Jn P E o ev hl ⟨dl.v,bs.map (fun l=>(l,none))++dl.wr,bs++dl.rd⟩:=by
 intro β S st a w hR hO hA bh K Q hK;obtain ⟨⟨fn,hf,hb,hn⟩,ao⟩:=bg;have au:∀ l,l∈bs->look st.h l=hl l:=fun l h=>hA l (.inl (by simp [h]))
 have aq:∀ l,l∈bs->∃ e s rows,look st.h l=some (.arr e s rows):=fun l h=>by rw [au l h];exact M7 ay l h
 have ar:=hR.objs.fz bs aq (fun l b hs hb=>P4 hR hs hb);have a8:∀ l,l∈dl.rd\/l∈wrL dl->fzH (look st.h) bs l=hl l:=by
  intro l ak;rw [RE (fun h=>by rcases ak with h1 | h1 <;> first | exact U3 a9 h h1 | exact U3 hm h h1)];rcases ak with h1 | h1
  ·exact hA l (.inl (by simp [h1]))
  ·exact hA l (.inr (by simp only [wrL,List.map_append,Qdi];exact .inr h1))
 obtain ⟨vals,a6,bc,ax⟩:=hF β S st a w hR hO;unfold Oper.wp;rw [ax fn hf hb hn];have:=ao β (fzS β S bs) (fzH (look st.h) bs) w _ ar (Q4C hR a6 bc ay au) a8;refine this.mono fun e w' ⟨v,β',S',he,an⟩=>?_
 subst he;refine hK v w' ?_;rw [<- D0] at an;have a7:Zi ⟨st.n,st.tm,Pd st.h (bs.map fun l=>(l,none))⟩ dl.wr=true:=El (fun l ak h=>U3 hm h ak) (Tx bh);obtain ⟨bd,S'',g1,g2⟩:=Tt (rd:=bs++dl.rd) (Cm hR bs aq) a7 an;refine ⟨bd,S'',?_,?_⟩
 ·simp only [JO];exact g1
 ·simp only [JO];exact g2
theorem ER {t:Nat}:∀ {l:List AV},l.all FN=true->DD t l=false
 |[],_=>rfl
 |a::r,h=>by
  simp only [List.all_cons,QcP] at h;simp only [DD,T8 h.1 t,ER h.2,Bool.or_false]
theorem Q0k {x:AV} (h:Q5M x=true) (t:Nat):gds t x=false:=by
 unfold Q5M at h;split at h
 ·simp only [gds];exact ER h
 ·exact T8 h t
theorem Bk {o:Oper} {f:Nat} {ev:Operand->AV} {ak:List AV} (hF:Q4k P E o ev f ak) {hl:Nat->Option Ob} {dl:Dl} (aq:ak.all Q5M=true) (aw:Ze P f ak hl dl):Jn P E o ev hl dl:=by
 intro β S st a w hR hO hA ax K Q hK;obtain ⟨⟨fn,hf,hb,hn⟩,am⟩:=aw;obtain ⟨vals,ar,au,an⟩:=hF β S st a w hR hO;unfold Oper.wp;rw [an fn hf hb hn];have:=am β S (look st.h) w _ hR.objs ⟨ar,fun i v x h1 h2=>(au i v x h1 h2).mono (fun _ h=>h) (fun _ _=>rfl) (fun l _=>Keep.rfl_ ..) (fun t ht=>by
  rw [Q0k (Qda.1 aq x (Qd0 h2)) t] at ht;cases ht)⟩ (fun l h=>hA l h)
 refine this.mono fun e w' ⟨v,β',S',he,ao⟩=>?_
 subst he;exact hK v w' (Tt hR ax ao)
theorem Q0C {spec:Q1j} {tt:TT} (hS:Ll P spec) {o:Oper} {f:Nat} {ay:Nat} {g u:Bool} {ev:Operand->AV} {am:List AV} (hF:Q4k P E o ev f am) {hl:Nat->Option Ob} {k:Dl->Option R} {r:R}
  (h:Q79 spec tt ay g u hl f am k=some r):∃ dl,k dl=some r/\(g=true->Jn P E o ev hl dl):=by
 unfold Q79 at h;cases ax:Qc9 spec f with
 |true=>
  simp only [ax,QcU] at h;cases ar:am.all Q5M with
  |false=>simp [ar] at h
  |true=>
  simp only [ar,QcU] at h;obtain ⟨dl,h,an⟩:=hS _ _ _ _ _ _ _ _ h;exact ⟨dl,h,fun hg=>Bk hF ar (an hg)⟩
 |false=>
 simp only [ax,cond_false] at h;split at h
 case h_2=>cases h
 rename_i a9 bs aw;obtain ⟨dl,h,an⟩:=hS _ _ _ _ _ _ _ _ h;cases ak:(!GH bs (wrL dl)&&(!GH bs dl.rd&&Er bs dl)) with
 |false=>simp [ak] at h
 |true=>
  simp only [ak,QcU] at h;simp only [QcP,Bool.not_eq_true'] at ak;obtain ⟨hm,au,a6⟩:=ak;cases hf:(bs.isEmpty||(H7 dl.v&&Ef dl.wr)) with
  |true=>
   simp only [hf,QcU] at h;refine ⟨_,h,fun hg=>PV hF aw (an hg) hm au a6 ?_⟩;simp only [Bool.or_eq_true,QcP,List.isEmpty_iff] at hf;rcases hf with hf | hf
   ·exact .inl hf
   ·exact .inr ⟨hf.1,JH hf.2⟩
  |false=>
   simp only [hf,cond_false] at h;cases ao:(H7 dl.v&&M8 tt dl.wr) with
   |true=>
    simp only [ao,QcU] at h;simp only [QcP] at ao;obtain ⟨_,h,hp⟩:=Qt h;refine ⟨_,h,fun hg=>PV hF aw (an hg) hm au a6 (.inr ⟨ao.1,J0 ao.2 ?_⟩)⟩;have:=hp hg;unfold NK at this;cases hx:(AI dl.wr).all EK with
    |true=>rfl
    |false=>rw [hx] at this;cases this
   |false=>
    simp only [ao,cond_false] at h;cases u with
    |false=>simp at h
    |true=>
     simp only [QcU] at h;exact ⟨_,h,fun hg=>Fe hF aw (an hg) hm au⟩
end

section
variable {P:Program} {E:Env} {R:Type}
theorem Dm {x:Nat}:∀ {l:List Nat},Kp x l=true↔x∈l
 |[]=>by simp [Kp]
 |a::r=>by
  simp only [Kp,Bool.or_eq_true,Dm (l:=r),Qd5];constructor
  ·rintro (h | h)
   ·exact .inl (QcR h).symm
   ·exact .inr h
  ·rintro (h | h)
   ·exact .inl (by rw [h];exact Nat.beq_refl _)
   ·exact .inr h
def Q9X (av:AV):Prop:=(∀ k,ZL k av=false)/\(∀ t,gds t av=false)/\av≠.top
theorem Q8P (hl:Nat->Option Ob) (bs:List Nat):QbH hl bs=fzH hl bs:=by
 funext k;unfold QbH fzH;cases h:Kp k bs with
 |true=>rw [Qd6 (Dm.1 h)];rfl
 |false=>rw [QcX (fun hm=>by rw [Dm.2 hm] at h;cases h)];rfl
theorem CG (hl:Nat->Option Ob) (ev:Operand->AV):∀ (l:List (Nat × Operand)),U4 (fun x=>cv1 hl (ev x)) l=cvP hl (U4 ev l)
 |[]=>rfl
 |(i,x)::r=>by simp only [U4,cvP,CG hl ev r]
theorem Q5E {hl:Nat->Option Ob} {ev:Operand->AV}:∀ {l:List (Nat × Operand)} {p:Nat × Operand},p∈l->∀ a b,TR hl (ev p.2)=some (a,b)->∀ x∈b,x∈bsP hl (U4 ev l)
 |(i,y)::r,p,hp,a,b,hc,x,hx=>by
  simp only [U4,bsP];rcases Qd5.1 hp with rfl | hp
  ·simp only at hc;rw [hc];exact List.mem_append_left _ hx
  ·have ih:=Q5E hp a b hc x hx;split
   ·exact List.mem_append_right _ ih
   ·exact ih
theorem Q2t {hl:Nat->Option Ob}:∀ {l:List (Nat × AV)} {x:Nat},x∈bsP hl l->∃ e s rows,hl x=some (.arr e s rows)
 |[],x,h=>by simp [bsP] at h
 |(i,a)::r,x,h=>by
  simp only [bsP] at h;split at h
  ·rename_i a' b hc;rcases Qdi.1 h with h | h
   ·exact E7 hc x h
   ·exact Q2t h
  ·exact Q2t h
theorem Q07:∀ {z:List D} {l:List AV} {ds:List D},Q4t z l=some ds->(∀ k,Vy k l=false)/\(∀ t,DD t l=false)/\∀ x∈l,x≠.top
 |[],[],ds,h=>⟨fun _=>rfl,fun _=>rfl,fun x h=>by simp at h⟩
 |[],_::_,ds,h=>by simp [Q4t] at h
 |_::_,[],ds,h=>by simp [Q4t] at h
 |z::zs,a::r,ds,h=>by
  simp only [Q4t] at h;split at h
  case h_2=>cases h
  rename_i l hl;obtain ⟨h1,h2,h3⟩:=Q07 hl;split at h
  ·exact ⟨fun k=>by simp [Vy,ZL,h1 k],fun t=>by simp [DD,gds,h2 t],fun x hx=>by
    rcases Qd5.1 hx with rfl | hx
    ·simp
    ·exact h3 x hx⟩
  ·exact ⟨fun k=>by simp [Vy,ZL,h1 k],fun t=>by simp [DD,gds,h2 t],fun x hx=>by
    rcases Qd5.1 hx with rfl | hx
    ·simp
    ·exact h3 x hx⟩
  ·cases h
theorem Q42 {z:List D} {av:AV} {ds:List D} (h:Q4t z (Xr av)=some ds):Q9X av:=by
 obtain ⟨h1,h2,h3⟩:=Q07 h;cases av with
 |ag l=>exact ⟨fun k=>by simpa [ZL,Xr] using h1 k,fun t=>by simpa [gds,Xr] using h2 t,by simp⟩
 |fs _ _=>exact ⟨fun k=>rfl,fun t=>rfl,by simp⟩
 |_=>exact ⟨fun k=>by simpa [Vy,Xr] using h1 k,fun t=>by simpa [DD,Xr] using h2 t,h3 _ (by simp [Xr])⟩
theorem LD {z:List D}:∀ {ak:List (Nat × AV)} {rows am:List (List D)},Rf z rows ak=some am->∀ p∈ak,Q9X p.2
 |[],_,_,_,p,hp=>by simp at hp
 |(i,v)::r,rows,am,h,p,hp=>by
  simp only [Rf] at h;split at h
  case h_2=>cases h
  rename_i row an;cases hc:Nat.ble (i+1) rows.length with
  |false=>simp [hc] at h
  |true=>
   simp only [hc,QcU] at h;rcases Qd5.1 hp with rfl | hp
   ·exact Q42 an
   ·exact LD h p hp
theorem EU {ev:Operand->AV}:∀ {l:List (Nat × Operand)} {p:Nat × Operand},p∈l->(p.1,ev p.2)∈U4 ev l
 |(i,y)::r,p,hp=>by
  simp only [U4];rcases Qd5.1 hp with rfl | hp
  ·simp
  ·exact Qdd _ (EU hp)
theorem Dq {tt:TT} {hl:Nat->Option Ob} {ao:Nat} {u:Bool} {t len:Nat} {ak:List (Nat × AV)} {k:Dl->Option R} {r:R} (h:JL tt hl ao u t len ak k=some r):∀ p∈ak,Q9X p.2:=by
 unfold JL at h;split at h
 case h_2=>cases h
 rename_i e an hk;cases hc:(Nat.ble (len*an) 16777216&&(look tt e).isSome&&Nat.beq (PF tt e).length an) with
 |false=>simp [hc] at h
 |true=>
  simp only [hc,QcU] at h;split at h
  case h_2=>cases h
  rename_i rows am;exact LD am
theorem Av {o:Oper} {ev:Operand->AV} {hl:Nat->Option Ob} {bs:List Nat} {dl:Dl} (au:∀ l,l∈bs->∃ e s rows,hl l=some (.arr e s rows))
  (ar:∀ x∈o.op.operands.toList,(∃ b,TR hl (ev x)=some (cv1 hl (ev x),b)/\∀ y∈b,y∈bs)/\Q9X (cv1 hl (ev x)))
  (hG:Jn P E o (fun x=>cv1 hl (ev x)) (fzH hl bs) dl) (hm:GH bs (wrL dl)=false) (aw:GH bs dl.rd=false):Jn P E o ev hl ⟨dl.v,bs.map (fun l=>(l,none))++dl.wr,bs++dl.rd⟩:=by
 intro β S st a w hR hO hA ax K Q hK;have an:∀ l,l∈bs->look st.h l=hl l:=fun l h=>hA l (.inl (by simp [h]))
 have ao:∀ l,l∈bs->∃ e s rows,look st.h l=some (.arr e s rows):=fun l h=>by rw [an l h];exact au l h
 have ay:=Cm hR bs ao;refine hG β (fzS β S bs) _ a w ay (fun x hx=>⟨?_,fun l _=>(ar x hx).2.1 l⟩) ?_ (El (fun l ak h=>U3 hm h ak) (Tx ax)) K Q fun v w' aq=>hK v w' ?_
 ·obtain ⟨⟨b,h1,h2⟩,hb⟩:=ar x hx;rw [D0];exact (Q3n hR.objs an h2 h1 (hO.at hx)).mono (fun _ h=>h) (fun _ _=>rfl) (fun l _=>Keep.rfl_ ..) (fun t ht=>by rw [hb.2.1 t] at ht;cases ht)
 ·intro l ak;have am:l ∉ bs:=fun h=>by rcases ak with h1 | h1 <;> first | exact U3 aw h h1 | exact U3 hm h h1
  rw [D0,RE am,RE am];rcases ak with h1 | h1
  ·exact hA l (.inl (by simp [h1]))
  ·exact hA l (.inr (by simp only [wrL,List.map_append,Qdi];exact .inr h1))
 ·obtain ⟨β',S',g1,g2⟩:=aq;refine ⟨β',S',?_,?_⟩
  ·simp only [JO];exact g1
  ·simp only [JO];exact g2
theorem Q1H {tt:TT} (hT:TOk P tt) {o:Oper} {t:TypeId} {len:Nat} {ak:Array (Nat × Operand)} (ho:o.op = .buildSlice t len ak) {u:Bool} {am:Nat} {ev:Operand->AV} {hl:Nat->Option Ob} {k:Dl->Option R} {r:R}
  (h:Q1z tt hl am u t len (U4 ev ak.toList) k=some r):∃ dl,k dl=some r/\Jn P E o ev hl dl:=by
 unfold Q1z at h;split at h
 ·exact PB hT ho h
 ·rename_i b bs hb;cases u with
  |false=>simp at h
  |true=>
   simp only [QcU] at h;rw [<- CG] at h;have aq:=Dq h;rw [Q8P] at h;obtain ⟨dl,h,hG⟩:=PB (E:=E) hT ho h;cases hc:(!GH (b::bs) (wrL dl)&&!GH (b::bs) dl.rd) with
   |false=>simp [hc] at h
   |true=>
    simp only [hc,QcU] at h;simp only [QcP,Bool.not_eq_true'] at hc;refine ⟨_,h,Av (fun l ao=>Q2t (hb▸ao)) (fun x hx=>?_) hG hc.1 hc.2⟩;obtain ⟨i,hi⟩:∃ i,(i,x)∈ak.toList:=by
     simp only [ho,Op.operands] at hx;simpa using hx
    have hn:Q9X (cv1 hl (ev x)):=aq _ (EU hi);refine ⟨?_,hn⟩;unfold cv1 at hn ⊢;cases an:TR hl (ev x) with
    |none=>
     rw [an] at hn;exact absurd rfl hn.2.2
    |some q=>exact ⟨q.2,rfl,fun y hy=>by rw [<- hb];exact Q5E hi q.1 q.2 an y hy⟩
end

section
variable {P:Program} {E:Env} {R:Type}
theorem LA:∀ {rows:List (List D)} {s:List UInt8},ML rows=some s->∃ ns:List Int,rows=ns.map (fun n=>[D.int .u8 n])/\s=ns.map fun n=>UInt8.ofNat n.toNat
 |[],s,h=>by simp [ML] at h;subst h;exact ⟨[],rfl,rfl⟩
 |row::r,s,h=>by
  unfold ML at h;split at h
  ·rename_i he;cases he
  ·rename_i n r' he;injection he with he1 he2
   subst he1 he2;split at h
   ·rename_i l hl;injection h with h
    subst h;obtain ⟨ns,h1,h2⟩:=LA hl;exact ⟨n::ns,by simp [h1],by simp [h2]⟩
   ·cases h
  ·cases h
theorem Ci:∀ (ns:List Int) (s:ByteArray),(ns.foldl (fun r n=>r.push (UInt8.ofNat n.toNat)) s).data.toList=s.data.toList++ns.map fun n=>UInt8.ofNat n.toNat
 |[],s=>by simp
 |n::ns,s=>by
  rw [List.foldl_cons,Ci ns];simp [ByteArray.push]
theorem Q3O {tt:TT} (hT:TOk P tt) {o:Oper} {s t:TypeId} {x:Operand} (ho:o.op = .convert s t x) {g:Bool} {ev:Operand->AV} {hl:Nat->Option Ob} {e:Nat} {rows:List (List D)} {rd:List Nat}
  (hs:KB tt s = .sl e 1) (ht:KB tt t = .str) (he:KB tt e = .int .u8) (hx:Cj 1 hl (ev x)=some (rows,rd)) {k:Dl->Option R} {r:R} (h:gb g (ML rows) [] (fun s=>k ⟨.d (.str s),[],rd⟩)=some r) :
  ∃ dl,k dl=some r/\(g=true->Jn P E o ev hl dl):=by
 obtain ⟨ti,bm,bh⟩:=Xh hs (by simp);obtain ⟨a9,a8,ay⟩:=Xh ht (by simp);obtain ⟨bi,a6,a7⟩:=Xh he (by simp);have bg:=((hT s ti bm).ksl _ _ bh).1;have bc:=(hT t a9 a8).kstr ay;have bl:=(hT e bi a6).kint _ a7;obtain ⟨str,h,hp⟩:=Qt h;refine ⟨_,h,fun hg=>Qj fun β S st a w hR hO hA=>?_⟩;have hv:=hO.at (x:=x) (by simp [ho,Op.operands]);obtain ⟨vals,ax⟩:=AD (by omega) hx hR hv (fun l bj=>hA l (.inl bj));obtain ⟨ns,am,an⟩:=LA (hp hg);have aq:∀ bs:ByteArray,bs.data.toList=str->(execOp a.eval o).run P w = .ok (.value (.string bs)) w->∃ u,(execOp a.eval o).run P w = .ok (.value u) w/\RdA β S (look st.h) w (tmv a) u (.d (.str str)):=by
  intro bs hb hr;refine ⟨.string bs,hr,.d _ _ ?_⟩;rw [<- hb];exact .str _
 have ak:∀ (ad:Option Addr) (l c:Nat) (bs:ByteArray),a.eval x = .slice ad l c->(Conv.bytesToString (.slice ad l c)).run P w = .ok (.string bs) w->(execOp a.eval o).run P w = .ok (.value (.string bs)) w:=by
  intro ad l c bs bk hb;unfold execOp;rw [ho];simp only [bk,QcT,run_convert_bytes_string w s t e ad l c bg bl bc,hb,QcQ];rfl
 rcases ax.form with ⟨hf,hn⟩ | ⟨c,hf,hn⟩ | ⟨ad,c,hf,aw⟩
 ·refine aq .empty ?_ (ak none 0 0 _ hf (by simp [Conv.bytesToString]));rw [hn] at am;have:ns=[]:=by
   cases ns with
   |nil=>rfl
   |cons a b=>simp at am
  rw [an,this];rfl
 ·refine aq .empty ?_ (ak none 0 c _ hf (by simp [Conv.bytesToString]));rw [hn] at am;have:ns=[]:=by
   cases ns with
   |nil=>rfl
   |cons a b=>simp at am
  rw [an,this];rfl
 ·have bn:vals.length=ns.length:=by rw [ax.len,am];simp
  have au:vals=ns.map (Value.int .u8):=by
   refine List.ext_getElem? fun i=>?_
   rcases Nat.lt_or_ge i ns.length with hi | hi
   ·obtain ⟨u,hu,hr⟩:=ax.rd i 0 [D.int .u8 ns[i]] (D.int .u8 ns[i]) (by rw [am];simp [hi]) rfl;rw [show i*1+0=i by omega] at hu;rw [hu];cases hr;simp [hi]
   ·rw [List.getElem?_eq_none (by omega),List.getElem?_eq_none (by simpa using hi)]
  have ao:=run_loadCells_list (P:=P) w ad vals aw;have hr:=run_bytesToString (P:=P) w ad rows.length c ns (by
   rw [au,List.length_map] at ao;rw [show rows.length=ns.length by rw [am];simp];exact ao)
  refine aq _ ?_ (ak (some ad) _ c _ hf hr);rw [Ci,an];rfl
end

section
variable {P:Program} {E:Env} {R:Type}
theorem G0 {α:Type}:∀ (n s:Nat) (l:List α),(P9 n s l).length=n
 |0,_,_=>rfl
 |n+1,s,l=>by simp [P9,G0 n]
theorem EP {α:Type}:∀ (n s:Nat) (l:List α) (i:Nat),i<n->(P9 n s l)[i]? = some ((l.drop (i*s)).take s)
 |n+1,s,l,0,_=>by simp [P9]
 |n+1,s,l,i+1,h=>by
  simp only [P9,List.getElem?_cons_succ];rw [EP n s _ i (by omega),List.drop_drop,Nat.add_comm s,Qdc]
theorem Ck {S:Nat->Prop} {w:World} {cs:Array Value} {n s:Nat} {ds:List D} (am:ds.length=n*s) (ao:n*s<=cs.size) (hr:∀ (j:Nat) (x:D),ds[j]? = some x->∃ v,cs[j]? = some v/\Rd S w v x):WH S w cs s (P9 n s ds):=by
 refine ⟨by rw [G0];omega,fun i r h=>?_,fun i j r x h1 h2=>?_⟩
 ·have hi:i<n:=by have:=(QcO.1 h).1;rw [G0] at this;exact this
  rw [EP n s ds i hi] at h;injection h with h
  subst h;have an:(i+1)*s<=n*s:=QcV _ (by omega);have ak:(i+1)*s=i*s+s:=Qdc i _;simp;omega
 ·have hi:i<n:=by have:=(QcO.1 h1).1;rw [G0] at this;exact this
  rw [EP n s ds i hi] at h1;injection h1 with h1
  subst h1;rw [List.getElem?_take] at h2;split at h2
  case isFalse=>cases h2
  rw [List.getElem?_drop] at h2;exact hr _ x h2
theorem Q3H {β:Nat->Option Nat} {S:Nat->Prop} {st:St} {a:Act} {w:World} (hR:Rel E β S st a w) {ak e s:Nat} {rows:List (List D)} {cs:Array Value} (am:look st.h ak=none) (hc:Wn st ak=true) (h:WH S w cs s rows) :
  Rel E (Ty β ak (some w.heap.size)) S ⟨st.n,st.tm,(ak,.arr e s rows)::rem ak st.h⟩ a (w.alloc (.cells cs e)):=by
 obtain ⟨h1,h2,h3⟩:=h;refine hR.new am hc (.inr ⟨w.heap.size,cs,by simp [Ty],UG _ _,h1,h2,fun i j r x h4 h5=>?_⟩);obtain ⟨v,hv,hr⟩:=h3 i j r x h4 h5;exact ⟨v,hv,hr.mono (fun _ hb=>hb) (fun b hb=>YI _ _ (hR.hr.sb b hb))⟩
theorem Q1C {tt:TT} (hT:TOk P tt) {o:Oper} {t:TypeId} (ho:o.op = .alloc t) {ev:Operand->AV} {hl:Nat->Option Ob} {ak:Nat} {ti:TyI} (a7:look tt t=some ti) {e am n:Nat} (hk:ti.kd = .array e am n) (a6:ti.zd.length=n*am) (hn:hl ak=none) :
  Jn P E o ev hl ⟨.ap ak 0 0,[]++[(ak,some (.arr t am (P9 n am ti.zd)))],[]⟩:=by
 have an:=hT t ti a7;obtain ⟨inf,au,_,_,z,hz,ax⟩:=an.inf;obtain ⟨_,_,_,aq,_⟩:=an.karr e am n hk;have bh:z.cells.size=n*am:=by rw [<- Qd3,ax,an.zlen];exact aq
 intro β S st a w hR hO hA a8 K Q hK;have ay:look st.h ak=none:=by rw [hA ak (.inr (by simp [wrL]))];exact hn
 have hc:Wn st ak=true:=by simpa [Zi,ay] using a8
 have ar:WH S w z.cells am (P9 n am ti.zd):=Ck a6 (by omega) fun j x hx=>by
  obtain ⟨v,hv,hr⟩:=an.zd (by omega) j x hx;refine ⟨v,?_,hr S w⟩;rw [<- ax] at hv;simpa using hv
 have aw:(execOp a.eval o).run P w = .ok (.value (.pointer (some ⟨w.heap.size,0,none⟩))) (w.alloc (.cells z.cells t)):=by
  unfold execOp;rw [ho];simp [Instr.alloc,zeroValue,XU au,hz,newVar,newRow]
 unfold Oper.wp;rw [aw];refine hK _ _ ⟨Ty β ak (some w.heap.size),S,Q3H hR ay hc ar,?_⟩;have:=RdA.ap (β:=Ty β ak (some w.heap.size)) (S:=S) (h:=look (Pd st.h ([]++[(ak,some (Ob.arr t am (P9 n am ti.zd)))]))) (w:=w.alloc (.cells z.cells t)) (tm:=tmv a) ak 0 0 w.heap.size t am (P9 n am ti.zd) (by simp [Ty]) (by simp [Pd,ZM]);simpa using this
theorem GY {α:Type} {l:List α} {n:Nat} {u:Unit} (h:Ku l n=some u):l.length=n:=by
 unfold Ku at h;cases hb:Nat.beq l.length n with
 |false=>simp [hb] at h
 |true=>exact QcR hb
theorem Ex {tt:TT} (hT:TOk P tt) {o:Oper} {t:TypeId} {x i:Operand} (ho:o.op = .indexAddr t x i) {g:Bool} {ev:Operand->AV} {hl:Nat->Option Ob} {k:Dl->Option R} {r:R} {e ak n l:Nat} (hk:KB tt t = .array e ak n) (a6:ev x = .ap l 0 0)
  (h:RC g hl ak n l (ev i) k=some r):∃ dl,k dl=some r/\(g=true->Jn P E o ev hl dl):=by
 have ar:x∈o.op.operands.toList:=by simp [ho,Op.operands]
 have aw:i∈o.op.operands.toList:=by simp [ho,Op.operands]
 obtain ⟨ti,ay,au⟩:=Xh hk (by simp);obtain ⟨hu,bc,⟨i0,a9,an⟩,_,_⟩:=(hT t ti ay).karr _ _ _ au;unfold RC at h;split at h
 case h_2=>cases h
 rename_i ik y e' s rows a8 am;cases hb:Nat.beq s ak with
 |false=>simp [hb] at h
 |true=>
  obtain rfl:=QcR hb;simp only [hb,QcU] at h;obtain ⟨u,h,ax⟩:=Qt h;refine ⟨_,h,fun hg=>Qj fun β S st a w hR hO hA=>?_⟩;obtain ⟨h0,h1⟩:=Q39 (ax hg);have hi:=(a8▸hO.at aw).int_inv;have aq:look st.h l=some (.arr e' s rows):=by rw [hA l (.inl (by simp))];exact am
  obtain ⟨b,a7,hx⟩:=RdA.ap_inv aq (a6▸hO.at ar);have ao:(execOp a.eval o).run P w = .ok (.value (.pointer (some ⟨b,y.toNat*s,none⟩))) w:=by
   unfold execOp;rw [ho];simp [Instr.indexAt,hx,hi,asIntOf,QI hu,h0,h1,sizeOf,XU a9,an,Instr.sureAddr,Gc]
  refine ⟨_,ao,?_⟩;have:=RdA.ap (β:=β) (S:=S) (h:=look st.h) (w:=w) (tm:=tmv a) l y.toNat 0 b e' s rows a7 aq;simpa using this
theorem Q1I {tt:TT} (hT:TOk P tt) {o:Oper} {t:TypeId} {x y:Operand} (ho:o.op = .store t x y) {ev:Operand->AV} {hl:Nat->Option Ob} {k:Dl->Option R} {r:R} {e a6 n l:Nat} (hk:KB tt t = .array e a6 n) (bx:ev x = .ap l 0 0)
  (h:Q2w hl a6 n l (ev y) k=some r):∃ dl,k dl=some r/\Jn P E o ev hl dl:=by
 have br:x∈o.op.operands.toList:=by simp [ho,Op.operands]
 have bm:y∈o.op.operands.toList:=by simp [ho,Op.operands]
 obtain ⟨ti,bv,bu⟩:=Xh hk (by simp);have bd:=hT t ti bv;obtain ⟨hu,b1,_,ax,_⟩:=bd.karr _ _ _ bu;unfold Q2w at h;split at h
 case h_2=>cases h
 rename_i e' s rows bc;cases hb:Nat.beq s a6 with
 |false=>simp [hb] at h
 |true=>
  obtain rfl:=QcR hb;simp only [hb,QcU] at h;split at h
  case h_2=>cases h
  rename_i ds bq;cases an:Nat.beq ds.length (n*s) with
  |false=>simp [an] at h
  |true=>
   have bi:=QcR an;simp only [an,QcU] at h;obtain ⟨u,h,a9⟩:=Qt h;have bo:=GY (a9 rfl);refine ⟨_,h,?_⟩;intro β S st a w hR hO hA cn K Q hK;have am:look st.h l=some (.arr e' s rows):=by rw [hA l (.inl (by simp))];exact bc
   obtain ⟨b,ao,hx⟩:=RdA.ap_inv am (bx▸hO.at br);have a7:=DB bq;obtain ⟨c1,c2,c3⟩:=Sz (hO.at bm) (by rw [a7];exact Lj ds);rcases hR.hr.ob l _ am with ⟨bk,_⟩ | ⟨b',cs,au,hw,aw,cj,ce⟩
   ·rw [ao] at bk;cases bk
   obtain rfl:b=b':=by rw [ao] at au;injection au
   rw [bo] at aw;have ar:(a.eval y).cells.size=n*s:=by rw [c1,a7];simpa using bi
   obtain ⟨w',bj,ak⟩:∃ w',(storeCells ⟨b,0,none⟩ (a.eval y).cells.toList 0).run P w = .ok () w'/\Wrote b (GL cs 0 (a.eval y).cells.toList) e' (0,0) w w':=
    VK b 0 e' (0,0) _ 0 cs w hw (Q8K _) (by simp [ar];omega) c3
   have bg:∀ j,(GL cs 0 (a.eval y).cells.toList)[j]? = if j<n*s then (a.eval y).cells[j]? else cs[j]?:=by
    intro j;rw [HW _ _ _ _ (by simp [ar];omega)];simp [ar]
   unfold Oper.wp;have bp:a.eval x = .pointer (some ⟨b,0,none⟩):=by simpa using hx
   rw [S9 ho bp (Ps bd (by rw [ar,ax]) bj)];have bh:∀ k',look ((l,Ob.arr e' s (P9 n s ds))::rem l st.h) k'=if k'=l then some (.arr e' s (P9 n s ds)) else look st.h k':=fun k'=>ZM l k' _ st.h
   have aq:Keep β (look st.h) w β (look ((l,.arr e' s (P9 n s ds))::rem l st.h)) w' l:=by
    refine ⟨rfl,fun h=>?_,fun e1 s1 bl h=>?_,fun b2 cf cb co _ an a8=>?_,fun t f h=>by rw [am] at h;cases h⟩
    ·rw [am] at h;cases h
    ·rw [am] at h;cases h;exact .inr ⟨P9 n s ds,by rw [bh,Qd6 rfl],by rw [G0];omega⟩
    ·rw [ao] at an;injection an with e;subst e
     rw [hw] at a8;injection a8 with e;injection e with e1 e2 e3;subst e1
     exact ⟨_,_,_,ak.blk,ZU _ _ _⟩
   refine hK undef _ ⟨β,S,hR.set am ao ak.oth ak.os ak.tape ak.output ak.size aq (.inr ⟨b,_,ao,ak.blk,?_⟩),.top _⟩;have bn:∀ c,S c->w'.heap[c]? = w.heap[c]?:=fun c hc=>ak.oth c (fun e=>by subst e;exact hR.hr.apart l c (by simp [am]) ao hc)
   have ay:WH S w (GL cs 0 (a.eval y).cells.toList) s (P9 n s ds):=by
    refine Ck bi (by rw [ZU];exact aw) fun j d hd=>?_
    have hj:j<n*s:=by have:=(QcO.1 hd).1;omega
    have h1:=bg j;rw [Qd6 hj] at h1;rw [h1];refine ⟨_,Ua (cs:=(a.eval y).cells) (by omega),?_⟩;have h2:=c2 j (.d d) (by rw [a7,QcW,hd];rfl);exact h2.d_inv
   obtain ⟨r1,r2,r3⟩:=ay;exact ⟨r1,r2,fun i j r x h4 h5=>by
    obtain ⟨v,hv,hr⟩:=r3 i j r x h4 h5;exact ⟨v,hv,hr.mono (fun _ h=>h) bn⟩⟩
theorem Q68 {β:Nat->Option Nat} {S:Nat->Prop} {st:St} {a:Act} {w w':World} (hR:Rel E β S st a w) (am:∀ b,b<w.heap.size->w'.heap[b]? = w.heap[b]?) (ao:w'.heap.size=w.heap.size+1) (ar:w'.os=w.os) (aq:w'.tape=w.tape) (an:w'.output=w.output):Rel E β (fun b=>S b\/b=w.heap.size) st a w':=by
 have:=hR.upd (w':=w') (β':=β) (S':=fun b=>S b\/b=w.heap.size) (H':=st.h) (fun _ h=>.inl h) (fun b hb=>am b (hR.hr.sb b hb)) (fun _=>False)
  (fun l _=>⟨rfl,rfl,fun b hs hb=>am b (P4 hR hs hb)⟩) (fun l h=>h.elim) (fun l o h=>h.elim) hR.hr.inj
  (fun l b hs hb hS=>by
   rcases hS with hS | hS
   ·exact hR.hr.apart l b hs hb hS
   ·have:=P4 hR hs hb;omega)
  hR.hr.own
  (fun b hS=>by
   rw [ao];rcases hS with hS | hS
   ·have:=hR.hr.sb b hS;omega
   ·omega)
  (fun b hS=>by
   rcases hS with hS | hS
   ·exact hR.hr.sfr b hS
   ·right;right;have:=hR.hr.fr.size;omega)
  ⟨ar.trans hR.hr.fr.os,aq.trans hR.hr.fr.tape,an.trans hR.hr.fr.output,by have:=hR.hr.fr.size;omega,fun b hb hm=>(am b (Qdh hb hR.hr.fr.size)).trans (hR.hr.fr.block b hb hm)⟩
 exact this
theorem Bb {tt:TT} (hT:TOk P tt) {o:Oper} {s t:TypeId} {x:Operand} (ho:o.op = .convert s t x) {ev:Operand->AV} {hl:Nat->Option Ob} {e:Nat} {n:List UInt8}
  (hs:KB tt s = .str) (ht:KB tt t = .sl e 1) (he:KB tt e = .int .u8) (hx:ev x = .d (.str n)):Jn P E o ev hl ⟨.d (.sl 1 (Q4m n)),[],[]⟩:=by
 obtain ⟨ti,bd,a8⟩:=Xh hs (by simp);obtain ⟨aw,au,am⟩:=Xh ht (by simp);obtain ⟨a9,ao,ar⟩:=Xh he (by simp);have a7:=(hT s ti bd).kstr a8;have ax:=((hT t aw au).ksl _ _ am).1;have bc:=(hT e a9 ao).kint _ ar;intro β S st a w hR hO hA bm K Q hK;obtain ⟨b,hb,hv⟩:=(hx▸hO.at (x:=x) (by simp [ho,Op.operands])).str_inv;have aq:(execOp a.eval o).run P w = .ok (.value (.slice (some ⟨w.heap.size,0,none⟩) b.size (grownCap w b.size 0 e))) (Lib.bytesWorld w e b):=by
  unfold execOp;rw [ho];simp only [hv,QcT,Lib.run_convert_string_bytes w s t e b a7 ax bc,QcQ];rfl
 unfold Oper.wp;rw [aq];have an:b.size<=grownCap w b.size 0 e:=grownCap_ge w b.size 0 e;refine hK _ _ ⟨β,fun c=>S c\/c=w.heap.size,Q68 hR (fun c hc=>Lib.bytesWorld_at_old w e b c hc) (Lib.bytesWorld_size w e b) rfl rfl rfl,.d _ _ ?_⟩;have ak:(Q4m n).length=b.size:=by simp [Q4m,hb]
 rw [<- ak];refine WH.rd (cs:=Lib.bytesCells w e b) ⟨?_,?_,?_⟩ (Lib.bytesWorld_at_new w e b) (.inr rfl) (by rw [ak];exact an)
 ·rw [ak];simp [Lib.bytesCells]
 ·intro i r h;simp only [Q4m,QcW,QcS] at h;obtain ⟨c,_,rfl⟩:=h;rfl
 ·intro i j r d h1 h2;simp only [Q4m,QcW,QcS] at h1;obtain ⟨c,hc,rfl⟩:=h1;cases j with
  |zero=>
   simp at h2;subst h2;have hi:i<b.size:=by have:=(QcO.1 hc).1;rw [hb] at this;simpa using this
   refine ⟨.int .u8 (c.toNat:Int),?_,.int _ _⟩;rw [hb] at hc;have:b.data[i]? = some c:=by simpa using hc
   have a6:i<b.data.size:=hi;simp only [Lib.bytesCells,Nat.mul_one,Nat.add_zero];rw [Array.getElem?_append_left (by simpa using a6),Array.getElem?_map,this];rfl
  |succ j=>simp at h2
theorem Tw (n:Int):∀ (es:List MapEntry) (i:Nat),(∀ e∈es,∃ m,e.key = .int .i64 m) ->
  (Gk es n=none/\Instr.findNow (.int .i64) (.int .i64 n) es i=some none)\/∃ j v,Gk es n=some v/\Instr.findNow (.int .i64) (.int .i64 n) es i=some (some (j,v))
 |[],i,_=>.inl ⟨rfl,rfl⟩
 |e::r,i,h=>by
  obtain ⟨m,hm⟩:=h e (List.mem_cons_self ..);simp only [Gk,hm,Instr.findNow,Instr.sameNow,if_true];by_cases ak:m=n
  ·right;subst ak;exact ⟨i,e.val,by simp,by simp⟩
  ·have hb:(n == m)=false:=by rw [beq_eq_false_iff_ne];exact fun h=>ak h.symm
   simp only [hb,ak,if_false];exact Tw n r (i+1) fun x hx=>h x (Qdd _ hx)
theorem RdA.mpd_inv {β:Nat->Option Nat} {S:Nat->Prop} {h:Nat->Option Ob} {w:World} {tm:Nat->Value} {v:Value} {f:Int->List (List D)} (hv:RdA β S h w tm v (.mpd f)):Q60 S w v f:=by
 cases hv with
 |mpd _ _ hm=>exact hm
 |dang _ _ l hl=>simp [VG] at hl
theorem Q2j {tt:TT} (hT:TOk P tt) {o:Oper} {t:TypeId} {m x:Operand} (ho:o.op = .lookup t m x false) {ev:Operand->AV} {hl:Nat->Option Ob} {f:Int->List (List D)} {n:Int}
  (ht:KB tt t = .mapI) (hm:ev m = .mpd f) (hx:ev x = .d (.int .i64 n)):Jn P E o ev hl ⟨.d (.sl 1 (f n)),[],[]⟩:=by
 obtain ⟨ti,au,aq⟩:=Xh ht (by simp);obtain ⟨K0,e,hu,hk,i,hi,hz⟩:=(hT t ti au).kmap aq;intro β S st a w hR hO hA bj K Q hK;obtain ⟨b,es,aw,hv,hS,hb,am,hn,ak⟩:=(hm▸hO.at (x:=m) (by simp [ho,Op.operands])).mpd_inv;have ar:=(hx▸hO.at (x:=x) (by simp [ho,Op.operands])).int_inv;have ax:(zeroValue e).run P w = .ok (.slice none 0 0) w:=by simp [zeroValue,XU hi,hz]
 have ao:(Instr.checkKey es.isEmpty 10000 K0 (.int .i64 n)).run P w = .ok () w:=by
  rw [show (10000:Nat)=9999+1 from rfl,Instr.checkKey];simp only [QcT,QI hk,QcQ];rfl
 obtain ⟨v,an,ay⟩:∃ v,(Instr.lookup t (.map (some b)) (.int .i64 n) false).run P w = .ok v w/\Rd S w v (.sl 1 (f n)):=by
  rcases Tw n es.toList 0 am with ⟨h1,h2⟩ | ⟨j,v,h1,h2⟩
  ·refine ⟨.slice none 0 0,?_,by rw [hn n h1];exact .sl0 _ _ _⟩;simp [Instr.lookup,QI hu,Qd9 hb,ao,Instr.findKey,QI hk,h2,ax,Result.andThen]
  ·refine ⟨v,?_,ak n v h1⟩;simp [Instr.lookup,QI hu,Qd9 hb,ao,Instr.findKey,QI hk,h2,Result.andThen]
 unfold Oper.wp execOp;rw [ho];simp only [hv,ar,QcT,an,QcQ];exact hK _ _ ⟨β,S,hR,.d _ _ ay⟩
end

section
variable {P:Program} {E:Env} {R:Type}
theorem Q2Z (n:Int) (u:Value):∀ (es:List MapEntry) (i:Nat),(∀ e∈es,∃ m,e.key = .int .i64 m)->Gk es n≠none ->
  ∃ j v e,Instr.findNow (.int .i64) (.int .i64 n) es i=some (some (i+j,v))/\es[j]? = some e/\e.key = .int .i64 n /\
   (∀ x∈es.modify j (fun e=>{ e with key:=.int .i64 n,val:=u }),∃ m,x.key = .int .i64 m)/\∀ m,Gk (es.modify j fun e=>{ e with key:=.int .i64 n,val:=u }) m=if m=n then some u else Gk es m
 |[],i,_,h=>absurd rfl h
 |e::r,i,h,hl=>by
  obtain ⟨k,hk⟩:=h e (List.mem_cons_self ..);by_cases ak:k=n
  ·subst ak;refine ⟨0,e.val,e,?_,rfl,hk,fun x hx=>?_,fun m=>?_⟩
   ·simp [Instr.findNow,Instr.sameNow,hk]
   ·simp only [List.modify_zero_cons,Qd5] at hx;rcases hx with rfl | hx
    ·exact ⟨k,rfl⟩
    ·exact h x (Qdd _ hx)
   ·simp only [List.modify_zero_cons,Gk,hk];by_cases hm:k=m
    ·simp [hm]
    ·rw [QcX hm,QcX (fun e=>hm e.symm),QcX hm]
  ·have hb:(n == k)=false:=by rw [beq_eq_false_iff_ne];exact fun h=>ak h.symm
   simp only [Gk,hk,ak,if_false] at hl;obtain ⟨j,v,e',g1,g2,g3,g4,g5⟩:=Q2Z n u r (i+1) (fun x hx=>h x (Qdd _ hx)) hl;refine ⟨j+1,v,e',?_,by simpa using g2,g3,fun x hx=>?_,fun m=>?_⟩
   ·simp only [Instr.findNow,Instr.sameNow,hk,hb,if_true,g1];rw [Nat.add_assoc,Nat.add_comm 1 j]
   ·simp only [List.modify_succ_cons,Qd5] at hx;rcases hx with rfl | hx
    ·exact ⟨k,hk⟩
    ·exact g4 x hx
   ·simp only [List.modify_succ_cons,Gk,hk,g5];by_cases hm:k=m
    ·subst hm;simp [ak]
    ·simp [hm]
theorem AM (n:Int) (e:MapEntry) (he:e.key = .int .i64 n):∀ (es:List MapEntry),(∀ e∈es,∃ m,e.key = .int .i64 m)->Gk es n=none->∀ m,Gk (es++[e]) m=if m=n then some e.val else Gk es m
 |[],_,_,m=>by
  simp only [List.nil_append,Gk,he];by_cases h:n=m
  ·simp [h]
  ·rw [QcX h,QcX (fun e=>h e.symm)]
 |x::r,h,hl,m=>by
  obtain ⟨k,hk⟩:=h x (List.mem_cons_self ..);simp only [Gk,hk] at hl;by_cases ak:k=n
  ·rw [Qd6 ak] at hl;cases hl
  ·rw [QcX ak] at hl;have ih:=AM n e he r (fun y hy=>h y (Qdd _ hy)) hl m;simp only [List.cons_append,Gk,hk,ih];by_cases hm:k=m
   ·subst hm;simp [ak]
   ·simp [hm]
theorem Q3G {tt:TT} (hT:TOk P tt) {t:TypeId} (ht:KB tt t = .mpb) {w:World} {b:Nat} {f:Int->Bool} (hm:MpR w b f) (n:Int) (v:Bool) :
  ∃ w',(Instr.mapUpdate t (.map (some b)) (.int .i64 n) (.bool v)).run P w = .ok () w'/\MpR w' b (Q7e f n v)/\(∀ k,k≠b->w'.heap[k]? = w.heap[k]?)/\w'.os=w.os/\w'.tape=w.tape/\w'.output=w.output/\w'.heap.size=w.heap.size:=by
 obtain ⟨ti,bg,bc⟩:=Xh ht (by simp);obtain ⟨K0,e,hu,hk,i,hi,hz⟩:=(hT t ti bg).kmpb bc;obtain ⟨es,an,hb,ak,hn,au⟩:=hm;have a7:b<w.heap.size:=(Qd2.1 hb).1;have a6:(Instr.checkKey false 10000 K0 (.int .i64 n)).run P w = .ok () w:=by
  rw [show (10000:Nat)=9999+1 from rfl,Instr.checkKey];simp only [QcT,QI hk,QcQ];rfl
 have aw:∀ (ao:Array MapEntry) (am:Nat),(Instr.mapUpdate t (.map (some b)) (.int .i64 n) (.bool v)).run P w = .ok () { w with heap:=w.heap.setIfInBounds b (.map ao am) } ->
   (∀ e∈ao.toList,∃ m,e.key = .int .i64 m)->(∀ m,Gk ao.toList m=if m=n then some (.bool v) else Gk es.toList m) ->
   ∃ w',(Instr.mapUpdate t (.map (some b)) (.int .i64 n) (.bool v)).run P w = .ok () w'/\MpR w' b (Q7e f n v)/\(∀ k,k≠b->w'.heap[k]? = w.heap[k]?)/\w'.os=w.os/\w'.tape=w.tape/\w'.output=w.output/\w'.heap.size=w.heap.size:=by
  intro ao am ax a9 ay;refine ⟨_,ax,⟨ao,am,by simp [a7],a9,fun m hm=>?_,fun m x hm=>?_⟩,fun k hk=>?_,rfl,rfl,rfl,by simp⟩
  ·rw [ay] at hm;by_cases e1:m=n
   ·rw [Qd6 e1] at hm;cases hm
   ·rw [QcX e1] at hm;simp [Q7e,e1,hn m hm]
  ·rw [ay] at hm;by_cases e1:m=n
   ·rw [Qd6 e1] at hm;injection hm with hm;simp [Q7e,e1,<- hm]
   ·rw [QcX e1] at hm;simp [Q7e,e1,au m x hm]
  ·simp [Ne.symm hk]
 cases hl:Gk es.toList n with
 |none=>
  have hf:Instr.findNow (.int .i64) (.int .i64 n) es.toList 0=some none:=by
   rcases Tw n es.toList 0 ak with ⟨_,h2⟩ | ⟨j,x,h1,_⟩
   ·exact h2
   ·rw [hl] at h1;cases h1
  refine aw (es.push ⟨.int .i64 n,.bool v,an⟩) (an+1) ?_ (fun x hx=>?_) (fun m=>?_)
  ·simp [Instr.mapUpdate,QI hu,Qd9 hb,a6,Instr.findKey,QI hk,hf,MapKept.run_setObj_map _ hb,Result.andThen]
  ·simp only [Array.toList_push,Qdi,List.mem_singleton] at hx;rcases hx with hx | rfl
   ·exact ak x hx
   ·exact ⟨n,rfl⟩
  ·rw [Array.toList_push];exact AM n _ rfl es.toList ak hl m
 |some x=>
  obtain ⟨j,y,e',g1,g2,g3,g4,g5⟩:=Q2Z n (.bool v) es.toList 0 ak (by rw [hl];simp);rw [Nat.zero_add] at g1;have bd:es[j]? = some e':=by simpa using g2
  have a8:∀ (w:World),(Instr.keyThatStays (.int .i64 n) (.int .i64 n)).run P w = .ok (.int .i64 n) w:=by
   intro w;simp [Instr.keyThatStays,Instr.sameBits]
  refine aw (es.modify j fun e=>{ e with key:=.int .i64 n,val:=.bool v }) an ?_ (by rw [Array.toList_modify];exact g4) (fun m=>by rw [Array.toList_modify];exact g5 m);simp [Instr.mapUpdate,QI hu,Qd9 hb,a6,Instr.findKey,QI hk,g1,bd,g3,a8,MapKept.run_setObj_map _ hb,Result.andThen]
theorem Q0H {o:Oper} {t:TypeId} (ho:o.op = .makeMap t none) {ev:Operand->AV} {hl:Nat->Option Ob} {ak:Nat} (hn:hl ak=none) :
  Jn P E o ev hl ⟨.arr ak,[]++[(ak,some (.mp t fun _=>false))],[]⟩:=by
 intro β S st a w hR hO hA ao K Q hK;have an:look st.h ak=none:=by rw [hA ak (.inr (by simp [wrL]))];exact hn
 have hc:Wn st ak=true:=by simpa [Zi,an] using ao
 have am:(execOp a.eval o).run P w = .ok (.value (.map (some w.heap.size))) (w.alloc (.map #[] 0)):=by
  unfold execOp;rw [ho];have h1:(Instr.makeMap t none).run P w = .ok (.map (some w.heap.size)) (w.alloc (.map #[] 0)):=rfl;simp only [Option.map_none,QcT,h1,QcQ];rfl
 unfold Oper.wp;rw [am];refine hK _ _ ⟨Ty β ak (some w.heap.size),S,?_,.mp ak w.heap.size t (fun _=>false) (by simp [Ty]) (by simp [Pd,look])⟩;exact hR.new an hc ⟨w.heap.size,by simp [Ty],#[],0,UG _ _,by simp,fun n _=>rfl,fun n v h=>by simp [Gk] at h⟩
theorem Cf {tt:TT} (hT:TOk P tt) {o:Oper} {t:TypeId} {m x v:Operand} (ho:o.op = .mapUpdate t m x v) {ev:Operand->AV} {hl:Nat->Option Ob} {l t':Nat} {f:Int->Bool} {n:Int} {b:Bool}
  (ht:KB tt t = .mpb) (hm:ev m = .arr l) (hx:ev x = .d (.int .i64 n)) (hv:ev v = .d (.bool b)) (ak:hl l=some (.mp t' f)):Jn P E o ev hl ⟨.top,[(l,some (.mp t' (Q7e f n b)))],[l]⟩:=by
 intro β S st a w hR hO hA bq K Q hK;have ak:look st.h l=some (.mp t' f):=by rw [hA l (.inl (by simp))];exact ak
 obtain ⟨bk,hb,a9⟩:=RdA.mp_inv ak (hm▸hO.at (x:=m) (by simp [ho,Op.operands]));have bg:=(hx▸hO.at (x:=x) (by simp [ho,Op.operands])).int_inv;have bj:=(hv▸hO.at (x:=v) (by simp [ho,Op.operands])).bool_inv;obtain ⟨b2,au,ax⟩:=hR.hr.ob l _ ak;obtain rfl:bk=b2:=by rw [hb] at au;injection au
 obtain ⟨w',ar,a6,aq,bi,am,aw,bd⟩:=Q3G hT ht ax n b;have an:(execOp a.eval o).run P w = .ok .skip w':=by
  unfold execOp;rw [ho];simp only [a9,bg,bj,QcT,ar,QcQ];rfl
 unfold Oper.wp;rw [an];refine hK undef _ ⟨β,S,?_,.top _⟩;obtain ⟨es,bh,a7,_⟩:=ax;refine hR.set ak hb aq bi am aw bd ⟨rfl,fun h=>?_,fun e s rows h=>?_,fun b3 cs ty fz _ ay ao=>?_,fun t1 f1 h=>?_⟩ ⟨bk,hb,a6⟩
 ·rw [ak] at h;cases h
 ·rw [ak] at h;cases h
 ·rw [hb] at ay;injection ay with e;subst e;rw [a7] at ao;cases ao
 ·rw [ak] at h;injection h with h
  injection h with h1 h2
  subst h1;exact .inr ⟨Q7e f n b,by rw [ZM,Qd6 rfl]⟩
theorem Q1e {tt:TT} (hT:TOk P tt) {o:Oper} {t:TypeId} {m x:Operand} (ho:o.op = .lookup t m x false) {ev:Operand->AV} {hl:Nat->Option Ob} {l t':Nat} {f:Int->Bool} {n:Int}
  (ht:KB tt t = .mpb) (hm:ev m = .arr l) (hx:ev x = .d (.int .i64 n)) (ak:hl l=some (.mp t' f)):Jn P E o ev hl ⟨.d (.bool (f n)),[],[l]⟩:=by
 obtain ⟨ti,a6,ax⟩:=Xh ht (by simp);obtain ⟨K0,e,hu,hk,i,hi,hz⟩:=(hT t ti a6).kmpb ax;refine Qj fun β S st a w hR hO hA=>?_
 have ak:look st.h l=some (.mp t' f):=by rw [hA l (.inl (by simp))];exact ak
 obtain ⟨bk,hb,aw⟩:=RdA.mp_inv ak (hm▸hO.at (x:=m) (by simp [ho,Op.operands]));have ay:=(hx▸hO.at (x:=x) (by simp [ho,Op.operands])).int_inv;obtain ⟨b2,ar,es,a7,ao,an,hn,am⟩:=hR.hr.ob l _ ak;obtain rfl:bk=b2:=by rw [hb] at ar;injection ar
 have a8:(zeroValue e).run P w = .ok (.bool false) w:=by simp [zeroValue,XU hi,hz]
 have au:(Instr.checkKey es.isEmpty 10000 K0 (.int .i64 n)).run P w = .ok () w:=by
  rw [show (10000:Nat)=9999+1 from rfl,Instr.checkKey];simp only [QcT,QI hk,QcQ];rfl
 have aq:(Instr.lookup t (.map (some bk)) (.int .i64 n) false).run P w = .ok (.bool (f n)) w:=by
  rcases Tw n es.toList 0 an with ⟨h1,h2⟩ | ⟨j,v,h1,h2⟩
  ·rw [hn n h1];simp [Instr.lookup,QI hu,Qd9 ao,au,Instr.findKey,QI hk,h2,a8,Result.andThen]
  ·rw [<- am n v h1];simp [Instr.lookup,QI hu,Qd9 ao,au,Instr.findKey,QI hk,h2,Result.andThen]
 refine ⟨.bool (f n),?_,.d _ _ (.bool _)⟩;unfold execOp;rw [ho];simp only [aw,ay,QcT,aq,QcQ];rfl
end

end Go.Vx
