/- Part of a proof. No conditions of their own. -/
import Derived.Orders
import Derived.Below
import Derived.Laws.StructEq
import Derived.Laws.Strings3
import Derived.Laws.Concat
import Derived.Laws.BytesString
import Derived.Laws.Shifts
import Derived.Laws.Slices
import Derived.Laws.Cells
import Derived.Laws.Rows
import Derived.Tactics2
import Derived.WideLaws
import Derived.Laws.AppendOwn
import Derived.Maps.AppendAt
import Derived.ArgAppend
import Derived.Lib.ConvBytes
import Derived.Carry
set_option linter.unusedVariables false
set_option linter.unusedSimpArgs false
noncomputable section
abbrev QhQ:=@Go.Result.andThen_ok
abbrev QhR:=@List.getElem?_eq_some_iff
abbrev QhS:=@Bool.and_eq_true
abbrev QhT:=@Nat.eq_of_beq_eq_true
abbrev QhU:=@Go.Sem.run_bind
abbrev QhV:=@cond_true
abbrev QhW:=@Option.map_eq_some_iff
abbrev QhX:=@Nat.mul_le_mul_right
abbrev QhY:=@Go.ByteArray.toList_eq
abbrev QhZ:=@List.mem_of_getElem?
abbrev Qi0:=@List.eq_nil_of_length_eq_zero
abbrev Qi1:=@List.getElem?_map
abbrev Qi2:=@Nat.le_of_ble_eq_true
abbrev Qi3:=@if_neg
abbrev Qi4:=@Array.length_toList
abbrev Qi5:=@Array.getElem?_eq_some_iff
abbrev Qi6:=@List.getElem?_eq_getElem
abbrev Qi7:=@if_pos
abbrev Qi8:=@Go.MapKept.run_getObj_map
abbrev Qi9:=@List.mem_cons
abbrev Qia:=@List.all_eq_true
abbrev Qib:=@List.getElem?_set_self
abbrev Qic:=@List.getElem?_set_ne
abbrev Qid:=@Go.Sem.run_pure
abbrev Qie:=@Nat.le_refl
abbrev Qif:=@Nat.mul_le_mul_left
abbrev Qig:=@List.length_cons
abbrev Qih:=@Nat.lt_of_lt_of_le
abbrev Qii:=@List.mem_append
abbrev Qij:=@Nat.succ_mul
abbrev Qik:=@List.map_cons
abbrev Qil:=@Nat.add_assoc
namespace Go.Vx
inductive D where
 |int (k:IntKind) (n:Int)
 |bool (b:Bool)
 |str (s:List UInt8)
 |sl (size:Nat) (rows:List (List D))
inductive AV where
 |top
 |d (x:D)
 |nil
 |ag (l:List AV)
 |tup (l:List AV)
 |ptr (l off:Nat)
 |el (row:List D) (off:Nat)
 |arr (l:Nat)
 |ap (l i off:Nat)
 |gd (t:Nat) (w:Bool) (av:AV)
 |fn (f:Nat) (cap:List AV)
 |fs (s:Nat) (rows:List (List D))
 |sa (l t:Nat)
 |mpd (f:Int->List (List D))
 |ex (v:Value)
inductive Ob where
 |box (cells:List AV)
 |arr (elem size:Nat) (rows:List (List D))
 |mp (t:Nat) (f:Int->Bool)
structure St where
 n:Nat
 tm:List (Nat × AV)
 h:List (Nat × Ob)
def look {α:Type}:List (Nat × α)->Nat->Option α
 |[],_=>none
 |(k,a)::r,t=>bif Nat.beq k t then some a else look r t
def rem {α:Type} (l:Nat):List (Nat × α)->List (Nat × α)
 |[]=>[]
 |(k,a)::r=>bif Nat.beq k l then rem l r else (k,a)::rem l r
def NL (h:List (Nat × Ob)):List (Nat × Option Ob)->List (Nat × Ob)
 |[]=>h
 |(l,some o)::r=>NL ((l,o)::rem l h) r
 |(l,none)::r=>NL (rem l h) r
def Pb:Value->AV
 |.int k n=>.d (.int k n)
 |.bool b=>.d (.bool b)
 |.string s=>.d (.str s.data.toList)
 |.slice none 0 0=>.nil
 |_=>.top
inductive Kd where
 |int (k:IntKind)
 |bool
 |str
 |sl (e esz:Nat)
 |struct
 |array (e esz n:Nat)
 |ptr
 |mapI
 |mpb
 |other
structure TyI where
 kd:Kd
 size:Nat
 bytes:Nat
 zero:List Value
 zd:List D
 fields:List (Nat × Nat)
 eqk:Option (List Kd)
abbrev TT:=List (Nat × TyI)
structure Dl where
 v:AV
 wr:List (Nat × Option Ob)
 rd:List Nat
def lkT (tm:List (Nat × AV)) (t:Nat):AV:=(look tm t).getD .top
def evO (tm:List (Nat × AV)):Operand->AV
 |.tmp t=>lkT tm t
 |.const v=>Pb v
 |.global _=>.top
 |.func f=>.fn f []
def bw (e w:Bool):Bool:=bif w then e else !e
def ctx (tm:List (Nat × AV)):Nat->Nat->Bool->Option (Bool × List (Nat × Bool))
 |0,_,_=>none
 |f+1,s,w=>
  match lkT tm s with
  |.d (.bool e)=>some (bw e w,[(s,w)])
  |.gd s' w' (.d (.bool e))=>
   match ctx tm f s' w' with
   |some (g,l)=>some (g&&bw e w,(s,w)::l)
   |none=>none
  |_=>none
def QcE:List (Nat × Bool)->Nat->Bool->Bool
 |[],_,_=>false
 |(a,b)::r,s,w=>(Nat.beq a s&&(b == w))||QcE r s w
def unw (l:List (Nat × Bool)):AV->AV
 |.gd s w av=>bif QcE l s w then av else .gd s w av
 |av=>av
section
variable {R:Type}
def orZ {α:Type} (g:Bool) (p:Option α) (z:α):Option α:=
 match p with
 |some a=>some a
 |none=>bif g then none else some z
def gb {α:Type} (g:Bool) (p:Option α) (z:α) (k:α->Option R):Option R:=Option.bind (orZ g p z) k
def Q3 (k:IntKind):D->Option Int
 |.int k' n=>bif k == k' then some n else none
 |_=>none
def Kl:D->Option Bool
 |.bool b=>some b
 |_=>none
def RD:D->Option (List UInt8)
 |.str s=>some s
 |_=>none
def pSl (size:Nat):D->Option (List (List D))
 |.sl s rows=>bif Nat.beq s size then some rows else none
 |_=>none
def Jl:List AV->Bool
 |[]=>true
 |.ptr ..::r=>Jl r
 |.d _::r=>Jl r
 |_=>false
def AK:AV->Bool
 |.gd ..=>false
 |.fn _ l=>Jl l
 |.ag _=>false
 |.tup _=>false
 |_=>true
def prj (g:Bool) (kd:Kd) (av:AV) (k:AV->Option R):Option R:=
 match av with
 |.d x=>
  match kd with
  |.int ik=>gb g (Q3 ik x) 0 fun n=>k (.d (.int ik n))
  |.bool=>gb g (Kl x) false fun b=>k (.d (.bool b))
  |.str=>gb g (RD x) [] fun s=>k (.d (.str s))
  |.sl _ ac=>gb g (pSl ac x) [] fun r=>k (.d (.sl ac r))
  |_=>none
 |av=>bif AK av then k av else none
def Q0c (g:Bool) (row:List D):Nat->Nat->(List AV->Option R)->Option R
 |_,0,k=>k []
 |off,n+1,k=>gb g row[off]? (.bool false) fun c=>Q0c g row (off+1) n fun cs=>k (.d c::cs)
def CF (cells:List AV):Nat->Nat->Option (List AV)
 |_,0=>some []
 |off,n+1=>
  match cells[off]? with
  |some c=>match CF cells (off+1) n with
   |some r=>bif AK c then some (c::r) else none
   |none=>none
  |none=>none
def SK:Kd->Bool
 |.struct=>true
 |_=>false
def V8:Kd->Bool
 |.struct=>true
 |.array ..=>true
 |_=>false
def Ry {α:Type}:Nat->Nat->List α->List (List α)
 |0,_,_=>[]
 |n+1,s,l=>l.take s::Ry n s (l.drop s)
def Hg {α:Type} (l:List α) (n:Nat):Option Unit:=bif Nat.beq l.length n then some () else none
def Q1R:AV->Bool
 |.d _ | .nil | .ptr .. | .el .. | .arr _ | .ap ..=>true
 |.fn _ l=>Jl l
 |_=>false
def Nz (cells:List AV):Nat->List AV->Option (List AV)
 |_,[]=>some cells
 |off,v::r=>bif Q1R v&&Nat.ble (off+1) cells.length then Nz (cells.set off v) (off+1) r else none
def Qct:List AV->Option (List D)
 |[]=>some []
 |.d x::r=>match Qct r with | some l=>some (x::l) | none=>none
 |_::_=>none
def Vg (tm:Operand->AV):List (Nat × Operand)->List (Nat × AV)
 |[]=>[]
 |(i,x)::r=>(i,tm x)::Vg tm r
def XN:AV->List AV
 |.ag l=>l
 |.fs s rows=>[.d (.sl s rows)]
 |v=>[v]
def AQ (fields:List (Nat × Nat)) (tt:TT):List AV->List (Nat × AV)->Option (List AV)
 |cells,[]=>some cells
 |cells,(i,v)::r=>
  match fields[i]? with
  |some (off,t)=>match look tt t with
   |some ti=>bif Nat.beq (XN v).length ti.size&&Nat.ble (off+ti.size) cells.length then
     match Nz cells off (XN v) with
     |some cs=>AQ fields tt cs r
     |none=>none
    else none
   |none=>none
  |none=>none
def Es (ti:TyI):List AV:=ti.zero.map Pb
def Q4U (ac t:Nat):Value->AV
 |.pointer none=>.sa ac t
 |v=>Pb v
def Q0l (ac t:Nat) (ti:TyI):List AV:=ti.zero.map (Q4U ac t)
def Q5I (op:BinOp) (k:IntKind) (a b:Int):Option D:=
 match op with
 |.add=>some (.int k (k.wrap (a+b)))
 |.sub=>some (.int k (k.wrap (a-b)))
 |.mul=>some (.int k (k.wrap (a*b)))
 |.eql=>some (.bool (a == b))
 |.neq=>some (.bool (a != b))
 |.lss=>some (.bool (decide (a<b)))
 |.leq=>some (.bool (decide (a<=b)))
 |.gtr=>some (.bool (decide (a>b)))
 |.geq=>some (.bool (decide (a>=b)))
 |_=>none
def nz (b:Int):Option Unit:=bif b == 0 then none else some ()
def B6 (b:Int):Option Unit:=bif decide (0<=b) then some () else none
def Q8r (n:Nat):Option Unit:=bif Nat.ble n 9223372036854775807 then some () else none
def Q5Q (k:IntKind) (a b:Int):Int:=k.wrap ((BitVec.ofInt k.bits a &&& BitVec.ofInt k.bits b).toNat)
def bOr (k:IntKind) (a b:Int):Int:=k.wrap ((BitVec.ofInt k.bits a ||| BitVec.ofInt k.bits b).toNat)
def QfO (k:IntKind) (a b:Int):Int:=k.wrap ((BitVec.ofInt k.bits a ^^^ BitVec.ofInt k.bits b).toNat)
def QdJ (k:IntKind) (a:Int):Int:=QfO k (if k.signed then -1 else k.max) a
def Q7j (k:IntKind) (a b:Int):Int:=k.wrap ((BitVec.ofInt k.bits a &&& ~~~(BitVec.ofInt k.bits b)).toNat)
def shL (k:IntKind) (a b:Int):Int:=k.wrap (a*2 ^ min b.toNat k.bits)
def shR (k:IntKind) (a b:Int):Int:=a.fdiv (2 ^ min b.toNat k.bits)
def Qez (a b:List UInt8):Bool:=Op.bytesLess a b||a == b
def Q3I (g:Bool):List Kd->List AV->List AV->(List Bool->Option R)->Option R
 |[],[],[],k=>k []
 |kd::ks,.d a::xs,.d b::ys,k=>
  match kd with
  |.int ik=>gb g (Q3 ik a) 0 fun m=>gb g (Q3 ik b) 0 fun n=>Q3I g ks xs ys fun r=>k ((m == n)::r)
  |.bool=>gb g (Kl a) false fun m=>gb g (Kl b) false fun n=>Q3I g ks xs ys fun r=>k ((m == n)::r)
  |.str=>gb g (RD a) [] fun m=>gb g (RD b) [] fun n=>Q3I g ks xs ys fun r=>k ((m == n)::r)
  |_=>none
 |_,_,_,_=>none
def Q9G:List Bool->Bool
 |[]=>true
 |[b]=>b
 |b::r=>b&&Q9G r
def Qg2 (g:Bool) (op:BinOp) (a b:List UInt8) (k:AV->Option R):Option R:=
 match op with
 |.add=>gb g (Q8r (a.length+b.length)) () fun _=>k (.d (.str (a++b)))
 |.eql=>k (.d (.bool (a == b)))
 |.neq=>k (.d (.bool (!(a == b))))
 |.lss=>k (.d (.bool (Op.bytesLess a b)))
 |.leq=>k (.d (.bool (Qez a b)))
 |.gtr=>k (.d (.bool (!Qez a b)))
 |.geq=>k (.d (.bool (!Op.bytesLess a b)))
 |_=>none
def Qgy (g:Bool) (op:BinOp) (kd:Kd) (eqk:Option (List Kd)) (x y:AV) (k:AV->Option R):Option R:=
 match x,y with
 |.d (.int ka a),.d (.int kb b)=>
  match op with
  |.shl=>gb g (B6 b) () fun _=>k (.d (.int ka (shL ka a b)))
  |.shr=>gb g (B6 b) () fun _=>k (.d (.int ka (shR ka a b)))
  |op=>bif ka == kb then
   match op with
   |.quo=>gb g (nz b) () fun _=>k (.d (.int ka (ka.wrap (a.tdiv b))))
   |.rem=>gb g (nz b) () fun _=>k (.d (.int ka (a.tmod b)))
   |.and=>k (.d (.int ka (Q5Q ka a b)))
   |.or=>k (.d (.int ka (bOr ka a b)))
   |.xor=>k (.d (.int ka (QfO ka a b)))
   |.andNot=>k (.d (.int ka (Q7j ka a b)))
   |_=>match Q5I op ka a b with
    |some r=>k (.d r)
    |none=>none
  else none
 |.d (.bool a),.d (.bool b)=>
  match kd,op with
  |.bool,.eql=>k (.d (.bool (a == b)))
  |.bool,.neq=>k (.d (.bool (!(a == b))))
  |_,_=>none
 |.d (.str a),.d (.str b)=>Qg2 g op a b k
 |.ag xs,.ag ys=>
  match eqk with
  |some ks=>match op with
   |.eql=>Q3I g ks xs ys fun bs=>k (.d (.bool (Q9G bs)))
   |.neq=>Q3I g ks xs ys fun bs=>k (.d (.bool (!Q9G bs)))
   |_=>none
  |none=>none
 |_,_=>none
def VP (s:List UInt8) (n:Int):Option Int:=bif decide (0<=n) then (s[n.toNat]?).map fun b=>(b.toNat:Int) else none
def slB (len:Nat) (lo hi:Option Int):Option (Nat × Nat):=
 bif decide (0<=lo.getD 0)&&(decide (lo.getD 0<=hi.getD len)&&decide (hi.getD len<=len)) then some ((lo.getD 0).toNat,(hi.getD len).toNat) else none
def Qfp (len:Nat) (lo hi mx:Option Int):Option (Nat × Nat):=
 match hi,mx with
 |some h,some m=>bif decide (h=m) then slB len lo (some h) else none
 |_,_=>none
def neL {α:Type}:List α->Option Unit
 |[]=>none
 |_=>some ()
def cut {α:Type} (l:List α) (q:Nat × Nat):List α:=(l.drop q.1).take (q.2-q.1)
def Q1 (rows:List (List D)) (n:Int):Option (List D):=bif decide (0<=n) then rows[n.toNat]? else none
def inB (len:Nat) (n:Int):Option Unit:=bif decide (0<=n)&&decide (n<len) then some () else none
def AM (ac:Nat) (hl:Nat->Option Ob):AV->Option (List (List D) × List Nat)
 |.d (.sl s rows)=>bif Nat.beq s ac then some (rows,[]) else none
 |.nil=>some ([],[])
 |.arr l=>match hl l with
  |some (.arr _ s rows)=>bif Nat.beq s ac then some (rows,[l]) else none
  |_=>none
 |_=>none
end
abbrev oP:=Option
abbrev oF:D:=.bool false
abbrev pIw:=Q3 .i64
abbrev wJ:=IntKind.wrap .i64
abbrev Q4 (x:Int):D:=.int .i64 x
abbrev Q4p:=(R:Type)->Nat->Nat->Bool->List AV->(Nat->Option Ob)->(Dl->Option R)->Option R
section
variable {R:Type}
def TJ (tt:TT) (t:Nat):Kd:=
 match look tt t with
 |some ti=>ti.kd
 |none=>.other
def Qc9 (tt:TT) (t:Nat):Option (List Kd):=
 match look tt t with
 |some ti=>ti.eqk
 |none=>none
def Nc (ev:Operand->AV):Option Operand->Option (Option Int)
 |none=>some none
 |some x=>match ev x with
  |.d (.int _ n)=>some (some n)
  |_=>none
def Q9q (tt:TT) (g:Bool) (t:Nat) (x i:AV) (k:Dl->Option R):Option R:=
 match TJ tt t,x,i with
 |.str,.d (.str s),.d (.int _ n)=>gb g (VP s n) 0 fun b=>k ⟨.d (.int .u8 b),[],[]⟩
 |_,_,_=>none
def Q7G (tt:TT) (g:Bool) (t:Nat) (x:AV) (lo hi:Option (Option Int)) (k:Dl->Option R):Option R:=
 match lo,hi with
 |some lo,some hi=>
  match TJ tt t,x with
  |.str,.d (.str s)=>gb g (slB s.length lo hi) (0,0) fun q=>k ⟨.d (.str (cut s q)),[],[]⟩
  |.sl _ ac,.d (.sl s rows)=>bif Nat.beq s ac then gb g (slB rows.length lo hi) (0,0) fun q=>k ⟨.d (.sl ac (cut rows q)),[],[]⟩ else none
  |.sl _ _,.nil=>gb g (slB 0 lo hi) (0,0) fun _=>k ⟨.nil,[],[]⟩
  |_,_=>none
 |_,_=>none
def Q3M (tt:TT) (g:Bool) (t:Nat) (x:AV) (lo hi mx:Option (Option Int)) (k:Dl->Option R):Option R:=
 match lo,hi,mx with
 |some lo,some hi,some mx=>
  match TJ tt t,x with
  |.sl _ ac,.d (.sl s rows)=>bif Nat.beq s ac then gb g (Qfp rows.length lo hi mx) (0,0) fun q=>k ⟨.fs ac (cut rows q),[],[]⟩ else none
  |.sl _ ac,.nil=>gb g (Qfp 0 lo hi mx) (0,0) fun _=>k ⟨.fs ac [],[],[]⟩
  |_,_=>none
 |_,_,_=>none
def Ek:List (List D)->Option (List UInt8)
 |[]=>some []
 |[.int .u8 n]::r=>match Ek r with
  |some l=>some (UInt8.ofNat n.toNat::l)
  |none=>none
 |_=>none
mutual
def SF:AV->Bool
 |.d (.int ..)=>true
 |.d (.bool _)=>true
 |.d (.str _)=>true
 |.d (.sl ..)=>false
 |.ag l=>RJ l
 |.tup l=>RJ l
 |.fn ..=>false
 |.fs ..=>false
 |.mpd _=>false
 |.el ..=>false
 |.gd ..=>false
 |_=>true
def RJ:List AV->Bool
 |[]=>true
 |a::r=>SF a&&RJ r
end
def Q7O:Option Ob->Bool
 |some (.box cells)=>RJ cells
 |some (.arr ..)=>false
 |some (.mp ..)=>false
 |none=>true
def Cz:List (Nat × Option Ob)->Bool
 |[]=>true
 |(_,o)::r=>Q7O o&&Cz r
def Q6J (hl:Nat->Option Ob):AV->Option (AV × List Nat)
 |.arr l=>match hl l with
  |some (.arr _ size rows)=>some (.d (.sl size rows),[l])
  |_=>none
 |av=>bif AK av then some (av,[]) else none
def D2 (hl:Nat->Option Ob):List AV->Option (List AV × List Nat)
 |[]=>some ([],[])
 |a::r=>match Q6J hl a with
  |some (a',l)=>match D2 hl r with
   |some (r',l')=>some (a'::r',l++l')
   |none=>none
  |none=>none
def Rb (hl:Nat->Option Ob):AV->Option (AV × List Nat)
 |.ag cs=>match D2 hl cs with
  |some (ac,l)=>some (.ag ac,l)
  |none=>none
 |av=>Q6J hl av
def R8 (hl:Nat->Option Ob):List AV->Option (List AV × List Nat)
 |[]=>some ([],[])
 |a::r=>match Rb hl a with
  |some (a',l)=>match R8 hl r with
   |some (r',l')=>some (a'::r',l++l')
   |none=>none
  |none=>none
def Q9c:List D->List AV->Option (List D)
 |[],[]=>some []
 |z::zs,a::r=>
  match Q9c zs r with
  |some l=>match a with
   |.d x=>some (x::l)
   |.nil=>match z with
    |.sl e []=>some (.sl e []::l)
    |_=>none
   |_=>none
  |none=>none
 |_,_=>none
def N9 (tt:TT) (t:Nat):List D:=
 match look tt t with
 |some ti=>ti.zd
 |none=>[]
def Mv (z:List D):List (List D)->List (Nat × AV)->Option (List (List D))
 |rows,[]=>some rows
 |rows,(i,v)::r=>
  match Q9c z (XN v) with
  |some row=>bif Nat.ble (i+1) rows.length then Mv z (rows.set i row) r else none
  |none=>none
def Qbr (row:List D):Nat->List D->List D
 |_,[]=>row
 |off,x::r=>Qbr (row.set off x) (off+1) r
def Yf (n:Nat):Option Unit:=bif Nat.ble n 140737488355328 then some () else none
def QcX (tt:TT) (g:Bool) (hl:Nat->Option Ob) (t:Nat) (a:AV) (k:Dl->Option R):Option R:=
 match look tt t with
 |some ti=>
  match a with
  |.ptr l off=>match hl l with
   |some (.box cells)=>
    bif V8 ti.kd then
     match CF cells off ti.size with
     |some cs=>k ⟨.ag cs,[],[l]⟩
     |none=>none
    else match cells[off]? with
     |some c=>prj g ti.kd c fun v=>k ⟨v,[],[l]⟩
     |none=>none
   |_=>none
  |.el row off=>
   bif V8 ti.kd then Q0c g row off ti.size fun cs=>k ⟨.ag cs,[],[]⟩
   else gb g row[off]? (.bool false) fun c=>prj g ti.kd (.d c) fun v=>k ⟨v,[],[]⟩
  |.ap l i off=>match hl l with
   |some (.arr _ _ rows)=>
    gb g rows[i]? [] fun row=>
     bif V8 ti.kd then Q0c g row off ti.size fun cs=>k ⟨.ag cs,[],[l]⟩
     else gb g row[off]? (.bool false) fun c=>prj g ti.kd (.d c) fun v=>k ⟨v,[],[l]⟩
   |_=>none
  |_=>none
 |none=>none
def Q9a (tt:TT) (hl:Nat->Option Ob) (t:Nat) (a v:AV) (k:Dl->Option R):Option R:=
 match look tt t with
 |some ti=>
  bif Nat.beq (XN v).length ti.size then
   match a with
   |.ptr l off=>match hl l with
    |some (.box cells)=>match Nz cells off (XN v) with
     |some cs=>k ⟨.top,[(l,some (.box cs))],[l]⟩
     |none=>none
    |_=>none
   |.ap l i off=>match hl l with
    |some (.arr e size rows)=>match Qct (XN v) with
     |some ds=>gb true rows[i]? [] fun row=>bif Nat.ble (off+ds.length) size then k ⟨.top,[(l,some (.arr e size (rows.set i (Qbr row off ds))))],[l]⟩ else none
     |none=>none
    |_=>none
   |_=>none
  else none
 |none=>none
def Q55 (hl:Nat->Option Ob) (ac n l:Nat) (v:AV) (k:Dl->Option R):Option R:=
 match hl l with
 |some (.arr e s rows)=>
  bif Nat.beq s ac then
   match Qct (XN v) with
   |some ds=>bif Nat.beq ds.length (n*ac) then gb true (Hg rows n) () fun _=>k ⟨.top,[(l,some (.arr e s (Ry n ac ds)))],[l]⟩ else none
   |none=>none
  else none
 |_=>none
def MP (g:Bool) (hl:Nat->Option Ob) (ac n l:Nat) (i:AV) (k:Dl->Option R):Option R:=
 match i,hl l with
 |.d (.int _ x),some (.arr _ s _)=>bif Nat.beq s ac then gb g (inB n x) () fun _=>k ⟨.ap l x.toNat 0,[],[l]⟩ else none
 |_,_=>none
def Q77 (s:List UInt8):List (List D):=s.map fun b=>[D.int .u8 (b.toNat:Int)]
def Q99 (tt:TT) (g:Bool) (t f:Nat) (x:AV) (k:Dl->Option R):Option R:=
 match look tt t with
 |some ti=>bif SK ti.kd then match ti.fields[f]? with
   |some (off,ft)=>match look tt ft with
    |some fi=>match x with
     |.ag cells=>
      bif V8 fi.kd then
       match CF cells off fi.size with
       |some cs=>k ⟨.ag cs,[],[]⟩
       |none=>none
      else match cells[off]? with
       |some c=>prj g fi.kd c fun v=>k ⟨v,[],[]⟩
       |none=>none
     |_=>none
    |none=>none
   |none=>none
  else none
 |none=>none
def EG (tt:TT) (hl:Nat->Option Ob) (t f:Nat) (x:AV) (k:Dl->Option R):Option R:=
 match look tt t with
 |some ti=>bif SK ti.kd then match ti.fields[f]? with
   |some (off,_)=>match x with
    |.ptr l o=>k ⟨.ptr l (o+off),[],[]⟩
    |.el row o=>k ⟨.el row (o+off),[],[]⟩
    |.ap l i o=>match hl l with
     |some (.arr ..)=>k ⟨.ap l i (o+off),[],[l]⟩
     |_=>none
    |_=>none
   |none=>none
  else none
 |none=>none
def Eo (tt:TT) (g:Bool) (hl:Nat->Option Ob) (t:Nat) (x i:AV) (k:Dl->Option R):Option R:=
 match TJ tt t,i with
 |.sl _ ac,.d (.int _ n)=>
  match x with
  |.d (.sl s rows)=>bif Nat.beq s ac then gb g (Q1 rows n) [] fun row=>k ⟨.el row 0,[],[]⟩ else none
  |.arr l=>match hl l with
   |some (.arr _ s rows)=>bif Nat.beq s ac then gb g (inB rows.length n) () fun _=>k ⟨.ap l n.toNat 0,[],[l]⟩ else none
   |_=>none
  |.nil=>gb g (Q1 [] n) [] fun row=>k ⟨.el row 0,[],[]⟩
  |_=>none
 |_,_=>none
def Qgl (tt:TT) (hl:Nat->Option Ob) (t:Nat) (x:AV):Option (Int × List Nat):=
 match TJ tt t with
 |.sl _ _=>match x with
  |.d (.sl _ rows)=>some (rows.length,[])
  |.nil=>some (0,[])
  |.arr l=>match hl l with
   |some (.arr _ _ rows)=>some (rows.length,[l])
   |_=>none
  |_=>none
 |.str=>match x with
  |.d (.str s)=>some (s.length,[])
  |_=>none
 |_=>none
def Co (isMin:Bool):AV->List AV->Option AV
 |a,[]=>some a
 |.d (.int k a),.d (.int k' b)::r=>bif k == k' then Co isMin (.d (.int k (bif isMin then (if b<a then b else a) else (if a<b then b else a)))) r else none
 |_,_=>none
def FY (hl:Nat->Option Ob) (ac:Nat) (o:Ob) (v:AV) (wr:List (Nat × Option Ob)) (rd:List Nat) (k:Dl->Option R):Option R:=
 match hl ac with
 |none=>k ⟨v,wr++[(ac,some o)],rd⟩
 |some _=>none
def Q0W (tt:TT) (hl:Nat->Option Ob) (ac:Nat) (g:Bool) (t tn:Nat) (s x:AV) (k:Dl->Option R):Option R:=
 match TJ tt t,TJ tt tn,s,x with
 |.sl e aj,.int _,.nil,.d (.int _ n)=>match look tt e with
  |some ei=>
   bif Nat.ble 1 ei.bytes&&Nat.beq (N9 tt e).length aj then
   gb g (bif decide (0<n) then some () else none) () fun _=>
   gb g (Yf (n.toNat*ei.bytes)) () fun _=>FY hl ac (.arr e aj (List.replicate n.toNat (N9 tt e))) (.arr ac) [] [] k
   else none
  |none=>none
 |_,_,_,_=>none
def Q6o (f:Int->Bool) (n:Int) (b:Bool):Int->Bool:=fun m=>bif decide (m=n) then b else f m
def QgA (tt:TT) (hl:Nat->Option Ob) (ac:Nat) (u:Bool) (t l:Nat) (lo hi:Option (Option Int)) (k:Dl->Option R):Option R:=
 match TJ tt t,lo,hi with
 |.sl e aj,some none,some (some h0)=>bif u&&decide (h0=0) then match hl l with
   |some (.arr e' s' _)=>bif Nat.beq e e'&&Nat.beq aj s' then FY hl ac (.arr e aj []) (.arr ac) [(l,none)] [l] k else none
   |_=>none
  else none
 |_,_,_=>none
def Q4N (tt:TT) (ac:Nat) (g:Bool) (hl:Nat->Option Ob) (t:Nat) (s x:AV) (k:Dl->Option R):Option R:=
 match TJ tt t with
 |.sl e aj=>match look tt e with
  |some ei=>
   bif Nat.ble 1 ei.bytes&&Nat.beq ei.zero.length aj then
   match AM aj hl x with
   |some (news,rx)=>
    match s with
    |.nil=>gb g (Yf (news.length*ei.bytes)) () fun _=>FY hl ac (.arr e aj news) (.arr ac) [] rx k
    |.fs s0 rows=>bif Nat.beq s0 aj then gb g (neL news) () fun _=>gb g (Yf ((rows.length+news.length)*ei.bytes)) () fun _=>FY hl ac (.arr e aj (rows++news)) (.arr ac) [] rx k else none
    |.arr l=>match hl l with
     |some (.arr e' s' rows)=>bif Nat.beq e e'&&Nat.beq aj s' then
       gb g (Yf ((rows.length+news.length)*ei.bytes)) () fun _=>FY hl ac (.arr e aj (rows++news)) (.arr ac) [(l,none)] (l::rx) k
      else none
     |_=>none
    |_=>none
   |none=>none
   else none
  |none=>none
 |_=>none
def Ku (tt:TT) (hl:Nat->Option Ob) (aj:Nat) (u:Bool) (t len:Nat) (ak:List (Nat × AV)) (k:Dl->Option R):Option R:=
 match TJ tt t with
 |.sl e ac=>
  bif Nat.ble (len*ac) 16777216&&(look tt e).isSome&&Nat.beq (N9 tt e).length ac then
   match Mv (N9 tt e) (List.replicate len (N9 tt e)) ak with
   |some rows=>bif u then FY hl aj (.arr e ac rows) (.arr aj) [] [] k else k ⟨.d (.sl ac rows),[],[]⟩
   |none=>none
  else none
 |_=>none
def QbI (tt:TT) (hl:Nat->Option Ob) (ac:Nat) (u:Bool) (t:Nat) (l c:AV) (k:Dl->Option R):Option R:=
 bif u then
  match TJ tt t,l,c with
  |.sl e aj,.d (.int _ n),.d (.int _ m)=>match look tt e with
   |some ei=>
    bif Nat.ble 1 ei.bytes&&Nat.beq (N9 tt e).length aj then
    gb true (bif decide (0<=n)&&decide (n<=m) then some () else none) () fun _=>
    gb true (Yf (m.toNat*ei.bytes)) () fun _=>FY hl ac (.arr e aj (List.replicate n.toNat (N9 tt e))) (.arr ac) [] [] k
    else none
   |none=>none
  |_,_,_=>none
 else none
def Pr (x:Nat):List Nat->Bool
 |[]=>false
 |a::r=>Nat.beq a x||Pr x r
def HI (a b:List Nat):Bool:=a.any fun x=>Pr x b
def wrL (dl:Dl):List Nat:=dl.wr.map (·.1)
mutual
def WQ (l:Nat):AV->Bool
 |.ptr a _=>Nat.beq a l
 |.arr a=>Nat.beq a l
 |.ap a _ _=>Nat.beq a l
 |.sa a _=>Nat.beq a l
 |.ag r=>Gu l r
 |.tup r=>Gu l r
 |.fn _ r=>Gu l r
 |.gd _ _ v=>WQ l v
 |_=>false
def Gu (l:Nat):List AV->Bool
 |[]=>false
 |a::r=>WQ l a||Gu l r
end
def TP (l:Nat):List (Nat × Option Ob)->Bool
 |[]=>false
 |(_,some (.box cells))::r=>Gu l cells||TP l r
 |_::r=>TP l r
def CJ (bs:List Nat) (dl:Dl):Bool:=bs.all fun l=>!WQ l dl.v&&!TP l dl.wr
def Q4E:D->Bool
 |.sl ..=>false
 |_=>true
def B3 (rows:List (List D)):Bool:=rows.all fun r=>r.all Q4E
def F9 (l:List (List (List D))):Option Unit:=bif l.all B3 then some () else none
def Q29:List (Nat × Option Ob)->List (List (List D))
 |[]=>[]
 |(_,some (.arr _ _ rows))::r=>rows::Q29 r
 |_::r=>Q29 r
def QgE (tt:TT) (e:Nat):Bool:=
 match look tt e with
 |some ti=>Nat.beq ti.zd.length ti.size&&ti.zd.all Q4E
 |none=>false
def FI (tt:TT):List (Nat × Option Ob)->Bool
 |[]=>true
 |(_,some (.arr e _ _))::r=>QgE tt e&&FI tt r
 |(_,some (.box cells))::r=>RJ cells&&FI tt r
 |(_,some (.mp ..))::_=>false
 |(_,none)::r=>FI tt r
def Vm:List (Nat × Option Ob)->Bool
 |[]=>true
 |(_,some (.arr _ _ rows))::r=>B3 rows&&Vm r
 |(_,some (.box cells))::r=>RJ cells&&Vm r
 |(_,some (.mp ..))::_=>false
 |(_,none)::r=>Vm r
def Qh2 (spec:Q4p) (f:Nat):Bool:=(spec Unit f 0 false [.gd 0 true .nil] (fun _=>none) fun _=>some ()).isSome
def Q8V:AV->Bool
 |.ag l=>l.all AK
 |a=>AK a
def QaA (spec:Q4p) (tt:TT) (ac:Nat) (g u:Bool) (hl:Nat->Option Ob) (f:Nat) (args:List AV) (k:Dl->Option R):Option R:=
 bif Qh2 spec f then (bif args.all Q8V then spec R f ac g args hl k else none) else
 match R8 hl args with
 |some (aj,bs)=>
  spec R f ac g aj hl fun dl=>
   bif !HI bs (wrL dl)&&(!HI bs dl.rd&&CJ bs dl) then
    bif bs.isEmpty||(SF dl.v&&Cz dl.wr) then k ⟨dl.v,dl.wr,bs++dl.rd⟩
    else bif SF dl.v&&FI tt dl.wr then gb g (F9 (Q29 dl.wr)) () fun _=>k ⟨dl.v,dl.wr,bs++dl.rd⟩
    else bif u then k ⟨dl.v,bs.map (fun l=>(l,none))++dl.wr,bs++dl.rd⟩ else none
   else none
 |none=>none
def vUn (op:UnOp) (x:AV):Option AV:=
 match op,x with
 |.not,.d (.bool b)=>some (.d (.bool !b))
 |.neg,.d (.int k n)=>some (.d (.int k (k.wrap (0-n))))
 |.xor,.d (.int k n)=>some (.d (.int k (QdJ k n)))
 |_,_=>none
def cv1 (hl:Nat->Option Ob) (av:AV):AV:=
 match Rb hl av with
 |some (a,_)=>a
 |none=>.top
def cvP (hl:Nat->Option Ob):List (Nat × AV)->List (Nat × AV)
 |[]=>[]
 |(i,a)::r=>(i,cv1 hl a)::cvP hl r
def bsP (hl:Nat->Option Ob):List (Nat × AV)->List Nat
 |[]=>[]
 |(_,a)::r=>match Rb hl a with
  |some (_,b)=>b++bsP hl r
  |none=>bsP hl r
def Qgj (hl:Nat->Option Ob) (bs:List Nat):Nat->Option Ob:=fun k=>bif Pr k bs then none else hl k
def Q41 (tt:TT) (hl:Nat->Option Ob) (aj:Nat) (u:Bool) (t len:Nat) (ac:List (Nat × AV)) (k:Dl->Option R):Option R:=
 match bsP hl ac with
 |[]=>Ku tt hl aj u t len ac k
 |b::bs=>bif u then
   Ku tt (Qgj hl (b::bs)) aj true t len (cvP hl ac) fun dl=>
    bif !HI (b::bs) (wrL dl)&&!HI (b::bs) dl.rd then k ⟨dl.v,(b::bs).map (fun l=>(l,none))++dl.wr,(b::bs)++dl.rd⟩ else none
  else none
def vdl (spec:Q4p) (tt:TT) (ac:Nat) (g u:Bool) (ev:Operand->AV) (hl:Nat->Option Ob) (op:Op) (k:Dl->Option R):Option R:=
 match op with
 |.move x=>k ⟨ev x,[],[]⟩
 |.assign x=>k ⟨ev x,[],[]⟩
 |.pick c x y=>
  match c with
  |.tmp s=>match ev (.tmp s) with
   |.d (.bool e)=>match unw [(s,true)] (ev x),unw [(s,false)] (ev y) with
    |.d (.bool a),.d (.bool b)=>k ⟨.d (.bool (bif e then a else b)),[],[]⟩
    |_,_=>none
   |_=>none
  |_=>none
 |.alloc t=>match look tt t with
  |some ti=>bif u then match ti.kd with
    |.array _ an n=>bif Nat.beq ti.zd.length (n*an) then FY hl ac (.arr t an (Ry n an ti.zd)) (.ap ac 0 0) [] [] k else none
    |_=>FY hl ac (.box (Q0l ac t ti)) (.ptr ac 0) [] [] k
   else none
  |none=>none
 |.box t x=>match look tt t with
  |some ti=>bif u&&(Nat.beq (XN (ev x)).length ti.size&&(XN (ev x)).all Q1R) then FY hl ac (.box (XN (ev x))) (.ptr ac 0) [] [] k else none
  |none=>none
 |.build t ak=>match look tt t with
  |some ti=>bif V8 ti.kd then match AQ ti.fields tt (Es ti) (Vg ev ak.toList) with
    |some cs=>k ⟨.ag cs,[],[]⟩
    |none=>none
   else none
  |none=>none
 |.buildSlice t len ak=>Q41 tt hl ac u t len (Vg ev ak.toList) k
 |.load t a=>QcX tt g hl t (ev a) k
 |.store t a v=>bif u then match TJ tt t,ev a with
   |.array _ an n,.ap l 0 0=>Q55 hl an n l (ev v) k
   |_,_=>Q9a tt hl t (ev a) (ev v) k
  else none
 |.nilCheck x=>match ev x with
  |.ptr l o=>k ⟨.ptr l o,[],[]⟩
  |.el r o=>k ⟨.el r o,[],[]⟩
  |.ap l i o=>match hl l with
   |some _=>k ⟨.ap l i o,[],[l]⟩
   |none=>none
  |_=>none
 |.binOp op t x y _=>Qgy g op (TJ tt t) (Qc9 tt t) (ev x) (ev y) fun v=>k ⟨v,[],[]⟩
 |.unOp op _ x=>match vUn op (ev x) with
  |some v=>k ⟨v,[],[]⟩
  |none=>none
 |.convert s t x=>match TJ tt s,TJ tt t with
  |.int _,.int kd=>match ev x with
   |.d (.int _ n)=>k ⟨.d (.int kd (kd.wrap n)),[],[]⟩
   |_=>none
  |.sl e 1,.str=>match TJ tt e with
   |.int .u8=>match AM 1 hl (ev x) with
    |some (rows,rd)=>gb g (Ek rows) [] fun s=>k ⟨.d (.str s),[],rd⟩
    |none=>none
   |_=>none
  |.str,.str=>match ev x with
   |.d (.str s)=>k ⟨.d (.str s),[],[]⟩
   |_=>none
  |.str,.sl e 1=>match TJ tt e with
   |.int .u8=>match ev x with
    |.d (.str s)=>k ⟨.d (.sl 1 (Q77 s)),[],[]⟩
    |_=>none
   |_=>none
  |_,_=>none
 |.makeFunc (.func f) first aj=>match first.toList with
  |[]=>bif Jl (aj.toList.map ev) then k ⟨.fn f (aj.toList.map ev),[],[]⟩ else none
  |_=>none
 |.makeSlice t l c=>QbI tt hl ac u t (ev l) (ev c) k
 |.fieldAddr t x f=>EG tt hl t f (ev x) k
 |.field t x f=>Q99 tt g t f (ev x) k
 |.indexAddr t x i=>match TJ tt t,ev x with
  |.array _ an n,.ap l 0 0=>MP g hl an n l (ev i) k
  |_,_=>Eo tt g hl t (ev x) (ev i) k
 |.index t x i=>Q9q tt g t (ev x) (ev i) k
 |.slice t x lo hi none=>match ev x with
  |.arr l=>QgA tt hl ac u t l (Nc ev lo) (Nc ev hi) k
  |_=>Q7G tt g t (ev x) (Nc ev lo) (Nc ev hi) k
 |.makeMap t none=>match TJ tt t with
  |.mpb=>bif u then FY hl ac (.mp t fun _=>false) (.arr ac) [] [] k else none
  |_=>none
 |.mapUpdate t m x v=>match TJ tt t,ev m,ev x,ev v with
  |.mpb,.arr l,.d (.int .i64 n),.d (.bool b)=>match hl l with
   |some (.mp t' f)=>bif u then k ⟨.top,[(l,some (.mp t' (Q6o f n b)))],[l]⟩ else none
   |_=>none
  |_,_,_,_=>none
 |.slice t x lo hi (some mx)=>Q3M tt g t (ev x) (Nc ev lo) (Nc ev hi) (Nc ev (some mx)) k
 |.lookup t m x false=>match TJ tt t,ev m,ev x with
  |.mapI,.mpd f,.d (.int .i64 n)=>k ⟨.d (.sl 1 (f n)),[],[]⟩
  |.mpb,.arr l,.d (.int .i64 n)=>match hl l with
   |some (.mp _ f)=>k ⟨.d (.bool (f n)),[],[l]⟩
   |_=>none
  |_,_,_=>none
 |.extract x i=>match ev x with
  |.tup l=>match l[i]? with
   |some v=>k ⟨v,[],[]⟩
   |none=>none
  |_=>none
 |.call c=>match c.callee with
  |.value (.func f)=>QaA spec tt ac g u hl f (c.args.toList.map ev) k
  |.value (.tmp t)=>match ev (.tmp t) with
   |.fn f cap=>QaA spec tt ac g u hl f (c.args.toList.map ev++cap) k
   |_=>none
  |.builtin .len=>match c.args.toList,c.argTypes.toList with
   |[x],[t]=>match Qgl tt hl t (ev x) with
    |some (n,rd)=>k ⟨.d (.int .i64 n),[],rd⟩
    |none=>none
   |_,_=>none
  |.builtin .cap=>match c.args.toList,c.argTypes.toList with
   |[x],[t]=>match TJ tt t,ev x with
    |.sl _ _,.nil=>k ⟨.d (.int .i64 0),[],[]⟩
    |_,_=>none
   |_,_=>none
  |.builtin .append=>match c.args.toList,c.argTypes.toList with
   |[s,x],[t,t']=>bif Nat.beq t t' then Q4N tt ac g hl t (ev s) (ev x) k else Q0W tt hl ac g t t' (ev s) (ev x) k
   |_,_=>none
  |.builtin .min=>match c.args.toList with
   |x::r=>match Co true (ev x) (r.map ev) with
    |some v=>k ⟨v,[],[]⟩
    |none=>none
   |_=>none
  |.builtin .max=>match c.args.toList with
   |x::r=>match Co false (ev x) (r.map ev) with
    |some v=>k ⟨v,[],[]⟩
    |none=>none
   |_=>none
  |_=>none
 |_=>none
def Bu (l:Nat):List (Nat × AV)->Bool
 |[]=>false
 |(_,a)::r=>WQ l a||Bu l r
def Jg (l:Nat):List (Nat × Ob)->Bool
 |[]=>false
 |(_,.box cells)::r=>Gu l cells||Jg l r
 |(_,.arr ..)::r=>Jg l r
 |(_,.mp ..)::r=>Jg l r
def Ur (st:St) (l:Nat):Bool:=Nat.ble l 999999&&(!Bu l st.tm&&!Jg l st.h)
def Wc (st:St):List (Nat × Option Ob)->Bool
 |[]=>true
 |(l,o)::r=>(match o,look st.h l with
  |some _,none=>Ur st l
  |_,_=>true)&&Wc st r
mutual
def gds (t:Nat):AV->Bool
 |.gd t' _ av=>Nat.beq t' t||gds t av
 |.ag l=>BV t l
 |.tup l=>BV t l
 |.fn _ l=>BV t l
 |_=>false
def BV (t:Nat):List AV->Bool
 |[]=>false
 |a::r=>gds t a||BV t r
end
def Q95 (d:Nat):List (Nat × AV)->Bool
 |[]=>false
 |(_,a)::r=>gds d a||Q95 d r
structure Rec where
 rt:List Nat
 dst:Option Nat
 dl:Dl
def PC:List Operand->List Nat
 |[]=>[]
 |.tmp t::r=>t::PC r
 |_::r=>PC r
def put (st:St) (dst:Option Nat) (dl:Dl):St:=
 { n:=st.n,tm:=match dst with | some d=>(d,dl.v)::st.tm | none=>st.tm,h:=NL st.h dl.wr }
def Q27 (st:St) (v:AV):Option Nat->Bool
 |some d=>Nat.ble (d+1) st.n&&(!gds d v&&!Q95 d st.tm)
 |none=>true
def QbB (st:St) (o:Oper) (ch:List Nat) (dl:Dl) (k:St->Rec->Option R):Option R:=
 bif Q27 st dl.v o.dst&&Wc st dl.wr then k (put st o.dst dl) ⟨PC o.op.operands.toList++ch,o.dst,dl⟩ else none
def jD (g:Bool):D->D->Option D
 |.int k x,.int k' y=>bif k == k' then some (.int k (bif g then x else y)) else none
 |.bool x,.bool y=>some (.bool (bif g then x else y))
 |.str x,.str y=>some (.str (bif g then x else y))
 |.sl s x,.sl s' y=>bif Nat.beq s s' then some (.sl s (bif g then x else y)) else none
 |_,_=>none
def jA (g:Bool):AV->AV->Option AV
 |.d x,.d y=>match jD g x y with
  |some z=>some (.d z)
  |none=>none
 |.nil,.nil=>some .nil
 |.ptr l o,.ptr l' o'=>bif Nat.beq l l'&&Nat.beq o o' then some (.ptr l o) else none
 |_,_=>none
def jL (g:Bool):List AV->List AV->Option (List AV)
 |[],[]=>some []
 |a::r,b::s=>match jA g a b with
  |some c=>match jL g r s with
   |some t=>some (c::t)
   |none=>none
  |none=>none
 |_,_=>none
def jW (g:Bool) (hl:Nat->Option Ob):List (Nat × Option Ob)->Option (List (Nat × Option Ob))
 |[]=>some []
 |(l,some (.box ac))::r=>match hl l with
  |some (.box old)=>match jL g ac old with
   |some c=>match jW g hl r with
    |some t=>some ((l,some (.box c))::t)
    |none=>none
   |none=>none
  |_=>none
 |(l,some (.arr e s rows))::r=>match hl l with
  |none=>match jW g hl r with
   |some t=>some ((l,some (.arr e s (bif g then rows else [])))::t)
   |none=>none
  |some _=>none
 |(_,some (.mp ..))::_=>none
 |(l,none)::r=>match jW g hl r with
  |some t=>some ((l,none)::t)
  |none=>none
def Qcx (spec:Q4p) (tt:TT) (ac:Array Oper) (o:Oper) (st:St) (k:St->Rec->Option R):Option R:=
 match o.guard with
 |none=>vdl spec tt (o.dst.getD 0) true true (evO st.tm) (look st.h) o.op fun dl=>QbB st o [] dl k
 |some (j,w)=>match (ac[j]?).bind (·.dst) with
  |some s=>match ctx st.tm 40 s w with
   |some (g,ch)=>vdl spec tt (o.dst.getD 0) g false (fun x=>unw ch (evO st.tm x)) (look st.h) o.op fun dl=>
     match jW g (look st.h) dl.wr with
     |some wr=>QbB st o (ch.map (·.1)) ⟨.gd s w dl.v,wr,dl.rd⟩ k
     |none=>none
   |none=>none
  |none=>none
def Qfq (spec:Q4p) (tt:TT) (ac:Array Oper):List Oper->St->List Rec->(St->List Rec->Option R)->Option R
 |[],st,acc,k=>k st acc
 |o::r,st,acc,k=>Qcx spec tt ac o st fun st' rec=>Qfq spec tt ac r st' (acc++[rec]) k
def Q2E (s:Nat) (b:Bool):List (Nat × AV)->List (Nat × AV)
 |[]=>[]
 |(t,a)::r=>bif Nat.beq t s then (t,.d (.bool b))::r else (t,a)::Q2E s b r
def Q6f (spec:Q4p) (tt:TT) (o:Oper) (s:Nat) (w b:Bool) (st:St) (k:St->Rec->Option R):Option R:=
 bif (bif b then w else !w) then vdl spec tt (o.dst.getD 0) true true (evO st.tm) (look st.h) o.op fun dl=>QbB st o [s] dl k
 else QbB st o [s] ⟨.gd s w (.d (.bool false)),[],[]⟩ k
def Q0o (spec:Q4p) (tt:TT) (ac:Array Oper):List Oper->St->List Rec->(St->List Rec->Option R)->Option R
 |[],st,acc,k=>k st acc
 |o::r,st,acc,k=>match o.guard with
  |none=>vdl spec tt (o.dst.getD 0) true true (evO st.tm) (look st.h) o.op fun dl=>QbB st o [] dl fun st' rec=>Q0o spec tt ac r st' (acc++[rec]) k
  |some (j,w)=>match (ac[j]?).bind (·.dst) with
   |some s=>match lkT st.tm s with
    |.d (.bool c)=>
     bif c then Q6f spec tt o s w true { n:=st.n,tm:=Q2E s true st.tm,h:=st.h } fun st' rec=>Q0o spec tt ac r st' (acc++[rec]) k
     else Q6f spec tt o s w false { n:=st.n,tm:=Q2E s false st.tm,h:=st.h } fun st' rec=>Q0o spec tt ac r st' (acc++[rec]) k
    |_=>none
   |none=>none
def Q3d (acc:List Nat):List Edge->Nat->Nat
 |[],s=>s
 |e::r,s=>Q3d acc r (bif Region.binds .any e then (s ||| (2 ^ e.on)) ||| acc.getD e.on 0 else s)
def Q1z:List Oper->List Nat->List Nat
 |[],acc=>acc
 |o::r,acc=>Q1z r (acc++[Q3d acc o.after.toList 0])
def Q0P:List Edge->Nat->Bool
 |[],_=>true
 |e::r,i=>(!Region.binds .any e||Nat.ble (e.on+1) i)&&Q0P r i
def NE:List Oper->Nat->Bool
 |[],_=>true
 |o::r,i=>Q0P o.after.toList i&&NE r (i+1)
def inO (d:Option Nat) (l:List Nat):Bool:=
 match d with
 |some x=>Pr x l
 |none=>false
def WO (a b:Rec):Bool:=
 inO a.dst b.rt||inO b.dst a.rt||(match a.dst,b.dst with | some x,some y=>Nat.beq x y | _,_=>false) ||
 HI (wrL a.dl) (wrL b.dl)||HI (wrL a.dl) b.dl.rd||HI (wrL b.dl) a.dl.rd
def To (aj:St) (ac:List Nat):List (Nat × Option Ob)->List Nat
 |[]=>[]
 |(l,o)::r=>match o,look aj.h l with
  |some _,none=>bif Pr l ac then To aj ac r else l::To aj ac r
  |_,_=>To aj ac r
def Da (l:Nat) (b:Rec):Bool:=WQ l b.dl.v||TP l b.dl.wr
def QdU (d:Option Nat) (v:AV):Bool:=
 match d with
 |some x=>gds x v
 |none=>false
def Cm (i:Nat) (a:Rec) (news:List Nat):List Rec->List Nat->Bool
 |[],_=>true
 |b::r,m::ms=>(!(WO a b||(news.any fun l=>Da l b)||QdU a.dst b.dl.v)||m.testBit i)&&Cm i a news r ms
 |_::_,[]=>false
def L5 (aj:St):Nat->List Rec->List Nat->List Rec->List Nat->Bool
 |_,_,_,[],_=>true
 |i,ak,ac,a::r,_::ms=>
  Cm i a (To aj ac a.dl.wr) r ms&&((To aj ac a.dl.wr).all fun l=>Ur aj l&&ak.all fun b=>!Da l b) &&
   L5 aj (i+1) (ak++[a]) (ac++To aj ac a.dl.wr) r ms
 |_,_,_,_::_,[]=>false
def WE (l:Nat):List (Nat × Option Ob)->Bool
 |[]=>false
 |(k,o)::r=>(o.isSome&&Nat.beq k l)||WE l r
def Qbq (recs:List Rec):List (Nat × Option Ob)->Bool
 |[]=>true
 |(l,none)::r=>(recs.all fun b=>!WE l b.dl.wr)&&Qbq recs r
 |_::r=>Qbq recs r
def rmL:List Rec->Bool
 |[]=>true
 |a::r=>Qbq (a::r) a.dl.wr&&rmL r
def Q22 (aj:St) (ac:List Oper) (recs:List Rec):Bool:=
 NE ac 0&&L5 aj 0 [] [] recs (Q1z ac [])&&rmL recs
structure Cfg where
 keep:List Nat
 locs:List (Nat × Nat)
 mkT:List (Nat × Nat × Nat × Nat)
 mkH:List (Nat × Nat × Nat × Nat × Nat)
 fz:List Nat
mutual
def fzA (l s:Nat) (rows:List (List D)):AV->AV
 |.arr k=>bif Nat.beq k l then .d (.sl s rows) else .arr k
 |.ap k i o=>bif Nat.beq k l then .top else .ap k i o
 |.ag r=>.ag (fzL l s rows r)
 |.tup r=>.tup (fzL l s rows r)
 |.fn f r=>.fn f (fzL l s rows r)
 |.gd ..=>.top
 |av=>av
def fzL (l s:Nat) (rows:List (List D)):List AV->List AV
 |[]=>[]
 |a::r=>fzA l s rows a::fzL l s rows r
end
def fzO (l s:Nat) (rows:List (List D)):Ob->Ob
 |.box cells=>.box (fzL l s rows cells)
 |o=>o
def fzT (l s:Nat) (rows:List (List D)):List (Nat × AV)->List (Nat × AV)
 |[]=>[]
 |(t,a)::r=>(t,fzA l s rows a)::fzT l s rows r
def Qbe (l s:Nat) (rows:List (List D)):List (Nat × Ob)->List (Nat × Ob)
 |[]=>[]
 |(k,o)::r=>bif Nat.beq k l then Qbe l s rows r else (k,fzO l s rows o)::Qbe l s rows r
def fz1 (st:St) (l:Nat):St:=
 match look st.h l with
 |some (.arr _ s rows)=>{ n:=st.n,tm:=fzT l s rows st.tm,h:=Qbe l s rows st.h }
 |_=>st
def fzs (st:St):List Nat->St
 |[]=>st
 |l::r=>fzs (fz1 st l) r
mutual
def U4 (ρ:List (Nat × Nat)):AV->AV
 |.ptr l o=>match look ρ l with | some l'=>.ptr l' o | none=>.top
 |.arr l=>match look ρ l with | some l'=>.arr l' | none=>.top
 |.ap l i o=>match look ρ l with | some l'=>.ap l' i o | none=>.top
 |.sa l t=>match look ρ l with | some l'=>.sa l' t | none=>.top
 |.ag r=>.ag (Q1S ρ r)
 |.tup r=>.tup (Q1S ρ r)
 |.fn f r=>.fn f (Q1S ρ r)
 |.gd ..=>.top
 |av=>av
def Q1S (ρ:List (Nat × Nat)):List AV->List AV
 |[]=>[]
 |a::r=>U4 ρ a::Q1S ρ r
end
def QaK (ρ:List (Nat × Nat)):Ob->Ob
 |.box cells=>.box (Q1S ρ cells)
 |.arr e s rows=>.arr e s rows
 |.mp t f=>.mp t f
def Q8M (ρ:List (Nat × Nat)) (tm:List (Nat × AV)):List Nat->List (Nat × AV)
 |[]=>[]
 |t::r=>(t,U4 ρ (lkT tm t))::Q8M ρ tm r
def Ec (ρ:List (Nat × Nat)) (h:List (Nat × Ob)):List (Nat × Nat)->List (Nat × Ob)
 |[]=>[]
 |(l,l')::r=>match look h l with
  |some o=>(l',QaK ρ o)::Ec ρ h r
  |none=>Ec ρ h r
def Qfr (tm:List (Nat × AV)) (t:Nat) (v:AV):List (Nat × AV):=
 match tm with
 |[]=>[]
 |(k,a)::r=>bif Nat.beq k t then (k,v)::r else (k,a)::Qfr r t v
def Qd9 (st:St):List (Nat × Nat × Nat × Nat)->St
 |[]=>st
 |(t,l,e,s)::r=>match lkT st.tm t with
  |.nil=>bif Ur st l&&(look st.h l).isNone then Qd9 { st with tm:=Qfr st.tm t (.arr l),h:=(l,.arr e s [])::st.h } r else Qd9 st r
  |_=>Qd9 st r
def Qd2 (st:St):List (Nat × Nat × Nat × Nat × Nat)->St
 |[]=>st
 |(b,c,l,e,s)::r=>match look st.h b with
  |some (.box cells)=>match cells[c]? with
   |some .nil=>bif Ur st l&&(look st.h l).isNone then Qd2 { st with h:=(l,.arr e s [])::(b,.box (cells.set c (.arr l)))::rem b st.h } r else Qd2 st r
   |_=>Qd2 st r
  |_=>Qd2 st r
def X3:List Nat->Bool
 |[]=>true
 |a::r=>!Pr a r&&X3 r
def Qcr (c:Cfg) (st:St):St:=
 bif X3 (c.locs.map (·.1))&&(X3 (c.locs.map (·.2))&&c.locs.all fun p=>Nat.beq p.1 p.2||Nat.ble p.2 999999) then Qd2 (Qd9 { n:=st.n,tm:=Q8M c.locs st.tm c.keep,h:=Ec c.locs st.h c.locs } c.mkT) c.mkH
 else st
def inH (h:List (Nat × Ob)):List (Nat × Nat)->List (Nat × Nat)
 |[]=>[]
 |p::r=>match look h p.1 with
  |some _=>p::inH h r
  |none=>inH h r
def QgK (c:Cfg) (st:St):St:=Qcr ⟨c.keep,inH st.h c.locs,c.mkT,c.mkH,c.fz⟩ st
def Qc1 (c:Cfg) (st:St):St:=QgK c (fzs st c.fz)
def QaG (c:Cfg) (st:St):St:=
 match c.keep with
 |[]=>Qc1 ⟨st.tm.map (·.1),st.h.map fun p=>(p.1,p.1),c.mkT,c.mkH,c.fz⟩ st
 |_::_=>Qc1 c st
structure VC where
 spec:Q4p
 tt:TT
 cfg:List (Nat × Cfg)
def Q0q (C:VC) (id:Nat) (ac:Array Oper) (aj:Bool) (st:St) (k:St->Option R):Option R:=
 (bif (look C.cfg (id+1000000000)).isSome then Q0o C.spec C.tt ac ac.toList st [] else Qfq C.spec C.tt ac ac.toList st []) fun st' recs=>
  bif !aj||Q22 st ac.toList recs then
   match look C.cfg id with
   |some c=>k (QaG c st')
   |none=>k st'
  else none
def Q7y (ac:St->(Exit->St->Option R)->Option R):Nat->St->(Exit->St->Option R)->Option R
 |0,_,_=>none
 |n+1,st,k=>ac st fun e st'=>match e with
  |.normal=>Q7y ac n st' k
  |.exit id=>k (.exit id) st'
  |.ret=>k .ret st'
  |_=>none
def Q7I:Code->Nat
 |.region id _ _=>id
 |.seq a _=>Q7I a
 |.block _ c=>Q7I c
 |.loop c=>Q7I c
 |.cond _ a _=>Q7I a
 |_=>0
def QeF (C:VC) (n:Nat) (c:Code):Nat:=
 match look C.cfg (2000000000+Q7I c) with
 |some ⟨[m],_,_,_,_⟩=>m
 |_=>n
def AU (C:VC) (key:Nat) (st:St):St:=
 match look C.cfg key with
 |some q=>Qc1 q st
 |none=>st
def CO (C:VC) (n:Nat):Code->St->(Exit->St->Option R)->Option R
 |.skip,st,k=>k .normal st
 |.region id aj ac,st,k=>Q0q C id aj ac st (k .normal)
 |.seq a b,st,k=>CO C n a st fun e st'=>match e with
  |.normal=>CO C n b st' k
  |.exit id=>k (.exit id) st'
  |.ret=>k .ret st'
  |_=>none
 |.cond c a b,st,k=>match evO st.tm c with
  |.d (.bool e)=>bif e then CO C n a st k else CO C n b st k
  |_=>none
 |.block id c,st,k=>CO C n c st fun e st'=>match e with
  |.normal=>k .normal st'
  |.exit j=>bif Nat.beq j id then k .normal st' else k (.exit j) st'
  |.ret=>k .ret st'
  |_=>none
 |.loop c,st,k=>Q7y (fun st k=>CO C n c (AU C (3000000000+Q7I c) st) k) (QeF C n c) st k
 |.exit id,st,k=>k (.exit id) st
 |.ret,st,k=>k .ret st
 |_,_,_=>none
def lB (C:VC) (n:Nat) (c:Code) (st:St) (k:Exit->St->Option R):Option R:=CO C n c (AU C (3000000000+Q7I c) st) k
mutual
def N0:AV->Bool
 |.gd ..=>false
 |.ag l=>H5 l
 |.tup l=>H5 l
 |.fn _ l=>H5 l
 |_=>true
def H5:List AV->Bool
 |[]=>true
 |a::r=>N0 a&&H5 r
end
def Q36 (tt:TT) (st:St):ResultVar->Option AV
 |.tmp t=>some (lkT st.tm t)
 |.cell a ty=>match lkT st.tm a with
  |.ptr l off=>match look st.h l,look tt ty with
   |some (.box cells),some ti=>
    bif V8 ti.kd then
     match CF cells off ti.size with
     |some cs=>some (.ag cs)
     |none=>none
    else match cells[off]? with
     |some c=>bif AK c then some c else none
     |none=>none
   |_,_=>none
  |_=>none
def Q0j (tt:TT) (st:St):List ResultVar->Option (List AV)
 |[]=>some []
 |r::rs=>match Q36 tt st r with
  |some a=>match Q0j tt st rs with
   |some l=>bif N0 a then some (a::l) else none
   |none=>none
  |none=>none
def Q1a (tt:TT) (st:St) (rs:List ResultVar):Option AV:=
 match Q0j tt st rs with
 |some [a]=>some a
 |some l=>some (.tup l)
 |none=>none
def Q2K:Nat->List AV->List (Nat × AV)
 |_,[]=>[]
 |i,a::r=>(i,a)::Q2K (i+1) r
def vfn (C:VC) (n:Nat) (fn:Func) (args:List AV) (h:List (Nat × Ob)) (k:AV->List (Nat × Ob)->Option R):Option R:=
 match fn.body with
 |some c=>bif Nat.ble args.length fn.ntmps&&H5 args then
   CO C n c { n:=fn.ntmps,tm:=Q2K 0 args,h:=h } fun e st=>match e with
    |.ret=>match Q1a C.tt st fn.results.toList with
     |some v=>k v st.h
     |none=>none
    |.normal=>match Q1a C.tt st fn.results.toList with
     |some v=>k v st.h
     |none=>none
    |_=>none
  else none
 |none=>none
end
inductive Rd (S:Nat->Prop) (w:World):Value->D->Prop
 |int (k:IntKind) (n:Int):Rd S w (.int k n) (.int k n)
 |bool (b:Bool):Rd S w (.bool b) (.bool b)
 |str (s:ByteArray):Rd S w (.string s) (.str s.data.toList)
 |sl0 (a:Option Addr) (cap size:Nat):Rd S w (.slice a 0 cap) (.sl size [])
 |sl (ad:Addr) (cap size:Nat) (rows:List (List D)) (c:Nat->Nat->Value)
   (hS:S ad.block) (hcap:rows.length<=cap) (hsz:∀ (i:Nat) (r:List D),rows[i]? = some r->r.length=size)
   (hc:∀ (i j:Nat) (r:List D) (x:D),rows[i]? = some r->r[j]? = some x->w.cell? (ad.add (i*size+j))=some (c i j))
   (hr:∀ (i j:Nat) (r:List D) (x:D),rows[i]? = some r->r[j]? = some x->Rd S w (c i j) x) :
   Rd S w (.slice (some ad) rows.length cap) (.sl size rows)
theorem Jt (a:Addr) (n:Nat):(a.add n).block=a.block:=by unfold Addr.add;split <;> rfl
theorem CA (a:Addr) (i j:Nat):(a.add i).add j=a.add (i+j):=by
 grind [Addr.add,Nat.add_assoc]
theorem H3 (b o n:Nat):(⟨b,o,none⟩:Addr).add n=⟨b,o+n,none⟩:=by
 grind [Addr.add]
theorem Xu {w w':World} {a:Addr} (h:w'.heap[a.block]? = w.heap[a.block]?):w'.cell? a=w.cell? a:=by simp [World.cell?,h]
theorem Rd.mono {S S':Nat->Prop} {w w':World} {v:Value} {x:D} (hS:∀ b,S b->S' b) (hw:∀ b,S b->w'.heap[b]? = w.heap[b]?) (h:Rd S w v x):Rd S' w' v x:=by
 induction h with
 |int k n=>exact .int k n
 |bool b=>exact .bool b
 |str s=>exact .str s
 |sl0 a cap size=>exact .sl0 a cap size
 |sl ad cap size rows c hs ac aj hc _ ih=>
  exact .sl ad cap size rows c (hS _ hs) ac aj (fun i j r x h1 h2=>by
   grind [Xu,Jt]) ih
def HD:List MapEntry->Int->Option Value
 |[],_=>none
 |e::r,n=>match e.key with
  |.int .i64 m=>if m=n then some e.val else HD r n
  |_=>HD r n
def Q9b (S:Nat->Prop) (w:World) (v:Value) (f:Int->List (List D)):Prop:=
 ∃ b es ac,v = .map (some b)/\S b/\w.heap[b]? = some (.map es ac)/\(∀ e∈es.toList,∃ n,e.key = .int .i64 n)/\(∀ n,HD es.toList n=none->f n=[])/\∀ n v',HD es.toList n=some v'->Rd S w v' (.sl 1 (f n))
theorem Q9b.mono {S S':Nat->Prop} {w w':World} {v:Value} {f:Int->List (List D)} (hS:∀ b,S b->S' b) (hw:∀ b,S b->w'.heap[b]? = w.heap[b]?) (h:Q9b S w v f):Q9b S' w' v f:=by
 obtain ⟨b,es,ac,h1,h2,h3,h4,h5,h6⟩:=h;exact ⟨b,es,ac,h1,hS b h2,(hw b h2).trans h3,h4,h5,fun n v' hl=>(h6 n v' hl).mono hS hw⟩
def MpR (w:World) (b:Nat) (f:Int->Bool):Prop:=
 ∃ es ac,w.heap[b]? = some (.map es ac)/\(∀ e∈es.toList,∃ n,e.key = .int .i64 n)/\(∀ n,HD es.toList n=none->f n=false)/\∀ n v,HD es.toList n=some v->v = .bool (f n)
theorem MpR.same {w w':World} {b:Nat} {f:Int->Bool} (h:MpR w b f) (hb:w'.heap[b]? = w.heap[b]?):MpR w' b f:=by
 obtain ⟨es,ac,h1,h2⟩:=h;exact ⟨es,ac,hb.trans h1,h2⟩
def Nm:AV->Option Nat
 |.arr l=>some l
 |.ap l _ _=>some l
 |_=>none
inductive RdA (β:Nat->Option Nat) (S:Nat->Prop) (h:Nat->Option Ob) (w:World) (tm:Nat->Value):Value->AV->Prop
 |top (v:Value):RdA β S h w tm v .top
 |d (v:Value) (x:D) (hx:Rd S w v x):RdA β S h w tm v (.d x)
 |nil:RdA β S h w tm (.slice none 0 0) .nil
 |ag (cs:Array Value) (l:List AV) (hl:cs.size=l.length) (hr:∀ (i:Nat) (x:AV),l[i]? = some x->RdA β S h w tm (cs.getD i undef) x):RdA β S h w tm (.agg cs) (.ag l)
 |tup (cs:Array Value) (l:List AV) (hl:cs.size=l.length) (hr:∀ (i:Nat) (x:AV),l[i]? = some x->RdA β S h w tm (cs.getD i undef) x):RdA β S h w tm (.tuple cs) (.tup l)
 |fn (f:Nat) (cs:Array Value) (l:List AV) (hl:cs.size=l.length) (hr:∀ (i:Nat) (x:AV),l[i]? = some x->RdA β S h w tm (cs.getD i undef) x):RdA β S h w tm (.func (.func f) #[] cs) (.fn f l)
 |fs (ad:Option Addr) (s:Nat) (rows:List (List D)) (hx:Rd S w (.slice ad rows.length rows.length) (.sl s rows)):RdA β S h w tm (.slice ad rows.length rows.length) (.fs s rows)
 |mpd (v:Value) (f:Int->List (List D)) (hm:Q9b S w v f):RdA β S h w tm v (.mpd f)
 |ex (v:Value):RdA β S h w tm v (.ex v)
 |ptr (l off b:Nat) (hb:β l=some b):RdA β S h w tm (.pointer (some ⟨b,off,none⟩)) (.ptr l off)
 |sa (v:Value) (l t b:Nat) (hb:β l=some b) (hv:v = .pointer none\/v = .pointer (some ⟨b,0,none⟩)):RdA β S h w tm v (.sa l t)
 |el (ad:Addr) (row:List D) (off:Nat) (c:Nat->Value) (hs:S ad.block)
   (hc:∀ (j:Nat) (x:D),row[off+j]? = some x->w.cell? (ad.add j)=some (c j)) (hr:∀ (j:Nat) (x:D),row[off+j]? = some x->Rd S w (c j) x) :
   RdA β S h w tm (.pointer (some ad)) (.el row off)
 |arr0 (l e s:Nat) (hb:β l=none) (hh:h l=some (.arr e s [])):RdA β S h w tm (.slice none 0 0) (.arr l)
 |arr (l b cap e s:Nat) (rows:List (List D)) (cs:Array Value) (ty:TypeId) (fz:Nat × Nat) (hb:β l=some b) (hh:h l=some (.arr e s rows))
   (hw:w.heap[b]? = some (.cells cs ty fz)) (hcs:cs.size=cap*s) (hcap:rows.length<=cap) (hmax:cap<=maxLen) :
   RdA β S h w tm (.slice (some ⟨b,0,none⟩) rows.length cap) (.arr l)
 |mp (l b t:Nat) (f:Int->Bool) (hb:β l=some b) (hh:h l=some (.mp t f)):RdA β S h w tm (.map (some b)) (.arr l)
 |ap (l i off b e s:Nat) (rows:List (List D)) (hb:β l=some b) (hh:h l=some (.arr e s rows)) :
   RdA β S h w tm (.pointer (some ⟨b,i*s+off,none⟩)) (.ap l i off)
 |dang (v:Value) (av:AV) (l:Nat) (hl:Nm av=some l) (hh:h l=none) (h1:v.oneCell'=true):RdA β S h w tm v av
 |gdT (v:Value) (t:Nat) (w':Bool) (av:AV) (ht:tm t = .bool w') (hv:RdA β S h w tm v av):RdA β S h w tm v (.gd t w' av)
 |gdF (t:Nat) (w':Bool) (av:AV) (ht:tm t≠.bool w'):RdA β S h w tm undef (.gd t w' av)
structure Keep (β:Nat->Option Nat) (h:Nat->Option Ob) (w:World) (β':Nat->Option Nat) (h':Nat->Option Ob) (w':World) (l:Nat):Prop where
 b:β' l=β l
 none_:h l=none->h' l=none
 arr:∀ e s rows,h l=some (.arr e s rows)->h' l=none\/∃ rows',h' l=some (.arr e s rows')/\rows'.length=rows.length
 cells:∀ b cs ty fz,(h' l).isSome=true->β l=some b->w.heap[b]? = some (.cells cs ty fz)->∃ cs' ty' fz',w'.heap[b]? = some (.cells cs' ty' fz')/\cs'.size=cs.size
 mp:∀ t f,h l=some (.mp t f)->h' l=none\/∃ f',h' l=some (.mp t f')
theorem Nd {l i:Nat} {r:List AV} {x:AV} (h:r[i]? = some x) (hn:WQ l x=true):Gu l r=true:=by
 induction r generalizing i with
 |nil=>simp at h
 |cons a r ih=>
  grind [Gu]
theorem Q3Y {t i:Nat} {r:List AV} {x:AV} (h:r[i]? = some x) (hn:gds t x=true):BV t r=true:=by
 induction r generalizing i with
 |nil=>simp at h
 |cons a r ih=>
  grind [BV]
theorem RdA.mono {β β':Nat->Option Nat} {S S':Nat->Prop} {h h':Nat->Option Ob} {w w':World} {tm tm':Nat->Value} {v:Value} {av:AV}
  (hr:RdA β S h w tm v av) (hS:∀ b,S b->S' b) (hw:∀ b,S b->w'.heap[b]? = w.heap[b]?)
  (hk:∀ l,WQ l av=true->Keep β h w β' h' w' l) (ht:∀ t,gds t av=true->tm' t=tm t):RdA β' S' h' w' tm' v av:=by
 induction hr with
 |top v=>exact .top v
 |d v x hx=>exact .d v x (hx.mono hS hw)
 |nil=>exact .nil
 |ag cs l hl _ ih=>
  exact .ag cs l hl fun i x hx=>ih i x hx (fun k hn=>hk k (by grind [WQ,Nd])) (fun t hn=>ht t (by grind [gds,Q3Y]))
 |tup cs l hl _ ih=>
  exact .tup cs l hl fun i x hx=>ih i x hx (fun k hn=>hk k (by simp [WQ,Nd hx hn])) (fun t hn=>ht t (by simp [gds,Q3Y hx hn]))
 |fn f cs l hl _ ih=>
  exact .fn f cs l hl fun i x hx=>ih i x hx (fun k hn=>hk k (by simp [WQ,Nd hx hn])) (fun t hn=>ht t (by simp [gds,Q3Y hx hn]))
 |fs ad s rows hx=>exact .fs ad s rows (hx.mono hS hw)
 |mpd v f hm=>exact .mpd v f (hm.mono hS hw)
 |ex v=>exact .ex v
 |ptr l off b hb=>exact .ptr l off b (by rw [(hk l (by simp [WQ])).b];exact hb)
 |sa v l t b hb hv=>exact .sa v l t b (by rw [(hk l (by simp [WQ])).b];exact hb) hv
 |el ad row off c hs hc hr=>
  exact .el ad row off c (hS _ hs) (fun j x hx=>by grind [Xu,Jt]) (fun j x hx=>(hr j x hx).mono hS hw)
 |arr0 l e s hb hh=>
  have K:=hk l (by simp [WQ]);rcases K.arr e s [] hh with hn | ⟨ac,aj,an⟩
  ·exact .dang _ _ l rfl hn rfl
  ·have:ac=[]:=Qi0 (by omega);subst this;exact .arr0 l e s (by rw [K.b];exact hb) aj
 |arr l b cap e s rows cs ty fz hb hh az a7 a3 aq=>
  have K:=hk l (by simp [WQ]);rcases K.arr e s rows hh with hn | ⟨ac,aj,an⟩
  ·exact .dang _ _ l rfl hn rfl
  ·obtain ⟨ay,au,a2,aw,a5⟩:=K.cells b cs ty fz (by simp [aj]) hb az;have:=RdA.arr (β:=β') (h:=h') (w:=w') (S:=S') (tm:=tm') l b cap e s ac ay au a2 (by rw [K.b];exact hb) aj aw (by omega) (by omega) aq
   simp_all
 |mp l b t f hb hh=>
  have K:=hk l (by simp [WQ]);rcases K.mp t f hh with hn | ⟨f',hf⟩
  ·exact .dang _ _ l rfl hn rfl
  ·exact .mp l b t f' (by rw [K.b];exact hb) hf
 |ap l i off b e s rows hb hh=>
  have K:=hk l (by simp [WQ]);rcases K.arr e s rows hh with hn | ⟨ac,aj,an⟩
  ·exact .dang _ _ l rfl hn rfl
  ·exact .ap l i off b e s ac (by rw [K.b];exact hb) aj
 |dang v av l hl hh h1=>
  refine .dang v av l hl ((hk l ?_).none_ hh) h1;cases av <;> simp [Nm] at hl <;> simp [WQ,hl]
 |gdT v t b av ar _ ih=>
  refine .gdT v t b av (by simp_all [gds]) (ih (fun k hn=>hk k (by assumption)) (fun t' hn=>ht t' (by grind [gds])))
 |gdF t b av ar=>exact .gdF t b av (by rw [ht t (by simp [gds])];exact ar)
structure Fr (M:Nat->Prop) (w w':World):Prop where
 os:w'.os=w.os
 tape:w'.tape=w.tape
 output:w'.output=w.output
 size:w.heap.size<=w'.heap.size
 block:∀ b,b<w.heap.size->¬ M b->w'.heap[b]? = w.heap[b]?
theorem Fr.refl (M:Nat->Prop) (w:World):Fr M w w:=⟨rfl,rfl,rfl,Qie _,fun _ _ _=>rfl⟩
theorem Fr.trans {M:Nat->Prop} {a b c:World} (h:Fr M a b) (k:Fr M b c):Fr M a c:=
 ⟨k.os.trans h.os,k.tape.trans h.tape,k.output.trans h.output,Nat.le_trans h.size k.size,fun i hi hm=>(k.block i (Qih hi h.size) hm).trans (h.block i hi hm)⟩
theorem Fr.mono {M M':Nat->Prop} {a b:World} (h:Fr M a b) (hM:∀ x,x<a.heap.size->M x->M' x):Fr M' a b:=
 ⟨h.os,h.tape,h.output,h.size,fun i hi hm=>h.block i hi (fun hx=>hm (hM i hi hx))⟩
theorem Fr.below {w w':World} (h:Fr (fun _=>False) w w'):RowKit.Below w.heap.size w w':=⟨h.os,h.tape,h.output,h.size,fun b hb=>h.block b hb (fun x=>x)⟩
def QgI (n:Nat) (fz:Nat × Nat):Prop:=∀ o,o<n->¬ (fz.1<=o/\o<fz.2)
def tm0:Nat->Value:=fun _=>undef
def Q6w (ty:TypeId) (cells:List AV):Prop:=∀ (i l t:Nat),cells[i]? = some (.sa l t)->ty=t
def ObR (β:Nat->Option Nat) (S:Nat->Prop) (h:Nat->Option Ob) (w:World) (l:Nat):Ob->Prop
 |.box cells=>∃ b ty cs fz,β l=some b/\w.heap[b]? = some (.cells cs ty fz)/\(QgI cs.size fz/\Q6w ty cells)/\cs.size=cells.length /\
   ∀ (i:Nat) (x:AV),cells[i]? = some x->RdA β S h w tm0 (cs.getD i undef) x
 |.arr e s rows=>(β l=none/\rows=[])\/∃ b cs,β l=some b/\w.heap[b]? = some (.cells cs e (0,0))/\rows.length*s<=cs.size /\
   (∀ (i:Nat) (r:List D),rows[i]? = some r->r.length=s)/\∀ (i j:Nat) (r:List D) (x:D),rows[i]? = some r->r[j]? = some x->∃ v,cs[i*s+j]? = some v/\Rd S w v x
 |.mp _ f=>∃ b,β l=some b/\MpR w b f
structure Env where
 w0:World
 M:Nat->Prop
 S0:Nat->Prop
 pin:Nat->Option Nat
def tmv (a:Act) (t:Nat):Value:=a.tmps.getD t undef
structure HRel (E:Env) (β:Nat->Option Nat) (S:Nat->Prop) (h:Nat->Option Ob) (w:World):Prop where
 ob:∀ l o,h l=some o->ObR β S h w l o
 inj:∀ l l' b,(h l).isSome=true->(h l').isSome=true->β l=some b->β l'=some b->l=l'
 apart:∀ l b,(h l).isSome=true->β l=some b->¬ S b
 own:∀ l b,(h l).isSome=true->β l=some b->E.M b\/E.w0.heap.size<=b
 sb:∀ b,S b->b<w.heap.size
 sfr:∀ b,S b->E.S0 b\/E.M b\/E.w0.heap.size<=b
 s0:∀ b,E.S0 b->S b
 fr:Fr E.M E.w0 w
 pin:∀ l,1000000<=l->β l=E.pin l
 psz:∀ l b,1000000<=l->(h l).isSome=true->β l=some b->∀ cs ty fz,E.w0.heap[b]? = some (.cells cs ty fz)->∃ cs' ty' fz',w.heap[b]? = some (.cells cs' ty' fz')/\cs'.size=cs.size
structure Rel (E:Env) (β:Nat->Option Nat) (S:Nat->Prop) (st:St) (a:Act) (w:World):Prop where
 n:a.tmps.size=st.n
 dfr:a.defers=[]
 tm:∀ t av,look st.tm t=some av->RdA β S (look st.h) w (tmv a) (tmv a t) av
 hr:HRel E β S (look st.h) w
def Hd (E:Env) (st:St) (a:Act) (w:World):Prop:=∃ β S,Rel E β S st a w
theorem Qcb {a b:Nat} (h:¬ a=b):Nat.beq a b=false:=by
 grind [Nat.beq,absurd,Nat.eq_of_beq_eq_true]
theorem C2 {α:Type} (l k:Nat) (h:List (Nat × α)):look (rem l h) k=if k=l then none else look h k:=by
 induction h with
 |nil=>simp [rem,look]
 |cons x r ih=>
  obtain ⟨a,o⟩:=x;simp only [rem,look];by_cases ha:a=l
  ·subst ha;simp only [Nat.beq_refl,QhV,ih]
   grind [Nat.beq,Qcb]
  ·have h1:Nat.beq a l=false:=Qcb ha;simp only [h1,cond_false,look,ih]
   grind
theorem XL {α:Type} (l k:Nat) (o:α) (h:List (Nat × α)):look ((l,o)::h) k=if k=l then some o else look h k:=by
 grind [look,Nat.beq_refl,Nat.beq,Qcb]
theorem WJ (l k:Nat) (o:Ob) (h:List (Nat × Ob)):look ((l,o)::rem l h) k=if k=l then some o else look h k:=by
 grind [XL,C2]
def CEq (kd:Kd) (u v:Value) (b:Bool):Prop:=
 match kd with
 |.int k=>∃ m n,u = .int k m/\v = .int k n/\b=(m == n)
 |.bool=>∃ m n,u = .bool m/\v = .bool n/\b=(m == n)
 |.str=>∃ m n:ByteArray,u = .string m/\v = .string n/\b=(m.data.toList == n.data.toList)
 |_=>False
def Qhg (P:Program) (t:Nat) (ks:List Kd):Prop:=
 ∀ (w:World) (xs ys:Array Value) (bs:List Bool),xs.size=ks.length->ys.size=ks.length->bs.length=ks.length ->
  (∀ (j:Nat) (kd:Kd) (b:Bool),ks[j]? = some kd->bs[j]? = some b->CEq kd (xs.getD j undef) (ys.getD j undef) b) ->
  (Op.equalIn 10000 t (.agg xs) (.agg ys)).run P w = .ok (bs.all id) w/\P.eqGuardType P.depth t=false
structure TyOk (P:Program) (t:Nat) (ti:TyI):Prop where
 inf:∃ i,P.info? t=some i/\i.size=ti.size/\i.bytes=ti.bytes/\∃ z,i.zero=some z/\z.cells.toList=ti.zero
 one:V8 ti.kd=false->ti.size=1/\∃ d,P.underlying t=some d/\(∀ fs,d≠.struct fs)/\∀ n e,d≠.array n e
 kint:∀ k,ti.kd = .int k->P.underlying t=some (.int k)
 kbool:ti.kd = .bool->P.underlying t=some .bool
 kstr:ti.kd = .str->P.underlying t=some .string
 ksl:∀ e esz,ti.kd = .sl e esz->P.underlying t=some (.slice e)/\0<esz/\∃ i,P.info? e=some i/\i.size=esz
 kstruct:ti.kd = .struct->∃ fs,P.underlying t=some (.struct fs)/\fs.toList.map (fun f=>(f.offset,f.type))=ti.fields/\∀ f∈fs.toList,∃ i,P.info? f.type=some i/\i.size≠0
 karr:∀ e esz n,ti.kd = .array e esz n->P.underlying t=some (.array n e)/\0<esz/\(∃ i,P.info? e=some i/\i.size=esz)/\ti.size=n*esz/\ti.fields=(List.range n).map fun i=>(i*esz,e)
 keq:∀ ks,ti.eqk=some ks->Qhg P t ks
 zlen:ti.zero.length=ti.size
 zd:ti.zd.length=ti.size->∀ (j:Nat) (x:D),ti.zd[j]? = some x->∃ v,ti.zero[j]? = some v/\∀ (S:Nat->Prop) (w:World),Rd S w v x
 kmpb:ti.kd = .mpb->∃ K e,P.underlying t=some (.map K e)/\P.underlying K=some (.int .i64)/\∃ i,P.info? e=some i/\i.zero=some (.bool false)
 kmap:ti.kd = .mapI->∃ K e,P.underlying t=some (.map K e)/\P.underlying K=some (.int .i64)/\∃ i,P.info? e=some i/\i.zero=some (.slice none 0 0)
def TOk (P:Program) (tt:TT):Prop:=∀ t ti,look tt t=some ti->TyOk P t ti
section
variable {P:Program}
theorem QO {t:TypeId} {d:TypeDesc} (h:P.underlying t=some d) (w:World):(underlying t).run P w = .ok d w:=by
 simp [underlying,h]
theorem Yl {t:TypeId} {i:TypeInfo} (h:P.info? t=some i) (w:World):(typeInfo t).run P w = .ok i w:=by
 simp [typeInfo,h]
theorem TyOk.size {t:Nat} {ti:TyI} (h:TyOk P t ti) (w:World):(sizeOf t).run P w = .ok ti.size w:=by
 obtain ⟨i,hi,hs,_⟩:=h.inf
 simp_all [sizeOf,Yl]
theorem TyOk.agg {t:Nat} {ti:TyI} (h:TyOk P t ti) (w:World):(isAgg t).run P w = .ok (V8 ti.kd) w:=by
 cases hk:V8 ti.kd with
 |true=>
  cases hh:ti.kd with
  |struct=>
   obtain ⟨fs,hu,_⟩:=h.kstruct hh;simp [isAgg,QO hu]
  |array e ak n=>
   have hu:=(h.karr e ak n hh).1;simp [isAgg,QO hu]
  |_=>grind [V8]
 |false=>
  obtain ⟨_,d,hu,h1,h2⟩:=h.one hk
  simp_all [isAgg,QhU,QO,QhQ]
theorem QM {α R:Type} {g:Bool} {p:Option α} {z:α} {k:α->Option R} {r:R} (h:gb g p z k=some r) :
  ∃ a,k a=some r/\(g=true->p=some a):=by
 unfold gb orZ at h
 grind
def Out (E:Env) (st:St) (a:Act) (dl:Dl) (v:Value) (w':World):Prop:=
 ∃ β' S',Rel E β' S' ⟨st.n,st.tm,NL st.h dl.wr⟩ a w'/\RdA β' S' (look (NL st.h dl.wr)) w' (tmv a) v dl.v
def Cw (β:Nat->Option Nat) (S:Nat->Prop) (st:St) (a:Act) (w:World) (o:Oper) (ev:Operand->AV):Prop:=
 ∀ x∈o.op.operands.toList,RdA β S (look st.h) w (tmv a) (a.eval x) (ev x)/\∀ l,Ur st l=true->WQ l (ev x)=false
def Qe2 (st:St) (hl:Nat->Option Ob) (dl:Dl):Prop:=∀ l,l∈dl.rd\/l∈wrL dl->look st.h l=hl l
def GO (P:Program) (E:Env) (o:Oper) (ev:Operand->AV) (hl:Nat->Option Ob) (dl:Dl):Prop:=
 ∀ β S st a w,Rel E β S st a w->Cw β S st a w o ev->Qe2 st hl dl->Wc st dl.wr=true ->
  ∀ (K:Act->World->Prop) (Q:Exit->Act->World->Prop),(∀ v w',Out E st a dl v w'->K (a.put o.dst v) w')->o.wp P a w K Q
variable {E:Env}
theorem Ql {o:Oper} {ev:Operand->AV} {hl:Nat->Option Ob} {v:AV} {rd:List Nat}
  (h:∀ β S st a w,Rel E β S st a w->Cw β S st a w o ev->Qe2 st hl ⟨v,[],rd⟩->∃ u,(execOp a.eval o).run P w = .ok (.value u) w/\RdA β S (look st.h) w (tmv a) u v) :
  GO P E o ev hl ⟨v,[],rd⟩:=by
 intro β S st a w hR hO hA _ K Q hK;obtain ⟨u,ac,hu⟩:=h β S st a w hR hO hA;unfold Oper.wp;rw [ac];exact hK u w ⟨β,S,by assumption,by assumption⟩
theorem Cw.at {β:Nat->Option Nat} {S:Nat->Prop} {st:St} {a:Act} {w:World} {o:Oper} {ev:Operand->AV} (h:Cw β S st a w o ev) {x:Operand} (hx:x∈o.op.operands.toList) :
  RdA β S (look st.h) w (tmv a) (a.eval x) (ev x):=(h x hx).1
theorem Cw.nm {β:Nat->Option Nat} {S:Nat->Prop} {st:St} {a:Act} {w:World} {o:Oper} {ev:Operand->AV} (h:Cw β S st a w o ev) {x:Operand} (hx:x∈o.op.operands.toList) {l:Nat} (hc:Ur st l=true) :
  WQ l (ev x)=false:=(h x hx).2 l hc
section inv
variable {β:Nat->Option Nat} {S:Nat->Prop} {h:Nat->Option Ob} {w:World} {tm:Nat->Value} {v:Value}
theorem RdA.int_inv {k:IntKind} {n:Int} (hv:RdA β S h w tm v (.d (.int k n))):v = .int k n:=by
 cases hv with
 |d _ _ hx=>cases hx;rfl
 |dang _ _ l hl _ _=>trivial
theorem RdA.bool_inv {b:Bool} (hv:RdA β S h w tm v (.d (.bool b))):v = .bool b:=by
 cases hv with
 |d _ _ hx=>cases hx;rfl
 |dang _ _ l hl _ _=>trivial
theorem RdA.str_inv {l:List UInt8} (hv:RdA β S h w tm v (.d (.str l))):∃ s:ByteArray,l=s.data.toList/\v = .string s:=by
 cases hv with
 |d _ _ hx=>cases hx with
  |str s=>simp_all
 |dang _ _ l hl _ _=>trivial
theorem RdA.d_inv {x:D} (hv:RdA β S h w tm v (.d x)):Rd S w v x:=by
 cases hv with
 |d _ _ hx=>exact hx
 |dang _ _ l hl _ _=>trivial
theorem RdA.ptr_inv {l off:Nat} (hv:RdA β S h w tm v (.ptr l off)):∃ b,β l=some b/\v = .pointer (some ⟨b,off,none⟩):=by
 cases hv with
 |ptr _ _ b hb=>simp_all
 |dang _ _ l hl _ _=>trivial
theorem RdA.el_inv {row:List D} {off:Nat} (hv:RdA β S h w tm v (.el row off)) :
  ∃ (ad:Addr) (c:Nat->Value),v = .pointer (some ad)/\S ad.block/\(∀ (j:Nat) (x:D),row[off+j]? = some x->w.cell? (ad.add j)=some (c j))/\∀ (j:Nat) (x:D),row[off+j]? = some x->Rd S w (c j) x:=by
 cases hv with
 |el ad _ _ c hs hc hr=>exact ⟨ad,c,rfl,hs,hc,hr⟩
 |dang _ _ l hl _ _=>trivial
theorem RdA.ap_inv {l i off e s:Nat} {rows:List (List D)} (hh:h l=some (.arr e s rows)) (hv:RdA β S h w tm v (.ap l i off)) :
  ∃ b,β l=some b/\v = .pointer (some ⟨b,i*s+off,none⟩):=by
 cases hv with
 |ap _ _ _ b e' s' ac hb ak=>
  simp_all
 |dang _ _ l' hl hn _=>grind [Nm]
theorem RdA.ag_inv {l:List AV} (hv:RdA β S h w tm v (.ag l)):∃ cs:Array Value,v = .agg cs/\cs.size=l.length/\∀ (i:Nat) (x:AV),l[i]? = some x->RdA β S h w tm (cs.getD i undef) x:=by
 cases hv with
 |ag cs _ hl hr=>simp_all
 |dang _ _ l hl _ _=>trivial
theorem RdA.tup_inv {l:List AV} (hv:RdA β S h w tm v (.tup l)):∃ cs:Array Value,v = .tuple cs/\cs.size=l.length/\∀ (i:Nat) (x:AV),l[i]? = some x->RdA β S h w tm (cs.getD i undef) x:=by
 cases hv with
 |tup cs _ hl hr=>simp_all
 |dang _ _ l hl _ _=>trivial
theorem RdA.fs_inv {s:Nat} {rows:List (List D)} (hv:RdA β S h w tm v (.fs s rows)):∃ ad,v = .slice ad rows.length rows.length/\Rd S w v (.sl s rows):=by
 cases hv with
 |fs ad _ _ hx=>simp_all
 |dang _ _ l hl=>trivial
theorem RdA.nil_inv (hv:RdA β S h w tm v .nil):v = .slice none 0 0:=by
 cases hv with
 |nil=>rfl
 |dang _ _ l hl _ _=>trivial
theorem RdA.arr_inv {l e s:Nat} {rows:List (List D)} (hh:h l=some (.arr e s rows)) (hv:RdA β S h w tm v (.arr l)) :
  (β l=none/\rows=[]/\v = .slice none 0 0)\/∃ b cap cs ty fz,β l=some b/\v = .slice (some ⟨b,0,none⟩) rows.length cap/\w.heap[b]? = some (.cells cs ty fz)/\cs.size=cap*s/\rows.length<=cap/\cap<=maxLen:=by
 cases hv with
 |arr0 _ e' s' hb ac=>
  simp_all
 |arr _ b cap e' s' aj cs ty fz hb ac hw ao ak an=>
  grind
 |mp _ b t f hb ac=>simp_all
 |dang _ _ l' hl hn _=>grind [Nm]
theorem RdA.mp_inv {l t:Nat} {f:Int->Bool} (hh:h l=some (.mp t f)) (hv:RdA β S h w tm v (.arr l)):∃ b,β l=some b/\v = .map (some b):=by
 cases hv with
 |arr0 _ e' s' hb ac=>simp_all
 |arr _ b cap e' s' aj cs ty fz hb ac hw aq ak an=>rw [hh] at ac;cases ac
 |mp _ b t f hb ac=>simp_all
 |dang _ _ l' hl hn _=>grind [Nm]
end inv
theorem LY {k:IntKind} {x:D} {n:Int} (h:Q3 k x=some n):x = .int k n:=by
 cases x with
 |int k' m=>
  grind [Q3]
 |_=>trivial
theorem NV {x:D} {n:Bool} (h:Kl x=some n):x = .bool n:=by
 cases x <;> simp [Kl] at h;rw [h]
theorem LH {x:D} {n:List UInt8} (h:RD x=some n):x = .str n:=by
 cases x <;> simp [RD] at h;rw [h]
theorem Q5O {s:Nat} {x:D} {n:List (List D)} (h:pSl s x=some n):x = .sl s n:=by
 cases x with
 |sl s' m=>
  grind [pSl,Nat.beq,Nat.eq_of_beq_eq_true]
 |_=>trivial
theorem Cg {R:Type} {g:Bool} {kd:Kd} {av:AV} {k:AV->Option R} {r:R} (h:prj g kd av k=some r) :
  ∃ v,k v=some r/\(g=true->v=av)/\AK av=true:=by
 unfold prj at h;split at h
 ·split at h
  ·obtain ⟨n,hn,hp⟩:=QM h;exact ⟨_,hn,fun hg=>by grind [LY],rfl⟩
  ·obtain ⟨n,hn,hp⟩:=QM h;exact ⟨_,hn,fun hg=>by grind [NV],rfl⟩
  ·obtain ⟨n,hn,hp⟩:=QM h;exact ⟨_,hn,fun hg=>by grind [LH],rfl⟩
  ·obtain ⟨n,hn,hp⟩:=QM h;exact ⟨_,hn,fun hg=>by grind [Q5O],rfl⟩
  ·cases h
 grind
theorem MB {R:Type} {g:Bool} {row:List D}:∀ {n off:Nat} {k:List AV->Option R} {r:R},Q0c g row off n k=some r ->
  ∃ cs:List D,k (cs.map .d)=some r/\cs.length=n/\(g=true->∀ j,j<n->row[off+j]? = cs[j]?)
 |0,off,k,r,h=>⟨[],by simpa [Q0c] using h,rfl,fun _ j hj=>by omega⟩
 |n+1,off,k,r,h=>by
  unfold Q0c at h;obtain ⟨c,hc,hp⟩:=QM h;obtain ⟨cs,h1,h2,h3⟩:=MB hc;refine ⟨c::cs,by simpa using h1,by simp [h2],fun hg j hj=>?_⟩;cases j with
  |zero=>simpa using hp hg
  |succ j=>
   have:=h3 hg j (by omega);rw [show off+(j+1)=off+1+j from by omega];simpa using this
theorem SZ {cells:List AV}:∀ {n off:Nat} {cs:List AV},CF cells off n=some cs->cs.length=n/\(∀ j,j<n->cells[off+j]? = cs[j]?)/\∀ (j:Nat) (c:AV),cs[j]? = some c->AK c=true
 |0,off,cs,h=>by
  simp [CF] at h;subst h;exact ⟨rfl,fun j hj=>by omega,fun j c hc=>by simp at hc⟩
 |n+1,off,cs,h=>by
  unfold CF at h;split at h
  ·rename_i c hc;split at h
   ·rename_i r hr;obtain ⟨h1,h2,h3⟩:=SZ hr;cases hn:AK c with
    |true=>
     simp [hn] at h;subst h;refine ⟨by simp [h1],fun j hj=>?_,fun j c' ac=>?_⟩
     ·cases j with
      |zero=>simpa using hc
      |succ j=>
       rw [show off+(j+1)=off+1+j from by omega];simpa using h2 j (by omega)
     ·cases j with
      |zero=>simp at ac;subst ac;exact hn
      |succ j=>exact h3 j c' (by simpa using ac)
    |false=>simp [hn] at h
   ·cases h
  ·cases h
theorem Q0I:∀ {l:List AV},Jl l=true->∀ t,BV t l=false
 |[],_,_=>rfl
 |.ptr ..::r,h,t=>by simp [BV,gds,Q0I (l:=r) (by simpa [Jl] using h) t]
 |.d _::r,h,t=>by simp [BV,gds,Q0I (l:=r) (by simpa [Jl] using h) t]
 |.top::_,h,_=>by simp [Jl] at h
 |.nil::_,h,_=>by simp [Jl] at h
 |.ag _::_,h,_=>by simp [Jl] at h
 |.tup _::_,h,_=>by simp [Jl] at h
 |.el ..::_,h,_=>by simp [Jl] at h
 |.fs ..::_,h,_=>by simp [Jl] at h
 |.mpd _::_,h,_=>by simp [Jl] at h
 |.ex _::_,h,_=>by simp [Jl] at h
 |.arr _::_,h,_=>by simp [Jl] at h
 |.ap ..::_,h,_=>by simp [Jl] at h
 |.gd ..::_,h,_=>by simp [Jl] at h
 |.fn ..::_,h,_=>by simp [Jl] at h
theorem Sm {av:AV} (h:AK av=true) (t:Nat):gds t av=false:=by
 cases av with
 |fn f l=>grind [gds,Q0I,AK]
 |_=>trivial
theorem RdA.any_tm {β:Nat->Option Nat} {S:Nat->Prop} {h:Nat->Option Ob} {w:World} {tm:Nat->Value} {v:Value} {av:AV} (hg:AK av=true)
  (hv:RdA β S h w tm0 v av):RdA β S h w tm v av:=by
 refine RdA.mono hv (fun _ hb=>hb) (fun _ _=>rfl) (fun l _=>⟨rfl,fun x=>x,fun e s rows hh=>.inr ⟨rows,hh,rfl⟩,fun b cs ty fz _ _ hw=>⟨cs,ty,fz,hw,rfl⟩,fun _ f hh=>.inr ⟨f,hh⟩⟩) (fun t ht=>?_)
 grind [Sm]
end
section
variable {P:Program} {E:Env} {R:Type}
theorem J3 {w:World} {b o:Nat} {cs:Array Value} {ty:TypeId} {fz:Nat × Nat} (h:w.heap[b]? = some (.cells cs ty fz)):w.cell? ⟨b,o,none⟩=cs[o]?:=by
 simp [World.cell?,h]
theorem Gn {t:Nat} {ti:TyI} (ht:TyOk P t ti) (hs:V8 ti.kd=false) {w:World} {a:Addr} {v:Value} (hc:w.cell? a=some v) :
  (loadVar t a).run P w = .ok v w:=by
 simp only [loadVar,QhU,ht.agg,hs,QhQ,Bool.false_eq_true,if_false,run_load,hc]
theorem Gz {t:Nat} {ti:TyI} (ht:TyOk P t ti) (hs:V8 ti.kd=true) {w:World} {a:Addr} {vs:List Value} (hl:vs.length=ti.size) (hc:∀ (j:Nat) (v:Value),vs[j]? = some v->w.cell? (a.add j)=some v) :
  (loadVar t a).run P w = .ok (.agg vs.toArray) w:=by
 have h1:=run_loadCells_list (P:=P) w a vs hc;rw [hl] at h1;simp only [loadVar,QhU,ht.agg,hs,QhQ,if_true,ht.size,h1];rfl
theorem Hq {cs:Array Value} {i:Nat} (h:i<cs.size):cs[i]? = some (cs.getD i undef):=by
 simp_all
theorem LD {vs:List Value} {i:Nat} {v:Value} (h:vs[i]? = some v):vs.toArray.getD i undef=v:=by
 simp_all
theorem Kv {o:Oper} {t:TypeId} {x:Operand} (ho:o.op = .load t x) {a:Act} {w:World} {ad:Addr} {v:Value} (hx:a.eval x = .pointer (some ad)) (hv:(loadVar t ad).run P w = .ok v w) :
  (execOp a.eval o).run P w = .ok (.value v) w:=by
 simp_all [execOp,Instr.loadAt,Instr.sureAddr]
theorem Q2F {S:Nat->Prop} {w:World} {ad:Addr} {row:List D} {off:Nat} {c:Nat->Value} (hc:∀ (j:Nat) (x:D),row[off+j]? = some x->w.cell? (ad.add j)=some (c j))
  (hr:∀ (j:Nat) (x:D),row[off+j]? = some x->Rd S w (c j) x) {cs:List D} {n:Nat} (hn:cs.length=n) (ac:∀ j,j<n->row[off+j]? = cs[j]?) :
  ∃ vs:List Value,vs.length=n/\(∀ (j:Nat) (v:Value),vs[j]? = some v->w.cell? (ad.add j)=some v)/\∀ (j:Nat) (x:D),cs[j]? = some x->∃ v,vs[j]? = some v/\Rd S w v x:=by
 refine ⟨(List.range n).map c,by simp,fun j v hv=>?_,fun j x hx=>?_⟩
 all_goals grind
theorem Q86 {β:Nat->Option Nat} {S:Nat->Prop} {h:Nat->Option Ob} {w:World} {tm:Nat->Value} {vs:List Value} {cs:List D} (hl:vs.length=cs.length)
  (hr:∀ (j:Nat) (x:D),cs[j]? = some x->∃ v,vs[j]? = some v/\Rd S w v x):RdA β S h w tm (.agg vs.toArray) (.ag (cs.map .d)):=by
 refine .ag _ _ (by simp [hl]) fun i x hx=>?_
 simp only [Qi1,QhW] at hx;obtain ⟨y,hy,rfl⟩:=hx;obtain ⟨v,hv,ac⟩:=hr i y hy;rw [LD hv];exact .d _ _ ac
theorem Q7A {tt:TT} (hT:TOk P tt) {o:Oper} {t:TypeId} {x:Operand} (ho:o.op = .load t x) {g:Bool} {ev:Operand->AV} {hl:Nat->Option Ob} {k:Dl->Option R} {r:R}
  (h:QcX tt g hl t (ev x) k=some r):∃ dl,k dl=some r/\(g=true->GO P E o ev hl dl):=by
 have aj:x∈o.op.operands.toList:=by grind [Op.operands]
 unfold QcX at h;split at h
 case h_2=>cases h
 rename_i ti bn;have az:=hT t ti bn;split at h
 ·-- a box
  rename_i l off ar;split at h
  ·rename_i cells aw;cases hs:V8 ti.kd with
   |true=>
    simp only [hs,QhV] at h;split at h
    ·rename_i cs a5;refine ⟨_,h,fun _=>Ql fun β S st a w hR hO hA=>?_⟩;obtain ⟨b,hb,hv⟩:=(ar▸hO.at aj).ptr_inv;have ak:look st.h l=some (.box cells):=by rw [hA l (.inl (by simp))];exact aw
     obtain ⟨b',ty,vs,fz,ao,hw,_,bj,aq⟩:=hR.hr.ob l _ ak;obtain rfl:b=b':=by simp_all
     obtain ⟨h1,h2,h3⟩:=SZ a5;have au:∀ j,j<ti.size->off+j<vs.size:=fun j hj=>by
      grind
     refine ⟨_,Kv ho hv (Gz az hs (vs:=(List.range ti.size).map fun j=>vs.getD (off+j) undef) (by simp) fun j v hv=>?_),?_⟩
     ·simp only [Qi1,QhW] at hv;obtain ⟨j',bm,rfl⟩:=hv;obtain ⟨ba,he⟩:=QhR.1 bm;simp at ba he;subst he;rw [H3,J3 hw];exact Hq (au j ba)
     ·refine .ag _ _ (by simp [h1]) fun i y hy=>?_
      have hi:i<ti.size:=by
       obtain ⟨h6,_⟩:=QhR.1 hy;omega
      rw [LD (v:=vs.getD (off+i) undef) (by simp [hi])];exact (aq (off+i) y ((h2 i hi).trans hy)).any_tm (h3 i y hy)
    ·cases h
   |false=>
    simp only [hs,cond_false] at h;split at h
    ·rename_i c hc;obtain ⟨v,a4,a6,bi⟩:=Cg h;refine ⟨_,a4,fun hg=>Ql fun β S st a w hR hO hA=>?_⟩;obtain ⟨b,hb,hv⟩:=(ar▸hO.at aj).ptr_inv;have ak:look st.h l=some (.box cells):=by rw [hA l (.inl (by simp))];exact aw
     obtain ⟨b',ty,vs,fz,ao,hw,_,bj,aq⟩:=hR.hr.ob l _ ak;obtain rfl:b=b':=by rw [hb] at ao;injection ao
     have au:off<vs.size:=by
      obtain ⟨h6,_⟩:=QhR.1 hc;omega
     refine ⟨_,Kv ho hv (Gn az hs (by rw [J3 hw];exact Hq au)),?_⟩;rw [a6 hg];exact (aq off c hc).any_tm bi
    ·cases h
  ·cases h
 ·-- a row of data
  rename_i row off ar;cases hs:V8 ti.kd with
  |true=>
   simp only [hs,QhV] at h;obtain ⟨cs,hk,a3,a5⟩:=MB h;refine ⟨_,hk,fun hg=>Ql fun β S st a w hR hO hA=>?_⟩;obtain ⟨ad,c,hv,_,hc,hr⟩:=(ar▸hO.at aj).el_inv;obtain ⟨vs,h1,h2,h3⟩:=Q2F hc hr a3 (a5 hg);exact ⟨_,Kv ho hv (Gz az hs h1 h2),Q86 (by omega) h3⟩
  |false=>
   simp only [hs,cond_false] at h;obtain ⟨c0,h,a7⟩:=QM h;obtain ⟨v,a4,a6,_⟩:=Cg h;refine ⟨_,a4,fun hg=>Ql fun β S st a w hR hO hA=>?_⟩;obtain ⟨ad,c,hv,_,hc,hr⟩:=(ar▸hO.at aj).el_inv;refine ⟨_,Kv ho hv (Gn az hs (v:=c 0) ?_),?_⟩
   ·have:=hc 0 c0 (a7 hg);simpa [Addr.add] using this
   ·rw [a6 hg];exact .d _ _ (hr 0 c0 (a7 hg))
 ·-- an array of the call's own
  rename_i l i off ar;split at h
  ·rename_i e s rows a8;obtain ⟨row,h,a9⟩:=QM h;cases hs:V8 ti.kd with
   |true=>
    simp only [hs,QhV] at h;obtain ⟨cs,hk,a3,a5⟩:=MB h;refine ⟨_,hk,fun hg=>Ql fun β S st a w hR hO hA=>?_⟩;have ak:look st.h l=some (.arr e s rows):=by rw [hA l (.inl (by simp))];exact a8
    obtain ⟨b,hb,hv⟩:=RdA.ap_inv ak (ar▸hO.at aj);have ac:=a9 hg;rcases hR.hr.ob l _ ak with ⟨_,hn⟩ | ⟨b',vs,ao,hw,_,bl,aq⟩
    ·subst hn;simp at ac
    obtain rfl:b=b':=by rw [hb] at ao;injection ao
    obtain ⟨bo,h1,h2,h3⟩:=Q2F (S:=S) (w:=w) (ad:=⟨b,i*s+off,none⟩) (row:=row) (off:=off) (c:=fun j=>vs.getD (i*s+(off+j)) undef)
     (fun j x hx=>by
      obtain ⟨v,bg,_⟩:=aq i (off+j) row x ac hx;rw [H3,J3 hw,Qil];obtain ⟨au,_⟩:=Qi5.1 bg;exact Hq au)
     (fun j x hx=>by
      obtain ⟨v,bg,bb⟩:=aq i (off+j) row x ac hx;obtain ⟨au,he⟩:=Qi5.1 bg;have:vs.getD (i*s+(off+j)) undef=v:=by simp [Array.getD,au,he]
      rw [this];exact bb) a3 (a5 hg)
    exact ⟨_,Kv ho hv (Gz az hs h1 h2),Q86 (by omega) h3⟩
   |false=>
    simp only [hs,cond_false] at h;obtain ⟨c0,h,a7⟩:=QM h;obtain ⟨v,a4,a6,_⟩:=Cg h;refine ⟨_,a4,fun hg=>Ql fun β S st a w hR hO hA=>?_⟩;have ak:look st.h l=some (.arr e s rows):=by rw [hA l (.inl (by simp))];exact a8
    obtain ⟨b,hb,hv⟩:=RdA.ap_inv ak (ar▸hO.at aj);have ac:=a9 hg;rcases hR.hr.ob l _ ak with ⟨_,hn⟩ | ⟨b',vs,ao,hw,_,bl,aq⟩
    ·subst hn;simp at ac
    obtain rfl:b=b':=by rw [hb] at ao;injection ao
    obtain ⟨u,hu,bb⟩:=aq i off row c0 ac (a7 hg);refine ⟨_,Kv ho hv (Gn az hs (v:=u) ?_),?_⟩
    ·rw [J3 hw];exact hu
    ·rw [a6 hg];exact .d _ _ bb
  ·cases h
 ·cases h
end
section
variable {P:Program} {E:Env} {R:Type}
theorem Q2M {o:Oper} {x:Operand} (ho:o.op = .move x\/o.op = .assign x) {ev:Operand->AV} {hl:Nat->Option Ob}:GO P E o ev hl ⟨ev x,[],[]⟩:=by
 refine Ql fun β S st a w hR hO hA=>⟨a.eval x,?_,hO.at (by grind [Op.operands])⟩
 unfold execOp;rcases ho with ho | ho <;> rw [ho] <;> simp
theorem RU {o:Oper} {x:Operand} (ho:o.op = .nilCheck x) {a:Act} {w:World} {ad:Addr} (ac:a.eval x = .pointer (some ad)) :
  (execOp a.eval o).run P w = .ok (.value (.pointer (some ad))) w:=by
 simp_all [execOp]
theorem FV {o:Oper} {x:Operand} (ho:o.op = .nilCheck x) {ev:Operand->AV} {hl:Nat->Option Ob} {l f:Nat} (hv:ev x = .ptr l f):GO P E o ev hl ⟨.ptr l f,[],[]⟩:=by
 refine Ql fun β S st a w hR hO hA=>?_
 have hx:=hv▸hO.at (x:=x) (by grind [Op.operands]);obtain ⟨b,_,h⟩:=hx.ptr_inv
 grind [RU]
theorem Du {o:Oper} {x:Operand} (ho:o.op = .nilCheck x) {ev:Operand->AV} {hl:Nat->Option Ob} {l:List D} {f:Nat} (hv:ev x = .el l f):GO P E o ev hl ⟨.el l f,[],[]⟩:=by
 refine Ql fun β S st a w hR hO hA=>?_
 have hx:=hv▸hO.at (x:=x) (by grind [Op.operands]);obtain ⟨b,_,h,_⟩:=hx.el_inv
 grind [RU]
theorem RdA.ap_ptr {β:Nat->Option Nat} {S:Nat->Prop} {h:Nat->Option Ob} {w:World} {tm:Nat->Value} {v:Value} {l i off:Nat} (hh:(h l).isSome=true) (hv:RdA β S h w tm v (.ap l i off)):∃ ad,v = .pointer (some ad):=by
 cases hv with
 |ap _ _ _ b e s rows hb hh=>simp_all
 |dang _ _ l' hl hn _=>grind [Nm]
theorem DI {o:Oper} {x:Operand} (ho:o.op = .nilCheck x) {ev:Operand->AV} {hl:Nat->Option Ob} {l i f:Nat} (hs:(hl l).isSome=true) (hv:ev x = .ap l i f):GO P E o ev hl ⟨.ap l i f,[],[l]⟩:=by
 refine Ql fun β S st a w hR hO hA=>?_
 have hx:=hv▸hO.at (x:=x) (by grind [Op.operands]);obtain ⟨ad,h⟩:=hx.ap_ptr (by rw [hA l (.inl (by simp))];exact hs)
 grind [RU]
theorem Q81 {o:Oper} {op:UnOp} {t:TypeId} {x:Operand} (ho:o.op = .unOp op t x) {a:Act} {w:World} {u v:Value} (hx:a.eval x=u) (h:(Op.unary op u).run P w = .ok v w) :
  (execOp a.eval o).run P w = .ok (.value v) w:=by
 simp_all [execOp]
theorem QcZ {o:Oper} {op:UnOp} {t:TypeId} {x:Operand} (ho:o.op = .unOp op t x) {ev:Operand->AV} {hl:Nat->Option Ob} {v:AV} (h:vUn op (ev x)=some v) :
  GO P E o ev hl ⟨v,[],[]⟩:=by
 refine Ql fun β S st a w hR hO hA=>?_
 have hx:=hO.at (x:=x) (by grind [Op.operands]);unfold vUn at h;split at h
 ·rename_i b hb;cases h;rw [hb] at hx;exact ⟨.bool (!b),Q81 ho hx.bool_inv (by rfl),.d _ _ (.bool _)⟩
 ·rename_i k n hb;cases h;rw [hb] at hx;exact ⟨.int k (k.wrap (0-n)),Q81 ho hx.int_inv (by rfl),.d _ _ (.int _ _)⟩
 ·rename_i k n hb;cases h;rw [hb] at hx;exact ⟨.int k (QdJ k n),Q81 ho hx.int_inv (by rfl),.d _ _ (.int _ _)⟩
 ·cases h
theorem RF (op:BinOp) (t:TypeId) (x y:Operand) (k k':IntKind) (a b:Int) (w:World):(eqGuard op t x y (.int k a) (.int k' b)).run P w = .ok () w:=by
 simp [eqGuard]
theorem R9 (op:BinOp) (t:TypeId) (x y:Operand) (a b:Bool) (w:World):(eqGuard op t x y (.bool a) (.bool b)).run P w = .ok () w:=by
 simp [eqGuard]
theorem Ev {o:Oper} {op:BinOp} {t t':TypeId} {x y:Operand} (ho:o.op = .binOp op t x y t') {a:Act} {w:World} {u u' v:Value} (hx:a.eval x=u) (hy:a.eval y=u')
  (hg:(eqGuard op t x y u u').run P w = .ok () w) (h:(binOp op t u u').run P w = .ok v w) :
  (execOp a.eval o).run P w = .ok (.value v) w:=by
 simp_all [execOp]
theorem Rm (d:Nat) {t:TypeId} (hu:P.underlying t=some .bool) (a b:Bool) (w:World):(Op.equalIn (d+1) t (.bool a) (.bool b)).run P w = .ok (a == b) w:=by
 simp_all [Op.equalIn,QhU,QO,QhQ]
theorem Q2n {t:TypeId} (hu:P.underlying t=some .bool) (a b:Bool) (w:World):(binOp .eql t (.bool a) (.bool b)).run P w = .ok (.bool (a == b)) w:=by
 simp_all [binOp,Op.equal,Op.maxDepth,QhU,Rm,QhQ]
theorem Q3D {t:TypeId} (hu:P.underlying t=some .bool) (a b:Bool) (w:World):(binOp .neq t (.bool a) (.bool b)).run P w = .ok (.bool (!(a == b))) w:=by
 simp_all [binOp,Op.equal,Op.maxDepth,QhU,Rm,QhQ]
theorem RdA.gd_inv {β:Nat->Option Nat} {S:Nat->Prop} {h:Nat->Option Ob} {w:World} {tm:Nat->Value} {v:Value} {t:Nat} {b:Bool} {av:AV} (hv:RdA β S h w tm v (.gd t b av)) :
  (tm t = .bool b/\RdA β S h w tm v av)\/(tm t≠.bool b/\v=undef):=by
 cases hv with
 |gdT _ _ _ _ ht hv=>simp_all
 |gdF _ _ _ ht=>simp_all
 |dang _ _ l hl _ _=>trivial
def dv:D->Value
 |.int k n=>.int k n
 |.bool b=>.bool b
 |_=>undef
theorem Q70 {op:BinOp} {k:IntKind} {a b:Int} {d:D} (h:Q5I op k a b=some d) (t:TypeId) (w:World) (S:Nat->Prop):∃ v,(binOp op t (.int k a) (.int k b)).run P w = .ok v w/\Rd S w v d:=by
 refine ⟨dv d,?_,?_⟩
 ·cases op <;> simp only [Q5I,Option.some.injEq,reduceCtorEq] at h <;> subst h <;> simp [binOp,Op.intArith,Op.intCmp,dv]
 ·cases op <;> simp only [Q5I,Option.some.injEq,reduceCtorEq] at h <;> subst h <;> first | exact .int _ _ | exact .bool _
theorem Xt {tt:TT} {t:Nat} {kd:Kd} (h:TJ tt t=kd) (hn:kd≠.other):∃ ti,look tt t=some ti/\ti.kd=kd:=by
 grind [TJ,absurd]
theorem CB (op:BinOp) (t:TypeId) (x y:Operand) (a b:ByteArray) (w:World):(eqGuard op t x y (.string a) (.string b)).run P w = .ok () w:=by
 simp [eqGuard]
theorem Q65:∀ (l:List Bool),Q9G l=l.all id
 |[]=>rfl
 |[b]=>by simp [Q9G]
 |b::c::r=>by rw [show Q9G (b::c::r)=(b&&Q9G (c::r)) from rfl,Q65 (c::r)];simp
theorem CU {g:Bool}:∀ {ks:List Kd} {xs ys:List AV} {k:List Bool->Option R} {r:R},Q3I g ks xs ys k=some r->∃ bs,k bs=some r/\bs.length=ks.length/\xs.length=ks.length/\ys.length=ks.length /\
  (g=true->∀ (β:Nat->Option Nat) (S:Nat->Prop) (h:Nat->Option Ob) (w:World) (tm:Nat->Value) (us vs:Nat->Value),(∀ (i:Nat) (x:AV),xs[i]? = some x->RdA β S h w tm (us i) x)->(∀ (i:Nat) (x:AV),ys[i]? = some x->RdA β S h w tm (vs i) x) ->
   ∀ (j:Nat) (kd:Kd) (b:Bool),ks[j]? = some kd->bs[j]? = some b->CEq kd (us j) (vs j) b)
 |[],[],[],k,r,h=>⟨[],h,rfl,rfl,rfl,fun _ _ _ _ _ _ _ _ _ _ j kd b hj=>by simp at hj⟩
 |kd::ks,x::xs,y::ys,k,r,h=>by
  cases x with
  |d a=>
   cases y with
   |d b=>
    have aq:∀ (c:Bool),Q3I g ks xs ys (fun r=>k (c::r))=some r->(g=true->∀ (β:Nat->Option Nat) (S:Nat->Prop) (h:Nat->Option Ob) (w:World) (tm:Nat->Value) (u v:Value),RdA β S h w tm u (.d a)->RdA β S h w tm v (.d b)->CEq kd u v c) ->
      ∃ bs,k bs=some r/\bs.length=(kd::ks).length/\(AV.d a::xs).length=(kd::ks).length/\(AV.d b::ys).length=(kd::ks).length /\
      (g=true->∀ (β:Nat->Option Nat) (S:Nat->Prop) (h:Nat->Option Ob) (w:World) (tm:Nat->Value) (us vs:Nat->Value),(∀ (i:Nat) (x:AV),(AV.d a::xs)[i]? = some x->RdA β S h w tm (us i) x)->(∀ (i:Nat) (x:AV),(AV.d b::ys)[i]? = some x->RdA β S h w tm (vs i) x) ->
       ∀ (j:Nat) (ao:Kd) (b:Bool),(kd::ks)[j]? = some ao->bs[j]? = some b->CEq ao (us j) (vs j) b):=by
     intro c hc hq;obtain ⟨bs,h1,h2,h3,h4,h5⟩:=CU hc;refine ⟨c::bs,h1,by simp [h2],by simp [h3],by simp [h4],fun hg β S hh w tm us vs hu hv j ao b' hj hb=>?_⟩;cases j with
     |zero=>simp at hj hb;subst hj hb;exact hq hg β S hh w tm _ _ (hu 0 _ rfl) (hv 0 _ rfl)
     |succ j=>exact h5 hg β S hh w tm (fun i=>us (i+1)) (fun i=>vs (i+1)) (fun i x hx=>hu (i+1) x (by simp_all)) (fun i x hx=>hv (i+1) x (by simpa using hx)) j ao b' (by simpa using hj) (by simpa using hb)
    cases kd with
    |int ik=>
     simp only [Q3I] at h;obtain ⟨m,h,hm⟩:=QM h;obtain ⟨n,h,hn⟩:=QM h;refine aq _ h fun hg β S hh w tm u v hu hv=>?_
     rw [LY (hm hg)] at hu;rw [LY (hn hg)] at hv;exact ⟨m,n,hu.int_inv,hv.int_inv,rfl⟩
    |bool=>
     simp only [Q3I] at h;obtain ⟨m,h,hm⟩:=QM h;obtain ⟨n,h,hn⟩:=QM h;refine aq _ h fun hg β S hh w tm u v hu hv=>?_
     rw [NV (hm hg)] at hu;rw [NV (hn hg)] at hv;exact ⟨m,n,hu.bool_inv,hv.bool_inv,rfl⟩
    |str=>
     simp only [Q3I] at h;obtain ⟨m,h,hm⟩:=QM h;obtain ⟨n,h,hn⟩:=QM h;refine aq _ h fun hg β S hh w tm u v hu hv=>?_
     rw [LH (hm hg)] at hu;rw [LH (hn hg)] at hv;obtain ⟨s,rfl,rfl⟩:=hu.str_inv;obtain ⟨t,rfl,rfl⟩:=hv.str_inv;exact ⟨s,t,rfl,rfl,rfl⟩
    |_=>simp [Q3I] at h
   |_=>simp [Q3I] at h
  |_=>simp [Q3I] at h
 |[],[],_::_,k,r,h=>by simp [Q3I] at h
 |[],_::_,_,k,r,h=>by simp [Q3I] at h
 |_::_,[],_,k,r,h=>by simp [Q3I] at h
 |_::_,_::_,[],k,r,h=>by simp [Q3I] at h
theorem Q9B {o:Oper} {op:BinOp} {t t':TypeId} {x y:Operand} (ho:o.op = .binOp op t x y t') {g:Bool} {ev:Operand->AV} {hl:Nat->Option Ob} {k:Dl->Option R} {r:R} {a0 b0:List UInt8} (au:ev x = .d (.str a0)) (ao:ev y = .d (.str b0))
  (h:Qg2 g op a0 b0 (fun v=>k ⟨v,[],[]⟩)=some r):∃ dl,k dl=some r/\(g=true->GO P E o ev hl dl):=by
 have ar:x∈o.op.operands.toList:=by grind [Op.operands]
 have aq:y∈o.op.operands.toList:=by simp [ho,Op.operands]
 have ac:∀ (d:D) (v:ByteArray->ByteArray->Value),k ⟨.d d,[],[]⟩=some r->(g=true->∀ (s u:ByteArray) (w:World) (S:Nat->Prop),s.data.toList=a0->u.data.toList=b0->(Op.stringOp op s u).run P w = .ok (v s u) w/\Rd S w (v s u) d)->∃ dl,k dl=some r/\(g=true->GO P E o ev hl dl):=by
  intro d v hk hr;refine ⟨_,hk,fun hg=>Ql fun β S st a w hR hO hA=>?_⟩;obtain ⟨s,hs,hx⟩:=(au▸hO.at ar).str_inv;obtain ⟨u,hu,hy⟩:=(ao▸hO.at aq).str_inv;obtain ⟨h1,h2⟩:=hr hg s u w S hs.symm hu.symm;refine ⟨_,Ev ho hx hy (CB ..) ?_,.d _ _ h2⟩
  grind [binOp,Op.stringOp]
 cases op <;> simp only [Qg2,reduceCtorEq] at h
 ·obtain ⟨_,h,hp⟩:=QM h;refine ac _ (fun s u=>.string (s++u)) h fun hg s u w S hs hu=>⟨?_,?_⟩
  ·have hp:=hp hg;unfold Q8r at hp;cases hb:Nat.ble (a0.length+b0.length) 9223372036854775807 with
   |false=>simp_all
   |true=>
    have:=Qi2 hb;refine run_string_add_sum w s u ?_;rw [<- hs,<- hu,Qi4,Qi4] at this;exact this
  ·have:(s++u).data.toList=a0++b0:=by simp_all
   rw [<- this];exact .str _
 ·exact ac _ (fun s u=>.bool (s.toList == u.toList)) h fun hg s u w S hs hu=>⟨by rfl,by rw [QhY,QhY,hs,hu];exact .bool _⟩
 ·exact ac _ (fun s u=>.bool (!(s.toList == u.toList))) h fun hg s u w S hs hu=>⟨by simp [Op.stringOp],by rw [QhY,QhY,hs,hu];exact .bool _⟩
 ·exact ac _ (fun s u=>.bool (Op.bytesLess s.toList u.toList)) h fun hg s u w S hs hu=>⟨by simp [Op.stringOp],by rw [QhY,QhY,hs,hu];exact .bool _⟩
 ·exact ac _ (fun s u=>.bool (Op.bytesLess s.toList u.toList||s.toList == u.toList)) h fun hg s u w S hs hu=>⟨by simp [Op.stringOp],by rw [QhY,QhY,hs,hu];exact .bool _⟩
 ·exact ac _ (fun s u=>.bool (!(Op.bytesLess s.toList u.toList||s.toList == u.toList))) h fun hg s u w S hs hu=>⟨by simp [Op.stringOp],by rw [QhY,QhY,hs,hu];exact .bool _⟩
 ·exact ac _ (fun s u=>.bool (!Op.bytesLess s.toList u.toList)) h fun hg s u w S hs hu=>⟨by simp [Op.stringOp],by rw [QhY,QhY,hs,hu];exact .bool _⟩
theorem Qa1 {tt:TT} (hT:TOk P tt) {o:Oper} {op:BinOp} {t t':TypeId} {x y:Operand} (ho:o.op = .binOp op t x y t') {g:Bool} {ev:Operand->AV} {hl:Nat->Option Ob} {k:Dl->Option R} {r:R}
  (h:Qgy g op (TJ tt t) (Qc9 tt t) (ev x) (ev y) (fun v=>k ⟨v,[],[]⟩)=some r):∃ dl,k dl=some r/\(g=true->GO P E o ev hl dl):=by
 have au:x∈o.op.operands.toList:=by grind [Op.operands]
 have ar:y∈o.op.operands.toList:=by simp [ho,Op.operands]
 unfold Qgy at h;split at h
 ·rename_i ka a0 kb b0 aj ac;have an:∀ (d:Int),k ⟨.d (.int ka d),[],[]⟩=some r->(g=true->∀ w:World,(binOp op t (.int ka a0) (.int kb b0)).run P w = .ok (.int ka d) w)->∃ dl,k dl=some r/\(g=true->GO P E o ev hl dl):=by
   intro d hk hr;refine ⟨_,hk,fun hg=>Ql fun β S st a w hR hO hA=>?_⟩;have hx:=(aj▸hO.at au).int_inv;have hy:=(ac▸hO.at ar).int_inv;exact ⟨_,Ev ho hx hy (RF ..) (hr hg w),.d _ _ (.int _ _)⟩
  have a8:∀ {u:Unit},B6 b0=some u->0<=b0:=by
   grind [B6]
  split at h
  ·obtain ⟨_,h,hp⟩:=QM h;refine an _ h fun hg w=>?_
   have h0:=a8 (hp hg);have:¬ b0<0:=by omega
   simp [binOp,Op.shift,this,shL]
  ·obtain ⟨_,h,hp⟩:=QM h;refine an _ h fun hg w=>?_
   have h0:=a8 (hp hg);have:¬ b0<0:=by omega
   simp [binOp,Op.shift,this,shR]
  ·rename_i bq bl;cases hk:(ka == kb) with
   |false=>simp [hk] at h
   |true=>
    obtain rfl:ka=kb:=by simpa using hk
    simp only [hk,QhV] at h;split at h
    ·obtain ⟨_,h,hp⟩:=QM h;refine an _ h fun hg w=>?_
     have a3:¬ b0=0:=by
      intro e;subst e;simp [nz] at hp;exact absurd hp (by simp [hg])
     simp [binOp,Op.intDiv,a3]
    ·obtain ⟨_,h,hp⟩:=QM h;refine an _ h fun hg w=>?_
     have a3:¬ b0=0:=by
      intro e;subst e;simp [nz] at hp;exact absurd hp (by simp [hg])
     simp [binOp,Op.intDiv,a3]
    ·exact an _ h fun hg w=>by simp [binOp,Op.intBits,Q5Q]
    ·exact an _ h fun hg w=>by simp [binOp,Op.intBits,bOr]
    ·exact an _ h fun hg w=>by simp [binOp,Op.intBits,QfO]
    ·exact an _ h fun hg w=>by simp [binOp,Op.intBits,Q7j]
    ·split at h
     ·rename_i d hd;refine ⟨_,h,fun hg=>Ql fun β S st a w hR hO hA=>?_⟩;have hx:=(aj▸hO.at au).int_inv;have hy:=(ac▸hO.at ar).int_inv;obtain ⟨v,hv,hr⟩:=Q70 (P:=P) hd t w S;exact ⟨v,Ev ho hx hy (RF ..) hv,.d _ _ hr⟩
     ·cases h
 ·rename_i a0 b0 aj ac;split at h
  ·rename_i a2;obtain ⟨ti,ao,aw⟩:=Xt a2 (by simp);have hu:=(hT t ti ao).kbool aw;refine ⟨_,h,fun hg=>Ql fun β S st a w hR hO hA=>?_⟩;have hx:=(aj▸hO.at au).bool_inv;have hy:=(ac▸hO.at ar).bool_inv;exact ⟨.bool (a0 == b0),Ev ho hx hy (R9 ..) (Q2n hu ..),.d _ _ (.bool _)⟩
  ·rename_i a2;obtain ⟨ti,ao,aw⟩:=Xt a2 (by simp);have hu:=(hT t ti ao).kbool aw;refine ⟨_,h,fun hg=>Ql fun β S st a w hR hO hA=>?_⟩;have hx:=(aj▸hO.at au).bool_inv;have hy:=(ac▸hO.at ar).bool_inv;exact ⟨.bool (!(a0 == b0)),Ev ho hx hy (R9 ..) (Q3D hu ..),.d _ _ (.bool _)⟩
  ·cases h
 ·rename_i a0 b0 aj ac;exact Q9B ho aj ac h
 ·rename_i xs ys aj ac;split at h
  case h_2=>cases h
  rename_i ks az;obtain ⟨ti,ao,bc⟩:∃ ti,look tt t=some ti/\ti.eqk=some ks:=by
   unfold Qc9 at az;split at az
   ·rename_i ti ao;exact ⟨ti,ao,az⟩
   ·cases az
  have hE:=(hT t ti ao).keq ks bc;have key:∀ (c:Bool->Bool) (bs:List Bool),k ⟨.d (.bool (c (Q9G bs))),[],[]⟩=some r->bs.length=ks.length->xs.length=ks.length->ys.length=ks.length ->
    (∀ (u v:Array Value) (w:World) (b:Bool),(Op.equalIn 10000 t (.agg u) (.agg v)).run P w = .ok b w->(binOp op t (.agg u) (.agg v)).run P w = .ok (.bool (c b)) w) ->
    (g=true->∀ (β:Nat->Option Nat) (S:Nat->Prop) (h:Nat->Option Ob) (w:World) (tm:Nat->Value) (us vs:Nat->Value),(∀ (i:Nat) (x:AV),xs[i]? = some x->RdA β S h w tm (us i) x)->(∀ (i:Nat) (x:AV),ys[i]? = some x->RdA β S h w tm (vs i) x) ->
     ∀ (j:Nat) (kd:Kd) (b:Bool),ks[j]? = some kd->bs[j]? = some b->CEq kd (us j) (vs j) b)->∃ dl,k dl=some r/\(g=true->GO P E o ev hl dl):=by
   intro c bs hk h2 h3 h4 a7 h5;refine ⟨_,hk,fun hg=>Ql fun β S st a w hR hO hA=>?_⟩;obtain ⟨us,hx,bv,bi⟩:=(aj▸hO.at au).ag_inv;obtain ⟨vs,hy,bo,ba⟩:=(ac▸hO.at ar).ag_inv;obtain ⟨e1,e2⟩:=hE w us vs bs (by omega) (by omega) h2 (h5 hg β S _ w _ (fun j=>us.getD j undef) (fun j=>vs.getD j undef) bi ba);refine ⟨.bool (c (Q9G bs)),Ev ho hx hy (run_eqGuard_agg w op t x y us vs e2) ?_,.d _ _ (.bool _)⟩;rw [Q65];exact a7 us vs w _ e1
  split at h
  ·obtain ⟨bs,h1,h2,h3,h4,h5⟩:=CU h;exact key (fun b=>b) bs h1 h2 h3 h4 (fun u v w b hb=>by rw [run_eql_struct,hb];rfl) h5
  ·obtain ⟨bs,h1,h2,h3,h4,h5⟩:=CU h;exact key (fun b=>!b) bs h1 h2 h3 h4 (fun u v w b hb=>by rw [run_neq_struct,hb];rfl) h5
  ·cases h
 ·cases h
theorem Q3J {tt:TT} (hT:TOk P tt) {o:Oper} {s t:TypeId} {x:Operand} (ho:o.op = .convert s t x) {ev:Operand->AV} {hl:Nat->Option Ob} {ks kd kn:IntKind} {n:Int}
  (hs:TJ tt s = .int ks) (ht:TJ tt t = .int kd) (hx:ev x = .d (.int kn n)):GO P E o ev hl ⟨.d (.int kd (kd.wrap n)),[],[]⟩:=by
 obtain ⟨ti,ao,an⟩:=Xt hs (by simp);obtain ⟨ak,aj,ac⟩:=Xt ht (by simp);have ay:=(hT s ti ao).kint _ an;have ax:=(hT t ak aj).kint _ ac;refine Ql fun β S st a w hR hO hA=>?_
 have hv:=(hx▸hO.at (x:=x) (by simp [ho,Op.operands])).int_inv;refine ⟨_,?_,.d _ _ (.int _ _)⟩
 simp_all [execOp,convert,QO,Conv.intToInt]
theorem Q1r {tt:TT} (hT:TOk P tt) {o:Oper} {s t:TypeId} {x:Operand} (ho:o.op = .convert s t x) {ev:Operand->AV} {hl:Nat->Option Ob} {n:List UInt8}
  (hs:TJ tt s = .str) (ht:TJ tt t = .str) (hx:ev x = .d (.str n)):GO P E o ev hl ⟨.d (.str n),[],[]⟩:=by
 obtain ⟨ti,ao,an⟩:=Xt hs (by simp);obtain ⟨ak,aj,ac⟩:=Xt ht (by simp);have aw:=(hT s ti ao).kstr an;have au:=(hT t ak aj).kstr ac;refine Ql fun β S st a w hR hO hA=>?_
 obtain ⟨bs,hn,hv⟩:=(hx▸hO.at (x:=x) (by simp [ho,Op.operands])).str_inv;refine ⟨.string bs,?_,.d _ _ (by rw [hn];exact .str _)⟩
 simp_all [execOp,convert,QO]
theorem Q2I {o:Oper} {x:Operand} {i:Nat} (ho:o.op = .extract x i) {ev:Operand->AV} {hl:Nat->Option Ob} {l:List AV} {v:AV} (hx:ev x = .tup l) (hv:l[i]? = some v) :
  GO P E o ev hl ⟨v,[],[]⟩:=by
 refine Ql fun β S st a w hR hO hA=>?_
 obtain ⟨cs,he,ak,hr⟩:=(hx▸hO.at (x:=x) (by grind [Op.operands])).tup_inv;refine ⟨_,?_,hr i v hv⟩;have ac:i<cs.size:=by
  grind
 simp_all [Hq,execOp,Instr.extract,QhU]
theorem Q7r {o:Oper} {s:Nat} {x y:Operand} (ho:o.op = .pick (.tmp s) x y) {ev:Operand->AV} {hl:Nat->Option Ob} {e a0 b0:Bool}
  (he:ev (.tmp s) = .d (.bool e)) (hx:unw [(s,true)] (ev x) = .d (.bool a0)) (hy:unw [(s,false)] (ev y) = .d (.bool b0)) :
  GO P E o ev hl ⟨.d (.bool (bif e then a0 else b0)),[],[]⟩:=by
 refine Ql fun β S st a w hR hO hA=>?_
 have hc:=(he▸hO.at (x:=.tmp s) (by grind [Op.operands])).bool_inv;have hX:=hO.at (x:=x) (by simp [ho,Op.operands]);have hY:=hO.at (x:=y) (by simp [ho,Op.operands]);have key:∀ (z:Operand) (t c:Bool),unw [(s,t)] (ev z) = .d (.bool c)->RdA β S (look st.h) w (tmv a) (a.eval z) (ev z)->e=t->a.eval z = .bool c:=by
  intro z t c hu hz aw;cases aj:ev z with
  |gd s' w' av=>
   rw [aj] at hu hz;simp only [unw,QcE,Bool.or_false] at hu;cases hm:(Nat.beq s s'&&(t == w')) with
   |false=>simp_all
   |true=>
    simp only [hm,QhV] at hu;simp only [QhS,beq_iff_eq] at hm;obtain ⟨h1,rfl⟩:=hm;obtain rfl:=QhT h1;subst hu;have az:tmv a s = .bool t:=by
     have:tmv a s=a.eval (.tmp s):=rfl
     simp_all
    rcases hz.gd_inv with ⟨_,hv⟩ | ⟨ao,_⟩
    ·exact hv.bool_inv
    simp_all
  |d x'=>rw [aj] at hu hz;simp only [unw] at hu;rw [hu] at hz;exact hz.bool_inv
  |_=>rw [aj] at hu;simp [unw] at hu
 refine ⟨.bool (bif e then a0 else b0),?_,.d _ _ (.bool _)⟩;unfold execOp;rw [ho];cases e with
 |true=>simp [hc,asBool,key x true a0 hx hX rfl]
 |false=>simp [hc,asBool,key y false b0 hy hY rfl]
theorem Q7E {kd:Kd} (h:SK kd=true):kd = .struct:=by cases kd <;> simp [SK] at h;rfl
theorem Q5d {tt:TT} (hT:TOk P tt) {t f off ft:Nat} {ti:TyI} (aj:look tt t=some ti) (hs:SK ti.kd=true) (hf:ti.fields[f]? = some (off,ft)) :
  ∃ fs fd,P.underlying t=some (.struct fs)/\fs[f]? = some fd/\fd.offset=off/\fd.type=ft/\∃ i,P.info? fd.type=some i/\i.size≠0:=by
 obtain ⟨fs,hu,ak,ao⟩:=(hT t ti aj).kstruct (Q7E hs);rw [<- ak,Qi1,QhW] at hf;obtain ⟨fd,an,he⟩:=hf;injection he with he1 he2
 exact ⟨fs,fd,hu,by simp_all,he1,he2,ao fd (QhZ an)⟩
theorem Ab {tt:TT} (hT:TOk P tt) {o:Oper} {t:TypeId} {x:Operand} {f:Nat} (ho:o.op = .fieldAddr t x f) {ev:Operand->AV} {hl:Nat->Option Ob} {k:Dl->Option R} {r:R}
  (h:EG tt hl t f (ev x) k=some r):∃ dl,k dl=some r/\GO P E o ev hl dl:=by
 have ak:x∈o.op.operands.toList:=by grind [Op.operands]
 unfold EG at h;split at h
 case h_2=>cases h
 rename_i ti ar;cases hs:SK ti.kd with
 |false=>simp_all
 |true=>
  simp only [hs,QhV] at h;split at h
  case h_2=>cases h
  rename_i off ft hf;obtain ⟨fs,fd,hu,a2,au,_,i,hi,aw⟩:=Q5d hT ar hs hf;have aj:∀ (a:Act) (w:World) (ad:Addr),a.eval x = .pointer (some ad)->(execOp a.eval o).run P w = .ok (.value (.pointer (some (ad.add off)))) w:=by
   simp_all [execOp,Instr.fieldAt,QO,Instr.sureAddr,fieldPlace,sizeOf,Yl]
  split at h
  ·rename_i l o' ac;refine ⟨_,h,Ql fun β S st a w hR hO hA=>?_⟩;obtain ⟨b,hb,hx⟩:=(ac▸hO.at ak).ptr_inv;exact ⟨_,aj a w _ hx,by rw [H3];exact .ptr _ _ _ hb⟩
  ·rename_i row o' ac;refine ⟨_,h,Ql fun β S st a w hR hO hA=>?_⟩;obtain ⟨ad,c,hx,hS,hc,hr⟩:=(ac▸hO.at ak).el_inv;refine ⟨_,aj a w _ hx,.el _ _ _ (fun j=>c (off+j)) (by rw [Jt];exact hS) (fun j y hy=>?_) (fun j y hy=>?_)⟩
   all_goals grind [CA,Nat.add_assoc]
  ·rename_i l i' o' ac;split at h
   ·rename_i e s rows ao;refine ⟨_,h,Ql fun β S st a w hR hO hA=>?_⟩;have aq:look st.h l=some (.arr e s rows):=by rw [hA l (.inl (by simp))];exact ao
    obtain ⟨b,hb,hx⟩:=RdA.ap_inv aq (ac▸hO.at ak);exact ⟨_,aj a w _ hx,by rw [H3,Qil];exact .ap _ _ _ _ _ _ _ hb aq⟩
   ·cases h
  ·cases h
theorem Q1V {t:Nat} {ti:TyI} (ht:TyOk P t ti) (hs:V8 ti.kd=false) {w:World} {cs:Array Value} {off:Nat} {v:Value} (hc:cs[off]? = some v) :
  (part t cs off).run P w = .ok v w:=by
 simp only [part,QhU,ht.agg,hs,QhQ,Bool.false_eq_true,if_false,hc];rfl
theorem Q1Y {t:Nat} {ti:TyI} (ht:TyOk P t ti) (hs:V8 ti.kd=true) {w:World} {cs:Array Value} {off:Nat} :
  (part t cs off).run P w = .ok (.agg (cs.extract off (off+ti.size))) w:=by
 simp only [part,QhU,ht.agg,hs,QhQ,if_true,ht.size];rfl
theorem Q6R {tt:TT} (hT:TOk P tt) {o:Oper} {t:TypeId} {x:Operand} {f:Nat} (ho:o.op = .field t x f) {g:Bool} {ev:Operand->AV} {hl:Nat->Option Ob} {k:Dl->Option R} {r:R}
  (h:Q99 tt g t f (ev x) k=some r):∃ dl,k dl=some r/\(g=true->GO P E o ev hl dl):=by
 have ao:x∈o.op.operands.toList:=by grind [Op.operands]
 unfold Q99 at h;split at h
 case h_2=>cases h
 rename_i ti a3;cases hs:SK ti.kd with
 |false=>simp_all
 |true=>
  simp only [hs,QhV] at h;split at h
  case h_2=>cases h
  rename_i off ft hf;obtain ⟨fs,fd,hu,bk,bb,bj,i,hi,bc⟩:=Q5d hT a3 hs hf;split at h
  case h_2=>cases h
  rename_i fi a5;have ak:=hT ft fi a5;split at h
  case h_2=>cases h
  rename_i cells ar;have an:∀ (a:Act) (w:World) (cs:Array Value) (v:Value),a.eval x = .agg cs->(part ft cs off).run P w = .ok v w->(execOp a.eval o).run P w = .ok (.value v) w:=by
   simp_all [execOp,Instr.field,QO,asAgg]
  cases aj:V8 fi.kd with
  |true=>
   simp only [aj,QhV] at h;split at h
   ·rename_i cs a4;refine ⟨_,h,fun _=>Ql fun β S st a w hR hO hA=>?_⟩;obtain ⟨vs,hx,az,hr⟩:=(ar▸hO.at ao).ag_inv;obtain ⟨h1,h2,h3⟩:=SZ a4;refine ⟨_,an a w vs _ hx (Q1Y ak aj),?_⟩;have aw:fi.size=0\/off+fi.size<=vs.size:=by
     rcases Nat.eq_zero_or_pos fi.size with h0 | h0
     ·exact .inl h0
     ·right;have h4:=h2 (fi.size-1) (by omega);have h5:cs[fi.size-1]? = some (cs[fi.size-1]'(by omega)):=Qi6 (by omega);rw [h5] at h4;obtain ⟨h6,_⟩:=QhR.1 h4;omega
    refine .ag _ _ (by rw [h1,Array.size_extract];rcases aw with h | h <;> omega) fun j y hy=>?_
    have hj:j<fi.size:=by obtain ⟨h6,_⟩:=QhR.1 hy;omega
    have:=hr (off+j) y ((h2 j hj).trans hy);have he:(vs.extract off (off+fi.size)).getD j undef=vs.getD (off+j) undef:=by
     have aq:off+j<vs.size:=by rcases aw with h | h <;> omega
     have au:j<(vs.extract off (off+fi.size)).size:=by rw [Array.size_extract];omega
     simp only [Array.getD,aq,au,dite_true];simp
    simp_all
   ·cases h
  |false=>
   simp only [aj,cond_false] at h;split at h
   ·rename_i c hc;obtain ⟨v,a2,ax,_⟩:=Cg h;refine ⟨_,a2,fun hg=>Ql fun β S st a w hR hO hA=>?_⟩;obtain ⟨vs,hx,az,hr⟩:=(ar▸hO.at ao).ag_inv;have aq:off<vs.size:=by obtain ⟨h6,_⟩:=QhR.1 hc;omega
    exact ⟨_,an a w vs _ hx (Q1V ak aj (Hq aq)),by rw [ax hg];exact hr off c hc⟩
   ·cases h
end
section
variable {P:Program} {E:Env} {R:Type}
theorem Rd.sl_inv {S:Nat->Prop} {w:World} {v:Value} {s:Nat} {rows:List (List D)} (h:Rd S w v (.sl s rows)) :
  (rows=[]/\∃ a cap,v = .slice a 0 cap)\/∃ (ad:Addr) (cap:Nat) (c:Nat->Nat->Value),v = .slice (some ad) rows.length cap/\S ad.block/\rows.length<=cap/\(∀ (i:Nat) (r:List D),rows[i]? = some r->r.length=s) /\
   (∀ (i j:Nat) (r:List D) (x:D),rows[i]? = some r->r[j]? = some x->w.cell? (ad.add (i*s+j))=some (c i j))/\∀ (i j:Nat) (r:List D) (x:D),rows[i]? = some r->r[j]? = some x->Rd S w (c i j) x:=by
 cases h with
 |sl0 a cap=>simp_all
 |sl ad cap _ _ c hS ac aj hc hr=>exact .inr ⟨ad,cap,c,rfl,hS,ac,aj,hc,hr⟩
theorem Rd.len {S:Nat->Prop} {w:World} {v:Value} {s:Nat} {rows:List (List D)} (h:Rd S w v (.sl s rows)):∃ a cap,v = .slice a rows.length cap:=by
 rcases h.sl_inv with ⟨rfl,a,cap,rfl⟩ | ⟨ad,cap,_,rfl,_⟩
 all_goals simp
theorem FL {rows:List (List D)} {n:Int} {row:List D} (h:Q1 rows n=some row):0<=n/\n<rows.length/\rows[n.toNat]? = some row:=by
 grind [Q1]
theorem Q5L {len:Nat} {n:Int} {u:Unit} (h:inB len n=some u):0<=n/\n<len:=by
 grind [inB,decide]
theorem FF {tt:TT} (hT:TOk P tt) {o:Oper} {t:TypeId} {x i:Operand} (ho:o.op = .indexAddr t x i) {e ac:Nat} (hk:TJ tt t = .sl e ac) {a:Act} {w:World} {ad:Addr} {len cap:Nat} {ik:IntKind} {n:Int}
  (hx:a.eval x = .slice (some ad) len cap) (hi:a.eval i = .int ik n) (h0:0<=n) (h1:n<len) :
  (execOp a.eval o).run P w = .ok (.value (.pointer (some (ad.add (n.toNat*ac))))) w:=by
 obtain ⟨ti,ak,aj⟩:=Xt hk (by simp);obtain ⟨hu,_,inf,an,ar⟩:=(hT t ti ak).ksl _ _ aj
 simp_all [execOp,Instr.indexAt,asIntOf,QO,sizeOf,Yl]
theorem Ae {tt:TT} (hT:TOk P tt) {o:Oper} {t:TypeId} {x i:Operand} (ho:o.op = .indexAddr t x i) {g:Bool} {ev:Operand->AV} {hl:Nat->Option Ob} {k:Dl->Option R} {r:R}
  (h:Eo tt g hl t (ev x) (ev i) k=some r):∃ dl,k dl=some r/\(g=true->GO P E o ev hl dl):=by
 have an:x∈o.op.operands.toList:=by grind [Op.operands]
 have ar:i∈o.op.operands.toList:=by simp [ho,Op.operands]
 unfold Eo at h;split at h
 case h_2=>cases h
 rename_i e ax ik n hk aw;split at h
 ·rename_i s rows aj;cases hb:Nat.beq s ax with
  |false=>simp_all
  |true=>
   obtain rfl:=QhT hb;simp only [hb,QhV] at h;obtain ⟨row,h,ac⟩:=QM h;refine ⟨_,h,fun hg=>Ql fun β S st a w hR hO hA=>?_⟩;obtain ⟨h0,h1,h2⟩:=FL (ac hg);have hi:=(aw▸hO.at ar).int_inv;rcases (aj▸hO.at an).d_inv.sl_inv with ⟨rfl,_⟩ | ⟨ad,cap,c,hx,hS,_,a3,hc,hr⟩
   ·simp at h2
   refine ⟨_,FF hT ho hk hx hi h0 h1,.el _ _ _ (fun j=>c n.toNat j) (by grind [Jt]) (fun j y hy=>?_) (fun j y hy=>?_)⟩
   all_goals grind [CA]
 ·rename_i l aj;split at h
  ·rename_i e' s rows aq;cases hb:Nat.beq s ax with
   |false=>simp [hb] at h
   |true=>
    obtain rfl:=QhT hb;simp only [hb,QhV] at h;obtain ⟨u,h,ay⟩:=QM h;refine ⟨_,h,fun hg=>Ql fun β S st a w hR hO hA=>?_⟩;obtain ⟨h0,h1⟩:=Q5L (ay hg);have hi:=(aw▸hO.at ar).int_inv;have au:look st.h l=some (.arr e' s rows):=by rw [hA l (.inl (by simp))];exact aq
    rcases RdA.arr_inv au (aj▸hO.at an) with ⟨_,rfl,_⟩ | ⟨b,cap,cs,ty,fz,az,hx,_⟩
    ·grind
    refine ⟨_,FF hT ho hk hx hi h0 h1,?_⟩;rw [H3,Nat.zero_add];exact .ap l n.toNat 0 b e' s rows az au
  ·cases h
 ·obtain ⟨row,h,ac⟩:=QM h;refine ⟨_,h,fun hg=>?_⟩;obtain ⟨_,h1,_⟩:=FL (ac hg);simp at h1;have:=(FL (ac hg)).1;omega
 ·cases h
theorem HK {tt:TT} (hT:TOk P tt) {o:Oper} {c:Call} {x:Operand} {t:Nat} {e ak:Nat} (ho:o.op = .call c) (hc:c.callee = .builtin .len) (ha:c.args.toList=[x]) (hat:c.argTypes.toList=[t]) (hk:TJ tt t = .sl e ak)
  {a:Act} {w:World} {ad:Option Addr} {len cap:Nat} (hx:a.eval x = .slice ad len cap):(execOp a.eval o).run P w = .ok (.value (.int .i64 len)) w:=by
 obtain ⟨ti,aj,ac⟩:=Xt hk (by simp);obtain ⟨hu,_⟩:=(hT t ti aj).ksl _ _ ac;have ar:c.args = #[x]:=by grind
 have an:c.argTypes = #[t]:=by rw [<- Array.toList_inj];simpa using hat
 simp_all [execOp,resolve,invoke,builtin,Builtin.len_,QO,goInt]
theorem Q4i {tt:TT} (hT:TOk P tt) {o:Oper} {c:Call} {x:Operand} {t:Nat} (ho:o.op = .call c) (hc:c.callee = .builtin .len) (ha:c.args.toList=[x]) (hat:c.argTypes.toList=[t]) (hk:TJ tt t = .str)
  {a:Act} {w:World} {s:ByteArray} (hx:a.eval x = .string s):(execOp a.eval o).run P w = .ok (.value (.int .i64 s.size)) w:=by
 obtain ⟨ti,aj,ac⟩:=Xt hk (by simp);have hu:=(hT t ti aj).kstr ac;have an:c.args = #[x]:=by grind
 have ak:c.argTypes = #[t]:=by grind
 simp_all [execOp,resolve,invoke,builtin,Builtin.len_,QO,goInt]
theorem Q4t {tt:TT} (hT:TOk P tt) {o:Oper} {c:Call} {x:Operand} {t:Nat} {e ak:Nat} (ho:o.op = .call c) (hc:c.callee = .builtin .cap) (ha:c.args.toList=[x]) (hat:c.argTypes.toList=[t]) (hk:TJ tt t = .sl e ak)
  {a:Act} {w:World} (hx:a.eval x = .slice none 0 0):(execOp a.eval o).run P w = .ok (.value (.int .i64 0)) w:=by
 obtain ⟨ti,aj,ac⟩:=Xt hk (by simp);obtain ⟨hu,_⟩:=(hT t ti aj).ksl _ _ ac;have ao:c.args = #[x]:=by grind
 have an:c.argTypes = #[t]:=by grind
 simp_all [execOp,resolve,invoke,builtin,Builtin.cap_,QO,goInt]
end
section
variable {E:Env} {β β':Nat->Option Nat} {S S':Nat->Prop} {st:St} {a:Act} {w w':World}
theorem Q80 {l t:Nat} {tm:List (Nat × AV)} {av:AV} (h:look tm t=some av) (hn:WQ l av=true):Bu l tm=true:=by
 induction tm with
 |nil=>trivial
 |cons x r ih=>
  grind [look,Nat.beq,Bu]
theorem Q7o {l t:Nat} {hs:List (Nat × Ob)} {cells:List AV} (h:look hs t=some (.box cells)) (hn:Gu l cells=true):Jg l hs=true:=by
 induction hs with
 |nil=>trivial
 |cons x r ih=>
  obtain ⟨k,b⟩:=x;simp only [look] at h;cases hk:Nat.beq k t with
  |true=>grind [Jg]
  |false=>simp [hk] at h;cases b <;> simp [Jg,ih h]
theorem Q5V {l t:Nat} {av:AV} (hc:Ur st l=true) (h:look st.tm t=some av):WQ l av=false:=by
 grind [WQ,Ur,Q80]
theorem Q8P {l t i:Nat} {cells:List AV} {x:AV} (hc:Ur st l=true) (h:look st.h t=some (.box cells)) (hx:cells[i]? = some x):WQ l x=false:=by
 grind [WQ,Ur,Q7o,Nd]
theorem Keep.rfl_ (β:Nat->Option Nat) (h:Nat->Option Ob) (w:World) (l:Nat):Keep β h w β h w l:=
 ⟨rfl,fun x=>x,fun _ _ rows hh=>.inr ⟨rows,hh,rfl⟩,fun _ cs ty fz _ _ hw=>⟨cs,ty,fz,hw,rfl⟩,fun _ f hh=>.inr ⟨f,hh⟩⟩
theorem Rel.upd (hR:Rel E β S st a w) {H':List (Nat × Ob)} (ak:∀ b,S b->S' b) (ao:∀ b,S b->w'.heap[b]? = w.heap[b]?) (T:Nat->Prop)
  (hT:∀ l,¬ T l->β' l=β l/\look H' l=look st.h l/\∀ b,(look st.h l).isSome=true->β l=some b->w'.heap[b]? = w.heap[b]?)
  (ax:∀ l,T l->Keep β (look st.h) w β' (look H') w' l\/Ur st l=true)
  (a5:∀ l o,T l->look H' l=some o->ObR β' S' (look H') w' l o)
  (inj:∀ l l' b,(look H' l).isSome=true->(look H' l').isSome=true->β' l=some b->β' l'=some b->l=l')
  (apart:∀ l b,(look H' l).isSome=true->β' l=some b->¬ S' b)
  (own:∀ l b,(look H' l).isSome=true->β' l=some b->E.M b\/E.w0.heap.size<=b)
  (sb:∀ b,S' b->b<w'.heap.size) (sfr:∀ b,S' b->E.S0 b\/E.M b\/E.w0.heap.size<=b) (fr:Fr E.M E.w0 w') :
  Rel E β' S' ⟨st.n,st.tm,H'⟩ a w':=by
 have ac:∀ l,Keep β (look st.h) w β' (look H') w' l\/Ur st l=true:=by
  intro l;by_cases hl:T l
  ·exact ax l hl
  ·obtain ⟨h1,h2,h3⟩:=hT l hl;exact .inl ⟨h1,fun h=>by rw [h2];exact h,fun e s rows h=>.inr ⟨rows,by rw [h2];exact h,rfl⟩,fun b cs ty fz hs hb hw=>⟨cs,ty,fz,by rw [h3 b (by rw [<- h2];exact hs) hb];exact hw,rfl⟩,fun _ f h=>.inr ⟨f,by rw [h2];exact h⟩⟩
 have hA:∀ (tm:Nat->Value) (v:Value) (av:AV),(∀ l,Ur st l=true->WQ l av=false)->RdA β S (look st.h) w tm v av->RdA β' S' (look H') w' tm v av:=by
  intro tm v av hc hv;refine hv.mono ak ao (fun l hn=>?_) (fun _ _=>rfl);rcases ac l with h | h
  ·exact h
  ·rw [hc l h] at hn;cases hn
 refine ⟨hR.n,hR.dfr,fun t av ht=>hA _ _ _ (fun l hc=>Q5V hc ht) (hR.tm t av ht),⟨?_,inj,apart,own,sb,sfr,fun b hb=>ak b (hR.hr.s0 b hb),fr,fun l hp=>?_,fun l b hp hs hb cs ty fz hw=>?_⟩⟩
 rotate_left
 ·refine Eq.trans ?_ (hR.hr.pin l hp);rcases ac l with h | h
  ·exact h.b
  ·simp only [Ur,QhS] at h;have:=Qi2 h.1;omega
 ·rcases ac l with h | h
  ·have aw:(look st.h l).isSome=true:=by
    cases hx:look st.h l with
    |some o=>rfl
    |none=>rw [h.none_ hx] at hs;cases hs
   rw [h.b] at hb;obtain ⟨az,a2,fz1,g1,g2⟩:=hR.hr.psz l b hp aw hb cs ty fz hw;obtain ⟨ar,a4,a6,g3,g4⟩:=h.cells b az a2 fz1 hs hb g1;exact ⟨ar,a4,a6,g3,g4.trans g2⟩
  ·simp only [Ur,QhS] at h;have:=Qi2 h.1;omega
 intro l o ho;by_cases hl:T l
 ·exact a5 l o hl ho
 ·obtain ⟨h1,h2,h3⟩:=hT l hl;rw [h2] at ho;have aj:=hR.hr.ob l o ho;cases o with
  |box cells=>
   obtain ⟨b,ty,cs,fz,hb,hw,hf,an,hr⟩:=aj;exact ⟨b,ty,cs,fz,h1.trans hb,(h3 b (by simp [ho]) hb).trans hw,hf,an,fun i x hx=>hA _ _ _ (fun l' hc=>Q8P hc ho hx) (hr i x hx)⟩
  |arr e s rows=>
   rcases aj with ⟨hb,hn⟩ | ⟨b,cs,hb,hw,an,ay,hr⟩
   ·exact .inl ⟨h1.trans hb,hn⟩
   ·refine .inr ⟨b,cs,h1.trans hb,(h3 b (by simp [ho]) hb).trans hw,an,ay,fun i j r x h4 h5=>?_⟩;obtain ⟨v,hv,au⟩:=hr i j r x h4 h5;exact ⟨v,hv,au.mono ak ao⟩
  |mp t f=>
   obtain ⟨b,hb,hm⟩:=aj;exact ⟨b,h1.trans hb,hm.same (h3 b (by simp [ho]) hb)⟩
theorem Rt (hR:Rel E β S st a w) {l b:Nat} (hs:(look st.h l).isSome=true) (hb:β l=some b):b<w.heap.size:=by
 cases ho:look st.h l with
 |none=>simp_all
 |some o=>
  have ac:=hR.hr.ob l o ho;have:∃ c,w.heap[b]? = some c:=by
   cases o with
   |box cells=>
    obtain ⟨b',ty,cs,fz,aj,hw,_⟩:=ac
    simp_all
   |arr e s rows=>
    rcases ac with ⟨aj,_⟩ | ⟨b',cs,aj,hw,_⟩
    all_goals grind
   |mp t f=>
    obtain ⟨b',aj,es,ak,hw,_⟩:=ac
    simp_all
  grind
theorem Zg (w:World) (o:Obj) {b:Nat} (h:b<w.heap.size):(w.alloc o).heap[b]? = w.heap[b]?:=by
 show (w.heap.push o)[b]? = _
 grind
theorem VY (w:World) (o:Obj):(w.alloc o).heap[w.heap.size]? = some o:=by
 show (w.heap.push o)[w.heap.size]? = _;simp
theorem Q6j {M:Nat->Prop} {w0 w:World} (h:Fr M w0 w) (o:Obj):Fr M w0 (w.alloc o):=
 h.trans ⟨rfl,rfl,rfl,by show w.heap.size<=(w.heap.push o).size;simp,fun b hb _=>Zg w o hb⟩
def SS (β:Nat->Option Nat) (l:Nat) (b:Option Nat):Nat->Option Nat:=fun k=>if k=l then b else β k
theorem Rel.new (hR:Rel E β S st a w) {l:Nat} {o:Ob} {ac:Obj} (hn:look st.h l=none) (hc:Ur st l=true)
  (an:ObR (SS β l (some w.heap.size)) S (look ((l,o)::rem l st.h)) (w.alloc ac) l o) :
  Rel E (SS β l (some w.heap.size)) S ⟨st.n,st.tm,(l,o)::rem l st.h⟩ a (w.alloc ac):=by
 have ak:∀ k,look ((l,o)::rem l st.h) k=if k=l then some o else look st.h k:=fun k=>WJ l k o st.h
 refine hR.upd (fun _ h=>h) (fun b hb=>Zg w ac (hR.hr.sb b hb)) (fun k=>k=l) (fun k hk=>?_) (fun k hk=>.inr (hk▸hc)) (fun k o' hk ho=>?_) ?_ ?_ ?_ ?_ hR.hr.sfr (Q6j hR.hr.fr ac)
 ·grind [SS,Zg,Rt]
 ·simp_all
 ·intro k k' b h1 h2 h3 h4;rw [ak] at h1 h2;unfold SS at h3 h4;by_cases e:k=l <;> by_cases e':k'=l
  ·rw [e,e']
  ·rw [Qi7 e] at h3;rw [Qi3 e'] at h4 h2;injection h3 with h3
   have:=Rt hR h2 h4;omega
  ·rw [Qi7 e'] at h4;rw [Qi3 e] at h3 h1;injection h4 with h4
   have:=Rt hR h1 h3;omega
  ·rw [Qi3 e] at h3 h1;rw [Qi3 e'] at h4 h2;exact hR.hr.inj k k' b h1 h2 h3 h4
 ·intro k b h1 h2 hS;rw [ak] at h1;unfold SS at h2;by_cases e:k=l
  ·rw [Qi7 e] at h2;injection h2 with h2
   have:=hR.hr.sb b hS;omega
  ·rw [Qi3 e] at h2 h1;exact hR.hr.apart k b h1 h2 hS
 ·intro k b h1 h2;rw [ak] at h1;unfold SS at h2;by_cases e:k=l
  ·rw [Qi7 e] at h2;injection h2 with h2
   right;have:=hR.hr.fr.size;omega
  ·rw [Qi3 e] at h2 h1;exact hR.hr.own k b h1 h2
 ·intro b hb;have:=hR.hr.sb b hb;simp;omega
theorem Rel.set (hR:Rel E β S st a w) {l b:Nat} {o o':Ob} (ho:look st.h l=some o) (hb:β l=some b)
  (aj:∀ k,k≠b->w'.heap[k]? = w.heap[k]?) (aw:w'.os=w.os) (an:w'.tape=w.tape) (ar:w'.output=w.output) (aq:w'.heap.size=w.heap.size)
  (hk:Keep β (look st.h) w β (look ((l,o')::rem l st.h)) w' l) (a4:ObR β S (look ((l,o')::rem l st.h)) w' l o') :
  Rel E β S ⟨st.n,st.tm,(l,o')::rem l st.h⟩ a w':=by
 have a3:∀ k,look ((l,o')::rem l st.h) k=if k=l then some o' else look st.h k:=fun k=>WJ l k o' st.h
 have ao:(look st.h l).isSome=true:=by simp [ho]
 have ac:∀ k,(look ((l,o')::rem l st.h) k).isSome=true->(look st.h k).isSome=true:=by
  grind
 refine hR.upd (fun _ h=>h) (fun k hS=>aj k (fun e=>?_)) (fun k=>k=l) (fun k hk=>?_) (fun k ak=>.inl (ak▸hk)) (fun k a2 ak ax=>?_) ?_ ?_ ?_ ?_ hR.hr.sfr ?_
 ·subst e;exact hR.hr.apart l _ ao hb hS
 ·refine ⟨rfl,by simp_all,fun k' hs au=>aj k' (fun e=>?_)⟩;subst e;exact hk (hR.hr.inj k l _ hs ao au hb)
 ·simp_all
 ·exact fun k k' b' h1 h2 h3 h4=>hR.hr.inj k k' b' (ac k h1) (ac k' h2) h3 h4
 ·exact fun k b' h1 h2=>hR.hr.apart k b' (ac k h1) h2
 ·exact fun k b' h1 h2=>hR.hr.own k b' (ac k h1) h2
 ·intro k hS;rw [aq];exact hR.hr.sb k hS
 ·have fr:=hR.hr.fr;refine ⟨aw.trans fr.os,an.trans fr.tape,ar.trans fr.output,by rw [aq];exact fr.size,fun k ak hM=>(aj k (fun e=>?_)).trans (fr.block k ak hM)⟩;rcases hR.hr.own l _ ao hb with h | h
  all_goals grind
end
section
variable {P:Program} {E:Env} {R:Type}
theorem B9 {β:Nat->Option Nat} {S:Nat->Prop} {h:Nat->Option Ob} {w:World} {tm:Nat->Value} (v:Value):RdA β S h w tm v (Pb v):=by
 unfold Pb;split
 ·exact .d _ _ (.int _ _)
 ·exact .d _ _ (.bool _)
 ·exact .d _ _ (.str _)
 ·exact .nil
 ·exact .top _
theorem Q7T {β:Nat->Option Nat} {S:Nat->Prop} {h:Nat->Option Ob} {w:World} {tm:Nat->Value} {v:Value} {av:AV} (hv:RdA β S h w tm v av) (ho:Q1R av=true):v.oneCell'=true:=by
 cases hv <;> simp [Q1R] at ho <;> try rfl
 ·rename_i hx;cases hx <;> rfl
 ·assumption
theorem D0 {av:AV} (ho:Q1R av=true):AK av=true:=by
 cases av with
 |fn f l=>assumption
 |_=>trivial
theorem Q8v {v:Value} (h:v.oneCell'=true):v.cells = #[v]:=by cases v <;> simp [Value.oneCell'] at h <;> rfl
theorem RdA.to_tm0 {β:Nat->Option Nat} {S:Nat->Prop} {h:Nat->Option Ob} {w:World} {tm:Nat->Value} {v:Value} {av:AV} (hg:AK av=true) (hv:RdA β S h w tm v av):RdA β S h w tm0 v av:=by
 refine RdA.mono hv (fun _ hb=>hb) (fun _ _=>rfl) (fun l _=>Keep.rfl_ ..) (fun t ht=>?_)
 grind [Sm]
theorem NR {β:Nat->Option Nat} {S:Nat->Prop} {h:Nat->Option Ob} {w:World} {tm:Nat->Value} {v:Value} {av:AV} (hv:RdA β S h w tm v av) (ho:(XN av).all Q1R=true) :
  v.cells.size=(XN av).length/\(∀ (i:Nat) (x:AV),(XN av)[i]? = some x->RdA β S h w tm (v.cells.getD i undef) x)/\∀ u∈v.cells.toList,u.oneCell'=true:=by
 cases av with
 |ag l=>
  obtain ⟨cs,rfl,an,hr⟩:=hv.ag_inv;refine ⟨an,hr,fun u hu=>?_⟩;obtain ⟨i,hi,rfl⟩:=List.getElem_of_mem hu;have ak:i<cs.size:=by assumption
  have h1:l[i]? = some (l[i]'(by omega)):=Qi6 (by omega);have h2:=hr i _ h1;have h3:Q1R (l[i]'(by omega))=true:=by
   grind [XN,List.all_eq_true,List.getElem_mem]
  have h4:=Q7T h2 h3;have h5:cs.getD i undef=cs[i]:=by simp [Array.getD,ak]
  grind [Value.cells]
 |fs s rows=>
  obtain ⟨ad,rfl,hr⟩:=hv.fs_inv;refine ⟨rfl,fun i x hx=>?_,fun u hu=>?_⟩
  ·cases i with
   |zero=>simp [XN] at hx;subst hx;exact .d _ _ hr
   |succ i=>trivial
  ·simp [Value.cells] at hu;subst hu;rfl
 |_=>
  all_goals
   simp only [XN,List.all_cons,List.all_nil,Bool.and_true] at ho
   first
    |have h1:=Q7T hv ho
     rw [Q8v h1];refine ⟨rfl,fun i x hx=>?_,fun u hu=>?_⟩
     ·cases i with
      |zero=>simp [XN] at hx;subst hx;simpa [Array.getD] using hv
      |succ i=>simp [XN] at hx
     simp_all
    |(simp [Q1R] at ho)
theorem UR {hl:Nat->Option Ob} {ac:Nat} {o:Ob} {v:AV} {wr:List (Nat × Option Ob)} {rd:List Nat} {k:Dl->Option R} {r:R} (h:FY hl ac o v wr rd k=some r) :
  hl ac=none/\k ⟨v,wr++[(ac,some o)],rd⟩=some r:=by
 grind [FY]
theorem Qcw (n:Nat):QgI n (0,0):=fun _ _ h=>by omega
theorem CR {o:Oper} {ev:Operand->AV} {hl:Nat->Option Ob} {ac:Nat} {cells:List AV} {ty:TypeId} (hn:hl ac=none) (ar:Q6w ty cells)
  (h:∀ β S st a w,Rel E β S st a w->Cw β S st a w o ev->∃ cs:Array Value,(execOp a.eval o).run P w = .ok (.value (.pointer (some ⟨w.heap.size,0,none⟩))) (w.alloc (.cells cs ty))/\cs.size=cells.length /\
   ∀ (i:Nat) (x:AV),cells[i]? = some x->AK x=true/\((RdA β S (look st.h) w (tmv a) (cs.getD i undef) x/\(Ur st ac=true->WQ ac x=false))\/∃ t,x = .sa ac t/\cs.getD i undef = .pointer none)) :
  GO P E o ev hl ⟨.ptr ac 0,[]++[(ac,some (.box cells))],[]⟩:=by
 intro β S st a w hR hO hA a3 K Q hK;obtain ⟨cs,ak,ao,au⟩:=h β S st a w hR hO;have aw:look st.h ac=none:=by rw [hA ac (.inr (by simp [wrL]))];exact hn
 have hc:Ur st ac=true:=by grind [Wc]
 unfold Oper.wp;rw [ak];refine hK _ _ ⟨SS β ac (some w.heap.size),S,?_,?_⟩
 ·refine hR.new aw hc ⟨w.heap.size,ty,cs,(0,0),by simp [SS],VY _ _,⟨Qcw _,ar⟩,ao,fun i x hx=>?_⟩;obtain ⟨h1,ax⟩:=au i x hx;rcases ax with ⟨h2,h3⟩ | ⟨t,rfl,hp⟩
  case inr=>exact .sa _ _ _ w.heap.size (by simp [SS]) (.inl hp)
  refine (h2.to_tm0 h1).mono (fun _ hb=>hb) (fun b hb=>Zg _ _ (hR.hr.sb b hb)) (fun l a2=>?_) (fun _ _=>rfl);have aj:l≠ac:=fun e=>by simp_all
  exact ⟨by simp [SS,aj],fun h=>by rw [WJ,Qi3 aj];exact h,fun e s rows h=>.inr ⟨rows,by rw [WJ,Qi3 aj];exact h,rfl⟩,
   fun b aq an fz hs hb hw=>⟨aq,an,fz,by rw [Zg _ _ (Rt hR (by rw [WJ,Qi3 aj] at hs;exact hs) hb)];exact hw,rfl⟩,fun _ f h=>.inr ⟨f,by rw [WJ,Qi3 aj];exact h⟩⟩
 ·exact .ptr _ _ _ (by simp [SS])
theorem Bc (l:Nat) (v:Value):WQ l (Pb v)=false:=by
 unfold Pb;split <;> rfl
theorem Q6v (v:Value):AK (Pb v)=true:=by
 unfold Pb;split <;> rfl
theorem Q7b {tt:TT} (hT:TOk P tt) {o:Oper} {t:TypeId} (ho:o.op = .alloc t) {ev:Operand->AV} {hl:Nat->Option Ob} {ac:Nat} {ti:TyI} (aq:look tt t=some ti) (hn:hl ac=none) :
  GO P E o ev hl ⟨.ptr ac 0,[]++[(ac,some (.box (Q0l ac t ti)))],[]⟩:=by
 obtain ⟨inf,au,_,_,z,hz,ar⟩:=(hT t ti aq).inf;have an:Q6w t (Q0l ac t ti):=by
  intro i l t' hi;simp only [Q0l,Qi1,QhW] at hi;obtain ⟨v,_,hv⟩:=hi;unfold Q4U at hv;split at hv
  ·injection hv
  ·unfold Pb at hv
   grind
 refine CR (ty:=t) hn an fun β S st a w hR hO=>⟨z.cells,?_,?_,fun i x hx=>?_⟩
 ·simp_all [execOp,Instr.alloc,zeroValue,Yl,newVar,newRow]
 ·grind [Array.length_toList,Q0l]
 ·simp only [Q0l,Qi1,QhW] at hx;obtain ⟨v,hv,rfl⟩:=hx;have:z.cells.getD i undef=v:=by
   rw [<- ar] at hv;obtain ⟨hi,he⟩:=QhR.1 hv;have ao:i<z.cells.size:=by omega
   simp only [Array.getD,ao,dite_true]
   assumption
  rw [this];unfold Q4U;split
  ·exact ⟨rfl,.inr ⟨t,rfl,rfl⟩⟩
  grind [Q6v,B9,Bc]
theorem Q0p {st:St} {ac:Nat} (hc:Ur st ac=true) (x:Operand):WQ ac (evO st.tm x)=false:=by
 cases x with
 |tmp t=>
  simp only [evO,lkT];cases h:look st.tm t with
  |none=>rfl
  |some av=>grind [Q5V]
 |const v=>exact Bc ac v
 |_=>rfl
theorem Q2s {l i:Nat} {r:List AV} {x:AV} (h:r[i]? = some x) (hn:Gu l r=false):WQ l x=false:=by
 grind [WQ,Nd]
theorem Am {l:Nat} {av:AV} (h:WQ l av=false):Gu l (XN av)=false:=by
 cases av <;> simp_all [XN,Gu,WQ]
theorem Q9X {o:Oper} {t:TypeId} {x:Operand} (ho:o.op = .box t x) {ev:Operand->AV} {hl:Nat->Option Ob} {aj:Nat} (ac:(XN (ev x)).all Q1R=true) (hn:hl aj=none) :
  GO P E o ev hl ⟨.ptr aj 0,[]++[(aj,some (.box (XN (ev x))))],[]⟩:=by
 have ak:x∈o.op.operands.toList:=by grind [Op.operands]
 have an:Q6w t (XN (ev x)):=by
  intro i l t' hi;rw [Qia] at ac;have:=ac _ (QhZ hi);trivial
 refine CR (ty:=t) hn an fun β S st a w hR hO=>?_
 obtain ⟨h1,h2,_⟩:=NR (hO.at ak) ac;refine ⟨(a.eval x).cells,?_,h1,fun i y hy=>⟨?_,.inl ⟨h2 i y hy,fun hc=>Q2s hy (Am (hO.nm ak hc))⟩⟩⟩
 ·simp_all [execOp,Instr.box,newVar,newRow]
 grind [List.all_eq_true,D0,List.mem_of_getElem?]
structure Wrote (b:Nat) (cs:Array Value) (ty:TypeId) (fz:Nat × Nat) (w w':World):Prop where
 blk:w'.heap[b]? = some (.cells cs ty fz)
 oth:∀ k,k≠b->w'.heap[k]? = w.heap[k]?
 os:w'.os=w.os
 tape:w'.tape=w.tape
 output:w'.output=w.output
 size:w'.heap.size=w.heap.size
theorem Q94 {w:World} {b o:Nat} {cs:Array Value} {ty:TypeId} {fz:Nat × Nat} (h:w.heap[b]? = some (.cells cs ty fz)) (v:Value):Wrote b (cs.setIfInBounds o v) ty fz w (w.setCell ⟨b,o,none⟩ v):=by
 refine ⟨?_,fun k hk=>?_,rfl,rfl,rfl,by simp_all⟩
 ·simp [World.setCell,Array.getElem?_modify,h]
 ·simp only [World.setCell,Array.getElem?_modify]
  grind
theorem Wrote.trans {b:Nat} {cs aj:Array Value} {ty:TypeId} {fz:Nat × Nat} {w w' ak:World} (h:Wrote b cs ty fz w w') (h':Wrote b aj ty fz w' ak):Wrote b aj ty fz w ak:=
 ⟨h'.blk,fun k hk=>(h'.oth k hk).trans (h.oth k hk),h'.os.trans h.os,h'.tape.trans h.tape,h'.output.trans h.output,h'.size.trans h.size⟩
def Ti (cs:Array Value):Nat->List Value->Array Value
 |_,[]=>cs
 |o,v::r=>Ti (cs.setIfInBounds o v) (o+1) r
theorem U1:∀ (vs:List Value) (cs:Array Value) (o:Nat),(Ti cs o vs).size=cs.size
 |[],_,_=>rfl
 |v::r,cs,o=>by simp [Ti,U1 r]
theorem S6:∀ (vs:List Value) (cs:Array Value) (o j:Nat),o+vs.length<=cs.size->(Ti cs o vs)[j]? = if o<=j/\j<o+vs.length then vs[j-o]? else cs[j]?
 |[],cs,o,j,_=>by simp [Ti];intro h1 h2;omega
 |v::r,cs,o,j,h=>by
  simp only [Qig] at h;rw [Ti,S6 r _ (o+1) j (by simp;omega)];simp only [Qig];by_cases h1:o+1<=j/\j<o+1+r.length
  ·rw [Qi7 h1,Qi7 (by omega)];rw [show j-o=(j-(o+1))+1 from by omega];simp
  ·rw [Qi3 h1];by_cases h2:j=o
   ·subst h2;rw [Qi7 (by omega)];simp [Array.getElem?_setIfInBounds];omega
   ·rw [Qi3 (by omega)];rw [Array.getElem?_setIfInBounds,Qi3 (by omega)]
theorem G9 (b o:Nat) (ty:TypeId) (fz:Nat × Nat):∀ (vs:List Value) (i:Nat) (cs:Array Value) (w:World),w.heap[b]? = some (.cells cs ty fz)->QgI cs.size fz->o+i+vs.length<=cs.size->(∀ v∈vs,v.oneCell'=true) ->
  ∃ w',(storeCells ⟨b,o,none⟩ vs i).run P w = .ok () w'/\Wrote b (Ti cs (o+i) vs) ty fz w w'
 |[],i,cs,w,h,_,_,_=>⟨w,by rfl,⟨h,fun _ _=>rfl,rfl,rfl,rfl,rfl⟩⟩
 |v::r,i,cs,w,h,hf,an,h1=>by
  simp only [Qig] at an;have aj:o+i<cs.size:=by omega
  have ak:w.cell? ⟨b,o+i,none⟩=some (cs.getD (o+i) undef):=by rw [J3 h];simp_all
  have au:w.frozen? ⟨b,o+i,none⟩=false:=by
   have:=hf (o+i) aj
   grind [World.frozen?]
  have aq:=run_store P w ⟨b,o+i,none⟩ v .plain (h1 v (by simp));have hw:=Q94 (o:=o+i) h v;obtain ⟨w',ao,ac⟩:=G9 b o ty fz r (i+1) (cs.setIfInBounds (o+i) v) (w.setCell ⟨b,o+i,none⟩ v) hw.blk (by simp_all) (by simp;omega) (fun u hu=>h1 u (by simp [hu]));refine ⟨w',?_,hw.trans ac⟩
  grind [storeCells,Sem.run_bind,H3,Result.andThen_ok]
theorem Sd:∀ {vs cells cs:List AV} {off:Nat},Nz cells off vs=some cs->cs.length=cells.length/\vs.all Q1R=true/\(vs≠[]->off+vs.length<=cells.length) /\
  ∀ j:Nat,cs[j]? = if off<=j/\j<off+vs.length then vs[j-off]? else cells[j]?
 |[],cells,cs,off,h=>by
  simp [Nz] at h;subst h;refine ⟨rfl,rfl,fun h=>absurd rfl h,fun j=>?_⟩;rw [Qi3 (by simp)]
 |v::r,cells,cs,off,h=>by
  unfold Nz at h;cases hc:(Q1R v&&Nat.ble (off+1) cells.length) with
  |false=>simp [hc] at h
  |true=>
   simp only [hc,QhV] at h;simp only [QhS] at hc;have ak:=Qi2 hc.2;obtain ⟨h1,h2,h3,h4⟩:=Sd h;simp only [List.length_set] at h1 h3;refine ⟨h1,by simp [hc.1,h2],fun _=>?_,fun j=>?_⟩
   ·by_cases hr:r=[]
    ·subst hr;simp;omega
    ·have:=h3 hr;simp;omega
   ·rw [h4 j];simp only [Qig];by_cases e1:off+1<=j/\j<off+1+r.length
    ·rw [Qi7 e1,Qi7 (by omega),show j-off=(j-(off+1))+1 from by omega];simp
    ·rw [Qi3 e1];by_cases e2:j=off
     ·subst e2;rw [Qi7 (by omega),Qib (by omega)];simp
     ·rw [Qi3 (by omega),Qic (by omega)]
end
section
variable {P:Program} {E:Env} {R:Type}
theorem Q0t {cs ac:Array Value} {i j:Nat} (h:cs[i]? = ac[j]?):cs.getD i undef=ac.getD j undef:=by
 simp_all
theorem RT {t:Nat} {ti:TyI} (ht:TyOk P t ti) {w w':World} {ad:Addr} {v:Value} (hs:v.cells.size=ti.size) (h:(storeCells ad v.cells.toList).run P w = .ok () w'):(storeVar t ad v).run P w = .ok () w':=by
 simp only [storeVar,QhU,ht.size,QhQ]
 simp_all
theorem Nx {o:Oper} {t:TypeId} {x y:Operand} (ho:o.op = .store t x y) {a:Act} {w w':World} {ad:Addr} (hx:a.eval x = .pointer (some ad)) (hv:(storeVar t ad (a.eval y)).run P w = .ok () w') :
  (execOp a.eval o).run P w = .ok .skip w':=by
 simp_all [execOp,Instr.storeAt,Instr.sureAddr]
theorem BR:∀ {l:List AV} {ds:List D},Qct l=some ds->l=ds.map .d
 |[],ds,h=>by simp [Qct] at h;subst h;rfl
 |a::r,ds,h=>by
  cases a with
  |d x=>
   simp only [Qct] at h;split at h
   ·rename_i l' ac;cases h;rw [BR ac];rfl
   ·cases h
  |_=>simp [Qct] at h
theorem Q5f:∀ (ds:List D) (row:List D) (off j:Nat),off+ds.length<=row.length->(Qbr row off ds)[j]? = if off<=j/\j<off+ds.length then ds[j-off]? else row[j]?
 |[],row,off,j,_=>by simp [Qbr];intro h1 h2;omega
 |v::r,row,off,j,h=>by
  simp only [Qig] at h;rw [Qbr,Q5f r _ (off+1) j (by simp;omega)];simp only [Qig];by_cases h1:off+1<=j/\j<off+1+r.length
  ·rw [Qi7 h1,Qi7 (by omega),show j-off=(j-(off+1))+1 from by omega];simp
  ·rw [Qi3 h1];by_cases h2:j=off
   ·subst h2;rw [Qi7 (by omega),Qib (by omega)];simp
   ·rw [Qi3 (by omega),Qic (by omega)]
theorem BE:∀ (ds:List D) (row:List D) (off:Nat),(Qbr row off ds).length=row.length
 |[],_,_=>rfl
 |v::r,row,off=>by simp [Qbr,BE r]
theorem ER (ds:List D):(ds.map AV.d).all Q1R=true:=by
 grind [Q1R]
theorem Q6P {tt:TT} (hT:TOk P tt) {o:Oper} {t:TypeId} {x y:Operand} (ho:o.op = .store t x y) {ev:Operand->AV} {hl:Nat->Option Ob} {k:Dl->Option R} {r:R}
  (h:Q9a tt hl t (ev x) (ev y) k=some r):∃ dl,k dl=some r/\GO P E o ev hl dl:=by
 have b9:x∈o.op.operands.toList:=by grind [Op.operands]
 have b0:y∈o.op.operands.toList:=by simp [ho,Op.operands]
 unfold Q9a at h;split at h
 case h_2=>cases h
 rename_i ti cu;have b6:=hT t ti cu;cases a2:Nat.beq (XN (ev y)).length ti.size with
 |false=>simp [a2] at h
 |true=>
  simp only [a2,QhV] at h;have a3:=QhT a2;split at h
  ·-- a box
   rename_i l off br;split at h
   ·rename_i cells bb;split at h
    ·rename_i cs ck;refine ⟨_,h,?_⟩;intro β S st a w hR hO hA cx K Q hK;obtain ⟨h1,h2,h3,h4⟩:=Sd ck;obtain ⟨b,hb,hx⟩:=(br▸hO.at b9).ptr_inv;have aj:look st.h l=some (.box cells):=by rw [hA l (.inl (by simp))];exact bb
     obtain ⟨b',ty,vs,fz,a5,hw,⟨hf,cg⟩,bh,bc⟩:=hR.hr.ob l _ aj;obtain rfl:b=b':=by rw [hb] at a5;injection a5
     obtain ⟨c1,c2,c3⟩:=NR (hO.at b0) h2;have bl:off+(a.eval y).cells.toList.length<=vs.size\/(a.eval y).cells.toList.length=0:=by
      by_cases bz:XN (ev y)=[]
      ·right;simp [c1,bz]
      ·left;have:=h3 bz;simp [c1];omega
     have b4:off+0+(a.eval y).cells.toList.length<=vs.size\/(a.eval y).cells.toList=[]:=by
      rcases bl with h | h
      ·left;simpa using h
      ·right;exact Qi0 h
     obtain ⟨w',a7,ac⟩:∃ w',(storeCells ⟨b,off,none⟩ (a.eval y).cells.toList 0).run P w = .ok () w'/\Wrote b (Ti vs off (a.eval y).cells.toList) ty fz w w':=by
      rcases b4 with h | h
      ·exact G9 b off ty fz _ 0 vs w hw hf h c3
      ·rw [h];exact ⟨w,by simp [storeCells],⟨hw,fun _ _=>rfl,rfl,rfl,rfl,rfl⟩⟩
     have b7:Q6w ty cs:=by
      intro i l' t' hi;rw [h4 i] at hi;split at hi
      ·rw [Qia] at h2;have:=h2 _ (QhZ hi);simp [Q1R] at this
      ·exact cg i l' t' hi
     have ao:∀ j,(Ti vs off (a.eval y).cells.toList)[j]? = if off<=j/\j<off+(XN (ev y)).length then (a.eval y).cells[j-off]? else vs[j]?:=by
      intro j;rcases bl with h | h
      ·rw [S6 _ _ _ _ h];simp [c1]
      ·have hn:(a.eval y).cells.toList=[]:=Qi0 h;rw [hn,Qi3 (by rw [<- c1,<- Qi4,hn];simp)];rfl
     unfold Oper.wp;rw [Nx ho hx (RT b6 (by rw [c1];exact a3) a7)];refine hK undef _ ⟨β,S,?_,.top _⟩;have aw:∀ k',look ((l,Ob.box cs)::rem l st.h) k'=if k'=l then some (.box cs) else look st.h k':=fun k'=>WJ l k' _ st.h
     have ak:Keep β (look st.h) w β (look ((l,.box cs)::rem l st.h)) w' l:=by
      refine ⟨rfl,fun h=>?_,fun e s rows h=>?_,fun b2 bp bn bv _ au ar=>?_,fun t f h=>by rw [aj] at h;cases h⟩
      ·rw [aj] at h;cases h
      ·rw [aj] at h;cases h
      ·rw [hb] at au;injection au with e;subst e
       rw [hw] at ar;injection ar with e;injection e with e1 e2 e3;subst e1
       exact ⟨_,_,_,ac.blk,U1 _ _ _⟩
     have a4:∀ l',Keep β (look st.h) w β (look ((l,.box cs)::rem l st.h)) w' l':=by
      intro l';by_cases e:l'=l
      ·subst e;exact ak
      ·exact ⟨rfl,fun h=>by rw [aw,Qi3 e];exact h,fun e' s rows h=>.inr ⟨rows,by rw [aw,Qi3 e];exact h,rfl⟩,
        fun b2 bp bn bv b5 au ar=>⟨bp,bn,bv,by rw [ac.oth b2 (fun e2=>by subst e2;rw [aw,Qi3 e] at b5;exact e (hR.hr.inj l' l _ b5 (by simp [aj]) au hb))];exact ar,rfl⟩,fun _ f h=>.inr ⟨f,by rw [aw,Qi3 e];exact h⟩⟩
     refine hR.set aj hb ac.oth ac.os ac.tape ac.output ac.size ak ⟨b,ty,_,fz,hb,ac.blk,⟨by rw [U1];exact hf,b7⟩,by rw [U1,bh,h1],fun i z hz=>?_⟩;rw [h4 i] at hz;by_cases e:off<=i/\i<off+(XN (ev y)).length
     ·rw [Qi7 e] at hz;have bo:(Ti vs off (a.eval y).cells.toList).getD i undef=(a.eval y).cells.getD (i-off) undef:=Q0t (by rw [ao i,Qi7 e]);rw [bo];have hn:AK z=true:=D0 (by rw [Qia] at h2;exact h2 z (QhZ hz));exact ((c2 (i-off) z hz).to_tm0 hn).mono (fun _ h=>h) (fun k' hS=>ac.oth k' (fun e2=>by subst e2;exact hR.hr.apart l _ (by simp [aj]) hb hS)) (fun l' _=>a4 l') (fun _ _=>rfl)
     ·rw [Qi3 e] at hz;have bo:(Ti vs off (a.eval y).cells.toList).getD i undef=vs.getD i undef:=Q0t (by rw [ao i,Qi3 e]);rw [bo];exact (bc i z hz).mono (fun _ h=>h) (fun k' hS=>ac.oth k' (fun e2=>by subst e2;exact hR.hr.apart l _ (by simp [aj]) hb hS)) (fun l' _=>a4 l') (fun _ _=>rfl)
    ·cases h
   ·cases h
  ·-- an array of the call's own
   rename_i l i off br;split at h
   ·rename_i e s rows b3;split at h
    ·rename_i ds cn;obtain ⟨row,h,ca⟩:=QM h;have aq:=ca rfl;cases a6:Nat.ble (off+ds.length) s with
     |false=>simp [a6] at h
     |true=>
      simp only [a6,QhV] at h;have bl:=Qi2 a6;refine ⟨_,h,?_⟩;intro β S st a w hR hO hA cx K Q hK;have bq:=BR cn;have aj:look st.h l=some (.arr e s rows):=by rw [hA l (.inl (by simp))];exact b3
      obtain ⟨b,hb,hx⟩:=RdA.ap_inv aj (br▸hO.at b9);rcases hR.hr.ob l _ aj with ⟨_,hn⟩ | ⟨b',vs,a5,hw,bh,bk,bc⟩
      ·subst hn;simp at aq
      obtain rfl:b=b':=by rw [hb] at a5;injection a5
      obtain ⟨c1,c2,c3⟩:=NR (hO.at b0) (by rw [bq];exact ER ds);have b8:(a.eval y).cells.size=ds.length:=by rw [c1,bq];simp
      have hi:i<rows.length:=(QhR.1 aq).1;have cq:row.length=s:=bk i row aq;have cz:(i+1)*s<=rows.length*s:=QhX s hi;have cw:(i+1)*s=i*s+s:=Qij i s;have bg:i*s+off+(a.eval y).cells.toList.length<=vs.size:=by simp [b8];omega
      obtain ⟨w',a7,ac⟩:=G9 (P:=P) b (i*s+off) e (0,0) (a.eval y).cells.toList 0 vs w hw (Qcw _) (by simpa using bg) c3;simp only [Nat.add_zero] at ac;have ao:∀ j,(Ti vs (i*s+off) (a.eval y).cells.toList)[j]? = if i*s+off<=j/\j<i*s+off+ds.length then (a.eval y).cells[j-(i*s+off)]? else vs[j]?:=by
       intro j;rw [S6 _ _ _ _ bg];simp [b8]
      unfold Oper.wp;rw [Nx ho hx (RT b6 (by rw [c1];exact a3) a7)];refine hK undef _ ⟨β,S,?_,.top _⟩;have bi:∀ k',S k'->w'.heap[k']? = w.heap[k']?:=fun k' hS=>ac.oth k' (fun e2=>by subst e2;exact hR.hr.apart l _ (by simp [aj]) hb hS)
      have ak:Keep β (look st.h) w β (look ((l,.arr e s (rows.set i (Qbr row off ds)))::rem l st.h)) w' l:=by
       refine ⟨rfl,fun h=>?_,fun e' s' cm h=>?_,fun b2 bp bn bv _ au ar=>?_,fun t f h=>by rw [aj] at h;cases h⟩
       ·rw [aj] at h;cases h
       ·rw [aj] at h;injection h with h;injection h with g1 g2 g3;subst g1;subst g2;subst g3
        exact .inr ⟨_,by rw [WJ,Qi7 rfl],by simp⟩
       ·rw [hb] at au;injection au with e;subst e
        rw [hw] at ar;injection ar with e;injection e with e1 e2 e3;subst e1
        exact ⟨_,_,_,ac.blk,U1 _ _ _⟩
      refine hR.set aj hb ac.oth ac.os ac.tape ac.output ac.size ak (.inr ⟨b,_,hb,ac.blk,by rw [U1];simpa using bh,fun i' r' az=>?_,fun i' j' r' z h4 h5=>?_⟩)
      ·by_cases e2:i'=i
       ·subst e2;rw [Qib hi] at az;injection az with az;subst az
        rw [BE];exact cq
       ·rw [Qic (by omega)] at az;exact bk i' r' az
      ·by_cases e2:i'=i
       ·subst e2;rw [Qib hi] at h4;injection h4 with h4;subst h4
        rw [Q5f _ _ _ _ (by omega)] at h5;by_cases e3:off<=j'/\j'<off+ds.length
        ·rw [Qi7 e3] at h5;have hj:j'-off<(a.eval y).cells.size:=by omega
         refine ⟨(a.eval y).cells.getD (j'-off) undef,?_,?_⟩
         ·rw [ao,Qi7 (by omega),show i'*s+j'-(i'*s+off)=j'-off from by omega];exact Hq hj
         ·exact (c2 (j'-off) (.d z) (by rw [bq];simp [h5])).d_inv.mono (fun _ h=>h) bi
        ·rw [Qi3 e3] at h5;obtain ⟨u,hu,bm⟩:=bc i' j' row z aq h5;exact ⟨u,by rw [ao,Qi3 (by omega)];exact hu,bm.mono (fun _ h=>h) bi⟩
       ·rw [Qic (by omega)] at h4;obtain ⟨u,hu,bm⟩:=bc i' j' r' z h4 h5;refine ⟨u,?_,bm.mono (fun _ h=>h) bi⟩;have c6:j'<s:=by
         have:=bk i' r' h4;have:=(QhR.1 h5).1;omega
        rw [ao,Qi3 ?_]
        ·exact hu
        ·rcases Nat.lt_or_gt_of_ne e2 with cf | co
         ·have:(i'+1)*s<=i*s:=QhX s cf;have:(i'+1)*s=i'*s+s:=Qij i' s;omega
         ·have:(i+1)*s<=i'*s:=QhX s co;omega
    ·cases h
   ·cases h
  ·cases h
end
section
variable {P:Program} {E:Env} {R:Type}
theorem Lw {α β:Type} {f:α->Sem β} {g:α->β} {w:World}:∀ (l:List α),(∀ x∈l,(f x).run P w = .ok (g x) w)->(l.mapM f).run P w = .ok (l.map g) w
 |[],_=>by simp
 |a::l,h=>by
  have h1:=h a (by simp);have h2:=Lw l (fun x hx=>h x (by simp [hx]));simp [List.mapM_cons,h1,h2]
theorem Q3i {α β:Type} {f:α->Sem β} {g:α->β} {w:World} (l:Array α) (h:∀ x∈l.toList,(f x).run P w = .ok (g x) w):(l.mapM f).run P w = .ok (l.map g) w:=by
 have h1:=Lw (P:=P) l.toList h;rw [<- Array.toList_mapM,Sem.run_map] at h1;cases hr:(l.mapM f).run P w with
 |ok b w'=>
  rw [hr] at h1;simp only [QhQ,Result.ok.injEq] at h1;obtain ⟨h2,rfl⟩:=h1;congr 1;apply Array.ext'
  simp_all
 |halt x w'=>simp_all
theorem Q7D (off:Nat):∀ (l:List Value) (k:Nat) (cs:Array Value),(l.zipIdx k).foldl (fun cs x=>cs.setIfInBounds (off+x.2) x.1) cs=Ti cs (off+k) l
 |[],_,_=>rfl
 |v::r,k,cs=>by
  simp only [List.zipIdx_cons,List.foldl_cons,Ti];rw [Q7D off r (k+1)];rfl
theorem Qaq (off:Nat) (vs cs:Array Value):vs.zipIdx.foldl (fun cs x=>cs.setIfInBounds (off+x.2) x.1) cs=Ti cs off vs.toList:=by
 rw [<- Array.foldl_toList,Array.toList_zipIdx,Q7D];rfl
theorem Q3a {ac:Nat->Option (Nat × Nat)} {cells:Array Value} {i off size:Nat} {v:Value} {rest:List (Nat × Value)} (hp:ac i=some (off,size)) (hs:v.cells.size=size) (hf:off+size<=cells.size) :
  Instr.fill ac cells ((i,v)::rest)=Instr.fill ac (Ti cells off v.cells.toList) rest:=by
 grind [Instr.fill,Qaq]
theorem Ef {tt:TT} {fields:List (Nat × Nat)} {ak:Nat->Option (Nat × Nat)} (ar:∀ (i off t:Nat) (ti:TyI),fields[i]? = some (off,t)->look tt t=some ti->ak i=some (off,ti.size))
  {β:Nat->Option Nat} {S:Nat->Prop} {h:Nat->Option Ob} {w:World} {tm:Nat->Value} {ρ:Operand->Value} {ev:Operand->AV} :
  ∀ (aj:List (Nat × Operand)) (cells ac:List AV) (cs:Array Value),(∀ p∈aj,RdA β S h w tm (ρ p.2) (ev p.2))->cs.size=cells.length ->
   (∀ (i:Nat) (x:AV),cells[i]? = some x->RdA β S h w tm (cs.getD i undef) x)->AQ fields tt cells (Vg ev aj)=some ac ->
   ∃ ao,Instr.fill ak cs (aj.map fun p=>(p.1,ρ p.2))=some ao/\ao.size=ac.length /\
    ∀ (i:Nat) (x:AV),ac[i]? = some x->RdA β S h w tm (ao.getD i undef) x
 |[],cells,ac,cs,_,h1,h2,h3=>by
  grind [Vg,AQ,Instr.fill]
 |(i,x)::aj,cells,ac,cs,hp,h1,h2,h3=>by
  simp only [Vg,AQ] at h3;split at h3
  case h_2=>cases h3
  rename_i off t hf;split at h3
  case h_2=>cases h3
  rename_i ti ay;cases hc:(Nat.beq (XN (ev x)).length ti.size&&Nat.ble (off+ti.size) cells.length) with
  |false=>simp_all
  |true=>
   simp only [hc,QhV] at h3;simp only [QhS] at hc;have hl:=QhT hc.1;have a6:=Qi2 hc.2;split at h3
   case h_2=>cases h3
   rename_i az aw;obtain ⟨g1,g2,g3,g4⟩:=Sd aw;obtain ⟨c1,c2,c3⟩:=NR (hp (i,x) (by simp)) g2;have an:=ar i off t ti hf ay;have au:off+(ρ x).cells.toList.length<=cs.size:=by simp [c1,hl];omega
   rw [Qik,Q3a an (by rw [c1];exact hl) (by omega)];refine Ef ar aj az ac _ (fun p ax=>hp p (by simp [ax])) (by rw [U1,h1,g1]) (fun j y hy=>?_) h3;have a2:(Ti cs off (ρ x).cells.toList)[j]? = if off<=j/\j<off+(XN (ev x)).length then (ρ x).cells[j-off]? else cs[j]?:=by
    rw [S6 _ _ _ _ au];simp [c1]
   rw [g4 j] at hy;by_cases e:off<=j/\j<off+(XN (ev x)).length
   all_goals simp_all [Qi7,Ti,undef,Q0t,Qi3]
theorem Q2z {t:TypeId} {ac:Array (Nat × Operand)} {o:Oper} (ho:o.op = .build t ac) {p:Nat × Operand} (hp:p∈ac.toList):p.2∈o.op.operands.toList:=by
 grind [Op.operands]
theorem Q6U {tt:TT} (hT:TOk P tt) {o:Oper} {t:TypeId} {aj:Array (Nat × Operand)} (ho:o.op = .build t aj) {ev:Operand->AV} {hl:Nat->Option Ob} {ti:TyI} (bq:look tt t=some ti) (hs:V8 ti.kd=true) {cs:List AV}
  (h:AQ ti.fields tt (Es ti) (Vg ev aj.toList)=some cs):GO P E o ev hl ⟨.ag cs,[],[]⟩:=by
 have a2:=hT t ti bq;obtain ⟨inf,an,_,_,z,hz,bn⟩:=a2.inf;refine Ql fun β S st a w hR hO hA=>?_
 have bc:z.cells.size=(Es ti).length:=by grind [Array.length_toList,Es]
 have a9:∀ (i:Nat) (x:AV),(Es ti)[i]? = some x->RdA β S (look st.h) w (tmv a) (z.cells.getD i undef) x:=by
  intro i x hx;simp only [Es,Qi1,QhW] at hx;obtain ⟨v,hv,rfl⟩:=hx;have:z.cells.getD i undef=v:=by
   rw [<- bn] at hv;obtain ⟨hi,he⟩:=QhR.1 hv;have bi:i<z.cells.size:=by simpa using hi
   simp only [Array.getD,bi,dite_true];simpa using he
  grind [B9]
 have ar:(aj.map fun x=>(x.1,a.eval x.2)).toList=aj.toList.map fun p=>(p.1,a.eval p.2):=by simp
 cases hk:ti.kd with
 |struct=>
  obtain ⟨fs,hu,bk,a7⟩:=a2.kstruct hk;let sz:Field->Nat:=fun f=>((P.info? f.type).map (·.size)).getD 0
  have ay:∀ f∈fs.toList,∃ i,P.info? f.type=some i/\i.size=sz f:=fun f hf=>by
   obtain ⟨i,hi,_⟩:=a7 f hf;exact ⟨i,hi,by simp [sz,hi]⟩
  have a3:∀ (i off t:Nat) (ak:TyI),ti.fields[i]? = some (off,t)->look tt t=some ak->(fs.map fun f=>(f.offset,sz f))[i]? = some (off,ak.size):=by
   intro i off t ak hf aq;rw [<- bk,Qi1,QhW] at hf;obtain ⟨fd,a6,he⟩:=hf;injection he with he1 he2
   obtain ⟨inf,an,a8⟩:=ay fd (QhZ a6);obtain ⟨a5,ac,au,_⟩:=(hT t ak aq).inf;rw [<- he2,an] at ac;injection ac with ac
   subst ac;have bg:fs[i]? = some fd:=by simpa using a6
   simp [bg,he1,<- a8,au]
  obtain ⟨az,h1,h2,h3⟩:=Ef a3 (ρ:=a.eval) aj.toList _ _ z.cells (fun p hp=>hO.at (Q2z ho hp)) bc a9 h;refine ⟨.agg az,?_,.ag _ _ h2 h3⟩;have hm:=Q3i (P:=P) (w:=w) (f:=fun f:Field=>do pure (f.offset,<- sizeOf f.type)) (g:=fun f=>(f.offset,sz f)) fs (fun f hf=>by
   obtain ⟨i,hi,he⟩:=ay f hf;simp [sizeOf,Yl hi,he])
  unfold execOp;rw [ho];simp only [Instr.build,QhU,zeroValue,Yl an,hz,QO hu,QhQ,Qid,hm,ar,h1]
 |array e ax n=>
  obtain ⟨hu,bx,⟨i0,bb,ba⟩,bl,ao⟩:=a2.karr e ax n hk;have a3:∀ (i off t:Nat) (ak:TyI),ti.fields[i]? = some (off,t)->look tt t=some ak->(fun i=>some (i*ax,ax)) i=some (off,ak.size):=by
   intro i off t ak hf aq;rw [ao,Qi1,QhW] at hf;obtain ⟨j,hj,he⟩:=hf;have bm:j=i:=by
    have:=QhR.1 hj;obtain ⟨h1,h2⟩:=this;simp at h2;omega
   injection he with he1 he2
   obtain ⟨a5,ac,au,_⟩:=(hT t ak aq).inf;rw [<- he2,bb] at ac;injection ac with ac
   subst ac;simp only [Option.some.injEq,Prod.mk.injEq];exact ⟨by rw [<- he1,bm],by omega⟩
  obtain ⟨az,h1,h2,h3⟩:=Ef a3 (ρ:=a.eval) aj.toList _ _ z.cells (fun p hp=>hO.at (Q2z ho hp)) bc a9 h;refine ⟨.agg az,?_,.ag _ _ h2 h3⟩;have bp:(sizeOf e).run P w = .ok ax w:=by simp [sizeOf,Yl bb,ba]
  unfold execOp;rw [ho];simp only [Instr.build,QhU,zeroValue,Yl an,hz,QO hu,QhQ,Qid,bp,ar,h1]
 |_=>simp [hk,V8] at hs
def UU (S:Nat->Prop) (w:World) (cs:Array Value) (s:Nat) (rows:List (List D)):Prop:=
 rows.length*s<=cs.size/\(∀ (i:Nat) (r:List D),rows[i]? = some r->r.length=s)/\∀ (i j:Nat) (r:List D) (x:D),rows[i]? = some r->r[j]? = some x->∃ v,cs[i*s+j]? = some v/\Rd S w v x
theorem Q2d:∀ {z:List D} {l:List AV} {ds:List D},Q9c z l=some ds->ds.length=z.length/\l.length=z.length/\l.all Q1R=true/\(∀ t,∀ x∈l,gds t x=false) /\
  ∀ (β:Nat->Option Nat) (S:Nat->Prop) (h:Nat->Option Ob) (w:World) (tm:Nat->Value) (vs:Nat->Value),(∀ (i:Nat) (x:AV),l[i]? = some x->RdA β S h w tm (vs i) x)->∀ (i:Nat) (d:D),ds[i]? = some d->Rd S w (vs i) d
 |[],[],ds,h=>by
  grind [Q9c]
 |[],_::_,ds,h=>by trivial
 |_::_,[],ds,h=>by simp [Q9c] at h
 |z::zs,a::r,ds,h=>by
  simp only [Q9c] at h;split at h
  case h_2=>cases h
  rename_i l hl;obtain ⟨h1,h2,h3,h4,h5⟩:=Q2d hl;have aj:∀ d0,ds=d0::l->Q1R a=true->(∀ t,gds t a=false)->(∀ (β:Nat->Option Nat) (S:Nat->Prop) (h:Nat->Option Ob) (w:World) (tm:Nat->Value) (v:Value),RdA β S h w tm v a->Rd S w v d0) ->
    ds.length=(z::zs).length/\(a::r).length=(z::zs).length/\(a::r).all Q1R=true/\(∀ t,∀ x∈a::r,gds t x=false) /\
    ∀ (β:Nat->Option Nat) (S:Nat->Prop) (h:Nat->Option Ob) (w:World) (tm:Nat->Value) (vs:Nat->Value),(∀ (i:Nat) (x:AV),(a::r)[i]? = some x->RdA β S h w tm (vs i) x)->∀ (i:Nat) (d:D),ds[i]? = some d->Rd S w (vs i) d:=by
   intro d0 hd ho hg hr;subst hd;refine ⟨by simp [h1],by simp [h2],by simp [ho,h3],fun t x hx=>?_,fun β S h w tm vs hv i d hi=>?_⟩
   ·grind
   ·cases i with
    |zero=>simp at hi;subst hi;exact hr β S h w tm _ (hv 0 a rfl)
    |succ i=>exact h5 β S h w tm (fun i=>vs (i+1)) (fun i x hx=>hv (i+1) x (by simp_all)) i d (by simp_all)
  split at h
  ·rename_i x;cases h;exact aj x rfl rfl (fun _=>rfl) (fun _ _ _ _ _ _ hv=>hv.d_inv)
  ·split at h
   ·cases h;exact aj _ rfl rfl (fun _=>rfl) (fun _ _ _ _ _ v hv=>by rw [hv.nil_inv];exact .sl0 _ _ _)
   ·cases h
  ·cases h
end
section
variable {P:Program} {E:Env} {R:Type}
theorem UU.mono {S S':Nat->Prop} {w w':World} {cs:Array Value} {s:Nat} {rows:List (List D)} (h:UU S w cs s rows) (hS:∀ b,S b->S' b) (hw:∀ b,S b->w'.heap[b]? = w.heap[b]?):UU S' w' cs s rows:=
 ⟨h.1,h.2.1,fun i j r x h1 h2=>by
  obtain ⟨v,hv,hr⟩:=h.2.2 i j r x h1 h2;exact ⟨v,hv,hr.mono hS hw⟩⟩
theorem UU.set {S:Nat->Prop} {w:World} {cs:Array Value} {s:Nat} {rows:List (List D)} (h:UU S w cs s rows) {i:Nat} {row:List D} {vs:Array Value} (hi:i<rows.length) (hl:row.length=s) (a6:vs.size=s)
  (hr:∀ (j:Nat) (d:D),row[j]? = some d->Rd S w (vs.getD j undef) d):UU S w (Ti cs (i*s) vs.toList) s (rows.set i row):=by
 obtain ⟨h1,h2,h3⟩:=h;have a2:(i+1)*s<=rows.length*s:=QhX s hi;have aw:(i+1)*s=i*s+s:=Qij i s;have az:i*s+vs.toList.length<=cs.size:=by grind
 have an:∀ j,(Ti cs (i*s) vs.toList)[j]? = if i*s<=j/\j<i*s+s then vs[j-i*s]? else cs[j]?:=by
  grind [S6]
 refine ⟨by grind [U1],fun i' r' a3=>?_,fun i' j' r' x h4 h5=>?_⟩
 ·grind
 ·by_cases e2:i'=i
  ·subst e2;rw [Qib hi] at h4;injection h4 with h4;subst h4
   have hj:j'<s:=by have:=(QhR.1 h5).1;omega
   refine ⟨vs.getD j' undef,?_,hr j' x h5⟩
   simp_all
  ·rw [Qic (by omega)] at h4;obtain ⟨u,hu,ax⟩:=h3 i' j' r' x h4 h5;refine ⟨u,?_,ax⟩;have a4:j'<s:=by
    have:=h2 i' r' h4;have:=(QhR.1 h5).1;omega
   rw [an,Qi3 ?_]
   ·exact hu
   ·rcases Nat.lt_or_gt_of_ne e2 with aq | au
    ·have:(i'+1)*s<=i*s:=QhX s aq;have:(i'+1)*s=i'*s+s:=Qij i' s;omega
    ·have:(i+1)*s<=i'*s:=QhX s au;omega
theorem UU.zero {S:Nat->Prop} {w:World} {zero:Array Value} {z:List D} {n m:Nat} (hz:z.length=zero.size) (hr:∀ (j:Nat) (x:D),z[j]? = some x->∃ v,zero[j]? = some v/\Rd S w v x) (ao:n<=m) :
  UU S w ((Array.range (m*zero.size)).map (zero[· % zero.size]!)) zero.size (List.replicate n z):=by
 refine ⟨by simp_all [QhX],fun i r h=>?_,fun i j r x h1 h2=>?_⟩
 ·grind
 ·rw [List.getElem?_replicate] at h1;split at h1
  case isFalse=>cases h1
  rename_i hi;injection h1 with h1;subst h1
  obtain ⟨v,hv,hx⟩:=hr j x h2;refine ⟨v,?_,hx⟩;have hj:j<zero.size:=(Qi5.1 hv).1;have ak:(i+1)*zero.size<=m*zero.size:=QhX _ (by omega);have ac:(i+1)*zero.size=i*zero.size+zero.size:=Qij i _;have aj:(i*zero.size+j) % zero.size=j:=by rw [Nat.add_comm,Nat.add_mul_mod_self_right];exact Nat.mod_eq_of_lt hj
  grind
theorem Bn {o:Oper} {ev:Operand->AV} {hl:Nat->Option Ob} {ac e s:Nat} {rows:List (List D)} {rd:List Nat} (hn:hl ac=none)
  (h:∀ β S st a w,Rel E β S st a w->Cw β S st a w o ev->(∀ l,l∈rd->look st.h l=hl l)->∃ (cs:Array Value) (cap:Nat),(execOp a.eval o).run P w = .ok (.value (.slice (some ⟨w.heap.size,0,none⟩) rows.length cap)) (w.alloc (.cells cs e))/\cs.size=cap*s/\rows.length<=cap/\cap<=maxLen/\UU S w cs s rows) :
  GO P E o ev hl ⟨.arr ac,[]++[(ac,some (.arr e s rows))],rd⟩:=by
 intro β S st a w hR hO hA a2 K Q hK;obtain ⟨cs,cap,an,ao,aj,ak,h1,h2,h3⟩:=h β S st a w hR hO (fun l aq=>hA l (.inl aq));have ar:look st.h ac=none:=by rw [hA ac (.inr (by simp [wrL]))];exact hn
 have hc:Ur st ac=true:=by grind [Wc]
 unfold Oper.wp;rw [an];refine hK _ _ ⟨SS β ac (some w.heap.size),S,?_,?_⟩
 ·refine hR.new ar hc (.inr ⟨w.heap.size,cs,by simp [SS],VY _ _,h1,h2,fun i j r x h4 h5=>?_⟩);obtain ⟨v,hv,hr⟩:=h3 i j r x h4 h5;exact ⟨v,hv,hr.mono (fun _ hb=>hb) (fun b hb=>Zg _ _ (hR.hr.sb b hb))⟩
 ·exact .arr ac w.heap.size cap e s rows cs e (0,0) (by simp [SS]) (by simp [NL,WJ]) (VY _ _) ao aj ak
theorem Q9R {β:Nat->Option Nat} {S:Nat->Prop} {st:St} {a:Act} {w:World} (hR:Rel E β S st a w) (ac:Obj):Rel E β (fun b=>S b\/b=w.heap.size) st a (w.alloc ac):=by
 have:=hR.upd (w':=w.alloc ac) (β':=β) (S':=fun b=>S b\/b=w.heap.size) (H':=st.h) (fun _ h=>.inl h) (fun b hb=>Zg w ac (hR.hr.sb b hb)) (fun _=>False)
  (fun l _=>⟨rfl,rfl,fun b hs hb=>Zg w ac (Rt hR hs hb)⟩) (fun l h=>h.elim) (fun l o h=>h.elim) hR.hr.inj
  (fun l b hs hb hS=>by
   rcases hS with hS | hS
   ·exact hR.hr.apart l b hs hb hS
   ·have:=Rt hR hs hb;omega)
  hR.hr.own
  (fun b hS=>by
   simp;rcases hS with hS | hS
   ·have:=hR.hr.sb b hS;omega
   ·omega)
  (fun b hS=>by
   rcases hS with hS | hS
   ·exact hR.hr.sfr b hS
   ·right;right;have:=hR.hr.fr.size;omega)
  (Q6j hR.hr.fr ac)
 exact this
theorem UU.rd {S:Nat->Prop} {w:World} {b cap s:Nat} {cs:Array Value} {ty:TypeId} {fz:Nat × Nat} {rows:List (List D)} (h:UU S w cs s rows) (hb:w.heap[b]? = some (.cells cs ty fz)) (hS:S b) (ac:rows.length<=cap) :
  Rd S w (.slice (some ⟨b,0,none⟩) rows.length cap) (.sl s rows):=by
 obtain ⟨h1,h2,h3⟩:=h;refine .sl _ cap s rows (fun i j=>cs.getD (i*s+j) undef) hS ac h2 (fun i j r x h4 h5=>?_) (fun i j r x h4 h5=>?_)
 ·obtain ⟨v,hv,_⟩:=h3 i j r x h4 h5;rw [H3,Nat.zero_add,J3 hb]
  simp_all
 grind [undef,Hq,Array.getElem?_eq_some_iff]
theorem Q3o {o:Oper} {ev:Operand->AV} {hl:Nat->Option Ob} {e s:Nat} {rows:List (List D)} {rd:List Nat}
  (h:∀ β S st a w,Rel E β S st a w->Cw β S st a w o ev->∃ (cs:Array Value) (cap:Nat),(execOp a.eval o).run P w = .ok (.value (.slice (some ⟨w.heap.size,0,none⟩) rows.length cap)) (w.alloc (.cells cs e))/\rows.length<=cap/\UU S w cs s rows) :
  GO P E o ev hl ⟨.d (.sl s rows),[],rd⟩:=by
 intro β S st a w hR hO hA ao K Q hK;obtain ⟨cs,cap,aj,ac,h1⟩:=h β S st a w hR hO;unfold Oper.wp;rw [aj];refine hK _ _ ⟨β,fun b=>S b\/b=w.heap.size,Q9R hR _,.d _ _ ?_⟩;exact (h1.mono (fun _ hb=>.inl hb) (fun b hb=>Zg _ _ (hR.hr.sb b hb))).rd (VY _ _) (.inr rfl) ac
theorem Df {β:Nat->Option Nat} {S:Nat->Prop} {h:Nat->Option Ob} {w:World} {tm:Nat->Value} {ρ:Operand->Value} {ev:Operand->AV} {z:List D} :
  ∀ (aj:List (Nat × Operand)) (rows ac:List (List D)) (cs:Array Value),(∀ p∈aj,RdA β S h w tm (ρ p.2) (ev p.2))->UU S w cs z.length rows->cs.size=rows.length*z.length ->
   Mv z rows (Vg ev aj)=some ac ->
   ∃ ak,Instr.fill (fun i=>some (i*z.length,z.length)) cs (aj.map fun p=>(p.1,ρ p.2))=some ak/\UU S w ak z.length ac/\ak.size=cs.size/\ac.length=rows.length
 |[],rows,ac,cs,_,h1,h2,h3=>by
  simp [Vg,Mv] at h3;subst h3;exact ⟨cs,by simp [Instr.fill],h1,rfl,rfl⟩
 |(i,x)::aj,rows,ac,cs,hp,h1,h2,h3=>by
  simp only [Vg,Mv] at h3;split at h3
  case h_2=>cases h3
  rename_i row ao;cases hc:Nat.ble (i+1) rows.length with
  |false=>simp [hc] at h3
  |true=>
   simp only [hc,QhV] at h3;have hi:=Qi2 hc;obtain ⟨t1,t2,t3,_,t5⟩:=Q2d ao;obtain ⟨c1,c2,_⟩:=NR (hp (i,x) (by simp)) t3;have aw:(i+1)*z.length<=rows.length*z.length:=QhX _ hi;have au:(i+1)*z.length=i*z.length+z.length:=Qij i _;have ar:Instr.fill (fun i=>some (i*z.length,z.length)) cs ((i,ρ x)::aj.map fun p=>(p.1,ρ p.2))=_:=Q3a (i:=i) (off:=i*z.length) (size:=z.length) rfl (by rw [c1,t2]) (by omega);rw [Qik,ar];have an:=h1.set (i:=i) (row:=row) (vs:=(ρ x).cells) (by omega) t1 (by rw [c1,t2]) (fun j d hd=>t5 β S h w tm (fun j=>(ρ x).cells.getD j undef) c2 j d hd);obtain ⟨ak,g1,g2,g3,g4⟩:=Df aj (rows.set i row) ac _ (fun p aq=>hp p (by simp [aq])) an (by rw [U1,h2];simp) h3;exact ⟨ak,g1,g2,by rw [g3,U1],by rw [g4];simp⟩
theorem AI {t:TypeId} {n:Nat} {ac:Array (Nat × Operand)} {o:Oper} (ho:o.op = .buildSlice t n ac) {p:Nat × Operand} (hp:p∈ac.toList):p.2∈o.op.operands.toList:=by
 grind [Op.operands]
theorem Qcj {tt:TT} (hT:TOk P tt) {e:Nat} {ei:TyI} (ak:look tt e=some ei) (aj:ei.zd.length=ei.size) {S:Nat->Prop} {w:World} {z:Value} (hz:z.cells.toList=ei.zero):∀ (j:Nat) (x:D),ei.zd[j]? = some x->∃ v,z.cells[j]? = some v/\Rd S w v x:=by
 intro j x hx;obtain ⟨v,hv,hr⟩:=(hT e ei ak).zd aj j x hx
 grind
theorem N1 {tt:TT} (hT:TOk P tt) {o:Oper} {t:TypeId} {len:Nat} {ac:Array (Nat × Operand)} (ho:o.op = .buildSlice t len ac) {u:Bool} {ba:Nat} {ev:Operand->AV} {hl:Nat->Option Ob} {k:Dl->Option R} {r:R}
  (h:Ku tt hl ba u t len (Vg ev ac.toList) k=some r):∃ dl,k dl=some r/\GO P E o ev hl dl:=by
 unfold Ku at h;split at h
 case h_2=>cases h
 rename_i e aj hk;cases hc:(Nat.ble (len*aj) 16777216&&(look tt e).isSome&&Nat.beq (N9 tt e).length aj) with
 |false=>simp_all
 |true=>
  simp only [hc,QhV] at h;simp only [QhS] at hc;have bm:=Qi2 hc.1.1;obtain ⟨ei,a2⟩:=Option.isSome_iff_exists.1 hc.1.2;have an:=QhT hc.2;have bc:N9 tt e=ei.zd:=by grind [N9]
  rw [bc] at an h;split at h
  case h_2=>cases h
  rename_i rows ay;obtain ⟨ti,bi,bg⟩:=Xt hk (by simp);obtain ⟨hu,a6,inf,ao,ax⟩:=(hT t ti bi).ksl _ _ bg;obtain ⟨bl,ak,a4,_,z,hz,a9⟩:=(hT e ei a2).inf;rw [ao] at ak;injection ak with ak
  subst ak;have ar:z.cells.size=aj:=by rw [<- Qi4,a9,(hT e ei a2).zlen,<- a4,ax]
  have key:∀ β S st a w,Rel E β S st a w->Cw β S st a w o ev->∃ cs:Array Value,(execOp a.eval o).run P w = .ok (.value (.slice (some ⟨w.heap.size,0,none⟩) rows.length len)) (w.alloc (.cells cs e))/\cs.size=len*aj/\rows.length=len/\UU S w cs aj rows:=by
   intro β S st a w hR hO;have base:UU S w ((Array.range (len*z.cells.size)).map (z.cells[· % z.cells.size]!)) z.cells.size (List.replicate len ei.zd):=
    UU.zero (by rw [an,ar]) (Qcj hT a2 (by rw [an,<- a4,ax]) a9) (Qie _)
   rw [ar] at base;obtain ⟨bh,g1,g2,g3,g4⟩:=Df (ρ:=a.eval) (ev:=ev) (z:=ei.zd) ac.toList (List.replicate len ei.zd) rows _ (fun p hp=>hO.at (AI ho hp)) (by rw [an];exact base) (by simp [an]) ay;rw [an] at g1 g2;have aq:rows.length=len:=by rw [g4];simp
   refine ⟨bh,?_,by rw [g3];simp,aq,g2⟩;have aw:(ac.map fun x=>(x.1,a.eval x.2)).toList=ac.toList.map fun p=>(p.1,a.eval p.2):=by simp
   have bj:¬ len*aj>2 ^ 24:=by omega
   unfold execOp;rw [ho];simp only [Instr.buildSlice,QhU,QO hu,sizeOf,Yl ao,ax,QhQ,Qid,bj,if_false,aw];by_cases h0:len*aj=0
   ·have au:((Array.range (len*aj)).map ((#[]:Array Value)[· % (#[]:Array Value).size]!))=((Array.range (len*aj)).map (z.cells[· % aj]!)):=by rw [h0];simp
    simp only [h0,if_true,QhU,Qid,QhQ];rw [h0] at au g1;rw [au,g1,aq];simp [newRow]
   ·simp only [h0,if_false,QhU,zeroValue,Yl ao,hz,QhQ,Qid,ar,g1];simp [newRow,aq]
  have az:len<=maxLen:=by
   have:len*1<=len*aj:=Qif len a6;unfold maxLen;omega
  cases u with
  |true=>
   simp only [QhV] at h;obtain ⟨hn,h⟩:=UR h;refine ⟨_,h,Bn hn fun β S st a w hR hO _=>?_⟩;obtain ⟨cs,g1,g2,g3,g4⟩:=key β S st a w hR hO;exact ⟨cs,len,g1,g2,by omega,az,g4⟩
  |false=>
   simp only [cond_false] at h;refine ⟨_,h,Q3o (e:=e) fun β S st a w hR hO=>?_⟩;obtain ⟨cs,g1,g2,g3,g4⟩:=key β S st a w hR hO;exact ⟨cs,len,g1,by omega,g4⟩
theorem N2 {n:Nat} {u:Unit} (h:Yf n=some u):n<=140737488355328:=by
 unfold Yf at h;cases hb:Nat.ble n 140737488355328 with
 |true=>simp_all
 |false=>simp_all
theorem Q8E {tt:TT} (hT:TOk P tt) {o:Oper} {t:TypeId} {l c:Operand} (ho:o.op = .makeSlice t l c) {u:Bool} {a6:Nat} {ev:Operand->AV} {hl:Nat->Option Ob} {k:Dl->Option R} {r:R}
  (h:QbI tt hl a6 u t (ev l) (ev c) k=some r):∃ dl,k dl=some r/\GO P E o ev hl dl:=by
 unfold QbI at h;cases u with
 |false=>simp at h
 |true=>
  simp only [QhV] at h;split at h
  case h_2=>cases h
  rename_i e ak kn n km m hk bb bk;split at h
  case h_2=>cases h
  rename_i ei au;cases hc:(Nat.ble 1 ei.bytes&&Nat.beq (N9 tt e).length ak) with
  |false=>simp_all
  |true=>
   simp only [hc,QhV] at h;simp only [QhS] at hc;have ar:=Qi2 hc.1;have ay:=QhT hc.2;have a9:N9 tt e=ei.zd:=by simp [N9,au]
   rw [a9] at ay h;obtain ⟨_,h,bj⟩:=QM h;obtain ⟨_,h,aj⟩:=QM h;have aj:=N2 (aj rfl);have bp:0<=n/\n<=m:=by
    have:=bj rfl;cases hd:(decide (0<=n)&&decide (n<=m)) with
    |true=>simpa using hd
    |false=>simp [hd] at this
   obtain ⟨hn,h⟩:=UR h;obtain ⟨ti,bh,bc⟩:=Xt hk (by simp);obtain ⟨hu,bn,inf,an,az⟩:=(hT t ti bh).ksl _ _ bc;obtain ⟨bm,ac,a2,bg,z,hz,a5⟩:=(hT e ei au).inf;rw [an] at ac;injection ac with ac
   subst ac;have ao:z.cells.size=ak:=by rw [<- Qi4,a5,(hT e ei au).zlen,<- a2,az]
   have bl:m.toNat<=140737488355328:=Nat.le_trans (by have:=Qif m.toNat ar;omega) aj;have bi:IntKind.i64.wrap m=m:=by unfold IntKind.wrap;simp [IntKind.bits,IntKind.signed];omega
   have a8:IntKind.i64.wrap n=n:=by unfold IntKind.wrap;simp [IntKind.bits,IntKind.signed];omega
   refine ⟨_,h,Bn hn fun β S st a w hR hO _=>?_⟩;have a3:=(bb▸hO.at (x:=l) (by simp [ho,Op.operands])).int_inv;have a4:=(bk▸hO.at (x:=c) (by simp [ho,Op.operands])).int_inv;have base:UU S w ((Array.range (m.toNat*z.cells.size)).map (z.cells[· % z.cells.size]!)) z.cells.size (List.replicate n.toNat ei.zd):=
    UU.zero (by rw [ay,ao]) (Qcj hT au (by rw [ay,<- a2,az]) a5) (by omega)
   rw [ao] at base;refine ⟨_,m.toNat,?_,?_,?_,?_,base⟩
   ·have aq:(m<0||(inf.bytes:Int)*m>2 ^ 48)=false:=by
     rw [bg];have h1:((ei.bytes:Int)*m)=((m.toNat*ei.bytes:Nat):Int):=by
      rw [Int.natCast_mul,Int.toNat_of_nonneg (by omega),Int.mul_comm]
     have h2:¬ m<0:=by omega
     have h3:¬ ((m.toNat*ei.bytes:Nat):Int)>2 ^ 48:=by omega
     rw [h1,decide_eq_false h2,decide_eq_false h3];rfl
    have ba:((m<0||(inf.bytes:Int)*m>2 ^ 48)||n<0||n>m)=false:=by
     rw [aq];simp;omega
    unfold execOp;rw [ho];simp only [Instr.makeSlice,QhU,QO hu,asInt,asIntOf,a3,a4,Yl an,QhQ,Qid,bi,a8,ba,Bool.false_eq_true,if_false,run_askRoom,sizeOf,az];by_cases h0:m.toNat*ak=0
    ·have ax:((Array.range (m.toNat*ak)).map ((#[]:Array Value)[· % (#[]:Array Value).size]!))=((Array.range (m.toNat*ak)).map (z.cells[· % ak]!)):=by rw [h0];simp
     simp only [h0,if_true,QhU,Qid,QhQ];rw [h0] at ax;rw [ax];simp [newRow]
    ·simp only [h0,if_false,QhU,zeroValue,Yl an,hz,QhQ,Qid,ao];simp [newRow]
   ·simp
   ·simp;omega
   ·unfold maxLen;omega
end
section
variable {P:Program} {E:Env} {R:Type}
theorem Rd.one {S:Nat->Prop} {w:World} {v:Value} {x:D} (h:Rd S w v x):v.oneCell'=true:=by cases h <;> rfl
structure Src (S:Nat->Prop) (w:World) (esz:Nat) (v:Value) (news:List (List D)) (vals:List Value):Prop where
 form:(v = .slice none 0 0/\news=[])\/(∃ c,v = .slice none 0 c/\news=[])\/∃ (ad:Addr) (c:Nat),v = .slice (some ad) news.length c/\∀ (j:Nat) (u:Value),vals[j]? = some u->w.cell? (ad.add j)=some u
 len:vals.length=news.length*esz
 one:∀ u∈vals,u.oneCell'=true
 row:∀ (i:Nat) (r:List D),news[i]? = some r->r.length=esz
 rd:∀ (i j:Nat) (r:List D) (x:D),news[i]? = some r->r[j]? = some x->∃ u,vals[i*esz+j]? = some u/\Rd S w u x
theorem Src.of_fun {S:Nat->Prop} {w:World} {ac:Nat} {news:List (List D)} {ad:Addr} {c:Nat} (f:Nat->Value) (ak:0<ac) (aj:∀ (i:Nat) (r:List D),news[i]? = some r->r.length=ac)
  (hc:∀ (i j:Nat) (r:List D) (x:D),news[i]? = some r->r[j]? = some x->w.cell? (ad.add (i*ac+j))=some (f (i*ac+j))/\Rd S w (f (i*ac+j)) x) :
  ∃ vals,Src S w ac (.slice (some ad) news.length c) news vals:=by
 have split:∀ q,q<news.length*ac->∃ i j r x,q=i*ac+j/\news[i]? = some r/\r[j]? = some x:=by
  intro q hq;have hi:q / ac<news.length:=Nat.div_lt_of_lt_mul (by grind);have hj:q % ac<ac:=Nat.mod_lt _ ak;have h1:news[q / ac]? = some (news[q / ac]):=Qi6 hi;have h2:=aj _ _ h1;refine ⟨q / ac,q % ac,news[q / ac],(news[q / ac])[q % ac]'(by omega),?_,h1,Qi6 _⟩
  grind [Nat.mul_comm,Nat.div_add_mod]
 refine ⟨(List.range (news.length*ac)).map f,⟨.inr (.inr ⟨ad,c,rfl,fun j u hu=>?_⟩),by simp,fun u hu=>?_,aj,fun i j r x h1 h2=>?_⟩⟩
 ·grind
 ·obtain ⟨q,hq,rfl⟩:=List.mem_map.1 hu;obtain ⟨i,j',r,x,rfl,h1,h2⟩:=split q (by simp_all);exact (hc i j' r x h1 h2).2.one
 ·have hi:i<news.length:=(QhR.1 h1).1;have hj:j<ac:=by have:=aj i r h1;have:=(QhR.1 h2).1;omega
  have an:(i+1)*ac<=news.length*ac:=QhX _ hi
  grind
theorem Q24 {ac:Nat} (an:0<ac) {hl:Nat->Option Ob} {av:AV} {news:List (List D)} {rx:List Nat} (h:AM ac hl av=some (news,rx))
  {β:Nat->Option Nat} {S:Nat->Prop} {st:St} {a:Act} {w:World} (hR:Rel E β S st a w) {v:Value} (hv:RdA β S (look st.h) w (tmv a) v av) (hA:∀ l,l∈rx->look st.h l=hl l):∃ vals,Src S w ac v news vals:=by
 have ak:∀ v,(v = .slice none 0 0\/∃ c,v = .slice none 0 c)->Src S w ac v [] []:=fun v hv=>
  ⟨by grind,by simp,by simp,by simp,by simp⟩
 unfold AM at h;split at h
 ·rename_i s rows;cases hb:Nat.beq s ac with
  |false=>simp_all
  |true=>
   obtain rfl:=QhT hb;simp only [hb,QhV,Option.some.injEq,Prod.mk.injEq] at h;obtain ⟨rfl,rfl⟩:=h;rcases hv.d_inv.sl_inv with ⟨rfl,ad,cap,rfl⟩ | ⟨ad,cap,c,rfl,hS,ao,aq,hc,hr⟩
   ·cases ad with
    |none=>exact ⟨[],ak _ (.inr ⟨cap,rfl⟩)⟩
    |some ad=>exact ⟨[],⟨.inr (.inr ⟨ad,cap,rfl,by simp⟩),by simp,by simp,by simp,by simp⟩⟩
   ·refine Src.of_fun (fun q=>c (q / s) (q % s)) an aq fun i j r x h1 h2=>?_
    have hj:j<s:=by grind
    simp_all [Nat.add_comm,Nat.add_mul_div_right,Nat.div_eq_of_lt,Nat.zero_add,Nat.add_mul_mod_self_right,Nat.mod_eq_of_lt]
 ·cases h;exact ⟨[],ak _ (.inl hv.nil_inv)⟩
 ·rename_i l;split at h
  ·rename_i e s rows a7;cases hb:Nat.beq s ac with
   |false=>simp [hb] at h
   |true=>
    obtain rfl:=QhT hb;simp only [hb,QhV,Option.some.injEq,Prod.mk.injEq] at h;obtain ⟨rfl,rfl⟩:=h;have au:look st.h l=some (.arr e s rows):=by simp_all
    rcases RdA.arr_inv au hv with ⟨_,rfl,rfl⟩ | ⟨b,cap,cs,ty,fz,aw,rfl,hw,a9,ao,a6⟩
    ·exact ⟨[],ak _ (.inl rfl)⟩
    ·rcases hR.hr.ob l _ au with ⟨hn,_⟩ | ⟨b2,ay,ar,a2,aq,a3,a5⟩
     ·rw [aw] at hn;cases hn
     obtain rfl:b=b2:=by rw [aw] at ar;injection ar
     refine Src.of_fun (fun q=>ay.getD q undef) an a3 fun i j r x h1 h2=>?_
     obtain ⟨u,hu,a4⟩:=a5 i j r x h1 h2;have az:=(Qi5.1 hu).1;have aj:=Hq az;refine ⟨by rw [H3,Nat.zero_add,J3 a2];exact aj,?_⟩;rw [hu] at aj;injection aj with aj
     rw [<- aj];exact a4
  ·cases h
 ·cases h
theorem Pa {w:World} {t ty e:Nat} {i:TypeInfo} {z:Value} {aj base:Nat} (ht:P.underlying t=some (.slice e)) (hi:P.info? e=some i) (hz:i.zero=some z) (aq:i.size=aj) (az:z.cells.size=aj) (au:0<aj)
  {v:Value} {n:Nat} {xs:List Value} (an:w.ownsRow base e aj v n xs) {S:Nat->Prop} {x:Value} {news:List (List D)} {vals:List Value} (ak:Src S w aj x news vals)
  (ax:n+news.length<=maxLen) (ao:(n+news.length)*i.bytes<=140737488355328) (ar:base<=w.heap.size) :
  ∃ v' w',(Builtin.append_ #[t,t] ty #[v,x]).run P w = .ok v' w'/\w'.ownsRow base e aj v' (n+news.length) (xs++vals)/\w.grownBy w' v.ownBlock/\(v'.ownBlock=v.ownBlock\/v'.ownBlock=some w.heap.size):=by
 have ac:∀ c,x = .slice none 0 c->news=[]->∃ v' w',(Builtin.append_ #[t,t] ty #[v,x]).run P w = .ok v' w'/\w'.ownsRow base e aj v' (n+news.length) (xs++vals)/\w.grownBy w' v.ownBlock/\(v'.ownBlock=v.ownBlock\/v'.ownBlock=some w.heap.size):=by
  intro c hx hn;subst hx;subst hn;have hv:vals=[]:=Qi0 (by simpa using ak.len);subst hv;refine ⟨v,w,?_,by simpa using an,⟨rfl,rfl,rfl,Qie _,fun _ _ _=>rfl⟩,.inl rfl⟩;rcases an.2 with ⟨rfl,rfl⟩ | ⟨g,cap,a4,rfl,_,_,ay,_⟩
  ·simp [Builtin.append_,QO ht,sizeOf,Yl hi,Builtin.lenOf,Builtin.firstCells]
  ·simp [Builtin.append_,QO ht,sizeOf,Yl hi,Builtin.lenOf,Builtin.firstCells,ay,storeCells]
 rcases ak.form with ⟨h1,h2⟩ | ⟨c,h1,h2⟩ | ⟨ad,c,rfl,hc⟩
 ·exact ac 0 h1 h2
 ·exact ac c h1 h2
 ·obtain ⟨v',w',g1,g2,g3,_,g5⟩:=run_append_own_at (P:=P) w base t ty e i z aj i.bytes ht hi hz aq rfl az au v n xs an ad news.length c vals ak.len hc ak.one ax ao ar;exact ⟨v',w',g1,g2,g3,g5⟩
theorem HO {o:Oper} {c:Call} {s x:Operand} {t:Nat} (ho:o.op = .call c) (hc:c.callee = .builtin .append) (ha:c.args.toList=[s,x]) (hat:c.argTypes.toList=[t,t]) {a:Act} {w w':World} {v':Value}
  (h:(Builtin.append_ #[t,t] o.type #[a.eval s,a.eval x]).run P w = .ok v' w'):(execOp a.eval o).run P w = .ok (.value v') w':=by
 have aj:c.args = #[s,x]:=by grind
 have ac:c.argTypes = #[t,t]:=by grind
 simp_all [execOp,resolve,invoke,builtin,QhU,Qid,QhQ,List.map_toArray,Qik,List.map_nil]
def DF (old:Option Nat) (h:List (Nat × Ob)):List (Nat × Ob):=
 match old with
 |some l=>rem l h
 |none=>h
theorem Ss {β:Nat->Option Nat} {S:Nat->Prop} {st:St} {a:Act} {w w':World} (hR:Rel E β S st a w) {ac e aj:Nat} {rows news:List (List D)} {vals:List Value} (bq:∀ (i j:Nat) (r:List D) (x:D),news[i]? = some r->r[j]? = some x->∃ u,vals[i*aj+j]? = some u/\Rd S w u x) (bv:∀ (i:Nat) (r:List D),news[i]? = some r->r.length=aj)
  (hn:look st.h ac=none) (hc:Ur st ac=true) {v v':Value} {base:Nat} {xs:List Value} (old:Option Nat)
  (ao:∀ l,old=some l->(look st.h l).isSome=true)
  (aq:∀ b,v.ownBlock=some b->∃ l,old=some l/\β l=some b)
  (bz:∀ (i j:Nat) (r:List D) (y:D),rows[i]? = some r->r[j]? = some y->∃ u,xs[i*aj+j]? = some u/\Rd S w u y) (bn:∀ (i:Nat) (r:List D),rows[i]? = some r->r.length=aj) (bp:xs.length=rows.length*aj)
  (a9:w'.ownsRow base e aj v' (rows.length+news.length) (xs++vals)) (hg:w.grownBy w' v.ownBlock) (hat:v'.ownBlock=v.ownBlock\/∀ b,v'.ownBlock=some b->w.heap.size<=b) :
  ∃ β' S',Rel E β' S' ⟨st.n,st.tm,(ac,.arr e aj (rows++news))::rem ac (DF old st.h)⟩ a w' /\
   RdA β' S' (look ((ac,.arr e aj (rows++news))::rem ac (DF old st.h))) w' (tmv a) v' (.arr ac):=by
 have ax:∀ k,look ((ac,Ob.arr e aj (rows++news))::rem ac (DF old st.h)) k=if k=ac then some (.arr e aj (rows++news)) else if old=some k then none else look st.h k:=by
  intro k;rw [WJ];by_cases e1:k=ac
  ·simp [e1]
  ·rw [Qi3 e1,Qi3 e1];cases old with
   |none=>simp [DF]
   |some l=>
    simp only [DF,C2,Option.some.injEq];by_cases e2:k=l
    ·simp [e2]
    ·rw [Qi3 e2,Qi3 (fun h=>e2 h.symm)]
 have bb:∀ b,S b->w'.heap[b]? = w.heap[b]?:=fun b hS=>hg.block b (hR.hr.sb b hS) (fun e1=>by
  obtain ⟨l,hl,hb⟩:=aq b e1.symm;exact hR.hr.apart l b (ao l hl) hb hS)
 have a5:∀ k b,(look st.h k).isSome=true->old≠some k->β k=some b->w'.heap[b]? = w.heap[b]?:=fun k b hs aw hb=>hg.block b (Rt hR hs hb) (fun e1=>by
  obtain ⟨l,hl,au⟩:=aq b e1.symm;exact aw (by rw [hl,hR.hr.inj k l b hs (ao l hl) hb au]))
 have b0:(xs++vals).length=(rows.length+news.length)*aj:=a9.1;have a4:∀ (i j:Nat) (r:List D) (y:D),(rows++news)[i]? = some r->r[j]? = some y->∃ u,(xs++vals)[i*aj+j]? = some u/\Rd S w' u y:=by
  intro i j r y h1 h2;by_cases hi:i<rows.length
  ·rw [List.getElem?_append_left hi] at h1;obtain ⟨u,hu,hr⟩:=bz i j r y h1 h2;refine ⟨u,?_,hr.mono (fun _ h=>h) bb⟩;rw [List.getElem?_append_left ((QhR.1 hu).1)];exact hu
  ·rw [List.getElem?_append_right (by omega)] at h1;obtain ⟨u,hu,hr⟩:=bq _ j r y h1 h2;refine ⟨u,?_,hr.mono (fun _ h=>h) bb⟩;have hm:i*aj=(i-rows.length)*aj+rows.length*aj:=by rw [<- Nat.add_mul];congr 1;omega
   rw [List.getElem?_append_right (by omega),bp,show i*aj+j-rows.length*aj=(i-rows.length)*aj+j from by omega];exact hu
 have bg:∀ (i:Nat) (r:List D),(rows++news)[i]? = some r->r.length=aj:=by
  intro i r h1;by_cases hi:i<rows.length
  ·rw [List.getElem?_append_left hi] at h1;exact bn i r h1
  ·rw [List.getElem?_append_right (by omega)] at h1;exact bv _ r h1
 obtain ⟨gb,ay,br,bx⟩:∃ gb:Option Nat,v'.ownBlock=gb/\(∀ β',β' ac=gb->ObR β' S (look ((ac,Ob.arr e aj (rows++news))::rem ac (DF old st.h))) w' ac (.arr e aj (rows++news))) /\
   ∀ β',β' ac=gb->RdA β' S (look ((ac,.arr e aj (rows++news))::rem ac (DF old st.h))) w' (tmv a) v' (.arr ac):=by
  rcases a9.2 with ⟨rfl,h0⟩ | ⟨g,cap,bi,rfl,_,hw,a7,bo,bk,ba⟩
  ·have bl:rows++news=[]:=Qi0 (by simpa using h0);refine ⟨none,rfl,fun β' hb=>.inl ⟨hb,bl⟩,fun β' hb=>.arr0 ac e aj hb (by rw [ax,Qi7 rfl,bl])⟩
  ·have bh:(rows++news).length=rows.length+news.length:=by simp
   refine ⟨some g,rfl,fun β' hb=>.inr ⟨g,bi,hb,hw,?_,bg,fun i j r y h1 h2=>?_⟩,fun β' hb=>?_⟩
   ·rw [bh,bk];exact QhX _ a7
   ·obtain ⟨u,hu,hr⟩:=a4 i j r y h1 h2;refine ⟨u,?_,hr⟩;rw [<- ba,List.getElem?_take] at hu;split at hu
    ·simpa using hu
    ·cases hu
   ·have:=RdA.arr (S:=S) (tm:=tmv a) (h:=look ((ac,Ob.arr e aj (rows++news))::rem ac (DF old st.h))) ac g cap e aj (rows++news) bi e (0,0) hb (by rw [ax,Qi7 rfl]) hw bk (by rw [bh];exact a7) bo;rw [bh] at this;exact this
 have a2:∀ k b,k≠ac->(look st.h k).isSome=true->old≠some k->β k=some b->gb=some b->False:=by
  intro k b _ hs aw hb he;rcases hat with h | h
  ·obtain ⟨l,hl,au⟩:=aq b (by rw [<- h,ay,he]);exact aw (by rw [hl,hR.hr.inj k l b hs (ao l hl) hb au])
  ·have:=h b (by rw [ay,he]);have:=Rt hR hs hb;omega
 have an:∀ k,k≠ac->(look ((ac,Ob.arr e aj (rows++news))::rem ac (DF old st.h)) k).isSome=true->(look st.h k).isSome=true/\old≠some k:=by
  intro k hk hs;rw [ax,Qi3 hk] at hs;by_cases e1:old=some k
  ·rw [Qi7 e1] at hs;cases hs
  ·rw [Qi3 e1] at hs;exact ⟨hs,e1⟩
 have bm:old≠some ac:=fun e1=>by have:=ao ac e1;rw [hn] at this;cases this
 refine ⟨SS β ac gb,S,?_,bx _ (by simp [SS])⟩;refine hR.upd (fun _ h=>h) bb (fun k=>k=ac\/old=some k) (fun k hk=>?_) (fun k hk=>?_) (fun k o hk ho=>?_) ?_ ?_ ?_ (fun b hS=>Qih (hR.hr.sb b hS) hg.size) hR.hr.sfr ?_
 ·have a3:k≠ac:=fun h=>hk (.inl h)
  have bj:old≠some k:=fun h=>hk (.inr h)
  exact ⟨by simp [SS,a3],by rw [ax,Qi3 a3,Qi3 bj],fun b hs hb=>a5 k b hs bj hb⟩
 ·rcases hk with rfl | hk
  ·exact .inr hc
  ·left;have a3:k≠ac:=fun h=>bm (h▸hk)
   have ar:look ((ac,Ob.arr e aj (rows++news))::rem ac (DF old st.h)) k=none:=by rw [ax,Qi3 a3,Qi7 hk]
   exact ⟨by simp [SS,a3],fun _=>ar,fun _ _ _ _=>.inl ar,fun b cs ty fz hs=>(by rw [ar] at hs;cases hs),fun _ _ _=>.inl ar⟩
 ·by_cases e1:k=ac
  ·subst e1;rw [ax,Qi7 rfl] at ho;injection ho with ho
   subst ho;exact br _ (by simp [SS])
  ·rcases hk with h | h
   ·exact absurd h e1
   ·rw [ax,Qi3 e1,Qi7 h] at ho;cases ho
 ·intro k k' b h1 h2 h3 h4;unfold SS at h3 h4;by_cases e1:k=ac <;> by_cases e2:k'=ac
  ·rw [e1,e2]
  ·rw [Qi7 e1] at h3;rw [Qi3 e2] at h4;obtain ⟨hs,aw⟩:=an k' e2 h2;exact (a2 k' b e2 hs aw h4 h3).elim
  ·rw [Qi3 e1] at h3;rw [Qi7 e2] at h4;obtain ⟨hs,aw⟩:=an k e1 h1;exact (a2 k b e1 hs aw h3 h4).elim
  ·rw [Qi3 e1] at h3;rw [Qi3 e2] at h4;exact hR.hr.inj k k' b (an k e1 h1).1 (an k' e2 h2).1 h3 h4
 ·intro k b h1 h2 hS;unfold SS at h2;by_cases e1:k=ac
  ·rw [Qi7 e1] at h2;rcases hat with h | h
   ·obtain ⟨l,hl,au⟩:=aq b (by rw [<- h,ay,h2]);exact hR.hr.apart l b (ao l hl) au hS
   ·have:=h b (by rw [ay,h2]);have:=hR.hr.sb b hS;omega
  ·rw [Qi3 e1] at h2;exact hR.hr.apart k b (an k e1 h1).1 h2 hS
 ·intro k b h1 h2;unfold SS at h2;by_cases e1:k=ac
  ·rw [Qi7 e1] at h2;rcases hat with h | h
   ·obtain ⟨l,hl,au⟩:=aq b (by rw [<- h,ay,h2]);exact hR.hr.own l b (ao l hl) au
   ·have:=h b (by rw [ay,h2]);right;have:=hR.hr.fr.size;omega
  ·rw [Qi3 e1] at h2;exact hR.hr.own k b (an k e1 h1).1 h2
 ·have fr:=hR.hr.fr;refine ⟨hg.os.trans fr.os,hg.tape.trans fr.tape,hg.output.trans fr.output,Nat.le_trans fr.size hg.size,fun b hb hM=>(hg.block b (Qih hb fr.size) (fun e1=>?_)).trans (fr.block b hb hM)⟩;obtain ⟨l,hl,au⟩:=aq b e1.symm;rcases hR.hr.own l b (ao l hl) au with h | h
  ·exact hM h
  ·omega
theorem Eh {β:Nat->Option Nat} {S:Nat->Prop} {st:St} {a:Act} {w w':World} (hR:Rel E β S st a w) {ac e aj:Nat} {rows news:List (List D)} {vals:List Value} {x:Value} (ak:Src S w aj x news vals)
  (hn:look st.h ac=none) (hc:Ur st ac=true) {v v':Value} {base:Nat} {xs:List Value} (old:Option Nat)
  (ao:∀ l,old=some l->(look st.h l).isSome=true)
  (ar:∀ b,v.ownBlock=some b->∃ l,old=some l/\β l=some b)
  (aw:∀ (i j:Nat) (r:List D) (y:D),rows[i]? = some r->r[j]? = some y->∃ u,xs[i*aj+j]? = some u/\Rd S w u y) (aq:∀ (i:Nat) (r:List D),rows[i]? = some r->r.length=aj) (au:xs.length=rows.length*aj)
  (an:w'.ownsRow base e aj v' (rows.length+news.length) (xs++vals)) (hg:w.grownBy w' v.ownBlock) (hat:v'.ownBlock=v.ownBlock\/v'.ownBlock=some w.heap.size) :
  ∃ β' S',Rel E β' S' ⟨st.n,st.tm,(ac,.arr e aj (rows++news))::rem ac (DF old st.h)⟩ a w' /\
   RdA β' S' (look ((ac,.arr e aj (rows++news))::rem ac (DF old st.h))) w' (tmv a) v' (.arr ac):=
 Ss hR ak.rd ak.row hn hc old ao ar aw aq au an hg (hat.imp id fun h b hb=>by rw [h] at hb;injection hb with hb;omega)
theorem Q4H {tt:TT} (hT:TOk P tt) {o:Oper} {c:Call} {s x:Operand} {t:Nat} (ho:o.op = .call c) (az:c.callee = .builtin .append) (ha:c.args.toList=[s,x]) (hat:c.argTypes.toList=[t,t]) {g:Bool} {ao:Nat} {ev:Operand->AV} {hl:Nat->Option Ob} {k:Dl->Option R} {r:R}
  (h:Q4N tt ao g hl t (ev s) (ev x) k=some r):∃ dl,k dl=some r/\(g=true->GO P E o ev hl dl):=by
 have bo:c.args = #[s,x]:=by grind
 have bv:s∈o.op.operands.toList:=by grind [Op.operands,Call.operands]
 have bq:x∈o.op.operands.toList:=by simp [ho,Op.operands,Call.operands,az,bo]
 unfold Q4N at h
 ·split at h
  case h_2=>cases h
  rename_i e ak hk;split at h
  case h_2=>cases h
  rename_i ei co;cases hc:(Nat.ble 1 ei.bytes&&Nat.beq ei.zero.length ak) with
  |false=>simp_all
  |true=>
   simp only [hc,QhV] at h;simp only [QhS] at hc;have aw:=Qi2 hc.1;split at h
   case h_2=>cases h
   rename_i news rx a2;obtain ⟨ti,c3,cq⟩:=Xt hk (by simp);obtain ⟨hu,aq,inf,ax,bc⟩:=(hT t ti c3).ksl _ _ cq;obtain ⟨c6,au,dc,bg,z,hz,cu⟩:=(hT e ei co).inf;rw [ax] at au;injection au with au
   subst au;have a4:z.cells.size=ak:=by rw [<- Qi4,cu];exact QhT hc.2
   split at h
   ·-- nil
    rename_i a9;obtain ⟨_,h,ac⟩:=QM h;obtain ⟨hn,h⟩:=UR h;refine ⟨_,h,fun hg=>?_⟩;have ac:=N2 (ac hg);intro β S st a w hR hO hA a7 K Q hK;have ar:look st.h ao=none:=by rw [hA ao (.inr (by simp [wrL]))];exact hn
    have a5:Ur st ao=true:=by simpa [Wc,ar] using a7
    have hv:=(a9▸hO.at bv).nil_inv;obtain ⟨vals,aj⟩:=Q24 aq a2 hR (hO.at bq) (fun l a3=>hA l (.inl a3));have bi:news.length<=140737488355328:=Nat.le_trans (by have:=Qif news.length aw;omega) ac;obtain ⟨v',w',g1,g2,g3,g4⟩:=Pa (ty:=o.type) hu ax hz bc a4 aq (World.ownsRow_nil w w.heap.size e ak) aj (by unfold maxLen;omega) (by rw [bg];simpa using ac) (Qie _);unfold Oper.wp;rw [HO ho az ha hat (by rw [hv];exact g1)];refine hK _ _ ?_;have:=Eh (rows:=[]) (v:=.slice none 0 0) hR aj ar a5 none (fun _ h=>by cases h) (fun b h=>by simp [Value.ownBlock] at h) (fun i j r y h1=>by simp at h1) (fun i r h1=>by simp at h1) (by simp) g2 g3 g4;exact this
   ·-- a full slice
    rename_i s0 rows a9;cases hb:Nat.beq s0 ak with
    |false=>simp [hb] at h
    |true=>
     simp only [hb,QhV] at h;obtain rfl:=QhT hb;obtain ⟨_,h,a8⟩:=QM h;obtain ⟨_,h,ac⟩:=QM h;obtain ⟨hn,h⟩:=UR h;refine ⟨_,h,fun hg=>?_⟩;have ac:=N2 (ac hg);have a8:news≠[]:=fun e=>by have:=a8 hg;rw [e] at this;cases this
     intro β S st a w hR hO hA a7 K Q hK;have ar:look st.h ao=none:=by rw [hA ao (.inr (by simp [wrL]))];exact hn
     have a5:Ur st ao=true:=by simpa [Wc,ar] using a7
     obtain ⟨ad,hv,br⟩:=(a9▸hO.at bv).fs_inv;obtain ⟨vals,aj⟩:=Q24 aq a2 hR (hO.at bq) (fun l a3=>hA l (.inl a3));have bi:rows.length+news.length<=140737488355328:=Nat.le_trans (by have:=Qif (rows.length+news.length) aw;omega) ac;have df:0<news.length:=List.length_pos_iff.2 a8;obtain ⟨sa,sc,cr,c4⟩:∃ (sa:Addr) (sc:Nat),a.eval x = .slice (some sa) news.length sc/\∀ (j:Nat) (u:Value),vals[j]? = some u->w.cell? (sa.add j)=some u:=by
      rcases aj.form with ⟨_,h2⟩ | ⟨_,_,h2⟩ | ⟨sa,sc,h1,h2⟩
      ·exact absurd h2 a8
      ·exact absurd h2 a8
      ·exact ⟨sa,sc,h1,h2⟩
     obtain ⟨ce,ay⟩:=Q24 (hl:=hl) (av:=.d (.sl s0 rows)) (news:=rows) (rx:=[]) aq (by simp [AM]) hR (.d _ _ br) (fun l a3=>by cases a3);have bj:∀ c,a.eval s = .slice none 0 c->rows=[]->o.wp P a w K Q:=by
      intro c ca a6;have cz:a.eval s = .slice none 0 0:=by
       rw [hv,a6] at ca ⊢;injection ca with h1 h2 h3
       rw [h1];rfl
      subst a6;obtain ⟨v',w',g1,g2,g3,g4⟩:=Pa (ty:=o.type) hu ax hz bc a4 aq (World.ownsRow_nil w w.heap.size e s0) aj (by unfold maxLen;omega) (by rw [bg];simpa using ac) (Qie _);unfold Oper.wp;rw [HO ho az ha hat (by rw [cz];exact g1)];refine hK _ _ ?_;exact Eh (rows:=[]) (v:=.slice none 0 0) hR aj ar a5 none (fun _ h=>by cases h) (fun b h=>by simp [Value.ownBlock] at h) (fun i j r y h1=>by simp at h1) (fun i r h1=>by simp at h1) (by simp) g2 g3 g4
     rcases ay.form with ⟨h1,h2⟩ | ⟨c,h1,h2⟩ | ⟨oa,oc,h1,h2⟩
     ·exact bj _ h1 h2
     ·exact bj _ h1 h2
     ·have de:oc=rows.length:=by
       rw [hv] at h1;injection h1 with _ _ h3
       exact h3.symm
      obtain ⟨v',w',g1,g2,g3⟩:=run_append_arg_grows (P:=P) w t o.type e inf z s0 inf.bytes hu ax hz bc rfl a4 aq oa rows.length oc ce ay.len h2 sa news.length sc vals aj.len c4 (by omega) (by unfold maxLen;omega) (by rw [bg];exact ac);unfold Oper.wp;rw [HO ho az ha hat (by rw [h1,cr];exact g1)];refine hK _ _ ?_;refine Ss (rows:=rows) (v:=.slice none 0 0) hR aj.rd aj.row ar a5 none (fun _ h=>by cases h) (fun b h=>by simp [Value.ownBlock] at h) ay.rd ay.row ay.len g2 g3 (.inr fun b hb=>?_);rcases g2.2 with ⟨rfl,_⟩ | ⟨g,cap,da,rfl,dd,_⟩
      ·simp [Value.ownBlock] at hb
      ·simp [Value.ownBlock] at hb;omega
   ·-- an array of the call's own
    rename_i l a9;split at h
    ·rename_i e' s' rows b4;cases hb:(Nat.beq e e'&&Nat.beq ak s') with
     |false=>simp [hb] at h
     |true=>
      simp only [hb,QhV] at h;simp only [QhS] at hb;obtain rfl:=QhT hb.1;obtain rfl:=QhT hb.2;obtain ⟨_,h,ac⟩:=QM h;obtain ⟨hn,h⟩:=UR h;refine ⟨_,h,fun hg=>?_⟩;have ac:=N2 (ac hg);intro β S st a w hR hO hA a7 K Q hK;have ar:look st.h ao=none:=by rw [hA ao (.inr (by simp [wrL]))];exact hn
      have ba:look st.h l=some (.arr e ak rows):=by rw [hA l (.inl (by simp))];exact b4
      have a5:Ur st ao=true:=by simp [Wc,ar] at a7;exact a7
      obtain ⟨vals,aj⟩:=Q24 aq a2 hR (hO.at bq) (fun l a3=>hA l (.inl (by simp [a3])));have bi:rows.length+news.length<=140737488355328:=Nat.le_trans (by have:=Qif (rows.length+news.length) aw;omega) ac;have b5:∀ (base:Nat) (xs:List Value) (v:Value),a.eval s=v->w.ownsRow base e ak v rows.length xs->base<=w.heap.size->(∀ b,v.ownBlock=some b->β l=some b) ->
        (∀ (i j:Nat) (r:List D) (y:D),rows[i]? = some r->r[j]? = some y->∃ u,xs[i*ak+j]? = some u/\Rd S w u y)->(∀ (i:Nat) (r:List D),rows[i]? = some r->r.length=ak)->o.wp P a w K Q:=by
       intro base xs v hv bk bn b9 cy cc;obtain ⟨v',w',g1,g2,g3,g4⟩:=Pa (ty:=o.type) hu ax hz bc a4 aq bk aj (by unfold maxLen;omega) (by rw [bg];exact ac) bn;unfold Oper.wp;rw [HO ho az ha hat (by rw [hv];exact g1)];refine hK _ _ ?_;exact Eh (rows:=rows) (v:=v) hR aj ar a5 (some l) (fun l' h=>by injection h with h;subst h;simp [ba]) (fun b h=>⟨l,rfl,b9 b h⟩) cy cc bk.1 g2 g3 g4
      rcases RdA.arr_inv ba (a9▸hO.at bv) with ⟨_,a6,hv⟩ | ⟨b,cap,cs,ty,fz,bp,hv,hw,b8,b1,cf⟩
      ·have:=World.ownsRow_nil w w.heap.size e ak;exact b5 w.heap.size [] _ hv (by rw [a6];exact this) (Qie _) (fun b h=>by simp [Value.ownBlock] at h) (fun i j r y h1=>by rw [a6] at h1;simp at h1) (fun i r h1=>by rw [a6] at h1;simp at h1)
      ·rcases hR.hr.ob l _ ba with ⟨cj,_⟩ | ⟨b2,cx,b7,bm,c8,b6,br⟩
       ·rw [bp] at cj;cases cj
       obtain rfl:b=b2:=by rw [bp] at b7;injection b7
       obtain rfl:cs=cx:=by rw [hw] at bm;injection bm with h1;injection h1
       refine b5 0 (cs.toList.take (rows.length*ak)) _ hv ⟨by simp;omega,.inr ⟨b,cap,cs,rfl,Nat.zero_le _,bm,b1,cf,b8,rfl⟩⟩ (Nat.zero_le _) (fun b3 h=>by simp [Value.ownBlock] at h;subst h;exact bp) (fun i j r y h1 h2=>?_) b6;obtain ⟨u,cn,cw⟩:=br i j r y h1 h2;have hi:i<rows.length:=(QhR.1 h1).1;have hj:j<ak:=by have:=b6 i r h1;have:=(QhR.1 h2).1;omega
       have c9:(i+1)*ak<=rows.length*ak:=QhX _ hi;have c2:(i+1)*ak=i*ak+ak:=Qij i _;exact ⟨u,by rw [List.getElem?_take,Qi7 (by omega)];simpa using cn,cw⟩
    ·cases h
   ·cases h
end
section
variable {P:Program} {E:Env} {R:Type}
def KE (h:Nat->Option Ob):List (Nat × Option Ob)->Nat->Option Ob
 |[]=>h
 |(l,o)::r=>KE (fun k=>if k=l then o else h k) r
theorem KU:∀ (wr:List (Nat × Option Ob)) (h:List (Nat × Ob)),look (NL h wr)=KE (look h) wr
 |[],h=>rfl
 |(l,some o)::r,h=>by
  rw [NL,KE,KU r];congr 1;funext k;exact WJ l k o h
 |(l,none)::r,h=>by
  rw [NL,KE,KU r];congr 1;funext k;exact C2 l k h
theorem UL:∀ {wr:List (Nat × Option Ob)} {h:Nat->Option Ob} {l:Nat},l ∉ wr.map (·.1)->KE h wr l=h l
 |[],_,_,_=>rfl
 |(k,o)::r,h,l,hn=>by
  simp only [Qik,Qi9,not_or] at hn;rw [KE,UL hn.2,Qi3 hn.1]
structure CallOut (β:Nat->Option Nat) (S:Nat->Prop) (h:Nat->Option Ob) (w:World) (dl:Dl) (β':Nat->Option Nat) (S':Nat->Prop) (w':World) (v:Value):Prop where
 hs:∀ b,S b->S' b
 sf:∀ b,S' b->S b\/w.heap.size<=b\/∃ l,l∈wrL dl/\(h l).isSome=true/\β l=some b
 sb:∀ b,S' b->b<w'.heap.size
 fr:Fr (fun b=>∃ l,l∈wrL dl/\(h l).isSome=true/\β l=some b) w w'
 bsame:∀ l,l ∉ wrL dl->β' l=β l
 obs:∀ l o,l∈wrL dl->KE h dl.wr l=some o->ObR β' S' (KE h dl.wr) w' l o
 keep:∀ l,l∈wrL dl->(h l).isSome=true->Keep β h w β' (KE h dl.wr) w' l
 blk:∀ l b,l∈wrL dl->(KE h dl.wr l).isSome=true->β' l=some b->(w.heap.size<=b\/∃ l0,l0∈wrL dl/\(h l0).isSome=true/\β l0=some b)/\¬ S' b
 inj:∀ l l' b,l∈wrL dl->l'∈wrL dl->(KE h dl.wr l).isSome=true->(KE h dl.wr l').isSome=true->β' l=some b->β' l'=some b->l=l'
 none:∀ l,l∈wrL dl->h l=none->KE h dl.wr l=none->β' l=β l
 res:RdA β' S' (KE h dl.wr) w' tm0 v dl.v
 gd:∀ t,gds t dl.v=false
structure Objs (β:Nat->Option Nat) (S:Nat->Prop) (h:Nat->Option Ob) (w:World):Prop where
 ob:∀ l o,h l=some o->ObR β S h w l o
 inj:∀ l l' b,(h l).isSome=true->(h l').isSome=true->β l=some b->β l'=some b->l=l'
 apart:∀ l b,(h l).isSome=true->β l=some b->¬ S b
 sb:∀ b,S b->b<w.heap.size
def ArgsRd (β:Nat->Option Nat) (S:Nat->Prop) (h:Nat->Option Ob) (w:World) (args:List Value) (ac:List AV):Prop:=
 args.length=ac.length/\∀ (i:Nat) (v:Value) (av:AV),args[i]? = some v->ac[i]? = some av->RdA β S h w tm0 v av
def Zh (P:Program) (f:Nat) (avs:List AV) (hl:Nat->Option Ob) (dl:Dl):Prop:=
 (∃ fn, P.funcs[f]? = some fn /\ fn.body.isSome = true /\ (fn.name == "runtime.NumGoroutine") = false) /\
 ∀ β S h w args,Objs β S h w->ArgsRd β S h w args avs->(∀ l,l∈dl.rd\/l∈wrL dl->h l=hl l) ->
  Calls P f args.toArray w fun e w'=>∃ v β' S',e = .returned v/\CallOut β S h w dl β' S' w' v
def CN (P:Program) (spec:Q4p):Prop:=
 ∀ (R:Type) (f aj:Nat) (g:Bool) (ac:List AV) (hl:Nat->Option Ob) (k:Dl->Option R) (r:R),spec R f aj g ac hl k=some r ->
  ∃ dl,k dl=some r/\(g=true->Zh P f ac hl dl)
theorem Rel.objs {β:Nat->Option Nat} {S:Nat->Prop} {st:St} {a:Act} {w:World} (hR:Rel E β S st a w):Objs β S (look st.h) w:=⟨hR.hr.ob,hR.hr.inj,hR.hr.apart,hR.hr.sb⟩
theorem Q9V {β:Nat->Option Nat} {S S2:Nat->Prop} {h:Nat->Option Ob} {w:World} {tm:Nat->Value} {v:Value} {av:AV} (hv:RdA β S h w tm v av) (hs:SF av=true):RdA β S2 h w tm v av:=by
 have hL:∀ (l:List AV) (i:Nat) (x:AV),l[i]? = some x->RJ l=true->SF x=true:=by
  intro l;induction l with
  |nil=>simp_all
  |cons a r ih=>
   intro i x h hs;simp only [RJ,QhS] at hs
   grind
 induction hv with
 |top v=>exact .top v
 |d v x hx=>cases hx with
  |int k n=>exact .d _ _ (.int k n)
  |bool b=>exact .d _ _ (.bool b)
  |str s=>exact .d _ _ (.str s)
  |sl0 a c s=>trivial
  |sl=>simp [SF] at hs
 |nil=>exact .nil
 |ag cs l hl _ ih=>exact .ag cs l hl fun i x hx=>ih i x hx (hL l i x hx (by assumption))
 |tup cs l hl _ ih=>exact .tup cs l hl fun i x hx=>ih i x hx (hL l i x hx (by simpa [SF] using hs))
 |fn=>simp [SF] at hs
 |ptr l off b hb=>exact .ptr l off b hb
 |sa v l t b hb hv=>exact .sa v l t b hb hv
 |el=>simp [SF] at hs
 |fs=>simp [SF] at hs
 |mpd=>simp [SF] at hs
 |ex v=>exact .ex v
 |arr0 l e s hb hh=>exact .arr0 l e s hb hh
 |arr l b cap e s rows cs ty fz hb hh hw an aj ak=>exact .arr l b cap e s rows cs ty fz hb hh hw an aj ak
 |mp l b t f hb hh=>exact .mp l b t f hb hh
 |ap l i off b e s rows hb hh=>exact .ap l i off b e s rows hb hh
 |dang v av l hl hh h1=>exact .dang v av l hl hh h1
 |gdT=>simp [SF] at hs
 |gdF=>simp [SF] at hs
theorem QaC {β β':Nat->Option Nat} {S S':Nat->Prop} {st:St} {a:Act} {w w':World} {v:Value} (hR:Rel E β S st a w) {dl:Dl} (a5:Wc st dl.wr=true) (hc:CallOut β S (look st.h) w dl β' S' w' v) :
  Rel E β' S' ⟨st.n,st.tm,NL st.h dl.wr⟩ a w':=by
 have ak:=KU dl.wr st.h;have a2:∀ b,S b->w'.heap[b]? = w.heap[b]?:=fun b hS=>hc.fr.block b (hR.hr.sb b hS) (fun ⟨l,_,hs,hb⟩=>hR.hr.apart l b hs hb hS)
 have ar:∀ l,l∈wrL dl->look st.h l=none->KE (look st.h) dl.wr l=none\/Ur st l=true:=by
  intro l hl hn;have:∀ (wr:List (Nat × Option Ob)) (h:Nat->Option Ob),Wc st wr=true->h l=none->KE h wr l=none\/Ur st l=true:=by
   intro wr;induction wr with
   |nil=>intro h _ hn;exact .inl hn
   |cons x r ih=>
    intro h au a4;obtain ⟨k,o⟩:=x;simp only [Wc,QhS] at au;by_cases e:l=k
    ·subst e;cases o with
     |none=>exact ih _ au.2 (by simp)
     |some o=>
      simp_all
    ·exact ih _ au.2 (by simp_all)
  simp_all
 refine hR.upd hc.hs a2 (fun l=>l∈wrL dl) (fun l hl=>?_) (fun l hl=>?_) (fun l o hl ho=>?_) ?_ ?_ ?_ hc.sb ?_ ?_
 ·refine ⟨hc.bsame l hl,by rw [ak];exact UL hl,fun b hs hb=>hc.fr.block b (Rt hR hs hb) (fun ⟨l',aq,ao,aj⟩=>?_)⟩;exact hl (by rw [hR.hr.inj l l' b hs ao hb aj];exact aq)
 ·cases hs:look st.h l with
  |some o=>left;rw [ak];exact hc.keep l hl (by simp [hs])
  |none=>
   rcases ar l hl hs with h | h
   ·left;refine ⟨?_,fun _=>(by simp_all),fun e s rows h'=>(by simp_all),fun b cs ty fz h'=>(by simp_all),fun t f h'=>(by rw [hs] at h';cases h')⟩;exact hc.none l hl hs h
   simp_all
 ·rw [ak] at ho ⊢;exact hc.obs l o hl ho
 ·intro l l' b h1 h2 h3 h4;rw [ak] at h1 h2;by_cases e1:l∈wrL dl <;> by_cases e2:l'∈wrL dl
  ·exact hc.inj l l' b e1 e2 h1 h2 h3 h4
  ·rw [UL e2] at h2;rw [hc.bsame l' e2] at h4;rcases (hc.blk l b e1 h1 h3).1 with h | ⟨l0,ax,hs,hb⟩
   ·have:=Rt hR h2 h4;omega
   ·exact absurd ax (by rw [hR.hr.inj l0 l' b hs h2 hb h4];exact e2)
  ·rw [UL e1] at h1;rw [hc.bsame l e1] at h3;rcases (hc.blk l' b e2 h2 h4).1 with h | ⟨l0,ax,hs,hb⟩
   ·have:=Rt hR h1 h3;omega
   ·exact absurd ax (by rw [<- hR.hr.inj l l0 b h1 hs h3 hb];exact e1)
  ·rw [UL e1] at h1;rw [UL e2] at h2;rw [hc.bsame l e1] at h3;rw [hc.bsame l' e2] at h4;exact hR.hr.inj l l' b h1 h2 h3 h4
 ·intro l b h1 h2 hS;rw [ak] at h1;by_cases e1:l∈wrL dl
  ·exact (hc.blk l b e1 h1 h2).2 hS
  ·rw [UL e1] at h1;rw [hc.bsame l e1] at h2;rcases hc.sf b hS with h | h | ⟨l',aq,ao,aj⟩
   ·exact hR.hr.apart l b h1 h2 h
   ·have:=Rt hR h1 h2;omega
   ·exact e1 (by rw [hR.hr.inj l l' b h1 ao h2 aj];exact aq)
 ·intro l b h1 h2;rw [ak] at h1;by_cases e1:l∈wrL dl
  ·rcases (hc.blk l b e1 h1 h2).1 with h | ⟨l0,_,hs,hb⟩
   ·right;have:=hR.hr.fr.size;omega
   ·exact hR.hr.own l0 b hs hb
  ·rw [UL e1] at h1;rw [hc.bsame l e1] at h2;exact hR.hr.own l b h1 h2
 ·intro b hS;rcases hc.sf b hS with h | h | ⟨l',aq,ao,aj⟩
  ·exact hR.hr.sfr b h
  ·right;right;have:=hR.hr.fr.size;omega
  ·exact .inr (hR.hr.own l' b ao aj)
 ·have fr:=hR.hr.fr;refine ⟨hc.fr.os.trans fr.os,hc.fr.tape.trans fr.tape,hc.fr.output.trans fr.output,Nat.le_trans fr.size hc.fr.size,fun b hb hM=>(hc.fr.block b (Qih hb fr.size) (fun ⟨l,_,hs,aj⟩=>?_)).trans (fr.block b hb hM)⟩;rcases hR.hr.own l b hs aj with h | h
  all_goals grind
end
section
variable {P:Program} {E:Env} {R:Type}
def fzS (β:Nat->Option Nat) (S:Nat->Prop) (bs:List Nat):Nat->Prop:=fun b=>S b\/∃ l,l∈bs/\β l=some b
def fzH (h:Nat->Option Ob) (bs:List Nat):Nat->Option Ob:=fun k=>if k∈bs then none else h k
theorem QbT (β:Nat->Option Nat) (h:Nat->Option Ob) (w:World) (bs:List Nat) (l:Nat):Keep β h w β (fzH h bs) w l:=by
 by_cases hl:l∈bs
 ·have hn:fzH h bs l=none:=by grind [fzH]
  exact ⟨rfl,fun _=>hn,fun _ _ _ _=>.inl hn,fun b cs ty fz hs=>(by simp_all),fun _ _ _=>.inl hn⟩
 ·have hn:fzH h bs l=h l:=by simp [fzH,hl]
  exact ⟨rfl,fun h=>by simp_all,fun e s rows hh=>.inr ⟨rows,by simp_all,rfl⟩,fun b cs ty fz _ _ hw=>⟨cs,ty,fz,hw,rfl⟩,fun _ f hh=>.inr ⟨f,by rw [hn];exact hh⟩⟩
theorem Q7Y {β:Nat->Option Nat} {S:Nat->Prop} {h:Nat->Option Ob} {w:World} {tm:Nat->Value} {v:Value} {av:AV} (bs:List Nat) (hv:RdA β S h w tm v av):RdA β (fzS β S bs) (fzH h bs) w tm v av:=
 hv.mono (fun _ hb=>.inl hb) (fun _ _=>rfl) (fun _ _=>QbT ..) (fun _ _=>rfl)
theorem Objs.fz {β:Nat->Option Nat} {S:Nat->Prop} {h:Nat->Option Ob} {w:World} (hO:Objs β S h w) (bs:List Nat) (au:∀ l,l∈bs->∃ e s rows,h l=some (.arr e s rows)) (a2:∀ l b,(h l).isSome=true->β l=some b->b<w.heap.size):Objs β (fzS β S bs) (fzH h bs) w:=by
 have ac:∀ l,(fzH h bs l).isSome=true->(h l).isSome=true/\l ∉ bs:=by
  grind [fzH]
 refine ⟨fun l o ho=>?_,fun l l' b h1 h2=>hO.inj l l' b (ac l h1).1 (ac l' h2).1,fun l b h1 h2 hS=>?_,fun b hS=>?_⟩
 ·have ay:h l=some o:=by
   grind [fzH]
  have aj:=hO.ob l o ay;cases o with
  |box cells=>
   obtain ⟨b,ty,cs,fz,hb,hw,hf,ak,hr⟩:=aj;exact ⟨b,ty,cs,fz,hb,hw,hf,ak,fun i x hx=>Q7Y bs (hr i x hx)⟩
  |arr e s rows=>
   rcases aj with h0 | ⟨b,cs,hb,hw,ak,ax,hr⟩
   ·exact .inl h0
   ·refine .inr ⟨b,cs,hb,hw,ak,ax,fun i j r x h4 h5=>?_⟩;obtain ⟨v,hv,aw⟩:=hr i j r x h4 h5;exact ⟨v,hv,aw.mono (fun _ hb=>.inl hb) (fun _ _=>rfl)⟩
  |mp t f=>exact aj
 ·obtain ⟨aq,hn⟩:=ac l h1;rcases hS with hS | ⟨l',ao,az⟩
  ·exact hO.apart l b aq h2 hS
  ·obtain ⟨e,s,rows,hh⟩:=au l' ao;exact hn (by rw [hO.inj l l' b aq (by simp [hh]) h2 az];exact ao)
 ·rcases hS with hS | ⟨l,hl,hb⟩
  ·exact hO.sb b hS
  grind
theorem Q6g {β:Nat->Option Nat} {S:Nat->Prop} {h:Nat->Option Ob} {w:World} {tm:Nat->Value} {v:Value} {l e s:Nat} {rows:List (List D)} (hO:Objs β S h w) (hh:h l=some (.arr e s rows)) (hv:RdA β S h w tm v (.arr l)) {S':Nat->Prop} (hS:∀ b,S b->S' b) (hb:∀ b,β l=some b->S' b) :
  Rd S' w v (.sl s rows):=by
 rcases RdA.arr_inv hh hv with ⟨_,rfl,rfl⟩ | ⟨b,cap,cs,ty,fz,aq,rfl,hw,ay,ac,_⟩
 ·exact .sl0 _ _ _
 ·rcases hO.ob l _ hh with ⟨hn,_⟩ | ⟨b2,aj,az,ak,an,ao,ar⟩
  ·simp_all
  obtain rfl:b=b2:=by simp_all
  have hR:UU S' w aj s rows:=⟨an,ao,fun i j r x h1 h2=>by
   obtain ⟨u,hu,hr⟩:=ar i j r x h1 h2;exact ⟨u,hu,hr.mono hS (fun _ _=>rfl)⟩⟩
  exact hR.rd ak (hb b aq) ac
theorem FN {hl:Nat->Option Ob} {av ac:AV} {bs:List Nat} (h:Q6J hl av=some (ac,bs)) :
  (bs=[]/\ac=av/\AK av=true)\/∃ l e s rows,av = .arr l/\ac = .d (.sl s rows)/\bs=[l]/\hl l=some (.arr e s rows):=by
 unfold Q6J at h
 grind
theorem CK {hl:Nat->Option Ob}:∀ {l l':List AV} {bs:List Nat},D2 hl l=some (l',bs)->l'.length=l.length/\∀ (i:Nat) (av:AV),l[i]? = some av->∃ ac b,l'[i]? = some ac/\Q6J hl av=some (ac,b)/\∀ x∈b,x∈bs
 |[],l',bs,h=>by
  simp only [D2,Option.some.injEq,Prod.mk.injEq] at h;obtain ⟨rfl,rfl⟩:=h;exact ⟨rfl,fun i av h=>by simp at h⟩
 |a::r,l',bs,h=>by
  simp only [D2] at h;split at h
  ·rename_i a' b ha;split at h
   ·rename_i r' b' hr;simp only [Option.some.injEq,Prod.mk.injEq] at h;obtain ⟨rfl,rfl⟩:=h;obtain ⟨h1,h2⟩:=CK hr;refine ⟨by simp [h1],fun i av hi=>?_⟩;cases i with
    |zero=>simp at hi;subst hi;exact ⟨a',b,rfl,ha,fun x hx=>by simp [hx]⟩
    |succ i=>
     obtain ⟨ac,b2,g1,g2,g3⟩:=h2 i av (by simpa using hi);exact ⟨ac,b2,by simpa using g1,g2,fun x hx=>by simp [g3 x hx]⟩
   ·cases h
  ·cases h
theorem Q2o {hl:Nat->Option Ob}:∀ {l l':List AV} {bs:List Nat},D2 hl l=some (l',bs)->∀ x∈bs,∃ e s rows,hl x=some (.arr e s rows)
 |[],l',bs,h=>by
  simp only [D2,Option.some.injEq,Prod.mk.injEq] at h;obtain ⟨_,rfl⟩:=h;simp
 |a::r,l',bs,h=>by
  simp only [D2] at h;split at h
  ·rename_i a' b ha;split at h
   ·rename_i r' b' hr;simp only [Option.some.injEq,Prod.mk.injEq] at h;obtain ⟨_,rfl⟩:=h;intro x hx;rcases Qii.1 hx with hx | hx
    ·rcases FN ha with ⟨rfl,_⟩ | ⟨l,e,s,rows,_,_,rfl,hh⟩
     ·simp at hx
     ·simp at hx;subst hx;exact ⟨e,s,rows,hh⟩
    ·exact Q2o hr x hx
   ·cases h
  ·cases h
theorem Cp {hl:Nat->Option Ob} {av ac:AV} {bs:List Nat} (h:Rb hl av=some (ac,bs)):∀ x∈bs,∃ e s rows,hl x=some (.arr e s rows):=by
 unfold Rb at h;split at h
 ·split at h
  ·rename_i aj l hc;obtain ⟨_,rfl⟩:=h;exact Q2o hc
  ·cases h
 ·rcases FN h with ⟨rfl,_⟩ | ⟨l,e,s,rows,_,_,rfl,hh⟩
  all_goals grind
theorem FH {hl:Nat->Option Ob}:∀ {l l':List AV} {bs:List Nat},R8 hl l=some (l',bs)->∀ x∈bs,∃ e s rows,hl x=some (.arr e s rows)
 |[],l',bs,h=>by
  simp only [R8,Option.some.injEq,Prod.mk.injEq] at h;obtain ⟨_,rfl⟩:=h;simp
 |a::r,l',bs,h=>by
  simp only [R8] at h;split at h
  ·rename_i a' b ha;split at h
   ·rename_i r' b' hr;simp only [Option.some.injEq,Prod.mk.injEq] at h;obtain ⟨_,rfl⟩:=h;intro x hx;rcases Qii.1 hx with hx | hx
    ·exact Cp ha x hx
    ·exact FH hr x hx
   ·cases h
  ·cases h
theorem MK {hl:Nat->Option Ob}:∀ {l l':List AV} {bs:List Nat},R8 hl l=some (l',bs)->l'.length=l.length/\∀ (i:Nat) (av:AV),l[i]? = some av->∃ ac b,l'[i]? = some ac/\Rb hl av=some (ac,b)/\∀ x∈b,x∈bs
 |[],l',bs,h=>by
  simp only [R8,Option.some.injEq,Prod.mk.injEq] at h;obtain ⟨rfl,rfl⟩:=h;exact ⟨rfl,fun i av h=>by simp at h⟩
 |a::r,l',bs,h=>by
  simp only [R8] at h;split at h
  ·rename_i a' b ha;split at h
   ·rename_i r' b' hr;simp only [Option.some.injEq,Prod.mk.injEq] at h;obtain ⟨rfl,rfl⟩:=h;obtain ⟨h1,h2⟩:=MK hr;refine ⟨by simp [h1],fun i av hi=>?_⟩;cases i with
    |zero=>simp at hi;subst hi;exact ⟨a',b,rfl,ha,fun x hx=>by simp [hx]⟩
    |succ i=>
     obtain ⟨ac,b2,g1,g2,g3⟩:=h2 i av (by simpa using hi);exact ⟨ac,b2,by simpa using g1,g2,fun x hx=>by simp [g3 x hx]⟩
   ·cases h
  ·cases h
theorem Qdh {β:Nat->Option Nat} {S:Nat->Prop} {h hl:Nat->Option Ob} {w:World} {tm:Nat->Value} {v:Value} {av ac:AV} {b bs:List Nat} (hO:Objs β S h w) (hA:∀ l,l∈bs->h l=hl l) (hb:∀ x∈b,x∈bs) (hc:Q6J hl av=some (ac,b)) (hv:RdA β S h w tm v av) :
  RdA β (fzS β S bs) (fzH h bs) w tm0 v ac:=by
 rcases FN hc with ⟨_,rfl,hn⟩ | ⟨l,e,s,rows,rfl,rfl,rfl,hh⟩
 ·exact Q7Y bs (hv.to_tm0 hn)
 ·exact .d _ _ (Q6g hO (by rw [hA l (hb l (by simp))];exact hh) hv (fun _ h=>.inl h) (fun b' h'=>.inr ⟨l,hb l (by simp),h'⟩))
theorem Q5Y {β:Nat->Option Nat} {S:Nat->Prop} {h hl:Nat->Option Ob} {w:World} {tm:Nat->Value} {v:Value} {av ac:AV} {b bs:List Nat} (hO:Objs β S h w) (hA:∀ l,l∈bs->h l=hl l) (hb:∀ x∈b,x∈bs) (hc:Rb hl av=some (ac,b)) (hv:RdA β S h w tm v av) :
  RdA β (fzS β S bs) (fzH h bs) w tm0 v ac:=by
 unfold Rb at hc;split at hc
 ·rename_i cs;split at hc
  ·rename_i an l ak;obtain ⟨rfl,rfl⟩:=hc;obtain ⟨vs,rfl,aj,hr⟩:=hv.ag_inv;obtain ⟨h1,h2⟩:=CK ak;refine .ag _ _ (by rw [aj,h1]) fun i x hx=>?_
   have hi:i<cs.length:=by grind
   have hc:=Qi6 hi
   grind [Qdh]
  ·cases hc
 grind [Qdh]
theorem Q4h {o : Oper} {c : Call} {f : Nat} (ho : o.op = .call c) (hc : c.callee = .value (.func f)) {fn : Func} (hf : P.funcs[f]? = some fn) (hb : fn.body.isSome = true) (hn : (fn.name == "runtime.NumGoroutine") = false) {a : Act} {w : World} :
  (execOp a.eval o).run P w = .ok (.enter f (c.args.map a.eval)) w:=by
 unfold execOp;rw [ho];have h1 : ¬ fn.name = "runtime.NumGoroutine" := by simp_all
 have h2:¬ fn.body=none:=by intro h;rw [h] at hb;cases hb
 simp_all [resolve,Act.eval,Deferred.ofValue,invoke,callFunc]
theorem Bs {x:Nat}:∀ {l:List Nat},x∈l->Pr x l=true
 |a::r,h=>by
  rcases Qi9.1 h with rfl | h
  ·simp [Pr]
  ·simp [Pr,Bs h]
theorem JM {a b:List Nat} (h:HI a b=false) {x:Nat} (h1:x∈a) (h2:x∈b):False:=by
 grind [HI,List.any_eq_false,Bs]
theorem En {h h':Nat->Option Ob}:∀ {wr:List (Nat × Option Ob)} {k:Nat},(k ∉ wr.map (·.1)->h k=h' k)->KE h wr k=KE h' wr k
 |[],k,hk=>hk (by simp)
 |(l,o)::r,k,hk=>by
  simp only [KE];refine En fun hn=>?_
  by_cases e:k=l
  ·simp [e]
  ·rw [Qi3 e,Qi3 e];exact hk (by simp [e,hn])
theorem MQ {h:Nat->Option Ob} {bs:List Nat} {l:Nat} (hl:l ∉ bs):fzH h bs l=h l:=by grind [fzH]
theorem Qcc (β:Nat->Option Nat) (S:Nat->Prop):fzS β S []=S:=by funext b;simp [fzS]
theorem Qca (h:Nat->Option Ob):fzH h []=h:=by funext b;simp [fzH]
theorem Q6C {wr:List (Nat × Option Ob)} (hw:Vm wr=true):∀ (h:Nat->Option Ob) {l:Nat} {o:Ob},l∈wr.map (·.1)->KE h wr l=some o->(∃ cells,o = .box cells/\RJ cells=true/\(l,some o)∈wr)\/∃ e s rows,o = .arr e s rows/\B3 rows=true:=by
 induction wr with
 |nil=>simp_all
 |cons x r ih=>
  intro h l o hl ho;obtain ⟨k,ob⟩:=x;have ac:Vm r=true:=by
   cases ob with
   |none=>assumption
   |some ob=>cases ob <;> first | simp_all [Vm,QhS] | (simp [Vm] at hw)
  simp only [KE] at ho;by_cases hr:l∈r.map (·.1)
  ·grind
  ·rw [UL hr] at ho;simp only [Qik,Qi9,hr,or_false] at hl;rw [Qi7 hl] at ho;subst hl;subst ho;cases o with
   |box cells=>simp_all [Vm,QhS]
   |arr e s rows=>simp only [Vm,QhS] at hw;exact .inr ⟨e,s,rows,rfl,hw.1⟩
   |mp t f=>simp [Vm] at hw
theorem Kq:∀ {wr:List (Nat × Option Ob)},Cz wr=true->Vm wr=true
 |[],_=>rfl
 |(_,none)::r,h=>by simp only [Cz,QhS] at h;simp only [Vm];exact Kq h.2
 |(_,some (.box cells))::r,h=>by simp only [Cz,Q7O,QhS] at h;simp only [Vm,QhS];exact ⟨h.1,Kq h.2⟩
 |(_,some (.arr ..))::r,h=>by simp [Cz,Q7O] at h
theorem Gq {tt:TT}:∀ {wr:List (Nat × Option Ob)},FI tt wr=true->(Q29 wr).all B3=true->Vm wr=true
 |[],_,_=>rfl
 |(_,none)::r,h,h2=>by simp only [FI] at h;simp only [Q29] at h2;simp only [Vm];exact Gq h h2
 |(_,some (.box cells))::r,h,h2=>by simp only [FI,QhS] at h;simp only [Q29] at h2;simp only [Vm,QhS];exact ⟨h.1,Gq h.2 h2⟩
 |(_,some (.arr _ _ rows))::r,h,h2=>by simp only [FI,QhS] at h;simp only [Q29,List.all_cons,QhS] at h2;simp only [Vm,QhS];exact ⟨h2.1,Gq h.2 h2.2⟩
theorem QbH {S S2:Nat->Prop} {w:World} {v:Value} {x:D} (h:Rd S w v x) (hf:Q4E x=true):Rd S2 w v x:=by
 cases h with
 |int k n=>exact .int k n
 |bool b=>exact .bool b
 |str s=>exact .str s
 |sl0 a c s=>trivial
 |sl=>simp [Q4E] at hf
theorem Q9U {rows:List (List D)} (h:B3 rows=true) {i j:Nat} {r:List D} {x:D} (h1:rows[i]? = some r) (h2:r[j]? = some x):Q4E x=true:=by
 simp only [B3,Qia] at h;exact h r (QhZ h1) x (QhZ h2)
theorem Q28:∀ {l:List AV} {i:Nat} {x:AV},l[i]? = some x->RJ l=true->SF x=true
 |a::r,i,x,h,hs=>by
  simp only [RJ,QhS] at hs;cases i with
  |zero=>simp at h;subst h;exact hs.1
  |succ i=>exact Q28 (l:=r) (i:=i) (by simpa using h) hs.2
theorem Q8f {l k:Nat} {cells:List AV} {wr:List (Nat × Option Ob)} (hm:(k,some (Ob.box cells))∈wr) (hn:TP l wr=false):Gu l cells=false:=by
 induction wr with
 |nil=>simp at hm
 |cons x r ih=>
  obtain ⟨k',o⟩:=x;rcases Qi9.1 hm with h1 | h1
  ·grind [TP,Bool.or_eq_false_iff]
  ·cases o with
   |none=>grind [TP]
   |some o=>
    cases o with
    |box c=>grind [TP,Bool.or_eq_false_iff]
    |arr e s rows=>exact ih h1 (by assumption)
    |mp t f=>exact ih h1 (by simpa [TP] using hn)
theorem Q5E {h h':Nat->Option Ob} {wr:List (Nat × Option Ob)} {k:Nat} (hk:k∈wr.map (·.1)):KE h wr k=KE h' wr k:=En fun hn=>absurd hk hn
theorem CallOut.back {β β':Nat->Option Nat} {S S':Nat->Prop} {h:Nat->Option Ob} {w w':World} {dl:Dl} {v:Value} {bs:List Nat} (hO:Objs β S h w) (ba:∀ l,l∈bs->∃ e s rows,h l=some (.arr e s rows))
  (hm:HI bs (wrL dl)=false) (aq:CJ bs dl=true) (a5:SF dl.v=true) (a4:Vm dl.wr=true) (hc:CallOut β (fzS β S bs) (fzH h bs) w dl β' S' w' v) :
  CallOut β S h w dl β' (fun b=>S' b/\¬ ∃ l,l∈bs/\β l=some b) w' v:=by
 have ac:∀ l,l∈wrL dl->l ∉ bs:=fun l h1 h2=>JM hm h2 h1
 have ao:∀ l,l∈bs->(h l).isSome=true:=fun l hl=>by grind
 have aj:∀ l,l ∉ bs->KE (fzH h bs) dl.wr l=KE h dl.wr l:=fun l hl=>En fun _=>MQ hl
 have an:∀ (u:Value) (av:AV),SF av=true->(∀ l,l∈bs->WQ l av=false)->RdA β' S' (KE (fzH h bs) dl.wr) w' tm0 u av->RdA β' (fun b=>S' b/\¬ ∃ l,l∈bs/\β l=some b) (KE h dl.wr) w' tm0 u av:=by
  intro u av hs hn hr;refine (Q9V (S2:=fun b=>S' b/\¬ ∃ l,l∈bs/\β l=some b) hr hs).mono (fun _ h=>h) (fun _ _=>rfl) (fun l hl=>?_) (fun _ _=>rfl);have a6:l ∉ bs:=fun hb=>by simp_all
  have he:=aj l a6;exact ⟨rfl,fun h=>by simp_all,fun e s rows hh=>.inr ⟨rows,by simp_all,rfl⟩,fun b cs ty fz _ _ hw=>⟨cs,ty,fz,hw,rfl⟩,fun _ f hh=>.inr ⟨f,by rw [<- he];exact hh⟩⟩
 simp only [CJ,Qia,QhS,Bool.not_eq_true'] at aq;have ak:∀ l,l∈wrL dl->fzH h bs l=h l:=fun l hl=>MQ (ac l hl)
 refine ⟨fun b hS=>⟨hc.hs b (.inl hS),fun ⟨l,hl,hb⟩=>hO.apart l b (ao l hl) hb hS⟩,fun b hS=>?_,fun b hS=>hc.sb b hS.1,?_,hc.bsame,fun l o hl ho=>?_,fun l hl hs=>?_,fun l b hl hs hb=>?_,fun l l' b h1 h2 h3 h4=>?_,fun l hl h1 h2=>?_,an v dl.v a5 (fun l hl=>(aq l hl).1) hc.res,hc.gd⟩
 ·rcases hc.sf b hS.1 with h1 | h1 | ⟨l,h1,h2,h3⟩
  ·rcases h1 with h1 | h1
   all_goals grind
  all_goals grind
 ·exact hc.fr.mono fun b _ ⟨l,h1,h2,h3⟩=>⟨l,h1,by rw [<- ak l h1];exact h2,h3⟩
 ·rcases Q6C a4 h hl ho with ⟨cells,rfl,ay,au⟩ | ⟨e,s,rows,rfl,a2⟩
  case inr=>
   rcases hc.obs l _ hl (by rw [aj l (ac l hl)];exact ho) with g | ⟨b,cs,g1,g2,g3,g4,g5⟩
   ·exact .inl g
   ·refine .inr ⟨b,cs,g1,g2,g3,g4,fun i j r y h1 h2=>?_⟩;obtain ⟨u,q1,q2⟩:=g5 i j r y h1 h2;exact ⟨u,q1,QbH q2 (Q9U a2 h1 h2)⟩
  obtain ⟨b,ty,cs,fz,hb,hw,hf,az,hr⟩:=hc.obs l _ hl (by rw [aj l (ac l hl)];exact ho);exact ⟨b,ty,cs,fz,hb,hw,hf,az,fun i x hx=>an _ x (Q28 hx ay) (fun l' a3=>Q2s hx (Q8f au (aq l' a3).2)) (hr i x hx)⟩
 ·have K:=hc.keep l hl (by rw [ak l hl];exact hs);have he:=aj l (ac l hl);exact ⟨K.b,fun h1=>by rw [<- he];exact K.none_ (by rw [ak l hl];exact h1),fun e s rows h1=>by rw [<- he];exact K.arr e s rows (by rw [ak l hl];exact h1),fun b cs ty fz h1=>K.cells b cs ty fz (by rw [he];exact h1),fun t f h1=>by rw [<- he];exact K.mp t f (by rw [ak l hl];exact h1)⟩
 ·obtain ⟨h1,h2⟩:=hc.blk l b hl (by rw [aj l (ac l hl)];exact hs) hb;refine ⟨?_,fun h3=>h2 h3.1⟩;rcases h1 with h1 | ⟨l0,g1,g2,g3⟩
  ·exact .inl h1
  ·exact .inr ⟨l0,g1,by rw [<- ak l0 g1];exact g2,g3⟩
 ·rw [<- aj l (ac l h1)] at h3;rw [<- aj l' (ac l' h2)] at h4;exact hc.inj l l' b h1 h2 h3 h4
 ·exact hc.none l hl (by rw [ak l hl];exact h1) (by rw [aj l (ac l hl)];exact h2)
theorem SM {β β':Nat->Option Nat} {S S':Nat->Prop} {st:St} {a:Act} {w w':World} {v:Value} (hR:Rel E β S st a w) {dl:Dl} {rd:List Nat} (ac:Wc st dl.wr=true) (hc:CallOut β S (look st.h) w dl β' S' w' v) :
  Out E st a ⟨dl.v,dl.wr,rd⟩ v w':=by
 have h1:=QaC hR ac hc;have h2:=hc.res;rw [<- KU] at h2;refine ⟨β',S',h1,?_⟩;exact h2.mono (fun _ h=>h) (fun _ _=>rfl) (fun l _=>Keep.rfl_ ..) (fun t ht=>by rw [hc.gd t] at ht;cases ht)
def Q74 (P:Program) (E:Env) (o:Oper) (ev:Operand->AV) (f:Nat) (avs0:List AV):Prop:=
 ∀ β S st a w,Rel E β S st a w->Cw β S st a w o ev->∃ vals:List Value,vals.length=avs0.length/\(∀ (i:Nat) (v:Value) (x:AV),vals[i]? = some v->avs0[i]? = some x->RdA β S (look st.h) w (tmv a) v x) /\
  ∀ fn, P.funcs[f]? = some fn -> fn.body.isSome = true -> (fn.name == "runtime.NumGoroutine") = false -> (execOp a.eval o).run P w = .ok (.enter f vals.toArray) w
theorem Q6r {o:Oper} {c:Call} {f:Nat} (ho:o.op = .call c) (hc:c.callee = .value (.func f)) {ev:Operand->AV}:Q74 P E o ev f (c.args.toList.map ev):=by
 intro β S st a w hR hO;refine ⟨c.args.toList.map a.eval,by simp,fun i v x h1 h2=>?_,fun fn hf hb hn=>?_⟩
 ·simp only [Qi1,QhW] at h1 h2;obtain ⟨y,hy,rfl⟩:=h1;obtain ⟨y',ac,rfl⟩:=h2;rw [hy] at ac;injection ac with ac
  subst ac;have aj:y∈o.op.operands.toList:=by
   grind [List.mem_of_getElem?,Op.operands,Call.operands]
  exact hO.at aj
 ·rw [Q4h ho hc hf hb hn];congr 2
  grind
theorem RdA.fn_inv {β:Nat->Option Nat} {S:Nat->Prop} {h:Nat->Option Ob} {w:World} {tm:Nat->Value} {v:Value} {f:Nat} {l:List AV} (hv:RdA β S h w tm v (.fn f l)):∃ cs:Array Value,v = .func (.func f) #[] cs/\cs.size=l.length/\∀ (i:Nat) (x:AV),l[i]? = some x->RdA β S h w tm (cs.getD i undef) x:=by
 cases hv with
 |fn _ cs _ hl hr=>simp_all
 |dang _ _ l hl _ _=>trivial
theorem Q76 {o:Oper} {c:Call} {t f:Nat} {cap:List AV} (ho:o.op = .call c) (hc:c.callee = .value (.tmp t)) {ev:Operand->AV} (hev:ev (.tmp t) = .fn f cap):Q74 P E o ev f (c.args.toList.map ev++cap):=by
 intro β S st a w hR hO;have hmt:Operand.tmp t∈o.op.operands.toList:=by simp [ho,Op.operands,Call.operands,hc]
 obtain ⟨cs,hcs,hsz,hr⟩:=(hev▸hO.at hmt).fn_inv;refine ⟨c.args.toList.map a.eval++cs.toList,by simp [hsz],fun i v x h1 h2=>?_,fun fn hf hb hn=>?_⟩
 ·rw [List.getElem?_append] at h1 h2;simp only [List.length_map] at h1 h2;split at h1
  ·rename_i hi;rw [Qi7 hi] at h2;simp only [Qi1,QhW] at h1 h2;obtain ⟨y,hy,rfl⟩:=h1;obtain ⟨y',hy',rfl⟩:=h2;rw [hy] at hy';injection hy' with hy'
   subst hy';have hmem:y∈o.op.operands.toList:=by
    have:y∈c.args.toList:=QhZ hy;simp only [ho,Op.operands,Call.operands,hc];simp at this;simp [this]
   exact hO.at hmem
  ·rename_i hi;rw [Qi3 hi] at h2;have:=hr _ x h2;have hlt:=(QhR.1 h1).1;have he:cs.getD (i-c.args.toList.length) undef=v:=by
    rw [Array.getElem?_toList] at h1;rw [Array.getD_eq_getD_getElem?,h1];rfl
   rw [he] at this;exact this
 ·have h1 : ¬ fn.name = "runtime.NumGoroutine" := by simpa using hn
  have h2:¬ fn.body=none:=by intro h;rw [h] at hb;cases hb
  have hv:a.eval (.tmp t) = .func (.func f) #[] cs:=hcs;unfold execOp;rw [ho];have harr:(c.args.toList.map a.eval++cs.toList).toArray=c.args.map a.eval++cs:=by apply Array.ext';simp
  rw [harr];simp [resolve,hc,hv,Deferred.ofValue,invoke,callFunc,hf,h1,h2]
theorem Q7s {β:Nat->Option Nat} {S:Nat->Prop} {st:St} {a:Act} {w:World} (hR:Rel E β S st a w) {hl:Nat->Option Ob} {vals:List Value} {ac:List AV} (ar:vals.length=ac.length) (aj:∀ (i:Nat) (v:Value) (x:AV),vals[i]? = some v->ac[i]? = some x->RdA β S (look st.h) w (tmv a) v x) {ak:List AV} {bs:List Nat}
  (aq:R8 hl ac=some (ak,bs)) (ao:∀ l,l∈bs->look st.h l=hl l):ArgsRd β (fzS β S bs) (fzH (look st.h) bs) w vals ak:=by
 obtain ⟨au,an⟩:=MK aq;refine ⟨by omega,fun i v av h1 h2=>?_⟩;have hi:i<ac.length:=by grind
 have hx:=Qi6 hi;obtain ⟨ax,b,g1,g2,g3⟩:=an i _ hx;rw [h2] at g1;injection g1 with g1
 subst g1;exact Q5Y hR.objs ao g3 g2 (aj i v _ h1 hx)
theorem Nn {o:Oper} {f:Nat} {ev:Operand->AV} {ac:List AV} (hF:Q74 P E o ev f ac) {hl:Nat->Option Ob} {aq:List AV} {bs:List Nat} {dl:Dl}
  (a4:R8 hl ac=some (aq,bs)) (a3:Zh P f aq hl dl) (hm:HI bs (wrL dl)=false) (a9:HI bs dl.rd=false) (a5:CJ bs dl=true) (aj:bs=[]\/(SF dl.v=true/\Vm dl.wr=true)) :
  GO P E o ev hl ⟨dl.v,dl.wr,bs++dl.rd⟩:=by
 intro β S st a w hR hO hA a6 K Q hK;obtain ⟨⟨fn,hf,hb,hn⟩,ak⟩:=a3;have ax:∀ l,l∈bs->look st.h l=hl l:=fun l h=>hA l (.inl (by simp [h]))
 have an:∀ l,l∈bs->∃ e s rows,look st.h l=some (.arr e s rows):=fun l h=>by grind [FH]
 have ao:=hR.objs.fz bs an (fun l b hs hb=>Rt hR hs hb);have ay:∀ l,l∈dl.rd\/l∈wrL dl->fzH (look st.h) bs l=hl l:=by
  intro l a2;rw [MQ (fun h=>by grind [JM])];rcases a2 with h1 | h1
  ·exact hA l (.inl (by simp [h1]))
  ·exact hA l (.inr h1)
 obtain ⟨vals,aw,az,ar⟩:=hF β S st a w hR hO;unfold Oper.wp;rw [ar fn hf hb hn];have:=ak β (fzS β S bs) (fzH (look st.h) bs) w _ ao (Q7s hR aw az a4 ax) ay;refine this.mono fun e w' ⟨v,β',S',he,au⟩=>?_
 subst he;refine hK v w' ?_;rcases aj with rfl | ⟨h1,h2⟩
 ·grind [Qcc,Qca,SM]
 ·exact SM hR a6 (au.back hR.objs an hm a5 h1 h2)
theorem SQ:∀ (a b:List (Nat × Option Ob)) (h:List (Nat × Ob)),NL h (a++b)=NL (NL h a) b
 |[],_,_=>rfl
 |(l,some o)::r,b,h=>by simp [NL,SQ r b]
 |(l,none)::r,b,h=>by simp [NL,SQ r b]
theorem Bl (bs:List Nat) (h:List (Nat × Ob)):look (NL h (bs.map fun l=>(l,none)))=fzH (look h) bs:=by
 rw [KU];generalize look h=f;induction bs generalizing f with
 |nil=>rfl
 |cons a r ih=>
  simp only [Qik,KE];rw [ih]
  grind [fzH]
theorem AP {β:Nat->Option Nat} {S:Nat->Prop} {st:St} {a:Act} {w:World} (hR:Rel E β S st a w) (bs:List Nat) (ak:∀ l,l∈bs->∃ e s rows,look st.h l=some (.arr e s rows)) :
  Rel E β (fzS β S bs) ⟨st.n,st.tm,NL st.h (bs.map fun l=>(l,none))⟩ a w:=by
 have ac:=hR.objs.fz bs ak (fun l b hs hb=>Rt hR hs hb);have an:=Bl bs st.h;refine ⟨hR.n,hR.dfr,fun t av ht=>by rw [an];exact Q7Y bs (hR.tm t av ht),?_⟩;rw [an];have aj:∀ l,(fzH (look st.h) bs l).isSome=true->(look st.h l).isSome=true:=fun l hs=>by
  grind [fzH]
 refine ⟨ac.ob,ac.inj,ac.apart,fun l b hs hb=>hR.hr.own l b (aj l hs) hb,ac.sb,fun b hS=>?_,fun b h=>.inl (hR.hr.s0 b h),hR.hr.fr,hR.hr.pin,fun l b hp hs=>hR.hr.psz l b hp (aj l hs)⟩;rcases hS with h | ⟨l,hl,hb⟩
 ·exact hR.hr.sfr b h
 ·obtain ⟨e,s,rows,hh⟩:=ak l hl;exact .inr (hR.hr.own l b (by simp [hh]) hb)
theorem UY {l k:Nat}:∀ {h:List (Nat × Ob)},Jg l h=false->Jg l (rem k h)=false
 |[],_=>rfl
 |(a,.box c)::r,hn=>by
  simp only [Jg,Bool.or_eq_false_iff] at hn;simp only [rem];cases Nat.beq a k with
  |true=>exact UY hn.2
  |false=>simp [Jg,hn.1,UY hn.2]
 |(a,.arr e s rows)::r,hn=>by
  simp only [Jg] at hn;simp only [rem];cases Nat.beq a k with
  |true=>exact UY hn
  |false=>simp [Jg,UY hn]
 |(a,.mp t f)::r,hn=>by
  simp only [Jg] at hn;simp only [rem];cases Nat.beq a k with
  |true=>exact UY hn
  |false=>simp [Jg,UY hn]
theorem Q3l {l:Nat}:∀ (bs:List Nat) {h:List (Nat × Ob)},Jg l h=false->Jg l (NL h (bs.map fun l=>(l,none)))=false
 |[],_,hn=>hn
 |a::r,h,hn=>by simp only [Qik,NL];exact Q3l r (UY hn)
theorem SP {st:St}:∀ {a b:List (Nat × Option Ob)},Wc st (a++b)=true->Wc st b=true
 |[],_,h=>h
 |(l,o)::r,b,h=>by
  simp only [List.cons_append,Wc,QhS] at h;exact SP h.2
theorem CE {st:St} {bs:List Nat}:∀ {wr:List (Nat × Option Ob)},(∀ l,l∈wr.map (·.1)->l ∉ bs)->Wc st wr=true->Wc ⟨st.n,st.tm,NL st.h (bs.map fun l=>(l,none))⟩ wr=true
 |[],_,_=>rfl
 |(l,o)::r,hn,h=>by
  simp only [Wc,QhS] at h ⊢;refine ⟨?_,CE (fun k hk=>hn k (by simp [hk])) h.2⟩;have ac:l ∉ bs:=hn l (by simp);rw [Bl,MQ ac];cases o with
  |none=>rfl
  |some o=>
   cases hs:look st.h l with
   |some o'=>rfl
   |none=>
    have h1:=h.1;rw [hs] at h1;simp only [Ur,QhS,Bool.not_eq_true'] at h1 ⊢;exact ⟨h1.1,h1.2.1,Q3l bs h1.2.2⟩
theorem DD {o:Oper} {f:Nat} {ev:Operand->AV} {aj:List AV} (hF:Q74 P E o ev f aj) {hl:Nat->Option Ob} {au:List AV} {bs:List Nat} {dl:Dl}
  (ax:R8 hl aj=some (au,bs)) (a6:Zh P f au hl dl) (hm:HI bs (wrL dl)=false) (a3:HI bs dl.rd=false) :
  GO P E o ev hl ⟨dl.v,bs.map (fun l=>(l,none))++dl.wr,bs++dl.rd⟩:=by
 intro β S st a w hR hO hA a7 K Q hK;obtain ⟨⟨fn,hf,hb,hn⟩,an⟩:=a6;have ar:∀ l,l∈bs->look st.h l=hl l:=fun l h=>hA l (.inl (by simp [h]))
 have ao:∀ l,l∈bs->∃ e s rows,look st.h l=some (.arr e s rows):=fun l h=>by rw [ar l h];exact FH ax l h
 have aq:=hR.objs.fz bs ao (fun l b hs hb=>Rt hR hs hb);have a2:∀ l,l∈dl.rd\/l∈wrL dl->fzH (look st.h) bs l=hl l:=by
  intro l ac;rw [MQ (fun h=>by rcases ac with h1 | h1 <;> first | exact JM a3 h h1 | exact JM hm h h1)];rcases ac with h1 | h1
  ·exact hA l (.inl (by simp [h1]))
  ·exact hA l (.inr (by simp only [wrL,List.map_append,Qii];exact .inr h1))
 obtain ⟨vals,ay,a4,aw⟩:=hF β S st a w hR hO;unfold Oper.wp;rw [aw fn hf hb hn];have:=an β (fzS β S bs) (fzH (look st.h) bs) w _ aq (Q7s hR ay a4 ax ar) a2;refine this.mono fun e w' ⟨v,β',S',he,ak⟩=>?_
 subst he;refine hK v w' ?_;rw [<- Bl] at ak;have az:Wc ⟨st.n,st.tm,NL st.h (bs.map fun l=>(l,none))⟩ dl.wr=true:=CE (fun l ac h=>JM hm h ac) (SP a7);obtain ⟨a5,S'',g1,g2⟩:=SM (rd:=bs++dl.rd) (AP hR bs ao) az ak;refine ⟨a5,S'',?_,?_⟩
 all_goals grind [SQ]
theorem Ba {t:Nat}:∀ {l:List AV},l.all AK=true->BV t l=false
 |[],_=>rfl
 |a::r,h=>by
  simp only [List.all_cons,QhS] at h;simp only [BV,Sm h.1 t,Ba h.2,Bool.or_false]
theorem Q2H {x:AV} (h:Q8V x=true) (t:Nat):gds t x=false:=by
 unfold Q8V at h
 grind [gds,Ba,Sm]
theorem Q0Q {o:Oper} {f:Nat} {ev:Operand->AV} {ac:List AV} (hF:Q74 P E o ev f ac) {hl:Nat->Option Ob} {dl:Dl} (aw:ac.all Q8V=true) (ar:Zh P f ac hl dl):GO P E o ev hl dl:=by
 intro β S st a w hR hO hA au K Q hK;obtain ⟨⟨fn,hf,hb,hn⟩,aj⟩:=ar;obtain ⟨vals,ao,aq,ak⟩:=hF β S st a w hR hO;unfold Oper.wp;rw [ak fn hf hb hn];have:=aj β S (look st.h) w _ hR.objs ⟨ao,fun i v x h1 h2=>(aq i v x h1 h2).mono (fun _ h=>h) (fun _ _=>rfl) (fun l _=>Keep.rfl_ ..) (fun t ht=>by
  grind [Q2H,List.all_eq_true,List.mem_of_getElem?])⟩ (fun l h=>hA l h)
 refine this.mono fun e w' ⟨v,β',S',he,an⟩=>?_
 subst he;exact hK v w' (SM hR au an)
theorem Q30 {spec:Q4p} {tt:TT} (hS:CN P spec) {o:Oper} {f:Nat} {ao:Nat} {g u:Bool} {ev:Operand->AV} {aj:List AV} (hF:Q74 P E o ev f aj) {hl:Nat->Option Ob} {k:Dl->Option R} {r:R}
  (h:QaA spec tt ao g u hl f aj k=some r):∃ dl,k dl=some r/\(g=true->GO P E o ev hl dl):=by
 unfold QaA at h;cases an:Qh2 spec f with
 |true=>
  simp only [an,QhV] at h;cases aq:aj.all Q8V with
  |false=>simp_all
  |true=>
  simp only [aq,QhV] at h;obtain ⟨dl,h,ar⟩:=hS _ _ _ _ _ _ _ _ h
  grind [Q0Q]
 |false=>
 simp only [an,cond_false] at h;split at h
 case h_2=>cases h
 rename_i aw bs ax;obtain ⟨dl,h,ar⟩:=hS _ _ _ _ _ _ _ _ h;cases ac:(!HI bs (wrL dl)&&(!HI bs dl.rd&&CJ bs dl)) with
 |false=>simp_all
 |true=>
  simp only [ac,QhV] at h;simp only [QhS,Bool.not_eq_true'] at ac;obtain ⟨hm,au,ay⟩:=ac;cases hf:(bs.isEmpty||(SF dl.v&&Cz dl.wr)) with
  |true=>
   simp only [hf,QhV] at h
   grind [Nn,Kq]
  |false=>
   simp only [hf,cond_false] at h;cases ak:(SF dl.v&&FI tt dl.wr) with
   |true=>
    simp only [ak,QhV] at h;simp only [QhS] at ak;obtain ⟨_,h,hp⟩:=QM h
    grind [Nn,Gq,F9,Q29,B3]
   |false=>
    simp only [ak,cond_false] at h;cases u with
    |false=>simp at h
    |true=>
     simp only [QhV] at h
     grind [DD]
end
section
variable {P:Program} {E:Env} {R:Type}
theorem Q3n {x:Nat}:∀ {l:List Nat},Pr x l=true↔x∈l
 |[]=>by simp [Pr]
 |a::r=>by
  simp only [Pr,Bool.or_eq_true,Q3n (l:=r),Qi9];constructor
  ·rintro (h | h)
   ·exact .inl (QhT h).symm
   ·exact .inr h
  ·rintro (h | h)
   ·exact .inl (by rw [h];exact Nat.beq_refl _)
   ·exact .inr h
def QdY (av:AV):Prop:=(∀ k,WQ k av=false)/\(∀ t,gds t av=false)/\av≠.top
theorem QcB (hl:Nat->Option Ob) (bs:List Nat):Qgj hl bs=fzH hl bs:=by
 funext k;simp [Qgj,fzH,Pr,Qi7,Q3n,Qi3]
theorem Q0a (hl:Nat->Option Ob) (ev:Operand->AV):∀ (l:List (Nat × Operand)),Vg (fun x=>cv1 hl (ev x)) l=cvP hl (Vg ev l)
 |[]=>rfl
 |(i,x)::r=>by simp only [Vg,cvP,Q0a hl ev r]
theorem Q8I {hl:Nat->Option Ob} {ev:Operand->AV}:∀ {l:List (Nat × Operand)} {p:Nat × Operand},p∈l->∀ a b,Rb hl (ev p.2)=some (a,b)->∀ x∈b,x∈bsP hl (Vg ev l)
 |(i,y)::r,p,hp,a,b,hc,x,hx=>by
  simp only [Vg,bsP];rcases Qi9.1 hp with rfl | hp
  ·simp only at hc;rw [hc];exact List.mem_append_left _ hx
  ·have ih:=Q8I hp a b hc x hx;split
   ·exact List.mem_append_right _ ih
   ·exact ih
theorem Q52 {hl:Nat->Option Ob}:∀ {l:List (Nat × AV)} {x:Nat},x∈bsP hl l->∃ e s rows,hl x=some (.arr e s rows)
 |[],x,h=>by simp [bsP] at h
 |(i,a)::r,x,h=>by
  simp only [bsP] at h;split at h
  ·rename_i a' b hc;rcases Qii.1 h with h | h
   ·exact Cp hc x h
   ·exact Q52 h
  ·exact Q52 h
theorem Q2y:∀ {z:List D} {l:List AV} {ds:List D},Q9c z l=some ds->(∀ k,Gu k l=false)/\(∀ t,BV t l=false)/\∀ x∈l,x≠.top
 |[],[],ds,h=>⟨fun _=>rfl,fun _=>rfl,fun x h=>by simp at h⟩
 |[],_::_,ds,h=>by simp [Q9c] at h
 |_::_,[],ds,h=>by simp [Q9c] at h
 |z::zs,a::r,ds,h=>by
  simp only [Q9c] at h;split at h
  case h_2=>cases h
  rename_i l hl;obtain ⟨h1,h2,h3⟩:=Q2y hl;split at h
  ·exact ⟨fun k=>by simp [Gu,WQ,h1 k],fun t=>by simp [BV,gds,h2 t],fun x hx=>by
    rcases Qi9.1 hx with rfl | hx
    ·simp
    ·exact h3 x hx⟩
  ·exact ⟨fun k=>by simp [Gu,WQ,h1 k],fun t=>by simp [BV,gds,h2 t],fun x hx=>by
    rcases Qi9.1 hx with rfl | hx
    ·simp
    ·exact h3 x hx⟩
  ·cases h
theorem Q6N {z:List D} {av:AV} {ds:List D} (h:Q9c z (XN av)=some ds):QdY av:=by
 obtain ⟨h1,h2,h3⟩:=Q2y h;cases av with
 |ag l=>exact ⟨fun k=>by grind [WQ,XN],fun t=>by grind [gds,XN],by simp⟩
 |fs _ _=>exact ⟨fun k=>rfl,fun t=>rfl,by simp⟩
 |_=>exact ⟨fun k=>by simp_all [Gu,XN],fun t=>by simp_all [BV,XN],h3 _ (by simp [XN])⟩
theorem Db {z:List D}:∀ {ac:List (Nat × AV)} {rows aj:List (List D)},Mv z rows ac=some aj->∀ p∈ac,QdY p.2
 |[],_,_,_,p,hp=>by simp at hp
 |(i,v)::r,rows,aj,h,p,hp=>by
  simp only [Mv] at h;split at h
  case h_2=>cases h
  rename_i row ak;cases hc:Nat.ble (i+1) rows.length with
  |false=>simp [hc] at h
  |true=>
   simp only [hc,QhV] at h;rcases Qi9.1 hp with rfl | hp
   ·exact Q6N ak
   ·exact Db h p hp
theorem Bf {ev:Operand->AV}:∀ {l:List (Nat × Operand)} {p:Nat × Operand},p∈l->(p.1,ev p.2)∈Vg ev l
 |(i,y)::r,p,hp=>by
  simp only [Vg];rcases Qi9.1 hp with rfl | hp
  ·simp
  ·exact List.mem_cons_of_mem _ (Bf hp)
theorem BI {tt:TT} {hl:Nat->Option Ob} {an:Nat} {u:Bool} {t len:Nat} {ac:List (Nat × AV)} {k:Dl->Option R} {r:R} (h:Ku tt hl an u t len ac k=some r):∀ p∈ac,QdY p.2:=by
 unfold Ku at h;split at h
 case h_2=>cases h
 rename_i e ak hk;cases hc:(Nat.ble (len*ak) 16777216&&(look tt e).isSome&&Nat.beq (N9 tt e).length ak) with
 |false=>simp_all
 |true=>
  simp only [hc,QhV] at h;split at h
  case h_2=>cases h
  rename_i rows aj;exact Db aj
theorem Q1Z {o:Oper} {ev:Operand->AV} {hl:Nat->Option Ob} {bs:List Nat} {dl:Dl} (ax:∀ l,l∈bs->∃ e s rows,hl l=some (.arr e s rows))
  (ao:∀ x∈o.op.operands.toList,(∃ b,Rb hl (ev x)=some (cv1 hl (ev x),b)/\∀ y∈b,y∈bs)/\QdY (cv1 hl (ev x)))
  (hG:GO P E o (fun x=>cv1 hl (ev x)) (fzH hl bs) dl) (hm:HI bs (wrL dl)=false) (a2:HI bs dl.rd=false):GO P E o ev hl ⟨dl.v,bs.map (fun l=>(l,none))++dl.wr,bs++dl.rd⟩:=by
 intro β S st a w hR hO hA ar K Q hK;have aq:∀ l,l∈bs->look st.h l=hl l:=fun l h=>hA l (.inl (by simp [h]))
 have ak:∀ l,l∈bs->∃ e s rows,look st.h l=some (.arr e s rows):=fun l h=>by simp_all
 have au:=AP hR bs ak;refine hG β (fzS β S bs) _ a w au (fun x hx=>⟨?_,fun l _=>(ao x hx).2.1 l⟩) ?_ (CE (fun l ac h=>JM hm h ac) (SP ar)) K Q fun v w' an=>hK v w' ?_
 ·obtain ⟨⟨b,h1,h2⟩,hb⟩:=ao x hx;rw [Bl];exact (Q5Y hR.objs aq h2 h1 (hO.at hx)).mono (fun _ h=>h) (fun _ _=>rfl) (fun l _=>Keep.rfl_ ..) (fun t ht=>by rw [hb.2.1 t] at ht;cases ht)
 ·intro l ac;have aj:l ∉ bs:=fun h=>by grind [JM]
  rw [Bl,MQ aj,MQ aj];rcases ac with h1 | h1
  ·exact hA l (.inl (by simp [h1]))
  ·exact hA l (.inr (by simp_all [wrL,List.map_append,Qii]))
 ·obtain ⟨β',S',g1,g2⟩:=an;refine ⟨β',S',?_,?_⟩
  all_goals grind [SQ]
theorem Q4b {tt:TT} (hT:TOk P tt) {o:Oper} {t:TypeId} {len:Nat} {ac:Array (Nat × Operand)} (ho:o.op = .buildSlice t len ac) {u:Bool} {aj:Nat} {ev:Operand->AV} {hl:Nat->Option Ob} {k:Dl->Option R} {r:R}
  (h:Q41 tt hl aj u t len (Vg ev ac.toList) k=some r):∃ dl,k dl=some r/\GO P E o ev hl dl:=by
 unfold Q41 at h;split at h
 ·exact N1 hT ho h
 ·rename_i b bs hb;cases u with
  |false=>simp at h
  |true=>
   rw [<- Q0a] at h;have ao:=BI h;rw [QcB] at h;obtain ⟨dl,h,hG⟩:=N1 (E:=E) hT ho h;cases hc:(!HI (b::bs) (wrL dl)&&!HI (b::bs) dl.rd) with
   |false=>simp_all
   |true=>
    simp only [hc,QhV] at h;simp only [QhS,Bool.not_eq_true'] at hc;refine ⟨_,h,Q1Z (fun l ak=>Q52 (hb▸ak)) (fun x hx=>?_) hG hc.1 hc.2⟩;obtain ⟨i,hi⟩:∃ i,(i,x)∈ac.toList:=by
     grind [Op.operands]
    have hn:QdY (cv1 hl (ev x)):=ao _ (Bf hi);refine ⟨?_,hn⟩;unfold cv1 at hn ⊢;cases an:Rb hl (ev x) with
    |none=>
     rw [an] at hn;exact absurd rfl hn.2.2
    |some q=>exact ⟨q.2,rfl,fun y hy=>by grind [Q8I]⟩
end
section
variable {P:Program} {E:Env} {R:Type}
theorem D8:∀ {rows:List (List D)} {s:List UInt8},Ek rows=some s->∃ ns:List Int,rows=ns.map (fun n=>[D.int .u8 n])/\s=ns.map fun n=>UInt8.ofNat n.toNat
 |[],s,h=>by simp_all [Ek]
 |row::r,s,h=>by
  unfold Ek at h;split at h
  ·simp_all
  ·rename_i n r' he;injection he with he1 he2
   subst he1 he2;split at h
   ·rename_i l hl;injection h with h
    subst h;obtain ⟨ns,h1,h2⟩:=D8 hl;exact ⟨n::ns,by simp [h1],by simp [h2]⟩
   ·cases h
  ·cases h
theorem AL:∀ (ns:List Int) (s:ByteArray),(ns.foldl (fun r n=>r.push (UInt8.ofNat n.toNat)) s).data.toList=s.data.toList++ns.map fun n=>UInt8.ofNat n.toNat
 |[],s=>by simp
 |n::ns,s=>by
  rw [List.foldl_cons,AL ns];simp [ByteArray.push]
theorem Q6A {tt:TT} (hT:TOk P tt) {o:Oper} {s t:TypeId} {x:Operand} (ho:o.op = .convert s t x) {g:Bool} {ev:Operand->AV} {hl:Nat->Option Ob} {e:Nat} {rows:List (List D)} {rd:List Nat}
  (hs:TJ tt s = .sl e 1) (ht:TJ tt t = .str) (he:TJ tt e = .int .u8) (hx:AM 1 hl (ev x)=some (rows,rd)) {k:Dl->Option R} {r:R} (h:gb g (Ek rows) [] (fun s=>k ⟨.d (.str s),[],rd⟩)=some r) :
  ∃ dl,k dl=some r/\(g=true->GO P E o ev hl dl):=by
 obtain ⟨ti,bc,a7⟩:=Xt hs (by simp);obtain ⟨a3,a2,ax⟩:=Xt ht (by simp);obtain ⟨a8,ay,az⟩:=Xt he (by simp);have a6:=((hT s ti bc).ksl _ _ a7).1;have a4:=(hT t a3 a2).kstr ax;have bb:=(hT e a8 ay).kint _ az;obtain ⟨str,h,hp⟩:=QM h;refine ⟨_,h,fun hg=>Ql fun β S st a w hR hO hA=>?_⟩;have hv:=hO.at (x:=x) (by simp [ho,Op.operands]);obtain ⟨vals,aw⟩:=Q24 (by omega) hx hR hv (fun l a9=>hA l (.inl a9));obtain ⟨ns,aj,ak⟩:=D8 (hp hg);have ao:∀ bs:ByteArray,bs.data.toList=str->(execOp a.eval o).run P w = .ok (.value (.string bs)) w->∃ u,(execOp a.eval o).run P w = .ok (.value u) w/\RdA β S (look st.h) w (tmv a) u (.d (.str str)):=by
  intro bs hb hr;refine ⟨.string bs,hr,.d _ _ ?_⟩;rw [<- hb];exact .str _
 have ac:∀ (ad:Option Addr) (l c:Nat) (bs:ByteArray),a.eval x = .slice ad l c->(Conv.bytesToString (.slice ad l c)).run P w = .ok (.string bs) w->(execOp a.eval o).run P w = .ok (.value (.string bs)) w:=by
  intro ad l c bs ba hb;unfold execOp;rw [ho];simp only [ba,QhU,run_convert_bytes_string w s t e ad l c a6 bb a4,hb,QhQ];rfl
 rcases aw.form with ⟨hf,hn⟩ | ⟨c,hf,hn⟩ | ⟨ad,c,hf,au⟩
 ·refine ao .empty ?_ (ac none 0 0 _ hf (by simp [Conv.bytesToString]));rw [hn] at aj;have:ns=[]:=by
   cases ns with
   |nil=>rfl
   |cons a b=>simp at aj
  rw [ak,this];rfl
 ·refine ao .empty ?_ (ac none 0 c _ hf (by simp [Conv.bytesToString]));rw [hn] at aj;have:ns=[]:=by
   cases ns with
   |nil=>rfl
   |cons a b=>simp at aj
  rw [ak,this];rfl
 ·have bg:vals.length=ns.length:=by rw [aw.len,aj];simp
  have ar:vals=ns.map (Value.int .u8):=by
   refine List.ext_getElem? fun i=>?_
   rcases Nat.lt_or_ge i ns.length with hi | hi
   ·obtain ⟨u,hu,hr⟩:=aw.rd i 0 [D.int .u8 ns[i]] (D.int .u8 ns[i]) (by rw [aj];simp [hi]) rfl;rw [show i*1+0=i by omega] at hu;rw [hu];cases hr;simp [hi]
   ·rw [List.getElem?_eq_none (by omega),List.getElem?_eq_none (by simpa using hi)]
  have an:=run_loadCells_list (P:=P) w ad vals au;have hr:=run_bytesToString (P:=P) w ad rows.length c ns (by
   rw [ar,List.length_map] at an;rw [show rows.length=ns.length by rw [aj];simp];exact an)
  refine ao _ ?_ (ac (some ad) _ c _ hf hr);rw [AL,ak];rfl
end
section
variable {P:Program} {E:Env} {R:Type}
theorem KP {α:Type}:∀ (n s:Nat) (l:List α),(Ry n s l).length=n
 |0,_,_=>rfl
 |n+1,s,l=>by simp [Ry,KP n]
theorem B8 {α:Type}:∀ (n s:Nat) (l:List α) (i:Nat),i<n->(Ry n s l)[i]? = some ((l.drop (i*s)).take s)
 |n+1,s,l,0,_=>by simp [Ry]
 |n+1,s,l,i+1,h=>by
  simp only [Ry,List.getElem?_cons_succ];rw [B8 n s _ i (by omega),List.drop_drop,Nat.add_comm s,Qij]
theorem AN {S:Nat->Prop} {w:World} {cs:Array Value} {n s:Nat} {ds:List D} (aj:ds.length=n*s) (ak:n*s<=cs.size) (hr:∀ (j:Nat) (x:D),ds[j]? = some x->∃ v,cs[j]? = some v/\Rd S w v x):UU S w cs s (Ry n s ds):=by
 refine ⟨by grind [KP],fun i r h=>?_,fun i j r x h1 h2=>?_⟩
 ·have hi:i<n:=by grind [List.getElem?_eq_some_iff,KP]
  rw [B8 n s ds i hi] at h;have ac:(i+1)*s<=n*s:=QhX _ (by omega)
  grind
 grind [List.getElem?_eq_some_iff,KP,B8]
theorem Q6t {β:Nat->Option Nat} {S:Nat->Prop} {st:St} {a:Act} {w:World} (hR:Rel E β S st a w) {ac e s:Nat} {rows:List (List D)} {cs:Array Value} (aj:look st.h ac=none) (hc:Ur st ac=true) (h:UU S w cs s rows) :
  Rel E (SS β ac (some w.heap.size)) S ⟨st.n,st.tm,(ac,.arr e s rows)::rem ac st.h⟩ a (w.alloc (.cells cs e)):=by
 obtain ⟨h1,h2,h3⟩:=h;refine hR.new aj hc (.inr ⟨w.heap.size,cs,by simp [SS],VY _ _,h1,h2,fun i j r x h4 h5=>?_⟩);obtain ⟨v,hv,hr⟩:=h3 i j r x h4 h5;exact ⟨v,hv,hr.mono (fun _ hb=>hb) (fun b hb=>Zg _ _ (hR.hr.sb b hb))⟩
theorem Q46 {tt:TT} (hT:TOk P tt) {o:Oper} {t:TypeId} (ho:o.op = .alloc t) {ev:Operand->AV} {hl:Nat->Option Ob} {ac:Nat} {ti:TyI} (aw:look tt t=some ti) {e aj n:Nat} (hk:ti.kd = .array e aj n) (au:ti.zd.length=n*aj) (hn:hl ac=none) :
  GO P E o ev hl ⟨.ap ac 0 0,[]++[(ac,some (.arr t aj (Ry n aj ti.zd)))],[]⟩:=by
 have ak:=hT t ti aw;obtain ⟨inf,az,_,_,z,hz,ax⟩:=ak.inf;obtain ⟨_,_,_,ao,_⟩:=ak.karr e aj n hk;have a4:z.cells.size=n*aj:=by rw [<- Qi4,ax,ak.zlen];exact ao
 intro β S st a w hR hO hA a5 K Q hK;have ay:look st.h ac=none:=by rw [hA ac (.inr (by simp [wrL]))];exact hn
 have hc:Ur st ac=true:=by grind [Wc]
 have aq:UU S w z.cells aj (Ry n aj ti.zd):=AN au (by omega) fun j x hx=>by
  obtain ⟨v,hv,hr⟩:=ak.zd (by omega) j x hx
  grind
 have ar:(execOp a.eval o).run P w = .ok (.value (.pointer (some ⟨w.heap.size,0,none⟩))) (w.alloc (.cells z.cells t)):=by
  simp_all [execOp,Instr.alloc,zeroValue,Yl,newVar,newRow]
 unfold Oper.wp;rw [ar];refine hK _ _ ⟨SS β ac (some w.heap.size),S,Q6t hR ay hc aq,?_⟩;have:=RdA.ap (β:=SS β ac (some w.heap.size)) (S:=S) (h:=look (NL st.h ([]++[(ac,some (Ob.arr t aj (Ry n aj ti.zd)))]))) (w:=w.alloc (.cells z.cells t)) (tm:=tmv a) ac 0 0 w.heap.size t aj (Ry n aj ti.zd) (by simp [SS]) (by simp [NL,WJ])
 simp_all
theorem Q01 {α:Type} {l:List α} {n:Nat} {u:Unit} (h:Hg l n=some u):l.length=n:=by
 grind [Hg,Nat.beq,Nat.eq_of_beq_eq_true]
theorem CS {tt:TT} (hT:TOk P tt) {o:Oper} {t:TypeId} {x i:Operand} (ho:o.op = .indexAddr t x i) {g:Bool} {ev:Operand->AV} {hl:Nat->Option Ob} {k:Dl->Option R} {r:R} {e ac n l:Nat} (hk:TJ tt t = .array e ac n) (ay:ev x = .ap l 0 0)
  (h:MP g hl ac n l (ev i) k=some r):∃ dl,k dl=some r/\(g=true->GO P E o ev hl dl):=by
 have aq:x∈o.op.operands.toList:=by grind [Op.operands]
 have au:i∈o.op.operands.toList:=by simp [ho,Op.operands]
 obtain ⟨ti,ax,ar⟩:=Xt hk (by simp);obtain ⟨hu,a4,⟨i0,a3,ak⟩,_,_⟩:=(hT t ti ax).karr _ _ _ ar;unfold MP at h;split at h
 case h_2=>cases h
 rename_i ik y e' s rows a2 aj;cases hb:Nat.beq s ac with
 |false=>simp_all
 |true=>
  obtain rfl:=QhT hb;simp only [hb,QhV] at h;obtain ⟨u,h,aw⟩:=QM h;refine ⟨_,h,fun hg=>Ql fun β S st a w hR hO hA=>?_⟩;obtain ⟨h0,h1⟩:=Q5L (aw hg);have hi:=(a2▸hO.at au).int_inv;have ao:look st.h l=some (.arr e' s rows):=by rw [hA l (.inl (by simp))];exact aj
  obtain ⟨b,az,hx⟩:=RdA.ap_inv ao (ay▸hO.at aq);have an:(execOp a.eval o).run P w = .ok (.value (.pointer (some ⟨b,y.toNat*s,none⟩))) w:=by
   unfold execOp;rw [ho];simp [Instr.indexAt,hx,hi,asIntOf,QO hu,h0,h1,sizeOf,Yl a3,ak,Instr.sureAddr,H3]
  refine ⟨_,an,?_⟩;have:=RdA.ap (β:=β) (S:=S) (h:=look st.h) (w:=w) (tm:=tmv a) l y.toNat 0 b e' s rows az ao;omega
theorem Q4c {tt:TT} (hT:TOk P tt) {o:Oper} {t:TypeId} {x y:Operand} (ho:o.op = .store t x y) {ev:Operand->AV} {hl:Nat->Option Ob} {k:Dl->Option R} {r:R} {e ay n l:Nat} (hk:TJ tt t = .array e ay n) (bn:ev x = .ap l 0 0)
  (h:Q55 hl ay n l (ev y) k=some r):∃ dl,k dl=some r/\GO P E o ev hl dl:=by
 have bk:x∈o.op.operands.toList:=by grind [Op.operands]
 have bc:y∈o.op.operands.toList:=by simp [ho,Op.operands]
 obtain ⟨ti,bm,bl⟩:=Xt hk (by simp);have a5:=hT t ti bm;obtain ⟨hu,bq,_,aw,_⟩:=a5.karr _ _ _ bl;unfold Q55 at h;split at h
 case h_2=>cases h
 rename_i e' s rows a4;cases hb:Nat.beq s ay with
 |false=>simp_all
 |true=>
  obtain rfl:=QhT hb;simp only [hb,QhV] at h;split at h
  case h_2=>cases h
  rename_i ds bj;cases an:Nat.beq ds.length (n*s) with
  |false=>simp_all
  |true=>
   have a8:=QhT an;simp only [an,QhV] at h;obtain ⟨u,h,a3⟩:=QM h;have bh:=Q01 (a3 rfl);refine ⟨_,h,?_⟩;intro β S st a w hR hO hA cc K Q hK;have aj:look st.h l=some (.arr e' s rows):=by rw [hA l (.inl (by simp))];exact a4
   obtain ⟨b,ak,hx⟩:=RdA.ap_inv aj (bn▸hO.at bk);have az:=BR bj;obtain ⟨c1,c2,c3⟩:=NR (hO.at bc) (by rw [az];exact ER ds);rcases hR.hr.ob l _ aj with ⟨ba,_⟩ | ⟨b',cs,ar,hw,au,b9,b6⟩
   ·rw [ak] at ba;cases ba
   obtain rfl:b=b':=by rw [ak] at ar;injection ar
   rw [bh] at au;have aq:(a.eval y).cells.size=n*s:=by rw [c1,az];simpa using a8
   obtain ⟨w',a9,ac⟩:∃ w',(storeCells ⟨b,0,none⟩ (a.eval y).cells.toList 0).run P w = .ok () w'/\Wrote b (Ti cs 0 (a.eval y).cells.toList) e' (0,0) w w':=
    G9 b 0 e' (0,0) _ 0 cs w hw (Qcw _) (by simp [aq];omega) c3
   have a6:∀ j,(Ti cs 0 (a.eval y).cells.toList)[j]? = if j<n*s then (a.eval y).cells[j]? else cs[j]?:=by
    intro j;rw [S6 _ _ _ _ (by simp [aq];omega)];simp [aq]
   unfold Oper.wp;have bi:a.eval x = .pointer (some ⟨b,0,none⟩):=by simpa using hx
   rw [Nx ho bi (RT a5 (by rw [aq,aw]) a9)];have a7:∀ k',look ((l,Ob.arr e' s (Ry n s ds))::rem l st.h) k'=if k'=l then some (.arr e' s (Ry n s ds)) else look st.h k':=fun k'=>WJ l k' _ st.h
   have ao:Keep β (look st.h) w β (look ((l,.arr e' s (Ry n s ds))::rem l st.h)) w' l:=by
    refine ⟨rfl,fun h=>?_,fun e1 s1 bb h=>?_,fun b2 b7 b4 ce _ an a2=>?_,fun t f h=>by rw [aj] at h;cases h⟩
    ·rw [aj] at h;cases h
    ·rw [aj] at h;cases h;exact .inr ⟨Ry n s ds,by rw [a7,Qi7 rfl],by rw [KP];omega⟩
    ·rw [ak] at an;injection an with e;subst e
     rw [hw] at a2;injection a2 with e;injection e with e1 e2 e3;subst e1
     exact ⟨_,_,_,ac.blk,U1 _ _ _⟩
   refine hK undef _ ⟨β,S,hR.set aj ak ac.oth ac.os ac.tape ac.output ac.size ao (.inr ⟨b,_,ak,ac.blk,?_⟩),.top _⟩;have bg:∀ c,S c->w'.heap[c]? = w.heap[c]?:=fun c hc=>ac.oth c (fun e=>by subst e;exact hR.hr.apart l c (by simp [aj]) ak hc)
   have ax:UU S w (Ti cs 0 (a.eval y).cells.toList) s (Ry n s ds):=by
    refine AN a8 (by rw [U1];exact au) fun j d hd=>?_
    have hj:j<n*s:=by have:=(QhR.1 hd).1;omega
    have h1:=a6 j;rw [Qi7 hj] at h1;rw [h1];refine ⟨_,Hq (cs:=(a.eval y).cells) (by omega),?_⟩;have h2:=c2 j (.d d) (by rw [az,Qi1,hd];rfl);exact h2.d_inv
   obtain ⟨r1,r2,r3⟩:=ax;exact ⟨r1,r2,fun i j r x h4 h5=>by
    obtain ⟨v,hv,hr⟩:=r3 i j r x h4 h5;exact ⟨v,hv,hr.mono (fun _ h=>h) bg⟩⟩
theorem Q9k {β:Nat->Option Nat} {S:Nat->Prop} {st:St} {a:Act} {w w':World} (hR:Rel E β S st a w) (ac:∀ b,b<w.heap.size->w'.heap[b]? = w.heap[b]?) (ao:w'.heap.size=w.heap.size+1) (an:w'.os=w.os) (ak:w'.tape=w.tape) (aj:w'.output=w.output):Rel E β (fun b=>S b\/b=w.heap.size) st a w':=by
 have:=hR.upd (w':=w') (β':=β) (S':=fun b=>S b\/b=w.heap.size) (H':=st.h) (fun _ h=>.inl h) (fun b hb=>ac b (hR.hr.sb b hb)) (fun _=>False)
  (fun l _=>⟨rfl,rfl,fun b hs hb=>ac b (Rt hR hs hb)⟩) (fun l h=>h.elim) (fun l o h=>h.elim) hR.hr.inj
  (fun l b hs hb hS=>by
   rcases hS with hS | hS
   ·exact hR.hr.apart l b hs hb hS
   ·have:=Rt hR hs hb;omega)
  hR.hr.own
  (fun b hS=>by
   rcases hS with hS | hS
   ·have:=hR.hr.sb b hS;omega
   ·omega)
  (fun b hS=>by
   rcases hS with hS | hS
   ·exact hR.hr.sfr b hS
   ·right;right;have:=hR.hr.fr.size;omega)
  ⟨an.trans hR.hr.fr.os,ak.trans hR.hr.fr.tape,aj.trans hR.hr.fr.output,by have:=hR.hr.fr.size;omega,fun b hb hm=>(ac b (Qih hb hR.hr.fr.size)).trans (hR.hr.fr.block b hb hm)⟩
 exact this
theorem Q0F {tt:TT} (hT:TOk P tt) {o:Oper} {s t:TypeId} {x:Operand} (ho:o.op = .convert s t x) {ev:Operand->AV} {hl:Nat->Option Ob} {e:Nat} {n:List UInt8}
  (hs:TJ tt s = .str) (ht:TJ tt t = .sl e 1) (he:TJ tt e = .int .u8) (hx:ev x = .d (.str n)):GO P E o ev hl ⟨.d (.sl 1 (Q77 n)),[],[]⟩:=by
 obtain ⟨ti,az,ax⟩:=Xt hs (by simp);obtain ⟨ar,aq,ac⟩:=Xt ht (by simp);obtain ⟨ay,aj,ao⟩:=Xt he (by simp);have a6:=(hT s ti az).kstr ax;have a4:=((hT t ar aq).ksl _ _ ac).1;have a8:=(hT e ay aj).kint _ ao;intro β S st a w hR hO hA bb K Q hK;obtain ⟨b,hb,hv⟩:=(hx▸hO.at (x:=x) (by grind [Op.operands])).str_inv;have an:(execOp a.eval o).run P w = .ok (.value (.slice (some ⟨w.heap.size,0,none⟩) b.size (grownCap w b.size 0 e))) (Lib.bytesWorld w e b):=by
  simp_all [execOp,QhU,Lib.run_convert_string_bytes,QhQ]
 unfold Oper.wp;rw [an];have a2:b.size<=grownCap w b.size 0 e:=grownCap_ge w b.size 0 e;refine hK _ _ ⟨β,fun c=>S c\/c=w.heap.size,Q9k hR (fun c hc=>Lib.bytesWorld_at_old w e b c hc) (Lib.bytesWorld_size w e b) rfl rfl rfl,.d _ _ ?_⟩;have ak:(Q77 n).length=b.size:=by simp [Q77,hb]
 rw [<- ak];refine UU.rd (cs:=Lib.bytesCells w e b) ⟨?_,?_,?_⟩ (Lib.bytesWorld_at_new w e b) (.inr rfl) (by simp_all)
 ·simp_all [Lib.bytesCells]
 ·simp_all [Q77,Qi1,QhW]
 ·intro i j r d h1 h2;simp only [Q77,Qi1,QhW] at h1;obtain ⟨c,hc,rfl⟩:=h1;cases j with
  |zero=>
   simp at h2;subst h2;have hi:i<b.size:=by have:=(QhR.1 hc).1;rw [hb] at this;simpa using this
   refine ⟨.int .u8 (c.toNat:Int),?_,.int _ _⟩;rw [hb] at hc;have:b.data[i]? = some c:=by simpa using hc
   have au:i<b.data.size:=hi;simp only [Lib.bytesCells,Nat.mul_one,Nat.add_zero];rw [Array.getElem?_append_left (by simpa using au),Array.getElem?_map,this];rfl
  |succ j=>simp at h2
theorem SO (n:Int):∀ (es:List MapEntry) (i:Nat),(∀ e∈es,∃ m,e.key = .int .i64 m) ->
  (HD es n=none/\Instr.findNow (.int .i64) (.int .i64 n) es i=some none)\/∃ j v,HD es n=some v/\Instr.findNow (.int .i64) (.int .i64 n) es i=some (some (j,v))
 |[],i,_=>.inl ⟨rfl,rfl⟩
 |e::r,i,h=>by
  obtain ⟨m,hm⟩:=h e (List.mem_cons_self ..);simp only [HD,hm,Instr.findNow,Instr.sameNow,if_true];by_cases aj:m=n
  ·simp_all
  ·have hb:(n == m)=false:=by grind
   simp only [hb,aj,if_false];exact SO n r (i+1) fun x hx=>h x (List.mem_cons_of_mem _ hx)
theorem RdA.mpd_inv {β:Nat->Option Nat} {S:Nat->Prop} {h:Nat->Option Ob} {w:World} {tm:Nat->Value} {v:Value} {f:Int->List (List D)} (hv:RdA β S h w tm v (.mpd f)):Q9b S w v f:=by
 cases hv with
 |mpd _ _ hm=>exact hm
 |dang _ _ l hl=>trivial
theorem Q4Q {tt:TT} (hT:TOk P tt) {o:Oper} {t:TypeId} {m x:Operand} (ho:o.op = .lookup t m x false) {ev:Operand->AV} {hl:Nat->Option Ob} {f:Int->List (List D)} {n:Int}
  (ht:TJ tt t = .mapI) (hm:ev m = .mpd f) (hx:ev x = .d (.int .i64 n)):GO P E o ev hl ⟨.d (.sl 1 (f n)),[],[]⟩:=by
 obtain ⟨ti,ar,ao⟩:=Xt ht (by simp);obtain ⟨K0,e,hu,hk,i,hi,hz⟩:=(hT t ti ar).kmap ao;intro β S st a w hR hO hA a9 K Q hK;obtain ⟨b,es,au,hv,hS,hb,aj,hn,ac⟩:=(hm▸hO.at (x:=m) (by simp [ho,Op.operands])).mpd_inv;have aq:=(hx▸hO.at (x:=x) (by simp [ho,Op.operands])).int_inv;have aw:(zeroValue e).run P w = .ok (.slice none 0 0) w:=by simp [zeroValue,Yl hi,hz]
 have an:(Instr.checkKey es.isEmpty 10000 K0 (.int .i64 n)).run P w = .ok () w:=by
  rw [show (10000:Nat)=9999+1 from rfl,Instr.checkKey];simp only [QhU,QO hk,QhQ];rfl
 obtain ⟨v,ak,ax⟩:∃ v,(Instr.lookup t (.map (some b)) (.int .i64 n) false).run P w = .ok v w/\Rd S w v (.sl 1 (f n)):=by
  rcases SO n es.toList 0 aj with ⟨h1,h2⟩ | ⟨j,v,h1,h2⟩
  ·refine ⟨.slice none 0 0,?_,by rw [hn n h1];exact .sl0 _ _ _⟩;simp [Instr.lookup,QO hu,Qi8 hb,an,Instr.findKey,QO hk,h2,aw,Result.andThen]
  ·refine ⟨v,?_,ac n v h1⟩;simp [Instr.lookup,QO hu,Qi8 hb,an,Instr.findKey,QO hk,h2,Result.andThen]
 unfold Oper.wp execOp;rw [ho];simp only [hv,aq,QhU,ak,QhQ];exact hK _ _ ⟨β,S,hR,.d _ _ ax⟩
end
section
variable {P:Program} {E:Env} {R:Type}
theorem Q5B (n:Int) (u:Value):∀ (es:List MapEntry) (i:Nat),(∀ e∈es,∃ m,e.key = .int .i64 m)->HD es n≠none ->
  ∃ j v e,Instr.findNow (.int .i64) (.int .i64 n) es i=some (some (i+j,v))/\es[j]? = some e/\e.key = .int .i64 n /\
   (∀ x∈es.modify j (fun e=>{ e with key:=.int .i64 n,val:=u }),∃ m,x.key = .int .i64 m)/\∀ m,HD (es.modify j fun e=>{ e with key:=.int .i64 n,val:=u }) m=if m=n then some u else HD es m
 |[],i,_,h=>absurd rfl h
 |e::r,i,h,hl=>by
  obtain ⟨k,hk⟩:=h e (List.mem_cons_self ..);by_cases aj:k=n
  ·subst aj;refine ⟨0,e.val,e,?_,rfl,hk,fun x hx=>?_,fun m=>?_⟩
   all_goals grind [Instr.findNow,Instr.sameNow,List.modify_zero_cons,HD]
  ·have hb:(n == k)=false:=by grind
   simp only [HD,hk,aj,if_false] at hl;obtain ⟨j,v,e',g1,g2,g3,g4,g5⟩:=Q5B n u r (i+1) (fun x hx=>h x (List.mem_cons_of_mem _ hx)) hl;refine ⟨j+1,v,e',?_,by simp_all,g3,fun x hx=>?_,fun m=>?_⟩
   ·simp only [Instr.findNow,Instr.sameNow,hk,hb,if_true,g1];rw [Qil,Nat.add_comm 1 j]
   ·simp only [List.modify_succ_cons,Qi9] at hx;rcases hx with rfl | hx
    ·exact ⟨k,hk⟩
    ·exact g4 x hx
   grind [List.modify_succ_cons,HD]
theorem Q2c (n:Int) (e:MapEntry) (he:e.key = .int .i64 n):∀ (es:List MapEntry),(∀ e∈es,∃ m,e.key = .int .i64 m)->HD es n=none->∀ m,HD (es++[e]) m=if m=n then some e.val else HD es m
 |[],_,_,m=>by
  simp only [List.nil_append,HD,he];by_cases h:n=m
  ·simp [h]
  ·rw [Qi3 h,Qi3 (fun e=>h e.symm)]
 |x::r,h,hl,m=>by
  obtain ⟨k,hk⟩:=h x (List.mem_cons_self ..);simp only [HD,hk] at hl;by_cases ac:k=n
  ·rw [Qi7 ac] at hl;cases hl
  ·rw [Qi3 ac] at hl;have ih:=Q2c n e he r (fun y hy=>h y (List.mem_cons_of_mem _ hy)) hl m;simp only [List.cons_append,HD,hk,ih];by_cases hm:k=m
   ·subst hm;simp [ac]
   ·simp [hm]
theorem Q6s {tt:TT} (hT:TOk P tt) {t:TypeId} (ht:TJ tt t = .mpb) {w:World} {b:Nat} {f:Int->Bool} (hm:MpR w b f) (n:Int) (v:Bool) :
  ∃ w',(Instr.mapUpdate t (.map (some b)) (.int .i64 n) (.bool v)).run P w = .ok () w'/\MpR w' b (Q6o f n v)/\(∀ k,k≠b->w'.heap[k]? = w.heap[k]?)/\w'.os=w.os/\w'.tape=w.tape/\w'.output=w.output/\w'.heap.size=w.heap.size:=by
 obtain ⟨ti,a6,a4⟩:=Xt ht (by simp);obtain ⟨K0,e,hu,hk,i,hi,hz⟩:=(hT t ti a6).kmpb a4;obtain ⟨es,ak,hb,ac,hn,ar⟩:=hm;have az:b<w.heap.size:=(Qi5.1 hb).1;have ay:(Instr.checkKey false 10000 K0 (.int .i64 n)).run P w = .ok () w:=by
  rw [show (10000:Nat)=9999+1 from rfl,Instr.checkKey];simp only [QhU,QO hk,QhQ];rfl
 have au:∀ (an:Array MapEntry) (aj:Nat),(Instr.mapUpdate t (.map (some b)) (.int .i64 n) (.bool v)).run P w = .ok () { w with heap:=w.heap.setIfInBounds b (.map an aj) } ->
   (∀ e∈an.toList,∃ m,e.key = .int .i64 m)->(∀ m,HD an.toList m=if m=n then some (.bool v) else HD es.toList m) ->
   ∃ w',(Instr.mapUpdate t (.map (some b)) (.int .i64 n) (.bool v)).run P w = .ok () w'/\MpR w' b (Q6o f n v)/\(∀ k,k≠b->w'.heap[k]? = w.heap[k]?)/\w'.os=w.os/\w'.tape=w.tape/\w'.output=w.output/\w'.heap.size=w.heap.size:=by
  intro an aj aw a3 ax;refine ⟨_,aw,⟨an,aj,by simp [az],a3,fun m hm=>?_,fun m x hm=>?_⟩,fun k hk=>?_,rfl,rfl,rfl,by simp⟩
  ·rw [ax] at hm;by_cases e1:m=n
   ·rw [Qi7 e1] at hm;cases hm
   ·rw [Qi3 e1] at hm;simp [Q6o,e1,hn m hm]
  ·rw [ax] at hm;by_cases e1:m=n
   ·rw [Qi7 e1] at hm;injection hm with hm;simp [Q6o,e1,<- hm]
   ·rw [Qi3 e1] at hm;simp [Q6o,e1,ar m x hm]
  ·simp [Ne.symm hk]
 cases hl:HD es.toList n with
 |none=>
  have hf:Instr.findNow (.int .i64) (.int .i64 n) es.toList 0=some none:=by
   rcases SO n es.toList 0 ac with ⟨_,h2⟩ | ⟨j,x,h1,_⟩
   ·exact h2
   ·rw [hl] at h1;cases h1
  refine au (es.push ⟨.int .i64 n,.bool v,ak⟩) (ak+1) ?_ (fun x hx=>?_) (fun m=>?_)
  ·simp [Instr.mapUpdate,QO hu,Qi8 hb,ay,Instr.findKey,QO hk,hf,MapKept.run_setObj_map _ hb,Result.andThen]
  ·simp only [Array.toList_push,Qii,List.mem_singleton] at hx;rcases hx with hx | rfl
   ·exact ac x hx
   ·exact ⟨n,rfl⟩
  ·rw [Array.toList_push];exact Q2c n _ rfl es.toList ac hl m
 |some x=>
  obtain ⟨j,y,e',g1,g2,g3,g4,g5⟩:=Q5B n (.bool v) es.toList 0 ac (by rw [hl];simp);rw [Nat.zero_add] at g1;have a5:es[j]? = some e':=by simpa using g2
  have a2:∀ (w:World),(Instr.keyThatStays (.int .i64 n) (.int .i64 n)).run P w = .ok (.int .i64 n) w:=by
   intro w;simp [Instr.keyThatStays,Instr.sameBits]
  refine au (es.modify j fun e=>{ e with key:=.int .i64 n,val:=.bool v }) ak ?_ (by rw [Array.toList_modify];exact g4) (fun m=>by rw [Array.toList_modify];exact g5 m);simp [Instr.mapUpdate,QO hu,Qi8 hb,ay,Instr.findKey,QO hk,g1,a5,g3,a2,MapKept.run_setObj_map _ hb,Result.andThen]
theorem Q35 {o:Oper} {t:TypeId} (ho:o.op = .makeMap t none) {ev:Operand->AV} {hl:Nat->Option Ob} {ac:Nat} (hn:hl ac=none) :
  GO P E o ev hl ⟨.arr ac,[]++[(ac,some (.mp t fun _=>false))],[]⟩:=by
 intro β S st a w hR hO hA ao K Q hK;have ak:look st.h ac=none:=by rw [hA ac (.inr (by simp [wrL]))];exact hn
 have hc:Ur st ac=true:=by grind [Wc]
 have aj:(execOp a.eval o).run P w = .ok (.value (.map (some w.heap.size))) (w.alloc (.map #[] 0)):=by
  unfold execOp;rw [ho];rfl
 unfold Oper.wp;rw [aj];refine hK _ _ ⟨SS β ac (some w.heap.size),S,?_,.mp ac w.heap.size t (fun _=>false) (by simp [SS]) (by simp [NL,look])⟩;exact hR.new ak hc ⟨w.heap.size,by simp [SS],#[],0,VY _ _,by simp,fun n _=>rfl,fun n v h=>by trivial⟩
theorem AH {tt:TT} (hT:TOk P tt) {o:Oper} {t:TypeId} {m x v:Operand} (ho:o.op = .mapUpdate t m x v) {ev:Operand->AV} {hl:Nat->Option Ob} {l t':Nat} {f:Int->Bool} {n:Int} {b:Bool}
  (ht:TJ tt t = .mpb) (hm:ev m = .arr l) (hx:ev x = .d (.int .i64 n)) (hv:ev v = .d (.bool b)) (ac:hl l=some (.mp t' f)):GO P E o ev hl ⟨.top,[(l,some (.mp t' (Q6o f n b)))],[l]⟩:=by
 intro β S st a w hR hO hA bg K Q hK;have ac:look st.h l=some (.mp t' f):=by rw [hA l (.inl (by simp))];exact ac
 obtain ⟨bk,hb,a7⟩:=RdA.mp_inv ac (hm▸hO.at (x:=m) (by grind [Op.operands]));have ba:=(hx▸hO.at (x:=x) (by simp [ho,Op.operands])).int_inv;have bh:=(hv▸hO.at (x:=v) (by simp [ho,Op.operands])).bool_inv;obtain ⟨b2,bb,aq⟩:=hR.hr.ob l _ ac;obtain rfl:bk=b2:=by simp_all
 obtain ⟨w',a2,ar,an,az,aj,ao,ax⟩:=Q6s hT ht aq n b;have ak:(execOp a.eval o).run P w = .ok .skip w':=by
  simp_all [execOp,QhU,QhQ]
 unfold Oper.wp;rw [ak];refine hK undef _ ⟨β,S,?_,.top _⟩;obtain ⟨es,ay,a4,_⟩:=aq;refine hR.set ac hb an az aj ao ax ⟨rfl,fun h=>?_,fun e s rows h=>?_,fun b3 cs ty fz _ bi a6=>?_,fun t1 f1 h=>?_⟩ ⟨bk,hb,ar⟩
 ·simp_all
 ·rw [ac] at h;cases h
 ·simp_all
 ·rw [ac] at h;injection h with h
  injection h with h1 h2
  subst h1;exact .inr ⟨Q6o f n b,by rw [WJ,Qi7 rfl]⟩
theorem Q3G {tt:TT} (hT:TOk P tt) {o:Oper} {t:TypeId} {m x:Operand} (ho:o.op = .lookup t m x false) {ev:Operand->AV} {hl:Nat->Option Ob} {l t':Nat} {f:Int->Bool} {n:Int}
  (ht:TJ tt t = .mpb) (hm:ev m = .arr l) (hx:ev x = .d (.int .i64 n)) (ac:hl l=some (.mp t' f)):GO P E o ev hl ⟨.d (.bool (f n)),[],[l]⟩:=by
 obtain ⟨ti,ay,aw⟩:=Xt ht (by simp);obtain ⟨K0,e,hu,hk,i,hi,hz⟩:=(hT t ti ay).kmpb aw;refine Ql fun β S st a w hR hO hA=>?_
 have ac:look st.h l=some (.mp t' f):=by rw [hA l (.inl (by simp))];exact ac
 obtain ⟨bk,hb,au⟩:=RdA.mp_inv ac (hm▸hO.at (x:=m) (by simp [ho,Op.operands]));have ax:=(hx▸hO.at (x:=x) (by simp [ho,Op.operands])).int_inv;obtain ⟨b2,aq,es,az,an,ak,hn,aj⟩:=hR.hr.ob l _ ac;obtain rfl:bk=b2:=by rw [hb] at aq;injection aq
 have a2:(zeroValue e).run P w = .ok (.bool false) w:=by simp [zeroValue,Yl hi,hz]
 have ar:(Instr.checkKey es.isEmpty 10000 K0 (.int .i64 n)).run P w = .ok () w:=by
  rw [show (10000:Nat)=9999+1 from rfl,Instr.checkKey];simp only [QhU,QO hk,QhQ];rfl
 have ao:(Instr.lookup t (.map (some bk)) (.int .i64 n) false).run P w = .ok (.bool (f n)) w:=by
  rcases SO n es.toList 0 ak with ⟨h1,h2⟩ | ⟨j,v,h1,h2⟩
  ·rw [hn n h1];simp [Instr.lookup,QO hu,Qi8 an,ar,Instr.findKey,QO hk,h2,a2,Result.andThen]
  ·rw [<- aj n v h1];simp [Instr.lookup,QO hu,Qi8 an,ar,Instr.findKey,QO hk,h2,Result.andThen]
 refine ⟨.bool (f n),?_,.d _ _ (.bool _)⟩;unfold execOp;rw [ho];simp only [au,ax,QhU,ao,QhQ];rfl
end
section
variable {P:Program} {E:Env} {R:Type}
theorem Q4l {s:List UInt8} {n b:Int} (h:VP s n=some b):0<=n/\∃ ac:n.toNat<s.length,b=((s[n.toNat]' ac).toNat:Int):=by
 grind [VP]
theorem Q7a {tt:TT} (hT:TOk P tt) {o:Oper} {t:TypeId} {x i:Operand} (ho:o.op = .index t x i) {g:Bool} {ev:Operand->AV} {hl:Nat->Option Ob} {k:Dl->Option R} {r:R}
  (h:Q9q tt g t (ev x) (ev i) k=some r):∃ dl,k dl=some r/\(g=true->GO P E o ev hl dl):=by
 have ac:x∈o.op.operands.toList:=by grind [Op.operands]
 have ak:i∈o.op.operands.toList:=by simp [ho,Op.operands]
 unfold Q9q at h;split at h
 case h_2=>cases h
 rename_i s ik n hk ao aq;obtain ⟨ti,an,aj⟩:=Xt hk (by simp);have hu:=(hT t ti an).kstr aj;obtain ⟨b,h,hp⟩:=QM h;refine ⟨_,h,fun hg=>Ql fun β S st a w hR hO hA=>?_⟩;obtain ⟨bs,hs,hx⟩:=(ao▸hO.at ac).str_inv;have hi:=(aq▸hO.at ak).int_inv;obtain ⟨h0,au,hb⟩:=Q4l (hp hg);have az:s.length=bs.size:=by simp_all
 refine ⟨.int .u8 b,?_,.d _ _ (.int _ _)⟩;unfold execOp;have:=run_index_string (P:=P) w t bs ik n hu;rw [dif_pos ⟨h0,by omega⟩] at this
 simp_all [QhU,QhQ,ByteArray.getElem_eq_getElem_data]
theorem VH {ev:Operand->AV} {β:Nat->Option Nat} {S:Nat->Prop} {h:Nat->Option Ob} {w:World} {tm:Nat->Value} {ρ:Operand->Value} {x:Option Operand} {n:Option Int} (hb:Nc ev x=some n) (hx:∀ y,x=some y->RdA β S h w tm (ρ y) (ev y)) :
  (x=none/\n=none)\/∃ y k m,x=some y/\n=some m/\ρ y = .int k m:=by
 cases x with
 |none=>grind [Nc]
 |some y=>
  simp only [Nc] at hb;split at hb
  ·rename_i k m ac;simp at hb;exact .inr ⟨y,k,m,rfl,hb.symm,(ac▸hx y rfl).int_inv⟩
  ·cases hb
theorem NC {len:Nat} {lo hi:Option Int} {q:Nat × Nat} (h:slB len lo hi=some q) :
  0<=lo.getD 0/\lo.getD 0<=hi.getD len/\hi.getD len<=len/\q=((lo.getD 0).toNat,(hi.getD len).toNat):=by
 grind [slB]
theorem NJ (ac:Bool) {len cap:Nat} (aq:len<=cap) {lo hi:Option Operand} {l h:Option Int} {ρ:Operand->Value} {w:World} {q:Nat × Nat} (hs:slB len l h=some q)
  (an:(lo=none/\l=none)\/∃ y k m,lo=some y/\l=some m/\ρ y = .int k m) (ak:(hi=none/\h=none)\/∃ y k m,hi=some y/\h=some m/\ρ y = .int k m) :
  (Instr.sliceBounds ac len cap (lo.map ρ) (hi.map ρ) none).run P w = .ok (q.1,q.2,cap) w:=by
 obtain ⟨h1,h2,h3,rfl⟩:=NC hs;rcases an with ⟨rfl,rfl⟩ | ⟨y,k,m,rfl,rfl,hy⟩ <;> rcases ak with ⟨rfl,rfl⟩ | ⟨y',k',m',rfl,rfl,ao⟩ <;> simp only [Option.getD_none,Option.getD_some] at h1 h2 h3
 ·rfl
 ·have e1:0<=m'/\m'<=(cap:Int):=by omega
  simp_all [Instr.sliceBounds,run_sliceBound_if]
 ·simp_all [Instr.sliceBounds,run_sliceBound_if]
 ·have e1:0<=m'/\m'<=(cap:Int):=by omega
  have e2:0<=m/\m<=((m'.toNat:Nat):Int):=by omega
  simp_all [Instr.sliceBounds,run_sliceBound_if]
theorem E6 {α:Type} {l:List α} {q:Nat × Nat} {i:Nat} {a:α} (h:(cut l q)[i]? = some a):i<q.2-q.1/\l[q.1+i]? = some a:=by
 simp_all [cut,List.getElem?_take,List.getElem?_drop]
theorem Q2f {o:Oper} {t:TypeId} {x:Operand} {lo hi:Option Operand} (ho:o.op = .slice t x lo hi none):x∈o.op.operands.toList/\(∀ y,lo=some y->y∈o.op.operands.toList)/\∀ y,hi=some y->y∈o.op.operands.toList:=by
 grind [Op.operands]
theorem Q79 {tt:TT} (hT:TOk P tt) {o:Oper} {t:TypeId} {x:Operand} {lo hi:Option Operand} (ho:o.op = .slice t x lo hi none) {g:Bool} {ev:Operand->AV} {hl:Nat->Option Ob} {k:Dl->Option R} {r:R}
  (h:Q7G tt g t (ev x) (Nc ev lo) (Nc ev hi) k=some r):∃ dl,k dl=some r/\(g=true->GO P E o ev hl dl):=by
 obtain ⟨a3,aw,aj⟩:=Q2f ho;unfold Q7G at h;split at h
 case h_2=>cases h
 rename_i l' h' a5 a4;split at h
 ·rename_i s hk ay;obtain ⟨ti,ax,ao⟩:=Xt hk (by simp);have hu:=(hT t ti ax).kstr ao;obtain ⟨q,h,hp⟩:=QM h;refine ⟨_,h,fun hg=>Ql fun β S st a w hR hO hA=>?_⟩;obtain ⟨bs,hs,hx⟩:=(ay▸hO.at a3).str_inv;have ar:s.length=bs.size:=by simp_all
  have hb:=NJ (P:=P) false (len:=s.length) (cap:=s.length) (Qie _) (ρ:=a.eval) (w:=w) (hp hg) (VH a5 fun y hy=>hO.at (aw y hy)) (VH a4 fun y hy=>hO.at (aj y hy));rw [ar] at hb;refine ⟨.string (bs.extract q.1 q.2),?_,.d _ _ ?_⟩
  ·simp_all [execOp,QhU,run_sliceAt_string,Option.map_none,Instr.slice,QO,QhQ,Option.isSome_none,Bool.false_eq_true,if_false]
  ·have:cut s q=(bs.extract q.1 q.2).data.toList:=by
    rw [hs];simp [cut,ByteArray.data_extract]
   rw [this];exact .str _
 ·rename_i e bb s rows hk ay;cases hb:Nat.beq s bb with
  |false=>simp [hb] at h
  |true=>
   simp only [hb,QhV] at h;obtain rfl:=QhT hb;obtain ⟨ti,ax,ao⟩:=Xt hk (by simp);obtain ⟨hu,a8,inf,an,ar⟩:=(hT t ti ax).ksl _ _ ao;obtain ⟨q,h,hp⟩:=QM h;refine ⟨_,h,fun hg=>Ql fun β S st a w hR hO hA=>?_⟩;have bc:=(ay▸hO.at a3).d_inv;have hq:=NC (hp hg);have au:∀ (ad:Option Addr) (cap:Nat),rows.length<=cap->a.eval x = .slice ad rows.length cap->(execOp a.eval o).run P w = .ok (.value (.slice (if cap=q.1 then ad else ad.map (·.add (q.1*s))) (q.2-q.1) (cap-q.1))) w:=by
    intro ad cap hc hx;have hb:=NJ (P:=P) true hc (ρ:=a.eval) (w:=w) (hp hg) (VH a5 fun y hy=>hO.at (aw y hy)) (VH a4 fun y hy=>hO.at (aj y hy));unfold execOp;rw [ho];simp only [hx,QhU,Instr.sliceAt,QO hu,QhQ,Option.map_none];simp only [Instr.slice,QhU,QO hu,QhQ,hb,sizeOf,Yl an,ar];rfl
   have az:(cut rows q).length=q.2-q.1:=by
    unfold cut;rw [hq.2.2.2];simp;omega
   generalize hv:a.eval x=v at bc au;cases bc with
   |sl0 ad cap _=>
    refine ⟨_,au ad cap (Nat.zero_le _) rfl,.d _ _ ?_⟩;have:cut ([]:List (List D)) q=[]:=by simp [cut]
    rw [this];have h0:q.2-q.1=0:=by rw [this] at az;simpa using az.symm
    rw [h0];exact .sl0 _ _ _
   |sl ad cap _ _ c hS a9 a7 hc hr=>
    refine ⟨_,au (some ad) cap a9 rfl,.d _ _ ?_⟩;by_cases h0:q.2-q.1=0
    ·have:cut rows q=[]:=Qi0 (by rw [az,h0]);rw [this,h0];exact .sl0 _ _ _
    ·have bg:cap≠q.1:=by
      have:=hq.2.2.1;have:=hq.2.2.2;have h1:q.2<=rows.length:=by rw [this];simp;omega
      omega
     rw [Qi3 bg,<- az];refine Rd.sl (ad.add (q.1*s)) (cap-q.1) s (cut rows q) (fun i j=>c (q.1+i) j) (by rw [Jt];exact hS) ?_ ?_ ?_ ?_
     ·rw [az];have:=hq.2.2.2;have h1:q.2<=rows.length:=by rw [this];simp;omega
      omega
     ·intro i r ak;exact a7 _ _ (E6 ak).2
     ·intro i j r y ak hy;have:=hc (q.1+i) j r y (E6 ak).2 hy;rw [CA,<- Qil,<- Nat.add_mul];exact this
     ·intro i j r y ak hy;exact hr (q.1+i) j r y (E6 ak).2 hy
 ·rename_i e bb hk ay;obtain ⟨ti,ax,ao⟩:=Xt hk (by simp);obtain ⟨hu,a8,inf,an,ar⟩:=(hT t ti ax).ksl _ _ ao;obtain ⟨q,h,hp⟩:=QM h;refine ⟨_,h,fun hg=>Ql fun β S st a w hR hO hA=>?_⟩;have hx:=(ay▸hO.at a3).nil_inv;have hq:=NC (hp hg);have hb:=NJ (P:=P) true (Qie 0) (ρ:=a.eval) (w:=w) (hp hg) (VH a5 fun y hy=>hO.at (aw y hy)) (VH a4 fun y hy=>hO.at (aj y hy));have h0:q.2-q.1=0:=by
   obtain ⟨q1,q2,q3,q4⟩:=hq;rw [q4];show (h'.getD ((0:Nat):Int)).toNat-(l'.getD 0).toNat=0;omega
  have h1:0-q.1=0:=Nat.zero_sub _;refine ⟨.slice none 0 0,?_,.nil⟩;unfold execOp;rw [ho];simp only [hx,QhU,Instr.sliceAt,QO hu,QhQ,Option.map_none];simp only [Instr.slice,QhU,QO hu,QhQ,hb,sizeOf,Yl an,ar,h0,h1,Option.map_none,ite_self];rfl
 ·cases h
theorem Q2R {len:Nat} {lo hi mx:Option Int} {q:Nat × Nat} (h:Qfp len lo hi mx=some q):∃ m,hi=some m/\mx=some m/\slB len lo (some m)=some q:=by
 unfold Qfp at h
 grind
theorem Cs {len cap:Nat} (ao:len<=cap) {lo:Option Operand} {yh ym:Operand} {l:Option Int} {m:Int} {kh km:IntKind} {ρ:Operand->Value} {w:World} {q:Nat × Nat} (hs:slB len l (some m)=some q)
  (ac:(lo=none/\l=none)\/∃ y k m,lo=some y/\l=some m/\ρ y = .int k m) (hh:ρ yh = .int kh m) (hm:ρ ym = .int km m) :
  (Instr.sliceBounds true len cap (lo.map ρ) (some (ρ yh)) (some (ρ ym))).run P w = .ok (q.1,q.2,q.2) w:=by
 obtain ⟨h1,h2,h3,rfl⟩:=NC hs;simp only [Option.getD_some] at h2 h3;have e1:0<=m/\m<=(cap:Int):=by
  omega
 have e2:0<=m/\m<=((m.toNat:Nat):Int):=by omega
 rcases ac with ⟨rfl,rfl⟩ | ⟨y,k,a,rfl,rfl,hy⟩
 ·simp_all [Instr.sliceBounds,run_sliceBound_if]
 ·simp only [Option.getD_some] at h1 h2;have e3:0<=a/\a<=((m.toNat:Nat):Int):=by omega
  simp_all [Instr.sliceBounds,run_sliceBound_if,Qi7]
theorem Q6z {o:Oper} {t:TypeId} {x mx:Operand} {lo hi:Option Operand} (ho:o.op = .slice t x lo hi (some mx)):x∈o.op.operands.toList/\(∀ y,lo=some y->y∈o.op.operands.toList)/\(∀ y,hi=some y->y∈o.op.operands.toList)/\mx∈o.op.operands.toList:=by
 grind [Op.operands]
theorem Q4J {tt:TT} (hT:TOk P tt) {o:Oper} {t:TypeId} {x mx:Operand} {lo hi:Option Operand} (ho:o.op = .slice t x lo hi (some mx)) {g:Bool} {ev:Operand->AV} {hl:Nat->Option Ob} {k:Dl->Option R} {r:R}
  (h:Q3M tt g t (ev x) (Nc ev lo) (Nc ev hi) (Nc ev (some mx)) k=some r):∃ dl,k dl=some r/\(g=true->GO P E o ev hl dl):=by
 obtain ⟨bi,au,aw,bm⟩:=Q6z ho;unfold Q3M at h;split at h
 case h_2=>cases h
 rename_i l' h' m' ba bc bg;split at h
 ·rename_i e bk s rows hk a7;cases hb:Nat.beq s bk with
  |false=>simp_all
  |true=>
   simp only [hb,QhV] at h;obtain rfl:=QhT hb;obtain ⟨ti,a6,a3⟩:=Xt hk (by simp);obtain ⟨hu,bb,inf,an,ay⟩:=(hT t ti a6).ksl _ _ a3;obtain ⟨q,h,hp⟩:=QM h;refine ⟨_,h,fun hg=>Ql fun β S st a w hR hO hA=>?_⟩;have bl:=(a7▸hO.at bi).d_inv;obtain ⟨m,rfl,rfl,ao⟩:=Q2R (hp hg);have hq:=NC ao;rcases VH bc fun y hy=>hO.at (aw y hy) with ⟨_,hn⟩ | ⟨yh,kh,mh,rfl,e1,a2⟩
   ·cases hn
   rcases VH bg fun y hy=>hO.at (by injection hy with hy;subst hy;exact bm) with ⟨_,hn⟩ | ⟨ym,km,mm,e3,e2,a5⟩
   ·cases hn
   injection e1 with e1
   injection e2 with e2
   injection e3 with e3
   subst e1 e2 e3;have aq:∀ (ad:Option Addr) (cap:Nat),rows.length<=cap->a.eval x = .slice ad rows.length cap->(execOp a.eval o).run P w = .ok (.value (.slice (if q.2=q.1 then ad else ad.map (·.add (q.1*s))) (q.2-q.1) (q.2-q.1))) w:=by
    intro ad cap hc hx;have hb:=Cs (P:=P) hc (ρ:=a.eval) (w:=w) ao (VH ba fun y hy=>hO.at (au y hy)) a2 a5;unfold execOp;rw [ho];simp only [hx,QhU,Instr.sliceAt,QO hu,QhQ,Option.map_some];simp only [Instr.slice,QhU,QO hu,QhQ,hb,sizeOf,Yl an,ay];rfl
   have b1:q.2<=rows.length:=by
    have h3:=hq.2.2.1;rw [hq.2.2.2];simp only [Option.getD_some] at h3 ⊢;omega
   have aj:(cut rows q).length=q.2-q.1:=by
    unfold cut;simp;omega
   generalize hv:a.eval x=v at bl aq;have ax:∀ (ad:Option Addr),Rd S w (.slice ad (q.2-q.1) (q.2-q.1)) (.sl s (cut rows q))->RdA β S (look st.h) w (tmv a) (.slice ad (q.2-q.1) (q.2-q.1)) (.fs s (cut rows q)):=by
    intro ad hr;have:=RdA.fs (β:=β) (h:=look st.h) (tm:=tmv a) ad s (cut rows q) (by rw [aj];exact hr);rw [aj] at this;exact this
   cases bl with
   |sl0 ad cap _=>
    refine ⟨_,aq ad cap (Nat.zero_le _) rfl,ax _ ?_⟩;have:cut ([]:List (List D)) q=[]:=by simp [cut]
    rw [this];have h0:q.2-q.1=0:=by rw [this] at aj;simpa using aj.symm
    rw [h0];exact .sl0 _ _ _
   |sl ad cap _ _ c hS a9 bh hc hr=>
    refine ⟨_,aq (some ad) cap a9 rfl,ax _ ?_⟩;by_cases h0:q.2-q.1=0
    ·have:cut rows q=[]:=Qi0 (by rw [aj,h0]);rw [this,h0];exact .sl0 _ _ _
    ·have bn:q.2≠q.1:=by omega
     rw [Qi3 bn];have:=Rd.sl (S:=S) (w:=w) (ad.add (q.1*s)) (q.2-q.1) s (cut rows q) (fun i j=>c (q.1+i) j) (by rw [Jt];exact hS) (by rw [aj];exact Qie _) (fun i r ak=>bh _ _ (E6 ak).2) (fun i j r y ak hy=>by
      have:=hc (q.1+i) j r y (E6 ak).2 hy;rw [CA,<- Qil,<- Nat.add_mul];exact this) (fun i j r y ak hy=>hr (q.1+i) j r y (E6 ak).2 hy)
     rw [aj] at this;exact this
 ·rename_i e bk hk a7;obtain ⟨ti,a6,a3⟩:=Xt hk (by simp);obtain ⟨hu,bb,inf,an,ay⟩:=(hT t ti a6).ksl _ _ a3;obtain ⟨q,h,hp⟩:=QM h;refine ⟨_,h,fun hg=>Ql fun β S st a w hR hO hA=>?_⟩;have hx:=(a7▸hO.at bi).nil_inv;obtain ⟨m,rfl,rfl,ao⟩:=Q2R (hp hg);have hq:=NC ao;rcases VH bc fun y hy=>hO.at (aw y hy) with ⟨_,hn⟩ | ⟨yh,kh,mh,rfl,e1,a2⟩
  ·cases hn
  rcases VH bg fun y hy=>hO.at (by injection hy with hy;subst hy;exact bm) with ⟨_,hn⟩ | ⟨ym,km,mm,e3,e2,a5⟩
  ·cases hn
  injection e1 with e1
  injection e2 with e2
  injection e3 with e3
  subst e1 e2 e3;have hb:=Cs (P:=P) (Qie 0) (ρ:=a.eval) (w:=w) ao (VH ba fun y hy=>hO.at (au y hy)) a2 a5;have h0:q.2-q.1=0:=by
   obtain ⟨q1,q2,q3,q4⟩:=hq;rw [q4];simp only [Option.getD_some] at q2 q3 ⊢;omega
  refine ⟨.slice none 0 0,?_,.fs none _ [] (.sl0 _ _ _)⟩;unfold execOp;rw [ho];simp only [hx,QhU,Instr.sliceAt,QO hu,QhQ,Option.map_some];simp only [Instr.slice,QhU,QO hu,QhQ,hb,sizeOf,Yl an,ay,h0,Option.map_none,ite_self];rfl
 ·cases h
end
end Go.Vx
