/- Part of a proof. No conditions of their own. -/
import Derived.Orders
import Derived.Below
import Derived.Laws.StructEq
import Derived.Laws.Strings3
import Derived.Laws.Concat
import Derived.Laws.BytesString
import Derived.Laws.Shifts
import Derived.Laws.Slices
import Derived.Laws.Cells
import Derived.Laws.Rows
import Derived.Tactics2
import Derived.WideLaws
import Derived.Laws.AppendOwn
import Derived.Maps.AppendAt
import Derived.ArgAppend
set_option linter.unusedVariables false
set_option linter.unusedSimpArgs false
namespace Go.Vx
inductive D where
  | int (k:IntKind) (n:Int)
  | bool (b:Bool)
  | str (s:List UInt8)
  | sl (size:Nat) (rows:List (List D))
inductive AV where
  | top
  | d (x:D)
  | nil
  | ag (l:List AV)
  | tup (l:List AV)
  | ptr (l off:Nat)
  | el (row:List D) (off:Nat)
  | arr (l:Nat)
  | ap (l i off:Nat)
  | gd (t:Nat) (w:Bool) (av:AV)
  | fn (f:Nat) (cap:List AV)
  | fs (s:Nat) (rows:List (List D))
  | sa (l t:Nat)
  | mpd (f:Int→List (List D))
  | ex (v:Value)
inductive Ob where
  | box (cells:List AV)
  | arr (elem size:Nat) (rows:List (List D))
structure St where
  n:Nat
  tm:List (Nat × AV)
  h:List (Nat × Ob)
def look {α:Type}:List (Nat × α)→Nat→Option α
  | [],_=>none
  | (k,a)::r,t=>bif Nat.beq k t then some a else look r t
def rem {α:Type} (l:Nat):List (Nat × α)→List (Nat × α)
  | []=>[]
  | (k,a)::r=>bif Nat.beq k l then rem l r else (k,a)::rem l r
def Af (h:List (Nat × Ob)):List (Nat × Option Ob)→List (Nat × Ob)
  | []=>h
  | (l,some o)::r=>Af ((l,o)::rem l h) r
  | (l,none)::r=>Af (rem l h) r
def F0:Value→AV
  | .int k n=>.d (.int k n)
  | .bool b=>.d (.bool b)
  | .string s=>.d (.str s.data.toList)
  | .slice none 0 0=>.nil
  | _=>.top
inductive Kd where
  | int (k:IntKind)
  | bool
  | str
  | sl (e esz:Nat)
  | struct
  | array (e esz n:Nat)
  | ptr
  | mapI
  | other
structure TyI where
  kd:Kd
  size:Nat
  bytes:Nat
  zero:List Value
  zd:List D
  fields:List (Nat × Nat)
  eqk:Option (List Kd)
abbrev TT:=List (Nat × TyI)
structure Dl where
  v:AV
  wr:List (Nat × Option Ob)
  rd:List Nat
def lkT (tm:List (Nat × AV)) (t:Nat):AV:=(look tm t).getD .top
def evO (tm:List (Nat × AV)):Operand→AV
  | .tmp t=>lkT tm t
  | .const v=>F0 v
  | .global _=>.top
  | .func f=>.fn f []
def bw (e w:Bool):Bool:=bif w then e else !e
def ctx (tm:List (Nat × AV)):Nat→Nat→Bool→Option (Bool × List (Nat × Bool))
  | 0,_,_=>none
  | f+1,s,w=>
    match lkT tm s with
    | .d (.bool e)=>some (bw e w,[(s,w)])
    | .gd s' w' (.d (.bool e))=>
      match ctx tm f s' w' with
      | some (g,l)=>some (g&&bw e w,(s,w)::l)
      | none=>none
    | _=>none
def QfH:List (Nat × Bool)→Nat→Bool→Bool
  | [],_,_=>false
  | (a,b)::r,s,w=>(Nat.beq a s&&(b == w))||QfH r s w
def unw (l:List (Nat × Bool)):AV→AV
  | .gd s w av=>bif QfH l s w then av else .gd s w av
  | av=>av
section
variable {R:Type}
def orZ {α:Type} (g:Bool) (p:Option α) (z:α):Option α:=
  match p with
  | some a=>some a
  | none=>bif g then none else some z
def gb {α:Type} (g:Bool) (p:Option α) (z:α) (k:α→Option R):Option R:=Option.bind (orZ g p z) k
def XL (k:IntKind):D→Option Int
  | .int k' n=>bif k == k' then some n else none
  | _=>none
def Eu:D→Option Bool
  | .bool b=>some b
  | _=>none
def Qc0:D→Option (List UInt8)
  | .str s=>some s
  | _=>none
def pSl (size:Nat):D→Option (List (List D))
  | .sl s rows=>bif Nat.beq s size then some rows else none
  | _=>none
def Hb:List AV→Bool
  | []=>true
  | .ptr ..::r=>Hb r
  | .d _::r=>Hb r
  | _=>false
def Q5a:AV→Bool
  | .gd ..=>false
  | .fn _ l=>Hb l
  | .ag _=>false
  | .tup _=>false
  | _=>true
def prj (g:Bool) (kd:Kd) (av:AV) (k:AV→Option R):Option R:=
  match av with
  | .d x=>
    match kd with
    | .int ik=>gb g (XL ik x) 0 fun n=>k (.d (.int ik n))
    | .bool=>gb g (Eu x) false fun b=>k (.d (.bool b))
    | .str=>gb g (Qc0 x) [] fun s=>k (.d (.str s))
    | .sl _ esz=>gb g (pSl esz x) [] fun r=>k (.d (.sl esz r))
    | _=>none
  | av=>bif Q5a av then k av else none
def Q7N (g:Bool) (row:List D):Nat→Nat→(List AV→Option R)→Option R
  | _,0,k=>k []
  | off,n+1,k=>gb g row[off]? (.bool false) fun c=>Q7N g row (off+1) n fun cs=>k (.d c::cs)
def Q5O (cells:List AV):Nat→Nat→Option (List AV)
  | _,0=>some []
  | off,n+1=>
    match cells[off]? with
    | some c=>match Q5O cells (off+1) n with
      | some r=>bif Q5a c then some (c::r) else none
      | none=>none
    | none=>none
def Ep:Kd→Bool
  | .struct=>true
  | _=>false
def G1:Kd→Bool
  | .struct=>true
  | .array ..=>true
  | _=>false
def C6 {α:Type}:Nat→Nat→List α→List (List α)
  | 0,_,_=>[]
  | n+1,s,l=>l.take s::C6 n s (l.drop s)
def Q8Q {α:Type} (l:List α) (n:Nat):Option Unit:=bif Nat.beq l.length n then some () else none
def Q76:AV→Bool
  | .d _ | .nil | .ptr .. | .el .. | .arr _ | .ap ..=>true
  | .fn _ l=>Hb l
  | _=>false
def Ab (cells:List AV):Nat→List AV→Option (List AV)
  | _,[]=>some cells
  | off,v::r=>bif Q76 v&&Nat.ble (off+1) cells.length then Ab (cells.set off v) (off+1) r else none
def QfX:List AV→Option (List D)
  | []=>some []
  | .d x::r=>match QfX r with | some l=>some (x::l) | none=>none
  | _::_=>none
def JL (tm:Operand→AV):List (Nat × Operand)→List (Nat × AV)
  | []=>[]
  | (i,x)::r=>(i,tm x)::JL tm r
def YH:AV→List AV
  | .ag l=>l
  | .fs s rows=>[.d (.sl s rows)]
  | v=>[v]
def Q7E (fields:List (Nat × Nat)) (tt:TT):List AV→List (Nat × AV)→Option (List AV)
  | cells,[]=>some cells
  | cells,(i,v)::r=>
    match fields[i]? with
    | some (off,t)=>match look tt t with
      | some ti=>bif Nat.beq (YH v).length ti.size&&Nat.ble (off+ti.size) cells.length then
          match Ab cells off (YH v) with
          | some cs=>Q7E fields tt cs r
          | none=>none
        else none
      | none=>none
    | none=>none
def Q3A (ti:TyI):List AV:=ti.zero.map F0
def QaH (site t:Nat):Value→AV
  | .pointer none=>.sa site t
  | v=>F0 v
def Q7Q (site t:Nat) (ti:TyI):List AV:=ti.zero.map (QaH site t)
def Qbp (op:BinOp) (k:IntKind) (a b:Int):Option D:=
  match op with
  | .add=>some (.int k (k.wrap (a+b)))
  | .sub=>some (.int k (k.wrap (a-b)))
  | .mul=>some (.int k (k.wrap (a*b)))
  | .eql=>some (.bool (a == b))
  | .neq=>some (.bool (a != b))
  | .lss=>some (.bool (decide (a<b)))
  | .leq=>some (.bool (decide (a≤b)))
  | .gtr=>some (.bool (decide (a>b)))
  | .geq=>some (.bool (decide (a≥b)))
  | _=>none
def nz (b:Int):Option Unit:=bif b == 0 then none else some ()
def Q6U (b:Int):Option Unit:=bif decide (0≤b) then some () else none
def QcX (n:Nat):Option Unit:=bif Nat.ble n 9223372036854775807 then some () else none
def QbG (k:IntKind) (a b:Int):Int:=k.wrap ((BitVec.ofInt k.bits a &&& BitVec.ofInt k.bits b).toNat)
def bOr (k:IntKind) (a b:Int):Int:=k.wrap ((BitVec.ofInt k.bits a ||| BitVec.ofInt k.bits b).toNat)
def QhM (k:IntKind) (a b:Int):Int:=k.wrap ((BitVec.ofInt k.bits a ^^^ BitVec.ofInt k.bits b).toNat)
def Qga (k:IntKind) (a:Int):Int:=QhM k (if k.signed then -1 else k.max) a
def Qe1 (k:IntKind) (a b:Int):Int:=k.wrap ((BitVec.ofInt k.bits a &&& ~~~(BitVec.ofInt k.bits b)).toNat)
def shL (k:IntKind) (a b:Int):Int:=k.wrap (a*2 ^ min b.toNat k.bits)
def shR (k:IntKind) (a b:Int):Int:=a.fdiv (2 ^ min b.toNat k.bits)
def Qhz (a b:List UInt8):Bool:=Op.bytesLess a b||a == b
def Q9k (g:Bool):List Kd→List AV→List AV→(List Bool→Option R)→Option R
  | [],[],[],k=>k []
  | kd::ks,.d a::xs,.d b::ys,k=>
    match kd with
    | .int ik=>gb g (XL ik a) 0 fun m=>gb g (XL ik b) 0 fun n=>Q9k g ks xs ys fun r=>k ((m == n)::r)
    | .bool=>gb g (Eu a) false fun m=>gb g (Eu b) false fun n=>Q9k g ks xs ys fun r=>k ((m == n)::r)
    | .str=>gb g (Qc0 a) [] fun m=>gb g (Qc0 b) [] fun n=>Q9k g ks xs ys fun r=>k ((m == n)::r)
    | _=>none
  | _,_,_,_=>none
def QeA:List Bool→Bool
  | []=>true
  | [b]=>b
  | b::r=>b&&QeA r
def Qia (g:Bool) (op:BinOp) (a b:List UInt8) (k:AV→Option R):Option R:=
  match op with
  | .add=>gb g (QcX (a.length+b.length)) () fun _=>k (.d (.str (a++b)))
  | .eql=>k (.d (.bool (a == b)))
  | .neq=>k (.d (.bool (!(a == b))))
  | .lss=>k (.d (.bool (Op.bytesLess a b)))
  | .leq=>k (.d (.bool (Qhz a b)))
  | .gtr=>k (.d (.bool (!Qhz a b)))
  | .geq=>k (.d (.bool (!Op.bytesLess a b)))
  | _=>none
def Qif (g:Bool) (op:BinOp) (kd:Kd) (eqk:Option (List Kd)) (x y:AV) (k:AV→Option R):Option R:=
  match x,y with
  | .d (.int ka a),.d (.int kb b)=>
    match op with
    | .shl=>gb g (Q6U b) () fun _=>k (.d (.int ka (shL ka a b)))
    | .shr=>gb g (Q6U b) () fun _=>k (.d (.int ka (shR ka a b)))
    | op=>bif ka == kb then
      match op with
      | .quo=>gb g (nz b) () fun _=>k (.d (.int ka (ka.wrap (a.tdiv b))))
      | .rem=>gb g (nz b) () fun _=>k (.d (.int ka (a.tmod b)))
      | .and=>k (.d (.int ka (QbG ka a b)))
      | .or=>k (.d (.int ka (bOr ka a b)))
      | .xor=>k (.d (.int ka (QhM ka a b)))
      | .andNot=>k (.d (.int ka (Qe1 ka a b)))
      | _=>match Qbp op ka a b with
        | some r=>k (.d r)
        | none=>none
    else none
  | .d (.bool a),.d (.bool b)=>
    match kd,op with
    | .bool,.eql=>k (.d (.bool (a == b)))
    | .bool,.neq=>k (.d (.bool (!(a == b))))
    | _,_=>none
  | .d (.str a),.d (.str b)=>Qia g op a b k
  | .ag xs,.ag ys=>
    match eqk with
    | some ks=>match op with
      | .eql=>Q9k g ks xs ys fun bs=>k (.d (.bool (QeA bs)))
      | .neq=>Q9k g ks xs ys fun bs=>k (.d (.bool (!QeA bs)))
      | _=>none
    | none=>none
  | _,_=>none
def TP (s:List UInt8) (n:Int):Option Int:=bif decide (0≤n) then (s[n.toNat]?).map fun b=>(b.toNat:Int) else none
def slB (len:Nat) (lo hi:Option Int):Option (Nat × Nat):=
  bif decide (0≤lo.getD 0)&&(decide (lo.getD 0≤hi.getD len)&&decide (hi.getD len≤len)) then some ((lo.getD 0).toNat,(hi.getD len).toNat) else none
def QhU (len:Nat) (lo hi mx:Option Int):Option (Nat × Nat):=
  match hi,mx with
  | some h,some m=>bif decide (h=m) then slB len lo (some h) else none
  | _,_=>none
def neL {α:Type}:List α→Option Unit
  | []=>none
  | _=>some ()
def cut {α:Type} (l:List α) (q:Nat × Nat):List α:=(l.drop q.1).take (q.2-q.1)
def X2 (rows:List (List D)) (n:Int):Option (List D):=bif decide (0≤n) then rows[n.toNat]? else none
def inB (len:Nat) (n:Int):Option Unit:=bif decide (0≤n)&&decide (n<len) then some () else none
def Q7p (esz:Nat) (hl:Nat→Option Ob):AV→Option (List (List D) × List Nat)
  | .d (.sl s rows)=>bif Nat.beq s esz then some (rows,[]) else none
  | .nil=>some ([],[])
  | .arr l=>match hl l with
    | some (.arr _ s rows)=>bif Nat.beq s esz then some (rows,[l]) else none
    | _=>none
  | _=>none
end
abbrev Q9K:=(R:Type)→Nat→Nat→Bool→List AV→(Nat→Option Ob)→(Dl→Option R)→Option R
section
variable {R:Type}
def BM (tt:TT) (t:Nat):Kd:=
  match look tt t with
  | some ti=>ti.kd
  | none=>.other
def QgE (tt:TT) (t:Nat):Option (List Kd):=
  match look tt t with
  | some ti=>ti.eqk
  | none=>none
def Q37 (ev:Operand→AV):Option Operand→Option (Option Int)
  | none=>some none
  | some x=>match ev x with
    | .d (.int _ n)=>some (some n)
    | _=>none
def Qe5 (tt:TT) (g:Bool) (t:Nat) (x i:AV) (k:Dl→Option R):Option R:=
  match BM tt t,x,i with
  | .str,.d (.str s),.d (.int _ n)=>gb g (TP s n) 0 fun b=>k ⟨.d (.int .u8 b),[],[]⟩
  | _,_,_=>none
def QdS (tt:TT) (g:Bool) (t:Nat) (x:AV) (lo hi:Option (Option Int)) (k:Dl→Option R):Option R:=
  match lo,hi with
  | some lo,some hi=>
    match BM tt t,x with
    | .str,.d (.str s)=>gb g (slB s.length lo hi) (0,0) fun q=>k ⟨.d (.str (cut s q)),[],[]⟩
    | .sl _ esz,.d (.sl s rows)=>bif Nat.beq s esz then gb g (slB rows.length lo hi) (0,0) fun q=>k ⟨.d (.sl esz (cut rows q)),[],[]⟩ else none
    | .sl _ esz,.nil=>gb g (slB 0 lo hi) (0,0) fun _=>k ⟨.d (.sl esz []),[],[]⟩
    | _,_=>none
  | _,_=>none
def Qay (tt:TT) (g:Bool) (t:Nat) (x:AV) (lo hi mx:Option (Option Int)) (k:Dl→Option R):Option R:=
  match lo,hi,mx with
  | some lo,some hi,some mx=>
    match BM tt t,x with
    | .sl _ esz,.d (.sl s rows)=>bif Nat.beq s esz then gb g (QhU rows.length lo hi mx) (0,0) fun q=>k ⟨.fs esz (cut rows q),[],[]⟩ else none
    | .sl _ esz,.nil=>gb g (QhU 0 lo hi mx) (0,0) fun _=>k ⟨.fs esz [],[],[]⟩
    | _,_=>none
  | _,_,_=>none
def Q2I:List (List D)→Option (List UInt8)
  | []=>some []
  | [.int .u8 n]::r=>match Q2I r with
    | some l=>some (UInt8.ofNat n.toNat::l)
    | none=>none
  | _=>none
mutual
def F3:AV→Bool
  | .d (.int ..)=>true
  | .d (.bool _)=>true
  | .d (.str _)=>true
  | .d (.sl ..)=>false
  | .ag l=>Bg l
  | .tup l=>Bg l
  | .fn ..=>false
  | .fs ..=>false
  | .mpd _=>false
  | .el ..=>false
  | .gd ..=>false
  | _=>true
def Bg:List AV→Bool
  | []=>true
  | a::r=>F3 a&&Bg r
end
def Qel:Option Ob→Bool
  | some (.box cells)=>Bg cells
  | some (.arr ..)=>false
  | none=>true
def Q5I:List (Nat × Option Ob)→Bool
  | []=>true
  | (_,o)::r=>Qel o&&Q5I r
def Qce (hl:Nat→Option Ob):AV→Option (AV × List Nat)
  | .arr l=>match hl l with
    | some (.arr _ size rows)=>some (.d (.sl size rows),[l])
    | _=>none
  | av=>bif Q5a av then some (av,[]) else none
def Q3R (hl:Nat→Option Ob):List AV→Option (List AV × List Nat)
  | []=>some ([],[])
  | a::r=>match Qce hl a with
    | some (a',l)=>match Q3R hl r with
      | some (r',l')=>some (a'::r',l++l')
      | none=>none
    | none=>none
def Dp (hl:Nat→Option Ob):AV→Option (AV × List Nat)
  | .ag cs=>match Q3R hl cs with
    | some (cs',l)=>some (.ag cs',l)
    | none=>none
  | av=>Qce hl av
def DE (hl:Nat→Option Ob):List AV→Option (List AV × List Nat)
  | []=>some ([],[])
  | a::r=>match Dp hl a with
    | some (a',l)=>match DE hl r with
      | some (r',l')=>some (a'::r',l++l')
      | none=>none
    | none=>none
def QcQ:List D→List AV→Option (List D)
  | [],[]=>some []
  | z::zs,a::r=>
    match QcQ zs r with
    | some l=>match a with
      | .d x=>some (x::l)
      | .nil=>match z with
        | .sl e []=>some (.sl e []::l)
        | _=>none
      | _=>none
    | none=>none
  | _,_=>none
def Q4C (tt:TT) (t:Nat):List D:=
  match look tt t with
  | some ti=>ti.zd
  | none=>[]
def Q0c (z:List D):List (List D)→List (Nat × AV)→Option (List (List D))
  | rows,[]=>some rows
  | rows,(i,v)::r=>
    match QcQ z (YH v) with
    | some row=>bif Nat.ble (i+1) rows.length then Q0c z (rows.set i row) r else none
    | none=>none
def Qfy (row:List D):Nat→List D→List D
  | _,[]=>row
  | off,x::r=>Qfy (row.set off x) (off+1) r
def R0 (n:Nat):Option Unit:=bif Nat.ble n 140737488355328 then some () else none
def QgC (tt:TT) (g:Bool) (hl:Nat→Option Ob) (t:Nat) (a:AV) (k:Dl→Option R):Option R:=
  match look tt t with
  | some ti=>
    match a with
    | .ptr l off=>match hl l with
      | some (.box cells)=>
        bif G1 ti.kd then
          match Q5O cells off ti.size with
          | some cs=>k ⟨.ag cs,[],[l]⟩
          | none=>none
        else match cells[off]? with
          | some c=>prj g ti.kd c fun v=>k ⟨v,[],[l]⟩
          | none=>none
      | _=>none
    | .el row off=>
      bif G1 ti.kd then Q7N g row off ti.size fun cs=>k ⟨.ag cs,[],[]⟩
      else gb g row[off]? (.bool false) fun c=>prj g ti.kd (.d c) fun v=>k ⟨v,[],[]⟩
    | .ap l i off=>match hl l with
      | some (.arr _ _ rows)=>
        gb g rows[i]? [] fun row=>
          bif G1 ti.kd then Q7N g row off ti.size fun cs=>k ⟨.ag cs,[],[l]⟩
          else gb g row[off]? (.bool false) fun c=>prj g ti.kd (.d c) fun v=>k ⟨v,[],[l]⟩
      | _=>none
    | _=>none
  | none=>none
def Qdt (tt:TT) (hl:Nat→Option Ob) (t:Nat) (a v:AV) (k:Dl→Option R):Option R:=
  match look tt t with
  | some ti=>
    bif Nat.beq (YH v).length ti.size then
      match a with
      | .ptr l off=>match hl l with
        | some (.box cells)=>match Ab cells off (YH v) with
          | some cs=>k ⟨.top,[(l,some (.box cs))],[l]⟩
          | none=>none
        | _=>none
      | .ap l i off=>match hl l with
        | some (.arr e size rows)=>match QfX (YH v) with
          | some ds=>gb true rows[i]? [] fun row=>bif Nat.ble (off+ds.length) size then k ⟨.top,[(l,some (.arr e size (rows.set i (Qfy row off ds))))],[l]⟩ else none
          | none=>none
        | _=>none
      | _=>none
    else none
  | none=>none
def QaP (hl:Nat→Option Ob) (esz n l:Nat) (v:AV) (k:Dl→Option R):Option R:=
  match hl l with
  | some (.arr e s rows)=>
    bif Nat.beq s esz then
      match QfX (YH v) with
      | some ds=>bif Nat.beq ds.length (n*esz) then gb true (Q8Q rows n) () fun _=>k ⟨.top,[(l,some (.arr e s (C6 n esz ds)))],[l]⟩ else none
      | none=>none
    else none
  | _=>none
def AT (g:Bool) (hl:Nat→Option Ob) (esz n l:Nat) (i:AV) (k:Dl→Option R):Option R:=
  match i,hl l with
  | .d (.int _ x),some (.arr _ s _)=>bif Nat.beq s esz then gb g (inB n x) () fun _=>k ⟨.ap l x.toNat 0,[],[l]⟩ else none
  | _,_=>none
def QcH (s:List UInt8):List (List D):=s.map fun b=>[D.int .u8 (b.toNat:Int)]
def QdY (tt:TT) (g:Bool) (t f:Nat) (x:AV) (k:Dl→Option R):Option R:=
  match look tt t with
  | some ti=>bif Ep ti.kd then match ti.fields[f]? with
      | some (off,ft)=>match look tt ft with
        | some fi=>match x with
          | .ag cells=>
            bif G1 fi.kd then
              match Q5O cells off fi.size with
              | some cs=>k ⟨.ag cs,[],[]⟩
              | none=>none
            else match cells[off]? with
              | some c=>prj g fi.kd c fun v=>k ⟨v,[],[]⟩
              | none=>none
          | _=>none
        | none=>none
      | none=>none
    else none
  | none=>none
def Q3p (tt:TT) (hl:Nat→Option Ob) (t f:Nat) (x:AV) (k:Dl→Option R):Option R:=
  match look tt t with
  | some ti=>bif Ep ti.kd then match ti.fields[f]? with
      | some (off,_)=>match x with
        | .ptr l o=>k ⟨.ptr l (o+off),[],[]⟩
        | .el row o=>k ⟨.el row (o+off),[],[]⟩
        | .ap l i o=>match hl l with
          | some (.arr ..)=>k ⟨.ap l i (o+off),[],[l]⟩
          | _=>none
        | _=>none
      | none=>none
    else none
  | none=>none
def Q33 (tt:TT) (g:Bool) (hl:Nat→Option Ob) (t:Nat) (x i:AV) (k:Dl→Option R):Option R:=
  match BM tt t,i with
  | .sl _ esz,.d (.int _ n)=>
    match x with
    | .d (.sl s rows)=>bif Nat.beq s esz then gb g (X2 rows n) [] fun row=>k ⟨.el row 0,[],[]⟩ else none
    | .arr l=>match hl l with
      | some (.arr _ s rows)=>bif Nat.beq s esz then gb g (inB rows.length n) () fun _=>k ⟨.ap l n.toNat 0,[],[l]⟩ else none
      | _=>none
    | .nil=>gb g (X2 [] n) [] fun row=>k ⟨.el row 0,[],[]⟩
    | _=>none
  | _,_=>none
def Qi6 (tt:TT) (hl:Nat→Option Ob) (t:Nat) (x:AV):Option (Int × List Nat):=
  match BM tt t with
  | .sl _ _=>match x with
    | .d (.sl _ rows)=>some (rows.length,[])
    | .nil=>some (0,[])
    | .arr l=>match hl l with
      | some (.arr _ _ rows)=>some (rows.length,[l])
      | _=>none
    | _=>none
  | .str=>match x with
    | .d (.str s)=>some (s.length,[])
    | _=>none
  | _=>none
def Q5f (isMin:Bool):AV→List AV→Option AV
  | a,[]=>some a
  | .d (.int k a),.d (.int k' b)::r=>bif k == k' then Q5f isMin (.d (.int k (bif isMin then (if b<a then b else a) else (if a<b then b else a)))) r else none
  | _,_=>none
def Q7b (hl:Nat→Option Ob) (site:Nat) (o:Ob) (v:AV) (wr:List (Nat × Option Ob)) (rd:List Nat) (k:Dl→Option R):Option R:=
  match hl site with
  | none=>k ⟨v,wr++[(site,some o)],rd⟩
  | some _=>none
def Qaj (tt:TT) (site:Nat) (g:Bool) (hl:Nat→Option Ob) (t:Nat) (s x:AV) (k:Dl→Option R):Option R:=
  match BM tt t with
  | .sl e esz=>match look tt e with
    | some ei=>
      bif Nat.ble 1 ei.bytes&&Nat.beq ei.zero.length esz then
      match Q7p esz hl x with
      | some (news,rx)=>
        match s with
        | .nil=>gb g (R0 (news.length*ei.bytes)) () fun _=>Q7b hl site (.arr e esz news) (.arr site) [] rx k
        | .fs s0 rows=>bif Nat.beq s0 esz then gb g (neL news) () fun _=>gb g (R0 ((rows.length+news.length)*ei.bytes)) () fun _=>Q7b hl site (.arr e esz (rows++news)) (.arr site) [] rx k else none
        | .arr l=>match hl l with
          | some (.arr e' s' rows)=>bif Nat.beq e e'&&Nat.beq esz s' then
              gb g (R0 ((rows.length+news.length)*ei.bytes)) () fun _=>Q7b hl site (.arr e esz (rows++news)) (.arr site) [(l,none)] (l::rx) k
            else none
          | _=>none
        | _=>none
      | none=>none
      else none
    | none=>none
  | _=>none
def ST (tt:TT) (hl:Nat→Option Ob) (site:Nat) (u:Bool) (t len:Nat) (parts:List (Nat × AV)) (k:Dl→Option R):Option R:=
  match BM tt t with
  | .sl e esz=>
    bif Nat.ble (len*esz) 16777216&&(look tt e).isSome&&Nat.beq (Q4C tt e).length esz then
      match Q0c (Q4C tt e) (List.replicate len (Q4C tt e)) parts with
      | some rows=>bif u then Q7b hl site (.arr e esz rows) (.arr site) [] [] k else k ⟨.d (.sl esz rows),[],[]⟩
      | none=>none
    else none
  | _=>none
def Qg9 (tt:TT) (hl:Nat→Option Ob) (site:Nat) (u:Bool) (t:Nat) (l c:AV) (k:Dl→Option R):Option R:=
  bif u then
    match BM tt t,l,c with
    | .sl e esz,.d (.int _ n),.d (.int _ m)=>match look tt e with
      | some ei=>
        bif Nat.ble 1 ei.bytes&&Nat.beq (Q4C tt e).length esz then
        gb true (bif decide (0≤n)&&decide (n≤m) then some () else none) () fun _=>
        gb true (R0 (m.toNat*ei.bytes)) () fun _=>Q7b hl site (.arr e esz (List.replicate n.toNat (Q4C tt e))) (.arr site) [] [] k
        else none
      | none=>none
    | _,_,_=>none
  else none
def Q2D (x:Nat):List Nat→Bool
  | []=>false
  | a::r=>Nat.beq a x||Q2D x r
def NM (a b:List Nat):Bool:=a.any fun x=>Q2D x b
def wrL (dl:Dl):List Nat:=dl.wr.map (·.1)
mutual
def U2 (l:Nat):AV→Bool
  | .ptr a _=>Nat.beq a l
  | .arr a=>Nat.beq a l
  | .ap a _ _=>Nat.beq a l
  | .sa a _=>Nat.beq a l
  | .ag r=>KO l r
  | .tup r=>KO l r
  | .fn _ r=>KO l r
  | .gd _ _ v=>U2 l v
  | _=>false
def KO (l:Nat):List AV→Bool
  | []=>false
  | a::r=>U2 l a||KO l r
end
def E7 (l:Nat):List (Nat × Option Ob)→Bool
  | []=>false
  | (_,some (.box cells))::r=>KO l cells||E7 l r
  | _::r=>E7 l r
def Q6k (bs:List Nat) (dl:Dl):Bool:=bs.all fun l=>!U2 l dl.v&&!E7 l dl.wr
def Qcg:D→Bool
  | .sl ..=>false
  | _=>true
def QaY (rows:List (List D)):Bool:=rows.all fun r=>r.all Qcg
def QfB (l:List (List (List D))):Option Unit:=bif l.all QaY then some () else none
def Q9S:List (Nat × Option Ob)→List (List (List D))
  | []=>[]
  | (_,some (.arr _ _ rows))::r=>rows::Q9S r
  | _::r=>Q9S r
def Qi7 (tt:TT) (e:Nat):Bool:=
  match look tt e with
  | some ti=>Nat.beq ti.zd.length ti.size&&ti.zd.all Qcg
  | none=>false
def Q13 (tt:TT):List (Nat × Option Ob)→Bool
  | []=>true
  | (_,some (.arr e _ _))::r=>Qi7 tt e&&Q13 tt r
  | (_,some (.box cells))::r=>Bg cells&&Q13 tt r
  | (_,none)::r=>Q13 tt r
def Gl:List (Nat × Option Ob)→Bool
  | []=>true
  | (_,some (.arr _ _ rows))::r=>QaY rows&&Gl r
  | (_,some (.box cells))::r=>Bg cells&&Gl r
  | (_,none)::r=>Gl r
def Qiz (spec:Q9K) (f:Nat):Bool:=(spec Unit f 0 false [.gd 0 true .nil] (fun _=>none) fun _=>some ()).isSome
def QdC:AV→Bool
  | .ag l=>l.all Q5a
  | a=>Q5a a
def Qf6 (spec:Q9K) (tt:TT) (site:Nat) (g u:Bool) (hl:Nat→Option Ob) (f:Nat) (args:List AV) (k:Dl→Option R):Option R:=
  bif Qiz spec f then (bif args.all QdC then spec R f site g args hl k else none) else
  match DE hl args with
  | some (avs,bs)=>
    spec R f site g avs hl fun dl=>
      bif !NM bs (wrL dl)&&(!NM bs dl.rd&&Q6k bs dl) then
        bif bs.isEmpty||(F3 dl.v&&Q5I dl.wr) then k ⟨dl.v,dl.wr,bs++dl.rd⟩
        else bif F3 dl.v&&Q13 tt dl.wr then gb g (QfB (Q9S dl.wr)) () fun _=>k ⟨dl.v,dl.wr,bs++dl.rd⟩
        else bif u then k ⟨dl.v,bs.map (fun l=>(l,none))++dl.wr,bs++dl.rd⟩ else none
      else none
  | none=>none
def vUn (op:UnOp) (x:AV):Option AV:=
  match op,x with
  | .not,.d (.bool b)=>some (.d (.bool !b))
  | .neg,.d (.int k n)=>some (.d (.int k (k.wrap (0-n))))
  | .xor,.d (.int k n)=>some (.d (.int k (Qga k n)))
  | _,_=>none
def cv1 (hl:Nat→Option Ob) (av:AV):AV:=
  match Dp hl av with
  | some (a,_)=>a
  | none=>.top
def cvP (hl:Nat→Option Ob):List (Nat × AV)→List (Nat × AV)
  | []=>[]
  | (i,a)::r=>(i,cv1 hl a)::cvP hl r
def bsP (hl:Nat→Option Ob):List (Nat × AV)→List Nat
  | []=>[]
  | (_,a)::r=>match Dp hl a with
    | some (_,b)=>b++bsP hl r
    | none=>bsP hl r
def Qim (hl:Nat→Option Ob) (bs:List Nat):Nat→Option Ob:=fun k=>bif Q2D k bs then none else hl k
def Qat (tt:TT) (hl:Nat→Option Ob) (site:Nat) (u:Bool) (t len:Nat) (parts:List (Nat × AV)) (k:Dl→Option R):Option R:=
  match bsP hl parts with
  | []=>ST tt hl site u t len parts k
  | b::bs=>bif u then
      ST tt (Qim hl (b::bs)) site true t len (cvP hl parts) fun dl=>
        bif !NM (b::bs) (wrL dl)&&!NM (b::bs) dl.rd then k ⟨dl.v,(b::bs).map (fun l=>(l,none))++dl.wr,(b::bs)++dl.rd⟩ else none
    else none
def vdl (spec:Q9K) (tt:TT) (site:Nat) (g u:Bool) (ev:Operand→AV) (hl:Nat→Option Ob) (op:Op) (k:Dl→Option R):Option R:=
  match op with
  | .move x=>k ⟨ev x,[],[]⟩
  | .assign x=>k ⟨ev x,[],[]⟩
  | .pick c x y=>
    match c with
    | .tmp s=>match ev (.tmp s) with
      | .d (.bool e)=>match unw [(s,true)] (ev x),unw [(s,false)] (ev y) with
        | .d (.bool a),.d (.bool b)=>k ⟨.d (.bool (bif e then a else b)),[],[]⟩
        | _,_=>none
      | _=>none
    | _=>none
  | .alloc t=>match look tt t with
    | some ti=>bif u then match ti.kd with
        | .array _ esz n=>bif Nat.beq ti.zd.length (n*esz) then Q7b hl site (.arr t esz (C6 n esz ti.zd)) (.ap site 0 0) [] [] k else none
        | _=>Q7b hl site (.box (Q7Q site t ti)) (.ptr site 0) [] [] k
      else none
    | none=>none
  | .box t x=>match look tt t with
    | some ti=>bif u&&(Nat.beq (YH (ev x)).length ti.size&&(YH (ev x)).all Q76) then Q7b hl site (.box (YH (ev x))) (.ptr site 0) [] [] k else none
    | none=>none
  | .build t parts=>match look tt t with
    | some ti=>bif G1 ti.kd then match Q7E ti.fields tt (Q3A ti) (JL ev parts.toList) with
        | some cs=>k ⟨.ag cs,[],[]⟩
        | none=>none
      else none
    | none=>none
  | .buildSlice t len parts=>Qat tt hl site u t len (JL ev parts.toList) k
  | .load t a=>QgC tt g hl t (ev a) k
  | .store t a v=>bif u then match BM tt t,ev a with
      | .array _ esz n,.ap l 0 0=>QaP hl esz n l (ev v) k
      | _,_=>Qdt tt hl t (ev a) (ev v) k
    else none
  | .nilCheck x=>match ev x with
    | .ptr l o=>k ⟨.ptr l o,[],[]⟩
    | .el r o=>k ⟨.el r o,[],[]⟩
    | .ap l i o=>match hl l with
      | some _=>k ⟨.ap l i o,[],[l]⟩
      | none=>none
    | _=>none
  | .binOp op t x y _=>Qif g op (BM tt t) (QgE tt t) (ev x) (ev y) fun v=>k ⟨v,[],[]⟩
  | .unOp op _ x=>match vUn op (ev x) with
    | some v=>k ⟨v,[],[]⟩
    | none=>none
  | .convert s t x=>match BM tt s,BM tt t with
    | .int _,.int kd=>match ev x with
      | .d (.int _ n)=>k ⟨.d (.int kd (kd.wrap n)),[],[]⟩
      | _=>none
    | .sl e 1,.str=>match BM tt e with
      | .int .u8=>match Q7p 1 hl (ev x) with
        | some (rows,rd)=>gb g (Q2I rows) [] fun s=>k ⟨.d (.str s),[],rd⟩
        | none=>none
      | _=>none
    | .str,.str=>match ev x with
      | .d (.str s)=>k ⟨.d (.str s),[],[]⟩
      | _=>none
    | .str,.sl e 1=>match BM tt e with
      | .int .u8=>match ev x with
        | .d (.str s)=>k ⟨.d (.sl 1 (QcH s)),[],[]⟩
        | _=>none
      | _=>none
    | _,_=>none
  | .makeFunc (.func f) first captured=>match first.toList with
    | []=>bif Hb (captured.toList.map ev) then k ⟨.fn f (captured.toList.map ev),[],[]⟩ else none
    | _=>none
  | .makeSlice t l c=>Qg9 tt hl site u t (ev l) (ev c) k
  | .fieldAddr t x f=>Q3p tt hl t f (ev x) k
  | .field t x f=>QdY tt g t f (ev x) k
  | .indexAddr t x i=>match BM tt t,ev x with
    | .array _ esz n,.ap l 0 0=>AT g hl esz n l (ev i) k
    | _,_=>Q33 tt g hl t (ev x) (ev i) k
  | .index t x i=>Qe5 tt g t (ev x) (ev i) k
  | .slice t x lo hi none=>QdS tt g t (ev x) (Q37 ev lo) (Q37 ev hi) k
  | .slice t x lo hi (some mx)=>Qay tt g t (ev x) (Q37 ev lo) (Q37 ev hi) (Q37 ev (some mx)) k
  | .lookup t m x false=>match BM tt t,ev m,ev x with
    | .mapI,.mpd f,.d (.int .i64 n)=>k ⟨.d (.sl 1 (f n)),[],[]⟩
    | _,_,_=>none
  | .extract x i=>match ev x with
    | .tup l=>match l[i]? with
      | some v=>k ⟨v,[],[]⟩
      | none=>none
    | _=>none
  | .call c=>match c.callee with
    | .value (.func f)=>Qf6 spec tt site g u hl f (c.args.toList.map ev) k
    | .value (.tmp t)=>match ev (.tmp t) with
      | .fn f cap=>Qf6 spec tt site g u hl f (c.args.toList.map ev++cap) k
      | _=>none
    | .builtin .len=>match c.args.toList,c.argTypes.toList with
      | [x],[t]=>match Qi6 tt hl t (ev x) with
        | some (n,rd)=>k ⟨.d (.int .i64 n),[],rd⟩
        | none=>none
      | _,_=>none
    | .builtin .append=>match c.args.toList,c.argTypes.toList with
      | [s,x],[t,t']=>bif Nat.beq t t' then Qaj tt site g hl t (ev s) (ev x) k else none
      | _,_=>none
    | .builtin .min=>match c.args.toList with
      | x::r=>match Q5f true (ev x) (r.map ev) with
        | some v=>k ⟨v,[],[]⟩
        | none=>none
      | _=>none
    | .builtin .max=>match c.args.toList with
      | x::r=>match Q5f false (ev x) (r.map ev) with
        | some v=>k ⟨v,[],[]⟩
        | none=>none
      | _=>none
    | _=>none
  | _=>none
def Q3D (l:Nat):List (Nat × AV)→Bool
  | []=>false
  | (_,a)::r=>U2 l a||Q3D l r
def Su (l:Nat):List (Nat × Ob)→Bool
  | []=>false
  | (_,.box cells)::r=>KO l cells||Su l r
  | (_,.arr ..)::r=>Su l r
def Jo (st:St) (l:Nat):Bool:=Nat.ble l 999999&&(!Q3D l st.tm&&!Su l st.h)
def VJ (st:St):List (Nat × Option Ob)→Bool
  | []=>true
  | (l,o)::r=>(match o,look st.h l with
    | some _,none=>Jo st l
    | _,_=>true)&&VJ st r
mutual
def gds (t:Nat):AV→Bool
  | .gd t' _ av=>Nat.beq t' t||gds t av
  | .ag l=>Q55 t l
  | .tup l=>Q55 t l
  | .fn _ l=>Q55 t l
  | _=>false
def Q55 (t:Nat):List AV→Bool
  | []=>false
  | a::r=>gds t a||Q55 t r
end
def QdM (d:Nat):List (Nat × AV)→Bool
  | []=>false
  | (_,a)::r=>gds d a||QdM d r
structure Rec where
  rt:List Nat
  dst:Option Nat
  dl:Dl
def MV:List Operand→List Nat
  | []=>[]
  | .tmp t::r=>t::MV r
  | _::r=>MV r
def put (st:St) (dst:Option Nat) (dl:Dl):St:=
  { n:=st.n,tm:=match dst with | some d=>(d,dl.v)::st.tm | none=>st.tm,h:=Af st.h dl.wr }
def Q9u (st:St) (v:AV):Option Nat→Bool
  | some d=>Nat.ble (d+1) st.n&&(!gds d v&&!QdM d st.tm)
  | none=>true
def QgA (st:St) (o:Oper) (ch:List Nat) (dl:Dl) (k:St→Rec→Option R):Option R:=
  bif Q9u st dl.v o.dst&&VJ st dl.wr then k (put st o.dst dl) ⟨MV o.op.operands.toList++ch,o.dst,dl⟩ else none
def jD (g:Bool):D→D→Option D
  | .int k x,.int k' y=>bif k == k' then some (.int k (bif g then x else y)) else none
  | .bool x,.bool y=>some (.bool (bif g then x else y))
  | .str x,.str y=>some (.str (bif g then x else y))
  | .sl s x,.sl s' y=>bif Nat.beq s s' then some (.sl s (bif g then x else y)) else none
  | _,_=>none
def jA (g:Bool):AV→AV→Option AV
  | .d x,.d y=>match jD g x y with
    | some z=>some (.d z)
    | none=>none
  | .nil,.nil=>some .nil
  | .ptr l o,.ptr l' o'=>bif Nat.beq l l'&&Nat.beq o o' then some (.ptr l o) else none
  | _,_=>none
def jL (g:Bool):List AV→List AV→Option (List AV)
  | [],[]=>some []
  | a::r,b::s=>match jA g a b with
    | some c=>match jL g r s with
      | some t=>some (c::t)
      | none=>none
    | none=>none
  | _,_=>none
def jW (g:Bool) (hl:Nat→Option Ob):List (Nat × Option Ob)→Option (List (Nat × Option Ob))
  | []=>some []
  | (l,some (.box new))::r=>match hl l with
    | some (.box old)=>match jL g new old with
      | some c=>match jW g hl r with
        | some t=>some ((l,some (.box c))::t)
        | none=>none
      | none=>none
    | _=>none
  | (l,some (.arr e s rows))::r=>match hl l with
    | none=>match jW g hl r with
      | some t=>some ((l,some (.arr e s (bif g then rows else [])))::t)
      | none=>none
    | some _=>none
  | (l,none)::r=>match jW g hl r with
    | some t=>some ((l,none)::t)
    | none=>none
def Qgr (spec:Q9K) (tt:TT) (ops:Array Oper) (o:Oper) (st:St) (k:St→Rec→Option R):Option R:=
  match o.guard with
  | none=>vdl spec tt (o.dst.getD 0) true true (evO st.tm) (look st.h) o.op fun dl=>QgA st o [] dl k
  | some (j,w)=>match (ops[j]?).bind (·.dst) with
    | some s=>match ctx st.tm 40 s w with
      | some (g,ch)=>vdl spec tt (o.dst.getD 0) g false (fun x=>unw ch (evO st.tm x)) (look st.h) o.op fun dl=>
          match jW g (look st.h) dl.wr with
          | some wr=>QgA st o (ch.map (·.1)) ⟨.gd s w dl.v,wr,dl.rd⟩ k
          | none=>none
      | none=>none
    | none=>none
def Qev (spec:Q9K) (tt:TT) (ops:Array Oper):List Oper→St→List Rec→(St→List Rec→Option R)→Option R
  | [],st,acc,k=>k st acc
  | o::r,st,acc,k=>Qgr spec tt ops o st fun st' rec=>Qev spec tt ops r st' (acc++[rec]) k
def Q97 (s:Nat) (b:Bool):List (Nat × AV)→List (Nat × AV)
  | []=>[]
  | (t,a)::r=>bif Nat.beq t s then (t,.d (.bool b))::r else (t,a)::Q97 s b r
def QbR (spec:Q9K) (tt:TT) (o:Oper) (s:Nat) (w b:Bool) (st:St) (k:St→Rec→Option R):Option R:=
  bif (bif b then w else !w) then vdl spec tt (o.dst.getD 0) true true (evO st.tm) (look st.h) o.op fun dl=>QgA st o [s] dl k
  else QgA st o [s] ⟨.gd s w (.d (.bool false)),[],[]⟩ k
def Q8l (spec:Q9K) (tt:TT) (ops:Array Oper):List Oper→St→List Rec→(St→List Rec→Option R)→Option R
  | [],st,acc,k=>k st acc
  | o::r,st,acc,k=>match o.guard with
    | none=>vdl spec tt (o.dst.getD 0) true true (evO st.tm) (look st.h) o.op fun dl=>QgA st o [] dl fun st' rec=>Q8l spec tt ops r st' (acc++[rec]) k
    | some (j,w)=>match (ops[j]?).bind (·.dst) with
      | some s=>match lkT st.tm s with
        | .d (.bool c)=>
          bif c then QbR spec tt o s w true { n:=st.n,tm:=Q97 s true st.tm,h:=st.h } fun st' rec=>Q8l spec tt ops r st' (acc++[rec]) k
          else QbR spec tt o s w false { n:=st.n,tm:=Q97 s false st.tm,h:=st.h } fun st' rec=>Q8l spec tt ops r st' (acc++[rec]) k
        | _=>none
      | none=>none
def Q9n (acc:List Nat):List Edge→Nat→Nat
  | [],s=>s
  | e::r,s=>Q9n acc r (bif Region.binds .any e then (s ||| (2 ^ e.on)) ||| acc.getD e.on 0 else s)
def Q86:List Oper→List Nat→List Nat
  | [],acc=>acc
  | o::r,acc=>Q86 r (acc++[Q9n acc o.after.toList 0])
def Q84:List Edge→Nat→Bool
  | [],_=>true
  | e::r,i=>(!Region.binds .any e||Nat.ble (e.on+1) i)&&Q84 r i
def SD:List Oper→Nat→Bool
  | [],_=>true
  | o::r,i=>Q84 o.after.toList i&&SD r (i+1)
def inO (d:Option Nat) (l:List Nat):Bool:=
  match d with
  | some x=>Q2D x l
  | none=>false
def UA (a b:Rec):Bool:=
  inO a.dst b.rt||inO b.dst a.rt||(match a.dst,b.dst with | some x,some y=>Nat.beq x y | _,_=>false) ||
  NM (wrL a.dl) (wrL b.dl)||NM (wrL a.dl) b.dl.rd||NM (wrL b.dl) a.dl.rd
def My (st0:St) (seen:List Nat):List (Nat × Option Ob)→List Nat
  | []=>[]
  | (l,o)::r=>match o,look st0.h l with
    | some _,none=>bif Q2D l seen then My st0 seen r else l::My st0 seen r
    | _,_=>My st0 seen r
def Q2e (l:Nat) (b:Rec):Bool:=U2 l b.dl.v||E7 l b.dl.wr
def QgG (d:Option Nat) (v:AV):Bool:=
  match d with
  | some x=>gds x v
  | none=>false
def Q30 (i:Nat) (a:Rec) (news:List Nat):List Rec→List Nat→Bool
  | [],_=>true
  | b::r,m::ms=>(!(UA a b||(news.any fun l=>Q2e l b)||QgG a.dst b.dl.v)||m.testBit i)&&Q30 i a news r ms
  | _::_,[]=>false
def Q1S (st0:St):Nat→List Rec→List Nat→List Rec→List Nat→Bool
  | _,_,_,[],_=>true
  | i,prev,seen,a::r,_::ms=>
    Q30 i a (My st0 seen a.dl.wr) r ms&&((My st0 seen a.dl.wr).all fun l=>Jo st0 l&&prev.all fun b=>!Q2e l b) &&
      Q1S st0 (i+1) (prev++[a]) (seen++My st0 seen a.dl.wr) r ms
  | _,_,_,_::_,[]=>false
def UZ (l:Nat):List (Nat × Option Ob)→Bool
  | []=>false
  | (k,o)::r=>(o.isSome&&Nat.beq k l)||UZ l r
def Qfi (recs:List Rec):List (Nat × Option Ob)→Bool
  | []=>true
  | (l,none)::r=>(recs.all fun b=>!UZ l b.dl.wr)&&Qfi recs r
  | _::r=>Qfi recs r
def rmL:List Rec→Bool
  | []=>true
  | a::r=>Qfi (a::r) a.dl.wr&&rmL r
def Q90 (st0:St) (ops:List Oper) (recs:List Rec):Bool:=
  SD ops 0&&Q1S st0 0 [] [] recs (Q86 ops [])&&rmL recs
structure Cfg where
  keep:List Nat
  locs:List (Nat × Nat)
  mkT:List (Nat × Nat × Nat × Nat)
  mkH:List (Nat × Nat × Nat × Nat × Nat)
  fz:List Nat
mutual
def fzA (l s:Nat) (rows:List (List D)):AV→AV
  | .arr k=>bif Nat.beq k l then .d (.sl s rows) else .arr k
  | .ap k i o=>bif Nat.beq k l then .top else .ap k i o
  | .ag r=>.ag (fzL l s rows r)
  | .tup r=>.tup (fzL l s rows r)
  | .fn f r=>.fn f (fzL l s rows r)
  | .gd ..=>.top
  | av=>av
def fzL (l s:Nat) (rows:List (List D)):List AV→List AV
  | []=>[]
  | a::r=>fzA l s rows a::fzL l s rows r
end
def fzO (l s:Nat) (rows:List (List D)):Ob→Ob
  | .box cells=>.box (fzL l s rows cells)
  | o=>o
def fzT (l s:Nat) (rows:List (List D)):List (Nat × AV)→List (Nat × AV)
  | []=>[]
  | (t,a)::r=>(t,fzA l s rows a)::fzT l s rows r
def Qfn (l s:Nat) (rows:List (List D)):List (Nat × Ob)→List (Nat × Ob)
  | []=>[]
  | (k,o)::r=>bif Nat.beq k l then Qfn l s rows r else (k,fzO l s rows o)::Qfn l s rows r
def fz1 (st:St) (l:Nat):St:=
  match look st.h l with
  | some (.arr _ s rows)=>{ n:=st.n,tm:=fzT l s rows st.tm,h:=Qfn l s rows st.h }
  | _=>st
def fzs (st:St):List Nat→St
  | []=>st
  | l::r=>fzs (fz1 st l) r
mutual
def G6 (ρ:List (Nat × Nat)):AV→AV
  | .ptr l o=>match look ρ l with | some l'=>.ptr l' o | none=>.top
  | .arr l=>match look ρ l with | some l'=>.arr l' | none=>.top
  | .ap l i o=>match look ρ l with | some l'=>.ap l' i o | none=>.top
  | .sa l t=>match look ρ l with | some l'=>.sa l' t | none=>.top
  | .ag r=>.ag (Qai ρ r)
  | .tup r=>.tup (Qai ρ r)
  | .fn f r=>.fn f (Qai ρ r)
  | .gd ..=>.top
  | av=>av
def Qai (ρ:List (Nat × Nat)):List AV→List AV
  | []=>[]
  | a::r=>G6 ρ a::Qai ρ r
end
def Qfk (ρ:List (Nat × Nat)):Ob→Ob
  | .box cells=>.box (Qai ρ cells)
  | .arr e s rows=>.arr e s rows
def QdJ (ρ:List (Nat × Nat)) (tm:List (Nat × AV)):List Nat→List (Nat × AV)
  | []=>[]
  | t::r=>(t,G6 ρ (lkT tm t))::QdJ ρ tm r
def Q2L (ρ:List (Nat × Nat)) (h:List (Nat × Ob)):List (Nat × Nat)→List (Nat × Ob)
  | []=>[]
  | (l,l')::r=>match look h l with
    | some o=>(l',Qfk ρ o)::Q2L ρ h r
    | none=>Q2L ρ h r
def QhP (tm:List (Nat × AV)) (t:Nat) (v:AV):List (Nat × AV):=
  match tm with
  | []=>[]
  | (k,a)::r=>bif Nat.beq k t then (k,v)::r else (k,a)::QhP r t v
def QgH (st:St):List (Nat × Nat × Nat × Nat)→St
  | []=>st
  | (t,l,e,s)::r=>match lkT st.tm t with
    | .nil=>bif Jo st l&&(look st.h l).isNone then QgH { st with tm:=QhP st.tm t (.arr l),h:=(l,.arr e s [])::st.h } r else QgH st r
    | _=>QgH st r
def Qgk (st:St):List (Nat × Nat × Nat × Nat × Nat)→St
  | []=>st
  | (b,c,l,e,s)::r=>match look st.h b with
    | some (.box cells)=>match cells[c]? with
      | some .nil=>bif Jo st l&&(look st.h l).isNone then Qgk { st with h:=(l,.arr e s [])::(b,.box (cells.set c (.arr l)))::rem b st.h } r else Qgk st r
      | _=>Qgk st r
    | _=>Qgk st r
def Uq:List Nat→Bool
  | []=>true
  | a::r=>!Q2D a r&&Uq r
def QfV (c:Cfg) (st:St):St:=
  bif Uq (c.locs.map (·.1))&&(Uq (c.locs.map (·.2))&&c.locs.all fun p=>Nat.beq p.1 p.2||Nat.ble p.2 999999) then Qgk (QgH { n:=st.n,tm:=QdJ c.locs st.tm c.keep,h:=Q2L c.locs st.h c.locs } c.mkT) c.mkH
  else st
def inH (h:List (Nat × Ob)):List (Nat × Nat)→List (Nat × Nat)
  | []=>[]
  | p::r=>match look h p.1 with
    | some _=>p::inH h r
    | none=>inH h r
def QhZ (c:Cfg) (st:St):St:=QfV ⟨c.keep,inH st.h c.locs,c.mkT,c.mkH,c.fz⟩ st
def QhS (c:Cfg) (st:St):St:=QhZ c (fzs st c.fz)
structure VC where
  spec:Q9K
  tt:TT
  cfg:List (Nat × Cfg)
def Qar (C:VC) (id:Nat) (ops:Array Oper) (draw:Bool) (st:St) (k:St→Option R):Option R:=
  (bif (look C.cfg (id+1000000000)).isSome then Q8l C.spec C.tt ops ops.toList st [] else Qev C.spec C.tt ops ops.toList st []) fun st' recs=>
    bif !draw||Q90 st ops.toList recs then
      match look C.cfg id with
      | some c=>k (QhS c st')
      | none=>k st'
    else none
def X7 (body:St→(Exit→St→Option R)→Option R):Nat→St→(Exit→St→Option R)→Option R
  | 0,_,_=>none
  | n+1,st,k=>body st fun e st'=>match e with
    | .normal=>X7 body n st' k
    | .exit id=>k (.exit id) st'
    | .ret=>k .ret st'
    | _=>none
def QcS:Code→Nat
  | .region id _ _=>id
  | .seq a _=>QcS a
  | .block _ c=>QcS c
  | .loop c=>QcS c
  | .cond _ a _=>QcS a
  | _=>0
def Qh7 (C:VC) (n:Nat) (c:Code):Nat:=
  match look C.cfg (2000000000+QcS c) with
  | some ⟨[m],_,_,_,_⟩=>m
  | _=>n
def Q3N (C:VC) (key:Nat) (st:St):St:=
  match look C.cfg key with
  | some q=>QhS q st
  | none=>st
def Qi (C:VC) (n:Nat):Code→St→(Exit→St→Option R)→Option R
  | .skip,st,k=>k .normal st
  | .region id ops draw,st,k=>Qar C id ops draw st (k .normal)
  | .seq a b,st,k=>Qi C n a st fun e st'=>match e with
    | .normal=>Qi C n b st' k
    | .exit id=>k (.exit id) st'
    | .ret=>k .ret st'
    | _=>none
  | .cond c a b,st,k=>match evO st.tm c with
    | .d (.bool e)=>bif e then Qi C n a st k else Qi C n b st k
    | _=>none
  | .block id c,st,k=>Qi C n c st fun e st'=>match e with
    | .normal=>k .normal st'
    | .exit j=>bif Nat.beq j id then k .normal st' else k (.exit j) st'
    | .ret=>k .ret st'
    | _=>none
  | .loop c,st,k=>X7 (fun st k=>Qi C n c (Q3N C (3000000000+QcS c) st) k) (Qh7 C n c) st k
  | .exit id,st,k=>k (.exit id) st
  | .ret,st,k=>k .ret st
  | _,_,_=>none
def lB (C:VC) (n:Nat) (c:Code) (st:St) (k:Exit→St→Option R):Option R:=Qi C n c (Q3N C (3000000000+QcS c) st) k
mutual
def CS:AV→Bool
  | .gd ..=>false
  | .ag l=>Sl l
  | .tup l=>Sl l
  | .fn _ l=>Sl l
  | _=>true
def Sl:List AV→Bool
  | []=>true
  | a::r=>CS a&&Sl r
end
def QbN (tt:TT) (st:St):ResultVar→Option AV
  | .tmp t=>some (lkT st.tm t)
  | .cell a ty=>match lkT st.tm a with
    | .ptr l off=>match look st.h l,look tt ty with
      | some (.box cells),some ti=>
        bif G1 ti.kd then
          match Q5O cells off ti.size with
          | some cs=>some (.ag cs)
          | none=>none
        else match cells[off]? with
          | some c=>bif Q5a c then some c else none
          | none=>none
      | _,_=>none
    | _=>none
def Q7C (tt:TT) (st:St):List ResultVar→Option (List AV)
  | []=>some []
  | r::rs=>match QbN tt st r with
    | some a=>match Q7C tt st rs with
      | some l=>bif CS a then some (a::l) else none
      | none=>none
    | none=>none
def Q85 (tt:TT) (st:St) (rs:List ResultVar):Option AV:=
  match Q7C tt st rs with
  | some [a]=>some a
  | some l=>some (.tup l)
  | none=>none
def Q7m:Nat→List AV→List (Nat × AV)
  | _,[]=>[]
  | i,a::r=>(i,a)::Q7m (i+1) r
def vfn (C:VC) (n:Nat) (fn:Func) (args:List AV) (h:List (Nat × Ob)) (k:AV→List (Nat × Ob)→Option R):Option R:=
  match fn.body with
  | some c=>bif Nat.ble args.length fn.ntmps&&Sl args then
      Qi C n c { n:=fn.ntmps,tm:=Q7m 0 args,h:=h } fun e st=>match e with
        | .ret=>match Q85 C.tt st fn.results.toList with
          | some v=>k v st.h
          | none=>none
        | .normal=>match Q85 C.tt st fn.results.toList with
          | some v=>k v st.h
          | none=>none
        | _=>none
    else none
  | none=>none
end

inductive Rd (S:Nat→Prop) (w:World):Value→D→Prop
  | int (k:IntKind) (n:Int):Rd S w (.int k n) (.int k n)
  | bool (b:Bool):Rd S w (.bool b) (.bool b)
  | str (s:ByteArray):Rd S w (.string s) (.str s.data.toList)
  | sl0 (a:Option Addr) (cap size:Nat):Rd S w (.slice a 0 cap) (.sl size [])
  | sl (ad:Addr) (cap size:Nat) (rows:List (List D)) (c:Nat→Nat→Value)
      (hS:S ad.block) (hcap:rows.length≤cap) (hsz:∀ (i:Nat) (r:List D),rows[i]? = some r→r.length=size)
      (hc:∀ (i j:Nat) (r:List D) (x:D),rows[i]? = some r→r[j]? = some x→w.cell? (ad.add (i*size+j))=some (c i j))
      (hr:∀ (i j:Nat) (r:List D) (x:D),rows[i]? = some r→r[j]? = some x→Rd S w (c i j) x) :
      Rd S w (.slice (some ad) rows.length cap) (.sl size rows)
theorem Hj (a:Addr) (n:Nat):(a.add n).block=a.block:=by unfold Addr.add;split <;> rfl
theorem Q5D (a:Addr) (i j:Nat):(a.add i).add j=a.add (i+j):=by
  unfold Addr.add
  by_cases hi:i=0 <;> by_cases hj:j=0 <;> simp [hi,hj,Nat.add_assoc]
theorem T8 (b o n:Nat):(⟨b,o,none⟩:Addr).add n=⟨b,o+n,none⟩:=by
  unfold Addr.add;split
  · subst_vars;rfl
  · rfl
theorem BQ {w w':World} {a:Addr} (h:w'.heap[a.block]? = w.heap[a.block]?):w'.cell? a=w.cell? a:=by simp [World.cell?,h]
theorem Rd.mono {S S':Nat→Prop} {w w':World} {v:Value} {x:D} (hS:∀ b,S b→S' b) (hw:∀ b,S b→w'.heap[b]? = w.heap[b]?) (h:Rd S w v x):Rd S' w' v x:=by
  induction h with
  | int k n=>exact .int k n
  | bool b=>exact .bool b
  | str s=>exact .str s
  | sl0 a cap size=>exact .sl0 a cap size
  | sl ad cap size rows c hs hcap hsz hc _ ih=>
    exact .sl ad cap size rows c (hS _ hs) hcap hsz (fun i j r x h1 h2=>by
      rw [BQ (w:=w) (by rw [Hj];exact hw _ hs)];exact hc i j r x h1 h2) ih
def AW:List MapEntry→Int→Option Value
  | [],_=>none
  | e::r,n=>match e.key with
    | .int .i64 m=>if m=n then some e.val else AW r n
    | _=>AW r n
def Qcf (S:Nat→Prop) (w:World) (v:Value) (f:Int→List (List D)):Prop:=
  ∃ b es clock,v = .map (some b)∧S b∧w.heap[b]? = some (.map es clock)∧(∀ e∈es.toList,∃ n,e.key = .int .i64 n)∧(∀ n,AW es.toList n=none→f n=[])∧∀ n v',AW es.toList n=some v'→Rd S w v' (.sl 1 (f n))
theorem Qcf.mono {S S':Nat→Prop} {w w':World} {v:Value} {f:Int→List (List D)} (hS:∀ b,S b→S' b) (hw:∀ b,S b→w'.heap[b]? = w.heap[b]?) (h:Qcf S w v f):Qcf S' w' v f:=by
  obtain ⟨b,es,clock,h1,h2,h3,h4,h5,h6⟩:=h
  exact ⟨b,es,clock,h1,hS b h2,(hw b h2).trans h3,h4,h5,fun n v' hl=>(h6 n v' hl).mono hS hw⟩
def Ha:AV→Option Nat
  | .arr l=>some l
  | .ap l _ _=>some l
  | _=>none
inductive RdA (β:Nat→Option Nat) (S:Nat→Prop) (h:Nat→Option Ob) (w:World) (tm:Nat→Value):Value→AV→Prop
  | top (v:Value):RdA β S h w tm v .top
  | d (v:Value) (x:D) (hx:Rd S w v x):RdA β S h w tm v (.d x)
  | nil:RdA β S h w tm (.slice none 0 0) .nil
  | ag (cs:Array Value) (l:List AV) (hl:cs.size=l.length) (hr:∀ (i:Nat) (x:AV),l[i]? = some x→RdA β S h w tm (cs.getD i undef) x):RdA β S h w tm (.agg cs) (.ag l)
  | tup (cs:Array Value) (l:List AV) (hl:cs.size=l.length) (hr:∀ (i:Nat) (x:AV),l[i]? = some x→RdA β S h w tm (cs.getD i undef) x):RdA β S h w tm (.tuple cs) (.tup l)
  | fn (f:Nat) (cs:Array Value) (l:List AV) (hl:cs.size=l.length) (hr:∀ (i:Nat) (x:AV),l[i]? = some x→RdA β S h w tm (cs.getD i undef) x):RdA β S h w tm (.func (.func f) #[] cs) (.fn f l)
  | fs (ad:Option Addr) (s:Nat) (rows:List (List D)) (hx:Rd S w (.slice ad rows.length rows.length) (.sl s rows)):RdA β S h w tm (.slice ad rows.length rows.length) (.fs s rows)
  | mpd (v:Value) (f:Int→List (List D)) (hm:Qcf S w v f):RdA β S h w tm v (.mpd f)
  | ex (v:Value):RdA β S h w tm v (.ex v)
  | ptr (l off b:Nat) (hb:β l=some b):RdA β S h w tm (.pointer (some ⟨b,off,none⟩)) (.ptr l off)
  | sa (v:Value) (l t b:Nat) (hb:β l=some b) (hv:v = .pointer none∨v = .pointer (some ⟨b,0,none⟩)):RdA β S h w tm v (.sa l t)
  | el (ad:Addr) (row:List D) (off:Nat) (c:Nat→Value) (hs:S ad.block)
      (hc:∀ (j:Nat) (x:D),row[off+j]? = some x→w.cell? (ad.add j)=some (c j)) (hr:∀ (j:Nat) (x:D),row[off+j]? = some x→Rd S w (c j) x) :
      RdA β S h w tm (.pointer (some ad)) (.el row off)
  | arr0 (l e s:Nat) (hb:β l=none) (hh:h l=some (.arr e s [])):RdA β S h w tm (.slice none 0 0) (.arr l)
  | arr (l b cap e s:Nat) (rows:List (List D)) (cs:Array Value) (ty:TypeId) (fz:Nat × Nat) (hb:β l=some b) (hh:h l=some (.arr e s rows))
      (hw:w.heap[b]? = some (.cells cs ty fz)) (hcs:cs.size=cap*s) (hcap:rows.length≤cap) (hmax:cap≤maxLen) :
      RdA β S h w tm (.slice (some ⟨b,0,none⟩) rows.length cap) (.arr l)
  | ap (l i off b e s:Nat) (rows:List (List D)) (hb:β l=some b) (hh:h l=some (.arr e s rows)) :
      RdA β S h w tm (.pointer (some ⟨b,i*s+off,none⟩)) (.ap l i off)
  | dang (v:Value) (av:AV) (l:Nat) (hl:Ha av=some l) (hh:h l=none) (h1:v.oneCell'=true):RdA β S h w tm v av
  | gdT (v:Value) (t:Nat) (w':Bool) (av:AV) (ht:tm t = .bool w') (hv:RdA β S h w tm v av):RdA β S h w tm v (.gd t w' av)
  | gdF (t:Nat) (w':Bool) (av:AV) (ht:tm t≠.bool w'):RdA β S h w tm undef (.gd t w' av)
structure Keep (β:Nat→Option Nat) (h:Nat→Option Ob) (w:World) (β':Nat→Option Nat) (h':Nat→Option Ob) (w':World) (l:Nat):Prop where
  b:β' l=β l
  none_:h l=none→h' l=none
  arr:∀ e s rows,h l=some (.arr e s rows)→h' l=none∨∃ rows',h' l=some (.arr e s rows')∧rows'.length=rows.length
  cells:∀ b cs ty fz,(h' l).isSome=true→β l=some b→w.heap[b]? = some (.cells cs ty fz)→∃ cs' ty' fz',w'.heap[b]? = some (.cells cs' ty' fz')∧cs'.size=cs.size
theorem E0 {l i:Nat} {r:List AV} {x:AV} (h:r[i]? = some x) (hn:U2 l x=true):KO l r=true:=by
  induction r generalizing i with
  | nil=>simp at h
  | cons a r ih=>
    cases i with
    | zero=>simp at h;subst h;simp [KO,hn]
    | succ i=>simp at h;simp [KO,ih h]
theorem Qax {t i:Nat} {r:List AV} {x:AV} (h:r[i]? = some x) (hn:gds t x=true):Q55 t r=true:=by
  induction r generalizing i with
  | nil=>simp at h
  | cons a r ih=>
    cases i with
    | zero=>simp at h;subst h;simp [Q55,hn]
    | succ i=>simp at h;simp [Q55,ih h]
theorem RdA.mono {β β':Nat→Option Nat} {S S':Nat→Prop} {h h':Nat→Option Ob} {w w':World} {tm tm':Nat→Value} {v:Value} {av:AV}
    (hr:RdA β S h w tm v av) (hS:∀ b,S b→S' b) (hw:∀ b,S b→w'.heap[b]? = w.heap[b]?)
    (hk:∀ l,U2 l av=true→Keep β h w β' h' w' l) (ht:∀ t,gds t av=true→tm' t=tm t):RdA β' S' h' w' tm' v av:=by
  induction hr with
  | top v=>exact .top v
  | d v x hx=>exact .d v x (hx.mono hS hw)
  | nil=>exact .nil
  | ag cs l hl _ ih=>
    exact .ag cs l hl fun i x hx=>ih i x hx (fun k hn=>hk k (by simp [U2,E0 hx hn])) (fun t hn=>ht t (by simp [gds,Qax hx hn]))
  | tup cs l hl _ ih=>
    exact .tup cs l hl fun i x hx=>ih i x hx (fun k hn=>hk k (by simp [U2,E0 hx hn])) (fun t hn=>ht t (by simp [gds,Qax hx hn]))
  | fn f cs l hl _ ih=>
    exact .fn f cs l hl fun i x hx=>ih i x hx (fun k hn=>hk k (by simp [U2,E0 hx hn])) (fun t hn=>ht t (by simp [gds,Qax hx hn]))
  | fs ad s rows hx=>exact .fs ad s rows (hx.mono hS hw)
  | mpd v f hm=>exact .mpd v f (hm.mono hS hw)
  | ex v=>exact .ex v
  | ptr l off b hb=>exact .ptr l off b (by rw [(hk l (by simp [U2])).b];exact hb)
  | sa v l t b hb hv=>exact .sa v l t b (by rw [(hk l (by simp [U2])).b];exact hb) hv
  | el ad row off c hs hc hr=>
    exact .el ad row off c (hS _ hs) (fun j x hx=>by rw [BQ (w:=w) (by rw [Hj];exact hw _ hs)];exact hc j x hx) (fun j x hx=>(hr j x hx).mono hS hw)
  | arr0 l e s hb hh=>
    have K:=hk l (by simp [U2])
    rcases K.arr e s [] hh with hn | ⟨rows',hr',hlen⟩
    · exact .dang _ _ l rfl hn rfl
    · have:rows'=[]:=List.eq_nil_of_length_eq_zero (by simpa using hlen)
      subst this
      exact .arr0 l e s (by rw [K.b];exact hb) hr'
  | arr l b cap e s rows cs ty fz hb hh hw0 hcs hcap hmax=>
    have K:=hk l (by simp [U2])
    rcases K.arr e s rows hh with hn | ⟨rows',hr',hlen⟩
    · exact .dang _ _ l rfl hn rfl
    · obtain ⟨cs',ty',fz',hw',hsz⟩:=K.cells b cs ty fz (by simp [hr']) hb hw0
      have:=RdA.arr (β:=β') (h:=h') (w:=w') (S:=S') (tm:=tm') l b cap e s rows' cs' ty' fz' (by rw [K.b];exact hb) hr' hw' (by rw [hsz];exact hcs) (by rw [hlen];exact hcap) hmax
      rw [hlen] at this
      exact this
  | ap l i off b e s rows hb hh=>
    have K:=hk l (by simp [U2])
    rcases K.arr e s rows hh with hn | ⟨rows',hr',hlen⟩
    · exact .dang _ _ l rfl hn rfl
    · exact .ap l i off b e s rows' (by rw [K.b];exact hb) hr'
  | dang v av l hl hh h1=>
    refine .dang v av l hl ((hk l ?_).none_ hh) h1
    cases av <;> simp [Ha] at hl <;> simp [U2,hl]
  | gdT v t b av htm _ ih=>
    refine .gdT v t b av (by rw [ht t (by simp [gds])];exact htm) (ih (fun k hn=>hk k (by simpa [U2] using hn)) (fun t' hn=>ht t' (by simp [gds,hn])))
  | gdF t b av htm=>exact .gdF t b av (by rw [ht t (by simp [gds])];exact htm)
structure Fr (M:Nat→Prop) (w w':World):Prop where
  os:w'.os=w.os
  tape:w'.tape=w.tape
  output:w'.output=w.output
  size:w.heap.size≤w'.heap.size
  block:∀ b,b<w.heap.size→¬ M b→w'.heap[b]? = w.heap[b]?
theorem Fr.refl (M:Nat→Prop) (w:World):Fr M w w:=⟨rfl,rfl,rfl,Nat.le_refl _,fun _ _ _=>rfl⟩
theorem Fr.trans {M:Nat→Prop} {a b c:World} (h:Fr M a b) (k:Fr M b c):Fr M a c:=
  ⟨k.os.trans h.os,k.tape.trans h.tape,k.output.trans h.output,Nat.le_trans h.size k.size,fun i hi hm=>(k.block i (Nat.lt_of_lt_of_le hi h.size) hm).trans (h.block i hi hm)⟩
theorem Fr.mono {M M':Nat→Prop} {a b:World} (h:Fr M a b) (hM:∀ x,x<a.heap.size→M x→M' x):Fr M' a b:=
  ⟨h.os,h.tape,h.output,h.size,fun i hi hm=>h.block i hi (fun hx=>hm (hM i hi hx))⟩
theorem Fr.below {w w':World} (h:Fr (fun _=>False) w w'):RowKit.Below w.heap.size w w':=⟨h.os,h.tape,h.output,h.size,fun b hb=>h.block b hb (fun x=>x)⟩
def Qiw (n:Nat) (fz:Nat × Nat):Prop:=∀ o,o<n→¬ (fz.1≤o∧o<fz.2)
def tm0:Nat→Value:=fun _=>undef
def Qcz (ty:TypeId) (cells:List AV):Prop:=∀ (i l t:Nat),cells[i]? = some (.sa l t)→ty=t
def ObR (β:Nat→Option Nat) (S:Nat→Prop) (h:Nat→Option Ob) (w:World) (l:Nat):Ob→Prop
  | .box cells=>∃ b ty cs fz,β l=some b∧w.heap[b]? = some (.cells cs ty fz)∧(Qiw cs.size fz∧Qcz ty cells)∧cs.size=cells.length ∧
      ∀ (i:Nat) (x:AV),cells[i]? = some x→RdA β S h w tm0 (cs.getD i undef) x
  | .arr e s rows=>(β l=none∧rows=[])∨∃ b cs,β l=some b∧w.heap[b]? = some (.cells cs e (0,0))∧rows.length*s≤cs.size ∧
      (∀ (i:Nat) (r:List D),rows[i]? = some r→r.length=s)∧∀ (i j:Nat) (r:List D) (x:D),rows[i]? = some r→r[j]? = some x→∃ v,cs[i*s+j]? = some v∧Rd S w v x
structure Env where
  w0:World
  M:Nat→Prop
  S0:Nat→Prop
  pin:Nat→Option Nat
def tmv (a:Act) (t:Nat):Value:=a.tmps.getD t undef
structure HRel (E:Env) (β:Nat→Option Nat) (S:Nat→Prop) (h:Nat→Option Ob) (w:World):Prop where
  ob:∀ l o,h l=some o→ObR β S h w l o
  inj:∀ l l' b,(h l).isSome=true→(h l').isSome=true→β l=some b→β l'=some b→l=l'
  apart:∀ l b,(h l).isSome=true→β l=some b→¬ S b
  own:∀ l b,(h l).isSome=true→β l=some b→E.M b∨E.w0.heap.size≤b
  sb:∀ b,S b→b<w.heap.size
  sfr:∀ b,S b→E.S0 b∨E.M b∨E.w0.heap.size≤b
  s0:∀ b,E.S0 b→S b
  fr:Fr E.M E.w0 w
  pin:∀ l,1000000≤l→β l=E.pin l
  psz:∀ l b,1000000≤l→(h l).isSome=true→β l=some b→∀ cs ty fz,E.w0.heap[b]? = some (.cells cs ty fz)→∃ cs' ty' fz',w.heap[b]? = some (.cells cs' ty' fz')∧cs'.size=cs.size
structure Rel (E:Env) (β:Nat→Option Nat) (S:Nat→Prop) (st:St) (a:Act) (w:World):Prop where
  n:a.tmps.size=st.n
  dfr:a.defers=[]
  tm:∀ t av,look st.tm t=some av→RdA β S (look st.h) w (tmv a) (tmv a t) av
  hr:HRel E β S (look st.h) w
def Eh (E:Env) (st:St) (a:Act) (w:World):Prop:=∃ β S,Rel E β S st a w
theorem QgF {a b:Nat} (h:¬ a=b):Nat.beq a b=false:=by
  cases e:Nat.beq a b with
  | false=>rfl
  | true=>exact absurd (Nat.eq_of_beq_eq_true e) h
theorem Q56 {α:Type} (l k:Nat) (h:List (Nat × α)):look (rem l h) k=if k=l then none else look h k:=by
  induction h with
  | nil=>simp [rem,look]
  | cons x r ih=>
    obtain ⟨a,o⟩:=x
    simp only [rem,look]
    by_cases ha:a=l
    · subst ha
      simp only [Nat.beq_refl,cond_true,ih]
      by_cases hk:k=a
      · simp [hk]
      · simp only [hk,if_false]
        have:Nat.beq a k=false:=QgF (fun e=>hk e.symm)
        simp [this]
    · have h1:Nat.beq a l=false:=QgF ha
      simp only [h1,cond_false,look,ih]
      by_cases hk:a=k
      · subst hk
        simp [ha]
      · have h2:Nat.beq a k=false:=QgF hk
        simp [h2]
theorem X4 {α:Type} (l k:Nat) (o:α) (h:List (Nat × α)):look ((l,o)::h) k=if k=l then some o else look h k:=by
  simp only [look]
  by_cases hk:k=l
  · subst hk;simp [Nat.beq_refl]
  · have h2:Nat.beq l k=false:=QgF (fun e=>hk e.symm)
    simp [h2,hk]
theorem Jz (l k:Nat) (o:Ob) (h:List (Nat × Ob)):look ((l,o)::rem l h) k=if k=l then some o else look h k:=by
  rw [X4,Q56]
  by_cases hk:k=l <;> simp [hk]

def CEq (kd:Kd) (u v:Value) (b:Bool):Prop:=
  match kd with
  | .int k=>∃ m n,u = .int k m∧v = .int k n∧b=(m == n)
  | .bool=>∃ m n,u = .bool m∧v = .bool n∧b=(m == n)
  | .str=>∃ m n:ByteArray,u = .string m∧v = .string n∧b=(m.data.toList == n.data.toList)
  | _=>False
def QiC (P:Program) (t:Nat) (ks:List Kd):Prop:=
  ∀ (w:World) (xs ys:Array Value) (bs:List Bool),xs.size=ks.length→ys.size=ks.length→bs.length=ks.length →
    (∀ (j:Nat) (kd:Kd) (b:Bool),ks[j]? = some kd→bs[j]? = some b→CEq kd (xs.getD j undef) (ys.getD j undef) b) →
    (Op.equalIn 10000 t (.agg xs) (.agg ys)).run P w = .ok (bs.all id) w∧P.eqGuardType P.depth t=false
structure TyOk (P:Program) (t:Nat) (ti:TyI):Prop where
  inf:∃ i,P.info? t=some i∧i.size=ti.size∧i.bytes=ti.bytes∧∃ z,i.zero=some z∧z.cells.toList=ti.zero
  one:G1 ti.kd=false→ti.size=1∧∃ d,P.underlying t=some d∧(∀ fs,d≠.struct fs)∧∀ n e,d≠.array n e
  kint:∀ k,ti.kd = .int k→P.underlying t=some (.int k)
  kbool:ti.kd = .bool→P.underlying t=some .bool
  kstr:ti.kd = .str→P.underlying t=some .string
  ksl:∀ e esz,ti.kd = .sl e esz→P.underlying t=some (.slice e)∧0<esz∧∃ i,P.info? e=some i∧i.size=esz
  kstruct:ti.kd = .struct→∃ fs,P.underlying t=some (.struct fs)∧fs.toList.map (fun f=>(f.offset,f.type))=ti.fields∧∀ f∈fs.toList,∃ i,P.info? f.type=some i∧i.size≠0
  karr:∀ e esz n,ti.kd = .array e esz n→P.underlying t=some (.array n e)∧0<esz∧(∃ i,P.info? e=some i∧i.size=esz)∧ti.size=n*esz∧ti.fields=(List.range n).map fun i=>(i*esz,e)
  keq:∀ ks,ti.eqk=some ks→QiC P t ks
  zlen:ti.zero.length=ti.size
  zd:ti.zd.length=ti.size→∀ (j:Nat) (x:D),ti.zd[j]? = some x→∃ v,ti.zero[j]? = some v∧∀ (S:Nat→Prop) (w:World),Rd S w v x
  kmap:ti.kd = .mapI→∃ K e,P.underlying t=some (.map K e)∧P.underlying K=some (.int .i64)∧∃ i,P.info? e=some i∧i.zero=some (.slice none 0 0)
def TOk (P:Program) (tt:TT):Prop:=∀ t ti,look tt t=some ti→TyOk P t ti
section
variable {P:Program}
theorem Y5 {t:TypeId} {d:TypeDesc} (h:P.underlying t=some d) (w:World):(underlying t).run P w = .ok d w:=by
  simp [underlying,h]
theorem ZI {t:TypeId} {i:TypeInfo} (h:P.info? t=some i) (w:World):(typeInfo t).run P w = .ok i w:=by
  simp [typeInfo,h]
theorem TyOk.size {t:Nat} {ti:TyI} (h:TyOk P t ti) (w:World):(sizeOf t).run P w = .ok ti.size w:=by
  obtain ⟨i,hi,hs,_⟩:=h.inf
  simp [sizeOf,ZI hi,hs]
theorem TyOk.agg {t:Nat} {ti:TyI} (h:TyOk P t ti) (w:World):(isAgg t).run P w = .ok (G1 ti.kd) w:=by
  cases hk:G1 ti.kd with
  | true=>
    cases hh:ti.kd with
    | struct=>
      obtain ⟨fs,hu,_⟩:=h.kstruct hh
      simp [isAgg,Y5 hu]
    | array e esz n=>
      have hu:=(h.karr e esz n hh).1
      simp [isAgg,Y5 hu]
    | _=>simp [hh,G1] at hk
  | false=>
    obtain ⟨_,d,hu,h1,h2⟩:=h.one hk
    simp only [isAgg,Sem.run_bind,Y5 hu,Result.andThen_ok]
    cases d <;> simp_all
theorem Qc {α R:Type} {g:Bool} {p:Option α} {z:α} {k:α→Option R} {r:R} (h:gb g p z k=some r) :
    ∃ a,k a=some r∧(g=true→p=some a):=by
  unfold gb orZ at h
  cases p with
  | some a=>exact ⟨a,by simpa using h,fun _=>rfl⟩
  | none=>
    cases g with
    | true=>simp at h
    | false=>exact ⟨z,by simpa using h,fun h=>by cases h⟩
def Out (E:Env) (st:St) (a:Act) (dl:Dl) (v:Value) (w':World):Prop:=
  ∃ β' S',Rel E β' S' ⟨st.n,st.tm,Af st.h dl.wr⟩ a w'∧RdA β' S' (look (Af st.h dl.wr)) w' (tmv a) v dl.v
def Q4D (β:Nat→Option Nat) (S:Nat→Prop) (st:St) (a:Act) (w:World) (o:Oper) (ev:Operand→AV):Prop:=
  ∀ x∈o.op.operands.toList,RdA β S (look st.h) w (tmv a) (a.eval x) (ev x)∧∀ l,Jo st l=true→U2 l (ev x)=false
def QgS (st:St) (hl:Nat→Option Ob) (dl:Dl):Prop:=∀ l,l∈dl.rd∨l∈wrL dl→look st.h l=hl l
def Re (P:Program) (E:Env) (o:Oper) (ev:Operand→AV) (hl:Nat→Option Ob) (dl:Dl):Prop:=
  ∀ β S st a w,Rel E β S st a w→Q4D β S st a w o ev→QgS st hl dl→VJ st dl.wr=true →
    ∀ (K:Act→World→Prop) (Q:Exit→Act→World→Prop),(∀ v w',Out E st a dl v w'→K (a.put o.dst v) w')→o.wp P a w K Q
variable {E:Env}
theorem QV {o:Oper} {ev:Operand→AV} {hl:Nat→Option Ob} {v:AV} {rd:List Nat}
    (h:∀ β S st a w,Rel E β S st a w→Q4D β S st a w o ev→QgS st hl ⟨v,[],rd⟩→∃ u,(execOp a.eval o).run P w = .ok (.value u) w∧RdA β S (look st.h) w (tmv a) u v) :
    Re P E o ev hl ⟨v,[],rd⟩:=by
  intro β S st a w hR hO hA _ K Q hK
  obtain ⟨u,hrun,hu⟩:=h β S st a w hR hO hA
  unfold Oper.wp
  rw [hrun]
  exact hK u w ⟨β,S,by simpa [Af] using hR,by simpa [Af] using hu⟩
theorem Q4D.at {β:Nat→Option Nat} {S:Nat→Prop} {st:St} {a:Act} {w:World} {o:Oper} {ev:Operand→AV} (h:Q4D β S st a w o ev) {x:Operand} (hx:x∈o.op.operands.toList) :
    RdA β S (look st.h) w (tmv a) (a.eval x) (ev x):=(h x hx).1
theorem Q4D.nm {β:Nat→Option Nat} {S:Nat→Prop} {st:St} {a:Act} {w:World} {o:Oper} {ev:Operand→AV} (h:Q4D β S st a w o ev) {x:Operand} (hx:x∈o.op.operands.toList) {l:Nat} (hc:Jo st l=true) :
    U2 l (ev x)=false:=(h x hx).2 l hc
section inv
variable {β:Nat→Option Nat} {S:Nat→Prop} {h:Nat→Option Ob} {w:World} {tm:Nat→Value} {v:Value}
theorem RdA.int_inv {k:IntKind} {n:Int} (hv:RdA β S h w tm v (.d (.int k n))):v = .int k n:=by
  cases hv with
  | d _ _ hx=>cases hx;rfl
  | dang _ _ l hl _ _=>simp [Ha] at hl
theorem RdA.bool_inv {b:Bool} (hv:RdA β S h w tm v (.d (.bool b))):v = .bool b:=by
  cases hv with
  | d _ _ hx=>cases hx;rfl
  | dang _ _ l hl _ _=>simp [Ha] at hl
theorem RdA.str_inv {l:List UInt8} (hv:RdA β S h w tm v (.d (.str l))):∃ s:ByteArray,l=s.data.toList∧v = .string s:=by
  cases hv with
  | d _ _ hx=>cases hx with
    | str s=>exact ⟨s,rfl,rfl⟩
  | dang _ _ l hl _ _=>simp [Ha] at hl
theorem RdA.d_inv {x:D} (hv:RdA β S h w tm v (.d x)):Rd S w v x:=by
  cases hv with
  | d _ _ hx=>exact hx
  | dang _ _ l hl _ _=>simp [Ha] at hl
theorem RdA.ptr_inv {l off:Nat} (hv:RdA β S h w tm v (.ptr l off)):∃ b,β l=some b∧v = .pointer (some ⟨b,off,none⟩):=by
  cases hv with
  | ptr _ _ b hb=>exact ⟨b,hb,rfl⟩
  | dang _ _ l hl _ _=>simp [Ha] at hl
theorem RdA.el_inv {row:List D} {off:Nat} (hv:RdA β S h w tm v (.el row off)) :
    ∃ (ad:Addr) (c:Nat→Value),v = .pointer (some ad)∧S ad.block∧(∀ (j:Nat) (x:D),row[off+j]? = some x→w.cell? (ad.add j)=some (c j))∧∀ (j:Nat) (x:D),row[off+j]? = some x→Rd S w (c j) x:=by
  cases hv with
  | el ad _ _ c hs hc hr=>exact ⟨ad,c,rfl,hs,hc,hr⟩
  | dang _ _ l hl _ _=>simp [Ha] at hl
theorem RdA.ap_inv {l i off e s:Nat} {rows:List (List D)} (hh:h l=some (.arr e s rows)) (hv:RdA β S h w tm v (.ap l i off)) :
    ∃ b,β l=some b∧v = .pointer (some ⟨b,i*s+off,none⟩):=by
  cases hv with
  | ap _ _ _ b e' s' rows' hb hh'=>
    rw [hh] at hh'
    injection hh' with hh'
    injection hh' with h1 h2 h3
    subst h2
    exact ⟨b,hb,rfl⟩
  | dang _ _ l' hl hn _=>simp [Ha] at hl;subst hl;rw [hh] at hn;cases hn
theorem RdA.ag_inv {l:List AV} (hv:RdA β S h w tm v (.ag l)):∃ cs:Array Value,v = .agg cs∧cs.size=l.length∧∀ (i:Nat) (x:AV),l[i]? = some x→RdA β S h w tm (cs.getD i undef) x:=by
  cases hv with
  | ag cs _ hl hr=>exact ⟨cs,rfl,hl,hr⟩
  | dang _ _ l hl _ _=>simp [Ha] at hl
theorem RdA.tup_inv {l:List AV} (hv:RdA β S h w tm v (.tup l)):∃ cs:Array Value,v = .tuple cs∧cs.size=l.length∧∀ (i:Nat) (x:AV),l[i]? = some x→RdA β S h w tm (cs.getD i undef) x:=by
  cases hv with
  | tup cs _ hl hr=>exact ⟨cs,rfl,hl,hr⟩
  | dang _ _ l hl _ _=>simp [Ha] at hl
theorem RdA.fs_inv {s:Nat} {rows:List (List D)} (hv:RdA β S h w tm v (.fs s rows)):∃ ad,v = .slice ad rows.length rows.length∧Rd S w v (.sl s rows):=by
  cases hv with
  | fs ad _ _ hx=>exact ⟨ad,rfl,hx⟩
  | dang _ _ l hl=>simp [Ha] at hl
theorem RdA.nil_inv (hv:RdA β S h w tm v .nil):v = .slice none 0 0:=by
  cases hv with
  | nil=>rfl
  | dang _ _ l hl _ _=>simp [Ha] at hl
theorem RdA.arr_inv {l e s:Nat} {rows:List (List D)} (hh:h l=some (.arr e s rows)) (hv:RdA β S h w tm v (.arr l)) :
    (β l=none∧rows=[]∧v = .slice none 0 0)∨∃ b cap cs ty fz,β l=some b∧v = .slice (some ⟨b,0,none⟩) rows.length cap∧w.heap[b]? = some (.cells cs ty fz)∧cs.size=cap*s∧rows.length≤cap∧cap≤maxLen:=by
  cases hv with
  | arr0 _ e' s' hb hh'=>
    rw [hh] at hh'
    injection hh' with hh'
    injection hh' with h1 h2 h3
    exact .inl ⟨hb,h3,rfl⟩
  | arr _ b cap e' s' rows' cs ty fz hb hh' hw hcs hcap hmax=>
    rw [hh] at hh'
    injection hh' with hh'
    injection hh' with h1 h2 h3
    subst h2;subst h3
    exact .inr ⟨b,cap,cs,ty,fz,hb,rfl,hw,hcs,hcap,hmax⟩
  | dang _ _ l' hl hn _=>simp [Ha] at hl;subst hl;rw [hh] at hn;cases hn
end inv
theorem Q1t {k:IntKind} {x:D} {n:Int} (h:XL k x=some n):x = .int k n:=by
  cases x with
  | int k' m=>
    unfold XL at h
    cases hk:(k == k') with
    | true=>
      simp [hk] at h
      subst h
      have:k=k':=by simpa using hk
      rw [this]
    | false=>simp [hk] at h
  | _=>simp [XL] at h
theorem Ah {x:D} {n:Bool} (h:Eu x=some n):x = .bool n:=by
  cases x <;> simp [Eu] at h;rw [h]
theorem Q24 {x:D} {n:List UInt8} (h:Qc0 x=some n):x = .str n:=by
  cases x <;> simp [Qc0] at h;rw [h]
theorem QbD {s:Nat} {x:D} {n:List (List D)} (h:pSl s x=some n):x = .sl s n:=by
  cases x with
  | sl s' m=>
    unfold pSl at h
    cases hk:Nat.beq s' s with
    | true=>
      simp [hk] at h
      subst h
      rw [Nat.eq_of_beq_eq_true hk]
    | false=>simp [hk] at h
  | _=>simp [pSl] at h
theorem Q53 {R:Type} {g:Bool} {kd:Kd} {av:AV} {k:AV→Option R} {r:R} (h:prj g kd av k=some r) :
    ∃ v,k v=some r∧(g=true→v=av)∧Q5a av=true:=by
  unfold prj at h
  split at h
  · split at h
    · obtain ⟨n,hn,hp⟩:=Qc h
      exact ⟨_,hn,fun hg=>by rw [Q1t (hp hg)],rfl⟩
    · obtain ⟨n,hn,hp⟩:=Qc h
      exact ⟨_,hn,fun hg=>by rw [Ah (hp hg)],rfl⟩
    · obtain ⟨n,hn,hp⟩:=Qc h
      exact ⟨_,hn,fun hg=>by rw [Q24 (hp hg)],rfl⟩
    · obtain ⟨n,hn,hp⟩:=Qc h
      exact ⟨_,hn,fun hg=>by rw [QbD (hp hg)],rfl⟩
    · cases h
  · cases hn:Q5a av with
    | true=>exact ⟨_,by simpa [hn] using h,fun _=>rfl,rfl⟩
    | false=>simp [hn] at h
theorem Q0q {R:Type} {g:Bool} {row:List D}:∀ {n off:Nat} {k:List AV→Option R} {r:R},Q7N g row off n k=some r →
    ∃ cs:List D,k (cs.map .d)=some r∧cs.length=n∧(g=true→∀ j,j<n→row[off+j]? = cs[j]?)
  | 0,off,k,r,h=>⟨[],by simpa [Q7N] using h,rfl,fun _ j hj=>by omega⟩
  | n+1,off,k,r,h=>by
    unfold Q7N at h
    obtain ⟨c,hc,hp⟩:=Qc h
    obtain ⟨cs,h1,h2,h3⟩:=Q0q hc
    refine ⟨c::cs,by simpa using h1,by simp [h2],fun hg j hj=>?_⟩
    cases j with
    | zero=>simpa using hp hg
    | succ j=>
      have:=h3 hg j (by omega)
      rw [show off+(j+1)=off+1+j from by omega]
      simpa using this
theorem Ek {cells:List AV}:∀ {n off:Nat} {cs:List AV},Q5O cells off n=some cs→cs.length=n∧(∀ j,j<n→cells[off+j]? = cs[j]?)∧∀ (j:Nat) (c:AV),cs[j]? = some c→Q5a c=true
  | 0,off,cs,h=>by
    simp [Q5O] at h
    subst h
    exact ⟨rfl,fun j hj=>by omega,fun j c hc=>by simp at hc⟩
  | n+1,off,cs,h=>by
    unfold Q5O at h
    split at h
    · rename_i c hc
      split at h
      · rename_i r hr
        obtain ⟨h1,h2,h3⟩:=Ek hr
        cases hn:Q5a c with
        | true=>
          simp [hn] at h
          subst h
          refine ⟨by simp [h1],fun j hj=>?_,fun j c' hc'=>?_⟩
          · cases j with
            | zero=>simpa using hc
            | succ j=>
              rw [show off+(j+1)=off+1+j from by omega]
              simpa using h2 j (by omega)
          · cases j with
            | zero=>simp at hc';subst hc';exact hn
            | succ j=>exact h3 j c' (by simpa using hc')
        | false=>simp [hn] at h
      · cases h
    · cases h
theorem Q81:∀ {l:List AV},Hb l=true→∀ t,Q55 t l=false
  | [],_,_=>rfl
  | .ptr ..::r,h,t=>by simp [Q55,gds,Q81 (l:=r) (by simpa [Hb] using h) t]
  | .d _::r,h,t=>by simp [Q55,gds,Q81 (l:=r) (by simpa [Hb] using h) t]
  | .top::_,h,_=>by simp [Hb] at h
  | .nil::_,h,_=>by simp [Hb] at h
  | .ag _::_,h,_=>by simp [Hb] at h
  | .tup _::_,h,_=>by simp [Hb] at h
  | .el ..::_,h,_=>by simp [Hb] at h
  | .fs ..::_,h,_=>by simp [Hb] at h
  | .mpd _::_,h,_=>by simp [Hb] at h
  | .ex _::_,h,_=>by simp [Hb] at h
  | .arr _::_,h,_=>by simp [Hb] at h
  | .ap ..::_,h,_=>by simp [Hb] at h
  | .gd ..::_,h,_=>by simp [Hb] at h
  | .fn ..::_,h,_=>by simp [Hb] at h
theorem Er {av:AV} (h:Q5a av=true) (t:Nat):gds t av=false:=by
  cases av with
  | fn f l=>simp only [gds];exact Q81 (by simpa [Q5a] using h) t
  | _=>simp [Q5a] at h <;> rfl
theorem RdA.any_tm {β:Nat→Option Nat} {S:Nat→Prop} {h:Nat→Option Ob} {w:World} {tm:Nat→Value} {v:Value} {av:AV} (hg:Q5a av=true)
    (hv:RdA β S h w tm0 v av):RdA β S h w tm v av:=by
  refine RdA.mono hv (fun _ hb=>hb) (fun _ _=>rfl) (fun l _=>⟨rfl,fun x=>x,fun e s rows hh=>.inr ⟨rows,hh,rfl⟩,fun b cs ty fz _ _ hw=>⟨cs,ty,fz,hw,rfl⟩⟩) (fun t ht=>?_)
  rw [Er hg t] at ht
  cases ht
end

section
variable {P:Program} {E:Env} {R:Type}
theorem KJ {w:World} {b o:Nat} {cs:Array Value} {ty:TypeId} {fz:Nat × Nat} (h:w.heap[b]? = some (.cells cs ty fz)):w.cell? ⟨b,o,none⟩=cs[o]?:=by
  simp [World.cell?,h]
theorem PR {t:Nat} {ti:TyI} (ht:TyOk P t ti) (hs:G1 ti.kd=false) {w:World} {a:Addr} {v:Value} (hc:w.cell? a=some v) :
    (loadVar t a).run P w = .ok v w:=by
  simp only [loadVar,Sem.run_bind,ht.agg,hs,Result.andThen_ok,Bool.false_eq_true,if_false,run_load,hc]
theorem TK {t:Nat} {ti:TyI} (ht:TyOk P t ti) (hs:G1 ti.kd=true) {w:World} {a:Addr} {vs:List Value} (hl:vs.length=ti.size) (hc:∀ (j:Nat) (v:Value),vs[j]? = some v→w.cell? (a.add j)=some v) :
    (loadVar t a).run P w = .ok (.agg vs.toArray) w:=by
  have h1:=run_loadCells_list (P:=P) w a vs hc
  rw [hl] at h1
  simp only [loadVar,Sem.run_bind,ht.agg,hs,Result.andThen_ok,if_true,ht.size,h1]
  rfl
theorem JO {cs:Array Value} {i:Nat} (h:i<cs.size):cs[i]? = some (cs.getD i undef):=by
  simp [Array.getD,h]
theorem Q1i {vs:List Value} {i:Nat} {v:Value} (h:vs[i]? = some v):vs.toArray.getD i undef=v:=by
  obtain ⟨hi,rfl⟩:=List.getElem?_eq_some_iff.1 h
  simp [Array.getD,hi]
theorem HJ {o:Oper} {t:TypeId} {x:Operand} (ho:o.op = .load t x) {a:Act} {w:World} {ad:Addr} {v:Value} (hx:a.eval x = .pointer (some ad)) (hv:(loadVar t ad).run P w = .ok v w) :
    (execOp a.eval o).run P w = .ok (.value v) w:=by
  unfold execOp
  rw [ho]
  simp [Instr.loadAt,Instr.sureAddr,hx,hv]
theorem Q9Q {S:Nat→Prop} {w:World} {ad:Addr} {row:List D} {off:Nat} {c:Nat→Value} (hc:∀ (j:Nat) (x:D),row[off+j]? = some x→w.cell? (ad.add j)=some (c j))
    (hr:∀ (j:Nat) (x:D),row[off+j]? = some x→Rd S w (c j) x) {cs:List D} {n:Nat} (hn:cs.length=n) (hcs:∀ j,j<n→row[off+j]? = cs[j]?) :
    ∃ vs:List Value,vs.length=n∧(∀ (j:Nat) (v:Value),vs[j]? = some v→w.cell? (ad.add j)=some v)∧∀ (j:Nat) (x:D),cs[j]? = some x→∃ v,vs[j]? = some v∧Rd S w v x:=by
  refine ⟨(List.range n).map c,by simp,fun j v hv=>?_,fun j x hx=>?_⟩
  · simp only [List.getElem?_map,Option.map_eq_some_iff] at hv
    obtain ⟨j',hj',rfl⟩:=hv
    obtain ⟨hlt,he⟩:=List.getElem?_eq_some_iff.1 hj'
    simp at hlt he
    subst he
    have h1:=hcs j hlt
    have h2:cs[j]? = some (cs[j]'(by omega)):=List.getElem?_eq_getElem (by omega)
    exact hc j _ (h1.trans h2)
  · have hlt:j<n:=by
      rcases Nat.lt_or_ge j n with h | h
      · exact h
      · rw [List.getElem?_eq_none (by omega)] at hx;cases hx
    exact ⟨c j,by simp [hlt],hr j x ((hcs j hlt).trans hx)⟩
theorem QdH {β:Nat→Option Nat} {S:Nat→Prop} {h:Nat→Option Ob} {w:World} {tm:Nat→Value} {vs:List Value} {cs:List D} (hl:vs.length=cs.length)
    (hr:∀ (j:Nat) (x:D),cs[j]? = some x→∃ v,vs[j]? = some v∧Rd S w v x):RdA β S h w tm (.agg vs.toArray) (.ag (cs.map .d)):=by
  refine .ag _ _ (by simp [hl]) fun i x hx=>?_
  simp only [List.getElem?_map,Option.map_eq_some_iff] at hx
  obtain ⟨y,hy,rfl⟩:=hx
  obtain ⟨v,hv,hr'⟩:=hr i y hy
  rw [Q1i hv]
  exact .d _ _ hr'
theorem Qdk {tt:TT} (hT:TOk P tt) {o:Oper} {t:TypeId} {x:Operand} (ho:o.op = .load t x) {g:Bool} {ev:Operand→AV} {hl:Nat→Option Ob} {k:Dl→Option R} {r:R}
    (h:QgC tt g hl t (ev x) k=some r):∃ dl,k dl=some r∧(g=true→Re P E o ev hl dl):=by
  have hmem:x∈o.op.operands.toList:=by simp [ho,Op.operands]
  unfold QgC at h
  split at h
  case h_2=>cases h
  rename_i ti hti
  have hty:=hT t ti hti
  split at h
  · -- a box
    rename_i l off hev
    split at h
    · rename_i cells hcells
      cases hs:G1 ti.kd with
      | true=>
        simp only [hs,cond_true] at h
        split at h
        · rename_i cs hcs
          refine ⟨_,h,fun _=>QV fun β S st a w hR hO hA=>?_⟩
          obtain ⟨b,hb,hv⟩:=(hev▸hO.at hmem).ptr_inv
          have hlk:look st.h l=some (.box cells):=by rw [hA l (.inl (by simp))];exact hcells
          obtain ⟨b',ty,vs,fz,hb',hw,_,hsz,hrd⟩:=hR.hr.ob l _ hlk
          obtain rfl:b=b':=by rw [hb] at hb';injection hb'
          obtain ⟨h1,h2,h3⟩:=Ek hcs
          have hlt:∀ j,j<ti.size→off+j<vs.size:=fun j hj=>by
            have h4:=h2 j hj
            have h5:cs[j]? = some (cs[j]'(by omega)):=List.getElem?_eq_getElem (by omega)
            rw [h5] at h4
            obtain ⟨h6,_⟩:=List.getElem?_eq_some_iff.1 h4
            omega
          refine ⟨_,HJ ho hv (TK hty hs (vs:=(List.range ti.size).map fun j=>vs.getD (off+j) undef) (by simp) fun j v hv=>?_),?_⟩
          · simp only [List.getElem?_map,Option.map_eq_some_iff] at hv
            obtain ⟨j',hj',rfl⟩:=hv
            obtain ⟨hlt',he⟩:=List.getElem?_eq_some_iff.1 hj'
            simp at hlt' he
            subst he
            rw [T8,KJ hw]
            exact JO (hlt j hlt')
          · refine .ag _ _ (by simp [h1]) fun i y hy=>?_
            have hi:i<ti.size:=by
              obtain ⟨h6,_⟩:=List.getElem?_eq_some_iff.1 hy
              omega
            rw [Q1i (v:=vs.getD (off+i) undef) (by simp [hi])]
            exact (hrd (off+i) y ((h2 i hi).trans hy)).any_tm (h3 i y hy)
        · cases h
      | false=>
        simp only [hs,cond_false] at h
        split at h
        · rename_i c hc
          obtain ⟨v,hkv,hvc,hng⟩:=Q53 h
          refine ⟨_,hkv,fun hg=>QV fun β S st a w hR hO hA=>?_⟩
          obtain ⟨b,hb,hv⟩:=(hev▸hO.at hmem).ptr_inv
          have hlk:look st.h l=some (.box cells):=by rw [hA l (.inl (by simp))];exact hcells
          obtain ⟨b',ty,vs,fz,hb',hw,_,hsz,hrd⟩:=hR.hr.ob l _ hlk
          obtain rfl:b=b':=by rw [hb] at hb';injection hb'
          have hlt:off<vs.size:=by
            obtain ⟨h6,_⟩:=List.getElem?_eq_some_iff.1 hc
            omega
          refine ⟨_,HJ ho hv (PR hty hs (by rw [KJ hw];exact JO hlt)),?_⟩
          rw [hvc hg]
          exact (hrd off c hc).any_tm hng
        · cases h
    · cases h
  · -- a row of data
    rename_i row off hev
    cases hs:G1 ti.kd with
    | true=>
      simp only [hs,cond_true] at h
      obtain ⟨cs,hk,hlen,hcs⟩:=Q0q h
      refine ⟨_,hk,fun hg=>QV fun β S st a w hR hO hA=>?_⟩
      obtain ⟨ad,c,hv,_,hc,hr⟩:=(hev▸hO.at hmem).el_inv
      obtain ⟨vs,h1,h2,h3⟩:=Q9Q hc hr hlen (hcs hg)
      exact ⟨_,HJ ho hv (TK hty hs h1 h2),QdH (by omega) h3⟩
    | false=>
      simp only [hs,cond_false] at h
      obtain ⟨c0,h,hc0⟩:=Qc h
      obtain ⟨v,hkv,hvc,_⟩:=Q53 h
      refine ⟨_,hkv,fun hg=>QV fun β S st a w hR hO hA=>?_⟩
      obtain ⟨ad,c,hv,_,hc,hr⟩:=(hev▸hO.at hmem).el_inv
      refine ⟨_,HJ ho hv (PR hty hs (v:=c 0) ?_),?_⟩
      · have:=hc 0 c0 (hc0 hg)
        simpa [Addr.add] using this
      · rw [hvc hg]
        exact .d _ _ (hr 0 c0 (hc0 hg))
  · -- an array of the call's own
    rename_i l i off hev
    split at h
    · rename_i e s rows harr
      obtain ⟨row,h,hrow⟩:=Qc h
      cases hs:G1 ti.kd with
      | true=>
        simp only [hs,cond_true] at h
        obtain ⟨cs,hk,hlen,hcs⟩:=Q0q h
        refine ⟨_,hk,fun hg=>QV fun β S st a w hR hO hA=>?_⟩
        have hlk:look st.h l=some (.arr e s rows):=by rw [hA l (.inl (by simp))];exact harr
        obtain ⟨b,hb,hv⟩:=RdA.ap_inv hlk (hev▸hO.at hmem)
        have hrow':=hrow hg
        rcases hR.hr.ob l _ hlk with ⟨_,hn⟩ | ⟨b',vs,hb',hw,_,hrl,hrd⟩
        · subst hn;simp at hrow'
        obtain rfl:b=b':=by rw [hb] at hb';injection hb'
        obtain ⟨vs',h1,h2,h3⟩:=Q9Q (S:=S) (w:=w) (ad:=⟨b,i*s+off,none⟩) (row:=row) (off:=off) (c:=fun j=>vs.getD (i*s+(off+j)) undef)
          (fun j x hx=>by
            obtain ⟨v,hv',_⟩:=hrd i (off+j) row x hrow' hx
            rw [T8,KJ hw,Nat.add_assoc]
            obtain ⟨hlt,_⟩:=Array.getElem?_eq_some_iff.1 hv'
            exact JO hlt)
          (fun j x hx=>by
            obtain ⟨v,hv',hr'⟩:=hrd i (off+j) row x hrow' hx
            obtain ⟨hlt,he⟩:=Array.getElem?_eq_some_iff.1 hv'
            have:vs.getD (i*s+(off+j)) undef=v:=by simp [Array.getD,hlt,he]
            rw [this]
            exact hr') hlen (hcs hg)
        exact ⟨_,HJ ho hv (TK hty hs h1 h2),QdH (by omega) h3⟩
      | false=>
        simp only [hs,cond_false] at h
        obtain ⟨c0,h,hc0⟩:=Qc h
        obtain ⟨v,hkv,hvc,_⟩:=Q53 h
        refine ⟨_,hkv,fun hg=>QV fun β S st a w hR hO hA=>?_⟩
        have hlk:look st.h l=some (.arr e s rows):=by rw [hA l (.inl (by simp))];exact harr
        obtain ⟨b,hb,hv⟩:=RdA.ap_inv hlk (hev▸hO.at hmem)
        have hrow':=hrow hg
        rcases hR.hr.ob l _ hlk with ⟨_,hn⟩ | ⟨b',vs,hb',hw,_,hrl,hrd⟩
        · subst hn;simp at hrow'
        obtain rfl:b=b':=by rw [hb] at hb';injection hb'
        obtain ⟨u,hu,hr'⟩:=hrd i off row c0 hrow' (hc0 hg)
        refine ⟨_,HJ ho hv (PR hty hs (v:=u) ?_),?_⟩
        · rw [KJ hw];exact hu
        · rw [hvc hg]
          exact .d _ _ hr'
    · cases h
  · cases h
end

section
variable {P:Program} {E:Env} {R:Type}
theorem Qag {o:Oper} {x:Operand} (ho:o.op = .move x∨o.op = .assign x) {ev:Operand→AV} {hl:Nat→Option Ob}:Re P E o ev hl ⟨ev x,[],[]⟩:=by
  refine QV fun β S st a w hR hO hA=>⟨a.eval x,?_,hO.at (by rcases ho with ho | ho <;> simp [ho,Op.operands])⟩
  unfold execOp
  rcases ho with ho | ho <;> rw [ho] <;> simp
theorem BB {o:Oper} {x:Operand} (ho:o.op = .nilCheck x) {a:Act} {w:World} {ad:Addr} (had:a.eval x = .pointer (some ad)) :
    (execOp a.eval o).run P w = .ok (.value (.pointer (some ad))) w:=by
  unfold execOp;rw [ho];simp [had]
theorem Q2W {o:Oper} {x:Operand} (ho:o.op = .nilCheck x) {ev:Operand→AV} {hl:Nat→Option Ob} {l f:Nat} (hv:ev x = .ptr l f):Re P E o ev hl ⟨.ptr l f,[],[]⟩:=by
  refine QV fun β S st a w hR hO hA=>?_
  have hx:=hv▸hO.at (x:=x) (by simp [ho,Op.operands])
  obtain ⟨b,_,h⟩:=hx.ptr_inv
  exact ⟨_,BB ho h,h▸hx⟩
theorem Q4R {o:Oper} {x:Operand} (ho:o.op = .nilCheck x) {ev:Operand→AV} {hl:Nat→Option Ob} {l:List D} {f:Nat} (hv:ev x = .el l f):Re P E o ev hl ⟨.el l f,[],[]⟩:=by
  refine QV fun β S st a w hR hO hA=>?_
  have hx:=hv▸hO.at (x:=x) (by simp [ho,Op.operands])
  obtain ⟨b,_,h,_⟩:=hx.el_inv
  exact ⟨_,BB ho h,h▸hx⟩
theorem RdA.ap_ptr {β:Nat→Option Nat} {S:Nat→Prop} {h:Nat→Option Ob} {w:World} {tm:Nat→Value} {v:Value} {l i off:Nat} (hh:(h l).isSome=true) (hv:RdA β S h w tm v (.ap l i off)):∃ ad,v = .pointer (some ad):=by
  cases hv with
  | ap _ _ _ b e s rows hb hh=>exact ⟨_,rfl⟩
  | dang _ _ l' hl hn _=>simp [Ha] at hl;subst hl;rw [hn] at hh;cases hh
theorem Q4H {o:Oper} {x:Operand} (ho:o.op = .nilCheck x) {ev:Operand→AV} {hl:Nat→Option Ob} {l i f:Nat} (hs:(hl l).isSome=true) (hv:ev x = .ap l i f):Re P E o ev hl ⟨.ap l i f,[],[l]⟩:=by
  refine QV fun β S st a w hR hO hA=>?_
  have hx:=hv▸hO.at (x:=x) (by simp [ho,Op.operands])
  obtain ⟨ad,h⟩:=hx.ap_ptr (by rw [hA l (.inl (by simp))];exact hs)
  exact ⟨_,BB ho h,h▸hx⟩
theorem Qe4 {o:Oper} {op:UnOp} {t:TypeId} {x:Operand} (ho:o.op = .unOp op t x) {a:Act} {w:World} {u v:Value} (hx:a.eval x=u) (h:(Op.unary op u).run P w = .ok v w) :
    (execOp a.eval o).run P w = .ok (.value v) w:=by
  unfold execOp;rw [ho];simp [hx,h]
theorem Qgb {o:Oper} {op:UnOp} {t:TypeId} {x:Operand} (ho:o.op = .unOp op t x) {ev:Operand→AV} {hl:Nat→Option Ob} {v:AV} (h:vUn op (ev x)=some v) :
    Re P E o ev hl ⟨v,[],[]⟩:=by
  refine QV fun β S st a w hR hO hA=>?_
  have hx:=hO.at (x:=x) (by simp [ho,Op.operands])
  unfold vUn at h
  split at h
  · rename_i b hb
    cases h
    rw [hb] at hx
    exact ⟨.bool (!b),Qe4 ho hx.bool_inv (by simp [Op.unary]),.d _ _ (.bool _)⟩
  · rename_i k n hb
    cases h
    rw [hb] at hx
    exact ⟨.int k (k.wrap (0-n)),Qe4 ho hx.int_inv (by simp [Op.unary,Op.intArith]),.d _ _ (.int _ _)⟩
  · rename_i k n hb
    cases h
    rw [hb] at hx
    exact ⟨.int k (Qga k n),Qe4 ho hx.int_inv (by simp [Op.unary,Op.intBits,Qga,QhM]),.d _ _ (.int _ _)⟩
  · cases h
theorem Bf (op:BinOp) (t:TypeId) (x y:Operand) (k k':IntKind) (a b:Int) (w:World):(eqGuard op t x y (.int k a) (.int k' b)).run P w = .ok () w:=by
  cases op <;> simp [eqGuard]
theorem DK (op:BinOp) (t:TypeId) (x y:Operand) (a b:Bool) (w:World):(eqGuard op t x y (.bool a) (.bool b)).run P w = .ok () w:=by
  cases op <;> simp [eqGuard]
theorem Q3r {o:Oper} {op:BinOp} {t t':TypeId} {x y:Operand} (ho:o.op = .binOp op t x y t') {a:Act} {w:World} {u u' v:Value} (hx:a.eval x=u) (hy:a.eval y=u')
    (hg:(eqGuard op t x y u u').run P w = .ok () w) (h:(binOp op t u u').run P w = .ok v w) :
    (execOp a.eval o).run P w = .ok (.value v) w:=by
  unfold execOp;rw [ho];simp [hx,hy,h,hg]
theorem Ds (d:Nat) {t:TypeId} (hu:P.underlying t=some .bool) (a b:Bool) (w:World):(Op.equalIn (d+1) t (.bool a) (.bool b)).run P w = .ok (a == b) w:=by
  simp only [Op.equalIn,Sem.run_bind,Y5 hu,Result.andThen_ok];rfl
theorem Q8X {t:TypeId} (hu:P.underlying t=some .bool) (a b:Bool) (w:World):(binOp .eql t (.bool a) (.bool b)).run P w = .ok (.bool (a == b)) w:=by
  simp only [binOp,Op.equal,Op.maxDepth,Sem.run_bind,Ds 9999 hu,Result.andThen_ok];rfl
theorem Q9V {t:TypeId} (hu:P.underlying t=some .bool) (a b:Bool) (w:World):(binOp .neq t (.bool a) (.bool b)).run P w = .ok (.bool (!(a == b))) w:=by
  simp only [binOp,Op.equal,Op.maxDepth,Sem.run_bind,Ds 9999 hu,Result.andThen_ok];rfl
theorem RdA.gd_inv {β:Nat→Option Nat} {S:Nat→Prop} {h:Nat→Option Ob} {w:World} {tm:Nat→Value} {v:Value} {t:Nat} {b:Bool} {av:AV} (hv:RdA β S h w tm v (.gd t b av)) :
    (tm t = .bool b∧RdA β S h w tm v av)∨(tm t≠.bool b∧v=undef):=by
  cases hv with
  | gdT _ _ _ _ ht hv=>exact .inl ⟨ht,hv⟩
  | gdF _ _ _ ht=>exact .inr ⟨ht,rfl⟩
  | dang _ _ l hl _ _=>simp [Ha] at hl
def dv:D→Value
  | .int k n=>.int k n
  | .bool b=>.bool b
  | _=>undef
theorem QcE {op:BinOp} {k:IntKind} {a b:Int} {d:D} (h:Qbp op k a b=some d) (t:TypeId) (w:World) (S:Nat→Prop):∃ v,(binOp op t (.int k a) (.int k b)).run P w = .ok v w∧Rd S w v d:=by
  refine ⟨dv d,?_,?_⟩
  · cases op <;> simp only [Qbp,Option.some.injEq,reduceCtorEq] at h <;> subst h <;> simp [binOp,Op.intArith,Op.intCmp,dv]
  · cases op <;> simp only [Qbp,Option.some.injEq,reduceCtorEq] at h <;> subst h <;> first | exact .int _ _ | exact .bool _
theorem Z2 {tt:TT} {t:Nat} {kd:Kd} (h:BM tt t=kd) (hn:kd≠.other):∃ ti,look tt t=some ti∧ti.kd=kd:=by
  unfold BM at h
  split at h
  · rename_i ti hti;exact ⟨ti,hti,h⟩
  · exact absurd h.symm hn
theorem Q5R (op:BinOp) (t:TypeId) (x y:Operand) (a b:ByteArray) (w:World):(eqGuard op t x y (.string a) (.string b)).run P w = .ok () w:=by
  cases op <;> simp [eqGuard]
theorem Qbu:∀ (l:List Bool),QeA l=l.all id
  | []=>rfl
  | [b]=>by simp [QeA]
  | b::c::r=>by rw [show QeA (b::c::r)=(b&&QeA (c::r)) from rfl,Qbu (c::r)];simp
theorem Q6E {g:Bool}:∀ {ks:List Kd} {xs ys:List AV} {k:List Bool→Option R} {r:R},Q9k g ks xs ys k=some r→∃ bs,k bs=some r∧bs.length=ks.length∧xs.length=ks.length∧ys.length=ks.length ∧
    (g=true→∀ (β:Nat→Option Nat) (S:Nat→Prop) (h:Nat→Option Ob) (w:World) (tm:Nat→Value) (us vs:Nat→Value),(∀ (i:Nat) (x:AV),xs[i]? = some x→RdA β S h w tm (us i) x)→(∀ (i:Nat) (x:AV),ys[i]? = some x→RdA β S h w tm (vs i) x) →
      ∀ (j:Nat) (kd:Kd) (b:Bool),ks[j]? = some kd→bs[j]? = some b→CEq kd (us j) (vs j) b)
  | [],[],[],k,r,h=>⟨[],h,rfl,rfl,rfl,fun _ _ _ _ _ _ _ _ _ _ j kd b hj=>by simp at hj⟩
  | kd::ks,x::xs,y::ys,k,r,h=>by
    cases x with
    | d a=>
      cases y with
      | d b=>
        have fin:∀ (c:Bool),Q9k g ks xs ys (fun r=>k (c::r))=some r→(g=true→∀ (β:Nat→Option Nat) (S:Nat→Prop) (h:Nat→Option Ob) (w:World) (tm:Nat→Value) (u v:Value),RdA β S h w tm u (.d a)→RdA β S h w tm v (.d b)→CEq kd u v c) →
            ∃ bs,k bs=some r∧bs.length=(kd::ks).length∧(AV.d a::xs).length=(kd::ks).length∧(AV.d b::ys).length=(kd::ks).length ∧
            (g=true→∀ (β:Nat→Option Nat) (S:Nat→Prop) (h:Nat→Option Ob) (w:World) (tm:Nat→Value) (us vs:Nat→Value),(∀ (i:Nat) (x:AV),(AV.d a::xs)[i]? = some x→RdA β S h w tm (us i) x)→(∀ (i:Nat) (x:AV),(AV.d b::ys)[i]? = some x→RdA β S h w tm (vs i) x) →
              ∀ (j:Nat) (kd':Kd) (b:Bool),(kd::ks)[j]? = some kd'→bs[j]? = some b→CEq kd' (us j) (vs j) b):=by
          intro c hc hq
          obtain ⟨bs,h1,h2,h3,h4,h5⟩:=Q6E hc
          refine ⟨c::bs,h1,by simp [h2],by simp [h3],by simp [h4],fun hg β S hh w tm us vs hu hv j kd' b' hj hb=>?_⟩
          cases j with
          | zero=>simp at hj hb;subst hj hb;exact hq hg β S hh w tm _ _ (hu 0 _ rfl) (hv 0 _ rfl)
          | succ j=>exact h5 hg β S hh w tm (fun i=>us (i+1)) (fun i=>vs (i+1)) (fun i x hx=>hu (i+1) x (by simpa using hx)) (fun i x hx=>hv (i+1) x (by simpa using hx)) j kd' b' (by simpa using hj) (by simpa using hb)
        cases kd with
        | int ik=>
          simp only [Q9k] at h
          obtain ⟨m,h,hm⟩:=Qc h
          obtain ⟨n,h,hn⟩:=Qc h
          refine fin _ h fun hg β S hh w tm u v hu hv=>?_
          rw [Q1t (hm hg)] at hu
          rw [Q1t (hn hg)] at hv
          exact ⟨m,n,hu.int_inv,hv.int_inv,rfl⟩
        | bool=>
          simp only [Q9k] at h
          obtain ⟨m,h,hm⟩:=Qc h
          obtain ⟨n,h,hn⟩:=Qc h
          refine fin _ h fun hg β S hh w tm u v hu hv=>?_
          rw [Ah (hm hg)] at hu
          rw [Ah (hn hg)] at hv
          exact ⟨m,n,hu.bool_inv,hv.bool_inv,rfl⟩
        | str=>
          simp only [Q9k] at h
          obtain ⟨m,h,hm⟩:=Qc h
          obtain ⟨n,h,hn⟩:=Qc h
          refine fin _ h fun hg β S hh w tm u v hu hv=>?_
          rw [Q24 (hm hg)] at hu
          rw [Q24 (hn hg)] at hv
          obtain ⟨s,rfl,rfl⟩:=hu.str_inv
          obtain ⟨t,rfl,rfl⟩:=hv.str_inv
          exact ⟨s,t,rfl,rfl,rfl⟩
        | _=>simp [Q9k] at h
      | _=>simp [Q9k] at h
    | _=>simp [Q9k] at h
  | [],[],_::_,k,r,h=>by simp [Q9k] at h
  | [],_::_,_,k,r,h=>by simp [Q9k] at h
  | _::_,[],_,k,r,h=>by simp [Q9k] at h
  | _::_,_::_,[],k,r,h=>by simp [Q9k] at h
theorem Qf7 {o:Oper} {op:BinOp} {t t':TypeId} {x y:Operand} (ho:o.op = .binOp op t x y t') {g:Bool} {ev:Operand→AV} {hl:Nat→Option Ob} {k:Dl→Option R} {r:R} {a0 b0:List UInt8} (hex:ev x = .d (.str a0)) (hey:ev y = .d (.str b0))
    (h:Qia g op a0 b0 (fun v=>k ⟨v,[],[]⟩)=some r):∃ dl,k dl=some r∧(g=true→Re P E o ev hl dl):=by
  have hmx:x∈o.op.operands.toList:=by simp [ho,Op.operands]
  have hmy:y∈o.op.operands.toList:=by simp [ho,Op.operands]
  have fin:∀ (d:D) (v:ByteArray→ByteArray→Value),k ⟨.d d,[],[]⟩=some r→(g=true→∀ (s u:ByteArray) (w:World) (S:Nat→Prop),s.data.toList=a0→u.data.toList=b0→(Op.stringOp op s u).run P w = .ok (v s u) w∧Rd S w (v s u) d)→∃ dl,k dl=some r∧(g=true→Re P E o ev hl dl):=by
    intro d v hk hr
    refine ⟨_,hk,fun hg=>QV fun β S st a w hR hO hA=>?_⟩
    obtain ⟨s,hs,hx⟩:=(hex▸hO.at hmx).str_inv
    obtain ⟨u,hu,hy⟩:=(hey▸hO.at hmy).str_inv
    obtain ⟨h1,h2⟩:=hr hg s u w S hs.symm hu.symm
    refine ⟨_,Q3r ho hx hy (Q5R ..) ?_,.d _ _ h2⟩
    have:binOp op t (.string s) (.string u)=Op.stringOp op s u:=by cases op <;> simp [binOp,Op.stringOp]
    rw [this];exact h1
  cases op <;> simp only [Qia,reduceCtorEq] at h
  · obtain ⟨_,h,hp⟩:=Qc h
    refine fin _ (fun s u=>.string (s++u)) h fun hg s u w S hs hu=>⟨?_,?_⟩
    · have hp:=hp hg
      unfold QcX at hp
      cases hb:Nat.ble (a0.length+b0.length) 9223372036854775807 with
      | false=>rw [hb] at hp;cases hp
      | true=>
        have:=Nat.le_of_ble_eq_true hb
        refine run_string_add_sum w s u ?_
        rw [← hs,← hu,Array.length_toList,Array.length_toList] at this
        exact this
    · have:(s++u).data.toList=a0++b0:=by rw [← hs,← hu];simp [ByteArray.data_append]
      rw [← this];exact .str _
  · exact fin _ (fun s u=>.bool (s.toList == u.toList)) h fun hg s u w S hs hu=>⟨by simp [Op.stringOp],by rw [ByteArray.toList_eq,ByteArray.toList_eq,hs,hu];exact .bool _⟩
  · exact fin _ (fun s u=>.bool (!(s.toList == u.toList))) h fun hg s u w S hs hu=>⟨by simp [Op.stringOp],by rw [ByteArray.toList_eq,ByteArray.toList_eq,hs,hu];exact .bool _⟩
  · exact fin _ (fun s u=>.bool (Op.bytesLess s.toList u.toList)) h fun hg s u w S hs hu=>⟨by simp [Op.stringOp],by rw [ByteArray.toList_eq,ByteArray.toList_eq,hs,hu];exact .bool _⟩
  · exact fin _ (fun s u=>.bool (Op.bytesLess s.toList u.toList||s.toList == u.toList)) h fun hg s u w S hs hu=>⟨by simp [Op.stringOp],by rw [ByteArray.toList_eq,ByteArray.toList_eq,hs,hu];exact .bool _⟩
  · exact fin _ (fun s u=>.bool (!(Op.bytesLess s.toList u.toList||s.toList == u.toList))) h fun hg s u w S hs hu=>⟨by simp [Op.stringOp],by rw [ByteArray.toList_eq,ByteArray.toList_eq,hs,hu];exact .bool _⟩
  · exact fin _ (fun s u=>.bool (!Op.bytesLess s.toList u.toList)) h fun hg s u w S hs hu=>⟨by simp [Op.stringOp],by rw [ByteArray.toList_eq,ByteArray.toList_eq,hs,hu];exact .bool _⟩
theorem QeF {tt:TT} (hT:TOk P tt) {o:Oper} {op:BinOp} {t t':TypeId} {x y:Operand} (ho:o.op = .binOp op t x y t') {g:Bool} {ev:Operand→AV} {hl:Nat→Option Ob} {k:Dl→Option R} {r:R}
    (h:Qif g op (BM tt t) (QgE tt t) (ev x) (ev y) (fun v=>k ⟨v,[],[]⟩)=some r):∃ dl,k dl=some r∧(g=true→Re P E o ev hl dl):=by
  have hmx:x∈o.op.operands.toList:=by simp [ho,Op.operands]
  have hmy:y∈o.op.operands.toList:=by simp [ho,Op.operands]
  unfold Qif at h
  split at h
  · rename_i ka a0 kb b0 hex hey
    have fin:∀ (d:Int),k ⟨.d (.int ka d),[],[]⟩=some r→(g=true→∀ w:World,(binOp op t (.int ka a0) (.int kb b0)).run P w = .ok (.int ka d) w)→∃ dl,k dl=some r∧(g=true→Re P E o ev hl dl):=by
      intro d hk hr
      refine ⟨_,hk,fun hg=>QV fun β S st a w hR hO hA=>?_⟩
      have hx:=(hex▸hO.at hmx).int_inv
      have hy:=(hey▸hO.at hmy).int_inv
      exact ⟨_,Q3r ho hx hy (Bf ..) (hr hg w),.d _ _ (.int _ _)⟩
    have hnn:∀ {u:Unit},Q6U b0=some u→0≤b0:=by
      intro u hp
      unfold Q6U at hp
      by_cases h0:0≤b0
      · exact h0
      · simp [h0] at hp
    split at h
    · obtain ⟨_,h,hp⟩:=Qc h
      refine fin _ h fun hg w=>?_
      have h0:=hnn (hp hg)
      have:¬ b0<0:=by omega
      simp [binOp,Op.shift,this,shL]
    · obtain ⟨_,h,hp⟩:=Qc h
      refine fin _ h fun hg w=>?_
      have h0:=hnn (hp hg)
      have:¬ b0<0:=by omega
      simp [binOp,Op.shift,this,shR]
    · rename_i hs1 hs2
      cases hk:(ka == kb) with
      | false=>simp [hk] at h
      | true=>
        obtain rfl:ka=kb:=by simpa using hk
        simp only [hk,cond_true] at h
        split at h
        · obtain ⟨_,h,hp⟩:=Qc h
          refine fin _ h fun hg w=>?_
          have hnz:¬ b0=0:=by
            intro e;subst e;simp [nz] at hp;exact absurd hp (by simp [hg])
          simp [binOp,Op.intDiv,hnz]
        · obtain ⟨_,h,hp⟩:=Qc h
          refine fin _ h fun hg w=>?_
          have hnz:¬ b0=0:=by
            intro e;subst e;simp [nz] at hp;exact absurd hp (by simp [hg])
          simp [binOp,Op.intDiv,hnz]
        · exact fin _ h fun hg w=>by simp [binOp,Op.intBits,QbG]
        · exact fin _ h fun hg w=>by simp [binOp,Op.intBits,bOr]
        · exact fin _ h fun hg w=>by simp [binOp,Op.intBits,QhM]
        · exact fin _ h fun hg w=>by simp [binOp,Op.intBits,Qe1]
        · split at h
          · rename_i d hd
            refine ⟨_,h,fun hg=>QV fun β S st a w hR hO hA=>?_⟩
            have hx:=(hex▸hO.at hmx).int_inv
            have hy:=(hey▸hO.at hmy).int_inv
            obtain ⟨v,hv,hr⟩:=QcE (P:=P) hd t w S
            exact ⟨v,Q3r ho hx hy (Bf ..) hv,.d _ _ hr⟩
          · cases h
  · rename_i a0 b0 hex hey
    split at h
    · rename_i hkd
      obtain ⟨ti,hti,hkd'⟩:=Z2 hkd (by simp)
      have hu:=(hT t ti hti).kbool hkd'
      refine ⟨_,h,fun hg=>QV fun β S st a w hR hO hA=>?_⟩
      have hx:=(hex▸hO.at hmx).bool_inv
      have hy:=(hey▸hO.at hmy).bool_inv
      exact ⟨.bool (a0 == b0),Q3r ho hx hy (DK ..) (Q8X hu ..),.d _ _ (.bool _)⟩
    · rename_i hkd
      obtain ⟨ti,hti,hkd'⟩:=Z2 hkd (by simp)
      have hu:=(hT t ti hti).kbool hkd'
      refine ⟨_,h,fun hg=>QV fun β S st a w hR hO hA=>?_⟩
      have hx:=(hex▸hO.at hmx).bool_inv
      have hy:=(hey▸hO.at hmy).bool_inv
      exact ⟨.bool (!(a0 == b0)),Q3r ho hx hy (DK ..) (Q9V hu ..),.d _ _ (.bool _)⟩
    · cases h
  · rename_i a0 b0 hex hey
    exact Qf7 ho hex hey h
  · rename_i xs ys hex hey
    split at h
    case h_2=>cases h
    rename_i ks hks
    obtain ⟨ti,hti,hek⟩:∃ ti,look tt t=some ti∧ti.eqk=some ks:=by
      unfold QgE at hks
      split at hks
      · rename_i ti hti;exact ⟨ti,hti,hks⟩
      · cases hks
    have hE:=(hT t ti hti).keq ks hek
    have key:∀ (c:Bool→Bool) (bs:List Bool),k ⟨.d (.bool (c (QeA bs))),[],[]⟩=some r→bs.length=ks.length→xs.length=ks.length→ys.length=ks.length →
        (∀ (u v:Array Value) (w:World) (b:Bool),(Op.equalIn 10000 t (.agg u) (.agg v)).run P w = .ok b w→(binOp op t (.agg u) (.agg v)).run P w = .ok (.bool (c b)) w) →
        (g=true→∀ (β:Nat→Option Nat) (S:Nat→Prop) (h:Nat→Option Ob) (w:World) (tm:Nat→Value) (us vs:Nat→Value),(∀ (i:Nat) (x:AV),xs[i]? = some x→RdA β S h w tm (us i) x)→(∀ (i:Nat) (x:AV),ys[i]? = some x→RdA β S h w tm (vs i) x) →
          ∀ (j:Nat) (kd:Kd) (b:Bool),ks[j]? = some kd→bs[j]? = some b→CEq kd (us j) (vs j) b)→∃ dl,k dl=some r∧(g=true→Re P E o ev hl dl):=by
      intro c bs hk h2 h3 h4 hrun h5
      refine ⟨_,hk,fun hg=>QV fun β S st a w hR hO hA=>?_⟩
      obtain ⟨us,hx,hxs,hxr⟩:=(hex▸hO.at hmx).ag_inv
      obtain ⟨vs,hy,hys,hyr⟩:=(hey▸hO.at hmy).ag_inv
      obtain ⟨e1,e2⟩:=hE w us vs bs (by omega) (by omega) h2 (h5 hg β S _ w _ (fun j=>us.getD j undef) (fun j=>vs.getD j undef) hxr hyr)
      refine ⟨.bool (c (QeA bs)),Q3r ho hx hy (run_eqGuard_agg w op t x y us vs e2) ?_,.d _ _ (.bool _)⟩
      rw [Qbu]
      exact hrun us vs w _ e1
    split at h
    · obtain ⟨bs,h1,h2,h3,h4,h5⟩:=Q6E h
      exact key (fun b=>b) bs h1 h2 h3 h4 (fun u v w b hb=>by rw [run_eql_struct,hb];rfl) h5
    · obtain ⟨bs,h1,h2,h3,h4,h5⟩:=Q6E h
      exact key (fun b=>!b) bs h1 h2 h3 h4 (fun u v w b hb=>by rw [run_neq_struct,hb];rfl) h5
    · cases h
  · cases h
theorem Q9M {tt:TT} (hT:TOk P tt) {o:Oper} {s t:TypeId} {x:Operand} (ho:o.op = .convert s t x) {ev:Operand→AV} {hl:Nat→Option Ob} {ks kd kn:IntKind} {n:Int}
    (hs:BM tt s = .int ks) (ht:BM tt t = .int kd) (hx:ev x = .d (.int kn n)):Re P E o ev hl ⟨.d (.int kd (kd.wrap n)),[],[]⟩:=by
  obtain ⟨ti,hti,hkd⟩:=Z2 hs (by simp)
  obtain ⟨ti',hti',hkd'⟩:=Z2 ht (by simp)
  have hus:=(hT s ti hti).kint _ hkd
  have hut:=(hT t ti' hti').kint _ hkd'
  refine QV fun β S st a w hR hO hA=>?_
  have hv:=(hx▸hO.at (x:=x) (by simp [ho,Op.operands])).int_inv
  refine ⟨_,?_,.d _ _ (.int _ _)⟩
  unfold execOp;rw [ho]
  simp [convert,Y5 hus,Y5 hut,hv,Conv.intToInt]
theorem Q8J {tt:TT} (hT:TOk P tt) {o:Oper} {s t:TypeId} {x:Operand} (ho:o.op = .convert s t x) {ev:Operand→AV} {hl:Nat→Option Ob} {n:List UInt8}
    (hs:BM tt s = .str) (ht:BM tt t = .str) (hx:ev x = .d (.str n)):Re P E o ev hl ⟨.d (.str n),[],[]⟩:=by
  obtain ⟨ti,hti,hkd⟩:=Z2 hs (by simp)
  obtain ⟨ti',hti',hkd'⟩:=Z2 ht (by simp)
  have hus:=(hT s ti hti).kstr hkd
  have hut:=(hT t ti' hti').kstr hkd'
  refine QV fun β S st a w hR hO hA=>?_
  obtain ⟨bs,hn,hv⟩:=(hx▸hO.at (x:=x) (by simp [ho,Op.operands])).str_inv
  refine ⟨.string bs,?_,.d _ _ (by rw [hn];exact .str _)⟩
  unfold execOp;rw [ho]
  simp [convert,Y5 hus,Y5 hut,hv]
theorem Q8U {o:Oper} {x:Operand} {i:Nat} (ho:o.op = .extract x i) {ev:Operand→AV} {hl:Nat→Option Ob} {l:List AV} {v:AV} (hx:ev x = .tup l) (hv:l[i]? = some v) :
    Re P E o ev hl ⟨v,[],[]⟩:=by
  refine QV fun β S st a w hR hO hA=>?_
  obtain ⟨cs,he,hsz,hr⟩:=(hx▸hO.at (x:=x) (by simp [ho,Op.operands])).tup_inv
  refine ⟨_,?_,hr i v hv⟩
  have hlt:i<cs.size:=by
    obtain ⟨h6,_⟩:=List.getElem?_eq_some_iff.1 hv
    omega
  have hg:=JO hlt
  unfold execOp;rw [ho]
  simp only [Instr.extract,he,hg,Sem.run_bind];rfl
theorem QdI {o:Oper} {s:Nat} {x y:Operand} (ho:o.op = .pick (.tmp s) x y) {ev:Operand→AV} {hl:Nat→Option Ob} {e a0 b0:Bool}
    (he:ev (.tmp s) = .d (.bool e)) (hx:unw [(s,true)] (ev x) = .d (.bool a0)) (hy:unw [(s,false)] (ev y) = .d (.bool b0)) :
    Re P E o ev hl ⟨.d (.bool (bif e then a0 else b0)),[],[]⟩:=by
  refine QV fun β S st a w hR hO hA=>?_
  have hc:=(he▸hO.at (x:=.tmp s) (by simp [ho,Op.operands])).bool_inv
  have hX:=hO.at (x:=x) (by simp [ho,Op.operands])
  have hY:=hO.at (x:=y) (by simp [ho,Op.operands])
  have key:∀ (z:Operand) (t c:Bool),unw [(s,t)] (ev z) = .d (.bool c)→RdA β S (look st.h) w (tmv a) (a.eval z) (ev z)→e=t→a.eval z = .bool c:=by
    intro z t c hu hz het
    cases hev:ev z with
    | gd s' w' av=>
      rw [hev] at hu hz
      simp only [unw,QfH,Bool.or_false] at hu
      cases hm:(Nat.beq s s'&&(t == w')) with
      | false=>simp [hm] at hu
      | true=>
        simp only [hm,cond_true] at hu
        simp only [Bool.and_eq_true,beq_iff_eq] at hm
        obtain ⟨h1,rfl⟩:=hm
        obtain rfl:=Nat.eq_of_beq_eq_true h1
        subst hu
        have htm:tmv a s = .bool t:=by
          have:tmv a s=a.eval (.tmp s):=rfl
          rw [this,hc,het]
        rcases hz.gd_inv with ⟨_,hv⟩ | ⟨hne,_⟩
        · exact hv.bool_inv
        · exact absurd htm hne
    | d x'=>rw [hev] at hu hz;simp only [unw] at hu;rw [hu] at hz;exact hz.bool_inv
    | _=>rw [hev] at hu;simp [unw] at hu
  refine ⟨.bool (bif e then a0 else b0),?_,.d _ _ (.bool _)⟩
  unfold execOp;rw [ho]
  cases e with
  | true=>simp [hc,asBool,key x true a0 hx hX rfl]
  | false=>simp [hc,asBool,key y false b0 hy hY rfl]
theorem Qen {kd:Kd} (h:Ep kd=true):kd = .struct:=by cases kd <;> simp [Ep] at h;rfl
theorem Qc9 {tt:TT} (hT:TOk P tt) {t f off ft:Nat} {ti:TyI} (hti:look tt t=some ti) (hs:Ep ti.kd=true) (hf:ti.fields[f]? = some (off,ft)) :
    ∃ fs fd,P.underlying t=some (.struct fs)∧fs[f]? = some fd∧fd.offset=off∧fd.type=ft∧∃ i,P.info? fd.type=some i∧i.size≠0:=by
  obtain ⟨fs,hu,hfs,hsz⟩:=(hT t ti hti).kstruct (Qen hs)
  rw [← hfs,List.getElem?_map,Option.map_eq_some_iff] at hf
  obtain ⟨fd,hfd,he⟩:=hf
  injection he with he1 he2
  exact ⟨fs,fd,hu,by simpa using hfd,he1,he2,hsz fd (List.mem_of_getElem? hfd)⟩
theorem Q71 {tt:TT} (hT:TOk P tt) {o:Oper} {t:TypeId} {x:Operand} {f:Nat} (ho:o.op = .fieldAddr t x f) {ev:Operand→AV} {hl:Nat→Option Ob} {k:Dl→Option R} {r:R}
    (h:Q3p tt hl t f (ev x) k=some r):∃ dl,k dl=some r∧Re P E o ev hl dl:=by
  have hmem:x∈o.op.operands.toList:=by simp [ho,Op.operands]
  unfold Q3p at h
  split at h
  case h_2=>cases h
  rename_i ti hti
  cases hs:Ep ti.kd with
  | false=>simp [hs] at h
  | true=>
    simp only [hs,cond_true] at h
    split at h
    case h_2=>cases h
    rename_i off ft hf
    obtain ⟨fs,fd,hu,hfd,hoff,_,i,hi,hne⟩:=Qc9 hT hti hs hf
    have hrun:∀ (a:Act) (w:World) (ad:Addr),a.eval x = .pointer (some ad)→(execOp a.eval o).run P w = .ok (.value (.pointer (some (ad.add off)))) w:=by
      intro a w ad hx
      unfold execOp;rw [ho]
      simp [Instr.fieldAt,Y5 hu,hfd,Instr.sureAddr,hx,fieldPlace,sizeOf,ZI hi,hne,hoff]
    split at h
    · rename_i l o' hev
      refine ⟨_,h,QV fun β S st a w hR hO hA=>?_⟩
      obtain ⟨b,hb,hx⟩:=(hev▸hO.at hmem).ptr_inv
      exact ⟨_,hrun a w _ hx,by rw [T8];exact .ptr _ _ _ hb⟩
    · rename_i row o' hev
      refine ⟨_,h,QV fun β S st a w hR hO hA=>?_⟩
      obtain ⟨ad,c,hx,hS,hc,hr⟩:=(hev▸hO.at hmem).el_inv
      refine ⟨_,hrun a w _ hx,.el _ _ _ (fun j=>c (off+j)) (by rw [Hj];exact hS) (fun j y hy=>?_) (fun j y hy=>?_)⟩
      · rw [Q5D];exact hc (off+j) y (by rw [← Nat.add_assoc];exact hy)
      · exact hr (off+j) y (by rw [← Nat.add_assoc];exact hy)
    · rename_i l i' o' hev
      split at h
      · rename_i e s rows harr
        refine ⟨_,h,QV fun β S st a w hR hO hA=>?_⟩
        have hlk:look st.h l=some (.arr e s rows):=by rw [hA l (.inl (by simp))];exact harr
        obtain ⟨b,hb,hx⟩:=RdA.ap_inv hlk (hev▸hO.at hmem)
        exact ⟨_,hrun a w _ hx,by rw [T8,Nat.add_assoc];exact .ap _ _ _ _ _ _ _ hb hlk⟩
      · cases h
    · cases h
theorem Q9w {t:Nat} {ti:TyI} (ht:TyOk P t ti) (hs:G1 ti.kd=false) {w:World} {cs:Array Value} {off:Nat} {v:Value} (hc:cs[off]? = some v) :
    (part t cs off).run P w = .ok v w:=by
  simp only [part,Sem.run_bind,ht.agg,hs,Result.andThen_ok,Bool.false_eq_true,if_false,hc];rfl
theorem Qa5 {t:Nat} {ti:TyI} (ht:TyOk P t ti) (hs:G1 ti.kd=true) {w:World} {cs:Array Value} {off:Nat} :
    (part t cs off).run P w = .ok (.agg (cs.extract off (off+ti.size))) w:=by
  simp only [part,Sem.run_bind,ht.agg,hs,Result.andThen_ok,if_true,ht.size];rfl
theorem QcD {tt:TT} (hT:TOk P tt) {o:Oper} {t:TypeId} {x:Operand} {f:Nat} (ho:o.op = .field t x f) {g:Bool} {ev:Operand→AV} {hl:Nat→Option Ob} {k:Dl→Option R} {r:R}
    (h:QdY tt g t f (ev x) k=some r):∃ dl,k dl=some r∧(g=true→Re P E o ev hl dl):=by
  have hmem:x∈o.op.operands.toList:=by simp [ho,Op.operands]
  unfold QdY at h
  split at h
  case h_2=>cases h
  rename_i ti hti
  cases hs:Ep ti.kd with
  | false=>simp [hs] at h
  | true=>
    simp only [hs,cond_true] at h
    split at h
    case h_2=>cases h
    rename_i off ft hf
    obtain ⟨fs,fd,hu,hfd,hoff,hft,i,hi,hne⟩:=Qc9 hT hti hs hf
    split at h
    case h_2=>cases h
    rename_i fi hfi
    have hfty:=hT ft fi hfi
    split at h
    case h_2=>cases h
    rename_i cells hev
    have hrun:∀ (a:Act) (w:World) (cs:Array Value) (v:Value),a.eval x = .agg cs→(part ft cs off).run P w = .ok v w→(execOp a.eval o).run P w = .ok (.value v) w:=by
      intro a w cs v hx hp
      unfold execOp;rw [ho]
      simp [Instr.field,Y5 hu,hfd,hx,asAgg,hoff,hft,hp]
    cases hfs:G1 fi.kd with
    | true=>
      simp only [hfs,cond_true] at h
      split at h
      · rename_i cs hcs
        refine ⟨_,h,fun _=>QV fun β S st a w hR hO hA=>?_⟩
        obtain ⟨vs,hx,hsz,hr⟩:=(hev▸hO.at hmem).ag_inv
        obtain ⟨h1,h2,h3⟩:=Ek hcs
        refine ⟨_,hrun a w vs _ hx (Qa5 hfty hfs),?_⟩
        have hle:fi.size=0∨off+fi.size≤vs.size:=by
          rcases Nat.eq_zero_or_pos fi.size with h0 | h0
          · exact .inl h0
          · right
            have h4:=h2 (fi.size-1) (by omega)
            have h5:cs[fi.size-1]? = some (cs[fi.size-1]'(by omega)):=List.getElem?_eq_getElem (by omega)
            rw [h5] at h4
            obtain ⟨h6,_⟩:=List.getElem?_eq_some_iff.1 h4
            omega
        refine .ag _ _ (by rw [h1,Array.size_extract];rcases hle with h | h <;> omega) fun j y hy=>?_
        have hj:j<fi.size:=by obtain ⟨h6,_⟩:=List.getElem?_eq_some_iff.1 hy;omega
        have:=hr (off+j) y ((h2 j hj).trans hy)
        have he:(vs.extract off (off+fi.size)).getD j undef=vs.getD (off+j) undef:=by
          have hlt:off+j<vs.size:=by rcases hle with h | h <;> omega
          have hlt':j<(vs.extract off (off+fi.size)).size:=by rw [Array.size_extract];omega
          simp only [Array.getD,hlt,hlt',dite_true]
          simp
        rw [he]
        exact this
      · cases h
    | false=>
      simp only [hfs,cond_false] at h
      split at h
      · rename_i c hc
        obtain ⟨v,hkv,hvc,_⟩:=Q53 h
        refine ⟨_,hkv,fun hg=>QV fun β S st a w hR hO hA=>?_⟩
        obtain ⟨vs,hx,hsz,hr⟩:=(hev▸hO.at hmem).ag_inv
        have hlt:off<vs.size:=by obtain ⟨h6,_⟩:=List.getElem?_eq_some_iff.1 hc;omega
        exact ⟨_,hrun a w vs _ hx (Q9w hfty hfs (JO hlt)),by rw [hvc hg];exact hr off c hc⟩
      · cases h
end

section
variable {P:Program} {E:Env} {R:Type}
theorem Rd.sl_inv {S:Nat→Prop} {w:World} {v:Value} {s:Nat} {rows:List (List D)} (h:Rd S w v (.sl s rows)) :
    (rows=[]∧∃ a cap,v = .slice a 0 cap)∨∃ (ad:Addr) (cap:Nat) (c:Nat→Nat→Value),v = .slice (some ad) rows.length cap∧S ad.block∧rows.length≤cap∧(∀ (i:Nat) (r:List D),rows[i]? = some r→r.length=s) ∧
      (∀ (i j:Nat) (r:List D) (x:D),rows[i]? = some r→r[j]? = some x→w.cell? (ad.add (i*s+j))=some (c i j))∧∀ (i j:Nat) (r:List D) (x:D),rows[i]? = some r→r[j]? = some x→Rd S w (c i j) x:=by
  cases h with
  | sl0 a cap=>exact .inl ⟨rfl,a,cap,rfl⟩
  | sl ad cap _ _ c hS hcap hsz hc hr=>exact .inr ⟨ad,cap,c,rfl,hS,hcap,hsz,hc,hr⟩
theorem Rd.len {S:Nat→Prop} {w:World} {v:Value} {s:Nat} {rows:List (List D)} (h:Rd S w v (.sl s rows)):∃ a cap,v = .slice a rows.length cap:=by
  rcases h.sl_inv with ⟨rfl,a,cap,rfl⟩ | ⟨ad,cap,_,rfl,_⟩
  · exact ⟨a,cap,rfl⟩
  · exact ⟨some ad,cap,rfl⟩
theorem Q2Y {rows:List (List D)} {n:Int} {row:List D} (h:X2 rows n=some row):0≤n∧n<rows.length∧rows[n.toNat]? = some row:=by
  unfold X2 at h
  cases hd:decide (0≤n) with
  | false=>simp [hd] at h
  | true=>
    simp only [hd,cond_true] at h
    obtain ⟨hlt,_⟩:=List.getElem?_eq_some_iff.1 h
    have:0≤n:=by simpa using hd
    exact ⟨this,by omega,h⟩
theorem Qbn {len:Nat} {n:Int} {u:Unit} (h:inB len n=some u):0≤n∧n<len:=by
  unfold inB at h
  cases hd:(decide (0≤n)&&decide (n<len)) with
  | false=>simp [hd] at h
  | true=>simpa using hd
theorem Q2f {tt:TT} (hT:TOk P tt) {o:Oper} {t:TypeId} {x i:Operand} (ho:o.op = .indexAddr t x i) {e esz:Nat} (hk:BM tt t = .sl e esz) {a:Act} {w:World} {ad:Addr} {len cap:Nat} {ik:IntKind} {n:Int}
    (hx:a.eval x = .slice (some ad) len cap) (hi:a.eval i = .int ik n) (h0:0≤n) (h1:n<len) :
    (execOp a.eval o).run P w = .ok (.value (.pointer (some (ad.add (n.toNat*esz))))) w:=by
  obtain ⟨ti,hti,hkd⟩:=Z2 hk (by simp)
  obtain ⟨hu,_,inf,hinf,hsz⟩:=(hT t ti hti).ksl _ _ hkd
  unfold execOp;rw [ho]
  simp [Instr.indexAt,hx,hi,asIntOf,Y5 hu,h0,h1,sizeOf,ZI hinf,hsz]
theorem Q6K {tt:TT} (hT:TOk P tt) {o:Oper} {t:TypeId} {x i:Operand} (ho:o.op = .indexAddr t x i) {g:Bool} {ev:Operand→AV} {hl:Nat→Option Ob} {k:Dl→Option R} {r:R}
    (h:Q33 tt g hl t (ev x) (ev i) k=some r):∃ dl,k dl=some r∧(g=true→Re P E o ev hl dl):=by
  have hmx:x∈o.op.operands.toList:=by simp [ho,Op.operands]
  have hmi:i∈o.op.operands.toList:=by simp [ho,Op.operands]
  unfold Q33 at h
  split at h
  case h_2=>cases h
  rename_i e esz ik n hk hei
  split at h
  · rename_i s rows hex
    cases hb:Nat.beq s esz with
    | false=>simp [hb] at h
    | true=>
      obtain rfl:=Nat.eq_of_beq_eq_true hb
      simp only [hb,cond_true] at h
      obtain ⟨row,h,hrow⟩:=Qc h
      refine ⟨_,h,fun hg=>QV fun β S st a w hR hO hA=>?_⟩
      obtain ⟨h0,h1,h2⟩:=Q2Y (hrow hg)
      have hi:=(hei▸hO.at hmi).int_inv
      rcases (hex▸hO.at hmx).d_inv.sl_inv with ⟨rfl,_⟩ | ⟨ad,cap,c,hx,hS,_,hsz,hc,hr⟩
      · simp at h2
      refine ⟨_,Q2f hT ho hk hx hi h0 h1,.el _ _ _ (fun j=>c n.toNat j) (by rw [Hj];exact hS) (fun j y hy=>?_) (fun j y hy=>?_)⟩
      · rw [Q5D];exact hc n.toNat j row y h2 (by simpa using hy)
      · exact hr n.toNat j row y h2 (by simpa using hy)
  · rename_i l hex
    split at h
    · rename_i e' s rows harr
      cases hb:Nat.beq s esz with
      | false=>simp [hb] at h
      | true=>
        obtain rfl:=Nat.eq_of_beq_eq_true hb
        simp only [hb,cond_true] at h
        obtain ⟨u,h,hin⟩:=Qc h
        refine ⟨_,h,fun hg=>QV fun β S st a w hR hO hA=>?_⟩
        obtain ⟨h0,h1⟩:=Qbn (hin hg)
        have hi:=(hei▸hO.at hmi).int_inv
        have hlk:look st.h l=some (.arr e' s rows):=by rw [hA l (.inl (by simp))];exact harr
        rcases RdA.arr_inv hlk (hex▸hO.at hmx) with ⟨_,rfl,_⟩ | ⟨b,cap,cs,ty,fz,hb',hx,_⟩
        · simp at h1;omega
        refine ⟨_,Q2f hT ho hk hx hi h0 h1,?_⟩
        rw [T8,Nat.zero_add]
        exact .ap l n.toNat 0 b e' s rows hb' hlk
    · cases h
  · obtain ⟨row,h,hrow⟩:=Qc h
    refine ⟨_,h,fun hg=>?_⟩
    obtain ⟨_,h1,_⟩:=Q2Y (hrow hg)
    simp at h1
    have:=(Q2Y (hrow hg)).1
    omega
  · cases h
theorem NR {tt:TT} (hT:TOk P tt) {o:Oper} {c:Call} {x:Operand} {t:Nat} {e esz:Nat} (ho:o.op = .call c) (hc:c.callee = .builtin .len) (ha:c.args.toList=[x]) (hat:c.argTypes.toList=[t]) (hk:BM tt t = .sl e esz)
    {a:Act} {w:World} {ad:Option Addr} {len cap:Nat} (hx:a.eval x = .slice ad len cap):(execOp a.eval o).run P w = .ok (.value (.int .i64 len)) w:=by
  obtain ⟨ti,hti,hkd⟩:=Z2 hk (by simp)
  obtain ⟨hu,_⟩:=(hT t ti hti).ksl _ _ hkd
  have ha':c.args = #[x]:=by rw [← Array.toList_inj];simpa using ha
  have hat':c.argTypes = #[t]:=by rw [← Array.toList_inj];simpa using hat
  unfold execOp;rw [ho]
  simp [resolve,hc,ha',hat',invoke,builtin,Builtin.len_,hx,Y5 hu,goInt]
theorem QaK {tt:TT} (hT:TOk P tt) {o:Oper} {c:Call} {x:Operand} {t:Nat} (ho:o.op = .call c) (hc:c.callee = .builtin .len) (ha:c.args.toList=[x]) (hat:c.argTypes.toList=[t]) (hk:BM tt t = .str)
    {a:Act} {w:World} {s:ByteArray} (hx:a.eval x = .string s):(execOp a.eval o).run P w = .ok (.value (.int .i64 s.size)) w:=by
  obtain ⟨ti,hti,hkd⟩:=Z2 hk (by simp)
  have hu:=(hT t ti hti).kstr hkd
  have ha':c.args = #[x]:=by rw [← Array.toList_inj];simpa using ha
  have hat':c.argTypes = #[t]:=by rw [← Array.toList_inj];simpa using hat
  unfold execOp;rw [ho]
  simp [resolve,hc,ha',hat',invoke,builtin,Builtin.len_,hx,Y5 hu,goInt]
end

section
variable {E:Env} {β β':Nat→Option Nat} {S S':Nat→Prop} {st:St} {a:Act} {w w':World}
theorem Qe6 {l t:Nat} {tm:List (Nat × AV)} {av:AV} (h:look tm t=some av) (hn:U2 l av=true):Q3D l tm=true:=by
  induction tm with
  | nil=>simp [look] at h
  | cons x r ih=>
    obtain ⟨k,b⟩:=x
    simp only [look] at h
    cases hk:Nat.beq k t with
    | true=>simp [hk] at h;subst h;simp [Q3D,hn]
    | false=>simp [hk] at h;simp [Q3D,ih h]
theorem QdE {l t:Nat} {hs:List (Nat × Ob)} {cells:List AV} (h:look hs t=some (.box cells)) (hn:KO l cells=true):Su l hs=true:=by
  induction hs with
  | nil=>simp [look] at h
  | cons x r ih=>
    obtain ⟨k,b⟩:=x
    simp only [look] at h
    cases hk:Nat.beq k t with
    | true=>simp [hk] at h;subst h;simp [Su,hn]
    | false=>simp [hk] at h;cases b <;> simp [Su,ih h]
theorem QbO {l t:Nat} {av:AV} (hc:Jo st l=true) (h:look st.tm t=some av):U2 l av=false:=by
  cases hn:U2 l av with
  | false=>rfl
  | true=>simp [Jo,Qe6 h hn] at hc
theorem Qd5 {l t i:Nat} {cells:List AV} {x:AV} (hc:Jo st l=true) (h:look st.h t=some (.box cells)) (hx:cells[i]? = some x):U2 l x=false:=by
  cases hn:U2 l x with
  | false=>rfl
  | true=>simp [Jo,QdE h (E0 hx hn)] at hc
theorem Keep.rfl_ (β:Nat→Option Nat) (h:Nat→Option Ob) (w:World) (l:Nat):Keep β h w β h w l:=
  ⟨rfl,fun x=>x,fun _ _ rows hh=>.inr ⟨rows,hh,rfl⟩,fun _ cs ty fz _ _ hw=>⟨cs,ty,fz,hw,rfl⟩⟩
theorem Rel.upd (hR:Rel E β S st a w) {H':List (Nat × Ob)} (hSS:∀ b,S b→S' b) (hSw:∀ b,S b→w'.heap[b]? = w.heap[b]?) (T:Nat→Prop)
    (hT:∀ l,¬ T l→β' l=β l∧look H' l=look st.h l∧∀ b,(look st.h l).isSome=true→β l=some b→w'.heap[b]? = w.heap[b]?)
    (hTk:∀ l,T l→Keep β (look st.h) w β' (look H') w' l∨Jo st l=true)
    (hTo:∀ l o,T l→look H' l=some o→ObR β' S' (look H') w' l o)
    (inj:∀ l l' b,(look H' l).isSome=true→(look H' l').isSome=true→β' l=some b→β' l'=some b→l=l')
    (apart:∀ l b,(look H' l).isSome=true→β' l=some b→¬ S' b)
    (own:∀ l b,(look H' l).isSome=true→β' l=some b→E.M b∨E.w0.heap.size≤b)
    (sb:∀ b,S' b→b<w'.heap.size) (sfr:∀ b,S' b→E.S0 b∨E.M b∨E.w0.heap.size≤b) (fr:Fr E.M E.w0 w') :
    Rel E β' S' ⟨st.n,st.tm,H'⟩ a w':=by
  have hkeep:∀ l,Keep β (look st.h) w β' (look H') w' l∨Jo st l=true:=by
    intro l
    by_cases hl:T l
    · exact hTk l hl
    · obtain ⟨h1,h2,h3⟩:=hT l hl
      exact .inl ⟨h1,fun h=>by rw [h2];exact h,fun e s rows h=>.inr ⟨rows,by rw [h2];exact h,rfl⟩,fun b cs ty fz hs hb hw=>⟨cs,ty,fz,by rw [h3 b (by rw [← h2];exact hs) hb];exact hw,rfl⟩⟩
  have hA:∀ (tm:Nat→Value) (v:Value) (av:AV),(∀ l,Jo st l=true→U2 l av=false)→RdA β S (look st.h) w tm v av→RdA β' S' (look H') w' tm v av:=by
    intro tm v av hc hv
    refine hv.mono hSS hSw (fun l hn=>?_) (fun _ _=>rfl)
    rcases hkeep l with h | h
    · exact h
    · rw [hc l h] at hn;cases hn
  refine ⟨hR.n,hR.dfr,fun t av ht=>hA _ _ _ (fun l hc=>QbO hc ht) (hR.tm t av ht),⟨?_,inj,apart,own,sb,sfr,fun b hb=>hSS b (hR.hr.s0 b hb),fr,fun l hp=>?_,fun l b hp hs hb cs ty fz hw=>?_⟩⟩
  rotate_left
  · refine Eq.trans ?_ (hR.hr.pin l hp)
    rcases hkeep l with h | h
    · exact h.b
    · simp only [Jo,Bool.and_eq_true] at h
      have:=Nat.le_of_ble_eq_true h.1
      omega
  · rcases hkeep l with h | h
    · have hs0:(look st.h l).isSome=true:=by
        cases hx:look st.h l with
        | some o=>rfl
        | none=>rw [h.none_ hx] at hs;cases hs
      rw [h.b] at hb
      obtain ⟨cs1,ty1,fz1,g1,g2⟩:=hR.hr.psz l b hp hs0 hb cs ty fz hw
      obtain ⟨cs2,ty2,fz2,g3,g4⟩:=h.cells b cs1 ty1 fz1 hs hb g1
      exact ⟨cs2,ty2,fz2,g3,g4.trans g2⟩
    · simp only [Jo,Bool.and_eq_true] at h
      have:=Nat.le_of_ble_eq_true h.1
      omega
  intro l o ho
  by_cases hl:T l
  · exact hTo l o hl ho
  · obtain ⟨h1,h2,h3⟩:=hT l hl
    rw [h2] at ho
    have hob:=hR.hr.ob l o ho
    cases o with
    | box cells=>
      obtain ⟨b,ty,cs,fz,hb,hw,hf,hsz,hr⟩:=hob
      exact ⟨b,ty,cs,fz,h1.trans hb,(h3 b (by simp [ho]) hb).trans hw,hf,hsz,fun i x hx=>hA _ _ _ (fun l' hc=>Qd5 hc ho hx) (hr i x hx)⟩
    | arr e s rows=>
      rcases hob with ⟨hb,hn⟩ | ⟨b,cs,hb,hw,hsz,hrl,hr⟩
      · exact .inl ⟨h1.trans hb,hn⟩
      · refine .inr ⟨b,cs,h1.trans hb,(h3 b (by simp [ho]) hb).trans hw,hsz,hrl,fun i j r x h4 h5=>?_⟩
        obtain ⟨v,hv,hr'⟩:=hr i j r x h4 h5
        exact ⟨v,hv,hr'.mono hSS hSw⟩
theorem NL (hR:Rel E β S st a w) {l b:Nat} (hs:(look st.h l).isSome=true) (hb:β l=some b):b<w.heap.size:=by
  cases ho:look st.h l with
  | none=>simp [ho] at hs
  | some o=>
    have hob:=hR.hr.ob l o ho
    have:∃ c,w.heap[b]? = some c:=by
      cases o with
      | box cells=>
        obtain ⟨b',ty,cs,fz,hb',hw,_⟩:=hob
        rw [hb] at hb';injection hb' with e;subst e
        exact ⟨_,hw⟩
      | arr e s rows=>
        rcases hob with ⟨hb',_⟩ | ⟨b',cs,hb',hw,_⟩
        · rw [hb] at hb';cases hb'
        · rw [hb] at hb';injection hb' with e;subst e
          exact ⟨_,hw⟩
    obtain ⟨c,hc⟩:=this
    rcases Nat.lt_or_ge b w.heap.size with h | h
    · exact h
    · rw [Array.getElem?_eq_none h] at hc;cases hc
theorem Zn (w:World) (o:Obj) {b:Nat} (h:b<w.heap.size):(w.alloc o).heap[b]? = w.heap[b]?:=by
  show (w.heap.push o)[b]? = _
  rw [Array.getElem?_push,if_neg (by omega)]
theorem PW (w:World) (o:Obj):(w.alloc o).heap[w.heap.size]? = some o:=by
  show (w.heap.push o)[w.heap.size]? = _
  simp
theorem QbT {M:Nat→Prop} {w0 w:World} (h:Fr M w0 w) (o:Obj):Fr M w0 (w.alloc o):=
  h.trans ⟨rfl,rfl,rfl,by show w.heap.size≤(w.heap.push o).size;simp,fun b hb _=>Zn w o hb⟩
def Cp (β:Nat→Option Nat) (l:Nat) (b:Option Nat):Nat→Option Nat:=fun k=>if k=l then b else β k
theorem Rel.new (hR:Rel E β S st a w) {l:Nat} {o:Ob} {obj:Obj} (hn:look st.h l=none) (hc:Jo st l=true)
    (hTo:ObR (Cp β l (some w.heap.size)) S (look ((l,o)::rem l st.h)) (w.alloc obj) l o) :
    Rel E (Cp β l (some w.heap.size)) S ⟨st.n,st.tm,(l,o)::rem l st.h⟩ a (w.alloc obj):=by
  have hlk:∀ k,look ((l,o)::rem l st.h) k=if k=l then some o else look st.h k:=fun k=>Jz l k o st.h
  refine hR.upd (fun _ h=>h) (fun b hb=>Zn w obj (hR.hr.sb b hb)) (fun k=>k=l) (fun k hk=>?_) (fun k hk=>.inr (hk▸hc)) (fun k o' hk ho=>?_) ?_ ?_ ?_ ?_ hR.hr.sfr (QbT hR.hr.fr obj)
  · exact ⟨by simp [Cp,hk],by rw [hlk,if_neg hk],fun b hs hb=>Zn w obj (NL hR hs hb)⟩
  · subst hk
    rw [hlk,if_pos rfl] at ho
    injection ho with ho
    subst ho
    exact hTo
  · intro k k' b h1 h2 h3 h4
    rw [hlk] at h1 h2
    unfold Cp at h3 h4
    by_cases e:k=l <;> by_cases e':k'=l
    · rw [e,e']
    · exfalso
      rw [if_pos e] at h3
      rw [if_neg e'] at h4 h2
      injection h3 with h3
      have:=NL hR h2 h4
      omega
    · exfalso
      rw [if_pos e'] at h4
      rw [if_neg e] at h3 h1
      injection h4 with h4
      have:=NL hR h1 h3
      omega
    · rw [if_neg e] at h3 h1
      rw [if_neg e'] at h4 h2
      exact hR.hr.inj k k' b h1 h2 h3 h4
  · intro k b h1 h2 hS
    rw [hlk] at h1
    unfold Cp at h2
    by_cases e:k=l
    · rw [if_pos e] at h2
      injection h2 with h2
      have:=hR.hr.sb b hS
      omega
    · rw [if_neg e] at h2 h1
      exact hR.hr.apart k b h1 h2 hS
  · intro k b h1 h2
    rw [hlk] at h1
    unfold Cp at h2
    by_cases e:k=l
    · rw [if_pos e] at h2
      injection h2 with h2
      right
      have:=hR.hr.fr.size
      omega
    · rw [if_neg e] at h2 h1
      exact hR.hr.own k b h1 h2
  · intro b hb
    have:=hR.hr.sb b hb
    show b<(w.heap.push obj).size
    simp
    omega
theorem Rel.set (hR:Rel E β S st a w) {l b:Nat} {o o':Ob} (ho:look st.h l=some o) (hb:β l=some b)
    (hblk:∀ k,k≠b→w'.heap[k]? = w.heap[k]?) (hos:w'.os=w.os) (htape:w'.tape=w.tape) (hout:w'.output=w.output) (hsz:w'.heap.size=w.heap.size)
    (hk:Keep β (look st.h) w β (look ((l,o')::rem l st.h)) w' l) (hTo:ObR β S (look ((l,o')::rem l st.h)) w' l o') :
    Rel E β S ⟨st.n,st.tm,(l,o')::rem l st.h⟩ a w':=by
  have hlk:∀ k,look ((l,o')::rem l st.h) k=if k=l then some o' else look st.h k:=fun k=>Jz l k o' st.h
  have hls:(look st.h l).isSome=true:=by simp [ho]
  have hsome:∀ k,(look ((l,o')::rem l st.h) k).isSome=true→(look st.h k).isSome=true:=by
    intro k hk'
    rw [hlk] at hk'
    by_cases e:k=l
    · rw [e];exact hls
    · rwa [if_neg e] at hk'
  refine hR.upd (fun _ h=>h) (fun k hS=>hblk k (fun e=>?_)) (fun k=>k=l) (fun k hk=>?_) (fun k hk'=>.inl (hk'▸hk)) (fun k o'' hk' ho''=>?_) ?_ ?_ ?_ ?_ hR.hr.sfr ?_
  · subst e;exact hR.hr.apart l _ hls hb hS
  · refine ⟨rfl,by rw [hlk,if_neg hk],fun k' hs hb'=>hblk k' (fun e=>?_)⟩
    subst e
    exact hk (hR.hr.inj k l _ hs hls hb' hb)
  · subst hk'
    rw [hlk,if_pos rfl] at ho''
    injection ho'' with ho''
    subst ho''
    exact hTo
  · exact fun k k' b' h1 h2 h3 h4=>hR.hr.inj k k' b' (hsome k h1) (hsome k' h2) h3 h4
  · exact fun k b' h1 h2=>hR.hr.apart k b' (hsome k h1) h2
  · exact fun k b' h1 h2=>hR.hr.own k b' (hsome k h1) h2
  · intro k hS;rw [hsz];exact hR.hr.sb k hS
  · have fr:=hR.hr.fr
    refine ⟨hos.trans fr.os,htape.trans fr.tape,hout.trans fr.output,by rw [hsz];exact fr.size,fun k hk' hM=>(hblk k (fun e=>?_)).trans (fr.block k hk' hM)⟩
    subst e
    rcases hR.hr.own l _ hls hb with h | h
    · exact hM h
    · omega
end

section
variable {P:Program} {E:Env} {R:Type}
theorem Q5N {β:Nat→Option Nat} {S:Nat→Prop} {h:Nat→Option Ob} {w:World} {tm:Nat→Value} (v:Value):RdA β S h w tm v (F0 v):=by
  unfold F0
  split
  · exact .d _ _ (.int _ _)
  · exact .d _ _ (.bool _)
  · exact .d _ _ (.str _)
  · exact .nil
  · exact .top _
theorem QdK {β:Nat→Option Nat} {S:Nat→Prop} {h:Nat→Option Ob} {w:World} {tm:Nat→Value} {v:Value} {av:AV} (hv:RdA β S h w tm v av) (ho:Q76 av=true):v.oneCell'=true:=by
  cases hv <;> simp [Q76] at ho <;> try rfl
  · rename_i hx;cases hx <;> rfl
  · assumption
theorem Q3U {av:AV} (ho:Q76 av=true):Q5a av=true:=by
  cases av with
  | fn f l=>simpa [Q76,Q5a] using ho
  | _=>simp [Q76] at ho <;> rfl
theorem QdP {v:Value} (h:v.oneCell'=true):v.cells = #[v]:=by cases v <;> simp [Value.oneCell'] at h <;> rfl
theorem RdA.to_tm0 {β:Nat→Option Nat} {S:Nat→Prop} {h:Nat→Option Ob} {w:World} {tm:Nat→Value} {v:Value} {av:AV} (hg:Q5a av=true) (hv:RdA β S h w tm v av):RdA β S h w tm0 v av:=by
  refine RdA.mono hv (fun _ hb=>hb) (fun _ _=>rfl) (fun l _=>Keep.rfl_ ..) (fun t ht=>?_)
  rw [Er hg t] at ht
  cases ht
theorem Ag {β:Nat→Option Nat} {S:Nat→Prop} {h:Nat→Option Ob} {w:World} {tm:Nat→Value} {v:Value} {av:AV} (hv:RdA β S h w tm v av) (ho:(YH av).all Q76=true) :
    v.cells.size=(YH av).length∧(∀ (i:Nat) (x:AV),(YH av)[i]? = some x→RdA β S h w tm (v.cells.getD i undef) x)∧∀ u∈v.cells.toList,u.oneCell'=true:=by
  cases av with
  | ag l=>
    obtain ⟨cs,rfl,hsz,hr⟩:=hv.ag_inv
    refine ⟨hsz,hr,fun u hu=>?_⟩
    obtain ⟨i,hi,rfl⟩:=List.getElem_of_mem hu
    have hi':i<cs.size:=by simpa [Value.cells] using hi
    have h1:l[i]? = some (l[i]'(by omega)):=List.getElem?_eq_getElem (by omega)
    have h2:=hr i _ h1
    have h3:Q76 (l[i]'(by omega))=true:=by
      simp only [YH,List.all_eq_true] at ho
      exact ho _ (List.getElem_mem _)
    have h4:=QdK h2 h3
    have h5:cs.getD i undef=cs[i]:=by simp [Array.getD,hi']
    rw [h5] at h4
    simpa [Value.cells] using h4
  | fs s rows=>
    obtain ⟨ad,rfl,hr⟩:=hv.fs_inv
    refine ⟨rfl,fun i x hx=>?_,fun u hu=>?_⟩
    · cases i with
      | zero=>simp [YH] at hx;subst hx;exact .d _ _ hr
      | succ i=>simp [YH] at hx
    · simp [Value.cells] at hu;subst hu;rfl
  | _=>
    all_goals
      simp only [YH,List.all_cons,List.all_nil,Bool.and_true] at ho
      first
        | (have h1:=QdK hv ho
           rw [QdP h1]
           refine ⟨rfl,fun i x hx=>?_,fun u hu=>?_⟩
           · cases i with
             | zero=>simp [YH] at hx;subst hx;simpa [Array.getD] using hv
             | succ i=>simp [YH] at hx
           · simp at hu;subst hu;exact h1)
        | (simp [Q76] at ho)
theorem T9 {hl:Nat→Option Ob} {site:Nat} {o:Ob} {v:AV} {wr:List (Nat × Option Ob)} {rd:List Nat} {k:Dl→Option R} {r:R} (h:Q7b hl site o v wr rd k=some r) :
    hl site=none∧k ⟨v,wr++[(site,some o)],rd⟩=some r:=by
  unfold Q7b at h
  split at h
  · exact ⟨by assumption,h⟩
  · cases h
theorem Qgo (n:Nat):Qiw n (0,0):=fun _ _ h=>by omega
theorem Q60 {o:Oper} {ev:Operand→AV} {hl:Nat→Option Ob} {site:Nat} {cells:List AV} {ty:TypeId} (hn:hl site=none) (hty:Qcz ty cells)
    (h:∀ β S st a w,Rel E β S st a w→Q4D β S st a w o ev→∃ cs:Array Value,(execOp a.eval o).run P w = .ok (.value (.pointer (some ⟨w.heap.size,0,none⟩))) (w.alloc (.cells cs ty))∧cs.size=cells.length ∧
      ∀ (i:Nat) (x:AV),cells[i]? = some x→Q5a x=true∧((RdA β S (look st.h) w (tmv a) (cs.getD i undef) x∧(Jo st site=true→U2 site x=false))∨∃ t,x = .sa site t∧cs.getD i undef = .pointer none)) :
    Re P E o ev hl ⟨.ptr site 0,[]++[(site,some (.box cells))],[]⟩:=by
  intro β S st a w hR hO hA hcl K Q hK
  obtain ⟨cs,hrun,hsz,hcs⟩:=h β S st a w hR hO
  have hlk:look st.h site=none:=by rw [hA site (.inr (by simp [wrL]))];exact hn
  have hc:Jo st site=true:=by simpa [VJ,hlk] using hcl
  unfold Oper.wp
  rw [hrun]
  refine hK _ _ ⟨Cp β site (some w.heap.size),S,?_,?_⟩
  · refine hR.new hlk hc ⟨w.heap.size,ty,cs,(0,0),by simp [Cp],PW _ _,⟨Qgo _,hty⟩,hsz,fun i x hx=>?_⟩
    obtain ⟨h1,h23⟩:=hcs i x hx
    rcases h23 with ⟨h2,h3⟩ | ⟨t,rfl,hp⟩
    case inr=>exact .sa _ _ _ w.heap.size (by simp [Cp]) (.inl hp)
    refine (h2.to_tm0 h1).mono (fun _ hb=>hb) (fun b hb=>Zn _ _ (hR.hr.sb b hb)) (fun l hl'=>?_) (fun _ _=>rfl)
    have hne:l≠site:=fun e=>by subst e;rw [h3 hc] at hl';cases hl'
    exact ⟨by simp [Cp,hne],fun h=>by rw [Jz,if_neg hne];exact h,fun e s rows h=>.inr ⟨rows,by rw [Jz,if_neg hne];exact h,rfl⟩,
      fun b cs' ty' fz hs hb hw=>⟨cs',ty',fz,by rw [Zn _ _ (NL hR (by rw [Jz,if_neg hne] at hs;exact hs) hb)];exact hw,rfl⟩⟩
  · exact .ptr _ _ _ (by simp [Cp])
theorem Q5l (l:Nat) (v:Value):U2 l (F0 v)=false:=by
  unfold F0;split <;> rfl
theorem QcG (v:Value):Q5a (F0 v)=true:=by
  unfold F0;split <;> rfl
theorem Qcb {tt:TT} (hT:TOk P tt) {o:Oper} {t:TypeId} (ho:o.op = .alloc t) {ev:Operand→AV} {hl:Nat→Option Ob} {site:Nat} {ti:TyI} (hti:look tt t=some ti) (hn:hl site=none) :
    Re P E o ev hl ⟨.ptr site 0,[]++[(site,some (.box (Q7Q site t ti)))],[]⟩:=by
  obtain ⟨inf,hinf,_,_,z,hz,hzc⟩:=(hT t ti hti).inf
  have hst:Qcz t (Q7Q site t ti):=by
    intro i l t' hi
    simp only [Q7Q,List.getElem?_map,Option.map_eq_some_iff] at hi
    obtain ⟨v,_,hv⟩:=hi
    unfold QaH at hv
    split at hv
    · injection hv
    · unfold F0 at hv
      split at hv <;> cases hv
  refine Q60 (ty:=t) hn hst fun β S st a w hR hO=>⟨z.cells,?_,?_,fun i x hx=>?_⟩
  · unfold execOp;rw [ho]
    simp [Instr.alloc,zeroValue,ZI hinf,hz,newVar,newRow]
  · rw [← Array.length_toList,hzc];simp [Q7Q]
  · simp only [Q7Q,List.getElem?_map,Option.map_eq_some_iff] at hx
    obtain ⟨v,hv,rfl⟩:=hx
    have:z.cells.getD i undef=v:=by
      rw [← hzc] at hv
      obtain ⟨hi,he⟩:=List.getElem?_eq_some_iff.1 hv
      have hi':i<z.cells.size:=by simpa using hi
      simp only [Array.getD,hi',dite_true]
      simpa using he
    rw [this]
    unfold QaH
    split
    · exact ⟨rfl,.inr ⟨t,rfl,rfl⟩⟩
    · exact ⟨QcG v,.inl ⟨Q5N v,fun _=>Q5l site v⟩⟩
theorem Q8d {st:St} {site:Nat} (hc:Jo st site=true) (x:Operand):U2 site (evO st.tm x)=false:=by
  cases x with
  | tmp t=>
    simp only [evO,lkT]
    cases h:look st.tm t with
    | none=>rfl
    | some av=>exact QbO hc h
  | const v=>exact Q5l site v
  | _=>rfl
theorem Q9g {l i:Nat} {r:List AV} {x:AV} (h:r[i]? = some x) (hn:KO l r=false):U2 l x=false:=by
  cases hx:U2 l x with
  | false=>rfl
  | true=>rw [E0 h hx] at hn;cases hn
theorem Q7d {l:Nat} {av:AV} (h:U2 l av=false):KO l (YH av)=false:=by
  cases av <;> simp_all [YH,KO,U2]
theorem QeO {o:Oper} {t:TypeId} {x:Operand} (ho:o.op = .box t x) {ev:Operand→AV} {hl:Nat→Option Ob} {site:Nat} (hone:(YH (ev x)).all Q76=true) (hn:hl site=none) :
    Re P E o ev hl ⟨.ptr site 0,[]++[(site,some (.box (YH (ev x))))],[]⟩:=by
  have hmem:x∈o.op.operands.toList:=by simp [ho,Op.operands]
  have hst:Qcz t (YH (ev x)):=by
    intro i l t' hi
    rw [List.all_eq_true] at hone
    have:=hone _ (List.mem_of_getElem? hi)
    simp [Q76] at this
  refine Q60 (ty:=t) hn hst fun β S st a w hR hO=>?_
  obtain ⟨h1,h2,_⟩:=Ag (hO.at hmem) hone
  refine ⟨(a.eval x).cells,?_,h1,fun i y hy=>⟨?_,.inl ⟨h2 i y hy,fun hc=>Q9g hy (Q7d (hO.nm hmem hc))⟩⟩⟩
  · unfold execOp;rw [ho]
    simp [Instr.box,newVar,newRow]
  · rw [List.all_eq_true] at hone
    exact Q3U (hone y (List.mem_of_getElem? hy))
structure Wrote (b:Nat) (cs:Array Value) (ty:TypeId) (fz:Nat × Nat) (w w':World):Prop where
  blk:w'.heap[b]? = some (.cells cs ty fz)
  oth:∀ k,k≠b→w'.heap[k]? = w.heap[k]?
  os:w'.os=w.os
  tape:w'.tape=w.tape
  output:w'.output=w.output
  size:w'.heap.size=w.heap.size
theorem Qda {w:World} {b o:Nat} {cs:Array Value} {ty:TypeId} {fz:Nat × Nat} (h:w.heap[b]? = some (.cells cs ty fz)) (v:Value):Wrote b (cs.setIfInBounds o v) ty fz w (w.setCell ⟨b,o,none⟩ v):=by
  refine ⟨?_,fun k hk=>?_,rfl,rfl,rfl,by simp [World.setCell]⟩
  · simp [World.setCell,Array.getElem?_modify,h]
  · simp only [World.setCell,Array.getElem?_modify]
    rw [if_neg (by omega)]
theorem Wrote.trans {b:Nat} {cs cs':Array Value} {ty:TypeId} {fz:Nat × Nat} {w w' w'':World} (h:Wrote b cs ty fz w w') (h':Wrote b cs' ty fz w' w''):Wrote b cs' ty fz w w'':=
  ⟨h'.blk,fun k hk=>(h'.oth k hk).trans (h.oth k hk),h'.os.trans h.os,h'.tape.trans h.tape,h'.output.trans h.output,h'.size.trans h.size⟩
def ND (cs:Array Value):Nat→List Value→Array Value
  | _,[]=>cs
  | o,v::r=>ND (cs.setIfInBounds o v) (o+1) r
theorem Vu:∀ (vs:List Value) (cs:Array Value) (o:Nat),(ND cs o vs).size=cs.size
  | [],_,_=>rfl
  | v::r,cs,o=>by simp [ND,Vu r]
theorem FN:∀ (vs:List Value) (cs:Array Value) (o j:Nat),o+vs.length≤cs.size→(ND cs o vs)[j]? = if o≤j∧j<o+vs.length then vs[j-o]? else cs[j]?
  | [],cs,o,j,_=>by simp [ND];intro h1 h2;omega
  | v::r,cs,o,j,h=>by
    simp only [List.length_cons] at h
    rw [ND,FN r _ (o+1) j (by simp;omega)]
    simp only [List.length_cons]
    by_cases h1:o+1≤j∧j<o+1+r.length
    · rw [if_pos h1,if_pos (by omega)]
      rw [show j-o=(j-(o+1))+1 from by omega]
      simp
    · rw [if_neg h1]
      by_cases h2:j=o
      · subst h2
        rw [if_pos (by omega)]
        simp [Array.getElem?_setIfInBounds]
        omega
      · rw [if_neg (by omega)]
        rw [Array.getElem?_setIfInBounds,if_neg (by omega)]
theorem Tw (b o:Nat) (ty:TypeId) (fz:Nat × Nat):∀ (vs:List Value) (i:Nat) (cs:Array Value) (w:World),w.heap[b]? = some (.cells cs ty fz)→Qiw cs.size fz→o+i+vs.length≤cs.size→(∀ v∈vs,v.oneCell'=true) →
    ∃ w',(storeCells ⟨b,o,none⟩ vs i).run P w = .ok () w'∧Wrote b (ND cs (o+i) vs) ty fz w w'
  | [],i,cs,w,h,_,_,_=>⟨w,by simp [storeCells],⟨h,fun _ _=>rfl,rfl,rfl,rfl,rfl⟩⟩
  | v::r,i,cs,w,h,hf,hsz,h1=>by
    simp only [List.length_cons] at hsz
    have hlt:o+i<cs.size:=by omega
    have hcell:w.cell? ⟨b,o+i,none⟩=some (cs.getD (o+i) undef):=by rw [KJ h];exact JO hlt
    have hfz:w.frozen? ⟨b,o+i,none⟩=false:=by
      have:=hf (o+i) hlt
      simp only [World.frozen?,h]
      simp
      intro h2
      omega
    have hst:=run_store P w ⟨b,o+i,none⟩ v .plain (h1 v (by simp))
    rw [hcell] at hst
    simp only [hfz,Bool.false_eq_true,if_false] at hst
    have hw:=Qda (o:=o+i) h v
    obtain ⟨w',hrun,hw'⟩:=Tw b o ty fz r (i+1) (cs.setIfInBounds (o+i) v) (w.setCell ⟨b,o+i,none⟩ v) hw.blk (by simpa using hf) (by simp;omega) (fun u hu=>h1 u (by simp [hu]))
    refine ⟨w',?_,hw.trans hw'⟩
    simp only [storeCells,Sem.run_bind,T8,hst,Result.andThen_ok,hrun]
theorem Df:∀ {vs cells cs:List AV} {off:Nat},Ab cells off vs=some cs→cs.length=cells.length∧vs.all Q76=true∧(vs≠[]→off+vs.length≤cells.length) ∧
    ∀ j:Nat,cs[j]? = if off≤j∧j<off+vs.length then vs[j-off]? else cells[j]?
  | [],cells,cs,off,h=>by
    simp [Ab] at h
    subst h
    refine ⟨rfl,rfl,fun h=>absurd rfl h,fun j=>?_⟩
    rw [if_neg (by simp)]
  | v::r,cells,cs,off,h=>by
    unfold Ab at h
    cases hc:(Q76 v&&Nat.ble (off+1) cells.length) with
    | false=>simp [hc] at h
    | true=>
      simp only [hc,cond_true] at h
      simp only [Bool.and_eq_true] at hc
      have hle:=Nat.le_of_ble_eq_true hc.2
      obtain ⟨h1,h2,h3,h4⟩:=Df h
      simp only [List.length_set] at h1 h3
      refine ⟨h1,by simp [hc.1,h2],fun _=>?_,fun j=>?_⟩
      · by_cases hr:r=[]
        · subst hr;simp;omega
        · have:=h3 hr;simp;omega
      · rw [h4 j]
        simp only [List.length_cons]
        by_cases e1:off+1≤j∧j<off+1+r.length
        · rw [if_pos e1,if_pos (by omega),show j-off=(j-(off+1))+1 from by omega]
          simp
        · rw [if_neg e1]
          by_cases e2:j=off
          · subst e2
            rw [if_pos (by omega),List.getElem?_set_self (by omega)]
            simp
          · rw [if_neg (by omega),List.getElem?_set_ne (by omega)]
end

section
variable {P:Program} {E:Env} {R:Type}
theorem Q59 {cs cs':Array Value} {i j:Nat} (h:cs[i]? = cs'[j]?):cs.getD i undef=cs'.getD j undef:=by
  by_cases hi:i<cs.size <;> by_cases hj:j<cs'.size
  · rw [JO hi,JO hj] at h;injection h
  · rw [JO hi,Array.getElem?_eq_none (by omega)] at h;cases h
  · rw [JO hj,Array.getElem?_eq_none (by omega)] at h;cases h
  · simp [Array.getD,hi,hj]
theorem BU {t:Nat} {ti:TyI} (ht:TyOk P t ti) {w w':World} {ad:Addr} {v:Value} (hs:v.cells.size=ti.size) (h:(storeCells ad v.cells.toList).run P w = .ok () w'):(storeVar t ad v).run P w = .ok () w':=by
  simp only [storeVar,Sem.run_bind,ht.size,Result.andThen_ok]
  rw [if_neg (by omega)]
  simp [h]
theorem BI {o:Oper} {t:TypeId} {x y:Operand} (ho:o.op = .store t x y) {a:Act} {w w':World} {ad:Addr} (hx:a.eval x = .pointer (some ad)) (hv:(storeVar t ad (a.eval y)).run P w = .ok () w') :
    (execOp a.eval o).run P w = .ok .skip w':=by
  unfold execOp
  rw [ho]
  simp [Instr.storeAt,Instr.sureAddr,hx,hv]
theorem Q6F:∀ {l:List AV} {ds:List D},QfX l=some ds→l=ds.map .d
  | [],ds,h=>by simp [QfX] at h;subst h;rfl
  | a::r,ds,h=>by
    cases a with
    | d x=>
      simp only [QfX] at h
      split at h
      · rename_i l' hl'
        cases h
        rw [Q6F hl'];rfl
      · cases h
    | _=>simp [QfX] at h
theorem Qc5:∀ (ds:List D) (row:List D) (off j:Nat),off+ds.length≤row.length→(Qfy row off ds)[j]? = if off≤j∧j<off+ds.length then ds[j-off]? else row[j]?
  | [],row,off,j,_=>by simp [Qfy];intro h1 h2;omega
  | v::r,row,off,j,h=>by
    simp only [List.length_cons] at h
    rw [Qfy,Qc5 r _ (off+1) j (by simp;omega)]
    simp only [List.length_cons]
    by_cases h1:off+1≤j∧j<off+1+r.length
    · rw [if_pos h1,if_pos (by omega),show j-off=(j-(off+1))+1 from by omega]
      simp
    · rw [if_neg h1]
      by_cases h2:j=off
      · subst h2
        rw [if_pos (by omega),List.getElem?_set_self (by omega)]
        simp
      · rw [if_neg (by omega),List.getElem?_set_ne (by omega)]
theorem Q6A:∀ (ds:List D) (row:List D) (off:Nat),(Qfy row off ds).length=row.length
  | [],_,_=>rfl
  | v::r,row,off=>by simp [Qfy,Q6A r]
theorem Q3J (ds:List D):(ds.map AV.d).all Q76=true:=by
  induction ds with
  | nil=>rfl
  | cons x r ih=>simp [Q76]
theorem QcK {tt:TT} (hT:TOk P tt) {o:Oper} {t:TypeId} {x y:Operand} (ho:o.op = .store t x y) {ev:Operand→AV} {hl:Nat→Option Ob} {k:Dl→Option R} {r:R}
    (h:Qdt tt hl t (ev x) (ev y) k=some r):∃ dl,k dl=some r∧Re P E o ev hl dl:=by
  have hmx:x∈o.op.operands.toList:=by simp [ho,Op.operands]
  have hmy:y∈o.op.operands.toList:=by simp [ho,Op.operands]
  unfold Qdt at h
  split at h
  case h_2=>cases h
  rename_i ti hti
  have hty:=hT t ti hti
  cases hlen:Nat.beq (YH (ev y)).length ti.size with
  | false=>simp [hlen] at h
  | true=>
    simp only [hlen,cond_true] at h
    have hlen':=Nat.eq_of_beq_eq_true hlen
    split at h
    · -- a box
      rename_i l off hev
      split at h
      · rename_i cells hcells
        split at h
        · rename_i cs hcs
          refine ⟨_,h,?_⟩
          intro β S st a w hR hO hA hcl K Q hK
          obtain ⟨h1,h2,h3,h4⟩:=Df hcs
          obtain ⟨b,hb,hx⟩:=(hev▸hO.at hmx).ptr_inv
          have hlk:look st.h l=some (.box cells):=by rw [hA l (.inl (by simp))];exact hcells
          obtain ⟨b',ty,vs,fz,hb',hw,⟨hf,hst⟩,hsz,hrd⟩:=hR.hr.ob l _ hlk
          obtain rfl:b=b':=by rw [hb] at hb';injection hb'
          obtain ⟨c1,c2,c3⟩:=Ag (hO.at hmy) h2
          have hle:off+(a.eval y).cells.toList.length≤vs.size∨(a.eval y).cells.toList.length=0:=by
            by_cases hne:YH (ev y)=[]
            · right;simp [c1,hne]
            · left;have:=h3 hne;simp [c1];omega
          have hle':off+0+(a.eval y).cells.toList.length≤vs.size∨(a.eval y).cells.toList=[]:=by
            rcases hle with h | h
            · left;simpa using h
            · right;exact List.eq_nil_of_length_eq_zero h
          obtain ⟨w',hrun,hwr⟩:∃ w',(storeCells ⟨b,off,none⟩ (a.eval y).cells.toList 0).run P w = .ok () w'∧Wrote b (ND vs off (a.eval y).cells.toList) ty fz w w':=by
            rcases hle' with h | h
            · exact Tw b off ty fz _ 0 vs w hw hf h c3
            · rw [h];exact ⟨w,by simp [storeCells],⟨hw,fun _ _=>rfl,rfl,rfl,rfl,rfl⟩⟩
          have hst':Qcz ty cs:=by
            intro i l' t' hi
            rw [h4 i] at hi
            split at hi
            · rw [List.all_eq_true] at h2
              have:=h2 _ (List.mem_of_getElem? hi)
              simp [Q76] at this
            · exact hst i l' t' hi
          have hget:∀ j,(ND vs off (a.eval y).cells.toList)[j]? = if off≤j∧j<off+(YH (ev y)).length then (a.eval y).cells[j-off]? else vs[j]?:=by
            intro j
            rcases hle with h | h
            · rw [FN _ _ _ _ h]
              simp [c1]
            · have hn:(a.eval y).cells.toList=[]:=List.eq_nil_of_length_eq_zero h
              rw [hn,if_neg (by rw [← c1,← Array.length_toList,hn];simp)]
              rfl
          unfold Oper.wp
          rw [BI ho hx (BU hty (by rw [c1];exact hlen') hrun)]
          refine hK undef _ ⟨β,S,?_,.top _⟩
          have hlk':∀ k',look ((l,Ob.box cs)::rem l st.h) k'=if k'=l then some (.box cs) else look st.h k':=fun k'=>Jz l k' _ st.h
          have hkeepl:Keep β (look st.h) w β (look ((l,.box cs)::rem l st.h)) w' l:=by
            refine ⟨rfl,fun h=>?_,fun e s rows h=>?_,fun b2 cs2 ty2 fz2 _ hb2 hw2=>?_⟩
            · rw [hlk] at h;cases h
            · rw [hlk] at h;cases h
            · rw [hb] at hb2;injection hb2 with e;subst e
              rw [hw] at hw2;injection hw2 with e;injection e with e1 e2 e3;subst e1
              exact ⟨_,_,_,hwr.blk,Vu _ _ _⟩
          have hkeep:∀ l',Keep β (look st.h) w β (look ((l,.box cs)::rem l st.h)) w' l':=by
            intro l'
            by_cases e:l'=l
            · subst e;exact hkeepl
            · exact ⟨rfl,fun h=>by rw [hlk',if_neg e];exact h,fun e' s rows h=>.inr ⟨rows,by rw [hlk',if_neg e];exact h,rfl⟩,
                fun b2 cs2 ty2 fz2 hs2 hb2 hw2=>⟨cs2,ty2,fz2,by rw [hwr.oth b2 (fun e2=>by subst e2;rw [hlk',if_neg e] at hs2;exact e (hR.hr.inj l' l _ hs2 (by simp [hlk]) hb2 hb))];exact hw2,rfl⟩⟩
          refine hR.set hlk hb hwr.oth hwr.os hwr.tape hwr.output hwr.size hkeepl ⟨b,ty,_,fz,hb,hwr.blk,⟨by rw [Vu];exact hf,hst'⟩,by rw [Vu,hsz,h1],fun i z hz=>?_⟩
          rw [h4 i] at hz
          by_cases e:off≤i∧i<off+(YH (ev y)).length
          · rw [if_pos e] at hz
            have hge:(ND vs off (a.eval y).cells.toList).getD i undef=(a.eval y).cells.getD (i-off) undef:=Q59 (by rw [hget i,if_pos e])
            rw [hge]
            have hn:Q5a z=true:=Q3U (by rw [List.all_eq_true] at h2;exact h2 z (List.mem_of_getElem? hz))
            exact ((c2 (i-off) z hz).to_tm0 hn).mono (fun _ h=>h) (fun k' hS=>hwr.oth k' (fun e2=>by subst e2;exact hR.hr.apart l _ (by simp [hlk]) hb hS)) (fun l' _=>hkeep l') (fun _ _=>rfl)
          · rw [if_neg e] at hz
            have hge:(ND vs off (a.eval y).cells.toList).getD i undef=vs.getD i undef:=Q59 (by rw [hget i,if_neg e])
            rw [hge]
            exact (hrd i z hz).mono (fun _ h=>h) (fun k' hS=>hwr.oth k' (fun e2=>by subst e2;exact hR.hr.apart l _ (by simp [hlk]) hb hS)) (fun l' _=>hkeep l') (fun _ _=>rfl)
        · cases h
      · cases h
    · -- an array of the call's own
      rename_i l i off hev
      split at h
      · rename_i e s rows harr
        split at h
        · rename_i ds hds
          obtain ⟨row,h,hrow⟩:=Qc h
          have hrow':=hrow rfl
          cases hble:Nat.ble (off+ds.length) s with
          | false=>simp [hble] at h
          | true=>
            simp only [hble,cond_true] at h
            have hle:=Nat.le_of_ble_eq_true hble
            refine ⟨_,h,?_⟩
            intro β S st a w hR hO hA hcl K Q hK
            have hav:=Q6F hds
            have hlk:look st.h l=some (.arr e s rows):=by rw [hA l (.inl (by simp))];exact harr
            obtain ⟨b,hb,hx⟩:=RdA.ap_inv hlk (hev▸hO.at hmx)
            rcases hR.hr.ob l _ hlk with ⟨_,hn⟩ | ⟨b',vs,hb',hw,hsz,hrl,hrd⟩
            · subst hn;simp at hrow'
            obtain rfl:b=b':=by rw [hb] at hb';injection hb'
            obtain ⟨c1,c2,c3⟩:=Ag (hO.at hmy) (by rw [hav];exact Q3J ds)
            have hdl:(a.eval y).cells.size=ds.length:=by rw [c1,hav];simp
            have hi:i<rows.length:=(List.getElem?_eq_some_iff.1 hrow').1
            have hrs:row.length=s:=hrl i row hrow'
            have hmul:(i+1)*s≤rows.length*s:=Nat.mul_le_mul_right s hi
            have hsucc:(i+1)*s=i*s+s:=Nat.succ_mul i s
            have hfit:i*s+off+(a.eval y).cells.toList.length≤vs.size:=by simp [hdl];omega
            obtain ⟨w',hrun,hwr⟩:=Tw (P:=P) b (i*s+off) e (0,0) (a.eval y).cells.toList 0 vs w hw (Qgo _) (by simpa using hfit) c3
            simp only [Nat.add_zero] at hwr
            have hget:∀ j,(ND vs (i*s+off) (a.eval y).cells.toList)[j]? = if i*s+off≤j∧j<i*s+off+ds.length then (a.eval y).cells[j-(i*s+off)]? else vs[j]?:=by
              intro j
              rw [FN _ _ _ _ hfit]
              simp [hdl]
            unfold Oper.wp
            rw [BI ho hx (BU hty (by rw [c1];exact hlen') hrun)]
            refine hK undef _ ⟨β,S,?_,.top _⟩
            have hSw:∀ k',S k'→w'.heap[k']? = w.heap[k']?:=fun k' hS=>hwr.oth k' (fun e2=>by subst e2;exact hR.hr.apart l _ (by simp [hlk]) hb hS)
            have hkeepl:Keep β (look st.h) w β (look ((l,.arr e s (rows.set i (Qfy row off ds)))::rem l st.h)) w' l:=by
              refine ⟨rfl,fun h=>?_,fun e' s' rows' h=>?_,fun b2 cs2 ty2 fz2 _ hb2 hw2=>?_⟩
              · rw [hlk] at h;cases h
              · rw [hlk] at h;injection h with h;injection h with g1 g2 g3;subst g1;subst g2;subst g3
                exact .inr ⟨_,by rw [Jz,if_pos rfl],by simp⟩
              · rw [hb] at hb2;injection hb2 with e;subst e
                rw [hw] at hw2;injection hw2 with e;injection e with e1 e2 e3;subst e1
                exact ⟨_,_,_,hwr.blk,Vu _ _ _⟩
            refine hR.set hlk hb hwr.oth hwr.os hwr.tape hwr.output hwr.size hkeepl (.inr ⟨b,_,hb,hwr.blk,by rw [Vu];simpa using hsz,fun i' r' hr'=>?_,fun i' j' r' z h4 h5=>?_⟩)
            · by_cases e2:i'=i
              · subst e2
                rw [List.getElem?_set_self hi] at hr'
                injection hr' with hr';subst hr'
                rw [Q6A];exact hrs
              · rw [List.getElem?_set_ne (by omega)] at hr'
                exact hrl i' r' hr'
            · by_cases e2:i'=i
              · subst e2
                rw [List.getElem?_set_self hi] at h4
                injection h4 with h4;subst h4
                rw [Qc5 _ _ _ _ (by omega)] at h5
                by_cases e3:off≤j'∧j'<off+ds.length
                · rw [if_pos e3] at h5
                  have hj:j'-off<(a.eval y).cells.size:=by omega
                  refine ⟨(a.eval y).cells.getD (j'-off) undef,?_,?_⟩
                  · rw [hget,if_pos (by omega),show i'*s+j'-(i'*s+off)=j'-off from by omega]
                    exact JO hj
                  · exact (c2 (j'-off) (.d z) (by rw [hav];simp [h5])).d_inv.mono (fun _ h=>h) hSw
                · rw [if_neg e3] at h5
                  obtain ⟨u,hu,hru⟩:=hrd i' j' row z hrow' h5
                  exact ⟨u,by rw [hget,if_neg (by omega)];exact hu,hru.mono (fun _ h=>h) hSw⟩
              · rw [List.getElem?_set_ne (by omega)] at h4
                obtain ⟨u,hu,hru⟩:=hrd i' j' r' z h4 h5
                refine ⟨u,?_,hru.mono (fun _ h=>h) hSw⟩
                have hj':j'<s:=by
                  have:=hrl i' r' h4
                  have:=(List.getElem?_eq_some_iff.1 h5).1
                  omega
                rw [hget,if_neg ?_]
                · exact hu
                · rcases Nat.lt_or_gt_of_ne e2 with hlt | hgt
                  · have:(i'+1)*s≤i*s:=Nat.mul_le_mul_right s hlt
                    have:(i'+1)*s=i'*s+s:=Nat.succ_mul i' s
                    omega
                  · have:(i+1)*s≤i'*s:=Nat.mul_le_mul_right s hgt
                    omega
        · cases h
      · cases h
    · cases h
end

section
variable {P:Program} {E:Env} {R:Type}
theorem Q1G {α β:Type} {f:α→Sem β} {g:α→β} {w:World}:∀ (l:List α),(∀ x∈l,(f x).run P w = .ok (g x) w)→(l.mapM f).run P w = .ok (l.map g) w
  | [],_=>by simp
  | a::l,h=>by
    have h1:=h a (by simp)
    have h2:=Q1G l (fun x hx=>h x (by simp [hx]))
    simp [List.mapM_cons,h1,h2]
theorem Qa3 {α β:Type} {f:α→Sem β} {g:α→β} {w:World} (l:Array α) (h:∀ x∈l.toList,(f x).run P w = .ok (g x) w):(l.mapM f).run P w = .ok (l.map g) w:=by
  have h1:=Q1G (P:=P) l.toList h
  rw [← Array.toList_mapM,Sem.run_map] at h1
  cases hr:(l.mapM f).run P w with
  | ok b w'=>
    rw [hr] at h1
    simp only [Result.andThen_ok,Result.ok.injEq] at h1
    obtain ⟨h2,rfl⟩:=h1
    congr 1
    apply Array.ext'
    simpa using h2
  | halt x w'=>rw [hr] at h1;simp at h1
theorem Qdd (off:Nat):∀ (l:List Value) (k:Nat) (cs:Array Value),(l.zipIdx k).foldl (fun cs x=>cs.setIfInBounds (off+x.2) x.1) cs=ND cs (off+k) l
  | [],_,_=>rfl
  | v::r,k,cs=>by
    simp only [List.zipIdx_cons,List.foldl_cons,ND]
    rw [Qdd off r (k+1)]
    rfl
theorem Qf2 (off:Nat) (vs cs:Array Value):vs.zipIdx.foldl (fun cs x=>cs.setIfInBounds (off+x.2) x.1) cs=ND cs off vs.toList:=by
  rw [← Array.foldl_toList,Array.toList_zipIdx,Qdd]
  rfl
theorem Q8Z {place:Nat→Option (Nat × Nat)} {cells:Array Value} {i off size:Nat} {v:Value} {rest:List (Nat × Value)} (hp:place i=some (off,size)) (hs:v.cells.size=size) (hf:off+size≤cells.size) :
    Instr.fill place cells ((i,v)::rest)=Instr.fill place (ND cells off v.cells.toList) rest:=by
  have hc:(v.cells.size≠size||off+v.cells.size>cells.size)=false:=by simp [hs];omega
  simp only [Instr.fill,hp]
  rw [if_neg (by rw [hc];simp)]
  congr 1
  exact Qf2 off v.cells cells
theorem Q34 {tt:TT} {fields:List (Nat × Nat)} {place:Nat→Option (Nat × Nat)} (hpl:∀ (i off t:Nat) (ti:TyI),fields[i]? = some (off,t)→look tt t=some ti→place i=some (off,ti.size))
    {β:Nat→Option Nat} {S:Nat→Prop} {h:Nat→Option Ob} {w:World} {tm:Nat→Value} {ρ:Operand→Value} {ev:Operand→AV} :
    ∀ (parts:List (Nat × Operand)) (cells cells':List AV) (cs:Array Value),(∀ p∈parts,RdA β S h w tm (ρ p.2) (ev p.2))→cs.size=cells.length →
      (∀ (i:Nat) (x:AV),cells[i]? = some x→RdA β S h w tm (cs.getD i undef) x)→Q7E fields tt cells (JL ev parts)=some cells' →
      ∃ cs',Instr.fill place cs (parts.map fun p=>(p.1,ρ p.2))=some cs'∧cs'.size=cells'.length ∧
        ∀ (i:Nat) (x:AV),cells'[i]? = some x→RdA β S h w tm (cs'.getD i undef) x
  | [],cells,cells',cs,_,h1,h2,h3=>by
    simp [JL,Q7E] at h3
    subst h3
    exact ⟨cs,by simp [Instr.fill],h1,h2⟩
  | (i,x)::parts,cells,cells',cs,hp,h1,h2,h3=>by
    simp only [JL,Q7E] at h3
    split at h3
    case h_2=>cases h3
    rename_i off t hf
    split at h3
    case h_2=>cases h3
    rename_i ti hti
    cases hc:(Nat.beq (YH (ev x)).length ti.size&&Nat.ble (off+ti.size) cells.length) with
    | false=>simp [hc] at h3
    | true=>
      simp only [hc,cond_true] at h3
      simp only [Bool.and_eq_true] at hc
      have hl:=Nat.eq_of_beq_eq_true hc.1
      have hle:=Nat.le_of_ble_eq_true hc.2
      split at h3
      case h_2=>cases h3
      rename_i cs1 hcs1
      obtain ⟨g1,g2,g3,g4⟩:=Df hcs1
      obtain ⟨c1,c2,c3⟩:=Ag (hp (i,x) (by simp)) g2
      have hplace:=hpl i off t ti hf hti
      have hfit:off+(ρ x).cells.toList.length≤cs.size:=by simp [c1,hl];omega
      rw [List.map_cons,Q8Z hplace (by rw [c1];exact hl) (by omega)]
      refine Q34 hpl parts cs1 cells' _ (fun p hp'=>hp p (by simp [hp'])) (by rw [Vu,h1,g1]) (fun j y hy=>?_) h3
      have hget:(ND cs off (ρ x).cells.toList)[j]? = if off≤j∧j<off+(YH (ev x)).length then (ρ x).cells[j-off]? else cs[j]?:=by
        rw [FN _ _ _ _ hfit];simp [c1]
      rw [g4 j] at hy
      by_cases e:off≤j∧j<off+(YH (ev x)).length
      · rw [if_pos e] at hy hget
        have hge:(ND cs off (ρ x).cells.toList).getD j undef=(ρ x).cells.getD (j-off) undef:=Q59 hget
        rw [hge]
        exact c2 _ y hy
      · rw [if_neg e] at hy hget
        have hge:(ND cs off (ρ x).cells.toList).getD j undef=cs.getD j undef:=Q59 hget
        rw [hge]
        exact h2 j y hy
theorem Q9m {t:TypeId} {parts:Array (Nat × Operand)} {o:Oper} (ho:o.op = .build t parts) {p:Nat × Operand} (hp:p∈parts.toList):p.2∈o.op.operands.toList:=by
  simp only [ho,Op.operands]
  simpa using ⟨p.1,by simpa using hp⟩
theorem QcL {tt:TT} (hT:TOk P tt) {o:Oper} {t:TypeId} {parts:Array (Nat × Operand)} (ho:o.op = .build t parts) {ev:Operand→AV} {hl:Nat→Option Ob} {ti:TyI} (hti:look tt t=some ti) (hs:G1 ti.kd=true) {cs:List AV}
    (h:Q7E ti.fields tt (Q3A ti) (JL ev parts.toList)=some cs):Re P E o ev hl ⟨.ag cs,[],[]⟩:=by
  have hty:=hT t ti hti
  obtain ⟨inf,hinf,_,_,z,hz,hzc⟩:=hty.inf
  refine QV fun β S st a w hR hO hA=>?_
  have hz1:z.cells.size=(Q3A ti).length:=by rw [← Array.length_toList,hzc];simp [Q3A]
  have hz2:∀ (i:Nat) (x:AV),(Q3A ti)[i]? = some x→RdA β S (look st.h) w (tmv a) (z.cells.getD i undef) x:=by
    intro i x hx
    simp only [Q3A,List.getElem?_map,Option.map_eq_some_iff] at hx
    obtain ⟨v,hv,rfl⟩:=hx
    have:z.cells.getD i undef=v:=by
      rw [← hzc] at hv
      obtain ⟨hi,he⟩:=List.getElem?_eq_some_iff.1 hv
      have hi':i<z.cells.size:=by simpa using hi
      simp only [Array.getD,hi',dite_true]
      simpa using he
    rw [this]
    exact Q5N v
  have hlist:(parts.map fun x=>(x.1,a.eval x.2)).toList=parts.toList.map fun p=>(p.1,a.eval p.2):=by simp
  cases hk:ti.kd with
  | struct=>
    obtain ⟨fs,hu,hfs,hfsz⟩:=hty.kstruct hk
    let sz:Field→Nat:=fun f=>((P.info? f.type).map (·.size)).getD 0
    have hszs:∀ f∈fs.toList,∃ i,P.info? f.type=some i∧i.size=sz f:=fun f hf=>by
      obtain ⟨i,hi,_⟩:=hfsz f hf
      exact ⟨i,hi,by simp [sz,hi]⟩
    have hpl:∀ (i off t:Nat) (ti':TyI),ti.fields[i]? = some (off,t)→look tt t=some ti'→(fs.map fun f=>(f.offset,sz f))[i]? = some (off,ti'.size):=by
      intro i off t ti' hf hti'
      rw [← hfs,List.getElem?_map,Option.map_eq_some_iff] at hf
      obtain ⟨fd,hfd,he⟩:=hf
      injection he with he1 he2
      obtain ⟨inf,hinf,hisz⟩:=hszs fd (List.mem_of_getElem? hfd)
      obtain ⟨inf',hinf',hisz',_⟩:=(hT t ti' hti').inf
      rw [← he2,hinf] at hinf'
      injection hinf' with hinf'
      subst hinf'
      have hfd':fs[i]? = some fd:=by simpa using hfd
      simp [hfd',he1,← hisz,hisz']
    obtain ⟨cs',h1,h2,h3⟩:=Q34 hpl (ρ:=a.eval) parts.toList _ _ z.cells (fun p hp=>hO.at (Q9m ho hp)) hz1 hz2 h
    refine ⟨.agg cs',?_,.ag _ _ h2 h3⟩
    have hm:=Qa3 (P:=P) (w:=w) (f:=fun f:Field=>do pure (f.offset,← sizeOf f.type)) (g:=fun f=>(f.offset,sz f)) fs (fun f hf=>by
      obtain ⟨i,hi,he⟩:=hszs f hf
      simp [sizeOf,ZI hi,he])
    unfold execOp;rw [ho]
    simp only [Instr.build,Sem.run_bind,zeroValue,ZI hinf,hz,Y5 hu,Result.andThen_ok,Sem.run_pure,hm,hlist,h1]
  | array e esz n=>
    obtain ⟨hu,hpos,⟨i0,hi0,hsz0⟩,hsize,hfields⟩:=hty.karr e esz n hk
    have hpl:∀ (i off t:Nat) (ti':TyI),ti.fields[i]? = some (off,t)→look tt t=some ti'→(fun i=>some (i*esz,esz)) i=some (off,ti'.size):=by
      intro i off t ti' hf hti'
      rw [hfields,List.getElem?_map,Option.map_eq_some_iff] at hf
      obtain ⟨j,hj,he⟩:=hf
      have hji:j=i:=by
        have:=List.getElem?_eq_some_iff.1 hj
        obtain ⟨h1,h2⟩:=this
        simp at h2
        omega
      injection he with he1 he2
      obtain ⟨inf',hinf',hisz',_⟩:=(hT t ti' hti').inf
      rw [← he2,hi0] at hinf'
      injection hinf' with hinf'
      subst hinf'
      simp only [Option.some.injEq,Prod.mk.injEq]
      exact ⟨by rw [← he1,hji],by omega⟩
    obtain ⟨cs',h1,h2,h3⟩:=Q34 hpl (ρ:=a.eval) parts.toList _ _ z.cells (fun p hp=>hO.at (Q9m ho hp)) hz1 hz2 h
    refine ⟨.agg cs',?_,.ag _ _ h2 h3⟩
    have hso:(sizeOf e).run P w = .ok esz w:=by simp [sizeOf,ZI hi0,hsz0]
    unfold execOp;rw [ho]
    simp only [Instr.build,Sem.run_bind,zeroValue,ZI hinf,hz,Y5 hu,Result.andThen_ok,Sem.run_pure,hso,hlist,h1]
  | _=>simp [hk,G1] at hs
def JZ (S:Nat→Prop) (w:World) (cs:Array Value) (s:Nat) (rows:List (List D)):Prop:=
  rows.length*s≤cs.size∧(∀ (i:Nat) (r:List D),rows[i]? = some r→r.length=s)∧∀ (i j:Nat) (r:List D) (x:D),rows[i]? = some r→r[j]? = some x→∃ v,cs[i*s+j]? = some v∧Rd S w v x
theorem Q9f:∀ {z:List D} {l:List AV} {ds:List D},QcQ z l=some ds→ds.length=z.length∧l.length=z.length∧l.all Q76=true∧(∀ t,∀ x∈l,gds t x=false) ∧
    ∀ (β:Nat→Option Nat) (S:Nat→Prop) (h:Nat→Option Ob) (w:World) (tm:Nat→Value) (vs:Nat→Value),(∀ (i:Nat) (x:AV),l[i]? = some x→RdA β S h w tm (vs i) x)→∀ (i:Nat) (d:D),ds[i]? = some d→Rd S w (vs i) d
  | [],[],ds,h=>by
    simp [QcQ] at h;subst h
    exact ⟨rfl,rfl,rfl,fun _ _ h=>by simp at h,fun _ _ _ _ _ _ _ i d h=>by simp at h⟩
  | [],_::_,ds,h=>by simp [QcQ] at h
  | _::_,[],ds,h=>by simp [QcQ] at h
  | z::zs,a::r,ds,h=>by
    simp only [QcQ] at h
    split at h
    case h_2=>cases h
    rename_i l hl
    obtain ⟨h1,h2,h3,h4,h5⟩:=Q9f hl
    have fin:∀ d0,ds=d0::l→Q76 a=true→(∀ t,gds t a=false)→(∀ (β:Nat→Option Nat) (S:Nat→Prop) (h:Nat→Option Ob) (w:World) (tm:Nat→Value) (v:Value),RdA β S h w tm v a→Rd S w v d0) →
        ds.length=(z::zs).length∧(a::r).length=(z::zs).length∧(a::r).all Q76=true∧(∀ t,∀ x∈a::r,gds t x=false) ∧
        ∀ (β:Nat→Option Nat) (S:Nat→Prop) (h:Nat→Option Ob) (w:World) (tm:Nat→Value) (vs:Nat→Value),(∀ (i:Nat) (x:AV),(a::r)[i]? = some x→RdA β S h w tm (vs i) x)→∀ (i:Nat) (d:D),ds[i]? = some d→Rd S w (vs i) d:=by
      intro d0 hd ho hg hr
      subst hd
      refine ⟨by simp [h1],by simp [h2],by simp [ho,h3],fun t x hx=>?_,fun β S h w tm vs hv i d hi=>?_⟩
      · rcases List.mem_cons.1 hx with rfl | hx
        · exact hg t
        · exact h4 t x hx
      · cases i with
        | zero=>simp at hi;subst hi;exact hr β S h w tm _ (hv 0 a rfl)
        | succ i=>exact h5 β S h w tm (fun i=>vs (i+1)) (fun i x hx=>hv (i+1) x (by simpa using hx)) i d (by simpa using hi)
    split at h
    · rename_i x
      cases h
      exact fin x rfl rfl (fun _=>rfl) (fun _ _ _ _ _ _ hv=>hv.d_inv)
    · split at h
      · cases h
        exact fin _ rfl rfl (fun _=>rfl) (fun _ _ _ _ _ v hv=>by rw [hv.nil_inv];exact .sl0 _ _ _)
      · cases h
    · cases h
end

section
variable {P:Program} {E:Env} {R:Type}
theorem JZ.mono {S S':Nat→Prop} {w w':World} {cs:Array Value} {s:Nat} {rows:List (List D)} (h:JZ S w cs s rows) (hS:∀ b,S b→S' b) (hw:∀ b,S b→w'.heap[b]? = w.heap[b]?):JZ S' w' cs s rows:=
  ⟨h.1,h.2.1,fun i j r x h1 h2=>by
    obtain ⟨v,hv,hr⟩:=h.2.2 i j r x h1 h2
    exact ⟨v,hv,hr.mono hS hw⟩⟩
theorem JZ.set {S:Nat→Prop} {w:World} {cs:Array Value} {s:Nat} {rows:List (List D)} (h:JZ S w cs s rows) {i:Nat} {row:List D} {vs:Array Value} (hi:i<rows.length) (hl:row.length=s) (hvs:vs.size=s)
    (hr:∀ (j:Nat) (d:D),row[j]? = some d→Rd S w (vs.getD j undef) d):JZ S w (ND cs (i*s) vs.toList) s (rows.set i row):=by
  obtain ⟨h1,h2,h3⟩:=h
  have hmul:(i+1)*s≤rows.length*s:=Nat.mul_le_mul_right s hi
  have hsucc:(i+1)*s=i*s+s:=Nat.succ_mul i s
  have hfit:i*s+vs.toList.length≤cs.size:=by simp [hvs];omega
  have hget:∀ j,(ND cs (i*s) vs.toList)[j]? = if i*s≤j∧j<i*s+s then vs[j-i*s]? else cs[j]?:=by
    intro j
    rw [FN _ _ _ _ hfit];simp [hvs]
  refine ⟨by rw [Vu];simpa using h1,fun i' r' hr'=>?_,fun i' j' r' x h4 h5=>?_⟩
  · by_cases e2:i'=i
    · subst e2
      rw [List.getElem?_set_self hi] at hr'
      injection hr' with hr';subst hr'
      exact hl
    · rw [List.getElem?_set_ne (by omega)] at hr'
      exact h2 i' r' hr'
  · by_cases e2:i'=i
    · subst e2
      rw [List.getElem?_set_self hi] at h4
      injection h4 with h4;subst h4
      have hj:j'<s:=by have:=(List.getElem?_eq_some_iff.1 h5).1;omega
      refine ⟨vs.getD j' undef,?_,hr j' x h5⟩
      rw [hget,if_pos (by omega),show i'*s+j'-i'*s=j' from by omega]
      exact JO (by omega)
    · rw [List.getElem?_set_ne (by omega)] at h4
      obtain ⟨u,hu,hru⟩:=h3 i' j' r' x h4 h5
      refine ⟨u,?_,hru⟩
      have hj':j'<s:=by
        have:=h2 i' r' h4
        have:=(List.getElem?_eq_some_iff.1 h5).1
        omega
      rw [hget,if_neg ?_]
      · exact hu
      · rcases Nat.lt_or_gt_of_ne e2 with hlt | hgt
        · have:(i'+1)*s≤i*s:=Nat.mul_le_mul_right s hlt
          have:(i'+1)*s=i'*s+s:=Nat.succ_mul i' s
          omega
        · have:(i+1)*s≤i'*s:=Nat.mul_le_mul_right s hgt
          omega
theorem JZ.zero {S:Nat→Prop} {w:World} {zero:Array Value} {z:List D} {n m:Nat} (hz:z.length=zero.size) (hr:∀ (j:Nat) (x:D),z[j]? = some x→∃ v,zero[j]? = some v∧Rd S w v x) (hnm:n≤m) :
    JZ S w ((Array.range (m*zero.size)).map (zero[· % zero.size]!)) zero.size (List.replicate n z):=by
  refine ⟨by simp;exact Nat.mul_le_mul_right _ hnm,fun i r h=>?_,fun i j r x h1 h2=>?_⟩
  · rw [List.getElem?_replicate] at h
    split at h
    · injection h with h;subst h;exact hz
    · cases h
  · rw [List.getElem?_replicate] at h1
    split at h1
    case isFalse=>cases h1
    rename_i hi
    injection h1 with h1;subst h1
    obtain ⟨v,hv,hx⟩:=hr j x h2
    refine ⟨v,?_,hx⟩
    have hj:j<zero.size:=(Array.getElem?_eq_some_iff.1 hv).1
    have hmul:(i+1)*zero.size≤m*zero.size:=Nat.mul_le_mul_right _ (by omega)
    have hsucc:(i+1)*zero.size=i*zero.size+zero.size:=Nat.succ_mul i _
    have hmod:(i*zero.size+j) % zero.size=j:=by rw [Nat.add_comm,Nat.add_mul_mod_self_right];exact Nat.mod_eq_of_lt hj
    rw [Array.getElem?_map,Array.getElem?_range,if_pos (by omega)]
    simp only [Option.map_some,hmod]
    rw [getElem!_pos zero j hj]
    rw [Array.getElem?_eq_getElem hj] at hv
    exact hv
theorem Q6i {o:Oper} {ev:Operand→AV} {hl:Nat→Option Ob} {site e s:Nat} {rows:List (List D)} {rd:List Nat} (hn:hl site=none)
    (h:∀ β S st a w,Rel E β S st a w→Q4D β S st a w o ev→(∀ l,l∈rd→look st.h l=hl l)→∃ (cs:Array Value) (cap:Nat),(execOp a.eval o).run P w = .ok (.value (.slice (some ⟨w.heap.size,0,none⟩) rows.length cap)) (w.alloc (.cells cs e))∧cs.size=cap*s∧rows.length≤cap∧cap≤maxLen∧JZ S w cs s rows) :
    Re P E o ev hl ⟨.arr site,[]++[(site,some (.arr e s rows))],rd⟩:=by
  intro β S st a w hR hO hA hcl K Q hK
  obtain ⟨cs,cap,hrun,hsz,hcap,hmax,h1,h2,h3⟩:=h β S st a w hR hO (fun l hl'=>hA l (.inl hl'))
  have hlk:look st.h site=none:=by rw [hA site (.inr (by simp [wrL]))];exact hn
  have hc:Jo st site=true:=by simpa [VJ,hlk] using hcl
  unfold Oper.wp
  rw [hrun]
  refine hK _ _ ⟨Cp β site (some w.heap.size),S,?_,?_⟩
  · refine hR.new hlk hc (.inr ⟨w.heap.size,cs,by simp [Cp],PW _ _,h1,h2,fun i j r x h4 h5=>?_⟩)
    obtain ⟨v,hv,hr⟩:=h3 i j r x h4 h5
    exact ⟨v,hv,hr.mono (fun _ hb=>hb) (fun b hb=>Zn _ _ (hR.hr.sb b hb))⟩
  · exact .arr site w.heap.size cap e s rows cs e (0,0) (by simp [Cp]) (by simp [Af,Jz]) (PW _ _) hsz hcap hmax
theorem QeT {β:Nat→Option Nat} {S:Nat→Prop} {st:St} {a:Act} {w:World} (hR:Rel E β S st a w) (obj:Obj):Rel E β (fun b=>S b∨b=w.heap.size) st a (w.alloc obj):=by
  have:=hR.upd (w':=w.alloc obj) (β':=β) (S':=fun b=>S b∨b=w.heap.size) (H':=st.h) (fun _ h=>.inl h) (fun b hb=>Zn w obj (hR.hr.sb b hb)) (fun _=>False)
    (fun l _=>⟨rfl,rfl,fun b hs hb=>Zn w obj (NL hR hs hb)⟩) (fun l h=>h.elim) (fun l o h=>h.elim) hR.hr.inj
    (fun l b hs hb hS=>by
      rcases hS with hS | hS
      · exact hR.hr.apart l b hs hb hS
      · have:=NL hR hs hb;omega)
    hR.hr.own
    (fun b hS=>by
      show b<(w.heap.push obj).size
      simp
      rcases hS with hS | hS
      · have:=hR.hr.sb b hS;omega
      · omega)
    (fun b hS=>by
      rcases hS with hS | hS
      · exact hR.hr.sfr b hS
      · right;right;have:=hR.hr.fr.size;omega)
    (QbT hR.hr.fr obj)
  exact this
theorem JZ.rd {S:Nat→Prop} {w:World} {b cap s:Nat} {cs:Array Value} {ty:TypeId} {fz:Nat × Nat} {rows:List (List D)} (h:JZ S w cs s rows) (hb:w.heap[b]? = some (.cells cs ty fz)) (hS:S b) (hcap:rows.length≤cap) :
    Rd S w (.slice (some ⟨b,0,none⟩) rows.length cap) (.sl s rows):=by
  obtain ⟨h1,h2,h3⟩:=h
  refine .sl _ cap s rows (fun i j=>cs.getD (i*s+j) undef) hS hcap h2 (fun i j r x h4 h5=>?_) (fun i j r x h4 h5=>?_)
  · obtain ⟨v,hv,_⟩:=h3 i j r x h4 h5
    rw [T8,Nat.zero_add,KJ hb]
    exact JO (Array.getElem?_eq_some_iff.1 hv).1
  · obtain ⟨v,hv,hr⟩:=h3 i j r x h4 h5
    have:cs.getD (i*s+j) undef=v:=by
      have h6:=JO (Array.getElem?_eq_some_iff.1 hv).1
      rw [hv] at h6
      injection h6 with h6
      exact h6.symm
    rw [this]
    exact hr
theorem Q9B {o:Oper} {ev:Operand→AV} {hl:Nat→Option Ob} {e s:Nat} {rows:List (List D)} {rd:List Nat}
    (h:∀ β S st a w,Rel E β S st a w→Q4D β S st a w o ev→∃ (cs:Array Value) (cap:Nat),(execOp a.eval o).run P w = .ok (.value (.slice (some ⟨w.heap.size,0,none⟩) rows.length cap)) (w.alloc (.cells cs e))∧rows.length≤cap∧JZ S w cs s rows) :
    Re P E o ev hl ⟨.d (.sl s rows),[],rd⟩:=by
  intro β S st a w hR hO hA hcl K Q hK
  obtain ⟨cs,cap,hrun,hcap,h1⟩:=h β S st a w hR hO
  unfold Oper.wp
  rw [hrun]
  refine hK _ _ ⟨β,fun b=>S b∨b=w.heap.size,QeT hR _,.d _ _ ?_⟩
  exact (h1.mono (fun _ hb=>.inl hb) (fun b hb=>Zn _ _ (hR.hr.sb b hb))).rd (PW _ _) (.inr rfl) hcap
theorem Q3L {β:Nat→Option Nat} {S:Nat→Prop} {h:Nat→Option Ob} {w:World} {tm:Nat→Value} {ρ:Operand→Value} {ev:Operand→AV} {z:List D} :
    ∀ (parts:List (Nat × Operand)) (rows rows':List (List D)) (cs:Array Value),(∀ p∈parts,RdA β S h w tm (ρ p.2) (ev p.2))→JZ S w cs z.length rows→cs.size=rows.length*z.length →
      Q0c z rows (JL ev parts)=some rows' →
      ∃ cs',Instr.fill (fun i=>some (i*z.length,z.length)) cs (parts.map fun p=>(p.1,ρ p.2))=some cs'∧JZ S w cs' z.length rows'∧cs'.size=cs.size∧rows'.length=rows.length
  | [],rows,rows',cs,_,h1,h2,h3=>by
    simp [JL,Q0c] at h3
    subst h3
    exact ⟨cs,by simp [Instr.fill],h1,rfl,rfl⟩
  | (i,x)::parts,rows,rows',cs,hp,h1,h2,h3=>by
    simp only [JL,Q0c] at h3
    split at h3
    case h_2=>cases h3
    rename_i row hrow
    cases hc:Nat.ble (i+1) rows.length with
    | false=>simp [hc] at h3
    | true=>
      simp only [hc,cond_true] at h3
      have hi:=Nat.le_of_ble_eq_true hc
      obtain ⟨t1,t2,t3,_,t5⟩:=Q9f hrow
      obtain ⟨c1,c2,_⟩:=Ag (hp (i,x) (by simp)) t3
      have hmul:(i+1)*z.length≤rows.length*z.length:=Nat.mul_le_mul_right _ hi
      have hsucc:(i+1)*z.length=i*z.length+z.length:=Nat.succ_mul i _
      have hfs:Instr.fill (fun i=>some (i*z.length,z.length)) cs ((i,ρ x)::parts.map fun p=>(p.1,ρ p.2))=_:=Q8Z (i:=i) (off:=i*z.length) (size:=z.length) rfl (by rw [c1,t2]) (by omega)
      rw [List.map_cons,hfs]
      have hset:=h1.set (i:=i) (row:=row) (vs:=(ρ x).cells) (by omega) t1 (by rw [c1,t2]) (fun j d hd=>t5 β S h w tm (fun j=>(ρ x).cells.getD j undef) c2 j d hd)
      obtain ⟨cs',g1,g2,g3,g4⟩:=Q3L parts (rows.set i row) rows' _ (fun p hp'=>hp p (by simp [hp'])) hset (by rw [Vu,h2];simp) h3
      exact ⟨cs',g1,g2,by rw [g3,Vu],by rw [g4];simp⟩
theorem Q77 {t:TypeId} {n:Nat} {parts:Array (Nat × Operand)} {o:Oper} (ho:o.op = .buildSlice t n parts) {p:Nat × Operand} (hp:p∈parts.toList):p.2∈o.op.operands.toList:=by
  simp only [ho,Op.operands]
  simpa using ⟨p.1,by simpa using hp⟩
theorem QgT {tt:TT} (hT:TOk P tt) {e:Nat} {ei:TyI} (hei:look tt e=some ei) (hlen:ei.zd.length=ei.size) {S:Nat→Prop} {w:World} {z:Value} (hz:z.cells.toList=ei.zero):∀ (j:Nat) (x:D),ei.zd[j]? = some x→∃ v,z.cells[j]? = some v∧Rd S w v x:=by
  intro j x hx
  obtain ⟨v,hv,hr⟩:=(hT e ei hei).zd hlen j x hx
  refine ⟨v,?_,hr S w⟩
  rw [← hz] at hv
  simpa using hv
theorem A3 {tt:TT} (hT:TOk P tt) {o:Oper} {t:TypeId} {len:Nat} {parts:Array (Nat × Operand)} (ho:o.op = .buildSlice t len parts) {u:Bool} {site:Nat} {ev:Operand→AV} {hl:Nat→Option Ob} {k:Dl→Option R} {r:R}
    (h:ST tt hl site u t len (JL ev parts.toList) k=some r):∃ dl,k dl=some r∧Re P E o ev hl dl:=by
  unfold ST at h
  split at h
  case h_2=>cases h
  rename_i e esz hk
  cases hc:(Nat.ble (len*esz) 16777216&&(look tt e).isSome&&Nat.beq (Q4C tt e).length esz) with
  | false=>simp [hc] at h
  | true=>
    simp only [hc,cond_true] at h
    simp only [Bool.and_eq_true] at hc
    have hbig:=Nat.le_of_ble_eq_true hc.1.1
    obtain ⟨ei,hei⟩:=Option.isSome_iff_exists.1 hc.1.2
    have hzl:=Nat.eq_of_beq_eq_true hc.2
    have hzd:Q4C tt e=ei.zd:=by simp [Q4C,hei]
    rw [hzd] at hzl h
    split at h
    case h_2=>cases h
    rename_i rows hrows
    obtain ⟨ti,hti,hkd⟩:=Z2 hk (by simp)
    obtain ⟨hu,hpos,inf,hinf,hsz⟩:=(hT t ti hti).ksl _ _ hkd
    obtain ⟨inf',hinf',hs',_,z,hz,hzc⟩:=(hT e ei hei).inf
    rw [hinf] at hinf'
    injection hinf' with hinf'
    subst hinf'
    have hzsz:z.cells.size=esz:=by rw [← Array.length_toList,hzc,(hT e ei hei).zlen,← hs',hsz]
    have key:∀ β S st a w,Rel E β S st a w→Q4D β S st a w o ev→∃ cs:Array Value,(execOp a.eval o).run P w = .ok (.value (.slice (some ⟨w.heap.size,0,none⟩) rows.length len)) (w.alloc (.cells cs e))∧cs.size=len*esz∧rows.length=len∧JZ S w cs esz rows:=by
      intro β S st a w hR hO
      have base:JZ S w ((Array.range (len*z.cells.size)).map (z.cells[· % z.cells.size]!)) z.cells.size (List.replicate len ei.zd):=
        JZ.zero (by rw [hzl,hzsz]) (QgT hT hei (by rw [hzl,← hs',hsz]) hzc) (Nat.le_refl _)
      rw [hzsz] at base
      obtain ⟨cs',g1,g2,g3,g4⟩:=Q3L (ρ:=a.eval) (ev:=ev) (z:=ei.zd) parts.toList (List.replicate len ei.zd) rows _ (fun p hp=>hO.at (Q77 ho hp)) (by rw [hzl];exact base) (by simp [hzl]) hrows
      rw [hzl] at g1 g2
      have hlen:rows.length=len:=by rw [g4];simp
      refine ⟨cs',?_,by rw [g3];simp,hlen,g2⟩
      have hlist:(parts.map fun x=>(x.1,a.eval x.2)).toList=parts.toList.map fun p=>(p.1,a.eval p.2):=by simp
      have hnb:¬ len*esz>2 ^ 24:=by omega
      unfold execOp;rw [ho]
      simp only [Instr.buildSlice,Sem.run_bind,Y5 hu,sizeOf,ZI hinf,hsz,Result.andThen_ok,Sem.run_pure,hnb,if_false,hlist]
      by_cases h0:len*esz=0
      · have hcs0:((Array.range (len*esz)).map ((#[]:Array Value)[· % (#[]:Array Value).size]!))=((Array.range (len*esz)).map (z.cells[· % esz]!)):=by rw [h0];simp
        simp only [h0,if_true,Sem.run_bind,Sem.run_pure,Result.andThen_ok]
        rw [h0] at hcs0 g1
        rw [hcs0,g1,hlen]
        simp [newRow]
      · simp only [h0,if_false,Sem.run_bind,zeroValue,ZI hinf,hz,Result.andThen_ok,Sem.run_pure,hzsz,g1]
        simp [newRow,hlen]
    have hmaxl:len≤maxLen:=by
      have:len*1≤len*esz:=Nat.mul_le_mul_left len hpos
      unfold maxLen;omega
    cases u with
    | true=>
      simp only [cond_true] at h
      obtain ⟨hn,h⟩:=T9 h
      refine ⟨_,h,Q6i hn fun β S st a w hR hO _=>?_⟩
      obtain ⟨cs,g1,g2,g3,g4⟩:=key β S st a w hR hO
      exact ⟨cs,len,g1,g2,by omega,hmaxl,g4⟩
    | false=>
      simp only [cond_false] at h
      refine ⟨_,h,Q9B (e:=e) fun β S st a w hR hO=>?_⟩
      obtain ⟨cs,g1,g2,g3,g4⟩:=key β S st a w hR hO
      exact ⟨cs,len,g1,by omega,g4⟩
theorem FJ {n:Nat} {u:Unit} (h:R0 n=some u):n≤140737488355328:=by
  unfold R0 at h
  cases hb:Nat.ble n 140737488355328 with
  | true=>exact Nat.le_of_ble_eq_true hb
  | false=>simp [hb] at h
theorem Qem {tt:TT} (hT:TOk P tt) {o:Oper} {t:TypeId} {l c:Operand} (ho:o.op = .makeSlice t l c) {u:Bool} {site:Nat} {ev:Operand→AV} {hl:Nat→Option Ob} {k:Dl→Option R} {r:R}
    (h:Qg9 tt hl site u t (ev l) (ev c) k=some r):∃ dl,k dl=some r∧Re P E o ev hl dl:=by
  unfold Qg9 at h
  cases u with
  | false=>simp at h
  | true=>
    simp only [cond_true] at h
    split at h
    case h_2=>cases h
    rename_i e esz kn n km m hk hel hec
    split at h
    case h_2=>cases h
    rename_i ei hei
    cases hc:(Nat.ble 1 ei.bytes&&Nat.beq (Q4C tt e).length esz) with
    | false=>simp [hc] at h
    | true=>
      simp only [hc,cond_true] at h
      simp only [Bool.and_eq_true] at hc
      have hbytes:=Nat.le_of_ble_eq_true hc.1
      have hzl:=Nat.eq_of_beq_eq_true hc.2
      have hzd:Q4C tt e=ei.zd:=by simp [Q4C,hei]
      rw [hzd] at hzl h
      obtain ⟨_,h,hnm⟩:=Qc h
      obtain ⟨_,h,hroom⟩:=Qc h
      have hroom:=FJ (hroom rfl)
      have hnm':0≤n∧n≤m:=by
        have:=hnm rfl
        cases hd:(decide (0≤n)&&decide (n≤m)) with
        | true=>simpa using hd
        | false=>simp [hd] at this
      obtain ⟨hn,h⟩:=T9 h
      obtain ⟨ti,hti,hkd⟩:=Z2 hk (by simp)
      obtain ⟨hu,hpos,inf,hinf,hsz⟩:=(hT t ti hti).ksl _ _ hkd
      obtain ⟨inf',hinf',hs',hby,z,hz,hzc⟩:=(hT e ei hei).inf
      rw [hinf] at hinf'
      injection hinf' with hinf'
      subst hinf'
      have hzsz:z.cells.size=esz:=by rw [← Array.length_toList,hzc,(hT e ei hei).zlen,← hs',hsz]
      have hm47:m.toNat≤140737488355328:=Nat.le_trans (by have:=Nat.mul_le_mul_left m.toNat hbytes;omega) hroom
      have hwm:IntKind.i64.wrap m=m:=by unfold IntKind.wrap;simp [IntKind.bits,IntKind.signed];omega
      have hwn:IntKind.i64.wrap n=n:=by unfold IntKind.wrap;simp [IntKind.bits,IntKind.signed];omega
      refine ⟨_,h,Q6i hn fun β S st a w hR hO _=>?_⟩
      have hel':=(hel▸hO.at (x:=l) (by simp [ho,Op.operands])).int_inv
      have hec':=(hec▸hO.at (x:=c) (by simp [ho,Op.operands])).int_inv
      have base:JZ S w ((Array.range (m.toNat*z.cells.size)).map (z.cells[· % z.cells.size]!)) z.cells.size (List.replicate n.toNat ei.zd):=
        JZ.zero (by rw [hzl,hzsz]) (QgT hT hei (by rw [hzl,← hs',hsz]) hzc) (by omega)
      rw [hzsz] at base
      refine ⟨_,m.toNat,?_,?_,?_,?_,base⟩
      · have hlarge:(m<0||(inf.bytes:Int)*m>2 ^ 48)=false:=by
          rw [hby]
          have h1:((ei.bytes:Int)*m)=((m.toNat*ei.bytes:Nat):Int):=by
            rw [Int.natCast_mul,Int.toNat_of_nonneg (by omega),Int.mul_comm]
          have h2:¬ m<0:=by omega
          have h3:¬ ((m.toNat*ei.bytes:Nat):Int)>2 ^ 48:=by omega
          rw [h1,decide_eq_false h2,decide_eq_false h3]
          rfl
        have hl2:((m<0||(inf.bytes:Int)*m>2 ^ 48)||n<0||n>m)=false:=by
          rw [hlarge];simp;omega
        unfold execOp;rw [ho]
        simp only [Instr.makeSlice,Sem.run_bind,Y5 hu,asInt,asIntOf,hel',hec',ZI hinf,Result.andThen_ok,Sem.run_pure,hwm,hwn,hl2,Bool.false_eq_true,if_false,run_askRoom,sizeOf,hsz]
        by_cases h0:m.toNat*esz=0
        · have hcs0:((Array.range (m.toNat*esz)).map ((#[]:Array Value)[· % (#[]:Array Value).size]!))=((Array.range (m.toNat*esz)).map (z.cells[· % esz]!)):=by rw [h0];simp
          simp only [h0,if_true,Sem.run_bind,Sem.run_pure,Result.andThen_ok]
          rw [h0] at hcs0
          rw [hcs0]
          simp [newRow]
        · simp only [h0,if_false,Sem.run_bind,zeroValue,ZI hinf,hz,Result.andThen_ok,Sem.run_pure,hzsz]
          simp [newRow]
      · simp
      · simp;omega
      · unfold maxLen;omega
end

section
variable {P:Program} {E:Env} {R:Type}
theorem Rd.one {S:Nat→Prop} {w:World} {v:Value} {x:D} (h:Rd S w v x):v.oneCell'=true:=by cases h <;> rfl
structure Src (S:Nat→Prop) (w:World) (esz:Nat) (v:Value) (news:List (List D)) (vals:List Value):Prop where
  form:(v = .slice none 0 0∧news=[])∨(∃ c,v = .slice none 0 c∧news=[])∨∃ (ad:Addr) (c:Nat),v = .slice (some ad) news.length c∧∀ (j:Nat) (u:Value),vals[j]? = some u→w.cell? (ad.add j)=some u
  len:vals.length=news.length*esz
  one:∀ u∈vals,u.oneCell'=true
  row:∀ (i:Nat) (r:List D),news[i]? = some r→r.length=esz
  rd:∀ (i j:Nat) (r:List D) (x:D),news[i]? = some r→r[j]? = some x→∃ u,vals[i*esz+j]? = some u∧Rd S w u x
theorem Src.of_fun {S:Nat→Prop} {w:World} {esz:Nat} {news:List (List D)} {ad:Addr} {c:Nat} (f:Nat→Value) (hpos:0<esz) (hrow:∀ (i:Nat) (r:List D),news[i]? = some r→r.length=esz)
    (hc:∀ (i j:Nat) (r:List D) (x:D),news[i]? = some r→r[j]? = some x→w.cell? (ad.add (i*esz+j))=some (f (i*esz+j))∧Rd S w (f (i*esz+j)) x) :
    ∃ vals,Src S w esz (.slice (some ad) news.length c) news vals:=by
  have split:∀ q,q<news.length*esz→∃ i j r x,q=i*esz+j∧news[i]? = some r∧r[j]? = some x:=by
    intro q hq
    have hi:q / esz<news.length:=Nat.div_lt_of_lt_mul (by rw [Nat.mul_comm];exact hq)
    have hj:q % esz<esz:=Nat.mod_lt _ hpos
    have h1:news[q / esz]? = some (news[q / esz]):=List.getElem?_eq_getElem hi
    have h2:=hrow _ _ h1
    refine ⟨q / esz,q % esz,news[q / esz],(news[q / esz])[q % esz]'(by omega),?_,h1,List.getElem?_eq_getElem _⟩
    rw [Nat.mul_comm];exact (Nat.div_add_mod q esz).symm
  refine ⟨(List.range (news.length*esz)).map f,⟨.inr (.inr ⟨ad,c,rfl,fun j u hu=>?_⟩),by simp,fun u hu=>?_,hrow,fun i j r x h1 h2=>?_⟩⟩
  · simp only [List.getElem?_map,Option.map_eq_some_iff] at hu
    obtain ⟨j',hj',rfl⟩:=hu
    obtain ⟨hlt,he⟩:=List.getElem?_eq_some_iff.1 hj'
    simp at hlt he
    subst he
    obtain ⟨i,j',r,x,rfl,h1,h2⟩:=split j hlt
    exact (hc i j' r x h1 h2).1
  · obtain ⟨q,hq,rfl⟩:=List.mem_map.1 hu
    obtain ⟨i,j',r,x,rfl,h1,h2⟩:=split q (by simpa using hq)
    exact (hc i j' r x h1 h2).2.one
  · have hi:i<news.length:=(List.getElem?_eq_some_iff.1 h1).1
    have hj:j<esz:=by have:=hrow i r h1;have:=(List.getElem?_eq_some_iff.1 h2).1;omega
    have hmul:(i+1)*esz≤news.length*esz:=Nat.mul_le_mul_right _ hi
    have hsucc:(i+1)*esz=i*esz+esz:=Nat.succ_mul i _
    have hlt:i*esz+j<news.length*esz:=by omega
    exact ⟨f (i*esz+j),by simp [hlt],(hc i j r x h1 h2).2⟩
theorem Q9c {esz:Nat} (hpos:0<esz) {hl:Nat→Option Ob} {av:AV} {news:List (List D)} {rx:List Nat} (h:Q7p esz hl av=some (news,rx))
    {β:Nat→Option Nat} {S:Nat→Prop} {st:St} {a:Act} {w:World} (hR:Rel E β S st a w) {v:Value} (hv:RdA β S (look st.h) w (tmv a) v av) (hA:∀ l,l∈rx→look st.h l=hl l):∃ vals,Src S w esz v news vals:=by
  have nilc:∀ v,(v = .slice none 0 0∨∃ c,v = .slice none 0 c)→Src S w esz v [] []:=fun v hv=>
    ⟨by rcases hv with rfl | ⟨c,rfl⟩ <;> simp,by simp,by simp,by simp,by simp⟩
  unfold Q7p at h
  split at h
  · rename_i s rows
    cases hb:Nat.beq s esz with
    | false=>simp [hb] at h
    | true=>
      obtain rfl:=Nat.eq_of_beq_eq_true hb
      simp only [hb,cond_true,Option.some.injEq,Prod.mk.injEq] at h
      obtain ⟨rfl,rfl⟩:=h
      rcases hv.d_inv.sl_inv with ⟨rfl,ad,cap,rfl⟩ | ⟨ad,cap,c,rfl,hS,hcap,hsz,hc,hr⟩
      · cases ad with
        | none=>exact ⟨[],nilc _ (.inr ⟨cap,rfl⟩)⟩
        | some ad=>exact ⟨[],⟨.inr (.inr ⟨ad,cap,rfl,by simp⟩),by simp,by simp,by simp,by simp⟩⟩
      · refine Src.of_fun (fun q=>c (q / s) (q % s)) hpos hsz fun i j r x h1 h2=>?_
        have hj:j<s:=by have:=hsz i r h1;have:=(List.getElem?_eq_some_iff.1 h2).1;omega
        have e1:(i*s+j) / s=i:=by rw [Nat.add_comm,Nat.add_mul_div_right _ _ hpos,Nat.div_eq_of_lt hj,Nat.zero_add]
        have e2:(i*s+j) % s=j:=by rw [Nat.add_comm,Nat.add_mul_mod_self_right];exact Nat.mod_eq_of_lt hj
        simp only [e1,e2]
        exact ⟨hc i j r x h1 h2,hr i j r x h1 h2⟩
  · cases h
    exact ⟨[],nilc _ (.inl hv.nil_inv)⟩
  · rename_i l
    split at h
    · rename_i e s rows harr
      cases hb:Nat.beq s esz with
      | false=>simp [hb] at h
      | true=>
        obtain rfl:=Nat.eq_of_beq_eq_true hb
        simp only [hb,cond_true,Option.some.injEq,Prod.mk.injEq] at h
        obtain ⟨rfl,rfl⟩:=h
        have hlk:look st.h l=some (.arr e s rows):=by rw [hA l (by simp)];exact harr
        rcases RdA.arr_inv hlk hv with ⟨_,rfl,rfl⟩ | ⟨b,cap,cs,ty,fz,hb',rfl,hw,hcs,hcap,hmax⟩
        · exact ⟨[],nilc _ (.inl rfl)⟩
        · rcases hR.hr.ob l _ hlk with ⟨hn,_⟩ | ⟨b2,cs2,hb2,hw2,hsz,hrl,hrd⟩
          · rw [hb'] at hn;cases hn
          obtain rfl:b=b2:=by rw [hb'] at hb2;injection hb2
          refine Src.of_fun (fun q=>cs2.getD q undef) hpos hrl fun i j r x h1 h2=>?_
          obtain ⟨u,hu,hru⟩:=hrd i j r x h1 h2
          have hlt:=(Array.getElem?_eq_some_iff.1 hu).1
          have hge:=JO hlt
          refine ⟨by rw [T8,Nat.zero_add,KJ hw2];exact hge,?_⟩
          rw [hu] at hge
          injection hge with hge
          rw [← hge]
          exact hru
    · cases h
  · cases h
theorem Rg {w:World} {t ty e:Nat} {i:TypeInfo} {z:Value} {esz base:Nat} (ht:P.underlying t=some (.slice e)) (hi:P.info? e=some i) (hz:i.zero=some z) (hsize:i.size=esz) (hzs:z.cells.size=esz) (hpos:0<esz)
    {v:Value} {n:Nat} {xs:List Value} (hown:w.ownsRow base e esz v n xs) {S:Nat→Prop} {x:Value} {news:List (List D)} {vals:List Value} (hsrc:Src S w esz x news vals)
    (h63:n+news.length≤maxLen) (hbytes:(n+news.length)*i.bytes≤140737488355328) (hbase:base≤w.heap.size) :
    ∃ v' w',(Builtin.append_ #[t,t] ty #[v,x]).run P w = .ok v' w'∧w'.ownsRow base e esz v' (n+news.length) (xs++vals)∧w.grownBy w' v.ownBlock∧(v'.ownBlock=v.ownBlock∨v'.ownBlock=some w.heap.size):=by
  have nilcase:∀ c,x = .slice none 0 c→news=[]→∃ v' w',(Builtin.append_ #[t,t] ty #[v,x]).run P w = .ok v' w'∧w'.ownsRow base e esz v' (n+news.length) (xs++vals)∧w.grownBy w' v.ownBlock∧(v'.ownBlock=v.ownBlock∨v'.ownBlock=some w.heap.size):=by
    intro c hx hn
    subst hx;subst hn
    have hv:vals=[]:=List.eq_nil_of_length_eq_zero (by simpa using hsrc.len)
    subst hv
    refine ⟨v,w,?_,by simpa using hown,⟨rfl,rfl,rfl,Nat.le_refl _,fun _ _ _=>rfl⟩,.inl rfl⟩
    rcases hown.2 with ⟨rfl,rfl⟩ | ⟨g,cap,cur,rfl,_,_,hnc,_⟩
    · simp [Builtin.append_,Y5 ht,sizeOf,ZI hi,Builtin.lenOf,Builtin.firstCells]
    · simp [Builtin.append_,Y5 ht,sizeOf,ZI hi,Builtin.lenOf,Builtin.firstCells,hnc,storeCells]
  rcases hsrc.form with ⟨h1,h2⟩ | ⟨c,h1,h2⟩ | ⟨ad,c,rfl,hc⟩
  · exact nilcase 0 h1 h2
  · exact nilcase c h1 h2
  · obtain ⟨v',w',g1,g2,g3,_,g5⟩:=run_append_own_at (P:=P) w base t ty e i z esz i.bytes ht hi hz hsize rfl hzs hpos v n xs hown ad news.length c vals hsrc.len hc hsrc.one h63 hbytes hbase
    exact ⟨v',w',g1,g2,g3,g5⟩
theorem NN {o:Oper} {c:Call} {s x:Operand} {t:Nat} (ho:o.op = .call c) (hc:c.callee = .builtin .append) (ha:c.args.toList=[s,x]) (hat:c.argTypes.toList=[t,t]) {a:Act} {w w':World} {v':Value}
    (h:(Builtin.append_ #[t,t] o.type #[a.eval s,a.eval x]).run P w = .ok v' w'):(execOp a.eval o).run P w = .ok (.value v') w':=by
  have ha':c.args = #[s,x]:=by rw [← Array.toList_inj];simpa using ha
  have hat':c.argTypes = #[t,t]:=by rw [← Array.toList_inj];simpa using hat
  unfold execOp;rw [ho]
  simp only [resolve,hc,ha',hat',invoke,builtin,Sem.run_bind,Sem.run_pure,Result.andThen_ok,List.map_toArray,List.map_cons,List.map_nil,h]
def Q4w (old:Option Nat) (h:List (Nat × Ob)):List (Nat × Ob):=
  match old with
  | some l=>rem l h
  | none=>h
theorem Q5A {β:Nat→Option Nat} {S:Nat→Prop} {st:St} {a:Act} {w w':World} (hR:Rel E β S st a w) {site e esz:Nat} {rows news:List (List D)} {vals:List Value} {x:Value} (hsrc:Src S w esz x news vals)
    (hn:look st.h site=none) (hc:Jo st site=true) {v v':Value} {base:Nat} {xs:List Value} (old:Option Nat)
    (hold:∀ l,old=some l→(look st.h l).isSome=true)
    (hblk:∀ b,v.ownBlock=some b→∃ l,old=some l∧β l=some b)
    (hxs:∀ (i j:Nat) (r:List D) (y:D),rows[i]? = some r→r[j]? = some y→∃ u,xs[i*esz+j]? = some u∧Rd S w u y) (hrow:∀ (i:Nat) (r:List D),rows[i]? = some r→r.length=esz) (hxl:xs.length=rows.length*esz)
    (hown:w'.ownsRow base e esz v' (rows.length+news.length) (xs++vals)) (hg:w.grownBy w' v.ownBlock) (hat:v'.ownBlock=v.ownBlock∨∀ b,v'.ownBlock=some b→w.heap.size≤b) :
    ∃ β' S',Rel E β' S' ⟨st.n,st.tm,(site,.arr e esz (rows++news))::rem site (Q4w old st.h)⟩ a w' ∧
      RdA β' S' (look ((site,.arr e esz (rows++news))::rem site (Q4w old st.h))) w' (tmv a) v' (.arr site):=by
  have hlk:∀ k,look ((site,Ob.arr e esz (rows++news))::rem site (Q4w old st.h)) k=if k=site then some (.arr e esz (rows++news)) else if old=some k then none else look st.h k:=by
    intro k
    rw [Jz]
    by_cases e1:k=site
    · simp [e1]
    · rw [if_neg e1,if_neg e1]
      cases old with
      | none=>simp [Q4w]
      | some l=>
        simp only [Q4w,Q56,Option.some.injEq]
        by_cases e2:k=l
        · simp [e2]
        · rw [if_neg e2,if_neg (fun h=>e2 h.symm)]
  have hSw:∀ b,S b→w'.heap[b]? = w.heap[b]?:=fun b hS=>hg.block b (hR.hr.sb b hS) (fun e1=>by
    obtain ⟨l,hl,hb⟩:=hblk b e1.symm
    exact hR.hr.apart l b (hold l hl) hb hS)
  have hother:∀ k b,(look st.h k).isSome=true→old≠some k→β k=some b→w'.heap[b]? = w.heap[b]?:=fun k b hs hne hb=>hg.block b (NL hR hs hb) (fun e1=>by
    obtain ⟨l,hl,hb'⟩:=hblk b e1.symm
    exact hne (by rw [hl,hR.hr.inj k l b hs (hold l hl) hb hb']))
  have hlen:(xs++vals).length=(rows.length+news.length)*esz:=hown.1
  have hcells:∀ (i j:Nat) (r:List D) (y:D),(rows++news)[i]? = some r→r[j]? = some y→∃ u,(xs++vals)[i*esz+j]? = some u∧Rd S w' u y:=by
    intro i j r y h1 h2
    by_cases hi:i<rows.length
    · rw [List.getElem?_append_left hi] at h1
      obtain ⟨u,hu,hr⟩:=hxs i j r y h1 h2
      refine ⟨u,?_,hr.mono (fun _ h=>h) hSw⟩
      rw [List.getElem?_append_left ((List.getElem?_eq_some_iff.1 hu).1)]
      exact hu
    · rw [List.getElem?_append_right (by omega)] at h1
      obtain ⟨u,hu,hr⟩:=hsrc.rd _ j r y h1 h2
      refine ⟨u,?_,hr.mono (fun _ h=>h) hSw⟩
      have hm:i*esz=(i-rows.length)*esz+rows.length*esz:=by rw [← Nat.add_mul];congr 1;omega
      rw [List.getElem?_append_right (by omega),hxl,show i*esz+j-rows.length*esz=(i-rows.length)*esz+j from by omega]
      exact hu
  have hrows:∀ (i:Nat) (r:List D),(rows++news)[i]? = some r→r.length=esz:=by
    intro i r h1
    by_cases hi:i<rows.length
    · rw [List.getElem?_append_left hi] at h1;exact hrow i r h1
    · rw [List.getElem?_append_right (by omega)] at h1;exact hsrc.row _ r h1
  obtain ⟨gb,hgb,hob,hrd⟩:∃ gb:Option Nat,v'.ownBlock=gb∧(∀ β',β' site=gb→ObR β' S (look ((site,Ob.arr e esz (rows++news))::rem site (Q4w old st.h))) w' site (.arr e esz (rows++news))) ∧
      ∀ β',β' site=gb→RdA β' S (look ((site,.arr e esz (rows++news))::rem site (Q4w old st.h))) w' (tmv a) v' (.arr site):=by
    rcases hown.2 with ⟨rfl,h0⟩ | ⟨g,cap,cur,rfl,_,hw,hcap,hmax,hcs,htake⟩
    · have hr0:rows++news=[]:=List.eq_nil_of_length_eq_zero (by simpa using h0)
      refine ⟨none,rfl,fun β' hb=>.inl ⟨hb,hr0⟩,fun β' hb=>.arr0 site e esz hb (by rw [hlk,if_pos rfl,hr0])⟩
    · have hcl:(rows++news).length=rows.length+news.length:=by simp
      refine ⟨some g,rfl,fun β' hb=>.inr ⟨g,cur,hb,hw,?_,hrows,fun i j r y h1 h2=>?_⟩,fun β' hb=>?_⟩
      · rw [hcl,hcs];exact Nat.mul_le_mul_right _ hcap
      · obtain ⟨u,hu,hr⟩:=hcells i j r y h1 h2
        refine ⟨u,?_,hr⟩
        rw [← htake,List.getElem?_take] at hu
        split at hu
        · simpa using hu
        · cases hu
      · have:=RdA.arr (S:=S) (tm:=tmv a) (h:=look ((site,Ob.arr e esz (rows++news))::rem site (Q4w old st.h))) site g cap e esz (rows++news) cur e (0,0) hb (by rw [hlk,if_pos rfl]) hw hcs (by rw [hcl];exact hcap) hmax
        rw [hcl] at this
        exact this
  have hgnew:∀ k b,k≠site→(look st.h k).isSome=true→old≠some k→β k=some b→gb=some b→False:=by
    intro k b _ hs hne hb he
    rcases hat with h | h
    · obtain ⟨l,hl,hb'⟩:=hblk b (by rw [← h,hgb,he])
      exact hne (by rw [hl,hR.hr.inj k l b hs (hold l hl) hb hb'])
    · have:=h b (by rw [hgb,he])
      have:=NL hR hs hb
      omega
  have hsome:∀ k,k≠site→(look ((site,Ob.arr e esz (rows++news))::rem site (Q4w old st.h)) k).isSome=true→(look st.h k).isSome=true∧old≠some k:=by
    intro k hk hs
    rw [hlk,if_neg hk] at hs
    by_cases e1:old=some k
    · rw [if_pos e1] at hs;cases hs
    · rw [if_neg e1] at hs;exact ⟨hs,e1⟩
  have hnos:old≠some site:=fun e1=>by have:=hold site e1;rw [hn] at this;cases this
  refine ⟨Cp β site gb,S,?_,hrd _ (by simp [Cp])⟩
  refine hR.upd (fun _ h=>h) hSw (fun k=>k=site∨old=some k) (fun k hk=>?_) (fun k hk=>?_) (fun k o hk ho=>?_) ?_ ?_ ?_ (fun b hS=>Nat.lt_of_lt_of_le (hR.hr.sb b hS) hg.size) hR.hr.sfr ?_
  · have hk1:k≠site:=fun h=>hk (.inl h)
    have hk2:old≠some k:=fun h=>hk (.inr h)
    exact ⟨by simp [Cp,hk1],by rw [hlk,if_neg hk1,if_neg hk2],fun b hs hb=>hother k b hs hk2 hb⟩
  · rcases hk with rfl | hk
    · exact .inr hc
    · left
      have hk1:k≠site:=fun h=>hnos (h▸hk)
      have hnone:look ((site,Ob.arr e esz (rows++news))::rem site (Q4w old st.h)) k=none:=by rw [hlk,if_neg hk1,if_pos hk]
      exact ⟨by simp [Cp,hk1],fun _=>hnone,fun _ _ _ _=>.inl hnone,fun b cs ty fz hs=>by rw [hnone] at hs;cases hs⟩
  · by_cases e1:k=site
    · subst e1
      rw [hlk,if_pos rfl] at ho
      injection ho with ho
      subst ho
      exact hob _ (by simp [Cp])
    · rcases hk with h | h
      · exact absurd h e1
      · rw [hlk,if_neg e1,if_pos h] at ho;cases ho
  · intro k k' b h1 h2 h3 h4
    unfold Cp at h3 h4
    by_cases e1:k=site <;> by_cases e2:k'=site
    · rw [e1,e2]
    · rw [if_pos e1] at h3;rw [if_neg e2] at h4
      obtain ⟨hs,hne⟩:=hsome k' e2 h2
      exact (hgnew k' b e2 hs hne h4 h3).elim
    · rw [if_neg e1] at h3;rw [if_pos e2] at h4
      obtain ⟨hs,hne⟩:=hsome k e1 h1
      exact (hgnew k b e1 hs hne h3 h4).elim
    · rw [if_neg e1] at h3;rw [if_neg e2] at h4
      exact hR.hr.inj k k' b (hsome k e1 h1).1 (hsome k' e2 h2).1 h3 h4
  · intro k b h1 h2 hS
    unfold Cp at h2
    by_cases e1:k=site
    · rw [if_pos e1] at h2
      rcases hat with h | h
      · obtain ⟨l,hl,hb'⟩:=hblk b (by rw [← h,hgb,h2])
        exact hR.hr.apart l b (hold l hl) hb' hS
      · have:=h b (by rw [hgb,h2])
        have:=hR.hr.sb b hS;omega
    · rw [if_neg e1] at h2
      exact hR.hr.apart k b (hsome k e1 h1).1 h2 hS
  · intro k b h1 h2
    unfold Cp at h2
    by_cases e1:k=site
    · rw [if_pos e1] at h2
      rcases hat with h | h
      · obtain ⟨l,hl,hb'⟩:=hblk b (by rw [← h,hgb,h2])
        exact hR.hr.own l b (hold l hl) hb'
      · have:=h b (by rw [hgb,h2])
        right;have:=hR.hr.fr.size;omega
    · rw [if_neg e1] at h2
      exact hR.hr.own k b (hsome k e1 h1).1 h2
  · have fr:=hR.hr.fr
    refine ⟨hg.os.trans fr.os,hg.tape.trans fr.tape,hg.output.trans fr.output,Nat.le_trans fr.size hg.size,fun b hb hM=>(hg.block b (Nat.lt_of_lt_of_le hb fr.size) (fun e1=>?_)).trans (fr.block b hb hM)⟩
    obtain ⟨l,hl,hb'⟩:=hblk b e1.symm
    rcases hR.hr.own l b (hold l hl) hb' with h | h
    · exact hM h
    · omega
theorem Q3c {β:Nat→Option Nat} {S:Nat→Prop} {st:St} {a:Act} {w w':World} (hR:Rel E β S st a w) {site e esz:Nat} {rows news:List (List D)} {vals:List Value} {x:Value} (hsrc:Src S w esz x news vals)
    (hn:look st.h site=none) (hc:Jo st site=true) {v v':Value} {base:Nat} {xs:List Value} (old:Option Nat)
    (hold:∀ l,old=some l→(look st.h l).isSome=true)
    (hblk:∀ b,v.ownBlock=some b→∃ l,old=some l∧β l=some b)
    (hxs:∀ (i j:Nat) (r:List D) (y:D),rows[i]? = some r→r[j]? = some y→∃ u,xs[i*esz+j]? = some u∧Rd S w u y) (hrow:∀ (i:Nat) (r:List D),rows[i]? = some r→r.length=esz) (hxl:xs.length=rows.length*esz)
    (hown:w'.ownsRow base e esz v' (rows.length+news.length) (xs++vals)) (hg:w.grownBy w' v.ownBlock) (hat:v'.ownBlock=v.ownBlock∨v'.ownBlock=some w.heap.size) :
    ∃ β' S',Rel E β' S' ⟨st.n,st.tm,(site,.arr e esz (rows++news))::rem site (Q4w old st.h)⟩ a w' ∧
      RdA β' S' (look ((site,.arr e esz (rows++news))::rem site (Q4w old st.h))) w' (tmv a) v' (.arr site):=
  Q5A hR hsrc hn hc old hold hblk hxs hrow hxl hown hg (hat.imp id fun h b hb=>by rw [h] at hb;injection hb with hb;omega)
theorem Qb0 {tt:TT} (hT:TOk P tt) {o:Oper} {c:Call} {s x:Operand} {t:Nat} (ho:o.op = .call c) (hcal:c.callee = .builtin .append) (ha:c.args.toList=[s,x]) (hat:c.argTypes.toList=[t,t]) {g:Bool} {site:Nat} {ev:Operand→AV} {hl:Nat→Option Ob} {k:Dl→Option R} {r:R}
    (h:Qaj tt site g hl t (ev s) (ev x) k=some r):∃ dl,k dl=some r∧(g=true→Re P E o ev hl dl):=by
  have hargs:c.args = #[s,x]:=by rw [← Array.toList_inj];simpa using ha
  have hms:s∈o.op.operands.toList:=by simp [ho,Op.operands,Call.operands,hcal,hargs]
  have hmx:x∈o.op.operands.toList:=by simp [ho,Op.operands,Call.operands,hcal,hargs]
  unfold Qaj at h
  · split at h
    case h_2=>cases h
    rename_i e esz hk
    split at h
    case h_2=>cases h
    rename_i ei hei
    cases hc:(Nat.ble 1 ei.bytes&&Nat.beq ei.zero.length esz) with
    | false=>simp [hc] at h
    | true=>
      simp only [hc,cond_true] at h
      simp only [Bool.and_eq_true] at hc
      have hbytes:=Nat.le_of_ble_eq_true hc.1
      split at h
      case h_2=>cases h
      rename_i news rx hnews
      obtain ⟨ti,hti,hkd⟩:=Z2 hk (by simp)
      obtain ⟨hu,hpos,inf,hinf,hsz⟩:=(hT t ti hti).ksl _ _ hkd
      obtain ⟨inf',hinf',hs',hby,z,hz,hzc⟩:=(hT e ei hei).inf
      rw [hinf] at hinf'
      injection hinf' with hinf'
      subst hinf'
      have hzsz:z.cells.size=esz:=by rw [← Array.length_toList,hzc];exact Nat.eq_of_beq_eq_true hc.2
      split at h
      · -- nil
        rename_i hes
        obtain ⟨_,h,hroom⟩:=Qc h
        obtain ⟨hn,h⟩:=T9 h
        refine ⟨_,h,fun hg=>?_⟩
        have hroom:=FJ (hroom hg)
        intro β S st a w hR hO hA hcl K Q hK
        have hlk:look st.h site=none:=by rw [hA site (.inr (by simp [wrL]))];exact hn
        have hcs:Jo st site=true:=by simpa [VJ,hlk] using hcl
        have hv:=(hes▸hO.at hms).nil_inv
        obtain ⟨vals,hsrc⟩:=Q9c hpos hnews hR (hO.at hmx) (fun l hl'=>hA l (.inl hl'))
        have hm47:news.length≤140737488355328:=Nat.le_trans (by have:=Nat.mul_le_mul_left news.length hbytes;omega) hroom
        obtain ⟨v',w',g1,g2,g3,g4⟩:=Rg (ty:=o.type) hu hinf hz hsz hzsz hpos (World.ownsRow_nil w w.heap.size e esz) hsrc (by unfold maxLen;omega) (by rw [hby];simpa using hroom) (Nat.le_refl _)
        unfold Oper.wp
        rw [NN ho hcal ha hat (by rw [hv];exact g1)]
        refine hK _ _ ?_
        have:=Q3c (rows:=[]) (v:=.slice none 0 0) hR hsrc hlk hcs none (fun _ h=>by cases h) (fun b h=>by simp [Value.ownBlock] at h) (fun i j r y h1=>by simp at h1) (fun i r h1=>by simp at h1) (by simp) g2 g3 g4
        exact this
      · -- a full slice
        rename_i s0 rows hes
        cases hb:Nat.beq s0 esz with
        | false=>simp [hb] at h
        | true=>
          simp only [hb,cond_true] at h
          obtain rfl:=Nat.eq_of_beq_eq_true hb
          obtain ⟨_,h,hne⟩:=Qc h
          obtain ⟨_,h,hroom⟩:=Qc h
          obtain ⟨hn,h⟩:=T9 h
          refine ⟨_,h,fun hg=>?_⟩
          have hroom:=FJ (hroom hg)
          have hne:news≠[]:=fun e=>by have:=hne hg;rw [e] at this;cases this
          intro β S st a w hR hO hA hcl K Q hK
          have hlk:look st.h site=none:=by rw [hA site (.inr (by simp [wrL]))];exact hn
          have hcs:Jo st site=true:=by simpa [VJ,hlk] using hcl
          obtain ⟨ad,hv,hrd⟩:=(hes▸hO.at hms).fs_inv
          obtain ⟨vals,hsrc⟩:=Q9c hpos hnews hR (hO.at hmx) (fun l hl'=>hA l (.inl hl'))
          have hm47:rows.length+news.length≤140737488355328:=Nat.le_trans (by have:=Nat.mul_le_mul_left (rows.length+news.length) hbytes;omega) hroom
          have hnl:0<news.length:=List.length_pos_iff.2 hne
          obtain ⟨sa,sc,hxv,hxc⟩:∃ (sa:Addr) (sc:Nat),a.eval x = .slice (some sa) news.length sc∧∀ (j:Nat) (u:Value),vals[j]? = some u→w.cell? (sa.add j)=some u:=by
            rcases hsrc.form with ⟨_,h2⟩ | ⟨_,_,h2⟩ | ⟨sa,sc,h1,h2⟩
            · exact absurd h2 hne
            · exact absurd h2 hne
            · exact ⟨sa,sc,h1,h2⟩
          obtain ⟨olds,hold⟩:=Q9c (hl:=hl) (av:=.d (.sl s0 rows)) (news:=rows) (rx:=[]) hpos (by simp [Q7p]) hR (.d _ _ hrd) (fun l hl'=>by cases hl')
          have nilc:∀ c,a.eval s = .slice none 0 c→rows=[]→o.wp P a w K Q:=by
            intro c hc0 hr0
            have hv0:a.eval s = .slice none 0 0:=by
              rw [hv,hr0] at hc0 ⊢
              injection hc0 with h1 h2 h3
              rw [h1];rfl
            subst hr0
            obtain ⟨v',w',g1,g2,g3,g4⟩:=Rg (ty:=o.type) hu hinf hz hsz hzsz hpos (World.ownsRow_nil w w.heap.size e s0) hsrc (by unfold maxLen;omega) (by rw [hby];simpa using hroom) (Nat.le_refl _)
            unfold Oper.wp
            rw [NN ho hcal ha hat (by rw [hv0];exact g1)]
            refine hK _ _ ?_
            exact Q3c (rows:=[]) (v:=.slice none 0 0) hR hsrc hlk hcs none (fun _ h=>by cases h) (fun b h=>by simp [Value.ownBlock] at h) (fun i j r y h1=>by simp at h1) (fun i r h1=>by simp at h1) (by simp) g2 g3 g4
          rcases hold.form with ⟨h1,h2⟩ | ⟨c,h1,h2⟩ | ⟨oa,oc,h1,h2⟩
          · exact nilc _ h1 h2
          · exact nilc _ h1 h2
          · have hoc:oc=rows.length:=by
              rw [hv] at h1
              injection h1 with _ _ h3
              exact h3.symm
            obtain ⟨v',w',g1,g2,g3⟩:=run_append_arg_grows (P:=P) w t o.type e inf z s0 inf.bytes hu hinf hz hsz rfl hzsz hpos oa rows.length oc olds hold.len h2 sa news.length sc vals hsrc.len hxc (by omega) (by unfold maxLen;omega) (by rw [hby];exact hroom)
            unfold Oper.wp
            rw [NN ho hcal ha hat (by rw [h1,hxv];exact g1)]
            refine hK _ _ ?_
            refine Q5A (rows:=rows) (v:=.slice none 0 0) hR hsrc hlk hcs none (fun _ h=>by cases h) (fun b h=>by simp [Value.ownBlock] at h) hold.rd hold.row hold.len g2 g3 (.inr fun b hb=>?_)
            rcases g2.2 with ⟨rfl,_⟩ | ⟨g,cap,cur,rfl,hge,_⟩
            · simp [Value.ownBlock] at hb
            · simp [Value.ownBlock] at hb;omega
      · -- an array of the call's own
        rename_i l hes
        split at h
        · rename_i e' s' rows harr
          cases hb:(Nat.beq e e'&&Nat.beq esz s') with
          | false=>simp [hb] at h
          | true=>
            simp only [hb,cond_true] at h
            simp only [Bool.and_eq_true] at hb
            obtain rfl:=Nat.eq_of_beq_eq_true hb.1
            obtain rfl:=Nat.eq_of_beq_eq_true hb.2
            obtain ⟨_,h,hroom⟩:=Qc h
            obtain ⟨hn,h⟩:=T9 h
            refine ⟨_,h,fun hg=>?_⟩
            have hroom:=FJ (hroom hg)
            intro β S st a w hR hO hA hcl K Q hK
            have hlk:look st.h site=none:=by rw [hA site (.inr (by simp [wrL]))];exact hn
            have hlko:look st.h l=some (.arr e esz rows):=by rw [hA l (.inl (by simp))];exact harr
            have hcs:Jo st site=true:=by simp [VJ,hlk] at hcl;exact hcl
            obtain ⟨vals,hsrc⟩:=Q9c hpos hnews hR (hO.at hmx) (fun l hl'=>hA l (.inl (by simp [hl'])))
            have hm47:rows.length+news.length≤140737488355328:=Nat.le_trans (by have:=Nat.mul_le_mul_left (rows.length+news.length) hbytes;omega) hroom
            have fin:∀ (base:Nat) (xs:List Value) (v:Value),a.eval s=v→w.ownsRow base e esz v rows.length xs→base≤w.heap.size→(∀ b,v.ownBlock=some b→β l=some b) →
                (∀ (i j:Nat) (r:List D) (y:D),rows[i]? = some r→r[j]? = some y→∃ u,xs[i*esz+j]? = some u∧Rd S w u y)→(∀ (i:Nat) (r:List D),rows[i]? = some r→r.length=esz)→o.wp P a w K Q:=by
              intro base xs v hv hown hbase hblk hxs hrow
              obtain ⟨v',w',g1,g2,g3,g4⟩:=Rg (ty:=o.type) hu hinf hz hsz hzsz hpos hown hsrc (by unfold maxLen;omega) (by rw [hby];exact hroom) hbase
              unfold Oper.wp
              rw [NN ho hcal ha hat (by rw [hv];exact g1)]
              refine hK _ _ ?_
              exact Q3c (rows:=rows) (v:=v) hR hsrc hlk hcs (some l) (fun l' h=>by injection h with h;subst h;simp [hlko]) (fun b h=>⟨l,rfl,hblk b h⟩) hxs hrow hown.1 g2 g3 g4
            rcases RdA.arr_inv hlko (hes▸hO.at hms) with ⟨_,hr0,hv⟩ | ⟨b,cap,cs,ty,fz,hb',hv,hw,hcsz,hcap,hmax⟩
            · have:=World.ownsRow_nil w w.heap.size e esz
              exact fin w.heap.size [] _ hv (by rw [hr0];exact this) (Nat.le_refl _) (fun b h=>by simp [Value.ownBlock] at h) (fun i j r y h1=>by rw [hr0] at h1;simp at h1) (fun i r h1=>by rw [hr0] at h1;simp at h1)
            · rcases hR.hr.ob l _ hlko with ⟨hnn,_⟩ | ⟨b2,cs2,hb2,hw2,hsz2,hrl,hrd⟩
              · rw [hb'] at hnn;cases hnn
              obtain rfl:b=b2:=by rw [hb'] at hb2;injection hb2
              obtain rfl:cs=cs2:=by rw [hw] at hw2;injection hw2 with h1;injection h1
              refine fin 0 (cs.toList.take (rows.length*esz)) _ hv ⟨by simp;omega,.inr ⟨b,cap,cs,rfl,Nat.zero_le _,hw2,hcap,hmax,hcsz,rfl⟩⟩ (Nat.zero_le _) (fun b3 h=>by simp [Value.ownBlock] at h;subst h;exact hb') (fun i j r y h1 h2=>?_) hrl
              obtain ⟨u,hu',hru⟩:=hrd i j r y h1 h2
              have hi:i<rows.length:=(List.getElem?_eq_some_iff.1 h1).1
              have hj:j<esz:=by have:=hrl i r h1;have:=(List.getElem?_eq_some_iff.1 h2).1;omega
              have hmul:(i+1)*esz≤rows.length*esz:=Nat.mul_le_mul_right _ hi
              have hsucc:(i+1)*esz=i*esz+esz:=Nat.succ_mul i _
              exact ⟨u,by rw [List.getElem?_take,if_pos (by omega)];simpa using hu',hru⟩
        · cases h
      · cases h
end

section
variable {P:Program} {E:Env} {R:Type}
def H7 (h:Nat→Option Ob):List (Nat × Option Ob)→Nat→Option Ob
  | []=>h
  | (l,o)::r=>H7 (fun k=>if k=l then o else h k) r
theorem Rt:∀ (wr:List (Nat × Option Ob)) (h:List (Nat × Ob)),look (Af h wr)=H7 (look h) wr
  | [],h=>rfl
  | (l,some o)::r,h=>by
    rw [Af,H7,Rt r]
    congr 1
    funext k
    exact Jz l k o h
  | (l,none)::r,h=>by
    rw [Af,H7,Rt r]
    congr 1
    funext k
    exact Q56 l k h
theorem VZ:∀ {wr:List (Nat × Option Ob)} {h:Nat→Option Ob} {l:Nat},l ∉ wr.map (·.1)→H7 h wr l=h l
  | [],_,_,_=>rfl
  | (k,o)::r,h,l,hn=>by
    simp only [List.map_cons,List.mem_cons,not_or] at hn
    rw [H7,VZ hn.2,if_neg hn.1]
structure CallOut (β:Nat→Option Nat) (S:Nat→Prop) (h:Nat→Option Ob) (w:World) (dl:Dl) (β':Nat→Option Nat) (S':Nat→Prop) (w':World) (v:Value):Prop where
  hs:∀ b,S b→S' b
  sf:∀ b,S' b→S b∨w.heap.size≤b∨∃ l,l∈wrL dl∧(h l).isSome=true∧β l=some b
  sb:∀ b,S' b→b<w'.heap.size
  fr:Fr (fun b=>∃ l,l∈wrL dl∧(h l).isSome=true∧β l=some b) w w'
  bsame:∀ l,l ∉ wrL dl→β' l=β l
  obs:∀ l o,l∈wrL dl→H7 h dl.wr l=some o→ObR β' S' (H7 h dl.wr) w' l o
  keep:∀ l,l∈wrL dl→(h l).isSome=true→Keep β h w β' (H7 h dl.wr) w' l
  blk:∀ l b,l∈wrL dl→(H7 h dl.wr l).isSome=true→β' l=some b→(w.heap.size≤b∨∃ l0,l0∈wrL dl∧(h l0).isSome=true∧β l0=some b)∧¬ S' b
  inj:∀ l l' b,l∈wrL dl→l'∈wrL dl→(H7 h dl.wr l).isSome=true→(H7 h dl.wr l').isSome=true→β' l=some b→β' l'=some b→l=l'
  none:∀ l,l∈wrL dl→h l=none→H7 h dl.wr l=none→β' l=β l
  res:RdA β' S' (H7 h dl.wr) w' tm0 v dl.v
  gd:∀ t,gds t dl.v=false
structure Objs (β:Nat→Option Nat) (S:Nat→Prop) (h:Nat→Option Ob) (w:World):Prop where
  ob:∀ l o,h l=some o→ObR β S h w l o
  inj:∀ l l' b,(h l).isSome=true→(h l').isSome=true→β l=some b→β l'=some b→l=l'
  apart:∀ l b,(h l).isSome=true→β l=some b→¬ S b
  sb:∀ b,S b→b<w.heap.size
def ArgsRd (β:Nat→Option Nat) (S:Nat→Prop) (h:Nat→Option Ob) (w:World) (args:List Value) (avs:List AV):Prop:=
  args.length=avs.length∧∀ (i:Nat) (v:Value) (av:AV),args[i]? = some v→avs[i]? = some av→RdA β S h w tm0 v av
def QI (P:Program) (f:Nat) (avs:List AV) (hl:Nat→Option Ob) (dl:Dl):Prop:=
  (∃ fn, P.funcs[f]? = some fn ∧ fn.body.isSome = true ∧ (fn.name == "runtime.NumGoroutine") = false) ∧
  ∀ β S h w args,Objs β S h w→ArgsRd β S h w args avs→(∀ l,l∈dl.rd∨l∈wrL dl→h l=hl l) →
    Calls P f args.toArray w fun e w'=>∃ v β' S',e = .returned v∧CallOut β S h w dl β' S' w' v
def Q1P (P:Program) (spec:Q9K):Prop:=
  ∀ (R:Type) (f site:Nat) (g:Bool) (avs:List AV) (hl:Nat→Option Ob) (k:Dl→Option R) (r:R),spec R f site g avs hl k=some r →
    ∃ dl,k dl=some r∧(g=true→QI P f avs hl dl)
theorem Rel.objs {β:Nat→Option Nat} {S:Nat→Prop} {st:St} {a:Act} {w:World} (hR:Rel E β S st a w):Objs β S (look st.h) w:=⟨hR.hr.ob,hR.hr.inj,hR.hr.apart,hR.hr.sb⟩
theorem QeQ {β:Nat→Option Nat} {S S2:Nat→Prop} {h:Nat→Option Ob} {w:World} {tm:Nat→Value} {v:Value} {av:AV} (hv:RdA β S h w tm v av) (hs:F3 av=true):RdA β S2 h w tm v av:=by
  have hL:∀ (l:List AV) (i:Nat) (x:AV),l[i]? = some x→Bg l=true→F3 x=true:=by
    intro l
    induction l with
    | nil=>intro i x h;simp at h
    | cons a r ih=>
      intro i x h hs
      simp only [Bg,Bool.and_eq_true] at hs
      cases i with
      | zero=>simp at h;subst h;exact hs.1
      | succ i=>exact ih i x (by simpa using h) hs.2
  induction hv with
  | top v=>exact .top v
  | d v x hx=>cases hx with
    | int k n=>exact .d _ _ (.int k n)
    | bool b=>exact .d _ _ (.bool b)
    | str s=>exact .d _ _ (.str s)
    | sl0 a c s=>simp [F3] at hs
    | sl=>simp [F3] at hs
  | nil=>exact .nil
  | ag cs l hl _ ih=>exact .ag cs l hl fun i x hx=>ih i x hx (hL l i x hx (by simpa [F3] using hs))
  | tup cs l hl _ ih=>exact .tup cs l hl fun i x hx=>ih i x hx (hL l i x hx (by simpa [F3] using hs))
  | fn=>simp [F3] at hs
  | ptr l off b hb=>exact .ptr l off b hb
  | sa v l t b hb hv=>exact .sa v l t b hb hv
  | el=>simp [F3] at hs
  | fs=>simp [F3] at hs
  | mpd=>simp [F3] at hs
  | ex v=>exact .ex v
  | arr0 l e s hb hh=>exact .arr0 l e s hb hh
  | arr l b cap e s rows cs ty fz hb hh hw hcs hcap hmax=>exact .arr l b cap e s rows cs ty fz hb hh hw hcs hcap hmax
  | ap l i off b e s rows hb hh=>exact .ap l i off b e s rows hb hh
  | dang v av l hl hh h1=>exact .dang v av l hl hh h1
  | gdT=>simp [F3] at hs
  | gdF=>simp [F3] at hs
theorem QeN {β β':Nat→Option Nat} {S S':Nat→Prop} {st:St} {a:Act} {w w':World} {v:Value} (hR:Rel E β S st a w) {dl:Dl} (hcl:VJ st dl.wr=true) (hc:CallOut β S (look st.h) w dl β' S' w' v) :
    Rel E β' S' ⟨st.n,st.tm,Af st.h dl.wr⟩ a w':=by
  have hlk:=Rt dl.wr st.h
  have hSw:∀ b,S b→w'.heap[b]? = w.heap[b]?:=fun b hS=>hc.fr.block b (hR.hr.sb b hS) (fun ⟨l,_,hs,hb⟩=>hR.hr.apart l b hs hb hS)
  have hclean:∀ l,l∈wrL dl→look st.h l=none→H7 (look st.h) dl.wr l=none∨Jo st l=true:=by
    intro l hl hn
    have:∀ (wr:List (Nat × Option Ob)) (h:Nat→Option Ob),VJ st wr=true→h l=none→H7 h wr l=none∨Jo st l=true:=by
      intro wr
      induction wr with
      | nil=>intro h _ hn;exact .inl hn
      | cons x r ih=>
        intro h hcw hn'
        obtain ⟨k,o⟩:=x
        simp only [VJ,Bool.and_eq_true] at hcw
        by_cases e:l=k
        · subst e
          cases o with
          | none=>exact ih _ hcw.2 (by simp)
          | some o=>
            right
            have:=hcw.1
            rw [hn] at this
            exact this
        · exact ih _ hcw.2 (by rw [if_neg e];exact hn')
    exact this dl.wr (look st.h) hcl hn
  refine hR.upd hc.hs hSw (fun l=>l∈wrL dl) (fun l hl=>?_) (fun l hl=>?_) (fun l o hl ho=>?_) ?_ ?_ ?_ hc.sb ?_ ?_
  · refine ⟨hc.bsame l hl,by rw [hlk];exact VZ hl,fun b hs hb=>hc.fr.block b (NL hR hs hb) (fun ⟨l',hl',hs',hb'⟩=>?_)⟩
    exact hl (by rw [hR.hr.inj l l' b hs hs' hb hb'];exact hl')
  · cases hs:look st.h l with
    | some o=>left;rw [hlk];exact hc.keep l hl (by simp [hs])
    | none=>
      rcases hclean l hl hs with h | h
      · left
        refine ⟨?_,fun _=>(by rw [hlk];exact h),fun e s rows h'=>(by rw [hs] at h';cases h'),fun b cs ty fz h'=>(by rw [hlk,h] at h';cases h')⟩
        exact hc.none l hl hs h
      · exact .inr h
  · rw [hlk] at ho ⊢;exact hc.obs l o hl ho
  · intro l l' b h1 h2 h3 h4
    rw [hlk] at h1 h2
    by_cases e1:l∈wrL dl <;> by_cases e2:l'∈wrL dl
    · exact hc.inj l l' b e1 e2 h1 h2 h3 h4
    · rw [VZ e2] at h2
      rw [hc.bsame l' e2] at h4
      rcases (hc.blk l b e1 h1 h3).1 with h | ⟨l0,hm0,hs,hb⟩
      · have:=NL hR h2 h4;omega
      · exact absurd hm0 (by rw [hR.hr.inj l0 l' b hs h2 hb h4];exact e2)
    · rw [VZ e1] at h1
      rw [hc.bsame l e1] at h3
      rcases (hc.blk l' b e2 h2 h4).1 with h | ⟨l0,hm0,hs,hb⟩
      · have:=NL hR h1 h3;omega
      · exact absurd hm0 (by rw [← hR.hr.inj l l0 b h1 hs h3 hb];exact e1)
    · rw [VZ e1] at h1;rw [VZ e2] at h2
      rw [hc.bsame l e1] at h3;rw [hc.bsame l' e2] at h4
      exact hR.hr.inj l l' b h1 h2 h3 h4
  · intro l b h1 h2 hS
    rw [hlk] at h1
    by_cases e1:l∈wrL dl
    · exact (hc.blk l b e1 h1 h2).2 hS
    · rw [VZ e1] at h1
      rw [hc.bsame l e1] at h2
      rcases hc.sf b hS with h | h | ⟨l',hl',hs',hb'⟩
      · exact hR.hr.apart l b h1 h2 h
      · have:=NL hR h1 h2;omega
      · exact e1 (by rw [hR.hr.inj l l' b h1 hs' h2 hb'];exact hl')
  · intro l b h1 h2
    rw [hlk] at h1
    by_cases e1:l∈wrL dl
    · rcases (hc.blk l b e1 h1 h2).1 with h | ⟨l0,_,hs,hb⟩
      · right;have:=hR.hr.fr.size;omega
      · exact hR.hr.own l0 b hs hb
    · rw [VZ e1] at h1
      rw [hc.bsame l e1] at h2
      exact hR.hr.own l b h1 h2
  · intro b hS
    rcases hc.sf b hS with h | h | ⟨l',hl',hs',hb'⟩
    · exact hR.hr.sfr b h
    · right;right;have:=hR.hr.fr.size;omega
    · exact .inr (hR.hr.own l' b hs' hb')
  · have fr:=hR.hr.fr
    refine ⟨hc.fr.os.trans fr.os,hc.fr.tape.trans fr.tape,hc.fr.output.trans fr.output,Nat.le_trans fr.size hc.fr.size,fun b hb hM=>(hc.fr.block b (Nat.lt_of_lt_of_le hb fr.size) (fun ⟨l,_,hs,hb'⟩=>?_)).trans (fr.block b hb hM)⟩
    rcases hR.hr.own l b hs hb' with h | h
    · exact hM h
    · omega
end

section
variable {P:Program} {E:Env} {R:Type}
def fzS (β:Nat→Option Nat) (S:Nat→Prop) (bs:List Nat):Nat→Prop:=fun b=>S b∨∃ l,l∈bs∧β l=some b
def fzH (h:Nat→Option Ob) (bs:List Nat):Nat→Option Ob:=fun k=>if k∈bs then none else h k
theorem Qgv (β:Nat→Option Nat) (h:Nat→Option Ob) (w:World) (bs:List Nat) (l:Nat):Keep β h w β (fzH h bs) w l:=by
  by_cases hl:l∈bs
  · have hn:fzH h bs l=none:=by simp [fzH,hl]
    exact ⟨rfl,fun _=>hn,fun _ _ _ _=>.inl hn,fun b cs ty fz hs=>by rw [hn] at hs;cases hs⟩
  · have hn:fzH h bs l=h l:=by simp [fzH,hl]
    exact ⟨rfl,fun h=>by rw [hn];exact h,fun e s rows hh=>.inr ⟨rows,by rw [hn];exact hh,rfl⟩,fun b cs ty fz _ _ hw=>⟨cs,ty,fz,hw,rfl⟩⟩
theorem Qdn {β:Nat→Option Nat} {S:Nat→Prop} {h:Nat→Option Ob} {w:World} {tm:Nat→Value} {v:Value} {av:AV} (bs:List Nat) (hv:RdA β S h w tm v av):RdA β (fzS β S bs) (fzH h bs) w tm v av:=
  hv.mono (fun _ hb=>.inl hb) (fun _ _=>rfl) (fun _ _=>Qgv ..) (fun _ _=>rfl)
theorem Objs.fz {β:Nat→Option Nat} {S:Nat→Prop} {h:Nat→Option Ob} {w:World} (hO:Objs β S h w) (bs:List Nat) (hbs:∀ l,l∈bs→∃ e s rows,h l=some (.arr e s rows)) (hlt:∀ l b,(h l).isSome=true→β l=some b→b<w.heap.size):Objs β (fzS β S bs) (fzH h bs) w:=by
  have hsome:∀ l,(fzH h bs l).isSome=true→(h l).isSome=true∧l ∉ bs:=by
    intro l hs
    by_cases hl:l∈bs
    · simp [fzH,hl] at hs
    · simp [fzH,hl] at hs;exact ⟨hs,hl⟩
  refine ⟨fun l o ho=>?_,fun l l' b h1 h2=>hO.inj l l' b (hsome l h1).1 (hsome l' h2).1,fun l b h1 h2 hS=>?_,fun b hS=>?_⟩
  · have ho':h l=some o:=by
      by_cases hl:l∈bs
      · simp [fzH,hl] at ho
      · simpa [fzH,hl] using ho
    have hob:=hO.ob l o ho'
    cases o with
    | box cells=>
      obtain ⟨b,ty,cs,fz,hb,hw,hf,hsz,hr⟩:=hob
      exact ⟨b,ty,cs,fz,hb,hw,hf,hsz,fun i x hx=>Qdn bs (hr i x hx)⟩
    | arr e s rows=>
      rcases hob with h0 | ⟨b,cs,hb,hw,hsz,hrl,hr⟩
      · exact .inl h0
      · refine .inr ⟨b,cs,hb,hw,hsz,hrl,fun i j r x h4 h5=>?_⟩
        obtain ⟨v,hv,hr'⟩:=hr i j r x h4 h5
        exact ⟨v,hv,hr'.mono (fun _ hb=>.inl hb) (fun _ _=>rfl)⟩
  · obtain ⟨h1',hn⟩:=hsome l h1
    rcases hS with hS | ⟨l',hl',hb'⟩
    · exact hO.apart l b h1' h2 hS
    · obtain ⟨e,s,rows,hh⟩:=hbs l' hl'
      exact hn (by rw [hO.inj l l' b h1' (by simp [hh]) h2 hb'];exact hl')
  · rcases hS with hS | ⟨l,hl,hb⟩
    · exact hO.sb b hS
    · obtain ⟨e,s,rows,hh⟩:=hbs l hl
      exact hlt l b (by simp [hh]) hb
theorem QbX {β:Nat→Option Nat} {S:Nat→Prop} {h:Nat→Option Ob} {w:World} {tm:Nat→Value} {v:Value} {l e s:Nat} {rows:List (List D)} (hO:Objs β S h w) (hh:h l=some (.arr e s rows)) (hv:RdA β S h w tm v (.arr l)) {S':Nat→Prop} (hS:∀ b,S b→S' b) (hb:∀ b,β l=some b→S' b) :
    Rd S' w v (.sl s rows):=by
  rcases RdA.arr_inv hh hv with ⟨_,rfl,rfl⟩ | ⟨b,cap,cs,ty,fz,hb',rfl,hw,hcs,hcap,_⟩
  · exact .sl0 _ _ _
  · rcases hO.ob l _ hh with ⟨hn,_⟩ | ⟨b2,cs2,hb2,hw2,hsz,hrl,hrd⟩
    · rw [hb'] at hn;cases hn
    obtain rfl:b=b2:=by rw [hb'] at hb2;injection hb2
    have hR:JZ S' w cs2 s rows:=⟨hsz,hrl,fun i j r x h1 h2=>by
      obtain ⟨u,hu,hr⟩:=hrd i j r x h1 h2
      exact ⟨u,hu,hr.mono hS (fun _ _=>rfl)⟩⟩
    exact hR.rd hw2 (hb b hb') hcap
theorem Q3f {hl:Nat→Option Ob} {av av':AV} {bs:List Nat} (h:Qce hl av=some (av',bs)) :
    (bs=[]∧av'=av∧Q5a av=true)∨∃ l e s rows,av = .arr l∧av' = .d (.sl s rows)∧bs=[l]∧hl l=some (.arr e s rows):=by
  unfold Qce at h
  split at h
  · rename_i l
    split at h
    · rename_i e s rows hh
      cases h
      exact .inr ⟨l,e,s,rows,rfl,rfl,rfl,hh⟩
    · cases h
  · cases hn:Q5a av with
    | true=>simp only [hn,cond_true,Option.some.injEq,Prod.mk.injEq] at h;exact .inl ⟨h.2.symm,h.1.symm,rfl⟩
    | false=>simp [hn] at h
theorem Q67 {hl:Nat→Option Ob}:∀ {l l':List AV} {bs:List Nat},Q3R hl l=some (l',bs)→l'.length=l.length∧∀ (i:Nat) (av:AV),l[i]? = some av→∃ av' b,l'[i]? = some av'∧Qce hl av=some (av',b)∧∀ x∈b,x∈bs
  | [],l',bs,h=>by
    simp only [Q3R,Option.some.injEq,Prod.mk.injEq] at h
    obtain ⟨rfl,rfl⟩:=h
    exact ⟨rfl,fun i av h=>by simp at h⟩
  | a::r,l',bs,h=>by
    simp only [Q3R] at h
    split at h
    · rename_i a' b ha
      split at h
      · rename_i r' b' hr
        simp only [Option.some.injEq,Prod.mk.injEq] at h
        obtain ⟨rfl,rfl⟩:=h
        obtain ⟨h1,h2⟩:=Q67 hr
        refine ⟨by simp [h1],fun i av hi=>?_⟩
        cases i with
        | zero=>simp at hi;subst hi;exact ⟨a',b,rfl,ha,fun x hx=>by simp [hx]⟩
        | succ i=>
          obtain ⟨av',b2,g1,g2,g3⟩:=h2 i av (by simpa using hi)
          exact ⟨av',b2,by simpa using g1,g2,fun x hx=>by simp [g3 x hx]⟩
      · cases h
    · cases h
theorem Q9R {hl:Nat→Option Ob}:∀ {l l':List AV} {bs:List Nat},Q3R hl l=some (l',bs)→∀ x∈bs,∃ e s rows,hl x=some (.arr e s rows)
  | [],l',bs,h=>by
    simp only [Q3R,Option.some.injEq,Prod.mk.injEq] at h
    obtain ⟨_,rfl⟩:=h
    simp
  | a::r,l',bs,h=>by
    simp only [Q3R] at h
    split at h
    · rename_i a' b ha
      split at h
      · rename_i r' b' hr
        simp only [Option.some.injEq,Prod.mk.injEq] at h
        obtain ⟨_,rfl⟩:=h
        intro x hx
        rcases List.mem_append.1 hx with hx | hx
        · rcases Q3f ha with ⟨rfl,_⟩ | ⟨l,e,s,rows,_,_,rfl,hh⟩
          · simp at hx
          · simp at hx;subst hx;exact ⟨e,s,rows,hh⟩
        · exact Q9R hr x hx
      · cases h
    · cases h
theorem Q5m {hl:Nat→Option Ob} {av av':AV} {bs:List Nat} (h:Dp hl av=some (av',bs)):∀ x∈bs,∃ e s rows,hl x=some (.arr e s rows):=by
  unfold Dp at h
  split at h
  · split at h
    · rename_i cs' l hc
      simp only [Option.some.injEq,Prod.mk.injEq] at h
      obtain ⟨_,rfl⟩:=h
      exact Q9R hc
    · cases h
  · intro x hx
    rcases Q3f h with ⟨rfl,_⟩ | ⟨l,e,s,rows,_,_,rfl,hh⟩
    · simp at hx
    · simp at hx;subst hx;exact ⟨e,s,rows,hh⟩
theorem Q2m {hl:Nat→Option Ob}:∀ {l l':List AV} {bs:List Nat},DE hl l=some (l',bs)→∀ x∈bs,∃ e s rows,hl x=some (.arr e s rows)
  | [],l',bs,h=>by
    simp only [DE,Option.some.injEq,Prod.mk.injEq] at h
    obtain ⟨_,rfl⟩:=h
    simp
  | a::r,l',bs,h=>by
    simp only [DE] at h
    split at h
    · rename_i a' b ha
      split at h
      · rename_i r' b' hr
        simp only [Option.some.injEq,Prod.mk.injEq] at h
        obtain ⟨_,rfl⟩:=h
        intro x hx
        rcases List.mem_append.1 hx with hx | hx
        · exact Q5m ha x hx
        · exact Q2m hr x hx
      · cases h
    · cases h
theorem Q0x {hl:Nat→Option Ob}:∀ {l l':List AV} {bs:List Nat},DE hl l=some (l',bs)→l'.length=l.length∧∀ (i:Nat) (av:AV),l[i]? = some av→∃ av' b,l'[i]? = some av'∧Dp hl av=some (av',b)∧∀ x∈b,x∈bs
  | [],l',bs,h=>by
    simp only [DE,Option.some.injEq,Prod.mk.injEq] at h
    obtain ⟨rfl,rfl⟩:=h
    exact ⟨rfl,fun i av h=>by simp at h⟩
  | a::r,l',bs,h=>by
    simp only [DE] at h
    split at h
    · rename_i a' b ha
      split at h
      · rename_i r' b' hr
        simp only [Option.some.injEq,Prod.mk.injEq] at h
        obtain ⟨rfl,rfl⟩:=h
        obtain ⟨h1,h2⟩:=Q0x hr
        refine ⟨by simp [h1],fun i av hi=>?_⟩
        cases i with
        | zero=>simp at hi;subst hi;exact ⟨a',b,rfl,ha,fun x hx=>by simp [hx]⟩
        | succ i=>
          obtain ⟨av',b2,g1,g2,g3⟩:=h2 i av (by simpa using hi)
          exact ⟨av',b2,by simpa using g1,g2,fun x hx=>by simp [g3 x hx]⟩
      · cases h
    · cases h
theorem Qhm {β:Nat→Option Nat} {S:Nat→Prop} {h hl:Nat→Option Ob} {w:World} {tm:Nat→Value} {v:Value} {av av':AV} {b bs:List Nat} (hO:Objs β S h w) (hA:∀ l,l∈bs→h l=hl l) (hb:∀ x∈b,x∈bs) (hc:Qce hl av=some (av',b)) (hv:RdA β S h w tm v av) :
    RdA β (fzS β S bs) (fzH h bs) w tm0 v av':=by
  rcases Q3f hc with ⟨_,rfl,hn⟩ | ⟨l,e,s,rows,rfl,rfl,rfl,hh⟩
  · exact Qdn bs (hv.to_tm0 hn)
  · exact .d _ _ (QbX hO (by rw [hA l (hb l (by simp))];exact hh) hv (fun _ h=>.inl h) (fun b' h'=>.inr ⟨l,hb l (by simp),h'⟩))
theorem Qbc {β:Nat→Option Nat} {S:Nat→Prop} {h hl:Nat→Option Ob} {w:World} {tm:Nat→Value} {v:Value} {av av':AV} {b bs:List Nat} (hO:Objs β S h w) (hA:∀ l,l∈bs→h l=hl l) (hb:∀ x∈b,x∈bs) (hc:Dp hl av=some (av',b)) (hv:RdA β S h w tm v av) :
    RdA β (fzS β S bs) (fzH h bs) w tm0 v av':=by
  unfold Dp at hc
  split at hc
  · rename_i cs
    split at hc
    · rename_i cs' l hcs
      simp only [Option.some.injEq,Prod.mk.injEq] at hc
      obtain ⟨rfl,rfl⟩:=hc
      obtain ⟨vs,rfl,hsz,hr⟩:=hv.ag_inv
      obtain ⟨h1,h2⟩:=Q67 hcs
      refine .ag _ _ (by rw [hsz,h1]) fun i x hx=>?_
      have hi:i<cs.length:=by have:=(List.getElem?_eq_some_iff.1 hx).1;omega
      have hc:=List.getElem?_eq_getElem hi
      obtain ⟨av',b2,g1,g2,g3⟩:=h2 i _ hc
      rw [hx] at g1
      injection g1 with g1
      subst g1
      exact Qhm hO hA (fun y hy=>hb y (g3 y hy)) g2 (hr i _ hc)
    · cases hc
  · exact Qhm hO hA hb hc hv
theorem Qap {o : Oper} {c : Call} {f : Nat} (ho : o.op = .call c) (hc : c.callee = .value (.func f)) {fn : Func} (hf : P.funcs[f]? = some fn) (hb : fn.body.isSome = true) (hn : (fn.name == "runtime.NumGoroutine") = false) {a : Act} {w : World} :
    (execOp a.eval o).run P w = .ok (.enter f (c.args.map a.eval)) w:=by
  unfold execOp;rw [ho]
  have h1 : ¬ fn.name = "runtime.NumGoroutine" := by simpa using hn
  have h2:¬ fn.body=none:=by intro h;rw [h] at hb;cases hb
  simp [resolve,hc,Act.eval,Deferred.ofValue,invoke,callFunc,hf,h1,h2]
theorem Q5H {x:Nat}:∀ {l:List Nat},x∈l→Q2D x l=true
  | a::r,h=>by
    rcases List.mem_cons.1 h with rfl | h
    · simp [Q2D]
    · simp [Q2D,Q5H h]
theorem JP {a b:List Nat} (h:NM a b=false) {x:Nat} (h1:x∈a) (h2:x∈b):False:=by
  unfold NM at h
  rw [List.any_eq_false] at h
  exact h x h1 (Q5H h2)
theorem Q39 {h h':Nat→Option Ob}:∀ {wr:List (Nat × Option Ob)} {k:Nat},(k ∉ wr.map (·.1)→h k=h' k)→H7 h wr k=H7 h' wr k
  | [],k,hk=>hk (by simp)
  | (l,o)::r,k,hk=>by
    simp only [H7]
    refine Q39 fun hn=>?_
    by_cases e:k=l
    · simp [e]
    · rw [if_neg e,if_neg e]
      exact hk (by simp [e,hn])
theorem Q0V {h:Nat→Option Ob} {bs:List Nat} {l:Nat} (hl:l ∉ bs):fzH h bs l=h l:=by simp [fzH,hl]
theorem QfP (β:Nat→Option Nat) (S:Nat→Prop):fzS β S []=S:=by funext b;simp [fzS]
theorem QfZ (h:Nat→Option Ob):fzH h []=h:=by funext b;simp [fzH]
theorem QcA {wr:List (Nat × Option Ob)} (hw:Gl wr=true):∀ (h:Nat→Option Ob) {l:Nat} {o:Ob},l∈wr.map (·.1)→H7 h wr l=some o→(∃ cells,o = .box cells∧Bg cells=true∧(l,some o)∈wr)∨∃ e s rows,o = .arr e s rows∧QaY rows=true:=by
  induction wr with
  | nil=>intro h l o hl;simp at hl
  | cons x r ih=>
    intro h l o hl ho
    obtain ⟨k,ob⟩:=x
    have hw2:Gl r=true:=by
      cases ob with
      | none=>simpa [Gl] using hw
      | some ob=>cases ob <;> (simp only [Gl,Bool.and_eq_true] at hw;exact hw.2)
    simp only [H7] at ho
    by_cases hr:l∈r.map (·.1)
    · rcases ih hw2 _ hr ho with ⟨cells,h1,h2,h3⟩ | h1
      · exact .inl ⟨cells,h1,h2,by simp [h3]⟩
      · exact .inr h1
    · rw [VZ hr] at ho
      simp only [List.map_cons,List.mem_cons,hr,or_false] at hl
      rw [if_pos hl] at ho
      subst hl
      subst ho
      cases o with
      | box cells=>simp only [Gl,Bool.and_eq_true] at hw;exact .inl ⟨cells,rfl,hw.1,by simp⟩
      | arr e s rows=>simp only [Gl,Bool.and_eq_true] at hw;exact .inr ⟨e,s,rows,rfl,hw.1⟩
theorem SB:∀ {wr:List (Nat × Option Ob)},Q5I wr=true→Gl wr=true
  | [],_=>rfl
  | (_,none)::r,h=>by simp only [Q5I,Bool.and_eq_true] at h;simp only [Gl];exact SB h.2
  | (_,some (.box cells))::r,h=>by simp only [Q5I,Qel,Bool.and_eq_true] at h;simp only [Gl,Bool.and_eq_true];exact ⟨h.1,SB h.2⟩
  | (_,some (.arr ..))::r,h=>by simp [Q5I,Qel] at h
theorem TM {tt:TT}:∀ {wr:List (Nat × Option Ob)},Q13 tt wr=true→(Q9S wr).all QaY=true→Gl wr=true
  | [],_,_=>rfl
  | (_,none)::r,h,h2=>by simp only [Q13] at h;simp only [Q9S] at h2;simp only [Gl];exact TM h h2
  | (_,some (.box cells))::r,h,h2=>by simp only [Q13,Bool.and_eq_true] at h;simp only [Q9S] at h2;simp only [Gl,Bool.and_eq_true];exact ⟨h.1,TM h.2 h2⟩
  | (_,some (.arr _ _ rows))::r,h,h2=>by simp only [Q13,Bool.and_eq_true] at h;simp only [Q9S,List.all_cons,Bool.and_eq_true] at h2;simp only [Gl,Bool.and_eq_true];exact ⟨h2.1,TM h.2 h2.2⟩
theorem Qg3 {S S2:Nat→Prop} {w:World} {v:Value} {x:D} (h:Rd S w v x) (hf:Qcg x=true):Rd S2 w v x:=by
  cases h with
  | int k n=>exact .int k n
  | bool b=>exact .bool b
  | str s=>exact .str s
  | sl0 a c s=>simp [Qcg] at hf
  | sl=>simp [Qcg] at hf
theorem Qfe {rows:List (List D)} (h:QaY rows=true) {i j:Nat} {r:List D} {x:D} (h1:rows[i]? = some r) (h2:r[j]? = some x):Qcg x=true:=by
  simp only [QaY,List.all_eq_true] at h
  exact h r (List.mem_of_getElem? h1) x (List.mem_of_getElem? h2)
theorem Q9P:∀ {l:List AV} {i:Nat} {x:AV},l[i]? = some x→Bg l=true→F3 x=true
  | a::r,i,x,h,hs=>by
    simp only [Bg,Bool.and_eq_true] at hs
    cases i with
    | zero=>simp at h;subst h;exact hs.1
    | succ i=>exact Q9P (l:=r) (i:=i) (by simpa using h) hs.2
theorem QdZ {l k:Nat} {cells:List AV} {wr:List (Nat × Option Ob)} (hm:(k,some (Ob.box cells))∈wr) (hn:E7 l wr=false):KO l cells=false:=by
  induction wr with
  | nil=>simp at hm
  | cons x r ih=>
    obtain ⟨k',o⟩:=x
    rcases List.mem_cons.1 hm with h1 | h1
    · injection h1 with h2 h3
      subst h3
      simp only [E7,Bool.or_eq_false_iff] at hn
      exact hn.1
    · cases o with
      | none=>exact ih h1 (by simpa [E7] using hn)
      | some o=>
        cases o with
        | box c=>simp only [E7,Bool.or_eq_false_iff] at hn;exact ih h1 hn.2
        | arr e s rows=>exact ih h1 (by simpa [E7] using hn)
theorem Qc1 {h h':Nat→Option Ob} {wr:List (Nat × Option Ob)} {k:Nat} (hk:k∈wr.map (·.1)):H7 h wr k=H7 h' wr k:=Q39 fun hn=>absurd hk hn
theorem CallOut.back {β β':Nat→Option Nat} {S S':Nat→Prop} {h:Nat→Option Ob} {w w':World} {dl:Dl} {v:Value} {bs:List Nat} (hO:Objs β S h w) (hbs:∀ l,l∈bs→∃ e s rows,h l=some (.arr e s rows))
    (hm:NM bs (wrL dl)=false) (hnn:Q6k bs dl=true) (hf1:F3 dl.v=true) (hf2:Gl dl.wr=true) (hc:CallOut β (fzS β S bs) (fzH h bs) w dl β' S' w' v) :
    CallOut β S h w dl β' (fun b=>S' b∧¬ ∃ l,l∈bs∧β l=some b) w' v:=by
  have hwn:∀ l,l∈wrL dl→l ∉ bs:=fun l h1 h2=>JP hm h2 h1
  have hsome:∀ l,l∈bs→(h l).isSome=true:=fun l hl=>by obtain ⟨e,s,rows,hh⟩:=hbs l hl;simp [hh]
  have heq:∀ l,l ∉ bs→H7 (fzH h bs) dl.wr l=H7 h dl.wr l:=fun l hl=>Q39 fun _=>Q0V hl
  have hmono:∀ (u:Value) (av:AV),F3 av=true→(∀ l,l∈bs→U2 l av=false)→RdA β' S' (H7 (fzH h bs) dl.wr) w' tm0 u av→RdA β' (fun b=>S' b∧¬ ∃ l,l∈bs∧β l=some b) (H7 h dl.wr) w' tm0 u av:=by
    intro u av hs hn hr
    refine (QeQ (S2:=fun b=>S' b∧¬ ∃ l,l∈bs∧β l=some b) hr hs).mono (fun _ h=>h) (fun _ _=>rfl) (fun l hl=>?_) (fun _ _=>rfl)
    have hlb:l ∉ bs:=fun hb=>by rw [hn l hb] at hl;cases hl
    have he:=heq l hlb
    exact ⟨rfl,fun h=>by rw [← he];exact h,fun e s rows hh=>.inr ⟨rows,by rw [← he];exact hh,rfl⟩,fun b cs ty fz _ _ hw=>⟨cs,ty,fz,hw,rfl⟩⟩
  simp only [Q6k,List.all_eq_true,Bool.and_eq_true,Bool.not_eq_true'] at hnn
  have hfo:∀ l,l∈wrL dl→fzH h bs l=h l:=fun l hl=>Q0V (hwn l hl)
  refine ⟨fun b hS=>⟨hc.hs b (.inl hS),fun ⟨l,hl,hb⟩=>hO.apart l b (hsome l hl) hb hS⟩,fun b hS=>?_,fun b hS=>hc.sb b hS.1,?_,hc.bsame,fun l o hl ho=>?_,fun l hl hs=>?_,fun l b hl hs hb=>?_,fun l l' b h1 h2 h3 h4=>?_,fun l hl h1 h2=>?_,hmono v dl.v hf1 (fun l hl=>(hnn l hl).1) hc.res,hc.gd⟩
  · rcases hc.sf b hS.1 with h1 | h1 | ⟨l,h1,h2,h3⟩
    · rcases h1 with h1 | h1
      · exact .inl h1
      · exact absurd h1 hS.2
    · exact .inr (.inl h1)
    · exact .inr (.inr ⟨l,h1,by rw [← hfo l h1];exact h2,h3⟩)
  · exact hc.fr.mono fun b _ ⟨l,h1,h2,h3⟩=>⟨l,h1,by rw [← hfo l h1];exact h2,h3⟩
  · rcases QcA hf2 h hl ho with ⟨cells,rfl,hsl,hmem⟩ | ⟨e,s,rows,rfl,hfl⟩
    case inr=>
      rcases hc.obs l _ hl (by rw [heq l (hwn l hl)];exact ho) with g | ⟨b,cs,g1,g2,g3,g4,g5⟩
      · exact .inl g
      · refine .inr ⟨b,cs,g1,g2,g3,g4,fun i j r y h1 h2=>?_⟩
        obtain ⟨u,q1,q2⟩:=g5 i j r y h1 h2
        exact ⟨u,q1,Qg3 q2 (Qfe hfl h1 h2)⟩
    obtain ⟨b,ty,cs,fz,hb,hw,hf,hsz,hr⟩:=hc.obs l _ hl (by rw [heq l (hwn l hl)];exact ho)
    exact ⟨b,ty,cs,fz,hb,hw,hf,hsz,fun i x hx=>hmono _ x (Q9P hx hsl) (fun l' hl'=>Q9g hx (QdZ hmem (hnn l' hl').2)) (hr i x hx)⟩
  · have K:=hc.keep l hl (by rw [hfo l hl];exact hs)
    have he:=heq l (hwn l hl)
    exact ⟨K.b,fun h1=>by rw [← he];exact K.none_ (by rw [hfo l hl];exact h1),fun e s rows h1=>by rw [← he];exact K.arr e s rows (by rw [hfo l hl];exact h1),fun b cs ty fz h1=>K.cells b cs ty fz (by rw [he];exact h1)⟩
  · obtain ⟨h1,h2⟩:=hc.blk l b hl (by rw [heq l (hwn l hl)];exact hs) hb
    refine ⟨?_,fun h3=>h2 h3.1⟩
    rcases h1 with h1 | ⟨l0,g1,g2,g3⟩
    · exact .inl h1
    · exact .inr ⟨l0,g1,by rw [← hfo l0 g1];exact g2,g3⟩
  · rw [← heq l (hwn l h1)] at h3
    rw [← heq l' (hwn l' h2)] at h4
    exact hc.inj l l' b h1 h2 h3 h4
  · exact hc.none l hl (by rw [hfo l hl];exact h1) (by rw [heq l (hwn l hl)];exact h2)
theorem En {β β':Nat→Option Nat} {S S':Nat→Prop} {st:St} {a:Act} {w w':World} {v:Value} (hR:Rel E β S st a w) {dl:Dl} {rd:List Nat} (hcl:VJ st dl.wr=true) (hc:CallOut β S (look st.h) w dl β' S' w' v) :
    Out E st a ⟨dl.v,dl.wr,rd⟩ v w':=by
  have h1:=QeN hR hcl hc
  have h2:=hc.res
  rw [← Rt] at h2
  refine ⟨β',S',h1,?_⟩
  exact h2.mono (fun _ h=>h) (fun _ _=>rfl) (fun l _=>Keep.rfl_ ..) (fun t ht=>by rw [hc.gd t] at ht;cases ht)
def Qcu (P:Program) (E:Env) (o:Oper) (ev:Operand→AV) (f:Nat) (avs0:List AV):Prop:=
  ∀ β S st a w,Rel E β S st a w→Q4D β S st a w o ev→∃ vals:List Value,vals.length=avs0.length∧(∀ (i:Nat) (v:Value) (x:AV),vals[i]? = some v→avs0[i]? = some x→RdA β S (look st.h) w (tmv a) v x) ∧
    ∀ fn, P.funcs[f]? = some fn → fn.body.isSome = true → (fn.name == "runtime.NumGoroutine") = false → (execOp a.eval o).run P w = .ok (.enter f vals.toArray) w
theorem Qcm {o:Oper} {c:Call} {f:Nat} (ho:o.op = .call c) (hc:c.callee = .value (.func f)) {ev:Operand→AV}:Qcu P E o ev f (c.args.toList.map ev):=by
  intro β S st a w hR hO
  refine ⟨c.args.toList.map a.eval,by simp,fun i v x h1 h2=>?_,fun fn hf hb hn=>?_⟩
  · simp only [List.getElem?_map,Option.map_eq_some_iff] at h1 h2
    obtain ⟨y,hy,rfl⟩:=h1
    obtain ⟨y',hy',rfl⟩:=h2
    rw [hy] at hy'
    injection hy' with hy'
    subst hy'
    have hmem:y∈o.op.operands.toList:=by
      have:y∈c.args.toList:=List.mem_of_getElem? hy
      simp only [ho,Op.operands,Call.operands,hc]
      simp at this
      simp [this]
    exact hO.at hmem
  · rw [Qap ho hc hf hb hn]
    congr 2
    apply Array.ext';rw [Array.toList_map]
theorem RdA.fn_inv {β:Nat→Option Nat} {S:Nat→Prop} {h:Nat→Option Ob} {w:World} {tm:Nat→Value} {v:Value} {f:Nat} {l:List AV} (hv:RdA β S h w tm v (.fn f l)):∃ cs:Array Value,v = .func (.func f) #[] cs∧cs.size=l.length∧∀ (i:Nat) (x:AV),l[i]? = some x→RdA β S h w tm (cs.getD i undef) x:=by
  cases hv with
  | fn _ cs _ hl hr=>exact ⟨cs,rfl,hl,hr⟩
  | dang _ _ l hl _ _=>simp [Ha] at hl
theorem Qcv {o:Oper} {c:Call} {t f:Nat} {cap:List AV} (ho:o.op = .call c) (hc:c.callee = .value (.tmp t)) {ev:Operand→AV} (hev:ev (.tmp t) = .fn f cap):Qcu P E o ev f (c.args.toList.map ev++cap):=by
  intro β S st a w hR hO
  have hmt:Operand.tmp t∈o.op.operands.toList:=by simp [ho,Op.operands,Call.operands,hc]
  obtain ⟨cs,hcs,hsz,hr⟩:=(hev▸hO.at hmt).fn_inv
  refine ⟨c.args.toList.map a.eval++cs.toList,by simp [hsz],fun i v x h1 h2=>?_,fun fn hf hb hn=>?_⟩
  · rw [List.getElem?_append] at h1 h2
    simp only [List.length_map] at h1 h2
    split at h1
    · rename_i hi
      rw [if_pos hi] at h2
      simp only [List.getElem?_map,Option.map_eq_some_iff] at h1 h2
      obtain ⟨y,hy,rfl⟩:=h1
      obtain ⟨y',hy',rfl⟩:=h2
      rw [hy] at hy'
      injection hy' with hy'
      subst hy'
      have hmem:y∈o.op.operands.toList:=by
        have:y∈c.args.toList:=List.mem_of_getElem? hy
        simp only [ho,Op.operands,Call.operands,hc]
        simp at this
        simp [this]
      exact hO.at hmem
    · rename_i hi
      rw [if_neg hi] at h2
      have:=hr _ x h2
      have hlt:=(List.getElem?_eq_some_iff.1 h1).1
      have he:cs.getD (i-c.args.toList.length) undef=v:=by
        rw [Array.getElem?_toList] at h1
        rw [Array.getD_eq_getD_getElem?,h1];rfl
      rw [he] at this
      exact this
  · have h1 : ¬ fn.name = "runtime.NumGoroutine" := by simpa using hn
    have h2:¬ fn.body=none:=by intro h;rw [h] at hb;cases hb
    have hv:a.eval (.tmp t) = .func (.func f) #[] cs:=hcs
    unfold execOp;rw [ho]
    have harr:(c.args.toList.map a.eval++cs.toList).toArray=c.args.map a.eval++cs:=by apply Array.ext';simp
    rw [harr]
    simp [resolve,hc,hv,Deferred.ofValue,invoke,callFunc,hf,h1,h2]
theorem Qdo {β:Nat→Option Nat} {S:Nat→Prop} {st:St} {a:Act} {w:World} (hR:Rel E β S st a w) {hl:Nat→Option Ob} {vals:List Value} {avs0:List AV} (hlen0:vals.length=avs0.length) (hvals:∀ (i:Nat) (v:Value) (x:AV),vals[i]? = some v→avs0[i]? = some x→RdA β S (look st.h) w (tmv a) v x) {avs:List AV} {bs:List Nat}
    (hcv:DE hl avs0=some (avs,bs)) (hAb:∀ l,l∈bs→look st.h l=hl l):ArgsRd β (fzS β S bs) (fzH (look st.h) bs) w vals avs:=by
  obtain ⟨hlen,hcvi⟩:=Q0x hcv
  refine ⟨by rw [hlen,hlen0],fun i v av h1 h2=>?_⟩
  have hi:i<avs0.length:=by have:=(List.getElem?_eq_some_iff.1 h1).1;omega
  have hx:=List.getElem?_eq_getElem hi
  obtain ⟨av',b,g1,g2,g3⟩:=hcvi i _ hx
  rw [h2] at g1
  injection g1 with g1
  subst g1
  exact Qbc hR.objs hAb g3 g2 (hvals i v _ h1 hx)
theorem Ba {o:Oper} {f:Nat} {ev:Operand→AV} {avs0:List AV} (hF:Qcu P E o ev f avs0) {hl:Nat→Option Ob} {avs:List AV} {bs:List Nat} {dl:Dl}
    (hcv:DE hl avs0=some (avs,bs)) (hok:QI P f avs hl dl) (hm:NM bs (wrL dl)=false) (hm2:NM bs dl.rd=false) (hnn:Q6k bs dl=true) (hfree:bs=[]∨(F3 dl.v=true∧Gl dl.wr=true)) :
    Re P E o ev hl ⟨dl.v,dl.wr,bs++dl.rd⟩:=by
  intro β S st a w hR hO hA hcl K Q hK
  obtain ⟨⟨fn,hf,hb,hn⟩,hcall⟩:=hok
  have hAb:∀ l,l∈bs→look st.h l=hl l:=fun l h=>hA l (.inl (by simp [h]))
  have hbs:∀ l,l∈bs→∃ e s rows,look st.h l=some (.arr e s rows):=fun l h=>by rw [hAb l h];exact Q2m hcv l h
  have hobj:=hR.objs.fz bs hbs (fun l b hs hb=>NL hR hs hb)
  have hAc:∀ l,l∈dl.rd∨l∈wrL dl→fzH (look st.h) bs l=hl l:=by
    intro l hl'
    rw [Q0V (fun h=>by rcases hl' with h1 | h1 <;> first | exact JP hm2 h h1 | exact JP hm h h1)]
    rcases hl' with h1 | h1
    · exact hA l (.inl (by simp [h1]))
    · exact hA l (.inr h1)
  obtain ⟨vals,hl0,hv0,hrun⟩:=hF β S st a w hR hO
  unfold Oper.wp
  rw [hrun fn hf hb hn]
  have:=hcall β (fzS β S bs) (fzH (look st.h) bs) w _ hobj (Qdo hR hl0 hv0 hcv hAb) hAc
  refine this.mono fun e w' ⟨v,β',S',he,hout⟩=>?_
  subst he
  refine hK v w' ?_
  rcases hfree with rfl | ⟨h1,h2⟩
  · rw [QfP,QfZ] at hout
    exact En hR hcl hout
  · exact En hR hcl (hout.back hR.objs hbs hm hnn h1 h2)
theorem SP:∀ (a b:List (Nat × Option Ob)) (h:List (Nat × Ob)),Af h (a++b)=Af (Af h a) b
  | [],_,_=>rfl
  | (l,some o)::r,b,h=>by simp [Af,SP r b]
  | (l,none)::r,b,h=>by simp [Af,SP r b]
theorem Q6m (bs:List Nat) (h:List (Nat × Ob)):look (Af h (bs.map fun l=>(l,none)))=fzH (look h) bs:=by
  rw [Rt]
  generalize look h=f
  induction bs generalizing f with
  | nil=>funext k;simp [H7,fzH]
  | cons a r ih=>
    simp only [List.map_cons,H7]
    rw [ih]
    funext k
    by_cases e:k=a
    · subst e;simp [fzH]
    · by_cases e2:k∈r <;> simp [fzH,e,e2]
theorem Q7z {β:Nat→Option Nat} {S:Nat→Prop} {st:St} {a:Act} {w:World} (hR:Rel E β S st a w) (bs:List Nat) (hbs:∀ l,l∈bs→∃ e s rows,look st.h l=some (.arr e s rows)) :
    Rel E β (fzS β S bs) ⟨st.n,st.tm,Af st.h (bs.map fun l=>(l,none))⟩ a w:=by
  have hobj:=hR.objs.fz bs hbs (fun l b hs hb=>NL hR hs hb)
  have hlk:=Q6m bs st.h
  refine ⟨hR.n,hR.dfr,fun t av ht=>by rw [hlk];exact Qdn bs (hR.tm t av ht),?_⟩
  rw [hlk]
  have hsome:∀ l,(fzH (look st.h) bs l).isSome=true→(look st.h l).isSome=true:=fun l hs=>by
    by_cases hl:l∈bs
    · simp [fzH,hl] at hs
    · simpa [fzH,hl] using hs
  refine ⟨hobj.ob,hobj.inj,hobj.apart,fun l b hs hb=>hR.hr.own l b (hsome l hs) hb,hobj.sb,fun b hS=>?_,fun b h=>.inl (hR.hr.s0 b h),hR.hr.fr,hR.hr.pin,fun l b hp hs=>hR.hr.psz l b hp (hsome l hs)⟩
  rcases hS with h | ⟨l,hl,hb⟩
  · exact hR.hr.sfr b h
  · obtain ⟨e,s,rows,hh⟩:=hbs l hl
    exact .inr (hR.hr.own l b (by simp [hh]) hb)
theorem T6 {l k:Nat}:∀ {h:List (Nat × Ob)},Su l h=false→Su l (rem k h)=false
  | [],_=>rfl
  | (a,.box c)::r,hn=>by
    simp only [Su,Bool.or_eq_false_iff] at hn
    simp only [rem]
    cases Nat.beq a k with
    | true=>exact T6 hn.2
    | false=>simp [Su,hn.1,T6 hn.2]
  | (a,.arr e s rows)::r,hn=>by
    simp only [Su] at hn
    simp only [rem]
    cases Nat.beq a k with
    | true=>exact T6 hn
    | false=>simp [Su,T6 hn]
theorem Q9s {l:Nat}:∀ (bs:List Nat) {h:List (Nat × Ob)},Su l h=false→Su l (Af h (bs.map fun l=>(l,none)))=false
  | [],_,hn=>hn
  | a::r,h,hn=>by simp only [List.map_cons,Af];exact Q9s r (T6 hn)
theorem EO {st:St}:∀ {a b:List (Nat × Option Ob)},VJ st (a++b)=true→VJ st b=true
  | [],_,h=>h
  | (l,o)::r,b,h=>by
    simp only [List.cons_append,VJ,Bool.and_eq_true] at h
    exact EO h.2
theorem Q5B {st:St} {bs:List Nat}:∀ {wr:List (Nat × Option Ob)},(∀ l,l∈wr.map (·.1)→l ∉ bs)→VJ st wr=true→VJ ⟨st.n,st.tm,Af st.h (bs.map fun l=>(l,none))⟩ wr=true
  | [],_,_=>rfl
  | (l,o)::r,hn,h=>by
    simp only [VJ,Bool.and_eq_true] at h ⊢
    refine ⟨?_,Q5B (fun k hk=>hn k (by simp [hk])) h.2⟩
    have hlb:l ∉ bs:=hn l (by simp)
    rw [Q6m,Q0V hlb]
    cases o with
    | none=>rfl
    | some o=>
      cases hs:look st.h l with
      | some o'=>rfl
      | none=>
        have h1:=h.1
        rw [hs] at h1
        simp only [Jo,Bool.and_eq_true,Bool.not_eq_true'] at h1 ⊢
        exact ⟨h1.1,h1.2.1,Q9s bs h1.2.2⟩
theorem Q47 {o:Oper} {f:Nat} {ev:Operand→AV} {avs0:List AV} (hF:Qcu P E o ev f avs0) {hl:Nat→Option Ob} {avs:List AV} {bs:List Nat} {dl:Dl}
    (hcv:DE hl avs0=some (avs,bs)) (hok:QI P f avs hl dl) (hm:NM bs (wrL dl)=false) (hm2:NM bs dl.rd=false) :
    Re P E o ev hl ⟨dl.v,bs.map (fun l=>(l,none))++dl.wr,bs++dl.rd⟩:=by
  intro β S st a w hR hO hA hcl K Q hK
  obtain ⟨⟨fn,hf,hb,hn⟩,hcall⟩:=hok
  have hAb:∀ l,l∈bs→look st.h l=hl l:=fun l h=>hA l (.inl (by simp [h]))
  have hbs:∀ l,l∈bs→∃ e s rows,look st.h l=some (.arr e s rows):=fun l h=>by rw [hAb l h];exact Q2m hcv l h
  have hobj:=hR.objs.fz bs hbs (fun l b hs hb=>NL hR hs hb)
  have hAc:∀ l,l∈dl.rd∨l∈wrL dl→fzH (look st.h) bs l=hl l:=by
    intro l hl'
    rw [Q0V (fun h=>by rcases hl' with h1 | h1 <;> first | exact JP hm2 h h1 | exact JP hm h h1)]
    rcases hl' with h1 | h1
    · exact hA l (.inl (by simp [h1]))
    · exact hA l (.inr (by simp only [wrL,List.map_append,List.mem_append];exact .inr h1))
  obtain ⟨vals,hl0,hv0,hrun⟩:=hF β S st a w hR hO
  unfold Oper.wp
  rw [hrun fn hf hb hn]
  have:=hcall β (fzS β S bs) (fzH (look st.h) bs) w _ hobj (Qdo hR hl0 hv0 hcv hAb) hAc
  refine this.mono fun e w' ⟨v,β',S',he,hout⟩=>?_
  subst he
  refine hK v w' ?_
  rw [← Q6m] at hout
  have hcw:VJ ⟨st.n,st.tm,Af st.h (bs.map fun l=>(l,none))⟩ dl.wr=true:=Q5B (fun l hl' h=>JP hm h hl') (EO hcl)
  obtain ⟨β'',S'',g1,g2⟩:=En (rd:=bs++dl.rd) (Q7z hR bs hbs) hcw hout
  refine ⟨β'',S'',?_,?_⟩
  · simp only [SP];exact g1
  · simp only [SP];exact g2
theorem Q5n {t:Nat}:∀ {l:List AV},l.all Q5a=true→Q55 t l=false
  | [],_=>rfl
  | a::r,h=>by
    simp only [List.all_cons,Bool.and_eq_true] at h
    simp only [Q55,Er h.1 t,Q5n h.2,Bool.or_false]
theorem Qac {x:AV} (h:QdC x=true) (t:Nat):gds t x=false:=by
  unfold QdC at h
  split at h
  · simp only [gds];exact Q5n h
  · exact Er h t
theorem Q8v {o:Oper} {f:Nat} {ev:Operand→AV} {avs0:List AV} (hF:Qcu P E o ev f avs0) {hl:Nat→Option Ob} {dl:Dl} (hng:avs0.all QdC=true) (hok:QI P f avs0 hl dl):Re P E o ev hl dl:=by
  intro β S st a w hR hO hA hcl K Q hK
  obtain ⟨⟨fn,hf,hb,hn⟩,hcall⟩:=hok
  obtain ⟨vals,hl0,hv0,hrun⟩:=hF β S st a w hR hO
  unfold Oper.wp
  rw [hrun fn hf hb hn]
  have:=hcall β S (look st.h) w _ hR.objs ⟨hl0,fun i v x h1 h2=>(hv0 i v x h1 h2).mono (fun _ h=>h) (fun _ _=>rfl) (fun l _=>Keep.rfl_ ..) (fun t ht=>by
    rw [Qac (List.all_eq_true.1 hng x (List.mem_of_getElem? h2)) t] at ht;cases ht)⟩ (fun l h=>hA l h)
  refine this.mono fun e w' ⟨v,β',S',he,hout⟩=>?_
  subst he
  exact hK v w' (En hR hcl hout)
theorem Q96 {spec:Q9K} {tt:TT} (hS:Q1P P spec) {o:Oper} {f:Nat} {site:Nat} {g u:Bool} {ev:Operand→AV} {avs0:List AV} (hF:Qcu P E o ev f avs0) {hl:Nat→Option Ob} {k:Dl→Option R} {r:R}
    (h:Qf6 spec tt site g u hl f avs0 k=some r):∃ dl,k dl=some r∧(g=true→Re P E o ev hl dl):=by
  unfold Qf6 at h
  cases hrq:Qiz spec f with
  | true=>
    simp only [hrq,cond_true] at h
    cases hng:avs0.all QdC with
    | false=>simp [hng] at h
    | true=>
    simp only [hng,cond_true] at h
    obtain ⟨dl,h,hok⟩:=hS _ _ _ _ _ _ _ _ h
    exact ⟨dl,h,fun hg=>Q8v hF hng (hok hg)⟩
  | false=>
  simp only [hrq,cond_false] at h
  split at h
  case h_2=>cases h
  rename_i avs bs hcv
  obtain ⟨dl,h,hok⟩:=hS _ _ _ _ _ _ _ _ h
  cases hcond:(!NM bs (wrL dl)&&(!NM bs dl.rd&&Q6k bs dl)) with
  | false=>simp [hcond] at h
  | true=>
    simp only [hcond,cond_true] at h
    simp only [Bool.and_eq_true,Bool.not_eq_true'] at hcond
    obtain ⟨hm,hm2,hnn⟩:=hcond
    cases hf:(bs.isEmpty||(F3 dl.v&&Q5I dl.wr)) with
    | true=>
      simp only [hf,cond_true] at h
      refine ⟨_,h,fun hg=>Ba hF hcv (hok hg) hm hm2 hnn ?_⟩
      simp only [Bool.or_eq_true,Bool.and_eq_true,List.isEmpty_iff] at hf
      rcases hf with hf | hf
      · exact .inl hf
      · exact .inr ⟨hf.1,SB hf.2⟩
    | false=>
      simp only [hf,cond_false] at h
      cases hf2:(F3 dl.v&&Q13 tt dl.wr) with
      | true=>
        simp only [hf2,cond_true] at h
        simp only [Bool.and_eq_true] at hf2
        obtain ⟨_,h,hp⟩:=Qc h
        refine ⟨_,h,fun hg=>Ba hF hcv (hok hg) hm hm2 hnn (.inr ⟨hf2.1,TM hf2.2 ?_⟩)⟩
        have:=hp hg
        unfold QfB at this
        cases hx:(Q9S dl.wr).all QaY with
        | true=>rfl
        | false=>rw [hx] at this;cases this
      | false=>
        simp only [hf2,cond_false] at h
        cases u with
        | false=>simp at h
        | true=>
          simp only [cond_true] at h
          exact ⟨_,h,fun hg=>Q47 hF hcv (hok hg) hm hm2⟩
end

section
variable {P:Program} {E:Env} {R:Type}
theorem Q5q {x:Nat}:∀ {l:List Nat},Q2D x l=true↔x∈l
  | []=>by simp [Q2D]
  | a::r=>by
    simp only [Q2D,Bool.or_eq_true,Q5q (l:=r),List.mem_cons]
    constructor
    · rintro (h | h)
      · exact .inl (Nat.eq_of_beq_eq_true h).symm
      · exact .inr h
    · rintro (h | h)
      · exact .inl (by rw [h];exact Nat.beq_refl _)
      · exact .inr h
def Qhk (av:AV):Prop:=(∀ k,U2 k av=false)∧(∀ t,gds t av=false)∧av≠.top
theorem Qg5 (hl:Nat→Option Ob) (bs:List Nat):Qim hl bs=fzH hl bs:=by
  funext k
  unfold Qim fzH
  cases h:Q2D k bs with
  | true=>rw [if_pos (Q5q.1 h)];rfl
  | false=>rw [if_neg (fun hm=>by rw [Q5q.2 hm] at h;cases h)];rfl
theorem Q7u (hl:Nat→Option Ob) (ev:Operand→AV):∀ (l:List (Nat × Operand)),JL (fun x=>cv1 hl (ev x)) l=cvP hl (JL ev l)
  | []=>rfl
  | (i,x)::r=>by simp only [JL,cvP,Q7u hl ev r]
theorem Qe7 {hl:Nat→Option Ob} {ev:Operand→AV}:∀ {l:List (Nat × Operand)} {p:Nat × Operand},p∈l→∀ a b,Dp hl (ev p.2)=some (a,b)→∀ x∈b,x∈bsP hl (JL ev l)
  | (i,y)::r,p,hp,a,b,hc,x,hx=>by
    simp only [JL,bsP]
    rcases List.mem_cons.1 hp with rfl | hp
    · simp only at hc
      rw [hc]
      exact List.mem_append_left _ hx
    · have ih:=Qe7 hp a b hc x hx
      split
      · exact List.mem_append_right _ ih
      · exact ih
theorem QaT {hl:Nat→Option Ob}:∀ {l:List (Nat × AV)} {x:Nat},x∈bsP hl l→∃ e s rows,hl x=some (.arr e s rows)
  | [],x,h=>by simp [bsP] at h
  | (i,a)::r,x,h=>by
    simp only [bsP] at h
    split at h
    · rename_i a' b hc
      rcases List.mem_append.1 h with h | h
      · exact Q5m hc x h
      · exact QaT h
    · exact QaT h
theorem Q9G:∀ {z:List D} {l:List AV} {ds:List D},QcQ z l=some ds→(∀ k,KO k l=false)∧(∀ t,Q55 t l=false)∧∀ x∈l,x≠.top
  | [],[],ds,h=>⟨fun _=>rfl,fun _=>rfl,fun x h=>by simp at h⟩
  | [],_::_,ds,h=>by simp [QcQ] at h
  | _::_,[],ds,h=>by simp [QcQ] at h
  | z::zs,a::r,ds,h=>by
    simp only [QcQ] at h
    split at h
    case h_2=>cases h
    rename_i l hl
    obtain ⟨h1,h2,h3⟩:=Q9G hl
    split at h
    · exact ⟨fun k=>by simp [KO,U2,h1 k],fun t=>by simp [Q55,gds,h2 t],fun x hx=>by
        rcases List.mem_cons.1 hx with rfl | hx
        · simp
        · exact h3 x hx⟩
    · exact ⟨fun k=>by simp [KO,U2,h1 k],fun t=>by simp [Q55,gds,h2 t],fun x hx=>by
        rcases List.mem_cons.1 hx with rfl | hx
        · simp
        · exact h3 x hx⟩
    · cases h
theorem Qcl {z:List D} {av:AV} {ds:List D} (h:QcQ z (YH av)=some ds):Qhk av:=by
  obtain ⟨h1,h2,h3⟩:=Q9G h
  cases av with
  | ag l=>exact ⟨fun k=>by simpa [U2,YH] using h1 k,fun t=>by simpa [gds,YH] using h2 t,by simp⟩
  | fs _ _=>exact ⟨fun k=>rfl,fun t=>rfl,by simp⟩
  | _=>exact ⟨fun k=>by simpa [KO,YH] using h1 k,fun t=>by simpa [Q55,YH] using h2 t,h3 _ (by simp [YH])⟩
theorem Q3H {z:List D}:∀ {parts:List (Nat × AV)} {rows rows':List (List D)},Q0c z rows parts=some rows'→∀ p∈parts,Qhk p.2
  | [],_,_,_,p,hp=>by simp at hp
  | (i,v)::r,rows,rows',h,p,hp=>by
    simp only [Q0c] at h
    split at h
    case h_2=>cases h
    rename_i row hrow
    cases hc:Nat.ble (i+1) rows.length with
    | false=>simp [hc] at h
    | true=>
      simp only [hc,cond_true] at h
      rcases List.mem_cons.1 hp with rfl | hp
      · exact Qcl hrow
      · exact Q3H h p hp
theorem Q5J {ev:Operand→AV}:∀ {l:List (Nat × Operand)} {p:Nat × Operand},p∈l→(p.1,ev p.2)∈JL ev l
  | (i,y)::r,p,hp=>by
    simp only [JL]
    rcases List.mem_cons.1 hp with rfl | hp
    · simp
    · exact List.mem_cons_of_mem _ (Q5J hp)
theorem Q6l {tt:TT} {hl:Nat→Option Ob} {site:Nat} {u:Bool} {t len:Nat} {parts:List (Nat × AV)} {k:Dl→Option R} {r:R} (h:ST tt hl site u t len parts k=some r):∀ p∈parts,Qhk p.2:=by
  unfold ST at h
  split at h
  case h_2=>cases h
  rename_i e esz hk
  cases hc:(Nat.ble (len*esz) 16777216&&(look tt e).isSome&&Nat.beq (Q4C tt e).length esz) with
  | false=>simp [hc] at h
  | true=>
    simp only [hc,cond_true] at h
    split at h
    case h_2=>cases h
    rename_i rows hrows
    exact Q3H hrows
theorem Q91 {o:Oper} {ev:Operand→AV} {hl:Nat→Option Ob} {bs:List Nat} {dl:Dl} (hbs:∀ l,l∈bs→∃ e s rows,hl l=some (.arr e s rows))
    (hcv:∀ x∈o.op.operands.toList,(∃ b,Dp hl (ev x)=some (cv1 hl (ev x),b)∧∀ y∈b,y∈bs)∧Qhk (cv1 hl (ev x)))
    (hG:Re P E o (fun x=>cv1 hl (ev x)) (fzH hl bs) dl) (hm:NM bs (wrL dl)=false) (hm2:NM bs dl.rd=false):Re P E o ev hl ⟨dl.v,bs.map (fun l=>(l,none))++dl.wr,bs++dl.rd⟩:=by
  intro β S st a w hR hO hA hcl K Q hK
  have hAb:∀ l,l∈bs→look st.h l=hl l:=fun l h=>hA l (.inl (by simp [h]))
  have hbs':∀ l,l∈bs→∃ e s rows,look st.h l=some (.arr e s rows):=fun l h=>by rw [hAb l h];exact hbs l h
  have hRf:=Q7z hR bs hbs'
  refine hG β (fzS β S bs) _ a w hRf (fun x hx=>⟨?_,fun l _=>(hcv x hx).2.1 l⟩) ?_ (Q5B (fun l hl' h=>JP hm h hl') (EO hcl)) K Q fun v w' hout=>hK v w' ?_
  · obtain ⟨⟨b,h1,h2⟩,hb⟩:=hcv x hx
    rw [Q6m]
    exact (Qbc hR.objs hAb h2 h1 (hO.at hx)).mono (fun _ h=>h) (fun _ _=>rfl) (fun l _=>Keep.rfl_ ..) (fun t ht=>by rw [hb.2.1 t] at ht;cases ht)
  · intro l hl'
    have hno:l ∉ bs:=fun h=>by rcases hl' with h1 | h1 <;> first | exact JP hm2 h h1 | exact JP hm h h1
    rw [Q6m,Q0V hno,Q0V hno]
    rcases hl' with h1 | h1
    · exact hA l (.inl (by simp [h1]))
    · exact hA l (.inr (by simp only [wrL,List.map_append,List.mem_append];exact .inr h1))
  · obtain ⟨β',S',g1,g2⟩:=hout
    refine ⟨β',S',?_,?_⟩
    · simp only [SP];exact g1
    · simp only [SP];exact g2
theorem QaU {tt:TT} (hT:TOk P tt) {o:Oper} {t:TypeId} {len:Nat} {parts:Array (Nat × Operand)} (ho:o.op = .buildSlice t len parts) {u:Bool} {site:Nat} {ev:Operand→AV} {hl:Nat→Option Ob} {k:Dl→Option R} {r:R}
    (h:Qat tt hl site u t len (JL ev parts.toList) k=some r):∃ dl,k dl=some r∧Re P E o ev hl dl:=by
  unfold Qat at h
  split at h
  · exact A3 hT ho h
  · rename_i b bs hb
    cases u with
    | false=>simp at h
    | true=>
      simp only [cond_true] at h
      rw [← Q7u] at h
      have hnm:=Q6l h
      rw [Qg5] at h
      obtain ⟨dl,h,hG⟩:=A3 (E:=E) hT ho h
      cases hc:(!NM (b::bs) (wrL dl)&&!NM (b::bs) dl.rd) with
      | false=>simp [hc] at h
      | true=>
        simp only [hc,cond_true] at h
        simp only [Bool.and_eq_true,Bool.not_eq_true'] at hc
        refine ⟨_,h,Q91 (fun l hl'=>QaT (hb▸hl')) (fun x hx=>?_) hG hc.1 hc.2⟩
        obtain ⟨i,hi⟩:∃ i,(i,x)∈parts.toList:=by
          simp only [ho,Op.operands] at hx
          simpa using hx
        have hn:Qhk (cv1 hl (ev x)):=hnm _ (Q5J hi)
        refine ⟨?_,hn⟩
        unfold cv1 at hn ⊢
        cases hcv:Dp hl (ev x) with
        | none=>
          rw [hcv] at hn
          exact absurd rfl hn.2.2
        | some q=>exact ⟨q.2,rfl,fun y hy=>by rw [← hb];exact Qe7 hi q.1 q.2 hcv y hy⟩
end

section
variable {P:Program} {E:Env} {R:Type}
theorem Q3C:∀ {rows:List (List D)} {s:List UInt8},Q2I rows=some s→∃ ns:List Int,rows=ns.map (fun n=>[D.int .u8 n])∧s=ns.map fun n=>UInt8.ofNat n.toNat
  | [],s,h=>by simp [Q2I] at h;subst h;exact ⟨[],rfl,rfl⟩
  | row::r,s,h=>by
    unfold Q2I at h
    split at h
    · rename_i he;cases he
    · rename_i n r' he
      injection he with he1 he2
      subst he1 he2
      split at h
      · rename_i l hl
        injection h with h
        subst h
        obtain ⟨ns,h1,h2⟩:=Q3C hl
        exact ⟨n::ns,by simp [h1],by simp [h2]⟩
      · cases h
    · cases h
theorem Q7A:∀ (ns:List Int) (s:ByteArray),(ns.foldl (fun r n=>r.push (UInt8.ofNat n.toNat)) s).data.toList=s.data.toList++ns.map fun n=>UInt8.ofNat n.toNat
  | [],s=>by simp
  | n::ns,s=>by
    rw [List.foldl_cons,Q7A ns]
    simp [ByteArray.push]
theorem Qch {tt:TT} (hT:TOk P tt) {o:Oper} {s t:TypeId} {x:Operand} (ho:o.op = .convert s t x) {g:Bool} {ev:Operand→AV} {hl:Nat→Option Ob} {e:Nat} {rows:List (List D)} {rd:List Nat}
    (hs:BM tt s = .sl e 1) (ht:BM tt t = .str) (he:BM tt e = .int .u8) (hx:Q7p 1 hl (ev x)=some (rows,rd)) {k:Dl→Option R} {r:R} (h:gb g (Q2I rows) [] (fun s=>k ⟨.d (.str s),[],rd⟩)=some r) :
    ∃ dl,k dl=some r∧(g=true→Re P E o ev hl dl):=by
  obtain ⟨ti,hti,hkd⟩:=Z2 hs (by simp)
  obtain ⟨ti',hti',hkd'⟩:=Z2 ht (by simp)
  obtain ⟨ti2,hti2,hkd2⟩:=Z2 he (by simp)
  have hus:=((hT s ti hti).ksl _ _ hkd).1
  have hut:=(hT t ti' hti').kstr hkd'
  have hue:=(hT e ti2 hti2).kint _ hkd2
  obtain ⟨str,h,hp⟩:=Qc h
  refine ⟨_,h,fun hg=>QV fun β S st a w hR hO hA=>?_⟩
  have hv:=hO.at (x:=x) (by simp [ho,Op.operands])
  obtain ⟨vals,src⟩:=Q9c (by omega) hx hR hv (fun l hl'=>hA l (.inl hl'))
  obtain ⟨ns,hns,hstr⟩:=Q3C (hp hg)
  have hres:∀ bs:ByteArray,bs.data.toList=str→(execOp a.eval o).run P w = .ok (.value (.string bs)) w→∃ u,(execOp a.eval o).run P w = .ok (.value u) w∧RdA β S (look st.h) w (tmv a) u (.d (.str str)):=by
    intro bs hb hr
    refine ⟨.string bs,hr,.d _ _ ?_⟩
    rw [← hb];exact .str _
  have hconv:∀ (ad:Option Addr) (l c:Nat) (bs:ByteArray),a.eval x = .slice ad l c→(Conv.bytesToString (.slice ad l c)).run P w = .ok (.string bs) w→(execOp a.eval o).run P w = .ok (.value (.string bs)) w:=by
    intro ad l c bs hxx hb
    unfold execOp;rw [ho]
    simp only [hxx,Sem.run_bind,run_convert_bytes_string w s t e ad l c hus hue hut,hb,Result.andThen_ok]
    rfl
  rcases src.form with ⟨hf,hn⟩ | ⟨c,hf,hn⟩ | ⟨ad,c,hf,hcell⟩
  · refine hres .empty ?_ (hconv none 0 0 _ hf (by simp [Conv.bytesToString]))
    rw [hn] at hns
    have:ns=[]:=by
      cases ns with
      | nil=>rfl
      | cons a b=>simp at hns
    rw [hstr,this];rfl
  · refine hres .empty ?_ (hconv none 0 c _ hf (by simp [Conv.bytesToString]))
    rw [hn] at hns
    have:ns=[]:=by
      cases ns with
      | nil=>rfl
      | cons a b=>simp at hns
    rw [hstr,this];rfl
  · have hlen:vals.length=ns.length:=by rw [src.len,hns];simp
    have hvals:vals=ns.map (Value.int .u8):=by
      refine List.ext_getElem? fun i=>?_
      rcases Nat.lt_or_ge i ns.length with hi | hi
      · obtain ⟨u,hu,hr⟩:=src.rd i 0 [D.int .u8 ns[i]] (D.int .u8 ns[i]) (by rw [hns];simp [hi]) rfl
        rw [show i*1+0=i by omega] at hu
        rw [hu]
        cases hr
        simp [hi]
      · rw [List.getElem?_eq_none (by omega),List.getElem?_eq_none (by simpa using hi)]
    have hload:=run_loadCells_list (P:=P) w ad vals hcell
    have hr:=run_bytesToString (P:=P) w ad rows.length c ns (by
      rw [hvals,List.length_map] at hload
      rw [show rows.length=ns.length by rw [hns];simp]
      exact hload)
    refine hres _ ?_ (hconv (some ad) _ c _ hf hr)
    rw [Q7A,hstr];rfl
end

end Go.Vx
