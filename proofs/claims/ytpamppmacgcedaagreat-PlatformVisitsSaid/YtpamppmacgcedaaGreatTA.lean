/- Part of a proof. No conditions of their own. -/
import Derived.Orders
import Derived.Below
import Derived.Laws.StructEq
import Derived.Laws.Strings3
import Derived.Laws.Concat
import Derived.Laws.BytesString
import Derived.Laws.Shifts
import Derived.Laws.Slices
import Derived.Laws.Cells
import Derived.Laws.Rows
import Derived.Tactics2
import Derived.WideLaws
import Derived.Laws.AppendOwn
import Derived.Maps.AppendAt
import Derived.ArgAppend
import Derived.Lib.ConvBytes
import Derived.Carry
set_option linter.unusedVariables false
set_option linter.unusedSimpArgs false
noncomputable section
theorem Zzq {p:Prop} (h:p:=by omega):p:=h
abbrev Qii:=@Go.Result.andThen_ok
abbrev Qij:=@List.getElem?_eq_some_iff
abbrev Qik:=@Bool.and_eq_true
abbrev Qil:=@Nat.eq_of_beq_eq_true
abbrev Qim:=@Go.Sem.run_bind
abbrev Qin:=@cond_true
abbrev Qio:=@Option.map_eq_some_iff
abbrev Qip:=@Nat.mul_le_mul_right
abbrev Qiq:=@Go.ByteArray.toList_eq
abbrev Qir:=@List.mem_of_getElem?
abbrev Qis:=@List.eq_nil_of_length_eq_zero
abbrev Qit:=@List.getElem?_map
abbrev Qiu:=@Nat.le_of_ble_eq_true
abbrev Qiv:=@if_neg
abbrev Qiw:=@Array.length_toList
abbrev Qix:=@Array.getElem?_eq_some_iff
abbrev Qiy:=@List.getElem?_eq_getElem
abbrev Qiz:=@if_pos
abbrev QiA:=@Go.MapKept.run_getObj_map
abbrev QiB:=@List.mem_cons
abbrev QiC:=@List.all_eq_true
abbrev QiD:=@List.getElem?_set_self
abbrev QiE:=@List.getElem?_set_ne
abbrev QiF:=@Go.Sem.run_pure
abbrev QiG:=@Nat.le_refl
abbrev QiH:=@Nat.mul_le_mul_left
abbrev QiI:=@List.length_cons
abbrev QiJ:=@Nat.lt_of_lt_of_le
abbrev QiK:=@List.mem_append
abbrev QiL:=@Nat.succ_mul
abbrev QiM:=@List.map_cons
abbrev QiN:=@Nat.add_assoc
namespace Go.Vx
inductive D where
 |int (k:IntKind) (n:Int)
 |bool (b:Bool)
 |str (s:List UInt8)
 |sl (size:Nat) (rows:List (List D))
inductive AV where
 |top
 |d (x:D)
 |nil
 |ag (l:List AV)
 |tup (l:List AV)
 |ptr (l off:Nat)
 |el (row:List D) (off:Nat)
 |arr (l:Nat)
 |ap (l i off:Nat)
 |gd (t:Nat) (w:Bool) (av:AV)
 |fn (f:Nat) (cap:List AV)
 |fs (s:Nat) (rows:List (List D))
 |sa (l t:Nat)
 |mpd (f:Int->List (List D))
 |ex (v:Value)
inductive Ob where
 |box (cells:List AV)
 |arr (elem size:Nat) (rows:List (List D))
 |mp (t:Nat) (f:Int->Bool)
structure St where
 n:Nat
 tm:List (Nat × AV)
 h:List (Nat × Ob)
def look {α:Type}:List (Nat × α)->Nat->Option α
 |[],_=>none
 |(k,a)::r,t=>bif Nat.beq k t then some a else look r t
def rem {α:Type} (l:Nat):List (Nat × α)->List (Nat × α)
 |[]=>[]
 |(k,a)::r=>bif Nat.beq k l then rem l r else (k,a)::rem l r
def My (h:List (Nat × Ob)):List (Nat × Option Ob)->List (Nat × Ob)
 |[]=>h
 |(l,some o)::r=>My ((l,o)::rem l h) r
 |(l,none)::r=>My (rem l h) r
def PQ:Value->AV
 |.int k n=>.d (.int k n)
 |.bool b=>.d (.bool b)
 |.string s=>.d (.str s.data.toList)
 |.slice none 0 0=>.nil
 |_=>.top
inductive Kd where
 |int (k:IntKind)
 |bool
 |str
 |sl (e esz:Nat)
 |struct
 |array (e esz n:Nat)
 |ptr
 |mapI
 |mpb
 |other
structure TyI where
 kd:Kd
 size:Nat
 bytes:Nat
 zero:List Value
 zd:List D
 fields:List (Nat × Nat)
 eqk:Option (List Kd)
abbrev TT:=List (Nat × TyI)
structure Dl where
 v:AV
 wr:List (Nat × Option Ob)
 rd:List Nat
def lkT (tm:List (Nat × AV)) (t:Nat):AV:=(look tm t).getD .top
def evO (tm:List (Nat × AV)):Operand->AV
 |.tmp t=>lkT tm t
 |.const v=>PQ v
 |.global _=>.top
 |.func f=>.fn f []
def bw (e w:Bool):Bool:=bif w then e else !e
def ctx (tm:List (Nat × AV)):Nat->Nat->Bool->Option (Bool × List (Nat × Bool))
 |0,_,_=>none
 |f+1,s,w=>
  match lkT tm s with
  |.d (.bool e)=>some (bw e w,[(s,w)])
  |.gd s' w' (.d (.bool e))=>
   match ctx tm f s' w' with
   |some (g,l)=>some (g&&bw e w,(s,w)::l)
   |none=>none
  |_=>none
def Qdf:List (Nat × Bool)->Nat->Bool->Bool
 |[],_,_=>false
 |(a,b)::r,s,w=>(Nat.beq a s&&(b == w))||Qdf r s w
def unw (l:List (Nat × Bool)):AV->AV
 |.gd s w av=>bif Qdf l s w then av else .gd s w av
 |av=>av
section
variable {R:Type}
def orZ {α:Type} (g:Bool) (p:Option α) (z:α):Option α:=
 match p with
 |some a=>some a
 |none=>bif g then none else some z
def gb {α:Type} (g:Bool) (p:Option α) (z:α) (k:α->Option R):Option R:=Option.bind (orZ g p z) k
def Q3 (k:IntKind):D->Option Int
 |.int k' n=>bif k == k' then some n else none
 |_=>none
def Gx:D->Option Bool
 |.bool b=>some b
 |_=>none
def Nk:D->Option (List UInt8)
 |.str s=>some s
 |_=>none
def pSl (size:Nat):D->Option (List (List D))
 |.sl s rows=>bif Nat.beq s size then some rows else none
 |_=>none
def JH:List AV->Bool
 |[]=>true
 |.ptr ..::r=>JH r
 |.d _::r=>JH r
 |_=>false
def Q0C:AV->Bool
 |.gd ..=>false
 |.fn _ l=>JH l
 |.ag _=>false
 |.tup _=>false
 |_=>true
def prj (g:Bool) (kd:Kd) (av:AV) (k:AV->Option R):Option R:=
 match av with
 |.d x=>
  match kd with
  |.int ik=>gb g (Q3 ik x) 0 fun n=>k (.d (.int ik n))
  |.bool=>gb g (Gx x) false fun b=>k (.d (.bool b))
  |.str=>gb g (Nk x) [] fun s=>k (.d (.str s))
  |.sl _ ac=>gb g (pSl ac x) [] fun r=>k (.d (.sl ac r))
  |_=>none
 |av=>bif Q0C av then k av else none
def Q14 (g:Bool) (row:List D):Nat->Nat->(List AV->Option R)->Option R
 |_,0,k=>k []
 |off,n+1,k=>gb g row[off]? (.bool false) fun c=>Q14 g row (off+1) n fun cs=>k (.d c::cs)
def Bs (cells:List AV):Nat->Nat->Option (List AV)
 |_,0=>some []
 |off,n+1=>
  match cells[off]? with
  |some c=>match Bs cells (off+1) n with
   |some r=>bif Q0C c then some (c::r) else none
   |none=>none
  |none=>none
def Rt:Kd->Bool
 |.struct=>true
 |_=>false
def Vv:Kd->Bool
 |.struct=>true
 |.array ..=>true
 |_=>false
def Nq {α:Type}:Nat->Nat->List α->List (List α)
 |0,_,_=>[]
 |n+1,s,l=>l.take s::Nq n s (l.drop s)
def G2 {α:Type} (l:List α) (n:Nat):Option Unit:=bif Nat.beq l.length n then some () else none
def Q2K:AV->Bool
 |.d _ | .nil | .ptr .. | .el .. | .arr _ | .ap ..=>true
 |.fn _ l=>JH l
 |_=>false
def Mn (cells:List AV):Nat->List AV->Option (List AV)
 |_,[]=>some cells
 |off,v::r=>bif Q2K v&&Nat.ble (off+1) cells.length then Mn (cells.set off v) (off+1) r else none
def Qd5:List AV->Option (List D)
 |[]=>some []
 |.d x::r=>match Qd5 r with | some l=>some (x::l) | none=>none
 |_::_=>none
def VI (tm:Operand->AV):List (Nat × Operand)->List (Nat × AV)
 |[]=>[]
 |(i,x)::r=>(i,tm x)::VI tm r
def Y9:AV->List AV
 |.ag l=>l
 |.fs s rows=>[.d (.sl s rows)]
 |v=>[v]
def Q0I (fields:List (Nat × Nat)) (tt:TT):List AV->List (Nat × AV)->Option (List AV)
 |cells,[]=>some cells
 |cells,(i,v)::r=>
  match fields[i]? with
  |some (off,t)=>match look tt t with
   |some ti=>bif Nat.beq (Y9 v).length ti.size&&Nat.ble (off+ti.size) cells.length then
     match Mn cells off (Y9 v) with
     |some cs=>Q0I fields tt cs r
     |none=>none
    else none
   |none=>none
  |none=>none
def Dh (ti:TyI):List AV:=ti.zero.map PQ
def Q5M (ac t:Nat):Value->AV
 |.pointer none=>.sa ac t
 |v=>PQ v
def Q1d (ac t:Nat) (ti:TyI):List AV:=ti.zero.map (Q5M ac t)
def Q6x (op:BinOp) (k:IntKind) (a b:Int):Option D:=
 match op with
 |.add=>some (.int k (k.wrap (a+b)))
 |.sub=>some (.int k (k.wrap (a-b)))
 |.mul=>some (.int k (k.wrap (a*b)))
 |.eql=>some (.bool (a == b))
 |.neq=>some (.bool (a != b))
 |.lss=>some (.bool (decide (a<b)))
 |.leq=>some (.bool (decide (a<=b)))
 |.gtr=>some (.bool (decide (a>b)))
 |.geq=>some (.bool (decide (a>=b)))
 |_=>none
def nz (b:Int):Option Unit:=bif b == 0 then none else some ()
def BY (b:Int):Option Unit:=bif decide (0<=b) then some () else none
def Q9e (n:Nat):Option Unit:=bif Nat.ble n 9223372036854775807 then some () else none
def Q6G (k:IntKind) (a b:Int):Int:=k.wrap ((BitVec.ofInt k.bits a &&& BitVec.ofInt k.bits b).toNat)
def bOr (k:IntKind) (a b:Int):Int:=k.wrap ((BitVec.ofInt k.bits a ||| BitVec.ofInt k.bits b).toNat)
def Qgo (k:IntKind) (a b:Int):Int:=k.wrap ((BitVec.ofInt k.bits a ^^^ BitVec.ofInt k.bits b).toNat)
def Qel (k:IntKind) (a:Int):Int:=Qgo k (if k.signed then -1 else k.max) a
def Q86 (k:IntKind) (a b:Int):Int:=k.wrap ((BitVec.ofInt k.bits a &&& ~~~(BitVec.ofInt k.bits b)).toNat)
def shL (k:IntKind) (a b:Int):Int:=k.wrap (a*2 ^ min b.toNat k.bits)
def shR (k:IntKind) (a b:Int):Int:=a.fdiv (2 ^ min b.toNat k.bits)
def Qfb (a b:List UInt8):Bool:=Op.bytesLess a b||a == b
def Q4E (g:Bool):List Kd->List AV->List AV->(List Bool->Option R)->Option R
 |[],[],[],k=>k []
 |kd::ks,.d a::xs,.d b::ys,k=>
  match kd with
  |.int ik=>gb g (Q3 ik a) 0 fun m=>gb g (Q3 ik b) 0 fun n=>Q4E g ks xs ys fun r=>k ((m == n)::r)
  |.bool=>gb g (Gx a) false fun m=>gb g (Gx b) false fun n=>Q4E g ks xs ys fun r=>k ((m == n)::r)
  |.str=>gb g (Nk a) [] fun m=>gb g (Nk b) [] fun n=>Q4E g ks xs ys fun r=>k ((m == n)::r)
  |_=>none
 |_,_,_,_=>none
def Qao:List Bool->Bool
 |[]=>true
 |[b]=>b
 |b::r=>b&&Qao r
def QgA (g:Bool) (op:BinOp) (a b:List UInt8) (k:AV->Option R):Option R:=
 match op with
 |.add=>gb g (Q9e (a.length+b.length)) () fun _=>k (.d (.str (a++b)))
 |.eql=>k (.d (.bool (a == b)))
 |.neq=>k (.d (.bool (!(a == b))))
 |.lss=>k (.d (.bool (Op.bytesLess a b)))
 |.leq=>k (.d (.bool (Qfb a b)))
 |.gtr=>k (.d (.bool (!Qfb a b)))
 |.geq=>k (.d (.bool (!Op.bytesLess a b)))
 |_=>none
def Qh5 (g:Bool) (op:BinOp) (kd:Kd) (eqk:Option (List Kd)) (x y:AV) (k:AV->Option R):Option R:=
 match x,y with
 |.d (.int ka a),.d (.int kb b)=>
  match op with
  |.shl=>gb g (BY b) () fun _=>k (.d (.int ka (shL ka a b)))
  |.shr=>gb g (BY b) () fun _=>k (.d (.int ka (shR ka a b)))
  |op=>bif ka == kb then
   match op with
   |.quo=>gb g (nz b) () fun _=>k (.d (.int ka (ka.wrap (a.tdiv b))))
   |.rem=>gb g (nz b) () fun _=>k (.d (.int ka (a.tmod b)))
   |.and=>k (.d (.int ka (Q6G ka a b)))
   |.or=>k (.d (.int ka (bOr ka a b)))
   |.xor=>k (.d (.int ka (Qgo ka a b)))
   |.andNot=>k (.d (.int ka (Q86 ka a b)))
   |_=>match Q6x op ka a b with
    |some r=>k (.d r)
    |none=>none
  else none
 |.d (.bool a),.d (.bool b)=>
  match kd,op with
  |.bool,.eql=>k (.d (.bool (a == b)))
  |.bool,.neq=>k (.d (.bool (!(a == b))))
  |_,_=>none
 |.d (.str a),.d (.str b)=>QgA g op a b k
 |.ag xs,.ag ys=>
  match eqk with
  |some ks=>match op with
   |.eql=>Q4E g ks xs ys fun bs=>k (.d (.bool (Qao bs)))
   |.neq=>Q4E g ks xs ys fun bs=>k (.d (.bool (!Qao bs)))
   |_=>none
  |none=>none
 |_,_=>none
def Jh (s:List UInt8) (n:Int):Option Int:=bif decide (0<=n) then (s[n.toNat]?).map fun b=>(b.toNat:Int) else none
def slB (len:Nat) (lo hi:Option Int):Option (Nat × Nat):=
 bif decide (0<=lo.getD 0)&&(decide (lo.getD 0<=hi.getD len)&&decide (hi.getD len<=len)) then some ((lo.getD 0).toNat,(hi.getD len).toNat) else none
def Qg1 (len:Nat) (lo hi mx:Option Int):Option (Nat × Nat):=
 match hi,mx with
 |some h,some m=>bif decide (h=m) then slB len lo (some h) else none
 |_,_=>none
def neL {α:Type}:List α->Option Unit
 |[]=>none
 |_=>some ()
def cut {α:Type} (l:List α) (q:Nat × Nat):List α:=(l.drop q.1).take (q.2-q.1)
def Q1 (rows:List (List D)) (n:Int):Option (List D):=bif decide (0<=n) then rows[n.toNat]? else none
def inB (len:Nat) (n:Int):Option Unit:=bif decide (0<=n)&&decide (n<len) then some () else none
def Q0E (ac:Nat) (hl:Nat->Option Ob):AV->Option (List (List D) × List Nat)
 |.d (.sl s rows)=>bif Nat.beq s ac then some (rows,[]) else none
 |.nil=>some ([],[])
 |.arr l=>match hl l with
  |some (.arr _ s rows)=>bif Nat.beq s ac then some (rows,[l]) else none
  |_=>none
 |_=>none
end
abbrev oP:=Option
abbrev oF:D:=.bool false
abbrev pIw:=Q3 .i64
abbrev wJ:=IntKind.wrap .i64
abbrev Q4 (x:Int):D:=.int .i64 x
abbrev Q5i:=(R:Type)->Nat->Nat->Bool->List AV->(Nat->Option Ob)->(Dl->Option R)->Option R
section
variable {R:Type}
def Pn (tt:TT) (t:Nat):Kd:=
 match look tt t with
 |some ti=>ti.kd
 |none=>.other
def QcO (tt:TT) (t:Nat):Option (List Kd):=
 match look tt t with
 |some ti=>ti.eqk
 |none=>none
def NY (ev:Operand->AV):Option Operand->Option (Option Int)
 |none=>some none
 |some x=>match ev x with
  |.d (.int _ n)=>some (some n)
  |_=>none
def Qa8 (tt:TT) (g:Bool) (t:Nat) (x i:AV) (k:Dl->Option R):Option R:=
 match Pn tt t,x,i with
 |.str,.d (.str s),.d (.int _ n)=>gb g (Jh s n) 0 fun b=>k ⟨.d (.int .u8 b),[],[]⟩
 |_,_,_=>none
def Q8t (tt:TT) (g:Bool) (t:Nat) (x:AV) (lo hi:Option (Option Int)) (k:Dl->Option R):Option R:=
 match lo,hi with
 |some lo,some hi=>
  match Pn tt t,x with
  |.str,.d (.str s)=>gb g (slB s.length lo hi) (0,0) fun q=>k ⟨.d (.str (cut s q)),[],[]⟩
  |.sl _ ac,.d (.sl s rows)=>bif Nat.beq s ac then gb g (slB rows.length lo hi) (0,0) fun q=>k ⟨.d (.sl ac (cut rows q)),[],[]⟩ else none
  |.sl _ _,.nil=>gb g (slB 0 lo hi) (0,0) fun _=>k ⟨.nil,[],[]⟩
  |_,_=>none
 |_,_=>none
def Q4I (tt:TT) (g:Bool) (t:Nat) (x:AV) (lo hi mx:Option (Option Int)) (k:Dl->Option R):Option R:=
 match lo,hi,mx with
 |some lo,some hi,some mx=>
  match Pn tt t,x with
  |.sl _ ac,.d (.sl s rows)=>bif Nat.beq s ac then gb g (Qg1 rows.length lo hi mx) (0,0) fun q=>k ⟨.fs ac (cut rows q),[],[]⟩ else none
  |.sl _ ac,.nil=>gb g (Qg1 0 lo hi mx) (0,0) fun _=>k ⟨.fs ac [],[],[]⟩
  |_,_=>none
 |_,_,_=>none
def D6:List (List D)->Option (List UInt8)
 |[]=>some []
 |[.int .u8 n]::r=>match D6 r with
  |some l=>some (UInt8.ofNat n.toNat::l)
  |none=>none
 |_=>none
mutual
def Rn:AV->Bool
 |.d (.int ..)=>true
 |.d (.bool _)=>true
 |.d (.str _)=>true
 |.d (.sl ..)=>false
 |.ag l=>Nz l
 |.tup l=>Nz l
 |.fn ..=>false
 |.fs ..=>false
 |.mpd _=>false
 |.el ..=>false
 |.gd ..=>false
 |_=>true
def Nz:List AV->Bool
 |[]=>true
 |a::r=>Rn a&&Nz r
end
def Q8B:Option Ob->Bool
 |some (.box cells)=>Nz cells
 |some (.arr ..)=>false
 |some (.mp ..)=>false
 |none=>true
def Bl:List (Nat × Option Ob)->Bool
 |[]=>true
 |(_,o)::r=>Q8B o&&Bl r
def Q7w (hl:Nat->Option Ob):AV->Option (AV × List Nat)
 |.arr l=>match hl l with
  |some (.arr _ size rows)=>some (.d (.sl size rows),[l])
  |_=>none
 |av=>bif Q0C av then some (av,[]) else none
def DR (hl:Nat->Option Ob):List AV->Option (List AV × List Nat)
 |[]=>some ([],[])
 |a::r=>match Q7w hl a with
  |some (a',l)=>match DR hl r with
   |some (r',l')=>some (a'::r',l++l')
   |none=>none
  |none=>none
def N2 (hl:Nat->Option Ob):AV->Option (AV × List Nat)
 |.ag cs=>match DR hl cs with
  |some (ac,l)=>some (.ag ac,l)
  |none=>none
 |av=>Q7w hl av
def RY (hl:Nat->Option Ob):List AV->Option (List AV × List Nat)
 |[]=>some ([],[])
 |a::r=>match N2 hl a with
  |some (a',l)=>match RY hl r with
   |some (r',l')=>some (a'::r',l++l')
   |none=>none
  |none=>none
def Q9V:List D->List AV->Option (List D)
 |[],[]=>some []
 |z::zs,a::r=>
  match Q9V zs r with
  |some l=>match a with
   |.d x=>some (x::l)
   |.nil=>match z with
    |.sl e []=>some (.sl e []::l)
    |_=>none
   |_=>none
  |none=>none
 |_,_=>none
def NV (tt:TT) (t:Nat):List D:=
 match look tt t with
 |some ti=>ti.zd
 |none=>[]
def Lm (z:List D):List (List D)->List (Nat × AV)->Option (List (List D))
 |rows,[]=>some rows
 |rows,(i,v)::r=>
  match Q9V z (Y9 v) with
  |some row=>bif Nat.ble (i+1) rows.length then Lm z (rows.set i row) r else none
  |none=>none
def Qc4 (row:List D):Nat->List D->List D
 |_,[]=>row
 |off,x::r=>Qc4 (row.set off x) (off+1) r
def Ym (n:Nat):Option Unit:=bif Nat.ble n 140737488355328 then some () else none
def Qdy (tt:TT) (g:Bool) (hl:Nat->Option Ob) (t:Nat) (a:AV) (k:Dl->Option R):Option R:=
 match look tt t with
 |some ti=>
  match a with
  |.ptr l off=>match hl l with
   |some (.box cells)=>
    bif Vv ti.kd then
     match Bs cells off ti.size with
     |some cs=>k ⟨.ag cs,[],[l]⟩
     |none=>none
    else match cells[off]? with
     |some c=>prj g ti.kd c fun v=>k ⟨v,[],[l]⟩
     |none=>none
   |_=>none
  |.el row off=>
   bif Vv ti.kd then Q14 g row off ti.size fun cs=>k ⟨.ag cs,[],[]⟩
   else gb g row[off]? (.bool false) fun c=>prj g ti.kd (.d c) fun v=>k ⟨v,[],[]⟩
  |.ap l i off=>match hl l with
   |some (.arr _ _ rows)=>
    gb g rows[i]? [] fun row=>
     bif Vv ti.kd then Q14 g row off ti.size fun cs=>k ⟨.ag cs,[],[l]⟩
     else gb g row[off]? (.bool false) fun c=>prj g ti.kd (.d c) fun v=>k ⟨v,[],[l]⟩
   |_=>none
  |_=>none
 |none=>none
def Q9T (tt:TT) (hl:Nat->Option Ob) (t:Nat) (a v:AV) (k:Dl->Option R):Option R:=
 match look tt t with
 |some ti=>
  bif Nat.beq (Y9 v).length ti.size then
   match a with
   |.ptr l off=>match hl l with
    |some (.box cells)=>match Mn cells off (Y9 v) with
     |some cs=>k ⟨.top,[(l,some (.box cs))],[l]⟩
     |none=>none
    |_=>none
   |.ap l i off=>match hl l with
    |some (.arr e size rows)=>match Qd5 (Y9 v) with
     |some ds=>gb true rows[i]? [] fun row=>bif Nat.ble (off+ds.length) size then k ⟨.top,[(l,some (.arr e size (rows.set i (Qc4 row off ds))))],[l]⟩ else none
     |none=>none
    |_=>none
   |_=>none
  else none
 |none=>none
def Q5V (hl:Nat->Option Ob) (ac n l:Nat) (v:AV) (k:Dl->Option R):Option R:=
 match hl l with
 |some (.arr e s rows)=>
  bif Nat.beq s ac then
   match Qd5 (Y9 v) with
   |some ds=>bif Nat.beq ds.length (n*ac) then gb true (G2 rows n) () fun _=>k ⟨.top,[(l,some (.arr e s (Nq n ac ds)))],[l]⟩ else none
   |none=>none
  else none
 |_=>none
def LJ (g:Bool) (hl:Nat->Option Ob) (ac n l:Nat) (i:AV) (k:Dl->Option R):Option R:=
 match i,hl l with
 |.d (.int _ x),some (.arr _ s _)=>bif Nat.beq s ac then gb g (inB n x) () fun _=>k ⟨.ap l x.toNat 0,[],[l]⟩ else none
 |_,_=>none
def Q7U (s:List UInt8):List (List D):=s.map fun b=>[D.int .u8 (b.toNat:Int)]
def Q9S (tt:TT) (g:Bool) (t f:Nat) (x:AV) (k:Dl->Option R):Option R:=
 match look tt t with
 |some ti=>bif Rt ti.kd then match ti.fields[f]? with
   |some (off,ft)=>match look tt ft with
    |some fi=>match x with
     |.ag cells=>
      bif Vv fi.kd then
       match Bs cells off fi.size with
       |some cs=>k ⟨.ag cs,[],[]⟩
       |none=>none
      else match cells[off]? with
       |some c=>prj g fi.kd c fun v=>k ⟨v,[],[]⟩
       |none=>none
     |_=>none
    |none=>none
   |none=>none
  else none
 |none=>none
def Du (tt:TT) (hl:Nat->Option Ob) (t f:Nat) (x:AV) (k:Dl->Option R):Option R:=
 match look tt t with
 |some ti=>bif Rt ti.kd then match ti.fields[f]? with
   |some (off,_)=>match x with
    |.ptr l o=>k ⟨.ptr l (o+off),[],[]⟩
    |.el row o=>k ⟨.el row (o+off),[],[]⟩
    |.ap l i o=>match hl l with
     |some (.arr ..)=>k ⟨.ap l i (o+off),[],[l]⟩
     |_=>none
    |_=>none
   |none=>none
  else none
 |none=>none
def Dd (tt:TT) (g:Bool) (hl:Nat->Option Ob) (t:Nat) (x i:AV) (k:Dl->Option R):Option R:=
 match Pn tt t,i with
 |.sl _ ac,.d (.int _ n)=>
  match x with
  |.d (.sl s rows)=>bif Nat.beq s ac then gb g (Q1 rows n) [] fun row=>k ⟨.el row 0,[],[]⟩ else none
  |.arr l=>match hl l with
   |some (.arr _ s rows)=>bif Nat.beq s ac then gb g (inB rows.length n) () fun _=>k ⟨.ap l n.toNat 0,[],[l]⟩ else none
   |_=>none
  |.nil=>gb g (Q1 [] n) [] fun row=>k ⟨.el row 0,[],[]⟩
  |_=>none
 |_,_=>none
def QgQ (tt:TT) (hl:Nat->Option Ob) (t:Nat) (x:AV):Option (Int × List Nat):=
 match Pn tt t with
 |.sl _ _=>match x with
  |.d (.sl _ rows)=>some (rows.length,[])
  |.nil=>some (0,[])
  |.arr l=>match hl l with
   |some (.arr _ _ rows)=>some (rows.length,[l])
   |_=>none
  |_=>none
 |.str=>match x with
  |.d (.str s)=>some (s.length,[])
  |_=>none
 |_=>none
def Bc (isMin:Bool):AV->List AV->Option AV
 |a,[]=>some a
 |.d (.int k a),.d (.int k' b)::r=>bif k == k' then Bc isMin (.d (.int k (bif isMin then (if b<a then b else a) else (if a<b then b else a)))) r else none
 |_,_=>none
def EM (hl:Nat->Option Ob) (ac:Nat) (o:Ob) (v:AV) (wr:List (Nat × Option Ob)) (rd:List Nat) (k:Dl->Option R):Option R:=
 match hl ac with
 |none=>k ⟨v,wr++[(ac,some o)],rd⟩
 |some _=>none
def Q1S (tt:TT) (hl:Nat->Option Ob) (ac:Nat) (g:Bool) (t tn:Nat) (s x:AV) (k:Dl->Option R):Option R:=
 match Pn tt t,Pn tt tn,s,x with
 |.sl e aj,.int _,.nil,.d (.int _ n)=>match look tt e with
  |some ei=>
   bif Nat.ble 1 ei.bytes&&Nat.beq (NV tt e).length aj then
   gb g (bif decide (0<n) then some () else none) () fun _=>
   gb g (Ym (n.toNat*ei.bytes)) () fun _=>EM hl ac (.arr e aj (List.replicate n.toNat (NV tt e))) (.arr ac) [] [] k
   else none
  |none=>none
 |_,_,_,_=>none
def Q7a (f:Int->Bool) (n:Int) (b:Bool):Int->Bool:=fun m=>bif decide (m=n) then b else f m
def Qh8 (tt:TT) (hl:Nat->Option Ob) (ac:Nat) (u:Bool) (t l:Nat) (lo hi:Option (Option Int)) (k:Dl->Option R):Option R:=
 match Pn tt t,lo,hi with
 |.sl e aj,some none,some (some h0)=>bif u&&decide (h0=0) then match hl l with
   |some (.arr e' s' _)=>bif Nat.beq e e'&&Nat.beq aj s' then EM hl ac (.arr e aj []) (.arr ac) [(l,none)] [l] k else none
   |_=>none
  else none
 |_,_,_=>none
def Q5F (tt:TT) (ac:Nat) (g:Bool) (hl:Nat->Option Ob) (t:Nat) (s x:AV) (k:Dl->Option R):Option R:=
 match Pn tt t with
 |.sl e aj=>match look tt e with
  |some ei=>
   bif Nat.ble 1 ei.bytes&&Nat.beq ei.zero.length aj then
   match Q0E aj hl x with
   |some (news,rx)=>
    match s with
    |.nil=>gb g (Ym (news.length*ei.bytes)) () fun _=>EM hl ac (.arr e aj news) (.arr ac) [] rx k
    |.fs s0 rows=>bif Nat.beq s0 aj then gb g (neL news) () fun _=>gb g (Ym ((rows.length+news.length)*ei.bytes)) () fun _=>EM hl ac (.arr e aj (rows++news)) (.arr ac) [] rx k else none
    |.arr l=>match hl l with
     |some (.arr e' s' rows)=>bif Nat.beq e e'&&Nat.beq aj s' then
       gb g (Ym ((rows.length+news.length)*ei.bytes)) () fun _=>EM hl ac (.arr e aj (rows++news)) (.arr ac) [(l,none)] (l::rx) k
      else none
     |_=>none
    |_=>none
   |none=>none
   else none
  |none=>none
 |_=>none
def H3 (tt:TT) (hl:Nat->Option Ob) (aj:Nat) (u:Bool) (t len:Nat) (ak:List (Nat × AV)) (k:Dl->Option R):Option R:=
 match Pn tt t with
 |.sl e ac=>
  bif Nat.ble (len*ac) 16777216&&(look tt e).isSome&&Nat.beq (NV tt e).length ac then
   match Lm (NV tt e) (List.replicate len (NV tt e)) ak with
   |some rows=>bif u then EM hl aj (.arr e ac rows) (.arr aj) [] [] k else k ⟨.d (.sl ac rows),[],[]⟩
   |none=>none
  else none
 |_=>none
def Qcm (tt:TT) (hl:Nat->Option Ob) (ac:Nat) (u:Bool) (t:Nat) (l c:AV) (k:Dl->Option R):Option R:=
 bif u then
  match Pn tt t,l,c with
  |.sl e aj,.d (.int _ n),.d (.int _ m)=>match look tt e with
   |some ei=>
    bif Nat.ble 1 ei.bytes&&Nat.beq (NV tt e).length aj then
    gb true (bif decide (0<=n)&&decide (n<=m) then some () else none) () fun _=>
    gb true (Ym (m.toNat*ei.bytes)) () fun _=>EM hl ac (.arr e aj (List.replicate n.toNat (NV tt e))) (.arr ac) [] [] k
    else none
   |none=>none
  |_,_,_=>none
 else none
def S6 (x:Nat):List Nat->Bool
 |[]=>false
 |a::r=>Nat.beq a x||S6 x r
def Tk (a b:List Nat):Bool:=a.any fun x=>S6 x b
def wrL (dl:Dl):List Nat:=dl.wr.map (·.1)
mutual
def Um (l:Nat):AV->Bool
 |.ptr a _=>Nat.beq a l
 |.arr a=>Nat.beq a l
 |.ap a _ _=>Nat.beq a l
 |.sa a _=>Nat.beq a l
 |.ag r=>K2 l r
 |.tup r=>K2 l r
 |.fn _ r=>K2 l r
 |.gd _ _ v=>Um l v
 |_=>false
def K2 (l:Nat):List AV->Bool
 |[]=>false
 |a::r=>Um l a||K2 l r
end
def Pr (l:Nat):List (Nat × Option Ob)->Bool
 |[]=>false
 |(_,some (.box cells))::r=>K2 l cells||Pr l r
 |_::r=>Pr l r
def Bx (bs:List Nat) (dl:Dl):Bool:=bs.all fun l=>!Um l dl.v&&!Pr l dl.wr
def Q5u:D->Bool
 |.sl ..=>false
 |_=>true
def BT (rows:List (List D)):Bool:=rows.all fun r=>r.all Q5u
def FW (l:List (List (List D))):Option Unit:=bif l.all BT then some () else none
def Q35:List (Nat × Option Ob)->List (List (List D))
 |[]=>[]
 |(_,some (.arr _ _ rows))::r=>rows::Q35 r
 |_::r=>Q35 r
def Qhc (tt:TT) (e:Nat):Bool:=
 match look tt e with
 |some ti=>Nat.beq ti.zd.length ti.size&&ti.zd.all Q5u
 |none=>false
def Ew (tt:TT):List (Nat × Option Ob)->Bool
 |[]=>true
 |(_,some (.arr e _ _))::r=>Qhc tt e&&Ew tt r
 |(_,some (.box cells))::r=>Nz cells&&Ew tt r
 |(_,some (.mp ..))::_=>false
 |(_,none)::r=>Ew tt r
def VN:List (Nat × Option Ob)->Bool
 |[]=>true
 |(_,some (.arr _ _ rows))::r=>BT rows&&VN r
 |(_,some (.box cells))::r=>Nz cells&&VN r
 |(_,some (.mp ..))::_=>false
 |(_,none)::r=>VN r
def Qht (spec:Q5i) (f:Nat):Bool:=(spec Unit f 0 false [.gd 0 true .nil] (fun _=>none) fun _=>some ()).isSome
def Q9F:AV->Bool
 |.ag l=>l.all Q0C
 |a=>Q0C a
def Qbh (spec:Q5i) (tt:TT) (ac:Nat) (g u:Bool) (hl:Nat->Option Ob) (f:Nat) (args:List AV) (k:Dl->Option R):Option R:=
 bif Qht spec f then (bif args.all Q9F then spec R f ac g args hl k else none) else
 match RY hl args with
 |some (aj,bs)=>
  spec R f ac g aj hl fun dl=>
   bif !Tk bs (wrL dl)&&(!Tk bs dl.rd&&Bx bs dl) then
    bif bs.isEmpty||(Rn dl.v&&Bl dl.wr) then k ⟨dl.v,dl.wr,bs++dl.rd⟩
    else bif Rn dl.v&&Ew tt dl.wr then gb g (FW (Q35 dl.wr)) () fun _=>k ⟨dl.v,dl.wr,bs++dl.rd⟩
    else bif u then k ⟨dl.v,bs.map (fun l=>(l,none))++dl.wr,bs++dl.rd⟩ else none
   else none
 |none=>none
def vUn (op:UnOp) (x:AV):Option AV:=
 match op,x with
 |.not,.d (.bool b)=>some (.d (.bool !b))
 |.neg,.d (.int k n)=>some (.d (.int k (k.wrap (0-n))))
 |.xor,.d (.int k n)=>some (.d (.int k (Qel k n)))
 |_,_=>none
def cv1 (hl:Nat->Option Ob) (av:AV):AV:=
 match N2 hl av with
 |some (a,_)=>a
 |none=>.top
def cvP (hl:Nat->Option Ob):List (Nat × AV)->List (Nat × AV)
 |[]=>[]
 |(i,a)::r=>(i,cv1 hl a)::cvP hl r
def bsP (hl:Nat->Option Ob):List (Nat × AV)->List Nat
 |[]=>[]
 |(_,a)::r=>match N2 hl a with
  |some (_,b)=>b++bsP hl r
  |none=>bsP hl r
def QgO (hl:Nat->Option Ob) (bs:List Nat):Nat->Option Ob:=fun k=>bif S6 k bs then none else hl k
def Q4Y (tt:TT) (hl:Nat->Option Ob) (aj:Nat) (u:Bool) (t len:Nat) (ac:List (Nat × AV)) (k:Dl->Option R):Option R:=
 match bsP hl ac with
 |[]=>H3 tt hl aj u t len ac k
 |b::bs=>bif u then
   H3 tt (QgO hl (b::bs)) aj true t len (cvP hl ac) fun dl=>
    bif !Tk (b::bs) (wrL dl)&&!Tk (b::bs) dl.rd then k ⟨dl.v,(b::bs).map (fun l=>(l,none))++dl.wr,(b::bs)++dl.rd⟩ else none
  else none
def vdl (spec:Q5i) (tt:TT) (ac:Nat) (g u:Bool) (ev:Operand->AV) (hl:Nat->Option Ob) (op:Op) (k:Dl->Option R):Option R:=
 match op with
 |.move x=>k ⟨ev x,[],[]⟩
 |.assign x=>k ⟨ev x,[],[]⟩
 |.pick c x y=>
  match c with
  |.tmp s=>match ev (.tmp s) with
   |.d (.bool e)=>match unw [(s,true)] (ev x),unw [(s,false)] (ev y) with
    |.d (.bool a),.d (.bool b)=>k ⟨.d (.bool (bif e then a else b)),[],[]⟩
    |_,_=>none
   |_=>none
  |_=>none
 |.alloc t=>match look tt t with
  |some ti=>bif u then match ti.kd with
    |.array _ al n=>bif Nat.beq ti.zd.length (n*al) then EM hl ac (.arr t al (Nq n al ti.zd)) (.ap ac 0 0) [] [] k else none
    |_=>EM hl ac (.box (Q1d ac t ti)) (.ptr ac 0) [] [] k
   else none
  |none=>none
 |.box t x=>match look tt t with
  |some ti=>bif u&&(Nat.beq (Y9 (ev x)).length ti.size&&(Y9 (ev x)).all Q2K) then EM hl ac (.box (Y9 (ev x))) (.ptr ac 0) [] [] k else none
  |none=>none
 |.build t ak=>match look tt t with
  |some ti=>bif Vv ti.kd then match Q0I ti.fields tt (Dh ti) (VI ev ak.toList) with
    |some cs=>k ⟨.ag cs,[],[]⟩
    |none=>none
   else none
  |none=>none
 |.buildSlice t len ak=>Q4Y tt hl ac u t len (VI ev ak.toList) k
 |.load t a=>Qdy tt g hl t (ev a) k
 |.store t a v=>bif u then match Pn tt t,ev a with
   |.array _ al n,.ap l 0 0=>Q5V hl al n l (ev v) k
   |_,_=>Q9T tt hl t (ev a) (ev v) k
  else none
 |.nilCheck x=>match ev x with
  |.ptr l o=>k ⟨.ptr l o,[],[]⟩
  |.el r o=>k ⟨.el r o,[],[]⟩
  |.ap l i o=>match hl l with
   |some _=>k ⟨.ap l i o,[],[l]⟩
   |none=>none
  |_=>none
 |.binOp op t x y _=>Qh5 g op (Pn tt t) (QcO tt t) (ev x) (ev y) fun v=>k ⟨v,[],[]⟩
 |.unOp op _ x=>match vUn op (ev x) with
  |some v=>k ⟨v,[],[]⟩
  |none=>none
 |.convert s t x=>match Pn tt s,Pn tt t with
  |.int _,.int kd=>match ev x with
   |.d (.int _ n)=>k ⟨.d (.int kd (kd.wrap n)),[],[]⟩
   |_=>none
  |.sl e 1,.str=>match Pn tt e with
   |.int .u8=>match Q0E 1 hl (ev x) with
    |some (rows,rd)=>gb g (D6 rows) [] fun s=>k ⟨.d (.str s),[],rd⟩
    |none=>none
   |_=>none
  |.str,.str=>match ev x with
   |.d (.str s)=>k ⟨.d (.str s),[],[]⟩
   |_=>none
  |.str,.sl e 1=>match Pn tt e with
   |.int .u8=>match ev x with
    |.d (.str s)=>k ⟨.d (.sl 1 (Q7U s)),[],[]⟩
    |_=>none
   |_=>none
  |_,_=>none
 |.makeFunc (.func f) first aj=>match first.toList with
  |[]=>bif JH (aj.toList.map ev) then k ⟨.fn f (aj.toList.map ev),[],[]⟩ else none
  |_=>none
 |.makeSlice t l c=>Qcm tt hl ac u t (ev l) (ev c) k
 |.fieldAddr t x f=>Du tt hl t f (ev x) k
 |.field t x f=>Q9S tt g t f (ev x) k
 |.indexAddr t x i=>match Pn tt t,ev x with
  |.array _ al n,.ap l 0 0=>LJ g hl al n l (ev i) k
  |_,_=>Dd tt g hl t (ev x) (ev i) k
 |.index t x i=>Qa8 tt g t (ev x) (ev i) k
 |.slice t x lo hi none=>match ev x with
  |.arr l=>Qh8 tt hl ac u t l (NY ev lo) (NY ev hi) k
  |_=>Q8t tt g t (ev x) (NY ev lo) (NY ev hi) k
 |.makeMap t none=>match Pn tt t with
  |.mpb=>bif u then EM hl ac (.mp t fun _=>false) (.arr ac) [] [] k else none
  |_=>none
 |.mapUpdate t m x v=>match Pn tt t,ev m,ev x,ev v with
  |.mpb,.arr l,.d (.int .i64 n),.d (.bool b)=>match hl l with
   |some (.mp t' f)=>bif u then k ⟨.top,[(l,some (.mp t' (Q7a f n b)))],[l]⟩ else none
   |_=>none
  |_,_,_,_=>none
 |.slice t x lo hi (some mx)=>Q4I tt g t (ev x) (NY ev lo) (NY ev hi) (NY ev (some mx)) k
 |.lookup t m x false=>match Pn tt t,ev m,ev x with
  |.mapI,.mpd f,.d (.int .i64 n)=>k ⟨.d (.sl 1 (f n)),[],[]⟩
  |.mpb,.arr l,.d (.int .i64 n)=>match hl l with
   |some (.mp _ f)=>k ⟨.d (.bool (f n)),[],[l]⟩
   |_=>none
  |_,_,_=>none
 |.extract x i=>match ev x with
  |.tup l=>match l[i]? with
   |some v=>k ⟨v,[],[]⟩
   |none=>none
  |_=>none
 |.call c=>match c.callee with
  |.value (.func f)=>Qbh spec tt ac g u hl f (c.args.toList.map ev) k
  |.value (.tmp t)=>match ev (.tmp t) with
   |.fn f cap=>Qbh spec tt ac g u hl f (c.args.toList.map ev++cap) k
   |_=>none
  |.builtin .len=>match c.args.toList,c.argTypes.toList with
   |[x],[t]=>match QgQ tt hl t (ev x) with
    |some (n,rd)=>k ⟨.d (.int .i64 n),[],rd⟩
    |none=>none
   |_,_=>none
  |.builtin .cap=>match c.args.toList,c.argTypes.toList with
   |[x],[t]=>match Pn tt t,ev x with
    |.sl _ _,.nil=>k ⟨.d (.int .i64 0),[],[]⟩
    |_,_=>none
   |_,_=>none
  |.builtin .append=>match c.args.toList,c.argTypes.toList with
   |[s,x],[t,t']=>bif Nat.beq t t' then Q5F tt ac g hl t (ev s) (ev x) k else Q1S tt hl ac g t t' (ev s) (ev x) k
   |_,_=>none
  |.builtin .min=>match c.args.toList with
   |x::r=>match Bc true (ev x) (r.map ev) with
    |some v=>k ⟨v,[],[]⟩
    |none=>none
   |_=>none
  |.builtin .max=>match c.args.toList with
   |x::r=>match Bc false (ev x) (r.map ev) with
    |some v=>k ⟨v,[],[]⟩
    |none=>none
   |_=>none
  |_=>none
 |_=>none
def Ao (l:Nat):List (Nat × AV)->Bool
 |[]=>false
 |(_,a)::r=>Um l a||Ao l r
def JD (l:Nat):List (Nat × Ob)->Bool
 |[]=>false
 |(_,.box cells)::r=>K2 l cells||JD l r
 |(_,.arr ..)::r=>JD l r
 |(_,.mp ..)::r=>JD l r
def UQ (st:St) (l:Nat):Bool:=Nat.ble l 999999&&(!Ao l st.tm&&!JD l st.h)
def WD (st:St):List (Nat × Option Ob)->Bool
 |[]=>true
 |(l,o)::r=>(match o,look st.h l with
  |some _,none=>UQ st l
  |_,_=>true)&&WD st r
mutual
def gds (t:Nat):AV->Bool
 |.gd t' _ av=>Nat.beq t' t||gds t av
 |.ag l=>AS t l
 |.tup l=>AS t l
 |.fn _ l=>AS t l
 |_=>false
def AS (t:Nat):List AV->Bool
 |[]=>false
 |a::r=>gds t a||AS t r
end
def Q9O (d:Nat):List (Nat × AV)->Bool
 |[]=>false
 |(_,a)::r=>gds d a||Q9O d r
structure Rec where
 rt:List Nat
 dst:Option Nat
 dl:Dl
def Sg:List Operand->List Nat
 |[]=>[]
 |.tmp t::r=>t::Sg r
 |_::r=>Sg r
def put (st:St) (dst:Option Nat) (dl:Dl):St:=
 { n:=st.n,tm:=match dst with | some d=>(d,dl.v)::st.tm | none=>st.tm,h:=My st.h dl.wr }
def Q33 (st:St) (v:AV):Option Nat->Bool
 |some d=>Nat.ble (d+1) st.n&&(!gds d v&&!Q9O d st.tm)
 |none=>true
def Qce (st:St) (o:Oper) (ch:List Nat) (dl:Dl) (k:St->Rec->Option R):Option R:=
 bif Q33 st dl.v o.dst&&WD st dl.wr then k (put st o.dst dl) ⟨Sg o.op.operands.toList++ch,o.dst,dl⟩ else none
def jD (g:Bool):D->D->Option D
 |.int k x,.int k' y=>bif k == k' then some (.int k (bif g then x else y)) else none
 |.bool x,.bool y=>some (.bool (bif g then x else y))
 |.str x,.str y=>some (.str (bif g then x else y))
 |.sl s x,.sl s' y=>bif Nat.beq s s' then some (.sl s (bif g then x else y)) else none
 |_,_=>none
def jA (g:Bool):AV->AV->Option AV
 |.d x,.d y=>match jD g x y with
  |some z=>some (.d z)
  |none=>none
 |.nil,.nil=>some .nil
 |.ptr l o,.ptr l' o'=>bif Nat.beq l l'&&Nat.beq o o' then some (.ptr l o) else none
 |_,_=>none
def jL (g:Bool):List AV->List AV->Option (List AV)
 |[],[]=>some []
 |a::r,b::s=>match jA g a b with
  |some c=>match jL g r s with
   |some t=>some (c::t)
   |none=>none
  |none=>none
 |_,_=>none
def jW (g:Bool) (hl:Nat->Option Ob):List (Nat × Option Ob)->Option (List (Nat × Option Ob))
 |[]=>some []
 |(l,some (.box ac))::r=>match hl l with
  |some (.box old)=>match jL g ac old with
   |some c=>match jW g hl r with
    |some t=>some ((l,some (.box c))::t)
    |none=>none
   |none=>none
  |_=>none
 |(l,some (.arr e s rows))::r=>match hl l with
  |none=>match jW g hl r with
   |some t=>some ((l,some (.arr e s (bif g then rows else [])))::t)
   |none=>none
  |some _=>none
 |(_,some (.mp ..))::_=>none
 |(l,none)::r=>match jW g hl r with
  |some t=>some ((l,none)::t)
  |none=>none
def Qda (spec:Q5i) (tt:TT) (ac:Array Oper) (o:Oper) (st:St) (k:St->Rec->Option R):Option R:=
 match o.guard with
 |none=>vdl spec tt (o.dst.getD 0) true true (evO st.tm) (look st.h) o.op fun dl=>Qce st o [] dl k
 |some (j,w)=>match (ac[j]?).bind (·.dst) with
  |some s=>match ctx st.tm 40 s w with
   |some (g,ch)=>vdl spec tt (o.dst.getD 0) g false (fun x=>unw ch (evO st.tm x)) (look st.h) o.op fun dl=>
     match jW g (look st.h) dl.wr with
     |some wr=>Qce st o (ch.map (·.1)) ⟨.gd s w dl.v,wr,dl.rd⟩ k
     |none=>none
   |none=>none
  |none=>none
def Qg2 (spec:Q5i) (tt:TT) (ac:Array Oper):List Oper->St->List Rec->(St->List Rec->Option R)->Option R
 |[],st,acc,k=>k st acc
 |o::r,st,acc,k=>Qda spec tt ac o st fun st' rec=>Qg2 spec tt ac r st' (acc++[rec]) k
def Q3z (s:Nat) (b:Bool):List (Nat × AV)->List (Nat × AV)
 |[]=>[]
 |(t,a)::r=>bif Nat.beq t s then (t,.d (.bool b))::r else (t,a)::Q3z s b r
def Q71 (spec:Q5i) (tt:TT) (o:Oper) (s:Nat) (w b:Bool) (st:St) (k:St->Rec->Option R):Option R:=
 bif (bif b then w else !w) then vdl spec tt (o.dst.getD 0) true true (evO st.tm) (look st.h) o.op fun dl=>Qce st o [s] dl k
 else Qce st o [s] ⟨.gd s w (.d (.bool false)),[],[]⟩ k
def Q1g (spec:Q5i) (tt:TT) (ac:Array Oper):List Oper->St->List Rec->(St->List Rec->Option R)->Option R
 |[],st,acc,k=>k st acc
 |o::r,st,acc,k=>match o.guard with
  |none=>vdl spec tt (o.dst.getD 0) true true (evO st.tm) (look st.h) o.op fun dl=>Qce st o [] dl fun st' rec=>Q1g spec tt ac r st' (acc++[rec]) k
  |some (j,w)=>match (ac[j]?).bind (·.dst) with
   |some s=>match lkT st.tm s with
    |.d (.bool c)=>
     bif c then Q71 spec tt o s w true { n:=st.n,tm:=Q3z s true st.tm,h:=st.h } fun st' rec=>Q1g spec tt ac r st' (acc++[rec]) k
     else Q71 spec tt o s w false { n:=st.n,tm:=Q3z s false st.tm,h:=st.h } fun st' rec=>Q1g spec tt ac r st' (acc++[rec]) k
    |_=>none
   |none=>none
def Q49 (acc:List Nat):List Edge->Nat->Nat
 |[],s=>s
 |e::r,s=>Q49 acc r (bif Region.binds .any e then (s ||| (2 ^ e.on)) ||| acc.getD e.on 0 else s)
def Q2t:List Oper->List Nat->List Nat
 |[],acc=>acc
 |o::r,acc=>Q2t r (acc++[Q49 acc o.after.toList 0])
def Q1J:List Edge->Nat->Bool
 |[],_=>true
 |e::r,i=>(!Region.binds .any e||Nat.ble (e.on+1) i)&&Q1J r i
def Mr:List Oper->Nat->Bool
 |[],_=>true
 |o::r,i=>Q1J o.after.toList i&&Mr r (i+1)
def inO (d:Option Nat) (l:List Nat):Bool:=
 match d with
 |some x=>S6 x l
 |none=>false
def Uk (a b:Rec):Bool:=
 inO a.dst b.rt||inO b.dst a.rt||(match a.dst,b.dst with | some x,some y=>Nat.beq x y | _,_=>false) ||
 Tk (wrL a.dl) (wrL b.dl)||Tk (wrL a.dl) b.dl.rd||Tk (wrL b.dl) a.dl.rd
def P9 (aj:St) (ac:List Nat):List (Nat × Option Ob)->List Nat
 |[]=>[]
 |(l,o)::r=>match o,look aj.h l with
  |some _,none=>bif S6 l ac then P9 aj ac r else l::P9 aj ac r
  |_,_=>P9 aj ac r
def DW (l:Nat) (b:Rec):Bool:=Um l b.dl.v||Pr l b.dl.wr
def Qey (d:Option Nat) (v:AV):Bool:=
 match d with
 |some x=>gds x v
 |none=>false
def Ba (i:Nat) (a:Rec) (news:List Nat):List Rec->List Nat->Bool
 |[],_=>true
 |b::r,m::ms=>(!(Uk a b||(news.any fun l=>DW l b)||Qey a.dst b.dl.v)||m.testBit i)&&Ba i a news r ms
 |_::_,[]=>false
def LY (aj:St):Nat->List Rec->List Nat->List Rec->List Nat->Bool
 |_,_,_,[],_=>true
 |i,ak,ac,a::r,_::ms=>
  Ba i a (P9 aj ac a.dl.wr) r ms&&((P9 aj ac a.dl.wr).all fun l=>UQ aj l&&ak.all fun b=>!DW l b) &&
   LY aj (i+1) (ak++[a]) (ac++P9 aj ac a.dl.wr) r ms
 |_,_,_,_::_,[]=>false
def Ua (l:Nat):List (Nat × Option Ob)->Bool
 |[]=>false
 |(k,o)::r=>(o.isSome&&Nat.beq k l)||Ua l r
def Qc3 (recs:List Rec):List (Nat × Option Ob)->Bool
 |[]=>true
 |(l,none)::r=>(recs.all fun b=>!Ua l b.dl.wr)&&Qc3 recs r
 |_::r=>Qc3 recs r
def rmL:List Rec->Bool
 |[]=>true
 |a::r=>Qc3 (a::r) a.dl.wr&&rmL r
def Q2X (aj:St) (ac:List Oper) (recs:List Rec):Bool:=
 Mr ac 0&&LY aj 0 [] [] recs (Q2t ac [])&&rmL recs
structure Cfg where
 keep:List Nat
 locs:List (Nat × Nat)
 mkT:List (Nat × Nat × Nat × Nat)
 mkH:List (Nat × Nat × Nat × Nat × Nat)
 fz:List Nat
mutual
def fzA (l s:Nat) (rows:List (List D)):AV->AV
 |.arr k=>bif Nat.beq k l then .d (.sl s rows) else .arr k
 |.ap k i o=>bif Nat.beq k l then .top else .ap k i o
 |.ag r=>.ag (fzL l s rows r)
 |.tup r=>.tup (fzL l s rows r)
 |.fn f r=>.fn f (fzL l s rows r)
 |.gd ..=>.top
 |av=>av
def fzL (l s:Nat) (rows:List (List D)):List AV->List AV
 |[]=>[]
 |a::r=>fzA l s rows a::fzL l s rows r
end
def fzO (l s:Nat) (rows:List (List D)):Ob->Ob
 |.box cells=>.box (fzL l s rows cells)
 |o=>o
def fzT (l s:Nat) (rows:List (List D)):List (Nat × AV)->List (Nat × AV)
 |[]=>[]
 |(t,a)::r=>(t,fzA l s rows a)::fzT l s rows r
def QbS (l s:Nat) (rows:List (List D)):List (Nat × Ob)->List (Nat × Ob)
 |[]=>[]
 |(k,o)::r=>bif Nat.beq k l then QbS l s rows r else (k,fzO l s rows o)::QbS l s rows r
def fz1 (st:St) (l:Nat):St:=
 match look st.h l with
 |some (.arr _ s rows)=>{ n:=st.n,tm:=fzT l s rows st.tm,h:=QbS l s rows st.h }
 |_=>st
def fzs (st:St):List Nat->St
 |[]=>st
 |l::r=>fzs (fz1 st l) r
mutual
def Uy (ρ:List (Nat × Nat)):AV->AV
 |.ptr l o=>match look ρ l with | some l'=>.ptr l' o | none=>.top
 |.arr l=>match look ρ l with | some l'=>.arr l' | none=>.top
 |.ap l i o=>match look ρ l with | some l'=>.ap l' i o | none=>.top
 |.sa l t=>match look ρ l with | some l'=>.sa l' t | none=>.top
 |.ag r=>.ag (Q2L ρ r)
 |.tup r=>.tup (Q2L ρ r)
 |.fn f r=>.fn f (Q2L ρ r)
 |.gd ..=>.top
 |av=>av
def Q2L (ρ:List (Nat × Nat)):List AV->List AV
 |[]=>[]
 |a::r=>Uy ρ a::Q2L ρ r
end
def Qbr (ρ:List (Nat × Nat)):Ob->Ob
 |.box cells=>.box (Q2L ρ cells)
 |.arr e s rows=>.arr e s rows
 |.mp t f=>.mp t f
def Q9y (ρ:List (Nat × Nat)) (tm:List (Nat × AV)):List Nat->List (Nat × AV)
 |[]=>[]
 |t::r=>(t,Uy ρ (lkT tm t))::Q9y ρ tm r
def EX (ρ:List (Nat × Nat)) (h:List (Nat × Ob)):List (Nat × Nat)->List (Nat × Ob)
 |[]=>[]
 |(l,l')::r=>match look h l with
  |some o=>(l',Qbr ρ o)::EX ρ h r
  |none=>EX ρ h r
def Qg4 (tm:List (Nat × AV)) (t:Nat) (v:AV):List (Nat × AV):=
 match tm with
 |[]=>[]
 |(k,a)::r=>bif Nat.beq k t then (k,v)::r else (k,a)::Qg4 r t v
def QdL (st:St):List (Nat × Nat × Nat × Nat)->St
 |[]=>st
 |(t,l,e,s)::r=>match lkT st.tm t with
  |.nil=>bif UQ st l&&(look st.h l).isNone then QdL { st with tm:=Qg4 st.tm t (.arr l),h:=(l,.arr e s [])::st.h } r else QdL st r
  |_=>QdL st r
def QdE (st:St):List (Nat × Nat × Nat × Nat × Nat)->St
 |[]=>st
 |(b,c,l,e,s)::r=>match look st.h b with
  |some (.box cells)=>match cells[c]? with
   |some .nil=>bif UQ st l&&(look st.h l).isNone then QdE { st with h:=(l,.arr e s [])::(b,.box (cells.set c (.arr l)))::rem b st.h } r else QdE st r
   |_=>QdE st r
  |_=>QdE st r
def Xj:List Nat->Bool
 |[]=>true
 |a::r=>!S6 a r&&Xj r
def Qd3 (c:Cfg) (st:St):St:=
 bif Xj (c.locs.map (·.1))&&(Xj (c.locs.map (·.2))&&c.locs.all fun p=>Nat.beq p.1 p.2||Nat.ble p.2 999999) then QdE (QdL { n:=st.n,tm:=Q9y c.locs st.tm c.keep,h:=EX c.locs st.h c.locs } c.mkT) c.mkH
 else st
def inH (h:List (Nat × Ob)):List (Nat × Nat)->List (Nat × Nat)
 |[]=>[]
 |p::r=>match look h p.1 with
  |some _=>p::inH h r
  |none=>inH h r
def Qhg (c:Cfg) (st:St):St:=Qd3 ⟨c.keep,inH st.h c.locs,c.mkT,c.mkH,c.fz⟩ st
def QcH (c:Cfg) (st:St):St:=Qhg c (fzs st c.fz)
def Qbn (c:Cfg) (st:St):St:=
 match c.keep with
 |[]=>QcH ⟨st.tm.map (·.1),st.h.map fun p=>(p.1,p.1),c.mkT,c.mkH,c.fz⟩ st
 |_::_=>QcH c st
structure VC where
 spec:Q5i
 tt:TT
 cfg:List (Nat × Cfg)
def Q1j (C:VC) (id:Nat) (ac:Array Oper) (aj:Bool) (st:St) (k:St->Option R):Option R:=
 (bif (look C.cfg (id+1000000000)).isSome then Q1g C.spec C.tt ac ac.toList st [] else Qg2 C.spec C.tt ac ac.toList st []) fun st' recs=>
  bif !aj||Q2X st ac.toList recs then
   match look C.cfg id with
   |some c=>k (Qbn c st')
   |none=>k st'
  else none
def Q8l (ac:St->(Exit->St->Option R)->Option R):Nat->St->(Exit->St->Option R)->Option R
 |0,_,_=>none
 |n+1,st,k=>ac st fun e st'=>match e with
  |.normal=>Q8l ac n st' k
  |.exit id=>k (.exit id) st'
  |.ret=>k .ret st'
  |_=>none
def Q8v:Code->Nat
 |.region id _ _=>id
 |.seq a _=>Q8v a
 |.block _ c=>Q8v c
 |.loop c=>Q8v c
 |.cond _ a _=>Q8v a
 |_=>0
def Qfg (C:VC) (n:Nat) (c:Code):Nat:=
 match look C.cfg (2000000000+Q8v c) with
 |some ⟨[m],_,_,_,_⟩=>m
 |_=>n
def Q0M (C:VC) (ac:Nat) (st:St):St:=
 match look C.cfg ac with
 |some q=>QcH q st
 |none=>st
def BD (C:VC) (n:Nat):Code->St->(Exit->St->Option R)->Option R
 |.skip,st,k=>k .normal st
 |.region id aj ac,st,k=>Q1j C id aj ac st (k .normal)
 |.seq a b,st,k=>BD C n a st fun e st'=>match e with
  |.normal=>BD C n b st' k
  |.exit id=>k (.exit id) st'
  |.ret=>k .ret st'
  |_=>none
 |.cond c a b,st,k=>match evO st.tm c with
  |.d (.bool e)=>bif e then BD C n a st k else BD C n b st k
  |_=>none
 |.block id c,st,k=>BD C n c st fun e st'=>match e with
  |.normal=>k .normal st'
  |.exit j=>bif Nat.beq j id then k .normal st' else k (.exit j) st'
  |.ret=>k .ret st'
  |_=>none
 |.loop c,st,k=>Q8l (fun st k=>BD C n c (Q0M C (3000000000+Q8v c) st) k) (Qfg C n c) st k
 |.exit id,st,k=>k (.exit id) st
 |.ret,st,k=>k .ret st
 |_,_,_=>none
def lB (C:VC) (n:Nat) (c:Code) (st:St) (k:Exit->St->Option R):Option R:=BD C n c (Q0M C (3000000000+Q8v c) st) k
mutual
def NN:AV->Bool
 |.gd ..=>false
 |.ag l=>HF l
 |.tup l=>HF l
 |.fn _ l=>HF l
 |_=>true
def HF:List AV->Bool
 |[]=>true
 |a::r=>NN a&&HF r
end
def Q41 (tt:TT) (st:St):ResultVar->Option AV
 |.tmp t=>some (lkT st.tm t)
 |.cell a ty=>match lkT st.tm a with
  |.ptr l off=>match look st.h l,look tt ty with
   |some (.box cells),some ti=>
    bif Vv ti.kd then
     match Bs cells off ti.size with
     |some cs=>some (.ag cs)
     |none=>none
    else match cells[off]? with
     |some c=>bif Q0C c then some c else none
     |none=>none
   |_,_=>none
  |_=>none
def Q1b (tt:TT) (st:St):List ResultVar->Option (List AV)
 |[]=>some []
 |r::rs=>match Q41 tt st r with
  |some a=>match Q1b tt st rs with
   |some l=>bif NN a then some (a::l) else none
   |none=>none
  |none=>none
def Q24 (tt:TT) (st:St) (rs:List ResultVar):Option AV:=
 match Q1b tt st rs with
 |some [a]=>some a
 |some l=>some (.tup l)
 |none=>none
def Q3G:Nat->List AV->List (Nat × AV)
 |_,[]=>[]
 |i,a::r=>(i,a)::Q3G (i+1) r
def vfn (C:VC) (n:Nat) (fn:Func) (args:List AV) (h:List (Nat × Ob)) (k:AV->List (Nat × Ob)->Option R):Option R:=
 match fn.body with
 |some c=>bif Nat.ble args.length fn.ntmps&&HF args then
   BD C n c { n:=fn.ntmps,tm:=Q3G 0 args,h:=h } fun e st=>match e with
    |.ret=>match Q24 C.tt st fn.results.toList with
     |some v=>k v st.h
     |none=>none
    |.normal=>match Q24 C.tt st fn.results.toList with
     |some v=>k v st.h
     |none=>none
    |_=>none
  else none
 |none=>none
end

inductive Rd (S:Nat->Prop) (w:World):Value->D->Prop
 |int (k:IntKind) (n:Int):Rd S w (.int k n) (.int k n)
 |bool (b:Bool):Rd S w (.bool b) (.bool b)
 |str (s:ByteArray):Rd S w (.string s) (.str s.data.toList)
 |sl0 (a:Option Addr) (cap size:Nat):Rd S w (.slice a 0 cap) (.sl size [])
 |sl (ad:Addr) (cap size:Nat) (rows:List (List D)) (c:Nat->Nat->Value)
   (hS:S ad.block) (hcap:rows.length<=cap) (hsz:∀ (i:Nat) (r:List D),rows[i]? = some r->r.length=size)
   (hc:∀ (i j:Nat) (r:List D) (x:D),rows[i]? = some r->r[j]? = some x->w.cell? (ad.add (i*size+j))=some (c i j))
   (hr:∀ (i j:Nat) (r:List D) (x:D),rows[i]? = some r->r[j]? = some x->Rd S w (c i j) x) :
   Rd S w (.slice (some ad) rows.length cap) (.sl size rows)
theorem JO (a:Addr) (n:Nat):(a.add n).block=a.block:=by unfold Addr.add;split <;> rfl
theorem Bm (a:Addr) (i j:Nat):(a.add i).add j=a.add (i+j):=by
 grind [Addr.add,Nat.add_assoc]
theorem HD (b o n:Nat):(⟨b,o,none⟩:Addr).add n=⟨b,o+n,none⟩:=by
 grind [Addr.add]
theorem BN {w w':World} {a:Addr} (h:w'.heap[a.block]? = w.heap[a.block]?):w'.cell? a=w.cell? a:=by simp [World.cell?,h]
theorem Rd.mono {S S':Nat->Prop} {w w':World} {v:Value} {x:D} (hS:∀ b,S b->S' b) (hw:∀ b,S b->w'.heap[b]? = w.heap[b]?) (h:Rd S w v x):Rd S' w' v x:=by
 induction h with
 |int k n=>exact .int k n
 |bool b=>exact .bool b
 |str s=>exact .str s
 |sl0 a cap size=>exact .sl0 a cap size
 |sl ad cap size rows c hs ac aj hc _ ih=>
  exact .sl ad cap size rows c (hS _ hs) ac aj (fun i j r x h1 h2=>by
   grind [BN,JO]) ih
def D.flat:D->Bool
 |.sl _ []=>true
 |.sl _ (_::_)=>false
 |_=>true
def Tg:List MapEntry->Int->Option Value
 |[],_=>none
 |e::r,n=>match e.key with
  |.int .i64 m=>if m=n then some e.val else Tg r n
  |_=>Tg r n
def Q9U (S:Nat->Prop) (w:World) (v:Value) (f:Int->List (List D)):Prop:=
 ∃ b es ac,v = .map (some b)/\S b/\w.heap[b]? = some (.map es ac)/\(∀ e∈es.toList,∃ n,e.key = .int .i64 n)/\(∀ n,Tg es.toList n=none->f n=[])/\∀ n v',Tg es.toList n=some v'->Rd S w v' (.sl 1 (f n))
theorem Q9U.mono {S S':Nat->Prop} {w w':World} {v:Value} {f:Int->List (List D)} (hS:∀ b,S b->S' b) (hw:∀ b,S b->w'.heap[b]? = w.heap[b]?) (h:Q9U S w v f):Q9U S' w' v f:=by
 obtain ⟨b,es,ac,h1,h2,h3,h4,h5,h6⟩:=h;exact ⟨b,es,ac,h1,hS b h2,(hw b h2).trans h3,h4,h5,fun n v' hl=>(h6 n v' hl).mono hS hw⟩
def MpR (w:World) (b:Nat) (f:Int->Bool):Prop:=
 ∃ es ac,w.heap[b]? = some (.map es ac)/\(∀ e∈es.toList,∃ n,e.key = .int .i64 n)/\(∀ n,Tg es.toList n=none->f n=false)/\∀ n v,Tg es.toList n=some v->v = .bool (f n)
theorem MpR.same {w w':World} {b:Nat} {f:Int->Bool} (h:MpR w b f) (hb:w'.heap[b]? = w.heap[b]?):MpR w' b f:=by
 obtain ⟨es,ac,h1,h2⟩:=h;exact ⟨es,ac,hb.trans h1,h2⟩
def M8:AV->Option Nat
 |.arr l=>some l
 |.ap l _ _=>some l
 |_=>none
inductive RdA (β:Nat->Option Nat) (S:Nat->Prop) (h:Nat->Option Ob) (w:World) (tm:Nat->Value):Value->AV->Prop
 |top (v:Value):RdA β S h w tm v .top
 |d (v:Value) (x:D) (hx:Rd S w v x):RdA β S h w tm v (.d x)
 |nil:RdA β S h w tm (.slice none 0 0) .nil
 |ag (cs:Array Value) (l:List AV) (hl:cs.size=l.length) (hr:∀ (i:Nat) (x:AV),l[i]? = some x->RdA β S h w tm (cs.getD i undef) x):RdA β S h w tm (.agg cs) (.ag l)
 |tup (cs:Array Value) (l:List AV) (hl:cs.size=l.length) (hr:∀ (i:Nat) (x:AV),l[i]? = some x->RdA β S h w tm (cs.getD i undef) x):RdA β S h w tm (.tuple cs) (.tup l)
 |fn (f:Nat) (cs:Array Value) (l:List AV) (hl:cs.size=l.length) (hr:∀ (i:Nat) (x:AV),l[i]? = some x->RdA β S h w tm (cs.getD i undef) x):RdA β S h w tm (.func (.func f) #[] cs) (.fn f l)
 |fs (ad:Option Addr) (s:Nat) (rows:List (List D)) (hx:Rd S w (.slice ad rows.length rows.length) (.sl s rows)):RdA β S h w tm (.slice ad rows.length rows.length) (.fs s rows)
 |mpd (v:Value) (f:Int->List (List D)) (hm:Q9U S w v f):RdA β S h w tm v (.mpd f)
 |ex (v:Value):RdA β S h w tm v (.ex v)
 |ptr (l off b:Nat) (hb:β l=some b):RdA β S h w tm (.pointer (some ⟨b,off,none⟩)) (.ptr l off)
 |sa (v:Value) (l t b:Nat) (hb:β l=some b) (hv:v = .pointer none\/v = .pointer (some ⟨b,0,none⟩)):RdA β S h w tm v (.sa l t)
 |el (ad:Addr) (row:List D) (off:Nat) (c:Nat->Value) (hs:S ad.block)
   (hc:∀ (j:Nat) (x:D),row[off+j]? = some x->w.cell? (ad.add j)=some (c j)) (hr:∀ (j:Nat) (x:D),row[off+j]? = some x->Rd S w (c j) x) :
   RdA β S h w tm (.pointer (some ad)) (.el row off)
 |arr0 (l e s:Nat) (hb:β l=none) (hh:h l=some (.arr e s [])):RdA β S h w tm (.slice none 0 0) (.arr l)
 |arr (l b cap e s:Nat) (rows:List (List D)) (cs:Array Value) (ty:TypeId) (fz:Nat × Nat) (hb:β l=some b) (hh:h l=some (.arr e s rows))
   (hw:w.heap[b]? = some (.cells cs ty fz)) (hcs:cs.size=cap*s) (hcap:rows.length<=cap) (hmax:cap<=maxLen) :
   RdA β S h w tm (.slice (some ⟨b,0,none⟩) rows.length cap) (.arr l)
 |mp (l b t:Nat) (f:Int->Bool) (hb:β l=some b) (hh:h l=some (.mp t f)):RdA β S h w tm (.map (some b)) (.arr l)
 |ap (l i off b e s:Nat) (rows:List (List D)) (hb:β l=some b) (hh:h l=some (.arr e s rows)) :
   RdA β S h w tm (.pointer (some ⟨b,i*s+off,none⟩)) (.ap l i off)
 |dang (v:Value) (av:AV) (l:Nat) (hl:M8 av=some l) (hh:h l=none) (h1:v.oneCell'=true):RdA β S h w tm v av
 |gdT (v:Value) (t:Nat) (w':Bool) (av:AV) (ht:tm t = .bool w') (hv:RdA β S h w tm v av):RdA β S h w tm v (.gd t w' av)
 |gdF (t:Nat) (w':Bool) (av:AV) (ht:tm t≠.bool w'):RdA β S h w tm undef (.gd t w' av)
structure Keep (β:Nat->Option Nat) (h:Nat->Option Ob) (w:World) (β':Nat->Option Nat) (h':Nat->Option Ob) (w':World) (l:Nat):Prop where
 b:β' l=β l
 none_:h l=none->h' l=none
 arr:∀ e s rows,h l=some (.arr e s rows)->h' l=none\/∃ rows',h' l=some (.arr e s rows')/\rows'.length=rows.length
 cells:∀ b cs ty fz,(h' l).isSome=true->β l=some b->w.heap[b]? = some (.cells cs ty fz)->∃ cs' ty' fz',w'.heap[b]? = some (.cells cs' ty' fz')/\cs'.size=cs.size
 mp:∀ t f,h l=some (.mp t f)->h' l=none\/∃ f',h' l=some (.mp t f')
theorem NZ {l i:Nat} {r:List AV} {x:AV} (h:r[i]? = some x) (hn:Um l x=true):K2 l r=true:=by
 induction r generalizing i with
 |nil=>simp at h
 |cons a r ih=>
  grind [K2]
theorem Q4U {t i:Nat} {r:List AV} {x:AV} (h:r[i]? = some x) (hn:gds t x=true):AS t r=true:=by
 induction r generalizing i with
 |nil=>simp at h
 |cons a r ih=>
  grind [AS]
theorem RdA.mono {β β':Nat->Option Nat} {S S':Nat->Prop} {h h':Nat->Option Ob} {w w':World} {tm tm':Nat->Value} {v:Value} {av:AV}
  (hr:RdA β S h w tm v av) (hS:∀ b,S b->S' b) (hw:∀ b,S b->w'.heap[b]? = w.heap[b]?)
  (hk:∀ l,Um l av=true->Keep β h w β' h' w' l) (ht:∀ t,gds t av=true->tm' t=tm t):RdA β' S' h' w' tm' v av:=by
 induction hr with
 |top v=>exact .top v
 |d v x hx=>exact .d v x (hx.mono hS hw)
 |nil=>exact .nil
 |ag cs l hl _ ih=>
  exact .ag cs l hl fun i x hx=>ih i x hx (fun k hn=>hk k (by grind [Um,NZ])) (fun t hn=>ht t (by grind [gds,Q4U]))
 |tup cs l hl _ ih=>
  exact .tup cs l hl fun i x hx=>ih i x hx (fun k hn=>hk k (by simp [Um,NZ hx hn])) (fun t hn=>ht t (by simp [gds,Q4U hx hn]))
 |fn f cs l hl _ ih=>
  exact .fn f cs l hl fun i x hx=>ih i x hx (fun k hn=>hk k (by simp [Um,NZ hx hn])) (fun t hn=>ht t (by simp [gds,Q4U hx hn]))
 |fs ad s rows hx=>exact .fs ad s rows (hx.mono hS hw)
 |mpd v f hm=>exact .mpd v f (hm.mono hS hw)
 |ex v=>exact .ex v
 |ptr l off b hb=>exact .ptr l off b (by rw [(hk l (by simp [Um])).b];exact hb)
 |sa v l t b hb hv=>exact .sa v l t b (by rw [(hk l (by simp [Um])).b];exact hb) hv
 |el ad row off c hs hc hr=>
  exact .el ad row off c (hS _ hs) (fun j x hx=>by grind [BN,JO]) (fun j x hx=>(hr j x hx).mono hS hw)
 |arr0 l e s hb hh=>
  have K:=hk l (by simp [Um]);rcases K.arr e s [] hh with hn | ⟨ac,aj,al⟩
  ·exact .dang _ _ l rfl hn rfl
  ·have:ac=[]:=Qis (by omega);subst this;exact .arr0 l e s (by rw [K.b];exact hb) aj
 |arr l b cap e s rows cs ty fz hb hh ay a5 a1 ao=>
  have K:=hk l (by simp [Um]);rcases K.arr e s rows hh with hn | ⟨ac,aj,al⟩
  ·exact .dang _ _ l rfl hn rfl
  ·obtain ⟨ax,ar,az,au,a3⟩:=K.cells b cs ty fz (by simp [aj]) hb ay;have:=RdA.arr (β:=β') (h:=h') (w:=w') (S:=S') (tm:=tm') l b cap e s ac ax ar az (by rw [K.b];exact hb) aj au (by omega) (by omega) ao
   simp_all
 |mp l b t f hb hh=>
  have K:=hk l (by simp [Um]);rcases K.mp t f hh with hn | ⟨f',hf⟩
  ·exact .dang _ _ l rfl hn rfl
  ·exact .mp l b t f' (by rw [K.b];exact hb) hf
 |ap l i off b e s rows hb hh=>
  have K:=hk l (by simp [Um]);rcases K.arr e s rows hh with hn | ⟨ac,aj,al⟩
  ·exact .dang _ _ l rfl hn rfl
  ·exact .ap l i off b e s ac (by rw [K.b];exact hb) aj
 |dang v av l hl hh h1=>
  refine .dang v av l hl ((hk l ?_).none_ hh) h1;cases av <;> simp [M8] at hl <;> simp [Um,hl]
 |gdT v t b av aq _ ih=>
  refine .gdT v t b av (by simp_all [gds]) (ih (fun k hn=>hk k (by assumption)) (fun t' hn=>ht t' (by grind [gds])))
 |gdF t b av aq=>exact .gdF t b av (by rw [ht t (by simp [gds])];exact aq)
structure Fr (M:Nat->Prop) (w w':World):Prop where
 os:w'.os=w.os
 tape:w'.tape=w.tape
 output:w'.output=w.output
 size:w.heap.size<=w'.heap.size
 block:∀ b,b<w.heap.size->¬ M b->w'.heap[b]? = w.heap[b]?
theorem Fr.refl (M:Nat->Prop) (w:World):Fr M w w:=⟨rfl,rfl,rfl,QiG _,fun _ _ _=>rfl⟩
theorem Fr.trans {M:Nat->Prop} {a b c:World} (h:Fr M a b) (k:Fr M b c):Fr M a c:=
 ⟨k.os.trans h.os,k.tape.trans h.tape,k.output.trans h.output,Nat.le_trans h.size k.size,fun i hi hm=>(k.block i (QiJ hi h.size) hm).trans (h.block i hi hm)⟩
theorem Fr.mono {M M':Nat->Prop} {a b:World} (h:Fr M a b) (hM:∀ x,x<a.heap.size->M x->M' x):Fr M' a b:=
 ⟨h.os,h.tape,h.output,h.size,fun i hi hm=>h.block i hi (fun hx=>hm (hM i hi hx))⟩
theorem Fr.below {w w':World} (h:Fr (fun _=>False) w w'):RowKit.Below w.heap.size w w':=⟨h.os,h.tape,h.output,h.size,fun b hb=>h.block b hb (fun x=>x)⟩
def Qhe (n:Nat) (fz:Nat × Nat):Prop:=∀ o,o<n->¬ (fz.1<=o/\o<fz.2)
def tm0:Nat->Value:=fun _=>undef
def Q7j (ty:TypeId) (cells:List AV):Prop:=∀ (i l t:Nat),cells[i]? = some (.sa l t)->ty=t
def ObR (β:Nat->Option Nat) (S:Nat->Prop) (h:Nat->Option Ob) (w:World) (l:Nat):Ob->Prop
 |.box cells=>∃ b ty cs fz,β l=some b/\w.heap[b]? = some (.cells cs ty fz)/\(Qhe cs.size fz/\Q7j ty cells)/\cs.size=cells.length /\
   ∀ (i:Nat) (x:AV),cells[i]? = some x->RdA β S h w tm0 (cs.getD i undef) x
 |.arr e s rows=>(β l=none/\rows=[])\/∃ b cs,β l=some b/\w.heap[b]? = some (.cells cs e (0,0))/\rows.length*s<=cs.size /\
   (∀ (i:Nat) (r:List D),rows[i]? = some r->r.length=s)/\∀ (i j:Nat) (r:List D) (x:D),rows[i]? = some r->r[j]? = some x->∃ v,cs[i*s+j]? = some v/\Rd S w v x
 |.mp _ f=>∃ b,β l=some b/\MpR w b f
structure Env where
 w0:World
 M:Nat->Prop
 S0:Nat->Prop
 pin:Nat->Option Nat
def tmv (a:Act) (t:Nat):Value:=a.tmps.getD t undef
structure HRel (E:Env) (β:Nat->Option Nat) (S:Nat->Prop) (h:Nat->Option Ob) (w:World):Prop where
 ob:∀ l o,h l=some o->ObR β S h w l o
 inj:∀ l l' b,(h l).isSome=true->(h l').isSome=true->β l=some b->β l'=some b->l=l'
 apart:∀ l b,(h l).isSome=true->β l=some b->¬ S b
 own:∀ l b,(h l).isSome=true->β l=some b->E.M b\/E.w0.heap.size<=b
 sb:∀ b,S b->b<w.heap.size
 sfr:∀ b,S b->E.S0 b\/E.M b\/E.w0.heap.size<=b
 s0:∀ b,E.S0 b->S b
 fr:Fr E.M E.w0 w
 pin:∀ l,1000000<=l->β l=E.pin l
 psz:∀ l b,1000000<=l->(h l).isSome=true->β l=some b->∀ cs ty fz,E.w0.heap[b]? = some (.cells cs ty fz)->∃ cs' ty' fz',w.heap[b]? = some (.cells cs' ty' fz')/\cs'.size=cs.size
structure Rel (E:Env) (β:Nat->Option Nat) (S:Nat->Prop) (st:St) (a:Act) (w:World):Prop where
 n:a.tmps.size=st.n
 dfr:a.defers=[]
 tm:∀ t av,look st.tm t=some av->RdA β S (look st.h) w (tmv a) (tmv a t) av
 hr:HRel E β S (look st.h) w
def HK (E:Env) (st:St) (a:Act) (w:World):Prop:=∃ β S,Rel E β S st a w
theorem QcQ {a b:Nat} (h:¬ a=b):Nat.beq a b=false:=by
 grind [Nat.beq,absurd,Nat.eq_of_beq_eq_true]
theorem CP {α:Type} (l k:Nat) (h:List (Nat × α)):look (rem l h) k=if k=l then none else look h k:=by
 induction h with
 |nil=>simp [rem,look]
 |cons x r ih=>
  obtain ⟨a,o⟩:=x;simp only [rem,look];by_cases ha:a=l
  ·subst ha;simp only [Nat.beq_refl,Qin,ih]
   grind [Nat.beq,QcQ]
  ·have h1:Nat.beq a l=false:=QcQ ha;simp only [h1,cond_false,look,ih]
   grind
theorem Y6 {α:Type} (l k:Nat) (o:α) (h:List (Nat × α)):look ((l,o)::h) k=if k=l then some o else look h k:=by
 grind [look,Nat.beq_refl,Nat.beq,QcQ]
theorem Ue (l k:Nat) (o:Ob) (h:List (Nat × Ob)):look ((l,o)::rem l h) k=if k=l then some o else look h k:=by
 grind [Y6,CP]

def CEq (kd:Kd) (u v:Value) (b:Bool):Prop:=
 match kd with
 |.int k=>∃ m n,u = .int k m/\v = .int k n/\b=(m == n)
 |.bool=>∃ m n,u = .bool m/\v = .bool n/\b=(m == n)
 |.str=>∃ m n:ByteArray,u = .string m/\v = .string n/\b=(m.data.toList == n.data.toList)
 |_=>False
def QhI (P:Program) (t:Nat) (ks:List Kd):Prop:=
 ∀ (w:World) (xs ys:Array Value) (bs:List Bool),xs.size=ks.length->ys.size=ks.length->bs.length=ks.length ->
  (∀ (j:Nat) (kd:Kd) (b:Bool),ks[j]? = some kd->bs[j]? = some b->CEq kd (xs.getD j undef) (ys.getD j undef) b) ->
  (Op.equalIn 10000 t (.agg xs) (.agg ys)).run P w = .ok (bs.all id) w/\P.eqGuardType P.depth t=false
structure TyOk (P:Program) (t:Nat) (ti:TyI):Prop where
 inf:∃ i,P.info? t=some i/\i.size=ti.size/\i.bytes=ti.bytes/\∃ z,i.zero=some z/\z.cells.toList=ti.zero
 one:Vv ti.kd=false->ti.size=1/\∃ d,P.underlying t=some d/\(∀ fs,d≠.struct fs)/\∀ n e,d≠.array n e
 kint:∀ k,ti.kd = .int k->P.underlying t=some (.int k)
 kbool:ti.kd = .bool->P.underlying t=some .bool
 kstr:ti.kd = .str->P.underlying t=some .string
 ksl:∀ e esz,ti.kd = .sl e esz->P.underlying t=some (.slice e)/\0<esz/\∃ i,P.info? e=some i/\i.size=esz
 kstruct:ti.kd = .struct->∃ fs,P.underlying t=some (.struct fs)/\fs.toList.map (fun f=>(f.offset,f.type))=ti.fields/\∀ f∈fs.toList,∃ i,P.info? f.type=some i/\i.size≠0
 karr:∀ e esz n,ti.kd = .array e esz n->P.underlying t=some (.array n e)/\0<esz/\(∃ i,P.info? e=some i/\i.size=esz)/\ti.size=n*esz/\ti.fields=(List.range n).map fun i=>(i*esz,e)
 keq:∀ ks,ti.eqk=some ks->QhI P t ks
 zlen:ti.zero.length=ti.size
 zd:ti.zd.length=ti.size->∀ (j:Nat) (x:D),ti.zd[j]? = some x->∃ v,ti.zero[j]? = some v/\∀ (S:Nat->Prop) (w:World),Rd S w v x
 kmpb:ti.kd = .mpb->∃ K e,P.underlying t=some (.map K e)/\P.underlying K=some (.int .i64)/\∃ i,P.info? e=some i/\i.zero=some (.bool false)
 kmap:ti.kd = .mapI->∃ K e,P.underlying t=some (.map K e)/\P.underlying K=some (.int .i64)/\∃ i,P.info? e=some i/\i.zero=some (.slice none 0 0)
def TOk (P:Program) (tt:TT):Prop:=∀ t ti,look tt t=some ti->TyOk P t ti
section
variable {P:Program}
theorem QV {t:TypeId} {d:TypeDesc} (h:P.underlying t=some d) (w:World):(underlying t).run P w = .ok d w:=by
 simp [underlying,h]
theorem YE {t:TypeId} {i:TypeInfo} (h:P.info? t=some i) (w:World):(typeInfo t).run P w = .ok i w:=by
 simp [typeInfo,h]
theorem TyOk.size {t:Nat} {ti:TyI} (h:TyOk P t ti) (w:World):(sizeOf t).run P w = .ok ti.size w:=by
 obtain ⟨i,hi,hs,_⟩:=h.inf
 simp_all [sizeOf,YE]
theorem TyOk.agg {t:Nat} {ti:TyI} (h:TyOk P t ti) (w:World):(isAgg t).run P w = .ok (Vv ti.kd) w:=by
 cases hk:Vv ti.kd with
 |true=>
  cases hh:ti.kd with
  |struct=>
   obtain ⟨fs,hu,_⟩:=h.kstruct hh;simp [isAgg,QV hu]
  |array e ak n=>
   have hu:=(h.karr e ak n hh).1;simp [isAgg,QV hu]
  |_=>grind [Vv]
 |false=>
  obtain ⟨_,d,hu,h1,h2⟩:=h.one hk
  simp_all [isAgg,Qim,QV,Qii]
theorem Qm {α R:Type} {g:Bool} {p:Option α} {z:α} {k:α->Option R} {r:R} (h:gb g p z k=some r) :
  ∃ a,k a=some r/\(g=true->p=some a):=by
 unfold gb orZ at h
 grind
def Out (E:Env) (st:St) (a:Act) (dl:Dl) (v:Value) (w':World):Prop:=
 ∃ β' S',Rel E β' S' ⟨st.n,st.tm,My st.h dl.wr⟩ a w'/\RdA β' S' (look (My st.h dl.wr)) w' (tmv a) v dl.v
def Bj (β:Nat->Option Nat) (S:Nat->Prop) (st:St) (a:Act) (w:World) (o:Oper) (ev:Operand->AV):Prop:=
 ∀ x∈o.op.operands.toList,RdA β S (look st.h) w (tmv a) (a.eval x) (ev x)/\∀ l,UQ st l=true->Um l (ev x)=false
def QeE (st:St) (hl:Nat->Option Ob) (dl:Dl):Prop:=∀ l,l∈dl.rd\/l∈wrL dl->look st.h l=hl l
def Ks (P:Program) (E:Env) (o:Oper) (ev:Operand->AV) (hl:Nat->Option Ob) (dl:Dl):Prop:=
 ∀ β S st a w,Rel E β S st a w->Bj β S st a w o ev->QeE st hl dl->WD st dl.wr=true ->
  ∀ (K:Act->World->Prop) (Q:Exit->Act->World->Prop),(∀ v w',Out E st a dl v w'->K (a.put o.dst v) w')->o.wp P a w K Q
variable {E:Env}
theorem Qn {o:Oper} {ev:Operand->AV} {hl:Nat->Option Ob} {v:AV} {rd:List Nat}
  (h:∀ β S st a w,Rel E β S st a w->Bj β S st a w o ev->QeE st hl ⟨v,[],rd⟩->∃ u,(execOp a.eval o).run P w = .ok (.value u) w/\RdA β S (look st.h) w (tmv a) u v) :
  Ks P E o ev hl ⟨v,[],rd⟩:=by
 intro β S st a w hR hO hA _ K Q hK;obtain ⟨u,ac,hu⟩:=h β S st a w hR hO hA;unfold Oper.wp;rw [ac];exact hK u w ⟨β,S,by assumption,by assumption⟩
theorem Bj.at {β:Nat->Option Nat} {S:Nat->Prop} {st:St} {a:Act} {w:World} {o:Oper} {ev:Operand->AV} (h:Bj β S st a w o ev) {x:Operand} (hx:x∈o.op.operands.toList) :
  RdA β S (look st.h) w (tmv a) (a.eval x) (ev x):=(h x hx).1
theorem Bj.nm {β:Nat->Option Nat} {S:Nat->Prop} {st:St} {a:Act} {w:World} {o:Oper} {ev:Operand->AV} (h:Bj β S st a w o ev) {x:Operand} (hx:x∈o.op.operands.toList) {l:Nat} (hc:UQ st l=true) :
  Um l (ev x)=false:=(h x hx).2 l hc
section inv
variable {β:Nat->Option Nat} {S:Nat->Prop} {h:Nat->Option Ob} {w:World} {tm:Nat->Value} {v:Value}
theorem RdA.int_inv {k:IntKind} {n:Int} (hv:RdA β S h w tm v (.d (.int k n))):v = .int k n:=by
 cases hv with
 |d _ _ hx=>cases hx;rfl
 |dang _ _ l hl _ _=>trivial
theorem RdA.bool_inv {b:Bool} (hv:RdA β S h w tm v (.d (.bool b))):v = .bool b:=by
 cases hv with
 |d _ _ hx=>cases hx;rfl
 |dang _ _ l hl _ _=>trivial
theorem RdA.str_inv {l:List UInt8} (hv:RdA β S h w tm v (.d (.str l))):∃ s:ByteArray,l=s.data.toList/\v = .string s:=by
 cases hv with
 |d _ _ hx=>cases hx with
  |str s=>simp_all
 |dang _ _ l hl _ _=>trivial
theorem RdA.d_inv {x:D} (hv:RdA β S h w tm v (.d x)):Rd S w v x:=by
 cases hv with
 |d _ _ hx=>exact hx
 |dang _ _ l hl _ _=>trivial
theorem RdA.ptr_inv {l off:Nat} (hv:RdA β S h w tm v (.ptr l off)):∃ b,β l=some b/\v = .pointer (some ⟨b,off,none⟩):=by
 cases hv with
 |ptr _ _ b hb=>simp_all
 |dang _ _ l hl _ _=>trivial
theorem RdA.el_inv {row:List D} {off:Nat} (hv:RdA β S h w tm v (.el row off)) :
  ∃ (ad:Addr) (c:Nat->Value),v = .pointer (some ad)/\S ad.block/\(∀ (j:Nat) (x:D),row[off+j]? = some x->w.cell? (ad.add j)=some (c j))/\∀ (j:Nat) (x:D),row[off+j]? = some x->Rd S w (c j) x:=by
 cases hv with
 |el ad _ _ c hs hc hr=>exact ⟨ad,c,rfl,hs,hc,hr⟩
 |dang _ _ l hl _ _=>trivial
theorem RdA.ap_inv {l i off e s:Nat} {rows:List (List D)} (hh:h l=some (.arr e s rows)) (hv:RdA β S h w tm v (.ap l i off)) :
  ∃ b,β l=some b/\v = .pointer (some ⟨b,i*s+off,none⟩):=by
 cases hv with
 |ap _ _ _ b e' s' ac hb ak=>
  simp_all
 |dang _ _ l' hl hn _=>grind [M8]
theorem RdA.ag_inv {l:List AV} (hv:RdA β S h w tm v (.ag l)):∃ cs:Array Value,v = .agg cs/\cs.size=l.length/\∀ (i:Nat) (x:AV),l[i]? = some x->RdA β S h w tm (cs.getD i undef) x:=by
 cases hv with
 |ag cs _ hl hr=>simp_all
 |dang _ _ l hl _ _=>trivial
theorem RdA.tup_inv {l:List AV} (hv:RdA β S h w tm v (.tup l)):∃ cs:Array Value,v = .tuple cs/\cs.size=l.length/\∀ (i:Nat) (x:AV),l[i]? = some x->RdA β S h w tm (cs.getD i undef) x:=by
 cases hv with
 |tup cs _ hl hr=>simp_all
 |dang _ _ l hl _ _=>trivial
theorem RdA.fs_inv {s:Nat} {rows:List (List D)} (hv:RdA β S h w tm v (.fs s rows)):∃ ad,v = .slice ad rows.length rows.length/\Rd S w v (.sl s rows):=by
 cases hv with
 |fs ad _ _ hx=>simp_all
 |dang _ _ l hl=>trivial
theorem RdA.nil_inv (hv:RdA β S h w tm v .nil):v = .slice none 0 0:=by
 cases hv with
 |nil=>rfl
 |dang _ _ l hl _ _=>trivial
theorem RdA.arr_inv {l e s:Nat} {rows:List (List D)} (hh:h l=some (.arr e s rows)) (hv:RdA β S h w tm v (.arr l)) :
  (β l=none/\rows=[]/\v = .slice none 0 0)\/∃ b cap cs ty fz,β l=some b/\v = .slice (some ⟨b,0,none⟩) rows.length cap/\w.heap[b]? = some (.cells cs ty fz)/\cs.size=cap*s/\rows.length<=cap/\cap<=maxLen:=by
 cases hv with
 |arr0 _ e' s' hb ac=>
  simp_all
 |arr _ b cap e' s' aj cs ty fz hb ac hw ao ak al=>
  grind
 |mp _ b t f hb ac=>simp_all
 |dang _ _ l' hl hn _=>grind [M8]
theorem RdA.mp_inv {l t:Nat} {f:Int->Bool} (hh:h l=some (.mp t f)) (hv:RdA β S h w tm v (.arr l)):∃ b,β l=some b/\v = .map (some b):=by
 cases hv with
 |arr0 _ e' s' hb ac=>simp_all
 |arr _ b cap e' s' aj cs ty fz hb ac hw aq ak al=>rw [hh] at ac;cases ac
 |mp _ b t f hb ac=>simp_all
 |dang _ _ l' hl hn _=>grind [M8]
end inv
theorem FM {k:IntKind} {x:D} {n:Int} (h:Q3 k x=some n):x = .int k n:=by
 cases x with
 |int k' m=>
  grind [Q3]
 |_=>trivial
theorem MH {x:D} {n:Bool} (h:Gx x=some n):x = .bool n:=by
 cases x <;> simp [Gx] at h;rw [h]
theorem FC {x:D} {n:List UInt8} (h:Nk x=some n):x = .str n:=by
 cases x <;> simp [Nk] at h;rw [h]
theorem Q6D {s:Nat} {x:D} {n:List (List D)} (h:pSl s x=some n):x = .sl s n:=by
 cases x with
 |sl s' m=>
  grind [pSl,Nat.beq,Nat.eq_of_beq_eq_true]
 |_=>trivial
theorem B1 {R:Type} {g:Bool} {kd:Kd} {av:AV} {k:AV->Option R} {r:R} (h:prj g kd av k=some r) :
  ∃ v,k v=some r/\(g=true->v=av)/\Q0C av=true:=by
 unfold prj at h;split at h
 ·split at h
  ·obtain ⟨n,hn,hp⟩:=Qm h;exact ⟨_,hn,fun hg=>by grind [FM],rfl⟩
  ·obtain ⟨n,hn,hp⟩:=Qm h;exact ⟨_,hn,fun hg=>by grind [MH],rfl⟩
  ·obtain ⟨n,hn,hp⟩:=Qm h;exact ⟨_,hn,fun hg=>by grind [FC],rfl⟩
  ·obtain ⟨n,hn,hp⟩:=Qm h;exact ⟨_,hn,fun hg=>by grind [Q6D],rfl⟩
  ·cases h
 grind
theorem Lt {R:Type} {g:Bool} {row:List D}:∀ {n off:Nat} {k:List AV->Option R} {r:R},Q14 g row off n k=some r ->
  ∃ cs:List D,k (cs.map .d)=some r/\cs.length=n/\(g=true->∀ j,j<n->row[off+j]? = cs[j]?)
 |0,off,k,r,h=>⟨[],by simpa [Q14] using h,rfl,fun _ j hj=>by omega⟩
 |n+1,off,k,r,h=>by
  unfold Q14 at h;obtain ⟨c,hc,hp⟩:=Qm h;obtain ⟨cs,h1,h2,h3⟩:=Lt hc;refine ⟨c::cs,by simpa using h1,by simp [h2],fun hg j hj=>?_⟩;cases j with
  |zero=>simpa using hp hg
  |succ j=>
   have:=h3 hg j (by omega);rw [show off+(j+1)=off+1+j from by omega];simpa using this
theorem RN {cells:List AV}:∀ {n off:Nat} {cs:List AV},Bs cells off n=some cs->cs.length=n/\(∀ j,j<n->cells[off+j]? = cs[j]?)/\∀ (j:Nat) (c:AV),cs[j]? = some c->Q0C c=true
 |0,off,cs,h=>by
  simp [Bs] at h;subst h;exact ⟨rfl,fun j hj=>by omega,fun j c hc=>by simp at hc⟩
 |n+1,off,cs,h=>by
  unfold Bs at h;split at h
  ·rename_i c hc;split at h
   ·rename_i r hr;obtain ⟨h1,h2,h3⟩:=RN hr;cases hn:Q0C c with
    |true=>
     simp [hn] at h;subst h;refine ⟨by simp [h1],fun j hj=>?_,fun j c' ac=>?_⟩
     ·cases j with
      |zero=>simpa using hc
      |succ j=>
       rw [show off+(j+1)=off+1+j from by omega];simpa using h2 j (by omega)
     ·cases j with
      |zero=>simp at ac;subst ac;exact hn
      |succ j=>exact h3 j c' (by simpa using ac)
    |false=>simp [hn] at h
   ·cases h
  ·cases h
theorem Q1C:∀ {l:List AV},JH l=true->∀ t,AS t l=false
 |[],_,_=>rfl
 |.ptr ..::r,h,t=>by simp [AS,gds,Q1C (l:=r) (by simpa [JH] using h) t]
 |.d _::r,h,t=>by simp [AS,gds,Q1C (l:=r) (by simpa [JH] using h) t]
 |.top::_,h,_=>by simp [JH] at h
 |.nil::_,h,_=>by simp [JH] at h
 |.ag _::_,h,_=>by simp [JH] at h
 |.tup _::_,h,_=>by simp [JH] at h
 |.el ..::_,h,_=>by simp [JH] at h
 |.fs ..::_,h,_=>by simp [JH] at h
 |.mpd _::_,h,_=>by simp [JH] at h
 |.ex _::_,h,_=>by simp [JH] at h
 |.arr _::_,h,_=>by simp [JH] at h
 |.ap ..::_,h,_=>by simp [JH] at h
 |.gd ..::_,h,_=>by simp [JH] at h
 |.fn ..::_,h,_=>by simp [JH] at h
theorem R7 {av:AV} (h:Q0C av=true) (t:Nat):gds t av=false:=by
 cases av with
 |fn f l=>grind [gds,Q1C,Q0C]
 |_=>trivial
theorem RdA.any_tm {β:Nat->Option Nat} {S:Nat->Prop} {h:Nat->Option Ob} {w:World} {tm:Nat->Value} {v:Value} {av:AV} (hg:Q0C av=true)
  (hv:RdA β S h w tm0 v av):RdA β S h w tm v av:=by
 refine RdA.mono hv (fun _ hb=>hb) (fun _ _=>rfl) (fun l _=>⟨rfl,fun x=>x,fun e s rows hh=>.inr ⟨rows,hh,rfl⟩,fun b cs ty fz _ _ hw=>⟨cs,ty,fz,hw,rfl⟩,fun _ f hh=>.inr ⟨f,hh⟩⟩) (fun t ht=>?_)
 grind [R7]
end

section
variable {P:Program} {E:Env} {R:Type}
theorem Jt {w:World} {b o:Nat} {cs:Array Value} {ty:TypeId} {fz:Nat × Nat} (h:w.heap[b]? = some (.cells cs ty fz)):w.cell? ⟨b,o,none⟩=cs[o]?:=by
 simp [World.cell?,h]
theorem GT {t:Nat} {ti:TyI} (ht:TyOk P t ti) (hs:Vv ti.kd=false) {w:World} {a:Addr} {v:Value} (hc:w.cell? a=some v) :
  (loadVar t a).run P w = .ok v w:=by
 simp only [loadVar,Qim,ht.agg,hs,Qii,Bool.false_eq_true,if_false,run_load,hc]
theorem K6 {t:Nat} {ti:TyI} (ht:TyOk P t ti) (hs:Vv ti.kd=true) {w:World} {a:Addr} {vs:List Value} (hl:vs.length=ti.size) (hc:∀ (j:Nat) (v:Value),vs[j]? = some v->w.cell? (a.add j)=some v) :
  (loadVar t a).run P w = .ok (.agg vs.toArray) w:=by
 have h1:=run_loadCells_list (P:=P) w a vs hc;rw [hl] at h1;simp only [loadVar,Qim,ht.agg,hs,Qii,if_true,ht.size,h1];rfl
theorem T2 {cs:Array Value} {i:Nat} (h:i<cs.size):cs[i]? = some (cs.getD i undef):=by
 simp_all
theorem Fw {vs:List Value} {i:Nat} {v:Value} (h:vs[i]? = some v):vs.toArray.getD i undef=v:=by
 simp_all
theorem H4 {o:Oper} {t:TypeId} {x:Operand} (ho:o.op = .load t x) {a:Act} {w:World} {ad:Addr} {v:Value} (hx:a.eval x = .pointer (some ad)) (hv:(loadVar t ad).run P w = .ok v w) :
  (execOp a.eval o).run P w = .ok (.value v) w:=by
 simp_all [execOp,Instr.loadAt,Instr.sureAddr]
theorem Q3A {S:Nat->Prop} {w:World} {ad:Addr} {row:List D} {off:Nat} {c:Nat->Value} (hc:∀ (j:Nat) (x:D),row[off+j]? = some x->w.cell? (ad.add j)=some (c j))
  (hr:∀ (j:Nat) (x:D),row[off+j]? = some x->Rd S w (c j) x) {cs:List D} {n:Nat} (hn:cs.length=n) (ac:∀ j,j<n->row[off+j]? = cs[j]?) :
  ∃ vs:List Value,vs.length=n/\(∀ (j:Nat) (v:Value),vs[j]? = some v->w.cell? (ad.add j)=some v)/\∀ (j:Nat) (x:D),cs[j]? = some x->∃ v,vs[j]? = some v/\Rd S w v x:=by
 refine ⟨(List.range n).map c,by simp,fun j v hv=>?_,fun j x hx=>?_⟩
 all_goals grind
theorem Q8T {β:Nat->Option Nat} {S:Nat->Prop} {h:Nat->Option Ob} {w:World} {tm:Nat->Value} {vs:List Value} {cs:List D} (hl:vs.length=cs.length)
  (hr:∀ (j:Nat) (x:D),cs[j]? = some x->∃ v,vs[j]? = some v/\Rd S w v x):RdA β S h w tm (.agg vs.toArray) (.ag (cs.map .d)):=by
 refine .ag _ _ (by simp [hl]) fun i x hx=>?_
 simp only [Qit,Qio] at hx;obtain ⟨y,hy,rfl⟩:=hx;obtain ⟨v,hv,ac⟩:=hr i y hy;rw [Fw hv];exact .d _ _ ac
theorem Q8n {tt:TT} (hT:TOk P tt) {o:Oper} {t:TypeId} {x:Operand} (ho:o.op = .load t x) {g:Bool} {ev:Operand->AV} {hl:Nat->Option Ob} {k:Dl->Option R} {r:R}
  (h:Qdy tt g hl t (ev x) k=some r):∃ dl,k dl=some r/\(g=true->Ks P E o ev hl dl):=by
 have aj:x∈o.op.operands.toList:=by grind [Op.operands]
 unfold Qdy at h;split at h
 case h_2=>cases h
 rename_i ti bk;have ay:=hT t ti bk;split at h
 ·-- a box
  rename_i l off aq;split at h
  ·rename_i cells au;cases hs:Vv ti.kd with
   |true=>
    simp only [hs,Qin] at h;split at h
    ·rename_i cs a3;refine ⟨_,h,fun _=>Qn fun β S st a w hR hO hA=>?_⟩;obtain ⟨b,hb,hv⟩:=(aq▸hO.at aj).ptr_inv;have ak:look st.h l=some (.box cells):=by rw [hA l (.inl (by simp))];exact au
     obtain ⟨b',ty,vs,fz,al,hw,_,bg,ao⟩:=hR.hr.ob l _ ak;obtain rfl:b=b':=by simp_all
     obtain ⟨h1,h2,h3⟩:=RN a3;have ar:∀ j,j<ti.size->off+j<vs.size:=fun j hj=>by
      grind
     refine ⟨_,H4 ho hv (K6 ay hs (vs:=(List.range ti.size).map fun j=>vs.getD (off+j) undef) (by simp) fun j v hv=>?_),?_⟩
     ·simp only [Qit,Qio] at hv;obtain ⟨j',bj,rfl⟩:=hv;obtain ⟨a8,he⟩:=Qij.1 bj;simp at a8 he;subst he;rw [HD,Jt hw];exact T2 (ar j a8)
     ·refine .ag _ _ (by simp [h1]) fun i y hy=>?_
      have hi:i<ti.size:=by
       obtain ⟨h6,_⟩:=Qij.1 hy;omega
      rw [Fw (v:=vs.getD (off+i) undef) (by simp [hi])];exact (ao (off+i) y ((h2 i hi).trans hy)).any_tm (h3 i y hy)
    ·cases h
   |false=>
    simp only [hs,cond_false] at h;split at h
    ·rename_i c hc;obtain ⟨v,a2,a4,bd⟩:=B1 h;refine ⟨_,a2,fun hg=>Qn fun β S st a w hR hO hA=>?_⟩;obtain ⟨b,hb,hv⟩:=(aq▸hO.at aj).ptr_inv;have ak:look st.h l=some (.box cells):=by rw [hA l (.inl (by simp))];exact au
     obtain ⟨b',ty,vs,fz,al,hw,_,bg,ao⟩:=hR.hr.ob l _ ak;obtain rfl:b=b':=by rw [hb] at al;injection al
     have ar:off<vs.size:=by
      obtain ⟨h6,_⟩:=Qij.1 hc;omega
     refine ⟨_,H4 ho hv (GT ay hs (by rw [Jt hw];exact T2 ar)),?_⟩;rw [a4 hg];exact (ao off c hc).any_tm bd
    ·cases h
  ·cases h
 ·-- a row of data
  rename_i row off aq;cases hs:Vv ti.kd with
  |true=>
   simp only [hs,Qin] at h;obtain ⟨cs,hk,a1,a3⟩:=Lt h;refine ⟨_,hk,fun hg=>Qn fun β S st a w hR hO hA=>?_⟩;obtain ⟨ad,c,hv,_,hc,hr⟩:=(aq▸hO.at aj).el_inv;obtain ⟨vs,h1,h2,h3⟩:=Q3A hc hr a1 (a3 hg);exact ⟨_,H4 ho hv (K6 ay hs h1 h2),Q8T (by omega) h3⟩
  |false=>
   simp only [hs,cond_false] at h;obtain ⟨c0,h,a5⟩:=Qm h;obtain ⟨v,a2,a4,_⟩:=B1 h;refine ⟨_,a2,fun hg=>Qn fun β S st a w hR hO hA=>?_⟩;obtain ⟨ad,c,hv,_,hc,hr⟩:=(aq▸hO.at aj).el_inv;refine ⟨_,H4 ho hv (GT ay hs (v:=c 0) ?_),?_⟩
   ·have:=hc 0 c0 (a5 hg);simpa [Addr.add] using this
   ·rw [a4 hg];exact .d _ _ (hr 0 c0 (a5 hg))
 ·-- an array of the call's own
  rename_i l i off aq;split at h
  ·rename_i e s rows a6;obtain ⟨row,h,a7⟩:=Qm h;cases hs:Vv ti.kd with
   |true=>
    simp only [hs,Qin] at h;obtain ⟨cs,hk,a1,a3⟩:=Lt h;refine ⟨_,hk,fun hg=>Qn fun β S st a w hR hO hA=>?_⟩;have ak:look st.h l=some (.arr e s rows):=by rw [hA l (.inl (by simp))];exact a6
    obtain ⟨b,hb,hv⟩:=RdA.ap_inv ak (aq▸hO.at aj);have ac:=a7 hg;rcases hR.hr.ob l _ ak with ⟨_,hn⟩ | ⟨b',vs,al,hw,_,bi,ao⟩
    ·subst hn;simp at ac
    obtain rfl:b=b':=by rw [hb] at al;injection al
    obtain ⟨bl,h1,h2,h3⟩:=Q3A (S:=S) (w:=w) (ad:=⟨b,i*s+off,none⟩) (row:=row) (off:=off) (c:=fun j=>vs.getD (i*s+(off+j)) undef)
     (fun j x hx=>by
      obtain ⟨v,bb,_⟩:=ao i (off+j) row x ac hx;rw [HD,Jt hw,QiN];obtain ⟨ar,_⟩:=Qix.1 bb;exact T2 ar)
     (fun j x hx=>by
      obtain ⟨v,bb,a9⟩:=ao i (off+j) row x ac hx;obtain ⟨ar,he⟩:=Qix.1 bb;have:vs.getD (i*s+(off+j)) undef=v:=by simp [Array.getD,ar,he]
      rw [this];exact a9) a1 (a3 hg)
    exact ⟨_,H4 ho hv (K6 ay hs h1 h2),Q8T (by omega) h3⟩
   |false=>
    simp only [hs,cond_false] at h;obtain ⟨c0,h,a5⟩:=Qm h;obtain ⟨v,a2,a4,_⟩:=B1 h;refine ⟨_,a2,fun hg=>Qn fun β S st a w hR hO hA=>?_⟩;have ak:look st.h l=some (.arr e s rows):=by rw [hA l (.inl (by simp))];exact a6
    obtain ⟨b,hb,hv⟩:=RdA.ap_inv ak (aq▸hO.at aj);have ac:=a7 hg;rcases hR.hr.ob l _ ak with ⟨_,hn⟩ | ⟨b',vs,al,hw,_,bi,ao⟩
    ·subst hn;simp at ac
    obtain rfl:b=b':=by rw [hb] at al;injection al
    obtain ⟨u,hu,a9⟩:=ao i off row c0 ac (a5 hg);refine ⟨_,H4 ho hv (GT ay hs (v:=u) ?_),?_⟩
    ·rw [Jt hw];exact hu
    ·rw [a4 hg];exact .d _ _ a9
  ·cases h
 ·cases h
end

section
variable {P:Program} {E:Env} {R:Type}
theorem Q3I {o:Oper} {x:Operand} (ho:o.op = .move x\/o.op = .assign x) {ev:Operand->AV} {hl:Nat->Option Ob}:Ks P E o ev hl ⟨ev x,[],[]⟩:=by
 refine Qn fun β S st a w hR hO hA=>⟨a.eval x,?_,hO.at (by grind [Op.operands])⟩
 unfold execOp;rcases ho with ho | ho <;> rw [ho] <;> simp
theorem NI {o:Oper} {x:Operand} (ho:o.op = .nilCheck x) {a:Act} {w:World} {ad:Addr} (ac:a.eval x = .pointer (some ad)) :
  (execOp a.eval o).run P w = .ok (.value (.pointer (some ad))) w:=by
 simp_all [execOp]
theorem EK {o:Oper} {x:Operand} (ho:o.op = .nilCheck x) {ev:Operand->AV} {hl:Nat->Option Ob} {l f:Nat} (hv:ev x = .ptr l f):Ks P E o ev hl ⟨.ptr l f,[],[]⟩:=by
 refine Qn fun β S st a w hR hO hA=>?_
 have hx:=hv▸hO.at (x:=x) (by grind [Op.operands]);obtain ⟨b,_,h⟩:=hx.ptr_inv
 grind [NI]
theorem Ci {o:Oper} {x:Operand} (ho:o.op = .nilCheck x) {ev:Operand->AV} {hl:Nat->Option Ob} {l:List D} {f:Nat} (hv:ev x = .el l f):Ks P E o ev hl ⟨.el l f,[],[]⟩:=by
 refine Qn fun β S st a w hR hO hA=>?_
 have hx:=hv▸hO.at (x:=x) (by grind [Op.operands]);obtain ⟨b,_,h,_⟩:=hx.el_inv
 grind [NI]
theorem RdA.ap_ptr {β:Nat->Option Nat} {S:Nat->Prop} {h:Nat->Option Ob} {w:World} {tm:Nat->Value} {v:Value} {l i off:Nat} (hh:(h l).isSome=true) (hv:RdA β S h w tm v (.ap l i off)):∃ ad,v = .pointer (some ad):=by
 cases hv with
 |ap _ _ _ b e s rows hb hh=>simp_all
 |dang _ _ l' hl hn _=>grind [M8]
theorem Cy {o:Oper} {x:Operand} (ho:o.op = .nilCheck x) {ev:Operand->AV} {hl:Nat->Option Ob} {l i f:Nat} (hs:(hl l).isSome=true) (hv:ev x = .ap l i f):Ks P E o ev hl ⟨.ap l i f,[],[l]⟩:=by
 refine Qn fun β S st a w hR hO hA=>?_
 have hx:=hv▸hO.at (x:=x) (by grind [Op.operands]);obtain ⟨ad,h⟩:=hx.ap_ptr (by rw [hA l (.inl (by simp))];exact hs)
 grind [NI]
theorem Q8O {o:Oper} {op:UnOp} {t:TypeId} {x:Operand} (ho:o.op = .unOp op t x) {a:Act} {w:World} {u v:Value} (hx:a.eval x=u) (h:(Op.unary op u).run P w = .ok v w) :
  (execOp a.eval o).run P w = .ok (.value v) w:=by
 simp_all [execOp]
theorem QdA {o:Oper} {op:UnOp} {t:TypeId} {x:Operand} (ho:o.op = .unOp op t x) {ev:Operand->AV} {hl:Nat->Option Ob} {v:AV} (h:vUn op (ev x)=some v) :
  Ks P E o ev hl ⟨v,[],[]⟩:=by
 refine Qn fun β S st a w hR hO hA=>?_
 have hx:=hO.at (x:=x) (by grind [Op.operands]);unfold vUn at h;split at h
 ·rename_i b hb;cases h;rw [hb] at hx;exact ⟨.bool (!b),Q8O ho hx.bool_inv (by rfl),.d _ _ (.bool _)⟩
 ·rename_i k n hb;cases h;rw [hb] at hx;exact ⟨.int k (k.wrap (0-n)),Q8O ho hx.int_inv (by rfl),.d _ _ (.int _ _)⟩
 ·rename_i k n hb;cases h;rw [hb] at hx;exact ⟨.int k (Qel k n),Q8O ho hx.int_inv (by rfl),.d _ _ (.int _ _)⟩
 ·cases h
theorem Nu (op:BinOp) (t:TypeId) (x y:Operand) (k k':IntKind) (a b:Int) (w:World):(eqGuard op t x y (.int k a) (.int k' b)).run P w = .ok () w:=by
 simp [eqGuard]
theorem N0 (op:BinOp) (t:TypeId) (x y:Operand) (a b:Bool) (w:World):(eqGuard op t x y (.bool a) (.bool b)).run P w = .ok () w:=by
 simp [eqGuard]
theorem Dk {o:Oper} {op:BinOp} {t t':TypeId} {x y:Operand} (ho:o.op = .binOp op t x y t') {a:Act} {w:World} {u u' v:Value} (hx:a.eval x=u) (hy:a.eval y=u')
  (hg:(eqGuard op t x y u u').run P w = .ok () w) (h:(binOp op t u u').run P w = .ok v w) :
  (execOp a.eval o).run P w = .ok (.value v) w:=by
 simp_all [execOp]
theorem N9 (d:Nat) {t:TypeId} (hu:P.underlying t=some .bool) (a b:Bool) (w:World):(Op.equalIn (d+1) t (.bool a) (.bool b)).run P w = .ok (a == b) w:=by
 simp_all [Op.equalIn,Qim,QV,Qii]
theorem Q3i {t:TypeId} (hu:P.underlying t=some .bool) (a b:Bool) (w:World):(binOp .eql t (.bool a) (.bool b)).run P w = .ok (.bool (a == b)) w:=by
 simp_all [binOp,Op.equal,Op.maxDepth,Qim,N9,Qii]
theorem Q4A {t:TypeId} (hu:P.underlying t=some .bool) (a b:Bool) (w:World):(binOp .neq t (.bool a) (.bool b)).run P w = .ok (.bool (!(a == b))) w:=by
 simp_all [binOp,Op.equal,Op.maxDepth,Qim,N9,Qii]
theorem RdA.gd_inv {β:Nat->Option Nat} {S:Nat->Prop} {h:Nat->Option Ob} {w:World} {tm:Nat->Value} {v:Value} {t:Nat} {b:Bool} {av:AV} (hv:RdA β S h w tm v (.gd t b av)) :
  (tm t = .bool b/\RdA β S h w tm v av)\/(tm t≠.bool b/\v=undef):=by
 cases hv with
 |gdT _ _ _ _ ht hv=>simp_all
 |gdF _ _ _ ht=>simp_all
 |dang _ _ l hl _ _=>trivial
def dv:D->Value
 |.int k n=>.int k n
 |.bool b=>.bool b
 |_=>undef
theorem Q7N {op:BinOp} {k:IntKind} {a b:Int} {d:D} (h:Q6x op k a b=some d) (t:TypeId) (w:World) (S:Nat->Prop):∃ v,(binOp op t (.int k a) (.int k b)).run P w = .ok v w/\Rd S w v d:=by
 refine ⟨dv d,?_,?_⟩
 ·cases op <;> simp only [Q6x,Option.some.injEq,reduceCtorEq] at h <;> subst h <;> simp [binOp,Op.intArith,Op.intCmp,dv]
 ·cases op <;> simp only [Q6x,Option.some.injEq,reduceCtorEq] at h <;> subst h <;> first | exact .int _ _ | exact .bool _
theorem XJ {tt:TT} {t:Nat} {kd:Kd} (h:Pn tt t=kd) (hn:kd≠.other):∃ ti,look tt t=some ti/\ti.kd=kd:=by
 grind [Pn,absurd]
theorem Bn (op:BinOp) (t:TypeId) (x y:Operand) (a b:ByteArray) (w:World):(eqGuard op t x y (.string a) (.string b)).run P w = .ok () w:=by
 simp [eqGuard]
theorem Q6V:∀ (l:List Bool),Qao l=l.all id
 |[]=>rfl
 |[b]=>by simp [Qao]
 |b::c::r=>by rw [show Qao (b::c::r)=(b&&Qao (c::r)) from rfl,Q6V (c::r)];simp
theorem BK {g:Bool}:∀ {ks:List Kd} {xs ys:List AV} {k:List Bool->Option R} {r:R},Q4E g ks xs ys k=some r->∃ bs,k bs=some r/\bs.length=ks.length/\xs.length=ks.length/\ys.length=ks.length /\
  (g=true->∀ (β:Nat->Option Nat) (S:Nat->Prop) (h:Nat->Option Ob) (w:World) (tm:Nat->Value) (us vs:Nat->Value),(∀ (i:Nat) (x:AV),xs[i]? = some x->RdA β S h w tm (us i) x)->(∀ (i:Nat) (x:AV),ys[i]? = some x->RdA β S h w tm (vs i) x) ->
   ∀ (j:Nat) (kd:Kd) (b:Bool),ks[j]? = some kd->bs[j]? = some b->CEq kd (us j) (vs j) b)
 |[],[],[],k,r,h=>⟨[],h,rfl,rfl,rfl,fun _ _ _ _ _ _ _ _ _ _ j kd b hj=>by simp at hj⟩
 |kd::ks,x::xs,y::ys,k,r,h=>by
  cases x with
  |d a=>
   cases y with
   |d b=>
    have ao:∀ (c:Bool),Q4E g ks xs ys (fun r=>k (c::r))=some r->(g=true->∀ (β:Nat->Option Nat) (S:Nat->Prop) (h:Nat->Option Ob) (w:World) (tm:Nat->Value) (u v:Value),RdA β S h w tm u (.d a)->RdA β S h w tm v (.d b)->CEq kd u v c) ->
      ∃ bs,k bs=some r/\bs.length=(kd::ks).length/\(AV.d a::xs).length=(kd::ks).length/\(AV.d b::ys).length=(kd::ks).length /\
      (g=true->∀ (β:Nat->Option Nat) (S:Nat->Prop) (h:Nat->Option Ob) (w:World) (tm:Nat->Value) (us vs:Nat->Value),(∀ (i:Nat) (x:AV),(AV.d a::xs)[i]? = some x->RdA β S h w tm (us i) x)->(∀ (i:Nat) (x:AV),(AV.d b::ys)[i]? = some x->RdA β S h w tm (vs i) x) ->
       ∀ (j:Nat) (an:Kd) (b:Bool),(kd::ks)[j]? = some an->bs[j]? = some b->CEq an (us j) (vs j) b):=by
     intro c hc hq;obtain ⟨bs,h1,h2,h3,h4,h5⟩:=BK hc;refine ⟨c::bs,h1,by simp [h2],by simp [h3],by simp [h4],fun hg β S hh w tm us vs hu hv j an b' hj hb=>?_⟩;cases j with
     |zero=>simp at hj hb;subst hj hb;exact hq hg β S hh w tm _ _ (hu 0 _ rfl) (hv 0 _ rfl)
     |succ j=>exact h5 hg β S hh w tm (fun i=>us (i+1)) (fun i=>vs (i+1)) (fun i x hx=>hu (i+1) x (by simp_all)) (fun i x hx=>hv (i+1) x (by simpa using hx)) j an b' (by simpa using hj) (by simpa using hb)
    cases kd with
    |int ik=>
     simp only [Q4E] at h;obtain ⟨m,h,hm⟩:=Qm h;obtain ⟨n,h,hn⟩:=Qm h;refine ao _ h fun hg β S hh w tm u v hu hv=>?_
     rw [FM (hm hg)] at hu;rw [FM (hn hg)] at hv;exact ⟨m,n,hu.int_inv,hv.int_inv,rfl⟩
    |bool=>
     simp only [Q4E] at h;obtain ⟨m,h,hm⟩:=Qm h;obtain ⟨n,h,hn⟩:=Qm h;refine ao _ h fun hg β S hh w tm u v hu hv=>?_
     rw [MH (hm hg)] at hu;rw [MH (hn hg)] at hv;exact ⟨m,n,hu.bool_inv,hv.bool_inv,rfl⟩
    |str=>
     simp only [Q4E] at h;obtain ⟨m,h,hm⟩:=Qm h;obtain ⟨n,h,hn⟩:=Qm h;refine ao _ h fun hg β S hh w tm u v hu hv=>?_
     rw [FC (hm hg)] at hu;rw [FC (hn hg)] at hv;obtain ⟨s,rfl,rfl⟩:=hu.str_inv;obtain ⟨t,rfl,rfl⟩:=hv.str_inv;exact ⟨s,t,rfl,rfl,rfl⟩
    |_=>simp [Q4E] at h
   |_=>simp [Q4E] at h
  |_=>simp [Q4E] at h
 |[],[],_::_,k,r,h=>by simp [Q4E] at h
 |[],_::_,_,k,r,h=>by simp [Q4E] at h
 |_::_,[],_,k,r,h=>by simp [Q4E] at h
 |_::_,_::_,[],k,r,h=>by simp [Q4E] at h
theorem Qaj {o:Oper} {op:BinOp} {t t':TypeId} {x y:Operand} (ho:o.op = .binOp op t x y t') {g:Bool} {ev:Operand->AV} {hl:Nat->Option Ob} {k:Dl->Option R} {r:R} {a0 b0:List UInt8} (ar:ev x = .d (.str a0)) (an:ev y = .d (.str b0))
  (h:QgA g op a0 b0 (fun v=>k ⟨v,[],[]⟩)=some r):∃ dl,k dl=some r/\(g=true->Ks P E o ev hl dl):=by
 have aq:x∈o.op.operands.toList:=by grind [Op.operands]
 have ao:y∈o.op.operands.toList:=by simp [ho,Op.operands]
 have ac:∀ (d:D) (v:ByteArray->ByteArray->Value),k ⟨.d d,[],[]⟩=some r->(g=true->∀ (s u:ByteArray) (w:World) (S:Nat->Prop),s.data.toList=a0->u.data.toList=b0->(Op.stringOp op s u).run P w = .ok (v s u) w/\Rd S w (v s u) d)->∃ dl,k dl=some r/\(g=true->Ks P E o ev hl dl):=by
  intro d v hk hr;refine ⟨_,hk,fun hg=>Qn fun β S st a w hR hO hA=>?_⟩;obtain ⟨s,hs,hx⟩:=(ar▸hO.at aq).str_inv;obtain ⟨u,hu,hy⟩:=(an▸hO.at ao).str_inv;obtain ⟨h1,h2⟩:=hr hg s u w S hs.symm hu.symm;refine ⟨_,Dk ho hx hy (Bn ..) ?_,.d _ _ h2⟩
  grind [binOp,Op.stringOp]
 cases op <;> simp only [QgA,reduceCtorEq] at h
 ·obtain ⟨_,h,hp⟩:=Qm h;refine ac _ (fun s u=>.string (s++u)) h fun hg s u w S hs hu=>⟨?_,?_⟩
  ·have hp:=hp hg;unfold Q9e at hp;cases hb:Nat.ble (a0.length+b0.length) 9223372036854775807 with
   |false=>simp_all
   |true=>
    have:=Qiu hb;refine run_string_add_sum w s u ?_;rw [<- hs,<- hu,Qiw,Qiw] at this;exact this
  ·have:(s++u).data.toList=a0++b0:=by simp_all
   rw [<- this];exact .str _
 ·exact ac _ (fun s u=>.bool (s.toList == u.toList)) h fun hg s u w S hs hu=>⟨by rfl,by rw [Qiq,Qiq,hs,hu];exact .bool _⟩
 ·exact ac _ (fun s u=>.bool (!(s.toList == u.toList))) h fun hg s u w S hs hu=>⟨by simp [Op.stringOp],by rw [Qiq,Qiq,hs,hu];exact .bool _⟩
 ·exact ac _ (fun s u=>.bool (Op.bytesLess s.toList u.toList)) h fun hg s u w S hs hu=>⟨by simp [Op.stringOp],by rw [Qiq,Qiq,hs,hu];exact .bool _⟩
 ·exact ac _ (fun s u=>.bool (Op.bytesLess s.toList u.toList||s.toList == u.toList)) h fun hg s u w S hs hu=>⟨by simp [Op.stringOp],by rw [Qiq,Qiq,hs,hu];exact .bool _⟩
 ·exact ac _ (fun s u=>.bool (!(Op.bytesLess s.toList u.toList||s.toList == u.toList))) h fun hg s u w S hs hu=>⟨by simp [Op.stringOp],by rw [Qiq,Qiq,hs,hu];exact .bool _⟩
 ·exact ac _ (fun s u=>.bool (!Op.bytesLess s.toList u.toList)) h fun hg s u w S hs hu=>⟨by simp [Op.stringOp],by rw [Qiq,Qiq,hs,hu];exact .bool _⟩
theorem QaG {tt:TT} (hT:TOk P tt) {o:Oper} {op:BinOp} {t t':TypeId} {x y:Operand} (ho:o.op = .binOp op t x y t') {g:Bool} {ev:Operand->AV} {hl:Nat->Option Ob} {k:Dl->Option R} {r:R}
  (h:Qh5 g op (Pn tt t) (QcO tt t) (ev x) (ev y) (fun v=>k ⟨v,[],[]⟩)=some r):∃ dl,k dl=some r/\(g=true->Ks P E o ev hl dl):=by
 have ar:x∈o.op.operands.toList:=by grind [Op.operands]
 have aq:y∈o.op.operands.toList:=by simp [ho,Op.operands]
 unfold Qh5 at h;split at h
 ·rename_i ka a0 kb b0 aj ac;have al:∀ (d:Int),k ⟨.d (.int ka d),[],[]⟩=some r->(g=true->∀ w:World,(binOp op t (.int ka a0) (.int kb b0)).run P w = .ok (.int ka d) w)->∃ dl,k dl=some r/\(g=true->Ks P E o ev hl dl):=by
   intro d hk hr;refine ⟨_,hk,fun hg=>Qn fun β S st a w hR hO hA=>?_⟩;have hx:=(aj▸hO.at ar).int_inv;have hy:=(ac▸hO.at aq).int_inv;exact ⟨_,Dk ho hx hy (Nu ..) (hr hg w),.d _ _ (.int _ _)⟩
  have a7:∀ {u:Unit},BY b0=some u->0<=b0:=by
   grind [BY]
  split at h
  ·obtain ⟨_,h,hp⟩:=Qm h;refine al _ h fun hg w=>?_
   have h0:=a7 (hp hg);have:¬ b0<0:=by omega
   simp [binOp,Op.shift,this,shL]
  ·obtain ⟨_,h,hp⟩:=Qm h;refine al _ h fun hg w=>?_
   have h0:=a7 (hp hg);have:¬ b0<0:=by omega
   simp [binOp,Op.shift,this,shR]
  ·rename_i bo bj;cases hk:(ka == kb) with
   |false=>simp [hk] at h
   |true=>
    obtain rfl:ka=kb:=by simpa using hk
    simp only [hk,Qin] at h;split at h
    ·obtain ⟨_,h,hp⟩:=Qm h;refine al _ h fun hg w=>?_
     have a1:¬ b0=0:=by
      intro e;subst e;simp [nz] at hp;exact absurd hp (by simp [hg])
     simp [binOp,Op.intDiv,a1]
    ·obtain ⟨_,h,hp⟩:=Qm h;refine al _ h fun hg w=>?_
     have a1:¬ b0=0:=by
      intro e;subst e;simp [nz] at hp;exact absurd hp (by simp [hg])
     simp [binOp,Op.intDiv,a1]
    ·exact al _ h fun hg w=>by simp [binOp,Op.intBits,Q6G]
    ·exact al _ h fun hg w=>by simp [binOp,Op.intBits,bOr]
    ·exact al _ h fun hg w=>by simp [binOp,Op.intBits,Qgo]
    ·exact al _ h fun hg w=>by simp [binOp,Op.intBits,Q86]
    ·split at h
     ·rename_i d hd;refine ⟨_,h,fun hg=>Qn fun β S st a w hR hO hA=>?_⟩;have hx:=(aj▸hO.at ar).int_inv;have hy:=(ac▸hO.at aq).int_inv;obtain ⟨v,hv,hr⟩:=Q7N (P:=P) hd t w S;exact ⟨v,Dk ho hx hy (Nu ..) hv,.d _ _ hr⟩
     ·cases h
 ·rename_i a0 b0 aj ac;split at h
  ·rename_i az;obtain ⟨ti,an,au⟩:=XJ az (by simp);have hu:=(hT t ti an).kbool au;refine ⟨_,h,fun hg=>Qn fun β S st a w hR hO hA=>?_⟩;have hx:=(aj▸hO.at ar).bool_inv;have hy:=(ac▸hO.at aq).bool_inv;exact ⟨.bool (a0 == b0),Dk ho hx hy (N0 ..) (Q3i hu ..),.d _ _ (.bool _)⟩
  ·rename_i az;obtain ⟨ti,an,au⟩:=XJ az (by simp);have hu:=(hT t ti an).kbool au;refine ⟨_,h,fun hg=>Qn fun β S st a w hR hO hA=>?_⟩;have hx:=(aj▸hO.at ar).bool_inv;have hy:=(ac▸hO.at aq).bool_inv;exact ⟨.bool (!(a0 == b0)),Dk ho hx hy (N0 ..) (Q4A hu ..),.d _ _ (.bool _)⟩
  ·cases h
 ·rename_i a0 b0 aj ac;exact Qaj ho aj ac h
 ·rename_i xs ys aj ac;split at h
  case h_2=>cases h
  rename_i ks ay;obtain ⟨ti,an,bb⟩:∃ ti,look tt t=some ti/\ti.eqk=some ks:=by
   unfold QcO at ay;split at ay
   ·rename_i ti an;exact ⟨ti,an,ay⟩
   ·cases ay
  have hE:=(hT t ti an).keq ks bb;have a6:∀ (c:Bool->Bool) (bs:List Bool),k ⟨.d (.bool (c (Qao bs))),[],[]⟩=some r->bs.length=ks.length->xs.length=ks.length->ys.length=ks.length ->
    (∀ (u v:Array Value) (w:World) (b:Bool),(Op.equalIn 10000 t (.agg u) (.agg v)).run P w = .ok b w->(binOp op t (.agg u) (.agg v)).run P w = .ok (.bool (c b)) w) ->
    (g=true->∀ (β:Nat->Option Nat) (S:Nat->Prop) (h:Nat->Option Ob) (w:World) (tm:Nat->Value) (us vs:Nat->Value),(∀ (i:Nat) (x:AV),xs[i]? = some x->RdA β S h w tm (us i) x)->(∀ (i:Nat) (x:AV),ys[i]? = some x->RdA β S h w tm (vs i) x) ->
     ∀ (j:Nat) (kd:Kd) (b:Bool),ks[j]? = some kd->bs[j]? = some b->CEq kd (us j) (vs j) b)->∃ dl,k dl=some r/\(g=true->Ks P E o ev hl dl):=by
   intro c bs hk h2 h3 h4 a5 h5;refine ⟨_,hk,fun hg=>Qn fun β S st a w hR hO hA=>?_⟩;obtain ⟨us,hx,bq,bg⟩:=(aj▸hO.at ar).ag_inv;obtain ⟨vs,hy,bm,a9⟩:=(ac▸hO.at aq).ag_inv;obtain ⟨e1,e2⟩:=hE w us vs bs (by omega) (by omega) h2 (h5 hg β S _ w _ (fun j=>us.getD j undef) (fun j=>vs.getD j undef) bg a9);refine ⟨.bool (c (Qao bs)),Dk ho hx hy (run_eqGuard_agg w op t x y us vs e2) ?_,.d _ _ (.bool _)⟩;rw [Q6V];exact a5 us vs w _ e1
  split at h
  ·obtain ⟨bs,h1,h2,h3,h4,h5⟩:=BK h;exact a6 (fun b=>b) bs h1 h2 h3 h4 (fun u v w b hb=>by rw [run_eql_struct,hb];rfl) h5
  ·obtain ⟨bs,h1,h2,h3,h4,h5⟩:=BK h;exact a6 (fun b=>!b) bs h1 h2 h3 h4 (fun u v w b hb=>by rw [run_neq_struct,hb];rfl) h5
  ·cases h
 ·cases h
theorem Q4F {tt:TT} (hT:TOk P tt) {o:Oper} {s t:TypeId} {x:Operand} (ho:o.op = .convert s t x) {ev:Operand->AV} {hl:Nat->Option Ob} {ks kd kn:IntKind} {n:Int}
  (hs:Pn tt s = .int ks) (ht:Pn tt t = .int kd) (hx:ev x = .d (.int kn n)):Ks P E o ev hl ⟨.d (.int kd (kd.wrap n)),[],[]⟩:=by
 obtain ⟨ti,an,al⟩:=XJ hs (by simp);obtain ⟨ak,aj,ac⟩:=XJ ht (by simp);have ax:=(hT s ti an).kint _ al;have aw:=(hT t ak aj).kint _ ac;refine Qn fun β S st a w hR hO hA=>?_
 have hv:=(hx▸hO.at (x:=x) (by simp [ho,Op.operands])).int_inv;refine ⟨_,?_,.d _ _ (.int _ _)⟩
 simp_all [execOp,convert,QV,Conv.intToInt]
theorem Q2l {tt:TT} (hT:TOk P tt) {o:Oper} {s t:TypeId} {x:Operand} (ho:o.op = .convert s t x) {ev:Operand->AV} {hl:Nat->Option Ob} {n:List UInt8}
  (hs:Pn tt s = .str) (ht:Pn tt t = .str) (hx:ev x = .d (.str n)):Ks P E o ev hl ⟨.d (.str n),[],[]⟩:=by
 obtain ⟨ti,an,al⟩:=XJ hs (by simp);obtain ⟨ak,aj,ac⟩:=XJ ht (by simp);have au:=(hT s ti an).kstr al;have ar:=(hT t ak aj).kstr ac;refine Qn fun β S st a w hR hO hA=>?_
 obtain ⟨bs,hn,hv⟩:=(hx▸hO.at (x:=x) (by simp [ho,Op.operands])).str_inv;refine ⟨.string bs,?_,.d _ _ (by rw [hn];exact .str _)⟩
 simp_all [execOp,convert,QV]
theorem Q3D {o:Oper} {x:Operand} {i:Nat} (ho:o.op = .extract x i) {ev:Operand->AV} {hl:Nat->Option Ob} {l:List AV} {v:AV} (hx:ev x = .tup l) (hv:l[i]? = some v) :
  Ks P E o ev hl ⟨v,[],[]⟩:=by
 refine Qn fun β S st a w hR hO hA=>?_
 obtain ⟨cs,he,ak,hr⟩:=(hx▸hO.at (x:=x) (by grind [Op.operands])).tup_inv;refine ⟨_,?_,hr i v hv⟩;have ac:i<cs.size:=by
  grind
 simp_all [T2,execOp,Instr.extract,Qim]
theorem Q8e {o:Oper} {s:Nat} {x y:Operand} (ho:o.op = .pick (.tmp s) x y) {ev:Operand->AV} {hl:Nat->Option Ob} {e a0 b0:Bool}
  (he:ev (.tmp s) = .d (.bool e)) (hx:unw [(s,true)] (ev x) = .d (.bool a0)) (hy:unw [(s,false)] (ev y) = .d (.bool b0)) :
  Ks P E o ev hl ⟨.d (.bool (bif e then a0 else b0)),[],[]⟩:=by
 refine Qn fun β S st a w hR hO hA=>?_
 have hc:=(he▸hO.at (x:=.tmp s) (by grind [Op.operands])).bool_inv;have hX:=hO.at (x:=x) (by simp [ho,Op.operands]);have hY:=hO.at (x:=y) (by simp [ho,Op.operands]);have ak:∀ (z:Operand) (t c:Bool),unw [(s,t)] (ev z) = .d (.bool c)->RdA β S (look st.h) w (tmv a) (a.eval z) (ev z)->e=t->a.eval z = .bool c:=by
  intro z t c hu hz ax;cases aj:ev z with
  |gd s' w' av=>
   rw [aj] at hu hz;simp only [unw,Qdf,Bool.or_false] at hu;cases hm:(Nat.beq s s'&&(t == w')) with
   |false=>simp_all
   |true=>
    simp only [hm,Qin] at hu;simp only [Qik,beq_iff_eq] at hm;obtain ⟨h1,rfl⟩:=hm;obtain rfl:=Qil h1;subst hu;have a1:tmv a s = .bool t:=by
     have:tmv a s=a.eval (.tmp s):=rfl
     simp_all
    rcases hz.gd_inv with ⟨_,hv⟩ | ⟨aq,_⟩
    ·exact hv.bool_inv
    simp_all
  |d x'=>rw [aj] at hu hz;simp only [unw] at hu;rw [hu] at hz;exact hz.bool_inv
  |_=>rw [aj] at hu;simp [unw] at hu
 refine ⟨.bool (bif e then a0 else b0),?_,.d _ _ (.bool _)⟩;unfold execOp;rw [ho];cases e with
 |true=>simp [hc,asBool,ak x true a0 hx hX rfl]
 |false=>simp [hc,asBool,ak y false b0 hy hY rfl]
theorem Q8r {kd:Kd} (h:Rt kd=true):kd = .struct:=by cases kd <;> simp [Rt] at h;rfl
theorem Q64 {tt:TT} (hT:TOk P tt) {t f off ft:Nat} {ti:TyI} (aj:look tt t=some ti) (hs:Rt ti.kd=true) (hf:ti.fields[f]? = some (off,ft)) :
  ∃ fs fd,P.underlying t=some (.struct fs)/\fs[f]? = some fd/\fd.offset=off/\fd.type=ft/\∃ i,P.info? fd.type=some i/\i.size≠0:=by
 obtain ⟨fs,hu,ak,an⟩:=(hT t ti aj).kstruct (Q8r hs);rw [<- ak,Qit,Qio] at hf;obtain ⟨fd,al,he⟩:=hf;injection he with he1 he2
 exact ⟨fs,fd,hu,by simp_all,he1,he2,an fd (Qir al)⟩
theorem Q08 {tt:TT} (hT:TOk P tt) {o:Oper} {t:TypeId} {x:Operand} {f:Nat} (ho:o.op = .fieldAddr t x f) {ev:Operand->AV} {hl:Nat->Option Ob} {k:Dl->Option R} {r:R}
  (h:Du tt hl t f (ev x) k=some r):∃ dl,k dl=some r/\Ks P E o ev hl dl:=by
 have ak:x∈o.op.operands.toList:=by grind [Op.operands]
 unfold Du at h;split at h
 case h_2=>cases h
 rename_i ti aq;cases hs:Rt ti.kd with
 |false=>simp_all
 |true=>
  simp only [hs,Qin] at h;split at h
  case h_2=>cases h
  rename_i off ft hf;obtain ⟨fs,fd,hu,az,ar,_,i,hi,au⟩:=Q64 hT aq hs hf;have aj:∀ (a:Act) (w:World) (ad:Addr),a.eval x = .pointer (some ad)->(execOp a.eval o).run P w = .ok (.value (.pointer (some (ad.add off)))) w:=by
   simp_all [execOp,Instr.fieldAt,QV,Instr.sureAddr,fieldPlace,sizeOf,YE]
  split at h
  ·rename_i l o' ac;refine ⟨_,h,Qn fun β S st a w hR hO hA=>?_⟩;obtain ⟨b,hb,hx⟩:=(ac▸hO.at ak).ptr_inv;exact ⟨_,aj a w _ hx,by rw [HD];exact .ptr _ _ _ hb⟩
  ·rename_i row o' ac;refine ⟨_,h,Qn fun β S st a w hR hO hA=>?_⟩;obtain ⟨ad,c,hx,hS,hc,hr⟩:=(ac▸hO.at ak).el_inv;refine ⟨_,aj a w _ hx,.el _ _ _ (fun j=>c (off+j)) (by rw [JO];exact hS) (fun j y hy=>?_) (fun j y hy=>?_)⟩
   all_goals grind [Bm,Nat.add_assoc]
  ·rename_i l i' o' ac;split at h
   ·rename_i e s rows an;refine ⟨_,h,Qn fun β S st a w hR hO hA=>?_⟩;have ao:look st.h l=some (.arr e s rows):=by rw [hA l (.inl (by simp))];exact an
    obtain ⟨b,hb,hx⟩:=RdA.ap_inv ao (ac▸hO.at ak);exact ⟨_,aj a w _ hx,by rw [HD,QiN];exact .ap _ _ _ _ _ _ _ hb ao⟩
   ·cases h
  ·cases h
theorem Q2P {t:Nat} {ti:TyI} (ht:TyOk P t ti) (hs:Vv ti.kd=false) {w:World} {cs:Array Value} {off:Nat} {v:Value} (hc:cs[off]? = some v) :
  (part t cs off).run P w = .ok v w:=by
 simp only [part,Qim,ht.agg,hs,Qii,Bool.false_eq_true,if_false,hc];rfl
theorem Q2S {t:Nat} {ti:TyI} (ht:TyOk P t ti) (hs:Vv ti.kd=true) {w:World} {cs:Array Value} {off:Nat} :
  (part t cs off).run P w = .ok (.agg (cs.extract off (off+ti.size))) w:=by
 simp only [part,Qim,ht.agg,hs,Qii,if_true,ht.size];rfl
theorem Q7E {tt:TT} (hT:TOk P tt) {o:Oper} {t:TypeId} {x:Operand} {f:Nat} (ho:o.op = .field t x f) {g:Bool} {ev:Operand->AV} {hl:Nat->Option Ob} {k:Dl->Option R} {r:R}
  (h:Q9S tt g t f (ev x) k=some r):∃ dl,k dl=some r/\(g=true->Ks P E o ev hl dl):=by
 have an:x∈o.op.operands.toList:=by grind [Op.operands]
 unfold Q9S at h;split at h
 case h_2=>cases h
 rename_i ti a1;cases hs:Rt ti.kd with
 |false=>simp_all
 |true=>
  simp only [hs,Qin] at h;split at h
  case h_2=>cases h
  rename_i off ft hf;obtain ⟨fs,fd,hu,bh,a9,bg,i,hi,ba⟩:=Q64 hT a1 hs hf;split at h
  case h_2=>cases h
  rename_i fi a3;have ak:=hT ft fi a3;split at h
  case h_2=>cases h
  rename_i cells aq;have al:∀ (a:Act) (w:World) (cs:Array Value) (v:Value),a.eval x = .agg cs->(part ft cs off).run P w = .ok v w->(execOp a.eval o).run P w = .ok (.value v) w:=by
   simp_all [execOp,Instr.field,QV,asAgg]
  cases aj:Vv fi.kd with
  |true=>
   simp only [aj,Qin] at h;split at h
   ·rename_i cs a2;refine ⟨_,h,fun _=>Qn fun β S st a w hR hO hA=>?_⟩;obtain ⟨vs,hx,ay,hr⟩:=(aq▸hO.at an).ag_inv;obtain ⟨h1,h2,h3⟩:=RN a2;refine ⟨_,al a w vs _ hx (Q2S ak aj),?_⟩;have au:fi.size=0\/off+fi.size<=vs.size:=by
     rcases Nat.eq_zero_or_pos fi.size with h0 | h0
     ·exact .inl h0
     ·right;have h4:=h2 (fi.size-1) (by omega);have h5:cs[fi.size-1]? = some (cs[fi.size-1]'(by omega)):=Qiy (by omega);rw [h5] at h4;obtain ⟨h6,_⟩:=Qij.1 h4;omega
    refine .ag _ _ (by rw [h1,Array.size_extract];rcases au with h | h <;> omega) fun j y hy=>?_
    have hj:j<fi.size:=by obtain ⟨h6,_⟩:=Qij.1 hy;omega
    have:=hr (off+j) y ((h2 j hj).trans hy);have he:(vs.extract off (off+fi.size)).getD j undef=vs.getD (off+j) undef:=by
     have ao:off+j<vs.size:=by rcases au with h | h <;> omega
     have ar:j<(vs.extract off (off+fi.size)).size:=by rw [Array.size_extract];omega
     simp only [Array.getD,ao,ar,dite_true];simp
    simp_all
   ·cases h
  |false=>
   simp only [aj,cond_false] at h;split at h
   ·rename_i c hc;obtain ⟨v,az,aw,_⟩:=B1 h;refine ⟨_,az,fun hg=>Qn fun β S st a w hR hO hA=>?_⟩;obtain ⟨vs,hx,ay,hr⟩:=(aq▸hO.at an).ag_inv;have ao:off<vs.size:=by obtain ⟨h6,_⟩:=Qij.1 hc;omega
    exact ⟨_,al a w vs _ hx (Q2P ak aj (T2 ao)),by rw [aw hg];exact hr off c hc⟩
   ·cases h
end

section
variable {P:Program} {E:Env} {R:Type}
theorem Rd.sl_inv {S:Nat->Prop} {w:World} {v:Value} {s:Nat} {rows:List (List D)} (h:Rd S w v (.sl s rows)) :
  (rows=[]/\∃ a cap,v = .slice a 0 cap)\/∃ (ad:Addr) (cap:Nat) (c:Nat->Nat->Value),v = .slice (some ad) rows.length cap/\S ad.block/\rows.length<=cap/\(∀ (i:Nat) (r:List D),rows[i]? = some r->r.length=s) /\
   (∀ (i j:Nat) (r:List D) (x:D),rows[i]? = some r->r[j]? = some x->w.cell? (ad.add (i*s+j))=some (c i j))/\∀ (i j:Nat) (r:List D) (x:D),rows[i]? = some r->r[j]? = some x->Rd S w (c i j) x:=by
 cases h with
 |sl0 a cap=>simp_all
 |sl ad cap _ _ c hS ac aj hc hr=>exact .inr ⟨ad,cap,c,rfl,hS,ac,aj,hc,hr⟩
theorem Rd.len {S:Nat->Prop} {w:World} {v:Value} {s:Nat} {rows:List (List D)} (h:Rd S w v (.sl s rows)):∃ a cap,v = .slice a rows.length cap:=by
 rcases h.sl_inv with ⟨rfl,a,cap,rfl⟩ | ⟨ad,cap,_,rfl,_⟩
 all_goals simp
theorem EA {rows:List (List D)} {n:Int} {row:List D} (h:Q1 rows n=some row):0<=n/\n<rows.length/\rows[n.toNat]? = some row:=by
 grind [Q1]
theorem Q6A {len:Nat} {n:Int} {u:Unit} (h:inB len n=some u):0<=n/\n<len:=by
 grind [inB,decide]
theorem Es {tt:TT} (hT:TOk P tt) {o:Oper} {t:TypeId} {x i:Operand} (ho:o.op = .indexAddr t x i) {e ac:Nat} (hk:Pn tt t = .sl e ac) {a:Act} {w:World} {ad:Addr} {len cap:Nat} {ik:IntKind} {n:Int}
  (hx:a.eval x = .slice (some ad) len cap) (hi:a.eval i = .int ik n) (h0:0<=n) (h1:n<len) :
  (execOp a.eval o).run P w = .ok (.value (.pointer (some (ad.add (n.toNat*ac))))) w:=by
 obtain ⟨ti,ak,aj⟩:=XJ hk (by simp);obtain ⟨hu,_,inf,al,aq⟩:=(hT t ti ak).ksl _ _ aj
 simp_all [execOp,Instr.indexAt,asIntOf,QV,sizeOf,YE]
theorem Q0a {tt:TT} (hT:TOk P tt) {o:Oper} {t:TypeId} {x i:Operand} (ho:o.op = .indexAddr t x i) {g:Bool} {ev:Operand->AV} {hl:Nat->Option Ob} {k:Dl->Option R} {r:R}
  (h:Dd tt g hl t (ev x) (ev i) k=some r):∃ dl,k dl=some r/\(g=true->Ks P E o ev hl dl):=by
 have al:x∈o.op.operands.toList:=by grind [Op.operands]
 have aq:i∈o.op.operands.toList:=by simp [ho,Op.operands]
 unfold Dd at h;split at h
 case h_2=>cases h
 rename_i e aw ik n hk au;split at h
 ·rename_i s rows aj;cases hb:Nat.beq s aw with
  |false=>simp_all
  |true=>
   obtain rfl:=Qil hb;simp only [hb,Qin] at h;obtain ⟨row,h,ac⟩:=Qm h;refine ⟨_,h,fun hg=>Qn fun β S st a w hR hO hA=>?_⟩;obtain ⟨h0,h1,h2⟩:=EA (ac hg);have hi:=(au▸hO.at aq).int_inv;rcases (aj▸hO.at al).d_inv.sl_inv with ⟨rfl,_⟩ | ⟨ad,cap,c,hx,hS,_,a1,hc,hr⟩
   ·simp at h2
   refine ⟨_,Es hT ho hk hx hi h0 h1,.el _ _ _ (fun j=>c n.toNat j) (by grind [JO]) (fun j y hy=>?_) (fun j y hy=>?_)⟩
   all_goals grind [Bm]
 ·rename_i l aj;split at h
  ·rename_i e' s rows ao;cases hb:Nat.beq s aw with
   |false=>simp [hb] at h
   |true=>
    obtain rfl:=Qil hb;simp only [hb,Qin] at h;obtain ⟨u,h,ax⟩:=Qm h;refine ⟨_,h,fun hg=>Qn fun β S st a w hR hO hA=>?_⟩;obtain ⟨h0,h1⟩:=Q6A (ax hg);have hi:=(au▸hO.at aq).int_inv;have ar:look st.h l=some (.arr e' s rows):=by rw [hA l (.inl (by simp))];exact ao
    rcases RdA.arr_inv ar (aj▸hO.at al) with ⟨_,rfl,_⟩ | ⟨b,cap,cs,ty,fz,ay,hx,_⟩
    ·grind
    refine ⟨_,Es hT ho hk hx hi h0 h1,?_⟩;rw [HD,Nat.zero_add];exact .ap l n.toNat 0 b e' s rows ay ar
  ·cases h
 ·obtain ⟨row,h,ac⟩:=Qm h;refine ⟨_,h,fun hg=>?_⟩;obtain ⟨_,h1,_⟩:=EA (ac hg);simp at h1;have:=(EA (ac hg)).1;omega
 ·cases h
theorem Tm {tt:TT} (hT:TOk P tt) {o:Oper} {c:Call} {x:Operand} {t:Nat} {e ak:Nat} (ho:o.op = .call c) (hc:c.callee = .builtin .len) (ha:c.args.toList=[x]) (hat:c.argTypes.toList=[t]) (hk:Pn tt t = .sl e ak)
  {a:Act} {w:World} {ad:Option Addr} {len cap:Nat} (hx:a.eval x = .slice ad len cap):(execOp a.eval o).run P w = .ok (.value (.int .i64 len)) w:=by
 obtain ⟨ti,aj,ac⟩:=XJ hk (by simp);obtain ⟨hu,_⟩:=(hT t ti aj).ksl _ _ ac;have aq:c.args = #[x]:=by grind
 have al:c.argTypes = #[t]:=by rw [<- Array.toList_inj];simpa using hat
 simp_all [execOp,resolve,invoke,builtin,Builtin.len_,QV,goInt]
theorem Q5d {tt:TT} (hT:TOk P tt) {o:Oper} {c:Call} {x:Operand} {t:Nat} (ho:o.op = .call c) (hc:c.callee = .builtin .len) (ha:c.args.toList=[x]) (hat:c.argTypes.toList=[t]) (hk:Pn tt t = .str)
  {a:Act} {w:World} {s:ByteArray} (hx:a.eval x = .string s):(execOp a.eval o).run P w = .ok (.value (.int .i64 s.size)) w:=by
 obtain ⟨ti,aj,ac⟩:=XJ hk (by simp);have hu:=(hT t ti aj).kstr ac;have al:c.args = #[x]:=by grind
 have ak:c.argTypes = #[t]:=by grind
 simp_all [execOp,resolve,invoke,builtin,Builtin.len_,QV,goInt]
theorem Q5m {tt:TT} (hT:TOk P tt) {o:Oper} {c:Call} {x:Operand} {t:Nat} {e ak:Nat} (ho:o.op = .call c) (hc:c.callee = .builtin .cap) (ha:c.args.toList=[x]) (hat:c.argTypes.toList=[t]) (hk:Pn tt t = .sl e ak)
  {a:Act} {w:World} (hx:a.eval x = .slice none 0 0):(execOp a.eval o).run P w = .ok (.value (.int .i64 0)) w:=by
 obtain ⟨ti,aj,ac⟩:=XJ hk (by simp);obtain ⟨hu,_⟩:=(hT t ti aj).ksl _ _ ac;have an:c.args = #[x]:=by grind
 have al:c.argTypes = #[t]:=by grind
 simp_all [execOp,resolve,invoke,builtin,Builtin.cap_,QV,goInt]
end

section
variable {E:Env} {β β':Nat->Option Nat} {S S':Nat->Prop} {st:St} {a:Act} {w w':World}
theorem Q8M {l t:Nat} {tm:List (Nat × AV)} {av:AV} (h:look tm t=some av) (hn:Um l av=true):Ao l tm=true:=by
 induction tm with
 |nil=>trivial
 |cons x r ih=>
  grind [look,Nat.beq,Ao]
theorem Q8b {l t:Nat} {hs:List (Nat × Ob)} {cells:List AV} (h:look hs t=some (.box cells)) (hn:K2 l cells=true):JD l hs=true:=by
 induction hs with
 |nil=>trivial
 |cons x r ih=>
  obtain ⟨k,b⟩:=x;simp only [look] at h;cases hk:Nat.beq k t with
  |true=>grind [JD]
  |false=>simp [hk] at h;cases b <;> simp [JD,ih h]
theorem Q6M {l t:Nat} {av:AV} (hc:UQ st l=true) (h:look st.tm t=some av):Um l av=false:=by
 grind [Um,UQ,Q8M]
theorem Q9A {l t i:Nat} {cells:List AV} {x:AV} (hc:UQ st l=true) (h:look st.h t=some (.box cells)) (hx:cells[i]? = some x):Um l x=false:=by
 grind [Um,UQ,Q8b,NZ]
theorem Keep.rfl_ (β:Nat->Option Nat) (h:Nat->Option Ob) (w:World) (l:Nat):Keep β h w β h w l:=
 ⟨rfl,fun x=>x,fun _ _ rows hh=>.inr ⟨rows,hh,rfl⟩,fun _ cs ty fz _ _ hw=>⟨cs,ty,fz,hw,rfl⟩,fun _ f hh=>.inr ⟨f,hh⟩⟩
theorem Rel.upd (hR:Rel E β S st a w) {H':List (Nat × Ob)} (ak:∀ b,S b->S' b) (an:∀ b,S b->w'.heap[b]? = w.heap[b]?) (T:Nat->Prop)
  (hT:∀ l,¬ T l->β' l=β l/\look H' l=look st.h l/\∀ b,(look st.h l).isSome=true->β l=some b->w'.heap[b]? = w.heap[b]?)
  (aw:∀ l,T l->Keep β (look st.h) w β' (look H') w' l\/UQ st l=true)
  (a3:∀ l o,T l->look H' l=some o->ObR β' S' (look H') w' l o)
  (inj:∀ l l' b,(look H' l).isSome=true->(look H' l').isSome=true->β' l=some b->β' l'=some b->l=l')
  (apart:∀ l b,(look H' l).isSome=true->β' l=some b->¬ S' b)
  (own:∀ l b,(look H' l).isSome=true->β' l=some b->E.M b\/E.w0.heap.size<=b)
  (sb:∀ b,S' b->b<w'.heap.size) (sfr:∀ b,S' b->E.S0 b\/E.M b\/E.w0.heap.size<=b) (fr:Fr E.M E.w0 w') :
  Rel E β' S' ⟨st.n,st.tm,H'⟩ a w':=by
 have ac:∀ l,Keep β (look st.h) w β' (look H') w' l\/UQ st l=true:=by
  intro l;by_cases hl:T l
  ·exact aw l hl
  ·obtain ⟨h1,h2,h3⟩:=hT l hl;exact .inl ⟨h1,fun h=>by rw [h2];exact h,fun e s rows h=>.inr ⟨rows,by rw [h2];exact h,rfl⟩,fun b cs ty fz hs hb hw=>⟨cs,ty,fz,by rw [h3 b (by rw [<- h2];exact hs) hb];exact hw,rfl⟩,fun _ f h=>.inr ⟨f,by rw [h2];exact h⟩⟩
 have hA:∀ (tm:Nat->Value) (v:Value) (av:AV),(∀ l,UQ st l=true->Um l av=false)->RdA β S (look st.h) w tm v av->RdA β' S' (look H') w' tm v av:=by
  intro tm v av hc hv;refine hv.mono ak an (fun l hn=>?_) (fun _ _=>rfl);rcases ac l with h | h
  ·exact h
  ·rw [hc l h] at hn;cases hn
 refine ⟨hR.n,hR.dfr,fun t av ht=>hA _ _ _ (fun l hc=>Q6M hc ht) (hR.tm t av ht),⟨?_,inj,apart,own,sb,sfr,fun b hb=>ak b (hR.hr.s0 b hb),fr,fun l hp=>?_,fun l b hp hs hb cs ty fz hw=>?_⟩⟩
 rotate_left
 ·refine Eq.trans ?_ (hR.hr.pin l hp);rcases ac l with h | h
  ·exact h.b
  ·simp only [UQ,Qik] at h;have:=Qiu h.1;omega
 ·rcases ac l with h | h
  ·have au:(look st.h l).isSome=true:=by
    cases hx:look st.h l with
    |some o=>rfl
    |none=>rw [h.none_ hx] at hs;cases hs
   rw [h.b] at hb;obtain ⟨ay,az,fz1,g1,g2⟩:=hR.hr.psz l b hp au hb cs ty fz hw;obtain ⟨aq,a2,a4,g3,g4⟩:=h.cells b ay az fz1 hs hb g1;exact ⟨aq,a2,a4,g3,g4.trans g2⟩
  ·simp only [UQ,Qik] at h;have:=Qiu h.1;omega
 intro l o ho;by_cases hl:T l
 ·exact a3 l o hl ho
 ·obtain ⟨h1,h2,h3⟩:=hT l hl;rw [h2] at ho;have aj:=hR.hr.ob l o ho;cases o with
  |box cells=>
   obtain ⟨b,ty,cs,fz,hb,hw,hf,al,hr⟩:=aj;exact ⟨b,ty,cs,fz,h1.trans hb,(h3 b (by simp [ho]) hb).trans hw,hf,al,fun i x hx=>hA _ _ _ (fun l' hc=>Q9A hc ho hx) (hr i x hx)⟩
  |arr e s rows=>
   rcases aj with ⟨hb,hn⟩ | ⟨b,cs,hb,hw,al,ax,hr⟩
   ·exact .inl ⟨h1.trans hb,hn⟩
   ·refine .inr ⟨b,cs,h1.trans hb,(h3 b (by simp [ho]) hb).trans hw,al,ax,fun i j r x h4 h5=>?_⟩;obtain ⟨v,hv,ar⟩:=hr i j r x h4 h5;exact ⟨v,hv,ar.mono ak an⟩
  |mp t f=>
   obtain ⟨b,hb,hm⟩:=aj;exact ⟨b,h1.trans hb,hm.same (h3 b (by simp [ho]) hb)⟩
theorem Nj (hR:Rel E β S st a w) {l b:Nat} (hs:(look st.h l).isSome=true) (hb:β l=some b):b<w.heap.size:=by
 cases ho:look st.h l with
 |none=>simp_all
 |some o=>
  have ac:=hR.hr.ob l o ho;have:∃ c,w.heap[b]? = some c:=by
   cases o with
   |box cells=>
    obtain ⟨b',ty,cs,fz,aj,hw,_⟩:=ac
    simp_all
   |arr e s rows=>
    rcases ac with ⟨aj,_⟩ | ⟨b',cs,aj,hw,_⟩
    all_goals grind
   |mp t f=>
    obtain ⟨b',aj,es,ak,hw,_⟩:=ac
    simp_all
  grind
theorem ZD (w:World) (o:Obj) {b:Nat} (h:b<w.heap.size):(w.alloc o).heap[b]? = w.heap[b]?:=by
 show (w.heap.push o)[b]? = _
 grind
theorem Jp (w:World) (o:Obj):(w.alloc o).heap[w.heap.size]? = some o:=by
 show (w.heap.push o)[w.heap.size]? = _;simp
theorem Q75 {M:Nat->Prop} {w0 w:World} (h:Fr M w0 w) (o:Obj):Fr M w0 (w.alloc o):=
 h.trans ⟨rfl,rfl,rfl,by show w.heap.size<=(w.heap.push o).size;simp,fun b hb _=>ZD w o hb⟩
def RG (β:Nat->Option Nat) (l:Nat) (b:Option Nat):Nat->Option Nat:=fun k=>if k=l then b else β k
theorem Rel.new (hR:Rel E β S st a w) {l:Nat} {o:Ob} {ac:Obj} (hn:look st.h l=none) (hc:UQ st l=true)
  (al:ObR (RG β l (some w.heap.size)) S (look ((l,o)::rem l st.h)) (w.alloc ac) l o) :
  Rel E (RG β l (some w.heap.size)) S ⟨st.n,st.tm,(l,o)::rem l st.h⟩ a (w.alloc ac):=by
 have ak:∀ k,look ((l,o)::rem l st.h) k=if k=l then some o else look st.h k:=fun k=>Ue l k o st.h
 refine hR.upd (fun _ h=>h) (fun b hb=>ZD w ac (hR.hr.sb b hb)) (fun k=>k=l) (fun k hk=>?_) (fun k hk=>.inr (hk▸hc)) (fun k o' hk ho=>?_) ?_ ?_ ?_ ?_ hR.hr.sfr (Q75 hR.hr.fr ac)
 ·grind [RG,ZD,Nj]
 ·simp_all
 ·intro k k' b h1 h2 h3 h4;rw [ak] at h1 h2;unfold RG at h3 h4;by_cases e:k=l <;> by_cases e':k'=l
  ·rw [e,e']
  ·rw [Qiz e] at h3;rw [Qiv e'] at h4 h2;injection h3 with h3
   have:=Nj hR h2 h4;omega
  ·rw [Qiz e'] at h4;rw [Qiv e] at h3 h1;injection h4 with h4
   have:=Nj hR h1 h3;omega
  ·rw [Qiv e] at h3 h1;rw [Qiv e'] at h4 h2;exact hR.hr.inj k k' b h1 h2 h3 h4
 ·intro k b h1 h2 hS;rw [ak] at h1;unfold RG at h2;by_cases e:k=l
  ·rw [Qiz e] at h2;injection h2 with h2
   have:=hR.hr.sb b hS;omega
  ·rw [Qiv e] at h2 h1;exact hR.hr.apart k b h1 h2 hS
 ·intro k b h1 h2;rw [ak] at h1;unfold RG at h2;by_cases e:k=l
  ·rw [Qiz e] at h2;injection h2 with h2
   right;have:=hR.hr.fr.size;omega
  ·rw [Qiv e] at h2 h1;exact hR.hr.own k b h1 h2
 ·intro b hb;have:=hR.hr.sb b hb;simp;omega
theorem Rel.set (hR:Rel E β S st a w) {l b:Nat} {o o':Ob} (ho:look st.h l=some o) (hb:β l=some b)
  (aj:∀ k,k≠b->w'.heap[k]? = w.heap[k]?) (au:w'.os=w.os) (al:w'.tape=w.tape) (aq:w'.output=w.output) (ao:w'.heap.size=w.heap.size)
  (hk:Keep β (look st.h) w β (look ((l,o')::rem l st.h)) w' l) (a2:ObR β S (look ((l,o')::rem l st.h)) w' l o') :
  Rel E β S ⟨st.n,st.tm,(l,o')::rem l st.h⟩ a w':=by
 have a1:∀ k,look ((l,o')::rem l st.h) k=if k=l then some o' else look st.h k:=fun k=>Ue l k o' st.h
 have an:(look st.h l).isSome=true:=by simp [ho]
 have ac:∀ k,(look ((l,o')::rem l st.h) k).isSome=true->(look st.h k).isSome=true:=by
  grind
 refine hR.upd (fun _ h=>h) (fun k hS=>aj k (fun e=>?_)) (fun k=>k=l) (fun k hk=>?_) (fun k ak=>.inl (ak▸hk)) (fun k az ak aw=>?_) ?_ ?_ ?_ ?_ hR.hr.sfr ?_
 ·subst e;exact hR.hr.apart l _ an hb hS
 ·refine ⟨rfl,by simp_all,fun k' hs ar=>aj k' (fun e=>?_)⟩;subst e;exact hk (hR.hr.inj k l _ hs an ar hb)
 ·simp_all
 ·exact fun k k' b' h1 h2 h3 h4=>hR.hr.inj k k' b' (ac k h1) (ac k' h2) h3 h4
 ·exact fun k b' h1 h2=>hR.hr.apart k b' (ac k h1) h2
 ·exact fun k b' h1 h2=>hR.hr.own k b' (ac k h1) h2
 ·intro k hS;rw [ao];exact hR.hr.sb k hS
 ·have fr:=hR.hr.fr;refine ⟨au.trans fr.os,al.trans fr.tape,aq.trans fr.output,by rw [ao];exact fr.size,fun k ak hM=>(aj k (fun e=>?_)).trans (fr.block k ak hM)⟩;rcases hR.hr.own l _ an hb with h | h
  all_goals grind
end

section
variable {P:Program} {E:Env} {R:Type}
theorem A3 {β:Nat->Option Nat} {S:Nat->Prop} {h:Nat->Option Ob} {w:World} {tm:Nat->Value} (v:Value):RdA β S h w tm v (PQ v):=by
 unfold PQ;split
 ·exact .d _ _ (.int _ _)
 ·exact .d _ _ (.bool _)
 ·exact .d _ _ (.str _)
 ·exact .nil
 ·exact .top _
theorem Q8F {β:Nat->Option Nat} {S:Nat->Prop} {h:Nat->Option Ob} {w:World} {tm:Nat->Value} {v:Value} {av:AV} (hv:RdA β S h w tm v av) (ho:Q2K av=true):v.oneCell'=true:=by
 cases hv <;> simp [Q2K] at ho <;> try rfl
 ·rename_i hx;cases hx <;> rfl
 ·assumption
theorem DO {av:AV} (ho:Q2K av=true):Q0C av=true:=by
 cases av with
 |fn f l=>assumption
 |_=>trivial
theorem Q9h {v:Value} (h:v.oneCell'=true):v.cells = #[v]:=by cases v <;> simp [Value.oneCell'] at h <;> rfl
theorem RdA.to_tm0 {β:Nat->Option Nat} {S:Nat->Prop} {h:Nat->Option Ob} {w:World} {tm:Nat->Value} {v:Value} {av:AV} (hg:Q0C av=true) (hv:RdA β S h w tm v av):RdA β S h w tm0 v av:=by
 refine RdA.mono hv (fun _ hb=>hb) (fun _ _=>rfl) (fun l _=>Keep.rfl_ ..) (fun t ht=>?_)
 grind [R7]
theorem MD {β:Nat->Option Nat} {S:Nat->Prop} {h:Nat->Option Ob} {w:World} {tm:Nat->Value} {v:Value} {av:AV} (hv:RdA β S h w tm v av) (ho:(Y9 av).all Q2K=true) :
  v.cells.size=(Y9 av).length/\(∀ (i:Nat) (x:AV),(Y9 av)[i]? = some x->RdA β S h w tm (v.cells.getD i undef) x)/\∀ u∈v.cells.toList,u.oneCell'=true:=by
 cases av with
 |ag l=>
  obtain ⟨cs,rfl,al,hr⟩:=hv.ag_inv;refine ⟨al,hr,fun u hu=>?_⟩;obtain ⟨i,hi,rfl⟩:=List.getElem_of_mem hu;have ak:i<cs.size:=by assumption
  have h1:l[i]? = some (l[i]'(by omega)):=Qiy (by omega);have h2:=hr i _ h1;have h3:Q2K (l[i]'(by omega))=true:=by
   grind [Y9,List.all_eq_true,List.getElem_mem]
  have h4:=Q8F h2 h3;have h5:cs.getD i undef=cs[i]:=by simp [Array.getD,ak]
  grind [Value.cells]
 |fs s rows=>
  obtain ⟨ad,rfl,hr⟩:=hv.fs_inv;refine ⟨rfl,fun i x hx=>?_,fun u hu=>?_⟩
  ·cases i with
   |zero=>simp [Y9] at hx;subst hx;exact .d _ _ hr
   |succ i=>trivial
  ·simp [Value.cells] at hu;subst hu;rfl
 |_=>
  all_goals
   simp only [Y9,List.all_cons,List.all_nil,Bool.and_true] at ho
   first
    |have h1:=Q8F hv ho
     rw [Q9h h1];refine ⟨rfl,fun i x hx=>?_,fun u hu=>?_⟩
     ·cases i with
      |zero=>simp [Y9] at hx;subst hx;simpa [Array.getD] using hv
      |succ i=>simp [Y9] at hx
     simp_all
    |(simp [Q2K] at ho)
theorem Vf {hl:Nat->Option Ob} {ac:Nat} {o:Ob} {v:AV} {wr:List (Nat × Option Ob)} {rd:List Nat} {k:Dl->Option R} {r:R} (h:EM hl ac o v wr rd k=some r) :
  hl ac=none/\k ⟨v,wr++[(ac,some o)],rd⟩=some r:=by
 grind [EM]
theorem Qd9 (n:Nat):Qhe n (0,0):=fun _ _ h=>by omega
theorem BG {o:Oper} {ev:Operand->AV} {hl:Nat->Option Ob} {ac:Nat} {cells:List AV} {ty:TypeId} (hn:hl ac=none) (aq:Q7j ty cells)
  (h:∀ β S st a w,Rel E β S st a w->Bj β S st a w o ev->∃ cs:Array Value,(execOp a.eval o).run P w = .ok (.value (.pointer (some ⟨w.heap.size,0,none⟩))) (w.alloc (.cells cs ty))/\cs.size=cells.length /\
   ∀ (i:Nat) (x:AV),cells[i]? = some x->Q0C x=true/\((RdA β S (look st.h) w (tmv a) (cs.getD i undef) x/\(UQ st ac=true->Um ac x=false))\/∃ t,x = .sa ac t/\cs.getD i undef = .pointer none)) :
  Ks P E o ev hl ⟨.ptr ac 0,[]++[(ac,some (.box cells))],[]⟩:=by
 intro β S st a w hR hO hA a1 K Q hK;obtain ⟨cs,ak,an,ar⟩:=h β S st a w hR hO;have au:look st.h ac=none:=by rw [hA ac (.inr (by simp [wrL]))];exact hn
 have hc:UQ st ac=true:=by grind [WD]
 unfold Oper.wp;rw [ak];refine hK _ _ ⟨RG β ac (some w.heap.size),S,?_,?_⟩
 ·refine hR.new au hc ⟨w.heap.size,ty,cs,(0,0),by simp [RG],Jp _ _,⟨Qd9 _,aq⟩,an,fun i x hx=>?_⟩;obtain ⟨h1,aw⟩:=ar i x hx;rcases aw with ⟨h2,h3⟩ | ⟨t,rfl,hp⟩
  case inr=>exact .sa _ _ _ w.heap.size (by simp [RG]) (.inl hp)
  refine (h2.to_tm0 h1).mono (fun _ hb=>hb) (fun b hb=>ZD _ _ (hR.hr.sb b hb)) (fun l az=>?_) (fun _ _=>rfl);have aj:l≠ac:=fun e=>by simp_all
  exact ⟨by simp [RG,aj],fun h=>by rw [Ue,Qiv aj];exact h,fun e s rows h=>.inr ⟨rows,by rw [Ue,Qiv aj];exact h,rfl⟩,
   fun b ao al fz hs hb hw=>⟨ao,al,fz,by rw [ZD _ _ (Nj hR (by rw [Ue,Qiv aj] at hs;exact hs) hb)];exact hw,rfl⟩,fun _ f h=>.inr ⟨f,by rw [Ue,Qiv aj];exact h⟩⟩
 ·exact .ptr _ _ _ (by simp [RG])
theorem A6 (l:Nat) (v:Value):Um l (PQ v)=false:=by
 unfold PQ;split <;> rfl
theorem Q7i (v:Value):Q0C (PQ v)=true:=by
 unfold PQ;split <;> rfl
theorem Q7Y {tt:TT} (hT:TOk P tt) {o:Oper} {t:TypeId} (ho:o.op = .alloc t) {ev:Operand->AV} {hl:Nat->Option Ob} {ac:Nat} {ti:TyI} (ao:look tt t=some ti) (hn:hl ac=none) :
  Ks P E o ev hl ⟨.ptr ac 0,[]++[(ac,some (.box (Q1d ac t ti)))],[]⟩:=by
 obtain ⟨inf,ar,_,_,z,hz,aq⟩:=(hT t ti ao).inf;have al:Q7j t (Q1d ac t ti):=by
  intro i l t' hi;simp only [Q1d,Qit,Qio] at hi;obtain ⟨v,_,hv⟩:=hi;unfold Q5M at hv;split at hv
  ·injection hv
  ·unfold PQ at hv
   grind
 refine BG (ty:=t) hn al fun β S st a w hR hO=>⟨z.cells,?_,?_,fun i x hx=>?_⟩
 ·simp_all [execOp,Instr.alloc,zeroValue,YE,newVar,newRow]
 ·grind [Array.length_toList,Q1d]
 ·simp only [Q1d,Qit,Qio] at hx;obtain ⟨v,hv,rfl⟩:=hx;have:z.cells.getD i undef=v:=by
   rw [<- aq] at hv;obtain ⟨hi,he⟩:=Qij.1 hv;have an:i<z.cells.size:=by omega
   simp only [Array.getD,an,dite_true]
   assumption
  rw [this];unfold Q5M;split
  ·exact ⟨rfl,.inr ⟨t,rfl,rfl⟩⟩
  grind [Q7i,A3,A6]
theorem Q1h {st:St} {ac:Nat} (hc:UQ st ac=true) (x:Operand):Um ac (evO st.tm x)=false:=by
 cases x with
 |tmp t=>
  simp only [evO,lkT];cases h:look st.tm t with
  |none=>rfl
  |some av=>grind [Q6M]
 |const v=>exact A6 ac v
 |_=>rfl
theorem Q3n {l i:Nat} {r:List AV} {x:AV} (h:r[i]? = some x) (hn:K2 l r=false):Um l x=false:=by
 grind [Um,NZ]
theorem Q0h {l:Nat} {av:AV} (h:Um l av=false):K2 l (Y9 av)=false:=by
 cases av <;> simp_all [Y9,K2,Um]
theorem QaD {o:Oper} {t:TypeId} {x:Operand} (ho:o.op = .box t x) {ev:Operand->AV} {hl:Nat->Option Ob} {aj:Nat} (ac:(Y9 (ev x)).all Q2K=true) (hn:hl aj=none) :
  Ks P E o ev hl ⟨.ptr aj 0,[]++[(aj,some (.box (Y9 (ev x))))],[]⟩:=by
 have ak:x∈o.op.operands.toList:=by grind [Op.operands]
 have al:Q7j t (Y9 (ev x)):=by
  intro i l t' hi;rw [QiC] at ac;have:=ac _ (Qir hi);trivial
 refine BG (ty:=t) hn al fun β S st a w hR hO=>?_
 obtain ⟨h1,h2,_⟩:=MD (hO.at ak) ac;refine ⟨(a.eval x).cells,?_,h1,fun i y hy=>⟨?_,.inl ⟨h2 i y hy,fun hc=>Q3n hy (Q0h (hO.nm ak hc))⟩⟩⟩
 ·simp_all [execOp,Instr.box,newVar,newRow]
 grind [List.all_eq_true,DO,List.mem_of_getElem?]
structure Wrote (b:Nat) (cs:Array Value) (ty:TypeId) (fz:Nat × Nat) (w w':World):Prop where
 blk:w'.heap[b]? = some (.cells cs ty fz)
 oth:∀ k,k≠b->w'.heap[k]? = w.heap[k]?
 os:w'.os=w.os
 tape:w'.tape=w.tape
 output:w'.output=w.output
 size:w'.heap.size=w.heap.size
theorem Q9N {w:World} {b o:Nat} {cs:Array Value} {ty:TypeId} {fz:Nat × Nat} (h:w.heap[b]? = some (.cells cs ty fz)) (v:Value):Wrote b (cs.setIfInBounds o v) ty fz w (w.setCell ⟨b,o,none⟩ v):=by
 refine ⟨?_,fun k hk=>?_,rfl,rfl,rfl,by simp_all⟩
 ·simp [World.setCell,Array.getElem?_modify,h]
 ·simp only [World.setCell,Array.getElem?_modify]
  grind
theorem Wrote.trans {b:Nat} {cs aj:Array Value} {ty:TypeId} {fz:Nat × Nat} {w w' ak:World} (h:Wrote b cs ty fz w w') (h':Wrote b aj ty fz w' ak):Wrote b aj ty fz w ak:=
 ⟨h'.blk,fun k hk=>(h'.oth k hk).trans (h.oth k hk),h'.os.trans h.os,h'.tape.trans h.tape,h'.output.trans h.output,h'.size.trans h.size⟩
def P4 (cs:Array Value):Nat->List Value->Array Value
 |_,[]=>cs
 |o,v::r=>P4 (cs.setIfInBounds o v) (o+1) r
theorem Uv:∀ (vs:List Value) (cs:Array Value) (o:Nat),(P4 cs o vs).size=cs.size
 |[],_,_=>rfl
 |v::r,cs,o=>by simp [P4,Uv r]
theorem SP:∀ (vs:List Value) (cs:Array Value) (o j:Nat),o+vs.length<=cs.size->(P4 cs o vs)[j]? = if o<=j/\j<o+vs.length then vs[j-o]? else cs[j]?
 |[],cs,o,j,_=>by simp [P4];intro h1 h2;omega
 |v::r,cs,o,j,h=>by
  simp only [QiI] at h;rw [P4,SP r _ (o+1) j (by simp;omega)];simp only [QiI];by_cases h1:o+1<=j/\j<o+1+r.length
  ·rw [Qiz h1,Qiz (by omega)];rw [show j-o=(j-(o+1))+1 from by omega];simp
  ·rw [Qiv h1];by_cases h2:j=o
   ·subst h2;rw [Qiz (by omega)];simp [Array.getElem?_setIfInBounds];omega
   ·rw [Qiv (by omega)];rw [Array.getElem?_setIfInBounds,Qiv (by omega)]
theorem GE (b o:Nat) (ty:TypeId) (fz:Nat × Nat):∀ (vs:List Value) (i:Nat) (cs:Array Value) (w:World),w.heap[b]? = some (.cells cs ty fz)->Qhe cs.size fz->o+i+vs.length<=cs.size->(∀ v∈vs,v.oneCell'=true) ->
  ∃ w',(storeCells ⟨b,o,none⟩ vs i).run P w = .ok () w'/\Wrote b (P4 cs (o+i) vs) ty fz w w'
 |[],i,cs,w,h,_,_,_=>⟨w,by rfl,⟨h,fun _ _=>rfl,rfl,rfl,rfl,rfl⟩⟩
 |v::r,i,cs,w,h,hf,al,h1=>by
  simp only [QiI] at al;have aj:o+i<cs.size:=by omega
  have ak:w.cell? ⟨b,o+i,none⟩=some (cs.getD (o+i) undef):=by rw [Jt h];simp_all
  have ar:w.frozen? ⟨b,o+i,none⟩=false:=by
   have:=hf (o+i) aj
   grind [World.frozen?]
  have ao:=run_store P w ⟨b,o+i,none⟩ v .plain (h1 v (by simp));have hw:=Q9N (o:=o+i) h v;obtain ⟨w',an,ac⟩:=GE b o ty fz r (i+1) (cs.setIfInBounds (o+i) v) (w.setCell ⟨b,o+i,none⟩ v) hw.blk (by simp_all) (by simp;omega) (fun u hu=>h1 u (by simp [hu]));refine ⟨w',?_,hw.trans ac⟩
  grind [storeCells,Sem.run_bind,HD,Result.andThen_ok]
theorem SZ:∀ {vs cells cs:List AV} {off:Nat},Mn cells off vs=some cs->cs.length=cells.length/\vs.all Q2K=true/\(vs≠[]->off+vs.length<=cells.length) /\
  ∀ j:Nat,cs[j]? = if off<=j/\j<off+vs.length then vs[j-off]? else cells[j]?
 |[],cells,cs,off,h=>by
  simp [Mn] at h;subst h;refine ⟨rfl,rfl,fun h=>absurd rfl h,fun j=>?_⟩;rw [Qiv (by simp)]
 |v::r,cells,cs,off,h=>by
  unfold Mn at h;cases hc:(Q2K v&&Nat.ble (off+1) cells.length) with
  |false=>simp [hc] at h
  |true=>
   simp only [hc,Qin] at h;simp only [Qik] at hc;have ak:=Qiu hc.2;obtain ⟨h1,h2,h3,h4⟩:=SZ h;simp only [List.length_set] at h1 h3;refine ⟨h1,by simp [hc.1,h2],fun _=>?_,fun j=>?_⟩
   ·by_cases hr:r=[]
    ·subst hr;simp;omega
    ·have:=h3 hr;simp;omega
   ·rw [h4 j];simp only [QiI];by_cases e1:off+1<=j/\j<off+1+r.length
    ·rw [Qiz e1,Qiz (by omega),show j-off=(j-(off+1))+1 from by omega];simp
    ·rw [Qiv e1];by_cases e2:j=off
     ·subst e2;rw [Qiz (by omega),QiD (by omega)];simp
     ·rw [Qiv (by omega),QiE (by omega)]
end

section
variable {P:Program} {E:Env} {R:Type}
theorem Q1m {cs ac:Array Value} {i j:Nat} (h:cs[i]? = ac[j]?):cs.getD i undef=ac.getD j undef:=by
 simp_all
theorem NH {t:Nat} {ti:TyI} (ht:TyOk P t ti) {w w':World} {ad:Addr} {v:Value} (hs:v.cells.size=ti.size) (h:(storeCells ad v.cells.toList).run P w = .ok () w'):(storeVar t ad v).run P w = .ok () w':=by
 simp only [storeVar,Qim,ht.size,Qii]
 simp_all
theorem Mk {o:Oper} {t:TypeId} {x y:Operand} (ho:o.op = .store t x y) {a:Act} {w w':World} {ad:Addr} (hx:a.eval x = .pointer (some ad)) (hv:(storeVar t ad (a.eval y)).run P w = .ok () w') :
  (execOp a.eval o).run P w = .ok .skip w':=by
 simp_all [execOp,Instr.storeAt,Instr.sureAddr]
theorem AM:∀ {l:List AV} {ds:List D},Qd5 l=some ds->l=ds.map .d
 |[],ds,h=>by simp [Qd5] at h;subst h;rfl
 |a::r,ds,h=>by
  cases a with
  |d x=>
   simp only [Qd5] at h;split at h
   ·rename_i l' ac;cases h;rw [AM ac];rfl
   ·cases h
  |_=>simp [Qd5] at h
theorem Q66:∀ (ds:List D) (row:List D) (off j:Nat),off+ds.length<=row.length->(Qc4 row off ds)[j]? = if off<=j/\j<off+ds.length then ds[j-off]? else row[j]?
 |[],row,off,j,_=>by simp [Qc4];intro h1 h2;omega
 |v::r,row,off,j,h=>by
  simp only [QiI] at h;rw [Qc4,Q66 r _ (off+1) j (by simp;omega)];simp only [QiI];by_cases h1:off+1<=j/\j<off+1+r.length
  ·rw [Qiz h1,Qiz (by omega),show j-off=(j-(off+1))+1 from by omega];simp
  ·rw [Qiv h1];by_cases h2:j=off
   ·subst h2;rw [Qiz (by omega),QiD (by omega)];simp
   ·rw [Qiv (by omega),QiE (by omega)]
theorem Ay:∀ (ds:List D) (row:List D) (off:Nat),(Qc4 row off ds).length=row.length
 |[],_,_=>rfl
 |v::r,row,off=>by simp [Qc4,Ay r]
theorem DF (ds:List D):(ds.map AV.d).all Q2K=true:=by
 grind [Q2K]
theorem Q7C {tt:TT} (hT:TOk P tt) {o:Oper} {t:TypeId} {x y:Operand} (ho:o.op = .store t x y) {ev:Operand->AV} {hl:Nat->Option Ob} {k:Dl->Option R} {r:R}
  (h:Q9T tt hl t (ev x) (ev y) k=some r):∃ dl,k dl=some r/\Ks P E o ev hl dl:=by
 have b4:x∈o.op.operands.toList:=by grind [Op.operands]
 have br:y∈o.op.operands.toList:=by simp [ho,Op.operands]
 unfold Q9T at h;split at h
 case h_2=>cases h
 rename_i ti cn;have b0:=hT t ti cn;cases ay:Nat.beq (Y9 (ev y)).length ti.size with
 |false=>simp [ay] at h
 |true=>
  simp only [ay,Qin] at h;have az:=Qil ay;split at h
  ·-- a box
   rename_i l off bn;split at h
   ·rename_i cells a8;split at h
    ·rename_i cs cc;refine ⟨_,h,?_⟩;intro β S st a w hR hO hA cp K Q hK;obtain ⟨h1,h2,h3,h4⟩:=SZ cc;obtain ⟨b,hb,hx⟩:=(bn▸hO.at b4).ptr_inv;have aj:look st.h l=some (.box cells):=by rw [hA l (.inl (by simp))];exact a8
     obtain ⟨b',ty,vs,fz,a2,hw,⟨hf,ca⟩,bb,a9⟩:=hR.hr.ob l _ aj;obtain rfl:b=b':=by rw [hb] at a2;injection a2
     obtain ⟨c1,c2,c3⟩:=MD (hO.at br) h2;have bh:off+(a.eval y).cells.toList.length<=vs.size\/(a.eval y).cells.toList.length=0:=by
      by_cases bq:Y9 (ev y)=[]
      ·right;simp [c1,bq]
      ·left;have:=h3 bq;simp [c1];omega
     have bx:off+0+(a.eval y).cells.toList.length<=vs.size\/(a.eval y).cells.toList=[]:=by
      rcases bh with h | h
      ·left;simpa using h
      ·right;exact Qis h
     obtain ⟨w',a4,ac⟩:∃ w',(storeCells ⟨b,off,none⟩ (a.eval y).cells.toList 0).run P w = .ok () w'/\Wrote b (P4 vs off (a.eval y).cells.toList) ty fz w w':=by
      rcases bx with h | h
      ·exact GE b off ty fz _ 0 vs w hw hf h c3
      ·rw [h];exact ⟨w,by simp [storeCells],⟨hw,fun _ _=>rfl,rfl,rfl,rfl,rfl⟩⟩
     have b1:Q7j ty cs:=by
      intro i l' t' hi;rw [h4 i] at hi;split at hi
      ·rw [QiC] at h2;have:=h2 _ (Qir hi);simp [Q2K] at this
      ·exact ca i l' t' hi
     have al:∀ j,(P4 vs off (a.eval y).cells.toList)[j]? = if off<=j/\j<off+(Y9 (ev y)).length then (a.eval y).cells[j-off]? else vs[j]?:=by
      intro j;rcases bh with h | h
      ·rw [SP _ _ _ _ h];simp [c1]
      ·have hn:(a.eval y).cells.toList=[]:=Qis h;rw [hn,Qiv (by rw [<- c1,<- Qiw,hn];simp)];rfl
     unfold Oper.wp;rw [Mk ho hx (NH b0 (by rw [c1];exact az) a4)];refine hK undef _ ⟨β,S,?_,.top _⟩;have au:∀ k',look ((l,Ob.box cs)::rem l st.h) k'=if k'=l then some (.box cs) else look st.h k':=fun k'=>Ue l k' _ st.h
     have ak:Keep β (look st.h) w β (look ((l,.box cs)::rem l st.h)) w' l:=by
      refine ⟨rfl,fun h=>?_,fun e s rows h=>?_,fun b2 bl bj bo _ ar aq=>?_,fun t f h=>by rw [aj] at h;cases h⟩
      ·rw [aj] at h;cases h
      ·rw [aj] at h;cases h
      ·rw [hb] at ar;injection ar with e;subst e
       rw [hw] at aq;injection aq with e;injection e with e1 e2 e3;subst e1
       exact ⟨_,_,_,ac.blk,Uv _ _ _⟩
     have a1:∀ l',Keep β (look st.h) w β (look ((l,.box cs)::rem l st.h)) w' l':=by
      intro l';by_cases e:l'=l
      ·subst e;exact ak
      ·exact ⟨rfl,fun h=>by rw [au,Qiv e];exact h,fun e' s rows h=>.inr ⟨rows,by rw [au,Qiv e];exact h,rfl⟩,
        fun b2 bl bj bo bz ar aq=>⟨bl,bj,bo,by rw [ac.oth b2 (fun e2=>by subst e2;rw [au,Qiv e] at bz;exact e (hR.hr.inj l' l _ bz (by simp [aj]) ar hb))];exact aq,rfl⟩,fun _ f h=>.inr ⟨f,by rw [au,Qiv e];exact h⟩⟩
     refine hR.set aj hb ac.oth ac.os ac.tape ac.output ac.size ak ⟨b,ty,_,fz,hb,ac.blk,⟨by rw [Uv];exact hf,b1⟩,by rw [Uv,bb,h1],fun i z hz=>?_⟩;rw [h4 i] at hz;by_cases e:off<=i/\i<off+(Y9 (ev y)).length
     ·rw [Qiz e] at hz;have bk:(P4 vs off (a.eval y).cells.toList).getD i undef=(a.eval y).cells.getD (i-off) undef:=Q1m (by rw [al i,Qiz e]);rw [bk];have hn:Q0C z=true:=DO (by rw [QiC] at h2;exact h2 z (Qir hz));exact ((c2 (i-off) z hz).to_tm0 hn).mono (fun _ h=>h) (fun k' hS=>ac.oth k' (fun e2=>by subst e2;exact hR.hr.apart l _ (by simp [aj]) hb hS)) (fun l' _=>a1 l') (fun _ _=>rfl)
     ·rw [Qiv e] at hz;have bk:(P4 vs off (a.eval y).cells.toList).getD i undef=vs.getD i undef:=Q1m (by rw [al i,Qiv e]);rw [bk];exact (a9 i z hz).mono (fun _ h=>h) (fun k' hS=>ac.oth k' (fun e2=>by subst e2;exact hR.hr.apart l _ (by simp [aj]) hb hS)) (fun l' _=>a1 l') (fun _ _=>rfl)
    ·cases h
   ·cases h
  ·-- an array of the call's own
   rename_i l i off bn;split at h
   ·rename_i e s rows bv;split at h
    ·rename_i ds cf;obtain ⟨row,h,b5⟩:=Qm h;have ao:=b5 rfl;cases a3:Nat.ble (off+ds.length) s with
     |false=>simp [a3] at h
     |true=>
      simp only [a3,Qin] at h;have bh:=Qiu a3;refine ⟨_,h,?_⟩;intro β S st a w hR hO hA cp K Q hK;have bm:=AM cf;have aj:look st.h l=some (.arr e s rows):=by rw [hA l (.inl (by simp))];exact bv
      obtain ⟨b,hb,hx⟩:=RdA.ap_inv aj (bn▸hO.at b4);rcases hR.hr.ob l _ aj with ⟨_,hn⟩ | ⟨b',vs,a2,hw,bb,bg,a9⟩
      ·subst hn;simp at ao
      obtain rfl:b=b':=by rw [hb] at a2;injection a2
      obtain ⟨c1,c2,c3⟩:=MD (hO.at br) (by rw [bm];exact DF ds);have b3:(a.eval y).cells.size=ds.length:=by rw [c1,bm];simp
      have hi:i<rows.length:=(Qij.1 ao).1;have ck:row.length=s:=bg i row ao;have cr:(i+1)*s<=rows.length*s:=Qip s hi;have co:(i+1)*s=i*s+s:=QiL i s;have ba:i*s+off+(a.eval y).cells.toList.length<=vs.size:=by simp [b3];omega
      obtain ⟨w',a4,ac⟩:=GE (P:=P) b (i*s+off) e (0,0) (a.eval y).cells.toList 0 vs w hw (Qd9 _) (by simpa using ba) c3;simp only [Nat.add_zero] at ac;have al:∀ j,(P4 vs (i*s+off) (a.eval y).cells.toList)[j]? = if i*s+off<=j/\j<i*s+off+ds.length then (a.eval y).cells[j-(i*s+off)]? else vs[j]?:=by
       intro j;rw [SP _ _ _ _ ba];simp [b3]
      unfold Oper.wp;rw [Mk ho hx (NH b0 (by rw [c1];exact az) a4)];refine hK undef _ ⟨β,S,?_,.top _⟩;have bc:∀ k',S k'->w'.heap[k']? = w.heap[k']?:=fun k' hS=>ac.oth k' (fun e2=>by subst e2;exact hR.hr.apart l _ (by simp [aj]) hb hS)
      have ak:Keep β (look st.h) w β (look ((l,.arr e s (rows.set i (Qc4 row off ds)))::rem l st.h)) w' l:=by
       refine ⟨rfl,fun h=>?_,fun e' s' ce h=>?_,fun b2 bl bj bo _ ar aq=>?_,fun t f h=>by rw [aj] at h;cases h⟩
       ·rw [aj] at h;cases h
       ·rw [aj] at h;injection h with h;injection h with g1 g2 g3;subst g1;subst g2;subst g3
        exact .inr ⟨_,by rw [Ue,Qiz rfl],by simp⟩
       ·rw [hb] at ar;injection ar with e;subst e
        rw [hw] at aq;injection aq with e;injection e with e1 e2 e3;subst e1
        exact ⟨_,_,_,ac.blk,Uv _ _ _⟩
      refine hR.set aj hb ac.oth ac.os ac.tape ac.output ac.size ak (.inr ⟨b,_,hb,ac.blk,by rw [Uv];simpa using bb,fun i' r' ax=>?_,fun i' j' r' z h4 h5=>?_⟩)
      ·by_cases e2:i'=i
       ·subst e2;rw [QiD hi] at ax;injection ax with ax;subst ax
        rw [Ay];exact ck
       ·rw [QiE (by omega)] at ax;exact bg i' r' ax
      ·by_cases e2:i'=i
       ·subst e2;rw [QiD hi] at h4;injection h4 with h4;subst h4
        rw [Q66 _ _ _ _ (by omega)] at h5;by_cases e3:off<=j'/\j'<off+ds.length
        ·rw [Qiz e3] at h5;have hj:j'-off<(a.eval y).cells.size:=by omega
         refine ⟨(a.eval y).cells.getD (j'-off) undef,?_,?_⟩
         ·rw [al,Qiz (by omega),show i'*s+j'-(i'*s+off)=j'-off from by omega];exact T2 hj
         ·exact (c2 (j'-off) (.d z) (by rw [bm];simp [h5])).d_inv.mono (fun _ h=>h) bc
        ·rw [Qiv e3] at h5;obtain ⟨u,hu,bi⟩:=a9 i' j' row z ao h5;exact ⟨u,by rw [al,Qiv (by omega)];exact hu,bi.mono (fun _ h=>h) bc⟩
       ·rw [QiE (by omega)] at h4;obtain ⟨u,hu,bi⟩:=a9 i' j' r' z h4 h5;refine ⟨u,?_,bi.mono (fun _ h=>h) bc⟩;have cw:j'<s:=by
         have:=bg i' r' h4;have:=(Qij.1 h5).1;omega
        rw [al,Qiv ?_]
        ·exact hu
        ·rcases Nat.lt_or_gt_of_ne e2 with b9 | cg
         ·have:(i'+1)*s<=i*s:=Qip s b9;have:(i'+1)*s=i'*s+s:=QiL i' s;omega
         ·have:(i+1)*s<=i'*s:=Qip s cg;omega
    ·cases h
   ·cases h
  ·cases h
end

section
variable {P:Program} {E:Env} {R:Type}
theorem Fj {α β:Type} {f:α->Sem β} {g:α->β} {w:World}:∀ (l:List α),(∀ x∈l,(f x).run P w = .ok (g x) w)->(l.mapM f).run P w = .ok (l.map g) w
 |[],_=>by simp
 |a::l,h=>by
  have h1:=h a (by simp);have h2:=Fj l (fun x hx=>h x (by simp [hx]));simp [List.mapM_cons,h1,h2]
theorem Q4f {α β:Type} {f:α->Sem β} {g:α->β} {w:World} (l:Array α) (h:∀ x∈l.toList,(f x).run P w = .ok (g x) w):(l.mapM f).run P w = .ok (l.map g) w:=by
 have h1:=Fj (P:=P) l.toList h;rw [<- Array.toList_mapM,Sem.run_map] at h1;cases hr:(l.mapM f).run P w with
 |ok b w'=>
  rw [hr] at h1;simp only [Qii,Result.ok.injEq] at h1;obtain ⟨h2,rfl⟩:=h1;congr 1;apply Array.ext'
  simp_all
 |halt x w'=>simp_all
theorem Q8q (off:Nat):∀ (l:List Value) (k:Nat) (cs:Array Value),(l.zipIdx k).foldl (fun cs x=>cs.setIfInBounds (off+x.2) x.1) cs=P4 cs (off+k) l
 |[],_,_=>rfl
 |v::r,k,cs=>by
  simp only [List.zipIdx_cons,List.foldl_cons,P4];rw [Q8q off r (k+1)];rfl
theorem Qb5 (off:Nat) (vs cs:Array Value):vs.zipIdx.foldl (fun cs x=>cs.setIfInBounds (off+x.2) x.1) cs=P4 cs off vs.toList:=by
 rw [<- Array.foldl_toList,Array.toList_zipIdx,Q8q];rfl
theorem Q45 {ac:Nat->Option (Nat × Nat)} {cells:Array Value} {i off size:Nat} {v:Value} {rest:List (Nat × Value)} (hp:ac i=some (off,size)) (hs:v.cells.size=size) (hf:off+size<=cells.size) :
  Instr.fill ac cells ((i,v)::rest)=Instr.fill ac (P4 cells off v.cells.toList) rest:=by
 grind [Instr.fill,Qb5]
theorem D0 {tt:TT} {fields:List (Nat × Nat)} {ak:Nat->Option (Nat × Nat)} (aq:∀ (i off t:Nat) (ti:TyI),fields[i]? = some (off,t)->look tt t=some ti->ak i=some (off,ti.size))
  {β:Nat->Option Nat} {S:Nat->Prop} {h:Nat->Option Ob} {w:World} {tm:Nat->Value} {ρ:Operand->Value} {ev:Operand->AV} :
  ∀ (aj:List (Nat × Operand)) (cells ac:List AV) (cs:Array Value),(∀ p∈aj,RdA β S h w tm (ρ p.2) (ev p.2))->cs.size=cells.length ->
   (∀ (i:Nat) (x:AV),cells[i]? = some x->RdA β S h w tm (cs.getD i undef) x)->Q0I fields tt cells (VI ev aj)=some ac ->
   ∃ an,Instr.fill ak cs (aj.map fun p=>(p.1,ρ p.2))=some an/\an.size=ac.length /\
    ∀ (i:Nat) (x:AV),ac[i]? = some x->RdA β S h w tm (an.getD i undef) x
 |[],cells,ac,cs,_,h1,h2,h3=>by
  grind [VI,Q0I,Instr.fill]
 |(i,x)::aj,cells,ac,cs,hp,h1,h2,h3=>by
  simp only [VI,Q0I] at h3;split at h3
  case h_2=>cases h3
  rename_i off t hf;split at h3
  case h_2=>cases h3
  rename_i ti ax;cases hc:(Nat.beq (Y9 (ev x)).length ti.size&&Nat.ble (off+ti.size) cells.length) with
  |false=>simp_all
  |true=>
   simp only [hc,Qin] at h3;simp only [Qik] at hc;have hl:=Qil hc.1;have a4:=Qiu hc.2;split at h3
   case h_2=>cases h3
   rename_i ay au;obtain ⟨g1,g2,g3,g4⟩:=SZ au;obtain ⟨c1,c2,c3⟩:=MD (hp (i,x) (by simp)) g2;have al:=aq i off t ti hf ax;have ar:off+(ρ x).cells.toList.length<=cs.size:=by simp [c1,hl];omega
   rw [QiM,Q45 al (by rw [c1];exact hl) (by omega)];refine D0 aq aj ay ac _ (fun p aw=>hp p (by simp [aw])) (by rw [Uv,h1,g1]) (fun j y hy=>?_) h3;have az:(P4 cs off (ρ x).cells.toList)[j]? = if off<=j/\j<off+(Y9 (ev x)).length then (ρ x).cells[j-off]? else cs[j]?:=by
    rw [SP _ _ _ _ ar];simp [c1]
   rw [g4 j] at hy;by_cases e:off<=j/\j<off+(Y9 (ev x)).length
   all_goals simp_all [Qiz,P4,undef,Q1m,Qiv]
theorem Q3u {t:TypeId} {ac:Array (Nat × Operand)} {o:Oper} (ho:o.op = .build t ac) {p:Nat × Operand} (hp:p∈ac.toList):p.2∈o.op.operands.toList:=by
 grind [Op.operands]
theorem Q7H {tt:TT} (hT:TOk P tt) {o:Oper} {t:TypeId} {aj:Array (Nat × Operand)} (ho:o.op = .build t aj) {ev:Operand->AV} {hl:Nat->Option Ob} {ti:TyI} (bn:look tt t=some ti) (hs:Vv ti.kd=true) {cs:List AV}
  (h:Q0I ti.fields tt (Dh ti) (VI ev aj.toList)=some cs):Ks P E o ev hl ⟨.ag cs,[],[]⟩:=by
 have az:=hT t ti bn;obtain ⟨inf,al,_,_,z,hz,bk⟩:=az.inf;refine Qn fun β S st a w hR hO hA=>?_
 have ba:z.cells.size=(Dh ti).length:=by grind [Array.length_toList,Dh]
 have a7:∀ (i:Nat) (x:AV),(Dh ti)[i]? = some x->RdA β S (look st.h) w (tmv a) (z.cells.getD i undef) x:=by
  intro i x hx;simp only [Dh,Qit,Qio] at hx;obtain ⟨v,hv,rfl⟩:=hx;have:z.cells.getD i undef=v:=by
   rw [<- bk] at hv;obtain ⟨hi,he⟩:=Qij.1 hv;have bd:i<z.cells.size:=by simpa using hi
   simp only [Array.getD,bd,dite_true];simpa using he
  grind [A3]
 have aq:(aj.map fun x=>(x.1,a.eval x.2)).toList=aj.toList.map fun p=>(p.1,a.eval p.2):=by simp
 cases hk:ti.kd with
 |struct=>
  obtain ⟨fs,hu,bh,a5⟩:=az.kstruct hk;let sz:Field->Nat:=fun f=>((P.info? f.type).map (·.size)).getD 0
  have ax:∀ f∈fs.toList,∃ i,P.info? f.type=some i/\i.size=sz f:=fun f hf=>by
   obtain ⟨i,hi,_⟩:=a5 f hf;exact ⟨i,hi,by simp [sz,hi]⟩
  have a1:∀ (i off t:Nat) (ak:TyI),ti.fields[i]? = some (off,t)->look tt t=some ak->(fs.map fun f=>(f.offset,sz f))[i]? = some (off,ak.size):=by
   intro i off t ak hf ao;rw [<- bh,Qit,Qio] at hf;obtain ⟨fd,a4,he⟩:=hf;injection he with he1 he2
   obtain ⟨inf,al,a6⟩:=ax fd (Qir a4);obtain ⟨a3,ac,ar,_⟩:=(hT t ak ao).inf;rw [<- he2,al] at ac;injection ac with ac
   subst ac;have bb:fs[i]? = some fd:=by simpa using a4
   simp [bb,he1,<- a6,ar]
  obtain ⟨ay,h1,h2,h3⟩:=D0 a1 (ρ:=a.eval) aj.toList _ _ z.cells (fun p hp=>hO.at (Q3u ho hp)) ba a7 h;refine ⟨.agg ay,?_,.ag _ _ h2 h3⟩;have hm:=Q4f (P:=P) (w:=w) (f:=fun f:Field=>do pure (f.offset,<- sizeOf f.type)) (g:=fun f=>(f.offset,sz f)) fs (fun f hf=>by
   obtain ⟨i,hi,he⟩:=ax f hf;simp [sizeOf,YE hi,he])
  unfold execOp;rw [ho];simp only [Instr.build,Qim,zeroValue,YE al,hz,QV hu,Qii,QiF,hm,aq,h1]
 |array e aw n=>
  obtain ⟨hu,bq,⟨i0,a9,a8⟩,bi,an⟩:=az.karr e aw n hk;have a1:∀ (i off t:Nat) (ak:TyI),ti.fields[i]? = some (off,t)->look tt t=some ak->(fun i=>some (i*aw,aw)) i=some (off,ak.size):=by
   intro i off t ak hf ao;rw [an,Qit,Qio] at hf;obtain ⟨j,hj,he⟩:=hf;have bj:j=i:=by
    have:=Qij.1 hj;obtain ⟨h1,h2⟩:=this;simp at h2;omega
   injection he with he1 he2
   obtain ⟨a3,ac,ar,_⟩:=(hT t ak ao).inf;rw [<- he2,a9] at ac;injection ac with ac
   subst ac;simp only [Option.some.injEq,Prod.mk.injEq];exact ⟨by rw [<- he1,bj],by omega⟩
  obtain ⟨ay,h1,h2,h3⟩:=D0 a1 (ρ:=a.eval) aj.toList _ _ z.cells (fun p hp=>hO.at (Q3u ho hp)) ba a7 h;refine ⟨.agg ay,?_,.ag _ _ h2 h3⟩;have bm:(sizeOf e).run P w = .ok aw w:=by simp [sizeOf,YE a9,a8]
  unfold execOp;rw [ho];simp only [Instr.build,Qim,zeroValue,YE al,hz,QV hu,Qii,QiF,bm,aq,h1]
 |_=>simp [hk,Vv] at hs
def Vj (S:Nat->Prop) (w:World) (cs:Array Value) (s:Nat) (rows:List (List D)):Prop:=
 rows.length*s<=cs.size/\(∀ (i:Nat) (r:List D),rows[i]? = some r->r.length=s)/\∀ (i j:Nat) (r:List D) (x:D),rows[i]? = some r->r[j]? = some x->∃ v,cs[i*s+j]? = some v/\Rd S w v x
theorem Q39:∀ {z:List D} {l:List AV} {ds:List D},Q9V z l=some ds->ds.length=z.length/\l.length=z.length/\l.all Q2K=true/\(∀ t,∀ x∈l,gds t x=false) /\
  ∀ (β:Nat->Option Nat) (S:Nat->Prop) (h:Nat->Option Ob) (w:World) (tm:Nat->Value) (vs:Nat->Value),(∀ (i:Nat) (x:AV),l[i]? = some x->RdA β S h w tm (vs i) x)->∀ (i:Nat) (d:D),ds[i]? = some d->Rd S w (vs i) d
 |[],[],ds,h=>by
  grind [Q9V]
 |[],_::_,ds,h=>by trivial
 |_::_,[],ds,h=>by simp [Q9V] at h
 |z::zs,a::r,ds,h=>by
  simp only [Q9V] at h;split at h
  case h_2=>cases h
  rename_i l hl;obtain ⟨h1,h2,h3,h4,h5⟩:=Q39 hl;have aj:∀ d0,ds=d0::l->Q2K a=true->(∀ t,gds t a=false)->(∀ (β:Nat->Option Nat) (S:Nat->Prop) (h:Nat->Option Ob) (w:World) (tm:Nat->Value) (v:Value),RdA β S h w tm v a->Rd S w v d0) ->
    ds.length=(z::zs).length/\(a::r).length=(z::zs).length/\(a::r).all Q2K=true/\(∀ t,∀ x∈a::r,gds t x=false) /\
    ∀ (β:Nat->Option Nat) (S:Nat->Prop) (h:Nat->Option Ob) (w:World) (tm:Nat->Value) (vs:Nat->Value),(∀ (i:Nat) (x:AV),(a::r)[i]? = some x->RdA β S h w tm (vs i) x)->∀ (i:Nat) (d:D),ds[i]? = some d->Rd S w (vs i) d:=by
   intro d0 hd ho hg hr;subst hd;refine ⟨by simp [h1],by simp [h2],by simp [ho,h3],fun t x hx=>?_,fun β S h w tm vs hv i d hi=>?_⟩
   ·grind
   ·cases i with
    |zero=>simp at hi;subst hi;exact hr β S h w tm _ (hv 0 a rfl)
    |succ i=>exact h5 β S h w tm (fun i=>vs (i+1)) (fun i x hx=>hv (i+1) x (by simp_all)) i d (by simp_all)
  split at h
  ·rename_i x;cases h;exact aj x rfl rfl (fun _=>rfl) (fun _ _ _ _ _ _ hv=>hv.d_inv)
  ·split at h
   ·cases h;exact aj _ rfl rfl (fun _=>rfl) (fun _ _ _ _ _ v hv=>by rw [hv.nil_inv];exact .sl0 _ _ _)
   ·cases h
  ·cases h
end

section
variable {P:Program} {E:Env} {R:Type}
theorem Vj.mono {S S':Nat->Prop} {w w':World} {cs:Array Value} {s:Nat} {rows:List (List D)} (h:Vj S w cs s rows) (hS:∀ b,S b->S' b) (hw:∀ b,S b->w'.heap[b]? = w.heap[b]?):Vj S' w' cs s rows:=
 ⟨h.1,h.2.1,fun i j r x h1 h2=>by
  obtain ⟨v,hv,hr⟩:=h.2.2 i j r x h1 h2;exact ⟨v,hv,hr.mono hS hw⟩⟩
theorem Vj.set {S:Nat->Prop} {w:World} {cs:Array Value} {s:Nat} {rows:List (List D)} (h:Vj S w cs s rows) {i:Nat} {row:List D} {vs:Array Value} (hi:i<rows.length) (hl:row.length=s) (a3:vs.size=s)
  (hr:∀ (j:Nat) (d:D),row[j]? = some d->Rd S w (vs.getD j undef) d):Vj S w (P4 cs (i*s) vs.toList) s (rows.set i row):=by
 obtain ⟨h1,h2,h3⟩:=h;have ay:(i+1)*s<=rows.length*s:=Qip s hi;have ar:(i+1)*s=i*s+s:=QiL i s;have ax:i*s+vs.toList.length<=cs.size:=by grind
 have ak:∀ j,(P4 cs (i*s) vs.toList)[j]? = if i*s<=j/\j<i*s+s then vs[j-i*s]? else cs[j]?:=by
  grind [SP]
 refine ⟨by grind [Uv],fun i' r' az=>?_,fun i' j' r' x h4 h5=>?_⟩
 ·grind
 ·by_cases e2:i'=i
  ·subst e2;rw [QiD hi] at h4;injection h4 with h4;subst h4
   have hj:j'<s:=by have:=(Qij.1 h5).1;omega
   refine ⟨vs.getD j' undef,?_,hr j' x h5⟩
   simp_all
  ·rw [QiE (by omega)] at h4;obtain ⟨u,hu,au⟩:=h3 i' j' r' x h4 h5;refine ⟨u,?_,au⟩;have a1:j'<s:=by
    have:=h2 i' r' h4;have:=(Qij.1 h5).1;omega
   rw [ak,Qiv ?_]
   ·exact hu
   ·rcases Nat.lt_or_gt_of_ne e2 with an | aq
    ·have:(i'+1)*s<=i*s:=Qip s an;have:(i'+1)*s=i'*s+s:=QiL i' s;omega
    ·have:(i+1)*s<=i'*s:=Qip s aq;omega
theorem Vj.zero {S:Nat->Prop} {w:World} {zero:Array Value} {z:List D} {n m:Nat} (hz:z.length=zero.size) (hr:∀ (j:Nat) (x:D),z[j]? = some x->∃ v,zero[j]? = some v/\Rd S w v x) (an:n<=m) :
  Vj S w ((Array.range (m*zero.size)).map (zero[· % zero.size]!)) zero.size (List.replicate n z):=by
 refine ⟨by simp_all [Qip],fun i r h=>?_,fun i j r x h1 h2=>?_⟩
 ·grind
 ·rw [List.getElem?_replicate] at h1;split at h1
  case isFalse=>cases h1
  rename_i hi;injection h1 with h1;subst h1
  obtain ⟨v,hv,hx⟩:=hr j x h2;refine ⟨v,?_,hx⟩;have hj:j<zero.size:=(Qix.1 hv).1;have ak:(i+1)*zero.size<=m*zero.size:=Qip _ (by omega);have ac:(i+1)*zero.size=i*zero.size+zero.size:=QiL i _;have aj:(i*zero.size+j) % zero.size=j:=by rw [Nat.add_comm,Nat.add_mul_mod_self_right];exact Nat.mod_eq_of_lt hj
  grind
theorem Ah {o:Oper} {ev:Operand->AV} {hl:Nat->Option Ob} {ac e s:Nat} {rows:List (List D)} {rd:List Nat} (hn:hl ac=none)
  (h:∀ β S st a w,Rel E β S st a w->Bj β S st a w o ev->(∀ l,l∈rd->look st.h l=hl l)->∃ (cs:Array Value) (cap:Nat),(execOp a.eval o).run P w = .ok (.value (.slice (some ⟨w.heap.size,0,none⟩) rows.length cap)) (w.alloc (.cells cs e))/\cs.size=cap*s/\rows.length<=cap/\cap<=maxLen/\Vj S w cs s rows) :
  Ks P E o ev hl ⟨.arr ac,[]++[(ac,some (.arr e s rows))],rd⟩:=by
 intro β S st a w hR hO hA az K Q hK;obtain ⟨cs,cap,al,an,aj,ak,h1,h2,h3⟩:=h β S st a w hR hO (fun l ao=>hA l (.inl ao));have aq:look st.h ac=none:=by rw [hA ac (.inr (by simp [wrL]))];exact hn
 have hc:UQ st ac=true:=by grind [WD]
 unfold Oper.wp;rw [al];refine hK _ _ ⟨RG β ac (some w.heap.size),S,?_,?_⟩
 ·refine hR.new aq hc (.inr ⟨w.heap.size,cs,by simp [RG],Jp _ _,h1,h2,fun i j r x h4 h5=>?_⟩);obtain ⟨v,hv,hr⟩:=h3 i j r x h4 h5;exact ⟨v,hv,hr.mono (fun _ hb=>hb) (fun b hb=>ZD _ _ (hR.hr.sb b hb))⟩
 ·exact .arr ac w.heap.size cap e s rows cs e (0,0) (by simp [RG]) (by simp [My,Ue]) (Jp _ _) an aj ak
theorem Qav {β:Nat->Option Nat} {S:Nat->Prop} {st:St} {a:Act} {w:World} (hR:Rel E β S st a w) (ac:Obj):Rel E β (fun b=>S b\/b=w.heap.size) st a (w.alloc ac):=by
 have:=hR.upd (w':=w.alloc ac) (β':=β) (S':=fun b=>S b\/b=w.heap.size) (H':=st.h) (fun _ h=>.inl h) (fun b hb=>ZD w ac (hR.hr.sb b hb)) (fun _=>False)
  (fun l _=>⟨rfl,rfl,fun b hs hb=>ZD w ac (Nj hR hs hb)⟩) (fun l h=>h.elim) (fun l o h=>h.elim) hR.hr.inj
  (fun l b hs hb hS=>by
   rcases hS with hS | hS
   ·exact hR.hr.apart l b hs hb hS
   ·have:=Nj hR hs hb;omega)
  hR.hr.own
  (fun b hS=>by
   simp;rcases hS with hS | hS
   ·have:=hR.hr.sb b hS;omega
   ·omega)
  (fun b hS=>by
   rcases hS with hS | hS
   ·exact hR.hr.sfr b hS
   ·right;right;have:=hR.hr.fr.size;omega)
  (Q75 hR.hr.fr ac)
 exact this
theorem Vj.rd {S:Nat->Prop} {w:World} {b cap s:Nat} {cs:Array Value} {ty:TypeId} {fz:Nat × Nat} {rows:List (List D)} (h:Vj S w cs s rows) (hb:w.heap[b]? = some (.cells cs ty fz)) (hS:S b) (ac:rows.length<=cap) :
  Rd S w (.slice (some ⟨b,0,none⟩) rows.length cap) (.sl s rows):=by
 obtain ⟨h1,h2,h3⟩:=h;refine .sl _ cap s rows (fun i j=>cs.getD (i*s+j) undef) hS ac h2 (fun i j r x h4 h5=>?_) (fun i j r x h4 h5=>?_)
 ·obtain ⟨v,hv,_⟩:=h3 i j r x h4 h5;rw [HD,Nat.zero_add,Jt hb]
  simp_all
 grind [undef,T2,Array.getElem?_eq_some_iff]
theorem Q4l {o:Oper} {ev:Operand->AV} {hl:Nat->Option Ob} {e s:Nat} {rows:List (List D)} {rd:List Nat}
  (h:∀ β S st a w,Rel E β S st a w->Bj β S st a w o ev->∃ (cs:Array Value) (cap:Nat),(execOp a.eval o).run P w = .ok (.value (.slice (some ⟨w.heap.size,0,none⟩) rows.length cap)) (w.alloc (.cells cs e))/\rows.length<=cap/\Vj S w cs s rows) :
  Ks P E o ev hl ⟨.d (.sl s rows),[],rd⟩:=by
 intro β S st a w hR hO hA an K Q hK;obtain ⟨cs,cap,aj,ac,h1⟩:=h β S st a w hR hO;unfold Oper.wp;rw [aj];refine hK _ _ ⟨β,fun b=>S b\/b=w.heap.size,Qav hR _,.d _ _ ?_⟩;exact (h1.mono (fun _ hb=>.inl hb) (fun b hb=>ZD _ _ (hR.hr.sb b hb))).rd (Jp _ _) (.inr rfl) ac
theorem C1 {β:Nat->Option Nat} {S:Nat->Prop} {h:Nat->Option Ob} {w:World} {tm:Nat->Value} {ρ:Operand->Value} {ev:Operand->AV} {z:List D} :
  ∀ (aj:List (Nat × Operand)) (rows ac:List (List D)) (cs:Array Value),(∀ p∈aj,RdA β S h w tm (ρ p.2) (ev p.2))->Vj S w cs z.length rows->cs.size=rows.length*z.length ->
   Lm z rows (VI ev aj)=some ac ->
   ∃ ak,Instr.fill (fun i=>some (i*z.length,z.length)) cs (aj.map fun p=>(p.1,ρ p.2))=some ak/\Vj S w ak z.length ac/\ak.size=cs.size/\ac.length=rows.length
 |[],rows,ac,cs,_,h1,h2,h3=>by
  simp [VI,Lm] at h3;subst h3;exact ⟨cs,by simp [Instr.fill],h1,rfl,rfl⟩
 |(i,x)::aj,rows,ac,cs,hp,h1,h2,h3=>by
  simp only [VI,Lm] at h3;split at h3
  case h_2=>cases h3
  rename_i row an;cases hc:Nat.ble (i+1) rows.length with
  |false=>simp [hc] at h3
  |true=>
   simp only [hc,Qin] at h3;have hi:=Qiu hc;obtain ⟨t1,t2,t3,_,t5⟩:=Q39 an;obtain ⟨c1,c2,_⟩:=MD (hp (i,x) (by simp)) t3;have au:(i+1)*z.length<=rows.length*z.length:=Qip _ hi;have ar:(i+1)*z.length=i*z.length+z.length:=QiL i _;have aq:Instr.fill (fun i=>some (i*z.length,z.length)) cs ((i,ρ x)::aj.map fun p=>(p.1,ρ p.2))=_:=Q45 (i:=i) (off:=i*z.length) (size:=z.length) rfl (by rw [c1,t2]) (by omega);rw [QiM,aq];have al:=h1.set (i:=i) (row:=row) (vs:=(ρ x).cells) (by omega) t1 (by rw [c1,t2]) (fun j d hd=>t5 β S h w tm (fun j=>(ρ x).cells.getD j undef) c2 j d hd);obtain ⟨ak,g1,g2,g3,g4⟩:=C1 aj (rows.set i row) ac _ (fun p ao=>hp p (by simp [ao])) al (by rw [Uv,h2];simp) h3;exact ⟨ak,g1,g2,by rw [g3,Uv],by rw [g4];simp⟩
theorem Q0A {t:TypeId} {n:Nat} {ac:Array (Nat × Operand)} {o:Oper} (ho:o.op = .buildSlice t n ac) {p:Nat × Operand} (hp:p∈ac.toList):p.2∈o.op.operands.toList:=by
 grind [Op.operands]
theorem QcV {tt:TT} (hT:TOk P tt) {e:Nat} {ei:TyI} (ak:look tt e=some ei) (aj:ei.zd.length=ei.size) {S:Nat->Prop} {w:World} {z:Value} (hz:z.cells.toList=ei.zero):∀ (j:Nat) (x:D),ei.zd[j]? = some x->∃ v,z.cells[j]? = some v/\Rd S w v x:=by
 intro j x hx;obtain ⟨v,hv,hr⟩:=(hT e ei ak).zd aj j x hx
 grind
theorem NQ {tt:TT} (hT:TOk P tt) {o:Oper} {t:TypeId} {len:Nat} {ac:Array (Nat × Operand)} (ho:o.op = .buildSlice t len ac) {u:Bool} {a9:Nat} {ev:Operand->AV} {hl:Nat->Option Ob} {k:Dl->Option R} {r:R}
  (h:H3 tt hl a9 u t len (VI ev ac.toList) k=some r):∃ dl,k dl=some r/\Ks P E o ev hl dl:=by
 unfold H3 at h;split at h
 case h_2=>cases h
 rename_i e aj hk;cases hc:(Nat.ble (len*aj) 16777216&&(look tt e).isSome&&Nat.beq (NV tt e).length aj) with
 |false=>simp_all
 |true=>
  simp only [hc,Qin] at h;simp only [Qik] at hc;have bk:=Qiu hc.1.1;obtain ⟨ei,az⟩:=Option.isSome_iff_exists.1 hc.1.2;have al:=Qil hc.2;have bb:NV tt e=ei.zd:=by grind [NV]
  rw [bb] at al h;split at h
  case h_2=>cases h
  rename_i rows ax;obtain ⟨ti,bg,bc⟩:=XJ hk (by simp);obtain ⟨hu,a4,inf,an,aw⟩:=(hT t ti bg).ksl _ _ bc;obtain ⟨bj,ak,a2,_,z,hz,a8⟩:=(hT e ei az).inf;rw [an] at ak;injection ak with ak
  subst ak;have aq:z.cells.size=aj:=by rw [<- Qiw,a8,(hT e ei az).zlen,<- a2,aw]
  have a7:∀ β S st a w,Rel E β S st a w->Bj β S st a w o ev->∃ cs:Array Value,(execOp a.eval o).run P w = .ok (.value (.slice (some ⟨w.heap.size,0,none⟩) rows.length len)) (w.alloc (.cells cs e))/\cs.size=len*aj/\rows.length=len/\Vj S w cs aj rows:=by
   intro β S st a w hR hO;have base:Vj S w ((Array.range (len*z.cells.size)).map (z.cells[· % z.cells.size]!)) z.cells.size (List.replicate len ei.zd):=
    Vj.zero (by rw [al,aq]) (QcV hT az (by rw [al,<- a2,aw]) a8) (QiG _)
   rw [aq] at base;obtain ⟨bd,g1,g2,g3,g4⟩:=C1 (ρ:=a.eval) (ev:=ev) (z:=ei.zd) ac.toList (List.replicate len ei.zd) rows _ (fun p hp=>hO.at (Q0A ho hp)) (by rw [al];exact base) (by simp [al]) ax;rw [al] at g1 g2;have ao:rows.length=len:=by rw [g4];simp
   refine ⟨bd,?_,by rw [g3];simp,ao,g2⟩;have au:(ac.map fun x=>(x.1,a.eval x.2)).toList=ac.toList.map fun p=>(p.1,a.eval p.2):=by simp
   have bh:¬ len*aj>2 ^ 24:=by omega
   unfold execOp;rw [ho];simp only [Instr.buildSlice,Qim,QV hu,sizeOf,YE an,aw,Qii,QiF,bh,if_false,au];by_cases h0:len*aj=0
   ·have ar:((Array.range (len*aj)).map ((#[]:Array Value)[· % (#[]:Array Value).size]!))=((Array.range (len*aj)).map (z.cells[· % aj]!)):=by rw [h0];simp
    simp only [h0,if_true,Qim,QiF,Qii];rw [h0] at ar g1;rw [ar,g1,ao];simp [newRow]
   ·simp only [h0,if_false,Qim,zeroValue,YE an,hz,Qii,QiF,aq,g1];simp [newRow,ao]
  have ay:len<=maxLen:=by
   have:len*1<=len*aj:=QiH len a4;unfold maxLen;omega
  cases u with
  |true=>
   simp only [Qin] at h;obtain ⟨hn,h⟩:=Vf h;refine ⟨_,h,Ah hn fun β S st a w hR hO _=>?_⟩;obtain ⟨cs,g1,g2,g3,g4⟩:=a7 β S st a w hR hO;exact ⟨cs,len,g1,g2,by omega,ay,g4⟩
  |false=>
   simp only [cond_false] at h;refine ⟨_,h,Q4l (e:=e) fun β S st a w hR hO=>?_⟩;obtain ⟨cs,g1,g2,g3,g4⟩:=a7 β S st a w hR hO;exact ⟨cs,len,g1,by omega,g4⟩
theorem NR {n:Nat} {u:Unit} (h:Ym n=some u):n<=140737488355328:=by
 unfold Ym at h;cases hb:Nat.ble n 140737488355328 with
 |true=>simp_all
 |false=>simp_all
theorem Q9q {tt:TT} (hT:TOk P tt) {o:Oper} {t:TypeId} {l c:Operand} (ho:o.op = .makeSlice t l c) {u:Bool} {a4:Nat} {ev:Operand->AV} {hl:Nat->Option Ob} {k:Dl->Option R} {r:R}
  (h:Qcm tt hl a4 u t (ev l) (ev c) k=some r):∃ dl,k dl=some r/\Ks P E o ev hl dl:=by
 unfold Qcm at h;cases u with
 |false=>simp at h
 |true=>
  simp only [Qin] at h;split at h
  case h_2=>cases h
  rename_i e ak kn n km m hk a9 bh;split at h
  case h_2=>cases h
  rename_i ei ar;cases hc:(Nat.ble 1 ei.bytes&&Nat.beq (NV tt e).length ak) with
  |false=>simp_all
  |true=>
   simp only [hc,Qin] at h;simp only [Qik] at hc;have aq:=Qiu hc.1;have ax:=Qil hc.2;have a7:NV tt e=ei.zd:=by simp [NV,ar]
   rw [a7] at ax h;obtain ⟨_,h,bg⟩:=Qm h;obtain ⟨_,h,aj⟩:=Qm h;have aj:=NR (aj rfl);have bm:0<=n/\n<=m:=by
    have:=bg rfl;cases hd:(decide (0<=n)&&decide (n<=m)) with
    |true=>simpa using hd
    |false=>simp [hd] at this
   obtain ⟨hn,h⟩:=Vf h;obtain ⟨ti,bc,ba⟩:=XJ hk (by simp);obtain ⟨hu,bk,inf,al,ay⟩:=(hT t ti bc).ksl _ _ ba;obtain ⟨bj,ac,az,bb,z,hz,a3⟩:=(hT e ei ar).inf;rw [al] at ac;injection ac with ac
   subst ac;have an:z.cells.size=ak:=by rw [<- Qiw,a3,(hT e ei ar).zlen,<- az,ay]
   have bi:m.toNat<=140737488355328:=Nat.le_trans (by have:=QiH m.toNat aq;omega) aj;have bd:IntKind.i64.wrap m=m:=by unfold IntKind.wrap;simp [IntKind.bits,IntKind.signed];omega
   have a6:IntKind.i64.wrap n=n:=by unfold IntKind.wrap;simp [IntKind.bits,IntKind.signed];omega
   refine ⟨_,h,Ah hn fun β S st a w hR hO _=>?_⟩;have a1:=(a9▸hO.at (x:=l) (by simp [ho,Op.operands])).int_inv;have a2:=(bh▸hO.at (x:=c) (by simp [ho,Op.operands])).int_inv;have base:Vj S w ((Array.range (m.toNat*z.cells.size)).map (z.cells[· % z.cells.size]!)) z.cells.size (List.replicate n.toNat ei.zd):=
    Vj.zero (by rw [ax,an]) (QcV hT ar (by rw [ax,<- az,ay]) a3) (by omega)
   rw [an] at base;refine ⟨_,m.toNat,?_,?_,?_,?_,base⟩
   ·have ao:(m<0||(inf.bytes:Int)*m>2 ^ 48)=false:=by
     rw [bb];have h1:((ei.bytes:Int)*m)=((m.toNat*ei.bytes:Nat):Int):=by
      rw [Int.natCast_mul,Int.toNat_of_nonneg (by omega),Int.mul_comm]
     have h2:¬ m<0:=by omega
     have h3:¬ ((m.toNat*ei.bytes:Nat):Int)>2 ^ 48:=by omega
     rw [h1,decide_eq_false h2,decide_eq_false h3];rfl
    have a8:((m<0||(inf.bytes:Int)*m>2 ^ 48)||n<0||n>m)=false:=by
     rw [ao];simp;omega
    unfold execOp;rw [ho];simp only [Instr.makeSlice,Qim,QV hu,asInt,asIntOf,a1,a2,YE al,Qii,QiF,bd,a6,a8,Bool.false_eq_true,if_false,run_askRoom,sizeOf,ay];by_cases h0:m.toNat*ak=0
    ·have aw:((Array.range (m.toNat*ak)).map ((#[]:Array Value)[· % (#[]:Array Value).size]!))=((Array.range (m.toNat*ak)).map (z.cells[· % ak]!)):=by rw [h0];simp
     simp only [h0,if_true,Qim,QiF,Qii];rw [h0] at aw;rw [aw];simp [newRow]
    ·simp only [h0,if_false,Qim,zeroValue,YE al,hz,Qii,QiF,an];simp [newRow]
   ·simp
   ·simp;omega
   ·unfold maxLen;omega
end

section
variable {P:Program} {E:Env} {R:Type}
theorem Rd.one {S:Nat->Prop} {w:World} {v:Value} {x:D} (h:Rd S w v x):v.oneCell'=true:=by cases h <;> rfl
structure Src (S:Nat->Prop) (w:World) (esz:Nat) (v:Value) (news:List (List D)) (vals:List Value):Prop where
 form:(v = .slice none 0 0/\news=[])\/(∃ c,v = .slice none 0 c/\news=[])\/∃ (ad:Addr) (c:Nat),v = .slice (some ad) news.length c/\∀ (j:Nat) (u:Value),vals[j]? = some u->w.cell? (ad.add j)=some u
 len:vals.length=news.length*esz
 one:∀ u∈vals,u.oneCell'=true
 row:∀ (i:Nat) (r:List D),news[i]? = some r->r.length=esz
 rd:∀ (i j:Nat) (r:List D) (x:D),news[i]? = some r->r[j]? = some x->∃ u,vals[i*esz+j]? = some u/\Rd S w u x
theorem Src.of_fun {S:Nat->Prop} {w:World} {ac:Nat} {news:List (List D)} {ad:Addr} {c:Nat} (f:Nat->Value) (ak:0<ac) (aj:∀ (i:Nat) (r:List D),news[i]? = some r->r.length=ac)
  (hc:∀ (i j:Nat) (r:List D) (x:D),news[i]? = some r->r[j]? = some x->w.cell? (ad.add (i*ac+j))=some (f (i*ac+j))/\Rd S w (f (i*ac+j)) x) :
  ∃ vals,Src S w ac (.slice (some ad) news.length c) news vals:=by
 have split:∀ q,q<news.length*ac->∃ i j r x,q=i*ac+j/\news[i]? = some r/\r[j]? = some x:=by
  intro q hq;have hi:q / ac<news.length:=Nat.div_lt_of_lt_mul (by grind);have hj:q % ac<ac:=Nat.mod_lt _ ak;have h1:news[q / ac]? = some (news[q / ac]):=Qiy hi;have h2:=aj _ _ h1;refine ⟨q / ac,q % ac,news[q / ac],(news[q / ac])[q % ac]'(by omega),?_,h1,Qiy _⟩
  grind [Nat.mul_comm,Nat.div_add_mod]
 refine ⟨(List.range (news.length*ac)).map f,⟨.inr (.inr ⟨ad,c,rfl,fun j u hu=>?_⟩),by simp,fun u hu=>?_,aj,fun i j r x h1 h2=>?_⟩⟩
 ·grind
 ·obtain ⟨q,hq,rfl⟩:=List.mem_map.1 hu;obtain ⟨i,j',r,x,rfl,h1,h2⟩:=split q (by simp_all);exact (hc i j' r x h1 h2).2.one
 ·have hi:i<news.length:=(Qij.1 h1).1;have hj:j<ac:=by have:=aj i r h1;have:=(Qij.1 h2).1;omega
  have al:(i+1)*ac<=news.length*ac:=Qip _ hi
  grind
theorem Q30 {ac:Nat} (al:0<ac) {hl:Nat->Option Ob} {av:AV} {news:List (List D)} {rx:List Nat} (h:Q0E ac hl av=some (news,rx))
  {β:Nat->Option Nat} {S:Nat->Prop} {st:St} {a:Act} {w:World} (hR:Rel E β S st a w) {v:Value} (hv:RdA β S (look st.h) w (tmv a) v av) (hA:∀ l,l∈rx->look st.h l=hl l):∃ vals,Src S w ac v news vals:=by
 have ak:∀ v,(v = .slice none 0 0\/∃ c,v = .slice none 0 c)->Src S w ac v [] []:=fun v hv=>
  ⟨by grind,by simp,by simp,by simp,by simp⟩
 unfold Q0E at h;split at h
 ·rename_i s rows;cases hb:Nat.beq s ac with
  |false=>simp_all
  |true=>
   obtain rfl:=Qil hb;simp only [hb,Qin,Option.some.injEq,Prod.mk.injEq] at h;obtain ⟨rfl,rfl⟩:=h;rcases hv.d_inv.sl_inv with ⟨rfl,ad,cap,rfl⟩ | ⟨ad,cap,c,rfl,hS,an,ao,hc,hr⟩
   ·cases ad with
    |none=>exact ⟨[],ak _ (.inr ⟨cap,rfl⟩)⟩
    |some ad=>exact ⟨[],⟨.inr (.inr ⟨ad,cap,rfl,by simp⟩),by simp,by simp,by simp,by simp⟩⟩
   ·refine Src.of_fun (fun q=>c (q / s) (q % s)) al ao fun i j r x h1 h2=>?_
    have hj:j<s:=by grind
    simp_all [Nat.add_comm,Nat.add_mul_div_right,Nat.div_eq_of_lt,Nat.zero_add,Nat.add_mul_mod_self_right,Nat.mod_eq_of_lt]
 ·cases h;exact ⟨[],ak _ (.inl hv.nil_inv)⟩
 ·rename_i l;split at h
  ·rename_i e s rows a5;cases hb:Nat.beq s ac with
   |false=>simp [hb] at h
   |true=>
    obtain rfl:=Qil hb;simp only [hb,Qin,Option.some.injEq,Prod.mk.injEq] at h;obtain ⟨rfl,rfl⟩:=h;have ar:look st.h l=some (.arr e s rows):=by simp_all
    rcases RdA.arr_inv ar hv with ⟨_,rfl,rfl⟩ | ⟨b,cap,cs,ty,fz,au,rfl,hw,a7,an,a4⟩
    ·exact ⟨[],ak _ (.inl rfl)⟩
    ·rcases hR.hr.ob l _ ar with ⟨hn,_⟩ | ⟨b2,ax,aq,az,ao,a1,a3⟩
     ·rw [au] at hn;cases hn
     obtain rfl:b=b2:=by rw [au] at aq;injection aq
     refine Src.of_fun (fun q=>ax.getD q undef) al a1 fun i j r x h1 h2=>?_
     obtain ⟨u,hu,a2⟩:=a3 i j r x h1 h2;have ay:=(Qix.1 hu).1;have aj:=T2 ay;refine ⟨by rw [HD,Nat.zero_add,Jt az];exact aj,?_⟩;rw [hu] at aj;injection aj with aj
     rw [<- aj];exact a2
  ·cases h
 ·cases h
theorem PP {w:World} {t ty e:Nat} {i:TypeInfo} {z:Value} {aj base:Nat} (ht:P.underlying t=some (.slice e)) (hi:P.info? e=some i) (hz:i.zero=some z) (ao:i.size=aj) (ay:z.cells.size=aj) (ar:0<aj)
  {v:Value} {n:Nat} {xs:List Value} (al:w.ownsRow base e aj v n xs) {S:Nat->Prop} {x:Value} {news:List (List D)} {vals:List Value} (ak:Src S w aj x news vals)
  (aw:n+news.length<=maxLen) (an:(n+news.length)*i.bytes<=140737488355328) (aq:base<=w.heap.size) :
  ∃ v' w',(Builtin.append_ #[t,t] ty #[v,x]).run P w = .ok v' w'/\w'.ownsRow base e aj v' (n+news.length) (xs++vals)/\w.grownBy w' v.ownBlock/\(v'.ownBlock=v.ownBlock\/v'.ownBlock=some w.heap.size):=by
 have ac:∀ c,x = .slice none 0 c->news=[]->∃ v' w',(Builtin.append_ #[t,t] ty #[v,x]).run P w = .ok v' w'/\w'.ownsRow base e aj v' (n+news.length) (xs++vals)/\w.grownBy w' v.ownBlock/\(v'.ownBlock=v.ownBlock\/v'.ownBlock=some w.heap.size):=by
  intro c hx hn;subst hx;subst hn;have hv:vals=[]:=Qis (by simpa using ak.len);subst hv;refine ⟨v,w,?_,by simpa using al,⟨rfl,rfl,rfl,QiG _,fun _ _ _=>rfl⟩,.inl rfl⟩;rcases al.2 with ⟨rfl,rfl⟩ | ⟨g,cap,a2,rfl,_,_,ax,_⟩
  ·simp [Builtin.append_,QV ht,sizeOf,YE hi,Builtin.lenOf,Builtin.firstCells]
  ·simp [Builtin.append_,QV ht,sizeOf,YE hi,Builtin.lenOf,Builtin.firstCells,ax,storeCells]
 rcases ak.form with ⟨h1,h2⟩ | ⟨c,h1,h2⟩ | ⟨ad,c,rfl,hc⟩
 ·exact ac 0 h1 h2
 ·exact ac c h1 h2
 ·obtain ⟨v',w',g1,g2,g3,_,g5⟩:=run_append_own_at (P:=P) w base t ty e i z aj i.bytes ht hi hz ao rfl ay ar v n xs al ad news.length c vals ak.len hc ak.one aw an aq;exact ⟨v',w',g1,g2,g3,g5⟩
theorem Tv {o:Oper} {c:Call} {s x:Operand} {t:Nat} (ho:o.op = .call c) (hc:c.callee = .builtin .append) (ha:c.args.toList=[s,x]) (hat:c.argTypes.toList=[t,t]) {a:Act} {w w':World} {v':Value}
  (h:(Builtin.append_ #[t,t] o.type #[a.eval s,a.eval x]).run P w = .ok v' w'):(execOp a.eval o).run P w = .ok (.value v') w':=by
 have aj:c.args = #[s,x]:=by grind
 have ac:c.argTypes = #[t,t]:=by grind
 simp_all [execOp,resolve,invoke,builtin,Qim,QiF,Qii,List.map_toArray,QiM,List.map_nil]
def Cu (old:Option Nat) (h:List (Nat × Ob)):List (Nat × Ob):=
 match old with
 |some l=>rem l h
 |none=>h
theorem Rb {β:Nat->Option Nat} {S:Nat->Prop} {st:St} {a:Act} {w w':World} (hR:Rel E β S st a w) {ac e aj:Nat} {rows news:List (List D)} {vals:List Value} (bn:∀ (i j:Nat) (r:List D) (x:D),news[i]? = some r->r[j]? = some x->∃ u,vals[i*aj+j]? = some u/\Rd S w u x) (bp:∀ (i:Nat) (r:List D),news[i]? = some r->r.length=aj)
  (hn:look st.h ac=none) (hc:UQ st ac=true) {v v':Value} {base:Nat} {xs:List Value} (old:Option Nat)
  (an:∀ l,old=some l->(look st.h l).isSome=true)
  (ao:∀ b,v.ownBlock=some b->∃ l,old=some l/\β l=some b)
  (br:∀ (i j:Nat) (r:List D) (y:D),rows[i]? = some r->r[j]? = some y->∃ u,xs[i*aj+j]? = some u/\Rd S w u y) (bk:∀ (i:Nat) (r:List D),rows[i]? = some r->r.length=aj) (bm:xs.length=rows.length*aj)
  (a7:w'.ownsRow base e aj v' (rows.length+news.length) (xs++vals)) (hg:w.grownBy w' v.ownBlock) (hat:v'.ownBlock=v.ownBlock\/∀ b,v'.ownBlock=some b->w.heap.size<=b) :
  ∃ β' S',Rel E β' S' ⟨st.n,st.tm,(ac,.arr e aj (rows++news))::rem ac (Cu old st.h)⟩ a w' /\
   RdA β' S' (look ((ac,.arr e aj (rows++news))::rem ac (Cu old st.h))) w' (tmv a) v' (.arr ac):=by
 have aw:∀ k,look ((ac,Ob.arr e aj (rows++news))::rem ac (Cu old st.h)) k=if k=ac then some (.arr e aj (rows++news)) else if old=some k then none else look st.h k:=by
  intro k;rw [Ue];by_cases e1:k=ac
  ·simp [e1]
  ·rw [Qiv e1,Qiv e1];cases old with
   |none=>simp [Cu]
   |some l=>
    simp only [Cu,CP,Option.some.injEq];by_cases e2:k=l
    ·simp [e2]
    ·rw [Qiv e2,Qiv (fun h=>e2 h.symm)]
 have a9:∀ b,S b->w'.heap[b]? = w.heap[b]?:=fun b hS=>hg.block b (hR.hr.sb b hS) (fun e1=>by
  obtain ⟨l,hl,hb⟩:=ao b e1.symm;exact hR.hr.apart l b (an l hl) hb hS)
 have a3:∀ k b,(look st.h k).isSome=true->old≠some k->β k=some b->w'.heap[b]? = w.heap[b]?:=fun k b hs au hb=>hg.block b (Nj hR hs hb) (fun e1=>by
  obtain ⟨l,hl,ar⟩:=ao b e1.symm;exact au (by rw [hl,hR.hr.inj k l b hs (an l hl) hb ar]))
 have bu:(xs++vals).length=(rows.length+news.length)*aj:=a7.1;have a2:∀ (i j:Nat) (r:List D) (y:D),(rows++news)[i]? = some r->r[j]? = some y->∃ u,(xs++vals)[i*aj+j]? = some u/\Rd S w' u y:=by
  intro i j r y h1 h2;by_cases hi:i<rows.length
  ·rw [List.getElem?_append_left hi] at h1;obtain ⟨u,hu,hr⟩:=br i j r y h1 h2;refine ⟨u,?_,hr.mono (fun _ h=>h) a9⟩;rw [List.getElem?_append_left ((Qij.1 hu).1)];exact hu
  ·rw [List.getElem?_append_right (by omega)] at h1;obtain ⟨u,hu,hr⟩:=bn _ j r y h1 h2;refine ⟨u,?_,hr.mono (fun _ h=>h) a9⟩;have hm:i*aj=(i-rows.length)*aj+rows.length*aj:=by rw [<- Nat.add_mul];congr 1;omega
   rw [List.getElem?_append_right (by omega),bm,show i*aj+j-rows.length*aj=(i-rows.length)*aj+j from by omega];exact hu
 have bb:∀ (i:Nat) (r:List D),(rows++news)[i]? = some r->r.length=aj:=by
  intro i r h1;by_cases hi:i<rows.length
  ·rw [List.getElem?_append_left hi] at h1;exact bk i r h1
  ·rw [List.getElem?_append_right (by omega)] at h1;exact bp _ r h1
 obtain ⟨gb,ax,bo,bq⟩:∃ gb:Option Nat,v'.ownBlock=gb/\(∀ β',β' ac=gb->ObR β' S (look ((ac,Ob.arr e aj (rows++news))::rem ac (Cu old st.h))) w' ac (.arr e aj (rows++news))) /\
   ∀ β',β' ac=gb->RdA β' S (look ((ac,.arr e aj (rows++news))::rem ac (Cu old st.h))) w' (tmv a) v' (.arr ac):=by
  rcases a7.2 with ⟨rfl,h0⟩ | ⟨g,cap,bd,rfl,_,hw,a5,bl,bh,a8⟩
  ·have bi:rows++news=[]:=Qis (by simpa using h0);refine ⟨none,rfl,fun β' hb=>.inl ⟨hb,bi⟩,fun β' hb=>.arr0 ac e aj hb (by rw [aw,Qiz rfl,bi])⟩
  ·have bc:(rows++news).length=rows.length+news.length:=by simp
   refine ⟨some g,rfl,fun β' hb=>.inr ⟨g,bd,hb,hw,?_,bb,fun i j r y h1 h2=>?_⟩,fun β' hb=>?_⟩
   ·rw [bc,bh];exact Qip _ a5
   ·obtain ⟨u,hu,hr⟩:=a2 i j r y h1 h2;refine ⟨u,?_,hr⟩;rw [<- a8,List.getElem?_take] at hu;split at hu
    ·simpa using hu
    ·cases hu
   ·have:=RdA.arr (S:=S) (tm:=tmv a) (h:=look ((ac,Ob.arr e aj (rows++news))::rem ac (Cu old st.h))) ac g cap e aj (rows++news) bd e (0,0) hb (by rw [aw,Qiz rfl]) hw bh (by rw [bc];exact a5) bl;rw [bc] at this;exact this
 have az:∀ k b,k≠ac->(look st.h k).isSome=true->old≠some k->β k=some b->gb=some b->False:=by
  intro k b _ hs au hb he;rcases hat with h | h
  ·obtain ⟨l,hl,ar⟩:=ao b (by rw [<- h,ax,he]);exact au (by rw [hl,hR.hr.inj k l b hs (an l hl) hb ar])
  ·have:=h b (by rw [ax,he]);have:=Nj hR hs hb;omega
 have al:∀ k,k≠ac->(look ((ac,Ob.arr e aj (rows++news))::rem ac (Cu old st.h)) k).isSome=true->(look st.h k).isSome=true/\old≠some k:=by
  intro k hk hs;rw [aw,Qiv hk] at hs;by_cases e1:old=some k
  ·rw [Qiz e1] at hs;cases hs
  ·rw [Qiv e1] at hs;exact ⟨hs,e1⟩
 have bj:old≠some ac:=fun e1=>by have:=an ac e1;rw [hn] at this;cases this
 refine ⟨RG β ac gb,S,?_,bq _ (by simp [RG])⟩;refine hR.upd (fun _ h=>h) a9 (fun k=>k=ac\/old=some k) (fun k hk=>?_) (fun k hk=>?_) (fun k o hk ho=>?_) ?_ ?_ ?_ (fun b hS=>QiJ (hR.hr.sb b hS) hg.size) hR.hr.sfr ?_
 ·have a1:k≠ac:=fun h=>hk (.inl h)
  have bg:old≠some k:=fun h=>hk (.inr h)
  exact ⟨by simp [RG,a1],by rw [aw,Qiv a1,Qiv bg],fun b hs hb=>a3 k b hs bg hb⟩
 ·rcases hk with rfl | hk
  ·exact .inr hc
  ·left;have a1:k≠ac:=fun h=>bj (h▸hk)
   have aq:look ((ac,Ob.arr e aj (rows++news))::rem ac (Cu old st.h)) k=none:=by rw [aw,Qiv a1,Qiz hk]
   exact ⟨by simp [RG,a1],fun _=>aq,fun _ _ _ _=>.inl aq,fun b cs ty fz hs=>(by rw [aq] at hs;cases hs),fun _ _ _=>.inl aq⟩
 ·by_cases e1:k=ac
  ·subst e1;rw [aw,Qiz rfl] at ho;injection ho with ho
   subst ho;exact bo _ (by simp [RG])
  ·rcases hk with h | h
   ·exact absurd h e1
   ·rw [aw,Qiv e1,Qiz h] at ho;cases ho
 ·intro k k' b h1 h2 h3 h4;unfold RG at h3 h4;by_cases e1:k=ac <;> by_cases e2:k'=ac
  ·rw [e1,e2]
  ·rw [Qiz e1] at h3;rw [Qiv e2] at h4;obtain ⟨hs,au⟩:=al k' e2 h2;exact (az k' b e2 hs au h4 h3).elim
  ·rw [Qiv e1] at h3;rw [Qiz e2] at h4;obtain ⟨hs,au⟩:=al k e1 h1;exact (az k b e1 hs au h3 h4).elim
  ·rw [Qiv e1] at h3;rw [Qiv e2] at h4;exact hR.hr.inj k k' b (al k e1 h1).1 (al k' e2 h2).1 h3 h4
 ·intro k b h1 h2 hS;unfold RG at h2;by_cases e1:k=ac
  ·rw [Qiz e1] at h2;rcases hat with h | h
   ·obtain ⟨l,hl,ar⟩:=ao b (by rw [<- h,ax,h2]);exact hR.hr.apart l b (an l hl) ar hS
   ·have:=h b (by rw [ax,h2]);have:=hR.hr.sb b hS;omega
  ·rw [Qiv e1] at h2;exact hR.hr.apart k b (al k e1 h1).1 h2 hS
 ·intro k b h1 h2;unfold RG at h2;by_cases e1:k=ac
  ·rw [Qiz e1] at h2;rcases hat with h | h
   ·obtain ⟨l,hl,ar⟩:=ao b (by rw [<- h,ax,h2]);exact hR.hr.own l b (an l hl) ar
   ·have:=h b (by rw [ax,h2]);right;have:=hR.hr.fr.size;omega
  ·rw [Qiv e1] at h2;exact hR.hr.own k b (al k e1 h1).1 h2
 ·have fr:=hR.hr.fr;refine ⟨hg.os.trans fr.os,hg.tape.trans fr.tape,hg.output.trans fr.output,Nat.le_trans fr.size hg.size,fun b hb hM=>(hg.block b (QiJ hb fr.size) (fun e1=>?_)).trans (fr.block b hb hM)⟩;obtain ⟨l,hl,ar⟩:=ao b e1.symm;rcases hR.hr.own l b (an l hl) ar with h | h
  ·exact hM h
  ·omega
theorem D2 {β:Nat->Option Nat} {S:Nat->Prop} {st:St} {a:Act} {w w':World} (hR:Rel E β S st a w) {ac e aj:Nat} {rows news:List (List D)} {vals:List Value} {x:Value} (ak:Src S w aj x news vals)
  (hn:look st.h ac=none) (hc:UQ st ac=true) {v v':Value} {base:Nat} {xs:List Value} (old:Option Nat)
  (an:∀ l,old=some l->(look st.h l).isSome=true)
  (aq:∀ b,v.ownBlock=some b->∃ l,old=some l/\β l=some b)
  (au:∀ (i j:Nat) (r:List D) (y:D),rows[i]? = some r->r[j]? = some y->∃ u,xs[i*aj+j]? = some u/\Rd S w u y) (ao:∀ (i:Nat) (r:List D),rows[i]? = some r->r.length=aj) (ar:xs.length=rows.length*aj)
  (al:w'.ownsRow base e aj v' (rows.length+news.length) (xs++vals)) (hg:w.grownBy w' v.ownBlock) (hat:v'.ownBlock=v.ownBlock\/v'.ownBlock=some w.heap.size) :
  ∃ β' S',Rel E β' S' ⟨st.n,st.tm,(ac,.arr e aj (rows++news))::rem ac (Cu old st.h)⟩ a w' /\
   RdA β' S' (look ((ac,.arr e aj (rows++news))::rem ac (Cu old st.h))) w' (tmv a) v' (.arr ac):=
 Rb hR ak.rd ak.row hn hc old an aq au ao ar al hg (hat.imp id fun h b hb=>by rw [h] at hb;injection hb with hb;omega)
theorem Q5x {tt:TT} (hT:TOk P tt) {o:Oper} {c:Call} {s x:Operand} {t:Nat} (ho:o.op = .call c) (ay:c.callee = .builtin .append) (ha:c.args.toList=[s,x]) (hat:c.argTypes.toList=[t,t]) {g:Bool} {al:Nat} {ev:Operand->AV} {hl:Nat->Option Ob} {k:Dl->Option R} {r:R}
  (h:Q5F tt al g hl t (ev s) (ev x) k=some r):∃ dl,k dl=some r/\(g=true->Ks P E o ev hl dl):=by
 have bl:c.args = #[s,x]:=by grind
 have bp:s∈o.op.operands.toList:=by grind [Op.operands,Call.operands]
 have bn:x∈o.op.operands.toList:=by simp [ho,Op.operands,Call.operands,ay,bl]
 unfold Q5F at h
 ·split at h
  case h_2=>cases h
  rename_i e ak hk;split at h
  case h_2=>cases h
  rename_i ei cj;cases hc:(Nat.ble 1 ei.bytes&&Nat.beq ei.zero.length ak) with
  |false=>simp_all
  |true=>
   simp only [hc,Qin] at h;simp only [Qik] at hc;have au:=Qiu hc.1;split at h
   case h_2=>cases h
   rename_i news rx az;obtain ⟨ti,cw,cm⟩:=XJ hk (by simp);obtain ⟨hu,ao,inf,aw,ba⟩:=(hT t ti cw).ksl _ _ cm;obtain ⟨cz,ar,c7,bb,z,hz,co⟩:=(hT e ei cj).inf;rw [aw] at ar;injection ar with ar
   subst ar;have a2:z.cells.size=ak:=by rw [<- Qiw,co];exact Qil hc.2
   split at h
   ·-- nil
    rename_i a7;obtain ⟨_,h,ac⟩:=Qm h;obtain ⟨hn,h⟩:=Vf h;refine ⟨_,h,fun hg=>?_⟩;have ac:=NR (ac hg);intro β S st a w hR hO hA a5 K Q hK;have aq:look st.h al=none:=by rw [hA al (.inr (by simp [wrL]))];exact hn
    have a3:UQ st al=true:=by simpa [WD,aq] using a5
    have hv:=(a7▸hO.at bp).nil_inv;obtain ⟨vals,aj⟩:=Q30 ao az hR (hO.at bn) (fun l a1=>hA l (.inl a1));have bd:news.length<=140737488355328:=Nat.le_trans (by have:=QiH news.length au;omega) ac;obtain ⟨v',w',g1,g2,g3,g4⟩:=PP (ty:=o.type) hu aw hz ba a2 ao (World.ownsRow_nil w w.heap.size e ak) aj (by unfold maxLen;omega) (by rw [bb];simpa using ac) (QiG _);unfold Oper.wp;rw [Tv ho ay ha hat (by rw [hv];exact g1)];refine hK _ _ ?_;have:=D2 (rows:=[]) (v:=.slice none 0 0) hR aj aq a3 none (fun _ h=>by cases h) (fun b h=>by simp [Value.ownBlock] at h) (fun i j r y h1=>by simp at h1) (fun i r h1=>by simp at h1) (by simp) g2 g3 g4;exact this
   ·-- a full slice
    rename_i s0 rows a7;cases hb:Nat.beq s0 ak with
    |false=>simp [hb] at h
    |true=>
     simp only [hb,Qin] at h;obtain rfl:=Qil hb;obtain ⟨_,h,a6⟩:=Qm h;obtain ⟨_,h,ac⟩:=Qm h;obtain ⟨hn,h⟩:=Vf h;refine ⟨_,h,fun hg=>?_⟩;have ac:=NR (ac hg);have a6:news≠[]:=fun e=>by have:=a6 hg;rw [e] at this;cases this
     intro β S st a w hR hO hA a5 K Q hK;have aq:look st.h al=none:=by rw [hA al (.inr (by simp [wrL]))];exact hn
     have a3:UQ st al=true:=by simpa [WD,aq] using a5
     obtain ⟨ad,hv,bo⟩:=(a7▸hO.at bp).fs_inv;obtain ⟨vals,aj⟩:=Q30 ao az hR (hO.at bn) (fun l a1=>hA l (.inl a1));have bd:rows.length+news.length<=140737488355328:=Nat.le_trans (by have:=QiH (rows.length+news.length) au;omega) ac;have db:0<news.length:=List.length_pos_iff.2 a6;obtain ⟨sa,sc,cn,cx⟩:∃ (sa:Addr) (sc:Nat),a.eval x = .slice (some sa) news.length sc/\∀ (j:Nat) (u:Value),vals[j]? = some u->w.cell? (sa.add j)=some u:=by
      rcases aj.form with ⟨_,h2⟩ | ⟨_,_,h2⟩ | ⟨sa,sc,h1,h2⟩
      ·exact absurd h2 a6
      ·exact absurd h2 a6
      ·exact ⟨sa,sc,h1,h2⟩
     obtain ⟨b9,ax⟩:=Q30 (hl:=hl) (av:=.d (.sl s0 rows)) (news:=rows) (rx:=[]) ao (by simp [Q0E]) hR (.d _ _ bo) (fun l a1=>by cases a1);have bg:∀ c,a.eval s = .slice none 0 c->rows=[]->o.wp P a w K Q:=by
      intro c b6 a4;have cu:a.eval s = .slice none 0 0:=by
       rw [hv,a4] at b6 ⊢;injection b6 with h1 h2 h3
       rw [h1];rfl
      subst a4;obtain ⟨v',w',g1,g2,g3,g4⟩:=PP (ty:=o.type) hu aw hz ba a2 ao (World.ownsRow_nil w w.heap.size e s0) aj (by unfold maxLen;omega) (by rw [bb];simpa using ac) (QiG _);unfold Oper.wp;rw [Tv ho ay ha hat (by rw [cu];exact g1)];refine hK _ _ ?_;exact D2 (rows:=[]) (v:=.slice none 0 0) hR aj aq a3 none (fun _ h=>by cases h) (fun b h=>by simp [Value.ownBlock] at h) (fun i j r y h1=>by simp at h1) (fun i r h1=>by simp at h1) (by simp) g2 g3 g4
     rcases ax.form with ⟨h1,h2⟩ | ⟨c,h1,h2⟩ | ⟨oa,oc,h1,h2⟩
     ·exact bg _ h1 h2
     ·exact bg _ h1 h2
     ·have da:oc=rows.length:=by
       rw [hv] at h1;injection h1 with _ _ h3
       exact h3.symm
      obtain ⟨v',w',g1,g2,g3⟩:=run_append_arg_grows (P:=P) w t o.type e inf z s0 inf.bytes hu aw hz ba rfl a2 ao oa rows.length oc b9 ax.len h2 sa news.length sc vals aj.len cx (by omega) (by unfold maxLen;omega) (by rw [bb];exact ac);unfold Oper.wp;rw [Tv ho ay ha hat (by rw [h1,cn];exact g1)];refine hK _ _ ?_;refine Rb (rows:=rows) (v:=.slice none 0 0) hR aj.rd aj.row aq a3 none (fun _ h=>by cases h) (fun b h=>by simp [Value.ownBlock] at h) ax.rd ax.row ax.len g2 g3 (.inr fun b hb=>?_);rcases g2.2 with ⟨rfl,_⟩ | ⟨g,cap,c5,rfl,c8,_⟩
      ·simp [Value.ownBlock] at hb
      ·simp [Value.ownBlock] at hb;omega
   ·-- an array of the call's own
    rename_i l a7;split at h
    ·rename_i e' s' rows bx;cases hb:(Nat.beq e e'&&Nat.beq ak s') with
     |false=>simp [hb] at h
     |true=>
      simp only [hb,Qin] at h;simp only [Qik] at hb;obtain rfl:=Qil hb.1;obtain rfl:=Qil hb.2;obtain ⟨_,h,ac⟩:=Qm h;obtain ⟨hn,h⟩:=Vf h;refine ⟨_,h,fun hg=>?_⟩;have ac:=NR (ac hg);intro β S st a w hR hO hA a5 K Q hK;have aq:look st.h al=none:=by rw [hA al (.inr (by simp [wrL]))];exact hn
      have a8:look st.h l=some (.arr e ak rows):=by rw [hA l (.inl (by simp))];exact bx
      have a3:UQ st al=true:=by simp [WD,aq] at a5;exact a5
      obtain ⟨vals,aj⟩:=Q30 ao az hR (hO.at bn) (fun l a1=>hA l (.inl (by simp [a1])));have bd:rows.length+news.length<=140737488355328:=Nat.le_trans (by have:=QiH (rows.length+news.length) au;omega) ac;have bz:∀ (base:Nat) (xs:List Value) (v:Value),a.eval s=v->w.ownsRow base e ak v rows.length xs->base<=w.heap.size->(∀ b,v.ownBlock=some b->β l=some b) ->
        (∀ (i j:Nat) (r:List D) (y:D),rows[i]? = some r->r[j]? = some y->∃ u,xs[i*ak+j]? = some u/\Rd S w u y)->(∀ (i:Nat) (r:List D),rows[i]? = some r->r.length=ak)->o.wp P a w K Q:=by
       intro base xs v hv bh bk b5 cr b8;obtain ⟨v',w',g1,g2,g3,g4⟩:=PP (ty:=o.type) hu aw hz ba a2 ao bh aj (by unfold maxLen;omega) (by rw [bb];exact ac) bk;unfold Oper.wp;rw [Tv ho ay ha hat (by rw [hv];exact g1)];refine hK _ _ ?_;exact D2 (rows:=rows) (v:=v) hR aj aq a3 (some l) (fun l' h=>by injection h with h;subst h;simp [a8]) (fun b h=>⟨l,rfl,b5 b h⟩) cr b8 bh.1 g2 g3 g4
      rcases RdA.arr_inv a8 (a7▸hO.at bp) with ⟨_,a4,hv⟩ | ⟨b,cap,cs,ty,fz,bm,hv,hw,b4,bv,ca⟩
      ·have:=World.ownsRow_nil w w.heap.size e ak;exact bz w.heap.size [] _ hv (by rw [a4];exact this) (QiG _) (fun b h=>by simp [Value.ownBlock] at h) (fun i j r y h1=>by rw [a4] at h1;simp at h1) (fun i r h1=>by rw [a4] at h1;simp at h1)
      ·rcases hR.hr.ob l _ a8 with ⟨cc,_⟩ | ⟨b2,cq,b1,bj,c3,b0,bo⟩
       ·rw [bm] at cc;cases cc
       obtain rfl:b=b2:=by rw [bm] at b1;injection b1
       obtain rfl:cs=cq:=by rw [hw] at bj;injection bj with h1;injection h1
       refine bz 0 (cs.toList.take (rows.length*ak)) _ hv ⟨by simp;omega,.inr ⟨b,cap,cs,rfl,Nat.zero_le _,bj,bv,ca,b4,rfl⟩⟩ (Nat.zero_le _) (fun b3 h=>by simp [Value.ownBlock] at h;subst h;exact bm) (fun i j r y h1 h2=>?_) b0;obtain ⟨u,cg,cp⟩:=bo i j r y h1 h2;have hi:i<rows.length:=(Qij.1 h1).1;have hj:j<ak:=by have:=b0 i r h1;have:=(Qij.1 h2).1;omega
       have c4:(i+1)*ak<=rows.length*ak:=Qip _ hi;have cv:(i+1)*ak=i*ak+ak:=QiL i _;exact ⟨u,by rw [List.getElem?_take,Qiz (by omega)];simpa using cg,cp⟩
    ·cases h
   ·cases h
end

section
variable {P:Program} {E:Env} {R:Type}
def Hb (h:Nat->Option Ob):List (Nat × Option Ob)->Nat->Option Ob
 |[]=>h
 |(l,o)::r=>Hb (fun k=>if k=l then o else h k) r
theorem Hv:∀ (wr:List (Nat × Option Ob)) (h:List (Nat × Ob)),look (My h wr)=Hb (look h) wr
 |[],h=>rfl
 |(l,some o)::r,h=>by
  rw [My,Hb,Hv r];congr 1;funext k;exact Ue l k o h
 |(l,none)::r,h=>by
  rw [My,Hb,Hv r];congr 1;funext k;exact CP l k h
theorem V7:∀ {wr:List (Nat × Option Ob)} {h:Nat->Option Ob} {l:Nat},l ∉ wr.map (·.1)->Hb h wr l=h l
 |[],_,_,_=>rfl
 |(k,o)::r,h,l,hn=>by
  simp only [QiM,QiB,not_or] at hn;rw [Hb,V7 hn.2,Qiv hn.1]
structure CallOut (β:Nat->Option Nat) (S:Nat->Prop) (h:Nat->Option Ob) (w:World) (dl:Dl) (β':Nat->Option Nat) (S':Nat->Prop) (w':World) (v:Value):Prop where
 hs:∀ b,S b->S' b
 sf:∀ b,S' b->S b\/w.heap.size<=b\/∃ l,l∈wrL dl/\(h l).isSome=true/\β l=some b
 sb:∀ b,S' b->b<w'.heap.size
 fr:Fr (fun b=>∃ l,l∈wrL dl/\(h l).isSome=true/\β l=some b) w w'
 bsame:∀ l,l ∉ wrL dl->β' l=β l
 obs:∀ l o,l∈wrL dl->Hb h dl.wr l=some o->ObR β' S' (Hb h dl.wr) w' l o
 keep:∀ l,l∈wrL dl->(h l).isSome=true->Keep β h w β' (Hb h dl.wr) w' l
 blk:∀ l b,l∈wrL dl->(Hb h dl.wr l).isSome=true->β' l=some b->(w.heap.size<=b\/∃ l0,l0∈wrL dl/\(h l0).isSome=true/\β l0=some b)/\¬ S' b
 inj:∀ l l' b,l∈wrL dl->l'∈wrL dl->(Hb h dl.wr l).isSome=true->(Hb h dl.wr l').isSome=true->β' l=some b->β' l'=some b->l=l'
 none:∀ l,l∈wrL dl->h l=none->Hb h dl.wr l=none->β' l=β l
 res:RdA β' S' (Hb h dl.wr) w' tm0 v dl.v
 gd:∀ t,gds t dl.v=false
structure Objs (β:Nat->Option Nat) (S:Nat->Prop) (h:Nat->Option Ob) (w:World):Prop where
 ob:∀ l o,h l=some o->ObR β S h w l o
 inj:∀ l l' b,(h l).isSome=true->(h l').isSome=true->β l=some b->β l'=some b->l=l'
 apart:∀ l b,(h l).isSome=true->β l=some b->¬ S b
 sb:∀ b,S b->b<w.heap.size
def ArgsRd (β:Nat->Option Nat) (S:Nat->Prop) (h:Nat->Option Ob) (w:World) (args:List Value) (ac:List AV):Prop:=
 args.length=ac.length/\∀ (i:Nat) (v:Value) (av:AV),args[i]? = some v->ac[i]? = some av->RdA β S h w tm0 v av
def Wn (P:Program) (f:Nat) (avs:List AV) (hl:Nat->Option Ob) (dl:Dl):Prop:=
 (∃ fn, P.funcs[f]? = some fn /\ fn.body.isSome = true /\ (fn.name == "runtime.NumGoroutine") = false) /\
 ∀ β S h w args,Objs β S h w->ArgsRd β S h w args avs->(∀ l,l∈dl.rd\/l∈wrL dl->h l=hl l) ->
  Calls P f args.toArray w fun e w'=>∃ v β' S',e = .returned v/\CallOut β S h w dl β' S' w' v
def BC (P:Program) (spec:Q5i):Prop:=
 ∀ (R:Type) (f aj:Nat) (g:Bool) (ac:List AV) (hl:Nat->Option Ob) (k:Dl->Option R) (r:R),spec R f aj g ac hl k=some r ->
  ∃ dl,k dl=some r/\(g=true->Wn P f ac hl dl)
theorem Rel.objs {β:Nat->Option Nat} {S:Nat->Prop} {st:St} {a:Act} {w:World} (hR:Rel E β S st a w):Objs β S (look st.h) w:=⟨hR.hr.ob,hR.hr.inj,hR.hr.apart,hR.hr.sb⟩
theorem Qaz {β:Nat->Option Nat} {S S2:Nat->Prop} {h:Nat->Option Ob} {w:World} {tm:Nat->Value} {v:Value} {av:AV} (hv:RdA β S h w tm v av) (hs:Rn av=true):RdA β S2 h w tm v av:=by
 have hL:∀ (l:List AV) (i:Nat) (x:AV),l[i]? = some x->Nz l=true->Rn x=true:=by
  intro l;induction l with
  |nil=>simp_all
  |cons a r ih=>
   intro i x h hs;simp only [Nz,Qik] at hs
   grind
 induction hv with
 |top v=>exact .top v
 |d v x hx=>cases hx with
  |int k n=>exact .d _ _ (.int k n)
  |bool b=>exact .d _ _ (.bool b)
  |str s=>exact .d _ _ (.str s)
  |sl0 a c s=>trivial
  |sl=>simp [Rn] at hs
 |nil=>exact .nil
 |ag cs l hl _ ih=>exact .ag cs l hl fun i x hx=>ih i x hx (hL l i x hx (by assumption))
 |tup cs l hl _ ih=>exact .tup cs l hl fun i x hx=>ih i x hx (hL l i x hx (by simpa [Rn] using hs))
 |fn=>simp [Rn] at hs
 |ptr l off b hb=>exact .ptr l off b hb
 |sa v l t b hb hv=>exact .sa v l t b hb hv
 |el=>simp [Rn] at hs
 |fs=>simp [Rn] at hs
 |mpd=>simp [Rn] at hs
 |ex v=>exact .ex v
 |arr0 l e s hb hh=>exact .arr0 l e s hb hh
 |arr l b cap e s rows cs ty fz hb hh hw al aj ak=>exact .arr l b cap e s rows cs ty fz hb hh hw al aj ak
 |mp l b t f hb hh=>exact .mp l b t f hb hh
 |ap l i off b e s rows hb hh=>exact .ap l i off b e s rows hb hh
 |dang v av l hl hh h1=>exact .dang v av l hl hh h1
 |gdT=>simp [Rn] at hs
 |gdF=>simp [Rn] at hs
theorem Qbj {β β':Nat->Option Nat} {S S':Nat->Prop} {st:St} {a:Act} {w w':World} {v:Value} (hR:Rel E β S st a w) {dl:Dl} (a3:WD st dl.wr=true) (hc:CallOut β S (look st.h) w dl β' S' w' v) :
  Rel E β' S' ⟨st.n,st.tm,My st.h dl.wr⟩ a w':=by
 have ak:=Hv dl.wr st.h;have az:∀ b,S b->w'.heap[b]? = w.heap[b]?:=fun b hS=>hc.fr.block b (hR.hr.sb b hS) (fun ⟨l,_,hs,hb⟩=>hR.hr.apart l b hs hb hS)
 have aq:∀ l,l∈wrL dl->look st.h l=none->Hb (look st.h) dl.wr l=none\/UQ st l=true:=by
  intro l hl hn;have:∀ (wr:List (Nat × Option Ob)) (h:Nat->Option Ob),WD st wr=true->h l=none->Hb h wr l=none\/UQ st l=true:=by
   intro wr;induction wr with
   |nil=>intro h _ hn;exact .inl hn
   |cons x r ih=>
    intro h ar a2;obtain ⟨k,o⟩:=x;simp only [WD,Qik] at ar;by_cases e:l=k
    ·subst e;cases o with
     |none=>exact ih _ ar.2 (by simp)
     |some o=>
      simp_all
    ·exact ih _ ar.2 (by simp_all)
  simp_all
 refine hR.upd hc.hs az (fun l=>l∈wrL dl) (fun l hl=>?_) (fun l hl=>?_) (fun l o hl ho=>?_) ?_ ?_ ?_ hc.sb ?_ ?_
 ·refine ⟨hc.bsame l hl,by rw [ak];exact V7 hl,fun b hs hb=>hc.fr.block b (Nj hR hs hb) (fun ⟨l',ao,an,aj⟩=>?_)⟩;exact hl (by rw [hR.hr.inj l l' b hs an hb aj];exact ao)
 ·cases hs:look st.h l with
  |some o=>left;rw [ak];exact hc.keep l hl (by simp [hs])
  |none=>
   rcases aq l hl hs with h | h
   ·left;refine ⟨?_,fun _=>(by simp_all),fun e s rows h'=>(by simp_all),fun b cs ty fz h'=>(by simp_all),fun t f h'=>(by rw [hs] at h';cases h')⟩;exact hc.none l hl hs h
   simp_all
 ·rw [ak] at ho ⊢;exact hc.obs l o hl ho
 ·intro l l' b h1 h2 h3 h4;rw [ak] at h1 h2;by_cases e1:l∈wrL dl <;> by_cases e2:l'∈wrL dl
  ·exact hc.inj l l' b e1 e2 h1 h2 h3 h4
  ·rw [V7 e2] at h2;rw [hc.bsame l' e2] at h4;rcases (hc.blk l b e1 h1 h3).1 with h | ⟨l0,aw,hs,hb⟩
   ·have:=Nj hR h2 h4;omega
   ·exact absurd aw (by rw [hR.hr.inj l0 l' b hs h2 hb h4];exact e2)
  ·rw [V7 e1] at h1;rw [hc.bsame l e1] at h3;rcases (hc.blk l' b e2 h2 h4).1 with h | ⟨l0,aw,hs,hb⟩
   ·have:=Nj hR h1 h3;omega
   ·exact absurd aw (by rw [<- hR.hr.inj l l0 b h1 hs h3 hb];exact e1)
  ·rw [V7 e1] at h1;rw [V7 e2] at h2;rw [hc.bsame l e1] at h3;rw [hc.bsame l' e2] at h4;exact hR.hr.inj l l' b h1 h2 h3 h4
 ·intro l b h1 h2 hS;rw [ak] at h1;by_cases e1:l∈wrL dl
  ·exact (hc.blk l b e1 h1 h2).2 hS
  ·rw [V7 e1] at h1;rw [hc.bsame l e1] at h2;rcases hc.sf b hS with h | h | ⟨l',ao,an,aj⟩
   ·exact hR.hr.apart l b h1 h2 h
   ·have:=Nj hR h1 h2;omega
   ·exact e1 (by rw [hR.hr.inj l l' b h1 an h2 aj];exact ao)
 ·intro l b h1 h2;rw [ak] at h1;by_cases e1:l∈wrL dl
  ·rcases (hc.blk l b e1 h1 h2).1 with h | ⟨l0,_,hs,hb⟩
   ·right;have:=hR.hr.fr.size;omega
   ·exact hR.hr.own l0 b hs hb
  ·rw [V7 e1] at h1;rw [hc.bsame l e1] at h2;exact hR.hr.own l b h1 h2
 ·intro b hS;rcases hc.sf b hS with h | h | ⟨l',ao,an,aj⟩
  ·exact hR.hr.sfr b h
  ·right;right;have:=hR.hr.fr.size;omega
  ·exact .inr (hR.hr.own l' b an aj)
 ·have fr:=hR.hr.fr;refine ⟨hc.fr.os.trans fr.os,hc.fr.tape.trans fr.tape,hc.fr.output.trans fr.output,Nat.le_trans fr.size hc.fr.size,fun b hb hM=>(hc.fr.block b (QiJ hb fr.size) (fun ⟨l,_,hs,aj⟩=>?_)).trans (fr.block b hb hM)⟩;rcases hR.hr.own l b hs aj with h | h
  all_goals grind
end

section
variable {P:Program} {E:Env} {R:Type}
def fzS (β:Nat->Option Nat) (S:Nat->Prop) (bs:List Nat):Nat->Prop:=fun b=>S b\/∃ l,l∈bs/\β l=some b
def fzH (h:Nat->Option Ob) (bs:List Nat):Nat->Option Ob:=fun k=>if k∈bs then none else h k
theorem Qcx (β:Nat->Option Nat) (h:Nat->Option Ob) (w:World) (bs:List Nat) (l:Nat):Keep β h w β (fzH h bs) w l:=by
 by_cases hl:l∈bs
 ·have hn:fzH h bs l=none:=by grind [fzH]
  exact ⟨rfl,fun _=>hn,fun _ _ _ _=>.inl hn,fun b cs ty fz hs=>(by simp_all),fun _ _ _=>.inl hn⟩
 ·have hn:fzH h bs l=h l:=by simp [fzH,hl]
  exact ⟨rfl,fun h=>by simp_all,fun e s rows hh=>.inr ⟨rows,by simp_all,rfl⟩,fun b cs ty fz _ _ hw=>⟨cs,ty,fz,hw,rfl⟩,fun _ f hh=>.inr ⟨f,by rw [hn];exact hh⟩⟩
theorem Q8K {β:Nat->Option Nat} {S:Nat->Prop} {h:Nat->Option Ob} {w:World} {tm:Nat->Value} {v:Value} {av:AV} (bs:List Nat) (hv:RdA β S h w tm v av):RdA β (fzS β S bs) (fzH h bs) w tm v av:=
 hv.mono (fun _ hb=>.inl hb) (fun _ _=>rfl) (fun _ _=>Qcx ..) (fun _ _=>rfl)
theorem Objs.fz {β:Nat->Option Nat} {S:Nat->Prop} {h:Nat->Option Ob} {w:World} (hO:Objs β S h w) (bs:List Nat) (ar:∀ l,l∈bs->∃ e s rows,h l=some (.arr e s rows)) (az:∀ l b,(h l).isSome=true->β l=some b->b<w.heap.size):Objs β (fzS β S bs) (fzH h bs) w:=by
 have ac:∀ l,(fzH h bs l).isSome=true->(h l).isSome=true/\l ∉ bs:=by
  grind [fzH]
 refine ⟨fun l o ho=>?_,fun l l' b h1 h2=>hO.inj l l' b (ac l h1).1 (ac l' h2).1,fun l b h1 h2 hS=>?_,fun b hS=>?_⟩
 ·have ax:h l=some o:=by
   grind [fzH]
  have aj:=hO.ob l o ax;cases o with
  |box cells=>
   obtain ⟨b,ty,cs,fz,hb,hw,hf,ak,hr⟩:=aj;exact ⟨b,ty,cs,fz,hb,hw,hf,ak,fun i x hx=>Q8K bs (hr i x hx)⟩
  |arr e s rows=>
   rcases aj with h0 | ⟨b,cs,hb,hw,ak,aw,hr⟩
   ·exact .inl h0
   ·refine .inr ⟨b,cs,hb,hw,ak,aw,fun i j r x h4 h5=>?_⟩;obtain ⟨v,hv,au⟩:=hr i j r x h4 h5;exact ⟨v,hv,au.mono (fun _ hb=>.inl hb) (fun _ _=>rfl)⟩
  |mp t f=>exact aj
 ·obtain ⟨ao,hn⟩:=ac l h1;rcases hS with hS | ⟨l',an,ay⟩
  ·exact hO.apart l b ao h2 hS
  ·obtain ⟨e,s,rows,hh⟩:=ar l' an;exact hn (by rw [hO.inj l l' b ao (by simp [hh]) h2 ay];exact an)
 ·rcases hS with hS | ⟨l,hl,hb⟩
  ·exact hO.sb b hS
  grind
theorem Q72 {β:Nat->Option Nat} {S:Nat->Prop} {h:Nat->Option Ob} {w:World} {tm:Nat->Value} {v:Value} {l e s:Nat} {rows:List (List D)} (hO:Objs β S h w) (hh:h l=some (.arr e s rows)) (hv:RdA β S h w tm v (.arr l)) {S':Nat->Prop} (hS:∀ b,S b->S' b) (hb:∀ b,β l=some b->S' b) :
  Rd S' w v (.sl s rows):=by
 rcases RdA.arr_inv hh hv with ⟨_,rfl,rfl⟩ | ⟨b,cap,cs,ty,fz,ao,rfl,hw,ax,ac,_⟩
 ·exact .sl0 _ _ _
 ·rcases hO.ob l _ hh with ⟨hn,_⟩ | ⟨b2,aj,ay,ak,al,an,aq⟩
  ·simp_all
  obtain rfl:b=b2:=by simp_all
  have hR:Vj S' w aj s rows:=⟨al,an,fun i j r x h1 h2=>by
   obtain ⟨u,hu,hr⟩:=aq i j r x h1 h2;exact ⟨u,hu,hr.mono hS (fun _ _=>rfl)⟩⟩
  exact hR.rd ak (hb b ao) ac
theorem EC {hl:Nat->Option Ob} {av ac:AV} {bs:List Nat} (h:Q7w hl av=some (ac,bs)) :
  (bs=[]/\ac=av/\Q0C av=true)\/∃ l e s rows,av = .arr l/\ac = .d (.sl s rows)/\bs=[l]/\hl l=some (.arr e s rows):=by
 unfold Q7w at h
 grind
theorem By {hl:Nat->Option Ob}:∀ {l l':List AV} {bs:List Nat},DR hl l=some (l',bs)->l'.length=l.length/\∀ (i:Nat) (av:AV),l[i]? = some av->∃ ac b,l'[i]? = some ac/\Q7w hl av=some (ac,b)/\∀ x∈b,x∈bs
 |[],l',bs,h=>by
  simp only [DR,Option.some.injEq,Prod.mk.injEq] at h;obtain ⟨rfl,rfl⟩:=h;exact ⟨rfl,fun i av h=>by simp at h⟩
 |a::r,l',bs,h=>by
  simp only [DR] at h;split at h
  ·rename_i a' b ha;split at h
   ·rename_i r' b' hr;simp only [Option.some.injEq,Prod.mk.injEq] at h;obtain ⟨rfl,rfl⟩:=h;obtain ⟨h1,h2⟩:=By hr;refine ⟨by simp [h1],fun i av hi=>?_⟩;cases i with
    |zero=>simp at hi;subst hi;exact ⟨a',b,rfl,ha,fun x hx=>by simp [hx]⟩
    |succ i=>
     obtain ⟨ac,b2,g1,g2,g3⟩:=h2 i av (by simpa using hi);exact ⟨ac,b2,by simpa using g1,g2,fun x hx=>by simp [g3 x hx]⟩
   ·cases h
  ·cases h
theorem Q3j {hl:Nat->Option Ob}:∀ {l l':List AV} {bs:List Nat},DR hl l=some (l',bs)->∀ x∈bs,∃ e s rows,hl x=some (.arr e s rows)
 |[],l',bs,h=>by
  simp only [DR,Option.some.injEq,Prod.mk.injEq] at h;obtain ⟨_,rfl⟩:=h;simp
 |a::r,l',bs,h=>by
  simp only [DR] at h;split at h
  ·rename_i a' b ha;split at h
   ·rename_i r' b' hr;simp only [Option.some.injEq,Prod.mk.injEq] at h;obtain ⟨_,rfl⟩:=h;intro x hx;rcases QiK.1 hx with hx | hx
    ·rcases EC ha with ⟨rfl,_⟩ | ⟨l,e,s,rows,_,_,rfl,hh⟩
     ·simp at hx
     ·simp at hx;subst hx;exact ⟨e,s,rows,hh⟩
    ·exact Q3j hr x hx
   ·cases h
  ·cases h
theorem Bd {hl:Nat->Option Ob} {av ac:AV} {bs:List Nat} (h:N2 hl av=some (ac,bs)):∀ x∈bs,∃ e s rows,hl x=some (.arr e s rows):=by
 unfold N2 at h;split at h
 ·split at h
  ·rename_i aj l hc;obtain ⟨_,rfl⟩:=h;exact Q3j hc
  ·cases h
 ·rcases EC h with ⟨rfl,_⟩ | ⟨l,e,s,rows,_,_,rfl,hh⟩
  all_goals grind
theorem Ev {hl:Nat->Option Ob}:∀ {l l':List AV} {bs:List Nat},RY hl l=some (l',bs)->∀ x∈bs,∃ e s rows,hl x=some (.arr e s rows)
 |[],l',bs,h=>by
  simp only [RY,Option.some.injEq,Prod.mk.injEq] at h;obtain ⟨_,rfl⟩:=h;simp
 |a::r,l',bs,h=>by
  simp only [RY] at h;split at h
  ·rename_i a' b ha;split at h
   ·rename_i r' b' hr;simp only [Option.some.injEq,Prod.mk.injEq] at h;obtain ⟨_,rfl⟩:=h;intro x hx;rcases QiK.1 hx with hx | hx
    ·exact Bd ha x hx
    ·exact Ev hr x hx
   ·cases h
  ·cases h
theorem LB {hl:Nat->Option Ob}:∀ {l l':List AV} {bs:List Nat},RY hl l=some (l',bs)->l'.length=l.length/\∀ (i:Nat) (av:AV),l[i]? = some av->∃ ac b,l'[i]? = some ac/\N2 hl av=some (ac,b)/\∀ x∈b,x∈bs
 |[],l',bs,h=>by
  simp only [RY,Option.some.injEq,Prod.mk.injEq] at h;obtain ⟨rfl,rfl⟩:=h;exact ⟨rfl,fun i av h=>by simp at h⟩
 |a::r,l',bs,h=>by
  simp only [RY] at h;split at h
  ·rename_i a' b ha;split at h
   ·rename_i r' b' hr;simp only [Option.some.injEq,Prod.mk.injEq] at h;obtain ⟨rfl,rfl⟩:=h;obtain ⟨h1,h2⟩:=LB hr;refine ⟨by simp [h1],fun i av hi=>?_⟩;cases i with
    |zero=>simp at hi;subst hi;exact ⟨a',b,rfl,ha,fun x hx=>by simp [hx]⟩
    |succ i=>
     obtain ⟨ac,b2,g1,g2,g3⟩:=h2 i av (by simpa using hi);exact ⟨ac,b2,by simpa using g1,g2,fun x hx=>by simp [g3 x hx]⟩
   ·cases h
  ·cases h
theorem QdT {β:Nat->Option Nat} {S:Nat->Prop} {h hl:Nat->Option Ob} {w:World} {tm:Nat->Value} {v:Value} {av ac:AV} {b bs:List Nat} (hO:Objs β S h w) (hA:∀ l,l∈bs->h l=hl l) (hb:∀ x∈b,x∈bs) (hc:Q7w hl av=some (ac,b)) (hv:RdA β S h w tm v av) :
  RdA β (fzS β S bs) (fzH h bs) w tm0 v ac:=by
 rcases EC hc with ⟨_,rfl,hn⟩ | ⟨l,e,s,rows,rfl,rfl,rfl,hh⟩
 ·exact Q8K bs (hv.to_tm0 hn)
 ·exact .d _ _ (Q72 hO (by rw [hA l (hb l (by simp))];exact hh) hv (fun _ h=>.inl h) (fun b' h'=>.inr ⟨l,hb l (by simp),h'⟩))
theorem Q6O {β:Nat->Option Nat} {S:Nat->Prop} {h hl:Nat->Option Ob} {w:World} {tm:Nat->Value} {v:Value} {av ac:AV} {b bs:List Nat} (hO:Objs β S h w) (hA:∀ l,l∈bs->h l=hl l) (hb:∀ x∈b,x∈bs) (hc:N2 hl av=some (ac,b)) (hv:RdA β S h w tm v av) :
  RdA β (fzS β S bs) (fzH h bs) w tm0 v ac:=by
 unfold N2 at hc;split at hc
 ·rename_i cs;split at hc
  ·rename_i al l ak;obtain ⟨rfl,rfl⟩:=hc;obtain ⟨vs,rfl,aj,hr⟩:=hv.ag_inv;obtain ⟨h1,h2⟩:=By ak;refine .ag _ _ (by rw [aj,h1]) fun i x hx=>?_
   have hi:i<cs.length:=by grind
   have hc:=Qiy hi
   grind [QdT]
  ·cases hc
 grind [QdT]
theorem Q5c {o : Oper} {c : Call} {f : Nat} (ho : o.op = .call c) (hc : c.callee = .value (.func f)) {fn : Func} (hf : P.funcs[f]? = some fn) (hb : fn.body.isSome = true) (hn : (fn.name == "runtime.NumGoroutine") = false) {a : Act} {w : World} :
  (execOp a.eval o).run P w = .ok (.enter f (c.args.map a.eval)) w:=by
 unfold execOp;rw [ho];have h1 : ¬ fn.name = "runtime.NumGoroutine" := by simp_all
 have h2:¬ fn.body=none:=by intro h;rw [h] at hb;cases hb
 simp_all [resolve,Act.eval,Deferred.ofValue,invoke,callFunc]
theorem An {x:Nat}:∀ {l:List Nat},x∈l->S6 x l=true
 |a::r,h=>by
  rcases QiB.1 h with rfl | h
  ·simp [S6]
  ·simp [S6,An h]
theorem G8 {a b:List Nat} (h:Tk a b=false) {x:Nat} (h1:x∈a) (h2:x∈b):False:=by
 grind [Tk,List.any_eq_false,An]
theorem Dc {h h':Nat->Option Ob}:∀ {wr:List (Nat × Option Ob)} {k:Nat},(k ∉ wr.map (·.1)->h k=h' k)->Hb h wr k=Hb h' wr k
 |[],k,hk=>hk (by simp)
 |(l,o)::r,k,hk=>by
  simp only [Hb];refine Dc fun hn=>?_
  by_cases e:k=l
  ·simp [e]
  ·rw [Qiv e,Qiv e];exact hk (by simp [e,hn])
theorem LK {h:Nat->Option Ob} {bs:List Nat} {l:Nat} (hl:l ∉ bs):fzH h bs l=h l:=by grind [fzH]
theorem QcR (β:Nat->Option Nat) (S:Nat->Prop):fzS β S []=S:=by funext b;simp [fzS]
theorem QcP (h:Nat->Option Ob):fzH h []=h:=by funext b;simp [fzH]
theorem Q7o {wr:List (Nat × Option Ob)} (hw:VN wr=true):∀ (h:Nat->Option Ob) {l:Nat} {o:Ob},l∈wr.map (·.1)->Hb h wr l=some o->(∃ cells,o = .box cells/\Nz cells=true/\(l,some o)∈wr)\/∃ e s rows,o = .arr e s rows/\BT rows=true:=by
 induction wr with
 |nil=>simp_all
 |cons x r ih=>
  intro h l o hl ho;obtain ⟨k,ob⟩:=x;have ac:VN r=true:=by
   cases ob with
   |none=>assumption
   |some ob=>cases ob <;> first | simp_all [VN,Qik] | (simp [VN] at hw)
  simp only [Hb] at ho;by_cases hr:l∈r.map (·.1)
  ·grind
  ·rw [V7 hr] at ho;simp only [QiM,QiB,hr,or_false] at hl;rw [Qiz hl] at ho;subst hl;subst ho;cases o with
   |box cells=>simp_all [VN,Qik]
   |arr e s rows=>simp only [VN,Qik] at hw;exact .inr ⟨e,s,rows,rfl,hw.1⟩
   |mp t f=>simp [VN] at hw
theorem KW:∀ {wr:List (Nat × Option Ob)},Bl wr=true->VN wr=true
 |[],_=>rfl
 |(_,none)::r,h=>by simp only [Bl,Qik] at h;simp only [VN];exact KW h.2
 |(_,some (.box cells))::r,h=>by simp only [Bl,Q8B,Qik] at h;simp only [VN,Qik];exact ⟨h.1,KW h.2⟩
 |(_,some (.arr ..))::r,h=>by simp [Bl,Q8B] at h
theorem GW {tt:TT}:∀ {wr:List (Nat × Option Ob)},Ew tt wr=true->(Q35 wr).all BT=true->VN wr=true
 |[],_,_=>rfl
 |(_,none)::r,h,h2=>by simp only [Ew] at h;simp only [Q35] at h2;simp only [VN];exact GW h h2
 |(_,some (.box cells))::r,h,h2=>by simp only [Ew,Qik] at h;simp only [Q35] at h2;simp only [VN,Qik];exact ⟨h.1,GW h.2 h2⟩
 |(_,some (.arr _ _ rows))::r,h,h2=>by simp only [Ew,Qik] at h;simp only [Q35,List.all_cons,Qik] at h2;simp only [VN,Qik];exact ⟨h2.1,GW h.2 h2.2⟩
theorem Qcl {S S2:Nat->Prop} {w:World} {v:Value} {x:D} (h:Rd S w v x) (hf:Q5u x=true):Rd S2 w v x:=by
 cases h with
 |int k n=>exact .int k n
 |bool b=>exact .bool b
 |str s=>exact .str s
 |sl0 a c s=>trivial
 |sl=>simp [Q5u] at hf
theorem Qay {rows:List (List D)} (h:BT rows=true) {i j:Nat} {r:List D} {x:D} (h1:rows[i]? = some r) (h2:r[j]? = some x):Q5u x=true:=by
 simp only [BT,QiC] at h;exact h r (Qir h1) x (Qir h2)
theorem Q34:∀ {l:List AV} {i:Nat} {x:AV},l[i]? = some x->Nz l=true->Rn x=true
 |a::r,i,x,h,hs=>by
  simp only [Nz,Qik] at hs;cases i with
  |zero=>simp at h;subst h;exact hs.1
  |succ i=>exact Q34 (l:=r) (i:=i) (by simpa using h) hs.2
theorem Q93 {l k:Nat} {cells:List AV} {wr:List (Nat × Option Ob)} (hm:(k,some (Ob.box cells))∈wr) (hn:Pr l wr=false):K2 l cells=false:=by
 induction wr with
 |nil=>simp at hm
 |cons x r ih=>
  obtain ⟨k',o⟩:=x;rcases QiB.1 hm with h1 | h1
  ·grind [Pr,Bool.or_eq_false_iff]
  ·cases o with
   |none=>grind [Pr]
   |some o=>
    cases o with
    |box c=>grind [Pr,Bool.or_eq_false_iff]
    |arr e s rows=>exact ih h1 (by assumption)
    |mp t f=>exact ih h1 (by simpa [Pr] using hn)
theorem Q6u {h h':Nat->Option Ob} {wr:List (Nat × Option Ob)} {k:Nat} (hk:k∈wr.map (·.1)):Hb h wr k=Hb h' wr k:=Dc fun hn=>absurd hk hn
theorem CallOut.back {β β':Nat->Option Nat} {S S':Nat->Prop} {h:Nat->Option Ob} {w w':World} {dl:Dl} {v:Value} {bs:List Nat} (hO:Objs β S h w) (a8:∀ l,l∈bs->∃ e s rows,h l=some (.arr e s rows))
  (hm:Tk bs (wrL dl)=false) (ao:Bx bs dl=true) (a3:Rn dl.v=true) (a2:VN dl.wr=true) (hc:CallOut β (fzS β S bs) (fzH h bs) w dl β' S' w' v) :
  CallOut β S h w dl β' (fun b=>S' b/\¬ ∃ l,l∈bs/\β l=some b) w' v:=by
 have ac:∀ l,l∈wrL dl->l ∉ bs:=fun l h1 h2=>G8 hm h2 h1
 have an:∀ l,l∈bs->(h l).isSome=true:=fun l hl=>by grind
 have aj:∀ l,l ∉ bs->Hb (fzH h bs) dl.wr l=Hb h dl.wr l:=fun l hl=>Dc fun _=>LK hl
 have al:∀ (u:Value) (av:AV),Rn av=true->(∀ l,l∈bs->Um l av=false)->RdA β' S' (Hb (fzH h bs) dl.wr) w' tm0 u av->RdA β' (fun b=>S' b/\¬ ∃ l,l∈bs/\β l=some b) (Hb h dl.wr) w' tm0 u av:=by
  intro u av hs hn hr;refine (Qaz (S2:=fun b=>S' b/\¬ ∃ l,l∈bs/\β l=some b) hr hs).mono (fun _ h=>h) (fun _ _=>rfl) (fun l hl=>?_) (fun _ _=>rfl);have a4:l ∉ bs:=fun hb=>by simp_all
  have he:=aj l a4;exact ⟨rfl,fun h=>by simp_all,fun e s rows hh=>.inr ⟨rows,by simp_all,rfl⟩,fun b cs ty fz _ _ hw=>⟨cs,ty,fz,hw,rfl⟩,fun _ f hh=>.inr ⟨f,by rw [<- he];exact hh⟩⟩
 simp only [Bx,QiC,Qik,Bool.not_eq_true'] at ao;have ak:∀ l,l∈wrL dl->fzH h bs l=h l:=fun l hl=>LK (ac l hl)
 refine ⟨fun b hS=>⟨hc.hs b (.inl hS),fun ⟨l,hl,hb⟩=>hO.apart l b (an l hl) hb hS⟩,fun b hS=>?_,fun b hS=>hc.sb b hS.1,?_,hc.bsame,fun l o hl ho=>?_,fun l hl hs=>?_,fun l b hl hs hb=>?_,fun l l' b h1 h2 h3 h4=>?_,fun l hl h1 h2=>?_,al v dl.v a3 (fun l hl=>(ao l hl).1) hc.res,hc.gd⟩
 ·rcases hc.sf b hS.1 with h1 | h1 | ⟨l,h1,h2,h3⟩
  ·rcases h1 with h1 | h1
   all_goals grind
  all_goals grind
 ·exact hc.fr.mono fun b _ ⟨l,h1,h2,h3⟩=>⟨l,h1,by rw [<- ak l h1];exact h2,h3⟩
 ·rcases Q7o a2 h hl ho with ⟨cells,rfl,ax,ar⟩ | ⟨e,s,rows,rfl,az⟩
  case inr=>
   rcases hc.obs l _ hl (by rw [aj l (ac l hl)];exact ho) with g | ⟨b,cs,g1,g2,g3,g4,g5⟩
   ·exact .inl g
   ·refine .inr ⟨b,cs,g1,g2,g3,g4,fun i j r y h1 h2=>?_⟩;obtain ⟨u,q1,q2⟩:=g5 i j r y h1 h2;exact ⟨u,q1,Qcl q2 (Qay az h1 h2)⟩
  obtain ⟨b,ty,cs,fz,hb,hw,hf,ay,hr⟩:=hc.obs l _ hl (by rw [aj l (ac l hl)];exact ho);exact ⟨b,ty,cs,fz,hb,hw,hf,ay,fun i x hx=>al _ x (Q34 hx ax) (fun l' a1=>Q3n hx (Q93 ar (ao l' a1).2)) (hr i x hx)⟩
 ·have K:=hc.keep l hl (by rw [ak l hl];exact hs);have he:=aj l (ac l hl);exact ⟨K.b,fun h1=>by rw [<- he];exact K.none_ (by rw [ak l hl];exact h1),fun e s rows h1=>by rw [<- he];exact K.arr e s rows (by rw [ak l hl];exact h1),fun b cs ty fz h1=>K.cells b cs ty fz (by rw [he];exact h1),fun t f h1=>by rw [<- he];exact K.mp t f (by rw [ak l hl];exact h1)⟩
 ·obtain ⟨h1,h2⟩:=hc.blk l b hl (by rw [aj l (ac l hl)];exact hs) hb;refine ⟨?_,fun h3=>h2 h3.1⟩;rcases h1 with h1 | ⟨l0,g1,g2,g3⟩
  ·exact .inl h1
  ·exact .inr ⟨l0,g1,by rw [<- ak l0 g1];exact g2,g3⟩
 ·rw [<- aj l (ac l h1)] at h3;rw [<- aj l' (ac l' h2)] at h4;exact hc.inj l l' b h1 h2 h3 h4
 ·exact hc.none l hl (by rw [ak l hl];exact h1) (by rw [aj l (ac l hl)];exact h2)
theorem Rx {β β':Nat->Option Nat} {S S':Nat->Prop} {st:St} {a:Act} {w w':World} {v:Value} (hR:Rel E β S st a w) {dl:Dl} {rd:List Nat} (ac:WD st dl.wr=true) (hc:CallOut β S (look st.h) w dl β' S' w' v) :
  Out E st a ⟨dl.v,dl.wr,rd⟩ v w':=by
 have h1:=Qbj hR ac hc;have h2:=hc.res;rw [<- Hv] at h2;refine ⟨β',S',h1,?_⟩;exact h2.mono (fun _ h=>h) (fun _ _=>rfl) (fun l _=>Keep.rfl_ ..) (fun t ht=>by rw [hc.gd t] at ht;cases ht)
def Q7R (P:Program) (E:Env) (o:Oper) (ev:Operand->AV) (f:Nat) (avs0:List AV):Prop:=
 ∀ β S st a w,Rel E β S st a w->Bj β S st a w o ev->∃ vals:List Value,vals.length=avs0.length/\(∀ (i:Nat) (v:Value) (x:AV),vals[i]? = some v->avs0[i]? = some x->RdA β S (look st.h) w (tmv a) v x) /\
  ∀ fn, P.funcs[f]? = some fn -> fn.body.isSome = true -> (fn.name == "runtime.NumGoroutine") = false -> (execOp a.eval o).run P w = .ok (.enter f vals.toArray) w
theorem Q7e {o:Oper} {c:Call} {f:Nat} (ho:o.op = .call c) (hc:c.callee = .value (.func f)) {ev:Operand->AV}:Q7R P E o ev f (c.args.toList.map ev):=by
 intro β S st a w hR hO;refine ⟨c.args.toList.map a.eval,by simp,fun i v x h1 h2=>?_,fun fn hf hb hn=>?_⟩
 ·simp only [Qit,Qio] at h1 h2;obtain ⟨y,hy,rfl⟩:=h1;obtain ⟨y',ac,rfl⟩:=h2;rw [hy] at ac;injection ac with ac
  subst ac;have aj:y∈o.op.operands.toList:=by
   grind [List.mem_of_getElem?,Op.operands,Call.operands]
  exact hO.at aj
 ·rw [Q5c ho hc hf hb hn];congr 2
  grind
theorem RdA.fn_inv {β:Nat->Option Nat} {S:Nat->Prop} {h:Nat->Option Ob} {w:World} {tm:Nat->Value} {v:Value} {f:Nat} {l:List AV} (hv:RdA β S h w tm v (.fn f l)):∃ cs:Array Value,v = .func (.func f) #[] cs/\cs.size=l.length/\∀ (i:Nat) (x:AV),l[i]? = some x->RdA β S h w tm (cs.getD i undef) x:=by
 cases hv with
 |fn _ cs _ hl hr=>simp_all
 |dang _ _ l hl _ _=>trivial
theorem Q7S {o:Oper} {c:Call} {t f:Nat} {cap:List AV} (ho:o.op = .call c) (hc:c.callee = .value (.tmp t)) {ev:Operand->AV} (hev:ev (.tmp t) = .fn f cap):Q7R P E o ev f (c.args.toList.map ev++cap):=by
 intro β S st a w hR hO;have hmt:Operand.tmp t∈o.op.operands.toList:=by simp [ho,Op.operands,Call.operands,hc]
 obtain ⟨cs,hcs,hsz,hr⟩:=(hev▸hO.at hmt).fn_inv;refine ⟨c.args.toList.map a.eval++cs.toList,by simp [hsz],fun i v x h1 h2=>?_,fun fn hf hb hn=>?_⟩
 ·rw [List.getElem?_append] at h1 h2;simp only [List.length_map] at h1 h2;split at h1
  ·rename_i hi;rw [Qiz hi] at h2;simp only [Qit,Qio] at h1 h2;obtain ⟨y,hy,rfl⟩:=h1;obtain ⟨y',hy',rfl⟩:=h2;rw [hy] at hy';injection hy' with hy'
   subst hy';have hmem:y∈o.op.operands.toList:=by
    have:y∈c.args.toList:=Qir hy;simp only [ho,Op.operands,Call.operands,hc];simp at this;simp [this]
   exact hO.at hmem
  ·rename_i hi;rw [Qiv hi] at h2;have:=hr _ x h2;have hlt:=(Qij.1 h1).1;have he:cs.getD (i-c.args.toList.length) undef=v:=by
    rw [Array.getElem?_toList] at h1;rw [Array.getD_eq_getD_getElem?,h1];rfl
   rw [he] at this;exact this
 ·have h1 : ¬ fn.name = "runtime.NumGoroutine" := by simpa using hn
  have h2:¬ fn.body=none:=by intro h;rw [h] at hb;cases hb
  have hv:a.eval (.tmp t) = .func (.func f) #[] cs:=hcs;unfold execOp;rw [ho];have harr:(c.args.toList.map a.eval++cs.toList).toArray=c.args.map a.eval++cs:=by apply Array.ext';simp
  rw [harr];simp [resolve,hc,hv,Deferred.ofValue,invoke,callFunc,hf,h1,h2]
theorem Q8f {β:Nat->Option Nat} {S:Nat->Prop} {st:St} {a:Act} {w:World} (hR:Rel E β S st a w) {hl:Nat->Option Ob} {vals:List Value} {ac:List AV} (aq:vals.length=ac.length) (aj:∀ (i:Nat) (v:Value) (x:AV),vals[i]? = some v->ac[i]? = some x->RdA β S (look st.h) w (tmv a) v x) {ak:List AV} {bs:List Nat}
  (ao:RY hl ac=some (ak,bs)) (an:∀ l,l∈bs->look st.h l=hl l):ArgsRd β (fzS β S bs) (fzH (look st.h) bs) w vals ak:=by
 obtain ⟨ar,al⟩:=LB ao;refine ⟨by omega,fun i v av h1 h2=>?_⟩;have hi:i<ac.length:=by grind
 have hx:=Qiy hi;obtain ⟨aw,b,g1,g2,g3⟩:=al i _ hx;rw [h2] at g1;injection g1 with g1
 subst g1;exact Q6O hR.objs an g3 g2 (aj i v _ h1 hx)
theorem M9 {o:Oper} {f:Nat} {ev:Operand->AV} {ac:List AV} (hF:Q7R P E o ev f ac) {hl:Nat->Option Ob} {ao:List AV} {bs:List Nat} {dl:Dl}
  (a2:RY hl ac=some (ao,bs)) (a1:Wn P f ao hl dl) (hm:Tk bs (wrL dl)=false) (a7:Tk bs dl.rd=false) (a3:Bx bs dl=true) (aj:bs=[]\/(Rn dl.v=true/\VN dl.wr=true)) :
  Ks P E o ev hl ⟨dl.v,dl.wr,bs++dl.rd⟩:=by
 intro β S st a w hR hO hA a4 K Q hK;obtain ⟨⟨fn,hf,hb,hn⟩,ak⟩:=a1;have aw:∀ l,l∈bs->look st.h l=hl l:=fun l h=>hA l (.inl (by simp [h]))
 have al:∀ l,l∈bs->∃ e s rows,look st.h l=some (.arr e s rows):=fun l h=>by grind [Ev]
 have an:=hR.objs.fz bs al (fun l b hs hb=>Nj hR hs hb);have ax:∀ l,l∈dl.rd\/l∈wrL dl->fzH (look st.h) bs l=hl l:=by
  intro l az;rw [LK (fun h=>by grind [G8])];rcases az with h1 | h1
  ·exact hA l (.inl (by simp [h1]))
  ·exact hA l (.inr h1)
 obtain ⟨vals,au,ay,aq⟩:=hF β S st a w hR hO;unfold Oper.wp;rw [aq fn hf hb hn];have:=ak β (fzS β S bs) (fzH (look st.h) bs) w _ an (Q8f hR au ay a2 aw) ax;refine this.mono fun e w' ⟨v,β',S',he,ar⟩=>?_
 subst he;refine hK v w' ?_;rcases aj with rfl | ⟨h1,h2⟩
 ·grind [QcR,QcP,Rx]
 ·exact Rx hR a4 (ar.back hR.objs al hm a3 h1 h2)
theorem RF:∀ (a b:List (Nat × Option Ob)) (h:List (Nat × Ob)),My h (a++b)=My (My h a) b
 |[],_,_=>rfl
 |(l,some o)::r,b,h=>by simp [My,RF r b]
 |(l,none)::r,b,h=>by simp [My,RF r b]
theorem Ae (bs:List Nat) (h:List (Nat × Ob)):look (My h (bs.map fun l=>(l,none)))=fzH (look h) bs:=by
 rw [Hv];generalize look h=f;induction bs generalizing f with
 |nil=>rfl
 |cons a r ih=>
  simp only [QiM,Hb];rw [ih]
  grind [fzH]
theorem Q0H {β:Nat->Option Nat} {S:Nat->Prop} {st:St} {a:Act} {w:World} (hR:Rel E β S st a w) (bs:List Nat) (ak:∀ l,l∈bs->∃ e s rows,look st.h l=some (.arr e s rows)) :
  Rel E β (fzS β S bs) ⟨st.n,st.tm,My st.h (bs.map fun l=>(l,none))⟩ a w:=by
 have ac:=hR.objs.fz bs ak (fun l b hs hb=>Nj hR hs hb);have al:=Ae bs st.h;refine ⟨hR.n,hR.dfr,fun t av ht=>by rw [al];exact Q8K bs (hR.tm t av ht),?_⟩;rw [al];have aj:∀ l,(fzH (look st.h) bs l).isSome=true->(look st.h l).isSome=true:=fun l hs=>by
  grind [fzH]
 refine ⟨ac.ob,ac.inj,ac.apart,fun l b hs hb=>hR.hr.own l b (aj l hs) hb,ac.sb,fun b hS=>?_,fun b h=>.inl (hR.hr.s0 b h),hR.hr.fr,hR.hr.pin,fun l b hp hs=>hR.hr.psz l b hp (aj l hs)⟩;rcases hS with h | ⟨l,hl,hb⟩
 ·exact hR.hr.sfr b h
 ·obtain ⟨e,s,rows,hh⟩:=ak l hl;exact .inr (hR.hr.own l b (by simp [hh]) hb)
theorem Vn {l k:Nat}:∀ {h:List (Nat × Ob)},JD l h=false->JD l (rem k h)=false
 |[],_=>rfl
 |(a,.box c)::r,hn=>by
  simp only [JD,Bool.or_eq_false_iff] at hn;simp only [rem];cases Nat.beq a k with
  |true=>exact Vn hn.2
  |false=>simp [JD,hn.1,Vn hn.2]
 |(a,.arr e s rows)::r,hn=>by
  simp only [JD] at hn;simp only [rem];cases Nat.beq a k with
  |true=>exact Vn hn
  |false=>simp [JD,Vn hn]
 |(a,.mp t f)::r,hn=>by
  simp only [JD] at hn;simp only [rem];cases Nat.beq a k with
  |true=>exact Vn hn
  |false=>simp [JD,Vn hn]
theorem Q4i {l:Nat}:∀ (bs:List Nat) {h:List (Nat × Ob)},JD l h=false->JD l (My h (bs.map fun l=>(l,none)))=false
 |[],_,hn=>hn
 |a::r,h,hn=>by simp only [QiM,My];exact Q4i r (Vn hn)
theorem RE {st:St}:∀ {a b:List (Nat × Option Ob)},WD st (a++b)=true->WD st b=true
 |[],_,h=>h
 |(l,o)::r,b,h=>by
  simp only [List.cons_append,WD,Qik] at h;exact RE h.2
theorem Br {st:St} {bs:List Nat}:∀ {wr:List (Nat × Option Ob)},(∀ l,l∈wr.map (·.1)->l ∉ bs)->WD st wr=true->WD ⟨st.n,st.tm,My st.h (bs.map fun l=>(l,none))⟩ wr=true
 |[],_,_=>rfl
 |(l,o)::r,hn,h=>by
  simp only [WD,Qik] at h ⊢;refine ⟨?_,Br (fun k hk=>hn k (by simp [hk])) h.2⟩;have ac:l ∉ bs:=hn l (by simp);rw [Ae,LK ac];cases o with
  |none=>rfl
  |some o=>
   cases hs:look st.h l with
   |some o'=>rfl
   |none=>
    have h1:=h.1;rw [hs] at h1;simp only [UQ,Qik,Bool.not_eq_true'] at h1 ⊢;exact ⟨h1.1,h1.2.1,Q4i bs h1.2.2⟩
theorem Cs {o:Oper} {f:Nat} {ev:Operand->AV} {aj:List AV} (hF:Q7R P E o ev f aj) {hl:Nat->Option Ob} {ar:List AV} {bs:List Nat} {dl:Dl}
  (aw:RY hl aj=some (ar,bs)) (a4:Wn P f ar hl dl) (hm:Tk bs (wrL dl)=false) (a1:Tk bs dl.rd=false) :
  Ks P E o ev hl ⟨dl.v,bs.map (fun l=>(l,none))++dl.wr,bs++dl.rd⟩:=by
 intro β S st a w hR hO hA a5 K Q hK;obtain ⟨⟨fn,hf,hb,hn⟩,al⟩:=a4;have aq:∀ l,l∈bs->look st.h l=hl l:=fun l h=>hA l (.inl (by simp [h]))
 have an:∀ l,l∈bs->∃ e s rows,look st.h l=some (.arr e s rows):=fun l h=>by rw [aq l h];exact Ev aw l h
 have ao:=hR.objs.fz bs an (fun l b hs hb=>Nj hR hs hb);have az:∀ l,l∈dl.rd\/l∈wrL dl->fzH (look st.h) bs l=hl l:=by
  intro l ac;rw [LK (fun h=>by rcases ac with h1 | h1 <;> first | exact G8 a1 h h1 | exact G8 hm h h1)];rcases ac with h1 | h1
  ·exact hA l (.inl (by simp [h1]))
  ·exact hA l (.inr (by simp only [wrL,List.map_append,QiK];exact .inr h1))
 obtain ⟨vals,ax,a2,au⟩:=hF β S st a w hR hO;unfold Oper.wp;rw [au fn hf hb hn];have:=al β (fzS β S bs) (fzH (look st.h) bs) w _ ao (Q8f hR ax a2 aw aq) az;refine this.mono fun e w' ⟨v,β',S',he,ak⟩=>?_
 subst he;refine hK v w' ?_;rw [<- Ae] at ak;have ay:WD ⟨st.n,st.tm,My st.h (bs.map fun l=>(l,none))⟩ dl.wr=true:=Br (fun l ac h=>G8 hm h ac) (RE a5);obtain ⟨a3,S'',g1,g2⟩:=Rx (rd:=bs++dl.rd) (Q0H hR bs an) ay ak;refine ⟨a3,S'',?_,?_⟩
 all_goals grind [RF]
theorem A4 {t:Nat}:∀ {l:List AV},l.all Q0C=true->AS t l=false
 |[],_=>rfl
 |a::r,h=>by
  simp only [List.all_cons,Qik] at h;simp only [AS,R7 h.1 t,A4 h.2,Bool.or_false]
theorem Q3C {x:AV} (h:Q9F x=true) (t:Nat):gds t x=false:=by
 unfold Q9F at h
 grind [gds,A4,R7]
theorem Q1K {o:Oper} {f:Nat} {ev:Operand->AV} {ac:List AV} (hF:Q7R P E o ev f ac) {hl:Nat->Option Ob} {dl:Dl} (au:ac.all Q9F=true) (aq:Wn P f ac hl dl):Ks P E o ev hl dl:=by
 intro β S st a w hR hO hA ar K Q hK;obtain ⟨⟨fn,hf,hb,hn⟩,aj⟩:=aq;obtain ⟨vals,an,ao,ak⟩:=hF β S st a w hR hO;unfold Oper.wp;rw [ak fn hf hb hn];have:=aj β S (look st.h) w _ hR.objs ⟨an,fun i v x h1 h2=>(ao i v x h1 h2).mono (fun _ h=>h) (fun _ _=>rfl) (fun l _=>Keep.rfl_ ..) (fun t ht=>by
  grind [Q3C,List.all_eq_true,List.mem_of_getElem?])⟩ (fun l h=>hA l h)
 refine this.mono fun e w' ⟨v,β',S',he,al⟩=>?_
 subst he;exact hK v w' (Rx hR ar al)
theorem Q3X {spec:Q5i} {tt:TT} (hS:BC P spec) {o:Oper} {f:Nat} {an:Nat} {g u:Bool} {ev:Operand->AV} {aj:List AV} (hF:Q7R P E o ev f aj) {hl:Nat->Option Ob} {k:Dl->Option R} {r:R}
  (h:Qbh spec tt an g u hl f aj k=some r):∃ dl,k dl=some r/\(g=true->Ks P E o ev hl dl):=by
 unfold Qbh at h;cases al:Qht spec f with
 |true=>
  simp only [al,Qin] at h;cases ao:aj.all Q9F with
  |false=>simp_all
  |true=>
  simp only [ao,Qin] at h;obtain ⟨dl,h,aq⟩:=hS _ _ _ _ _ _ _ _ h
  grind [Q1K]
 |false=>
 simp only [al,cond_false] at h;split at h
 case h_2=>cases h
 rename_i au bs aw;obtain ⟨dl,h,aq⟩:=hS _ _ _ _ _ _ _ _ h;cases ac:(!Tk bs (wrL dl)&&(!Tk bs dl.rd&&Bx bs dl)) with
 |false=>simp_all
 |true=>
  simp only [ac,Qin] at h;simp only [Qik,Bool.not_eq_true'] at ac;obtain ⟨hm,ar,ax⟩:=ac;cases hf:(bs.isEmpty||(Rn dl.v&&Bl dl.wr)) with
  |true=>
   simp only [hf,Qin] at h
   grind [M9,KW]
  |false=>
   simp only [hf,cond_false] at h;cases ak:(Rn dl.v&&Ew tt dl.wr) with
   |true=>
    simp only [ak,Qin] at h;simp only [Qik] at ak;obtain ⟨_,h,hp⟩:=Qm h
    grind [M9,GW,FW,Q35,BT]
   |false=>
    simp only [ak,cond_false] at h;cases u with
    |false=>simp at h
    |true=>
     simp only [Qin] at h
     grind [Cs]
end

section
variable {P:Program} {E:Env} {R:Type}
theorem Q4k {x:Nat}:∀ {l:List Nat},S6 x l=true↔x∈l
 |[]=>by simp [S6]
 |a::r=>by
  simp only [S6,Bool.or_eq_true,Q4k (l:=r),QiB];constructor
  ·rintro (h | h)
   ·exact .inl (Qil h).symm
   ·exact .inr h
  ·rintro (h | h)
   ·exact .inl (by rw [h];exact Nat.beq_refl _)
   ·exact .inr h
def QeC (av:AV):Prop:=(∀ k,Um k av=false)/\(∀ t,gds t av=false)/\av≠.top
theorem Qde (hl:Nat->Option Ob) (bs:List Nat):QgO hl bs=fzH hl bs:=by
 funext k;simp [QgO,fzH,S6,Qiz,Q4k,Qiv]
theorem Q11 (hl:Nat->Option Ob) (ev:Operand->AV):∀ (l:List (Nat × Operand)),VI (fun x=>cv1 hl (ev x)) l=cvP hl (VI ev l)
 |[]=>rfl
 |(i,x)::r=>by simp only [VI,cvP,Q11 hl ev r]
theorem Q9u {hl:Nat->Option Ob} {ev:Operand->AV}:∀ {l:List (Nat × Operand)} {p:Nat × Operand},p∈l->∀ a b,N2 hl (ev p.2)=some (a,b)->∀ x∈b,x∈bsP hl (VI ev l)
 |(i,y)::r,p,hp,a,b,hc,x,hx=>by
  simp only [VI,bsP];rcases QiB.1 hp with rfl | hp
  ·simp only at hc;rw [hc];exact List.mem_append_left _ hx
  ·have ih:=Q9u hp a b hc x hx;split
   ·exact List.mem_append_right _ ih
   ·exact ih
theorem Q5S {hl:Nat->Option Ob}:∀ {l:List (Nat × AV)} {x:Nat},x∈bsP hl l->∃ e s rows,hl x=some (.arr e s rows)
 |[],x,h=>by simp [bsP] at h
 |(i,a)::r,x,h=>by
  simp only [bsP] at h;split at h
  ·rename_i a' b hc;rcases QiK.1 h with h | h
   ·exact Bd hc x h
   ·exact Q5S h
  ·exact Q5S h
theorem Q3t:∀ {z:List D} {l:List AV} {ds:List D},Q9V z l=some ds->(∀ k,K2 k l=false)/\(∀ t,AS t l=false)/\∀ x∈l,x≠.top
 |[],[],ds,h=>⟨fun _=>rfl,fun _=>rfl,fun x h=>by simp at h⟩
 |[],_::_,ds,h=>by simp [Q9V] at h
 |_::_,[],ds,h=>by simp [Q9V] at h
 |z::zs,a::r,ds,h=>by
  simp only [Q9V] at h;split at h
  case h_2=>cases h
  rename_i l hl;obtain ⟨h1,h2,h3⟩:=Q3t hl;split at h
  ·exact ⟨fun k=>by simp [K2,Um,h1 k],fun t=>by simp [AS,gds,h2 t],fun x hx=>by
    rcases QiB.1 hx with rfl | hx
    ·simp
    ·exact h3 x hx⟩
  ·exact ⟨fun k=>by simp [K2,Um,h1 k],fun t=>by simp [AS,gds,h2 t],fun x hx=>by
    rcases QiB.1 hx with rfl | hx
    ·simp
    ·exact h3 x hx⟩
  ·cases h
theorem Q7A {z:List D} {av:AV} {ds:List D} (h:Q9V z (Y9 av)=some ds):QeC av:=by
 obtain ⟨h1,h2,h3⟩:=Q3t h;cases av with
 |ag l=>exact ⟨fun k=>by grind [Um,Y9],fun t=>by grind [gds,Y9],by simp⟩
 |fs _ _=>exact ⟨fun k=>rfl,fun t=>rfl,by simp⟩
 |_=>exact ⟨fun k=>by simp_all [K2,Y9],fun t=>by simp_all [AS,Y9],h3 _ (by simp [Y9])⟩
theorem DX {z:List D}:∀ {ac:List (Nat × AV)} {rows aj:List (List D)},Lm z rows ac=some aj->∀ p∈ac,QeC p.2
 |[],_,_,_,p,hp=>by simp at hp
 |(i,v)::r,rows,aj,h,p,hp=>by
  simp only [Lm] at h;split at h
  case h_2=>cases h
  rename_i row ak;cases hc:Nat.ble (i+1) rows.length with
  |false=>simp [hc] at h
  |true=>
   simp only [hc,Qin] at h;rcases QiB.1 hp with rfl | hp
   ·exact Q7A ak
   ·exact DX h p hp
theorem A8 {ev:Operand->AV}:∀ {l:List (Nat × Operand)} {p:Nat × Operand},p∈l->(p.1,ev p.2)∈VI ev l
 |(i,y)::r,p,hp=>by
  simp only [VI];rcases QiB.1 hp with rfl | hp
  ·simp
  ·exact List.mem_cons_of_mem _ (A8 hp)
theorem AD {tt:TT} {hl:Nat->Option Ob} {al:Nat} {u:Bool} {t len:Nat} {ac:List (Nat × AV)} {k:Dl->Option R} {r:R} (h:H3 tt hl al u t len ac k=some r):∀ p∈ac,QeC p.2:=by
 unfold H3 at h;split at h
 case h_2=>cases h
 rename_i e ak hk;cases hc:(Nat.ble (len*ak) 16777216&&(look tt e).isSome&&Nat.beq (NV tt e).length ak) with
 |false=>simp_all
 |true=>
  simp only [hc,Qin] at h;split at h
  case h_2=>cases h
  rename_i rows aj;exact DX aj
theorem Q2T {o:Oper} {ev:Operand->AV} {hl:Nat->Option Ob} {bs:List Nat} {dl:Dl} (aw:∀ l,l∈bs->∃ e s rows,hl l=some (.arr e s rows))
  (an:∀ x∈o.op.operands.toList,(∃ b,N2 hl (ev x)=some (cv1 hl (ev x),b)/\∀ y∈b,y∈bs)/\QeC (cv1 hl (ev x)))
  (hG:Ks P E o (fun x=>cv1 hl (ev x)) (fzH hl bs) dl) (hm:Tk bs (wrL dl)=false) (az:Tk bs dl.rd=false):Ks P E o ev hl ⟨dl.v,bs.map (fun l=>(l,none))++dl.wr,bs++dl.rd⟩:=by
 intro β S st a w hR hO hA aq K Q hK;have ao:∀ l,l∈bs->look st.h l=hl l:=fun l h=>hA l (.inl (by simp [h]))
 have ak:∀ l,l∈bs->∃ e s rows,look st.h l=some (.arr e s rows):=fun l h=>by simp_all
 have ar:=Q0H hR bs ak;refine hG β (fzS β S bs) _ a w ar (fun x hx=>⟨?_,fun l _=>(an x hx).2.1 l⟩) ?_ (Br (fun l ac h=>G8 hm h ac) (RE aq)) K Q fun v w' al=>hK v w' ?_
 ·obtain ⟨⟨b,h1,h2⟩,hb⟩:=an x hx;rw [Ae];exact (Q6O hR.objs ao h2 h1 (hO.at hx)).mono (fun _ h=>h) (fun _ _=>rfl) (fun l _=>Keep.rfl_ ..) (fun t ht=>by rw [hb.2.1 t] at ht;cases ht)
 ·intro l ac;have aj:l ∉ bs:=fun h=>by grind [G8]
  rw [Ae,LK aj,LK aj];rcases ac with h1 | h1
  ·exact hA l (.inl (by simp [h1]))
  ·exact hA l (.inr (by simp_all [wrL,List.map_append,QiK]))
 ·obtain ⟨β',S',g1,g2⟩:=al;refine ⟨β',S',?_,?_⟩
  all_goals grind [RF]
theorem Q56 {tt:TT} (hT:TOk P tt) {o:Oper} {t:TypeId} {len:Nat} {ac:Array (Nat × Operand)} (ho:o.op = .buildSlice t len ac) {u:Bool} {aj:Nat} {ev:Operand->AV} {hl:Nat->Option Ob} {k:Dl->Option R} {r:R}
  (h:Q4Y tt hl aj u t len (VI ev ac.toList) k=some r):∃ dl,k dl=some r/\Ks P E o ev hl dl:=by
 unfold Q4Y at h;split at h
 ·exact NQ hT ho h
 ·rename_i b bs hb;cases u with
  |false=>simp at h
  |true=>
   rw [<- Q11] at h;have an:=AD h;rw [Qde] at h;obtain ⟨dl,h,hG⟩:=NQ (E:=E) hT ho h;cases hc:(!Tk (b::bs) (wrL dl)&&!Tk (b::bs) dl.rd) with
   |false=>simp_all
   |true=>
    simp only [hc,Qin] at h;simp only [Qik,Bool.not_eq_true'] at hc;refine ⟨_,h,Q2T (fun l ak=>Q5S (hb▸ak)) (fun x hx=>?_) hG hc.1 hc.2⟩;obtain ⟨i,hi⟩:∃ i,(i,x)∈ac.toList:=by
     grind [Op.operands]
    have hn:QeC (cv1 hl (ev x)):=an _ (A8 hi);refine ⟨?_,hn⟩;unfold cv1 at hn ⊢;cases al:N2 hl (ev x) with
    |none=>
     rw [al] at hn;exact absurd rfl hn.2.2
    |some q=>exact ⟨q.2,rfl,fun y hy=>by grind [Q9u]⟩
end

section
variable {P:Program} {E:Env} {R:Type}
theorem DU:∀ {rows:List (List D)} {s:List UInt8},D6 rows=some s->∃ ns:List Int,rows=ns.map (fun n=>[D.int .u8 n])/\s=ns.map fun n=>UInt8.ofNat n.toNat
 |[],s,h=>by simp_all [D6]
 |row::r,s,h=>by
  unfold D6 at h;split at h
  ·simp_all
  ·rename_i n r' he;injection he with he1 he2
   subst he1 he2;split at h
   ·rename_i l hl;injection h with h
    subst h;obtain ⟨ns,h1,h2⟩:=DU hl;exact ⟨n::ns,by simp [h1],by simp [h2]⟩
   ·cases h
  ·cases h
theorem Q0D:∀ (ns:List Int) (s:ByteArray),(ns.foldl (fun r n=>r.push (UInt8.ofNat n.toNat)) s).data.toList=s.data.toList++ns.map fun n=>UInt8.ofNat n.toNat
 |[],s=>by simp
 |n::ns,s=>by
  rw [List.foldl_cons,Q0D ns];simp [ByteArray.push]
theorem Q7n {tt:TT} (hT:TOk P tt) {o:Oper} {s t:TypeId} {x:Operand} (ho:o.op = .convert s t x) {g:Bool} {ev:Operand->AV} {hl:Nat->Option Ob} {e:Nat} {rows:List (List D)} {rd:List Nat}
  (hs:Pn tt s = .sl e 1) (ht:Pn tt t = .str) (he:Pn tt e = .int .u8) (hx:Q0E 1 hl (ev x)=some (rows,rd)) {k:Dl->Option R} {r:R} (h:gb g (D6 rows) [] (fun s=>k ⟨.d (.str s),[],rd⟩)=some r) :
  ∃ dl,k dl=some r/\(g=true->Ks P E o ev hl dl):=by
 obtain ⟨ti,ba,a5⟩:=XJ hs (by simp);obtain ⟨a1,az,aw⟩:=XJ ht (by simp);obtain ⟨a6,ax,ay⟩:=XJ he (by simp);have a4:=((hT s ti ba).ksl _ _ a5).1;have a2:=(hT t a1 az).kstr aw;have a9:=(hT e a6 ax).kint _ ay;obtain ⟨str,h,hp⟩:=Qm h;refine ⟨_,h,fun hg=>Qn fun β S st a w hR hO hA=>?_⟩;have hv:=hO.at (x:=x) (by simp [ho,Op.operands]);obtain ⟨vals,au⟩:=Q30 (by omega) hx hR hv (fun l a7=>hA l (.inl a7));obtain ⟨ns,aj,ak⟩:=DU (hp hg);have an:∀ bs:ByteArray,bs.data.toList=str->(execOp a.eval o).run P w = .ok (.value (.string bs)) w->∃ u,(execOp a.eval o).run P w = .ok (.value u) w/\RdA β S (look st.h) w (tmv a) u (.d (.str str)):=by
  intro bs hb hr;refine ⟨.string bs,hr,.d _ _ ?_⟩;rw [<- hb];exact .str _
 have ac:∀ (ad:Option Addr) (l c:Nat) (bs:ByteArray),a.eval x = .slice ad l c->(Conv.bytesToString (.slice ad l c)).run P w = .ok (.string bs) w->(execOp a.eval o).run P w = .ok (.value (.string bs)) w:=by
  intro ad l c bs a8 hb;unfold execOp;rw [ho];simp only [a8,Qim,run_convert_bytes_string w s t e ad l c a4 a9 a2,hb,Qii];rfl
 rcases au.form with ⟨hf,hn⟩ | ⟨c,hf,hn⟩ | ⟨ad,c,hf,ar⟩
 ·refine an .empty ?_ (ac none 0 0 _ hf (by simp [Conv.bytesToString]));rw [hn] at aj;have:ns=[]:=by
   cases ns with
   |nil=>rfl
   |cons a b=>simp at aj
  rw [ak,this];rfl
 ·refine an .empty ?_ (ac none 0 c _ hf (by simp [Conv.bytesToString]));rw [hn] at aj;have:ns=[]:=by
   cases ns with
   |nil=>rfl
   |cons a b=>simp at aj
  rw [ak,this];rfl
 ·have bb:vals.length=ns.length:=by rw [au.len,aj];simp
  have aq:vals=ns.map (Value.int .u8):=by
   refine List.ext_getElem? fun i=>?_
   rcases Nat.lt_or_ge i ns.length with hi | hi
   ·obtain ⟨u,hu,hr⟩:=au.rd i 0 [D.int .u8 ns[i]] (D.int .u8 ns[i]) (by rw [aj];simp [hi]) rfl;rw [show i*1+0=i by omega] at hu;rw [hu];cases hr;simp [hi]
   ·rw [List.getElem?_eq_none (by omega),List.getElem?_eq_none (by simpa using hi)]
  have al:=run_loadCells_list (P:=P) w ad vals ar;have hr:=run_bytesToString (P:=P) w ad rows.length c ns (by
   rw [aq,List.length_map] at al;rw [show rows.length=ns.length by rw [aj];simp];exact al)
  refine an _ ?_ (ac (some ad) _ c _ hf hr);rw [Q0D,ak];rfl
end

section
variable {P:Program} {E:Env} {R:Type}
theorem Hn {α:Type}:∀ (n s:Nat) (l:List α),(Nq n s l).length=n
 |0,_,_=>rfl
 |n+1,s,l=>by simp [Nq,Hn n]
theorem A0 {α:Type}:∀ (n s:Nat) (l:List α) (i:Nat),i<n->(Nq n s l)[i]? = some ((l.drop (i*s)).take s)
 |n+1,s,l,0,_=>by simp [Nq]
 |n+1,s,l,i+1,h=>by
  simp only [Nq,List.getElem?_cons_succ];rw [A0 n s _ i (by omega),List.drop_drop,Nat.add_comm s,QiL]
theorem Q0F {S:Nat->Prop} {w:World} {cs:Array Value} {n s:Nat} {ds:List D} (aj:ds.length=n*s) (ak:n*s<=cs.size) (hr:∀ (j:Nat) (x:D),ds[j]? = some x->∃ v,cs[j]? = some v/\Rd S w v x):Vj S w cs s (Nq n s ds):=by
 refine ⟨by grind [Hn],fun i r h=>?_,fun i j r x h1 h2=>?_⟩
 ·have hi:i<n:=by grind [List.getElem?_eq_some_iff,Hn]
  rw [A0 n s ds i hi] at h;have ac:(i+1)*s<=n*s:=Qip _ (by omega)
  grind
 grind [List.getElem?_eq_some_iff,Hn,A0]
theorem Q7g {β:Nat->Option Nat} {S:Nat->Prop} {st:St} {a:Act} {w:World} (hR:Rel E β S st a w) {ac e s:Nat} {rows:List (List D)} {cs:Array Value} (aj:look st.h ac=none) (hc:UQ st ac=true) (h:Vj S w cs s rows) :
  Rel E (RG β ac (some w.heap.size)) S ⟨st.n,st.tm,(ac,.arr e s rows)::rem ac st.h⟩ a (w.alloc (.cells cs e)):=by
 obtain ⟨h1,h2,h3⟩:=h;refine hR.new aj hc (.inr ⟨w.heap.size,cs,by simp [RG],Jp _ _,h1,h2,fun i j r x h4 h5=>?_⟩);obtain ⟨v,hv,hr⟩:=h3 i j r x h4 h5;exact ⟨v,hv,hr.mono (fun _ hb=>hb) (fun b hb=>ZD _ _ (hR.hr.sb b hb))⟩
theorem Q51 {tt:TT} (hT:TOk P tt) {o:Oper} {t:TypeId} (ho:o.op = .alloc t) {ev:Operand->AV} {hl:Nat->Option Ob} {ac:Nat} {ti:TyI} (au:look tt t=some ti) {e aj n:Nat} (hk:ti.kd = .array e aj n) (ar:ti.zd.length=n*aj) (hn:hl ac=none) :
  Ks P E o ev hl ⟨.ap ac 0 0,[]++[(ac,some (.arr t aj (Nq n aj ti.zd)))],[]⟩:=by
 have ak:=hT t ti au;obtain ⟨inf,ay,_,_,z,hz,aw⟩:=ak.inf;obtain ⟨_,_,_,an,_⟩:=ak.karr e aj n hk;have a2:z.cells.size=n*aj:=by rw [<- Qiw,aw,ak.zlen];exact an
 intro β S st a w hR hO hA a3 K Q hK;have ax:look st.h ac=none:=by rw [hA ac (.inr (by simp [wrL]))];exact hn
 have hc:UQ st ac=true:=by grind [WD]
 have ao:Vj S w z.cells aj (Nq n aj ti.zd):=Q0F ar (by omega) fun j x hx=>by
  obtain ⟨v,hv,hr⟩:=ak.zd (by omega) j x hx
  grind
 have aq:(execOp a.eval o).run P w = .ok (.value (.pointer (some ⟨w.heap.size,0,none⟩))) (w.alloc (.cells z.cells t)):=by
  simp_all [execOp,Instr.alloc,zeroValue,YE,newVar,newRow]
 unfold Oper.wp;rw [aq];refine hK _ _ ⟨RG β ac (some w.heap.size),S,Q7g hR ax hc ao,?_⟩;have:=RdA.ap (β:=RG β ac (some w.heap.size)) (S:=S) (h:=look (My st.h ([]++[(ac,some (Ob.arr t aj (Nq n aj ti.zd)))]))) (w:=w.alloc (.cells z.cells t)) (tm:=tmv a) ac 0 0 w.heap.size t aj (Nq n aj ti.zd) (by simp [RG]) (by simp [My,Ue])
 simp_all
theorem VX {α:Type} {l:List α} {n:Nat} {u:Unit} (h:G2 l n=some u):l.length=n:=by
 grind [G2,Nat.beq,Nat.eq_of_beq_eq_true]
theorem BH {tt:TT} (hT:TOk P tt) {o:Oper} {t:TypeId} {x i:Operand} (ho:o.op = .indexAddr t x i) {g:Bool} {ev:Operand->AV} {hl:Nat->Option Ob} {k:Dl->Option R} {r:R} {e ac n l:Nat} (hk:Pn tt t = .array e ac n) (ax:ev x = .ap l 0 0)
  (h:LJ g hl ac n l (ev i) k=some r):∃ dl,k dl=some r/\(g=true->Ks P E o ev hl dl):=by
 have ao:x∈o.op.operands.toList:=by grind [Op.operands]
 have ar:i∈o.op.operands.toList:=by simp [ho,Op.operands]
 obtain ⟨ti,aw,aq⟩:=XJ hk (by simp);obtain ⟨hu,a2,⟨i0,a1,ak⟩,_,_⟩:=(hT t ti aw).karr _ _ _ aq;unfold LJ at h;split at h
 case h_2=>cases h
 rename_i ik y e' s rows az aj;cases hb:Nat.beq s ac with
 |false=>simp_all
 |true=>
  obtain rfl:=Qil hb;simp only [hb,Qin] at h;obtain ⟨u,h,au⟩:=Qm h;refine ⟨_,h,fun hg=>Qn fun β S st a w hR hO hA=>?_⟩;obtain ⟨h0,h1⟩:=Q6A (au hg);have hi:=(az▸hO.at ar).int_inv;have an:look st.h l=some (.arr e' s rows):=by rw [hA l (.inl (by simp))];exact aj
  obtain ⟨b,ay,hx⟩:=RdA.ap_inv an (ax▸hO.at ao);have al:(execOp a.eval o).run P w = .ok (.value (.pointer (some ⟨b,y.toNat*s,none⟩))) w:=by
   unfold execOp;rw [ho];simp [Instr.indexAt,hx,hi,asIntOf,QV hu,h0,h1,sizeOf,YE a1,ak,Instr.sureAddr,HD]
  refine ⟨_,al,?_⟩;have:=RdA.ap (β:=β) (S:=S) (h:=look st.h) (w:=w) (tm:=tmv a) l y.toNat 0 b e' s rows ay an;omega
theorem Q57 {tt:TT} (hT:TOk P tt) {o:Oper} {t:TypeId} {x y:Operand} (ho:o.op = .store t x y) {ev:Operand->AV} {hl:Nat->Option Ob} {k:Dl->Option R} {r:R} {e ax n l:Nat} (hk:Pn tt t = .array e ax n) (bk:ev x = .ap l 0 0)
  (h:Q5V hl ax n l (ev y) k=some r):∃ dl,k dl=some r/\Ks P E o ev hl dl:=by
 have bh:x∈o.op.operands.toList:=by grind [Op.operands]
 have ba:y∈o.op.operands.toList:=by simp [ho,Op.operands]
 obtain ⟨ti,bj,bi⟩:=XJ hk (by simp);have a3:=hT t ti bj;obtain ⟨hu,bn,_,au,_⟩:=a3.karr _ _ _ bi;unfold Q5V at h;split at h
 case h_2=>cases h
 rename_i e' s rows a2;cases hb:Nat.beq s ax with
 |false=>simp_all
 |true=>
  obtain rfl:=Qil hb;simp only [hb,Qin] at h;split at h
  case h_2=>cases h
  rename_i ds bg;cases al:Nat.beq ds.length (n*s) with
  |false=>simp_all
  |true=>
   have a6:=Qil al;simp only [al,Qin] at h;obtain ⟨u,h,a1⟩:=Qm h;have bc:=VX (a1 rfl);refine ⟨_,h,?_⟩;intro β S st a w hR hO hA b8 K Q hK;have aj:look st.h l=some (.arr e' s rows):=by rw [hA l (.inl (by simp))];exact a2
   obtain ⟨b,ak,hx⟩:=RdA.ap_inv aj (bk▸hO.at bh);have ay:=AM bg;obtain ⟨c1,c2,c3⟩:=MD (hO.at ba) (by rw [ay];exact DF ds);rcases hR.hr.ob l _ aj with ⟨a8,_⟩ | ⟨b',cs,aq,hw,ar,b5,b1⟩
   ·rw [ak] at a8;cases a8
   obtain rfl:b=b':=by rw [ak] at aq;injection aq
   rw [bc] at ar;have ao:(a.eval y).cells.size=n*s:=by rw [c1,ay];simpa using a6
   obtain ⟨w',a7,ac⟩:∃ w',(storeCells ⟨b,0,none⟩ (a.eval y).cells.toList 0).run P w = .ok () w'/\Wrote b (P4 cs 0 (a.eval y).cells.toList) e' (0,0) w w':=
    GE b 0 e' (0,0) _ 0 cs w hw (Qd9 _) (by simp [ao];omega) c3
   have a4:∀ j,(P4 cs 0 (a.eval y).cells.toList)[j]? = if j<n*s then (a.eval y).cells[j]? else cs[j]?:=by
    intro j;rw [SP _ _ _ _ (by simp [ao];omega)];simp [ao]
   unfold Oper.wp;have bd:a.eval x = .pointer (some ⟨b,0,none⟩):=by simpa using hx
   rw [Mk ho bd (NH a3 (by rw [ao,au]) a7)];have a5:∀ k',look ((l,Ob.arr e' s (Nq n s ds))::rem l st.h) k'=if k'=l then some (.arr e' s (Nq n s ds)) else look st.h k':=fun k'=>Ue l k' _ st.h
   have an:Keep β (look st.h) w β (look ((l,.arr e' s (Nq n s ds))::rem l st.h)) w' l:=by
    refine ⟨rfl,fun h=>?_,fun e1 s1 a9 h=>?_,fun b2 b3 bz b9 _ al az=>?_,fun t f h=>by rw [aj] at h;cases h⟩
    ·rw [aj] at h;cases h
    ·rw [aj] at h;cases h;exact .inr ⟨Nq n s ds,by rw [a5,Qiz rfl],by rw [Hn];omega⟩
    ·rw [ak] at al;injection al with e;subst e
     rw [hw] at az;injection az with e;injection e with e1 e2 e3;subst e1
     exact ⟨_,_,_,ac.blk,Uv _ _ _⟩
   refine hK undef _ ⟨β,S,hR.set aj ak ac.oth ac.os ac.tape ac.output ac.size an (.inr ⟨b,_,ak,ac.blk,?_⟩),.top _⟩;have bb:∀ c,S c->w'.heap[c]? = w.heap[c]?:=fun c hc=>ac.oth c (fun e=>by subst e;exact hR.hr.apart l c (by simp [aj]) ak hc)
   have aw:Vj S w (P4 cs 0 (a.eval y).cells.toList) s (Nq n s ds):=by
    refine Q0F a6 (by rw [Uv];exact ar) fun j d hd=>?_
    have hj:j<n*s:=by have:=(Qij.1 hd).1;omega
    have h1:=a4 j;rw [Qiz hj] at h1;rw [h1];refine ⟨_,T2 (cs:=(a.eval y).cells) (by omega),?_⟩;have h2:=c2 j (.d d) (by rw [ay,Qit,hd];rfl);exact h2.d_inv
   obtain ⟨r1,r2,r3⟩:=aw;exact ⟨r1,r2,fun i j r x h4 h5=>by
    obtain ⟨v,hv,hr⟩:=r3 i j r x h4 h5;exact ⟨v,hv,hr.mono (fun _ h=>h) bb⟩⟩
theorem Qa2 {β:Nat->Option Nat} {S:Nat->Prop} {st:St} {a:Act} {w w':World} (hR:Rel E β S st a w) (ac:∀ b,b<w.heap.size->w'.heap[b]? = w.heap[b]?) (an:w'.heap.size=w.heap.size+1) (al:w'.os=w.os) (ak:w'.tape=w.tape) (aj:w'.output=w.output):Rel E β (fun b=>S b\/b=w.heap.size) st a w':=by
 have:=hR.upd (w':=w') (β':=β) (S':=fun b=>S b\/b=w.heap.size) (H':=st.h) (fun _ h=>.inl h) (fun b hb=>ac b (hR.hr.sb b hb)) (fun _=>False)
  (fun l _=>⟨rfl,rfl,fun b hs hb=>ac b (Nj hR hs hb)⟩) (fun l h=>h.elim) (fun l o h=>h.elim) hR.hr.inj
  (fun l b hs hb hS=>by
   rcases hS with hS | hS
   ·exact hR.hr.apart l b hs hb hS
   ·have:=Nj hR hs hb;omega)
  hR.hr.own
  (fun b hS=>by
   rcases hS with hS | hS
   ·have:=hR.hr.sb b hS;omega
   ·omega)
  (fun b hS=>by
   rcases hS with hS | hS
   ·exact hR.hr.sfr b hS
   ·right;right;have:=hR.hr.fr.size;omega)
  ⟨al.trans hR.hr.fr.os,ak.trans hR.hr.fr.tape,aj.trans hR.hr.fr.output,by have:=hR.hr.fr.size;omega,fun b hb hm=>(ac b (QiJ hb hR.hr.fr.size)).trans (hR.hr.fr.block b hb hm)⟩
 exact this
theorem Q1y {tt:TT} (hT:TOk P tt) {o:Oper} {s t:TypeId} {x:Operand} (ho:o.op = .convert s t x) {ev:Operand->AV} {hl:Nat->Option Ob} {e:Nat} {n:List UInt8}
  (hs:Pn tt s = .str) (ht:Pn tt t = .sl e 1) (he:Pn tt e = .int .u8) (hx:ev x = .d (.str n)):Ks P E o ev hl ⟨.d (.sl 1 (Q7U n)),[],[]⟩:=by
 obtain ⟨ti,ay,aw⟩:=XJ hs (by simp);obtain ⟨aq,ao,ac⟩:=XJ ht (by simp);obtain ⟨ax,aj,an⟩:=XJ he (by simp);have a4:=(hT s ti ay).kstr aw;have a2:=((hT t aq ao).ksl _ _ ac).1;have a6:=(hT e ax aj).kint _ an;intro β S st a w hR hO hA a9 K Q hK;obtain ⟨b,hb,hv⟩:=(hx▸hO.at (x:=x) (by grind [Op.operands])).str_inv;have al:(execOp a.eval o).run P w = .ok (.value (.slice (some ⟨w.heap.size,0,none⟩) b.size (grownCap w b.size 0 e))) (Lib.bytesWorld w e b):=by
  simp_all [execOp,Qim,Lib.run_convert_string_bytes,Qii]
 unfold Oper.wp;rw [al];have az:b.size<=grownCap w b.size 0 e:=grownCap_ge w b.size 0 e;refine hK _ _ ⟨β,fun c=>S c\/c=w.heap.size,Qa2 hR (fun c hc=>Lib.bytesWorld_at_old w e b c hc) (Lib.bytesWorld_size w e b) rfl rfl rfl,.d _ _ ?_⟩;have ak:(Q7U n).length=b.size:=by simp [Q7U,hb]
 rw [<- ak];refine Vj.rd (cs:=Lib.bytesCells w e b) ⟨?_,?_,?_⟩ (Lib.bytesWorld_at_new w e b) (.inr rfl) (by simp_all)
 ·simp_all [Lib.bytesCells]
 ·simp_all [Q7U,Qit,Qio]
 ·intro i j r d h1 h2;simp only [Q7U,Qit,Qio] at h1;obtain ⟨c,hc,rfl⟩:=h1;cases j with
  |zero=>
   simp at h2;subst h2;have hi:i<b.size:=by have:=(Qij.1 hc).1;rw [hb] at this;simpa using this
   refine ⟨.int .u8 (c.toNat:Int),?_,.int _ _⟩;rw [hb] at hc;have:b.data[i]? = some c:=by simpa using hc
   have ar:i<b.data.size:=hi;simp only [Lib.bytesCells,Nat.mul_one,Nat.add_zero];rw [Array.getElem?_append_left (by simpa using ar),Array.getElem?_map,this];rfl
  |succ j=>simp at h2
theorem RD (n:Int):∀ (es:List MapEntry) (i:Nat),(∀ e∈es,∃ m,e.key = .int .i64 m) ->
  (Tg es n=none/\Instr.findNow (.int .i64) (.int .i64 n) es i=some none)\/∃ j v,Tg es n=some v/\Instr.findNow (.int .i64) (.int .i64 n) es i=some (some (j,v))
 |[],i,_=>.inl ⟨rfl,rfl⟩
 |e::r,i,h=>by
  obtain ⟨m,hm⟩:=h e (List.mem_cons_self ..);simp only [Tg,hm,Instr.findNow,Instr.sameNow,if_true];by_cases aj:m=n
  ·simp_all
  ·have hb:(n == m)=false:=by grind
   simp only [hb,aj,if_false];exact RD n r (i+1) fun x hx=>h x (List.mem_cons_of_mem _ hx)
theorem RdA.mpd_inv {β:Nat->Option Nat} {S:Nat->Prop} {h:Nat->Option Ob} {w:World} {tm:Nat->Value} {v:Value} {f:Int->List (List D)} (hv:RdA β S h w tm v (.mpd f)):Q9U S w v f:=by
 cases hv with
 |mpd _ _ hm=>exact hm
 |dang _ _ l hl=>trivial
theorem Q5J {tt:TT} (hT:TOk P tt) {o:Oper} {t:TypeId} {m x:Operand} (ho:o.op = .lookup t m x false) {ev:Operand->AV} {hl:Nat->Option Ob} {f:Int->List (List D)} {n:Int}
  (ht:Pn tt t = .mapI) (hm:ev m = .mpd f) (hx:ev x = .d (.int .i64 n)):Ks P E o ev hl ⟨.d (.sl 1 (f n)),[],[]⟩:=by
 obtain ⟨ti,aq,an⟩:=XJ ht (by simp);obtain ⟨K0,e,hu,hk,i,hi,hz⟩:=(hT t ti aq).kmap an;intro β S st a w hR hO hA a7 K Q hK;obtain ⟨b,es,ar,hv,hS,hb,aj,hn,ac⟩:=(hm▸hO.at (x:=m) (by simp [ho,Op.operands])).mpd_inv;have ao:=(hx▸hO.at (x:=x) (by simp [ho,Op.operands])).int_inv;have au:(zeroValue e).run P w = .ok (.slice none 0 0) w:=by simp [zeroValue,YE hi,hz]
 have al:(Instr.checkKey es.isEmpty 10000 K0 (.int .i64 n)).run P w = .ok () w:=by
  rw [show (10000:Nat)=9999+1 from rfl,Instr.checkKey];simp only [Qim,QV hk,Qii];rfl
 obtain ⟨v,ak,aw⟩:∃ v,(Instr.lookup t (.map (some b)) (.int .i64 n) false).run P w = .ok v w/\Rd S w v (.sl 1 (f n)):=by
  rcases RD n es.toList 0 aj with ⟨h1,h2⟩ | ⟨j,v,h1,h2⟩
  ·refine ⟨.slice none 0 0,?_,by rw [hn n h1];exact .sl0 _ _ _⟩;simp [Instr.lookup,QV hu,QiA hb,al,Instr.findKey,QV hk,h2,au,Result.andThen]
  ·refine ⟨v,?_,ac n v h1⟩;simp [Instr.lookup,QV hu,QiA hb,al,Instr.findKey,QV hk,h2,Result.andThen]
 unfold Oper.wp execOp;rw [ho];simp only [hv,ao,Qim,ak,Qii];exact hK _ _ ⟨β,S,hR,.d _ _ aw⟩
end

section
variable {P:Program} {E:Env} {R:Type}
theorem Q6q (n:Int) (u:Value):∀ (es:List MapEntry) (i:Nat),(∀ e∈es,∃ m,e.key = .int .i64 m)->Tg es n≠none ->
  ∃ j v e,Instr.findNow (.int .i64) (.int .i64 n) es i=some (some (i+j,v))/\es[j]? = some e/\e.key = .int .i64 n /\
   (∀ x∈es.modify j (fun e=>{ e with key:=.int .i64 n,val:=u }),∃ m,x.key = .int .i64 m)/\∀ m,Tg (es.modify j fun e=>{ e with key:=.int .i64 n,val:=u }) m=if m=n then some u else Tg es m
 |[],i,_,h=>absurd rfl h
 |e::r,i,h,hl=>by
  obtain ⟨k,hk⟩:=h e (List.mem_cons_self ..);by_cases aj:k=n
  ·subst aj;refine ⟨0,e.val,e,?_,rfl,hk,fun x hx=>?_,fun m=>?_⟩
   all_goals grind [Instr.findNow,Instr.sameNow,List.modify_zero_cons,Tg]
  ·have hb:(n == k)=false:=by grind
   simp only [Tg,hk,aj,if_false] at hl;obtain ⟨j,v,e',g1,g2,g3,g4,g5⟩:=Q6q n u r (i+1) (fun x hx=>h x (List.mem_cons_of_mem _ hx)) hl;refine ⟨j+1,v,e',?_,by simp_all,g3,fun x hx=>?_,fun m=>?_⟩
   ·simp only [Instr.findNow,Instr.sameNow,hk,hb,if_true,g1];rw [QiN,Nat.add_comm 1 j]
   ·simp only [List.modify_succ_cons,QiB] at hx;rcases hx with rfl | hx
    ·exact ⟨k,hk⟩
    ·exact g4 x hx
   grind [List.modify_succ_cons,Tg]
theorem Q38 (n:Int) (e:MapEntry) (he:e.key = .int .i64 n):∀ (es:List MapEntry),(∀ e∈es,∃ m,e.key = .int .i64 m)->Tg es n=none->∀ m,Tg (es++[e]) m=if m=n then some e.val else Tg es m
 |[],_,_,m=>by
  simp only [List.nil_append,Tg,he];by_cases h:n=m
  ·simp [h]
  ·rw [Qiv h,Qiv (fun e=>h e.symm)]
 |x::r,h,hl,m=>by
  obtain ⟨k,hk⟩:=h x (List.mem_cons_self ..);simp only [Tg,hk] at hl;by_cases ac:k=n
  ·rw [Qiz ac] at hl;cases hl
  ·rw [Qiv ac] at hl;have ih:=Q38 n e he r (fun y hy=>h y (List.mem_cons_of_mem _ hy)) hl m;simp only [List.cons_append,Tg,hk,ih];by_cases hm:k=m
   ·subst hm;simp [ac]
   ·simp [hm]
theorem Q7f {tt:TT} (hT:TOk P tt) {t:TypeId} (ht:Pn tt t = .mpb) {w:World} {b:Nat} {f:Int->Bool} (hm:MpR w b f) (n:Int) (v:Bool) :
  ∃ w',(Instr.mapUpdate t (.map (some b)) (.int .i64 n) (.bool v)).run P w = .ok () w'/\MpR w' b (Q7a f n v)/\(∀ k,k≠b->w'.heap[k]? = w.heap[k]?)/\w'.os=w.os/\w'.tape=w.tape/\w'.output=w.output/\w'.heap.size=w.heap.size:=by
 obtain ⟨ti,a4,a2⟩:=XJ ht (by simp);obtain ⟨K0,e,hu,hk,i,hi,hz⟩:=(hT t ti a4).kmpb a2;obtain ⟨es,ak,hb,ac,hn,aq⟩:=hm;have ay:b<w.heap.size:=(Qix.1 hb).1;have ax:(Instr.checkKey false 10000 K0 (.int .i64 n)).run P w = .ok () w:=by
  rw [show (10000:Nat)=9999+1 from rfl,Instr.checkKey];simp only [Qim,QV hk,Qii];rfl
 have ar:∀ (al:Array MapEntry) (aj:Nat),(Instr.mapUpdate t (.map (some b)) (.int .i64 n) (.bool v)).run P w = .ok () { w with heap:=w.heap.setIfInBounds b (.map al aj) } ->
   (∀ e∈al.toList,∃ m,e.key = .int .i64 m)->(∀ m,Tg al.toList m=if m=n then some (.bool v) else Tg es.toList m) ->
   ∃ w',(Instr.mapUpdate t (.map (some b)) (.int .i64 n) (.bool v)).run P w = .ok () w'/\MpR w' b (Q7a f n v)/\(∀ k,k≠b->w'.heap[k]? = w.heap[k]?)/\w'.os=w.os/\w'.tape=w.tape/\w'.output=w.output/\w'.heap.size=w.heap.size:=by
  intro al aj au a1 aw;refine ⟨_,au,⟨al,aj,by simp [ay],a1,fun m hm=>?_,fun m x hm=>?_⟩,fun k hk=>?_,rfl,rfl,rfl,by simp⟩
  ·rw [aw] at hm;by_cases e1:m=n
   ·rw [Qiz e1] at hm;cases hm
   ·rw [Qiv e1] at hm;simp [Q7a,e1,hn m hm]
  ·rw [aw] at hm;by_cases e1:m=n
   ·rw [Qiz e1] at hm;injection hm with hm;simp [Q7a,e1,<- hm]
   ·rw [Qiv e1] at hm;simp [Q7a,e1,aq m x hm]
  ·simp [Ne.symm hk]
 cases hl:Tg es.toList n with
 |none=>
  have hf:Instr.findNow (.int .i64) (.int .i64 n) es.toList 0=some none:=by
   rcases RD n es.toList 0 ac with ⟨_,h2⟩ | ⟨j,x,h1,_⟩
   ·exact h2
   ·rw [hl] at h1;cases h1
  refine ar (es.push ⟨.int .i64 n,.bool v,ak⟩) (ak+1) ?_ (fun x hx=>?_) (fun m=>?_)
  ·simp [Instr.mapUpdate,QV hu,QiA hb,ax,Instr.findKey,QV hk,hf,MapKept.run_setObj_map _ hb,Result.andThen]
  ·simp only [Array.toList_push,QiK,List.mem_singleton] at hx;rcases hx with hx | rfl
   ·exact ac x hx
   ·exact ⟨n,rfl⟩
  ·rw [Array.toList_push];exact Q38 n _ rfl es.toList ac hl m
 |some x=>
  obtain ⟨j,y,e',g1,g2,g3,g4,g5⟩:=Q6q n (.bool v) es.toList 0 ac (by rw [hl];simp);rw [Nat.zero_add] at g1;have a3:es[j]? = some e':=by simpa using g2
  have az:∀ (w:World),(Instr.keyThatStays (.int .i64 n) (.int .i64 n)).run P w = .ok (.int .i64 n) w:=by
   intro w;simp [Instr.keyThatStays,Instr.sameBits]
  refine ar (es.modify j fun e=>{ e with key:=.int .i64 n,val:=.bool v }) ak ?_ (by rw [Array.toList_modify];exact g4) (fun m=>by rw [Array.toList_modify];exact g5 m);simp [Instr.mapUpdate,QV hu,QiA hb,ax,Instr.findKey,QV hk,g1,a3,g3,az,MapKept.run_setObj_map _ hb,Result.andThen]
theorem Q40 {o:Oper} {t:TypeId} (ho:o.op = .makeMap t none) {ev:Operand->AV} {hl:Nat->Option Ob} {ac:Nat} (hn:hl ac=none) :
  Ks P E o ev hl ⟨.arr ac,[]++[(ac,some (.mp t fun _=>false))],[]⟩:=by
 intro β S st a w hR hO hA an K Q hK;have ak:look st.h ac=none:=by rw [hA ac (.inr (by simp [wrL]))];exact hn
 have hc:UQ st ac=true:=by grind [WD]
 have aj:(execOp a.eval o).run P w = .ok (.value (.map (some w.heap.size))) (w.alloc (.map #[] 0)):=by
  unfold execOp;rw [ho];rfl
 unfold Oper.wp;rw [aj];refine hK _ _ ⟨RG β ac (some w.heap.size),S,?_,.mp ac w.heap.size t (fun _=>false) (by simp [RG]) (by simp [My,look])⟩;exact hR.new ak hc ⟨w.heap.size,by simp [RG],#[],0,Jp _ _,by simp,fun n _=>rfl,fun n v h=>by trivial⟩
theorem Q0z {tt:TT} (hT:TOk P tt) {o:Oper} {t:TypeId} {m x v:Operand} (ho:o.op = .mapUpdate t m x v) {ev:Operand->AV} {hl:Nat->Option Ob} {l t':Nat} {f:Int->Bool} {n:Int} {b:Bool}
  (ht:Pn tt t = .mpb) (hm:ev m = .arr l) (hx:ev x = .d (.int .i64 n)) (hv:ev v = .d (.bool b)) (ac:hl l=some (.mp t' f)):Ks P E o ev hl ⟨.top,[(l,some (.mp t' (Q7a f n b)))],[l]⟩:=by
 intro β S st a w hR hO hA bb K Q hK;have ac:look st.h l=some (.mp t' f):=by rw [hA l (.inl (by simp))];exact ac
 obtain ⟨bk,hb,a5⟩:=RdA.mp_inv ac (hm▸hO.at (x:=m) (by grind [Op.operands]));have a8:=(hx▸hO.at (x:=x) (by simp [ho,Op.operands])).int_inv;have bc:=(hv▸hO.at (x:=v) (by simp [ho,Op.operands])).bool_inv;obtain ⟨b2,a9,ao⟩:=hR.hr.ob l _ ac;obtain rfl:bk=b2:=by simp_all
 obtain ⟨w',az,aq,al,ay,aj,an,aw⟩:=Q7f hT ht ao n b;have ak:(execOp a.eval o).run P w = .ok .skip w':=by
  simp_all [execOp,Qim,Qii]
 unfold Oper.wp;rw [ak];refine hK undef _ ⟨β,S,?_,.top _⟩;obtain ⟨es,ax,a2,_⟩:=ao;refine hR.set ac hb al ay aj an aw ⟨rfl,fun h=>?_,fun e s rows h=>?_,fun b3 cs ty fz _ bd a4=>?_,fun t1 f1 h=>?_⟩ ⟨bk,hb,aq⟩
 ·simp_all
 ·rw [ac] at h;cases h
 ·simp_all
 ·rw [ac] at h;injection h with h
  injection h with h1 h2
  subst h1;exact .inr ⟨Q7a f n b,by rw [Ue,Qiz rfl]⟩
theorem Q4D {tt:TT} (hT:TOk P tt) {o:Oper} {t:TypeId} {m x:Operand} (ho:o.op = .lookup t m x false) {ev:Operand->AV} {hl:Nat->Option Ob} {l t':Nat} {f:Int->Bool} {n:Int}
  (ht:Pn tt t = .mpb) (hm:ev m = .arr l) (hx:ev x = .d (.int .i64 n)) (ac:hl l=some (.mp t' f)):Ks P E o ev hl ⟨.d (.bool (f n)),[],[l]⟩:=by
 obtain ⟨ti,ax,au⟩:=XJ ht (by simp);obtain ⟨K0,e,hu,hk,i,hi,hz⟩:=(hT t ti ax).kmpb au;refine Qn fun β S st a w hR hO hA=>?_
 have ac:look st.h l=some (.mp t' f):=by rw [hA l (.inl (by simp))];exact ac
 obtain ⟨bk,hb,ar⟩:=RdA.mp_inv ac (hm▸hO.at (x:=m) (by simp [ho,Op.operands]));have aw:=(hx▸hO.at (x:=x) (by simp [ho,Op.operands])).int_inv;obtain ⟨b2,ao,es,ay,al,ak,hn,aj⟩:=hR.hr.ob l _ ac;obtain rfl:bk=b2:=by rw [hb] at ao;injection ao
 have az:(zeroValue e).run P w = .ok (.bool false) w:=by simp [zeroValue,YE hi,hz]
 have aq:(Instr.checkKey es.isEmpty 10000 K0 (.int .i64 n)).run P w = .ok () w:=by
  rw [show (10000:Nat)=9999+1 from rfl,Instr.checkKey];simp only [Qim,QV hk,Qii];rfl
 have an:(Instr.lookup t (.map (some bk)) (.int .i64 n) false).run P w = .ok (.bool (f n)) w:=by
  rcases RD n es.toList 0 ak with ⟨h1,h2⟩ | ⟨j,v,h1,h2⟩
  ·rw [hn n h1];simp [Instr.lookup,QV hu,QiA al,aq,Instr.findKey,QV hk,h2,az,Result.andThen]
  ·rw [<- aj n v h1];simp [Instr.lookup,QV hu,QiA al,aq,Instr.findKey,QV hk,h2,Result.andThen]
 refine ⟨.bool (f n),?_,.d _ _ (.bool _)⟩;unfold execOp;rw [ho];simp only [ar,aw,Qim,an,Qii];rfl
end

section
variable {P:Program} {E:Env} {R:Type}
theorem Q5g {s:List UInt8} {n b:Int} (h:Jh s n=some b):0<=n/\∃ ac:n.toNat<s.length,b=((s[n.toNat]' ac).toNat:Int):=by
 grind [Jh]
theorem Q7X {tt:TT} (hT:TOk P tt) {o:Oper} {t:TypeId} {x i:Operand} (ho:o.op = .index t x i) {g:Bool} {ev:Operand->AV} {hl:Nat->Option Ob} {k:Dl->Option R} {r:R}
  (h:Qa8 tt g t (ev x) (ev i) k=some r):∃ dl,k dl=some r/\(g=true->Ks P E o ev hl dl):=by
 have ac:x∈o.op.operands.toList:=by grind [Op.operands]
 have ak:i∈o.op.operands.toList:=by simp [ho,Op.operands]
 unfold Qa8 at h;split at h
 case h_2=>cases h
 rename_i s ik n hk an ao;obtain ⟨ti,al,aj⟩:=XJ hk (by simp);have hu:=(hT t ti al).kstr aj;obtain ⟨b,h,hp⟩:=Qm h;refine ⟨_,h,fun hg=>Qn fun β S st a w hR hO hA=>?_⟩;obtain ⟨bs,hs,hx⟩:=(an▸hO.at ac).str_inv;have hi:=(ao▸hO.at ak).int_inv;obtain ⟨h0,ar,hb⟩:=Q5g (hp hg);have ay:s.length=bs.size:=by simp_all
 refine ⟨.int .u8 b,?_,.d _ _ (.int _ _)⟩;unfold execOp;have:=run_index_string (P:=P) w t bs ik n hu;rw [dif_pos ⟨h0,by omega⟩] at this
 simp_all [Qim,Qii,ByteArray.getElem_eq_getElem_data]
theorem J9 {ev:Operand->AV} {β:Nat->Option Nat} {S:Nat->Prop} {h:Nat->Option Ob} {w:World} {tm:Nat->Value} {ρ:Operand->Value} {x:Option Operand} {n:Option Int} (hb:NY ev x=some n) (hx:∀ y,x=some y->RdA β S h w tm (ρ y) (ev y)) :
  (x=none/\n=none)\/∃ y k m,x=some y/\n=some m/\ρ y = .int k m:=by
 cases x with
 |none=>grind [NY]
 |some y=>
  simp only [NY] at hb;split at hb
  ·rename_i k m ac;simp at hb;exact .inr ⟨y,k,m,rfl,hb.symm,(ac▸hx y rfl).int_inv⟩
  ·cases hb
theorem Mq {len:Nat} {lo hi:Option Int} {q:Nat × Nat} (h:slB len lo hi=some q) :
  0<=lo.getD 0/\lo.getD 0<=hi.getD len/\hi.getD len<=len/\q=((lo.getD 0).toNat,(hi.getD len).toNat):=by
 grind [slB]
theorem Mw (ac:Bool) {len cap:Nat} (ao:len<=cap) {lo hi:Option Operand} {l h:Option Int} {ρ:Operand->Value} {w:World} {q:Nat × Nat} (hs:slB len l h=some q)
  (al:(lo=none/\l=none)\/∃ y k m,lo=some y/\l=some m/\ρ y = .int k m) (ak:(hi=none/\h=none)\/∃ y k m,hi=some y/\h=some m/\ρ y = .int k m) :
  (Instr.sliceBounds ac len cap (lo.map ρ) (hi.map ρ) none).run P w = .ok (q.1,q.2,cap) w:=by
 obtain ⟨h1,h2,h3,rfl⟩:=Mq hs;rcases al with ⟨rfl,rfl⟩ | ⟨y,k,m,rfl,rfl,hy⟩ <;> rcases ak with ⟨rfl,rfl⟩ | ⟨y',k',m',rfl,rfl,an⟩ <;> simp only [Option.getD_none,Option.getD_some] at h1 h2 h3
 ·rfl
 ·have e1:0<=m'/\m'<=(cap:Int):=by omega
  simp_all [Instr.sliceBounds,run_sliceBound_if]
 ·simp_all [Instr.sliceBounds,run_sliceBound_if]
 ·have e1:0<=m'/\m'<=(cap:Int):=by omega
  have e2:0<=m/\m<=((m'.toNat:Nat):Int):=by omega
  simp_all [Instr.sliceBounds,run_sliceBound_if]
theorem ER {α:Type} {l:List α} {q:Nat × Nat} {i:Nat} {a:α} (h:(cut l q)[i]? = some a):i<q.2-q.1/\l[q.1+i]? = some a:=by
 simp_all [cut,List.getElem?_take,List.getElem?_drop]
theorem Q3b {o:Oper} {t:TypeId} {x:Operand} {lo hi:Option Operand} (ho:o.op = .slice t x lo hi none):x∈o.op.operands.toList/\(∀ y,lo=some y->y∈o.op.operands.toList)/\∀ y,hi=some y->y∈o.op.operands.toList:=by
 grind [Op.operands]
theorem Q7W {tt:TT} (hT:TOk P tt) {o:Oper} {t:TypeId} {x:Operand} {lo hi:Option Operand} (ho:o.op = .slice t x lo hi none) {g:Bool} {ev:Operand->AV} {hl:Nat->Option Ob} {k:Dl->Option R} {r:R}
  (h:Q8t tt g t (ev x) (NY ev lo) (NY ev hi) k=some r):∃ dl,k dl=some r/\(g=true->Ks P E o ev hl dl):=by
 obtain ⟨a1,au,aj⟩:=Q3b ho;unfold Q8t at h;split at h
 case h_2=>cases h
 rename_i l' h' a3 a2;split at h
 ·rename_i s hk ax;obtain ⟨ti,aw,an⟩:=XJ hk (by simp);have hu:=(hT t ti aw).kstr an;obtain ⟨q,h,hp⟩:=Qm h;refine ⟨_,h,fun hg=>Qn fun β S st a w hR hO hA=>?_⟩;obtain ⟨bs,hs,hx⟩:=(ax▸hO.at a1).str_inv;have aq:s.length=bs.size:=by simp_all
  have hb:=Mw (P:=P) false (len:=s.length) (cap:=s.length) (QiG _) (ρ:=a.eval) (w:=w) (hp hg) (J9 a3 fun y hy=>hO.at (au y hy)) (J9 a2 fun y hy=>hO.at (aj y hy));rw [aq] at hb;refine ⟨.string (bs.extract q.1 q.2),?_,.d _ _ ?_⟩
  ·simp_all [execOp,Qim,run_sliceAt_string,Option.map_none,Instr.slice,QV,Qii,Option.isSome_none,Bool.false_eq_true,if_false]
  ·have:cut s q=(bs.extract q.1 q.2).data.toList:=by
    rw [hs];simp [cut,ByteArray.data_extract]
   rw [this];exact .str _
 ·rename_i e a9 s rows hk ax;cases hb:Nat.beq s a9 with
  |false=>simp [hb] at h
  |true=>
   simp only [hb,Qin] at h;obtain rfl:=Qil hb;obtain ⟨ti,aw,an⟩:=XJ hk (by simp);obtain ⟨hu,a6,inf,al,aq⟩:=(hT t ti aw).ksl _ _ an;obtain ⟨q,h,hp⟩:=Qm h;refine ⟨_,h,fun hg=>Qn fun β S st a w hR hO hA=>?_⟩;have ba:=(ax▸hO.at a1).d_inv;have hq:=Mq (hp hg);have ar:∀ (ad:Option Addr) (cap:Nat),rows.length<=cap->a.eval x = .slice ad rows.length cap->(execOp a.eval o).run P w = .ok (.value (.slice (if cap=q.1 then ad else ad.map (·.add (q.1*s))) (q.2-q.1) (cap-q.1))) w:=by
    intro ad cap hc hx;have hb:=Mw (P:=P) true hc (ρ:=a.eval) (w:=w) (hp hg) (J9 a3 fun y hy=>hO.at (au y hy)) (J9 a2 fun y hy=>hO.at (aj y hy));unfold execOp;rw [ho];simp only [hx,Qim,Instr.sliceAt,QV hu,Qii,Option.map_none];simp only [Instr.slice,Qim,QV hu,Qii,hb,sizeOf,YE al,aq];rfl
   have ay:(cut rows q).length=q.2-q.1:=by
    unfold cut;rw [hq.2.2.2];simp;omega
   generalize hv:a.eval x=v at ba ar;cases ba with
   |sl0 ad cap _=>
    refine ⟨_,ar ad cap (Nat.zero_le _) rfl,.d _ _ ?_⟩;have:cut ([]:List (List D)) q=[]:=by simp [cut]
    rw [this];have h0:q.2-q.1=0:=by rw [this] at ay;simpa using ay.symm
    rw [h0];exact .sl0 _ _ _
   |sl ad cap _ _ c hS a7 a5 hc hr=>
    refine ⟨_,ar (some ad) cap a7 rfl,.d _ _ ?_⟩;by_cases h0:q.2-q.1=0
    ·have:cut rows q=[]:=Qis (by rw [ay,h0]);rw [this,h0];exact .sl0 _ _ _
    ·have bb:cap≠q.1:=by
      have:=hq.2.2.1;have:=hq.2.2.2;have h1:q.2<=rows.length:=by rw [this];simp;omega
      omega
     rw [Qiv bb,<- ay];refine Rd.sl (ad.add (q.1*s)) (cap-q.1) s (cut rows q) (fun i j=>c (q.1+i) j) (by rw [JO];exact hS) ?_ ?_ ?_ ?_
     ·rw [ay];have:=hq.2.2.2;have h1:q.2<=rows.length:=by rw [this];simp;omega
      omega
     ·intro i r ak;exact a5 _ _ (ER ak).2
     ·intro i j r y ak hy;have:=hc (q.1+i) j r y (ER ak).2 hy;rw [Bm,<- QiN,<- Nat.add_mul];exact this
     ·intro i j r y ak hy;exact hr (q.1+i) j r y (ER ak).2 hy
 ·rename_i e a9 hk ax;obtain ⟨ti,aw,an⟩:=XJ hk (by simp);obtain ⟨hu,a6,inf,al,aq⟩:=(hT t ti aw).ksl _ _ an;obtain ⟨q,h,hp⟩:=Qm h;refine ⟨_,h,fun hg=>Qn fun β S st a w hR hO hA=>?_⟩;have hx:=(ax▸hO.at a1).nil_inv;have hq:=Mq (hp hg);have hb:=Mw (P:=P) true (QiG 0) (ρ:=a.eval) (w:=w) (hp hg) (J9 a3 fun y hy=>hO.at (au y hy)) (J9 a2 fun y hy=>hO.at (aj y hy));have h0:q.2-q.1=0:=by
   obtain ⟨q1,q2,q3,q4⟩:=hq;rw [q4];show (h'.getD ((0:Nat):Int)).toNat-(l'.getD 0).toNat=0;omega
  have h1:0-q.1=0:=Nat.zero_sub _;refine ⟨.slice none 0 0,?_,.nil⟩;unfold execOp;rw [ho];simp only [hx,Qim,Instr.sliceAt,QV hu,Qii,Option.map_none];simp only [Instr.slice,Qim,QV hu,Qii,hb,sizeOf,YE al,aq,h0,h1,Option.map_none,ite_self];rfl
 ·cases h
theorem Q3N {len:Nat} {lo hi mx:Option Int} {q:Nat × Nat} (h:Qg1 len lo hi mx=some q):∃ m,hi=some m/\mx=some m/\slB len lo (some m)=some q:=by
 unfold Qg1 at h
 grind
theorem Bg {len cap:Nat} (an:len<=cap) {lo:Option Operand} {yh ym:Operand} {l:Option Int} {m:Int} {kh km:IntKind} {ρ:Operand->Value} {w:World} {q:Nat × Nat} (hs:slB len l (some m)=some q)
  (ac:(lo=none/\l=none)\/∃ y k m,lo=some y/\l=some m/\ρ y = .int k m) (hh:ρ yh = .int kh m) (hm:ρ ym = .int km m) :
  (Instr.sliceBounds true len cap (lo.map ρ) (some (ρ yh)) (some (ρ ym))).run P w = .ok (q.1,q.2,q.2) w:=by
 obtain ⟨h1,h2,h3,rfl⟩:=Mq hs;simp only [Option.getD_some] at h2 h3;have e1:0<=m/\m<=(cap:Int):=by
  omega
 have e2:0<=m/\m<=((m.toNat:Nat):Int):=by omega
 rcases ac with ⟨rfl,rfl⟩ | ⟨y,k,a,rfl,rfl,hy⟩
 ·simp_all [Instr.sliceBounds,run_sliceBound_if]
 ·simp only [Option.getD_some] at h1 h2;have e3:0<=a/\a<=((m.toNat:Nat):Int):=by omega
  simp_all [Instr.sliceBounds,run_sliceBound_if,Qiz]
theorem Q7m {o:Oper} {t:TypeId} {x mx:Operand} {lo hi:Option Operand} (ho:o.op = .slice t x lo hi (some mx)):x∈o.op.operands.toList/\(∀ y,lo=some y->y∈o.op.operands.toList)/\(∀ y,hi=some y->y∈o.op.operands.toList)/\mx∈o.op.operands.toList:=by
 grind [Op.operands]
theorem Q5B {tt:TT} (hT:TOk P tt) {o:Oper} {t:TypeId} {x mx:Operand} {lo hi:Option Operand} (ho:o.op = .slice t x lo hi (some mx)) {g:Bool} {ev:Operand->AV} {hl:Nat->Option Ob} {k:Dl->Option R} {r:R}
  (h:Q4I tt g t (ev x) (NY ev lo) (NY ev hi) (NY ev (some mx)) k=some r):∃ dl,k dl=some r/\(g=true->Ks P E o ev hl dl):=by
 obtain ⟨bd,ar,au,bj⟩:=Q7m ho;unfold Q4I at h;split at h
 case h_2=>cases h
 rename_i l' h' m' a8 ba bb;split at h
 ·rename_i e bh s rows hk a5;cases hb:Nat.beq s bh with
  |false=>simp_all
  |true=>
   simp only [hb,Qin] at h;obtain rfl:=Qil hb;obtain ⟨ti,a4,a1⟩:=XJ hk (by simp);obtain ⟨hu,a9,inf,al,ax⟩:=(hT t ti a4).ksl _ _ a1;obtain ⟨q,h,hp⟩:=Qm h;refine ⟨_,h,fun hg=>Qn fun β S st a w hR hO hA=>?_⟩;have bi:=(a5▸hO.at bd).d_inv;obtain ⟨m,rfl,rfl,an⟩:=Q3N (hp hg);have hq:=Mq an;rcases J9 ba fun y hy=>hO.at (au y hy) with ⟨_,hn⟩ | ⟨yh,kh,mh,rfl,e1,az⟩
   ·cases hn
   rcases J9 bb fun y hy=>hO.at (by injection hy with hy;subst hy;exact bj) with ⟨_,hn⟩ | ⟨ym,km,mm,e3,e2,a3⟩
   ·cases hn
   injection e1 with e1
   injection e2 with e2
   injection e3 with e3
   subst e1 e2 e3;have ao:∀ (ad:Option Addr) (cap:Nat),rows.length<=cap->a.eval x = .slice ad rows.length cap->(execOp a.eval o).run P w = .ok (.value (.slice (if q.2=q.1 then ad else ad.map (·.add (q.1*s))) (q.2-q.1) (q.2-q.1))) w:=by
    intro ad cap hc hx;have hb:=Bg (P:=P) hc (ρ:=a.eval) (w:=w) an (J9 a8 fun y hy=>hO.at (ar y hy)) az a3;unfold execOp;rw [ho];simp only [hx,Qim,Instr.sliceAt,QV hu,Qii,Option.map_some];simp only [Instr.slice,Qim,QV hu,Qii,hb,sizeOf,YE al,ax];rfl
   have bv:q.2<=rows.length:=by
    have h3:=hq.2.2.1;rw [hq.2.2.2];simp only [Option.getD_some] at h3 ⊢;omega
   have aj:(cut rows q).length=q.2-q.1:=by
    unfold cut;simp;omega
   generalize hv:a.eval x=v at bi ao;have aw:∀ (ad:Option Addr),Rd S w (.slice ad (q.2-q.1) (q.2-q.1)) (.sl s (cut rows q))->RdA β S (look st.h) w (tmv a) (.slice ad (q.2-q.1) (q.2-q.1)) (.fs s (cut rows q)):=by
    intro ad hr;have:=RdA.fs (β:=β) (h:=look st.h) (tm:=tmv a) ad s (cut rows q) (by rw [aj];exact hr);rw [aj] at this;exact this
   cases bi with
   |sl0 ad cap _=>
    refine ⟨_,ao ad cap (Nat.zero_le _) rfl,aw _ ?_⟩;have:cut ([]:List (List D)) q=[]:=by simp [cut]
    rw [this];have h0:q.2-q.1=0:=by rw [this] at aj;simpa using aj.symm
    rw [h0];exact .sl0 _ _ _
   |sl ad cap _ _ c hS a7 bc hc hr=>
    refine ⟨_,ao (some ad) cap a7 rfl,aw _ ?_⟩;by_cases h0:q.2-q.1=0
    ·have:cut rows q=[]:=Qis (by rw [aj,h0]);rw [this,h0];exact .sl0 _ _ _
    ·have bk:q.2≠q.1:=by omega
     rw [Qiv bk];have:=Rd.sl (S:=S) (w:=w) (ad.add (q.1*s)) (q.2-q.1) s (cut rows q) (fun i j=>c (q.1+i) j) (by rw [JO];exact hS) (by rw [aj];exact QiG _) (fun i r ak=>bc _ _ (ER ak).2) (fun i j r y ak hy=>by
      have:=hc (q.1+i) j r y (ER ak).2 hy;rw [Bm,<- QiN,<- Nat.add_mul];exact this) (fun i j r y ak hy=>hr (q.1+i) j r y (ER ak).2 hy)
     rw [aj] at this;exact this
 ·rename_i e bh hk a5;obtain ⟨ti,a4,a1⟩:=XJ hk (by simp);obtain ⟨hu,a9,inf,al,ax⟩:=(hT t ti a4).ksl _ _ a1;obtain ⟨q,h,hp⟩:=Qm h;refine ⟨_,h,fun hg=>Qn fun β S st a w hR hO hA=>?_⟩;have hx:=(a5▸hO.at bd).nil_inv;obtain ⟨m,rfl,rfl,an⟩:=Q3N (hp hg);have hq:=Mq an;rcases J9 ba fun y hy=>hO.at (au y hy) with ⟨_,hn⟩ | ⟨yh,kh,mh,rfl,e1,az⟩
  ·cases hn
  rcases J9 bb fun y hy=>hO.at (by injection hy with hy;subst hy;exact bj) with ⟨_,hn⟩ | ⟨ym,km,mm,e3,e2,a3⟩
  ·cases hn
  injection e1 with e1
  injection e2 with e2
  injection e3 with e3
  subst e1 e2 e3;have hb:=Bg (P:=P) (QiG 0) (ρ:=a.eval) (w:=w) an (J9 a8 fun y hy=>hO.at (ar y hy)) az a3;have h0:q.2-q.1=0:=by
   obtain ⟨q1,q2,q3,q4⟩:=hq;rw [q4];simp only [Option.getD_some] at q2 q3 ⊢;omega
  refine ⟨.slice none 0 0,?_,.fs none _ [] (.sl0 _ _ _)⟩;unfold execOp;rw [ho];simp only [hx,Qim,Instr.sliceAt,QV hu,Qii,Option.map_some];simp only [Instr.slice,Qim,QV hu,Qii,hb,sizeOf,YE al,ax,h0,Option.map_none,ite_self];rfl
 ·cases h
end

end Go.Vx
