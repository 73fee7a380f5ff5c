/- Part of a proof. No conditions of their own. -/
import Derived.Orders
import Derived.Below
import Derived.Laws.StructEq
import Derived.Laws.Strings3
import Derived.Laws.Concat
import Derived.Laws.BytesString
import Derived.Laws.Shifts
import Derived.Laws.Slices
import Derived.Laws.Cells
import Derived.Laws.Rows
import Derived.Tactics2
import Derived.WideLaws
import Derived.Laws.AppendOwn
import Derived.Maps.AppendAt
import Derived.ArgAppend
import Derived.Lib.ConvBytes
import Derived.Carry
set_option linter.unusedVariables false
set_option linter.unusedSimpArgs false
noncomputable section
abbrev Qp7:=@Go.Result.andThen_ok
abbrev Qp8:=@List.getElem?_eq_some_iff
abbrev Qp9:=@Bool.and_eq_true
abbrev Qpa:=@Nat.eq_of_beq_eq_true
abbrev Qpb:=@Go.Sem.run_bind
abbrev Qpc:=@cond_true
abbrev Qpd:=@Option.map_eq_some_iff
abbrev Qpe:=@Nat.mul_le_mul_right
abbrev Qpf:=@Go.ByteArray.toList_eq
abbrev Qpg:=@List.mem_of_getElem?
abbrev Qph:=@List.eq_nil_of_length_eq_zero
abbrev Qpi:=@List.getElem?_map
abbrev Qpj:=@Nat.le_of_ble_eq_true
abbrev Qpk:=@if_neg
abbrev Qpl:=@Array.length_toList
abbrev Qpm:=@Array.getElem?_eq_some_iff
abbrev Qpn:=@List.getElem?_eq_getElem
abbrev Qpo:=@if_pos
abbrev Qpp:=@Go.MapKept.run_getObj_map
abbrev Qpq:=@List.mem_cons
abbrev Qpr:=@List.all_eq_true
abbrev Qps:=@List.getElem?_set_self
abbrev Qpt:=@List.getElem?_set_ne
abbrev Qpu:=@Go.Sem.run_pure
abbrev Qpv:=@Nat.le_refl
abbrev Qpw:=@Nat.mul_le_mul_left
abbrev Qpx:=@List.length_cons
abbrev Qpy:=@Nat.lt_of_lt_of_le
abbrev Qpz:=@List.mem_append
abbrev QpA:=@Nat.succ_mul
abbrev QpB:=@List.map_cons
abbrev QpC:=@Nat.add_assoc
abbrev oP:=Option
abbrev Y:=List
theorem I{p:Prop}(h:p:=by omega):p:=h
theorem Q1{p:Prop}(h:p:=by decide):p:=h
theorem Q2{p:Prop}(h:p:=by simp):p:=h
theorem Q3{p:Prop}(h:p:=by simp;omega):p:=h
theorem Q4{p:Prop}(h:p:=by simp_all):p:=h
theorem Q5(p:Prop)[Decidable p](h:¬p:=by omega):decide p=false:=decide_eq_false h
theorem Q6(p:Prop)[Decidable p](h:p:=by omega):decide p=true:=decide_eq_true h
namespace Go.Vx
inductive D where
 |int (k:IntKind) (n:Int)
 |bool (b:Bool)
 |str (s:List UInt8)
 |sl (size:Nat) (rows:List (List D))
  |nl
inductive AV where
 |top
 |d (x:D)
 |nil
 |ag (l:List AV)
 |tup (l:List AV)
 |ptr (l off:Nat)
 |el (row:List D) (off:Nat)
 |arr (l:Nat)
 |ap (l i off:Nat)
 |gd (t:Nat) (w:Bool) (av:AV)
 |fn (f:Nat) (cap:List AV)
 |fs (s:Nat) (rows:List (List D))
 |sa (l t:Nat)
 |mpd (f:Int->List (List D))
 |ex (v:Value)
inductive Ob where
 |box (cells:List AV)
 |arr (elem size:Nat) (rows:List (List D))
 |mp (t:Nat) (f:Int->Bool)
structure St where
 n:Nat
 tm:List (Nat×AV)
 h:List (Nat×Ob)
def look{α:Type}:Y (Nat×α)->Nat->oP α
 |[],_=>none
 |(k,a)::r,t=>bif Nat.beq k t then some a else look r t
def rem{α:Type}(l:Nat):Y (Nat×α)->Y (Nat×α)
 |[]=>[]
 |(k,a)::r=>bif Nat.beq k l then rem l r else(k,a)::rem l r
def MD(h:Y (Nat×Ob)):Y (Nat×oP Ob)->Y (Nat×Ob)
 |[]=>h
 |(l,some o)::r=>MD ((l,o)::rem l h) r
 |(l,none)::r=>MD (rem l h) r
def Pu:Value->AV
 |.int k n=>.d (.int k n)
 |.bool b=>.d (.bool b)
 |.string s=>.d (.str s.data.toList)
 |.slice none 0 0=>.nil
 |_=>.top
inductive Kd where
 |int (k:IntKind)
 |bool
 |str
 |sl (e esz:Nat)
 |struct
 |array (e esz n:Nat)
 |ptr
 |mapI
 |mpb
 |other
structure TyI where
 kd:Kd
 size:Nat
 bytes:Nat
 zero:List Value
 zd:List D
 fields:List (Nat×Nat)
 eqk:oP (List Kd)
abbrev TT:=Y (Nat×TyI)
structure Dl where
 v:AV
 wr:List (Nat×oP Ob)
 rd:List Nat
def lkT(tm:Y (Nat×AV))(t:Nat):AV:=(look tm t).getD .top
def evO(tm:Y (Nat×AV)):Operand->AV
 |.tmp t=>lkT tm t
 |.const v=>Pu v
 |.global _=>.top
 |.func f=>.fn f []
def bw(e w:Bool):Bool:=bif w then e else !e
def ctx(tm:Y (Nat×AV)):Nat->Nat->Bool->oP (Bool×Y (Nat×Bool))
 |0,_,_=>none
 |f+1,s,w=>
  match lkT tm s with
  |.d (.bool e)=>some (bw e w,[(s,w)])
  |.gd s' w' (.d (.bool e))=>
   match ctx tm f s' w' with
   |some (g,l)=>some (g&&bw e w,(s,w)::l)
   |none=>none
  |_=>none
def QeH:Y (Nat×Bool)->Nat->Bool->Bool
 |[],_,_=>false
 |(a,b)::r,s,w=>(Nat.beq a s&&(b == w))||QeH r s w
def unw(l:Y (Nat×Bool)):AV->AV
 |.gd s w av=>bif QeH l s w then av else .gd s w av
 |av=>av
section
variable{R:Type}
def orZ{α:Type}(g:Bool)(p:oP α)(z:α):oP α:=
 match p with
 |some a=>some a
 |none=>bif g then none else some z
def gb{α:Type}(g:Bool)(p:oP α)(z:α)(k:α->oP R):oP R:=Option.bind (orZ g p z) k
def Qk(k:IntKind):D->oP Int
 |.int k' n=>bif k == k' then some n else none
 |_=>none
def PD:D->oP Bool
 |.bool b=>some b
 |_=>none
def Vp:D->oP (Y UInt8)
 |.str s=>some s
 |_=>none
def pSl(size:Nat):D->oP (Y (Y D))
 |.sl s rows=>bif Nat.beq s size then some rows else none
 |_=>none
def Jo:Y AV->Bool
 |[]=>true
 |.ptr ..::r=>Jo r
 |.d _::r=>Jo r
 |_=>false
def Q0V:AV->Bool
 |.gd ..=>false
 |.fn _ l=>Jo l
 |.ag _=>false
 |.tup _=>false
 |_=>true
def prj(g:Bool)(kd:Kd)(av:AV)(k:AV->oP R):oP R:=
 match av with
 |.d x=>
  match kd with
  |.int ik=>gb g (Qk ik x) 0 λn=>k (.d (.int ik n))
  |.bool=>gb g (PD x) false λb=>k (.d (.bool b))
  |.str=>gb g (Vp x) [] λs=>k (.d (.str s))
  |.sl _ esz=>gb g (pSl esz x) [] λr=>k (.d (.sl esz r))
  |_=>none
 |av=>bif Q0V av then k av else none
def Q1n(g:Bool)(row:Y D):Nat->Nat->(Y AV->oP R)->oP R
 |_,0,k=>k []
 |off,n+1,k=>gb g row[off]? (.bool false) λc=>Q1n g row (off+1) n λcs=>k (.d c::cs)
def BH(cells:Y AV):Nat->Nat->oP (Y AV)
 |_,0=>some []
 |off,n+1=>
  match cells[off]? with
  |some c=>match BH cells (off+1) n with
   |some r=>bif Q0V c then some (c::r)else none
   |none=>none
  |none=>none
def Ru:Kd->Bool
 |.struct=>true
 |_=>false
def UV:Kd->Bool
 |.struct=>true
 |.array ..=>true
 |_=>false
def Ns{α:Type}:Nat->Nat->Y α->Y (Y α)
 |0,_,_=>[]
 |n+1,s,l=>l.take s::Ns n s (l.drop s)
def SY{α:Type}(l:Y α)(n:Nat):oP Unit:=bif Nat.beq l.length n then some ()else none
def Q3h:AV->Bool
 |.d _ | .nil | .ptr .. | .el .. | .arr _ | .ap ..=>true
 |.fn _ l=>Jo l
 |_=>false
def Ms(cells:Y AV):Nat->Y AV->oP (Y AV)
 |_,[]=>some cells
 |off,v::r=>bif Q3h v&&Nat.ble (off+1) cells.length then Ms (cells.set off v) (off+1) r else none
def Qev:Y AV->oP (Y D)
 |[]=>some []
 |.d x::r=>match Qev r with | some l=>some (x::l) | none=>none
 |_::_=>none
def Vi(tm:Operand->AV):Y (Nat×Operand)->Y (Nat×AV)
 |[]=>[]
 |(i,x)::r=>(i,tm x)::Vi tm r
def Y1:AV->Y AV
 |.ag l=>l
 |.fs s rows=>[.d (.sl s rows)]
 |v=>[v]
def Q12(fields:Y (Nat×Nat))(tt:TT):Y AV->Y (Nat×AV)->oP (Y AV)
 |cells,[]=>some cells
 |cells,(i,v)::r=>
  match fields[i]? with
  |some (off,t)=>match look tt t with
   |some ti=>bif Nat.beq (Y1 v).length ti.size&&Nat.ble (off+ti.size) cells.length then
     match Ms cells off (Y1 v)with
     |some cs=>Q12 fields tt cs r
     |none=>none
    else none
   |none=>none
  |none=>none
def Dm(ti:TyI):Y AV:=ti.zero.map Pu
def Q6l(aa t:Nat):Value->AV
 |.pointer none=>.sa aa t
 |v=>Pu v
def Q1u(aa t:Nat)(ti:TyI):Y AV:=ti.zero.map (Q6l aa t)
def Q77(op:BinOp)(k:IntKind)(a b:Int):oP D:=
 match op with
 |.add=>some (.int k (k.wrap (a+b)))
 |.sub=>some (.int k (k.wrap (a-b)))
 |.mul=>some (.int k (k.wrap (a*b)))
 |.eql=>some (.bool (a == b))
 |.neq=>some (.bool (a != b))
 |.lss=>some (.bool (decide (a<b)))
 |.leq=>some (.bool (decide (a<=b)))
 |.gtr=>some (.bool (decide (a>b)))
 |.geq=>some (.bool (decide (a>=b)))
 |_=>none
def nz(b:Int):oP Unit:=bif b == 0 then none else some ()
def Ac(b:Int):oP Unit:=bif decide (0<=b)then some ()else none
def Q8i(n:Nat):oP Unit:=bif Nat.ble n 9223372036854775807 then some ()else none
def Q7f(k:IntKind)(a b:Int):Int:=k.wrap ((BitVec.ofInt k.bits a &&& BitVec.ofInt k.bits b).toNat)
def bOr(k:IntKind)(a b:Int):Int:=k.wrap ((BitVec.ofInt k.bits a ||| BitVec.ofInt k.bits b).toNat)
def Qih(k:IntKind)(a b:Int):Int:=k.wrap ((BitVec.ofInt k.bits a ^^^ BitVec.ofInt k.bits b).toNat)
def QfU(k:IntKind)(a:Int):Int:=Qih k (if k.signed then -1 else k.max) a
def Q8H(k:IntKind)(a b:Int):Int:=k.wrap ((BitVec.ofInt k.bits a &&& ~~~(BitVec.ofInt k.bits b)).toNat)
def shL(k:IntKind)(a b:Int):Int:=k.wrap (a*2 ^ min b.toNat k.bits)
def shR(k:IntKind)(a b:Int):Int:=a.fdiv (2 ^ min b.toNat k.bits)
def QgK(a b:Y UInt8):Bool:=Op.bytesLess a b||a == b
def Q59(g:Bool):Y Kd->Y AV->Y AV->(Y Bool->oP R)->oP R
 |[],[],[],k=>k []
 |kd::ks,.d a::xs,.d b::ys,k=>
  match kd with
  |.int ik=>gb g (Qk ik a) 0 λm=>gb g (Qk ik b) 0 λn=>Q59 g ks xs ys λr=>k ((m == n)::r)
  |.bool=>gb g (PD a) false λm=>gb g (PD b) false λn=>Q59 g ks xs ys λr=>k ((m == n)::r)
  |.str=>gb g (Vp a) [] λm=>gb g (Vp b) [] λn=>Q59 g ks xs ys λr=>k ((m == n)::r)
  |_=>none
 |_,_,_,_=>none
def Qbk:Y Bool->Bool
 |[]=>true
 |[b]=>b
 |b::r=>b&&Qbk r
def Qiu(g:Bool)(op:BinOp)(a b:Y UInt8)(k:AV->oP R):oP R:=
 match op with
 |.add=>gb g (Q8i (a.length+b.length)) () λ_=>k (.d (.str (a++b)))
 |.eql=>k (.d (.bool (a == b)))
 |.neq=>k (.d (.bool (!(a == b))))
 |.lss=>k (.d (.bool (Op.bytesLess a b)))
 |.leq=>k (.d (.bool (QgK a b)))
 |.gtr=>k (.d (.bool (!QgK a b)))
 |.geq=>k (.d (.bool (!Op.bytesLess a b)))
 |_=>none
def neL{α:Type}:Y α->oP Unit
 |[]=>none
 |_=>some ()
def QiZ(g:Bool)(op:BinOp)(kd:Kd)(eqk:oP (Y Kd))(x y:AV)(k:AV->oP R):oP R:=
 match x,y with
 |.nil,.nil=>
  match kd,op with
  |.sl ..,.eql=>k (.d (.bool true))
  |_,_=>none
 |.d (.sl _ r),.nil=>
  match kd,op with
  |.sl ..,.eql=>gb g (neL r) () λ_=>k (.d (.bool false))
  |_,_=>none
 |.d (.int ka a),.d (.int kb b)=>
  match op with
  |.shl=>gb g (Ac b) () λ_=>k (.d (.int ka (shL ka a b)))
  |.shr=>gb g (Ac b) () λ_=>k (.d (.int ka (shR ka a b)))
  |op=>bif ka == kb then
   match op with
   |.quo=>gb g (nz b) () λ_=>k (.d (.int ka (ka.wrap (a.tdiv b))))
   |.rem=>gb g (nz b) () λ_=>k (.d (.int ka (a.tmod b)))
   |.and=>k (.d (.int ka (Q7f ka a b)))
   |.or=>k (.d (.int ka (bOr ka a b)))
   |.xor=>k (.d (.int ka (Qih ka a b)))
   |.andNot=>k (.d (.int ka (Q8H ka a b)))
   |_=>match Q77 op ka a b with
    |some r=>k (.d r)
    |none=>none
  else none
 |.d (.bool a),.d (.bool b)=>
  match kd,op with
  |.bool,.eql=>k (.d (.bool (a == b)))
  |.bool,.neq=>k (.d (.bool (!(a == b))))
  |_,_=>none
 |.d (.str a),.d (.str b)=>Qiu g op a b k
 |.ag xs,.ag ys=>
  match eqk with
  |some ks=>match op with
   |.eql=>Q59 g ks xs ys λbs=>k (.d (.bool (Qbk bs)))
   |.neq=>Q59 g ks xs ys λbs=>k (.d (.bool (!Qbk bs)))
   |_=>none
  |none=>none
 |_,_=>none
def Zj(s:Y UInt8)(n:Int):oP Int:=bif decide (0<=n)then(s[n.toNat]?).map λb=>(b.toNat:Int)else none
def slB(len:Nat)(lo hi:oP Int):oP (Nat×Nat):=
 bif decide (0<=lo.getD 0)&&(decide (lo.getD 0<=hi.getD len)&&decide (hi.getD len<=len))then some ((lo.getD 0).toNat,(hi.getD len).toNat)else none
def QhO(len:Nat)(lo hi mx:oP Int):oP (Nat×Nat):=
 match hi,mx with
 |some h,some m=>bif decide (h=m)then slB len lo (some h)else none
 |_,_=>none
def cut{α:Type}(l:Y α)(q:Nat×Nat):Y α:=(l.drop q.1).take (q.2-q.1)
def Qi(rows:Y (Y D))(n:Int):oP (Y D):=bif decide (0<=n)then rows[n.toNat]? else none
def inB(len:Nat)(n:Int):oP Unit:=bif decide (0<=n)&&decide (n<len)then some ()else none
def Q0X(esz:Nat)(hl:Nat->oP Ob):AV->oP (Y (Y D)×Y Nat)
 |.d (.sl s rows)=>bif Nat.beq s esz then some (rows,[])else none
 |.nil=>some ([],[])
 |.arr l=>match hl l with
  |some (.arr _ s rows)=>bif Nat.beq s esz then some (rows,[l])else none
  |_=>none
 |_=>none
end
abbrev oF:D:=.bool false
abbrev pIw:=Qk .i64
abbrev wJ:=IntKind.wrap .i64
abbrev Ql(x:Int):D:=.int .i64 x
abbrev Q5R:=(R:Type)->Nat->Nat->Bool->Y AV->(Nat->oP Ob)->(Dl->oP R)->oP R
section
variable{R:Type}
def TZ(tt:TT)(t:Nat):Kd:=
 match look tt t with
 |some ti=>ti.kd
 |none=>.other
def Qec(tt:TT)(t:Nat):oP (Y Kd):=
 match look tt t with
 |some ti=>ti.eqk
 |none=>none
def M4(ev:Operand->AV):oP Operand->oP (oP Int)
 |none=>some none
 |some x=>match ev x with
  |.d (.int _ n)=>some (some n)
  |_=>none
def Qb7(tt:TT)(g:Bool)(t:Nat)(x i:AV)(k:Dl->oP R):oP R:=
 match TZ tt t,x,i with
 |.str,.d (.str s),.d (.int _ n)=>gb g (Zj s n) 0 λb=>k ⟨.d (.int .u8 b),[],[]⟩
 |_,_,_=>none
def Q9f(tt:TT)(g:Bool)(t:Nat)(x:AV)(lo hi:oP (oP Int))(k:Dl->oP R):oP R:=
 match lo,hi with
 |some lo,some hi=>
  match TZ tt t,x with
  |.str,.d (.str s)=>gb g (slB s.length lo hi) (0,0) λq=>k ⟨.d (.str (cut s q)),[],[]⟩
  |.sl _ esz,.d (.sl s rows)=>bif Nat.beq s esz then gb g (slB rows.length lo hi) (0,0) λq=>k ⟨.d (.sl esz (cut rows q)),[],[]⟩else none
  |.sl _ _,.nil=>gb g (slB 0 lo hi) (0,0) λ_=>k ⟨.nil,[],[]⟩
  |_,_=>none
 |_,_=>none
def Q5g(tt:TT)(g:Bool)(t:Nat)(x:AV)(lo hi mx:oP (oP Int))(k:Dl->oP R):oP R:=
 match lo,hi,mx with
 |some lo,some hi,some mx=>
  match TZ tt t,x with
  |.sl _ esz,.d (.sl s rows)=>bif Nat.beq s esz then gb g (QhO rows.length lo hi mx) (0,0) λq=>k ⟨.fs esz (cut rows q),[],[]⟩else none
  |.sl _ esz,.nil=>gb g (QhO 0 lo hi mx) (0,0) λ_=>k ⟨.fs esz [],[],[]⟩
  |_,_=>none
 |_,_,_=>none
def Dc:Y (Y D)->oP (Y UInt8)
 |[]=>some []
 |[.int .u8 n]::r=>match Dc r with
  |some l=>some (UInt8.ofNat n.toNat::l)
  |none=>none
 |_=>none
mutual
def Rm:AV->Bool
 |.d (.int ..)=>true
 |.d (.bool _)=>true
 |.d (.str _)=>true
 |.d (.sl ..)=>false
 |.ag l=>NC l
 |.tup l=>NC l
 |.fn ..=>false
 |.fs ..=>false
 |.mpd _=>false
 |.el ..=>false
 |.gd ..=>false
 |_=>true
def NC:Y AV->Bool
 |[]=>true
 |a::r=>Rm a&&NC r
end
def Q9o:oP Ob->Bool
 |some (.box cells)=>NC cells
 |some (.arr ..)=>false
 |some (.mp ..)=>false
 |none=>true
def Bz:Y (Nat×oP Ob)->Bool
 |[]=>true
 |(_,o)::r=>Q9o o&&Bz r
def Q83(hl:Nat->oP Ob):AV->oP (AV×Y Nat)
 |.arr l=>match hl l with
  |some (.arr _ size rows)=>some (.d (.sl size rows),[l])
  |_=>none
 |av=>bif Q0V av then some (av,[])else none
def C1(hl:Nat->oP Ob):Y AV->oP (Y AV×Y Nat)
 |[]=>some ([],[])
 |a::r=>match Q83 hl a with
  |some (a',l)=>match C1 hl r with
   |some (r',l')=>some (a'::r',l++l')
   |none=>none
  |none=>none
def N4(hl:Nat->oP Ob):AV->oP (AV×Y Nat)
 |.ag cs=>match C1 hl cs with
  |some (aa,l)=>some (.ag aa,l)
  |none=>none
 |av=>Q83 hl av
def N0(hl:Nat->oP Ob):Y AV->oP (Y AV×Y Nat)
 |[]=>some ([],[])
 |a::r=>match N4 hl a with
  |some (a',l)=>match N0 hl r with
   |some (r',l')=>some (a'::r',l++l')
   |none=>none
  |none=>none
def QaS:Y D->Y AV->oP (Y D)
 |[],[]=>some []
 |z::zs,a::r=>
  match QaS zs r with
  |some l=>match a with
   |.d x=>some (x::l)
   |.nil=>match z with
    |.sl e []=>some (.sl e []::l)
    |.nl=>some (.nl::l)
    |_=>none
   |_=>none
  |none=>none
 |_,_=>none
def M1(tt:TT)(t:Nat):Y D:=
 match look tt t with
 |some ti=>ti.zd
 |none=>[]
def Lq(z:Y D):Y (Y D)->Y (Nat×AV)->oP (Y (Y D))
 |rows,[]=>some rows
 |rows,(i,v)::r=>
  match QaS z (Y1 v)with
  |some row=>bif Nat.ble (i+1) rows.length then Lq z (rows.set i row) r else none
  |none=>none
def Qdn(row:Y D):Nat->Y D->Y D
 |_,[]=>row
 |off,x::r=>Qdn (row.set off x) (off+1) r
def Y5(n:Nat):oP Unit:=bif Nat.ble n 140737488355328 then some ()else none
def Qf2(tt:TT)(g:Bool)(hl:Nat->oP Ob)(t:Nat)(a:AV)(k:Dl->oP R):oP R:=
 match look tt t with
 |some ti=>
  match a with
  |.ptr l off=>match hl l with
   |some (.box cells)=>
    bif UV ti.kd then
     match BH cells off ti.size with
     |some cs=>k ⟨.ag cs,[],[l]⟩
     |none=>none
    else match cells[off]? with
     |some c=>prj g ti.kd c λv=>k ⟨v,[],[l]⟩
     |none=>none
   |_=>none
  |.el row off=>
   bif UV ti.kd then Q1n g row off ti.size λcs=>k ⟨.ag cs,[],[]⟩
   else gb g row[off]? (.bool false) λc=>prj g ti.kd (.d c) λv=>k ⟨v,[],[]⟩
  |.ap l i off=>match hl l with
   |some (.arr _ _ rows)=>
    gb g rows[i]? [] λrow=>
     bif UV ti.kd then Q1n g row off ti.size λcs=>k ⟨.ag cs,[],[l]⟩
     else gb g row[off]? (.bool false) λc=>prj g ti.kd (.d c) λv=>k ⟨v,[],[l]⟩
   |_=>none
  |_=>none
 |none=>none
def QaQ(tt:TT)(hl:Nat->oP Ob)(t:Nat)(a v:AV)(k:Dl->oP R):oP R:=
 match look tt t with
 |some ti=>
  bif Nat.beq (Y1 v).length ti.size then
   match a with
   |.ptr l off=>match hl l with
    |some (.box cells)=>match Ms cells off (Y1 v)with
     |some cs=>k ⟨.top,[(l,some (.box cs))],[l]⟩
     |none=>none
    |_=>none
   |.ap l i off=>match hl l with
    |some (.arr e size rows)=>match Qev (Y1 v)with
     |some ds=>gb true rows[i]? [] λrow=>bif Nat.ble (off+ds.length) size then k ⟨.top,[(l,some (.arr e size (rows.set i (Qdn row off ds))))],[l]⟩else none
     |none=>none
    |_=>none
   |_=>none
  else none
 |none=>none
def Q6v(hl:Nat->oP Ob)(esz n l:Nat)(v:AV)(k:Dl->oP R):oP R:=
 match hl l with
 |some (.arr e s rows)=>
  bif Nat.beq s esz then
   match Qev (Y1 v)with
   |some ds=>bif Nat.beq ds.length (n*esz)then gb true (SY rows n) () λ_=>k ⟨.top,[(l,some (.arr e s (Ns n esz ds)))],[l]⟩else none
   |none=>none
  else none
 |_=>none
def LR(g:Bool)(hl:Nat->oP Ob)(esz n l:Nat)(i:AV)(k:Dl->oP R):oP R:=
 match i,hl l with
 |.d (.int _ x),some (.arr _ s _)=>bif Nat.beq s esz then gb g (inB n x) () λ_=>k ⟨.ap l x.toNat 0,[],[l]⟩else none
 |_,_=>none
def Q8u(s:Y UInt8):Y (Y D):=s.map λb=>[D.int .u8 (b.toNat:Int)]
def QaP(tt:TT)(g:Bool)(t f:Nat)(x:AV)(k:Dl->oP R):oP R:=
 match look tt t with
 |some ti=>bif Ru ti.kd then match ti.fields[f]? with
   |some (off,ft)=>match look tt ft with
    |some fi=>match x with
     |.ag cells=>
      bif UV fi.kd then
       match BH cells off fi.size with
       |some cs=>k ⟨.ag cs,[],[]⟩
       |none=>none
      else match cells[off]? with
       |some c=>prj g fi.kd c λv=>k ⟨v,[],[]⟩
       |none=>none
     |_=>none
    |none=>none
   |none=>none
  else none
 |none=>none
def DB(tt:TT)(hl:Nat->oP Ob)(t f:Nat)(x:AV)(k:Dl->oP R):oP R:=
 match look tt t with
 |some ti=>bif Ru ti.kd then match ti.fields[f]? with
   |some (off,_)=>match x with
    |.ptr l o=>k ⟨.ptr l (o+off),[],[]⟩
    |.el row o=>k ⟨.el row (o+off),[],[]⟩
    |.ap l i o=>match hl l with
     |some (.arr ..)=>k ⟨.ap l i (o+off),[],[l]⟩
     |_=>none
    |_=>none
   |none=>none
  else none
 |none=>none
def Dh(tt:TT)(g:Bool)(hl:Nat->oP Ob)(t:Nat)(x i:AV)(k:Dl->oP R):oP R:=
 match TZ tt t,i with
 |.sl _ esz,.d (.int _ n)=>
  match x with
  |.d (.sl s rows)=>bif Nat.beq s esz then gb g (Qi rows n) [] λrow=>k ⟨.el row 0,[],[]⟩else none
  |.arr l=>match hl l with
   |some (.arr _ s rows)=>bif Nat.beq s esz then gb g (inB rows.length n) () λ_=>k ⟨.ap l n.toNat 0,[],[l]⟩else none
   |_=>none
  |.nil=>gb g (Qi [] n) [] λrow=>k ⟨.el row 0,[],[]⟩
  |_=>none
 |_,_=>none
def QiN(tt:TT)(hl:Nat->oP Ob)(t:Nat)(x:AV):oP (Int×Y Nat):=
 match TZ tt t with
 |.sl _ _=>match x with
  |.d (.sl _ rows)=>some (rows.length,[])
  |.nil=>some (0,[])
  |.arr l=>match hl l with
   |some (.arr _ _ rows)=>some (rows.length,[l])
   |_=>none
  |_=>none
 |.str=>match x with
  |.d (.str s)=>some (s.length,[])
  |_=>none
 |_=>none
def Bq(isMin:Bool):AV->Y AV->oP AV
 |a,[]=>some a
 |.d (.int k a),.d (.int k' b)::r=>bif k == k' then Bq isMin (.d (.int k (bif isMin then(if b<a then b else a)else(if a<b then b else a)))) r else none
 |_,_=>none
def EQ(hl:Nat->oP Ob)(aa:Nat)(o:Ob)(v:AV)(wr:Y (Nat×oP Ob))(rd:Y Nat)(k:Dl->oP R):oP R:=
 match hl aa with
 |none=>k ⟨v,wr++[(aa,some o)],rd⟩
 |some _=>none
def Q2g(tt:TT)(hl:Nat->oP Ob)(aa:Nat)(g:Bool)(t tn:Nat)(s x:AV)(k:Dl->oP R):oP R:=
 match TZ tt t,TZ tt tn,s,x with
 |.sl e esz,.int _,.nil,.d (.int _ n)=>match look tt e with
  |some ei=>
   bif Nat.ble 1 ei.bytes&&Nat.beq (M1 tt e).length esz then
   gb g (bif decide (0<n)then some ()else none) () λ_=>
   gb g (Y5 (n.toNat*ei.bytes)) () λ_=>EQ hl aa (.arr e esz (List.replicate n.toNat (M1 tt e))) (.arr aa) [] [] k
   else none
  |none=>none
 |_,_,_,_=>none
def Q7K(f:Int->Bool)(n:Int)(b:Bool):Int->Bool:=λm=>bif decide (m=n)then b else f m
def Qj1(tt:TT)(hl:Nat->oP Ob)(aa:Nat)(u:Bool)(t l:Nat)(lo hi:oP (oP Int))(k:Dl->oP R):oP R:=
 match TZ tt t,lo,hi with
 |.sl e esz,some none,some (some h0)=>bif u&&decide (h0=0)then match hl l with
   |some (.arr e' s' _)=>bif Nat.beq e e'&&Nat.beq esz s' then EQ hl aa (.arr e esz []) (.arr aa) [(l,none)] [l] k else none
   |_=>none
  else none
 |_,_,_=>none
def Q6e(tt:TT)(aa:Nat)(g:Bool)(hl:Nat->oP Ob)(t:Nat)(s x:AV)(k:Dl->oP R):oP R:=
 match TZ tt t with
 |.sl e esz=>match look tt e with
  |some ei=>
   bif Nat.ble 1 ei.bytes&&Nat.beq ei.zero.length esz then
   match Q0X esz hl x with
   |some (news,rx)=>
    match s with
    |.nil=>gb g (Y5 (news.length*ei.bytes)) () λ_=>EQ hl aa (.arr e esz news) (.arr aa) [] rx k
    |.fs s0 rows=>bif Nat.beq s0 esz then gb g (neL news) () λ_=>gb g (Y5 ((rows.length+news.length)*ei.bytes)) () λ_=>EQ hl aa (.arr e esz (rows++news)) (.arr aa) [] rx k else none
    |.arr l=>match hl l with
     |some (.arr e' s' rows)=>bif Nat.beq e e'&&Nat.beq esz s' then
       gb g (Y5 ((rows.length+news.length)*ei.bytes)) () λ_=>EQ hl aa (.arr e esz (rows++news)) (.arr aa) [(l,none)] (l::rx) k
      else none
     |_=>none
    |_=>none
   |none=>none
   else none
  |none=>none
 |_=>none
def KL(tt:TT)(hl:Nat->oP Ob)(aa:Nat)(u:Bool)(t len:Nat)(ac:Y (Nat×AV))(k:Dl->oP R):oP R:=
 match TZ tt t with
 |.sl e esz=>
  bif Nat.ble (len*esz) 16777216&&(look tt e).isSome&&Nat.beq (M1 tt e).length esz then
   match Lq (M1 tt e) (List.replicate len (M1 tt e)) ac with
   |some rows=>bif u then EQ hl aa (.arr e esz rows) (.arr aa) [] [] k else k ⟨.d (.sl esz rows),[],[]⟩
   |none=>none
  else none
 |_=>none
def QdF(tt:TT)(hl:Nat->oP Ob)(aa:Nat)(u:Bool)(t:Nat)(l c:AV)(k:Dl->oP R):oP R:=
 bif u then
  match TZ tt t,l,c with
  |.sl e esz,.d (.int _ n),.d (.int _ m)=>match look tt e with
   |some ei=>
    bif Nat.ble 1 ei.bytes&&Nat.beq (M1 tt e).length esz then
    gb true (bif decide (0<=n)&&decide (n<=m)then some ()else none) () λ_=>
    gb true (Y5 (m.toNat*ei.bytes)) () λ_=>EQ hl aa (.arr e esz (List.replicate n.toNat (M1 tt e))) (.arr aa) [] [] k
    else none
   |none=>none
  |_,_,_=>none
 else none
def PM(x:Nat):Y Nat->Bool
 |[]=>false
 |a::r=>Nat.beq a x||PM x r
def T1(a b:Y Nat):Bool:=a.any λx=>PM x b
def wrL(dl:Dl):Y Nat:=dl.wr.map (·.1)
mutual
def Yq(l:Nat):AV->Bool
 |.ptr a _=>Nat.beq a l
 |.arr a=>Nat.beq a l
 |.ap a _ _=>Nat.beq a l
 |.sa a _=>Nat.beq a l
 |.ag r=>G8 l r
 |.tup r=>G8 l r
 |.fn _ r=>G8 l r
 |.gd _ _ v=>Yq l v
 |_=>false
def G8(l:Nat):Y AV->Bool
 |[]=>false
 |a::r=>Yq l a||G8 l r
end
def P6(l:Nat):Y (Nat×oP Ob)->Bool
 |[]=>false
 |(_,some (.box cells))::r=>G8 l cells||P6 l r
 |_::r=>P6 l r
def BL(bs:Y Nat)(dl:Dl):Bool:=bs.all λl=>!Yq l dl.v&&!P6 l dl.wr
def Q64:D->Bool
 |.sl ..=>false
 |_=>true
def A8(rows:Y (Y D)):Bool:=rows.all λr=>r.all Q64
def Lb(l:Y (Y (Y D))):oP Unit:=bif l.all A8 then some ()else none
def Q3B:Y (Nat×oP Ob)->Y (Y (Y D))
 |[]=>[]
 |(_,some (.arr _ _ rows))::r=>rows::Q3B r
 |_::r=>Q3B r
def Qj7(tt:TT)(e:Nat):Bool:=
 match look tt e with
 |some ti=>Nat.beq ti.zd.length ti.size&&ti.zd.all Q64
 |none=>false
def EC(tt:TT):Y (Nat×oP Ob)->Bool
 |[]=>true
 |(_,some (.arr e _ _))::r=>Qj7 tt e&&EC tt r
 |(_,some (.box cells))::r=>NC cells&&EC tt r
 |(_,some (.mp ..))::_=>false
 |(_,none)::r=>EC tt r
def Vo:Y (Nat×oP Ob)->Bool
 |[]=>true
 |(_,some (.arr _ _ rows))::r=>A8 rows&&Vo r
 |(_,some (.box cells))::r=>NC cells&&Vo r
 |(_,some (.mp ..))::_=>false
 |(_,none)::r=>Vo r
def Qjx(spec:Q5R)(f:Nat):Bool:=(spec Unit f 0 false [.gd 0 true .nil] (λ_=>none) λ_=>some ()).isSome
def Qay:AV->Bool
 |.ag l=>l.all Q0V
 |a=>Q0V a
def Qcp(spec:Q5R)(tt:TT)(aa:Nat)(g u:Bool)(hl:Nat->oP Ob)(f:Nat)(args:Y AV)(k:Dl->oP R):oP R:=
 bif Qjx spec f then(bif args.all Qay then spec R f aa g args hl k else none)else
 match N0 hl args with
 |some (ac,bs)=>
  spec R f aa g ac hl λdl=>
   bif !T1 bs (wrL dl)&&(!T1 bs dl.rd&&BL bs dl)then
    bif bs.isEmpty||(Rm dl.v&&Bz dl.wr)then k ⟨dl.v,dl.wr,bs++dl.rd⟩
    else bif Rm dl.v&&EC tt dl.wr then gb g (Lb (Q3B dl.wr)) () λ_=>k ⟨dl.v,dl.wr,bs++dl.rd⟩
    else bif u then k ⟨dl.v,bs.map (λl=>(l,none))++dl.wr,bs++dl.rd⟩else none
   else none
 |none=>none
def vUn(op:UnOp)(x:AV):oP AV:=
 match op,x with
 |.not,.d (.bool b)=>some (.d (.bool !b))
 |.neg,.d (.int k n)=>some (.d (.int k (k.wrap (0-n))))
 |.xor,.d (.int k n)=>some (.d (.int k (QfU k n)))
 |_,_=>none
def cv1(hl:Nat->oP Ob)(av:AV):AV:=
 match N4 hl av with
 |some (a,_)=>a
 |none=>.top
def cvP(hl:Nat->oP Ob):Y (Nat×AV)->Y (Nat×AV)
 |[]=>[]
 |(i,a)::r=>(i,cv1 hl a)::cvP hl r
def bsP(hl:Nat->oP Ob):Y (Nat×AV)->Y Nat
 |[]=>[]
 |(_,a)::r=>match N4 hl a with
  |some (_,b)=>b++bsP hl r
  |none=>bsP hl r
def QiL(hl:Nat->oP Ob)(bs:Y Nat):Nat->oP Ob:=λk=>bif PM k bs then none else hl k
def Q5u(tt:TT)(hl:Nat->oP Ob)(ac:Nat)(u:Bool)(t len:Nat)(aa:Y (Nat×AV))(k:Dl->oP R):oP R:=
 match bsP hl aa with
 |[]=>KL tt hl ac u t len aa k
 |b::bs=>bif u then
   KL tt (QiL hl (b::bs)) ac true t len (cvP hl aa) λdl=>
    bif !T1 (b::bs) (wrL dl)&&!T1 (b::bs) dl.rd then k ⟨dl.v,(b::bs).map (λl=>(l,none))++dl.wr,(b::bs)++dl.rd⟩else none
  else none
def vdl(spec:Q5R)(tt:TT)(aa:Nat)(g u:Bool)(ev:Operand->AV)(hl:Nat->oP Ob)(op:Op)(k:Dl->oP R):oP R:=
 match op with
 |.move x=>k ⟨ev x,[],[]⟩
 |.assign x=>k ⟨ev x,[],[]⟩
 |.pick c x y=>
  match c with
  |.tmp s=>match ev (.tmp s)with
   |.d (.bool e)=>match unw [(s,true)] (ev x),unw [(s,false)] (ev y)with
    |.d (.bool a),.d (.bool b)=>k ⟨.d (.bool (bif e then a else b)),[],[]⟩
    |_,_=>none
   |_=>none
  |_=>none
 |.alloc t=>match look tt t with
  |some ti=>bif u then match ti.kd with
    |.array _ esz n=>bif Nat.beq ti.zd.length (n*esz)then EQ hl aa (.arr t esz (Ns n esz ti.zd)) (.ap aa 0 0) [] [] k else none
    |_=>EQ hl aa (.box (Q1u aa t ti)) (.ptr aa 0) [] [] k
   else none
  |none=>none
 |.box t x=>match look tt t with
  |some ti=>bif u&&(Nat.beq (Y1 (ev x)).length ti.size&&(Y1 (ev x)).all Q3h)then EQ hl aa (.box (Y1 (ev x))) (.ptr aa 0) [] [] k else none
  |none=>none
 |.build t ai=>match look tt t with
  |some ti=>bif UV ti.kd then match Q12 ti.fields tt (Dm ti) (Vi ev ai.toList)with
    |some cs=>k ⟨.ag cs,[],[]⟩
    |none=>none
   else none
  |none=>none
 |.buildSlice t len ai=>Q5u tt hl aa u t len (Vi ev ai.toList) k
 |.load t a=>Qf2 tt g hl t (ev a) k
 |.store t a v=>bif u then match TZ tt t,ev a with
   |.array _ esz n,.ap l 0 0=>Q6v hl esz n l (ev v) k
   |_,_=>QaQ tt hl t (ev a) (ev v) k
  else none
 |.nilCheck x=>match ev x with
  |.ptr l o=>k ⟨.ptr l o,[],[]⟩
  |.el r o=>k ⟨.el r o,[],[]⟩
  |.ap l i o=>match hl l with
   |some _=>k ⟨.ap l i o,[],[l]⟩
   |none=>none
  |_=>none
 |.binOp op t x y _=>QiZ g op (TZ tt t) (Qec tt t) (ev x) (ev y) λv=>k ⟨v,[],[]⟩
 |.unOp op _ x=>match vUn op (ev x)with
  |some v=>k ⟨v,[],[]⟩
  |none=>none
 |.convert s t x=>match TZ tt s,TZ tt t with
  |.int _,.int kd=>match ev x with
   |.d (.int _ n)=>k ⟨.d (.int kd (kd.wrap n)),[],[]⟩
   |_=>none
  |.sl e 1,.str=>match TZ tt e with
   |.int .u8=>match Q0X 1 hl (ev x)with
    |some (rows,rd)=>gb g (Dc rows) [] λs=>k ⟨.d (.str s),[],rd⟩
    |none=>none
   |_=>none
  |.str,.str=>match ev x with
   |.d (.str s)=>k ⟨.d (.str s),[],[]⟩
   |_=>none
  |.str,.sl e 1=>match TZ tt e with
   |.int .u8=>match ev x with
    |.d (.str s)=>k ⟨.d (.sl 1 (Q8u s)),[],[]⟩
    |_=>none
   |_=>none
  |_,_=>none
 |.makeFunc (.func f) first ac=>match first.toList with
  |[]=>bif Jo (ac.toList.map ev)then k ⟨.fn f (ac.toList.map ev),[],[]⟩else none
  |_=>none
 |.makeSlice t l c=>QdF tt hl aa u t (ev l) (ev c) k
 |.fieldAddr t x f=>DB tt hl t f (ev x) k
 |.field t x f=>QaP tt g t f (ev x) k
 |.indexAddr t x i=>match TZ tt t,ev x with
  |.array _ esz n,.ap l 0 0=>LR g hl esz n l (ev i) k
  |_,_=>Dh tt g hl t (ev x) (ev i) k
 |.index t x i=>Qb7 tt g t (ev x) (ev i) k
 |.slice t x lo hi none=>match ev x with
  |.arr l=>Qj1 tt hl aa u t l (M4 ev lo) (M4 ev hi) k
  |_=>Q9f tt g t (ev x) (M4 ev lo) (M4 ev hi) k
 |.makeMap t none=>match TZ tt t with
  |.mpb=>bif u then EQ hl aa (.mp t λ_=>false) (.arr aa) [] [] k else none
  |_=>none
 |.mapUpdate t m x v=>match TZ tt t,ev m,ev x,ev v with
  |.mpb,.arr l,.d (.int .i64 n),.d (.bool b)=>match hl l with
   |some (.mp t' f)=>bif u then k ⟨.top,[(l,some (.mp t' (Q7K f n b)))],[l]⟩else none
   |_=>none
  |_,_,_,_=>none
 |.slice t x lo hi (some mx)=>Q5g tt g t (ev x) (M4 ev lo) (M4 ev hi) (M4 ev (some mx)) k
 |.lookup t m x false=>match TZ tt t,ev m,ev x with
  |.mapI,.mpd f,.d (.int .i64 n)=>k ⟨.d (.sl 1 (f n)),[],[]⟩
  |.mpb,.arr l,.d (.int .i64 n)=>match hl l with
   |some (.mp _ f)=>k ⟨.d (.bool (f n)),[],[l]⟩
   |_=>none
  |_,_,_=>none
 |.extract x i=>match ev x with
  |.tup l=>match l[i]? with
   |some v=>k ⟨v,[],[]⟩
   |none=>none
  |_=>none
 |.call c=>match c.callee with
  |.value (.func f)=>Qcp spec tt aa g u hl f (c.args.toList.map ev) k
  |.value (.tmp t)=>match ev (.tmp t)with
   |.fn f cap=>Qcp spec tt aa g u hl f (c.args.toList.map ev++cap) k
   |_=>none
  |.builtin .len=>match c.args.toList,c.argTypes.toList with
   |[x],[t]=>match QiN tt hl t (ev x)with
    |some (n,rd)=>k ⟨.d (.int .i64 n),[],rd⟩
    |none=>none
   |_,_=>none
  |.builtin .cap=>match c.args.toList,c.argTypes.toList with
   |[x],[t]=>match TZ tt t,ev x with
    |.sl _ _,.nil=>k ⟨.d (.int .i64 0),[],[]⟩
    |_,_=>none
   |_,_=>none
  |.builtin .append=>match c.args.toList,c.argTypes.toList with
   |[s,x],[t,t']=>bif Nat.beq t t' then Q6e tt aa g hl t (ev s) (ev x) k else Q2g tt hl aa g t t' (ev s) (ev x) k
   |_,_=>none
  |.builtin .min=>match c.args.toList with
   |x::r=>match Bq true (ev x) (r.map ev)with
    |some v=>k ⟨v,[],[]⟩
    |none=>none
   |_=>none
  |.builtin .max=>match c.args.toList with
   |x::r=>match Bq false (ev x) (r.map ev)with
    |some v=>k ⟨v,[],[]⟩
    |none=>none
   |_=>none
  |_=>none
 |_=>none
def AC(l:Nat):Y (Nat×AV)->Bool
 |[]=>false
 |(_,a)::r=>Yq l a||AC l r
def Jj(l:Nat):Y (Nat×Ob)->Bool
 |[]=>false
 |(_,.box cells)::r=>G8 l cells||Jj l r
 |(_,.arr ..)::r=>Jj l r
 |(_,.mp ..)::r=>Jj l r
def Ut(st:St)(l:Nat):Bool:=Nat.ble l 999999&&(!AC l st.tm&&!Jj l st.h)
def Wm(st:St):Y (Nat×oP Ob)->Bool
 |[]=>true
 |(l,o)::r=>(match o,look st.h l with
  |some _,none=>Ut st l
  |_,_=>true)&&Wm st r
mutual
def gds(t:Nat):AV->Bool
 |.gd t' _ av=>Nat.beq t' t||gds t av
 |.ag l=>Q07 t l
 |.tup l=>Q07 t l
 |.fn _ l=>Q07 t l
 |_=>false
def Q07(t:Nat):Y AV->Bool
 |[]=>false
 |a::r=>gds t a||Q07 t r
end
def QaJ(d:Nat):Y (Nat×AV)->Bool
 |[]=>false
 |(_,a)::r=>gds d a||QaJ d r
structure Rec where
 rt:List Nat
 dst:oP Nat
 dl:Dl
def PY:Y Operand->Y Nat
 |[]=>[]
 |.tmp t::r=>t::PY r
 |_::r=>PY r
def put(st:St)(dst:oP Nat)(dl:Dl):St:=
 { n:=st.n,tm:=match dst with | some d=>(d,dl.v)::st.tm | none=>st.tm,h:=MD st.h dl.wr }
def Q3z(st:St)(v:AV):oP Nat->Bool
 |some d=>Nat.ble (d+1) st.n&&(!gds d v&&!QaJ d st.tm)
 |none=>true
def Qdw(st:St)(o:Oper)(ch:Y Nat)(dl:Dl)(k:St->Rec->oP R):oP R:=
 bif Q3z st dl.v o.dst&&Wm st dl.wr then k (put st o.dst dl) ⟨PY o.op.operands.toList++ch,o.dst,dl⟩else none
def jD(g:Bool):D->D->oP D
 |.int k x,.int k' y=>bif k == k' then some (.int k (bif g then x else y))else none
 |.bool x,.bool y=>some (.bool (bif g then x else y))
 |.str x,.str y=>some (.str (bif g then x else y))
 |.sl s x,.sl s' y=>bif Nat.beq s s' then some (.sl s (bif g then x else y))else none
 |_,_=>none
def jA(g:Bool):AV->AV->oP AV
 |.d x,.d y=>match jD g x y with
  |some z=>some (.d z)
  |none=>none
 |.nil,.nil=>some .nil
 |.ptr l o,.ptr l' o'=>bif Nat.beq l l'&&Nat.beq o o' then some (.ptr l o)else none
 |_,_=>none
def jL(g:Bool):Y AV->Y AV->oP (Y AV)
 |[],[]=>some []
 |a::r,b::s=>match jA g a b with
  |some c=>match jL g r s with
   |some t=>some (c::t)
   |none=>none
  |none=>none
 |_,_=>none
def jW(g:Bool)(hl:Nat->oP Ob):Y (Nat×oP Ob)->oP (Y (Nat×oP Ob))
 |[]=>some []
 |(l,some (.box new))::r=>match hl l with
  |some (.box old)=>match jL g new old with
   |some c=>match jW g hl r with
    |some t=>some ((l,some (.box c))::t)
    |none=>none
   |none=>none
  |_=>none
 |(l,some (.arr e s rows))::r=>match hl l with
  |none=>match jW g hl r with
   |some t=>some ((l,some (.arr e s (bif g then rows else[])))::t)
   |none=>none
  |some _=>none
 |(_,some (.mp ..))::_=>none
 |(l,none)::r=>match jW g hl r with
  |some t=>some ((l,none)::t)
  |none=>none
def Qez(spec:Q5R)(tt:TT)(ops:Array Oper)(o:Oper)(st:St)(k:St->Rec->oP R):oP R:=
 match o.guard with
 |none=>vdl spec tt (o.dst.getD 0) true true (evO st.tm) (look st.h) o.op λdl=>Qdw st o [] dl k
 |some (j,w)=>match (ops[j]?).bind (·.dst)with
  |some s=>match ctx st.tm 40 s w with
   |some (g,ch)=>vdl spec tt (o.dst.getD 0) g false (λx=>unw ch (evO st.tm x)) (look st.h) o.op λdl=>
     match jW g (look st.h) dl.wr with
     |some wr=>Qdw st o (ch.map (·.1)) ⟨.gd s w dl.v,wr,dl.rd⟩ k
     |none=>none
   |none=>none
  |none=>none
def QhP(spec:Q5R)(tt:TT)(ops:Array Oper):Y Oper->St->Y Rec->(St->Y Rec->oP R)->oP R
 |[],st,acc,k=>k st acc
 |o::r,st,acc,k=>Qez spec tt ops o st λst' rec=>QhP spec tt ops r st' (acc++[rec]) k
def Q47(s:Nat)(b:Bool):Y (Nat×AV)->Y (Nat×AV)
 |[]=>[]
 |(t,a)::r=>bif Nat.beq t s then(t,.d (.bool b))::r else(t,a)::Q47 s b r
def Q7A(spec:Q5R)(tt:TT)(o:Oper)(s:Nat)(w b:Bool)(st:St)(k:St->Rec->oP R):oP R:=
 bif (bif b then w else !w)then vdl spec tt (o.dst.getD 0) true true (evO st.tm) (look st.h) o.op λdl=>Qdw st o [s] dl k
 else Qdw st o [s] ⟨.gd s w (.d (.bool false)),[],[]⟩ k
def Q1x(spec:Q5R)(tt:TT)(ops:Array Oper):Y Oper->St->Y Rec->(St->Y Rec->oP R)->oP R
 |[],st,acc,k=>k st acc
 |o::r,st,acc,k=>match o.guard with
  |none=>vdl spec tt (o.dst.getD 0) true true (evO st.tm) (look st.h) o.op λdl=>Qdw st o [] dl λst' rec=>Q1x spec tt ops r st' (acc++[rec]) k
  |some (j,w)=>match (ops[j]?).bind (·.dst)with
   |some s=>match lkT st.tm s with
    |.d (.bool c)=>
     bif c then Q7A spec tt o s w true { n:=st.n,tm:=Q47 s true st.tm,h:=st.h } λst' rec=>Q1x spec tt ops r st' (acc++[rec]) k
     else Q7A spec tt o s w false { n:=st.n,tm:=Q47 s false st.tm,h:=st.h } λst' rec=>Q1x spec tt ops r st' (acc++[rec]) k
    |_=>none
   |none=>none
def Q4H(acc:Y Nat):Y Edge->Nat->Nat
 |[],s=>s
 |e::r,s=>Q4H acc r (bif Region.binds .any e then(s ||| (2 ^ e.on)) ||| acc.getD e.on 0 else s)
def Q2X:Y Oper->Y Nat->Y Nat
 |[],acc=>acc
 |o::r,acc=>Q2X r (acc++[Q4H acc o.after.toList 0])
def Q23:Y Edge->Nat->Bool
 |[],_=>true
 |e::r,i=>(!Region.binds .any e||Nat.ble (e.on+1) i)&&Q23 r i
def Ku:Y Oper->Nat->Bool
 |[],_=>true
 |o::r,i=>Q23 o.after.toList i&&Ku r (i+1)
def inO(d:oP Nat)(l:Y Nat):Bool:=
 match d with
 |some x=>PM x l
 |none=>false
def WU(a b:Rec):Bool:=
 inO a.dst b.rt||inO b.dst a.rt||(match a.dst,b.dst with | some x,some y=>Nat.beq x y | _,_=>false) ||
 T1 (wrL a.dl) (wrL b.dl)||T1 (wrL a.dl) b.dl.rd||T1 (wrL b.dl) a.dl.rd
def TJ(ac:St)(aa:Y Nat):Y (Nat×oP Ob)->Y Nat
 |[]=>[]
 |(l,o)::r=>match o,look ac.h l with
  |some _,none=>bif PM l aa then TJ ac aa r else l::TJ ac aa r
  |_,_=>TJ ac aa r
def C5(l:Nat)(b:Rec):Bool:=Yq l b.dl.v||P6 l b.dl.wr
def Qg5(d:oP Nat)(v:AV):Bool:=
 match d with
 |some x=>gds x v
 |none=>false
def Bo(i:Nat)(a:Rec)(news:Y Nat):Y Rec->Y Nat->Bool
 |[],_=>true
 |b::r,m::ms=>(!(WU a b||(news.any λl=>C5 l b)||Qg5 a.dst b.dl.v)||m.testBit i)&&Bo i a news r ms
 |_::_,[]=>false
def F5(ac:St):Nat->Y Rec->Y Nat->Y Rec->Y Nat->Bool
 |_,_,_,[],_=>true
 |i,ai,aa,a::r,_::ms=>
  Bo i a (TJ ac aa a.dl.wr) r ms&&((TJ ac aa a.dl.wr).all λl=>Ut ac l&&ai.all λb=>!C5 l b) &&
   F5 ac (i+1) (ai++[a]) (aa++TJ ac aa a.dl.wr) r ms
 |_,_,_,_::_,[]=>false
def WM(l:Nat):Y (Nat×oP Ob)->Bool
 |[]=>false
 |(k,o)::r=>(o.isSome&&Nat.beq k l)||WM l r
def Qdm(recs:Y Rec):Y (Nat×oP Ob)->Bool
 |[]=>true
 |(l,none)::r=>(recs.all λb=>!WM l b.dl.wr)&&Qdm recs r
 |_::r=>Qdm recs r
def rmL:Y Rec->Bool
 |[]=>true
 |a::r=>Qdm (a::r) a.dl.wr&&rmL r
def Q3u(aa:St)(ops:Y Oper)(recs:Y Rec):Bool:=
 Ku ops 0&&F5 aa 0 [] [] recs (Q2X ops [])&&rmL recs
structure Cfg where
 keep:List Nat
 locs:List (Nat×Nat)
 mkT:List (Nat×Nat×Nat×Nat)
 mkH:List (Nat×Nat×Nat×Nat×Nat)
 fz:List Nat
mutual
def fzA(l s:Nat)(rows:Y (Y D)):AV->AV
 |.arr k=>bif Nat.beq k l then .d (.sl s rows)else .arr k
 |.ap k i o=>bif Nat.beq k l then .top else .ap k i o
 |.ag r=>.ag (fzL l s rows r)
 |.tup r=>.tup (fzL l s rows r)
 |.fn f r=>.fn f (fzL l s rows r)
 |.gd ..=>.top
 |av=>av
def fzL(l s:Nat)(rows:Y (Y D)):Y AV->Y AV
 |[]=>[]
 |a::r=>fzA l s rows a::fzL l s rows r
end
def fzO(l s:Nat)(rows:Y (Y D)):Ob->Ob
 |.box cells=>.box (fzL l s rows cells)
 |o=>o
def fzT(l s:Nat)(rows:Y (Y D)):Y (Nat×AV)->Y (Nat×AV)
 |[]=>[]
 |(t,a)::r=>(t,fzA l s rows a)::fzT l s rows r
def Qd9(l s:Nat)(rows:Y (Y D)):Y (Nat×Ob)->Y (Nat×Ob)
 |[]=>[]
 |(k,o)::r=>bif Nat.beq k l then Qd9 l s rows r else(k,fzO l s rows o)::Qd9 l s rows r
def fz1(st:St)(l:Nat):St:=
 match look st.h l with
 |some (.arr _ s rows)=>{ n:=st.n,tm:=fzT l s rows st.tm,h:=Qd9 l s rows st.h }
 |_=>st
def fzs(st:St):Y Nat->St
 |[]=>st
 |l::r=>fzs (fz1 st l) r
mutual
def U7(ρ:Y (Nat×Nat)):AV->AV
 |.ptr l o=>match look ρ l with | some l'=>.ptr l' o | none=>.top
 |.arr l=>match look ρ l with | some l'=>.arr l' | none=>.top
 |.ap l i o=>match look ρ l with | some l'=>.ap l' i o | none=>.top
 |.sa l t=>match look ρ l with | some l'=>.sa l' t | none=>.top
 |.ag r=>.ag (Q3i ρ r)
 |.tup r=>.tup (Q3i ρ r)
 |.fn f r=>.fn f (Q3i ρ r)
 |.gd ..=>.top
 |av=>av
def Q3i(ρ:Y (Nat×Nat)):Y AV->Y AV
 |[]=>[]
 |a::r=>U7 ρ a::Q3i ρ r
end
def QcB(ρ:Y (Nat×Nat)):Ob->Ob
 |.box cells=>.box (Q3i ρ cells)
 |.arr e s rows=>.arr e s rows
 |.mp t f=>.mp t f
def Qaq(ρ:Y (Nat×Nat))(tm:Y (Nat×AV)):Y Nat->Y (Nat×AV)
 |[]=>[]
 |t::r=>(t,U7 ρ (lkT tm t))::Qaq ρ tm r
def D3(ρ:Y (Nat×Nat))(h:Y (Nat×Ob)):Y (Nat×Nat)->Y (Nat×Ob)
 |[]=>[]
 |(l,l')::r=>match look h l with
  |some o=>(l',QcB ρ o)::D3 ρ h r
  |none=>D3 ρ h r
def QhS(tm:Y (Nat×AV))(t:Nat)(v:AV):Y (Nat×AV):=
 match tm with
 |[]=>[]
 |(k,a)::r=>bif Nat.beq k t then(k,v)::r else(k,a)::QhS r t v
def Qfh(st:St):Y (Nat×Nat×Nat×Nat)->St
 |[]=>st
 |(t,l,e,s)::r=>match lkT st.tm t with
  |.nil=>bif Ut st l&&(look st.h l).isNone then Qfh { st with tm:=QhS st.tm t (.arr l),h:=(l,.arr e s [])::st.h } r else Qfh st r
  |_=>Qfh st r
def Qf8(st:St):Y (Nat×Nat×Nat×Nat×Nat)->St
 |[]=>st
 |(b,c,l,e,s)::r=>match look st.h b with
  |some (.box cells)=>match cells[c]? with
   |some .nil=>bif Ut st l&&(look st.h l).isNone then Qf8 { st with h:=(l,.arr e s [])::(b,.box (cells.set c (.arr l)))::rem b st.h } r else Qf8 st r
   |_=>Qf8 st r
  |_=>Qf8 st r
def Xn:Y Nat->Bool
 |[]=>true
 |a::r=>!PM a r&&Xn r
def Qet(c:Cfg)(st:St):St:=
 bif Xn (c.locs.map (·.1))&&(Xn (c.locs.map (·.2))&&c.locs.all λp=>Nat.beq p.1 p.2||Nat.ble p.2 999999)then Qf8 (Qfh { n:=st.n,tm:=Qaq c.locs st.tm c.keep,h:=D3 c.locs st.h c.locs } c.mkT) c.mkH
 else st
def inH(h:Y (Nat×Ob)):Y (Nat×Nat)->Y (Nat×Nat)
 |[]=>[]
 |p::r=>match look h p.1 with
  |some _=>p::inH h r
  |none=>inH h r
def Qjd(c:Cfg)(st:St):St:=Qet ⟨c.keep,inH st.h c.locs,c.mkT,c.mkH,c.fz⟩ st
def Qe2(c:Cfg)(st:St):St:=Qjd c (fzs st c.fz)
def Qcw(c:Cfg)(st:St):St:=
 match c.keep with
 |[]=>Qe2 ⟨st.tm.map (·.1),st.h.map λp=>(p.1,p.1),c.mkT,c.mkH,c.fz⟩ st
 |_::_=>Qe2 c st
structure VC where
 spec:Q5R
 tt:TT
 cfg:List (Nat×Cfg)
def Q1z(C:VC)(id:Nat)(ops:Array Oper)(aa:Bool)(st:St)(k:St->oP R):oP R:=
 (bif (look C.cfg (id+1000000000)).isSome then Q1x C.spec C.tt ops ops.toList st []else QhP C.spec C.tt ops ops.toList st []) λst' recs=>
  bif !aa||Q3u st ops.toList recs then
   match look C.cfg id with
   |some c=>k (Qcw c st')
   |none=>k st'
  else none
def Q94(aa:St->(Exit->St->oP R)->oP R):Nat->St->(Exit->St->oP R)->oP R
 |0,_,_=>none
 |n+1,st,k=>aa st λe st'=>match e with
  |.normal=>Q94 aa n st' k
  |.exit id=>k (.exit id) st'
  |.ret=>k .ret st'
  |_=>none
def Q9i:Code->Nat
 |.region id _ _=>id
 |.seq a _=>Q9i a
 |.block _ c=>Q9i c
 |.loop c=>Q9i c
 |.cond _ a _=>Q9i a
 |_=>0
def QgT(C:VC)(n:Nat)(c:Code):Nat:=
 match look C.cfg (2000000000+Q9i c)with
 |some ⟨[m],_,_,_,_⟩=>m
 |_=>n
def Q15(C:VC)(aa:Nat)(st:St):St:=
 match look C.cfg aa with
 |some q=>Qe2 q st
 |none=>st
def Gf(C:VC)(n:Nat):Code->St->(Exit->St->oP R)->oP R
 |.skip,st,k=>k .normal st
 |.region id ops aa,st,k=>Q1z C id ops aa st (k .normal)
 |.seq a b,st,k=>Gf C n a st λe st'=>match e with
  |.normal=>Gf C n b st' k
  |.exit id=>k (.exit id) st'
  |.ret=>k .ret st'
  |_=>none
 |.cond c a b,st,k=>match evO st.tm c with
  |.d (.bool e)=>bif e then Gf C n a st k else Gf C n b st k
  |_=>none
 |.block id c,st,k=>Gf C n c st λe st'=>match e with
  |.normal=>k .normal st'
  |.exit j=>bif Nat.beq j id then k .normal st' else k (.exit j) st'
  |.ret=>k .ret st'
  |_=>none
 |.loop c,st,k=>Q94 (λst k=>Gf C n c (Q15 C (3000000000+Q9i c) st) k) (QgT C n c) st k
 |.exit id,st,k=>k (.exit id) st
 |.ret,st,k=>k .ret st
 |_,_,_=>none
def lB(C:VC)(n:Nat)(c:Code)(st:St)(k:Exit->St->oP R):oP R:=Gf C n c (Q15 C (3000000000+Q9i c) st) k
mutual
def NV:AV->Bool
 |.gd ..=>false
 |.ag l=>Ki l
 |.tup l=>Ki l
 |.fn _ l=>Ki l
 |_=>true
def Ki:Y AV->Bool
 |[]=>true
 |a::r=>NV a&&Ki r
end
def Q4z(tt:TT)(st:St):ResultVar->oP AV
 |.tmp t=>some (lkT st.tm t)
 |.cell a ty=>match lkT st.tm a with
  |.ptr l off=>match look st.h l,look tt ty with
   |some (.box cells),some ti=>
    bif UV ti.kd then
     match BH cells off ti.size with
     |some cs=>some (.ag cs)
     |none=>none
    else match cells[off]? with
     |some c=>bif Q0V c then some c else none
     |none=>none
   |_,_=>none
  |_=>none
def Q1s(tt:TT)(st:St):Y ResultVar->oP (Y AV)
 |[]=>some []
 |r::rs=>match Q4z tt st r with
  |some a=>match Q1s tt st rs with
   |some l=>bif NV a then some (a::l)else none
   |none=>none
  |none=>none
def Q0x(tt:TT)(st:St)(rs:Y ResultVar):oP AV:=
 match Q1s tt st rs with
 |some [a]=>some a
 |some l=>some (.tup l)
 |none=>none
def Q2l:Nat->Y AV->Y (Nat×AV)
 |_,[]=>[]
 |i,a::r=>(i,a)::Q2l (i+1) r
def vfn(C:VC)(n:Nat)(fn:Func)(args:Y AV)(h:Y (Nat×Ob))(k:AV->Y (Nat×Ob)->oP R):oP R:=
 match fn.body with
 |some c=>bif Nat.ble args.length fn.ntmps&&Ki args then
   Gf C n c { n:=fn.ntmps,tm:=Q2l 0 args,h:=h } λe st=>match e with
    |.ret=>match Q0x C.tt st fn.results.toList with
     |some v=>k v st.h
     |none=>none
    |.normal=>match Q0x C.tt st fn.results.toList with
     |some v=>k v st.h
     |none=>none
    |_=>none
  else none
 |none=>none
end
inductive Rd(S:Nat->Prop)(w:World):Value->D->Prop
 |int (k:IntKind) (n:Int):Rd S w (.int k n) (.int k n)
 |bool (b:Bool):Rd S w (.bool b) (.bool b)
 |str (s:ByteArray):Rd S w (.string s) (.str s.data.toList)
 |sl0 (a:oP Addr) (cap size:Nat):Rd S w (.slice a 0 cap) (.sl size [])
 |nl:Rd S w (.slice none 0 0) .nl
 |sl (ad:Addr) (cap size:Nat) (rows:List (List D)) (c:Nat->Nat->Value)
   (hS:S ad.block) (hcap:rows.length<=cap) (hsz:∀(i:Nat) (r:List D),rows[i]? = some r->r.length=size)
   (hc:∀(i j:Nat) (r:List D) (x:D),rows[i]? = some r->r[j]? = some x->w.cell? (ad.add (i*size+j))=some (c i j))
   (hr:∀(i j:Nat) (r:List D) (x:D),rows[i]? = some r->r[j]? = some x->Rd S w (c i j) x) :
   Rd S w (.slice (some ad) rows.length cap) (.sl size rows)
theorem Jv(a:Addr)(n:Nat):(a.add n).block=a.block:=by unfold Addr.add;split<;>rfl
theorem BB(a:Addr)(i j:Nat):(a.add i).add j=a.add (i+j):=by
 grind[Addr.add,Nat.add_assoc]
theorem Jy(b o n:Nat):(⟨b,o,none⟩:Addr).add n=⟨b,o+n,none⟩:=by
 grind[Addr.add]
theorem Gy{w w':World}{a:Addr}(h:w'.heap[a.block]? = w.heap[a.block]?):w'.cell? a=w.cell? a:=by simp[World.cell?,h]
theorem Rd.mono{S S':Nat->Prop}{w w':World}{v:Value}{x:D}(hS:∀b,S b->S' b)(hw:∀b,S b->w'.heap[b]? = w.heap[b]?)(h:Rd S w v x):Rd S' w' v x:=by
 induction h with
 |int k n=>exact .int k n
 |bool b=>exact .bool b
 |str s=>exact .str s
 |sl0 a cap size=>exact .sl0 a cap size
 |nl=>exact .nl
 |sl ad cap size rows c hs aa ac hc _ ih=>
  exact .sl ad cap size rows c (hS _ hs) aa ac (λi j r x h1 h2=>by
   grind[Gy,Jv]) ih
def D.flat:D->Bool
 |.sl _ []=>true
 |.sl _ (_::_)=>false
 |_=>true
theorem Rd.of_flat{S S':Nat->Prop}{w w':World}{v:Value}{x:D}(hf:x.flat=true)(h:Rd S w v x):Rd S' w' v x:=by
 cases h with
 |int k n=>exact .int k n
 |bool b=>exact .bool b
 |str s=>exact .str s
 |sl0 a cap size=>exact .sl0 a cap size
 |nl=>exact .nl
 |sl ad cap size rows c hs aa ac hc hr=>
  cases rows with
  |nil=>exact .sl0 _ _ _
  |cons r rs=>trivial
def HV:Y MapEntry->Int->oP Value
 |[],_=>none
 |e::r,n=>match e.key with
  |.int .i64 m=>if m=n then some e.val else HV r n
  |_=>HV r n
def QaR(S:Nat->Prop)(w:World)(v:Value)(f:Int->Y (Y D)):Prop:=
 ∃b es aa,v = .map (some b)/\S b/\w.heap[b]? = some (.map es aa)/\(∀e∈es.toList,∃n,e.key = .int .i64 n)/\(∀n,HV es.toList n=none->f n=[])/\∀n v',HV es.toList n=some v'->Rd S w v' (.sl 1 (f n))
theorem QaR.mono{S S':Nat->Prop}{w w':World}{v:Value}{f:Int->Y (Y D)}(hS:∀b,S b->S' b)(hw:∀b,S b->w'.heap[b]? = w.heap[b]?)(h:QaR S w v f):QaR S' w' v f:=by
 obtain⟨b,es,aa,h1,h2,h3,h4,h5,h6⟩:=h;exact⟨b,es,aa,h1,hS b h2,(hw b h2).trans h3,h4,h5,λn v' hl=>(h6 n v' hl).mono hS hw⟩
def MpR(w:World)(b:Nat)(f:Int->Bool):Prop:=
 ∃es aa,w.heap[b]? = some (.map es aa)/\(∀e∈es.toList,∃n,e.key = .int .i64 n)/\(∀n,HV es.toList n=none->f n=false)/\∀n v,HV es.toList n=some v->v = .bool (f n)
theorem MpR.same{w w':World}{b:Nat}{f:Int->Bool}(h:MpR w b f)(hb:w'.heap[b]? = w.heap[b]?):MpR w' b f:=by
 obtain⟨es,aa,h1,h2⟩:=h;exact⟨es,aa,hb.trans h1,h2⟩
def P0:AV->oP Nat
 |.arr l=>some l
 |.ap l _ _=>some l
 |_=>none
inductive RdA(β:Nat->oP Nat)(S:Nat->Prop)(h:Nat->oP Ob)(w:World)(tm:Nat->Value):Value->AV->Prop
 |top (v:Value):RdA β S h w tm v .top
 |d (v:Value) (x:D) (hx:Rd S w v x):RdA β S h w tm v (.d x)
 |nil:RdA β S h w tm (.slice none 0 0) .nil
 |ag (cs:Array Value) (l:List AV) (hl:cs.size=l.length) (hr:∀(i:Nat) (x:AV),l[i]? = some x->RdA β S h w tm (cs.getD i undef) x):RdA β S h w tm (.agg cs) (.ag l)
 |tup (cs:Array Value) (l:List AV) (hl:cs.size=l.length) (hr:∀(i:Nat) (x:AV),l[i]? = some x->RdA β S h w tm (cs.getD i undef) x):RdA β S h w tm (.tuple cs) (.tup l)
 |fn (f:Nat) (cs:Array Value) (l:List AV) (hl:cs.size=l.length) (hr:∀(i:Nat) (x:AV),l[i]? = some x->RdA β S h w tm (cs.getD i undef) x):RdA β S h w tm (.func (.func f) #[] cs) (.fn f l)
 |fs (ad:oP Addr) (s:Nat) (rows:List (List D)) (hx:Rd S w (.slice ad rows.length rows.length) (.sl s rows)):RdA β S h w tm (.slice ad rows.length rows.length) (.fs s rows)
 |mpd (v:Value) (f:Int->List (List D)) (hm:QaR S w v f):RdA β S h w tm v (.mpd f)
 |ex (v:Value):RdA β S h w tm v (.ex v)
 |ptr (l off b:Nat) (hb:β l=some b):RdA β S h w tm (.pointer (some ⟨b,off,none⟩)) (.ptr l off)
 |sa (v:Value) (l t b:Nat) (hb:β l=some b) (hv:v = .pointer none\/v = .pointer (some ⟨b,0,none⟩)):RdA β S h w tm v (.sa l t)
 |el (ad:Addr) (row:List D) (off:Nat) (c:Nat->Value) (hs:S ad.block)
   (hc:∀(j:Nat) (x:D),row[off+j]? = some x->w.cell? (ad.add j)=some (c j)) (hr:∀(j:Nat) (x:D),row[off+j]? = some x->Rd S w (c j) x) :
   RdA β S h w tm (.pointer (some ad)) (.el row off)
 |arr0 (l e s:Nat) (hb:β l=none) (hh:h l=some (.arr e s [])):RdA β S h w tm (.slice none 0 0) (.arr l)
 |arr (l b cap e s:Nat) (rows:List (List D)) (cs:Array Value) (ty:TypeId) (fz:Nat×Nat) (hb:β l=some b) (hh:h l=some (.arr e s rows))
   (hw:w.heap[b]? = some (.cells cs ty fz)) (hcs:cs.size=cap*s) (hcap:rows.length<=cap) (hmax:cap<=maxLen) :
   RdA β S h w tm (.slice (some ⟨b,0,none⟩) rows.length cap) (.arr l)
 |mp (l b t:Nat) (f:Int->Bool) (hb:β l=some b) (hh:h l=some (.mp t f)):RdA β S h w tm (.map (some b)) (.arr l)
 |ap (l i off b e s:Nat) (rows:List (List D)) (hb:β l=some b) (hh:h l=some (.arr e s rows)) :
   RdA β S h w tm (.pointer (some ⟨b,i*s+off,none⟩)) (.ap l i off)
 |dang (v:Value) (av:AV) (l:Nat) (hl:P0 av=some l) (hh:h l=none) (h1:v.oneCell'=true):RdA β S h w tm v av
 |gdT (v:Value) (t:Nat) (w':Bool) (av:AV) (ht:tm t = .bool w') (hv:RdA β S h w tm v av):RdA β S h w tm v (.gd t w' av)
 |gdF (t:Nat) (w':Bool) (av:AV) (ht:tm t≠.bool w'):RdA β S h w tm undef (.gd t w' av)
structure Keep(β:Nat->oP Nat)(h:Nat->oP Ob)(w:World)(β':Nat->oP Nat)(h':Nat->oP Ob)(w':World)(l:Nat):Prop where
 b:β' l=β l
 none_:h l=none->h' l=none
 arr:∀e s rows,h l=some (.arr e s rows)->h' l=none\/∃rows',h' l=some (.arr e s rows')/\rows'.length=rows.length
 cells:∀b cs ty fz,(h' l).isSome=true->β l=some b->w.heap[b]? = some (.cells cs ty fz)->∃cs' ty' fz',w'.heap[b]? = some (.cells cs' ty' fz')/\cs'.size=cs.size
 mp:∀t f,h l=some (.mp t f)->h' l=none\/∃f',h' l=some (.mp t f')
theorem Sq{l i:Nat}{r:Y AV}{x:AV}(h:r[i]? = some x)(hn:Yq l x=true):G8 l r=true:=by
 induction r generalizing i with
 |nil=>simp at h
 |cons a r ih=>
  grind[G8]
theorem Q5r{t i:Nat}{r:Y AV}{x:AV}(h:r[i]? = some x)(hn:gds t x=true):Q07 t r=true:=by
 induction r generalizing i with
 |nil=>simp at h
 |cons a r ih=>
  grind[Q07]
theorem RdA.mono{β β':Nat->oP Nat}{S S':Nat->Prop}{h h':Nat->oP Ob}{w w':World}{tm tm':Nat->Value}{v:Value}{av:AV}(hr:RdA β S h w tm v av)(hS:∀b,S b->S' b)(hw:∀b,S b->w'.heap[b]? = w.heap[b]?)(hk:∀l,Yq l av=true->Keep β h w β' h' w' l)(ht:∀t,gds t av=true->tm' t=tm t):RdA β' S' h' w' tm' v av:=by
 induction hr with
 |top v=>exact .top v
 |d v x hx=>exact .d v x (hx.mono hS hw)
 |nil=>exact .nil
 |ag cs l hl _ ih=>
  exact .ag cs l hl λi x hx=>ih i x hx (λk hn=>hk k (by grind[Yq,Sq])) (λt hn=>ht t (by grind[gds,Q5r]))
 |tup cs l hl _ ih=>
  exact .tup cs l hl λi x hx=>ih i x hx (λk hn=>hk k (by simp[Yq,Sq hx hn])) (λt hn=>ht t (by simp[gds,Q5r hx hn]))
 |fn f cs l hl _ ih=>
  exact .fn f cs l hl λi x hx=>ih i x hx (λk hn=>hk k (by simp[Yq,Sq hx hn])) (λt hn=>ht t (by simp[gds,Q5r hx hn]))
 |fs ad s rows hx=>exact .fs ad s rows (hx.mono hS hw)
 |mpd v f hm=>exact .mpd v f (hm.mono hS hw)
 |ex v=>exact .ex v
 |ptr l off b hb=>exact .ptr l off b (by rw[(hk l (by simp[Yq])).b];exact hb)
 |sa v l t b hb hv=>exact .sa v l t b (by rw[(hk l (by simp[Yq])).b];exact hb) hv
 |el ad row off c hs hc hr=>
  exact .el ad row off c (hS _ hs) (λj x hx=>by grind[Gy,Jv]) (λj x hx=>(hr j x hx).mono hS hw)
 |arr0 l e s hb hh=>
  have K:=hk l (by simp[Yq]);rcases K.arr e s [] hh with hn | ⟨aa,ac,aj⟩
  ·exact .dang _ _ l rfl hn rfl
  ·have:aa=[]:=Qph I;subst this;exact .arr0 l e s (by rw[K.b];exact hb) ac
 |arr l b cap e s rows cs ty fz hb hh ax a5 az am=>
  have K:=hk l (by simp[Yq]);rcases K.arr e s rows hh with hn | ⟨aa,ac,aj⟩
  ·exact .dang _ _ l rfl hn rfl
  ·obtain⟨aw,ao,ay,ar,a3⟩:=K.cells b cs ty fz (by simp[ac]) hb ax;have:=RdA.arr (β:=β') (h:=h') (w:=w') (S:=S') (tm:=tm') l b cap e s aa aw ao ay (by rw[K.b];exact hb) ac ar I I am
   simp_all
 |mp l b t f hb hh=>
  have K:=hk l (by simp[Yq]);rcases K.mp t f hh with hn | ⟨f',hf⟩
  ·exact .dang _ _ l rfl hn rfl
  ·exact .mp l b t f' (by rw[K.b];exact hb) hf
 |ap l i off b e s rows hb hh=>
  have K:=hk l (by simp[Yq]);rcases K.arr e s rows hh with hn | ⟨aa,ac,aj⟩
  ·exact .dang _ _ l rfl hn rfl
  ·exact .ap l i off b e s aa (by rw[K.b];exact hb) ac
 |dang v av l hl hh h1=>
  refine .dang v av l hl ((hk l ?_).none_ hh) h1;cases av<;>simp[P0]at hl<;>simp[Yq,hl]
 |gdT v t b av an _ ih=>
  refine .gdT v t b av (by simp_all [gds]) (ih (λk hn=>hk k (by assumption)) (λt' hn=>ht t' (by grind[gds])))
 |gdF t b av an=>exact .gdF t b av (by rw[ht t (by simp[gds])];exact an)
structure Fr(M:Nat->Prop)(w w':World):Prop where
 os:w'.os=w.os
 tape:w'.tape=w.tape
 output:w'.output=w.output
 size:w.heap.size<=w'.heap.size
 block:∀b,b<w.heap.size->¬ M b->w'.heap[b]? = w.heap[b]?
theorem Fr.refl(M:Nat->Prop)(w:World):Fr M w w:=⟨rfl,rfl,rfl,Qpv _,λ_ _ _=>rfl⟩
theorem Fr.trans{M:Nat->Prop}{a b c:World}(h:Fr M a b)(k:Fr M b c):Fr M a c:=
 ⟨k.os.trans h.os,k.tape.trans h.tape,k.output.trans h.output,Nat.le_trans h.size k.size,λi hi hm=>(k.block i (Qpy hi h.size) hm).trans (h.block i hi hm)⟩
theorem Fr.mono{M M':Nat->Prop}{a b:World}(h:Fr M a b)(hM:∀x,x<a.heap.size->M x->M' x):Fr M' a b:=
 ⟨h.os,h.tape,h.output,h.size,λi hi hm=>h.block i hi (λhx=>hm (hM i hi hx))⟩
theorem Fr.below{w w':World}(h:Fr (λ_=>False) w w'):RowKit.Below w.heap.size w w':=⟨h.os,h.tape,h.output,h.size,λb hb=>h.block b hb (λx=>x)⟩
def Qjb(n:Nat)(fz:Nat×Nat):Prop:=∀o,o<n->¬ (fz.1<=o/\o<fz.2)
def tm0:Nat->Value:=λ_=>undef
def Q5k(ty:TypeId)(cells:Y AV):Prop:=∀(i l t:Nat),cells[i]? = some (.sa l t)->ty=t
def ObR(β:Nat->oP Nat)(S:Nat->Prop)(h:Nat->oP Ob)(w:World)(l:Nat):Ob->Prop
 |.box cells=>∃b ty cs fz,β l=some b/\w.heap[b]? = some (.cells cs ty fz)/\(Qjb cs.size fz/\Q5k ty cells)/\cs.size=cells.length /\
   ∀(i:Nat) (x:AV),cells[i]? = some x->RdA β S h w tm0 (cs.getD i undef) x
 |.arr e s rows=>(β l=none/\rows=[])\/∃b cs,β l=some b/\w.heap[b]? = some (.cells cs e (0,0))/\rows.length*s<=cs.size /\
   (∀(i:Nat) (r:Y D),rows[i]? = some r->r.length=s)/\∀(i j:Nat) (r:Y D) (x:D),rows[i]? = some r->r[j]? = some x->∃v,cs[i*s+j]? = some v/\Rd S w v x
 |.mp _ f=>∃b,β l=some b/\MpR w b f
structure Env where
 w0:World
 M:Nat->Prop
 S0:Nat->Prop
 pin:Nat->oP Nat
def tmv(a:Act)(t:Nat):Value:=a.tmps.getD t undef
structure HRel(E:Env)(β:Nat->oP Nat)(S:Nat->Prop)(h:Nat->oP Ob)(w:World):Prop where
 ob:∀l o,h l=some o->ObR β S h w l o
 inj:∀l l' b,(h l).isSome=true->(h l').isSome=true->β l=some b->β l'=some b->l=l'
 apart:∀l b,(h l).isSome=true->β l=some b->¬ S b
 own:∀l b,(h l).isSome=true->β l=some b->E.M b\/E.w0.heap.size<=b
 sb:∀b,S b->b<w.heap.size
 sfr:∀b,S b->E.S0 b\/E.M b\/E.w0.heap.size<=b
 s0:∀b,E.S0 b->S b
 fr:Fr E.M E.w0 w
 pin:∀l,1000000<=l->β l=E.pin l
 psz:∀l b,1000000<=l->(h l).isSome=true->β l=some b->∀cs ty fz,E.w0.heap[b]? = some (.cells cs ty fz)->∃cs' ty' fz',w.heap[b]? = some (.cells cs' ty' fz')/\cs'.size=cs.size
structure Rel(E:Env)(β:Nat->oP Nat)(S:Nat->Prop)(st:St)(a:Act)(w:World):Prop where
 n:a.tmps.size=st.n
 dfr:a.defers=[]
 tm:∀t av,look st.tm t=some av->RdA β S (look st.h) w (tmv a) (tmv a t) av
 hr:HRel E β S (look st.h) w
def JB(E:Env)(st:St)(a:Act)(w:World):Prop:=∃β S,Rel E β S st a w
theorem Qee{a b:Nat}(h:¬ a=b):Nat.beq a b=false:=by
 grind[Nat.beq,absurd,Nat.eq_of_beq_eq_true]
theorem B7{α:Type}(l k:Nat)(h:Y (Nat×α)):look (rem l h) k=if k=l then none else look h k:=by
 induction h with
 |nil=>simp[rem,look]
 |cons x r ih=>
  obtain⟨a,o⟩:=x;simp only[rem,look];by_cases ha:a=l
  ·subst ha;simp only[Nat.beq_refl,Qpc,ih]
   grind[Nat.beq,Qee]
  ·have h1:Nat.beq a l=false:=Qee ha;simp only[h1,cond_false,look,ih]
   grind
theorem Xd{α:Type}(l k:Nat)(o:α)(h:Y (Nat×α)):look ((l,o)::h) k=if k=l then some o else look h k:=by
 grind[look,Nat.beq_refl,Nat.beq,Qee]
theorem WT(l k:Nat)(o:Ob)(h:Y (Nat×Ob)):look ((l,o)::rem l h) k=if k=l then some o else look h k:=by
 grind[Xd,B7]
end Go.Vx
namespace Go.Vx
variable{ev:Operand->AV}
def CEq(kd:Kd)(u v:Value)(b:Bool):Prop:=
 match kd with
 |.int k=>∃m n,u = .int k m/\v = .int k n/\b=(m == n)
 |.bool=>∃m n,u = .bool m/\v = .bool n/\b=(m == n)
 |.str=>∃m n:ByteArray,u = .string m/\v = .string n/\b=(m.data.toList == n.data.toList)
 |_=>False
def QjP(P:Program)(t:Nat)(ks:Y Kd):Prop:=
 ∀(w:World) (xs ys:Array Value) (bs:Y Bool),xs.size=ks.length->ys.size=ks.length->bs.length=ks.length ->
  (∀(j:Nat) (kd:Kd) (b:Bool),ks[j]? = some kd->bs[j]? = some b->CEq kd (xs.getD j undef) (ys.getD j undef) b) ->
  (Op.equalIn 10000 t (.agg xs) (.agg ys)).run P w = .ok (bs.all id) w/\P.eqGuardType P.depth t=false
structure TyOk(P:Program)(t:Nat)(ti:TyI):Prop where
 inf:∃i,P.info? t=some i/\i.size=ti.size/\i.bytes=ti.bytes/\∃z,i.zero=some z/\z.cells.toList=ti.zero
 one:UV ti.kd=false->ti.size=1/\∃d,P.underlying t=some d/\(∀fs,d≠.struct fs)/\∀n e,d≠.array n e
 kint:∀k,ti.kd = .int k->P.underlying t=some (.int k)
 kbool:ti.kd = .bool->P.underlying t=some .bool
 kstr:ti.kd = .str->P.underlying t=some .string
 ksl:∀e esz,ti.kd = .sl e esz->P.underlying t=some (.slice e)/\0<esz/\∃i,P.info? e=some i/\i.size=esz
 kstruct:ti.kd = .struct->∃fs,P.underlying t=some (.struct fs)/\fs.toList.map (λf=>(f.offset,f.type))=ti.fields/\∀f∈fs.toList,∃i,P.info? f.type=some i/\i.size≠0
 karr:∀e esz n,ti.kd = .array e esz n->P.underlying t=some (.array n e)/\0<esz/\(∃i,P.info? e=some i/\i.size=esz)/\ti.size=n*esz/\ti.fields=(List.range n).map λi=>(i*esz,e)
 keq:∀ks,ti.eqk=some ks->QjP P t ks
 zlen:ti.zero.length=ti.size
 zd:ti.zd.length=ti.size->∀(j:Nat) (x:D),ti.zd[j]? = some x->∃v,ti.zero[j]? = some v/\∀(S:Nat->Prop) (w:World),Rd S w v x
 kmpb:ti.kd = .mpb->∃K e,P.underlying t=some (.map K e)/\P.underlying K=some (.int .i64)/\∃i,P.info? e=some i/\i.zero=some (.bool false)
 kmap:ti.kd = .mapI->∃K e,P.underlying t=some (.map K e)/\P.underlying K=some (.int .i64)/\∃i,P.info? e=some i/\i.zero=some (.slice none 0 0)
def TOk(P:Program)(tt:TT):Prop:=∀t ti,look tt t=some ti->TyOk P t ti
section
variable{P:Program}
theorem X6{t:TypeId}{d:TypeDesc}(h:P.underlying t=some d)(w:World):(underlying t).run P w = .ok d w:=by
 simp[underlying,h]
theorem Yx{t:TypeId}{i:TypeInfo}(h:P.info? t=some i)(w:World):(typeInfo t).run P w = .ok i w:=by
 simp[typeInfo,h]
theorem TyOk.size{t:Nat}{ti:TyI}(h:TyOk P t ti)(w:World):(sizeOf t).run P w = .ok ti.size w:=by
 obtain⟨i,hi,hs,_⟩:=h.inf
 simp_all [sizeOf,Yx]
theorem TyOk.agg{t:Nat}{ti:TyI}(h:TyOk P t ti)(w:World):(isAgg t).run P w = .ok (UV ti.kd) w:=by
 cases hk:UV ti.kd with
 |true=>
  cases hh:ti.kd with
  |struct=>
   obtain⟨fs,hu,_⟩:=h.kstruct hh;simp[isAgg,X6 hu]
  |array e esz n=>
   have hu:=(h.karr e esz n hh).1;simp[isAgg,X6 hu]
  |_=>grind[UV]
 |false=>
  obtain⟨_,d,hu,h1,h2⟩:=h.one hk
  simp_all [isAgg,Qpb,X6,Qp7]
theorem Qy{α R:Type}{g:Bool}{p:oP α}{z:α}{k:α->oP R}{r:R}(h:gb g p z k=some r) :
  ∃a,k a=some r/\(g=true->p=some a):=by
 unfold gb orZ at h
 grind
def Out(E:Env)(st:St)(a:Act)(dl:Dl)(v:Value)(w':World):Prop:=
 ∃β' S',Rel E β' S' ⟨st.n,st.tm,MD st.h dl.wr⟩ a w'/\RdA β' S' (look (MD st.h dl.wr)) w' (tmv a) v dl.v
def Bx(β:Nat->oP Nat)(S:Nat->Prop)(st:St)(a:Act)(w:World)(o:Oper)(ev:Operand->AV):Prop:=
 ∀x∈o.op.operands.toList,RdA β S (look st.h) w (tmv a) (a.eval x) (ev x)/\∀l,Ut st l=true->Yq l (ev x)=false
def Qge(st:St)(hl:Nat->oP Ob)(dl:Dl):Prop:=∀l,l∈dl.rd\/l∈wrL dl->look st.h l=hl l
def K6(P:Program)(E:Env)(o:Oper)(ev:Operand->AV)(hl:Nat->oP Ob)(dl:Dl):Prop:=
 ∀β S st a w,Rel E β S st a w->Bx β S st a w o ev->Qge st hl dl->Wm st dl.wr=true ->
  ∀(K:Act->World->Prop) (Q:Exit->Act->World->Prop),(∀v w',Out E st a dl v w'->K (a.put o.dst v) w')->o.wp P a w K Q
variable{E:Env}
theorem QD{o:Oper}{hl:Nat->oP Ob}{v:AV}{rd:Y Nat}(h:∀β S st a w,Rel E β S st a w->Bx β S st a w o ev->Qge st hl ⟨v,[],rd⟩->∃u,(execOp a.eval o).run P w = .ok (.value u) w/\RdA β S (look st.h) w (tmv a) u v) :
  K6 P E o ev hl ⟨v,[],rd⟩:=by
 intro β S st a w hR hO hA _ K Q hK;obtain⟨u,aa,hu⟩:=h β S st a w hR hO hA;unfold Oper.wp;rw[aa];exact hK u w ⟨β,S,by assumption,by assumption⟩
theorem Bx.at{β:Nat->oP Nat}{S:Nat->Prop}{st:St}{a:Act}{w:World}{o:Oper}(h:Bx β S st a w o ev){x:Operand}(hx:x∈o.op.operands.toList) :
  RdA β S (look st.h) w (tmv a) (a.eval x) (ev x):=(h x hx).1
theorem Bx.nm{β:Nat->oP Nat}{S:Nat->Prop}{st:St}{a:Act}{w:World}{o:Oper}(h:Bx β S st a w o ev){x:Operand}(hx:x∈o.op.operands.toList){l:Nat}(hc:Ut st l=true) :
  Yq l (ev x)=false:=(h x hx).2 l hc
section inv
variable{β:Nat->oP Nat} {S:Nat->Prop} {h:Nat->oP Ob} {w:World} {tm:Nat->Value} {v:Value}
theorem RdA.int_inv{k:IntKind}{n:Int}(hv:RdA β S h w tm v (.d (.int k n))):v = .int k n:=by
 cases hv with
 |d _ _ hx=>cases hx;rfl
 |dang _ _ l hl _ _=>trivial
theorem RdA.bool_inv{b:Bool}(hv:RdA β S h w tm v (.d (.bool b))):v = .bool b:=by
 cases hv with
 |d _ _ hx=>cases hx;rfl
 |dang _ _ l hl _ _=>trivial
theorem RdA.str_inv{l:Y UInt8}(hv:RdA β S h w tm v (.d (.str l))):∃s:ByteArray,l=s.data.toList/\v = .string s:=by
 cases hv with
 |d _ _ hx=>cases hx with
  |str s=>simp_all
 |dang _ _ l hl _ _=>trivial
theorem RdA.d_inv{x:D}(hv:RdA β S h w tm v (.d x)):Rd S w v x:=by
 cases hv with
 |d _ _ hx=>exact hx
 |dang _ _ l hl _ _=>trivial
theorem RdA.ptr_inv{l off:Nat}(hv:RdA β S h w tm v (.ptr l off)):∃b,β l=some b/\v = .pointer (some ⟨b,off,none⟩):=by
 cases hv with
 |ptr _ _ b hb=>simp_all
 |dang _ _ l hl _ _=>trivial
theorem RdA.el_inv{row:Y D}{off:Nat}(hv:RdA β S h w tm v (.el row off)) :
  ∃(ad:Addr) (c:Nat->Value),v = .pointer (some ad)/\S ad.block/\(∀(j:Nat) (x:D),row[off+j]? = some x->w.cell? (ad.add j)=some (c j))/\∀(j:Nat) (x:D),row[off+j]? = some x->Rd S w (c j) x:=by
 cases hv with
 |el ad _ _ c hs hc hr=>exact⟨ad,c,rfl,hs,hc,hr⟩
 |dang _ _ l hl _ _=>trivial
theorem RdA.ap_inv{l i off e s:Nat}{rows:Y (Y D)}(hh:h l=some (.arr e s rows))(hv:RdA β S h w tm v (.ap l i off)) :
  ∃b,β l=some b/\v = .pointer (some ⟨b,i*s+off,none⟩):=by
 cases hv with
 |ap _ _ _ b e' s' aa hb ac=>
  simp_all
 |dang _ _ l' hl hn _=>grind[P0]
theorem RdA.ag_inv{l:Y AV}(hv:RdA β S h w tm v (.ag l)):∃cs:Array Value,v = .agg cs/\cs.size=l.length/\∀(i:Nat) (x:AV),l[i]? = some x->RdA β S h w tm (cs.getD i undef) x:=by
 cases hv with
 |ag cs _ hl hr=>simp_all
 |dang _ _ l hl _ _=>trivial
theorem RdA.tup_inv{l:Y AV}(hv:RdA β S h w tm v (.tup l)):∃cs:Array Value,v = .tuple cs/\cs.size=l.length/\∀(i:Nat) (x:AV),l[i]? = some x->RdA β S h w tm (cs.getD i undef) x:=by
 cases hv with
 |tup cs _ hl hr=>simp_all
 |dang _ _ l hl _ _=>trivial
theorem RdA.fs_inv{s:Nat}{rows:Y (Y D)}(hv:RdA β S h w tm v (.fs s rows)):∃ad,v = .slice ad rows.length rows.length/\Rd S w v (.sl s rows):=by
 cases hv with
 |fs ad _ _ hx=>simp_all
 |dang _ _ l hl=>trivial
theorem RdA.nil_inv(hv:RdA β S h w tm v .nil):v = .slice none 0 0:=by
 cases hv with
 |nil=>rfl
 |dang _ _ l hl _ _=>trivial
theorem RdA.arr_inv{l e s:Nat}{rows:Y (Y D)}(hh:h l=some (.arr e s rows))(hv:RdA β S h w tm v (.arr l)) :
  (β l=none/\rows=[]/\v = .slice none 0 0)\/∃b cap cs ty fz,β l=some b/\v = .slice (some ⟨b,0,none⟩) rows.length cap/\w.heap[b]? = some (.cells cs ty fz)/\cs.size=cap*s/\rows.length<=cap/\cap<=maxLen:=by
 cases hv with
 |arr0 _ e' s' hb aa=>
  simp_all
 |arr _ b cap e' s' ac cs ty fz hb aa hw am ai aj=>
  grind
 |mp _ b t f hb aa=>simp_all
 |dang _ _ l' hl hn _=>grind[P0]
theorem RdA.mp_inv{l t:Nat}{f:Int->Bool}(hh:h l=some (.mp t f))(hv:RdA β S h w tm v (.arr l)):∃b,β l=some b/\v = .map (some b):=by
 cases hv with
 |arr0 _ e' s' hb aa=>simp_all
 |arr _ b cap e' s' ac cs ty fz hb aa hw an ai aj=>rw[hh]at aa;cases aa
 |mp _ b t f hb aa=>simp_all
 |dang _ _ l' hl hn _=>grind[P0]
end inv
theorem M6{k:IntKind}{x:D}{n:Int}(h:Qk k x=some n):x = .int k n:=by
 cases x with
 |int k' m=>
  grind[Qk]
 |_=>trivial
theorem ML{x:D}{n:Bool}(h:PD x=some n):x = .bool n:=by
 cases x<;>simp[PD]at h;rw[h]
theorem FK{x:D}{n:Y UInt8}(h:Vp x=some n):x = .str n:=by
 cases x<;>simp[Vp]at h;rw[h]
theorem Q7d{s:Nat}{x:D}{n:Y (Y D)}(h:pSl s x=some n):x = .sl s n:=by
 cases x with
 |sl s' m=>
  grind[pSl,Nat.beq,Nat.eq_of_beq_eq_true]
 |_=>trivial
theorem Bj{R:Type}{g:Bool}{kd:Kd}{av:AV}{k:AV->oP R}{r:R}(h:prj g kd av k=some r) :
  ∃v,k v=some r/\(g=true->v=av)/\Q0V av=true:=by
 unfold prj at h;split at h
 ·split at h
  ·obtain⟨n,hn,hp⟩:=Qy h;exact⟨_,hn,λhg=>by grind[M6],rfl⟩
  ·obtain⟨n,hn,hp⟩:=Qy h;exact⟨_,hn,λhg=>by grind[ML],rfl⟩
  ·obtain⟨n,hn,hp⟩:=Qy h;exact⟨_,hn,λhg=>by grind[FK],rfl⟩
  ·obtain⟨n,hn,hp⟩:=Qy h;exact⟨_,hn,λhg=>by grind[Q7d],rfl⟩
  ·cases h
 grind
theorem LB{R:Type}{g:Bool}{row:Y D}:∀{n off:Nat} {k:Y AV->oP R} {r:R},Q1n g row off n k=some r ->
  ∃cs:Y D,k (cs.map .d)=some r/\cs.length=n/\(g=true->∀j,j<n->row[off+j]? = cs[j]?)
 |0,off,k,r,h=>⟨[],by simpa[Q1n]using h,rfl,λ_ j hj=>by omega⟩
 |n+1,off,k,r,h=>by
  unfold Q1n at h;obtain⟨c,hc,hp⟩:=Qy h;obtain⟨cs,h1,h2,h3⟩:=LB hc;refine⟨c::cs,by simpa using h1,by simp[h2],λhg j hj=>?_⟩;cases j with
  |zero=>simpa using hp hg
  |succ j=>
   have:=h3 hg j I;rw[show off+(j+1)=off+1+j from I];simpa using this
theorem RO{cells:Y AV}:∀{n off:Nat} {cs:Y AV},BH cells off n=some cs->cs.length=n/\(∀j,j<n->cells[off+j]? = cs[j]?)/\∀(j:Nat) (c:AV),cs[j]? = some c->Q0V c=true
 |0,off,cs,h=>by
  simp[BH]at h;subst h;exact⟨rfl,λj hj=>by omega,λj c hc=>by simp at hc⟩
 |n+1,off,cs,h=>by
  unfold BH at h;split at h
  ·rename_i c hc;split at h
   ·rename_i r hr;obtain⟨h1,h2,h3⟩:=RO hr;cases hn:Q0V c with
    |true=>
     simp[hn]at h;subst h;refine⟨by simp[h1],λj hj=>?_,λj c' aa=>?_⟩
     ·cases j with
      |zero=>simpa using hc
      |succ j=>
       rw[show off+(j+1)=off+1+j from I];simpa using h2 j I
     ·cases j with
      |zero=>simp at aa;subst aa;exact hn
      |succ j=>exact h3 j c' (by simpa using aa)
    |false=>simp[hn]at h
   ·cases h
  ·cases h
theorem Q1W:∀{l:Y AV},Jo l=true->∀t,Q07 t l=false
 |[],_,_=>rfl
 |.ptr ..::r,h,t=>by simp[Q07,gds,Q1W (l:=r) (by simpa[Jo]using h) t]
 |.d _::r,h,t=>by simp[Q07,gds,Q1W (l:=r) (by simpa[Jo]using h) t]
 |.top::_,h,_=>by simp[Jo]at h
 |.nil::_,h,_=>by simp[Jo]at h
 |.ag _::_,h,_=>by simp[Jo]at h
 |.tup _::_,h,_=>by simp[Jo]at h
 |.el ..::_,h,_=>by simp[Jo]at h
 |.fs ..::_,h,_=>by simp[Jo]at h
 |.mpd _::_,h,_=>by simp[Jo]at h
 |.ex _::_,h,_=>by simp[Jo]at h
 |.arr _::_,h,_=>by simp[Jo]at h
 |.ap ..::_,h,_=>by simp[Jo]at h
 |.gd ..::_,h,_=>by simp[Jo]at h
 |.fn ..::_,h,_=>by simp[Jo]at h
theorem R1{av:AV}(h:Q0V av=true)(t:Nat):gds t av=false:=by
 cases av with
 |fn f l=>grind[gds,Q1W,Q0V]
 |_=>trivial
theorem RdA.any_tm{β:Nat->oP Nat}{S:Nat->Prop}{h:Nat->oP Ob}{w:World}{tm:Nat->Value}{v:Value}{av:AV}(hg:Q0V av=true)(hv:RdA β S h w tm0 v av):RdA β S h w tm v av:=by
 refine RdA.mono hv (λ_ hb=>hb) (λ_ _=>rfl) (λl _=>⟨rfl,λx=>x,λe s rows hh=>.inr ⟨rows,hh,rfl⟩,λb cs ty fz _ _ hw=>⟨cs,ty,fz,hw,rfl⟩,λ_ f hh=>.inr ⟨f,hh⟩⟩) (λt ht=>?_)
 grind[R1]
end
end Go.Vx
namespace Go.Vx
variable{w:World}
section
variable{P:Program} {E:Env} {R:Type}
theorem J9{b o:Nat}{cs:Array Value}{ty:TypeId}{fz:Nat×Nat}(h:w.heap[b]? = some (.cells cs ty fz)):w.cell? ⟨b,o,none⟩=cs[o]?:=by
 simp[World.cell?,h]
theorem VU{t:Nat}{ti:TyI}(ht:TyOk P t ti)(hs:UV ti.kd=false){a:Addr}{v:Value}(hc:w.cell? a=some v) :
  (loadVar t a).run P w = .ok v w:=by
 simp only[loadVar,Qpb,ht.agg,hs,Qp7,Bool.false_eq_true,if_false,run_load,hc]
theorem VY{t:Nat}{ti:TyI}(ht:TyOk P t ti)(hs:UV ti.kd=true){a:Addr}{vs:Y Value}(hl:vs.length=ti.size)(hc:∀(j:Nat) (v:Value),vs[j]? = some v->w.cell? (a.add j)=some v) :
  (loadVar t a).run P w = .ok (.agg vs.toArray) w:=by
 have h1:=run_loadCells_list (P:=P) w a vs hc;rw[hl]at h1;simp only[loadVar,Qpb,ht.agg,hs,Qp7,if_true,ht.size,h1];rfl
theorem KI{cs:Array Value}{i:Nat}(h:i<cs.size):cs[i]? = some (cs.getD i undef):=by
 simp_all
theorem FH{vs:Y Value}{i:Nat}{v:Value}(h:vs[i]? = some v):vs.toArray.getD i undef=v:=by
 simp_all
theorem J0{o:Oper}{t:TypeId}{x:Operand}(ho:o.op = .load t x){a:Act}{ad:Addr}{v:Value}(hx:a.eval x = .pointer (some ad))(hv:(loadVar t ad).run P w = .ok v w) :
  (execOp a.eval o).run P w = .ok (.value v) w:=by
 simp_all [execOp,Instr.loadAt,Instr.sureAddr]
theorem Q48{S:Nat->Prop}{ad:Addr}{row:Y D}{off:Nat}{c:Nat->Value}(hc:∀(j:Nat) (x:D),row[off+j]? = some x->w.cell? (ad.add j)=some (c j))(hr:∀(j:Nat) (x:D),row[off+j]? = some x->Rd S w (c j) x){cs:Y D}{n:Nat}(hn:cs.length=n)(aa:∀j,j<n->row[off+j]? = cs[j]?) :
  ∃vs:Y Value,vs.length=n/\(∀(j:Nat) (v:Value),vs[j]? = some v->w.cell? (ad.add j)=some v)/\∀(j:Nat) (x:D),cs[j]? = some x->∃v,vs[j]? = some v/\Rd S w v x:=by
 refine⟨(List.range n).map c,by simp,λj v hv=>?_,λj x hx=>?_⟩
 all_goals grind
theorem Q9I{β:Nat->oP Nat}{S:Nat->Prop}{h:Nat->oP Ob}{tm:Nat->Value}{vs:Y Value}{cs:Y D}(hl:vs.length=cs.length)(hr:∀(j:Nat) (x:D),cs[j]? = some x->∃v,vs[j]? = some v/\Rd S w v x):RdA β S h w tm (.agg vs.toArray) (.ag (cs.map .d)):=by
 refine .ag _ _ (by simp[hl]) λi x hx=>?_
 simp only[Qpi,Qpd]at hx;obtain⟨y,hy,rfl⟩:=hx;obtain⟨v,hv,aa⟩:=hr i y hy;rw[FH hv];exact .d _ _ aa
theorem Q96{tt:TT}(hT:TOk P tt){o:Oper}{t:TypeId}{x:Operand}(ho:o.op = .load t x){g:Bool}{ev:Operand->AV}{hl:Nat->oP Ob}{k:Dl->oP R}{r:R}(h:Qf2 tt g hl t (ev x) k=some r):∃dl,k dl=some r/\(g=true->K6 P E o ev hl dl):=by
 have ac:x∈o.op.operands.toList:=by grind[Op.operands]
 unfold Qf2 at h;split at h
 case h_2=>cases h
 rename_i ti bj;have aw:=hT t ti bj;split at h
 ·-- a box
  rename_i l off am;split at h
  ·rename_i cells ar;cases hs:UV ti.kd with
   |true=>
    simp only[hs,Qpc]at h;split at h
    ·rename_i cs a2;refine⟨_,h,λ_=>QD λβ S st a w hR hO hA=>?_⟩;obtain⟨b,hb,hv⟩:=(am▸hO.at ac).ptr_inv;have ai:look st.h l=some (.box cells):=by rw[hA l (.inl Q2)];exact ar
     obtain⟨b',ty,vs,fz,aj,hw,_,bc,ak⟩:=hR.hr.ob l _ ai;obtain rfl:b=b':=by simp_all
     obtain⟨h1,h2,h3⟩:=RO a2;have ao:∀j,j<ti.size->off+j<vs.size:=λj hj=>by
      grind
     refine⟨_,J0 ho hv (VY aw hs (vs:=(List.range ti.size).map λj=>vs.getD (off+j) undef) Q2 λj v hv=>?_),?_⟩
     ·simp only[Qpi,Qpd]at hv;obtain⟨j',bi,rfl⟩:=hv;obtain⟨a7,he⟩:=Qp8.1 bi;simp at a7 he;subst he;rw[Jy,J9 hw];exact KI (ao j a7)
     ·refine .ag _ _ (by simp[h1]) λi y hy=>?_
      have hi:i<ti.size:=by
       obtain⟨h6,_⟩:=Qp8.1 hy;omega
      rw[FH (v:=vs.getD (off+i) undef) (by simp[hi])];exact(ak (off+i) y ((h2 i hi).trans hy)).any_tm (h3 i y hy)
    ·cases h
   |false=>
    simp only[hs,cond_false]at h;split at h
    ·rename_i c hc;obtain⟨v,az,a3,bb⟩:=Bj h;refine⟨_,az,λhg=>QD λβ S st a w hR hO hA=>?_⟩;obtain⟨b,hb,hv⟩:=(am▸hO.at ac).ptr_inv;have ai:look st.h l=some (.box cells):=by rw[hA l (.inl Q2)];exact ar
     obtain⟨b',ty,vs,fz,aj,hw,_,bc,ak⟩:=hR.hr.ob l _ ai;obtain rfl:b=b':=by rw[hb]at aj;injection aj
     have ao:off<vs.size:=by
      obtain⟨h6,_⟩:=Qp8.1 hc;omega
     refine⟨_,J0 ho hv (VU aw hs (by rw[J9 hw];exact KI ao)),?_⟩;rw[a3 hg];exact(ak off c hc).any_tm bb
    ·cases h
  ·cases h
 ·-- a row of data
  rename_i row off am;cases hs:UV ti.kd with
  |true=>
   simp only[hs,Qpc]at h;obtain⟨cs,hk,ay,a2⟩:=LB h;refine⟨_,hk,λhg=>QD λβ S st a w hR hO hA=>?_⟩;obtain⟨ad,c,hv,_,hc,hr⟩:=(am▸hO.at ac).el_inv;obtain⟨vs,h1,h2,h3⟩:=Q48 hc hr ay (a2 hg);exact⟨_,J0 ho hv (VY aw hs h1 h2),Q9I I h3⟩
  |false=>
   simp only[hs,cond_false]at h;obtain⟨c0,h,a4⟩:=Qy h;obtain⟨v,az,a3,_⟩:=Bj h;refine⟨_,az,λhg=>QD λβ S st a w hR hO hA=>?_⟩;obtain⟨ad,c,hv,_,hc,hr⟩:=(am▸hO.at ac).el_inv;refine⟨_,J0 ho hv (VU aw hs (v:=c 0) ?_),?_⟩
   ·have:=hc 0 c0 (a4 hg);simpa[Addr.add]using this
   ·rw[a3 hg];exact .d _ _ (hr 0 c0 (a4 hg))
 ·-- an array of the call's own
  rename_i l i off am;split at h
  ·rename_i e s rows a5;obtain⟨row,h,a6⟩:=Qy h;cases hs:UV ti.kd with
   |true=>
    simp only[hs,Qpc]at h;obtain⟨cs,hk,ay,a2⟩:=LB h;refine⟨_,hk,λhg=>QD λβ S st a w hR hO hA=>?_⟩;have ai:look st.h l=some (.arr e s rows):=by rw[hA l (.inl Q2)];exact a5
    obtain⟨b,hb,hv⟩:=RdA.ap_inv ai (am▸hO.at ac);have aa:=a6 hg;rcases hR.hr.ob l _ ai with⟨_,hn⟩|⟨b',vs,aj,hw,_,bh,ak⟩
    ·subst hn;simp at aa
    obtain rfl:b=b':=by rw[hb]at aj;injection aj
    obtain⟨bk,h1,h2,h3⟩:=Q48 (S:=S) (w:=w) (ad:=⟨b,i*s+off,none⟩) (row:=row) (off:=off) (c:=λj=>vs.getD (i*s+(off+j)) undef)
     (λj x hx=>by
      obtain⟨v,ba,_⟩:=ak i (off+j) row x aa hx;rw[Jy,J9 hw,QpC];obtain⟨ao,_⟩:=Qpm.1 ba;exact KI ao)
     (λj x hx=>by
      obtain⟨v,ba,a8⟩:=ak i (off+j) row x aa hx;obtain⟨ao,he⟩:=Qpm.1 ba;have:vs.getD (i*s+(off+j)) undef=v:=by simp[Array.getD,ao,he]
      rw[this];exact a8) ay (a2 hg)
    exact⟨_,J0 ho hv (VY aw hs h1 h2),Q9I I h3⟩
   |false=>
    simp only[hs,cond_false]at h;obtain⟨c0,h,a4⟩:=Qy h;obtain⟨v,az,a3,_⟩:=Bj h;refine⟨_,az,λhg=>QD λβ S st a w hR hO hA=>?_⟩;have ai:look st.h l=some (.arr e s rows):=by rw[hA l (.inl Q2)];exact a5
    obtain⟨b,hb,hv⟩:=RdA.ap_inv ai (am▸hO.at ac);have aa:=a6 hg;rcases hR.hr.ob l _ ai with⟨_,hn⟩|⟨b',vs,aj,hw,_,bh,ak⟩
    ·subst hn;simp at aa
    obtain rfl:b=b':=by rw[hb]at aj;injection aj
    obtain⟨u,hu,a8⟩:=ak i off row c0 aa (a4 hg);refine⟨_,J0 ho hv (VU aw hs (v:=u) ?_),?_⟩
    ·rw[J9 hw];exact hu
    ·rw[a3 hg];exact .d _ _ a8
  ·cases h
 ·cases h
end
end Go.Vx
namespace Go.Vx
variable{hl:Nat->oP Ob} {ev:Operand->AV} {β:Nat->oP Nat} {S:Nat->Prop} {w:World} {h:Nat->oP Ob} {tm:Nat->Value} {o:Oper} {v:Value} {tt:TT} {t:TypeId} {x:Operand}
section
variable{P:Program} {E:Env} {R:Type}
theorem Q4e(ho:o.op = .move x\/o.op = .assign x):K6 P E o ev hl ⟨ev x,[],[]⟩:=by
 refine QD λβ S st a w hR hO hA=>⟨a.eval x,?_,hO.at (by grind[Op.operands])⟩
 unfold execOp;rcases ho with ho | ho<;>rw[ho]<;>simp
theorem Pc(ho:o.op = .nilCheck x){a:Act}{ad:Addr}(aa:a.eval x = .pointer (some ad)) :
  (execOp a.eval o).run P w = .ok (.value (.pointer (some ad))) w:=by
 simp_all [execOp]
theorem EN(ho:o.op = .nilCheck x){l f:Nat}(hv:ev x = .ptr l f):K6 P E o ev hl ⟨.ptr l f,[],[]⟩:=by
 refine QD λβ S st a w hR hO hA=>?_
 have hx:=hv▸hO.at (x:=x) (by grind[Op.operands]);obtain⟨b,_,h⟩:=hx.ptr_inv
 grind[Pc]
theorem Cv(ho:o.op = .nilCheck x){l:Y D}{f:Nat}(hv:ev x = .el l f):K6 P E o ev hl ⟨.el l f,[],[]⟩:=by
 refine QD λβ S st a w hR hO hA=>?_
 have hx:=hv▸hO.at (x:=x) (by grind[Op.operands]);obtain⟨b,_,h,_⟩:=hx.el_inv
 grind[Pc]
theorem RdA.ap_ptr{l i off:Nat}(hh:(h l).isSome=true)(hv:RdA β S h w tm v (.ap l i off)):∃ad,v = .pointer (some ad):=by
 cases hv with
 |ap _ _ _ b e s rows hb hh=>simp_all
 |dang _ _ l' hl hn _=>grind[P0]
theorem CP(ho:o.op = .nilCheck x){l i f:Nat}(hs:(hl l).isSome=true)(hv:ev x = .ap l i f):K6 P E o ev hl ⟨.ap l i f,[],[l]⟩:=by
 refine QD λβ S st a w hR hO hA=>?_
 have hx:=hv▸hO.at (x:=x) (by grind[Op.operands]);obtain⟨ad,h⟩:=hx.ap_ptr (by rw[hA l (.inl Q2)];exact hs)
 grind[Pc]
theorem Q9D{op:UnOp}(ho:o.op = .unOp op t x){a:Act}{u v:Value}(hx:a.eval x=u)(h:(Op.unary op u).run P w = .ok v w) :
  (execOp a.eval o).run P w = .ok (.value v) w:=by
 simp_all [execOp]
theorem Qf4{op:UnOp}(ho:o.op = .unOp op t x){v:AV}(h:vUn op (ev x)=some v) :
  K6 P E o ev hl ⟨v,[],[]⟩:=by
 refine QD λβ S st a w hR hO hA=>?_
 have hx:=hO.at (x:=x) (by grind[Op.operands]);unfold vUn at h;split at h
 ·rename_i b hb;cases h;rw[hb]at hx;exact⟨.bool (!b),Q9D ho hx.bool_inv (by rfl),.d _ _ (.bool _)⟩
 ·rename_i k n hb;cases h;rw[hb]at hx;exact⟨.int k (k.wrap (0-n)),Q9D ho hx.int_inv (by rfl),.d _ _ (.int _ _)⟩
 ·rename_i k n hb;cases h;rw[hb]at hx;exact⟨.int k (QfU k n),Q9D ho hx.int_inv (by rfl),.d _ _ (.int _ _)⟩
 ·cases h
theorem Nx(op:BinOp)(t:TypeId)(x y:Operand)(k k':IntKind)(a b:Int)(w:World):(eqGuard op t x y (.int k a) (.int k' b)).run P w = .ok () w:=by
 simp[eqGuard]
theorem N3(op:BinOp)(t:TypeId)(x y:Operand)(a b:Bool)(w:World):(eqGuard op t x y (.bool a) (.bool b)).run P w = .ok () w:=by
 simp[eqGuard]
theorem Mf{op:BinOp}{t t':TypeId}{x y:Operand}(ho:o.op = .binOp op t x y t'){a:Act}{u u' v:Value}(hx:a.eval x=u)(hy:a.eval y=u')(hg:(eqGuard op t x y u u').run P w = .ok () w)(h:(binOp op t u u').run P w = .ok v w) :
  (execOp a.eval o).run P w = .ok (.value v) w:=by
 simp_all [execOp]
theorem Ng(d:Nat)(hu:P.underlying t=some .bool)(a b:Bool)(w:World):(Op.equalIn (d+1) t (.bool a) (.bool b)).run P w = .ok (a == b) w:=by
 simp_all [Op.equalIn,Qpb,X6,Qp7]
theorem Q3O(hu:P.underlying t=some .bool)(a b:Bool)(w:World):(binOp .eql t (.bool a) (.bool b)).run P w = .ok (.bool (a == b)) w:=by
 simp_all [binOp,Op.equal,Op.maxDepth,Qpb,Ng,Qp7]
theorem Q54(hu:P.underlying t=some .bool)(a b:Bool)(w:World):(binOp .neq t (.bool a) (.bool b)).run P w = .ok (.bool (!(a == b))) w:=by
 simp_all [binOp,Op.equal,Op.maxDepth,Qpb,Ng,Qp7]
theorem BO(d:Nat){t e:TypeId}(hu:P.underlying t=some (.slice e))(b:oP Addr)(n c:Nat)(w:World):(Op.equalIn (d+1) t (.slice b n c) (.slice none 0 0)).run P w = .ok b.isNone w:=by
 cases b<;>simp[Op.equalIn,Qpb,X6 hu,Qp7]
theorem Aa{t e:TypeId}(hu:P.underlying t=some (.slice e))(b:oP Addr)(n c:Nat)(w:World):(binOp .eql t (.slice b n c) (.slice none 0 0)).run P w = .ok (.bool b.isNone) w:=by
 simp[binOp,Op.equal,Op.maxDepth,Qpb,BO _ hu,Qp7]
theorem RdA.sl_some{k:Nat}{r:Y (Y D)}(hv:RdA β S h w tm v (.d (.sl k r)))(hr:r≠[]):∃b n c,v = .slice (some b) n c:=by
 cases hv with
 |d _ _ hv=>
  cases hv with
  |sl0=>exact absurd rfl hr
  |sl a cap s rows f=>exact⟨a,_,_,rfl⟩
 |dang _ _ l hl=>simp[P0]at hl
theorem RdA.gd_inv{t:Nat}{b:Bool}{av:AV}(hv:RdA β S h w tm v (.gd t b av)) :
  (tm t = .bool b/\RdA β S h w tm v av)\/(tm t≠.bool b/\v=undef):=by
 cases hv with
 |gdT _ _ _ _ ht hv=>simp_all
 |gdF _ _ _ ht=>simp_all
 |dang _ _ l hl _ _=>trivial
def dv:D->Value
 |.int k n=>.int k n
 |.bool b=>.bool b
 |_=>undef
theorem Q8o{op:BinOp}{k:IntKind}{a b:Int}{d:D}(h:Q77 op k a b=some d)(t:TypeId)(w:World)(S:Nat->Prop):∃v,(binOp op t (.int k a) (.int k b)).run P w = .ok v w/\Rd S w v d:=by
 refine⟨dv d,?_,?_⟩
 ·cases op<;>simp only[Q77,Option.some.injEq,reduceCtorEq]at h<;>subst h<;>simp[binOp,Op.intArith,Op.intCmp,dv]
 ·cases op<;>simp only[Q77,Option.some.injEq,reduceCtorEq]at h<;>subst h<;>first | exact .int _ _ | exact .bool _
theorem XC{t:Nat}{kd:Kd}(h:TZ tt t=kd)(hn:kd≠.other):∃ti,look tt t=some ti/\ti.kd=kd:=by
 grind[TZ,absurd]
theorem BC(op:BinOp)(t:TypeId)(x y:Operand)(a b:ByteArray)(w:World):(eqGuard op t x y (.string a) (.string b)).run P w = .ok () w:=by
 simp[eqGuard]
theorem Q7t:∀(l:Y Bool),Qbk l=l.all id
 |[]=>rfl
 |[b]=>by simp[Qbk]
 |b::c::r=>by rw[show Qbk (b::c::r)=(b&&Qbk (c::r))from rfl,Q7t (c::r)];simp
theorem BW{g:Bool}:∀{ks:Y Kd} {xs ys:Y AV} {k:Y Bool->oP R} {r:R},Q59 g ks xs ys k=some r->∃bs,k bs=some r/\bs.length=ks.length/\xs.length=ks.length/\ys.length=ks.length /\
  (g=true->∀(β:Nat->oP Nat) (S:Nat->Prop) (h:Nat->oP Ob) (w:World) (tm:Nat->Value) (us vs:Nat->Value),(∀(i:Nat) (x:AV),xs[i]? = some x->RdA β S h w tm (us i) x)->(∀(i:Nat) (x:AV),ys[i]? = some x->RdA β S h w tm (vs i) x) ->
   ∀(j:Nat) (kd:Kd) (b:Bool),ks[j]? = some kd->bs[j]? = some b->CEq kd (us j) (vs j) b)
 |[],[],[],k,r,h=>⟨[],h,rfl,rfl,rfl,λ_ _ _ _ _ _ _ _ _ _ j kd b hj=>by simp at hj⟩
 |kd::ks,x::xs,y::ys,k,r,h=>by
  cases x with
  |d a=>
   cases y with
   |d b=>
    have fin:∀(c:Bool),Q59 g ks xs ys (λr=>k (c::r))=some r->(g=true->∀(β:Nat->oP Nat) (S:Nat->Prop) (h:Nat->oP Ob) (w:World) (tm:Nat->Value) (u v:Value),RdA β S h w tm u (.d a)->RdA β S h w tm v (.d b)->CEq kd u v c) ->
      ∃bs,k bs=some r/\bs.length=(kd::ks).length/\(AV.d a::xs).length=(kd::ks).length/\(AV.d b::ys).length=(kd::ks).length /\
      (g=true->∀(β:Nat->oP Nat) (S:Nat->Prop) (h:Nat->oP Ob) (w:World) (tm:Nat->Value) (us vs:Nat->Value),(∀(i:Nat) (x:AV),(AV.d a::xs)[i]? = some x->RdA β S h w tm (us i) x)->(∀(i:Nat) (x:AV),(AV.d b::ys)[i]? = some x->RdA β S h w tm (vs i) x) ->
       ∀(j:Nat) (ai:Kd) (b:Bool),(kd::ks)[j]? = some ai->bs[j]? = some b->CEq ai (us j) (vs j) b):=by
     intro c hc hq;obtain⟨bs,h1,h2,h3,h4,h5⟩:=BW hc;refine⟨c::bs,h1,by simp[h2],by simp[h3],by simp[h4],λhg β S hh w tm us vs hu hv j ai b' hj hb=>?_⟩;cases j with
     |zero=>simp at hj hb;subst hj hb;exact hq hg β S hh w tm _ _ (hu 0 _ rfl) (hv 0 _ rfl)
     |succ j=>exact h5 hg β S hh w tm (λi=>us (i+1)) (λi=>vs (i+1)) (λi x hx=>hu (i+1) x Q4) (λi x hx=>hv (i+1) x (by simpa using hx)) j ai b' (by simpa using hj) (by simpa using hb)
    cases kd with
    |int ik=>
     simp only[Q59]at h;obtain⟨m,h,hm⟩:=Qy h;obtain⟨n,h,hn⟩:=Qy h;refine fin _ h λhg β S hh w tm u v hu hv=>?_
     rw[M6 (hm hg)]at hu;rw[M6 (hn hg)]at hv;exact⟨m,n,hu.int_inv,hv.int_inv,rfl⟩
    |bool=>
     simp only[Q59]at h;obtain⟨m,h,hm⟩:=Qy h;obtain⟨n,h,hn⟩:=Qy h;refine fin _ h λhg β S hh w tm u v hu hv=>?_
     rw[ML (hm hg)]at hu;rw[ML (hn hg)]at hv;exact⟨m,n,hu.bool_inv,hv.bool_inv,rfl⟩
    |str=>
     simp only[Q59]at h;obtain⟨m,h,hm⟩:=Qy h;obtain⟨n,h,hn⟩:=Qy h;refine fin _ h λhg β S hh w tm u v hu hv=>?_
     rw[FK (hm hg)]at hu;rw[FK (hn hg)]at hv;obtain⟨s,rfl,rfl⟩:=hu.str_inv;obtain⟨t,rfl,rfl⟩:=hv.str_inv;exact⟨s,t,rfl,rfl,rfl⟩
    |_=>simp[Q59]at h
   |_=>simp[Q59]at h
  |_=>simp[Q59]at h
 |[],[],_::_,k,r,h=>by simp[Q59]at h
 |[],_::_,_,k,r,h=>by simp[Q59]at h
 |_::_,[],_,k,r,h=>by simp[Q59]at h
 |_::_,_::_,[],k,r,h=>by simp[Q59]at h
theorem Qbf{op:BinOp}{t t':TypeId}{x y:Operand}(ho:o.op = .binOp op t x y t'){g:Bool}{k:Dl->oP R}{r:R}{a0 b0:Y UInt8}(am:ev x = .d (.str a0))(ai:ev y = .d (.str b0))(h:Qiu g op a0 b0 (λv=>k ⟨v,[],[]⟩)=some r):∃dl,k dl=some r/\(g=true->K6 P E o ev hl dl):=by
 have ak:x∈o.op.operands.toList:=by grind[Op.operands]
 have aj:y∈o.op.operands.toList:=by simp[ho,Op.operands]
 have fin:∀(d:D) (v:ByteArray->ByteArray->Value),k ⟨.d d,[],[]⟩=some r->(g=true->∀(s u:ByteArray) (w:World) (S:Nat->Prop),s.data.toList=a0->u.data.toList=b0->(Op.stringOp op s u).run P w = .ok (v s u) w/\Rd S w (v s u) d)->∃dl,k dl=some r/\(g=true->K6 P E o ev hl dl):=by
  intro d v hk hr;refine⟨_,hk,λhg=>QD λβ S st a w hR hO hA=>?_⟩;obtain⟨s,hs,hx⟩:=(am▸hO.at ak).str_inv;obtain⟨u,hu,hy⟩:=(ai▸hO.at aj).str_inv;obtain⟨h1,h2⟩:=hr hg s u w S hs.symm hu.symm;refine⟨_,Mf ho hx hy (BC ..) ?_,.d _ _ h2⟩
  grind[binOp,Op.stringOp]
 cases op<;>simp only[Qiu,reduceCtorEq]at h
 ·obtain⟨_,h,hp⟩:=Qy h;refine fin _ (λs u=>.string (s++u)) h λhg s u w S hs hu=>⟨?_,?_⟩
  ·have hp:=hp hg;unfold Q8i at hp;cases hb:Nat.ble (a0.length+b0.length) 9223372036854775807 with
   |false=>simp_all
   |true=>
    have:=Qpj hb;refine run_string_add_sum w s u ?_;rw[<- hs,<- hu,Qpl,Qpl]at this;exact this
  ·have:(s++u).data.toList=a0++b0:=by simp_all
   rw[<- this];exact .str _
 ·exact fin _ (λs u=>.bool (s.toList == u.toList)) h λhg s u w S hs hu=>⟨by rfl,by rw[Qpf,Qpf,hs,hu];exact .bool _⟩
 ·exact fin _ (λs u=>.bool (!(s.toList == u.toList))) h λhg s u w S hs hu=>⟨by simp[Op.stringOp],by rw[Qpf,Qpf,hs,hu];exact .bool _⟩
 ·exact fin _ (λs u=>.bool (Op.bytesLess s.toList u.toList)) h λhg s u w S hs hu=>⟨by simp[Op.stringOp],by rw[Qpf,Qpf,hs,hu];exact .bool _⟩
 ·exact fin _ (λs u=>.bool (Op.bytesLess s.toList u.toList||s.toList == u.toList)) h λhg s u w S hs hu=>⟨by simp[Op.stringOp],by rw[Qpf,Qpf,hs,hu];exact .bool _⟩
 ·exact fin _ (λs u=>.bool (!(Op.bytesLess s.toList u.toList||s.toList == u.toList))) h λhg s u w S hs hu=>⟨by simp[Op.stringOp],by rw[Qpf,Qpf,hs,hu];exact .bool _⟩
 ·exact fin _ (λs u=>.bool (!Op.bytesLess s.toList u.toList)) h λhg s u w S hs hu=>⟨by simp[Op.stringOp],by rw[Qpf,Qpf,hs,hu];exact .bool _⟩
theorem QbD(hT:TOk P tt){op:BinOp}{t t':TypeId}{x y:Operand}(ho:o.op = .binOp op t x y t'){g:Bool}{k:Dl->oP R}{r:R}(h:QiZ g op (TZ tt t) (Qec tt t) (ev x) (ev y) (λv=>k ⟨v,[],[]⟩)=some r):∃dl,k dl=some r/\(g=true->K6 P E o ev hl dl):=by
 have ar:x∈o.op.operands.toList:=by grind[Op.operands]
 have an:y∈o.op.operands.toList:=by simp[ho,Op.operands]
 unfold QiZ at h;split at h
 ·rename_i ac aa;split at h
  ·rename_i ao;obtain⟨ti,aj,ai⟩:=XC ao Q2;have hu:=((hT t ti aj).ksl _ _ ai).1;refine⟨_,h,λhg=>QD λβ S st a w hR hO hA=>?_⟩;have hx:=(ac▸hO.at ar).nil_inv;have hy:=(aa▸hO.at an).nil_inv;exact⟨.bool true,Mf ho hx hy (by simp[eqGuard]) (Aa hu none 0 0 w),.d _ _ (.bool _)⟩
  ·cases h
 ·rename_i esz r0 ac aa;split at h
  ·rename_i ao;obtain⟨ti,aj,ai⟩:=XC ao Q2;have hu:=((hT t ti aj).ksl _ _ ai).1;obtain⟨_,h,hp⟩:=Qy h;refine⟨_,h,λhg=>QD λβ S st a w hR hO hA=>?_⟩;have hy:=(aa▸hO.at an).nil_inv;have a9:r0≠[]:=λe=>by
    subst e;exact nomatch hp hg
   obtain⟨b,n,c,hx⟩:=(ac▸hO.at ar).sl_some a9;exact⟨.bool false,Mf ho hx hy (by simp[eqGuard]) (Aa hu (some b) n c w),.d _ _ (.bool _)⟩
  ·cases h
 ·rename_i ka a0 kb b0 ac aa;have fin:∀(d:Int),k ⟨.d (.int ka d),[],[]⟩=some r->(g=true->∀w:World,(binOp op t (.int ka a0) (.int kb b0)).run P w = .ok (.int ka d) w)->∃dl,k dl=some r/\(g=true->K6 P E o ev hl dl):=by
   intro d hk hr;refine⟨_,hk,λhg=>QD λβ S st a w hR hO hA=>?_⟩;have hx:=(ac▸hO.at ar).int_inv;have hy:=(aa▸hO.at an).int_inv;exact⟨_,Mf ho hx hy (Nx ..) (hr hg w),.d _ _ (.int _ _)⟩
  have a7:∀{u:Unit},Ac b0=some u->0<=b0:=by
   grind[Ac]
  split at h
  ·obtain⟨_,h,hp⟩:=Qy h;refine fin _ h λhg w=>?_
   have h0:=a7 (hp hg);have:¬ b0<0:=I
   simp[binOp,Op.shift,this,shL]
  ·obtain⟨_,h,hp⟩:=Qy h;refine fin _ h λhg w=>?_
   have h0:=a7 (hp hg);have:¬ b0<0:=I
   simp[binOp,Op.shift,this,shR]
  ·rename_i bp bk;cases hk:(ka == kb)with
   |false=>simp[hk]at h
   |true=>
    obtain rfl:ka=kb:=by simpa using hk
    simp only[hk,Qpc]at h;split at h
    ·obtain⟨_,h,hp⟩:=Qy h;refine fin _ h λhg w=>?_
     have az:¬ b0=0:=by
      intro e;subst e;simp[nz]at hp;exact absurd hp (by simp[hg])
     simp[binOp,Op.intDiv,az]
    ·obtain⟨_,h,hp⟩:=Qy h;refine fin _ h λhg w=>?_
     have az:¬ b0=0:=by
      intro e;subst e;simp[nz]at hp;exact absurd hp (by simp[hg])
     simp[binOp,Op.intDiv,az]
    ·exact fin _ h λhg w=>by simp[binOp,Op.intBits,Q7f]
    ·exact fin _ h λhg w=>by simp[binOp,Op.intBits,bOr]
    ·exact fin _ h λhg w=>by simp[binOp,Op.intBits,Qih]
    ·exact fin _ h λhg w=>by simp[binOp,Op.intBits,Q8H]
    ·split at h
     ·rename_i d hd;refine⟨_,h,λhg=>QD λβ S st a w hR hO hA=>?_⟩;have hx:=(ac▸hO.at ar).int_inv;have hy:=(aa▸hO.at an).int_inv;obtain⟨v,hv,hr⟩:=Q8o (P:=P) hd t w S;exact⟨v,Mf ho hx hy (Nx ..) hv,.d _ _ hr⟩
     ·cases h
 ·rename_i a0 b0 ac aa;split at h
  ·rename_i ao;obtain⟨ti,aj,ai⟩:=XC ao Q2;have hu:=(hT t ti aj).kbool ai;refine⟨_,h,λhg=>QD λβ S st a w hR hO hA=>?_⟩;have hx:=(ac▸hO.at ar).bool_inv;have hy:=(aa▸hO.at an).bool_inv;exact⟨.bool (a0 == b0),Mf ho hx hy (N3 ..) (Q3O hu ..),.d _ _ (.bool _)⟩
  ·rename_i ao;obtain⟨ti,aj,ai⟩:=XC ao Q2;have hu:=(hT t ti aj).kbool ai;refine⟨_,h,λhg=>QD λβ S st a w hR hO hA=>?_⟩;have hx:=(ac▸hO.at ar).bool_inv;have hy:=(aa▸hO.at an).bool_inv;exact⟨.bool (!(a0 == b0)),Mf ho hx hy (N3 ..) (Q54 hu ..),.d _ _ (.bool _)⟩
  ·cases h
 ·rename_i a0 b0 ac aa;exact Qbf ho ac aa h
 ·rename_i xs ys ac aa;split at h
  case h_2=>cases h
  rename_i ks ax;obtain⟨ti,aj,bb⟩:∃ti,look tt t=some ti/\ti.eqk=some ks:=by
   unfold Qec at ax;split at ax
   ·rename_i ti aj;exact⟨ti,aj,ax⟩
   ·cases ax
  have hE:=(hT t ti aj).keq ks bb;have a6:∀(c:Bool->Bool) (bs:Y Bool),k ⟨.d (.bool (c (Qbk bs))),[],[]⟩=some r->bs.length=ks.length->xs.length=ks.length->ys.length=ks.length ->
    (∀(u v:Array Value) (w:World) (b:Bool),(Op.equalIn 10000 t (.agg u) (.agg v)).run P w = .ok b w->(binOp op t (.agg u) (.agg v)).run P w = .ok (.bool (c b)) w) ->
    (g=true->∀(β:Nat->oP Nat) (S:Nat->Prop) (h:Nat->oP Ob) (w:World) (tm:Nat->Value) (us vs:Nat->Value),(∀(i:Nat) (x:AV),xs[i]? = some x->RdA β S h w tm (us i) x)->(∀(i:Nat) (x:AV),ys[i]? = some x->RdA β S h w tm (vs i) x) ->
     ∀(j:Nat) (kd:Kd) (b:Bool),ks[j]? = some kd->bs[j]? = some b->CEq kd (us j) (vs j) b)->∃dl,k dl=some r/\(g=true->K6 P E o ev hl dl):=by
   intro c bs hk h2 h3 h4 a5 h5;refine⟨_,hk,λhg=>QD λβ S st a w hR hO hA=>?_⟩;obtain⟨us,hx,br,bg⟩:=(ac▸hO.at ar).ag_inv;obtain⟨vs,hy,bn,ba⟩:=(aa▸hO.at an).ag_inv;obtain⟨e1,e2⟩:=hE w us vs bs I I h2 (h5 hg β S _ w _ (λj=>us.getD j undef) (λj=>vs.getD j undef) bg ba);refine⟨.bool (c (Qbk bs)),Mf ho hx hy (run_eqGuard_agg w op t x y us vs e2) ?_,.d _ _ (.bool _)⟩;rw[Q7t];exact a5 us vs w _ e1
  split at h
  ·obtain⟨bs,h1,h2,h3,h4,h5⟩:=BW h;exact a6 (λb=>b) bs h1 h2 h3 h4 (λu v w b hb=>by rw[run_eql_struct,hb];rfl) h5
  ·obtain⟨bs,h1,h2,h3,h4,h5⟩:=BW h;exact a6 (λb=>!b) bs h1 h2 h3 h4 (λu v w b hb=>by rw[run_neq_struct,hb];rfl) h5
  ·cases h
 ·cases h
theorem Q5a(hT:TOk P tt){s t:TypeId}(ho:o.op = .convert s t x){ks kd kn:IntKind}{n:Int}(hs:TZ tt s = .int ks)(ht:TZ tt t = .int kd)(hx:ev x = .d (.int kn n)):K6 P E o ev hl ⟨.d (.int kd (kd.wrap n)),[],[]⟩:=by
 obtain⟨ti,ak,aj⟩:=XC hs Q2;obtain⟨ai,ac,aa⟩:=XC ht Q2;have aw:=(hT s ti ak).kint _ aj;have au:=(hT t ai ac).kint _ aa;refine QD λβ S st a w hR hO hA=>?_
 have hv:=(hx▸hO.at (x:=x) (by simp[ho,Op.operands])).int_inv;refine⟨_,?_,.d _ _ (.int _ _)⟩
 simp_all [execOp,convert,X6,Conv.intToInt]
theorem Q2O(hT:TOk P tt){s t:TypeId}(ho:o.op = .convert s t x){n:Y UInt8}(hs:TZ tt s = .str)(ht:TZ tt t = .str)(hx:ev x = .d (.str n)):K6 P E o ev hl ⟨.d (.str n),[],[]⟩:=by
 obtain⟨ti,ak,aj⟩:=XC hs Q2;obtain⟨ai,ac,aa⟩:=XC ht Q2;have ar:=(hT s ti ak).kstr aj;have ao:=(hT t ai ac).kstr aa;refine QD λβ S st a w hR hO hA=>?_
 obtain⟨bs,hn,hv⟩:=(hx▸hO.at (x:=x) (by simp[ho,Op.operands])).str_inv;refine⟨.string bs,?_,.d _ _ (by rw[hn];exact .str _)⟩
 simp_all [execOp,convert,X6]
theorem Q4b{i:Nat}(ho:o.op = .extract x i){l:Y AV}{v:AV}(hx:ev x = .tup l)(hv:l[i]? = some v) :
  K6 P E o ev hl ⟨v,[],[]⟩:=by
 refine QD λβ S st a w hR hO hA=>?_
 obtain⟨cs,he,ai,hr⟩:=(hx▸hO.at (x:=x) (by grind[Op.operands])).tup_inv;refine⟨_,?_,hr i v hv⟩;have aa:i<cs.size:=by
  grind
 simp_all [KI,execOp,Instr.extract,Qpb]
theorem Q8T{s:Nat}{x y:Operand}(ho:o.op = .pick (.tmp s) x y){e a0 b0:Bool}(he:ev (.tmp s) = .d (.bool e))(hx:unw [(s,true)] (ev x) = .d (.bool a0))(hy:unw [(s,false)] (ev y) = .d (.bool b0)) :
  K6 P E o ev hl ⟨.d (.bool (bif e then a0 else b0)),[],[]⟩:=by
 refine QD λβ S st a w hR hO hA=>?_
 have hc:=(he▸hO.at (x:=.tmp s) (by grind[Op.operands])).bool_inv;have hX:=hO.at (x:=x) (by simp[ho,Op.operands]);have hY:=hO.at (x:=y) (by simp[ho,Op.operands]);have ac:∀(z:Operand) (t c:Bool),unw [(s,t)] (ev z) = .d (.bool c)->RdA β S (look st.h) w (tmv a) (a.eval z) (ev z)->e=t->a.eval z = .bool c:=by
  intro z t c hu hz au;cases aa:ev z with
  |gd s' w' av=>
   rw[aa]at hu hz;simp only[unw,QeH,Bool.or_false]at hu;cases hm:(Nat.beq s s'&&(t == w'))with
   |false=>simp_all
   |true=>
    simp only[hm,Qpc]at hu;simp only[Qp9,beq_iff_eq]at hm;obtain⟨h1,rfl⟩:=hm;obtain rfl:=Qpa h1;subst hu;have aw:tmv a s = .bool t:=by
     have:tmv a s=a.eval (.tmp s):=rfl
     simp_all
    rcases hz.gd_inv with⟨_,hv⟩|⟨am,_⟩
    ·exact hv.bool_inv
    simp_all
  |d x'=>rw[aa]at hu hz;simp only[unw]at hu;rw[hu]at hz;exact hz.bool_inv
  |_=>rw[aa]at hu;simp[unw]at hu
 refine⟨.bool (bif e then a0 else b0),?_,.d _ _ (.bool _)⟩;unfold execOp;rw[ho];cases e with
 |true=>simp[hc,asBool,ac x true a0 hx hX rfl]
 |false=>simp[hc,asBool,ac y false b0 hy hY rfl]
theorem Q9b{kd:Kd}(h:Ru kd=true):kd = .struct:=by cases kd<;>simp[Ru]at h;rfl
theorem Q6G(hT:TOk P tt){t f off ft:Nat}{ti:TyI}(ac:look tt t=some ti)(hs:Ru ti.kd=true)(hf:ti.fields[f]? = some (off,ft)) :
  ∃fs fd,P.underlying t=some (.struct fs)/\fs[f]? = some fd/\fd.offset=off/\fd.type=ft/\∃i,P.info? fd.type=some i/\i.size≠0:=by
 obtain⟨fs,hu,ai,ak⟩:=(hT t ti ac).kstruct (Q9b hs);rw[<- ai,Qpi,Qpd]at hf;obtain⟨fd,aj,he⟩:=hf;injection he with he1 he2
 exact⟨fs,fd,hu,by simp_all,he1,he2,ak fd (Qpg aj)⟩
theorem Q0o(hT:TOk P tt){f:Nat}(ho:o.op = .fieldAddr t x f){k:Dl->oP R}{r:R}(h:DB tt hl t f (ev x) k=some r):∃dl,k dl=some r/\K6 P E o ev hl dl:=by
 have ai:x∈o.op.operands.toList:=by grind[Op.operands]
 unfold DB at h;split at h
 case h_2=>cases h
 rename_i ti an;cases hs:Ru ti.kd with
 |false=>simp_all
 |true=>
  simp only[hs,Qpc]at h;split at h
  case h_2=>cases h
  rename_i off ft hf;obtain⟨fs,fd,hu,ay,ao,_,i,hi,ar⟩:=Q6G hT an hs hf;have ac:∀(a:Act) (w:World) (ad:Addr),a.eval x = .pointer (some ad)->(execOp a.eval o).run P w = .ok (.value (.pointer (some (ad.add off)))) w:=by
   simp_all [execOp,Instr.fieldAt,X6,Instr.sureAddr,fieldPlace,sizeOf,Yx]
  split at h
  ·rename_i l o' aa;refine⟨_,h,QD λβ S st a w hR hO hA=>?_⟩;obtain⟨b,hb,hx⟩:=(aa▸hO.at ai).ptr_inv;exact⟨_,ac a w _ hx,by rw[Jy];exact .ptr _ _ _ hb⟩
  ·rename_i row o' aa;refine⟨_,h,QD λβ S st a w hR hO hA=>?_⟩;obtain⟨ad,c,hx,hS,hc,hr⟩:=(aa▸hO.at ai).el_inv;refine⟨_,ac a w _ hx,.el _ _ _ (λj=>c (off+j)) (by rw[Jv];exact hS) (λj y hy=>?_) (λj y hy=>?_)⟩
   all_goals grind[BB,Nat.add_assoc]
  ·rename_i l i' o' aa;split at h
   ·rename_i e s rows ak;refine⟨_,h,QD λβ S st a w hR hO hA=>?_⟩;have am:look st.h l=some (.arr e s rows):=by rw[hA l (.inl Q2)];exact ak
    obtain⟨b,hb,hx⟩:=RdA.ap_inv am (aa▸hO.at ai);exact⟨_,ac a w _ hx,by rw[Jy,QpC];exact .ap _ _ _ _ _ _ _ hb am⟩
   ·cases h
  ·cases h
theorem Q3m{t:Nat}{ti:TyI}(ht:TyOk P t ti)(hs:UV ti.kd=false){cs:Array Value}{off:Nat}(hc:cs[off]? = some v) :
  (part t cs off).run P w = .ok v w:=by
 simp only[part,Qpb,ht.agg,hs,Qp7,Bool.false_eq_true,if_false,hc];rfl
theorem Q3q{t:Nat}{ti:TyI}(ht:TyOk P t ti)(hs:UV ti.kd=true){cs:Array Value}{off:Nat} :
  (part t cs off).run P w = .ok (.agg (cs.extract off (off+ti.size))) w:=by
 simp only[part,Qpb,ht.agg,hs,Qp7,if_true,ht.size];rfl
theorem Q8d(hT:TOk P tt){f:Nat}(ho:o.op = .field t x f){g:Bool}{k:Dl->oP R}{r:R}(h:QaP tt g t f (ev x) k=some r):∃dl,k dl=some r/\(g=true->K6 P E o ev hl dl):=by
 have ak:x∈o.op.operands.toList:=by grind[Op.operands]
 unfold QaP at h;split at h
 case h_2=>cases h
 rename_i ti az;cases hs:Ru ti.kd with
 |false=>simp_all
 |true=>
  simp only[hs,Qpc]at h;split at h
  case h_2=>cases h
  rename_i off ft hf;obtain⟨fs,fd,hu,bg,a8,bc,i,hi,a9⟩:=Q6G hT az hs hf;split at h
  case h_2=>cases h
  rename_i fi a3;have ai:=hT ft fi a3;split at h
  case h_2=>cases h
  rename_i cells an;have aj:∀(a:Act) (w:World) (cs:Array Value) (v:Value),a.eval x = .agg cs->(part ft cs off).run P w = .ok v w->(execOp a.eval o).run P w = .ok (.value v) w:=by
   simp_all [execOp,Instr.field,X6,asAgg]
  cases ac:UV fi.kd with
  |true=>
   simp only[ac,Qpc]at h;split at h
   ·rename_i cs a2;refine⟨_,h,λ_=>QD λβ S st a w hR hO hA=>?_⟩;obtain⟨vs,hx,ax,hr⟩:=(an▸hO.at ak).ag_inv;obtain⟨h1,h2,h3⟩:=RO a2;refine⟨_,aj a w vs _ hx (Q3q ai ac),?_⟩;have ar:fi.size=0\/off+fi.size<=vs.size:=by
     rcases Nat.eq_zero_or_pos fi.size with h0 | h0
     ·exact .inl h0
     ·right;have h4:=h2 (fi.size-1) I;have h5:cs[fi.size-1]? = some (cs[fi.size-1]'I):=Qpn I;rw[h5]at h4;obtain⟨h6,_⟩:=Qp8.1 h4;omega
    refine .ag _ _ (by rw[h1,Array.size_extract];rcases ar with h | h<;>omega) λj y hy=>?_
    have hj:j<fi.size:=by obtain⟨h6,_⟩:=Qp8.1 hy;omega
    have:=hr (off+j) y ((h2 j hj).trans hy);have he:(vs.extract off (off+fi.size)).getD j undef=vs.getD (off+j) undef:=by
     have am:off+j<vs.size:=by rcases ar with h | h<;>omega
     have ao:j<(vs.extract off (off+fi.size)).size:=by rw[Array.size_extract];omega
     simp only[Array.getD,am,ao,dite_true];simp
    simp_all
   ·cases h
  |false=>
   simp only[ac,cond_false]at h;split at h
   ·rename_i c hc;obtain⟨v,ay,au,_⟩:=Bj h;refine⟨_,ay,λhg=>QD λβ S st a w hR hO hA=>?_⟩;obtain⟨vs,hx,ax,hr⟩:=(an▸hO.at ak).ag_inv;have am:off<vs.size:=by obtain⟨h6,_⟩:=Qp8.1 hc;omega
    exact⟨_,aj a w vs _ hx (Q3m ai ac (KI am)),by rw[au hg];exact hr off c hc⟩
   ·cases h
end
end Go.Vx
namespace Go.Vx
variable{w:World} {o:Oper} {a:Act} {tt:TT} {x:Operand}
section
variable{P:Program} {E:Env} {R:Type}
theorem Rd.sl_inv{S:Nat->Prop}{v:Value}{s:Nat}{rows:Y (Y D)}(h:Rd S w v (.sl s rows)) :
  (rows=[]/\∃a cap,v = .slice a 0 cap)\/∃(ad:Addr) (cap:Nat) (c:Nat->Nat->Value),v = .slice (some ad) rows.length cap/\S ad.block/\rows.length<=cap/\(∀(i:Nat) (r:Y D),rows[i]? = some r->r.length=s) /\
   (∀(i j:Nat) (r:Y D) (x:D),rows[i]? = some r->r[j]? = some x->w.cell? (ad.add (i*s+j))=some (c i j))/\∀(i j:Nat) (r:Y D) (x:D),rows[i]? = some r->r[j]? = some x->Rd S w (c i j) x:=by
 cases h with
 |sl0 a cap=>simp_all
 |sl ad cap _ _ c hS aa ac hc hr=>exact .inr ⟨ad,cap,c,rfl,hS,aa,ac,hc,hr⟩
theorem Rd.len{S:Nat->Prop}{v:Value}{s:Nat}{rows:Y (Y D)}(h:Rd S w v (.sl s rows)):∃a cap,v = .slice a rows.length cap:=by
 rcases h.sl_inv with⟨rfl,a,cap,rfl⟩|⟨ad,cap,_,rfl,_⟩
 all_goals simp
theorem PL{rows:Y (Y D)}{n:Int}{row:Y D}(h:Qi rows n=some row):0<=n/\n<rows.length/\rows[n.toNat]? = some row:=by
 grind[Qi]
theorem Q7a{len:Nat}{n:Int}{u:Unit}(h:inB len n=some u):0<=n/\n<len:=by
 grind[inB,decide]
theorem GR(hT:TOk P tt){t:TypeId}{x i:Operand}(ho:o.op = .indexAddr t x i){e esz:Nat}(hk:TZ tt t = .sl e esz){ad:Addr}{len cap:Nat}{ik:IntKind}{n:Int}(hx:a.eval x = .slice (some ad) len cap)(hi:a.eval i = .int ik n)(h0:0<=n)(h1:n<len) :
  (execOp a.eval o).run P w = .ok (.value (.pointer (some (ad.add (n.toNat*esz))))) w:=by
 obtain⟨ti,ac,aa⟩:=XC hk Q2;obtain⟨hu,_,inf,ai,ak⟩:=(hT t ti ac).ksl _ _ aa
 simp_all [execOp,Instr.indexAt,asIntOf,X6,sizeOf,Yx]
theorem Q0q(hT:TOk P tt){t:TypeId}{x i:Operand}(ho:o.op = .indexAddr t x i){g:Bool}{ev:Operand->AV}{hl:Nat->oP Ob}{k:Dl->oP R}{r:R}(h:Dh tt g hl t (ev x) (ev i) k=some r):∃dl,k dl=some r/\(g=true->K6 P E o ev hl dl):=by
 have aj:x∈o.op.operands.toList:=by grind[Op.operands]
 have an:i∈o.op.operands.toList:=by simp[ho,Op.operands]
 unfold Dh at h;split at h
 case h_2=>cases h
 rename_i e esz ik n hk ar;split at h
 ·rename_i s rows ac;cases hb:Nat.beq s esz with
  |false=>simp_all
  |true=>
   obtain rfl:=Qpa hb;simp only[hb,Qpc]at h;obtain⟨row,h,aa⟩:=Qy h;refine⟨_,h,λhg=>QD λβ S st a w hR hO hA=>?_⟩;obtain⟨h0,h1,h2⟩:=PL (aa hg);have hi:=(ar▸hO.at an).int_inv;rcases (ac▸hO.at aj).d_inv.sl_inv with⟨rfl,_⟩|⟨ad,cap,c,hx,hS,_,ay,hc,hr⟩
   ·simp at h2
   refine⟨_,GR hT ho hk hx hi h0 h1,.el _ _ _ (λj=>c n.toNat j) (by grind[Jv]) (λj y hy=>?_) (λj y hy=>?_)⟩
   all_goals grind[BB]
 ·rename_i l ac;split at h
  ·rename_i e' s rows am;cases hb:Nat.beq s esz with
   |false=>simp[hb]at h
   |true=>
    obtain rfl:=Qpa hb;simp only[hb,Qpc]at h;obtain⟨u,h,au⟩:=Qy h;refine⟨_,h,λhg=>QD λβ S st a w hR hO hA=>?_⟩;obtain⟨h0,h1⟩:=Q7a (au hg);have hi:=(ar▸hO.at an).int_inv;have ao:look st.h l=some (.arr e' s rows):=by rw[hA l (.inl Q2)];exact am
    rcases RdA.arr_inv ao (ac▸hO.at aj)with⟨_,rfl,_⟩|⟨b,cap,cs,ty,fz,aw,hx,_⟩
    ·grind
    refine⟨_,GR hT ho hk hx hi h0 h1,?_⟩;rw[Jy,Nat.zero_add];exact .ap l n.toNat 0 b e' s rows aw ao
  ·cases h
 ·obtain⟨row,h,aa⟩:=Qy h;refine⟨_,h,λhg=>?_⟩;obtain⟨_,h1,_⟩:=PL (aa hg);simp at h1;have:=(PL (aa hg)).1;omega
 ·cases h
theorem T3(hT:TOk P tt){c:Call}{t:Nat}{e esz:Nat}(ho:o.op = .call c)(hc:c.callee = .builtin .len)(ha:c.args.toList=[x])(hat:c.argTypes.toList=[t])(hk:TZ tt t = .sl e esz){ad:oP Addr}{len cap:Nat}(hx:a.eval x = .slice ad len cap):(execOp a.eval o).run P w = .ok (.value (.int .i64 len)) w:=by
 obtain⟨ti,ac,aa⟩:=XC hk Q2;obtain⟨hu,_⟩:=(hT t ti ac).ksl _ _ aa;have am:c.args = #[x]:=by grind
 have ai:c.argTypes = #[t]:=by rw[<- Array.toList_inj];simpa using hat
 simp_all [execOp,resolve,invoke,builtin,Builtin.len_,X6,goInt]
theorem Q5L(hT:TOk P tt){c:Call}{t:Nat}(ho:o.op = .call c)(hc:c.callee = .builtin .len)(ha:c.args.toList=[x])(hat:c.argTypes.toList=[t])(hk:TZ tt t = .str){s:ByteArray}(hx:a.eval x = .string s):(execOp a.eval o).run P w = .ok (.value (.int .i64 s.size)) w:=by
 obtain⟨ti,ac,aa⟩:=XC hk Q2;have hu:=(hT t ti ac).kstr aa;have aj:c.args = #[x]:=by grind
 have ai:c.argTypes = #[t]:=by grind
 simp_all [execOp,resolve,invoke,builtin,Builtin.len_,X6,goInt]
theorem Q5V(hT:TOk P tt){c:Call}{t:Nat}{e esz:Nat}(ho:o.op = .call c)(hc:c.callee = .builtin .cap)(ha:c.args.toList=[x])(hat:c.argTypes.toList=[t])(hk:TZ tt t = .sl e esz)(hx:a.eval x = .slice none 0 0):(execOp a.eval o).run P w = .ok (.value (.int .i64 0)) w:=by
 obtain⟨ti,ac,aa⟩:=XC hk Q2;obtain⟨hu,_⟩:=(hT t ti ac).ksl _ _ aa;have aj:c.args = #[x]:=by grind
 have ai:c.argTypes = #[t]:=by grind
 simp_all [execOp,resolve,invoke,builtin,Builtin.cap_,X6,goInt]
end
end Go.Vx
namespace Go.Vx
section
variable{E:Env} {β β':Nat->oP Nat} {S S':Nat->Prop} {st:St} {a:Act} {w w':World}
theorem Q9B{l t:Nat}{tm:Y (Nat×AV)}{av:AV}(h:look tm t=some av)(hn:Yq l av=true):AC l tm=true:=by
 induction tm with
 |nil=>trivial
 |cons x r ih=>
  grind[look,Nat.beq,AC]
theorem Q8Q{l t:Nat}{hs:Y (Nat×Ob)}{cells:Y AV}(h:look hs t=some (.box cells))(hn:G8 l cells=true):Jj l hs=true:=by
 induction hs with
 |nil=>trivial
 |cons x r ih=>
  obtain⟨k,b⟩:=x;simp only[look]at h;cases hk:Nat.beq k t with
  |true=>grind[Jj]
  |false=>simp[hk]at h;cases b<;>simp[Jj,ih h]
theorem Q7k{l t:Nat}{av:AV}(hc:Ut st l=true)(h:look st.tm t=some av):Yq l av=false:=by
 grind[Yq,Ut,Q9B]
theorem Qas{l t i:Nat}{cells:Y AV}{x:AV}(hc:Ut st l=true)(h:look st.h t=some (.box cells))(hx:cells[i]? = some x):Yq l x=false:=by
 grind[Yq,Ut,Q8Q,Sq]
theorem Keep.rfl_(β:Nat->oP Nat)(h:Nat->oP Ob)(w:World)(l:Nat):Keep β h w β h w l:=
 ⟨rfl,λx=>x,λ_ _ rows hh=>.inr ⟨rows,hh,rfl⟩,λ_ cs ty fz _ _ hw=>⟨cs,ty,fz,hw,rfl⟩,λ_ f hh=>.inr ⟨f,hh⟩⟩
theorem Rel.upd(hR:Rel E β S st a w){H':Y (Nat×Ob)}(ai:∀b,S b->S' b)(ak:∀b,S b->w'.heap[b]? = w.heap[b]?)(T:Nat->Prop)(hT:∀l,¬ T l->β' l=β l/\look H' l=look st.h l/\∀b,(look st.h l).isSome=true->β l=some b->w'.heap[b]? = w.heap[b]?)(au:∀l,T l->Keep β (look st.h) w β' (look H') w' l\/Ut st l=true)(a2:∀l o,T l->look H' l=some o->ObR β' S' (look H') w' l o)(inj:∀l l' b,(look H' l).isSome=true->(look H' l').isSome=true->β' l=some b->β' l'=some b->l=l')(apart:∀l b,(look H' l).isSome=true->β' l=some b->¬ S' b)(own:∀l b,(look H' l).isSome=true->β' l=some b->E.M b\/E.w0.heap.size<=b)(sb:∀b,S' b->b<w'.heap.size)(sfr:∀b,S' b->E.S0 b\/E.M b\/E.w0.heap.size<=b)(fr:Fr E.M E.w0 w') :
  Rel E β' S' ⟨st.n,st.tm,H'⟩ a w':=by
 have aa:∀l,Keep β (look st.h) w β' (look H') w' l\/Ut st l=true:=by
  intro l;by_cases hl:T l
  ·exact au l hl
  ·obtain⟨h1,h2,h3⟩:=hT l hl;exact .inl ⟨h1,λh=>by rw[h2];exact h,λe s rows h=>.inr ⟨rows,by rw[h2];exact h,rfl⟩,λb cs ty fz hs hb hw=>⟨cs,ty,fz,by rw[h3 b (by rw[<- h2];exact hs) hb];exact hw,rfl⟩,λ_ f h=>.inr ⟨f,by rw[h2];exact h⟩⟩
 have hA:∀(tm:Nat->Value) (v:Value) (av:AV),(∀l,Ut st l=true->Yq l av=false)->RdA β S (look st.h) w tm v av->RdA β' S' (look H') w' tm v av:=by
  intro tm v av hc hv;refine hv.mono ai ak (λl hn=>?_) (λ_ _=>rfl);rcases aa l with h | h
  ·exact h
  ·rw[hc l h]at hn;cases hn
 refine⟨hR.n,hR.dfr,λt av ht=>hA _ _ _ (λl hc=>Q7k hc ht) (hR.tm t av ht),⟨?_,inj,apart,own,sb,sfr,λb hb=>ai b (hR.hr.s0 b hb),fr,λl hp=>?_,λl b hp hs hb cs ty fz hw=>?_⟩⟩
 rotate_left
 ·refine Eq.trans ?_ (hR.hr.pin l hp);rcases aa l with h | h
  ·exact h.b
  ·simp only[Ut,Qp9]at h;have:=Qpj h.1;omega
 ·rcases aa l with h | h
  ·have ar:(look st.h l).isSome=true:=by
    cases hx:look st.h l with
    |some o=>rfl
    |none=>rw[h.none_ hx]at hs;cases hs
   rw[h.b]at hb;obtain⟨ax,ay,fz1,g1,g2⟩:=hR.hr.psz l b hp ar hb cs ty fz hw;obtain⟨an,az,a3,g3,g4⟩:=h.cells b ax ay fz1 hs hb g1;exact⟨an,az,a3,g3,g4.trans g2⟩
  ·simp only[Ut,Qp9]at h;have:=Qpj h.1;omega
 intro l o ho;by_cases hl:T l
 ·exact a2 l o hl ho
 ·obtain⟨h1,h2,h3⟩:=hT l hl;rw[h2]at ho;have ac:=hR.hr.ob l o ho;cases o with
  |box cells=>
   obtain⟨b,ty,cs,fz,hb,hw,hf,aj,hr⟩:=ac;exact⟨b,ty,cs,fz,h1.trans hb,(h3 b (by simp[ho]) hb).trans hw,hf,aj,λi x hx=>hA _ _ _ (λl' hc=>Qas hc ho hx) (hr i x hx)⟩
  |arr e s rows=>
   rcases ac with⟨hb,hn⟩|⟨b,cs,hb,hw,aj,aw,hr⟩
   ·exact .inl ⟨h1.trans hb,hn⟩
   ·refine .inr ⟨b,cs,h1.trans hb,(h3 b (by simp[ho]) hb).trans hw,aj,aw,λi j r x h4 h5=>?_⟩;obtain⟨v,hv,ao⟩:=hr i j r x h4 h5;exact⟨v,hv,ao.mono ai ak⟩
  |mp t f=>
   obtain⟨b,hb,hm⟩:=ac;exact⟨b,h1.trans hb,hm.same (h3 b (by simp[ho]) hb)⟩
theorem Ky(hR:Rel E β S st a w){l b:Nat}(hs:(look st.h l).isSome=true)(hb:β l=some b):b<w.heap.size:=by
 cases ho:look st.h l with
 |none=>simp_all
 |some o=>
  have aa:=hR.hr.ob l o ho;have:∃c,w.heap[b]? = some c:=by
   cases o with
   |box cells=>
    obtain⟨b',ty,cs,fz,ac,hw,_⟩:=aa
    simp_all
   |arr e s rows=>
    rcases aa with⟨ac,_⟩|⟨b',cs,ac,hw,_⟩
    all_goals grind
   |mp t f=>
    obtain⟨b',ac,es,ai,hw,_⟩:=aa
    simp_all
  grind
theorem YO(w:World)(o:Obj){b:Nat}(h:b<w.heap.size):(w.alloc o).heap[b]? = w.heap[b]?:=by
 show(w.heap.push o)[b]? = _
 grind
theorem J3(w:World)(o:Obj):(w.alloc o).heap[w.heap.size]? = some o:=by
 show(w.heap.push o)[w.heap.size]? = _;simp
theorem Q7F{M:Nat->Prop}{w0 w:World}(h:Fr M w0 w)(o:Obj):Fr M w0 (w.alloc o):=
 h.trans ⟨rfl,rfl,rfl,by show w.heap.size<=(w.heap.push o).size;simp,λb hb _=>YO w o hb⟩
def RG(β:Nat->oP Nat)(l:Nat)(b:oP Nat):Nat->oP Nat:=λk=>if k=l then b else β k
theorem Rel.new(hR:Rel E β S st a w){l:Nat}{o:Ob}{aa:Obj}(hn:look st.h l=none)(hc:Ut st l=true)(aj:ObR (RG β l (some w.heap.size)) S (look ((l,o)::rem l st.h)) (w.alloc aa) l o) :
  Rel E (RG β l (some w.heap.size)) S ⟨st.n,st.tm,(l,o)::rem l st.h⟩ a (w.alloc aa):=by
 have ai:∀k,look ((l,o)::rem l st.h) k=if k=l then some o else look st.h k:=λk=>WT l k o st.h
 refine hR.upd (λ_ h=>h) (λb hb=>YO w aa (hR.hr.sb b hb)) (λk=>k=l) (λk hk=>?_) (λk hk=>.inr (hk▸hc)) (λk o' hk ho=>?_) ?_ ?_ ?_ ?_ hR.hr.sfr (Q7F hR.hr.fr aa)
 ·grind[RG,YO,Ky]
 ·simp_all
 ·intro k k' b h1 h2 h3 h4;rw[ai]at h1 h2;unfold RG at h3 h4;by_cases e:k=l<;>by_cases e':k'=l
  ·rw[e,e']
  ·rw[Qpo e]at h3;rw[Qpk e']at h4 h2;injection h3 with h3
   have:=Ky hR h2 h4;omega
  ·rw[Qpo e']at h4;rw[Qpk e]at h3 h1;injection h4 with h4
   have:=Ky hR h1 h3;omega
  ·rw[Qpk e]at h3 h1;rw[Qpk e']at h4 h2;exact hR.hr.inj k k' b h1 h2 h3 h4
 ·intro k b h1 h2 hS;rw[ai]at h1;unfold RG at h2;by_cases e:k=l
  ·rw[Qpo e]at h2;injection h2 with h2
   have:=hR.hr.sb b hS;omega
  ·rw[Qpk e]at h2 h1;exact hR.hr.apart k b h1 h2 hS
 ·intro k b h1 h2;rw[ai]at h1;unfold RG at h2;by_cases e:k=l
  ·rw[Qpo e]at h2;injection h2 with h2
   right;have:=hR.hr.fr.size;omega
  ·rw[Qpk e]at h2 h1;exact hR.hr.own k b h1 h2
 ·intro b hb;have:=hR.hr.sb b hb;simp;omega
theorem Rel.set(hR:Rel E β S st a w){l b:Nat}{o o':Ob}(ho:look st.h l=some o)(hb:β l=some b)(ac:∀k,k≠b->w'.heap[k]? = w.heap[k]?)(ar:w'.os=w.os)(aj:w'.tape=w.tape)(an:w'.output=w.output)(am:w'.heap.size=w.heap.size)(hk:Keep β (look st.h) w β (look ((l,o')::rem l st.h)) w' l)(a2:ObR β S (look ((l,o')::rem l st.h)) w' l o') :
  Rel E β S ⟨st.n,st.tm,(l,o')::rem l st.h⟩ a w':=by
 have az:∀k,look ((l,o')::rem l st.h) k=if k=l then some o' else look st.h k:=λk=>WT l k o' st.h
 have ak:(look st.h l).isSome=true:=by simp[ho]
 have aa:∀k,(look ((l,o')::rem l st.h) k).isSome=true->(look st.h k).isSome=true:=by
  grind
 refine hR.upd (λ_ h=>h) (λk hS=>ac k (λe=>?_)) (λk=>k=l) (λk hk=>?_) (λk ai=>.inl (ai▸hk)) (λk ay ai au=>?_) ?_ ?_ ?_ ?_ hR.hr.sfr ?_
 ·subst e;exact hR.hr.apart l _ ak hb hS
 ·refine⟨rfl,by simp_all,λk' hs ao=>ac k' (λe=>?_)⟩;subst e;exact hk (hR.hr.inj k l _ hs ak ao hb)
 ·simp_all
 ·exact λk k' b' h1 h2 h3 h4=>hR.hr.inj k k' b' (aa k h1) (aa k' h2) h3 h4
 ·exact λk b' h1 h2=>hR.hr.apart k b' (aa k h1) h2
 ·exact λk b' h1 h2=>hR.hr.own k b' (aa k h1) h2
 ·intro k hS;rw[am];exact hR.hr.sb k hS
 ·have fr:=hR.hr.fr;refine⟨ar.trans fr.os,aj.trans fr.tape,an.trans fr.output,by rw[am];exact fr.size,λk ai hM=>(ac k (λe=>?_)).trans (fr.block k ai hM)⟩;rcases hR.hr.own l _ ak hb with h | h
  all_goals grind
end
end Go.Vx
namespace Go.Vx
variable{hl:Nat->oP Ob} {ev:Operand->AV} {β:Nat->oP Nat} {S:Nat->Prop} {w:World} {h:Nat->oP Ob} {tm:Nat->Value} {v:Value}
section
variable{P:Program} {E:Env} {R:Type}
theorem Af(v:Value):RdA β S h w tm v (Pu v):=by
 unfold Pu;split
 ·exact .d _ _ (.int _ _)
 ·exact .d _ _ (.bool _)
 ·exact .d _ _ (.str _)
 ·exact .nil
 ·exact .top _
theorem Q9t{av:AV}(hv:RdA β S h w tm v av)(ho:Q3h av=true):v.oneCell'=true:=by
 cases hv<;>simp[Q3h]at ho<;>try rfl
 ·rename_i hx;cases hx<;>rfl
 ·assumption
theorem DZ{av:AV}(ho:Q3h av=true):Q0V av=true:=by
 cases av with
 |fn f l=>assumption
 |_=>trivial
theorem Qa6(h:v.oneCell'=true):v.cells = #[v]:=by cases v<;>simp[Value.oneCell']at h<;>rfl
theorem RdA.to_tm0{av:AV}(hg:Q0V av=true)(hv:RdA β S h w tm v av):RdA β S h w tm0 v av:=by
 refine RdA.mono hv (λ_ hb=>hb) (λ_ _=>rfl) (λl _=>Keep.rfl_ ..) (λt ht=>?_)
 grind[R1]
theorem MH{av:AV}(hv:RdA β S h w tm v av)(ho:(Y1 av).all Q3h=true) :
  v.cells.size=(Y1 av).length/\(∀(i:Nat) (x:AV),(Y1 av)[i]? = some x->RdA β S h w tm (v.cells.getD i undef) x)/\∀u∈v.cells.toList,u.oneCell'=true:=by
 cases av with
 |ag l=>
  obtain⟨cs,rfl,ac,hr⟩:=hv.ag_inv;refine⟨ac,hr,λu hu=>?_⟩;obtain⟨i,hi,rfl⟩:=List.getElem_of_mem hu;have aa:i<cs.size:=by assumption
  have h1:l[i]? = some (l[i]'I):=Qpn I;have h2:=hr i _ h1;have h3:Q3h (l[i]'I)=true:=by
   grind[Y1,List.all_eq_true,List.getElem_mem]
  have h4:=Q9t h2 h3;have h5:cs.getD i undef=cs[i]:=by simp[Array.getD,aa]
  grind[Value.cells]
 |fs s rows=>
  obtain⟨ad,rfl,hr⟩:=hv.fs_inv;refine⟨rfl,λi x hx=>?_,λu hu=>?_⟩
  ·cases i with
   |zero=>simp[Y1]at hx;subst hx;exact .d _ _ hr
   |succ i=>trivial
  ·simp[Value.cells]at hu;subst hu;rfl
 |_=>
  all_goals
   simp only[Y1,List.all_cons,List.all_nil,Bool.and_true]at ho
   first
    |have h1:=Q9t hv ho
     rw[Qa6 h1];refine⟨rfl,λi x hx=>?_,λu hu=>?_⟩
     ·cases i with
      |zero=>simp[Y1]at hx;subst hx;simpa[Array.getD]using hv
      |succ i=>simp[Y1]at hx
     simp_all
    |(simp[Q3h]at ho)
theorem US{aa:Nat}{o:Ob}{v:AV}{wr:Y (Nat×oP Ob)}{rd:Y Nat}{k:Dl->oP R}{r:R}(h:EQ hl aa o v wr rd k=some r) :
  hl aa=none/\k ⟨v,wr++[(aa,some o)],rd⟩=some r:=by
 grind[EQ]
theorem Qex(n:Nat):Qjb n (0,0):=λ_ _ h=>by omega
theorem BT{o:Oper}{aa:Nat}{cells:Y AV}{ty:TypeId}(hn:hl aa=none)(an:Q5k ty cells)(h:∀β S st a w,Rel E β S st a w->Bx β S st a w o ev->∃cs:Array Value,(execOp a.eval o).run P w = .ok (.value (.pointer (some ⟨w.heap.size,0,none⟩))) (w.alloc (.cells cs ty))/\cs.size=cells.length /\
   ∀(i:Nat) (x:AV),cells[i]? = some x->Q0V x=true/\((RdA β S (look st.h) w (tmv a) (cs.getD i undef) x/\(Ut st aa=true->Yq aa x=false))\/∃t,x = .sa aa t/\cs.getD i undef = .pointer none)) :
  K6 P E o ev hl ⟨.ptr aa 0,[]++[(aa,some (.box cells))],[]⟩:=by
 intro β S st a w hR hO hA az K Q hK;obtain⟨cs,ai,ak,ao⟩:=h β S st a w hR hO;have ar:look st.h aa=none:=by rw[hA aa (.inr (by simp[wrL]))];exact hn
 have hc:Ut st aa=true:=by grind[Wm]
 unfold Oper.wp;rw[ai];refine hK _ _ ⟨RG β aa (some w.heap.size),S,?_,?_⟩
 ·refine hR.new ar hc ⟨w.heap.size,ty,cs,(0,0),by simp[RG],J3 _ _,⟨Qex _,an⟩,ak,λi x hx=>?_⟩;obtain⟨h1,au⟩:=ao i x hx;rcases au with⟨h2,h3⟩|⟨t,rfl,hp⟩
  case inr=>exact .sa _ _ _ w.heap.size (by simp[RG]) (.inl hp)
  refine(h2.to_tm0 h1).mono (λ_ hb=>hb) (λb hb=>YO _ _ (hR.hr.sb b hb)) (λl ay=>?_) (λ_ _=>rfl);have ac:l≠aa:=λe=>by simp_all
  exact⟨by simp[RG,ac],λh=>by rw[WT,Qpk ac];exact h,λe s rows h=>.inr ⟨rows,by rw[WT,Qpk ac];exact h,rfl⟩,
   λb am aj fz hs hb hw=>⟨am,aj,fz,by rw[YO _ _ (Ky hR (by rw[WT,Qpk ac]at hs;exact hs) hb)];exact hw,rfl⟩,λ_ f h=>.inr ⟨f,by rw[WT,Qpk ac];exact h⟩⟩
 ·exact .ptr _ _ _ (by simp[RG])
theorem Aj(l:Nat)(v:Value):Yq l (Pu v)=false:=by
 unfold Pu;split<;>rfl
theorem Q7R(v:Value):Q0V (Pu v)=true:=by
 unfold Pu;split<;>rfl
theorem Q8y{tt:TT}(hT:TOk P tt){o:Oper}{t:TypeId}(ho:o.op = .alloc t){aa:Nat}{ti:TyI}(aj:look tt t=some ti)(hn:hl aa=none) :
  K6 P E o ev hl ⟨.ptr aa 0,[]++[(aa,some (.box (Q1u aa t ti)))],[]⟩:=by
 obtain⟨inf,am,_,_,z,hz,ak⟩:=(hT t ti aj).inf;have hst:Q5k t (Q1u aa t ti):=by
  intro i l t' hi;simp only[Q1u,Qpi,Qpd]at hi;obtain⟨v,_,hv⟩:=hi;unfold Q6l at hv;split at hv
  ·injection hv
  ·unfold Pu at hv
   grind
 refine BT (ty:=t) hn hst λβ S st a w hR hO=>⟨z.cells,?_,?_,λi x hx=>?_⟩
 ·simp_all [execOp,Instr.alloc,zeroValue,Yx,newVar,newRow]
 ·grind[Array.length_toList,Q1u]
 ·simp only[Q1u,Qpi,Qpd]at hx;obtain⟨v,hv,rfl⟩:=hx;have:z.cells.getD i undef=v:=by
   rw[<- ak]at hv;obtain⟨hi,he⟩:=Qp8.1 hv;have ai:i<z.cells.size:=I
   simp only[Array.getD,ai,dite_true]
   assumption
  rw[this];unfold Q6l;split
  ·exact⟨rfl,.inr ⟨t,rfl,rfl⟩⟩
  grind[Q7R,Af,Aj]
theorem Q1y{st:St}{aa:Nat}(hc:Ut st aa=true)(x:Operand):Yq aa (evO st.tm x)=false:=by
 cases x with
 |tmp t=>
  simp only[evO,lkT];cases h:look st.tm t with
  |none=>rfl
  |some av=>grind[Q7k]
 |const v=>exact Aj aa v
 |_=>rfl
theorem Q3T{l i:Nat}{r:Y AV}{x:AV}(h:r[i]? = some x)(hn:G8 l r=false):Yq l x=false:=by
 grind[Yq,Sq]
theorem Q0z{l:Nat}{av:AV}(h:Yq l av=false):G8 l (Y1 av)=false:=by
 cases av<;>simp_all [Y1,G8,Yq]
theorem QbA{o:Oper}{t:TypeId}{x:Operand}(ho:o.op = .box t x){ac:Nat}(aa:(Y1 (ev x)).all Q3h=true)(hn:hl ac=none) :
  K6 P E o ev hl ⟨.ptr ac 0,[]++[(ac,some (.box (Y1 (ev x))))],[]⟩:=by
 have ai:x∈o.op.operands.toList:=by grind[Op.operands]
 have hst:Q5k t (Y1 (ev x)):=by
  intro i l t' hi;rw[Qpr]at aa;have:=aa _ (Qpg hi);trivial
 refine BT (ty:=t) hn hst λβ S st a w hR hO=>?_
 obtain⟨h1,h2,_⟩:=MH (hO.at ai) aa;refine⟨(a.eval x).cells,?_,h1,λi y hy=>⟨?_,.inl ⟨h2 i y hy,λhc=>Q3T hy (Q0z (hO.nm ai hc))⟩⟩⟩
 ·simp_all [execOp,Instr.box,newVar,newRow]
 grind[List.all_eq_true,DZ,List.mem_of_getElem?]
structure Wrote(b:Nat)(cs:Array Value)(ty:TypeId)(fz:Nat×Nat)(w w':World):Prop where
 blk:w'.heap[b]? = some (.cells cs ty fz)
 oth:∀k,k≠b->w'.heap[k]? = w.heap[k]?
 os:w'.os=w.os
 tape:w'.tape=w.tape
 output:w'.output=w.output
 size:w'.heap.size=w.heap.size
theorem QaI{b o:Nat}{cs:Array Value}{ty:TypeId}{fz:Nat×Nat}(h:w.heap[b]? = some (.cells cs ty fz))(v:Value):Wrote b (cs.setIfInBounds o v) ty fz w (w.setCell ⟨b,o,none⟩ v):=by
 refine⟨?_,λk hk=>?_,rfl,rfl,rfl,by simp_all⟩
 ·simp[World.setCell,Array.getElem?_modify,h]
 ·simp only[World.setCell,Array.getElem?_modify]
  grind
theorem Wrote.trans{b:Nat}{cs ac:Array Value}{ty:TypeId}{fz:Nat×Nat}{w w' ai:World}(h:Wrote b cs ty fz w w')(h':Wrote b ac ty fz w' ai):Wrote b ac ty fz w ai:=
 ⟨h'.blk,λk hk=>(h'.oth k hk).trans (h.oth k hk),h'.os.trans h.os,h'.tape.trans h.tape,h'.output.trans h.output,h'.size.trans h.size⟩
def Ty(cs:Array Value):Nat->Y Value->Array Value
 |_,[]=>cs
 |o,v::r=>Ty (cs.setIfInBounds o v) (o+1) r
theorem U4:∀(vs:Y Value) (cs:Array Value) (o:Nat),(Ty cs o vs).size=cs.size
 |[],_,_=>rfl
 |v::r,cs,o=>by simp[Ty,U4 r]
theorem SG:∀(vs:Y Value) (cs:Array Value) (o j:Nat),o+vs.length<=cs.size->(Ty cs o vs)[j]? = if o<=j/\j<o+vs.length then vs[j-o]? else cs[j]?
 |[],cs,o,j,_=>by simp[Ty];intro h1 h2;omega
 |v::r,cs,o,j,h=>by
  simp only[Qpx]at h;rw[Ty,SG r _ (o+1) j Q3];simp only[Qpx];by_cases h1:o+1<=j/\j<o+1+r.length
  ·rw[Qpo h1,Qpo I];rw[show j-o=(j-(o+1))+1 from I];simp
  ·rw[Qpk h1];by_cases h2:j=o
   ·subst h2;rw[Qpo I];simp[Array.getElem?_setIfInBounds];omega
   ·rw[Qpk I];rw[Array.getElem?_setIfInBounds,Qpk I]
theorem Gn(b o:Nat)(ty:TypeId)(fz:Nat×Nat):∀(vs:Y Value) (i:Nat) (cs:Array Value) (w:World),w.heap[b]? = some (.cells cs ty fz)->Qjb cs.size fz->o+i+vs.length<=cs.size->(∀v∈vs,v.oneCell'=true) ->
  ∃w',(storeCells ⟨b,o,none⟩ vs i).run P w = .ok () w'/\Wrote b (Ty cs (o+i) vs) ty fz w w'
 |[],i,cs,w,h,_,_,_=>⟨w,by rfl,⟨h,λ_ _=>rfl,rfl,rfl,rfl,rfl⟩⟩
 |v::r,i,cs,w,h,hf,aj,h1=>by
  simp only[Qpx]at aj;have ac:o+i<cs.size:=I
  have ai:w.cell? ⟨b,o+i,none⟩=some (cs.getD (o+i) undef):=by rw[J9 h];simp_all
  have am:w.frozen? ⟨b,o+i,none⟩=false:=by
   have:=hf (o+i) ac
   grind[World.frozen?]
  have hst:=run_store P w ⟨b,o+i,none⟩ v .plain (h1 v Q2);have hw:=QaI (o:=o+i) h v;obtain⟨w',ak,aa⟩:=Gn b o ty fz r (i+1) (cs.setIfInBounds (o+i) v) (w.setCell ⟨b,o+i,none⟩ v) hw.blk Q4 Q3 (λu hu=>h1 u (by simp[hu]));refine⟨w',?_,hw.trans aa⟩
  grind[storeCells,Sem.run_bind,Jy,Result.andThen_ok]
theorem SS:∀{vs cells cs:Y AV} {off:Nat},Ms cells off vs=some cs->cs.length=cells.length/\vs.all Q3h=true/\(vs≠[]->off+vs.length<=cells.length) /\
  ∀j:Nat,cs[j]? = if off<=j/\j<off+vs.length then vs[j-off]? else cells[j]?
 |[],cells,cs,off,h=>by
  simp[Ms]at h;subst h;refine⟨rfl,rfl,λh=>absurd rfl h,λj=>?_⟩;rw[Qpk Q2]
 |v::r,cells,cs,off,h=>by
  unfold Ms at h;cases hc:(Q3h v&&Nat.ble (off+1) cells.length)with
  |false=>simp[hc]at h
  |true=>
   simp only[hc,Qpc]at h;simp only[Qp9]at hc;have ai:=Qpj hc.2;obtain⟨h1,h2,h3,h4⟩:=SS h;simp only[List.length_set]at h1 h3;refine⟨h1,by simp[hc.1,h2],λ_=>?_,λj=>?_⟩
   ·by_cases hr:r=[]
    ·subst hr;simp;omega
    ·have:=h3 hr;simp;omega
   ·rw[h4 j];simp only[Qpx];by_cases e1:off+1<=j/\j<off+1+r.length
    ·rw[Qpo e1,Qpo I,show j-off=(j-(off+1))+1 from I];simp
    ·rw[Qpk e1];by_cases e2:j=off
     ·subst e2;rw[Qpo I,Qps I];simp
     ·rw[Qpk I,Qpt I]
end
end Go.Vx
namespace Go.Vx
section
variable{P:Program} {E:Env} {R:Type}
theorem Q1D{cs aa:Array Value}{i j:Nat}(h:cs[i]? = aa[j]?):cs.getD i undef=aa.getD j undef:=by
 simp_all
theorem Pb{t:Nat}{ti:TyI}(ht:TyOk P t ti){w w':World}{ad:Addr}{v:Value}(hs:v.cells.size=ti.size)(h:(storeCells ad v.cells.toList).run P w = .ok () w'):(storeVar t ad v).run P w = .ok () w':=by
 simp only[storeVar,Qpb,ht.size,Qp7]
 simp_all
theorem Pp{o:Oper}{t:TypeId}{x y:Operand}(ho:o.op = .store t x y){a:Act}{w w':World}{ad:Addr}(hx:a.eval x = .pointer (some ad))(hv:(storeVar t ad (a.eval y)).run P w = .ok () w') :
  (execOp a.eval o).run P w = .ok .skip w':=by
 simp_all [execOp,Instr.storeAt,Instr.sureAddr]
theorem Q06:∀{l:Y AV} {ds:Y D},Qev l=some ds->l=ds.map .d
 |[],ds,h=>by simp[Qev]at h;subst h;rfl
 |a::r,ds,h=>by
  cases a with
  |d x=>
   simp only[Qev]at h;split at h
   ·rename_i l' aa;cases h;rw[Q06 aa];rfl
   ·cases h
  |_=>simp[Qev]at h
theorem Q6H:∀(ds:Y D) (row:Y D) (off j:Nat),off+ds.length<=row.length->(Qdn row off ds)[j]? = if off<=j/\j<off+ds.length then ds[j-off]? else row[j]?
 |[],row,off,j,_=>by simp[Qdn];intro h1 h2;omega
 |v::r,row,off,j,h=>by
  simp only[Qpx]at h;rw[Qdn,Q6H r _ (off+1) j Q3];simp only[Qpx];by_cases h1:off+1<=j/\j<off+1+r.length
  ·rw[Qpo h1,Qpo I,show j-off=(j-(off+1))+1 from I];simp
  ·rw[Qpk h1];by_cases h2:j=off
   ·subst h2;rw[Qpo I,Qps I];simp
   ·rw[Qpk I,Qpt I]
theorem AO:∀(ds:Y D) (row:Y D) (off:Nat),(Qdn row off ds).length=row.length
 |[],_,_=>rfl
 |v::r,row,off=>by simp[Qdn,AO r]
theorem DM(ds:Y D):(ds.map AV.d).all Q3h=true:=by
 grind[Q3h]
theorem Q8a{tt:TT}(hT:TOk P tt){o:Oper}{t:TypeId}{x y:Operand}(ho:o.op = .store t x y){ev:Operand->AV}{hl:Nat->oP Ob}{k:Dl->oP R}{r:R}(h:QaQ tt hl t (ev x) (ev y) k=some r):∃dl,k dl=some r/\K6 P E o ev hl dl:=by
 have b8:x∈o.op.operands.toList:=by grind[Op.operands]
 have bz:y∈o.op.operands.toList:=by simp[ho,Op.operands]
 unfold QaQ at h;split at h
 case h_2=>cases h
 rename_i ti co;have b5:=hT t ti co;cases ay:Nat.beq (Y1 (ev y)).length ti.size with
 |false=>simp[ay]at h
 |true=>
  simp only[ay,Qpc]at h;have az:=Qpa ay;split at h
  ·-- a box
   rename_i l off bo;split at h
   ·rename_i cells a9;split at h
    ·rename_i cs cf;refine⟨_,h,?_⟩;intro β S st a w hR hO hA cq K Q hK;obtain⟨h1,h2,h3,h4⟩:=SS cf;obtain⟨b,hb,hx⟩:=(bo▸hO.at b8).ptr_inv;have ac:look st.h l=some (.box cells):=by rw[hA l (.inl Q2)];exact a9
     obtain⟨b',ty,vs,fz,a3,hw,⟨hf,hst⟩,bc,ba⟩:=hR.hr.ob l _ ac;obtain rfl:b=b':=by rw[hb]at a3;injection a3
     obtain⟨c1,c2,c3⟩:=MH (hO.at bz) h2;have bi:off+(a.eval y).cells.toList.length<=vs.size\/(a.eval y).cells.toList.length=0:=by
      by_cases bv:Y1 (ev y)=[]
      ·right;simp[c1,bv]
      ·left;have:=h3 bv;simp[c1];omega
     have b3:off+0+(a.eval y).cells.toList.length<=vs.size\/(a.eval y).cells.toList=[]:=by
      rcases bi with h | h
      ·left;simpa using h
      ·right;exact Qph h
     obtain⟨w',a5,aa⟩:∃w',(storeCells ⟨b,off,none⟩ (a.eval y).cells.toList 0).run P w = .ok () w'/\Wrote b (Ty vs off (a.eval y).cells.toList) ty fz w w':=by
      rcases b3 with h | h
      ·exact Gn b off ty fz _ 0 vs w hw hf h c3
      ·rw[h];exact⟨w,by simp[storeCells],⟨hw,λ_ _=>rfl,rfl,rfl,rfl,rfl⟩⟩
     have b6:Q5k ty cs:=by
      intro i l' t' hi;rw[h4 i]at hi;split at hi
      ·rw[Qpr]at h2;have:=h2 _ (Qpg hi);simp[Q3h]at this
      ·exact hst i l' t' hi
     have aj:∀j,(Ty vs off (a.eval y).cells.toList)[j]? = if off<=j/\j<off+(Y1 (ev y)).length then(a.eval y).cells[j-off]? else vs[j]?:=by
      intro j;rcases bi with h | h
      ·rw[SG _ _ _ _ h];simp[c1]
      ·have hn:(a.eval y).cells.toList=[]:=Qph h;rw[hn,Qpk (by rw[<- c1,<- Qpl,hn];simp)];rfl
     unfold Oper.wp;rw[Pp ho hx (Pb b5 (by rw[c1];exact az) a5)];refine hK undef _ ⟨β,S,?_,.top _⟩;have ar:∀k',look ((l,Ob.box cs)::rem l st.h) k'=if k'=l then some (.box cs)else look st.h k':=λk'=>WT l k' _ st.h
     have ai:Keep β (look st.h) w β (look ((l,.box cs)::rem l st.h)) w' l:=by
      refine⟨rfl,λh=>?_,λe s rows h=>?_,λb2 bm bk bp _ ao am=>?_,λt f h=>by rw[ac]at h;cases h⟩
      ·rw[ac]at h;cases h
      ·rw[ac]at h;cases h
      ·rw[hb]at ao;injection ao with e;subst e
       rw[hw]at am;injection am with e;injection e with e1 e2 e3;subst e1
       exact⟨_,_,_,aa.blk,U4 _ _ _⟩
     have a2:∀l',Keep β (look st.h) w β (look ((l,.box cs)::rem l st.h)) w' l':=by
      intro l';by_cases e:l'=l
      ·subst e;exact ai
      ·exact⟨rfl,λh=>by rw[ar,Qpk e];exact h,λe' s rows h=>.inr ⟨rows,by rw[ar,Qpk e];exact h,rfl⟩,
        λb2 bm bk bp b4 ao am=>⟨bm,bk,bp,by rw[aa.oth b2 (λe2=>by subst e2;rw[ar,Qpk e]at b4;exact e (hR.hr.inj l' l _ b4 (by simp[ac]) ao hb))];exact am,rfl⟩,λ_ f h=>.inr ⟨f,by rw[ar,Qpk e];exact h⟩⟩
     refine hR.set ac hb aa.oth aa.os aa.tape aa.output aa.size ai ⟨b,ty,_,fz,hb,aa.blk,⟨by rw[U4];exact hf,b6⟩,by rw[U4,bc,h1],λi z hz=>?_⟩;rw[h4 i]at hz;by_cases e:off<=i/\i<off+(Y1 (ev y)).length
     ·rw[Qpo e]at hz;have bl:(Ty vs off (a.eval y).cells.toList).getD i undef=(a.eval y).cells.getD (i-off) undef:=Q1D (by rw[aj i,Qpo e]);rw[bl];have hn:Q0V z=true:=DZ (by rw[Qpr]at h2;exact h2 z (Qpg hz));exact((c2 (i-off) z hz).to_tm0 hn).mono (λ_ h=>h) (λk' hS=>aa.oth k' (λe2=>by subst e2;exact hR.hr.apart l _ (by simp[ac]) hb hS)) (λl' _=>a2 l') (λ_ _=>rfl)
     ·rw[Qpk e]at hz;have bl:(Ty vs off (a.eval y).cells.toList).getD i undef=vs.getD i undef:=Q1D (by rw[aj i,Qpk e]);rw[bl];exact(ba i z hz).mono (λ_ h=>h) (λk' hS=>aa.oth k' (λe2=>by subst e2;exact hR.hr.apart l _ (by simp[ac]) hb hS)) (λl' _=>a2 l') (λ_ _=>rfl)
    ·cases h
   ·cases h
  ·-- an array of the call's own
   rename_i l i off bo;split at h
   ·rename_i e s rows b1;split at h
    ·rename_i ds cj;obtain⟨row,h,b9⟩:=Qy h;have ak:=b9 rfl;cases a4:Nat.ble (off+ds.length) s with
     |false=>simp[a4]at h
     |true=>
      simp only[a4,Qpc]at h;have bi:=Qpj a4;refine⟨_,h,?_⟩;intro β S st a w hR hO hA cq K Q hK;have bn:=Q06 cj;have ac:look st.h l=some (.arr e s rows):=by rw[hA l (.inl Q2)];exact b1
      obtain⟨b,hb,hx⟩:=RdA.ap_inv ac (bo▸hO.at b8);rcases hR.hr.ob l _ ac with⟨_,hn⟩|⟨b',vs,a3,hw,bc,bh,ba⟩
      ·subst hn;simp at ak
      obtain rfl:b=b':=by rw[hb]at a3;injection a3
      obtain⟨c1,c2,c3⟩:=MH (hO.at bz) (by rw[bn];exact DM ds);have b7:(a.eval y).cells.size=ds.length:=by rw[c1,bn];simp
      have hi:i<rows.length:=(Qp8.1 ak).1;have cm:row.length=s:=bh i row ak;have cu:(i+1)*s<=rows.length*s:=Qpe s hi;have cp:(i+1)*s=i*s+s:=QpA i s;have bb:i*s+off+(a.eval y).cells.toList.length<=vs.size:=by simp[b7];omega
      obtain⟨w',a5,aa⟩:=Gn (P:=P) b (i*s+off) e (0,0) (a.eval y).cells.toList 0 vs w hw (Qex _) (by simpa using bb) c3;simp only[Nat.add_zero]at aa;have aj:∀j,(Ty vs (i*s+off) (a.eval y).cells.toList)[j]? = if i*s+off<=j/\j<i*s+off+ds.length then(a.eval y).cells[j-(i*s+off)]? else vs[j]?:=by
       intro j;rw[SG _ _ _ _ bb];simp[b7]
      unfold Oper.wp;rw[Pp ho hx (Pb b5 (by rw[c1];exact az) a5)];refine hK undef _ ⟨β,S,?_,.top _⟩;have bg:∀k',S k'->w'.heap[k']? = w.heap[k']?:=λk' hS=>aa.oth k' (λe2=>by subst e2;exact hR.hr.apart l _ (by simp[ac]) hb hS)
      have ai:Keep β (look st.h) w β (look ((l,.arr e s (rows.set i (Qdn row off ds)))::rem l st.h)) w' l:=by
       refine⟨rfl,λh=>?_,λe' s' cg h=>?_,λb2 bm bk bp _ ao am=>?_,λt f h=>by rw[ac]at h;cases h⟩
       ·rw[ac]at h;cases h
       ·rw[ac]at h;injection h with h;injection h with g1 g2 g3;subst g1;subst g2;subst g3
        exact .inr ⟨_,by rw[WT,Qpo rfl],by simp⟩
       ·rw[hb]at ao;injection ao with e;subst e
        rw[hw]at am;injection am with e;injection e with e1 e2 e3;subst e1
        exact⟨_,_,_,aa.blk,U4 _ _ _⟩
      refine hR.set ac hb aa.oth aa.os aa.tape aa.output aa.size ai (.inr ⟨b,_,hb,aa.blk,by rw[U4];simpa using bc,λi' r' ax=>?_,λi' j' r' z h4 h5=>?_⟩)
      ·by_cases e2:i'=i
       ·subst e2;rw[Qps hi]at ax;injection ax with ax;subst ax
        rw[AO];exact cm
       ·rw[Qpt I]at ax;exact bh i' r' ax
      ·by_cases e2:i'=i
       ·subst e2;rw[Qps hi]at h4;injection h4 with h4;subst h4
        rw[Q6H _ _ _ _ I]at h5;by_cases e3:off<=j'/\j'<off+ds.length
        ·rw[Qpo e3]at h5;have hj:j'-off<(a.eval y).cells.size:=I
         refine⟨(a.eval y).cells.getD (j'-off) undef,?_,?_⟩
         ·rw[aj,Qpo I,show i'*s+j'-(i'*s+off)=j'-off from I];exact KI hj
         ·exact(c2 (j'-off) (.d z) (by rw[bn];simp[h5])).d_inv.mono (λ_ h=>h) bg
        ·rw[Qpk e3]at h5;obtain⟨u,hu,bj⟩:=ba i' j' row z ak h5;exact⟨u,by rw[aj,Qpk I];exact hu,bj.mono (λ_ h=>h) bg⟩
       ·rw[Qpt I]at h4;obtain⟨u,hu,bj⟩:=ba i' j' r' z h4 h5;refine⟨u,?_,bj.mono (λ_ h=>h) bg⟩;have cx:j'<s:=by
         have:=bh i' r' h4;have:=(Qp8.1 h5).1;omega
        rw[aj,Qpk ?_]
        ·exact hu
        ·rcases Nat.lt_or_gt_of_ne e2 with ce | ck
         ·have:(i'+1)*s<=i*s:=Qpe s ce;have:(i'+1)*s=i'*s+s:=QpA i' s;omega
         ·have:(i+1)*s<=i'*s:=Qpe s ck;omega
    ·cases h
   ·cases h
  ·cases h
end
section
variable{P:Program} {E:Env} {R:Type}
theorem Fv{α β:Type}{f:α->Sem β}{g:α->β}{w:World}:∀(l:Y α),(∀x∈l,(f x).run P w = .ok (g x) w)->(l.mapM f).run P w = .ok (l.map g) w
 |[],_=>by simp
 |a::l,h=>by
  have h1:=h a Q2;have h2:=Fv l (λx hx=>h x (by simp[hx]));simp[List.mapM_cons,h1,h2]
theorem Q4M{α β:Type}{f:α->Sem β}{g:α->β}{w:World}(l:Array α)(h:∀x∈l.toList,(f x).run P w = .ok (g x) w):(l.mapM f).run P w = .ok (l.map g) w:=by
 have h1:=Fv (P:=P) l.toList h;rw[<- Array.toList_mapM,Sem.run_map]at h1;cases hr:(l.mapM f).run P w with
 |ok b w'=>
  rw[hr]at h1;simp only[Qp7,Result.ok.injEq]at h1;obtain⟨h2,rfl⟩:=h1;congr 1;apply Array.ext'
  simp_all
 |halt x w'=>simp_all
theorem Q9a(off:Nat):∀(l:Y Value) (k:Nat) (cs:Array Value),(l.zipIdx k).foldl (λcs x=>cs.setIfInBounds (off+x.2) x.1) cs=Ty cs (off+k) l
 |[],_,_=>rfl
 |v::r,k,cs=>by
  simp only[List.zipIdx_cons,List.foldl_cons,Ty];rw[Q9a off r (k+1)];rfl
theorem Qc8(off:Nat)(vs cs:Array Value):vs.zipIdx.foldl (λcs x=>cs.setIfInBounds (off+x.2) x.1) cs=Ty cs off vs.toList:=by
 rw[<- Array.foldl_toList,Array.toList_zipIdx,Q9a];rfl
theorem Q4E{aa:Nat->oP (Nat×Nat)}{cells:Array Value}{i off size:Nat}{v:Value}{rest:Y (Nat×Value)}(hp:aa i=some (off,size))(hs:v.cells.size=size)(hf:off+size<=cells.size) :
  Instr.fill aa cells ((i,v)::rest)=Instr.fill aa (Ty cells off v.cells.toList) rest:=by
 grind[Instr.fill,Qc8]
theorem D6{tt:TT}{fields:Y (Nat×Nat)}{ai:Nat->oP (Nat×Nat)}(an:∀(i off t:Nat) (ti:TyI),fields[i]? = some (off,t)->look tt t=some ti->ai i=some (off,ti.size)){β:Nat->oP Nat}{S:Nat->Prop}{h:Nat->oP Ob}{w:World}{tm:Nat->Value}{ρ:Operand->Value}{ev:Operand->AV} :
  ∀(ac:Y (Nat×Operand)) (cells aa:Y AV) (cs:Array Value),(∀p∈ac,RdA β S h w tm (ρ p.2) (ev p.2))->cs.size=cells.length ->
   (∀(i:Nat) (x:AV),cells[i]? = some x->RdA β S h w tm (cs.getD i undef) x)->Q12 fields tt cells (Vi ev ac)=some aa ->
   ∃ak,Instr.fill ai cs (ac.map λp=>(p.1,ρ p.2))=some ak/\ak.size=aa.length /\
    ∀(i:Nat) (x:AV),aa[i]? = some x->RdA β S h w tm (ak.getD i undef) x
 |[],cells,aa,cs,_,h1,h2,h3=>by
  grind[Vi,Q12,Instr.fill]
 |(i,x)::ac,cells,aa,cs,hp,h1,h2,h3=>by
  simp only[Vi,Q12]at h3;split at h3
  case h_2=>cases h3
  rename_i off t hf;split at h3
  case h_2=>cases h3
  rename_i ti aw;cases hc:(Nat.beq (Y1 (ev x)).length ti.size&&Nat.ble (off+ti.size) cells.length)with
  |false=>simp_all
  |true=>
   simp only[hc,Qpc]at h3;simp only[Qp9]at hc;have hl:=Qpa hc.1;have a4:=Qpj hc.2;split at h3
   case h_2=>cases h3
   rename_i ax ar;obtain⟨g1,g2,g3,g4⟩:=SS ar;obtain⟨c1,c2,c3⟩:=MH (hp (i,x) Q2) g2;have aj:=an i off t ti hf aw;have ao:off+(ρ x).cells.toList.length<=cs.size:=by simp[c1,hl];omega
   rw[QpB,Q4E aj (by rw[c1];exact hl) I];refine D6 an ac ax aa _ (λp au=>hp p (by simp[au])) (by rw[U4,h1,g1]) (λj y hy=>?_) h3;have ay:(Ty cs off (ρ x).cells.toList)[j]? = if off<=j/\j<off+(Y1 (ev x)).length then(ρ x).cells[j-off]? else cs[j]?:=by
    rw[SG _ _ _ _ ao];simp[c1]
   rw[g4 j]at hy;by_cases e:off<=j/\j<off+(Y1 (ev x)).length
   all_goals simp_all [Qpo,Ty,undef,Q1D,Qpk]
theorem Q40{t:TypeId}{aa:Array (Nat×Operand)}{o:Oper}(ho:o.op = .build t aa){p:Nat×Operand}(hp:p∈aa.toList):p.2∈o.op.operands.toList:=by
 grind[Op.operands]
theorem Q8g{tt:TT}(hT:TOk P tt){o:Oper}{t:TypeId}{ac:Array (Nat×Operand)}(ho:o.op = .build t ac){ev:Operand->AV}{hl:Nat->oP Ob}{ti:TyI}(bk:look tt t=some ti)(hs:UV ti.kd=true){cs:Y AV}(h:Q12 ti.fields tt (Dm ti) (Vi ev ac.toList)=some cs):K6 P E o ev hl ⟨.ag cs,[],[]⟩:=by
 have ax:=hT t ti bk;obtain⟨inf,aj,_,_,z,hz,bi⟩:=ax.inf;refine QD λβ S st a w hR hO hA=>?_
 have a8:z.cells.size=(Dm ti).length:=by grind[Array.length_toList,Dm]
 have a5:∀(i:Nat) (x:AV),(Dm ti)[i]? = some x->RdA β S (look st.h) w (tmv a) (z.cells.getD i undef) x:=by
  intro i x hx;simp only[Dm,Qpi,Qpd]at hx;obtain⟨v,hv,rfl⟩:=hx;have:z.cells.getD i undef=v:=by
   rw[<- bi]at hv;obtain⟨hi,he⟩:=Qp8.1 hv;have ba:i<z.cells.size:=by simpa using hi
   simp only[Array.getD,ba,dite_true];simpa using he
  grind[Af]
 have an:(ac.map λx=>(x.1,a.eval x.2)).toList=ac.toList.map λp=>(p.1,a.eval p.2):=by simp
 cases hk:ti.kd with
 |struct=>
  obtain⟨fs,hu,bc,a3⟩:=ax.kstruct hk;let sz:Field->Nat:=λf=>((P.info? f.type).map (·.size)).getD 0
  have au:∀f∈fs.toList,∃i,P.info? f.type=some i/\i.size=sz f:=λf hf=>by
   obtain⟨i,hi,_⟩:=a3 f hf;exact⟨i,hi,by simp[sz,hi]⟩
  have ay:∀(i off t:Nat) (ai:TyI),ti.fields[i]? = some (off,t)->look tt t=some ai->(fs.map λf=>(f.offset,sz f))[i]? = some (off,ai.size):=by
   intro i off t ai hf am;rw[<- bc,Qpi,Qpd]at hf;obtain⟨fd,a2,he⟩:=hf;injection he with he1 he2
   obtain⟨inf,aj,a4⟩:=au fd (Qpg a2);obtain⟨az,aa,ao,_⟩:=(hT t ai am).inf;rw[<- he2,aj]at aa;injection aa with aa
   subst aa;have a9:fs[i]? = some fd:=by simpa using a2
   simp[a9,he1,<- a4,ao]
  obtain⟨aw,h1,h2,h3⟩:=D6 ay (ρ:=a.eval) ac.toList _ _ z.cells (λp hp=>hO.at (Q40 ho hp)) a8 a5 h;refine⟨.agg aw,?_,.ag _ _ h2 h3⟩;have hm:=Q4M (P:=P) (w:=w) (f:=λf:Field=>do pure (f.offset,<- sizeOf f.type)) (g:=λf=>(f.offset,sz f)) fs (λf hf=>by
   obtain⟨i,hi,he⟩:=au f hf;simp[sizeOf,Yx hi,he])
  unfold execOp;rw[ho];simp only[Instr.build,Qpb,zeroValue,Yx aj,hz,X6 hu,Qp7,Qpu,hm,an,h1]
 |array e esz n=>
  obtain⟨hu,bn,⟨i0,a7,a6⟩,bg,ak⟩:=ax.karr e esz n hk;have ay:∀(i off t:Nat) (ai:TyI),ti.fields[i]? = some (off,t)->look tt t=some ai->(λi=>some (i*esz,esz)) i=some (off,ai.size):=by
   intro i off t ai hf am;rw[ak,Qpi,Qpd]at hf;obtain⟨j,hj,he⟩:=hf;have bh:j=i:=by
    have:=Qp8.1 hj;obtain⟨h1,h2⟩:=this;simp at h2;omega
   injection he with he1 he2
   obtain⟨az,aa,ao,_⟩:=(hT t ai am).inf;rw[<- he2,a7]at aa;injection aa with aa
   subst aa;simp only[Option.some.injEq,Prod.mk.injEq];exact⟨by rw[<- he1,bh],I⟩
  obtain⟨aw,h1,h2,h3⟩:=D6 ay (ρ:=a.eval) ac.toList _ _ z.cells (λp hp=>hO.at (Q40 ho hp)) a8 a5 h;refine⟨.agg aw,?_,.ag _ _ h2 h3⟩;have bj:(sizeOf e).run P w = .ok esz w:=by simp[sizeOf,Yx a7,a6]
  unfold execOp;rw[ho];simp only[Instr.build,Qpb,zeroValue,Yx aj,hz,X6 hu,Qp7,Qpu,bj,an,h1]
 |_=>simp[hk,UV]at hs
def UW(S:Nat->Prop)(w:World)(cs:Array Value)(s:Nat)(rows:Y (Y D)):Prop:=
 rows.length*s<=cs.size/\(∀(i:Nat) (r:Y D),rows[i]? = some r->r.length=s)/\∀(i j:Nat) (r:Y D) (x:D),rows[i]? = some r->r[j]? = some x->∃v,cs[i*s+j]? = some v/\Rd S w v x
theorem Q3G:∀{z:Y D} {l:Y AV} {ds:Y D},QaS z l=some ds->ds.length=z.length/\l.length=z.length/\l.all Q3h=true/\(∀t,∀x∈l,gds t x=false) /\
  ∀(β:Nat->oP Nat) (S:Nat->Prop) (h:Nat->oP Ob) (w:World) (tm:Nat->Value) (vs:Nat->Value),(∀(i:Nat) (x:AV),l[i]? = some x->RdA β S h w tm (vs i) x)->∀(i:Nat) (d:D),ds[i]? = some d->Rd S w (vs i) d
 |[],[],ds,h=>by
  grind[QaS]
 |[],_::_,ds,h=>by trivial
 |_::_,[],ds,h=>by simp[QaS]at h
 |z::zs,a::r,ds,h=>by
  simp only[QaS]at h;split at h
  case h_2=>cases h
  rename_i l hl;obtain⟨h1,h2,h3,h4,h5⟩:=Q3G hl;have fin:∀d0,ds=d0::l->Q3h a=true->(∀t,gds t a=false)->(∀(β:Nat->oP Nat) (S:Nat->Prop) (h:Nat->oP Ob) (w:World) (tm:Nat->Value) (v:Value),RdA β S h w tm v a->Rd S w v d0) ->
    ds.length=(z::zs).length/\(a::r).length=(z::zs).length/\(a::r).all Q3h=true/\(∀t,∀x∈a::r,gds t x=false) /\
    ∀(β:Nat->oP Nat) (S:Nat->Prop) (h:Nat->oP Ob) (w:World) (tm:Nat->Value) (vs:Nat->Value),(∀(i:Nat) (x:AV),(a::r)[i]? = some x->RdA β S h w tm (vs i) x)->∀(i:Nat) (d:D),ds[i]? = some d->Rd S w (vs i) d:=by
   intro d0 hd ho hg hr;subst hd;refine⟨by simp[h1],by simp[h2],by simp[ho,h3],λt x hx=>?_,λβ S h w tm vs hv i d hi=>?_⟩
   ·grind
   ·cases i with
    |zero=>simp at hi;subst hi;exact hr β S h w tm _ (hv 0 a rfl)
    |succ i=>exact h5 β S h w tm (λi=>vs (i+1)) (λi x hx=>hv (i+1) x Q4) i d Q4
  split at h
  ·rename_i x;cases h;exact fin x rfl rfl (λ_=>rfl) (λ_ _ _ _ _ _ hv=>hv.d_inv)
  ·split at h
   ·cases h;exact fin _ rfl rfl (λ_=>rfl) (λ_ _ _ _ _ v hv=>by rw[hv.nil_inv];exact .sl0 _ _ _)
   ·cases h;exact fin _ rfl rfl (λ_=>rfl) (λ_ _ _ _ _ v hv=>by rw[hv.nil_inv];exact .nl)
   ·cases h
  ·cases h
end
end Go.Vx
namespace Go.Vx
variable{hl:Nat->oP Ob} {ev:Operand->AV} {S:Nat->Prop} {o:Oper}
section
variable{P:Program} {E:Env} {R:Type}
theorem UW.mono{S S':Nat->Prop}{w w':World}{cs:Array Value}{s:Nat}{rows:Y (Y D)}(h:UW S w cs s rows)(hS:∀b,S b->S' b)(hw:∀b,S b->w'.heap[b]? = w.heap[b]?):UW S' w' cs s rows:=
 ⟨h.1,h.2.1,λi j r x h1 h2=>by
  obtain⟨v,hv,hr⟩:=h.2.2 i j r x h1 h2;exact⟨v,hv,hr.mono hS hw⟩⟩
theorem UW.set{S:Nat->Prop}{w:World}{cs:Array Value}{s:Nat}{rows:Y (Y D)}(h:UW S w cs s rows){i:Nat}{row:Y D}{vs:Array Value}(hi:i<rows.length)(hl:row.length=s)(a2:vs.size=s)(hr:∀(j:Nat) (d:D),row[j]? = some d->Rd S w (vs.getD j undef) d):UW S w (Ty cs (i*s) vs.toList) s (rows.set i row):=by
 obtain⟨h1,h2,h3⟩:=h;have ax:(i+1)*s<=rows.length*s:=Qpe s hi;have ao:(i+1)*s=i*s+s:=QpA i s;have aw:i*s+vs.toList.length<=cs.size:=by grind
 have aj:∀j,(Ty cs (i*s) vs.toList)[j]? = if i*s<=j/\j<i*s+s then vs[j-i*s]? else cs[j]?:=by
  grind[SG]
 refine⟨by grind[U4],λi' r' ay=>?_,λi' j' r' x h4 h5=>?_⟩
 ·grind
 ·by_cases e2:i'=i
  ·subst e2;rw[Qps hi]at h4;injection h4 with h4;subst h4
   have hj:j'<s:=by have:=(Qp8.1 h5).1;omega
   refine⟨vs.getD j' undef,?_,hr j' x h5⟩
   simp_all
  ·rw[Qpt I]at h4;obtain⟨u,hu,ar⟩:=h3 i' j' r' x h4 h5;refine⟨u,?_,ar⟩;have az:j'<s:=by
    have:=h2 i' r' h4;have:=(Qp8.1 h5).1;omega
   rw[aj,Qpk ?_]
   ·exact hu
   ·rcases Nat.lt_or_gt_of_ne e2 with ak | an
    ·have:(i'+1)*s<=i*s:=Qpe s ak;have:(i'+1)*s=i'*s+s:=QpA i' s;omega
    ·have:(i+1)*s<=i'*s:=Qpe s an;omega
theorem UW.zero{S:Nat->Prop}{w:World}{zero:Array Value}{z:Y D}{n m:Nat}(hz:z.length=zero.size)(hr:∀(j:Nat) (x:D),z[j]? = some x->∃v,zero[j]? = some v/\Rd S w v x)(aj:n<=m) :
  UW S w ((Array.range (m*zero.size)).map (zero[· % zero.size]!)) zero.size (List.replicate n z):=by
 refine⟨by simp_all [Qpe],λi r h=>?_,λi j r x h1 h2=>?_⟩
 ·grind
 ·rw[List.getElem?_replicate]at h1;split at h1
  case isFalse=>cases h1
  rename_i hi;injection h1 with h1;subst h1
  obtain⟨v,hv,hx⟩:=hr j x h2;refine⟨v,?_,hx⟩;have hj:j<zero.size:=(Qpm.1 hv).1;have ai:(i+1)*zero.size<=m*zero.size:=Qpe _ I;have aa:(i+1)*zero.size=i*zero.size+zero.size:=QpA i _;have ac:(i*zero.size+j) % zero.size=j:=by rw[Nat.add_comm,Nat.add_mul_mod_self_right];exact Nat.mod_eq_of_lt hj
  grind
theorem Av{aa e s:Nat}{rows:Y (Y D)}{rd:Y Nat}(hn:hl aa=none)(h:∀β S st a w,Rel E β S st a w->Bx β S st a w o ev->(∀l,l∈rd->look st.h l=hl l)->∃(cs:Array Value) (cap:Nat),(execOp a.eval o).run P w = .ok (.value (.slice (some ⟨w.heap.size,0,none⟩) rows.length cap)) (w.alloc (.cells cs e))/\cs.size=cap*s/\rows.length<=cap/\cap<=maxLen/\UW S w cs s rows) :
  K6 P E o ev hl ⟨.arr aa,[]++[(aa,some (.arr e s rows))],rd⟩:=by
 intro β S st a w hR hO hA aw K Q hK;obtain⟨cs,cap,aj,ak,ac,ai,h1,h2,h3⟩:=h β S st a w hR hO (λl am=>hA l (.inl am));have an:look st.h aa=none:=by rw[hA aa (.inr (by simp[wrL]))];exact hn
 have hc:Ut st aa=true:=by grind[Wm]
 unfold Oper.wp;rw[aj];refine hK _ _ ⟨RG β aa (some w.heap.size),S,?_,?_⟩
 ·refine hR.new an hc (.inr ⟨w.heap.size,cs,by simp[RG],J3 _ _,h1,h2,λi j r x h4 h5=>?_⟩);obtain⟨v,hv,hr⟩:=h3 i j r x h4 h5;exact⟨v,hv,hr.mono (λ_ hb=>hb) (λb hb=>YO _ _ (hR.hr.sb b hb))⟩
 ·exact .arr aa w.heap.size cap e s rows cs e (0,0) (by simp[RG]) (by simp[MD,WT]) (J3 _ _) ak ac ai
theorem Qbs{β:Nat->oP Nat}{st:St}{a:Act}{w:World}(hR:Rel E β S st a w)(aa:Obj):Rel E β (λb=>S b\/b=w.heap.size) st a (w.alloc aa):=by
 have:=hR.upd (w':=w.alloc aa) (β':=β) (S':=λb=>S b\/b=w.heap.size) (H':=st.h) (λ_ h=>.inl h) (λb hb=>YO w aa (hR.hr.sb b hb)) (λ_=>False)
  (λl _=>⟨rfl,rfl,λb hs hb=>YO w aa (Ky hR hs hb)⟩) (λl h=>h.elim) (λl o h=>h.elim) hR.hr.inj
  (λl b hs hb hS=>by
   rcases hS with hS | hS
   ·exact hR.hr.apart l b hs hb hS
   ·have:=Ky hR hs hb;omega)
  hR.hr.own
  (λb hS=>by
   simp;rcases hS with hS | hS
   ·have:=hR.hr.sb b hS;omega
   ·omega)
  (λb hS=>by
   rcases hS with hS | hS
   ·exact hR.hr.sfr b hS
   ·right;right;have:=hR.hr.fr.size;omega)
  (Q7F hR.hr.fr aa)
 exact this
theorem UW.rd{w:World}{b cap s:Nat}{cs:Array Value}{ty:TypeId}{fz:Nat×Nat}{rows:Y (Y D)}(h:UW S w cs s rows)(hb:w.heap[b]? = some (.cells cs ty fz))(hS:S b)(aa:rows.length<=cap) :
  Rd S w (.slice (some ⟨b,0,none⟩) rows.length cap) (.sl s rows):=by
 obtain⟨h1,h2,h3⟩:=h;refine .sl _ cap s rows (λi j=>cs.getD (i*s+j) undef) hS aa h2 (λi j r x h4 h5=>?_) (λi j r x h4 h5=>?_)
 ·obtain⟨v,hv,_⟩:=h3 i j r x h4 h5;rw[Jy,Nat.zero_add,J9 hb]
  simp_all
 grind[undef,KI,Array.getElem?_eq_some_iff]
theorem Q4S{e s:Nat}{rows:Y (Y D)}{rd:Y Nat}(h:∀β S st a w,Rel E β S st a w->Bx β S st a w o ev->∃(cs:Array Value) (cap:Nat),(execOp a.eval o).run P w = .ok (.value (.slice (some ⟨w.heap.size,0,none⟩) rows.length cap)) (w.alloc (.cells cs e))/\rows.length<=cap/\UW S w cs s rows) :
  K6 P E o ev hl ⟨.d (.sl s rows),[],rd⟩:=by
 intro β S st a w hR hO hA ak K Q hK;obtain⟨cs,cap,ac,aa,h1⟩:=h β S st a w hR hO;unfold Oper.wp;rw[ac];refine hK _ _ ⟨β,λb=>S b\/b=w.heap.size,Qbs hR _,.d _ _ ?_⟩;exact(h1.mono (λ_ hb=>.inl hb) (λb hb=>YO _ _ (hR.hr.sb b hb))).rd (J3 _ _) (.inr rfl) aa
theorem Ce{β:Nat->oP Nat}{S:Nat->Prop}{h:Nat->oP Ob}{w:World}{tm:Nat->Value}{ρ:Operand->Value}{ev:Operand->AV}{z:Y D} :
  ∀(ac:Y (Nat×Operand)) (rows aa:Y (Y D)) (cs:Array Value),(∀p∈ac,RdA β S h w tm (ρ p.2) (ev p.2))->UW S w cs z.length rows->cs.size=rows.length*z.length ->
   Lq z rows (Vi ev ac)=some aa ->
   ∃ai,Instr.fill (λi=>some (i*z.length,z.length)) cs (ac.map λp=>(p.1,ρ p.2))=some ai/\UW S w ai z.length aa/\ai.size=cs.size/\aa.length=rows.length
 |[],rows,aa,cs,_,h1,h2,h3=>by
  simp[Vi,Lq]at h3;subst h3;exact⟨cs,by simp[Instr.fill],h1,rfl,rfl⟩
 |(i,x)::ac,rows,aa,cs,hp,h1,h2,h3=>by
  simp only[Vi,Lq]at h3;split at h3
  case h_2=>cases h3
  rename_i row ak;cases hc:Nat.ble (i+1) rows.length with
  |false=>simp[hc]at h3
  |true=>
   simp only[hc,Qpc]at h3;have hi:=Qpj hc;obtain⟨t1,t2,t3,_,t5⟩:=Q3G ak;obtain⟨c1,c2,_⟩:=MH (hp (i,x) Q2) t3;have ar:(i+1)*z.length<=rows.length*z.length:=Qpe _ hi;have ao:(i+1)*z.length=i*z.length+z.length:=QpA i _;have an:Instr.fill (λi=>some (i*z.length,z.length)) cs ((i,ρ x)::ac.map λp=>(p.1,ρ p.2))=_:=Q4E (i:=i) (off:=i*z.length) (size:=z.length) rfl (by rw[c1,t2]) I;rw[QpB,an];have aj:=h1.set (i:=i) (row:=row) (vs:=(ρ x).cells) I t1 (by rw[c1,t2]) (λj d hd=>t5 β S h w tm (λj=>(ρ x).cells.getD j undef) c2 j d hd);obtain⟨ai,g1,g2,g3,g4⟩:=Ce ac (rows.set i row) aa _ (λp am=>hp p (by simp[am])) aj (by rw[U4,h2];simp) h3;exact⟨ai,g1,g2,by rw[g3,U4],by rw[g4];simp⟩
theorem Q0T{t:TypeId}{n:Nat}{aa:Array (Nat×Operand)}(ho:o.op = .buildSlice t n aa){p:Nat×Operand}(hp:p∈aa.toList):p.2∈o.op.operands.toList:=by
 grind[Op.operands]
theorem Qeo{tt:TT}(hT:TOk P tt){e:Nat}{ei:TyI}(ai:look tt e=some ei)(ac:ei.zd.length=ei.size){w:World}{z:Value}(hz:z.cells.toList=ei.zero):∀(j:Nat) (x:D),ei.zd[j]? = some x->∃v,z.cells[j]? = some v/\Rd S w v x:=by
 intro j x hx;obtain⟨v,hv,hr⟩:=(hT e ei ai).zd ac j x hx
 grind
theorem NW{tt:TT}(hT:TOk P tt){t:TypeId}{len:Nat}{aa:Array (Nat×Operand)}(ho:o.op = .buildSlice t len aa){u:Bool}{a8:Nat}{k:Dl->oP R}{r:R}(h:KL tt hl a8 u t len (Vi ev aa.toList) k=some r):∃dl,k dl=some r/\K6 P E o ev hl dl:=by
 unfold KL at h;split at h
 case h_2=>cases h
 rename_i e esz hk;cases hc:(Nat.ble (len*esz) 16777216&&(look tt e).isSome&&Nat.beq (M1 tt e).length esz)with
 |false=>simp_all
 |true=>
  simp only[hc,Qpc]at h;simp only[Qp9]at hc;have bk:=Qpj hc.1.1;obtain⟨ei,ax⟩:=Option.isSome_iff_exists.1 hc.1.2;have ai:=Qpa hc.2;have ba:M1 tt e=ei.zd:=by grind[M1]
  rw[ba]at ai h;split at h
  case h_2=>cases h
  rename_i rows au;obtain⟨ti,bg,bb⟩:=XC hk Q2;obtain⟨hu,a3,inf,aj,ar⟩:=(hT t ti bg).ksl _ _ bb;obtain⟨bj,ac,az,_,z,hz,a7⟩:=(hT e ei ax).inf;rw[aj]at ac;injection ac with ac
  subst ac;have am:z.cells.size=esz:=by rw[<- Qpl,a7,(hT e ei ax).zlen,<- az,ar]
  have a6:∀β S st a w,Rel E β S st a w->Bx β S st a w o ev->∃cs:Array Value,(execOp a.eval o).run P w = .ok (.value (.slice (some ⟨w.heap.size,0,none⟩) rows.length len)) (w.alloc (.cells cs e))/\cs.size=len*esz/\rows.length=len/\UW S w cs esz rows:=by
   intro β S st a w hR hO;have base:UW S w ((Array.range (len*z.cells.size)).map (z.cells[· % z.cells.size]!)) z.cells.size (List.replicate len ei.zd):=
    UW.zero (by rw[ai,am]) (Qeo hT ax (by rw[ai,<- az,ar]) a7) (Qpv _)
   rw[am]at base;obtain⟨bc,g1,g2,g3,g4⟩:=Ce (ρ:=a.eval) (ev:=ev) (z:=ei.zd) aa.toList (List.replicate len ei.zd) rows _ (λp hp=>hO.at (Q0T ho hp)) (by rw[ai];exact base) (by simp[ai]) au;rw[ai]at g1 g2;have ak:rows.length=len:=by rw[g4];simp
   refine⟨bc,?_,by rw[g3];simp,ak,g2⟩;have ao:(aa.map λx=>(x.1,a.eval x.2)).toList=aa.toList.map λp=>(p.1,a.eval p.2):=by simp
   have bh:¬ len*esz>2 ^ 24:=I
   unfold execOp;rw[ho];simp only[Instr.buildSlice,Qpb,X6 hu,sizeOf,Yx aj,ar,Qp7,Qpu,bh,if_false,ao];by_cases h0:len*esz=0
   ·have an:((Array.range (len*esz)).map ((#[]:Array Value)[· % (#[]:Array Value).size]!))=((Array.range (len*esz)).map (z.cells[· % esz]!)):=by rw[h0];simp
    simp only[h0,if_true,Qpb,Qpu,Qp7];rw[h0]at an g1;rw[an,g1,ak];simp[newRow]
   ·simp only[h0,if_false,Qpb,zeroValue,Yx aj,hz,Qp7,Qpu,am,g1];simp[newRow,ak]
  have aw:len<=maxLen:=by
   have:len*1<=len*esz:=Qpw len a3;unfold maxLen;omega
  cases u with
  |true=>
   simp only[Qpc]at h;obtain⟨hn,h⟩:=US h;refine⟨_,h,Av hn λβ S st a w hR hO _=>?_⟩;obtain⟨cs,g1,g2,g3,g4⟩:=a6 β S st a w hR hO;exact⟨cs,len,g1,g2,I,aw,g4⟩
  |false=>
   simp only[cond_false]at h;refine⟨_,h,Q4S (e:=e) λβ S st a w hR hO=>?_⟩;obtain⟨cs,g1,g2,g3,g4⟩:=a6 β S st a w hR hO;exact⟨cs,len,g1,I,g4⟩
theorem NX{n:Nat}{u:Unit}(h:Y5 n=some u):n<=140737488355328:=by
 unfold Y5 at h;cases hb:Nat.ble n 140737488355328 with
 |true=>simp_all
 |false=>simp_all
theorem Qai{tt:TT}(hT:TOk P tt){t:TypeId}{l c:Operand}(ho:o.op = .makeSlice t l c){u:Bool}{a3:Nat}{k:Dl->oP R}{r:R}(h:QdF tt hl a3 u t (ev l) (ev c) k=some r):∃dl,k dl=some r/\K6 P E o ev hl dl:=by
 unfold QdF at h;cases u with
 |false=>simp at h
 |true=>
  simp only[Qpc]at h;split at h
  case h_2=>cases h
  rename_i e esz kn n km m hk a8 bh;split at h
  case h_2=>cases h
  rename_i ei an;cases hc:(Nat.ble 1 ei.bytes&&Nat.beq (M1 tt e).length esz)with
  |false=>simp_all
  |true=>
   simp only[hc,Qpc]at h;simp only[Qp9]at hc;have am:=Qpj hc.1;have au:=Qpa hc.2;have a6:M1 tt e=ei.zd:=by simp[M1,an]
   rw[a6]at au h;obtain⟨_,h,bg⟩:=Qy h;obtain⟨_,h,ac⟩:=Qy h;have ac:=NX (ac rfl);have bm:0<=n/\n<=m:=by
    have:=bg rfl;cases hd:(decide (0<=n)&&decide (n<=m))with
    |true=>simpa using hd
    |false=>simp[hd]at this
   obtain⟨hn,h⟩:=US h;obtain⟨ti,bb,a9⟩:=XC hk Q2;obtain⟨hu,bk,inf,ai,aw⟩:=(hT t ti bb).ksl _ _ a9;obtain⟨bj,aa,ax,ba,z,hz,a2⟩:=(hT e ei an).inf;rw[ai]at aa;injection aa with aa
   subst aa;have aj:z.cells.size=esz:=by rw[<- Qpl,a2,(hT e ei an).zlen,<- ax,aw]
   have bi:m.toNat<=140737488355328:=Nat.le_trans (by have:=Qpw m.toNat am;omega) ac;have bc:IntKind.i64.wrap m=m:=by unfold IntKind.wrap;simp[IntKind.bits,IntKind.signed];omega
   have a5:IntKind.i64.wrap n=n:=by unfold IntKind.wrap;simp[IntKind.bits,IntKind.signed];omega
   refine⟨_,h,Av hn λβ S st a w hR hO _=>?_⟩;have ay:=(a8▸hO.at (x:=l) (by simp[ho,Op.operands])).int_inv;have az:=(bh▸hO.at (x:=c) (by simp[ho,Op.operands])).int_inv;have base:UW S w ((Array.range (m.toNat*z.cells.size)).map (z.cells[· % z.cells.size]!)) z.cells.size (List.replicate n.toNat ei.zd):=
    UW.zero (by rw[au,aj]) (Qeo hT an (by rw[au,<- ax,aw]) a2) I
   rw[aj]at base;refine⟨_,m.toNat,?_,?_,?_,?_,base⟩
   ·have ak:(m<0||(inf.bytes:Int)*m>2 ^ 48)=false:=by
     rw[ba];have h1:((ei.bytes:Int)*m)=((m.toNat*ei.bytes:Nat):Int):=by
      rw[Int.natCast_mul,Int.toNat_of_nonneg I,Int.mul_comm]
     have h2:¬ m<0:=I
     have h3:¬ ((m.toNat*ei.bytes:Nat):Int)>2 ^ 48:=I
     rw[h1,decide_eq_false h2,decide_eq_false h3];rfl
    have a7:((m<0||(inf.bytes:Int)*m>2 ^ 48)||n<0||n>m)=false:=by
     rw[ak];simp;omega
    unfold execOp;rw[ho];simp only[Instr.makeSlice,Qpb,X6 hu,asInt,asIntOf,ay,az,Yx ai,Qp7,Qpu,bc,a5,a7,Bool.false_eq_true,if_false,run_askRoom,sizeOf,aw];by_cases h0:m.toNat*esz=0
    ·have ar:((Array.range (m.toNat*esz)).map ((#[]:Array Value)[· % (#[]:Array Value).size]!))=((Array.range (m.toNat*esz)).map (z.cells[· % esz]!)):=by rw[h0];simp
     simp only[h0,if_true,Qpb,Qpu,Qp7];rw[h0]at ar;rw[ar];simp[newRow]
    ·simp only[h0,if_false,Qpb,zeroValue,Yx ai,hz,Qp7,Qpu,aj];simp[newRow]
   ·simp
   ·simp;omega
   ·unfold maxLen;omega
end
end Go.Vx
namespace Go.Vx
variable{β:Nat->oP Nat} {S:Nat->Prop} {w:World} {a:Act}
section
variable{P:Program} {E:Env} {R:Type}
theorem Rd.one{v:Value}{x:D}(h:Rd S w v x):v.oneCell'=true:=by cases h<;>rfl
structure Src(S:Nat->Prop)(w:World)(esz:Nat)(v:Value)(news:List (List D))(vals:List Value):Prop where
 form:(v = .slice none 0 0/\news=[])\/(∃c,v = .slice none 0 c/\news=[])\/∃(ad:Addr) (c:Nat),v = .slice (some ad) news.length c/\∀(j:Nat) (u:Value),vals[j]? = some u->w.cell? (ad.add j)=some u
 len:vals.length=news.length*esz
 one:∀u∈vals,u.oneCell'=true
 row:∀(i:Nat) (r:List D),news[i]? = some r->r.length=esz
 rd:∀(i j:Nat) (r:List D) (x:D),news[i]? = some r->r[j]? = some x->∃u,vals[i*esz+j]? = some u/\Rd S w u x
theorem Src.of_fun{esz:Nat}{news:Y (Y D)}{ad:Addr}{c:Nat}(f:Nat->Value)(ac:0<esz)(aa:∀(i:Nat) (r:Y D),news[i]? = some r->r.length=esz)(hc:∀(i j:Nat) (r:Y D) (x:D),news[i]? = some r->r[j]? = some x->w.cell? (ad.add (i*esz+j))=some (f (i*esz+j))/\Rd S w (f (i*esz+j)) x) :
  ∃vals,Src S w esz (.slice (some ad) news.length c) news vals:=by
 have split:∀q,q<news.length*esz->∃i j r x,q=i*esz+j/\news[i]? = some r/\r[j]? = some x:=by
  intro q hq;have hi:q / esz<news.length:=Nat.div_lt_of_lt_mul (by grind);have hj:q % esz<esz:=Nat.mod_lt _ ac;have h1:news[q / esz]? = some (news[q / esz]):=Qpn hi;have h2:=aa _ _ h1;refine⟨q / esz,q % esz,news[q / esz],(news[q / esz])[q % esz]'I,?_,h1,Qpn _⟩
  grind[Nat.mul_comm,Nat.div_add_mod]
 refine⟨(List.range (news.length*esz)).map f,⟨.inr (.inr ⟨ad,c,rfl,λj u hu=>?_⟩),by simp,λu hu=>?_,aa,λi j r x h1 h2=>?_⟩⟩
 ·grind
 ·obtain⟨q,hq,rfl⟩:=List.mem_map.1 hu;obtain⟨i,j',r,x,rfl,h1,h2⟩:=split q Q4;exact(hc i j' r x h1 h2).2.one
 ·have hi:i<news.length:=(Qp8.1 h1).1;have hj:j<esz:=by have:=aa i r h1;have:=(Qp8.1 h2).1;omega
  have ai:(i+1)*esz<=news.length*esz:=Qpe _ hi
  grind
theorem Q3w{esz:Nat}(ai:0<esz){hl:Nat->oP Ob}{av:AV}{news:Y (Y D)}{rx:Y Nat}(h:Q0X esz hl av=some (news,rx)){st:St}(hR:Rel E β S st a w){v:Value}(hv:RdA β S (look st.h) w (tmv a) v av)(hA:∀l,l∈rx->look st.h l=hl l):∃vals,Src S w esz v news vals:=by
 have ac:∀v,(v = .slice none 0 0\/∃c,v = .slice none 0 c)->Src S w esz v [] []:=λv hv=>
  ⟨by grind,by simp,by simp,by simp,by simp⟩
 unfold Q0X at h;split at h
 ·rename_i s rows;cases hb:Nat.beq s esz with
  |false=>simp_all
  |true=>
   obtain rfl:=Qpa hb;simp only[hb,Qpc,Option.some.injEq,Prod.mk.injEq]at h;obtain⟨rfl,rfl⟩:=h;rcases hv.d_inv.sl_inv with⟨rfl,ad,cap,rfl⟩|⟨ad,cap,c,rfl,hS,aj,ak,hc,hr⟩
   ·cases ad with
    |none=>exact⟨[],ac _ (.inr ⟨cap,rfl⟩)⟩
    |some ad=>exact⟨[],⟨.inr (.inr ⟨ad,cap,rfl,by simp⟩),by simp,by simp,by simp,by simp⟩⟩
   ·refine Src.of_fun (λq=>c (q / s) (q % s)) ai ak λi j r x h1 h2=>?_
    have hj:j<s:=by grind
    simp_all [Nat.add_comm,Nat.add_mul_div_right,Nat.div_eq_of_lt,Nat.zero_add,Nat.add_mul_mod_self_right,Nat.mod_eq_of_lt]
 ·cases h;exact⟨[],ac _ (.inl hv.nil_inv)⟩
 ·rename_i l;split at h
  ·rename_i e s rows a3;cases hb:Nat.beq s esz with
   |false=>simp[hb]at h
   |true=>
    obtain rfl:=Qpa hb;simp only[hb,Qpc,Option.some.injEq,Prod.mk.injEq]at h;obtain⟨rfl,rfl⟩:=h;have an:look st.h l=some (.arr e s rows):=by simp_all
    rcases RdA.arr_inv an hv with⟨_,rfl,rfl⟩|⟨b,cap,cs,ty,fz,ao,rfl,hw,a4,aj,a2⟩
    ·exact⟨[],ac _ (.inl rfl)⟩
    ·rcases hR.hr.ob l _ an with⟨hn,_⟩|⟨b2,ar,am,aw,ak,ax,az⟩
     ·rw[ao]at hn;cases hn
     obtain rfl:b=b2:=by rw[ao]at am;injection am
     refine Src.of_fun (λq=>ar.getD q undef) ai ax λi j r x h1 h2=>?_
     obtain⟨u,hu,ay⟩:=az i j r x h1 h2;have au:=(Qpm.1 hu).1;have aa:=KI au;refine⟨by rw[Jy,Nat.zero_add,J9 aw];exact aa,?_⟩;rw[hu]at aa;injection aa with aa
     rw[<- aa];exact ay
  ·cases h
 ·cases h
theorem Ps{t ty e:Nat}{i:TypeInfo}{z:Value}{esz base:Nat}(ht:P.underlying t=some (.slice e))(hi:P.info? e=some i)(hz:i.zero=some z)(ak:i.size=esz)(aw:z.cells.size=esz)(an:0<esz){v:Value}{n:Nat}{xs:Y Value}(ai:w.ownsRow base e esz v n xs){x:Value}{news:Y (Y D)}{vals:Y Value}(ac:Src S w esz x news vals)(ar:n+news.length<=maxLen)(aj:(n+news.length)*i.bytes<=140737488355328)(am:base<=w.heap.size) :
  ∃v' w',(Builtin.append_ #[t,t] ty #[v,x]).run P w = .ok v' w'/\w'.ownsRow base e esz v' (n+news.length) (xs++vals)/\w.grownBy w' v.ownBlock/\(v'.ownBlock=v.ownBlock\/v'.ownBlock=some w.heap.size):=by
 have aa:∀c,x = .slice none 0 c->news=[]->∃v' w',(Builtin.append_ #[t,t] ty #[v,x]).run P w = .ok v' w'/\w'.ownsRow base e esz v' (n+news.length) (xs++vals)/\w.grownBy w' v.ownBlock/\(v'.ownBlock=v.ownBlock\/v'.ownBlock=some w.heap.size):=by
  intro c hx hn;subst hx;subst hn;have hv:vals=[]:=Qph (by simpa using ac.len);subst hv;refine⟨v,w,?_,by simpa using ai,⟨rfl,rfl,rfl,Qpv _,λ_ _ _=>rfl⟩,.inl rfl⟩;rcases ai.2 with⟨rfl,rfl⟩|⟨g,cap,az,rfl,_,_,au,_⟩
  ·simp[Builtin.append_,X6 ht,sizeOf,Yx hi,Builtin.lenOf,Builtin.firstCells]
  ·simp[Builtin.append_,X6 ht,sizeOf,Yx hi,Builtin.lenOf,Builtin.firstCells,au,storeCells]
 rcases ac.form with⟨h1,h2⟩|⟨c,h1,h2⟩|⟨ad,c,rfl,hc⟩
 ·exact aa 0 h1 h2
 ·exact aa c h1 h2
 ·obtain⟨v',w',g1,g2,g3,_,g5⟩:=run_append_own_at (P:=P) w base t ty e i z esz i.bytes ht hi hz ak rfl aw an v n xs ai ad news.length c vals ac.len hc ac.one ar aj am;exact⟨v',w',g1,g2,g3,g5⟩
theorem GF{o:Oper}{c:Call}{s x:Operand}{t:Nat}(ho:o.op = .call c)(hc:c.callee = .builtin .append)(ha:c.args.toList=[s,x])(hat:c.argTypes.toList=[t,t]){w w':World}{v':Value}(h:(Builtin.append_ #[t,t] o.type #[a.eval s,a.eval x]).run P w = .ok v' w'):(execOp a.eval o).run P w = .ok (.value v') w':=by
 have ac:c.args = #[s,x]:=by grind
 have aa:c.argTypes = #[t,t]:=by grind
 simp_all [execOp,resolve,invoke,builtin,Qpb,Qpu,Qp7,List.map_toArray,QpB,List.map_nil]
def CK(old:oP Nat)(h:Y (Nat×Ob)):Y (Nat×Ob):=
 match old with
 |some l=>rem l h
 |none=>h
theorem Ra{st:St}{w w':World}(hR:Rel E β S st a w){aa e esz:Nat}{rows news:Y (Y D)}{vals:Y Value}(bm:∀(i j:Nat) (r:Y D) (x:D),news[i]? = some r->r[j]? = some x->∃u,vals[i*esz+j]? = some u/\Rd S w u x)(bo:∀(i:Nat) (r:Y D),news[i]? = some r->r.length=esz)(hn:look st.h aa=none)(hc:Ut st aa=true){v v':Value}{base:Nat}{xs:Y Value}(old:oP Nat)(aj:∀l,old=some l->(look st.h l).isSome=true)(ak:∀b,v.ownBlock=some b->∃l,old=some l/\β l=some b)(br:∀(i j:Nat) (r:Y D) (y:D),rows[i]? = some r->r[j]? = some y->∃u,xs[i*esz+j]? = some u/\Rd S w u y)(bj:∀(i:Nat) (r:Y D),rows[i]? = some r->r.length=esz)(bl:xs.length=rows.length*esz)(a5:w'.ownsRow base e esz v' (rows.length+news.length) (xs++vals))(hg:w.grownBy w' v.ownBlock)(hat:v'.ownBlock=v.ownBlock\/∀b,v'.ownBlock=some b->w.heap.size<=b) :
  ∃β' S',Rel E β' S' ⟨st.n,st.tm,(aa,.arr e esz (rows++news))::rem aa (CK old st.h)⟩ a w' /\
   RdA β' S' (look ((aa,.arr e esz (rows++news))::rem aa (CK old st.h))) w' (tmv a) v' (.arr aa):=by
 have ar:∀k,look ((aa,Ob.arr e esz (rows++news))::rem aa (CK old st.h)) k=if k=aa then some (.arr e esz (rows++news))else if old=some k then none else look st.h k:=by
  intro k;rw[WT];by_cases e1:k=aa
  ·simp[e1]
  ·rw[Qpk e1,Qpk e1];cases old with
   |none=>simp[CK]
   |some l=>
    simp only[CK,B7,Option.some.injEq];by_cases e2:k=l
    ·simp[e2]
    ·rw[Qpk e2,Qpk (λh=>e2 h.symm)]
 have a7:∀b,S b->w'.heap[b]? = w.heap[b]?:=λb hS=>hg.block b (hR.hr.sb b hS) (λe1=>by
  obtain⟨l,hl,hb⟩:=ak b e1.symm;exact hR.hr.apart l b (aj l hl) hb hS)
 have a2:∀k b,(look st.h k).isSome=true->old≠some k->β k=some b->w'.heap[b]? = w.heap[b]?:=λk b hs ao hb=>hg.block b (Ky hR hs hb) (λe1=>by
  obtain⟨l,hl,an⟩:=ak b e1.symm;exact ao (by rw[hl,hR.hr.inj k l b hs (aj l hl) hb an]))
 have bv:(xs++vals).length=(rows.length+news.length)*esz:=a5.1;have az:∀(i j:Nat) (r:Y D) (y:D),(rows++news)[i]? = some r->r[j]? = some y->∃u,(xs++vals)[i*esz+j]? = some u/\Rd S w' u y:=by
  intro i j r y h1 h2;by_cases hi:i<rows.length
  ·rw[List.getElem?_append_left hi]at h1;obtain⟨u,hu,hr⟩:=br i j r y h1 h2;refine⟨u,?_,hr.mono (λ_ h=>h) a7⟩;rw[List.getElem?_append_left ((Qp8.1 hu).1)];exact hu
  ·rw[List.getElem?_append_right I]at h1;obtain⟨u,hu,hr⟩:=bm _ j r y h1 h2;refine⟨u,?_,hr.mono (λ_ h=>h) a7⟩;have hm:i*esz=(i-rows.length)*esz+rows.length*esz:=by rw[<- Nat.add_mul];congr 1;omega
   rw[List.getElem?_append_right I,bl,show i*esz+j-rows.length*esz=(i-rows.length)*esz+j from I];exact hu
 have a9:∀(i:Nat) (r:Y D),(rows++news)[i]? = some r->r.length=esz:=by
  intro i r h1;by_cases hi:i<rows.length
  ·rw[List.getElem?_append_left hi]at h1;exact bj i r h1
  ·rw[List.getElem?_append_right I]at h1;exact bo _ r h1
 obtain⟨gb,au,bn,bp⟩:∃gb:oP Nat,v'.ownBlock=gb/\(∀β',β' aa=gb->ObR β' S (look ((aa,Ob.arr e esz (rows++news))::rem aa (CK old st.h))) w' aa (.arr e esz (rows++news))) /\
   ∀β',β' aa=gb->RdA β' S (look ((aa,.arr e esz (rows++news))::rem aa (CK old st.h))) w' (tmv a) v' (.arr aa):=by
  rcases a5.2 with⟨rfl,h0⟩|⟨g,cap,bb,rfl,_,hw,a3,bk,bg,a6⟩
  ·have bh:rows++news=[]:=Qph (by simpa using h0);refine⟨none,rfl,λβ' hb=>.inl ⟨hb,bh⟩,λβ' hb=>.arr0 aa e esz hb (by rw[ar,Qpo rfl,bh])⟩
  ·have ba:(rows++news).length=rows.length+news.length:=by simp
   refine⟨some g,rfl,λβ' hb=>.inr ⟨g,bb,hb,hw,?_,a9,λi j r y h1 h2=>?_⟩,λβ' hb=>?_⟩
   ·rw[ba,bg];exact Qpe _ a3
   ·obtain⟨u,hu,hr⟩:=az i j r y h1 h2;refine⟨u,?_,hr⟩;rw[<- a6,List.getElem?_take]at hu;split at hu
    ·simpa using hu
    ·cases hu
   ·have:=RdA.arr (S:=S) (tm:=tmv a) (h:=look ((aa,Ob.arr e esz (rows++news))::rem aa (CK old st.h))) aa g cap e esz (rows++news) bb e (0,0) hb (by rw[ar,Qpo rfl]) hw bg (by rw[ba];exact a3) bk;rw[ba]at this;exact this
 have ax:∀k b,k≠aa->(look st.h k).isSome=true->old≠some k->β k=some b->gb=some b->False:=by
  intro k b _ hs ao hb he;rcases hat with h | h
  ·obtain⟨l,hl,an⟩:=ak b (by rw[<- h,au,he]);exact ao (by rw[hl,hR.hr.inj k l b hs (aj l hl) hb an])
  ·have:=h b (by rw[au,he]);have:=Ky hR hs hb;omega
 have ai:∀k,k≠aa->(look ((aa,Ob.arr e esz (rows++news))::rem aa (CK old st.h)) k).isSome=true->(look st.h k).isSome=true/\old≠some k:=by
  intro k hk hs;rw[ar,Qpk hk]at hs;by_cases e1:old=some k
  ·rw[Qpo e1]at hs;cases hs
  ·rw[Qpk e1]at hs;exact⟨hs,e1⟩
 have bi:old≠some aa:=λe1=>by have:=aj aa e1;rw[hn]at this;cases this
 refine⟨RG β aa gb,S,?_,bp _ (by simp[RG])⟩;refine hR.upd (λ_ h=>h) a7 (λk=>k=aa\/old=some k) (λk hk=>?_) (λk hk=>?_) (λk o hk ho=>?_) ?_ ?_ ?_ (λb hS=>Qpy (hR.hr.sb b hS) hg.size) hR.hr.sfr ?_
 ·have ay:k≠aa:=λh=>hk (.inl h)
  have bc:old≠some k:=λh=>hk (.inr h)
  exact⟨by simp[RG,ay],by rw[ar,Qpk ay,Qpk bc],λb hs hb=>a2 k b hs bc hb⟩
 ·rcases hk with rfl | hk
  ·exact .inr hc
  ·left;have ay:k≠aa:=λh=>bi (h▸hk)
   have am:look ((aa,Ob.arr e esz (rows++news))::rem aa (CK old st.h)) k=none:=by rw[ar,Qpk ay,Qpo hk]
   exact⟨by simp[RG,ay],λ_=>am,λ_ _ _ _=>.inl am,λb cs ty fz hs=>(by rw[am]at hs;cases hs),λ_ _ _=>.inl am⟩
 ·by_cases e1:k=aa
  ·subst e1;rw[ar,Qpo rfl]at ho;injection ho with ho
   subst ho;exact bn _ (by simp[RG])
  ·rcases hk with h | h
   ·exact absurd h e1
   ·rw[ar,Qpk e1,Qpo h]at ho;cases ho
 ·intro k k' b h1 h2 h3 h4;unfold RG at h3 h4;by_cases e1:k=aa<;>by_cases e2:k'=aa
  ·rw[e1,e2]
  ·rw[Qpo e1]at h3;rw[Qpk e2]at h4;obtain⟨hs,ao⟩:=ai k' e2 h2;exact(ax k' b e2 hs ao h4 h3).elim
  ·rw[Qpk e1]at h3;rw[Qpo e2]at h4;obtain⟨hs,ao⟩:=ai k e1 h1;exact(ax k b e1 hs ao h3 h4).elim
  ·rw[Qpk e1]at h3;rw[Qpk e2]at h4;exact hR.hr.inj k k' b (ai k e1 h1).1 (ai k' e2 h2).1 h3 h4
 ·intro k b h1 h2 hS;unfold RG at h2;by_cases e1:k=aa
  ·rw[Qpo e1]at h2;rcases hat with h | h
   ·obtain⟨l,hl,an⟩:=ak b (by rw[<- h,au,h2]);exact hR.hr.apart l b (aj l hl) an hS
   ·have:=h b (by rw[au,h2]);have:=hR.hr.sb b hS;omega
  ·rw[Qpk e1]at h2;exact hR.hr.apart k b (ai k e1 h1).1 h2 hS
 ·intro k b h1 h2;unfold RG at h2;by_cases e1:k=aa
  ·rw[Qpo e1]at h2;rcases hat with h | h
   ·obtain⟨l,hl,an⟩:=ak b (by rw[<- h,au,h2]);exact hR.hr.own l b (aj l hl) an
   ·have:=h b (by rw[au,h2]);right;have:=hR.hr.fr.size;omega
  ·rw[Qpk e1]at h2;exact hR.hr.own k b (ai k e1 h1).1 h2
 ·have fr:=hR.hr.fr;refine⟨hg.os.trans fr.os,hg.tape.trans fr.tape,hg.output.trans fr.output,Nat.le_trans fr.size hg.size,λb hb hM=>(hg.block b (Qpy hb fr.size) (λe1=>?_)).trans (fr.block b hb hM)⟩;obtain⟨l,hl,an⟩:=ak b e1.symm;rcases hR.hr.own l b (aj l hl) an with h | h
  ·exact hM h
  ·omega
theorem D8{st:St}{w w':World}(hR:Rel E β S st a w){aa e esz:Nat}{rows news:Y (Y D)}{vals:Y Value}{x:Value}(ac:Src S w esz x news vals)(hn:look st.h aa=none)(hc:Ut st aa=true){v v':Value}{base:Nat}{xs:Y Value}(old:oP Nat)(aj:∀l,old=some l->(look st.h l).isSome=true)(am:∀b,v.ownBlock=some b->∃l,old=some l/\β l=some b)(ao:∀(i j:Nat) (r:Y D) (y:D),rows[i]? = some r->r[j]? = some y->∃u,xs[i*esz+j]? = some u/\Rd S w u y)(ak:∀(i:Nat) (r:Y D),rows[i]? = some r->r.length=esz)(an:xs.length=rows.length*esz)(ai:w'.ownsRow base e esz v' (rows.length+news.length) (xs++vals))(hg:w.grownBy w' v.ownBlock)(hat:v'.ownBlock=v.ownBlock\/v'.ownBlock=some w.heap.size) :
  ∃β' S',Rel E β' S' ⟨st.n,st.tm,(aa,.arr e esz (rows++news))::rem aa (CK old st.h)⟩ a w' /\
   RdA β' S' (look ((aa,.arr e esz (rows++news))::rem aa (CK old st.h))) w' (tmv a) v' (.arr aa):=
 Ra hR ac.rd ac.row hn hc old aj am ao ak an ai hg (hat.imp id λh b hb=>by rw[h]at hb;injection hb with hb;omega)
theorem Q67{tt:TT}(hT:TOk P tt){o:Oper}{c:Call}{s x:Operand}{t:Nat}(ho:o.op = .call c)(aw:c.callee = .builtin .append)(ha:c.args.toList=[s,x])(hat:c.argTypes.toList=[t,t]){g:Bool}{ai:Nat}{ev:Operand->AV}{hl:Nat->oP Ob}{k:Dl->oP R}{r:R}(h:Q6e tt ai g hl t (ev s) (ev x) k=some r):∃dl,k dl=some r/\(g=true->K6 P E o ev hl dl):=by
 have bk:c.args = #[s,x]:=by grind
 have bo:s∈o.op.operands.toList:=by grind[Op.operands,Call.operands]
 have bm:x∈o.op.operands.toList:=by simp[ho,Op.operands,Call.operands,aw,bk]
 unfold Q6e at h
 ·split at h
  case h_2=>cases h
  rename_i e esz hk;split at h
  case h_2=>cases h
  rename_i ei cj;cases hc:(Nat.ble 1 ei.bytes&&Nat.beq ei.zero.length esz)with
  |false=>simp_all
  |true=>
   simp only[hc,Qpc]at h;simp only[Qp9]at hc;have ao:=Qpj hc.1;split at h
   case h_2=>cases h
   rename_i news rx ax;obtain⟨ti,cw,cm⟩:=XC hk Q2;obtain⟨hu,aj,inf,ar,a8⟩:=(hT t ti cw).ksl _ _ cm;obtain⟨cz,am,c8,a9,z,hz,co⟩:=(hT e ei cj).inf;rw[ar]at am;injection am with am
   subst am;have az:z.cells.size=esz:=by rw[<- Qpl,co];exact Qpa hc.2
   split at h
   ·-- nil
    rename_i a6;obtain⟨_,h,aa⟩:=Qy h;obtain⟨hn,h⟩:=US h;refine⟨_,h,λhg=>?_⟩;have aa:=NX (aa hg);intro β S st a w hR hO hA a4 K Q hK;have ak:look st.h ai=none:=by rw[hA ai (.inr (by simp[wrL]))];exact hn
    have a2:Ut st ai=true:=by simpa[Wm,ak]using a4
    have hv:=(a6▸hO.at bo).nil_inv;obtain⟨vals,ac⟩:=Q3w aj ax hR (hO.at bm) (λl ay=>hA l (.inl ay));have bb:news.length<=140737488355328:=Nat.le_trans (by have:=Qpw news.length ao;omega) aa;obtain⟨v',w',g1,g2,g3,g4⟩:=Ps (ty:=o.type) hu ar hz a8 az aj (World.ownsRow_nil w w.heap.size e esz) ac (by unfold maxLen;omega) (by rw[a9];simpa using aa) (Qpv _);unfold Oper.wp;rw[GF ho aw ha hat (by rw[hv];exact g1)];refine hK _ _ ?_;have:=D8 (rows:=[]) (v:=.slice none 0 0) hR ac ak a2 none (λ_ h=>by cases h) (λb h=>by simp[Value.ownBlock]at h) (λi j r y h1=>by simp at h1) (λi r h1=>by simp at h1) Q2 g2 g3 g4;exact this
   ·-- a full slice
    rename_i s0 rows a6;cases hb:Nat.beq s0 esz with
    |false=>simp[hb]at h
    |true=>
     simp only[hb,Qpc]at h;obtain rfl:=Qpa hb;obtain⟨_,h,a5⟩:=Qy h;obtain⟨_,h,aa⟩:=Qy h;obtain⟨hn,h⟩:=US h;refine⟨_,h,λhg=>?_⟩;have aa:=NX (aa hg);have a5:news≠[]:=λe=>by have:=a5 hg;rw[e]at this;cases this
     intro β S st a w hR hO hA a4 K Q hK;have ak:look st.h ai=none:=by rw[hA ai (.inr (by simp[wrL]))];exact hn
     have a2:Ut st ai=true:=by simpa[Wm,ak]using a4
     obtain⟨ad,hv,bn⟩:=(a6▸hO.at bo).fs_inv;obtain⟨vals,ac⟩:=Q3w aj ax hR (hO.at bm) (λl ay=>hA l (.inl ay));have bb:rows.length+news.length<=140737488355328:=Nat.le_trans (by have:=Qpw (rows.length+news.length) ao;omega) aa;have dd:0<news.length:=List.length_pos_iff.2 a5;obtain⟨sa,sc,cn,cx⟩:∃(sa:Addr) (sc:Nat),a.eval x = .slice (some sa) news.length sc/\∀(j:Nat) (u:Value),vals[j]? = some u->w.cell? (sa.add j)=some u:=by
      rcases ac.form with⟨_,h2⟩|⟨_,_,h2⟩|⟨sa,sc,h1,h2⟩
      ·exact absurd h2 a5
      ·exact absurd h2 a5
      ·exact⟨sa,sc,h1,h2⟩
     obtain⟨ca,au⟩:=Q3w (hl:=hl) (av:=.d (.sl s0 rows)) (news:=rows) (rx:=[]) aj (by simp[Q0X]) hR (.d _ _ bn) (λl ay=>by cases ay);have bc:∀c,a.eval s = .slice none 0 c->rows=[]->o.wp P a w K Q:=by
      intro c b7 a3;have cu:a.eval s = .slice none 0 0:=by
       rw[hv,a3]at b7 ⊢;injection b7 with h1 h2 h3
       rw[h1];rfl
      subst a3;obtain⟨v',w',g1,g2,g3,g4⟩:=Ps (ty:=o.type) hu ar hz a8 az aj (World.ownsRow_nil w w.heap.size e s0) ac (by unfold maxLen;omega) (by rw[a9];simpa using aa) (Qpv _);unfold Oper.wp;rw[GF ho aw ha hat (by rw[cu];exact g1)];refine hK _ _ ?_;exact D8 (rows:=[]) (v:=.slice none 0 0) hR ac ak a2 none (λ_ h=>by cases h) (λb h=>by simp[Value.ownBlock]at h) (λi j r y h1=>by simp at h1) (λi r h1=>by simp at h1) Q2 g2 g3 g4
     rcases au.form with⟨h1,h2⟩|⟨c,h1,h2⟩|⟨oa,oc,h1,h2⟩
     ·exact bc _ h1 h2
     ·exact bc _ h1 h2
     ·have db:oc=rows.length:=by
       rw[hv]at h1;injection h1 with _ _ h3
       exact h3.symm
      obtain⟨v',w',g1,g2,g3⟩:=run_append_arg_grows (P:=P) w t o.type e inf z s0 inf.bytes hu ar hz a8 rfl az aj oa rows.length oc ca au.len h2 sa news.length sc vals ac.len cx I (by unfold maxLen;omega) (by rw[a9];exact aa);unfold Oper.wp;rw[GF ho aw ha hat (by rw[h1,cn];exact g1)];refine hK _ _ ?_;refine Ra (rows:=rows) (v:=.slice none 0 0) hR ac.rd ac.row ak a2 none (λ_ h=>by cases h) (λb h=>by simp[Value.ownBlock]at h) au.rd au.row au.len g2 g3 (.inr λb hb=>?_);rcases g2.2 with⟨rfl,_⟩|⟨g,cap,c5,rfl,c9,_⟩
      ·simp[Value.ownBlock]at hb
      ·simp[Value.ownBlock]at hb;omega
   ·-- an array of the call's own
    rename_i l a6;split at h
    ·rename_i e' s' rows b0;cases hb:(Nat.beq e e'&&Nat.beq esz s')with
     |false=>simp[hb]at h
     |true=>
      simp only[hb,Qpc]at h;simp only[Qp9]at hb;obtain rfl:=Qpa hb.1;obtain rfl:=Qpa hb.2;obtain⟨_,h,aa⟩:=Qy h;obtain⟨hn,h⟩:=US h;refine⟨_,h,λhg=>?_⟩;have aa:=NX (aa hg);intro β S st a w hR hO hA a4 K Q hK;have ak:look st.h ai=none:=by rw[hA ai (.inr (by simp[wrL]))];exact hn
      have a7:look st.h l=some (.arr e esz rows):=by rw[hA l (.inl Q2)];exact b0
      have a2:Ut st ai=true:=by simp[Wm,ak]at a4;exact a4
      obtain⟨vals,ac⟩:=Q3w aj ax hR (hO.at bm) (λl ay=>hA l (.inl (by simp[ay])));have bb:rows.length+news.length<=140737488355328:=Nat.le_trans (by have:=Qpw (rows.length+news.length) ao;omega) aa;have fin:∀(base:Nat) (xs:Y Value) (v:Value),a.eval s=v->w.ownsRow base e esz v rows.length xs->base<=w.heap.size->(∀b,v.ownBlock=some b->β l=some b) ->
        (∀(i j:Nat) (r:Y D) (y:D),rows[i]? = some r->r[j]? = some y->∃u,xs[i*esz+j]? = some u/\Rd S w u y)->(∀(i:Nat) (r:Y D),rows[i]? = some r->r.length=esz)->o.wp P a w K Q:=by
       intro base xs v hv bg bj b6 cr b9;obtain⟨v',w',g1,g2,g3,g4⟩:=Ps (ty:=o.type) hu ar hz a8 az aj bg ac (by unfold maxLen;omega) (by rw[a9];exact aa) bj;unfold Oper.wp;rw[GF ho aw ha hat (by rw[hv];exact g1)];refine hK _ _ ?_;exact D8 (rows:=rows) (v:=v) hR ac ak a2 (some l) (λl' h=>by injection h with h;subst h;simp[a7]) (λb h=>⟨l,rfl,b6 b h⟩) cr b9 bg.1 g2 g3 g4
      rcases RdA.arr_inv a7 (a6▸hO.at bo)with⟨_,a3,hv⟩|⟨b,cap,cs,ty,fz,bl,hv,hw,b5,bz,cb⟩
      ·have:=World.ownsRow_nil w w.heap.size e esz;exact fin w.heap.size [] _ hv (by rw[a3];exact this) (Qpv _) (λb h=>by simp[Value.ownBlock]at h) (λi j r y h1=>by rw[a3]at h1;simp at h1) (λi r h1=>by rw[a3]at h1;simp at h1)
      ·rcases hR.hr.ob l _ a7 with⟨ce,_⟩|⟨b2,cq,b4,bi,c3,b1,bn⟩
       ·rw[bl]at ce;cases ce
       obtain rfl:b=b2:=by rw[bl]at b4;injection b4
       obtain rfl:cs=cq:=by rw[hw]at bi;injection bi with h1;injection h1
       refine fin 0 (cs.toList.take (rows.length*esz)) _ hv ⟨by simp;omega,.inr ⟨b,cap,cs,rfl,Nat.zero_le _,bi,bz,cb,b5,rfl⟩⟩ (Nat.zero_le _) (λb3 h=>by simp[Value.ownBlock]at h;subst h;exact bl) (λi j r y h1 h2=>?_) b1;obtain⟨u,cg,cp⟩:=bn i j r y h1 h2;have hi:i<rows.length:=(Qp8.1 h1).1;have hj:j<esz:=by have:=b1 i r h1;have:=(Qp8.1 h2).1;omega
       have c4:(i+1)*esz<=rows.length*esz:=Qpe _ hi;have cv:(i+1)*esz=i*esz+esz:=QpA i _;exact⟨u,by rw[List.getElem?_take,Qpo I];simpa using cg,cp⟩
    ·cases h
   ·cases h
end
end Go.Vx
namespace Go.Vx
section
variable{P:Program} {E:Env} {R:Type}
def KS(h:Nat->oP Ob):Y (Nat×oP Ob)->Nat->oP Ob
 |[]=>h
 |(l,o)::r=>KS (λk=>if k=l then o else h k) r
theorem Hi:∀(wr:Y (Nat×oP Ob)) (h:Y (Nat×Ob)),look (MD h wr)=KS (look h) wr
 |[],h=>rfl
 |(l,some o)::r,h=>by
  rw[MD,KS,Hi r];congr 1;funext k;exact WT l k o h
 |(l,none)::r,h=>by
  rw[MD,KS,Hi r];congr 1;funext k;exact B7 l k h
theorem UM:∀{wr:Y (Nat×oP Ob)} {h:Nat->oP Ob} {l:Nat},l ∉ wr.map (·.1)->KS h wr l=h l
 |[],_,_,_=>rfl
 |(k,o)::r,h,l,hn=>by
  simp only[QpB,Qpq,not_or]at hn;rw[KS,UM hn.2,Qpk hn.1]
structure CallOut(β:Nat->oP Nat)(S:Nat->Prop)(h:Nat->oP Ob)(w:World)(dl:Dl)(β':Nat->oP Nat)(S':Nat->Prop)(w':World)(v:Value):Prop where
 hs:∀b,S b->S' b
 sf:∀b,S' b->S b\/w.heap.size<=b\/∃l,l∈wrL dl/\(h l).isSome=true/\β l=some b
 sb:∀b,S' b->b<w'.heap.size
 fr:Fr (λb=>∃l,l∈wrL dl/\(h l).isSome=true/\β l=some b) w w'
 bsame:∀l,l ∉ wrL dl->β' l=β l
 obs:∀l o,l∈wrL dl->KS h dl.wr l=some o->ObR β' S' (KS h dl.wr) w' l o
 keep:∀l,l∈wrL dl->(h l).isSome=true->Keep β h w β' (KS h dl.wr) w' l
 blk:∀l b,l∈wrL dl->(KS h dl.wr l).isSome=true->β' l=some b->(w.heap.size<=b\/∃l0,l0∈wrL dl/\(h l0).isSome=true/\β l0=some b)/\¬ S' b
 inj:∀l l' b,l∈wrL dl->l'∈wrL dl->(KS h dl.wr l).isSome=true->(KS h dl.wr l').isSome=true->β' l=some b->β' l'=some b->l=l'
 none:∀l,l∈wrL dl->h l=none->KS h dl.wr l=none->β' l=β l
 res:RdA β' S' (KS h dl.wr) w' tm0 v dl.v
 gd:∀t,gds t dl.v=false
structure Objs(β:Nat->oP Nat)(S:Nat->Prop)(h:Nat->oP Ob)(w:World):Prop where
 ob:∀l o,h l=some o->ObR β S h w l o
 inj:∀l l' b,(h l).isSome=true->(h l').isSome=true->β l=some b->β l'=some b->l=l'
 apart:∀l b,(h l).isSome=true->β l=some b->¬ S b
 sb:∀b,S b->b<w.heap.size
def ArgsRd(β:Nat->oP Nat)(S:Nat->Prop)(h:Nat->oP Ob)(w:World)(args:Y Value)(aa:Y AV):Prop:=
 args.length=aa.length/\∀(i:Nat) (v:Value) (av:AV),args[i]? = some v->aa[i]? = some av->RdA β S h w tm0 v av
def ZW(P:Program)(f:Nat)(avs:Y AV)(hl:Nat->oP Ob)(dl:Dl):Prop:=
 (∃fn, P.funcs[f]? = some fn /\ fn.body.isSome = true /\ (fn.name == "runtime.NumGoroutine") = false) /\
 ∀β S h w args,Objs β S h w->ArgsRd β S h w args avs->(∀l,l∈dl.rd\/l∈wrL dl->h l=hl l) ->
  Calls P f args.toArray w λe w'=>∃v β' S',e = .returned v/\CallOut β S h w dl β' S' w' v
def BP(P:Program)(spec:Q5R):Prop:=
 ∀(R:Type) (f ac:Nat) (g:Bool) (aa:Y AV) (hl:Nat->oP Ob) (k:Dl->oP R) (r:R),spec R f ac g aa hl k=some r ->
  ∃dl,k dl=some r/\(g=true->ZW P f aa hl dl)
theorem Rel.objs{β:Nat->oP Nat}{S:Nat->Prop}{st:St}{a:Act}{w:World}(hR:Rel E β S st a w):Objs β S (look st.h) w:=⟨hR.hr.ob,hR.hr.inj,hR.hr.apart,hR.hr.sb⟩
theorem Qbw{β:Nat->oP Nat}{S S2:Nat->Prop}{h:Nat->oP Ob}{w:World}{tm:Nat->Value}{v:Value}{av:AV}(hv:RdA β S h w tm v av)(hs:Rm av=true):RdA β S2 h w tm v av:=by
 have hL:∀(l:Y AV) (i:Nat) (x:AV),l[i]? = some x->NC l=true->Rm x=true:=by
  intro l;induction l with
  |nil=>simp_all
  |cons a r ih=>
   intro i x h hs;simp only[NC,Qp9]at hs
   grind
 induction hv with
 |top v=>exact .top v
 |d v x hx=>cases hx with
  |int k n=>exact .d _ _ (.int k n)
  |bool b=>exact .d _ _ (.bool b)
  |str s=>exact .d _ _ (.str s)
  |sl0 a c s=>trivial
  |nl=>exact .d _ _ .nl
  |sl=>simp[Rm]at hs
 |nil=>exact .nil
 |ag cs l hl _ ih=>exact .ag cs l hl λi x hx=>ih i x hx (hL l i x hx (by assumption))
 |tup cs l hl _ ih=>exact .tup cs l hl λi x hx=>ih i x hx (hL l i x hx (by simpa[Rm]using hs))
 |fn=>simp[Rm]at hs
 |ptr l off b hb=>exact .ptr l off b hb
 |sa v l t b hb hv=>exact .sa v l t b hb hv
 |el=>simp[Rm]at hs
 |fs=>simp[Rm]at hs
 |mpd=>simp[Rm]at hs
 |ex v=>exact .ex v
 |arr0 l e s hb hh=>exact .arr0 l e s hb hh
 |arr l b cap e s rows cs ty fz hb hh hw aj ac ai=>exact .arr l b cap e s rows cs ty fz hb hh hw aj ac ai
 |mp l b t f hb hh=>exact .mp l b t f hb hh
 |ap l i off b e s rows hb hh=>exact .ap l i off b e s rows hb hh
 |dang v av l hl hh h1=>exact .dang v av l hl hh h1
 |gdT=>simp[Rm]at hs
 |gdF=>simp[Rm]at hs
theorem Qcs{β β':Nat->oP Nat}{S S':Nat->Prop}{st:St}{a:Act}{w w':World}{v:Value}(hR:Rel E β S st a w){dl:Dl}(a3:Wm st dl.wr=true)(hc:CallOut β S (look st.h) w dl β' S' w' v) :
  Rel E β' S' ⟨st.n,st.tm,MD st.h dl.wr⟩ a w':=by
 have ai:=Hi dl.wr st.h;have ay:∀b,S b->w'.heap[b]? = w.heap[b]?:=λb hS=>hc.fr.block b (hR.hr.sb b hS) (λ⟨l,_,hs,hb⟩=>hR.hr.apart l b hs hb hS)
 have an:∀l,l∈wrL dl->look st.h l=none->KS (look st.h) dl.wr l=none\/Ut st l=true:=by
  intro l hl hn;have:∀(wr:Y (Nat×oP Ob)) (h:Nat->oP Ob),Wm st wr=true->h l=none->KS h wr l=none\/Ut st l=true:=by
   intro wr;induction wr with
   |nil=>intro h _ hn;exact .inl hn
   |cons x r ih=>
    intro h ao a2;obtain⟨k,o⟩:=x;simp only[Wm,Qp9]at ao;by_cases e:l=k
    ·subst e;cases o with
     |none=>exact ih _ ao.2 Q2
     |some o=>
      simp_all
    ·exact ih _ ao.2 Q4
  simp_all
 refine hR.upd hc.hs ay (λl=>l∈wrL dl) (λl hl=>?_) (λl hl=>?_) (λl o hl ho=>?_) ?_ ?_ ?_ hc.sb ?_ ?_
 ·refine⟨hc.bsame l hl,by rw[ai];exact UM hl,λb hs hb=>hc.fr.block b (Ky hR hs hb) (λ⟨l',am,ak,ac⟩=>?_)⟩;exact hl (by rw[hR.hr.inj l l' b hs ak hb ac];exact am)
 ·cases hs:look st.h l with
  |some o=>left;rw[ai];exact hc.keep l hl (by simp[hs])
  |none=>
   rcases an l hl hs with h | h
   ·left;refine⟨?_,λ_=>Q4,λe s rows h'=>Q4,λb cs ty fz h'=>Q4,λt f h'=>(by rw[hs]at h';cases h')⟩;exact hc.none l hl hs h
   simp_all
 ·rw[ai]at ho ⊢;exact hc.obs l o hl ho
 ·intro l l' b h1 h2 h3 h4;rw[ai]at h1 h2;by_cases e1:l∈wrL dl<;>by_cases e2:l'∈wrL dl
  ·exact hc.inj l l' b e1 e2 h1 h2 h3 h4
  ·rw[UM e2]at h2;rw[hc.bsame l' e2]at h4;rcases (hc.blk l b e1 h1 h3).1 with h | ⟨l0,au,hs,hb⟩
   ·have:=Ky hR h2 h4;omega
   ·exact absurd au (by rw[hR.hr.inj l0 l' b hs h2 hb h4];exact e2)
  ·rw[UM e1]at h1;rw[hc.bsame l e1]at h3;rcases (hc.blk l' b e2 h2 h4).1 with h | ⟨l0,au,hs,hb⟩
   ·have:=Ky hR h1 h3;omega
   ·exact absurd au (by rw[<- hR.hr.inj l l0 b h1 hs h3 hb];exact e1)
  ·rw[UM e1]at h1;rw[UM e2]at h2;rw[hc.bsame l e1]at h3;rw[hc.bsame l' e2]at h4;exact hR.hr.inj l l' b h1 h2 h3 h4
 ·intro l b h1 h2 hS;rw[ai]at h1;by_cases e1:l∈wrL dl
  ·exact(hc.blk l b e1 h1 h2).2 hS
  ·rw[UM e1]at h1;rw[hc.bsame l e1]at h2;rcases hc.sf b hS with h | h | ⟨l',am,ak,ac⟩
   ·exact hR.hr.apart l b h1 h2 h
   ·have:=Ky hR h1 h2;omega
   ·exact e1 (by rw[hR.hr.inj l l' b h1 ak h2 ac];exact am)
 ·intro l b h1 h2;rw[ai]at h1;by_cases e1:l∈wrL dl
  ·rcases (hc.blk l b e1 h1 h2).1 with h | ⟨l0,_,hs,hb⟩
   ·right;have:=hR.hr.fr.size;omega
   ·exact hR.hr.own l0 b hs hb
  ·rw[UM e1]at h1;rw[hc.bsame l e1]at h2;exact hR.hr.own l b h1 h2
 ·intro b hS;rcases hc.sf b hS with h | h | ⟨l',am,ak,ac⟩
  ·exact hR.hr.sfr b h
  ·right;right;have:=hR.hr.fr.size;omega
  ·exact .inr (hR.hr.own l' b ak ac)
 ·have fr:=hR.hr.fr;refine⟨hc.fr.os.trans fr.os,hc.fr.tape.trans fr.tape,hc.fr.output.trans fr.output,Nat.le_trans fr.size hc.fr.size,λb hb hM=>(hc.fr.block b (Qpy hb fr.size) (λ⟨l,_,hs,ac⟩=>?_)).trans (fr.block b hb hM)⟩;rcases hR.hr.own l b hs ac with h | h
  all_goals grind
end
end Go.Vx
namespace Go.Vx
variable{hl:Nat->oP Ob} {ev:Operand->AV} {β:Nat->oP Nat} {S:Nat->Prop} {w:World} {h:Nat->oP Ob} {tm:Nat->Value} {o:Oper} {v:Value}
section
variable{P:Program} {E:Env} {R:Type}
def fzS(β:Nat->oP Nat)(S:Nat->Prop)(bs:Y Nat):Nat->Prop:=λb=>S b\/∃l,l∈bs/\β l=some b
def fzH(h:Nat->oP Ob)(bs:Y Nat):Nat->oP Ob:=λk=>if k∈bs then none else h k
theorem QdS(β:Nat->oP Nat)(h:Nat->oP Ob)(w:World)(bs:Y Nat)(l:Nat):Keep β h w β (fzH h bs) w l:=by
 by_cases hl:l∈bs
 ·have hn:fzH h bs l=none:=by grind[fzH]
  exact⟨rfl,λ_=>hn,λ_ _ _ _=>.inl hn,λb cs ty fz hs=>Q4,λ_ _ _=>.inl hn⟩
 ·have hn:fzH h bs l=h l:=by simp[fzH,hl]
  exact⟨rfl,λh=>by simp_all,λe s rows hh=>.inr ⟨rows,by simp_all,rfl⟩,λb cs ty fz _ _ hw=>⟨cs,ty,fz,hw,rfl⟩,λ_ f hh=>.inr ⟨f,by rw[hn];exact hh⟩⟩
theorem Q9z{av:AV}(bs:Y Nat)(hv:RdA β S h w tm v av):RdA β (fzS β S bs) (fzH h bs) w tm v av:=
 hv.mono (λ_ hb=>.inl hb) (λ_ _=>rfl) (λ_ _=>QdS ..) (λ_ _=>rfl)
theorem Objs.fz{β:Nat->oP Nat}{S:Nat->Prop}{h:Nat->oP Ob}{w:World}(hO:Objs β S h w)(bs:Y Nat)(ao:∀l,l∈bs->∃e s rows,h l=some (.arr e s rows))(ay:∀l b,(h l).isSome=true->β l=some b->b<w.heap.size):Objs β (fzS β S bs) (fzH h bs) w:=by
 have aa:∀l,(fzH h bs l).isSome=true->(h l).isSome=true/\l ∉ bs:=by
  grind[fzH]
 refine⟨λl o ho=>?_,λl l' b h1 h2=>hO.inj l l' b (aa l h1).1 (aa l' h2).1,λl b h1 h2 hS=>?_,λb hS=>?_⟩
 ·have aw:h l=some o:=by
   grind[fzH]
  have ac:=hO.ob l o aw;cases o with
  |box cells=>
   obtain⟨b,ty,cs,fz,hb,hw,hf,ai,hr⟩:=ac;exact⟨b,ty,cs,fz,hb,hw,hf,ai,λi x hx=>Q9z bs (hr i x hx)⟩
  |arr e s rows=>
   rcases ac with h0 | ⟨b,cs,hb,hw,ai,au,hr⟩
   ·exact .inl h0
   ·refine .inr ⟨b,cs,hb,hw,ai,au,λi j r x h4 h5=>?_⟩;obtain⟨v,hv,ar⟩:=hr i j r x h4 h5;exact⟨v,hv,ar.mono (λ_ hb=>.inl hb) (λ_ _=>rfl)⟩
  |mp t f=>exact ac
 ·obtain⟨am,hn⟩:=aa l h1;rcases hS with hS | ⟨l',ak,ax⟩
  ·exact hO.apart l b am h2 hS
  ·obtain⟨e,s,rows,hh⟩:=ao l' ak;exact hn (by rw[hO.inj l l' b am (by simp[hh]) h2 ax];exact ak)
 ·rcases hS with hS | ⟨l,hl,hb⟩
  ·exact hO.sb b hS
  grind
theorem Q7B{l e s:Nat}{rows:Y (Y D)}(hO:Objs β S h w)(hh:h l=some (.arr e s rows))(hv:RdA β S h w tm v (.arr l)){S':Nat->Prop}(hS:∀b,S b->S' b)(hb:∀b,β l=some b->S' b) :
  Rd S' w v (.sl s rows):=by
 rcases RdA.arr_inv hh hv with⟨_,rfl,rfl⟩|⟨b,cap,cs,ty,fz,am,rfl,hw,au,aa,_⟩
 ·exact .sl0 _ _ _
 ·rcases hO.ob l _ hh with⟨hn,_⟩|⟨b2,ac,aw,ai,aj,ak,an⟩
  ·simp_all
  obtain rfl:b=b2:=by simp_all
  have hR:UW S' w ac s rows:=⟨aj,ak,λi j r x h1 h2=>by
   obtain⟨u,hu,hr⟩:=an i j r x h1 h2;exact⟨u,hu,hr.mono hS (λ_ _=>rfl)⟩⟩
  exact hR.rd ai (hb b am) aa
theorem EG{av aa:AV}{bs:Y Nat}(h:Q83 hl av=some (aa,bs)) :
  (bs=[]/\aa=av/\Q0V av=true)\/∃l e s rows,av = .arr l/\aa = .d (.sl s rows)/\bs=[l]/\hl l=some (.arr e s rows):=by
 unfold Q83 at h
 grind
theorem BM{hl:Nat->oP Ob}:∀{l l':Y AV} {bs:Y Nat},C1 hl l=some (l',bs)->l'.length=l.length/\∀(i:Nat) (av:AV),l[i]? = some av->∃aa b,l'[i]? = some aa/\Q83 hl av=some (aa,b)/\∀x∈b,x∈bs
 |[],l',bs,h=>by
  simp only[C1,Option.some.injEq,Prod.mk.injEq]at h;obtain⟨rfl,rfl⟩:=h;exact⟨rfl,λi av h=>by simp at h⟩
 |a::r,l',bs,h=>by
  simp only[C1]at h;split at h
  ·rename_i a' b ha;split at h
   ·rename_i r' b' hr;simp only[Option.some.injEq,Prod.mk.injEq]at h;obtain⟨rfl,rfl⟩:=h;obtain⟨h1,h2⟩:=BM hr;refine⟨by simp[h1],λi av hi=>?_⟩;cases i with
    |zero=>simp at hi;subst hi;exact⟨a',b,rfl,ha,λx hx=>by simp[hx]⟩
    |succ i=>
     obtain⟨aa,b2,g1,g2,g3⟩:=h2 i av (by simpa using hi);exact⟨aa,b2,by simpa using g1,g2,λx hx=>by simp[g3 x hx]⟩
   ·cases h
  ·cases h
theorem Q3Q{hl:Nat->oP Ob}:∀{l l':Y AV} {bs:Y Nat},C1 hl l=some (l',bs)->∀x∈bs,∃e s rows,hl x=some (.arr e s rows)
 |[],l',bs,h=>by
  simp only[C1,Option.some.injEq,Prod.mk.injEq]at h;obtain⟨_,rfl⟩:=h;simp
 |a::r,l',bs,h=>by
  simp only[C1]at h;split at h
  ·rename_i a' b ha;split at h
   ·rename_i r' b' hr;simp only[Option.some.injEq,Prod.mk.injEq]at h;obtain⟨_,rfl⟩:=h;intro x hx;rcases Qpz.1 hx with hx | hx
    ·rcases EG ha with⟨rfl,_⟩|⟨l,e,s,rows,_,_,rfl,hh⟩
     ·simp at hx
     ·simp at hx;subst hx;exact⟨e,s,rows,hh⟩
    ·exact Q3Q hr x hx
   ·cases h
  ·cases h
theorem Br{av aa:AV}{bs:Y Nat}(h:N4 hl av=some (aa,bs)):∀x∈bs,∃e s rows,hl x=some (.arr e s rows):=by
 unfold N4 at h;split at h
 ·split at h
  ·rename_i ac l hc;obtain⟨_,rfl⟩:=h;exact Q3Q hc
  ·cases h
 ·rcases EG h with⟨rfl,_⟩|⟨l,e,s,rows,_,_,rfl,hh⟩
  all_goals grind
theorem EB{hl:Nat->oP Ob}:∀{l l':Y AV} {bs:Y Nat},N0 hl l=some (l',bs)->∀x∈bs,∃e s rows,hl x=some (.arr e s rows)
 |[],l',bs,h=>by
  simp only[N0,Option.some.injEq,Prod.mk.injEq]at h;obtain⟨_,rfl⟩:=h;simp
 |a::r,l',bs,h=>by
  simp only[N0]at h;split at h
  ·rename_i a' b ha;split at h
   ·rename_i r' b' hr;simp only[Option.some.injEq,Prod.mk.injEq]at h;obtain⟨_,rfl⟩:=h;intro x hx;rcases Qpz.1 hx with hx | hx
    ·exact Br ha x hx
    ·exact EB hr x hx
   ·cases h
  ·cases h
theorem LM{hl:Nat->oP Ob}:∀{l l':Y AV} {bs:Y Nat},N0 hl l=some (l',bs)->l'.length=l.length/\∀(i:Nat) (av:AV),l[i]? = some av->∃aa b,l'[i]? = some aa/\N4 hl av=some (aa,b)/\∀x∈b,x∈bs
 |[],l',bs,h=>by
  simp only[N0,Option.some.injEq,Prod.mk.injEq]at h;obtain⟨rfl,rfl⟩:=h;exact⟨rfl,λi av h=>by simp at h⟩
 |a::r,l',bs,h=>by
  simp only[N0]at h;split at h
  ·rename_i a' b ha;split at h
   ·rename_i r' b' hr;simp only[Option.some.injEq,Prod.mk.injEq]at h;obtain⟨rfl,rfl⟩:=h;obtain⟨h1,h2⟩:=LM hr;refine⟨by simp[h1],λi av hi=>?_⟩;cases i with
    |zero=>simp at hi;subst hi;exact⟨a',b,rfl,ha,λx hx=>by simp[hx]⟩
    |succ i=>
     obtain⟨aa,b2,g1,g2,g3⟩:=h2 i av (by simpa using hi);exact⟨aa,b2,by simpa using g1,g2,λx hx=>by simp[g3 x hx]⟩
   ·cases h
  ·cases h
theorem Qfo{h hl:Nat->oP Ob}{av aa:AV}{b bs:Y Nat}(hO:Objs β S h w)(hA:∀l,l∈bs->h l=hl l)(hb:∀x∈b,x∈bs)(hc:Q83 hl av=some (aa,b))(hv:RdA β S h w tm v av) :
  RdA β (fzS β S bs) (fzH h bs) w tm0 v aa:=by
 rcases EG hc with⟨_,rfl,hn⟩|⟨l,e,s,rows,rfl,rfl,rfl,hh⟩
 ·exact Q9z bs (hv.to_tm0 hn)
 ·exact .d _ _ (Q7B hO (by rw[hA l (hb l Q2)];exact hh) hv (λ_ h=>.inl h) (λb' h'=>.inr ⟨l,hb l Q2,h'⟩))
theorem Q7n{h hl:Nat->oP Ob}{av aa:AV}{b bs:Y Nat}(hO:Objs β S h w)(hA:∀l,l∈bs->h l=hl l)(hb:∀x∈b,x∈bs)(hc:N4 hl av=some (aa,b))(hv:RdA β S h w tm v av) :
  RdA β (fzS β S bs) (fzH h bs) w tm0 v aa:=by
 unfold N4 at hc;split at hc
 ·rename_i cs;split at hc
  ·rename_i aj l ai;obtain⟨rfl,rfl⟩:=hc;obtain⟨vs,rfl,ac,hr⟩:=hv.ag_inv;obtain⟨h1,h2⟩:=BM ai;refine .ag _ _ (by rw[ac,h1]) λi x hx=>?_
   have hi:i<cs.length:=by grind
   have hc:=Qpn hi
   grind[Qfo]
  ·cases hc
 grind[Qfo]
theorem Ly {o : Oper} {c : Call} {f : Nat} (ho : o.op = .call c) (hc : c.callee = .value (.func f)) {fn : Func} (hf : P.funcs[f]? = some fn) (hb : fn.body.isSome = true) (hn : (fn.name == "runtime.NumGoroutine") = false) {a : Act} {w : World} :
  (execOp a.eval o).run P w = .ok (.enter f (c.args.map a.eval)) w:=by
 unfold execOp;rw[ho];have h1 : ¬ fn.name = "runtime.NumGoroutine" := by simp_all
 have h2:¬ fn.body=none:=by intro h;rw[h]at hb;cases hb
 simp_all [resolve,Act.eval,Deferred.ofValue,invoke,callFunc]
theorem AB{x:Nat}:∀{l:Y Nat},x∈l->PM x l=true
 |a::r,h=>by
  rcases Qpq.1 h with rfl | h
  ·simp[PM]
  ·simp[PM,AB h]
theorem JW{a b:Y Nat}(h:T1 a b=false){x:Nat}(h1:x∈a)(h2:x∈b):False:=by
 grind[T1,List.any_eq_false,AB]
theorem Dg{h h':Nat->oP Ob}:∀{wr:Y (Nat×oP Ob)} {k:Nat},(k ∉ wr.map (·.1)->h k=h' k)->KS h wr k=KS h' wr k
 |[],k,hk=>hk Q2
 |(l,o)::r,k,hk=>by
  simp only[KS];refine Dg λhn=>?_
  by_cases e:k=l
  ·simp[e]
  ·rw[Qpk e,Qpk e];exact hk (by simp[e,hn])
theorem LS{bs:Y Nat}{l:Nat}(hl:l ∉ bs):fzH h bs l=h l:=by grind[fzH]
theorem Qef(β:Nat->oP Nat)(S:Nat->Prop):fzS β S []=S:=by funext b;simp[fzS]
theorem Qed(h:Nat->oP Ob):fzH h []=h:=by funext b;simp[fzH]
theorem Q7W{wr:Y (Nat×oP Ob)}(hw:Vo wr=true):∀(h:Nat->oP Ob) {l:Nat} {o:Ob},l∈wr.map (·.1)->KS h wr l=some o->(∃cells,o = .box cells/\NC cells=true/\(l,some o)∈wr)\/∃e s rows,o = .arr e s rows/\A8 rows=true:=by
 induction wr with
 |nil=>simp_all
 |cons x r ih=>
  intro h l o hl ho;obtain⟨k,ob⟩:=x;have aa:Vo r=true:=by
   cases ob with
   |none=>assumption
   |some ob=>cases ob<;>first | simp_all [Vo,Qp9] | (simp[Vo]at hw)
  simp only[KS]at ho;by_cases hr:l∈r.map (·.1)
  ·grind
  ·rw[UM hr]at ho;simp only[QpB,Qpq,hr,or_false]at hl;rw[Qpo hl]at ho;subst hl;subst ho;cases o with
   |box cells=>simp_all [Vo,Qp9]
   |arr e s rows=>simp only[Vo,Qp9]at hw;exact .inr ⟨e,s,rows,rfl,hw.1⟩
   |mp t f=>simp[Vo]at hw
theorem KG:∀{wr:Y (Nat×oP Ob)},Bz wr=true->Vo wr=true
 |[],_=>rfl
 |(_,none)::r,h=>by simp only[Bz,Qp9]at h;simp only[Vo];exact KG h.2
 |(_,some (.box cells))::r,h=>by simp only[Bz,Q9o,Qp9]at h;simp only[Vo,Qp9];exact⟨h.1,KG h.2⟩
 |(_,some (.arr ..))::r,h=>by simp[Bz,Q9o]at h
theorem GD{tt:TT}:∀{wr:Y (Nat×oP Ob)},EC tt wr=true->(Q3B wr).all A8=true->Vo wr=true
 |[],_,_=>rfl
 |(_,none)::r,h,h2=>by simp only[EC]at h;simp only[Q3B]at h2;simp only[Vo];exact GD h h2
 |(_,some (.box cells))::r,h,h2=>by simp only[EC,Qp9]at h;simp only[Q3B]at h2;simp only[Vo,Qp9];exact⟨h.1,GD h.2 h2⟩
 |(_,some (.arr _ _ rows))::r,h,h2=>by simp only[EC,Qp9]at h;simp only[Q3B,List.all_cons,Qp9]at h2;simp only[Vo,Qp9];exact⟨h2.1,GD h.2 h2.2⟩
theorem QdD{S S2:Nat->Prop}{x:D}(h:Rd S w v x)(hf:Q64 x=true):Rd S2 w v x:=by
 cases h with
 |int k n=>exact .int k n
 |bool b=>exact .bool b
 |str s=>exact .str s
 |sl0 a c s=>trivial
 |nl=>exact .nl
 |sl=>simp[Q64]at hf
theorem Qbv{rows:Y (Y D)}(h:A8 rows=true){i j:Nat}{r:Y D}{x:D}(h1:rows[i]? = some r)(h2:r[j]? = some x):Q64 x=true:=by
 simp only[A8,Qpr]at h;exact h r (Qpg h1) x (Qpg h2)
theorem Q3A:∀{l:Y AV} {i:Nat} {x:AV},l[i]? = some x->NC l=true->Rm x=true
 |a::r,i,x,h,hs=>by
  simp only[NC,Qp9]at hs;cases i with
  |zero=>simp at h;subst h;exact hs.1
  |succ i=>exact Q3A (l:=r) (i:=i) (by simpa using h) hs.2
theorem Q9S{l k:Nat}{cells:Y AV}{wr:Y (Nat×oP Ob)}(hm:(k,some (Ob.box cells))∈wr)(hn:P6 l wr=false):G8 l cells=false:=by
 induction wr with
 |nil=>simp at hm
 |cons x r ih=>
  obtain⟨k',o⟩:=x;rcases Qpq.1 hm with h1 | h1
  ·grind[P6,Bool.or_eq_false_iff]
  ·cases o with
   |none=>grind[P6]
   |some o=>
    cases o with
    |box c=>grind[P6,Bool.or_eq_false_iff]
    |arr e s rows=>exact ih h1 (by assumption)
    |mp t f=>exact ih h1 (by simpa[P6]using hn)
theorem Q74{h h':Nat->oP Ob}{wr:Y (Nat×oP Ob)}{k:Nat}(hk:k∈wr.map (·.1)):KS h wr k=KS h' wr k:=Dg λhn=>absurd hk hn
theorem CallOut.back{β β':Nat->oP Nat}{S S':Nat->Prop}{w w':World}{dl:Dl}{bs:Y Nat}(hO:Objs β S h w)(a7:∀l,l∈bs->∃e s rows,h l=some (.arr e s rows))(hm:T1 bs (wrL dl)=false)(am:BL bs dl=true)(a2:Rm dl.v=true)(az:Vo dl.wr=true)(hc:CallOut β (fzS β S bs) (fzH h bs) w dl β' S' w' v) :
  CallOut β S h w dl β' (λb=>S' b/\¬ ∃l,l∈bs/\β l=some b) w' v:=by
 have aa:∀l,l∈wrL dl->l ∉ bs:=λl h1 h2=>JW hm h2 h1
 have ak:∀l,l∈bs->(h l).isSome=true:=λl hl=>by grind
 have ac:∀l,l ∉ bs->KS (fzH h bs) dl.wr l=KS h dl.wr l:=λl hl=>Dg λ_=>LS hl
 have aj:∀(u:Value) (av:AV),Rm av=true->(∀l,l∈bs->Yq l av=false)->RdA β' S' (KS (fzH h bs) dl.wr) w' tm0 u av->RdA β' (λb=>S' b/\¬ ∃l,l∈bs/\β l=some b) (KS h dl.wr) w' tm0 u av:=by
  intro u av hs hn hr;refine(Qbw (S2:=λb=>S' b/\¬ ∃l,l∈bs/\β l=some b) hr hs).mono (λ_ h=>h) (λ_ _=>rfl) (λl hl=>?_) (λ_ _=>rfl);have a3:l ∉ bs:=λhb=>by simp_all
  have he:=ac l a3;exact⟨rfl,λh=>by simp_all,λe s rows hh=>.inr ⟨rows,by simp_all,rfl⟩,λb cs ty fz _ _ hw=>⟨cs,ty,fz,hw,rfl⟩,λ_ f hh=>.inr ⟨f,by rw[<- he];exact hh⟩⟩
 simp only[BL,Qpr,Qp9,Bool.not_eq_true']at am;have ai:∀l,l∈wrL dl->fzH h bs l=h l:=λl hl=>LS (aa l hl)
 refine⟨λb hS=>⟨hc.hs b (.inl hS),λ⟨l,hl,hb⟩=>hO.apart l b (ak l hl) hb hS⟩,λb hS=>?_,λb hS=>hc.sb b hS.1,?_,hc.bsame,λl o hl ho=>?_,λl hl hs=>?_,λl b hl hs hb=>?_,λl l' b h1 h2 h3 h4=>?_,λl hl h1 h2=>?_,aj v dl.v a2 (λl hl=>(am l hl).1) hc.res,hc.gd⟩
 ·rcases hc.sf b hS.1 with h1 | h1 | ⟨l,h1,h2,h3⟩
  ·rcases h1 with h1 | h1
   all_goals grind
  all_goals grind
 ·exact hc.fr.mono λb _ ⟨l,h1,h2,h3⟩=>⟨l,h1,by rw[<- ai l h1];exact h2,h3⟩
 ·rcases Q7W az h hl ho with⟨cells,rfl,au,an⟩|⟨e,s,rows,rfl,ax⟩
  case inr=>
   rcases hc.obs l _ hl (by rw[ac l (aa l hl)];exact ho)with g | ⟨b,cs,g1,g2,g3,g4,g5⟩
   ·exact .inl g
   ·refine .inr ⟨b,cs,g1,g2,g3,g4,λi j r y h1 h2=>?_⟩;obtain⟨u,q1,q2⟩:=g5 i j r y h1 h2;exact⟨u,q1,QdD q2 (Qbv ax h1 h2)⟩
  obtain⟨b,ty,cs,fz,hb,hw,hf,aw,hr⟩:=hc.obs l _ hl (by rw[ac l (aa l hl)];exact ho);exact⟨b,ty,cs,fz,hb,hw,hf,aw,λi x hx=>aj _ x (Q3A hx au) (λl' ay=>Q3T hx (Q9S an (am l' ay).2)) (hr i x hx)⟩
 ·have K:=hc.keep l hl (by rw[ai l hl];exact hs);have he:=ac l (aa l hl);exact⟨K.b,λh1=>by rw[<- he];exact K.none_ (by rw[ai l hl];exact h1),λe s rows h1=>by rw[<- he];exact K.arr e s rows (by rw[ai l hl];exact h1),λb cs ty fz h1=>K.cells b cs ty fz (by rw[he];exact h1),λt f h1=>by rw[<- he];exact K.mp t f (by rw[ai l hl];exact h1)⟩
 ·obtain⟨h1,h2⟩:=hc.blk l b hl (by rw[ac l (aa l hl)];exact hs) hb;refine⟨?_,λh3=>h2 h3.1⟩;rcases h1 with h1 | ⟨l0,g1,g2,g3⟩
  ·exact .inl h1
  ·exact .inr ⟨l0,g1,by rw[<- ai l0 g1];exact g2,g3⟩
 ·rw[<- ac l (aa l h1)]at h3;rw[<- ac l' (aa l' h2)]at h4;exact hc.inj l l' b h1 h2 h3 h4
 ·exact hc.none l hl (by rw[ai l hl];exact h1) (by rw[ac l (aa l hl)];exact h2)
theorem Rz{β β':Nat->oP Nat}{S S':Nat->Prop}{st:St}{a:Act}{w w':World}(hR:Rel E β S st a w){dl:Dl}{rd:Y Nat}(aa:Wm st dl.wr=true)(hc:CallOut β S (look st.h) w dl β' S' w' v) :
  Out E st a ⟨dl.v,dl.wr,rd⟩ v w':=by
 have h1:=Qcs hR aa hc;have h2:=hc.res;rw[<- Hi]at h2;refine⟨β',S',h1,?_⟩;exact h2.mono (λ_ h=>h) (λ_ _=>rfl) (λl _=>Keep.rfl_ ..) (λt ht=>by rw[hc.gd t]at ht;cases ht)
def Q8r(P:Program)(E:Env)(o:Oper)(ev:Operand->AV)(f:Nat)(avs0:Y AV):Prop:=
 ∀β S st a w,Rel E β S st a w->Bx β S st a w o ev->∃vals:Y Value,vals.length=avs0.length/\(∀(i:Nat) (v:Value) (x:AV),vals[i]? = some v->avs0[i]? = some x->RdA β S (look st.h) w (tmv a) v x) /\
  ∀fn, P.funcs[f]? = some fn -> fn.body.isSome = true -> (fn.name == "runtime.NumGoroutine") = false -> (execOp a.eval o).run P w = .ok (.enter f vals.toArray) w
theorem Q7N{c:Call}{f:Nat}(ho:o.op = .call c)(hc:c.callee = .value (.func f)):Q8r P E o ev f (c.args.toList.map ev):=by
 intro β S st a w hR hO;refine⟨c.args.toList.map a.eval,by simp,λi v x h1 h2=>?_,λfn hf hb hn=>?_⟩
 ·simp only[Qpi,Qpd]at h1 h2;obtain⟨y,hy,rfl⟩:=h1;obtain⟨y',aa,rfl⟩:=h2;rw[hy]at aa;injection aa with aa
  subst aa;have ac:y∈o.op.operands.toList:=by
   grind[List.mem_of_getElem?,Op.operands,Call.operands]
  exact hO.at ac
 ·rw[Ly ho hc hf hb hn];congr 2
  grind
theorem RdA.fn_inv{f:Nat}{l:Y AV}(hv:RdA β S h w tm v (.fn f l)):∃cs:Array Value,v = .func (.func f) #[] cs/\cs.size=l.length/\∀(i:Nat) (x:AV),l[i]? = some x->RdA β S h w tm (cs.getD i undef) x:=by
 cases hv with
 |fn _ cs _ hl hr=>simp_all
 |dang _ _ l hl _ _=>trivial
theorem Q8t{c:Call}{t f:Nat}{cap:Y AV}(ho:o.op = .call c)(hc:c.callee = .value (.tmp t))(hev:ev (.tmp t) = .fn f cap):Q8r P E o ev f (c.args.toList.map ev++cap):=by
 intro β S st a w hR hO;have hmt:Operand.tmp t∈o.op.operands.toList:=by simp[ho,Op.operands,Call.operands,hc]
 obtain⟨cs,hcs,hsz,hr⟩:=(hev▸hO.at hmt).fn_inv;refine⟨c.args.toList.map a.eval++cs.toList,by simp[hsz],λi v x h1 h2=>?_,λfn hf hb hn=>?_⟩
 ·rw[List.getElem?_append]at h1 h2;simp only[List.length_map]at h1 h2;split at h1
  ·rename_i hi;rw[Qpo hi]at h2;simp only[Qpi,Qpd]at h1 h2;obtain⟨y,hy,rfl⟩:=h1;obtain⟨y',hy',rfl⟩:=h2;rw[hy]at hy';injection hy' with hy'
   subst hy';have hmem:y∈o.op.operands.toList:=by
    have:y∈c.args.toList:=Qpg hy;simp only[ho,Op.operands,Call.operands,hc];simp at this;simp[this]
   exact hO.at hmem
  ·rename_i hi;rw[Qpk hi]at h2;have:=hr _ x h2;have hlt:=(Qp8.1 h1).1;have he:cs.getD (i-c.args.toList.length) undef=v:=by
    rw[Array.getElem?_toList]at h1;rw[Array.getD_eq_getD_getElem?,h1];rfl
   rw[he]at this;exact this
 ·have h1 : ¬ fn.name = "runtime.NumGoroutine" := by simpa using hn
  have h2:¬ fn.body=none:=by intro h;rw[h]at hb;cases hb
  have hv:a.eval (.tmp t) = .func (.func f) #[] cs:=hcs;unfold execOp;rw[ho];have harr:(c.args.toList.map a.eval++cs.toList).toArray=c.args.map a.eval++cs:=by apply Array.ext';simp
  rw[harr];simp[resolve,hc,hv,Deferred.ofValue,invoke,callFunc,hf,h1,h2]
theorem Q8U{st:St}{a:Act}(hR:Rel E β S st a w){vals:Y Value}{aa:Y AV}(an:vals.length=aa.length)(ac:∀(i:Nat) (v:Value) (x:AV),vals[i]? = some v->aa[i]? = some x->RdA β S (look st.h) w (tmv a) v x){ai:Y AV}{bs:Y Nat}(am:N0 hl aa=some (ai,bs))(ak:∀l,l∈bs->look st.h l=hl l):ArgsRd β (fzS β S bs) (fzH (look st.h) bs) w vals ai:=by
 obtain⟨ao,aj⟩:=LM am;refine⟨I,λi v av h1 h2=>?_⟩;have hi:i<aa.length:=by grind
 have hx:=Qpn hi;obtain⟨au,b,g1,g2,g3⟩:=aj i _ hx;rw[h2]at g1;injection g1 with g1
 subst g1;exact Q7n hR.objs ak g3 g2 (ac i v _ h1 hx)
theorem Mg{f:Nat}{aa:Y AV}(hF:Q8r P E o ev f aa){am:Y AV}{bs:Y Nat}{dl:Dl}(a2:N0 hl aa=some (am,bs))(az:ZW P f am hl dl)(hm:T1 bs (wrL dl)=false)(a7:T1 bs dl.rd=false)(a3:BL bs dl=true)(ac:bs=[]\/(Rm dl.v=true/\Vo dl.wr=true)) :
  K6 P E o ev hl ⟨dl.v,dl.wr,bs++dl.rd⟩:=by
 intro β S st a w hR hO hA a4 K Q hK;obtain⟨⟨fn,hf,hb,hn⟩,ai⟩:=az;have au:∀l,l∈bs->look st.h l=hl l:=λl h=>hA l (.inl (by simp[h]))
 have aj:∀l,l∈bs->∃e s rows,look st.h l=some (.arr e s rows):=λl h=>by grind[EB]
 have ak:=hR.objs.fz bs aj (λl b hs hb=>Ky hR hs hb);have aw:∀l,l∈dl.rd\/l∈wrL dl->fzH (look st.h) bs l=hl l:=by
  intro l ay;rw[LS (λh=>by grind[JW])];rcases ay with h1 | h1
  ·exact hA l (.inl (by simp[h1]))
  ·exact hA l (.inr h1)
 obtain⟨vals,ar,ax,an⟩:=hF β S st a w hR hO;unfold Oper.wp;rw[an fn hf hb hn];have:=ai β (fzS β S bs) (fzH (look st.h) bs) w _ ak (Q8U hR ar ax a2 au) aw;refine this.mono λe w' ⟨v,β',S',he,ao⟩=>?_
 subst he;refine hK v w' ?_;rcases ac with rfl | ⟨h1,h2⟩
 ·grind[Qef,Qed,Rz]
 ·exact Rz hR a4 (ao.back hR.objs aj hm a3 h1 h2)
theorem RF:∀(a b:Y (Nat×oP Ob)) (h:Y (Nat×Ob)),MD h (a++b)=MD (MD h a) b
 |[],_,_=>rfl
 |(l,some o)::r,b,h=>by simp[MD,RF r b]
 |(l,none)::r,b,h=>by simp[MD,RF r b]
theorem As(bs:Y Nat)(h:Y (Nat×Ob)):look (MD h (bs.map λl=>(l,none)))=fzH (look h) bs:=by
 rw[Hi];generalize look h=f;induction bs generalizing f with
 |nil=>rfl
 |cons a r ih=>
  simp only[QpB,KS];rw[ih]
  grind[fzH]
theorem Q11{st:St}{a:Act}(hR:Rel E β S st a w)(bs:Y Nat)(ai:∀l,l∈bs->∃e s rows,look st.h l=some (.arr e s rows)) :
  Rel E β (fzS β S bs) ⟨st.n,st.tm,MD st.h (bs.map λl=>(l,none))⟩ a w:=by
 have aa:=hR.objs.fz bs ai (λl b hs hb=>Ky hR hs hb);have aj:=As bs st.h;refine⟨hR.n,hR.dfr,λt av ht=>by rw[aj];exact Q9z bs (hR.tm t av ht),?_⟩;rw[aj];have ac:∀l,(fzH (look st.h) bs l).isSome=true->(look st.h l).isSome=true:=λl hs=>by
  grind[fzH]
 refine⟨aa.ob,aa.inj,aa.apart,λl b hs hb=>hR.hr.own l b (ac l hs) hb,aa.sb,λb hS=>?_,λb h=>.inl (hR.hr.s0 b h),hR.hr.fr,hR.hr.pin,λl b hp hs=>hR.hr.psz l b hp (ac l hs)⟩;rcases hS with h | ⟨l,hl,hb⟩
 ·exact hR.hr.sfr b h
 ·obtain⟨e,s,rows,hh⟩:=ai l hl;exact .inr (hR.hr.own l b (by simp[hh]) hb)
theorem V0{l k:Nat}:∀{h:Y (Nat×Ob)},Jj l h=false->Jj l (rem k h)=false
 |[],_=>rfl
 |(a,.box c)::r,hn=>by
  simp only[Jj,Bool.or_eq_false_iff]at hn;simp only[rem];cases Nat.beq a k with
  |true=>exact V0 hn.2
  |false=>simp[Jj,hn.1,V0 hn.2]
 |(a,.arr e s rows)::r,hn=>by
  simp only[Jj]at hn;simp only[rem];cases Nat.beq a k with
  |true=>exact V0 hn
  |false=>simp[Jj,V0 hn]
 |(a,.mp t f)::r,hn=>by
  simp only[Jj]at hn;simp only[rem];cases Nat.beq a k with
  |true=>exact V0 hn
  |false=>simp[Jj,V0 hn]
theorem Q4P{l:Nat}:∀(bs:Y Nat) {h:Y (Nat×Ob)},Jj l h=false->Jj l (MD h (bs.map λl=>(l,none)))=false
 |[],_,hn=>hn
 |a::r,h,hn=>by simp only[QpB,MD];exact Q4P r (V0 hn)
theorem RE{st:St}:∀{a b:Y (Nat×oP Ob)},Wm st (a++b)=true->Wm st b=true
 |[],_,h=>h
 |(l,o)::r,b,h=>by
  simp only[List.cons_append,Wm,Qp9]at h;exact RE h.2
theorem BG{st:St}{bs:Y Nat}:∀{wr:Y (Nat×oP Ob)},(∀l,l∈wr.map (·.1)->l ∉ bs)->Wm st wr=true->Wm ⟨st.n,st.tm,MD st.h (bs.map λl=>(l,none))⟩ wr=true
 |[],_,_=>rfl
 |(l,o)::r,hn,h=>by
  simp only[Wm,Qp9]at h ⊢;refine⟨?_,BG (λk hk=>hn k (by simp[hk])) h.2⟩;have aa:l ∉ bs:=hn l Q2;rw[As,LS aa];cases o with
  |none=>rfl
  |some o=>
   cases hs:look st.h l with
   |some o'=>rfl
   |none=>
    have h1:=h.1;rw[hs]at h1;simp only[Ut,Qp9,Bool.not_eq_true']at h1 ⊢;exact⟨h1.1,h1.2.1,Q4P bs h1.2.2⟩
theorem CG{f:Nat}{ac:Y AV}(hF:Q8r P E o ev f ac){ao:Y AV}{bs:Y Nat}{dl:Dl}(au:N0 hl ac=some (ao,bs))(a4:ZW P f ao hl dl)(hm:T1 bs (wrL dl)=false)(az:T1 bs dl.rd=false) :
  K6 P E o ev hl ⟨dl.v,bs.map (λl=>(l,none))++dl.wr,bs++dl.rd⟩:=by
 intro β S st a w hR hO hA a5 K Q hK;obtain⟨⟨fn,hf,hb,hn⟩,aj⟩:=a4;have an:∀l,l∈bs->look st.h l=hl l:=λl h=>hA l (.inl (by simp[h]))
 have ak:∀l,l∈bs->∃e s rows,look st.h l=some (.arr e s rows):=λl h=>by rw[an l h];exact EB au l h
 have am:=hR.objs.fz bs ak (λl b hs hb=>Ky hR hs hb);have ay:∀l,l∈dl.rd\/l∈wrL dl->fzH (look st.h) bs l=hl l:=by
  intro l aa;rw[LS (λh=>by rcases aa with h1 | h1<;>first | exact JW az h h1 | exact JW hm h h1)];rcases aa with h1 | h1
  ·exact hA l (.inl (by simp[h1]))
  ·exact hA l (.inr (by simp only[wrL,List.map_append,Qpz];exact .inr h1))
 obtain⟨vals,aw,a2,ar⟩:=hF β S st a w hR hO;unfold Oper.wp;rw[ar fn hf hb hn];have:=aj β (fzS β S bs) (fzH (look st.h) bs) w _ am (Q8U hR aw a2 au an) ay;refine this.mono λe w' ⟨v,β',S',he,ai⟩=>?_
 subst he;refine hK v w' ?_;rw[<- As]at ai;have ax:Wm ⟨st.n,st.tm,MD st.h (bs.map λl=>(l,none))⟩ dl.wr=true:=BG (λl aa h=>JW hm h aa) (RE a5);obtain⟨a3,S'',g1,g2⟩:=Rz (rd:=bs++dl.rd) (Q11 hR bs ak) ax ai;refine⟨a3,S'',?_,?_⟩
 all_goals grind[RF]
theorem Ag{t:Nat}:∀{l:Y AV},l.all Q0V=true->Q07 t l=false
 |[],_=>rfl
 |a::r,h=>by
  simp only[List.all_cons,Qp9]at h;simp only[Q07,R1 h.1 t,Ag h.2,Bool.or_false]
theorem Q4a{x:AV}(h:Qay x=true)(t:Nat):gds t x=false:=by
 unfold Qay at h
 grind[gds,Ag,R1]
theorem Q25{f:Nat}{aa:Y AV}(hF:Q8r P E o ev f aa){dl:Dl}(ar:aa.all Qay=true)(an:ZW P f aa hl dl):K6 P E o ev hl dl:=by
 intro β S st a w hR hO hA ao K Q hK;obtain⟨⟨fn,hf,hb,hn⟩,ac⟩:=an;obtain⟨vals,ak,am,ai⟩:=hF β S st a w hR hO;unfold Oper.wp;rw[ai fn hf hb hn];have:=ac β S (look st.h) w _ hR.objs ⟨ak,λi v x h1 h2=>(am i v x h1 h2).mono (λ_ h=>h) (λ_ _=>rfl) (λl _=>Keep.rfl_ ..) (λt ht=>by
  grind[Q4a,List.all_eq_true,List.mem_of_getElem?])⟩ (λl h=>hA l h)
 refine this.mono λe w' ⟨v,β',S',he,aj⟩=>?_
 subst he;exact hK v w' (Rz hR ao aj)
theorem Q4u{spec:Q5R}{tt:TT}(hS:BP P spec){f:Nat}{ak:Nat}{g u:Bool}{ac:Y AV}(hF:Q8r P E o ev f ac){k:Dl->oP R}{r:R}(h:Qcp spec tt ak g u hl f ac k=some r):∃dl,k dl=some r/\(g=true->K6 P E o ev hl dl):=by
 unfold Qcp at h;cases aj:Qjx spec f with
 |true=>
  simp only[aj,Qpc]at h;cases am:ac.all Qay with
  |false=>simp_all
  |true=>
  simp only[am,Qpc]at h;obtain⟨dl,h,an⟩:=hS _ _ _ _ _ _ _ _ h
  grind[Q25]
 |false=>
 simp only[aj,cond_false]at h;split at h
 case h_2=>cases h
 rename_i ar bs au;obtain⟨dl,h,an⟩:=hS _ _ _ _ _ _ _ _ h;cases aa:(!T1 bs (wrL dl)&&(!T1 bs dl.rd&&BL bs dl))with
 |false=>simp_all
 |true=>
  simp only[aa,Qpc]at h;simp only[Qp9,Bool.not_eq_true']at aa;obtain⟨hm,ao,aw⟩:=aa;cases hf:(bs.isEmpty||(Rm dl.v&&Bz dl.wr))with
  |true=>
   simp only[hf,Qpc]at h
   grind[Mg,KG]
  |false=>
   simp only[hf,cond_false]at h;cases ai:(Rm dl.v&&EC tt dl.wr)with
   |true=>
    simp only[ai,Qpc]at h;simp only[Qp9]at ai;obtain⟨_,h,hp⟩:=Qy h
    grind[Mg,GD,Lb,Q3B,A8]
   |false=>
    simp only[ai,cond_false]at h;cases u with
    |false=>simp at h
    |true=>
     simp only[Qpc]at h
     grind[CG]
end
end Go.Vx
namespace Go.Vx
variable{hl:Nat->oP Ob}
section
variable{P:Program} {E:Env} {R:Type}
theorem Q4R{x:Nat}:∀{l:Y Nat},PM x l=true↔x∈l
 |[]=>by simp[PM]
 |a::r=>by
  simp only[PM,Bool.or_eq_true,Q4R (l:=r),Qpq];constructor
  ·rintro (h | h)
   ·exact .inl (Qpa h).symm
   ·exact .inr h
  ·rintro (h | h)
   ·exact .inl (by rw[h];exact Nat.beq_refl _)
   ·exact .inr h
def Qgb(av:AV):Prop:=(∀k,Yq k av=false)/\(∀t,gds t av=false)/\av≠.top
theorem QeE(hl:Nat->oP Ob)(bs:Y Nat):QiL hl bs=fzH hl bs:=by
 funext k;simp[QiL,fzH,PM,Qpo,Q4R,Qpk]
theorem Q1l(hl:Nat->oP Ob)(ev:Operand->AV):∀(l:Y (Nat×Operand)),Vi (λx=>cv1 hl (ev x)) l=cvP hl (Vi ev l)
 |[]=>rfl
 |(i,x)::r=>by simp only[Vi,cvP,Q1l hl ev r]
theorem Qal{hl:Nat->oP Ob}{ev:Operand->AV}:∀{l:Y (Nat×Operand)} {p:Nat×Operand},p∈l->∀a b,N4 hl (ev p.2)=some (a,b)->∀x∈b,x∈bsP hl (Vi ev l)
 |(i,y)::r,p,hp,a,b,hc,x,hx=>by
  simp only[Vi,bsP];rcases Qpq.1 hp with rfl | hp
  ·simp only at hc;rw[hc];exact List.mem_append_left _ hx
  ·have ih:=Qal hp a b hc x hx;split
   ·exact List.mem_append_right _ ih
   ·exact ih
theorem Q6s{hl:Nat->oP Ob}:∀{l:Y (Nat×AV)} {x:Nat},x∈bsP hl l->∃e s rows,hl x=some (.arr e s rows)
 |[],x,h=>by simp[bsP]at h
 |(i,a)::r,x,h=>by
  simp only[bsP]at h;split at h
  ·rename_i a' b hc;rcases Qpz.1 h with h | h
   ·exact Br hc x h
   ·exact Q6s h
  ·exact Q6s h
theorem Q3Z:∀{z:Y D} {l:Y AV} {ds:Y D},QaS z l=some ds->(∀k,G8 k l=false)/\(∀t,Q07 t l=false)/\∀x∈l,x≠.top
 |[],[],ds,h=>⟨λ_=>rfl,λ_=>rfl,λx h=>by simp at h⟩
 |[],_::_,ds,h=>by simp[QaS]at h
 |_::_,[],ds,h=>by simp[QaS]at h
 |z::zs,a::r,ds,h=>by
  simp only[QaS]at h;split at h
  case h_2=>cases h
  rename_i l hl;obtain⟨h1,h2,h3⟩:=Q3Z hl;split at h
  ·exact⟨λk=>by simp[G8,Yq,h1 k],λt=>by simp[Q07,gds,h2 t],λx hx=>by
    rcases Qpq.1 hx with rfl | hx
    ·simp
    ·exact h3 x hx⟩
  ·exact⟨λk=>by simp[G8,Yq,h1 k],λt=>by simp[Q07,gds,h2 t],λx hx=>by
    rcases Qpq.1 hx with rfl | hx
    ·simp
    ·exact h3 x hx⟩
  ·cases h
theorem Q88{z:Y D}{av:AV}{ds:Y D}(h:QaS z (Y1 av)=some ds):Qgb av:=by
 obtain⟨h1,h2,h3⟩:=Q3Z h;cases av with
 |ag l=>exact⟨λk=>by grind[Yq,Y1],λt=>by grind[gds,Y1],by simp⟩
 |fs _ _=>exact⟨λk=>rfl,λt=>rfl,by simp⟩
 |_=>exact⟨λk=>by simp_all [G8,Y1],λt=>by simp_all [Q07,Y1],h3 _ (by simp[Y1])⟩
theorem C6{z:Y D}:∀{aa:Y (Nat×AV)} {rows ac:Y (Y D)},Lq z rows aa=some ac->∀p∈aa,Qgb p.2
 |[],_,_,_,p,hp=>by simp at hp
 |(i,v)::r,rows,ac,h,p,hp=>by
  simp only[Lq]at h;split at h
  case h_2=>cases h
  rename_i row ai;cases hc:Nat.ble (i+1) rows.length with
  |false=>simp[hc]at h
  |true=>
   simp only[hc,Qpc]at h;rcases Qpq.1 hp with rfl | hp
   ·exact Q88 ai
   ·exact C6 h p hp
theorem Am{ev:Operand->AV}:∀{l:Y (Nat×Operand)} {p:Nat×Operand},p∈l->(p.1,ev p.2)∈Vi ev l
 |(i,y)::r,p,hp=>by
  simp only[Vi];rcases Qpq.1 hp with rfl | hp
  ·simp
  ·exact List.mem_cons_of_mem _ (Am hp)
theorem AT{tt:TT}{ai:Nat}{u:Bool}{t len:Nat}{aa:Y (Nat×AV)}{k:Dl->oP R}{r:R}(h:KL tt hl ai u t len aa k=some r):∀p∈aa,Qgb p.2:=by
 unfold KL at h;split at h
 case h_2=>cases h
 rename_i e esz hk;cases hc:(Nat.ble (len*esz) 16777216&&(look tt e).isSome&&Nat.beq (M1 tt e).length esz)with
 |false=>simp_all
 |true=>
  simp only[hc,Qpc]at h;split at h
  case h_2=>cases h
  rename_i rows ac;exact C6 ac
theorem Q3r{o:Oper}{ev:Operand->AV}{bs:Y Nat}{dl:Dl}(au:∀l,l∈bs->∃e s rows,hl l=some (.arr e s rows))(ak:∀x∈o.op.operands.toList,(∃b,N4 hl (ev x)=some (cv1 hl (ev x),b)/\∀y∈b,y∈bs)/\Qgb (cv1 hl (ev x)))(hG:K6 P E o (λx=>cv1 hl (ev x)) (fzH hl bs) dl)(hm:T1 bs (wrL dl)=false)(ay:T1 bs dl.rd=false):K6 P E o ev hl ⟨dl.v,bs.map (λl=>(l,none))++dl.wr,bs++dl.rd⟩:=by
 intro β S st a w hR hO hA an K Q hK;have am:∀l,l∈bs->look st.h l=hl l:=λl h=>hA l (.inl (by simp[h]))
 have ai:∀l,l∈bs->∃e s rows,look st.h l=some (.arr e s rows):=λl h=>by simp_all
 have ao:=Q11 hR bs ai;refine hG β (fzS β S bs) _ a w ao (λx hx=>⟨?_,λl _=>(ak x hx).2.1 l⟩) ?_ (BG (λl aa h=>JW hm h aa) (RE an)) K Q λv w' aj=>hK v w' ?_
 ·obtain⟨⟨b,h1,h2⟩,hb⟩:=ak x hx;rw[As];exact(Q7n hR.objs am h2 h1 (hO.at hx)).mono (λ_ h=>h) (λ_ _=>rfl) (λl _=>Keep.rfl_ ..) (λt ht=>by rw[hb.2.1 t]at ht;cases ht)
 ·intro l aa;have ac:l ∉ bs:=λh=>by grind[JW]
  rw[As,LS ac,LS ac];rcases aa with h1 | h1
  ·exact hA l (.inl (by simp[h1]))
  ·exact hA l (.inr (by simp_all [wrL,List.map_append,Qpz]))
 ·obtain⟨β',S',g1,g2⟩:=aj;refine⟨β',S',?_,?_⟩
  all_goals grind[RF]
theorem Q5F{tt:TT}(hT:TOk P tt){o:Oper}{t:TypeId}{len:Nat}{aa:Array (Nat×Operand)}(ho:o.op = .buildSlice t len aa){u:Bool}{ac:Nat}{ev:Operand->AV}{k:Dl->oP R}{r:R}(h:Q5u tt hl ac u t len (Vi ev aa.toList) k=some r):∃dl,k dl=some r/\K6 P E o ev hl dl:=by
 unfold Q5u at h;split at h
 ·exact NW hT ho h
 ·rename_i b bs hb;cases u with
  |false=>simp at h
  |true=>
   rw[<- Q1l]at h;have ak:=AT h;rw[QeE]at h;obtain⟨dl,h,hG⟩:=NW (E:=E) hT ho h;cases hc:(!T1 (b::bs) (wrL dl)&&!T1 (b::bs) dl.rd)with
   |false=>simp_all
   |true=>
    simp only[hc,Qpc]at h;simp only[Qp9,Bool.not_eq_true']at hc;refine⟨_,h,Q3r (λl ai=>Q6s (hb▸ai)) (λx hx=>?_) hG hc.1 hc.2⟩;obtain⟨i,hi⟩:∃i,(i,x)∈aa.toList:=by
     grind[Op.operands]
    have hn:Qgb (cv1 hl (ev x)):=ak _ (Am hi);refine⟨?_,hn⟩;unfold cv1 at hn ⊢;cases aj:N4 hl (ev x)with
    |none=>
     rw[aj]at hn;exact absurd rfl hn.2.2
    |some q=>exact⟨q.2,rfl,λy hy=>by grind[Qal]⟩
end
end Go.Vx
namespace Go.Vx
section
variable{P:Program} {E:Env} {R:Type}
theorem C3:∀{rows:Y (Y D)} {s:Y UInt8},Dc rows=some s->∃ns:Y Int,rows=ns.map (λn=>[D.int .u8 n])/\s=ns.map λn=>UInt8.ofNat n.toNat
 |[],s,h=>by simp_all [Dc]
 |row::r,s,h=>by
  unfold Dc at h;split at h
  ·simp_all
  ·rename_i n r' he;injection he with he1 he2
   subst he1 he2;split at h
   ·rename_i l hl;injection h with h
    subst h;obtain⟨ns,h1,h2⟩:=C3 hl;exact⟨n::ns,by simp[h1],by simp[h2]⟩
   ·cases h
  ·cases h
theorem Q0W:∀(ns:Y Int) (s:ByteArray),(ns.foldl (λr n=>r.push (UInt8.ofNat n.toNat)) s).data.toList=s.data.toList++ns.map λn=>UInt8.ofNat n.toNat
 |[],s=>by simp
 |n::ns,s=>by
  rw[List.foldl_cons,Q0W ns];simp[ByteArray.push]
theorem Q7V{tt:TT}(hT:TOk P tt){o:Oper}{s t:TypeId}{x:Operand}(ho:o.op = .convert s t x){g:Bool}{ev:Operand->AV}{hl:Nat->oP Ob}{e:Nat}{rows:Y (Y D)}{rd:Y Nat}(hs:TZ tt s = .sl e 1)(ht:TZ tt t = .str)(he:TZ tt e = .int .u8)(hx:Q0X 1 hl (ev x)=some (rows,rd)){k:Dl->oP R}{r:R}(h:gb g (Dc rows) [] (λs=>k ⟨.d (.str s),[],rd⟩)=some r) :
  ∃dl,k dl=some r/\(g=true->K6 P E o ev hl dl):=by
 obtain⟨ti,a9,a4⟩:=XC hs Q2;obtain⟨ay,ax,ar⟩:=XC ht Q2;obtain⟨a5,au,aw⟩:=XC he Q2;have a3:=((hT s ti a9).ksl _ _ a4).1;have az:=(hT t ay ax).kstr ar;have a8:=(hT e a5 au).kint _ aw;obtain⟨str,h,hp⟩:=Qy h;refine⟨_,h,λhg=>QD λβ S st a w hR hO hA=>?_⟩;have hv:=hO.at (x:=x) (by simp[ho,Op.operands]);obtain⟨vals,ao⟩:=Q3w I hx hR hv (λl a6=>hA l (.inl a6));obtain⟨ns,ac,ai⟩:=C3 (hp hg);have ak:∀bs:ByteArray,bs.data.toList=str->(execOp a.eval o).run P w = .ok (.value (.string bs)) w->∃u,(execOp a.eval o).run P w = .ok (.value u) w/\RdA β S (look st.h) w (tmv a) u (.d (.str str)):=by
  intro bs hb hr;refine⟨.string bs,hr,.d _ _ ?_⟩;rw[<- hb];exact .str _
 have aa:∀(ad:oP Addr) (l c:Nat) (bs:ByteArray),a.eval x = .slice ad l c->(Conv.bytesToString (.slice ad l c)).run P w = .ok (.string bs) w->(execOp a.eval o).run P w = .ok (.value (.string bs)) w:=by
  intro ad l c bs a7 hb;unfold execOp;rw[ho];simp only[a7,Qpb,run_convert_bytes_string w s t e ad l c a3 a8 az,hb,Qp7];rfl
 rcases ao.form with⟨hf,hn⟩|⟨c,hf,hn⟩|⟨ad,c,hf,an⟩
 ·refine ak .empty ?_ (aa none 0 0 _ hf (by simp[Conv.bytesToString]));rw[hn]at ac;have:ns=[]:=by
   cases ns with
   |nil=>rfl
   |cons a b=>simp at ac
  rw[ai,this];rfl
 ·refine ak .empty ?_ (aa none 0 c _ hf (by simp[Conv.bytesToString]));rw[hn]at ac;have:ns=[]:=by
   cases ns with
   |nil=>rfl
   |cons a b=>simp at ac
  rw[ai,this];rfl
 ·have ba:vals.length=ns.length:=by rw[ao.len,ac];simp
  have am:vals=ns.map (Value.int .u8):=by
   refine List.ext_getElem? λi=>?_
   rcases Nat.lt_or_ge i ns.length with hi | hi
   ·obtain⟨u,hu,hr⟩:=ao.rd i 0 [D.int .u8 ns[i]] (D.int .u8 ns[i]) (by rw[ac];simp[hi]) rfl;rw[show i*1+0=i by omega]at hu;rw[hu];cases hr;simp[hi]
   ·rw[List.getElem?_eq_none I,List.getElem?_eq_none (by simpa using hi)]
  have aj:=run_loadCells_list (P:=P) w ad vals an;have hr:=run_bytesToString (P:=P) w ad rows.length c ns (by
   rw[am,List.length_map]at aj;rw[show rows.length=ns.length by rw[ac];simp];exact aj)
  refine ak _ ?_ (aa (some ad) _ c _ hf hr);rw[Q0W,ai];rfl
end
end Go.Vx
namespace Go.Vx
variable{hl:Nat->oP Ob} {ev:Operand->AV} {β:Nat->oP Nat} {S:Nat->Prop} {o:Oper} {tt:TT} {t:TypeId}
section
variable{P:Program} {E:Env} {R:Type}
theorem H9{α:Type}:∀(n s:Nat) (l:Y α),(Ns n s l).length=n
 |0,_,_=>rfl
 |n+1,s,l=>by simp[Ns,H9 n]
theorem Ae{α:Type}:∀(n s:Nat) (l:Y α) (i:Nat),i<n->(Ns n s l)[i]? = some ((l.drop (i*s)).take s)
 |n+1,s,l,0,_=>by simp[Ns]
 |n+1,s,l,i+1,h=>by
  simp only[Ns,List.getElem?_cons_succ];rw[Ae n s _ i I,List.drop_drop,Nat.add_comm s,QpA]
theorem Q0Y{w:World}{cs:Array Value}{n s:Nat}{ds:Y D}(ac:ds.length=n*s)(ai:n*s<=cs.size)(hr:∀(j:Nat) (x:D),ds[j]? = some x->∃v,cs[j]? = some v/\Rd S w v x):UW S w cs s (Ns n s ds):=by
 refine⟨by grind[H9],λi r h=>?_,λi j r x h1 h2=>?_⟩
 ·have hi:i<n:=by grind[List.getElem?_eq_some_iff,H9]
  rw[Ae n s ds i hi]at h;have aa:(i+1)*s<=n*s:=Qpe _ I
  grind
 grind[List.getElem?_eq_some_iff,H9,Ae]
theorem Q7P{st:St}{a:Act}{w:World}(hR:Rel E β S st a w){aa e s:Nat}{rows:Y (Y D)}{cs:Array Value}(ac:look st.h aa=none)(hc:Ut st aa=true)(h:UW S w cs s rows) :
  Rel E (RG β aa (some w.heap.size)) S ⟨st.n,st.tm,(aa,.arr e s rows)::rem aa st.h⟩ a (w.alloc (.cells cs e)):=by
 obtain⟨h1,h2,h3⟩:=h;refine hR.new ac hc (.inr ⟨w.heap.size,cs,by simp[RG],J3 _ _,h1,h2,λi j r x h4 h5=>?_⟩);obtain⟨v,hv,hr⟩:=h3 i j r x h4 h5;exact⟨v,hv,hr.mono (λ_ hb=>hb) (λb hb=>YO _ _ (hR.hr.sb b hb))⟩
theorem Q5y(hT:TOk P tt)(ho:o.op = .alloc t){aa:Nat}{ti:TyI}(ao:look tt t=some ti){e esz n:Nat}(hk:ti.kd = .array e esz n)(an:ti.zd.length=n*esz)(hn:hl aa=none) :
  K6 P E o ev hl ⟨.ap aa 0 0,[]++[(aa,some (.arr t esz (Ns n esz ti.zd)))],[]⟩:=by
 have ac:=hT t ti ao;obtain⟨inf,aw,_,_,z,hz,ar⟩:=ac.inf;obtain⟨_,_,_,aj,_⟩:=ac.karr e esz n hk;have az:z.cells.size=n*esz:=by rw[<- Qpl,ar,ac.zlen];exact aj
 intro β S st a w hR hO hA a2 K Q hK;have au:look st.h aa=none:=by rw[hA aa (.inr (by simp[wrL]))];exact hn
 have hc:Ut st aa=true:=by grind[Wm]
 have ak:UW S w z.cells esz (Ns n esz ti.zd):=Q0Y an I λj x hx=>by
  obtain⟨v,hv,hr⟩:=ac.zd I j x hx
  grind
 have am:(execOp a.eval o).run P w = .ok (.value (.pointer (some ⟨w.heap.size,0,none⟩))) (w.alloc (.cells z.cells t)):=by
  simp_all [execOp,Instr.alloc,zeroValue,Yx,newVar,newRow]
 unfold Oper.wp;rw[am];refine hK _ _ ⟨RG β aa (some w.heap.size),S,Q7P hR au hc ak,?_⟩;have:=RdA.ap (β:=RG β aa (some w.heap.size)) (S:=S) (h:=look (MD st.h ([]++[(aa,some (Ob.arr t esz (Ns n esz ti.zd)))]))) (w:=w.alloc (.cells z.cells t)) (tm:=tmv a) aa 0 0 w.heap.size t esz (Ns n esz ti.zd) (by simp[RG]) (by simp[MD,WT])
 simp_all
theorem Q1b{α:Type}{l:Y α}{n:Nat}{u:Unit}(h:SY l n=some u):l.length=n:=by
 grind[SY,Nat.beq,Nat.eq_of_beq_eq_true]
theorem BU(hT:TOk P tt){x i:Operand}(ho:o.op = .indexAddr t x i){g:Bool}{k:Dl->oP R}{r:R}{e esz n l:Nat}(hk:TZ tt t = .array e esz n)(au:ev x = .ap l 0 0)(h:LR g hl esz n l (ev i) k=some r):∃dl,k dl=some r/\(g=true->K6 P E o ev hl dl):=by
 have ak:x∈o.op.operands.toList:=by grind[Op.operands]
 have an:i∈o.op.operands.toList:=by simp[ho,Op.operands]
 obtain⟨ti,ar,am⟩:=XC hk Q2;obtain⟨hu,az,⟨i0,ay,ac⟩,_,_⟩:=(hT t ti ar).karr _ _ _ am;unfold LR at h;split at h
 case h_2=>cases h
 rename_i ik y e' s rows ax aa;cases hb:Nat.beq s esz with
 |false=>simp_all
 |true=>
  obtain rfl:=Qpa hb;simp only[hb,Qpc]at h;obtain⟨u,h,ao⟩:=Qy h;refine⟨_,h,λhg=>QD λβ S st a w hR hO hA=>?_⟩;obtain⟨h0,h1⟩:=Q7a (ao hg);have hi:=(ax▸hO.at an).int_inv;have aj:look st.h l=some (.arr e' s rows):=by rw[hA l (.inl Q2)];exact aa
  obtain⟨b,aw,hx⟩:=RdA.ap_inv aj (au▸hO.at ak);have ai:(execOp a.eval o).run P w = .ok (.value (.pointer (some ⟨b,y.toNat*s,none⟩))) w:=by
   unfold execOp;rw[ho];simp[Instr.indexAt,hx,hi,asIntOf,X6 hu,h0,h1,sizeOf,Yx ay,ac,Instr.sureAddr,Jy]
  refine⟨_,ai,?_⟩;have:=RdA.ap (β:=β) (S:=S) (h:=look st.h) (w:=w) (tm:=tmv a) l y.toNat 0 b e' s rows aw aj;omega
theorem Q5G(hT:TOk P tt){x y:Operand}(ho:o.op = .store t x y){k:Dl->oP R}{r:R}{e esz n l:Nat}(hk:TZ tt t = .array e esz n)(bk:ev x = .ap l 0 0)(h:Q6v hl esz n l (ev y) k=some r):∃dl,k dl=some r/\K6 P E o ev hl dl:=by
 have bh:x∈o.op.operands.toList:=by grind[Op.operands]
 have a9:y∈o.op.operands.toList:=by simp[ho,Op.operands]
 obtain⟨ti,bj,bi⟩:=XC hk Q2;have a2:=hT t ti bj;obtain⟨hu,bn,_,ar,_⟩:=a2.karr _ _ _ bi;unfold Q6v at h;split at h
 case h_2=>cases h
 rename_i e' s rows az;cases hb:Nat.beq s esz with
 |false=>simp_all
 |true=>
  obtain rfl:=Qpa hb;simp only[hb,Qpc]at h;split at h
  case h_2=>cases h
  rename_i ds bg;cases aj:Nat.beq ds.length (n*s)with
  |false=>simp_all
  |true=>
   have a5:=Qpa aj;simp only[aj,Qpc]at h;obtain⟨u,h,ay⟩:=Qy h;have bb:=Q1b (ay rfl);refine⟨_,h,?_⟩;intro β S st a w hR hO hA b8 K Q hK;have ac:look st.h l=some (.arr e' s rows):=by rw[hA l (.inl Q2)];exact az
   obtain⟨b,ai,hx⟩:=RdA.ap_inv ac (bk▸hO.at bh);have aw:=Q06 bg;obtain⟨c1,c2,c3⟩:=MH (hO.at a9) (by rw[aw];exact DM ds);rcases hR.hr.ob l _ ac with⟨a7,_⟩|⟨b',cs,an,hw,ao,b5,b1⟩
   ·rw[ai]at a7;cases a7
   obtain rfl:b=b':=by rw[ai]at an;injection an
   rw[bb]at ao;have am:(a.eval y).cells.size=n*s:=by rw[c1,aw];simpa using a5
   obtain⟨w',a6,aa⟩:∃w',(storeCells ⟨b,0,none⟩ (a.eval y).cells.toList 0).run P w = .ok () w'/\Wrote b (Ty cs 0 (a.eval y).cells.toList) e' (0,0) w w':=
    Gn b 0 e' (0,0) _ 0 cs w hw (Qex _) (by simp[am];omega) c3
   have a3:∀j,(Ty cs 0 (a.eval y).cells.toList)[j]? = if j<n*s then(a.eval y).cells[j]? else cs[j]?:=by
    intro j;rw[SG _ _ _ _ (by simp[am];omega)];simp[am]
   unfold Oper.wp;have bc:a.eval x = .pointer (some ⟨b,0,none⟩):=by simpa using hx
   rw[Pp ho bc (Pb a2 (by rw[am,ar]) a6)];have a4:∀k',look ((l,Ob.arr e' s (Ns n s ds))::rem l st.h) k'=if k'=l then some (.arr e' s (Ns n s ds))else look st.h k':=λk'=>WT l k' _ st.h
   have ak:Keep β (look st.h) w β (look ((l,.arr e' s (Ns n s ds))::rem l st.h)) w' l:=by
    refine⟨rfl,λh=>?_,λe1 s1 a8 h=>?_,λb2 b3 b0 b9 _ aj ax=>?_,λt f h=>by rw[ac]at h;cases h⟩
    ·rw[ac]at h;cases h
    ·rw[ac]at h;cases h;exact .inr ⟨Ns n s ds,by rw[a4,Qpo rfl],by rw[H9];omega⟩
    ·rw[ai]at aj;injection aj with e;subst e
     rw[hw]at ax;injection ax with e;injection e with e1 e2 e3;subst e1
     exact⟨_,_,_,aa.blk,U4 _ _ _⟩
   refine hK undef _ ⟨β,S,hR.set ac ai aa.oth aa.os aa.tape aa.output aa.size ak (.inr ⟨b,_,ai,aa.blk,?_⟩),.top _⟩;have ba:∀c,S c->w'.heap[c]? = w.heap[c]?:=λc hc=>aa.oth c (λe=>by subst e;exact hR.hr.apart l c (by simp[ac]) ai hc)
   have au:UW S w (Ty cs 0 (a.eval y).cells.toList) s (Ns n s ds):=by
    refine Q0Y a5 (by rw[U4];exact ao) λj d hd=>?_
    have hj:j<n*s:=by have:=(Qp8.1 hd).1;omega
    have h1:=a3 j;rw[Qpo hj]at h1;rw[h1];refine⟨_,KI (cs:=(a.eval y).cells) I,?_⟩;have h2:=c2 j (.d d) (by rw[aw,Qpi,hd];rfl);exact h2.d_inv
   obtain⟨r1,r2,r3⟩:=au;exact⟨r1,r2,λi j r x h4 h5=>by
    obtain⟨v,hv,hr⟩:=r3 i j r x h4 h5;exact⟨v,hv,hr.mono (λ_ h=>h) ba⟩⟩
theorem Qb1{st:St}{a:Act}{w w':World}(hR:Rel E β S st a w)(aa:∀b,b<w.heap.size->w'.heap[b]? = w.heap[b]?)(ak:w'.heap.size=w.heap.size+1)(aj:w'.os=w.os)(ai:w'.tape=w.tape)(ac:w'.output=w.output):Rel E β (λb=>S b\/b=w.heap.size) st a w':=by
 have:=hR.upd (w':=w') (β':=β) (S':=λb=>S b\/b=w.heap.size) (H':=st.h) (λ_ h=>.inl h) (λb hb=>aa b (hR.hr.sb b hb)) (λ_=>False)
  (λl _=>⟨rfl,rfl,λb hs hb=>aa b (Ky hR hs hb)⟩) (λl h=>h.elim) (λl o h=>h.elim) hR.hr.inj
  (λl b hs hb hS=>by
   rcases hS with hS | hS
   ·exact hR.hr.apart l b hs hb hS
   ·have:=Ky hR hs hb;omega)
  hR.hr.own
  (λb hS=>by
   rcases hS with hS | hS
   ·have:=hR.hr.sb b hS;omega
   ·omega)
  (λb hS=>by
   rcases hS with hS | hS
   ·exact hR.hr.sfr b hS
   ·right;right;have:=hR.hr.fr.size;omega)
  ⟨aj.trans hR.hr.fr.os,ai.trans hR.hr.fr.tape,ac.trans hR.hr.fr.output,by have:=hR.hr.fr.size;omega,λb hb hm=>(aa b (Qpy hb hR.hr.fr.size)).trans (hR.hr.fr.block b hb hm)⟩
 exact this
theorem Q1S(hT:TOk P tt){s t:TypeId}{x:Operand}(ho:o.op = .convert s t x){e:Nat}{n:Y UInt8}(hs:TZ tt s = .str)(ht:TZ tt t = .sl e 1)(he:TZ tt e = .int .u8)(hx:ev x = .d (.str n)):K6 P E o ev hl ⟨.d (.sl 1 (Q8u n)),[],[]⟩:=by
 obtain⟨ti,ax,au⟩:=XC hs Q2;obtain⟨an,am,aa⟩:=XC ht Q2;obtain⟨aw,ac,ak⟩:=XC he Q2;have a4:=(hT s ti ax).kstr au;have a2:=((hT t an am).ksl _ _ aa).1;have a6:=(hT e aw ac).kint _ ak;intro β S st a w hR hO hA a8 K Q hK;obtain⟨b,hb,hv⟩:=(hx▸hO.at (x:=x) (by grind[Op.operands])).str_inv;have aj:(execOp a.eval o).run P w = .ok (.value (.slice (some ⟨w.heap.size,0,none⟩) b.size (grownCap w b.size 0 e))) (Lib.bytesWorld w e b):=by
  simp_all [execOp,Qpb,Lib.run_convert_string_bytes,Qp7]
 unfold Oper.wp;rw[aj];have ay:b.size<=grownCap w b.size 0 e:=grownCap_ge w b.size 0 e;refine hK _ _ ⟨β,λc=>S c\/c=w.heap.size,Qb1 hR (λc hc=>Lib.bytesWorld_at_old w e b c hc) (Lib.bytesWorld_size w e b) rfl rfl rfl,.d _ _ ?_⟩;have ai:(Q8u n).length=b.size:=by simp[Q8u,hb]
 rw[<- ai];refine UW.rd (cs:=Lib.bytesCells w e b) ⟨?_,?_,?_⟩ (Lib.bytesWorld_at_new w e b) (.inr rfl) Q4
 ·simp_all [Lib.bytesCells]
 ·simp_all [Q8u,Qpi,Qpd]
 ·intro i j r d h1 h2;simp only[Q8u,Qpi,Qpd]at h1;obtain⟨c,hc,rfl⟩:=h1;cases j with
  |zero=>
   simp at h2;subst h2;have hi:i<b.size:=by have:=(Qp8.1 hc).1;rw[hb]at this;simpa using this
   refine⟨.int .u8 (c.toNat:Int),?_,.int _ _⟩;rw[hb]at hc;have:b.data[i]? = some c:=by simpa using hc
   have ao:i<b.data.size:=hi;simp only[Lib.bytesCells,Nat.mul_one,Nat.add_zero];rw[Array.getElem?_append_left (by simpa using ao),Array.getElem?_map,this];rfl
  |succ j=>simp at h2
theorem RD(n:Int):∀(es:Y MapEntry) (i:Nat),(∀e∈es,∃m,e.key = .int .i64 m) ->
  (HV es n=none/\Instr.findNow (.int .i64) (.int .i64 n) es i=some none)\/∃j v,HV es n=some v/\Instr.findNow (.int .i64) (.int .i64 n) es i=some (some (j,v))
 |[],i,_=>.inl ⟨rfl,rfl⟩
 |e::r,i,h=>by
  obtain⟨m,hm⟩:=h e (List.mem_cons_self ..);simp only[HV,hm,Instr.findNow,Instr.sameNow,if_true];by_cases ac:m=n
  ·simp_all
  ·have hb:(n == m)=false:=by grind
   simp only[hb,ac,if_false];exact RD n r (i+1) λx hx=>h x (List.mem_cons_of_mem _ hx)
theorem RdA.mpd_inv{h:Nat->oP Ob}{w:World}{tm:Nat->Value}{v:Value}{f:Int->Y (Y D)}(hv:RdA β S h w tm v (.mpd f)):QaR S w v f:=by
 cases hv with
 |mpd _ _ hm=>exact hm
 |dang _ _ l hl=>trivial
theorem Q6i(hT:TOk P tt){m x:Operand}(ho:o.op = .lookup t m x false){f:Int->Y (Y D)}{n:Int}(ht:TZ tt t = .mapI)(hm:ev m = .mpd f)(hx:ev x = .d (.int .i64 n)):K6 P E o ev hl ⟨.d (.sl 1 (f n)),[],[]⟩:=by
 obtain⟨ti,an,ak⟩:=XC ht Q2;obtain⟨K0,e,hu,hk,i,hi,hz⟩:=(hT t ti an).kmap ak;intro β S st a w hR hO hA a5 K Q hK;obtain⟨b,es,ao,hv,hS,hb,ac,hn,aa⟩:=(hm▸hO.at (x:=m) (by simp[ho,Op.operands])).mpd_inv;have am:=(hx▸hO.at (x:=x) (by simp[ho,Op.operands])).int_inv;have ar:(zeroValue e).run P w = .ok (.slice none 0 0) w:=by simp[zeroValue,Yx hi,hz]
 have aj:(Instr.checkKey es.isEmpty 10000 K0 (.int .i64 n)).run P w = .ok () w:=by
  rw[show(10000:Nat)=9999+1 from rfl,Instr.checkKey];simp only[Qpb,X6 hk,Qp7];rfl
 obtain⟨v,ai,au⟩:∃v,(Instr.lookup t (.map (some b)) (.int .i64 n) false).run P w = .ok v w/\Rd S w v (.sl 1 (f n)):=by
  rcases RD n es.toList 0 ac with⟨h1,h2⟩|⟨j,v,h1,h2⟩
  ·refine⟨.slice none 0 0,?_,by rw[hn n h1];exact .sl0 _ _ _⟩;simp[Instr.lookup,X6 hu,Qpp hb,aj,Instr.findKey,X6 hk,h2,ar,Result.andThen]
  ·refine⟨v,?_,aa n v h1⟩;simp[Instr.lookup,X6 hu,Qpp hb,aj,Instr.findKey,X6 hk,h2,Result.andThen]
 unfold Oper.wp execOp;rw[ho];simp only[hv,am,Qpb,ai,Qp7];exact hK _ _ ⟨β,S,hR,.d _ _ au⟩
end
end Go.Vx
namespace Go.Vx
variable{hl:Nat->oP Ob} {ev:Operand->AV} {t:TypeId}
section
variable{P:Program} {E:Env} {R:Type}
theorem Q71(n:Int)(u:Value):∀(es:Y MapEntry) (i:Nat),(∀e∈es,∃m,e.key = .int .i64 m)->HV es n≠none ->
  ∃j v e,Instr.findNow (.int .i64) (.int .i64 n) es i=some (some (i+j,v))/\es[j]? = some e/\e.key = .int .i64 n /\
   (∀x∈es.modify j (λe=>{ e with key:=.int .i64 n,val:=u }),∃m,x.key = .int .i64 m)/\∀m,HV (es.modify j λe=>{ e with key:=.int .i64 n,val:=u }) m=if m=n then some u else HV es m
 |[],i,_,h=>absurd rfl h
 |e::r,i,h,hl=>by
  obtain⟨k,hk⟩:=h e (List.mem_cons_self ..);by_cases ac:k=n
  ·subst ac;refine⟨0,e.val,e,?_,rfl,hk,λx hx=>?_,λm=>?_⟩
   all_goals grind[Instr.findNow,Instr.sameNow,List.modify_zero_cons,HV]
  ·have hb:(n == k)=false:=by grind
   simp only[HV,hk,ac,if_false]at hl;obtain⟨j,v,e',g1,g2,g3,g4,g5⟩:=Q71 n u r (i+1) (λx hx=>h x (List.mem_cons_of_mem _ hx)) hl;refine⟨j+1,v,e',?_,by simp_all,g3,λx hx=>?_,λm=>?_⟩
   ·simp only[Instr.findNow,Instr.sameNow,hk,hb,if_true,g1];rw[QpC,Nat.add_comm 1 j]
   ·simp only[List.modify_succ_cons,Qpq]at hx;rcases hx with rfl | hx
    ·exact⟨k,hk⟩
    ·exact g4 x hx
   grind[List.modify_succ_cons,HV]
theorem Q3F(n:Int)(e:MapEntry)(he:e.key = .int .i64 n):∀(es:Y MapEntry),(∀e∈es,∃m,e.key = .int .i64 m)->HV es n=none->∀m,HV (es++[e]) m=if m=n then some e.val else HV es m
 |[],_,_,m=>by
  simp only[List.nil_append,HV,he];by_cases h:n=m
  ·simp[h]
  ·rw[Qpk h,Qpk (λe=>h e.symm)]
 |x::r,h,hl,m=>by
  obtain⟨k,hk⟩:=h x (List.mem_cons_self ..);simp only[HV,hk]at hl;by_cases aa:k=n
  ·rw[Qpo aa]at hl;cases hl
  ·rw[Qpk aa]at hl;have ih:=Q3F n e he r (λy hy=>h y (List.mem_cons_of_mem _ hy)) hl m;simp only[List.cons_append,HV,hk,ih];by_cases hm:k=m
   ·subst hm;simp[aa]
   ·simp[hm]
theorem Q7O{tt:TT}(hT:TOk P tt)(ht:TZ tt t = .mpb){w:World}{b:Nat}{f:Int->Bool}(hm:MpR w b f)(n:Int)(v:Bool) :
  ∃w',(Instr.mapUpdate t (.map (some b)) (.int .i64 n) (.bool v)).run P w = .ok () w'/\MpR w' b (Q7K f n v)/\(∀k,k≠b->w'.heap[k]? = w.heap[k]?)/\w'.os=w.os/\w'.tape=w.tape/\w'.output=w.output/\w'.heap.size=w.heap.size:=by
 obtain⟨ti,a2,ay⟩:=XC ht Q2;obtain⟨K0,e,hu,hk,i,hi,hz⟩:=(hT t ti a2).kmpb ay;obtain⟨es,ai,hb,aa,hn,an⟩:=hm;have aw:b<w.heap.size:=(Qpm.1 hb).1;have au:(Instr.checkKey false 10000 K0 (.int .i64 n)).run P w = .ok () w:=by
  rw[show(10000:Nat)=9999+1 from rfl,Instr.checkKey];simp only[Qpb,X6 hk,Qp7];rfl
 have fin:∀(aj:Array MapEntry) (ac:Nat),(Instr.mapUpdate t (.map (some b)) (.int .i64 n) (.bool v)).run P w = .ok () { w with heap:=w.heap.setIfInBounds b (.map aj ac) } ->
   (∀e∈aj.toList,∃m,e.key = .int .i64 m)->(∀m,HV aj.toList m=if m=n then some (.bool v)else HV es.toList m) ->
   ∃w',(Instr.mapUpdate t (.map (some b)) (.int .i64 n) (.bool v)).run P w = .ok () w'/\MpR w' b (Q7K f n v)/\(∀k,k≠b->w'.heap[k]? = w.heap[k]?)/\w'.os=w.os/\w'.tape=w.tape/\w'.output=w.output/\w'.heap.size=w.heap.size:=by
  intro aj ac ao ax ar;refine⟨_,ao,⟨aj,ac,by simp[aw],ax,λm hm=>?_,λm x hm=>?_⟩,λk hk=>?_,rfl,rfl,rfl,by simp⟩
  ·rw[ar]at hm;by_cases e1:m=n
   ·rw[Qpo e1]at hm;cases hm
   ·rw[Qpk e1]at hm;simp[Q7K,e1,hn m hm]
  ·rw[ar]at hm;by_cases e1:m=n
   ·rw[Qpo e1]at hm;injection hm with hm;simp[Q7K,e1,<- hm]
   ·rw[Qpk e1]at hm;simp[Q7K,e1,an m x hm]
  ·simp[Ne.symm hk]
 cases hl:HV es.toList n with
 |none=>
  have hf:Instr.findNow (.int .i64) (.int .i64 n) es.toList 0=some none:=by
   rcases RD n es.toList 0 aa with⟨_,h2⟩|⟨j,x,h1,_⟩
   ·exact h2
   ·rw[hl]at h1;cases h1
  refine fin (es.push ⟨.int .i64 n,.bool v,ai⟩) (ai+1) ?_ (λx hx=>?_) (λm=>?_)
  ·simp[Instr.mapUpdate,X6 hu,Qpp hb,au,Instr.findKey,X6 hk,hf,MapKept.run_setObj_map _ hb,Result.andThen]
  ·simp only[Array.toList_push,Qpz,List.mem_singleton]at hx;rcases hx with hx | rfl
   ·exact aa x hx
   ·exact⟨n,rfl⟩
  ·rw[Array.toList_push];exact Q3F n _ rfl es.toList aa hl m
 |some x=>
  obtain⟨j,y,e',g1,g2,g3,g4,g5⟩:=Q71 n (.bool v) es.toList 0 aa (by rw[hl];simp);rw[Nat.zero_add]at g1;have az:es[j]? = some e':=by simpa using g2
  have hst:∀(w:World),(Instr.keyThatStays (.int .i64 n) (.int .i64 n)).run P w = .ok (.int .i64 n) w:=by
   intro w;simp[Instr.keyThatStays,Instr.sameBits]
  refine fin (es.modify j λe=>{ e with key:=.int .i64 n,val:=.bool v }) ai ?_ (by rw[Array.toList_modify];exact g4) (λm=>by rw[Array.toList_modify];exact g5 m);simp[Instr.mapUpdate,X6 hu,Qpp hb,au,Instr.findKey,X6 hk,g1,az,g3,hst,MapKept.run_setObj_map _ hb,Result.andThen]
theorem Q4y{o:Oper}(ho:o.op = .makeMap t none){aa:Nat}(hn:hl aa=none) :
  K6 P E o ev hl ⟨.arr aa,[]++[(aa,some (.mp t λ_=>false))],[]⟩:=by
 intro β S st a w hR hO hA ak K Q hK;have ai:look st.h aa=none:=by rw[hA aa (.inr (by simp[wrL]))];exact hn
 have hc:Ut st aa=true:=by grind[Wm]
 have ac:(execOp a.eval o).run P w = .ok (.value (.map (some w.heap.size))) (w.alloc (.map #[] 0)):=by
  unfold execOp;rw[ho];rfl
 unfold Oper.wp;rw[ac];refine hK _ _ ⟨RG β aa (some w.heap.size),S,?_,.mp aa w.heap.size t (λ_=>false) (by simp[RG]) (by simp[MD,look])⟩;exact hR.new ai hc ⟨w.heap.size,by simp[RG],#[],0,J3 _ _,by simp,λn _=>rfl,λn v h=>by trivial⟩
theorem Q0S{tt:TT}(hT:TOk P tt){o:Oper}{m x v:Operand}(ho:o.op = .mapUpdate t m x v){l t':Nat}{f:Int->Bool}{n:Int}{b:Bool}(ht:TZ tt t = .mpb)(hm:ev m = .arr l)(hx:ev x = .d (.int .i64 n))(hv:ev v = .d (.bool b))(aa:hl l=some (.mp t' f)):K6 P E o ev hl ⟨.top,[(l,some (.mp t' (Q7K f n b)))],[l]⟩:=by
 intro β S st a w hR hO hA ba K Q hK;have aa:look st.h l=some (.mp t' f):=by rw[hA l (.inl Q2)];exact aa
 obtain⟨bk,hb,a5⟩:=RdA.mp_inv aa (hm▸hO.at (x:=m) (by grind[Op.operands]));have a8:=(hx▸hO.at (x:=x) (by simp[ho,Op.operands])).int_inv;have bb:=(hv▸hO.at (x:=v) (by simp[ho,Op.operands])).bool_inv;obtain⟨b2,a9,am⟩:=hR.hr.ob l _ aa;obtain rfl:bk=b2:=by simp_all
 obtain⟨w',ay,an,aj,ax,ac,ak,au⟩:=Q7O hT ht am n b;have ai:(execOp a.eval o).run P w = .ok .skip w':=by
  simp_all [execOp,Qpb,Qp7]
 unfold Oper.wp;rw[ai];refine hK undef _ ⟨β,S,?_,.top _⟩;obtain⟨es,aw,a2,_⟩:=am;refine hR.set aa hb aj ax ac ak au ⟨rfl,λh=>?_,λe s rows h=>?_,λb3 cs ty fz _ bc a4=>?_,λt1 f1 h=>?_⟩ ⟨bk,hb,an⟩
 ·simp_all
 ·rw[aa]at h;cases h
 ·simp_all
 ·rw[aa]at h;injection h with h
  injection h with h1 h2
  subst h1;exact .inr ⟨Q7K f n b,by rw[WT,Qpo rfl]⟩
theorem Q57{tt:TT}(hT:TOk P tt){o:Oper}{m x:Operand}(ho:o.op = .lookup t m x false){l t':Nat}{f:Int->Bool}{n:Int}(ht:TZ tt t = .mpb)(hm:ev m = .arr l)(hx:ev x = .d (.int .i64 n))(aa:hl l=some (.mp t' f)):K6 P E o ev hl ⟨.d (.bool (f n)),[],[l]⟩:=by
 obtain⟨ti,aw,ar⟩:=XC ht Q2;obtain⟨K0,e,hu,hk,i,hi,hz⟩:=(hT t ti aw).kmpb ar;refine QD λβ S st a w hR hO hA=>?_
 have aa:look st.h l=some (.mp t' f):=by rw[hA l (.inl Q2)];exact aa
 obtain⟨bk,hb,ao⟩:=RdA.mp_inv aa (hm▸hO.at (x:=m) (by simp[ho,Op.operands]));have au:=(hx▸hO.at (x:=x) (by simp[ho,Op.operands])).int_inv;obtain⟨b2,am,es,ax,aj,ai,hn,ac⟩:=hR.hr.ob l _ aa;obtain rfl:bk=b2:=by rw[hb]at am;injection am
 have ay:(zeroValue e).run P w = .ok (.bool false) w:=by simp[zeroValue,Yx hi,hz]
 have an:(Instr.checkKey es.isEmpty 10000 K0 (.int .i64 n)).run P w = .ok () w:=by
  rw[show(10000:Nat)=9999+1 from rfl,Instr.checkKey];simp only[Qpb,X6 hk,Qp7];rfl
 have ak:(Instr.lookup t (.map (some bk)) (.int .i64 n) false).run P w = .ok (.bool (f n)) w:=by
  rcases RD n es.toList 0 ai with⟨h1,h2⟩|⟨j,v,h1,h2⟩
  ·rw[hn n h1];simp[Instr.lookup,X6 hu,Qpp aj,an,Instr.findKey,X6 hk,h2,ay,Result.andThen]
  ·rw[<- ac n v h1];simp[Instr.lookup,X6 hu,Qpp aj,an,Instr.findKey,X6 hk,h2,Result.andThen]
 refine⟨.bool (f n),?_,.d _ _ (.bool _)⟩;unfold execOp;rw[ho];simp only[ao,au,Qpb,ak,Qp7];rfl
end
end Go.Vx
namespace Go.Vx
variable{hl:Nat->oP Ob} {ev:Operand->AV} {o:Oper} {t:TypeId}
section
variable{P:Program} {E:Env} {R:Type}
theorem Q5O{s:Y UInt8}{n b:Int}(h:Zj s n=some b):0<=n/\∃aa:n.toNat<s.length,b=((s[n.toNat]' aa).toNat:Int):=by
 grind[Zj]
theorem Q8x{tt:TT}(hT:TOk P tt){x i:Operand}(ho:o.op = .index t x i){g:Bool}{k:Dl->oP R}{r:R}(h:Qb7 tt g t (ev x) (ev i) k=some r):∃dl,k dl=some r/\(g=true->K6 P E o ev hl dl):=by
 have aa:x∈o.op.operands.toList:=by grind[Op.operands]
 have ai:i∈o.op.operands.toList:=by simp[ho,Op.operands]
 unfold Qb7 at h;split at h
 case h_2=>cases h
 rename_i s ik n hk ak am;obtain⟨ti,aj,ac⟩:=XC hk Q2;have hu:=(hT t ti aj).kstr ac;obtain⟨b,h,hp⟩:=Qy h;refine⟨_,h,λhg=>QD λβ S st a w hR hO hA=>?_⟩;obtain⟨bs,hs,hx⟩:=(ak▸hO.at aa).str_inv;have hi:=(am▸hO.at ai).int_inv;obtain⟨h0,ao,hb⟩:=Q5O (hp hg);have aw:s.length=bs.size:=by simp_all
 refine⟨.int .u8 b,?_,.d _ _ (.int _ _)⟩;unfold execOp;have:=run_index_string (P:=P) w t bs ik n hu;rw[dif_pos ⟨h0,I⟩]at this
 simp_all [Qpb,Qp7,ByteArray.getElem_eq_getElem_data]
theorem VL{β:Nat->oP Nat}{S:Nat->Prop}{h:Nat->oP Ob}{w:World}{tm:Nat->Value}{ρ:Operand->Value}{x:oP Operand}{n:oP Int}(hb:M4 ev x=some n)(hx:∀y,x=some y->RdA β S h w tm (ρ y) (ev y)) :
  (x=none/\n=none)\/∃y k m,x=some y/\n=some m/\ρ y = .int k m:=by
 cases x with
 |none=>grind[M4]
 |some y=>
  simp only[M4]at hb;split at hb
  ·rename_i k m aa;simp at hb;exact .inr ⟨y,k,m,rfl,hb.symm,(aa▸hx y rfl).int_inv⟩
  ·cases hb
theorem Mw{len:Nat}{lo hi:oP Int}{q:Nat×Nat}(h:slB len lo hi=some q) :
  0<=lo.getD 0/\lo.getD 0<=hi.getD len/\hi.getD len<=len/\q=((lo.getD 0).toNat,(hi.getD len).toNat):=by
 grind[slB]
theorem MB(aa:Bool){len cap:Nat}(am:len<=cap){lo hi:oP Operand}{l h:oP Int}{ρ:Operand->Value}{w:World}{q:Nat×Nat}(hs:slB len l h=some q)(aj:(lo=none/\l=none)\/∃y k m,lo=some y/\l=some m/\ρ y = .int k m)(ai:(hi=none/\h=none)\/∃y k m,hi=some y/\h=some m/\ρ y = .int k m) :
  (Instr.sliceBounds aa len cap (lo.map ρ) (hi.map ρ) none).run P w = .ok (q.1,q.2,cap) w:=by
 obtain⟨h1,h2,h3,rfl⟩:=Mw hs;rcases aj with⟨rfl,rfl⟩|⟨y,k,m,rfl,rfl,hy⟩<;>rcases ai with⟨rfl,rfl⟩|⟨y',k',m',rfl,rfl,ak⟩<;>simp only[Option.getD_none,Option.getD_some]at h1 h2 h3
 ·rfl
 ·have e1:0<=m'/\m'<=(cap:Int):=I
  simp_all [Instr.sliceBounds,run_sliceBound_if]
 ·simp_all [Instr.sliceBounds,run_sliceBound_if]
 ·have e1:0<=m'/\m'<=(cap:Int):=I
  have e2:0<=m/\m<=(m'.toNat:Int):=I
  simp_all [Instr.sliceBounds,run_sliceBound_if]
theorem EV{α:Type}{l:Y α}{q:Nat×Nat}{i:Nat}{a:α}(h:(cut l q)[i]? = some a):i<q.2-q.1/\l[q.1+i]? = some a:=by
 simp_all [cut,List.getElem?_take,List.getElem?_drop]
theorem Q3I{x:Operand}{lo hi:oP Operand}(ho:o.op = .slice t x lo hi none):x∈o.op.operands.toList/\(∀y,lo=some y->y∈o.op.operands.toList)/\∀y,hi=some y->y∈o.op.operands.toList:=by
 grind[Op.operands]
theorem Q8w{tt:TT}(hT:TOk P tt){x:Operand}{lo hi:oP Operand}(ho:o.op = .slice t x lo hi none){g:Bool}{k:Dl->oP R}{r:R}(h:Q9f tt g t (ev x) (M4 ev lo) (M4 ev hi) k=some r):∃dl,k dl=some r/\(g=true->K6 P E o ev hl dl):=by
 obtain⟨az,ar,ac⟩:=Q3I ho;unfold Q9f at h;split at h
 case h_2=>cases h
 rename_i l' h' a3 a2;split at h
 ·rename_i s hk aw;obtain⟨ti,au,ak⟩:=XC hk Q2;have hu:=(hT t ti au).kstr ak;obtain⟨q,h,hp⟩:=Qy h;refine⟨_,h,λhg=>QD λβ S st a w hR hO hA=>?_⟩;obtain⟨bs,hs,hx⟩:=(aw▸hO.at az).str_inv;have an:s.length=bs.size:=by simp_all
  have hb:=MB (P:=P) false (len:=s.length) (cap:=s.length) (Qpv _) (ρ:=a.eval) (w:=w) (hp hg) (VL a3 λy hy=>hO.at (ar y hy)) (VL a2 λy hy=>hO.at (ac y hy));rw[an]at hb;refine⟨.string (bs.extract q.1 q.2),?_,.d _ _ ?_⟩
  ·simp_all [execOp,Qpb,run_sliceAt_string,Option.map_none,Instr.slice,X6,Qp7,Option.isSome_none,Bool.false_eq_true,if_false]
  ·have:cut s q=(bs.extract q.1 q.2).data.toList:=by
    rw[hs];simp[cut,ByteArray.data_extract]
   rw[this];exact .str _
 ·rename_i e esz s rows hk aw;cases hb:Nat.beq s esz with
  |false=>simp[hb]at h
  |true=>
   simp only[hb,Qpc]at h;obtain rfl:=Qpa hb;obtain⟨ti,au,ak⟩:=XC hk Q2;obtain⟨hu,a5,inf,aj,an⟩:=(hT t ti au).ksl _ _ ak;obtain⟨q,h,hp⟩:=Qy h;refine⟨_,h,λhg=>QD λβ S st a w hR hO hA=>?_⟩;have a8:=(aw▸hO.at az).d_inv;have hq:=Mw (hp hg);have ao:∀(ad:oP Addr) (cap:Nat),rows.length<=cap->a.eval x = .slice ad rows.length cap->(execOp a.eval o).run P w = .ok (.value (.slice (if cap=q.1 then ad else ad.map (·.add (q.1*s))) (q.2-q.1) (cap-q.1))) w:=by
    intro ad cap hc hx;have hb:=MB (P:=P) true hc (ρ:=a.eval) (w:=w) (hp hg) (VL a3 λy hy=>hO.at (ar y hy)) (VL a2 λy hy=>hO.at (ac y hy));unfold execOp;rw[ho];simp only[hx,Qpb,Instr.sliceAt,X6 hu,Qp7,Option.map_none];simp only[Instr.slice,Qpb,X6 hu,Qp7,hb,sizeOf,Yx aj,an];rfl
   have ax:(cut rows q).length=q.2-q.1:=by
    unfold cut;rw[hq.2.2.2];simp;omega
   generalize hv:a.eval x=v at a8 ao;cases a8 with
   |sl0 ad cap _=>
    refine⟨_,ao ad cap (Nat.zero_le _) rfl,.d _ _ ?_⟩;have:cut ([]:Y (Y D)) q=[]:=by simp[cut]
    rw[this];have h0:q.2-q.1=0:=by rw[this]at ax;simpa using ax.symm
    rw[h0];exact .sl0 _ _ _
   |sl ad cap _ _ c hS a6 a4 hc hr=>
    refine⟨_,ao (some ad) cap a6 rfl,.d _ _ ?_⟩;by_cases h0:q.2-q.1=0
    ·have:cut rows q=[]:=Qph (by rw[ax,h0]);rw[this,h0];exact .sl0 _ _ _
    ·have a9:cap≠q.1:=by
      have:=hq.2.2.1;have:=hq.2.2.2;have h1:q.2<=rows.length:=by rw[this];simp;omega
      omega
     rw[Qpk a9,<- ax];refine Rd.sl (ad.add (q.1*s)) (cap-q.1) s (cut rows q) (λi j=>c (q.1+i) j) (by rw[Jv];exact hS) ?_ ?_ ?_ ?_
     ·rw[ax];have:=hq.2.2.2;have h1:q.2<=rows.length:=by rw[this];simp;omega
      omega
     ·intro i r ai;exact a4 _ _ (EV ai).2
     ·intro i j r y ai hy;have:=hc (q.1+i) j r y (EV ai).2 hy;rw[BB,<- QpC,<- Nat.add_mul];exact this
     ·intro i j r y ai hy;exact hr (q.1+i) j r y (EV ai).2 hy
 ·rename_i e esz hk aw;obtain⟨ti,au,ak⟩:=XC hk Q2;obtain⟨hu,a5,inf,aj,an⟩:=(hT t ti au).ksl _ _ ak;obtain⟨q,h,hp⟩:=Qy h;refine⟨_,h,λhg=>QD λβ S st a w hR hO hA=>?_⟩;have hx:=(aw▸hO.at az).nil_inv;have hq:=Mw (hp hg);have hb:=MB (P:=P) true (Qpv 0) (ρ:=a.eval) (w:=w) (hp hg) (VL a3 λy hy=>hO.at (ar y hy)) (VL a2 λy hy=>hO.at (ac y hy));have h0:q.2-q.1=0:=by
   obtain⟨q1,q2,q3,q4⟩:=hq;rw[q4];show(h'.getD ((0:Nat):Int)).toNat-(l'.getD 0).toNat=0;omega
  have h1:0-q.1=0:=Nat.zero_sub _;refine⟨.slice none 0 0,?_,.nil⟩;unfold execOp;rw[ho];simp only[hx,Qpb,Instr.sliceAt,X6 hu,Qp7,Option.map_none];simp only[Instr.slice,Qpb,X6 hu,Qp7,hb,sizeOf,Yx aj,an,h0,h1,Option.map_none,ite_self];rfl
 ·cases h
theorem Q4i{len:Nat}{lo hi mx:oP Int}{q:Nat×Nat}(h:QhO len lo hi mx=some q):∃m,hi=some m/\mx=some m/\slB len lo (some m)=some q:=by
 unfold QhO at h
 grind
theorem Bv{len cap:Nat}(ak:len<=cap){lo:oP Operand}{yh ym:Operand}{l:oP Int}{m:Int}{kh km:IntKind}{ρ:Operand->Value}{w:World}{q:Nat×Nat}(hs:slB len l (some m)=some q)(aa:(lo=none/\l=none)\/∃y k m,lo=some y/\l=some m/\ρ y = .int k m)(hh:ρ yh = .int kh m)(hm:ρ ym = .int km m) :
  (Instr.sliceBounds true len cap (lo.map ρ) (some (ρ yh)) (some (ρ ym))).run P w = .ok (q.1,q.2,q.2) w:=by
 obtain⟨h1,h2,h3,rfl⟩:=Mw hs;simp only[Option.getD_some]at h2 h3;have e1:0<=m/\m<=(cap:Int):=by
  omega
 have e2:0<=m/\m<=(m.toNat:Int):=I
 rcases aa with⟨rfl,rfl⟩|⟨y,k,a,rfl,rfl,hy⟩
 ·simp_all [Instr.sliceBounds,run_sliceBound_if]
 ·simp only[Option.getD_some]at h1 h2;have e3:0<=a/\a<=(m.toNat:Int):=I
  simp_all [Instr.sliceBounds,run_sliceBound_if,Qpo]
theorem Q7U{x mx:Operand}{lo hi:oP Operand}(ho:o.op = .slice t x lo hi (some mx)):x∈o.op.operands.toList/\(∀y,lo=some y->y∈o.op.operands.toList)/\(∀y,hi=some y->y∈o.op.operands.toList)/\mx∈o.op.operands.toList:=by
 grind[Op.operands]
theorem Q6a{tt:TT}(hT:TOk P tt){x mx:Operand}{lo hi:oP Operand}(ho:o.op = .slice t x lo hi (some mx)){g:Bool}{k:Dl->oP R}{r:R}(h:Q5g tt g t (ev x) (M4 ev lo) (M4 ev hi) (M4 ev (some mx)) k=some r):∃dl,k dl=some r/\(g=true->K6 P E o ev hl dl):=by
 obtain⟨bg,ao,ar,bi⟩:=Q7U ho;unfold Q5g at h;split at h
 case h_2=>cases h
 rename_i l' h' m' a8 ba bb;split at h
 ·rename_i e esz s rows hk a5;cases hb:Nat.beq s esz with
  |false=>simp_all
  |true=>
   simp only[hb,Qpc]at h;obtain rfl:=Qpa hb;obtain⟨ti,a4,az⟩:=XC hk Q2;obtain⟨hu,a9,inf,aj,aw⟩:=(hT t ti a4).ksl _ _ az;obtain⟨q,h,hp⟩:=Qy h;refine⟨_,h,λhg=>QD λβ S st a w hR hO hA=>?_⟩;have bh:=(a5▸hO.at bg).d_inv;obtain⟨m,rfl,rfl,ak⟩:=Q4i (hp hg);have hq:=Mw ak;rcases VL ba λy hy=>hO.at (ar y hy)with⟨_,hn⟩|⟨yh,kh,mh,rfl,e1,ay⟩
   ·cases hn
   rcases VL bb λy hy=>hO.at (by injection hy with hy;subst hy;exact bi)with⟨_,hn⟩|⟨ym,km,mm,e3,e2,a3⟩
   ·cases hn
   injection e1 with e1
   injection e2 with e2
   injection e3 with e3
   subst e1 e2 e3;have am:∀(ad:oP Addr) (cap:Nat),rows.length<=cap->a.eval x = .slice ad rows.length cap->(execOp a.eval o).run P w = .ok (.value (.slice (if q.2=q.1 then ad else ad.map (·.add (q.1*s))) (q.2-q.1) (q.2-q.1))) w:=by
    intro ad cap hc hx;have hb:=Bv (P:=P) hc (ρ:=a.eval) (w:=w) ak (VL a8 λy hy=>hO.at (ao y hy)) ay a3;unfold execOp;rw[ho];simp only[hx,Qpb,Instr.sliceAt,X6 hu,Qp7,Option.map_some];simp only[Instr.slice,Qpb,X6 hu,Qp7,hb,sizeOf,Yx aj,aw];rfl
   have bz:q.2<=rows.length:=by
    have h3:=hq.2.2.1;rw[hq.2.2.2];simp only[Option.getD_some]at h3 ⊢;omega
   have ac:(cut rows q).length=q.2-q.1:=by
    unfold cut;simp;omega
   generalize hv:a.eval x=v at bh am;have au:∀(ad:oP Addr),Rd S w (.slice ad (q.2-q.1) (q.2-q.1)) (.sl s (cut rows q))->RdA β S (look st.h) w (tmv a) (.slice ad (q.2-q.1) (q.2-q.1)) (.fs s (cut rows q)):=by
    intro ad hr;have:=RdA.fs (β:=β) (h:=look st.h) (tm:=tmv a) ad s (cut rows q) (by rw[ac];exact hr);rw[ac]at this;exact this
   cases bh with
   |sl0 ad cap _=>
    refine⟨_,am ad cap (Nat.zero_le _) rfl,au _ ?_⟩;have:cut ([]:Y (Y D)) q=[]:=by simp[cut]
    rw[this];have h0:q.2-q.1=0:=by rw[this]at ac;simpa using ac.symm
    rw[h0];exact .sl0 _ _ _
   |sl ad cap _ _ c hS a7 bc hc hr=>
    refine⟨_,am (some ad) cap a7 rfl,au _ ?_⟩;by_cases h0:q.2-q.1=0
    ·have:cut rows q=[]:=Qph (by rw[ac,h0]);rw[this,h0];exact .sl0 _ _ _
    ·have bj:q.2≠q.1:=I
     rw[Qpk bj];have:=Rd.sl (S:=S) (w:=w) (ad.add (q.1*s)) (q.2-q.1) s (cut rows q) (λi j=>c (q.1+i) j) (by rw[Jv];exact hS) (by rw[ac];exact Qpv _) (λi r ai=>bc _ _ (EV ai).2) (λi j r y ai hy=>by
      have:=hc (q.1+i) j r y (EV ai).2 hy;rw[BB,<- QpC,<- Nat.add_mul];exact this) (λi j r y ai hy=>hr (q.1+i) j r y (EV ai).2 hy)
     rw[ac]at this;exact this
 ·rename_i e esz hk a5;obtain⟨ti,a4,az⟩:=XC hk Q2;obtain⟨hu,a9,inf,aj,aw⟩:=(hT t ti a4).ksl _ _ az;obtain⟨q,h,hp⟩:=Qy h;refine⟨_,h,λhg=>QD λβ S st a w hR hO hA=>?_⟩;have hx:=(a5▸hO.at bg).nil_inv;obtain⟨m,rfl,rfl,ak⟩:=Q4i (hp hg);have hq:=Mw ak;rcases VL ba λy hy=>hO.at (ar y hy)with⟨_,hn⟩|⟨yh,kh,mh,rfl,e1,ay⟩
  ·cases hn
  rcases VL bb λy hy=>hO.at (by injection hy with hy;subst hy;exact bi)with⟨_,hn⟩|⟨ym,km,mm,e3,e2,a3⟩
  ·cases hn
  injection e1 with e1
  injection e2 with e2
  injection e3 with e3
  subst e1 e2 e3;have hb:=Bv (P:=P) (Qpv 0) (ρ:=a.eval) (w:=w) ak (VL a8 λy hy=>hO.at (ao y hy)) ay a3;have h0:q.2-q.1=0:=by
   obtain⟨q1,q2,q3,q4⟩:=hq;rw[q4];simp only[Option.getD_some]at q2 q3 ⊢;omega
  refine⟨.slice none 0 0,?_,.fs none _ [] (.sl0 _ _ _)⟩;unfold execOp;rw[ho];simp only[hx,Qpb,Instr.sliceAt,X6 hu,Qp7,Option.map_some];simp only[Instr.slice,Qpb,X6 hu,Qp7,hb,sizeOf,Yx aj,aw,h0,Option.map_none,ite_self];rfl
 ·cases h
end
end Go.Vx
