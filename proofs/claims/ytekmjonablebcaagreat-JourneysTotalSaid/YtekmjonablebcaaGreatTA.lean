/- Part of a proof. No conditions of their own. -/
import Derived.Orders
import Derived.Below
import Derived.Laws.StructEq
import Derived.Laws.Strings3
import Derived.Laws.Concat
import Derived.Laws.BytesString
import Derived.Laws.Shifts
import Derived.Laws.Slices
import Derived.Laws.Cells
import Derived.Laws.Rows
import Derived.Tactics2
import Derived.WideLaws
import Derived.Laws.AppendOwn
import Derived.Maps.AppendAt
import Derived.ArgAppend
import Derived.Lib.ConvBytes
import Derived.Carry
set_option linter.unusedVariables false
set_option linter.unusedSimpArgs false
noncomputable section
abbrev Qp6:=@Go.Result.andThen_ok
abbrev Qp7:=@List.getElem?_eq_some_iff
abbrev Qp8:=@Bool.and_eq_true
abbrev Qp9:=@Nat.eq_of_beq_eq_true
abbrev Qpa:=@Go.Sem.run_bind
abbrev Qpb:=@cond_true
abbrev Qpc:=@Option.map_eq_some_iff
abbrev Qpd:=@Nat.mul_le_mul_right
abbrev Qpe:=@Go.ByteArray.toList_eq
abbrev Qpf:=@List.mem_of_getElem?
abbrev Qpg:=@List.eq_nil_of_length_eq_zero
abbrev Qph:=@List.getElem?_map
abbrev Qpi:=@Nat.le_of_ble_eq_true
abbrev Qpj:=@if_neg
abbrev Qpk:=@Array.length_toList
abbrev Qpl:=@Array.getElem?_eq_some_iff
abbrev Qpm:=@List.getElem?_eq_getElem
abbrev Qpn:=@if_pos
abbrev Qpo:=@Go.MapKept.run_getObj_map
abbrev Qpp:=@List.mem_cons
abbrev Qpq:=@List.all_eq_true
abbrev Qpr:=@List.getElem?_set_self
abbrev Qps:=@List.getElem?_set_ne
abbrev Qpt:=@Go.Sem.run_pure
abbrev Qpu:=@Nat.le_refl
abbrev Qpv:=@Nat.mul_le_mul_left
abbrev Qpw:=@List.length_cons
abbrev Qpx:=@Nat.lt_of_lt_of_le
abbrev Qpy:=@List.mem_append
abbrev Qpz:=@Nat.succ_mul
abbrev QpA:=@List.map_cons
abbrev QpB:=@Nat.add_assoc
abbrev oP:=Option
theorem Q0{p:Prop}(h:p:=by omega):p:=h
theorem Q1{p:Prop}(h:p:=by decide):p:=h
theorem Q2{p:Prop}(h:p:=by simp):p:=h
theorem Q3{p:Prop}(h:p:=by simp;omega):p:=h
theorem Q4{p:Prop}(h:p:=by simp_all):p:=h
theorem Q5(p:Prop)[Decidable p](h:¬p:=by omega):decide p=false:=decide_eq_false h
theorem Q6(p:Prop)[Decidable p](h:p:=by omega):decide p=true:=decide_eq_true h
namespace Go.Vx
inductive D where
 |int (k:IntKind) (n:Int)
 |bool (b:Bool)
 |str (s:List UInt8)
 |sl (size:Nat) (rows:List (List D))
  |nl
inductive AV where
 |top
 |d (x:D)
 |nil
 |ag (l:List AV)
 |tup (l:List AV)
 |ptr (l off:Nat)
 |el (row:List D) (off:Nat)
 |arr (l:Nat)
 |ap (l i off:Nat)
 |gd (t:Nat) (w:Bool) (av:AV)
 |fn (f:Nat) (cap:List AV)
 |fs (s:Nat) (rows:List (List D))
 |sa (l t:Nat)
 |mpd (f:Int->List (List D))
 |ex (v:Value)
inductive Ob where
 |box (cells:List AV)
 |arr (elem size:Nat) (rows:List (List D))
 |mp (t:Nat) (f:Int->Bool)
structure St where
 n:Nat
 tm:List (Nat×AV)
 h:List (Nat×Ob)
def look{α:Type}:List (Nat×α)->Nat->oP α
 |[],_=>none
 |(k,a)::r,t=>bif Nat.beq k t then some a else look r t
def rem{α:Type}(l:Nat):List (Nat×α)->List (Nat×α)
 |[]=>[]
 |(k,a)::r=>bif Nat.beq k l then rem l r else(k,a)::rem l r
def MA(h:List (Nat×Ob)):List (Nat×oP Ob)->List (Nat×Ob)
 |[]=>h
 |(l,some o)::r=>MA ((l,o)::rem l h) r
 |(l,none)::r=>MA (rem l h) r
def Pr:Value->AV
 |.int k n=>.d (.int k n)
 |.bool b=>.d (.bool b)
 |.string s=>.d (.str s.data.toList)
 |.slice none 0 0=>.nil
 |_=>.top
inductive Kd where
 |int (k:IntKind)
 |bool
 |str
 |sl (e esz:Nat)
 |struct
 |array (e esz n:Nat)
 |ptr
 |mapI
 |mpb
 |other
structure TyI where
 kd:Kd
 size:Nat
 bytes:Nat
 zero:List Value
 zd:List D
 fields:List (Nat×Nat)
 eqk:oP (List Kd)
abbrev TT:=List (Nat×TyI)
structure Dl where
 v:AV
 wr:List (Nat×oP Ob)
 rd:List Nat
def lkT(tm:List (Nat×AV))(t:Nat):AV:=(look tm t).getD .top
def evO(tm:List (Nat×AV)):Operand->AV
 |.tmp t=>lkT tm t
 |.const v=>Pr v
 |.global _=>.top
 |.func f=>.fn f []
def bw(e w:Bool):Bool:=bif w then e else !e
def ctx(tm:List (Nat×AV)):Nat->Nat->Bool->oP (Bool×List (Nat×Bool))
 |0,_,_=>none
 |f+1,s,w=>
  match lkT tm s with
  |.d (.bool e)=>some (bw e w,[(s,w)])
  |.gd s' w' (.d (.bool e))=>
   match ctx tm f s' w' with
   |some (g,l)=>some (g&&bw e w,(s,w)::l)
   |none=>none
  |_=>none
def QeL:List (Nat×Bool)->Nat->Bool->Bool
 |[],_,_=>false
 |(a,b)::r,s,w=>(Nat.beq a s&&(b == w))||QeL r s w
def unw(l:List (Nat×Bool)):AV->AV
 |.gd s w av=>bif QeL l s w then av else .gd s w av
 |av=>av
section
variable{R:Type}
def orZ{α:Type}(g:Bool)(p:oP α)(z:α):oP α:=
 match p with
 |some a=>some a
 |none=>bif g then none else some z
def gb{α:Type}(g:Bool)(p:oP α)(z:α)(k:α->oP R):oP R:=Option.bind (orZ g p z) k
def Qk(k:IntKind):D->oP Int
 |.int k' n=>bif k == k' then some n else none
 |_=>none
def PB:D->oP Bool
 |.bool b=>some b
 |_=>none
def Vq:D->oP (List UInt8)
 |.str s=>some s
 |_=>none
def pSl(size:Nat):D->oP (List (List D))
 |.sl s rows=>bif Nat.beq s size then some rows else none
 |_=>none
def Jq:List AV->Bool
 |[]=>true
 |.ptr ..::r=>Jq r
 |.d _::r=>Jq r
 |_=>false
def Q0U:AV->Bool
 |.gd ..=>false
 |.fn _ l=>Jq l
 |.ag _=>false
 |.tup _=>false
 |_=>true
def prj(g:Bool)(kd:Kd)(av:AV)(k:AV->oP R):oP R:=
 match av with
 |.d x=>
  match kd with
  |.int ik=>gb g (Qk ik x) 0 λn=>k (.d (.int ik n))
  |.bool=>gb g (PB x) false λb=>k (.d (.bool b))
  |.str=>gb g (Vq x) [] λs=>k (.d (.str s))
  |.sl _ esz=>gb g (pSl esz x) [] λr=>k (.d (.sl esz r))
  |_=>none
 |av=>bif Q0U av then k av else none
def Q1o(g:Bool)(row:List D):Nat->Nat->(List AV->oP R)->oP R
 |_,0,k=>k []
 |off,n+1,k=>gb g row[off]? (.bool false) λc=>Q1o g row (off+1) n λcs=>k (.d c::cs)
def BG(cells:List AV):Nat->Nat->oP (List AV)
 |_,0=>some []
 |off,n+1=>
  match cells[off]? with
  |some c=>match BG cells (off+1) n with
   |some r=>bif Q0U c then some (c::r)else none
   |none=>none
  |none=>none
def Ru:Kd->Bool
 |.struct=>true
 |_=>false
def UV:Kd->Bool
 |.struct=>true
 |.array ..=>true
 |_=>false
def Nr{α:Type}:Nat->Nat->List α->List (List α)
 |0,_,_=>[]
 |n+1,s,l=>l.take s::Nr n s (l.drop s)
def SY{α:Type}(l:List α)(n:Nat):oP Unit:=bif Nat.beq l.length n then some ()else none
def Q3i:AV->Bool
 |.d _ | .nil | .ptr .. | .el .. | .arr _ | .ap ..=>true
 |.fn _ l=>Jq l
 |_=>false
def Mr(cells:List AV):Nat->List AV->oP (List AV)
 |_,[]=>some cells
 |off,v::r=>bif Q3i v&&Nat.ble (off+1) cells.length then Mr (cells.set off v) (off+1) r else none
def Qez:List AV->oP (List D)
 |[]=>some []
 |.d x::r=>match Qez r with | some l=>some (x::l) | none=>none
 |_::_=>none
def Vj(tm:Operand->AV):List (Nat×Operand)->List (Nat×AV)
 |[]=>[]
 |(i,x)::r=>(i,tm x)::Vj tm r
def Y0:AV->List AV
 |.ag l=>l
 |.fs s rows=>[.d (.sl s rows)]
 |v=>[v]
def Q11(fields:List (Nat×Nat))(tt:TT):List AV->List (Nat×AV)->oP (List AV)
 |cells,[]=>some cells
 |cells,(i,v)::r=>
  match fields[i]? with
  |some (off,t)=>match look tt t with
   |some ti=>bif Nat.beq (Y0 v).length ti.size&&Nat.ble (off+ti.size) cells.length then
     match Mr cells off (Y0 v)with
     |some cs=>Q11 fields tt cs r
     |none=>none
    else none
   |none=>none
  |none=>none
def Dn(ti:TyI):List AV:=ti.zero.map Pr
def Q6o(aa t:Nat):Value->AV
 |.pointer none=>.sa aa t
 |v=>Pr v
def Q1v(aa t:Nat)(ti:TyI):List AV:=ti.zero.map (Q6o aa t)
def Q7a(op:BinOp)(k:IntKind)(a b:Int):oP D:=
 match op with
 |.add=>some (.int k (k.wrap (a+b)))
 |.sub=>some (.int k (k.wrap (a-b)))
 |.mul=>some (.int k (k.wrap (a*b)))
 |.eql=>some (.bool (a == b))
 |.neq=>some (.bool (a != b))
 |.lss=>some (.bool (decide (a<b)))
 |.leq=>some (.bool (decide (a<=b)))
 |.gtr=>some (.bool (decide (a>b)))
 |.geq=>some (.bool (decide (a>=b)))
 |_=>none
def nz(b:Int):oP Unit:=bif b == 0 then none else some ()
def Ab(b:Int):oP Unit:=bif decide (0<=b)then some ()else none
def Q8l(n:Nat):oP Unit:=bif Nat.ble n 9223372036854775807 then some ()else none
def Q7i(k:IntKind)(a b:Int):Int:=k.wrap ((BitVec.ofInt k.bits a &&& BitVec.ofInt k.bits b).toNat)
def bOr(k:IntKind)(a b:Int):Int:=k.wrap ((BitVec.ofInt k.bits a ||| BitVec.ofInt k.bits b).toNat)
def Qil(k:IntKind)(a b:Int):Int:=k.wrap ((BitVec.ofInt k.bits a ^^^ BitVec.ofInt k.bits b).toNat)
def QfY(k:IntKind)(a:Int):Int:=Qil k (if k.signed then -1 else k.max) a
def Q8K(k:IntKind)(a b:Int):Int:=k.wrap ((BitVec.ofInt k.bits a &&& ~~~(BitVec.ofInt k.bits b)).toNat)
def shL(k:IntKind)(a b:Int):Int:=k.wrap (a*2 ^ min b.toNat k.bits)
def shR(k:IntKind)(a b:Int):Int:=a.fdiv (2 ^ min b.toNat k.bits)
def QgP(a b:List UInt8):Bool:=Op.bytesLess a b||a == b
def Q5b(g:Bool):List Kd->List AV->List AV->(List Bool->oP R)->oP R
 |[],[],[],k=>k []
 |kd::ks,.d a::xs,.d b::ys,k=>
  match kd with
  |.int ik=>gb g (Qk ik a) 0 λm=>gb g (Qk ik b) 0 λn=>Q5b g ks xs ys λr=>k ((m == n)::r)
  |.bool=>gb g (PB a) false λm=>gb g (PB b) false λn=>Q5b g ks xs ys λr=>k ((m == n)::r)
  |.str=>gb g (Vq a) [] λm=>gb g (Vq b) [] λn=>Q5b g ks xs ys λr=>k ((m == n)::r)
  |_=>none
 |_,_,_,_=>none
def Qbn:List Bool->Bool
 |[]=>true
 |[b]=>b
 |b::r=>b&&Qbn r
def Qiy(g:Bool)(op:BinOp)(a b:List UInt8)(k:AV->oP R):oP R:=
 match op with
 |.add=>gb g (Q8l (a.length+b.length)) () λ_=>k (.d (.str (a++b)))
 |.eql=>k (.d (.bool (a == b)))
 |.neq=>k (.d (.bool (!(a == b))))
 |.lss=>k (.d (.bool (Op.bytesLess a b)))
 |.leq=>k (.d (.bool (QgP a b)))
 |.gtr=>k (.d (.bool (!QgP a b)))
 |.geq=>k (.d (.bool (!Op.bytesLess a b)))
 |_=>none
def neL{α:Type}:List α->oP Unit
 |[]=>none
 |_=>some ()
def Qj4(g:Bool)(op:BinOp)(kd:Kd)(eqk:oP (List Kd))(x y:AV)(k:AV->oP R):oP R:=
 match x,y with
 |.nil,.nil=>
  match kd,op with
  |.sl ..,.eql=>k (.d (.bool true))
  |_,_=>none
 |.d (.sl _ r),.nil=>
  match kd,op with
  |.sl ..,.eql=>gb g (neL r) () λ_=>k (.d (.bool false))
  |_,_=>none
 |.d (.int ka a),.d (.int kb b)=>
  match op with
  |.shl=>gb g (Ab b) () λ_=>k (.d (.int ka (shL ka a b)))
  |.shr=>gb g (Ab b) () λ_=>k (.d (.int ka (shR ka a b)))
  |op=>bif ka == kb then
   match op with
   |.quo=>gb g (nz b) () λ_=>k (.d (.int ka (ka.wrap (a.tdiv b))))
   |.rem=>gb g (nz b) () λ_=>k (.d (.int ka (a.tmod b)))
   |.and=>k (.d (.int ka (Q7i ka a b)))
   |.or=>k (.d (.int ka (bOr ka a b)))
   |.xor=>k (.d (.int ka (Qil ka a b)))
   |.andNot=>k (.d (.int ka (Q8K ka a b)))
   |_=>match Q7a op ka a b with
    |some r=>k (.d r)
    |none=>none
  else none
 |.d (.bool a),.d (.bool b)=>
  match kd,op with
  |.bool,.eql=>k (.d (.bool (a == b)))
  |.bool,.neq=>k (.d (.bool (!(a == b))))
  |_,_=>none
 |.d (.str a),.d (.str b)=>Qiy g op a b k
 |.ag xs,.ag ys=>
  match eqk with
  |some ks=>match op with
   |.eql=>Q5b g ks xs ys λbs=>k (.d (.bool (Qbn bs)))
   |.neq=>Q5b g ks xs ys λbs=>k (.d (.bool (!Qbn bs)))
   |_=>none
  |none=>none
 |_,_=>none
def Zj(s:List UInt8)(n:Int):oP Int:=bif decide (0<=n)then(s[n.toNat]?).map λb=>(b.toNat:Int)else none
def slB(len:Nat)(lo hi:oP Int):oP (Nat×Nat):=
 bif decide (0<=lo.getD 0)&&(decide (lo.getD 0<=hi.getD len)&&decide (hi.getD len<=len))then some ((lo.getD 0).toNat,(hi.getD len).toNat)else none
def QhR(len:Nat)(lo hi mx:oP Int):oP (Nat×Nat):=
 match hi,mx with
 |some h,some m=>bif decide (h=m)then slB len lo (some h)else none
 |_,_=>none
def cut{α:Type}(l:List α)(q:Nat×Nat):List α:=(l.drop q.1).take (q.2-q.1)
def Qi(rows:List (List D))(n:Int):oP (List D):=bif decide (0<=n)then rows[n.toNat]? else none
def inB(len:Nat)(n:Int):oP Unit:=bif decide (0<=n)&&decide (n<len)then some ()else none
def Q0W(esz:Nat)(hl:Nat->oP Ob):AV->oP (List (List D)×List Nat)
 |.d (.sl s rows)=>bif Nat.beq s esz then some (rows,[])else none
 |.nil=>some ([],[])
 |.arr l=>match hl l with
  |some (.arr _ s rows)=>bif Nat.beq s esz then some (rows,[l])else none
  |_=>none
 |_=>none
end
abbrev oF:D:=.bool false
abbrev pIw:=Qk .i64
abbrev wJ:=IntKind.wrap .i64
abbrev Ql(x:Int):D:=.int .i64 x
abbrev Q5T:=(R:Type)->Nat->Nat->Bool->List AV->(Nat->oP Ob)->(Dl->oP R)->oP R
section
variable{R:Type}
def TY(tt:TT)(t:Nat):Kd:=
 match look tt t with
 |some ti=>ti.kd
 |none=>.other
def Qeh(tt:TT)(t:Nat):oP (List Kd):=
 match look tt t with
 |some ti=>ti.eqk
 |none=>none
def M3(ev:Operand->AV):oP Operand->oP (oP Int)
 |none=>some none
 |some x=>match ev x with
  |.d (.int _ n)=>some (some n)
  |_=>none
def Qba(tt:TT)(g:Bool)(t:Nat)(x i:AV)(k:Dl->oP R):oP R:=
 match TY tt t,x,i with
 |.str,.d (.str s),.d (.int _ n)=>gb g (Zj s n) 0 λb=>k ⟨.d (.int .u8 b),[],[]⟩
 |_,_,_=>none
def Q9i(tt:TT)(g:Bool)(t:Nat)(x:AV)(lo hi:oP (oP Int))(k:Dl->oP R):oP R:=
 match lo,hi with
 |some lo,some hi=>
  match TY tt t,x with
  |.str,.d (.str s)=>gb g (slB s.length lo hi) (0,0) λq=>k ⟨.d (.str (cut s q)),[],[]⟩
  |.sl _ esz,.d (.sl s rows)=>bif Nat.beq s esz then gb g (slB rows.length lo hi) (0,0) λq=>k ⟨.d (.sl esz (cut rows q)),[],[]⟩else none
  |.sl _ _,.nil=>gb g (slB 0 lo hi) (0,0) λ_=>k ⟨.nil,[],[]⟩
  |_,_=>none
 |_,_=>none
def Q5i(tt:TT)(g:Bool)(t:Nat)(x:AV)(lo hi mx:oP (oP Int))(k:Dl->oP R):oP R:=
 match lo,hi,mx with
 |some lo,some hi,some mx=>
  match TY tt t,x with
  |.sl _ esz,.d (.sl s rows)=>bif Nat.beq s esz then gb g (QhR rows.length lo hi mx) (0,0) λq=>k ⟨.fs esz (cut rows q),[],[]⟩else none
  |.sl _ esz,.nil=>gb g (QhR 0 lo hi mx) (0,0) λ_=>k ⟨.fs esz [],[],[]⟩
  |_,_=>none
 |_,_,_=>none
def Db:List (List D)->oP (List UInt8)
 |[]=>some []
 |[.int .u8 n]::r=>match Db r with
  |some l=>some (UInt8.ofNat n.toNat::l)
  |none=>none
 |_=>none
mutual
def Rm:AV->Bool
 |.d (.int ..)=>true
 |.d (.bool _)=>true
 |.d (.str _)=>true
 |.d (.sl ..)=>false
 |.ag l=>NB l
 |.tup l=>NB l
 |.fn ..=>false
 |.fs ..=>false
 |.mpd _=>false
 |.el ..=>false
 |.gd ..=>false
 |_=>true
def NB:List AV->Bool
 |[]=>true
 |a::r=>Rm a&&NB r
end
def Q9r:oP Ob->Bool
 |some (.box cells)=>NB cells
 |some (.arr ..)=>false
 |some (.mp ..)=>false
 |none=>true
def By:List (Nat×oP Ob)->Bool
 |[]=>true
 |(_,o)::r=>Q9r o&&By r
def Q86(hl:Nat->oP Ob):AV->oP (AV×List Nat)
 |.arr l=>match hl l with
  |some (.arr _ size rows)=>some (.d (.sl size rows),[l])
  |_=>none
 |av=>bif Q0U av then some (av,[])else none
def C0(hl:Nat->oP Ob):List AV->oP (List AV×List Nat)
 |[]=>some ([],[])
 |a::r=>match Q86 hl a with
  |some (a',l)=>match C0 hl r with
   |some (r',l')=>some (a'::r',l++l')
   |none=>none
  |none=>none
def N3(hl:Nat->oP Ob):AV->oP (AV×List Nat)
 |.ag cs=>match C0 hl cs with
  |some (aa,l)=>some (.ag aa,l)
  |none=>none
 |av=>Q86 hl av
def RZ(hl:Nat->oP Ob):List AV->oP (List AV×List Nat)
 |[]=>some ([],[])
 |a::r=>match N3 hl a with
  |some (a',l)=>match RZ hl r with
   |some (r',l')=>some (a'::r',l++l')
   |none=>none
  |none=>none
def QaV:List D->List AV->oP (List D)
 |[],[]=>some []
 |z::zs,a::r=>
  match QaV zs r with
  |some l=>match a with
   |.d x=>some (x::l)
   |.nil=>match z with
    |.sl e []=>some (.sl e []::l)
    |.nl=>some (.nl::l)
    |_=>none
   |_=>none
  |none=>none
 |_,_=>none
def M0(tt:TT)(t:Nat):List D:=
 match look tt t with
 |some ti=>ti.zd
 |none=>[]
def Lm(z:List D):List (List D)->List (Nat×AV)->oP (List (List D))
 |rows,[]=>some rows
 |rows,(i,v)::r=>
  match QaV z (Y0 v)with
  |some row=>bif Nat.ble (i+1) rows.length then Lm z (rows.set i row) r else none
  |none=>none
def Qdr(row:List D):Nat->List D->List D
 |_,[]=>row
 |off,x::r=>Qdr (row.set off x) (off+1) r
def Y5(n:Nat):oP Unit:=bif Nat.ble n 140737488355328 then some ()else none
def Qf6(tt:TT)(g:Bool)(hl:Nat->oP Ob)(t:Nat)(a:AV)(k:Dl->oP R):oP R:=
 match look tt t with
 |some ti=>
  match a with
  |.ptr l off=>match hl l with
   |some (.box cells)=>
    bif UV ti.kd then
     match BG cells off ti.size with
     |some cs=>k ⟨.ag cs,[],[l]⟩
     |none=>none
    else match cells[off]? with
     |some c=>prj g ti.kd c λv=>k ⟨v,[],[l]⟩
     |none=>none
   |_=>none
  |.el row off=>
   bif UV ti.kd then Q1o g row off ti.size λcs=>k ⟨.ag cs,[],[]⟩
   else gb g row[off]? (.bool false) λc=>prj g ti.kd (.d c) λv=>k ⟨v,[],[]⟩
  |.ap l i off=>match hl l with
   |some (.arr _ _ rows)=>
    gb g rows[i]? [] λrow=>
     bif UV ti.kd then Q1o g row off ti.size λcs=>k ⟨.ag cs,[],[l]⟩
     else gb g row[off]? (.bool false) λc=>prj g ti.kd (.d c) λv=>k ⟨v,[],[l]⟩
   |_=>none
  |_=>none
 |none=>none
def QaT(tt:TT)(hl:Nat->oP Ob)(t:Nat)(a v:AV)(k:Dl->oP R):oP R:=
 match look tt t with
 |some ti=>
  bif Nat.beq (Y0 v).length ti.size then
   match a with
   |.ptr l off=>match hl l with
    |some (.box cells)=>match Mr cells off (Y0 v)with
     |some cs=>k ⟨.top,[(l,some (.box cs))],[l]⟩
     |none=>none
    |_=>none
   |.ap l i off=>match hl l with
    |some (.arr e size rows)=>match Qez (Y0 v)with
     |some ds=>gb true rows[i]? [] λrow=>bif Nat.ble (off+ds.length) size then k ⟨.top,[(l,some (.arr e size (rows.set i (Qdr row off ds))))],[l]⟩else none
     |none=>none
    |_=>none
   |_=>none
  else none
 |none=>none
def Q6z(hl:Nat->oP Ob)(esz n l:Nat)(v:AV)(k:Dl->oP R):oP R:=
 match hl l with
 |some (.arr e s rows)=>
  bif Nat.beq s esz then
   match Qez (Y0 v)with
   |some ds=>bif Nat.beq ds.length (n*esz)then gb true (SY rows n) () λ_=>k ⟨.top,[(l,some (.arr e s (Nr n esz ds)))],[l]⟩else none
   |none=>none
  else none
 |_=>none
def LP(g:Bool)(hl:Nat->oP Ob)(esz n l:Nat)(i:AV)(k:Dl->oP R):oP R:=
 match i,hl l with
 |.d (.int _ x),some (.arr _ s _)=>bif Nat.beq s esz then gb g (inB n x) () λ_=>k ⟨.ap l x.toNat 0,[],[l]⟩else none
 |_,_=>none
def Q8x(s:List UInt8):List (List D):=s.map λb=>[D.int .u8 (b.toNat:Int)]
def QaS(tt:TT)(g:Bool)(t f:Nat)(x:AV)(k:Dl->oP R):oP R:=
 match look tt t with
 |some ti=>bif Ru ti.kd then match ti.fields[f]? with
   |some (off,ft)=>match look tt ft with
    |some fi=>match x with
     |.ag cells=>
      bif UV fi.kd then
       match BG cells off fi.size with
       |some cs=>k ⟨.ag cs,[],[]⟩
       |none=>none
      else match cells[off]? with
       |some c=>prj g fi.kd c λv=>k ⟨v,[],[]⟩
       |none=>none
     |_=>none
    |none=>none
   |none=>none
  else none
 |none=>none
def DC(tt:TT)(hl:Nat->oP Ob)(t f:Nat)(x:AV)(k:Dl->oP R):oP R:=
 match look tt t with
 |some ti=>bif Ru ti.kd then match ti.fields[f]? with
   |some (off,_)=>match x with
    |.ptr l o=>k ⟨.ptr l (o+off),[],[]⟩
    |.el row o=>k ⟨.el row (o+off),[],[]⟩
    |.ap l i o=>match hl l with
     |some (.arr ..)=>k ⟨.ap l i (o+off),[],[l]⟩
     |_=>none
    |_=>none
   |none=>none
  else none
 |none=>none
def Di(tt:TT)(g:Bool)(hl:Nat->oP Ob)(t:Nat)(x i:AV)(k:Dl->oP R):oP R:=
 match TY tt t,i with
 |.sl _ esz,.d (.int _ n)=>
  match x with
  |.d (.sl s rows)=>bif Nat.beq s esz then gb g (Qi rows n) [] λrow=>k ⟨.el row 0,[],[]⟩else none
  |.arr l=>match hl l with
   |some (.arr _ s rows)=>bif Nat.beq s esz then gb g (inB rows.length n) () λ_=>k ⟨.ap l n.toNat 0,[],[l]⟩else none
   |_=>none
  |.nil=>gb g (Qi [] n) [] λrow=>k ⟨.el row 0,[],[]⟩
  |_=>none
 |_,_=>none
def QiR(tt:TT)(hl:Nat->oP Ob)(t:Nat)(x:AV):oP (Int×List Nat):=
 match TY tt t with
 |.sl _ _=>match x with
  |.d (.sl _ rows)=>some (rows.length,[])
  |.nil=>some (0,[])
  |.arr l=>match hl l with
   |some (.arr _ _ rows)=>some (rows.length,[l])
   |_=>none
  |_=>none
 |.str=>match x with
  |.d (.str s)=>some (s.length,[])
  |_=>none
 |_=>none
def Bp(isMin:Bool):AV->List AV->oP AV
 |a,[]=>some a
 |.d (.int k a),.d (.int k' b)::r=>bif k == k' then Bp isMin (.d (.int k (bif isMin then(if b<a then b else a)else(if a<b then b else a)))) r else none
 |_,_=>none
def EQ(hl:Nat->oP Ob)(aa:Nat)(o:Ob)(v:AV)(wr:List (Nat×oP Ob))(rd:List Nat)(k:Dl->oP R):oP R:=
 match hl aa with
 |none=>k ⟨v,wr++[(aa,some o)],rd⟩
 |some _=>none
def Q2h(tt:TT)(hl:Nat->oP Ob)(aa:Nat)(g:Bool)(t tn:Nat)(s x:AV)(k:Dl->oP R):oP R:=
 match TY tt t,TY tt tn,s,x with
 |.sl e esz,.int _,.nil,.d (.int _ n)=>match look tt e with
  |some ei=>
   bif Nat.ble 1 ei.bytes&&Nat.beq (M0 tt e).length esz then
   gb g (bif decide (0<n)then some ()else none) () λ_=>
   gb g (Y5 (n.toNat*ei.bytes)) () λ_=>EQ hl aa (.arr e esz (List.replicate n.toNat (M0 tt e))) (.arr aa) [] [] k
   else none
  |none=>none
 |_,_,_,_=>none
def Q7N(f:Int->Bool)(n:Int)(b:Bool):Int->Bool:=λm=>bif decide (m=n)then b else f m
def Qj6(tt:TT)(hl:Nat->oP Ob)(aa:Nat)(u:Bool)(t l:Nat)(lo hi:oP (oP Int))(k:Dl->oP R):oP R:=
 match TY tt t,lo,hi with
 |.sl e esz,some none,some (some h0)=>bif u&&decide (h0=0)then match hl l with
   |some (.arr e' s' _)=>bif Nat.beq e e'&&Nat.beq esz s' then EQ hl aa (.arr e esz []) (.arr aa) [(l,none)] [l] k else none
   |_=>none
  else none
 |_,_,_=>none
def Q6g(tt:TT)(aa:Nat)(g:Bool)(hl:Nat->oP Ob)(t:Nat)(s x:AV)(k:Dl->oP R):oP R:=
 match TY tt t with
 |.sl e esz=>match look tt e with
  |some ei=>
   bif Nat.ble 1 ei.bytes&&Nat.beq ei.zero.length esz then
   match Q0W esz hl x with
   |some (news,rx)=>
    match s with
    |.nil=>gb g (Y5 (news.length*ei.bytes)) () λ_=>EQ hl aa (.arr e esz news) (.arr aa) [] rx k
    |.fs s0 rows=>bif Nat.beq s0 esz then gb g (neL news) () λ_=>gb g (Y5 ((rows.length+news.length)*ei.bytes)) () λ_=>EQ hl aa (.arr e esz (rows++news)) (.arr aa) [] rx k else none
    |.arr l=>match hl l with
     |some (.arr e' s' rows)=>bif Nat.beq e e'&&Nat.beq esz s' then
       gb g (Y5 ((rows.length+news.length)*ei.bytes)) () λ_=>EQ hl aa (.arr e esz (rows++news)) (.arr aa) [(l,none)] (l::rx) k
      else none
     |_=>none
    |_=>none
   |none=>none
   else none
  |none=>none
 |_=>none
def KI(tt:TT)(hl:Nat->oP Ob)(aa:Nat)(u:Bool)(t len:Nat)(ac:List (Nat×AV))(k:Dl->oP R):oP R:=
 match TY tt t with
 |.sl e esz=>
  bif Nat.ble (len*esz) 16777216&&(look tt e).isSome&&Nat.beq (M0 tt e).length esz then
   match Lm (M0 tt e) (List.replicate len (M0 tt e)) ac with
   |some rows=>bif u then EQ hl aa (.arr e esz rows) (.arr aa) [] [] k else k ⟨.d (.sl esz rows),[],[]⟩
   |none=>none
  else none
 |_=>none
def QdJ(tt:TT)(hl:Nat->oP Ob)(aa:Nat)(u:Bool)(t:Nat)(l c:AV)(k:Dl->oP R):oP R:=
 bif u then
  match TY tt t,l,c with
  |.sl e esz,.d (.int _ n),.d (.int _ m)=>match look tt e with
   |some ei=>
    bif Nat.ble 1 ei.bytes&&Nat.beq (M0 tt e).length esz then
    gb true (bif decide (0<=n)&&decide (n<=m)then some ()else none) () λ_=>
    gb true (Y5 (m.toNat*ei.bytes)) () λ_=>EQ hl aa (.arr e esz (List.replicate n.toNat (M0 tt e))) (.arr aa) [] [] k
    else none
   |none=>none
  |_,_,_=>none
 else none
def PL(x:Nat):List Nat->Bool
 |[]=>false
 |a::r=>Nat.beq a x||PL x r
def HY(a b:List Nat):Bool:=a.any λx=>PL x b
def wrL(dl:Dl):List Nat:=dl.wr.map (·.1)
mutual
def Yr(l:Nat):AV->Bool
 |.ptr a _=>Nat.beq a l
 |.arr a=>Nat.beq a l
 |.ap a _ _=>Nat.beq a l
 |.sa a _=>Nat.beq a l
 |.ag r=>G6 l r
 |.tup r=>G6 l r
 |.fn _ r=>G6 l r
 |.gd _ _ v=>Yr l v
 |_=>false
def G6(l:Nat):List AV->Bool
 |[]=>false
 |a::r=>Yr l a||G6 l r
end
def P5(l:Nat):List (Nat×oP Ob)->Bool
 |[]=>false
 |(_,some (.box cells))::r=>G6 l cells||P5 l r
 |_::r=>P5 l r
def BK(bs:List Nat)(dl:Dl):Bool:=bs.all λl=>!Yr l dl.v&&!P5 l dl.wr
def Q66:D->Bool
 |.sl ..=>false
 |_=>true
def A7(rows:List (List D)):Bool:=rows.all λr=>r.all Q66
def L8(l:List (List (List D))):oP Unit:=bif l.all A7 then some ()else none
def Q3C:List (Nat×oP Ob)->List (List (List D))
 |[]=>[]
 |(_,some (.arr _ _ rows))::r=>rows::Q3C r
 |_::r=>Q3C r
def Qjc(tt:TT)(e:Nat):Bool:=
 match look tt e with
 |some ti=>Nat.beq ti.zd.length ti.size&&ti.zd.all Q66
 |none=>false
def EC(tt:TT):List (Nat×oP Ob)->Bool
 |[]=>true
 |(_,some (.arr e _ _))::r=>Qjc tt e&&EC tt r
 |(_,some (.box cells))::r=>NB cells&&EC tt r
 |(_,some (.mp ..))::_=>false
 |(_,none)::r=>EC tt r
def Vp:List (Nat×oP Ob)->Bool
 |[]=>true
 |(_,some (.arr _ _ rows))::r=>A7 rows&&Vp r
 |(_,some (.box cells))::r=>NB cells&&Vp r
 |(_,some (.mp ..))::_=>false
 |(_,none)::r=>Vp r
def QjD(spec:Q5T)(f:Nat):Bool:=(spec Unit f 0 false [.gd 0 true .nil] (λ_=>none) λ_=>some ()).isSome
def QaA:AV->Bool
 |.ag l=>l.all Q0U
 |a=>Q0U a
def Qcs(spec:Q5T)(tt:TT)(aa:Nat)(g u:Bool)(hl:Nat->oP Ob)(f:Nat)(args:List AV)(k:Dl->oP R):oP R:=
 bif QjD spec f then(bif args.all QaA then spec R f aa g args hl k else none)else
 match RZ hl args with
 |some (ac,bs)=>
  spec R f aa g ac hl λdl=>
   bif !HY bs (wrL dl)&&(!HY bs dl.rd&&BK bs dl)then
    bif bs.isEmpty||(Rm dl.v&&By dl.wr)then k ⟨dl.v,dl.wr,bs++dl.rd⟩
    else bif Rm dl.v&&EC tt dl.wr then gb g (L8 (Q3C dl.wr)) () λ_=>k ⟨dl.v,dl.wr,bs++dl.rd⟩
    else bif u then k ⟨dl.v,bs.map (λl=>(l,none))++dl.wr,bs++dl.rd⟩else none
   else none
 |none=>none
def vUn(op:UnOp)(x:AV):oP AV:=
 match op,x with
 |.not,.d (.bool b)=>some (.d (.bool !b))
 |.neg,.d (.int k n)=>some (.d (.int k (k.wrap (0-n))))
 |.xor,.d (.int k n)=>some (.d (.int k (QfY k n)))
 |_,_=>none
def cv1(hl:Nat->oP Ob)(av:AV):AV:=
 match N3 hl av with
 |some (a,_)=>a
 |none=>.top
def cvP(hl:Nat->oP Ob):List (Nat×AV)->List (Nat×AV)
 |[]=>[]
 |(i,a)::r=>(i,cv1 hl a)::cvP hl r
def bsP(hl:Nat->oP Ob):List (Nat×AV)->List Nat
 |[]=>[]
 |(_,a)::r=>match N3 hl a with
  |some (_,b)=>b++bsP hl r
  |none=>bsP hl r
def QiP(hl:Nat->oP Ob)(bs:List Nat):Nat->oP Ob:=λk=>bif PL k bs then none else hl k
def Q5w(tt:TT)(hl:Nat->oP Ob)(ac:Nat)(u:Bool)(t len:Nat)(aa:List (Nat×AV))(k:Dl->oP R):oP R:=
 match bsP hl aa with
 |[]=>KI tt hl ac u t len aa k
 |b::bs=>bif u then
   KI tt (QiP hl (b::bs)) ac true t len (cvP hl aa) λdl=>
    bif !HY (b::bs) (wrL dl)&&!HY (b::bs) dl.rd then k ⟨dl.v,(b::bs).map (λl=>(l,none))++dl.wr,(b::bs)++dl.rd⟩else none
  else none
def vdl(spec:Q5T)(tt:TT)(aa:Nat)(g u:Bool)(ev:Operand->AV)(hl:Nat->oP Ob)(op:Op)(k:Dl->oP R):oP R:=
 match op with
 |.move x=>k ⟨ev x,[],[]⟩
 |.assign x=>k ⟨ev x,[],[]⟩
 |.pick c x y=>
  match c with
  |.tmp s=>match ev (.tmp s)with
   |.d (.bool e)=>match unw [(s,true)] (ev x),unw [(s,false)] (ev y)with
    |.d (.bool a),.d (.bool b)=>k ⟨.d (.bool (bif e then a else b)),[],[]⟩
    |_,_=>none
   |_=>none
  |_=>none
 |.alloc t=>match look tt t with
  |some ti=>bif u then match ti.kd with
    |.array _ esz n=>bif Nat.beq ti.zd.length (n*esz)then EQ hl aa (.arr t esz (Nr n esz ti.zd)) (.ap aa 0 0) [] [] k else none
    |_=>EQ hl aa (.box (Q1v aa t ti)) (.ptr aa 0) [] [] k
   else none
  |none=>none
 |.box t x=>match look tt t with
  |some ti=>bif u&&(Nat.beq (Y0 (ev x)).length ti.size&&(Y0 (ev x)).all Q3i)then EQ hl aa (.box (Y0 (ev x))) (.ptr aa 0) [] [] k else none
  |none=>none
 |.build t ai=>match look tt t with
  |some ti=>bif UV ti.kd then match Q11 ti.fields tt (Dn ti) (Vj ev ai.toList)with
    |some cs=>k ⟨.ag cs,[],[]⟩
    |none=>none
   else none
  |none=>none
 |.buildSlice t len ai=>Q5w tt hl aa u t len (Vj ev ai.toList) k
 |.load t a=>Qf6 tt g hl t (ev a) k
 |.store t a v=>bif u then match TY tt t,ev a with
   |.array _ esz n,.ap l 0 0=>Q6z hl esz n l (ev v) k
   |_,_=>QaT tt hl t (ev a) (ev v) k
  else none
 |.nilCheck x=>match ev x with
  |.ptr l o=>k ⟨.ptr l o,[],[]⟩
  |.el r o=>k ⟨.el r o,[],[]⟩
  |.ap l i o=>match hl l with
   |some _=>k ⟨.ap l i o,[],[l]⟩
   |none=>none
  |_=>none
 |.binOp op t x y _=>Qj4 g op (TY tt t) (Qeh tt t) (ev x) (ev y) λv=>k ⟨v,[],[]⟩
 |.unOp op _ x=>match vUn op (ev x)with
  |some v=>k ⟨v,[],[]⟩
  |none=>none
 |.convert s t x=>match TY tt s,TY tt t with
  |.int _,.int kd=>match ev x with
   |.d (.int _ n)=>k ⟨.d (.int kd (kd.wrap n)),[],[]⟩
   |_=>none
  |.sl e 1,.str=>match TY tt e with
   |.int .u8=>match Q0W 1 hl (ev x)with
    |some (rows,rd)=>gb g (Db rows) [] λs=>k ⟨.d (.str s),[],rd⟩
    |none=>none
   |_=>none
  |.str,.str=>match ev x with
   |.d (.str s)=>k ⟨.d (.str s),[],[]⟩
   |_=>none
  |.str,.sl e 1=>match TY tt e with
   |.int .u8=>match ev x with
    |.d (.str s)=>k ⟨.d (.sl 1 (Q8x s)),[],[]⟩
    |_=>none
   |_=>none
  |_,_=>none
 |.makeFunc (.func f) first ac=>match first.toList with
  |[]=>bif Jq (ac.toList.map ev)then k ⟨.fn f (ac.toList.map ev),[],[]⟩else none
  |_=>none
 |.makeSlice t l c=>QdJ tt hl aa u t (ev l) (ev c) k
 |.fieldAddr t x f=>DC tt hl t f (ev x) k
 |.field t x f=>QaS tt g t f (ev x) k
 |.indexAddr t x i=>match TY tt t,ev x with
  |.array _ esz n,.ap l 0 0=>LP g hl esz n l (ev i) k
  |_,_=>Di tt g hl t (ev x) (ev i) k
 |.index t x i=>Qba tt g t (ev x) (ev i) k
 |.slice t x lo hi none=>match ev x with
  |.arr l=>Qj6 tt hl aa u t l (M3 ev lo) (M3 ev hi) k
  |_=>Q9i tt g t (ev x) (M3 ev lo) (M3 ev hi) k
 |.makeMap t none=>match TY tt t with
  |.mpb=>bif u then EQ hl aa (.mp t λ_=>false) (.arr aa) [] [] k else none
  |_=>none
 |.mapUpdate t m x v=>match TY tt t,ev m,ev x,ev v with
  |.mpb,.arr l,.d (.int .i64 n),.d (.bool b)=>match hl l with
   |some (.mp t' f)=>bif u then k ⟨.top,[(l,some (.mp t' (Q7N f n b)))],[l]⟩else none
   |_=>none
  |_,_,_,_=>none
 |.slice t x lo hi (some mx)=>Q5i tt g t (ev x) (M3 ev lo) (M3 ev hi) (M3 ev (some mx)) k
 |.lookup t m x false=>match TY tt t,ev m,ev x with
  |.mapI,.mpd f,.d (.int .i64 n)=>k ⟨.d (.sl 1 (f n)),[],[]⟩
  |.mpb,.arr l,.d (.int .i64 n)=>match hl l with
   |some (.mp _ f)=>k ⟨.d (.bool (f n)),[],[l]⟩
   |_=>none
  |_,_,_=>none
 |.extract x i=>match ev x with
  |.tup l=>match l[i]? with
   |some v=>k ⟨v,[],[]⟩
   |none=>none
  |_=>none
 |.call c=>match c.callee with
  |.value (.func f)=>Qcs spec tt aa g u hl f (c.args.toList.map ev) k
  |.value (.tmp t)=>match ev (.tmp t)with
   |.fn f cap=>Qcs spec tt aa g u hl f (c.args.toList.map ev++cap) k
   |_=>none
  |.builtin .len=>match c.args.toList,c.argTypes.toList with
   |[x],[t]=>match QiR tt hl t (ev x)with
    |some (n,rd)=>k ⟨.d (.int .i64 n),[],rd⟩
    |none=>none
   |_,_=>none
  |.builtin .cap=>match c.args.toList,c.argTypes.toList with
   |[x],[t]=>match TY tt t,ev x with
    |.sl _ _,.nil=>k ⟨.d (.int .i64 0),[],[]⟩
    |_,_=>none
   |_,_=>none
  |.builtin .append=>match c.args.toList,c.argTypes.toList with
   |[s,x],[t,t']=>bif Nat.beq t t' then Q6g tt aa g hl t (ev s) (ev x) k else Q2h tt hl aa g t t' (ev s) (ev x) k
   |_,_=>none
  |.builtin .min=>match c.args.toList with
   |x::r=>match Bp true (ev x) (r.map ev)with
    |some v=>k ⟨v,[],[]⟩
    |none=>none
   |_=>none
  |.builtin .max=>match c.args.toList with
   |x::r=>match Bp false (ev x) (r.map ev)with
    |some v=>k ⟨v,[],[]⟩
    |none=>none
   |_=>none
  |_=>none
 |_=>none
def AB(l:Nat):List (Nat×AV)->Bool
 |[]=>false
 |(_,a)::r=>Yr l a||AB l r
def Jl(l:Nat):List (Nat×Ob)->Bool
 |[]=>false
 |(_,.box cells)::r=>G6 l cells||Jl l r
 |(_,.arr ..)::r=>Jl l r
 |(_,.mp ..)::r=>Jl l r
def Uu(st:St)(l:Nat):Bool:=Nat.ble l 999999&&(!AB l st.tm&&!Jl l st.h)
def Wo(st:St):List (Nat×oP Ob)->Bool
 |[]=>true
 |(l,o)::r=>(match o,look st.h l with
  |some _,none=>Uu st l
  |_,_=>true)&&Wo st r
mutual
def gds(t:Nat):AV->Bool
 |.gd t' _ av=>Nat.beq t' t||gds t av
 |.ag l=>Q05 t l
 |.tup l=>Q05 t l
 |.fn _ l=>Q05 t l
 |_=>false
def Q05(t:Nat):List AV->Bool
 |[]=>false
 |a::r=>gds t a||Q05 t r
end
def QaL(d:Nat):List (Nat×AV)->Bool
 |[]=>false
 |(_,a)::r=>gds d a||QaL d r
structure Rec where
 rt:List Nat
 dst:oP Nat
 dl:Dl
def PX:List Operand->List Nat
 |[]=>[]
 |.tmp t::r=>t::PX r
 |_::r=>PX r
def put(st:St)(dst:oP Nat)(dl:Dl):St:=
 { n:=st.n,tm:=match dst with | some d=>(d,dl.v)::st.tm | none=>st.tm,h:=MA st.h dl.wr }
def Q3A(st:St)(v:AV):oP Nat->Bool
 |some d=>Nat.ble (d+1) st.n&&(!gds d v&&!QaL d st.tm)
 |none=>true
def QdA(st:St)(o:Oper)(ch:List Nat)(dl:Dl)(k:St->Rec->oP R):oP R:=
 bif Q3A st dl.v o.dst&&Wo st dl.wr then k (put st o.dst dl) ⟨PX o.op.operands.toList++ch,o.dst,dl⟩else none
def jD(g:Bool):D->D->oP D
 |.int k x,.int k' y=>bif k == k' then some (.int k (bif g then x else y))else none
 |.bool x,.bool y=>some (.bool (bif g then x else y))
 |.str x,.str y=>some (.str (bif g then x else y))
 |.sl s x,.sl s' y=>bif Nat.beq s s' then some (.sl s (bif g then x else y))else none
 |_,_=>none
def jA(g:Bool):AV->AV->oP AV
 |.d x,.d y=>match jD g x y with
  |some z=>some (.d z)
  |none=>none
 |.nil,.nil=>some .nil
 |.ptr l o,.ptr l' o'=>bif Nat.beq l l'&&Nat.beq o o' then some (.ptr l o)else none
 |_,_=>none
def jL(g:Bool):List AV->List AV->oP (List AV)
 |[],[]=>some []
 |a::r,b::s=>match jA g a b with
  |some c=>match jL g r s with
   |some t=>some (c::t)
   |none=>none
  |none=>none
 |_,_=>none
def jW(g:Bool)(hl:Nat->oP Ob):List (Nat×oP Ob)->oP (List (Nat×oP Ob))
 |[]=>some []
 |(l,some (.box new))::r=>match hl l with
  |some (.box old)=>match jL g new old with
   |some c=>match jW g hl r with
    |some t=>some ((l,some (.box c))::t)
    |none=>none
   |none=>none
  |_=>none
 |(l,some (.arr e s rows))::r=>match hl l with
  |none=>match jW g hl r with
   |some t=>some ((l,some (.arr e s (bif g then rows else[])))::t)
   |none=>none
  |some _=>none
 |(_,some (.mp ..))::_=>none
 |(l,none)::r=>match jW g hl r with
  |some t=>some ((l,none)::t)
  |none=>none
def QeD(spec:Q5T)(tt:TT)(ops:Array Oper)(o:Oper)(st:St)(k:St->Rec->oP R):oP R:=
 match o.guard with
 |none=>vdl spec tt (o.dst.getD 0) true true (evO st.tm) (look st.h) o.op λdl=>QdA st o [] dl k
 |some (j,w)=>match (ops[j]?).bind (·.dst)with
  |some s=>match ctx st.tm 40 s w with
   |some (g,ch)=>vdl spec tt (o.dst.getD 0) g false (λx=>unw ch (evO st.tm x)) (look st.h) o.op λdl=>
     match jW g (look st.h) dl.wr with
     |some wr=>QdA st o (ch.map (·.1)) ⟨.gd s w dl.v,wr,dl.rd⟩ k
     |none=>none
   |none=>none
  |none=>none
def QhS(spec:Q5T)(tt:TT)(ops:Array Oper):List Oper->St->List Rec->(St->List Rec->oP R)->oP R
 |[],st,acc,k=>k st acc
 |o::r,st,acc,k=>QeD spec tt ops o st λst' rec=>QhS spec tt ops r st' (acc++[rec]) k
def Q48(s:Nat)(b:Bool):List (Nat×AV)->List (Nat×AV)
 |[]=>[]
 |(t,a)::r=>bif Nat.beq t s then(t,.d (.bool b))::r else(t,a)::Q48 s b r
def Q7D(spec:Q5T)(tt:TT)(o:Oper)(s:Nat)(w b:Bool)(st:St)(k:St->Rec->oP R):oP R:=
 bif (bif b then w else !w)then vdl spec tt (o.dst.getD 0) true true (evO st.tm) (look st.h) o.op λdl=>QdA st o [s] dl k
 else QdA st o [s] ⟨.gd s w (.d (.bool false)),[],[]⟩ k
def Q1y(spec:Q5T)(tt:TT)(ops:Array Oper):List Oper->St->List Rec->(St->List Rec->oP R)->oP R
 |[],st,acc,k=>k st acc
 |o::r,st,acc,k=>match o.guard with
  |none=>vdl spec tt (o.dst.getD 0) true true (evO st.tm) (look st.h) o.op λdl=>QdA st o [] dl λst' rec=>Q1y spec tt ops r st' (acc++[rec]) k
  |some (j,w)=>match (ops[j]?).bind (·.dst)with
   |some s=>match lkT st.tm s with
    |.d (.bool c)=>
     bif c then Q7D spec tt o s w true { n:=st.n,tm:=Q48 s true st.tm,h:=st.h } λst' rec=>Q1y spec tt ops r st' (acc++[rec]) k
     else Q7D spec tt o s w false { n:=st.n,tm:=Q48 s false st.tm,h:=st.h } λst' rec=>Q1y spec tt ops r st' (acc++[rec]) k
    |_=>none
   |none=>none
def Q4J(acc:List Nat):List Edge->Nat->Nat
 |[],s=>s
 |e::r,s=>Q4J acc r (bif Region.binds .any e then(s ||| (2 ^ e.on)) ||| acc.getD e.on 0 else s)
def Q2Y:List Oper->List Nat->List Nat
 |[],acc=>acc
 |o::r,acc=>Q2Y r (acc++[Q4J acc o.after.toList 0])
def Q24:List Edge->Nat->Bool
 |[],_=>true
 |e::r,i=>(!Region.binds .any e||Nat.ble (e.on+1) i)&&Q24 r i
def Kr:List Oper->Nat->Bool
 |[],_=>true
 |o::r,i=>Q24 o.after.toList i&&Kr r (i+1)
def inO(d:oP Nat)(l:List Nat):Bool:=
 match d with
 |some x=>PL x l
 |none=>false
def WX(a b:Rec):Bool:=
 inO a.dst b.rt||inO b.dst a.rt||(match a.dst,b.dst with | some x,some y=>Nat.beq x y | _,_=>false) ||
 HY (wrL a.dl) (wrL b.dl)||HY (wrL a.dl) b.dl.rd||HY (wrL b.dl) a.dl.rd
def TE(ac:St)(aa:List Nat):List (Nat×oP Ob)->List Nat
 |[]=>[]
 |(l,o)::r=>match o,look ac.h l with
  |some _,none=>bif PL l aa then TE ac aa r else l::TE ac aa r
  |_,_=>TE ac aa r
def C4(l:Nat)(b:Rec):Bool:=Yr l b.dl.v||P5 l b.dl.wr
def Qga(d:oP Nat)(v:AV):Bool:=
 match d with
 |some x=>gds x v
 |none=>false
def Bn(i:Nat)(a:Rec)(news:List Nat):List Rec->List Nat->Bool
 |[],_=>true
 |b::r,m::ms=>(!(WX a b||(news.any λl=>C4 l b)||Qga a.dst b.dl.v)||m.testBit i)&&Bn i a news r ms
 |_::_,[]=>false
def F3(ac:St):Nat->List Rec->List Nat->List Rec->List Nat->Bool
 |_,_,_,[],_=>true
 |i,ai,aa,a::r,_::ms=>
  Bn i a (TE ac aa a.dl.wr) r ms&&((TE ac aa a.dl.wr).all λl=>Uu ac l&&ai.all λb=>!C4 l b) &&
   F3 ac (i+1) (ai++[a]) (aa++TE ac aa a.dl.wr) r ms
 |_,_,_,_::_,[]=>false
def WO(l:Nat):List (Nat×oP Ob)->Bool
 |[]=>false
 |(k,o)::r=>(o.isSome&&Nat.beq k l)||WO l r
def Qdq(recs:List Rec):List (Nat×oP Ob)->Bool
 |[]=>true
 |(l,none)::r=>(recs.all λb=>!WO l b.dl.wr)&&Qdq recs r
 |_::r=>Qdq recs r
def rmL:List Rec->Bool
 |[]=>true
 |a::r=>Qdq (a::r) a.dl.wr&&rmL r
def Q3v(aa:St)(ops:List Oper)(recs:List Rec):Bool:=
 Kr ops 0&&F3 aa 0 [] [] recs (Q2Y ops [])&&rmL recs
structure Cfg where
 keep:List Nat
 locs:List (Nat×Nat)
 mkT:List (Nat×Nat×Nat×Nat)
 mkH:List (Nat×Nat×Nat×Nat×Nat)
 fz:List Nat
mutual
def fzA(l s:Nat)(rows:List (List D)):AV->AV
 |.arr k=>bif Nat.beq k l then .d (.sl s rows)else .arr k
 |.ap k i o=>bif Nat.beq k l then .top else .ap k i o
 |.ag r=>.ag (fzL l s rows r)
 |.tup r=>.tup (fzL l s rows r)
 |.fn f r=>.fn f (fzL l s rows r)
 |.gd ..=>.top
 |av=>av
def fzL(l s:Nat)(rows:List (List D)):List AV->List AV
 |[]=>[]
 |a::r=>fzA l s rows a::fzL l s rows r
end
def fzO(l s:Nat)(rows:List (List D)):Ob->Ob
 |.box cells=>.box (fzL l s rows cells)
 |o=>o
def fzT(l s:Nat)(rows:List (List D)):List (Nat×AV)->List (Nat×AV)
 |[]=>[]
 |(t,a)::r=>(t,fzA l s rows a)::fzT l s rows r
def Qdd(l s:Nat)(rows:List (List D)):List (Nat×Ob)->List (Nat×Ob)
 |[]=>[]
 |(k,o)::r=>bif Nat.beq k l then Qdd l s rows r else(k,fzO l s rows o)::Qdd l s rows r
def fz1(st:St)(l:Nat):St:=
 match look st.h l with
 |some (.arr _ s rows)=>{ n:=st.n,tm:=fzT l s rows st.tm,h:=Qdd l s rows st.h }
 |_=>st
def fzs(st:St):List Nat->St
 |[]=>st
 |l::r=>fzs (fz1 st l) r
mutual
def U8(ρ:List (Nat×Nat)):AV->AV
 |.ptr l o=>match look ρ l with | some l'=>.ptr l' o | none=>.top
 |.arr l=>match look ρ l with | some l'=>.arr l' | none=>.top
 |.ap l i o=>match look ρ l with | some l'=>.ap l' i o | none=>.top
 |.sa l t=>match look ρ l with | some l'=>.sa l' t | none=>.top
 |.ag r=>.ag (Q3j ρ r)
 |.tup r=>.tup (Q3j ρ r)
 |.fn f r=>.fn f (Q3j ρ r)
 |.gd ..=>.top
 |av=>av
def Q3j(ρ:List (Nat×Nat)):List AV->List AV
 |[]=>[]
 |a::r=>U8 ρ a::Q3j ρ r
end
def QcE(ρ:List (Nat×Nat)):Ob->Ob
 |.box cells=>.box (Q3j ρ cells)
 |.arr e s rows=>.arr e s rows
 |.mp t f=>.mp t f
def Qas(ρ:List (Nat×Nat))(tm:List (Nat×AV)):List Nat->List (Nat×AV)
 |[]=>[]
 |t::r=>(t,U8 ρ (lkT tm t))::Qas ρ tm r
def D2(ρ:List (Nat×Nat))(h:List (Nat×Ob)):List (Nat×Nat)->List (Nat×Ob)
 |[]=>[]
 |(l,l')::r=>match look h l with
  |some o=>(l',QcE ρ o)::D2 ρ h r
  |none=>D2 ρ h r
def QhV(tm:List (Nat×AV))(t:Nat)(v:AV):List (Nat×AV):=
 match tm with
 |[]=>[]
 |(k,a)::r=>bif Nat.beq k t then(k,v)::r else(k,a)::QhV r t v
def Qfl(st:St):List (Nat×Nat×Nat×Nat)->St
 |[]=>st
 |(t,l,e,s)::r=>match lkT st.tm t with
  |.nil=>bif Uu st l&&(look st.h l).isNone then Qfl { st with tm:=QhV st.tm t (.arr l),h:=(l,.arr e s [])::st.h } r else Qfl st r
  |_=>Qfl st r
def Qfc(st:St):List (Nat×Nat×Nat×Nat×Nat)->St
 |[]=>st
 |(b,c,l,e,s)::r=>match look st.h b with
  |some (.box cells)=>match cells[c]? with
   |some .nil=>bif Uu st l&&(look st.h l).isNone then Qfc { st with h:=(l,.arr e s [])::(b,.box (cells.set c (.arr l)))::rem b st.h } r else Qfc st r
   |_=>Qfc st r
  |_=>Qfc st r
def Xm:List Nat->Bool
 |[]=>true
 |a::r=>!PL a r&&Xm r
def Qex(c:Cfg)(st:St):St:=
 bif Xm (c.locs.map (·.1))&&(Xm (c.locs.map (·.2))&&c.locs.all λp=>Nat.beq p.1 p.2||Nat.ble p.2 999999)then Qfc (Qfl { n:=st.n,tm:=Qas c.locs st.tm c.keep,h:=D2 c.locs st.h c.locs } c.mkT) c.mkH
 else st
def inH(h:List (Nat×Ob)):List (Nat×Nat)->List (Nat×Nat)
 |[]=>[]
 |p::r=>match look h p.1 with
  |some _=>p::inH h r
  |none=>inH h r
def Qji(c:Cfg)(st:St):St:=Qex ⟨c.keep,inH st.h c.locs,c.mkT,c.mkH,c.fz⟩ st
def Qe6(c:Cfg)(st:St):St:=Qji c (fzs st c.fz)
def Qcz(c:Cfg)(st:St):St:=
 match c.keep with
 |[]=>Qe6 ⟨st.tm.map (·.1),st.h.map λp=>(p.1,p.1),c.mkT,c.mkH,c.fz⟩ st
 |_::_=>Qe6 c st
structure VC where
 spec:Q5T
 tt:TT
 cfg:List (Nat×Cfg)
def Q1A(C:VC)(id:Nat)(ops:Array Oper)(aa:Bool)(st:St)(k:St->oP R):oP R:=
 (bif (look C.cfg (id+1000000000)).isSome then Q1y C.spec C.tt ops ops.toList st []else QhS C.spec C.tt ops ops.toList st []) λst' recs=>
  bif !aa||Q3v st ops.toList recs then
   match look C.cfg id with
   |some c=>k (Qcz c st')
   |none=>k st'
  else none
def Q97(aa:St->(Exit->St->oP R)->oP R):Nat->St->(Exit->St->oP R)->oP R
 |0,_,_=>none
 |n+1,st,k=>aa st λe st'=>match e with
  |.normal=>Q97 aa n st' k
  |.exit id=>k (.exit id) st'
  |.ret=>k .ret st'
  |_=>none
def Q9l:Code->Nat
 |.region id _ _=>id
 |.seq a _=>Q9l a
 |.block _ c=>Q9l c
 |.loop c=>Q9l c
 |.cond _ a _=>Q9l a
 |_=>0
def QgY(C:VC)(n:Nat)(c:Code):Nat:=
 match look C.cfg (2000000000+Q9l c)with
 |some ⟨[m],_,_,_,_⟩=>m
 |_=>n
def Q15(C:VC)(aa:Nat)(st:St):St:=
 match look C.cfg aa with
 |some q=>Qe6 q st
 |none=>st
def Gc(C:VC)(n:Nat):Code->St->(Exit->St->oP R)->oP R
 |.skip,st,k=>k .normal st
 |.region id ops aa,st,k=>Q1A C id ops aa st (k .normal)
 |.seq a b,st,k=>Gc C n a st λe st'=>match e with
  |.normal=>Gc C n b st' k
  |.exit id=>k (.exit id) st'
  |.ret=>k .ret st'
  |_=>none
 |.cond c a b,st,k=>match evO st.tm c with
  |.d (.bool e)=>bif e then Gc C n a st k else Gc C n b st k
  |_=>none
 |.block id c,st,k=>Gc C n c st λe st'=>match e with
  |.normal=>k .normal st'
  |.exit j=>bif Nat.beq j id then k .normal st' else k (.exit j) st'
  |.ret=>k .ret st'
  |_=>none
 |.loop c,st,k=>Q97 (λst k=>Gc C n c (Q15 C (3000000000+Q9l c) st) k) (QgY C n c) st k
 |.exit id,st,k=>k (.exit id) st
 |.ret,st,k=>k .ret st
 |_,_,_=>none
def lB(C:VC)(n:Nat)(c:Code)(st:St)(k:Exit->St->oP R):oP R:=Gc C n c (Q15 C (3000000000+Q9l c) st) k
mutual
def NU:AV->Bool
 |.gd ..=>false
 |.ag l=>Kf l
 |.tup l=>Kf l
 |.fn _ l=>Kf l
 |_=>true
def Kf:List AV->Bool
 |[]=>true
 |a::r=>NU a&&Kf r
end
def Q4B(tt:TT)(st:St):ResultVar->oP AV
 |.tmp t=>some (lkT st.tm t)
 |.cell a ty=>match lkT st.tm a with
  |.ptr l off=>match look st.h l,look tt ty with
   |some (.box cells),some ti=>
    bif UV ti.kd then
     match BG cells off ti.size with
     |some cs=>some (.ag cs)
     |none=>none
    else match cells[off]? with
     |some c=>bif Q0U c then some c else none
     |none=>none
   |_,_=>none
  |_=>none
def Q1t(tt:TT)(st:St):List ResultVar->oP (List AV)
 |[]=>some []
 |r::rs=>match Q4B tt st r with
  |some a=>match Q1t tt st rs with
   |some l=>bif NU a then some (a::l)else none
   |none=>none
  |none=>none
def Q0v(tt:TT)(st:St)(rs:List ResultVar):oP AV:=
 match Q1t tt st rs with
 |some [a]=>some a
 |some l=>some (.tup l)
 |none=>none
def Q2m:Nat->List AV->List (Nat×AV)
 |_,[]=>[]
 |i,a::r=>(i,a)::Q2m (i+1) r
def vfn(C:VC)(n:Nat)(fn:Func)(args:List AV)(h:List (Nat×Ob))(k:AV->List (Nat×Ob)->oP R):oP R:=
 match fn.body with
 |some c=>bif Nat.ble args.length fn.ntmps&&Kf args then
   Gc C n c { n:=fn.ntmps,tm:=Q2m 0 args,h:=h } λe st=>match e with
    |.ret=>match Q0v C.tt st fn.results.toList with
     |some v=>k v st.h
     |none=>none
    |.normal=>match Q0v C.tt st fn.results.toList with
     |some v=>k v st.h
     |none=>none
    |_=>none
  else none
 |none=>none
end
inductive Rd(S:Nat->Prop)(w:World):Value->D->Prop
 |int (k:IntKind) (n:Int):Rd S w (.int k n) (.int k n)
 |bool (b:Bool):Rd S w (.bool b) (.bool b)
 |str (s:ByteArray):Rd S w (.string s) (.str s.data.toList)
 |sl0 (a:oP Addr) (cap size:Nat):Rd S w (.slice a 0 cap) (.sl size [])
 |nl:Rd S w (.slice none 0 0) .nl
 |sl (ad:Addr) (cap size:Nat) (rows:List (List D)) (c:Nat->Nat->Value)
   (hS:S ad.block) (hcap:rows.length<=cap) (hsz:∀(i:Nat) (r:List D),rows[i]? = some r->r.length=size)
   (hc:∀(i j:Nat) (r:List D) (x:D),rows[i]? = some r->r[j]? = some x->w.cell? (ad.add (i*size+j))=some (c i j))
   (hr:∀(i j:Nat) (r:List D) (x:D),rows[i]? = some r->r[j]? = some x->Rd S w (c i j) x) :
   Rd S w (.slice (some ad) rows.length cap) (.sl size rows)
theorem Jv(a:Addr)(n:Nat):(a.add n).block=a.block:=by unfold Addr.add;split<;>rfl
theorem BA(a:Addr)(i j:Nat):(a.add i).add j=a.add (i+j):=by
 grind[Addr.add,Nat.add_assoc]
theorem Jy(b o n:Nat):(⟨b,o,none⟩:Addr).add n=⟨b,o+n,none⟩:=by
 grind[Addr.add]
theorem Gw{w w':World}{a:Addr}(h:w'.heap[a.block]? = w.heap[a.block]?):w'.cell? a=w.cell? a:=by simp[World.cell?,h]
theorem Rd.mono{S S':Nat->Prop}{w w':World}{v:Value}{x:D}(hS:∀b,S b->S' b)(hw:∀b,S b->w'.heap[b]? = w.heap[b]?)(h:Rd S w v x):Rd S' w' v x:=by
 induction h with
 |int k n=>exact .int k n
 |bool b=>exact .bool b
 |str s=>exact .str s
 |sl0 a cap size=>exact .sl0 a cap size
 |nl=>exact .nl
 |sl ad cap size rows c hs aa ac hc _ ih=>
  exact .sl ad cap size rows c (hS _ hs) aa ac (λi j r x h1 h2=>by
   grind[Gw,Jv]) ih
def D.flat:D->Bool
 |.sl _ []=>true
 |.sl _ (_::_)=>false
 |_=>true
theorem Rd.of_flat{S S':Nat->Prop}{w w':World}{v:Value}{x:D}(hf:x.flat=true)(h:Rd S w v x):Rd S' w' v x:=by
 cases h with
 |int k n=>exact .int k n
 |bool b=>exact .bool b
 |str s=>exact .str s
 |sl0 a cap size=>exact .sl0 a cap size
 |nl=>exact .nl
 |sl ad cap size rows c hs aa ac hc hr=>
  cases rows with
  |nil=>exact .sl0 _ _ _
  |cons r rs=>trivial
def HS:List MapEntry->Int->oP Value
 |[],_=>none
 |e::r,n=>match e.key with
  |.int .i64 m=>if m=n then some e.val else HS r n
  |_=>HS r n
def QaU(S:Nat->Prop)(w:World)(v:Value)(f:Int->List (List D)):Prop:=
 ∃b es aa,v = .map (some b)/\S b/\w.heap[b]? = some (.map es aa)/\(∀e∈es.toList,∃n,e.key = .int .i64 n)/\(∀n,HS es.toList n=none->f n=[])/\∀n v',HS es.toList n=some v'->Rd S w v' (.sl 1 (f n))
theorem QaU.mono{S S':Nat->Prop}{w w':World}{v:Value}{f:Int->List (List D)}(hS:∀b,S b->S' b)(hw:∀b,S b->w'.heap[b]? = w.heap[b]?)(h:QaU S w v f):QaU S' w' v f:=by
 obtain⟨b,es,aa,h1,h2,h3,h4,h5,h6⟩:=h;exact⟨b,es,aa,h1,hS b h2,(hw b h2).trans h3,h4,h5,λn v' hl=>(h6 n v' hl).mono hS hw⟩
def MpR(w:World)(b:Nat)(f:Int->Bool):Prop:=
 ∃es aa,w.heap[b]? = some (.map es aa)/\(∀e∈es.toList,∃n,e.key = .int .i64 n)/\(∀n,HS es.toList n=none->f n=false)/\∀n v,HS es.toList n=some v->v = .bool (f n)
theorem MpR.same{w w':World}{b:Nat}{f:Int->Bool}(h:MpR w b f)(hb:w'.heap[b]? = w.heap[b]?):MpR w' b f:=by
 obtain⟨es,aa,h1,h2⟩:=h;exact⟨es,aa,hb.trans h1,h2⟩
def TZ:AV->oP Nat
 |.arr l=>some l
 |.ap l _ _=>some l
 |_=>none
inductive RdA(β:Nat->oP Nat)(S:Nat->Prop)(h:Nat->oP Ob)(w:World)(tm:Nat->Value):Value->AV->Prop
 |top (v:Value):RdA β S h w tm v .top
 |d (v:Value) (x:D) (hx:Rd S w v x):RdA β S h w tm v (.d x)
 |nil:RdA β S h w tm (.slice none 0 0) .nil
 |ag (cs:Array Value) (l:List AV) (hl:cs.size=l.length) (hr:∀(i:Nat) (x:AV),l[i]? = some x->RdA β S h w tm (cs.getD i undef) x):RdA β S h w tm (.agg cs) (.ag l)
 |tup (cs:Array Value) (l:List AV) (hl:cs.size=l.length) (hr:∀(i:Nat) (x:AV),l[i]? = some x->RdA β S h w tm (cs.getD i undef) x):RdA β S h w tm (.tuple cs) (.tup l)
 |fn (f:Nat) (cs:Array Value) (l:List AV) (hl:cs.size=l.length) (hr:∀(i:Nat) (x:AV),l[i]? = some x->RdA β S h w tm (cs.getD i undef) x):RdA β S h w tm (.func (.func f) #[] cs) (.fn f l)
 |fs (ad:oP Addr) (s:Nat) (rows:List (List D)) (hx:Rd S w (.slice ad rows.length rows.length) (.sl s rows)):RdA β S h w tm (.slice ad rows.length rows.length) (.fs s rows)
 |mpd (v:Value) (f:Int->List (List D)) (hm:QaU S w v f):RdA β S h w tm v (.mpd f)
 |ex (v:Value):RdA β S h w tm v (.ex v)
 |ptr (l off b:Nat) (hb:β l=some b):RdA β S h w tm (.pointer (some ⟨b,off,none⟩)) (.ptr l off)
 |sa (v:Value) (l t b:Nat) (hb:β l=some b) (hv:v = .pointer none\/v = .pointer (some ⟨b,0,none⟩)):RdA β S h w tm v (.sa l t)
 |el (ad:Addr) (row:List D) (off:Nat) (c:Nat->Value) (hs:S ad.block)
   (hc:∀(j:Nat) (x:D),row[off+j]? = some x->w.cell? (ad.add j)=some (c j)) (hr:∀(j:Nat) (x:D),row[off+j]? = some x->Rd S w (c j) x) :
   RdA β S h w tm (.pointer (some ad)) (.el row off)
 |arr0 (l e s:Nat) (hb:β l=none) (hh:h l=some (.arr e s [])):RdA β S h w tm (.slice none 0 0) (.arr l)
 |arr (l b cap e s:Nat) (rows:List (List D)) (cs:Array Value) (ty:TypeId) (fz:Nat×Nat) (hb:β l=some b) (hh:h l=some (.arr e s rows))
   (hw:w.heap[b]? = some (.cells cs ty fz)) (hcs:cs.size=cap*s) (hcap:rows.length<=cap) (hmax:cap<=maxLen) :
   RdA β S h w tm (.slice (some ⟨b,0,none⟩) rows.length cap) (.arr l)
 |mp (l b t:Nat) (f:Int->Bool) (hb:β l=some b) (hh:h l=some (.mp t f)):RdA β S h w tm (.map (some b)) (.arr l)
 |ap (l i off b e s:Nat) (rows:List (List D)) (hb:β l=some b) (hh:h l=some (.arr e s rows)) :
   RdA β S h w tm (.pointer (some ⟨b,i*s+off,none⟩)) (.ap l i off)
 |dang (v:Value) (av:AV) (l:Nat) (hl:TZ av=some l) (hh:h l=none) (h1:v.oneCell'=true):RdA β S h w tm v av
 |gdT (v:Value) (t:Nat) (w':Bool) (av:AV) (ht:tm t = .bool w') (hv:RdA β S h w tm v av):RdA β S h w tm v (.gd t w' av)
 |gdF (t:Nat) (w':Bool) (av:AV) (ht:tm t≠.bool w'):RdA β S h w tm undef (.gd t w' av)
structure Keep(β:Nat->oP Nat)(h:Nat->oP Ob)(w:World)(β':Nat->oP Nat)(h':Nat->oP Ob)(w':World)(l:Nat):Prop where
 b:β' l=β l
 none_:h l=none->h' l=none
 arr:∀e s rows,h l=some (.arr e s rows)->h' l=none\/∃rows',h' l=some (.arr e s rows')/\rows'.length=rows.length
 cells:∀b cs ty fz,(h' l).isSome=true->β l=some b->w.heap[b]? = some (.cells cs ty fz)->∃cs' ty' fz',w'.heap[b]? = some (.cells cs' ty' fz')/\cs'.size=cs.size
 mp:∀t f,h l=some (.mp t f)->h' l=none\/∃f',h' l=some (.mp t f')
theorem Sr{l i:Nat}{r:List AV}{x:AV}(h:r[i]? = some x)(hn:Yr l x=true):G6 l r=true:=by
 induction r generalizing i with
 |nil=>simp at h
 |cons a r ih=>
  grind[G6]
theorem Q5t{t i:Nat}{r:List AV}{x:AV}(h:r[i]? = some x)(hn:gds t x=true):Q05 t r=true:=by
 induction r generalizing i with
 |nil=>simp at h
 |cons a r ih=>
  grind[Q05]
theorem RdA.mono{β β':Nat->oP Nat}{S S':Nat->Prop}{h h':Nat->oP Ob}{w w':World}{tm tm':Nat->Value}{v:Value}{av:AV}(hr:RdA β S h w tm v av)(hS:∀b,S b->S' b)(hw:∀b,S b->w'.heap[b]? = w.heap[b]?)(hk:∀l,Yr l av=true->Keep β h w β' h' w' l)(ht:∀t,gds t av=true->tm' t=tm t):RdA β' S' h' w' tm' v av:=by
 induction hr with
 |top v=>exact .top v
 |d v x hx=>exact .d v x (hx.mono hS hw)
 |nil=>exact .nil
 |ag cs l hl _ ih=>
  exact .ag cs l hl λi x hx=>ih i x hx (λk hn=>hk k (by grind[Yr,Sr])) (λt hn=>ht t (by grind[gds,Q5t]))
 |tup cs l hl _ ih=>
  exact .tup cs l hl λi x hx=>ih i x hx (λk hn=>hk k (by simp[Yr,Sr hx hn])) (λt hn=>ht t (by simp[gds,Q5t hx hn]))
 |fn f cs l hl _ ih=>
  exact .fn f cs l hl λi x hx=>ih i x hx (λk hn=>hk k (by simp[Yr,Sr hx hn])) (λt hn=>ht t (by simp[gds,Q5t hx hn]))
 |fs ad s rows hx=>exact .fs ad s rows (hx.mono hS hw)
 |mpd v f hm=>exact .mpd v f (hm.mono hS hw)
 |ex v=>exact .ex v
 |ptr l off b hb=>exact .ptr l off b (by rw[(hk l (by simp[Yr])).b];exact hb)
 |sa v l t b hb hv=>exact .sa v l t b (by rw[(hk l (by simp[Yr])).b];exact hb) hv
 |el ad row off c hs hc hr=>
  exact .el ad row off c (hS _ hs) (λj x hx=>by grind[Gw,Jv]) (λj x hx=>(hr j x hx).mono hS hw)
 |arr0 l e s hb hh=>
  have K:=hk l (by simp[Yr]);rcases K.arr e s [] hh with hn | ⟨aa,ac,ak⟩
  ·exact .dang _ _ l rfl hn rfl
  ·have:aa=[]:=Qpg Q0;subst this;exact .arr0 l e s (by rw[K.b];exact hb) ac
 |arr l b cap e s rows cs ty fz hb hh ay a6 a2 an=>
  have K:=hk l (by simp[Yr]);rcases K.arr e s rows hh with hn | ⟨aa,ac,ak⟩
  ·exact .dang _ _ l rfl hn rfl
  ·obtain⟨ax,aq,az,ar,a4⟩:=K.cells b cs ty fz (by simp[ac]) hb ay;have:=RdA.arr (β:=β') (h:=h') (w:=w') (S:=S') (tm:=tm') l b cap e s aa ax aq az (by rw[K.b];exact hb) ac ar Q0 Q0 an
   simp_all
 |mp l b t f hb hh=>
  have K:=hk l (by simp[Yr]);rcases K.mp t f hh with hn | ⟨f',hf⟩
  ·exact .dang _ _ l rfl hn rfl
  ·exact .mp l b t f' (by rw[K.b];exact hb) hf
 |ap l i off b e s rows hb hh=>
  have K:=hk l (by simp[Yr]);rcases K.arr e s rows hh with hn | ⟨aa,ac,ak⟩
  ·exact .dang _ _ l rfl hn rfl
  ·exact .ap l i off b e s aa (by rw[K.b];exact hb) ac
 |dang v av l hl hh h1=>
  refine .dang v av l hl ((hk l ?_).none_ hh) h1;cases av<;>simp[TZ]at hl<;>simp[Yr,hl]
 |gdT v t b av ao _ ih=>
  refine .gdT v t b av (by simp_all [gds]) (ih (λk hn=>hk k (by assumption)) (λt' hn=>ht t' (by grind[gds])))
 |gdF t b av ao=>exact .gdF t b av (by rw[ht t (by simp[gds])];exact ao)
structure Fr(M:Nat->Prop)(w w':World):Prop where
 os:w'.os=w.os
 tape:w'.tape=w.tape
 output:w'.output=w.output
 size:w.heap.size<=w'.heap.size
 block:∀b,b<w.heap.size->¬ M b->w'.heap[b]? = w.heap[b]?
theorem Fr.refl(M:Nat->Prop)(w:World):Fr M w w:=⟨rfl,rfl,rfl,Qpu _,λ_ _ _=>rfl⟩
theorem Fr.trans{M:Nat->Prop}{a b c:World}(h:Fr M a b)(k:Fr M b c):Fr M a c:=
 ⟨k.os.trans h.os,k.tape.trans h.tape,k.output.trans h.output,Nat.le_trans h.size k.size,λi hi hm=>(k.block i (Qpx hi h.size) hm).trans (h.block i hi hm)⟩
theorem Fr.mono{M M':Nat->Prop}{a b:World}(h:Fr M a b)(hM:∀x,x<a.heap.size->M x->M' x):Fr M' a b:=
 ⟨h.os,h.tape,h.output,h.size,λi hi hm=>h.block i hi (λhx=>hm (hM i hi hx))⟩
theorem Fr.below{w w':World}(h:Fr (λ_=>False) w w'):RowKit.Below w.heap.size w w':=⟨h.os,h.tape,h.output,h.size,λb hb=>h.block b hb (λx=>x)⟩
def Qjg(n:Nat)(fz:Nat×Nat):Prop:=∀o,o<n->¬ (fz.1<=o/\o<fz.2)
def tm0:Nat->Value:=λ_=>undef
def Q5m(ty:TypeId)(cells:List AV):Prop:=∀(i l t:Nat),cells[i]? = some (.sa l t)->ty=t
def ObR(β:Nat->oP Nat)(S:Nat->Prop)(h:Nat->oP Ob)(w:World)(l:Nat):Ob->Prop
 |.box cells=>∃b ty cs fz,β l=some b/\w.heap[b]? = some (.cells cs ty fz)/\(Qjg cs.size fz/\Q5m ty cells)/\cs.size=cells.length /\
   ∀(i:Nat) (x:AV),cells[i]? = some x->RdA β S h w tm0 (cs.getD i undef) x
 |.arr e s rows=>(β l=none/\rows=[])\/∃b cs,β l=some b/\w.heap[b]? = some (.cells cs e (0,0))/\rows.length*s<=cs.size /\
   (∀(i:Nat) (r:List D),rows[i]? = some r->r.length=s)/\∀(i j:Nat) (r:List D) (x:D),rows[i]? = some r->r[j]? = some x->∃v,cs[i*s+j]? = some v/\Rd S w v x
 |.mp _ f=>∃b,β l=some b/\MpR w b f
structure Env where
 w0:World
 M:Nat->Prop
 S0:Nat->Prop
 pin:Nat->oP Nat
def tmv(a:Act)(t:Nat):Value:=a.tmps.getD t undef
structure HRel(E:Env)(β:Nat->oP Nat)(S:Nat->Prop)(h:Nat->oP Ob)(w:World):Prop where
 ob:∀l o,h l=some o->ObR β S h w l o
 inj:∀l l' b,(h l).isSome=true->(h l').isSome=true->β l=some b->β l'=some b->l=l'
 apart:∀l b,(h l).isSome=true->β l=some b->¬ S b
 own:∀l b,(h l).isSome=true->β l=some b->E.M b\/E.w0.heap.size<=b
 sb:∀b,S b->b<w.heap.size
 sfr:∀b,S b->E.S0 b\/E.M b\/E.w0.heap.size<=b
 s0:∀b,E.S0 b->S b
 fr:Fr E.M E.w0 w
 pin:∀l,1000000<=l->β l=E.pin l
 psz:∀l b,1000000<=l->(h l).isSome=true->β l=some b->∀cs ty fz,E.w0.heap[b]? = some (.cells cs ty fz)->∃cs' ty' fz',w.heap[b]? = some (.cells cs' ty' fz')/\cs'.size=cs.size
structure Rel(E:Env)(β:Nat->oP Nat)(S:Nat->Prop)(st:St)(a:Act)(w:World):Prop where
 n:a.tmps.size=st.n
 dfr:a.defers=[]
 tm:∀t av,look st.tm t=some av->RdA β S (look st.h) w (tmv a) (tmv a t) av
 hr:HRel E β S (look st.h) w
def JB(E:Env)(st:St)(a:Act)(w:World):Prop:=∃β S,Rel E β S st a w
theorem Qej{a b:Nat}(h:¬ a=b):Nat.beq a b=false:=by
 grind[Nat.beq,absurd,Nat.eq_of_beq_eq_true]
theorem B6{α:Type}(l k:Nat)(h:List (Nat×α)):look (rem l h) k=if k=l then none else look h k:=by
 induction h with
 |nil=>simp[rem,look]
 |cons x r ih=>
  obtain⟨a,o⟩:=x;simp only[rem,look];by_cases ha:a=l
  ·subst ha;simp only[Nat.beq_refl,Qpb,ih]
   grind[Nat.beq,Qej]
  ·have h1:Nat.beq a l=false:=Qej ha;simp only[h1,cond_false,look,ih]
   grind
theorem Xd{α:Type}(l k:Nat)(o:α)(h:List (Nat×α)):look ((l,o)::h) k=if k=l then some o else look h k:=by
 grind[look,Nat.beq_refl,Nat.beq,Qej]
theorem WW(l k:Nat)(o:Ob)(h:List (Nat×Ob)):look ((l,o)::rem l h) k=if k=l then some o else look h k:=by
 grind[Xd,B6]
end Go.Vx
namespace Go.Vx
variable{ev:Operand->AV}
def CEq(kd:Kd)(u v:Value)(b:Bool):Prop:=
 match kd with
 |.int k=>∃m n,u = .int k m/\v = .int k n/\b=(m == n)
 |.bool=>∃m n,u = .bool m/\v = .bool n/\b=(m == n)
 |.str=>∃m n:ByteArray,u = .string m/\v = .string n/\b=(m.data.toList == n.data.toList)
 |_=>False
def QjV(P:Program)(t:Nat)(ks:List Kd):Prop:=
 ∀(w:World) (xs ys:Array Value) (bs:List Bool),xs.size=ks.length->ys.size=ks.length->bs.length=ks.length ->
  (∀(j:Nat) (kd:Kd) (b:Bool),ks[j]? = some kd->bs[j]? = some b->CEq kd (xs.getD j undef) (ys.getD j undef) b) ->
  (Op.equalIn 10000 t (.agg xs) (.agg ys)).run P w = .ok (bs.all id) w/\P.eqGuardType P.depth t=false
structure TyOk(P:Program)(t:Nat)(ti:TyI):Prop where
 inf:∃i,P.info? t=some i/\i.size=ti.size/\i.bytes=ti.bytes/\∃z,i.zero=some z/\z.cells.toList=ti.zero
 one:UV ti.kd=false->ti.size=1/\∃d,P.underlying t=some d/\(∀fs,d≠.struct fs)/\∀n e,d≠.array n e
 kint:∀k,ti.kd = .int k->P.underlying t=some (.int k)
 kbool:ti.kd = .bool->P.underlying t=some .bool
 kstr:ti.kd = .str->P.underlying t=some .string
 ksl:∀e esz,ti.kd = .sl e esz->P.underlying t=some (.slice e)/\0<esz/\∃i,P.info? e=some i/\i.size=esz
 kstruct:ti.kd = .struct->∃fs,P.underlying t=some (.struct fs)/\fs.toList.map (λf=>(f.offset,f.type))=ti.fields/\∀f∈fs.toList,∃i,P.info? f.type=some i/\i.size≠0
 karr:∀e esz n,ti.kd = .array e esz n->P.underlying t=some (.array n e)/\0<esz/\(∃i,P.info? e=some i/\i.size=esz)/\ti.size=n*esz/\ti.fields=(List.range n).map λi=>(i*esz,e)
 keq:∀ks,ti.eqk=some ks->QjV P t ks
 zlen:ti.zero.length=ti.size
 zd:ti.zd.length=ti.size->∀(j:Nat) (x:D),ti.zd[j]? = some x->∃v,ti.zero[j]? = some v/\∀(S:Nat->Prop) (w:World),Rd S w v x
 kmpb:ti.kd = .mpb->∃K e,P.underlying t=some (.map K e)/\P.underlying K=some (.int .i64)/\∃i,P.info? e=some i/\i.zero=some (.bool false)
 kmap:ti.kd = .mapI->∃K e,P.underlying t=some (.map K e)/\P.underlying K=some (.int .i64)/\∃i,P.info? e=some i/\i.zero=some (.slice none 0 0)
def TOk(P:Program)(tt:TT):Prop:=∀t ti,look tt t=some ti->TyOk P t ti
section
variable{P:Program}
theorem X6{t:TypeId}{d:TypeDesc}(h:P.underlying t=some d)(w:World):(underlying t).run P w = .ok d w:=by
 simp[underlying,h]
theorem Yy{t:TypeId}{i:TypeInfo}(h:P.info? t=some i)(w:World):(typeInfo t).run P w = .ok i w:=by
 simp[typeInfo,h]
theorem TyOk.size{t:Nat}{ti:TyI}(h:TyOk P t ti)(w:World):(sizeOf t).run P w = .ok ti.size w:=by
 obtain⟨i,hi,hs,_⟩:=h.inf
 simp_all [sizeOf,Yy]
theorem TyOk.agg{t:Nat}{ti:TyI}(h:TyOk P t ti)(w:World):(isAgg t).run P w = .ok (UV ti.kd) w:=by
 cases hk:UV ti.kd with
 |true=>
  cases hh:ti.kd with
  |struct=>
   obtain⟨fs,hu,_⟩:=h.kstruct hh;simp[isAgg,X6 hu]
  |array e esz n=>
   have hu:=(h.karr e esz n hh).1;simp[isAgg,X6 hu]
  |_=>grind[UV]
 |false=>
  obtain⟨_,d,hu,h1,h2⟩:=h.one hk
  simp_all [isAgg,Qpa,X6,Qp6]
theorem Qz{α R:Type}{g:Bool}{p:oP α}{z:α}{k:α->oP R}{r:R}(h:gb g p z k=some r) :
  ∃a,k a=some r/\(g=true->p=some a):=by
 unfold gb orZ at h
 grind
def Out(E:Env)(st:St)(a:Act)(dl:Dl)(v:Value)(w':World):Prop:=
 ∃β' S',Rel E β' S' ⟨st.n,st.tm,MA st.h dl.wr⟩ a w'/\RdA β' S' (look (MA st.h dl.wr)) w' (tmv a) v dl.v
def Bw(β:Nat->oP Nat)(S:Nat->Prop)(st:St)(a:Act)(w:World)(o:Oper)(ev:Operand->AV):Prop:=
 ∀x∈o.op.operands.toList,RdA β S (look st.h) w (tmv a) (a.eval x) (ev x)/\∀l,Uu st l=true->Yr l (ev x)=false
def Qgj(st:St)(hl:Nat->oP Ob)(dl:Dl):Prop:=∀l,l∈dl.rd\/l∈wrL dl->look st.h l=hl l
def K3(P:Program)(E:Env)(o:Oper)(ev:Operand->AV)(hl:Nat->oP Ob)(dl:Dl):Prop:=
 ∀β S st a w,Rel E β S st a w->Bw β S st a w o ev->Qgj st hl dl->Wo st dl.wr=true ->
  ∀(K:Act->World->Prop) (Q:Exit->Act->World->Prop),(∀v w',Out E st a dl v w'->K (a.put o.dst v) w')->o.wp P a w K Q
variable{E:Env}
theorem QE{o:Oper}{hl:Nat->oP Ob}{v:AV}{rd:List Nat}(h:∀β S st a w,Rel E β S st a w->Bw β S st a w o ev->Qgj st hl ⟨v,[],rd⟩->∃u,(execOp a.eval o).run P w = .ok (.value u) w/\RdA β S (look st.h) w (tmv a) u v) :
  K3 P E o ev hl ⟨v,[],rd⟩:=by
 intro β S st a w hR hO hA _ K Q hK;obtain⟨u,aa,hu⟩:=h β S st a w hR hO hA;unfold Oper.wp;rw[aa];exact hK u w ⟨β,S,by assumption,by assumption⟩
theorem Bw.at{β:Nat->oP Nat}{S:Nat->Prop}{st:St}{a:Act}{w:World}{o:Oper}(h:Bw β S st a w o ev){x:Operand}(hx:x∈o.op.operands.toList) :
  RdA β S (look st.h) w (tmv a) (a.eval x) (ev x):=(h x hx).1
theorem Bw.nm{β:Nat->oP Nat}{S:Nat->Prop}{st:St}{a:Act}{w:World}{o:Oper}(h:Bw β S st a w o ev){x:Operand}(hx:x∈o.op.operands.toList){l:Nat}(hc:Uu st l=true) :
  Yr l (ev x)=false:=(h x hx).2 l hc
section inv
variable{β:Nat->oP Nat} {S:Nat->Prop} {h:Nat->oP Ob} {w:World} {tm:Nat->Value} {v:Value}
theorem RdA.int_inv{k:IntKind}{n:Int}(hv:RdA β S h w tm v (.d (.int k n))):v = .int k n:=by
 cases hv with
 |d _ _ hx=>cases hx;rfl
 |dang _ _ l hl _ _=>trivial
theorem RdA.bool_inv{b:Bool}(hv:RdA β S h w tm v (.d (.bool b))):v = .bool b:=by
 cases hv with
 |d _ _ hx=>cases hx;rfl
 |dang _ _ l hl _ _=>trivial
theorem RdA.str_inv{l:List UInt8}(hv:RdA β S h w tm v (.d (.str l))):∃s:ByteArray,l=s.data.toList/\v = .string s:=by
 cases hv with
 |d _ _ hx=>cases hx with
  |str s=>simp_all
 |dang _ _ l hl _ _=>trivial
theorem RdA.d_inv{x:D}(hv:RdA β S h w tm v (.d x)):Rd S w v x:=by
 cases hv with
 |d _ _ hx=>exact hx
 |dang _ _ l hl _ _=>trivial
theorem RdA.ptr_inv{l off:Nat}(hv:RdA β S h w tm v (.ptr l off)):∃b,β l=some b/\v = .pointer (some ⟨b,off,none⟩):=by
 cases hv with
 |ptr _ _ b hb=>simp_all
 |dang _ _ l hl _ _=>trivial
theorem RdA.el_inv{row:List D}{off:Nat}(hv:RdA β S h w tm v (.el row off)) :
  ∃(ad:Addr) (c:Nat->Value),v = .pointer (some ad)/\S ad.block/\(∀(j:Nat) (x:D),row[off+j]? = some x->w.cell? (ad.add j)=some (c j))/\∀(j:Nat) (x:D),row[off+j]? = some x->Rd S w (c j) x:=by
 cases hv with
 |el ad _ _ c hs hc hr=>exact⟨ad,c,rfl,hs,hc,hr⟩
 |dang _ _ l hl _ _=>trivial
theorem RdA.ap_inv{l i off e s:Nat}{rows:List (List D)}(hh:h l=some (.arr e s rows))(hv:RdA β S h w tm v (.ap l i off)) :
  ∃b,β l=some b/\v = .pointer (some ⟨b,i*s+off,none⟩):=by
 cases hv with
 |ap _ _ _ b e' s' aa hb ac=>
  simp_all
 |dang _ _ l' hl hn _=>grind[TZ]
theorem RdA.ag_inv{l:List AV}(hv:RdA β S h w tm v (.ag l)):∃cs:Array Value,v = .agg cs/\cs.size=l.length/\∀(i:Nat) (x:AV),l[i]? = some x->RdA β S h w tm (cs.getD i undef) x:=by
 cases hv with
 |ag cs _ hl hr=>simp_all
 |dang _ _ l hl _ _=>trivial
theorem RdA.tup_inv{l:List AV}(hv:RdA β S h w tm v (.tup l)):∃cs:Array Value,v = .tuple cs/\cs.size=l.length/\∀(i:Nat) (x:AV),l[i]? = some x->RdA β S h w tm (cs.getD i undef) x:=by
 cases hv with
 |tup cs _ hl hr=>simp_all
 |dang _ _ l hl _ _=>trivial
theorem RdA.fs_inv{s:Nat}{rows:List (List D)}(hv:RdA β S h w tm v (.fs s rows)):∃ad,v = .slice ad rows.length rows.length/\Rd S w v (.sl s rows):=by
 cases hv with
 |fs ad _ _ hx=>simp_all
 |dang _ _ l hl=>trivial
theorem RdA.nil_inv(hv:RdA β S h w tm v .nil):v = .slice none 0 0:=by
 cases hv with
 |nil=>rfl
 |dang _ _ l hl _ _=>trivial
theorem RdA.arr_inv{l e s:Nat}{rows:List (List D)}(hh:h l=some (.arr e s rows))(hv:RdA β S h w tm v (.arr l)) :
  (β l=none/\rows=[]/\v = .slice none 0 0)\/∃b cap cs ty fz,β l=some b/\v = .slice (some ⟨b,0,none⟩) rows.length cap/\w.heap[b]? = some (.cells cs ty fz)/\cs.size=cap*s/\rows.length<=cap/\cap<=maxLen:=by
 cases hv with
 |arr0 _ e' s' hb aa=>
  simp_all
 |arr _ b cap e' s' ac cs ty fz hb aa hw an ai ak=>
  grind
 |mp _ b t f hb aa=>simp_all
 |dang _ _ l' hl hn _=>grind[TZ]
theorem RdA.mp_inv{l t:Nat}{f:Int->Bool}(hh:h l=some (.mp t f))(hv:RdA β S h w tm v (.arr l)):∃b,β l=some b/\v = .map (some b):=by
 cases hv with
 |arr0 _ e' s' hb aa=>simp_all
 |arr _ b cap e' s' ac cs ty fz hb aa hw ao ai ak=>rw[hh]at aa;cases aa
 |mp _ b t f hb aa=>simp_all
 |dang _ _ l' hl hn _=>grind[TZ]
end inv
theorem M5{k:IntKind}{x:D}{n:Int}(h:Qk k x=some n):x = .int k n:=by
 cases x with
 |int k' m=>
  grind[Qk]
 |_=>trivial
theorem MI{x:D}{n:Bool}(h:PB x=some n):x = .bool n:=by
 cases x<;>simp[PB]at h;rw[h]
theorem FK{x:D}{n:List UInt8}(h:Vq x=some n):x = .str n:=by
 cases x<;>simp[Vq]at h;rw[h]
theorem Q7g{s:Nat}{x:D}{n:List (List D)}(h:pSl s x=some n):x = .sl s n:=by
 cases x with
 |sl s' m=>
  grind[pSl,Nat.beq,Nat.eq_of_beq_eq_true]
 |_=>trivial
theorem Bi{R:Type}{g:Bool}{kd:Kd}{av:AV}{k:AV->oP R}{r:R}(h:prj g kd av k=some r) :
  ∃v,k v=some r/\(g=true->v=av)/\Q0U av=true:=by
 unfold prj at h;split at h
 ·split at h
  ·obtain⟨n,hn,hp⟩:=Qz h;exact⟨_,hn,λhg=>by grind[M5],rfl⟩
  ·obtain⟨n,hn,hp⟩:=Qz h;exact⟨_,hn,λhg=>by grind[MI],rfl⟩
  ·obtain⟨n,hn,hp⟩:=Qz h;exact⟨_,hn,λhg=>by grind[FK],rfl⟩
  ·obtain⟨n,hn,hp⟩:=Qz h;exact⟨_,hn,λhg=>by grind[Q7g],rfl⟩
  ·cases h
 grind
theorem Ly{R:Type}{g:Bool}{row:List D}:∀{n off:Nat} {k:List AV->oP R} {r:R},Q1o g row off n k=some r ->
  ∃cs:List D,k (cs.map .d)=some r/\cs.length=n/\(g=true->∀j,j<n->row[off+j]? = cs[j]?)
 |0,off,k,r,h=>⟨[],by simpa[Q1o]using h,rfl,λ_ j hj=>by omega⟩
 |n+1,off,k,r,h=>by
  unfold Q1o at h;obtain⟨c,hc,hp⟩:=Qz h;obtain⟨cs,h1,h2,h3⟩:=Ly hc;refine⟨c::cs,by simpa using h1,by simp[h2],λhg j hj=>?_⟩;cases j with
  |zero=>simpa using hp hg
  |succ j=>
   have:=h3 hg j Q0;rw[show off+(j+1)=off+1+j from Q0];simpa using this
theorem RN{cells:List AV}:∀{n off:Nat} {cs:List AV},BG cells off n=some cs->cs.length=n/\(∀j,j<n->cells[off+j]? = cs[j]?)/\∀(j:Nat) (c:AV),cs[j]? = some c->Q0U c=true
 |0,off,cs,h=>by
  simp[BG]at h;subst h;exact⟨rfl,λj hj=>by omega,λj c hc=>by simp at hc⟩
 |n+1,off,cs,h=>by
  unfold BG at h;split at h
  ·rename_i c hc;split at h
   ·rename_i r hr;obtain⟨h1,h2,h3⟩:=RN hr;cases hn:Q0U c with
    |true=>
     simp[hn]at h;subst h;refine⟨by simp[h1],λj hj=>?_,λj c' aa=>?_⟩
     ·cases j with
      |zero=>simpa using hc
      |succ j=>
       rw[show off+(j+1)=off+1+j from Q0];simpa using h2 j Q0
     ·cases j with
      |zero=>simp at aa;subst aa;exact hn
      |succ j=>exact h3 j c' (by simpa using aa)
    |false=>simp[hn]at h
   ·cases h
  ·cases h
theorem Q1X:∀{l:List AV},Jq l=true->∀t,Q05 t l=false
 |[],_,_=>rfl
 |.ptr ..::r,h,t=>by simp[Q05,gds,Q1X (l:=r) (by simpa[Jq]using h) t]
 |.d _::r,h,t=>by simp[Q05,gds,Q1X (l:=r) (by simpa[Jq]using h) t]
 |.top::_,h,_=>by simp[Jq]at h
 |.nil::_,h,_=>by simp[Jq]at h
 |.ag _::_,h,_=>by simp[Jq]at h
 |.tup _::_,h,_=>by simp[Jq]at h
 |.el ..::_,h,_=>by simp[Jq]at h
 |.fs ..::_,h,_=>by simp[Jq]at h
 |.mpd _::_,h,_=>by simp[Jq]at h
 |.ex _::_,h,_=>by simp[Jq]at h
 |.arr _::_,h,_=>by simp[Jq]at h
 |.ap ..::_,h,_=>by simp[Jq]at h
 |.gd ..::_,h,_=>by simp[Jq]at h
 |.fn ..::_,h,_=>by simp[Jq]at h
theorem R1{av:AV}(h:Q0U av=true)(t:Nat):gds t av=false:=by
 cases av with
 |fn f l=>grind[gds,Q1X,Q0U]
 |_=>trivial
theorem RdA.any_tm{β:Nat->oP Nat}{S:Nat->Prop}{h:Nat->oP Ob}{w:World}{tm:Nat->Value}{v:Value}{av:AV}(hg:Q0U av=true)(hv:RdA β S h w tm0 v av):RdA β S h w tm v av:=by
 refine RdA.mono hv (λ_ hb=>hb) (λ_ _=>rfl) (λl _=>⟨rfl,λx=>x,λe s rows hh=>.inr ⟨rows,hh,rfl⟩,λb cs ty fz _ _ hw=>⟨cs,ty,fz,hw,rfl⟩,λ_ f hh=>.inr ⟨f,hh⟩⟩) (λt ht=>?_)
 grind[R1]
end
end Go.Vx
namespace Go.Vx
variable{w:World}
section
variable{P:Program} {E:Env} {R:Type}
theorem Jb{b o:Nat}{cs:Array Value}{ty:TypeId}{fz:Nat×Nat}(h:w.heap[b]? = some (.cells cs ty fz)):w.cell? ⟨b,o,none⟩=cs[o]?:=by
 simp[World.cell?,h]
theorem VX{t:Nat}{ti:TyI}(ht:TyOk P t ti)(hs:UV ti.kd=false){a:Addr}{v:Value}(hc:w.cell? a=some v) :
  (loadVar t a).run P w = .ok v w:=by
 simp only[loadVar,Qpa,ht.agg,hs,Qp6,Bool.false_eq_true,if_false,run_load,hc]
theorem J1{t:Nat}{ti:TyI}(ht:TyOk P t ti)(hs:UV ti.kd=true){a:Addr}{vs:List Value}(hl:vs.length=ti.size)(hc:∀(j:Nat) (v:Value),vs[j]? = some v->w.cell? (a.add j)=some v) :
  (loadVar t a).run P w = .ok (.agg vs.toArray) w:=by
 have h1:=run_loadCells_list (P:=P) w a vs hc;rw[hl]at h1;simp only[loadVar,Qpa,ht.agg,hs,Qp6,if_true,ht.size,h1];rfl
theorem KF{cs:Array Value}{i:Nat}(h:i<cs.size):cs[i]? = some (cs.getD i undef):=by
 simp_all
theorem FH{vs:List Value}{i:Nat}{v:Value}(h:vs[i]? = some v):vs.toArray.getD i undef=v:=by
 simp_all
theorem J2{o:Oper}{t:TypeId}{x:Operand}(ho:o.op = .load t x){a:Act}{ad:Addr}{v:Value}(hx:a.eval x = .pointer (some ad))(hv:(loadVar t ad).run P w = .ok v w) :
  (execOp a.eval o).run P w = .ok (.value v) w:=by
 simp_all [execOp,Instr.loadAt,Instr.sureAddr]
theorem Q49{S:Nat->Prop}{ad:Addr}{row:List D}{off:Nat}{c:Nat->Value}(hc:∀(j:Nat) (x:D),row[off+j]? = some x->w.cell? (ad.add j)=some (c j))(hr:∀(j:Nat) (x:D),row[off+j]? = some x->Rd S w (c j) x){cs:List D}{n:Nat}(hn:cs.length=n)(aa:∀j,j<n->row[off+j]? = cs[j]?) :
  ∃vs:List Value,vs.length=n/\(∀(j:Nat) (v:Value),vs[j]? = some v->w.cell? (ad.add j)=some v)/\∀(j:Nat) (x:D),cs[j]? = some x->∃v,vs[j]? = some v/\Rd S w v x:=by
 refine⟨(List.range n).map c,by simp,λj v hv=>?_,λj x hx=>?_⟩
 all_goals grind
theorem Q9L{β:Nat->oP Nat}{S:Nat->Prop}{h:Nat->oP Ob}{tm:Nat->Value}{vs:List Value}{cs:List D}(hl:vs.length=cs.length)(hr:∀(j:Nat) (x:D),cs[j]? = some x->∃v,vs[j]? = some v/\Rd S w v x):RdA β S h w tm (.agg vs.toArray) (.ag (cs.map .d)):=by
 refine .ag _ _ (by simp[hl]) λi x hx=>?_
 simp only[Qph,Qpc]at hx;obtain⟨y,hy,rfl⟩:=hx;obtain⟨v,hv,aa⟩:=hr i y hy;rw[FH hv];exact .d _ _ aa
theorem Q99{tt:TT}(hT:TOk P tt){o:Oper}{t:TypeId}{x:Operand}(ho:o.op = .load t x){g:Bool}{ev:Operand->AV}{hl:Nat->oP Ob}{k:Dl->oP R}{r:R}(h:Qf6 tt g hl t (ev x) k=some r):∃dl,k dl=some r/\(g=true->K3 P E o ev hl dl):=by
 have ac:x∈o.op.operands.toList:=by grind[Op.operands]
 unfold Qf6 at h;split at h
 case h_2=>cases h
 rename_i ti bk;have ax:=hT t ti bk;split at h
 ·-- a box
  rename_i l off ao;split at h
  ·rename_i cells ar;cases hs:UV ti.kd with
   |true=>
    simp only[hs,Qpb]at h;split at h
    ·rename_i cs a3;refine⟨_,h,λ_=>QE λβ S st a w hR hO hA=>?_⟩;obtain⟨b,hb,hv⟩:=(ao▸hO.at ac).ptr_inv;have ai:look st.h l=some (.box cells):=by rw[hA l (.inl Q2)];exact ar
     obtain⟨b',ty,vs,fz,ak,hw,_,bd,am⟩:=hR.hr.ob l _ ai;obtain rfl:b=b':=by simp_all
     obtain⟨h1,h2,h3⟩:=RN a3;have aq:∀j,j<ti.size->off+j<vs.size:=λj hj=>by
      grind
     refine⟨_,J2 ho hv (J1 ax hs (vs:=(List.range ti.size).map λj=>vs.getD (off+j) undef) Q2 λj v hv=>?_),?_⟩
     ·simp only[Qph,Qpc]at hv;obtain⟨j',bj,rfl⟩:=hv;obtain⟨a8,he⟩:=Qp7.1 bj;simp at a8 he;subst he;rw[Jy,Jb hw];exact KF (aq j a8)
     ·refine .ag _ _ (by simp[h1]) λi y hy=>?_
      have hi:i<ti.size:=by
       obtain⟨h6,_⟩:=Qp7.1 hy;omega
      rw[FH (v:=vs.getD (off+i) undef) (by simp[hi])];exact(am (off+i) y ((h2 i hi).trans hy)).any_tm (h3 i y hy)
    ·cases h
   |false=>
    simp only[hs,cond_false]at h;split at h
    ·rename_i c hc;obtain⟨v,a2,a4,bc⟩:=Bi h;refine⟨_,a2,λhg=>QE λβ S st a w hR hO hA=>?_⟩;obtain⟨b,hb,hv⟩:=(ao▸hO.at ac).ptr_inv;have ai:look st.h l=some (.box cells):=by rw[hA l (.inl Q2)];exact ar
     obtain⟨b',ty,vs,fz,ak,hw,_,bd,am⟩:=hR.hr.ob l _ ai;obtain rfl:b=b':=by rw[hb]at ak;injection ak
     have aq:off<vs.size:=by
      obtain⟨h6,_⟩:=Qp7.1 hc;omega
     refine⟨_,J2 ho hv (VX ax hs (by rw[Jb hw];exact KF aq)),?_⟩;rw[a4 hg];exact(am off c hc).any_tm bc
    ·cases h
  ·cases h
 ·-- a row of data
  rename_i row off ao;cases hs:UV ti.kd with
  |true=>
   simp only[hs,Qpb]at h;obtain⟨cs,hk,az,a3⟩:=Ly h;refine⟨_,hk,λhg=>QE λβ S st a w hR hO hA=>?_⟩;obtain⟨ad,c,hv,_,hc,hr⟩:=(ao▸hO.at ac).el_inv;obtain⟨vs,h1,h2,h3⟩:=Q49 hc hr az (a3 hg);exact⟨_,J2 ho hv (J1 ax hs h1 h2),Q9L Q0 h3⟩
  |false=>
   simp only[hs,cond_false]at h;obtain⟨c0,h,a5⟩:=Qz h;obtain⟨v,a2,a4,_⟩:=Bi h;refine⟨_,a2,λhg=>QE λβ S st a w hR hO hA=>?_⟩;obtain⟨ad,c,hv,_,hc,hr⟩:=(ao▸hO.at ac).el_inv;refine⟨_,J2 ho hv (VX ax hs (v:=c 0) ?_),?_⟩
   ·have:=hc 0 c0 (a5 hg);simpa[Addr.add]using this
   ·rw[a4 hg];exact .d _ _ (hr 0 c0 (a5 hg))
 ·-- an array of the call's own
  rename_i l i off ao;split at h
  ·rename_i e s rows a6;obtain⟨row,h,a7⟩:=Qz h;cases hs:UV ti.kd with
   |true=>
    simp only[hs,Qpb]at h;obtain⟨cs,hk,az,a3⟩:=Ly h;refine⟨_,hk,λhg=>QE λβ S st a w hR hO hA=>?_⟩;have ai:look st.h l=some (.arr e s rows):=by rw[hA l (.inl Q2)];exact a6
    obtain⟨b,hb,hv⟩:=RdA.ap_inv ai (ao▸hO.at ac);have aa:=a7 hg;rcases hR.hr.ob l _ ai with⟨_,hn⟩|⟨b',vs,ak,hw,_,bi,am⟩
    ·subst hn;simp at aa
    obtain rfl:b=b':=by rw[hb]at ak;injection ak
    obtain⟨bl,h1,h2,h3⟩:=Q49 (S:=S) (w:=w) (ad:=⟨b,i*s+off,none⟩) (row:=row) (off:=off) (c:=λj=>vs.getD (i*s+(off+j)) undef)
     (λj x hx=>by
      obtain⟨v,bb,_⟩:=am i (off+j) row x aa hx;rw[Jy,Jb hw,QpB];obtain⟨aq,_⟩:=Qpl.1 bb;exact KF aq)
     (λj x hx=>by
      obtain⟨v,bb,a9⟩:=am i (off+j) row x aa hx;obtain⟨aq,he⟩:=Qpl.1 bb;have:vs.getD (i*s+(off+j)) undef=v:=by simp[Array.getD,aq,he]
      rw[this];exact a9) az (a3 hg)
    exact⟨_,J2 ho hv (J1 ax hs h1 h2),Q9L Q0 h3⟩
   |false=>
    simp only[hs,cond_false]at h;obtain⟨c0,h,a5⟩:=Qz h;obtain⟨v,a2,a4,_⟩:=Bi h;refine⟨_,a2,λhg=>QE λβ S st a w hR hO hA=>?_⟩;have ai:look st.h l=some (.arr e s rows):=by rw[hA l (.inl Q2)];exact a6
    obtain⟨b,hb,hv⟩:=RdA.ap_inv ai (ao▸hO.at ac);have aa:=a7 hg;rcases hR.hr.ob l _ ai with⟨_,hn⟩|⟨b',vs,ak,hw,_,bi,am⟩
    ·subst hn;simp at aa
    obtain rfl:b=b':=by rw[hb]at ak;injection ak
    obtain⟨u,hu,a9⟩:=am i off row c0 aa (a5 hg);refine⟨_,J2 ho hv (VX ax hs (v:=u) ?_),?_⟩
    ·rw[Jb hw];exact hu
    ·rw[a4 hg];exact .d _ _ a9
  ·cases h
 ·cases h
end
end Go.Vx
namespace Go.Vx
variable{hl:Nat->oP Ob} {ev:Operand->AV} {β:Nat->oP Nat} {S:Nat->Prop} {w:World} {h:Nat->oP Ob} {tm:Nat->Value} {o:Oper} {v:Value} {tt:TT} {t:TypeId} {x:Operand}
section
variable{P:Program} {E:Env} {R:Type}
theorem Q4f(ho:o.op = .move x\/o.op = .assign x):K3 P E o ev hl ⟨ev x,[],[]⟩:=by
 refine QE λβ S st a w hR hO hA=>⟨a.eval x,?_,hO.at (by grind[Op.operands])⟩
 unfold execOp;rcases ho with ho | ho<;>rw[ho]<;>simp
theorem Pb(ho:o.op = .nilCheck x){a:Act}{ad:Addr}(aa:a.eval x = .pointer (some ad)) :
  (execOp a.eval o).run P w = .ok (.value (.pointer (some ad))) w:=by
 simp_all [execOp]
theorem EN(ho:o.op = .nilCheck x){l f:Nat}(hv:ev x = .ptr l f):K3 P E o ev hl ⟨.ptr l f,[],[]⟩:=by
 refine QE λβ S st a w hR hO hA=>?_
 have hx:=hv▸hO.at (x:=x) (by grind[Op.operands]);obtain⟨b,_,h⟩:=hx.ptr_inv
 grind[Pb]
theorem Cu(ho:o.op = .nilCheck x){l:List D}{f:Nat}(hv:ev x = .el l f):K3 P E o ev hl ⟨.el l f,[],[]⟩:=by
 refine QE λβ S st a w hR hO hA=>?_
 have hx:=hv▸hO.at (x:=x) (by grind[Op.operands]);obtain⟨b,_,h,_⟩:=hx.el_inv
 grind[Pb]
theorem RdA.ap_ptr{l i off:Nat}(hh:(h l).isSome=true)(hv:RdA β S h w tm v (.ap l i off)):∃ad,v = .pointer (some ad):=by
 cases hv with
 |ap _ _ _ b e s rows hb hh=>simp_all
 |dang _ _ l' hl hn _=>grind[TZ]
theorem CO(ho:o.op = .nilCheck x){l i f:Nat}(hs:(hl l).isSome=true)(hv:ev x = .ap l i f):K3 P E o ev hl ⟨.ap l i f,[],[l]⟩:=by
 refine QE λβ S st a w hR hO hA=>?_
 have hx:=hv▸hO.at (x:=x) (by grind[Op.operands]);obtain⟨ad,h⟩:=hx.ap_ptr (by rw[hA l (.inl Q2)];exact hs)
 grind[Pb]
theorem Q9G{op:UnOp}(ho:o.op = .unOp op t x){a:Act}{u v:Value}(hx:a.eval x=u)(h:(Op.unary op u).run P w = .ok v w) :
  (execOp a.eval o).run P w = .ok (.value v) w:=by
 simp_all [execOp]
theorem Qf8{op:UnOp}(ho:o.op = .unOp op t x){v:AV}(h:vUn op (ev x)=some v) :
  K3 P E o ev hl ⟨v,[],[]⟩:=by
 refine QE λβ S st a w hR hO hA=>?_
 have hx:=hO.at (x:=x) (by grind[Op.operands]);unfold vUn at h;split at h
 ·rename_i b hb;cases h;rw[hb]at hx;exact⟨.bool (!b),Q9G ho hx.bool_inv (by rfl),.d _ _ (.bool _)⟩
 ·rename_i k n hb;cases h;rw[hb]at hx;exact⟨.int k (k.wrap (0-n)),Q9G ho hx.int_inv (by rfl),.d _ _ (.int _ _)⟩
 ·rename_i k n hb;cases h;rw[hb]at hx;exact⟨.int k (QfY k n),Q9G ho hx.int_inv (by rfl),.d _ _ (.int _ _)⟩
 ·cases h
theorem Nw(op:BinOp)(t:TypeId)(x y:Operand)(k k':IntKind)(a b:Int)(w:World):(eqGuard op t x y (.int k a) (.int k' b)).run P w = .ok () w:=by
 simp[eqGuard]
theorem N2(op:BinOp)(t:TypeId)(x y:Operand)(a b:Bool)(w:World):(eqGuard op t x y (.bool a) (.bool b)).run P w = .ok () w:=by
 simp[eqGuard]
theorem Mf{op:BinOp}{t t':TypeId}{x y:Operand}(ho:o.op = .binOp op t x y t'){a:Act}{u u' v:Value}(hx:a.eval x=u)(hy:a.eval y=u')(hg:(eqGuard op t x y u u').run P w = .ok () w)(h:(binOp op t u u').run P w = .ok v w) :
  (execOp a.eval o).run P w = .ok (.value v) w:=by
 simp_all [execOp]
theorem Nf(d:Nat)(hu:P.underlying t=some .bool)(a b:Bool)(w:World):(Op.equalIn (d+1) t (.bool a) (.bool b)).run P w = .ok (a == b) w:=by
 simp_all [Op.equalIn,Qpa,X6,Qp6]
theorem Q3P(hu:P.underlying t=some .bool)(a b:Bool)(w:World):(binOp .eql t (.bool a) (.bool b)).run P w = .ok (.bool (a == b)) w:=by
 simp_all [binOp,Op.equal,Op.maxDepth,Qpa,Nf,Qp6]
theorem Q56(hu:P.underlying t=some .bool)(a b:Bool)(w:World):(binOp .neq t (.bool a) (.bool b)).run P w = .ok (.bool (!(a == b))) w:=by
 simp_all [binOp,Op.equal,Op.maxDepth,Qpa,Nf,Qp6]
theorem BN(d:Nat){t e:TypeId}(hu:P.underlying t=some (.slice e))(b:oP Addr)(n c:Nat)(w:World):(Op.equalIn (d+1) t (.slice b n c) (.slice none 0 0)).run P w = .ok b.isNone w:=by
 cases b<;>simp[Op.equalIn,Qpa,X6 hu,Qp6]
theorem A9{t e:TypeId}(hu:P.underlying t=some (.slice e))(b:oP Addr)(n c:Nat)(w:World):(binOp .eql t (.slice b n c) (.slice none 0 0)).run P w = .ok (.bool b.isNone) w:=by
 simp[binOp,Op.equal,Op.maxDepth,Qpa,BN _ hu,Qp6]
theorem RdA.sl_some{k:Nat}{r:List (List D)}(hv:RdA β S h w tm v (.d (.sl k r)))(hr:r≠[]):∃b n c,v = .slice (some b) n c:=by
 cases hv with
 |d _ _ hv=>
  cases hv with
  |sl0=>exact absurd rfl hr
  |sl a cap s rows f=>exact⟨a,_,_,rfl⟩
 |dang _ _ l hl=>simp[TZ]at hl
theorem RdA.gd_inv{t:Nat}{b:Bool}{av:AV}(hv:RdA β S h w tm v (.gd t b av)) :
  (tm t = .bool b/\RdA β S h w tm v av)\/(tm t≠.bool b/\v=undef):=by
 cases hv with
 |gdT _ _ _ _ ht hv=>simp_all
 |gdF _ _ _ ht=>simp_all
 |dang _ _ l hl _ _=>trivial
def dv:D->Value
 |.int k n=>.int k n
 |.bool b=>.bool b
 |_=>undef
theorem Q8r{op:BinOp}{k:IntKind}{a b:Int}{d:D}(h:Q7a op k a b=some d)(t:TypeId)(w:World)(S:Nat->Prop):∃v,(binOp op t (.int k a) (.int k b)).run P w = .ok v w/\Rd S w v d:=by
 refine⟨dv d,?_,?_⟩
 ·cases op<;>simp only[Q7a,Option.some.injEq,reduceCtorEq]at h<;>subst h<;>simp[binOp,Op.intArith,Op.intCmp,dv]
 ·cases op<;>simp only[Q7a,Option.some.injEq,reduceCtorEq]at h<;>subst h<;>first | exact .int _ _ | exact .bool _
theorem XC{t:Nat}{kd:Kd}(h:TY tt t=kd)(hn:kd≠.other):∃ti,look tt t=some ti/\ti.kd=kd:=by
 grind[TY,absurd]
theorem BB(op:BinOp)(t:TypeId)(x y:Operand)(a b:ByteArray)(w:World):(eqGuard op t x y (.string a) (.string b)).run P w = .ok () w:=by
 simp[eqGuard]
theorem Q7w:∀(l:List Bool),Qbn l=l.all id
 |[]=>rfl
 |[b]=>by simp[Qbn]
 |b::c::r=>by rw[show Qbn (b::c::r)=(b&&Qbn (c::r))from rfl,Q7w (c::r)];simp
theorem BV{g:Bool}:∀{ks:List Kd} {xs ys:List AV} {k:List Bool->oP R} {r:R},Q5b g ks xs ys k=some r->∃bs,k bs=some r/\bs.length=ks.length/\xs.length=ks.length/\ys.length=ks.length /\
  (g=true->∀(β:Nat->oP Nat) (S:Nat->Prop) (h:Nat->oP Ob) (w:World) (tm:Nat->Value) (us vs:Nat->Value),(∀(i:Nat) (x:AV),xs[i]? = some x->RdA β S h w tm (us i) x)->(∀(i:Nat) (x:AV),ys[i]? = some x->RdA β S h w tm (vs i) x) ->
   ∀(j:Nat) (kd:Kd) (b:Bool),ks[j]? = some kd->bs[j]? = some b->CEq kd (us j) (vs j) b)
 |[],[],[],k,r,h=>⟨[],h,rfl,rfl,rfl,λ_ _ _ _ _ _ _ _ _ _ j kd b hj=>by simp at hj⟩
 |kd::ks,x::xs,y::ys,k,r,h=>by
  cases x with
  |d a=>
   cases y with
   |d b=>
    have fin:∀(c:Bool),Q5b g ks xs ys (λr=>k (c::r))=some r->(g=true->∀(β:Nat->oP Nat) (S:Nat->Prop) (h:Nat->oP Ob) (w:World) (tm:Nat->Value) (u v:Value),RdA β S h w tm u (.d a)->RdA β S h w tm v (.d b)->CEq kd u v c) ->
      ∃bs,k bs=some r/\bs.length=(kd::ks).length/\(AV.d a::xs).length=(kd::ks).length/\(AV.d b::ys).length=(kd::ks).length /\
      (g=true->∀(β:Nat->oP Nat) (S:Nat->Prop) (h:Nat->oP Ob) (w:World) (tm:Nat->Value) (us vs:Nat->Value),(∀(i:Nat) (x:AV),(AV.d a::xs)[i]? = some x->RdA β S h w tm (us i) x)->(∀(i:Nat) (x:AV),(AV.d b::ys)[i]? = some x->RdA β S h w tm (vs i) x) ->
       ∀(j:Nat) (ai:Kd) (b:Bool),(kd::ks)[j]? = some ai->bs[j]? = some b->CEq ai (us j) (vs j) b):=by
     intro c hc hq;obtain⟨bs,h1,h2,h3,h4,h5⟩:=BV hc;refine⟨c::bs,h1,by simp[h2],by simp[h3],by simp[h4],λhg β S hh w tm us vs hu hv j ai b' hj hb=>?_⟩;cases j with
     |zero=>simp at hj hb;subst hj hb;exact hq hg β S hh w tm _ _ (hu 0 _ rfl) (hv 0 _ rfl)
     |succ j=>exact h5 hg β S hh w tm (λi=>us (i+1)) (λi=>vs (i+1)) (λi x hx=>hu (i+1) x Q4) (λi x hx=>hv (i+1) x (by simpa using hx)) j ai b' (by simpa using hj) (by simpa using hb)
    cases kd with
    |int ik=>
     simp only[Q5b]at h;obtain⟨m,h,hm⟩:=Qz h;obtain⟨n,h,hn⟩:=Qz h;refine fin _ h λhg β S hh w tm u v hu hv=>?_
     rw[M5 (hm hg)]at hu;rw[M5 (hn hg)]at hv;exact⟨m,n,hu.int_inv,hv.int_inv,rfl⟩
    |bool=>
     simp only[Q5b]at h;obtain⟨m,h,hm⟩:=Qz h;obtain⟨n,h,hn⟩:=Qz h;refine fin _ h λhg β S hh w tm u v hu hv=>?_
     rw[MI (hm hg)]at hu;rw[MI (hn hg)]at hv;exact⟨m,n,hu.bool_inv,hv.bool_inv,rfl⟩
    |str=>
     simp only[Q5b]at h;obtain⟨m,h,hm⟩:=Qz h;obtain⟨n,h,hn⟩:=Qz h;refine fin _ h λhg β S hh w tm u v hu hv=>?_
     rw[FK (hm hg)]at hu;rw[FK (hn hg)]at hv;obtain⟨s,rfl,rfl⟩:=hu.str_inv;obtain⟨t,rfl,rfl⟩:=hv.str_inv;exact⟨s,t,rfl,rfl,rfl⟩
    |_=>simp[Q5b]at h
   |_=>simp[Q5b]at h
  |_=>simp[Q5b]at h
 |[],[],_::_,k,r,h=>by simp[Q5b]at h
 |[],_::_,_,k,r,h=>by simp[Q5b]at h
 |_::_,[],_,k,r,h=>by simp[Q5b]at h
 |_::_,_::_,[],k,r,h=>by simp[Q5b]at h
theorem Qbi{op:BinOp}{t t':TypeId}{x y:Operand}(ho:o.op = .binOp op t x y t'){g:Bool}{k:Dl->oP R}{r:R}{a0 b0:List UInt8}(an:ev x = .d (.str a0))(ai:ev y = .d (.str b0))(h:Qiy g op a0 b0 (λv=>k ⟨v,[],[]⟩)=some r):∃dl,k dl=some r/\(g=true->K3 P E o ev hl dl):=by
 have am:x∈o.op.operands.toList:=by grind[Op.operands]
 have ak:y∈o.op.operands.toList:=by simp[ho,Op.operands]
 have fin:∀(d:D) (v:ByteArray->ByteArray->Value),k ⟨.d d,[],[]⟩=some r->(g=true->∀(s u:ByteArray) (w:World) (S:Nat->Prop),s.data.toList=a0->u.data.toList=b0->(Op.stringOp op s u).run P w = .ok (v s u) w/\Rd S w (v s u) d)->∃dl,k dl=some r/\(g=true->K3 P E o ev hl dl):=by
  intro d v hk hr;refine⟨_,hk,λhg=>QE λβ S st a w hR hO hA=>?_⟩;obtain⟨s,hs,hx⟩:=(an▸hO.at am).str_inv;obtain⟨u,hu,hy⟩:=(ai▸hO.at ak).str_inv;obtain⟨h1,h2⟩:=hr hg s u w S hs.symm hu.symm;refine⟨_,Mf ho hx hy (BB ..) ?_,.d _ _ h2⟩
  grind[binOp,Op.stringOp]
 cases op<;>simp only[Qiy,reduceCtorEq]at h
 ·obtain⟨_,h,hp⟩:=Qz h;refine fin _ (λs u=>.string (s++u)) h λhg s u w S hs hu=>⟨?_,?_⟩
  ·have hp:=hp hg;unfold Q8l at hp;cases hb:Nat.ble (a0.length+b0.length) 9223372036854775807 with
   |false=>simp_all
   |true=>
    have:=Qpi hb;refine run_string_add_sum w s u ?_;rw[<- hs,<- hu,Qpk,Qpk]at this;exact this
  ·have:(s++u).data.toList=a0++b0:=by simp_all
   rw[<- this];exact .str _
 ·exact fin _ (λs u=>.bool (s.toList == u.toList)) h λhg s u w S hs hu=>⟨by rfl,by rw[Qpe,Qpe,hs,hu];exact .bool _⟩
 ·exact fin _ (λs u=>.bool (!(s.toList == u.toList))) h λhg s u w S hs hu=>⟨by simp[Op.stringOp],by rw[Qpe,Qpe,hs,hu];exact .bool _⟩
 ·exact fin _ (λs u=>.bool (Op.bytesLess s.toList u.toList)) h λhg s u w S hs hu=>⟨by simp[Op.stringOp],by rw[Qpe,Qpe,hs,hu];exact .bool _⟩
 ·exact fin _ (λs u=>.bool (Op.bytesLess s.toList u.toList||s.toList == u.toList)) h λhg s u w S hs hu=>⟨by simp[Op.stringOp],by rw[Qpe,Qpe,hs,hu];exact .bool _⟩
 ·exact fin _ (λs u=>.bool (!(Op.bytesLess s.toList u.toList||s.toList == u.toList))) h λhg s u w S hs hu=>⟨by simp[Op.stringOp],by rw[Qpe,Qpe,hs,hu];exact .bool _⟩
 ·exact fin _ (λs u=>.bool (!Op.bytesLess s.toList u.toList)) h λhg s u w S hs hu=>⟨by simp[Op.stringOp],by rw[Qpe,Qpe,hs,hu];exact .bool _⟩
theorem QbG(hT:TOk P tt){op:BinOp}{t t':TypeId}{x y:Operand}(ho:o.op = .binOp op t x y t'){g:Bool}{k:Dl->oP R}{r:R}(h:Qj4 g op (TY tt t) (Qeh tt t) (ev x) (ev y) (λv=>k ⟨v,[],[]⟩)=some r):∃dl,k dl=some r/\(g=true->K3 P E o ev hl dl):=by
 have ar:x∈o.op.operands.toList:=by grind[Op.operands]
 have ao:y∈o.op.operands.toList:=by simp[ho,Op.operands]
 unfold Qj4 at h;split at h
 ·rename_i ac aa;split at h
  ·rename_i aq;obtain⟨ti,ak,ai⟩:=XC aq Q2;have hu:=((hT t ti ak).ksl _ _ ai).1;refine⟨_,h,λhg=>QE λβ S st a w hR hO hA=>?_⟩;have hx:=(ac▸hO.at ar).nil_inv;have hy:=(aa▸hO.at ao).nil_inv;exact⟨.bool true,Mf ho hx hy (by simp[eqGuard]) (A9 hu none 0 0 w),.d _ _ (.bool _)⟩
  ·cases h
 ·rename_i esz r0 ac aa;split at h
  ·rename_i aq;obtain⟨ti,ak,ai⟩:=XC aq Q2;have hu:=((hT t ti ak).ksl _ _ ai).1;obtain⟨_,h,hp⟩:=Qz h;refine⟨_,h,λhg=>QE λβ S st a w hR hO hA=>?_⟩;have hy:=(aa▸hO.at ao).nil_inv;have ba:r0≠[]:=λe=>by
    subst e;exact nomatch hp hg
   obtain⟨b,n,c,hx⟩:=(ac▸hO.at ar).sl_some ba;exact⟨.bool false,Mf ho hx hy (by simp[eqGuard]) (A9 hu (some b) n c w),.d _ _ (.bool _)⟩
  ·cases h
 ·rename_i ka a0 kb b0 ac aa;have fin:∀(d:Int),k ⟨.d (.int ka d),[],[]⟩=some r->(g=true->∀w:World,(binOp op t (.int ka a0) (.int kb b0)).run P w = .ok (.int ka d) w)->∃dl,k dl=some r/\(g=true->K3 P E o ev hl dl):=by
   intro d hk hr;refine⟨_,hk,λhg=>QE λβ S st a w hR hO hA=>?_⟩;have hx:=(ac▸hO.at ar).int_inv;have hy:=(aa▸hO.at ao).int_inv;exact⟨_,Mf ho hx hy (Nw ..) (hr hg w),.d _ _ (.int _ _)⟩
  have a8:∀{u:Unit},Ab b0=some u->0<=b0:=by
   grind[Ab]
  split at h
  ·obtain⟨_,h,hp⟩:=Qz h;refine fin _ h λhg w=>?_
   have h0:=a8 (hp hg);have:¬ b0<0:=Q0
   simp[binOp,Op.shift,this,shL]
  ·obtain⟨_,h,hp⟩:=Qz h;refine fin _ h λhg w=>?_
   have h0:=a8 (hp hg);have:¬ b0<0:=Q0
   simp[binOp,Op.shift,this,shR]
  ·rename_i bq bl;cases hk:(ka == kb)with
   |false=>simp[hk]at h
   |true=>
    obtain rfl:ka=kb:=by simpa using hk
    simp only[hk,Qpb]at h;split at h
    ·obtain⟨_,h,hp⟩:=Qz h;refine fin _ h λhg w=>?_
     have a2:¬ b0=0:=by
      intro e;subst e;simp[nz]at hp;exact absurd hp (by simp[hg])
     simp[binOp,Op.intDiv,a2]
    ·obtain⟨_,h,hp⟩:=Qz h;refine fin _ h λhg w=>?_
     have a2:¬ b0=0:=by
      intro e;subst e;simp[nz]at hp;exact absurd hp (by simp[hg])
     simp[binOp,Op.intDiv,a2]
    ·exact fin _ h λhg w=>by simp[binOp,Op.intBits,Q7i]
    ·exact fin _ h λhg w=>by simp[binOp,Op.intBits,bOr]
    ·exact fin _ h λhg w=>by simp[binOp,Op.intBits,Qil]
    ·exact fin _ h λhg w=>by simp[binOp,Op.intBits,Q8K]
    ·split at h
     ·rename_i d hd;refine⟨_,h,λhg=>QE λβ S st a w hR hO hA=>?_⟩;have hx:=(ac▸hO.at ar).int_inv;have hy:=(aa▸hO.at ao).int_inv;obtain⟨v,hv,hr⟩:=Q8r (P:=P) hd t w S;exact⟨v,Mf ho hx hy (Nw ..) hv,.d _ _ hr⟩
     ·cases h
 ·rename_i a0 b0 ac aa;split at h
  ·rename_i aq;obtain⟨ti,ak,ai⟩:=XC aq Q2;have hu:=(hT t ti ak).kbool ai;refine⟨_,h,λhg=>QE λβ S st a w hR hO hA=>?_⟩;have hx:=(ac▸hO.at ar).bool_inv;have hy:=(aa▸hO.at ao).bool_inv;exact⟨.bool (a0 == b0),Mf ho hx hy (N2 ..) (Q3P hu ..),.d _ _ (.bool _)⟩
  ·rename_i aq;obtain⟨ti,ak,ai⟩:=XC aq Q2;have hu:=(hT t ti ak).kbool ai;refine⟨_,h,λhg=>QE λβ S st a w hR hO hA=>?_⟩;have hx:=(ac▸hO.at ar).bool_inv;have hy:=(aa▸hO.at ao).bool_inv;exact⟨.bool (!(a0 == b0)),Mf ho hx hy (N2 ..) (Q56 hu ..),.d _ _ (.bool _)⟩
  ·cases h
 ·rename_i a0 b0 ac aa;exact Qbi ho ac aa h
 ·rename_i xs ys ac aa;split at h
  case h_2=>cases h
  rename_i ks ay;obtain⟨ti,ak,bc⟩:∃ti,look tt t=some ti/\ti.eqk=some ks:=by
   unfold Qeh at ay;split at ay
   ·rename_i ti ak;exact⟨ti,ak,ay⟩
   ·cases ay
  have hE:=(hT t ti ak).keq ks bc;have a7:∀(c:Bool->Bool) (bs:List Bool),k ⟨.d (.bool (c (Qbn bs))),[],[]⟩=some r->bs.length=ks.length->xs.length=ks.length->ys.length=ks.length ->
    (∀(u v:Array Value) (w:World) (b:Bool),(Op.equalIn 10000 t (.agg u) (.agg v)).run P w = .ok b w->(binOp op t (.agg u) (.agg v)).run P w = .ok (.bool (c b)) w) ->
    (g=true->∀(β:Nat->oP Nat) (S:Nat->Prop) (h:Nat->oP Ob) (w:World) (tm:Nat->Value) (us vs:Nat->Value),(∀(i:Nat) (x:AV),xs[i]? = some x->RdA β S h w tm (us i) x)->(∀(i:Nat) (x:AV),ys[i]? = some x->RdA β S h w tm (vs i) x) ->
     ∀(j:Nat) (kd:Kd) (b:Bool),ks[j]? = some kd->bs[j]? = some b->CEq kd (us j) (vs j) b)->∃dl,k dl=some r/\(g=true->K3 P E o ev hl dl):=by
   intro c bs hk h2 h3 h4 a6 h5;refine⟨_,hk,λhg=>QE λβ S st a w hR hO hA=>?_⟩;obtain⟨us,hx,br,bh⟩:=(ac▸hO.at ar).ag_inv;obtain⟨vs,hy,bo,bb⟩:=(aa▸hO.at ao).ag_inv;obtain⟨e1,e2⟩:=hE w us vs bs Q0 Q0 h2 (h5 hg β S _ w _ (λj=>us.getD j undef) (λj=>vs.getD j undef) bh bb);refine⟨.bool (c (Qbn bs)),Mf ho hx hy (run_eqGuard_agg w op t x y us vs e2) ?_,.d _ _ (.bool _)⟩;rw[Q7w];exact a6 us vs w _ e1
  split at h
  ·obtain⟨bs,h1,h2,h3,h4,h5⟩:=BV h;exact a7 (λb=>b) bs h1 h2 h3 h4 (λu v w b hb=>by rw[run_eql_struct,hb];rfl) h5
  ·obtain⟨bs,h1,h2,h3,h4,h5⟩:=BV h;exact a7 (λb=>!b) bs h1 h2 h3 h4 (λu v w b hb=>by rw[run_neq_struct,hb];rfl) h5
  ·cases h
 ·cases h
theorem Q5d(hT:TOk P tt){s t:TypeId}(ho:o.op = .convert s t x){ks kd kn:IntKind}{n:Int}(hs:TY tt s = .int ks)(ht:TY tt t = .int kd)(hx:ev x = .d (.int kn n)):K3 P E o ev hl ⟨.d (.int kd (kd.wrap n)),[],[]⟩:=by
 obtain⟨ti,am,ak⟩:=XC hs Q2;obtain⟨ai,ac,aa⟩:=XC ht Q2;have ax:=(hT s ti am).kint _ ak;have aw:=(hT t ai ac).kint _ aa;refine QE λβ S st a w hR hO hA=>?_
 have hv:=(hx▸hO.at (x:=x) (by simp[ho,Op.operands])).int_inv;refine⟨_,?_,.d _ _ (.int _ _)⟩
 simp_all [execOp,convert,X6,Conv.intToInt]
theorem Q2P(hT:TOk P tt){s t:TypeId}(ho:o.op = .convert s t x){n:List UInt8}(hs:TY tt s = .str)(ht:TY tt t = .str)(hx:ev x = .d (.str n)):K3 P E o ev hl ⟨.d (.str n),[],[]⟩:=by
 obtain⟨ti,am,ak⟩:=XC hs Q2;obtain⟨ai,ac,aa⟩:=XC ht Q2;have ar:=(hT s ti am).kstr ak;have aq:=(hT t ai ac).kstr aa;refine QE λβ S st a w hR hO hA=>?_
 obtain⟨bs,hn,hv⟩:=(hx▸hO.at (x:=x) (by simp[ho,Op.operands])).str_inv;refine⟨.string bs,?_,.d _ _ (by rw[hn];exact .str _)⟩
 simp_all [execOp,convert,X6]
theorem Q4c{i:Nat}(ho:o.op = .extract x i){l:List AV}{v:AV}(hx:ev x = .tup l)(hv:l[i]? = some v) :
  K3 P E o ev hl ⟨v,[],[]⟩:=by
 refine QE λβ S st a w hR hO hA=>?_
 obtain⟨cs,he,ai,hr⟩:=(hx▸hO.at (x:=x) (by grind[Op.operands])).tup_inv;refine⟨_,?_,hr i v hv⟩;have aa:i<cs.size:=by
  grind
 simp_all [KF,execOp,Instr.extract,Qpa]
theorem Q8W{s:Nat}{x y:Operand}(ho:o.op = .pick (.tmp s) x y){e a0 b0:Bool}(he:ev (.tmp s) = .d (.bool e))(hx:unw [(s,true)] (ev x) = .d (.bool a0))(hy:unw [(s,false)] (ev y) = .d (.bool b0)) :
  K3 P E o ev hl ⟨.d (.bool (bif e then a0 else b0)),[],[]⟩:=by
 refine QE λβ S st a w hR hO hA=>?_
 have hc:=(he▸hO.at (x:=.tmp s) (by grind[Op.operands])).bool_inv;have hX:=hO.at (x:=x) (by simp[ho,Op.operands]);have hY:=hO.at (x:=y) (by simp[ho,Op.operands]);have ac:∀(z:Operand) (t c:Bool),unw [(s,t)] (ev z) = .d (.bool c)->RdA β S (look st.h) w (tmv a) (a.eval z) (ev z)->e=t->a.eval z = .bool c:=by
  intro z t c hu hz aw;cases aa:ev z with
  |gd s' w' av=>
   rw[aa]at hu hz;simp only[unw,QeL,Bool.or_false]at hu;cases hm:(Nat.beq s s'&&(t == w'))with
   |false=>simp_all
   |true=>
    simp only[hm,Qpb]at hu;simp only[Qp8,beq_iff_eq]at hm;obtain⟨h1,rfl⟩:=hm;obtain rfl:=Qp9 h1;subst hu;have ax:tmv a s = .bool t:=by
     have:tmv a s=a.eval (.tmp s):=rfl
     simp_all
    rcases hz.gd_inv with⟨_,hv⟩|⟨an,_⟩
    ·exact hv.bool_inv
    simp_all
  |d x'=>rw[aa]at hu hz;simp only[unw]at hu;rw[hu]at hz;exact hz.bool_inv
  |_=>rw[aa]at hu;simp[unw]at hu
 refine⟨.bool (bif e then a0 else b0),?_,.d _ _ (.bool _)⟩;unfold execOp;rw[ho];cases e with
 |true=>simp[hc,asBool,ac x true a0 hx hX rfl]
 |false=>simp[hc,asBool,ac y false b0 hy hY rfl]
theorem Q9e{kd:Kd}(h:Ru kd=true):kd = .struct:=by cases kd<;>simp[Ru]at h;rfl
theorem Q6K(hT:TOk P tt){t f off ft:Nat}{ti:TyI}(ac:look tt t=some ti)(hs:Ru ti.kd=true)(hf:ti.fields[f]? = some (off,ft)) :
  ∃fs fd,P.underlying t=some (.struct fs)/\fs[f]? = some fd/\fd.offset=off/\fd.type=ft/\∃i,P.info? fd.type=some i/\i.size≠0:=by
 obtain⟨fs,hu,ai,am⟩:=(hT t ti ac).kstruct (Q9e hs);rw[<- ai,Qph,Qpc]at hf;obtain⟨fd,ak,he⟩:=hf;injection he with he1 he2
 exact⟨fs,fd,hu,by simp_all,he1,he2,am fd (Qpf ak)⟩
theorem Q0m(hT:TOk P tt){f:Nat}(ho:o.op = .fieldAddr t x f){k:Dl->oP R}{r:R}(h:DC tt hl t f (ev x) k=some r):∃dl,k dl=some r/\K3 P E o ev hl dl:=by
 have ai:x∈o.op.operands.toList:=by grind[Op.operands]
 unfold DC at h;split at h
 case h_2=>cases h
 rename_i ti ao;cases hs:Ru ti.kd with
 |false=>simp_all
 |true=>
  simp only[hs,Qpb]at h;split at h
  case h_2=>cases h
  rename_i off ft hf;obtain⟨fs,fd,hu,az,aq,_,i,hi,ar⟩:=Q6K hT ao hs hf;have ac:∀(a:Act) (w:World) (ad:Addr),a.eval x = .pointer (some ad)->(execOp a.eval o).run P w = .ok (.value (.pointer (some (ad.add off)))) w:=by
   simp_all [execOp,Instr.fieldAt,X6,Instr.sureAddr,fieldPlace,sizeOf,Yy]
  split at h
  ·rename_i l o' aa;refine⟨_,h,QE λβ S st a w hR hO hA=>?_⟩;obtain⟨b,hb,hx⟩:=(aa▸hO.at ai).ptr_inv;exact⟨_,ac a w _ hx,by rw[Jy];exact .ptr _ _ _ hb⟩
  ·rename_i row o' aa;refine⟨_,h,QE λβ S st a w hR hO hA=>?_⟩;obtain⟨ad,c,hx,hS,hc,hr⟩:=(aa▸hO.at ai).el_inv;refine⟨_,ac a w _ hx,.el _ _ _ (λj=>c (off+j)) (by rw[Jv];exact hS) (λj y hy=>?_) (λj y hy=>?_)⟩
   all_goals grind[BA,Nat.add_assoc]
  ·rename_i l i' o' aa;split at h
   ·rename_i e s rows am;refine⟨_,h,QE λβ S st a w hR hO hA=>?_⟩;have an:look st.h l=some (.arr e s rows):=by rw[hA l (.inl Q2)];exact am
    obtain⟨b,hb,hx⟩:=RdA.ap_inv an (aa▸hO.at ai);exact⟨_,ac a w _ hx,by rw[Jy,QpB];exact .ap _ _ _ _ _ _ _ hb an⟩
   ·cases h
  ·cases h
theorem Q3n{t:Nat}{ti:TyI}(ht:TyOk P t ti)(hs:UV ti.kd=false){cs:Array Value}{off:Nat}(hc:cs[off]? = some v) :
  (part t cs off).run P w = .ok v w:=by
 simp only[part,Qpa,ht.agg,hs,Qp6,Bool.false_eq_true,if_false,hc];rfl
theorem Q3r{t:Nat}{ti:TyI}(ht:TyOk P t ti)(hs:UV ti.kd=true){cs:Array Value}{off:Nat} :
  (part t cs off).run P w = .ok (.agg (cs.extract off (off+ti.size))) w:=by
 simp only[part,Qpa,ht.agg,hs,Qp6,if_true,ht.size];rfl
theorem Q8g(hT:TOk P tt){f:Nat}(ho:o.op = .field t x f){g:Bool}{k:Dl->oP R}{r:R}(h:QaS tt g t f (ev x) k=some r):∃dl,k dl=some r/\(g=true->K3 P E o ev hl dl):=by
 have am:x∈o.op.operands.toList:=by grind[Op.operands]
 unfold QaS at h;split at h
 case h_2=>cases h
 rename_i ti a2;cases hs:Ru ti.kd with
 |false=>simp_all
 |true=>
  simp only[hs,Qpb]at h;split at h
  case h_2=>cases h
  rename_i off ft hf;obtain⟨fs,fd,hu,bh,a9,bd,i,hi,ba⟩:=Q6K hT a2 hs hf;split at h
  case h_2=>cases h
  rename_i fi a4;have ai:=hT ft fi a4;split at h
  case h_2=>cases h
  rename_i cells ao;have ak:∀(a:Act) (w:World) (cs:Array Value) (v:Value),a.eval x = .agg cs->(part ft cs off).run P w = .ok v w->(execOp a.eval o).run P w = .ok (.value v) w:=by
   simp_all [execOp,Instr.field,X6,asAgg]
  cases ac:UV fi.kd with
  |true=>
   simp only[ac,Qpb]at h;split at h
   ·rename_i cs a3;refine⟨_,h,λ_=>QE λβ S st a w hR hO hA=>?_⟩;obtain⟨vs,hx,ay,hr⟩:=(ao▸hO.at am).ag_inv;obtain⟨h1,h2,h3⟩:=RN a3;refine⟨_,ak a w vs _ hx (Q3r ai ac),?_⟩;have ar:fi.size=0\/off+fi.size<=vs.size:=by
     rcases Nat.eq_zero_or_pos fi.size with h0 | h0
     ·exact .inl h0
     ·right;have h4:=h2 (fi.size-1) Q0;have h5:cs[fi.size-1]? = some (cs[fi.size-1]'Q0):=Qpm Q0;rw[h5]at h4;obtain⟨h6,_⟩:=Qp7.1 h4;omega
    refine .ag _ _ (by rw[h1,Array.size_extract];rcases ar with h | h<;>omega) λj y hy=>?_
    have hj:j<fi.size:=by obtain⟨h6,_⟩:=Qp7.1 hy;omega
    have:=hr (off+j) y ((h2 j hj).trans hy);have he:(vs.extract off (off+fi.size)).getD j undef=vs.getD (off+j) undef:=by
     have an:off+j<vs.size:=by rcases ar with h | h<;>omega
     have aq:j<(vs.extract off (off+fi.size)).size:=by rw[Array.size_extract];omega
     simp only[Array.getD,an,aq,dite_true];simp
    simp_all
   ·cases h
  |false=>
   simp only[ac,cond_false]at h;split at h
   ·rename_i c hc;obtain⟨v,az,aw,_⟩:=Bi h;refine⟨_,az,λhg=>QE λβ S st a w hR hO hA=>?_⟩;obtain⟨vs,hx,ay,hr⟩:=(ao▸hO.at am).ag_inv;have an:off<vs.size:=by obtain⟨h6,_⟩:=Qp7.1 hc;omega
    exact⟨_,ak a w vs _ hx (Q3n ai ac (KF an)),by rw[aw hg];exact hr off c hc⟩
   ·cases h
end
end Go.Vx
namespace Go.Vx
variable{w:World} {o:Oper} {a:Act} {tt:TT} {x:Operand}
section
variable{P:Program} {E:Env} {R:Type}
theorem Rd.sl_inv{S:Nat->Prop}{v:Value}{s:Nat}{rows:List (List D)}(h:Rd S w v (.sl s rows)) :
  (rows=[]/\∃a cap,v = .slice a 0 cap)\/∃(ad:Addr) (cap:Nat) (c:Nat->Nat->Value),v = .slice (some ad) rows.length cap/\S ad.block/\rows.length<=cap/\(∀(i:Nat) (r:List D),rows[i]? = some r->r.length=s) /\
   (∀(i j:Nat) (r:List D) (x:D),rows[i]? = some r->r[j]? = some x->w.cell? (ad.add (i*s+j))=some (c i j))/\∀(i j:Nat) (r:List D) (x:D),rows[i]? = some r->r[j]? = some x->Rd S w (c i j) x:=by
 cases h with
 |sl0 a cap=>simp_all
 |sl ad cap _ _ c hS aa ac hc hr=>exact .inr ⟨ad,cap,c,rfl,hS,aa,ac,hc,hr⟩
theorem Rd.len{S:Nat->Prop}{v:Value}{s:Nat}{rows:List (List D)}(h:Rd S w v (.sl s rows)):∃a cap,v = .slice a rows.length cap:=by
 rcases h.sl_inv with⟨rfl,a,cap,rfl⟩|⟨ad,cap,_,rfl,_⟩
 all_goals simp
theorem PK{rows:List (List D)}{n:Int}{row:List D}(h:Qi rows n=some row):0<=n/\n<rows.length/\rows[n.toNat]? = some row:=by
 grind[Qi]
theorem Q7d{len:Nat}{n:Int}{u:Unit}(h:inB len n=some u):0<=n/\n<len:=by
 grind[inB,decide]
theorem GO(hT:TOk P tt){t:TypeId}{x i:Operand}(ho:o.op = .indexAddr t x i){e esz:Nat}(hk:TY tt t = .sl e esz){ad:Addr}{len cap:Nat}{ik:IntKind}{n:Int}(hx:a.eval x = .slice (some ad) len cap)(hi:a.eval i = .int ik n)(h0:0<=n)(h1:n<len) :
  (execOp a.eval o).run P w = .ok (.value (.pointer (some (ad.add (n.toNat*esz))))) w:=by
 obtain⟨ti,ac,aa⟩:=XC hk Q2;obtain⟨hu,_,inf,ai,am⟩:=(hT t ti ac).ksl _ _ aa
 simp_all [execOp,Instr.indexAt,asIntOf,X6,sizeOf,Yy]
theorem Q0o(hT:TOk P tt){t:TypeId}{x i:Operand}(ho:o.op = .indexAddr t x i){g:Bool}{ev:Operand->AV}{hl:Nat->oP Ob}{k:Dl->oP R}{r:R}(h:Di tt g hl t (ev x) (ev i) k=some r):∃dl,k dl=some r/\(g=true->K3 P E o ev hl dl):=by
 have ak:x∈o.op.operands.toList:=by grind[Op.operands]
 have ao:i∈o.op.operands.toList:=by simp[ho,Op.operands]
 unfold Di at h;split at h
 case h_2=>cases h
 rename_i e esz ik n hk ar;split at h
 ·rename_i s rows ac;cases hb:Nat.beq s esz with
  |false=>simp_all
  |true=>
   obtain rfl:=Qp9 hb;simp only[hb,Qpb]at h;obtain⟨row,h,aa⟩:=Qz h;refine⟨_,h,λhg=>QE λβ S st a w hR hO hA=>?_⟩;obtain⟨h0,h1,h2⟩:=PK (aa hg);have hi:=(ar▸hO.at ao).int_inv;rcases (ac▸hO.at ak).d_inv.sl_inv with⟨rfl,_⟩|⟨ad,cap,c,hx,hS,_,az,hc,hr⟩
   ·simp at h2
   refine⟨_,GO hT ho hk hx hi h0 h1,.el _ _ _ (λj=>c n.toNat j) (by grind[Jv]) (λj y hy=>?_) (λj y hy=>?_)⟩
   all_goals grind[BA]
 ·rename_i l ac;split at h
  ·rename_i e' s rows an;cases hb:Nat.beq s esz with
   |false=>simp[hb]at h
   |true=>
    obtain rfl:=Qp9 hb;simp only[hb,Qpb]at h;obtain⟨u,h,aw⟩:=Qz h;refine⟨_,h,λhg=>QE λβ S st a w hR hO hA=>?_⟩;obtain⟨h0,h1⟩:=Q7d (aw hg);have hi:=(ar▸hO.at ao).int_inv;have aq:look st.h l=some (.arr e' s rows):=by rw[hA l (.inl Q2)];exact an
    rcases RdA.arr_inv aq (ac▸hO.at ak)with⟨_,rfl,_⟩|⟨b,cap,cs,ty,fz,ax,hx,_⟩
    ·grind
    refine⟨_,GO hT ho hk hx hi h0 h1,?_⟩;rw[Jy,Nat.zero_add];exact .ap l n.toNat 0 b e' s rows ax aq
  ·cases h
 ·obtain⟨row,h,aa⟩:=Qz h;refine⟨_,h,λhg=>?_⟩;obtain⟨_,h1,_⟩:=PK (aa hg);simp at h1;have:=(PK (aa hg)).1;omega
 ·cases h
theorem T0(hT:TOk P tt){c:Call}{t:Nat}{e esz:Nat}(ho:o.op = .call c)(hc:c.callee = .builtin .len)(ha:c.args.toList=[x])(hat:c.argTypes.toList=[t])(hk:TY tt t = .sl e esz){ad:oP Addr}{len cap:Nat}(hx:a.eval x = .slice ad len cap):(execOp a.eval o).run P w = .ok (.value (.int .i64 len)) w:=by
 obtain⟨ti,ac,aa⟩:=XC hk Q2;obtain⟨hu,_⟩:=(hT t ti ac).ksl _ _ aa;have an:c.args = #[x]:=by grind
 have ai:c.argTypes = #[t]:=by rw[<- Array.toList_inj];simpa using hat
 simp_all [execOp,resolve,invoke,builtin,Builtin.len_,X6,goInt]
theorem Q5N(hT:TOk P tt){c:Call}{t:Nat}(ho:o.op = .call c)(hc:c.callee = .builtin .len)(ha:c.args.toList=[x])(hat:c.argTypes.toList=[t])(hk:TY tt t = .str){s:ByteArray}(hx:a.eval x = .string s):(execOp a.eval o).run P w = .ok (.value (.int .i64 s.size)) w:=by
 obtain⟨ti,ac,aa⟩:=XC hk Q2;have hu:=(hT t ti ac).kstr aa;have ak:c.args = #[x]:=by grind
 have ai:c.argTypes = #[t]:=by grind
 simp_all [execOp,resolve,invoke,builtin,Builtin.len_,X6,goInt]
theorem Q5X(hT:TOk P tt){c:Call}{t:Nat}{e esz:Nat}(ho:o.op = .call c)(hc:c.callee = .builtin .cap)(ha:c.args.toList=[x])(hat:c.argTypes.toList=[t])(hk:TY tt t = .sl e esz)(hx:a.eval x = .slice none 0 0):(execOp a.eval o).run P w = .ok (.value (.int .i64 0)) w:=by
 obtain⟨ti,ac,aa⟩:=XC hk Q2;obtain⟨hu,_⟩:=(hT t ti ac).ksl _ _ aa;have ak:c.args = #[x]:=by grind
 have ai:c.argTypes = #[t]:=by grind
 simp_all [execOp,resolve,invoke,builtin,Builtin.cap_,X6,goInt]
end
end Go.Vx
namespace Go.Vx
section
variable{E:Env} {β β':Nat->oP Nat} {S S':Nat->Prop} {st:St} {a:Act} {w w':World}
theorem Q9E{l t:Nat}{tm:List (Nat×AV)}{av:AV}(h:look tm t=some av)(hn:Yr l av=true):AB l tm=true:=by
 induction tm with
 |nil=>trivial
 |cons x r ih=>
  grind[look,Nat.beq,AB]
theorem Q8T{l t:Nat}{hs:List (Nat×Ob)}{cells:List AV}(h:look hs t=some (.box cells))(hn:G6 l cells=true):Jl l hs=true:=by
 induction hs with
 |nil=>trivial
 |cons x r ih=>
  obtain⟨k,b⟩:=x;simp only[look]at h;cases hk:Nat.beq k t with
  |true=>grind[Jl]
  |false=>simp[hk]at h;cases b<;>simp[Jl,ih h]
theorem Q7n{l t:Nat}{av:AV}(hc:Uu st l=true)(h:look st.tm t=some av):Yr l av=false:=by
 grind[Yr,Uu,Q9E]
theorem Qau{l t i:Nat}{cells:List AV}{x:AV}(hc:Uu st l=true)(h:look st.h t=some (.box cells))(hx:cells[i]? = some x):Yr l x=false:=by
 grind[Yr,Uu,Q8T,Sr]
theorem Keep.rfl_(β:Nat->oP Nat)(h:Nat->oP Ob)(w:World)(l:Nat):Keep β h w β h w l:=
 ⟨rfl,λx=>x,λ_ _ rows hh=>.inr ⟨rows,hh,rfl⟩,λ_ cs ty fz _ _ hw=>⟨cs,ty,fz,hw,rfl⟩,λ_ f hh=>.inr ⟨f,hh⟩⟩
theorem Rel.upd(hR:Rel E β S st a w){H':List (Nat×Ob)}(ai:∀b,S b->S' b)(am:∀b,S b->w'.heap[b]? = w.heap[b]?)(T:Nat->Prop)(hT:∀l,¬ T l->β' l=β l/\look H' l=look st.h l/\∀b,(look st.h l).isSome=true->β l=some b->w'.heap[b]? = w.heap[b]?)(aw:∀l,T l->Keep β (look st.h) w β' (look H') w' l\/Uu st l=true)(a3:∀l o,T l->look H' l=some o->ObR β' S' (look H') w' l o)(inj:∀l l' b,(look H' l).isSome=true->(look H' l').isSome=true->β' l=some b->β' l'=some b->l=l')(apart:∀l b,(look H' l).isSome=true->β' l=some b->¬ S' b)(own:∀l b,(look H' l).isSome=true->β' l=some b->E.M b\/E.w0.heap.size<=b)(sb:∀b,S' b->b<w'.heap.size)(sfr:∀b,S' b->E.S0 b\/E.M b\/E.w0.heap.size<=b)(fr:Fr E.M E.w0 w') :
  Rel E β' S' ⟨st.n,st.tm,H'⟩ a w':=by
 have aa:∀l,Keep β (look st.h) w β' (look H') w' l\/Uu st l=true:=by
  intro l;by_cases hl:T l
  ·exact aw l hl
  ·obtain⟨h1,h2,h3⟩:=hT l hl;exact .inl ⟨h1,λh=>by rw[h2];exact h,λe s rows h=>.inr ⟨rows,by rw[h2];exact h,rfl⟩,λb cs ty fz hs hb hw=>⟨cs,ty,fz,by rw[h3 b (by rw[<- h2];exact hs) hb];exact hw,rfl⟩,λ_ f h=>.inr ⟨f,by rw[h2];exact h⟩⟩
 have hA:∀(tm:Nat->Value) (v:Value) (av:AV),(∀l,Uu st l=true->Yr l av=false)->RdA β S (look st.h) w tm v av->RdA β' S' (look H') w' tm v av:=by
  intro tm v av hc hv;refine hv.mono ai am (λl hn=>?_) (λ_ _=>rfl);rcases aa l with h | h
  ·exact h
  ·rw[hc l h]at hn;cases hn
 refine⟨hR.n,hR.dfr,λt av ht=>hA _ _ _ (λl hc=>Q7n hc ht) (hR.tm t av ht),⟨?_,inj,apart,own,sb,sfr,λb hb=>ai b (hR.hr.s0 b hb),fr,λl hp=>?_,λl b hp hs hb cs ty fz hw=>?_⟩⟩
 rotate_left
 ·refine Eq.trans ?_ (hR.hr.pin l hp);rcases aa l with h | h
  ·exact h.b
  ·simp only[Uu,Qp8]at h;have:=Qpi h.1;omega
 ·rcases aa l with h | h
  ·have ar:(look st.h l).isSome=true:=by
    cases hx:look st.h l with
    |some o=>rfl
    |none=>rw[h.none_ hx]at hs;cases hs
   rw[h.b]at hb;obtain⟨ay,az,fz1,g1,g2⟩:=hR.hr.psz l b hp ar hb cs ty fz hw;obtain⟨ao,a2,a4,g3,g4⟩:=h.cells b ay az fz1 hs hb g1;exact⟨ao,a2,a4,g3,g4.trans g2⟩
  ·simp only[Uu,Qp8]at h;have:=Qpi h.1;omega
 intro l o ho;by_cases hl:T l
 ·exact a3 l o hl ho
 ·obtain⟨h1,h2,h3⟩:=hT l hl;rw[h2]at ho;have ac:=hR.hr.ob l o ho;cases o with
  |box cells=>
   obtain⟨b,ty,cs,fz,hb,hw,hf,ak,hr⟩:=ac;exact⟨b,ty,cs,fz,h1.trans hb,(h3 b (by simp[ho]) hb).trans hw,hf,ak,λi x hx=>hA _ _ _ (λl' hc=>Qau hc ho hx) (hr i x hx)⟩
  |arr e s rows=>
   rcases ac with⟨hb,hn⟩|⟨b,cs,hb,hw,ak,ax,hr⟩
   ·exact .inl ⟨h1.trans hb,hn⟩
   ·refine .inr ⟨b,cs,h1.trans hb,(h3 b (by simp[ho]) hb).trans hw,ak,ax,λi j r x h4 h5=>?_⟩;obtain⟨v,hv,aq⟩:=hr i j r x h4 h5;exact⟨v,hv,aq.mono ai am⟩
  |mp t f=>
   obtain⟨b,hb,hm⟩:=ac;exact⟨b,h1.trans hb,hm.same (h3 b (by simp[ho]) hb)⟩
theorem Kv(hR:Rel E β S st a w){l b:Nat}(hs:(look st.h l).isSome=true)(hb:β l=some b):b<w.heap.size:=by
 cases ho:look st.h l with
 |none=>simp_all
 |some o=>
  have aa:=hR.hr.ob l o ho;have:∃c,w.heap[b]? = some c:=by
   cases o with
   |box cells=>
    obtain⟨b',ty,cs,fz,ac,hw,_⟩:=aa
    simp_all
   |arr e s rows=>
    rcases aa with⟨ac,_⟩|⟨b',cs,ac,hw,_⟩
    all_goals grind
   |mp t f=>
    obtain⟨b',ac,es,ai,hw,_⟩:=aa
    simp_all
  grind
theorem YP(w:World)(o:Obj){b:Nat}(h:b<w.heap.size):(w.alloc o).heap[b]? = w.heap[b]?:=by
 show(w.heap.push o)[b]? = _
 grind
theorem J5(w:World)(o:Obj):(w.alloc o).heap[w.heap.size]? = some o:=by
 show(w.heap.push o)[w.heap.size]? = _;simp
theorem Q7I{M:Nat->Prop}{w0 w:World}(h:Fr M w0 w)(o:Obj):Fr M w0 (w.alloc o):=
 h.trans ⟨rfl,rfl,rfl,by show w.heap.size<=(w.heap.push o).size;simp,λb hb _=>YP w o hb⟩
def RF(β:Nat->oP Nat)(l:Nat)(b:oP Nat):Nat->oP Nat:=λk=>if k=l then b else β k
theorem Rel.new(hR:Rel E β S st a w){l:Nat}{o:Ob}{aa:Obj}(hn:look st.h l=none)(hc:Uu st l=true)(ak:ObR (RF β l (some w.heap.size)) S (look ((l,o)::rem l st.h)) (w.alloc aa) l o) :
  Rel E (RF β l (some w.heap.size)) S ⟨st.n,st.tm,(l,o)::rem l st.h⟩ a (w.alloc aa):=by
 have ai:∀k,look ((l,o)::rem l st.h) k=if k=l then some o else look st.h k:=λk=>WW l k o st.h
 refine hR.upd (λ_ h=>h) (λb hb=>YP w aa (hR.hr.sb b hb)) (λk=>k=l) (λk hk=>?_) (λk hk=>.inr (hk▸hc)) (λk o' hk ho=>?_) ?_ ?_ ?_ ?_ hR.hr.sfr (Q7I hR.hr.fr aa)
 ·grind[RF,YP,Kv]
 ·simp_all
 ·intro k k' b h1 h2 h3 h4;rw[ai]at h1 h2;unfold RF at h3 h4;by_cases e:k=l<;>by_cases e':k'=l
  ·rw[e,e']
  ·rw[Qpn e]at h3;rw[Qpj e']at h4 h2;injection h3 with h3
   have:=Kv hR h2 h4;omega
  ·rw[Qpn e']at h4;rw[Qpj e]at h3 h1;injection h4 with h4
   have:=Kv hR h1 h3;omega
  ·rw[Qpj e]at h3 h1;rw[Qpj e']at h4 h2;exact hR.hr.inj k k' b h1 h2 h3 h4
 ·intro k b h1 h2 hS;rw[ai]at h1;unfold RF at h2;by_cases e:k=l
  ·rw[Qpn e]at h2;injection h2 with h2
   have:=hR.hr.sb b hS;omega
  ·rw[Qpj e]at h2 h1;exact hR.hr.apart k b h1 h2 hS
 ·intro k b h1 h2;rw[ai]at h1;unfold RF at h2;by_cases e:k=l
  ·rw[Qpn e]at h2;injection h2 with h2
   right;have:=hR.hr.fr.size;omega
  ·rw[Qpj e]at h2 h1;exact hR.hr.own k b h1 h2
 ·intro b hb;have:=hR.hr.sb b hb;simp;omega
theorem Rel.set(hR:Rel E β S st a w){l b:Nat}{o o':Ob}(ho:look st.h l=some o)(hb:β l=some b)(ac:∀k,k≠b->w'.heap[k]? = w.heap[k]?)(ar:w'.os=w.os)(ak:w'.tape=w.tape)(ao:w'.output=w.output)(an:w'.heap.size=w.heap.size)(hk:Keep β (look st.h) w β (look ((l,o')::rem l st.h)) w' l)(a3:ObR β S (look ((l,o')::rem l st.h)) w' l o') :
  Rel E β S ⟨st.n,st.tm,(l,o')::rem l st.h⟩ a w':=by
 have a2:∀k,look ((l,o')::rem l st.h) k=if k=l then some o' else look st.h k:=λk=>WW l k o' st.h
 have am:(look st.h l).isSome=true:=by simp[ho]
 have aa:∀k,(look ((l,o')::rem l st.h) k).isSome=true->(look st.h k).isSome=true:=by
  grind
 refine hR.upd (λ_ h=>h) (λk hS=>ac k (λe=>?_)) (λk=>k=l) (λk hk=>?_) (λk ai=>.inl (ai▸hk)) (λk az ai aw=>?_) ?_ ?_ ?_ ?_ hR.hr.sfr ?_
 ·subst e;exact hR.hr.apart l _ am hb hS
 ·refine⟨rfl,by simp_all,λk' hs aq=>ac k' (λe=>?_)⟩;subst e;exact hk (hR.hr.inj k l _ hs am aq hb)
 ·simp_all
 ·exact λk k' b' h1 h2 h3 h4=>hR.hr.inj k k' b' (aa k h1) (aa k' h2) h3 h4
 ·exact λk b' h1 h2=>hR.hr.apart k b' (aa k h1) h2
 ·exact λk b' h1 h2=>hR.hr.own k b' (aa k h1) h2
 ·intro k hS;rw[an];exact hR.hr.sb k hS
 ·have fr:=hR.hr.fr;refine⟨ar.trans fr.os,ak.trans fr.tape,ao.trans fr.output,by rw[an];exact fr.size,λk ai hM=>(ac k (λe=>?_)).trans (fr.block k ai hM)⟩;rcases hR.hr.own l _ am hb with h | h
  all_goals grind
end
end Go.Vx
namespace Go.Vx
variable{hl:Nat->oP Ob} {ev:Operand->AV} {β:Nat->oP Nat} {S:Nat->Prop} {w:World} {h:Nat->oP Ob} {tm:Nat->Value} {v:Value}
section
variable{P:Program} {E:Env} {R:Type}
theorem Ae(v:Value):RdA β S h w tm v (Pr v):=by
 unfold Pr;split
 ·exact .d _ _ (.int _ _)
 ·exact .d _ _ (.bool _)
 ·exact .d _ _ (.str _)
 ·exact .nil
 ·exact .top _
theorem Q9w{av:AV}(hv:RdA β S h w tm v av)(ho:Q3i av=true):v.oneCell'=true:=by
 cases hv<;>simp[Q3i]at ho<;>try rfl
 ·rename_i hx;cases hx<;>rfl
 ·assumption
theorem DY{av:AV}(ho:Q3i av=true):Q0U av=true:=by
 cases av with
 |fn f l=>assumption
 |_=>trivial
theorem Qa8(h:v.oneCell'=true):v.cells = #[v]:=by cases v<;>simp[Value.oneCell']at h<;>rfl
theorem RdA.to_tm0{av:AV}(hg:Q0U av=true)(hv:RdA β S h w tm v av):RdA β S h w tm0 v av:=by
 refine RdA.mono hv (λ_ hb=>hb) (λ_ _=>rfl) (λl _=>Keep.rfl_ ..) (λt ht=>?_)
 grind[R1]
theorem ME{av:AV}(hv:RdA β S h w tm v av)(ho:(Y0 av).all Q3i=true) :
  v.cells.size=(Y0 av).length/\(∀(i:Nat) (x:AV),(Y0 av)[i]? = some x->RdA β S h w tm (v.cells.getD i undef) x)/\∀u∈v.cells.toList,u.oneCell'=true:=by
 cases av with
 |ag l=>
  obtain⟨cs,rfl,ac,hr⟩:=hv.ag_inv;refine⟨ac,hr,λu hu=>?_⟩;obtain⟨i,hi,rfl⟩:=List.getElem_of_mem hu;have aa:i<cs.size:=by assumption
  have h1:l[i]? = some (l[i]'Q0):=Qpm Q0;have h2:=hr i _ h1;have h3:Q3i (l[i]'Q0)=true:=by
   grind[Y0,List.all_eq_true,List.getElem_mem]
  have h4:=Q9w h2 h3;have h5:cs.getD i undef=cs[i]:=by simp[Array.getD,aa]
  grind[Value.cells]
 |fs s rows=>
  obtain⟨ad,rfl,hr⟩:=hv.fs_inv;refine⟨rfl,λi x hx=>?_,λu hu=>?_⟩
  ·cases i with
   |zero=>simp[Y0]at hx;subst hx;exact .d _ _ hr
   |succ i=>trivial
  ·simp[Value.cells]at hu;subst hu;rfl
 |_=>
  all_goals
   simp only[Y0,List.all_cons,List.all_nil,Bool.and_true]at ho
   first
    |have h1:=Q9w hv ho
     rw[Qa8 h1];refine⟨rfl,λi x hx=>?_,λu hu=>?_⟩
     ·cases i with
      |zero=>simp[Y0]at hx;subst hx;simpa[Array.getD]using hv
      |succ i=>simp[Y0]at hx
     simp_all
    |(simp[Q3i]at ho)
theorem US{aa:Nat}{o:Ob}{v:AV}{wr:List (Nat×oP Ob)}{rd:List Nat}{k:Dl->oP R}{r:R}(h:EQ hl aa o v wr rd k=some r) :
  hl aa=none/\k ⟨v,wr++[(aa,some o)],rd⟩=some r:=by
 grind[EQ]
theorem QeB(n:Nat):Qjg n (0,0):=λ_ _ h=>by omega
theorem BS{o:Oper}{aa:Nat}{cells:List AV}{ty:TypeId}(hn:hl aa=none)(ao:Q5m ty cells)(h:∀β S st a w,Rel E β S st a w->Bw β S st a w o ev->∃cs:Array Value,(execOp a.eval o).run P w = .ok (.value (.pointer (some ⟨w.heap.size,0,none⟩))) (w.alloc (.cells cs ty))/\cs.size=cells.length /\
   ∀(i:Nat) (x:AV),cells[i]? = some x->Q0U x=true/\((RdA β S (look st.h) w (tmv a) (cs.getD i undef) x/\(Uu st aa=true->Yr aa x=false))\/∃t,x = .sa aa t/\cs.getD i undef = .pointer none)) :
  K3 P E o ev hl ⟨.ptr aa 0,[]++[(aa,some (.box cells))],[]⟩:=by
 intro β S st a w hR hO hA a2 K Q hK;obtain⟨cs,ai,am,aq⟩:=h β S st a w hR hO;have ar:look st.h aa=none:=by rw[hA aa (.inr (by simp[wrL]))];exact hn
 have hc:Uu st aa=true:=by grind[Wo]
 unfold Oper.wp;rw[ai];refine hK _ _ ⟨RF β aa (some w.heap.size),S,?_,?_⟩
 ·refine hR.new ar hc ⟨w.heap.size,ty,cs,(0,0),by simp[RF],J5 _ _,⟨QeB _,ao⟩,am,λi x hx=>?_⟩;obtain⟨h1,aw⟩:=aq i x hx;rcases aw with⟨h2,h3⟩|⟨t,rfl,hp⟩
  case inr=>exact .sa _ _ _ w.heap.size (by simp[RF]) (.inl hp)
  refine(h2.to_tm0 h1).mono (λ_ hb=>hb) (λb hb=>YP _ _ (hR.hr.sb b hb)) (λl az=>?_) (λ_ _=>rfl);have ac:l≠aa:=λe=>by simp_all
  exact⟨by simp[RF,ac],λh=>by rw[WW,Qpj ac];exact h,λe s rows h=>.inr ⟨rows,by rw[WW,Qpj ac];exact h,rfl⟩,
   λb an ak fz hs hb hw=>⟨an,ak,fz,by rw[YP _ _ (Kv hR (by rw[WW,Qpj ac]at hs;exact hs) hb)];exact hw,rfl⟩,λ_ f h=>.inr ⟨f,by rw[WW,Qpj ac];exact h⟩⟩
 ·exact .ptr _ _ _ (by simp[RF])
theorem Ai(l:Nat)(v:Value):Yr l (Pr v)=false:=by
 unfold Pr;split<;>rfl
theorem Q7U(v:Value):Q0U (Pr v)=true:=by
 unfold Pr;split<;>rfl
theorem Q8B{tt:TT}(hT:TOk P tt){o:Oper}{t:TypeId}(ho:o.op = .alloc t){aa:Nat}{ti:TyI}(am:look tt t=some ti)(hn:hl aa=none) :
  K3 P E o ev hl ⟨.ptr aa 0,[]++[(aa,some (.box (Q1v aa t ti)))],[]⟩:=by
 obtain⟨inf,ao,_,_,z,hz,an⟩:=(hT t ti am).inf;have ai:Q5m t (Q1v aa t ti):=by
  intro i l t' hi;simp only[Q1v,Qph,Qpc]at hi;obtain⟨v,_,hv⟩:=hi;unfold Q6o at hv;split at hv
  ·injection hv
  ·unfold Pr at hv
   grind
 refine BS (ty:=t) hn ai λβ S st a w hR hO=>⟨z.cells,?_,?_,λi x hx=>?_⟩
 ·simp_all [execOp,Instr.alloc,zeroValue,Yy,newVar,newRow]
 ·grind[Array.length_toList,Q1v]
 ·simp only[Q1v,Qph,Qpc]at hx;obtain⟨v,hv,rfl⟩:=hx;have:z.cells.getD i undef=v:=by
   rw[<- an]at hv;obtain⟨hi,he⟩:=Qp7.1 hv;have ak:i<z.cells.size:=Q0
   simp only[Array.getD,ak,dite_true]
   assumption
  rw[this];unfold Q6o;split
  ·exact⟨rfl,.inr ⟨t,rfl,rfl⟩⟩
  grind[Q7U,Ae,Ai]
theorem Q1z{st:St}{aa:Nat}(hc:Uu st aa=true)(x:Operand):Yr aa (evO st.tm x)=false:=by
 cases x with
 |tmp t=>
  simp only[evO,lkT];cases h:look st.tm t with
  |none=>rfl
  |some av=>grind[Q7n]
 |const v=>exact Ai aa v
 |_=>rfl
theorem Q3U{l i:Nat}{r:List AV}{x:AV}(h:r[i]? = some x)(hn:G6 l r=false):Yr l x=false:=by
 grind[Yr,Sr]
theorem Q0x{l:Nat}{av:AV}(h:Yr l av=false):G6 l (Y0 av)=false:=by
 cases av<;>simp_all [Y0,G6,Yr]
theorem QbD{o:Oper}{t:TypeId}{x:Operand}(ho:o.op = .box t x){ac:Nat}(aa:(Y0 (ev x)).all Q3i=true)(hn:hl ac=none) :
  K3 P E o ev hl ⟨.ptr ac 0,[]++[(ac,some (.box (Y0 (ev x))))],[]⟩:=by
 have ai:x∈o.op.operands.toList:=by grind[Op.operands]
 have ak:Q5m t (Y0 (ev x)):=by
  intro i l t' hi;rw[Qpq]at aa;have:=aa _ (Qpf hi);trivial
 refine BS (ty:=t) hn ak λβ S st a w hR hO=>?_
 obtain⟨h1,h2,_⟩:=ME (hO.at ai) aa;refine⟨(a.eval x).cells,?_,h1,λi y hy=>⟨?_,.inl ⟨h2 i y hy,λhc=>Q3U hy (Q0x (hO.nm ai hc))⟩⟩⟩
 ·simp_all [execOp,Instr.box,newVar,newRow]
 grind[List.all_eq_true,DY,List.mem_of_getElem?]
structure Wrote(b:Nat)(cs:Array Value)(ty:TypeId)(fz:Nat×Nat)(w w':World):Prop where
 blk:w'.heap[b]? = some (.cells cs ty fz)
 oth:∀k,k≠b->w'.heap[k]? = w.heap[k]?
 os:w'.os=w.os
 tape:w'.tape=w.tape
 output:w'.output=w.output
 size:w'.heap.size=w.heap.size
theorem QaK{b o:Nat}{cs:Array Value}{ty:TypeId}{fz:Nat×Nat}(h:w.heap[b]? = some (.cells cs ty fz))(v:Value):Wrote b (cs.setIfInBounds o v) ty fz w (w.setCell ⟨b,o,none⟩ v):=by
 refine⟨?_,λk hk=>?_,rfl,rfl,rfl,by simp_all⟩
 ·simp[World.setCell,Array.getElem?_modify,h]
 ·simp only[World.setCell,Array.getElem?_modify]
  grind
theorem Wrote.trans{b:Nat}{cs ac:Array Value}{ty:TypeId}{fz:Nat×Nat}{w w' ai:World}(h:Wrote b cs ty fz w w')(h':Wrote b ac ty fz w' ai):Wrote b ac ty fz w ai:=
 ⟨h'.blk,λk hk=>(h'.oth k hk).trans (h.oth k hk),h'.os.trans h.os,h'.tape.trans h.tape,h'.output.trans h.output,h'.size.trans h.size⟩
def Tw(cs:Array Value):Nat->List Value->Array Value
 |_,[]=>cs
 |o,v::r=>Tw (cs.setIfInBounds o v) (o+1) r
theorem U5:∀(vs:List Value) (cs:Array Value) (o:Nat),(Tw cs o vs).size=cs.size
 |[],_,_=>rfl
 |v::r,cs,o=>by simp[Tw,U5 r]
theorem SI:∀(vs:List Value) (cs:Array Value) (o j:Nat),o+vs.length<=cs.size->(Tw cs o vs)[j]? = if o<=j/\j<o+vs.length then vs[j-o]? else cs[j]?
 |[],cs,o,j,_=>by simp[Tw];intro h1 h2;omega
 |v::r,cs,o,j,h=>by
  simp only[Qpw]at h;rw[Tw,SI r _ (o+1) j Q3];simp only[Qpw];by_cases h1:o+1<=j/\j<o+1+r.length
  ·rw[Qpn h1,Qpn Q0];rw[show j-o=(j-(o+1))+1 from Q0];simp
  ·rw[Qpj h1];by_cases h2:j=o
   ·subst h2;rw[Qpn Q0];simp[Array.getElem?_setIfInBounds];omega
   ·rw[Qpj Q0];rw[Array.getElem?_setIfInBounds,Qpj Q0]
theorem Gl(b o:Nat)(ty:TypeId)(fz:Nat×Nat):∀(vs:List Value) (i:Nat) (cs:Array Value) (w:World),w.heap[b]? = some (.cells cs ty fz)->Qjg cs.size fz->o+i+vs.length<=cs.size->(∀v∈vs,v.oneCell'=true) ->
  ∃w',(storeCells ⟨b,o,none⟩ vs i).run P w = .ok () w'/\Wrote b (Tw cs (o+i) vs) ty fz w w'
 |[],i,cs,w,h,_,_,_=>⟨w,by rfl,⟨h,λ_ _=>rfl,rfl,rfl,rfl,rfl⟩⟩
 |v::r,i,cs,w,h,hf,ak,h1=>by
  simp only[Qpw]at ak;have ac:o+i<cs.size:=Q0
  have ai:w.cell? ⟨b,o+i,none⟩=some (cs.getD (o+i) undef):=by rw[Jb h];simp_all
  have ao:w.frozen? ⟨b,o+i,none⟩=false:=by
   have:=hf (o+i) ac
   grind[World.frozen?]
  have an:=run_store P w ⟨b,o+i,none⟩ v .plain (h1 v Q2);have hw:=QaK (o:=o+i) h v;obtain⟨w',am,aa⟩:=Gl b o ty fz r (i+1) (cs.setIfInBounds (o+i) v) (w.setCell ⟨b,o+i,none⟩ v) hw.blk Q4 Q3 (λu hu=>h1 u (by simp[hu]));refine⟨w',?_,hw.trans aa⟩
  grind[storeCells,Sem.run_bind,Jy,Result.andThen_ok]
theorem SS:∀{vs cells cs:List AV} {off:Nat},Mr cells off vs=some cs->cs.length=cells.length/\vs.all Q3i=true/\(vs≠[]->off+vs.length<=cells.length) /\
  ∀j:Nat,cs[j]? = if off<=j/\j<off+vs.length then vs[j-off]? else cells[j]?
 |[],cells,cs,off,h=>by
  simp[Mr]at h;subst h;refine⟨rfl,rfl,λh=>absurd rfl h,λj=>?_⟩;rw[Qpj Q2]
 |v::r,cells,cs,off,h=>by
  unfold Mr at h;cases hc:(Q3i v&&Nat.ble (off+1) cells.length)with
  |false=>simp[hc]at h
  |true=>
   simp only[hc,Qpb]at h;simp only[Qp8]at hc;have ai:=Qpi hc.2;obtain⟨h1,h2,h3,h4⟩:=SS h;simp only[List.length_set]at h1 h3;refine⟨h1,by simp[hc.1,h2],λ_=>?_,λj=>?_⟩
   ·by_cases hr:r=[]
    ·subst hr;simp;omega
    ·have:=h3 hr;simp;omega
   ·rw[h4 j];simp only[Qpw];by_cases e1:off+1<=j/\j<off+1+r.length
    ·rw[Qpn e1,Qpn Q0,show j-off=(j-(off+1))+1 from Q0];simp
    ·rw[Qpj e1];by_cases e2:j=off
     ·subst e2;rw[Qpn Q0,Qpr Q0];simp
     ·rw[Qpj Q0,Qps Q0]
end
end Go.Vx
namespace Go.Vx
section
variable{P:Program} {E:Env} {R:Type}
theorem Q1E{cs aa:Array Value}{i j:Nat}(h:cs[i]? = aa[j]?):cs.getD i undef=aa.getD j undef:=by
 simp_all
theorem Pa{t:Nat}{ti:TyI}(ht:TyOk P t ti){w w':World}{ad:Addr}{v:Value}(hs:v.cells.size=ti.size)(h:(storeCells ad v.cells.toList).run P w = .ok () w'):(storeVar t ad v).run P w = .ok () w':=by
 simp only[storeVar,Qpa,ht.size,Qp6]
 simp_all
theorem Pn{o:Oper}{t:TypeId}{x y:Operand}(ho:o.op = .store t x y){a:Act}{w w':World}{ad:Addr}(hx:a.eval x = .pointer (some ad))(hv:(storeVar t ad (a.eval y)).run P w = .ok () w') :
  (execOp a.eval o).run P w = .ok .skip w':=by
 simp_all [execOp,Instr.storeAt,Instr.sureAddr]
theorem Q04:∀{l:List AV} {ds:List D},Qez l=some ds->l=ds.map .d
 |[],ds,h=>by simp[Qez]at h;subst h;rfl
 |a::r,ds,h=>by
  cases a with
  |d x=>
   simp only[Qez]at h;split at h
   ·rename_i l' aa;cases h;rw[Q04 aa];rfl
   ·cases h
  |_=>simp[Qez]at h
theorem Q6L:∀(ds:List D) (row:List D) (off j:Nat),off+ds.length<=row.length->(Qdr row off ds)[j]? = if off<=j/\j<off+ds.length then ds[j-off]? else row[j]?
 |[],row,off,j,_=>by simp[Qdr];intro h1 h2;omega
 |v::r,row,off,j,h=>by
  simp only[Qpw]at h;rw[Qdr,Q6L r _ (off+1) j Q3];simp only[Qpw];by_cases h1:off+1<=j/\j<off+1+r.length
  ·rw[Qpn h1,Qpn Q0,show j-off=(j-(off+1))+1 from Q0];simp
  ·rw[Qpj h1];by_cases h2:j=off
   ·subst h2;rw[Qpn Q0,Qpr Q0];simp
   ·rw[Qpj Q0,Qps Q0]
theorem AM:∀(ds:List D) (row:List D) (off:Nat),(Qdr row off ds).length=row.length
 |[],_,_=>rfl
 |v::r,row,off=>by simp[Qdr,AM r]
theorem DN(ds:List D):(ds.map AV.d).all Q3i=true:=by
 grind[Q3i]
theorem Q8d{tt:TT}(hT:TOk P tt){o:Oper}{t:TypeId}{x y:Operand}(ho:o.op = .store t x y){ev:Operand->AV}{hl:Nat->oP Ob}{k:Dl->oP R}{r:R}(h:QaT tt hl t (ev x) (ev y) k=some r):∃dl,k dl=some r/\K3 P E o ev hl dl:=by
 have b8:x∈o.op.operands.toList:=by grind[Op.operands]
 have bz:y∈o.op.operands.toList:=by simp[ho,Op.operands]
 unfold QaT at h;split at h
 case h_2=>cases h
 rename_i ti cp;have b5:=hT t ti cp;cases az:Nat.beq (Y0 (ev y)).length ti.size with
 |false=>simp[az]at h
 |true=>
  simp only[az,Qpb]at h;have a2:=Qp9 az;split at h
  ·-- a box
   rename_i l off bp;split at h
   ·rename_i cells ba;split at h
    ·rename_i cs cg;refine⟨_,h,?_⟩;intro β S st a w hR hO hA cr K Q hK;obtain⟨h1,h2,h3,h4⟩:=SS cg;obtain⟨b,hb,hx⟩:=(bp▸hO.at b8).ptr_inv;have ac:look st.h l=some (.box cells):=by rw[hA l (.inl Q2)];exact ba
     obtain⟨b',ty,vs,fz,a4,hw,⟨hf,cf⟩,bd,bb⟩:=hR.hr.ob l _ ac;obtain rfl:b=b':=by rw[hb]at a4;injection a4
     obtain⟨c1,c2,c3⟩:=ME (hO.at bz) h2;have bj:off+(a.eval y).cells.toList.length<=vs.size\/(a.eval y).cells.toList.length=0:=by
      by_cases bv:Y0 (ev y)=[]
      ·right;simp[c1,bv]
      ·left;have:=h3 bv;simp[c1];omega
     have b3:off+0+(a.eval y).cells.toList.length<=vs.size\/(a.eval y).cells.toList=[]:=by
      rcases bj with h | h
      ·left;simpa using h
      ·right;exact Qpg h
     obtain⟨w',a6,aa⟩:∃w',(storeCells ⟨b,off,none⟩ (a.eval y).cells.toList 0).run P w = .ok () w'/\Wrote b (Tw vs off (a.eval y).cells.toList) ty fz w w':=by
      rcases b3 with h | h
      ·exact Gl b off ty fz _ 0 vs w hw hf h c3
      ·rw[h];exact⟨w,by simp[storeCells],⟨hw,λ_ _=>rfl,rfl,rfl,rfl,rfl⟩⟩
     have b6:Q5m ty cs:=by
      intro i l' t' hi;rw[h4 i]at hi;split at hi
      ·rw[Qpq]at h2;have:=h2 _ (Qpf hi);simp[Q3i]at this
      ·exact cf i l' t' hi
     have ak:∀j,(Tw vs off (a.eval y).cells.toList)[j]? = if off<=j/\j<off+(Y0 (ev y)).length then(a.eval y).cells[j-off]? else vs[j]?:=by
      intro j;rcases bj with h | h
      ·rw[SI _ _ _ _ h];simp[c1]
      ·have hn:(a.eval y).cells.toList=[]:=Qpg h;rw[hn,Qpj (by rw[<- c1,<- Qpk,hn];simp)];rfl
     unfold Oper.wp;rw[Pn ho hx (Pa b5 (by rw[c1];exact a2) a6)];refine hK undef _ ⟨β,S,?_,.top _⟩;have ar:∀k',look ((l,Ob.box cs)::rem l st.h) k'=if k'=l then some (.box cs)else look st.h k':=λk'=>WW l k' _ st.h
     have ai:Keep β (look st.h) w β (look ((l,.box cs)::rem l st.h)) w' l:=by
      refine⟨rfl,λh=>?_,λe s rows h=>?_,λb2 bn bl bq _ aq ao=>?_,λt f h=>by rw[ac]at h;cases h⟩
      ·rw[ac]at h;cases h
      ·rw[ac]at h;cases h
      ·rw[hb]at aq;injection aq with e;subst e
       rw[hw]at ao;injection ao with e;injection e with e1 e2 e3;subst e1
       exact⟨_,_,_,aa.blk,U5 _ _ _⟩
     have a3:∀l',Keep β (look st.h) w β (look ((l,.box cs)::rem l st.h)) w' l':=by
      intro l';by_cases e:l'=l
      ·subst e;exact ai
      ·exact⟨rfl,λh=>by rw[ar,Qpj e];exact h,λe' s rows h=>.inr ⟨rows,by rw[ar,Qpj e];exact h,rfl⟩,
        λb2 bn bl bq b4 aq ao=>⟨bn,bl,bq,by rw[aa.oth b2 (λe2=>by subst e2;rw[ar,Qpj e]at b4;exact e (hR.hr.inj l' l _ b4 (by simp[ac]) aq hb))];exact ao,rfl⟩,λ_ f h=>.inr ⟨f,by rw[ar,Qpj e];exact h⟩⟩
     refine hR.set ac hb aa.oth aa.os aa.tape aa.output aa.size ai ⟨b,ty,_,fz,hb,aa.blk,⟨by rw[U5];exact hf,b6⟩,by rw[U5,bd,h1],λi z hz=>?_⟩;rw[h4 i]at hz;by_cases e:off<=i/\i<off+(Y0 (ev y)).length
     ·rw[Qpn e]at hz;have bm:(Tw vs off (a.eval y).cells.toList).getD i undef=(a.eval y).cells.getD (i-off) undef:=Q1E (by rw[ak i,Qpn e]);rw[bm];have hn:Q0U z=true:=DY (by rw[Qpq]at h2;exact h2 z (Qpf hz));exact((c2 (i-off) z hz).to_tm0 hn).mono (λ_ h=>h) (λk' hS=>aa.oth k' (λe2=>by subst e2;exact hR.hr.apart l _ (by simp[ac]) hb hS)) (λl' _=>a3 l') (λ_ _=>rfl)
     ·rw[Qpj e]at hz;have bm:(Tw vs off (a.eval y).cells.toList).getD i undef=vs.getD i undef:=Q1E (by rw[ak i,Qpj e]);rw[bm];exact(bb i z hz).mono (λ_ h=>h) (λk' hS=>aa.oth k' (λe2=>by subst e2;exact hR.hr.apart l _ (by simp[ac]) hb hS)) (λl' _=>a3 l') (λ_ _=>rfl)
    ·cases h
   ·cases h
  ·-- an array of the call's own
   rename_i l i off bp;split at h
   ·rename_i e s rows b1;split at h
    ·rename_i ds ck;obtain⟨row,h,b9⟩:=Qz h;have am:=b9 rfl;cases a5:Nat.ble (off+ds.length) s with
     |false=>simp[a5]at h
     |true=>
      simp only[a5,Qpb]at h;have bj:=Qpi a5;refine⟨_,h,?_⟩;intro β S st a w hR hO hA cr K Q hK;have bo:=Q04 ck;have ac:look st.h l=some (.arr e s rows):=by rw[hA l (.inl Q2)];exact b1
      obtain⟨b,hb,hx⟩:=RdA.ap_inv ac (bp▸hO.at b8);rcases hR.hr.ob l _ ac with⟨_,hn⟩|⟨b',vs,a4,hw,bd,bi,bb⟩
      ·subst hn;simp at am
      obtain rfl:b=b':=by rw[hb]at a4;injection a4
      obtain⟨c1,c2,c3⟩:=ME (hO.at bz) (by rw[bo];exact DN ds);have b7:(a.eval y).cells.size=ds.length:=by rw[c1,bo];simp
      have hi:i<rows.length:=(Qp7.1 am).1;have cn:row.length=s:=bi i row am;have cv:(i+1)*s<=rows.length*s:=Qpd s hi;have cq:(i+1)*s=i*s+s:=Qpz i s;have bc:i*s+off+(a.eval y).cells.toList.length<=vs.size:=by simp[b7];omega
      obtain⟨w',a6,aa⟩:=Gl (P:=P) b (i*s+off) e (0,0) (a.eval y).cells.toList 0 vs w hw (QeB _) (by simpa using bc) c3;simp only[Nat.add_zero]at aa;have ak:∀j,(Tw vs (i*s+off) (a.eval y).cells.toList)[j]? = if i*s+off<=j/\j<i*s+off+ds.length then(a.eval y).cells[j-(i*s+off)]? else vs[j]?:=by
       intro j;rw[SI _ _ _ _ bc];simp[b7]
      unfold Oper.wp;rw[Pn ho hx (Pa b5 (by rw[c1];exact a2) a6)];refine hK undef _ ⟨β,S,?_,.top _⟩;have bh:∀k',S k'->w'.heap[k']? = w.heap[k']?:=λk' hS=>aa.oth k' (λe2=>by subst e2;exact hR.hr.apart l _ (by simp[ac]) hb hS)
      have ai:Keep β (look st.h) w β (look ((l,.arr e s (rows.set i (Qdr row off ds)))::rem l st.h)) w' l:=by
       refine⟨rfl,λh=>?_,λe' s' cj h=>?_,λb2 bn bl bq _ aq ao=>?_,λt f h=>by rw[ac]at h;cases h⟩
       ·rw[ac]at h;cases h
       ·rw[ac]at h;injection h with h;injection h with g1 g2 g3;subst g1;subst g2;subst g3
        exact .inr ⟨_,by rw[WW,Qpn rfl],by simp⟩
       ·rw[hb]at aq;injection aq with e;subst e
        rw[hw]at ao;injection ao with e;injection e with e1 e2 e3;subst e1
        exact⟨_,_,_,aa.blk,U5 _ _ _⟩
      refine hR.set ac hb aa.oth aa.os aa.tape aa.output aa.size ai (.inr ⟨b,_,hb,aa.blk,by rw[U5];simpa using bd,λi' r' ay=>?_,λi' j' r' z h4 h5=>?_⟩)
      ·by_cases e2:i'=i
       ·subst e2;rw[Qpr hi]at ay;injection ay with ay;subst ay
        rw[AM];exact cn
       ·rw[Qps Q0]at ay;exact bi i' r' ay
      ·by_cases e2:i'=i
       ·subst e2;rw[Qpr hi]at h4;injection h4 with h4;subst h4
        rw[Q6L _ _ _ _ Q0]at h5;by_cases e3:off<=j'/\j'<off+ds.length
        ·rw[Qpn e3]at h5;have hj:j'-off<(a.eval y).cells.size:=Q0
         refine⟨(a.eval y).cells.getD (j'-off) undef,?_,?_⟩
         ·rw[ak,Qpn Q0,show i'*s+j'-(i'*s+off)=j'-off from Q0];exact KF hj
         ·exact(c2 (j'-off) (.d z) (by rw[bo];simp[h5])).d_inv.mono (λ_ h=>h) bh
        ·rw[Qpj e3]at h5;obtain⟨u,hu,bk⟩:=bb i' j' row z am h5;exact⟨u,by rw[ak,Qpj Q0];exact hu,bk.mono (λ_ h=>h) bh⟩
       ·rw[Qps Q0]at h4;obtain⟨u,hu,bk⟩:=bb i' j' r' z h4 h5;refine⟨u,?_,bk.mono (λ_ h=>h) bh⟩;have cy:j'<s:=by
         have:=bi i' r' h4;have:=(Qp7.1 h5).1;omega
        rw[ak,Qpj ?_]
        ·exact hu
        ·rcases Nat.lt_or_gt_of_ne e2 with ce | cm
         ·have:(i'+1)*s<=i*s:=Qpd s ce;have:(i'+1)*s=i'*s+s:=Qpz i' s;omega
         ·have:(i+1)*s<=i'*s:=Qpd s cm;omega
    ·cases h
   ·cases h
  ·cases h
end
section
variable{P:Program} {E:Env} {R:Type}
theorem Fv{α β:Type}{f:α->Sem β}{g:α->β}{w:World}:∀(l:List α),(∀x∈l,(f x).run P w = .ok (g x) w)->(l.mapM f).run P w = .ok (l.map g) w
 |[],_=>by simp
 |a::l,h=>by
  have h1:=h a Q2;have h2:=Fv l (λx hx=>h x (by simp[hx]));simp[List.mapM_cons,h1,h2]
theorem Q4O{α β:Type}{f:α->Sem β}{g:α->β}{w:World}(l:Array α)(h:∀x∈l.toList,(f x).run P w = .ok (g x) w):(l.mapM f).run P w = .ok (l.map g) w:=by
 have h1:=Fv (P:=P) l.toList h;rw[<- Array.toList_mapM,Sem.run_map]at h1;cases hr:(l.mapM f).run P w with
 |ok b w'=>
  rw[hr]at h1;simp only[Qp6,Result.ok.injEq]at h1;obtain⟨h2,rfl⟩:=h1;congr 1;apply Array.ext'
  simp_all
 |halt x w'=>simp_all
theorem Q9d(off:Nat):∀(l:List Value) (k:Nat) (cs:Array Value),(l.zipIdx k).foldl (λcs x=>cs.setIfInBounds (off+x.2) x.1) cs=Tw cs (off+k) l
 |[],_,_=>rfl
 |v::r,k,cs=>by
  simp only[List.zipIdx_cons,List.foldl_cons,Tw];rw[Q9d off r (k+1)];rfl
theorem Qcb(off:Nat)(vs cs:Array Value):vs.zipIdx.foldl (λcs x=>cs.setIfInBounds (off+x.2) x.1) cs=Tw cs off vs.toList:=by
 rw[<- Array.foldl_toList,Array.toList_zipIdx,Q9d];rfl
theorem Q4G{aa:Nat->oP (Nat×Nat)}{cells:Array Value}{i off size:Nat}{v:Value}{rest:List (Nat×Value)}(hp:aa i=some (off,size))(hs:v.cells.size=size)(hf:off+size<=cells.size) :
  Instr.fill aa cells ((i,v)::rest)=Instr.fill aa (Tw cells off v.cells.toList) rest:=by
 grind[Instr.fill,Qcb]
theorem D5{tt:TT}{fields:List (Nat×Nat)}{ai:Nat->oP (Nat×Nat)}(ao:∀(i off t:Nat) (ti:TyI),fields[i]? = some (off,t)->look tt t=some ti->ai i=some (off,ti.size)){β:Nat->oP Nat}{S:Nat->Prop}{h:Nat->oP Ob}{w:World}{tm:Nat->Value}{ρ:Operand->Value}{ev:Operand->AV} :
  ∀(ac:List (Nat×Operand)) (cells aa:List AV) (cs:Array Value),(∀p∈ac,RdA β S h w tm (ρ p.2) (ev p.2))->cs.size=cells.length ->
   (∀(i:Nat) (x:AV),cells[i]? = some x->RdA β S h w tm (cs.getD i undef) x)->Q11 fields tt cells (Vj ev ac)=some aa ->
   ∃am,Instr.fill ai cs (ac.map λp=>(p.1,ρ p.2))=some am/\am.size=aa.length /\
    ∀(i:Nat) (x:AV),aa[i]? = some x->RdA β S h w tm (am.getD i undef) x
 |[],cells,aa,cs,_,h1,h2,h3=>by
  grind[Vj,Q11,Instr.fill]
 |(i,x)::ac,cells,aa,cs,hp,h1,h2,h3=>by
  simp only[Vj,Q11]at h3;split at h3
  case h_2=>cases h3
  rename_i off t hf;split at h3
  case h_2=>cases h3
  rename_i ti ax;cases hc:(Nat.beq (Y0 (ev x)).length ti.size&&Nat.ble (off+ti.size) cells.length)with
  |false=>simp_all
  |true=>
   simp only[hc,Qpb]at h3;simp only[Qp8]at hc;have hl:=Qp9 hc.1;have a5:=Qpi hc.2;split at h3
   case h_2=>cases h3
   rename_i ay ar;obtain⟨g1,g2,g3,g4⟩:=SS ar;obtain⟨c1,c2,c3⟩:=ME (hp (i,x) Q2) g2;have ak:=ao i off t ti hf ax;have aq:off+(ρ x).cells.toList.length<=cs.size:=by simp[c1,hl];omega
   rw[QpA,Q4G ak (by rw[c1];exact hl) Q0];refine D5 ao ac ay aa _ (λp aw=>hp p (by simp[aw])) (by rw[U5,h1,g1]) (λj y hy=>?_) h3;have az:(Tw cs off (ρ x).cells.toList)[j]? = if off<=j/\j<off+(Y0 (ev x)).length then(ρ x).cells[j-off]? else cs[j]?:=by
    rw[SI _ _ _ _ aq];simp[c1]
   rw[g4 j]at hy;by_cases e:off<=j/\j<off+(Y0 (ev x)).length
   all_goals simp_all [Qpn,Tw,undef,Q1E,Qpj]
theorem Q41{t:TypeId}{aa:Array (Nat×Operand)}{o:Oper}(ho:o.op = .build t aa){p:Nat×Operand}(hp:p∈aa.toList):p.2∈o.op.operands.toList:=by
 grind[Op.operands]
theorem Q8j{tt:TT}(hT:TOk P tt){o:Oper}{t:TypeId}{ac:Array (Nat×Operand)}(ho:o.op = .build t ac){ev:Operand->AV}{hl:Nat->oP Ob}{ti:TyI}(bl:look tt t=some ti)(hs:UV ti.kd=true){cs:List AV}(h:Q11 ti.fields tt (Dn ti) (Vj ev ac.toList)=some cs):K3 P E o ev hl ⟨.ag cs,[],[]⟩:=by
 have ay:=hT t ti bl;obtain⟨inf,ak,_,_,z,hz,bj⟩:=ay.inf;refine QE λβ S st a w hR hO hA=>?_
 have a9:z.cells.size=(Dn ti).length:=by grind[Array.length_toList,Dn]
 have a6:∀(i:Nat) (x:AV),(Dn ti)[i]? = some x->RdA β S (look st.h) w (tmv a) (z.cells.getD i undef) x:=by
  intro i x hx;simp only[Dn,Qph,Qpc]at hx;obtain⟨v,hv,rfl⟩:=hx;have:z.cells.getD i undef=v:=by
   rw[<- bj]at hv;obtain⟨hi,he⟩:=Qp7.1 hv;have bb:i<z.cells.size:=by simpa using hi
   simp only[Array.getD,bb,dite_true];simpa using he
  grind[Ae]
 have ao:(ac.map λx=>(x.1,a.eval x.2)).toList=ac.toList.map λp=>(p.1,a.eval p.2):=by simp
 cases hk:ti.kd with
 |struct=>
  obtain⟨fs,hu,bd,a4⟩:=ay.kstruct hk;let sz:Field->Nat:=λf=>((P.info? f.type).map (·.size)).getD 0
  have aw:∀f∈fs.toList,∃i,P.info? f.type=some i/\i.size=sz f:=λf hf=>by
   obtain⟨i,hi,_⟩:=a4 f hf;exact⟨i,hi,by simp[sz,hi]⟩
  have az:∀(i off t:Nat) (ai:TyI),ti.fields[i]? = some (off,t)->look tt t=some ai->(fs.map λf=>(f.offset,sz f))[i]? = some (off,ai.size):=by
   intro i off t ai hf an;rw[<- bd,Qph,Qpc]at hf;obtain⟨fd,a3,he⟩:=hf;injection he with he1 he2
   obtain⟨inf,ak,a5⟩:=aw fd (Qpf a3);obtain⟨a2,aa,aq,_⟩:=(hT t ai an).inf;rw[<- he2,ak]at aa;injection aa with aa
   subst aa;have ba:fs[i]? = some fd:=by simpa using a3
   simp[ba,he1,<- a5,aq]
  obtain⟨ax,h1,h2,h3⟩:=D5 az (ρ:=a.eval) ac.toList _ _ z.cells (λp hp=>hO.at (Q41 ho hp)) a9 a6 h;refine⟨.agg ax,?_,.ag _ _ h2 h3⟩;have hm:=Q4O (P:=P) (w:=w) (f:=λf:Field=>do pure (f.offset,<- sizeOf f.type)) (g:=λf=>(f.offset,sz f)) fs (λf hf=>by
   obtain⟨i,hi,he⟩:=aw f hf;simp[sizeOf,Yy hi,he])
  unfold execOp;rw[ho];simp only[Instr.build,Qpa,zeroValue,Yy ak,hz,X6 hu,Qp6,Qpt,hm,ao,h1]
 |array e esz n=>
  obtain⟨hu,bo,⟨i0,a8,a7⟩,bh,am⟩:=ay.karr e esz n hk;have az:∀(i off t:Nat) (ai:TyI),ti.fields[i]? = some (off,t)->look tt t=some ai->(λi=>some (i*esz,esz)) i=some (off,ai.size):=by
   intro i off t ai hf an;rw[am,Qph,Qpc]at hf;obtain⟨j,hj,he⟩:=hf;have bi:j=i:=by
    have:=Qp7.1 hj;obtain⟨h1,h2⟩:=this;simp at h2;omega
   injection he with he1 he2
   obtain⟨a2,aa,aq,_⟩:=(hT t ai an).inf;rw[<- he2,a8]at aa;injection aa with aa
   subst aa;simp only[Option.some.injEq,Prod.mk.injEq];exact⟨by rw[<- he1,bi],Q0⟩
  obtain⟨ax,h1,h2,h3⟩:=D5 az (ρ:=a.eval) ac.toList _ _ z.cells (λp hp=>hO.at (Q41 ho hp)) a9 a6 h;refine⟨.agg ax,?_,.ag _ _ h2 h3⟩;have bk:(sizeOf e).run P w = .ok esz w:=by simp[sizeOf,Yy a8,a7]
  unfold execOp;rw[ho];simp only[Instr.build,Qpa,zeroValue,Yy ak,hz,X6 hu,Qp6,Qpt,bk,ao,h1]
 |_=>simp[hk,UV]at hs
def UW(S:Nat->Prop)(w:World)(cs:Array Value)(s:Nat)(rows:List (List D)):Prop:=
 rows.length*s<=cs.size/\(∀(i:Nat) (r:List D),rows[i]? = some r->r.length=s)/\∀(i j:Nat) (r:List D) (x:D),rows[i]? = some r->r[j]? = some x->∃v,cs[i*s+j]? = some v/\Rd S w v x
theorem Q3H:∀{z:List D} {l:List AV} {ds:List D},QaV z l=some ds->ds.length=z.length/\l.length=z.length/\l.all Q3i=true/\(∀t,∀x∈l,gds t x=false) /\
  ∀(β:Nat->oP Nat) (S:Nat->Prop) (h:Nat->oP Ob) (w:World) (tm:Nat->Value) (vs:Nat->Value),(∀(i:Nat) (x:AV),l[i]? = some x->RdA β S h w tm (vs i) x)->∀(i:Nat) (d:D),ds[i]? = some d->Rd S w (vs i) d
 |[],[],ds,h=>by
  grind[QaV]
 |[],_::_,ds,h=>by trivial
 |_::_,[],ds,h=>by simp[QaV]at h
 |z::zs,a::r,ds,h=>by
  simp only[QaV]at h;split at h
  case h_2=>cases h
  rename_i l hl;obtain⟨h1,h2,h3,h4,h5⟩:=Q3H hl;have fin:∀d0,ds=d0::l->Q3i a=true->(∀t,gds t a=false)->(∀(β:Nat->oP Nat) (S:Nat->Prop) (h:Nat->oP Ob) (w:World) (tm:Nat->Value) (v:Value),RdA β S h w tm v a->Rd S w v d0) ->
    ds.length=(z::zs).length/\(a::r).length=(z::zs).length/\(a::r).all Q3i=true/\(∀t,∀x∈a::r,gds t x=false) /\
    ∀(β:Nat->oP Nat) (S:Nat->Prop) (h:Nat->oP Ob) (w:World) (tm:Nat->Value) (vs:Nat->Value),(∀(i:Nat) (x:AV),(a::r)[i]? = some x->RdA β S h w tm (vs i) x)->∀(i:Nat) (d:D),ds[i]? = some d->Rd S w (vs i) d:=by
   intro d0 hd ho hg hr;subst hd;refine⟨by simp[h1],by simp[h2],by simp[ho,h3],λt x hx=>?_,λβ S h w tm vs hv i d hi=>?_⟩
   ·grind
   ·cases i with
    |zero=>simp at hi;subst hi;exact hr β S h w tm _ (hv 0 a rfl)
    |succ i=>exact h5 β S h w tm (λi=>vs (i+1)) (λi x hx=>hv (i+1) x Q4) i d Q4
  split at h
  ·rename_i x;cases h;exact fin x rfl rfl (λ_=>rfl) (λ_ _ _ _ _ _ hv=>hv.d_inv)
  ·split at h
   ·cases h;exact fin _ rfl rfl (λ_=>rfl) (λ_ _ _ _ _ v hv=>by rw[hv.nil_inv];exact .sl0 _ _ _)
   ·cases h;exact fin _ rfl rfl (λ_=>rfl) (λ_ _ _ _ _ v hv=>by rw[hv.nil_inv];exact .nl)
   ·cases h
  ·cases h
end
end Go.Vx
namespace Go.Vx
variable{hl:Nat->oP Ob} {ev:Operand->AV} {S:Nat->Prop} {o:Oper}
section
variable{P:Program} {E:Env} {R:Type}
theorem UW.mono{S S':Nat->Prop}{w w':World}{cs:Array Value}{s:Nat}{rows:List (List D)}(h:UW S w cs s rows)(hS:∀b,S b->S' b)(hw:∀b,S b->w'.heap[b]? = w.heap[b]?):UW S' w' cs s rows:=
 ⟨h.1,h.2.1,λi j r x h1 h2=>by
  obtain⟨v,hv,hr⟩:=h.2.2 i j r x h1 h2;exact⟨v,hv,hr.mono hS hw⟩⟩
theorem UW.set{S:Nat->Prop}{w:World}{cs:Array Value}{s:Nat}{rows:List (List D)}(h:UW S w cs s rows){i:Nat}{row:List D}{vs:Array Value}(hi:i<rows.length)(hl:row.length=s)(a3:vs.size=s)(hr:∀(j:Nat) (d:D),row[j]? = some d->Rd S w (vs.getD j undef) d):UW S w (Tw cs (i*s) vs.toList) s (rows.set i row):=by
 obtain⟨h1,h2,h3⟩:=h;have ay:(i+1)*s<=rows.length*s:=Qpd s hi;have aq:(i+1)*s=i*s+s:=Qpz i s;have ax:i*s+vs.toList.length<=cs.size:=by grind
 have ak:∀j,(Tw cs (i*s) vs.toList)[j]? = if i*s<=j/\j<i*s+s then vs[j-i*s]? else cs[j]?:=by
  grind[SI]
 refine⟨by grind[U5],λi' r' az=>?_,λi' j' r' x h4 h5=>?_⟩
 ·grind
 ·by_cases e2:i'=i
  ·subst e2;rw[Qpr hi]at h4;injection h4 with h4;subst h4
   have hj:j'<s:=by have:=(Qp7.1 h5).1;omega
   refine⟨vs.getD j' undef,?_,hr j' x h5⟩
   simp_all
  ·rw[Qps Q0]at h4;obtain⟨u,hu,ar⟩:=h3 i' j' r' x h4 h5;refine⟨u,?_,ar⟩;have a2:j'<s:=by
    have:=h2 i' r' h4;have:=(Qp7.1 h5).1;omega
   rw[ak,Qpj ?_]
   ·exact hu
   ·rcases Nat.lt_or_gt_of_ne e2 with am | ao
    ·have:(i'+1)*s<=i*s:=Qpd s am;have:(i'+1)*s=i'*s+s:=Qpz i' s;omega
    ·have:(i+1)*s<=i'*s:=Qpd s ao;omega
theorem UW.zero{S:Nat->Prop}{w:World}{zero:Array Value}{z:List D}{n m:Nat}(hz:z.length=zero.size)(hr:∀(j:Nat) (x:D),z[j]? = some x->∃v,zero[j]? = some v/\Rd S w v x)(ak:n<=m) :
  UW S w ((Array.range (m*zero.size)).map (zero[· % zero.size]!)) zero.size (List.replicate n z):=by
 refine⟨by simp_all [Qpd],λi r h=>?_,λi j r x h1 h2=>?_⟩
 ·grind
 ·rw[List.getElem?_replicate]at h1;split at h1
  case isFalse=>cases h1
  rename_i hi;injection h1 with h1;subst h1
  obtain⟨v,hv,hx⟩:=hr j x h2;refine⟨v,?_,hx⟩;have hj:j<zero.size:=(Qpl.1 hv).1;have ai:(i+1)*zero.size<=m*zero.size:=Qpd _ Q0;have aa:(i+1)*zero.size=i*zero.size+zero.size:=Qpz i _;have ac:(i*zero.size+j) % zero.size=j:=by rw[Nat.add_comm,Nat.add_mul_mod_self_right];exact Nat.mod_eq_of_lt hj
  grind
theorem Au{aa e s:Nat}{rows:List (List D)}{rd:List Nat}(hn:hl aa=none)(h:∀β S st a w,Rel E β S st a w->Bw β S st a w o ev->(∀l,l∈rd->look st.h l=hl l)->∃(cs:Array Value) (cap:Nat),(execOp a.eval o).run P w = .ok (.value (.slice (some ⟨w.heap.size,0,none⟩) rows.length cap)) (w.alloc (.cells cs e))/\cs.size=cap*s/\rows.length<=cap/\cap<=maxLen/\UW S w cs s rows) :
  K3 P E o ev hl ⟨.arr aa,[]++[(aa,some (.arr e s rows))],rd⟩:=by
 intro β S st a w hR hO hA ax K Q hK;obtain⟨cs,cap,ak,am,ac,ai,h1,h2,h3⟩:=h β S st a w hR hO (λl an=>hA l (.inl an));have ao:look st.h aa=none:=by rw[hA aa (.inr (by simp[wrL]))];exact hn
 have hc:Uu st aa=true:=by grind[Wo]
 unfold Oper.wp;rw[ak];refine hK _ _ ⟨RF β aa (some w.heap.size),S,?_,?_⟩
 ·refine hR.new ao hc (.inr ⟨w.heap.size,cs,by simp[RF],J5 _ _,h1,h2,λi j r x h4 h5=>?_⟩);obtain⟨v,hv,hr⟩:=h3 i j r x h4 h5;exact⟨v,hv,hr.mono (λ_ hb=>hb) (λb hb=>YP _ _ (hR.hr.sb b hb))⟩
 ·exact .arr aa w.heap.size cap e s rows cs e (0,0) (by simp[RF]) (by simp[MA,WW]) (J5 _ _) am ac ai
theorem Qbv{β:Nat->oP Nat}{st:St}{a:Act}{w:World}(hR:Rel E β S st a w)(aa:Obj):Rel E β (λb=>S b\/b=w.heap.size) st a (w.alloc aa):=by
 have:=hR.upd (w':=w.alloc aa) (β':=β) (S':=λb=>S b\/b=w.heap.size) (H':=st.h) (λ_ h=>.inl h) (λb hb=>YP w aa (hR.hr.sb b hb)) (λ_=>False)
  (λl _=>⟨rfl,rfl,λb hs hb=>YP w aa (Kv hR hs hb)⟩) (λl h=>h.elim) (λl o h=>h.elim) hR.hr.inj
  (λl b hs hb hS=>by
   rcases hS with hS | hS
   ·exact hR.hr.apart l b hs hb hS
   ·have:=Kv hR hs hb;omega)
  hR.hr.own
  (λb hS=>by
   simp;rcases hS with hS | hS
   ·have:=hR.hr.sb b hS;omega
   ·omega)
  (λb hS=>by
   rcases hS with hS | hS
   ·exact hR.hr.sfr b hS
   ·right;right;have:=hR.hr.fr.size;omega)
  (Q7I hR.hr.fr aa)
 exact this
theorem UW.rd{w:World}{b cap s:Nat}{cs:Array Value}{ty:TypeId}{fz:Nat×Nat}{rows:List (List D)}(h:UW S w cs s rows)(hb:w.heap[b]? = some (.cells cs ty fz))(hS:S b)(aa:rows.length<=cap) :
  Rd S w (.slice (some ⟨b,0,none⟩) rows.length cap) (.sl s rows):=by
 obtain⟨h1,h2,h3⟩:=h;refine .sl _ cap s rows (λi j=>cs.getD (i*s+j) undef) hS aa h2 (λi j r x h4 h5=>?_) (λi j r x h4 h5=>?_)
 ·obtain⟨v,hv,_⟩:=h3 i j r x h4 h5;rw[Jy,Nat.zero_add,Jb hb]
  simp_all
 grind[undef,KF,Array.getElem?_eq_some_iff]
theorem Q4U{e s:Nat}{rows:List (List D)}{rd:List Nat}(h:∀β S st a w,Rel E β S st a w->Bw β S st a w o ev->∃(cs:Array Value) (cap:Nat),(execOp a.eval o).run P w = .ok (.value (.slice (some ⟨w.heap.size,0,none⟩) rows.length cap)) (w.alloc (.cells cs e))/\rows.length<=cap/\UW S w cs s rows) :
  K3 P E o ev hl ⟨.d (.sl s rows),[],rd⟩:=by
 intro β S st a w hR hO hA am K Q hK;obtain⟨cs,cap,ac,aa,h1⟩:=h β S st a w hR hO;unfold Oper.wp;rw[ac];refine hK _ _ ⟨β,λb=>S b\/b=w.heap.size,Qbv hR _,.d _ _ ?_⟩;exact(h1.mono (λ_ hb=>.inl hb) (λb hb=>YP _ _ (hR.hr.sb b hb))).rd (J5 _ _) (.inr rfl) aa
theorem Cd{β:Nat->oP Nat}{S:Nat->Prop}{h:Nat->oP Ob}{w:World}{tm:Nat->Value}{ρ:Operand->Value}{ev:Operand->AV}{z:List D} :
  ∀(ac:List (Nat×Operand)) (rows aa:List (List D)) (cs:Array Value),(∀p∈ac,RdA β S h w tm (ρ p.2) (ev p.2))->UW S w cs z.length rows->cs.size=rows.length*z.length ->
   Lm z rows (Vj ev ac)=some aa ->
   ∃ai,Instr.fill (λi=>some (i*z.length,z.length)) cs (ac.map λp=>(p.1,ρ p.2))=some ai/\UW S w ai z.length aa/\ai.size=cs.size/\aa.length=rows.length
 |[],rows,aa,cs,_,h1,h2,h3=>by
  simp[Vj,Lm]at h3;subst h3;exact⟨cs,by simp[Instr.fill],h1,rfl,rfl⟩
 |(i,x)::ac,rows,aa,cs,hp,h1,h2,h3=>by
  simp only[Vj,Lm]at h3;split at h3
  case h_2=>cases h3
  rename_i row am;cases hc:Nat.ble (i+1) rows.length with
  |false=>simp[hc]at h3
  |true=>
   simp only[hc,Qpb]at h3;have hi:=Qpi hc;obtain⟨t1,t2,t3,_,t5⟩:=Q3H am;obtain⟨c1,c2,_⟩:=ME (hp (i,x) Q2) t3;have ar:(i+1)*z.length<=rows.length*z.length:=Qpd _ hi;have aq:(i+1)*z.length=i*z.length+z.length:=Qpz i _;have ao:Instr.fill (λi=>some (i*z.length,z.length)) cs ((i,ρ x)::ac.map λp=>(p.1,ρ p.2))=_:=Q4G (i:=i) (off:=i*z.length) (size:=z.length) rfl (by rw[c1,t2]) Q0;rw[QpA,ao];have ak:=h1.set (i:=i) (row:=row) (vs:=(ρ x).cells) Q0 t1 (by rw[c1,t2]) (λj d hd=>t5 β S h w tm (λj=>(ρ x).cells.getD j undef) c2 j d hd);obtain⟨ai,g1,g2,g3,g4⟩:=Cd ac (rows.set i row) aa _ (λp an=>hp p (by simp[an])) ak (by rw[U5,h2];simp) h3;exact⟨ai,g1,g2,by rw[g3,U5],by rw[g4];simp⟩
theorem Q0R{t:TypeId}{n:Nat}{aa:Array (Nat×Operand)}(ho:o.op = .buildSlice t n aa){p:Nat×Operand}(hp:p∈aa.toList):p.2∈o.op.operands.toList:=by
 grind[Op.operands]
theorem Qes{tt:TT}(hT:TOk P tt){e:Nat}{ei:TyI}(ai:look tt e=some ei)(ac:ei.zd.length=ei.size){w:World}{z:Value}(hz:z.cells.toList=ei.zero):∀(j:Nat) (x:D),ei.zd[j]? = some x->∃v,z.cells[j]? = some v/\Rd S w v x:=by
 intro j x hx;obtain⟨v,hv,hr⟩:=(hT e ei ai).zd ac j x hx
 grind
theorem NV{tt:TT}(hT:TOk P tt){t:TypeId}{len:Nat}{aa:Array (Nat×Operand)}(ho:o.op = .buildSlice t len aa){u:Bool}{a9:Nat}{k:Dl->oP R}{r:R}(h:KI tt hl a9 u t len (Vj ev aa.toList) k=some r):∃dl,k dl=some r/\K3 P E o ev hl dl:=by
 unfold KI at h;split at h
 case h_2=>cases h
 rename_i e esz hk;cases hc:(Nat.ble (len*esz) 16777216&&(look tt e).isSome&&Nat.beq (M0 tt e).length esz)with
 |false=>simp_all
 |true=>
  simp only[hc,Qpb]at h;simp only[Qp8]at hc;have bl:=Qpi hc.1.1;obtain⟨ei,ay⟩:=Option.isSome_iff_exists.1 hc.1.2;have ai:=Qp9 hc.2;have bb:M0 tt e=ei.zd:=by grind[M0]
  rw[bb]at ai h;split at h
  case h_2=>cases h
  rename_i rows aw;obtain⟨ti,bh,bc⟩:=XC hk Q2;obtain⟨hu,a4,inf,ak,ar⟩:=(hT t ti bh).ksl _ _ bc;obtain⟨bk,ac,a2,_,z,hz,a8⟩:=(hT e ei ay).inf;rw[ak]at ac;injection ac with ac
  subst ac;have an:z.cells.size=esz:=by rw[<- Qpk,a8,(hT e ei ay).zlen,<- a2,ar]
  have a7:∀β S st a w,Rel E β S st a w->Bw β S st a w o ev->∃cs:Array Value,(execOp a.eval o).run P w = .ok (.value (.slice (some ⟨w.heap.size,0,none⟩) rows.length len)) (w.alloc (.cells cs e))/\cs.size=len*esz/\rows.length=len/\UW S w cs esz rows:=by
   intro β S st a w hR hO;have base:UW S w ((Array.range (len*z.cells.size)).map (z.cells[· % z.cells.size]!)) z.cells.size (List.replicate len ei.zd):=
    UW.zero (by rw[ai,an]) (Qes hT ay (by rw[ai,<- a2,ar]) a8) (Qpu _)
   rw[an]at base;obtain⟨bd,g1,g2,g3,g4⟩:=Cd (ρ:=a.eval) (ev:=ev) (z:=ei.zd) aa.toList (List.replicate len ei.zd) rows _ (λp hp=>hO.at (Q0R ho hp)) (by rw[ai];exact base) (by simp[ai]) aw;rw[ai]at g1 g2;have am:rows.length=len:=by rw[g4];simp
   refine⟨bd,?_,by rw[g3];simp,am,g2⟩;have aq:(aa.map λx=>(x.1,a.eval x.2)).toList=aa.toList.map λp=>(p.1,a.eval p.2):=by simp
   have bi:¬ len*esz>2 ^ 24:=Q0
   unfold execOp;rw[ho];simp only[Instr.buildSlice,Qpa,X6 hu,sizeOf,Yy ak,ar,Qp6,Qpt,bi,if_false,aq];by_cases h0:len*esz=0
   ·have ao:((Array.range (len*esz)).map ((#[]:Array Value)[· % (#[]:Array Value).size]!))=((Array.range (len*esz)).map (z.cells[· % esz]!)):=by rw[h0];simp
    simp only[h0,if_true,Qpa,Qpt,Qp6];rw[h0]at ao g1;rw[ao,g1,am];simp[newRow]
   ·simp only[h0,if_false,Qpa,zeroValue,Yy ak,hz,Qp6,Qpt,an,g1];simp[newRow,am]
  have ax:len<=maxLen:=by
   have:len*1<=len*esz:=Qpv len a4;unfold maxLen;omega
  cases u with
  |true=>
   simp only[Qpb]at h;obtain⟨hn,h⟩:=US h;refine⟨_,h,Au hn λβ S st a w hR hO _=>?_⟩;obtain⟨cs,g1,g2,g3,g4⟩:=a7 β S st a w hR hO;exact⟨cs,len,g1,g2,Q0,ax,g4⟩
  |false=>
   simp only[cond_false]at h;refine⟨_,h,Q4U (e:=e) λβ S st a w hR hO=>?_⟩;obtain⟨cs,g1,g2,g3,g4⟩:=a7 β S st a w hR hO;exact⟨cs,len,g1,Q0,g4⟩
theorem NW{n:Nat}{u:Unit}(h:Y5 n=some u):n<=140737488355328:=by
 unfold Y5 at h;cases hb:Nat.ble n 140737488355328 with
 |true=>simp_all
 |false=>simp_all
theorem Qak{tt:TT}(hT:TOk P tt){t:TypeId}{l c:Operand}(ho:o.op = .makeSlice t l c){u:Bool}{a4:Nat}{k:Dl->oP R}{r:R}(h:QdJ tt hl a4 u t (ev l) (ev c) k=some r):∃dl,k dl=some r/\K3 P E o ev hl dl:=by
 unfold QdJ at h;cases u with
 |false=>simp at h
 |true=>
  simp only[Qpb]at h;split at h
  case h_2=>cases h
  rename_i e esz kn n km m hk a9 bi;split at h
  case h_2=>cases h
  rename_i ei ao;cases hc:(Nat.ble 1 ei.bytes&&Nat.beq (M0 tt e).length esz)with
  |false=>simp_all
  |true=>
   simp only[hc,Qpb]at h;simp only[Qp8]at hc;have an:=Qpi hc.1;have aw:=Qp9 hc.2;have a7:M0 tt e=ei.zd:=by simp[M0,ao]
   rw[a7]at aw h;obtain⟨_,h,bh⟩:=Qz h;obtain⟨_,h,ac⟩:=Qz h;have ac:=NW (ac rfl);have bn:0<=n/\n<=m:=by
    have:=bh rfl;cases hd:(decide (0<=n)&&decide (n<=m))with
    |true=>simpa using hd
    |false=>simp[hd]at this
   obtain⟨hn,h⟩:=US h;obtain⟨ti,bc,ba⟩:=XC hk Q2;obtain⟨hu,bl,inf,ai,ax⟩:=(hT t ti bc).ksl _ _ ba;obtain⟨bk,aa,ay,bb,z,hz,a3⟩:=(hT e ei ao).inf;rw[ai]at aa;injection aa with aa
   subst aa;have ak:z.cells.size=esz:=by rw[<- Qpk,a3,(hT e ei ao).zlen,<- ay,ax]
   have bj:m.toNat<=140737488355328:=Nat.le_trans (by have:=Qpv m.toNat an;omega) ac;have bd:IntKind.i64.wrap m=m:=by unfold IntKind.wrap;simp[IntKind.bits,IntKind.signed];omega
   have a6:IntKind.i64.wrap n=n:=by unfold IntKind.wrap;simp[IntKind.bits,IntKind.signed];omega
   refine⟨_,h,Au hn λβ S st a w hR hO _=>?_⟩;have az:=(a9▸hO.at (x:=l) (by simp[ho,Op.operands])).int_inv;have a2:=(bi▸hO.at (x:=c) (by simp[ho,Op.operands])).int_inv;have base:UW S w ((Array.range (m.toNat*z.cells.size)).map (z.cells[· % z.cells.size]!)) z.cells.size (List.replicate n.toNat ei.zd):=
    UW.zero (by rw[aw,ak]) (Qes hT ao (by rw[aw,<- ay,ax]) a3) Q0
   rw[ak]at base;refine⟨_,m.toNat,?_,?_,?_,?_,base⟩
   ·have am:(m<0||(inf.bytes:Int)*m>2 ^ 48)=false:=by
     rw[bb];have h1:((ei.bytes:Int)*m)=((m.toNat*ei.bytes:Nat):Int):=by
      rw[Int.natCast_mul,Int.toNat_of_nonneg Q0,Int.mul_comm]
     have h2:¬ m<0:=Q0
     have h3:¬ ((m.toNat*ei.bytes:Nat):Int)>2 ^ 48:=Q0
     rw[h1,decide_eq_false h2,decide_eq_false h3];rfl
    have a8:((m<0||(inf.bytes:Int)*m>2 ^ 48)||n<0||n>m)=false:=by
     rw[am];simp;omega
    unfold execOp;rw[ho];simp only[Instr.makeSlice,Qpa,X6 hu,asInt,asIntOf,az,a2,Yy ai,Qp6,Qpt,bd,a6,a8,Bool.false_eq_true,if_false,run_askRoom,sizeOf,ax];by_cases h0:m.toNat*esz=0
    ·have ar:((Array.range (m.toNat*esz)).map ((#[]:Array Value)[· % (#[]:Array Value).size]!))=((Array.range (m.toNat*esz)).map (z.cells[· % esz]!)):=by rw[h0];simp
     simp only[h0,if_true,Qpa,Qpt,Qp6];rw[h0]at ar;rw[ar];simp[newRow]
    ·simp only[h0,if_false,Qpa,zeroValue,Yy ai,hz,Qp6,Qpt,ak];simp[newRow]
   ·simp
   ·simp;omega
   ·unfold maxLen;omega
end
end Go.Vx
namespace Go.Vx
variable{β:Nat->oP Nat} {S:Nat->Prop} {w:World} {a:Act}
section
variable{P:Program} {E:Env} {R:Type}
theorem Rd.one{v:Value}{x:D}(h:Rd S w v x):v.oneCell'=true:=by cases h<;>rfl
structure Src(S:Nat->Prop)(w:World)(esz:Nat)(v:Value)(news:List (List D))(vals:List Value):Prop where
 form:(v = .slice none 0 0/\news=[])\/(∃c,v = .slice none 0 c/\news=[])\/∃(ad:Addr) (c:Nat),v = .slice (some ad) news.length c/\∀(j:Nat) (u:Value),vals[j]? = some u->w.cell? (ad.add j)=some u
 len:vals.length=news.length*esz
 one:∀u∈vals,u.oneCell'=true
 row:∀(i:Nat) (r:List D),news[i]? = some r->r.length=esz
 rd:∀(i j:Nat) (r:List D) (x:D),news[i]? = some r->r[j]? = some x->∃u,vals[i*esz+j]? = some u/\Rd S w u x
theorem Src.of_fun{esz:Nat}{news:List (List D)}{ad:Addr}{c:Nat}(f:Nat->Value)(ac:0<esz)(aa:∀(i:Nat) (r:List D),news[i]? = some r->r.length=esz)(hc:∀(i j:Nat) (r:List D) (x:D),news[i]? = some r->r[j]? = some x->w.cell? (ad.add (i*esz+j))=some (f (i*esz+j))/\Rd S w (f (i*esz+j)) x) :
  ∃vals,Src S w esz (.slice (some ad) news.length c) news vals:=by
 have split:∀q,q<news.length*esz->∃i j r x,q=i*esz+j/\news[i]? = some r/\r[j]? = some x:=by
  intro q hq;have hi:q / esz<news.length:=Nat.div_lt_of_lt_mul (by grind);have hj:q % esz<esz:=Nat.mod_lt _ ac;have h1:news[q / esz]? = some (news[q / esz]):=Qpm hi;have h2:=aa _ _ h1;refine⟨q / esz,q % esz,news[q / esz],(news[q / esz])[q % esz]'Q0,?_,h1,Qpm _⟩
  grind[Nat.mul_comm,Nat.div_add_mod]
 refine⟨(List.range (news.length*esz)).map f,⟨.inr (.inr ⟨ad,c,rfl,λj u hu=>?_⟩),by simp,λu hu=>?_,aa,λi j r x h1 h2=>?_⟩⟩
 ·grind
 ·obtain⟨q,hq,rfl⟩:=List.mem_map.1 hu;obtain⟨i,j',r,x,rfl,h1,h2⟩:=split q Q4;exact(hc i j' r x h1 h2).2.one
 ·have hi:i<news.length:=(Qp7.1 h1).1;have hj:j<esz:=by have:=aa i r h1;have:=(Qp7.1 h2).1;omega
  have ai:(i+1)*esz<=news.length*esz:=Qpd _ hi
  grind
theorem Q3x{esz:Nat}(ai:0<esz){hl:Nat->oP Ob}{av:AV}{news:List (List D)}{rx:List Nat}(h:Q0W esz hl av=some (news,rx)){st:St}(hR:Rel E β S st a w){v:Value}(hv:RdA β S (look st.h) w (tmv a) v av)(hA:∀l,l∈rx->look st.h l=hl l):∃vals,Src S w esz v news vals:=by
 have ac:∀v,(v = .slice none 0 0\/∃c,v = .slice none 0 c)->Src S w esz v [] []:=λv hv=>
  ⟨by grind,by simp,by simp,by simp,by simp⟩
 unfold Q0W at h;split at h
 ·rename_i s rows;cases hb:Nat.beq s esz with
  |false=>simp_all
  |true=>
   obtain rfl:=Qp9 hb;simp only[hb,Qpb,Option.some.injEq,Prod.mk.injEq]at h;obtain⟨rfl,rfl⟩:=h;rcases hv.d_inv.sl_inv with⟨rfl,ad,cap,rfl⟩|⟨ad,cap,c,rfl,hS,ak,am,hc,hr⟩
   ·cases ad with
    |none=>exact⟨[],ac _ (.inr ⟨cap,rfl⟩)⟩
    |some ad=>exact⟨[],⟨.inr (.inr ⟨ad,cap,rfl,by simp⟩),by simp,by simp,by simp,by simp⟩⟩
   ·refine Src.of_fun (λq=>c (q / s) (q % s)) ai am λi j r x h1 h2=>?_
    have hj:j<s:=by grind
    simp_all [Nat.add_comm,Nat.add_mul_div_right,Nat.div_eq_of_lt,Nat.zero_add,Nat.add_mul_mod_self_right,Nat.mod_eq_of_lt]
 ·cases h;exact⟨[],ac _ (.inl hv.nil_inv)⟩
 ·rename_i l;split at h
  ·rename_i e s rows a4;cases hb:Nat.beq s esz with
   |false=>simp[hb]at h
   |true=>
    obtain rfl:=Qp9 hb;simp only[hb,Qpb,Option.some.injEq,Prod.mk.injEq]at h;obtain⟨rfl,rfl⟩:=h;have ao:look st.h l=some (.arr e s rows):=by simp_all
    rcases RdA.arr_inv ao hv with⟨_,rfl,rfl⟩|⟨b,cap,cs,ty,fz,aq,rfl,hw,a5,ak,a3⟩
    ·exact⟨[],ac _ (.inl rfl)⟩
    ·rcases hR.hr.ob l _ ao with⟨hn,_⟩|⟨b2,ar,an,ax,am,ay,a2⟩
     ·rw[aq]at hn;cases hn
     obtain rfl:b=b2:=by rw[aq]at an;injection an
     refine Src.of_fun (λq=>ar.getD q undef) ai ay λi j r x h1 h2=>?_
     obtain⟨u,hu,az⟩:=a2 i j r x h1 h2;have aw:=(Qpl.1 hu).1;have aa:=KF aw;refine⟨by rw[Jy,Nat.zero_add,Jb ax];exact aa,?_⟩;rw[hu]at aa;injection aa with aa
     rw[<- aa];exact az
  ·cases h
 ·cases h
theorem Pq{t ty e:Nat}{i:TypeInfo}{z:Value}{esz base:Nat}(ht:P.underlying t=some (.slice e))(hi:P.info? e=some i)(hz:i.zero=some z)(am:i.size=esz)(ax:z.cells.size=esz)(ao:0<esz){v:Value}{n:Nat}{xs:List Value}(ai:w.ownsRow base e esz v n xs){x:Value}{news:List (List D)}{vals:List Value}(ac:Src S w esz x news vals)(ar:n+news.length<=maxLen)(ak:(n+news.length)*i.bytes<=140737488355328)(an:base<=w.heap.size) :
  ∃v' w',(Builtin.append_ #[t,t] ty #[v,x]).run P w = .ok v' w'/\w'.ownsRow base e esz v' (n+news.length) (xs++vals)/\w.grownBy w' v.ownBlock/\(v'.ownBlock=v.ownBlock\/v'.ownBlock=some w.heap.size):=by
 have aa:∀c,x = .slice none 0 c->news=[]->∃v' w',(Builtin.append_ #[t,t] ty #[v,x]).run P w = .ok v' w'/\w'.ownsRow base e esz v' (n+news.length) (xs++vals)/\w.grownBy w' v.ownBlock/\(v'.ownBlock=v.ownBlock\/v'.ownBlock=some w.heap.size):=by
  intro c hx hn;subst hx;subst hn;have hv:vals=[]:=Qpg (by simpa using ac.len);subst hv;refine⟨v,w,?_,by simpa using ai,⟨rfl,rfl,rfl,Qpu _,λ_ _ _=>rfl⟩,.inl rfl⟩;rcases ai.2 with⟨rfl,rfl⟩|⟨g,cap,a2,rfl,_,_,aw,_⟩
  ·simp[Builtin.append_,X6 ht,sizeOf,Yy hi,Builtin.lenOf,Builtin.firstCells]
  ·simp[Builtin.append_,X6 ht,sizeOf,Yy hi,Builtin.lenOf,Builtin.firstCells,aw,storeCells]
 rcases ac.form with⟨h1,h2⟩|⟨c,h1,h2⟩|⟨ad,c,rfl,hc⟩
 ·exact aa 0 h1 h2
 ·exact aa c h1 h2
 ·obtain⟨v',w',g1,g2,g3,_,g5⟩:=run_append_own_at (P:=P) w base t ty e i z esz i.bytes ht hi hz am rfl ax ao v n xs ai ad news.length c vals ac.len hc ac.one ar ak an;exact⟨v',w',g1,g2,g3,g5⟩
theorem GD{o:Oper}{c:Call}{s x:Operand}{t:Nat}(ho:o.op = .call c)(hc:c.callee = .builtin .append)(ha:c.args.toList=[s,x])(hat:c.argTypes.toList=[t,t]){w w':World}{v':Value}(h:(Builtin.append_ #[t,t] o.type #[a.eval s,a.eval x]).run P w = .ok v' w'):(execOp a.eval o).run P w = .ok (.value v') w':=by
 have ac:c.args = #[s,x]:=by grind
 have aa:c.argTypes = #[t,t]:=by grind
 simp_all [execOp,resolve,invoke,builtin,Qpa,Qpt,Qp6,List.map_toArray,QpA,List.map_nil]
def CJ(old:oP Nat)(h:List (Nat×Ob)):List (Nat×Ob):=
 match old with
 |some l=>rem l h
 |none=>h
theorem Ra{st:St}{w w':World}(hR:Rel E β S st a w){aa e esz:Nat}{rows news:List (List D)}{vals:List Value}(bn:∀(i j:Nat) (r:List D) (x:D),news[i]? = some r->r[j]? = some x->∃u,vals[i*esz+j]? = some u/\Rd S w u x)(bp:∀(i:Nat) (r:List D),news[i]? = some r->r.length=esz)(hn:look st.h aa=none)(hc:Uu st aa=true){v v':Value}{base:Nat}{xs:List Value}(old:oP Nat)(ak:∀l,old=some l->(look st.h l).isSome=true)(am:∀b,v.ownBlock=some b->∃l,old=some l/\β l=some b)(br:∀(i j:Nat) (r:List D) (y:D),rows[i]? = some r->r[j]? = some y->∃u,xs[i*esz+j]? = some u/\Rd S w u y)(bk:∀(i:Nat) (r:List D),rows[i]? = some r->r.length=esz)(bm:xs.length=rows.length*esz)(a6:w'.ownsRow base e esz v' (rows.length+news.length) (xs++vals))(hg:w.grownBy w' v.ownBlock)(hat:v'.ownBlock=v.ownBlock\/∀b,v'.ownBlock=some b->w.heap.size<=b) :
  ∃β' S',Rel E β' S' ⟨st.n,st.tm,(aa,.arr e esz (rows++news))::rem aa (CJ old st.h)⟩ a w' /\
   RdA β' S' (look ((aa,.arr e esz (rows++news))::rem aa (CJ old st.h))) w' (tmv a) v' (.arr aa):=by
 have ar:∀k,look ((aa,Ob.arr e esz (rows++news))::rem aa (CJ old st.h)) k=if k=aa then some (.arr e esz (rows++news))else if old=some k then none else look st.h k:=by
  intro k;rw[WW];by_cases e1:k=aa
  ·simp[e1]
  ·rw[Qpj e1,Qpj e1];cases old with
   |none=>simp[CJ]
   |some l=>
    simp only[CJ,B6,Option.some.injEq];by_cases e2:k=l
    ·simp[e2]
    ·rw[Qpj e2,Qpj (λh=>e2 h.symm)]
 have a8:∀b,S b->w'.heap[b]? = w.heap[b]?:=λb hS=>hg.block b (hR.hr.sb b hS) (λe1=>by
  obtain⟨l,hl,hb⟩:=am b e1.symm;exact hR.hr.apart l b (ak l hl) hb hS)
 have a3:∀k b,(look st.h k).isSome=true->old≠some k->β k=some b->w'.heap[b]? = w.heap[b]?:=λk b hs aq hb=>hg.block b (Kv hR hs hb) (λe1=>by
  obtain⟨l,hl,ao⟩:=am b e1.symm;exact aq (by rw[hl,hR.hr.inj k l b hs (ak l hl) hb ao]))
 have bv:(xs++vals).length=(rows.length+news.length)*esz:=a6.1;have a2:∀(i j:Nat) (r:List D) (y:D),(rows++news)[i]? = some r->r[j]? = some y->∃u,(xs++vals)[i*esz+j]? = some u/\Rd S w' u y:=by
  intro i j r y h1 h2;by_cases hi:i<rows.length
  ·rw[List.getElem?_append_left hi]at h1;obtain⟨u,hu,hr⟩:=br i j r y h1 h2;refine⟨u,?_,hr.mono (λ_ h=>h) a8⟩;rw[List.getElem?_append_left ((Qp7.1 hu).1)];exact hu
  ·rw[List.getElem?_append_right Q0]at h1;obtain⟨u,hu,hr⟩:=bn _ j r y h1 h2;refine⟨u,?_,hr.mono (λ_ h=>h) a8⟩;have hm:i*esz=(i-rows.length)*esz+rows.length*esz:=by rw[<- Nat.add_mul];congr 1;omega
   rw[List.getElem?_append_right Q0,bm,show i*esz+j-rows.length*esz=(i-rows.length)*esz+j from Q0];exact hu
 have ba:∀(i:Nat) (r:List D),(rows++news)[i]? = some r->r.length=esz:=by
  intro i r h1;by_cases hi:i<rows.length
  ·rw[List.getElem?_append_left hi]at h1;exact bk i r h1
  ·rw[List.getElem?_append_right Q0]at h1;exact bp _ r h1
 obtain⟨gb,aw,bo,bq⟩:∃gb:oP Nat,v'.ownBlock=gb/\(∀β',β' aa=gb->ObR β' S (look ((aa,Ob.arr e esz (rows++news))::rem aa (CJ old st.h))) w' aa (.arr e esz (rows++news))) /\
   ∀β',β' aa=gb->RdA β' S (look ((aa,.arr e esz (rows++news))::rem aa (CJ old st.h))) w' (tmv a) v' (.arr aa):=by
  rcases a6.2 with⟨rfl,h0⟩|⟨g,cap,bc,rfl,_,hw,a4,bl,bh,a7⟩
  ·have bi:rows++news=[]:=Qpg (by simpa using h0);refine⟨none,rfl,λβ' hb=>.inl ⟨hb,bi⟩,λβ' hb=>.arr0 aa e esz hb (by rw[ar,Qpn rfl,bi])⟩
  ·have bb:(rows++news).length=rows.length+news.length:=by simp
   refine⟨some g,rfl,λβ' hb=>.inr ⟨g,bc,hb,hw,?_,ba,λi j r y h1 h2=>?_⟩,λβ' hb=>?_⟩
   ·rw[bb,bh];exact Qpd _ a4
   ·obtain⟨u,hu,hr⟩:=a2 i j r y h1 h2;refine⟨u,?_,hr⟩;rw[<- a7,List.getElem?_take]at hu;split at hu
    ·simpa using hu
    ·cases hu
   ·have:=RdA.arr (S:=S) (tm:=tmv a) (h:=look ((aa,Ob.arr e esz (rows++news))::rem aa (CJ old st.h))) aa g cap e esz (rows++news) bc e (0,0) hb (by rw[ar,Qpn rfl]) hw bh (by rw[bb];exact a4) bl;rw[bb]at this;exact this
 have ay:∀k b,k≠aa->(look st.h k).isSome=true->old≠some k->β k=some b->gb=some b->False:=by
  intro k b _ hs aq hb he;rcases hat with h | h
  ·obtain⟨l,hl,ao⟩:=am b (by rw[<- h,aw,he]);exact aq (by rw[hl,hR.hr.inj k l b hs (ak l hl) hb ao])
  ·have:=h b (by rw[aw,he]);have:=Kv hR hs hb;omega
 have ai:∀k,k≠aa->(look ((aa,Ob.arr e esz (rows++news))::rem aa (CJ old st.h)) k).isSome=true->(look st.h k).isSome=true/\old≠some k:=by
  intro k hk hs;rw[ar,Qpj hk]at hs;by_cases e1:old=some k
  ·rw[Qpn e1]at hs;cases hs
  ·rw[Qpj e1]at hs;exact⟨hs,e1⟩
 have bj:old≠some aa:=λe1=>by have:=ak aa e1;rw[hn]at this;cases this
 refine⟨RF β aa gb,S,?_,bq _ (by simp[RF])⟩;refine hR.upd (λ_ h=>h) a8 (λk=>k=aa\/old=some k) (λk hk=>?_) (λk hk=>?_) (λk o hk ho=>?_) ?_ ?_ ?_ (λb hS=>Qpx (hR.hr.sb b hS) hg.size) hR.hr.sfr ?_
 ·have az:k≠aa:=λh=>hk (.inl h)
  have bd:old≠some k:=λh=>hk (.inr h)
  exact⟨by simp[RF,az],by rw[ar,Qpj az,Qpj bd],λb hs hb=>a3 k b hs bd hb⟩
 ·rcases hk with rfl | hk
  ·exact .inr hc
  ·left;have az:k≠aa:=λh=>bj (h▸hk)
   have an:look ((aa,Ob.arr e esz (rows++news))::rem aa (CJ old st.h)) k=none:=by rw[ar,Qpj az,Qpn hk]
   exact⟨by simp[RF,az],λ_=>an,λ_ _ _ _=>.inl an,λb cs ty fz hs=>(by rw[an]at hs;cases hs),λ_ _ _=>.inl an⟩
 ·by_cases e1:k=aa
  ·subst e1;rw[ar,Qpn rfl]at ho;injection ho with ho
   subst ho;exact bo _ (by simp[RF])
  ·rcases hk with h | h
   ·exact absurd h e1
   ·rw[ar,Qpj e1,Qpn h]at ho;cases ho
 ·intro k k' b h1 h2 h3 h4;unfold RF at h3 h4;by_cases e1:k=aa<;>by_cases e2:k'=aa
  ·rw[e1,e2]
  ·rw[Qpn e1]at h3;rw[Qpj e2]at h4;obtain⟨hs,aq⟩:=ai k' e2 h2;exact(ay k' b e2 hs aq h4 h3).elim
  ·rw[Qpj e1]at h3;rw[Qpn e2]at h4;obtain⟨hs,aq⟩:=ai k e1 h1;exact(ay k b e1 hs aq h3 h4).elim
  ·rw[Qpj e1]at h3;rw[Qpj e2]at h4;exact hR.hr.inj k k' b (ai k e1 h1).1 (ai k' e2 h2).1 h3 h4
 ·intro k b h1 h2 hS;unfold RF at h2;by_cases e1:k=aa
  ·rw[Qpn e1]at h2;rcases hat with h | h
   ·obtain⟨l,hl,ao⟩:=am b (by rw[<- h,aw,h2]);exact hR.hr.apart l b (ak l hl) ao hS
   ·have:=h b (by rw[aw,h2]);have:=hR.hr.sb b hS;omega
  ·rw[Qpj e1]at h2;exact hR.hr.apart k b (ai k e1 h1).1 h2 hS
 ·intro k b h1 h2;unfold RF at h2;by_cases e1:k=aa
  ·rw[Qpn e1]at h2;rcases hat with h | h
   ·obtain⟨l,hl,ao⟩:=am b (by rw[<- h,aw,h2]);exact hR.hr.own l b (ak l hl) ao
   ·have:=h b (by rw[aw,h2]);right;have:=hR.hr.fr.size;omega
  ·rw[Qpj e1]at h2;exact hR.hr.own k b (ai k e1 h1).1 h2
 ·have fr:=hR.hr.fr;refine⟨hg.os.trans fr.os,hg.tape.trans fr.tape,hg.output.trans fr.output,Nat.le_trans fr.size hg.size,λb hb hM=>(hg.block b (Qpx hb fr.size) (λe1=>?_)).trans (fr.block b hb hM)⟩;obtain⟨l,hl,ao⟩:=am b e1.symm;rcases hR.hr.own l b (ak l hl) ao with h | h
  ·exact hM h
  ·omega
theorem D7{st:St}{w w':World}(hR:Rel E β S st a w){aa e esz:Nat}{rows news:List (List D)}{vals:List Value}{x:Value}(ac:Src S w esz x news vals)(hn:look st.h aa=none)(hc:Uu st aa=true){v v':Value}{base:Nat}{xs:List Value}(old:oP Nat)(ak:∀l,old=some l->(look st.h l).isSome=true)(an:∀b,v.ownBlock=some b->∃l,old=some l/\β l=some b)(aq:∀(i j:Nat) (r:List D) (y:D),rows[i]? = some r->r[j]? = some y->∃u,xs[i*esz+j]? = some u/\Rd S w u y)(am:∀(i:Nat) (r:List D),rows[i]? = some r->r.length=esz)(ao:xs.length=rows.length*esz)(ai:w'.ownsRow base e esz v' (rows.length+news.length) (xs++vals))(hg:w.grownBy w' v.ownBlock)(hat:v'.ownBlock=v.ownBlock\/v'.ownBlock=some w.heap.size) :
  ∃β' S',Rel E β' S' ⟨st.n,st.tm,(aa,.arr e esz (rows++news))::rem aa (CJ old st.h)⟩ a w' /\
   RdA β' S' (look ((aa,.arr e esz (rows++news))::rem aa (CJ old st.h))) w' (tmv a) v' (.arr aa):=
 Ra hR ac.rd ac.row hn hc old ak an aq am ao ai hg (hat.imp id λh b hb=>by rw[h]at hb;injection hb with hb;omega)
theorem Q69{tt:TT}(hT:TOk P tt){o:Oper}{c:Call}{s x:Operand}{t:Nat}(ho:o.op = .call c)(ax:c.callee = .builtin .append)(ha:c.args.toList=[s,x])(hat:c.argTypes.toList=[t,t]){g:Bool}{ai:Nat}{ev:Operand->AV}{hl:Nat->oP Ob}{k:Dl->oP R}{r:R}(h:Q6g tt ai g hl t (ev s) (ev x) k=some r):∃dl,k dl=some r/\(g=true->K3 P E o ev hl dl):=by
 have bl:c.args = #[s,x]:=by grind
 have bp:s∈o.op.operands.toList:=by grind[Op.operands,Call.operands]
 have bn:x∈o.op.operands.toList:=by simp[ho,Op.operands,Call.operands,ax,bl]
 unfold Q6g at h
 ·split at h
  case h_2=>cases h
  rename_i e esz hk;split at h
  case h_2=>cases h
  rename_i ei cj;cases hc:(Nat.ble 1 ei.bytes&&Nat.beq ei.zero.length esz)with
  |false=>simp_all
  |true=>
   simp only[hc,Qpb]at h;simp only[Qp8]at hc;have aq:=Qpi hc.1;split at h
   case h_2=>cases h
   rename_i news rx ay;obtain⟨ti,cw,cm⟩:=XC hk Q2;obtain⟨hu,ak,inf,ar,a9⟩:=(hT t ti cw).ksl _ _ cm;obtain⟨cz,ao,c8,ba,z,hz,co⟩:=(hT e ei cj).inf;rw[ar]at ao;injection ao with ao
   subst ao;have a2:z.cells.size=esz:=by rw[<- Qpk,co];exact Qp9 hc.2
   split at h
   ·-- nil
    rename_i a7;obtain⟨_,h,aa⟩:=Qz h;obtain⟨hn,h⟩:=US h;refine⟨_,h,λhg=>?_⟩;have aa:=NW (aa hg);intro β S st a w hR hO hA a5 K Q hK;have am:look st.h ai=none:=by rw[hA ai (.inr (by simp[wrL]))];exact hn
    have a3:Uu st ai=true:=by simpa[Wo,am]using a5
    have hv:=(a7▸hO.at bp).nil_inv;obtain⟨vals,ac⟩:=Q3x ak ay hR (hO.at bn) (λl az=>hA l (.inl az));have bc:news.length<=140737488355328:=Nat.le_trans (by have:=Qpv news.length aq;omega) aa;obtain⟨v',w',g1,g2,g3,g4⟩:=Pq (ty:=o.type) hu ar hz a9 a2 ak (World.ownsRow_nil w w.heap.size e esz) ac (by unfold maxLen;omega) (by rw[ba];simpa using aa) (Qpu _);unfold Oper.wp;rw[GD ho ax ha hat (by rw[hv];exact g1)];refine hK _ _ ?_;have:=D7 (rows:=[]) (v:=.slice none 0 0) hR ac am a3 none (λ_ h=>by cases h) (λb h=>by simp[Value.ownBlock]at h) (λi j r y h1=>by simp at h1) (λi r h1=>by simp at h1) Q2 g2 g3 g4;exact this
   ·-- a full slice
    rename_i s0 rows a7;cases hb:Nat.beq s0 esz with
    |false=>simp[hb]at h
    |true=>
     simp only[hb,Qpb]at h;obtain rfl:=Qp9 hb;obtain⟨_,h,a6⟩:=Qz h;obtain⟨_,h,aa⟩:=Qz h;obtain⟨hn,h⟩:=US h;refine⟨_,h,λhg=>?_⟩;have aa:=NW (aa hg);have a6:news≠[]:=λe=>by have:=a6 hg;rw[e]at this;cases this
     intro β S st a w hR hO hA a5 K Q hK;have am:look st.h ai=none:=by rw[hA ai (.inr (by simp[wrL]))];exact hn
     have a3:Uu st ai=true:=by simpa[Wo,am]using a5
     obtain⟨ad,hv,bo⟩:=(a7▸hO.at bp).fs_inv;obtain⟨vals,ac⟩:=Q3x ak ay hR (hO.at bn) (λl az=>hA l (.inl az));have bc:rows.length+news.length<=140737488355328:=Nat.le_trans (by have:=Qpv (rows.length+news.length) aq;omega) aa;have dc:0<news.length:=List.length_pos_iff.2 a6;obtain⟨sa,sc,cn,cx⟩:∃(sa:Addr) (sc:Nat),a.eval x = .slice (some sa) news.length sc/\∀(j:Nat) (u:Value),vals[j]? = some u->w.cell? (sa.add j)=some u:=by
      rcases ac.form with⟨_,h2⟩|⟨_,_,h2⟩|⟨sa,sc,h1,h2⟩
      ·exact absurd h2 a6
      ·exact absurd h2 a6
      ·exact⟨sa,sc,h1,h2⟩
     obtain⟨ca,aw⟩:=Q3x (hl:=hl) (av:=.d (.sl s0 rows)) (news:=rows) (rx:=[]) ak (by simp[Q0W]) hR (.d _ _ bo) (λl az=>by cases az);have bd:∀c,a.eval s = .slice none 0 c->rows=[]->o.wp P a w K Q:=by
      intro c b7 a4;have cu:a.eval s = .slice none 0 0:=by
       rw[hv,a4]at b7 ⊢;injection b7 with h1 h2 h3
       rw[h1];rfl
      subst a4;obtain⟨v',w',g1,g2,g3,g4⟩:=Pq (ty:=o.type) hu ar hz a9 a2 ak (World.ownsRow_nil w w.heap.size e s0) ac (by unfold maxLen;omega) (by rw[ba];simpa using aa) (Qpu _);unfold Oper.wp;rw[GD ho ax ha hat (by rw[cu];exact g1)];refine hK _ _ ?_;exact D7 (rows:=[]) (v:=.slice none 0 0) hR ac am a3 none (λ_ h=>by cases h) (λb h=>by simp[Value.ownBlock]at h) (λi j r y h1=>by simp at h1) (λi r h1=>by simp at h1) Q2 g2 g3 g4
     rcases aw.form with⟨h1,h2⟩|⟨c,h1,h2⟩|⟨oa,oc,h1,h2⟩
     ·exact bd _ h1 h2
     ·exact bd _ h1 h2
     ·have db:oc=rows.length:=by
       rw[hv]at h1;injection h1 with _ _ h3
       exact h3.symm
      obtain⟨v',w',g1,g2,g3⟩:=run_append_arg_grows (P:=P) w t o.type e inf z s0 inf.bytes hu ar hz a9 rfl a2 ak oa rows.length oc ca aw.len h2 sa news.length sc vals ac.len cx Q0 (by unfold maxLen;omega) (by rw[ba];exact aa);unfold Oper.wp;rw[GD ho ax ha hat (by rw[h1,cn];exact g1)];refine hK _ _ ?_;refine Ra (rows:=rows) (v:=.slice none 0 0) hR ac.rd ac.row am a3 none (λ_ h=>by cases h) (λb h=>by simp[Value.ownBlock]at h) aw.rd aw.row aw.len g2 g3 (.inr λb hb=>?_);rcases g2.2 with⟨rfl,_⟩|⟨g,cap,c5,rfl,c9,_⟩
      ·simp[Value.ownBlock]at hb
      ·simp[Value.ownBlock]at hb;omega
   ·-- an array of the call's own
    rename_i l a7;split at h
    ·rename_i e' s' rows b0;cases hb:(Nat.beq e e'&&Nat.beq esz s')with
     |false=>simp[hb]at h
     |true=>
      simp only[hb,Qpb]at h;simp only[Qp8]at hb;obtain rfl:=Qp9 hb.1;obtain rfl:=Qp9 hb.2;obtain⟨_,h,aa⟩:=Qz h;obtain⟨hn,h⟩:=US h;refine⟨_,h,λhg=>?_⟩;have aa:=NW (aa hg);intro β S st a w hR hO hA a5 K Q hK;have am:look st.h ai=none:=by rw[hA ai (.inr (by simp[wrL]))];exact hn
      have a8:look st.h l=some (.arr e esz rows):=by rw[hA l (.inl Q2)];exact b0
      have a3:Uu st ai=true:=by simp[Wo,am]at a5;exact a5
      obtain⟨vals,ac⟩:=Q3x ak ay hR (hO.at bn) (λl az=>hA l (.inl (by simp[az])));have bc:rows.length+news.length<=140737488355328:=Nat.le_trans (by have:=Qpv (rows.length+news.length) aq;omega) aa;have fin:∀(base:Nat) (xs:List Value) (v:Value),a.eval s=v->w.ownsRow base e esz v rows.length xs->base<=w.heap.size->(∀b,v.ownBlock=some b->β l=some b) ->
        (∀(i j:Nat) (r:List D) (y:D),rows[i]? = some r->r[j]? = some y->∃u,xs[i*esz+j]? = some u/\Rd S w u y)->(∀(i:Nat) (r:List D),rows[i]? = some r->r.length=esz)->o.wp P a w K Q:=by
       intro base xs v hv bh bk b6 cr b9;obtain⟨v',w',g1,g2,g3,g4⟩:=Pq (ty:=o.type) hu ar hz a9 a2 ak bh ac (by unfold maxLen;omega) (by rw[ba];exact aa) bk;unfold Oper.wp;rw[GD ho ax ha hat (by rw[hv];exact g1)];refine hK _ _ ?_;exact D7 (rows:=rows) (v:=v) hR ac am a3 (some l) (λl' h=>by injection h with h;subst h;simp[a8]) (λb h=>⟨l,rfl,b6 b h⟩) cr b9 bh.1 g2 g3 g4
      rcases RdA.arr_inv a8 (a7▸hO.at bp)with⟨_,a4,hv⟩|⟨b,cap,cs,ty,fz,bm,hv,hw,b5,bz,cb⟩
      ·have:=World.ownsRow_nil w w.heap.size e esz;exact fin w.heap.size [] _ hv (by rw[a4];exact this) (Qpu _) (λb h=>by simp[Value.ownBlock]at h) (λi j r y h1=>by rw[a4]at h1;simp at h1) (λi r h1=>by rw[a4]at h1;simp at h1)
      ·rcases hR.hr.ob l _ a8 with⟨ce,_⟩|⟨b2,cq,b4,bj,c3,b1,bo⟩
       ·rw[bm]at ce;cases ce
       obtain rfl:b=b2:=by rw[bm]at b4;injection b4
       obtain rfl:cs=cq:=by rw[hw]at bj;injection bj with h1;injection h1
       refine fin 0 (cs.toList.take (rows.length*esz)) _ hv ⟨by simp;omega,.inr ⟨b,cap,cs,rfl,Nat.zero_le _,bj,bz,cb,b5,rfl⟩⟩ (Nat.zero_le _) (λb3 h=>by simp[Value.ownBlock]at h;subst h;exact bm) (λi j r y h1 h2=>?_) b1;obtain⟨u,cg,cp⟩:=bo i j r y h1 h2;have hi:i<rows.length:=(Qp7.1 h1).1;have hj:j<esz:=by have:=b1 i r h1;have:=(Qp7.1 h2).1;omega
       have c4:(i+1)*esz<=rows.length*esz:=Qpd _ hi;have cv:(i+1)*esz=i*esz+esz:=Qpz i _;exact⟨u,by rw[List.getElem?_take,Qpn Q0];simpa using cg,cp⟩
    ·cases h
   ·cases h
end
end Go.Vx
namespace Go.Vx
section
variable{P:Program} {E:Env} {R:Type}
def KQ(h:Nat->oP Ob):List (Nat×oP Ob)->Nat->oP Ob
 |[]=>h
 |(l,o)::r=>KQ (λk=>if k=l then o else h k) r
theorem Hc:∀(wr:List (Nat×oP Ob)) (h:List (Nat×Ob)),look (MA h wr)=KQ (look h) wr
 |[],h=>rfl
 |(l,some o)::r,h=>by
  rw[MA,KQ,Hc r];congr 1;funext k;exact WW l k o h
 |(l,none)::r,h=>by
  rw[MA,KQ,Hc r];congr 1;funext k;exact B6 l k h
theorem UM:∀{wr:List (Nat×oP Ob)} {h:Nat->oP Ob} {l:Nat},l ∉ wr.map (·.1)->KQ h wr l=h l
 |[],_,_,_=>rfl
 |(k,o)::r,h,l,hn=>by
  simp only[QpA,Qpp,not_or]at hn;rw[KQ,UM hn.2,Qpj hn.1]
structure CallOut(β:Nat->oP Nat)(S:Nat->Prop)(h:Nat->oP Ob)(w:World)(dl:Dl)(β':Nat->oP Nat)(S':Nat->Prop)(w':World)(v:Value):Prop where
 hs:∀b,S b->S' b
 sf:∀b,S' b->S b\/w.heap.size<=b\/∃l,l∈wrL dl/\(h l).isSome=true/\β l=some b
 sb:∀b,S' b->b<w'.heap.size
 fr:Fr (λb=>∃l,l∈wrL dl/\(h l).isSome=true/\β l=some b) w w'
 bsame:∀l,l ∉ wrL dl->β' l=β l
 obs:∀l o,l∈wrL dl->KQ h dl.wr l=some o->ObR β' S' (KQ h dl.wr) w' l o
 keep:∀l,l∈wrL dl->(h l).isSome=true->Keep β h w β' (KQ h dl.wr) w' l
 blk:∀l b,l∈wrL dl->(KQ h dl.wr l).isSome=true->β' l=some b->(w.heap.size<=b\/∃l0,l0∈wrL dl/\(h l0).isSome=true/\β l0=some b)/\¬ S' b
 inj:∀l l' b,l∈wrL dl->l'∈wrL dl->(KQ h dl.wr l).isSome=true->(KQ h dl.wr l').isSome=true->β' l=some b->β' l'=some b->l=l'
 none:∀l,l∈wrL dl->h l=none->KQ h dl.wr l=none->β' l=β l
 res:RdA β' S' (KQ h dl.wr) w' tm0 v dl.v
 gd:∀t,gds t dl.v=false
structure Objs(β:Nat->oP Nat)(S:Nat->Prop)(h:Nat->oP Ob)(w:World):Prop where
 ob:∀l o,h l=some o->ObR β S h w l o
 inj:∀l l' b,(h l).isSome=true->(h l').isSome=true->β l=some b->β l'=some b->l=l'
 apart:∀l b,(h l).isSome=true->β l=some b->¬ S b
 sb:∀b,S b->b<w.heap.size
def ArgsRd(β:Nat->oP Nat)(S:Nat->Prop)(h:Nat->oP Ob)(w:World)(args:List Value)(aa:List AV):Prop:=
 args.length=aa.length/\∀(i:Nat) (v:Value) (av:AV),args[i]? = some v->aa[i]? = some av->RdA β S h w tm0 v av
def ZX(P:Program)(f:Nat)(avs:List AV)(hl:Nat->oP Ob)(dl:Dl):Prop:=
 (∃fn, P.funcs[f]? = some fn /\ fn.body.isSome = true /\ (fn.name == "runtime.NumGoroutine") = false) /\
 ∀β S h w args,Objs β S h w->ArgsRd β S h w args avs->(∀l,l∈dl.rd\/l∈wrL dl->h l=hl l) ->
  Calls P f args.toArray w λe w'=>∃v β' S',e = .returned v/\CallOut β S h w dl β' S' w' v
def BO(P:Program)(spec:Q5T):Prop:=
 ∀(R:Type) (f ac:Nat) (g:Bool) (aa:List AV) (hl:Nat->oP Ob) (k:Dl->oP R) (r:R),spec R f ac g aa hl k=some r ->
  ∃dl,k dl=some r/\(g=true->ZX P f aa hl dl)
theorem Rel.objs{β:Nat->oP Nat}{S:Nat->Prop}{st:St}{a:Act}{w:World}(hR:Rel E β S st a w):Objs β S (look st.h) w:=⟨hR.hr.ob,hR.hr.inj,hR.hr.apart,hR.hr.sb⟩
theorem Qbz{β:Nat->oP Nat}{S S2:Nat->Prop}{h:Nat->oP Ob}{w:World}{tm:Nat->Value}{v:Value}{av:AV}(hv:RdA β S h w tm v av)(hs:Rm av=true):RdA β S2 h w tm v av:=by
 have hL:∀(l:List AV) (i:Nat) (x:AV),l[i]? = some x->NB l=true->Rm x=true:=by
  intro l;induction l with
  |nil=>simp_all
  |cons a r ih=>
   intro i x h hs;simp only[NB,Qp8]at hs
   grind
 induction hv with
 |top v=>exact .top v
 |d v x hx=>cases hx with
  |int k n=>exact .d _ _ (.int k n)
  |bool b=>exact .d _ _ (.bool b)
  |str s=>exact .d _ _ (.str s)
  |sl0 a c s=>trivial
  |nl=>exact .d _ _ .nl
  |sl=>simp[Rm]at hs
 |nil=>exact .nil
 |ag cs l hl _ ih=>exact .ag cs l hl λi x hx=>ih i x hx (hL l i x hx (by assumption))
 |tup cs l hl _ ih=>exact .tup cs l hl λi x hx=>ih i x hx (hL l i x hx (by simpa[Rm]using hs))
 |fn=>simp[Rm]at hs
 |ptr l off b hb=>exact .ptr l off b hb
 |sa v l t b hb hv=>exact .sa v l t b hb hv
 |el=>simp[Rm]at hs
 |fs=>simp[Rm]at hs
 |mpd=>simp[Rm]at hs
 |ex v=>exact .ex v
 |arr0 l e s hb hh=>exact .arr0 l e s hb hh
 |arr l b cap e s rows cs ty fz hb hh hw ak ac ai=>exact .arr l b cap e s rows cs ty fz hb hh hw ak ac ai
 |mp l b t f hb hh=>exact .mp l b t f hb hh
 |ap l i off b e s rows hb hh=>exact .ap l i off b e s rows hb hh
 |dang v av l hl hh h1=>exact .dang v av l hl hh h1
 |gdT=>simp[Rm]at hs
 |gdF=>simp[Rm]at hs
theorem Qcv{β β':Nat->oP Nat}{S S':Nat->Prop}{st:St}{a:Act}{w w':World}{v:Value}(hR:Rel E β S st a w){dl:Dl}(a4:Wo st dl.wr=true)(hc:CallOut β S (look st.h) w dl β' S' w' v) :
  Rel E β' S' ⟨st.n,st.tm,MA st.h dl.wr⟩ a w':=by
 have ai:=Hc dl.wr st.h;have az:∀b,S b->w'.heap[b]? = w.heap[b]?:=λb hS=>hc.fr.block b (hR.hr.sb b hS) (λ⟨l,_,hs,hb⟩=>hR.hr.apart l b hs hb hS)
 have ao:∀l,l∈wrL dl->look st.h l=none->KQ (look st.h) dl.wr l=none\/Uu st l=true:=by
  intro l hl hn;have:∀(wr:List (Nat×oP Ob)) (h:Nat->oP Ob),Wo st wr=true->h l=none->KQ h wr l=none\/Uu st l=true:=by
   intro wr;induction wr with
   |nil=>intro h _ hn;exact .inl hn
   |cons x r ih=>
    intro h aq a3;obtain⟨k,o⟩:=x;simp only[Wo,Qp8]at aq;by_cases e:l=k
    ·subst e;cases o with
     |none=>exact ih _ aq.2 Q2
     |some o=>
      simp_all
    ·exact ih _ aq.2 Q4
  simp_all
 refine hR.upd hc.hs az (λl=>l∈wrL dl) (λl hl=>?_) (λl hl=>?_) (λl o hl ho=>?_) ?_ ?_ ?_ hc.sb ?_ ?_
 ·refine⟨hc.bsame l hl,by rw[ai];exact UM hl,λb hs hb=>hc.fr.block b (Kv hR hs hb) (λ⟨l',an,am,ac⟩=>?_)⟩;exact hl (by rw[hR.hr.inj l l' b hs am hb ac];exact an)
 ·cases hs:look st.h l with
  |some o=>left;rw[ai];exact hc.keep l hl (by simp[hs])
  |none=>
   rcases ao l hl hs with h | h
   ·left;refine⟨?_,λ_=>Q4,λe s rows h'=>Q4,λb cs ty fz h'=>Q4,λt f h'=>(by rw[hs]at h';cases h')⟩;exact hc.none l hl hs h
   simp_all
 ·rw[ai]at ho ⊢;exact hc.obs l o hl ho
 ·intro l l' b h1 h2 h3 h4;rw[ai]at h1 h2;by_cases e1:l∈wrL dl<;>by_cases e2:l'∈wrL dl
  ·exact hc.inj l l' b e1 e2 h1 h2 h3 h4
  ·rw[UM e2]at h2;rw[hc.bsame l' e2]at h4;rcases (hc.blk l b e1 h1 h3).1 with h | ⟨l0,aw,hs,hb⟩
   ·have:=Kv hR h2 h4;omega
   ·exact absurd aw (by rw[hR.hr.inj l0 l' b hs h2 hb h4];exact e2)
  ·rw[UM e1]at h1;rw[hc.bsame l e1]at h3;rcases (hc.blk l' b e2 h2 h4).1 with h | ⟨l0,aw,hs,hb⟩
   ·have:=Kv hR h1 h3;omega
   ·exact absurd aw (by rw[<- hR.hr.inj l l0 b h1 hs h3 hb];exact e1)
  ·rw[UM e1]at h1;rw[UM e2]at h2;rw[hc.bsame l e1]at h3;rw[hc.bsame l' e2]at h4;exact hR.hr.inj l l' b h1 h2 h3 h4
 ·intro l b h1 h2 hS;rw[ai]at h1;by_cases e1:l∈wrL dl
  ·exact(hc.blk l b e1 h1 h2).2 hS
  ·rw[UM e1]at h1;rw[hc.bsame l e1]at h2;rcases hc.sf b hS with h | h | ⟨l',an,am,ac⟩
   ·exact hR.hr.apart l b h1 h2 h
   ·have:=Kv hR h1 h2;omega
   ·exact e1 (by rw[hR.hr.inj l l' b h1 am h2 ac];exact an)
 ·intro l b h1 h2;rw[ai]at h1;by_cases e1:l∈wrL dl
  ·rcases (hc.blk l b e1 h1 h2).1 with h | ⟨l0,_,hs,hb⟩
   ·right;have:=hR.hr.fr.size;omega
   ·exact hR.hr.own l0 b hs hb
  ·rw[UM e1]at h1;rw[hc.bsame l e1]at h2;exact hR.hr.own l b h1 h2
 ·intro b hS;rcases hc.sf b hS with h | h | ⟨l',an,am,ac⟩
  ·exact hR.hr.sfr b h
  ·right;right;have:=hR.hr.fr.size;omega
  ·exact .inr (hR.hr.own l' b am ac)
 ·have fr:=hR.hr.fr;refine⟨hc.fr.os.trans fr.os,hc.fr.tape.trans fr.tape,hc.fr.output.trans fr.output,Nat.le_trans fr.size hc.fr.size,λb hb hM=>(hc.fr.block b (Qpx hb fr.size) (λ⟨l,_,hs,ac⟩=>?_)).trans (fr.block b hb hM)⟩;rcases hR.hr.own l b hs ac with h | h
  all_goals grind
end
end Go.Vx
namespace Go.Vx
variable{hl:Nat->oP Ob} {ev:Operand->AV} {β:Nat->oP Nat} {S:Nat->Prop} {w:World} {h:Nat->oP Ob} {tm:Nat->Value} {o:Oper} {v:Value}
section
variable{P:Program} {E:Env} {R:Type}
def fzS(β:Nat->oP Nat)(S:Nat->Prop)(bs:List Nat):Nat->Prop:=λb=>S b\/∃l,l∈bs/\β l=some b
def fzH(h:Nat->oP Ob)(bs:List Nat):Nat->oP Ob:=λk=>if k∈bs then none else h k
theorem QdW(β:Nat->oP Nat)(h:Nat->oP Ob)(w:World)(bs:List Nat)(l:Nat):Keep β h w β (fzH h bs) w l:=by
 by_cases hl:l∈bs
 ·have hn:fzH h bs l=none:=by grind[fzH]
  exact⟨rfl,λ_=>hn,λ_ _ _ _=>.inl hn,λb cs ty fz hs=>Q4,λ_ _ _=>.inl hn⟩
 ·have hn:fzH h bs l=h l:=by simp[fzH,hl]
  exact⟨rfl,λh=>by simp_all,λe s rows hh=>.inr ⟨rows,by simp_all,rfl⟩,λb cs ty fz _ _ hw=>⟨cs,ty,fz,hw,rfl⟩,λ_ f hh=>.inr ⟨f,by rw[hn];exact hh⟩⟩
theorem Q9C{av:AV}(bs:List Nat)(hv:RdA β S h w tm v av):RdA β (fzS β S bs) (fzH h bs) w tm v av:=
 hv.mono (λ_ hb=>.inl hb) (λ_ _=>rfl) (λ_ _=>QdW ..) (λ_ _=>rfl)
theorem Objs.fz{β:Nat->oP Nat}{S:Nat->Prop}{h:Nat->oP Ob}{w:World}(hO:Objs β S h w)(bs:List Nat)(aq:∀l,l∈bs->∃e s rows,h l=some (.arr e s rows))(az:∀l b,(h l).isSome=true->β l=some b->b<w.heap.size):Objs β (fzS β S bs) (fzH h bs) w:=by
 have aa:∀l,(fzH h bs l).isSome=true->(h l).isSome=true/\l ∉ bs:=by
  grind[fzH]
 refine⟨λl o ho=>?_,λl l' b h1 h2=>hO.inj l l' b (aa l h1).1 (aa l' h2).1,λl b h1 h2 hS=>?_,λb hS=>?_⟩
 ·have ax:h l=some o:=by
   grind[fzH]
  have ac:=hO.ob l o ax;cases o with
  |box cells=>
   obtain⟨b,ty,cs,fz,hb,hw,hf,ai,hr⟩:=ac;exact⟨b,ty,cs,fz,hb,hw,hf,ai,λi x hx=>Q9C bs (hr i x hx)⟩
  |arr e s rows=>
   rcases ac with h0 | ⟨b,cs,hb,hw,ai,aw,hr⟩
   ·exact .inl h0
   ·refine .inr ⟨b,cs,hb,hw,ai,aw,λi j r x h4 h5=>?_⟩;obtain⟨v,hv,ar⟩:=hr i j r x h4 h5;exact⟨v,hv,ar.mono (λ_ hb=>.inl hb) (λ_ _=>rfl)⟩
  |mp t f=>exact ac
 ·obtain⟨an,hn⟩:=aa l h1;rcases hS with hS | ⟨l',am,ay⟩
  ·exact hO.apart l b an h2 hS
  ·obtain⟨e,s,rows,hh⟩:=aq l' am;exact hn (by rw[hO.inj l l' b an (by simp[hh]) h2 ay];exact am)
 ·rcases hS with hS | ⟨l,hl,hb⟩
  ·exact hO.sb b hS
  grind
theorem Q7E{l e s:Nat}{rows:List (List D)}(hO:Objs β S h w)(hh:h l=some (.arr e s rows))(hv:RdA β S h w tm v (.arr l)){S':Nat->Prop}(hS:∀b,S b->S' b)(hb:∀b,β l=some b->S' b) :
  Rd S' w v (.sl s rows):=by
 rcases RdA.arr_inv hh hv with⟨_,rfl,rfl⟩|⟨b,cap,cs,ty,fz,an,rfl,hw,aw,aa,_⟩
 ·exact .sl0 _ _ _
 ·rcases hO.ob l _ hh with⟨hn,_⟩|⟨b2,ac,ax,ai,ak,am,ao⟩
  ·simp_all
  obtain rfl:b=b2:=by simp_all
  have hR:UW S' w ac s rows:=⟨ak,am,λi j r x h1 h2=>by
   obtain⟨u,hu,hr⟩:=ao i j r x h1 h2;exact⟨u,hu,hr.mono hS (λ_ _=>rfl)⟩⟩
  exact hR.rd ai (hb b an) aa
theorem EG{av aa:AV}{bs:List Nat}(h:Q86 hl av=some (aa,bs)) :
  (bs=[]/\aa=av/\Q0U av=true)\/∃l e s rows,av = .arr l/\aa = .d (.sl s rows)/\bs=[l]/\hl l=some (.arr e s rows):=by
 unfold Q86 at h
 grind
theorem BL{hl:Nat->oP Ob}:∀{l l':List AV} {bs:List Nat},C0 hl l=some (l',bs)->l'.length=l.length/\∀(i:Nat) (av:AV),l[i]? = some av->∃aa b,l'[i]? = some aa/\Q86 hl av=some (aa,b)/\∀x∈b,x∈bs
 |[],l',bs,h=>by
  simp only[C0,Option.some.injEq,Prod.mk.injEq]at h;obtain⟨rfl,rfl⟩:=h;exact⟨rfl,λi av h=>by simp at h⟩
 |a::r,l',bs,h=>by
  simp only[C0]at h;split at h
  ·rename_i a' b ha;split at h
   ·rename_i r' b' hr;simp only[Option.some.injEq,Prod.mk.injEq]at h;obtain⟨rfl,rfl⟩:=h;obtain⟨h1,h2⟩:=BL hr;refine⟨by simp[h1],λi av hi=>?_⟩;cases i with
    |zero=>simp at hi;subst hi;exact⟨a',b,rfl,ha,λx hx=>by simp[hx]⟩
    |succ i=>
     obtain⟨aa,b2,g1,g2,g3⟩:=h2 i av (by simpa using hi);exact⟨aa,b2,by simpa using g1,g2,λx hx=>by simp[g3 x hx]⟩
   ·cases h
  ·cases h
theorem Q3R{hl:Nat->oP Ob}:∀{l l':List AV} {bs:List Nat},C0 hl l=some (l',bs)->∀x∈bs,∃e s rows,hl x=some (.arr e s rows)
 |[],l',bs,h=>by
  simp only[C0,Option.some.injEq,Prod.mk.injEq]at h;obtain⟨_,rfl⟩:=h;simp
 |a::r,l',bs,h=>by
  simp only[C0]at h;split at h
  ·rename_i a' b ha;split at h
   ·rename_i r' b' hr;simp only[Option.some.injEq,Prod.mk.injEq]at h;obtain⟨_,rfl⟩:=h;intro x hx;rcases Qpy.1 hx with hx | hx
    ·rcases EG ha with⟨rfl,_⟩|⟨l,e,s,rows,_,_,rfl,hh⟩
     ·simp at hx
     ·simp at hx;subst hx;exact⟨e,s,rows,hh⟩
    ·exact Q3R hr x hx
   ·cases h
  ·cases h
theorem Bq{av aa:AV}{bs:List Nat}(h:N3 hl av=some (aa,bs)):∀x∈bs,∃e s rows,hl x=some (.arr e s rows):=by
 unfold N3 at h;split at h
 ·split at h
  ·rename_i ac l hc;obtain⟨_,rfl⟩:=h;exact Q3R hc
  ·cases h
 ·rcases EG h with⟨rfl,_⟩|⟨l,e,s,rows,_,_,rfl,hh⟩
  all_goals grind
theorem EB{hl:Nat->oP Ob}:∀{l l':List AV} {bs:List Nat},RZ hl l=some (l',bs)->∀x∈bs,∃e s rows,hl x=some (.arr e s rows)
 |[],l',bs,h=>by
  simp only[RZ,Option.some.injEq,Prod.mk.injEq]at h;obtain⟨_,rfl⟩:=h;simp
 |a::r,l',bs,h=>by
  simp only[RZ]at h;split at h
  ·rename_i a' b ha;split at h
   ·rename_i r' b' hr;simp only[Option.some.injEq,Prod.mk.injEq]at h;obtain⟨_,rfl⟩:=h;intro x hx;rcases Qpy.1 hx with hx | hx
    ·exact Bq ha x hx
    ·exact EB hr x hx
   ·cases h
  ·cases h
theorem LJ{hl:Nat->oP Ob}:∀{l l':List AV} {bs:List Nat},RZ hl l=some (l',bs)->l'.length=l.length/\∀(i:Nat) (av:AV),l[i]? = some av->∃aa b,l'[i]? = some aa/\N3 hl av=some (aa,b)/\∀x∈b,x∈bs
 |[],l',bs,h=>by
  simp only[RZ,Option.some.injEq,Prod.mk.injEq]at h;obtain⟨rfl,rfl⟩:=h;exact⟨rfl,λi av h=>by simp at h⟩
 |a::r,l',bs,h=>by
  simp only[RZ]at h;split at h
  ·rename_i a' b ha;split at h
   ·rename_i r' b' hr;simp only[Option.some.injEq,Prod.mk.injEq]at h;obtain⟨rfl,rfl⟩:=h;obtain⟨h1,h2⟩:=LJ hr;refine⟨by simp[h1],λi av hi=>?_⟩;cases i with
    |zero=>simp at hi;subst hi;exact⟨a',b,rfl,ha,λx hx=>by simp[hx]⟩
    |succ i=>
     obtain⟨aa,b2,g1,g2,g3⟩:=h2 i av (by simpa using hi);exact⟨aa,b2,by simpa using g1,g2,λx hx=>by simp[g3 x hx]⟩
   ·cases h
  ·cases h
theorem Qfs{h hl:Nat->oP Ob}{av aa:AV}{b bs:List Nat}(hO:Objs β S h w)(hA:∀l,l∈bs->h l=hl l)(hb:∀x∈b,x∈bs)(hc:Q86 hl av=some (aa,b))(hv:RdA β S h w tm v av) :
  RdA β (fzS β S bs) (fzH h bs) w tm0 v aa:=by
 rcases EG hc with⟨_,rfl,hn⟩|⟨l,e,s,rows,rfl,rfl,rfl,hh⟩
 ·exact Q9C bs (hv.to_tm0 hn)
 ·exact .d _ _ (Q7E hO (by rw[hA l (hb l Q2)];exact hh) hv (λ_ h=>.inl h) (λb' h'=>.inr ⟨l,hb l Q2,h'⟩))
theorem Q7q{h hl:Nat->oP Ob}{av aa:AV}{b bs:List Nat}(hO:Objs β S h w)(hA:∀l,l∈bs->h l=hl l)(hb:∀x∈b,x∈bs)(hc:N3 hl av=some (aa,b))(hv:RdA β S h w tm v av) :
  RdA β (fzS β S bs) (fzH h bs) w tm0 v aa:=by
 unfold N3 at hc;split at hc
 ·rename_i cs;split at hc
  ·rename_i ak l ai;obtain⟨rfl,rfl⟩:=hc;obtain⟨vs,rfl,ac,hr⟩:=hv.ag_inv;obtain⟨h1,h2⟩:=BL ai;refine .ag _ _ (by rw[ac,h1]) λi x hx=>?_
   have hi:i<cs.length:=by grind
   have hc:=Qpm hi
   grind[Qfs]
  ·cases hc
 grind[Qfs]
theorem Lv {o : Oper} {c : Call} {f : Nat} (ho : o.op = .call c) (hc : c.callee = .value (.func f)) {fn : Func} (hf : P.funcs[f]? = some fn) (hb : fn.body.isSome = true) (hn : (fn.name == "runtime.NumGoroutine") = false) {a : Act} {w : World} :
  (execOp a.eval o).run P w = .ok (.enter f (c.args.map a.eval)) w:=by
 unfold execOp;rw[ho];have h1 : ¬ fn.name = "runtime.NumGoroutine" := by simp_all
 have h2:¬ fn.body=none:=by intro h;rw[h]at hb;cases hb
 simp_all [resolve,Act.eval,Deferred.ofValue,invoke,callFunc]
theorem AA{x:Nat}:∀{l:List Nat},x∈l->PL x l=true
 |a::r,h=>by
  rcases Qpp.1 h with rfl | h
  ·simp[PL]
  ·simp[PL,AA h]
theorem JV{a b:List Nat}(h:HY a b=false){x:Nat}(h1:x∈a)(h2:x∈b):False:=by
 grind[HY,List.any_eq_false,AA]
theorem Dh{h h':Nat->oP Ob}:∀{wr:List (Nat×oP Ob)} {k:Nat},(k ∉ wr.map (·.1)->h k=h' k)->KQ h wr k=KQ h' wr k
 |[],k,hk=>hk Q2
 |(l,o)::r,k,hk=>by
  simp only[KQ];refine Dh λhn=>?_
  by_cases e:k=l
  ·simp[e]
  ·rw[Qpj e,Qpj e];exact hk (by simp[e,hn])
theorem LQ{bs:List Nat}{l:Nat}(hl:l ∉ bs):fzH h bs l=h l:=by grind[fzH]
theorem Qek(β:Nat->oP Nat)(S:Nat->Prop):fzS β S []=S:=by funext b;simp[fzS]
theorem Qei(h:Nat->oP Ob):fzH h []=h:=by funext b;simp[fzH]
theorem Q7Z{wr:List (Nat×oP Ob)}(hw:Vp wr=true):∀(h:Nat->oP Ob) {l:Nat} {o:Ob},l∈wr.map (·.1)->KQ h wr l=some o->(∃cells,o = .box cells/\NB cells=true/\(l,some o)∈wr)\/∃e s rows,o = .arr e s rows/\A7 rows=true:=by
 induction wr with
 |nil=>simp_all
 |cons x r ih=>
  intro h l o hl ho;obtain⟨k,ob⟩:=x;have aa:Vp r=true:=by
   cases ob with
   |none=>assumption
   |some ob=>cases ob<;>first | simp_all [Vp,Qp8] | (simp[Vp]at hw)
  simp only[KQ]at ho;by_cases hr:l∈r.map (·.1)
  ·grind
  ·rw[UM hr]at ho;simp only[QpA,Qpp,hr,or_false]at hl;rw[Qpn hl]at ho;subst hl;subst ho;cases o with
   |box cells=>simp_all [Vp,Qp8]
   |arr e s rows=>simp only[Vp,Qp8]at hw;exact .inr ⟨e,s,rows,rfl,hw.1⟩
   |mp t f=>simp[Vp]at hw
theorem KD:∀{wr:List (Nat×oP Ob)},By wr=true->Vp wr=true
 |[],_=>rfl
 |(_,none)::r,h=>by simp only[By,Qp8]at h;simp only[Vp];exact KD h.2
 |(_,some (.box cells))::r,h=>by simp only[By,Q9r,Qp8]at h;simp only[Vp,Qp8];exact⟨h.1,KD h.2⟩
 |(_,some (.arr ..))::r,h=>by simp[By,Q9r]at h
theorem GB{tt:TT}:∀{wr:List (Nat×oP Ob)},EC tt wr=true->(Q3C wr).all A7=true->Vp wr=true
 |[],_,_=>rfl
 |(_,none)::r,h,h2=>by simp only[EC]at h;simp only[Q3C]at h2;simp only[Vp];exact GB h h2
 |(_,some (.box cells))::r,h,h2=>by simp only[EC,Qp8]at h;simp only[Q3C]at h2;simp only[Vp,Qp8];exact⟨h.1,GB h.2 h2⟩
 |(_,some (.arr _ _ rows))::r,h,h2=>by simp only[EC,Qp8]at h;simp only[Q3C,List.all_cons,Qp8]at h2;simp only[Vp,Qp8];exact⟨h2.1,GB h.2 h2.2⟩
theorem QdH{S S2:Nat->Prop}{x:D}(h:Rd S w v x)(hf:Q66 x=true):Rd S2 w v x:=by
 cases h with
 |int k n=>exact .int k n
 |bool b=>exact .bool b
 |str s=>exact .str s
 |sl0 a c s=>trivial
 |nl=>exact .nl
 |sl=>simp[Q66]at hf
theorem Qby{rows:List (List D)}(h:A7 rows=true){i j:Nat}{r:List D}{x:D}(h1:rows[i]? = some r)(h2:r[j]? = some x):Q66 x=true:=by
 simp only[A7,Qpq]at h;exact h r (Qpf h1) x (Qpf h2)
theorem Q3B:∀{l:List AV} {i:Nat} {x:AV},l[i]? = some x->NB l=true->Rm x=true
 |a::r,i,x,h,hs=>by
  simp only[NB,Qp8]at hs;cases i with
  |zero=>simp at h;subst h;exact hs.1
  |succ i=>exact Q3B (l:=r) (i:=i) (by simpa using h) hs.2
theorem Q9V{l k:Nat}{cells:List AV}{wr:List (Nat×oP Ob)}(hm:(k,some (Ob.box cells))∈wr)(hn:P5 l wr=false):G6 l cells=false:=by
 induction wr with
 |nil=>simp at hm
 |cons x r ih=>
  obtain⟨k',o⟩:=x;rcases Qpp.1 hm with h1 | h1
  ·grind[P5,Bool.or_eq_false_iff]
  ·cases o with
   |none=>grind[P5]
   |some o=>
    cases o with
    |box c=>grind[P5,Bool.or_eq_false_iff]
    |arr e s rows=>exact ih h1 (by assumption)
    |mp t f=>exact ih h1 (by simpa[P5]using hn)
theorem Q77{h h':Nat->oP Ob}{wr:List (Nat×oP Ob)}{k:Nat}(hk:k∈wr.map (·.1)):KQ h wr k=KQ h' wr k:=Dh λhn=>absurd hk hn
theorem CallOut.back{β β':Nat->oP Nat}{S S':Nat->Prop}{w w':World}{dl:Dl}{bs:List Nat}(hO:Objs β S h w)(a8:∀l,l∈bs->∃e s rows,h l=some (.arr e s rows))(hm:HY bs (wrL dl)=false)(an:BK bs dl=true)(a3:Rm dl.v=true)(a2:Vp dl.wr=true)(hc:CallOut β (fzS β S bs) (fzH h bs) w dl β' S' w' v) :
  CallOut β S h w dl β' (λb=>S' b/\¬ ∃l,l∈bs/\β l=some b) w' v:=by
 have aa:∀l,l∈wrL dl->l ∉ bs:=λl h1 h2=>JV hm h2 h1
 have am:∀l,l∈bs->(h l).isSome=true:=λl hl=>by grind
 have ac:∀l,l ∉ bs->KQ (fzH h bs) dl.wr l=KQ h dl.wr l:=λl hl=>Dh λ_=>LQ hl
 have ak:∀(u:Value) (av:AV),Rm av=true->(∀l,l∈bs->Yr l av=false)->RdA β' S' (KQ (fzH h bs) dl.wr) w' tm0 u av->RdA β' (λb=>S' b/\¬ ∃l,l∈bs/\β l=some b) (KQ h dl.wr) w' tm0 u av:=by
  intro u av hs hn hr;refine(Qbz (S2:=λb=>S' b/\¬ ∃l,l∈bs/\β l=some b) hr hs).mono (λ_ h=>h) (λ_ _=>rfl) (λl hl=>?_) (λ_ _=>rfl);have a4:l ∉ bs:=λhb=>by simp_all
  have he:=ac l a4;exact⟨rfl,λh=>by simp_all,λe s rows hh=>.inr ⟨rows,by simp_all,rfl⟩,λb cs ty fz _ _ hw=>⟨cs,ty,fz,hw,rfl⟩,λ_ f hh=>.inr ⟨f,by rw[<- he];exact hh⟩⟩
 simp only[BK,Qpq,Qp8,Bool.not_eq_true']at an;have ai:∀l,l∈wrL dl->fzH h bs l=h l:=λl hl=>LQ (aa l hl)
 refine⟨λb hS=>⟨hc.hs b (.inl hS),λ⟨l,hl,hb⟩=>hO.apart l b (am l hl) hb hS⟩,λb hS=>?_,λb hS=>hc.sb b hS.1,?_,hc.bsame,λl o hl ho=>?_,λl hl hs=>?_,λl b hl hs hb=>?_,λl l' b h1 h2 h3 h4=>?_,λl hl h1 h2=>?_,ak v dl.v a3 (λl hl=>(an l hl).1) hc.res,hc.gd⟩
 ·rcases hc.sf b hS.1 with h1 | h1 | ⟨l,h1,h2,h3⟩
  ·rcases h1 with h1 | h1
   all_goals grind
  all_goals grind
 ·exact hc.fr.mono λb _ ⟨l,h1,h2,h3⟩=>⟨l,h1,by rw[<- ai l h1];exact h2,h3⟩
 ·rcases Q7Z a2 h hl ho with⟨cells,rfl,aw,ao⟩|⟨e,s,rows,rfl,ay⟩
  case inr=>
   rcases hc.obs l _ hl (by rw[ac l (aa l hl)];exact ho)with g | ⟨b,cs,g1,g2,g3,g4,g5⟩
   ·exact .inl g
   ·refine .inr ⟨b,cs,g1,g2,g3,g4,λi j r y h1 h2=>?_⟩;obtain⟨u,q1,q2⟩:=g5 i j r y h1 h2;exact⟨u,q1,QdH q2 (Qby ay h1 h2)⟩
  obtain⟨b,ty,cs,fz,hb,hw,hf,ax,hr⟩:=hc.obs l _ hl (by rw[ac l (aa l hl)];exact ho);exact⟨b,ty,cs,fz,hb,hw,hf,ax,λi x hx=>ak _ x (Q3B hx aw) (λl' az=>Q3U hx (Q9V ao (an l' az).2)) (hr i x hx)⟩
 ·have K:=hc.keep l hl (by rw[ai l hl];exact hs);have he:=ac l (aa l hl);exact⟨K.b,λh1=>by rw[<- he];exact K.none_ (by rw[ai l hl];exact h1),λe s rows h1=>by rw[<- he];exact K.arr e s rows (by rw[ai l hl];exact h1),λb cs ty fz h1=>K.cells b cs ty fz (by rw[he];exact h1),λt f h1=>by rw[<- he];exact K.mp t f (by rw[ai l hl];exact h1)⟩
 ·obtain⟨h1,h2⟩:=hc.blk l b hl (by rw[ac l (aa l hl)];exact hs) hb;refine⟨?_,λh3=>h2 h3.1⟩;rcases h1 with h1 | ⟨l0,g1,g2,g3⟩
  ·exact .inl h1
  ·exact .inr ⟨l0,g1,by rw[<- ai l0 g1];exact g2,g3⟩
 ·rw[<- ac l (aa l h1)]at h3;rw[<- ac l' (aa l' h2)]at h4;exact hc.inj l l' b h1 h2 h3 h4
 ·exact hc.none l hl (by rw[ai l hl];exact h1) (by rw[ac l (aa l hl)];exact h2)
theorem Ry{β β':Nat->oP Nat}{S S':Nat->Prop}{st:St}{a:Act}{w w':World}(hR:Rel E β S st a w){dl:Dl}{rd:List Nat}(aa:Wo st dl.wr=true)(hc:CallOut β S (look st.h) w dl β' S' w' v) :
  Out E st a ⟨dl.v,dl.wr,rd⟩ v w':=by
 have h1:=Qcv hR aa hc;have h2:=hc.res;rw[<- Hc]at h2;refine⟨β',S',h1,?_⟩;exact h2.mono (λ_ h=>h) (λ_ _=>rfl) (λl _=>Keep.rfl_ ..) (λt ht=>by rw[hc.gd t]at ht;cases ht)
def Q8u(P:Program)(E:Env)(o:Oper)(ev:Operand->AV)(f:Nat)(avs0:List AV):Prop:=
 ∀β S st a w,Rel E β S st a w->Bw β S st a w o ev->∃vals:List Value,vals.length=avs0.length/\(∀(i:Nat) (v:Value) (x:AV),vals[i]? = some v->avs0[i]? = some x->RdA β S (look st.h) w (tmv a) v x) /\
  ∀fn, P.funcs[f]? = some fn -> fn.body.isSome = true -> (fn.name == "runtime.NumGoroutine") = false -> (execOp a.eval o).run P w = .ok (.enter f vals.toArray) w
theorem Q7Q{c:Call}{f:Nat}(ho:o.op = .call c)(hc:c.callee = .value (.func f)):Q8u P E o ev f (c.args.toList.map ev):=by
 intro β S st a w hR hO;refine⟨c.args.toList.map a.eval,by simp,λi v x h1 h2=>?_,λfn hf hb hn=>?_⟩
 ·simp only[Qph,Qpc]at h1 h2;obtain⟨y,hy,rfl⟩:=h1;obtain⟨y',aa,rfl⟩:=h2;rw[hy]at aa;injection aa with aa
  subst aa;have ac:y∈o.op.operands.toList:=by
   grind[List.mem_of_getElem?,Op.operands,Call.operands]
  exact hO.at ac
 ·rw[Lv ho hc hf hb hn];congr 2
  grind
theorem RdA.fn_inv{f:Nat}{l:List AV}(hv:RdA β S h w tm v (.fn f l)):∃cs:Array Value,v = .func (.func f) #[] cs/\cs.size=l.length/\∀(i:Nat) (x:AV),l[i]? = some x->RdA β S h w tm (cs.getD i undef) x:=by
 cases hv with
 |fn _ cs _ hl hr=>simp_all
 |dang _ _ l hl _ _=>trivial
theorem Q8w{c:Call}{t f:Nat}{cap:List AV}(ho:o.op = .call c)(hc:c.callee = .value (.tmp t))(hev:ev (.tmp t) = .fn f cap):Q8u P E o ev f (c.args.toList.map ev++cap):=by
 intro β S st a w hR hO;have hmt:Operand.tmp t∈o.op.operands.toList:=by simp[ho,Op.operands,Call.operands,hc]
 obtain⟨cs,hcs,hsz,hr⟩:=(hev▸hO.at hmt).fn_inv;refine⟨c.args.toList.map a.eval++cs.toList,by simp[hsz],λi v x h1 h2=>?_,λfn hf hb hn=>?_⟩
 ·rw[List.getElem?_append]at h1 h2;simp only[List.length_map]at h1 h2;split at h1
  ·rename_i hi;rw[Qpn hi]at h2;simp only[Qph,Qpc]at h1 h2;obtain⟨y,hy,rfl⟩:=h1;obtain⟨y',hy',rfl⟩:=h2;rw[hy]at hy';injection hy' with hy'
   subst hy';have hmem:y∈o.op.operands.toList:=by
    have:y∈c.args.toList:=Qpf hy;simp only[ho,Op.operands,Call.operands,hc];simp at this;simp[this]
   exact hO.at hmem
  ·rename_i hi;rw[Qpj hi]at h2;have:=hr _ x h2;have hlt:=(Qp7.1 h1).1;have he:cs.getD (i-c.args.toList.length) undef=v:=by
    rw[Array.getElem?_toList]at h1;rw[Array.getD_eq_getD_getElem?,h1];rfl
   rw[he]at this;exact this
 ·have h1 : ¬ fn.name = "runtime.NumGoroutine" := by simpa using hn
  have h2:¬ fn.body=none:=by intro h;rw[h]at hb;cases hb
  have hv:a.eval (.tmp t) = .func (.func f) #[] cs:=hcs;unfold execOp;rw[ho];have harr:(c.args.toList.map a.eval++cs.toList).toArray=c.args.map a.eval++cs:=by apply Array.ext';simp
  rw[harr];simp[resolve,hc,hv,Deferred.ofValue,invoke,callFunc,hf,h1,h2]
theorem Q8X{st:St}{a:Act}(hR:Rel E β S st a w){vals:List Value}{aa:List AV}(ao:vals.length=aa.length)(ac:∀(i:Nat) (v:Value) (x:AV),vals[i]? = some v->aa[i]? = some x->RdA β S (look st.h) w (tmv a) v x){ai:List AV}{bs:List Nat}(an:RZ hl aa=some (ai,bs))(am:∀l,l∈bs->look st.h l=hl l):ArgsRd β (fzS β S bs) (fzH (look st.h) bs) w vals ai:=by
 obtain⟨aq,ak⟩:=LJ an;refine⟨Q0,λi v av h1 h2=>?_⟩;have hi:i<aa.length:=by grind
 have hx:=Qpm hi;obtain⟨aw,b,g1,g2,g3⟩:=ak i _ hx;rw[h2]at g1;injection g1 with g1
 subst g1;exact Q7q hR.objs am g3 g2 (ac i v _ h1 hx)
theorem Mg{f:Nat}{aa:List AV}(hF:Q8u P E o ev f aa){an:List AV}{bs:List Nat}{dl:Dl}(a3:RZ hl aa=some (an,bs))(a2:ZX P f an hl dl)(hm:HY bs (wrL dl)=false)(a8:HY bs dl.rd=false)(a4:BK bs dl=true)(ac:bs=[]\/(Rm dl.v=true/\Vp dl.wr=true)) :
  K3 P E o ev hl ⟨dl.v,dl.wr,bs++dl.rd⟩:=by
 intro β S st a w hR hO hA a5 K Q hK;obtain⟨⟨fn,hf,hb,hn⟩,ai⟩:=a2;have aw:∀l,l∈bs->look st.h l=hl l:=λl h=>hA l (.inl (by simp[h]))
 have ak:∀l,l∈bs->∃e s rows,look st.h l=some (.arr e s rows):=λl h=>by grind[EB]
 have am:=hR.objs.fz bs ak (λl b hs hb=>Kv hR hs hb);have ax:∀l,l∈dl.rd\/l∈wrL dl->fzH (look st.h) bs l=hl l:=by
  intro l az;rw[LQ (λh=>by grind[JV])];rcases az with h1 | h1
  ·exact hA l (.inl (by simp[h1]))
  ·exact hA l (.inr h1)
 obtain⟨vals,ar,ay,ao⟩:=hF β S st a w hR hO;unfold Oper.wp;rw[ao fn hf hb hn];have:=ai β (fzS β S bs) (fzH (look st.h) bs) w _ am (Q8X hR ar ay a3 aw) ax;refine this.mono λe w' ⟨v,β',S',he,aq⟩=>?_
 subst he;refine hK v w' ?_;rcases ac with rfl | ⟨h1,h2⟩
 ·grind[Qek,Qei,Ry]
 ·exact Ry hR a5 (aq.back hR.objs ak hm a4 h1 h2)
theorem RE:∀(a b:List (Nat×oP Ob)) (h:List (Nat×Ob)),MA h (a++b)=MA (MA h a) b
 |[],_,_=>rfl
 |(l,some o)::r,b,h=>by simp[MA,RE r b]
 |(l,none)::r,b,h=>by simp[MA,RE r b]
theorem Ar(bs:List Nat)(h:List (Nat×Ob)):look (MA h (bs.map λl=>(l,none)))=fzH (look h) bs:=by
 rw[Hc];generalize look h=f;induction bs generalizing f with
 |nil=>rfl
 |cons a r ih=>
  simp only[QpA,KQ];rw[ih]
  grind[fzH]
theorem Q10{st:St}{a:Act}(hR:Rel E β S st a w)(bs:List Nat)(ai:∀l,l∈bs->∃e s rows,look st.h l=some (.arr e s rows)) :
  Rel E β (fzS β S bs) ⟨st.n,st.tm,MA st.h (bs.map λl=>(l,none))⟩ a w:=by
 have aa:=hR.objs.fz bs ai (λl b hs hb=>Kv hR hs hb);have ak:=Ar bs st.h;refine⟨hR.n,hR.dfr,λt av ht=>by rw[ak];exact Q9C bs (hR.tm t av ht),?_⟩;rw[ak];have ac:∀l,(fzH (look st.h) bs l).isSome=true->(look st.h l).isSome=true:=λl hs=>by
  grind[fzH]
 refine⟨aa.ob,aa.inj,aa.apart,λl b hs hb=>hR.hr.own l b (ac l hs) hb,aa.sb,λb hS=>?_,λb h=>.inl (hR.hr.s0 b h),hR.hr.fr,hR.hr.pin,λl b hp hs=>hR.hr.psz l b hp (ac l hs)⟩;rcases hS with h | ⟨l,hl,hb⟩
 ·exact hR.hr.sfr b h
 ·obtain⟨e,s,rows,hh⟩:=ai l hl;exact .inr (hR.hr.own l b (by simp[hh]) hb)
theorem V1{l k:Nat}:∀{h:List (Nat×Ob)},Jl l h=false->Jl l (rem k h)=false
 |[],_=>rfl
 |(a,.box c)::r,hn=>by
  simp only[Jl,Bool.or_eq_false_iff]at hn;simp only[rem];cases Nat.beq a k with
  |true=>exact V1 hn.2
  |false=>simp[Jl,hn.1,V1 hn.2]
 |(a,.arr e s rows)::r,hn=>by
  simp only[Jl]at hn;simp only[rem];cases Nat.beq a k with
  |true=>exact V1 hn
  |false=>simp[Jl,V1 hn]
 |(a,.mp t f)::r,hn=>by
  simp only[Jl]at hn;simp only[rem];cases Nat.beq a k with
  |true=>exact V1 hn
  |false=>simp[Jl,V1 hn]
theorem Q4R{l:Nat}:∀(bs:List Nat) {h:List (Nat×Ob)},Jl l h=false->Jl l (MA h (bs.map λl=>(l,none)))=false
 |[],_,hn=>hn
 |a::r,h,hn=>by simp only[QpA,MA];exact Q4R r (V1 hn)
theorem RD{st:St}:∀{a b:List (Nat×oP Ob)},Wo st (a++b)=true->Wo st b=true
 |[],_,h=>h
 |(l,o)::r,b,h=>by
  simp only[List.cons_append,Wo,Qp8]at h;exact RD h.2
theorem BF{st:St}{bs:List Nat}:∀{wr:List (Nat×oP Ob)},(∀l,l∈wr.map (·.1)->l ∉ bs)->Wo st wr=true->Wo ⟨st.n,st.tm,MA st.h (bs.map λl=>(l,none))⟩ wr=true
 |[],_,_=>rfl
 |(l,o)::r,hn,h=>by
  simp only[Wo,Qp8]at h ⊢;refine⟨?_,BF (λk hk=>hn k (by simp[hk])) h.2⟩;have aa:l ∉ bs:=hn l Q2;rw[Ar,LQ aa];cases o with
  |none=>rfl
  |some o=>
   cases hs:look st.h l with
   |some o'=>rfl
   |none=>
    have h1:=h.1;rw[hs]at h1;simp only[Uu,Qp8,Bool.not_eq_true']at h1 ⊢;exact⟨h1.1,h1.2.1,Q4R bs h1.2.2⟩
theorem CE{f:Nat}{ac:List AV}(hF:Q8u P E o ev f ac){aq:List AV}{bs:List Nat}{dl:Dl}(aw:RZ hl ac=some (aq,bs))(a5:ZX P f aq hl dl)(hm:HY bs (wrL dl)=false)(a2:HY bs dl.rd=false) :
  K3 P E o ev hl ⟨dl.v,bs.map (λl=>(l,none))++dl.wr,bs++dl.rd⟩:=by
 intro β S st a w hR hO hA a6 K Q hK;obtain⟨⟨fn,hf,hb,hn⟩,ak⟩:=a5;have ao:∀l,l∈bs->look st.h l=hl l:=λl h=>hA l (.inl (by simp[h]))
 have am:∀l,l∈bs->∃e s rows,look st.h l=some (.arr e s rows):=λl h=>by rw[ao l h];exact EB aw l h
 have an:=hR.objs.fz bs am (λl b hs hb=>Kv hR hs hb);have az:∀l,l∈dl.rd\/l∈wrL dl->fzH (look st.h) bs l=hl l:=by
  intro l aa;rw[LQ (λh=>by rcases aa with h1 | h1<;>first | exact JV a2 h h1 | exact JV hm h h1)];rcases aa with h1 | h1
  ·exact hA l (.inl (by simp[h1]))
  ·exact hA l (.inr (by simp only[wrL,List.map_append,Qpy];exact .inr h1))
 obtain⟨vals,ax,a3,ar⟩:=hF β S st a w hR hO;unfold Oper.wp;rw[ar fn hf hb hn];have:=ak β (fzS β S bs) (fzH (look st.h) bs) w _ an (Q8X hR ax a3 aw ao) az;refine this.mono λe w' ⟨v,β',S',he,ai⟩=>?_
 subst he;refine hK v w' ?_;rw[<- Ar]at ai;have ay:Wo ⟨st.n,st.tm,MA st.h (bs.map λl=>(l,none))⟩ dl.wr=true:=BF (λl aa h=>JV hm h aa) (RD a6);obtain⟨a4,S'',g1,g2⟩:=Ry (rd:=bs++dl.rd) (Q10 hR bs am) ay ai;refine⟨a4,S'',?_,?_⟩
 all_goals grind[RE]
theorem Af{t:Nat}:∀{l:List AV},l.all Q0U=true->Q05 t l=false
 |[],_=>rfl
 |a::r,h=>by
  simp only[List.all_cons,Qp8]at h;simp only[Q05,R1 h.1 t,Af h.2,Bool.or_false]
theorem Q4b{x:AV}(h:QaA x=true)(t:Nat):gds t x=false:=by
 unfold QaA at h
 grind[gds,Af,R1]
theorem Q26{f:Nat}{aa:List AV}(hF:Q8u P E o ev f aa){dl:Dl}(ar:aa.all QaA=true)(ao:ZX P f aa hl dl):K3 P E o ev hl dl:=by
 intro β S st a w hR hO hA aq K Q hK;obtain⟨⟨fn,hf,hb,hn⟩,ac⟩:=ao;obtain⟨vals,am,an,ai⟩:=hF β S st a w hR hO;unfold Oper.wp;rw[ai fn hf hb hn];have:=ac β S (look st.h) w _ hR.objs ⟨am,λi v x h1 h2=>(an i v x h1 h2).mono (λ_ h=>h) (λ_ _=>rfl) (λl _=>Keep.rfl_ ..) (λt ht=>by
  grind[Q4b,List.all_eq_true,List.mem_of_getElem?])⟩ (λl h=>hA l h)
 refine this.mono λe w' ⟨v,β',S',he,ak⟩=>?_
 subst he;exact hK v w' (Ry hR aq ak)
theorem Q4w{spec:Q5T}{tt:TT}(hS:BO P spec){f:Nat}{am:Nat}{g u:Bool}{ac:List AV}(hF:Q8u P E o ev f ac){k:Dl->oP R}{r:R}(h:Qcs spec tt am g u hl f ac k=some r):∃dl,k dl=some r/\(g=true->K3 P E o ev hl dl):=by
 unfold Qcs at h;cases ak:QjD spec f with
 |true=>
  simp only[ak,Qpb]at h;cases an:ac.all QaA with
  |false=>simp_all
  |true=>
  simp only[an,Qpb]at h;obtain⟨dl,h,ao⟩:=hS _ _ _ _ _ _ _ _ h
  grind[Q26]
 |false=>
 simp only[ak,cond_false]at h;split at h
 case h_2=>cases h
 rename_i ar bs aw;obtain⟨dl,h,ao⟩:=hS _ _ _ _ _ _ _ _ h;cases aa:(!HY bs (wrL dl)&&(!HY bs dl.rd&&BK bs dl))with
 |false=>simp_all
 |true=>
  simp only[aa,Qpb]at h;simp only[Qp8,Bool.not_eq_true']at aa;obtain⟨hm,aq,ax⟩:=aa;cases hf:(bs.isEmpty||(Rm dl.v&&By dl.wr))with
  |true=>
   simp only[hf,Qpb]at h
   grind[Mg,KD]
  |false=>
   simp only[hf,cond_false]at h;cases ai:(Rm dl.v&&EC tt dl.wr)with
   |true=>
    simp only[ai,Qpb]at h;simp only[Qp8]at ai;obtain⟨_,h,hp⟩:=Qz h
    grind[Mg,GB,L8,Q3C,A7]
   |false=>
    simp only[ai,cond_false]at h;cases u with
    |false=>simp at h
    |true=>
     simp only[Qpb]at h
     grind[CE]
end
end Go.Vx
namespace Go.Vx
variable{hl:Nat->oP Ob}
section
variable{P:Program} {E:Env} {R:Type}
theorem Q4T{x:Nat}:∀{l:List Nat},PL x l=true↔x∈l
 |[]=>by simp[PL]
 |a::r=>by
  simp only[PL,Bool.or_eq_true,Q4T (l:=r),Qpp];constructor
  ·rintro (h | h)
   ·exact .inl (Qp9 h).symm
   ·exact .inr h
  ·rintro (h | h)
   ·exact .inl (by rw[h];exact Nat.beq_refl _)
   ·exact .inr h
def Qgg(av:AV):Prop:=(∀k,Yr k av=false)/\(∀t,gds t av=false)/\av≠.top
theorem QeI(hl:Nat->oP Ob)(bs:List Nat):QiP hl bs=fzH hl bs:=by
 funext k;simp[QiP,fzH,PL,Qpn,Q4T,Qpj]
theorem Q1m(hl:Nat->oP Ob)(ev:Operand->AV):∀(l:List (Nat×Operand)),Vj (λx=>cv1 hl (ev x)) l=cvP hl (Vj ev l)
 |[]=>rfl
 |(i,x)::r=>by simp only[Vj,cvP,Q1m hl ev r]
theorem Qan{hl:Nat->oP Ob}{ev:Operand->AV}:∀{l:List (Nat×Operand)} {p:Nat×Operand},p∈l->∀a b,N3 hl (ev p.2)=some (a,b)->∀x∈b,x∈bsP hl (Vj ev l)
 |(i,y)::r,p,hp,a,b,hc,x,hx=>by
  simp only[Vj,bsP];rcases Qpp.1 hp with rfl | hp
  ·simp only at hc;rw[hc];exact List.mem_append_left _ hx
  ·have ih:=Qan hp a b hc x hx;split
   ·exact List.mem_append_right _ ih
   ·exact ih
theorem Q6w{hl:Nat->oP Ob}:∀{l:List (Nat×AV)} {x:Nat},x∈bsP hl l->∃e s rows,hl x=some (.arr e s rows)
 |[],x,h=>by simp[bsP]at h
 |(i,a)::r,x,h=>by
  simp only[bsP]at h;split at h
  ·rename_i a' b hc;rcases Qpy.1 h with h | h
   ·exact Bq hc x h
   ·exact Q6w h
  ·exact Q6w h
theorem Q40:∀{z:List D} {l:List AV} {ds:List D},QaV z l=some ds->(∀k,G6 k l=false)/\(∀t,Q05 t l=false)/\∀x∈l,x≠.top
 |[],[],ds,h=>⟨λ_=>rfl,λ_=>rfl,λx h=>by simp at h⟩
 |[],_::_,ds,h=>by simp[QaV]at h
 |_::_,[],ds,h=>by simp[QaV]at h
 |z::zs,a::r,ds,h=>by
  simp only[QaV]at h;split at h
  case h_2=>cases h
  rename_i l hl;obtain⟨h1,h2,h3⟩:=Q40 hl;split at h
  ·exact⟨λk=>by simp[G6,Yr,h1 k],λt=>by simp[Q05,gds,h2 t],λx hx=>by
    rcases Qpp.1 hx with rfl | hx
    ·simp
    ·exact h3 x hx⟩
  ·exact⟨λk=>by simp[G6,Yr,h1 k],λt=>by simp[Q05,gds,h2 t],λx hx=>by
    rcases Qpp.1 hx with rfl | hx
    ·simp
    ·exact h3 x hx⟩
  ·cases h
theorem Q8b{z:List D}{av:AV}{ds:List D}(h:QaV z (Y0 av)=some ds):Qgg av:=by
 obtain⟨h1,h2,h3⟩:=Q40 h;cases av with
 |ag l=>exact⟨λk=>by grind[Yr,Y0],λt=>by grind[gds,Y0],by simp⟩
 |fs _ _=>exact⟨λk=>rfl,λt=>rfl,by simp⟩
 |_=>exact⟨λk=>by simp_all [G6,Y0],λt=>by simp_all [Q05,Y0],h3 _ (by simp[Y0])⟩
theorem C5{z:List D}:∀{aa:List (Nat×AV)} {rows ac:List (List D)},Lm z rows aa=some ac->∀p∈aa,Qgg p.2
 |[],_,_,_,p,hp=>by simp at hp
 |(i,v)::r,rows,ac,h,p,hp=>by
  simp only[Lm]at h;split at h
  case h_2=>cases h
  rename_i row ai;cases hc:Nat.ble (i+1) rows.length with
  |false=>simp[hc]at h
  |true=>
   simp only[hc,Qpb]at h;rcases Qpp.1 hp with rfl | hp
   ·exact Q8b ai
   ·exact C5 h p hp
theorem Al{ev:Operand->AV}:∀{l:List (Nat×Operand)} {p:Nat×Operand},p∈l->(p.1,ev p.2)∈Vj ev l
 |(i,y)::r,p,hp=>by
  simp only[Vj];rcases Qpp.1 hp with rfl | hp
  ·simp
  ·exact List.mem_cons_of_mem _ (Al hp)
theorem AR{tt:TT}{ai:Nat}{u:Bool}{t len:Nat}{aa:List (Nat×AV)}{k:Dl->oP R}{r:R}(h:KI tt hl ai u t len aa k=some r):∀p∈aa,Qgg p.2:=by
 unfold KI at h;split at h
 case h_2=>cases h
 rename_i e esz hk;cases hc:(Nat.ble (len*esz) 16777216&&(look tt e).isSome&&Nat.beq (M0 tt e).length esz)with
 |false=>simp_all
 |true=>
  simp only[hc,Qpb]at h;split at h
  case h_2=>cases h
  rename_i rows ac;exact C5 ac
theorem Q3s{o:Oper}{ev:Operand->AV}{bs:List Nat}{dl:Dl}(aw:∀l,l∈bs->∃e s rows,hl l=some (.arr e s rows))(am:∀x∈o.op.operands.toList,(∃b,N3 hl (ev x)=some (cv1 hl (ev x),b)/\∀y∈b,y∈bs)/\Qgg (cv1 hl (ev x)))(hG:K3 P E o (λx=>cv1 hl (ev x)) (fzH hl bs) dl)(hm:HY bs (wrL dl)=false)(az:HY bs dl.rd=false):K3 P E o ev hl ⟨dl.v,bs.map (λl=>(l,none))++dl.wr,bs++dl.rd⟩:=by
 intro β S st a w hR hO hA ao K Q hK;have an:∀l,l∈bs->look st.h l=hl l:=λl h=>hA l (.inl (by simp[h]))
 have ai:∀l,l∈bs->∃e s rows,look st.h l=some (.arr e s rows):=λl h=>by simp_all
 have aq:=Q10 hR bs ai;refine hG β (fzS β S bs) _ a w aq (λx hx=>⟨?_,λl _=>(am x hx).2.1 l⟩) ?_ (BF (λl aa h=>JV hm h aa) (RD ao)) K Q λv w' ak=>hK v w' ?_
 ·obtain⟨⟨b,h1,h2⟩,hb⟩:=am x hx;rw[Ar];exact(Q7q hR.objs an h2 h1 (hO.at hx)).mono (λ_ h=>h) (λ_ _=>rfl) (λl _=>Keep.rfl_ ..) (λt ht=>by rw[hb.2.1 t]at ht;cases ht)
 ·intro l aa;have ac:l ∉ bs:=λh=>by grind[JV]
  rw[Ar,LQ ac,LQ ac];rcases aa with h1 | h1
  ·exact hA l (.inl (by simp[h1]))
  ·exact hA l (.inr (by simp_all [wrL,List.map_append,Qpy]))
 ·obtain⟨β',S',g1,g2⟩:=ak;refine⟨β',S',?_,?_⟩
  all_goals grind[RE]
theorem Q5H{tt:TT}(hT:TOk P tt){o:Oper}{t:TypeId}{len:Nat}{aa:Array (Nat×Operand)}(ho:o.op = .buildSlice t len aa){u:Bool}{ac:Nat}{ev:Operand->AV}{k:Dl->oP R}{r:R}(h:Q5w tt hl ac u t len (Vj ev aa.toList) k=some r):∃dl,k dl=some r/\K3 P E o ev hl dl:=by
 unfold Q5w at h;split at h
 ·exact NV hT ho h
 ·rename_i b bs hb;cases u with
  |false=>simp at h
  |true=>
   rw[<- Q1m]at h;have am:=AR h;rw[QeI]at h;obtain⟨dl,h,hG⟩:=NV (E:=E) hT ho h;cases hc:(!HY (b::bs) (wrL dl)&&!HY (b::bs) dl.rd)with
   |false=>simp_all
   |true=>
    simp only[hc,Qpb]at h;simp only[Qp8,Bool.not_eq_true']at hc;refine⟨_,h,Q3s (λl ai=>Q6w (hb▸ai)) (λx hx=>?_) hG hc.1 hc.2⟩;obtain⟨i,hi⟩:∃i,(i,x)∈aa.toList:=by
     grind[Op.operands]
    have hn:Qgg (cv1 hl (ev x)):=am _ (Al hi);refine⟨?_,hn⟩;unfold cv1 at hn ⊢;cases ak:N3 hl (ev x)with
    |none=>
     rw[ak]at hn;exact absurd rfl hn.2.2
    |some q=>exact⟨q.2,rfl,λy hy=>by grind[Qan]⟩
end
end Go.Vx
namespace Go.Vx
section
variable{P:Program} {E:Env} {R:Type}
theorem C2:∀{rows:List (List D)} {s:List UInt8},Db rows=some s->∃ns:List Int,rows=ns.map (λn=>[D.int .u8 n])/\s=ns.map λn=>UInt8.ofNat n.toNat
 |[],s,h=>by simp_all [Db]
 |row::r,s,h=>by
  unfold Db at h;split at h
  ·simp_all
  ·rename_i n r' he;injection he with he1 he2
   subst he1 he2;split at h
   ·rename_i l hl;injection h with h
    subst h;obtain⟨ns,h1,h2⟩:=C2 hl;exact⟨n::ns,by simp[h1],by simp[h2]⟩
   ·cases h
  ·cases h
theorem Q0V:∀(ns:List Int) (s:ByteArray),(ns.foldl (λr n=>r.push (UInt8.ofNat n.toNat)) s).data.toList=s.data.toList++ns.map λn=>UInt8.ofNat n.toNat
 |[],s=>by simp
 |n::ns,s=>by
  rw[List.foldl_cons,Q0V ns];simp[ByteArray.push]
theorem Q7Y{tt:TT}(hT:TOk P tt){o:Oper}{s t:TypeId}{x:Operand}(ho:o.op = .convert s t x){g:Bool}{ev:Operand->AV}{hl:Nat->oP Ob}{e:Nat}{rows:List (List D)}{rd:List Nat}(hs:TY tt s = .sl e 1)(ht:TY tt t = .str)(he:TY tt e = .int .u8)(hx:Q0W 1 hl (ev x)=some (rows,rd)){k:Dl->oP R}{r:R}(h:gb g (Db rows) [] (λs=>k ⟨.d (.str s),[],rd⟩)=some r) :
  ∃dl,k dl=some r/\(g=true->K3 P E o ev hl dl):=by
 obtain⟨ti,ba,a5⟩:=XC hs Q2;obtain⟨az,ay,ar⟩:=XC ht Q2;obtain⟨a6,aw,ax⟩:=XC he Q2;have a4:=((hT s ti ba).ksl _ _ a5).1;have a2:=(hT t az ay).kstr ar;have a9:=(hT e a6 aw).kint _ ax;obtain⟨str,h,hp⟩:=Qz h;refine⟨_,h,λhg=>QE λβ S st a w hR hO hA=>?_⟩;have hv:=hO.at (x:=x) (by simp[ho,Op.operands]);obtain⟨vals,aq⟩:=Q3x Q0 hx hR hv (λl a7=>hA l (.inl a7));obtain⟨ns,ac,ai⟩:=C2 (hp hg);have am:∀bs:ByteArray,bs.data.toList=str->(execOp a.eval o).run P w = .ok (.value (.string bs)) w->∃u,(execOp a.eval o).run P w = .ok (.value u) w/\RdA β S (look st.h) w (tmv a) u (.d (.str str)):=by
  intro bs hb hr;refine⟨.string bs,hr,.d _ _ ?_⟩;rw[<- hb];exact .str _
 have aa:∀(ad:oP Addr) (l c:Nat) (bs:ByteArray),a.eval x = .slice ad l c->(Conv.bytesToString (.slice ad l c)).run P w = .ok (.string bs) w->(execOp a.eval o).run P w = .ok (.value (.string bs)) w:=by
  intro ad l c bs a8 hb;unfold execOp;rw[ho];simp only[a8,Qpa,run_convert_bytes_string w s t e ad l c a4 a9 a2,hb,Qp6];rfl
 rcases aq.form with⟨hf,hn⟩|⟨c,hf,hn⟩|⟨ad,c,hf,ao⟩
 ·refine am .empty ?_ (aa none 0 0 _ hf (by simp[Conv.bytesToString]));rw[hn]at ac;have:ns=[]:=by
   cases ns with
   |nil=>rfl
   |cons a b=>simp at ac
  rw[ai,this];rfl
 ·refine am .empty ?_ (aa none 0 c _ hf (by simp[Conv.bytesToString]));rw[hn]at ac;have:ns=[]:=by
   cases ns with
   |nil=>rfl
   |cons a b=>simp at ac
  rw[ai,this];rfl
 ·have bb:vals.length=ns.length:=by rw[aq.len,ac];simp
  have an:vals=ns.map (Value.int .u8):=by
   refine List.ext_getElem? λi=>?_
   rcases Nat.lt_or_ge i ns.length with hi | hi
   ·obtain⟨u,hu,hr⟩:=aq.rd i 0 [D.int .u8 ns[i]] (D.int .u8 ns[i]) (by rw[ac];simp[hi]) rfl;rw[show i*1+0=i by omega]at hu;rw[hu];cases hr;simp[hi]
   ·rw[List.getElem?_eq_none Q0,List.getElem?_eq_none (by simpa using hi)]
  have ak:=run_loadCells_list (P:=P) w ad vals ao;have hr:=run_bytesToString (P:=P) w ad rows.length c ns (by
   rw[an,List.length_map]at ak;rw[show rows.length=ns.length by rw[ac];simp];exact ak)
  refine am _ ?_ (aa (some ad) _ c _ hf hr);rw[Q0V,ai];rfl
end
end Go.Vx
namespace Go.Vx
variable{hl:Nat->oP Ob} {ev:Operand->AV} {β:Nat->oP Nat} {S:Nat->Prop} {o:Oper} {tt:TT} {t:TypeId}
section
variable{P:Program} {E:Env} {R:Type}
theorem H5{α:Type}:∀(n s:Nat) (l:List α),(Nr n s l).length=n
 |0,_,_=>rfl
 |n+1,s,l=>by simp[Nr,H5 n]
theorem Ad{α:Type}:∀(n s:Nat) (l:List α) (i:Nat),i<n->(Nr n s l)[i]? = some ((l.drop (i*s)).take s)
 |n+1,s,l,0,_=>by simp[Nr]
 |n+1,s,l,i+1,h=>by
  simp only[Nr,List.getElem?_cons_succ];rw[Ad n s _ i Q0,List.drop_drop,Nat.add_comm s,Qpz]
theorem Q0X{w:World}{cs:Array Value}{n s:Nat}{ds:List D}(ac:ds.length=n*s)(ai:n*s<=cs.size)(hr:∀(j:Nat) (x:D),ds[j]? = some x->∃v,cs[j]? = some v/\Rd S w v x):UW S w cs s (Nr n s ds):=by
 refine⟨by grind[H5],λi r h=>?_,λi j r x h1 h2=>?_⟩
 ·have hi:i<n:=by grind[List.getElem?_eq_some_iff,H5]
  rw[Ad n s ds i hi]at h;have aa:(i+1)*s<=n*s:=Qpd _ Q0
  grind
 grind[List.getElem?_eq_some_iff,H5,Ad]
theorem Q7S{st:St}{a:Act}{w:World}(hR:Rel E β S st a w){aa e s:Nat}{rows:List (List D)}{cs:Array Value}(ac:look st.h aa=none)(hc:Uu st aa=true)(h:UW S w cs s rows) :
  Rel E (RF β aa (some w.heap.size)) S ⟨st.n,st.tm,(aa,.arr e s rows)::rem aa st.h⟩ a (w.alloc (.cells cs e)):=by
 obtain⟨h1,h2,h3⟩:=h;refine hR.new ac hc (.inr ⟨w.heap.size,cs,by simp[RF],J5 _ _,h1,h2,λi j r x h4 h5=>?_⟩);obtain⟨v,hv,hr⟩:=h3 i j r x h4 h5;exact⟨v,hv,hr.mono (λ_ hb=>hb) (λb hb=>YP _ _ (hR.hr.sb b hb))⟩
theorem Q5A(hT:TOk P tt)(ho:o.op = .alloc t){aa:Nat}{ti:TyI}(aq:look tt t=some ti){e esz n:Nat}(hk:ti.kd = .array e esz n)(ao:ti.zd.length=n*esz)(hn:hl aa=none) :
  K3 P E o ev hl ⟨.ap aa 0 0,[]++[(aa,some (.arr t esz (Nr n esz ti.zd)))],[]⟩:=by
 have ac:=hT t ti aq;obtain⟨inf,ax,_,_,z,hz,ar⟩:=ac.inf;obtain⟨_,_,_,ak,_⟩:=ac.karr e esz n hk;have a2:z.cells.size=n*esz:=by rw[<- Qpk,ar,ac.zlen];exact ak
 intro β S st a w hR hO hA a3 K Q hK;have aw:look st.h aa=none:=by rw[hA aa (.inr (by simp[wrL]))];exact hn
 have hc:Uu st aa=true:=by grind[Wo]
 have am:UW S w z.cells esz (Nr n esz ti.zd):=Q0X ao Q0 λj x hx=>by
  obtain⟨v,hv,hr⟩:=ac.zd Q0 j x hx
  grind
 have an:(execOp a.eval o).run P w = .ok (.value (.pointer (some ⟨w.heap.size,0,none⟩))) (w.alloc (.cells z.cells t)):=by
  simp_all [execOp,Instr.alloc,zeroValue,Yy,newVar,newRow]
 unfold Oper.wp;rw[an];refine hK _ _ ⟨RF β aa (some w.heap.size),S,Q7S hR aw hc am,?_⟩;have:=RdA.ap (β:=RF β aa (some w.heap.size)) (S:=S) (h:=look (MA st.h ([]++[(aa,some (Ob.arr t esz (Nr n esz ti.zd)))]))) (w:=w.alloc (.cells z.cells t)) (tm:=tmv a) aa 0 0 w.heap.size t esz (Nr n esz ti.zd) (by simp[RF]) (by simp[MA,WW])
 simp_all
theorem Q1c{α:Type}{l:List α}{n:Nat}{u:Unit}(h:SY l n=some u):l.length=n:=by
 grind[SY,Nat.beq,Nat.eq_of_beq_eq_true]
theorem BT(hT:TOk P tt){x i:Operand}(ho:o.op = .indexAddr t x i){g:Bool}{k:Dl->oP R}{r:R}{e esz n l:Nat}(hk:TY tt t = .array e esz n)(aw:ev x = .ap l 0 0)(h:LP g hl esz n l (ev i) k=some r):∃dl,k dl=some r/\(g=true->K3 P E o ev hl dl):=by
 have am:x∈o.op.operands.toList:=by grind[Op.operands]
 have ao:i∈o.op.operands.toList:=by simp[ho,Op.operands]
 obtain⟨ti,ar,an⟩:=XC hk Q2;obtain⟨hu,a2,⟨i0,az,ac⟩,_,_⟩:=(hT t ti ar).karr _ _ _ an;unfold LP at h;split at h
 case h_2=>cases h
 rename_i ik y e' s rows ay aa;cases hb:Nat.beq s esz with
 |false=>simp_all
 |true=>
  obtain rfl:=Qp9 hb;simp only[hb,Qpb]at h;obtain⟨u,h,aq⟩:=Qz h;refine⟨_,h,λhg=>QE λβ S st a w hR hO hA=>?_⟩;obtain⟨h0,h1⟩:=Q7d (aq hg);have hi:=(ay▸hO.at ao).int_inv;have ak:look st.h l=some (.arr e' s rows):=by rw[hA l (.inl Q2)];exact aa
  obtain⟨b,ax,hx⟩:=RdA.ap_inv ak (aw▸hO.at am);have ai:(execOp a.eval o).run P w = .ok (.value (.pointer (some ⟨b,y.toNat*s,none⟩))) w:=by
   unfold execOp;rw[ho];simp[Instr.indexAt,hx,hi,asIntOf,X6 hu,h0,h1,sizeOf,Yy az,ac,Instr.sureAddr,Jy]
  refine⟨_,ai,?_⟩;have:=RdA.ap (β:=β) (S:=S) (h:=look st.h) (w:=w) (tm:=tmv a) l y.toNat 0 b e' s rows ax ak;omega
theorem Q5I(hT:TOk P tt){x y:Operand}(ho:o.op = .store t x y){k:Dl->oP R}{r:R}{e esz n l:Nat}(hk:TY tt t = .array e esz n)(bl:ev x = .ap l 0 0)(h:Q6z hl esz n l (ev y) k=some r):∃dl,k dl=some r/\K3 P E o ev hl dl:=by
 have bi:x∈o.op.operands.toList:=by grind[Op.operands]
 have ba:y∈o.op.operands.toList:=by simp[ho,Op.operands]
 obtain⟨ti,bk,bj⟩:=XC hk Q2;have a3:=hT t ti bk;obtain⟨hu,bo,_,ar,_⟩:=a3.karr _ _ _ bj;unfold Q6z at h;split at h
 case h_2=>cases h
 rename_i e' s rows a2;cases hb:Nat.beq s esz with
 |false=>simp_all
 |true=>
  obtain rfl:=Qp9 hb;simp only[hb,Qpb]at h;split at h
  case h_2=>cases h
  rename_i ds bh;cases ak:Nat.beq ds.length (n*s)with
  |false=>simp_all
  |true=>
   have a6:=Qp9 ak;simp only[ak,Qpb]at h;obtain⟨u,h,az⟩:=Qz h;have bc:=Q1c (az rfl);refine⟨_,h,?_⟩;intro β S st a w hR hO hA b8 K Q hK;have ac:look st.h l=some (.arr e' s rows):=by rw[hA l (.inl Q2)];exact a2
   obtain⟨b,ai,hx⟩:=RdA.ap_inv ac (bl▸hO.at bi);have ax:=Q04 bh;obtain⟨c1,c2,c3⟩:=ME (hO.at ba) (by rw[ax];exact DN ds);rcases hR.hr.ob l _ ac with⟨a8,_⟩|⟨b',cs,ao,hw,aq,b5,b1⟩
   ·rw[ai]at a8;cases a8
   obtain rfl:b=b':=by rw[ai]at ao;injection ao
   rw[bc]at aq;have an:(a.eval y).cells.size=n*s:=by rw[c1,ax];simpa using a6
   obtain⟨w',a7,aa⟩:∃w',(storeCells ⟨b,0,none⟩ (a.eval y).cells.toList 0).run P w = .ok () w'/\Wrote b (Tw cs 0 (a.eval y).cells.toList) e' (0,0) w w':=
    Gl b 0 e' (0,0) _ 0 cs w hw (QeB _) (by simp[an];omega) c3
   have a4:∀j,(Tw cs 0 (a.eval y).cells.toList)[j]? = if j<n*s then(a.eval y).cells[j]? else cs[j]?:=by
    intro j;rw[SI _ _ _ _ (by simp[an];omega)];simp[an]
   unfold Oper.wp;have bd:a.eval x = .pointer (some ⟨b,0,none⟩):=by simpa using hx
   rw[Pn ho bd (Pa a3 (by rw[an,ar]) a7)];have a5:∀k',look ((l,Ob.arr e' s (Nr n s ds))::rem l st.h) k'=if k'=l then some (.arr e' s (Nr n s ds))else look st.h k':=λk'=>WW l k' _ st.h
   have am:Keep β (look st.h) w β (look ((l,.arr e' s (Nr n s ds))::rem l st.h)) w' l:=by
    refine⟨rfl,λh=>?_,λe1 s1 a9 h=>?_,λb2 b3 b0 b9 _ ak ay=>?_,λt f h=>by rw[ac]at h;cases h⟩
    ·rw[ac]at h;cases h
    ·rw[ac]at h;cases h;exact .inr ⟨Nr n s ds,by rw[a5,Qpn rfl],by rw[H5];omega⟩
    ·rw[ai]at ak;injection ak with e;subst e
     rw[hw]at ay;injection ay with e;injection e with e1 e2 e3;subst e1
     exact⟨_,_,_,aa.blk,U5 _ _ _⟩
   refine hK undef _ ⟨β,S,hR.set ac ai aa.oth aa.os aa.tape aa.output aa.size am (.inr ⟨b,_,ai,aa.blk,?_⟩),.top _⟩;have bb:∀c,S c->w'.heap[c]? = w.heap[c]?:=λc hc=>aa.oth c (λe=>by subst e;exact hR.hr.apart l c (by simp[ac]) ai hc)
   have aw:UW S w (Tw cs 0 (a.eval y).cells.toList) s (Nr n s ds):=by
    refine Q0X a6 (by rw[U5];exact aq) λj d hd=>?_
    have hj:j<n*s:=by have:=(Qp7.1 hd).1;omega
    have h1:=a4 j;rw[Qpn hj]at h1;rw[h1];refine⟨_,KF (cs:=(a.eval y).cells) Q0,?_⟩;have h2:=c2 j (.d d) (by rw[ax,Qph,hd];rfl);exact h2.d_inv
   obtain⟨r1,r2,r3⟩:=aw;exact⟨r1,r2,λi j r x h4 h5=>by
    obtain⟨v,hv,hr⟩:=r3 i j r x h4 h5;exact⟨v,hv,hr.mono (λ_ h=>h) bb⟩⟩
theorem Qb4{st:St}{a:Act}{w w':World}(hR:Rel E β S st a w)(aa:∀b,b<w.heap.size->w'.heap[b]? = w.heap[b]?)(am:w'.heap.size=w.heap.size+1)(ak:w'.os=w.os)(ai:w'.tape=w.tape)(ac:w'.output=w.output):Rel E β (λb=>S b\/b=w.heap.size) st a w':=by
 have:=hR.upd (w':=w') (β':=β) (S':=λb=>S b\/b=w.heap.size) (H':=st.h) (λ_ h=>.inl h) (λb hb=>aa b (hR.hr.sb b hb)) (λ_=>False)
  (λl _=>⟨rfl,rfl,λb hs hb=>aa b (Kv hR hs hb)⟩) (λl h=>h.elim) (λl o h=>h.elim) hR.hr.inj
  (λl b hs hb hS=>by
   rcases hS with hS | hS
   ·exact hR.hr.apart l b hs hb hS
   ·have:=Kv hR hs hb;omega)
  hR.hr.own
  (λb hS=>by
   rcases hS with hS | hS
   ·have:=hR.hr.sb b hS;omega
   ·omega)
  (λb hS=>by
   rcases hS with hS | hS
   ·exact hR.hr.sfr b hS
   ·right;right;have:=hR.hr.fr.size;omega)
  ⟨ak.trans hR.hr.fr.os,ai.trans hR.hr.fr.tape,ac.trans hR.hr.fr.output,by have:=hR.hr.fr.size;omega,λb hb hm=>(aa b (Qpx hb hR.hr.fr.size)).trans (hR.hr.fr.block b hb hm)⟩
 exact this
theorem Q1T(hT:TOk P tt){s t:TypeId}{x:Operand}(ho:o.op = .convert s t x){e:Nat}{n:List UInt8}(hs:TY tt s = .str)(ht:TY tt t = .sl e 1)(he:TY tt e = .int .u8)(hx:ev x = .d (.str n)):K3 P E o ev hl ⟨.d (.sl 1 (Q8x n)),[],[]⟩:=by
 obtain⟨ti,ay,aw⟩:=XC hs Q2;obtain⟨ao,an,aa⟩:=XC ht Q2;obtain⟨ax,ac,am⟩:=XC he Q2;have a5:=(hT s ti ay).kstr aw;have a3:=((hT t ao an).ksl _ _ aa).1;have a7:=(hT e ax ac).kint _ am;intro β S st a w hR hO hA a9 K Q hK;obtain⟨b,hb,hv⟩:=(hx▸hO.at (x:=x) (by grind[Op.operands])).str_inv;have ak:(execOp a.eval o).run P w = .ok (.value (.slice (some ⟨w.heap.size,0,none⟩) b.size (grownCap w b.size 0 e))) (Lib.bytesWorld w e b):=by
  simp_all [execOp,Qpa,Lib.run_convert_string_bytes,Qp6]
 unfold Oper.wp;rw[ak];have az:b.size<=grownCap w b.size 0 e:=grownCap_ge w b.size 0 e;refine hK _ _ ⟨β,λc=>S c\/c=w.heap.size,Qb4 hR (λc hc=>Lib.bytesWorld_at_old w e b c hc) (Lib.bytesWorld_size w e b) rfl rfl rfl,.d _ _ ?_⟩;have ai:(Q8x n).length=b.size:=by simp[Q8x,hb]
 rw[<- ai];refine UW.rd (cs:=Lib.bytesCells w e b) ⟨?_,?_,?_⟩ (Lib.bytesWorld_at_new w e b) (.inr rfl) Q4
 ·simp_all [Lib.bytesCells]
 ·simp_all [Q8x,Qph,Qpc]
 ·intro i j r d h1 h2;simp only[Q8x,Qph,Qpc]at h1;obtain⟨c,hc,rfl⟩:=h1;cases j with
  |zero=>
   simp at h2;subst h2;have hi:i<b.size:=by have:=(Qp7.1 hc).1;rw[hb]at this;simpa using this
   refine⟨.int .u8 (c.toNat:Int),?_,.int _ _⟩;rw[hb]at hc;have:b.data[i]? = some c:=by simpa using hc
   have aq:i<b.data.size:=hi;simp only[Lib.bytesCells,Nat.mul_one,Nat.add_zero];rw[Array.getElem?_append_left (by simpa using aq),Array.getElem?_map,this];rfl
  |succ j=>simp at h2
theorem RC(n:Int):∀(es:List MapEntry) (i:Nat),(∀e∈es,∃m,e.key = .int .i64 m) ->
  (HS es n=none/\Instr.findNow (.int .i64) (.int .i64 n) es i=some none)\/∃j v,HS es n=some v/\Instr.findNow (.int .i64) (.int .i64 n) es i=some (some (j,v))
 |[],i,_=>.inl ⟨rfl,rfl⟩
 |e::r,i,h=>by
  obtain⟨m,hm⟩:=h e (List.mem_cons_self ..);simp only[HS,hm,Instr.findNow,Instr.sameNow,if_true];by_cases ac:m=n
  ·simp_all
  ·have hb:(n == m)=false:=by grind
   simp only[hb,ac,if_false];exact RC n r (i+1) λx hx=>h x (List.mem_cons_of_mem _ hx)
theorem RdA.mpd_inv{h:Nat->oP Ob}{w:World}{tm:Nat->Value}{v:Value}{f:Int->List (List D)}(hv:RdA β S h w tm v (.mpd f)):QaU S w v f:=by
 cases hv with
 |mpd _ _ hm=>exact hm
 |dang _ _ l hl=>trivial
theorem Q6l(hT:TOk P tt){m x:Operand}(ho:o.op = .lookup t m x false){f:Int->List (List D)}{n:Int}(ht:TY tt t = .mapI)(hm:ev m = .mpd f)(hx:ev x = .d (.int .i64 n)):K3 P E o ev hl ⟨.d (.sl 1 (f n)),[],[]⟩:=by
 obtain⟨ti,ao,am⟩:=XC ht Q2;obtain⟨K0,e,hu,hk,i,hi,hz⟩:=(hT t ti ao).kmap am;intro β S st a w hR hO hA a6 K Q hK;obtain⟨b,es,aq,hv,hS,hb,ac,hn,aa⟩:=(hm▸hO.at (x:=m) (by simp[ho,Op.operands])).mpd_inv;have an:=(hx▸hO.at (x:=x) (by simp[ho,Op.operands])).int_inv;have ar:(zeroValue e).run P w = .ok (.slice none 0 0) w:=by simp[zeroValue,Yy hi,hz]
 have ak:(Instr.checkKey es.isEmpty 10000 K0 (.int .i64 n)).run P w = .ok () w:=by
  rw[show(10000:Nat)=9999+1 from rfl,Instr.checkKey];simp only[Qpa,X6 hk,Qp6];rfl
 obtain⟨v,ai,aw⟩:∃v,(Instr.lookup t (.map (some b)) (.int .i64 n) false).run P w = .ok v w/\Rd S w v (.sl 1 (f n)):=by
  rcases RC n es.toList 0 ac with⟨h1,h2⟩|⟨j,v,h1,h2⟩
  ·refine⟨.slice none 0 0,?_,by rw[hn n h1];exact .sl0 _ _ _⟩;simp[Instr.lookup,X6 hu,Qpo hb,ak,Instr.findKey,X6 hk,h2,ar,Result.andThen]
  ·refine⟨v,?_,aa n v h1⟩;simp[Instr.lookup,X6 hu,Qpo hb,ak,Instr.findKey,X6 hk,h2,Result.andThen]
 unfold Oper.wp execOp;rw[ho];simp only[hv,an,Qpa,ai,Qp6];exact hK _ _ ⟨β,S,hR,.d _ _ aw⟩
end
end Go.Vx
namespace Go.Vx
variable{hl:Nat->oP Ob} {ev:Operand->AV} {t:TypeId}
section
variable{P:Program} {E:Env} {R:Type}
theorem Q74(n:Int)(u:Value):∀(es:List MapEntry) (i:Nat),(∀e∈es,∃m,e.key = .int .i64 m)->HS es n≠none ->
  ∃j v e,Instr.findNow (.int .i64) (.int .i64 n) es i=some (some (i+j,v))/\es[j]? = some e/\e.key = .int .i64 n /\
   (∀x∈es.modify j (λe=>{ e with key:=.int .i64 n,val:=u }),∃m,x.key = .int .i64 m)/\∀m,HS (es.modify j λe=>{ e with key:=.int .i64 n,val:=u }) m=if m=n then some u else HS es m
 |[],i,_,h=>absurd rfl h
 |e::r,i,h,hl=>by
  obtain⟨k,hk⟩:=h e (List.mem_cons_self ..);by_cases ac:k=n
  ·subst ac;refine⟨0,e.val,e,?_,rfl,hk,λx hx=>?_,λm=>?_⟩
   all_goals grind[Instr.findNow,Instr.sameNow,List.modify_zero_cons,HS]
  ·have hb:(n == k)=false:=by grind
   simp only[HS,hk,ac,if_false]at hl;obtain⟨j,v,e',g1,g2,g3,g4,g5⟩:=Q74 n u r (i+1) (λx hx=>h x (List.mem_cons_of_mem _ hx)) hl;refine⟨j+1,v,e',?_,by simp_all,g3,λx hx=>?_,λm=>?_⟩
   ·simp only[Instr.findNow,Instr.sameNow,hk,hb,if_true,g1];rw[QpB,Nat.add_comm 1 j]
   ·simp only[List.modify_succ_cons,Qpp]at hx;rcases hx with rfl | hx
    ·exact⟨k,hk⟩
    ·exact g4 x hx
   grind[List.modify_succ_cons,HS]
theorem Q3G(n:Int)(e:MapEntry)(he:e.key = .int .i64 n):∀(es:List MapEntry),(∀e∈es,∃m,e.key = .int .i64 m)->HS es n=none->∀m,HS (es++[e]) m=if m=n then some e.val else HS es m
 |[],_,_,m=>by
  simp only[List.nil_append,HS,he];by_cases h:n=m
  ·simp[h]
  ·rw[Qpj h,Qpj (λe=>h e.symm)]
 |x::r,h,hl,m=>by
  obtain⟨k,hk⟩:=h x (List.mem_cons_self ..);simp only[HS,hk]at hl;by_cases aa:k=n
  ·rw[Qpn aa]at hl;cases hl
  ·rw[Qpj aa]at hl;have ih:=Q3G n e he r (λy hy=>h y (List.mem_cons_of_mem _ hy)) hl m;simp only[List.cons_append,HS,hk,ih];by_cases hm:k=m
   ·subst hm;simp[aa]
   ·simp[hm]
theorem Q7R{tt:TT}(hT:TOk P tt)(ht:TY tt t = .mpb){w:World}{b:Nat}{f:Int->Bool}(hm:MpR w b f)(n:Int)(v:Bool) :
  ∃w',(Instr.mapUpdate t (.map (some b)) (.int .i64 n) (.bool v)).run P w = .ok () w'/\MpR w' b (Q7N f n v)/\(∀k,k≠b->w'.heap[k]? = w.heap[k]?)/\w'.os=w.os/\w'.tape=w.tape/\w'.output=w.output/\w'.heap.size=w.heap.size:=by
 obtain⟨ti,a4,a2⟩:=XC ht Q2;obtain⟨K0,e,hu,hk,i,hi,hz⟩:=(hT t ti a4).kmpb a2;obtain⟨es,ai,hb,aa,hn,ao⟩:=hm;have ax:b<w.heap.size:=(Qpl.1 hb).1;have aw:(Instr.checkKey false 10000 K0 (.int .i64 n)).run P w = .ok () w:=by
  rw[show(10000:Nat)=9999+1 from rfl,Instr.checkKey];simp only[Qpa,X6 hk,Qp6];rfl
 have fin:∀(ak:Array MapEntry) (ac:Nat),(Instr.mapUpdate t (.map (some b)) (.int .i64 n) (.bool v)).run P w = .ok () { w with heap:=w.heap.setIfInBounds b (.map ak ac) } ->
   (∀e∈ak.toList,∃m,e.key = .int .i64 m)->(∀m,HS ak.toList m=if m=n then some (.bool v)else HS es.toList m) ->
   ∃w',(Instr.mapUpdate t (.map (some b)) (.int .i64 n) (.bool v)).run P w = .ok () w'/\MpR w' b (Q7N f n v)/\(∀k,k≠b->w'.heap[k]? = w.heap[k]?)/\w'.os=w.os/\w'.tape=w.tape/\w'.output=w.output/\w'.heap.size=w.heap.size:=by
  intro ak ac aq az ar;refine⟨_,aq,⟨ak,ac,by simp[ax],az,λm hm=>?_,λm x hm=>?_⟩,λk hk=>?_,rfl,rfl,rfl,by simp⟩
  ·rw[ar]at hm;by_cases e1:m=n
   ·rw[Qpn e1]at hm;cases hm
   ·rw[Qpj e1]at hm;simp[Q7N,e1,hn m hm]
  ·rw[ar]at hm;by_cases e1:m=n
   ·rw[Qpn e1]at hm;injection hm with hm;simp[Q7N,e1,<- hm]
   ·rw[Qpj e1]at hm;simp[Q7N,e1,ao m x hm]
  ·simp[Ne.symm hk]
 cases hl:HS es.toList n with
 |none=>
  have hf:Instr.findNow (.int .i64) (.int .i64 n) es.toList 0=some none:=by
   rcases RC n es.toList 0 aa with⟨_,h2⟩|⟨j,x,h1,_⟩
   ·exact h2
   ·rw[hl]at h1;cases h1
  refine fin (es.push ⟨.int .i64 n,.bool v,ai⟩) (ai+1) ?_ (λx hx=>?_) (λm=>?_)
  ·simp[Instr.mapUpdate,X6 hu,Qpo hb,aw,Instr.findKey,X6 hk,hf,MapKept.run_setObj_map _ hb,Result.andThen]
  ·simp only[Array.toList_push,Qpy,List.mem_singleton]at hx;rcases hx with hx | rfl
   ·exact aa x hx
   ·exact⟨n,rfl⟩
  ·rw[Array.toList_push];exact Q3G n _ rfl es.toList aa hl m
 |some x=>
  obtain⟨j,y,e',g1,g2,g3,g4,g5⟩:=Q74 n (.bool v) es.toList 0 aa (by rw[hl];simp);rw[Nat.zero_add]at g1;have a3:es[j]? = some e':=by simpa using g2
  have ay:∀(w:World),(Instr.keyThatStays (.int .i64 n) (.int .i64 n)).run P w = .ok (.int .i64 n) w:=by
   intro w;simp[Instr.keyThatStays,Instr.sameBits]
  refine fin (es.modify j λe=>{ e with key:=.int .i64 n,val:=.bool v }) ai ?_ (by rw[Array.toList_modify];exact g4) (λm=>by rw[Array.toList_modify];exact g5 m);simp[Instr.mapUpdate,X6 hu,Qpo hb,aw,Instr.findKey,X6 hk,g1,a3,g3,ay,MapKept.run_setObj_map _ hb,Result.andThen]
theorem Q4A{o:Oper}(ho:o.op = .makeMap t none){aa:Nat}(hn:hl aa=none) :
  K3 P E o ev hl ⟨.arr aa,[]++[(aa,some (.mp t λ_=>false))],[]⟩:=by
 intro β S st a w hR hO hA am K Q hK;have ai:look st.h aa=none:=by rw[hA aa (.inr (by simp[wrL]))];exact hn
 have hc:Uu st aa=true:=by grind[Wo]
 have ac:(execOp a.eval o).run P w = .ok (.value (.map (some w.heap.size))) (w.alloc (.map #[] 0)):=by
  unfold execOp;rw[ho];rfl
 unfold Oper.wp;rw[ac];refine hK _ _ ⟨RF β aa (some w.heap.size),S,?_,.mp aa w.heap.size t (λ_=>false) (by simp[RF]) (by simp[MA,look])⟩;exact hR.new ai hc ⟨w.heap.size,by simp[RF],#[],0,J5 _ _,by simp,λn _=>rfl,λn v h=>by trivial⟩
theorem Q0Q{tt:TT}(hT:TOk P tt){o:Oper}{m x v:Operand}(ho:o.op = .mapUpdate t m x v){l t':Nat}{f:Int->Bool}{n:Int}{b:Bool}(ht:TY tt t = .mpb)(hm:ev m = .arr l)(hx:ev x = .d (.int .i64 n))(hv:ev v = .d (.bool b))(aa:hl l=some (.mp t' f)):K3 P E o ev hl ⟨.top,[(l,some (.mp t' (Q7N f n b)))],[l]⟩:=by
 intro β S st a w hR hO hA bb K Q hK;have aa:look st.h l=some (.mp t' f):=by rw[hA l (.inl Q2)];exact aa
 obtain⟨bk,hb,a6⟩:=RdA.mp_inv aa (hm▸hO.at (x:=m) (by grind[Op.operands]));have a9:=(hx▸hO.at (x:=x) (by simp[ho,Op.operands])).int_inv;have bc:=(hv▸hO.at (x:=v) (by simp[ho,Op.operands])).bool_inv;obtain⟨b2,ba,an⟩:=hR.hr.ob l _ aa;obtain rfl:bk=b2:=by simp_all
 obtain⟨w',az,ao,ak,ay,ac,am,aw⟩:=Q7R hT ht an n b;have ai:(execOp a.eval o).run P w = .ok .skip w':=by
  simp_all [execOp,Qpa,Qp6]
 unfold Oper.wp;rw[ai];refine hK undef _ ⟨β,S,?_,.top _⟩;obtain⟨es,ax,a3,_⟩:=an;refine hR.set aa hb ak ay ac am aw ⟨rfl,λh=>?_,λe s rows h=>?_,λb3 cs ty fz _ bd a5=>?_,λt1 f1 h=>?_⟩ ⟨bk,hb,ao⟩
 ·simp_all
 ·rw[aa]at h;cases h
 ·simp_all
 ·rw[aa]at h;injection h with h
  injection h with h1 h2
  subst h1;exact .inr ⟨Q7N f n b,by rw[WW,Qpn rfl]⟩
theorem Q59{tt:TT}(hT:TOk P tt){o:Oper}{m x:Operand}(ho:o.op = .lookup t m x false){l t':Nat}{f:Int->Bool}{n:Int}(ht:TY tt t = .mpb)(hm:ev m = .arr l)(hx:ev x = .d (.int .i64 n))(aa:hl l=some (.mp t' f)):K3 P E o ev hl ⟨.d (.bool (f n)),[],[l]⟩:=by
 obtain⟨ti,ax,ar⟩:=XC ht Q2;obtain⟨K0,e,hu,hk,i,hi,hz⟩:=(hT t ti ax).kmpb ar;refine QE λβ S st a w hR hO hA=>?_
 have aa:look st.h l=some (.mp t' f):=by rw[hA l (.inl Q2)];exact aa
 obtain⟨bk,hb,aq⟩:=RdA.mp_inv aa (hm▸hO.at (x:=m) (by simp[ho,Op.operands]));have aw:=(hx▸hO.at (x:=x) (by simp[ho,Op.operands])).int_inv;obtain⟨b2,an,es,ay,ak,ai,hn,ac⟩:=hR.hr.ob l _ aa;obtain rfl:bk=b2:=by rw[hb]at an;injection an
 have az:(zeroValue e).run P w = .ok (.bool false) w:=by simp[zeroValue,Yy hi,hz]
 have ao:(Instr.checkKey es.isEmpty 10000 K0 (.int .i64 n)).run P w = .ok () w:=by
  rw[show(10000:Nat)=9999+1 from rfl,Instr.checkKey];simp only[Qpa,X6 hk,Qp6];rfl
 have am:(Instr.lookup t (.map (some bk)) (.int .i64 n) false).run P w = .ok (.bool (f n)) w:=by
  rcases RC n es.toList 0 ai with⟨h1,h2⟩|⟨j,v,h1,h2⟩
  ·rw[hn n h1];simp[Instr.lookup,X6 hu,Qpo ak,ao,Instr.findKey,X6 hk,h2,az,Result.andThen]
  ·rw[<- ac n v h1];simp[Instr.lookup,X6 hu,Qpo ak,ao,Instr.findKey,X6 hk,h2,Result.andThen]
 refine⟨.bool (f n),?_,.d _ _ (.bool _)⟩;unfold execOp;rw[ho];simp only[aq,aw,Qpa,am,Qp6];rfl
end
end Go.Vx
namespace Go.Vx
variable{hl:Nat->oP Ob} {ev:Operand->AV} {o:Oper} {t:TypeId}
section
variable{P:Program} {E:Env} {R:Type}
theorem Q5Q{s:List UInt8}{n b:Int}(h:Zj s n=some b):0<=n/\∃aa:n.toNat<s.length,b=((s[n.toNat]' aa).toNat:Int):=by
 grind[Zj]
theorem Q8A{tt:TT}(hT:TOk P tt){x i:Operand}(ho:o.op = .index t x i){g:Bool}{k:Dl->oP R}{r:R}(h:Qba tt g t (ev x) (ev i) k=some r):∃dl,k dl=some r/\(g=true->K3 P E o ev hl dl):=by
 have aa:x∈o.op.operands.toList:=by grind[Op.operands]
 have ai:i∈o.op.operands.toList:=by simp[ho,Op.operands]
 unfold Qba at h;split at h
 case h_2=>cases h
 rename_i s ik n hk am an;obtain⟨ti,ak,ac⟩:=XC hk Q2;have hu:=(hT t ti ak).kstr ac;obtain⟨b,h,hp⟩:=Qz h;refine⟨_,h,λhg=>QE λβ S st a w hR hO hA=>?_⟩;obtain⟨bs,hs,hx⟩:=(am▸hO.at aa).str_inv;have hi:=(an▸hO.at ai).int_inv;obtain⟨h0,aq,hb⟩:=Q5Q (hp hg);have ax:s.length=bs.size:=by simp_all
 refine⟨.int .u8 b,?_,.d _ _ (.int _ _)⟩;unfold execOp;have:=run_index_string (P:=P) w t bs ik n hu;rw[dif_pos ⟨h0,Q0⟩]at this
 simp_all [Qpa,Qp6,ByteArray.getElem_eq_getElem_data]
theorem VL{β:Nat->oP Nat}{S:Nat->Prop}{h:Nat->oP Ob}{w:World}{tm:Nat->Value}{ρ:Operand->Value}{x:oP Operand}{n:oP Int}(hb:M3 ev x=some n)(hx:∀y,x=some y->RdA β S h w tm (ρ y) (ev y)) :
  (x=none/\n=none)\/∃y k m,x=some y/\n=some m/\ρ y = .int k m:=by
 cases x with
 |none=>grind[M3]
 |some y=>
  simp only[M3]at hb;split at hb
  ·rename_i k m aa;simp at hb;exact .inr ⟨y,k,m,rfl,hb.symm,(aa▸hx y rfl).int_inv⟩
  ·cases hb
theorem Mt{len:Nat}{lo hi:oP Int}{q:Nat×Nat}(h:slB len lo hi=some q) :
  0<=lo.getD 0/\lo.getD 0<=hi.getD len/\hi.getD len<=len/\q=((lo.getD 0).toNat,(hi.getD len).toNat):=by
 grind[slB]
theorem My(aa:Bool){len cap:Nat}(an:len<=cap){lo hi:oP Operand}{l h:oP Int}{ρ:Operand->Value}{w:World}{q:Nat×Nat}(hs:slB len l h=some q)(ak:(lo=none/\l=none)\/∃y k m,lo=some y/\l=some m/\ρ y = .int k m)(ai:(hi=none/\h=none)\/∃y k m,hi=some y/\h=some m/\ρ y = .int k m) :
  (Instr.sliceBounds aa len cap (lo.map ρ) (hi.map ρ) none).run P w = .ok (q.1,q.2,cap) w:=by
 obtain⟨h1,h2,h3,rfl⟩:=Mt hs;rcases ak with⟨rfl,rfl⟩|⟨y,k,m,rfl,rfl,hy⟩<;>rcases ai with⟨rfl,rfl⟩|⟨y',k',m',rfl,rfl,am⟩<;>simp only[Option.getD_none,Option.getD_some]at h1 h2 h3
 ·rfl
 ·have e1:0<=m'/\m'<=(cap:Int):=Q0
  simp_all [Instr.sliceBounds,run_sliceBound_if]
 ·simp_all [Instr.sliceBounds,run_sliceBound_if]
 ·have e1:0<=m'/\m'<=(cap:Int):=Q0
  have e2:0<=m/\m<=(m'.toNat:Int):=Q0
  simp_all [Instr.sliceBounds,run_sliceBound_if]
theorem EU{α:Type}{l:List α}{q:Nat×Nat}{i:Nat}{a:α}(h:(cut l q)[i]? = some a):i<q.2-q.1/\l[q.1+i]? = some a:=by
 simp_all [cut,List.getElem?_take,List.getElem?_drop]
theorem Q3J{x:Operand}{lo hi:oP Operand}(ho:o.op = .slice t x lo hi none):x∈o.op.operands.toList/\(∀y,lo=some y->y∈o.op.operands.toList)/\∀y,hi=some y->y∈o.op.operands.toList:=by
 grind[Op.operands]
theorem Q8z{tt:TT}(hT:TOk P tt){x:Operand}{lo hi:oP Operand}(ho:o.op = .slice t x lo hi none){g:Bool}{k:Dl->oP R}{r:R}(h:Q9i tt g t (ev x) (M3 ev lo) (M3 ev hi) k=some r):∃dl,k dl=some r/\(g=true->K3 P E o ev hl dl):=by
 obtain⟨a2,ar,ac⟩:=Q3J ho;unfold Q9i at h;split at h
 case h_2=>cases h
 rename_i l' h' a4 a3;split at h
 ·rename_i s hk ax;obtain⟨ti,aw,am⟩:=XC hk Q2;have hu:=(hT t ti aw).kstr am;obtain⟨q,h,hp⟩:=Qz h;refine⟨_,h,λhg=>QE λβ S st a w hR hO hA=>?_⟩;obtain⟨bs,hs,hx⟩:=(ax▸hO.at a2).str_inv;have ao:s.length=bs.size:=by simp_all
  have hb:=My (P:=P) false (len:=s.length) (cap:=s.length) (Qpu _) (ρ:=a.eval) (w:=w) (hp hg) (VL a4 λy hy=>hO.at (ar y hy)) (VL a3 λy hy=>hO.at (ac y hy));rw[ao]at hb;refine⟨.string (bs.extract q.1 q.2),?_,.d _ _ ?_⟩
  ·simp_all [execOp,Qpa,run_sliceAt_string,Option.map_none,Instr.slice,X6,Qp6,Option.isSome_none,Bool.false_eq_true,if_false]
  ·have:cut s q=(bs.extract q.1 q.2).data.toList:=by
    rw[hs];simp[cut,ByteArray.data_extract]
   rw[this];exact .str _
 ·rename_i e esz s rows hk ax;cases hb:Nat.beq s esz with
  |false=>simp[hb]at h
  |true=>
   simp only[hb,Qpb]at h;obtain rfl:=Qp9 hb;obtain⟨ti,aw,am⟩:=XC hk Q2;obtain⟨hu,a6,inf,ak,ao⟩:=(hT t ti aw).ksl _ _ am;obtain⟨q,h,hp⟩:=Qz h;refine⟨_,h,λhg=>QE λβ S st a w hR hO hA=>?_⟩;have a9:=(ax▸hO.at a2).d_inv;have hq:=Mt (hp hg);have aq:∀(ad:oP Addr) (cap:Nat),rows.length<=cap->a.eval x = .slice ad rows.length cap->(execOp a.eval o).run P w = .ok (.value (.slice (if cap=q.1 then ad else ad.map (·.add (q.1*s))) (q.2-q.1) (cap-q.1))) w:=by
    intro ad cap hc hx;have hb:=My (P:=P) true hc (ρ:=a.eval) (w:=w) (hp hg) (VL a4 λy hy=>hO.at (ar y hy)) (VL a3 λy hy=>hO.at (ac y hy));unfold execOp;rw[ho];simp only[hx,Qpa,Instr.sliceAt,X6 hu,Qp6,Option.map_none];simp only[Instr.slice,Qpa,X6 hu,Qp6,hb,sizeOf,Yy ak,ao];rfl
   have ay:(cut rows q).length=q.2-q.1:=by
    unfold cut;rw[hq.2.2.2];simp;omega
   generalize hv:a.eval x=v at a9 aq;cases a9 with
   |sl0 ad cap _=>
    refine⟨_,aq ad cap (Nat.zero_le _) rfl,.d _ _ ?_⟩;have:cut ([]:List (List D)) q=[]:=by simp[cut]
    rw[this];have h0:q.2-q.1=0:=by rw[this]at ay;simpa using ay.symm
    rw[h0];exact .sl0 _ _ _
   |sl ad cap _ _ c hS a7 a5 hc hr=>
    refine⟨_,aq (some ad) cap a7 rfl,.d _ _ ?_⟩;by_cases h0:q.2-q.1=0
    ·have:cut rows q=[]:=Qpg (by rw[ay,h0]);rw[this,h0];exact .sl0 _ _ _
    ·have ba:cap≠q.1:=by
      have:=hq.2.2.1;have:=hq.2.2.2;have h1:q.2<=rows.length:=by rw[this];simp;omega
      omega
     rw[Qpj ba,<- ay];refine Rd.sl (ad.add (q.1*s)) (cap-q.1) s (cut rows q) (λi j=>c (q.1+i) j) (by rw[Jv];exact hS) ?_ ?_ ?_ ?_
     ·rw[ay];have:=hq.2.2.2;have h1:q.2<=rows.length:=by rw[this];simp;omega
      omega
     ·intro i r ai;exact a5 _ _ (EU ai).2
     ·intro i j r y ai hy;have:=hc (q.1+i) j r y (EU ai).2 hy;rw[BA,<- QpB,<- Nat.add_mul];exact this
     ·intro i j r y ai hy;exact hr (q.1+i) j r y (EU ai).2 hy
 ·rename_i e esz hk ax;obtain⟨ti,aw,am⟩:=XC hk Q2;obtain⟨hu,a6,inf,ak,ao⟩:=(hT t ti aw).ksl _ _ am;obtain⟨q,h,hp⟩:=Qz h;refine⟨_,h,λhg=>QE λβ S st a w hR hO hA=>?_⟩;have hx:=(ax▸hO.at a2).nil_inv;have hq:=Mt (hp hg);have hb:=My (P:=P) true (Qpu 0) (ρ:=a.eval) (w:=w) (hp hg) (VL a4 λy hy=>hO.at (ar y hy)) (VL a3 λy hy=>hO.at (ac y hy));have h0:q.2-q.1=0:=by
   obtain⟨q1,q2,q3,q4⟩:=hq;rw[q4];show(h'.getD ((0:Nat):Int)).toNat-(l'.getD 0).toNat=0;omega
  have h1:0-q.1=0:=Nat.zero_sub _;refine⟨.slice none 0 0,?_,.nil⟩;unfold execOp;rw[ho];simp only[hx,Qpa,Instr.sliceAt,X6 hu,Qp6,Option.map_none];simp only[Instr.slice,Qpa,X6 hu,Qp6,hb,sizeOf,Yy ak,ao,h0,h1,Option.map_none,ite_self];rfl
 ·cases h
theorem Q4k{len:Nat}{lo hi mx:oP Int}{q:Nat×Nat}(h:QhR len lo hi mx=some q):∃m,hi=some m/\mx=some m/\slB len lo (some m)=some q:=by
 unfold QhR at h
 grind
theorem Bu{len cap:Nat}(am:len<=cap){lo:oP Operand}{yh ym:Operand}{l:oP Int}{m:Int}{kh km:IntKind}{ρ:Operand->Value}{w:World}{q:Nat×Nat}(hs:slB len l (some m)=some q)(aa:(lo=none/\l=none)\/∃y k m,lo=some y/\l=some m/\ρ y = .int k m)(hh:ρ yh = .int kh m)(hm:ρ ym = .int km m) :
  (Instr.sliceBounds true len cap (lo.map ρ) (some (ρ yh)) (some (ρ ym))).run P w = .ok (q.1,q.2,q.2) w:=by
 obtain⟨h1,h2,h3,rfl⟩:=Mt hs;simp only[Option.getD_some]at h2 h3;have e1:0<=m/\m<=(cap:Int):=by
  omega
 have e2:0<=m/\m<=(m.toNat:Int):=Q0
 rcases aa with⟨rfl,rfl⟩|⟨y,k,a,rfl,rfl,hy⟩
 ·simp_all [Instr.sliceBounds,run_sliceBound_if]
 ·simp only[Option.getD_some]at h1 h2;have e3:0<=a/\a<=(m.toNat:Int):=Q0
  simp_all [Instr.sliceBounds,run_sliceBound_if,Qpn]
theorem Q7X{x mx:Operand}{lo hi:oP Operand}(ho:o.op = .slice t x lo hi (some mx)):x∈o.op.operands.toList/\(∀y,lo=some y->y∈o.op.operands.toList)/\(∀y,hi=some y->y∈o.op.operands.toList)/\mx∈o.op.operands.toList:=by
 grind[Op.operands]
theorem Q6c{tt:TT}(hT:TOk P tt){x mx:Operand}{lo hi:oP Operand}(ho:o.op = .slice t x lo hi (some mx)){g:Bool}{k:Dl->oP R}{r:R}(h:Q5i tt g t (ev x) (M3 ev lo) (M3 ev hi) (M3 ev (some mx)) k=some r):∃dl,k dl=some r/\(g=true->K3 P E o ev hl dl):=by
 obtain⟨bh,aq,ar,bj⟩:=Q7X ho;unfold Q5i at h;split at h
 case h_2=>cases h
 rename_i l' h' m' a9 bb bc;split at h
 ·rename_i e esz s rows hk a6;cases hb:Nat.beq s esz with
  |false=>simp_all
  |true=>
   simp only[hb,Qpb]at h;obtain rfl:=Qp9 hb;obtain⟨ti,a5,a2⟩:=XC hk Q2;obtain⟨hu,ba,inf,ak,ax⟩:=(hT t ti a5).ksl _ _ a2;obtain⟨q,h,hp⟩:=Qz h;refine⟨_,h,λhg=>QE λβ S st a w hR hO hA=>?_⟩;have bi:=(a6▸hO.at bh).d_inv;obtain⟨m,rfl,rfl,am⟩:=Q4k (hp hg);have hq:=Mt am;rcases VL bb λy hy=>hO.at (ar y hy)with⟨_,hn⟩|⟨yh,kh,mh,rfl,e1,az⟩
   ·cases hn
   rcases VL bc λy hy=>hO.at (by injection hy with hy;subst hy;exact bj)with⟨_,hn⟩|⟨ym,km,mm,e3,e2,a4⟩
   ·cases hn
   injection e1 with e1
   injection e2 with e2
   injection e3 with e3
   subst e1 e2 e3;have an:∀(ad:oP Addr) (cap:Nat),rows.length<=cap->a.eval x = .slice ad rows.length cap->(execOp a.eval o).run P w = .ok (.value (.slice (if q.2=q.1 then ad else ad.map (·.add (q.1*s))) (q.2-q.1) (q.2-q.1))) w:=by
    intro ad cap hc hx;have hb:=Bu (P:=P) hc (ρ:=a.eval) (w:=w) am (VL a9 λy hy=>hO.at (aq y hy)) az a4;unfold execOp;rw[ho];simp only[hx,Qpa,Instr.sliceAt,X6 hu,Qp6,Option.map_some];simp only[Instr.slice,Qpa,X6 hu,Qp6,hb,sizeOf,Yy ak,ax];rfl
   have bz:q.2<=rows.length:=by
    have h3:=hq.2.2.1;rw[hq.2.2.2];simp only[Option.getD_some]at h3 ⊢;omega
   have ac:(cut rows q).length=q.2-q.1:=by
    unfold cut;simp;omega
   generalize hv:a.eval x=v at bi an;have aw:∀(ad:oP Addr),Rd S w (.slice ad (q.2-q.1) (q.2-q.1)) (.sl s (cut rows q))->RdA β S (look st.h) w (tmv a) (.slice ad (q.2-q.1) (q.2-q.1)) (.fs s (cut rows q)):=by
    intro ad hr;have:=RdA.fs (β:=β) (h:=look st.h) (tm:=tmv a) ad s (cut rows q) (by rw[ac];exact hr);rw[ac]at this;exact this
   cases bi with
   |sl0 ad cap _=>
    refine⟨_,an ad cap (Nat.zero_le _) rfl,aw _ ?_⟩;have:cut ([]:List (List D)) q=[]:=by simp[cut]
    rw[this];have h0:q.2-q.1=0:=by rw[this]at ac;simpa using ac.symm
    rw[h0];exact .sl0 _ _ _
   |sl ad cap _ _ c hS a8 bd hc hr=>
    refine⟨_,an (some ad) cap a8 rfl,aw _ ?_⟩;by_cases h0:q.2-q.1=0
    ·have:cut rows q=[]:=Qpg (by rw[ac,h0]);rw[this,h0];exact .sl0 _ _ _
    ·have bk:q.2≠q.1:=Q0
     rw[Qpj bk];have:=Rd.sl (S:=S) (w:=w) (ad.add (q.1*s)) (q.2-q.1) s (cut rows q) (λi j=>c (q.1+i) j) (by rw[Jv];exact hS) (by rw[ac];exact Qpu _) (λi r ai=>bd _ _ (EU ai).2) (λi j r y ai hy=>by
      have:=hc (q.1+i) j r y (EU ai).2 hy;rw[BA,<- QpB,<- Nat.add_mul];exact this) (λi j r y ai hy=>hr (q.1+i) j r y (EU ai).2 hy)
     rw[ac]at this;exact this
 ·rename_i e esz hk a6;obtain⟨ti,a5,a2⟩:=XC hk Q2;obtain⟨hu,ba,inf,ak,ax⟩:=(hT t ti a5).ksl _ _ a2;obtain⟨q,h,hp⟩:=Qz h;refine⟨_,h,λhg=>QE λβ S st a w hR hO hA=>?_⟩;have hx:=(a6▸hO.at bh).nil_inv;obtain⟨m,rfl,rfl,am⟩:=Q4k (hp hg);have hq:=Mt am;rcases VL bb λy hy=>hO.at (ar y hy)with⟨_,hn⟩|⟨yh,kh,mh,rfl,e1,az⟩
  ·cases hn
  rcases VL bc λy hy=>hO.at (by injection hy with hy;subst hy;exact bj)with⟨_,hn⟩|⟨ym,km,mm,e3,e2,a4⟩
  ·cases hn
  injection e1 with e1
  injection e2 with e2
  injection e3 with e3
  subst e1 e2 e3;have hb:=Bu (P:=P) (Qpu 0) (ρ:=a.eval) (w:=w) am (VL a9 λy hy=>hO.at (aq y hy)) az a4;have h0:q.2-q.1=0:=by
   obtain⟨q1,q2,q3,q4⟩:=hq;rw[q4];simp only[Option.getD_some]at q2 q3 ⊢;omega
  refine⟨.slice none 0 0,?_,.fs none _ [] (.sl0 _ _ _)⟩;unfold execOp;rw[ho];simp only[hx,Qpa,Instr.sliceAt,X6 hu,Qp6,Option.map_some];simp only[Instr.slice,Qpa,X6 hu,Qp6,hb,sizeOf,Yy ak,ax,h0,Option.map_none,ite_self];rfl
 ·cases h
end
end Go.Vx
