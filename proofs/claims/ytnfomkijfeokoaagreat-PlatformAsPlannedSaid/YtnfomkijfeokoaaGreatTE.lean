/- Part of a proof. No conditions of their own. -/
import Derived.Test.YtnfomkijfeokoaaGreatTB
import Derived.Test.YtnfomkijfeokoaaGreatTD
set_option linter.unusedVariables false
set_option linter.unusedSimpArgs false
noncomputable section
abbrev Qp6:=@List.getElem?_cons_zero
abbrev Qp7:=@List.getElem?_cons_succ
abbrev Qp8:=@Int.toNat_natCast
abbrev Qp9:=@cond_false
abbrev Qpa:=@cond_true
abbrev Qpb:=@List.getElem?_eq_getElem
abbrev Qpc:=@Bool.not_false
abbrev Qpd:=@Bool.not_true
abbrev Qpe:=@List.getElem?_eq_some_iff
abbrev Qpf:=@if_pos
abbrev Qpg:=@List.getD_eq_getElem?_getD
abbrev Qph:=@if_neg
abbrev Qpi:=@decide_eq_false
abbrev Qpj:=@decide_eq_true
abbrev Qpk:=@List.getElem_mem
abbrev Qpl:=@List.length_map
abbrev Qpm:=@Nat.le_refl
abbrev Qpn:=@Nat.add_sub_cancel
abbrev Qpo:=@Int.eq_ofNat_of_zero_le
abbrev Qpp:=@List.getElem?_map
abbrev Qpq:=@Int.tmod_eq_emod_of_nonneg
abbrev Qpr:=@List.mem_append
abbrev Qps:=@List.length_cons
abbrev Qpt:=@Option.getD_some
abbrev Qpu:=@Int.tdiv_eq_ediv_of_nonneg
abbrev Qpv:=@List.length_nil
abbrev Qpw:=@List.map_append
abbrev Qpx:=@Bool.and_eq_true
abbrev Qpy:=@List.take_length
abbrev Qpz:=@List.filter_cons
abbrev QpA:=@List.length_append
abbrev QpB:=@List.getElem?_eq_none
abbrev QpC:=@Nat.le_of_ble_eq_true
namespace Go.Vx
def QcS:oP Bool->Bool
 |some true=>true
 |_=>false
def QiL:oP Bool->Bool
 |some false=>true
 |_=>false
def Q8E:oP Int->Bool
 |some n=>n == 0
 |none=>false
theorem Mm {o:oP Bool} (h:QcS o=true):o=some true:=by
 match o,h with
 |some true,_=>rfl
theorem Qa1 {o:oP Bool} (h:QiL o=true):o=some false:=by
 match o,h with
 |some false,_=>rfl
theorem Jn {o:oP Int} (h:Q8E o=true):o=some 0:=by
 match o,h with
 |some n,h=>simp only [Q8E,beq_iff_eq] at h;rw [h]
end Go.Vx
namespace Go.Vx
variable {R:Type} (n:Nat)
def QcG (ac:List (List UInt8)) (s:List UInt8):Bool:=Nat.ble s.length 12&&QcS (H7 n s some)&&!(ac.contains s)
def PG :List (List UInt8)->LL->Bool
 | _,[]=>true
 | ac,row::r=>match row with
 | [D.str s]=>QcG n ac s&&PG (s::ac) r
 | _=>false
def T6 (l0 l1 l2 e:LL):List (List UInt8)->LL->Bool
 | _,[]=>true
 | ac,row::r=>match row with
 | [D.str s,D.int .i64 a,D.int .i64 b,D.int .i64 c,D.int .i64 d]=>QcG n ac s&&QcS (XC n l0 l1 l2 e s a b c d some)&&T6 l0 l1 l2 e (s::ac) r
 | _=>false
def Hr (l0 l1 l2 c:LL):List LL->LL->Bool
 | _,[]=>true
 | st,row::r=>match row with
 | [D.int .i64 a,D.int .i64 ae,D.int .i64 b,D.int .i64 be,D.int .i64 p,D.int .i64 q]=>(decide (0<=a)&&decide (a<l2.length)&&decide (0<=ae)&&decide (ae<=1)&&decide (0<=b)&&decide (b<l2.length)&&decide (0<=be)&&decide (be<=1))&&QcS (YA n l0 l1 l2 c a ae b be p q some) && !(Nat.beq (2*a+ae).toNat (2*b+be).toNat) && (match st[(2*a+ae).toNat]?,st[(2*b+be).toNat]? with
 | some x,some y=>QiL (Kf n x a ae b be some)&&QcS (Gq n a ae b be p q x some)&&QcS (Gq n a ae b be p q y some)&&Nat.ble x.length 1&&Nat.ble y.length 1&&Hr l0 l1 l2 c ((st.set (2*a+ae).toNat (x++[row])).set (2*b+be).toNat (y++[row])) r
 | _,_=>false)
 | _=>false
def Pb (l0 l1 l2 a:LL):Bool:=Nat.ble l0.length 24&&Nat.ble l1.length 48&&Nat.ble l2.length 96&&Nat.ble a.length 192&&!(Nat.beq l2.length 0)&&PG n [] l0&&PG n [] l1&&T6 n l0 l1 l2 a [] l2&&Hr n l0 l1 l2 a (List.replicate (2*l2.length) []) a
def ZP (l0 l1 l2 a:LL) (K:Qkl R):oP R:=bif Pb n l0 l1 l2 a then K 0 else none
end Go.Vx
namespace Go.Vx
def hat (c:Nat):List NK:=List.replicate c (2,5000,0)
def pt2 (c0 c1:Nat):LL:=Q3f 0 c0++Q3f (pc c0) c1
def se2 (c0 c1 a:Nat) (b c d:List NK):LL:=(YW (secT 0) c0 b++YW (secT 1) c1 c)++YW (secL 0) a d
def li2 (c0 c1 a:Nat):LL:=(inL (c0+c1) a++Q3Z (c0+c1) false 0 0 c0)++Q3Z (c0+c1+a-1) true (pc c0) c0 c1
def pt3 (c0 c1 a:Nat):LL:=(Q3f 0 c0++Q3f (pc c0) c1)++Q3f (pc c0+pc c1) c1++Q3f (pc c0+pc c1+pc c1) a
def se3 (c0 c1 a b c:Nat) (d e f g h:List NK):LL:=(((YW (secT 0) c0 d++YW (secT 1) c1 e)++YW (secT 2) a f)++YW (secL 0) b g)++YW (secL 1) c h
def li3 (c0 c1 a b c:Nat):LL:=((inL (c0+c1+a) b++Q3Z (c0+c1+a) false 0 0 c0)++Q3Z (c0+c1+a+b-1) true (pc c0) c0 c1)++inL (c0+c1+a+b) c++Q3Z (c0+c1+a+b) false (pc c0+pc c1) c0 c1++Q3Z (c0+c1+a+b+c-1) true (pc c0+pc c1+pc c1) (c0+c1) a
theorem ok2 {c0 c1 a:Nat} (b:c0=1\/c0=2) (c:c1=1\/c1=2) (h2:a=1\/a=2):Pb 400 [nmS 0,nmS 1] (pt2 c0 c1) (se2 c0 c1 a (hat c0) (hat c1) (hat a)) (li2 c0 c1 a)=true:=by
 rcases b with rfl | rfl <;> rcases c with rfl | rfl <;> rcases h2 with rfl | rfl <;> kernel_rfl
theorem ok3 {c0 c1 a b c:Nat} (d:c0=1\/c0=2) (e:c1=1\/c1=2) (h2:a=1\/a=2) (f:b=1\/b=2) (g:c=1\/c=2):Pb 400 [nmS 0,nmS 1,nmS 2] (pt3 c0 c1 a) (se3 c0 c1 a b c (hat c0) (hat c1) (hat a) (hat b) (hat c)) (li3 c0 c1 a b c)=true:=by
 rcases d with rfl | rfl <;> rcases e with rfl | rfl <;> rcases h2 with rfl | rfl <;> rcases f with rfl | rfl <;> rcases g with rfl | rfl <;> kernel_rfl
structure NumOk (a b c d:Int) (k:Nat):Prop where
 a0:1<=a
 a1:a<=400
 b0:1000<=b
 b1:b<=100000
 c0 : -40<=c
 c1:c<=40
 d0 : -1<=d
 d1:d<k
theorem Q7y {n:Nat} {l0 l1 l2 e:LL} {s:List UInt8} {a b c d:Int} (h:NumOk a b c d l0.length):XC n l0 l1 l2 e s a b c d some=some true:=by
 obtain ⟨f,g,h2,i,j,k,l,m⟩:=h;unfold XC;simp [f,g,h2,i,j,k,l,m]
def C7 (k:Nat):LL->LL->Prop
 |[],[]=>True
 |r::s,r'::s'=>(∃ nm a b c a' b' c' d,r=[D.str nm,Ql a,Ql b,Ql c,Ql d]/\r'=[D.str nm,Ql a',Ql b',Ql c',Ql d]/\NumOk a b c d k/\NumOk a' b' c' d k)/\C7 k s s'
 |_,_=>False
theorem C7.len {k:Nat}:∀ {s s':LL},C7 k s s'->s.length=s'.length
 |[],[],_=>rfl
 |r::s,r'::s',h=>by simp [C7.len h.2]
theorem C7.app {k:Nat}:∀ {s s' t t':LL},C7 k s s'->C7 k t t'->C7 k (s++t) (s'++t')
 |[],[],t,t',_,h=>h
 |r::s,r'::s',t,t',h,h2=>⟨h.1,C7.app h.2 h2⟩
theorem C7.secT {k i:Nat} (hi:i<k):∀ {c:Nat} {x x':List NK},Hv x->Hv x'->x.length=c->x'.length=c->C7 k (YW (secT i) c x) (YW (secT i) c x')
 |0,[],[],_,_,_,_=>trivial
 |c+1,a::x,a'::x',h,h',e,e'=>⟨⟨QiR i (c+1),a.1+2,a.2.1,a.2.2,a'.1+2,a'.2.1,a'.2.2,i,rfl,rfl,
   ⟨by have:=h.1.a0;omega,by have:=h.1.a1;omega,by have:=h.1.b0;omega,by have:=h.1.b1;omega,by have:=h.1.c0;omega,by have:=h.1.c1;omega,Q0,Q0⟩,
   ⟨by have:=h'.1.a0;omega,by have:=h'.1.a1;omega,by have:=h'.1.b0;omega,by have:=h'.1.b1;omega,by have:=h'.1.c0;omega,by have:=h'.1.c1;omega,Q0,Q0⟩⟩,C7.secT hi h.2 h'.2 (by simpa using e) (by simpa using e')⟩
theorem C7.secL {k i:Nat}:∀ {c:Nat} {x x':List NK},Hv x->Hv x'->x.length=c->x'.length=c->C7 k (YW (secL i) c x) (YW (secL i) c x')
 |0,[],[],_,_,_,_=>trivial
 |c+1,a::x,a'::x',h,h',e,e'=>⟨⟨nmL i (c+1),a.1,a.2.1,a.2.2,a'.1,a'.2.1,a'.2.2,-1,rfl,rfl,
   ⟨by have:=h.1.a0;omega,by have:=h.1.a1;omega,by have:=h.1.b0;omega,by have:=h.1.b1;omega,by have:=h.1.c0;omega,by have:=h.1.c1;omega,Q0,Q0⟩,
   ⟨by have:=h'.1.a0;omega,by have:=h'.1.a1;omega,by have:=h'.1.b0;omega,by have:=h'.1.b1;omega,by have:=h'.1.c0;omega,by have:=h'.1.c1;omega,Q0,Q0⟩⟩,C7.secL h.2 h'.2 (by simpa using e) (by simpa using e')⟩
theorem Ty:∀ c,Hv (hat c)
 |0=>trivial
 |c+1=>⟨⟨by decide,by decide,by decide,by decide,by decide,by decide⟩,Ty c⟩
theorem MB (c:Nat):(hat c).length=c:=by simp [hat]
theorem C3 {n:Nat} {l0 l1 L L' e:LL}:∀ {s s':LL} {ac:List (List UInt8)},C7 l0.length s s'->T6 n l0 l1 L e ac s=T6 n l0 l1 L' e ac s'
 |[],[],ac,_=>rfl
 |r::s,r'::s',ac,h=>by
  obtain ⟨⟨nm,a,b,c,a',b',c',d,rfl,rfl,f,h2⟩,g⟩:=h;show (QcG n ac nm&&QcS (XC n l0 l1 L e nm a b c d some)&&T6 n l0 l1 L e (nm::ac) s)=(QcG n ac nm&&QcS (XC n l0 l1 L' e nm a' b' c' d some)&&T6 n l0 l1 L' e (nm::ac) s');rw [Q7y f,Q7y h2,C3 g]
theorem Fh {n:Nat} {l0 l1 L L' c:LL} (h:L.length=L'.length):∀ {t:LL} {st:List LL},Hr n l0 l1 L c st t=Hr n l0 l1 L' c st t
 |[],st=>rfl
 |r::t,st=>by
  unfold Hr;split
  ·rename_i a ae b be p q;have e:YA n l0 l1 L c a ae b be p q some=YA n l0 l1 L' c a ae b be p q some:=by unfold YA;rw [h]
   rw [e,h];split
   ·rw [Fh h]
   ·rfl
  ·rfl
theorem Q1q {n:Nat} {l0 l1 L L' a:LL} (h:C7 l0.length L L'):Pb n l0 l1 L a=Pb n l0 l1 L' a:=by
 unfold Pb;rw [h.len,C3 h,Fh h.len]
theorem sr2 {c0 c1 a:Nat} {b c d:List NK} (e:Hv b) (f:Hv c) (g:Hv d) (h:b.length=c0) (e1:c.length=c1) (e2:d.length=a):C7 2 (se2 c0 c1 a b c d) (se2 c0 c1 a (hat c0) (hat c1) (hat a)):=
 .app (.app (.secT Q1 e (Ty _) h (MB _)) (.secT Q1 f (Ty _) e1 (MB _))) (.secL g (Ty _) e2 (MB _))
theorem sr3 {c0 c1 a b c:Nat} {d e f g h:List NK} (i:Hv d) (j:Hv e) (k:Hv f) (n3:Hv g) (l:Hv h) (m:d.length=c0) (e1:e.length=c1) (e2:f.length=a) (n:g.length=b) (o:h.length=c):C7 3 (se3 c0 c1 a b c d e f g h) (se3 c0 c1 a b c (hat c0) (hat c1) (hat a) (hat b) (hat c)):=
 .app (.app (.app (.app (.secT Q1 i (Ty _) m (MB _)) (.secT Q1 j (Ty _) e1 (MB _))) (.secT Q1 k (Ty _) e2 (MB _))) (.secL n3 (Ty _) n (MB _))) (.secL l (Ty _) o (MB _))
theorem Qj1 {c0 c1 a:Nat} {b c d:List NK} (e:c0=1\/c0=2) (f:c1=1\/c1=2) (h2:a=1\/a=2) (g:Hv b) (h:Hv c) (i:Hv d) (j:b.length=c0) (e1:c.length=c1) (e2:d.length=a) :
  Pb 400 [nmS 0,nmS 1] (pt2 c0 c1) (se2 c0 c1 a b c d) (li2 c0 c1 a)=true:=by
 rw [<- ok2 e f h2];exact Q1q (sr2 g h i j e1 e2)
theorem Qjs {c0 c1 a b c:Nat} {d e f g h:List NK} (i:c0=1\/c0=2) (j:c1=1\/c1=2) (h2:a=1\/a=2) (k:b=1\/b=2) (l:c=1\/c=2) (m:Hv d) (n:Hv e) (o:Hv f) (n3:Hv g) (p:Hv h) (q:d.length=c0) (e1:e.length=c1) (e2:f.length=a) (r:g.length=b) (s:h.length=c) :
  Pb 400 [nmS 0,nmS 1,nmS 2] (pt3 c0 c1 a) (se3 c0 c1 a b c d e f g h) (li3 c0 c1 a b c)=true:=by
 rw [<- ok3 i j h2 k l];exact Q1q (sr3 m n o n3 p q e1 e2 r s)
end Go.Vx
namespace Go.Vx
variable {R:Type} (n:Nat)
def Uj (c:LL) (b:Int) (d e f g:LL) (k0:oP R) (k1:Qko R):Qkp R
 | 0,_=>none
 | m+1,a=>bif decide (a<b) then QjR R c a fun i j=>QjE R i j fun k l=>Qc R (NQ n d e f g k l some) fun o=>bif !o then k0 else Uj c b d e f g k0 k1 m (wJ (a+1)) else k1 a (decide (a<b))
def GS (n:Nat) (e:LL) (c:Int) (k0:oP R) (k1:Qkn R):Qkm R
 | 0,_,_=>none
 | m+1,b,a=>bif decide (b<c) then QjI R e b fun f g=>Qc R f[1]? fun o=>Qc R (pIw g) fun h=>QjW R a.length h a h.toNat fun k=>bif k then k0 else Qc R (pIw g) fun d=>QjH R a.length d a d.toNat fun l=>GS n e c k0 k1 m (wJ (b+1)) (List.set a d.toNat (List.set l 0 (D.bool true))) else k1 b (decide (b<c)) a
def U8 (e:LL) (b:Int) (f g h i j:LL) (k0:oP R) (k1:Qkn R):Qkm R
 | 0,_,_=>none
 | m+1,a,c=>bif decide (a<b) then QjR R e a fun o p=>QjR R j a fun q r=>Qk4 R q r o p fun s t u v=>gb true (Ga n f g h i s t u v Tu2) (0,false) fun d=>bif !d.2 then k0 else Qc R (Yn ((c.length+[[Ql d.1]].length)*8)) fun z=>U8 e b f g h i j k0 k1 m (wJ (a+1)) (c++[[Ql d.1]]) else k1 a (decide (a<b)) c
def HP (d e b f a:LL) (c:Int) (K:Qks R):oP R:=Qc R (ZP n d e b f some) fun j=>bif j !=0 then K [] 1 else Qb R (a.length:Int) fun aa=>jn (fun (k:Bool)=>bif k then K [] 7 else jn (fun (l:Bool)=>bif l then K [] 4 else Uj n a aa d e b f (K [] 4) (fun o p=>Qb R (b.length:Int) fun z=>gb true (bif decide (0<=z)&&decide (z<=z) then some () else none) () fun q=>Qc R (Yn (Int.toNat z*1)) fun r=>GS n a aa (K [] 5) (fun s t u=>Qc R (slB a.length (some 1) none) fun g=>U8 n (cut a g) ((List.length (cut a g):Nat):Int) d e b f a (K [] 11) (fun v x m=>K m 0) n 0 []) n 0 (List.replicate (Int.toNat z) [D.bool false])) n 0) fun h=>bif decide (c<0) then h (decide (c<0)) else h (decide (wJ (aa-c)<2))) fun i=>Qa R (decide (aa>24)) fun y=>bif y then i y else i (decide (c>2))
def Pn (b c d e f:LL) (g:Int) (K:Qkl R):oP R:=Qc R (HP n b c d e f g Tu2) fun a=>K a.2
end Go.Vx
namespace Go.Vx
def Hb (s u x y:Nat) (up:Bool):LL:=
 bif up then [Ql x,Ql 0]::((ups s u).map fun k=>[Ql (k:Nat),Ql 0])++[[Ql y,Ql 0]] else [Ql y,Ql 1]::((ups s u).reverse.map fun k=>[Ql (k:Nat),Ql 1])++[[Ql x,Ql 1]]
theorem QD {α:Type} {r:Nat->Int->α} {N:Nat} {e:α} (hs:∀ m h,h<N->r (m+1) (h:Int)=r m ((h+1:Nat):Int)) (he:∀ m,r (m+1) (N:Int)=e):∀ (k m h:Nat),h+k=N->k<m->r m (h:Int)=e
 |0,m+1,h,hh,_=>by rw [show h=N by omega];exact he m
 |k+1,m+1,h,hh,hm=>by rw [hs m h Q0];exact QD hs he k m (h+1) Q0 Q0
section
variable {R:Type} {n:Nat} {a b a' b' L L' d:LL} (h:L.length=L'.length)
include h
theorem QeX {s:LL} {w:Int} {k0:oP R} {k1:Int->Bool->oP R}:∀ (m:Nat) (i:Int),Uj n s w a b L d k0 k1 m i=Uj n s w a' b' L' d k0 k1 m i
 |0,_=>rfl
 |m+1,i=>by
  unfold Uj;simp only [NQ,h,QeX m]
omit h in
theorem QhL {x y z t:Int} {K:Int->Bool->oP R}:Ga n a b L d x y z t K=Ga n a' b' L' d x y z t K:=rfl
omit h in
theorem QgM {q s:LL} {w:Int} {k0:oP R} {k1:Int->Bool->LL->oP R}:∀ (m:Nat) (i:Int) (p:LL),U8 n q w a b L d s k0 k1 m i p=U8 n q w a' b' L' d s k0 k1 m i p
 |0,_,_=>rfl
 |m+1,i,p=>by
  unfold U8;simp only [QhL (a:=a) (b:=b) (L:=L) (a':=a') (b':=b') (L':=L'),QgM m]
end
def Q9R (St Pt L d s:LL):oP (LL×Int):=
 Uj 400 s ((List.length s:Nat):Int) St Pt L d (some ([],4))
  (fun _ _=>
  gb true (bif decide (0<=((List.length L:Nat):Int))&&decide (((List.length L:Nat):Int)<=((List.length L:Nat):Int)) then some () else none) () fun c=>
  gb true (Yn (Int.toNat ((List.length L:Nat):Int)*1)) () fun e=>
  GS 400 s ((List.length s:Nat):Int) (some ([],5))
   (fun _ _ _=>
   gb true (slB (List.length s) (some (1:Int)) none) (0,0) fun a=>
   U8 400 (cut s a) ((List.length (cut s a):Nat):Int) St Pt L d s (some ([],11)) (fun _ _ b=>some (b,0)) 400 (0:Int) [])
   400 (0:Int) (List.replicate (Int.toNat ((List.length L:Nat):Int)) [D.bool false]))
  400 (0:Int)
def rtB (N:Nat) (Li s:LL):Bool:=match Q9R [] [] (List.replicate N []) Li s with
 |some (_,e)=>e == 0
 |none=>false
theorem Qa5 {St Pt Se Li s:LL} {N:Nat} (ac:Pb 400 St Pt Se Li=true) (hN:Se.length=N) (h2:2<=s.length) (g:s.length<=24) (hr:rtB N Li s=true) :
  ∃ aj,HP 400 St Pt Se Li s 0 Tu2=some (aj,0):=by
 have hc:ZP 400 St Pt Se Li (some:Int->oP Int)=some 0:=by unfold ZP;rw [ac];rfl
 have hL:Se.length=(List.replicate N ([]:List D)).length:=by simp [hN]
 have e:HP 400 St Pt Se Li s 0 Tu2=Q9R [] [] (List.replicate N []) Li s:=by
  unfold HP;rw [hc,Qh,Qr Q1];dsimp only [jn];rw [Qr (c:=decide (((List.length s:Nat):Int)>24)) Q3,Qr (c:=decide ((0:Int)>2)) Q1,Qr (c:=decide ((0:Int)<0)) Q1,Qr (c:=decide (wJ (((List.length s:Nat):Int)-0)<2)) (by rw [Qn Q0 Q0];simp;omega)];unfold Q9R;simp only [QgM (a:=St) (b:=Pt) (L:=Se) (a':=[]) (b':=[]) (L':=List.replicate N []),QeX (a:=St) (b:=Pt) (L:=Se) (a':=[]) (b':=[]) (L':=List.replicate N []) hL,hL]
 rw [e];unfold rtB at hr;split at hr
 ·rename_i p e' hh;simp only [beq_iff_eq] at hr;subst hr;exact ⟨p,hh⟩
 ·cases hr
theorem Q6y {R:Type} {St Pt Se Li s:LL} {N:Nat} (ac:Pb 400 St Pt Se Li=true) (hN:Se.length=N) (h2:2<=s.length) (a:s.length<=24) (hr:rtB N Li s=true) (K:Int->oP R):Pn 400 St Pt Se Li s 0 K=K 0:=by
 obtain ⟨p,e⟩:=Qa5 ac hN h2 a hr;unfold Pn;rw [e,Qh]
def QcI (N:Nat) (Li:LL) (s u k c k' c':Nat):Bool:=
 (ups k c).all fun x=>(ups k' c').all fun y=>rtB N Li (Hb s u x y true)&&rtB N Li (Hb s u x y false)
theorem Qjb {c0 c1 a:Nat} (b:c0=1\/c0=2) (c:c1=1\/c1=2) (h2:a=1\/a=2):QcI (c0+c1+a) (li2 c0 c1 a) (c0+c1) a 0 c0 c0 c1=true:=by
 rcases b with rfl | rfl <;> rcases c with rfl | rfl <;> rcases h2 with rfl | rfl <;> kernel_rfl
theorem Qjj {c0 c1 a b c:Nat} (d:c0=1\/c0=2) (e:c1=1\/c1=2) (h2:a=1\/a=2) (f:b=1\/b=2) (g:c=1\/c=2) :
  (QcI (c0+c1+a+b+c) (li3 c0 c1 a b c) (c0+c1+a) b 0 c0 c0 c1&&QcI (c0+c1+a+b+c) (li3 c0 c1 a b c) (c0+c1+a+b) c c0 c1 (c0+c1) a)=true:=by
 rcases d with rfl | rfl <;> rcases e with rfl | rfl <;> rcases h2 with rfl | rfl <;> rcases f with rfl | rfl <;> rcases g with rfl | rfl <;> kernel_rfl
end Go.Vx
namespace Go.Vx
variable {R:Type} (n:Nat)
def WE (e:LL) (d:Int) (f:LL) (k0:Qkn R):Qkm R
 | 0,_,_=>none
 | m+1,a,b=>bif decide (a<d) then QjR R e a fun o p=>Qc R (pIw o) fun q=>QjP R f q fun c h=>Qk8 R c fun r s=>Qc R c[4]? fun y=>Qk6 R r s p fun i j t=>bif t==1 then Qc R (pIw h) fun u=>Qc R (Qv n [[Ql i,Ql (wJ (0-j))]] u some) fun k=>Qc R (Yn ((b.length+k.length)*16)) fun z=>WE e d f k0 m (wJ (a+1)) (b++k) else Qc R (pIw h) fun v=>Qc R (Qv n [[Ql i,Ql j]] v some) fun l=>Qc R (Yn ((b.length+l.length)*16)) fun aa=>WE e d f k0 m (wJ (a+1)) (b++l) else k0 a (decide (a<d)) b
def Rk (g h b i a:LL) (c:Int) (K:Qky R):oP R:=Qc R (Pn n g h b i a c some) fun d=>bif d !=0 then K [] 0 d else Qc R (slB a.length none (some (wJ ((a.length:Int)-c)))) fun e=>WE n (cut a e) ((List.length (cut a e):Nat):Int) b (fun p q f=>bif decide ((f.length:Int)>4000) then K [] 0 7 else QjF R a 0 fun l=>QjN R b l fun i64=>K f i64 0) n 0 []
def Ub (n:Nat) (d:LL) (b:Int) (e:LL) (c:Int) (k0:oP R) (k1:Qko R):Qkp R
 | 0,_=>none
 | m+1,a=>bif decide (a<b) then QjI R d a fun f g=>Qc R f[1]? fun l=>Qc R (pIw g) fun h=>QjN R e h fun k=>bif decide (k<(if 2<c then c else 2)) then k0 else Ub n d b e c k0 k1 m (wJ (a+1)) else k1 a (decide (a<b))
def HO (h i c j d:LL) (e:Int) (k:List UInt8) (f l m o:Int) (K:Qky R):oP R:=Qc R (Rk n h i c j d e Tu3) fun a=>bif a.2.2 !=0 then K [] 0 a.2.2 else Qc R (UZ n k f l m o some) fun b=>bif !b then K [] 0 1 else Qc R (UM n d e some) fun g=>Ub n g (g.length:Int) c f (K [] 0 12) (fun q r=>K a.1 a.2.1 0) n 0
def GN (b c d e f:LL) (g:Int) (h:List UInt8) (i j k l:Int) (K:Qkl R):oP R:=Qc R (HO n b c d e f g h i j k l Tu3) fun a=>K a.2.2
end Go.Vx
namespace Go.Vx
structure SecN (a b c:Int):Prop where
 a0:2<=a
 a1:a<=12
 b0:5000<=b
 b1:b<=35000
 c0 : -10<=c
 c1:c<=10
def CM (Se:LL) (row:List D):Prop:=∃ (x d:Int) (nm:List UInt8) (a b c st:Int),row=[Ql x,Ql d]/\Qi Se x=some [D.str nm,Ql a,Ql b,Ql c,Ql st]/\SecN a b c/\(d=0\/d=1)
def SM (Se:LL):List D->LL
 |[.int _ x,.int _ d]=>match Qi Se x with
  |some [_,.int _ a,.int _ b,.int _ c,_]=>List.replicate a.toNat [Ql b,Ql (bif d == 1 then -c else c)]
  |_=>[]
 |_=>[]
def YF (Se s:LL):LL:=s.flatMap (SM Se)
theorem HR {Se:LL} {x d a b c st:Int} {nm:List UInt8} (h:Qi Se x=some [D.str nm,Ql a,Ql b,Ql c,Ql st]):SM Se [Ql x,Ql d]=List.replicate a.toNat [Ql b,Ql (bif d == 1 then -c else c)]:=by
 grind [SM]
theorem YE {α:Type} {l:List α} {h:Nat} {a:α} (e:l[h]? = some a):l.take (h+1)=l.take h++[a]:=by grind [List.take_add_one]
theorem MQ {Se s:LL} {h:Nat} {row:List D} (e:s[h]? = some row):YF Se (s.take (h+1))=YF Se (s.take h)++SM Se row:=by
 rw [YE e];simp [YF]
theorem Sl {Se:LL}:∀ {s:LL},(∀ row∈s,CM Se row)->(YF Se s).length<=12*s.length/\2*s.length<=(YF Se s).length
 |[],_=>by simp [YF]
 |row::s,h=>by
  obtain ⟨x,d,nm,a,b,c,st,rfl,hs,hn,_⟩:=h _ (List.mem_cons_self ..);have e:=Sl fun r hr=>h r (List.mem_cons_of_mem _ hr)
  have h2:=hn.a0;have f:=hn.a1;simp only [YF,List.flatMap_cons,HR hs,QpA,List.length_replicate,Qps] at e ⊢;omega
section
variable {R:Type} {n:Nat}
theorem Qj2 {a:Int} {x y:D} (b:0<=a) (c:a<=100000) (K:LL->oP R):Qv n [[x,y]] a K=K (List.replicate a.toNat [x,y]):=by
 simp_all [Qv,Xh]
theorem QbU {Se s:LL} {k0:Int->Bool->LL->oP R} (hs:∀ row∈s,CM Se row) (hl:s.length<=30):∀ {m:Nat},s.length<m->WE n s (s.length:Int) Se k0 m 0 []=k0 (s.length:Int) false (YF Se s):=by
 intro m hm;have hc:=fun h:Nat=>(Sl (s:=s.take h) fun r hr=>hs r (List.mem_of_mem_take hr)).1
 refine QD (r:=fun m h=>WE n s (s.length:Int) Se k0 m h (YF Se (s.take h.toNat))) (N:=s.length) (fun m h hh=>?_) (fun m=>?_) s.length m 0 Q0 hm
 ·have e:=Qpb hh;obtain ⟨x,d,nm,a,b,c,st,hx,aj,hn,hd⟩:=hs _ (Qpk hh);rw [hx] at e;have a0:=hn.a0;have a1:=hn.a1;have an:=hc h;simp only [Qp8,MQ e,HR aj];simp only [List.length_take] at an;rw [WE,Xh (by simpa using hh),show Qi s (h:Int)=some [Ql x,Ql d] by simp [Qi,e],Qh];dsimp only [List.getElem?_cons_zero,List.getElem?_cons_succ];rw [Qh,Qh,Qj,Qh,aj,Qh];dsimp only [List.getElem?_cons_zero,List.getElem?_cons_succ];have ac:∀ r:List D,Yn (((YF Se (s.take h)).length+(List.replicate a.toNat r).length)*16)=some ():=fun r=>XJ (by simp only [List.length_replicate];omega)
  simp -implicitDefEqProofs only [Qh,Qj,Qj2 (show (0:Int)<=a by omega) (show a<=100000 by omega),ac];rw [Qn (x:=(h:Int)+1) Q0 Q0,show (h:Int)+1=((h+1:Nat):Int) by omega,Qn (x:=0-c) (by have:=hn.c1;omega) (by have:=hn.c0;omega),Int.zero_sub];cases f:d == (1:Int) <;> rfl
 simp [Qp8,WE,Qr,Qpy]
theorem QaP {s:LL} (h:s.length<=1000):slB s.length none (some (wJ ((s.length:Int)-(0:Int))))=some (0,s.length)/\cut s (0,s.length)=s:=by
 grind [Qn,slB,cut]
def TQ (Se s:LL):Int:=match s with
 |[.int _ x,_]::_=>match Qi Se x with
  |some [_,.int _ a,_,_,_]=>a
  |_=>0
 |_=>0
theorem QfP {St Pt Se Li s:LL} {N:Nat} (ac:Pb 400 St Pt Se Li=true) (hN:Se.length=N) (h2:2<=s.length) (e:s.length<=24) (hr:rtB N Li s=true) (ho:∀ row∈s,CM Se row) (K:LL->Int->Int->oP R) :
  Rk 400 St Pt Se Li s 0 K=K (YF Se s) (TQ Se s) 0:=by
 have hl:=(Sl ho).1;obtain ⟨row,rest,rfl⟩:∃ row rest,s=row::rest:=by
  cases s with
  |nil=>simp at h2
  |cons a b=>simp_all
 obtain ⟨x,d,nm,a,b,c,st,rfl,hs,_,_⟩:=ho row Q2;have hf:TQ Se ([Ql x,Ql d]::rest)=a:=by grind [TQ]
 generalize hS:[Ql x,Ql d]::rest=s at *
 obtain ⟨e1,e2⟩:=QaP (s:=s) Q0;unfold Rk;rw [Q6y ac hN h2 e hr,Qh,Qr Q1,e1,Qh,e2,QbU ho Q0 Q0,Qr Q3,show Qi s (0:Int)=some [Ql x,Ql d] by rw [<- hS];rfl,Qh]
 grind [List.getElem?_cons_zero,List.getElem?_cons_succ,Qh,Qj]
theorem QgG {Se s:LL} {tl:Int} {k0:oP R} {k1:Int->Bool->oP R} (ht:tl<=2) (hb:s.length<=30) (hs:∀ row∈s,CM Se row) {m:Nat} (hm:s.length<m) :
  Ub n s (s.length:Int) Se tl k0 k1 m 0=k1 (s.length:Int) false:=by
 refine QD (r:=fun m h=>Ub n s (s.length:Int) Se tl k0 k1 m h) (N:=s.length) (fun m h hh=>?_) (fun m=>?_) s.length m 0 Q0 hm
 ·obtain ⟨x,d,ak,a,b,c,st,hx,ac,hn,_⟩:=hs _ (Qpk hh);have a0:=hn.a0;rw [Ub,Xh Q4,show Qi s (h:Int)=some [Ql x,Ql d] by grind [Qi,List.getElem?_eq_getElem],Qh];dsimp only [List.getElem?_cons_zero,List.getElem?_cons_succ];rw [Qh,Qh,Qj,Qh,ac,Qh];dsimp only [List.getElem?_cons_zero,List.getElem?_cons_succ];rw [Qh,Qj,Qh,Qr (by grind),Qn (x:=(h:Int)+1) Q0 Q0,show (h:Int)+1=((h+1:Nat):Int) by omega]
 simp [Ub,Qr]
structure StkN (tl sp ac br:Int):Prop where
 t1:1<=tl
 t2:tl<=2
 s1:10000<=sp
 s2:sp<=25000
 a1:400<=ac
 a2:ac<=800
 b1:400<=br
 b2:br<=800
theorem Am {nm:List UInt8} {tl sp ac br:Int} (h:StkN tl sp ac br) (K:Bool->oP R):UZ n nm tl sp ac br K=K true:=by
 obtain ⟨t1,t2,s1,s2,a1,a2,b1,b2⟩:=h
 grind [UZ]
theorem Q1e {s:LL} (a:s.length<=24) (K:LL->oP R):UM 400 s 0 K=K s:=by
 grind [QaP,UM,Qh]
theorem QiT {St Pt Se Li s:LL} {N:Nat} {nm:List UInt8} {tl sp ac br:Int} (aj:Pb 400 St Pt Se Li=true) (hN:Se.length=N) (h2:2<=s.length) (a:s.length<=24) (hr:rtB N Li s=true) (ho:∀ row∈s,CM Se row)
  (hk:StkN tl sp ac br) (K:LL->Int->Int->oP R):HO 400 St Pt Se Li s 0 nm tl sp ac br K=K (YF Se s) (TQ Se s) 0:=by
 unfold HO;rw [QfP aj hN h2 a hr ho,Qh,Qr (by rfl),Am hk,Qh,Qr Q1,Q1e a,Qh,QgG hk.t2 Q0 ho Q0]
theorem Qel {St Pt Se Li s:LL} {N:Nat} {nm:List UInt8} {tl sp ac br:Int} (aj:Pb 400 St Pt Se Li=true) (hN:Se.length=N) (h2:2<=s.length) (a:s.length<=24) (hr:rtB N Li s=true) (ho:∀ row∈s,CM Se row)
  (hk:StkN tl sp ac br) (K:Int->oP R):GN 400 St Pt Se Li s 0 nm tl sp ac br K=K 0:=by
 grind [GN,QiT,Qh]
end
end Go.Vx
namespace Go.Vx
variable {R:Type} (n:Nat)
def MI (d e c f:LL) (a b:Int) (K:Qkq R):oP R:=Qa R (Q9 (Q9 (decide (a>=0)) (decide (a<(c.length:Int)))) (Q8 (b==0) (b==1))) fun h=>Qd R h (ZP n d e c f some) fun g=>K (Q9 h (g==0))
def WJ (j:LL) (e f g:Int) (k0:Qkn R):Qkm R
 | 0,_,_=>none
 | m+1,b,c=>bif decide (b<e) then QjG R j b fun d u v x=>Qk2 R d fun y o p=>Qk4 R u v x y fun z aa ab ac=>QjE R o p fun ad ae=>gb true (Fc n z aa ab ac ad ae Tu4) (0,0,0,0) fun a=>bif f==a.1&&g==a.2.1 then Qc R (Mh n a.2.2.1 a.2.2.2 Tu2) fun k=>QjE R o p fun q r=>Qb R [[Ql k.1,Ql k.2,Ql q,Ql r]] fun i=>Qc R (Yn ((c.length+i.length)*32)) fun ai=>WJ j e f g k0 m (wJ (b+1)) (c++i) else bif f==a.2.2.1&&g==a.2.2.2 then Qc R (Mh n a.1 a.2.1 Tu2) fun l=>QjE R o p fun s t=>Qb R [[Ql l.1,Ql l.2,Ql s,Ql t]] fun h=>Qc R (Yn ((c.length+h.length)*32)) fun aj=>WJ j e f g k0 m (wJ (b+1)) (c++h) else WJ j e f g k0 m (wJ (b+1)) c else k0 b (decide (b<e)) c
def LY (d e f a:LL) (b c:Int) (K:Qkr R):oP R:=Qc R (MI n d e f a b c some) fun g=>bif !g then K [] else bif c==1 then WJ n a (a.length:Int) b 0 (fun j k h=>K h) n 0 [] else WJ n a (a.length:Int) b 1 (fun l m i=>K i) n 0 []
def ZU (n:Nat) (h2:LL) (c d e:Int) (k0:Qkl R) (k1:Qko R):Qkp R
 | 0,_=>none
 | m+1,a=>bif decide (a<c) then QjG R h2 a fun b f g h=>Qc R b[3]? fun l=>QjE R f g fun i j=>bif i==d&&j==e then Qc R (pIw h) fun k=>k0 k else ZU n h2 c d e k0 k1 m (wJ (a+1)) else k1 a (decide (a<c))
def ZK (b c d e:LL) (f g h i:Int) (K:Qkl R):oP R:=Qc R (LY n b c d e f g some) fun a=>ZU n a (a.length:Int) h i (fun j=>K j) (fun k l=>K (-1:Int)) n 0
end Go.Vx
namespace Go.Vx
theorem C7.at {k:Nat}:∀ {s s':LL},C7 k s s'->∀ i:Nat,(s[i]? = none/\s'[i]? = none)\/∃ nm a b c a' b' c' d,s[i]? = some [D.str nm,Ql a,Ql b,Ql c,Ql d]/\s'[i]? = some [D.str nm,Ql a',Ql b',Ql c',Ql d]/\NumOk a b c d k/\NumOk a' b' c' d k
 |[],[],_,i=>.inl ⟨by simp,by simp⟩
 |r::s,r'::s',h,0=>by
  obtain ⟨⟨nm,a,b,c,a',b',c',d,e,h2,f,g⟩,_⟩:=h;exact .inr ⟨nm,a,b,c,a',b',c',d,by simp [e],by simp [h2],f,g⟩
 |r::s,r'::s',h,i+1=>by
  have:=C7.at h.2 i;simpa using this
theorem C7.row {k:Nat} {s s':LL} (h:C7 k s s') (i:Int):(Qi s i=none/\Qi s' i=none)\/∃ nm a b c a' b' c' d,Qi s i=some [D.str nm,Ql a,Ql b,Ql c,Ql d]/\Qi s' i=some [D.str nm,Ql a',Ql b',Ql c',Ql d]/\NumOk a b c d k/\NumOk a' b' c' d k:=by
 unfold Qi;cases decide ((0:Int)<=i)
 ·simp_all
 ·exact h.at i.toNat
theorem gbN {α R:Type} {z:α} {k:α->oP R}:gb true none z k=none:=rfl
theorem inT {R:Type} {n:Nat} {x lo hi:Int} (a:lo<=x) (b:x<=hi) (K:Bool->oP R):KQ n x lo hi K=K true:=by
 grind [KQ,decide]
section
variable {R:Type} {n k:Nat} {s s' St Pt Li:LL} (h:C7 k s s')
include h
theorem Q6W {k0:Int->Bool->LL->oP R}:∀ (m:Nat) (i:Int) (acc:LL),Z9 n s k0 m i acc=Z9 n s' k0 m i acc
 |0,_,_=>rfl
 |m+1,i,acc=>by
  unfold Z9;rcases h.row i with ⟨e,e'⟩ | ⟨nm,a,b,c,a',b',c',d,e,e',_,_⟩
  ·simp only [e,e',h.len,gbN]
  ·rw [e,e',h.len];simp only [Q6W m];rfl
theorem QdG {ac:LL} (hk:St.length=k) (f:k<=100) {k0:Int->oP R} {k1:Int->Bool->oP R}:∀ (m:Nat) (i:Int),JF n ac St s k0 k1 m i=JF n ac St s' k0 k1 m i
 |0,_=>rfl
 |m+1,i=>by
  unfold JF;rcases h.row i with ⟨e,e'⟩ | ⟨nm,a,b,c,a',b',c',d,e,e',g,g'⟩
  ·simp only [e,e',h.len,gbN,QdG hk f m]
  ·rw [e,e',h.len];obtain ⟨j,l,h2,o,p,q,x,y⟩:=g;obtain ⟨g0,g1,r,t,u,v,z,g7⟩:=g';simp -implicitDefEqProofs only [Qh,Qp6,Qp7,Qj,inT j l,inT h2 o,inT p q,inT g0 g1,inT r t,inT u v,QdG hk f m]
theorem Qfd {k0:Int->oP R} {k1:Int->Bool->oP R}:∀ (m:Nat) (i:Int),Jw n St Pt s Li k0 k1 m i=Jw n St Pt s' Li k0 k1 m i
 |0,_=>rfl
 |m+1,i=>by
  unfold Jw;have e:∀ j,G9 n St Pt s Li j (some:Int->oP Int)=G9 n St Pt s' Li j some:=by
   intro j;unfold G9;rw [h.len];rfl
  simp only [e,Qfd m]
theorem Qdd (hk:St.length=k) (a:k<=100) (K:Int->oP R):Gu n St Pt s Li K=Gu n St Pt s' Li K:=by
 unfold Gu Hh;rw [h.len]
 grind [Q6W,QdG,Qfd]
end
def QaZ (St Pt Se Li:LL):Bool:=Q8E (Gu 400 St Pt Se Li some)
theorem ro2 {c0 c1 a:Nat} (b:c0=1\/c0=2) (c:c1=1\/c1=2) (h2:a=1\/a=2):QaZ [nmS 0,nmS 1] (pt2 c0 c1) (se2 c0 c1 a (hat c0) (hat c1) (hat a)) (li2 c0 c1 a)=true:=by
 rcases b with rfl | rfl <;> rcases c with rfl | rfl <;> rcases h2 with rfl | rfl <;> kernel_rfl
theorem ro3 {c0 c1 a b c:Nat} (d:c0=1\/c0=2) (e:c1=1\/c1=2) (h2:a=1\/a=2) (f:b=1\/b=2) (g:c=1\/c=2):QaZ [nmS 0,nmS 1,nmS 2] (pt3 c0 c1 a) (se3 c0 c1 a b c (hat c0) (hat c1) (hat a) (hat b) (hat c)) (li3 c0 c1 a b c)=true:=by
 rcases d with rfl | rfl <;> rcases e with rfl | rfl <;> rcases h2 with rfl | rfl <;> rcases f with rfl | rfl <;> rcases g with rfl | rfl <;> kernel_rfl
theorem Q4V {St Pt L L' Li:LL} (h:C7 St.length L L') (h2:St.length<=100):QaZ St Pt L Li=QaZ St Pt L' Li:=by
 unfold QaZ;rw [Qdd h rfl h2]
theorem Qjv {c0 c1 a:Nat} {b c d:List NK} (e:c0=1\/c0=2) (f:c1=1\/c1=2) (h2:a=1\/a=2) (g:Hv b) (h:Hv c) (i:Hv d) (j:b.length=c0) (e1:c.length=c1) (e2:d.length=a) :
  QaZ [nmS 0,nmS 1] (pt2 c0 c1) (se2 c0 c1 a b c d) (li2 c0 c1 a)=true:=by
 grind [ro2,Q4V,sr2]
theorem Qjk {c0 c1 a b c:Nat} {d e f g h:List NK} (i:c0=1\/c0=2) (j:c1=1\/c1=2) (h2:a=1\/a=2) (k:b=1\/b=2) (l:c=1\/c=2) (m:Hv d) (n:Hv e) (o:Hv f) (n3:Hv g) (p:Hv h) (q:d.length=c0) (e1:e.length=c1) (e2:f.length=a) (r:g.length=b) (s:h.length=c) :
  QaZ [nmS 0,nmS 1,nmS 2] (pt3 c0 c1 a) (se3 c0 c1 a b c d e f g h) (li3 c0 c1 a b c)=true:=by
 grind [ro3,Q4V,sr3]
def QdW (St Pt L d s:LL):oP Int:=
 Z4 400 L s (some 4) (fun _ _=>Ji 400 s (some 5) (fun _ _=>YZ 400 St Pt L d s (some 11) (fun _ _=>some 0) 400 (1:Int)) 400 (0:Int)) 400 (0:Int)
def QgS (N:Nat) (Li s:LL):Bool:=Q8E (QdW [] [] (List.replicate N []) Li s)
section
variable {R:Type} {n:Nat} {a b a' b' L L' d s:LL} (h:L.length=L'.length)
include h
theorem Qfz {k0:oP R} {k1:Int->Bool->oP R}:∀ (m:Nat) (i:Int),Z4 n L s k0 k1 m i=Z4 n L' s k0 k1 m i
 |0,_=>rfl
 |m+1,i=>by
  unfold Z4;simp only [h,Qfz m]
omit h in
theorem QiV {x y z t:Int} {K:D->D->D->D->Bool->oP R}:Gi n a b L d x y z t K=Gi n a' b' L' d x y z t K:=rfl
omit h in
theorem Qgw {k0:oP R} {k1:Int->Bool->oP R}:∀ (m:Nat) (i:Int),YZ n a b L d s k0 k1 m i=YZ n a' b' L' d s k0 k1 m i
 |0,_=>rfl
 |m+1,i=>by
  unfold YZ;simp only [QiV (a:=a) (b:=b) (L:=L) (a':=a') (b':=b') (L':=L'),Qgw m]
end
theorem Q4W {St Pt Se Li s:LL} {N:Nat} (ac:QaZ St Pt Se Li=true) (hN:Se.length=N) (h2:2<=s.length) (c:s.length<=24) (hr:QgS N Li s=true):Jq 400 St Pt Se Li s 0 (some:Int->oP Int)=some 0:=by
 have hL:Se.length=(List.replicate N ([]:List D)).length:=by simp [hN]
 unfold Jq;rw [Jn ac,Qh,Qr Q1,Qr (by grind),Qr (by grind [Qn,decide,List.length])];simp only [Qfz hL,Qgw (a:=St) (b:=Pt) (L:=Se) (a':=[]) (b':=[]) (L':=List.replicate N [])];exact Jn hr
def QeK (Li:LL) (r r':List D):oP Int:=match r,r' with
 |[.int _ x,.int _ d],[.int _ y,.int _ e]=>gb true (bif (d == (1:Int)) then WJ 400 Li ((List.length Li:Nat):Int) x (0:Int) (fun _ _ w=>some w) 400 (0:Int) [] else WJ 400 Li ((List.length Li:Nat):Int) x (1:Int) (fun _ _ w=>some w) 400 (0:Int) []) [] fun a=>
  ZU 400 a ((List.length a:Nat):Int) y e some (fun _ _=>some (-1)) 400 (0:Int)
 |_,_=>none
def ptR (St Pt Se Li:LL) (r r':List D):oP Int:=match r,r' with
 |[.int _ x,.int _ d],[.int _ y,.int _ e]=>match Gi 400 St Pt Se Li x d y e Tu5 with
  |some (_,_,.int .i64 q,_,true)=>some q
  |_=>none
 |_,_=>none
def pv:oP Int->Int
 |some p=>p
 |none => -1
def Q0y (N NP:Nat) (Li:LL):Nat->LL->Bool
 |k,r::r'::t=>match QeK Li r r',ptR [] [] (List.replicate N []) Li r r' with
  |some p,some q=>(p == q)&&(decide (-1<=p)&&(decide (p<NP)&&Q0y N NP Li (bif decide (p<0) then k+1 else k+2) (r'::t)))
  |_,_=>false
 |k,_=>Nat.ble k 5
def Qdy (N NP:Nat) (Li s:LL):Bool:=QgS N Li s&&Q0y N NP Li 0 s
def Q52 (N NP:Nat) (Li:LL) (s u k c k' c':Nat):Bool:=
 (ups k c).all fun x=>(ups k' c').all fun y=>Qdy N NP Li (Hb s u x y true)&&Qdy N NP Li (Hb s u x y false)
theorem QhM {c0 c1 a:Nat} (b:c0=1\/c0=2) (c:c1=1\/c1=2) (h2:a=1\/a=2):Q52 (c0+c1+a) (pt2 c0 c1).length (li2 c0 c1 a) (c0+c1) a 0 c0 c0 c1=true:=by
 rcases b with rfl | rfl <;> rcases c with rfl | rfl <;> rcases h2 with rfl | rfl <;> kernel_rfl
theorem Qho {c0 c1 a b c:Nat} (d:c0=1\/c0=2) (e:c1=1\/c1=2) (h2:a=1\/a=2) (f:b=1\/b=2) (g:c=1\/c=2) :
  (Q52 (c0+c1+a+b+c) (pt3 c0 c1 a).length (li3 c0 c1 a b c) (c0+c1+a) b 0 c0 c0 c1&&Q52 (c0+c1+a+b+c) (pt3 c0 c1 a).length (li3 c0 c1 a b c) (c0+c1+a+b) c c0 c1 (c0+c1) a)=true:=by
 rcases d with rfl | rfl <;> rcases e with rfl | rfl <;> rcases h2 with rfl | rfl <;> rcases f with rfl | rfl <;> rcases g with rfl | rfl <;> kernel_rfl
theorem Qdc {St Pt Se Li:LL} (ac:Pb 400 St Pt Se Li=true) {x d y e:Int} (a:0<=x) (b:x<Se.length) (hd:d=0\/d=1):ZK 400 St Pt Se Li x d y e (some:Int->oP Int)=QeK Li [Ql x,Ql d] [Ql y,Ql e]:=by
 have hc:ZP 400 St Pt Se Li (some:Int->oP Int)=some 0:=by grind [ZP]
 have hh:MI 400 St Pt Se Li x d (some:Bool->oP Bool)=some true:=by
  grind [MI,Qh,decide]
 simp_all [ZK,LY,QeK,Qh]
structure Geo where
 N:Nat
 St:LL
 Pt:LL
 Se:LL
 Li:LL
 Tr:LL
 Bt:LL
 k:Nat->Nat
 c:Nat->Nat
 s:Nat->Nat
 u:Nat->Nat
structure Geo.OK (G:Geo):Prop where
 hN:G.N=2\/G.N=3
 st:G.St.length=G.N
 lay:Pb 400 G.St G.Pt G.Se G.Li=true
 ref:QaZ G.St G.Pt G.Se G.Li=true
 trl:G.Tr.length=G.N
 tr:∀ i,i<G.N->G.Tr[i]? = some [D.sl 1 (Wu (ups (G.k i) (G.c i)))]
 ct:∀ i,i<G.N->G.c i=1\/G.c i=2
 k6:∀ i,i<G.N->G.k i+G.c i<=6
 btl:G.Bt.length+1=G.N
 bt:∀ g,g+1<G.N->G.Bt[g]? = some [D.sl 1 (Wu (ups (G.s g) (G.u g)))]
 ut:∀ g,g+1<G.N->G.u g=1\/G.u g=2
 sec:∀ i,i<G.N->∀ x,x<G.c i->∃ nm a b d,Qi G.Se ((G.k i+x:Nat):Int)=some [D.str nm,Ql a,Ql b,Ql d,Ql i]/\SecN a b d
 gap:∀ g,g+1<G.N->∀ x,x<G.u g->∃ nm a b d e,Qi G.Se ((G.s g+x:Nat):Int)=some [D.str nm,Ql a,Ql b,Ql d,Ql e]/\SecN a b d
 rts:∀ g,g+1<G.N->QcI G.Se.length G.Li (G.s g) (G.u g) (G.k g) (G.c g) (G.k (g+1)) (G.c (g+1))=true
 rt6:∀ g,g+1<G.N->Q52 G.Se.length G.Pt.length G.Li (G.s g) (G.u g) (G.k g) (G.c g) (G.k (g+1)) (G.c (g+1))=true
theorem Q6M {f:Nat->NK->List D}:∀ {c:Nat} {x:List NK} {i:Nat},Hv x->x.length=c->i<c->∃ j y,(YW f c x)[i]? = some (f j y)/\Num y.1 y.2.1 y.2.2
 |c+1,a::x,0,h,_,_=>⟨c+1,a,rfl,h.1⟩
 |c+1,a::x,i+1,h,e,hi=>by
  obtain ⟨j,y,b,h2⟩:=Q6M (f:=f) h.2 (by simpa using e) (show i<c by omega);exact ⟨j,y,by simpa [YW] using b,h2⟩
theorem Qcv {f:Nat->NK->List D} {A B:LL} {c k i:Nat} {x:List NK} (hA:A.length=k) (h:Hv x) (e:x.length=c) (hi:i<c):∃ j y,Qi ((A++YW f c x)++B) ((k+i:Nat):Int)=some (f j y)/\Num y.1 y.2.1 y.2.2:=by
 obtain ⟨j,y,a,h2⟩:=Q6M (f:=f) h e hi
 grind [Qi]
theorem QgO {A B L:LL} {c k i x:Nat} {X:List NK} (hL:L=(A++YW (secT i) c X)++B) (hA:A.length=k) (h:Hv X) (e:X.length=c) (hi:x<c) :
  ∃ nm a b d,Qi L ((k+x:Nat):Int)=some [D.str nm,Ql a,Ql b,Ql d,Ql i]/\SecN a b d:=by
 subst hL;obtain ⟨j,y,g,h2⟩:=Qcv (f:=secT i) (B:=B) hA h e hi;exact ⟨_,_,_,_,g,by have:=h2.a0;omega,by have:=h2.a1;omega,h2.b0,h2.b1,h2.c0,h2.c1⟩
theorem QhU {A B L:LL} {c k i x:Nat} {X:List NK} (hL:L=(A++YW (secL i) c X)++B) (hA:A.length=k) (h:Hv X) (e:X.length=c) (hi:x<c) :
  ∃ nm a b d e,Qi L ((k+x:Nat):Int)=some [D.str nm,Ql a,Ql b,Ql d,Ql e]/\SecN a b d:=by
 subst hL;obtain ⟨j,y,g,h2⟩:=Qcv (f:=secL i) (B:=B) hA h e hi;exact ⟨_,_,_,_,_,g,h2.a0,by have:=h2.a1;omega,h2.b0,h2.b1,h2.c0,h2.c1⟩
def Qf8 (c0 c1 a:Nat) (b d e:List NK):Geo where
 N:=2
 St:=[nmS 0,nmS 1]
 Pt:=pt2 c0 c1
 Se:=se2 c0 c1 a b d e
 Li:=li2 c0 c1 a
 Tr:=[[D.sl 1 (Wu (ups 0 c0))],[D.sl 1 (Wu (ups c0 c1))]]
 Bt:=[[D.sl 1 (Wu (ups (c0+c1) a))]]
 k:=fun | 0=>0 | _=>c0
 c:=fun | 0=>c0 | _=>c1
 s:=fun _=>c0+c1
 u:=fun _=>a
theorem QdP {c0 c1 a:Nat} {b c d:List NK} (f:c0=1\/c0=2) (h:c1=1\/c1=2) (h2:a=1\/a=2) (j:Hv b) (k:Hv c) (l:Hv d) (e:b.length=c0) (e1:c.length=c1) (e2:d.length=a):(Qf8 c0 c1 a b c d).OK where
 hN:=.inl rfl
 st:=rfl
 lay:=Qj1 f h h2 j k l e e1 e2
 ref:=Qjv f h h2 j k l e e1 e2
 trl:=rfl
 tr:=fun i hi=>match i,hi with
  |0,_=>rfl
  |1,_=>rfl
 ct:=fun i hi=>match i,hi with
  |0,_=>f
  |1,_=>h
 k6:=fun i hi=>match i,hi with
  |0,_=>by show 0+c0<=6;omega
  |1,_=>by show c0+c1<=6;omega
 btl:=rfl
 bt:=fun g hg=>match g,hg with
  |0,_=>rfl
 ut:=fun g _=>h2
 sec:=fun i hi=>match i,hi with
  |0,_=>fun x hx=>QgO (A:=[]) (i:=0) (B:=YW (secT 1) c1 c++YW (secL 0) a d) (by simp [Qf8,se2]) rfl j e hx
  |1,_=>fun x hx=>QgO (A:=YW (secT 0) c0 b) (i:=1) (B:=YW (secL 0) a d) rfl (Xz e) k e1 hx
 gap:=fun g hg x hx=>QhU (A:=YW (secT 0) c0 b++YW (secT 1) c1 c) (i:=0) (B:=[]) (by simp [Qf8,se2]) (by grind [Qf8,Xz]) l e2 hx
 rts:=fun g hg=>match g,hg with
  |0,_=>by
   have hl:(se2 c0 c1 a b c d).length=c0+c1+a:=by grind [se2,Xz]
   show QcI (se2 c0 c1 a b c d).length (li2 c0 c1 a) (c0+c1) a 0 c0 c0 c1=true
   grind [Qjb]
 rt6:=fun g hg=>match g,hg with
  |0,_=>by
   have hl:(se2 c0 c1 a b c d).length=c0+c1+a:=by simp [se2,Xz e,Xz e1,Xz e2];omega
   show Q52 (se2 c0 c1 a b c d).length (pt2 c0 c1).length (li2 c0 c1 a) (c0+c1) a 0 c0 c0 c1=true
   grind [QhM]
def Qb1 (c0 c1 a b d:Nat) (e f g h i:List NK):Geo where
 N:=3
 St:=[nmS 0,nmS 1,nmS 2]
 Pt:=pt3 c0 c1 a
 Se:=se3 c0 c1 a b d e f g h i
 Li:=li3 c0 c1 a b d
 Tr:=[[D.sl 1 (Wu (ups 0 c0))],[D.sl 1 (Wu (ups c0 c1))],[D.sl 1 (Wu (ups (c0+c1) a))]]
 Bt:=[[D.sl 1 (Wu (ups (c0+c1+a) b))],[D.sl 1 (Wu (ups (c0+c1+a+b) d))]]
 k:=fun | 0=>0 | 1=>c0 | _=>c0+c1
 c:=fun | 0=>c0 | 1=>c1 | _=>a
 s:=fun | 0=>c0+c1+a | _=>c0+c1+a+b
 u:=fun | 0=>b | _=>d
theorem QeC {c0 c1 a b c:Nat} {d e f h j:List NK} (l:c0=1\/c0=2) (m:c1=1\/c1=2) (h2:a=1\/a=2) (n:b=1\/b=2) (o:c=1\/c=2) (s:Hv d) (t:Hv e) (u:Hv f) (n3:Hv h) (v:Hv j) (p:d.length=c0) (e1:e.length=c1) (e2:f.length=a) (q:h.length=b) (r:j.length=c):(Qb1 c0 c1 a b c d e f h j).OK where
 hN:=.inr rfl
 st:=rfl
 lay:=Qjs l m h2 n o s t u n3 v p e1 e2 q r
 ref:=Qjk l m h2 n o s t u n3 v p e1 e2 q r
 trl:=rfl
 tr:=fun i hi=>match i,hi with
  |0,_=>rfl
  |1,_=>rfl
  |2,_=>rfl
 ct:=fun i hi=>match i,hi with
  |0,_=>l
  |1,_=>m
  |2,_=>h2
 k6:=fun i hi=>match i,hi with
  |0,_=>by show 0+c0<=6;omega
  |1,_=>by show c0+c1<=6;omega
  |2,_=>by show c0+c1+a<=6;omega
 btl:=rfl
 bt:=fun g hg=>match g,hg with
  |0,_=>rfl
  |1,_=>rfl
 ut:=fun g hg=>match g,hg with
  |0,_=>n
  |1,_=>o
 sec:=fun i hi=>match i,hi with
  |0,_=>fun x hx=>QgO (A:=[]) (i:=0) (B:=YW (secT 1) c1 e++(YW (secT 2) a f++(YW (secL 0) b h++YW (secL 1) c j))) (by simp [Qb1,se3]) rfl s p hx
  |1,_=>fun x hx=>QgO (A:=YW (secT 0) c0 d) (i:=1) (B:=YW (secT 2) a f++(YW (secL 0) b h++YW (secL 1) c j)) (by simp [Qb1,se3]) (Xz p) t e1 hx
  |2,_=>fun x hx=>QgO (A:=YW (secT 0) c0 d++YW (secT 1) c1 e) (i:=2) (B:=YW (secL 0) b h++YW (secL 1) c j) (by simp [Qb1,se3]) (by grind [Qb1,Xz]) u e2 hx
 gap:=fun g hg=>match g,hg with
  |0,_=>fun x hx=>QhU (A:=YW (secT 0) c0 d++YW (secT 1) c1 e++YW (secT 2) a f) (i:=0) (B:=YW (secL 1) c j) (by simp [Qb1,se3]) (by grind [Qb1,Xz]) n3 q hx
  |1,_=>fun x hx=>QhU (A:=YW (secT 0) c0 d++YW (secT 1) c1 e++YW (secT 2) a f++YW (secL 0) b h) (i:=1) (B:=[]) (by simp [Qb1,se3]) (by grind [Qb1,Xz]) v r hx
 rts:=fun g hg=>by
  have hl:(se3 c0 c1 a b c d e f h j).length=c0+c1+a+b+c:=by grind [se3,Xz]
  have k:=Qjj l m h2 n o;simp only [Qpx] at k
  match g,hg with
  |0,_=>
   show QcI (se3 c0 c1 a b c d e f h j).length (li3 c0 c1 a b c) (c0+c1+a) b 0 c0 c0 c1=true
   simp_all
  |1,_=>
   show QcI (se3 c0 c1 a b c d e f h j).length (li3 c0 c1 a b c) (c0+c1+a+b) c c0 c1 (c0+c1) a=true;rw [hl];exact k.2
 rt6:=fun g hg=>by
  have hl:(se3 c0 c1 a b c d e f h j).length=c0+c1+a+b+c:=by simp [se3,Xz p,Xz e1,Xz e2,Xz q,Xz r];omega
  have k:=Qho l m h2 n o;simp only [Qpx] at k
  match g,hg with
  |0,_=>
   show Q52 (se3 c0 c1 a b c d e f h j).length (pt3 c0 c1 a).length (li3 c0 c1 a b c) (c0+c1+a) b 0 c0 c0 c1=true;rw [hl];exact k.1
  |1,_=>
   show Q52 (se3 c0 c1 a b c d e f h j).length (pt3 c0 c1 a).length (li3 c0 c1 a b c) (c0+c1+a+b) c c0 c1 (c0+c1) a=true;rw [hl];exact k.2
theorem Qj5 {R:Type} {l:List Int} (hl:l.length<=9223372036854775807) {P:R->Prop} {i:Nat} (hi:i<=l.length) {K:LL->LL->LL->LL->LL->LL->LL->Int->oP R}
  (H:∀ (G:Geo) (j:Nat),G.OK->j<=l.length->K G.St G.Pt G.Se G.Li G.Tr G.Bt [] (j:Int)∈P):Q2T 400 (encI l) (i:Int) K∈P:=by
 refine J2 hl hi Q1 Q1 fun v j k n hj=>?_
 rcases two k n with rfl | rfl
 ·exact QhF hl (m:=397) hj fun c0 c1 a b c d j a0 a1 a2 e f g h e1 e2 hj=>H (Qf8 c0 c1 a b c d) j (QdP a0 a1 a2 e f g h e1 e2) hj
 ·exact QhI hl (m:=396) hj fun c0 c1 o a p b c q d r j a0 a1 a2 s t e f g n3 u h e1 e2 x y hj=>H (Qb1 c0 c1 o a p b c q d r) j (QeC a0 a1 a2 s t e f g n3 u h e1 e2 x y) hj
section
variable {R:Type}
theorem Q1W {T:LL} {g:Nat} {l:LL} (h:T[g]? = some [D.sl 1 l]) (K:LL->oP R) :
  gb true (inB (List.length T) (g:Int)) () (fun _=>gb true (T[(Int.toNat (g:Int))]?) [] fun a=>gb true (a[0]?) oF fun b=>gb true (pSl 1 b) [] fun c=>K c)=K l:=by
 have ac:g<T.length:=(Qpe.1 h).1;rw [Yh Q0 Q0,Qh,Qp8,h];rfl
theorem Qhe {k c a:Nat} (hc:c=1\/c=2) (ha:a<2) (K:Int->oP R) :
  gb true (nz ((List.length (Wu (ups k c)):Nat):Int)) () (fun _=>gb true (Qi (Wu (ups k c)) (Int.tmod (a:Int) ((List.length (Wu (ups k c)):Nat):Int))) [] fun b=>gb true (b[0]?) oF fun d=>gb true (pIw d) 0 fun e=>K e)=K ((k+a % c:Nat):Int):=by
 obtain rfl | rfl:a=0\/a=1:=Q0
 ·rcases hc with rfl | rfl <;> rfl
 ·rcases hc with rfl | rfl
  ·rw [show k+1 % 1=k from rfl,show List.length (Wu (ups k 1))=1 from rfl,show Int.tmod ((1:Nat):Int) ((1:Nat):Int)=0 by decide];rfl
  ·rfl
theorem QbZ {s u:Nat} {x:Int} (hu:u=1\/u=2) {k0:Int->Bool->LL->oP R} :
  ZX 400 (Wu (ups s u)) ((List.length (Wu (ups s u)):Nat):Int) k0 400 (0:Int) [[D.int .i64 x,D.int .i64 (0:Int)]]
   = k0 (u:Int) false ([Ql x,Ql 0]::((ups s u).map fun k=>[Ql (k:Nat),Ql 0])):=by
 rcases hu with rfl | rfl <;> rfl
theorem Qc1 {s u:Nat} {x:Int} (hu:u=1\/u=2) {k0:Int->Bool->LL->oP R} :
  We 400 (Wu (ups s u)) k0 400 (wJ (((List.length (Wu (ups s u)):Nat):Int)-(1:Int))) [[D.int .i64 x,D.int .i64 (1:Int)]]
   = k0 (-1) false ([Ql x,Ql 1]::((ups s u).reverse.map fun k=>[Ql (k:Nat),Ql 1])):=by
 rcases hu with rfl | rfl <;> rfl
theorem Q9H {Tr Bt:LL} {g k c k' c' s u a b:Nat} {up:Bool} (hg:g<8) (hT:Tr[g]? = some [D.sl 1 (Wu (ups k c))]) (ac:Tr[g+1]? = some [D.sl 1 (Wu (ups k' c'))]) (hB:Bt[g]? = some [D.sl 1 (Wu (ups s u))])
  (hc:c=1\/c=2) (aj:c'=1\/c'=2) (hu:u=1\/u=2) (ha:a<2) (hb:b<2) (K:LL->Int->oP R) :
  YS 400 Tr Bt (g:Int) (a:Int) (b:Int) up K=K (Hb s u (k+a % c) (k'+b % c') up) 0:=by
 have ak:wJ ((g:Int)+1)=((g+1:Nat):Int):=by grind [Qn]
 have hl:(ups s u).length=u:=by rcases hu with rfl | rfl <;> rfl
 have d:u<=2:=Q0
 unfold YS;rw [Q1W hB];cases up
 ·rw [Qr rfl];rw [ak,Q1W ac,Q1W ac,Qhe aj hb,XJ Q2,Qh];rw [Qc1 hu,Q1W hT,Q1W hT,Qhe hc ha,XJ (by simp [hl];omega),Qh];rfl
 ·rw [Xh rfl,Q1W hT,Q1W hT,Qhe hc ha,XJ Q2,Qh];rw [QbZ hu,ak,Q1W ac,Q1W ac,Qhe aj hb,XJ (by simp [hl];omega),Qh];rfl
end
def Sta (G:Geo) (x:Int):Prop:=∃ nm a b d i,Qi G.Se x=some [D.str nm,Ql a,Ql b,Ql d,Ql i]/\0<=i/\x<6/\2<=a
structure RtOK (G:Geo) (s:LL) (x y:Int):Prop where
 l2:2<=s.length
 l24:s.length<=24
 rt:rtB G.Se.length G.Li s=true
 rt6:QgS G.Se.length G.Li s=true
 hops:Q0y G.Se.length G.Pt.length G.Li 0 s=true
 shp:∃ g x y up,g+1<G.N/\s=Hb (G.s g) (G.u g) x y up/\x∈ups (G.k g) (G.c g)/\y∈ups (G.k (g+1)) (G.c (g+1))
 st:∀ r∈s,CM G.Se r
 sx:Sta G x
 sy:Sta G y
 fst:∃ d,Qi s 0=some [Ql x,Ql d]
 lst:∃ d,Qi s ((s.length:Int)-1)=some [Ql y,Ql d]
def Geo.tk (G:Geo) (i a:Nat):Int:=((G.k i+a % G.c i:Nat):Int)
theorem Q5R {x:Nat}:∀ {s u:Nat},x∈ups s u->∃ j,j<u/\x=s+j
 |s,0,h=>by simp [ups] at h
 |s,u+1,h=>by
  simp only [ups,List.mem_cons] at h;rcases h with rfl | h
  ·exact ⟨0,Q0,rfl⟩
  ·obtain ⟨j,a,h2⟩:=Q5R h;exact ⟨j+1,Q0,Q0⟩
theorem EU {c a k:Nat} (hc:c=1\/c=2):(k+a % c)∈ups k c:=by
 rcases hc with rfl | rfl
 ·simp [ups,Nat.mod_one]
 grind [Nat.mod_lt,ups]
theorem Geo.OK.trk {G:Geo} (hG:G.OK) {i a:Nat} (hi:i<G.N):(∃ nm x b d,Qi G.Se (G.tk i a)=some [D.str nm,Ql x,Ql b,Ql d,Ql i]/\SecN x b d):=
 hG.sec i hi (a % G.c i) (Nat.mod_lt _ (by rcases hG.ct i hi with h | h <;> omega))
theorem Q5p {P:List D->Prop} {s u x y:Nat} {up:Bool} (hx:∀ d,(d=0\/d=1)->P [Ql x,Ql d]) (hy:∀ d,(d=0\/d=1)->P [Ql y,Ql d]) (hs:∀ j,j<u->∀ d,(d=0\/d=1)->P [Ql ((s+j:Nat):Int),Ql d]):∀ r∈Hb s u x y up,P r:=by
 intro r hr;unfold Hb at hr;cases up
 ·simp only [Qp9,List.cons_append,List.mem_cons,Qpr,List.mem_map,List.mem_reverse,List.not_mem_nil,or_false] at hr;rcases hr with rfl | ⟨k,hk,rfl⟩ | rfl
  ·simp_all
  ·obtain ⟨j,a,rfl⟩:=Q5R hk
   simp_all
  simp_all
 ·simp only [Qpa,List.cons_append,List.mem_cons,Qpr,List.mem_map,List.not_mem_nil,or_false] at hr;rcases hr with rfl | ⟨k,hk,rfl⟩ | rfl
  ·simp_all
  ·obtain ⟨j,a,rfl⟩:=Q5R hk
   simp_all
  simp_all
theorem Qgp {R:Type} {G:Geo} (hG:G.OK) {g a b:Nat} {up:Bool} (hg:g+1<G.N) (ha:a<2) (hb:b<2) :
  ∃ s,RtOK G s (bif up then G.tk g a else G.tk (g+1) b) (bif up then G.tk (g+1) b else G.tk g a)/\∀ K:LL->Int->oP R,YS 400 G.Tr G.Bt (g:Int) (a:Int) (b:Int) up K=K s 0:=by
 have hN:=hG.hN;have hc:=hG.ct g Q0;have ar:=hG.ct (g+1) hg;have hu:=hG.ut g hg;obtain ⟨h,i,k,l,e1,c⟩:=hG.trk (a:=a) (show g<G.N by omega);obtain ⟨m,n,o,p,e2,e⟩:=hG.trk (a:=b) hg;have aj:=hG.rts g hg;unfold QcI at aj;have aj:=List.all_eq_true.1 (List.all_eq_true.1 aj _ (EU hc (a:=a))) _ (EU ar (a:=b));simp only [Qpx] at aj;have ac:=hG.rt6 g hg;unfold Q52 at ac;have ac:=List.all_eq_true.1 (List.all_eq_true.1 ac _ (EU hc (a:=a))) _ (EU ar (a:=b));simp only [Qdy,Qpx] at ac;refine ⟨Hb (G.s g) (G.u g) (G.k g+a % G.c g) (G.k (g+1)+b % G.c (g+1)) up,?_,fun K=>Q9H Q0 (hG.tr g Q0) (hG.tr (g+1) hg) (hG.bt g hg) hc ar hu ha hb K⟩;have aq:∀ r∈Hb (G.s g) (G.u g) (G.k g+a % G.c g) (G.k (g+1)+b % G.c (g+1)) up,CM G.Se r:=by
  refine Q5p (fun d hd=>⟨_,_,_,_,_,_,_,rfl,e1,c,hd⟩) (fun d hd=>⟨_,_,_,_,_,_,_,rfl,e2,e,hd⟩) fun j hj d hd=>?_
  obtain ⟨n3,q,t,v,z,f,g1⟩:=hG.gap g hg j hj;exact ⟨_,_,_,_,_,_,_,rfl,f,g1,hd⟩
 have an:∃ g' x y au,g'+1<G.N/\Hb (G.s g) (G.u g) (G.k g+a % G.c g) (G.k (g+1)+b % G.c (g+1)) up=Hb (G.s g') (G.u g') x y au/\x∈ups (G.k g') (G.c g')/\y∈ups (G.k (g'+1)) (G.c (g'+1)):=
  ⟨g,_,_,up,hg,rfl,EU hc,EU ar⟩
 have m1:=hG.k6 g Q0;have m2:=hG.k6 (g+1) hg;have r1:=Nat.mod_lt a (show 0<G.c g by omega);have r2:=Nat.mod_lt b (show 0<G.c (g+1) by omega);have s1:Sta G (G.tk g a):=⟨_,_,_,_,_,e1,Q0,by unfold Geo.tk;omega,c.a0⟩;have s2:Sta G (G.tk (g+1) b):=⟨_,_,_,_,_,e2,Q0,by unfold Geo.tk;omega,e.a0⟩;revert aq aj ac an;generalize G.s g=s;generalize G.u g=u at hu;intro aj ac aq an;have hl:(Hb s u (G.k g+a % G.c g) (G.k (g+1)+b % G.c (g+1)) up).length=u+2:=by
  rcases hu with rfl | rfl <;> cases up <;> rfl
 cases up
 ·exact ⟨Q0,Q0,aj.2,ac.2.1,ac.2.2,an,aq,s2,s1,by rcases hu with rfl | rfl <;> exact ⟨1,rfl⟩,by rw [hl];rcases hu with rfl | rfl <;> exact ⟨1,rfl⟩⟩
 ·exact ⟨Q0,Q0,aj.1,ac.1.1,ac.1.2,an,aq,s1,s2,by rcases hu with rfl | rfl <;> exact ⟨0,rfl⟩,by rw [hl];rcases hu with rfl | rfl <;> exact ⟨0,rfl⟩⟩
def Py (G:Geo) (Ro:LL) (row:List D) (x y:Int) (last:Bool):Prop:=
 ∃ (rt:Nat) (ex mn mx:Int) (s:LL),row=[Ql rt,Ql ex,Ql mn,Ql mx]/\Ro[rt]? = some [D.sl 2 s,Ql 0]/\RtOK G s x y/\(0<=ex/\ex<3)/\(0<=mn/\mn<=mx/\mx<=mn+3/\mn<=10)/\(last=true->mn=0/\mx=0)
def nmN (k:Nat):List UInt8:=bs [78]++[UInt8.ofNat (48+k)]
def Q3V (G:Geo) (Ro:LL) (rides:LL):Prop:=
 (∃ r x y,rides=[r]/\Py G Ro r x y true)\/(∃ r r' x y z,rides=[r,r']/\Py G Ro r x y false/\Py G Ro r' y z true)
def Qba (G:Geo) (Ro:LL) (k:Nat) (row:List D):Prop:=∃ (w:Int) (rides:LL),row=[D.str (nmN k),Ql 0,Ql w,D.sl 4 rides]/\0<=w/\w<4/\Q3V G Ro rides
structure GoodP (G:Geo) (Ro Ls:LL):Prop where
 ro:∀ row∈Ro,∃ s x y,row=[D.sl 2 s,Ql 0]/\RtOK G s x y
 ls:∀ k row,Ls[k]? = some row->Qba G Ro k row
theorem Py.mono {G:Geo} {Ro t:LL} {row:List D} {x y:Int} {b:Bool} (h:Py G Ro row x y b):Py G (Ro++t) row x y b:=by
 obtain ⟨rt,ex,mn,mx,s,a,h2,c⟩:=h;refine ⟨rt,ex,mn,mx,s,a,?_,c⟩
 grind
theorem Q3V.mono {G:Geo} {Ro t rides:LL} (h:Q3V G Ro rides):Q3V G (Ro++t) rides:=by
 rcases h with ⟨r,x,y,e,h⟩ | ⟨r,r',x,y,z,e,h,h'⟩
 ·exact .inl ⟨r,x,y,e,h.mono⟩
 ·exact .inr ⟨r,r',x,y,z,e,h.mono,h'.mono⟩
theorem Qba.mono {G:Geo} {Ro t:LL} {k:Nat} {row:List D} (h:Qba G Ro k row):Qba G (Ro++t) k row:=by
 obtain ⟨w,rides,a,h2,b,c⟩:=h;exact ⟨w,rides,a,h2,b,c.mono⟩
section
variable {R:Type} {l:List Int} (hl:l.length<=9223372036854775807) {P:R->Prop}
include hl
def atL (At:Nat->Nat):LL:=[[Ql (At 0)],[Ql (At 1)],[Ql (At 2)]]
theorem Qj7 {i:Nat} (hi:i<=l.length) {k0:Int->Bool->LL->Int->oP R}
  (H:∀ (At:Nat->Nat) (j:Nat),(∀ i,At i<2)->j<=l.length->k0 3 false (atL At) (j:Int)∈P) :
  Wy 400 (encI l) k0 400 (0:Int) [[D.int .i64 (0:Int)],[D.int .i64 (0:Int)],[D.int .i64 (0:Int)]] (i:Int)∈P:=by
 refine J2 hl hi Q1 Q1 fun d j a0 b0 hj=>?_
 refine J2 hl hj Q1 Q1 fun e j a1 b1 hj=>?_
 refine J2 hl hj Q1 Q1 fun f j a2 b2 hj=>?_
 obtain ⟨a,rfl⟩:=Qpo a0;obtain ⟨b,rfl⟩:=Qpo a1;obtain ⟨c,rfl⟩:=Qpo a2;exact H (fun | 0=>a | 1=>b | _=>c) j (fun | 0=>by grind | 1=>by grind | _+2=>by grind) hj
end
theorem atA {R:Type} {At:Nat->Nat} {g:Nat} (hg:g<3) (K:Int->oP R) :
  gb true (inB 3 (g:Int)) () (fun _=>gb true ((atL At)[(Int.toNat (g:Int))]?) [] fun r=>gb true (r[0]?) oF fun c=>gb true (pIw c) 0 fun i=>K i)=K (At g):=by
 obtain rfl | rfl | rfl:g=0\/g=1\/g=2:=Q0
 all_goals rfl
section
variable {R:Type} {l:List Int} (hl:l.length<=9223372036854775807) {P:R->Prop} {G:Geo} (hG:G.OK)
include hl hG
theorem Qdb {up:Bool} {ac h g m:Nat} {acc Ro:LL} {At:Nat->Nat} (ak:∀ i,At i<2) (hm:ac<=2) (hh:h<ac) (hg:g=bif up then h else ac-1-h) (hN:ac<G.N) (hR:Ro.length<=100) (ha:acc.length<=10)
  {i:Nat} (hi:i<=l.length) {k0:Int->Bool->LL->LL->Int->oP R}
  (H:∀ (s:LL) (ex mn mx:Int) (j:Nat),RtOK G s (bif up then G.tk g (At g) else G.tk (g+1) (At (g+1))) (bif up then G.tk (g+1) (At (g+1)) else G.tk g (At g))->0<=ex/\ex<3->(0<=mn/\mn<=mx/\mx<=mn+3/\mn<=10)->(h+1=ac->mn=0/\mx=0)->j<=l.length ->
   QR 400 up (ac:Int) (atL At) G.Tr G.Bt (encI l) k0 m ((h+1:Nat):Int) (acc++[[Ql (Ro.length:Nat),Ql ex,Ql mn,Ql mx]]) (Ro++[[D.sl 2 s,Ql 0]]) (j:Int)∈P) :
  QR 400 up (ac:Int) (atL At) G.Tr G.Bt (encI l) k0 (m+1) (h:Int) acc Ro (i:Int)∈P:=by
 have ar:=hG.hN;have aw:g<ac:=by
  rw [hg];cases up
  ·show ac-1-h<ac;omega
  ·exact hh
 have ao:g+1<G.N:=Q0
 obtain ⟨s,hs,e⟩:=Qgp (R:=LL×Int) hG (up:=up) ao (ak g) (ak (g+1));have d:wJ ((h:Int)+1)=((h+1:Nat):Int):=by rw [Qn Q0 Q0];omega
 have f:wJ ((g:Int)+1)=((g+1:Nat):Int):=by rw [Qn Q0 Q0];omega
 have k:up=false->wJ (wJ ((ac:Int)-1)-(h:Int))=(g:Int):=by
  intro hu;rw [Qn (x:=(ac:Int)-1) Q0 Q0,Qn Q0 Q0];simp [hu] at hg;omega
 have aj:wJ ((((Ro++[[D.sl 2 s,Ql 0]]).length:Nat):Int)-1)=(Ro.length:Int):=by
  rw [show (Ro++[[D.sl 2 s,Ql 0]]).length=Ro.length+1 by simp,Qn Q0 Q0];omega
 rw [QR,Xh Q3,d];cases up
 ·rw [Xh (c:=!false) rfl,k rfl,f,atA Q0,atA Q0,e,Qh,XJ Q3,Qh];refine J2 hl hi Q1 Q1 fun ex j a b hj=>?_
  dsimp only;rw [aj];by_cases hlast:h+1<ac
  ·rw [Xh Q3];refine J2 hl hj Q1 Q1 fun mn j n o hj=>?_
   refine J2 hl hj Q1 Q1 fun mx j p q hj=>?_
   rw [XJ Q3,Qh];dsimp only;rw [Qn (x:=5+mn) Q0 Q0,Qn (x:=5+mn+mx) Q0 Q0];exact H s ex (5+mn) (5+mn+mx) j hs ⟨a,b⟩ ⟨Q0,Q0,Q0,Q0⟩ (fun hx=>absurd hx Q0) hj
  ·rw [Qr Q3,XJ Q3,Qh];exact H s ex 0 0 j hs ⟨a,b⟩ ⟨Q0,Q0,Q0,Q0⟩ (fun hx=>⟨rfl,rfl⟩) hj
 ·have aq:g=h:=by simpa using hg
  subst aq;rw [Qr (c:=!true) rfl,atA Q0,atA Q0,e,Qh,XJ Q3,Qh];refine J2 hl hi Q1 Q1 fun ex j a b hj=>?_
  dsimp only;rw [aj];by_cases hlast:g+1<ac
  ·rw [Xh Q3];refine J2 hl hj Q1 Q1 fun mn j n o hj=>?_
   refine J2 hl hj Q1 Q1 fun mx j p q hj=>?_
   rw [XJ Q3,Qh];dsimp only;rw [Qn (x:=5+mn) Q0 Q0,Qn (x:=5+mn+mx) Q0 Q0];exact H s ex (5+mn) (5+mn+mx) j hs ⟨a,b⟩ ⟨Q0,Q0,Q0,Q0⟩ (fun hx=>absurd hx Q0) hj
  ·rw [Qr Q3,XJ Q3,Qh];exact H s ex 0 0 j hs ⟨a,b⟩ ⟨Q0,Q0,Q0,Q0⟩ (fun hx=>⟨rfl,rfl⟩) hj
omit hl hG in
theorem Q7u {n m:Nat} {f:Bool} {b a:Int} {g i j k c d:LL} {e:Int} {k0:Int->Bool->LL->LL->Int->oP R} (h:¬ a<b) :
  QR n f b g i j k k0 (m+1) a c d e=k0 a false c d e:=by
 rw [QR,Qr (by simpa using h)];simp [h]
theorem QhN {up:Bool} {ak:Nat} {Ro Ls:LL} (hm:ak=1\/ak=2) (hN:ak<G.N) (ac:GoodP G Ro Ls) (hR:Ro.length<=20) (hL:Ls.length<6)
  {i:Nat} (hi:i<=l.length) {K:Int->LL->LL->oP R}
  (H:∀ (Ro' Ls':LL) (j:Nat),GoodP G Ro' Ls'->Ls'.length=Ls.length+1->Ro'.length<=Ro.length+2->j<=l.length->K (j:Int) Ro' Ls'∈P) :
  Vg 400 G.Tr G.Bt (encI l) (i:Int) Ro Ls up (ak:Int) K∈P:=by
 unfold Vg;rw [BK _ _ Ls.length Q0 Q1,Qh];refine J2 hl hi Q1 Q1 fun w j w0 c hj=>?_
 dsimp only;refine Qj7 hl hj fun At j ar hj=>?_
 rcases hm with rfl | rfl
 ·refine Qdb hl hG (h:=0) (g:=0) ar Q1 Q1 Q4 hN Q0 Q1 hj fun s ex mn mx j hs aq ao hlast hj=>?_
  rw [Q7u Q1];rw [XJ Q3,Qh];refine H _ _ j ⟨fun row hr=>?_,fun k row hk=>?_⟩ Q2 Q2 hj
  ·rcases Qpr.1 hr with hr | hr
   ·exact ac.ro row hr
   grind
  ·rcases Nat.lt_or_ge k Ls.length with aj | aj
   ·rw [List.getElem?_append_left aj] at hk;exact (ac.ls k row hk).mono
   ·rw [List.getElem?_append_right aj] at hk;obtain ⟨a,rfl⟩:=Qpe.1 hk;simp at a;have b:k=Ls.length:=Q0
    subst b;refine ⟨w,_,by simp [nmN],w0,c,.inl ⟨_,_,_,rfl,Ro.length,ex,mn,mx,s,rfl,by simp,hs,aq,ao,fun _=>hlast rfl⟩⟩
 ·obtain ⟨g0,d⟩:∃ g0,g0=bif up then 0 else 1:=⟨_,rfl⟩
  obtain ⟨g1,e⟩:∃ g1,g1=bif up then 1 else 0:=⟨_,rfl⟩
  refine Qdb hl hG (h:=0) (g:=g0) ar Q1 Q1 (by cases up <;> simpa using d) hN Q0 Q1 hj fun s ex mn mx j hs aq ao hlast hj=>?_
  refine Qdb hl hG (h:=1) (g:=g1) ar Q1 Q1 (by cases up <;> simpa using e) hN Q3 Q2 hj fun s' az a2 a3 j aw ax au an hj=>?_
  have ay:(bif up then G.tk (g0+1) (At (g0+1)) else G.tk g0 (At g0))=(bif up then G.tk g1 (At g1) else G.tk (g1+1) (At (g1+1))):=by
   subst d e;cases up <;> rfl
  rw [ay] at hs;rw [Q7u Q1];rw [XJ Q3,Qh];refine H _ _ j ⟨fun row hr=>?_,fun k row hk=>?_⟩ Q2 Q2 hj
  ·rcases Qpr.1 hr with hr | hr
   ·rcases Qpr.1 hr with hr | hr
    ·exact ac.ro row hr
    ·rw [List.mem_singleton.1 hr];exact ⟨s,_,_,rfl,hs⟩
   ·rw [List.mem_singleton.1 hr];exact ⟨s',_,_,rfl,aw⟩
  ·rcases Nat.lt_or_ge k Ls.length with aj | aj
   ·rw [List.getElem?_append_left aj] at hk;exact (ac.ls k row hk).mono.mono
   ·rw [List.getElem?_append_right aj] at hk;obtain ⟨a,rfl⟩:=Qpe.1 hk;simp at a;have b:k=Ls.length:=Q0
    subst b;refine ⟨w,_,by simp [nmN],w0,c,.inr ⟨_,_,_,_,_,rfl,Py.mono ⟨Ro.length,ex,mn,mx,s,rfl,by simp,hs,aq,ao,fun h=>by cases h⟩,(Ro++[[D.sl 2 s,Ql 0]]).length,az,a2,a3,s',rfl,by simp,aw,ax,au,fun _=>an rfl⟩⟩
end
def P0 (Ls:LL) (k i:Nat) (r:List D):Prop:=∃ nm w rides,Ls[k]? = some [D.str nm,Ql 0,Ql w,D.sl 4 rides]/\rides[i]? = some r
theorem Qq (w:LL) (i:Nat):Qi w (i:Int)=w[i]?:=by simp [Qi]
section
variable {R:Type} {n:Nat}
theorem QcB {G:Geo} {Ro Ls:LL} {k i:Nat} {r:List D} {x y:Int} {b:Bool} (h:P0 Ls k i r) (hr:Py G Ro r x y b) {p:Int} {a1 a c e f:LL} (K:Int->oP R):SA n p a1 Ro Ls a c e f (k:Int) (i:Int) K=K x:=by
 obtain ⟨nm,w,rides,j,h2⟩:=h;obtain ⟨rt,ex,mn,mx,s,rfl,l,g,_⟩:=hr;obtain ⟨d,m⟩:=g.fst
 simp_all [SA,Qq,Qh,Qp6,Qp7,QN,Qj]
theorem Qfh {G:Geo} {Ro Ls:LL} {k i:Nat} {r:List D} {x y:Int} {b:Bool} (h:P0 Ls k i r) (hr:Py G Ro r x y b) {p:Int} {a1 c e f g:LL} (K:Int->oP R):Mo n p a1 Ro Ls c e f g (k:Int) (i:Int) K=K y:=by
 obtain ⟨nm,w,rides,j,h2⟩:=h;obtain ⟨rt,ex,mn,mx,s,rfl,l,a,_⟩:=hr;obtain ⟨d,m⟩:=a.lst;have l2:=a.l2;have l24:=a.l24;unfold Mo;rw [Qq,j,Qh];dsimp only [List.getElem?_cons_zero,List.getElem?_cons_succ];rw [Qh,QN,Qh,Qq,h2,Qh];dsimp only [List.getElem?_cons_zero,List.getElem?_cons_succ];rw [Qh,Qj,Qh,Qq,l,Qh];dsimp only [List.getElem?_cons_zero,List.getElem?_cons_succ];rw [Qh,Qh,QN,Qh,Qh,Qn Q0 Q0,m];rfl
end
theorem Q6Q {G:Geo} {Ro Ls:LL} (hg:GoodP G Ro Ls) {k:Nat} (hk:k<Ls.length) :
  ∃ (w:Int) (rides:LL) (r r':List D) (x x' y y':Int) (b:Bool),Ls[k]? = some [D.str (nmN k),Ql 0,Ql w,D.sl 4 rides]/\(rides.length=1\/rides.length=2)/\rides[0]? = some r/\rides[rides.length-1]? = some r'/\Py G Ro r x y b/\Py G Ro r' x' y' true:=by
 obtain ⟨w,rides,c,h2,d,a⟩:=hg.ls k _ (Qpb hk);refine ⟨w,rides,?_⟩;rcases a with ⟨r,x,y,rfl,h⟩ | ⟨r,r',x,y,z,rfl,h,h'⟩
 all_goals grind
abbrev Tup:=Nat×Nat×Int×Int
def tuR (t:Tup):List D:=[Ql t.1,Ql t.2.1,Ql t.2.2.1,Ql t.2.2.2]
def Qad (G:Geo) (Ro Ls:LL) (t:Tup):Prop:=
 t.1<Ls.length/\t.2.1<Ls.length/\10<=t.2.2.1/\t.2.2.1<=19/\t.2.2.1<=t.2.2.2/\t.2.2.2<=t.2.2.1+29 /\
 ∃ (nm:List UInt8) (w:Int) (rides:LL) (r r':List D) (x y z:Int) (b b':Bool),Ls[t.1]? = some [D.str nm,Ql 0,Ql w,D.sl 4 rides]/\rides[rides.length-1]? = some r/\1<=rides.length/\rides.length<=2/\P0 Ls t.2.1 0 r'/\Py G Ro r x y b/\Py G Ro r' y z b'
structure TInv (G:Geo) (Ro Ls:LL) (T:List Tup) (FA TA:LL):Prop where
 ok:∀ t∈T,Qad G Ro Ls t
 fd:(T.map (·.1)).Nodup
 td:(T.map (·.2.1)).Nodup
 fl:∀ i,i<4->∃ b,FA[i]? = some [D.bool b]/\(b=false->i ∉ T.map (·.1))
 tl:∀ i,i<4->∃ b,TA[i]? = some [D.bool b]/\(b=false->i ∉ T.map (·.2.1))
theorem gbF {α R:Type} (p:oP α) (z:α) (k:α->oP R):gb false p z k=k (p.getD z):=by cases p <;> rfl
theorem TInv.add {G:Geo} {Ro Ls:LL} {T:List Tup} {FA TA:LL} (h:TInv G Ro Ls T FA TA) {t:Tup} (ht:Qad G Ro Ls t) (d:t.1 ∉ T.map (·.1)) (h2:t.2.1 ∉ T.map (·.2.1)):TInv G Ro Ls (T++[t]) (FA.set t.1 [D.bool true]) (TA.set t.2.1 [D.bool true]) where
 ok:=fun u hu=>by
  rcases Qpr.1 hu with hu | hu
  ·exact h.ok u hu
  simp_all
 fd:=by
  rw [Qpw,List.nodup_append];refine ⟨h.fd,by simp,fun a ha b hb=>?_⟩
  grind
 td:=by
  rw [Qpw,List.nodup_append];refine ⟨h.td,by simp,fun a ha b hb=>?_⟩;simp at hb;subst hb;intro e;subst e;exact h2 ha
 fl:=fun i hi=>by
  obtain ⟨b,e,hb⟩:=h.fl i hi;by_cases ac:t.1=i
  ·subst ac;refine ⟨true,?_,fun h=>by cases h⟩;rw [List.getElem?_set_self (Qpe.1 e).1]
  ·refine ⟨b,by rw [List.getElem?_set_ne ac];exact e,fun c hm=>?_⟩;rw [Qpw] at hm;rcases Qpr.1 hm with hm | hm
   ·exact hb c hm
   ·simp at hm;exact ac hm.symm
 tl:=fun i hi=>by
  obtain ⟨b,e,hb⟩:=h.tl i hi;by_cases ac:t.2.1=i
  ·subst ac;refine ⟨true,?_,fun h=>by cases h⟩;rw [List.getElem?_set_self (Qpe.1 e).1]
  ·refine ⟨b,by rw [List.getElem?_set_ne ac];exact e,fun c hm=>?_⟩;rw [Qpw] at hm;rcases Qpr.1 hm with hm | hm
   ·exact hb c hm
   ·simp at hm;exact ac hm.symm
section
variable {R:Type} {l:List Int} (hl:l.length<=9223372036854775807) {P:R->Prop} {G:Geo} {Ro Ls:LL} (hg:GoodP G Ro Ls) (hL:Ls.length<=3)
include hl hg hL
theorem QgP {a b m:Nat} {b1:Int} {FA TA c d e f:LL} {T:List Tup} (ha:a<Ls.length) (hb:b<Ls.length) (hT:TInv G Ro Ls T FA TA) (a5:T.length<=100) {i:Nat} (hi:i<=l.length) {k0:Int->Bool->LL->LL->LL->Int->oP R}
  (H:∀ (FA TA:LL) (T':List Tup) (j:Nat),TInv G Ro Ls T' FA TA->T'.length<=T.length+1->j<=l.length->YK 400 (a:Int) (Ls.length:Int) c Ro Ls d e f (encI l) b1 k0 m ((b+1:Nat):Int) FA TA (T'.map tuR) (j:Int)∈P) :
  YK 400 (a:Int) (Ls.length:Int) c Ro Ls d e f (encI l) b1 k0 (m+1) (b:Int) FA TA (T.map tuR) (i:Int)∈P:=by
 have ax:wJ ((b:Int)+1)=((b+1:Nat):Int):=by rw [Qn Q0 Q0];omega
 rw [YK,Xh Q3,ax];refine J2 hl hi Q1 Q1 fun v j s u hj=>?_
 dsimp only;have ac:=H FA TA T j hT Q0 hj;by_cases hv:v=0
 ·subst hv;rw [show decide ((0:Int)>0)=false from rfl];simp only [gbF,Qp9];exact ac
 rw [show decide (v>0)=true by simp;omega];obtain ⟨fb,ef,hf⟩:=hT.fl a Q0;obtain ⟨tb,et,ht⟩:=hT.tl b Q0;rw [Yh Q0 Q0,Qh,Qp8,ef,Qh];show gb true (some (D.bool fb)) _ (fun n=>gb true (Gp n) _ _)∈P;rw [Qh,show Gp (D.bool fb)=some fb from rfl,Qh];cases fb
 case true=>
  simp only [gbF,Qpd,Qp9,Qpa];exact ac
 rw [show (bif true then !false else false)=true from rfl,Yh Q0 Q0,Qh,Qp8,et,Qh];show gb true (some (D.bool tb)) _ (fun o=>gb true (Gp o) _ _)∈P;rw [Qh,show Gp (D.bool tb)=some tb from rfl,Qh];cases tb
 case true=>
  simp only [gbF,Qpd,Qp9,Qpa];exact ac
 obtain ⟨w,rides,z,r,x0,x,y0,y,b0,e1,e2,e3,g,e5,h⟩:=Q6Q hg ha;obtain ⟨w',ao,r',r1,x',x1,y',y1,a8,g1,g2,p,g4,k,g6⟩:=Q6Q hg hb;have aw:P0 Ls a (rides.length-1) r:=⟨_,_,_,e1,g⟩;have an:P0 Ls b 0 r':=⟨_,_,_,g1,p⟩;have az:wJ ((rides.length:Int)-1)=((rides.length-1:Nat):Int):=by rw [Qn Q0 Q0];omega
 rw [show (bif true then !false else false)=true from rfl,Yh Q0 Q0,Qh,e1,Qh];show gb true (some (D.sl 4 rides)) _ (fun q=>gb true (pSl 4 q) _ _)∈P;rw [Qh,QN,Qh,az,Qfh aw h,Qh,show (0:Int)=((0:Nat):Int) from rfl,QcB an k,Qh];by_cases ak:y=x'
 case neg=>
  rw [Qr (by simpa using ak)];exact ac
 subst ak;rw [Xh Q2,Qh,Qh,Qh,Qh];refine J2 hl hj Q1 Q1 fun lo j l0 l1 hj=>?_
 refine J2 hl hj Q1 Q1 fun aj j h0 h1 hj=>?_
 dsimp only;rw [XJ Q3,Qh,Qn (x:=10+lo) Q0 Q0,Qn (x:=10+lo+aj) Q0 Q0];have:=H _ _ (T++[(a,b,10+lo,10+lo+aj)]) j (hT.add (t:=(a,b,10+lo,10+lo+aj)) ⟨ha,hb,by simp;omega,by simp;omega,by simp;omega,by simp;omega,_,_,_,_,_,_,_,_,_,_,e1,g,Q0,Q0,an,h,k⟩ (hf rfl) (ht rfl)) Q2 hj;rw [Qpw] at this;exact this
theorem QcD {a:Nat} {b1:Int} {c d e f:LL} (ha:a<Ls.length) {k0:Int->Bool->LL->LL->LL->Int->oP R}:∀ (k m b:Nat) (FA TA:LL) (T:List Tup) (i:Nat),b+k=Ls.length->k<m->TInv G Ro Ls T FA TA->T.length+k<=60->i<=l.length ->
  (∀ (FA TA:LL) (T':List Tup) (j:Nat),TInv G Ro Ls T' FA TA->T'.length<=T.length+k->j<=l.length->k0 (Ls.length:Int) false FA TA (T'.map tuR) (j:Int)∈P) ->
  YK 400 (a:Int) (Ls.length:Int) c Ro Ls d e f (encI l) b1 k0 m (b:Int) FA TA (T.map tuR) (i:Int)∈P
 |0,m+1,b,FA,TA,T,i,hb,_,hT,ak,hi,H=>by
  subst hb;rw [YK,Qr Q2,show decide ((Ls.length:Int)<(Ls.length:Int))=false by simp]
  simp_all
 |k+1,m+1,b,FA,TA,T,i,hb,hm,hT,ak,hi,H=>by
  refine QgP hl hg hL ha Q0 hT Q0 hi fun FA TA T' j an aq hj=>?_
  exact QcD ha k m (b+1) FA TA T' j Q0 Q0 an Q0 hj fun FA TA T'' j ac aj hj=>H FA TA T'' j ac Q0 hj
theorem Qcj {b1:Int} {b c d e:LL} {k0:Int->Bool->LL->LL->LL->Int->oP R}:∀ (k m a:Nat) (FA TA:LL) (T:List Tup) (i:Nat),a+k=Ls.length->k<m->TInv G Ro Ls T FA TA->T.length+3*k<=50->i<=l.length ->
  (∀ (FA TA:LL) (T':List Tup) (j:Nat),TInv G Ro Ls T' FA TA->T'.length<=T.length+3*k->j<=l.length->k0 (Ls.length:Int) false FA TA (T'.map tuR) (j:Int)∈P) ->
  Uv 400 (Ls.length:Int) b Ro Ls c d e (encI l) b1 k0 m (a:Int) FA TA (T.map tuR) (i:Int)∈P
 |0,m+1,a,FA,TA,T,i,hb,_,hT,ak,hi,H=>by
  subst hb;rw [Uv,Qr Q2,show decide ((Ls.length:Int)<(Ls.length:Int))=false by simp]
  simp_all
 |k+1,m+1,a,FA,TA,T,i,hb,hm,hT,ak,hi,H=>by
  rw [Uv,Xh Q3];refine QcD hl hg hL Q0 Ls.length 400 0 FA TA T i Q0 Q0 hT Q0 hi fun FA TA T' j an aq hj=>?_
  rw [show wJ ((a:Int)+1)=((a+1:Nat):Int) by grind [Qn]];exact Qcj k m (a+1) FA TA T' j Q0 Q0 an Q0 hj fun FA TA T'' j ac aj hj=>H FA TA T'' j ac Q0 hj
theorem QgH {b1:Int} {a b c d:LL} {i:Nat} (hi:i<=l.length) {K:Int->LL->oP R}
  (H:∀ (T:List Tup) (j:Nat),(∀ t∈T,Qad G Ro Ls t)->(T.map (·.1)).Nodup->(T.map (·.2.1)).Nodup->T.length<=20->j<=l.length->K (j:Int) (T.map tuR)∈P) :
  N2 400 (encI l) (i:Int) b1 a Ro Ls b [] c d K∈P:=by
 refine Qcj hl hg hL (T:=[]) Ls.length 400 0 _ _ i Q0 Q0 ⟨by simp,by simp,by simp,?_,?_⟩ Q3 hi fun FA TA T j hT aj hj=>?_
 ·intro i hi;obtain rfl | rfl | rfl | rfl:i=0\/i=1\/i=2\/i=3:=Q0
  all_goals simp
 ·intro i hi;obtain rfl | rfl | rfl | rfl:i=0\/i=1\/i=2\/i=3:=Q0
  all_goals simp_all
 ·exact H T j hT.ok hT.fd hT.td (by grind) hj
end
theorem Hq {w:LL} {x:Int} {r:List D} (h:Qi w x=some r):inB w.length x=some ()/\w[x.toNat]? = some r:=by
 grind [Qi,List.getElem?_eq_some_iff,Yh]
def Q6r (G:Geo) (per:Int) (Ro Ls:LL) (row:List D):Prop:=
 ∃ (f fr t tr:Nat) (mn mx w:Int) (r r':List D) (x y x' y':Int) (b b':Bool) (i:Int),row=[Ql f,Ql fr,Ql t,Ql tr,Ql mn,Ql mx,Ql w]/\P0 Ls f fr r/\P0 Ls t tr r'/\Py G Ro r x y b/\Py G Ro r' x' y' b'/\f≠t/\(0<=mn/\mn<20/\mn<=mx/\mx<mn+per)/\(0<=w/\w<3) /\
  (∃ nm a c d,Qi G.Se y=some [D.str nm,Ql a,Ql c,Ql d,Ql i])/\(∃ nm a c d,Qi G.Se x'=some [D.str nm,Ql a,Ql c,Ql d,Ql i])/\0<=i
def QhX (per:Int) (Ls:LL) (row:List D):Prop:=∃ o:Int,row=[Ql 0,Ql 0,Ql 1,Ql 0,Ql o]/\0<=o/\o<per/\2<=Ls.length
def Qi5 (N:Nat) (row:List D):Prop:=∃ f t w:Int,row=[Ql f,Ql t,Ql w]/\(0<=f/\f<N)/\(0<=t/\t<N)/\f≠t/\1<=w/\w<=9
def Q1z (Sk:LL):Prop:=∃ a b c d:Int,Sk=[[D.str (bs [88]),Ql a,Ql b,Ql c,Ql d]]/\StkN a b c d
structure PlanR (G:Geo) (per:Int) (Sk Ro Ls Ch Tu Sy De:LL):Prop where
 ok:G.OK
 p0:90<=per
 p1:per<=300
 sk:Q1z Sk
 good:GoodP G Ro Ls
 l0:1<=Ls.length
 l1:Ls.length<=3
 rl:Ro.length<=6
 ch:∀ row∈Ch,Q6r G per Ro Ls row
 chl:Ch.length<=2
 tu:∃ T:List Tup,Tu=T.map tuR/\(∀ t∈T,Qad G Ro Ls t)/\(T.map (·.1)).Nodup/\(T.map (·.2.1)).Nodup/\T.length<=20
 sy:∀ row∈Sy,QhX per Ls row
 syl:Sy.length<=1
 de:∀ row∈De,Qi5 G.N row
 del:De.length<=2
theorem Qjn {pl:LL} (hp:pl=[[D.int .i64 (150:Int)],[D.int .i64 (120:Int)],[D.int .i64 (180:Int)],[D.int .i64 (240:Int)],[D.int .i64 (300:Int)],[D.int .i64 (90:Int)]]) {v:Int} (a:0<=v) (b:v<6) :
  ∃ per:Int,90<=per/\per<=300/\∀ {R:Type} (K:Int->oP R),gb true (inB (List.length pl) v) () (fun _=>gb true (pl[(Int.toNat v)]?) [] fun r=>gb true (r[0]?) oF fun c=>gb true (pIw c) 0 fun i=>K i)=K per:=by
 subst hp;obtain rfl | rfl | rfl | rfl | rfl | rfl:v=0\/v=1\/v=2\/v=3\/v=4\/v=5:=Q0
 ·exact ⟨150,Q0,Q0,fun K=>rfl⟩
 ·exact ⟨120,Q0,Q0,fun K=>rfl⟩
 ·exact ⟨180,Q0,Q0,fun K=>rfl⟩
 ·exact ⟨240,Q0,Q0,fun K=>rfl⟩
 ·exact ⟨300,Q0,Q0,fun K=>rfl⟩
 ·exact ⟨90,Q0,Q0,fun K=>rfl⟩
theorem Cn {G:Geo} {Ro Ls:LL} (hg:GoodP G Ro Ls) {k:Nat} (hk:k<Ls.length):∃ (w:Int) (rides:LL),Ls[k]? = some [D.str (nmN k),Ql 0,Ql w,D.sl 4 rides]/\(rides.length=1\/rides.length=2)/\∀ i,i<rides.length->∃ r x y b,P0 Ls k i r/\Py G Ro r x y b:=by
 obtain ⟨w,rides,c,h2,d,a⟩:=hg.ls k _ (Qpb hk);have he:Ls[k]? = some [D.str (nmN k),Ql 0,Ql w,D.sl 4 rides]:=by simp_all
 refine ⟨w,rides,he,?_⟩;rcases a with ⟨r,x,y,rfl,h⟩ | ⟨r,r',x,y,z,rfl,h,h'⟩
 ·refine ⟨.inl rfl,fun i hi=>?_⟩;have hi:i=0:=by simp_all
  subst hi;exact ⟨r,x,y,true,⟨_,_,_,he,rfl⟩,h⟩
 ·refine ⟨.inr rfl,fun i hi=>?_⟩;obtain rfl | rfl:i=0\/i=1:=by grind
  ·exact ⟨r,x,y,false,⟨_,_,_,he,rfl⟩,h⟩
  ·exact ⟨r',y,z,true,⟨_,_,_,he,rfl⟩,h'⟩
section
variable {R:Type} {l:List Int} (hl:l.length<=9223372036854775807) {P:R->Prop} {G:Geo} (hG:G.OK)
include hl hG
theorem Q3L {k0:Int->Bool->Int->LL->LL->oP R}:∀ (c m:Nat) (Ro Ls:LL) (i:Nat),c<m->Ls.length+c<=3->Ro.length<=2*Ls.length->GoodP G Ro Ls->i<=l.length ->
  (∀ (Ro' Ls':LL) (j:Nat),GoodP G Ro' Ls'->Ls'.length=Ls.length+c->Ro'.length<=2*Ls'.length->j<=l.length->k0 0 false (j:Int) Ro' Ls'∈P) ->
  Gx 400 (encI l) G.Tr G.Bt k0 m (c:Int) (i:Int) Ro Ls∈P
 |0,m+1,Ro,Ls,i,_,_,hR,hg,hi,H=>by
  rw [Gx];rw [Qr Q2,show decide (((0:Nat):Int)>0)=false by simp];exact H Ro Ls i hg rfl hR hi
 |c+1,m+1,Ro,Ls,i,hm,hL,hR,hg,hi,H=>by
  have hN:=hG.hN;have hb:=hG.btl;rw [Gx];rw [Xh Q2];refine J2 hl hi Q1 Q1 fun v j a b hj=>?_
  dsimp only;refine J2 hl hj Q0 Q0 fun d j g0 g1 hj=>?_
  dsimp only;obtain ⟨nv,rfl⟩:=Qpo g0;rw [Qn (x:=1+(nv:Int)) Q0 Q0,show (1:Int)+(nv:Int)=((1+nv:Nat):Int) by omega];refine okB (QhN hl hG Q0 Q0 hg Q0 Q0 hj fun Ro' Ls' j an au ar hj=>okI ?_);dsimp only;rw [show wJ (((c+1:Nat):Int)-1)=(c:Int) by rw [Qn Q0 Q0];omega];exact Q3L c m Ro' Ls' j Q0 Q0 Q0 an hj fun Ro'' Ls'' j ac aq aj hj=>H Ro'' Ls'' j ac Q0 aj hj
omit hG in
theorem LQ {per:Int} {Ro Ls k n:LL} (d:90<=per) (e:per<=300) (hg:GoodP G Ro Ls) (hL:Ls.length<=3) {k0:Int->Bool->Int->LL->oP R}:∀ (c m:Nat) (Ch:LL) (i:Nat),c<m->Ch.length+c<=2->(∀ row∈Ch,Q6r G per Ro Ls row)->i<=l.length ->
  (∀ (h:Int) (b:Bool) (Ch:LL) (j:Nat),(∀ row∈Ch,Q6r G per Ro Ls row)->Ch.length<=2->j<=l.length->k0 h b (j:Int) Ch∈P) ->
  Jr 400 per (encI l) k Ro Ls G.Se n k0 m (c:Int) (i:Int) Ch∈P
 |0,m+1,Ch,i,_,a3,hC,hi,H=>by
  grind [Jr]
 |c+1,m+1,Ch,i,hm,a3,hC,hi,H=>by
  rw [Jr];rw [show decide (((c+1:Nat):Int)>0)=true by simp,Qpa];by_cases o:Ls.length<=1
  ·rw [show decide ((Ls.length:Int)>1)=false by simp;omega,Qp9];exact H _ _ Ch i hC Q0 hi
  rw [show decide ((Ls.length:Int)>1)=true by simp;omega,Qpa];refine J2 hl hi Q0 Q0 fun v j p o hj=>?_
  refine J2 hl hj Q1 Q1 fun w j w0 q hj=>?_
  dsimp only;obtain ⟨f,rfl⟩:=Qpo p;have hf:f<Ls.length:=Q0
  obtain ⟨t,et,ht,a4⟩:∃ t:Nat,Int.tmod (wJ ((f:Int)+1)) (Ls.length:Int)=(t:Int)/\t<Ls.length/\f≠t:=by
   rw [Qn Q0 Q0,Qpq Q0];refine ⟨(f+1) % Ls.length,by simp,Nat.mod_lt _ Q0,?_⟩;by_cases h:f+1<Ls.length
   ·rw [Nat.mod_eq_of_lt h];omega
   ·rw [show f+1=Ls.length by omega,Nat.mod_self];omega
  rw [et];obtain ⟨w2,rides,e1,e2,s⟩:=Cn hg hf;obtain ⟨bg,aw,a5,a7,ax⟩:=Cn hg ht;rw [EC Q0,Qh,Yh Q0 Q0,Qh,Qp8,e1,Qh];dsimp only [List.getElem?_cons_zero,List.getElem?_cons_succ];rw [Qh,QN,Qh];refine J2 hl hj Q0 Q0 fun fr j a0 a1 hj=>?_
  dsimp only;rw [Yh Q0 Q0,Qh,Qp8,a5,Qh];dsimp only [List.getElem?_cons_zero,List.getElem?_cons_succ];rw [Qh,QN,Qh];refine J2 hl hj Q0 Q0 fun tr j b0 b1 hj=>?_
  refine J2 hl hj Q1 Q1 fun mn j c0 c1 hj=>?_
  dsimp only;refine J2 hl hj Q0 Q0 fun mx j d0 d1 hj=>?_
  dsimp only;obtain ⟨fr,rfl⟩:=Qpo a0;obtain ⟨tr,rfl⟩:=Qpo b0;obtain ⟨r,x,y,b,hr,hR⟩:=s fr Q0;obtain ⟨r',x',y',b',ak,an⟩:=ax tr Q0;have ao:=hR;have aj:=an;obtain ⟨_,_,_,_,_,_,_,hS,_⟩:=hR;obtain ⟨_,_,_,_,_,_,_,az,_⟩:=an;obtain ⟨ab,a1,c1,d1,g,g1,u⟩:=hS.sy;obtain ⟨ac,a2,c2,d2,z,a,g4⟩:=az.sx;rw [Qfh hr ao,Qh,(Hq g1).1,Qh,(Hq g1).2,Qh];dsimp only [List.getElem?_cons_zero,List.getElem?_cons_succ];rw [Qh,Qj,Qh,QcB ak aj,Qh,(Hq a).1,Qh,(Hq a).2,Qh];dsimp only [List.getElem?_cons_zero,List.getElem?_cons_succ];rw [Qh,Qj,Qh];have ay:wJ (((c+1:Nat):Int)-1)=(c:Int):=by rw [Qn Q0 Q0];omega
  rw [ay];by_cases ar:g=z
  ·subst ar;rw [Xh Q2,XJ Q3,Qh,Qn (x:=mn+mx) Q0 Q0];refine LQ d e hg hL c m _ j Q0 Q3 (fun row aq=>?_) hj H;rcases Qpr.1 aq with h | h
   ·exact hC row h
   ·rw [List.mem_singleton.1 h];exact ⟨f,fr,t,tr,mn,mn+mx,w,r,r',x,y,x',y',b,b',g,rfl,hr,ak,ao,aj,a4,⟨Q0,Q0,Q0,Q0⟩,⟨w0,q⟩,⟨_,_,_,_,g1⟩,⟨_,_,_,_,a⟩,u.1⟩
  ·rw [Qr (by simpa using ar)];exact LQ d e hg hL c m _ j Q0 Q0 hC hj H
omit hl hG in
theorem Qjt {N:Nat} (hN:N=2\/N=3) {f v:Int} (a:0<=f) (b:f<N) (g0:0<=v) (g1:v<N-1):∃ t:Int,Int.tmod (wJ ((wJ (f+1))+v)) (N:Int)=t/\(0<=t/\t<N)/\f≠t:=by
 rw [Qn (x:=f+1) Q0 Q0,Qn Q0 Q0,Qpq Q0]
 grind
theorem Q2m {k0:Int->Bool->Int->LL->oP R}:∀ (c m:Nat) (De:LL) (i:Nat),c<m->De.length+c<=2->(∀ row∈De,Qi5 G.N row)->i<=l.length ->
  (∀ (h:Int) (b:Bool) (De:LL) (j:Nat),(∀ row∈De,Qi5 G.N row)->De.length<=2->j<=l.length->k0 h b (j:Int) De∈P) ->
  VF 400 (encI l) G.St k0 m (c:Int) (i:Int) De∈P
 |0,m+1,De,i,_,ak,hD,hi,H=>by
  rw [VF];rw [show decide (((0:Nat):Int)>0)=false by simp,Qp9];exact H _ _ De i hD Q0 hi
 |c+1,m+1,De,i,hm,ak,hD,hi,H=>by
  have hN:=hG.hN;rw [VF];rw [show decide (((c+1:Nat):Int)>0)=true by simp,Qpa,hG.st,Qn (x:=(G.N:Int)-1) Q0 Q0];refine J2 hl hi Q0 Q0 fun f j a d hj=>?_
  dsimp only;refine J2 hl hj Q0 Q0 fun v j g0 g1 hj=>?_
  dsimp only;rw [EC Q0,Qh];refine J2 hl hj Q1 Q1 fun w j w0 e hj=>?_
  dsimp only;obtain ⟨t,et,ht,an⟩:=Qjt hN a d g0 g1;rw [XJ Q3,Qh,et,Qn (x:=1+w) Q0 Q0,show wJ (((c+1:Nat):Int)-1)=(c:Int) by rw [Qn Q0 Q0];omega];refine Q2m c m _ j Q0 Q3 (fun row ac=>?_) hj H;rcases Qpr.1 ac with h | h
  ·exact hD row h
  ·rw [List.mem_singleton.1 h];exact ⟨f,t,1+w,rfl,⟨a,d⟩,ht,an,Q0,Q0⟩
omit hl hG in
theorem QeS {n:Nat} {l s:LL} {k0:Int->Bool->Int->LL->oP R}:∀ (m:Nat) (a:Int) (c:Int) (d:LL),HA n l s k0 m a c d=VF n l s k0 m a c d
 |0,_,_,_=>rfl
 |m+1,a,c,d=>by
  rw [HA,VF];simp only [QeS m]
end
theorem Q6B {v:Int} (h:0<=v):∃ n:Nat,v=(n:Int):=Qpo h
theorem Qi6 {R:Type} {l:List Int} (hl:l.length<=9223372036854775807) {P:R->Prop} {K:LL->LL->LL->LL->Int->LL->LL->LL->LL->LL->LL->LL->oP R}
  (H:∀ (G:Geo) (per:Int) (Sk Ro Ls Ch Tu Sy De:LL),PlanR G per Sk Ro Ls Ch Tu Sy De->K G.St G.Pt G.Se G.Li per Sk Ro Ls Ch Tu Sy De∈P):SP 400 (encI l) K∈P:=by
 unfold SP Q09;rw [Qh];dsimp only;refine okB (Qj5 (i:=0) hl (Nat.zero_le _) fun G j hG hj=>okI ?_);dsimp only;refine J2 hl hj Q1 Q1 fun v j f g hj=>?_
 dsimp only;obtain ⟨per,p0,p1,e⟩:=Qjn rfl f g;rw [e];refine J2 hl hj Q1 Q1 fun a j a0 a1 hj=>?_
 refine J2 hl hj Q1 Q1 fun b j b0 b1 hj=>?_
 refine J2 hl hj Q1 Q1 fun c j c0 c1 hj=>?_
 refine J2 hl hj Q1 Q1 fun d j d0 d1 hj=>?_
 refine J2 hl hj Q1 Q1 fun k j k0 k1 hj=>?_
 dsimp only;obtain ⟨k,rfl⟩:=Q6B k0;rw [Qn (x:=1+(k:Int)) Q0 Q0,show (1:Int)+(k:Int)=((k+1:Nat):Int) by omega,Qn (x:=1+a) Q0 Q0,Qn (x:=5000*b) Q0 Q0,Qn (x:=10000+5000*b) Q0 Q0,Qn (x:=200*c) Q0 Q0,Qn (x:=400+200*c) Q0 Q0,Qn (x:=200*d) Q0 Q0,Qn (x:=400+200*d) Q0 Q0];have ac:Q1z [[D.str (bs [88]),D.int .i64 (1+a),D.int .i64 (10000+5000*b),D.int .i64 (400+200*c),D.int .i64 (400+200*d)]]:=⟨_,_,_,_,rfl,Q0,Q0,Q0,Q0,Q0,Q0,Q0,Q0⟩;revert ac;generalize [[D.str (bs [88]),D.int .i64 (1+a),D.int .i64 (10000+5000*b),D.int .i64 (400+200*c),D.int .i64 (400+200*d)]]=Sk;intro ac;refine Q3L hl hG (k+1) 400 [] [] j Q0 Q3 Q2 ⟨(fun row h=>nomatch h),(fun k row h=>nomatch h)⟩ hj fun Ro Ls j hg hL hR hj=>?_
 simp at hL;refine okB (QgH hl hg Q0 hj fun T j an ak ar ao hj=>okI ?_);dsimp only;refine J2 hl hj Q1 Q1 fun k j k0 k1 hj=>?_
 dsimp only;obtain ⟨k,rfl⟩:=Q6B k0;refine LQ hl p0 p1 hg Q0 k 400 [] j Q0 Q3 (fun row h=>nomatch h) hj fun f b0 Ch j hC aq hj=>?_
 refine J2 hl hj Q1 Q1 fun v j f g hj=>?_
 dsimp only;by_cases hv:v=3/\1<Ls.length
 ·obtain ⟨rfl,h2⟩:=hv;rw [show ((3:Int) == 3)=true from rfl,show decide ((Ls.length:Int)>1)=true by simp;omega,Qpa,Qpa];refine J2 hl hj Q0 Q0 fun o j n p hj=>?_
  dsimp only;rw [XJ Q2,Qh];refine J2 hl hj Q1 Q1 fun k j k0 k1 hj=>?_
  dsimp only;obtain ⟨k,rfl⟩:=Q6B k0;refine Q2m hl hG k 400 [] j Q0 Q3 (fun row h=>nomatch h) hj fun f b0 De j hD aj hj=>?_
  refine H G per Sk Ro Ls Ch _ _ De ⟨hG,p0,p1,ac,hg,Q0,Q0,Q0,hC,aq,⟨T,rfl,an,ak,ar,ao⟩,fun row h=>?_,by simp,hD,aj⟩;simp at h;exact ⟨o,h,n,p,h2⟩
 ·rw [show (bif (v == (3:Int)) then (decide (((List.length Ls:Nat):Int)>(1:Int))) else false)=false by
   by_cases m:v=3
   ·rw [show (v == (3:Int))=true by simp [m],Qpa];simp;omega
   ·rw [show (v == (3:Int))=false by simpa using m,Qp9]]
  rw [Qp9];refine J2 hl hj Q1 Q1 fun k j k0 k1 hj=>?_
  dsimp only;obtain ⟨k,rfl⟩:=Q6B k0;rw [QeS];refine Q2m hl hG k 400 [] j Q0 Q3 (fun row h=>nomatch h) hj fun f b0 De j hD aj hj=>?_
  exact H G per Sk Ro Ls Ch _ _ De ⟨hG,p0,p1,ac,hg,Q0,Q0,Q0,hC,aq,⟨T,rfl,an,ak,ar,ao⟩,(fun row h=>nomatch h),by simp,hD,aj⟩
end Go.Vx
namespace Go.Vx
variable {R:Type} (n:Nat)
def Wa (n:Nat) (d:LL) (c:Int) (k0:oP R) (k1:Qko R):Qkp R
 | 0,_=>none
 | m+1,a=>bif decide (a<c) then QjY R d a fun e=>Qc R (pSl 4 e) fun f=>bif decide ((f.length:Int)>12) then k0 else Wa n d c k0 k1 m (wJ (a+1)) else k1 a (decide (a<c))
def Vk (i j k l:LL) (c:Int) (d e b f g h m:LL) (K:Qkl R):oP R:=Qc R (ZP n i j k l some) fun o=>bif o !=0 then K 1 else jn (fun (p:Bool)=>bif p then K 7 else Wa n b (b.length:Int) (K 7) (fun q r=>bif Q8 (decide (c<2)) (decide (c>7200)) then K 4 else K 0) n 0) fun a=>Qa R (decide ((d.length:Int)>8)) fun y=>bif y then a y else Qa R (decide ((e.length:Int)>48)) fun v=>bif v then a v else Qa R (decide ((b.length:Int)>16)) fun x=>bif x then a x else Qa R (decide ((f.length:Int)>32)) fun u=>bif u then a u else Qa R (decide ((g.length:Int)>32)) fun t=>bif t then a t else Qa R (decide ((h.length:Int)>32)) fun s=>bif s then a s else a (decide ((m.length:Int)>32))
def Zn (b:LL) (h2:Int) (c d e f:LL) (k0:Qkl R) (k1:Qko R):Qkp R
 | 0,_=>none
 | m+1,a=>bif decide (a<h2) then QjR R b a fun i j=>QjU R i j fun k l=>Qc R (Pn n c d e f k l some) fun h=>bif h !=0 then k0 h else Zn b h2 c d e f k0 k1 m (wJ (a+1)) else k1 a (decide (a<h2))
def Ux (b c d e:LL) (g:Int) (h a i j k l m:LL) (K:Qkl R):oP R:=Zn n a (a.length:Int) b c d e (fun f=>K f) (fun o p=>K 0) n 0
def G4 (ac ad ae ag:LL) (d:Int) (g b k l m o p:LL) (bt:List UInt8) (ah bu:Int) (e:LL) (a:Int) (K:Qkl R):oP R:=QjX R e a fun i q r s=>jn (fun (ai:Bool)=>(bif ai then K 4 else Qkg R i b fun ak al=>QjG R g ah fun f am an ao=>QjQ R f fun ap aq=>QjU R ak al fun ar au=>Qc R (NB am) fun av=>Qk4 R an ao ap aq fun aw ax ay az=>Qc R (GN n ac ad ae ag ar au av aw ax ay az some) fun u=>bif u !=0 then K u else Qa R (decide (a>0)) fun bv=>QjM R i bv q fun ba bb=>QjM R r bv s fun bc bd=>Qd R bv (TZ n d g b k l m o p ba bb bc bd some) fun be=>Qd R bv (Qi e (wJ (a-1))) fun j=>Qkd R j bv fun bg bh=>Qd R bv j[2]? fun bi=>Qd R bv j[3]? fun bj=>QjM R bg bv bh fun bk bl=>QjM R bi bv bj fun bm bn=>Qd R bv (SH n d g b k l m o p bk bl bm bn some) fun bo=>bif Q9 bv (be !=bo) then K 11 else K 0:oP R)) fun c=>Qc R (pIw i) fun v=>bif decide (v<0) then c (decide (v<0)) else Qc R (pIw i) fun x=>Qa R (decide (x>=(b.length:Int))) fun bz=>bif bz then c bz else Qc R (pIw q) fun y=>bif decide (y<0) then c (decide (y<0)) else Qc R (pIw q) fun z=>bif decide (z>=d) then c (decide (z>=d)) else QjE R r s fun bp bq=>Qc R (KW n d g b k l m o p bp bq some) fun aa=>bif !aa then c (!aa) else Qa R (a==wJ ((e.length:Int)-1)) fun bx=>Qd R bx (pIw r) fun ab=>Qd R (bx&&!(ab !=0)) (pIw s) fun br=>c (Q9 bx (Q8 (ab !=0) (br !=0)))
def W0 (b:Int) (c d e f:LL) (g:Int) (h i j k l o p:LL) (q:List UInt8) (r s:Int) (t:LL) (k0:Qkl R) (k1:Qko R):Qkp R
 | 0,_=>none
 | m+1,a=>bif decide (a<b) then Qc R (G4 n c d e f g h i j k l o p q r s t a some) fun u=>bif u !=0 then k0 u else W0 b c d e f g h i j k l o p q r s t k0 k1 m (wJ (a+1)) else k1 a (decide (a<b))
def ZZ (h:LL) (h2:Int) (i j k l:LL) (o:Int) (c p d q r s t:LL) (k0:Qkl R) (k1:Qko R):Qkp R
 | 0,_=>none
 | m+1,a=>bif decide (a<h2) then QjX R h a fun u y z aa=>Qc R (NB u) fun ab=>Qc R (H7 n ab some) fun ac=>bif !ac then k0 3 else Qc R (slB d.length none (some a)) fun ad=>Qc R (NB u) fun v=>QjE R y z fun b x=>Qc R (pSl 4 aa) fun f=>Qc R (QH n (cut d ad) v some) fun ae=>bif ae then k0 5 else jn (fun (ag:Bool)=>bif ag then k0 4 else bif (f.length:Int)==0 then k0 1 else W0 n (f.length:Int) i j k l o c p d q r s t v b x f (fun ah=>k0 ah) (fun aj ak=>ZZ h h2 i j k l o c p d q r s t k0 k1 m (wJ (a+1))) n 0) fun g=>bif decide (b<0) then g (decide (b<0)) else Qa R (decide (b>=(c.length:Int))) fun al=>bif al then g al else Qc R (P3 n x some) fun ai=>g (!ai) else k1 a (decide (a<h2))
def Vz (b c d e:LL) (f:Int) (g h a i j k l:LL) (K:Qkl R):oP R:=ZZ n a (a.length:Int) b c d e f g h a i j k l (fun m=>K m) (fun o p=>K 0) n 0
def Qa7 (a b c d:LL) (e:Int) (f g h i j k l:LL):Bool:=Q8E (Vk n a b c d e f g h i j k l some)&&Q8E (Uz n a b c d e f g h i j k l some)&&Q8E (Ux n a b c d e f g h i j k l some)&&Q8E (Vz n a b c d e f g h i j k l some)&&Q8E (WY n a b c d e f g h i j k l some)&&Q8E (Vy n a b c d e f g h i j k l some)&&Q8E (Vo n a b c d e f g h i j k l some)&&Q8E (WN n a b c d e f g h i j k l some)
def Vu (a b c d:LL) (e:Int) (f g h i j k l:LL) (K:Qkl R):oP R:=bif Qa7 n a b c d e f g h i j k l then K 0 else none
end Go.Vx
namespace Go.Vx
theorem QC {h:Nat} (hh:h<=1000):wJ ((h:Int)+1)=((h+1:Nat):Int):=by rw [Qn Q0 Q0];omega
theorem Qp {h k:Nat} (hh:h<k):decide ((h:Int)<(k:Int))=true:=by simpa using hh
theorem Qz (k:Nat):decide ((k:Int)<(k:Int))=false:=by simp
section
variable {R:Type} {St Pt Se Li Sk Ro Ls Ch Tu Sy De:LL} {per:Int} {n:Nat}
theorem Q5m {mn mx:Int} (a:0<=mn) (b:mn<=mx) (h2:mx<mn+per) (c:mn<=1000) (p1:per<=300) (K:Bool->oP R):KW n per Sk Ro Ls Ch Tu Sy De mn mx K=K true:=by
 unfold KW;rw [show decide ((0:Int)<=mn)=true by simpa using a,show decide (mn<=mx)=true by simpa using b,show decide (mx<=(7200:Int))=true by simp;omega,Qn Q0 Q0,show decide (mx<mn+per)=true by simpa using h2];rfl
theorem Q31 {k:Nat} (h:k<Ls.length) (K:Bool->oP R):Gw n per Sk Ro Ls Ch Tu Sy De (k:Int) K=K true:=by
 unfold Gw;rw [show decide ((k:Int)>=0)=true by simp,Qp h];rfl
theorem Bo {k i:Nat} {r:List D} (h:P0 Ls k i r) (K:Bool->oP R):UJ n per Sk Ro Ls Ch Tu Sy De (k:Int) (i:Int) K=K true:=by
 obtain ⟨nm,w,rides,a,h2⟩:=h;unfold UJ;rw [Q31 (Qpe.1 a).1,Qh,show decide ((i:Int)>=0)=true by simp,Qq,a];simp -implicitDefEqProofs only [Qh,Qp6,Qp7,Qj,XO,QN,Qpa,Qp9,Qpd,Qpc,Qp (Qpe.1 h2).1]
theorem Q8U {w:Int} (a:0<=w) (b:w<=1000) (K:Bool->oP R):P3 n w K=K true:=by
 unfold P3;rw [show decide (w>=0)=true by simpa using a,show decide (w<=(1048576:Int))=true by simp;omega];rfl
theorem Q5u {G:Geo} {rt:Nat} {ex mn mx x y:Int} {s:LL} (a:Ro[rt]? = some [D.sl 2 s,Ql 0]) (b:RtOK G s x y) (K:Int->oP R):TZ n per Sk Ro Ls Ch Tu Sy De (rt:Int) ex mn mx K=K x:=by
 obtain ⟨d,c⟩:=b.fst;unfold TZ;simp -implicitDefEqProofs only [Qh,Qp6,Qp7,Qj,XO,QN,Qpa,Qp9,Qpd,Qpc,Qq,a,c]
theorem Qal {G:Geo} {rt:Nat} {ex mn mx x y:Int} {s:LL} (b:Ro[rt]? = some [D.sl 2 s,Ql 0]) (a:RtOK G s x y) (K:Int->oP R):SH n per Sk Ro Ls Ch Tu Sy De (rt:Int) ex mn mx K=K y:=by
 obtain ⟨d,c⟩:=a.lst;have l2:=a.l2;have l24:=a.l24;unfold SH;simp -implicitDefEqProofs only [Qh,Qp6,Qp7,Qj,XO,QN,Qpa,Qp9,Qpd,Qpc,Qq,b];rw [Qn (x:=(s.length:Int)-0) Q0 Q0,Qn Q0 Q0,Int.sub_zero,c];rfl
theorem Qe9 (hs:Q1z Sk) (K:Int->oP R):Uz 400 St Pt Se Li per Sk Ro Ls Ch Tu Sy De K=K 0:=by
 obtain ⟨a,b,c,d,rfl,hk⟩:=hs;have h:Uz 400 St Pt Se Li per [[D.str (bs [88]),Ql a,Ql b,Ql c,Ql d]] Ro Ls Ch Tu Sy De K=gb true (UZ 400 (bs [88]) a b c d some) false (fun r=>bif !r then K 4 else K 0):=by kernel_rfl
 rw [h,Am hk];rfl
end
section
variable {R:Type} {G:Geo} {Sk Ro Ls Ch Tu Sy De:LL} {per:Int} (h:PlanR G per Sk Ro Ls Ch Tu Sy De)
include h
theorem Q6Y {k:Nat} (hk:k<Ls.length):∃ r,P0 Ls k 0 r:=by
 obtain ⟨w,rides,e,hr,a⟩:=Cn h.good hk;obtain ⟨r,_,_,_,b,_⟩:=a 0 Q0;exact ⟨r,b⟩
theorem Qgn (K:Int->oP R):Vk 400 G.St G.Pt G.Se G.Li per Sk Ro Ls Ch Tu Sy De K=K 0:=by
 have hc:ZP 400 G.St G.Pt G.Se G.Li (some:Int->oP Int)=some 0:=by unfold ZP;rw [h.ok.lay];rfl
 obtain ⟨_,_,_,_,aj,_⟩:=h.sk;obtain ⟨T,hT,_,_,_,ak⟩:=h.tu;have l1:=h.l1;have l2:=h.rl;have a:=h.chl;have c:=h.syl;have d:=h.del;have p0:=h.p0;have p1:=h.p1;have lk:Sk.length=1:=by rw [aj];rfl
 have lt:Tu.length<=20:=by rw [hT];simpa using ak
 have ac:∀ {k:Nat} {b:Int},(k:Int)<=b->decide ((k:Int)>b)=false:=fun h=>by simpa using h
 unfold Vk;rw [hc,Qh,Qr (by rfl)];simp -implicitDefEqProofs only [jn,ac (show (Sk.length:Int)<=8 by omega),ac (show (Ro.length:Int)<=48 by omega),ac (show (Ls.length:Int)<=16 by omega),ac (show (Ch.length:Int)<=32 by omega),ac (show (Tu.length:Int)<=32 by omega),ac (show (Sy.length:Int)<=32 by omega),ac (show (De.length:Int)<=32 by omega),Qp9];refine QD (r:=fun m h=>Wa 400 Ls (Ls.length:Int) _ _ m h) (N:=Ls.length) (fun m k hk=>?_) (fun m=>?_) Ls.length 400 0 Q0 Q0
 ·obtain ⟨w,rides,e,hr,_⟩:=Cn h.good hk;rw [Wa,Qp hk,Qq,e];simp -implicitDefEqProofs only [Qh,Qp6,Qp7,Qj,XO,QN,Qpa,Qp9,Qpd,Qpc,ac (show (rides.length:Int)<=12 by omega),QC (show k<=1000 by omega)]
 ·rw [Wa,Qz,Qp9,show decide (per<2)=false by simp;omega,show decide (per>7200)=false by simp;omega];rfl
theorem Qd7 (K:Int->oP R):Ux 400 G.St G.Pt G.Se G.Li per Sk Ro Ls Ch Tu Sy De K=K 0:=by
 have l2:=h.rl;unfold Ux;refine QD (r:=fun m h=>Zn 400 Ro (Ro.length:Int) G.St G.Pt G.Se G.Li _ _ m h) (N:=Ro.length) (fun m k hk=>?_) (fun m=>?_) Ro.length 400 0 Q0 Q0
 ·obtain ⟨s,x,y,e,hs⟩:=h.good.ro _ (Qpk hk);rw [Zn,Qp hk,Qq,Qpb hk,e];simp -implicitDefEqProofs only [Qh,Qp6,Qp7,Qj,XO,QN,Qpa,Qp9,Qpd,Qpc,Q6y h.ok.lay rfl hs.l2 hs.l24 hs.rt,QC (show k<=1000 by omega)];rfl
 ·rw [Zn,Qz,Qp9]
theorem Qbu (K:Int->oP R):WN 400 G.St G.Pt G.Se G.Li per Sk Ro Ls Ch Tu Sy De K=K 0:=by
 have l2:=h.del;have hN:=h.ok.hN;unfold WN;refine QD (r:=fun m h=>Za 400 De (De.length:Int) G.St _ _ m h) (N:=De.length) (fun m k hk=>?_) (fun m=>?_) De.length 400 0 Q0 Q0
 ·obtain ⟨f,t,w,e,⟨a,b⟩,⟨c,t1⟩,ac,w0,d⟩:=h.de _ (Qpk hk);rw [Za,Qp hk,Qq,Qpb hk,e];simp -implicitDefEqProofs only [Qh,Qp6,Qp7,Qj,XO,QN,Qpa,Qp9,Qpd,Qpc,h.ok.st,show decide (f<0)=false by simpa using a,show decide (f>=(G.N:Int))=false by simpa using b,show decide (t<0)=false by simpa using c,show decide (t>=(G.N:Int))=false by simpa using t1,show (f == t)=false by simpa using ac,show decide (w<1)=false by simp;omega,show decide (w>1048576)=false by simp;omega,QC (show k<=1000 by omega)]
 ·rw [Za,Qz,Qp9]
theorem Qgj (K:Int->oP R):Vo 400 G.St G.Pt G.Se G.Li per Sk Ro Ls Ch Tu Sy De K=K 0:=by
 have l2:=h.syl;have l0:=h.l0;unfold Vo;refine QD (r:=fun m h=>ZT 400 Sy (Sy.length:Int) per Sk Ro Ls Ch Tu Sy De _ _ m h) (N:=Sy.length) (fun m k hk=>?_) (fun m=>?_) Sy.length 400 0 Q0 Q0
 ·obtain ⟨o,e,a,b,h2⟩:=h.sy _ (Qpk hk);obtain ⟨r,hr⟩:=Q6Y h (k:=0) Q0;obtain ⟨r',ac⟩:=Q6Y h (k:=1) Q0;have e1:=Bo (R:=Bool) (per:=per) (Sk:=Sk) (Ro:=Ro) (Ch:=Ch) (Tu:=Tu) (Sy:=Sy) (De:=De) (n:=400) hr some;have e2:=Bo (R:=Bool) (per:=per) (Sk:=Sk) (Ro:=Ro) (Ch:=Ch) (Tu:=Tu) (Sy:=Sy) (De:=De) (n:=400) ac some;rw [ZT,Qp hk,Qq,Qpb hk,e];simp -implicitDefEqProofs only [Qh,Qp6,Qp7,Qj,XO,QN,Qpa,Qp9,Qpd,Qpc,show UJ 400 per Sk Ro Ls Ch Tu Sy De 0 0 (some:Bool->oP Bool)=some true from e1,show UJ 400 per Sk Ro Ls Ch Tu Sy De 1 0 (some:Bool->oP Bool)=some true from e2,show ((0:Int) == 1)=false from rfl,show decide (o<0)=false by simp;omega,show decide (o>=per)=false by simp;omega,QC (show k<=1000 by omega)]
 ·rw [ZT,Qz,Qp9]
end
theorem Q2y {n h:Nat} (hh:h<=n):slB n none (some (h:Int))=some (0,h):=by
 unfold slB;rw [show (decide ((0:Int)<=(none:oP Int).getD 0)&&(decide ((none:oP Int).getD 0<=(some (h:Int)).getD (n:Int))&&decide ((some (h:Int)).getD (n:Int)<=(n:Int))))=true by simp;omega];rfl
theorem Fe {α:Type} {l:List α} {h:Nat}:cut l (0,h)=l.take h:=by simp [cut]
theorem QfU {i j:Nat} (hi:i<8) (hj:j<8) (h:i≠j):(nmN i == nmN j)=false:=by
 have:∀ i j:Fin 8,i≠j->(nmN i.val == nmN j.val)=false:=by decide
 exact this ⟨i,hi⟩ ⟨j,hj⟩ (by intro e;exact h (by simpa using e))
theorem QhP {i:Nat} (hi:i<8):H7 400 (nmN i) (some:Bool->oP Bool)=some true:=by
 obtain rfl | rfl | rfl | rfl | rfl | rfl | rfl | rfl:i=0\/i=1\/i=2\/i=3\/i=4\/i=5\/i=6\/i=7:=Q0
 all_goals kernel_rfl
section
variable {Sk Ch Tu Sy De:LL} {per:Int}
theorem Q3M {G:Geo} {Ro Ls:LL} {c:Nat} (hg:GoodP G Ro Ls) (hc:c<8) (hl:c<Ls.length):QH 400 (cut Ls (0,c)) (nmN c) some=some false:=by
 have aj:(cut Ls (0,c)).length=c:=by rw [Fe];simp;omega
 unfold QH Xc;rw [aj];refine (congrArg (fun E=>gb true E 0 fun a=>some (decide (a>=(0:Int)))) (a₂:=some (-1)) (QD (r:=fun m h=>Qt 400 (cut Ls (0,c)) (c:Int) (nmN c) _ _ m h) (N:=c) (fun m h hh=>?_) (fun m=>?_) c 400 0 Q0 Q0)).trans rfl
 ·obtain ⟨w,ac,e,_,_⟩:=Cn hg (show h<Ls.length by omega);have e':(cut Ls (0,c))[h]? = some [D.str (nmN h),Ql 0,Ql w,D.sl 4 ac]:=by rw [Fe,List.getElem?_take_of_lt hh,e]
  rw [Qt,Qp hh,Qq,e'];simp -implicitDefEqProofs only [Qh,Qp6,Qp7,Qj,XO,QN,Qpa,Qp9,Qpd,Qpc,Wm,QfU (show h<8 by omega) hc Q0,QC (show h<=1000 by omega)]
 ·rw [Qt,Qz,Qp9]
theorem Q65 {G:Geo} (hG:G.OK) {Ro Ls rides:LL} {nm:List UInt8} {w:Int} {i:Nat} {r:List D} {x y:Int} {b:Bool} (p0:90<=per) (p1:per<=300) (ao:Q1z Sk) (hr:rides[i]? = some r) (hR:Py G Ro r x y b) (hb:i+1=rides.length->b=true) (hl:rides.length<=2)
  (aj:∀ j,j+1=i->∃ r' x' b',rides[j]? = some r'/\Py G Ro r' x' x b'):G4 400 G.St G.Pt G.Se G.Li per Sk Ro Ls Ch Tu Sy De nm 0 w rides (i:Int) (some:Int->oP Int)=some 0:=by
 obtain ⟨rt,ex,mn,mx,s,rfl,ac,hs,⟨h,k⟩,⟨e,f,l,m⟩,hlast⟩:=hR;obtain ⟨a,v,c,d,rfl,hk⟩:=ao;have a3:rt<Ro.length:=(Qpe.1 ac).1;have hi:i<rides.length:=(Qpe.1 hr).1;have ak:(bif ((i:Int) == (wJ (((List.length rides:Nat):Int)-(1:Int)))) then (bif (mn != (0:Int)) then true else (mx != (0:Int))) else false)=false:=by
  by_cases g:i+1=rides.length
  ·obtain ⟨rfl,rfl⟩:=hlast (hb g);rw [show ((0:Int) != 0)=false from rfl];cases ((i:Int) == (wJ (((List.length rides:Nat):Int)-(1:Int)))) <;> rfl
  ·rw [Qn Q0 Q0,show ((i:Int) == (rides.length:Int)-1)=false by simp;omega];rfl
 unfold G4;rw [Qq,hr];simp -implicitDefEqProofs only [Qh,Qp6,Qp7,Qj,XO,QN,Qpa,Qp9,Qpd,Qpc,jn,show decide ((rt:Int)<0)=false by simp,show decide ((rt:Int)>=(Ro.length:Int))=false by simp;omega,show decide (ex<0)=false by simp;omega,show decide (ex>=per)=false by simp;omega,Q5m e f (show mx<mn+per by omega) Q0 p1,ak,Qq,ac,show Qi [[D.str (bs [88]),Ql a,Ql v,Ql c,Ql d]] (0:Int)=some [D.str (bs [88]),Ql a,Ql v,Ql c,Ql d] from rfl,Qel hG.lay rfl hs.l2 hs.l24 hs.rt hs.st hk,show ((0:Int) != 0)=false from rfl];cases i with
 |zero=>
  rw [show decide (((0:Nat):Int)>0)=false from rfl];simp only [gbF,Qp9]
 |succ j=>
  obtain ⟨r',x',b',au,aw⟩:=aj j rfl;obtain ⟨az,ax,ay,a4,s',rfl,an,ar,_⟩:=aw;simp -implicitDefEqProofs only [Qh,Qp6,Qp7,Qj,XO,QN,Qpa,Qp9,Qpd,Qpc,show decide (((j+1:Nat):Int)>0)=true by simp,Q5u ac hs,show wJ (((j+1:Nat):Int)-1)=(j:Int) by rw [Qn Q0 Q0];omega,Qq,au,Qal an ar,show (x != x)=false by simp]
theorem QbV {G:Geo} (hG:G.OK) {Ro Ls rides:LL} {nm:List UInt8} {w:Int} (p0:90<=per) (p1:per<=300) (ac:Q1z Sk) (h:Q3V G Ro rides):(rides.length=1\/rides.length=2)/\∀ i,i<rides.length->G4 400 G.St G.Pt G.Se G.Li per Sk Ro Ls Ch Tu Sy De nm 0 w rides (i:Int) (some:Int->oP Int)=some 0:=by
 rcases h with ⟨r,x,y,rfl,h⟩ | ⟨r,r',x,y,z,rfl,h,h'⟩
 ·refine ⟨.inl rfl,fun i hi=>?_⟩;have hi:i=0:=by simpa using hi
  subst hi;exact Q65 hG p0 p1 ac rfl h (fun _=>rfl) Q2 fun j hj=>by omega
 ·refine ⟨.inr rfl,fun i hi=>?_⟩;obtain rfl | rfl:i=0\/i=1:=by simp at hi;omega
  ·exact Q65 hG p0 p1 ac rfl h (fun h=>by simp at h) Q2 fun j hj=>by omega
  ·refine Q65 hG p0 p1 ac rfl h' (fun _=>rfl) Q2 fun j hj=>?_
   have hj:j=0:=Q0
   subst hj;exact ⟨r,x,false,rfl,h⟩
end
theorem QeQ {R:Type} {G:Geo} {Sk Ro Ls Ch Tu Sy De:LL} {per:Int} (h:PlanR G per Sk Ro Ls Ch Tu Sy De) (K:Int->oP R):Vz 400 G.St G.Pt G.Se G.Li per Sk Ro Ls Ch Tu Sy De K=K 0:=by
 have l1:=h.l1;obtain ⟨_,_,_,_,ao,_⟩:=h.sk;have ak:Sk.length=1:=by rw [ao];rfl
 unfold Vz;refine QD (r:=fun m h=>ZZ 400 Ls (Ls.length:Int) G.St G.Pt G.Se G.Li per Sk Ro Ls Ch Tu Sy De _ _ m h) (N:=Ls.length) (fun m k hk=>?_) (fun m=>?_) Ls.length 400 0 Q0 Q0
 ·obtain ⟨w,rides,e,w0,a,ac⟩:=h.good.ls k _ (Qpb hk);obtain ⟨an,aj⟩:=QbV (Ls:=Ls) (Ch:=Ch) (Tu:=Tu) (Sy:=Sy) (De:=De) (nm:=nmN k) (w:=w) h.ok h.p0 h.p1 h.sk ac;rw [ZZ,Qp hk,Qq,Qpb hk,e];simp -implicitDefEqProofs only [Qh,Qp6,Qp7,Qj,XO,QN,Qpa,Qp9,Qpd,Qpc,QhP (show k<8 by omega),Q2y (Nat.le_of_lt hk),Q3M h.good (show k<8 by omega) hk,jn,show decide ((0:Int)<0)=false from rfl,ak,show decide ((0:Int)>=((1:Nat):Int))=false from rfl,Q8U w0 (show w<=1000 by omega),show ((rides.length:Int) == 0)=false by simp;intro hx;simp [hx] at an];refine (QD (r:=fun m h=>W0 400 (rides.length:Int) G.St G.Pt G.Se G.Li per Sk Ro Ls Ch Tu Sy De (nmN k) 0 w rides _ _ m h) (N:=rides.length) (fun m i hi=>?_) (fun m=>?_) rides.length 400 0 Q0 Q0)
  ·rw [W0,Qp hi];simp -implicitDefEqProofs only [Qh,Qp6,Qp7,Qj,XO,QN,Qpa,Qp9,Qpd,Qpc,aj i hi,show ((0:Int) != 0)=false from rfl,QC (show i<=1000 by omega)]
  ·rw [W0,Qz,Qp9,QC Q0]
 ·rw [ZZ,Qz,Qp9]
theorem MK {α:Type} {l:List α} (h:l.Nodup) {i:Nat} (hi:i<l.length):∀ x∈l.take i,x≠l[i]:=by
 intro x hx e;subst e;obtain ⟨j,hj,e⟩:=List.getElem_of_mem hx;simp at hj;rw [List.getElem_take] at e;have:=(List.nodup_iff_pairwise_ne.1 h);have:=List.pairwise_iff_getElem.1 this j i Q0 hi Q0;exact this e
theorem Q4S {a b:Int} {T:List Tup} (ht:∀ t∈T,(t.1:Int)≠a/\(t.2.1:Int)≠b) (hl:T.length<=30):QF 400 (T.map tuR) a b some=some false:=by
 have ac:(T.map tuR).length=T.length:=by simp
 unfold QF Xd;rw [ac];refine (congrArg (fun E=>gb true E 0 fun c=>some (decide (c>=(0:Int)))) (a₂:=some (-1)) (QD (r:=fun m h=>Qu 400 (T.map tuR) (T.length:Int) a b _ _ m h) (N:=T.length) (fun m h hh=>?_) (fun m=>?_) T.length 400 0 Q0 Q0)).trans rfl
 ·have e:(T.map tuR)[h]? = some (tuR T[h]):=by rw [Qpp,Qpb hh];rfl
  obtain ⟨d,f⟩:=ht _ (Qpk hh);rw [Qu,Qp hh,Qq,e];simp -implicitDefEqProofs only [Qh,Qp6,Qp7,Qj,XO,QN,Qpa,Qp9,Qpd,Qpc,tuR,Wj,show ((T[h].1:Int) == a)=false by simpa using d,show ((T[h].2.1:Int) == b)=false by simpa using f,QC (show h<=1000 by omega)]
 ·rw [Qu,Qz,Qp9]
section
variable {R:Type} {G:Geo} {Sk Ro Ls Ch Tu Sy De:LL} {per:Int} (h:PlanR G per Sk Ro Ls Ch Tu Sy De)
include h
theorem QbH (K:Int->oP R):WY 400 G.St G.Pt G.Se G.Li per Sk Ro Ls Ch Tu Sy De K=K 0:=by
 have l2:=h.chl;have p1:=h.p1;unfold WY;refine QD (r:=fun m h=>Zb 400 Ch (Ch.length:Int) G.Se per Sk Ro Ls Ch Tu Sy De _ _ m h) (N:=Ch.length) (fun m k hk=>?_) (fun m=>?_) Ch.length 400 0 Q0 Q0
 ·obtain ⟨f,fr,t,tr,mn,mx,w,r,r',x,y,x',y',b,b',i,e,hr,ac,hR,ar,a4,⟨a,j,c,d⟩,⟨w0,l⟩,⟨o,a1,c1,d1,g1⟩,⟨p,a2,q,u,g⟩,hi⟩:=h.ch _ (Qpk hk);have hb:=Bo (R:=Bool) (per:=per) (Sk:=Sk) (Ro:=Ro) (Ch:=Ch) (Tu:=Tu) (Sy:=Sy) (De:=De) (n:=400) hr;have au:=Bo (R:=Bool) (per:=per) (Sk:=Sk) (Ro:=Ro) (Ch:=Ch) (Tu:=Tu) (Sy:=Sy) (De:=De) (n:=400) ac;obtain ⟨nm,v,rides,e1,e2⟩:=hr;obtain ⟨a6,v',ak,aw,an⟩:=ac;obtain ⟨rt,ex,rn,rx,s,rfl,aq,hs,_⟩:=hR;obtain ⟨ay,ax,a5,az,s',rfl,aj,ao,_⟩:=ar;rw [Zb,Qp hk,Qq,Qpb hk,e];simp -implicitDefEqProofs only [Qh,Qp6,Qp7,Qj,XO,QN,Qpa,Qp9,Qpd,Qpc,hb,au,Q5m a c d (show mn<=1000 by omega) p1,Q8U w0 (show w<=1000 by omega),show ((f:Int) == (t:Int))=false by simp;omega,Qq,e1,e2,aw,an,Qal aq hs,Q5u aj ao,g1,g,show (i == (-1:Int))=false by simp;omega,show (i != i)=false by simp,QC (show k<=1000 by omega)]
 ·rw [Zb,Qz,Qp9]
theorem Qfo (K:Int->oP R):Vy 400 G.St G.Pt G.Se G.Li per Sk Ro Ls Ch Tu Sy De K=K 0:=by
 obtain ⟨T,hT,t1,t2,a,o⟩:=h.tu;have hl:Tu.length=T.length:=by rw [hT];simp
 have p0:=h.p0;have p1:=h.p1;unfold Vy;rw [hl];refine QD (r:=fun m h=>Wg 400 Tu (T.length:Int) per Sk Ro Ls Ch Tu Sy De _ _ m h) (N:=T.length) (fun m k hk=>?_) (fun m=>?_) T.length 400 0 Q0 Q0
 ·have e:Tu[k]? = some (tuR T[k]):=by rw [hT,Qpp,Qpb hk];rfl
  obtain ⟨c,u2,u3,p,d,q,nm,w,rides,r,r',x,y,z,b,b',e1,e2,u,v,⟨a4,w',ac,f,g⟩,hR,aw⟩:=t1 _ (Qpk hk);obtain ⟨rt,ex,rn,rx,s,rfl,ar,hs,_⟩:=hR;obtain ⟨ax,aq,az,ay,s',rfl,an,ao,_⟩:=aw;have aj:cut Tu (0,k)=(T.take k).map tuR:=by rw [Fe,hT,List.map_take]
  have ak:∀ t∈T.take k,(t.1:Int)≠(T[k].1:Int)/\(t.2.1:Int)≠(T[k].2.1:Int):=by
   intro t ht;have j:=MK t2 (i:=k) (by simpa using hk) t.1 (by rw [<- List.map_take];exact List.mem_map_of_mem ht);have h2:=MK a (i:=k) (by simpa using hk) t.2.1 (by rw [<- List.map_take];exact List.mem_map_of_mem ht);rw [List.getElem_map] at j h2;exact ⟨Q0,Q0⟩
  rw [Wg,Qp hk,Qq,e];simp -implicitDefEqProofs only [Qh,Qp6,Qp7,Qj,XO,QN,Qpa,Qp9,Qpd,Qpc,tuR,Q31 c,Q31 u2,Q5m (Sk:=Sk) (Ro:=Ro) (Ls:=Ls) (Ch:=Ch) (Tu:=Tu) (Sy:=Sy) (De:=De) (n:=400) (show 0<=T[k].2.2.1 by omega) d (show T[k].2.2.2<T[k].2.2.1+per by omega) Q0 p1];rw [hl,Q2y Q0,Qh,aj,Q4S ak Q3];have hw:wJ ((rides.length:Int)-1)=((rides.length-1:Nat):Int):=by rw [Qn Q0 Q0];omega
  have l:Qi ac (0:Int)=some [Ql ax,Ql aq,Ql az,Ql ay]:=(Qq ac 0).trans g;simp -implicitDefEqProofs only [Qh,Qp6,Qp7,Qj,XO,QN,Qpa,Qp9,Qpd,Qpc,Qq,e1,f,hw,e2,l,Qal ar hs,Q5u an ao,show (y != y)=false by simp,show ((0:Int) != 0)=false from rfl,QC (show k<=1000 by omega)]
 ·rw [Wg,Qz,Qp9]
theorem Qdz (K:Int->oP R):Vu 400 G.St G.Pt G.Se G.Li per Sk Ro Ls Ch Tu Sy De K=K 0:=by
 unfold Vu Qa7;rw [Qgn h,Qe9 h.sk,Qd7 h,QeQ h,QbH h,Qfo h,Qgj h,Qbu h];rfl
end
section
variable {R:Type} {n:Nat}
theorem Q57 {x lo hi:Int} (a:lo<=x) (b:x<=hi) (K:Bool->oP R):T4 n x lo hi K=K true:=inT (n:=n) a b K
theorem Q58 {x lo hi:Int} (a:lo<=x) (b:x<=hi) (K:Bool->oP R):Ja n x lo hi K=K true:=inT (n:=n) a b K
theorem Qff {a b g:Int} {acc:LL} (c:0<=a) (d:a<=12) (hc:acc.length<=1000) {k0:Int->Bool->LL->oP R} {m:Nat} (hm:12<m):UG n g (Ql a) (Ql b) k0 m 0 acc=k0 a false (acc++List.replicate a.toNat [Ql b,Ql g]):=by
 have hl:∀ h:Nat,(acc++List.replicate h [Ql b,Ql g]).length=acc.length+h:=fun h=>by simp
 have:=QD (r:=fun m h=>UG n g (Ql a) (Ql b) k0 m h (acc++List.replicate h.toNat [Ql b,Ql g])) (N:=a.toNat) (e:=k0 a false (acc++List.replicate a.toNat [Ql b,Ql g])) (fun m h hh=>?_) (fun m=>?_) a.toNat m 0 Q0 Q0
 ·simpa using this
 ·simp only [Qp8];rw [UG,Qj,Qh,Xh Q3,Qj,Qh,hl,XJ (by simp only [Qps,Qpv];omega),Qh,QC Q0,List.append_assoc,<- List.replicate_succ']
 ·rw [UG,Qj,Qh,Qr Q3];simp only [Qp8];rw [show (a.toNat:Int)=a by omega];simp
theorem Qgq {Se s:LL} {k0:Int->Bool->LL->oP R} (hs:∀ row∈s,CM Se row) (hl:s.length<=30) {m:Nat} (hm:s.length<m) (hn:12<n):UQ n Se s 0 k0 m 0 []=k0 (s.length:Int) false (YF Se s):=by
 have hc:=fun h:Nat=>(Sl (s:=s.take h) fun r hr=>hs r (List.mem_of_mem_take hr)).1
 have hw:wJ ((s.length:Int)-0)=(s.length:Int):=by rw [Qn Q0 Q0];omega
 refine QD (r:=fun m h=>UQ n Se s 0 k0 m h (YF Se (s.take h.toNat))) (N:=s.length) (fun m h hh=>?_) (fun m=>?_) s.length m 0 Q0 hm
 ·have e:=Qpb hh;obtain ⟨x,d,nm,a,b,c,st,hx,ac,f,hd⟩:=hs _ (Qpk hh);rw [hx] at e;have a0:=f.a0;have a1:=f.a1;have ak:=hc h;simp only [List.length_take] at ak;simp only [Qp8,MQ e,HR ac];rw [UQ,hw,Qp hh];simp -implicitDefEqProofs only [Qh,Qp6,Qp7,Qj,XO,QN,Qpa,Qp9,Qpd,Qpc,Qq,e,ac,Qff (n:=n) (b:=b) (acc:=YF Se (s.take h)) (show 0<=a by omega) a1 Q0 hn,QC (show h<=1000 by omega)];rw [Qn (x:=0-c) (by have:=f.c1;omega) (by have:=f.c0;omega),Int.zero_sub];cases g:d == (1:Int) <;> rfl
 ·simp only [Qp8];rw [UQ,hw,Qz,Qp9,Qpy]
end
structure RtF (St Pt Se Li s:LL):Prop where
 lay:Pb 400 St Pt Se Li=true
 ref:QaZ St Pt Se Li=true
 l2:2<=s.length
 l24:s.length<=24
 rt:rtB Se.length Li s=true
 rt6:QgS Se.length Li s=true
 hops:Q0y Se.length Pt.length Li 0 s=true
 st:∀ r∈s,CM Se r
theorem RtOK.f {G:Geo} (hG:G.OK) {s:LL} {x y:Int} (h:RtOK G s x y):RtF G.St G.Pt G.Se G.Li s:=⟨hG.lay,hG.ref,h.l2,h.l24,h.rt,h.rt6,h.hops,h.st⟩
section
variable {St Pt Se Li s:LL} (h:RtF St Pt Se Li s)
include h
theorem Q9U:SD 400 St Pt Se Li s 0 Tu3=some (YF Se s,TQ Se s,0):=by
 have l2:=h.l2;have l24:=h.l24;have hl:=(Sl h.st).1;obtain ⟨row,rest,rfl⟩:∃ row rest,s=row::rest:=by
  cases s with
  |nil=>simp at l2
  |cons a b=>exact ⟨a,b,rfl⟩
 obtain ⟨x,d,nm,a,b,c,st,rfl,hs,_,_⟩:=h.st row Q2;have hf:TQ Se ([Ql x,Ql d]::rest)=a:=by simp only [TQ,hs]
 generalize hS:[Ql x,Ql d]::rest=s at *
 unfold SD;rw [Q4W h.ref rfl h.l2 h.l24 h.rt6,Qh,Qr Q1,Qgq h.st Q0 Q0 Q1,Qr Q3,show Qi s (0:Int)=some [Ql x,Ql d] by rw [<- hS];rfl];simp -implicitDefEqProofs only [Qh,Qp6,Qp7,Qj,XO,QN,Qpa,Qp9,Qpd,Qpc,hs,hf]
theorem Qae {nm:List UInt8} {tl sp ac br:Int} (hk:StkN tl sp ac br):R1 400 St Pt Se Li s 0 nm tl sp ac br (some:Int->oP Int)=some 0:=by
 have l24:=h.l24;have hw:wJ ((s.length:Int)-0)=(s.length:Int):=by rw [Qn Q0 Q0];omega
 have ak:Yl 400 nm tl sp ac br (some:Bool->oP Bool)=some true:=by
  obtain ⟨t1,t2,s1,s2,a1,a2,b1,b2⟩:=hk;unfold Yl;simp -implicitDefEqProofs only [Qh,Qp6,Qp7,Qj,XO,QN,Qpa,Qp9,Qpd,Qpc,Q57 t1 (show tl<=40 by omega),Q57 (show 1000<=sp by omega) (show sp<=100000 by omega),Q57 (show 100<=ac by omega) (show ac<=2000 by omega),Q57 (show 100<=br by omega) (show br<=2000 by omega)]
 unfold R1;rw [Q9U h,Qh,Qr (by rfl),ak,Qh,Qr Q1];refine QD (r:=fun m h=>GE 400 Se s 0 tl _ _ m h) (N:=s.length) (fun m k e=>?_) (fun m=>?_) s.length 400 0 Q0 Q0
 ·obtain ⟨x,d,an,a,b,c,st,hx,aj,hn,_⟩:=h.st _ (Qpk e);have a0:=hn.a0;have t2:=hk.t2;rw [GE,hw,Qp e,Qq,Qpb e,hx];simp -implicitDefEqProofs only [Qh,Qp6,Qp7,Qj,XO,QN,Qpa,Qp9,Qpd,Qpc,aj,show decide (a<if 2<tl then tl else 2)=false by simp;split <;> omega,QC (show k<=1000 by omega)]
 ·rw [GE,hw,Qz,Qp9]
end
def QbJ (x r:Int):Prop:=0<=r/\r*r<=x/\x<(r+1)*(r+1)
theorem Q5s {a b:Int} (c:0<=a) (h:a<=b):a*a<=b*b:=Int.mul_le_mul h h c Q0
theorem Q4f {x r s:Int} (h:QbJ x r) (g:QbJ x s):r=s:=by
 obtain ⟨a0,a1,a2⟩:=h;obtain ⟨b0,b1,b2⟩:=g;rcases Int.lt_trichotomy r s with h | h | h
 ·have:=Q5s (show 0<=r+1 by omega) (show r+1<=s by omega);omega
 ·exact h
 ·have:=Q5s (show 0<=s+1 by omega) (show s+1<=r by omega);omega
theorem Q9v {x r b:Int} (c:0<=r) (hb:0<=b) (h:r*r<=x) (hx:x<(b+1)*(b+1)):r<=b:=by
 by_cases a:r<=b
 ·exact a
 ·have:=Q5s (show 0<=b+1 by omega) (show b+1<=r by omega);omega
theorem Qji {a:Int} (b:0<=a) (c:a<=9223372036854775807):shR .i64 a 1=a / 2:=by
 show a.fdiv 2=a / 2;exact Int.fdiv_eq_ediv_of_nonneg a Q1
theorem QgD {R:Type} {n:Nat} {x:Int} (a:0<=x) (hx:x<=1000000000) {k0:Int->Int->Bool->oP R}:∀ (k m:Nat) (ac:Int),k<=31->k+1<m->0<=ac->ac*ac<=x->x<(ac+2 ^ (k+1))*(ac+2 ^ (k+1)) ->
  ∃ r,QbJ x r/\VT n x k0 m ac (2 ^ k)=k0 r 0 false
 |k,m+1,ac,hk,hm,b,c,d=>by
  have hr:ac<=40000:=Q9v b Q1 c Q0;have hp:∀ j:Nat,(1:Int)<=2 ^ j:=fun j=>by
   have:=Int.ofNat_le.2 (Nat.two_pow_pos j);rw [Int.natCast_pow] at this;exact this
  have f:(2:Int) ^ k<=2147483648:=by
   have:=Int.ofNat_le.2 (Nat.le_trans (Nat.pow_le_pow_right (show 0<2 by decide) hk) (show 2 ^ 31<=2147483648 by decide));rw [Int.natCast_pow] at this;exact this
  have g:=hp k;have hw:wJ (ac+2 ^ k)=ac+2 ^ k:=Qn Q0 Q0;have hs:(2:Int) ^ (k+1)=2 ^ k+2 ^ k:=by rw [Int.pow_succ];omega
  have ak:Int.tdiv x (ac+2 ^ k)=x / (ac+2 ^ k):=Qpu a;have i:0<=x / (ac+2 ^ k):=Int.ediv_nonneg a Q0;have l:x / (ac+2 ^ k)<=x:=Int.ediv_le_self _ a;have e:wJ (Int.tdiv x (ac+2 ^ k))=x / (ac+2 ^ k):=by rw [ak,Qn Q0 Q0]
  have aj:(ac+2 ^ k<=x / (ac+2 ^ k))↔(ac+2 ^ k)*(ac+2 ^ k)<=x:=Int.le_ediv_iff_mul_le Q0;have step:∀ r:Int,0<=r->r*r<=x->x<(r+2 ^ k)*(r+2 ^ k)->∃ r',QbJ x r'/\VT n x k0 m r (shR .i64 (2 ^ k) 1)=k0 r' 0 false:=by
   intro r a0 a1 a2;rw [Qji Q0 Q0];cases k with
   |zero=>
    refine ⟨r,⟨a0,a1,by simpa using a2⟩,?_⟩;obtain ⟨m,rfl⟩:∃ m',m=m'+1:=⟨m-1,Q0⟩;rfl
   |succ k=>
    rw [show (2:Int) ^ (k+1) / 2=2 ^ k by rw [Int.pow_succ,Int.mul_ediv_cancel _ Q1]];exact QgD a hx k m r Q0 Q0 a0 a1 a2
  rw [VT,Xh Q3,hw,EC Q0,Qh,e];by_cases h:(ac+2 ^ k)*(ac+2 ^ k)<=x
  ·rw [Xh (by simpa using aj.2 h)];exact step _ Q0 h (by rw [Int.add_assoc,<- hs];exact d)
  ·rw [Qr (by simpa using fun h'=>h (aj.1 h'))];exact step ac b c Q0
theorem Qi1 {x:Int} (a:0<=x) (hx:x<=1000000000):∃ r,QbJ x r/\SG 400 x (some:Int->oP Int)=some r:=
 QgD a hx 31 400 0 Q1 Q1 Q1 (by simpa using a) Q0
theorem QdR {R:Type} {n:Nat} {x:Int} (a:0<=x) (hx:x<=1000000000) {k0:Int->Int->Bool->oP R}:∀ (k m:Nat) (lo hi:Int),k<m->0<=lo->lo<=hi->hi<=3037000499->hi-lo<2 ^ k->lo*lo<=x->x<(hi+1)*(hi+1) ->
  ∃ r,QbJ x r/\Jm n x k0 m lo hi=k0 r r false
 |k,m+1,lo,hi,hm,l0,l1,l2,hk,b,c=>by
  by_cases h:lo<hi
  ·obtain ⟨k,rfl⟩:∃ k',k=k'+1:=by
    cases k with
    |zero=>simp at hk;omega
    |succ k=>exact ⟨k,rfl⟩
   have hs:(2:Int) ^ (k+1)=2 ^ k+2 ^ k:=by rw [Int.pow_succ];omega
   have e:wJ (Int.tdiv (wJ ((wJ (lo+hi))+(1:Int))) (2:Int))=(lo+hi+1) / 2:=by
    rw [Qn (x:=lo+hi) Q0 Q0,Qn (x:=lo+hi+1) Q0 Q0,Qpu Q0,Qn Q0 Q0]
   rw [Jm,Xh (by simpa using h),EC Q1,Qh,e];have ac:lo<(lo+hi+1) / 2/\(lo+hi+1) / 2<=hi:=Q0
   generalize hM:(lo+hi+1) / 2=mid at *
   have aj:=Q5s (show 0<=mid by omega) (show mid<=3037000499 by omega);have d:=Int.mul_nonneg (show 0<=mid by omega) (show 0<=mid by omega);rw [Qn (x:=mid*mid) Q0 Q0];by_cases hq:mid*mid<=x
   ·rw [Xh (by simpa using hq)];exact QdR a hx k m mid hi Q0 Q0 Q0 l2 Q0 hq c
   ·rw [Qr (by simpa using hq),Qn Q0 Q0];exact QdR a hx k m lo (mid-1) Q0 l0 Q0 Q0 Q0 b (by rw [Int.sub_add_cancel];omega)
  ·obtain rfl:lo=hi:=Q0
   rw [Jm,Qr Q2];exact ⟨lo,⟨l0,b,c⟩,by simp⟩
theorem Qhu {x r:Int} (a:0<=x) (hx:x<=1000000000) (hr:QbJ x r):My 400 x (some:Int->oP Int)=some r:=by
 unfold My;by_cases h:x<=0
 ·rw [Xh (by simpa using h)];have:QbJ x 0:=⟨by decide,Q0,Q0⟩;rw [Q4f hr this]
 ·rw [Qr (by simpa using h)];obtain ⟨r',b,h2⟩:=QdR (R:=Int) (n:=400) (k0:=fun w _ _=>some w) a hx 32 400 0 3037000499 Q1 Q1 Q1 Q1 Q1 Q0 Q0;rw [Q4f hr b];exact h2
def cl (C:LL) (k:Nat):Int×Int:=match C[k]? with
 |some [.int _ b,.int _ g]=>(b,g)
 |_=>(0,0)
structure CellsOK (C:LL):Prop where
 row:∀ k,k<C.length->C[k]? = some [Ql (cl C k).1,Ql (cl C k).2]
 b0:∀ k,k<C.length->5000<=(cl C k).1
 b1:∀ k,k<C.length->(cl C k).1<=35000
 g0:∀ k,k<C.length -> -10<=(cl C k).2
 g1:∀ k,k<C.length->(cl C k).2<=10
 len:C.length<=300
theorem Q91 {Se:LL}:∀ {s:LL},(∀ row∈s,CM Se row)->s.length<=24->CellsOK (YF Se s):=by
 intro s h hl;have hm:∀ r∈YF Se s,∃ b g:Int,r=[Ql b,Ql g]/\5000<=b/\b<=35000 /\ -10<=g/\g<=10:=by
  intro r hr;obtain ⟨row,f,h2⟩:=List.mem_flatMap.1 hr;obtain ⟨x,d,nm,a,b,c,st,rfl,hs,hn,_⟩:=h _ f;rw [HR hs] at h2;have i:=List.eq_of_mem_replicate h2;have c0:=hn.c0;have c1:=hn.c1;refine ⟨_,_,i,hn.b0,hn.b1,?_⟩;cases (d == (1:Int))
  ·exact ⟨c0,c1⟩
  ·show -10 <= -c /\ -c<=10;omega
 have hat:∀ k,k<(YF Se s).length->(YF Se s)[k]? = some [Ql (cl (YF Se s) k).1,Ql (cl (YF Se s) k).2]/\5000<=(cl (YF Se s) k).1/\(cl (YF Se s) k).1<=35000 /\ -10<=(cl (YF Se s) k).2/\(cl (YF Se s) k).2<=10:=by
  intro k hk;obtain ⟨b,g,e,f⟩:=hm _ (Qpk hk);have e2:(YF Se s)[k]? = some [Ql b,Ql g]:=by rw [Qpb hk,e]
  simp only [cl,e2];exact ⟨trivial,f⟩
 have:=(Sl h).1;exact ⟨fun k hk=>(hat k hk).1,fun k hk=>(hat k hk).2.1,fun k hk=>(hat k hk).2.2.1,fun k hk=>(hat k hk).2.2.2.1,fun k hk=>(hat k hk).2.2.2.2,Q0⟩
def Qak (v:Int) (r:List D):Int:=match r with
 |.int _ b::_=>if b<v then b else v
 |_=>v
def win (C:LL) (k t:Nat):LL:=(C.drop (k-t)).take (k+1-(k-t))
def Q88 (C:LL) (sp:Int) (k t:Nat):Int:=(win C k t).foldl Qak sp
theorem QaE {C:LL} (hC:CellsOK C) {k t i:Nat} (hk:k<C.length) (hi:i<k+1-(k-t)):(win C k t)[i]? = some [Ql (cl C (k-t+i)).1,Ql (cl C (k-t+i)).2]:=by
 unfold win;rw [List.getElem?_take_of_lt hi,List.getElem?_drop,hC.row _ Q0]
theorem Q69 {C:LL} {k t:Nat} (hk:k<C.length):(win C k t).length=k+1-(k-t):=by
 unfold win;simp;omega
theorem Qbh {C:LL} (hC:CellsOK C) {sp:Int} {k t:Nat} (hk:k<C.length) (d:10000<=sp) (c:sp<=25000):5000<=Q88 C sp k t/\Q88 C sp k t<=25000:=by
 have hm:∀ r∈win C k t,∃ b g:Int,r=[Ql b,Ql g]/\5000<=b:=by
  intro r hr;obtain ⟨i,hi,rfl⟩:=List.getElem_of_mem hr;have aj:=hi;rw [Q69 hk] at aj;have e:=QaE hC hk aj;rw [Qpb hi] at e;injection e with e
  exact ⟨_,_,e,hC.b0 _ Q0⟩
 unfold Q88;revert hm;generalize win C k t=L;intro hm;have:∀ (L:LL) (v:Int),(∀ r∈L,∃ b g:Int,r=[Ql b,Ql g]/\5000<=b)->5000<=v->v<=25000->5000<=L.foldl Qak v/\L.foldl Qak v<=25000:=by
  intro L;induction L with
  |nil=>exact fun v _ a b=>⟨a,b⟩
  |cons r L ih=>
   intro v h a b;obtain ⟨x,g,rfl,hx⟩:=h _ (List.mem_cons_self ..);refine ih _ (fun r hr=>h r (List.mem_cons_of_mem _ hr)) ?_ ?_
   ·show 5000<=if x<v then x else v
    split <;> omega
   ·show (if x<v then x else v)<=25000;split <;> omega
 exact this L sp hm Q0 c
section
variable {C:LL} (hC:CellsOK C) {nm:List UInt8} {sp ac br:Int} {t k:Nat} (ht:t<=40)
include hC ht
omit hC in
theorem Qfa (hk:k<=1000):(if (0:Int)<(wJ ((k:Int)-(t:Int))) then (wJ ((k:Int)-(t:Int))) else (0:Int))=((k-t:Nat):Int):=by
 rw [Qn Q0 Q0];split <;> omega
theorem QiZ (hk:k<C.length):G8 400 C (k:Int) nm (t:Int) sp ac br (some:Int->oP Int)=some (Q88 C sp k t):=by
 have hl:=hC.len;unfold G8;rw [Qfa ht Q0,QC Q0];have hs:slB C.length (some ((k-t:Nat):Int)) (some ((k+1:Nat):Int))=some (k-t,k+1):=by
  unfold slB;rw [show (decide ((0:Int)<=(some ((k-t:Nat):Int)).getD 0)&&(decide ((some ((k-t:Nat):Int)).getD 0<=(some ((k+1:Nat):Int)).getD (C.length:Int))&&decide ((some ((k+1:Nat):Int)).getD (C.length:Int)<=(C.length:Int))))=true by simp;omega];rfl
 rw [hs,Qh,show cut C (k-t,k+1)=win C k t from rfl];have hw:=Q69 (t:=t) hk;refine (QD (r:=fun m h=>U0 400 (win C k t) (((win C k t).length:Nat):Int) _ m (((win C k t).take h.toNat).foldl Qak sp) h) (N:=(win C k t).length) (fun m h hh=>?_) (fun m=>?_) (win C k t).length 400 0 Q0 Q0)
 ·have e:=QaE hC hk (show h<k+1-(k-t) by omega);simp only [Qp8];rw [U0,Qp hh,Qq,e,YE e,List.foldl_append];simp -implicitDefEqProofs only [Qh,Qp6,Qp7,Qj,XO,QN,Qpa,Qp9,Qpd,Qpc,QC (show h<=1000 by omega)];rfl
 ·simp only [Qp8];rw [U0,Qz,Qp9,Qpy];rfl
theorem QiM (hk:k<C.length):Sr 400 C (k:Int) nm (t:Int) sp ac br (some:Int->oP Int)=some (Q88 C sp k t):=by
 have hl:=hC.len;have hw:=Q69 (t:=t) hk;unfold Sr;rw [Qfa ht Q0];have:=QD (r:=fun m h=>Jv 400 C (k:Int) (fun a b c=>some a) m (((win C k t).take h.toNat).foldl Qak sp) (((k-t:Nat):Int)+h)) (N:=(win C k t).length) (e:=some (Q88 C sp k t)) (fun m h hh=>?_) (fun m=>?_) (win C k t).length 400 0 Q0 Q0
 ·rw [show ((k-t:Nat):Int)+((0:Nat):Int)=((k-t:Nat):Int) by omega] at this;exact this
 ·have e:=QaE hC hk (show h<k+1-(k-t) by omega);have e2:=hC.row (k-t+h) Q0;simp only [Qp8];rw [Jv,Xh Q3,show ((k-t:Nat):Int)+(h:Int)=((k-t+h:Nat):Int) by omega,Qq,e2,YE e,List.foldl_append,QC Q0,show ((k-t:Nat):Int)+((h+1:Nat):Int)=((k-t+h+1:Nat):Int) by omega];simp -implicitDefEqProofs only [Qh,Qp6,Qp7,Qj,XO,QN,Qpa,Qp9,Qpd,Qpc];rfl
 ·simp only [Qp8];rw [Jv,Qr Q3,Qpy];rfl
end
def arr (f:Nat->Int) (n:Nat):LL:=(List.range n).map fun i=>[Ql (f i)]
theorem Zg {f:Nat->Int} {n:Nat}:(arr f n).length=n:=by simp [arr]
theorem Gz {f:Nat->Int} {n i:Nat} (h:i<n):(arr f n)[i]? = some [Ql (f i)]:=by simp [arr,h]
theorem Y8 {f g:Nat->Int} {n:Nat} (h:∀ i,i<n->f i=g i):arr f n=arr g n:=by
 refine List.map_congr_left fun i hi=>?_
 rw [h i (by simpa using hi)]
theorem Qe7 {f:Nat->Int} {n i:Nat} {v:Int}:(arr f n).set i [Ql v]=arr (fun j=>if j=i then v else f j) n:=by
 refine List.ext_getElem? fun j=>?_
 by_cases hj:j<n
 ·rw [Gz hj];by_cases h:i=j
  ·subst h;rw [List.getElem?_set_self (by rw [Zg];exact hj),Qpf rfl]
  ·rw [List.getElem?_set_ne h,Gz hj,Qph (fun e=>h e.symm)]
 ·rw [QpB (by simp [Zg];omega),QpB (by simp [Zg];omega)]
theorem Bn {n:Nat}:List.replicate n [Ql 0]=arr (fun _=>0) n:=by
 refine List.ext_getElem? fun j=>?_
 by_cases hj:j<n
 ·rw [Gz hj];simp [hj]
 ·rw [QpB Q3,QpB (by simp [Zg];omega)]
def acc (ac g:Int):Int:=if 0<g then (if 50<ac-10*g then ac-10*g else 50) else ac
def brk (br g:Int):Int:=if g<0 then (if 50<br+10*g then br+10*g else 50) else br
theorem Q5F {ac g:Int} (a1:400<=ac) (a2:ac<=800) (g0 : -10<=g) (g1:g<=10):300<=acc ac g/\acc ac g<=800:=by
 unfold acc;split
 ·split <;> omega
 ·omega
theorem Q5M {br g:Int} (a1:400<=br) (a2:br<=800) (g0 : -10<=g) (g1:g<=10):300<=brk br g/\brk br g<=800:=by
 unfold brk;split
 ·split <;> omega
 ·omega
section
variable {nm:List UInt8} {b t sp ac br g:Int} {n:Nat}
theorem QeR (a1:400<=ac) (a2:ac<=800) (g0 : -10<=g) (g1:g<=10):L0 n b g nm t sp ac br (some:Int->oP Int)=some (acc ac g):=by
 unfold L0 acc;rw [Qn (x:=10*g) Q0 Q0,Qn (x:=ac-10*g) Q0 Q0];by_cases h:0<g
 ·rw [Xh (by simpa using h),Qpf h]
 ·rw [Qr (by simpa using h),Qph h]
theorem Qgo (a1:400<=br) (a2:br<=800) (g0 : -10<=g) (g1:g<=10):MW n b g nm t sp ac br (some:Int->oP Int)=some (brk br g):=by
 unfold MW brk;rw [Qn (x:=10*g) Q0 Q0,Qn (x:=br+10*g) Q0 Q0];by_cases h:g<0
 ·rw [Xh (by simpa using h),Qpf h]
 ·rw [Qr (by simpa using h),Qph h]
theorem Qhk (a1:400<=ac) (a2:ac<=800) (g0 : -10<=g) (g1:g<=10):TL n b g nm t sp ac br (some:Int->oP Int)=some (20000*acc ac g):=by
 have hr:=Q5F a1 a2 g0 g1;unfold TL;rw [Qn (x:=10*g) Q0 Q0,Qn (x:=ac-10*g) Q0 Q0];unfold acc at hr ⊢;by_cases h:0<g
 ·rw [Qpf h] at hr ⊢;rw [Xh (by simpa using h),Qn Q0 Q0]
 ·rw [Qph h] at hr ⊢;rw [Qr (by simpa using h),Qn Q0 Q0]
theorem QhD (a1:400<=br) (a2:br<=800) (g0 : -10<=g) (g1:g<=10):Tn n b g nm t sp ac br (some:Int->oP Int)=some (20000*brk br g):=by
 have hr:=Q5M a1 a2 g0 g1;unfold Tn;rw [Qn (x:=10*g) Q0 Q0,Qn (x:=br+10*g) Q0 Q0];unfold brk at hr ⊢;by_cases h:g<0
 ·rw [Qpf h] at hr ⊢;rw [Xh (by simpa using h),Qn Q0 Q0]
 ·rw [Qph h] at hr ⊢;rw [Qr (by simpa using h),Qn Q0 Q0]
end
structure Run where
 C:LL
 nm:List UInt8
 sp:Int
 ac:Int
 br:Int
 t:Nat
 st:Nat
 N:Nat
structure Run.OK (X:Run):Prop where
 hC:CellsOK X.C
 hk:StkN X.t X.sp X.ac X.br
 hN:X.C.length=X.st+X.N
 h2:2<=X.N
namespace Run
variable (X:Run)
def lm (b:Nat):Int:=Q88 X.C X.sp (X.st+b) X.t
def lo (b:Nat):Int:=if X.lm b<X.lm (b-1) then X.lm b else X.lm (b-1)
def V (b:Nat):Int:=X.lo b*X.lo b
def G (b:Nat):Int:=20000*acc X.ac (cl X.C (X.st+b)).2
def L (b:Nat):Int:=20000*brk X.br (cl X.C (X.st+b)).2
def F:Nat->Int
 |0=>0
 |b+1=>if F b+X.G b<X.V (b+1) then F b+X.G b else X.V (b+1)
def K:Nat->Int
 |0=>0
 |d+1=>if K d+X.L (X.N-(d+1))<X.F (X.N-(d+1)) then K d+X.L (X.N-(d+1)) else X.F (X.N-(d+1))
variable {X} (h:X.OK)
include h
theorem QcR {b:Nat} (hb:b<X.N):5000<=X.lm b/\X.lm b<=25000:=Qbh h.hC (by have:=h.hN;omega) h.hk.s1 h.hk.s2
theorem QaS {b:Nat} (hb:b<X.N):5000<=X.lo b/\X.lo b<=25000:=by
 have a:=QcR h hb;have h2:=QcR h (b:=b-1) Q0;unfold lo;split <;> omega
theorem QdZ {b:Nat} (hb:b<X.N):25000000<=X.V b/\X.V b<=625000000:=by
 obtain ⟨a,h2⟩:=QaS h hb;have:=Q5s Q1 a;have:=Q5s Q0 h2;unfold V;omega
theorem Qdk {b:Nat} (hb:b<X.N):6000000<=X.G b/\X.G b<=16000000:=by
 have hN:=h.hN;have:=Q5F h.hk.a1 h.hk.a2 (h.hC.g0 (X.st+b) Q0) (h.hC.g1 (X.st+b) Q0);unfold G;omega
theorem Qcg {b:Nat} (hb:b<X.N):6000000<=X.L b/\X.L b<=16000000:=by
 have hN:=h.hN;have:=Q5M h.hk.b1 h.hk.b2 (h.hC.g0 (X.st+b) Q0) (h.hC.g1 (X.st+b) Q0);unfold L;omega
theorem Qbz:∀ b,b<X.N->0<=X.F b/\X.F b<=625000000/\(1<=b->6000000<=X.F b)
 |0,_=>by rw [F];omega
 |b+1,hb=>by
  have a:=Qbz b Q0;have h2:=QdZ h hb;have c:=Qdk h (b:=b) Q0;rw [F];split <;> omega
theorem Q5j:∀ d,d<=X.N->0<=X.K d/\X.K d<=625000000/\(1<=d->d<X.N->6000000<=X.K d)
 |0,_=>by rw [K];omega
 |d+1,hd=>by
  have a:=Q5j d Q0;have h2:=Qbz h (X.N-(d+1)) Q0;have c:=Qcg h (b:=X.N-(d+1)) Q0;rw [K];split <;> omega
theorem Qhj:X.K X.N=0:=by
 have h2:=h.h2;obtain ⟨d,hd⟩:∃ d,X.N=d+1:=⟨X.N-1,Q0⟩;have a:=Q5j h d Q0;have c:=Qcg h (b:=0) Q0;rw [hd,K,show X.N-(d+1)=0 by omega,F,Qph Q0]
theorem row {b:Nat} (hb:b<X.N):X.C[X.st+b]? = some [Ql (cl X.C (X.st+b)).1,Ql (cl X.C (X.st+b)).2]:=h.hC.row _ (by have:=h.hN;omega)
end Run
theorem Qb8 {f:Nat->Int} {n i:Nat} {v:Int} (h:i<n) {R:Type} (K:LL->oP R):gb true (inB n (i:Int)) () (fun _=>gb true ((arr f n)[(Int.toNat (i:Int))]?) [] fun r=>K ((arr f n).set (Int.toNat (i:Int)) (List.set r 0 (D.int .i64 v))))=K (arr (fun j=>if j=i then v else f j) n):=by
 rw [Yh Q0 Q0,Qh,Qp8,Gz h,Qh];show K ((arr f n).set i [Ql v])=_;rw [Qe7]
theorem Q8J {f:Nat->Int} {n i:Nat} (h:i<n) {R:Type} (K:Int->oP R):gb true (inB n (i:Int)) () (fun _=>gb true ((arr f n)[(Int.toNat (i:Int))]?) [] fun r=>gb true (r[0]?) oF fun c=>gb true (pIw c) 0 fun x=>K x)=K (f i):=by
 rw [Yh Q0 Q0,Qh,Qp8,Gz h];rfl
theorem wI {a b:Int} (h:a=b) (c : -1000000<=b) (d:b<=1000000000):wJ a=b:=by rw [h,Qn Q0 Q0]
namespace Run
variable {X:Run} (h:X.OK)
include h
def W (X:Run):LL:=arr (fun j=>X.K (X.N-j)) (X.N+1)
theorem sqA:Ge 400 X.C (X.st:Int) X.nm (X.t:Int) X.sp X.ac X.br (some:LL->oP LL)=some X.W:=by
 have hN:=h.hN;have h2:=h.h2;have hl:=h.hC.len;have t2:=h.hk.t2;have an:wJ (wJ ((X.C.length:Int)-(X.st:Int))+1)=((X.N+1:Nat):Int):=by
  rw [Qn (x:=(X.C.length:Int)-(X.st:Int)) Q0 Q0,Qn Q0 Q0];omega
 unfold Ge;rw [an,show (bif decide ((0:Int)<=((X.N+1:Nat):Int))&&decide (((X.N+1:Nat):Int)<=((X.N+1:Nat):Int)) then some () else none)=some () by rw [Xh Q3],Qh,Qp8,XJ Q0,Qh,QiZ h.hC Q0 Q0,Qh,Bn,QC Q0];have k:∀ k0:Int->Int->Bool->LL->oP LL,YM 400 X.C (X.st:Int) (X.C.length:Int) X.nm (X.t:Int) X.sp X.ac X.br k0 400 (Q88 X.C X.sp X.st X.t) ((X.st+1:Nat):Int) (arr (fun _=>0) (X.N+1))=k0 (X.lm (X.N-1)) (X.C.length:Int) false (arr (fun j=>if j<=X.N-1 then X.F j else 0) (X.N+1)):=by
  intro k0;have:=QD (r:=fun m i=>YM 400 X.C (X.st:Int) (X.C.length:Int) X.nm (X.t:Int) X.sp X.ac X.br k0 m (X.lm i.toNat) ((X.st+1+i.toNat:Nat):Int) (arr (fun j=>if j<=i.toNat then X.F j else 0) (X.N+1))) (N:=X.N-1) (e:=k0 (X.lm (X.N-1)) (X.C.length:Int) false (arr (fun j=>if j<=X.N-1 then X.F j else 0) (X.N+1))) (fun m i hi=>?_) (fun m=>?_) (X.N-1) 400 0 Q0 Q0
  ·have e:arr (fun j=>if j<=(((0:Nat):Int)).toNat then X.F j else 0) (X.N+1)=arr (fun _=>0) (X.N+1):=Y8 fun j hj=>by
    split
    ·rename_i d;have d:j=0:=by simpa using d
     subst d;rw [F]
    ·rfl
   rw [e] at this;exact this
  ·simp only [Qp8];have f:=h.hC.g0 (X.st+i) Q0;have g:=h.hC.g1 (X.st+i) Q0;have hr:=row h (b:=i) Q0;have aq:=QaS h (b:=i+1) Q0;have hV:=QdZ h (b:=i+1) Q0;have hF:=Qbz h i Q0;have hG:=Qdk h (b:=i) Q0;rw [YM,Qp (show X.st+1+i<X.C.length by omega),Qpa,QiZ h.hC Q0 Q0,Qh,wI (show ((X.st+1+i:Nat):Int)-1=((X.st+i:Nat):Int) by omega) Q0 Q0,wI (show ((X.st+i:Nat):Int)-(X.st:Int)=(i:Int) by omega) Q0 Q0,Zg,Q8J Q0,Qq,hr,wI (show ((X.st+1+i:Nat):Int)-(X.st:Int)=((i+1:Nat):Int) by omega) Q0 Q0];simp -implicitDefEqProofs only [Qh,Qp6,Qp7,Qj,XO,QN,Qpa,Qp9,Qpd,Qpc,Qhk h.hk.a1 h.hk.a2 f g];rw [Qb8 Q0];rw [QC Q0,show Q88 X.C X.sp (X.st+1+i) X.t=X.lm (i+1) by unfold lm;rw [Nat.add_assoc,Nat.add_comm 1 i],show X.st+1+i+1=X.st+1+(i+1) by omega];refine congrArg _ (Y8 fun j hj=>?_);by_cases ak:j=i+1
   ·subst ak;have e1:(if X.lm (i+1)<X.lm i then X.lm (i+1) else X.lm i)=X.lo (i+1):=rfl;rw [Qpf rfl,Qpf (Qpm i),e1,wI (a:=X.lo (i+1)*X.lo (i+1)) (b:=X.V (i+1)) rfl Q0 Q0,wI (a:=X.F i+20000*acc X.ac (cl X.C (X.st+i)).2) (b:=X.F i+X.G i) rfl Q0 Q0,Qpf (Qpm (i+1)),F]
   ·rw [Qph ak];by_cases c:j<=i
    ·rw [Qpf c,Qpf Q0]
    ·rw [Qph c,Qph Q0]
  ·simp only [Qp8];rw [show X.st+1+(X.N-1)=X.C.length by omega,YM,Qz,Qp9]
 rw [k,wI (show (X.C.length:Int)-1=((X.st+X.N-1:Nat):Int) by omega) Q0 Q0];have:=QD (r:=fun m i=>Zr 400 X.C (X.st:Int) X.nm (X.t:Int) X.sp X.ac X.br (fun _ _ l=>some l) m ((X.st+X.N-1-i.toNat:Nat):Int) (arr (fun j=>if X.N-j<=i.toNat then X.K (X.N-j) else X.F j) (X.N+1))) (N:=X.N-1) (e:=some X.W) (fun m i hi=>?_) (fun m=>?_) (X.N-1) 400 0 Q0 Q0
 ·have e:arr (fun j=>if X.N-j<=(((0:Nat):Int)).toNat then X.K (X.N-j) else X.F j) (X.N+1)=arr (fun j=>if j<=X.N-1 then X.F j else 0) (X.N+1):=Y8 fun j hj=>by
   by_cases ao:j=X.N
   ·subst ao;rw [Qpf Q2,Qph Q0,Nat.sub_self,K]
   ·rw [Qph Q3,Qpf Q0]
  rw [e] at this;exact this
 ·simp only [Qp8];obtain ⟨b,hb⟩:∃ b,b+1=X.N-i:=⟨X.N-i-1,Q0⟩;have o:1<=b:=Q0
  have f:=h.hC.g0 (X.st+b) Q0;have g:=h.hC.g1 (X.st+b) Q0;have hr:=row h (b:=b) Q0;have hK:=Q5j h i Q0;have hL:=Qcg h (b:=b) Q0;rw [Zr,show X.st+X.N-1-i=X.st+b by omega,Xh Q3,wI (show ((X.st+b:Nat):Int)-(X.st:Int)=(b:Int) by omega) Q0 Q0,Zg,Q8J Q0,QC Q0,wI (show ((X.st+b+1:Nat):Int)-(X.st:Int)=((b+1:Nat):Int) by omega) Q0 Q0,Q8J Q0,Qq,hr];simp -implicitDefEqProofs only [Qh,Qp6,Qp7,Qj,XO,QN,Qpa,Qp9,Qpd,Qpc,QhD h.hk.b1 h.hk.b2 f g];rw [Qb8 Q0,wI (show ((X.st+b:Nat):Int)-1=((X.st+X.N-1-(i+1):Nat):Int) by omega) Q0 Q0];refine congrArg _ (Y8 fun j hj=>?_);by_cases aj:j=b
  ·subst aj;rw [Qpf rfl,Qph (show ¬ X.N-j<=i by omega),Qpf (show X.N-(j+1)<=i by omega),Qpf (show X.N-j<=i+1 by omega),show X.N-j=i+1 by omega,K,show X.N-(j+1)=i by omega,show X.N-(i+1)=j by omega,wI (a:=X.K i+20000*brk X.br (cl X.C (X.st+j)).2) (b:=X.K i+X.L j) rfl Q0 Q0]
  ·rw [Qph aj];by_cases c:X.N-j<=i
   ·rw [Qpf c,Qpf Q0]
   ·rw [Qph c,Qph Q0]
 ·simp only [Qp8];rw [Zr,show X.st+X.N-1-(X.N-1)=X.st by omega,Qr Q2];refine congrArg some (Y8 fun j hj=>?_);by_cases n:j=0
  ·subst n;rw [Qph Q0,F,Nat.sub_zero,Qhj h]
  ·rw [Qpf Q0]
end Run
theorem JP {k:Nat} (a:k<=1000) (b:1<=k):wJ ((k:Int)-1)=((k-1:Nat):Int):=by grind [Qn]
section
variable {R:Type} {Sk Ro Ls Ch Tu Sy De:LL} {per:Int} {n:Nat}
theorem Q6d {mn mx:Int} (a:0<=mn) (b:mn<=mx) (h2:mx<mn+per) (c:mn<=1000) (p1:per<=300) (K:Bool->oP R):KO n per Sk Ro Ls Ch Tu Sy De mn mx K=K true:=by
 grind [KO,decide,Qn]
theorem Qhz {k i:Nat} {r:List D} (h:P0 Ls k i r) (hl:Ls.length<=1000) (hr:∀ nm w rides,Ls[k]? = some [D.str nm,Ql 0,Ql w,D.sl 4 rides]->rides.length<=1000) (K:Bool->oP R):G0 n per Sk Ro Ls Ch Tu Sy De (k:Int) (i:Int) K=K true:=by
 obtain ⟨nm,w,rides,a,h2⟩:=h;have hk:=(Qpe.1 a).1;have hi:=(Qpe.1 h2).1;have hr:=hr _ _ _ a;unfold G0;rw [JP hl Q0,Q58 Q0 Q0,Qh,Qq,a];simp -implicitDefEqProofs only [Qh,Qp6,Qp7,Qj,XO,QN,Qpa,Qp9,Qpd,Qpc,JP hr Q0,Q58 (show (0:Int)<=(i:Int) by omega) (show (i:Int)<=((rides.length-1:Nat):Int) by omega)]
theorem QaK {G:Geo} {x y:Int} {s:LL} (a:RtOK G s x y) (K:Int->oP R):GB n s 0 K=K x:=by
 obtain ⟨d,b⟩:=a.fst
 simp_all [GB,Qh,Qp6,Qp7,Qj,XO,QN,Qpa,Qp9,Qpd,Qpc]
theorem Qde {G:Geo} {x y:Int} {s:LL} (a:RtOK G s x y) (K:Int->oP R):Vp n s 0 K=K y:=by
 obtain ⟨d,b⟩:=a.lst;have l24:=a.l24;unfold Vp;rw [Qn (x:=(s.length:Int)-0) Q0 Q0,Qn Q0 Q0,Int.sub_zero,b];rfl
theorem Br {k i:Nat} {rt:Nat} {ex mn mx:Int} {s:LL} (h:P0 Ls k i [Ql rt,Ql ex,Ql mn,Ql mx]) (a:Ro[rt]? = some [D.sl 2 s,Ql 0]) (K:D->D->oP R):Y1 n per Sk Ro Ls Ch Tu Sy De (k:Int) (i:Int) K=K (D.sl 2 s) (Ql 0):=by
 obtain ⟨nm,w,rides,b,h2⟩:=h
 simp_all [Y1,Qh,Qp6,Qp7,Qj,XO,QN,Qpa,Qp9,Qpd,Qpc,Qq]
theorem Qiu {i:Nat} (hi:i<8):Mi 400 (nmN i) (some:Bool->oP Bool)=some true:=by
 obtain rfl | rfl | rfl | rfl | rfl | rfl | rfl | rfl:i=0\/i=1\/i=2\/i=3\/i=4\/i=5\/i=6\/i=7:=Q0
 all_goals rfl
theorem Qgk (hs:Q1z Sk):GY 400 per Sk Ro Ls Ch Tu Sy De 0 (some:Int->oP Int)=some 0:=by
 obtain ⟨a,b,c,d,rfl,t1,t2,s1,s2,a1,a2,b1,b2⟩:=hs;have h:GY 400 per [[D.str (bs [88]),Ql a,Ql b,Ql c,Ql d]] Ro Ls Ch Tu Sy De 0 (some:Int->oP Int)=gb true (Yl 400 (bs [88]) a b c d some) false (fun r=>bif !r then some 4 else some 0):=by kernel_rfl
 have ac:Yl 400 (bs [88]) a b c d (some:Bool->oP Bool)=some true:=by
  unfold Yl;simp -implicitDefEqProofs only [Qh,Qp6,Qp7,Qj,XO,QN,Qpa,Qp9,Qpd,Qpc,Q57 t1 (show a<=40 by omega),Q57 (show 1000<=b by omega) (show b<=100000 by omega),Q57 (show 100<=c by omega) (show c<=2000 by omega),Q57 (show 100<=d by omega) (show d<=2000 by omega)]
 rw [h,ac];rfl
end
section
variable {R:Type} {G:Geo} {Sk Ro Ls Ch Tu Sy De:LL} {per:Int} (h:PlanR G per Sk Ro Ls Ch Tu Sy De)
include h
theorem Qg4 {k:Nat}:∀ nm w rides,Ls[k]? = some [D.str nm,Ql 0,Ql w,D.sl 4 rides]->rides.length<=1000:=by
 intro nm w rides e;obtain ⟨w',ac,e',hr,_⟩:=Cn h.good (Qpe.1 e).1
 grind
theorem Q7M {k i:Nat} {r:List D} (hr:P0 Ls k i r) (K:Bool->oP R):G0 400 per Sk Ro Ls Ch Tu Sy De (k:Int) (i:Int) K=K true:=by
 have:=h.l1
 grind [Qhz,Qg4]
theorem QhV:Fv 400 per Sk Ro Ls Ch Tu Sy De (some:Bool->oP Bool)=some false:=by
 obtain ⟨_,_,_,_,aj,_⟩:=h.sk;obtain ⟨T,hT,_,_,_,ak⟩:=h.tu;have l1:=h.l1;have l2:=h.rl;have a:=h.chl;have c:=h.syl;have d:=h.del;have lk:Sk.length=1:=by rw [aj];rfl
 have lt:Tu.length<=20:=by rw [hT];simpa using ak
 have ac:∀ {k:Nat} {b:Int},(k:Int)<=b->decide ((k:Int)>b)=false:=fun h=>by simpa using h
 unfold Fv;simp -implicitDefEqProofs only [ac (show (Sk.length:Int)<=8 by omega),ac (show (Ro.length:Int)<=48 by omega),ac (show (Ls.length:Int)<=16 by omega),ac (show (Ch.length:Int)<=32 by omega),ac (show (Tu.length:Int)<=32 by omega),ac (show (Sy.length:Int)<=32 by omega),ac (show (De.length:Int)<=32 by omega),Qp9];refine QD (r:=fun m h=>GA 400 Ls _ _ m h) (N:=Ls.length) (fun m k hk=>?_) (fun m=>?_) Ls.length 400 0 Q0 Q0
 ·obtain ⟨w,rides,e,hr,_⟩:=Cn h.good hk;rw [GA,Qp hk,Qq,e];simp -implicitDefEqProofs only [Qh,Qp6,Qp7,Qj,XO,QN,Qpa,Qp9,Qpd,Qpc,ac (show (rides.length:Int)<=12 by omega),QC (show k<=1000 by omega)]
 ·rw [GA,Qz,Qp9]
theorem Qhh {k:Nat} (hk:k<Ls.length):Hj 400 G.St G.Pt G.Se G.Li per Sk Ro Ls Ch Tu Sy De (k:Int) (some:Int->oP Int)=some 0:=by
 have l1:=h.l1;have p1:=h.p1;have p0:=h.p0;obtain ⟨a,v,c,d,ar,aq⟩:=h.sk;obtain ⟨w,rides,e,w0,t,ac⟩:=h.good.ls k _ (Qpb hk);have e:=(Qpb hk).trans (congrArg some e);have a2:rides.length=1\/rides.length=2:=by rcases ac with ⟨_,_,_,rfl,_⟩ | ⟨_,_,_,_,_,rfl,_⟩;exact .inl rfl;exact .inr rfl
 have f:Qi Sk (0:Int)=some [D.str (bs [88]),Ql a,Ql v,Ql c,Ql d]:=by rw [ar];rfl
 have aw:Sk.length=1:=by rw [ar];rfl
 unfold Hj;rw [Qq,e];simp -implicitDefEqProofs only [Qh,Qp6,Qp7,Qj,XO,QN,Qpa,Qp9,Qpd,Qpc,Qiu (show k<8 by omega)];refine (QD (r:=fun m h=>U1 400 (k:Int) Ls (D.str (nmN k)) _ _ m h) (N:=k) (fun m i hi=>?_) (fun m=>?_) k 400 0 Q0 Q0)
 ·obtain ⟨w',au,e',_⟩:=Cn h.good (show i<Ls.length by omega);rw [U1,Qp hi,Qq,e'];simp -implicitDefEqProofs only [Qh,Qp6,Qp7,Qj,XO,QN,Qpa,Qp9,Qpd,Qpc,QfU (show i<8 by omega) (show k<8 by omega) (show i≠k by omega),QC (show i<=1000 by omega)]
 ·rw [U1,Qz,Qp9,aw,JP Q1 Q1];simp -implicitDefEqProofs only [Qh,Qp6,Qp7,Qj,XO,QN,Qpa,Qp9,Qpd,Qpc,Q58 (show (0:Int)<=0 by omega) (show (0:Int)<=((1-1:Nat):Int) by decide),Q58 w0 (show w<=1048576 by omega),show ((rides.length:Int) == 0)=false by simp;intro hx;simp [hx] at a2];refine (QD (r:=fun m h=>WP 400 G.St G.Pt G.Se G.Li per Sk Ro Ls Ch Tu Sy De (Ql 0) (D.sl 4 rides) _ _ m h) (N:=rides.length) (fun m i hi=>?_) (fun m=>?_) rides.length 400 0 Q0 Q0)
  ·obtain ⟨r,x,y,b,hr,hR,hb,aj⟩:∃ r x y b,rides[i]? = some r/\Py G Ro r x y b/\(i+1=rides.length->b=true)/\(∀ j,j+1=i->∃ r' x' b',rides[j]? = some r'/\Py G Ro r' x' x b'):=by
    rcases ac with ⟨r,x,y,rfl,h⟩ | ⟨r,r',x,y,z,rfl,h,h'⟩
    ·have hi:i=0:=by simpa using hi
     subst hi;exact ⟨r,x,y,true,rfl,h,fun _=>rfl,fun j hj=>by omega⟩
    ·obtain rfl | rfl:i=0\/i=1:=by simp at hi;omega
     ·exact ⟨r,x,y,false,rfl,h,fun h=>by simp at h,fun j hj=>by omega⟩
     ·refine ⟨r',y,z,true,rfl,h',fun _=>rfl,fun j hj=>?_⟩;have hj:j=0:=Q0
      subst hj;exact ⟨r,x,false,rfl,h⟩
   obtain ⟨rt,ex,mn,mx,s,rfl,an,hs,⟨l,u⟩,⟨o,p,m2,m3⟩,hlast⟩:=hR;have a8:rt<Ro.length:=(Qpe.1 an).1;have l2:=h.rl;have hq:∀ z:Bool,(bif ((i:Int) == ((rides.length-1:Nat):Int)) then (bif (mn != (0:Int)) then true else (mx != (0:Int))) else false)=false:=by
    intro z;by_cases q:i+1=rides.length
    ·obtain ⟨rfl,rfl⟩:=hlast (hb q);rw [show ((0:Int) != 0)=false from rfl];cases ((i:Int) == ((rides.length-1:Nat):Int)) <;> rfl
    ·rw [show ((i:Int) == ((rides.length-1:Nat):Int))=false by simp;omega];rfl
   have a3:∀ {g:Bool} {β:Type} {a z:β} {k:β->oP Int},gb g (some a) z k=k a:=fun {g β a z k}=>rfl
   rw [WP,QN,Qh,Qp hi];simp -implicitDefEqProofs only [Qh,Qp6,Qp7,Qj,XO,QN,Qpa,Qp9,Qpd,Qpc,Qq,hr,JP (show rides.length<=1000 by omega) (show 1<=rides.length by omega),JP (show Ro.length<=1000 by omega) (show 1<=Ro.length by omega),Qn (x:=per-1) Q0 Q0,Q58 (show (0:Int)<=(rt:Int) by omega) (show (rt:Int)<=((Ro.length-1:Nat):Int) by omega),Q58 l (show ex<=per-1 by omega),Q6d (Sk:=Sk) (Ro:=Ro) (Ls:=Ls) (Ch:=Ch) (Tu:=Tu) (Sy:=Sy) (De:=De) (n:=400) o p (show mx<mn+per by omega) Q0 p1,hq true,an,f,Qae (hs.f h.ok) aq,show ((0:Int) != 0)=false from rfl];cases i with
   |zero=>
    rw [show decide (((0:Nat):Int)>0)=false from rfl];simp only [gbF,Qp9];rfl
   |succ j=>
    obtain ⟨r',x',b',ay,az⟩:=aj j rfl;obtain ⟨a7,a4,a6,a9,s',rfl,ao,ax,_⟩:=az;simp -implicitDefEqProofs only [Qh,Qp6,Qp7,Qj,XO,QN,Qpa,Qp9,Qpd,Qpc,show decide (((j+1:Nat):Int)>0)=true by simp,QaK hs,show wJ (((j+1:Nat):Int)-1)=(j:Int) by rw [Qn Q0 Q0];omega,Qq,ay,ao,Qde ax,show (x != x)=false by simp,QC (show j+1<=1000 by omega)]
  ·rw [WP,QN,Qh,Qz,Qp9]
end
section
variable {R:Type} {G:Geo} {Sk Ro Ls Ch Tu Sy De:LL} {per:Int} (h:PlanR G per Sk Ro Ls Ch Tu Sy De)
include h
theorem Qcb {k0:Int->oP R} {k1:Int->Bool->oP R}:Zy 400 G.St G.Pt G.Se G.Li per Sk Ro Ls Ch Tu Sy De k0 k1 400 0=k1 (Ch.length:Int) false:=by
 have l2:=h.chl;have p1:=h.p1;refine QD (r:=fun m h=>Zy 400 G.St G.Pt G.Se G.Li per Sk Ro Ls Ch Tu Sy De _ _ m h) (N:=Ch.length) (fun m k hk=>?_) (fun m=>?_) Ch.length 400 0 Q0 Q0
 ·obtain ⟨f,fr,t,tr,mn,mx,w,r,r',x,y,x',y',b,b',i,e,hr,ac,hR,ao,ax,⟨a,j,c,d⟩,⟨w0,l⟩,⟨n,a1,c1,d1,g1⟩,⟨o,a2,p,q,g⟩,hi⟩:=h.ch _ (Qpk hk);have hb:=Q7M (R:=Bool) h hr;have aq:=Q7M (R:=Bool) h ac;obtain ⟨rt,ex,rn,rx,s,rfl,an,hs,_⟩:=hR;obtain ⟨au,ar,ay,aw,s',rfl,aj,ak,_⟩:=ao;rw [Zy,Qp hk,Qq,Qpb hk,e];simp -implicitDefEqProofs only [Qh,Qp6,Qp7,Qj,XO,QN,Qpa,Qp9,Qpd,Qpc,T9,hb,aq,Q6d a c d (show mn<=1000 by omega) p1,Q58 w0 (show w<=1048576 by omega),show ((f:Int) == (t:Int))=false by simp;omega,Br hr an,Br ac aj,Qde hs,QaK ak,g1,g,show decide (i<0)=false by simp;omega,show (i != i)=false by simp,show ((0:Int) != 0)=false from rfl,QC (show k<=1000 by omega)]
 ·rw [Zy,Qz,Qp9]
theorem Qg7 {k0:Int->oP R} {k1:Int->Bool->oP R}:Zs 400 per Sk Ro Ls Ch Tu Sy De k0 k1 400 0=k1 (Tu.length:Int) false:=by
 obtain ⟨T,hT,t1,t2,d,t4⟩:=h.tu;have hl:Tu.length=T.length:=by rw [hT];simp
 have p0:=h.p0;have p1:=h.p1;have l1:=h.l1;refine QD (r:=fun m h=>Zs 400 per Sk Ro Ls Ch Tu Sy De _ _ m h) (N:=Tu.length) (fun m k hk=>?_) (fun m=>?_) Tu.length 400 0 Q0 Q0
 ·have ac:k<T.length:=Q0
  have at':∀ j (hj:j<T.length),Tu[j]? = some (tuR T[j]):=fun j hj=>by rw [hT,Qpp,Qpb hj];rfl
  obtain ⟨u1,u2,u3,u4,e,u6,nm,w,rides,r,r',x,y,z,b,b',e1,e2,f,e4,c,hR,au⟩:=t1 _ (Qpk ac);obtain ⟨rt,ex,rn,rx,s,rfl,ar,hs,_⟩:=hR;obtain ⟨a3,a2,a5,a4,s',rfl,ak,ao,_⟩:=au;have g:=Br (R:=D×D) (n:=400) (per:=per) (Sk:=Sk) (Ch:=Ch) (Tu:=Tu) (Sy:=Sy) (De:=De) (Ro:=Ro) ⟨nm,w,rides,e1,e2⟩ ar;have a:=Br (R:=D×D) (n:=400) (per:=per) (Sk:=Sk) (Ch:=Ch) (Tu:=Tu) (Sy:=Sy) (De:=De) (Ro:=Ro) c ak;obtain ⟨a6,w',an,l,e6⟩:=c;have a:Y1 400 per Sk Ro Ls Ch Tu Sy De (T[k].2.1:Int) 0 Tu2=some (D.sl 2 s',Ql 0):=a _;have aj:∀ t∈T.take k,(t.1:Int)≠(T[k].1:Int)/\(t.2.1:Int)≠(T[k].2.1:Int):=by
   intro t ht;have q:=MK t2 (i:=k) (by simpa using ac) t.1 (by rw [<- List.map_take];exact List.mem_map_of_mem ht);have h2:=MK d (i:=k) (by simpa using ac) t.2.1 (by rw [<- List.map_take];exact List.mem_map_of_mem ht);rw [List.getElem_map] at q h2;exact ⟨Q0,Q0⟩
  have aq:Ho 400 per Sk Ro Ls Ch Tu Sy De (k:Int) (some:Int->oP Int)=some 0:=by
   unfold Ho;rw [Qq,at' k ac];simp -implicitDefEqProofs only [Qh,Qp6,Qp7,Qj,XO,QN,Qpa,Qp9,Qpd,Qpc,tuR,JP (show Ls.length<=1000 by omega) (show 1<=Ls.length by omega),Q58 (show (0:Int)<=(T[k].1:Int) by omega) (show (T[k].1:Int)<=((Ls.length-1:Nat):Int) by omega),Q58 (show (0:Int)<=(T[k].2.1:Int) by omega) (show (T[k].2.1:Int)<=((Ls.length-1:Nat):Int) by omega),Q6d (Sk:=Sk) (Ro:=Ro) (Ls:=Ls) (Ch:=Ch) (Tu:=Tu) (Sy:=Sy) (De:=De) (n:=400) (show 0<=T[k].2.2.1 by omega) e (show T[k].2.2.2<T[k].2.2.1+per by omega) Q0 p1];refine (QD (r:=fun m h=>U2 400 (k:Int) Tu (Ql (T[k].1:Nat)) (Ql (T[k].2.1:Nat)) _ _ m h) (N:=k) (fun m i hi=>?_) (fun m=>?_) k 400 0 Q0 Q0)
   ·obtain ⟨u,v⟩:=aj T[i] (by rw [List.mem_take_iff_getElem];exact ⟨i,Q0,rfl⟩);rw [U2,Qp hi,Qq,at' i Q0];simp -implicitDefEqProofs only [Qh,Qp6,Qp7,Qj,XO,QN,Qpa,Qp9,Qpd,Qpc,tuR,show ((T[i].1:Int) == (T[k].1:Int))=false by simpa using u,show ((T[i].2.1:Int) == (T[k].2.1:Int))=false by simpa using v,QC (show i<=1000 by omega)]
   ·rw [U2,Qz,Qp9,Qq,e1];simp -implicitDefEqProofs only [Qh,Qp6,Qp7,Qj,XO,QN,Qpa,Qp9,Qpd,Qpc,Qq,l,JP (show rides.length<=1000 by omega) f,g,a,Qde hs,QaK ao,show (y != y)=false by simp,show ((0:Int) != 0)=false from rfl]
  rw [Zs,Qp hk,Qpa,aq,Qh,Qr (by rfl),QC Q0]
 ·rw [Zs,Qz,Qp9]
theorem Qga {k0:oP R} {k1:Int->Bool->oP R}:Zo 400 per Sk Ro Ls Ch Tu Sy De k0 k1 400 0=k1 (Sy.length:Int) false:=by
 have l2:=h.syl;have l0:=h.l0;have p1:=h.p1;refine QD (r:=fun m h=>Zo 400 per Sk Ro Ls Ch Tu Sy De _ _ m h) (N:=Sy.length) (fun m k hk=>?_) (fun m=>?_) Sy.length 400 0 Q0 Q0
 ·obtain ⟨o,e,a,b,h2⟩:=h.sy _ (Qpk hk);obtain ⟨r,hr⟩:=Q6Y h (k:=0) Q0;obtain ⟨r',ac⟩:=Q6Y h (k:=1) Q0;have e1:=Q7M (R:=Bool) h hr some;have e2:=Q7M (R:=Bool) h ac some;rw [Zo,Qp hk,Qq,Qpb hk,e];simp -implicitDefEqProofs only [Qh,Qp6,Qp7,Qj,XO,QN,Qpa,Qp9,Qpd,Qpc,show G0 400 per Sk Ro Ls Ch Tu Sy De 0 0 (some:Bool->oP Bool)=some true from e1,show G0 400 per Sk Ro Ls Ch Tu Sy De 1 0 (some:Bool->oP Bool)=some true from e2,show ((0:Int) == 1)=false from rfl,Qn (x:=per-1) Q0 Q0,Q58 a (show o<=per-1 by omega),QC (show k<=1000 by omega)]
 ·rw [Zo,Qz,Qp9]
theorem Qbg {k0:oP R} {k1:Int->Bool->oP R}:Zu 400 G.St De k0 k1 400 0=k1 (De.length:Int) false:=by
 have l2:=h.del;have hN:=h.ok.hN;refine QD (r:=fun m h=>Zu 400 G.St De _ _ m h) (N:=De.length) (fun m k hk=>?_) (fun m=>?_) De.length 400 0 Q0 Q0
 ·obtain ⟨f,t,w,e,⟨a,c⟩,⟨b,t1⟩,ac,w0,d⟩:=h.de _ (Qpk hk);rw [Zu,Qp hk,Qq,Qpb hk,e];simp -implicitDefEqProofs only [Qh,Qp6,Qp7,Qj,XO,QN,Qpa,Qp9,Qpd,Qpc,h.ok.st,Qn (x:=(G.N:Int)-1) Q0 Q0,Q58 a (show f<=(G.N:Int)-1 by omega),Q58 b (show t<=(G.N:Int)-1 by omega),Q58 w0 (show w<=1048576 by omega),show (f == t)=false by simpa using ac,QC (show k<=1000 by omega)]
 ·rw [Zu,Qz,Qp9]
theorem QhR:UU 400 G.St G.Pt G.Se G.Li per Sk Ro Ls Ch Tu Sy De (some:Int->oP Int)=some 0:=by
 have p0:=h.p0;have p1:=h.p1;have l1:=h.l1;have l2:=h.rl;obtain ⟨_,_,_,_,ac,_⟩:=h.sk;have aj:Sk.length=1:=by rw [ac];rfl
 have e1:Gu 400 G.St G.Pt G.Se G.Li (some:Int->oP Int)=some 0:=Jn h.ok.ref;unfold UU;simp -implicitDefEqProofs only [Qh,Qp6,Qp7,Qj,XO,QN,Qpa,Qp9,Qpd,Qpc,e1,QhV h,Q58 (show 2<=per by omega) (show per<=7200 by omega),show ((0:Int) != 0)=false from rfl];refine QD (r:=fun m h=>WX 400 per Sk Ro Ls Ch Tu Sy De _ _ m h) (N:=Sk.length) (fun m k hk=>?_) (fun m=>?_) Sk.length 400 0 Q0 Q0
 ·obtain rfl:k=0:=Q0
  rw [WX,Qp hk,Qpa,show ((0:Nat):Int)=0 from rfl,Qgk h.sk,Qh,Qr (by rfl)];rfl
 rw [WX,Qz,Qp9];refine QD (r:=fun m h=>WO 400 G.St G.Pt G.Se G.Li Ro _ _ m h) (N:=Ro.length) (fun m k hk=>?_) (fun m=>?_) Ro.length 400 0 Q0 Q0
 ·obtain ⟨s,x,y,e,hs⟩:=h.good.ro _ (Qpk hk);rw [WO,Qp hk,Qq,Qpb hk,e];simp -implicitDefEqProofs only [Qh,Qp6,Qp7,Qj,XO,QN,Qpa,Qp9,Qpd,Qpc,Q4W h.ok.ref rfl hs.l2 hs.l24 hs.rt6,show ((0:Int) != 0)=false from rfl,QC (show k<=1000 by omega)]
 rw [WO,Qz,Qp9];refine QD (r:=fun m h=>WT 400 G.St G.Pt G.Se G.Li per Sk Ro Ls Ch Tu Sy De _ _ m h) (N:=Ls.length) (fun m k hk=>?_) (fun m=>?_) Ls.length 400 0 Q0 Q0
 ·rw [WT,Qp hk,Qpa,Qhh h hk,Qh,Qr (by rfl),QC Q0]
 rw [WT,Qz,Qp9,Qcb h,Qg7 h,Qga h,Qbg h]
end
end Go.Vx
namespace Go.Vx
variable {R:Type} (n:Nat)
def Yd (n:Nat) (c e i:LL) (f:Int) (j:LL) (g:Int) (k0:QkE R):QkC R
 | 0,_,_,_,_=>none
 | m+1,b,a,h,d=>bif decide (a<f) then QjI R i a fun o r=>Qc R o[1]? fun ac=>QjF R c b fun k=>Qc R (Yn ((h.length+[[Ql k]].length)*8)) fun ad=>Qa R (decide (a<wJ ((e.length:Int)-1))) fun ah=>Qb R (h++[[Ql k]]) fun ai=>Qb R (wJ (a+1)) fun aj=>bif decide (a>0) then Qc R (pIw r) fun u=>QjN R j u fun l=>bif ah then QjF R c (wJ (wJ (b+l)+g)) fun p=>Qc R (Yn ((d.length+[[Ql p]].length)*8)) fun ae=>Yd n c e i f j g k0 m (wJ (b+l)) aj ai (d++[[Ql p]]) else Yd n c e i f j g k0 m (wJ (b+l)) aj ai d else bif ah then QjF R c (wJ (b+g)) fun q=>Qc R (Yn ((d.length+[[Ql q]].length)*8)) fun ag=>Yd n c e i f j g k0 m b aj ai (d++[[Ql q]]) else Yd n c e i f j g k0 m b aj ai d else k0 b a (decide (a<f)) h d
def Hu (q r f s g:LL) (h:Int) (i:List UInt8) (c j k l:Int) (K:LL->LL->Int->Int->oP R):oP R:=Qc R (HO n q r f s g h i c j k l Tu3) fun a=>bif a.2.2 !=0 then K [] [] 0 a.2.2 else Qc R (JV n a.1 a.2.1 i c j k l Tu2) fun b=>Qc R (UM n g h some) fun e=>Yd n b.1 e e (e.length:Int) f c (fun m ab ac t o=>QjF R b.1 m fun p=>Qc R (Yn ((o.length+[[Ql p]].length)*8)) fun ad=>QjF R b.1 m fun z=>Qc R (Gh n z some) fun aa=>K t (o++[[Ql p]]) aa 0) n 0 0 [] []
def Y4 (d e:LL) (b:Int) (k0:Qkn R):Qkm R
 | 0,_,_=>none
 | m+1,a,c=>bif decide (a<b) then QjF R d (wJ (a-1)) fun j=>Qc R (VQ n j some) fun f=>QjF R e a fun o=>Qc R (Gh n o some) fun g=>Qb R [[Ql 0,Ql (wJ (f-16)),Ql (wJ (g+4))]] fun q=>Qc R (Yn ((c.length+q.length)*24)) fun p=>Y4 d e b k0 m (wJ (a+1)) (c++q) else k0 a (decide (a<b)) c
def QB (f:Int) (l:LL) (g:Int) (h i e j k:LL) (c d:Int) (k0:Qkv R):Qkw R
 | 0,_,_,_=>none
 | m+1,a,b,q=>bif decide (a<g) then QjR R l a fun r v=>Qb R (wJ (a+1)) fun co=>Qb R (wJ (a-1)) fun cp=>Qb R (e.length:Int) fun cq=>bif decide (a>f) then Qc R (Yn ((b.length+[[Ql 0,Ql c,Ql d]].length)*24)) fun bu=>Qc R (pIw r) fun ad=>Qb R (b++[[Ql 0,Ql c,Ql d]]) fun cn=>Qk0 R (List.length cn) a cn a.toNat fun ah=>QjH R (List.length cn) a cn a.toNat fun ai=>Qk3 R ai fun ak=>Qc R (XH n q ad ah ak some) fun o=>Qc R (Tv o q.length) fun bz=>bif a==0 then QB f l g h i e j k c d k0 m co cn o else QjR R k cp fun al am=>Qk4 R al am r v fun an ao ap aq=>Qc R (ZK n h i e j an ao ap aq some) fun s=>bif decide (s<0) then QB f l g h i e j k c d k0 m co cn o else bif decide (a<=f) then Qk0 R (List.length cn) a cn a.toNat fun av=>QjH R (List.length cn) cp cn (Int.toNat cp) fun aw=>Qk3 R aw fun ay=>Qc R (XH n o (wJ (cq+s)) av ay some) fun y=>Qc R (Tv y o.length) fun cc=>QB f l g h i e j k c d k0 m co cn y else Qc R (XH n o (wJ (cq+s)) c d some) fun z=>Qc R (Tv z o.length) fun ce=>QB f l g h i e j k c d k0 m co cn z else Qc R (pIw r) fun az=>Qk0 R b.length a b a.toNat fun bc=>QjH R b.length a b a.toNat fun bd=>Qk3 R bd fun bg=>Qc R (XH n q az bc bg some) fun p=>Qc R (Tv p q.length) fun ch=>bif a==0 then QB f l g h i e j k c d k0 m co b p else QjR R k cp fun bh bi=>Qk4 R bh bi r v fun bj bk bl bm=>Qc R (ZK n h i e j bj bk bl bm some) fun t=>bif decide (t<0) then QB f l g h i e j k c d k0 m co b p else bif decide (a<=f) then Qk0 R b.length a b a.toNat fun bp=>QjH R b.length cp b (Int.toNat cp) fun bq=>Qk3 R bq fun bt=>Qc R (XH n p (wJ (cq+t)) bp bt some) fun ab=>Qc R (Tv ab p.length) fun ck=>QB f l g h i e j k c d k0 m co b ab else Qc R (XH n p (wJ (cq+t)) c d some) fun ac=>Qc R (Tv ac p.length) fun cm=>QB f l g h i e j k c d k0 m co b ac else k0 a (decide (a<g)) b q
def Wo (c d e f b:LL) (l:Int) (m:List UInt8) (o p q r s h:Int) (K:Qky R):oP R:=gb true (Hu n c d e f b l m o p q r Tu4) ([],[],0,0) fun a=>bif a.2.2.2 !=0 then K [] 0 a.2.2.2 else QjF R a.2.1 0 fun x=>Qc R (Gh n x some) fun y=>Qb R (wJ ((a.1.length:Int)-1)) fun t=>Y4 n a.1 a.2.1 t (fun aj ak i=>QjF R a.1 (wJ (t-1)) fun ab=>Qc R (VQ n ab some) fun j=>Qb R [[Ql 0,Ql (wJ (j-16)),Ql (wJ (a.2.2.1+h))]] fun u=>Qc R (Yn ((i.length+u.length)*24)) fun al=>QjF R a.1 t fun ae=>Qc R (VQ n ae some) fun ag=>Qc R (JA n c d e f some) fun ah=>QB n t b (b.length:Int) c d e f b (wJ (ag-16)) (wJ (a.2.2.1+20)) (fun am an ao ai=>Qc R (VV n ai some) fun k=>Qc R (Eh [k]) fun ap=>K k a.2.2.1 0) n 0 (i++u) ah) n 1 [[Ql 0,Ql (wJ (0-s)),Ql (wJ (y+4))]]
def WA (e f g h i:LL) (j:Int) (k:List UInt8) (l m o p c d:Int) (K:Qky R):oP R:=Qc R (GN n e f g h i j k l m o p some) fun b=>bif b !=0 then K [] 0 b else bif Q8 (Q8 (Q8 (decide (c<0)) (decide (c>65536))) (decide (d<0))) (decide (d>65536)) then K [] 0 4 else Qc R (Wo n e f g h i j k l m o p c d Tu3) fun a=>K a.1 a.2.1 a.2.2
end Go.Vx
namespace Go.Vx
def cd (a b:Int):Int:=if 0<a % b then a / b+1 else a / b
theorem Lu {a b:Int} (h0:0<=a) (h1:1<=b):a<=cd a b*b/\0<=cd a b/\cd a b<=a / b+1:=by
 have h2:=Int.emod_nonneg a (show b≠0 by omega);have c:=Int.emod_lt_of_pos a (show 0<b by omega);have d:=Int.mul_ediv_add_emod a b;have e:0<=a / b:=Int.ediv_nonneg h0 Q0;have f:b*(a / b)=a / b*b:=Int.mul_comm ..;have g:(a / b+1)*b=a / b*b+b:=by rw [Int.add_mul,Int.one_mul]
 unfold cd;split <;> refine ⟨?_,?_,?_⟩ <;> omega
theorem QfH {a b:Int} (h0:0<=a) (h1:1<=b) (ha:a<=1000000000):nz b=some ()/\(Int.tmod a b=a % b)/\wJ (Int.tdiv a b)=a / b/\wJ (a / b+1)=a / b+1:=by
 have c:0<=a / b:=Int.ediv_nonneg h0 Q0;have d:a / b<=a:=Int.ediv_le_self _ h0;exact ⟨EC Q0,Qpq h0,by rw [Qpu h0,Qn Q0 Q0],Qn Q0 Q0⟩
section
variable {n:Nat} {a b:Int} (h0:0<=a) (h1:1<=b) (ha:a<=1000000000)
include h0 h1 ha
theorem QcW:Kq n a b Tu2=some (cd a b,0):=by
 obtain ⟨e1,e2,e,f⟩:=QfH h0 h1 ha;unfold Kq cd;rw [Qr (by simpa using h1),e1,Qh,Qh,e2,e,f];by_cases h:0<a % b
 ·rw [Xh (by simpa using h),Qpf h]
 ·rw [Qr (by simpa using h),Qph h]
theorem Qdn:JT n a b (some:Int->oP Int)=some (cd a b):=by
 obtain ⟨e1,e2,c,d⟩:=QfH h0 h1 ha;unfold JT cd;rw [e1,Qh,Qh,e2,c,d];by_cases h:0<a % b
 ·rw [Xh (by simpa using h),Qpf h]
 ·rw [Qr (by simpa using h),Qph h]
end
theorem upA {n:Nat} {a:Int} (h0:0<=a) (ha:a<=1000000000):Gh n a (some:Int->oP Int)=some (cd a 1000):=by
 unfold Gh;rw [QcW h0 Q1 ha,Qh]
theorem QcN {a:Int} (h0:0<=a) (ha:a<=1000000000):decide (Int.tmod a 1000<0)=false/\wJ (Int.tdiv a 1000)=a / 1000:=by
 rw [Qpq h0,Qpu h0];exact ⟨by simp;omega,Qn Q0 Q0⟩
theorem Qhr {n:Nat} {a:Int} (h0:0<=a) (ha:a<=1000000000):VQ n a (some:Int->oP Int)=some (a / 1000):=by
 obtain ⟨e1,e2⟩:=QcN h0 ha;unfold VQ PW;rw [Qr Q1,EC Q1,Qh,Qh,e1,Qp9,e2,Qh]
theorem Qgy {n:Nat} {a:Int} (h0:0<=a) (ha:a<=1000000000):J7 n a 1000 (some:Int->oP Int)=some (a / 1000):=by
 obtain ⟨e1,e2⟩:=QcN h0 ha;unfold J7;rw [EC Q1,Qh,Qh,e1,Qp9,e2]
def sq (x:Int):Int:=(SG 400 x (some:Int->oP Int)).getD 0
theorem Q6n {x:Int} (h0:0<=x) (hx:x<=1000000000):QbJ x (sq x)/\SG 400 x (some:Int->oP Int)=some (sq x)/\My 400 x (some:Int->oP Int)=some (sq x):=by
 obtain ⟨r,h1,h2⟩:=Qi1 h0 hx;have e:sq x=r:=by unfold sq;rw [h2];rfl
 rw [e];exact ⟨h1,h2,Qhu h0 hx h1⟩
namespace Run
variable (X:Run)
def S (j:Nat):Int:=sq (X.K (X.N-j))
def T:Nat->Int
 |0=>0
 |b+1=>T b+cd 20000000 (X.S b+X.S (b+1))
variable {X} (h:X.OK)
include h
theorem QeW {j:Nat} (hj:j<=X.N):0<=X.S j/\X.S j<=25000/\(1<=j->j<X.N->1000<=X.S j):=by
 have h1:=Q5j h (X.N-j) Q0;obtain ⟨⟨c,e,f⟩,_,_⟩:=Q6n (x:=X.K (X.N-j)) Q0 Q0;refine ⟨c,Q9v c Q1 e Q0,fun a b=>?_⟩;have h2:=h1.2.2 Q0 Q0;by_cases d:1000<=X.S j
 ·exact d
 ·have:=Q5s (show 0<=sq (X.K (X.N-j))+1 by omega) (show sq (X.K (X.N-j))+1<=1000 by unfold S at d;omega);omega
theorem Q2M {b:Nat} (hb:b<X.N):1000<=X.S b+X.S (b+1)/\X.S b+X.S (b+1)<=50000/\0<=cd 20000000 (X.S b+X.S (b+1))/\cd 20000000 (X.S b+X.S (b+1))<=20001:=by
 have h2:=h.h2;have a:=QeW h (j:=b) Q0;have c:=QeW h (j:=b+1) Q0;have hs:1000<=X.S b+X.S (b+1):=by
  by_cases f:b=0
  ·have:=c.2.2 Q0 Q0;omega
  ·have:=a.2.2 Q0 Q0;omega
 have d:=Lu (show (0:Int)<=20000000 by decide) (show 1<=X.S b+X.S (b+1) by omega);have e:20000000 / (X.S b+X.S (b+1))<=20000:=Int.ediv_le_of_le_mul Q0 Q0;omega
theorem T_rng:∀ b:Nat,b<=X.N->0<=X.T b/\X.T b<=20001*b
 |0,_=>by rw [T];omega
 |b+1,hb=>by
  have:=T_rng b Q0;have:=Q2M h (b:=b) Q0;rw [T];omega
theorem T_mono {a:Nat}:∀ {b:Nat},a<=b->b<=X.N->X.T a<=X.T b
 |0,h1,_=>by rw [show a=0 by omega];omega
 |b+1,h1,h2=>by
  by_cases e:a=b+1
  ·subst e;omega
  ·have:=T_mono (a:=a) (b:=b) Q0 Q0;have:=Q2M h (b:=b) Q0;rw [T];omega
def TT (X:Run):LL:=arr X.T (X.N+1)
theorem Qjl:GR 400 X.C (X.st:Int) X.nm (X.t:Int) X.sp X.ac X.br Tu2=some (arr X.S (X.N+1),0):=by
 have hN:=h.hN;have h2:=h.h2;have hl:=h.hC.len;have ak:JG 400 X.C (X.st:Int) X.nm (X.t:Int) X.sp X.ac X.br (some:Int->oP Int)=some 0:=by
  unfold JG;rw [Am h.hk,Qh,Qr Q1,Qr Q3];refine QD (r:=fun m i=>Z8 400 X.C (X.C.length:Int) _ _ m i) (N:=X.C.length) (fun m k hk=>?_) (fun m=>?_) X.C.length 400 0 Q0 Q0
  ·have b0:=h.hC.b0 k hk;have b1:=h.hC.b1 k hk;have g0:=h.hC.g0 k hk;have g1:=h.hC.g1 k hk;rw [Z8,Qp hk,Qq,h.hC.row k hk];simp -implicitDefEqProofs only [Qh,Qp6,Qp7,Qj,XO,QN,Qpa,Qp9,Qpd,Qpc,show decide ((cl X.C k).1<1000)=false by simp;omega,show decide ((cl X.C k).1>100000)=false by simp;omega,show decide ((cl X.C k).2 < -40)=false by simp;omega,show decide ((cl X.C k).2>40)=false by simp;omega,QC (show k<=1000 by omega)]
  ·rw [Z8,Qz,Qp9,Qn Q0 Q0,show decide ((X.st:Int)<0)=false by simp,show decide ((X.st:Int)>(X.C.length:Int)-2)=false by simp;omega];rfl
 unfold GR;rw [ak,Qh,Qr (by rfl),sqA h,Qh];have hW:X.W.length=X.N+1:=Zg;rw [hW];have:=QD (r:=fun m i=>Wc 400 ((X.N+1:Nat):Int) (fun _ _ d=>some (d,(0:Int))) m i (arr (fun j=>if j<i.toNat then X.S j else X.K (X.N-j)) (X.N+1))) (N:=X.N+1) (e:=some (arr X.S (X.N+1),0)) (fun m k hk=>?_) (fun m=>?_) (X.N+1) 400 0 Q0 Q0
 ·rw [show arr (fun j=>if j<(((0:Nat):Int)).toNat then X.S j else X.K (X.N-j)) (X.N+1)=X.W from Y8 fun j hj=>Qph Q2] at this;exact this
 ·simp only [Qp8];have hK:=Q5j h (X.N-k) Q0;rw [Wc,Qp hk,Qpa,Zg,Q8J hk,Qph (Nat.lt_irrefl k),(Q6n Q0 Q0).2.1,Qh,Qb8 hk,QC Q0];refine congrArg _ (Y8 fun j hj=>?_);by_cases aj:j=k
  ·subst aj;rw [Qpf rfl,Qpf Q0];rfl
  ·rw [Qph aj];by_cases a:j<k
   ·rw [Qpf a,Qpf Q0]
   ·rw [Qph a,Qph Q0]
 ·simp only [Qp8];rw [Wc,Qz,Qp9];exact congrArg (fun l=>some (l,(0:Int))) (Y8 fun j hj=>Qpf hj)
theorem timA:JV 400 X.C (X.st:Int) X.nm (X.t:Int) X.sp X.ac X.br Tu2=some (X.TT,0):=by
 have hN:=h.hN;have hl:=h.hC.len;unfold JV;rw [Qjl h,Qh,Qr (by rfl),Zg,show (bif decide ((0:Int)<=((X.N+1:Nat):Int))&&decide (((X.N+1:Nat):Int)<=((X.N+1:Nat):Int)) then some () else none)=some () by rw [Xh Q3],Qh,Qp8,XJ Q0,Qh,Bn];have:=QD (r:=fun m i=>U3 400 (arr X.S (X.N+1)) (fun _ _ g=>some (g,(0:Int))) m ((i.toNat+1:Nat):Int) (arr (fun j=>if j<=i.toNat then X.T j else 0) (X.N+1))) (N:=X.N) (e:=some (X.TT,0)) (fun m k hk=>?_) (fun m=>?_) X.N 400 0 Q0 Q0
 ·rw [show arr (fun j=>if j<=(((0:Nat):Int)).toNat then X.T j else 0) (X.N+1)=arr (fun _=>0) (X.N+1) from Y8 fun j hj=>by
   split
   ·rename_i h0;have h0:j=0:=by simpa using h0
    rw [h0,T]
   ·rfl] at this
  exact this
 ·simp only [Qp8];have hi:=Q2M h hk;have hT:=T_rng h k Q0;rw [U3,Zg,Qp (show k+1<X.N+1 by omega),Qpa,JP (show k+1<=1000 by omega) Q0,show k+1-1=k by omega,Qq,Qq,Gz (show k<X.N+1 by omega),Gz (show k+1<X.N+1 by omega)];simp -implicitDefEqProofs only [Qh,Qp6,Qj,wI (a:=X.S k+X.S (k+1)) rfl (show -1000000<=X.S k+X.S (k+1) by omega) (show X.S k+X.S (k+1)<=1000000000 by omega),QcW (n:=400) (show (0:Int)<=20000000 by decide) (show 1<=X.S k+X.S (k+1) by omega) Q1];rw [Zg,Q8J (show k<X.N+1 by omega),Qpf (Qpm k),Qb8 (show k+1<X.N+1 by omega),QC Q0,wI (a:=X.T k+cd 20000000 (X.S k+X.S (k+1))) (b:=X.T (k+1)) rfl (by rw [T];omega) (by rw [T];omega)];refine congrArg _ (Y8 fun j hj=>?_);by_cases aj:j=k+1
  ·subst aj;rw [Qpf rfl,Qpf Q0]
  ·rw [Qph aj];by_cases c:j<=k
   ·rw [Qpf c,Qpf Q0]
   ·rw [Qph c,Qph Q0]
 ·simp only [Qp8];rw [U3,Zg,Qz,Qp9];exact congrArg (fun l=>some (l,(0:Int))) (Y8 fun j hj=>Qpf Q0)
end Run
namespace Run
variable {X:Run} (h:X.OK)
include h
theorem Qj6:Bi 400 X.C (X.st:Int) X.nm (X.t:Int) X.sp X.ac X.br (some:Int->oP Int)=some 0:=by
 have hN:=h.hN;have h2:=h.h2;have hl:=h.hC.len;obtain ⟨t1,t2,s1,s2,a1,a2,b1,b2⟩:=h.hk;have aj:Yl 400 X.nm (X.t:Int) X.sp X.ac X.br (some:Bool->oP Bool)=some true:=by
  unfold Yl;simp -implicitDefEqProofs only [Qh,Qp6,Qp7,Qj,XO,QN,Qpa,Qp9,Qpd,Qpc,Q57 t1 (show (X.t:Int)<=40 by omega),Q57 (show 1000<=X.sp by omega) (show X.sp<=100000 by omega),Q57 (show 100<=X.ac by omega) (show X.ac<=2000 by omega),Q57 (show 100<=X.br by omega) (show X.br<=2000 by omega)]
 unfold Bi;rw [aj,Qh,Qr Q1,Qr Q3];refine QD (r:=fun m i=>KP 400 X.C _ _ m i) (N:=X.C.length) (fun m k hk=>?_) (fun m=>?_) X.C.length 400 0 Q0 Q0
 ·have b0:=h.hC.b0 k hk;have b1:=h.hC.b1 k hk;have g0:=h.hC.g0 k hk;have g1:=h.hC.g1 k hk;rw [KP,Qp hk,Qq,h.hC.row k hk];simp -implicitDefEqProofs only [Qh,Qp6,Qp7,Qj,XO,QN,Qpa,Qp9,Qpd,Qpc,Q57 (show 1000<=(cl X.C k).1 by omega) (show (cl X.C k).1<=100000 by omega),Q57 (show -40<=(cl X.C k).2 by omega) (show (cl X.C k).2<=40 by omega),QC (show k<=1000 by omega)]
 ·rw [KP,Qz,Qp9,Qn Q0 Q0,show decide ((X.st:Int)<0)=false by simp,show decide ((X.st:Int)>(X.C.length:Int)-2)=false by simp;omega];rfl
theorem Qjp:RH 400 X.C (X.st:Int) X.nm (X.t:Int) X.sp X.ac X.br Tu2=some (arr X.S (X.N+1),0):=by
 have hN:=h.hN;have h2:=h.h2;have hl:=h.hC.len;have t2:=h.hk.t2;have hw:wJ ((X.C.length:Int)-(X.st:Int))=(X.N:Int):=by rw [Qn Q0 Q0];omega
 unfold RH;rw [Qj6 h,Qh,Qr (by rfl),hw,QC Q0,show (bif decide ((0:Int)<=((X.N+1:Nat):Int))&&decide (((X.N+1:Nat):Int)<=((X.N+1:Nat):Int)) then some () else none)=some () by rw [Xh Q3],Qh,Qp8,XJ Q0,Qh,Bn];have e1:∀ k0:Int->Bool->LL->oP (LL×Int),V5 400 X.C (X.st:Int) (X.N:Int) X.nm (X.t:Int) X.sp X.ac X.br k0 400 (1:Int) (arr (fun _=>0) (X.N+1))=k0 (X.N:Int) false (arr (fun j=>if 1<=j/\j<=X.N-1 then X.V j else 0) (X.N+1)):=by
  intro k0;have:=QD (r:=fun m i=>V5 400 X.C (X.st:Int) (X.N:Int) X.nm (X.t:Int) X.sp X.ac X.br k0 m ((i.toNat+1:Nat):Int) (arr (fun j=>if 1<=j/\j<=i.toNat then X.V j else 0) (X.N+1))) (N:=X.N-1) (e:=k0 (X.N:Int) false (arr (fun j=>if 1<=j/\j<=X.N-1 then X.V j else 0) (X.N+1))) (fun m i hi=>?_) (fun m=>?_) (X.N-1) 400 0 Q0 Q0
  ·rw [show arr (fun j=>if 1<=j/\j<=(((0:Nat):Int)).toNat then X.V j else 0) (X.N+1)=arr (fun _=>0) (X.N+1) from Y8 fun j hj=>Qph Q3] at this;exact this
  ·simp only [Qp8];have aw:=QaS h (b:=i+1) Q0;have hV:=QdZ h (b:=i+1) Q0;rw [V5,Qp (show i+1<X.N by omega),Qpa,wI (show (X.st:Int)+((i+1:Nat):Int)=((X.st+(i+1):Nat):Int) by omega) Q0 Q0,wI (show ((X.st+(i+1):Nat):Int)-1=((X.st+i:Nat):Int) by omega) Q0 Q0,QiM h.hC Q0 Q0,Qh,QiM h.hC Q0 Q0,Qh,Zg,Qb8 Q0,QC Q0];refine congrArg _ (Y8 fun j hj=>?_);have e1:(if Q88 X.C X.sp (X.st+(i+1)) X.t<Q88 X.C X.sp (X.st+i) X.t then Q88 X.C X.sp (X.st+(i+1)) X.t else Q88 X.C X.sp (X.st+i) X.t)=X.lo (i+1):=rfl;by_cases aj:j=i+1
   ·subst aj;rw [Qpf rfl,e1,wI (a:=X.lo (i+1)*X.lo (i+1)) (b:=X.V (i+1)) rfl Q0 Q0,Qpf Q0]
   ·rw [Qph aj];by_cases d:1<=j/\j<=i
    ·rw [Qpf d,Qpf Q0]
    ·rw [Qph d,Qph Q0]
  ·simp only [Qp8];rw [show X.N-1+1=X.N by omega,V5,Qz,Qp9]
 rw [e1];have e2:∀ k0:Int->Bool->LL->oP (LL×Int),Vb 400 X.C (X.st:Int) (X.N:Int) X.nm (X.t:Int) X.sp X.ac X.br k0 400 (0:Int) (arr (fun j=>if 1<=j/\j<=X.N-1 then X.V j else 0) (X.N+1))=k0 (X.N:Int) false (arr (fun j=>if j<=X.N-1 then X.F j else 0) (X.N+1)):=by
  intro k0;have:=QD (r:=fun m i=>Vb 400 X.C (X.st:Int) (X.N:Int) X.nm (X.t:Int) X.sp X.ac X.br k0 m i (arr (fun j=>if j<=X.N-1 then (if j<=i.toNat then X.F j else X.V j) else 0) (X.N+1))) (N:=X.N) (e:=k0 (X.N:Int) false (arr (fun j=>if j<=X.N-1 then X.F j else 0) (X.N+1))) (fun m i hi=>?_) (fun m=>?_) X.N 400 0 Q0 Q0
  ·rw [show arr (fun j=>if j<=X.N-1 then (if j<=(((0:Nat):Int)).toNat then X.F j else X.V j) else 0) (X.N+1)=arr (fun j=>if 1<=j/\j<=X.N-1 then X.V j else 0) (X.N+1) from Y8 fun j hj=>by
    by_cases q:j=0
    ·subst q;rw [Qpf Q0,Qpf Q2,Qph Q0,F]
    ·by_cases c:j<=X.N-1
     ·rw [Qpf c,Qph Q3,Qpf Q0]
     ·rw [Qph c,Qph Q0]] at this
   exact this
  ·simp only [Qp8];have f:=h.hC.g0 (X.st+i) Q0;have g:=h.hC.g1 (X.st+i) Q0;have hr:=row h (b:=i) Q0;have hF:=Qbz h i Q0;have hG:=Qdk h (b:=i) Q0;have ha:=Q5F h.hk.a1 h.hk.a2 f g;rw [Vb,Qp hi,Qpa,QC Q0,Zg,Q8J (show i+1<X.N+1 by omega),Q8J (show i<X.N+1 by omega),wI (show (X.st:Int)+(i:Int)=((X.st+i:Nat):Int) by omega) Q0 Q0,Qq,hr];simp -implicitDefEqProofs only [Qh,Qp6,Qp7,Qj,XO,QN,Qpa,Qp9,Qpd,Qpc,QeR h.hk.a1 h.hk.a2 f g];rw [Qb8 (show i+1<X.N+1 by omega),Qpf (show i<=X.N-1 by omega),Qpf (Qpm i),Qph (show ¬ i+1<=i by omega),wI (a:=20000*acc X.ac (cl X.C (X.st+i)).2) (b:=X.G i) rfl Q0 Q0,wI (a:=X.F i+X.G i) (b:=X.F i+X.G i) rfl Q0 Q0];refine congrArg _ (Y8 fun j hj=>?_);by_cases aj:j=i+1
   ·subst aj;rw [Qpf rfl];by_cases n:i+1<=X.N-1
    ·rw [Qpf n,Qpf n,Qpf (Qpm (i+1)),F]
    ·rw [Qph n,Qph (show ¬ X.F i+X.G i<0 by omega),Qph n]
   ·rw [Qph aj];by_cases c:j<=X.N-1
    ·rw [Qpf c,Qpf c];by_cases d:j<=i
     ·rw [Qpf d,Qpf Q0]
     ·rw [Qph d,Qph Q0]
    ·rw [Qph c,Qph c]
  ·simp only [Qp8];rw [Vb,Qz,Qp9];refine congrArg _ (Y8 fun j hj=>?_);by_cases c:j<=X.N-1
   ·rw [Qpf c,Qpf c,Qpf Q0]
   ·rw [Qph c,Qph c]
 rw [e2];have s:∀ k0:Int->Bool->LL->oP (LL×Int),Ve 400 X.C (X.st:Int) X.nm (X.t:Int) X.sp X.ac X.br k0 400 (X.N:Int) (arr (fun j=>if j<=X.N-1 then X.F j else 0) (X.N+1))=k0 0 false X.W:=by
  intro k0;have:=QD (r:=fun m i=>Ve 400 X.C (X.st:Int) X.nm (X.t:Int) X.sp X.ac X.br k0 m ((X.N-i.toNat:Nat):Int) (arr (fun j=>if X.N-j<=i.toNat then X.K (X.N-j) else X.F j) (X.N+1))) (N:=X.N) (e:=k0 0 false X.W) (fun m i hi=>?_) (fun m=>?_) X.N 400 0 Q0 Q0
  ·rw [show arr (fun j=>if X.N-j<=(((0:Nat):Int)).toNat then X.K (X.N-j) else X.F j) (X.N+1)=arr (fun j=>if j<=X.N-1 then X.F j else 0) (X.N+1) from Y8 fun j hj=>by
    by_cases aq:j=X.N
    ·subst aq;rw [Qpf Q2,Qph Q0,Nat.sub_self,K]
    ·rw [Qph Q3,Qpf Q0]] at this
   exact this
  ·simp only [Qp8];obtain ⟨b,hb⟩:∃ b,b+1=X.N-i:=⟨X.N-i-1,Q0⟩;have f:=h.hC.g0 (X.st+b) Q0;have g:=h.hC.g1 (X.st+b) Q0;have hr:=row h (b:=b) Q0;have hK:=Q5j h i Q0;have hL:=Qcg h (b:=b) Q0;have au:=Q5M h.hk.b1 h.hk.b2 f g;rw [<- hb,Ve,Xh Q2,JP (show b+1<=1000 by omega) Q0,Qpn,Zg,Q8J (show b<X.N+1 by omega),Q8J (show b+1<X.N+1 by omega),wI (show (X.st:Int)+((b+1:Nat):Int)=((X.st+b+1:Nat):Int) by omega) Q0 Q0,JP (show X.st+b+1<=1000 by omega) Q0,Qpn,Qq,hr];simp -implicitDefEqProofs only [Qh,Qp6,Qp7,Qj,XO,QN,Qpa,Qp9,Qpd,Qpc,Qgo h.hk.b1 h.hk.b2 f g];rw [Qb8 (show b<X.N+1 by omega),show X.N-(i+1)=b by omega,Qph (show ¬ X.N-b<=i by omega),Qpf (show X.N-(b+1)<=i by omega),show X.N-(b+1)=i by omega,wI (a:=20000*brk X.br (cl X.C (X.st+b)).2) (b:=X.L b) rfl Q0 Q0,wI (a:=X.K i+X.L b) (b:=X.K i+X.L b) rfl Q0 Q0];refine congrArg _ (Y8 fun j hj=>?_);by_cases ak:j=b
   ·subst ak;rw [Qpf rfl,Qpf (show X.N-j<=i+1 by omega),show X.N-j=i+1 by omega,K,show X.N-(i+1)=j by omega]
   ·rw [Qph ak];by_cases d:X.N-j<=i
    ·rw [Qpf d,Qpf Q0]
    ·rw [Qph d,Qph Q0]
  ·simp only [Qp8];rw [Nat.sub_self,Ve,Qr Q1];refine congrArg _ (Y8 fun j hj=>Qpf Q0)
 rw [s];have:=QD (r:=fun m i=>J3 400 (X.N:Int) (fun _ _ t=>some (t,(0:Int))) m i (arr (fun j=>if j<i.toNat then X.S j else X.K (X.N-j)) (X.N+1))) (N:=X.N+1) (e:=some (arr X.S (X.N+1),0)) (fun m k hk=>?_) (fun m=>?_) (X.N+1) 400 0 Q0 Q0
 ·rw [show arr (fun j=>if j<(((0:Nat):Int)).toNat then X.S j else X.K (X.N-j)) (X.N+1)=X.W from Y8 fun j hj=>Qph Q2] at this;exact this
 ·simp only [Qp8];have hK:=Q5j h (X.N-k) Q0;rw [J3,Xh Q3,Zg,Q8J hk,Qph (Nat.lt_irrefl k),(Q6n Q0 Q0).2.2,Qh,Qb8 hk,QC Q0];refine congrArg _ (Y8 fun j hj=>?_);by_cases an:j=k
  ·subst an;rw [Qpf rfl,Qpf Q0];rfl
  ·rw [Qph an];by_cases d:j<k
   ·rw [Qpf d,Qpf Q0]
   ·rw [Qph d,Qph Q0]
 ·simp only [Qp8];rw [J3,Qr Q3];exact congrArg (fun l=>some (l,(0:Int))) (Y8 fun j hj=>Qpf hj)
theorem timB:Sj 400 X.C (X.st:Int) X.nm (X.t:Int) X.sp X.ac X.br Tu2=some (X.TT,0):=by
 have hN:=h.hN;have hl:=h.hC.len;unfold Sj;rw [Qjp h,Qh,Qr (by rfl),Zg,show (bif decide ((0:Int)<=((X.N+1:Nat):Int))&&decide (((X.N+1:Nat):Int)<=((X.N+1:Nat):Int)) then some () else none)=some () by rw [Xh Q3],Qh,Qp8,XJ Q0,Qh,Bn];have:=QD (r:=fun m i=>JB 400 (arr X.S (X.N+1)) (fun _ _ o=>some (o,(0:Int))) m ((i.toNat+1:Nat):Int) (arr (fun j=>if j<=i.toNat then X.T j else 0) (X.N+1))) (N:=X.N) (e:=some (X.TT,0)) (fun m k hk=>?_) (fun m=>?_) X.N 400 0 Q0 Q0
 ·rw [show arr (fun j=>if j<=(((0:Nat):Int)).toNat then X.T j else 0) (X.N+1)=arr (fun _=>0) (X.N+1) from Y8 fun j hj=>by
   split
   ·rename_i c;have c:j=0:=by simpa using c
    rw [c,T]
   ·rfl] at this
  exact this
 ·simp only [Qp8];have hi:=Q2M h hk;have hT:=T_rng h k Q0;rw [JB,Zg,Qp (show k+1<X.N+1 by omega),Qpa,JP (show k+1<=1000 by omega) Q0,show k+1-1=k by omega,Zg,Q8J (show k<X.N+1 by omega),Qpf (Qpm k),Qq,Qq,Gz (show k<X.N+1 by omega),Gz (show k+1<X.N+1 by omega)];simp -implicitDefEqProofs only [Qh,Qp6,Qj,wI (a:=X.S k+X.S (k+1)) rfl (show -1000000<=X.S k+X.S (k+1) by omega) (show X.S k+X.S (k+1)<=1000000000 by omega),Qdn (n:=400) (show (0:Int)<=20000000 by decide) (show 1<=X.S k+X.S (k+1) by omega) Q1];rw [Qb8 (show k+1<X.N+1 by omega),QC Q0,wI (a:=X.T k+cd 20000000 (X.S k+X.S (k+1))) (b:=X.T (k+1)) rfl (by rw [T];omega) (by rw [T];omega)];refine congrArg _ (Y8 fun j hj=>?_);by_cases aj:j=k+1
  ·subst aj;rw [Qpf rfl,Qpf Q0]
  ·rw [Qph aj];by_cases d:j<=k
   ·rw [Qpf d,Qpf Q0]
   ·rw [Qph d,Qph Q0]
 ·simp only [Qp8];rw [JB,Zg,Qz,Qp9];exact congrArg (fun l=>some (l,(0:Int))) (Y8 fun j hj=>Qpf Q0)
end Run
def sl (Se s:LL) (j:Nat):Nat:=(SM Se (s.getD j [])).length
def pos (Se s:LL):Nat->Nat
 |0=>0
 |j+1=>pos Se s j+sl Se s (j+1)
theorem N4 {f:Nat->Int} {n:Nat}:arr f n++[[Ql (f n)]]=arr f (n+1):=by simp [arr,List.range_succ]
section
variable {Se s:LL} (hs:∀ r∈s,CM Se r)
include hs
theorem Ex {j:Nat} (hj:j<s.length):∃ (x d:Int) (nm:List UInt8) (b c st:Int),s[j]? = some [Ql x,Ql d]/\Qi Se x=some [D.str nm,Ql (sl Se s j),Ql b,Ql c,Ql st]/\2<=sl Se s j/\sl Se s j<=12/\(d=0\/d=1):=by
 obtain ⟨x,d,nm,a,b,c,st,e,f,h2,g⟩:=hs _ (Qpk hj);have a0:=h2.a0;have a1:=h2.a1;have e2:s[j]? = some [Ql x,Ql d]:=by rw [Qpb hj,e]
 have h:sl Se s j=a.toNat:=by
  unfold sl;rw [Qpg,e2];show (SM Se [Ql x,Ql d]).length=_;rw [HR f,List.length_replicate]
 refine ⟨x,d,nm,b,c,st,e2,?_,Q0,Q0,g⟩;rw [f,h,show (a.toNat:Int)=a by omega]
omit hs in
theorem Q3T:∀ {j:Nat},j<s.length->(YF Se (s.take (j+1))).length=sl Se s 0+pos Se s j
 |0,hj=>by
  rw [MQ (Qpb hj)];simp only [List.take_zero,YF,List.flatMap_nil,List.nil_append,pos,sl,Qpg,Qpb hj,Qpt];omega
 |j+1,hj=>by
  have:=Q3T (j:=j) Q0;rw [MQ (Qpb hj),QpA,this,pos];simp only [sl,Qpg,Qpb hj,Qpt];omega
omit hs in
theorem Q9B {i j:Nat} (a:i<=j):pos Se s i<=pos Se s j:=by
 induction j with
 |zero=>rw [show i=0 by omega];omega
 |succ j ih=>
  by_cases e:i=j+1
  ·subst e;omega
  ·have:=ih Q0;rw [pos];omega
theorem Q6O {i j:Nat} (a:i<j) (h2:j<s.length):pos Se s i+2<=pos Se s j:=by
 obtain ⟨_,_,_,_,_,_,_,_,b,_⟩:=Ex hs (j:=i+1) Q0;have:=Q9B (Se:=Se) (s:=s) (i:=i+1) (j:=j) Q0;rw [pos] at this;omega
end
def Zc (Se s:LL) (nm:List UInt8) (tl sp ac br:Int):Run:=⟨YF Se s,nm,sp,ac,br,tl.toNat,sl Se s 0,pos Se s (s.length-1)⟩
section
variable {St Pt Se Li s:LL} (h:RtF St Pt Se Li s) {nm:List UInt8} {tl sp ac br:Int} (hk:StkN tl sp ac br)
include h
theorem A9:TQ Se s=(sl Se s 0:Int):=by
 have l2:=h.l2;obtain ⟨x,d,_,b,c,st,e,a,_⟩:=Ex h.st (j:=0) Q0;cases s with
 |nil=>cases e
 |cons r t=>
  injection e with e
  subst e;simp only [TQ,a]
include hk
theorem MS:(Zc Se s nm tl sp ac br).OK where
 hC:=Q91 h.st h.l24
 hk:=by
  have:=hk.t1;show StkN (tl.toNat:Int) sp ac br;rw [show (tl.toNat:Int)=tl by omega];exact hk
 hN:=by
  have l2:=h.l2;have:=Q3T (Se:=Se) (s:=s) (j:=s.length-1) Q0;rw [show s.length-1+1=s.length by omega,Qpy] at this;exact this
 h2:=by
  have l2:=h.l2;have:=Q6O h.st (i:=0) (j:=s.length-1) Q0 Q0;show 2<=pos Se s (s.length-1);omega
end
section
variable {St Pt Se Li s:LL} (h:RtF St Pt Se Li s) {nm:List UInt8} {tl sp ac br:Int} (hk:StkN tl sp ac br)
def fEN (Se s:LL) (X:Run) (j:Nat):Int:=X.T (pos Se s (j-1))
def fLV (Se s:LL) (X:Run) (j:Nat):Int:=if j<s.length-1 then X.T (pos Se s j+X.t) else X.T X.N
def Q0W (X:Run):Int:=cd (X.T X.N) 1000
include h hk
theorem tEq:(((Zc Se s nm tl sp ac br).t:Nat):Int)=tl:=by
 have _:=h.l2;have:=hk.t1;show (tl.toNat:Int)=tl;omega
theorem QdY:JV 400 (YF Se s) (sl Se s 0:Int) nm tl sp ac br Tu2=some ((Zc Se s nm tl sp ac br).TT,0):=by
 have:=Run.timA (MS h (nm:=nm) hk);rw [tEq h hk] at this;exact this
theorem Qdv:Sj 400 (YF Se s) (sl Se s 0:Int) nm tl sp ac br Tu2=some ((Zc Se s nm tl sp ac br).TT,0):=by
 have:=Run.timB (MS h (nm:=nm) hk);rw [tEq h hk] at this;exact this
theorem Q1g {b:Nat} (hb:b<=(Zc Se s nm tl sp ac br).N):0<=(Zc Se s nm tl sp ac br).T b/\(Zc Se s nm tl sp ac br).T b<=7000000:=by
 have hX:=MS h (nm:=nm) hk;have a:=Run.T_rng hX b hb;have:=hX.hN;have:=hX.hC.len;omega
theorem MG:0<=Q0W (Zc Se s nm tl sp ac br)/\Q0W (Zc Se s nm tl sp ac br)<=7001:=by
 have a:=Q1g h (nm:=nm) hk (Qpm _);have:=Lu a.1 (show (1:Int)<=1000 by decide);unfold Q0W;omega
theorem Qeg {j:Nat} (hj:j<s.length):pos Se s j<=(Zc Se s nm tl sp ac br).N/\(j<s.length-1->pos Se s j+(Zc Se s nm tl sp ac br).t<=(Zc Se s nm tl sp ac br).N):=by
 have a:=Q9B (Se:=Se) (s:=s) (i:=j) (j:=s.length-1) Q0;have h2:=tEq h (nm:=nm) hk;have:=hk.t2;refine ⟨a,fun b=>?_⟩;have:=Q6O h.st (i:=j) (j:=s.length-1) b Q0;show pos Se s j+_<=pos Se s (s.length-1);omega
theorem Qf6:Hu 400 St Pt Se Li s 0 nm tl sp ac br Tu4=some (arr (fEN Se s (Zc Se s nm tl sp ac br)) s.length,arr (fLV Se s (Zc Se s nm tl sp ac br)) s.length,Q0W (Zc Se s nm tl sp ac br),0):=by
 have l2:=h.l2;have l24:=h.l24;have ht:=tEq h (nm:=nm) hk;have hX:=MS h (nm:=nm) hk;have au:=hX.hN;have ar:=hX.hC.len;have ao:=QdY h (nm:=nm) hk;have ak:=fun (j:Nat) (hj:j<s.length)=>Qeg h (nm:=nm) hk hj
 have an:=Q1g h (nm:=nm) hk (Qpm _);have hN:(Zc Se s nm tl sp ac br).N=pos Se s (s.length-1):=rfl;unfold Hu;rw [QiT h.lay rfl h.l2 h.l24 h.rt h.st hk,Qh,Qr (by rfl),A9 h,ao,Qh,Q1e h.l24,Qh];revert hX au ar ak an hN ht;generalize Zc Se s nm tl sp ac br=X;intro ht hX au ar ak an hN;have p:∀ k0:Int->Int->Bool->LL->LL->oP (LL×LL×Int×Int),Yd 400 X.TT s s (s.length:Int) Se tl k0 400 0 0 [] []=k0 ((pos Se s (s.length-1):Nat):Int) (s.length:Int) false (arr (fEN Se s X) s.length) (arr (fLV Se s X) (s.length-1)):=by
  intro k0;refine QD (r:=fun m i=>Yd 400 X.TT s s (s.length:Int) Se tl k0 m ((pos Se s (i.toNat-1):Nat):Int) i (arr (fEN Se s X) i.toNat) (arr (fLV Se s X) (min i.toNat (s.length-1)))) (N:=s.length) (fun m i hi=>?_) (fun m=>?_) s.length 400 0 Q0 Q0
  ·simp only [Qp8];obtain ⟨x,d,a3,b,c,st,e,q,a0,a1,hd⟩:=Ex h.st hi;have hp:=ak (i-1) Q0;have f:=ak i hi;rw [Yd,Qp hi,Qpa,Qq,e];have hT:Qi X.TT ((pos Se s (i-1):Nat):Int)=some [Ql (fEN Se s X i)]:=by rw [Qq];exact Gz Q0
   have hr:Yn (((arr (fEN Se s X) i).length+List.length [[D.int .i64 (fEN Se s X i)]])*8)=some ():=XJ (by simp only [Zg,Qps,Qpv];omega);simp -implicitDefEqProofs only [Qh,Qp6,Qp7,Qj,hT,hr,N4,wI (show (i:Int)+1=((i+1:Nat):Int) by omega) Q0 Q0,wI (show (s.length:Int)-1=((s.length-1:Nat):Int) by omega) Q0 Q0];have aw:i<s.length-1->Qi X.TT ((pos Se s i+X.t:Nat):Int)=some [Ql (fLV Se s X i)]:=fun aj=>by
    have:=f.2 aj;rw [Qq];show (arr X.T (X.N+1))[pos Se s i+X.t]? = _;rw [Gz Q0];unfold fLV;rw [Qpf aj]
   have a:∀ k,k<=30->Yn (((arr (fLV Se s X) k).length+List.length [[D.int .i64 (fLV Se s X k)]])*8)=some ():=fun k hk=>XJ (by simp only [Zg,Qps,Qpv];omega)
   by_cases t:i=0
   ·subst t;have aq:0<s.length-1:=Q0
    have:=aw aq;rw [show decide (((0:Nat):Int)>0)=false from rfl,Qp9,Qp aq,Qpa,wI (show ((pos Se s (0-1):Nat):Int)+tl=((pos Se s 0+X.t:Nat):Int) by rw [<- ht,show 0-1=0 from rfl];omega) Q0 Q0,this,Nat.min_eq_left Q0,Nat.min_eq_left Q0];simp -implicitDefEqProofs only [Qh,Qp6,Qj,a 0 Q0,N4]
   ·have a2:pos Se s i=pos Se s (i-1)+sl Se s i:=by
     obtain ⟨k,rfl⟩:∃ k,i=k+1:=⟨i-1,Q0⟩;rfl
    rw [show decide ((i:Int)>0)=true by simp;omega,Qpa,q];simp -implicitDefEqProofs only [Qh,Qp6,Qp7,Qj,wI (show ((pos Se s (i-1):Nat):Int)+((sl Se s i:Nat):Int)=((pos Se s i:Nat):Int) by omega) Q0 Q0,Qpn];by_cases aj:i<s.length-1
    ·rw [Qp aj,Qpa,wI (show ((pos Se s i:Nat):Int)+tl=((pos Se s i+X.t:Nat):Int) by omega) (by have:=f.2 aj;omega) (by have:=f.2 aj;omega),aw aj,Nat.min_eq_left Q0,Nat.min_eq_left Q0];simp -implicitDefEqProofs only [Qh,Qp6,Qj,a i Q0,N4]
    ·rw [show decide ((i:Int)<((s.length-1:Nat):Int))=false by simp;omega,Qp9,Nat.min_eq_right Q0,Nat.min_eq_right Q0]
  ·simp only [Qp8];rw [Yd,Qz,Qp9,Nat.min_eq_right Q0]
 rw [p];have hT:Qi X.TT ((pos Se s (s.length-1):Nat):Int)=some [Ql (fLV Se s X (s.length-1))]:=by
  rw [Qq];show (arr X.T (X.N+1))[pos Se s (s.length-1)]? = _;rw [Gz Q0];unfold fLV;rw [Qph Q0,hN]
 have hl:fLV Se s X (s.length-1)=X.T X.N:=by unfold fLV;rw [Qph Q0]
 have a:Yn (((arr (fLV Se s X) (s.length-1)).length+List.length [[D.int .i64 (fLV Se s X (s.length-1))]])*8)=some ():=XJ (by simp only [Zg,Qps,Qpv];omega);simp -implicitDefEqProofs only [hT,Qh,Qp6,Qj,a,N4];rw [hl,upA an.1 Q0,Qh,show s.length-1+1=s.length by omega];rfl
theorem QhG:PU 400 St Pt Se Li s 0 nm tl sp ac br Tu4=some (arr (fEN Se s (Zc Se s nm tl sp ac br)) s.length,arr (fLV Se s (Zc Se s nm tl sp ac br)) s.length,Q0W (Zc Se s nm tl sp ac br),0):=by
 have l2:=h.l2;have l24:=h.l24;have ht:=tEq h (nm:=nm) hk;have t1:=hk.t1;have hX:=MS h (nm:=nm) hk;have au:=hX.hN;have ar:=hX.hC.len;have aq:=Qdv h (nm:=nm) hk;have aj:=fun (j:Nat) (hj:j<s.length)=>Qeg h (nm:=nm) hk hj
 have an:=Q1g h (nm:=nm) hk (Qpm _);have hN:(Zc Se s nm tl sp ac br).N=pos Se s (s.length-1):=rfl;unfold PU;rw [Qae h hk,Qh,Qr (by rfl),Q9U h,Qh,A9 h,aq,Qh];revert hX au ar aj an hN ht;generalize Zc Se s nm tl sp ac br=X;intro ht hX au ar aj an hN;have ak:X.TT.length=X.N+1:=Zg;have hw:wJ ((s.length:Int)-0)=(s.length:Int):=by rw [Qn Q0 Q0];omega
 have p:∀ k0:Int->Int->Bool->LL->LL->oP (LL×LL×Int×Int),ZM 400 X.TT Se s 0 tl k0 400 0 0 [] []=k0 ((pos Se s (s.length-1):Nat):Int) (s.length:Int) false (arr (fEN Se s X) s.length) (arr (fLV Se s X) s.length):=by
  intro k0;refine QD (r:=fun m i=>ZM 400 X.TT Se s 0 tl k0 m ((pos Se s (i.toNat-1):Nat):Int) i (arr (fEN Se s X) i.toNat) (arr (fLV Se s X) i.toNat)) (N:=s.length) (fun m i hi=>?_) (fun m=>?_) s.length 400 0 Q0 Q0
  ·simp only [Qp8];obtain ⟨x,d,a3,b,c,st,e,q,a0,a1,hd⟩:=Ex h.st hi;have hp:=aj (i-1) Q0;have t:=aj i hi;have hT:Qi X.TT ((pos Se s (i-1):Nat):Int)=some [Ql (fEN Se s X i)]:=by rw [Qq];exact Gz Q0
   have hr:Yn (((arr (fEN Se s X) i).length+List.length [[D.int .i64 (fEN Se s X i)]])*8)=some ():=XJ (by simp only [Zg,Qps,Qpv];omega);have a:Yn (((arr (fLV Se s X) i).length+List.length [[D.int .i64 (fLV Se s X i)]])*8)=some ():=XJ (by simp only [Zg,Qps,Qpv];omega);have aw:Qi X.TT (if (X.N:Int)<((pos Se s i+X.t:Nat):Int) then (X.N:Int) else ((pos Se s i+X.t:Nat):Int))=some [Ql (fLV Se s X i)]:=by
    unfold fLV;by_cases ao:i<s.length-1
    ·have:=t.2 ao;rw [Qph Q0,Qpf ao,Qq];exact Gz Q0
    ·have e:i=s.length-1:=Q0
     rw [Qpf (by rw [hN,e];omega),Qph ao,Qq];exact Gz Q0
   rw [ZM,hw,Qp hi,Qpa,ak,wI (show ((X.N+1:Nat):Int)-1=(X.N:Int) by omega) Q0 Q0];simp -implicitDefEqProofs only [Qh,Qp6,Qp7,Qj,hT,hr,N4,wI (show (i:Int)+1=((i+1:Nat):Int) by omega) Q0 Q0];by_cases u:i=0
   ·subst u;rw [show decide (((0:Nat):Int)>0)=false from rfl,Qp9,wI (show ((pos Se s (0-1):Nat):Int)+tl=((pos Se s 0+X.t:Nat):Int) by rw [<- ht,show 0-1=0 from rfl];omega) Q0 Q0,aw];simp -implicitDefEqProofs only [Qh,Qp6,Qj,a,N4]
   ·have a2:pos Se s i=pos Se s (i-1)+sl Se s i:=by
     obtain ⟨k,rfl⟩:∃ k,i=k+1:=⟨i-1,Q0⟩;rfl
    rw [show decide ((i:Int)>0)=true by simp;omega,Qpa,Qq,e];simp -implicitDefEqProofs only [Qh,Qp6,Qp7,Qj,q,wI (show ((pos Se s (i-1):Nat):Int)+((sl Se s i:Nat):Int)=((pos Se s i:Nat):Int) by omega) Q0 Q0,wI (show ((pos Se s i:Nat):Int)+tl=((pos Se s i+X.t:Nat):Int) by omega) Q0 Q0,aw,a,N4,Qpn]
  ·simp only [Qp8];rw [ZM,hw,Qz,Qp9]
 have hT:Qi X.TT (X.N:Int)=some [Ql (X.T X.N)]:=by rw [Qq];exact Gz Q0
 rw [p,ak,wI (show ((X.N+1:Nat):Int)-1=(X.N:Int) by omega) Q0 Q0];simp -implicitDefEqProofs only [hT,Qh,Qp6,Qj,Qdn (n:=400) an.1 (show (1:Int)<=1000 by decide) Q0];rfl
end
abbrev Occ:=Int×Int×Int
def enc (q:Occ):List D:=[Ql q.1,Ql q.2.1,Ql q.2.2]
def Px (q:Occ):Bool:=decide (q.2.1<q.2.2)
def NH (T:List Occ) (r:Nat) (f t:Int):List Occ:=match T[r]? with
 |some (_,a,b)=>if a<b then T.set r ((r:Int),(if a<f then a else f),(if t<b then b else t)) else T.set r ((r:Int),f,t)
 |none=>T
theorem PO {T:List Occ} {r:Nat} {f t:Int}:(NH T r f t).length=T.length:=by
 unfold NH;split
 ·split <;> simp
 ·rfl
theorem Qgg {n:Nat} {T:List Occ} {r:Nat} {f t:Int} (h:r<T.length):XH n (T.map enc) (r:Int) f t (some:LL->oP LL)=some ((NH T r f t).map enc):=by
 obtain ⟨⟨x,a,b⟩,e⟩:∃ q,T[r]? = some q:=⟨T[r],Qpb h⟩;have e2:(T.map enc)[r]? = some [Ql x,Ql a,Ql b]:=by rw [Qpp,e];rfl
 unfold XH;rw [Qpl,Yh Q0 Q0];simp -implicitDefEqProofs only [Qh,Qp6,Qp7,Qj,XO,QN,Qpa,Qp9,Qpd,Qpc,Qp8,e2,List.set_cons_zero,List.set_cons_succ];unfold NH;simp only [e];by_cases ac:a<b
 ·rw [show decide (a<b)=true by simpa using ac,Qpa,Qpf ac,List.map_set];rfl
 ·rw [show decide (a<b)=false by simpa using ac,Qp9,Qph ac,List.map_set];rfl
theorem QiA {n:Nat} {T:List Occ} {r:Nat} {f t:Int} (h:r<T.length) (aj:f<t):Ze n (T.map fun q=>[D.bool (Px q)]) (T.map enc) (r:Int) f t Tu2=some ((NH T r f t).map (fun q=>[D.bool (Px q)]),(NH T r f t).map enc):=by
 obtain ⟨⟨x,a,b⟩,e⟩:∃ q,T[r]? = some q:=⟨T[r],Qpb h⟩;have e2:(T.map enc)[r]? = some [Ql x,Ql a,Ql b]:=by rw [Qpp,e];rfl
 have g:(T.map fun q=>[D.bool (Px q)])[r]? = some [D.bool (decide (a<b))]:=by rw [Qpp,e];rfl
 unfold Ze;rw [Qpl,Qpl,Yh Q0 Q0];simp -implicitDefEqProofs only [Qh,Qp6,Qp7,Qj,XO,QN,Qpa,Qp9,Qpd,Qpc,Qp8,e2,g,S6,List.set_cons_zero,List.set_cons_succ];unfold NH;simp only [e];by_cases ac:a<b
 ·rw [show decide (a<b)=true by simpa using ac,Qpa,Qpf ac,List.map_set,List.map_set,show Px ((r:Int),(if a<f then a else f),(if t<b then b else t))=true by simp only [Px,decide_eq_true_eq];split <;> split <;> omega];rfl
 ·rw [show decide (a<b)=false by simpa using ac,Qp9,Qph ac,List.map_set,List.map_set,show Px ((r:Int),f,t)=true by simpa [Px] using aj];rfl
theorem Q4r:∀ {l:List Occ} {i:Nat} {a:Occ},((l.set i a).filter Px).length<=(l.filter Px).length+1
 |[],i,a=>by simp
 |x::l,0,a=>by
  rw [List.set_cons_zero,Qpz,Qpz];split <;> split <;> simp <;> omega
 |x::l,i+1,a=>by
  have:=Q4r (l:=l) (i:=i) (a:=a);rw [List.set_cons_succ,Qpz,Qpz];split <;> simp <;> omega
theorem Q3b {T:List Occ} {r:Nat} {f t:Int}:((NH T r f t).filter Px).length<=(T.filter Px).length+1:=by
 unfold NH;split
 ·split <;> exact Q4r
 ·omega
theorem Qin {T:List Occ} (hl:T.length<=300):VV 400 (T.map enc) (some:LL->oP LL)=some ((T.filter Px).map enc):=by
 unfold VV;rw [Qpl];refine QD (r:=fun m i=>Ye 400 (T.map enc) (T.length:Int) (fun _ _ w=>some w) m i (((T.take i.toNat).filter Px).map enc)) (N:=T.length) (fun m k hk=>?_) (fun m=>?_) T.length 400 0 Q0 Q0
 ·simp only [Qp8];obtain ⟨⟨x,a,b⟩,e⟩:∃ q,T[k]? = some q:=⟨T[k],Qpb hk⟩;have aj:((((T.take k).filter Px).map enc).length)<=300:=by
   rw [Qpl];have:=List.length_filter_le Px (T.take k);rw [List.length_take] at this;omega
  rw [Ye,Qp hk,Qq,Qpp,e,YE e,List.filter_append,Qpw];simp -implicitDefEqProofs only [Qh,Qp6,Qp7,Qj,XO,QN,Qpa,Qp9,Qpd,Qpc,Option.map_some,enc,QC (show k<=1000 by omega)];by_cases ac:a<b
  ·rw [show decide (a<b)=true by simpa using ac,Qpa,show [(x,a,b)].filter Px=[(x,a,b)] by simp [Px,ac],XJ (by simp only [Qps,Qpv];omega)];rfl
  ·rw [show decide (a<b)=false by simpa using ac,Qp9,show [(x,a,b)].filter Px=[] by simp [Px,ac],List.map_nil,List.append_nil]
 ·simp only [Qp8];rw [Ye,Qz,Qp9,Qpy]
theorem QhC {R:Type} {T:List Occ} (hl:T.length<=300) (K:LL->oP R):VG 400 (T.length:Int) (T.map fun q=>[D.bool (Px q)]) (T.map enc) (fun _ _ w=>K w) 400 0 []=K ((T.filter Px).map enc):=by
 refine QD (r:=fun m i=>VG 400 (T.length:Int) (T.map fun q=>[D.bool (Px q)]) (T.map enc) (fun _ _ w=>K w) m i (((T.take i.toNat).filter Px).map enc)) (N:=T.length) (fun m k hk=>?_) (fun m=>?_) T.length 400 0 Q0 Q0
 ·simp only [Qp8];obtain ⟨⟨x,a,b⟩,e⟩:∃ q,T[k]? = some q:=⟨T[k],Qpb hk⟩;have aj:((((T.take k).filter Px).map enc).length)<=300:=by
   rw [Qpl];have:=List.length_filter_le Px (T.take k);rw [List.length_take] at this;omega
  rw [VG,Qp hk,Qpl,Qpl,Yh Q0 Q0,Qp8,Qpp,Qpp,e,YE e,List.filter_append,Qpw];simp -implicitDefEqProofs only [Qh,Qp6,Qp7,Qj,XO,QN,Qpa,Qp9,Qpd,Qpc,Option.map_some,enc,show Px (x,a,b)=decide (a<b) from rfl,S6,QC (show k<=1000 by omega)];by_cases ac:a<b
  ·rw [show decide (a<b)=true by simpa using ac,Qpa,show [(x,a,b)].filter Px=[(x,a,b)] by simp [Px,ac],XJ (by simp only [Qps,Qpv];omega)];rfl
  ·rw [show decide (a<b)=false by simpa using ac,Qp9,show [(x,a,b)].filter Px=[] by simp [Px,ac],List.map_nil,List.append_nil]
 ·simp only [Qp8];rw [VG,Qz,Qp9,Qpy]
def pt (Li s:LL) (i:Nat):Int:=pv (QeK Li (s.getD (i-1) []) (s.getD i []))
def sec (s:LL) (i:Nat):Nat:=match s.getD i [] with
 |.int _ x::_=>x.toNat
 |_=>0
def fr (Se s:LL) (X:Run) (bf:Int) (i:Nat):Int:=if i=0 then -bf else fEN Se s X (i-1) / 1000-16
def tu (Se s:LL) (X:Run) (af:Int) (i:Nat):Int:=if i<s.length-1 then cd (fLV Se s X i) 1000+4 else Q0W X+af
def Tz (N NP:Nat) (Li s:LL) (f g:Nat->Int):Nat->List Occ
 |0=>List.replicate (N+NP) (0,0,0)
 |i+1=>if i=0 then NH (Tz N NP Li s f g i) (sec s i) (f i) (g i) else if pt Li s i<0 then NH (Tz N NP Li s f g i) (sec s i) (f i) (g i) else NH (NH (Tz N NP Li s f g i) (sec s i) (f i) (g i)) (N+(pt Li s i).toNat) (f i) (g (i-1))
theorem Tq {N NP:Nat} {Li s:LL} {f g:Nat->Int}:∀ {i:Nat},(Tz N NP Li s f g i).length=N+NP
 |0=>by simp [Tz]
 |i+1=>by
  rw [Tz];split
  ·rw [PO,Tq]
  ·split <;> simp only [PO,Tq]
theorem Q2i {N NP:Nat} {Li s:LL} {f g:Nat->Int} {j:Nat}:Tz N NP Li s f g (j+1+1)=if pt Li s (j+1)<0 then NH (Tz N NP Li s f g (j+1)) (sec s (j+1)) (f (j+1)) (g (j+1)) else NH (NH (Tz N NP Li s f g (j+1)) (sec s (j+1)) (f (j+1)) (g (j+1))) (N+(pt Li s (j+1)).toNat) (f (j+1)) (g j):=by
 show (if j+1=0 then _ else _)=_;rw [Qph Q0];rfl
def Q5N (St Pt Se Li s:LL) (X:Run) (bf af:Int):List Occ:=(Tz Se.length Pt.length Li s (fr Se s X bf) (tu Se s X af) s.length).filter Px
section
variable {N NP:Nat} {Li:LL}
theorem Q5S:∀ {s:LL} {k:Nat},Q0y N NP Li k s=true->∀ i,i+1<s.length->∃ p,QeK Li (s.getD i []) (s.getD (i+1) [])=some p/\ptR [] [] (List.replicate N []) Li (s.getD i []) (s.getD (i+1) [])=some p /\ -1<=p/\p<NP
 |[],_,_,i,hi=>by simp at hi
 |[_],_,_,i,hi=>by simp at hi
 |r::r'::t,k,h,i,hi=>by
  rw [Q0y] at h;split at h
  ·rename_i p q e1 e2;simp only [Qpx,beq_iff_eq,decide_eq_true_eq] at h;obtain ⟨rfl,a,h2,b⟩:=h;cases i with
   |zero=>exact ⟨p,e1,e2,a,h2⟩
   |succ i=>exact Q5S b i (by simpa using hi)
  ·cases h
theorem Q7G:∀ {s:LL} {k:Nat},Q0y N NP Li k s=true->∀ (c:Nat->Nat),(∀ i,c (i+1)<=c i+(if pt Li s (i+1)<0 then 1 else 2))->c 0<=k->∀ i,i<s.length->c i<=5
 |[],_,_,_,_,_,i,hi=>by simp at hi
 |[r],k,h,c,hc,f,i,hi=>by
  have:i=0:=by simpa using hi
  subst this;have:k<=5:=QpC h;omega
 |r::r'::t,k,h,c,hc,f,i,hi=>by
  rw [Q0y] at h;split at h
  ·rename_i p q e1 e2;simp only [Qpx,beq_iff_eq,decide_eq_true_eq] at h;obtain ⟨rfl,j,h2,e⟩:=h;have hp:pt Li (r::r'::t) 1=p:=by show pv (QeK Li r r')=p;rw [e1];rfl
   have d:c 1<=c 0+(if pt Li (r::r'::t) 1<0 then 1 else 2):=hc 0;rw [hp] at d;have g:c 1<=(bif decide (p<0) then k+1 else k+2):=by
    by_cases hq:p<0
    ·rw [Qpf hq] at d;rw [show decide (p<0)=true by simpa using hq,Qpa];omega
    ·rw [Qph hq] at d;rw [show decide (p<0)=false by simpa using hq,Qp9];omega
   have ih:=Q7G e (fun i=>c (i+1)) (fun i=>hc (i+1)) g;cases i with
   |zero=>
    have:=ih 0 Q2;have hq:c 0<=5:=by
     have ac:∀ {s:LL} {k:Nat},Q0y N NP Li k s=true->k<=5:=by
      intro s;induction s with
      |nil=>exact fun h=>QpC h
      |cons a s ih=>
       intro k h;cases s with
       |nil=>exact QpC h
       |cons b s=>
        rw [Q0y] at h;split at h
        ·simp only [Qpx] at h;have:=ih h.2.2.2;revert this;cases decide (_<(0:Int)) <;> simp <;> omega
        ·cases h
     have:=ac e;revert this;cases decide (p<0) <;> simp <;> omega
    exact hq
   |succ i=>exact ih i (by simpa using hi)
  ·cases h
end
theorem MR {α:Type} {l:List α} {n:Nat} (h:l.length=n):Tv l n=some ():=by
 grind [Tv,Nat.beq,Nat.beq_refl]
def spn (f g:Nat->Int) (n:Nat):LL:=(List.range n).map fun i=>[Ql 0,Ql (f i),Ql (g i)]
theorem Q9c {f g:Nat->Int} {n:Nat}:(spn f g n).length=n:=by simp [spn]
theorem QgA {f g:Nat->Int} {n i:Nat} (h:i<n):(spn f g n)[i]? = some [Ql 0,Ql (f i),Ql (g i)]:=by simp [spn,h]
theorem Q6Z {f g:Nat->Int} {n:Nat}:spn f g n++[[Ql 0,Ql (f n),Ql (g n)]]=spn f g (n+1):=by simp [spn,List.range_succ]
theorem MY {St Pt Se Li:LL} (h:Pb 400 St Pt Se Li=true):Pt.length<=48/\Se.length<=96:=by
 simp_all [Pb,Qpx,QpC]
theorem Qb9 {l:List Occ}:Eh [l.map enc]=some ():=by
 unfold Eh;rw [show ([l.map enc].all Ak)=true by simp [Ak,enc,Q5Z]];rfl
section
variable {St Pt Se Li s:LL} (h:RtF St Pt Se Li s) {nm:List UInt8} {tl sp ac br bf af:Int} (hk:StkN tl sp ac br) (hb0:0<=bf) (hb1:bf<=65536) (ha0:0<=af) (ha1:af<=65536)
include h hk
theorem Q1J {i j:Nat} (ak:i<=j) (hj:j<s.length):0<=fEN Se s (Zc Se s nm tl sp ac br) i/\fEN Se s (Zc Se s nm tl sp ac br) i<=fLV Se s (Zc Se s nm tl sp ac br) j/\fLV Se s (Zc Se s nm tl sp ac br) j<=7000000:=by
 have hX:=MS h (nm:=nm) hk;have a:=Qeg h (nm:=nm) hk hj;have h2:=Q9B (Se:=Se) (s:=s) (i:=i-1) (j:=j) Q0;have c:=Q1g h (nm:=nm) hk (b:=pos Se s (i-1)) Q0;unfold fEN fLV;by_cases hm:j<s.length-1
 ·rw [Qpf hm];exact ⟨c.1,Run.T_mono hX Q0 (a.2 hm),(Q1g h (nm:=nm) hk (a.2 hm)).2⟩
 ·rw [Qph hm];exact ⟨c.1,Run.T_mono hX Q0 (Qpm _),(Q1g h (nm:=nm) hk (Qpm _)).2⟩
include hb0 hb1 ha0 ha1
theorem Qgt {i:Nat} (hi:i<s.length) : -70000<=fr Se s (Zc Se s nm tl sp ac br) bf i/\fr Se s (Zc Se s nm tl sp ac br) bf i<tu Se s (Zc Se s nm tl sp ac br) af i/\tu Se s (Zc Se s nm tl sp ac br) af i<=80000/\(1<=i->fr Se s (Zc Se s nm tl sp ac br) bf i<tu Se s (Zc Se s nm tl sp ac br) af (i-1)):=by
 have l2:=h.l2;have hr:=MG h (nm:=nm) hk;have hN:=Q1J h (nm:=nm) hk (i:=i-1) (j:=s.length-1) Q0 Q0;have b:=Q1J h (nm:=nm) hk (i:=i-1) (j:=i) Q0 hi;have c:=Q1J h (nm:=nm) hk (i:=i-1) (j:=i-1) Q0 Q0;have c1:=Lu (a:=fLV Se s (Zc Se s nm tl sp ac br) i) Q0 (show (1:Int)<=1000 by decide);have c0:=Lu (a:=fLV Se s (Zc Se s nm tl sp ac br) (i-1)) Q0 (show (1:Int)<=1000 by decide);have hl:fLV Se s (Zc Se s nm tl sp ac br) (s.length-1)=(Zc Se s nm tl sp ac br).T (Zc Se s nm tl sp ac br).N:=by unfold fLV;rw [Qph Q0]
 have cN:=Lu (a:=fLV Se s (Zc Se s nm tl sp ac br) (s.length-1)) Q0 (show (1:Int)<=1000 by decide);have aj:Q0W (Zc Se s nm tl sp ac br)=cd (fLV Se s (Zc Se s nm tl sp ac br) (s.length-1)) 1000:=by rw [hl];rfl
 unfold fr tu;omega
theorem QfY:WA 400 St Pt Se Li s 0 nm tl sp ac br bf af Tu3=some ((Q5N St Pt Se Li s (Zc Se s nm tl sp ac br) bf af).map enc,Q0W (Zc Se s nm tl sp ac br),0):=by
 have l2:=h.l2;have l24:=h.l24;have a4:=MG h (nm:=nm) hk;have aj:=fun i j (a7:i<=j) (hj:j<s.length)=>Q1J h (nm:=nm) hk (i:=i) (j:=j) a7 hj
 have aq:=fun i (hi:i<s.length)=>Qgt h (nm:=nm) hk hb0 hb1 ha0 ha1 hi
 have bb:=Qf6 h (nm:=nm) hk;have bl:=MY h.lay;unfold WA;rw [Qel h.lay rfl h.l2 h.l24 h.rt h.st hk,Qh,Qr (by rfl),show decide (bf<0)=false by simpa using hb0,show decide (bf>65536)=false by simpa using hb1,show decide (af<0)=false by simpa using ha0,show decide (af>65536)=false by simpa using ha1];simp -implicitDefEqProofs only [Qp9];unfold Wo;rw [bb];revert a4 aj aq;generalize Zc Se s nm tl sp ac br=X;intro a4 aj aq;have z:wJ ((s.length:Int)-1)=((s.length-1:Nat):Int):=JP Q0 Q0;have aa:wJ (((s.length-1:Nat):Int)-1)=((s.length-1-1:Nat):Int):=JP Q0 Q0;have ax:∀ i,i<s.length->Qi (arr (fEN Se s X) s.length) (i:Int)=some [Ql (fEN Se s X i)]:=fun i hi=>by rw [Qq];exact Gz hi
 have az:∀ i,i<s.length->Qi (arr (fLV Se s X) s.length) (i:Int)=some [Ql (fLV Se s X i)]:=fun i hi=>by rw [Qq];exact Gz hi
 have aw:∀ i,i<s.length->VQ 400 (fEN Se s X i) (some:Int->oP Int)=some (fEN Se s X i / 1000):=fun i hi=>Qhr (aj i i (Qpm i) hi).1 (by have:=aj i i (Qpm i) hi;omega)
 have a3:∀ i,i<s.length->Gh 400 (fLV Se s X i) (some:Int->oP Int)=some (cd (fLV Se s X i) 1000):=fun i hi=>upA (by have:=aj i i (Qpm i) hi;omega) (by have:=aj i i (Qpm i) hi;omega)
 have ak:∀ (k:Nat) (r:List D),k<=30->Yn (((spn (fr Se s X bf) (tu Se s X af) k).length+[r].length)*24)=some ():=fun k r hk=>XJ (by simp only [Q9c,Qps,Qpv];omega)
 have f0:fr Se s X bf 0 = -bf:=rfl;have t0:tu Se s X af 0=cd (fLV Se s X 0) 1000+4:=by unfold tu;rw [Qpf Q0]
 have q0:=aq 0 Q0;rw [Qh,Qr (by rfl)];dsimp only;rw [show (0:Int)=((0:Nat):Int) from rfl,az 0 Q0];simp -implicitDefEqProofs only [Qh,Qp6,Qj,a3 0 Q0,Zg,z];have ad:∀ k0:Int->Bool->LL->oP (LL×Int×Int),Y4 400 (arr (fEN Se s X) s.length) (arr (fLV Se s X) s.length) ((s.length-1:Nat):Int) k0 400 1 (spn (fr Se s X bf) (tu Se s X af) 1)=k0 ((s.length-1:Nat):Int) false (spn (fr Se s X bf) (tu Se s X af) (s.length-1)):=by
  intro k0;refine QD (r:=fun m i=>Y4 400 (arr (fEN Se s X) s.length) (arr (fLV Se s X) s.length) ((s.length-1:Nat):Int) k0 m ((i.toNat+1:Nat):Int) (spn (fr Se s X bf) (tu Se s X af) (i.toNat+1))) (N:=s.length-1-1) (fun m i hi=>?_) (fun m=>?_) (s.length-1-1) 400 0 Q0 Q0
  ·simp only [Qp8];have hf:fr Se s X bf (i+1)=fEN Se s X i / 1000-16:=by unfold fr;rw [Qph Q0];rfl
   have ht:tu Se s X af (i+1)=cd (fLV Se s X (i+1)) 1000+4:=by unfold tu;rw [Qpf Q0]
   have q:=aq (i+1) Q0;rw [Y4,Qp (show i+1<s.length-1 by omega),Qpa,JP (show i+1<=1000 by omega) Q0,Qpn,ax i Q0];simp -implicitDefEqProofs only [Qh,Qp6,Qj,aw i Q0,az (i+1) Q0,a3 (i+1) Q0,wI hf.symm Q0 Q0,wI ht.symm Q0 Q0,ak (i+1) _ Q0,Q6Z,QC (show i+1<=1000 by omega)]
  ·simp only [Qp8];rw [show s.length-1-1+1=s.length-1 by omega,Y4,Qz,Qp9]
 rw [show ([[D.int .i64 ((0:Nat):Int),D.int .i64 (wJ (((0:Nat):Int)-bf)),D.int .i64 (wJ (cd (fLV Se s X 0) 1000+4))]]:LL)=spn (fr Se s X bf) (tu Se s X af) 1 by
  rw [wI (show ((0:Nat):Int)-bf=fr Se s X bf 0 by omega) Q0 Q0,wI t0.symm Q0 Q0];rfl,ad]
 have a9:fr Se s X bf (s.length-1)=fEN Se s X (s.length-1-1) / 1000-16:=by unfold fr;rw [Qph Q0]
 have bc:tu Se s X af (s.length-1)=Q0W X+af:=by unfold tu;rw [Qph Q0]
 have qm:=aq (s.length-1) Q0;have a5:JA 400 St Pt Se Li (some:LL->oP LL)=some ((Tz Se.length Pt.length Li s (fr Se s X bf) (tu Se s X af) 0).map enc):=by
  unfold JA;rw [wI (show (Se.length:Int)+(Pt.length:Int)=((Se.length+Pt.length:Nat):Int) by omega) Q0 Q0,show (bif decide ((0:Int)<=((Se.length+Pt.length:Nat):Int))&&decide (((Se.length+Pt.length:Nat):Int)<=((Se.length+Pt.length:Nat):Int)) then some () else none)=some () by rw [Xh Q3],Qh,Qp8,XJ Q0,Qh,Tz,List.map_replicate];rfl
 rw [aa,ax (s.length-1-1) Q0];simp -implicitDefEqProofs only [Qh,Qp6,Qj,aw (s.length-1-1) Q0,aw (s.length-1) Q0,ax (s.length-1) Q0,a5,show ((0:Nat):Int)=0 from rfl,wI a9.symm Q0 Q0,wI bc.symm Q0 Q0,ak (s.length-1) _ Q0,Q6Z];rw [show s.length-1+1=s.length by omega];have ae:∀ k0:Int->Bool->LL->LL->oP (LL×Int×Int),QB 400 ((s.length-1:Nat):Int) s (s.length:Int) St Pt Se Li s (wJ (fEN Se s X (s.length-1) / 1000-16)) (wJ (Q0W X+20)) k0 400 0 (spn (fr Se s X bf) (tu Se s X af) s.length) ((Tz Se.length Pt.length Li s (fr Se s X bf) (tu Se s X af) 0).map enc)=k0 (s.length:Int) false (spn (fr Se s X bf) (tu Se s X af) s.length) ((Tz Se.length Pt.length Li s (fr Se s X bf) (tu Se s X af) s.length).map enc):=by
  intro k0;refine QD (r:=fun m i=>QB 400 ((s.length-1:Nat):Int) s (s.length:Int) St Pt Se Li s (wJ (fEN Se s X (s.length-1) / 1000-16)) (wJ (Q0W X+20)) k0 m i (spn (fr Se s X bf) (tu Se s X af) s.length) ((Tz Se.length Pt.length Li s (fr Se s X bf) (tu Se s X af) i.toNat).map enc)) (N:=s.length) (fun m i hi=>?_) (fun m=>?_) s.length 400 0 Q0 Q0
  ·simp only [Qp8];obtain ⟨x,d,bk,b,c,st,e,h1,a0,a1,hd⟩:=Ex h.st hi;have hx:=Hq h1;have al:0<=x/\x<Se.length:=by
    have h2:=hx.1;unfold inB at h2;by_cases hc:0<=x/\x<Se.length
    ·exact hc
    ·rw [show (decide (0<=x)&&decide (x<(Se.length:Int)))=false by simp;omega] at h2;cases h2
   have au:x=((sec s i:Nat):Int):=by
    unfold sec;rw [Qpg,e];show x=(x.toNat:Int);omega
   have hT:=Tq (N:=Se.length) (NP:=Pt.length) (Li:=Li) (s:=s) (f:=fr Se s X bf) (g:=tu Se s X af) (i:=i);have ha:=Qgg (n:=400) (T:=Tz Se.length Pt.length Li s (fr Se s X bf) (tu Se s X af) i) (r:=sec s i) (f:=fr Se s X bf i) (t:=tu Se s X af i) Q0;have a2:∀ j,j<s.length->(spn (fr Se s X bf) (tu Se s X af) s.length)[j]? = some [Ql 0,Ql (fr Se s X bf j),Ql (tu Se s X af j)]:=fun j hj=>QgA hj
   rw [QB,Qp hi,Qq,e];simp -implicitDefEqProofs only [Qpa,Qh,Qp6,Qp7,show decide ((i:Int)>((s.length-1:Nat):Int))=false by simp;omega,Qp9,Qj,Q9c,Yh (len:=s.length) (show (0:Int)<=(i:Int) by omega) (show (i:Int)<(s.length:Int) by omega),Qp8,a2 i hi,au,ha,QC (show i<=1000 by omega),MR (l:=(NH (Tz Se.length Pt.length Li s (fr Se s X bf) (tu Se s X af) i) (sec s i) (fr Se s X bf i) (tu Se s X af i)).map enc) (n:=((Tz Se.length Pt.length Li s (fr Se s X bf) (tu Se s X af) i).map enc).length) (by simp only [Qpl,PO])];by_cases ah:i=0
   ·subst ah;rw [show (((0:Nat):Int) == 0)=true from rfl,Qpa];rfl
   ·obtain ⟨j,rfl⟩:∃ j,i=j+1:=⟨i-1,Q0⟩;obtain ⟨x',d',bh,b',c',st',e',bg,_,_,a6⟩:=Ex h.st (j:=j) Q0;obtain ⟨p,a,am,an,ao⟩:=Q5S h.hops j hi;rw [Qpg,Qpg,e,e',Qpt,Qpt] at a;have ba:=Hq bg;have ar:0<=x'/\x'<Se.length:=by
     have h2:=ba.1;unfold inB at h2;by_cases hc:0<=x'/\x'<Se.length
     ·exact hc
     ·rw [show (decide (0<=x')&&decide (x'<(Se.length:Int)))=false by simp;omega] at h2;cases h2
    have a8:pt Li s (j+1)=p:=by
     unfold pt;rw [Qpg,Qpg,e,Qpn,e',Qpt,Qpt,a];rfl
    have ay:=(Qdc h.lay ar.1 ar.2 a6 (y:=x) (e:=d)).trans a;rw [au] at ay;rw [show (((j+1:Nat):Int) == 0)=false by simp;omega,Qp9,JP (show j+1<=1000 by omega) Q0,Qpn,Qq,e'];simp -implicitDefEqProofs only [Qh,Qp6,Qp7,Qj,ay];rw [Q2i,a8];by_cases hp:p<0
    ·rw [show decide (p<0)=true by simpa using hp,Qpa,Qpf hp]
    ·have ai:=Qgg (n:=400) (T:=NH (Tz Se.length Pt.length Li s (fr Se s X bf) (tu Se s X af) (j+1)) (sec s (j+1)) (fr Se s X bf (j+1)) (tu Se s X af (j+1))) (r:=Se.length+p.toNat) (f:=fr Se s X bf (j+1)) (t:=tu Se s X af j) (by rw [PO];omega);rw [show decide (p<0)=false by simpa using hp,Qp9,Qph hp,show decide (((j+1:Nat):Int)<=((s.length-1:Nat):Int))=true by simp;omega,Qpa];simp -implicitDefEqProofs only [Yh (len:=s.length) (show (0:Int)<=(j:Int) by omega) (show (j:Int)<(s.length:Int) by omega),Qh,Qp6,Qp7,Qj,a2 j Q0,wI (show (Se.length:Int)+p=((Se.length+p.toNat:Nat):Int) by omega) Q0 Q0,Qp8,ai,Qpn];rw [MR (by simp only [Qpl,PO]),Qh]
  ·simp only [Qp8];rw [QB,Qz,Qp9]
 rw [ae,Qin (by rw [Tq];omega),Qh,Qb9,Qh];rfl
end
theorem QgE {St Pt Se Li L:LL} {x d y e p:Int} (h:ptR [] [] L Li [Ql x,Ql d] [Ql y,Ql e]=some p):∃ a b c,Gi 400 St Pt Se Li x d y e Tu5=some (a,b,Ql p,c,true):=by
 rw [QiV (a':=[]) (b':=[]) (L':=L)];unfold ptR at h;dsimp only at h;split at h
 ·rename_i he;cases h;exact ⟨_,_,_,he⟩
 ·cases h
def QcZ (T:List Occ):LL:=T.map fun q=>[D.bool (Px q)]
section
variable {St Pt Se Li s:LL} (h:RtF St Pt Se Li s) {nm:List UInt8} {tl sp ac br bf af:Int} (hk:StkN tl sp ac br) (hb0:0<=bf) (hb1:bf<=65536) (ha0:0<=af) (ha1:af<=65536)
include h hk hb0 hb1 ha0 ha1
theorem Qfu:Ks 400 St Pt Se Li s 0 nm tl sp ac br bf af Tu3=some ((Q5N St Pt Se Li s (Zc Se s nm tl sp ac br) bf af).map enc,Q0W (Zc Se s nm tl sp ac br),0):=by
 have l2:=h.l2;have l24:=h.l24;have a8:=MG h (nm:=nm) hk;have aw:=fun i j (bh:i<=j) (hj:j<s.length)=>Q1J h (nm:=nm) hk (i:=i) (j:=j) bh hj
 have a2:=fun i (hi:i<s.length)=>Qgt h (nm:=nm) hk hb0 hb1 ha0 ha1 hi
 have bk:=QhG h (nm:=nm) hk;have b4:=MY h.lay;unfold Ks;rw [Qae h hk,Qh,Qr (by rfl),Q57 hb0 hb1,Qh,Q57 ha0 ha1];simp -implicitDefEqProofs only [Qh,Qpd,Qp9,Qpc];rw [bk];revert a8 aw a2;generalize Zc Se s nm tl sp ac br=X;intro a8 aw a2;have t:wJ ((s.length:Int)-1)=((s.length-1:Nat):Int):=JP Q0 Q0;have a9:∀ i,i<s.length->Qi (arr (fEN Se s X) s.length) (i:Int)=some [Ql (fEN Se s X i)]:=fun i hi=>by rw [Qq];exact Gz hi
 have a3:∀ i,i<s.length->Qi (arr (fLV Se s X) s.length) (i:Int)=some [Ql (fLV Se s X i)]:=fun i hi=>by rw [Qq];exact Gz hi
 have a4:∀ i,i<s.length->J7 400 (fEN Se s X i) 1000 (some:Int->oP Int)=some (fEN Se s X i / 1000):=fun i hi=>Qgy (aw i i (Qpm i) hi).1 (by have:=aw i i (Qpm i) hi;omega)
 have a7:∀ i,i<s.length->JT 400 (fLV Se s X i) 1000 (some:Int->oP Int)=some (cd (fLV Se s X i) 1000):=fun i hi=>Qdn (by have:=aw i i (Qpm i) hi;omega) Q1 (by have:=aw i i (Qpm i) hi;omega)
 have bg:wJ ((Se.length:Int)+(Pt.length:Int))=((Se.length+Pt.length:Nat):Int):=wI Q0 Q0 Q0;have hg:(bif decide ((0:Int)<=((Se.length+Pt.length:Nat):Int))&&decide (((Se.length+Pt.length:Nat):Int)<=((Se.length+Pt.length:Nat):Int)) then some () else none)=some ():=by rw [Xh Q3]
 rw [Qh];dsimp only;simp -implicitDefEqProofs only [bg,hg,Qh,Qp8,XJ (show (Se.length+Pt.length)*1<=100000 by omega),XJ (show (Se.length+Pt.length)*24<=100000 by omega),Zg,t];let T:Nat->List Occ:=fun i=>Tz Se.length Pt.length Li s (fr Se s X bf) (tu Se s X af) i
 have u:∀ k0:Int->Int->Bool->LL->LL->oP (LL×Int×Int),WG 400 bf af (arr (fEN Se s X) s.length) (arr (fLV Se s X) s.length) (Q0W X) ((s.length-1:Nat):Int) St Pt Se Li s k0 400 0 0 (QcZ (T 0)) ((T 0).map enc)=k0 (tu Se s X af (s.length-1)) (s.length:Int) false (QcZ (T s.length)) ((T s.length).map enc):=by
  intro k0;refine QD (r:=fun m i=>WG 400 bf af (arr (fEN Se s X) s.length) (arr (fLV Se s X) s.length) (Q0W X) ((s.length-1:Nat):Int) St Pt Se Li s k0 m (if i.toNat=0 then 0 else tu Se s X af (i.toNat-1)) i (QcZ (T i.toNat)) ((T i.toNat).map enc)) (N:=s.length) (fun m i hi=>?_) (fun m=>?_) s.length 400 0 Q0 Q0
  ·simp only [Qp8];obtain ⟨x,d,bx,b,c,st,e,v,a0,a1,hd⟩:=Ex h.st hi;have hx:=Hq v;have ay:0<=x/\x<Se.length:=by
    have h2:=hx.1;unfold inB at h2;by_cases hc:0<=x/\x<Se.length
    ·exact hc
    ·rw [show (decide (0<=x)&&decide (x<(Se.length:Int)))=false by simp;omega] at h2;cases h2
   have az:x=((sec s i:Nat):Int):=by
    unfold sec;rw [Qpg,e];show x=(x.toNat:Int);omega
   have hT:(T i).length=Se.length+Pt.length:=Tq;have q:=a2 i hi;have ha:Ze 400 (QcZ (T i)) ((T i).map enc) ((sec s i:Nat):Int) (fr Se s X bf i) (tu Se s X af i) Tu2=_:=QiA Q0 q.2.1;rw [WG,Qp hi,Qpa];have hz:∀ (J:Int->Int->oP (LL×Int×Int)),jn J (fun j=>bif ((i:Int) == (0:Int)) then
      gb true (Qi (arr (fLV Se s X) s.length) (0:Int)) [] fun y=>gb true (y[0]?) oF fun z=>gb true (pIw z) 0 fun aa=>gb true (JT 400 aa (1000:Int) some) 0 fun ab=>j (wJ (0-bf)) (wJ (ab+(4:Int)))
     else bif (decide ((i:Int)<((s.length-1:Nat):Int))) then
      gb true (Qi (arr (fEN Se s X) s.length) (wJ ((i:Int)-(1:Int)))) [] fun ad=>gb true (ad[0]?) oF fun ae=>gb true (pIw ae) 0 fun ag=>gb true (J7 400 ag (1000:Int) some) 0 fun ah=>
      gb true (Qi (arr (fLV Se s X) s.length) (i:Int)) [] fun ai=>gb true (ai[0]?) oF fun aj=>gb true (pIw aj) 0 fun ak=>gb true (JT 400 ak (1000:Int) some) 0 fun al=>j (wJ (ah-(16:Int))) (wJ (al+(4:Int)))
     else bif ((i:Int) == ((s.length-1:Nat):Int)) then
      gb true (Qi (arr (fEN Se s X) s.length) (wJ (((s.length-1:Nat):Int)-(1:Int)))) [] fun am=>gb true (am[0]?) oF fun an=>gb true (pIw an) 0 fun ao=>gb true (J7 400 ao (1000:Int) some) 0 fun ap=>j (wJ (ap-(16:Int))) (wJ (Q0W X+af))
     else
      gb true (Qi (arr (fEN Se s X) s.length) ((s.length-1:Nat):Int)) [] fun aq=>gb true (aq[0]?) oF fun ar=>gb true (pIw ar) 0 fun au=>gb true (J7 400 au (1000:Int) some) 0 fun av=>j (wJ (av-(16:Int))) (wJ (Q0W X+(20:Int))))=J (fr Se s X bf i) (tu Se s X af i):=by
    intro J;dsimp only [jn];by_cases g:i=0
    ·subst g;have t0:tu Se s X af 0=cd (fLV Se s X 0) 1000+4:=by unfold tu;rw [Qpf Q0]
     have f0:fr Se s X bf 0 = -bf:=rfl;rw [show (((0:Nat):Int) == 0)=true from rfl,Qpa,show (0:Int)=((0:Nat):Int) from rfl,a3 0 hi];simp -implicitDefEqProofs only [Qh,Qp6,Qj,a7 0 hi,wI (show ((0:Nat):Int)-bf=fr Se s X bf 0 by omega) Q0 Q0,wI t0.symm Q0 Q0]
    ·have hp:fr Se s X bf i=fEN Se s X (i-1) / 1000-16:=by unfold fr;rw [Qph g]
     rw [show ((i:Int) == 0)=false by simp;omega,Qp9];by_cases a6:i<s.length-1
     ·have ht:tu Se s X af i=cd (fLV Se s X i) 1000+4:=by unfold tu;rw [Qpf a6]
      rw [Qp a6,Qpa,JP Q0 Q0,a9 (i-1) Q0];simp -implicitDefEqProofs only [Qh,Qp6,Qj,a4 (i-1) Q0,a3 i hi,a7 i hi,wI hp.symm Q0 Q0,wI ht.symm Q0 Q0]
     ·obtain rfl:i=s.length-1:=Q0
      have ht:tu Se s X af (s.length-1)=Q0W X+af:=by unfold tu;rw [Qph Q0]
      rw [Qz,Qp9,show (((s.length-1:Nat):Int) == ((s.length-1:Nat):Int))=true by simp,Qpa,JP Q0 Q0,a9 (s.length-1-1) Q0];simp -implicitDefEqProofs only [Qh,Qp6,Qj,a4 (s.length-1-1) Q0,wI hp.symm Q0 Q0,wI ht.symm Q0 Q0]
   rw [hz,Qq,e];simp -implicitDefEqProofs only [Qh,Qp6,Qp7,Qj,az,ha,QC (show i<=1000 by omega),Qpn,Nat.succ_ne_zero,if_false];by_cases g:i=0
   ·subst g;rw [show decide (((0:Nat):Int)>0)=false from rfl,Qp9];rfl
   ·obtain ⟨j,rfl⟩:∃ j,i=j+1:=⟨i-1,Q0⟩;obtain ⟨x',d',bl,b',c',st',e',b6,_,_,bv⟩:=Ex h.st (j:=j) Q0;obtain ⟨p,l,k,ba,bb⟩:=Q5S h.hops j hi;rw [Qpg,Qpg,e,e',Qpt,Qpt] at l k;have bi:pt Li s (j+1)=p:=by
     unfold pt;rw [Qpg,Qpg,e,Qpn,e',Qpt,Qpt,l];rfl
    rw [az] at k;obtain ⟨u1,u2,u3,hj⟩:=QgE (St:=St) (Pt:=Pt) (Se:=Se) k;rw [Q6 (((j+1:Nat):Int)>0),Qpa,JP (show j+1<=1000 by omega) Q0,Qpn,Qq,e'];simp -implicitDefEqProofs only [Qh,Qp6,Qp7,Qj,hj];have bj:T (j+1+1)=if p<0 then NH (T (j+1)) (sec s (j+1)) (fr Se s X bf (j+1)) (tu Se s X af (j+1)) else NH (NH (T (j+1)) (sec s (j+1)) (fr Se s X bf (j+1)) (tu Se s X af (j+1))) (Se.length+p.toNat) (fr Se s X bf (j+1)) (tu Se s X af j):=by
     show Tz _ _ _ _ _ _ (j+1+1)=_;rw [Q2i,bi]
    rw [bj];by_cases hp:p<0
    ·rw [show decide (p>=0)=false by simp;omega,Qp9,Qpf hp];rfl
    ·have ax:Ze 400 (QcZ (NH (T (j+1)) (sec s (j+1)) (fr Se s X bf (j+1)) (tu Se s X af (j+1)))) ((NH (T (j+1)) (sec s (j+1)) (fr Se s X bf (j+1)) (tu Se s X af (j+1))).map enc) ((Se.length+p.toNat:Nat):Int) (fr Se s X bf (j+1)) (tu Se s X af j) Tu2=_:=QiA (by rw [PO];omega) (q.2.2.2 Q0);rw [show decide (p>=0)=true by simp;omega,Qpa,Qph hp,show decide (((j+1:Nat):Int)>((s.length-1:Nat):Int))=false by simp;omega,Qp9];have n:=ax;unfold QcZ at n;simp -implicitDefEqProofs only [Qh,wI (show (Se.length:Int)+p=((Se.length+p.toNat:Nat):Int) by omega) Q0 Q0,n,Qpn,Qph (Nat.succ_ne_zero _)];rfl
  ·simp only [Qp8];rw [WG,Qz,Qp9,Qph Q0]
 have a5:T 0=List.replicate (Se.length+Pt.length) (0,0,0):=rfl;have e1:List.replicate (Se.length+Pt.length) [D.bool false]=QcZ (T 0):=by rw [a5];unfold QcZ;rw [List.map_replicate];rfl
 have e2:List.replicate (Se.length+Pt.length) [D.int .i64 (0:Int),D.int .i64 (0:Int),D.int .i64 (0:Int)]=(T 0).map enc:=by rw [a5,List.map_replicate];rfl
 rw [e1,e2,u];have hl:((Se.length+Pt.length:Nat):Int)=(((T s.length).length:Nat):Int):=by rw [show (T s.length).length=Se.length+Pt.length from Tq]
 rw [hl];exact QhC (by rw [show (T s.length).length=Se.length+Pt.length from Tq];omega) _
end
def OL:Int->List Occ->Prop
 |_,[]=>True
 |l,(x,a,b)::r=>l<x /\ -1000<=a/\a<b/\b<=20000/\x<=1000/\OL x r
theorem OL.mono:∀ {l l':Int} {O:List Occ},l'<=l->OL l O->OL l' O
 |_,_,[],_,_=>trivial
 |_,_,(x,a,b)::r,h,⟨c,h2⟩=>⟨Q0,h2⟩
theorem OL.filter {p:Occ->Bool}:∀ {l:Int} {O:List Occ},OL l O->OL l (O.filter p)
 |_,[],_=>trivial
 |l,(x,a,b)::r,⟨d,h2,e,f,g,c⟩=>by
  rw [Qpz];split
  ·exact ⟨d,h2,e,f,g,c.filter⟩
  ·exact (c.filter).mono Q0
theorem OL.mem:∀ {l:Int} {O:List Occ},OL l O->∀ q∈O,l<q.1 /\ -1000<=q.2.1/\q.2.1<q.2.2/\q.2.2<=20000/\q.1<=1000
 |_,[],_,_,h=>nomatch h
 |l,(x,a,b)::r,⟨c,h2,d,e,f,g⟩,q,h=>by
  cases h with
  |head=>exact ⟨c,h2,d,e,f⟩
  |tail _ h=>have:=g.mem q h;exact ⟨Q0,this.2⟩
def TI (T:List Occ):Prop:=∀ (r:Nat) (x a b:Int),T[r]? = some (x,a,b)->a<b->x=(r:Int) /\ -1000<=a/\b<=20000
theorem TI.add {T:List Occ} (h:TI T) {r:Nat} {f t:Int} (hf : -1000<=f) (ht:t<=20000):TI (NH T r f t):=by
 unfold NH;cases e:T[r]? with
 |none=>exact h
 |some q=>
  obtain ⟨x,a,b⟩:=q;dsimp only;have hr:=(Qpe.1 e).1;by_cases an:a<b
  ·have c:=h r x a b e an;rw [Qpf an];intro r' x' a' b' e' aj;rw [List.getElem?_set] at e';by_cases ak:r=r'
   ·subst ak;rw [Qpf rfl,Qpf hr] at e';cases e';refine ⟨rfl,?_,?_⟩ <;> split <;> omega
   ·rw [Qph ak] at e';exact h r' x' a' b' e' aj
  ·rw [Qph an];intro r' x' a' b' e' aj;rw [List.getElem?_set] at e';by_cases ak:r=r'
   ·subst ak;rw [Qpf rfl,Qpf hr] at e';cases e';exact ⟨rfl,hf,ht⟩
   ·rw [Qph ak] at e';exact h r' x' a' b' e' aj
theorem TI.ol:∀ {T:List Occ} {k:Nat},T.length+k<=1000->(∀ (r:Nat) (x a b:Int),T[r]? = some (x,a,b)->a<b->x=((r+k:Nat):Int) /\ -1000<=a/\b<=20000)->OL ((k:Int)-1) (T.filter Px)
 |[],_,_,_=>trivial
 |(x,a,b)::T,k,hk,h=>by
  have ih:=TI.ol (T:=T) (k:=k+1) (by simp at hk;omega) fun r x a b e aj=>by
   have:=h (r+1) x a b e aj;rw [show r+1+k=r+(k+1) by omega] at this;exact this
  rw [show ((k+1:Nat):Int)-1=(k:Int) by omega] at ih;have c:=h 0 x a b rfl;rw [Qpz];by_cases aj:a<b
  ·have c:=c aj;rw [show Px (x,a,b)=true by simpa [Px] using aj,Qpf rfl];have hx:x=(k:Int):=by simpa using c.1
   refine ⟨Q0,c.2.1,aj,c.2.2,by simp at hk;omega,?_⟩;rw [hx];exact ih
  ·rw [show Px (x,a,b)=false by simpa [Px] using aj,Qph Q2];exact ih.mono Q0
section
variable {St Pt Se Li s:LL} (h:RtF St Pt Se Li s) {nm:List UInt8} {tl sp ac br bf af:Int} (hk:StkN tl sp ac br) (hb0:0<=bf) (hb1:bf<=60) (ha0:0<=af) (ha1:af<=5000)
include h hk hb0 hb1 ha0 ha1
theorem Qd9 {i:Nat} (hi:i<s.length) : -1000<=fr Se s (Zc Se s nm tl sp ac br) bf i/\tu Se s (Zc Se s nm tl sp ac br) af i<=20000:=by
 have l2:=h.l2;have hr:=MG h (nm:=nm) hk;have b:=Q1J h (nm:=nm) hk (i:=i-1) (j:=i) Q0 hi;have c1:=Lu (a:=fLV Se s (Zc Se s nm tl sp ac br) i) Q0 (show (1:Int)<=1000 by decide);unfold fr tu;constructor
 ·split <;> omega
 ·split <;> omega
theorem QaJ:OL (-1) (Q5N St Pt Se Li s (Zc Se s nm tl sp ac br) bf af)/\(Q5N St Pt Se Li s (Zc Se s nm tl sp ac br) bf af).length<=6:=by
 have an:=MY h.lay;have aj:=fun i (hi:i<s.length)=>Qd9 h (nm:=nm) hk hb0 hb1 ha0 ha1 hi
 have l2:=h.l2;unfold Q5N;generalize Zc Se s nm tl sp ac br=X at aj;have hT:∀ i,i<=s.length->TI (Tz Se.length Pt.length Li s (fr Se s X bf) (tu Se s X af) i):=by
  intro i;induction i with
  |zero=>
   intro _ r x a b e ak;have:=Qpe.1 e;obtain ⟨d,h2⟩:=this;simp only [Tz,List.getElem_replicate] at h2;cases h2;omega
  |succ i ih=>
   intro hi;have ih:=ih Q0;have q:=aj i Q0;rw [Tz];split
   ·exact ih.add q.1 q.2
   ·have c:=aj (i-1) Q0;split
    ·exact ih.add q.1 q.2
    ·exact (ih.add q.1 q.2).add q.1 c.2
 constructor
 ·have:=TI.ol (T:=Tz Se.length Pt.length Li s (fr Se s X bf) (tu Se s X af) s.length) (k:=0) (by rw [Tq];omega) (fun r x a b e ak=>hT _ (Qpm _) r x a b e ak);exact this
 ·have hc:=Q7G h.hops (fun i=>((Tz Se.length Pt.length Li s (fr Se s X bf) (tu Se s X af) (i+1)).filter Px).length-1) (fun i=>?_) ?_ (s.length-1) Q0
  ·rw [show s.length-1+1=s.length by omega] at hc;omega
  ·rw [Q2i];have c1:=Q3b (T:=Tz Se.length Pt.length Li s (fr Se s X bf) (tu Se s X af) (i+1)) (r:=sec s (i+1)) (f:=fr Se s X bf (i+1)) (t:=tu Se s X af (i+1));split
   ·omega
   ·have g:=Q3b (T:=NH (Tz Se.length Pt.length Li s (fr Se s X bf) (tu Se s X af) (i+1)) (sec s (i+1)) (fr Se s X bf (i+1)) (tu Se s X af (i+1))) (r:=Se.length+(pt Li s (i+1)).toNat) (f:=fr Se s X bf (i+1)) (t:=tu Se s X af i);omega
  ·have c1:=Q3b (T:=Tz Se.length Pt.length Li s (fr Se s X bf) (tu Se s X af) 0) (r:=sec s 0) (f:=fr Se s X bf 0) (t:=tu Se s X af 0);have c0:((Tz Se.length Pt.length Li s (fr Se s X bf) (tu Se s X af) 0).filter Px).length=0:=by
    rw [Tz];simp [Px]
   show ((Tz Se.length Pt.length Li s (fr Se s X bf) (tu Se s X af) 1).filter Px).length-1<=0;rw [Tz,Qpf rfl];omega
end
end Go.Vx
namespace Go.Vx
variable {R:Type} (n:Nat)
def Yo (p:Int) (ad:LL) (q:Int) (f g h i:LL) (r:Int) (b c s t u v x:LL) (j y:D) (k0:Qkl R) (k1:Qkv R):Qkw R
 | 0,_,_,_=>none
 | m+1,a,d,e=>bif decide (a<q) then QjI R ad a fun aj ak=>Qc R aj[1]? fun al=>Qk9 R aj fun au=>QjE R al au fun am an=>Qb R (wJ (a+1)) fun k=>bif a==0 then Qc R (pSl 4 y) fun av=>bif a==wJ ((av.length:Int)-1) then Qc R (pIw al) fun aw=>Qc R (Hy n r b c s t u v x p some) fun ax=>Qkg R ak c fun az ba=>QjJ R j b az ba fun bi bj bk bl bm bn bo=>Qc R (WA n f g h i bi bj bk bl bm bn bo 60 (wJ (aw+ax)) Tu3) fun z=>bif z.2.2 !=0 then k0 z.2.2 else Qk1 R ((d.length+[[D.sl 3 z.1]].length)*24) ((e.length+[[Ql z.2.1]].length)*8) (Yo p ad q f g h i r b c s t u v x j y k0 k1 m k (d++[[D.sl 3 z.1]]) (e++[[Ql z.2.1]])) else Qkg R ak c fun bq br=>QjJ R j b bq br fun cb cc ce cf cg ch ci=>Qc R (WA n f g h i cb cc ce cf cg ch ci 60 (wJ (am+an)) Tu3) fun aa=>bif aa.2.2 !=0 then k0 aa.2.2 else Qk1 R ((d.length+[[D.sl 3 aa.1]].length)*24) ((e.length+[[Ql aa.2.1]].length)*8) (Yo p ad q f g h i r b c s t u v x j y k0 k1 m k (d++[[D.sl 3 aa.1]]) (e++[[Ql aa.2.1]])) else Qc R (pSl 4 y) fun cj=>bif a==wJ ((cj.length:Int)-1) then Qc R (pIw al) fun ck=>Qc R (Hy n r b c s t u v x p some) fun cm=>Qkg R ak c fun co cp=>QjJ R j b co cp fun cw cx cy cz da db dc=>Qc R (WA n f g h i cw cx cy cz da db dc 0 (wJ (ck+cm)) Tu3) fun ab=>bif ab.2.2 !=0 then k0 ab.2.2 else Qk1 R ((d.length+[[D.sl 3 ab.1]].length)*24) ((e.length+[[Ql ab.2.1]].length)*8) (Yo p ad q f g h i r b c s t u v x j y k0 k1 m k (d++[[D.sl 3 ab.1]]) (e++[[Ql ab.2.1]])) else Qkg R ak c fun de df=>QjJ R j b de df fun dn dp dq dr ds dt du=>Qc R (WA n f g h i dn dp dq dr ds dt du 0 (wJ (am+an)) Tu3) fun ac=>bif ac.2.2 !=0 then k0 ac.2.2 else Qk1 R ((d.length+[[D.sl 3 ac.1]].length)*24) ((e.length+[[Ql ac.2.1]].length)*8) (Yo p ad q f g h i r b c s t u v x j y k0 k1 m k (d++[[D.sl 3 ac.1]]) (e++[[Ql ac.2.1]])) else k1 a (decide (a<q)) d e
def Wh (h2:LL) (c:Int) (d e f g:LL) (h:Int) (i j k l o p q:LL) (k0:Qkl R) (k1:Qkv R):Qkw R
 | 0,_,_,_=>none
 | m+1,a,r,s=>bif decide (a<c) then QjP R h2 a fun b v=>Qk9 R b fun t=>Qc R (pSl 4 t) fun u=>Yo n a u (u.length:Int) d e f g h i j k l o p q v t (fun x=>k0 x) (fun ac ad y z=>Wh h2 c d e f g h i j k l o p q k0 k1 m (wJ (a+1)) y z) n 0 r s else k1 a (decide (a<c)) r s
def TE (b c d e:LL) (f:Int) (g h a i j k l:LL) (K:LL->LL->Int->oP R):oP R:=Qc R (Vu n b c d e f g h a i j k l some) fun m=>bif m !=0 then K [] [] 1 else Wh n a (a.length:Int) b c d e f g h a i j k l (fun o=>K [] [] o) (fun r s p q=>K p q 0) n 0 [] []
end Go.Vx
namespace Go.Vx
def Qb3 {α:Type} (nr:Nat->Nat) (f:Nat->Nat->α):Nat->List α
 |0=>[]
 |i+1=>Qb3 nr f i++(List.range (nr i)).map (f i)
def base (nr:Nat->Nat):Nat->Nat
 |0=>0
 |i+1=>base nr i+nr i
theorem ZV {α:Type} {nr:Nat->Nat} {f:Nat->Nat->α}:∀ {i:Nat},(Qb3 nr f i).length=base nr i
 |0=>rfl
 |i+1=>by rw [Qb3,QpA,ZV,base,Qpl,List.length_range]
theorem SN {nr:Nat->Nat} {i:Nat}:∀ {j:Nat},i<j->base nr i+nr i<=base nr j
 |0,h=>by omega
 |j+1,h=>by
  rw [base];by_cases ac:i=j
  ·subst ac;omega
  ·have:=SN (nr:=nr) (i:=i) (j:=j) Q0;omega
theorem LK {α:Type} {nr:Nat->Nat} {f:Nat->Nat->α} {i k:Nat} (hk:k<nr i):∀ {L:Nat},i<L->(Qb3 nr f L)[base nr i+k]? = some (f i k)
 |0,h=>by omega
 |L+1,h=>by
  rw [Qb3];by_cases ac:i=L
  ·subst ac;rw [List.getElem?_append_right (by rw [ZV];omega),ZV,Nat.add_sub_cancel_left,Qpp,List.getElem?_range hk];rfl
  ·have:=SN (nr:=nr) (i:=i) (j:=L) Q0;rw [List.getElem?_append_left (by rw [ZV];omega)];exact LK hk Q0
theorem Q7i {nr:Nat->Nat} {a:Nat}:∀ {L:Nat},a<base nr L->∃ i k,i<L/\k<nr i/\a=base nr i+k
 |0,h=>by simp [base] at h
 |L+1,h=>by
  rw [base] at h;by_cases ha:a<base nr L
  ·obtain ⟨i,k,c,h2,b⟩:=Q7i ha;exact ⟨i,k,Q0,h2,b⟩
  ·exact ⟨L,a-base nr L,Q0,Q0,Q0⟩
theorem Pe {nr:Nat->Nat} {i k i' k':Nat} (h:k<nr i) (h':k'<nr i') (e:base nr i+k=base nr i'+k'):i=i'/\k=k':=by
 rcases Nat.lt_trichotomy i i' with hi | hi | hi
 ·have:=SN (nr:=nr) hi;omega
 ·simp_all
 ·have:=SN (nr:=nr) hi;omega
def GI (Ls:LL) (i:Nat):LL:=match Ls[i]? with
 |some [_,_,_,.sl _ r]=>r
 |_=>[]
def wOf (Ls:LL) (i:Nat):Int:=match Ls[i]? with
 |some [_,_,.int _ w,_]=>w
 |_=>0
def rF (Ls:LL) (i k j:Nat):Int:=match ((GI Ls i).getD k [])[j]? with
 |some (.int _ x)=>x
 |_=>0
def QhT (Ro:LL) (r:Int):LL:=match Ro[r.toNat]? with
 |some [.sl _ s,_]=>s
 |_=>[]
structure Cx where
 G:Geo
 Ro:LL
 Ls:LL
 T:List Tup
 nm:List UInt8
 tl:Int
 sp:Int
 ac:Int
 br:Int
namespace Cx
variable (X:Cx)
def nr (i:Nat):Nat:=(GI X.Ls i).length
def w (i:Nat):Int:=wOf X.Ls i
def ex (i k:Nat):Int:=rF X.Ls i k 1
def mn (i k:Nat):Int:=rF X.Ls i k 2
def mx (i k:Nat):Int:=rF X.Ls i k 3
def st (i k:Nat):LL:=QhT X.Ro (rF X.Ls i k 0)
def rn (i k:Nat):Run:=Zc X.G.Se (X.st i k) X.nm X.tl X.sp X.ac X.br
def tn (i:Nat):oP Tup:=X.T.find? fun t=>t.1 == i
def rest (i:Nat):Int:=match X.tn i with
 |some t=>if 60<t.2.2.2 then t.2.2.2 else 60
 |none=>60
def bf (k:Nat):Int:=if k=0 then 60 else 0
def af (i k:Nat):Int:=if k=X.nr i-1 then X.ex i k+X.rest i else X.ex i k+X.mx i k
def occ (i k:Nat):List Occ:=Q5N X.G.St X.G.Pt X.G.Se X.G.Li (X.st i k) (X.rn i k) (bf k) (X.af i k)
def run (i k:Nat):Int:=Q0W (X.rn i k)
def L:Nat:=X.Ls.length
structure OK:Prop where
 g:X.G.OK
 sk:StkN X.tl X.sp X.ac X.br
 gd:GoodP X.G X.Ro X.Ls
 l0:1<=X.Ls.length
 l1:X.Ls.length<=3
 tr:∀ t∈X.T,Qad X.G X.Ro X.Ls t
 fd:(X.T.map (·.1)).Nodup
 td:(X.T.map (·.2.1)).Nodup
 tl:X.T.length<=20
structure RdOK (i k:Nat):Prop where
 row:(GI X.Ls i)[k]? = some [Ql (rF X.Ls i k 0),Ql (X.ex i k),Ql (X.mn i k),Ql (X.mx i k)]
 ro:Qi X.Ro (rF X.Ls i k 0)=some [D.sl 2 (X.st i k),Ql 0]
 rt:RtF X.G.St X.G.Pt X.G.Se X.G.Li (X.st i k)
 ex0:0<=X.ex i k
 ex1:X.ex i k<3
 mn0:0<=X.mn i k
 mn1:X.mn i k<=X.mx i k
 mn2:X.mx i k<=X.mn i k+3
 mn3:X.mn i k<=10
variable {X} (h:X.OK)
include h
theorem JM {i:Nat} (hi:i<X.Ls.length):X.Ls[i]? = some [D.str (nmN i),Ql 0,Ql (X.w i),D.sl 4 (GI X.Ls i)]/\(X.nr i=1\/X.nr i=2)/\(0<=X.w i/\X.w i<4):=by
 obtain ⟨w,rides,b,h2,c,a⟩:=h.gd.ls i _ (Qpb hi);have er:GI X.Ls i=rides:=by grind [GI]
 have ew:X.w i=w:=by grind [Cx.w,wOf]
 refine ⟨by simp_all,?_,Q0⟩;unfold nr;rw [er];rcases a with ⟨r,x,y,rfl,_⟩ | ⟨r,r',x,y,z,rfl,_,_⟩
 all_goals simp
theorem rd {i k:Nat} (hi:i<X.Ls.length) (hk:k<X.nr i):X.RdOK i k:=by
 obtain ⟨w,rides,j,h2,l,d⟩:=h.gd.ls i _ (Qpb hi);have e:X.Ls[i]? = some [D.str (nmN i),Ql 0,Ql w,D.sl 4 rides]:=by simp_all
 have er:GI X.Ls i=rides:=by grind [GI]
 have hr:∃ r x y b,rides[k]? = some r/\Py X.G X.Ro r x y b:=by
  unfold nr at hk;rw [er] at hk;rcases d with ⟨r,x,y,rfl,h⟩ | ⟨r,r',x,y,z,rfl,h,h'⟩
  all_goals grind
 obtain ⟨r,x,y,b,hr,rt,ex,mn,mx,s,rfl,c,f,m,n,o⟩:=hr;have eg:(GI X.Ls i).getD k []=[Ql rt,Ql ex,Ql mn,Ql mx]:=by simp_all
 have a:rF X.Ls i k 0=rt:=by grind [rF]
 have e1:X.ex i k=ex:=by grind [Cx.ex,rF]
 have e2:X.mn i k=mn:=by unfold Cx.mn rF;rw [eg];rfl
 have g:X.mx i k=mx:=by unfold Cx.mx rF;rw [eg];rfl
 have es:X.st i k=s:=by unfold st QhT;rw [a,Qp8,c]
 exact ⟨by rw [a,e1,e2,g,er,hr],by rw [a,es,Qq,c],by rw [es];exact f.f h.g,Q0,Q0,Q0,Q0,Q0,Q0⟩
theorem Q1Y {i:Nat}:60<=X.rest i/\X.rest i<=60:=by
 unfold rest;cases e:X.tn i with
 |none=>simp_all
 |some t=>
  have:=h.tr t (List.mem_of_find?_eq_some e);have a:=this.2.2.2.1;have h2:=this.2.2.2.2.2.1
  grind
theorem Qgf {i k:Nat} (hi:i<X.Ls.length) (hk:k<X.nr i):(0<=bf k/\bf k<=60)/\0<=X.af i k/\X.af i k<=5000:=by
 have r:=rd h hi hk;have:=Q1Y h (i:=i);have:=r.ex0;have:=r.ex1;have:=r.mn0;have:=r.mn1;have:=r.mn2;have:=r.mn3
 grind [bf,af]
theorem Qib {i k:Nat} (hi:i<X.Ls.length) (hk:k<X.nr i):WA 400 X.G.St X.G.Pt X.G.Se X.G.Li (X.st i k) 0 X.nm X.tl X.sp X.ac X.br (bf k) (X.af i k) Tu3=some ((X.occ i k).map enc,X.run i k,0):=by
 have b:=Qgf h hi hk;exact QfY (rd h hi hk).rt h.sk b.1.1 Q0 b.2.1 Q0
theorem QhE {i k:Nat} (hi:i<X.Ls.length) (hk:k<X.nr i):Ks 400 X.G.St X.G.Pt X.G.Se X.G.Li (X.st i k) 0 X.nm X.tl X.sp X.ac X.br (bf k) (X.af i k) Tu3=some ((X.occ i k).map enc,X.run i k,0):=by
 have b:=Qgf h hi hk;exact Qfu (rd h hi hk).rt h.sk b.1.1 Q0 b.2.1 Q0
theorem Q72 {i k:Nat} (hi:i<X.Ls.length) (hk:k<X.nr i):OL (-1) (X.occ i k)/\(X.occ i k).length<=6:=by
 have b:=Qgf h hi hk;exact QaJ (rd h hi hk).rt h.sk b.1.1 b.1.2 b.2.1 b.2.2
theorem S7 {i k:Nat} (hi:i<X.Ls.length) (hk:k<X.nr i):0<=X.run i k/\X.run i k<=7001:=MG (rd h hi hk).rt h.sk
theorem base_le:base X.nr X.L<=6:=by
 have a:=h.l1;have hb:∀ i,i<=X.Ls.length->base X.nr i<=2*i:=by
  intro i;induction i with
  |zero=>intro _;exact Qpm _
  |succ i ih=>
   intro hi;have:=(JM h (i:=i) Q0).2.1
   grind [base]
 grind [L]
end Cx
theorem PlanR.cx {G:Geo} {per:Int} {Sk Ro Ls Ch Tu Sy De:LL} (h:PlanR G per Sk Ro Ls Ch Tu Sy De):∃ X:Cx,X.OK/\X.G=G/\X.Ro=Ro/\X.Ls=Ls/\Tu=X.T.map tuR/\Sk=[[D.str X.nm,Ql X.tl,Ql X.sp,Ql X.ac,Ql X.br]]:=by
 obtain ⟨T,hT,t1,t2,e,f⟩:=h.tu;obtain ⟨a,b,c,d,hS,hs⟩:=h.sk;exact ⟨⟨G,Ro,Ls,T,bs [88],a,b,c,d⟩,⟨h.ok,hs,h.good,h.l0,h.l1,t1,t2,e,f⟩,rfl,rfl,rfl,hT,hS⟩
def Kv (L:List (List Occ)):LL:=L.map fun o=>[D.sl 3 (o.map enc)]
theorem VZ {L:List (List Occ)} {o:List Occ}:Kv L++[[D.sl 3 (o.map enc)]]=Kv (L++[o]):=by simp [Kv]
theorem J1 {L:List Int} {x:Int}:encI L++[[D.int .i64 x]]=encI (L++[x]):=by simp [encI]
theorem JE {L:List (List Occ)}:(Kv L).length=L.length:=by simp [Kv]
theorem ZR {α:Type} {A:List α} {f:Nat->α} {k:Nat}:A++(List.range k).map f++[f k]=A++(List.range (k+1)).map f:=by simp [List.range_succ]
namespace Cx
variable {R:Type} {n:Nat} {X:Cx} (h:X.OK)
theorem Qay {T:List Tup} (hT:T.length<=1000) {i:Nat} {k0:Int->oP R} {k1:Int->Bool->oP R} {E:oP R} (hk:∀ a b,k1 a b=E):∀ (ac:List Tup) (j m:Nat),T.drop j=ac->ac.length<m->Vv n (i:Int) (T.map tuR) (T.length:Int) k0 k1 m (j:Int)=(match ac.find? (fun t=>t.1 == i) with | some t=>k0 (if 60<t.2.2.2 then t.2.2.2 else 60) | none=>E)
 |[],j,m+1,hd,_=>by
  have:=Ul hd;rw [Vv,show decide ((j:Int)<(T.length:Int))=false by simpa using this,Qp9,hk];rfl
 |(a,b,lo,hi)::ac,j,m+1,hd,hm=>by
  obtain ⟨e,aj,hj⟩:=Ys hd;rw [Vv,Qp hj,Qpa,X0 e];simp -implicitDefEqProofs only [Qh,tuR,Qp6,Qp7,Qj,QC (show j<=1000 by omega)];rw [List.find?_cons];by_cases ha:a=i
  ·subst ha;rw [show ((a:Int) == (a:Int))=true by simp,Qpa,show ((a,b,lo,hi).1 == a)=true by simp]
  ·rw [show ((a:Int) == (i:Int))=false by simp;omega,Qp9,show ((a,b,lo,hi).1 == i)=false by simpa using ha];exact Qay hT hk ac (j+1) m aj (by simpa using hm)
theorem QaL {T:List Tup} (hT:T.length<=1000) {i:Nat} {k0:D->D->D->D->oP R} {k1:Int->Bool->oP R} {E:oP R} (hk:∀ a b,k1 a b=E):∀ (ac:List Tup) (j m:Nat),T.drop j=ac->ac.length<m->Jy n (i:Int) (T.map tuR) k0 k1 m (j:Int)=(match ac.find? (fun t=>t.1 == i) with | some t=>k0 (Ql t.1) (Ql t.2.1) (Ql t.2.2.1) (Ql t.2.2.2) | none=>E)
 |[],j,m+1,hd,_=>by
  have:=Ul hd;rw [Jy,Qpl,show decide ((j:Int)<(T.length:Int))=false by simpa using this,Qp9,hk];rfl
 |(a,b,lo,hi)::ac,j,m+1,hd,hm=>by
  obtain ⟨e,aj,hj⟩:=Ys hd;rw [Jy,Qpl,Qp hj,Qpa,X0 e];simp -implicitDefEqProofs only [Qh,tuR,Qp6,Qp7,Qj,QC (show j<=1000 by omega)];rw [List.find?_cons];by_cases ha:a=i
  ·subst ha;rw [show ((a:Int) == (a:Int))=true by simp,Qpa,show ((a,b,lo,hi).1 == a)=true by simp]
  ·rw [show ((a:Int) == (i:Int))=false by simp;omega,Qp9,show ((a,b,lo,hi).1 == i)=false by simpa using ha];exact QaL hT hk ac (j+1) m aj (by simpa using hm)
def skR (X:Cx):LL:=[[D.str X.nm,Ql X.tl,Ql X.sp,Ql X.ac,Ql X.br]]
include h
theorem Qir {per:Int} {Sk Ro Ls Ch Sy De:LL} {i:Nat}:Hy 400 per Sk Ro Ls Ch (X.T.map tuR) Sy De (i:Int) (some:Int->oP Int)=some (X.rest i):=by
 unfold Hy;rw [Qpl];have:=Qay (n:=400) (T:=X.T) (i:=i) (k0:=(some:Int->oP Int)) (k1:=fun _ _=>some 60) (by have:=h.tl;omega) (fun _ _=>rfl) X.T 0 400 rfl (by have:=h.tl;omega);refine this.trans ?_;unfold rest tn;cases X.T.find? fun t=>t.1 == i <;> rfl
theorem QbC {i:Nat} (K:D->D->D->D->Bool->oP R):H5 400 (X.T.map tuR) (i:Int) K=(match X.tn i with | some t=>K (Ql t.1) (Ql t.2.1) (Ql t.2.2.1) (Ql t.2.2.2) true | none=>K (Ql 0) (Ql 0) (Ql 0) (Ql 0) false):=
 QaL (n:=400) (T:=X.T) (i:=i) (k0:=fun a b c d=>K a b c d true) (k1:=fun _ _=>K (Ql 0) (Ql 0) (Ql 0) (Ql 0) false) (by have:=h.tl;omega) (fun _ _=>rfl) X.T 0 400 rfl (by have:=h.tl;omega)
theorem Qdm {per:Int} {Ch Sy De:LL} {i:Nat} (hi:i<X.Ls.length) {A:List (List Occ)} {B:List Int} (hA:A.length<=100) (hB:B.length<=100) {k0:Int->oP R} {K:LL->LL->oP R} {k1:Int->Bool->LL->LL->oP R} (hk:∀ a b u v,k1 a b u v=K u v) :
  Yo 400 (i:Int) (GI X.Ls i) ((X.nr i:Nat):Int) X.G.St X.G.Pt X.G.Se X.G.Li per X.skR X.Ro X.Ls Ch (X.T.map tuR) Sy De (Ql 0) (D.sl 4 (GI X.Ls i)) k0 k1 400 0 (Kv A) (encI B)=K (Kv (A++(List.range (X.nr i)).map (X.occ i))) (encI (B++(List.range (X.nr i)).map (X.run i))):=by
 have hl:=(JM h hi).2.1;refine QD (r:=fun m k=>Yo 400 (i:Int) (GI X.Ls i) ((X.nr i:Nat):Int) X.G.St X.G.Pt X.G.Se X.G.Li per X.skR X.Ro X.Ls Ch (X.T.map tuR) Sy De (Ql 0) (D.sl 4 (GI X.Ls i)) k0 k1 m k (Kv (A++(List.range k.toNat).map (X.occ i))) (encI (B++(List.range k.toNat).map (X.run i)))) (N:=X.nr i) (fun m k hk=>?_) (fun m=>?_) (X.nr i) 400 0 Q0 Q0 |> Eq.trans Q2
 ·simp only [Qp8];have r:=rd h hi hk;have rr:=Q1Y h (i:=i);have l:=r.ex0;have e1:=r.ex1;have e2:=r.mn0;have n:=r.mn1;have o:=r.mn2;have p:=r.mn3;have hh:=Qib h hi hk;have an:Qi (GI X.Ls i) (k:Int)=some [Ql (rF X.Ls i k 0),Ql (X.ex i k),Ql (X.mn i k),Ql (X.mx i k)]:=by rw [Qq,r.row]
  have ao:Qi X.skR 0=some [D.str X.nm,Ql X.tl,Ql X.sp,Ql X.ac,Ql X.br]:=rfl;have ar:=r.ro;have hw:wJ (((List.length (GI X.Ls i):Nat):Int)-1)=((X.nr i-1:Nat):Int):=JP (k:=X.nr i) Q0 Q0;have d:Yn (((Kv (A++(List.range k).map (X.occ i))).length+List.length [[D.sl 3 ((X.occ i k).map enc)]])*24)=some ():=XJ (by simp [JE];omega);have e:Yn (((encI (B++(List.range k).map (X.run i))).length+List.length [[D.int .i64 (X.run i k)]])*8)=some ():=XJ (by simp [X4];omega);have ak:=Qir h (per:=per) (Sk:=X.skR) (Ro:=X.Ro) (Ls:=X.Ls) (Ch:=Ch) (Sy:=Sy) (De:=De) (i:=i);have aq:((k:Int) == ((X.nr i-1:Nat):Int))=decide (k=X.nr i-1):=by
   by_cases hc:k=X.nr i-1
   ·rw [Qpj hc];simp;omega
   ·rw [Qpi hc];simp;omega
  have f:((k:Int) == 0)=decide (k=0):=by
   by_cases hc:k=0
   ·rw [Qpj hc];simp;omega
   ·rw [Qpi hc];simp;omega
  have g:wJ (X.ex i k+X.rest i)=X.ex i k+X.rest i:=Qn Q0 Q0;have j:wJ (X.ex i k+X.mx i k)=X.ex i k+X.mx i k:=Qn Q0 Q0;rw [Yo,Qp hk,Qpa,an];simp -implicitDefEqProofs only [Qh,Qp6,Qp7,Qj,QN,XO,hw,aq,f,ak,ar,ao,g,j,QC (show k<=1000 by omega)];unfold bf af at hh;by_cases c1:k=0 <;> by_cases c:k=X.nr i-1
  ·simp -implicitDefEqProofs only [Qpf c1,Qpf c] at hh;simp -implicitDefEqProofs only [Qpj c1,Qpj c,Qpa,hh,Qh,show ((0:Int) != 0)=false from rfl,Qp9,d,e,VZ,J1,ZR]
  ·simp -implicitDefEqProofs only [Qpf c1,Qph c] at hh;simp -implicitDefEqProofs only [Qpj c1,Qpi c,Qpa,hh,Qh,show ((0:Int) != 0)=false from rfl,Qp9,d,e,VZ,J1,ZR]
  ·simp -implicitDefEqProofs only [Qph c1,Qpf c] at hh;simp -implicitDefEqProofs only [Qpi c1,Qpj c,Qpa,hh,Qh,show ((0:Int) != 0)=false from rfl,Qp9,d,e,VZ,J1,ZR]
  ·simp -implicitDefEqProofs only [Qph c1,Qph c] at hh;simp -implicitDefEqProofs only [Qpi c1,Qpi c,Qpa,hh,Qh,show ((0:Int) != 0)=false from rfl,Qp9,d,e,VZ,J1,ZR]
 ·simp only [Qp8];rw [Yo,Qz,Qp9,hk]
end Cx
namespace Cx
variable {R:Type} {n:Nat} {X:Cx} (h:X.OK)
include h
theorem Q9N {per:Int} {Sk Ch Tu Sy De:LL} {i k:Nat} (hi:i<X.Ls.length) (hk:k<X.nr i) (K:D->D->oP R):Y1 n per Sk X.Ro X.Ls Ch Tu Sy De (i:Int) (k:Int) K=K (D.sl 2 (X.st i k)) (Ql 0):=by
 have r:=rd h hi hk;unfold Y1;rw [Qq,(JM h hi).1];simp -implicitDefEqProofs only [Qh,Qp6,Qp7,Qj,QN,Qq,r.row,r.ro]
theorem QeB {per:Int} {Ch Sy De:LL} {i:Nat} (hi:i<X.Ls.length) {A:List (List Occ)} {B:List Int} (hA:A.length<=100) (hB:B.length<=100) {K:LL->LL->oP R} {k1:Int->Bool->LL->LL->oP R} (hk:∀ a b u v,k1 a b u v=K u v) :
  YX 400 (i:Int) X.G.St X.G.Pt X.G.Se X.G.Li per X.skR X.Ro X.Ls Ch (X.T.map tuR) Sy De (Ql 0) (D.sl 4 (GI X.Ls i)) k1 400 0 (Kv A) (encI B)=K (Kv (A++(List.range (X.nr i)).map (X.occ i))) (encI (B++(List.range (X.nr i)).map (X.run i))):=by
 have hl:=(JM h hi).2.1;refine QD (r:=fun m k=>YX 400 (i:Int) X.G.St X.G.Pt X.G.Se X.G.Li per X.skR X.Ro X.Ls Ch (X.T.map tuR) Sy De (Ql 0) (D.sl 4 (GI X.Ls i)) k1 m k (Kv (A++(List.range k.toNat).map (X.occ i))) (encI (B++(List.range k.toNat).map (X.run i)))) (N:=X.nr i) (fun m k hk=>?_) (fun m=>?_) (X.nr i) 400 0 Q0 Q0 |> Eq.trans Q2
 ·simp only [Qp8];have r:=rd h hi hk;have rr:=Q1Y h (i:=i);have y:=r.ex0;have e1:=r.ex1;have e2:=r.mn0;have z:=r.mn1;have e4:=r.mn2;have e5:=r.mn3;have hh:=QhE h hi hk;have ao:Qi (GI X.Ls i) (k:Int)=some [Ql (rF X.Ls i k 0),Ql (X.ex i k),Ql (X.mn i k),Ql (X.mx i k)]:=by rw [Qq,r.row]
  have aq:Qi X.skR 0=some [D.str X.nm,Ql X.tl,Ql X.sp,Ql X.ac,Ql X.br]:=rfl;have hw:wJ (((List.length (GI X.Ls i):Nat):Int)-1)=((X.nr i-1:Nat):Int):=JP (k:=X.nr i) Q0 Q0;have d:Yn (((Kv (A++(List.range k).map (X.occ i))).length+List.length [[D.sl 3 ((X.occ i k).map enc)]])*24)=some ():=XJ (by simp [JE];omega);have f:Yn (((encI (B++(List.range k).map (X.run i))).length+List.length [[D.int .i64 (X.run i k)]])*8)=some ():=XJ (by simp [X4];omega);have g:((k:Int) == 0)=decide (k=0):=by
   by_cases hc:k=0
   ·rw [Qpj hc];simp;omega
   ·rw [Qpi hc];simp;omega
  have j:decide ((k:Int)<((X.nr i-1:Nat):Int)) = !decide (k=X.nr i-1):=by
   by_cases hc:k=X.nr i-1
   ·rw [Qpj hc];exact Qpi Q0
   ·rw [Qpi hc];exact Qpj Q0
  have o:wJ (X.ex i k+60)=X.ex i k+60:=Qn Q0 Q0;have l:wJ (X.ex i k+X.mx i k)=X.ex i k+X.mx i k:=Qn Q0 Q0;have p:∀ t,X.tn i=some t->wJ (X.ex i k+(if 60<t.2.2.2 then t.2.2.2 else 60))=X.ex i k+X.rest i:=fun t ht=>by
   have e:X.rest i=if 60<t.2.2.2 then t.2.2.2 else 60:=by unfold rest;rw [ht]
   rw [<- e];exact Qn Q0 Q0
  have q:X.tn i=none->wJ (X.ex i k+60)=X.ex i k+X.rest i:=fun ht=>by rw [o];unfold rest;rw [ht]
  have ar:∀ K':D->D->oP R,Y1 400 per X.skR X.Ro X.Ls Ch (X.T.map tuR) Sy De (i:Int) (k:Int) K'=K' (D.sl 2 (X.st i k)) (Ql 0):=fun K'=>Q9N h hi hk K'
  have an:=Q9N (n:=400) h (per:=per) (Sk:=X.skR) (Ch:=Ch) (Tu:=X.T.map tuR) (Sy:=Sy) (De:=De) hi hk Tu2;rw [YX,QN,Qh,show ((GI X.Ls i).length:Int)=((X.nr i:Nat):Int) from rfl,Qp hk,Qpa];unfold bf af at hh;cases ht:X.tn i with
  |some t=>
   simp -implicitDefEqProofs only [jn,Qh,Qp6,Qp7,Qj,QN,XO,ao,hw,g,j,QbC h,ht,l,p t ht,aq,an,Qpa,QC (show k<=1000 by omega)];by_cases c1:k=0 <;> by_cases c:k=X.nr i-1
   ·simp -implicitDefEqProofs only [Qpf c1,Qpf c] at hh;simp -implicitDefEqProofs only [Qpj c1,Qpj c,Qpd,Qp9,Qpa,hh,Qh,d,f,VZ,J1,ZR]
   ·simp -implicitDefEqProofs only [Qpf c1,Qph c] at hh;simp -implicitDefEqProofs only [Qpj c1,Qpi c,Qpc,Qp9,Qpa,hh,Qh,d,f,VZ,J1,ZR]
   ·simp -implicitDefEqProofs only [Qph c1,Qpf c] at hh;simp -implicitDefEqProofs only [Qpi c1,Qpj c,Qpd,Qp9,Qpa,hh,Qh,d,f,VZ,J1,ZR]
   ·simp -implicitDefEqProofs only [Qph c1,Qph c] at hh;simp -implicitDefEqProofs only [Qpi c1,Qpi c,Qpc,Qp9,Qpa,hh,Qh,d,f,VZ,J1,ZR]
  |none=>
   simp -implicitDefEqProofs only [jn,Qh,Qp6,Qp7,Qj,QN,XO,ao,hw,g,j,QbC h,ht,l,q ht,aq,an,Qp9,QC (show k<=1000 by omega)];by_cases c1:k=0 <;> by_cases c:k=X.nr i-1
   ·simp -implicitDefEqProofs only [Qpf c1,Qpf c] at hh;simp -implicitDefEqProofs only [Qpj c1,Qpj c,Qpd,Qp9,Qpa,hh,Qh,d,f,VZ,J1,ZR]
   ·simp -implicitDefEqProofs only [Qpf c1,Qph c] at hh;simp -implicitDefEqProofs only [Qpj c1,Qpi c,Qpc,Qp9,Qpa,hh,Qh,d,f,VZ,J1,ZR]
   ·simp -implicitDefEqProofs only [Qph c1,Qpf c] at hh;simp -implicitDefEqProofs only [Qpi c1,Qpj c,Qpd,Qp9,Qpa,hh,Qh,d,f,VZ,J1,ZR]
   ·simp -implicitDefEqProofs only [Qph c1,Qph c] at hh;simp -implicitDefEqProofs only [Qpi c1,Qpi c,Qpc,Qp9,Qpa,hh,Qh,d,f,VZ,J1,ZR]
 ·simp only [Qp8];rw [YX,QN,Qh,show ((GI X.Ls i).length:Int)=((X.nr i:Nat):Int) from rfl,Qz,Qp9,hk]
omit h in
def occs (X:Cx) (i:Nat):List (List Occ):=Qb3 X.nr X.occ i
omit h in
def runs (X:Cx) (i:Nat):List Int:=Qb3 X.nr X.run i
theorem Ya {i:Nat} (hi:i<=X.Ls.length):base X.nr i<=6:=by
 have a:=base_le h;by_cases hc:i=X.Ls.length
 ·rw [hc];exact a
 ·have:=SN (nr:=X.nr) (i:=i) (j:=X.Ls.length) Q0;unfold L at a;omega
theorem Qgc {per:Int} {Ch Sy De:LL} (hc:Vu 400 X.G.St X.G.Pt X.G.Se X.G.Li per X.skR X.Ro X.Ls Ch (X.T.map tuR) Sy De (some:Int->oP Int)=some 0):TE 400 X.G.St X.G.Pt X.G.Se X.G.Li per X.skR X.Ro X.Ls Ch (X.T.map tuR) Sy De Tu3=some (Kv (X.occs X.L),encI (X.runs X.L),(0:Int)):=by
 have l1:=h.l1;unfold TE;rw [hc,Qh,Qr (by rfl)];refine QD (r:=fun m i=>Wh 400 X.Ls (X.Ls.length:Int) X.G.St X.G.Pt X.G.Se X.G.Li per X.skR X.Ro X.Ls Ch (X.T.map tuR) Sy De (fun a=>some ([],[],a)) (fun g j b c=>some (b,c,(0:Int))) m i (Kv (X.occs i.toNat)) (encI (X.runs i.toNat))) (N:=X.Ls.length) (fun m i hi=>?_) (fun m=>?_) X.Ls.length 400 0 Q0 Q0
 ·simp only [Qp8];have hb:=Ya h (i:=i) Q0;rw [Wh,Qp hi,Qpa,Qq,(JM h hi).1];simp -implicitDefEqProofs only [Qh,Qp6,Qp7,QN,QC (show i<=1000 by omega)];exact Qdm h hi (A:=X.occs i) (B:=X.runs i) (by unfold occs;rw [ZV];omega) (by unfold runs;rw [ZV];omega) (K:=fun u v=>Wh 400 X.Ls (X.Ls.length:Int) X.G.St X.G.Pt X.G.Se X.G.Li per X.skR X.Ro X.Ls Ch (X.T.map tuR) Sy De (fun a=>some ([],[],a)) (fun g j b c=>some (b,c,(0:Int))) m ((i+1:Nat):Int) u v) (fun _ _ _ _=>rfl)
 ·simp only [Qp8];rw [Wh,Qz,Qp9];rfl
theorem Qg2 {per:Int} {Ch Sy De:LL} (hc:UU 400 X.G.St X.G.Pt X.G.Se X.G.Li per X.skR X.Ro X.Ls Ch (X.T.map tuR) Sy De (some:Int->oP Int)=some 0):RJ 400 X.G.St X.G.Pt X.G.Se X.G.Li per X.skR X.Ro X.Ls Ch (X.T.map tuR) Sy De Tu3=some (Kv (X.occs X.L),encI (X.runs X.L),(0:Int)):=by
 have l1:=h.l1;unfold RJ;rw [hc,Qh,Qr (by rfl)];refine QD (r:=fun m i=>V9 400 X.G.St X.G.Pt X.G.Se X.G.Li per X.skR X.Ro X.Ls Ch (X.T.map tuR) Sy De (fun f g a b=>some (a,b,(0:Int))) m i (Kv (X.occs i.toNat)) (encI (X.runs i.toNat))) (N:=X.Ls.length) (fun m i hi=>?_) (fun m=>?_) X.Ls.length 400 0 Q0 Q0
 ·simp only [Qp8];have hb:=Ya h (i:=i) Q0;rw [V9,Qp hi,Qpa,Qq,(JM h hi).1];simp -implicitDefEqProofs only [Qh,Qp6,Qp7,QN,QC (show i<=1000 by omega)];exact QeB h hi (A:=X.occs i) (B:=X.runs i) (by unfold occs;rw [ZV];omega) (by unfold runs;rw [ZV];omega) (K:=fun u v=>V9 400 X.G.St X.G.Pt X.G.Se X.G.Li per X.skR X.Ro X.Ls Ch (X.T.map tuR) Sy De (fun f g a b=>some (a,b,(0:Int))) m ((i+1:Nat):Int) u v) (fun _ _ _ _=>rfl)
 ·simp only [Qp8];rw [V9,Qz,Qp9];rfl
end Cx
end Go.Vx
namespace Go.Vx
variable {R:Type} (n:Nat)
def Kw (k l m o:LL) (d:Int) (p q e i g j r:LL) (K:Int->LL->LL->Int->oP R):oP R:=Qc R (Vu n k l m o d p q e i g j r some) fun a=>bif a !=0 then K 0 [] [] 1 else Qc R (YT n e [] [] Tu2) fun b=>bif decide ((b.2.length:Int)>48) then K 0 [] [] 7 else gb true (TE n k l m o d p q e i g j r Tu3) ([],[],0) fun c=>bif c.2.2 !=0 then K 0 [] [] c.2.2 else Qc R (YY n e g b.1 c.2.1 [] some) fun s=>Qc R (Wd n d c.1 s some) fun t=>bif !t then K 0 [] [] 13 else Qc R (YJ n e i g j b.1 c.2.1 [] some) fun r6=>gb true (YB n d c.1 s r6 Tu2) (0,[]) fun h=>bif h.1 !=0 then K 0 [] [] h.1 else bif decide ((h.2.length:Int)>512) then K 0 [] [] 7 else K d b.2 h.2 0
end Go.Vx
namespace Go.Vx
namespace Cx
variable (X:Cx)
def evl (i:Nat):Nat->LL
 |0=>[]
 |k+1=>evl i k++[[Ql 1,Ql i,Ql k],[Ql 2,Ql i,Ql k]]
def evs:Nat->LL
 |0=>[]
 |i+1=>evs i++evl i (X.nr i)
theorem Q2R {i:Nat}:∀ {k:Nat},(evl i k).length=2*k
 |0=>rfl
 |k+1=>by rw [evl,QpA,Q2R];simp;omega
variable {X}
theorem evs_len:∀ {i:Nat},(X.evs i).length=2*base X.nr i
 |0=>rfl
 |i+1=>by rw [evs,QpA,evs_len,Q2R,base];omega
def fst (X:Cx) (i:Nat):LL:=encI ((List.range i).map fun j=>(base X.nr j:Int))
theorem Q7C {i L:Nat} (h:i<L):Qi (X.fst L) (i:Int)=some [Ql (base X.nr i)]:=JD (by simp [h])
variable {R:Type} {n:Nat} (h:X.OK)
include h
theorem QdA (K:LL->LL->oP R):YT 400 X.Ls [] [] K=K (X.fst X.L) (X.evs X.L):=by
 have l1:=h.l1;unfold YT;refine QD (r:=fun m i=>X3 400 X.Ls (X.Ls.length:Int) (fun _ _ u v=>K u v) m i (X.fst i.toNat) (X.evs i.toNat)) (N:=X.Ls.length) (fun m i hi=>?_) (fun m=>?_) X.Ls.length 400 0 Q0 Q0
 ·simp only [Qp8];have hb:=Ya h (i:=i) Q0;have hl:=(JM h hi).2.1;have e1:wJ (Int.tdiv ((2*base X.nr i:Nat):Int) 2)=(base X.nr i:Int):=by
   rw [Qpu Q0,Qn Q0 Q0];omega
  have e2:X.fst i++[[D.int .i64 (base X.nr i:Int)]]=X.fst (i+1):=by simp [fst,encI,List.range_succ]
  have a:(X.fst i).length=i:=by simp [fst,encI]
  rw [X3,Qp hi,Qpa,Qq,(JM h hi).1];simp -implicitDefEqProofs only [Qh,Qp6,Qp7,QN,QC (show i<=1000 by omega),EC (b:=2) Q1,evs_len,e1,e2,XJ (show ((X.fst i).length+[[D.int .i64 (base X.nr i:Int)]].length)*8<=100000 by rw [a];simp;omega)];refine QD (r:=fun m' k=>Xl 400 (i:Int) ((X.nr i:Nat):Int) (fun _ _ w=>X3 400 X.Ls (X.Ls.length:Int) (fun _ _ u v=>K u v) m ((i+1:Nat):Int) (X.fst (i+1)) w) m' k (X.evs i++evl i k.toNat)) (N:=X.nr i) (fun m' k hk=>?_) (fun m'=>?_) (X.nr i) 400 0 Q0 Q0 |> Eq.trans (by simp [evl];rfl)
  ·simp only [Qp8];rw [Xl,Qp hk,Qpa,XJ (by simp [evs_len,Q2R];omega),Qh,QC Q0,List.append_assoc];rfl
  ·simp only [Qp8];rw [Xl,Qz,Qp9];rfl
 ·simp only [Qp8];rw [X3,Qz,Qp9];rfl
omit h in
theorem QcV {a:Nat} (ha:a<=1000) (K:Int->oP R):YG n (a:Int) K=K ((2*a:Nat):Int):=by
 grind [YG,Qn]
omit h in
theorem Qhs {a:Nat} (ha:a<=1000) (K:Int->oP R):V2 n (a:Int) K=K ((2*a+1:Nat):Int):=by
 grind [V2,Qn]
theorem Q45 {i k:Nat} (hi:i<X.Ls.length) (hk:k<=10) (K:Int->oP R):Y5 n (X.fst X.L) (i:Int) (k:Int) K=K ((base X.nr i+k:Nat):Int):=by
 have hb:=Ya h (i:=i) Q0;unfold Y5
 grind [Q7C,L,Qq,fst,encI,Yh,Qh,Int.toNat_natCast,List.getElem?_cons_zero,Qj,Qn]
theorem Q1j {i k:Nat} (hi:i<X.Ls.length) (hk:k<=10) (K:Int->oP R):Xg n (X.fst X.L) (i:Int) (k:Int) K=K ((base X.nr i+k:Nat):Int):=Q45 (n:=n) h hi hk K
theorem Qd3 {i:Nat} (hi:i<X.Ls.length) (K:Int->oP R):Wz n X.Ls (X.fst X.L) (i:Int) K=K ((base X.nr i+(X.nr i-1):Nat):Int):=by
 have hl:=(JM h hi).2.1;have hw:wJ (((List.length (GI X.Ls i):Nat):Int)-1)=((X.nr i-1:Nat):Int):=JP (k:=X.nr i) Q0 Q0
 grind [Wz,Qq,JM,Qh,List.getElem?_cons_zero,List.getElem?_cons_succ,QN,Q45]
theorem Qfl {i:Nat} (hi:i<X.Ls.length) (K:Int->oP R):VL n X.Ls (X.fst X.L) (i:Int) K=K ((base X.nr i+(X.nr i-1):Nat):Int):=Qd3 (n:=n) h hi K
omit h in
def j1 (X:Cx) (i k:Nat):Tup:=(base X.nr i+k,base X.nr i+(k+1),X.run i k+X.mn i k,X.run i k+X.ex i k+X.mx i k)
omit h in
def jT (X:Cx) (t:Tup):Tup:=(base X.nr t.1+(X.nr t.1-1),base X.nr t.2.1+0,X.run t.1 (X.nr t.1-1)+t.2.2.1,X.run t.1 (X.nr t.1-1)+X.ex t.1 (X.nr t.1-1)+t.2.2.2)
omit h in
def jL (X:Cx) (i:Nat):List Tup:=Qb3 (fun i=>X.nr i-1) X.j1 i
omit h in
def jns (X:Cx):List Tup:=X.jL X.L++X.T.map X.jT
omit h in
theorem Q6N {i k:Nat} (hi:i<X.Ls.length) (hk:k<X.nr i):Qi (encI (X.runs X.L)) ((base X.nr i+k:Nat):Int)=some [Ql (X.run i k)]:=JD (LK hk hi)
omit h in
theorem QfN {i k:Nat} (hi:i<X.Ls.length) (hk:k<X.nr i):Qi (Kv (X.occs X.L)) ((base X.nr i+k:Nat):Int)=some [D.sl 3 ((X.occ i k).map enc)]:=X0 (LK hk hi)
theorem Qfn {i k b:Nat} (hi:i<X.Ls.length) (hk:k<X.nr i) {ex lo ac:Int} (a:0<=ex) (e1:ex<=1000) (l0:0<=lo) (l1:lo<=1000) (c:0<=ac) (d:ac<=1000) {J:List Tup} (hJ:J.length<=100) (K:LL->oP R) :
  Yt n (encI (X.runs X.L)) (J.map tuR) ((base X.nr i+k:Nat):Int) (b:Int) ex lo ac K=K ((J++[(base X.nr i+k,b,X.run i k+lo,X.run i k+ex+ac)]).map tuR):=by
 have hr:=S7 h hi hk;unfold Yt;rw [Q6N hi hk,Qh];simp -implicitDefEqProofs only [Qh,Qp6,Qj,Qn (x:=X.run i k+lo) Q0 Q0,Qn (x:=X.run i k+ex) Q0 Q0,Qn (x:=X.run i k+ex+ac) Q0 Q0];rw [XJ Q3,Qh,Qpw];rfl
omit h in
theorem Qfe {i:Nat}:(X.jL i).length=base (fun i=>X.nr i-1) i:=ZV
theorem Qen {i:Nat} (hi:i<=X.Ls.length):(X.jL i).length<=6:=by
 rw [Qfe];have:∀ i,base (fun i=>X.nr i-1) i<=base X.nr i:=by
  intro i;induction i with
  |zero=>exact Qpm _
  |succ i ih=>grind [base]
 grind [Nat.le_trans,Ya]
theorem QeU (K:LL->oP R):YY 400 X.Ls (X.T.map tuR) (X.fst X.L) (encI (X.runs X.L)) [] K=K (X.jns.map tuR):=by
 have l1:=h.l1;have tl:=h.tl;unfold YY;have s2:∀ k0:Int->Bool->LL->oP R,QP 400 X.Ls (X.Ls.length:Int) (X.fst X.L) (encI (X.runs X.L)) k0 400 0 []=k0 (X.Ls.length:Int) false ((X.jL X.L).map tuR):=by
  intro k0;refine QD (r:=fun m i=>QP 400 X.Ls (X.Ls.length:Int) (X.fst X.L) (encI (X.runs X.L)) k0 m i ((X.jL i.toNat).map tuR)) (N:=X.Ls.length) (fun m i hi=>?_) (fun m=>?_) X.Ls.length 400 0 Q0 Q0
  ·simp only [Qp8];have hl:=(JM h hi).2.1;have hJ:=Qen h (i:=i) Q0;have hw:wJ (((List.length (GI X.Ls i):Nat):Int)-1)=((X.nr i-1:Nat):Int):=JP (k:=X.nr i) Q0 Q0;have ao:(cut (GI X.Ls i) (0,X.nr i-1)).length=X.nr i-1:=by rw [Fe,List.length_take];unfold nr;omega
   rw [QP,Qp hi,Qpa,Qq,(JM h hi).1];simp -implicitDefEqProofs only [Qh,Qp6,Qp7,QN,QC (show i<=1000 by omega),hw,Q2y (n:=(GI X.Ls i).length) (h:=X.nr i-1) (Nat.sub_le ..),ao];refine QD (r:=fun m' k=>Xx 400 (i:Int) (cut (GI X.Ls i) (0,X.nr i-1)) ((X.nr i-1:Nat):Int) (X.fst X.L) (encI (X.runs X.L)) (fun _ _ w=>QP 400 X.Ls (X.Ls.length:Int) (X.fst X.L) (encI (X.runs X.L)) k0 m ((i+1:Nat):Int) w) m' k ((X.jL i++(List.range k.toNat).map (X.j1 i)).map tuR)) (N:=X.nr i-1) (fun m' k hk=>?_) (fun m'=>?_) (X.nr i-1) 400 0 Q0 Q0 |> Eq.trans Q2
   ·simp only [Qp8];have r:=rd h hi (show k<X.nr i by omega);have ak:Qi (cut (GI X.Ls i) (0,X.nr i-1)) (k:Int)=some [Ql (rF X.Ls i k 0),Ql (X.ex i k),Ql (X.mn i k),Ql (X.mx i k)]:=by rw [Fe,Qq,List.getElem?_take_of_lt hk,r.row]
    have c:=r.ex0;have e1:=r.ex1;have e2:=r.mn0;have o:=r.mn1;have p:=r.mn2;have s:=r.mn3;rw [Xx,Qp hk,Qpa,ak];simp -implicitDefEqProofs only [Qh,Qp6,Qp7,Qj,Q45 (n:=400) h hi (show k<=10 by omega),QC (show k<=1000 by omega),Q45 (n:=400) h hi (show k+1<=10 by omega),Qfn (n:=400) (b:=base X.nr i+(k+1)) h hi (show k<X.nr i by omega) c (show X.ex i k<=1000 by omega) e2 (show X.mn i k<=1000 by omega) (show 0<=X.mx i k by omega) (show X.mx i k<=1000 by omega) (J:=X.jL i++(List.range k).map (X.j1 i)) Q3];rw [show (base X.nr i+k,base X.nr i+(k+1),X.run i k+X.mn i k,X.run i k+X.ex i k+X.mx i k)=X.j1 i k from rfl,ZR]
   ·simp only [Qp8];rw [Xx,Qz,Qp9];rfl
  ·simp only [Qp8];rw [QP,Qz,Qp9];rfl
 rw [s2];rw [Qpl];refine QD (r:=fun m j=>Xv 400 (X.T.map tuR) (X.T.length:Int) (X.fst X.L) X.Ls (encI (X.runs X.L)) (fun _ _ w=>K w) m j ((X.jL X.L++(X.T.take j.toNat).map X.jT).map tuR)) (N:=X.T.length) (fun m j hj=>?_) (fun m=>?_) X.T.length 400 0 Q0 Q0 |> Eq.trans Q2
 ·simp only [Qp8];obtain ⟨⟨a,b,lo,ac⟩,e⟩:∃ q,X.T[j]? = some q:=⟨X.T[j],Qpb hj⟩;have ht:=h.tr _ (List.mem_of_getElem? e);have ha:a<X.Ls.length:=ht.1;have hb:b<X.Ls.length:=ht.2.1;have t1:=ht.2.2.1;have t2:=ht.2.2.2.1;have f:=ht.2.2.2.2.1;have g:=ht.2.2.2.2.2.1;dsimp only at t1 t2 f g;have hl:=(JM h ha).2.1;have hJ:=Qen h (i:=X.L) (Qpm _);have hw:wJ (((List.length (GI X.Ls a):Nat):Int)-1)=((X.nr a-1:Nat):Int):=JP (k:=X.nr a) Q0 Q0;have r:=rd h ha (show X.nr a-1<X.nr a by omega);have c:=r.ex0;have e1:=r.ex1;rw [Xv,Qp hj,Qpa,X0 e];simp -implicitDefEqProofs only [Qh,tuR,Qp6,Qp7,Qj,QN,Qq,(JM h ha).1,hw,r.row,Qd3 (n:=400) h ha,QC (show j<=1000 by omega)];have d:=Q45 (R:=Int) (n:=400) h hb (Nat.zero_le 10) some;rw [show ((0:Nat):Int)=0 from rfl] at d;rw [d,Qh];have l:X.jL X.L++(X.T.take (j+1)).map X.jT=X.jL X.L++(X.T.take j).map X.jT++[X.jT (a,b,lo,ac)]:=by rw [YE e,Qpw,List.append_assoc];rfl
  rw [Qfn (n:=400) (b:=base X.nr b+0) h ha (show X.nr a-1<X.nr a by omega) c (show X.ex a (X.nr a-1)<=1000 by omega) (show 0<=lo by omega) (show lo<=1000 by omega) (show 0<=ac by omega) (show ac<=1000 by omega) (J:=X.jL X.L++(X.T.take j).map X.jT) Q3,Qh,l];rfl
 ·simp only [Qp8];rw [Xv,Qz,Qp9,Qpy];rfl
end Cx
abbrev Sp2:=Int×Int
def Yw (q:Sp2):List D:=[Ql q.1,Ql q.2]
def VS (t:Int):Int->List Sp2->Prop
 |_,[]=>True
 |l,(a,b)::r=>l<a/\a<b/\b<=t/\VS t b r
def InS (y:Int) (l:List Sp2):Prop:=∃ q∈l,q.1<=y/\y<q.2
def cnt:List Sp2->Int
 |[]=>0
 |(a,b)::r=>(b-a)+cnt r
theorem Fb {y:Int}:¬ InS y []:=fun ⟨_,h,_⟩=>nomatch h
theorem TY {y:Int} {q:Sp2} {l:List Sp2}:InS y (q::l)↔(q.1<=y/\y<q.2)\/InS y l:=by
 constructor
 ·rintro ⟨p,hp,h⟩;cases hp with
  |head=>exact .inl h
  |tail _ hp=>exact .inr ⟨p,hp,h⟩
 ·rintro (h | ⟨p,hp,h⟩)
  ·exact ⟨q,.head _,h⟩
  ·exact ⟨p,.tail _ hp,h⟩
theorem Qah {y:Int} {a b:List Sp2}:InS y (a++b)↔InS y a\/InS y b:=by
 constructor
 ·rintro ⟨p,hp,h⟩;rcases Qpr.1 hp with hp | hp
  ·exact .inl ⟨p,hp,h⟩
  ·exact .inr ⟨p,hp,h⟩
 ·rintro (⟨p,hp,h⟩ | ⟨p,hp,h⟩)
  ·exact ⟨p,List.mem_append_left _ hp,h⟩
  ·exact ⟨p,List.mem_append_right _ hp,h⟩
theorem Q79 {y:Int} {a b:List Sp2} (h:a.Perm b):InS y a↔InS y b:=⟨fun ⟨p,hp,q⟩=>⟨p,h.mem_iff.1 hp,q⟩,fun ⟨p,hp,q⟩=>⟨p,h.mem_iff.2 hp,q⟩⟩
theorem VS.rng {t:Int}:∀ {l:Int} {s:List Sp2},VS t l s->∀ q∈s,l<q.1/\q.1<q.2/\q.2<=t
 |_,[],_,_,h=>nomatch h
 |l,(a,b)::r,⟨c,h2,d,e⟩,q,h=>by
  cases h with
  |head=>exact ⟨c,h2,d⟩
  |tail _ h=>have:=e.rng q h;exact ⟨Q0,this.2⟩
theorem VS.cnt {t:Int}:∀ {l:Int} {s:List Sp2},l<=t->VS t l s->0<=cnt s/\cnt s<=t-l/\(0<s.length->cnt s<=t-l-1)
 |l,[],h,_=>⟨Int.le_refl _,by simp only [Vx.cnt];omega,fun h=>nomatch h⟩
 |l,(a,b)::r,h,⟨e,h2,c,d⟩=>by
  have:=d.cnt c;simp only [Vx.cnt];omega
theorem QaO {t:Int}:∀ {l:Int} {s:List Sp2},VS t l s->l<=t->∀ q∈s,q.2-q.1<=cnt s
 |_,[],_,_,_,h=>nomatch h
 |l,(a,b)::r,⟨e,h2,c,d⟩,hl,q,h=>by
  have f:=d.cnt c;cases h with
  |head=>simp only [Vx.cnt];omega
  |tail _ h=>have:=QaO d c q h;simp only [Vx.cnt];omega
section
variable {R:Type} {n:Nat} {t:Int}
theorem Q2z (a:1<=t) (b:t<=7200) (K:Bool->oP R):Vl n t K=K true:=by
 unfold Vl;simp only [show decide (t>=1)=true from Qpj a,show decide (t<=7200)=true from Qpj b,Qpa]
theorem Q75 {l:List Sp2} (hl:l.length<=1000) {k0:oP R} {k1:Int->Int->Bool->oP R} {E:oP R} (hk:∀ a b c,k1 a b c=E):∀ (ac:List Sp2) (i m:Nat) (last:Int),l.drop i=ac->ac.length<m->VS t last ac->UD n t (l.map Yw) (l.length:Int) k0 k1 m last (i:Int)=E
 |[],i,m+1,last,hd,_,_=>by
  have:=Ul hd;rw [UD,show decide ((i:Int)<(l.length:Int))=false by simpa using this,Qp9,hk]
 |(a,b)::ac,i,m+1,last,hd,hm,⟨f,h2,g,d⟩=>by
  obtain ⟨e,aj,hi⟩:=Ys hd;rw [UD,Qp hi,Qpa,X0 e];simp -implicitDefEqProofs only [Qh,Yw,Qp6,Qp7,Qj,Q5 (a<=last),Q5 (a>=b),Q5 (b>t),Qp9,QC (show i<=1000 by omega)];exact Q75 hl hk ac (i+1) m b aj (by simpa using hm) d
theorem Q0a {l:List Sp2} (a:1<=t) (b:t<=7200) (hl:l.length<=300) (h:VS t (-1) l):GV 400 t (l.map Yw) (some:Bool->oP Bool)=some true:=by
 unfold GV;rw [Q2z a b,Qh,Qr (by rfl),Qpl];exact Q75 Q0 (fun _ _ _=>rfl) l 0 400 (-1) rfl Q0 h
theorem Q6L {l:List Sp2} (hl:l.length<=1000) {k0:Int->Int->Bool->oP R}:∀ (ac:List Sp2) (i m:Nat) (acc:Int),l.drop i=ac->ac.length<m->(∃ u,VS t u ac /\ -1<=u/\u<=t)->t<=7200->0<=acc->acc<=100000-cnt ac->∃ j b,Wk n (l.map Yw) (l.length:Int) k0 m acc (i:Int)=k0 (acc+cnt ac) j b
 |[],i,m+1,acc,hd,_,_,_,_,_=>by
  have:=Ul hd;rw [Wk,show decide ((i:Int)<(l.length:Int))=false by simpa using this,Qp9];exact ⟨_,_,by rw [cnt,Int.add_zero]⟩
 |(a,b)::ac,i,m+1,acc,hd,hm,⟨u,⟨k,h2,d,f⟩,o,p⟩,ht,q,g=>by
  obtain ⟨e,aj,hi⟩:=Ys hd;have hc:=f.cnt d;rw [cnt] at g ⊢;rw [Wk,Qp hi,Qpa,X0 e];simp -implicitDefEqProofs only [Qh,Yw,Qp6,Qp7,Qj,Sa,Qn (x:=b-a) Q0 Q0,Qn (x:=acc+(b-a)) Q0 Q0,QC (show i<=1000 by omega)];obtain ⟨j,c,h⟩:=Q6L hl ac (i+1) m (acc+(b-a)) aj (by simpa using hm) ⟨b,f,Q0,d⟩ ht Q0 Q0;exact ⟨j,c,by rw [h,Int.add_assoc]⟩
theorem QgJ {l:List Sp2} (c:1<=t) (a:t<=7200) (hl:l.length<=300) (h:VS t (-1) l):TU 400 t (l.map Yw) (some:Int->oP Int)=some (cnt l):=by
 have hc:=h.cnt Q0;obtain ⟨j,b,e⟩:=Q6L (n:=400) (k0:=fun w _ _=>(some w:oP Int)) (l:=l) Q0 l 0 400 0 rfl Q0 ⟨-1,h,Q0,Q0⟩ a Q0 Q0;unfold TU;rw [Q0a c a hl h,Qh,Qr (by rfl)];unfold Rt;rw [Qpl,show Wk 400 (l.map Yw) (l.length:Int) (fun w _ _=>(some w:oP Int)) 400 0 0=_ from e,Qh,Int.zero_add]
theorem QeH {x:Int} (c:1<=t) (d:t<=7200) (h2 : -1000000000<=x) (f:x<=1000000000) (K:Int->oP R):HE n x t K=K (x % t):=by
 unfold HE;rw [Qr (Qpi Q0),EC Q0,Qh];have g:=Int.emod_nonneg x (show t≠0 by omega);have h:=Int.emod_lt_of_pos x (show 0<t by omega);by_cases hx:0<=x
 ·rw [Qpq hx,Qr (Qpi Q0)]
 ·have e:Int.tmod x t = -((-x) % t):=by
   rw [show x = -(-x) by omega,Int.neg_tmod,Qpq Q0,Int.neg_neg]
  have e1:x % t=if (-x) % t=0 then 0 else t-(-x) % t:=by
   have a:=Int.emod_nonneg (-x) (show t≠0 by omega);have i:=Int.emod_lt_of_pos (-x) (show 0<t by omega);have j:=Int.mul_ediv_add_emod (-x) t;split
   ·rename_i b;rw [show x=t*(-((-x) / t)) by rw [Int.mul_neg];omega];exact Int.mul_emod_right _ _
   ·rename_i b;rw [show x=(t-(-x) % t)+t*(-((-x) / t)-1) by rw [Int.mul_sub,Int.mul_neg];omega,Int.add_mul_emod_self_left];rw [show (t-(-x) % t+t*(-((-x) / t)-1))=x by rw [Int.mul_sub,Int.mul_neg];omega];exact Int.emod_eq_of_lt Q0 Q0
  rw [e];by_cases hz:(-x) % t=0
  ·rw [hz,Qr (by rfl),e1,Qpf hz];rfl
  ·have a:=Int.emod_nonneg (-x) (show t≠0 by omega);rw [Xh (Qpj Q0),Qn Q0 Q0,e1,Qph hz];congr 1;omega
theorem QgR {x:Int} (a:1<=t) (b:t<=7200) (h2 : -1000000000<=x) (c:x<=1000000000) (K:Int->oP R):Ep n x t K=K (x % t):=QeH (n:=n) a b h2 c K
def Q4I (t x k:Int):List Sp2:=if k<1 then [] else if t<=k then [(0,t)] else if x+k<=t then [(x,x+k)] else [(0,x+k-t),(x,t)]
theorem Q9F {x k:Int}:(Q4I t x k).length<=2:=by
 unfold Q4I;split
 ·simp
 split
 ·simp
 split <;> simp
theorem QbB {x k:Int} (a:1<=t) (hx:0<=x) (ac:x<t):VS t (-1) (Q4I t x k):=by
 unfold Q4I;split
 ·trivial
 split
 ·exact ⟨Q0,Q0,Q0,trivial⟩
 split
 ·exact ⟨Q0,Q0,Q0,trivial⟩
 ·exact ⟨Q0,Q0,Q0,Q0,Q0,Q0,trivial⟩
theorem Qj9 {x y:Int} (hx:0<=x) (ac:x<t) (hy:0<=y) (aj:y<t):(y-x) % t=if x<=y then y-x else y-x+t:=by
 split
 ·exact Int.emod_eq_of_lt Q0 Q0
 ·rw [show y-x=(y-x+t)+t*(-1) by omega,Int.add_mul_emod_self_left];rw [show y-x+t+t*(-1)+t=y-x+t by omega];exact Int.emod_eq_of_lt Q0 Q0
theorem Qc8 {x k y:Int} (hx:0<=x) (ak:x<t) (hy:0<=y) (ac:y<t):InS y (Q4I t x k)↔(y-x) % t<k:=by
 rw [Qj9 hx ak hy ac];unfold Q4I;split
 ·refine ⟨fun h=>absurd h Fb,fun h=>?_⟩;split at h <;> omega
 split
 ·rw [TY];constructor
  ·intro _;split <;> omega
  ·intro _;exact .inl ⟨hy,ac⟩
 split
 ·rw [TY];constructor
  ·rintro (h | h)
   ·dsimp only at h;rw [Qpf h.1];omega
   ·exact absurd h Fb
  ·intro h;left;dsimp only;split at h <;> omega
 ·rw [TY,TY];constructor
  ·rintro (h | h | h)
   ·dsimp only at h;split <;> omega
   ·dsimp only at h;rw [Qpf h.1];omega
   ·exact absurd h Fb
  ·intro h;dsimp only;by_cases aj:x<=y
   ·exact .inr (.inl ⟨aj,ac⟩)
   ·rw [Qph aj] at h;exact .inl ⟨hy,Q0⟩
theorem Qhg {f k:Int} (c:1<=t) (d:t<=7200) (h2 : -1000000<=f) (j:f<=1000000) (l : -1000000<=k) (m:k<=1000000):PA 400 t f k Tu2=some ((Q4I t (f % t) k).map Yw,(0:Int)):=by
 have e:=Int.emod_nonneg f (show t≠0 by omega);have g:=Int.emod_lt_of_pos f (show 0<t by omega);unfold PA;rw [Q2z c d,Qh,Qr (by rfl),QeH c d Q0 Q0,Qh];revert e g;generalize f % t=x;intro e g;unfold JR Q4I;by_cases c1:k<1
 ·rw [show decide (k<1)=true from Qpj c1,Qpa,Qpf c1];rfl
 rw [show decide (k<1)=false from Qpi c1,Qp9,Qph c1];by_cases a:t<=k
 ·rw [show decide (k>=t)=true from Qpj a,Qpa,Qpf a];rfl
 rw [show decide (k>=t)=false from Qpi a,Qp9,Qph a,Qn (x:=x+k) Q0 Q0];by_cases b:x+k<=t
 ·rw [show decide (x+k<=t)=true from Qpj b,Qpa,Qpf b];rfl
 ·rw [show decide (x+k<=t)=false from Qpi b,Qp9,Qph b,Qn (x:=x+k-t) Q0 Q0];rfl
end
end Go.Vx
