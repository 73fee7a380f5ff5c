/- Part of a proof. No conditions of their own. -/
import Derived.Test.YtnfomkijfeokoaaGreatTD
import Derived.Test.YtnfomkijfeokoaaGreatTB
set_option linter.unusedVariables false
set_option linter.unusedSimpArgs false
noncomputable section
abbrev Qq4:=@List.getElem?_cons_zero
abbrev Qq5:=@List.getElem?_cons_succ
abbrev Qq6:=@cond_false
abbrev Qq7:=@Int.toNat_natCast
abbrev Qq8:=@cond_true
abbrev Qq9:=@List.getElem?_eq_getElem
abbrev Qqa:=@Bool.not_false
abbrev Qqb:=@Bool.not_true
abbrev Qqc:=@List.getElem?_eq_some_iff
abbrev Qqd:=@if_pos
abbrev Qqe:=@List.length_map
abbrev Qqf:=@decide_eq_true
abbrev Qqg:=@if_neg
abbrev Qqh:=@decide_eq_false
abbrev Qqi:=@List.getD_eq_getElem?_getD
abbrev Qqj:=@List.getElem_mem
abbrev Qqk:=@Nat.add_sub_cancel
abbrev Qql:=@Nat.le_refl
abbrev Qqm:=@Int.eq_ofNat_of_zero_le
abbrev Qqn:=@List.length_cons
abbrev Qqo:=@List.map_append
abbrev Qqp:=@List.mem_append
abbrev Qqq:=@List.getElem?_map
abbrev Qqr:=@List.length_nil
abbrev Qqs:=@Int.tmod_eq_emod_of_nonneg
abbrev Qqt:=@Option.getD_some
abbrev Qqu:=@List.pairwise_cons
abbrev Qqv:=@Int.tdiv_eq_ediv_of_nonneg
abbrev Qqw:=@Bool.and_eq_true
abbrev Qqx:=@List.take_length
abbrev Qqy:=@List.mem_singleton
abbrev Qqz:=@List.filter_cons
abbrev QqA:=@List.length_append
abbrev QqB:=@List.getElem?_eq_none
abbrev QqC:=@Nat.le_of_ble_eq_true
namespace Go.Vx
def Kx (s u x y:Nat) (up:Bool):LL:=
 bif up then [Q4 x,Q4 0]::((ups s u).map fun k=>[Q4 (k:Nat),Q4 0])++[[Q4 y,Q4 0]] else [Q4 y,Q4 1]::((ups s u).reverse.map fun k=>[Q4 (k:Nat),Q4 1])++[[Q4 x,Q4 1]]
theorem Qt {α:Type} {r:Nat->Int->α} {N:Nat} {e:α} (hs:∀ m h,h<N->r (m+1) (h:Int)=r m ((h+1:Nat):Int)) (he:∀ m,r (m+1) (N:Int)=e):∀ (k m h:Nat),h+k=N->k<m->r m (h:Int)=e
 |0,m+1,h,hh,_=>by rw [show h=N by omega];exact he m
 |k+1,m+1,h,hh,hm=>by rw [hs m h QoW];exact Qt hs he k m (h+1) QoW QoW
section
variable {R:Type} {n:Nat} {a b a' b' L L' d:LL} (h:L.length=L'.length)
include h
theorem Qfj {s:LL} {w:Int} {k0:oP R} {k1:Int->Bool->oP R}:∀ (m:Nat) (i:Int),WJ n s w a b L d k0 k1 m i=WJ n s w a' b' L' d k0 k1 m i
 |0,_=>rfl
 |m+1,i=>by
  unfold WJ;simp only [N9,h,Qfj m]
omit h in
theorem Qim {x y z t:Int} {K:Int->Bool->oP R}:JJ n a b L d x y z t K=JJ n a' b' L' d x y z t K:=rfl
omit h in
theorem Qhk {q s:LL} {w:Int} {k0:oP R} {k1:Int->Bool->LL->oP R}:∀ (m:Nat) (i:Int) (p:LL),Wx n q w a b L d s k0 k1 m i p=Wx n q w a' b' L' d s k0 k1 m i p
 |0,_,_=>rfl
 |m+1,i,p=>by
  unfold Wx;simp only [Qim (a:=a) (b:=b) (L:=L) (a':=a') (b':=b') (L':=L'),Qhk m]
end
def Q9E (St Pt L d s:LL):oP (LL×Int):=
 WJ 400 s ((List.length s:Nat):Int) St Pt L d (some ([],4))
  (fun _ _=>
  gb true (bif decide (0<=((List.length L:Nat):Int))&&decide (((List.length L:Nat):Int)<=((List.length L:Nat):Int)) then some () else none) () fun c=>
  gb true (Y1 (Int.toNat ((List.length L:Nat):Int)*1)) () fun e=>
  Gj 400 s ((List.length s:Nat):Int) (some ([],5))
   (fun _ _ _=>
   gb true (slB (List.length s) (some (1:Int)) none) (0,0) fun a=>
   Wx 400 (cut s a) ((List.length (cut s a):Nat):Int) St Pt L d s (some ([],11)) (fun _ _ b=>some (b,0)) 400 (0:Int) [])
   400 (0:Int) (List.replicate (Int.toNat ((List.length L:Nat):Int)) [D.bool false]))
  400 (0:Int)
def rtB (N:Nat) (Li s:LL):Bool:=match Q9E [] [] (List.replicate N []) Li s with
 |some (_,e)=>e == 0
 |none=>false
theorem Q9T {St Pt Se Li s:LL} {N:Nat} (ac:Pz 400 St Pt Se Li=true) (hN:Se.length=N) (h2:2<=s.length) (g:s.length<=24) (hr:rtB N Li s=true) :
  ∃ aj,H7 400 St Pt Se Li s 0 Tu2=some (aj,0):=by
 have hc:Zm 400 St Pt Se Li (some:Int->oP Int)=some 0:=by unfold Zm;rw [ac];rfl
 have hL:Se.length=(List.replicate N ([]:List D)).length:=by simp [hN]
 have e:H7 400 St Pt Se Li s 0 Tu2=Q9E [] [] (List.replicate N []) Li s:=by
  unfold H7;rw [hc,Q0,Q8 QoX];dsimp only [jn];rw [Q8 (c:=decide (((List.length s:Nat):Int)>24)) QoZ,Q8 (c:=decide ((0:Int)>2)) QoX,Q8 (c:=decide ((0:Int)<0)) QoX,Q8 (c:=decide (wJ (((List.length s:Nat):Int)-0)<2)) (by rw [Q6 QoW QoW];simp;omega)];unfold Q9E;simp only [Qhk (a:=St) (b:=Pt) (L:=Se) (a':=[]) (b':=[]) (L':=List.replicate N []),Qfj (a:=St) (b:=Pt) (L:=Se) (a':=[]) (b':=[]) (L':=List.replicate N []) hL,hL]
 rw [e];unfold rtB at hr;split at hr
 ·rename_i p e' hh;simp only [beq_iff_eq] at hr;subst hr;exact ⟨p,hh⟩
 ·cases hr
theorem Q68 {R:Type} {St Pt Se Li s:LL} {N:Nat} (ac:Pz 400 St Pt Se Li=true) (hN:Se.length=N) (h2:2<=s.length) (a:s.length<=24) (hr:rtB N Li s=true) (K:Int->oP R):TU 400 St Pt Se Li s 0 K=K 0:=by
 obtain ⟨p,e⟩:=Q9T ac hN h2 a hr;unfold TU;rw [e,Q0]
def QcJ (N:Nat) (Li:LL) (s u k c k' c':Nat):Bool:=
 (ups k c).all fun x=>(ups k' c').all fun y=>rtB N Li (Kx s u x y true)&&rtB N Li (Kx s u x y false)
theorem QjY {c0 c1 a:Nat} (b:c0=1\/c0=2) (c:c1=1\/c1=2) (h2:a=1\/a=2):QcJ (c0+c1+a) (li2 c0 c1 a) (c0+c1) a 0 c0 c0 c1=true:=by
 rcases b with rfl | rfl <;> rcases c with rfl | rfl <;> rcases h2 with rfl | rfl <;> kernel_rfl
theorem Qk8 {c0 c1 a b c:Nat} (d:c0=1\/c0=2) (e:c1=1\/c1=2) (h2:a=1\/a=2) (f:b=1\/b=2) (g:c=1\/c=2) :
  (QcJ (c0+c1+a+b+c) (li3 c0 c1 a b c) (c0+c1+a) b 0 c0 c0 c1&&QcJ (c0+c1+a+b+c) (li3 c0 c1 a b c) (c0+c1+a+b) c c0 c1 (c0+c1) a)=true:=by
 rcases d with rfl | rfl <;> rcases e with rfl | rfl <;> rcases h2 with rfl | rfl <;> rcases f with rfl | rfl <;> rcases g with rfl | rfl <;> kernel_rfl
end Go.Vx
namespace Go.Vx
variable {R:Type} (n:Nat)
def ZZ (e:LL) (d:Int) (f:LL) (k0:Qln R):Qlo R
 | 0,_,_=>none
 | m+1,a,b=>bif decide (a<d) then QkS R e a fun o p=>Qku R (pIw o) fun q=>QkO R f q fun c h=>Ql8 R c fun r s=>Qku R c[4]? fun y=>Ql7 R r s p fun i j t=>bif t==1 then Qku R (pIw h) fun u=>Qku R (Qe n [[Q4 i,Q4 (wJ (0-j))]] u some) fun k=>Qku R (Y1 ((b.length+k.length)*16)) fun z=>ZZ e d f k0 m (wJ (a+1)) (b++k) else Qku R (pIw h) fun v=>Qku R (Qe n [[Q4 i,Q4 j]] v some) fun l=>Qku R (Y1 ((b.length+l.length)*16)) fun aa=>ZZ e d f k0 m (wJ (a+1)) (b++l) else k0 a (decide (a<d)) b
def SM (g h b i a:LL) (c:Int) (K:Qlz R):oP R:=Qku R (TU n g h b i a c some) fun d=>bif d !=0 then K [] 0 d else Qku R (slB a.length none (some (wJ ((a.length:Int)-c)))) fun e=>ZZ n (cut a e) ((List.length (cut a e):Nat):Int) b (fun p q f=>bif decide ((f.length:Int)>4000) then K [] 0 7 else QkG R a 0 fun l=>QkR R b l fun i64=>K f i64 0) n 0 []
def WA (n:Nat) (d:LL) (b:Int) (e:LL) (c:Int) (k0:oP R) (k1:Qlp R):Qlq R
 | 0,_=>none
 | m+1,a=>bif decide (a<b) then QkJ R d a fun f g=>Qku R f[1]? fun l=>Qku R (pIw g) fun h=>QkR R e h fun k=>bif decide (k<(if 2<c then c else 2)) then k0 else WA n d b e c k0 k1 m (wJ (a+1)) else k1 a (decide (a<b))
def H6 (g h b i c:LL) (d:Int) (j:List UInt8) (e k l m:Int) (K:Qlz R):oP R:=Qku R (SM n g h b i c d Tu3) fun a=>bif a.2.2 !=0 then K [] 0 a.2.2 else Qku R (Uu n j e k l m some) fun r2=>bif !r2 then K [] 0 1 else Qku R (Ue n c d some) fun f=>WA n f (f.length:Int) b e (K [] 0 12) (fun p q=>K a.1 a.2.1 0) n 0
def Gf (b c d e f:LL) (g:Int) (h:List UInt8) (i j k l:Int) (K:Qlm R):oP R:=Qku R (H6 n b c d e f g h i j k l Tu3) fun a=>K a.2.2
end Go.Vx
namespace Go.Vx
structure SecN (a b c:Int):Prop where
 a0:2<=a
 a1:a<=12
 b0:5000<=b
 b1:b<=35000
 c0 : -10<=c
 c1:c<=10
def C8 (Se:LL) (row:List D):Prop:=∃ (x d:Int) (nm:List UInt8) (a b c st:Int),row=[Q4 x,Q4 d]/\Q1 Se x=some [D.str nm,Q4 a,Q4 b,Q4 c,Q4 st]/\SecN a b c/\(d=0\/d=1)
def Sc (Se:LL):List D->LL
 |[.int _ x,.int _ d]=>match Q1 Se x with
  |some [_,.int _ a,.int _ b,.int _ c,_]=>List.replicate a.toNat [Q4 b,Q4 (bif d == 1 then -c else c)]
  |_=>[]
 |_=>[]
def Yg (Se s:LL):LL:=s.flatMap (Sc Se)
theorem H8 {Se:LL} {x d a b c st:Int} {nm:List UInt8} (h:Q1 Se x=some [D.str nm,Q4 a,Q4 b,Q4 c,Q4 st]):Sc Se [Q4 x,Q4 d]=List.replicate a.toNat [Q4 b,Q4 (bif d == 1 then -c else c)]:=by
 grind [Sc]
theorem YA {α:Type} {l:List α} {h:Nat} {a:α} (e:l[h]? = some a):l.take (h+1)=l.take h++[a]:=by grind [List.take_add_one]
theorem Mf {Se s:LL} {h:Nat} {row:List D} (e:s[h]? = some row):Yg Se (s.take (h+1))=Yg Se (s.take h)++Sc Se row:=by
 rw [YA e];simp [Yg]
theorem PL {Se:LL}:∀ {s:LL},(∀ row∈s,C8 Se row)->(Yg Se s).length<=12*s.length/\2*s.length<=(Yg Se s).length
 |[],_=>by simp [Yg]
 |row::s,h=>by
  obtain ⟨x,d,nm,a,b,c,st,rfl,hs,hn,_⟩:=h _ (List.mem_cons_self ..);have e:=PL fun r hr=>h r (List.mem_cons_of_mem _ hr)
  have h2:=hn.a0;have f:=hn.a1;simp only [Yg,List.flatMap_cons,H8 hs,QqA,List.length_replicate,Qqn] at e ⊢;omega
section
variable {R:Type} {n:Nat}
theorem QjO {a:Int} {x y:D} (b:0<=a) (c:a<=100000) (K:LL->oP R):Qe n [[x,y]] a K=K (List.replicate a.toNat [x,y]):=by
 simp_all [Qe,QR]
theorem QbN {Se s:LL} {k0:Int->Bool->LL->oP R} (hs:∀ row∈s,C8 Se row) (hl:s.length<=30):∀ {m:Nat},s.length<m->ZZ n s (s.length:Int) Se k0 m 0 []=k0 (s.length:Int) false (Yg Se s):=by
 intro m hm;have hc:=fun h:Nat=>(PL (s:=s.take h) fun r hr=>hs r (List.mem_of_mem_take hr)).1
 refine Qt (r:=fun m h=>ZZ n s (s.length:Int) Se k0 m h (Yg Se (s.take h.toNat))) (N:=s.length) (fun m h hh=>?_) (fun m=>?_) s.length m 0 QoW hm
 ·have e:=Qq9 hh;obtain ⟨x,d,nm,a,b,c,st,hx,aj,hn,hd⟩:=hs _ (Qqj hh);rw [hx] at e;have a0:=hn.a0;have a1:=hn.a1;have an:=hc h;simp only [Qq7,Mf e,H8 aj];simp only [List.length_take] at an;rw [ZZ,QR (by simpa using hh),show Q1 s (h:Int)=some [Q4 x,Q4 d] by simp [Q1,e],Q0];dsimp only [List.getElem?_cons_zero,List.getElem?_cons_succ];rw [Q0,Q0,Q2,Q0,aj,Q0];dsimp only [List.getElem?_cons_zero,List.getElem?_cons_succ];have ac:∀ r:List D,Y1 (((Yg Se (s.take h)).length+(List.replicate a.toNat r).length)*16)=some ():=fun r=>XE (by simp only [List.length_replicate];omega)
  simp -implicitDefEqProofs only [Q0,Q2,QjO (show (0:Int)<=a by omega) (show a<=100000 by omega),ac];rw [Q6 (x:=(h:Int)+1) QoW QoW,show (h:Int)+1=((h+1:Nat):Int) by omega,Q6 (x:=0-c) (by have:=hn.c1;omega) (by have:=hn.c0;omega),Int.zero_sub];cases f:d == (1:Int) <;> rfl
 simp [Qq7,ZZ,Q8,Qqx]
theorem QaF {s:LL} (h:s.length<=1000):slB s.length none (some (wJ ((s.length:Int)-(0:Int))))=some (0,s.length)/\cut s (0,s.length)=s:=by
 grind [Q6,slB,cut]
def Ta (Se s:LL):Int:=match s with
 |[.int _ x,_]::_=>match Q1 Se x with
  |some [_,.int _ a,_,_,_]=>a
  |_=>0
 |_=>0
theorem Qgg {St Pt Se Li s:LL} {N:Nat} (ac:Pz 400 St Pt Se Li=true) (hN:Se.length=N) (h2:2<=s.length) (e:s.length<=24) (hr:rtB N Li s=true) (ho:∀ row∈s,C8 Se row) (K:LL->Int->Int->oP R) :
  SM 400 St Pt Se Li s 0 K=K (Yg Se s) (Ta Se s) 0:=by
 have hl:=(PL ho).1;obtain ⟨row,rest,rfl⟩:∃ row rest,s=row::rest:=by
  cases s with
  |nil=>simp at h2
  |cons a b=>simp_all
 obtain ⟨x,d,nm,a,b,c,st,rfl,hs,_,_⟩:=ho row QoY;have hf:Ta Se ([Q4 x,Q4 d]::rest)=a:=by grind [Ta]
 generalize hS:[Q4 x,Q4 d]::rest=s at *
 obtain ⟨e1,e2⟩:=QaF (s:=s) QoW;unfold SM;rw [Q68 ac hN h2 e hr,Q0,Q8 QoX,e1,Q0,e2,QbN ho QoW QoW,Q8 QoZ,show Q1 s (0:Int)=some [Q4 x,Q4 d] by rw [<- hS];rfl,Q0]
 grind [List.getElem?_cons_zero,List.getElem?_cons_succ,Q0,Q2]
theorem Qhd {Se s:LL} {tl:Int} {k0:oP R} {k1:Int->Bool->oP R} (ht:tl<=2) (hb:s.length<=30) (hs:∀ row∈s,C8 Se row) {m:Nat} (hm:s.length<m) :
  WA n s (s.length:Int) Se tl k0 k1 m 0=k1 (s.length:Int) false:=by
 refine Qt (r:=fun m h=>WA n s (s.length:Int) Se tl k0 k1 m h) (N:=s.length) (fun m h hh=>?_) (fun m=>?_) s.length m 0 QoW hm
 ·obtain ⟨x,d,ak,a,b,c,st,hx,ac,hn,_⟩:=hs _ (Qqj hh);have a0:=hn.a0;rw [WA,QR Qp2,show Q1 s (h:Int)=some [Q4 x,Q4 d] by grind [Q1,List.getElem?_eq_getElem],Q0];dsimp only [List.getElem?_cons_zero,List.getElem?_cons_succ];rw [Q0,Q0,Q2,Q0,ac,Q0];dsimp only [List.getElem?_cons_zero,List.getElem?_cons_succ];rw [Q0,Q2,Q0,Q8 (by grind),Q6 (x:=(h:Int)+1) QoW QoW,show (h:Int)+1=((h+1:Nat):Int) by omega]
 simp [WA,Q8]
structure StkN (tl sp ac br:Int):Prop where
 t1:1<=tl
 t2:tl<=2
 s1:10000<=sp
 s2:sp<=25000
 a1:400<=ac
 a2:ac<=800
 b1:400<=br
 b2:br<=800
theorem BQ {nm:List UInt8} {tl sp ac br:Int} (h:StkN tl sp ac br) (K:Bool->oP R):Uu n nm tl sp ac br K=K true:=by
 obtain ⟨t1,t2,s1,s2,a1,a2,b1,b2⟩:=h
 grind [Uu]
theorem Q0H {s:LL} (a:s.length<=24) (K:LL->oP R):Ue 400 s 0 K=K s:=by
 grind [QaF,Ue,Q0]
theorem QjE {St Pt Se Li s:LL} {N:Nat} {nm:List UInt8} {tl sp ac br:Int} (aj:Pz 400 St Pt Se Li=true) (hN:Se.length=N) (h2:2<=s.length) (a:s.length<=24) (hr:rtB N Li s=true) (ho:∀ row∈s,C8 Se row)
  (hk:StkN tl sp ac br) (K:LL->Int->Int->oP R):H6 400 St Pt Se Li s 0 nm tl sp ac br K=K (Yg Se s) (Ta Se s) 0:=by
 unfold H6;rw [Qgg aj hN h2 a hr ho,Q0,Q8 (by rfl),BQ hk,Q0,Q8 QoX,Q0H a,Q0,Qhd hk.t2 QoW ho QoW]
theorem QeA {St Pt Se Li s:LL} {N:Nat} {nm:List UInt8} {tl sp ac br:Int} (aj:Pz 400 St Pt Se Li=true) (hN:Se.length=N) (h2:2<=s.length) (a:s.length<=24) (hr:rtB N Li s=true) (ho:∀ row∈s,C8 Se row)
  (hk:StkN tl sp ac br) (K:Int->oP R):Gf 400 St Pt Se Li s 0 nm tl sp ac br K=K 0:=by
 grind [Gf,QjE,Q0]
end
end Go.Vx
namespace Go.Vx
variable {R:Type} (n:Nat)
def M7 (d e c f:LL) (a b:Int) (K:Qlr R):oP R:=Qks R (Qkr (Qkr (decide (a>=0)) (decide (a<(c.length:Int)))) (Qkq (b==0) (b==1))) fun h=>Qkv R h (Zm n d e c f some) fun g=>K (Qkr h (g==0))
def Wd (j:LL) (e f g:Int) (k0:Qln R):Qlo R
 | 0,_,_=>none
 | m+1,b,c=>bif decide (b<e) then QkH R j b fun d u v x=>Ql1 R d fun y o p=>Ql2 R u v x y fun z aa ab ac=>QkF R o p fun ad ae=>gb true (Lz n z aa ab ac ad ae Tu4) (0,0,0,0) fun a=>bif f==a.1&&g==a.2.1 then Qku R (NG n a.2.2.1 a.2.2.2 Tu2) fun k=>QkF R o p fun q r=>Qkt R [[Q4 k.1,Q4 k.2,Q4 q,Q4 r]] fun i=>Qku R (Y1 ((c.length+i.length)*32)) fun ah=>Wd j e f g k0 m (wJ (b+1)) (c++i) else bif f==a.2.2.1&&g==a.2.2.2 then Qku R (NG n a.1 a.2.1 Tu2) fun l=>QkF R o p fun s t=>Qkt R [[Q4 l.1,Q4 l.2,Q4 s,Q4 t]] fun h=>Qku R (Y1 ((c.length+h.length)*32)) fun ai=>Wd j e f g k0 m (wJ (b+1)) (c++h) else Wd j e f g k0 m (wJ (b+1)) c else k0 b (decide (b<e)) c
def Lj (d e f a:LL) (b c:Int) (K:Qls R):oP R:=Qku R (M7 n d e f a b c some) fun g=>bif !g then K [] else bif c==1 then Wd n a (a.length:Int) b 0 (fun j k h=>K h) n 0 [] else Wd n a (a.length:Int) b 1 (fun l m i=>K i) n 0 []
def Zr (n:Nat) (h2:LL) (c d e:Int) (k0:Qlm R) (k1:Qlp R):Qlq R
 | 0,_=>none
 | m+1,a=>bif decide (a<c) then QkH R h2 a fun b f g h=>Qku R b[3]? fun l=>QkF R f g fun i j=>bif i==d&&j==e then Qku R (pIw h) fun k=>k0 k else Zr n h2 c d e k0 k1 m (wJ (a+1)) else k1 a (decide (a<c))
def Zi (b c d e:LL) (f g h i:Int) (K:Qlm R):oP R:=Qku R (Lj n b c d e f g some) fun a=>Zr n a (a.length:Int) h i (fun j=>K j) (fun k l=>K (-1:Int)) n 0
end Go.Vx
namespace Go.Vx
theorem Dv.at {k:Nat}:∀ {s s':LL},Dv k s s'->∀ i:Nat,(s[i]? = none/\s'[i]? = none)\/∃ nm a b c a' b' c' d,s[i]? = some [D.str nm,Q4 a,Q4 b,Q4 c,Q4 d]/\s'[i]? = some [D.str nm,Q4 a',Q4 b',Q4 c',Q4 d]/\NumOk a b c d k/\NumOk a' b' c' d k
 |[],[],_,i=>.inl ⟨by simp,by simp⟩
 |r::s,r'::s',h,0=>by
  obtain ⟨⟨nm,a,b,c,a',b',c',d,e,h2,f,g⟩,_⟩:=h;exact .inr ⟨nm,a,b,c,a',b',c',d,by simp [e],by simp [h2],f,g⟩
 |r::s,r'::s',h,i+1=>by
  have:=Dv.at h.2 i;simpa using this
theorem Dv.row {k:Nat} {s s':LL} (h:Dv k s s') (i:Int):(Q1 s i=none/\Q1 s' i=none)\/∃ nm a b c a' b' c' d,Q1 s i=some [D.str nm,Q4 a,Q4 b,Q4 c,Q4 d]/\Q1 s' i=some [D.str nm,Q4 a',Q4 b',Q4 c',Q4 d]/\NumOk a b c d k/\NumOk a' b' c' d k:=by
 unfold Q1;cases decide ((0:Int)<=i)
 ·simp_all
 ·exact h.at i.toNat
theorem gbN {α R:Type} {z:α} {k:α->oP R}:gb true none z k=none:=rfl
theorem inT {R:Type} {n:Nat} {x lo hi:Int} (a:lo<=x) (b:x<=hi) (K:Bool->oP R):Ka n x lo hi K=K true:=by
 grind [Ka,decide]
section
variable {R:Type} {n k:Nat} {s s' St Pt Li:LL} (h:Dv k s s')
include h
theorem Q6A {k0:Int->Bool->LL->oP R}:∀ (m:Nat) (i:Int) (acc:LL),YH n s k0 m i acc=YH n s' k0 m i acc
 |0,_,_=>rfl
 |m+1,i,acc=>by
  unfold YH;rcases h.row i with ⟨e,e'⟩ | ⟨nm,a,b,c,a',b',c',d,e,e',_,_⟩
  ·simp only [e,e',h.len,gbN]
  ·rw [e,e',h.len];simp only [Q6A m];rfl
theorem QdQ {ac:LL} (hk:St.length=k) (f:k<=100) {k0:Int->oP R} {k1:Int->Bool->oP R}:∀ (m:Nat) (i:Int),Ja n ac St s k0 k1 m i=Ja n ac St s' k0 k1 m i
 |0,_=>rfl
 |m+1,i=>by
  unfold Ja;rcases h.row i with ⟨e,e'⟩ | ⟨nm,a,b,c,a',b',c',d,e,e',g,g'⟩
  ·simp only [e,e',h.len,gbN,QdQ hk f m]
  ·rw [e,e',h.len];obtain ⟨j,l,h2,o,p,q,x,y⟩:=g;obtain ⟨g0,g1,r,t,u,v,z,g7⟩:=g';simp -implicitDefEqProofs only [Q0,Qq4,Qq5,Q2,inT j l,inT h2 o,inT p q,inT g0 g1,inT r t,inT u v,QdQ hk f m]
theorem QfC {k0:Int->oP R} {k1:Int->Bool->oP R}:∀ (m:Nat) (i:Int),J1 n St Pt s Li k0 k1 m i=J1 n St Pt s' Li k0 k1 m i
 |0,_=>rfl
 |m+1,i=>by
  unfold J1;have e:∀ j,JI n St Pt s Li j (some:Int->oP Int)=JI n St Pt s' Li j some:=by
   intro j;unfold JI;rw [h.len];rfl
  simp only [e,QfC m]
theorem Qdf (hk:St.length=k) (a:k<=100) (K:Int->oP R):JY n St Pt s Li K=JY n St Pt s' Li K:=by
 unfold JY KE;rw [h.len]
 grind [Q6A,QdQ,QfC]
end
def QaR (St Pt Se Li:LL):Bool:=Q8p (JY 400 St Pt Se Li some)
theorem ro2 {c0 c1 a:Nat} (b:c0=1\/c0=2) (c:c1=1\/c1=2) (h2:a=1\/a=2):QaR [nmS 0,nmS 1] (pt2 c0 c1) (se2 c0 c1 a (hat c0) (hat c1) (hat a)) (li2 c0 c1 a)=true:=by
 rcases b with rfl | rfl <;> rcases c with rfl | rfl <;> rcases h2 with rfl | rfl <;> kernel_rfl
theorem ro3 {c0 c1 a b c:Nat} (d:c0=1\/c0=2) (e:c1=1\/c1=2) (h2:a=1\/a=2) (f:b=1\/b=2) (g:c=1\/c=2):QaR [nmS 0,nmS 1,nmS 2] (pt3 c0 c1 a) (se3 c0 c1 a b c (hat c0) (hat c1) (hat a) (hat b) (hat c)) (li3 c0 c1 a b c)=true:=by
 rcases d with rfl | rfl <;> rcases e with rfl | rfl <;> rcases h2 with rfl | rfl <;> rcases f with rfl | rfl <;> rcases g with rfl | rfl <;> kernel_rfl
theorem Q4t {St Pt L L' Li:LL} (h:Dv St.length L L') (h2:St.length<=100):QaR St Pt L Li=QaR St Pt L' Li:=by
 unfold QaR;rw [Qdf h rfl h2]
theorem Qkn {c0 c1 a:Nat} {b c d:List N4} (e:c0=1\/c0=2) (f:c1=1\/c1=2) (h2:a=1\/a=2) (g:KP b) (h:KP c) (i:KP d) (j:b.length=c0) (e1:c.length=c1) (e2:d.length=a) :
  QaR [nmS 0,nmS 1] (pt2 c0 c1) (se2 c0 c1 a b c d) (li2 c0 c1 a)=true:=by
 grind [ro2,Q4t,sr2]
theorem Qkb {c0 c1 a b c:Nat} {d e f g h:List N4} (i:c0=1\/c0=2) (j:c1=1\/c1=2) (h2:a=1\/a=2) (k:b=1\/b=2) (l:c=1\/c=2) (m:KP d) (n:KP e) (o:KP f) (n3:KP g) (p:KP h) (q:d.length=c0) (e1:e.length=c1) (e2:f.length=a) (r:g.length=b) (s:h.length=c) :
  QaR [nmS 0,nmS 1,nmS 2] (pt3 c0 c1 a) (se3 c0 c1 a b c d e f g h) (li3 c0 c1 a b c)=true:=by
 grind [ro3,Q4t,sr3]
def Qe6 (St Pt L d s:LL):oP Int:=
 YE 400 L s (some 4) (fun _ _=>VO 400 s (some 5) (fun _ _=>Yz 400 St Pt L d s (some 11) (fun _ _=>some 0) 400 (1:Int)) 400 (0:Int)) 400 (0:Int)
def Qhp (N:Nat) (Li s:LL):Bool:=Q8p (Qe6 [] [] (List.replicate N []) Li s)
section
variable {R:Type} {n:Nat} {a b a' b' L L' d s:LL} (h:L.length=L'.length)
include h
theorem QfX {k0:oP R} {k1:Int->Bool->oP R}:∀ (m:Nat) (i:Int),YE n L s k0 k1 m i=YE n L' s k0 k1 m i
 |0,_=>rfl
 |m+1,i=>by
  unfold YE;simp only [h,QfX m]
omit h in
theorem QjH {x y z t:Int} {K:D->D->D->D->Bool->oP R}:JO n a b L d x y z t K=JO n a' b' L' d x y z t K:=rfl
omit h in
theorem Qh2 {k0:oP R} {k1:Int->Bool->oP R}:∀ (m:Nat) (i:Int),Yz n a b L d s k0 k1 m i=Yz n a' b' L' d s k0 k1 m i
 |0,_=>rfl
 |m+1,i=>by
  unfold Yz;simp only [QjH (a:=a) (b:=b) (L:=L) (a':=a') (b':=b') (L':=L'),Qh2 m]
end
theorem Q4u {St Pt Se Li s:LL} {N:Nat} (ac:QaR St Pt Se Li=true) (hN:Se.length=N) (h2:2<=s.length) (c:s.length<=24) (hr:Qhp N Li s=true):VW 400 St Pt Se Li s 0 (some:Int->oP Int)=some 0:=by
 have hL:Se.length=(List.replicate N ([]:List D)).length:=by simp [hN]
 unfold VW;rw [VT ac,Q0,Q8 QoX,Q8 (by grind),Q8 (by grind [Q6,decide,List.length])];simp only [QfX hL,Qh2 (a:=St) (b:=Pt) (L:=Se) (a':=[]) (b':=[]) (L':=List.replicate N [])];exact VT hr
def Qf3 (Li:LL) (r r':List D):oP Int:=match r,r' with
 |[.int _ x,.int _ d],[.int _ y,.int _ e]=>gb true (bif (d == (1:Int)) then Wd 400 Li ((List.length Li:Nat):Int) x (0:Int) (fun _ _ w=>some w) 400 (0:Int) [] else Wd 400 Li ((List.length Li:Nat):Int) x (1:Int) (fun _ _ w=>some w) 400 (0:Int) []) [] fun a=>
  Zr 400 a ((List.length a:Nat):Int) y e some (fun _ _=>some (-1)) 400 (0:Int)
 |_,_=>none
def ptR (St Pt Se Li:LL) (r r':List D):oP Int:=match r,r' with
 |[.int _ x,.int _ d],[.int _ y,.int _ e]=>match JO 400 St Pt Se Li x d y e Tu5 with
  |some (_,_,.int .i64 q,_,true)=>some q
  |_=>none
 |_,_=>none
def pv:oP Int->Int
 |some p=>p
 |none => -1
def Q01 (N NP:Nat) (Li:LL):Nat->LL->Bool
 |k,r::r'::t=>match Qf3 Li r r',ptR [] [] (List.replicate N []) Li r r' with
  |some p,some q=>(p == q)&&(decide (-1<=p)&&(decide (p<NP)&&Q01 N NP Li (bif decide (p<0) then k+1 else k+2) (r'::t)))
  |_,_=>false
 |k,_=>Nat.ble k 5
def QdB (N NP:Nat) (Li s:LL):Bool:=Qhp N Li s&&Q01 N NP Li 0 s
def Q4B (N NP:Nat) (Li:LL) (s u k c k' c':Nat):Bool:=
 (ups k c).all fun x=>(ups k' c').all fun y=>QdB N NP Li (Kx s u x y true)&&QdB N NP Li (Kx s u x y false)
theorem Qin {c0 c1 a:Nat} (b:c0=1\/c0=2) (c:c1=1\/c1=2) (h2:a=1\/a=2):Q4B (c0+c1+a) (pt2 c0 c1).length (li2 c0 c1 a) (c0+c1) a 0 c0 c0 c1=true:=by
 rcases b with rfl | rfl <;> rcases c with rfl | rfl <;> rcases h2 with rfl | rfl <;> kernel_rfl
theorem QhT {c0 c1 a b c:Nat} (d:c0=1\/c0=2) (e:c1=1\/c1=2) (h2:a=1\/a=2) (f:b=1\/b=2) (g:c=1\/c=2) :
  (Q4B (c0+c1+a+b+c) (pt3 c0 c1 a).length (li3 c0 c1 a b c) (c0+c1+a) b 0 c0 c0 c1&&Q4B (c0+c1+a+b+c) (pt3 c0 c1 a).length (li3 c0 c1 a b c) (c0+c1+a+b) c c0 c1 (c0+c1) a)=true:=by
 rcases d with rfl | rfl <;> rcases e with rfl | rfl <;> rcases h2 with rfl | rfl <;> rcases f with rfl | rfl <;> rcases g with rfl | rfl <;> kernel_rfl
theorem Qde {St Pt Se Li:LL} (ac:Pz 400 St Pt Se Li=true) {x d y e:Int} (a:0<=x) (b:x<Se.length) (hd:d=0\/d=1):Zi 400 St Pt Se Li x d y e (some:Int->oP Int)=Qf3 Li [Q4 x,Q4 d] [Q4 y,Q4 e]:=by
 have hc:Zm 400 St Pt Se Li (some:Int->oP Int)=some 0:=by grind [Zm]
 have hh:M7 400 St Pt Se Li x d (some:Bool->oP Bool)=some true:=by
  grind [M7,Q0,decide]
 simp_all [Zi,Lj,Qf3,Q0]
structure Geo where
 N:Nat
 St:LL
 Pt:LL
 Se:LL
 Li:LL
 Tr:LL
 Bt:LL
 k:Nat->Nat
 c:Nat->Nat
 s:Nat->Nat
 u:Nat->Nat
structure Geo.OK (G:Geo):Prop where
 hN:G.N=2\/G.N=3
 st:G.St.length=G.N
 lay:Pz 400 G.St G.Pt G.Se G.Li=true
 ref:QaR G.St G.Pt G.Se G.Li=true
 trl:G.Tr.length=G.N
 tr:∀ i,i<G.N->G.Tr[i]? = some [D.sl 1 (ZQ (ups (G.k i) (G.c i)))]
 ct:∀ i,i<G.N->G.c i=1\/G.c i=2
 k6:∀ i,i<G.N->G.k i+G.c i<=6
 btl:G.Bt.length+1=G.N
 bt:∀ g,g+1<G.N->G.Bt[g]? = some [D.sl 1 (ZQ (ups (G.s g) (G.u g)))]
 ut:∀ g,g+1<G.N->G.u g=1\/G.u g=2
 sec:∀ i,i<G.N->∀ x,x<G.c i->∃ nm a b d,Q1 G.Se ((G.k i+x:Nat):Int)=some [D.str nm,Q4 a,Q4 b,Q4 d,Q4 i]/\SecN a b d
 gap:∀ g,g+1<G.N->∀ x,x<G.u g->∃ nm a b d e,Q1 G.Se ((G.s g+x:Nat):Int)=some [D.str nm,Q4 a,Q4 b,Q4 d,Q4 e]/\SecN a b d
 rts:∀ g,g+1<G.N->QcJ G.Se.length G.Li (G.s g) (G.u g) (G.k g) (G.c g) (G.k (g+1)) (G.c (g+1))=true
 rt6:∀ g,g+1<G.N->Q4B G.Se.length G.Pt.length G.Li (G.s g) (G.u g) (G.k g) (G.c g) (G.k (g+1)) (G.c (g+1))=true
theorem Q6n {f:Nat->N4->List D}:∀ {c:Nat} {x:List N4} {i:Nat},KP x->x.length=c->i<c->∃ j y,(Yw f c x)[i]? = some (f j y)/\Num y.1 y.2.1 y.2.2
 |c+1,a::x,0,h,_,_=>⟨c+1,a,rfl,h.1⟩
 |c+1,a::x,i+1,h,e,hi=>by
  obtain ⟨j,y,b,h2⟩:=Q6n (f:=f) h.2 (by simpa using e) (show i<c by omega);exact ⟨j,y,by simpa [Yw] using b,h2⟩
theorem Qct {f:Nat->N4->List D} {A B:LL} {c k i:Nat} {x:List N4} (hA:A.length=k) (h:KP x) (e:x.length=c) (hi:i<c):∃ j y,Q1 ((A++Yw f c x)++B) ((k+i:Nat):Int)=some (f j y)/\Num y.1 y.2.1 y.2.2:=by
 obtain ⟨j,y,a,h2⟩:=Q6n (f:=f) h e hi
 grind [Q1]
theorem Qhm {A B L:LL} {c k i x:Nat} {X:List N4} (hL:L=(A++Yw (secT i) c X)++B) (hA:A.length=k) (h:KP X) (e:X.length=c) (hi:x<c) :
  ∃ nm a b d,Q1 L ((k+x:Nat):Int)=some [D.str nm,Q4 a,Q4 b,Q4 d,Q4 i]/\SecN a b d:=by
 subst hL;obtain ⟨j,y,g,h2⟩:=Qct (f:=secT i) (B:=B) hA h e hi;exact ⟨_,_,_,_,g,by have:=h2.a0;omega,by have:=h2.a1;omega,h2.b0,h2.b1,h2.c0,h2.c1⟩
theorem Qiu {A B L:LL} {c k i x:Nat} {X:List N4} (hL:L=(A++Yw (secL i) c X)++B) (hA:A.length=k) (h:KP X) (e:X.length=c) (hi:x<c) :
  ∃ nm a b d e,Q1 L ((k+x:Nat):Int)=some [D.str nm,Q4 a,Q4 b,Q4 d,Q4 e]/\SecN a b d:=by
 subst hL;obtain ⟨j,y,g,h2⟩:=Qct (f:=secL i) (B:=B) hA h e hi;exact ⟨_,_,_,_,_,g,h2.a0,by have:=h2.a1;omega,h2.b0,h2.b1,h2.c0,h2.c1⟩
def Qfv (c0 c1 a:Nat) (b d e:List N4):Geo where
 N:=2
 St:=[nmS 0,nmS 1]
 Pt:=pt2 c0 c1
 Se:=se2 c0 c1 a b d e
 Li:=li2 c0 c1 a
 Tr:=[[D.sl 1 (ZQ (ups 0 c0))],[D.sl 1 (ZQ (ups c0 c1))]]
 Bt:=[[D.sl 1 (ZQ (ups (c0+c1) a))]]
 k:=fun | 0=>0 | _=>c0
 c:=fun | 0=>c0 | _=>c1
 s:=fun _=>c0+c1
 u:=fun _=>a
theorem QdY {c0 c1 a:Nat} {b c d:List N4} (f:c0=1\/c0=2) (h:c1=1\/c1=2) (h2:a=1\/a=2) (j:KP b) (k:KP c) (l:KP d) (e:b.length=c0) (e1:c.length=c1) (e2:d.length=a):(Qfv c0 c1 a b c d).OK where
 hN:=.inl rfl
 st:=rfl
 lay:=QjN f h h2 j k l e e1 e2
 ref:=Qkn f h h2 j k l e e1 e2
 trl:=rfl
 tr:=fun i hi=>match i,hi with
  |0,_=>rfl
  |1,_=>rfl
 ct:=fun i hi=>match i,hi with
  |0,_=>f
  |1,_=>h
 k6:=fun i hi=>match i,hi with
  |0,_=>by show 0+c0<=6;omega
  |1,_=>by show c0+c1<=6;omega
 btl:=rfl
 bt:=fun g hg=>match g,hg with
  |0,_=>rfl
 ut:=fun g _=>h2
 sec:=fun i hi=>match i,hi with
  |0,_=>fun x hx=>Qhm (A:=[]) (i:=0) (B:=Yw (secT 1) c1 c++Yw (secL 0) a d) (by simp [Qfv,se2]) rfl j e hx
  |1,_=>fun x hx=>Qhm (A:=Yw (secT 0) c0 b) (i:=1) (B:=Yw (secL 0) a d) rfl (Xf e) k e1 hx
 gap:=fun g hg x hx=>Qiu (A:=Yw (secT 0) c0 b++Yw (secT 1) c1 c) (i:=0) (B:=[]) (by simp [Qfv,se2]) (by grind [Qfv,Xf]) l e2 hx
 rts:=fun g hg=>match g,hg with
  |0,_=>by
   have hl:(se2 c0 c1 a b c d).length=c0+c1+a:=by grind [se2,Xf]
   show QcJ (se2 c0 c1 a b c d).length (li2 c0 c1 a) (c0+c1) a 0 c0 c0 c1=true
   grind [QjY]
 rt6:=fun g hg=>match g,hg with
  |0,_=>by
   have hl:(se2 c0 c1 a b c d).length=c0+c1+a:=by simp [se2,Xf e,Xf e1,Xf e2];omega
   show Q4B (se2 c0 c1 a b c d).length (pt2 c0 c1).length (li2 c0 c1 a) (c0+c1) a 0 c0 c0 c1=true
   grind [Qin]
def QaT (c0 c1 a b d:Nat) (e f g h i:List N4):Geo where
 N:=3
 St:=[nmS 0,nmS 1,nmS 2]
 Pt:=pt3 c0 c1 a
 Se:=se3 c0 c1 a b d e f g h i
 Li:=li3 c0 c1 a b d
 Tr:=[[D.sl 1 (ZQ (ups 0 c0))],[D.sl 1 (ZQ (ups c0 c1))],[D.sl 1 (ZQ (ups (c0+c1) a))]]
 Bt:=[[D.sl 1 (ZQ (ups (c0+c1+a) b))],[D.sl 1 (ZQ (ups (c0+c1+a+b) d))]]
 k:=fun | 0=>0 | 1=>c0 | _=>c0+c1
 c:=fun | 0=>c0 | 1=>c1 | _=>a
 s:=fun | 0=>c0+c1+a | _=>c0+c1+a+b
 u:=fun | 0=>b | _=>d
theorem QeT {c0 c1 a b c:Nat} {d e f h j:List N4} (l:c0=1\/c0=2) (m:c1=1\/c1=2) (h2:a=1\/a=2) (n:b=1\/b=2) (o:c=1\/c=2) (s:KP d) (t:KP e) (u:KP f) (n3:KP h) (v:KP j) (p:d.length=c0) (e1:e.length=c1) (e2:f.length=a) (q:h.length=b) (r:j.length=c):(QaT c0 c1 a b c d e f h j).OK where
 hN:=.inr rfl
 st:=rfl
 lay:=Qkk l m h2 n o s t u n3 v p e1 e2 q r
 ref:=Qkb l m h2 n o s t u n3 v p e1 e2 q r
 trl:=rfl
 tr:=fun i hi=>match i,hi with
  |0,_=>rfl
  |1,_=>rfl
  |2,_=>rfl
 ct:=fun i hi=>match i,hi with
  |0,_=>l
  |1,_=>m
  |2,_=>h2
 k6:=fun i hi=>match i,hi with
  |0,_=>by show 0+c0<=6;omega
  |1,_=>by show c0+c1<=6;omega
  |2,_=>by show c0+c1+a<=6;omega
 btl:=rfl
 bt:=fun g hg=>match g,hg with
  |0,_=>rfl
  |1,_=>rfl
 ut:=fun g hg=>match g,hg with
  |0,_=>n
  |1,_=>o
 sec:=fun i hi=>match i,hi with
  |0,_=>fun x hx=>Qhm (A:=[]) (i:=0) (B:=Yw (secT 1) c1 e++(Yw (secT 2) a f++(Yw (secL 0) b h++Yw (secL 1) c j))) (by simp [QaT,se3]) rfl s p hx
  |1,_=>fun x hx=>Qhm (A:=Yw (secT 0) c0 d) (i:=1) (B:=Yw (secT 2) a f++(Yw (secL 0) b h++Yw (secL 1) c j)) (by simp [QaT,se3]) (Xf p) t e1 hx
  |2,_=>fun x hx=>Qhm (A:=Yw (secT 0) c0 d++Yw (secT 1) c1 e) (i:=2) (B:=Yw (secL 0) b h++Yw (secL 1) c j) (by simp [QaT,se3]) (by grind [QaT,Xf]) u e2 hx
 gap:=fun g hg=>match g,hg with
  |0,_=>fun x hx=>Qiu (A:=Yw (secT 0) c0 d++Yw (secT 1) c1 e++Yw (secT 2) a f) (i:=0) (B:=Yw (secL 1) c j) (by simp [QaT,se3]) (by grind [QaT,Xf]) n3 q hx
  |1,_=>fun x hx=>Qiu (A:=Yw (secT 0) c0 d++Yw (secT 1) c1 e++Yw (secT 2) a f++Yw (secL 0) b h) (i:=1) (B:=[]) (by simp [QaT,se3]) (by grind [QaT,Xf]) v r hx
 rts:=fun g hg=>by
  have hl:(se3 c0 c1 a b c d e f h j).length=c0+c1+a+b+c:=by grind [se3,Xf]
  have k:=Qk8 l m h2 n o;simp only [Qqw] at k
  match g,hg with
  |0,_=>
   show QcJ (se3 c0 c1 a b c d e f h j).length (li3 c0 c1 a b c) (c0+c1+a) b 0 c0 c0 c1=true
   simp_all
  |1,_=>
   show QcJ (se3 c0 c1 a b c d e f h j).length (li3 c0 c1 a b c) (c0+c1+a+b) c c0 c1 (c0+c1) a=true;rw [hl];exact k.2
 rt6:=fun g hg=>by
  have hl:(se3 c0 c1 a b c d e f h j).length=c0+c1+a+b+c:=by simp [se3,Xf p,Xf e1,Xf e2,Xf q,Xf r];omega
  have k:=QhT l m h2 n o;simp only [Qqw] at k
  match g,hg with
  |0,_=>
   show Q4B (se3 c0 c1 a b c d e f h j).length (pt3 c0 c1 a).length (li3 c0 c1 a b c) (c0+c1+a) b 0 c0 c0 c1=true;rw [hl];exact k.1
  |1,_=>
   show Q4B (se3 c0 c1 a b c d e f h j).length (pt3 c0 c1 a).length (li3 c0 c1 a b c) (c0+c1+a+b) c c0 c1 (c0+c1) a=true;rw [hl];exact k.2
theorem QjS {R:Type} {l:List Int} (hl:l.length<=9223372036854775807) {P:R->Prop} {i:Nat} (hi:i<=l.length) {K:LL->LL->LL->LL->LL->LL->LL->Int->oP R}
  (H:∀ (G:Geo) (j:Nat),G.OK->j<=l.length->K G.St G.Pt G.Se G.Li G.Tr G.Bt [] (j:Int)∈P):Q2u 400 (encI l) (i:Int) K∈P:=by
 refine Vt hl hi QoX QoX fun v j k n hj=>?_
 rcases two k n with rfl | rfl
 ·exact Qie hl (m:=397) hj fun c0 c1 a b c d j a0 a1 a2 e f g h e1 e2 hj=>H (Qfv c0 c1 a b c d) j (QdY a0 a1 a2 e f g h e1 e2) hj
 ·exact Qij hl (m:=396) hj fun c0 c1 o a p b c q d r j a0 a1 a2 s t e f g n3 u h e1 e2 x y hj=>H (QaT c0 c1 o a p b c q d r) j (QeT a0 a1 a2 s t e f g n3 u h e1 e2 x y) hj
section
variable {R:Type}
theorem Q1s {T:LL} {g:Nat} {l:LL} (h:T[g]? = some [D.sl 1 l]) (K:LL->oP R) :
  gb true (inB (List.length T) (g:Int)) () (fun _=>gb true (T[(Int.toNat (g:Int))]?) [] fun r2=>gb true (r2[0]?) oF fun a=>gb true (pSl 1 a) [] fun b=>K b)=K l:=by
 have ac:g<T.length:=(Qqc.1 h).1;rw [XR QoW QoW,Q0,Qq7,h];rfl
theorem QhI {k c a:Nat} (hc:c=1\/c=2) (ha:a<2) (K:Int->oP R) :
  gb true (nz ((List.length (ZQ (ups k c)):Nat):Int)) () (fun _=>gb true (Q1 (ZQ (ups k c)) (Int.tmod (a:Int) ((List.length (ZQ (ups k c)):Nat):Int))) [] fun b=>gb true (b[0]?) oF fun d=>gb true (pIw d) 0 fun e=>K e)=K ((k+a % c:Nat):Int):=by
 obtain rfl | rfl:a=0\/a=1:=QoW
 ·rcases hc with rfl | rfl <;> rfl
 ·rcases hc with rfl | rfl
  ·rw [show k+1 % 1=k from rfl,show List.length (ZQ (ups k 1))=1 from rfl,show Int.tmod ((1:Nat):Int) ((1:Nat):Int)=0 by decide];rfl
  ·rfl
theorem QbT {s u:Nat} {x:Int} (hu:u=1\/u=2) {k0:Int->Bool->LL->oP R} :
  Zu 400 (ZQ (ups s u)) ((List.length (ZQ (ups s u)):Nat):Int) k0 400 (0:Int) [[D.int .i64 x,D.int .i64 (0:Int)]]
   = k0 (u:Int) false ([Q4 x,Q4 0]::((ups s u).map fun k=>[Q4 (k:Nat),Q4 0])):=by
 rcases hu with rfl | rfl <;> rfl
theorem QbV {s u:Nat} {x:Int} (hu:u=1\/u=2) {k0:Int->Bool->LL->oP R} :
  ZB 400 (ZQ (ups s u)) k0 400 (wJ (((List.length (ZQ (ups s u)):Nat):Int)-(1:Int))) [[D.int .i64 x,D.int .i64 (1:Int)]]
   = k0 (-1) false ([Q4 x,Q4 1]::((ups s u).reverse.map fun k=>[Q4 (k:Nat),Q4 1])):=by
 rcases hu with rfl | rfl <;> rfl
theorem Q9w {Tr Bt:LL} {g k c k' c' s u a b:Nat} {up:Bool} (hg:g<8) (hT:Tr[g]? = some [D.sl 1 (ZQ (ups k c))]) (ac:Tr[g+1]? = some [D.sl 1 (ZQ (ups k' c'))]) (hB:Bt[g]? = some [D.sl 1 (ZQ (ups s u))])
  (hc:c=1\/c=2) (aj:c'=1\/c'=2) (hu:u=1\/u=2) (ha:a<2) (hb:b<2) (K:LL->Int->oP R) :
  Ys 400 Tr Bt (g:Int) (a:Int) (b:Int) up K=K (Kx s u (k+a % c) (k'+b % c') up) 0:=by
 have ak:wJ ((g:Int)+1)=((g+1:Nat):Int):=by grind [Q6]
 have hl:(ups s u).length=u:=by rcases hu with rfl | rfl <;> rfl
 have d:u<=2:=QoW
 unfold Ys;rw [Q1s hB];cases up
 ·rw [Q8 rfl];rw [ak,Q1s ac,Q1s ac,QhI aj hb,XE QoY,Q0];rw [QbV hu,Q1s hT,Q1s hT,QhI hc ha,XE (by simp [hl];omega),Q0];rfl
 ·rw [QR rfl,Q1s hT,Q1s hT,QhI hc ha,XE QoY,Q0];rw [QbT hu,ak,Q1s ac,Q1s ac,QhI aj hb,XE (by simp [hl];omega),Q0];rfl
end
def Sta (G:Geo) (x:Int):Prop:=∃ nm a b d i,Q1 G.Se x=some [D.str nm,Q4 a,Q4 b,Q4 d,Q4 i]/\0<=i/\x<6/\2<=a
structure RtOK (G:Geo) (s:LL) (x y:Int):Prop where
 l2:2<=s.length
 l24:s.length<=24
 rt:rtB G.Se.length G.Li s=true
 rt6:Qhp G.Se.length G.Li s=true
 hops:Q01 G.Se.length G.Pt.length G.Li 0 s=true
 shp:∃ g x y up,g+1<G.N/\s=Kx (G.s g) (G.u g) x y up/\x∈ups (G.k g) (G.c g)/\y∈ups (G.k (g+1)) (G.c (g+1))
 st:∀ r∈s,C8 G.Se r
 sx:Sta G x
 sy:Sta G y
 fst:∃ d,Q1 s 0=some [Q4 x,Q4 d]
 lst:∃ d,Q1 s ((s.length:Int)-1)=some [Q4 y,Q4 d]
def Geo.tk (G:Geo) (i a:Nat):Int:=((G.k i+a % G.c i:Nat):Int)
theorem Q5s {x:Nat}:∀ {s u:Nat},x∈ups s u->∃ j,j<u/\x=s+j
 |s,0,h=>by simp [ups] at h
 |s,u+1,h=>by
  simp only [ups,List.mem_cons] at h;rcases h with rfl | h
  ·exact ⟨0,QoW,rfl⟩
  ·obtain ⟨j,a,h2⟩:=Q5s h;exact ⟨j+1,QoW,QoW⟩
theorem Ei {c a k:Nat} (hc:c=1\/c=2):(k+a % c)∈ups k c:=by
 rcases hc with rfl | rfl
 ·simp [ups,Nat.mod_one]
 grind [Nat.mod_lt,ups]
theorem Geo.OK.trk {G:Geo} (hG:G.OK) {i a:Nat} (hi:i<G.N):(∃ nm x b d,Q1 G.Se (G.tk i a)=some [D.str nm,Q4 x,Q4 b,Q4 d,Q4 i]/\SecN x b d):=
 hG.sec i hi (a % G.c i) (Nat.mod_lt _ (by rcases hG.ct i hi with h | h <;> omega))
theorem Q4Z {P:List D->Prop} {s u x y:Nat} {up:Bool} (hx:∀ d,(d=0\/d=1)->P [Q4 x,Q4 d]) (hy:∀ d,(d=0\/d=1)->P [Q4 y,Q4 d]) (hs:∀ j,j<u->∀ d,(d=0\/d=1)->P [Q4 ((s+j:Nat):Int),Q4 d]):∀ r∈Kx s u x y up,P r:=by
 intro r hr;unfold Kx at hr;cases up
 ·simp only [Qq6,List.cons_append,List.mem_cons,Qqp,List.mem_map,List.mem_reverse,List.not_mem_nil,or_false] at hr;rcases hr with rfl | ⟨k,hk,rfl⟩ | rfl
  ·simp_all
  ·obtain ⟨j,a,rfl⟩:=Q5s hk
   simp_all
  simp_all
 ·simp only [Qq8,List.cons_append,List.mem_cons,Qqp,List.mem_map,List.not_mem_nil,or_false] at hr;rcases hr with rfl | ⟨k,hk,rfl⟩ | rfl
  ·simp_all
  ·obtain ⟨j,a,rfl⟩:=Q5s hk
   simp_all
  simp_all
theorem QgU {R:Type} {G:Geo} (hG:G.OK) {g a b:Nat} {up:Bool} (hg:g+1<G.N) (ha:a<2) (hb:b<2) :
  ∃ s,RtOK G s (bif up then G.tk g a else G.tk (g+1) b) (bif up then G.tk (g+1) b else G.tk g a)/\∀ K:LL->Int->oP R,Ys 400 G.Tr G.Bt (g:Int) (a:Int) (b:Int) up K=K s 0:=by
 have hN:=hG.hN;have hc:=hG.ct g QoW;have ar:=hG.ct (g+1) hg;have hu:=hG.ut g hg;obtain ⟨h,i,k,l,e1,c⟩:=hG.trk (a:=a) (show g<G.N by omega);obtain ⟨m,n,o,p,e2,e⟩:=hG.trk (a:=b) hg;have aj:=hG.rts g hg;unfold QcJ at aj;have aj:=List.all_eq_true.1 (List.all_eq_true.1 aj _ (Ei hc (a:=a))) _ (Ei ar (a:=b));simp only [Qqw] at aj;have ac:=hG.rt6 g hg;unfold Q4B at ac;have ac:=List.all_eq_true.1 (List.all_eq_true.1 ac _ (Ei hc (a:=a))) _ (Ei ar (a:=b));simp only [QdB,Qqw] at ac;refine ⟨Kx (G.s g) (G.u g) (G.k g+a % G.c g) (G.k (g+1)+b % G.c (g+1)) up,?_,fun K=>Q9w QoW (hG.tr g QoW) (hG.tr (g+1) hg) (hG.bt g hg) hc ar hu ha hb K⟩;have aq:∀ r∈Kx (G.s g) (G.u g) (G.k g+a % G.c g) (G.k (g+1)+b % G.c (g+1)) up,C8 G.Se r:=by
  refine Q4Z (fun d hd=>⟨_,_,_,_,_,_,_,rfl,e1,c,hd⟩) (fun d hd=>⟨_,_,_,_,_,_,_,rfl,e2,e,hd⟩) fun j hj d hd=>?_
  obtain ⟨n3,q,t,v,z,f,g1⟩:=hG.gap g hg j hj;exact ⟨_,_,_,_,_,_,_,rfl,f,g1,hd⟩
 have an:∃ g' x y au,g'+1<G.N/\Kx (G.s g) (G.u g) (G.k g+a % G.c g) (G.k (g+1)+b % G.c (g+1)) up=Kx (G.s g') (G.u g') x y au/\x∈ups (G.k g') (G.c g')/\y∈ups (G.k (g'+1)) (G.c (g'+1)):=
  ⟨g,_,_,up,hg,rfl,Ei hc,Ei ar⟩
 have m1:=hG.k6 g QoW;have m2:=hG.k6 (g+1) hg;have r1:=Nat.mod_lt a (show 0<G.c g by omega);have r2:=Nat.mod_lt b (show 0<G.c (g+1) by omega);have s1:Sta G (G.tk g a):=⟨_,_,_,_,_,e1,QoW,by unfold Geo.tk;omega,c.a0⟩;have s2:Sta G (G.tk (g+1) b):=⟨_,_,_,_,_,e2,QoW,by unfold Geo.tk;omega,e.a0⟩;revert aq aj ac an;generalize G.s g=s;generalize G.u g=u at hu;intro aj ac aq an;have hl:(Kx s u (G.k g+a % G.c g) (G.k (g+1)+b % G.c (g+1)) up).length=u+2:=by
  rcases hu with rfl | rfl <;> cases up <;> rfl
 cases up
 ·exact ⟨QoW,QoW,aj.2,ac.2.1,ac.2.2,an,aq,s2,s1,by rcases hu with rfl | rfl <;> exact ⟨1,rfl⟩,by rw [hl];rcases hu with rfl | rfl <;> exact ⟨1,rfl⟩⟩
 ·exact ⟨QoW,QoW,aj.1,ac.1.1,ac.1.2,an,aq,s1,s2,by rcases hu with rfl | rfl <;> exact ⟨0,rfl⟩,by rw [hl];rcases hu with rfl | rfl <;> exact ⟨0,rfl⟩⟩
def PB (G:Geo) (Ro:LL) (row:List D) (x y:Int) (last:Bool):Prop:=
 ∃ (rt:Nat) (ex mn mx:Int) (s:LL),row=[Q4 rt,Q4 ex,Q4 mn,Q4 mx]/\Ro[rt]? = some [D.sl 2 s,Q4 0]/\RtOK G s x y/\(0<=ex/\ex<3)/\(0<=mn/\mn<=mx/\mx<=mn+3/\mn<=10)/\(last=true->mn=0/\mx=0)
def nmN (k:Nat):List UInt8:=bs [78]++[UInt8.ofNat (48+k)]
def Q3q (G:Geo) (Ro:LL) (rides:LL):Prop:=
 (∃ r x y,rides=[r]/\PB G Ro r x y true)\/(∃ r r' x y z,rides=[r,r']/\PB G Ro r x y false/\PB G Ro r' y z true)
def Qb4 (G:Geo) (Ro:LL) (k:Nat) (row:List D):Prop:=∃ (w:Int) (rides:LL),row=[D.str (nmN k),Q4 0,Q4 w,D.sl 4 rides]/\0<=w/\w<4/\Q3q G Ro rides
structure GoodP (G:Geo) (Ro Ls:LL):Prop where
 ro:∀ row∈Ro,∃ s x y,row=[D.sl 2 s,Q4 0]/\RtOK G s x y
 ls:∀ k row,Ls[k]? = some row->Qb4 G Ro k row
theorem PB.mono {G:Geo} {Ro t:LL} {row:List D} {x y:Int} {b:Bool} (h:PB G Ro row x y b):PB G (Ro++t) row x y b:=by
 obtain ⟨rt,ex,mn,mx,s,a,h2,c⟩:=h;refine ⟨rt,ex,mn,mx,s,a,?_,c⟩
 grind
theorem Q3q.mono {G:Geo} {Ro t rides:LL} (h:Q3q G Ro rides):Q3q G (Ro++t) rides:=by
 rcases h with ⟨r,x,y,e,h⟩ | ⟨r,r',x,y,z,e,h,h'⟩
 ·exact .inl ⟨r,x,y,e,h.mono⟩
 ·exact .inr ⟨r,r',x,y,z,e,h.mono,h'.mono⟩
theorem Qb4.mono {G:Geo} {Ro t:LL} {k:Nat} {row:List D} (h:Qb4 G Ro k row):Qb4 G (Ro++t) k row:=by
 obtain ⟨w,rides,a,h2,b,c⟩:=h;exact ⟨w,rides,a,h2,b,c.mono⟩
section
variable {R:Type} {l:List Int} (hl:l.length<=9223372036854775807) {P:R->Prop}
include hl
def atL (At:Nat->Nat):LL:=[[Q4 (At 0)],[Q4 (At 1)],[Q4 (At 2)]]
theorem QjU {i:Nat} (hi:i<=l.length) {k0:Int->Bool->LL->Int->oP R}
  (H:∀ (At:Nat->Nat) (j:Nat),(∀ i,At i<2)->j<=l.length->k0 3 false (atL At) (j:Int)∈P) :
  ZT 400 (encI l) k0 400 (0:Int) [[D.int .i64 (0:Int)],[D.int .i64 (0:Int)],[D.int .i64 (0:Int)]] (i:Int)∈P:=by
 refine Vt hl hi QoX QoX fun v0 j a0 b0 hj=>?_
 refine Vt hl hj QoX QoX fun d j a1 b1 hj=>?_
 refine Vt hl hj QoX QoX fun e j a2 b2 hj=>?_
 obtain ⟨a,rfl⟩:=Qqm a0;obtain ⟨b,rfl⟩:=Qqm a1;obtain ⟨c,rfl⟩:=Qqm a2;exact H (fun | 0=>a | 1=>b | _=>c) j (fun | 0=>by grind | 1=>by grind | _+2=>by grind) hj
end
theorem atA {R:Type} {At:Nat->Nat} {g:Nat} (hg:g<3) (K:Int->oP R) :
  gb true (inB 3 (g:Int)) () (fun _=>gb true ((atL At)[(Int.toNat (g:Int))]?) [] fun r=>gb true (r[0]?) oF fun c=>gb true (pIw c) 0 fun i=>K i)=K (At g):=by
 obtain rfl | rfl | rfl:g=0\/g=1\/g=2:=QoW
 all_goals rfl
section
variable {R:Type} {l:List Int} (hl:l.length<=9223372036854775807) {P:R->Prop} {G:Geo} (hG:G.OK)
include hl hG
theorem Qdd {up:Bool} {ac h g m:Nat} {acc Ro:LL} {At:Nat->Nat} (ak:∀ i,At i<2) (hm:ac<=2) (hh:h<ac) (hg:g=bif up then h else ac-1-h) (hN:ac<G.N) (hR:Ro.length<=100) (ha:acc.length<=10)
  {i:Nat} (hi:i<=l.length) {k0:Int->Bool->LL->LL->Int->oP R}
  (H:∀ (s:LL) (ex mn mx:Int) (j:Nat),RtOK G s (bif up then G.tk g (At g) else G.tk (g+1) (At (g+1))) (bif up then G.tk (g+1) (At (g+1)) else G.tk g (At g))->0<=ex/\ex<3->(0<=mn/\mn<=mx/\mx<=mn+3/\mn<=10)->(h+1=ac->mn=0/\mx=0)->j<=l.length ->
   QB 400 up (ac:Int) (atL At) G.Tr G.Bt (encI l) k0 m ((h+1:Nat):Int) (acc++[[Q4 (Ro.length:Nat),Q4 ex,Q4 mn,Q4 mx]]) (Ro++[[D.sl 2 s,Q4 0]]) (j:Int)∈P) :
  QB 400 up (ac:Int) (atL At) G.Tr G.Bt (encI l) k0 (m+1) (h:Int) acc Ro (i:Int)∈P:=by
 have ar:=hG.hN;have aw:g<ac:=by
  rw [hg];cases up
  ·show ac-1-h<ac;omega
  ·exact hh
 have ao:g+1<G.N:=QoW
 obtain ⟨s,hs,e⟩:=QgU (R:=LL×Int) hG (up:=up) ao (ak g) (ak (g+1));have d:wJ ((h:Int)+1)=((h+1:Nat):Int):=by rw [Q6 QoW QoW];omega
 have f:wJ ((g:Int)+1)=((g+1:Nat):Int):=by rw [Q6 QoW QoW];omega
 have k:up=false->wJ (wJ ((ac:Int)-1)-(h:Int))=(g:Int):=by
  intro hu;rw [Q6 (x:=(ac:Int)-1) QoW QoW,Q6 QoW QoW];simp [hu] at hg;omega
 have aj:wJ ((((Ro++[[D.sl 2 s,Q4 0]]).length:Nat):Int)-1)=(Ro.length:Int):=by
  rw [show (Ro++[[D.sl 2 s,Q4 0]]).length=Ro.length+1 by simp,Q6 QoW QoW];omega
 rw [QB,QR QoZ,d];cases up
 ·rw [QR (c:=!false) rfl,k rfl,f,atA QoW,atA QoW,e,Q0,XE QoZ,Q0];refine Vt hl hi QoX QoX fun ex j a b hj=>?_
  dsimp only;rw [aj];by_cases hlast:h+1<ac
  ·rw [QR QoZ];refine Vt hl hj QoX QoX fun mn j n o hj=>?_
   refine Vt hl hj QoX QoX fun mx j p q hj=>?_
   rw [XE QoZ,Q0];dsimp only;rw [Q6 (x:=5+mn) QoW QoW,Q6 (x:=5+mn+mx) QoW QoW];exact H s ex (5+mn) (5+mn+mx) j hs ⟨a,b⟩ ⟨QoW,QoW,QoW,QoW⟩ (fun hx=>absurd hx QoW) hj
  ·rw [Q8 QoZ,XE QoZ,Q0];exact H s ex 0 0 j hs ⟨a,b⟩ ⟨QoW,QoW,QoW,QoW⟩ (fun hx=>⟨rfl,rfl⟩) hj
 ·have aq:g=h:=by simpa using hg
  subst aq;rw [Q8 (c:=!true) rfl,atA QoW,atA QoW,e,Q0,XE QoZ,Q0];refine Vt hl hi QoX QoX fun ex j a b hj=>?_
  dsimp only;rw [aj];by_cases hlast:g+1<ac
  ·rw [QR QoZ];refine Vt hl hj QoX QoX fun mn j n o hj=>?_
   refine Vt hl hj QoX QoX fun mx j p q hj=>?_
   rw [XE QoZ,Q0];dsimp only;rw [Q6 (x:=5+mn) QoW QoW,Q6 (x:=5+mn+mx) QoW QoW];exact H s ex (5+mn) (5+mn+mx) j hs ⟨a,b⟩ ⟨QoW,QoW,QoW,QoW⟩ (fun hx=>absurd hx QoW) hj
  ·rw [Q8 QoZ,XE QoZ,Q0];exact H s ex 0 0 j hs ⟨a,b⟩ ⟨QoW,QoW,QoW,QoW⟩ (fun hx=>⟨rfl,rfl⟩) hj
omit hl hG in
theorem Q77 {n m:Nat} {f:Bool} {b a:Int} {g i j k c d:LL} {e:Int} {k0:Int->Bool->LL->LL->Int->oP R} (h:¬ a<b) :
  QB n f b g i j k k0 (m+1) a c d e=k0 a false c d e:=by
 rw [QB,Q8 (by simpa using h)];simp [h]
theorem Qio {up:Bool} {ak:Nat} {Ro Ls:LL} (hm:ak=1\/ak=2) (hN:ak<G.N) (ac:GoodP G Ro Ls) (hR:Ro.length<=20) (hL:Ls.length<6)
  {i:Nat} (hi:i<=l.length) {K:Int->LL->LL->oP R}
  (H:∀ (Ro' Ls':LL) (j:Nat),GoodP G Ro' Ls'->Ls'.length=Ls.length+1->Ro'.length<=Ro.length+2->j<=l.length->K (j:Int) Ro' Ls'∈P) :
  UN 400 G.Tr G.Bt (encI l) (i:Int) Ro Ls up (ak:Int) K∈P:=by
 unfold UN;rw [Bb _ _ Ls.length QoW QoX,Q0];refine Vt hl hi QoX QoX fun w j w0 c hj=>?_
 dsimp only;refine QjU hl hj fun At j ar hj=>?_
 rcases hm with rfl | rfl
 ·refine Qdd hl hG (h:=0) (g:=0) ar QoX QoX Qp2 hN QoW QoX hj fun s ex mn mx j hs aq ao hlast hj=>?_
  rw [Q77 QoX];rw [XE QoZ,Q0];refine H _ _ j ⟨fun row hr=>?_,fun k row hk=>?_⟩ QoY QoY hj
  ·rcases Qqp.1 hr with hr | hr
   ·exact ac.ro row hr
   grind
  ·rcases Nat.lt_or_ge k Ls.length with aj | aj
   ·rw [List.getElem?_append_left aj] at hk;exact (ac.ls k row hk).mono
   ·rw [List.getElem?_append_right aj] at hk;obtain ⟨a,rfl⟩:=Qqc.1 hk;simp at a;have b:k=Ls.length:=QoW
    subst b;refine ⟨w,_,by simp [nmN],w0,c,.inl ⟨_,_,_,rfl,Ro.length,ex,mn,mx,s,rfl,by simp,hs,aq,ao,fun _=>hlast rfl⟩⟩
 ·obtain ⟨g0,d⟩:∃ g0,g0=bif up then 0 else 1:=⟨_,rfl⟩
  obtain ⟨g1,e⟩:∃ g1,g1=bif up then 1 else 0:=⟨_,rfl⟩
  refine Qdd hl hG (h:=0) (g:=g0) ar QoX QoX (by cases up <;> simpa using d) hN QoW QoX hj fun s ex mn mx j hs aq ao hlast hj=>?_
  refine Qdd hl hG (h:=1) (g:=g1) ar QoX QoX (by cases up <;> simpa using e) hN QoZ QoY hj fun s' az a2 a3 j aw ax au an hj=>?_
  have ay:(bif up then G.tk (g0+1) (At (g0+1)) else G.tk g0 (At g0))=(bif up then G.tk g1 (At g1) else G.tk (g1+1) (At (g1+1))):=by
   subst d e;cases up <;> rfl
  rw [ay] at hs;rw [Q77 QoX];rw [XE QoZ,Q0];refine H _ _ j ⟨fun row hr=>?_,fun k row hk=>?_⟩ QoY QoY hj
  ·rcases Qqp.1 hr with hr | hr
   ·rcases Qqp.1 hr with hr | hr
    ·exact ac.ro row hr
    ·rw [Qqy.1 hr];exact ⟨s,_,_,rfl,hs⟩
   ·rw [Qqy.1 hr];exact ⟨s',_,_,rfl,aw⟩
  ·rcases Nat.lt_or_ge k Ls.length with aj | aj
   ·rw [List.getElem?_append_left aj] at hk;exact (ac.ls k row hk).mono.mono
   ·rw [List.getElem?_append_right aj] at hk;obtain ⟨a,rfl⟩:=Qqc.1 hk;simp at a;have b:k=Ls.length:=QoW
    subst b;refine ⟨w,_,by simp [nmN],w0,c,.inr ⟨_,_,_,_,_,rfl,PB.mono ⟨Ro.length,ex,mn,mx,s,rfl,by simp,hs,aq,ao,fun h=>by cases h⟩,(Ro++[[D.sl 2 s,Q4 0]]).length,az,a2,a3,s',rfl,by simp,aw,ax,au,fun _=>an rfl⟩⟩
end
def Tj (Ls:LL) (k i:Nat) (r:List D):Prop:=∃ nm w rides,Ls[k]? = some [D.str nm,Q4 0,Q4 w,D.sl 4 rides]/\rides[i]? = some r
theorem Qd (w:LL) (i:Nat):Q1 w (i:Int)=w[i]?:=by simp [Q1]
section
variable {R:Type} {n:Nat}
theorem QcA {G:Geo} {Ro Ls:LL} {k i:Nat} {r:List D} {x y:Int} {b:Bool} (h:Tj Ls k i r) (hr:PB G Ro r x y b) {p:Int} {a1 a c e f:LL} (K:Int->oP R):PW n p a1 Ro Ls a c e f (k:Int) (i:Int) K=K x:=by
 obtain ⟨nm,w,rides,j,h2⟩:=h;obtain ⟨rt,ex,mn,mx,s,rfl,l,g,_⟩:=hr;obtain ⟨d,m⟩:=g.fst
 simp_all [PW,Qd,Q0,Qq4,Qq5,QJ,Q2]
theorem QfH {G:Geo} {Ro Ls:LL} {k i:Nat} {r:List D} {x y:Int} {b:Bool} (h:Tj Ls k i r) (hr:PB G Ro r x y b) {p:Int} {a1 c e f g:LL} (K:Int->oP R):NN n p a1 Ro Ls c e f g (k:Int) (i:Int) K=K y:=by
 obtain ⟨nm,w,rides,j,h2⟩:=h;obtain ⟨rt,ex,mn,mx,s,rfl,l,a,_⟩:=hr;obtain ⟨d,m⟩:=a.lst;have l2:=a.l2;have l24:=a.l24;unfold NN;rw [Qd,j,Q0];dsimp only [List.getElem?_cons_zero,List.getElem?_cons_succ];rw [Q0,QJ,Q0,Qd,h2,Q0];dsimp only [List.getElem?_cons_zero,List.getElem?_cons_succ];rw [Q0,Q2,Q0,Qd,l,Q0];dsimp only [List.getElem?_cons_zero,List.getElem?_cons_succ];rw [Q0,Q0,QJ,Q0,Q0,Q6 QoW QoW,m];rfl
end
theorem Q6r {G:Geo} {Ro Ls:LL} (hg:GoodP G Ro Ls) {k:Nat} (hk:k<Ls.length) :
  ∃ (w:Int) (rides:LL) (r r':List D) (x x' y y':Int) (b:Bool),Ls[k]? = some [D.str (nmN k),Q4 0,Q4 w,D.sl 4 rides]/\(rides.length=1\/rides.length=2)/\rides[0]? = some r/\rides[rides.length-1]? = some r'/\PB G Ro r x y b/\PB G Ro r' x' y' true:=by
 obtain ⟨w,rides,c,h2,d,a⟩:=hg.ls k _ (Qq9 hk);refine ⟨w,rides,?_⟩;rcases a with ⟨r,x,y,rfl,h⟩ | ⟨r,r',x,y,z,rfl,h,h'⟩
 all_goals grind
abbrev Tup:=Nat×Nat×Int×Int
def tuR (t:Tup):List D:=[Q4 t.1,Q4 t.2.1,Q4 t.2.2.1,Q4 t.2.2.2]
def Qa2 (G:Geo) (Ro Ls:LL) (t:Tup):Prop:=
 t.1<Ls.length/\t.2.1<Ls.length/\10<=t.2.2.1/\t.2.2.1<=19/\t.2.2.1<=t.2.2.2/\t.2.2.2<=t.2.2.1+29 /\
 ∃ (nm:List UInt8) (w:Int) (rides:LL) (r r':List D) (x y z:Int) (b b':Bool),Ls[t.1]? = some [D.str nm,Q4 0,Q4 w,D.sl 4 rides]/\rides[rides.length-1]? = some r/\1<=rides.length/\rides.length<=2/\Tj Ls t.2.1 0 r'/\PB G Ro r x y b/\PB G Ro r' y z b'
structure TInv (G:Geo) (Ro Ls:LL) (T:List Tup) (FA TA:LL):Prop where
 ok:∀ t∈T,Qa2 G Ro Ls t
 fd:(T.map (·.1)).Nodup
 td:(T.map (·.2.1)).Nodup
 fl:∀ i,i<4->∃ b,FA[i]? = some [D.bool b]/\(b=false->i ∉ T.map (·.1))
 tl:∀ i,i<4->∃ b,TA[i]? = some [D.bool b]/\(b=false->i ∉ T.map (·.2.1))
theorem gbF {α R:Type} (p:oP α) (z:α) (k:α->oP R):gb false p z k=k (p.getD z):=by cases p <;> rfl
theorem TInv.add {G:Geo} {Ro Ls:LL} {T:List Tup} {FA TA:LL} (h:TInv G Ro Ls T FA TA) {t:Tup} (ht:Qa2 G Ro Ls t) (d:t.1 ∉ T.map (·.1)) (h2:t.2.1 ∉ T.map (·.2.1)):TInv G Ro Ls (T++[t]) (FA.set t.1 [D.bool true]) (TA.set t.2.1 [D.bool true]) where
 ok:=fun u hu=>by
  rcases Qqp.1 hu with hu | hu
  ·exact h.ok u hu
  simp_all
 fd:=by
  rw [Qqo,List.nodup_append];refine ⟨h.fd,by simp,fun a ha b hb=>?_⟩
  grind
 td:=by
  rw [Qqo,List.nodup_append];refine ⟨h.td,by simp,fun a ha b hb=>?_⟩;simp at hb;subst hb;intro e;subst e;exact h2 ha
 fl:=fun i hi=>by
  obtain ⟨b,e,hb⟩:=h.fl i hi;by_cases ac:t.1=i
  ·subst ac;refine ⟨true,?_,fun h=>by cases h⟩;rw [List.getElem?_set_self (Qqc.1 e).1]
  ·refine ⟨b,by rw [List.getElem?_set_ne ac];exact e,fun c hm=>?_⟩;rw [Qqo] at hm;rcases Qqp.1 hm with hm | hm
   ·exact hb c hm
   ·simp at hm;exact ac hm.symm
 tl:=fun i hi=>by
  obtain ⟨b,e,hb⟩:=h.tl i hi;by_cases ac:t.2.1=i
  ·subst ac;refine ⟨true,?_,fun h=>by cases h⟩;rw [List.getElem?_set_self (Qqc.1 e).1]
  ·refine ⟨b,by rw [List.getElem?_set_ne ac];exact e,fun c hm=>?_⟩;rw [Qqo] at hm;rcases Qqp.1 hm with hm | hm
   ·exact hb c hm
   ·simp at hm;exact ac hm.symm
section
variable {R:Type} {l:List Int} (hl:l.length<=9223372036854775807) {P:R->Prop} {G:Geo} {Ro Ls:LL} (hg:GoodP G Ro Ls) (hL:Ls.length<=3)
include hl hg hL
theorem Qhn {a b m:Nat} {b1:Int} {FA TA c d e f:LL} {T:List Tup} (ha:a<Ls.length) (hb:b<Ls.length) (hT:TInv G Ro Ls T FA TA) (a4:T.length<=100) {i:Nat} (hi:i<=l.length) {k0:Int->Bool->LL->LL->LL->Int->oP R}
  (H:∀ (FA TA:LL) (T':List Tup) (j:Nat),TInv G Ro Ls T' FA TA->T'.length<=T.length+1->j<=l.length->Yl 400 (a:Int) (Ls.length:Int) c Ro Ls d e f (encI l) b1 k0 m ((b+1:Nat):Int) FA TA (T'.map tuR) (j:Int)∈P) :
  Yl 400 (a:Int) (Ls.length:Int) c Ro Ls d e f (encI l) b1 k0 (m+1) (b:Int) FA TA (T.map tuR) (i:Int)∈P:=by
 have aw:wJ ((b:Int)+1)=((b+1:Nat):Int):=by rw [Q6 QoW QoW];omega
 rw [Yl,QR QoZ,aw];refine Vt hl hi QoX QoX fun v j v0 s hj=>?_
 dsimp only;have ac:=H FA TA T j hT QoW hj;by_cases hv:v=0
 ·subst hv;rw [show decide ((0:Int)>0)=false from rfl];simp only [gbF,Qq6];exact ac
 rw [show decide (v>0)=true by simp;omega];obtain ⟨fb,ef,hf⟩:=hT.fl a QoW;obtain ⟨tb,et,ht⟩:=hT.tl b QoW;rw [XR QoW QoW,Q0,Qq7,ef,Q0];show gb true (some (D.bool fb)) _ (fun n=>gb true (Ko n) _ _)∈P;rw [Q0,show Ko (D.bool fb)=some fb from rfl,Q0];cases fb
 case true=>
  simp only [gbF,Qqb,Qq6,Qq8];exact ac
 rw [show (bif true then !false else false)=true from rfl,XR QoW QoW,Q0,Qq7,et,Q0];show gb true (some (D.bool tb)) _ (fun o=>gb true (Ko o) _ _)∈P;rw [Q0,show Ko (D.bool tb)=some tb from rfl,Q0];cases tb
 case true=>
  simp only [gbF,Qqb,Qq6,Qq8];exact ac
 obtain ⟨w,rides,u,r,z,x,y0,y,b0,e1,e2,e3,g,e5,h⟩:=Q6r hg ha;obtain ⟨w',ao,r',r1,x',x1,y',y1,a7,g1,g2,p,g4,k,g6⟩:=Q6r hg hb;have au:Tj Ls a (rides.length-1) r:=⟨_,_,_,e1,g⟩;have an:Tj Ls b 0 r':=⟨_,_,_,g1,p⟩;have ay:wJ ((rides.length:Int)-1)=((rides.length-1:Nat):Int):=by rw [Q6 QoW QoW];omega
 rw [show (bif true then !false else false)=true from rfl,XR QoW QoW,Q0,e1,Q0];show gb true (some (D.sl 4 rides)) _ (fun q=>gb true (pSl 4 q) _ _)∈P;rw [Q0,QJ,Q0,ay,QfH au h,Q0,show (0:Int)=((0:Nat):Int) from rfl,QcA an k,Q0];by_cases ak:y=x'
 case neg=>
  rw [Q8 (by simpa using ak)];exact ac
 subst ak;rw [QR QoY,Q0,Q0,Q0,Q0];refine Vt hl hj QoX QoX fun lo j l0 l1 hj=>?_
 refine Vt hl hj QoX QoX fun aj j h0 h1 hj=>?_
 dsimp only;rw [XE QoZ,Q0,Q6 (x:=10+lo) QoW QoW,Q6 (x:=10+lo+aj) QoW QoW];have:=H _ _ (T++[(a,b,10+lo,10+lo+aj)]) j (hT.add (t:=(a,b,10+lo,10+lo+aj)) ⟨ha,hb,by simp;omega,by simp;omega,by simp;omega,by simp;omega,_,_,_,_,_,_,_,_,_,_,e1,g,QoW,QoW,an,h,k⟩ (hf rfl) (ht rfl)) QoY hj;rw [Qqo] at this;exact this
theorem QcD {a:Nat} {b1:Int} {c d e f:LL} (ha:a<Ls.length) {k0:Int->Bool->LL->LL->LL->Int->oP R}:∀ (k m b:Nat) (FA TA:LL) (T:List Tup) (i:Nat),b+k=Ls.length->k<m->TInv G Ro Ls T FA TA->T.length+k<=60->i<=l.length ->
  (∀ (FA TA:LL) (T':List Tup) (j:Nat),TInv G Ro Ls T' FA TA->T'.length<=T.length+k->j<=l.length->k0 (Ls.length:Int) false FA TA (T'.map tuR) (j:Int)∈P) ->
  Yl 400 (a:Int) (Ls.length:Int) c Ro Ls d e f (encI l) b1 k0 m (b:Int) FA TA (T.map tuR) (i:Int)∈P
 |0,m+1,b,FA,TA,T,i,hb,_,hT,ak,hi,H=>by
  subst hb;rw [Yl,Q8 QoY,show decide ((Ls.length:Int)<(Ls.length:Int))=false by simp]
  simp_all
 |k+1,m+1,b,FA,TA,T,i,hb,hm,hT,ak,hi,H=>by
  refine Qhn hl hg hL ha QoW hT QoW hi fun FA TA T' j an ao hj=>?_
  exact QcD ha k m (b+1) FA TA T' j QoW QoW an QoW hj fun FA TA T'' j ac aj hj=>H FA TA T'' j ac QoW hj
theorem Qci {b1:Int} {b c d e:LL} {k0:Int->Bool->LL->LL->LL->Int->oP R}:∀ (k m a:Nat) (FA TA:LL) (T:List Tup) (i:Nat),a+k=Ls.length->k<m->TInv G Ro Ls T FA TA->T.length+3*k<=50->i<=l.length ->
  (∀ (FA TA:LL) (T':List Tup) (j:Nat),TInv G Ro Ls T' FA TA->T'.length<=T.length+3*k->j<=l.length->k0 (Ls.length:Int) false FA TA (T'.map tuR) (j:Int)∈P) ->
  WX 400 (Ls.length:Int) b Ro Ls c d e (encI l) b1 k0 m (a:Int) FA TA (T.map tuR) (i:Int)∈P
 |0,m+1,a,FA,TA,T,i,hb,_,hT,ak,hi,H=>by
  subst hb;rw [WX,Q8 QoY,show decide ((Ls.length:Int)<(Ls.length:Int))=false by simp]
  simp_all
 |k+1,m+1,a,FA,TA,T,i,hb,hm,hT,ak,hi,H=>by
  rw [WX,QR QoZ];refine QcD hl hg hL QoW Ls.length 400 0 FA TA T i QoW QoW hT QoW hi fun FA TA T' j an ao hj=>?_
  rw [show wJ ((a:Int)+1)=((a+1:Nat):Int) by grind [Q6]];exact Qci k m (a+1) FA TA T' j QoW QoW an QoW hj fun FA TA T'' j ac aj hj=>H FA TA T'' j ac QoW hj
theorem Qhe {b1:Int} {a b c d:LL} {i:Nat} (hi:i<=l.length) {K:Int->LL->oP R}
  (H:∀ (T:List Tup) (j:Nat),(∀ t∈T,Qa2 G Ro Ls t)->(T.map (·.1)).Nodup->(T.map (·.2.1)).Nodup->T.length<=20->j<=l.length->K (j:Int) (T.map tuR)∈P) :
  Rp 400 (encI l) (i:Int) b1 a Ro Ls b [] c d K∈P:=by
 refine Qci hl hg hL (T:=[]) Ls.length 400 0 _ _ i QoW QoW ⟨by simp,by simp,by simp,?_,?_⟩ QoZ hi fun FA TA T j hT ac hj=>?_
 ·intro i hi;obtain rfl | rfl | rfl | rfl:i=0\/i=1\/i=2\/i=3:=QoW
  all_goals simp
 ·intro i hi;obtain rfl | rfl | rfl | rfl:i=0\/i=1\/i=2\/i=3:=QoW
  all_goals simp_all
 ·exact H T j hT.ok hT.fd hT.td (by grind) hj
end
theorem T0 {w:LL} {x:Int} {r:List D} (h:Q1 w x=some r):inB w.length x=some ()/\w[x.toNat]? = some r:=by
 grind [Q1,List.getElem?_eq_some_iff,XR]
def Q61 (G:Geo) (per:Int) (Ro Ls:LL) (row:List D):Prop:=
 ∃ (f fr t tr:Nat) (mn mx w:Int) (r r':List D) (x y x' y':Int) (b b':Bool) (i:Int),row=[Q4 f,Q4 fr,Q4 t,Q4 tr,Q4 mn,Q4 mx,Q4 w]/\Tj Ls f fr r/\Tj Ls t tr r'/\PB G Ro r x y b/\PB G Ro r' x' y' b'/\f≠t/\(0<=mn/\mn<20/\mn<=mx/\mx<mn+per)/\(0<=w/\w<3) /\
  (∃ nm a c d,Q1 G.Se y=some [D.str nm,Q4 a,Q4 c,Q4 d,Q4 i])/\(∃ nm a c d,Q1 G.Se x'=some [D.str nm,Q4 a,Q4 c,Q4 d,Q4 i])/\0<=i
def Qiy (per:Int) (Ls:LL) (row:List D):Prop:=∃ o:Int,row=[Q4 0,Q4 0,Q4 1,Q4 0,Q4 o]/\0<=o/\o<per/\2<=Ls.length
def QiJ (N:Nat) (row:List D):Prop:=∃ f t w:Int,row=[Q4 f,Q4 t,Q4 w]/\(0<=f/\f<N)/\(0<=t/\t<N)/\f≠t/\1<=w/\w<=9
def Q14 (Sk:LL):Prop:=∃ a b c d:Int,Sk=[[D.str (bs [88]),Q4 a,Q4 b,Q4 c,Q4 d]]/\StkN a b c d
structure PlanR (G:Geo) (per:Int) (Sk Ro Ls Ch Tu Sy De:LL):Prop where
 ok:G.OK
 p0:90<=per
 p1:per<=300
 sk:Q14 Sk
 good:GoodP G Ro Ls
 l0:1<=Ls.length
 l1:Ls.length<=3
 rl:Ro.length<=6
 ch:∀ row∈Ch,Q61 G per Ro Ls row
 chl:Ch.length<=2
 tu:∃ T:List Tup,Tu=T.map tuR/\(∀ t∈T,Qa2 G Ro Ls t)/\(T.map (·.1)).Nodup/\(T.map (·.2.1)).Nodup/\T.length<=20
 sy:∀ row∈Sy,Qiy per Ls row
 syl:Sy.length<=1
 de:∀ row∈De,QiJ G.N row
 del:De.length<=2
theorem Qkf {pl:LL} (hp:pl=[[D.int .i64 (150:Int)],[D.int .i64 (120:Int)],[D.int .i64 (180:Int)],[D.int .i64 (240:Int)],[D.int .i64 (300:Int)],[D.int .i64 (90:Int)]]) {v:Int} (a:0<=v) (b:v<6) :
  ∃ per:Int,90<=per/\per<=300/\∀ {R:Type} (K:Int->oP R),gb true (inB (List.length pl) v) () (fun _=>gb true (pl[(Int.toNat v)]?) [] fun r=>gb true (r[0]?) oF fun c=>gb true (pIw c) 0 fun i=>K i)=K per:=by
 subst hp;obtain rfl | rfl | rfl | rfl | rfl | rfl:v=0\/v=1\/v=2\/v=3\/v=4\/v=5:=QoW
 ·exact ⟨150,QoW,QoW,fun K=>rfl⟩
 ·exact ⟨120,QoW,QoW,fun K=>rfl⟩
 ·exact ⟨180,QoW,QoW,fun K=>rfl⟩
 ·exact ⟨240,QoW,QoW,fun K=>rfl⟩
 ·exact ⟨300,QoW,QoW,fun K=>rfl⟩
 ·exact ⟨90,QoW,QoW,fun K=>rfl⟩
theorem DJ {G:Geo} {Ro Ls:LL} (hg:GoodP G Ro Ls) {k:Nat} (hk:k<Ls.length):∃ (w:Int) (rides:LL),Ls[k]? = some [D.str (nmN k),Q4 0,Q4 w,D.sl 4 rides]/\(rides.length=1\/rides.length=2)/\∀ i,i<rides.length->∃ r x y b,Tj Ls k i r/\PB G Ro r x y b:=by
 obtain ⟨w,rides,c,h2,d,a⟩:=hg.ls k _ (Qq9 hk);have he:Ls[k]? = some [D.str (nmN k),Q4 0,Q4 w,D.sl 4 rides]:=by simp_all
 refine ⟨w,rides,he,?_⟩;rcases a with ⟨r,x,y,rfl,h⟩ | ⟨r,r',x,y,z,rfl,h,h'⟩
 ·refine ⟨.inl rfl,fun i hi=>?_⟩;have hi:i=0:=by simp_all
  subst hi;exact ⟨r,x,y,true,⟨_,_,_,he,rfl⟩,h⟩
 ·refine ⟨.inr rfl,fun i hi=>?_⟩;obtain rfl | rfl:i=0\/i=1:=by grind
  ·exact ⟨r,x,y,false,⟨_,_,_,he,rfl⟩,h⟩
  ·exact ⟨r',y,z,true,⟨_,_,_,he,rfl⟩,h'⟩
section
variable {R:Type} {l:List Int} (hl:l.length<=9223372036854775807) {P:R->Prop} {G:Geo} (hG:G.OK)
include hl hG
theorem Q3g {k0:Int->Bool->Int->LL->LL->oP R}:∀ (c m:Nat) (Ro Ls:LL) (i:Nat),c<m->Ls.length+c<=3->Ro.length<=2*Ls.length->GoodP G Ro Ls->i<=l.length ->
  (∀ (Ro' Ls':LL) (j:Nat),GoodP G Ro' Ls'->Ls'.length=Ls.length+c->Ro'.length<=2*Ls'.length->j<=l.length->k0 0 false (j:Int) Ro' Ls'∈P) ->
  G0 400 (encI l) G.Tr G.Bt k0 m (c:Int) (i:Int) Ro Ls∈P
 |0,m+1,Ro,Ls,i,_,_,hR,hg,hi,H=>by
  rw [G0];rw [Q8 QoY,show decide (((0:Nat):Int)>0)=false by simp];exact H Ro Ls i hg rfl hR hi
 |c+1,m+1,Ro,Ls,i,hm,hL,hR,hg,hi,H=>by
  have hN:=hG.hN;have hb:=hG.btl;rw [G0];rw [QR QoY];refine Vt hl hi QoX QoX fun v j a b hj=>?_
  dsimp only;refine Vt hl hj QoW QoW fun d j g0 g1 hj=>?_
  dsimp only;obtain ⟨nv,rfl⟩:=Qqm g0;rw [Q6 (x:=1+(nv:Int)) QoW QoW,show (1:Int)+(nv:Int)=((1+nv:Nat):Int) by omega];refine okB (Qio hl hG QoW QoW hg QoW QoW hj fun Ro' Ls' j an au ar hj=>okI ?_);dsimp only;rw [show wJ (((c+1:Nat):Int)-1)=(c:Int) by rw [Q6 QoW QoW];omega];exact Q3g c m Ro' Ls' j QoW QoW QoW an hj fun Ro'' Ls'' j ac aq aj hj=>H Ro'' Ls'' j ac QoW aj hj
omit hG in
theorem L8 {per:Int} {Ro Ls k n:LL} (d:90<=per) (e:per<=300) (hg:GoodP G Ro Ls) (hL:Ls.length<=3) {k0:Int->Bool->Int->LL->oP R}:∀ (c m:Nat) (Ch:LL) (i:Nat),c<m->Ch.length+c<=2->(∀ row∈Ch,Q61 G per Ro Ls row)->i<=l.length ->
  (∀ (h:Int) (b:Bool) (Ch:LL) (j:Nat),(∀ row∈Ch,Q61 G per Ro Ls row)->Ch.length<=2->j<=l.length->k0 h b (j:Int) Ch∈P) ->
  VX 400 per (encI l) k Ro Ls G.Se n k0 m (c:Int) (i:Int) Ch∈P
 |0,m+1,Ch,i,_,a3,hC,hi,H=>by
  grind [VX]
 |c+1,m+1,Ch,i,hm,a3,hC,hi,H=>by
  rw [VX];rw [show decide (((c+1:Nat):Int)>0)=true by simp,Qq8];by_cases o:Ls.length<=1
  ·rw [show decide ((Ls.length:Int)>1)=false by simp;omega,Qq6];exact H _ _ Ch i hC QoW hi
  rw [show decide ((Ls.length:Int)>1)=true by simp;omega,Qq8];refine Vt hl hi QoW QoW fun v j p o hj=>?_
  refine Vt hl hj QoX QoX fun w j w0 q hj=>?_
  dsimp only;obtain ⟨f,rfl⟩:=Qqm p;have hf:f<Ls.length:=QoW
  obtain ⟨t,et,ht,a4⟩:∃ t:Nat,Int.tmod (wJ ((f:Int)+1)) (Ls.length:Int)=(t:Int)/\t<Ls.length/\f≠t:=by
   rw [Q6 QoW QoW,Qqs QoW];refine ⟨(f+1) % Ls.length,by simp,Nat.mod_lt _ QoW,?_⟩;by_cases h:f+1<Ls.length
   ·rw [Nat.mod_eq_of_lt h];omega
   ·rw [show f+1=Ls.length by omega,Nat.mod_self];omega
  rw [et];obtain ⟨w2,rides,e1,e2,s⟩:=DJ hg hf;obtain ⟨bg,aw,a5,a7,ax⟩:=DJ hg ht;rw [NQ QoW,Q0,XR QoW QoW,Q0,Qq7,e1,Q0];dsimp only [List.getElem?_cons_zero,List.getElem?_cons_succ];rw [Q0,QJ,Q0];refine Vt hl hj QoW QoW fun fr j a0 a1 hj=>?_
  dsimp only;rw [XR QoW QoW,Q0,Qq7,a5,Q0];dsimp only [List.getElem?_cons_zero,List.getElem?_cons_succ];rw [Q0,QJ,Q0];refine Vt hl hj QoW QoW fun tr j b0 b1 hj=>?_
  refine Vt hl hj QoX QoX fun mn j c0 c1 hj=>?_
  dsimp only;refine Vt hl hj QoW QoW fun mx j d0 d1 hj=>?_
  dsimp only;obtain ⟨fr,rfl⟩:=Qqm a0;obtain ⟨tr,rfl⟩:=Qqm b0;obtain ⟨r,x,y,b,hr,hR⟩:=s fr QoW;obtain ⟨r',x',y',b',ak,an⟩:=ax tr QoW;have ao:=hR;have aj:=an;obtain ⟨_,_,_,_,_,_,_,hS,_⟩:=hR;obtain ⟨_,_,_,_,_,_,_,az,_⟩:=an;obtain ⟨ab,a1,c1,d1,g,g1,u⟩:=hS.sy;obtain ⟨ac,a2,c2,d2,z,a,g4⟩:=az.sx;rw [QfH hr ao,Q0,(T0 g1).1,Q0,(T0 g1).2,Q0];dsimp only [List.getElem?_cons_zero,List.getElem?_cons_succ];rw [Q0,Q2,Q0,QcA ak aj,Q0,(T0 a).1,Q0,(T0 a).2,Q0];dsimp only [List.getElem?_cons_zero,List.getElem?_cons_succ];rw [Q0,Q2,Q0];have ay:wJ (((c+1:Nat):Int)-1)=(c:Int):=by rw [Q6 QoW QoW];omega
  rw [ay];by_cases ar:g=z
  ·subst ar;rw [QR QoY,XE QoZ,Q0,Q6 (x:=mn+mx) QoW QoW];refine L8 d e hg hL c m _ j QoW QoZ (fun row aq=>?_) hj H;rcases Qqp.1 aq with h | h
   ·exact hC row h
   ·rw [Qqy.1 h];exact ⟨f,fr,t,tr,mn,mn+mx,w,r,r',x,y,x',y',b,b',g,rfl,hr,ak,ao,aj,a4,⟨QoW,QoW,QoW,QoW⟩,⟨w0,q⟩,⟨_,_,_,_,g1⟩,⟨_,_,_,_,a⟩,u.1⟩
  ·rw [Q8 (by simpa using ar)];exact L8 d e hg hL c m _ j QoW QoW hC hj H
omit hl hG in
theorem Qkl {N:Nat} (hN:N=2\/N=3) {f v:Int} (a:0<=f) (b:f<N) (g0:0<=v) (g1:v<N-1):∃ t:Int,Int.tmod (wJ ((wJ (f+1))+v)) (N:Int)=t/\(0<=t/\t<N)/\f≠t:=by
 rw [Q6 (x:=f+1) QoW QoW,Q6 QoW QoW,Qqs QoW]
 grind
theorem Q1V {k0:Int->Bool->Int->LL->oP R}:∀ (c m:Nat) (De:LL) (i:Nat),c<m->De.length+c<=2->(∀ row∈De,QiJ G.N row)->i<=l.length ->
  (∀ (h:Int) (b:Bool) (De:LL) (j:Nat),(∀ row∈De,QiJ G.N row)->De.length<=2->j<=l.length->k0 h b (j:Int) De∈P) ->
  V8 400 (encI l) G.St k0 m (c:Int) (i:Int) De∈P
 |0,m+1,De,i,_,ak,hD,hi,H=>by
  rw [V8];rw [show decide (((0:Nat):Int)>0)=false by simp,Qq6];exact H _ _ De i hD QoW hi
 |c+1,m+1,De,i,hm,ak,hD,hi,H=>by
  have hN:=hG.hN;rw [V8];rw [show decide (((c+1:Nat):Int)>0)=true by simp,Qq8,hG.st,Q6 (x:=(G.N:Int)-1) QoW QoW];refine Vt hl hi QoW QoW fun f j a d hj=>?_
  dsimp only;refine Vt hl hj QoW QoW fun v j g0 g1 hj=>?_
  dsimp only;rw [NQ QoW,Q0];refine Vt hl hj QoX QoX fun w j w0 e hj=>?_
  dsimp only;obtain ⟨t,et,ht,an⟩:=Qkl hN a d g0 g1;rw [XE QoZ,Q0,et,Q6 (x:=1+w) QoW QoW,show wJ (((c+1:Nat):Int)-1)=(c:Int) by rw [Q6 QoW QoW];omega];refine Q1V c m _ j QoW QoZ (fun row ac=>?_) hj H;rcases Qqp.1 ac with h | h
  ·exact hD row h
  ·rw [Qqy.1 h];exact ⟨f,t,1+w,rfl,⟨a,d⟩,ht,an,QoW,QoW⟩
omit hl hG in
theorem Qfe {n:Nat} {l s:LL} {k0:Int->Bool->Int->LL->oP R}:∀ (m:Nat) (a:Int) (c:Int) (d:LL),KT n l s k0 m a c d=V8 n l s k0 m a c d
 |0,_,_,_=>rfl
 |m+1,a,c,d=>by
  rw [KT,V8];simp only [Qfe m]
end
theorem Q6b {v:Int} (h:0<=v):∃ n:Nat,v=(n:Int):=Qqm h
theorem QiL {R:Type} {l:List Int} (hl:l.length<=9223372036854775807) {P:R->Prop} {K:LL->LL->LL->LL->Int->LL->LL->LL->LL->LL->LL->LL->oP R}
  (H:∀ (G:Geo) (per:Int) (Sk Ro Ls Ch Tu Sy De:LL),PlanR G per Sk Ro Ls Ch Tu Sy De->K G.St G.Pt G.Se G.Li per Sk Ro Ls Ch Tu Sy De∈P):Si 400 (encI l) K∈P:=by
 unfold Si AB;rw [Q0];dsimp only;refine okB (QjS (i:=0) hl (Nat.zero_le _) fun G j hG hj=>okI ?_);dsimp only;refine Vt hl hj QoX QoX fun v j f g hj=>?_
 dsimp only;obtain ⟨per,p0,p1,e⟩:=Qkf rfl f g;rw [e];refine Vt hl hj QoX QoX fun a j a0 a1 hj=>?_
 refine Vt hl hj QoX QoX fun b j b0 b1 hj=>?_
 refine Vt hl hj QoX QoX fun c j c0 c1 hj=>?_
 refine Vt hl hj QoX QoX fun d j d0 d1 hj=>?_
 refine Vt hl hj QoX QoX fun k j k0 k1 hj=>?_
 dsimp only;obtain ⟨k,rfl⟩:=Q6b k0;rw [Q6 (x:=1+(k:Int)) QoW QoW,show (1:Int)+(k:Int)=((k+1:Nat):Int) by omega,Q6 (x:=1+a) QoW QoW,Q6 (x:=5000*b) QoW QoW,Q6 (x:=10000+5000*b) QoW QoW,Q6 (x:=200*c) QoW QoW,Q6 (x:=400+200*c) QoW QoW,Q6 (x:=200*d) QoW QoW,Q6 (x:=400+200*d) QoW QoW];have ac:Q14 [[D.str (bs [88]),D.int .i64 (1+a),D.int .i64 (10000+5000*b),D.int .i64 (400+200*c),D.int .i64 (400+200*d)]]:=⟨_,_,_,_,rfl,QoW,QoW,QoW,QoW,QoW,QoW,QoW,QoW⟩;revert ac;generalize [[D.str (bs [88]),D.int .i64 (1+a),D.int .i64 (10000+5000*b),D.int .i64 (400+200*c),D.int .i64 (400+200*d)]]=Sk;intro ac;refine Q3g hl hG (k+1) 400 [] [] j QoW QoZ QoY ⟨(fun row h=>nomatch h),(fun k row h=>nomatch h)⟩ hj fun Ro Ls j hg hL hR hj=>?_
 simp at hL;refine okB (Qhe hl hg QoW hj fun T j an ak ar ao hj=>okI ?_);dsimp only;refine Vt hl hj QoX QoX fun k j k0 k1 hj=>?_
 dsimp only;obtain ⟨k,rfl⟩:=Q6b k0;refine L8 hl p0 p1 hg QoW k 400 [] j QoW QoZ (fun row h=>nomatch h) hj fun f b0 Ch j hC aq hj=>?_
 refine Vt hl hj QoX QoX fun v j f g hj=>?_
 dsimp only;by_cases hv:v=3/\1<Ls.length
 ·obtain ⟨rfl,h2⟩:=hv;rw [show ((3:Int) == 3)=true from rfl,show decide ((Ls.length:Int)>1)=true by simp;omega,Qq8,Qq8];refine Vt hl hj QoW QoW fun o j o0 o1 hj=>?_
  dsimp only;rw [XE QoY,Q0];refine Vt hl hj QoX QoX fun k j k0 k1 hj=>?_
  dsimp only;obtain ⟨k,rfl⟩:=Q6b k0;refine Q1V hl hG k 400 [] j QoW QoZ (fun row h=>nomatch h) hj fun f b0 De j hD aj hj=>?_
  refine H G per Sk Ro Ls Ch _ _ De ⟨hG,p0,p1,ac,hg,QoW,QoW,QoW,hC,aq,⟨T,rfl,an,ak,ar,ao⟩,fun row h=>?_,by simp,hD,aj⟩;simp at h;exact ⟨o,h,o0,o1,h2⟩
 ·rw [show (bif (v == (3:Int)) then (decide (((List.length Ls:Nat):Int)>(1:Int))) else false)=false by
   by_cases m:v=3
   ·rw [show (v == (3:Int))=true by simp [m],Qq8];simp;omega
   ·rw [show (v == (3:Int))=false by simpa using m,Qq6]]
  rw [Qq6];refine Vt hl hj QoX QoX fun k j k0 k1 hj=>?_
  dsimp only;obtain ⟨k,rfl⟩:=Q6b k0;rw [Qfe];refine Q1V hl hG k 400 [] j QoW QoZ (fun row h=>nomatch h) hj fun f b0 De j hD aj hj=>?_
  exact H G per Sk Ro Ls Ch _ _ De ⟨hG,p0,p1,ac,hg,QoW,QoW,QoW,hC,aq,⟨T,rfl,an,ak,ar,ao⟩,(fun row h=>nomatch h),by simp,hD,aj⟩
end Go.Vx
namespace Go.Vx
variable {R:Type} (n:Nat)
def Zx (n:Nat) (d:LL) (c:Int) (k0:oP R) (k1:Qlp R):Qlq R
 | 0,_=>none
 | m+1,a=>bif decide (a<c) then QkX R d a fun e=>Qku R (pSl 4 e) fun f=>bif decide ((f.length:Int)>12) then k0 else Zx n d c k0 k1 m (wJ (a+1)) else k1 a (decide (a<c))
def UP (i j k l:LL) (c:Int) (d e b f g h m:LL) (K:Qlm R):oP R:=Qku R (Zm n i j k l some) fun o=>bif o !=0 then K 1 else jn (fun (p:Bool)=>bif p then K 7 else Zx n b (b.length:Int) (K 7) (fun q r=>bif Qkq (decide (c<2)) (decide (c>7200)) then K 4 else K 0) n 0) fun a=>Qks R (decide ((d.length:Int)>8)) fun y=>bif y then a y else Qks R (decide ((e.length:Int)>48)) fun v=>bif v then a v else Qks R (decide ((b.length:Int)>16)) fun x=>bif x then a x else Qks R (decide ((f.length:Int)>32)) fun u=>bif u then a u else Qks R (decide ((g.length:Int)>32)) fun t=>bif t then a t else Qks R (decide ((h.length:Int)>32)) fun s=>bif s then a s else a (decide ((m.length:Int)>32))
def YV (b:LL) (h2:Int) (c d e f:LL) (k0:Qlm R) (k1:Qlp R):Qlq R
 | 0,_=>none
 | m+1,a=>bif decide (a<h2) then QkS R b a fun i j=>QkZ R i j fun k l=>Qku R (TU n c d e f k l some) fun h=>bif h !=0 then k0 h else YV b h2 c d e f k0 k1 m (wJ (a+1)) else k1 a (decide (a<h2))
def U0 (b c d e:LL) (g:Int) (h a i j k l m:LL) (K:Qlm R):oP R:=YV n a (a.length:Int) b c d e (fun f=>K f) (fun o p=>K 0) n 0
def JD (ac ad ae ag:LL) (d:Int) (g b k l m o p:LL) (bt:List UInt8) (ah bu:Int) (e:LL) (a:Int) (K:Qlm R):oP R:=QkW R e a fun i q r s=>jn (fun (ai:Bool)=>(bif ai then K 4 else Qlf R i b fun ak al=>QkH R g ah fun f am an ao=>QkP R f fun ap aq=>QkZ R ak al fun ar au=>Qku R (N5 am) fun av=>Ql2 R an ao ap aq fun aw ax ay az=>Qku R (Gf n ac ad ae ag ar au av aw ax ay az some) fun u=>bif u !=0 then K u else Qks R (decide (a>0)) fun bv=>QkN R i bv q fun ba bb=>QkN R r bv s fun bc bd=>Qkv R bv (Th n d g b k l m o p ba bb bc bd some) fun be=>Qkv R bv (Q1 e (wJ (a-1))) fun j=>Qlj R j bv fun bg bh=>Qkv R bv j[2]? fun bi=>Qkv R bv j[3]? fun bj=>QkN R bg bv bh fun bk bl=>QkN R bi bv bj fun bm bn=>Qkv R bv (S9 n d g b k l m o p bk bl bm bn some) fun bo=>bif Qkr bv (be !=bo) then K 11 else K 0:oP R)) fun c=>Qku R (pIw i) fun v=>bif decide (v<0) then c (decide (v<0)) else Qku R (pIw i) fun x=>Qks R (decide (x>=(b.length:Int))) fun bz=>bif bz then c bz else Qku R (pIw q) fun y=>bif decide (y<0) then c (decide (y<0)) else Qku R (pIw q) fun z=>bif decide (z>=d) then c (decide (z>=d)) else QkF R r s fun bp bq=>Qku R (Ki n d g b k l m o p bp bq some) fun aa=>bif !aa then c (!aa) else Qks R (a==wJ ((e.length:Int)-1)) fun bx=>Qkv R bx (pIw r) fun ab=>Qkv R (bx&&!(ab !=0)) (pIw s) fun br=>c (Qkr bx (Qkq (ab !=0) (br !=0)))
def Zw (b:Int) (c d e f:LL) (g:Int) (h i j k l o p:LL) (q:List UInt8) (r s:Int) (t:LL) (k0:Qlm R) (k1:Qlp R):Qlq R
 | 0,_=>none
 | m+1,a=>bif decide (a<b) then Qku R (JD n c d e f g h i j k l o p q r s t a some) fun u=>bif u !=0 then k0 u else Zw b c d e f g h i j k l o p q r s t k0 k1 m (wJ (a+1)) else k1 a (decide (a<b))
def Zv (h:LL) (h2:Int) (i j k l:LL) (o:Int) (c p d q r s t:LL) (k0:Qlm R) (k1:Qlp R):Qlq R
 | 0,_=>none
 | m+1,a=>bif decide (a<h2) then QkW R h a fun u y z aa=>Qku R (N5 u) fun ab=>Qku R (Ks n ab some) fun ac=>bif !ac then k0 3 else Qku R (slB d.length none (some a)) fun ad=>Qku R (N5 u) fun v=>QkF R y z fun b x=>Qku R (pSl 4 aa) fun f=>Qku R (Qn n (cut d ad) v some) fun ae=>bif ae then k0 5 else jn (fun (ag:Bool)=>bif ag then k0 4 else bif (f.length:Int)==0 then k0 1 else Zw n (f.length:Int) i j k l o c p d q r s t v b x f (fun ah=>k0 ah) (fun aj ak=>Zv h h2 i j k l o c p d q r s t k0 k1 m (wJ (a+1))) n 0) fun g=>bif decide (b<0) then g (decide (b<0)) else Qks R (decide (b>=(c.length:Int))) fun al=>bif al then g al else Qku R (Tp n x some) fun ai=>g (!ai) else k1 a (decide (a<h2))
def V2 (b c d e:LL) (f:Int) (g h a i j k l:LL) (K:Qlm R):oP R:=Zv n a (a.length:Int) b c d e f g h a i j k l (fun m=>K m) (fun o p=>K 0) n 0
def Q9V (a b c d:LL) (e:Int) (f g h i j k l:LL):Bool:=Q8p (UP n a b c d e f g h i j k l some)&&Q8p (U2 n a b c d e f g h i j k l some)&&Q8p (U0 n a b c d e f g h i j k l some)&&Q8p (V2 n a b c d e f g h i j k l some)&&Q8p (Wn n a b c d e f g h i j k l some)&&Q8p (V1 n a b c d e f g h i j k l some)&&Q8p (UT n a b c d e f g h i j k l some)&&Q8p (Wg n a b c d e f g h i j k l some)
def Jd (a b c d:LL) (e:Int) (f g h i j k l:LL) (K:Qlm R):oP R:=bif Q9V n a b c d e f g h i j k l then K 0 else none
end Go.Vx
namespace Go.Vx
theorem Qr {h:Nat} (hh:h<=1000):wJ ((h:Int)+1)=((h+1:Nat):Int):=by rw [Q6 QoW QoW];omega
theorem Qc {h k:Nat} (hh:h<k):decide ((h:Int)<(k:Int))=true:=by simpa using hh
theorem Qi (k:Nat):decide ((k:Int)<(k:Int))=false:=by simp
section
variable {R:Type} {St Pt Se Li Sk Ro Ls Ch Tu Sy De:LL} {per:Int} {n:Nat}
theorem Q4W {mn mx:Int} (a:0<=mn) (b:mn<=mx) (h2:mx<mn+per) (c:mn<=1000) (p1:per<=300) (K:Bool->oP R):Ki n per Sk Ro Ls Ch Tu Sy De mn mx K=K true:=by
 unfold Ki;rw [show decide ((0:Int)<=mn)=true by simpa using a,show decide (mn<=mx)=true by simpa using b,show decide (mx<=(7200:Int))=true by simp;omega,Q6 QoW QoW,show decide (mx<mn+per)=true by simpa using h2];rfl
theorem Q2A {k:Nat} (h:k<Ls.length) (K:Bool->oP R):JZ n per Sk Ro Ls Ch Tu Sy De (k:Int) K=K true:=by
 unfold JZ;rw [show decide ((k:Int)>=0)=true by simp,Qc h];rfl
theorem CN {k i:Nat} {r:List D} (h:Tj Ls k i r) (K:Bool->oP R):Ua n per Sk Ro Ls Ch Tu Sy De (k:Int) (i:Int) K=K true:=by
 obtain ⟨nm,w,rides,a,h2⟩:=h;unfold Ua;rw [Q2A (Qqc.1 a).1,Q0,show decide ((i:Int)>=0)=true by simp,Qd,a];simp -implicitDefEqProofs only [Q0,Qq4,Qq5,Q2,Xx,QJ,Qq8,Qq6,Qqb,Qqa,Qc (Qqc.1 h2).1]
theorem Q8G {w:Int} (a:0<=w) (b:w<=1000) (K:Bool->oP R):Tp n w K=K true:=by
 unfold Tp;rw [show decide (w>=0)=true by simpa using a,show decide (w<=(1048576:Int))=true by simp;omega];rfl
theorem Q53 {G:Geo} {rt:Nat} {ex mn mx x y:Int} {s:LL} (a:Ro[rt]? = some [D.sl 2 s,Q4 0]) (b:RtOK G s x y) (K:Int->oP R):Th n per Sk Ro Ls Ch Tu Sy De (rt:Int) ex mn mx K=K x:=by
 obtain ⟨d,c⟩:=b.fst;unfold Th;simp -implicitDefEqProofs only [Q0,Qq4,Qq5,Q2,Xx,QJ,Qq8,Qq6,Qqb,Qqa,Qd,a,c]
theorem Qa9 {G:Geo} {rt:Nat} {ex mn mx x y:Int} {s:LL} (b:Ro[rt]? = some [D.sl 2 s,Q4 0]) (a:RtOK G s x y) (K:Int->oP R):S9 n per Sk Ro Ls Ch Tu Sy De (rt:Int) ex mn mx K=K y:=by
 obtain ⟨d,c⟩:=a.lst;have l2:=a.l2;have l24:=a.l24;unfold S9;simp -implicitDefEqProofs only [Q0,Qq4,Qq5,Q2,Xx,QJ,Qq8,Qq6,Qqb,Qqa,Qd,b];rw [Q6 (x:=(s.length:Int)-0) QoW QoW,Q6 QoW QoW,Int.sub_zero,c];rfl
theorem Qeo (hs:Q14 Sk) (K:Int->oP R):U2 400 St Pt Se Li per Sk Ro Ls Ch Tu Sy De K=K 0:=by
 obtain ⟨a,b,c,d,rfl,hk⟩:=hs;have h:U2 400 St Pt Se Li per [[D.str (bs [88]),Q4 a,Q4 b,Q4 c,Q4 d]] Ro Ls Ch Tu Sy De K=gb true (Uu 400 (bs [88]) a b c d some) false (fun r=>bif !r then K 4 else K 0):=by kernel_rfl
 rw [h,BQ hk];rfl
end
section
variable {R:Type} {G:Geo} {Sk Ro Ls Ch Tu Sy De:LL} {per:Int} (h:PlanR G per Sk Ro Ls Ch Tu Sy De)
include h
theorem Q6D {k:Nat} (hk:k<Ls.length):∃ r,Tj Ls k 0 r:=by
 obtain ⟨w,rides,e,hr,a⟩:=DJ h.good hk;obtain ⟨r,_,_,_,b,_⟩:=a 0 QoW;exact ⟨r,b⟩
theorem QgS (K:Int->oP R):UP 400 G.St G.Pt G.Se G.Li per Sk Ro Ls Ch Tu Sy De K=K 0:=by
 have hc:Zm 400 G.St G.Pt G.Se G.Li (some:Int->oP Int)=some 0:=by unfold Zm;rw [h.ok.lay];rfl
 obtain ⟨_,_,_,_,aj,_⟩:=h.sk;obtain ⟨T,hT,_,_,_,ak⟩:=h.tu;have l1:=h.l1;have l2:=h.rl;have a:=h.chl;have c:=h.syl;have d:=h.del;have p0:=h.p0;have p1:=h.p1;have lk:Sk.length=1:=by rw [aj];rfl
 have lt:Tu.length<=20:=by rw [hT];simpa using ak
 have ac:∀ {k:Nat} {b:Int},(k:Int)<=b->decide ((k:Int)>b)=false:=fun h=>by simpa using h
 unfold UP;rw [hc,Q0,Q8 (by rfl)];simp -implicitDefEqProofs only [jn,ac (show (Sk.length:Int)<=8 by omega),ac (show (Ro.length:Int)<=48 by omega),ac (show (Ls.length:Int)<=16 by omega),ac (show (Ch.length:Int)<=32 by omega),ac (show (Tu.length:Int)<=32 by omega),ac (show (Sy.length:Int)<=32 by omega),ac (show (De.length:Int)<=32 by omega),Qq6];refine Qt (r:=fun m h=>Zx 400 Ls (Ls.length:Int) _ _ m h) (N:=Ls.length) (fun m k hk=>?_) (fun m=>?_) Ls.length 400 0 QoW QoW
 ·obtain ⟨w,rides,e,hr,_⟩:=DJ h.good hk;rw [Zx,Qc hk,Qd,e];simp -implicitDefEqProofs only [Q0,Qq4,Qq5,Q2,Xx,QJ,Qq8,Qq6,Qqb,Qqa,ac (show (rides.length:Int)<=12 by omega),Qr (show k<=1000 by omega)]
 ·rw [Zx,Qi,Qq6,show decide (per<2)=false by simp;omega,show decide (per>7200)=false by simp;omega];rfl
theorem Qd9 (K:Int->oP R):U0 400 G.St G.Pt G.Se G.Li per Sk Ro Ls Ch Tu Sy De K=K 0:=by
 have l2:=h.rl;unfold U0;refine Qt (r:=fun m h=>YV 400 Ro (Ro.length:Int) G.St G.Pt G.Se G.Li _ _ m h) (N:=Ro.length) (fun m k hk=>?_) (fun m=>?_) Ro.length 400 0 QoW QoW
 ·obtain ⟨s,x,y,e,hs⟩:=h.good.ro _ (Qqj hk);rw [YV,Qc hk,Qd,Qq9 hk,e];simp -implicitDefEqProofs only [Q0,Qq4,Qq5,Q2,Xx,QJ,Qq8,Qq6,Qqb,Qqa,Q68 h.ok.lay rfl hs.l2 hs.l24 hs.rt,Qr (show k<=1000 by omega)];rfl
 ·rw [YV,Qi,Qq6]
theorem Qbm (K:Int->oP R):Wg 400 G.St G.Pt G.Se G.Li per Sk Ro Ls Ch Tu Sy De K=K 0:=by
 have l2:=h.del;have hN:=h.ok.hN;unfold Wg;refine Qt (r:=fun m h=>YI 400 De (De.length:Int) G.St _ _ m h) (N:=De.length) (fun m k hk=>?_) (fun m=>?_) De.length 400 0 QoW QoW
 ·obtain ⟨f,t,w,e,⟨a,b⟩,⟨c,t1⟩,ac,w0,d⟩:=h.de _ (Qqj hk);rw [YI,Qc hk,Qd,Qq9 hk,e];simp -implicitDefEqProofs only [Q0,Qq4,Qq5,Q2,Xx,QJ,Qq8,Qq6,Qqb,Qqa,h.ok.st,show decide (f<0)=false by simpa using a,show decide (f>=(G.N:Int))=false by simpa using b,show decide (t<0)=false by simpa using c,show decide (t>=(G.N:Int))=false by simpa using t1,show (f == t)=false by simpa using ac,show decide (w<1)=false by simp;omega,show decide (w>1048576)=false by simp;omega,Qr (show k<=1000 by omega)]
 ·rw [YI,Qi,Qq6]
theorem QgM (K:Int->oP R):UT 400 G.St G.Pt G.Se G.Li per Sk Ro Ls Ch Tu Sy De K=K 0:=by
 have l2:=h.syl;have l0:=h.l0;unfold UT;refine Qt (r:=fun m h=>Zq 400 Sy (Sy.length:Int) per Sk Ro Ls Ch Tu Sy De _ _ m h) (N:=Sy.length) (fun m k hk=>?_) (fun m=>?_) Sy.length 400 0 QoW QoW
 ·obtain ⟨o,e,o0,o1,h2⟩:=h.sy _ (Qqj hk);obtain ⟨r,hr⟩:=Q6D h (k:=0) QoW;obtain ⟨r',ac⟩:=Q6D h (k:=1) QoW;have e1:=CN (R:=Bool) (per:=per) (Sk:=Sk) (Ro:=Ro) (Ch:=Ch) (Tu:=Tu) (Sy:=Sy) (De:=De) (n:=400) hr some;have e2:=CN (R:=Bool) (per:=per) (Sk:=Sk) (Ro:=Ro) (Ch:=Ch) (Tu:=Tu) (Sy:=Sy) (De:=De) (n:=400) ac some;rw [Zq,Qc hk,Qd,Qq9 hk,e];simp -implicitDefEqProofs only [Q0,Qq4,Qq5,Q2,Xx,QJ,Qq8,Qq6,Qqb,Qqa,show Ua 400 per Sk Ro Ls Ch Tu Sy De 0 0 (some:Bool->oP Bool)=some true from e1,show Ua 400 per Sk Ro Ls Ch Tu Sy De 1 0 (some:Bool->oP Bool)=some true from e2,show ((0:Int) == 1)=false from rfl,show decide (o<0)=false by simp;omega,show decide (o>=per)=false by simp;omega,Qr (show k<=1000 by omega)]
 ·rw [Zq,Qi,Qq6]
end
theorem Q26 {n h:Nat} (hh:h<=n):slB n none (some (h:Int))=some (0,h):=by
 unfold slB;rw [show (decide ((0:Int)<=(none:oP Int).getD 0)&&(decide ((none:oP Int).getD 0<=(some (h:Int)).getD (n:Int))&&decide ((some (h:Int)).getD (n:Int)<=(n:Int))))=true by simp;omega];rfl
theorem LC {α:Type} {l:List α} {h:Nat}:cut l (0,h)=l.take h:=by simp [cut]
theorem Qgm {i j:Nat} (hi:i<8) (hj:j<8) (h:i≠j):(nmN i == nmN j)=false:=by
 have:∀ i j:Fin 8,i≠j->(nmN i.val == nmN j.val)=false:=by decide
 exact this ⟨i,hi⟩ ⟨j,hj⟩ (by intro e;exact h (by simpa using e))
theorem Qiq {i:Nat} (hi:i<8):Ks 400 (nmN i) (some:Bool->oP Bool)=some true:=by
 obtain rfl | rfl | rfl | rfl | rfl | rfl | rfl | rfl:i=0\/i=1\/i=2\/i=3\/i=4\/i=5\/i=6\/i=7:=QoW
 all_goals kernel_rfl
section
variable {Sk Ch Tu Sy De:LL} {per:Int}
theorem Q3h {G:Geo} {Ro Ls:LL} {c:Nat} (hg:GoodP G Ro Ls) (hc:c<8) (hl:c<Ls.length):Qn 400 (cut Ls (0,c)) (nmN c) some=some false:=by
 have aj:(cut Ls (0,c)).length=c:=by rw [LC];simp;omega
 unfold Qn QU;rw [aj];refine (congrArg (fun E=>gb true E 0 fun a=>some (decide (a>=(0:Int)))) (a₂:=some (-1)) (Qt (r:=fun m h=>Qa 400 (cut Ls (0,c)) (c:Int) (nmN c) _ _ m h) (N:=c) (fun m h hh=>?_) (fun m=>?_) c 400 0 QoW QoW)).trans rfl
 ·obtain ⟨w,ac,e,_,_⟩:=DJ hg (show h<Ls.length by omega);have e':(cut Ls (0,c))[h]? = some [D.str (nmN h),Q4 0,Q4 w,D.sl 4 ac]:=by rw [LC,List.getElem?_take_of_lt hh,e]
  rw [Qa,Qc hh,Qd,e'];simp -implicitDefEqProofs only [Q0,Qq4,Qq5,Q2,Xx,QJ,Qq8,Qq6,Qqb,Qqa,ZJ,Qgm (show h<8 by omega) hc QoW,Qr (show h<=1000 by omega)]
 ·rw [Qa,Qi,Qq6]
theorem Q5C {G:Geo} (hG:G.OK) {Ro Ls rides:LL} {nm:List UInt8} {w:Int} {i:Nat} {r:List D} {x y:Int} {b:Bool} (p0:90<=per) (p1:per<=300) (ao:Q14 Sk) (hr:rides[i]? = some r) (hR:PB G Ro r x y b) (hb:i+1=rides.length->b=true) (hl:rides.length<=2)
  (aj:∀ j,j+1=i->∃ r' x' b',rides[j]? = some r'/\PB G Ro r' x' x b'):JD 400 G.St G.Pt G.Se G.Li per Sk Ro Ls Ch Tu Sy De nm 0 w rides (i:Int) (some:Int->oP Int)=some 0:=by
 obtain ⟨rt,ex,mn,mx,s,rfl,ac,hs,⟨h,k⟩,⟨e,f,l,m⟩,hlast⟩:=hR;obtain ⟨a,v,c,d,rfl,hk⟩:=ao;have a3:rt<Ro.length:=(Qqc.1 ac).1;have hi:i<rides.length:=(Qqc.1 hr).1;have ak:(bif ((i:Int) == (wJ (((List.length rides:Nat):Int)-(1:Int)))) then (bif (mn != (0:Int)) then true else (mx != (0:Int))) else false)=false:=by
  by_cases g:i+1=rides.length
  ·obtain ⟨rfl,rfl⟩:=hlast (hb g);rw [show ((0:Int) != 0)=false from rfl];cases ((i:Int) == (wJ (((List.length rides:Nat):Int)-(1:Int)))) <;> rfl
  ·rw [Q6 QoW QoW,show ((i:Int) == (rides.length:Int)-1)=false by simp;omega];rfl
 unfold JD;rw [Qd,hr];simp -implicitDefEqProofs only [Q0,Qq4,Qq5,Q2,Xx,QJ,Qq8,Qq6,Qqb,Qqa,jn,show decide ((rt:Int)<0)=false by simp,show decide ((rt:Int)>=(Ro.length:Int))=false by simp;omega,show decide (ex<0)=false by simp;omega,show decide (ex>=per)=false by simp;omega,Q4W e f (show mx<mn+per by omega) QoW p1,ak,Qd,ac,show Q1 [[D.str (bs [88]),Q4 a,Q4 v,Q4 c,Q4 d]] (0:Int)=some [D.str (bs [88]),Q4 a,Q4 v,Q4 c,Q4 d] from rfl,QeA hG.lay rfl hs.l2 hs.l24 hs.rt hs.st hk,show ((0:Int) != 0)=false from rfl];cases i with
 |zero=>
  rw [show decide (((0:Nat):Int)>0)=false from rfl];simp only [gbF,Qq6]
 |succ j=>
  obtain ⟨r',x',b',au,aw⟩:=aj j rfl;obtain ⟨az,ax,ay,a4,s',rfl,an,ar,_⟩:=aw;simp -implicitDefEqProofs only [Q0,Qq4,Qq5,Q2,Xx,QJ,Qq8,Qq6,Qqb,Qqa,show decide (((j+1:Nat):Int)>0)=true by simp,Q53 ac hs,show wJ (((j+1:Nat):Int)-1)=(j:Int) by rw [Q6 QoW QoW];omega,Qd,au,Qa9 an ar,show (x != x)=false by simp]
theorem QbO {G:Geo} (hG:G.OK) {Ro Ls rides:LL} {nm:List UInt8} {w:Int} (p0:90<=per) (p1:per<=300) (ac:Q14 Sk) (h:Q3q G Ro rides):(rides.length=1\/rides.length=2)/\∀ i,i<rides.length->JD 400 G.St G.Pt G.Se G.Li per Sk Ro Ls Ch Tu Sy De nm 0 w rides (i:Int) (some:Int->oP Int)=some 0:=by
 rcases h with ⟨r,x,y,rfl,h⟩ | ⟨r,r',x,y,z,rfl,h,h'⟩
 ·refine ⟨.inl rfl,fun i hi=>?_⟩;have hi:i=0:=by simpa using hi
  subst hi;exact Q5C hG p0 p1 ac rfl h (fun _=>rfl) QoY fun j hj=>by omega
 ·refine ⟨.inr rfl,fun i hi=>?_⟩;obtain rfl | rfl:i=0\/i=1:=by simp at hi;omega
  ·exact Q5C hG p0 p1 ac rfl h (fun h=>by simp at h) QoY fun j hj=>by omega
  ·refine Q5C hG p0 p1 ac rfl h' (fun _=>rfl) QoY fun j hj=>?_
   have hj:j=0:=QoW
   subst hj;exact ⟨r,x,false,rfl,h⟩
end
theorem Qfc {R:Type} {G:Geo} {Sk Ro Ls Ch Tu Sy De:LL} {per:Int} (h:PlanR G per Sk Ro Ls Ch Tu Sy De) (K:Int->oP R):V2 400 G.St G.Pt G.Se G.Li per Sk Ro Ls Ch Tu Sy De K=K 0:=by
 have l1:=h.l1;obtain ⟨_,_,_,_,ao,_⟩:=h.sk;have ak:Sk.length=1:=by rw [ao];rfl
 unfold V2;refine Qt (r:=fun m h=>Zv 400 Ls (Ls.length:Int) G.St G.Pt G.Se G.Li per Sk Ro Ls Ch Tu Sy De _ _ m h) (N:=Ls.length) (fun m k hk=>?_) (fun m=>?_) Ls.length 400 0 QoW QoW
 ·obtain ⟨w,rides,e,w0,a,ac⟩:=h.good.ls k _ (Qq9 hk);obtain ⟨an,aj⟩:=QbO (Ls:=Ls) (Ch:=Ch) (Tu:=Tu) (Sy:=Sy) (De:=De) (nm:=nmN k) (w:=w) h.ok h.p0 h.p1 h.sk ac;rw [Zv,Qc hk,Qd,Qq9 hk,e];simp -implicitDefEqProofs only [Q0,Qq4,Qq5,Q2,Xx,QJ,Qq8,Qq6,Qqb,Qqa,Qiq (show k<8 by omega),Q26 (Nat.le_of_lt hk),Q3h h.good (show k<8 by omega) hk,jn,show decide ((0:Int)<0)=false from rfl,ak,show decide ((0:Int)>=((1:Nat):Int))=false from rfl,Q8G w0 (show w<=1000 by omega),show ((rides.length:Int) == 0)=false by simp;intro hx;simp [hx] at an];refine (Qt (r:=fun m h=>Zw 400 (rides.length:Int) G.St G.Pt G.Se G.Li per Sk Ro Ls Ch Tu Sy De (nmN k) 0 w rides _ _ m h) (N:=rides.length) (fun m i hi=>?_) (fun m=>?_) rides.length 400 0 QoW QoW)
  ·rw [Zw,Qc hi];simp -implicitDefEqProofs only [Q0,Qq4,Qq5,Q2,Xx,QJ,Qq8,Qq6,Qqb,Qqa,aj i hi,show ((0:Int) != 0)=false from rfl,Qr (show i<=1000 by omega)]
  ·rw [Zw,Qi,Qq6,Qr QoW]
 ·rw [Zv,Qi,Qq6]
theorem M9 {α:Type} {l:List α} (h:l.Nodup) {i:Nat} (hi:i<l.length):∀ x∈l.take i,x≠l[i]:=by
 intro x hx e;subst e;obtain ⟨j,hj,e⟩:=List.getElem_of_mem hx;simp at hj;rw [List.getElem_take] at e;have:=(List.nodup_iff_pairwise_ne.1 h);have:=List.pairwise_iff_getElem.1 this j i QoW hi QoW;exact this e
theorem Q4o {a b:Int} {T:List Tup} (ht:∀ t∈T,(t.1:Int)≠a/\(t.2.1:Int)≠b) (hl:T.length<=30):Ql 400 (T.map tuR) a b some=some false:=by
 have ac:(T.map tuR).length=T.length:=by simp
 unfold Ql QV;rw [ac];refine (congrArg (fun E=>gb true E 0 fun c=>some (decide (c>=(0:Int)))) (a₂:=some (-1)) (Qt (r:=fun m h=>Qb 400 (T.map tuR) (T.length:Int) a b _ _ m h) (N:=T.length) (fun m h hh=>?_) (fun m=>?_) T.length 400 0 QoW QoW)).trans rfl
 ·have e:(T.map tuR)[h]? = some (tuR T[h]):=by rw [Qqq,Qq9 hh];rfl
  obtain ⟨d,f⟩:=ht _ (Qqj hh);rw [Qb,Qc hh,Qd,e];simp -implicitDefEqProofs only [Q0,Qq4,Qq5,Q2,Xx,QJ,Qq8,Qq6,Qqb,Qqa,tuR,ZG,show ((T[h].1:Int) == a)=false by simpa using d,show ((T[h].2.1:Int) == b)=false by simpa using f,Qr (show h<=1000 by omega)]
 ·rw [Qb,Qi,Qq6]
section
variable {R:Type} {G:Geo} {Sk Ro Ls Ch Tu Sy De:LL} {per:Int} (h:PlanR G per Sk Ro Ls Ch Tu Sy De)
include h
theorem Qbx (K:Int->oP R):Wn 400 G.St G.Pt G.Se G.Li per Sk Ro Ls Ch Tu Sy De K=K 0:=by
 have l2:=h.chl;have p1:=h.p1;unfold Wn;refine Qt (r:=fun m h=>YJ 400 Ch (Ch.length:Int) G.Se per Sk Ro Ls Ch Tu Sy De _ _ m h) (N:=Ch.length) (fun m k hk=>?_) (fun m=>?_) Ch.length 400 0 QoW QoW
 ·obtain ⟨f,fr,t,tr,mn,mx,w,r,r',x,y,x',y',b,b',i,e,hr,ac,hR,ar,a5,⟨a,j,c,d⟩,⟨w0,l⟩,⟨o,a1,c1,d1,g1⟩,⟨p,a2,q,u,g⟩,hi⟩:=h.ch _ (Qqj hk);have hb:=CN (R:=Bool) (per:=per) (Sk:=Sk) (Ro:=Ro) (Ch:=Ch) (Tu:=Tu) (Sy:=Sy) (De:=De) (n:=400) hr;have au:=CN (R:=Bool) (per:=per) (Sk:=Sk) (Ro:=Ro) (Ch:=Ch) (Tu:=Tu) (Sy:=Sy) (De:=De) (n:=400) ac;obtain ⟨nm,v,rides,e1,e2⟩:=hr;obtain ⟨a7,v',ak,aw,an⟩:=ac;obtain ⟨rt,ex,rn,rx,s,rfl,aq,hs,_⟩:=hR;obtain ⟨az,ax,a6,a3,s',rfl,aj,ao,_⟩:=ar;rw [YJ,Qc hk,Qd,Qq9 hk,e];simp -implicitDefEqProofs only [Q0,Qq4,Qq5,Q2,Xx,QJ,Qq8,Qq6,Qqb,Qqa,hb,au,Q4W a c d (show mn<=1000 by omega) p1,Q8G w0 (show w<=1000 by omega),show ((f:Int) == (t:Int))=false by simp;omega,Qd,e1,e2,aw,an,Qa9 aq hs,Q53 aj ao,g1,g,show (i == (-1:Int))=false by simp;omega,show (i != i)=false by simp,Qr (show k<=1000 by omega)]
 ·rw [YJ,Qi,Qq6]
theorem QfO (K:Int->oP R):V1 400 G.St G.Pt G.Se G.Li per Sk Ro Ls Ch Tu Sy De K=K 0:=by
 obtain ⟨T,hT,t1,t2,a,o⟩:=h.tu;have hl:Tu.length=T.length:=by rw [hT];simp
 have p0:=h.p0;have p1:=h.p1;unfold V1;rw [hl];refine Qt (r:=fun m h=>ZD 400 Tu (T.length:Int) per Sk Ro Ls Ch Tu Sy De _ _ m h) (N:=T.length) (fun m k hk=>?_) (fun m=>?_) T.length 400 0 QoW QoW
 ·have e:Tu[k]? = some (tuR T[k]):=by rw [hT,Qqq,Qq9 hk];rfl
  obtain ⟨c,u2,u3,p,d,q,nm,w,rides,r,r',x,y,z,b,b',e1,e2,u,v,⟨a4,w',ac,f,g⟩,hR,au⟩:=t1 _ (Qqj hk);obtain ⟨rt,ex,rn,rx,s,rfl,ar,hs,_⟩:=hR;obtain ⟨aw,aq,ay,ax,s',rfl,an,ao,_⟩:=au;have aj:cut Tu (0,k)=(T.take k).map tuR:=by rw [LC,hT,List.map_take]
  have ak:∀ t∈T.take k,(t.1:Int)≠(T[k].1:Int)/\(t.2.1:Int)≠(T[k].2.1:Int):=by
   intro t ht;have j:=M9 t2 (i:=k) (by simpa using hk) t.1 (by rw [<- List.map_take];exact List.mem_map_of_mem ht);have h2:=M9 a (i:=k) (by simpa using hk) t.2.1 (by rw [<- List.map_take];exact List.mem_map_of_mem ht);rw [List.getElem_map] at j h2;exact ⟨QoW,QoW⟩
  rw [ZD,Qc hk,Qd,e];simp -implicitDefEqProofs only [Q0,Qq4,Qq5,Q2,Xx,QJ,Qq8,Qq6,Qqb,Qqa,tuR,Q2A c,Q2A u2,Q4W (Sk:=Sk) (Ro:=Ro) (Ls:=Ls) (Ch:=Ch) (Tu:=Tu) (Sy:=Sy) (De:=De) (n:=400) (show 0<=T[k].2.2.1 by omega) d (show T[k].2.2.2<T[k].2.2.1+per by omega) QoW p1];rw [hl,Q26 QoW,Q0,aj,Q4o ak QoZ];have hw:wJ ((rides.length:Int)-1)=((rides.length-1:Nat):Int):=by rw [Q6 QoW QoW];omega
  have l:Q1 ac (0:Int)=some [Q4 aw,Q4 aq,Q4 ay,Q4 ax]:=(Qd ac 0).trans g;simp -implicitDefEqProofs only [Q0,Qq4,Qq5,Q2,Xx,QJ,Qq8,Qq6,Qqb,Qqa,Qd,e1,f,hw,e2,l,Qa9 ar hs,Q53 an ao,show (y != y)=false by simp,show ((0:Int) != 0)=false from rfl,Qr (show k<=1000 by omega)]
 ·rw [ZD,Qi,Qq6]
theorem QdE (K:Int->oP R):Jd 400 G.St G.Pt G.Se G.Li per Sk Ro Ls Ch Tu Sy De K=K 0:=by
 unfold Jd Q9V;rw [QgS h,Qeo h.sk,Qd9 h,Qfc h,Qbx h,QfO h,QgM h,Qbm h];rfl
end
section
variable {R:Type} {n:Nat}
theorem Q4F {x lo hi:Int} (a:lo<=x) (b:x<=hi) (K:Bool->oP R):Hp n x lo hi K=K true:=inT (n:=n) a b K
theorem Q4H {x lo hi:Int} (a:lo<=x) (b:x<=hi) (K:Bool->oP R):VF n x lo hi K=K true:=inT (n:=n) a b K
theorem QfF {a b g:Int} {acc:LL} (c:0<=a) (d:a<=12) (hc:acc.length<=1000) {k0:Int->Bool->LL->oP R} {m:Nat} (hm:12<m):U8 n g (Q4 a) (Q4 b) k0 m 0 acc=k0 a false (acc++List.replicate a.toNat [Q4 b,Q4 g]):=by
 have hl:∀ h:Nat,(acc++List.replicate h [Q4 b,Q4 g]).length=acc.length+h:=fun h=>by simp
 have:=Qt (r:=fun m h=>U8 n g (Q4 a) (Q4 b) k0 m h (acc++List.replicate h.toNat [Q4 b,Q4 g])) (N:=a.toNat) (e:=k0 a false (acc++List.replicate a.toNat [Q4 b,Q4 g])) (fun m h hh=>?_) (fun m=>?_) a.toNat m 0 QoW QoW
 ·simpa using this
 ·simp only [Qq7];rw [U8,Q2,Q0,QR QoZ,Q2,Q0,hl,XE (by simp only [Qqn,Qqr];omega),Q0,Qr QoW,List.append_assoc,<- List.replicate_succ']
 ·rw [U8,Q2,Q0,Q8 QoZ];simp only [Qq7];rw [show (a.toNat:Int)=a by omega];simp
theorem QgV {Se s:LL} {k0:Int->Bool->LL->oP R} (hs:∀ row∈s,C8 Se row) (hl:s.length<=30) {m:Nat} (hm:s.length<m) (hn:12<n):Ui n Se s 0 k0 m 0 []=k0 (s.length:Int) false (Yg Se s):=by
 have hc:=fun h:Nat=>(PL (s:=s.take h) fun r hr=>hs r (List.mem_of_mem_take hr)).1
 have hw:wJ ((s.length:Int)-0)=(s.length:Int):=by rw [Q6 QoW QoW];omega
 refine Qt (r:=fun m h=>Ui n Se s 0 k0 m h (Yg Se (s.take h.toNat))) (N:=s.length) (fun m h hh=>?_) (fun m=>?_) s.length m 0 QoW hm
 ·have e:=Qq9 hh;obtain ⟨x,d,nm,a,b,c,st,hx,ac,f,hd⟩:=hs _ (Qqj hh);rw [hx] at e;have a0:=f.a0;have a1:=f.a1;have ak:=hc h;simp only [List.length_take] at ak;simp only [Qq7,Mf e,H8 ac];rw [Ui,hw,Qc hh];simp -implicitDefEqProofs only [Q0,Qq4,Qq5,Q2,Xx,QJ,Qq8,Qq6,Qqb,Qqa,Qd,e,ac,QfF (n:=n) (b:=b) (acc:=Yg Se (s.take h)) (show 0<=a by omega) a1 QoW hn,Qr (show h<=1000 by omega)];rw [Q6 (x:=0-c) (by have:=f.c1;omega) (by have:=f.c0;omega),Int.zero_sub];cases g:d == (1:Int) <;> rfl
 ·simp only [Qq7];rw [Ui,hw,Qi,Qq6,Qqx]
end
structure RtF (St Pt Se Li s:LL):Prop where
 lay:Pz 400 St Pt Se Li=true
 ref:QaR St Pt Se Li=true
 l2:2<=s.length
 l24:s.length<=24
 rt:rtB Se.length Li s=true
 rt6:Qhp Se.length Li s=true
 hops:Q01 Se.length Pt.length Li 0 s=true
 st:∀ r∈s,C8 Se r
theorem RtOK.f {G:Geo} (hG:G.OK) {s:LL} {x y:Int} (h:RtOK G s x y):RtF G.St G.Pt G.Se G.Li s:=⟨hG.lay,hG.ref,h.l2,h.l24,h.rt,h.rt6,h.hops,h.st⟩
section
variable {St Pt Se Li s:LL} (h:RtF St Pt Se Li s)
include h
theorem Q9G:PZ 400 St Pt Se Li s 0 Tu3=some (Yg Se s,Ta Se s,0):=by
 have l2:=h.l2;have l24:=h.l24;have hl:=(PL h.st).1;obtain ⟨row,rest,rfl⟩:∃ row rest,s=row::rest:=by
  cases s with
  |nil=>simp at l2
  |cons a b=>exact ⟨a,b,rfl⟩
 obtain ⟨x,d,nm,a,b,c,st,rfl,hs,_,_⟩:=h.st row QoY;have hf:Ta Se ([Q4 x,Q4 d]::rest)=a:=by simp only [Ta,hs]
 generalize hS:[Q4 x,Q4 d]::rest=s at *
 unfold PZ;rw [Q4u h.ref rfl h.l2 h.l24 h.rt6,Q0,Q8 QoX,QgV h.st QoW QoW QoX,Q8 QoZ,show Q1 s (0:Int)=some [Q4 x,Q4 d] by rw [<- hS];rfl];simp -implicitDefEqProofs only [Q0,Qq4,Qq5,Q2,Xx,QJ,Qq8,Qq6,Qqb,Qqa,hs,hf]
theorem Qa3 {nm:List UInt8} {tl sp ac br:Int} (hk:StkN tl sp ac br):Sw 400 St Pt Se Li s 0 nm tl sp ac br (some:Int->oP Int)=some 0:=by
 have l24:=h.l24;have hw:wJ ((s.length:Int)-0)=(s.length:Int):=by rw [Q6 QoW QoW];omega
 have ak:XV 400 nm tl sp ac br (some:Bool->oP Bool)=some true:=by
  obtain ⟨t1,t2,s1,s2,a1,a2,b1,b2⟩:=hk;unfold XV;simp -implicitDefEqProofs only [Q0,Qq4,Qq5,Q2,Xx,QJ,Qq8,Qq6,Qqb,Qqa,Q4F t1 (show tl<=40 by omega),Q4F (show 1000<=sp by omega) (show sp<=100000 by omega),Q4F (show 100<=ac by omega) (show ac<=2000 by omega),Q4F (show 100<=br by omega) (show br<=2000 by omega)]
 unfold Sw;rw [Q9G h,Q0,Q8 (by rfl),ak,Q0,Q8 QoX];refine Qt (r:=fun m h=>G6 400 Se s 0 tl _ _ m h) (N:=s.length) (fun m k e=>?_) (fun m=>?_) s.length 400 0 QoW QoW
 ·obtain ⟨x,d,an,a,b,c,st,hx,aj,hn,_⟩:=h.st _ (Qqj e);have a0:=hn.a0;have t2:=hk.t2;rw [G6,hw,Qc e,Qd,Qq9 e,hx];simp -implicitDefEqProofs only [Q0,Qq4,Qq5,Q2,Xx,QJ,Qq8,Qq6,Qqb,Qqa,aj,show decide (a<if 2<tl then tl else 2)=false by simp;split <;> omega,Qr (show k<=1000 by omega)]
 ·rw [G6,hw,Qi,Qq6]
end
def Qbz (x r:Int):Prop:=0<=r/\r*r<=x/\x<(r+1)*(r+1)
theorem Q52 {a b:Int} (c:0<=a) (h:a<=b):a*a<=b*b:=Int.mul_le_mul h h c QoW
theorem Q3K {x r s:Int} (h:Qbz x r) (g:Qbz x s):r=s:=by
 obtain ⟨a0,a1,a2⟩:=h;obtain ⟨b0,b1,b2⟩:=g;rcases Int.lt_trichotomy r s with h | h | h
 ·have:=Q52 (show 0<=r+1 by omega) (show r+1<=s by omega);omega
 ·exact h
 ·have:=Q52 (show 0<=s+1 by omega) (show s+1<=r by omega);omega
theorem Q9h {x r b:Int} (c:0<=r) (hb:0<=b) (h:r*r<=x) (hx:x<(b+1)*(b+1)):r<=b:=by
 by_cases a:r<=b
 ·exact a
 ·have:=Q52 (show 0<=b+1 by omega) (show b+1<=r by omega);omega
theorem Qk6 {a:Int} (b:0<=a) (c:a<=9223372036854775807):shR .i64 a 1=a / 2:=by
 show a.fdiv 2=a / 2;exact Int.fdiv_eq_ediv_of_nonneg a QoX
theorem Qh9 {R:Type} {n:Nat} {x:Int} (a:0<=x) (hx:x<=1000000000) {k0:Int->Int->Bool->oP R}:∀ (k m:Nat) (ac:Int),k<=31->k+1<m->0<=ac->ac*ac<=x->x<(ac+2 ^ (k+1))*(ac+2 ^ (k+1)) ->
  ∃ r,Qbz x r/\Vk n x k0 m ac (2 ^ k)=k0 r 0 false
 |k,m+1,ac,hk,hm,b,c,r2=>by
  have hr:ac<=40000:=Q9h b QoX c QoW;have hp:∀ j:Nat,(1:Int)<=2 ^ j:=fun j=>by
   have:=Int.ofNat_le.2 (Nat.two_pow_pos j);rw [Int.natCast_pow] at this;exact this
  have e:(2:Int) ^ k<=2147483648:=by
   have:=Int.ofNat_le.2 (Nat.le_trans (Nat.pow_le_pow_right (show 0<2 by decide) hk) (show 2 ^ 31<=2147483648 by decide));rw [Int.natCast_pow] at this;exact this
  have f:=hp k;have hw:wJ (ac+2 ^ k)=ac+2 ^ k:=Q6 QoW QoW;have hs:(2:Int) ^ (k+1)=2 ^ k+2 ^ k:=by rw [Int.pow_succ];omega
  have ak:Int.tdiv x (ac+2 ^ k)=x / (ac+2 ^ k):=Qqv a;have g:0<=x / (ac+2 ^ k):=Int.ediv_nonneg a QoW;have i:x / (ac+2 ^ k)<=x:=Int.ediv_le_self _ a;have d:wJ (Int.tdiv x (ac+2 ^ k))=x / (ac+2 ^ k):=by rw [ak,Q6 QoW QoW]
  have aj:(ac+2 ^ k<=x / (ac+2 ^ k))↔(ac+2 ^ k)*(ac+2 ^ k)<=x:=Int.le_ediv_iff_mul_le QoW;have step:∀ r:Int,0<=r->r*r<=x->x<(r+2 ^ k)*(r+2 ^ k)->∃ r',Qbz x r'/\Vk n x k0 m r (shR .i64 (2 ^ k) 1)=k0 r' 0 false:=by
   intro r a0 a1 a2;rw [Qk6 QoW QoW];cases k with
   |zero=>
    refine ⟨r,⟨a0,a1,by simpa using a2⟩,?_⟩;obtain ⟨m,rfl⟩:∃ m',m=m'+1:=⟨m-1,QoW⟩;rfl
   |succ k=>
    rw [show (2:Int) ^ (k+1) / 2=2 ^ k by rw [Int.pow_succ,Int.mul_ediv_cancel _ QoX]];exact Qh9 a hx k m r QoW QoW a0 a1 a2
  rw [Vk,QR QoZ,hw,NQ QoW,Q0,d];by_cases h:(ac+2 ^ k)*(ac+2 ^ k)<=x
  ·rw [QR (by simpa using aj.2 h)];exact step _ QoW h (by rw [Int.add_assoc,<- hs];exact r2)
  ·rw [Q8 (by simpa using fun h'=>h (aj.1 h'))];exact step ac b c QoW
theorem QiD {x:Int} (a:0<=x) (hx:x<=1000000000):∃ r,Qbz x r/\S8 400 x (some:Int->oP Int)=some r:=
 Qh9 a hx 31 400 0 QoX QoX QoX (by simpa using a) QoW
theorem Qe0 {R:Type} {n:Nat} {x:Int} (a:0<=x) (hx:x<=1000000000) {k0:Int->Int->Bool->oP R}:∀ (k m:Nat) (lo hi:Int),k<m->0<=lo->lo<=hi->hi<=3037000499->hi-lo<2 ^ k->lo*lo<=x->x<(hi+1)*(hi+1) ->
  ∃ r,Qbz x r/\VR n x k0 m lo hi=k0 r r false
 |k,m+1,lo,hi,hm,l0,l1,l2,hk,b,c=>by
  by_cases h:lo<hi
  ·obtain ⟨k,rfl⟩:∃ k',k=k'+1:=by
    cases k with
    |zero=>simp at hk;omega
    |succ k=>exact ⟨k,rfl⟩
   have hs:(2:Int) ^ (k+1)=2 ^ k+2 ^ k:=by rw [Int.pow_succ];omega
   have e:wJ (Int.tdiv (wJ ((wJ (lo+hi))+(1:Int))) (2:Int))=(lo+hi+1) / 2:=by
    rw [Q6 (x:=lo+hi) QoW QoW,Q6 (x:=lo+hi+1) QoW QoW,Qqv QoW,Q6 QoW QoW]
   rw [VR,QR (by simpa using h),NQ QoX,Q0,e];have ac:lo<(lo+hi+1) / 2/\(lo+hi+1) / 2<=hi:=QoW
   generalize hM:(lo+hi+1) / 2=mid at *
   have aj:=Q52 (show 0<=mid by omega) (show mid<=3037000499 by omega);have d:=Int.mul_nonneg (show 0<=mid by omega) (show 0<=mid by omega);rw [Q6 (x:=mid*mid) QoW QoW];by_cases hq:mid*mid<=x
   ·rw [QR (by simpa using hq)];exact Qe0 a hx k m mid hi QoW QoW QoW l2 QoW hq c
   ·rw [Q8 (by simpa using hq),Q6 QoW QoW];exact Qe0 a hx k m lo (mid-1) QoW l0 QoW QoW QoW b (by rw [Int.sub_add_cancel];omega)
  ·obtain rfl:lo=hi:=QoW
   rw [VR,Q8 QoY];exact ⟨lo,⟨l0,b,c⟩,by simp⟩
theorem Qi0 {x r:Int} (a:0<=x) (hx:x<=1000000000) (hr:Qbz x r):NY 400 x (some:Int->oP Int)=some r:=by
 unfold NY;by_cases h:x<=0
 ·rw [QR (by simpa using h)];have:Qbz x 0:=⟨by decide,QoW,QoW⟩;rw [Q3K hr this]
 ·rw [Q8 (by simpa using h)];obtain ⟨r',b,h2⟩:=Qe0 (R:=Int) (n:=400) (k0:=fun w _ _=>some w) a hx 32 400 0 3037000499 QoX QoX QoX QoX QoX QoW QoW;rw [Q3K hr b];exact h2
def cl (C:LL) (k:Nat):Int×Int:=match C[k]? with
 |some [.int _ b,.int _ g]=>(b,g)
 |_=>(0,0)
structure CellsOK (C:LL):Prop where
 row:∀ k,k<C.length->C[k]? = some [Q4 (cl C k).1,Q4 (cl C k).2]
 b0:∀ k,k<C.length->5000<=(cl C k).1
 b1:∀ k,k<C.length->(cl C k).1<=35000
 g0:∀ k,k<C.length -> -10<=(cl C k).2
 g1:∀ k,k<C.length->(cl C k).2<=10
 len:C.length<=300
theorem Q8N {Se:LL}:∀ {s:LL},(∀ row∈s,C8 Se row)->s.length<=24->CellsOK (Yg Se s):=by
 intro s h hl;have hm:∀ r∈Yg Se s,∃ b g:Int,r=[Q4 b,Q4 g]/\5000<=b/\b<=35000 /\ -10<=g/\g<=10:=by
  intro r hr;obtain ⟨row,f,h2⟩:=List.mem_flatMap.1 hr;obtain ⟨x,d,nm,a,b,c,st,rfl,hs,hn,_⟩:=h _ f;rw [H8 hs] at h2;have i:=List.eq_of_mem_replicate h2;have c0:=hn.c0;have c1:=hn.c1;refine ⟨_,_,i,hn.b0,hn.b1,?_⟩;cases (d == (1:Int))
  ·exact ⟨c0,c1⟩
  ·show -10 <= -c /\ -c<=10;omega
 have hat:∀ k,k<(Yg Se s).length->(Yg Se s)[k]? = some [Q4 (cl (Yg Se s) k).1,Q4 (cl (Yg Se s) k).2]/\5000<=(cl (Yg Se s) k).1/\(cl (Yg Se s) k).1<=35000 /\ -10<=(cl (Yg Se s) k).2/\(cl (Yg Se s) k).2<=10:=by
  intro k hk;obtain ⟨b,g,e,f⟩:=hm _ (Qqj hk);have e2:(Yg Se s)[k]? = some [Q4 b,Q4 g]:=by rw [Qq9 hk,e]
  simp only [cl,e2];exact ⟨trivial,f⟩
 have:=(PL h).1;exact ⟨fun k hk=>(hat k hk).1,fun k hk=>(hat k hk).2.1,fun k hk=>(hat k hk).2.2.1,fun k hk=>(hat k hk).2.2.2.1,fun k hk=>(hat k hk).2.2.2.2,QoW⟩
def Qa8 (v:Int) (r:List D):Int:=match r with
 |.int _ b::_=>if b<v then b else v
 |_=>v
def win (C:LL) (k t:Nat):LL:=(C.drop (k-t)).take (k+1-(k-t))
def Q7M (C:LL) (sp:Int) (k t:Nat):Int:=(win C k t).foldl Qa8 sp
theorem Qaq {C:LL} (hC:CellsOK C) {k t i:Nat} (hk:k<C.length) (hi:i<k+1-(k-t)):(win C k t)[i]? = some [Q4 (cl C (k-t+i)).1,Q4 (cl C (k-t+i)).2]:=by
 unfold win;rw [List.getElem?_take_of_lt hi,List.getElem?_drop,hC.row _ QoW]
theorem Q5G {C:LL} {k t:Nat} (hk:k<C.length):(win C k t).length=k+1-(k-t):=by
 unfold win;simp;omega
theorem Qba {C:LL} (hC:CellsOK C) {sp:Int} {k t:Nat} (hk:k<C.length) (d:10000<=sp) (c:sp<=25000):5000<=Q7M C sp k t/\Q7M C sp k t<=25000:=by
 have hm:∀ r∈win C k t,∃ b g:Int,r=[Q4 b,Q4 g]/\5000<=b:=by
  intro r hr;obtain ⟨i,hi,rfl⟩:=List.getElem_of_mem hr;have aj:=hi;rw [Q5G hk] at aj;have e:=Qaq hC hk aj;rw [Qq9 hi] at e;injection e with e
  exact ⟨_,_,e,hC.b0 _ QoW⟩
 unfold Q7M;revert hm;generalize win C k t=L;intro hm;have:∀ (L:LL) (v:Int),(∀ r∈L,∃ b g:Int,r=[Q4 b,Q4 g]/\5000<=b)->5000<=v->v<=25000->5000<=L.foldl Qa8 v/\L.foldl Qa8 v<=25000:=by
  intro L;induction L with
  |nil=>exact fun v _ a b=>⟨a,b⟩
  |cons r L ih=>
   intro v h a b;obtain ⟨x,g,rfl,hx⟩:=h _ (List.mem_cons_self ..);refine ih _ (fun r hr=>h r (List.mem_cons_of_mem _ hr)) ?_ ?_
   ·show 5000<=if x<v then x else v
    split <;> omega
   ·show (if x<v then x else v)<=25000;split <;> omega
 exact this L sp hm QoW c
section
variable {C:LL} (hC:CellsOK C) {nm:List UInt8} {sp ac br:Int} {t k:Nat} (ht:t<=40)
include hC ht
omit hC in
theorem Qfx (hk:k<=1000):(if (0:Int)<(wJ ((k:Int)-(t:Int))) then (wJ ((k:Int)-(t:Int))) else (0:Int))=((k-t:Nat):Int):=by
 rw [Q6 QoW QoW];split <;> omega
theorem QjL (hk:k<C.length):JH 400 C (k:Int) nm (t:Int) sp ac br (some:Int->oP Int)=some (Q7M C sp k t):=by
 have hl:=hC.len;unfold JH;rw [Qfx ht QoW,Qr QoW];have hs:slB C.length (some ((k-t:Nat):Int)) (some ((k+1:Nat):Int))=some (k-t,k+1):=by
  unfold slB;rw [show (decide ((0:Int)<=(some ((k-t:Nat):Int)).getD 0)&&(decide ((some ((k-t:Nat):Int)).getD 0<=(some ((k+1:Nat):Int)).getD (C.length:Int))&&decide ((some ((k+1:Nat):Int)).getD (C.length:Int)<=(C.length:Int))))=true by simp;omega];rfl
 rw [hs,Q0,show cut C (k-t,k+1)=win C k t from rfl];have hw:=Q5G (t:=t) hk;refine (Qt (r:=fun m h=>Wp 400 (win C k t) (((win C k t).length:Nat):Int) _ m (((win C k t).take h.toNat).foldl Qa8 sp) h) (N:=(win C k t).length) (fun m h hh=>?_) (fun m=>?_) (win C k t).length 400 0 QoW QoW)
 ·have e:=Qaq hC hk (show h<k+1-(k-t) by omega);simp only [Qq7];rw [Wp,Qc hh,Qd,e,YA e,List.foldl_append];simp -implicitDefEqProofs only [Q0,Qq4,Qq5,Q2,Xx,QJ,Qq8,Qq6,Qqb,Qqa,Qr (show h<=1000 by omega)];rfl
 ·simp only [Qq7];rw [Wp,Qi,Qq6,Qqx];rfl
theorem Qjy (hk:k<C.length):PR 400 C (k:Int) nm (t:Int) sp ac br (some:Int->oP Int)=some (Q7M C sp k t):=by
 have hl:=hC.len;have hw:=Q5G (t:=t) hk;unfold PR;rw [Qfx ht QoW];have:=Qt (r:=fun m h=>J0 400 C (k:Int) (fun a b c=>some a) m (((win C k t).take h.toNat).foldl Qa8 sp) (((k-t:Nat):Int)+h)) (N:=(win C k t).length) (e:=some (Q7M C sp k t)) (fun m h hh=>?_) (fun m=>?_) (win C k t).length 400 0 QoW QoW
 ·rw [show ((k-t:Nat):Int)+((0:Nat):Int)=((k-t:Nat):Int) by omega] at this;exact this
 ·have e:=Qaq hC hk (show h<k+1-(k-t) by omega);have e2:=hC.row (k-t+h) QoW;simp only [Qq7];rw [J0,QR QoZ,show ((k-t:Nat):Int)+(h:Int)=((k-t+h:Nat):Int) by omega,Qd,e2,YA e,List.foldl_append,Qr QoW,show ((k-t:Nat):Int)+((h+1:Nat):Int)=((k-t+h+1:Nat):Int) by omega];simp -implicitDefEqProofs only [Q0,Qq4,Qq5,Q2,Xx,QJ,Qq8,Qq6,Qqb,Qqa];rfl
 ·simp only [Qq7];rw [J0,Q8 QoZ,Qqx];rfl
end
def arr (f:Nat->Int) (n:Nat):LL:=(List.range n).map fun i=>[Q4 (f i)]
theorem YO {f:Nat->Int} {n:Nat}:(arr f n).length=n:=by simp [arr]
theorem G2 {f:Nat->Int} {n i:Nat} (h:i<n):(arr f n)[i]? = some [Q4 (f i)]:=by simp [arr,h]
theorem XL {f g:Nat->Int} {n:Nat} (h:∀ i,i<n->f i=g i):arr f n=arr g n:=by
 refine List.map_congr_left fun i hi=>?_
 rw [h i (by simpa using hi)]
theorem Qem {f:Nat->Int} {n i:Nat} {v:Int}:(arr f n).set i [Q4 v]=arr (fun j=>if j=i then v else f j) n:=by
 refine List.ext_getElem? fun j=>?_
 by_cases hj:j<n
 ·rw [G2 hj];by_cases h:i=j
  ·subst h;rw [List.getElem?_set_self (by rw [YO];exact hj),Qqd rfl]
  ·rw [List.getElem?_set_ne h,G2 hj,Qqg (fun e=>h e.symm)]
 ·rw [QqB (by simp [YO];omega),QqB (by simp [YO];omega)]
theorem CM {n:Nat}:List.replicate n [Q4 0]=arr (fun _=>0) n:=by
 refine List.ext_getElem? fun j=>?_
 by_cases hj:j<n
 ·rw [G2 hj];simp [hj]
 ·rw [QqB QoZ,QqB (by simp [YO];omega)]
def acc (ac g:Int):Int:=if 0<g then (if 50<ac-10*g then ac-10*g else 50) else ac
def brk (br g:Int):Int:=if g<0 then (if 50<br+10*g then br+10*g else 50) else br
theorem Q5g {ac g:Int} (a1:400<=ac) (a2:ac<=800) (g0 : -10<=g) (g1:g<=10):300<=acc ac g/\acc ac g<=800:=by
 unfold acc;split
 ·split <;> omega
 ·omega
theorem Q5m {br g:Int} (a1:400<=br) (a2:br<=800) (g0 : -10<=g) (g1:g<=10):300<=brk br g/\brk br g<=800:=by
 unfold brk;split
 ·split <;> omega
 ·omega
section
variable {nm:List UInt8} {b t sp ac br g:Int} {n:Nat}
theorem Qfd (a1:400<=ac) (a2:ac<=800) (g0 : -10<=g) (g1:g<=10):Mn n b g nm t sp ac br (some:Int->oP Int)=some (acc ac g):=by
 unfold Mn acc;rw [Q6 (x:=10*g) QoW QoW,Q6 (x:=ac-10*g) QoW QoW];by_cases h:0<g
 ·rw [QR (by simpa using h),Qqd h]
 ·rw [Q8 (by simpa using h),Qqg h]
theorem QgT (a1:400<=br) (a2:br<=800) (g0 : -10<=g) (g1:g<=10):Mk n b g nm t sp ac br (some:Int->oP Int)=some (brk br g):=by
 unfold Mk brk;rw [Q6 (x:=10*g) QoW QoW,Q6 (x:=br+10*g) QoW QoW];by_cases h:g<0
 ·rw [QR (by simpa using h),Qqd h]
 ·rw [Q8 (by simpa using h),Qqg h]
theorem QhP (a1:400<=ac) (a2:ac<=800) (g0 : -10<=g) (g1:g<=10):T5 n b g nm t sp ac br (some:Int->oP Int)=some (20000*acc ac g):=by
 have hr:=Q5g a1 a2 g0 g1;unfold T5;rw [Q6 (x:=10*g) QoW QoW,Q6 (x:=ac-10*g) QoW QoW];unfold acc at hr ⊢;by_cases h:0<g
 ·rw [Qqd h] at hr ⊢;rw [QR (by simpa using h),Q6 QoW QoW]
 ·rw [Qqg h] at hr ⊢;rw [Q8 (by simpa using h),Q6 QoW QoW]
theorem Qib (a1:400<=br) (a2:br<=800) (g0 : -10<=g) (g1:g<=10):HJ n b g nm t sp ac br (some:Int->oP Int)=some (20000*brk br g):=by
 have hr:=Q5m a1 a2 g0 g1;unfold HJ;rw [Q6 (x:=10*g) QoW QoW,Q6 (x:=br+10*g) QoW QoW];unfold brk at hr ⊢;by_cases h:g<0
 ·rw [Qqd h] at hr ⊢;rw [QR (by simpa using h),Q6 QoW QoW]
 ·rw [Qqg h] at hr ⊢;rw [Q8 (by simpa using h),Q6 QoW QoW]
end
structure Run where
 C:LL
 nm:List UInt8
 sp:Int
 ac:Int
 br:Int
 t:Nat
 st:Nat
 N:Nat
structure Run.OK (X:Run):Prop where
 hC:CellsOK X.C
 hk:StkN X.t X.sp X.ac X.br
 hN:X.C.length=X.st+X.N
 h2:2<=X.N
namespace Run
variable (X:Run)
def lm (b:Nat):Int:=Q7M X.C X.sp (X.st+b) X.t
def lo (b:Nat):Int:=if X.lm b<X.lm (b-1) then X.lm b else X.lm (b-1)
def V (b:Nat):Int:=X.lo b*X.lo b
def G (b:Nat):Int:=20000*acc X.ac (cl X.C (X.st+b)).2
def L (b:Nat):Int:=20000*brk X.br (cl X.C (X.st+b)).2
def F:Nat->Int
 |0=>0
 |b+1=>if F b+X.G b<X.V (b+1) then F b+X.G b else X.V (b+1)
def K:Nat->Int
 |0=>0
 |d+1=>if K d+X.L (X.N-(d+1))<X.F (X.N-(d+1)) then K d+X.L (X.N-(d+1)) else X.F (X.N-(d+1))
variable {X} (h:X.OK)
include h
theorem QcS {b:Nat} (hb:b<X.N):5000<=X.lm b/\X.lm b<=25000:=Qba h.hC (by have:=h.hN;omega) h.hk.s1 h.hk.s2
theorem QaJ {b:Nat} (hb:b<X.N):5000<=X.lo b/\X.lo b<=25000:=by
 have a:=QcS h hb;have h2:=QcS h (b:=b-1) QoW;unfold lo;split <;> omega
theorem Qe9 {b:Nat} (hb:b<X.N):25000000<=X.V b/\X.V b<=625000000:=by
 obtain ⟨a,h2⟩:=QaJ h hb;have:=Q52 QoX a;have:=Q52 QoW h2;unfold V;omega
theorem Qdl {b:Nat} (hb:b<X.N):6000000<=X.G b/\X.G b<=16000000:=by
 have hN:=h.hN;have:=Q5g h.hk.a1 h.hk.a2 (h.hC.g0 (X.st+b) QoW) (h.hC.g1 (X.st+b) QoW);unfold G;omega
theorem Qce {b:Nat} (hb:b<X.N):6000000<=X.L b/\X.L b<=16000000:=by
 have hN:=h.hN;have:=Q5m h.hk.b1 h.hk.b2 (h.hC.g0 (X.st+b) QoW) (h.hC.g1 (X.st+b) QoW);unfold L;omega
theorem Qbr:∀ b,b<X.N->0<=X.F b/\X.F b<=625000000/\(1<=b->6000000<=X.F b)
 |0,_=>by rw [F];omega
 |b+1,hb=>by
  have a:=Qbr b QoW;have h2:=Qe9 h hb;have c:=Qdl h (b:=b) QoW;rw [F];split <;> omega
theorem Q4S:∀ d,d<=X.N->0<=X.K d/\X.K d<=625000000/\(1<=d->d<X.N->6000000<=X.K d)
 |0,_=>by rw [K];omega
 |d+1,hd=>by
  have a:=Q4S d QoW;have h2:=Qbr h (X.N-(d+1)) QoW;have c:=Qce h (b:=X.N-(d+1)) QoW;rw [K];split <;> omega
theorem QhO:X.K X.N=0:=by
 have h2:=h.h2;obtain ⟨d,hd⟩:∃ d,X.N=d+1:=⟨X.N-1,QoW⟩;have a:=Q4S h d QoW;have c:=Qce h (b:=0) QoW;rw [hd,K,show X.N-(d+1)=0 by omega,F,Qqg QoW]
theorem row {b:Nat} (hb:b<X.N):X.C[X.st+b]? = some [Q4 (cl X.C (X.st+b)).1,Q4 (cl X.C (X.st+b)).2]:=h.hC.row _ (by have:=h.hN;omega)
end Run
theorem Qb1 {f:Nat->Int} {n i:Nat} {v:Int} (h:i<n) {R:Type} (K:LL->oP R):gb true (inB n (i:Int)) () (fun _=>gb true ((arr f n)[(Int.toNat (i:Int))]?) [] fun r=>K ((arr f n).set (Int.toNat (i:Int)) (List.set r 0 (D.int .i64 v))))=K (arr (fun j=>if j=i then v else f j) n):=by
 rw [XR QoW QoW,Q0,Qq7,G2 h,Q0];show K ((arr f n).set i [Q4 v])=_;rw [Qem]
theorem Q8v {f:Nat->Int} {n i:Nat} (h:i<n) {R:Type} (K:Int->oP R):gb true (inB n (i:Int)) () (fun _=>gb true ((arr f n)[(Int.toNat (i:Int))]?) [] fun r=>gb true (r[0]?) oF fun c=>gb true (pIw c) 0 fun x=>K x)=K (f i):=by
 rw [XR QoW QoW,Q0,Qq7,G2 h];rfl
theorem wI {a b:Int} (h:a=b) (c : -1000000<=b) (d:b<=1000000000):wJ a=b:=by rw [h,Q6 QoW QoW]
namespace Run
variable {X:Run} (h:X.OK)
include h
def W (X:Run):LL:=arr (fun j=>X.K (X.N-j)) (X.N+1)
theorem sqA:JL 400 X.C (X.st:Int) X.nm (X.t:Int) X.sp X.ac X.br (some:LL->oP LL)=some X.W:=by
 have hN:=h.hN;have h2:=h.h2;have hl:=h.hC.len;have t2:=h.hk.t2;have an:wJ (wJ ((X.C.length:Int)-(X.st:Int))+1)=((X.N+1:Nat):Int):=by
  rw [Q6 (x:=(X.C.length:Int)-(X.st:Int)) QoW QoW,Q6 QoW QoW];omega
 unfold JL;rw [an,show (bif decide ((0:Int)<=((X.N+1:Nat):Int))&&decide (((X.N+1:Nat):Int)<=((X.N+1:Nat):Int)) then some () else none)=some () by rw [QR QoZ],Q0,Qq7,XE QoW,Q0,QjL h.hC QoW QoW,Q0,CM,Qr QoW];have k:∀ k0:Int->Int->Bool->LL->oP LL,Yn 400 X.C (X.st:Int) (X.C.length:Int) X.nm (X.t:Int) X.sp X.ac X.br k0 400 (Q7M X.C X.sp X.st X.t) ((X.st+1:Nat):Int) (arr (fun _=>0) (X.N+1))=k0 (X.lm (X.N-1)) (X.C.length:Int) false (arr (fun j=>if j<=X.N-1 then X.F j else 0) (X.N+1)):=by
  intro k0;have:=Qt (r:=fun m i=>Yn 400 X.C (X.st:Int) (X.C.length:Int) X.nm (X.t:Int) X.sp X.ac X.br k0 m (X.lm i.toNat) ((X.st+1+i.toNat:Nat):Int) (arr (fun j=>if j<=i.toNat then X.F j else 0) (X.N+1))) (N:=X.N-1) (e:=k0 (X.lm (X.N-1)) (X.C.length:Int) false (arr (fun j=>if j<=X.N-1 then X.F j else 0) (X.N+1))) (fun m i hi=>?_) (fun m=>?_) (X.N-1) 400 0 QoW QoW
  ·have e:arr (fun j=>if j<=(((0:Nat):Int)).toNat then X.F j else 0) (X.N+1)=arr (fun _=>0) (X.N+1):=XL fun j hj=>by
    split
    ·rename_i d;have d:j=0:=by simpa using d
     subst d;rw [F]
    ·rfl
   rw [e] at this;exact this
  ·simp only [Qq7];have f:=h.hC.g0 (X.st+i) QoW;have g:=h.hC.g1 (X.st+i) QoW;have hr:=row h (b:=i) QoW;have aq:=QaJ h (b:=i+1) QoW;have hV:=Qe9 h (b:=i+1) QoW;have hF:=Qbr h i QoW;have hG:=Qdl h (b:=i) QoW;rw [Yn,Qc (show X.st+1+i<X.C.length by omega),Qq8,QjL h.hC QoW QoW,Q0,wI (show ((X.st+1+i:Nat):Int)-1=((X.st+i:Nat):Int) by omega) QoW QoW,wI (show ((X.st+i:Nat):Int)-(X.st:Int)=(i:Int) by omega) QoW QoW,YO,Q8v QoW,Qd,hr,wI (show ((X.st+1+i:Nat):Int)-(X.st:Int)=((i+1:Nat):Int) by omega) QoW QoW];simp -implicitDefEqProofs only [Q0,Qq4,Qq5,Q2,Xx,QJ,Qq8,Qq6,Qqb,Qqa,QhP h.hk.a1 h.hk.a2 f g];rw [Qb1 QoW];rw [Qr QoW,show Q7M X.C X.sp (X.st+1+i) X.t=X.lm (i+1) by unfold lm;rw [Nat.add_assoc,Nat.add_comm 1 i],show X.st+1+i+1=X.st+1+(i+1) by omega];refine congrArg _ (XL fun j hj=>?_);by_cases ak:j=i+1
   ·subst ak;have e1:(if X.lm (i+1)<X.lm i then X.lm (i+1) else X.lm i)=X.lo (i+1):=rfl;rw [Qqd rfl,Qqd (Qql i),e1,wI (a:=X.lo (i+1)*X.lo (i+1)) (b:=X.V (i+1)) rfl QoW QoW,wI (a:=X.F i+20000*acc X.ac (cl X.C (X.st+i)).2) (b:=X.F i+X.G i) rfl QoW QoW,Qqd (Qql (i+1)),F]
   ·rw [Qqg ak];by_cases c:j<=i
    ·rw [Qqd c,Qqd QoW]
    ·rw [Qqg c,Qqg QoW]
  ·simp only [Qq7];rw [show X.st+1+(X.N-1)=X.C.length by omega,Yn,Qi,Qq6]
 rw [k,wI (show (X.C.length:Int)-1=((X.st+X.N-1:Nat):Int) by omega) QoW QoW];have:=Qt (r:=fun m i=>YZ 400 X.C (X.st:Int) X.nm (X.t:Int) X.sp X.ac X.br (fun _ _ l=>some l) m ((X.st+X.N-1-i.toNat:Nat):Int) (arr (fun j=>if X.N-j<=i.toNat then X.K (X.N-j) else X.F j) (X.N+1))) (N:=X.N-1) (e:=some X.W) (fun m i hi=>?_) (fun m=>?_) (X.N-1) 400 0 QoW QoW
 ·have e:arr (fun j=>if X.N-j<=(((0:Nat):Int)).toNat then X.K (X.N-j) else X.F j) (X.N+1)=arr (fun j=>if j<=X.N-1 then X.F j else 0) (X.N+1):=XL fun j hj=>by
   by_cases ao:j=X.N
   ·subst ao;rw [Qqd QoY,Qqg QoW,Nat.sub_self,K]
   ·rw [Qqg QoZ,Qqd QoW]
  rw [e] at this;exact this
 ·simp only [Qq7];obtain ⟨b,hb⟩:∃ b,b+1=X.N-i:=⟨X.N-i-1,QoW⟩;have o:1<=b:=QoW
  have f:=h.hC.g0 (X.st+b) QoW;have g:=h.hC.g1 (X.st+b) QoW;have hr:=row h (b:=b) QoW;have hK:=Q4S h i QoW;have hL:=Qce h (b:=b) QoW;rw [YZ,show X.st+X.N-1-i=X.st+b by omega,QR QoZ,wI (show ((X.st+b:Nat):Int)-(X.st:Int)=(b:Int) by omega) QoW QoW,YO,Q8v QoW,Qr QoW,wI (show ((X.st+b+1:Nat):Int)-(X.st:Int)=((b+1:Nat):Int) by omega) QoW QoW,Q8v QoW,Qd,hr];simp -implicitDefEqProofs only [Q0,Qq4,Qq5,Q2,Xx,QJ,Qq8,Qq6,Qqb,Qqa,Qib h.hk.b1 h.hk.b2 f g];rw [Qb1 QoW,wI (show ((X.st+b:Nat):Int)-1=((X.st+X.N-1-(i+1):Nat):Int) by omega) QoW QoW];refine congrArg _ (XL fun j hj=>?_);by_cases aj:j=b
  ·subst aj;rw [Qqd rfl,Qqg (show ¬ X.N-j<=i by omega),Qqd (show X.N-(j+1)<=i by omega),Qqd (show X.N-j<=i+1 by omega),show X.N-j=i+1 by omega,K,show X.N-(j+1)=i by omega,show X.N-(i+1)=j by omega,wI (a:=X.K i+20000*brk X.br (cl X.C (X.st+j)).2) (b:=X.K i+X.L j) rfl QoW QoW]
  ·rw [Qqg aj];by_cases c:X.N-j<=i
   ·rw [Qqd c,Qqd QoW]
   ·rw [Qqg c,Qqg QoW]
 ·simp only [Qq7];rw [YZ,show X.st+X.N-1-(X.N-1)=X.st by omega,Q8 QoY];refine congrArg some (XL fun j hj=>?_);by_cases n:j=0
  ·subst n;rw [Qqg QoW,F,Nat.sub_zero,QhO h]
  ·rw [Qqd QoW]
end Run
theorem Ju {k:Nat} (a:k<=1000) (b:1<=k):wJ ((k:Int)-1)=((k-1:Nat):Int):=by grind [Q6]
section
variable {R:Type} {Sk Ro Ls Ch Tu Sy De:LL} {per:Int} {n:Nat}
theorem Q5L {mn mx:Int} (a:0<=mn) (b:mn<=mx) (h2:mx<mn+per) (c:mn<=1000) (p1:per<=300) (K:Bool->oP R):K8 n per Sk Ro Ls Ch Tu Sy De mn mx K=K true:=by
 grind [K8,decide,Q6]
theorem Qi5 {k i:Nat} {r:List D} (h:Tj Ls k i r) (hl:Ls.length<=1000) (hr:∀ nm w rides,Ls[k]? = some [D.str nm,Q4 0,Q4 w,D.sl 4 rides]->rides.length<=1000) (K:Bool->oP R):JA n per Sk Ro Ls Ch Tu Sy De (k:Int) (i:Int) K=K true:=by
 obtain ⟨nm,w,rides,a,h2⟩:=h;have hk:=(Qqc.1 a).1;have hi:=(Qqc.1 h2).1;have hr:=hr _ _ _ a;unfold JA;rw [Ju hl QoW,Q4H QoW QoW,Q0,Qd,a];simp -implicitDefEqProofs only [Q0,Qq4,Qq5,Q2,Xx,QJ,Qq8,Qq6,Qqb,Qqa,Ju hr QoW,Q4H (show (0:Int)<=(i:Int) by omega) (show (i:Int)<=((rides.length-1:Nat):Int) by omega)]
theorem Qaz {G:Geo} {x y:Int} {s:LL} (a:RtOK G s x y) (K:Int->oP R):Ti n s 0 K=K x:=by
 obtain ⟨d,b⟩:=a.fst
 simp_all [Ti,Q0,Qq4,Qq5,Q2,Xx,QJ,Qq8,Qq6,Qqb,Qqa]
theorem Qdg {G:Geo} {x y:Int} {s:LL} (a:RtOK G s x y) (K:Int->oP R):PX n s 0 K=K y:=by
 obtain ⟨d,b⟩:=a.lst;have l24:=a.l24;unfold PX;rw [Q6 (x:=(s.length:Int)-0) QoW QoW,Q6 QoW QoW,Int.sub_zero,b];rfl
theorem CR {k i:Nat} {rt:Nat} {ex mn mx:Int} {s:LL} (h:Tj Ls k i [Q4 rt,Q4 ex,Q4 mn,Q4 mx]) (a:Ro[rt]? = some [D.sl 2 s,Q4 0]) (K:D->D->oP R):XX n per Sk Ro Ls Ch Tu Sy De (k:Int) (i:Int) K=K (D.sl 2 s) (Q4 0):=by
 obtain ⟨nm,w,rides,b,h2⟩:=h
 simp_all [XX,Q0,Qq4,Qq5,Q2,Xx,QJ,Qq8,Qq6,Qqb,Qqa,Qd]
theorem Qjc {i:Nat} (hi:i<8):NI 400 (nmN i) (some:Bool->oP Bool)=some true:=by
 obtain rfl | rfl | rfl | rfl | rfl | rfl | rfl | rfl:i=0\/i=1\/i=2\/i=3\/i=4\/i=5\/i=6\/i=7:=QoW
 all_goals rfl
theorem QgN (hs:Q14 Sk):Gq 400 per Sk Ro Ls Ch Tu Sy De 0 (some:Int->oP Int)=some 0:=by
 obtain ⟨a,b,c,d,rfl,t1,t2,s1,s2,a1,a2,b1,b2⟩:=hs;have h:Gq 400 per [[D.str (bs [88]),Q4 a,Q4 b,Q4 c,Q4 d]] Ro Ls Ch Tu Sy De 0 (some:Int->oP Int)=gb true (XV 400 (bs [88]) a b c d some) false (fun r=>bif !r then some 4 else some 0):=by kernel_rfl
 have ac:XV 400 (bs [88]) a b c d (some:Bool->oP Bool)=some true:=by
  unfold XV;simp -implicitDefEqProofs only [Q0,Qq4,Qq5,Q2,Xx,QJ,Qq8,Qq6,Qqb,Qqa,Q4F t1 (show a<=40 by omega),Q4F (show 1000<=b by omega) (show b<=100000 by omega),Q4F (show 100<=c by omega) (show c<=2000 by omega),Q4F (show 100<=d by omega) (show d<=2000 by omega)]
 rw [h,ac];rfl
end
section
variable {R:Type} {G:Geo} {Sk Ro Ls Ch Tu Sy De:LL} {per:Int} (h:PlanR G per Sk Ro Ls Ch Tu Sy De)
include h
theorem Qgw {k:Nat}:∀ nm w rides,Ls[k]? = some [D.str nm,Q4 0,Q4 w,D.sl 4 rides]->rides.length<=1000:=by
 intro nm w rides e;obtain ⟨w',ac,e',hr,_⟩:=DJ h.good (Qqc.1 e).1
 grind
theorem Q7p {k i:Nat} {r:List D} (hr:Tj Ls k i r) (K:Bool->oP R):JA 400 per Sk Ro Ls Ch Tu Sy De (k:Int) (i:Int) K=K true:=by
 have:=h.l1
 grind [Qi5,Qgw]
theorem Qiw:LU 400 per Sk Ro Ls Ch Tu Sy De (some:Bool->oP Bool)=some false:=by
 obtain ⟨_,_,_,_,aj,_⟩:=h.sk;obtain ⟨T,hT,_,_,_,ak⟩:=h.tu;have l1:=h.l1;have l2:=h.rl;have a:=h.chl;have c:=h.syl;have d:=h.del;have lk:Sk.length=1:=by rw [aj];rfl
 have lt:Tu.length<=20:=by rw [hT];simpa using ak
 have ac:∀ {k:Nat} {b:Int},(k:Int)<=b->decide ((k:Int)>b)=false:=fun h=>by simpa using h
 unfold LU;simp -implicitDefEqProofs only [ac (show (Sk.length:Int)<=8 by omega),ac (show (Ro.length:Int)<=48 by omega),ac (show (Ls.length:Int)<=16 by omega),ac (show (Ch.length:Int)<=32 by omega),ac (show (Tu.length:Int)<=32 by omega),ac (show (Sy.length:Int)<=32 by omega),ac (show (De.length:Int)<=32 by omega),Qq6];refine Qt (r:=fun m h=>G3 400 Ls _ _ m h) (N:=Ls.length) (fun m k hk=>?_) (fun m=>?_) Ls.length 400 0 QoW QoW
 ·obtain ⟨w,rides,e,hr,_⟩:=DJ h.good hk;rw [G3,Qc hk,Qd,e];simp -implicitDefEqProofs only [Q0,Qq4,Qq5,Q2,Xx,QJ,Qq8,Qq6,Qqb,Qqa,ac (show (rides.length:Int)<=12 by omega),Qr (show k<=1000 by omega)]
 ·rw [G3,Qi,Qq6]
theorem QhM {k:Nat} (hk:k<Ls.length):KH 400 G.St G.Pt G.Se G.Li per Sk Ro Ls Ch Tu Sy De (k:Int) (some:Int->oP Int)=some 0:=by
 have l1:=h.l1;have p1:=h.p1;have p0:=h.p0;obtain ⟨a,v,c,d,ar,aq⟩:=h.sk;obtain ⟨w,rides,e,w0,t,ac⟩:=h.good.ls k _ (Qq9 hk);have e:=(Qq9 hk).trans (congrArg some e);have a2:rides.length=1\/rides.length=2:=by rcases ac with ⟨_,_,_,rfl,_⟩ | ⟨_,_,_,_,_,rfl,_⟩;exact .inl rfl;exact .inr rfl
 have f:Q1 Sk (0:Int)=some [D.str (bs [88]),Q4 a,Q4 v,Q4 c,Q4 d]:=by rw [ar];rfl
 have aw:Sk.length=1:=by rw [ar];rfl
 unfold KH;rw [Qd,e];simp -implicitDefEqProofs only [Q0,Qq4,Qq5,Q2,Xx,QJ,Qq8,Qq6,Qqb,Qqa,Qjc (show k<8 by omega)];refine (Qt (r:=fun m h=>Wq 400 (k:Int) Ls (D.str (nmN k)) _ _ m h) (N:=k) (fun m i hi=>?_) (fun m=>?_) k 400 0 QoW QoW)
 ·obtain ⟨w',au,e',_⟩:=DJ h.good (show i<Ls.length by omega);rw [Wq,Qc hi,Qd,e'];simp -implicitDefEqProofs only [Q0,Qq4,Qq5,Q2,Xx,QJ,Qq8,Qq6,Qqb,Qqa,Qgm (show i<8 by omega) (show k<8 by omega) (show i≠k by omega),Qr (show i<=1000 by omega)]
 ·rw [Wq,Qi,Qq6,aw,Ju QoX QoX];simp -implicitDefEqProofs only [Q0,Qq4,Qq5,Q2,Xx,QJ,Qq8,Qq6,Qqb,Qqa,Q4H (show (0:Int)<=0 by omega) (show (0:Int)<=((1-1:Nat):Int) by decide),Q4H w0 (show w<=1048576 by omega),show ((rides.length:Int) == 0)=false by simp;intro hx;simp [hx] at a2];refine (Qt (r:=fun m h=>Wi 400 G.St G.Pt G.Se G.Li per Sk Ro Ls Ch Tu Sy De (Q4 0) (D.sl 4 rides) _ _ m h) (N:=rides.length) (fun m i hi=>?_) (fun m=>?_) rides.length 400 0 QoW QoW)
  ·obtain ⟨r,x,y,b,hr,hR,hb,aj⟩:∃ r x y b,rides[i]? = some r/\PB G Ro r x y b/\(i+1=rides.length->b=true)/\(∀ j,j+1=i->∃ r' x' b',rides[j]? = some r'/\PB G Ro r' x' x b'):=by
    rcases ac with ⟨r,x,y,rfl,h⟩ | ⟨r,r',x,y,z,rfl,h,h'⟩
    ·have hi:i=0:=by simpa using hi
     subst hi;exact ⟨r,x,y,true,rfl,h,fun _=>rfl,fun j hj=>by omega⟩
    ·obtain rfl | rfl:i=0\/i=1:=by simp at hi;omega
     ·exact ⟨r,x,y,false,rfl,h,fun h=>by simp at h,fun j hj=>by omega⟩
     ·refine ⟨r',y,z,true,rfl,h',fun _=>rfl,fun j hj=>?_⟩;have hj:j=0:=QoW
      subst hj;exact ⟨r,x,false,rfl,h⟩
   obtain ⟨rt,ex,mn,mx,s,rfl,an,hs,⟨l,u⟩,⟨o,p,m2,m3⟩,hlast⟩:=hR;have a8:rt<Ro.length:=(Qqc.1 an).1;have l2:=h.rl;have hq:∀ z:Bool,(bif ((i:Int) == ((rides.length-1:Nat):Int)) then (bif (mn != (0:Int)) then true else (mx != (0:Int))) else false)=false:=by
    intro z;by_cases q:i+1=rides.length
    ·obtain ⟨rfl,rfl⟩:=hlast (hb q);rw [show ((0:Int) != 0)=false from rfl];cases ((i:Int) == ((rides.length-1:Nat):Int)) <;> rfl
    ·rw [show ((i:Int) == ((rides.length-1:Nat):Int))=false by simp;omega];rfl
   have a3:∀ {g:Bool} {β:Type} {a z:β} {k:β->oP Int},gb g (some a) z k=k a:=fun {g β a z k}=>rfl
   rw [Wi,QJ,Q0,Qc hi];simp -implicitDefEqProofs only [Q0,Qq4,Qq5,Q2,Xx,QJ,Qq8,Qq6,Qqb,Qqa,Qd,hr,Ju (show rides.length<=1000 by omega) (show 1<=rides.length by omega),Ju (show Ro.length<=1000 by omega) (show 1<=Ro.length by omega),Q6 (x:=per-1) QoW QoW,Q4H (show (0:Int)<=(rt:Int) by omega) (show (rt:Int)<=((Ro.length-1:Nat):Int) by omega),Q4H l (show ex<=per-1 by omega),Q5L (Sk:=Sk) (Ro:=Ro) (Ls:=Ls) (Ch:=Ch) (Tu:=Tu) (Sy:=Sy) (De:=De) (n:=400) o p (show mx<mn+per by omega) QoW p1,hq true,an,f,Qa3 (hs.f h.ok) aq,show ((0:Int) != 0)=false from rfl];cases i with
   |zero=>
    rw [show decide (((0:Nat):Int)>0)=false from rfl];simp only [gbF,Qq6];rfl
   |succ j=>
    obtain ⟨r',x',b',ay,az⟩:=aj j rfl;obtain ⟨a7,a4,a6,a9,s',rfl,ao,ax,_⟩:=az;simp -implicitDefEqProofs only [Q0,Qq4,Qq5,Q2,Xx,QJ,Qq8,Qq6,Qqb,Qqa,show decide (((j+1:Nat):Int)>0)=true by simp,Qaz hs,show wJ (((j+1:Nat):Int)-1)=(j:Int) by rw [Q6 QoW QoW];omega,Qd,ay,ao,Qdg ax,show (x != x)=false by simp,Qr (show j+1<=1000 by omega)]
  ·rw [Wi,QJ,Q0,Qi,Qq6]
end
section
variable {R:Type} {G:Geo} {Sk Ro Ls Ch Tu Sy De:LL} {per:Int} (h:PlanR G per Sk Ro Ls Ch Tu Sy De)
include h
theorem Qc9 {k0:Int->oP R} {k1:Int->Bool->oP R}:Z6 400 G.St G.Pt G.Se G.Li per Sk Ro Ls Ch Tu Sy De k0 k1 400 0=k1 (Ch.length:Int) false:=by
 have l2:=h.chl;have p1:=h.p1;refine Qt (r:=fun m h=>Z6 400 G.St G.Pt G.Se G.Li per Sk Ro Ls Ch Tu Sy De _ _ m h) (N:=Ch.length) (fun m k hk=>?_) (fun m=>?_) Ch.length 400 0 QoW QoW
 ·obtain ⟨f,fr,t,tr,mn,mx,w,r,r',x,y,x',y',b,b',i,e,hr,ac,hR,ao,ax,⟨a,j,c,d⟩,⟨w0,l⟩,⟨n,a1,c1,d1,g1⟩,⟨o,a2,p,q,g⟩,hi⟩:=h.ch _ (Qqj hk);have hb:=Q7p (R:=Bool) h hr;have aq:=Q7p (R:=Bool) h ac;obtain ⟨rt,ex,rn,rx,s,rfl,an,hs,_⟩:=hR;obtain ⟨au,ar,ay,aw,s',rfl,aj,ak,_⟩:=ao;rw [Z6,Qc hk,Qd,Qq9 hk,e];simp -implicitDefEqProofs only [Q0,Qq4,Qq5,Q2,Xx,QJ,Qq8,Qq6,Qqb,Qqa,Ht,hb,aq,Q5L a c d (show mn<=1000 by omega) p1,Q4H w0 (show w<=1048576 by omega),show ((f:Int) == (t:Int))=false by simp;omega,CR hr an,CR ac aj,Qdg hs,Qaz ak,g1,g,show decide (i<0)=false by simp;omega,show (i != i)=false by simp,show ((0:Int) != 0)=false from rfl,Qr (show k<=1000 by omega)]
 ·rw [Z6,Qi,Qq6]
theorem Qgz {k0:Int->oP R} {k1:Int->Bool->oP R}:Z0 400 per Sk Ro Ls Ch Tu Sy De k0 k1 400 0=k1 (Tu.length:Int) false:=by
 obtain ⟨T,hT,t1,t2,d,t4⟩:=h.tu;have hl:Tu.length=T.length:=by rw [hT];simp
 have p0:=h.p0;have p1:=h.p1;have l1:=h.l1;refine Qt (r:=fun m h=>Z0 400 per Sk Ro Ls Ch Tu Sy De _ _ m h) (N:=Tu.length) (fun m k hk=>?_) (fun m=>?_) Tu.length 400 0 QoW QoW
 ·have ac:k<T.length:=QoW
  have at':∀ j (hj:j<T.length),Tu[j]? = some (tuR T[j]):=fun j hj=>by rw [hT,Qqq,Qq9 hj];rfl
  obtain ⟨u1,u2,u3,u4,e,u6,nm,w,rides,r,r',x,y,z,b,b',e1,e2,f,e4,c,hR,au⟩:=t1 _ (Qqj ac);obtain ⟨rt,ex,rn,rx,s,rfl,ar,hs,_⟩:=hR;obtain ⟨a3,az,a5,a4,s',rfl,ak,ao,_⟩:=au;have g:=CR (R:=D×D) (n:=400) (per:=per) (Sk:=Sk) (Ch:=Ch) (Tu:=Tu) (Sy:=Sy) (De:=De) (Ro:=Ro) ⟨nm,w,rides,e1,e2⟩ ar;have a:=CR (R:=D×D) (n:=400) (per:=per) (Sk:=Sk) (Ch:=Ch) (Tu:=Tu) (Sy:=Sy) (De:=De) (Ro:=Ro) c ak;obtain ⟨a6,w',an,l,e6⟩:=c;have a:XX 400 per Sk Ro Ls Ch Tu Sy De (T[k].2.1:Int) 0 Tu2=some (D.sl 2 s',Q4 0):=a _;have aj:∀ t∈T.take k,(t.1:Int)≠(T[k].1:Int)/\(t.2.1:Int)≠(T[k].2.1:Int):=by
   intro t ht;have q:=M9 t2 (i:=k) (by simpa using ac) t.1 (by rw [<- List.map_take];exact List.mem_map_of_mem ht);have h2:=M9 d (i:=k) (by simpa using ac) t.2.1 (by rw [<- List.map_take];exact List.mem_map_of_mem ht);rw [List.getElem_map] at q h2;exact ⟨QoW,QoW⟩
  have aq:KL 400 per Sk Ro Ls Ch Tu Sy De (k:Int) (some:Int->oP Int)=some 0:=by
   unfold KL;rw [Qd,at' k ac];simp -implicitDefEqProofs only [Q0,Qq4,Qq5,Q2,Xx,QJ,Qq8,Qq6,Qqb,Qqa,tuR,Ju (show Ls.length<=1000 by omega) (show 1<=Ls.length by omega),Q4H (show (0:Int)<=(T[k].1:Int) by omega) (show (T[k].1:Int)<=((Ls.length-1:Nat):Int) by omega),Q4H (show (0:Int)<=(T[k].2.1:Int) by omega) (show (T[k].2.1:Int)<=((Ls.length-1:Nat):Int) by omega),Q5L (Sk:=Sk) (Ro:=Ro) (Ls:=Ls) (Ch:=Ch) (Tu:=Tu) (Sy:=Sy) (De:=De) (n:=400) (show 0<=T[k].2.2.1 by omega) e (show T[k].2.2.2<T[k].2.2.1+per by omega) QoW p1];refine (Qt (r:=fun m h=>Wr 400 (k:Int) Tu (Q4 (T[k].1:Nat)) (Q4 (T[k].2.1:Nat)) _ _ m h) (N:=k) (fun m i hi=>?_) (fun m=>?_) k 400 0 QoW QoW)
   ·obtain ⟨u,v⟩:=aj T[i] (by rw [List.mem_take_iff_getElem];exact ⟨i,QoW,rfl⟩);rw [Wr,Qc hi,Qd,at' i QoW];simp -implicitDefEqProofs only [Q0,Qq4,Qq5,Q2,Xx,QJ,Qq8,Qq6,Qqb,Qqa,tuR,show ((T[i].1:Int) == (T[k].1:Int))=false by simpa using u,show ((T[i].2.1:Int) == (T[k].2.1:Int))=false by simpa using v,Qr (show i<=1000 by omega)]
   ·rw [Wr,Qi,Qq6,Qd,e1];simp -implicitDefEqProofs only [Q0,Qq4,Qq5,Q2,Xx,QJ,Qq8,Qq6,Qqb,Qqa,Qd,l,Ju (show rides.length<=1000 by omega) f,g,a,Qdg hs,Qaz ao,show (y != y)=false by simp,show ((0:Int) != 0)=false from rfl]
  rw [Z0,Qc hk,Qq8,aq,Q0,Q8 (by rfl),Qr QoW]
 ·rw [Z0,Qi,Qq6]
theorem QgC {k0:oP R} {k1:Int->Bool->oP R}:YW 400 per Sk Ro Ls Ch Tu Sy De k0 k1 400 0=k1 (Sy.length:Int) false:=by
 have l2:=h.syl;have l0:=h.l0;have p1:=h.p1;refine Qt (r:=fun m h=>YW 400 per Sk Ro Ls Ch Tu Sy De _ _ m h) (N:=Sy.length) (fun m k hk=>?_) (fun m=>?_) Sy.length 400 0 QoW QoW
 ·obtain ⟨o,e,o0,o1,h2⟩:=h.sy _ (Qqj hk);obtain ⟨r,hr⟩:=Q6D h (k:=0) QoW;obtain ⟨r',ac⟩:=Q6D h (k:=1) QoW;have e1:=Q7p (R:=Bool) h hr some;have e2:=Q7p (R:=Bool) h ac some;rw [YW,Qc hk,Qd,Qq9 hk,e];simp -implicitDefEqProofs only [Q0,Qq4,Qq5,Q2,Xx,QJ,Qq8,Qq6,Qqb,Qqa,show JA 400 per Sk Ro Ls Ch Tu Sy De 0 0 (some:Bool->oP Bool)=some true from e1,show JA 400 per Sk Ro Ls Ch Tu Sy De 1 0 (some:Bool->oP Bool)=some true from e2,show ((0:Int) == 1)=false from rfl,Q6 (x:=per-1) QoW QoW,Q4H o0 (show o<=per-1 by omega),Qr (show k<=1000 by omega)]
 ·rw [YW,Qi,Qq6]
theorem Qb9 {k0:oP R} {k1:Int->Bool->oP R}:Z2 400 G.St De k0 k1 400 0=k1 (De.length:Int) false:=by
 have l2:=h.del;have hN:=h.ok.hN;refine Qt (r:=fun m h=>Z2 400 G.St De _ _ m h) (N:=De.length) (fun m k hk=>?_) (fun m=>?_) De.length 400 0 QoW QoW
 ·obtain ⟨f,t,w,e,⟨a,c⟩,⟨b,t1⟩,ac,w0,d⟩:=h.de _ (Qqj hk);rw [Z2,Qc hk,Qd,Qq9 hk,e];simp -implicitDefEqProofs only [Q0,Qq4,Qq5,Q2,Xx,QJ,Qq8,Qq6,Qqb,Qqa,h.ok.st,Q6 (x:=(G.N:Int)-1) QoW QoW,Q4H a (show f<=(G.N:Int)-1 by omega),Q4H b (show t<=(G.N:Int)-1 by omega),Q4H w0 (show w<=1048576 by omega),show (f == t)=false by simpa using ac,Qr (show k<=1000 by omega)]
 ·rw [Z2,Qi,Qq6]
theorem Qis:Um 400 G.St G.Pt G.Se G.Li per Sk Ro Ls Ch Tu Sy De (some:Int->oP Int)=some 0:=by
 have p0:=h.p0;have p1:=h.p1;have l1:=h.l1;have l2:=h.rl;obtain ⟨_,_,_,_,ac,_⟩:=h.sk;have aj:Sk.length=1:=by rw [ac];rfl
 have e1:JY 400 G.St G.Pt G.Se G.Li (some:Int->oP Int)=some 0:=VT h.ok.ref;unfold Um;simp -implicitDefEqProofs only [Q0,Qq4,Qq5,Q2,Xx,QJ,Qq8,Qq6,Qqb,Qqa,e1,Qiw h,Q4H (show 2<=per by omega) (show per<=7200 by omega),show ((0:Int) != 0)=false from rfl];refine Qt (r:=fun m h=>Wm 400 per Sk Ro Ls Ch Tu Sy De _ _ m h) (N:=Sk.length) (fun m k hk=>?_) (fun m=>?_) Sk.length 400 0 QoW QoW
 ·obtain rfl:k=0:=QoW
  rw [Wm,Qc hk,Qq8,show ((0:Nat):Int)=0 from rfl,QgN h.sk,Q0,Q8 (by rfl)];rfl
 rw [Wm,Qi,Qq6];refine Qt (r:=fun m h=>Wh 400 G.St G.Pt G.Se G.Li Ro _ _ m h) (N:=Ro.length) (fun m k hk=>?_) (fun m=>?_) Ro.length 400 0 QoW QoW
 ·obtain ⟨s,x,y,e,hs⟩:=h.good.ro _ (Qqj hk);rw [Wh,Qc hk,Qd,Qq9 hk,e];simp -implicitDefEqProofs only [Q0,Qq4,Qq5,Q2,Xx,QJ,Qq8,Qq6,Qqb,Qqa,Q4u h.ok.ref rfl hs.l2 hs.l24 hs.rt6,show ((0:Int) != 0)=false from rfl,Qr (show k<=1000 by omega)]
 rw [Wh,Qi,Qq6];refine Qt (r:=fun m h=>Wl 400 G.St G.Pt G.Se G.Li per Sk Ro Ls Ch Tu Sy De _ _ m h) (N:=Ls.length) (fun m k hk=>?_) (fun m=>?_) Ls.length 400 0 QoW QoW
 ·rw [Wl,Qc hk,Qq8,QhM h hk,Q0,Q8 (by rfl),Qr QoW]
 rw [Wl,Qi,Qq6,Qc9 h,Qgz h,QgC h,Qb9 h]
end
end Go.Vx
namespace Go.Vx
variable {R:Type} (n:Nat)
def XO (n:Nat) (c e i:LL) (f:Int) (j:LL) (g:Int) (k0:QlJ R):QlD R
 | 0,_,_,_,_=>none
 | m+1,b,a,h,d=>bif decide (a<f) then QkJ R i a fun o r=>Qku R o[1]? fun ac=>QkG R c b fun k=>Qku R (Y1 ((h.length+[[Q4 k]].length)*8)) fun ad=>Qks R (decide (a<wJ ((e.length:Int)-1))) fun ah=>Qkt R (h++[[Q4 k]]) fun ai=>Qkt R (wJ (a+1)) fun aj=>bif decide (a>0) then Qku R (pIw r) fun u=>QkR R j u fun l=>bif ah then QkG R c (wJ (wJ (b+l)+g)) fun p=>Qku R (Y1 ((d.length+[[Q4 p]].length)*8)) fun ae=>XO n c e i f j g k0 m (wJ (b+l)) aj ai (d++[[Q4 p]]) else XO n c e i f j g k0 m (wJ (b+l)) aj ai d else bif ah then QkG R c (wJ (b+g)) fun q=>Qku R (Y1 ((d.length+[[Q4 q]].length)*8)) fun ag=>XO n c e i f j g k0 m b aj ai (d++[[Q4 q]]) else XO n c e i f j g k0 m b aj ai d else k0 b a (decide (a<f)) h d
def KO (p q e r f:LL) (g:Int) (h:List UInt8) (b i j k:Int) (K:LL->LL->Int->Int->oP R):oP R:=Qku R (H6 n p q e r f g h b i j k Tu3) fun a=>bif a.2.2 !=0 then K [] [] 0 a.2.2 else Qku R (Js n a.1 a.2.1 h b i j k Tu2) fun r2=>Qku R (Ue n f g some) fun d=>XO n r2.1 d d (d.length:Int) e b (fun l aa ab s m=>QkG R r2.1 l fun o=>Qku R (Y1 ((m.length+[[Q4 o]].length)*8)) fun ac=>QkG R r2.1 l fun y=>Qku R (JN n y some) fun z=>K s (m++[[Q4 o]]) z 0) n 0 0 [] []
def XI (d e:LL) (b:Int) (k0:Qln R):Qlo R
 | 0,_,_=>none
 | m+1,a,c=>bif decide (a<b) then QkG R d (wJ (a-1)) fun j=>Qku R (Vi n j some) fun f=>QkG R e a fun o=>Qku R (JN n o some) fun g=>Qkt R [[Q4 0,Q4 (wJ (f-16)),Q4 (wJ (g+4))]] fun q=>Qku R (Y1 ((c.length+q.length)*24)) fun p=>XI d e b k0 m (wJ (a+1)) (c++q) else k0 a (decide (a<b)) c
def Qj (f:Int) (l:LL) (g:Int) (h i e j k:LL) (c d:Int) (k0:Qlx R):Qly R
 | 0,_,_,_=>none
 | m+1,a,b,q=>bif decide (a<g) then QkS R l a fun r v=>Qkt R (wJ (a+1)) fun co=>Qkt R (wJ (a-1)) fun cp=>Qkt R (e.length:Int) fun cq=>bif decide (a>f) then Qku R (Y1 ((b.length+[[Q4 0,Q4 c,Q4 d]].length)*24)) fun bu=>Qku R (pIw r) fun ad=>Qkt R (b++[[Q4 0,Q4 c,Q4 d]]) fun cn=>Ql0 R (List.length cn) a cn a.toNat fun ah=>QkI R (List.length cn) a cn a.toNat fun ai=>Ql5 R ai fun ak=>Qku R (Xn n q ad ah ak some) fun o=>Qku R (Hm o q.length) fun bz=>bif a==0 then Qj f l g h i e j k c d k0 m co cn o else QkS R k cp fun al am=>Ql2 R al am r v fun an ao ap aq=>Qku R (Zi n h i e j an ao ap aq some) fun s=>bif decide (s<0) then Qj f l g h i e j k c d k0 m co cn o else bif decide (a<=f) then Ql0 R (List.length cn) a cn a.toNat fun av=>QkI R (List.length cn) cp cn (Int.toNat cp) fun aw=>Ql5 R aw fun ay=>Qku R (Xn n o (wJ (cq+s)) av ay some) fun y=>Qku R (Hm y o.length) fun cc=>Qj f l g h i e j k c d k0 m co cn y else Qku R (Xn n o (wJ (cq+s)) c d some) fun z=>Qku R (Hm z o.length) fun ce=>Qj f l g h i e j k c d k0 m co cn z else Qku R (pIw r) fun az=>Ql0 R b.length a b a.toNat fun bc=>QkI R b.length a b a.toNat fun bd=>Ql5 R bd fun bg=>Qku R (Xn n q az bc bg some) fun p=>Qku R (Hm p q.length) fun ch=>bif a==0 then Qj f l g h i e j k c d k0 m co b p else QkS R k cp fun bh bi=>Ql2 R bh bi r v fun bj bk bl bm=>Qku R (Zi n h i e j bj bk bl bm some) fun t=>bif decide (t<0) then Qj f l g h i e j k c d k0 m co b p else bif decide (a<=f) then Ql0 R b.length a b a.toNat fun bp=>QkI R b.length cp b (Int.toNat cp) fun bq=>Ql5 R bq fun bt=>Qku R (Xn n p (wJ (cq+t)) bp bt some) fun ab=>Qku R (Hm ab p.length) fun ck=>Qj f l g h i e j k c d k0 m co b ab else Qku R (Xn n p (wJ (cq+t)) c d some) fun ac=>Qku R (Hm ac p.length) fun cm=>Qj f l g h i e j k c d k0 m co b ac else k0 a (decide (a<g)) b q
def ZL (c d e f b:LL) (k:Int) (l:List UInt8) (m o p q r g:Int) (K:Qlz R):oP R:=gb true (KO n c d e f b k l m o p q Tu4) ([],[],0,0) fun a=>bif a.2.2.2 !=0 then K [] 0 a.2.2.2 else QkG R a.2.1 0 fun v=>Qku R (JN n v some) fun x=>Qkt R (wJ ((a.1.length:Int)-1)) fun s=>XI n a.1 a.2.1 s (fun ai aj h=>QkG R a.1 (wJ (s-1)) fun aa=>Qku R (Vi n aa some) fun i=>Qkt R [[Q4 0,Q4 (wJ (i-16)),Q4 (wJ (a.2.2.1+g))]] fun t=>Qku R (Y1 ((h.length+t.length)*24)) fun ak=>QkG R a.1 s fun ad=>Qku R (Vi n ad some) fun ae=>Qku R (J5 n c d e f some) fun ag=>Qj n s b (b.length:Int) c d e f b (wJ (ae-16)) (wJ (a.2.2.1+20)) (fun al am an ah=>Qku R (Vn n ah some) fun j=>Qku R (FG [j]) fun ao=>K j a.2.2.1 0) n 0 (h++t) ag) n 1 [[Q4 0,Q4 (wJ (0-r)),Q4 (wJ (x+4))]]
def ZV (d e f g h:LL) (i:Int) (j:List UInt8) (k l m o b c:Int) (K:Qlz R):oP R:=Qku R (Gf n d e f g h i j k l m o some) fun a=>bif a !=0 then K [] 0 a else bif Qkq (Qkq (Qkq (decide (b<0)) (decide (b>65536))) (decide (c<0))) (decide (c>65536)) then K [] 0 4 else Qku R (ZL n d e f g h i j k l m o b c Tu3) fun r2=>K r2.1 r2.2.1 r2.2.2
end Go.Vx
namespace Go.Vx
def cd (a b:Int):Int:=if 0<a % b then a / b+1 else a / b
theorem MK {a b:Int} (h0:0<=a) (h1:1<=b):a<=cd a b*b/\0<=cd a b/\cd a b<=a / b+1:=by
 have h2:=Int.emod_nonneg a (show b≠0 by omega);have c:=Int.emod_lt_of_pos a (show 0<b by omega);have d:=Int.mul_ediv_add_emod a b;have e:0<=a / b:=Int.ediv_nonneg h0 QoW;have f:b*(a / b)=a / b*b:=Int.mul_comm ..;have g:(a / b+1)*b=a / b*b+b:=by rw [Int.add_mul,Int.one_mul]
 unfold cd;split <;> refine ⟨?_,?_,?_⟩ <;> omega
theorem Qg8 {a b:Int} (h0:0<=a) (h1:1<=b) (ha:a<=1000000000):nz b=some ()/\(Int.tmod a b=a % b)/\wJ (Int.tdiv a b)=a / b/\wJ (a / b+1)=a / b+1:=by
 have c:0<=a / b:=Int.ediv_nonneg h0 QoW;have d:a / b<=a:=Int.ediv_le_self _ h0;exact ⟨NQ QoW,Qqs h0,by rw [Qqv h0,Q6 QoW QoW],Q6 QoW QoW⟩
section
variable {n:Nat} {a b:Int} (h0:0<=a) (h1:1<=b) (ha:a<=1000000000)
include h0 h1 ha
theorem QcX:Uj n a b Tu2=some (cd a b,0):=by
 obtain ⟨e1,e2,e,f⟩:=Qg8 h0 h1 ha;unfold Uj cd;rw [Q8 (by simpa using h1),e1,Q0,Q0,e2,e,f];by_cases h:0<a % b
 ·rw [QR (by simpa using h),Qqd h]
 ·rw [Q8 (by simpa using h),Qqg h]
theorem Qdo:Jp n a b (some:Int->oP Int)=some (cd a b):=by
 obtain ⟨e1,e2,c,d⟩:=Qg8 h0 h1 ha;unfold Jp cd;rw [e1,Q0,Q0,e2,c,d];by_cases h:0<a % b
 ·rw [QR (by simpa using h),Qqd h]
 ·rw [Q8 (by simpa using h),Qqg h]
end
theorem upA {n:Nat} {a:Int} (h0:0<=a) (ha:a<=1000000000):JN n a (some:Int->oP Int)=some (cd a 1000):=by
 unfold JN;rw [QcX h0 QoX ha,Q0]
theorem QcO {a:Int} (h0:0<=a) (ha:a<=1000000000):decide (Int.tmod a 1000<0)=false/\wJ (Int.tdiv a 1000)=a / 1000:=by
 rw [Qqs h0,Qqv h0];exact ⟨by simp;omega,Q6 QoW QoW⟩
theorem QhX {n:Nat} {a:Int} (h0:0<=a) (ha:a<=1000000000):Vi n a (some:Int->oP Int)=some (a / 1000):=by
 obtain ⟨e1,e2⟩:=QcO h0 ha;unfold Vi Vu;rw [Q8 QoX,NQ QoX,Q0,Q0,e1,Qq6,e2,Q0]
theorem Qh4 {n:Nat} {a:Int} (h0:0<=a) (ha:a<=1000000000):VD n a 1000 (some:Int->oP Int)=some (a / 1000):=by
 obtain ⟨e1,e2⟩:=QcO h0 ha;unfold VD;rw [NQ QoX,Q0,Q0,e1,Qq6,e2]
def sq (x:Int):Int:=(S8 400 x (some:Int->oP Int)).getD 0
theorem Q5X {x:Int} (h0:0<=x) (hx:x<=1000000000):Qbz x (sq x)/\S8 400 x (some:Int->oP Int)=some (sq x)/\NY 400 x (some:Int->oP Int)=some (sq x):=by
 obtain ⟨r,h1,h2⟩:=QiD h0 hx;have e:sq x=r:=by unfold sq;rw [h2];rfl
 rw [e];exact ⟨h1,h2,Qi0 h0 hx h1⟩
namespace Run
variable (X:Run)
def S (j:Nat):Int:=sq (X.K (X.N-j))
def T:Nat->Int
 |0=>0
 |b+1=>T b+cd 20000000 (X.S b+X.S (b+1))
variable {X} (h:X.OK)
include h
theorem Qfi {j:Nat} (hj:j<=X.N):0<=X.S j/\X.S j<=25000/\(1<=j->j<X.N->1000<=X.S j):=by
 have h1:=Q4S h (X.N-j) QoW;obtain ⟨⟨c,e,r2⟩,_,_⟩:=Q5X (x:=X.K (X.N-j)) QoW QoW;refine ⟨c,Q9h c QoX e QoW,fun a b=>?_⟩;have h2:=h1.2.2 QoW QoW;by_cases d:1000<=X.S j
 ·exact d
 ·have:=Q52 (show 0<=sq (X.K (X.N-j))+1 by omega) (show sq (X.K (X.N-j))+1<=1000 by unfold S at d;omega);omega
theorem Q2l {b:Nat} (hb:b<X.N):1000<=X.S b+X.S (b+1)/\X.S b+X.S (b+1)<=50000/\0<=cd 20000000 (X.S b+X.S (b+1))/\cd 20000000 (X.S b+X.S (b+1))<=20001:=by
 have h2:=h.h2;have a:=Qfi h (j:=b) QoW;have c:=Qfi h (j:=b+1) QoW;have hs:1000<=X.S b+X.S (b+1):=by
  by_cases f:b=0
  ·have:=c.2.2 QoW QoW;omega
  ·have:=a.2.2 QoW QoW;omega
 have d:=MK (show (0:Int)<=20000000 by decide) (show 1<=X.S b+X.S (b+1) by omega);have e:20000000 / (X.S b+X.S (b+1))<=20000:=Int.ediv_le_of_le_mul QoW QoW;omega
theorem T_rng:∀ b:Nat,b<=X.N->0<=X.T b/\X.T b<=20001*b
 |0,_=>by rw [T];omega
 |b+1,hb=>by
  have:=T_rng b QoW;have:=Q2l h (b:=b) QoW;rw [T];omega
theorem T_mono {a:Nat}:∀ {b:Nat},a<=b->b<=X.N->X.T a<=X.T b
 |0,h1,_=>by rw [show a=0 by omega];omega
 |b+1,h1,h2=>by
  by_cases e:a=b+1
  ·subst e;omega
  ·have:=T_mono (a:=a) (b:=b) QoW QoW;have:=Q2l h (b:=b) QoW;rw [T];omega
def TT (X:Run):LL:=arr X.T (X.N+1)
theorem Qkc:Gi 400 X.C (X.st:Int) X.nm (X.t:Int) X.sp X.ac X.br Tu2=some (arr X.S (X.N+1),0):=by
 have hN:=h.hN;have h2:=h.h2;have hl:=h.hC.len;have ak:Jb 400 X.C (X.st:Int) X.nm (X.t:Int) X.sp X.ac X.br (some:Int->oP Int)=some 0:=by
  unfold Jb;rw [BQ h.hk,Q0,Q8 QoX,Q8 QoZ];refine Qt (r:=fun m i=>YG 400 X.C (X.C.length:Int) _ _ m i) (N:=X.C.length) (fun m k hk=>?_) (fun m=>?_) X.C.length 400 0 QoW QoW
  ·have b0:=h.hC.b0 k hk;have b1:=h.hC.b1 k hk;have g0:=h.hC.g0 k hk;have g1:=h.hC.g1 k hk;rw [YG,Qc hk,Qd,h.hC.row k hk];simp -implicitDefEqProofs only [Q0,Qq4,Qq5,Q2,Xx,QJ,Qq8,Qq6,Qqb,Qqa,show decide ((cl X.C k).1<1000)=false by simp;omega,show decide ((cl X.C k).1>100000)=false by simp;omega,show decide ((cl X.C k).2 < -40)=false by simp;omega,show decide ((cl X.C k).2>40)=false by simp;omega,Qr (show k<=1000 by omega)]
  ·rw [YG,Qi,Qq6,Q6 QoW QoW,show decide ((X.st:Int)<0)=false by simp,show decide ((X.st:Int)>(X.C.length:Int)-2)=false by simp;omega];rfl
 unfold Gi;rw [ak,Q0,Q8 (by rfl),sqA h,Q0];have hW:X.W.length=X.N+1:=YO;rw [hW];have:=Qt (r:=fun m i=>Zz 400 ((X.N+1:Nat):Int) (fun _ _ d=>some (d,(0:Int))) m i (arr (fun j=>if j<i.toNat then X.S j else X.K (X.N-j)) (X.N+1))) (N:=X.N+1) (e:=some (arr X.S (X.N+1),0)) (fun m k hk=>?_) (fun m=>?_) (X.N+1) 400 0 QoW QoW
 ·rw [show arr (fun j=>if j<(((0:Nat):Int)).toNat then X.S j else X.K (X.N-j)) (X.N+1)=X.W from XL fun j hj=>Qqg QoY] at this;exact this
 ·simp only [Qq7];have hK:=Q4S h (X.N-k) QoW;rw [Zz,Qc hk,Qq8,YO,Q8v hk,Qqg (Nat.lt_irrefl k),(Q5X QoW QoW).2.1,Q0,Qb1 hk,Qr QoW];refine congrArg _ (XL fun j hj=>?_);by_cases aj:j=k
  ·subst aj;rw [Qqd rfl,Qqd QoW];rfl
  ·rw [Qqg aj];by_cases a:j<k
   ·rw [Qqd a,Qqd QoW]
   ·rw [Qqg a,Qqg QoW]
 ·simp only [Qq7];rw [Zz,Qi,Qq6];exact congrArg (fun l=>some (l,(0:Int))) (XL fun j hj=>Qqd hj)
theorem timA:Js 400 X.C (X.st:Int) X.nm (X.t:Int) X.sp X.ac X.br Tu2=some (X.TT,0):=by
 have hN:=h.hN;have hl:=h.hC.len;unfold Js;rw [Qkc h,Q0,Q8 (by rfl),YO,show (bif decide ((0:Int)<=((X.N+1:Nat):Int))&&decide (((X.N+1:Nat):Int)<=((X.N+1:Nat):Int)) then some () else none)=some () by rw [QR QoZ],Q0,Qq7,XE QoW,Q0,CM];have:=Qt (r:=fun m i=>Ws 400 (arr X.S (X.N+1)) (fun _ _ g=>some (g,(0:Int))) m ((i.toNat+1:Nat):Int) (arr (fun j=>if j<=i.toNat then X.T j else 0) (X.N+1))) (N:=X.N) (e:=some (X.TT,0)) (fun m k hk=>?_) (fun m=>?_) X.N 400 0 QoW QoW
 ·rw [show arr (fun j=>if j<=(((0:Nat):Int)).toNat then X.T j else 0) (X.N+1)=arr (fun _=>0) (X.N+1) from XL fun j hj=>by
   split
   ·rename_i h0;have h0:j=0:=by simpa using h0
    rw [h0,T]
   ·rfl] at this
  exact this
 ·simp only [Qq7];have hi:=Q2l h hk;have hT:=T_rng h k QoW;rw [Ws,YO,Qc (show k+1<X.N+1 by omega),Qq8,Ju (show k+1<=1000 by omega) QoW,show k+1-1=k by omega,Qd,Qd,G2 (show k<X.N+1 by omega),G2 (show k+1<X.N+1 by omega)];simp -implicitDefEqProofs only [Q0,Qq4,Q2,wI (a:=X.S k+X.S (k+1)) rfl (show -1000000<=X.S k+X.S (k+1) by omega) (show X.S k+X.S (k+1)<=1000000000 by omega),QcX (n:=400) (show (0:Int)<=20000000 by decide) (show 1<=X.S k+X.S (k+1) by omega) QoX];rw [YO,Q8v (show k<X.N+1 by omega),Qqd (Qql k),Qb1 (show k+1<X.N+1 by omega),Qr QoW,wI (a:=X.T k+cd 20000000 (X.S k+X.S (k+1))) (b:=X.T (k+1)) rfl (by rw [T];omega) (by rw [T];omega)];refine congrArg _ (XL fun j hj=>?_);by_cases aj:j=k+1
  ·subst aj;rw [Qqd rfl,Qqd QoW]
  ·rw [Qqg aj];by_cases c:j<=k
   ·rw [Qqd c,Qqd QoW]
   ·rw [Qqg c,Qqg QoW]
 ·simp only [Qq7];rw [Ws,YO,Qi,Qq6];exact congrArg (fun l=>some (l,(0:Int))) (XL fun j hj=>Qqd QoW)
end Run
namespace Run
variable {X:Run} (h:X.OK)
include h
theorem QjT:CH 400 X.C (X.st:Int) X.nm (X.t:Int) X.sp X.ac X.br (some:Int->oP Int)=some 0:=by
 have hN:=h.hN;have h2:=h.h2;have hl:=h.hC.len;obtain ⟨t1,t2,s1,s2,a1,a2,b1,b2⟩:=h.hk;have aj:XV 400 X.nm (X.t:Int) X.sp X.ac X.br (some:Bool->oP Bool)=some true:=by
  unfold XV;simp -implicitDefEqProofs only [Q0,Qq4,Qq5,Q2,Xx,QJ,Qq8,Qq6,Qqb,Qqa,Q4F t1 (show (X.t:Int)<=40 by omega),Q4F (show 1000<=X.sp by omega) (show X.sp<=100000 by omega),Q4F (show 100<=X.ac by omega) (show X.ac<=2000 by omega),Q4F (show 100<=X.br by omega) (show X.br<=2000 by omega)]
 unfold CH;rw [aj,Q0,Q8 QoX,Q8 QoZ];refine Qt (r:=fun m i=>K9 400 X.C _ _ m i) (N:=X.C.length) (fun m k hk=>?_) (fun m=>?_) X.C.length 400 0 QoW QoW
 ·have b0:=h.hC.b0 k hk;have b1:=h.hC.b1 k hk;have g0:=h.hC.g0 k hk;have g1:=h.hC.g1 k hk;rw [K9,Qc hk,Qd,h.hC.row k hk];simp -implicitDefEqProofs only [Q0,Qq4,Qq5,Q2,Xx,QJ,Qq8,Qq6,Qqb,Qqa,Q4F (show 1000<=(cl X.C k).1 by omega) (show (cl X.C k).1<=100000 by omega),Q4F (show -40<=(cl X.C k).2 by omega) (show (cl X.C k).2<=40 by omega),Qr (show k<=1000 by omega)]
 ·rw [K9,Qi,Qq6,Q6 QoW QoW,show decide ((X.st:Int)<0)=false by simp,show decide ((X.st:Int)>(X.C.length:Int)-2)=false by simp;omega];rfl
theorem Qki:R8 400 X.C (X.st:Int) X.nm (X.t:Int) X.sp X.ac X.br Tu2=some (arr X.S (X.N+1),0):=by
 have hN:=h.hN;have h2:=h.h2;have hl:=h.hC.len;have t2:=h.hk.t2;have hw:wJ ((X.C.length:Int)-(X.st:Int))=(X.N:Int):=by rw [Q6 QoW QoW];omega
 unfold R8;rw [QjT h,Q0,Q8 (by rfl),hw,Qr QoW,show (bif decide ((0:Int)<=((X.N+1:Nat):Int))&&decide (((X.N+1:Nat):Int)<=((X.N+1:Nat):Int)) then some () else none)=some () by rw [QR QoZ],Q0,Qq7,XE QoW,Q0,CM];have e1:∀ k0:Int->Bool->LL->oP (LL×Int),UA 400 X.C (X.st:Int) (X.N:Int) X.nm (X.t:Int) X.sp X.ac X.br k0 400 (1:Int) (arr (fun _=>0) (X.N+1))=k0 (X.N:Int) false (arr (fun j=>if 1<=j/\j<=X.N-1 then X.V j else 0) (X.N+1)):=by
  intro k0;have:=Qt (r:=fun m i=>UA 400 X.C (X.st:Int) (X.N:Int) X.nm (X.t:Int) X.sp X.ac X.br k0 m ((i.toNat+1:Nat):Int) (arr (fun j=>if 1<=j/\j<=i.toNat then X.V j else 0) (X.N+1))) (N:=X.N-1) (e:=k0 (X.N:Int) false (arr (fun j=>if 1<=j/\j<=X.N-1 then X.V j else 0) (X.N+1))) (fun m i hi=>?_) (fun m=>?_) (X.N-1) 400 0 QoW QoW
  ·rw [show arr (fun j=>if 1<=j/\j<=(((0:Nat):Int)).toNat then X.V j else 0) (X.N+1)=arr (fun _=>0) (X.N+1) from XL fun j hj=>Qqg QoZ] at this;exact this
  ·simp only [Qq7];have ax:=QaJ h (b:=i+1) QoW;have hV:=Qe9 h (b:=i+1) QoW;rw [UA,Qc (show i+1<X.N by omega),Qq8,wI (show (X.st:Int)+((i+1:Nat):Int)=((X.st+(i+1):Nat):Int) by omega) QoW QoW,wI (show ((X.st+(i+1):Nat):Int)-1=((X.st+i:Nat):Int) by omega) QoW QoW,Qjy h.hC QoW QoW,Q0,Qjy h.hC QoW QoW,Q0,YO,Qb1 QoW,Qr QoW];refine congrArg _ (XL fun j hj=>?_);have e1:(if Q7M X.C X.sp (X.st+(i+1)) X.t<Q7M X.C X.sp (X.st+i) X.t then Q7M X.C X.sp (X.st+(i+1)) X.t else Q7M X.C X.sp (X.st+i) X.t)=X.lo (i+1):=rfl;by_cases aj:j=i+1
   ·subst aj;rw [Qqd rfl,e1,wI (a:=X.lo (i+1)*X.lo (i+1)) (b:=X.V (i+1)) rfl QoW QoW,Qqd QoW]
   ·rw [Qqg aj];by_cases d:1<=j/\j<=i
    ·rw [Qqd d,Qqd QoW]
    ·rw [Qqg d,Qqg QoW]
  ·simp only [Qq7];rw [show X.N-1+1=X.N by omega,UA,Qi,Qq6]
 rw [e1];have e2:∀ k0:Int->Bool->LL->oP (LL×Int),UG 400 X.C (X.st:Int) (X.N:Int) X.nm (X.t:Int) X.sp X.ac X.br k0 400 (0:Int) (arr (fun j=>if 1<=j/\j<=X.N-1 then X.V j else 0) (X.N+1))=k0 (X.N:Int) false (arr (fun j=>if j<=X.N-1 then X.F j else 0) (X.N+1)):=by
  intro k0;have:=Qt (r:=fun m i=>UG 400 X.C (X.st:Int) (X.N:Int) X.nm (X.t:Int) X.sp X.ac X.br k0 m i (arr (fun j=>if j<=X.N-1 then (if j<=i.toNat then X.F j else X.V j) else 0) (X.N+1))) (N:=X.N) (e:=k0 (X.N:Int) false (arr (fun j=>if j<=X.N-1 then X.F j else 0) (X.N+1))) (fun m i hi=>?_) (fun m=>?_) X.N 400 0 QoW QoW
  ·rw [show arr (fun j=>if j<=X.N-1 then (if j<=(((0:Nat):Int)).toNat then X.F j else X.V j) else 0) (X.N+1)=arr (fun j=>if 1<=j/\j<=X.N-1 then X.V j else 0) (X.N+1) from XL fun j hj=>by
    by_cases q:j=0
    ·subst q;rw [Qqd QoW,Qqd QoY,Qqg QoW,F]
    ·by_cases c:j<=X.N-1
     ·rw [Qqd c,Qqg QoZ,Qqd QoW]
     ·rw [Qqg c,Qqg QoW]] at this
   exact this
  ·simp only [Qq7];have f:=h.hC.g0 (X.st+i) QoW;have g:=h.hC.g1 (X.st+i) QoW;have hr:=row h (b:=i) QoW;have hF:=Qbr h i QoW;have hG:=Qdl h (b:=i) QoW;have ha:=Q5g h.hk.a1 h.hk.a2 f g;rw [UG,Qc hi,Qq8,Qr QoW,YO,Q8v (show i+1<X.N+1 by omega),Q8v (show i<X.N+1 by omega),wI (show (X.st:Int)+(i:Int)=((X.st+i:Nat):Int) by omega) QoW QoW,Qd,hr];simp -implicitDefEqProofs only [Q0,Qq4,Qq5,Q2,Xx,QJ,Qq8,Qq6,Qqb,Qqa,Qfd h.hk.a1 h.hk.a2 f g];rw [Qb1 (show i+1<X.N+1 by omega),Qqd (show i<=X.N-1 by omega),Qqd (Qql i),Qqg (show ¬ i+1<=i by omega),wI (a:=20000*acc X.ac (cl X.C (X.st+i)).2) (b:=X.G i) rfl QoW QoW,wI (a:=X.F i+X.G i) (b:=X.F i+X.G i) rfl QoW QoW];refine congrArg _ (XL fun j hj=>?_);by_cases aj:j=i+1
   ·subst aj;rw [Qqd rfl];by_cases n:i+1<=X.N-1
    ·rw [Qqd n,Qqd n,Qqd (Qql (i+1)),F]
    ·rw [Qqg n,Qqg (show ¬ X.F i+X.G i<0 by omega),Qqg n]
   ·rw [Qqg aj];by_cases c:j<=X.N-1
    ·rw [Qqd c,Qqd c];by_cases d:j<=i
     ·rw [Qqd d,Qqd QoW]
     ·rw [Qqg d,Qqg QoW]
    ·rw [Qqg c,Qqg c]
  ·simp only [Qq7];rw [UG,Qi,Qq6];refine congrArg _ (XL fun j hj=>?_);by_cases c:j<=X.N-1
   ·rw [Qqd c,Qqd c,Qqd QoW]
   ·rw [Qqg c,Qqg c]
 rw [e2];have s:∀ k0:Int->Bool->LL->oP (LL×Int),UK 400 X.C (X.st:Int) X.nm (X.t:Int) X.sp X.ac X.br k0 400 (X.N:Int) (arr (fun j=>if j<=X.N-1 then X.F j else 0) (X.N+1))=k0 0 false X.W:=by
  intro k0;have:=Qt (r:=fun m i=>UK 400 X.C (X.st:Int) X.nm (X.t:Int) X.sp X.ac X.br k0 m ((X.N-i.toNat:Nat):Int) (arr (fun j=>if X.N-j<=i.toNat then X.K (X.N-j) else X.F j) (X.N+1))) (N:=X.N) (e:=k0 0 false X.W) (fun m i hi=>?_) (fun m=>?_) X.N 400 0 QoW QoW
  ·rw [show arr (fun j=>if X.N-j<=(((0:Nat):Int)).toNat then X.K (X.N-j) else X.F j) (X.N+1)=arr (fun j=>if j<=X.N-1 then X.F j else 0) (X.N+1) from XL fun j hj=>by
    by_cases aq:j=X.N
    ·subst aq;rw [Qqd QoY,Qqg QoW,Nat.sub_self,K]
    ·rw [Qqg QoZ,Qqd QoW]] at this
   exact this
  ·simp only [Qq7];obtain ⟨b,hb⟩:∃ b,b+1=X.N-i:=⟨X.N-i-1,QoW⟩;have f:=h.hC.g0 (X.st+b) QoW;have g:=h.hC.g1 (X.st+b) QoW;have hr:=row h (b:=b) QoW;have hK:=Q4S h i QoW;have hL:=Qce h (b:=b) QoW;have aw:=Q5m h.hk.b1 h.hk.b2 f g;rw [<- hb,UK,QR QoY,Ju (show b+1<=1000 by omega) QoW,Qqk,YO,Q8v (show b<X.N+1 by omega),Q8v (show b+1<X.N+1 by omega),wI (show (X.st:Int)+((b+1:Nat):Int)=((X.st+b+1:Nat):Int) by omega) QoW QoW,Ju (show X.st+b+1<=1000 by omega) QoW,Qqk,Qd,hr];simp -implicitDefEqProofs only [Q0,Qq4,Qq5,Q2,Xx,QJ,Qq8,Qq6,Qqb,Qqa,QgT h.hk.b1 h.hk.b2 f g];rw [Qb1 (show b<X.N+1 by omega),show X.N-(i+1)=b by omega,Qqg (show ¬ X.N-b<=i by omega),Qqd (show X.N-(b+1)<=i by omega),show X.N-(b+1)=i by omega,wI (a:=20000*brk X.br (cl X.C (X.st+b)).2) (b:=X.L b) rfl QoW QoW,wI (a:=X.K i+X.L b) (b:=X.K i+X.L b) rfl QoW QoW];refine congrArg _ (XL fun j hj=>?_);by_cases ak:j=b
   ·subst ak;rw [Qqd rfl,Qqd (show X.N-j<=i+1 by omega),show X.N-j=i+1 by omega,K,show X.N-(i+1)=j by omega]
   ·rw [Qqg ak];by_cases d:X.N-j<=i
    ·rw [Qqd d,Qqd QoW]
    ·rw [Qqg d,Qqg QoW]
  ·simp only [Qq7];rw [Nat.sub_self,UK,Q8 QoX];refine congrArg _ (XL fun j hj=>Qqd QoW)
 rw [s];have:=Qt (r:=fun m i=>Vv 400 (X.N:Int) (fun _ _ t=>some (t,(0:Int))) m i (arr (fun j=>if j<i.toNat then X.S j else X.K (X.N-j)) (X.N+1))) (N:=X.N+1) (e:=some (arr X.S (X.N+1),0)) (fun m k hk=>?_) (fun m=>?_) (X.N+1) 400 0 QoW QoW
 ·rw [show arr (fun j=>if j<(((0:Nat):Int)).toNat then X.S j else X.K (X.N-j)) (X.N+1)=X.W from XL fun j hj=>Qqg QoY] at this;exact this
 ·simp only [Qq7];have hK:=Q4S h (X.N-k) QoW;rw [Vv,QR QoZ,YO,Q8v hk,Qqg (Nat.lt_irrefl k),(Q5X QoW QoW).2.2,Q0,Qb1 hk,Qr QoW];refine congrArg _ (XL fun j hj=>?_);by_cases an:j=k
  ·subst an;rw [Qqd rfl,Qqd QoW];rfl
  ·rw [Qqg an];by_cases d:j<k
   ·rw [Qqd d,Qqd QoW]
   ·rw [Qqg d,Qqg QoW]
 ·simp only [Qq7];rw [Vv,Q8 QoZ];exact congrArg (fun l=>some (l,(0:Int))) (XL fun j hj=>Qqd hj)
theorem timB:PK 400 X.C (X.st:Int) X.nm (X.t:Int) X.sp X.ac X.br Tu2=some (X.TT,0):=by
 have hN:=h.hN;have hl:=h.hC.len;unfold PK;rw [Qki h,Q0,Q8 (by rfl),YO,show (bif decide ((0:Int)<=((X.N+1:Nat):Int))&&decide (((X.N+1:Nat):Int)<=((X.N+1:Nat):Int)) then some () else none)=some () by rw [QR QoZ],Q0,Qq7,XE QoW,Q0,CM];have:=Qt (r:=fun m i=>J7 400 (arr X.S (X.N+1)) (fun _ _ o=>some (o,(0:Int))) m ((i.toNat+1:Nat):Int) (arr (fun j=>if j<=i.toNat then X.T j else 0) (X.N+1))) (N:=X.N) (e:=some (X.TT,0)) (fun m k hk=>?_) (fun m=>?_) X.N 400 0 QoW QoW
 ·rw [show arr (fun j=>if j<=(((0:Nat):Int)).toNat then X.T j else 0) (X.N+1)=arr (fun _=>0) (X.N+1) from XL fun j hj=>by
   split
   ·rename_i c;have c:j=0:=by simpa using c
    rw [c,T]
   ·rfl] at this
  exact this
 ·simp only [Qq7];have hi:=Q2l h hk;have hT:=T_rng h k QoW;rw [J7,YO,Qc (show k+1<X.N+1 by omega),Qq8,Ju (show k+1<=1000 by omega) QoW,show k+1-1=k by omega,YO,Q8v (show k<X.N+1 by omega),Qqd (Qql k),Qd,Qd,G2 (show k<X.N+1 by omega),G2 (show k+1<X.N+1 by omega)];simp -implicitDefEqProofs only [Q0,Qq4,Q2,wI (a:=X.S k+X.S (k+1)) rfl (show -1000000<=X.S k+X.S (k+1) by omega) (show X.S k+X.S (k+1)<=1000000000 by omega),Qdo (n:=400) (show (0:Int)<=20000000 by decide) (show 1<=X.S k+X.S (k+1) by omega) QoX];rw [Qb1 (show k+1<X.N+1 by omega),Qr QoW,wI (a:=X.T k+cd 20000000 (X.S k+X.S (k+1))) (b:=X.T (k+1)) rfl (by rw [T];omega) (by rw [T];omega)];refine congrArg _ (XL fun j hj=>?_);by_cases aj:j=k+1
  ·subst aj;rw [Qqd rfl,Qqd QoW]
  ·rw [Qqg aj];by_cases d:j<=k
   ·rw [Qqd d,Qqd QoW]
   ·rw [Qqg d,Qqg QoW]
 ·simp only [Qq7];rw [J7,YO,Qi,Qq6];exact congrArg (fun l=>some (l,(0:Int))) (XL fun j hj=>Qqd QoW)
end Run
def sl (Se s:LL) (j:Nat):Nat:=(Sc Se (s.getD j [])).length
def pos (Se s:LL):Nat->Nat
 |0=>0
 |j+1=>pos Se s j+sl Se s (j+1)
theorem Rr {f:Nat->Int} {n:Nat}:arr f n++[[Q4 (f n)]]=arr f (n+1):=by simp [arr,List.range_succ]
section
variable {Se s:LL} (hs:∀ r∈s,C8 Se r)
include hs
theorem FY {j:Nat} (hj:j<s.length):∃ (x d:Int) (nm:List UInt8) (b c st:Int),s[j]? = some [Q4 x,Q4 d]/\Q1 Se x=some [D.str nm,Q4 (sl Se s j),Q4 b,Q4 c,Q4 st]/\2<=sl Se s j/\sl Se s j<=12/\(d=0\/d=1):=by
 obtain ⟨x,d,nm,a,b,c,st,e,f,h2,g⟩:=hs _ (Qqj hj);have a0:=h2.a0;have a1:=h2.a1;have e2:s[j]? = some [Q4 x,Q4 d]:=by rw [Qq9 hj,e]
 have h:sl Se s j=a.toNat:=by
  unfold sl;rw [Qqi,e2];show (Sc Se [Q4 x,Q4 d]).length=_;rw [H8 f,List.length_replicate]
 refine ⟨x,d,nm,b,c,st,e2,?_,QoW,QoW,g⟩;rw [f,h,show (a.toNat:Int)=a by omega]
omit hs in
theorem Q3o:∀ {j:Nat},j<s.length->(Yg Se (s.take (j+1))).length=sl Se s 0+pos Se s j
 |0,hj=>by
  rw [Mf (Qq9 hj)];simp only [List.take_zero,Yg,List.flatMap_nil,List.nil_append,pos,sl,Qqi,Qq9 hj,Qqt];omega
 |j+1,hj=>by
  have:=Q3o (j:=j) QoW;rw [Mf (Qq9 hj),QqA,this,pos];simp only [sl,Qqi,Qq9 hj,Qqt];omega
omit hs in
theorem Q9n {i j:Nat} (a:i<=j):pos Se s i<=pos Se s j:=by
 induction j with
 |zero=>rw [show i=0 by omega];omega
 |succ j ih=>
  by_cases e:i=j+1
  ·subst e;omega
  ·have:=ih QoW;rw [pos];omega
theorem Q6p {i j:Nat} (a:i<j) (h2:j<s.length):pos Se s i+2<=pos Se s j:=by
 obtain ⟨_,_,_,_,_,_,_,_,b,_⟩:=FY hs (j:=i+1) QoW;have:=Q9n (Se:=Se) (s:=s) (i:=i+1) (j:=j) QoW;rw [pos] at this;omega
end
def YK (Se s:LL) (nm:List UInt8) (tl sp ac br:Int):Run:=⟨Yg Se s,nm,sp,ac,br,tl.toNat,sl Se s 0,pos Se s (s.length-1)⟩
section
variable {St Pt Se Li s:LL} (h:RtF St Pt Se Li s) {nm:List UInt8} {tl sp ac br:Int} (hk:StkN tl sp ac br)
include h
theorem BD:Ta Se s=(sl Se s 0:Int):=by
 have l2:=h.l2;obtain ⟨x,d,_,b,c,st,e,a,_⟩:=FY h.st (j:=0) QoW;cases s with
 |nil=>cases e
 |cons r t=>
  injection e with e
  subst e;simp only [Ta,a]
include hk
theorem Mh:(YK Se s nm tl sp ac br).OK where
 hC:=Q8N h.st h.l24
 hk:=by
  have:=hk.t1;show StkN (tl.toNat:Int) sp ac br;rw [show (tl.toNat:Int)=tl by omega];exact hk
 hN:=by
  have l2:=h.l2;have:=Q3o (Se:=Se) (s:=s) (j:=s.length-1) QoW;rw [show s.length-1+1=s.length by omega,Qqx] at this;exact this
 h2:=by
  have l2:=h.l2;have:=Q6p h.st (i:=0) (j:=s.length-1) QoW QoW;show 2<=pos Se s (s.length-1);omega
end
section
variable {St Pt Se Li s:LL} (h:RtF St Pt Se Li s) {nm:List UInt8} {tl sp ac br:Int} (hk:StkN tl sp ac br)
def fEN (Se s:LL) (X:Run) (j:Nat):Int:=X.T (pos Se s (j-1))
def fLV (Se s:LL) (X:Run) (j:Nat):Int:=if j<s.length-1 then X.T (pos Se s j+X.t) else X.T X.N
def Q0p (X:Run):Int:=cd (X.T X.N) 1000
include h hk
theorem tEq:(((YK Se s nm tl sp ac br).t:Nat):Int)=tl:=by
 have _:=h.l2;have:=hk.t1;show (tl.toNat:Int)=tl;omega
theorem Qe8:Js 400 (Yg Se s) (sl Se s 0:Int) nm tl sp ac br Tu2=some ((YK Se s nm tl sp ac br).TT,0):=by
 have:=Run.timA (Mh h (nm:=nm) hk);rw [tEq h hk] at this;exact this
theorem Qdw:PK 400 (Yg Se s) (sl Se s 0:Int) nm tl sp ac br Tu2=some ((YK Se s nm tl sp ac br).TT,0):=by
 have:=Run.timB (Mh h (nm:=nm) hk);rw [tEq h hk] at this;exact this
theorem Q0J {b:Nat} (hb:b<=(YK Se s nm tl sp ac br).N):0<=(YK Se s nm tl sp ac br).T b/\(YK Se s nm tl sp ac br).T b<=7000000:=by
 have hX:=Mh h (nm:=nm) hk;have a:=Run.T_rng hX b hb;have:=hX.hN;have:=hX.hC.len;omega
theorem M6:0<=Q0p (YK Se s nm tl sp ac br)/\Q0p (YK Se s nm tl sp ac br)<=7001:=by
 have a:=Q0J h (nm:=nm) hk (Qql _);have:=MK a.1 (show (1:Int)<=1000 by decide);unfold Q0p;omega
theorem Qeu {j:Nat} (hj:j<s.length):pos Se s j<=(YK Se s nm tl sp ac br).N/\(j<s.length-1->pos Se s j+(YK Se s nm tl sp ac br).t<=(YK Se s nm tl sp ac br).N):=by
 have a:=Q9n (Se:=Se) (s:=s) (i:=j) (j:=s.length-1) QoW;have h2:=tEq h (nm:=nm) hk;have:=hk.t2;refine ⟨a,fun b=>?_⟩;have:=Q6p h.st (i:=j) (j:=s.length-1) b QoW;show pos Se s j+_<=pos Se s (s.length-1);omega
theorem Qfs:KO 400 St Pt Se Li s 0 nm tl sp ac br Tu4=some (arr (fEN Se s (YK Se s nm tl sp ac br)) s.length,arr (fLV Se s (YK Se s nm tl sp ac br)) s.length,Q0p (YK Se s nm tl sp ac br),0):=by
 have l2:=h.l2;have l24:=h.l24;have ht:=tEq h (nm:=nm) hk;have hX:=Mh h (nm:=nm) hk;have au:=hX.hN;have ar:=hX.hC.len;have ao:=Qe8 h (nm:=nm) hk;have ak:=fun (j:Nat) (hj:j<s.length)=>Qeu h (nm:=nm) hk hj
 have an:=Q0J h (nm:=nm) hk (Qql _);have hN:(YK Se s nm tl sp ac br).N=pos Se s (s.length-1):=rfl;unfold KO;rw [QjE h.lay rfl h.l2 h.l24 h.rt h.st hk,Q0,Q8 (by rfl),BD h,ao,Q0,Q0H h.l24,Q0];revert hX au ar ak an hN ht;generalize YK Se s nm tl sp ac br=X;intro ht hX au ar ak an hN;have o:∀ k0:Int->Int->Bool->LL->LL->oP (LL×LL×Int×Int),XO 400 X.TT s s (s.length:Int) Se tl k0 400 0 0 [] []=k0 ((pos Se s (s.length-1):Nat):Int) (s.length:Int) false (arr (fEN Se s X) s.length) (arr (fLV Se s X) (s.length-1)):=by
  intro k0;refine Qt (r:=fun m i=>XO 400 X.TT s s (s.length:Int) Se tl k0 m ((pos Se s (i.toNat-1):Nat):Int) i (arr (fEN Se s X) i.toNat) (arr (fLV Se s X) (min i.toNat (s.length-1)))) (N:=s.length) (fun m i hi=>?_) (fun m=>?_) s.length 400 0 QoW QoW
  ·simp only [Qq7];obtain ⟨x,d,a2,b,c,st,e,p,a0,a1,hd⟩:=FY h.st hi;have hp:=ak (i-1) QoW;have f:=ak i hi;rw [XO,Qc hi,Qq8,Qd,e];have hT:Q1 X.TT ((pos Se s (i-1):Nat):Int)=some [Q4 (fEN Se s X i)]:=by rw [Qd];exact G2 QoW
   have hr:Y1 (((arr (fEN Se s X) i).length+List.length [[D.int .i64 (fEN Se s X i)]])*8)=some ():=XE (by simp only [YO,Qqn,Qqr];omega);simp -implicitDefEqProofs only [Q0,Qq4,Qq5,Q2,hT,hr,Rr,wI (show (i:Int)+1=((i+1:Nat):Int) by omega) QoW QoW,wI (show (s.length:Int)-1=((s.length-1:Nat):Int) by omega) QoW QoW];have aw:i<s.length-1->Q1 X.TT ((pos Se s i+X.t:Nat):Int)=some [Q4 (fLV Se s X i)]:=fun aj=>by
    have:=f.2 aj;rw [Qd];show (arr X.T (X.N+1))[pos Se s i+X.t]? = _;rw [G2 QoW];unfold fLV;rw [Qqd aj]
   have a:∀ k,k<=30->Y1 (((arr (fLV Se s X) k).length+List.length [[D.int .i64 (fLV Se s X k)]])*8)=some ():=fun k hk=>XE (by simp only [YO,Qqn,Qqr];omega)
   by_cases q:i=0
   ·subst q;have aq:0<s.length-1:=QoW
    have:=aw aq;rw [show decide (((0:Nat):Int)>0)=false from rfl,Qq6,Qc aq,Qq8,wI (show ((pos Se s (0-1):Nat):Int)+tl=((pos Se s 0+X.t:Nat):Int) by rw [<- ht,show 0-1=0 from rfl];omega) QoW QoW,this,Nat.min_eq_left QoW,Nat.min_eq_left QoW];simp -implicitDefEqProofs only [Q0,Qq4,Q2,a 0 QoW,Rr]
   ·have az:pos Se s i=pos Se s (i-1)+sl Se s i:=by
     obtain ⟨k,rfl⟩:∃ k,i=k+1:=⟨i-1,QoW⟩;rfl
    rw [show decide ((i:Int)>0)=true by simp;omega,Qq8,p];simp -implicitDefEqProofs only [Q0,Qq4,Qq5,Q2,wI (show ((pos Se s (i-1):Nat):Int)+((sl Se s i:Nat):Int)=((pos Se s i:Nat):Int) by omega) QoW QoW,Qqk];by_cases aj:i<s.length-1
    ·rw [Qc aj,Qq8,wI (show ((pos Se s i:Nat):Int)+tl=((pos Se s i+X.t:Nat):Int) by omega) (by have:=f.2 aj;omega) (by have:=f.2 aj;omega),aw aj,Nat.min_eq_left QoW,Nat.min_eq_left QoW];simp -implicitDefEqProofs only [Q0,Qq4,Q2,a i QoW,Rr]
    ·rw [show decide ((i:Int)<((s.length-1:Nat):Int))=false by simp;omega,Qq6,Nat.min_eq_right QoW,Nat.min_eq_right QoW]
  ·simp only [Qq7];rw [XO,Qi,Qq6,Nat.min_eq_right QoW]
 rw [o];have hT:Q1 X.TT ((pos Se s (s.length-1):Nat):Int)=some [Q4 (fLV Se s X (s.length-1))]:=by
  rw [Qd];show (arr X.T (X.N+1))[pos Se s (s.length-1)]? = _;rw [G2 QoW];unfold fLV;rw [Qqg QoW,hN]
 have hl:fLV Se s X (s.length-1)=X.T X.N:=by unfold fLV;rw [Qqg QoW]
 have a:Y1 (((arr (fLV Se s X) (s.length-1)).length+List.length [[D.int .i64 (fLV Se s X (s.length-1))]])*8)=some ():=XE (by simp only [YO,Qqn,Qqr];omega);simp -implicitDefEqProofs only [hT,Q0,Qq4,Q2,a,Rr];rw [hl,upA an.1 QoW,Q0,show s.length-1+1=s.length by omega];rfl
theorem Qih:Po 400 St Pt Se Li s 0 nm tl sp ac br Tu4=some (arr (fEN Se s (YK Se s nm tl sp ac br)) s.length,arr (fLV Se s (YK Se s nm tl sp ac br)) s.length,Q0p (YK Se s nm tl sp ac br),0):=by
 have l2:=h.l2;have l24:=h.l24;have ht:=tEq h (nm:=nm) hk;have t1:=hk.t1;have hX:=Mh h (nm:=nm) hk;have au:=hX.hN;have ar:=hX.hC.len;have aq:=Qdw h (nm:=nm) hk;have aj:=fun (j:Nat) (hj:j<s.length)=>Qeu h (nm:=nm) hk hj
 have an:=Q0J h (nm:=nm) hk (Qql _);have hN:(YK Se s nm tl sp ac br).N=pos Se s (s.length-1):=rfl;unfold Po;rw [Qa3 h hk,Q0,Q8 (by rfl),Q9G h,Q0,BD h,aq,Q0];revert hX au ar aj an hN ht;generalize YK Se s nm tl sp ac br=X;intro ht hX au ar aj an hN;have ak:X.TT.length=X.N+1:=YO;have hw:wJ ((s.length:Int)-0)=(s.length:Int):=by rw [Q6 QoW QoW];omega
 have o:∀ k0:Int->Int->Bool->LL->LL->oP (LL×LL×Int×Int),Zk 400 X.TT Se s 0 tl k0 400 0 0 [] []=k0 ((pos Se s (s.length-1):Nat):Int) (s.length:Int) false (arr (fEN Se s X) s.length) (arr (fLV Se s X) s.length):=by
  intro k0;refine Qt (r:=fun m i=>Zk 400 X.TT Se s 0 tl k0 m ((pos Se s (i.toNat-1):Nat):Int) i (arr (fEN Se s X) i.toNat) (arr (fLV Se s X) i.toNat)) (N:=s.length) (fun m i hi=>?_) (fun m=>?_) s.length 400 0 QoW QoW
  ·simp only [Qq7];obtain ⟨x,d,a2,b,c,st,e,p,a0,a1,hd⟩:=FY h.st hi;have hp:=aj (i-1) QoW;have q:=aj i hi;have hT:Q1 X.TT ((pos Se s (i-1):Nat):Int)=some [Q4 (fEN Se s X i)]:=by rw [Qd];exact G2 QoW
   have hr:Y1 (((arr (fEN Se s X) i).length+List.length [[D.int .i64 (fEN Se s X i)]])*8)=some ():=XE (by simp only [YO,Qqn,Qqr];omega);have a:Y1 (((arr (fLV Se s X) i).length+List.length [[D.int .i64 (fLV Se s X i)]])*8)=some ():=XE (by simp only [YO,Qqn,Qqr];omega);have aw:Q1 X.TT (if (X.N:Int)<((pos Se s i+X.t:Nat):Int) then (X.N:Int) else ((pos Se s i+X.t:Nat):Int))=some [Q4 (fLV Se s X i)]:=by
    unfold fLV;by_cases ao:i<s.length-1
    ·have:=q.2 ao;rw [Qqg QoW,Qqd ao,Qd];exact G2 QoW
    ·have e:i=s.length-1:=QoW
     rw [Qqd (by rw [hN,e];omega),Qqg ao,Qd];exact G2 QoW
   rw [Zk,hw,Qc hi,Qq8,ak,wI (show ((X.N+1:Nat):Int)-1=(X.N:Int) by omega) QoW QoW];simp -implicitDefEqProofs only [Q0,Qq4,Qq5,Q2,hT,hr,Rr,wI (show (i:Int)+1=((i+1:Nat):Int) by omega) QoW QoW];by_cases t:i=0
   ·subst t;rw [show decide (((0:Nat):Int)>0)=false from rfl,Qq6,wI (show ((pos Se s (0-1):Nat):Int)+tl=((pos Se s 0+X.t:Nat):Int) by rw [<- ht,show 0-1=0 from rfl];omega) QoW QoW,aw];simp -implicitDefEqProofs only [Q0,Qq4,Q2,a,Rr]
   ·have az:pos Se s i=pos Se s (i-1)+sl Se s i:=by
     obtain ⟨k,rfl⟩:∃ k,i=k+1:=⟨i-1,QoW⟩;rfl
    rw [show decide ((i:Int)>0)=true by simp;omega,Qq8,Qd,e];simp -implicitDefEqProofs only [Q0,Qq4,Qq5,Q2,p,wI (show ((pos Se s (i-1):Nat):Int)+((sl Se s i:Nat):Int)=((pos Se s i:Nat):Int) by omega) QoW QoW,wI (show ((pos Se s i:Nat):Int)+tl=((pos Se s i+X.t:Nat):Int) by omega) QoW QoW,aw,a,Rr,Qqk]
  ·simp only [Qq7];rw [Zk,hw,Qi,Qq6]
 have hT:Q1 X.TT (X.N:Int)=some [Q4 (X.T X.N)]:=by rw [Qd];exact G2 QoW
 rw [o,ak,wI (show ((X.N+1:Nat):Int)-1=(X.N:Int) by omega) QoW QoW];simp -implicitDefEqProofs only [hT,Q0,Qq4,Q2,Qdo (n:=400) an.1 (show (1:Int)<=1000 by decide) QoW];rfl
end
abbrev Occ:=Int×Int×Int
def enc (q:Occ):List D:=[Q4 q.1,Q4 q.2.1,Q4 q.2.2]
def P4 (q:Occ):Bool:=decide (q.2.1<q.2.2)
def N1 (T:List Occ) (r:Nat) (f t:Int):List Occ:=match T[r]? with
 |some (_,a,b)=>if a<b then T.set r ((r:Int),(if a<f then a else f),(if t<b then b else t)) else T.set r ((r:Int),f,t)
 |none=>T
theorem Pk {T:List Occ} {r:Nat} {f t:Int}:(N1 T r f t).length=T.length:=by
 unfold N1;split
 ·split <;> simp
 ·rfl
theorem QgI {n:Nat} {T:List Occ} {r:Nat} {f t:Int} (h:r<T.length):Xn n (T.map enc) (r:Int) f t (some:LL->oP LL)=some ((N1 T r f t).map enc):=by
 obtain ⟨⟨x,a,b⟩,e⟩:∃ q,T[r]? = some q:=⟨T[r],Qq9 h⟩;have e2:(T.map enc)[r]? = some [Q4 x,Q4 a,Q4 b]:=by rw [Qqq,e];rfl
 unfold Xn;rw [Qqe,XR QoW QoW];simp -implicitDefEqProofs only [Q0,Qq4,Qq5,Q2,Xx,QJ,Qq8,Qq6,Qqb,Qqa,Qq7,e2,List.set_cons_zero,List.set_cons_succ];unfold N1;simp only [e];by_cases ac:a<b
 ·rw [show decide (a<b)=true by simpa using ac,Qq8,Qqd ac,List.map_set];rfl
 ·rw [show decide (a<b)=false by simpa using ac,Qq6,Qqg ac,List.map_set];rfl
theorem Qji {n:Nat} {T:List Occ} {r:Nat} {f t:Int} (h:r<T.length) (aj:f<t):YM n (T.map fun q=>[D.bool (P4 q)]) (T.map enc) (r:Int) f t Tu2=some ((N1 T r f t).map (fun q=>[D.bool (P4 q)]),(N1 T r f t).map enc):=by
 obtain ⟨⟨x,a,b⟩,e⟩:∃ q,T[r]? = some q:=⟨T[r],Qq9 h⟩;have e2:(T.map enc)[r]? = some [Q4 x,Q4 a,Q4 b]:=by rw [Qqq,e];rfl
 have g:(T.map fun q=>[D.bool (P4 q)])[r]? = some [D.bool (decide (a<b))]:=by rw [Qqq,e];rfl
 unfold YM;rw [Qqe,Qqe,XR QoW QoW];simp -implicitDefEqProofs only [Q0,Qq4,Qq5,Q2,Xx,QJ,Qq8,Qq6,Qqb,Qqa,Qq7,e2,g,Nx,List.set_cons_zero,List.set_cons_succ];unfold N1;simp only [e];by_cases ac:a<b
 ·rw [show decide (a<b)=true by simpa using ac,Qq8,Qqd ac,List.map_set,List.map_set,show P4 ((r:Int),(if a<f then a else f),(if t<b then b else t))=true by simp only [P4,decide_eq_true_eq];split <;> split <;> omega];rfl
 ·rw [show decide (a<b)=false by simpa using ac,Qq6,Qqg ac,List.map_set,List.map_set,show P4 ((r:Int),f,t)=true by simpa [P4] using aj];rfl
theorem Q3Y:∀ {l:List Occ} {i:Nat} {a:Occ},((l.set i a).filter P4).length<=(l.filter P4).length+1
 |[],i,a=>by simp
 |x::l,0,a=>by
  rw [List.set_cons_zero,Qqz,Qqz];split <;> split <;> simp <;> omega
 |x::l,i+1,a=>by
  have:=Q3Y (l:=l) (i:=i) (a:=a);rw [List.set_cons_succ,Qqz,Qqz];split <;> simp <;> omega
theorem Q2K {T:List Occ} {r:Nat} {f t:Int}:((N1 T r f t).filter P4).length<=(T.filter P4).length+1:=by
 unfold N1;split
 ·split <;> exact Q3Y
 ·omega
theorem Qj5 {T:List Occ} (hl:T.length<=300):Vn 400 (T.map enc) (some:LL->oP LL)=some ((T.filter P4).map enc):=by
 unfold Vn;rw [Qqe];refine Qt (r:=fun m i=>XP 400 (T.map enc) (T.length:Int) (fun _ _ w=>some w) m i (((T.take i.toNat).filter P4).map enc)) (N:=T.length) (fun m k hk=>?_) (fun m=>?_) T.length 400 0 QoW QoW
 ·simp only [Qq7];obtain ⟨⟨x,a,b⟩,e⟩:∃ q,T[k]? = some q:=⟨T[k],Qq9 hk⟩;have aj:((((T.take k).filter P4).map enc).length)<=300:=by
   rw [Qqe];have:=List.length_filter_le P4 (T.take k);rw [List.length_take] at this;omega
  rw [XP,Qc hk,Qd,Qqq,e,YA e,List.filter_append,Qqo];simp -implicitDefEqProofs only [Q0,Qq4,Qq5,Q2,Xx,QJ,Qq8,Qq6,Qqb,Qqa,Option.map_some,enc,Qr (show k<=1000 by omega)];by_cases ac:a<b
  ·rw [show decide (a<b)=true by simpa using ac,Qq8,show [(x,a,b)].filter P4=[(x,a,b)] by simp [P4,ac],XE (by simp only [Qqn,Qqr];omega)];rfl
  ·rw [show decide (a<b)=false by simpa using ac,Qq6,show [(x,a,b)].filter P4=[] by simp [P4,ac],List.map_nil,List.append_nil]
 ·simp only [Qq7];rw [XP,Qi,Qq6,Qqx]
theorem Qia {R:Type} {T:List Occ} (hl:T.length<=300) (K:LL->oP R):V9 400 (T.length:Int) (T.map fun q=>[D.bool (P4 q)]) (T.map enc) (fun _ _ w=>K w) 400 0 []=K ((T.filter P4).map enc):=by
 refine Qt (r:=fun m i=>V9 400 (T.length:Int) (T.map fun q=>[D.bool (P4 q)]) (T.map enc) (fun _ _ w=>K w) m i (((T.take i.toNat).filter P4).map enc)) (N:=T.length) (fun m k hk=>?_) (fun m=>?_) T.length 400 0 QoW QoW
 ·simp only [Qq7];obtain ⟨⟨x,a,b⟩,e⟩:∃ q,T[k]? = some q:=⟨T[k],Qq9 hk⟩;have aj:((((T.take k).filter P4).map enc).length)<=300:=by
   rw [Qqe];have:=List.length_filter_le P4 (T.take k);rw [List.length_take] at this;omega
  rw [V9,Qc hk,Qqe,Qqe,XR QoW QoW,Qq7,Qqq,Qqq,e,YA e,List.filter_append,Qqo];simp -implicitDefEqProofs only [Q0,Qq4,Qq5,Q2,Xx,QJ,Qq8,Qq6,Qqb,Qqa,Option.map_some,enc,show P4 (x,a,b)=decide (a<b) from rfl,Nx,Qr (show k<=1000 by omega)];by_cases ac:a<b
  ·rw [show decide (a<b)=true by simpa using ac,Qq8,show [(x,a,b)].filter P4=[(x,a,b)] by simp [P4,ac],XE (by simp only [Qqn,Qqr];omega)];rfl
  ·rw [show decide (a<b)=false by simpa using ac,Qq6,show [(x,a,b)].filter P4=[] by simp [P4,ac],List.map_nil,List.append_nil]
 ·simp only [Qq7];rw [V9,Qi,Qq6,Qqx]
def pt (Li s:LL) (i:Nat):Int:=pv (Qf3 Li (s.getD (i-1) []) (s.getD i []))
def sec (s:LL) (i:Nat):Nat:=match s.getD i [] with
 |.int _ x::_=>x.toNat
 |_=>0
def fr (Se s:LL) (X:Run) (bf:Int) (i:Nat):Int:=if i=0 then -bf else fEN Se s X (i-1) / 1000-16
def tu (Se s:LL) (X:Run) (af:Int) (i:Nat):Int:=if i<s.length-1 then cd (fLV Se s X i) 1000+4 else Q0p X+af
def HQ (N NP:Nat) (Li s:LL) (f g:Nat->Int):Nat->List Occ
 |0=>List.replicate (N+NP) (0,0,0)
 |i+1=>if i=0 then N1 (HQ N NP Li s f g i) (sec s i) (f i) (g i) else if pt Li s i<0 then N1 (HQ N NP Li s f g i) (sec s i) (f i) (g i) else N1 (N1 (HQ N NP Li s f g i) (sec s i) (f i) (g i)) (N+(pt Li s i).toNat) (f i) (g (i-1))
theorem HK {N NP:Nat} {Li s:LL} {f g:Nat->Int}:∀ {i:Nat},(HQ N NP Li s f g i).length=N+NP
 |0=>by simp [HQ]
 |i+1=>by
  rw [HQ];split
  ·rw [Pk,HK]
  ·split <;> simp only [Pk,HK]
theorem Q1O {N NP:Nat} {Li s:LL} {f g:Nat->Int} {j:Nat}:HQ N NP Li s f g (j+1+1)=if pt Li s (j+1)<0 then N1 (HQ N NP Li s f g (j+1)) (sec s (j+1)) (f (j+1)) (g (j+1)) else N1 (N1 (HQ N NP Li s f g (j+1)) (sec s (j+1)) (f (j+1)) (g (j+1))) (N+(pt Li s (j+1)).toNat) (f (j+1)) (g j):=by
 show (if j+1=0 then _ else _)=_;rw [Qqg QoW];rfl
def Q5n (St Pt Se Li s:LL) (X:Run) (bf af:Int):List Occ:=(HQ Se.length Pt.length Li s (fr Se s X bf) (tu Se s X af) s.length).filter P4
section
variable {N NP:Nat} {Li:LL}
theorem Q5t:∀ {s:LL} {k:Nat},Q01 N NP Li k s=true->∀ i,i+1<s.length->∃ p,Qf3 Li (s.getD i []) (s.getD (i+1) [])=some p/\ptR [] [] (List.replicate N []) Li (s.getD i []) (s.getD (i+1) [])=some p /\ -1<=p/\p<NP
 |[],_,_,i,hi=>by simp at hi
 |[_],_,_,i,hi=>by simp at hi
 |r::r'::t,k,h,i,hi=>by
  rw [Q01] at h;split at h
  ·rename_i p q e1 e2;simp only [Qqw,beq_iff_eq,decide_eq_true_eq] at h;obtain ⟨rfl,a,h2,b⟩:=h;cases i with
   |zero=>exact ⟨p,e1,e2,a,h2⟩
   |succ i=>exact Q5t b i (by simpa using hi)
  ·cases h
theorem Q7k:∀ {s:LL} {k:Nat},Q01 N NP Li k s=true->∀ (c:Nat->Nat),(∀ i,c (i+1)<=c i+(if pt Li s (i+1)<0 then 1 else 2))->c 0<=k->∀ i,i<s.length->c i<=5
 |[],_,_,_,_,_,i,hi=>by simp at hi
 |[r],k,h,c,hc,f,i,hi=>by
  have:i=0:=by simpa using hi
  subst this;have:k<=5:=QqC h;omega
 |r::r'::t,k,h,c,hc,f,i,hi=>by
  rw [Q01] at h;split at h
  ·rename_i p q e1 e2;simp only [Qqw,beq_iff_eq,decide_eq_true_eq] at h;obtain ⟨rfl,j,h2,e⟩:=h;have hp:pt Li (r::r'::t) 1=p:=by show pv (Qf3 Li r r')=p;rw [e1];rfl
   have d:c 1<=c 0+(if pt Li (r::r'::t) 1<0 then 1 else 2):=hc 0;rw [hp] at d;have g:c 1<=(bif decide (p<0) then k+1 else k+2):=by
    by_cases hq:p<0
    ·rw [Qqd hq] at d;rw [show decide (p<0)=true by simpa using hq,Qq8];omega
    ·rw [Qqg hq] at d;rw [show decide (p<0)=false by simpa using hq,Qq6];omega
   have ih:=Q7k e (fun i=>c (i+1)) (fun i=>hc (i+1)) g;cases i with
   |zero=>
    have:=ih 0 QoY;have hq:c 0<=5:=by
     have ac:∀ {s:LL} {k:Nat},Q01 N NP Li k s=true->k<=5:=by
      intro s;induction s with
      |nil=>exact fun h=>QqC h
      |cons a s ih=>
       intro k h;cases s with
       |nil=>exact QqC h
       |cons b s=>
        rw [Q01] at h;split at h
        ·simp only [Qqw] at h;have:=ih h.2.2.2;revert this;cases decide (_<(0:Int)) <;> simp <;> omega
        ·cases h
     have:=ac e;revert this;cases decide (p<0) <;> simp <;> omega
    exact hq
   |succ i=>exact ih i (by simpa using hi)
  ·cases h
end
theorem Mg {α:Type} {l:List α} {n:Nat} (h:l.length=n):Hm l n=some ():=by
 grind [Hm,Nat.beq,Nat.beq_refl]
def spn (f g:Nat->Int) (n:Nat):LL:=(List.range n).map fun i=>[Q4 0,Q4 (f i),Q4 (g i)]
theorem Q90 {f g:Nat->Int} {n:Nat}:(spn f g n).length=n:=by simp [spn]
theorem Qh6 {f g:Nat->Int} {n i:Nat} (h:i<n):(spn f g n)[i]? = some [Q4 0,Q4 (f i),Q4 (g i)]:=by simp [spn,h]
theorem Q6F {f g:Nat->Int} {n:Nat}:spn f g n++[[Q4 0,Q4 (f n),Q4 (g n)]]=spn f g (n+1):=by simp [spn,List.range_succ]
theorem CW {St Pt Se Li:LL} (h:Pz 400 St Pt Se Li=true):Pt.length<=48/\Se.length<=96:=by
 simp_all [Pz,Qqw,QqC]
theorem Qb3 {l:List Occ}:FG [l.map enc]=some ():=by
 unfold FG;rw [show ([l.map enc].all BN)=true by simp [BN,enc,Q5y]];rfl
section
variable {St Pt Se Li s:LL} (h:RtF St Pt Se Li s) {nm:List UInt8} {tl sp ac br bf af:Int} (hk:StkN tl sp ac br) (hb0:0<=bf) (hb1:bf<=65536) (ha0:0<=af) (ha1:af<=65536)
include h hk
theorem Q1e {i j:Nat} (ak:i<=j) (hj:j<s.length):0<=fEN Se s (YK Se s nm tl sp ac br) i/\fEN Se s (YK Se s nm tl sp ac br) i<=fLV Se s (YK Se s nm tl sp ac br) j/\fLV Se s (YK Se s nm tl sp ac br) j<=7000000:=by
 have hX:=Mh h (nm:=nm) hk;have a:=Qeu h (nm:=nm) hk hj;have h2:=Q9n (Se:=Se) (s:=s) (i:=i-1) (j:=j) QoW;have c:=Q0J h (nm:=nm) hk (b:=pos Se s (i-1)) QoW;unfold fEN fLV;by_cases hm:j<s.length-1
 ·rw [Qqd hm];exact ⟨c.1,Run.T_mono hX QoW (a.2 hm),(Q0J h (nm:=nm) hk (a.2 hm)).2⟩
 ·rw [Qqg hm];exact ⟨c.1,Run.T_mono hX QoW (Qql _),(Q0J h (nm:=nm) hk (Qql _)).2⟩
include hb0 hb1 ha0 ha1
theorem QgY {i:Nat} (hi:i<s.length) : -70000<=fr Se s (YK Se s nm tl sp ac br) bf i/\fr Se s (YK Se s nm tl sp ac br) bf i<tu Se s (YK Se s nm tl sp ac br) af i/\tu Se s (YK Se s nm tl sp ac br) af i<=80000/\(1<=i->fr Se s (YK Se s nm tl sp ac br) bf i<tu Se s (YK Se s nm tl sp ac br) af (i-1)):=by
 have l2:=h.l2;have hr:=M6 h (nm:=nm) hk;have hN:=Q1e h (nm:=nm) hk (i:=i-1) (j:=s.length-1) QoW QoW;have b:=Q1e h (nm:=nm) hk (i:=i-1) (j:=i) QoW hi;have c:=Q1e h (nm:=nm) hk (i:=i-1) (j:=i-1) QoW QoW;have c1:=MK (a:=fLV Se s (YK Se s nm tl sp ac br) i) QoW (show (1:Int)<=1000 by decide);have c0:=MK (a:=fLV Se s (YK Se s nm tl sp ac br) (i-1)) QoW (show (1:Int)<=1000 by decide);have hl:fLV Se s (YK Se s nm tl sp ac br) (s.length-1)=(YK Se s nm tl sp ac br).T (YK Se s nm tl sp ac br).N:=by unfold fLV;rw [Qqg QoW]
 have cN:=MK (a:=fLV Se s (YK Se s nm tl sp ac br) (s.length-1)) QoW (show (1:Int)<=1000 by decide);have aj:Q0p (YK Se s nm tl sp ac br)=cd (fLV Se s (YK Se s nm tl sp ac br) (s.length-1)) 1000:=by rw [hl];rfl
 unfold fr tu;omega
theorem Qgq:ZV 400 St Pt Se Li s 0 nm tl sp ac br bf af Tu3=some ((Q5n St Pt Se Li s (YK Se s nm tl sp ac br) bf af).map enc,Q0p (YK Se s nm tl sp ac br),0):=by
 have l2:=h.l2;have l24:=h.l24;have a4:=M6 h (nm:=nm) hk;have aj:=fun i j (a7:i<=j) (hj:j<s.length)=>Q1e h (nm:=nm) hk (i:=i) (j:=j) a7 hj
 have aq:=fun i (hi:i<s.length)=>QgY h (nm:=nm) hk hb0 hb1 ha0 ha1 hi
 have bb:=Qfs h (nm:=nm) hk;have bl:=CW h.lay;unfold ZV;rw [QeA h.lay rfl h.l2 h.l24 h.rt h.st hk,Q0,Q8 (by rfl),show decide (bf<0)=false by simpa using hb0,show decide (bf>65536)=false by simpa using hb1,show decide (af<0)=false by simpa using ha0,show decide (af>65536)=false by simpa using ha1];simp -implicitDefEqProofs only [Qq6];unfold ZL;rw [bb];revert a4 aj aq;generalize YK Se s nm tl sp ac br=X;intro a4 aj aq;have v:wJ ((s.length:Int)-1)=((s.length-1:Nat):Int):=Ju QoW QoW;have z:wJ (((s.length-1:Nat):Int)-1)=((s.length-1-1:Nat):Int):=Ju QoW QoW;have ax:∀ i,i<s.length->Q1 (arr (fEN Se s X) s.length) (i:Int)=some [Q4 (fEN Se s X i)]:=fun i hi=>by rw [Qd];exact G2 hi
 have az:∀ i,i<s.length->Q1 (arr (fLV Se s X) s.length) (i:Int)=some [Q4 (fLV Se s X i)]:=fun i hi=>by rw [Qd];exact G2 hi
 have aw:∀ i,i<s.length->Vi 400 (fEN Se s X i) (some:Int->oP Int)=some (fEN Se s X i / 1000):=fun i hi=>QhX (aj i i (Qql i) hi).1 (by have:=aj i i (Qql i) hi;omega)
 have a3:∀ i,i<s.length->JN 400 (fLV Se s X i) (some:Int->oP Int)=some (cd (fLV Se s X i) 1000):=fun i hi=>upA (by have:=aj i i (Qql i) hi;omega) (by have:=aj i i (Qql i) hi;omega)
 have ao:∀ (k:Nat) (r:List D),k<=30->Y1 (((spn (fr Se s X bf) (tu Se s X af) k).length+[r].length)*24)=some ():=fun k r hk=>XE (by simp only [Q90,Qqn,Qqr];omega)
 have f0:fr Se s X bf 0 = -bf:=rfl;have t0:tu Se s X af 0=cd (fLV Se s X 0) 1000+4:=by unfold tu;rw [Qqd QoW]
 have q0:=aq 0 QoW;rw [Q0,Q8 (by rfl)];dsimp only;rw [show (0:Int)=((0:Nat):Int) from rfl,az 0 QoW];simp -implicitDefEqProofs only [Q0,Qq4,Q2,a3 0 QoW,YO,v];have ab:∀ k0:Int->Bool->LL->oP (LL×Int×Int),XI 400 (arr (fEN Se s X) s.length) (arr (fLV Se s X) s.length) ((s.length-1:Nat):Int) k0 400 1 (spn (fr Se s X bf) (tu Se s X af) 1)=k0 ((s.length-1:Nat):Int) false (spn (fr Se s X bf) (tu Se s X af) (s.length-1)):=by
  intro k0;refine Qt (r:=fun m i=>XI 400 (arr (fEN Se s X) s.length) (arr (fLV Se s X) s.length) ((s.length-1:Nat):Int) k0 m ((i.toNat+1:Nat):Int) (spn (fr Se s X bf) (tu Se s X af) (i.toNat+1))) (N:=s.length-1-1) (fun m i hi=>?_) (fun m=>?_) (s.length-1-1) 400 0 QoW QoW
  ·simp only [Qq7];have hf:fr Se s X bf (i+1)=fEN Se s X i / 1000-16:=by unfold fr;rw [Qqg QoW];rfl
   have ht:tu Se s X af (i+1)=cd (fLV Se s X (i+1)) 1000+4:=by unfold tu;rw [Qqd QoW]
   have q:=aq (i+1) QoW;rw [XI,Qc (show i+1<s.length-1 by omega),Qq8,Ju (show i+1<=1000 by omega) QoW,Qqk,ax i QoW];simp -implicitDefEqProofs only [Q0,Qq4,Q2,aw i QoW,az (i+1) QoW,a3 (i+1) QoW,wI hf.symm QoW QoW,wI ht.symm QoW QoW,ao (i+1) _ QoW,Q6F,Qr (show i+1<=1000 by omega)]
  ·simp only [Qq7];rw [show s.length-1-1+1=s.length-1 by omega,XI,Qi,Qq6]
 rw [show ([[D.int .i64 ((0:Nat):Int),D.int .i64 (wJ (((0:Nat):Int)-bf)),D.int .i64 (wJ (cd (fLV Se s X 0) 1000+4))]]:LL)=spn (fr Se s X bf) (tu Se s X af) 1 by
  rw [wI (show ((0:Nat):Int)-bf=fr Se s X bf 0 by omega) QoW QoW,wI t0.symm QoW QoW];rfl,ab]
 have a9:fr Se s X bf (s.length-1)=fEN Se s X (s.length-1-1) / 1000-16:=by unfold fr;rw [Qqg QoW]
 have bc:tu Se s X af (s.length-1)=Q0p X+af:=by unfold tu;rw [Qqg QoW]
 have qm:=aq (s.length-1) QoW;have a5:J5 400 St Pt Se Li (some:LL->oP LL)=some ((HQ Se.length Pt.length Li s (fr Se s X bf) (tu Se s X af) 0).map enc):=by
  unfold J5;rw [wI (show (Se.length:Int)+(Pt.length:Int)=((Se.length+Pt.length:Nat):Int) by omega) QoW QoW,show (bif decide ((0:Int)<=((Se.length+Pt.length:Nat):Int))&&decide (((Se.length+Pt.length:Nat):Int)<=((Se.length+Pt.length:Nat):Int)) then some () else none)=some () by rw [QR QoZ],Q0,Qq7,XE QoW,Q0,HQ,List.map_replicate];rfl
 rw [z,ax (s.length-1-1) QoW];simp -implicitDefEqProofs only [Q0,Qq4,Q2,aw (s.length-1-1) QoW,aw (s.length-1) QoW,ax (s.length-1) QoW,a5,show ((0:Nat):Int)=0 from rfl,wI a9.symm QoW QoW,wI bc.symm QoW QoW,ao (s.length-1) _ QoW,Q6F];rw [show s.length-1+1=s.length by omega];have ad:∀ k0:Int->Bool->LL->LL->oP (LL×Int×Int),Qj 400 ((s.length-1:Nat):Int) s (s.length:Int) St Pt Se Li s (wJ (fEN Se s X (s.length-1) / 1000-16)) (wJ (Q0p X+20)) k0 400 0 (spn (fr Se s X bf) (tu Se s X af) s.length) ((HQ Se.length Pt.length Li s (fr Se s X bf) (tu Se s X af) 0).map enc)=k0 (s.length:Int) false (spn (fr Se s X bf) (tu Se s X af) s.length) ((HQ Se.length Pt.length Li s (fr Se s X bf) (tu Se s X af) s.length).map enc):=by
  intro k0;refine Qt (r:=fun m i=>Qj 400 ((s.length-1:Nat):Int) s (s.length:Int) St Pt Se Li s (wJ (fEN Se s X (s.length-1) / 1000-16)) (wJ (Q0p X+20)) k0 m i (spn (fr Se s X bf) (tu Se s X af) s.length) ((HQ Se.length Pt.length Li s (fr Se s X bf) (tu Se s X af) i.toNat).map enc)) (N:=s.length) (fun m i hi=>?_) (fun m=>?_) s.length 400 0 QoW QoW
  ·simp only [Qq7];obtain ⟨x,d,bk,b,c,st,e,h1,a0,a1,hd⟩:=FY h.st hi;have hx:=T0 h1;have ak:0<=x/\x<Se.length:=by
    have h2:=hx.1;unfold inB at h2;by_cases hc:0<=x/\x<Se.length
    ·exact hc
    ·rw [show (decide (0<=x)&&decide (x<(Se.length:Int)))=false by simp;omega] at h2;cases h2
   have au:x=((sec s i:Nat):Int):=by
    unfold sec;rw [Qqi,e];show x=(x.toNat:Int);omega
   have hT:=HK (N:=Se.length) (NP:=Pt.length) (Li:=Li) (s:=s) (f:=fr Se s X bf) (g:=tu Se s X af) (i:=i);have ha:=QgI (n:=400) (T:=HQ Se.length Pt.length Li s (fr Se s X bf) (tu Se s X af) i) (r:=sec s i) (f:=fr Se s X bf i) (t:=tu Se s X af i) QoW;have a2:∀ j,j<s.length->(spn (fr Se s X bf) (tu Se s X af) s.length)[j]? = some [Q4 0,Q4 (fr Se s X bf j),Q4 (tu Se s X af j)]:=fun j hj=>Qh6 hj
   rw [Qj,Qc hi,Qd,e];simp -implicitDefEqProofs only [Qq8,Q0,Qq4,Qq5,show decide ((i:Int)>((s.length-1:Nat):Int))=false by simp;omega,Qq6,Q2,Q90,XR (len:=s.length) (show (0:Int)<=(i:Int) by omega) (show (i:Int)<(s.length:Int) by omega),Qq7,a2 i hi,au,ha,Qr (show i<=1000 by omega),Mg (l:=(N1 (HQ Se.length Pt.length Li s (fr Se s X bf) (tu Se s X af) i) (sec s i) (fr Se s X bf i) (tu Se s X af i)).map enc) (n:=((HQ Se.length Pt.length Li s (fr Se s X bf) (tu Se s X af) i).map enc).length) (by simp only [Qqe,Pk])];by_cases ag:i=0
   ·subst ag;rw [show (((0:Nat):Int) == 0)=true from rfl,Qq8];rfl
   ·obtain ⟨j,rfl⟩:∃ j,i=j+1:=⟨i-1,QoW⟩;obtain ⟨x',d',bh,b',c',st',e',bg,_,_,a6⟩:=FY h.st (j:=j) QoW;obtain ⟨p,a,al,am,an⟩:=Q5t h.hops j hi;rw [Qqi,Qqi,e,e',Qqt,Qqt] at a;have ba:=T0 bg;have ar:0<=x'/\x'<Se.length:=by
     have h2:=ba.1;unfold inB at h2;by_cases hc:0<=x'/\x'<Se.length
     ·exact hc
     ·rw [show (decide (0<=x')&&decide (x'<(Se.length:Int)))=false by simp;omega] at h2;cases h2
    have a8:pt Li s (j+1)=p:=by
     unfold pt;rw [Qqi,Qqi,e,Qqk,e',Qqt,Qqt,a];rfl
    have ay:=(Qde h.lay ar.1 ar.2 a6 (y:=x) (e:=d)).trans a;rw [au] at ay;rw [show (((j+1:Nat):Int) == 0)=false by simp;omega,Qq6,Ju (show j+1<=1000 by omega) QoW,Qqk,Qd,e'];simp -implicitDefEqProofs only [Q0,Qq4,Qq5,Q2,ay];rw [Q1O,a8];by_cases hp:p<0
    ·rw [show decide (p<0)=true by simpa using hp,Qq8,Qqd hp]
    ·have ah:=QgI (n:=400) (T:=N1 (HQ Se.length Pt.length Li s (fr Se s X bf) (tu Se s X af) (j+1)) (sec s (j+1)) (fr Se s X bf (j+1)) (tu Se s X af (j+1))) (r:=Se.length+p.toNat) (f:=fr Se s X bf (j+1)) (t:=tu Se s X af j) (by rw [Pk];omega);rw [show decide (p<0)=false by simpa using hp,Qq6,Qqg hp,show decide (((j+1:Nat):Int)<=((s.length-1:Nat):Int))=true by simp;omega,Qq8];simp -implicitDefEqProofs only [XR (len:=s.length) (show (0:Int)<=(j:Int) by omega) (show (j:Int)<(s.length:Int) by omega),Q0,Qq4,Qq5,Q2,a2 j QoW,wI (show (Se.length:Int)+p=((Se.length+p.toNat:Nat):Int) by omega) QoW QoW,Qq7,ah,Qqk];rw [Mg (by simp only [Qqe,Pk]),Q0]
  ·simp only [Qq7];rw [Qj,Qi,Qq6]
 rw [ad,Qj5 (by rw [HK];omega),Q0,Qb3,Q0];rfl
end
theorem Qhb {St Pt Se Li L:LL} {x d y e p:Int} (h:ptR [] [] L Li [Q4 x,Q4 d] [Q4 y,Q4 e]=some p):∃ a b c,JO 400 St Pt Se Li x d y e Tu5=some (a,b,Q4 p,c,true):=by
 rw [QjH (a':=[]) (b':=[]) (L':=L)];unfold ptR at h;dsimp only at h;split at h
 ·rename_i he;cases h;exact ⟨_,_,_,he⟩
 ·cases h
def Qd0 (T:List Occ):LL:=T.map fun q=>[D.bool (P4 q)]
section
variable {St Pt Se Li s:LL} (h:RtF St Pt Se Li s) {nm:List UInt8} {tl sp ac br bf af:Int} (hk:StkN tl sp ac br) (hb0:0<=bf) (hb1:bf<=65536) (ha0:0<=af) (ha1:af<=65536)
include h hk hb0 hb1 ha0 ha1
theorem Qi6:Hc 400 St Pt Se Li s 0 nm tl sp ac br bf af Tu3=some ((Q5n St Pt Se Li s (YK Se s nm tl sp ac br) bf af).map enc,Q0p (YK Se s nm tl sp ac br),0):=by
 have l2:=h.l2;have l24:=h.l24;have a9:=M6 h (nm:=nm) hk;have ay:=fun i j (bh:i<=j) (hj:j<s.length)=>Q1e h (nm:=nm) hk (i:=i) (j:=j) bh hj
 have a3:=fun i (hi:i<s.length)=>QgY h (nm:=nm) hk hb0 hb1 ha0 ha1 hi
 have bk:=Qih h (nm:=nm) hk;have b6:=CW h.lay;unfold Hc;rw [Qa3 h hk,Q0,Q8 (by rfl),Q4F hb0 hb1,Q0,Q4F ha0 ha1];simp -implicitDefEqProofs only [Q0,Qqb,Qq6,Qqa];rw [bk];revert a9 ay a3;generalize YK Se s nm tl sp ac br=X;intro a9 ay a3;have o:wJ ((s.length:Int)-1)=((s.length-1:Nat):Int):=Ju QoW QoW;have bb:∀ i,i<s.length->Q1 (arr (fEN Se s X) s.length) (i:Int)=some [Q4 (fEN Se s X i)]:=fun i hi=>by rw [Qd];exact G2 hi
 have a4:∀ i,i<s.length->Q1 (arr (fLV Se s X) s.length) (i:Int)=some [Q4 (fLV Se s X i)]:=fun i hi=>by rw [Qd];exact G2 hi
 have a5:∀ i,i<s.length->VD 400 (fEN Se s X i) 1000 (some:Int->oP Int)=some (fEN Se s X i / 1000):=fun i hi=>Qh4 (ay i i (Qql i) hi).1 (by have:=ay i i (Qql i) hi;omega)
 have a8:∀ i,i<s.length->Jp 400 (fLV Se s X i) 1000 (some:Int->oP Int)=some (cd (fLV Se s X i) 1000):=fun i hi=>Qdo (by have:=ay i i (Qql i) hi;omega) QoX (by have:=ay i i (Qql i) hi;omega)
 have bg:wJ ((Se.length:Int)+(Pt.length:Int))=((Se.length+Pt.length:Nat):Int):=wI QoW QoW QoW;have hg:(bif decide ((0:Int)<=((Se.length+Pt.length:Nat):Int))&&decide (((Se.length+Pt.length:Nat):Int)<=((Se.length+Pt.length:Nat):Int)) then some () else none)=some ():=by rw [QR QoZ]
 rw [Q0];dsimp only;simp -implicitDefEqProofs only [bg,hg,Q0,Qq7,XE (show (Se.length+Pt.length)*1<=100000 by omega),XE (show (Se.length+Pt.length)*24<=100000 by omega),YO,o];let T:Nat->List Occ:=fun i=>HQ Se.length Pt.length Li s (fr Se s X bf) (tu Se s X af) i
 have t:∀ k0:Int->Int->Bool->LL->LL->oP (LL×Int×Int),Wa 400 bf af (arr (fEN Se s X) s.length) (arr (fLV Se s X) s.length) (Q0p X) ((s.length-1:Nat):Int) St Pt Se Li s k0 400 0 0 (Qd0 (T 0)) ((T 0).map enc)=k0 (tu Se s X af (s.length-1)) (s.length:Int) false (Qd0 (T s.length)) ((T s.length).map enc):=by
  intro k0;refine Qt (r:=fun m i=>Wa 400 bf af (arr (fEN Se s X) s.length) (arr (fLV Se s X) s.length) (Q0p X) ((s.length-1:Nat):Int) St Pt Se Li s k0 m (if i.toNat=0 then 0 else tu Se s X af (i.toNat-1)) i (Qd0 (T i.toNat)) ((T i.toNat).map enc)) (N:=s.length) (fun m i hi=>?_) (fun m=>?_) s.length 400 0 QoW QoW
  ·simp only [Qq7];obtain ⟨x,d,bx,b,c,st,e,u,a0,a1,hd⟩:=FY h.st hi;have hx:=T0 u;have ax:0<=x/\x<Se.length:=by
    have h2:=hx.1;unfold inB at h2;by_cases hc:0<=x/\x<Se.length
    ·exact hc
    ·rw [show (decide (0<=x)&&decide (x<(Se.length:Int)))=false by simp;omega] at h2;cases h2
   have a2:x=((sec s i:Nat):Int):=by
    unfold sec;rw [Qqi,e];show x=(x.toNat:Int);omega
   have hT:(T i).length=Se.length+Pt.length:=HK;have q:=a3 i hi;have ha:YM 400 (Qd0 (T i)) ((T i).map enc) ((sec s i:Nat):Int) (fr Se s X bf i) (tu Se s X af i) Tu2=_:=Qji QoW q.2.1;rw [Wa,Qc hi,Qq8];have hz:∀ (J:Int->Int->oP (LL×Int×Int)),jn J (fun j=>bif ((i:Int) == (0:Int)) then
      gb true (Q1 (arr (fLV Se s X) s.length) (0:Int)) [] fun v=>gb true (v[0]?) oF fun y=>gb true (pIw y) 0 fun z=>gb true (Jp 400 z (1000:Int) some) 0 fun aa=>j (wJ (0-bf)) (wJ (aa+(4:Int)))
     else bif (decide ((i:Int)<((s.length-1:Nat):Int))) then
      gb true (Q1 (arr (fEN Se s X) s.length) (wJ ((i:Int)-(1:Int)))) [] fun ab=>gb true (ab[0]?) oF fun ad=>gb true (pIw ad) 0 fun ae=>gb true (VD 400 ae (1000:Int) some) 0 fun ag=>
      gb true (Q1 (arr (fLV Se s X) s.length) (i:Int)) [] fun ah=>gb true (ah[0]?) oF fun ai=>gb true (pIw ai) 0 fun aj=>gb true (Jp 400 aj (1000:Int) some) 0 fun ak=>j (wJ (ag-(16:Int))) (wJ (ak+(4:Int)))
     else bif ((i:Int) == ((s.length-1:Nat):Int)) then
      gb true (Q1 (arr (fEN Se s X) s.length) (wJ (((s.length-1:Nat):Int)-(1:Int)))) [] fun al=>gb true (al[0]?) oF fun am=>gb true (pIw am) 0 fun an=>gb true (VD 400 an (1000:Int) some) 0 fun ao=>j (wJ (ao-(16:Int))) (wJ (Q0p X+af))
     else
      gb true (Q1 (arr (fEN Se s X) s.length) ((s.length-1:Nat):Int)) [] fun ap=>gb true (ap[0]?) oF fun aq=>gb true (pIw aq) 0 fun ar=>gb true (VD 400 ar (1000:Int) some) 0 fun au=>j (wJ (au-(16:Int))) (wJ (Q0p X+(20:Int))))=J (fr Se s X bf i) (tu Se s X af i):=by
    intro J;dsimp only [jn];by_cases g:i=0
    ·subst g;have t0:tu Se s X af 0=cd (fLV Se s X 0) 1000+4:=by unfold tu;rw [Qqd QoW]
     have f0:fr Se s X bf 0 = -bf:=rfl;rw [show (((0:Nat):Int) == 0)=true from rfl,Qq8,show (0:Int)=((0:Nat):Int) from rfl,a4 0 hi];simp -implicitDefEqProofs only [Q0,Qq4,Q2,a8 0 hi,wI (show ((0:Nat):Int)-bf=fr Se s X bf 0 by omega) QoW QoW,wI t0.symm QoW QoW]
    ·have hp:fr Se s X bf i=fEN Se s X (i-1) / 1000-16:=by unfold fr;rw [Qqg g]
     rw [show ((i:Int) == 0)=false by simp;omega,Qq6];by_cases a7:i<s.length-1
     ·have ht:tu Se s X af i=cd (fLV Se s X i) 1000+4:=by unfold tu;rw [Qqd a7]
      rw [Qc a7,Qq8,Ju QoW QoW,bb (i-1) QoW];simp -implicitDefEqProofs only [Q0,Qq4,Q2,a5 (i-1) QoW,a4 i hi,a8 i hi,wI hp.symm QoW QoW,wI ht.symm QoW QoW]
     ·obtain rfl:i=s.length-1:=QoW
      have ht:tu Se s X af (s.length-1)=Q0p X+af:=by unfold tu;rw [Qqg QoW]
      rw [Qi,Qq6,show (((s.length-1:Nat):Int) == ((s.length-1:Nat):Int))=true by simp,Qq8,Ju QoW QoW,bb (s.length-1-1) QoW];simp -implicitDefEqProofs only [Q0,Qq4,Q2,a5 (s.length-1-1) QoW,wI hp.symm QoW QoW,wI ht.symm QoW QoW]
   rw [hz,Qd,e];simp -implicitDefEqProofs only [Q0,Qq4,Qq5,Q2,a2,ha,Qr (show i<=1000 by omega),Qqk,Nat.succ_ne_zero,if_false];by_cases g:i=0
   ·subst g;rw [show decide (((0:Nat):Int)>0)=false from rfl,Qq6];rfl
   ·obtain ⟨j,rfl⟩:∃ j,i=j+1:=⟨i-1,QoW⟩;obtain ⟨x',d',bl,b',c',st',e',b7,_,_,bv⟩:=FY h.st (j:=j) QoW;obtain ⟨p,l,k,az,ba⟩:=Q5t h.hops j hi;rw [Qqi,Qqi,e,e',Qqt,Qqt] at l k;have bi:pt Li s (j+1)=p:=by
     unfold pt;rw [Qqi,Qqi,e,Qqk,e',Qqt,Qqt,l];rfl
    rw [a2] at k;obtain ⟨u1,u2,u3,hj⟩:=Qhb (St:=St) (Pt:=Pt) (Se:=Se) k;rw [Qp4 (((j+1:Nat):Int)>0),Qq8,Ju (show j+1<=1000 by omega) QoW,Qqk,Qd,e'];simp -implicitDefEqProofs only [Q0,Qq4,Qq5,Q2,hj];have bj:T (j+1+1)=if p<0 then N1 (T (j+1)) (sec s (j+1)) (fr Se s X bf (j+1)) (tu Se s X af (j+1)) else N1 (N1 (T (j+1)) (sec s (j+1)) (fr Se s X bf (j+1)) (tu Se s X af (j+1))) (Se.length+p.toNat) (fr Se s X bf (j+1)) (tu Se s X af j):=by
     show HQ _ _ _ _ _ _ (j+1+1)=_;rw [Q1O,bi]
    rw [bj];by_cases hp:p<0
    ·rw [show decide (p>=0)=false by simp;omega,Qq6,Qqd hp];rfl
    ·have aw:YM 400 (Qd0 (N1 (T (j+1)) (sec s (j+1)) (fr Se s X bf (j+1)) (tu Se s X af (j+1)))) ((N1 (T (j+1)) (sec s (j+1)) (fr Se s X bf (j+1)) (tu Se s X af (j+1))).map enc) ((Se.length+p.toNat:Nat):Int) (fr Se s X bf (j+1)) (tu Se s X af j) Tu2=_:=Qji (by rw [Pk];omega) (q.2.2.2 QoW);rw [show decide (p>=0)=true by simp;omega,Qq8,Qqg hp,show decide (((j+1:Nat):Int)>((s.length-1:Nat):Int))=false by simp;omega,Qq6];have n:=aw;unfold Qd0 at n;simp -implicitDefEqProofs only [Q0,wI (show (Se.length:Int)+p=((Se.length+p.toNat:Nat):Int) by omega) QoW QoW,n,Qqk,Qqg (Nat.succ_ne_zero _)];rfl
  ·simp only [Qq7];rw [Wa,Qi,Qq6,Qqg QoW]
 have a6:T 0=List.replicate (Se.length+Pt.length) (0,0,0):=rfl;have e1:List.replicate (Se.length+Pt.length) [D.bool false]=Qd0 (T 0):=by rw [a6];unfold Qd0;rw [List.map_replicate];rfl
 have e2:List.replicate (Se.length+Pt.length) [D.int .i64 (0:Int),D.int .i64 (0:Int),D.int .i64 (0:Int)]=(T 0).map enc:=by rw [a6,List.map_replicate];rfl
 rw [e1,e2,t];have hl:((Se.length+Pt.length:Nat):Int)=(((T s.length).length:Nat):Int):=by rw [show (T s.length).length=Se.length+Pt.length from HK]
 rw [hl];exact Qia (by rw [show (T s.length).length=Se.length+Pt.length from HK];omega) _
end
def OL:Int->List Occ->Prop
 |_,[]=>True
 |l,(x,a,b)::r=>l<x /\ -1000<=a/\a<b/\b<=20000/\x<=1000/\OL x r
theorem OL.mono:∀ {l l':Int} {O:List Occ},l'<=l->OL l O->OL l' O
 |_,_,[],_,_=>trivial
 |_,_,(x,a,b)::r,h,⟨c,h2⟩=>⟨QoW,h2⟩
theorem OL.filter {p:Occ->Bool}:∀ {l:Int} {O:List Occ},OL l O->OL l (O.filter p)
 |_,[],_=>trivial
 |l,(x,a,b)::r,⟨d,h2,e,f,g,c⟩=>by
  rw [Qqz];split
  ·exact ⟨d,h2,e,f,g,c.filter⟩
  ·exact (c.filter).mono QoW
theorem OL.mem:∀ {l:Int} {O:List Occ},OL l O->∀ q∈O,l<q.1 /\ -1000<=q.2.1/\q.2.1<q.2.2/\q.2.2<=20000/\q.1<=1000
 |_,[],_,_,h=>nomatch h
 |l,(x,a,b)::r,⟨c,h2,d,e,f,g⟩,q,h=>by
  cases h with
  |head=>exact ⟨c,h2,d,e,f⟩
  |tail _ h=>have:=g.mem q h;exact ⟨QoW,this.2⟩
def TI (T:List Occ):Prop:=∀ (r:Nat) (x a b:Int),T[r]? = some (x,a,b)->a<b->x=(r:Int) /\ -1000<=a/\b<=20000
theorem TI.add {T:List Occ} (h:TI T) {r:Nat} {f t:Int} (hf : -1000<=f) (ht:t<=20000):TI (N1 T r f t):=by
 unfold N1;cases e:T[r]? with
 |none=>exact h
 |some q=>
  obtain ⟨x,a,b⟩:=q;dsimp only;have hr:=(Qqc.1 e).1;by_cases an:a<b
  ·have c:=h r x a b e an;rw [Qqd an];intro r' x' a' b' e' aj;rw [List.getElem?_set] at e';by_cases ak:r=r'
   ·subst ak;rw [Qqd rfl,Qqd hr] at e';cases e';refine ⟨rfl,?_,?_⟩ <;> split <;> omega
   ·rw [Qqg ak] at e';exact h r' x' a' b' e' aj
  ·rw [Qqg an];intro r' x' a' b' e' aj;rw [List.getElem?_set] at e';by_cases ak:r=r'
   ·subst ak;rw [Qqd rfl,Qqd hr] at e';cases e';exact ⟨rfl,hf,ht⟩
   ·rw [Qqg ak] at e';exact h r' x' a' b' e' aj
theorem TI.ol:∀ {T:List Occ} {k:Nat},T.length+k<=1000->(∀ (r:Nat) (x a b:Int),T[r]? = some (x,a,b)->a<b->x=((r+k:Nat):Int) /\ -1000<=a/\b<=20000)->OL ((k:Int)-1) (T.filter P4)
 |[],_,_,_=>trivial
 |(x,a,b)::T,k,hk,h=>by
  have ih:=TI.ol (T:=T) (k:=k+1) (by simp at hk;omega) fun r x a b e aj=>by
   have:=h (r+1) x a b e aj;rw [show r+1+k=r+(k+1) by omega] at this;exact this
  rw [show ((k+1:Nat):Int)-1=(k:Int) by omega] at ih;have c:=h 0 x a b rfl;rw [Qqz];by_cases aj:a<b
  ·have c:=c aj;rw [show P4 (x,a,b)=true by simpa [P4] using aj,Qqd rfl];have hx:x=(k:Int):=by simpa using c.1
   refine ⟨QoW,c.2.1,aj,c.2.2,by simp at hk;omega,?_⟩;rw [hx];exact ih
  ·rw [show P4 (x,a,b)=false by simpa [P4] using aj,Qqg QoY];exact ih.mono QoW
section
variable {St Pt Se Li s:LL} (h:RtF St Pt Se Li s) {nm:List UInt8} {tl sp ac br bf af:Int} (hk:StkN tl sp ac br) (hb0:0<=bf) (hb1:bf<=60) (ha0:0<=af) (ha1:af<=5000)
include h hk hb0 hb1 ha0 ha1
theorem Qdb {i:Nat} (hi:i<s.length) : -1000<=fr Se s (YK Se s nm tl sp ac br) bf i/\tu Se s (YK Se s nm tl sp ac br) af i<=20000:=by
 have l2:=h.l2;have hr:=M6 h (nm:=nm) hk;have b:=Q1e h (nm:=nm) hk (i:=i-1) (j:=i) QoW hi;have c1:=MK (a:=fLV Se s (YK Se s nm tl sp ac br) i) QoW (show (1:Int)<=1000 by decide);unfold fr tu;constructor
 ·split <;> omega
 ·split <;> omega
theorem Qay:OL (-1) (Q5n St Pt Se Li s (YK Se s nm tl sp ac br) bf af)/\(Q5n St Pt Se Li s (YK Se s nm tl sp ac br) bf af).length<=6:=by
 have an:=CW h.lay;have aj:=fun i (hi:i<s.length)=>Qdb h (nm:=nm) hk hb0 hb1 ha0 ha1 hi
 have l2:=h.l2;unfold Q5n;generalize YK Se s nm tl sp ac br=X at aj;have hT:∀ i,i<=s.length->TI (HQ Se.length Pt.length Li s (fr Se s X bf) (tu Se s X af) i):=by
  intro i;induction i with
  |zero=>
   intro _ r x a b e ak;have:=Qqc.1 e;obtain ⟨d,h2⟩:=this;simp only [HQ,List.getElem_replicate] at h2;cases h2;omega
  |succ i ih=>
   intro hi;have ih:=ih QoW;have q:=aj i QoW;rw [HQ];split
   ·exact ih.add q.1 q.2
   ·have c:=aj (i-1) QoW;split
    ·exact ih.add q.1 q.2
    ·exact (ih.add q.1 q.2).add q.1 c.2
 constructor
 ·have:=TI.ol (T:=HQ Se.length Pt.length Li s (fr Se s X bf) (tu Se s X af) s.length) (k:=0) (by rw [HK];omega) (fun r x a b e ak=>hT _ (Qql _) r x a b e ak);exact this
 ·have hc:=Q7k h.hops (fun i=>((HQ Se.length Pt.length Li s (fr Se s X bf) (tu Se s X af) (i+1)).filter P4).length-1) (fun i=>?_) ?_ (s.length-1) QoW
  ·rw [show s.length-1+1=s.length by omega] at hc;omega
  ·rw [Q1O];have c1:=Q2K (T:=HQ Se.length Pt.length Li s (fr Se s X bf) (tu Se s X af) (i+1)) (r:=sec s (i+1)) (f:=fr Se s X bf (i+1)) (t:=tu Se s X af (i+1));split
   ·omega
   ·have g:=Q2K (T:=N1 (HQ Se.length Pt.length Li s (fr Se s X bf) (tu Se s X af) (i+1)) (sec s (i+1)) (fr Se s X bf (i+1)) (tu Se s X af (i+1))) (r:=Se.length+(pt Li s (i+1)).toNat) (f:=fr Se s X bf (i+1)) (t:=tu Se s X af i);omega
  ·have c1:=Q2K (T:=HQ Se.length Pt.length Li s (fr Se s X bf) (tu Se s X af) 0) (r:=sec s 0) (f:=fr Se s X bf 0) (t:=tu Se s X af 0);have c0:((HQ Se.length Pt.length Li s (fr Se s X bf) (tu Se s X af) 0).filter P4).length=0:=by
    rw [HQ];simp [P4]
   show ((HQ Se.length Pt.length Li s (fr Se s X bf) (tu Se s X af) 1).filter P4).length-1<=0;rw [HQ,Qqd rfl];omega
end
end Go.Vx
namespace Go.Vx
variable {R:Type} (n:Nat)
def XY (o:Int) (ac:LL) (p:Int) (f g h i:LL) (q:Int) (b c r s t u v:LL) (j x:D) (k0:Qlm R) (k1:Qlx R):Qly R
 | 0,_,_,_=>none
 | m+1,a,d,e=>bif decide (a<p) then QkJ R ac a fun ai aj=>Qku R ai[1]? fun ak=>Ql9 R ai fun ar=>QkF R ak ar fun al am=>Qkt R (wJ (a+1)) fun k=>bif a==0 then Qku R (pSl 4 x) fun au=>bif a==wJ ((au.length:Int)-1) then Qku R (pIw ak) fun av=>Qku R (KR n q b c r s t u v o some) fun aw=>Qlf R aj c fun ay az=>QkM R j b ay az fun bh bi bj bk bl bm bn=>Qku R (ZV n f g h i bh bi bj bk bl bm bn 60 (wJ (av+aw)) Tu3) fun y=>bif y.2.2 !=0 then k0 y.2.2 else Ql4 R ((d.length+[[D.sl 3 y.1]].length)*24) ((e.length+[[Q4 y.2.1]].length)*8) (XY o ac p f g h i q b c r s t u v j x k0 k1 m k (d++[[D.sl 3 y.1]]) (e++[[Q4 y.2.1]])) else Qlf R aj c fun bp bq=>QkM R j b bp bq fun ca cb cc ce cf cg ch=>Qku R (ZV n f g h i ca cb cc ce cf cg ch 60 (wJ (al+am)) Tu3) fun z=>bif z.2.2 !=0 then k0 z.2.2 else Ql4 R ((d.length+[[D.sl 3 z.1]].length)*24) ((e.length+[[Q4 z.2.1]].length)*8) (XY o ac p f g h i q b c r s t u v j x k0 k1 m k (d++[[D.sl 3 z.1]]) (e++[[Q4 z.2.1]])) else Qku R (pSl 4 x) fun ci=>bif a==wJ ((ci.length:Int)-1) then Qku R (pIw ak) fun cj=>Qku R (KR n q b c r s t u v o some) fun ck=>Qlf R aj c fun cn co=>QkM R j b cn co fun cv cw cx cy cz da db=>Qku R (ZV n f g h i cv cw cx cy cz da db 0 (wJ (cj+ck)) Tu3) fun aa=>bif aa.2.2 !=0 then k0 aa.2.2 else Ql4 R ((d.length+[[D.sl 3 aa.1]].length)*24) ((e.length+[[Q4 aa.2.1]].length)*8) (XY o ac p f g h i q b c r s t u v j x k0 k1 m k (d++[[D.sl 3 aa.1]]) (e++[[Q4 aa.2.1]])) else Qlf R aj c fun dd de=>QkM R j b dd de fun dl dn dp dq dr ds dt=>Qku R (ZV n f g h i dl dn dp dq dr ds dt 0 (wJ (al+am)) Tu3) fun ab=>bif ab.2.2 !=0 then k0 ab.2.2 else Ql4 R ((d.length+[[D.sl 3 ab.1]].length)*24) ((e.length+[[Q4 ab.2.1]].length)*8) (XY o ac p f g h i q b c r s t u v j x k0 k1 m k (d++[[D.sl 3 ab.1]]) (e++[[Q4 ab.2.1]])) else k1 a (decide (a<p)) d e
def ZE (h2:LL) (c:Int) (d e f g:LL) (h:Int) (i j k l o p q:LL) (k0:Qlm R) (k1:Qlx R):Qly R
 | 0,_,_,_=>none
 | m+1,a,r,s=>bif decide (a<c) then QkO R h2 a fun b v=>Ql9 R b fun t=>Qku R (pSl 4 t) fun u=>XY n a u (u.length:Int) d e f g h i j k l o p q v t (fun x=>k0 x) (fun ac ad y z=>ZE h2 c d e f g h i j k l o p q k0 k1 m (wJ (a+1)) y z) n 0 r s else k1 a (decide (a<c)) r s
def HY (b c d e:LL) (f:Int) (g h a i j k l:LL) (K:LL->LL->Int->oP R):oP R:=Qku R (Jd n b c d e f g h a i j k l some) fun m=>bif m !=0 then K [] [] 1 else ZE n a (a.length:Int) b c d e f g h a i j k l (fun o=>K [] [] o) (fun r s p q=>K p q 0) n 0 [] []
end Go.Vx
namespace Go.Vx
def QaV {α:Type} (nr:Nat->Nat) (f:Nat->Nat->α):Nat->List α
 |0=>[]
 |i+1=>QaV nr f i++(List.range (nr i)).map (f i)
def base (nr:Nat->Nat):Nat->Nat
 |0=>0
 |i+1=>base nr i+nr i
theorem Zs {α:Type} {nr:Nat->Nat} {f:Nat->Nat->α}:∀ {i:Nat},(QaV nr f i).length=base nr i
 |0=>rfl
 |i+1=>by rw [QaV,QqA,Zs,base,Qqe,List.length_range]
theorem Sd {nr:Nat->Nat} {i:Nat}:∀ {j:Nat},i<j->base nr i+nr i<=base nr j
 |0,h=>by omega
 |j+1,h=>by
  rw [base];by_cases ac:i=j
  ·subst ac;omega
  ·have:=Sd (nr:=nr) (i:=i) (j:=j) QoW;omega
theorem Ey {α:Type} {nr:Nat->Nat} {f:Nat->Nat->α} {i k:Nat} (hk:k<nr i):∀ {L:Nat},i<L->(QaV nr f L)[base nr i+k]? = some (f i k)
 |0,h=>by omega
 |L+1,h=>by
  rw [QaV];by_cases ac:i=L
  ·subst ac;rw [List.getElem?_append_right (by rw [Zs];omega),Zs,Nat.add_sub_cancel_left,Qqq,List.getElem?_range hk];rfl
  ·have:=Sd (nr:=nr) (i:=i) (j:=L) QoW;rw [List.getElem?_append_left (by rw [Zs];omega)];exact Ey hk QoW
theorem Q6V {nr:Nat->Nat} {a:Nat}:∀ {L:Nat},a<base nr L->∃ i k,i<L/\k<nr i/\a=base nr i+k
 |0,h=>by simp [base] at h
 |L+1,h=>by
  rw [base] at h;by_cases ha:a<base nr L
  ·obtain ⟨i,k,c,h2,b⟩:=Q6V ha;exact ⟨i,k,QoW,h2,b⟩
  ·exact ⟨L,a-base nr L,QoW,QoW,QoW⟩
theorem Fy {nr:Nat->Nat} {i k i' k':Nat} (h:k<nr i) (h':k'<nr i') (e:base nr i+k=base nr i'+k'):i=i'/\k=k':=by
 rcases Nat.lt_trichotomy i i' with hi | hi | hi
 ·have:=Sd (nr:=nr) hi;omega
 ·simp_all
 ·have:=Sd (nr:=nr) hi;omega
def Kp (Ls:LL) (i:Nat):LL:=match Ls[i]? with
 |some [_,_,_,.sl _ r]=>r
 |_=>[]
def wOf (Ls:LL) (i:Nat):Int:=match Ls[i]? with
 |some [_,_,.int _ w,_]=>w
 |_=>0
def rF (Ls:LL) (i k j:Nat):Int:=match ((Kp Ls i).getD k [])[j]? with
 |some (.int _ x)=>x
 |_=>0
def Qjw (Ro:LL) (r:Int):LL:=match Ro[r.toNat]? with
 |some [.sl _ s,_]=>s
 |_=>[]
structure Cx where
 G:Geo
 Ro:LL
 Ls:LL
 T:List Tup
 nm:List UInt8
 tl:Int
 sp:Int
 ac:Int
 br:Int
namespace Cx
variable (X:Cx)
def nr (i:Nat):Nat:=(Kp X.Ls i).length
def w (i:Nat):Int:=wOf X.Ls i
def ex (i k:Nat):Int:=rF X.Ls i k 1
def mn (i k:Nat):Int:=rF X.Ls i k 2
def mx (i k:Nat):Int:=rF X.Ls i k 3
def st (i k:Nat):LL:=Qjw X.Ro (rF X.Ls i k 0)
def rn (i k:Nat):Run:=YK X.G.Se (X.st i k) X.nm X.tl X.sp X.ac X.br
def tn (i:Nat):oP Tup:=X.T.find? fun t=>t.1 == i
def rest (i:Nat):Int:=match X.tn i with
 |some t=>if 60<t.2.2.2 then t.2.2.2 else 60
 |none=>60
def bf (k:Nat):Int:=if k=0 then 60 else 0
def af (i k:Nat):Int:=if k=X.nr i-1 then X.ex i k+X.rest i else X.ex i k+X.mx i k
def occ (i k:Nat):List Occ:=Q5n X.G.St X.G.Pt X.G.Se X.G.Li (X.st i k) (X.rn i k) (bf k) (X.af i k)
def run (i k:Nat):Int:=Q0p (X.rn i k)
def L:Nat:=X.Ls.length
structure OK:Prop where
 g:X.G.OK
 sk:StkN X.tl X.sp X.ac X.br
 gd:GoodP X.G X.Ro X.Ls
 l0:1<=X.Ls.length
 l1:X.Ls.length<=3
 tr:∀ t∈X.T,Qa2 X.G X.Ro X.Ls t
 fd:(X.T.map (·.1)).Nodup
 td:(X.T.map (·.2.1)).Nodup
 tl:X.T.length<=20
structure RdOK (i k:Nat):Prop where
 row:(Kp X.Ls i)[k]? = some [Q4 (rF X.Ls i k 0),Q4 (X.ex i k),Q4 (X.mn i k),Q4 (X.mx i k)]
 ro:Q1 X.Ro (rF X.Ls i k 0)=some [D.sl 2 (X.st i k),Q4 0]
 rt:RtF X.G.St X.G.Pt X.G.Se X.G.Li (X.st i k)
 ex0:0<=X.ex i k
 ex1:X.ex i k<3
 mn0:0<=X.mn i k
 mn1:X.mn i k<=X.mx i k
 mn2:X.mx i k<=X.mn i k+3
 mn3:X.mn i k<=10
variable {X} (h:X.OK)
include h
theorem K3 {i:Nat} (hi:i<X.Ls.length):X.Ls[i]? = some [D.str (nmN i),Q4 0,Q4 (X.w i),D.sl 4 (Kp X.Ls i)]/\(X.nr i=1\/X.nr i=2)/\(0<=X.w i/\X.w i<4):=by
 obtain ⟨w,rides,b,h2,c,a⟩:=h.gd.ls i _ (Qq9 hi);have er:Kp X.Ls i=rides:=by grind [Kp]
 have ew:X.w i=w:=by grind [Cx.w,wOf]
 refine ⟨by simp_all,?_,QoW⟩;unfold nr;rw [er];rcases a with ⟨r,x,y,rfl,_⟩ | ⟨r,r',x,y,z,rfl,_,_⟩
 all_goals simp
theorem rd {i k:Nat} (hi:i<X.Ls.length) (hk:k<X.nr i):X.RdOK i k:=by
 obtain ⟨w,rides,j,h2,l,d⟩:=h.gd.ls i _ (Qq9 hi);have e:X.Ls[i]? = some [D.str (nmN i),Q4 0,Q4 w,D.sl 4 rides]:=by simp_all
 have er:Kp X.Ls i=rides:=by grind [Kp]
 have hr:∃ r x y b,rides[k]? = some r/\PB X.G X.Ro r x y b:=by
  unfold nr at hk;rw [er] at hk;rcases d with ⟨r,x,y,rfl,h⟩ | ⟨r,r',x,y,z,rfl,h,h'⟩
  all_goals grind
 obtain ⟨r,x,y,b,hr,rt,ex,mn,mx,s,rfl,c,f,m,n,o⟩:=hr;have eg:(Kp X.Ls i).getD k []=[Q4 rt,Q4 ex,Q4 mn,Q4 mx]:=by simp_all
 have a:rF X.Ls i k 0=rt:=by grind [rF]
 have e1:X.ex i k=ex:=by grind [Cx.ex,rF]
 have e2:X.mn i k=mn:=by unfold Cx.mn rF;rw [eg];rfl
 have g:X.mx i k=mx:=by unfold Cx.mx rF;rw [eg];rfl
 have es:X.st i k=s:=by unfold st Qjw;rw [a,Qq7,c]
 exact ⟨by rw [a,e1,e2,g,er,hr],by rw [a,es,Qd,c],by rw [es];exact f.f h.g,QoW,QoW,QoW,QoW,QoW,QoW⟩
theorem Q1u {i:Nat}:60<=X.rest i/\X.rest i<=60:=by
 unfold rest;cases e:X.tn i with
 |none=>simp_all
 |some t=>
  have:=h.tr t (List.mem_of_find?_eq_some e);have a:=this.2.2.2.1;have h2:=this.2.2.2.2.2.1
  grind
theorem QgH {i k:Nat} (hi:i<X.Ls.length) (hk:k<X.nr i):(0<=bf k/\bf k<=60)/\0<=X.af i k/\X.af i k<=5000:=by
 have r:=rd h hi hk;have:=Q1u h (i:=i);have:=r.ex0;have:=r.ex1;have:=r.mn0;have:=r.mn1;have:=r.mn2;have:=r.mn3
 grind [bf,af]
theorem QiQ {i k:Nat} (hi:i<X.Ls.length) (hk:k<X.nr i):ZV 400 X.G.St X.G.Pt X.G.Se X.G.Li (X.st i k) 0 X.nm X.tl X.sp X.ac X.br (bf k) (X.af i k) Tu3=some ((X.occ i k).map enc,X.run i k,0):=by
 have b:=QgH h hi hk;exact Qgq (rd h hi hk).rt h.sk b.1.1 QoW b.2.1 QoW
theorem Qic {i k:Nat} (hi:i<X.Ls.length) (hk:k<X.nr i):Hc 400 X.G.St X.G.Pt X.G.Se X.G.Li (X.st i k) 0 X.nm X.tl X.sp X.ac X.br (bf k) (X.af i k) Tu3=some ((X.occ i k).map enc,X.run i k,0):=by
 have b:=QgH h hi hk;exact Qi6 (rd h hi hk).rt h.sk b.1.1 QoW b.2.1 QoW
theorem occ_ok {i k:Nat} (hi:i<X.Ls.length) (hk:k<X.nr i):OL (-1) (X.occ i k)/\(X.occ i k).length<=6:=by
 have b:=QgH h hi hk;exact Qay (rd h hi hk).rt h.sk b.1.1 b.1.2 b.2.1 b.2.2
theorem R2 {i k:Nat} (hi:i<X.Ls.length) (hk:k<X.nr i):0<=X.run i k/\X.run i k<=7001:=M6 (rd h hi hk).rt h.sk
theorem base_le:base X.nr X.L<=6:=by
 have a:=h.l1;have hb:∀ i,i<=X.Ls.length->base X.nr i<=2*i:=by
  intro i;induction i with
  |zero=>intro _;exact Qql _
  |succ i ih=>
   intro hi;have:=(K3 h (i:=i) QoW).2.1
   grind [base]
 grind [L]
end Cx
theorem PlanR.cx {G:Geo} {per:Int} {Sk Ro Ls Ch Tu Sy De:LL} (h:PlanR G per Sk Ro Ls Ch Tu Sy De):∃ X:Cx,X.OK/\X.G=G/\X.Ro=Ro/\X.Ls=Ls/\Tu=X.T.map tuR/\Sk=[[D.str X.nm,Q4 X.tl,Q4 X.sp,Q4 X.ac,Q4 X.br]]:=by
 obtain ⟨T,hT,t1,t2,e,f⟩:=h.tu;obtain ⟨a,b,c,d,hS,hs⟩:=h.sk;exact ⟨⟨G,Ro,Ls,T,bs [88],a,b,c,d⟩,⟨h.ok,hs,h.good,h.l0,h.l1,t1,t2,e,f⟩,rfl,rfl,rfl,hT,hS⟩
def GM (L:List (List Occ)):LL:=L.map fun o=>[D.sl 3 (o.map enc)]
theorem Vq {L:List (List Occ)} {o:List Occ}:GM L++[[D.sl 3 (o.map enc)]]=GM (L++[o]):=by simp [GM]
theorem Vs {L:List Int} {x:Int}:encI L++[[D.int .i64 x]]=encI (L++[x]):=by simp [encI]
theorem J9 {L:List (List Occ)}:(GM L).length=L.length:=by simp [GM]
theorem Zo {α:Type} {A:List α} {f:Nat->α} {k:Nat}:A++(List.range k).map f++[f k]=A++(List.range (k+1)).map f:=by simp [List.range_succ]
namespace Cx
variable {R:Type} {n:Nat} {X:Cx} (h:X.OK)
theorem Qaj {T:List Tup} (hT:T.length<=1000) {i:Nat} {k0:Int->oP R} {k1:Int->Bool->oP R} {E:oP R} (hk:∀ a b,k1 a b=E):∀ (ac:List Tup) (j m:Nat),T.drop j=ac->ac.length<m->UY n (i:Int) (T.map tuR) (T.length:Int) k0 k1 m (j:Int)=(match ac.find? (fun t=>t.1 == i) with | some t=>k0 (if 60<t.2.2.2 then t.2.2.2 else 60) | none=>E)
 |[],j,m+1,hd,_=>by
  have:=UL hd;rw [UY,show decide ((j:Int)<(T.length:Int))=false by simpa using this,Qq6,hk];rfl
 |(a,b,lo,hi)::ac,j,m+1,hd,hm=>by
  obtain ⟨e,aj,hj⟩:=YB hd;rw [UY,Qc hj,Qq8,QK e];simp -implicitDefEqProofs only [Q0,tuR,Qq4,Qq5,Q2,Qr (show j<=1000 by omega)];rw [List.find?_cons];by_cases ha:a=i
  ·subst ha;rw [show ((a:Int) == (a:Int))=true by simp,Qq8,show ((a,b,lo,hi).1 == a)=true by simp]
  ·rw [show ((a:Int) == (i:Int))=false by simp;omega,Qq6,show ((a,b,lo,hi).1 == i)=false by simpa using ha];exact Qaj hT hk ac (j+1) m aj (by simpa using hm)
theorem QaB {T:List Tup} (hT:T.length<=1000) {i:Nat} {k0:D->D->D->D->oP R} {k1:Int->Bool->oP R} {E:oP R} (hk:∀ a b,k1 a b=E):∀ (ac:List Tup) (j m:Nat),T.drop j=ac->ac.length<m->J3 n (i:Int) (T.map tuR) k0 k1 m (j:Int)=(match ac.find? (fun t=>t.1 == i) with | some t=>k0 (Q4 t.1) (Q4 t.2.1) (Q4 t.2.2.1) (Q4 t.2.2.2) | none=>E)
 |[],j,m+1,hd,_=>by
  have:=UL hd;rw [J3,Qqe,show decide ((j:Int)<(T.length:Int))=false by simpa using this,Qq6,hk];rfl
 |(a,b,lo,hi)::ac,j,m+1,hd,hm=>by
  obtain ⟨e,aj,hj⟩:=YB hd;rw [J3,Qqe,Qc hj,Qq8,QK e];simp -implicitDefEqProofs only [Q0,tuR,Qq4,Qq5,Q2,Qr (show j<=1000 by omega)];rw [List.find?_cons];by_cases ha:a=i
  ·subst ha;rw [show ((a:Int) == (a:Int))=true by simp,Qq8,show ((a,b,lo,hi).1 == a)=true by simp]
  ·rw [show ((a:Int) == (i:Int))=false by simp;omega,Qq6,show ((a,b,lo,hi).1 == i)=false by simpa using ha];exact QaB hT hk ac (j+1) m aj (by simpa using hm)
def skR (X:Cx):LL:=[[D.str X.nm,Q4 X.tl,Q4 X.sp,Q4 X.ac,Q4 X.br]]
include h
theorem Qj9 {per:Int} {Sk Ro Ls Ch Sy De:LL} {i:Nat}:KR 400 per Sk Ro Ls Ch (X.T.map tuR) Sy De (i:Int) (some:Int->oP Int)=some (X.rest i):=by
 unfold KR;rw [Qqe];have:=Qaj (n:=400) (T:=X.T) (i:=i) (k0:=(some:Int->oP Int)) (k1:=fun _ _=>some 60) (by have:=h.tl;omega) (fun _ _=>rfl) X.T 0 400 rfl (by have:=h.tl;omega);refine this.trans ?_;unfold rest tn;cases X.T.find? fun t=>t.1 == i <;> rfl
theorem QdR {i:Nat} (K:D->D->D->D->Bool->oP R):Sq 400 (X.T.map tuR) (i:Int) K=(match X.tn i with | some t=>K (Q4 t.1) (Q4 t.2.1) (Q4 t.2.2.1) (Q4 t.2.2.2) true | none=>K (Q4 0) (Q4 0) (Q4 0) (Q4 0) false):=
 QaB (n:=400) (T:=X.T) (i:=i) (k0:=fun a b c d=>K a b c d true) (k1:=fun _ _=>K (Q4 0) (Q4 0) (Q4 0) (Q4 0) false) (by have:=h.tl;omega) (fun _ _=>rfl) X.T 0 400 rfl (by have:=h.tl;omega)
theorem Qdn {per:Int} {Ch Sy De:LL} {i:Nat} (hi:i<X.Ls.length) {A:List (List Occ)} {B:List Int} (hA:A.length<=100) (hB:B.length<=100) {k0:Int->oP R} {K:LL->LL->oP R} {k1:Int->Bool->LL->LL->oP R} (hk:∀ a b u v,k1 a b u v=K u v) :
  XY 400 (i:Int) (Kp X.Ls i) ((X.nr i:Nat):Int) X.G.St X.G.Pt X.G.Se X.G.Li per X.skR X.Ro X.Ls Ch (X.T.map tuR) Sy De (Q4 0) (D.sl 4 (Kp X.Ls i)) k0 k1 400 0 (GM A) (encI B)=K (GM (A++(List.range (X.nr i)).map (X.occ i))) (encI (B++(List.range (X.nr i)).map (X.run i))):=by
 have hl:=(K3 h hi).2.1;refine Qt (r:=fun m k=>XY 400 (i:Int) (Kp X.Ls i) ((X.nr i:Nat):Int) X.G.St X.G.Pt X.G.Se X.G.Li per X.skR X.Ro X.Ls Ch (X.T.map tuR) Sy De (Q4 0) (D.sl 4 (Kp X.Ls i)) k0 k1 m k (GM (A++(List.range k.toNat).map (X.occ i))) (encI (B++(List.range k.toNat).map (X.run i)))) (N:=X.nr i) (fun m k hk=>?_) (fun m=>?_) (X.nr i) 400 0 QoW QoW |> Eq.trans QoY
 ·simp only [Qq7];have r:=rd h hi hk;have rr:=Q1u h (i:=i);have l:=r.ex0;have e1:=r.ex1;have e2:=r.mn0;have n:=r.mn1;have o:=r.mn2;have p:=r.mn3;have hh:=QiQ h hi hk;have an:Q1 (Kp X.Ls i) (k:Int)=some [Q4 (rF X.Ls i k 0),Q4 (X.ex i k),Q4 (X.mn i k),Q4 (X.mx i k)]:=by rw [Qd,r.row]
  have ao:Q1 X.skR 0=some [D.str X.nm,Q4 X.tl,Q4 X.sp,Q4 X.ac,Q4 X.br]:=rfl;have ar:=r.ro;have hw:wJ (((List.length (Kp X.Ls i):Nat):Int)-1)=((X.nr i-1:Nat):Int):=Ju (k:=X.nr i) QoW QoW;have d:Y1 (((GM (A++(List.range k).map (X.occ i))).length+List.length [[D.sl 3 ((X.occ i k).map enc)]])*24)=some ():=XE (by simp [J9];omega);have e:Y1 (((encI (B++(List.range k).map (X.run i))).length+List.length [[D.int .i64 (X.run i k)]])*8)=some ():=XE (by simp [QZ];omega);have ak:=Qj9 h (per:=per) (Sk:=X.skR) (Ro:=X.Ro) (Ls:=X.Ls) (Ch:=Ch) (Sy:=Sy) (De:=De) (i:=i);have aq:((k:Int) == ((X.nr i-1:Nat):Int))=decide (k=X.nr i-1):=by
   by_cases hc:k=X.nr i-1
   ·rw [Qqf hc];simp;omega
   ·rw [Qqh hc];simp;omega
  have f:((k:Int) == 0)=decide (k=0):=by
   by_cases hc:k=0
   ·rw [Qqf hc];simp;omega
   ·rw [Qqh hc];simp;omega
  have g:wJ (X.ex i k+X.rest i)=X.ex i k+X.rest i:=Q6 QoW QoW;have j:wJ (X.ex i k+X.mx i k)=X.ex i k+X.mx i k:=Q6 QoW QoW;rw [XY,Qc hk,Qq8,an];simp -implicitDefEqProofs only [Q0,Qq4,Qq5,Q2,QJ,Xx,hw,aq,f,ak,ar,ao,g,j,Qr (show k<=1000 by omega)];unfold bf af at hh;by_cases c1:k=0 <;> by_cases c:k=X.nr i-1
  ·simp -implicitDefEqProofs only [Qqd c1,Qqd c] at hh;simp -implicitDefEqProofs only [Qqf c1,Qqf c,Qq8,hh,Q0,show ((0:Int) != 0)=false from rfl,Qq6,d,e,Vq,Vs,Zo]
  ·simp -implicitDefEqProofs only [Qqd c1,Qqg c] at hh;simp -implicitDefEqProofs only [Qqf c1,Qqh c,Qq8,hh,Q0,show ((0:Int) != 0)=false from rfl,Qq6,d,e,Vq,Vs,Zo]
  ·simp -implicitDefEqProofs only [Qqg c1,Qqd c] at hh;simp -implicitDefEqProofs only [Qqh c1,Qqf c,Qq8,hh,Q0,show ((0:Int) != 0)=false from rfl,Qq6,d,e,Vq,Vs,Zo]
  ·simp -implicitDefEqProofs only [Qqg c1,Qqg c] at hh;simp -implicitDefEqProofs only [Qqh c1,Qqh c,Qq8,hh,Q0,show ((0:Int) != 0)=false from rfl,Qq6,d,e,Vq,Vs,Zo]
 ·simp only [Qq7];rw [XY,Qi,Qq6,hk]
end Cx
namespace Cx
variable {R:Type} {n:Nat} {X:Cx} (h:X.OK)
include h
theorem QcK {per:Int} {Sk Ch Tu Sy De:LL} {i k:Nat} (hi:i<X.Ls.length) (hk:k<X.nr i) (K:D->D->oP R):XX n per Sk X.Ro X.Ls Ch Tu Sy De (i:Int) (k:Int) K=K (D.sl 2 (X.st i k)) (Q4 0):=by
 have r:=rd h hi hk;unfold XX;rw [Qd,(K3 h hi).1];simp -implicitDefEqProofs only [Q0,Qq4,Qq5,Q2,QJ,Qd,r.row,r.ro]
theorem QeS {per:Int} {Ch Sy De:LL} {i:Nat} (hi:i<X.Ls.length) {A:List (List Occ)} {B:List Int} (hA:A.length<=100) (hB:B.length<=100) {K:LL->LL->oP R} {k1:Int->Bool->LL->LL->oP R} (hk:∀ a b u v,k1 a b u v=K u v) :
  Yx 400 (i:Int) X.G.St X.G.Pt X.G.Se X.G.Li per X.skR X.Ro X.Ls Ch (X.T.map tuR) Sy De (Q4 0) (D.sl 4 (Kp X.Ls i)) k1 400 0 (GM A) (encI B)=K (GM (A++(List.range (X.nr i)).map (X.occ i))) (encI (B++(List.range (X.nr i)).map (X.run i))):=by
 have hl:=(K3 h hi).2.1;refine Qt (r:=fun m k=>Yx 400 (i:Int) X.G.St X.G.Pt X.G.Se X.G.Li per X.skR X.Ro X.Ls Ch (X.T.map tuR) Sy De (Q4 0) (D.sl 4 (Kp X.Ls i)) k1 m k (GM (A++(List.range k.toNat).map (X.occ i))) (encI (B++(List.range k.toNat).map (X.run i)))) (N:=X.nr i) (fun m k hk=>?_) (fun m=>?_) (X.nr i) 400 0 QoW QoW |> Eq.trans QoY
 ·simp only [Qq7];have r:=rd h hi hk;have rr:=Q1u h (i:=i);have y:=r.ex0;have e1:=r.ex1;have e2:=r.mn0;have z:=r.mn1;have e4:=r.mn2;have e5:=r.mn3;have hh:=Qic h hi hk;have ao:Q1 (Kp X.Ls i) (k:Int)=some [Q4 (rF X.Ls i k 0),Q4 (X.ex i k),Q4 (X.mn i k),Q4 (X.mx i k)]:=by rw [Qd,r.row]
  have aq:Q1 X.skR 0=some [D.str X.nm,Q4 X.tl,Q4 X.sp,Q4 X.ac,Q4 X.br]:=rfl;have hw:wJ (((List.length (Kp X.Ls i):Nat):Int)-1)=((X.nr i-1:Nat):Int):=Ju (k:=X.nr i) QoW QoW;have d:Y1 (((GM (A++(List.range k).map (X.occ i))).length+List.length [[D.sl 3 ((X.occ i k).map enc)]])*24)=some ():=XE (by simp [J9];omega);have f:Y1 (((encI (B++(List.range k).map (X.run i))).length+List.length [[D.int .i64 (X.run i k)]])*8)=some ():=XE (by simp [QZ];omega);have g:((k:Int) == 0)=decide (k=0):=by
   by_cases hc:k=0
   ·rw [Qqf hc];simp;omega
   ·rw [Qqh hc];simp;omega
  have j:decide ((k:Int)<((X.nr i-1:Nat):Int)) = !decide (k=X.nr i-1):=by
   by_cases hc:k=X.nr i-1
   ·rw [Qqf hc];exact Qqh QoW
   ·rw [Qqh hc];exact Qqf QoW
  have o:wJ (X.ex i k+60)=X.ex i k+60:=Q6 QoW QoW;have l:wJ (X.ex i k+X.mx i k)=X.ex i k+X.mx i k:=Q6 QoW QoW;have p:∀ t,X.tn i=some t->wJ (X.ex i k+(if 60<t.2.2.2 then t.2.2.2 else 60))=X.ex i k+X.rest i:=fun t ht=>by
   have e:X.rest i=if 60<t.2.2.2 then t.2.2.2 else 60:=by unfold rest;rw [ht]
   rw [<- e];exact Q6 QoW QoW
  have q:X.tn i=none->wJ (X.ex i k+60)=X.ex i k+X.rest i:=fun ht=>by rw [o];unfold rest;rw [ht]
  have ar:∀ K':D->D->oP R,XX 400 per X.skR X.Ro X.Ls Ch (X.T.map tuR) Sy De (i:Int) (k:Int) K'=K' (D.sl 2 (X.st i k)) (Q4 0):=fun K'=>QcK h hi hk K'
  have an:=QcK (n:=400) h (per:=per) (Sk:=X.skR) (Ch:=Ch) (Tu:=X.T.map tuR) (Sy:=Sy) (De:=De) hi hk Tu2;rw [Yx,QJ,Q0,show ((Kp X.Ls i).length:Int)=((X.nr i:Nat):Int) from rfl,Qc hk,Qq8];unfold bf af at hh;cases ht:X.tn i with
  |some t=>
   simp -implicitDefEqProofs only [jn,Q0,Qq4,Qq5,Q2,QJ,Xx,ao,hw,g,j,QdR h,ht,l,p t ht,aq,an,Qq8,Qr (show k<=1000 by omega)];by_cases c1:k=0 <;> by_cases c:k=X.nr i-1
   ·simp -implicitDefEqProofs only [Qqd c1,Qqd c] at hh;simp -implicitDefEqProofs only [Qqf c1,Qqf c,Qqb,Qq6,Qq8,hh,Q0,d,f,Vq,Vs,Zo]
   ·simp -implicitDefEqProofs only [Qqd c1,Qqg c] at hh;simp -implicitDefEqProofs only [Qqf c1,Qqh c,Qqa,Qq6,Qq8,hh,Q0,d,f,Vq,Vs,Zo]
   ·simp -implicitDefEqProofs only [Qqg c1,Qqd c] at hh;simp -implicitDefEqProofs only [Qqh c1,Qqf c,Qqb,Qq6,Qq8,hh,Q0,d,f,Vq,Vs,Zo]
   ·simp -implicitDefEqProofs only [Qqg c1,Qqg c] at hh;simp -implicitDefEqProofs only [Qqh c1,Qqh c,Qqa,Qq6,Qq8,hh,Q0,d,f,Vq,Vs,Zo]
  |none=>
   simp -implicitDefEqProofs only [jn,Q0,Qq4,Qq5,Q2,QJ,Xx,ao,hw,g,j,QdR h,ht,l,q ht,aq,an,Qq6,Qr (show k<=1000 by omega)];by_cases c1:k=0 <;> by_cases c:k=X.nr i-1
   ·simp -implicitDefEqProofs only [Qqd c1,Qqd c] at hh;simp -implicitDefEqProofs only [Qqf c1,Qqf c,Qqb,Qq6,Qq8,hh,Q0,d,f,Vq,Vs,Zo]
   ·simp -implicitDefEqProofs only [Qqd c1,Qqg c] at hh;simp -implicitDefEqProofs only [Qqf c1,Qqh c,Qqa,Qq6,Qq8,hh,Q0,d,f,Vq,Vs,Zo]
   ·simp -implicitDefEqProofs only [Qqg c1,Qqd c] at hh;simp -implicitDefEqProofs only [Qqh c1,Qqf c,Qqb,Qq6,Qq8,hh,Q0,d,f,Vq,Vs,Zo]
   ·simp -implicitDefEqProofs only [Qqg c1,Qqg c] at hh;simp -implicitDefEqProofs only [Qqh c1,Qqh c,Qqa,Qq6,Qq8,hh,Q0,d,f,Vq,Vs,Zo]
 ·simp only [Qq7];rw [Yx,QJ,Q0,show ((Kp X.Ls i).length:Int)=((X.nr i:Nat):Int) from rfl,Qi,Qq6,hk]
omit h in
def occs (X:Cx) (i:Nat):List (List Occ):=QaV X.nr X.occ i
omit h in
def runs (X:Cx) (i:Nat):List Int:=QaV X.nr X.run i
theorem Ye {i:Nat} (hi:i<=X.Ls.length):base X.nr i<=6:=by
 have a:=base_le h;by_cases hc:i=X.Ls.length
 ·rw [hc];exact a
 ·have:=Sd (nr:=X.nr) (i:=i) (j:=X.Ls.length) QoW;unfold L at a;omega
theorem QgF {per:Int} {Ch Sy De:LL} (hc:Jd 400 X.G.St X.G.Pt X.G.Se X.G.Li per X.skR X.Ro X.Ls Ch (X.T.map tuR) Sy De (some:Int->oP Int)=some 0):HY 400 X.G.St X.G.Pt X.G.Se X.G.Li per X.skR X.Ro X.Ls Ch (X.T.map tuR) Sy De Tu3=some (GM (X.occs X.L),encI (X.runs X.L),(0:Int)):=by
 have l1:=h.l1;unfold HY;rw [hc,Q0,Q8 (by rfl)];refine Qt (r:=fun m i=>ZE 400 X.Ls (X.Ls.length:Int) X.G.St X.G.Pt X.G.Se X.G.Li per X.skR X.Ro X.Ls Ch (X.T.map tuR) Sy De (fun a=>some ([],[],a)) (fun f g b c=>some (b,c,(0:Int))) m i (GM (X.occs i.toNat)) (encI (X.runs i.toNat))) (N:=X.Ls.length) (fun m i hi=>?_) (fun m=>?_) X.Ls.length 400 0 QoW QoW
 ·simp only [Qq7];have hb:=Ye h (i:=i) QoW;rw [ZE,Qc hi,Qq8,Qd,(K3 h hi).1];simp -implicitDefEqProofs only [Q0,Qq4,Qq5,QJ,Qr (show i<=1000 by omega)];exact Qdn h hi (A:=X.occs i) (B:=X.runs i) (by unfold occs;rw [Zs];omega) (by unfold runs;rw [Zs];omega) (K:=fun u v=>ZE 400 X.Ls (X.Ls.length:Int) X.G.St X.G.Pt X.G.Se X.G.Li per X.skR X.Ro X.Ls Ch (X.T.map tuR) Sy De (fun a=>some ([],[],a)) (fun f g b c=>some (b,c,(0:Int))) m ((i+1:Nat):Int) u v) (fun _ _ _ _=>rfl)
 ·simp only [Qq7];rw [ZE,Qi,Qq6];rfl
theorem Qgu {per:Int} {Ch Sy De:LL} (hc:Um 400 X.G.St X.G.Pt X.G.Se X.G.Li per X.skR X.Ro X.Ls Ch (X.T.map tuR) Sy De (some:Int->oP Int)=some 0):Rb 400 X.G.St X.G.Pt X.G.Se X.G.Li per X.skR X.Ro X.Ls Ch (X.T.map tuR) Sy De Tu3=some (GM (X.occs X.L),encI (X.runs X.L),(0:Int)):=by
 have l1:=h.l1;unfold Rb;rw [hc,Q0,Q8 (by rfl)];refine Qt (r:=fun m i=>UE 400 X.G.St X.G.Pt X.G.Se X.G.Li per X.skR X.Ro X.Ls Ch (X.T.map tuR) Sy De (fun e f a b=>some (a,b,(0:Int))) m i (GM (X.occs i.toNat)) (encI (X.runs i.toNat))) (N:=X.Ls.length) (fun m i hi=>?_) (fun m=>?_) X.Ls.length 400 0 QoW QoW
 ·simp only [Qq7];have hb:=Ye h (i:=i) QoW;rw [UE,Qc hi,Qq8,Qd,(K3 h hi).1];simp -implicitDefEqProofs only [Q0,Qq4,Qq5,QJ,Qr (show i<=1000 by omega)];exact QeS h hi (A:=X.occs i) (B:=X.runs i) (by unfold occs;rw [Zs];omega) (by unfold runs;rw [Zs];omega) (K:=fun u v=>UE 400 X.G.St X.G.Pt X.G.Se X.G.Li per X.skR X.Ro X.Ls Ch (X.T.map tuR) Sy De (fun e f a b=>some (a,b,(0:Int))) m ((i+1:Nat):Int) u v) (fun _ _ _ _=>rfl)
 ·simp only [Qq7];rw [UE,Qi,Qq6];rfl
end Cx
end Go.Vx
namespace Go.Vx
variable {R:Type} (n:Nat)
def GN (j k l m:LL) (c:Int) (o p d h f i q:LL) (K:Int->LL->LL->Int->oP R):oP R:=Qku R (Jd n j k l m c o p d h f i q some) fun a=>bif a !=0 then K 0 [] [] 1 else gb true (Yt n d [] [] Tu2) ([],[]) fun r2=>bif decide ((r2.2.length:Int)>48) then K 0 [] [] 7 else gb true (HY n j k l m c o p d h f i q Tu3) ([],[],0) fun b=>bif b.2.2 !=0 then K 0 [] [] b.2.2 else Qku R (Yy n d f r2.1 b.2.1 [] some) fun r=>Qku R (ZA n c b.1 r some) fun s=>bif !s then K 0 [] [] 13 else Qku R (Yj n d h f i r2.1 b.2.1 [] some) fun r6=>gb true (Yd n c b.1 r r6 Tu2) (0,[]) fun g=>bif g.1 !=0 then K 0 [] [] g.1 else bif decide ((g.2.length:Int)>512) then K 0 [] [] 7 else K c r2.2 g.2 0
end Go.Vx
namespace Go.Vx
namespace Cx
variable (X:Cx)
def evl (i:Nat):Nat->LL
 |0=>[]
 |k+1=>evl i k++[[Q4 1,Q4 i,Q4 k],[Q4 2,Q4 i,Q4 k]]
def evs:Nat->LL
 |0=>[]
 |i+1=>evs i++evl i (X.nr i)
theorem Q2r {i:Nat}:∀ {k:Nat},(evl i k).length=2*k
 |0=>rfl
 |k+1=>by rw [evl,QqA,Q2r];simp;omega
variable {X}
theorem evs_len:∀ {i:Nat},(X.evs i).length=2*base X.nr i
 |0=>rfl
 |i+1=>by rw [evs,QqA,evs_len,Q2r,base];omega
def fst (X:Cx) (i:Nat):LL:=encI ((List.range i).map fun j=>(base X.nr j:Int))
theorem Q7f {i L:Nat} (h:i<L):Q1 (X.fst L) (i:Int)=some [Q4 (base X.nr i)]:=HW (by simp [h])
variable {R:Type} {n:Nat} (h:X.OK)
include h
theorem QdF (K:LL->LL->oP R):Yt 400 X.Ls [] [] K=K (X.fst X.L) (X.evs X.L):=by
 have l1:=h.l1;unfold Yt;refine Qt (r:=fun m i=>QN 400 X.Ls (X.Ls.length:Int) (fun _ _ u v=>K u v) m i (X.fst i.toNat) (X.evs i.toNat)) (N:=X.Ls.length) (fun m i hi=>?_) (fun m=>?_) X.Ls.length 400 0 QoW QoW
 ·simp only [Qq7];have hb:=Ye h (i:=i) QoW;have hl:=(K3 h hi).2.1;have e1:wJ (Int.tdiv ((2*base X.nr i:Nat):Int) 2)=(base X.nr i:Int):=by
   rw [Qqv QoW,Q6 QoW QoW];omega
  have e2:X.fst i++[[D.int .i64 (base X.nr i:Int)]]=X.fst (i+1):=by simp [fst,encI,List.range_succ]
  have a:(X.fst i).length=i:=by simp [fst,encI]
  rw [QN,Qc hi,Qq8,Qd,(K3 h hi).1];simp -implicitDefEqProofs only [Q0,Qq4,Qq5,QJ,Qr (show i<=1000 by omega),NQ (b:=2) QoX,evs_len,e1,e2,XE (show ((X.fst i).length+[[D.int .i64 (base X.nr i:Int)]].length)*8<=100000 by rw [a];simp;omega)];refine Qt (r:=fun m' k=>X3 400 (i:Int) ((X.nr i:Nat):Int) (fun _ _ w=>QN 400 X.Ls (X.Ls.length:Int) (fun _ _ u v=>K u v) m ((i+1:Nat):Int) (X.fst (i+1)) w) m' k (X.evs i++evl i k.toNat)) (N:=X.nr i) (fun m' k hk=>?_) (fun m'=>?_) (X.nr i) 400 0 QoW QoW |> Eq.trans (by simp [evl];rfl)
  ·simp only [Qq7];rw [X3,Qc hk,Qq8,XE (by simp [evs_len,Q2r];omega),Q0,Qr QoW,List.append_assoc];rfl
  ·simp only [Qq7];rw [X3,Qi,Qq6];rfl
 ·simp only [Qq7];rw [QN,Qi,Qq6];rfl
omit h in
theorem QcW {a:Nat} (ha:a<=1000) (K:Int->oP R):Yh n (a:Int) K=K ((2*a:Nat):Int):=by
 grind [Yh,Q6]
omit h in
theorem QhY {a:Nat} (ha:a<=1000) (K:Int->oP R):Ux n (a:Int) K=K ((2*a+1:Nat):Int):=by
 grind [Ux,Q6]
theorem Q3B {i k:Nat} (hi:i<X.Ls.length) (hk:k<=10) (K:Int->oP R):XJ n (X.fst X.L) (i:Int) (k:Int) K=K ((base X.nr i+k:Nat):Int):=by
 have hb:=Ye h (i:=i) QoW;unfold XJ
 grind [Q7f,L,Qd,fst,encI,XR,Q0,Int.toNat_natCast,List.getElem?_cons_zero,Q2,Q6]
theorem Q0N {i k:Nat} (hi:i<X.Ls.length) (hk:k<=10) (K:Int->oP R):QY n (X.fst X.L) (i:Int) (k:Int) K=K ((base X.nr i+k:Nat):Int):=Q3B (n:=n) h hi hk K
theorem Qd5 {i:Nat} (hi:i<X.Ls.length) (K:Int->oP R):ZU n X.Ls (X.fst X.L) (i:Int) K=K ((base X.nr i+(X.nr i-1):Nat):Int):=by
 have hl:=(K3 h hi).2.1;have hw:wJ (((List.length (Kp X.Ls i):Nat):Int)-1)=((X.nr i-1:Nat):Int):=Ju (k:=X.nr i) QoW QoW
 grind [ZU,Qd,K3,Q0,List.getElem?_cons_zero,List.getElem?_cons_succ,QJ,Q3B]
theorem QfK {i:Nat} (hi:i<X.Ls.length) (K:Int->oP R):Vd n X.Ls (X.fst X.L) (i:Int) K=K ((base X.nr i+(X.nr i-1):Nat):Int):=Qd5 (n:=n) h hi K
omit h in
def j1 (X:Cx) (i k:Nat):Tup:=(base X.nr i+k,base X.nr i+(k+1),X.run i k+X.mn i k,X.run i k+X.ex i k+X.mx i k)
omit h in
def jT (X:Cx) (t:Tup):Tup:=(base X.nr t.1+(X.nr t.1-1),base X.nr t.2.1+0,X.run t.1 (X.nr t.1-1)+t.2.2.1,X.run t.1 (X.nr t.1-1)+X.ex t.1 (X.nr t.1-1)+t.2.2.2)
omit h in
def jL (X:Cx) (i:Nat):List Tup:=QaV (fun i=>X.nr i-1) X.j1 i
omit h in
def jns (X:Cx):List Tup:=X.jL X.L++X.T.map X.jT
omit h in
theorem Q6o {i k:Nat} (hi:i<X.Ls.length) (hk:k<X.nr i):Q1 (encI (X.runs X.L)) ((base X.nr i+k:Nat):Int)=some [Q4 (X.run i k)]:=HW (Ey hk hi)
omit h in
theorem Qgf {i k:Nat} (hi:i<X.Ls.length) (hk:k<X.nr i):Q1 (GM (X.occs X.L)) ((base X.nr i+k:Nat):Int)=some [D.sl 3 ((X.occ i k).map enc)]:=QK (Ey hk hi)
theorem QfN {i k b:Nat} (hi:i<X.Ls.length) (hk:k<X.nr i) {ex lo ac:Int} (a:0<=ex) (e1:ex<=1000) (l0:0<=lo) (l1:lo<=1000) (c:0<=ac) (d:ac<=1000) {J:List Tup} (hJ:J.length<=100) (K:LL->oP R) :
  Y2 n (encI (X.runs X.L)) (J.map tuR) ((base X.nr i+k:Nat):Int) (b:Int) ex lo ac K=K ((J++[(base X.nr i+k,b,X.run i k+lo,X.run i k+ex+ac)]).map tuR):=by
 have hr:=R2 h hi hk;unfold Y2;rw [Q6o hi hk,Q0];simp -implicitDefEqProofs only [Q0,Qq4,Q2,Q6 (x:=X.run i k+lo) QoW QoW,Q6 (x:=X.run i k+ex) QoW QoW,Q6 (x:=X.run i k+ex+ac) QoW QoW];rw [XE QoZ,Q0,Qqo];rfl
omit h in
theorem QfE {i:Nat}:(X.jL i).length=base (fun i=>X.nr i-1) i:=Zs
theorem QeC {i:Nat} (hi:i<=X.Ls.length):(X.jL i).length<=6:=by
 rw [QfE];have:∀ i,base (fun i=>X.nr i-1) i<=base X.nr i:=by
  intro i;induction i with
  |zero=>exact Qql _
  |succ i ih=>grind [base]
 grind [Nat.le_trans,Ye]
theorem Qfg (K:LL->oP R):Yy 400 X.Ls (X.T.map tuR) (X.fst X.L) (encI (X.runs X.L)) [] K=K (X.jns.map tuR):=by
 have l1:=h.l1;have tl:=h.tl;unfold Yy;have s2:∀ k0:Int->Bool->LL->oP R,Qy 400 X.Ls (X.Ls.length:Int) (X.fst X.L) (encI (X.runs X.L)) k0 400 0 []=k0 (X.Ls.length:Int) false ((X.jL X.L).map tuR):=by
  intro k0;refine Qt (r:=fun m i=>Qy 400 X.Ls (X.Ls.length:Int) (X.fst X.L) (encI (X.runs X.L)) k0 m i ((X.jL i.toNat).map tuR)) (N:=X.Ls.length) (fun m i hi=>?_) (fun m=>?_) X.Ls.length 400 0 QoW QoW
  ·simp only [Qq7];have hl:=(K3 h hi).2.1;have hJ:=QeC h (i:=i) QoW;have hw:wJ (((List.length (Kp X.Ls i):Nat):Int)-1)=((X.nr i-1:Nat):Int):=Ju (k:=X.nr i) QoW QoW;have ao:(cut (Kp X.Ls i) (0,X.nr i-1)).length=X.nr i-1:=by rw [LC,List.length_take];unfold nr;omega
   rw [Qy,Qc hi,Qq8,Qd,(K3 h hi).1];simp -implicitDefEqProofs only [Q0,Qq4,Qq5,QJ,Qr (show i<=1000 by omega),hw,Q26 (n:=(Kp X.Ls i).length) (h:=X.nr i-1) (Nat.sub_le ..),ao];refine Qt (r:=fun m' k=>Xe 400 (i:Int) (cut (Kp X.Ls i) (0,X.nr i-1)) ((X.nr i-1:Nat):Int) (X.fst X.L) (encI (X.runs X.L)) (fun _ _ w=>Qy 400 X.Ls (X.Ls.length:Int) (X.fst X.L) (encI (X.runs X.L)) k0 m ((i+1:Nat):Int) w) m' k ((X.jL i++(List.range k.toNat).map (X.j1 i)).map tuR)) (N:=X.nr i-1) (fun m' k hk=>?_) (fun m'=>?_) (X.nr i-1) 400 0 QoW QoW |> Eq.trans QoY
   ·simp only [Qq7];have r:=rd h hi (show k<X.nr i by omega);have ak:Q1 (cut (Kp X.Ls i) (0,X.nr i-1)) (k:Int)=some [Q4 (rF X.Ls i k 0),Q4 (X.ex i k),Q4 (X.mn i k),Q4 (X.mx i k)]:=by rw [LC,Qd,List.getElem?_take_of_lt hk,r.row]
    have c:=r.ex0;have e1:=r.ex1;have e2:=r.mn0;have o:=r.mn1;have p:=r.mn2;have s:=r.mn3;rw [Xe,Qc hk,Qq8,ak];simp -implicitDefEqProofs only [Q0,Qq4,Qq5,Q2,Q3B (n:=400) h hi (show k<=10 by omega),Qr (show k<=1000 by omega),Q3B (n:=400) h hi (show k+1<=10 by omega),QfN (n:=400) (b:=base X.nr i+(k+1)) h hi (show k<X.nr i by omega) c (show X.ex i k<=1000 by omega) e2 (show X.mn i k<=1000 by omega) (show 0<=X.mx i k by omega) (show X.mx i k<=1000 by omega) (J:=X.jL i++(List.range k).map (X.j1 i)) QoZ];rw [show (base X.nr i+k,base X.nr i+(k+1),X.run i k+X.mn i k,X.run i k+X.ex i k+X.mx i k)=X.j1 i k from rfl,Zo]
   ·simp only [Qq7];rw [Xe,Qi,Qq6];rfl
  ·simp only [Qq7];rw [Qy,Qi,Qq6];rfl
 rw [s2];rw [Qqe];refine Qt (r:=fun m j=>Xc 400 (X.T.map tuR) (X.T.length:Int) (X.fst X.L) X.Ls (encI (X.runs X.L)) (fun _ _ w=>K w) m j ((X.jL X.L++(X.T.take j.toNat).map X.jT).map tuR)) (N:=X.T.length) (fun m j hj=>?_) (fun m=>?_) X.T.length 400 0 QoW QoW |> Eq.trans QoY
 ·simp only [Qq7];obtain ⟨⟨a,b,lo,ac⟩,e⟩:∃ q,X.T[j]? = some q:=⟨X.T[j],Qq9 hj⟩;have ht:=h.tr _ (List.mem_of_getElem? e);have ha:a<X.Ls.length:=ht.1;have hb:b<X.Ls.length:=ht.2.1;have t1:=ht.2.2.1;have t2:=ht.2.2.2.1;have f:=ht.2.2.2.2.1;have g:=ht.2.2.2.2.2.1;dsimp only at t1 t2 f g;have hl:=(K3 h ha).2.1;have hJ:=QeC h (i:=X.L) (Qql _);have hw:wJ (((List.length (Kp X.Ls a):Nat):Int)-1)=((X.nr a-1:Nat):Int):=Ju (k:=X.nr a) QoW QoW;have r:=rd h ha (show X.nr a-1<X.nr a by omega);have c:=r.ex0;have e1:=r.ex1;rw [Xc,Qc hj,Qq8,QK e];simp -implicitDefEqProofs only [Q0,tuR,Qq4,Qq5,Q2,QJ,Qd,(K3 h ha).1,hw,r.row,Qd5 (n:=400) h ha,Qr (show j<=1000 by omega)];have d:=Q3B (R:=Int) (n:=400) h hb (Nat.zero_le 10) some;rw [show ((0:Nat):Int)=0 from rfl] at d;rw [d,Q0];have l:X.jL X.L++(X.T.take (j+1)).map X.jT=X.jL X.L++(X.T.take j).map X.jT++[X.jT (a,b,lo,ac)]:=by rw [YA e,Qqo,List.append_assoc];rfl
  rw [QfN (n:=400) (b:=base X.nr b+0) h ha (show X.nr a-1<X.nr a by omega) c (show X.ex a (X.nr a-1)<=1000 by omega) (show 0<=lo by omega) (show lo<=1000 by omega) (show 0<=ac by omega) (show ac<=1000 by omega) (J:=X.jL X.L++(X.T.take j).map X.jT) QoZ,Q0,l];rfl
 ·simp only [Qq7];rw [Xc,Qi,Qq6,Qqx];rfl
end Cx
abbrev Sp2:=Int×Int
def Y6 (q:Sp2):List D:=[Q4 q.1,Q4 q.2]
def VS (t:Int):Int->List Sp2->Prop
 |_,[]=>True
 |l,(a,b)::r=>l<a/\a<b/\b<=t/\VS t b r
def InS (y:Int) (l:List Sp2):Prop:=∃ q∈l,q.1<=y/\y<q.2
def cnt:List Sp2->Int
 |[]=>0
 |(a,b)::r=>(b-a)+cnt r
theorem Lx {y:Int}:¬ InS y []:=fun ⟨_,h,_⟩=>nomatch h
theorem Tg {y:Int} {q:Sp2} {l:List Sp2}:InS y (q::l)↔(q.1<=y/\y<q.2)\/InS y l:=by
 constructor
 ·rintro ⟨p,hp,h⟩;cases hp with
  |head=>exact .inl h
  |tail _ hp=>exact .inr ⟨p,hp,h⟩
 ·rintro (h | ⟨p,hp,h⟩)
  ·exact ⟨q,.head _,h⟩
  ·exact ⟨p,.tail _ hp,h⟩
theorem Qa5 {y:Int} {a b:List Sp2}:InS y (a++b)↔InS y a\/InS y b:=by
 constructor
 ·rintro ⟨p,hp,h⟩;rcases Qqp.1 hp with hp | hp
  ·exact .inl ⟨p,hp,h⟩
  ·exact .inr ⟨p,hp,h⟩
 ·rintro (⟨p,hp,h⟩ | ⟨p,hp,h⟩)
  ·exact ⟨p,List.mem_append_left _ hp,h⟩
  ·exact ⟨p,List.mem_append_right _ hp,h⟩
theorem Q6N {y:Int} {a b:List Sp2} (h:a.Perm b):InS y a↔InS y b:=⟨fun ⟨p,hp,q⟩=>⟨p,h.mem_iff.1 hp,q⟩,fun ⟨p,hp,q⟩=>⟨p,h.mem_iff.2 hp,q⟩⟩
theorem VS.rng {t:Int}:∀ {l:Int} {s:List Sp2},VS t l s->∀ q∈s,l<q.1/\q.1<q.2/\q.2<=t
 |_,[],_,_,h=>nomatch h
 |l,(a,b)::r,⟨c,h2,d,e⟩,q,h=>by
  cases h with
  |head=>exact ⟨c,h2,d⟩
  |tail _ h=>have:=e.rng q h;exact ⟨QoW,this.2⟩
theorem VS.cnt {t:Int}:∀ {l:Int} {s:List Sp2},l<=t->VS t l s->0<=cnt s/\cnt s<=t-l/\(0<s.length->cnt s<=t-l-1)
 |l,[],h,_=>⟨Int.le_refl _,by simp only [Vx.cnt];omega,fun h=>nomatch h⟩
 |l,(a,b)::r,h,⟨e,h2,c,d⟩=>by
  have:=d.cnt c;simp only [Vx.cnt];omega
theorem QaD {t:Int}:∀ {l:Int} {s:List Sp2},VS t l s->l<=t->∀ q∈s,q.2-q.1<=cnt s
 |_,[],_,_,_,h=>nomatch h
 |l,(a,b)::r,⟨e,h2,c,d⟩,hl,q,h=>by
  have f:=d.cnt c;cases h with
  |head=>simp only [Vx.cnt];omega
  |tail _ h=>have:=QaD d c q h;simp only [Vx.cnt];omega
section
variable {R:Type} {n:Nat} {t:Int}
theorem Q27 (a:1<=t) (b:t<=7200) (K:Bool->oP R):UQ n t K=K true:=by
 unfold UQ;simp only [show decide (t>=1)=true from Qqf a,show decide (t<=7200)=true from Qqf b,Qq8]
theorem Q6J {l:List Sp2} (hl:l.length<=1000) {k0:oP R} {k1:Int->Int->Bool->oP R} {E:oP R} (hk:∀ a b c,k1 a b c=E):∀ (ac:List Sp2) (i m:Nat) (last:Int),l.drop i=ac->ac.length<m->VS t last ac->U6 n t (l.map Y6) (l.length:Int) k0 k1 m last (i:Int)=E
 |[],i,m+1,last,hd,_,_=>by
  have:=UL hd;rw [U6,show decide ((i:Int)<(l.length:Int))=false by simpa using this,Qq6,hk]
 |(a,b)::ac,i,m+1,last,hd,hm,⟨f,h2,g,d⟩=>by
  obtain ⟨e,aj,hi⟩:=YB hd;rw [U6,Qc hi,Qq8,QK e];simp -implicitDefEqProofs only [Q0,Y6,Qq4,Qq5,Q2,Qp3 (a<=last),Qp3 (a>=b),Qp3 (b>t),Qq6,Qr (show i<=1000 by omega)];exact Q6J hl hk ac (i+1) m b aj (by simpa using hm) d
theorem AC {l:List Sp2} (a:1<=t) (b:t<=7200) (hl:l.length<=300) (h:VS t (-1) l):Gm 400 t (l.map Y6) (some:Bool->oP Bool)=some true:=by
 unfold Gm;rw [Q27 a b,Q0,Q8 (by rfl),Qqe];exact Q6J QoW (fun _ _ _=>rfl) l 0 400 (-1) rfl QoW h
theorem Q6m {l:List Sp2} (hl:l.length<=1000) {k0:Int->Int->Bool->oP R}:∀ (ac:List Sp2) (i m:Nat) (acc:Int),l.drop i=ac->ac.length<m->(∃ u,VS t u ac /\ -1<=u/\u<=t)->t<=7200->0<=acc->acc<=100000-cnt ac->∃ j b,ZH n (l.map Y6) (l.length:Int) k0 m acc (i:Int)=k0 (acc+cnt ac) j b
 |[],i,m+1,acc,hd,_,_,_,_,_=>by
  have:=UL hd;rw [ZH,show decide ((i:Int)<(l.length:Int))=false by simpa using this,Qq6];exact ⟨_,_,by rw [cnt,Int.add_zero]⟩
 |(a,b)::ac,i,m+1,acc,hd,hm,⟨u,⟨k,h2,d,f⟩,o,p⟩,ht,q,g=>by
  obtain ⟨e,aj,hi⟩:=YB hd;have hc:=f.cnt d;rw [cnt] at g ⊢;rw [ZH,Qc hi,Qq8,QK e];simp -implicitDefEqProofs only [Q0,Y6,Qq4,Qq5,Q2,PE,Q6 (x:=b-a) QoW QoW,Q6 (x:=acc+(b-a)) QoW QoW,Qr (show i<=1000 by omega)];obtain ⟨j,c,h⟩:=Q6m hl ac (i+1) m (acc+(b-a)) aj (by simpa using hm) ⟨b,f,QoW,d⟩ ht QoW QoW;exact ⟨j,c,by rw [h,Int.add_assoc]⟩
theorem Qhg {l:List Sp2} (c:1<=t) (a:t<=7200) (hl:l.length<=300) (h:VS t (-1) l):Tc 400 t (l.map Y6) (some:Int->oP Int)=some (cnt l):=by
 have hc:=h.cnt QoW;obtain ⟨j,b,e⟩:=Q6m (n:=400) (k0:=fun w _ _=>(some w:oP Int)) (l:=l) QoW l 0 400 0 rfl QoW ⟨-1,h,QoW,QoW⟩ a QoW QoW;unfold Tc;rw [AC c a hl h,Q0,Q8 (by rfl)];unfold SV;rw [Qqe,show ZH 400 (l.map Y6) (l.length:Int) (fun w _ _=>(some w:oP Int)) 400 0 0=_ from e,Q0,Int.zero_add]
theorem Qid {x:Int} (c:1<=t) (d:t<=7200) (h2 : -1000000000<=x) (f:x<=1000000000) (K:Int->oP R):Tq n x t K=K (x % t):=by
 unfold Tq;rw [Q8 (Qqh QoW),NQ QoW,Q0];have g:=Int.emod_nonneg x (show t≠0 by omega);have h:=Int.emod_lt_of_pos x (show 0<t by omega);by_cases hx:0<=x
 ·rw [Qqs hx,Q8 (Qqh QoW)]
 ·have e:Int.tmod x t = -((-x) % t):=by
   rw [show x = -(-x) by omega,Int.neg_tmod,Qqs QoW,Int.neg_neg]
  have e1:x % t=if (-x) % t=0 then 0 else t-(-x) % t:=by
   have a:=Int.emod_nonneg (-x) (show t≠0 by omega);have i:=Int.emod_lt_of_pos (-x) (show 0<t by omega);have j:=Int.mul_ediv_add_emod (-x) t;split
   ·rename_i b;rw [show x=t*(-((-x) / t)) by rw [Int.mul_neg];omega];exact Int.mul_emod_right _ _
   ·rename_i b;rw [show x=(t-(-x) % t)+t*(-((-x) / t)-1) by rw [Int.mul_sub,Int.mul_neg];omega,Int.add_mul_emod_self_left];rw [show (t-(-x) % t+t*(-((-x) / t)-1))=x by rw [Int.mul_sub,Int.mul_neg];omega];exact Int.emod_eq_of_lt QoW QoW
  rw [e];by_cases hz:(-x) % t=0
  ·rw [hz,Q8 (by rfl),e1,Qqd hz];rfl
  ·have a:=Int.emod_nonneg (-x) (show t≠0 by omega);rw [QR (Qqf QoW),Q6 QoW QoW,e1,Qqg hz];congr 1;omega
theorem QhJ {x:Int} (a:1<=t) (b:t<=7200) (h2 : -1000000000<=x) (c:x<=1000000000) (K:Int->oP R):FP n x t K=K (x % t):=Qid (n:=n) a b h2 c K
def Q4f (t x k:Int):List Sp2:=if k<1 then [] else if t<=k then [(0,t)] else if x+k<=t then [(x,x+k)] else [(0,x+k-t),(x,t)]
theorem Q9u {x k:Int}:(Q4f t x k).length<=2:=by
 unfold Q4f;split
 ·simp
 split
 ·simp
 split <;> simp
theorem Qbu {x k:Int} (a:1<=t) (hx:0<=x) (ac:x<t):VS t (-1) (Q4f t x k):=by
 unfold Q4f;split
 ·trivial
 split
 ·exact ⟨QoW,QoW,QoW,trivial⟩
 split
 ·exact ⟨QoW,QoW,QoW,trivial⟩
 ·exact ⟨QoW,QoW,QoW,QoW,QoW,QoW,trivial⟩
theorem QjW {x y:Int} (hx:0<=x) (ac:x<t) (hy:0<=y) (aj:y<t):(y-x) % t=if x<=y then y-x else y-x+t:=by
 split
 ·exact Int.emod_eq_of_lt QoW QoW
 ·rw [show y-x=(y-x+t)+t*(-1) by omega,Int.add_mul_emod_self_left];rw [show y-x+t+t*(-1)+t=y-x+t by omega];exact Int.emod_eq_of_lt QoW QoW
theorem Qc4 {x k y:Int} (hx:0<=x) (ak:x<t) (hy:0<=y) (ac:y<t):InS y (Q4f t x k)↔(y-x) % t<k:=by
 rw [QjW hx ak hy ac];unfold Q4f;split
 ·refine ⟨fun h=>absurd h Lx,fun h=>?_⟩;split at h <;> omega
 split
 ·rw [Tg];constructor
  ·intro _;split <;> omega
  ·intro _;exact .inl ⟨hy,ac⟩
 split
 ·rw [Tg];constructor
  ·rintro (h | h)
   ·dsimp only at h;rw [Qqd h.1];omega
   ·exact absurd h Lx
  ·intro h;left;dsimp only;split at h <;> omega
 ·rw [Tg,Tg];constructor
  ·rintro (h | h | h)
   ·dsimp only at h;split <;> omega
   ·dsimp only at h;rw [Qqd h.1];omega
   ·exact absurd h Lx
  ·intro h;dsimp only;by_cases aj:x<=y
   ·exact .inr (.inl ⟨aj,ac⟩)
   ·rw [Qqg aj] at h;exact .inl ⟨hy,QoW⟩
theorem QhL {f k:Int} (c:1<=t) (d:t<=7200) (h2 : -1000000<=f) (j:f<=1000000) (l : -1000000<=k) (m:k<=1000000):P7 400 t f k Tu2=some ((Q4f t (f % t) k).map Y6,(0:Int)):=by
 have e:=Int.emod_nonneg f (show t≠0 by omega);have g:=Int.emod_lt_of_pos f (show 0<t by omega);unfold P7;rw [Q27 c d,Q0,Q8 (by rfl),Qid c d QoW QoW,Q0];revert e g;generalize f % t=x;intro e g;unfold Jm Q4f;by_cases c1:k<1
 ·rw [show decide (k<1)=true from Qqf c1,Qq8,Qqd c1];rfl
 rw [show decide (k<1)=false from Qqh c1,Qq6,Qqg c1];by_cases a:t<=k
 ·rw [show decide (k>=t)=true from Qqf a,Qq8,Qqd a];rfl
 rw [show decide (k>=t)=false from Qqh a,Qq6,Qqg a,Q6 (x:=x+k) QoW QoW];by_cases b:x+k<=t
 ·rw [show decide (x+k<=t)=true from Qqf b,Qq8,Qqd b];rfl
 ·rw [show decide (x+k<=t)=false from Qqh b,Qq6,Qqg b,Q6 (x:=x+k-t) QoW QoW];rfl
end
theorem QjM {R:Type} {n:Nat} {a b:Int} (K:Int->oP R):VZ n a b K=K (if a<b then -1 else if b<a then 1 else 0):=by
 unfold VZ;have hn:∀ x:Int,Vl n x (some:Bool->oP Bool)=some false:=fun x=>by
  grind [Vl]
 rw [hn,hn,Q0,Q0,Q8 (by rfl),Q8 (by rfl)]
 grind
def Asc (l:List Sp2):Prop:=l.Pairwise fun a b=>a.1<=b.1
theorem QbC (q:Sp2):(Y6 q)[0]? = some (Q4 q.1):=rfl
theorem Qb8 (q:Sp2):(Y6 q)[1]? = some (Q4 q.2):=rfl
theorem QhR (z q:Sp2):((Y6 z).set 0 (Q4 q.1)).set 1 (Q4 q.2)=Y6 q:=rfl
theorem Qjt (q:Sp2) (v:Int):(Y6 q).set 1 (D.int .i64 v)=Y6 (q.1,v):=rfl
section
variable {R:Type} {n:Nat}
theorem Qh7 {A B:LL} {x:List D} {i:Nat} (h:A.length=i):(A++x::B)[i]? = some x:=by
 simp_all
theorem Qho {A B:LL} {x y:List D} {i:Nat} (h:A.length=i):(A++x::B).set i y=A++y::B:=by
 simp_all
theorem Qco {K:LL->oP R} {k0:Int->Bool->LL->oP R} (hk:∀ a b w,k0 a b w=K w):∀ (c m:Nat) (A:List Sp2) (x:Sp2) (B C:List Sp2),A.length=c->c<m->(A++x::B++C).length<=100->Asc (A++B)->(∀ b∈B,x.1<=b.1) ->
  ∃ L:List Sp2,Qh n 0 k0 m (c:Int) ((A++x::B++C).map Y6)=K ((L++C).map Y6)/\Asc L/\L.Perm (A++x::B)
 |0,m+1,A,x,B,C,hA,_,_,hs,hx=>by
  obtain rfl:=List.eq_nil_of_length_eq_zero hA;refine ⟨x::B,?_,Qqu.2 ⟨hx,hs⟩,List.Perm.refl _⟩;unfold Qh;rw [show decide (((0:Nat):Int)>0)=false from rfl];simp -implicitDefEqProofs only [gbF,Qq6,hk,List.nil_append]
 |c+1,m+1,A,x,B,C,hA,hm,hl,hs,hx=>by
  obtain ⟨A',y,rfl⟩:∃ A' y,A=A'++[y]:=⟨A.dropLast,A.getLast (by intro h;rw [h] at hA;simp at hA),(List.dropLast_concat_getLast _).symm⟩;have ac:A'.length=c:=by simpa using hA
  have ak:c+1<((A'++[y]++x::B++C).map Y6).length:=by simp;omega
  have hc:c<=100:=by simp at hl;omega
  have e1:((A'++[y]++x::B++C).map Y6)=(A'.map Y6++[Y6 y])++Y6 x::(B++C).map Y6:=by simp
  have e2:((A'++[y]++x::B++C).map Y6)=A'.map Y6++Y6 y::(Y6 x::(B++C).map Y6):=by simp
  have g1:((A'++[y]++x::B++C).map Y6)[c+1]? = some (Y6 x):=by rw [e1];exact Qh7 (by simp [ac])
  have d:((A'++[y]++x::B++C).map Y6)[c]? = some (Y6 y):=by rw [e2];exact Qh7 (by simp [ac])
  have s1:((A'++[y]++x::B++C).map Y6).set (c+1) (Y6 y)=A'.map Y6++Y6 y::(Y6 y::(B++C).map Y6):=by rw [e1,Qho (by simp [ac])];simp
  have e:(A'.map Y6++Y6 y::(Y6 y::(B++C).map Y6))[c]? = some (Y6 y):=Qh7 (by simp [ac]);have s2:(A'.map Y6++Y6 y::(Y6 y::(B++C).map Y6)).set c (Y6 x)=((A'++x::(y::B)++C).map Y6):=by rw [Qho (by simp [ac])];simp
  have f:inB ((A'++[y]++x::B++C).map Y6).length ((c+1:Nat):Int)=some ():=XR QoW QoW;have g:inB ((A'++[y]++x::B++C).map Y6).length (c:Int)=some ():=XR QoW QoW;have i:inB (A'.map Y6++Y6 y::(Y6 y::(B++C).map Y6)).length (c:Int)=some ():=XR QoW QoZ;unfold Qh;rw [Qp4 (((c+1:Nat):Int)>0),Ju (show c+1<=1000 by omega) QoW,Qqk];unfold UR;simp -implicitDefEqProofs only [f,g,Q0,Qq7,g1,d,QjM];simp -implicitDefEqProofs only [QbC,Qb8,QhR,Q0,Q2,Qq8];by_cases aj:x.1<y.1
  ·rw [Qqd aj];simp -implicitDefEqProofs only [show decide ((-1:Int)<0)=true from rfl,Qq8,g1,QbC,Qb8,QhR,Q0,s1];simp -implicitDefEqProofs only [i,e,Q0,QhR,s2];obtain ⟨L,j,h2,k⟩:=Qco hk c m A' x (y::B) C ac QoW (by simp at hl ⊢;omega) (by simpa using hs) (fun b hb=>by
    cases hb with
    |head=>omega
    |tail _ hb=>exact hx b hb)
   refine ⟨L,j,h2,k.trans ?_⟩;rw [List.append_assoc];exact List.Perm.append_left _ (List.Perm.swap ..)
  ·refine ⟨A'++[y]++x::B,?_,?_,List.Perm.refl _⟩
   ·rw [Qqg aj,show decide ((if y.1<x.1 then (1:Int) else 0)<0)=false from Qqh (by split <;> omega),Qq6,hk]
   ·unfold Asc at hs ⊢;rw [List.pairwise_append] at hs ⊢;refine ⟨hs.1,Qqu.2 ⟨hx,hs.2.1⟩,fun a ha b hb=>?_⟩;cases hb with
    |head=>
     rcases Qqp.1 ha with h | h
     ·have:=(List.pairwise_append.1 hs.1).2.2 a h y (Qqy.2 rfl);omega
     ·obtain rfl:=Qqy.1 h;omega
    |tail _ hb=>exact hs.2.2 a ha b hb
theorem Qcn {K:LL->oP R} {k0:Int->Bool->LL->oP R} (hk:∀ a b w,k0 a b w=K w):∀ (ac P:List Sp2) (m:Nat),ac.length<m->(P++ac).length<=100->Asc P ->
  ∃ L:List Sp2,Q7 400 0 (((P++ac).length:Nat):Int) k0 m (P.length:Int) ((P++ac).map Y6)=K (L.map Y6)/\Asc L/\L.Perm (P++ac)
 |[],P,m+1,_,_,hs=>by
  refine ⟨P,?_,hs,by simp⟩;rw [Q7,List.append_nil,Qi,Qq6,hk]
 |x::ac,P,m+1,hm,hl,hs=>by
  rw [Q7,Qc QoY,Qq8,Qr (by simp at hl;omega)];obtain ⟨L,d,h2,c⟩:=Qco (n:=400) (K:=fun w=>Q7 400 0 (((P++x::ac).length:Nat):Int) k0 m ((P.length+1:Nat):Int) w) (k0:=fun _ _ w=>Q7 400 0 (((P++x::ac).length:Nat):Int) k0 m ((P.length+1:Nat):Int) w) (fun _ _ _=>rfl) P.length 400 P x [] ac rfl (by simp at hl;omega) (by simp at hl ⊢;omega) (by simpa using hs) (fun b hb=>nomatch hb);rw [show (P++x::ac)=P++[x]++ac by simp] at *
  rw [d];have hL:L.length=P.length+1:=by rw [c.length_eq];simp
  obtain ⟨L',g1,e,f⟩:=Qcn hk ac L m (by simpa using hm) (by simp [hL] at hl ⊢;omega) h2;rw [show (((P++[x]++ac).length:Nat):Int)=(((L++ac).length:Nat):Int) by simp [hL];omega,show ((P.length+1:Nat):Int)=(L.length:Int) by rw [hL]];exact ⟨L',g1,e,f.trans (c.append_right _)⟩
theorem Qk2:((List.range 13).all fun k=>(Gb 400 (IntKind.wrap .u64 (k:Int)) (some:Int->oP Int)).isSome)=true:=by kernel_rfl
theorem QiR {l:List Sp2} (hl:l.length<=12):∃ L:List Sp2,Qv 400 (l.map Y6) (some:LL->oP LL)=some (L.map Y6)/\Asc L/\L.Perm l:=by
 obtain ⟨b,hb⟩:=Option.isSome_iff_exists.1 (List.all_eq_true.1 Qk2 l.length (List.mem_range.2 QoW));unfold Qv;rw [Qqe,hb,Q0];unfold XK Xz;rw [Q6 (x:=(l.length:Int)-0) QoW QoW,QR (Qqf QoW)];unfold Xk;have aj:∀ L:List Sp2,L.length=l.length->(gb true (gb true (some (L.map Y6)) [] fun a=>gb true (Hm a (List.length (l.map Y6))) () fun e=>some a) [] fun r2=>gb true (Hm r2 l.length) () fun u3=>(some r2:oP LL))=some (L.map Y6):=fun L h=>by
  grind [Q0,Mg]
 rw [show wJ ((0:Int)+1)=((1:Nat):Int) from rfl];cases l with
 |nil=>
  refine ⟨[],?_,List.Pairwise.nil,List.Perm.refl _⟩;rfl
 |cons x ac=>
  obtain ⟨L,d,h2,c⟩:=Qcn (K:=(some:LL->oP LL)) (k0:=fun _ _ w=>some w) (fun _ _ _=>rfl) ac [x] 400 (by grind) (by simp at hl ⊢;omega) (List.pairwise_singleton ..);refine ⟨L,?_,h2,c⟩;rw [show (x::ac)=[x]++ac from rfl,show ((1:Nat):Int)=(([x].length:Nat):Int) from rfl,d];exact aj L c.length_eq
def mgS:Int->Int->List Sp2->List Sp2
 |a,b,[]=>[(a,b)]
 |a,b,(c,d)::r=>if c<=b then mgS a (if b<d then d else b) r else (a,b)::mgS c d r
theorem Q5z:∀ {a b:Int} {r:List Sp2},(mgS a b r).length<=r.length+1
 |_,_,[]=>Qql _
 |a,b,(c,d)::r=>by
  rw [mgS];split
  ·have:=Q5z (a:=a) (b:=if b<d then d else b) (r:=r);simp only [Qqn];omega
  ·have:=Q5z (a:=c) (b:=d) (r:=r);simp only [Qqn];omega
theorem Q9H {t:Int}:∀ {l a b:Int} {r:List Sp2},l<a->a<b->b<=t->Asc ((a,b)::r)->(∀ q∈r,q.1<q.2/\q.2<=t)->VS t l (mgS a b r)
 |l,a,b,[],e,h2,f,_,_=>⟨e,h2,f,trivial⟩
 |l,a,b,(c,d)::r,e,h2,f,h,g=>by
  have hs:=Qqu.1 h;have hc:a<=c:=hs.1 (c,d) (.head _);have hd:=g (c,d) (.head _);rw [mgS];split
  ·refine Q9H e (by split <;> omega) (by split <;> simp_all) (Qqu.2 ⟨fun q hq=>hs.1 q (.tail _ hq),(Qqu.1 hs.2).2⟩) (fun q hq=>g q (.tail _ hq))
  ·exact ⟨e,h2,f,Q9H QoW hd.1 hd.2 hs.2 (fun q hq=>g q (.tail _ hq))⟩
theorem Q9y {y:Int}:∀ {a b:Int} {r:List Sp2},Asc ((a,b)::r)->a<b->(∀ q∈r,q.1<q.2)->(InS y (mgS a b r)↔(a<=y/\y<b)\/InS y r)
 |a,b,[],_,_,_=>by rw [mgS,Tg]
 |a,b,(c,d)::r,f,h2,e=>by
  have hs:=Qqu.1 f;have hc:a<=c:=hs.1 (c,d) (.head _);have hd:=e (c,d) (.head _);rw [mgS,Tg];split
  ·rw [Q9y (a:=a) (b:=if b<d then d else b) (Qqu.2 ⟨fun q hq=>hs.1 q (.tail _ hq),(Qqu.1 hs.2).2⟩) (by split <;> omega) (fun q hq=>e q (.tail _ hq))];dsimp only at hc hd ⊢;rw [<- or_assoc];refine or_congr_left ?_;split <;> omega
  ·rw [Tg,Q9y hs.2 hd (fun q hq=>e q (.tail _ hq))]
theorem Q2L {K:LL->oP R} {k0:Int->Bool->LL->oP R} (hk:∀ a b w,k0 a b w=K w) {l:List Sp2} (hl:l.length<=100):∀ (ac:List Sp2) (i m:Nat) (A:List Sp2) (a b:Int),l.drop i=ac->ac.length<m->A.length+ac.length<=100 ->
  X7 n (l.length:Int) (l.map Y6) k0 m (i:Int) ((A++[(a,b)]).map Y6)=K ((A++mgS a b ac).map Y6)
 |[],i,m+1,A,a,b,hd,_,_=>by
  have:=UL hd;rw [X7,show decide ((i:Int)<(l.length:Int))=false by simp_all,Qq6,hk,mgS]
 |(c,d)::ac,i,m+1,A,a,b,hd,hm,hA=>by
  obtain ⟨e,ao,hi⟩:=YB hd;have ar:A.length<=100:=QoW
  have f:(l.map Y6)[i]? = some (Y6 (c,d)):=by rw [Qqq,e];rfl
  have e1:(A++[(a,b)]).map Y6=A.map Y6++Y6 (a,b)::[]:=by simp
  have ak:((A++[(a,b)]).map Y6).length=A.length+1:=by simp
  have g:((A++[(a,b)]).map Y6)[A.length]? = some (Y6 (a,b)):=by rw [e1];exact Qh7 QoY
  have an:∀ v,((A++[(a,b)]).map Y6).set A.length (Y6 (a,v))=(A++[(a,v)]).map Y6:=fun v=>by rw [e1,Qho QoY];simp
  rw [X7,Qc hi,Qq8,ak,Ju (show A.length+1<=1000 by omega) QoW,Qqk,Qqe,XR QoW QoW,XR QoW QoW,Qp4 ((A.length:Int)>=0)];simp -implicitDefEqProofs only [Q0,Qq7,f,g,Qr (show i<=1000 by omega)];simp -implicitDefEqProofs only [QbC,Qb8,Qjt,Q0,Q2,Qq8];rw [mgS];by_cases aj:c<=b
  ·rw [show decide (c<=b)=true from Qqf aj,Qq8,Qqd aj];rw [an];exact Q2L hk hl ac (i+1) m A a _ ao (by simpa using hm) (by simp at hA;omega)
  ·rw [show decide (c<=b)=false from Qqh aj,Qq6,Qqg aj,XE QoZ,Q0];have:=Q2L hk hl ac (i+1) m (A++[(a,b)]) c d ao (by simpa using hm) (by simp at hA ⊢;omega);rw [show A++(a,b)::mgS c d ac=A++[(a,b)]++mgS c d ac by simp,<- this,Qqo (l₂:=[(c,d)])];rfl
theorem t2a {x y:List D}:decide ((0:Int)<(([x,y].length:Nat):Int))=true:=rfl
theorem t2b {x y:List D}:decide ((1:Int)<(([x,y].length:Nat):Int))=true:=rfl
theorem t2c {x y:List D}:decide ((2:Int)<(([x,y].length:Nat):Int))=false:=rfl
theorem t2d:wJ ((0:Int)+1)=1:=rfl
theorem t2e:wJ ((1:Int)+1)=2:=rfl
theorem t2f {x y:List D}:Q1 [x,y] 0=some x:=rfl
theorem t2g {x y:List D}:Q1 [x,y] 1=some y:=rfl
theorem QeF {a b:List Sp2} (h:a.length+b.length<=100):QI 400 [[D.sl 2 (a.map Y6)],[D.sl 2 (b.map Y6)]] (some:LL->oP LL)=some ((a++b).map Y6):=by
 have hg:∀ k:Nat,k<=100->QC 400 (k:Int) (some:LL->oP LL)=some []:=fun k hk=>by
  unfold QC;rw [Q8 (Qqh QoW),show wJ ((0:Int)-0)=0 from rfl,Q6 (x:=(k:Int)-0) QoW QoW];by_cases c:k=0
  ·subst c;rfl
  ·rw [QR (Qqf QoW),show slB 0 none (some (0:Int))=some (0,0) from rfl,Q0,QR (Qqf QoW),Q0,XE QoW,Q0]
 unfold QI;rw [Qf];simp -implicitDefEqProofs only [t2a,t2b,t2c,t2d,t2e,t2f,t2g,Qq8,Qq6,Q0,Qq4,QJ,Qqe,Q6 (x:=0+(a.length:Int)) QoW QoW,Q6 (x:=0+(a.length:Int)+(b.length:Int)) QoW QoW,Qp3 (0+(a.length:Int)<0),Qp3 (0+(a.length:Int)+(b.length:Int)<0),show 0+(a.length:Int)+(b.length:Int)=((a.length+b.length:Nat):Int) by omega,Q6 (x:=((a.length+b.length:Nat):Int)) QoW QoW,Qp3 (((a.length+b.length:Nat):Int)<0),hg _ h];rw [Qf];simp -implicitDefEqProofs only [t2a,t2b,t2c,t2d,t2e,t2f,t2g,Qq8,Qq6,Q0,Qq4,QJ,Qqe,Q6 (x:=0+(a.length:Int)) QoW QoW,Q6 (x:=0+(a.length:Int)+(b.length:Int)) QoW QoW,Qp3 (0+(a.length:Int)<0),Qp3 (0+(a.length:Int)+(b.length:Int)<0),show 0+(a.length:Int)+(b.length:Int)=((a.length+b.length:Nat):Int) by omega,Q6 (x:=((a.length+b.length:Nat):Int)) QoW QoW,Qp3 (((a.length+b.length:Nat):Int)<0),hg _ h];rw [Qf];simp -implicitDefEqProofs only [t2a,t2b,t2c,t2d,t2e,t2f,t2g,Qq8,Qq6,Q0,Qq4,QJ,Qqe,Q6 (x:=0+(a.length:Int)) QoW QoW,Q6 (x:=0+(a.length:Int)+(b.length:Int)) QoW QoW,Qp3 (0+(a.length:Int)<0),Qp3 (0+(a.length:Int)+(b.length:Int)<0),show 0+(a.length:Int)+(b.length:Int)=((a.length+b.length:Nat):Int) by omega,Q6 (x:=((a.length+b.length:Nat):Int)) QoW QoW,Qp3 (((a.length+b.length:Nat):Int)<0),hg _ h];rw [Qg];simp -implicitDefEqProofs only [t2a,t2b,t2c,t2d,t2e,t2f,t2g,Qq8,Qq6,Q0,Qq4,QJ,Qqe,List.nil_append,Qqr,XE (show (0+a.length)*16<=100000 by omega),XE (show (a.length+b.length)*16<=100000 by omega),Qqo];rw [Qg];simp -implicitDefEqProofs only [t2a,t2b,t2c,t2d,t2e,t2f,t2g,Qq8,Qq6,Q0,Qq4,QJ,Qqe,List.nil_append,Qqr,XE (show (0+a.length)*16<=100000 by omega),XE (show (a.length+b.length)*16<=100000 by omega),Qqo];rw [Qg];simp -implicitDefEqProofs only [t2a,t2b,t2c,t2d,t2e,t2f,t2g,Qq8,Qq6,Q0,Qq4,QJ,Qqe,List.nil_append,Qqr,XE (show (0+a.length)*16<=100000 by omega),XE (show (a.length+b.length)*16<=100000 by omega),Qqo]
theorem Qfq {l:List Sp2}:FG [l.map Y6]=some ():=by
 unfold FG;rw [show ([l.map Y6].all BN)=true by simp [BN,Y6,Q5y]];rfl
theorem Qfn {t:Int} {a b:List Sp2} (c:1<=t) (d:t<=7200) (ha:VS t (-1) a) (hb:VS t (-1) b) (hl:a.length<=300) (ac:b.length<=300):HU 400 t [[D.sl 2 (a.map Y6)],[D.sl 2 (b.map Y6)]] (some:Int->oP Int)=some 0:=by
 unfold HU;rw [Q27 c d,Q0,Q8 (by rfl)];rw [WZ];simp -implicitDefEqProofs only [t2a,t2b,t2c,t2d,t2e,t2f,t2g,Qq8,Qq6,Q0,Qq4,QJ,AC c d hl ha,AC c d ac hb,Qqb];rw [WZ];simp -implicitDefEqProofs only [t2a,t2b,t2c,t2d,t2e,t2f,t2g,Qq8,Qq6,Q0,Qq4,QJ,AC c d hl ha,AC c d ac hb,Qqb];rw [WZ];simp -implicitDefEqProofs only [t2a,t2b,t2c,t2d,t2e,t2f,t2g,Qq8,Qq6,Q0,Qq4,QJ,AC c d hl ha,AC c d ac hb,Qqb]
theorem QgL {t:Int} {a b:List Sp2} (e:1<=t) (f:t<=7200) (ha:VS t (-1) a) (hb:VS t (-1) b) (hl:a.length+b.length<=12):∃ c:List Sp2,T6 400 t (a.map Y6) (b.map Y6) Tu2=some (c.map Y6,(0:Int))/\VS t (-1) c/\c.length<=a.length+b.length/\∀ y,InS y c↔InS y a\/InS y b:=by
 obtain ⟨L,s1,s2,d⟩:=QiR (l:=a++b) QoZ;have hr:∀ q∈L,-1<q.1/\q.1<q.2/\q.2<=t:=fun q hq=>by
  rcases Qqp.1 (d.mem_iff.1 hq) with h | h
  ·exact ha.rng q h
  ·exact hb.rng q h
 have ac:L.length=a.length+b.length:=by rw [d.length_eq];simp
 unfold T6;rw [Qfn e f ha hb QoW QoW,Q0,Q8 (by rfl),QeF QoW,Q0,Qfq,Q0];unfold Hv;rw [s1,Q0,Mg (by simp [ac]),Q0,Qqe];cases L with
 |nil=>
  refine ⟨[],?_,trivial,by simp,fun y=>?_⟩
  ·rw [Qqe,<- d.length_eq,X7,show decide ((0:Int)<((([]:List Sp2).length:Nat):Int))=false from rfl,Qq6];rfl
  ·rw [<- Qa5,<- Q6N d]
 |cons q L=>
  obtain ⟨x,z⟩:=q;have hq:=hr (x,z) (.head _);have aj:L.length+1<=12:=by simp at ac;omega
  have hm:=Q2L (n:=400) (K:=fun w=>(some (w,((x,z)::L).map Y6):oP (LL×LL))) (k0:=fun _ _ w=>some (w,((x,z)::L).map Y6)) (fun _ _ _=>rfl) (l:=(x,z)::L) QoZ L 1 399 [] x z rfl QoW QoZ;have ak:∀ k0:Int->Bool->LL->oP (LL×LL),X7 400 ((((x,z)::L).length:Nat):Int) (((x,z)::L).map Y6) k0 400 0 []=X7 400 ((((x,z)::L).length:Nat):Int) (((x,z)::L).map Y6) k0 399 ((1:Nat):Int) (([]++[(x,z)]).map Y6):=fun k0=>by
   rw [X7,show decide ((0:Int)<((((x,z)::L).length:Nat):Int))=true from Qqf QoY,Qq8,XR QoW QoY,show (((x,z)::L).map Y6)[Int.toNat 0]? = some (Y6 (x,z)) from rfl,show decide (wJ (((([]:LL).length:Nat):Int)-1)>=0)=false from rfl];simp -implicitDefEqProofs only [Q0,QbC,Qb8,gbF,Qq6,t2d];rw [XE QoY,Q0];rfl
  refine ⟨mgS x z L,?_,Q9H hq.1 hq.2.1 hq.2.2 s2 (fun q h=>(hr q (.tail _ h)).2),?_,fun y=>?_⟩
  ·rw [ak,hm,Q0,Mg (by simp at ac ⊢;omega),Q0];rfl
  ·have:=Q5z (a:=x) (b:=z) (r:=L);simp at ac;omega
  ·rw [Q9y s2 hq.2.1 (fun q h=>(hr q (.tail _ h)).2.1),<- Qa5,<- Q6N d,Tg]
end
end Go.Vx
