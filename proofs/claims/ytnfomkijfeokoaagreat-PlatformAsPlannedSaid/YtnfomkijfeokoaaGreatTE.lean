/- Part of a proof. No conditions of their own. -/
import Derived.Test.YtnfomkijfeokoaaGreatTD
import Derived.Test.YtnfomkijfeokoaaGreatTB
set_option linter.unusedVariables false
set_option linter.unusedSimpArgs false
noncomputable section
abbrev Qlc:=@cond_false
abbrev Qld:=@List.getElem?_eq_getElem
abbrev Qle:=@cond_true
abbrev Qlf:=@Bool.not_false
abbrev Qlg:=@Bool.not_true
abbrev Qlh:=@List.getElem?_eq_some_iff
abbrev Qli:=@if_pos
abbrev Qlj:=@List.getD_eq_getElem?_getD
abbrev Qlk:=@if_neg
abbrev Qll:=@List.getElem_mem
abbrev Qlm:=@decide_eq_false
abbrev Qln:=@decide_eq_true
abbrev Qlo:=@Nat.add_sub_cancel
abbrev Qlp:=@List.length_map
abbrev Qlq:=@Nat.le_refl
abbrev Qlr:=@Int.eq_ofNat_of_zero_le
abbrev Qls:=@List.getElem?_map
abbrev Qlt:=@List.length_cons
abbrev Qlu:=@Option.getD_some
abbrev Qlv:=@List.mem_append
abbrev Qlw:=@List.length_nil
abbrev Qlx:=@Bool.and_eq_true
abbrev Qly:=@Int.tdiv_eq_ediv_of_nonneg
abbrev Qlz:=@Int.tmod_eq_emod_of_nonneg
abbrev QlA:=@List.take_length
abbrev QlB:=@List.map_append
abbrev QlC:=@List.filter_cons
abbrev QlD:=@List.getElem?_eq_none
abbrev QlE:=@Nat.le_of_ble_eq_true
namespace Go.Vx
def Q7a (a b:Int) (p q:Int):List D:=[Q4 a,Q4 1,Q4 b,Q4 0,Q4 p,Q4 q]
def lk (ac:Bool) (x t:Int) (p q:Int):List D:=bif ac then Q7a x t p q else Q7a t x p q
def nmP (k:Nat):List D:=[D.str (bs [80]++[UInt8.ofNat (48+k)])]
def Q3I (x:Nat) (ac:Bool) (aj k c:Nat):LL:=bif Nat.beq c 2 then [lk ac x k aj 0,lk ac x ((k+1:Nat):Int) aj 1] else [lk ac x k (-1) 0]
def Q2Y (ac c:Nat):LL:=bif Nat.beq c 2 then [nmP ac] else []
section
variable {R:Type} {n:Nat} {q2 q4:LL}
theorem Qeg {a b c d:Int} (h:q4.length<=1000) (K:LL->oP R):Yg n q4 a b c d K=K (q4++[Q7a a b c d]):=by
 unfold Yg;rw [Xr (by simp;omega),Q0];rfl
theorem QeL {k:Nat} (hk:q2.length=k) (h:k<10) (K:Int->LL->oP R):Zx n q2 K=K (k:Int) (q2++[nmP k]):=by
 unfold Zx;rw [hk,Bs n _ k h (by decide),Q0,Xr (by simp;omega),Q0];have hl:(q2++[[D.str (bs [80]++[UInt8.ofNat (48+k)])]]).length=k+1:=by simp [hk]
 rw [hl,Q6 (x:=((k+1:Nat):Int)-1) (by omega) (by omega),show ((k+1:Nat):Int)-1=(k:Int) by omega];rfl
theorem Qi0 {a1 a:Int} {T:List Nat} {ac:Bool} {w:Int} {h t m:Nat} (hh:(h:Int)<a) (b:h<=1000) (ht:T[h]? = some t) (hq:q4.length<=1000) {k0:Int->Bool->LL->oP R} :
  Qx n a1 (Wd T) ac w a k0 (m+1) (h:Int) q4=Qx n a1 (Wd T) ac w a k0 m ((h+1:Nat):Int) (q4++[lk ac a1 t w h]):=by
 rw [Qx];rw [QZ (by simp;omega),Q6 (x:=(h:Int)+1) (by omega) (by omega)];have hr:Q1 (Wd T) (h:Int)=some [Q4 t]:=QJ ht;cases ac
 ·rw [Qa rfl,hr,Q0];show gb true (some (D.int .i64 (t:Int))) _ _=_;rw [Q0,Q2,Q0,Qeg hq,Q0];rfl
 ·rw [QZ rfl,hr,Q0];show gb true (some (D.int .i64 (t:Int))) _ _=_;rw [Q0,Q2,Q0,Qeg hq,Q0];rfl
theorem QeZ {a1 a:Int} {T:LL} {ac:Bool} {w:Int} {h m:Nat} (hh:¬ (h:Int)<a) {k0:Int->Bool->LL->oP R} :
  Qx n a1 T ac w a k0 (m+1) (h:Int) q4=k0 h false q4:=by
 rw [Qx,Qa (by simp;omega)];simp [hh]
theorem Qil {m x k c p:Nat} {ac:Bool} (hc:c=1\/c=2) (hp:q2.length=p) (a:p<10) (hq:q4.length<=900) (K:LL->LL->oP R) :
  Vt (m+3) q2 q4 (x:Int) (Wd (ups k c)) ac K=K (q2++Q2Y p c) (q4++Q3I x ac p k c):=by
 rcases hc with rfl | rfl
 ·show Qx (m+3) (x:Int) (Wd [k]) ac (-1) (1:Int) _ (m+2+1) ((0:Nat):Int) q4=_;rw [Qi0 (by decide) (by decide) rfl (by omega),QeZ (by decide)];rw [show Q2Y p 1=[] from rfl,List.append_nil];rfl
 ·show gb true (Zx (m+3) q2 _) _ _=_;rw [QeL hp a,Q0];show Qx (m+3) (x:Int) (Wd [k,k+1]) ac (p:Int) (2:Int) _ (m+2+1) ((0:Nat):Int) q4=_;rw [Qi0 (by decide) (by decide) rfl (by omega),Qi0 (by decide) (by decide) rfl (by simp;omega),QeZ (by decide),List.append_assoc];rfl
end
def inL (s u:Nat):LL:=bif Nat.beq u 2 then [Q7a s ((s+1:Nat):Int) (-1) 0] else []
def pc (c:Nat):Nat:=bif Nat.beq c 2 then 1 else 0
theorem Q6A (p c:Nat):(Q2Y p c).length=pc c:=by unfold Q2Y pc;cases Nat.beq c 2 <;> rfl
theorem Qdn {c:Nat}:pc c<=1:=by unfold pc;cases Nat.beq c 2 <;> simp
theorem Q2P {x p k c:Nat} {e:Bool}:(Q3I x e p k c).length<=2:=by unfold Q3I;cases Nat.beq c 2 <;> simp
theorem Q5k {s u:Nat}:(inL s u).length<=1:=by unfold inL;cases Nat.beq u 2 <;> simp
section
variable {R:Type} {n:Nat} {l:List Int} (hl:l.length<=9223372036854775807) {P:R->Prop}
include hl
theorem QdY {i c k j m:Nat} {tl S:LL} {k0:Int->Bool->LL->LL->Int->oP R}
  (hi:i<10) (hc:c+1<10) (hk:S.length=k) (e:k<=500) (ht:tl.length<=500) (hj:j<=l.length)
  (H:∀ (x:Nt) (j:Nat),Num x.1 x.2.1 x.2.2->j<=l.length->G3 n i (encI l) k0 m (c:Int) (tl++[[Q4 k]]) (S++[secL i (c+1) x]) (j:Int)∈P) :
  G3 n (i:Int) (encI l) k0 (m+1) ((c+1:Nat):Int) tl S (j:Int)∈P:=by
 unfold G3;rw [QZ (by simp),Bs n _ i hi (by decide),Q0,Bs n _ (c+1) hc (by simp),Q0];refine QeS hl hj fun a b d j hn hj=>?_
 dsimp only;refine Qiz k hk (by omega) ?_;dsimp only;rw [Xr (by simp;omega),Q0,Q6 (x:=((c+1:Nat):Int)-1) (by omega) (by omega),show ((c+1:Nat):Int)-1=(c:Int) by omega];exact H (a,b,d) j hn hj
theorem Qc1 {i c k j m:Nat} {S:LL} {k0:Int->Bool->LL->LL->Int->oP R}
  (hi:i<10) (hc:c=1\/c=2) (hk:S.length=k) (a:k<=400) (hj:j<=l.length)
  (H:∀ (x:List Nt) (j:Nat),Hd x->x.length=c->j<=l.length->k0 0 false (Wd (ups k c)) (S++YF (secL i) c x) (j:Int)∈P) :
  G3 n (i:Int) (encI l) k0 (m+3) (c:Int) [] S (j:Int)∈P:=by
 rcases hc with rfl | rfl
 ·refine QdY hl (c:=0) hi (by omega) hk (by omega) (by simp) hj fun x j hx hj=>?_
  exact H [x] j ⟨hx,trivial⟩ rfl hj
 ·refine QdY hl (c:=1) hi (by omega) hk (by omega) (by simp) hj fun x j hx hj=>?_
  refine QdY hl (c:=0) (k:=k+1) hi (by omega) (by simp [hk]) (by omega) (by simp) hj fun y j hy hj=>?_
  have:=H [x,y] j ⟨hx,hy,trivial⟩ rfl hj;simp only [YF,ups,Wd,List.map_cons,List.map_nil] at this;show k0 0 false _ (S++[secL i 2 x]++[secL i 1 y]) (j:Int)∈P;rw [List.append_assoc S];exact this
end
section
variable {R:Type} {n:Nat}
theorem inA {s u m:Nat} {a:LL} (hu:u=1\/u=2) (hq:a.length<=900) {k0:Int->Bool->LL->oP R} :
  ST n (Wd (ups s u)) k0 (m+3) 0 a=k0 ((u-1:Nat):Int) false (a++inL s u):=by
 rcases hu with rfl | rfl
 ·rw [show inL s 1=[] from rfl,List.append_nil];rfl
 ·show gb true (Yg n a (s:Int) ((s+1:Nat):Int) (-1) 0 _) _ _=_;rw [Qeg (by omega),Q0];rfl
end
theorem Qhk {R:Type} {m:Nat} {l:List Int} (hl:l.length<=9223372036854775807) {P:R->Prop} {a:Int} {g s p k c k' c' j:Nat} {Pt Se Li Tr Bt:LL} {k0:Int->Bool->LL->LL->LL->LL->Int->oP R} {n:Nat}
  (hg:g<8) (hw:(g:Int)+1<a) (hs:Se.length=s) (i:s<=300) (hp:Pt.length=p) (o:p<8) (hL:Li.length<=300) (hB:Bt.length<=300)
  (hT:Tr[g]? = some [D.sl 1 (Wd (ups k c))]) (ac:Tr[g+1]? = some [D.sl 1 (Wd (ups k' c'))]) (hc:c=1\/c=2) (an:c'=1\/c'=2) (hj:j<=l.length)
  (H:∀ (u:Nat) (x:List Nt) (j:Nat),(u=1\/u=2)->Hd x->x.length=u->j<=l.length ->
   UD (m+3) a Tr (encI l) k0 n ((g+1:Nat):Int) ((Pt++Q2Y p c)++Q2Y (p+pc c) c') (Se++YF (secL g) u x) (((Li++inL s u)++Q3I s false p k c)++Q3I (s+u-1) true (p+pc c) k' c') (Bt++[[D.sl 1 (Wd (ups s u))]]) (j:Int)∈P) :
  UD (m+3) a Tr (encI l) k0 (n+1) (g:Int) Pt Se Li Bt (j:Int)∈P:=by
 unfold UD;have ao:wJ ((g:Int)+1)=((g+1:Nat):Int):=by rw [Q6 (by omega) (by omega)];omega
 rw [ao,QZ (by simp;omega)];refine VK hl hj (by decide) (by decide) fun v j b d hj=>?_
 obtain ⟨u,hu,hv⟩:∃ u:Nat,(u=1\/u=2)/\wJ (1+v)=(u:Int):=by
  rcases two b d with rfl | rfl
  ·exact ⟨1,.inl rfl,rfl⟩
  ·exact ⟨2,.inr rfl,rfl⟩
 dsimp only;rw [hv];refine Qc1 hl (by omega) hu hs (by omega) hj fun x j hx aj hj=>?_
 rw [inA hu (by omega)];have e:(0:Int).toNat=0:=rfl;have ak:(Wd (ups s u)).length=u:=by rcases hu with rfl | rfl <;> rfl
 have f:(Wd (ups s u))[0]? = some [Q4 s]:=by rcases hu with rfl | rfl <;> rfl
 have e1:(Wd (ups s u))[u-1]? = some [Q4 ((s+u-1:Nat):Int)]:=by rcases hu with rfl | rfl <;> rfl
 have ax:g<Tr.length:=(Qlh.1 hT).1;have ar:g+1<Tr.length:=(Qlh.1 ac).1;have h:wJ ((u:Int)-1)=((u-1:Nat):Int):=by rcases hu with rfl | rfl <;> rfl
 rw [ak,Y0 (by omega) (by omega),Q0,e,f,Q0];show gb true (some (Q4 s)) _ _∈P;rw [Q0,Q2,Q0,Y0 (by omega) (by omega),Q0,Int.toNat_natCast,hT,Q0];show gb true (some (D.sl 1 (Wd (ups k c)))) _ _∈P;rw [Q0,Qw,Q0,Qil hc hp (by omega) (by have:=@Q5k s u;simp;omega),Q0];dsimp only;rw [h,Y0 (by omega) (by omega),Q0,Int.toNat_natCast,e1,Q0];show gb true (some (Q4 ((s+u-1:Nat):Int))) _ _∈P;rw [Q0,Q2,Q0,Y0 (by omega) (by omega),Q0,Int.toNat_natCast,ac,Q0];show gb true (some (D.sl 1 (Wd (ups k' c')))) _ _∈P;rw [Q0,Qw,Q0,Qil (p:=p+pc c) an (by simp [hp,Q6A]) (by have:=@Qdn c;omega) (by have:=@Q5k s u;have:=@Q2P s p k c false;simp;omega),Q0];dsimp only;rw [Xr (by simp;omega),Q0];exact H u x j hu hx aj hj
def nmS (k:Nat):List D:=[D.str (bs [83]++[UInt8.ofNat (48+k)])]
theorem Xi {f:Nat->Nt->List D}:∀ {c:Nat} {x:List Nt},x.length=c->(YF f c x).length=c
 |0,[],_=>rfl
 |c+1,a::x,h=>by simp [YF];exact Xi (by simpa using h)
section
variable {R:Type} {m:Nat} {l:List Int} (hl:l.length<=9223372036854775807) {P:R->Prop}
include hl
theorem Fm {a:Int} {i k j:Nat} {b d e:LL} {k0:Int->Bool->LL->LL->LL->Int->oP R} {n:Nat}
  (hi:i<10) (hw:(i:Int)<a) (hk:d.length=k) (g:k<=400) (f:b.length<=400) (h2:e.length<=400) (hj:j<=l.length)
  (H:∀ (c:Nat) (x:List Nt) (j:Nat),(c=1\/c=2)->Hd x->x.length=c->j<=l.length ->
   UP (m+3) a (encI l) k0 n ((i+1:Nat):Int) (b++[nmS i]) (d++YF (secT i) c x) (e++[[D.sl 1 (Wd (ups k c))]]) (j:Int)∈P) :
  UP (m+3) a (encI l) k0 (n+1) (i:Int) b d e (j:Int)∈P:=by
 unfold UP;rw [QZ (by simp;omega),Bs _ _ i hi (by decide),Q0,Xr (by simp;omega),Q0];refine VK hl hj (by decide) (by decide) fun v j h f hj=>?_
 obtain ⟨c,hc,hv⟩:∃ c:Nat,(c=1\/c=2)/\wJ (1+v)=(c:Int):=by
  rcases two h f with rfl | rfl
  ·exact ⟨1,.inl rfl,rfl⟩
  ·exact ⟨2,.inr rfl,rfl⟩
 dsimp only;rw [hv];refine Qe3 hl hi hc hk g hj fun x j hx ac hj=>?_
 rw [Xr (by simp;omega),Q0,Q6 (x:=(i:Int)+1) (by omega) (by omega)];exact H c x j hc hx ac hj
omit hl in
theorem r7e {n m:Nat} {b a:Int} {g c d e:LL} {f:Int} {k0:Int->Bool->LL->LL->LL->Int->oP R} (h:¬ a<b) :
  UP n b g k0 (m+1) a c d e f=k0 a false c d e f:=by
 rw [UP,Qa (by simp;omega)];simp [h]
omit hl in
theorem Qit {n m:Nat} {b a:Int} {i j c d e f:LL} {g:Int} {k0:Int->Bool->LL->LL->LL->LL->Int->oP R} (h:¬ wJ (a+1)<b) :
  UD n b i j k0 (m+1) a c d e f g=k0 a false c d e f g:=by
 rw [UD,Qa (by simp;omega)];simp [h]
theorem Qho {i:Nat} (hi:i<=l.length) {k0:LL->LL->LL->LL->LL->LL->Int->oP R}
  (H:∀ (c0 c1 a:Nat) (b d e:List Nt) (j:Nat),(c0=1\/c0=2)->(c1=1\/c1=2)->(a=1\/a=2)->Hd b->Hd d->Hd e->b.length=c0->d.length=c1->e.length=a->j<=l.length ->
   k0 [nmS 0,nmS 1] (Q2Y 0 c0++Q2Y (pc c0) c1) ((YF (secT 0) c0 b++YF (secT 1) c1 d)++YF (secL 0) a e)
    ((inL (c0+c1) a++Q3I (c0+c1) false 0 0 c0)++Q3I (c0+c1+a-1) true (pc c0) c0 c1)
    [[D.sl 1 (Wd (ups 0 c0))],[D.sl 1 (Wd (ups c0 c1))]] [[D.sl 1 (Wd (ups (c0+c1) a))]] (j:Int)∈P) :
  UP (m+3) 2 (encI l) (fun _ _ r t h u=>
   UD (m+3) 2 h (encI l) (fun _ _ v x y z aa=>k0 r v x y h z aa) (m+3) (0:Int) [] t [] [] u)
   (m+3) (0:Int) [] [] [] (i:Int)∈P:=by
 refine Fm hl (i:=0) (by decide) (by decide) rfl (by decide) (by decide) (by decide) hi fun c0 b j n ab f hj=>?_
 refine Fm hl (i:=1) (k:=c0) (by decide) (by decide) (by simp [Xi f]) (by omega) (by simp) (by simp) hj fun c1 d j o ac q hj=>?_
 rw [r7e (by decide)];refine Qhk hl (g:=0) (s:=c0+c1) (p:=0) (k:=0) (c:=c0) (k':=c0) (c':=c1) (by decide) (by decide) (by simp [Xi f,Xi q]) (by omega) rfl (by decide) (by decide) (by decide) rfl rfl n o hj fun a e j ad ae aj hj=>?_
 rw [Qit (by decide)];have:=H c0 c1 a b d e j n o ad ab ac ae f q aj hj;simpa [Nat.add_assoc] using this
theorem Qhr {i:Nat} (hi:i<=l.length) {k0:LL->LL->LL->LL->LL->LL->Int->oP R}
  (H:∀ (c0 c1 a b d:Nat) (e f h n o:List Nt) (j:Nat),(c0=1\/c0=2)->(c1=1\/c1=2)->(a=1\/a=2)->(b=1\/b=2)->(d=1\/d=2)->Hd e->Hd f->Hd h->Hd n->Hd o->e.length=c0->f.length=c1->h.length=a->n.length=b->o.length=d->j<=l.length ->
   k0 [nmS 0,nmS 1,nmS 2] ((Q2Y 0 c0++Q2Y (pc c0) c1)++Q2Y (pc c0+pc c1) c1++Q2Y (pc c0+pc c1+pc c1) a)
    ((((YF (secT 0) c0 e++YF (secT 1) c1 f)++YF (secT 2) a h)++YF (secL 0) b n)++YF (secL 1) d o)
    (((inL (c0+c1+a) b++Q3I (c0+c1+a) false 0 0 c0)++Q3I (c0+c1+a+b-1) true (pc c0) c0 c1)++inL (c0+c1+a+b) d++Q3I (c0+c1+a+b) false (pc c0+pc c1) c0 c1++Q3I (c0+c1+a+b+d-1) true (pc c0+pc c1+pc c1) (c0+c1) a)
    [[D.sl 1 (Wd (ups 0 c0))],[D.sl 1 (Wd (ups c0 c1))],[D.sl 1 (Wd (ups (c0+c1) a))]] [[D.sl 1 (Wd (ups (c0+c1+a) b))],[D.sl 1 (Wd (ups (c0+c1+a+b) d))]] (j:Int)∈P) :
  UP (m+4) 3 (encI l) (fun _ _ aa ab v ac=>
   UD (m+4) 3 v (encI l) (fun _ _ ad ae ag ah ai=>k0 aa ad ae ag v ah ai) (m+4) (0:Int) [] ab [] [] ac)
   (m+4) (0:Int) [] [] [] (i:Int)∈P:=by
 refine Fm hl (m:=m+1) (i:=0) (by decide) (by decide) rfl (by decide) (by decide) (by decide) hi fun c0 e j x aj q hj=>?_
 refine Fm hl (m:=m+1) (i:=1) (k:=c0) (by decide) (by decide) (by simp [Xi q]) (by omega) (by simp) (by simp) hj fun c1 f j t ak r hj=>?_
 refine Fm hl (m:=m+1) (i:=2) (k:=c0+c1) (by decide) (by decide) (by simp [Xi q,Xi r]) (by omega) (by simp) (by simp) hj fun a h j y al u hj=>?_
 rw [r7e (by decide)];refine Qhk hl (m:=m+1) (g:=0) (s:=c0+c1+a) (p:=0) (k:=0) (c:=c0) (k':=c0) (c':=c1) (by decide) (by decide) (by simp [Xi q,Xi r,Xi u,Nat.add_assoc]) (by omega) rfl (by decide) (by decide) (by decide) rfl rfl x t hj fun b n j am an z hj=>?_
 have b0:=@Qdn c0;have b1:=@Qdn c1;have f0:=@Q5k (c0+c1+a) b;have f1:=@Q2P (c0+c1+a) 0 0 c0 false;have f2:=@Q2P (c0+c1+a+b-1) (pc c0) c0 c1 true;refine Qhk hl (m:=m+1) (g:=1) (s:=c0+c1+a+b) (p:=pc c0+pc c1) (k:=c0) (c:=c1) (k':=c0+c1) (c':=a) (by decide) (by decide) (by simp [Xi q,Xi r,Xi u,Xi z,Nat.add_assoc]) (by omega) (by simp [Q6A]) (by omega) (by simp;omega) (by simp) rfl rfl t y hj fun d o j ao ap aq hj=>?_
 rw [Qit (by decide)];have:=H c0 c1 a b d e f h n o j x t y am ao aj ak al an ap q r u z aq hj;simpa [Nat.add_assoc] using this
end
def QcB:Option Bool->Bool
 |some true=>true
 |_=>false
def Qiu:Option Bool->Bool
 |some false=>true
 |_=>false
def Q8n:Option Int->Bool
 |some n=>n == 0
 |none=>false
theorem M5 {o:Option Bool} (h:QcB o=true):o=some true:=by
 match o,h with
 |some true,_=>rfl
theorem Q9K {o:Option Bool} (h:Qiu o=true):o=some false:=by
 match o,h with
 |some false,_=>rfl
theorem J6 {o:Option Int} (h:Q8n o=true):o=some 0:=by
 match o,h with
 |some n,h=>simp only [Q8n,beq_iff_eq] at h;rw [h]
end Go.Vx
namespace Go.Vx
variable {R:Type} (n:Nat)
def Qcp (ac:List (List UInt8)) (s:List UInt8):Bool:=Nat.ble s.length 12&&QcB (KN n s some)&&!(ac.contains s)
def Po :List (List UInt8)->LL->Bool
 | _,[]=>true
 | ac,row::r=>match row with
 | [D.str s]=>Qcp n ac s&&Po (s::ac) r
 | _=>false
def HO (l0 l1 l2 e:LL):List (List UInt8)->LL->Bool
 | _,[]=>true
 | ac,row::r=>match row with
 | [D.str s,D.int .i64 a,D.int .i64 b,D.int .i64 c,D.int .i64 d]=>Qcp n ac s&&QcB (Xl n l0 l1 l2 e s a b c d some)&&HO l0 l1 l2 e (s::ac) r
 | _=>false
def H9 (l0 l1 l2 c:LL):List LL->LL->Bool
 | _,[]=>true
 | st,row::r=>match row with
 | [D.int .i64 a,D.int .i64 ae,D.int .i64 b,D.int .i64 be,D.int .i64 p,D.int .i64 q]=>(decide (0<=a)&&decide (a<l2.length)&&decide (0<=ae)&&decide (ae<=1)&&decide (0<=b)&&decide (b<l2.length)&&decide (0<=be)&&decide (be<=1))&&QcB (Yj n l0 l1 l2 c a ae b be p q some) && !(Nat.beq (2*a+ae).toNat (2*b+be).toNat) && (match st[(2*a+ae).toNat]?,st[(2*b+be).toNat]? with
 | some x,some y=>Qiu (GT n x a ae b be some)&&QcB (G7 n a ae b be p q x some)&&QcB (G7 n a ae b be p q y some)&&Nat.ble x.length 1&&Nat.ble y.length 1&&H9 l0 l1 l2 c ((st.set (2*a+ae).toNat (x++[row])).set (2*b+be).toNat (y++[row])) r
 | _,_=>false)
 | _=>false
def TU (l0 l1 l2 a:LL):Bool:=Nat.ble l0.length 24&&Nat.ble l1.length 48&&Nat.ble l2.length 96&&Nat.ble a.length 192&&!(Nat.beq l2.length 0)&&Po n [] l0&&Po n [] l1&&HO n l0 l1 l2 a [] l2&&H9 n l0 l1 l2 a (List.replicate (2*l2.length) []) a
def Zy (l0 l1 l2 a:LL) (K:Int->oP R):oP R:=bif TU n l0 l1 l2 a then K 0 else none
end Go.Vx
namespace Go.Vx
def hat (c:Nat):List Nt:=List.replicate c (2,5000,0)
def pt2 (c0 c1:Nat):LL:=Q2Y 0 c0++Q2Y (pc c0) c1
def se2 (c0 c1 a:Nat) (b c d:List Nt):LL:=(YF (secT 0) c0 b++YF (secT 1) c1 c)++YF (secL 0) a d
def li2 (c0 c1 a:Nat):LL:=(inL (c0+c1) a++Q3I (c0+c1) false 0 0 c0)++Q3I (c0+c1+a-1) true (pc c0) c0 c1
def pt3 (c0 c1 a:Nat):LL:=(Q2Y 0 c0++Q2Y (pc c0) c1)++Q2Y (pc c0+pc c1) c1++Q2Y (pc c0+pc c1+pc c1) a
def se3 (c0 c1 a b c:Nat) (d e f g h:List Nt):LL:=(((YF (secT 0) c0 d++YF (secT 1) c1 e)++YF (secT 2) a f)++YF (secL 0) b g)++YF (secL 1) c h
def li3 (c0 c1 a b c:Nat):LL:=((inL (c0+c1+a) b++Q3I (c0+c1+a) false 0 0 c0)++Q3I (c0+c1+a+b-1) true (pc c0) c0 c1)++inL (c0+c1+a+b) c++Q3I (c0+c1+a+b) false (pc c0+pc c1) c0 c1++Q3I (c0+c1+a+b+c-1) true (pc c0+pc c1+pc c1) (c0+c1) a
theorem ok2 {c0 c1 a:Nat} (b:c0=1\/c0=2) (c:c1=1\/c1=2) (h2:a=1\/a=2):TU 400 [nmS 0,nmS 1] (pt2 c0 c1) (se2 c0 c1 a (hat c0) (hat c1) (hat a)) (li2 c0 c1 a)=true:=by
 rcases b with rfl | rfl <;> rcases c with rfl | rfl <;> rcases h2 with rfl | rfl <;> kernel_rfl
theorem ok3 {c0 c1 a b c:Nat} (d:c0=1\/c0=2) (e:c1=1\/c1=2) (h2:a=1\/a=2) (f:b=1\/b=2) (g:c=1\/c=2):TU 400 [nmS 0,nmS 1,nmS 2] (pt3 c0 c1 a) (se3 c0 c1 a b c (hat c0) (hat c1) (hat a) (hat b) (hat c)) (li3 c0 c1 a b c)=true:=by
 rcases d with rfl | rfl <;> rcases e with rfl | rfl <;> rcases h2 with rfl | rfl <;> rcases f with rfl | rfl <;> rcases g with rfl | rfl <;> kernel_rfl
structure NumOk (a b c d:Int) (k:Nat):Prop where
 a0:1<=a
 a1:a<=400
 b0:1000<=b
 b1:b<=100000
 c0 : -40<=c
 c1:c<=40
 d0 : -1<=d
 d1:d<k
theorem Q7h {n:Nat} {l0 l1 l2 e:LL} {s:List UInt8} {a b c d:Int} (h:NumOk a b c d l0.length):Xl n l0 l1 l2 e s a b c d some=some true:=by
 obtain ⟨f,g,h2,i,j,k,l,m⟩:=h;unfold Xl;simp [f,g,h2,i,j,k,l,m]
def DQ (k:Nat):LL->LL->Prop
 |[],[]=>True
 |r::s,r'::s'=>(∃ nm a b c a' b' c' d,r=[D.str nm,Q4 a,Q4 b,Q4 c,Q4 d]/\r'=[D.str nm,Q4 a',Q4 b',Q4 c',Q4 d]/\NumOk a b c d k/\NumOk a' b' c' d k)/\DQ k s s'
 |_,_=>False
theorem DQ.len {k:Nat}:∀ {s s':LL},DQ k s s'->s.length=s'.length
 |[],[],_=>rfl
 |r::s,r'::s',h=>by simp [DQ.len h.2]
theorem DQ.app {k:Nat}:∀ {s s' t t':LL},DQ k s s'->DQ k t t'->DQ k (s++t) (s'++t')
 |[],[],t,t',_,h=>h
 |r::s,r'::s',t,t',h,h2=>⟨h.1,DQ.app h.2 h2⟩
theorem DQ.secT {k i:Nat} (hi:i<k):∀ {c:Nat} {x x':List Nt},Hd x->Hd x'->x.length=c->x'.length=c->DQ k (YF (secT i) c x) (YF (secT i) c x')
 |0,[],[],_,_,_,_=>trivial
 |c+1,a::x,a'::x',h,h',e,e'=>⟨⟨QiA i (c+1),a.1+2,a.2.1,a.2.2,a'.1+2,a'.2.1,a'.2.2,i,rfl,rfl,
   ⟨by have:=h.1.a0;omega,by have:=h.1.a1;omega,by have:=h.1.b0;omega,by have:=h.1.b1;omega,by have:=h.1.c0;omega,by have:=h.1.c1;omega,by omega,by omega⟩,
   ⟨by have:=h'.1.a0;omega,by have:=h'.1.a1;omega,by have:=h'.1.b0;omega,by have:=h'.1.b1;omega,by have:=h'.1.c0;omega,by have:=h'.1.c1;omega,by omega,by omega⟩⟩,DQ.secT hi h.2 h'.2 (by simpa using e) (by simpa using e')⟩
theorem DQ.secL {k i:Nat}:∀ {c:Nat} {x x':List Nt},Hd x->Hd x'->x.length=c->x'.length=c->DQ k (YF (secL i) c x) (YF (secL i) c x')
 |0,[],[],_,_,_,_=>trivial
 |c+1,a::x,a'::x',h,h',e,e'=>⟨⟨nmL i (c+1),a.1,a.2.1,a.2.2,a'.1,a'.2.1,a'.2.2,-1,rfl,rfl,
   ⟨by have:=h.1.a0;omega,by have:=h.1.a1;omega,by have:=h.1.b0;omega,by have:=h.1.b1;omega,by have:=h.1.c0;omega,by have:=h.1.c1;omega,by omega,by omega⟩,
   ⟨by have:=h'.1.a0;omega,by have:=h'.1.a1;omega,by have:=h'.1.b0;omega,by have:=h'.1.b1;omega,by have:=h'.1.c0;omega,by have:=h'.1.c1;omega,by omega,by omega⟩⟩,DQ.secL h.2 h'.2 (by simpa using e) (by simpa using e')⟩
theorem Tf:∀ c,Hd (hat c)
 |0=>trivial
 |c+1=>⟨⟨by decide,by decide,by decide,by decide,by decide,by decide⟩,Tf c⟩
theorem Mk (c:Nat):(hat c).length=c:=by simp [hat]
theorem DM {n:Nat} {l0 l1 L L' e:LL}:∀ {s s':LL} {ac:List (List UInt8)},DQ l0.length s s'->HO n l0 l1 L e ac s=HO n l0 l1 L' e ac s'
 |[],[],ac,_=>rfl
 |r::s,r'::s',ac,h=>by
  obtain ⟨⟨nm,a,b,c,a',b',c',d,rfl,rfl,f,h2⟩,g⟩:=h;show (Qcp n ac nm&&QcB (Xl n l0 l1 L e nm a b c d some)&&HO n l0 l1 L e (nm::ac) s)=(Qcp n ac nm&&QcB (Xl n l0 l1 L' e nm a' b' c' d some)&&HO n l0 l1 L' e (nm::ac) s');rw [Q7h f,Q7h h2,DM g]
theorem F0 {n:Nat} {l0 l1 L L' c:LL} (h:L.length=L'.length):∀ {t:LL} {st:List LL},H9 n l0 l1 L c st t=H9 n l0 l1 L' c st t
 |[],st=>rfl
 |r::t,st=>by
  unfold H9;split
  ·rename_i a ae b be p q;have e:Yj n l0 l1 L c a ae b be p q some=Yj n l0 l1 L' c a ae b be p q some:=by unfold Yj;rw [h]
   rw [e,h];split
   ·rw [F0 h]
   ·rfl
  ·rfl
theorem Q19 {n:Nat} {l0 l1 L L' a:LL} (h:DQ l0.length L L'):TU n l0 l1 L a=TU n l0 l1 L' a:=by
 unfold TU;rw [h.len,DM h,F0 h.len]
theorem sr2 {c0 c1 a:Nat} {b c d:List Nt} (e:Hd b) (f:Hd c) (g:Hd d) (h:b.length=c0) (e1:c.length=c1) (e2:d.length=a):DQ 2 (se2 c0 c1 a b c d) (se2 c0 c1 a (hat c0) (hat c1) (hat a)):=
 .app (.app (.secT (by decide) e (Tf _) h (Mk _)) (.secT (by decide) f (Tf _) e1 (Mk _))) (.secL g (Tf _) e2 (Mk _))
theorem sr3 {c0 c1 a b c:Nat} {d e f g h:List Nt} (i:Hd d) (j:Hd e) (k:Hd f) (n3:Hd g) (l:Hd h) (m:d.length=c0) (e1:e.length=c1) (e2:f.length=a) (n:g.length=b) (o:h.length=c):DQ 3 (se3 c0 c1 a b c d e f g h) (se3 c0 c1 a b c (hat c0) (hat c1) (hat a) (hat b) (hat c)):=
 .app (.app (.app (.app (.secT (by decide) i (Tf _) m (Mk _)) (.secT (by decide) j (Tf _) e1 (Mk _))) (.secT (by decide) k (Tf _) e2 (Mk _))) (.secL n3 (Tf _) n (Mk _))) (.secL l (Tf _) o (Mk _))
theorem QiK {c0 c1 a:Nat} {b c d:List Nt} (e:c0=1\/c0=2) (f:c1=1\/c1=2) (h2:a=1\/a=2) (g:Hd b) (h:Hd c) (i:Hd d) (j:b.length=c0) (e1:c.length=c1) (e2:d.length=a) :
  TU 400 [nmS 0,nmS 1] (pt2 c0 c1) (se2 c0 c1 a b c d) (li2 c0 c1 a)=true:=by
 rw [<- ok2 e f h2];exact Q19 (sr2 g h i j e1 e2)
theorem Qjb {c0 c1 a b c:Nat} {d e f g h:List Nt} (i:c0=1\/c0=2) (j:c1=1\/c1=2) (h2:a=1\/a=2) (k:b=1\/b=2) (l:c=1\/c=2) (m:Hd d) (n:Hd e) (o:Hd f) (n3:Hd g) (p:Hd h) (q:d.length=c0) (e1:e.length=c1) (e2:f.length=a) (r:g.length=b) (s:h.length=c) :
  TU 400 [nmS 0,nmS 1,nmS 2] (pt3 c0 c1 a) (se3 c0 c1 a b c d e f g h) (li3 c0 c1 a b c)=true:=by
 rw [<- ok3 i j h2 k l];exact Q19 (sr3 m n o n3 p q e1 e2 r s)
end Go.Vx
namespace Go.Vx
variable {R:Type} (n:Nat)
def U2 (c:LL) (b:Int) (d e f g:LL) (k0:oP R) (k1:Int->Bool->oP R):Nat->Int->oP R
 | 0,_=>none
 | m+1,a=>bif decide (a<b) then QjJ R c a fun i j=>Qjw R i j fun k l=>Qjl R (Ny n d e f g k l some) fun o=>bif !o then k0 else U2 c b d e f g k0 k1 m (wJ (a+1)) else k1 a (decide (a<b))
def GA (n:Nat) (e:LL) (c:Int) (k0:oP R) (k1:Int->Bool->LL->oP R):Nat->Int->LL->oP R
 | 0,_,_=>none
 | m+1,b,a=>bif decide (b<c) then QjA R e b fun f g=>Qjl R f[1]? fun o=>Qjl R (pIw g) fun h=>QjO R a.length h a h.toNat fun k=>bif k then k0 else Qjl R (pIw g) fun d=>Qjz R a.length d a d.toNat fun l=>GA n e c k0 k1 m (wJ (b+1)) (List.set a d.toNat (List.set l 0 (D.bool true))) else k1 b (decide (b<c)) a
def WP (e:LL) (b:Int) (f g h i j:LL) (k0:oP R) (k1:Int->Bool->LL->oP R):Nat->Int->LL->oP R
 | 0,_,_=>none
 | m+1,a,c=>bif decide (a<b) then QjJ R e a fun o p=>QjJ R j a fun q r=>QjW R q r o p fun s t u v=>gb true (JT n f g h i s t u v Tu2) (0,false) fun d=>bif !d.2 then k0 else Qjl R (Y6 ((c.length+[[Q4 d.1]].length)*8)) fun z=>WP e b f g h i j k0 k1 m (wJ (a+1)) (c++[[Q4 d.1]]) else k1 a (decide (a<b)) c
def Hx (d e b f a:LL) (c:Int) (K:LL->Int->oP R):oP R:=Qjl R (Zy n d e b f some) fun j=>bif j !=0 then K [] 1 else Qjk R (a.length:Int) fun aa=>jn (fun (k:Bool)=>bif k then K [] 7 else jn (fun (l:Bool)=>bif l then K [] 4 else U2 n a aa d e b f (K [] 4) (fun o p=>Qjk R (b.length:Int) fun z=>gb true (bif decide (0<=z)&&decide (z<=z) then some () else none) () fun q=>Qjl R (Y6 (Int.toNat z*1)) fun r=>GA n a aa (K [] 5) (fun s t u=>Qjl R (slB a.length (some 1) none) fun g=>WP n (cut a g) ((List.length (cut a g):Nat):Int) d e b f a (K [] 11) (fun v x m=>K m 0) n 0 []) n 0 (List.replicate (Int.toNat z) [D.bool false])) n 0) fun h=>bif decide (c<0) then h (decide (c<0)) else h (decide (wJ (aa-c)<2))) fun i=>Qjj R (decide (aa>24)) fun y=>bif y then i y else i (decide (c>2))
def P6 (b c d e f:LL) (g:Int) (K:Int->oP R):oP R:=Qjl R (Hx n b c d e f g Tu2) fun a=>K a.2
end Go.Vx
namespace Go.Vx
def KR (s u x y:Nat) (up:Bool):LL:=
 bif up then [Q4 x,Q4 0]::((ups s u).map fun k=>[Q4 (k:Nat),Q4 0])++[[Q4 y,Q4 0]] else [Q4 y,Q4 1]::((ups s u).reverse.map fun k=>[Q4 (k:Nat),Q4 1])++[[Q4 x,Q4 1]]
theorem Qm {α:Type} {r:Nat->Int->α} {N:Nat} {e:α} (hs:∀ m h,h<N->r (m+1) (h:Int)=r m ((h+1:Nat):Int)) (he:∀ m,r (m+1) (N:Int)=e):∀ (k m h:Nat),h+k=N->k<m->r m (h:Int)=e
 |0,m+1,h,hh,_=>by rw [show h=N by omega];exact he m
 |k+1,m+1,h,hh,hm=>by rw [hs m h (by omega)];exact Qm hs he k m (h+1) (by omega) (by omega)
section
variable {R:Type} {n:Nat} {a b a' b' L L' d:LL} (h:L.length=L'.length)
include h
theorem QeG {s:LL} {w:Int} {k0:oP R} {k1:Int->Bool->oP R}:∀ (m:Nat) (i:Int),U2 n s w a b L d k0 k1 m i=U2 n s w a' b' L' d k0 k1 m i
 |0,_=>rfl
 |m+1,i=>by
  unfold U2;simp only [Ny,h,QeG m]
omit h in
theorem Qhu {x y z t:Int} {K:Int->Bool->oP R}:JT n a b L d x y z t K=JT n a' b' L' d x y z t K:=rfl
omit h in
theorem Qgv {q s:LL} {w:Int} {k0:oP R} {k1:Int->Bool->LL->oP R}:∀ (m:Nat) (i:Int) (p:LL),WP n q w a b L d s k0 k1 m i p=WP n q w a' b' L' d s k0 k1 m i p
 |0,_,_=>rfl
 |m+1,i,p=>by
  unfold WP;simp only [Qhu (a:=a) (b:=b) (L:=L) (a':=a') (b':=b') (L':=L'),Qgv m]
end
def Q9A (St Pt L d s:LL):Option (LL × Int):=
 U2 400 s ((List.length s:Nat):Int) St Pt L d (some ([],4))
  (fun _ _=>
  gb true (bif decide (0<=((List.length L:Nat):Int))&&decide (((List.length L:Nat):Int)<=((List.length L:Nat):Int)) then some () else none) () fun c=>
  gb true (Y6 (Int.toNat ((List.length L:Nat):Int)*1)) () fun e=>
  GA 400 s ((List.length s:Nat):Int) (some ([],5))
   (fun _ _ _=>
   gb true (slB (List.length s) (some (1:Int)) none) (0,0) fun a=>
   WP 400 (cut s a) ((List.length (cut s a):Nat):Int) St Pt L d s (some ([],11)) (fun _ _ b=>some (b,0)) 400 (0:Int) [])
   400 (0:Int) (List.replicate (Int.toNat ((List.length L:Nat):Int)) [D.bool false]))
  400 (0:Int)
def rtB (N:Nat) (Li s:LL):Bool:=match Q9A [] [] (List.replicate N []) Li s with
 |some (_,e)=>e == 0
 |none=>false
theorem Q9O {St Pt Se Li s:LL} {N:Nat} (ac:TU 400 St Pt Se Li=true) (hN:Se.length=N) (h2:2<=s.length) (g:s.length<=24) (hr:rtB N Li s=true) :
  ∃ aj,Hx 400 St Pt Se Li s 0 Tu2=some (aj,0):=by
 have hc:Zy 400 St Pt Se Li (some:Int->Option Int)=some 0:=by unfold Zy;rw [ac];rfl
 have hL:Se.length=(List.replicate N ([]:List D)).length:=by simp [hN]
 have e:Hx 400 St Pt Se Li s 0 Tu2=Q9A [] [] (List.replicate N []) Li s:=by
  unfold Hx;rw [hc,Q0,Qa (by decide)];dsimp only [jn];rw [Qa (c:=decide (((List.length s:Nat):Int)>24)) (by simp;omega),Qa (c:=decide ((0:Int)>2)) (by decide),Qa (c:=decide ((0:Int)<0)) (by decide),Qa (c:=decide (wJ (((List.length s:Nat):Int)-0)<2)) (by rw [Q6 (by omega) (by omega)];simp;omega)];unfold Q9A;simp only [Qgv (a:=St) (b:=Pt) (L:=Se) (a':=[]) (b':=[]) (L':=List.replicate N []),QeG (a:=St) (b:=Pt) (L:=Se) (a':=[]) (b':=[]) (L':=List.replicate N []) hL,hL]
 rw [e];unfold rtB at hr;split at hr
 ·rename_i p e' hh;simp only [beq_iff_eq] at hr;subst hr;exact ⟨p,hh⟩
 ·cases hr
theorem Q6h {R:Type} {St Pt Se Li s:LL} {N:Nat} (ac:TU 400 St Pt Se Li=true) (hN:Se.length=N) (h2:2<=s.length) (a:s.length<=24) (hr:rtB N Li s=true) (K:Int->oP R):P6 400 St Pt Se Li s 0 K=K 0:=by
 obtain ⟨p,e⟩:=Q9O ac hN h2 a hr;unfold P6;rw [e,Q0]
def Qcr (N:Nat) (Li:LL) (s u k c k' c':Nat):Bool:=
 (ups k c).all fun x=>(ups k' c').all fun y=>rtB N Li (KR s u x y true)&&rtB N Li (KR s u x y false)
theorem QiU {c0 c1 a:Nat} (b:c0=1\/c0=2) (c:c1=1\/c1=2) (h2:a=1\/a=2):Qcr (c0+c1+a) (li2 c0 c1 a) (c0+c1) a 0 c0 c0 c1=true:=by
 rcases b with rfl | rfl <;> rcases c with rfl | rfl <;> rcases h2 with rfl | rfl <;> kernel_rfl
theorem Qj2 {c0 c1 a b c:Nat} (d:c0=1\/c0=2) (e:c1=1\/c1=2) (h2:a=1\/a=2) (f:b=1\/b=2) (g:c=1\/c=2) :
  (Qcr (c0+c1+a+b+c) (li3 c0 c1 a b c) (c0+c1+a) b 0 c0 c0 c1&&Qcr (c0+c1+a+b+c) (li3 c0 c1 a b c) (c0+c1+a+b) c c0 c1 (c0+c1) a)=true:=by
 rcases d with rfl | rfl <;> rcases e with rfl | rfl <;> rcases h2 with rfl | rfl <;> rcases f with rfl | rfl <;> rcases g with rfl | rfl <;> kernel_rfl
end Go.Vx
namespace Go.Vx
variable {R:Type} (n:Nat)
def Wn (e:LL) (d:Int) (f:LL) (k0:Int->Bool->LL->oP R):Nat->Int->LL->oP R
 | 0,_,_=>none
 | m+1,a,b=>bif decide (a<d) then QjJ R e a fun o p=>Qjl R (pIw o) fun q=>QjH R f q fun c h=>Qk0 R c fun r s=>Qjl R c[4]? fun y=>QjY R r s p fun i j t=>bif t==1 then Qjl R (pIw h) fun u=>Qjl R (Qe n [[Q4 i,Q4 (wJ (0-j))]] u some) fun k=>Qjl R (Y6 ((b.length+k.length)*16)) fun z=>Wn e d f k0 m (wJ (a+1)) (b++k) else Qjl R (pIw h) fun v=>Qjl R (Qe n [[Q4 i,Q4 j]] v some) fun l=>Qjl R (Y6 ((b.length+l.length)*16)) fun aa=>Wn e d f k0 m (wJ (a+1)) (b++l) else k0 a (decide (a<d)) b
def R0 (g h b i a:LL) (c:Int) (K:LL->Int->Int->oP R):oP R:=Qjl R (P6 n g h b i a c some) fun d=>bif d !=0 then K [] 0 d else Qjl R (slB a.length none (some (wJ ((a.length:Int)-c)))) fun e=>Wn n (cut a e) ((List.length (cut a e):Nat):Int) b (fun p q f=>bif decide ((f.length:Int)>4000) then K [] 0 7 else Qjx R a 0 fun l=>QjF R b l fun i64=>K f i64 0) n 0 []
def WT (n:Nat) (d:LL) (b:Int) (e:LL) (c:Int) (k0:oP R) (k1:Int->Bool->oP R):Nat->Int->oP R
 | 0,_=>none
 | m+1,a=>bif decide (a<b) then QjA R d a fun f g=>Qjl R f[1]? fun l=>Qjl R (pIw g) fun h=>QjF R e h fun k=>bif decide (k<(if 2<c then c else 2)) then k0 else WT n d b e c k0 k1 m (wJ (a+1)) else k1 a (decide (a<b))
def Hw (h i c j d:LL) (e:Int) (k:List UInt8) (f l m o:Int) (K:LL->Int->Int->oP R):oP R:=Qjl R (R0 n h i c j d e Tu3) fun a=>bif a.2.2 !=0 then K [] 0 a.2.2 else Qjl R (UH n k f l m o some) fun b=>bif !b then K [] 0 1 else Qjl R (Uu n d e some) fun g=>WT n g (g.length:Int) c f (K [] 0 12) (fun q r=>K a.1 a.2.1 0) n 0
def Gw (b c d e f:LL) (g:Int) (h:List UInt8) (i j k l:Int) (K:Int->oP R):oP R:=Qjl R (Hw n b c d e f g h i j k l Tu3) fun a=>K a.2.2
end Go.Vx
namespace Go.Vx
structure SecN (a b c:Int):Prop where
 a0:2<=a
 a1:a<=12
 b0:5000<=b
 b1:b<=35000
 c0 : -10<=c
 c1:c<=10
def Ct (Se:LL) (row:List D):Prop:=∃ (x d:Int) (nm:List UInt8) (a b c st:Int),row=[Q4 x,Q4 d]/\Q1 Se x=some [D.str nm,Q4 a,Q4 b,Q4 c,Q4 st]/\SecN a b c/\(d=0\/d=1)
def Ss (Se:LL):List D->LL
 |[.int _ x,.int _ d]=>match Q1 Se x with
  |some [_,.int _ a,.int _ b,.int _ c,_]=>List.replicate a.toNat [Q4 b,Q4 (bif d == 1 then -c else c)]
  |_=>[]
 |_=>[]
def Yo (Se s:LL):LL:=s.flatMap (Ss Se)
theorem Hz {Se:LL} {x d a b c st:Int} {nm:List UInt8} (h:Q1 Se x=some [D.str nm,Q4 a,Q4 b,Q4 c,Q4 st]):Ss Se [Q4 x,Q4 d]=List.replicate a.toNat [Q4 b,Q4 (bif d == 1 then -c else c)]:=by
 grind [Ss]
theorem Yn {α:Type} {l:List α} {h:Nat} {a:α} (e:l[h]? = some a):l.take (h+1)=l.take h++[a]:=by grind [List.take_add_one]
theorem Mz {Se s:LL} {h:Nat} {row:List D} (e:s[h]? = some row):Yo Se (s.take (h+1))=Yo Se (s.take h)++Ss Se row:=by
 rw [Yn e];simp [Yo]
theorem PZ {Se:LL}:∀ {s:LL},(∀ row∈s,Ct Se row)->(Yo Se s).length<=12*s.length/\2*s.length<=(Yo Se s).length
 |[],_=>by simp [Yo]
 |row::s,h=>by
  obtain ⟨x,d,nm,a,b,c,st,rfl,hs,hn,_⟩:=h _ (List.mem_cons_self ..);have e:=PZ fun r hr=>h r (List.mem_cons_of_mem _ hr)
  have h2:=hn.a0;have f:=hn.a1;simp only [Yo,List.flatMap_cons,Hz hs,List.length_append,List.length_replicate,Qlt] at e ⊢;omega
section
variable {R:Type} {n:Nat}
theorem QiL {a:Int} {x y:D} (b:0<=a) (c:a<=100000) (K:LL->oP R):Qe n [[x,y]] a K=K (List.replicate a.toNat [x,y]):=by
 simp_all [Qe,QZ]
theorem QbD {Se s:LL} {k0:Int->Bool->LL->oP R} (hs:∀ row∈s,Ct Se row) (hl:s.length<=30):∀ {m:Nat},s.length<m->Wn n s ((s.length:Nat):Int) Se k0 m 0 []=k0 ((s.length:Nat):Int) false (Yo Se s):=by
 intro m hm;have hc:=fun h:Nat=>(PZ (s:=s.take h) fun r hr=>hs r (List.mem_of_mem_take hr)).1
 refine Qm (r:=fun m h=>Wn n s ((s.length:Nat):Int) Se k0 m h (Yo Se (s.take h.toNat))) (N:=s.length) (fun m h hh=>?_) (fun m=>?_) s.length m 0 (by omega) hm
 ·have e:=Qld hh;obtain ⟨x,d,nm,a,b,c,st,hx,aj,hn,hd⟩:=hs _ (Qll hh);rw [hx] at e;have a0:=hn.a0;have a1:=hn.a1;have an:=hc h;simp only [Int.toNat_natCast,Mz e,Hz aj];simp only [List.length_take] at an;rw [Wn,QZ (by simpa using hh),show Q1 s (h:Int)=some [Q4 x,Q4 d] by simp [Q1,e],Q0];dsimp only [List.getElem?_cons_zero,List.getElem?_cons_succ];rw [Q0,Q0,Q2,Q0,aj,Q0];dsimp only [List.getElem?_cons_zero,List.getElem?_cons_succ];have ac:∀ r:List D,Y6 (((Yo Se (s.take h)).length+(List.replicate a.toNat r).length)*16)=some ():=fun r=>Xr (by simp only [List.length_replicate];omega)
  simp -implicitDefEqProofs only [Q0,Q2,QiL (show (0:Int)<=a by omega) (show a<=100000 by omega),ac];rw [Q6 (x:=(h:Int)+1) (by omega) (by omega),show (h:Int)+1=((h+1:Nat):Int) by omega,Q6 (x:=0-c) (by have:=hn.c1;omega) (by have:=hn.c0;omega),Int.zero_sub];cases f:d == (1:Int) <;> rfl
 simp [Int.toNat_natCast,Wn,Qa,QlA]
theorem Qay {s:LL} (h:s.length<=1000):slB s.length none (some (wJ (((s.length:Nat):Int)-(0:Int))))=some (0,s.length)/\cut s (0,s.length)=s:=by
 grind [Q6,slB,cut]
def Tt (Se s:LL):Int:=match s with
 |[.int _ x,_]::_=>match Q1 Se x with
  |some [_,.int _ a,_,_,_]=>a
  |_=>0
 |_=>0
theorem Qfy {St Pt Se Li s:LL} {N:Nat} (ac:TU 400 St Pt Se Li=true) (hN:Se.length=N) (h2:2<=s.length) (e:s.length<=24) (hr:rtB N Li s=true) (ho:∀ row∈s,Ct Se row) (K:LL->Int->Int->oP R) :
  R0 400 St Pt Se Li s 0 K=K (Yo Se s) (Tt Se s) 0:=by
 have hl:=(PZ ho).1;obtain ⟨row,rest,rfl⟩:∃ row rest,s=row::rest:=by
  cases s with
  |nil=>simp at h2
  |cons a b=>simp_all
 obtain ⟨x,d,nm,a,b,c,st,rfl,hs,_,_⟩:=ho row (by simp);have hf:Tt Se ([Q4 x,Q4 d]::rest)=a:=by grind [Tt]
 generalize hS:[Q4 x,Q4 d]::rest=s at *
 obtain ⟨e1,e2⟩:=Qay (s:=s) (by omega);unfold R0;rw [Q6h ac hN h2 e hr,Q0,Qa (by decide),e1,Q0,e2,QbD ho (by omega) (by omega),Qa (by simp;omega),show Q1 s (0:Int)=some [Q4 x,Q4 d] by rw [<- hS];rfl,Q0]
 grind [List.getElem?_cons_zero,List.getElem?_cons_succ,Q0,Q2]
theorem Qgp {Se s:LL} {tl:Int} {k0:oP R} {k1:Int->Bool->oP R} (ht:tl<=2) (hb:s.length<=30) (hs:∀ row∈s,Ct Se row) {m:Nat} (hm:s.length<m) :
  WT n s ((s.length:Nat):Int) Se tl k0 k1 m 0=k1 (s.length:Int) false:=by
 refine Qm (r:=fun m h=>WT n s ((s.length:Nat):Int) Se tl k0 k1 m h) (N:=s.length) (fun m h hh=>?_) (fun m=>?_) s.length m 0 (by omega) hm
 ·obtain ⟨x,d,ak,a,b,c,st,hx,ac,hn,_⟩:=hs _ (Qll hh);have a0:=hn.a0;rw [WT,QZ (by simp_all),show Q1 s (h:Int)=some [Q4 x,Q4 d] by grind [Q1,List.getElem?_eq_getElem],Q0];dsimp only [List.getElem?_cons_zero,List.getElem?_cons_succ];rw [Q0,Q0,Q2,Q0,ac,Q0];dsimp only [List.getElem?_cons_zero,List.getElem?_cons_succ];rw [Q0,Q2,Q0,Qa (by grind),Q6 (x:=(h:Int)+1) (by omega) (by omega),show (h:Int)+1=((h+1:Nat):Int) by omega]
 simp [WT,Qa]
structure StkN (tl sp ac br:Int):Prop where
 t1:1<=tl
 t2:tl<=2
 s1:10000<=sp
 s2:sp<=25000
 a1:400<=ac
 a2:ac<=800
 b1:400<=br
 b2:br<=800
theorem A5 {nm:List UInt8} {tl sp ac br:Int} (h:StkN tl sp ac br) (K:Bool->oP R):UH n nm tl sp ac br K=K true:=by
 obtain ⟨t1,t2,s1,s2,a1,a2,b1,b2⟩:=h
 grind [UH]
theorem Q0X {s:LL} (a:s.length<=24) (K:LL->oP R):Uu 400 s 0 K=K s:=by
 grind [Qay,Uu,Q0]
theorem QiC {St Pt Se Li s:LL} {N:Nat} {nm:List UInt8} {tl sp ac br:Int} (aj:TU 400 St Pt Se Li=true) (hN:Se.length=N) (h2:2<=s.length) (a:s.length<=24) (hr:rtB N Li s=true) (ho:∀ row∈s,Ct Se row)
  (hk:StkN tl sp ac br) (K:LL->Int->Int->oP R):Hw 400 St Pt Se Li s 0 nm tl sp ac br K=K (Yo Se s) (Tt Se s) 0:=by
 unfold Hw;rw [Qfy aj hN h2 a hr ho,Q0,Qa (by rfl),A5 hk,Q0,Qa (by decide),Q0X a,Q0,Qgp hk.t2 (by omega) ho (by omega)]
theorem Qe4 {St Pt Se Li s:LL} {N:Nat} {nm:List UInt8} {tl sp ac br:Int} (aj:TU 400 St Pt Se Li=true) (hN:Se.length=N) (h2:2<=s.length) (a:s.length<=24) (hr:rtB N Li s=true) (ho:∀ row∈s,Ct Se row)
  (hk:StkN tl sp ac br) (K:Int->oP R):Gw 400 St Pt Se Li s 0 nm tl sp ac br K=K 0:=by
 grind [Gw,QiC,Q0]
end
end Go.Vx
namespace Go.Vx
variable {R:Type} (n:Nat)
def Mr (d e c f:LL) (a b:Int) (K:Bool->oP R):oP R:=Qjj R (Qji (Qji (decide (a>=0)) (decide (a<(c.length:Int)))) (Qjh (b==0) (b==1))) fun h=>Qjm R h (Zy n d e c f some) fun g=>K (Qji h (g==0))
def Ws (j:LL) (e f g:Int) (k0:Int->Bool->LL->oP R):Nat->Int->LL->oP R
 | 0,_,_=>none
 | m+1,b,c=>bif decide (b<e) then Qjy R j b fun d u v x=>QjU R d fun y o p=>QjW R u v x y fun z aa ab ac=>Qjw R o p fun ad ae=>gb true (LV n z aa ab ac ad ae Tu4) (0,0,0,0) fun a=>bif f==a.1&&g==a.2.1 then Qjl R (M0 n a.2.2.1 a.2.2.2 Tu2) fun k=>Qjw R o p fun q r=>Qjk R [[Q4 k.1,Q4 k.2,Q4 q,Q4 r]] fun i=>Qjl R (Y6 ((c.length+i.length)*32)) fun ai=>Ws j e f g k0 m (wJ (b+1)) (c++i) else bif f==a.2.2.1&&g==a.2.2.2 then Qjl R (M0 n a.1 a.2.1 Tu2) fun l=>Qjw R o p fun s t=>Qjk R [[Q4 l.1,Q4 l.2,Q4 s,Q4 t]] fun h=>Qjl R (Y6 ((c.length+h.length)*32)) fun aj=>Ws j e f g k0 m (wJ (b+1)) (c++h) else Ws j e f g k0 m (wJ (b+1)) c else k0 b (decide (b<e)) c
def LE (d e f a:LL) (b c:Int) (K:LL->oP R):oP R:=Qjl R (Mr n d e f a b c some) fun g=>bif !g then K [] else bif c==1 then Ws n a (a.length:Int) b 0 (fun j k h=>K h) n 0 [] else Ws n a (a.length:Int) b 1 (fun l m i=>K i) n 0 []
def ZD (n:Nat) (h2:LL) (c d e:Int) (k0:Int->oP R) (k1:Int->Bool->oP R):Nat->Int->oP R
 | 0,_=>none
 | m+1,a=>bif decide (a<c) then Qjy R h2 a fun b f g h=>Qjl R b[3]? fun l=>Qjw R f g fun i j=>bif i==d&&j==e then Qjl R (pIw h) fun k=>k0 k else ZD n h2 c d e k0 k1 m (wJ (a+1)) else k1 a (decide (a<c))
def Zt (b c d e:LL) (f g h i:Int) (K:Int->oP R):oP R:=Qjl R (LE n b c d e f g some) fun a=>ZD n a (a.length:Int) h i (fun j=>K j) (fun k l=>K (-1:Int)) n 0
end Go.Vx
namespace Go.Vx
theorem DQ.at {k:Nat}:∀ {s s':LL},DQ k s s'->∀ i:Nat,(s[i]? = none/\s'[i]? = none)\/∃ nm a b c a' b' c' d,s[i]? = some [D.str nm,Q4 a,Q4 b,Q4 c,Q4 d]/\s'[i]? = some [D.str nm,Q4 a',Q4 b',Q4 c',Q4 d]/\NumOk a b c d k/\NumOk a' b' c' d k
 |[],[],_,i=>.inl ⟨by simp,by simp⟩
 |r::s,r'::s',h,0=>by
  obtain ⟨⟨nm,a,b,c,a',b',c',d,e,h2,f,g⟩,_⟩:=h;exact .inr ⟨nm,a,b,c,a',b',c',d,by simp [e],by simp [h2],f,g⟩
 |r::s,r'::s',h,i+1=>by
  have:=DQ.at h.2 i;simpa using this
theorem DQ.row {k:Nat} {s s':LL} (h:DQ k s s') (i:Int):(Q1 s i=none/\Q1 s' i=none)\/∃ nm a b c a' b' c' d,Q1 s i=some [D.str nm,Q4 a,Q4 b,Q4 c,Q4 d]/\Q1 s' i=some [D.str nm,Q4 a',Q4 b',Q4 c',Q4 d]/\NumOk a b c d k/\NumOk a' b' c' d k:=by
 unfold Q1;cases decide ((0:Int)<=i)
 ·simp_all
 ·exact h.at i.toNat
theorem gbN {α R:Type} {z:α} {k:α->oP R}:gb true none z k=none:=rfl
theorem inT {R:Type} {n:Nat} {x lo hi:Int} (a:lo<=x) (b:x<=hi) (K:Bool->oP R):Kx n x lo hi K=K true:=by
 grind [Kx,decide]
section
variable {R:Type} {n k:Nat} {s s' St Pt Li:LL} (h:DQ k s s')
include h
theorem Q6F {k0:Int->Bool->LL->oP R}:∀ (m:Nat) (i:Int) (acc:LL),YS n s k0 m i acc=YS n s' k0 m i acc
 |0,_,_=>rfl
 |m+1,i,acc=>by
  unfold YS;rcases h.row i with ⟨e,e'⟩ | ⟨nm,a,b,c,a',b',c',d,e,e',_,_⟩
  ·simp only [e,e',h.len,gbN]
  ·rw [e,e',h.len];simp only [Q6F m];rfl
theorem Qdp {ac:LL} (hk:St.length=k) (f:k<=100) {k0:Int->oP R} {k1:Int->Bool->oP R}:∀ (m:Nat) (i:Int),Jo n ac St s k0 k1 m i=Jo n ac St s' k0 k1 m i
 |0,_=>rfl
 |m+1,i=>by
  unfold Jo;rcases h.row i with ⟨e,e'⟩ | ⟨nm,a,b,c,a',b',c',d,e,e',g,g'⟩
  ·simp only [e,e',h.len,gbN,Qdp hk f m]
  ·rw [e,e',h.len];obtain ⟨j,l,h2,o,p,q,x,y⟩:=g;obtain ⟨g0,g1,r,t,u,v,z,g7⟩:=g';simp -implicitDefEqProofs only [Q0,List.getElem?_cons_zero,List.getElem?_cons_succ,Q2,inT j l,inT h2 o,inT p q,inT g0 g1,inT r t,inT u v,Qdp hk f m]
theorem QeW {k0:Int->oP R} {k1:Int->Bool->oP R}:∀ (m:Nat) (i:Int),Jf n St Pt s Li k0 k1 m i=Jf n St Pt s' Li k0 k1 m i
 |0,_=>rfl
 |m+1,i=>by
  unfold Jf;have e:∀ j,JS n St Pt s Li j (some:Int->Option Int)=JS n St Pt s' Li j some:=by
   intro j;unfold JS;rw [h.len];rfl
  simp only [e,QeW m]
theorem QcW (hk:St.length=k) (a:k<=100) (K:Int->oP R):Gb n St Pt s Li K=Gb n St Pt s' Li K:=by
 unfold Gb KW;rw [h.len]
 grind [Q6F,Qdp,QeW]
end
def QaI (St Pt Se Li:LL):Bool:=Q8n (Gb 400 St Pt Se Li some)
theorem ro2 {c0 c1 a:Nat} (b:c0=1\/c0=2) (c:c1=1\/c1=2) (h2:a=1\/a=2):QaI [nmS 0,nmS 1] (pt2 c0 c1) (se2 c0 c1 a (hat c0) (hat c1) (hat a)) (li2 c0 c1 a)=true:=by
 rcases b with rfl | rfl <;> rcases c with rfl | rfl <;> rcases h2 with rfl | rfl <;> kernel_rfl
theorem ro3 {c0 c1 a b c:Nat} (d:c0=1\/c0=2) (e:c1=1\/c1=2) (h2:a=1\/a=2) (f:b=1\/b=2) (g:c=1\/c=2):QaI [nmS 0,nmS 1,nmS 2] (pt3 c0 c1 a) (se3 c0 c1 a b c (hat c0) (hat c1) (hat a) (hat b) (hat c)) (li3 c0 c1 a b c)=true:=by
 rcases d with rfl | rfl <;> rcases e with rfl | rfl <;> rcases h2 with rfl | rfl <;> rcases f with rfl | rfl <;> rcases g with rfl | rfl <;> kernel_rfl
theorem Q4E {St Pt L L' Li:LL} (h:DQ St.length L L') (h2:St.length<=100):QaI St Pt L Li=QaI St Pt L' Li:=by
 unfold QaI;rw [QcW h rfl h2]
theorem Qje {c0 c1 a:Nat} {b c d:List Nt} (e:c0=1\/c0=2) (f:c1=1\/c1=2) (h2:a=1\/a=2) (g:Hd b) (h:Hd c) (i:Hd d) (j:b.length=c0) (e1:c.length=c1) (e2:d.length=a) :
  QaI [nmS 0,nmS 1] (pt2 c0 c1) (se2 c0 c1 a b c d) (li2 c0 c1 a)=true:=by
 grind [ro2,Q4E,sr2]
theorem Qj3 {c0 c1 a b c:Nat} {d e f g h:List Nt} (i:c0=1\/c0=2) (j:c1=1\/c1=2) (h2:a=1\/a=2) (k:b=1\/b=2) (l:c=1\/c=2) (m:Hd d) (n:Hd e) (o:Hd f) (n3:Hd g) (p:Hd h) (q:d.length=c0) (e1:e.length=c1) (e2:f.length=a) (r:g.length=b) (s:h.length=c) :
  QaI [nmS 0,nmS 1,nmS 2] (pt3 c0 c1 a) (se3 c0 c1 a b c d e f g h) (li3 c0 c1 a b c)=true:=by
 grind [ro3,Q4E,sr3]
def QdF (St Pt L d s:LL):Option Int:=
 YN 400 L s (some 4) (fun _ _=>J1 400 s (some 5) (fun _ _=>YI 400 St Pt L d s (some 11) (fun _ _=>some 0) 400 (1:Int)) 400 (0:Int)) 400 (0:Int)
def QgB (N:Nat) (Li s:LL):Bool:=Q8n (QdF [] [] (List.replicate N []) Li s)
section
variable {R:Type} {n:Nat} {a b a' b' L L' d s:LL} (h:L.length=L'.length)
include h
theorem Qfi {k0:oP R} {k1:Int->Bool->oP R}:∀ (m:Nat) (i:Int),YN n L s k0 k1 m i=YN n L' s k0 k1 m i
 |0,_=>rfl
 |m+1,i=>by
  unfold YN;simp only [h,Qfi m]
omit h in
theorem QiE {x y z t:Int} {K:D->D->D->D->Bool->oP R}:G0 n a b L d x y z t K=G0 n a' b' L' d x y z t K:=rfl
omit h in
theorem Qgf {k0:oP R} {k1:Int->Bool->oP R}:∀ (m:Nat) (i:Int),YI n a b L d s k0 k1 m i=YI n a' b' L' d s k0 k1 m i
 |0,_=>rfl
 |m+1,i=>by
  unfold YI;simp only [QiE (a:=a) (b:=b) (L:=L) (a':=a') (b':=b') (L':=L'),Qgf m]
end
theorem Q4F {St Pt Se Li s:LL} {N:Nat} (ac:QaI St Pt Se Li=true) (hN:Se.length=N) (h2:2<=s.length) (c:s.length<=24) (hr:QgB N Li s=true):J9 400 St Pt Se Li s 0 (some:Int->Option Int)=some 0:=by
 have hL:Se.length=(List.replicate N ([]:List D)).length:=by simp [hN]
 unfold J9;rw [J6 ac,Q0,Qa (by decide),Qa (by grind),Qa (by grind [Q6,decide,List.length])];simp only [Qfi hL,Qgf (a:=St) (b:=Pt) (L:=Se) (a':=[]) (b':=[]) (L':=List.replicate N [])];exact J6 hr
def Qet (Li:LL) (r r':List D):Option Int:=match r,r' with
 |[.int _ x,.int _ d],[.int _ y,.int _ e]=>gb true (bif (d == (1:Int)) then Ws 400 Li ((List.length Li:Nat):Int) x (0:Int) (fun _ _ w=>some w) 400 (0:Int) [] else Ws 400 Li ((List.length Li:Nat):Int) x (1:Int) (fun _ _ w=>some w) 400 (0:Int) []) [] fun a=>
  ZD 400 a ((List.length a:Nat):Int) y e some (fun _ _=>some (-1)) 400 (0:Int)
 |_,_=>none
def ptR (St Pt Se Li:LL) (r r':List D):Option Int:=match r,r' with
 |[.int _ x,.int _ d],[.int _ y,.int _ e]=>match G0 400 St Pt Se Li x d y e Tu5 with
  |some (_,_,.int .i64 q,_,true)=>some q
  |_=>none
 |_,_=>none
def pv:Option Int->Int
 |some p=>p
 |none => -1
def Q0h (N NP:Nat) (Li:LL):Nat->LL->Bool
 |k,r::r'::t=>match Qet Li r r',ptR [] [] (List.replicate N []) Li r r' with
  |some p,some q=>(p == q)&&(decide (-1<=p)&&(decide (p<NP)&&Q0h N NP Li (bif decide (p<0) then k+1 else k+2) (r'::t)))
  |_,_=>false
 |k,_=>Nat.ble k 5
def Qdh (N NP:Nat) (Li s:LL):Bool:=QgB N Li s&&Q0h N NP Li 0 s
def Q4L (N NP:Nat) (Li:LL) (s u k c k' c':Nat):Bool:=
 (ups k c).all fun x=>(ups k' c').all fun y=>Qdh N NP Li (KR s u x y true)&&Qdh N NP Li (KR s u x y false)
theorem Qhv {c0 c1 a:Nat} (b:c0=1\/c0=2) (c:c1=1\/c1=2) (h2:a=1\/a=2):Q4L (c0+c1+a) (pt2 c0 c1).length (li2 c0 c1 a) (c0+c1) a 0 c0 c0 c1=true:=by
 rcases b with rfl | rfl <;> rcases c with rfl | rfl <;> rcases h2 with rfl | rfl <;> kernel_rfl
theorem Qh7 {c0 c1 a b c:Nat} (d:c0=1\/c0=2) (e:c1=1\/c1=2) (h2:a=1\/a=2) (f:b=1\/b=2) (g:c=1\/c=2) :
  (Q4L (c0+c1+a+b+c) (pt3 c0 c1 a).length (li3 c0 c1 a b c) (c0+c1+a) b 0 c0 c0 c1&&Q4L (c0+c1+a+b+c) (pt3 c0 c1 a).length (li3 c0 c1 a b c) (c0+c1+a+b) c c0 c1 (c0+c1) a)=true:=by
 rcases d with rfl | rfl <;> rcases e with rfl | rfl <;> rcases h2 with rfl | rfl <;> rcases f with rfl | rfl <;> rcases g with rfl | rfl <;> kernel_rfl
theorem QcV {St Pt Se Li:LL} (ac:TU 400 St Pt Se Li=true) {x d y e:Int} (a:0<=x) (b:x<Se.length) (hd:d=0\/d=1):Zt 400 St Pt Se Li x d y e (some:Int->Option Int)=Qet Li [Q4 x,Q4 d] [Q4 y,Q4 e]:=by
 have hc:Zy 400 St Pt Se Li (some:Int->Option Int)=some 0:=by grind [Zy]
 have hh:Mr 400 St Pt Se Li x d (some:Bool->Option Bool)=some true:=by
  grind [Mr,Q0,decide]
 simp_all [Zt,LE,Qet,Q0]
structure Geo where
 N:Nat
 St:LL
 Pt:LL
 Se:LL
 Li:LL
 Tr:LL
 Bt:LL
 k:Nat->Nat
 c:Nat->Nat
 s:Nat->Nat
 u:Nat->Nat
structure Geo.OK (G:Geo):Prop where
 hN:G.N=2\/G.N=3
 st:G.St.length=G.N
 lay:TU 400 G.St G.Pt G.Se G.Li=true
 ref:QaI G.St G.Pt G.Se G.Li=true
 trl:G.Tr.length=G.N
 tr:∀ i,i<G.N->G.Tr[i]? = some [D.sl 1 (Wd (ups (G.k i) (G.c i)))]
 ct:∀ i,i<G.N->G.c i=1\/G.c i=2
 k6:∀ i,i<G.N->G.k i+G.c i<=6
 btl:G.Bt.length+1=G.N
 bt:∀ g,g+1<G.N->G.Bt[g]? = some [D.sl 1 (Wd (ups (G.s g) (G.u g)))]
 ut:∀ g,g+1<G.N->G.u g=1\/G.u g=2
 sec:∀ i,i<G.N->∀ x,x<G.c i->∃ nm a b d,Q1 G.Se ((G.k i+x:Nat):Int)=some [D.str nm,Q4 a,Q4 b,Q4 d,Q4 i]/\SecN a b d
 gap:∀ g,g+1<G.N->∀ x,x<G.u g->∃ nm a b d e,Q1 G.Se ((G.s g+x:Nat):Int)=some [D.str nm,Q4 a,Q4 b,Q4 d,Q4 e]/\SecN a b d
 rts:∀ g,g+1<G.N->Qcr G.Se.length G.Li (G.s g) (G.u g) (G.k g) (G.c g) (G.k (g+1)) (G.c (g+1))=true
 rt6:∀ g,g+1<G.N->Q4L G.Se.length G.Pt.length G.Li (G.s g) (G.u g) (G.k g) (G.c g) (G.k (g+1)) (G.c (g+1))=true
theorem Q6v {f:Nat->Nt->List D}:∀ {c:Nat} {x:List Nt} {i:Nat},Hd x->x.length=c->i<c->∃ j y,(YF f c x)[i]? = some (f j y)/\Num y.1 y.2.1 y.2.2
 |c+1,a::x,0,h,_,_=>⟨c+1,a,rfl,h.1⟩
 |c+1,a::x,i+1,h,e,hi=>by
  obtain ⟨j,y,b,h2⟩:=Q6v (f:=f) h.2 (by simpa using e) (show i<c by omega);exact ⟨j,y,by simpa [YF] using b,h2⟩
theorem Qce {f:Nat->Nt->List D} {A B:LL} {c k i:Nat} {x:List Nt} (hA:A.length=k) (h:Hd x) (e:x.length=c) (hi:i<c):∃ j y,Q1 ((A++YF f c x)++B) ((k+i:Nat):Int)=some (f j y)/\Num y.1 y.2.1 y.2.2:=by
 obtain ⟨j,y,a,h2⟩:=Q6v (f:=f) h e hi
 grind [Q1]
theorem Qgx {A B L:LL} {c k i x:Nat} {X:List Nt} (hL:L=(A++YF (secT i) c X)++B) (hA:A.length=k) (h:Hd X) (e:X.length=c) (hi:x<c) :
  ∃ nm a b d,Q1 L ((k+x:Nat):Int)=some [D.str nm,Q4 a,Q4 b,Q4 d,Q4 i]/\SecN a b d:=by
 subst hL;obtain ⟨j,y,g,h2⟩:=Qce (f:=secT i) (B:=B) hA h e hi;exact ⟨_,_,_,_,g,by have:=h2.a0;omega,by have:=h2.a1;omega,h2.b0,h2.b1,h2.c0,h2.c1⟩
theorem QhD {A B L:LL} {c k i x:Nat} {X:List Nt} (hL:L=(A++YF (secL i) c X)++B) (hA:A.length=k) (h:Hd X) (e:X.length=c) (hi:x<c) :
  ∃ nm a b d e,Q1 L ((k+x:Nat):Int)=some [D.str nm,Q4 a,Q4 b,Q4 d,Q4 e]/\SecN a b d:=by
 subst hL;obtain ⟨j,y,g,h2⟩:=Qce (f:=secL i) (B:=B) hA h e hi;exact ⟨_,_,_,_,_,g,h2.a0,by have:=h2.a1;omega,h2.b0,h2.b1,h2.c0,h2.c1⟩
def QeR (c0 c1 a:Nat) (b d e:List Nt):Geo where
 N:=2
 St:=[nmS 0,nmS 1]
 Pt:=pt2 c0 c1
 Se:=se2 c0 c1 a b d e
 Li:=li2 c0 c1 a
 Tr:=[[D.sl 1 (Wd (ups 0 c0))],[D.sl 1 (Wd (ups c0 c1))]]
 Bt:=[[D.sl 1 (Wd (ups (c0+c1) a))]]
 k:=fun | 0=>0 | _=>c0
 c:=fun | 0=>c0 | _=>c1
 s:=fun _=>c0+c1
 u:=fun _=>a
theorem Qdy {c0 c1 a:Nat} {b c d:List Nt} (f:c0=1\/c0=2) (h:c1=1\/c1=2) (h2:a=1\/a=2) (j:Hd b) (k:Hd c) (l:Hd d) (e:b.length=c0) (e1:c.length=c1) (e2:d.length=a):(QeR c0 c1 a b c d).OK where
 hN:=.inl rfl
 st:=rfl
 lay:=QiK f h h2 j k l e e1 e2
 ref:=Qje f h h2 j k l e e1 e2
 trl:=rfl
 tr:=fun i hi=>match i,hi with
  |0,_=>rfl
  |1,_=>rfl
 ct:=fun i hi=>match i,hi with
  |0,_=>f
  |1,_=>h
 k6:=fun i hi=>match i,hi with
  |0,_=>by show 0+c0<=6;omega
  |1,_=>by show c0+c1<=6;omega
 btl:=rfl
 bt:=fun g hg=>match g,hg with
  |0,_=>rfl
 ut:=fun g _=>h2
 sec:=fun i hi=>match i,hi with
  |0,_=>fun x hx=>Qgx (A:=[]) (i:=0) (B:=YF (secT 1) c1 c++YF (secL 0) a d) (by simp [QeR,se2]) rfl j e hx
  |1,_=>fun x hx=>Qgx (A:=YF (secT 0) c0 b) (i:=1) (B:=YF (secL 0) a d) rfl (Xi e) k e1 hx
 gap:=fun g hg x hx=>QhD (A:=YF (secT 0) c0 b++YF (secT 1) c1 c) (i:=0) (B:=[]) (by simp [QeR,se2]) (by grind [QeR,Xi]) l e2 hx
 rts:=fun g hg=>match g,hg with
  |0,_=>by
   have hl:(se2 c0 c1 a b c d).length=c0+c1+a:=by grind [se2,Xi]
   show Qcr (se2 c0 c1 a b c d).length (li2 c0 c1 a) (c0+c1) a 0 c0 c0 c1=true
   grind [QiU]
 rt6:=fun g hg=>match g,hg with
  |0,_=>by
   have hl:(se2 c0 c1 a b c d).length=c0+c1+a:=by simp [se2,Xi e,Xi e1,Xi e2];omega
   show Q4L (se2 c0 c1 a b c d).length (pt2 c0 c1).length (li2 c0 c1 a) (c0+c1) a 0 c0 c0 c1=true
   grind [Qhv]
def QaK (c0 c1 a b d:Nat) (e f g h i:List Nt):Geo where
 N:=3
 St:=[nmS 0,nmS 1,nmS 2]
 Pt:=pt3 c0 c1 a
 Se:=se3 c0 c1 a b d e f g h i
 Li:=li3 c0 c1 a b d
 Tr:=[[D.sl 1 (Wd (ups 0 c0))],[D.sl 1 (Wd (ups c0 c1))],[D.sl 1 (Wd (ups (c0+c1) a))]]
 Bt:=[[D.sl 1 (Wd (ups (c0+c1+a) b))],[D.sl 1 (Wd (ups (c0+c1+a+b) d))]]
 k:=fun | 0=>0 | 1=>c0 | _=>c0+c1
 c:=fun | 0=>c0 | 1=>c1 | _=>a
 s:=fun | 0=>c0+c1+a | _=>c0+c1+a+b
 u:=fun | 0=>b | _=>d
theorem Qel {c0 c1 a b c:Nat} {d e f h j:List Nt} (l:c0=1\/c0=2) (m:c1=1\/c1=2) (h2:a=1\/a=2) (n:b=1\/b=2) (o:c=1\/c=2) (s:Hd d) (t:Hd e) (u:Hd f) (n3:Hd h) (v:Hd j) (p:d.length=c0) (e1:e.length=c1) (e2:f.length=a) (q:h.length=b) (r:j.length=c):(QaK c0 c1 a b c d e f h j).OK where
 hN:=.inr rfl
 st:=rfl
 lay:=Qjb l m h2 n o s t u n3 v p e1 e2 q r
 ref:=Qj3 l m h2 n o s t u n3 v p e1 e2 q r
 trl:=rfl
 tr:=fun i hi=>match i,hi with
  |0,_=>rfl
  |1,_=>rfl
  |2,_=>rfl
 ct:=fun i hi=>match i,hi with
  |0,_=>l
  |1,_=>m
  |2,_=>h2
 k6:=fun i hi=>match i,hi with
  |0,_=>by show 0+c0<=6;omega
  |1,_=>by show c0+c1<=6;omega
  |2,_=>by show c0+c1+a<=6;omega
 btl:=rfl
 bt:=fun g hg=>match g,hg with
  |0,_=>rfl
  |1,_=>rfl
 ut:=fun g hg=>match g,hg with
  |0,_=>n
  |1,_=>o
 sec:=fun i hi=>match i,hi with
  |0,_=>fun x hx=>Qgx (A:=[]) (i:=0) (B:=YF (secT 1) c1 e++(YF (secT 2) a f++(YF (secL 0) b h++YF (secL 1) c j))) (by simp [QaK,se3]) rfl s p hx
  |1,_=>fun x hx=>Qgx (A:=YF (secT 0) c0 d) (i:=1) (B:=YF (secT 2) a f++(YF (secL 0) b h++YF (secL 1) c j)) (by simp [QaK,se3]) (Xi p) t e1 hx
  |2,_=>fun x hx=>Qgx (A:=YF (secT 0) c0 d++YF (secT 1) c1 e) (i:=2) (B:=YF (secL 0) b h++YF (secL 1) c j) (by simp [QaK,se3]) (by grind [QaK,Xi]) u e2 hx
 gap:=fun g hg=>match g,hg with
  |0,_=>fun x hx=>QhD (A:=YF (secT 0) c0 d++YF (secT 1) c1 e++YF (secT 2) a f) (i:=0) (B:=YF (secL 1) c j) (by simp [QaK,se3]) (by grind [QaK,Xi]) n3 q hx
  |1,_=>fun x hx=>QhD (A:=YF (secT 0) c0 d++YF (secT 1) c1 e++YF (secT 2) a f++YF (secL 0) b h) (i:=1) (B:=[]) (by simp [QaK,se3]) (by grind [QaK,Xi]) v r hx
 rts:=fun g hg=>by
  have hl:(se3 c0 c1 a b c d e f h j).length=c0+c1+a+b+c:=by grind [se3,Xi]
  have k:=Qj2 l m h2 n o;simp only [Qlx] at k
  match g,hg with
  |0,_=>
   show Qcr (se3 c0 c1 a b c d e f h j).length (li3 c0 c1 a b c) (c0+c1+a) b 0 c0 c0 c1=true
   simp_all
  |1,_=>
   show Qcr (se3 c0 c1 a b c d e f h j).length (li3 c0 c1 a b c) (c0+c1+a+b) c c0 c1 (c0+c1) a=true;rw [hl];exact k.2
 rt6:=fun g hg=>by
  have hl:(se3 c0 c1 a b c d e f h j).length=c0+c1+a+b+c:=by simp [se3,Xi p,Xi e1,Xi e2,Xi q,Xi r];omega
  have k:=Qh7 l m h2 n o;simp only [Qlx] at k
  match g,hg with
  |0,_=>
   show Q4L (se3 c0 c1 a b c d e f h j).length (pt3 c0 c1 a).length (li3 c0 c1 a b c) (c0+c1+a) b 0 c0 c0 c1=true;rw [hl];exact k.1
  |1,_=>
   show Q4L (se3 c0 c1 a b c d e f h j).length (pt3 c0 c1 a).length (li3 c0 c1 a b c) (c0+c1+a+b) c c0 c1 (c0+c1) a=true;rw [hl];exact k.2
theorem QiO {R:Type} {l:List Int} (hl:l.length<=9223372036854775807) {P:R->Prop} {i:Nat} (hi:i<=l.length) {K:LL->LL->LL->LL->LL->LL->LL->Int->oP R}
  (H:∀ (G:Geo) (j:Nat),G.OK->j<=l.length->K G.St G.Pt G.Se G.Li G.Tr G.Bt [] (j:Int)∈P):Q2C 400 (encI l) (i:Int) K∈P:=by
 refine VK hl hi (by decide) (by decide) fun v j k n hj=>?_
 rcases two k n with rfl | rfl
 ·exact Qho hl (m:=397) hj fun c0 c1 a b c d j a0 a1 a2 e f g h e1 e2 hj=>H (QeR c0 c1 a b c d) j (Qdy a0 a1 a2 e f g h e1 e2) hj
 ·exact Qhr hl (m:=396) hj fun c0 c1 o a p b c q d r j a0 a1 a2 s t e f g n3 u h e1 e2 x y hj=>H (QaK c0 c1 o a p b c q d r) j (Qel a0 a1 a2 s t e f g n3 u h e1 e2 x y) hj
section
variable {R:Type}
theorem Q1F {T:LL} {g:Nat} {l:LL} (h:T[g]? = some [D.sl 1 l]) (K:LL->oP R) :
  gb true (inB (List.length T) (g:Int)) () (fun _=>gb true (T[(Int.toNat (g:Int))]?) [] fun a=>gb true (a[0]?) oF fun b=>gb true (pSl 1 b) [] fun c=>K c)=K l:=by
 have ac:g<T.length:=(Qlh.1 h).1;rw [Y0 (by omega) (by omega),Q0,Int.toNat_natCast,h];rfl
theorem QgX {k c a:Nat} (hc:c=1\/c=2) (ha:a<2) (K:Int->oP R) :
  gb true (nz ((List.length (Wd (ups k c)):Nat):Int)) () (fun _=>gb true (Q1 (Wd (ups k c)) (Int.tmod (a:Int) ((List.length (Wd (ups k c)):Nat):Int))) [] fun b=>gb true (b[0]?) oF fun d=>gb true (pIw d) 0 fun e=>K e)=K ((k+a % c:Nat):Int):=by
 obtain rfl | rfl:a=0\/a=1:=by omega
 ·rcases hc with rfl | rfl <;> rfl
 ·rcases hc with rfl | rfl
  ·rw [show k+1 % 1=k from rfl,show List.length (Wd (ups k 1))=1 from rfl,show Int.tmod ((1:Nat):Int) ((1:Nat):Int)=0 by decide];rfl
  ·rfl
theorem QbI {s u:Nat} {x:Int} (hu:u=1\/u=2) {k0:Int->Bool->LL->oP R} :
  ZG 400 (Wd (ups s u)) ((List.length (Wd (ups s u)):Nat):Int) k0 400 (0:Int) [[D.int .i64 x,D.int .i64 (0:Int)]]
   = k0 (u:Int) false ([Q4 x,Q4 0]::((ups s u).map fun k=>[Q4 (k:Nat),Q4 0])):=by
 rcases hu with rfl | rfl <;> rfl
theorem QbK {s u:Nat} {x:Int} (hu:u=1\/u=2) {k0:Int->Bool->LL->oP R} :
  ZO 400 (Wd (ups s u)) k0 400 (wJ (((List.length (Wd (ups s u)):Nat):Int)-(1:Int))) [[D.int .i64 x,D.int .i64 (1:Int)]]
   = k0 (-1) false ([Q4 x,Q4 1]::((ups s u).reverse.map fun k=>[Q4 (k:Nat),Q4 1])):=by
 rcases hu with rfl | rfl <;> rfl
theorem Q9q {Tr Bt:LL} {g k c k' c' s u a b:Nat} {up:Bool} (hg:g<8) (hT:Tr[g]? = some [D.sl 1 (Wd (ups k c))]) (ac:Tr[g+1]? = some [D.sl 1 (Wd (ups k' c'))]) (hB:Bt[g]? = some [D.sl 1 (Wd (ups s u))])
  (hc:c=1\/c=2) (aj:c'=1\/c'=2) (hu:u=1\/u=2) (ha:a<2) (hb:b<2) (K:LL->Int->oP R) :
  YB 400 Tr Bt (g:Int) (a:Int) (b:Int) up K=K (KR s u (k+a % c) (k'+b % c') up) 0:=by
 have ak:wJ ((g:Int)+1)=((g+1:Nat):Int):=by grind [Q6]
 have hl:(ups s u).length=u:=by rcases hu with rfl | rfl <;> rfl
 have d:u<=2:=by omega
 unfold YB;rw [Q1F hB];cases up
 ·rw [Qa rfl];rw [ak,Q1F ac,Q1F ac,QgX aj hb,Xr (by simp),Q0];rw [QbK hu,Q1F hT,Q1F hT,QgX hc ha,Xr (by simp [hl];omega),Q0];rfl
 ·rw [QZ rfl,Q1F hT,Q1F hT,QgX hc ha,Xr (by simp),Q0];rw [QbI hu,ak,Q1F ac,Q1F ac,QgX aj hb,Xr (by simp [hl];omega),Q0];rfl
end
def Sta (G:Geo) (x:Int):Prop:=∃ nm a b d i,Q1 G.Se x=some [D.str nm,Q4 a,Q4 b,Q4 d,Q4 i]/\0<=i/\x<6/\2<=a
structure RtOK (G:Geo) (s:LL) (x y:Int):Prop where
 l2:2<=s.length
 l24:s.length<=24
 rt:rtB G.Se.length G.Li s=true
 rt6:QgB G.Se.length G.Li s=true
 hops:Q0h G.Se.length G.Pt.length G.Li 0 s=true
 shp:∃ g x y up,g+1<G.N/\s=KR (G.s g) (G.u g) x y up/\x∈ups (G.k g) (G.c g)/\y∈ups (G.k (g+1)) (G.c (g+1))
 st:∀ r∈s,Ct G.Se r
 sx:Sta G x
 sy:Sta G y
 fst:∃ d,Q1 s 0=some [Q4 x,Q4 d]
 lst:∃ d,Q1 s ((s.length:Int)-1)=some [Q4 y,Q4 d]
def Geo.tk (G:Geo) (i a:Nat):Int:=((G.k i+a % G.c i:Nat):Int)
theorem Q5A {x:Nat}:∀ {s u:Nat},x∈ups s u->∃ j,j<u/\x=s+j
 |s,0,h=>by simp [ups] at h
 |s,u+1,h=>by
  simp only [ups,List.mem_cons] at h;rcases h with rfl | h
  ·exact ⟨0,by omega,rfl⟩
  ·obtain ⟨j,a,h2⟩:=Q5A h;exact ⟨j+1,by omega,by omega⟩
theorem ED {c a k:Nat} (hc:c=1\/c=2):(k+a % c)∈ups k c:=by
 rcases hc with rfl | rfl
 ·simp [ups,Nat.mod_one]
 grind [Nat.mod_lt,ups]
theorem Geo.OK.trk {G:Geo} (hG:G.OK) {i a:Nat} (hi:i<G.N):(∃ nm x b d,Q1 G.Se (G.tk i a)=some [D.str nm,Q4 x,Q4 b,Q4 d,Q4 i]/\SecN x b d):=
 hG.sec i hi (a % G.c i) (Nat.mod_lt _ (by rcases hG.ct i hi with h | h <;> omega))
theorem Q58 {P:List D->Prop} {s u x y:Nat} {up:Bool} (hx:∀ d,(d=0\/d=1)->P [Q4 x,Q4 d]) (hy:∀ d,(d=0\/d=1)->P [Q4 y,Q4 d]) (hs:∀ j,j<u->∀ d,(d=0\/d=1)->P [Q4 ((s+j:Nat):Int),Q4 d]):∀ r∈KR s u x y up,P r:=by
 intro r hr;unfold KR at hr;cases up
 ·simp only [Qlc,List.cons_append,List.mem_cons,Qlv,List.mem_map,List.mem_reverse,List.not_mem_nil,or_false] at hr;rcases hr with rfl | ⟨k,hk,rfl⟩ | rfl
  ·simp_all
  ·obtain ⟨j,a,rfl⟩:=Q5A hk
   simp_all
  simp_all
 ·simp only [Qle,List.cons_append,List.mem_cons,Qlv,List.mem_map,List.not_mem_nil,or_false] at hr;rcases hr with rfl | ⟨k,hk,rfl⟩ | rfl
  ·simp_all
  ·obtain ⟨j,a,rfl⟩:=Q5A hk
   simp_all
  simp_all
theorem Qg8 {R:Type} {G:Geo} (hG:G.OK) {g a b:Nat} {up:Bool} (hg:g+1<G.N) (ha:a<2) (hb:b<2) :
  ∃ s,RtOK G s (bif up then G.tk g a else G.tk (g+1) b) (bif up then G.tk (g+1) b else G.tk g a)/\∀ K:LL->Int->oP R,YB 400 G.Tr G.Bt (g:Int) (a:Int) (b:Int) up K=K s 0:=by
 have hN:=hG.hN;have hc:=hG.ct g (by omega);have ar:=hG.ct (g+1) hg;have hu:=hG.ut g hg;obtain ⟨h,i,k,l,e1,c⟩:=hG.trk (a:=a) (show g<G.N by omega);obtain ⟨m,n,o,p,e2,e⟩:=hG.trk (a:=b) hg;have aj:=hG.rts g hg;unfold Qcr at aj;have aj:=List.all_eq_true.1 (List.all_eq_true.1 aj _ (ED hc (a:=a))) _ (ED ar (a:=b));simp only [Qlx] at aj;have ac:=hG.rt6 g hg;unfold Q4L at ac;have ac:=List.all_eq_true.1 (List.all_eq_true.1 ac _ (ED hc (a:=a))) _ (ED ar (a:=b));simp only [Qdh,Qlx] at ac;refine ⟨KR (G.s g) (G.u g) (G.k g+a % G.c g) (G.k (g+1)+b % G.c (g+1)) up,?_,fun K=>Q9q (by omega) (hG.tr g (by omega)) (hG.tr (g+1) hg) (hG.bt g hg) hc ar hu ha hb K⟩;have aq:∀ r∈KR (G.s g) (G.u g) (G.k g+a % G.c g) (G.k (g+1)+b % G.c (g+1)) up,Ct G.Se r:=by
  refine Q58 (fun d hd=>⟨_,_,_,_,_,_,_,rfl,e1,c,hd⟩) (fun d hd=>⟨_,_,_,_,_,_,_,rfl,e2,e,hd⟩) fun j hj d hd=>?_
  obtain ⟨n3,q,t,v,z,f,g1⟩:=hG.gap g hg j hj;exact ⟨_,_,_,_,_,_,_,rfl,f,g1,hd⟩
 have an:∃ g' x y au,g'+1<G.N/\KR (G.s g) (G.u g) (G.k g+a % G.c g) (G.k (g+1)+b % G.c (g+1)) up=KR (G.s g') (G.u g') x y au/\x∈ups (G.k g') (G.c g')/\y∈ups (G.k (g'+1)) (G.c (g'+1)):=
  ⟨g,_,_,up,hg,rfl,ED hc,ED ar⟩
 have m1:=hG.k6 g (by omega);have m2:=hG.k6 (g+1) hg;have r1:=Nat.mod_lt a (show 0<G.c g by omega);have r2:=Nat.mod_lt b (show 0<G.c (g+1) by omega);have s1:Sta G (G.tk g a):=⟨_,_,_,_,_,e1,by omega,by unfold Geo.tk;omega,c.a0⟩;have s2:Sta G (G.tk (g+1) b):=⟨_,_,_,_,_,e2,by omega,by unfold Geo.tk;omega,e.a0⟩;revert aq aj ac an;generalize G.s g=s;generalize G.u g=u at hu;intro aj ac aq an;have hl:(KR s u (G.k g+a % G.c g) (G.k (g+1)+b % G.c (g+1)) up).length=u+2:=by
  rcases hu with rfl | rfl <;> cases up <;> rfl
 cases up
 ·exact ⟨by omega,by omega,aj.2,ac.2.1,ac.2.2,an,aq,s2,s1,by rcases hu with rfl | rfl <;> exact ⟨1,rfl⟩,by rw [hl];rcases hu with rfl | rfl <;> exact ⟨1,rfl⟩⟩
 ·exact ⟨by omega,by omega,aj.1,ac.1.1,ac.1.2,an,aq,s1,s2,by rcases hu with rfl | rfl <;> exact ⟨0,rfl⟩,by rw [hl];rcases hu with rfl | rfl <;> exact ⟨0,rfl⟩⟩
def Pg (G:Geo) (Ro:LL) (row:List D) (x y:Int) (last:Bool):Prop:=
 ∃ (rt:Nat) (ex mn mx:Int) (s:LL),row=[Q4 rt,Q4 ex,Q4 mn,Q4 mx]/\Ro[rt]? = some [D.sl 2 s,Q4 0]/\RtOK G s x y/\(0<=ex/\ex<3)/\(0<=mn/\mn<=mx/\mx<=mn+3/\mn<=10)/\(last=true->mn=0/\mx=0)
def nmN (k:Nat):List UInt8:=bs [78]++[UInt8.ofNat (48+k)]
def Q3E (G:Geo) (Ro:LL) (rides:LL):Prop:=
 (∃ r x y,rides=[r]/\Pg G Ro r x y true)\/(∃ r r' x y z,rides=[r,r']/\Pg G Ro r x y false/\Pg G Ro r' y z true)
def QaT (G:Geo) (Ro:LL) (k:Nat) (row:List D):Prop:=∃ (w:Int) (rides:LL),row=[D.str (nmN k),Q4 0,Q4 w,D.sl 4 rides]/\0<=w/\w<4/\Q3E G Ro rides
structure GoodP (G:Geo) (Ro Ls:LL):Prop where
 ro:∀ row∈Ro,∃ s x y,row=[D.sl 2 s,Q4 0]/\RtOK G s x y
 ls:∀ k row,Ls[k]? = some row->QaT G Ro k row
theorem Pg.mono {G:Geo} {Ro t:LL} {row:List D} {x y:Int} {b:Bool} (h:Pg G Ro row x y b):Pg G (Ro++t) row x y b:=by
 obtain ⟨rt,ex,mn,mx,s,a,h2,c⟩:=h;refine ⟨rt,ex,mn,mx,s,a,?_,c⟩
 grind
theorem Q3E.mono {G:Geo} {Ro t rides:LL} (h:Q3E G Ro rides):Q3E G (Ro++t) rides:=by
 rcases h with ⟨r,x,y,e,h⟩ | ⟨r,r',x,y,z,e,h,h'⟩
 ·exact .inl ⟨r,x,y,e,h.mono⟩
 ·exact .inr ⟨r,r',x,y,z,e,h.mono,h'.mono⟩
theorem QaT.mono {G:Geo} {Ro t:LL} {k:Nat} {row:List D} (h:QaT G Ro k row):QaT G (Ro++t) k row:=by
 obtain ⟨w,rides,a,h2,b,c⟩:=h;exact ⟨w,rides,a,h2,b,c.mono⟩
section
variable {R:Type} {l:List Int} (hl:l.length<=9223372036854775807) {P:R->Prop}
include hl
def atL (At:Nat->Nat):LL:=[[Q4 (At 0)],[Q4 (At 1)],[Q4 (At 2)]]
theorem QiQ {i:Nat} (hi:i<=l.length) {k0:Int->Bool->LL->Int->oP R}
  (H:∀ (At:Nat->Nat) (j:Nat),(∀ i,At i<2)->j<=l.length->k0 3 false (atL At) (j:Int)∈P) :
  Wh 400 (encI l) k0 400 (0:Int) [[D.int .i64 (0:Int)],[D.int .i64 (0:Int)],[D.int .i64 (0:Int)]] (i:Int)∈P:=by
 refine VK hl hi (by decide) (by decide) fun d j a0 b0 hj=>?_
 refine VK hl hj (by decide) (by decide) fun e j a1 b1 hj=>?_
 refine VK hl hj (by decide) (by decide) fun f j a2 b2 hj=>?_
 obtain ⟨a,rfl⟩:=Qlr a0;obtain ⟨b,rfl⟩:=Qlr a1;obtain ⟨c,rfl⟩:=Qlr a2;exact H (fun | 0=>a | 1=>b | _=>c) j (fun | 0=>by grind | 1=>by grind | _+2=>by grind) hj
end
theorem atA {R:Type} {At:Nat->Nat} {g:Nat} (hg:g<3) (K:Int->oP R) :
  gb true (inB 3 (g:Int)) () (fun _=>gb true ((atL At)[(Int.toNat (g:Int))]?) [] fun r=>gb true (r[0]?) oF fun c=>gb true (pIw c) 0 fun i=>K i)=K (At g):=by
 obtain rfl | rfl | rfl:g=0\/g=1\/g=2:=by omega
 all_goals rfl
section
variable {R:Type} {l:List Int} (hl:l.length<=9223372036854775807) {P:R->Prop} {G:Geo} (hG:G.OK)
include hl hG
theorem QcU {up:Bool} {ac h g m:Nat} {acc Ro:LL} {At:Nat->Nat} (ak:∀ i,At i<2) (hm:ac<=2) (hh:h<ac) (hg:g=bif up then h else ac-1-h) (hN:ac<G.N) (hR:Ro.length<=100) (ha:acc.length<=10)
  {i:Nat} (hi:i<=l.length) {k0:Int->Bool->LL->LL->Int->oP R}
  (H:∀ (s:LL) (ex mn mx:Int) (j:Nat),RtOK G s (bif up then G.tk g (At g) else G.tk (g+1) (At (g+1))) (bif up then G.tk (g+1) (At (g+1)) else G.tk g (At g))->0<=ex/\ex<3->(0<=mn/\mn<=mx/\mx<=mn+3/\mn<=10)->(h+1=ac->mn=0/\mx=0)->j<=l.length ->
   QA 400 up (ac:Int) (atL At) G.Tr G.Bt (encI l) k0 m ((h+1:Nat):Int) (acc++[[Q4 (Ro.length:Nat),Q4 ex,Q4 mn,Q4 mx]]) (Ro++[[D.sl 2 s,Q4 0]]) (j:Int)∈P) :
  QA 400 up (ac:Int) (atL At) G.Tr G.Bt (encI l) k0 (m+1) (h:Int) acc Ro (i:Int)∈P:=by
 have ar:=hG.hN;have aw:g<ac:=by
  rw [hg];cases up
  ·show ac-1-h<ac;omega
  ·exact hh
 have ao:g+1<G.N:=by omega
 obtain ⟨s,hs,e⟩:=Qg8 (R:=LL × Int) hG (up:=up) ao (ak g) (ak (g+1));have d:wJ ((h:Int)+1)=((h+1:Nat):Int):=by rw [Q6 (by omega) (by omega)];omega
 have f:wJ ((g:Int)+1)=((g+1:Nat):Int):=by rw [Q6 (by omega) (by omega)];omega
 have k:up=false->wJ (wJ ((ac:Int)-1)-(h:Int))=(g:Int):=by
  intro hu;rw [Q6 (x:=(ac:Int)-1) (by omega) (by omega),Q6 (by omega) (by omega)];simp [hu] at hg;omega
 have aj:wJ ((((Ro++[[D.sl 2 s,Q4 0]]).length:Nat):Int)-1)=((Ro.length:Nat):Int):=by
  rw [show (Ro++[[D.sl 2 s,Q4 0]]).length=Ro.length+1 by simp,Q6 (by omega) (by omega)];omega
 rw [QA,QZ (by simp;omega),d];cases up
 ·rw [QZ (c:=!false) rfl,k rfl,f,atA (by omega),atA (by omega),e,Q0,Xr (by simp;omega),Q0];refine VK hl hi (by decide) (by decide) fun ex j a b hj=>?_
  dsimp only;rw [aj];by_cases hlast:h+1<ac
  ·rw [QZ (by simp;omega)];refine VK hl hj (by decide) (by decide) fun mn j n o hj=>?_
   refine VK hl hj (by decide) (by decide) fun mx j p q hj=>?_
   rw [Xr (by simp;omega),Q0];dsimp only;rw [Q6 (x:=5+mn) (by omega) (by omega),Q6 (x:=5+mn+mx) (by omega) (by omega)];exact H s ex (5+mn) (5+mn+mx) j hs ⟨a,b⟩ ⟨by omega,by omega,by omega,by omega⟩ (fun hx=>absurd hx (by omega)) hj
  ·rw [Qa (by simp;omega),Xr (by simp;omega),Q0];exact H s ex 0 0 j hs ⟨a,b⟩ ⟨by omega,by omega,by omega,by omega⟩ (fun hx=>⟨rfl,rfl⟩) hj
 ·have aq:g=h:=by simpa using hg
  subst aq;rw [Qa (c:=!true) rfl,atA (by omega),atA (by omega),e,Q0,Xr (by simp;omega),Q0];refine VK hl hi (by decide) (by decide) fun ex j a b hj=>?_
  dsimp only;rw [aj];by_cases hlast:g+1<ac
  ·rw [QZ (by simp;omega)];refine VK hl hj (by decide) (by decide) fun mn j n o hj=>?_
   refine VK hl hj (by decide) (by decide) fun mx j p q hj=>?_
   rw [Xr (by simp;omega),Q0];dsimp only;rw [Q6 (x:=5+mn) (by omega) (by omega),Q6 (x:=5+mn+mx) (by omega) (by omega)];exact H s ex (5+mn) (5+mn+mx) j hs ⟨a,b⟩ ⟨by omega,by omega,by omega,by omega⟩ (fun hx=>absurd hx (by omega)) hj
  ·rw [Qa (by simp;omega),Xr (by simp;omega),Q0];exact H s ex 0 0 j hs ⟨a,b⟩ ⟨by omega,by omega,by omega,by omega⟩ (fun hx=>⟨rfl,rfl⟩) hj
omit hl hG in
theorem Q7d {n m:Nat} {f:Bool} {b a:Int} {g i j k c d:LL} {e:Int} {k0:Int->Bool->LL->LL->Int->oP R} (h:¬ a<b) :
  QA n f b g i j k k0 (m+1) a c d e=k0 a false c d e:=by
 rw [QA,Qa (by simpa using h)];simp [h]
theorem Qhw {up:Bool} {ak:Nat} {Ro Ls:LL} (hm:ak=1\/ak=2) (hN:ak<G.N) (ac:GoodP G Ro Ls) (hR:Ro.length<=20) (hL:Ls.length<6)
  {i:Nat} (hi:i<=l.length) {K:Int->LL->LL->oP R}
  (H:∀ (Ro' Ls':LL) (j:Nat),GoodP G Ro' Ls'->Ls'.length=Ls.length+1->Ro'.length<=Ro.length+2->j<=l.length->K (j:Int) Ro' Ls'∈P) :
  UZ 400 G.Tr G.Bt (encI l) (i:Int) Ro Ls up (ak:Int) K∈P:=by
 unfold UZ;rw [Bs _ _ Ls.length (by omega) (by decide),Q0];refine VK hl hi (by decide) (by decide) fun w j w0 c hj=>?_
 dsimp only;refine QiQ hl hj fun At j ar hj=>?_
 rcases hm with rfl | rfl
 ·refine QcU hl hG (h:=0) (g:=0) ar (by decide) (by decide) (by simp_all) hN (by omega) (by decide) hj fun s ex mn mx j hs aq ao hlast hj=>?_
  rw [Q7d (by decide)];rw [Xr (by simp;omega),Q0];refine H _ _ j ⟨fun row hr=>?_,fun k row hk=>?_⟩ (by simp) (by simp) hj
  ·rcases Qlv.1 hr with hr | hr
   ·exact ac.ro row hr
   grind
  ·rcases Nat.lt_or_ge k Ls.length with aj | aj
   ·rw [List.getElem?_append_left aj] at hk;exact (ac.ls k row hk).mono
   ·rw [List.getElem?_append_right aj] at hk;obtain ⟨a,rfl⟩:=Qlh.1 hk;simp at a;have b:k=Ls.length:=by omega
    subst b;refine ⟨w,_,by simp [nmN],w0,c,.inl ⟨_,_,_,rfl,Ro.length,ex,mn,mx,s,rfl,by simp,hs,aq,ao,fun _=>hlast rfl⟩⟩
 ·obtain ⟨g0,d⟩:∃ g0,g0=bif up then 0 else 1:=⟨_,rfl⟩
  obtain ⟨g1,e⟩:∃ g1,g1=bif up then 1 else 0:=⟨_,rfl⟩
  refine QcU hl hG (h:=0) (g:=g0) ar (by decide) (by decide) (by cases up <;> simpa using d) hN (by omega) (by decide) hj fun s ex mn mx j hs aq ao hlast hj=>?_
  refine QcU hl hG (h:=1) (g:=g1) ar (by decide) (by decide) (by cases up <;> simpa using e) hN (by simp;omega) (by simp) hj fun s' az a2 a3 j aw ax au an hj=>?_
  have ay:(bif up then G.tk (g0+1) (At (g0+1)) else G.tk g0 (At g0))=(bif up then G.tk g1 (At g1) else G.tk (g1+1) (At (g1+1))):=by
   subst d e;cases up <;> rfl
  rw [ay] at hs;rw [Q7d (by decide)];rw [Xr (by simp;omega),Q0];refine H _ _ j ⟨fun row hr=>?_,fun k row hk=>?_⟩ (by simp) (by simp) hj
  ·rcases Qlv.1 hr with hr | hr
   ·rcases Qlv.1 hr with hr | hr
    ·exact ac.ro row hr
    ·rw [List.mem_singleton.1 hr];exact ⟨s,_,_,rfl,hs⟩
   ·rw [List.mem_singleton.1 hr];exact ⟨s',_,_,rfl,aw⟩
  ·rcases Nat.lt_or_ge k Ls.length with aj | aj
   ·rw [List.getElem?_append_left aj] at hk;exact (ac.ls k row hk).mono.mono
   ·rw [List.getElem?_append_right aj] at hk;obtain ⟨a,rfl⟩:=Qlh.1 hk;simp at a;have b:k=Ls.length:=by omega
    subst b;refine ⟨w,_,by simp [nmN],w0,c,.inr ⟨_,_,_,_,_,rfl,Pg.mono ⟨Ro.length,ex,mn,mx,s,rfl,by simp,hs,aq,ao,fun h=>by cases h⟩,(Ro++[[D.sl 2 s,Q4 0]]).length,az,a2,a3,s',rfl,by simp,aw,ax,au,fun _=>an rfl⟩⟩
end
def TD (Ls:LL) (k i:Nat) (r:List D):Prop:=∃ nm w rides,Ls[k]? = some [D.str nm,Q4 0,Q4 w,D.sl 4 rides]/\rides[i]? = some r
theorem Q9 (w:LL) (i:Nat):Q1 w (i:Int)=w[i]?:=by simp [Q1]
section
variable {R:Type} {n:Nat}
theorem Qck {G:Geo} {Ro Ls:LL} {k i:Nat} {r:List D} {x y:Int} {b:Bool} (h:TD Ls k i r) (hr:Pg G Ro r x y b) {p:Int} {a1 a c e f:LL} (K:Int->oP R):Sd n p a1 Ro Ls a c e f (k:Int) (i:Int) K=K x:=by
 obtain ⟨nm,w,rides,j,h2⟩:=h;obtain ⟨rt,ex,mn,mx,s,rfl,l,g,_⟩:=hr;obtain ⟨d,m⟩:=g.fst
 simp_all [Sd,Q9,Q0,List.getElem?_cons_zero,List.getElem?_cons_succ,Qw,Q2]
theorem Qf0 {G:Geo} {Ro Ls:LL} {k i:Nat} {r:List D} {x y:Int} {b:Bool} (h:TD Ls k i r) (hr:Pg G Ro r x y b) {p:Int} {a1 c e f g:LL} (K:Int->oP R):M7 n p a1 Ro Ls c e f g (k:Int) (i:Int) K=K y:=by
 obtain ⟨nm,w,rides,j,h2⟩:=h;obtain ⟨rt,ex,mn,mx,s,rfl,l,a,_⟩:=hr;obtain ⟨d,m⟩:=a.lst;have l2:=a.l2;have l24:=a.l24;unfold M7;rw [Q9,j,Q0];dsimp only [List.getElem?_cons_zero,List.getElem?_cons_succ];rw [Q0,Qw,Q0,Q9,h2,Q0];dsimp only [List.getElem?_cons_zero,List.getElem?_cons_succ];rw [Q0,Q2,Q0,Q9,l,Q0];dsimp only [List.getElem?_cons_zero,List.getElem?_cons_succ];rw [Q0,Q0,Qw,Q0,Q0,Q6 (by omega) (by omega),m];rfl
end
theorem Q6z {G:Geo} {Ro Ls:LL} (hg:GoodP G Ro Ls) {k:Nat} (hk:k<Ls.length) :
  ∃ (w:Int) (rides:LL) (r r':List D) (x x' y y':Int) (b:Bool),Ls[k]? = some [D.str (nmN k),Q4 0,Q4 w,D.sl 4 rides]/\(rides.length=1\/rides.length=2)/\rides[0]? = some r/\rides[rides.length-1]? = some r'/\Pg G Ro r x y b/\Pg G Ro r' x' y' true:=by
 obtain ⟨w,rides,c,h2,d,a⟩:=hg.ls k _ (Qld hk);refine ⟨w,rides,?_⟩;rcases a with ⟨r,x,y,rfl,h⟩ | ⟨r,r',x,y,z,rfl,h,h'⟩
 all_goals grind
abbrev Tup:=Nat × Nat × Int × Int
def tuR (t:Tup):List D:=[Q4 t.1,Q4 t.2.1,Q4 t.2.2.1,Q4 t.2.2.2]
def Q9W (G:Geo) (Ro Ls:LL) (t:Tup):Prop:=
 t.1<Ls.length/\t.2.1<Ls.length/\10<=t.2.2.1/\t.2.2.1<=19/\t.2.2.1<=t.2.2.2/\t.2.2.2<=t.2.2.1+29 /\
 ∃ (nm:List UInt8) (w:Int) (rides:LL) (r r':List D) (x y z:Int) (b b':Bool),Ls[t.1]? = some [D.str nm,Q4 0,Q4 w,D.sl 4 rides]/\rides[rides.length-1]? = some r/\1<=rides.length/\rides.length<=2/\TD Ls t.2.1 0 r'/\Pg G Ro r x y b/\Pg G Ro r' y z b'
structure TInv (G:Geo) (Ro Ls:LL) (T:List Tup) (FA TA:LL):Prop where
 ok:∀ t∈T,Q9W G Ro Ls t
 fd:(T.map (·.1)).Nodup
 td:(T.map (·.2.1)).Nodup
 fl:∀ i,i<4->∃ b,FA[i]? = some [D.bool b]/\(b=false->i ∉ T.map (·.1))
 tl:∀ i,i<4->∃ b,TA[i]? = some [D.bool b]/\(b=false->i ∉ T.map (·.2.1))
theorem gbF {α R:Type} (p:Option α) (z:α) (k:α->oP R):gb false p z k=k (p.getD z):=by cases p <;> rfl
theorem TInv.add {G:Geo} {Ro Ls:LL} {T:List Tup} {FA TA:LL} (h:TInv G Ro Ls T FA TA) {t:Tup} (ht:Q9W G Ro Ls t) (d:t.1 ∉ T.map (·.1)) (h2:t.2.1 ∉ T.map (·.2.1)):TInv G Ro Ls (T++[t]) (FA.set t.1 [D.bool true]) (TA.set t.2.1 [D.bool true]) where
 ok:=fun u hu=>by
  rcases Qlv.1 hu with hu | hu
  ·exact h.ok u hu
  simp_all
 fd:=by
  rw [QlB,List.nodup_append];refine ⟨h.fd,by simp,fun a ha b hb=>?_⟩
  grind
 td:=by
  rw [QlB,List.nodup_append];refine ⟨h.td,by simp,fun a ha b hb=>?_⟩;simp at hb;subst hb;intro e;subst e;exact h2 ha
 fl:=fun i hi=>by
  obtain ⟨b,e,hb⟩:=h.fl i hi;by_cases ac:t.1=i
  ·subst ac;refine ⟨true,?_,fun h=>by cases h⟩;rw [List.getElem?_set_self (Qlh.1 e).1]
  ·refine ⟨b,by rw [List.getElem?_set_ne ac];exact e,fun c hm=>?_⟩;rw [QlB] at hm;rcases Qlv.1 hm with hm | hm
   ·exact hb c hm
   ·simp at hm;exact ac hm.symm
 tl:=fun i hi=>by
  obtain ⟨b,e,hb⟩:=h.tl i hi;by_cases ac:t.2.1=i
  ·subst ac;refine ⟨true,?_,fun h=>by cases h⟩;rw [List.getElem?_set_self (Qlh.1 e).1]
  ·refine ⟨b,by rw [List.getElem?_set_ne ac];exact e,fun c hm=>?_⟩;rw [QlB] at hm;rcases Qlv.1 hm with hm | hm
   ·exact hb c hm
   ·simp at hm;exact ac hm.symm
section
variable {R:Type} {l:List Int} (hl:l.length<=9223372036854775807) {P:R->Prop} {G:Geo} {Ro Ls:LL} (hg:GoodP G Ro Ls) (hL:Ls.length<=3)
include hl hg hL
theorem Qgy {a b m:Nat} {b1:Int} {FA TA c d e f:LL} {T:List Tup} (ha:a<Ls.length) (hb:b<Ls.length) (hT:TInv G Ro Ls T FA TA) (a5:T.length<=100) {i:Nat} (hi:i<=l.length) {k0:Int->Bool->LL->LL->LL->Int->oP R}
  (H:∀ (FA TA:LL) (T':List Tup) (j:Nat),TInv G Ro Ls T' FA TA->T'.length<=T.length+1->j<=l.length->Yt 400 (a:Int) ((Ls.length:Nat):Int) c Ro Ls d e f (encI l) b1 k0 m ((b+1:Nat):Int) FA TA (T'.map tuR) (j:Int)∈P) :
  Yt 400 (a:Int) ((Ls.length:Nat):Int) c Ro Ls d e f (encI l) b1 k0 (m+1) (b:Int) FA TA (T.map tuR) (i:Int)∈P:=by
 have ax:wJ ((b:Int)+1)=((b+1:Nat):Int):=by rw [Q6 (by omega) (by omega)];omega
 rw [Yt,QZ (by simp;omega),ax];refine VK hl hi (by decide) (by decide) fun v j s u hj=>?_
 dsimp only;have ac:=H FA TA T j hT (by omega) hj;by_cases hv:v=0
 ·subst hv;rw [show decide ((0:Int)>0)=false from rfl];simp only [gbF,Qlc];exact ac
 rw [show decide (v>0)=true by simp;omega];obtain ⟨fb,ef,hf⟩:=hT.fl a (by omega);obtain ⟨tb,et,ht⟩:=hT.tl b (by omega);rw [Y0 (by omega) (by omega),Q0,Int.toNat_natCast,ef,Q0];show gb true (some (D.bool fb)) _ (fun n=>gb true (G6 n) _ _)∈P;rw [Q0,show G6 (D.bool fb)=some fb from rfl,Q0];cases fb
 case true=>
  simp only [gbF,Qlg,Qlc,Qle];exact ac
 rw [show (bif true then !false else false)=true from rfl,Y0 (by omega) (by omega),Q0,Int.toNat_natCast,et,Q0];show gb true (some (D.bool tb)) _ (fun o=>gb true (G6 o) _ _)∈P;rw [Q0,show G6 (D.bool tb)=some tb from rfl,Q0];cases tb
 case true=>
  simp only [gbF,Qlg,Qlc,Qle];exact ac
 obtain ⟨w,rides,z,r,x0,x,y0,y,b0,e1,e2,e3,g,e5,h⟩:=Q6z hg ha;obtain ⟨w',ao,r',r1,x',x1,y',y1,a8,g1,g2,p,g4,k,g6⟩:=Q6z hg hb;have aw:TD Ls a (rides.length-1) r:=⟨_,_,_,e1,g⟩;have an:TD Ls b 0 r':=⟨_,_,_,g1,p⟩;have az:wJ (((rides.length:Nat):Int)-1)=((rides.length-1:Nat):Int):=by rw [Q6 (by omega) (by omega)];omega
 rw [show (bif true then !false else false)=true from rfl,Y0 (by omega) (by omega),Q0,e1,Q0];show gb true (some (D.sl 4 rides)) _ (fun q=>gb true (pSl 4 q) _ _)∈P;rw [Q0,Qw,Q0,az,Qf0 aw h,Q0,show (0:Int)=((0:Nat):Int) from rfl,Qck an k,Q0];by_cases ak:y=x'
 case neg=>
  rw [Qa (by simpa using ak)];exact ac
 subst ak;rw [QZ (by simp),Q0,Q0,Q0,Q0];refine VK hl hj (by decide) (by decide) fun lo j l0 l1 hj=>?_
 refine VK hl hj (by decide) (by decide) fun aj j h0 h1 hj=>?_
 dsimp only;rw [Xr (by simp;omega),Q0,Q6 (x:=10+lo) (by omega) (by omega),Q6 (x:=10+lo+aj) (by omega) (by omega)];have:=H _ _ (T++[(a,b,10+lo,10+lo+aj)]) j (hT.add (t:=(a,b,10+lo,10+lo+aj)) ⟨ha,hb,by simp;omega,by simp;omega,by simp;omega,by simp;omega,_,_,_,_,_,_,_,_,_,_,e1,g,by omega,by omega,an,h,k⟩ (hf rfl) (ht rfl)) (by simp) hj;rw [QlB] at this;exact this
theorem Qcm {a:Nat} {b1:Int} {c d e f:LL} (ha:a<Ls.length) {k0:Int->Bool->LL->LL->LL->Int->oP R}:∀ (k m b:Nat) (FA TA:LL) (T:List Tup) (i:Nat),b+k=Ls.length->k<m->TInv G Ro Ls T FA TA->T.length+k<=60->i<=l.length ->
  (∀ (FA TA:LL) (T':List Tup) (j:Nat),TInv G Ro Ls T' FA TA->T'.length<=T.length+k->j<=l.length->k0 ((Ls.length:Nat):Int) false FA TA (T'.map tuR) (j:Int)∈P) ->
  Yt 400 (a:Int) ((Ls.length:Nat):Int) c Ro Ls d e f (encI l) b1 k0 m (b:Int) FA TA (T.map tuR) (i:Int)∈P
 |0,m+1,b,FA,TA,T,i,hb,_,hT,ak,hi,H=>by
  subst hb;rw [Yt,Qa (by simp),show decide (((Ls.length:Nat):Int)<((Ls.length:Nat):Int))=false by simp]
  simp_all
 |k+1,m+1,b,FA,TA,T,i,hb,hm,hT,ak,hi,H=>by
  refine Qgy hl hg hL ha (by omega) hT (by omega) hi fun FA TA T' j an aq hj=>?_
  exact Qcm ha k m (b+1) FA TA T' j (by omega) (by omega) an (by omega) hj fun FA TA T'' j ac aj hj=>H FA TA T'' j ac (by omega) hj
theorem Qc2 {b1:Int} {b c d e:LL} {k0:Int->Bool->LL->LL->LL->Int->oP R}:∀ (k m a:Nat) (FA TA:LL) (T:List Tup) (i:Nat),a+k=Ls.length->k<m->TInv G Ro Ls T FA TA->T.length+3*k<=50->i<=l.length ->
  (∀ (FA TA:LL) (T':List Tup) (j:Nat),TInv G Ro Ls T' FA TA->T'.length<=T.length+3*k->j<=l.length->k0 ((Ls.length:Nat):Int) false FA TA (T'.map tuR) (j:Int)∈P) ->
  Ue 400 ((Ls.length:Nat):Int) b Ro Ls c d e (encI l) b1 k0 m (a:Int) FA TA (T.map tuR) (i:Int)∈P
 |0,m+1,a,FA,TA,T,i,hb,_,hT,ak,hi,H=>by
  subst hb;rw [Ue,Qa (by simp),show decide (((Ls.length:Nat):Int)<((Ls.length:Nat):Int))=false by simp]
  simp_all
 |k+1,m+1,a,FA,TA,T,i,hb,hm,hT,ak,hi,H=>by
  rw [Ue,QZ (by simp;omega)];refine Qcm hl hg hL (by omega) Ls.length 400 0 FA TA T i (by omega) (by omega) hT (by omega) hi fun FA TA T' j an aq hj=>?_
  rw [show wJ ((a:Int)+1)=((a+1:Nat):Int) by grind [Q6]];exact Qc2 k m (a+1) FA TA T' j (by omega) (by omega) an (by omega) hj fun FA TA T'' j ac aj hj=>H FA TA T'' j ac (by omega) hj
theorem Qgq {b1:Int} {a b c d:LL} {i:Nat} (hi:i<=l.length) {K:Int->LL->oP R}
  (H:∀ (T:List Tup) (j:Nat),(∀ t∈T,Q9W G Ro Ls t)->(T.map (·.1)).Nodup->(T.map (·.2.1)).Nodup->T.length<=20->j<=l.length->K (j:Int) (T.map tuR)∈P) :
  RK 400 (encI l) (i:Int) b1 a Ro Ls b [] c d K∈P:=by
 refine Qc2 hl hg hL (T:=[]) Ls.length 400 0 _ _ i (by omega) (by omega) ⟨by simp,by simp,by simp,?_,?_⟩ (by simp;omega) hi fun FA TA T j hT aj hj=>?_
 ·intro i hi;obtain rfl | rfl | rfl | rfl:i=0\/i=1\/i=2\/i=3:=by omega
  all_goals simp
 ·intro i hi;obtain rfl | rfl | rfl | rfl:i=0\/i=1\/i=2\/i=3:=by omega
  all_goals simp_all
 ·exact H T j hT.ok hT.fd hT.td (by grind) hj
end
theorem H8 {w:LL} {x:Int} {r:List D} (h:Q1 w x=some r):inB w.length x=some ()/\w[x.toNat]? = some r:=by
 grind [Q1,List.getElem?_eq_some_iff,Y0]
def Q6a (G:Geo) (per:Int) (Ro Ls:LL) (row:List D):Prop:=
 ∃ (f fr t tr:Nat) (mn mx w:Int) (r r':List D) (x y x' y':Int) (b b':Bool) (i:Int),row=[Q4 f,Q4 fr,Q4 t,Q4 tr,Q4 mn,Q4 mx,Q4 w]/\TD Ls f fr r/\TD Ls t tr r'/\Pg G Ro r x y b/\Pg G Ro r' x' y' b'/\f≠t/\(0<=mn/\mn<20/\mn<=mx/\mx<mn+per)/\(0<=w/\w<3) /\
  (∃ nm a c d,Q1 G.Se y=some [D.str nm,Q4 a,Q4 c,Q4 d,Q4 i])/\(∃ nm a c d,Q1 G.Se x'=some [D.str nm,Q4 a,Q4 c,Q4 d,Q4 i])/\0<=i
def QhG (per:Int) (Ls:LL) (row:List D):Prop:=∃ o:Int,row=[Q4 0,Q4 0,Q4 1,Q4 0,Q4 o]/\0<=o/\o<per/\2<=Ls.length
def QhO (N:Nat) (row:List D):Prop:=∃ f t w:Int,row=[Q4 f,Q4 t,Q4 w]/\(0<=f/\f<N)/\(0<=t/\t<N)/\f≠t/\1<=w/\w<=9
def Q1i (Sk:LL):Prop:=∃ a b c d:Int,Sk=[[D.str (bs [88]),Q4 a,Q4 b,Q4 c,Q4 d]]/\StkN a b c d
structure PlanR (G:Geo) (per:Int) (Sk Ro Ls Ch Tu Sy De:LL):Prop where
 ok:G.OK
 p0:90<=per
 p1:per<=300
 sk:Q1i Sk
 good:GoodP G Ro Ls
 l0:1<=Ls.length
 l1:Ls.length<=3
 rl:Ro.length<=6
 ch:∀ row∈Ch,Q6a G per Ro Ls row
 chl:Ch.length<=2
 tu:∃ T:List Tup,Tu=T.map tuR/\(∀ t∈T,Q9W G Ro Ls t)/\(T.map (·.1)).Nodup/\(T.map (·.2.1)).Nodup/\T.length<=20
 sy:∀ row∈Sy,QhG per Ls row
 syl:Sy.length<=1
 de:∀ row∈De,QhO G.N row
 del:De.length<=2
theorem Qj6 {pl:LL} (hp:pl=[[D.int .i64 (150:Int)],[D.int .i64 (120:Int)],[D.int .i64 (180:Int)],[D.int .i64 (240:Int)],[D.int .i64 (300:Int)],[D.int .i64 (90:Int)]]) {v:Int} (a:0<=v) (b:v<6) :
  ∃ per:Int,90<=per/\per<=300/\∀ {R:Type} (K:Int->oP R),gb true (inB (List.length pl) v) () (fun _=>gb true (pl[(Int.toNat v)]?) [] fun r=>gb true (r[0]?) oF fun c=>gb true (pIw c) 0 fun i=>K i)=K per:=by
 subst hp;obtain rfl | rfl | rfl | rfl | rfl | rfl:v=0\/v=1\/v=2\/v=3\/v=4\/v=5:=by omega
 ·exact ⟨150,by omega,by omega,fun K=>rfl⟩
 ·exact ⟨120,by omega,by omega,fun K=>rfl⟩
 ·exact ⟨180,by omega,by omega,fun K=>rfl⟩
 ·exact ⟨240,by omega,by omega,fun K=>rfl⟩
 ·exact ⟨300,by omega,by omega,fun K=>rfl⟩
 ·exact ⟨90,by omega,by omega,fun K=>rfl⟩
theorem C4 {G:Geo} {Ro Ls:LL} (hg:GoodP G Ro Ls) {k:Nat} (hk:k<Ls.length):∃ (w:Int) (rides:LL),Ls[k]? = some [D.str (nmN k),Q4 0,Q4 w,D.sl 4 rides]/\(rides.length=1\/rides.length=2)/\∀ i,i<rides.length->∃ r x y b,TD Ls k i r/\Pg G Ro r x y b:=by
 obtain ⟨w,rides,c,h2,d,a⟩:=hg.ls k _ (Qld hk);have he:Ls[k]? = some [D.str (nmN k),Q4 0,Q4 w,D.sl 4 rides]:=by simp_all
 refine ⟨w,rides,he,?_⟩;rcases a with ⟨r,x,y,rfl,h⟩ | ⟨r,r',x,y,z,rfl,h,h'⟩
 ·refine ⟨.inl rfl,fun i hi=>?_⟩;have hi:i=0:=by simp_all
  subst hi;exact ⟨r,x,y,true,⟨_,_,_,he,rfl⟩,h⟩
 ·refine ⟨.inr rfl,fun i hi=>?_⟩;obtain rfl | rfl:i=0\/i=1:=by grind
  ·exact ⟨r,x,y,false,⟨_,_,_,he,rfl⟩,h⟩
  ·exact ⟨r',y,z,true,⟨_,_,_,he,rfl⟩,h'⟩
section
variable {R:Type} {l:List Int} (hl:l.length<=9223372036854775807) {P:R->Prop} {G:Geo} (hG:G.OK)
include hl hG
theorem Q3u {k0:Int->Bool->Int->LL->LL->oP R}:∀ (c m:Nat) (Ro Ls:LL) (i:Nat),c<m->Ls.length+c<=3->Ro.length<=2*Ls.length->GoodP G Ro Ls->i<=l.length ->
  (∀ (Ro' Ls':LL) (j:Nat),GoodP G Ro' Ls'->Ls'.length=Ls.length+c->Ro'.length<=2*Ls'.length->j<=l.length->k0 0 false (j:Int) Ro' Ls'∈P) ->
  Gf 400 (encI l) G.Tr G.Bt k0 m (c:Int) (i:Int) Ro Ls∈P
 |0,m+1,Ro,Ls,i,_,_,hR,hg,hi,H=>by
  rw [Gf];rw [Qa (by simp),show decide (((0:Nat):Int)>0)=false by simp];exact H Ro Ls i hg rfl hR hi
 |c+1,m+1,Ro,Ls,i,hm,hL,hR,hg,hi,H=>by
  have hN:=hG.hN;have hb:=hG.btl;rw [Gf];rw [QZ (by simp)];refine VK hl hi (by decide) (by decide) fun v j a b hj=>?_
  dsimp only;refine VK hl hj (by omega) (by omega) fun d j g0 g1 hj=>?_
  dsimp only;obtain ⟨nv,rfl⟩:=Qlr g0;rw [Q6 (x:=1+(nv:Int)) (by omega) (by omega),show (1:Int)+(nv:Int)=((1+nv:Nat):Int) by omega];refine okB (Qhw hl hG (by omega) (by omega) hg (by omega) (by omega) hj fun Ro' Ls' j an au ar hj=>okI ?_);dsimp only;rw [show wJ (((c+1:Nat):Int)-1)=(c:Int) by rw [Q6 (by omega) (by omega)];omega];exact Q3u c m Ro' Ls' j (by omega) (by omega) (by omega) an hj fun Ro'' Ls'' j ac aq aj hj=>H Ro'' Ls'' j ac (by omega) aj hj
omit hG in
theorem Lx {per:Int} {Ro Ls k n:LL} (d:90<=per) (e:per<=300) (hg:GoodP G Ro Ls) (hL:Ls.length<=3) {k0:Int->Bool->Int->LL->oP R}:∀ (c m:Nat) (Ch:LL) (i:Nat),c<m->Ch.length+c<=2->(∀ row∈Ch,Q6a G per Ro Ls row)->i<=l.length ->
  (∀ (h:Int) (b:Bool) (Ch:LL) (j:Nat),(∀ row∈Ch,Q6a G per Ro Ls row)->Ch.length<=2->j<=l.length->k0 h b (j:Int) Ch∈P) ->
  Ja 400 per (encI l) k Ro Ls G.Se n k0 m (c:Int) (i:Int) Ch∈P
 |0,m+1,Ch,i,_,a3,hC,hi,H=>by
  grind [Ja]
 |c+1,m+1,Ch,i,hm,a3,hC,hi,H=>by
  rw [Ja];rw [show decide (((c+1:Nat):Int)>0)=true by simp,Qle];by_cases o:Ls.length<=1
  ·rw [show decide (((Ls.length:Nat):Int)>1)=false by simp;omega,Qlc];exact H _ _ Ch i hC (by omega) hi
  rw [show decide (((Ls.length:Nat):Int)>1)=true by simp;omega,Qle];refine VK hl hi (by omega) (by omega) fun v j p o hj=>?_
  refine VK hl hj (by decide) (by decide) fun w j w0 q hj=>?_
  dsimp only;obtain ⟨f,rfl⟩:=Qlr p;have hf:f<Ls.length:=by omega
  obtain ⟨t,et,ht,a4⟩:∃ t:Nat,Int.tmod (wJ ((f:Int)+1)) ((Ls.length:Nat):Int)=(t:Int)/\t<Ls.length/\f≠t:=by
   rw [Q6 (by omega) (by omega),Qlz (by omega)];refine ⟨(f+1) % Ls.length,by simp,Nat.mod_lt _ (by omega),?_⟩;by_cases h:f+1<Ls.length
   ·rw [Nat.mod_eq_of_lt h];omega
   ·rw [show f+1=Ls.length by omega,Nat.mod_self];omega
  rw [et];obtain ⟨w2,rides,e1,e2,s⟩:=C4 hg hf;obtain ⟨bg,aw,a5,a7,ax⟩:=C4 hg ht;rw [Ek (by omega),Q0,Y0 (by omega) (by omega),Q0,Int.toNat_natCast,e1,Q0];dsimp only [List.getElem?_cons_zero,List.getElem?_cons_succ];rw [Q0,Qw,Q0];refine VK hl hj (by omega) (by omega) fun fr j a0 a1 hj=>?_
  dsimp only;rw [Y0 (by omega) (by omega),Q0,Int.toNat_natCast,a5,Q0];dsimp only [List.getElem?_cons_zero,List.getElem?_cons_succ];rw [Q0,Qw,Q0];refine VK hl hj (by omega) (by omega) fun tr j b0 b1 hj=>?_
  refine VK hl hj (by decide) (by decide) fun mn j c0 c1 hj=>?_
  dsimp only;refine VK hl hj (by omega) (by omega) fun mx j d0 d1 hj=>?_
  dsimp only;obtain ⟨fr,rfl⟩:=Qlr a0;obtain ⟨tr,rfl⟩:=Qlr b0;obtain ⟨r,x,y,b,hr,hR⟩:=s fr (by omega);obtain ⟨r',x',y',b',ak,an⟩:=ax tr (by omega);have ao:=hR;have aj:=an;obtain ⟨_,_,_,_,_,_,_,hS,_⟩:=hR;obtain ⟨_,_,_,_,_,_,_,az,_⟩:=an;obtain ⟨ab,a1,c1,d1,g,g1,u⟩:=hS.sy;obtain ⟨ac,a2,c2,d2,z,a,g4⟩:=az.sx;rw [Qf0 hr ao,Q0,(H8 g1).1,Q0,(H8 g1).2,Q0];dsimp only [List.getElem?_cons_zero,List.getElem?_cons_succ];rw [Q0,Q2,Q0,Qck ak aj,Q0,(H8 a).1,Q0,(H8 a).2,Q0];dsimp only [List.getElem?_cons_zero,List.getElem?_cons_succ];rw [Q0,Q2,Q0];have ay:wJ (((c+1:Nat):Int)-1)=(c:Int):=by rw [Q6 (by omega) (by omega)];omega
  rw [ay];by_cases ar:g=z
  ·subst ar;rw [QZ (by simp),Xr (by simp;omega),Q0,Q6 (x:=mn+mx) (by omega) (by omega)];refine Lx d e hg hL c m _ j (by omega) (by simp;omega) (fun row aq=>?_) hj H;rcases Qlv.1 aq with h | h
   ·exact hC row h
   ·rw [List.mem_singleton.1 h];exact ⟨f,fr,t,tr,mn,mn+mx,w,r,r',x,y,x',y',b,b',g,rfl,hr,ak,ao,aj,a4,⟨by omega,by omega,by omega,by omega⟩,⟨w0,q⟩,⟨_,_,_,_,g1⟩,⟨_,_,_,_,a⟩,u.1⟩
  ·rw [Qa (by simpa using ar)];exact Lx d e hg hL c m _ j (by omega) (by omega) hC hj H
omit hl hG in
theorem Qjc {N:Nat} (hN:N=2\/N=3) {f v:Int} (a:0<=f) (b:f<N) (g0:0<=v) (g1:v<N-1):∃ t:Int,Int.tmod (wJ ((wJ (f+1))+v)) ((N:Nat):Int)=t/\(0<=t/\t<N)/\f≠t:=by
 rw [Q6 (x:=f+1) (by omega) (by omega),Q6 (by omega) (by omega),Qlz (by omega)]
 grind
theorem Q25 {k0:Int->Bool->Int->LL->oP R}:∀ (c m:Nat) (De:LL) (i:Nat),c<m->De.length+c<=2->(∀ row∈De,QhO G.N row)->i<=l.length ->
  (∀ (h:Int) (b:Bool) (De:LL) (j:Nat),(∀ row∈De,QhO G.N row)->De.length<=2->j<=l.length->k0 h b (j:Int) De∈P) ->
  Vl 400 (encI l) G.St k0 m (c:Int) (i:Int) De∈P
 |0,m+1,De,i,_,ak,hD,hi,H=>by
  rw [Vl];rw [show decide (((0:Nat):Int)>0)=false by simp,Qlc];exact H _ _ De i hD (by omega) hi
 |c+1,m+1,De,i,hm,ak,hD,hi,H=>by
  have hN:=hG.hN;rw [Vl];rw [show decide (((c+1:Nat):Int)>0)=true by simp,Qle,hG.st,Q6 (x:=((G.N:Nat):Int)-1) (by omega) (by omega)];refine VK hl hi (by omega) (by omega) fun f j a d hj=>?_
  dsimp only;refine VK hl hj (by omega) (by omega) fun v j g0 g1 hj=>?_
  dsimp only;rw [Ek (by omega),Q0];refine VK hl hj (by decide) (by decide) fun w j w0 e hj=>?_
  dsimp only;obtain ⟨t,et,ht,an⟩:=Qjc hN a d g0 g1;rw [Xr (by simp;omega),Q0,et,Q6 (x:=1+w) (by omega) (by omega),show wJ (((c+1:Nat):Int)-1)=(c:Int) by rw [Q6 (by omega) (by omega)];omega];refine Q25 c m _ j (by omega) (by simp;omega) (fun row ac=>?_) hj H;rcases Qlv.1 ac with h | h
  ·exact hD row h
  ·rw [List.mem_singleton.1 h];exact ⟨f,t,1+w,rfl,⟨a,d⟩,ht,an,by omega,by omega⟩
omit hl hG in
theorem QeB {n:Nat} {l s:LL} {k0:Int->Bool->Int->LL->oP R}:∀ (m:Nat) (a:Int) (c:Int) (d:LL),Hj n l s k0 m a c d=Vl n l s k0 m a c d
 |0,_,_,_=>rfl
 |m+1,a,c,d=>by
  rw [Hj,Vl];simp only [QeB m]
end
theorem Q6k {v:Int} (h:0<=v):∃ n:Nat,v=(n:Int):=Qlr h
theorem QhP {R:Type} {l:List Int} (hl:l.length<=9223372036854775807) {P:R->Prop} {K:LL->LL->LL->LL->Int->LL->LL->LL->LL->LL->LL->LL->oP R}
  (H:∀ (G:Geo) (per:Int) (Sk Ro Ls Ch Tu Sy De:LL),PlanR G per Sk Ro Ls Ch Tu Sy De->K G.St G.Pt G.Se G.Li per Sk Ro Ls Ch Tu Sy De∈P):Sw 400 (encI l) K∈P:=by
 unfold Sw AR;rw [Q0];dsimp only;refine okB (QiO (i:=0) hl (Nat.zero_le _) fun G j hG hj=>okI ?_);dsimp only;refine VK hl hj (by decide) (by decide) fun v j f g hj=>?_
 dsimp only;obtain ⟨per,p0,p1,e⟩:=Qj6 rfl f g;rw [e];refine VK hl hj (by decide) (by decide) fun a j a0 a1 hj=>?_
 refine VK hl hj (by decide) (by decide) fun b j b0 b1 hj=>?_
 refine VK hl hj (by decide) (by decide) fun c j c0 c1 hj=>?_
 refine VK hl hj (by decide) (by decide) fun d j d0 d1 hj=>?_
 refine VK hl hj (by decide) (by decide) fun k j k0 k1 hj=>?_
 dsimp only;obtain ⟨k,rfl⟩:=Q6k k0;rw [Q6 (x:=1+(k:Int)) (by omega) (by omega),show (1:Int)+(k:Int)=((k+1:Nat):Int) by omega,Q6 (x:=1+a) (by omega) (by omega),Q6 (x:=5000*b) (by omega) (by omega),Q6 (x:=10000+5000*b) (by omega) (by omega),Q6 (x:=200*c) (by omega) (by omega),Q6 (x:=400+200*c) (by omega) (by omega),Q6 (x:=200*d) (by omega) (by omega),Q6 (x:=400+200*d) (by omega) (by omega)];have ac:Q1i [[D.str (bs [88]),D.int .i64 (1+a),D.int .i64 (10000+5000*b),D.int .i64 (400+200*c),D.int .i64 (400+200*d)]]:=⟨_,_,_,_,rfl,by omega,by omega,by omega,by omega,by omega,by omega,by omega,by omega⟩;revert ac;generalize [[D.str (bs [88]),D.int .i64 (1+a),D.int .i64 (10000+5000*b),D.int .i64 (400+200*c),D.int .i64 (400+200*d)]]=Sk;intro ac;refine Q3u hl hG (k+1) 400 [] [] j (by omega) (by simp;omega) (by simp) ⟨(fun row h=>nomatch h),(fun k row h=>nomatch h)⟩ hj fun Ro Ls j hg hL hR hj=>?_
 simp at hL;refine okB (Qgq hl hg (by omega) hj fun T j an ak ar ao hj=>okI ?_);dsimp only;refine VK hl hj (by decide) (by decide) fun k j k0 k1 hj=>?_
 dsimp only;obtain ⟨k,rfl⟩:=Q6k k0;refine Lx hl p0 p1 hg (by omega) k 400 [] j (by omega) (by simp;omega) (fun row h=>nomatch h) hj fun f b0 Ch j hC aq hj=>?_
 refine VK hl hj (by decide) (by decide) fun v j f g hj=>?_
 dsimp only;by_cases hv:v=3/\1<Ls.length
 ·obtain ⟨rfl,h2⟩:=hv;rw [show ((3:Int) == 3)=true from rfl,show decide (((Ls.length:Nat):Int)>1)=true by simp;omega,Qle,Qle];refine VK hl hj (by omega) (by omega) fun o j n p hj=>?_
  dsimp only;rw [Xr (by simp),Q0];refine VK hl hj (by decide) (by decide) fun k j k0 k1 hj=>?_
  dsimp only;obtain ⟨k,rfl⟩:=Q6k k0;refine Q25 hl hG k 400 [] j (by omega) (by simp;omega) (fun row h=>nomatch h) hj fun f b0 De j hD aj hj=>?_
  refine H G per Sk Ro Ls Ch _ _ De ⟨hG,p0,p1,ac,hg,by omega,by omega,by omega,hC,aq,⟨T,rfl,an,ak,ar,ao⟩,fun row h=>?_,by simp,hD,aj⟩;simp at h;exact ⟨o,h,n,p,h2⟩
 ·rw [show (bif (v == (3:Int)) then (decide (((List.length Ls:Nat):Int)>(1:Int))) else false)=false by
   by_cases m:v=3
   ·rw [show (v == (3:Int))=true by simp [m],Qle];simp;omega
   ·rw [show (v == (3:Int))=false by simpa using m,Qlc]]
  rw [Qlc];refine VK hl hj (by decide) (by decide) fun k j k0 k1 hj=>?_
  dsimp only;obtain ⟨k,rfl⟩:=Q6k k0;rw [QeB];refine Q25 hl hG k 400 [] j (by omega) (by simp;omega) (fun row h=>nomatch h) hj fun f b0 De j hD aj hj=>?_
  exact H G per Sk Ro Ls Ch _ _ De ⟨hG,p0,p1,ac,hg,by omega,by omega,by omega,hC,aq,⟨T,rfl,an,ak,ar,ao⟩,(fun row h=>nomatch h),by simp,hD,aj⟩
end Go.Vx
namespace Go.Vx
variable {R:Type} (n:Nat)
def ZK (n:Nat) (d:LL) (c:Int) (k0:oP R) (k1:Int->Bool->oP R):Nat->Int->oP R
 | 0,_=>none
 | m+1,a=>bif decide (a<c) then QjQ R d a fun e=>Qjl R (pSl 4 e) fun f=>bif decide ((f.length:Int)>12) then k0 else ZK n d c k0 k1 m (wJ (a+1)) else k1 a (decide (a<c))
def V3 (i j k l:LL) (c:Int) (d e b f g h m:LL) (K:Int->oP R):oP R:=Qjl R (Zy n i j k l some) fun o=>bif o !=0 then K 1 else jn (fun (p:Bool)=>bif p then K 7 else ZK n b (b.length:Int) (K 7) (fun q r=>bif Qjh (decide (c<2)) (decide (c>7200)) then K 4 else K 0) n 0) fun a=>Qjj R (decide ((d.length:Int)>8)) fun y=>bif y then a y else Qjj R (decide ((e.length:Int)>48)) fun v=>bif v then a v else Qjj R (decide ((b.length:Int)>16)) fun x=>bif x then a x else Qjj R (decide ((f.length:Int)>32)) fun u=>bif u then a u else Qjj R (decide ((g.length:Int)>32)) fun t=>bif t then a t else Qjj R (decide ((h.length:Int)>32)) fun s=>bif s then a s else a (decide ((m.length:Int)>32))
def Z6 (b:LL) (h2:Int) (c d e f:LL) (k0:Int->oP R) (k1:Int->Bool->oP R):Nat->Int->oP R
 | 0,_=>none
 | m+1,a=>bif decide (a<h2) then QjJ R b a fun i j=>QjM R i j fun k l=>Qjl R (P6 n c d e f k l some) fun h=>bif h !=0 then k0 h else Z6 b h2 c d e f k0 k1 m (wJ (a+1)) else k1 a (decide (a<h2))
def Ug (b c d e:LL) (g:Int) (h a i j k l m:LL) (K:Int->oP R):oP R:=Z6 n a (a.length:Int) b c d e (fun f=>K f) (fun o p=>K 0) n 0
def JN (ac ad ae ag:LL) (d:Int) (g b k l m o p:LL) (bt:List UInt8) (ah bu:Int) (e:LL) (a:Int) (K:Int->oP R):oP R:=QjP R e a fun i q r s=>jn (fun (ai:Bool)=>(bif ai then K 4 else Qk8 R i b fun ak al=>Qjy R g ah fun f am an ao=>QjI R f fun ap aq=>QjM R ak al fun ar au=>Qjl R (Nk am) fun av=>QjW R an ao ap aq fun aw ax ay az=>Qjl R (Gw n ac ad ae ag ar au av aw ax ay az some) fun u=>bif u !=0 then K u else Qjj R (decide (a>0)) fun bv=>QjE R i bv q fun ba bb=>QjE R r bv s fun bc bd=>Qjm R bv (TC n d g b k l m o p ba bb bc bd some) fun be=>Qjm R bv (Q1 e (wJ (a-1))) fun j=>Qk6 R j bv fun bg bh=>Qjm R bv j[2]? fun bi=>Qjm R bv j[3]? fun bj=>QjE R bg bv bh fun bk bl=>QjE R bi bv bj fun bm bn=>Qjm R bv (Sn n d g b k l m o p bk bl bm bn some) fun bo=>bif Qji bv (be !=bo) then K 11 else K 0:oP R)) fun c=>Qjl R (pIw i) fun v=>bif decide (v<0) then c (decide (v<0)) else Qjl R (pIw i) fun x=>Qjj R (decide (x>=(b.length:Int))) fun bz=>bif bz then c bz else Qjl R (pIw q) fun y=>bif decide (y<0) then c (decide (y<0)) else Qjl R (pIw q) fun z=>bif decide (z>=d) then c (decide (z>=d)) else Qjw R r s fun bp bq=>Qjl R (KF n d g b k l m o p bp bq some) fun aa=>bif !aa then c (!aa) else Qjj R (a==wJ ((e.length:Int)-1)) fun bx=>Qjm R bx (pIw r) fun ab=>Qjm R (bx&&!(ab !=0)) (pIw s) fun br=>c (Qji bx (Qjh (ab !=0) (br !=0)))
def ZJ (b:Int) (c d e f:LL) (g:Int) (h i j k l o p:LL) (q:List UInt8) (r s:Int) (t:LL) (k0:Int->oP R) (k1:Int->Bool->oP R):Nat->Int->oP R
 | 0,_=>none
 | m+1,a=>bif decide (a<b) then Qjl R (JN n c d e f g h i j k l o p q r s t a some) fun u=>bif u !=0 then k0 u else ZJ b c d e f g h i j k l o p q r s t k0 k1 m (wJ (a+1)) else k1 a (decide (a<b))
def ZI (h:LL) (h2:Int) (i j k l:LL) (o:Int) (c p d q r s t:LL) (k0:Int->oP R) (k1:Int->Bool->oP R):Nat->Int->oP R
 | 0,_=>none
 | m+1,a=>bif decide (a<h2) then QjP R h a fun u y z aa=>Qjl R (Nk u) fun ab=>Qjl R (KN n ab some) fun ac=>bif !ac then k0 3 else Qjl R (slB d.length none (some a)) fun ad=>Qjl R (Nk u) fun v=>Qjw R y z fun b x=>Qjl R (pSl 4 aa) fun f=>Qjl R (Qq n (cut d ad) v some) fun ae=>bif ae then k0 5 else jn (fun (ag:Bool)=>bif ag then k0 4 else bif (f.length:Int)==0 then k0 1 else ZJ n (f.length:Int) i j k l o c p d q r s t v b x f (fun ah=>k0 ah) (fun aj ak=>ZI h h2 i j k l o c p d q r s t k0 k1 m (wJ (a+1))) n 0) fun g=>bif decide (b<0) then g (decide (b<0)) else Qjj R (decide (b>=(c.length:Int))) fun al=>bif al then g al else Qjl R (TJ n x some) fun ai=>g (!ai) else k1 a (decide (a<h2))
def Vh (b c d e:LL) (f:Int) (g h a i j k l:LL) (K:Int->oP R):oP R:=ZI n a (a.length:Int) b c d e f g h a i j k l (fun m=>K m) (fun o p=>K 0) n 0
def Q9Q (a b c d:LL) (e:Int) (f g h i j k l:LL):Bool:=Q8n (V3 n a b c d e f g h i j k l some)&&Q8n (Ui n a b c d e f g h i j k l some)&&Q8n (Ug n a b c d e f g h i j k l some)&&Q8n (Vh n a b c d e f g h i j k l some)&&Q8n (WF n a b c d e f g h i j k l some)&&Q8n (Vg n a b c d e f g h i j k l some)&&Q8n (V7 n a b c d e f g h i j k l some)&&Q8n (Ww n a b c d e f g h i j k l some)
def Vd (a b c d:LL) (e:Int) (f g h i j k l:LL) (K:Int->oP R):oP R:=bif Q9Q n a b c d e f g h i j k l then K 0 else none
end Go.Vx
namespace Go.Vx
theorem Ql {h:Nat} (hh:h<=1000):wJ ((h:Int)+1)=((h+1:Nat):Int):=by rw [Q6 (by omega) (by omega)];omega
theorem Q8 {h k:Nat} (hh:h<k):decide ((h:Int)<((k:Nat):Int))=true:=by simpa using hh
theorem Qi (k:Nat):decide (((k:Nat):Int)<((k:Nat):Int))=false:=by simp
section
variable {R:Type} {St Pt Se Li Sk Ro Ls Ch Tu Sy De:LL} {per:Int} {n:Nat}
theorem Q55 {mn mx:Int} (a:0<=mn) (b:mn<=mx) (h2:mx<mn+per) (c:mn<=1000) (p1:per<=300) (K:Bool->oP R):KF n per Sk Ro Ls Ch Tu Sy De mn mx K=K true:=by
 unfold KF;rw [show decide ((0:Int)<=mn)=true by simpa using a,show decide (mn<=mx)=true by simpa using b,show decide (mx<=(7200:Int))=true by simp;omega,Q6 (by omega) (by omega),show decide (mx<mn+per)=true by simpa using h2];rfl
theorem Q2K {k:Nat} (h:k<Ls.length) (K:Bool->oP R):Ge n per Sk Ro Ls Ch Tu Sy De (k:Int) K=K true:=by
 unfold Ge;rw [show decide ((k:Int)>=0)=true by simp,Q8 h];rfl
theorem B6 {k i:Nat} {r:List D} (h:TD Ls k i r) (K:Bool->oP R):Ur n per Sk Ro Ls Ch Tu Sy De (k:Int) (i:Int) K=K true:=by
 obtain ⟨nm,w,rides,a,h2⟩:=h;unfold Ur;rw [Q2K (Qlh.1 a).1,Q0,show decide ((i:Int)>=0)=true by simp,Q9,a];simp -implicitDefEqProofs only [Q0,List.getElem?_cons_zero,List.getElem?_cons_succ,Q2,Xw,Qw,Qle,Qlc,Qlg,Qlf,Q8 (Qlh.1 h2).1]
theorem Q8D {w:Int} (a:0<=w) (b:w<=1000) (K:Bool->oP R):TJ n w K=K true:=by
 unfold TJ;rw [show decide (w>=0)=true by simpa using a,show decide (w<=(1048576:Int))=true by simp;omega];rfl
theorem Q5d {G:Geo} {rt:Nat} {ex mn mx x y:Int} {s:LL} (a:Ro[rt]? = some [D.sl 2 s,Q4 0]) (b:RtOK G s x y) (K:Int->oP R):TC n per Sk Ro Ls Ch Tu Sy De (rt:Int) ex mn mx K=K x:=by
 obtain ⟨d,c⟩:=b.fst;unfold TC;simp -implicitDefEqProofs only [Q0,List.getElem?_cons_zero,List.getElem?_cons_succ,Q2,Xw,Qw,Qle,Qlc,Qlg,Qlf,Q9,a,c]
theorem Qa4 {G:Geo} {rt:Nat} {ex mn mx x y:Int} {s:LL} (b:Ro[rt]? = some [D.sl 2 s,Q4 0]) (a:RtOK G s x y) (K:Int->oP R):Sn n per Sk Ro Ls Ch Tu Sy De (rt:Int) ex mn mx K=K y:=by
 obtain ⟨d,c⟩:=a.lst;have l2:=a.l2;have l24:=a.l24;unfold Sn;simp -implicitDefEqProofs only [Q0,List.getElem?_cons_zero,List.getElem?_cons_succ,Q2,Xw,Qw,Qle,Qlc,Qlg,Qlf,Q9,b];rw [Q6 (x:=((s.length:Nat):Int)-0) (by omega) (by omega),Q6 (by omega) (by omega),Int.sub_zero,c];rfl
theorem QdS (hs:Q1i Sk) (K:Int->oP R):Ui 400 St Pt Se Li per Sk Ro Ls Ch Tu Sy De K=K 0:=by
 obtain ⟨a,b,c,d,rfl,hk⟩:=hs;have h:Ui 400 St Pt Se Li per [[D.str (bs [88]),Q4 a,Q4 b,Q4 c,Q4 d]] Ro Ls Ch Tu Sy De K=gb true (UH 400 (bs [88]) a b c d some) false (fun r=>bif !r then K 4 else K 0):=by kernel_rfl
 rw [h,A5 hk];rfl
end
section
variable {R:Type} {G:Geo} {Sk Ro Ls Ch Tu Sy De:LL} {per:Int} (h:PlanR G per Sk Ro Ls Ch Tu Sy De)
include h
theorem Q6H {k:Nat} (hk:k<Ls.length):∃ r,TD Ls k 0 r:=by
 obtain ⟨w,rides,e,hr,a⟩:=C4 h.good hk;obtain ⟨r,_,_,_,b,_⟩:=a 0 (by omega);exact ⟨r,b⟩
theorem Qg6 (K:Int->oP R):V3 400 G.St G.Pt G.Se G.Li per Sk Ro Ls Ch Tu Sy De K=K 0:=by
 have hc:Zy 400 G.St G.Pt G.Se G.Li (some:Int->Option Int)=some 0:=by unfold Zy;rw [h.ok.lay];rfl
 obtain ⟨_,_,_,_,aj,_⟩:=h.sk;obtain ⟨T,hT,_,_,_,ak⟩:=h.tu;have l1:=h.l1;have l2:=h.rl;have a:=h.chl;have c:=h.syl;have d:=h.del;have p0:=h.p0;have p1:=h.p1;have lk:Sk.length=1:=by rw [aj];rfl
 have lt:Tu.length<=20:=by rw [hT];simpa using ak
 have ac:∀ {k:Nat} {b:Int},(k:Int)<=b->decide ((k:Int)>b)=false:=fun h=>by simpa using h
 unfold V3;rw [hc,Q0,Qa (by rfl)];simp -implicitDefEqProofs only [jn,ac (show ((Sk.length:Nat):Int)<=8 by omega),ac (show ((Ro.length:Nat):Int)<=48 by omega),ac (show ((Ls.length:Nat):Int)<=16 by omega),ac (show ((Ch.length:Nat):Int)<=32 by omega),ac (show ((Tu.length:Nat):Int)<=32 by omega),ac (show ((Sy.length:Nat):Int)<=32 by omega),ac (show ((De.length:Nat):Int)<=32 by omega),Qlc];refine Qm (r:=fun m h=>ZK 400 Ls ((Ls.length:Nat):Int) _ _ m h) (N:=Ls.length) (fun m k hk=>?_) (fun m=>?_) Ls.length 400 0 (by omega) (by omega)
 ·obtain ⟨w,rides,e,hr,_⟩:=C4 h.good hk;rw [ZK,Q8 hk,Q9,e];simp -implicitDefEqProofs only [Q0,List.getElem?_cons_zero,List.getElem?_cons_succ,Q2,Xw,Qw,Qle,Qlc,Qlg,Qlf,ac (show ((rides.length:Nat):Int)<=12 by omega),Ql (show k<=1000 by omega)]
 ·rw [ZK,Qi,Qlc,show decide (per<2)=false by simp;omega,show decide (per>7200)=false by simp;omega];rfl
theorem QcQ (K:Int->oP R):Ug 400 G.St G.Pt G.Se G.Li per Sk Ro Ls Ch Tu Sy De K=K 0:=by
 have l2:=h.rl;unfold Ug;refine Qm (r:=fun m h=>Z6 400 Ro ((Ro.length:Nat):Int) G.St G.Pt G.Se G.Li _ _ m h) (N:=Ro.length) (fun m k hk=>?_) (fun m=>?_) Ro.length 400 0 (by omega) (by omega)
 ·obtain ⟨s,x,y,e,hs⟩:=h.good.ro _ (Qll hk);rw [Z6,Q8 hk,Q9,Qld hk,e];simp -implicitDefEqProofs only [Q0,List.getElem?_cons_zero,List.getElem?_cons_succ,Q2,Xw,Qw,Qle,Qlc,Qlg,Qlf,Q6h h.ok.lay rfl hs.l2 hs.l24 hs.rt,Ql (show k<=1000 by omega)];rfl
 ·rw [Z6,Qi,Qlc]
theorem Qbd (K:Int->oP R):Ww 400 G.St G.Pt G.Se G.Li per Sk Ro Ls Ch Tu Sy De K=K 0:=by
 have l2:=h.del;have hN:=h.ok.hN;unfold Ww;refine Qm (r:=fun m h=>YT 400 De ((De.length:Nat):Int) G.St _ _ m h) (N:=De.length) (fun m k hk=>?_) (fun m=>?_) De.length 400 0 (by omega) (by omega)
 ·obtain ⟨f,t,w,e,⟨a,b⟩,⟨c,t1⟩,ac,w0,d⟩:=h.de _ (Qll hk);rw [YT,Q8 hk,Q9,Qld hk,e];simp -implicitDefEqProofs only [Q0,List.getElem?_cons_zero,List.getElem?_cons_succ,Q2,Xw,Qw,Qle,Qlc,Qlg,Qlf,h.ok.st,show decide (f<0)=false by simpa using a,show decide (f>=((G.N:Nat):Int))=false by simpa using b,show decide (t<0)=false by simpa using c,show decide (t>=((G.N:Nat):Int))=false by simpa using t1,show (f == t)=false by simpa using ac,show decide (w<1)=false by simp;omega,show decide (w>1048576)=false by simp;omega,Ql (show k<=1000 by omega)]
 ·rw [YT,Qi,Qlc]
theorem Qg2 (K:Int->oP R):V7 400 G.St G.Pt G.Se G.Li per Sk Ro Ls Ch Tu Sy De K=K 0:=by
 have l2:=h.syl;have l0:=h.l0;unfold V7;refine Qm (r:=fun m h=>ZC 400 Sy ((Sy.length:Nat):Int) per Sk Ro Ls Ch Tu Sy De _ _ m h) (N:=Sy.length) (fun m k hk=>?_) (fun m=>?_) Sy.length 400 0 (by omega) (by omega)
 ·obtain ⟨o,e,a,b,h2⟩:=h.sy _ (Qll hk);obtain ⟨r,hr⟩:=Q6H h (k:=0) (by omega);obtain ⟨r',ac⟩:=Q6H h (k:=1) (by omega);have e1:=B6 (R:=Bool) (per:=per) (Sk:=Sk) (Ro:=Ro) (Ch:=Ch) (Tu:=Tu) (Sy:=Sy) (De:=De) (n:=400) hr some;have e2:=B6 (R:=Bool) (per:=per) (Sk:=Sk) (Ro:=Ro) (Ch:=Ch) (Tu:=Tu) (Sy:=Sy) (De:=De) (n:=400) ac some;rw [ZC,Q8 hk,Q9,Qld hk,e];simp -implicitDefEqProofs only [Q0,List.getElem?_cons_zero,List.getElem?_cons_succ,Q2,Xw,Qw,Qle,Qlc,Qlg,Qlf,show Ur 400 per Sk Ro Ls Ch Tu Sy De 0 0 (some:Bool->Option Bool)=some true from e1,show Ur 400 per Sk Ro Ls Ch Tu Sy De 1 0 (some:Bool->Option Bool)=some true from e2,show ((0:Int) == 1)=false from rfl,show decide (o<0)=false by simp;omega,show decide (o>=per)=false by simp;omega,Ql (show k<=1000 by omega)]
 ·rw [ZC,Qi,Qlc]
end
theorem Q2h {n h:Nat} (hh:h<=n):slB n none (some (h:Int))=some (0,h):=by
 unfold slB;rw [show (decide ((0:Int)<=(none:Option Int).getD 0)&&(decide ((none:Option Int).getD 0<=(some (h:Int)).getD (n:Int))&&decide ((some (h:Int)).getD (n:Int)<=(n:Int))))=true by simp;omega];rfl
theorem LX {α:Type} {l:List α} {h:Nat}:cut l (0,h)=l.take h:=by simp [cut]
theorem QfD {i j:Nat} (hi:i<8) (hj:j<8) (h:i≠j):(nmN i == nmN j)=false:=by
 have:∀ i j:Fin 8,i≠j->(nmN i.val == nmN j.val)=false:=by decide
 exact this ⟨i,hi⟩ ⟨j,hj⟩ (by intro e;exact h (by simpa using e))
theorem Qhy {i:Nat} (hi:i<8):KN 400 (nmN i) (some:Bool->Option Bool)=some true:=by
 obtain rfl | rfl | rfl | rfl | rfl | rfl | rfl | rfl:i=0\/i=1\/i=2\/i=3\/i=4\/i=5\/i=6\/i=7:=by omega
 all_goals kernel_rfl
section
variable {Sk Ch Tu Sy De:LL} {per:Int}
theorem Q3v {G:Geo} {Ro Ls:LL} {c:Nat} (hg:GoodP G Ro Ls) (hc:c<8) (hl:c<Ls.length):Qq 400 (cut Ls (0,c)) (nmN c) some=some false:=by
 have aj:(cut Ls (0,c)).length=c:=by rw [LX];simp;omega
 unfold Qq QU;rw [aj];refine (congrArg (fun E=>gb true E 0 fun a=>some (decide (a>=(0:Int)))) (a₂:=some (-1)) (Qm (r:=fun m h=>Qc 400 (cut Ls (0,c)) ((c:Nat):Int) (nmN c) _ _ m h) (N:=c) (fun m h hh=>?_) (fun m=>?_) c 400 0 (by omega) (by omega))).trans rfl
 ·obtain ⟨w,ac,e,_,_⟩:=C4 hg (show h<Ls.length by omega);have e':(cut Ls (0,c))[h]? = some [D.str (nmN h),Q4 0,Q4 w,D.sl 4 ac]:=by rw [LX,List.getElem?_take_of_lt hh,e]
  rw [Qc,Q8 hh,Q9,e'];simp -implicitDefEqProofs only [Q0,List.getElem?_cons_zero,List.getElem?_cons_succ,Q2,Xw,Qw,Qle,Qlc,Qlg,Qlf,ZW,QfD (show h<8 by omega) hc (by omega),Ql (show h<=1000 by omega)]
 ·rw [Qc,Qi,Qlc]
theorem Q5O {G:Geo} (hG:G.OK) {Ro Ls rides:LL} {nm:List UInt8} {w:Int} {i:Nat} {r:List D} {x y:Int} {b:Bool} (p0:90<=per) (p1:per<=300) (ao:Q1i Sk) (hr:rides[i]? = some r) (hR:Pg G Ro r x y b) (hb:i+1=rides.length->b=true) (hl:rides.length<=2)
  (aj:∀ j,j+1=i->∃ r' x' b',rides[j]? = some r'/\Pg G Ro r' x' x b'):JN 400 G.St G.Pt G.Se G.Li per Sk Ro Ls Ch Tu Sy De nm 0 w rides (i:Int) (some:Int->Option Int)=some 0:=by
 obtain ⟨rt,ex,mn,mx,s,rfl,ac,hs,⟨h,k⟩,⟨e,f,l,m⟩,hlast⟩:=hR;obtain ⟨a,v,c,d,rfl,hk⟩:=ao;have a3:rt<Ro.length:=(Qlh.1 ac).1;have hi:i<rides.length:=(Qlh.1 hr).1;have ak:(bif ((i:Int) == (wJ (((List.length rides:Nat):Int)-(1:Int)))) then (bif (mn != (0:Int)) then true else (mx != (0:Int))) else false)=false:=by
  by_cases g:i+1=rides.length
  ·obtain ⟨rfl,rfl⟩:=hlast (hb g);rw [show ((0:Int) != 0)=false from rfl];cases ((i:Int) == (wJ (((List.length rides:Nat):Int)-(1:Int)))) <;> rfl
  ·rw [Q6 (by omega) (by omega),show ((i:Int) == ((rides.length:Nat):Int)-1)=false by simp;omega];rfl
 unfold JN;rw [Q9,hr];simp -implicitDefEqProofs only [Q0,List.getElem?_cons_zero,List.getElem?_cons_succ,Q2,Xw,Qw,Qle,Qlc,Qlg,Qlf,jn,show decide ((rt:Int)<0)=false by simp,show decide ((rt:Int)>=((Ro.length:Nat):Int))=false by simp;omega,show decide (ex<0)=false by simp;omega,show decide (ex>=per)=false by simp;omega,Q55 e f (show mx<mn+per by omega) (by omega) p1,ak,Q9,ac,show Q1 [[D.str (bs [88]),Q4 a,Q4 v,Q4 c,Q4 d]] (0:Int)=some [D.str (bs [88]),Q4 a,Q4 v,Q4 c,Q4 d] from rfl,Qe4 hG.lay rfl hs.l2 hs.l24 hs.rt hs.st hk,show ((0:Int) != 0)=false from rfl];cases i with
 |zero=>
  rw [show decide (((0:Nat):Int)>0)=false from rfl];simp only [gbF,Qlc]
 |succ j=>
  obtain ⟨r',x',b',au,aw⟩:=aj j rfl;obtain ⟨az,ax,ay,a4,s',rfl,an,ar,_⟩:=aw;simp -implicitDefEqProofs only [Q0,List.getElem?_cons_zero,List.getElem?_cons_succ,Q2,Xw,Qw,Qle,Qlc,Qlg,Qlf,show decide (((j+1:Nat):Int)>0)=true by simp,Q5d ac hs,show wJ (((j+1:Nat):Int)-1)=(j:Int) by rw [Q6 (by omega) (by omega)];omega,Q9,au,Qa4 an ar,show (x != x)=false by simp]
theorem QbE {G:Geo} (hG:G.OK) {Ro Ls rides:LL} {nm:List UInt8} {w:Int} (p0:90<=per) (p1:per<=300) (ac:Q1i Sk) (h:Q3E G Ro rides):(rides.length=1\/rides.length=2)/\∀ i,i<rides.length->JN 400 G.St G.Pt G.Se G.Li per Sk Ro Ls Ch Tu Sy De nm 0 w rides (i:Int) (some:Int->Option Int)=some 0:=by
 rcases h with ⟨r,x,y,rfl,h⟩ | ⟨r,r',x,y,z,rfl,h,h'⟩
 ·refine ⟨.inl rfl,fun i hi=>?_⟩;have hi:i=0:=by simpa using hi
  subst hi;exact Q5O hG p0 p1 ac rfl h (fun _=>rfl) (by simp) fun j hj=>by omega
 ·refine ⟨.inr rfl,fun i hi=>?_⟩;obtain rfl | rfl:i=0\/i=1:=by simp at hi;omega
  ·exact Q5O hG p0 p1 ac rfl h (fun h=>by simp at h) (by simp) fun j hj=>by omega
  ·refine Q5O hG p0 p1 ac rfl h' (fun _=>rfl) (by simp) fun j hj=>?_
   have hj:j=0:=by omega
   subst hj;exact ⟨r,x,false,rfl,h⟩
end
theorem Qez {R:Type} {G:Geo} {Sk Ro Ls Ch Tu Sy De:LL} {per:Int} (h:PlanR G per Sk Ro Ls Ch Tu Sy De) (K:Int->oP R):Vh 400 G.St G.Pt G.Se G.Li per Sk Ro Ls Ch Tu Sy De K=K 0:=by
 have l1:=h.l1;obtain ⟨_,_,_,_,ao,_⟩:=h.sk;have ak:Sk.length=1:=by rw [ao];rfl
 unfold Vh;refine Qm (r:=fun m h=>ZI 400 Ls ((Ls.length:Nat):Int) G.St G.Pt G.Se G.Li per Sk Ro Ls Ch Tu Sy De _ _ m h) (N:=Ls.length) (fun m k hk=>?_) (fun m=>?_) Ls.length 400 0 (by omega) (by omega)
 ·obtain ⟨w,rides,e,w0,a,ac⟩:=h.good.ls k _ (Qld hk);obtain ⟨an,aj⟩:=QbE (Ls:=Ls) (Ch:=Ch) (Tu:=Tu) (Sy:=Sy) (De:=De) (nm:=nmN k) (w:=w) h.ok h.p0 h.p1 h.sk ac;rw [ZI,Q8 hk,Q9,Qld hk,e];simp -implicitDefEqProofs only [Q0,List.getElem?_cons_zero,List.getElem?_cons_succ,Q2,Xw,Qw,Qle,Qlc,Qlg,Qlf,Qhy (show k<8 by omega),Q2h (Nat.le_of_lt hk),Q3v h.good (show k<8 by omega) hk,jn,show decide ((0:Int)<0)=false from rfl,ak,show decide ((0:Int)>=((1:Nat):Int))=false from rfl,Q8D w0 (show w<=1000 by omega),show (((rides.length:Nat):Int) == 0)=false by simp;intro hx;simp [hx] at an];refine (Qm (r:=fun m h=>ZJ 400 ((rides.length:Nat):Int) G.St G.Pt G.Se G.Li per Sk Ro Ls Ch Tu Sy De (nmN k) 0 w rides _ _ m h) (N:=rides.length) (fun m i hi=>?_) (fun m=>?_) rides.length 400 0 (by omega) (by omega))
  ·rw [ZJ,Q8 hi];simp -implicitDefEqProofs only [Q0,List.getElem?_cons_zero,List.getElem?_cons_succ,Q2,Xw,Qw,Qle,Qlc,Qlg,Qlf,aj i hi,show ((0:Int) != 0)=false from rfl,Ql (show i<=1000 by omega)]
  ·rw [ZJ,Qi,Qlc,Ql (by omega)]
 ·rw [ZI,Qi,Qlc]
theorem Mt {α:Type} {l:List α} (h:l.Nodup) {i:Nat} (hi:i<l.length):∀ x∈l.take i,x≠l[i]:=by
 intro x hx e;subst e;obtain ⟨j,hj,e⟩:=List.getElem_of_mem hx;simp at hj;rw [List.getElem_take] at e;have:=(List.nodup_iff_pairwise_ne.1 h);have:=List.pairwise_iff_getElem.1 this j i (by omega) hi (by omega);exact this e
theorem Q4B {a b:Int} {T:List Tup} (ht:∀ t∈T,(t.1:Int)≠a/\(t.2.1:Int)≠b) (hl:T.length<=30):Qo 400 (T.map tuR) a b some=some false:=by
 have ac:(T.map tuR).length=T.length:=by simp
 unfold Qo QV;rw [ac];refine (congrArg (fun E=>gb true E 0 fun c=>some (decide (c>=(0:Int)))) (a₂:=some (-1)) (Qm (r:=fun m h=>Qd 400 (T.map tuR) ((T.length:Nat):Int) a b _ _ m h) (N:=T.length) (fun m h hh=>?_) (fun m=>?_) T.length 400 0 (by omega) (by omega))).trans rfl
 ·have e:(T.map tuR)[h]? = some (tuR T[h]):=by rw [Qls,Qld hh];rfl
  obtain ⟨d,f⟩:=ht _ (Qll hh);rw [Qd,Q8 hh,Q9,e];simp -implicitDefEqProofs only [Q0,List.getElem?_cons_zero,List.getElem?_cons_succ,Q2,Xw,Qw,Qle,Qlc,Qlg,Qlf,tuR,ZT,show ((T[h].1:Int) == a)=false by simpa using d,show ((T[h].2.1:Int) == b)=false by simpa using f,Ql (show h<=1000 by omega)]
 ·rw [Qd,Qi,Qlc]
section
variable {R:Type} {G:Geo} {Sk Ro Ls Ch Tu Sy De:LL} {per:Int} (h:PlanR G per Sk Ro Ls Ch Tu Sy De)
include h
theorem Qbq (K:Int->oP R):WF 400 G.St G.Pt G.Se G.Li per Sk Ro Ls Ch Tu Sy De K=K 0:=by
 have l2:=h.chl;have p1:=h.p1;unfold WF;refine Qm (r:=fun m h=>YU 400 Ch ((Ch.length:Nat):Int) G.Se per Sk Ro Ls Ch Tu Sy De _ _ m h) (N:=Ch.length) (fun m k hk=>?_) (fun m=>?_) Ch.length 400 0 (by omega) (by omega)
 ·obtain ⟨f,fr,t,tr,mn,mx,w,r,r',x,y,x',y',b,b',i,e,hr,ac,hR,ar,a4,⟨a,j,c,d⟩,⟨w0,l⟩,⟨o,a1,c1,d1,g1⟩,⟨p,a2,q,u,g⟩,hi⟩:=h.ch _ (Qll hk);have hb:=B6 (R:=Bool) (per:=per) (Sk:=Sk) (Ro:=Ro) (Ch:=Ch) (Tu:=Tu) (Sy:=Sy) (De:=De) (n:=400) hr;have au:=B6 (R:=Bool) (per:=per) (Sk:=Sk) (Ro:=Ro) (Ch:=Ch) (Tu:=Tu) (Sy:=Sy) (De:=De) (n:=400) ac;obtain ⟨nm,v,rides,e1,e2⟩:=hr;obtain ⟨a6,v',ak,aw,an⟩:=ac;obtain ⟨rt,ex,rn,rx,s,rfl,aq,hs,_⟩:=hR;obtain ⟨ay,ax,a5,az,s',rfl,aj,ao,_⟩:=ar;rw [YU,Q8 hk,Q9,Qld hk,e];simp -implicitDefEqProofs only [Q0,List.getElem?_cons_zero,List.getElem?_cons_succ,Q2,Xw,Qw,Qle,Qlc,Qlg,Qlf,hb,au,Q55 a c d (show mn<=1000 by omega) p1,Q8D w0 (show w<=1000 by omega),show ((f:Int) == (t:Int))=false by simp;omega,Q9,e1,e2,aw,an,Qa4 aq hs,Q5d aj ao,g1,g,show (i == (-1:Int))=false by simp;omega,show (i != i)=false by simp,Ql (show k<=1000 by omega)]
 ·rw [YU,Qi,Qlc]
theorem Qf7 (K:Int->oP R):Vg 400 G.St G.Pt G.Se G.Li per Sk Ro Ls Ch Tu Sy De K=K 0:=by
 obtain ⟨T,hT,t1,t2,a,o⟩:=h.tu;have hl:Tu.length=T.length:=by rw [hT];simp
 have p0:=h.p0;have p1:=h.p1;unfold Vg;rw [hl];refine Qm (r:=fun m h=>ZQ 400 Tu ((T.length:Nat):Int) per Sk Ro Ls Ch Tu Sy De _ _ m h) (N:=T.length) (fun m k hk=>?_) (fun m=>?_) T.length 400 0 (by omega) (by omega)
 ·have e:Tu[k]? = some (tuR T[k]):=by rw [hT,Qls,Qld hk];rfl
  obtain ⟨c,u2,u3,p,d,q,nm,w,rides,r,r',x,y,z,b,b',e1,e2,u,v,⟨a4,w',ac,f,g⟩,hR,aw⟩:=t1 _ (Qll hk);obtain ⟨rt,ex,rn,rx,s,rfl,ar,hs,_⟩:=hR;obtain ⟨ax,aq,az,ay,s',rfl,an,ao,_⟩:=aw;have aj:cut Tu (0,k)=(T.take k).map tuR:=by rw [LX,hT,List.map_take]
  have ak:∀ t∈T.take k,(t.1:Int)≠(T[k].1:Int)/\(t.2.1:Int)≠(T[k].2.1:Int):=by
   intro t ht;have j:=Mt t2 (i:=k) (by simpa using hk) t.1 (by rw [<- List.map_take];exact List.mem_map_of_mem ht);have h2:=Mt a (i:=k) (by simpa using hk) t.2.1 (by rw [<- List.map_take];exact List.mem_map_of_mem ht);rw [List.getElem_map] at j h2;exact ⟨by omega,by omega⟩
  rw [ZQ,Q8 hk,Q9,e];simp -implicitDefEqProofs only [Q0,List.getElem?_cons_zero,List.getElem?_cons_succ,Q2,Xw,Qw,Qle,Qlc,Qlg,Qlf,tuR,Q2K c,Q2K u2,Q55 (Sk:=Sk) (Ro:=Ro) (Ls:=Ls) (Ch:=Ch) (Tu:=Tu) (Sy:=Sy) (De:=De) (n:=400) (show 0<=T[k].2.2.1 by omega) d (show T[k].2.2.2<T[k].2.2.1+per by omega) (by omega) p1];rw [hl,Q2h (by omega),Q0,aj,Q4B ak (by simp;omega)];have hw:wJ (((rides.length:Nat):Int)-1)=((rides.length-1:Nat):Int):=by rw [Q6 (by omega) (by omega)];omega
  have l:Q1 ac (0:Int)=some [Q4 ax,Q4 aq,Q4 az,Q4 ay]:=(Q9 ac 0).trans g;simp -implicitDefEqProofs only [Q0,List.getElem?_cons_zero,List.getElem?_cons_succ,Q2,Xw,Qw,Qle,Qlc,Qlg,Qlf,Q9,e1,f,hw,e2,l,Qa4 ar hs,Q5d an ao,show (y != y)=false by simp,show ((0:Int) != 0)=false from rfl,Ql (show k<=1000 by omega)]
 ·rw [ZQ,Qi,Qlc]
theorem Qdi (K:Int->oP R):Vd 400 G.St G.Pt G.Se G.Li per Sk Ro Ls Ch Tu Sy De K=K 0:=by
 unfold Vd Q9Q;rw [Qg6 h,QdS h.sk,QcQ h,Qez h,Qbq h,Qf7 h,Qg2 h,Qbd h];rfl
end
section
variable {R:Type} {n:Nat}
theorem Q4Q {x lo hi:Int} (a:lo<=x) (b:x<=hi) (K:Bool->oP R):HM n x lo hi K=K true:=inT (n:=n) a b K
theorem Q4R {x lo hi:Int} (a:lo<=x) (b:x<=hi) (K:Bool->oP R):VT n x lo hi K=K true:=inT (n:=n) a b K
theorem QeY {a b g:Int} {acc:LL} (c:0<=a) (d:a<=12) (hc:acc.length<=1000) {k0:Int->Bool->LL->oP R} {m:Nat} (hm:12<m):Up n g (Q4 a) (Q4 b) k0 m 0 acc=k0 a false (acc++List.replicate a.toNat [Q4 b,Q4 g]):=by
 have hl:∀ h:Nat,(acc++List.replicate h [Q4 b,Q4 g]).length=acc.length+h:=fun h=>by simp
 have:=Qm (r:=fun m h=>Up n g (Q4 a) (Q4 b) k0 m h (acc++List.replicate h.toNat [Q4 b,Q4 g])) (N:=a.toNat) (e:=k0 a false (acc++List.replicate a.toNat [Q4 b,Q4 g])) (fun m h hh=>?_) (fun m=>?_) a.toNat m 0 (by omega) (by omega)
 ·simpa using this
 ·simp only [Int.toNat_natCast];rw [Up,Q2,Q0,QZ (by simp;omega),Q2,Q0,hl,Xr (by simp only [Qlt,Qlw];omega),Q0,Ql (by omega),List.append_assoc,<- List.replicate_succ']
 ·rw [Up,Q2,Q0,Qa (by simp;omega)];simp only [Int.toNat_natCast];rw [show ((a.toNat:Nat):Int)=a by omega];simp
theorem Qg9 {Se s:LL} {k0:Int->Bool->LL->oP R} (hs:∀ row∈s,Ct Se row) (hl:s.length<=30) {m:Nat} (hm:s.length<m) (hn:12<n):Uy n Se s 0 k0 m 0 []=k0 ((s.length:Nat):Int) false (Yo Se s):=by
 have hc:=fun h:Nat=>(PZ (s:=s.take h) fun r hr=>hs r (List.mem_of_mem_take hr)).1
 have hw:wJ (((s.length:Nat):Int)-0)=((s.length:Nat):Int):=by rw [Q6 (by omega) (by omega)];omega
 refine Qm (r:=fun m h=>Uy n Se s 0 k0 m h (Yo Se (s.take h.toNat))) (N:=s.length) (fun m h hh=>?_) (fun m=>?_) s.length m 0 (by omega) hm
 ·have e:=Qld hh;obtain ⟨x,d,nm,a,b,c,st,hx,ac,f,hd⟩:=hs _ (Qll hh);rw [hx] at e;have a0:=f.a0;have a1:=f.a1;have ak:=hc h;simp only [List.length_take] at ak;simp only [Int.toNat_natCast,Mz e,Hz ac];rw [Uy,hw,Q8 hh];simp -implicitDefEqProofs only [Q0,List.getElem?_cons_zero,List.getElem?_cons_succ,Q2,Xw,Qw,Qle,Qlc,Qlg,Qlf,Q9,e,ac,QeY (n:=n) (b:=b) (acc:=Yo Se (s.take h)) (show 0<=a by omega) a1 (by omega) hn,Ql (show h<=1000 by omega)];rw [Q6 (x:=0-c) (by have:=f.c1;omega) (by have:=f.c0;omega),Int.zero_sub];cases g:d == (1:Int) <;> rfl
 ·simp only [Int.toNat_natCast];rw [Uy,hw,Qi,Qlc,QlA]
end
structure RtF (St Pt Se Li s:LL):Prop where
 lay:TU 400 St Pt Se Li=true
 ref:QaI St Pt Se Li=true
 l2:2<=s.length
 l24:s.length<=24
 rt:rtB Se.length Li s=true
 rt6:QgB Se.length Li s=true
 hops:Q0h Se.length Pt.length Li 0 s=true
 st:∀ r∈s,Ct Se r
theorem RtOK.f {G:Geo} (hG:G.OK) {s:LL} {x y:Int} (h:RtOK G s x y):RtF G.St G.Pt G.Se G.Li s:=⟨hG.lay,hG.ref,h.l2,h.l24,h.rt,h.rt6,h.hops,h.st⟩
section
variable {St Pt Se Li s:LL} (h:RtF St Pt Se Li s)
include h
theorem Q9D:Si 400 St Pt Se Li s 0 Tu3=some (Yo Se s,Tt Se s,0):=by
 have l2:=h.l2;have l24:=h.l24;have hl:=(PZ h.st).1;obtain ⟨row,rest,rfl⟩:∃ row rest,s=row::rest:=by
  cases s with
  |nil=>simp at l2
  |cons a b=>exact ⟨a,b,rfl⟩
 obtain ⟨x,d,nm,a,b,c,st,rfl,hs,_,_⟩:=h.st row (by simp);have hf:Tt Se ([Q4 x,Q4 d]::rest)=a:=by simp only [Tt,hs]
 generalize hS:[Q4 x,Q4 d]::rest=s at *
 unfold Si;rw [Q4F h.ref rfl h.l2 h.l24 h.rt6,Q0,Qa (by decide),Qg9 h.st (by omega) (by omega) (by decide),Qa (by simp;omega),show Q1 s (0:Int)=some [Q4 x,Q4 d] by rw [<- hS];rfl];simp -implicitDefEqProofs only [Q0,List.getElem?_cons_zero,List.getElem?_cons_succ,Q2,Xw,Qw,Qle,Qlc,Qlg,Qlf,hs,hf]
theorem Q9X {nm:List UInt8} {tl sp ac br:Int} (hk:StkN tl sp ac br):SH 400 St Pt Se Li s 0 nm tl sp ac br (some:Int->Option Int)=some 0:=by
 have l24:=h.l24;have hw:wJ (((s.length:Nat):Int)-0)=((s.length:Nat):Int):=by rw [Q6 (by omega) (by omega)];omega
 have ak:Y4 400 nm tl sp ac br (some:Bool->Option Bool)=some true:=by
  obtain ⟨t1,t2,s1,s2,a1,a2,b1,b2⟩:=hk;unfold Y4;simp -implicitDefEqProofs only [Q0,List.getElem?_cons_zero,List.getElem?_cons_succ,Q2,Xw,Qw,Qle,Qlc,Qlg,Qlf,Q4Q t1 (show tl<=40 by omega),Q4Q (show 1000<=sp by omega) (show sp<=100000 by omega),Q4Q (show 100<=ac by omega) (show ac<=2000 by omega),Q4Q (show 100<=br by omega) (show br<=2000 by omega)]
 unfold SH;rw [Q9D h,Q0,Qa (by rfl),ak,Q0,Qa (by decide)];refine Qm (r:=fun m h=>Gm 400 Se s 0 tl _ _ m h) (N:=s.length) (fun m k e=>?_) (fun m=>?_) s.length 400 0 (by omega) (by omega)
 ·obtain ⟨x,d,an,a,b,c,st,hx,aj,hn,_⟩:=h.st _ (Qll e);have a0:=hn.a0;have t2:=hk.t2;rw [Gm,hw,Q8 e,Q9,Qld e,hx];simp -implicitDefEqProofs only [Q0,List.getElem?_cons_zero,List.getElem?_cons_succ,Q2,Xw,Qw,Qle,Qlc,Qlg,Qlf,aj,show decide (a<if 2<tl then tl else 2)=false by simp;split <;> omega,Ql (show k<=1000 by omega)]
 ·rw [Gm,hw,Qi,Qlc]
end
def Qbs (x r:Int):Prop:=0<=r/\r*r<=x/\x<(r+1)*(r+1)
theorem Q5b {a b:Int} (c:0<=a) (h:a<=b):a*a<=b*b:=Int.mul_le_mul h h c (by omega)
theorem Q3Y {x r s:Int} (h:Qbs x r) (g:Qbs x s):r=s:=by
 obtain ⟨a0,a1,a2⟩:=h;obtain ⟨b0,b1,b2⟩:=g;rcases Int.lt_trichotomy r s with h | h | h
 ·have:=Q5b (show 0<=r+1 by omega) (show r+1<=s by omega);omega
 ·exact h
 ·have:=Q5b (show 0<=s+1 by omega) (show s+1<=r by omega);omega
theorem Q9e {x r b:Int} (c:0<=r) (hb:0<=b) (h:r*r<=x) (hx:x<(b+1)*(b+1)):r<=b:=by
 by_cases a:r<=b
 ·exact a
 ·have:=Q5b (show 0<=b+1 by omega) (show b+1<=r by omega);omega
theorem Qj1 {a:Int} (b:0<=a) (c:a<=9223372036854775807):shR .i64 a 1=a / 2:=by
 show a.fdiv 2=a / 2;exact Int.fdiv_eq_ediv_of_nonneg a (by decide)
theorem Qgm {R:Type} {n:Nat} {x:Int} (a:0<=x) (hx:x<=1000000000) {k0:Int->Int->Bool->oP R}:∀ (k m:Nat) (ac:Int),k<=31->k+1<m->0<=ac->ac*ac<=x->x<(ac+2 ^ (k+1))*(ac+2 ^ (k+1)) ->
  ∃ r,Qbs x r/\Vz n x k0 m ac (2 ^ k)=k0 r 0 false
 |k,m+1,ac,hk,hm,b,c,d=>by
  have hr:ac<=40000:=Q9e b (by decide) c (by omega);have hp:∀ j:Nat,(1:Int)<=2 ^ j:=fun j=>by
   have:=Int.ofNat_le.2 (Nat.two_pow_pos j);rw [Int.natCast_pow] at this;exact this
  have f:(2:Int) ^ k<=2147483648:=by
   have:=Int.ofNat_le.2 (Nat.le_trans (Nat.pow_le_pow_right (show 0<2 by decide) hk) (show 2 ^ 31<=2147483648 by decide));rw [Int.natCast_pow] at this;exact this
  have g:=hp k;have hw:wJ (ac+2 ^ k)=ac+2 ^ k:=Q6 (by omega) (by omega);have hs:(2:Int) ^ (k+1)=2 ^ k+2 ^ k:=by rw [Int.pow_succ];omega
  have ak:Int.tdiv x (ac+2 ^ k)=x / (ac+2 ^ k):=Qly a;have i:0<=x / (ac+2 ^ k):=Int.ediv_nonneg a (by omega);have l:x / (ac+2 ^ k)<=x:=Int.ediv_le_self _ a;have e:wJ (Int.tdiv x (ac+2 ^ k))=x / (ac+2 ^ k):=by rw [ak,Q6 (by omega) (by omega)]
  have aj:(ac+2 ^ k<=x / (ac+2 ^ k))↔(ac+2 ^ k)*(ac+2 ^ k)<=x:=Int.le_ediv_iff_mul_le (by omega);have step:∀ r:Int,0<=r->r*r<=x->x<(r+2 ^ k)*(r+2 ^ k)->∃ r',Qbs x r'/\Vz n x k0 m r (shR .i64 (2 ^ k) 1)=k0 r' 0 false:=by
   intro r a0 a1 a2;rw [Qj1 (by omega) (by omega)];cases k with
   |zero=>
    refine ⟨r,⟨a0,a1,by simpa using a2⟩,?_⟩;obtain ⟨m,rfl⟩:∃ m',m=m'+1:=⟨m-1,by omega⟩;rfl
   |succ k=>
    rw [show (2:Int) ^ (k+1) / 2=2 ^ k by rw [Int.pow_succ,Int.mul_ediv_cancel _ (by decide)]];exact Qgm a hx k m r (by omega) (by omega) a0 a1 a2
  rw [Vz,QZ (by simp;omega),hw,Ek (by omega),Q0,e];by_cases h:(ac+2 ^ k)*(ac+2 ^ k)<=x
  ·rw [QZ (by simpa using aj.2 h)];exact step _ (by omega) h (by rw [Int.add_assoc,<- hs];exact d)
  ·rw [Qa (by simpa using fun h'=>h (aj.1 h'))];exact step ac b c (by omega)
theorem QhK {x:Int} (a:0<=x) (hx:x<=1000000000):∃ r,Qbs x r/\Sm 400 x (some:Int->Option Int)=some r:=
 Qgm a hx 31 400 0 (by decide) (by decide) (by decide) (by simpa using a) (by omega)
theorem QdA {R:Type} {n:Nat} {x:Int} (a:0<=x) (hx:x<=1000000000) {k0:Int->Int->Bool->oP R}:∀ (k m:Nat) (lo hi:Int),k<m->0<=lo->lo<=hi->hi<=3037000499->hi-lo<2 ^ k->lo*lo<=x->x<(hi+1)*(hi+1) ->
  ∃ r,Qbs x r/\J5 n x k0 m lo hi=k0 r r false
 |k,m+1,lo,hi,hm,l0,l1,l2,hk,b,c=>by
  by_cases h:lo<hi
  ·obtain ⟨k,rfl⟩:∃ k',k=k'+1:=by
    cases k with
    |zero=>simp at hk;omega
    |succ k=>exact ⟨k,rfl⟩
   have hs:(2:Int) ^ (k+1)=2 ^ k+2 ^ k:=by rw [Int.pow_succ];omega
   have e:wJ (Int.tdiv (wJ ((wJ (lo+hi))+(1:Int))) (2:Int))=(lo+hi+1) / 2:=by
    rw [Q6 (x:=lo+hi) (by omega) (by omega),Q6 (x:=lo+hi+1) (by omega) (by omega),Qly (by omega),Q6 (by omega) (by omega)]
   rw [J5,QZ (by simpa using h),Ek (by decide),Q0,e];have ac:lo<(lo+hi+1) / 2/\(lo+hi+1) / 2<=hi:=by omega
   generalize hM:(lo+hi+1) / 2=mid at *
   have aj:=Q5b (show 0<=mid by omega) (show mid<=3037000499 by omega);have d:=Int.mul_nonneg (show 0<=mid by omega) (show 0<=mid by omega);rw [Q6 (x:=mid*mid) (by omega) (by omega)];by_cases hq:mid*mid<=x
   ·rw [QZ (by simpa using hq)];exact QdA a hx k m mid hi (by omega) (by omega) (by omega) l2 (by omega) hq c
   ·rw [Qa (by simpa using hq),Q6 (by omega) (by omega)];exact QdA a hx k m lo (mid-1) (by omega) l0 (by omega) (by omega) (by omega) b (by rw [Int.sub_add_cancel];omega)
  ·obtain rfl:lo=hi:=by omega
   rw [J5,Qa (by simp)];exact ⟨lo,⟨l0,b,c⟩,by simp⟩
theorem Qhd {x r:Int} (a:0<=x) (hx:x<=1000000000) (hr:Qbs x r):Mh 400 x (some:Int->Option Int)=some r:=by
 unfold Mh;by_cases h:x<=0
 ·rw [QZ (by simpa using h)];have:Qbs x 0:=⟨by decide,by omega,by omega⟩;rw [Q3Y hr this]
 ·rw [Qa (by simpa using h)];obtain ⟨r',b,h2⟩:=QdA (R:=Int) (n:=400) (k0:=fun w _ _=>some w) a hx 32 400 0 3037000499 (by decide) (by decide) (by decide) (by decide) (by decide) (by omega) (by omega);rw [Q3Y hr b];exact h2
def cl (C:LL) (k:Nat):Int × Int:=match C[k]? with
 |some [.int _ b,.int _ g]=>(b,g)
 |_=>(0,0)
structure CellsOK (C:LL):Prop where
 row:∀ k,k<C.length->C[k]? = some [Q4 (cl C k).1,Q4 (cl C k).2]
 b0:∀ k,k<C.length->5000<=(cl C k).1
 b1:∀ k,k<C.length->(cl C k).1<=35000
 g0:∀ k,k<C.length -> -10<=(cl C k).2
 g1:∀ k,k<C.length->(cl C k).2<=10
 len:C.length<=300
theorem Q8K {Se:LL}:∀ {s:LL},(∀ row∈s,Ct Se row)->s.length<=24->CellsOK (Yo Se s):=by
 intro s h hl;have hm:∀ r∈Yo Se s,∃ b g:Int,r=[Q4 b,Q4 g]/\5000<=b/\b<=35000 /\ -10<=g/\g<=10:=by
  intro r hr;obtain ⟨row,f,h2⟩:=List.mem_flatMap.1 hr;obtain ⟨x,d,nm,a,b,c,st,rfl,hs,hn,_⟩:=h _ f;rw [Hz hs] at h2;have i:=List.eq_of_mem_replicate h2;have c0:=hn.c0;have c1:=hn.c1;refine ⟨_,_,i,hn.b0,hn.b1,?_⟩;cases (d == (1:Int))
  ·exact ⟨c0,c1⟩
  ·show -10 <= -c /\ -c<=10;omega
 have hat:∀ k,k<(Yo Se s).length->(Yo Se s)[k]? = some [Q4 (cl (Yo Se s) k).1,Q4 (cl (Yo Se s) k).2]/\5000<=(cl (Yo Se s) k).1/\(cl (Yo Se s) k).1<=35000 /\ -10<=(cl (Yo Se s) k).2/\(cl (Yo Se s) k).2<=10:=by
  intro k hk;obtain ⟨b,g,e,f⟩:=hm _ (Qll hk);have e2:(Yo Se s)[k]? = some [Q4 b,Q4 g]:=by rw [Qld hk,e]
  simp only [cl,e2];exact ⟨trivial,f⟩
 have:=(PZ h).1;exact ⟨fun k hk=>(hat k hk).1,fun k hk=>(hat k hk).2.1,fun k hk=>(hat k hk).2.2.1,fun k hk=>(hat k hk).2.2.2.1,fun k hk=>(hat k hk).2.2.2.2,by omega⟩
def Qa3 (v:Int) (r:List D):Int:=match r with
 |.int _ b::_=>if b<v then b else v
 |_=>v
def win (C:LL) (k t:Nat):LL:=(C.drop (k-t)).take (k+1-(k-t))
def Q7R (C:LL) (sp:Int) (k t:Nat):Int:=(win C k t).foldl Qa3 sp
theorem Qan {C:LL} (hC:CellsOK C) {k t i:Nat} (hk:k<C.length) (hi:i<k+1-(k-t)):(win C k t)[i]? = some [Q4 (cl C (k-t+i)).1,Q4 (cl C (k-t+i)).2]:=by
 unfold win;rw [List.getElem?_take_of_lt hi,List.getElem?_drop,hC.row _ (by omega)]
theorem Q5S {C:LL} {k t:Nat} (hk:k<C.length):(win C k t).length=k+1-(k-t):=by
 unfold win;simp;omega
theorem Qb0 {C:LL} (hC:CellsOK C) {sp:Int} {k t:Nat} (hk:k<C.length) (d:10000<=sp) (c:sp<=25000):5000<=Q7R C sp k t/\Q7R C sp k t<=25000:=by
 have hm:∀ r∈win C k t,∃ b g:Int,r=[Q4 b,Q4 g]/\5000<=b:=by
  intro r hr;obtain ⟨i,hi,rfl⟩:=List.getElem_of_mem hr;have aj:=hi;rw [Q5S hk] at aj;have e:=Qan hC hk aj;rw [Qld hi] at e;injection e with e
  exact ⟨_,_,e,hC.b0 _ (by omega)⟩
 unfold Q7R;revert hm;generalize win C k t=L;intro hm;have:∀ (L:LL) (v:Int),(∀ r∈L,∃ b g:Int,r=[Q4 b,Q4 g]/\5000<=b)->5000<=v->v<=25000->5000<=L.foldl Qa3 v/\L.foldl Qa3 v<=25000:=by
  intro L;induction L with
  |nil=>exact fun v _ a b=>⟨a,b⟩
  |cons r L ih=>
   intro v h a b;obtain ⟨x,g,rfl,hx⟩:=h _ (List.mem_cons_self ..);refine ih _ (fun r hr=>h r (List.mem_cons_of_mem _ hr)) ?_ ?_
   ·show 5000<=if x<v then x else v
    split <;> omega
   ·show (if x<v then x else v)<=25000;split <;> omega
 exact this L sp hm (by omega) c
section
variable {C:LL} (hC:CellsOK C) {nm:List UInt8} {sp ac br:Int} {t k:Nat} (ht:t<=40)
include hC ht
omit hC in
theorem QeT (hk:k<=1000):(if (0:Int)<(wJ ((k:Int)-(t:Int))) then (wJ ((k:Int)-(t:Int))) else (0:Int))=((k-t:Nat):Int):=by
 rw [Q6 (by omega) (by omega)];split <;> omega
theorem QiI (hk:k<C.length):JR 400 C (k:Int) nm (t:Int) sp ac br (some:Int->Option Int)=some (Q7R C sp k t):=by
 have hl:=hC.len;unfold JR;rw [QeT ht (by omega),Ql (by omega)];have hs:slB C.length (some ((k-t:Nat):Int)) (some ((k+1:Nat):Int))=some (k-t,k+1):=by
  unfold slB;rw [show (decide ((0:Int)<=(some ((k-t:Nat):Int)).getD 0)&&(decide ((some ((k-t:Nat):Int)).getD 0<=(some ((k+1:Nat):Int)).getD (C.length:Int))&&decide ((some ((k+1:Nat):Int)).getD (C.length:Int)<=(C.length:Int))))=true by simp;omega];rfl
 rw [hs,Q0,show cut C (k-t,k+1)=win C k t from rfl];have hw:=Q5S (t:=t) hk;refine (Qm (r:=fun m h=>WH 400 (win C k t) (((win C k t).length:Nat):Int) _ m (((win C k t).take h.toNat).foldl Qa3 sp) h) (N:=(win C k t).length) (fun m h hh=>?_) (fun m=>?_) (win C k t).length 400 0 (by omega) (by omega))
 ·have e:=Qan hC hk (show h<k+1-(k-t) by omega);simp only [Int.toNat_natCast];rw [WH,Q8 hh,Q9,e,Yn e,List.foldl_append];simp -implicitDefEqProofs only [Q0,List.getElem?_cons_zero,List.getElem?_cons_succ,Q2,Xw,Qw,Qle,Qlc,Qlg,Qlf,Ql (show h<=1000 by omega)];rfl
 ·simp only [Int.toNat_natCast];rw [WH,Qi,Qlc,QlA];rfl
theorem Qiv (hk:k<C.length):S6 400 C (k:Int) nm (t:Int) sp ac br (some:Int->Option Int)=some (Q7R C sp k t):=by
 have hl:=hC.len;have hw:=Q5S (t:=t) hk;unfold S6;rw [QeT ht (by omega)];have:=Qm (r:=fun m h=>Je 400 C (k:Int) (fun a b c=>some a) m (((win C k t).take h.toNat).foldl Qa3 sp) (((k-t:Nat):Int)+h)) (N:=(win C k t).length) (e:=some (Q7R C sp k t)) (fun m h hh=>?_) (fun m=>?_) (win C k t).length 400 0 (by omega) (by omega)
 ·rw [show ((k-t:Nat):Int)+((0:Nat):Int)=((k-t:Nat):Int) by omega] at this;exact this
 ·have e:=Qan hC hk (show h<k+1-(k-t) by omega);have e2:=hC.row (k-t+h) (by omega);simp only [Int.toNat_natCast];rw [Je,QZ (by simp;omega),show ((k-t:Nat):Int)+(h:Int)=((k-t+h:Nat):Int) by omega,Q9,e2,Yn e,List.foldl_append,Ql (by omega),show ((k-t:Nat):Int)+((h+1:Nat):Int)=((k-t+h+1:Nat):Int) by omega];simp -implicitDefEqProofs only [Q0,List.getElem?_cons_zero,List.getElem?_cons_succ,Q2,Xw,Qw,Qle,Qlc,Qlg,Qlf];rfl
 ·simp only [Int.toNat_natCast];rw [Je,Qa (by simp;omega),QlA];rfl
end
def arr (f:Nat->Int) (n:Nat):LL:=(List.range n).map fun i=>[Q4 (f i)]
theorem YZ {f:Nat->Int} {n:Nat}:(arr f n).length=n:=by simp [arr]
theorem Gh {f:Nat->Int} {n i:Nat} (h:i<n):(arr f n)[i]? = some [Q4 (f i)]:=by simp [arr,h]
theorem XQ {f g:Nat->Int} {n:Nat} (h:∀ i,i<n->f i=g i):arr f n=arr g n:=by
 refine List.map_congr_left fun i hi=>?_
 rw [h i (by simpa using hi)]
theorem QdQ {f:Nat->Int} {n i:Nat} {v:Int}:(arr f n).set i [Q4 v]=arr (fun j=>if j=i then v else f j) n:=by
 refine List.ext_getElem? fun j=>?_
 by_cases hj:j<n
 ·rw [Gh hj];by_cases h:i=j
  ·subst h;rw [List.getElem?_set_self (by rw [YZ];exact hj),Qli rfl]
  ·rw [List.getElem?_set_ne h,Gh hj,Qlk (fun e=>h e.symm)]
 ·rw [QlD (by simp [YZ];omega),QlD (by simp [YZ];omega)]
theorem B5 {n:Nat}:List.replicate n [Q4 0]=arr (fun _=>0) n:=by
 refine List.ext_getElem? fun j=>?_
 by_cases hj:j<n
 ·rw [Gh hj];simp [hj]
 ·rw [QlD (by simp;omega),QlD (by simp [YZ];omega)]
def acc (ac g:Int):Int:=if 0<g then (if 50<ac-10*g then ac-10*g else 50) else ac
def brk (br g:Int):Int:=if g<0 then (if 50<br+10*g then br+10*g else 50) else br
theorem Q5o {ac g:Int} (a1:400<=ac) (a2:ac<=800) (g0 : -10<=g) (g1:g<=10):300<=acc ac g/\acc ac g<=800:=by
 unfold acc;split
 ·split <;> omega
 ·omega
theorem Q5v {br g:Int} (a1:400<=br) (a2:br<=800) (g0 : -10<=g) (g1:g<=10):300<=brk br g/\brk br g<=800:=by
 unfold brk;split
 ·split <;> omega
 ·omega
section
variable {nm:List UInt8} {b t sp ac br g:Int} {n:Nat}
theorem QeA (a1:400<=ac) (a2:ac<=800) (g0 : -10<=g) (g1:g<=10):MJ n b g nm t sp ac br (some:Int->Option Int)=some (acc ac g):=by
 unfold MJ acc;rw [Q6 (x:=10*g) (by omega) (by omega),Q6 (x:=ac-10*g) (by omega) (by omega)];by_cases h:0<g
 ·rw [QZ (by simpa using h),Qli h]
 ·rw [Qa (by simpa using h),Qlk h]
theorem Qg7 (a1:400<=br) (a2:br<=800) (g0 : -10<=g) (g1:g<=10):MF n b g nm t sp ac br (some:Int->Option Int)=some (brk br g):=by
 unfold MF brk;rw [Q6 (x:=10*g) (by omega) (by omega),Q6 (x:=br+10*g) (by omega) (by omega)];by_cases h:g<0
 ·rw [QZ (by simpa using h),Qli h]
 ·rw [Qa (by simpa using h),Qlk h]
theorem Qh3 (a1:400<=ac) (a2:ac<=800) (g0 : -10<=g) (g1:g<=10):To n b g nm t sp ac br (some:Int->Option Int)=some (20000*acc ac g):=by
 have hr:=Q5o a1 a2 g0 g1;unfold To;rw [Q6 (x:=10*g) (by omega) (by omega),Q6 (x:=ac-10*g) (by omega) (by omega)];unfold acc at hr ⊢;by_cases h:0<g
 ·rw [Qli h] at hr ⊢;rw [QZ (by simpa using h),Q6 (by omega) (by omega)]
 ·rw [Qlk h] at hr ⊢;rw [Qa (by simpa using h),Q6 (by omega) (by omega)]
theorem Qhm (a1:400<=br) (a2:br<=800) (g0 : -10<=g) (g1:g<=10):T6 n b g nm t sp ac br (some:Int->Option Int)=some (20000*brk br g):=by
 have hr:=Q5v a1 a2 g0 g1;unfold T6;rw [Q6 (x:=10*g) (by omega) (by omega),Q6 (x:=br+10*g) (by omega) (by omega)];unfold brk at hr ⊢;by_cases h:g<0
 ·rw [Qli h] at hr ⊢;rw [QZ (by simpa using h),Q6 (by omega) (by omega)]
 ·rw [Qlk h] at hr ⊢;rw [Qa (by simpa using h),Q6 (by omega) (by omega)]
end
structure Run where
 C:LL
 nm:List UInt8
 sp:Int
 ac:Int
 br:Int
 t:Nat
 st:Nat
 N:Nat
structure Run.OK (X:Run):Prop where
 hC:CellsOK X.C
 hk:StkN X.t X.sp X.ac X.br
 hN:X.C.length=X.st+X.N
 h2:2<=X.N
namespace Run
variable (X:Run)
def lm (b:Nat):Int:=Q7R X.C X.sp (X.st+b) X.t
def lo (b:Nat):Int:=if X.lm b<X.lm (b-1) then X.lm b else X.lm (b-1)
def V (b:Nat):Int:=X.lo b*X.lo b
def G (b:Nat):Int:=20000*acc X.ac (cl X.C (X.st+b)).2
def L (b:Nat):Int:=20000*brk X.br (cl X.C (X.st+b)).2
def F:Nat->Int
 |0=>0
 |b+1=>if F b+X.G b<X.V (b+1) then F b+X.G b else X.V (b+1)
def K:Nat->Int
 |0=>0
 |d+1=>if K d+X.L (X.N-(d+1))<X.F (X.N-(d+1)) then K d+X.L (X.N-(d+1)) else X.F (X.N-(d+1))
variable {X} (h:X.OK)
include h
theorem QcA {b:Nat} (hb:b<X.N):5000<=X.lm b/\X.lm b<=25000:=Qb0 h.hC (by have:=h.hN;omega) h.hk.s1 h.hk.s2
theorem QaB {b:Nat} (hb:b<X.N):5000<=X.lo b/\X.lo b<=25000:=by
 have a:=QcA h hb;have h2:=QcA h (b:=b-1) (by omega);unfold lo;split <;> omega
theorem QdI {b:Nat} (hb:b<X.N):25000000<=X.V b/\X.V b<=625000000:=by
 obtain ⟨a,h2⟩:=QaB h hb;have:=Q5b (by decide) a;have:=Q5b (by omega) h2;unfold V;omega
theorem Qd3 {b:Nat} (hb:b<X.N):6000000<=X.G b/\X.G b<=16000000:=by
 have hN:=h.hN;have:=Q5o h.hk.a1 h.hk.a2 (h.hC.g0 (X.st+b) (by omega)) (h.hC.g1 (X.st+b) (by omega));unfold G;omega
theorem QbZ {b:Nat} (hb:b<X.N):6000000<=X.L b/\X.L b<=16000000:=by
 have hN:=h.hN;have:=Q5v h.hk.b1 h.hk.b2 (h.hC.g0 (X.st+b) (by omega)) (h.hC.g1 (X.st+b) (by omega));unfold L;omega
theorem Qbi:∀ b,b<X.N->0<=X.F b/\X.F b<=625000000/\(1<=b->6000000<=X.F b)
 |0,_=>by rw [F];omega
 |b+1,hb=>by
  have a:=Qbi b (by omega);have h2:=QdI h hb;have c:=Qd3 h (b:=b) (by omega);rw [F];split <;> omega
theorem Q52:∀ d,d<=X.N->0<=X.K d/\X.K d<=625000000/\(1<=d->d<X.N->6000000<=X.K d)
 |0,_=>by rw [K];omega
 |d+1,hd=>by
  have a:=Q52 d (by omega);have h2:=Qbi h (X.N-(d+1)) (by omega);have c:=QbZ h (b:=X.N-(d+1)) (by omega);rw [K];split <;> omega
theorem Qh2:X.K X.N=0:=by
 have h2:=h.h2;obtain ⟨d,hd⟩:∃ d,X.N=d+1:=⟨X.N-1,by omega⟩;have a:=Q52 h d (by omega);have c:=QbZ h (b:=0) (by omega);rw [hd,K,show X.N-(d+1)=0 by omega,F,Qlk (by omega)]
theorem row {b:Nat} (hb:b<X.N):X.C[X.st+b]? = some [Q4 (cl X.C (X.st+b)).1,Q4 (cl X.C (X.st+b)).2]:=h.hC.row _ (by have:=h.hN;omega)
end Run
theorem QaR {f:Nat->Int} {n i:Nat} {v:Int} (h:i<n) {R:Type} (K:LL->oP R):gb true (inB n (i:Int)) () (fun _=>gb true ((arr f n)[(Int.toNat (i:Int))]?) [] fun r=>K ((arr f n).set (Int.toNat (i:Int)) (List.set r 0 (D.int .i64 v))))=K (arr (fun j=>if j=i then v else f j) n):=by
 rw [Y0 (by omega) (by omega),Q0,Int.toNat_natCast,Gh h,Q0];show K ((arr f n).set i [Q4 v])=_;rw [QdQ]
theorem Q8s {f:Nat->Int} {n i:Nat} (h:i<n) {R:Type} (K:Int->oP R):gb true (inB n (i:Int)) () (fun _=>gb true ((arr f n)[(Int.toNat (i:Int))]?) [] fun r=>gb true (r[0]?) oF fun c=>gb true (pIw c) 0 fun x=>K x)=K (f i):=by
 rw [Y0 (by omega) (by omega),Q0,Int.toNat_natCast,Gh h];rfl
theorem wI {a b:Int} (h:a=b) (c : -1000000<=b) (d:b<=1000000000):wJ a=b:=by rw [h,Q6 (by omega) (by omega)]
namespace Run
variable {X:Run} (h:X.OK)
include h
def W (X:Run):LL:=arr (fun j=>X.K (X.N-j)) (X.N+1)
theorem sqA:JW 400 X.C (X.st:Int) X.nm (X.t:Int) X.sp X.ac X.br (some:LL->Option LL)=some X.W:=by
 have hN:=h.hN;have h2:=h.h2;have hl:=h.hC.len;have t2:=h.hk.t2;have an:wJ (wJ (((X.C.length:Nat):Int)-(X.st:Int))+1)=((X.N+1:Nat):Int):=by
  rw [Q6 (x:=((X.C.length:Nat):Int)-(X.st:Int)) (by omega) (by omega),Q6 (by omega) (by omega)];omega
 unfold JW;rw [an,show (bif decide ((0:Int)<=((X.N+1:Nat):Int))&&decide (((X.N+1:Nat):Int)<=((X.N+1:Nat):Int)) then some () else none)=some () by rw [QZ (by simp;omega)],Q0,Int.toNat_natCast,Xr (by omega),Q0,QiI h.hC (by omega) (by omega),Q0,B5,Ql (by omega)];have k:∀ k0:Int->Int->Bool->LL->Option LL,Yv 400 X.C (X.st:Int) ((X.C.length:Nat):Int) X.nm (X.t:Int) X.sp X.ac X.br k0 400 (Q7R X.C X.sp X.st X.t) ((X.st+1:Nat):Int) (arr (fun _=>0) (X.N+1))=k0 (X.lm (X.N-1)) ((X.C.length:Nat):Int) false (arr (fun j=>if j<=X.N-1 then X.F j else 0) (X.N+1)):=by
  intro k0;have:=Qm (r:=fun m i=>Yv 400 X.C (X.st:Int) ((X.C.length:Nat):Int) X.nm (X.t:Int) X.sp X.ac X.br k0 m (X.lm i.toNat) ((X.st+1+i.toNat:Nat):Int) (arr (fun j=>if j<=i.toNat then X.F j else 0) (X.N+1))) (N:=X.N-1) (e:=k0 (X.lm (X.N-1)) ((X.C.length:Nat):Int) false (arr (fun j=>if j<=X.N-1 then X.F j else 0) (X.N+1))) (fun m i hi=>?_) (fun m=>?_) (X.N-1) 400 0 (by omega) (by omega)
  ·have e:arr (fun j=>if j<=(((0:Nat):Int)).toNat then X.F j else 0) (X.N+1)=arr (fun _=>0) (X.N+1):=XQ fun j hj=>by
    split
    ·rename_i d;have d:j=0:=by simpa using d
     subst d;rw [F]
    ·rfl
   rw [e] at this;exact this
  ·simp only [Int.toNat_natCast];have f:=h.hC.g0 (X.st+i) (by omega);have g:=h.hC.g1 (X.st+i) (by omega);have hr:=row h (b:=i) (by omega);have aq:=QaB h (b:=i+1) (by omega);have hV:=QdI h (b:=i+1) (by omega);have hF:=Qbi h i (by omega);have hG:=Qd3 h (b:=i) (by omega);rw [Yv,Q8 (show X.st+1+i<X.C.length by omega),Qle,QiI h.hC (by omega) (by omega),Q0,wI (show ((X.st+1+i:Nat):Int)-1=((X.st+i:Nat):Int) by omega) (by omega) (by omega),wI (show ((X.st+i:Nat):Int)-(X.st:Int)=(i:Int) by omega) (by omega) (by omega),YZ,Q8s (by omega),Q9,hr,wI (show ((X.st+1+i:Nat):Int)-(X.st:Int)=((i+1:Nat):Int) by omega) (by omega) (by omega)];simp -implicitDefEqProofs only [Q0,List.getElem?_cons_zero,List.getElem?_cons_succ,Q2,Xw,Qw,Qle,Qlc,Qlg,Qlf,Qh3 h.hk.a1 h.hk.a2 f g];rw [QaR (by omega)];rw [Ql (by omega),show Q7R X.C X.sp (X.st+1+i) X.t=X.lm (i+1) by unfold lm;rw [Nat.add_assoc,Nat.add_comm 1 i],show X.st+1+i+1=X.st+1+(i+1) by omega];refine congrArg _ (XQ fun j hj=>?_);by_cases ak:j=i+1
   ·subst ak;have e1:(if X.lm (i+1)<X.lm i then X.lm (i+1) else X.lm i)=X.lo (i+1):=rfl;rw [Qli rfl,Qli (Qlq i),e1,wI (a:=X.lo (i+1)*X.lo (i+1)) (b:=X.V (i+1)) rfl (by omega) (by omega),wI (a:=X.F i+20000*acc X.ac (cl X.C (X.st+i)).2) (b:=X.F i+X.G i) rfl (by omega) (by omega),Qli (Qlq (i+1)),F]
   ·rw [Qlk ak];by_cases c:j<=i
    ·rw [Qli c,Qli (by omega)]
    ·rw [Qlk c,Qlk (by omega)]
  ·simp only [Int.toNat_natCast];rw [show X.st+1+(X.N-1)=X.C.length by omega,Yv,Qi,Qlc]
 rw [k,wI (show ((X.C.length:Nat):Int)-1=((X.st+X.N-1:Nat):Int) by omega) (by omega) (by omega)];have:=Qm (r:=fun m i=>Za 400 X.C (X.st:Int) X.nm (X.t:Int) X.sp X.ac X.br (fun _ _ l=>some l) m ((X.st+X.N-1-i.toNat:Nat):Int) (arr (fun j=>if X.N-j<=i.toNat then X.K (X.N-j) else X.F j) (X.N+1))) (N:=X.N-1) (e:=some X.W) (fun m i hi=>?_) (fun m=>?_) (X.N-1) 400 0 (by omega) (by omega)
 ·have e:arr (fun j=>if X.N-j<=(((0:Nat):Int)).toNat then X.K (X.N-j) else X.F j) (X.N+1)=arr (fun j=>if j<=X.N-1 then X.F j else 0) (X.N+1):=XQ fun j hj=>by
   by_cases ao:j=X.N
   ·subst ao;rw [Qli (by simp),Qlk (by omega),Nat.sub_self,K]
   ·rw [Qlk (by simp;omega),Qli (by omega)]
  rw [e] at this;exact this
 ·simp only [Int.toNat_natCast];obtain ⟨b,hb⟩:∃ b,b+1=X.N-i:=⟨X.N-i-1,by omega⟩;have o:1<=b:=by omega
  have f:=h.hC.g0 (X.st+b) (by omega);have g:=h.hC.g1 (X.st+b) (by omega);have hr:=row h (b:=b) (by omega);have hK:=Q52 h i (by omega);have hL:=QbZ h (b:=b) (by omega);rw [Za,show X.st+X.N-1-i=X.st+b by omega,QZ (by simp;omega),wI (show ((X.st+b:Nat):Int)-(X.st:Int)=(b:Int) by omega) (by omega) (by omega),YZ,Q8s (by omega),Ql (by omega),wI (show ((X.st+b+1:Nat):Int)-(X.st:Int)=((b+1:Nat):Int) by omega) (by omega) (by omega),Q8s (by omega),Q9,hr];simp -implicitDefEqProofs only [Q0,List.getElem?_cons_zero,List.getElem?_cons_succ,Q2,Xw,Qw,Qle,Qlc,Qlg,Qlf,Qhm h.hk.b1 h.hk.b2 f g];rw [QaR (by omega),wI (show ((X.st+b:Nat):Int)-1=((X.st+X.N-1-(i+1):Nat):Int) by omega) (by omega) (by omega)];refine congrArg _ (XQ fun j hj=>?_);by_cases aj:j=b
  ·subst aj;rw [Qli rfl,Qlk (show ¬ X.N-j<=i by omega),Qli (show X.N-(j+1)<=i by omega),Qli (show X.N-j<=i+1 by omega),show X.N-j=i+1 by omega,K,show X.N-(j+1)=i by omega,show X.N-(i+1)=j by omega,wI (a:=X.K i+20000*brk X.br (cl X.C (X.st+j)).2) (b:=X.K i+X.L j) rfl (by omega) (by omega)]
  ·rw [Qlk aj];by_cases c:X.N-j<=i
   ·rw [Qli c,Qli (by omega)]
   ·rw [Qlk c,Qlk (by omega)]
 ·simp only [Int.toNat_natCast];rw [Za,show X.st+X.N-1-(X.N-1)=X.st by omega,Qa (by simp)];refine congrArg some (XQ fun j hj=>?_);by_cases n:j=0
  ·subst n;rw [Qlk (by omega),F,Nat.sub_zero,Qh2 h]
  ·rw [Qli (by omega)]
end Run
theorem Jy {k:Nat} (a:k<=1000) (b:1<=k):wJ (((k:Nat):Int)-1)=((k-1:Nat):Int):=by grind [Q6]
section
variable {R:Type} {Sk Ro Ls Ch Tu Sy De:LL} {per:Int} {n:Nat}
theorem Q5W {mn mx:Int} (a:0<=mn) (b:mn<=mx) (h2:mx<mn+per) (c:mn<=1000) (p1:per<=300) (K:Bool->oP R):Kv n per Sk Ro Ls Ch Tu Sy De mn mx K=K true:=by
 grind [Kv,decide,Q6]
theorem Qhi {k i:Nat} {r:List D} (h:TD Ls k i r) (hl:Ls.length<=1000) (hr:∀ nm w rides,Ls[k]? = some [D.str nm,Q4 0,Q4 w,D.sl 4 rides]->rides.length<=1000) (K:Bool->oP R):JJ n per Sk Ro Ls Ch Tu Sy De (k:Int) (i:Int) K=K true:=by
 obtain ⟨nm,w,rides,a,h2⟩:=h;have hk:=(Qlh.1 a).1;have hi:=(Qlh.1 h2).1;have hr:=hr _ _ _ a;unfold JJ;rw [Jy hl (by omega),Q4R (by omega) (by omega),Q0,Q9,a];simp -implicitDefEqProofs only [Q0,List.getElem?_cons_zero,List.getElem?_cons_succ,Q2,Xw,Qw,Qle,Qlc,Qlg,Qlf,Jy hr (by omega),Q4R (show (0:Int)<=(i:Int) by omega) (show (i:Int)<=((rides.length-1:Nat):Int) by omega)]
theorem Qat {G:Geo} {x y:Int} {s:LL} (a:RtOK G s x y) (K:Int->oP R):Gj n s 0 K=K x:=by
 obtain ⟨d,b⟩:=a.fst
 simp_all [Gj,Q0,List.getElem?_cons_zero,List.getElem?_cons_succ,Q2,Xw,Qw,Qle,Qlc,Qlg,Qlf]
theorem QcX {G:Geo} {x y:Int} {s:LL} (a:RtOK G s x y) (K:Int->oP R):V8 n s 0 K=K y:=by
 obtain ⟨d,b⟩:=a.lst;have l24:=a.l24;unfold V8;rw [Q6 (x:=((s.length:Nat):Int)-0) (by omega) (by omega),Q6 (by omega) (by omega),Int.sub_zero,b];rfl
theorem B9 {k i:Nat} {rt:Nat} {ex mn mx:Int} {s:LL} (h:TD Ls k i [Q4 rt,Q4 ex,Q4 mn,Q4 mx]) (a:Ro[rt]? = some [D.sl 2 s,Q4 0]) (K:D->D->oP R):XJ n per Sk Ro Ls Ch Tu Sy De (k:Int) (i:Int) K=K (D.sl 2 s) (Q4 0):=by
 obtain ⟨nm,w,rides,b,h2⟩:=h
 simp_all [XJ,Q0,List.getElem?_cons_zero,List.getElem?_cons_succ,Q2,Xw,Qw,Qle,Qlc,Qlg,Qlf,Q9]
theorem Qid {i:Nat} (hi:i<8):M1 400 (nmN i) (some:Bool->Option Bool)=some true:=by
 obtain rfl | rfl | rfl | rfl | rfl | rfl | rfl | rfl:i=0\/i=1\/i=2\/i=3\/i=4\/i=5\/i=6\/i=7:=by omega
 all_goals rfl
theorem Qg3 (hs:Q1i Sk):GG 400 per Sk Ro Ls Ch Tu Sy De 0 (some:Int->Option Int)=some 0:=by
 obtain ⟨a,b,c,d,rfl,t1,t2,s1,s2,a1,a2,b1,b2⟩:=hs;have h:GG 400 per [[D.str (bs [88]),Q4 a,Q4 b,Q4 c,Q4 d]] Ro Ls Ch Tu Sy De 0 (some:Int->Option Int)=gb true (Y4 400 (bs [88]) a b c d some) false (fun r=>bif !r then some 4 else some 0):=by kernel_rfl
 have ac:Y4 400 (bs [88]) a b c d (some:Bool->Option Bool)=some true:=by
  unfold Y4;simp -implicitDefEqProofs only [Q0,List.getElem?_cons_zero,List.getElem?_cons_succ,Q2,Xw,Qw,Qle,Qlc,Qlg,Qlf,Q4Q t1 (show a<=40 by omega),Q4Q (show 1000<=b by omega) (show b<=100000 by omega),Q4Q (show 100<=c by omega) (show c<=2000 by omega),Q4Q (show 100<=d by omega) (show d<=2000 by omega)]
 rw [h,ac];rfl
end
section
variable {R:Type} {G:Geo} {Sk Ro Ls Ch Tu Sy De:LL} {per:Int} (h:PlanR G per Sk Ro Ls Ch Tu Sy De)
include h
theorem QfN {k:Nat}:∀ nm w rides,Ls[k]? = some [D.str nm,Q4 0,Q4 w,D.sl 4 rides]->rides.length<=1000:=by
 intro nm w rides e;obtain ⟨w',ac,e',hr,_⟩:=C4 h.good (Qlh.1 e).1
 grind
theorem Q7v {k i:Nat} {r:List D} (hr:TD Ls k i r) (K:Bool->oP R):JJ 400 per Sk Ro Ls Ch Tu Sy De (k:Int) (i:Int) K=K true:=by
 have:=h.l1
 grind [Qhi,QfN]
theorem QhE:Fb 400 per Sk Ro Ls Ch Tu Sy De (some:Bool->Option Bool)=some false:=by
 obtain ⟨_,_,_,_,aj,_⟩:=h.sk;obtain ⟨T,hT,_,_,_,ak⟩:=h.tu;have l1:=h.l1;have l2:=h.rl;have a:=h.chl;have c:=h.syl;have d:=h.del;have lk:Sk.length=1:=by rw [aj];rfl
 have lt:Tu.length<=20:=by rw [hT];simpa using ak
 have ac:∀ {k:Nat} {b:Int},(k:Int)<=b->decide ((k:Int)>b)=false:=fun h=>by simpa using h
 unfold Fb;simp -implicitDefEqProofs only [ac (show ((Sk.length:Nat):Int)<=8 by omega),ac (show ((Ro.length:Nat):Int)<=48 by omega),ac (show ((Ls.length:Nat):Int)<=16 by omega),ac (show ((Ch.length:Nat):Int)<=32 by omega),ac (show ((Tu.length:Nat):Int)<=32 by omega),ac (show ((Sy.length:Nat):Int)<=32 by omega),ac (show ((De.length:Nat):Int)<=32 by omega),Qlc];refine Qm (r:=fun m h=>Gi 400 Ls _ _ m h) (N:=Ls.length) (fun m k hk=>?_) (fun m=>?_) Ls.length 400 0 (by omega) (by omega)
 ·obtain ⟨w,rides,e,hr,_⟩:=C4 h.good hk;rw [Gi,Q8 hk,Q9,e];simp -implicitDefEqProofs only [Q0,List.getElem?_cons_zero,List.getElem?_cons_succ,Q2,Xw,Qw,Qle,Qlc,Qlg,Qlf,ac (show ((rides.length:Nat):Int)<=12 by omega),Ql (show k<=1000 by omega)]
 ·rw [Gi,Qi,Qlc]
theorem Qh0 {k:Nat} (hk:k<Ls.length):KY 400 G.St G.Pt G.Se G.Li per Sk Ro Ls Ch Tu Sy De (k:Int) (some:Int->Option Int)=some 0:=by
 have l1:=h.l1;have p1:=h.p1;have p0:=h.p0;obtain ⟨a,v,c,d,ar,aq⟩:=h.sk;obtain ⟨w,rides,e,w0,t,ac⟩:=h.good.ls k _ (Qld hk);have e:=(Qld hk).trans (congrArg some e);have a2:rides.length=1\/rides.length=2:=by rcases ac with ⟨_,_,_,rfl,_⟩ | ⟨_,_,_,_,_,rfl,_⟩;exact .inl rfl;exact .inr rfl
 have f:Q1 Sk (0:Int)=some [D.str (bs [88]),Q4 a,Q4 v,Q4 c,Q4 d]:=by rw [ar];rfl
 have aw:Sk.length=1:=by rw [ar];rfl
 unfold KY;rw [Q9,e];simp -implicitDefEqProofs only [Q0,List.getElem?_cons_zero,List.getElem?_cons_succ,Q2,Xw,Qw,Qle,Qlc,Qlg,Qlf,Qid (show k<8 by omega)];refine (Qm (r:=fun m h=>WI 400 (k:Int) Ls (D.str (nmN k)) _ _ m h) (N:=k) (fun m i hi=>?_) (fun m=>?_) k 400 0 (by omega) (by omega))
 ·obtain ⟨w',au,e',_⟩:=C4 h.good (show i<Ls.length by omega);rw [WI,Q8 hi,Q9,e'];simp -implicitDefEqProofs only [Q0,List.getElem?_cons_zero,List.getElem?_cons_succ,Q2,Xw,Qw,Qle,Qlc,Qlg,Qlf,QfD (show i<8 by omega) (show k<8 by omega) (show i≠k by omega),Ql (show i<=1000 by omega)]
 ·rw [WI,Qi,Qlc,aw,Jy (by decide) (by decide)];simp -implicitDefEqProofs only [Q0,List.getElem?_cons_zero,List.getElem?_cons_succ,Q2,Xw,Qw,Qle,Qlc,Qlg,Qlf,Q4R (show (0:Int)<=0 by omega) (show (0:Int)<=((1-1:Nat):Int) by decide),Q4R w0 (show w<=1048576 by omega),show (((rides.length:Nat):Int) == 0)=false by simp;intro hx;simp [hx] at a2];refine (Qm (r:=fun m h=>Wy 400 G.St G.Pt G.Se G.Li per Sk Ro Ls Ch Tu Sy De (Q4 0) (D.sl 4 rides) _ _ m h) (N:=rides.length) (fun m i hi=>?_) (fun m=>?_) rides.length 400 0 (by omega) (by omega))
  ·obtain ⟨r,x,y,b,hr,hR,hb,aj⟩:∃ r x y b,rides[i]? = some r/\Pg G Ro r x y b/\(i+1=rides.length->b=true)/\(∀ j,j+1=i->∃ r' x' b',rides[j]? = some r'/\Pg G Ro r' x' x b'):=by
    rcases ac with ⟨r,x,y,rfl,h⟩ | ⟨r,r',x,y,z,rfl,h,h'⟩
    ·have hi:i=0:=by simpa using hi
     subst hi;exact ⟨r,x,y,true,rfl,h,fun _=>rfl,fun j hj=>by omega⟩
    ·obtain rfl | rfl:i=0\/i=1:=by simp at hi;omega
     ·exact ⟨r,x,y,false,rfl,h,fun h=>by simp at h,fun j hj=>by omega⟩
     ·refine ⟨r',y,z,true,rfl,h',fun _=>rfl,fun j hj=>?_⟩;have hj:j=0:=by omega
      subst hj;exact ⟨r,x,false,rfl,h⟩
   obtain ⟨rt,ex,mn,mx,s,rfl,an,hs,⟨l,u⟩,⟨o,p,m2,m3⟩,hlast⟩:=hR;have a8:rt<Ro.length:=(Qlh.1 an).1;have l2:=h.rl;have hq:∀ z:Bool,(bif ((i:Int) == ((rides.length-1:Nat):Int)) then (bif (mn != (0:Int)) then true else (mx != (0:Int))) else false)=false:=by
    intro z;by_cases q:i+1=rides.length
    ·obtain ⟨rfl,rfl⟩:=hlast (hb q);rw [show ((0:Int) != 0)=false from rfl];cases ((i:Int) == ((rides.length-1:Nat):Int)) <;> rfl
    ·rw [show ((i:Int) == ((rides.length-1:Nat):Int))=false by simp;omega];rfl
   have a3:∀ {g:Bool} {β:Type} {a z:β} {k:β->Option Int},gb g (some a) z k=k a:=fun {g β a z k}=>rfl
   rw [Wy,Qw,Q0,Q8 hi];simp -implicitDefEqProofs only [Q0,List.getElem?_cons_zero,List.getElem?_cons_succ,Q2,Xw,Qw,Qle,Qlc,Qlg,Qlf,Q9,hr,Jy (show rides.length<=1000 by omega) (show 1<=rides.length by omega),Jy (show Ro.length<=1000 by omega) (show 1<=Ro.length by omega),Q6 (x:=per-1) (by omega) (by omega),Q4R (show (0:Int)<=(rt:Int) by omega) (show (rt:Int)<=((Ro.length-1:Nat):Int) by omega),Q4R l (show ex<=per-1 by omega),Q5W (Sk:=Sk) (Ro:=Ro) (Ls:=Ls) (Ch:=Ch) (Tu:=Tu) (Sy:=Sy) (De:=De) (n:=400) o p (show mx<mn+per by omega) (by omega) p1,hq true,an,f,Q9X (hs.f h.ok) aq,show ((0:Int) != 0)=false from rfl];cases i with
   |zero=>
    rw [show decide (((0:Nat):Int)>0)=false from rfl];simp only [gbF,Qlc];rfl
   |succ j=>
    obtain ⟨r',x',b',ay,az⟩:=aj j rfl;obtain ⟨a7,a4,a6,a9,s',rfl,ao,ax,_⟩:=az;simp -implicitDefEqProofs only [Q0,List.getElem?_cons_zero,List.getElem?_cons_succ,Q2,Xw,Qw,Qle,Qlc,Qlg,Qlf,show decide (((j+1:Nat):Int)>0)=true by simp,Qat hs,show wJ (((j+1:Nat):Int)-1)=(j:Int) by rw [Q6 (by omega) (by omega)];omega,Q9,ay,ao,QcX ax,show (x != x)=false by simp,Ql (show j+1<=1000 by omega)]
  ·rw [Wy,Qw,Q0,Qi,Qlc]
end
section
variable {R:Type} {G:Geo} {Sk Ro Ls Ch Tu Sy De:LL} {per:Int} (h:PlanR G per Sk Ro Ls Ch Tu Sy De)
include h
theorem QbU {k0:Int->oP R} {k1:Int->Bool->oP R}:Zh 400 G.St G.Pt G.Se G.Li per Sk Ro Ls Ch Tu Sy De k0 k1 400 0=k1 ((Ch.length:Nat):Int) false:=by
 have l2:=h.chl;have p1:=h.p1;refine Qm (r:=fun m h=>Zh 400 G.St G.Pt G.Se G.Li per Sk Ro Ls Ch Tu Sy De _ _ m h) (N:=Ch.length) (fun m k hk=>?_) (fun m=>?_) Ch.length 400 0 (by omega) (by omega)
 ·obtain ⟨f,fr,t,tr,mn,mx,w,r,r',x,y,x',y',b,b',i,e,hr,ac,hR,ao,ax,⟨a,j,c,d⟩,⟨w0,l⟩,⟨n,a1,c1,d1,g1⟩,⟨o,a2,p,q,g⟩,hi⟩:=h.ch _ (Qll hk);have hb:=Q7v (R:=Bool) h hr;have aq:=Q7v (R:=Bool) h ac;obtain ⟨rt,ex,rn,rx,s,rfl,an,hs,_⟩:=hR;obtain ⟨au,ar,ay,aw,s',rfl,aj,ak,_⟩:=ao;rw [Zh,Q8 hk,Q9,Qld hk,e];simp -implicitDefEqProofs only [Q0,List.getElem?_cons_zero,List.getElem?_cons_succ,Q2,Xw,Qw,Qle,Qlc,Qlg,Qlf,HR,hb,aq,Q5W a c d (show mn<=1000 by omega) p1,Q4R w0 (show w<=1048576 by omega),show ((f:Int) == (t:Int))=false by simp;omega,B9 hr an,B9 ac aj,QcX hs,Qat ak,g1,g,show decide (i<0)=false by simp;omega,show (i != i)=false by simp,show ((0:Int) != 0)=false from rfl,Ql (show k<=1000 by omega)]
 ·rw [Zh,Qi,Qlc]
theorem QfQ {k0:Int->oP R} {k1:Int->Bool->oP R}:Zb 400 per Sk Ro Ls Ch Tu Sy De k0 k1 400 0=k1 ((Tu.length:Nat):Int) false:=by
 obtain ⟨T,hT,t1,t2,d,t4⟩:=h.tu;have hl:Tu.length=T.length:=by rw [hT];simp
 have p0:=h.p0;have p1:=h.p1;have l1:=h.l1;refine Qm (r:=fun m h=>Zb 400 per Sk Ro Ls Ch Tu Sy De _ _ m h) (N:=Tu.length) (fun m k hk=>?_) (fun m=>?_) Tu.length 400 0 (by omega) (by omega)
 ·have ac:k<T.length:=by omega
  have at':∀ j (hj:j<T.length),Tu[j]? = some (tuR T[j]):=fun j hj=>by rw [hT,Qls,Qld hj];rfl
  obtain ⟨u1,u2,u3,u4,e,u6,nm,w,rides,r,r',x,y,z,b,b',e1,e2,f,e4,c,hR,au⟩:=t1 _ (Qll ac);obtain ⟨rt,ex,rn,rx,s,rfl,ar,hs,_⟩:=hR;obtain ⟨a3,a2,a5,a4,s',rfl,ak,ao,_⟩:=au;have g:=B9 (R:=D × D) (n:=400) (per:=per) (Sk:=Sk) (Ch:=Ch) (Tu:=Tu) (Sy:=Sy) (De:=De) (Ro:=Ro) ⟨nm,w,rides,e1,e2⟩ ar;have a:=B9 (R:=D × D) (n:=400) (per:=per) (Sk:=Sk) (Ch:=Ch) (Tu:=Tu) (Sy:=Sy) (De:=De) (Ro:=Ro) c ak;obtain ⟨a6,w',an,l,e6⟩:=c;have a:XJ 400 per Sk Ro Ls Ch Tu Sy De (T[k].2.1:Int) 0 Tu2=some (D.sl 2 s',Q4 0):=a _;have aj:∀ t∈T.take k,(t.1:Int)≠(T[k].1:Int)/\(t.2.1:Int)≠(T[k].2.1:Int):=by
   intro t ht;have q:=Mt t2 (i:=k) (by simpa using ac) t.1 (by rw [<- List.map_take];exact List.mem_map_of_mem ht);have h2:=Mt d (i:=k) (by simpa using ac) t.2.1 (by rw [<- List.map_take];exact List.mem_map_of_mem ht);rw [List.getElem_map] at q h2;exact ⟨by omega,by omega⟩
  have aq:H6 400 per Sk Ro Ls Ch Tu Sy De (k:Int) (some:Int->Option Int)=some 0:=by
   unfold H6;rw [Q9,at' k ac];simp -implicitDefEqProofs only [Q0,List.getElem?_cons_zero,List.getElem?_cons_succ,Q2,Xw,Qw,Qle,Qlc,Qlg,Qlf,tuR,Jy (show Ls.length<=1000 by omega) (show 1<=Ls.length by omega),Q4R (show (0:Int)<=(T[k].1:Int) by omega) (show (T[k].1:Int)<=((Ls.length-1:Nat):Int) by omega),Q4R (show (0:Int)<=(T[k].2.1:Int) by omega) (show (T[k].2.1:Int)<=((Ls.length-1:Nat):Int) by omega),Q5W (Sk:=Sk) (Ro:=Ro) (Ls:=Ls) (Ch:=Ch) (Tu:=Tu) (Sy:=Sy) (De:=De) (n:=400) (show 0<=T[k].2.2.1 by omega) e (show T[k].2.2.2<T[k].2.2.1+per by omega) (by omega) p1];refine (Qm (r:=fun m h=>WJ 400 (k:Int) Tu (Q4 (T[k].1:Nat)) (Q4 (T[k].2.1:Nat)) _ _ m h) (N:=k) (fun m i hi=>?_) (fun m=>?_) k 400 0 (by omega) (by omega))
   ·obtain ⟨u,v⟩:=aj T[i] (by rw [List.mem_take_iff_getElem];exact ⟨i,by omega,rfl⟩);rw [WJ,Q8 hi,Q9,at' i (by omega)];simp -implicitDefEqProofs only [Q0,List.getElem?_cons_zero,List.getElem?_cons_succ,Q2,Xw,Qw,Qle,Qlc,Qlg,Qlf,tuR,show ((T[i].1:Int) == (T[k].1:Int))=false by simpa using u,show ((T[i].2.1:Int) == (T[k].2.1:Int))=false by simpa using v,Ql (show i<=1000 by omega)]
   ·rw [WJ,Qi,Qlc,Q9,e1];simp -implicitDefEqProofs only [Q0,List.getElem?_cons_zero,List.getElem?_cons_succ,Q2,Xw,Qw,Qle,Qlc,Qlg,Qlf,Q9,l,Jy (show rides.length<=1000 by omega) f,g,a,QcX hs,Qat ao,show (y != y)=false by simp,show ((0:Int) != 0)=false from rfl]
  rw [Zb,Q8 hk,Qle,aq,Q0,Qa (by rfl),Ql (by omega)]
 ·rw [Zb,Qi,Qlc]
theorem QfT {k0:oP R} {k1:Int->Bool->oP R}:Z7 400 per Sk Ro Ls Ch Tu Sy De k0 k1 400 0=k1 ((Sy.length:Nat):Int) false:=by
 have l2:=h.syl;have l0:=h.l0;have p1:=h.p1;refine Qm (r:=fun m h=>Z7 400 per Sk Ro Ls Ch Tu Sy De _ _ m h) (N:=Sy.length) (fun m k hk=>?_) (fun m=>?_) Sy.length 400 0 (by omega) (by omega)
 ·obtain ⟨o,e,a,b,h2⟩:=h.sy _ (Qll hk);obtain ⟨r,hr⟩:=Q6H h (k:=0) (by omega);obtain ⟨r',ac⟩:=Q6H h (k:=1) (by omega);have e1:=Q7v (R:=Bool) h hr some;have e2:=Q7v (R:=Bool) h ac some;rw [Z7,Q8 hk,Q9,Qld hk,e];simp -implicitDefEqProofs only [Q0,List.getElem?_cons_zero,List.getElem?_cons_succ,Q2,Xw,Qw,Qle,Qlc,Qlg,Qlf,show JJ 400 per Sk Ro Ls Ch Tu Sy De 0 0 (some:Bool->Option Bool)=some true from e1,show JJ 400 per Sk Ro Ls Ch Tu Sy De 1 0 (some:Bool->Option Bool)=some true from e2,show ((0:Int) == 1)=false from rfl,Q6 (x:=per-1) (by omega) (by omega),Q4R a (show o<=per-1 by omega),Ql (show k<=1000 by omega)]
 ·rw [Z7,Qi,Qlc]
theorem QaZ {k0:oP R} {k1:Int->Bool->oP R}:Zd 400 G.St De k0 k1 400 0=k1 ((De.length:Nat):Int) false:=by
 have l2:=h.del;have hN:=h.ok.hN;refine Qm (r:=fun m h=>Zd 400 G.St De _ _ m h) (N:=De.length) (fun m k hk=>?_) (fun m=>?_) De.length 400 0 (by omega) (by omega)
 ·obtain ⟨f,t,w,e,⟨a,c⟩,⟨b,t1⟩,ac,w0,d⟩:=h.de _ (Qll hk);rw [Zd,Q8 hk,Q9,Qld hk,e];simp -implicitDefEqProofs only [Q0,List.getElem?_cons_zero,List.getElem?_cons_succ,Q2,Xw,Qw,Qle,Qlc,Qlg,Qlf,h.ok.st,Q6 (x:=((G.N:Nat):Int)-1) (by omega) (by omega),Q4R a (show f<=((G.N:Nat):Int)-1 by omega),Q4R b (show t<=((G.N:Nat):Int)-1 by omega),Q4R w0 (show w<=1048576 by omega),show (f == t)=false by simpa using ac,Ql (show k<=1000 by omega)]
 ·rw [Zd,Qi,Qlc]
theorem QhA:UC 400 G.St G.Pt G.Se G.Li per Sk Ro Ls Ch Tu Sy De (some:Int->Option Int)=some 0:=by
 have p0:=h.p0;have p1:=h.p1;have l1:=h.l1;have l2:=h.rl;obtain ⟨_,_,_,_,ac,_⟩:=h.sk;have aj:Sk.length=1:=by rw [ac];rfl
 have e1:Gb 400 G.St G.Pt G.Se G.Li (some:Int->Option Int)=some 0:=J6 h.ok.ref;unfold UC;simp -implicitDefEqProofs only [Q0,List.getElem?_cons_zero,List.getElem?_cons_succ,Q2,Xw,Qw,Qle,Qlc,Qlg,Qlf,e1,QhE h,Q4R (show 2<=per by omega) (show per<=7200 by omega),show ((0:Int) != 0)=false from rfl];refine Qm (r:=fun m h=>WE 400 per Sk Ro Ls Ch Tu Sy De _ _ m h) (N:=Sk.length) (fun m k hk=>?_) (fun m=>?_) Sk.length 400 0 (by omega) (by omega)
 ·obtain rfl:k=0:=by omega
  rw [WE,Q8 hk,Qle,show ((0:Nat):Int)=0 from rfl,Qg3 h.sk,Q0,Qa (by rfl)];rfl
 rw [WE,Qi,Qlc];refine Qm (r:=fun m h=>Wx 400 G.St G.Pt G.Se G.Li Ro _ _ m h) (N:=Ro.length) (fun m k hk=>?_) (fun m=>?_) Ro.length 400 0 (by omega) (by omega)
 ·obtain ⟨s,x,y,e,hs⟩:=h.good.ro _ (Qll hk);rw [Wx,Q8 hk,Q9,Qld hk,e];simp -implicitDefEqProofs only [Q0,List.getElem?_cons_zero,List.getElem?_cons_succ,Q2,Xw,Qw,Qle,Qlc,Qlg,Qlf,Q4F h.ok.ref rfl hs.l2 hs.l24 hs.rt6,show ((0:Int) != 0)=false from rfl,Ql (show k<=1000 by omega)]
 rw [Wx,Qi,Qlc];refine Qm (r:=fun m h=>WB 400 G.St G.Pt G.Se G.Li per Sk Ro Ls Ch Tu Sy De _ _ m h) (N:=Ls.length) (fun m k hk=>?_) (fun m=>?_) Ls.length 400 0 (by omega) (by omega)
 ·rw [WB,Q8 hk,Qle,Qh0 h hk,Q0,Qa (by rfl),Ql (by omega)]
 rw [WB,Qi,Qlc,QbU h,QfQ h,QfT h,QaZ h]
end
end Go.Vx
namespace Go.Vx
variable {R:Type} (n:Nat)
def XW (n:Nat) (c e i:LL) (f:Int) (j:LL) (g:Int) (k0:Int->Int->Bool->LL->LL->oP R):Nat->Int->Int->LL->LL->oP R
 | 0,_,_,_,_=>none
 | m+1,b,a,h,d=>bif decide (a<f) then QjA R i a fun o r=>Qjl R o[1]? fun ac=>Qjx R c b fun k=>Qjl R (Y6 ((h.length+[[Q4 k]].length)*8)) fun ad=>Qjj R (decide (a<wJ ((e.length:Int)-1))) fun ah=>Qjk R (h++[[Q4 k]]) fun ai=>Qjk R (wJ (a+1)) fun aj=>bif decide (a>0) then Qjl R (pIw r) fun u=>QjF R j u fun l=>bif ah then Qjx R c (wJ (wJ (b+l)+g)) fun p=>Qjl R (Y6 ((d.length+[[Q4 p]].length)*8)) fun ae=>XW n c e i f j g k0 m (wJ (b+l)) aj ai (d++[[Q4 p]]) else XW n c e i f j g k0 m (wJ (b+l)) aj ai d else bif ah then Qjx R c (wJ (b+g)) fun q=>Qjl R (Y6 ((d.length+[[Q4 q]].length)*8)) fun ag=>XW n c e i f j g k0 m b aj ai (d++[[Q4 q]]) else XW n c e i f j g k0 m b aj ai d else k0 b a (decide (a<f)) h d
def Hc (q r f s g:LL) (h:Int) (i:List UInt8) (c j k l:Int) (K:LL->LL->Int->Int->oP R):oP R:=Qjl R (Hw n q r f s g h i c j k l Tu3) fun a=>bif a.2.2 !=0 then K [] [] 0 a.2.2 else Qjl R (JE n a.1 a.2.1 i c j k l Tu2) fun b=>Qjl R (Uu n g h some) fun e=>XW n b.1 e e (e.length:Int) f c (fun m ab ac t o=>Qjx R b.1 m fun p=>Qjl R (Y6 ((o.length+[[Q4 p]].length)*8)) fun ad=>Qjx R b.1 m fun z=>Qjl R (JZ n z some) fun aa=>K t (o++[[Q4 p]]) aa 0) n 0 0 [] []
def XM (d e:LL) (b:Int) (k0:Int->Bool->LL->oP R):Nat->Int->LL->oP R
 | 0,_,_=>none
 | m+1,a,c=>bif decide (a<b) then Qjx R d (wJ (a-1)) fun j=>Qjl R (Vw n j some) fun f=>Qjx R e a fun o=>Qjl R (JZ n o some) fun g=>Qjk R [[Q4 0,Q4 (wJ (f-16)),Q4 (wJ (g+4))]] fun q=>Qjl R (Y6 ((c.length+q.length)*24)) fun p=>XM d e b k0 m (wJ (a+1)) (c++q) else k0 a (decide (a<b)) c
def Qk (f:Int) (l:LL) (g:Int) (h i e j k:LL) (c d:Int) (k0:Int->Bool->LL->LL->oP R):Nat->Int->LL->LL->oP R
 | 0,_,_,_=>none
 | m+1,a,b,q=>bif decide (a<g) then QjJ R l a fun r v=>Qjk R (wJ (a+1)) fun co=>Qjk R (wJ (a-1)) fun cp=>Qjk R (e.length:Int) fun cq=>bif decide (a>f) then Qjl R (Y6 ((b.length+[[Q4 0,Q4 c,Q4 d]].length)*24)) fun bu=>Qjl R (pIw r) fun ad=>Qjk R (b++[[Q4 0,Q4 c,Q4 d]]) fun cn=>QjS R (List.length cn) a cn a.toNat fun ah=>Qjz R (List.length cn) a cn a.toNat fun ai=>QjV R ai fun ak=>Qjl R (Xp n q ad ah ak some) fun o=>Qjl R (Tc o q.length) fun bz=>bif a==0 then Qk f l g h i e j k c d k0 m co cn o else QjJ R k cp fun al am=>QjW R al am r v fun an ao ap aq=>Qjl R (Zt n h i e j an ao ap aq some) fun s=>bif decide (s<0) then Qk f l g h i e j k c d k0 m co cn o else bif decide (a<=f) then QjS R (List.length cn) a cn a.toNat fun av=>Qjz R (List.length cn) cp cn (Int.toNat cp) fun aw=>QjV R aw fun ay=>Qjl R (Xp n o (wJ (cq+s)) av ay some) fun y=>Qjl R (Tc y o.length) fun cc=>Qk f l g h i e j k c d k0 m co cn y else Qjl R (Xp n o (wJ (cq+s)) c d some) fun z=>Qjl R (Tc z o.length) fun ce=>Qk f l g h i e j k c d k0 m co cn z else Qjl R (pIw r) fun az=>QjS R b.length a b a.toNat fun bc=>Qjz R b.length a b a.toNat fun bd=>QjV R bd fun bg=>Qjl R (Xp n q az bc bg some) fun p=>Qjl R (Tc p q.length) fun ch=>bif a==0 then Qk f l g h i e j k c d k0 m co b p else QjJ R k cp fun bh bi=>QjW R bh bi r v fun bj bk bl bm=>Qjl R (Zt n h i e j bj bk bl bm some) fun t=>bif decide (t<0) then Qk f l g h i e j k c d k0 m co b p else bif decide (a<=f) then QjS R b.length a b a.toNat fun bp=>Qjz R b.length cp b (Int.toNat cp) fun bq=>QjV R bq fun bt=>Qjl R (Xp n p (wJ (cq+t)) bp bt some) fun ab=>Qjl R (Tc ab p.length) fun ck=>Qk f l g h i e j k c d k0 m co b ab else Qjl R (Xp n p (wJ (cq+t)) c d some) fun ac=>Qjl R (Tc ac p.length) fun cm=>Qk f l g h i e j k c d k0 m co b ac else k0 a (decide (a<g)) b q
def ZY (c d e f b:LL) (l:Int) (m:List UInt8) (o p q r s h:Int) (K:LL->Int->Int->oP R):oP R:=gb true (Hc n c d e f b l m o p q r Tu4) ([],[],0,0) fun a=>bif a.2.2.2 !=0 then K [] 0 a.2.2.2 else Qjx R a.2.1 0 fun x=>Qjl R (JZ n x some) fun y=>Qjk R (wJ ((a.1.length:Int)-1)) fun t=>XM n a.1 a.2.1 t (fun aj ak i=>Qjx R a.1 (wJ (t-1)) fun ab=>Qjl R (Vw n ab some) fun j=>Qjk R [[Q4 0,Q4 (wJ (j-16)),Q4 (wJ (a.2.2.1+h))]] fun u=>Qjl R (Y6 ((i.length+u.length)*24)) fun al=>Qjx R a.1 t fun ae=>Qjl R (Vw n ae some) fun ag=>Qjl R (Jj n c d e f some) fun ah=>Qk n t b (b.length:Int) c d e f b (wJ (ag-16)) (wJ (a.2.2.1+20)) (fun am an ao ai=>Qjl R (VD n ai some) fun k=>Qjl R (FY [k]) fun ap=>K k a.2.2.1 0) n 0 (i++u) ah) n 1 [[Q4 0,Q4 (wJ (0-s)),Q4 (wJ (y+4))]]
def Wj (e f g h i:LL) (j:Int) (k:List UInt8) (l m o p c d:Int) (K:LL->Int->Int->oP R):oP R:=Qjl R (Gw n e f g h i j k l m o p some) fun b=>bif b !=0 then K [] 0 b else bif Qjh (Qjh (Qjh (decide (c<0)) (decide (c>65536))) (decide (d<0))) (decide (d>65536)) then K [] 0 4 else Qjl R (ZY n e f g h i j k l m o p c d Tu3) fun a=>K a.1 a.2.1 a.2.2
end Go.Vx
namespace Go.Vx
def cd (a b:Int):Int:=if 0<a % b then a / b+1 else a / b
theorem L9 {a b:Int} (h0:0<=a) (h1:1<=b):a<=cd a b*b/\0<=cd a b/\cd a b<=a / b+1:=by
 have h2:=Int.emod_nonneg a (show b≠0 by omega);have c:=Int.emod_lt_of_pos a (show 0<b by omega);have d:=Int.mul_ediv_add_emod a b;have e:0<=a / b:=Int.ediv_nonneg h0 (by omega);have f:b*(a / b)=a / b*b:=Int.mul_comm ..;have g:(a / b+1)*b=a / b*b+b:=by rw [Int.add_mul,Int.one_mul]
 unfold cd;split <;> refine ⟨?_,?_,?_⟩ <;> omega
theorem Qfq {a b:Int} (h0:0<=a) (h1:1<=b) (ha:a<=1000000000):nz b=some ()/\(Int.tmod a b=a % b)/\wJ (Int.tdiv a b)=a / b/\wJ (a / b+1)=a / b+1:=by
 have c:0<=a / b:=Int.ediv_nonneg h0 (by omega);have d:a / b<=a:=Int.ediv_le_self _ h0;exact ⟨Ek (by omega),Qlz h0,by rw [Qly h0,Q6 (by omega) (by omega)],Q6 (by omega) (by omega)⟩
section
variable {n:Nat} {a b:Int} (h0:0<=a) (h1:1<=b) (ha:a<=1000000000)
include h0 h1 ha
theorem QcF:K6 n a b Tu2=some (cd a b,0):=by
 obtain ⟨e1,e2,e,f⟩:=Qfq h0 h1 ha;unfold K6 cd;rw [Qa (by simpa using h1),e1,Q0,Q0,e2,e,f];by_cases h:0<a % b
 ·rw [QZ (by simpa using h),Qli h]
 ·rw [Qa (by simpa using h),Qlk h]
theorem Qd6:JC n a b (some:Int->Option Int)=some (cd a b):=by
 obtain ⟨e1,e2,c,d⟩:=Qfq h0 h1 ha;unfold JC cd;rw [e1,Q0,Q0,e2,c,d];by_cases h:0<a % b
 ·rw [QZ (by simpa using h),Qli h]
 ·rw [Qa (by simpa using h),Qlk h]
end
theorem upA {n:Nat} {a:Int} (h0:0<=a) (ha:a<=1000000000):JZ n a (some:Int->Option Int)=some (cd a 1000):=by
 unfold JZ;rw [QcF h0 (by decide) ha,Q0]
theorem Qcw {a:Int} (h0:0<=a) (ha:a<=1000000000):decide (Int.tmod a 1000<0)=false/\wJ (Int.tdiv a 1000)=a / 1000:=by
 rw [Qlz h0,Qly h0];exact ⟨by simp;omega,Q6 (by omega) (by omega)⟩
theorem Qha {n:Nat} {a:Int} (h0:0<=a) (ha:a<=1000000000):Vw n a (some:Int->Option Int)=some (a / 1000):=by
 obtain ⟨e1,e2⟩:=Qcw h0 ha;unfold Vw PE;rw [Qa (by decide),Ek (by decide),Q0,Q0,e1,Qlc,e2,Q0]
theorem Qgh {n:Nat} {a:Int} (h0:0<=a) (ha:a<=1000000000):VP n a 1000 (some:Int->Option Int)=some (a / 1000):=by
 obtain ⟨e1,e2⟩:=Qcw h0 ha;unfold VP;rw [Ek (by decide),Q0,Q0,e1,Qlc,e2]
def sq (x:Int):Int:=(Sm 400 x (some:Int->Option Int)).getD 0
theorem Q66 {x:Int} (h0:0<=x) (hx:x<=1000000000):Qbs x (sq x)/\Sm 400 x (some:Int->Option Int)=some (sq x)/\Mh 400 x (some:Int->Option Int)=some (sq x):=by
 obtain ⟨r,h1,h2⟩:=QhK h0 hx;have e:sq x=r:=by unfold sq;rw [h2];rfl
 rw [e];exact ⟨h1,h2,Qhd h0 hx h1⟩
namespace Run
variable (X:Run)
def S (j:Nat):Int:=sq (X.K (X.N-j))
def T:Nat->Int
 |0=>0
 |b+1=>T b+cd 20000000 (X.S b+X.S (b+1))
variable {X} (h:X.OK)
include h
theorem QeF {j:Nat} (hj:j<=X.N):0<=X.S j/\X.S j<=25000/\(1<=j->j<X.N->1000<=X.S j):=by
 have h1:=Q52 h (X.N-j) (by omega);obtain ⟨⟨c,e,f⟩,_,_⟩:=Q66 (x:=X.K (X.N-j)) (by omega) (by omega);refine ⟨c,Q9e c (by decide) e (by omega),fun a b=>?_⟩;have h2:=h1.2.2 (by omega) (by omega);by_cases d:1000<=X.S j
 ·exact d
 ·have:=Q5b (show 0<=sq (X.K (X.N-j))+1 by omega) (show sq (X.K (X.N-j))+1<=1000 by unfold S at d;omega);omega
theorem Q2v {b:Nat} (hb:b<X.N):1000<=X.S b+X.S (b+1)/\X.S b+X.S (b+1)<=50000/\0<=cd 20000000 (X.S b+X.S (b+1))/\cd 20000000 (X.S b+X.S (b+1))<=20001:=by
 have h2:=h.h2;have a:=QeF h (j:=b) (by omega);have c:=QeF h (j:=b+1) (by omega);have hs:1000<=X.S b+X.S (b+1):=by
  by_cases f:b=0
  ·have:=c.2.2 (by omega) (by omega);omega
  ·have:=a.2.2 (by omega) (by omega);omega
 have d:=L9 (show (0:Int)<=20000000 by decide) (show 1<=X.S b+X.S (b+1) by omega);have e:20000000 / (X.S b+X.S (b+1))<=20000:=Int.ediv_le_of_le_mul (by omega) (by omega);omega
theorem T_rng:∀ b:Nat,b<=X.N->0<=X.T b/\X.T b<=20001*b
 |0,_=>by rw [T];omega
 |b+1,hb=>by
  have:=T_rng b (by omega);have:=Q2v h (b:=b) (by omega);rw [T];omega
theorem T_mono {a:Nat}:∀ {b:Nat},a<=b->b<=X.N->X.T a<=X.T b
 |0,h1,_=>by rw [show a=0 by omega];omega
 |b+1,h1,h2=>by
  by_cases e:a=b+1
  ·subst e;omega
  ·have:=T_mono (a:=a) (b:=b) (by omega) (by omega);have:=Q2v h (b:=b) (by omega);rw [T];omega
def TT (X:Run):LL:=arr X.T (X.N+1)
theorem Qj4:Gz 400 X.C (X.st:Int) X.nm (X.t:Int) X.sp X.ac X.br Tu2=some (arr X.S (X.N+1),0):=by
 have hN:=h.hN;have h2:=h.h2;have hl:=h.hC.len;have ak:Jp 400 X.C (X.st:Int) X.nm (X.t:Int) X.sp X.ac X.br (some:Int->Option Int)=some 0:=by
  unfold Jp;rw [A5 h.hk,Q0,Qa (by decide),Qa (by simp;omega)];refine Qm (r:=fun m i=>YR 400 X.C ((X.C.length:Nat):Int) _ _ m i) (N:=X.C.length) (fun m k hk=>?_) (fun m=>?_) X.C.length 400 0 (by omega) (by omega)
  ·have b0:=h.hC.b0 k hk;have b1:=h.hC.b1 k hk;have g0:=h.hC.g0 k hk;have g1:=h.hC.g1 k hk;rw [YR,Q8 hk,Q9,h.hC.row k hk];simp -implicitDefEqProofs only [Q0,List.getElem?_cons_zero,List.getElem?_cons_succ,Q2,Xw,Qw,Qle,Qlc,Qlg,Qlf,show decide ((cl X.C k).1<1000)=false by simp;omega,show decide ((cl X.C k).1>100000)=false by simp;omega,show decide ((cl X.C k).2 < -40)=false by simp;omega,show decide ((cl X.C k).2>40)=false by simp;omega,Ql (show k<=1000 by omega)]
  ·rw [YR,Qi,Qlc,Q6 (by omega) (by omega),show decide ((X.st:Int)<0)=false by simp,show decide ((X.st:Int)>((X.C.length:Nat):Int)-2)=false by simp;omega];rfl
 unfold Gz;rw [ak,Q0,Qa (by rfl),sqA h,Q0];have hW:X.W.length=X.N+1:=YZ;rw [hW];have:=Qm (r:=fun m i=>ZM 400 ((X.N+1:Nat):Int) (fun _ _ d=>some (d,(0:Int))) m i (arr (fun j=>if j<i.toNat then X.S j else X.K (X.N-j)) (X.N+1))) (N:=X.N+1) (e:=some (arr X.S (X.N+1),0)) (fun m k hk=>?_) (fun m=>?_) (X.N+1) 400 0 (by omega) (by omega)
 ·rw [show arr (fun j=>if j<(((0:Nat):Int)).toNat then X.S j else X.K (X.N-j)) (X.N+1)=X.W from XQ fun j hj=>Qlk (by simp)] at this;exact this
 ·simp only [Int.toNat_natCast];have hK:=Q52 h (X.N-k) (by omega);rw [ZM,Q8 hk,Qle,YZ,Q8s hk,Qlk (Nat.lt_irrefl k),(Q66 (by omega) (by omega)).2.1,Q0,QaR hk,Ql (by omega)];refine congrArg _ (XQ fun j hj=>?_);by_cases aj:j=k
  ·subst aj;rw [Qli rfl,Qli (by omega)];rfl
  ·rw [Qlk aj];by_cases a:j<k
   ·rw [Qli a,Qli (by omega)]
   ·rw [Qlk a,Qlk (by omega)]
 ·simp only [Int.toNat_natCast];rw [ZM,Qi,Qlc];exact congrArg (fun l=>some (l,(0:Int))) (XQ fun j hj=>Qli hj)
theorem timA:JE 400 X.C (X.st:Int) X.nm (X.t:Int) X.sp X.ac X.br Tu2=some (X.TT,0):=by
 have hN:=h.hN;have hl:=h.hC.len;unfold JE;rw [Qj4 h,Q0,Qa (by rfl),YZ,show (bif decide ((0:Int)<=((X.N+1:Nat):Int))&&decide (((X.N+1:Nat):Int)<=((X.N+1:Nat):Int)) then some () else none)=some () by rw [QZ (by simp;omega)],Q0,Int.toNat_natCast,Xr (by omega),Q0,B5];have:=Qm (r:=fun m i=>WK 400 (arr X.S (X.N+1)) (fun _ _ g=>some (g,(0:Int))) m ((i.toNat+1:Nat):Int) (arr (fun j=>if j<=i.toNat then X.T j else 0) (X.N+1))) (N:=X.N) (e:=some (X.TT,0)) (fun m k hk=>?_) (fun m=>?_) X.N 400 0 (by omega) (by omega)
 ·rw [show arr (fun j=>if j<=(((0:Nat):Int)).toNat then X.T j else 0) (X.N+1)=arr (fun _=>0) (X.N+1) from XQ fun j hj=>by
   split
   ·rename_i h0;have h0:j=0:=by simpa using h0
    rw [h0,T]
   ·rfl] at this
  exact this
 ·simp only [Int.toNat_natCast];have hi:=Q2v h hk;have hT:=T_rng h k (by omega);rw [WK,YZ,Q8 (show k+1<X.N+1 by omega),Qle,Jy (show k+1<=1000 by omega) (by omega),show k+1-1=k by omega,Q9,Q9,Gh (show k<X.N+1 by omega),Gh (show k+1<X.N+1 by omega)];simp -implicitDefEqProofs only [Q0,List.getElem?_cons_zero,Q2,wI (a:=X.S k+X.S (k+1)) rfl (show -1000000<=X.S k+X.S (k+1) by omega) (show X.S k+X.S (k+1)<=1000000000 by omega),QcF (n:=400) (show (0:Int)<=20000000 by decide) (show 1<=X.S k+X.S (k+1) by omega) (by decide)];rw [YZ,Q8s (show k<X.N+1 by omega),Qli (Qlq k),QaR (show k+1<X.N+1 by omega),Ql (by omega),wI (a:=X.T k+cd 20000000 (X.S k+X.S (k+1))) (b:=X.T (k+1)) rfl (by rw [T];omega) (by rw [T];omega)];refine congrArg _ (XQ fun j hj=>?_);by_cases aj:j=k+1
  ·subst aj;rw [Qli rfl,Qli (by omega)]
  ·rw [Qlk aj];by_cases c:j<=k
   ·rw [Qli c,Qli (by omega)]
   ·rw [Qlk c,Qlk (by omega)]
 ·simp only [Int.toNat_natCast];rw [WK,YZ,Qi,Qlc];exact congrArg (fun l=>some (l,(0:Int))) (XQ fun j hj=>Qli (by omega))
end Run
namespace Run
variable {X:Run} (h:X.OK)
include h
theorem QiP:B0 400 X.C (X.st:Int) X.nm (X.t:Int) X.sp X.ac X.br (some:Int->Option Int)=some 0:=by
 have hN:=h.hN;have h2:=h.h2;have hl:=h.hC.len;obtain ⟨t1,t2,s1,s2,a1,a2,b1,b2⟩:=h.hk;have aj:Y4 400 X.nm (X.t:Int) X.sp X.ac X.br (some:Bool->Option Bool)=some true:=by
  unfold Y4;simp -implicitDefEqProofs only [Q0,List.getElem?_cons_zero,List.getElem?_cons_succ,Q2,Xw,Qw,Qle,Qlc,Qlg,Qlf,Q4Q t1 (show (X.t:Int)<=40 by omega),Q4Q (show 1000<=X.sp by omega) (show X.sp<=100000 by omega),Q4Q (show 100<=X.ac by omega) (show X.ac<=2000 by omega),Q4Q (show 100<=X.br by omega) (show X.br<=2000 by omega)]
 unfold B0;rw [aj,Q0,Qa (by decide),Qa (by simp;omega)];refine Qm (r:=fun m i=>Kw 400 X.C _ _ m i) (N:=X.C.length) (fun m k hk=>?_) (fun m=>?_) X.C.length 400 0 (by omega) (by omega)
 ·have b0:=h.hC.b0 k hk;have b1:=h.hC.b1 k hk;have g0:=h.hC.g0 k hk;have g1:=h.hC.g1 k hk;rw [Kw,Q8 hk,Q9,h.hC.row k hk];simp -implicitDefEqProofs only [Q0,List.getElem?_cons_zero,List.getElem?_cons_succ,Q2,Xw,Qw,Qle,Qlc,Qlg,Qlf,Q4Q (show 1000<=(cl X.C k).1 by omega) (show (cl X.C k).1<=100000 by omega),Q4Q (show -40<=(cl X.C k).2 by omega) (show (cl X.C k).2<=40 by omega),Ql (show k<=1000 by omega)]
 ·rw [Kw,Qi,Qlc,Q6 (by omega) (by omega),show decide ((X.st:Int)<0)=false by simp,show decide ((X.st:Int)>((X.C.length:Nat):Int)-2)=false by simp;omega];rfl
theorem Qj8:Rn 400 X.C (X.st:Int) X.nm (X.t:Int) X.sp X.ac X.br Tu2=some (arr X.S (X.N+1),0):=by
 have hN:=h.hN;have h2:=h.h2;have hl:=h.hC.len;have t2:=h.hk.t2;have hw:wJ (((X.C.length:Nat):Int)-(X.st:Int))=((X.N:Nat):Int):=by rw [Q6 (by omega) (by omega)];omega
 unfold Rn;rw [QiP h,Q0,Qa (by rfl),hw,Ql (by omega),show (bif decide ((0:Int)<=((X.N+1:Nat):Int))&&decide (((X.N+1:Nat):Int)<=((X.N+1:Nat):Int)) then some () else none)=some () by rw [QZ (by simp;omega)],Q0,Int.toNat_natCast,Xr (by omega),Q0,B5];have e1:∀ k0:Int->Bool->LL->Option (LL × Int),UO 400 X.C (X.st:Int) ((X.N:Nat):Int) X.nm (X.t:Int) X.sp X.ac X.br k0 400 (1:Int) (arr (fun _=>0) (X.N+1))=k0 ((X.N:Nat):Int) false (arr (fun j=>if 1<=j/\j<=X.N-1 then X.V j else 0) (X.N+1)):=by
  intro k0;have:=Qm (r:=fun m i=>UO 400 X.C (X.st:Int) ((X.N:Nat):Int) X.nm (X.t:Int) X.sp X.ac X.br k0 m ((i.toNat+1:Nat):Int) (arr (fun j=>if 1<=j/\j<=i.toNat then X.V j else 0) (X.N+1))) (N:=X.N-1) (e:=k0 ((X.N:Nat):Int) false (arr (fun j=>if 1<=j/\j<=X.N-1 then X.V j else 0) (X.N+1))) (fun m i hi=>?_) (fun m=>?_) (X.N-1) 400 0 (by omega) (by omega)
  ·rw [show arr (fun j=>if 1<=j/\j<=(((0:Nat):Int)).toNat then X.V j else 0) (X.N+1)=arr (fun _=>0) (X.N+1) from XQ fun j hj=>Qlk (by simp;omega)] at this;exact this
  ·simp only [Int.toNat_natCast];have aw:=QaB h (b:=i+1) (by omega);have hV:=QdI h (b:=i+1) (by omega);rw [UO,Q8 (show i+1<X.N by omega),Qle,wI (show (X.st:Int)+((i+1:Nat):Int)=((X.st+(i+1):Nat):Int) by omega) (by omega) (by omega),wI (show ((X.st+(i+1):Nat):Int)-1=((X.st+i:Nat):Int) by omega) (by omega) (by omega),Qiv h.hC (by omega) (by omega),Q0,Qiv h.hC (by omega) (by omega),Q0,YZ,QaR (by omega),Ql (by omega)];refine congrArg _ (XQ fun j hj=>?_);have e1:(if Q7R X.C X.sp (X.st+(i+1)) X.t<Q7R X.C X.sp (X.st+i) X.t then Q7R X.C X.sp (X.st+(i+1)) X.t else Q7R X.C X.sp (X.st+i) X.t)=X.lo (i+1):=rfl;by_cases aj:j=i+1
   ·subst aj;rw [Qli rfl,e1,wI (a:=X.lo (i+1)*X.lo (i+1)) (b:=X.V (i+1)) rfl (by omega) (by omega),Qli (by omega)]
   ·rw [Qlk aj];by_cases d:1<=j/\j<=i
    ·rw [Qli d,Qli (by omega)]
    ·rw [Qlk d,Qlk (by omega)]
  ·simp only [Int.toNat_natCast];rw [show X.N-1+1=X.N by omega,UO,Qi,Qlc]
 rw [e1];have e2:∀ k0:Int->Bool->LL->Option (LL × Int),UU 400 X.C (X.st:Int) ((X.N:Nat):Int) X.nm (X.t:Int) X.sp X.ac X.br k0 400 (0:Int) (arr (fun j=>if 1<=j/\j<=X.N-1 then X.V j else 0) (X.N+1))=k0 ((X.N:Nat):Int) false (arr (fun j=>if j<=X.N-1 then X.F j else 0) (X.N+1)):=by
  intro k0;have:=Qm (r:=fun m i=>UU 400 X.C (X.st:Int) ((X.N:Nat):Int) X.nm (X.t:Int) X.sp X.ac X.br k0 m i (arr (fun j=>if j<=X.N-1 then (if j<=i.toNat then X.F j else X.V j) else 0) (X.N+1))) (N:=X.N) (e:=k0 ((X.N:Nat):Int) false (arr (fun j=>if j<=X.N-1 then X.F j else 0) (X.N+1))) (fun m i hi=>?_) (fun m=>?_) X.N 400 0 (by omega) (by omega)
  ·rw [show arr (fun j=>if j<=X.N-1 then (if j<=(((0:Nat):Int)).toNat then X.F j else X.V j) else 0) (X.N+1)=arr (fun j=>if 1<=j/\j<=X.N-1 then X.V j else 0) (X.N+1) from XQ fun j hj=>by
    by_cases q:j=0
    ·subst q;rw [Qli (by omega),Qli (by simp),Qlk (by omega),F]
    ·by_cases c:j<=X.N-1
     ·rw [Qli c,Qlk (by simp;omega),Qli (by omega)]
     ·rw [Qlk c,Qlk (by omega)]] at this
   exact this
  ·simp only [Int.toNat_natCast];have f:=h.hC.g0 (X.st+i) (by omega);have g:=h.hC.g1 (X.st+i) (by omega);have hr:=row h (b:=i) (by omega);have hF:=Qbi h i (by omega);have hG:=Qd3 h (b:=i) (by omega);have ha:=Q5o h.hk.a1 h.hk.a2 f g;rw [UU,Q8 hi,Qle,Ql (by omega),YZ,Q8s (show i+1<X.N+1 by omega),Q8s (show i<X.N+1 by omega),wI (show (X.st:Int)+(i:Int)=((X.st+i:Nat):Int) by omega) (by omega) (by omega),Q9,hr];simp -implicitDefEqProofs only [Q0,List.getElem?_cons_zero,List.getElem?_cons_succ,Q2,Xw,Qw,Qle,Qlc,Qlg,Qlf,QeA h.hk.a1 h.hk.a2 f g];rw [QaR (show i+1<X.N+1 by omega),Qli (show i<=X.N-1 by omega),Qli (Qlq i),Qlk (show ¬ i+1<=i by omega),wI (a:=20000*acc X.ac (cl X.C (X.st+i)).2) (b:=X.G i) rfl (by omega) (by omega),wI (a:=X.F i+X.G i) (b:=X.F i+X.G i) rfl (by omega) (by omega)];refine congrArg _ (XQ fun j hj=>?_);by_cases aj:j=i+1
   ·subst aj;rw [Qli rfl];by_cases n:i+1<=X.N-1
    ·rw [Qli n,Qli n,Qli (Qlq (i+1)),F]
    ·rw [Qlk n,Qlk (show ¬ X.F i+X.G i<0 by omega),Qlk n]
   ·rw [Qlk aj];by_cases c:j<=X.N-1
    ·rw [Qli c,Qli c];by_cases d:j<=i
     ·rw [Qli d,Qli (by omega)]
     ·rw [Qlk d,Qlk (by omega)]
    ·rw [Qlk c,Qlk c]
  ·simp only [Int.toNat_natCast];rw [UU,Qi,Qlc];refine congrArg _ (XQ fun j hj=>?_);by_cases c:j<=X.N-1
   ·rw [Qli c,Qli c,Qli (by omega)]
   ·rw [Qlk c,Qlk c]
 rw [e2];have s:∀ k0:Int->Bool->LL->Option (LL × Int),UX 400 X.C (X.st:Int) X.nm (X.t:Int) X.sp X.ac X.br k0 400 ((X.N:Nat):Int) (arr (fun j=>if j<=X.N-1 then X.F j else 0) (X.N+1))=k0 0 false X.W:=by
  intro k0;have:=Qm (r:=fun m i=>UX 400 X.C (X.st:Int) X.nm (X.t:Int) X.sp X.ac X.br k0 m ((X.N-i.toNat:Nat):Int) (arr (fun j=>if X.N-j<=i.toNat then X.K (X.N-j) else X.F j) (X.N+1))) (N:=X.N) (e:=k0 0 false X.W) (fun m i hi=>?_) (fun m=>?_) X.N 400 0 (by omega) (by omega)
  ·rw [show arr (fun j=>if X.N-j<=(((0:Nat):Int)).toNat then X.K (X.N-j) else X.F j) (X.N+1)=arr (fun j=>if j<=X.N-1 then X.F j else 0) (X.N+1) from XQ fun j hj=>by
    by_cases aq:j=X.N
    ·subst aq;rw [Qli (by simp),Qlk (by omega),Nat.sub_self,K]
    ·rw [Qlk (by simp;omega),Qli (by omega)]] at this
   exact this
  ·simp only [Int.toNat_natCast];obtain ⟨b,hb⟩:∃ b,b+1=X.N-i:=⟨X.N-i-1,by omega⟩;have f:=h.hC.g0 (X.st+b) (by omega);have g:=h.hC.g1 (X.st+b) (by omega);have hr:=row h (b:=b) (by omega);have hK:=Q52 h i (by omega);have hL:=QbZ h (b:=b) (by omega);have au:=Q5v h.hk.b1 h.hk.b2 f g;rw [<- hb,UX,QZ (by simp),Jy (show b+1<=1000 by omega) (by omega),Qlo,YZ,Q8s (show b<X.N+1 by omega),Q8s (show b+1<X.N+1 by omega),wI (show (X.st:Int)+((b+1:Nat):Int)=((X.st+b+1:Nat):Int) by omega) (by omega) (by omega),Jy (show X.st+b+1<=1000 by omega) (by omega),Qlo,Q9,hr];simp -implicitDefEqProofs only [Q0,List.getElem?_cons_zero,List.getElem?_cons_succ,Q2,Xw,Qw,Qle,Qlc,Qlg,Qlf,Qg7 h.hk.b1 h.hk.b2 f g];rw [QaR (show b<X.N+1 by omega),show X.N-(i+1)=b by omega,Qlk (show ¬ X.N-b<=i by omega),Qli (show X.N-(b+1)<=i by omega),show X.N-(b+1)=i by omega,wI (a:=20000*brk X.br (cl X.C (X.st+b)).2) (b:=X.L b) rfl (by omega) (by omega),wI (a:=X.K i+X.L b) (b:=X.K i+X.L b) rfl (by omega) (by omega)];refine congrArg _ (XQ fun j hj=>?_);by_cases ak:j=b
   ·subst ak;rw [Qli rfl,Qli (show X.N-j<=i+1 by omega),show X.N-j=i+1 by omega,K,show X.N-(i+1)=j by omega]
   ·rw [Qlk ak];by_cases d:X.N-j<=i
    ·rw [Qli d,Qli (by omega)]
    ·rw [Qlk d,Qlk (by omega)]
  ·simp only [Int.toNat_natCast];rw [Nat.sub_self,UX,Qa (by decide)];refine congrArg _ (XQ fun j hj=>Qli (by omega))
 rw [s];have:=Qm (r:=fun m i=>VL 400 ((X.N:Nat):Int) (fun _ _ t=>some (t,(0:Int))) m i (arr (fun j=>if j<i.toNat then X.S j else X.K (X.N-j)) (X.N+1))) (N:=X.N+1) (e:=some (arr X.S (X.N+1),0)) (fun m k hk=>?_) (fun m=>?_) (X.N+1) 400 0 (by omega) (by omega)
 ·rw [show arr (fun j=>if j<(((0:Nat):Int)).toNat then X.S j else X.K (X.N-j)) (X.N+1)=X.W from XQ fun j hj=>Qlk (by simp)] at this;exact this
 ·simp only [Int.toNat_natCast];have hK:=Q52 h (X.N-k) (by omega);rw [VL,QZ (by simp;omega),YZ,Q8s hk,Qlk (Nat.lt_irrefl k),(Q66 (by omega) (by omega)).2.2,Q0,QaR hk,Ql (by omega)];refine congrArg _ (XQ fun j hj=>?_);by_cases an:j=k
  ·subst an;rw [Qli rfl,Qli (by omega)];rfl
  ·rw [Qlk an];by_cases d:j<k
   ·rw [Qli d,Qli (by omega)]
   ·rw [Qlk d,Qlk (by omega)]
 ·simp only [Int.toNat_natCast];rw [VL,Qa (by simp;omega)];exact congrArg (fun l=>some (l,(0:Int))) (XQ fun j hj=>Qli hj)
theorem timB:PY 400 X.C (X.st:Int) X.nm (X.t:Int) X.sp X.ac X.br Tu2=some (X.TT,0):=by
 have hN:=h.hN;have hl:=h.hC.len;unfold PY;rw [Qj8 h,Q0,Qa (by rfl),YZ,show (bif decide ((0:Int)<=((X.N+1:Nat):Int))&&decide (((X.N+1:Nat):Int)<=((X.N+1:Nat):Int)) then some () else none)=some () by rw [QZ (by simp;omega)],Q0,Int.toNat_natCast,Xr (by omega),Q0,B5];have:=Qm (r:=fun m i=>Jk 400 (arr X.S (X.N+1)) (fun _ _ o=>some (o,(0:Int))) m ((i.toNat+1:Nat):Int) (arr (fun j=>if j<=i.toNat then X.T j else 0) (X.N+1))) (N:=X.N) (e:=some (X.TT,0)) (fun m k hk=>?_) (fun m=>?_) X.N 400 0 (by omega) (by omega)
 ·rw [show arr (fun j=>if j<=(((0:Nat):Int)).toNat then X.T j else 0) (X.N+1)=arr (fun _=>0) (X.N+1) from XQ fun j hj=>by
   split
   ·rename_i c;have c:j=0:=by simpa using c
    rw [c,T]
   ·rfl] at this
  exact this
 ·simp only [Int.toNat_natCast];have hi:=Q2v h hk;have hT:=T_rng h k (by omega);rw [Jk,YZ,Q8 (show k+1<X.N+1 by omega),Qle,Jy (show k+1<=1000 by omega) (by omega),show k+1-1=k by omega,YZ,Q8s (show k<X.N+1 by omega),Qli (Qlq k),Q9,Q9,Gh (show k<X.N+1 by omega),Gh (show k+1<X.N+1 by omega)];simp -implicitDefEqProofs only [Q0,List.getElem?_cons_zero,Q2,wI (a:=X.S k+X.S (k+1)) rfl (show -1000000<=X.S k+X.S (k+1) by omega) (show X.S k+X.S (k+1)<=1000000000 by omega),Qd6 (n:=400) (show (0:Int)<=20000000 by decide) (show 1<=X.S k+X.S (k+1) by omega) (by decide)];rw [QaR (show k+1<X.N+1 by omega),Ql (by omega),wI (a:=X.T k+cd 20000000 (X.S k+X.S (k+1))) (b:=X.T (k+1)) rfl (by rw [T];omega) (by rw [T];omega)];refine congrArg _ (XQ fun j hj=>?_);by_cases aj:j=k+1
  ·subst aj;rw [Qli rfl,Qli (by omega)]
  ·rw [Qlk aj];by_cases d:j<=k
   ·rw [Qli d,Qli (by omega)]
   ·rw [Qlk d,Qlk (by omega)]
 ·simp only [Int.toNat_natCast];rw [Jk,YZ,Qi,Qlc];exact congrArg (fun l=>some (l,(0:Int))) (XQ fun j hj=>Qli (by omega))
end Run
def sl (Se s:LL) (j:Nat):Nat:=(Ss Se (s.getD j [])).length
def pos (Se s:LL):Nat->Nat
 |0=>0
 |j+1=>pos Se s j+sl Se s (j+1)
theorem RM {f:Nat->Int} {n:Nat}:arr f n++[[Q4 (f n)]]=arr f (n+1):=by simp [arr,List.range_succ]
section
variable {Se s:LL} (hs:∀ r∈s,Ct Se r)
include hs
theorem Ef {j:Nat} (hj:j<s.length):∃ (x d:Int) (nm:List UInt8) (b c st:Int),s[j]? = some [Q4 x,Q4 d]/\Q1 Se x=some [D.str nm,Q4 (sl Se s j),Q4 b,Q4 c,Q4 st]/\2<=sl Se s j/\sl Se s j<=12/\(d=0\/d=1):=by
 obtain ⟨x,d,nm,a,b,c,st,e,f,h2,g⟩:=hs _ (Qll hj);have a0:=h2.a0;have a1:=h2.a1;have e2:s[j]? = some [Q4 x,Q4 d]:=by rw [Qld hj,e]
 have h:sl Se s j=a.toNat:=by
  unfold sl;rw [Qlj,e2];show (Ss Se [Q4 x,Q4 d]).length=_;rw [Hz f,List.length_replicate]
 refine ⟨x,d,nm,b,c,st,e2,?_,by omega,by omega,g⟩;rw [f,h,show ((a.toNat:Nat):Int)=a by omega]
omit hs in
theorem Q3C:∀ {j:Nat},j<s.length->(Yo Se (s.take (j+1))).length=sl Se s 0+pos Se s j
 |0,hj=>by
  rw [Mz (Qld hj)];simp only [List.take_zero,Yo,List.flatMap_nil,List.nil_append,pos,sl,Qlj,Qld hj,Qlu];omega
 |j+1,hj=>by
  have:=Q3C (j:=j) (by omega);rw [Mz (Qld hj),List.length_append,this,pos];simp only [sl,Qlj,Qld hj,Qlu];omega
omit hs in
theorem Q9k {i j:Nat} (a:i<=j):pos Se s i<=pos Se s j:=by
 induction j with
 |zero=>rw [show i=0 by omega];omega
 |succ j ih=>
  by_cases e:i=j+1
  ·subst e;omega
  ·have:=ih (by omega);rw [pos];omega
theorem Q6x {i j:Nat} (a:i<j) (h2:j<s.length):pos Se s i+2<=pos Se s j:=by
 obtain ⟨_,_,_,_,_,_,_,_,b,_⟩:=Ef hs (j:=i+1) (by omega);have:=Q9k (Se:=Se) (s:=s) (i:=i+1) (j:=j) (by omega);rw [pos] at this;omega
end
def YV (Se s:LL) (nm:List UInt8) (tl sp ac br:Int):Run:=⟨Yo Se s,nm,sp,ac,br,tl.toNat,sl Se s 0,pos Se s (s.length-1)⟩
section
variable {St Pt Se Li s:LL} (h:RtF St Pt Se Li s) {nm:List UInt8} {tl sp ac br:Int} (hk:StkN tl sp ac br)
include h
theorem BQ:Tt Se s=(sl Se s 0:Int):=by
 have l2:=h.l2;obtain ⟨x,d,_,b,c,st,e,a,_⟩:=Ef h.st (j:=0) (by omega);cases s with
 |nil=>cases e
 |cons r t=>
  injection e with e
  subst e;simp only [Tt,a]
include hk
theorem MB:(YV Se s nm tl sp ac br).OK where
 hC:=Q8K h.st h.l24
 hk:=by
  have:=hk.t1;show StkN ((tl.toNat:Nat):Int) sp ac br;rw [show ((tl.toNat:Nat):Int)=tl by omega];exact hk
 hN:=by
  have l2:=h.l2;have:=Q3C (Se:=Se) (s:=s) (j:=s.length-1) (by omega);rw [show s.length-1+1=s.length by omega,QlA] at this;exact this
 h2:=by
  have l2:=h.l2;have:=Q6x h.st (i:=0) (j:=s.length-1) (by omega) (by omega);show 2<=pos Se s (s.length-1);omega
end
section
variable {St Pt Se Li s:LL} (h:RtF St Pt Se Li s) {nm:List UInt8} {tl sp ac br:Int} (hk:StkN tl sp ac br)
def fEN (Se s:LL) (X:Run) (j:Nat):Int:=X.T (pos Se s (j-1))
def fLV (Se s:LL) (X:Run) (j:Nat):Int:=if j<s.length-1 then X.T (pos Se s j+X.t) else X.T X.N
def Q0F (X:Run):Int:=cd (X.T X.N) 1000
include h hk
theorem tEq:(((YV Se s nm tl sp ac br).t:Nat):Int)=tl:=by
 have _:=h.l2;have:=hk.t1;show ((tl.toNat:Nat):Int)=tl;omega
theorem QdH:JE 400 (Yo Se s) (sl Se s 0:Int) nm tl sp ac br Tu2=some ((YV Se s nm tl sp ac br).TT,0):=by
 have:=Run.timA (MB h (nm:=nm) hk);rw [tEq h hk] at this;exact this
theorem Qde:PY 400 (Yo Se s) (sl Se s 0:Int) nm tl sp ac br Tu2=some ((YV Se s nm tl sp ac br).TT,0):=by
 have:=Run.timB (MB h (nm:=nm) hk);rw [tEq h hk] at this;exact this
theorem Q0Z {b:Nat} (hb:b<=(YV Se s nm tl sp ac br).N):0<=(YV Se s nm tl sp ac br).T b/\(YV Se s nm tl sp ac br).T b<=7000000:=by
 have hX:=MB h (nm:=nm) hk;have a:=Run.T_rng hX b hb;have:=hX.hN;have:=hX.hC.len;omega
theorem Mp:0<=Q0F (YV Se s nm tl sp ac br)/\Q0F (YV Se s nm tl sp ac br)<=7001:=by
 have a:=Q0Z h (nm:=nm) hk (Qlq _);have:=L9 a.1 (show (1:Int)<=1000 by decide);unfold Q0F;omega
theorem QdZ {j:Nat} (hj:j<s.length):pos Se s j<=(YV Se s nm tl sp ac br).N/\(j<s.length-1->pos Se s j+(YV Se s nm tl sp ac br).t<=(YV Se s nm tl sp ac br).N):=by
 have a:=Q9k (Se:=Se) (s:=s) (i:=j) (j:=s.length-1) (by omega);have h2:=tEq h (nm:=nm) hk;have:=hk.t2;refine ⟨a,fun b=>?_⟩;have:=Q6x h.st (i:=j) (j:=s.length-1) b (by omega);show pos Se s j+_<=pos Se s (s.length-1);omega
theorem QeP:Hc 400 St Pt Se Li s 0 nm tl sp ac br Tu4=some (arr (fEN Se s (YV Se s nm tl sp ac br)) s.length,arr (fLV Se s (YV Se s nm tl sp ac br)) s.length,Q0F (YV Se s nm tl sp ac br),0):=by
 have l2:=h.l2;have l24:=h.l24;have ht:=tEq h (nm:=nm) hk;have hX:=MB h (nm:=nm) hk;have au:=hX.hN;have ar:=hX.hC.len;have ao:=QdH h (nm:=nm) hk;have ak:=fun (j:Nat) (hj:j<s.length)=>QdZ h (nm:=nm) hk hj
 have an:=Q0Z h (nm:=nm) hk (Qlq _);have hN:(YV Se s nm tl sp ac br).N=pos Se s (s.length-1):=rfl;unfold Hc;rw [QiC h.lay rfl h.l2 h.l24 h.rt h.st hk,Q0,Qa (by rfl),BQ h,ao,Q0,Q0X h.l24,Q0];revert hX au ar ak an hN ht;generalize YV Se s nm tl sp ac br=X;intro ht hX au ar ak an hN;have p:∀ k0:Int->Int->Bool->LL->LL->Option (LL × LL × Int × Int),XW 400 X.TT s s ((s.length:Nat):Int) Se tl k0 400 0 0 [] []=k0 ((pos Se s (s.length-1):Nat):Int) ((s.length:Nat):Int) false (arr (fEN Se s X) s.length) (arr (fLV Se s X) (s.length-1)):=by
  intro k0;refine Qm (r:=fun m i=>XW 400 X.TT s s ((s.length:Nat):Int) Se tl k0 m ((pos Se s (i.toNat-1):Nat):Int) i (arr (fEN Se s X) i.toNat) (arr (fLV Se s X) (min i.toNat (s.length-1)))) (N:=s.length) (fun m i hi=>?_) (fun m=>?_) s.length 400 0 (by omega) (by omega)
  ·simp only [Int.toNat_natCast];obtain ⟨x,d,a3,b,c,st,e,q,a0,a1,hd⟩:=Ef h.st hi;have hp:=ak (i-1) (by omega);have f:=ak i hi;rw [XW,Q8 hi,Qle,Q9,e];have hT:Q1 X.TT ((pos Se s (i-1):Nat):Int)=some [Q4 (fEN Se s X i)]:=by rw [Q9];exact Gh (by omega)
   have hr:Y6 (((arr (fEN Se s X) i).length+List.length [[D.int .i64 (fEN Se s X i)]])*8)=some ():=Xr (by simp only [YZ,Qlt,Qlw];omega);simp -implicitDefEqProofs only [Q0,List.getElem?_cons_zero,List.getElem?_cons_succ,Q2,hT,hr,RM,wI (show (i:Int)+1=((i+1:Nat):Int) by omega) (by omega) (by omega),wI (show ((s.length:Nat):Int)-1=((s.length-1:Nat):Int) by omega) (by omega) (by omega)];have aw:i<s.length-1->Q1 X.TT ((pos Se s i+X.t:Nat):Int)=some [Q4 (fLV Se s X i)]:=fun aj=>by
    have:=f.2 aj;rw [Q9];show (arr X.T (X.N+1))[pos Se s i+X.t]? = _;rw [Gh (by omega)];unfold fLV;rw [Qli aj]
   have a:∀ k,k<=30->Y6 (((arr (fLV Se s X) k).length+List.length [[D.int .i64 (fLV Se s X k)]])*8)=some ():=fun k hk=>Xr (by simp only [YZ,Qlt,Qlw];omega)
   by_cases t:i=0
   ·subst t;have aq:0<s.length-1:=by omega
    have:=aw aq;rw [show decide (((0:Nat):Int)>0)=false from rfl,Qlc,Q8 aq,Qle,wI (show ((pos Se s (0-1):Nat):Int)+tl=((pos Se s 0+X.t:Nat):Int) by rw [<- ht,show 0-1=0 from rfl];omega) (by omega) (by omega),this,Nat.min_eq_left (by omega),Nat.min_eq_left (by omega)];simp -implicitDefEqProofs only [Q0,List.getElem?_cons_zero,Q2,a 0 (by omega),RM]
   ·have a2:pos Se s i=pos Se s (i-1)+sl Se s i:=by
     obtain ⟨k,rfl⟩:∃ k,i=k+1:=⟨i-1,by omega⟩;rfl
    rw [show decide ((i:Int)>0)=true by simp;omega,Qle,q];simp -implicitDefEqProofs only [Q0,List.getElem?_cons_zero,List.getElem?_cons_succ,Q2,wI (show ((pos Se s (i-1):Nat):Int)+((sl Se s i:Nat):Int)=((pos Se s i:Nat):Int) by omega) (by omega) (by omega),Qlo];by_cases aj:i<s.length-1
    ·rw [Q8 aj,Qle,wI (show ((pos Se s i:Nat):Int)+tl=((pos Se s i+X.t:Nat):Int) by omega) (by have:=f.2 aj;omega) (by have:=f.2 aj;omega),aw aj,Nat.min_eq_left (by omega),Nat.min_eq_left (by omega)];simp -implicitDefEqProofs only [Q0,List.getElem?_cons_zero,Q2,a i (by omega),RM]
    ·rw [show decide ((i:Int)<((s.length-1:Nat):Int))=false by simp;omega,Qlc,Nat.min_eq_right (by omega),Nat.min_eq_right (by omega)]
  ·simp only [Int.toNat_natCast];rw [XW,Qi,Qlc,Nat.min_eq_right (by omega)]
 rw [p];have hT:Q1 X.TT ((pos Se s (s.length-1):Nat):Int)=some [Q4 (fLV Se s X (s.length-1))]:=by
  rw [Q9];show (arr X.T (X.N+1))[pos Se s (s.length-1)]? = _;rw [Gh (by omega)];unfold fLV;rw [Qlk (by omega),hN]
 have hl:fLV Se s X (s.length-1)=X.T X.N:=by unfold fLV;rw [Qlk (by omega)]
 have a:Y6 (((arr (fLV Se s X) (s.length-1)).length+List.length [[D.int .i64 (fLV Se s X (s.length-1))]])*8)=some ():=Xr (by simp only [YZ,Qlt,Qlw];omega);simp -implicitDefEqProofs only [hT,Q0,List.getElem?_cons_zero,Q2,a,RM];rw [hl,upA an.1 (by omega),Q0,show s.length-1+1=s.length by omega];rfl
theorem Qhp:PC 400 St Pt Se Li s 0 nm tl sp ac br Tu4=some (arr (fEN Se s (YV Se s nm tl sp ac br)) s.length,arr (fLV Se s (YV Se s nm tl sp ac br)) s.length,Q0F (YV Se s nm tl sp ac br),0):=by
 have l2:=h.l2;have l24:=h.l24;have ht:=tEq h (nm:=nm) hk;have t1:=hk.t1;have hX:=MB h (nm:=nm) hk;have au:=hX.hN;have ar:=hX.hC.len;have aq:=Qde h (nm:=nm) hk;have aj:=fun (j:Nat) (hj:j<s.length)=>QdZ h (nm:=nm) hk hj
 have an:=Q0Z h (nm:=nm) hk (Qlq _);have hN:(YV Se s nm tl sp ac br).N=pos Se s (s.length-1):=rfl;unfold PC;rw [Q9X h hk,Q0,Qa (by rfl),Q9D h,Q0,BQ h,aq,Q0];revert hX au ar aj an hN ht;generalize YV Se s nm tl sp ac br=X;intro ht hX au ar aj an hN;have ak:X.TT.length=X.N+1:=YZ;have hw:wJ (((s.length:Nat):Int)-0)=((s.length:Nat):Int):=by rw [Q6 (by omega) (by omega)];omega
 have p:∀ k0:Int->Int->Bool->LL->LL->Option (LL × LL × Int × Int),Zv 400 X.TT Se s 0 tl k0 400 0 0 [] []=k0 ((pos Se s (s.length-1):Nat):Int) ((s.length:Nat):Int) false (arr (fEN Se s X) s.length) (arr (fLV Se s X) s.length):=by
  intro k0;refine Qm (r:=fun m i=>Zv 400 X.TT Se s 0 tl k0 m ((pos Se s (i.toNat-1):Nat):Int) i (arr (fEN Se s X) i.toNat) (arr (fLV Se s X) i.toNat)) (N:=s.length) (fun m i hi=>?_) (fun m=>?_) s.length 400 0 (by omega) (by omega)
  ·simp only [Int.toNat_natCast];obtain ⟨x,d,a3,b,c,st,e,q,a0,a1,hd⟩:=Ef h.st hi;have hp:=aj (i-1) (by omega);have t:=aj i hi;have hT:Q1 X.TT ((pos Se s (i-1):Nat):Int)=some [Q4 (fEN Se s X i)]:=by rw [Q9];exact Gh (by omega)
   have hr:Y6 (((arr (fEN Se s X) i).length+List.length [[D.int .i64 (fEN Se s X i)]])*8)=some ():=Xr (by simp only [YZ,Qlt,Qlw];omega);have a:Y6 (((arr (fLV Se s X) i).length+List.length [[D.int .i64 (fLV Se s X i)]])*8)=some ():=Xr (by simp only [YZ,Qlt,Qlw];omega);have aw:Q1 X.TT (if ((X.N:Nat):Int)<((pos Se s i+X.t:Nat):Int) then ((X.N:Nat):Int) else ((pos Se s i+X.t:Nat):Int))=some [Q4 (fLV Se s X i)]:=by
    unfold fLV;by_cases ao:i<s.length-1
    ·have:=t.2 ao;rw [Qlk (by omega),Qli ao,Q9];exact Gh (by omega)
    ·have e:i=s.length-1:=by omega
     rw [Qli (by rw [hN,e];omega),Qlk ao,Q9];exact Gh (by omega)
   rw [Zv,hw,Q8 hi,Qle,ak,wI (show ((X.N+1:Nat):Int)-1=((X.N:Nat):Int) by omega) (by omega) (by omega)];simp -implicitDefEqProofs only [Q0,List.getElem?_cons_zero,List.getElem?_cons_succ,Q2,hT,hr,RM,wI (show (i:Int)+1=((i+1:Nat):Int) by omega) (by omega) (by omega)];by_cases u:i=0
   ·subst u;rw [show decide (((0:Nat):Int)>0)=false from rfl,Qlc,wI (show ((pos Se s (0-1):Nat):Int)+tl=((pos Se s 0+X.t:Nat):Int) by rw [<- ht,show 0-1=0 from rfl];omega) (by omega) (by omega),aw];simp -implicitDefEqProofs only [Q0,List.getElem?_cons_zero,Q2,a,RM]
   ·have a2:pos Se s i=pos Se s (i-1)+sl Se s i:=by
     obtain ⟨k,rfl⟩:∃ k,i=k+1:=⟨i-1,by omega⟩;rfl
    rw [show decide ((i:Int)>0)=true by simp;omega,Qle,Q9,e];simp -implicitDefEqProofs only [Q0,List.getElem?_cons_zero,List.getElem?_cons_succ,Q2,q,wI (show ((pos Se s (i-1):Nat):Int)+((sl Se s i:Nat):Int)=((pos Se s i:Nat):Int) by omega) (by omega) (by omega),wI (show ((pos Se s i:Nat):Int)+tl=((pos Se s i+X.t:Nat):Int) by omega) (by omega) (by omega),aw,a,RM,Qlo]
  ·simp only [Int.toNat_natCast];rw [Zv,hw,Qi,Qlc]
 have hT:Q1 X.TT ((X.N:Nat):Int)=some [Q4 (X.T X.N)]:=by rw [Q9];exact Gh (by omega)
 rw [p,ak,wI (show ((X.N+1:Nat):Int)-1=((X.N:Nat):Int) by omega) (by omega) (by omega)];simp -implicitDefEqProofs only [hT,Q0,List.getElem?_cons_zero,Q2,Qd6 (n:=400) an.1 (show (1:Int)<=1000 by decide) (by omega)];rfl
end
abbrev Occ:=Int × Int × Int
def enc (q:Occ):List D:=[Q4 q.1,Q4 q.2.1,Q4 q.2.2]
def Pf (q:Occ):Bool:=decide (q.2.1<q.2.2)
def Nq (T:List Occ) (r:Nat) (f t:Int):List Occ:=match T[r]? with
 |some (_,a,b)=>if a<b then T.set r ((r:Int),(if a<f then a else f),(if t<b then b else t)) else T.set r ((r:Int),f,t)
 |none=>T
theorem Px {T:List Occ} {r:Nat} {f t:Int}:(Nq T r f t).length=T.length:=by
 unfold Nq;split
 ·split <;> simp
 ·rfl
theorem QfZ {n:Nat} {T:List Occ} {r:Nat} {f t:Int} (h:r<T.length):Xp n (T.map enc) (r:Int) f t (some:LL->Option LL)=some ((Nq T r f t).map enc):=by
 obtain ⟨⟨x,a,b⟩,e⟩:∃ q,T[r]? = some q:=⟨T[r],Qld h⟩;have e2:(T.map enc)[r]? = some [Q4 x,Q4 a,Q4 b]:=by rw [Qls,e];rfl
 unfold Xp;rw [Qlp,Y0 (by omega) (by omega)];simp -implicitDefEqProofs only [Q0,List.getElem?_cons_zero,List.getElem?_cons_succ,Q2,Xw,Qw,Qle,Qlc,Qlg,Qlf,Int.toNat_natCast,e2,List.set_cons_zero,List.set_cons_succ];unfold Nq;simp only [e];by_cases ac:a<b
 ·rw [show decide (a<b)=true by simpa using ac,Qle,Qli ac,List.map_set];rfl
 ·rw [show decide (a<b)=false by simpa using ac,Qlc,Qlk ac,List.map_set];rfl
theorem Qij {n:Nat} {T:List Occ} {r:Nat} {f t:Int} (h:r<T.length) (aj:f<t):YX n (T.map fun q=>[D.bool (Pf q)]) (T.map enc) (r:Int) f t Tu2=some ((Nq T r f t).map (fun q=>[D.bool (Pf q)]),(Nq T r f t).map enc):=by
 obtain ⟨⟨x,a,b⟩,e⟩:∃ q,T[r]? = some q:=⟨T[r],Qld h⟩;have e2:(T.map enc)[r]? = some [Q4 x,Q4 a,Q4 b]:=by rw [Qls,e];rfl
 have g:(T.map fun q=>[D.bool (Pf q)])[r]? = some [D.bool (decide (a<b))]:=by rw [Qls,e];rfl
 unfold YX;rw [Qlp,Qlp,Y0 (by omega) (by omega)];simp -implicitDefEqProofs only [Q0,List.getElem?_cons_zero,List.getElem?_cons_succ,Q2,Xw,Qw,Qle,Qlc,Qlg,Qlf,Int.toNat_natCast,e2,g,PM,List.set_cons_zero,List.set_cons_succ];unfold Nq;simp only [e];by_cases ac:a<b
 ·rw [show decide (a<b)=true by simpa using ac,Qle,Qli ac,List.map_set,List.map_set,show Pf ((r:Int),(if a<f then a else f),(if t<b then b else t))=true by simp only [Pf,decide_eq_true_eq];split <;> split <;> omega];rfl
 ·rw [show decide (a<b)=false by simpa using ac,Qlc,Qlk ac,List.map_set,List.map_set,show Pf ((r:Int),f,t)=true by simpa [Pf] using aj];rfl
theorem Q4a:∀ {l:List Occ} {i:Nat} {a:Occ},((l.set i a).filter Pf).length<=(l.filter Pf).length+1
 |[],i,a=>by simp
 |x::l,0,a=>by
  rw [List.set_cons_zero,QlC,QlC];split <;> split <;> simp <;> omega
 |x::l,i+1,a=>by
  have:=Q4a (l:=l) (i:=i) (a:=a);rw [List.set_cons_succ,QlC,QlC];split <;> simp <;> omega
theorem Q2U {T:List Occ} {r:Nat} {f t:Int}:((Nq T r f t).filter Pf).length<=(T.filter Pf).length+1:=by
 unfold Nq;split
 ·split <;> exact Q4a
 ·omega
theorem Qi6 {T:List Occ} (hl:T.length<=300):VD 400 (T.map enc) (some:LL->Option LL)=some ((T.filter Pf).map enc):=by
 unfold VD;rw [Qlp];refine Qm (r:=fun m i=>XX 400 (T.map enc) ((T.length:Nat):Int) (fun _ _ w=>some w) m i (((T.take i.toNat).filter Pf).map enc)) (N:=T.length) (fun m k hk=>?_) (fun m=>?_) T.length 400 0 (by omega) (by omega)
 ·simp only [Int.toNat_natCast];obtain ⟨⟨x,a,b⟩,e⟩:∃ q,T[k]? = some q:=⟨T[k],Qld hk⟩;have aj:((((T.take k).filter Pf).map enc).length)<=300:=by
   rw [Qlp];have:=List.length_filter_le Pf (T.take k);rw [List.length_take] at this;omega
  rw [XX,Q8 hk,Q9,Qls,e,Yn e,List.filter_append,QlB];simp -implicitDefEqProofs only [Q0,List.getElem?_cons_zero,List.getElem?_cons_succ,Q2,Xw,Qw,Qle,Qlc,Qlg,Qlf,Option.map_some,enc,Ql (show k<=1000 by omega)];by_cases ac:a<b
  ·rw [show decide (a<b)=true by simpa using ac,Qle,show [(x,a,b)].filter Pf=[(x,a,b)] by simp [Pf,ac],Xr (by simp only [Qlt,Qlw];omega)];rfl
  ·rw [show decide (a<b)=false by simpa using ac,Qlc,show [(x,a,b)].filter Pf=[] by simp [Pf,ac],List.map_nil,List.append_nil]
 ·simp only [Int.toNat_natCast];rw [XX,Qi,Qlc,QlA]
theorem Qhl {R:Type} {T:List Occ} (hl:T.length<=300) (K:LL->oP R):Vm 400 ((T.length:Nat):Int) (T.map fun q=>[D.bool (Pf q)]) (T.map enc) (fun _ _ w=>K w) 400 0 []=K ((T.filter Pf).map enc):=by
 refine Qm (r:=fun m i=>Vm 400 ((T.length:Nat):Int) (T.map fun q=>[D.bool (Pf q)]) (T.map enc) (fun _ _ w=>K w) m i (((T.take i.toNat).filter Pf).map enc)) (N:=T.length) (fun m k hk=>?_) (fun m=>?_) T.length 400 0 (by omega) (by omega)
 ·simp only [Int.toNat_natCast];obtain ⟨⟨x,a,b⟩,e⟩:∃ q,T[k]? = some q:=⟨T[k],Qld hk⟩;have aj:((((T.take k).filter Pf).map enc).length)<=300:=by
   rw [Qlp];have:=List.length_filter_le Pf (T.take k);rw [List.length_take] at this;omega
  rw [Vm,Q8 hk,Qlp,Qlp,Y0 (by omega) (by omega),Int.toNat_natCast,Qls,Qls,e,Yn e,List.filter_append,QlB];simp -implicitDefEqProofs only [Q0,List.getElem?_cons_zero,List.getElem?_cons_succ,Q2,Xw,Qw,Qle,Qlc,Qlg,Qlf,Option.map_some,enc,show Pf (x,a,b)=decide (a<b) from rfl,PM,Ql (show k<=1000 by omega)];by_cases ac:a<b
  ·rw [show decide (a<b)=true by simpa using ac,Qle,show [(x,a,b)].filter Pf=[(x,a,b)] by simp [Pf,ac],Xr (by simp only [Qlt,Qlw];omega)];rfl
  ·rw [show decide (a<b)=false by simpa using ac,Qlc,show [(x,a,b)].filter Pf=[] by simp [Pf,ac],List.map_nil,List.append_nil]
 ·simp only [Int.toNat_natCast];rw [Vm,Qi,Qlc,QlA]
def pt (Li s:LL) (i:Nat):Int:=pv (Qet Li (s.getD (i-1) []) (s.getD i []))
def sec (s:LL) (i:Nat):Nat:=match s.getD i [] with
 |.int _ x::_=>x.toNat
 |_=>0
def fr (Se s:LL) (X:Run) (bf:Int) (i:Nat):Int:=if i=0 then -bf else fEN Se s X (i-1) / 1000-16
def tu (Se s:LL) (X:Run) (af:Int) (i:Nat):Int:=if i<s.length-1 then cd (fLV Se s X i) 1000+4 else Q0F X+af
def Tg (N NP:Nat) (Li s:LL) (f g:Nat->Int):Nat->List Occ
 |0=>List.replicate (N+NP) (0,0,0)
 |i+1=>if i=0 then Nq (Tg N NP Li s f g i) (sec s i) (f i) (g i) else if pt Li s i<0 then Nq (Tg N NP Li s f g i) (sec s i) (f i) (g i) else Nq (Nq (Tg N NP Li s f g i) (sec s i) (f i) (g i)) (N+(pt Li s i).toNat) (f i) (g (i-1))
theorem T9 {N NP:Nat} {Li s:LL} {f g:Nat->Int}:∀ {i:Nat},(Tg N NP Li s f g i).length=N+NP
 |0=>by simp [Tg]
 |i+1=>by
  rw [Tg];split
  ·rw [Px,T9]
  ·split <;> simp only [Px,T9]
theorem Q21 {N NP:Nat} {Li s:LL} {f g:Nat->Int} {j:Nat}:Tg N NP Li s f g (j+1+1)=if pt Li s (j+1)<0 then Nq (Tg N NP Li s f g (j+1)) (sec s (j+1)) (f (j+1)) (g (j+1)) else Nq (Nq (Tg N NP Li s f g (j+1)) (sec s (j+1)) (f (j+1)) (g (j+1))) (N+(pt Li s (j+1)).toNat) (f (j+1)) (g j):=by
 show (if j+1=0 then _ else _)=_;rw [Qlk (by omega)];rfl
def Q5w (St Pt Se Li s:LL) (X:Run) (bf af:Int):List Occ:=(Tg Se.length Pt.length Li s (fr Se s X bf) (tu Se s X af) s.length).filter Pf
section
variable {N NP:Nat} {Li:LL}
theorem Q5B:∀ {s:LL} {k:Nat},Q0h N NP Li k s=true->∀ i,i+1<s.length->∃ p,Qet Li (s.getD i []) (s.getD (i+1) [])=some p/\ptR [] [] (List.replicate N []) Li (s.getD i []) (s.getD (i+1) [])=some p /\ -1<=p/\p<NP
 |[],_,_,i,hi=>by simp at hi
 |[_],_,_,i,hi=>by simp at hi
 |r::r'::t,k,h,i,hi=>by
  rw [Q0h] at h;split at h
  ·rename_i p q e1 e2;simp only [Qlx,beq_iff_eq,decide_eq_true_eq] at h;obtain ⟨rfl,a,h2,b⟩:=h;cases i with
   |zero=>exact ⟨p,e1,e2,a,h2⟩
   |succ i=>exact Q5B b i (by simpa using hi)
  ·cases h
theorem Q7p:∀ {s:LL} {k:Nat},Q0h N NP Li k s=true->∀ (c:Nat->Nat),(∀ i,c (i+1)<=c i+(if pt Li s (i+1)<0 then 1 else 2))->c 0<=k->∀ i,i<s.length->c i<=5
 |[],_,_,_,_,_,i,hi=>by simp at hi
 |[r],k,h,c,hc,f,i,hi=>by
  have:i=0:=by simpa using hi
  subst this;have:k<=5:=QlE h;omega
 |r::r'::t,k,h,c,hc,f,i,hi=>by
  rw [Q0h] at h;split at h
  ·rename_i p q e1 e2;simp only [Qlx,beq_iff_eq,decide_eq_true_eq] at h;obtain ⟨rfl,j,h2,e⟩:=h;have hp:pt Li (r::r'::t) 1=p:=by show pv (Qet Li r r')=p;rw [e1];rfl
   have d:c 1<=c 0+(if pt Li (r::r'::t) 1<0 then 1 else 2):=hc 0;rw [hp] at d;have g:c 1<=(bif decide (p<0) then k+1 else k+2):=by
    by_cases hq:p<0
    ·rw [Qli hq] at d;rw [show decide (p<0)=true by simpa using hq,Qle];omega
    ·rw [Qlk hq] at d;rw [show decide (p<0)=false by simpa using hq,Qlc];omega
   have ih:=Q7p e (fun i=>c (i+1)) (fun i=>hc (i+1)) g;cases i with
   |zero=>
    have:=ih 0 (by simp);have hq:c 0<=5:=by
     have ac:∀ {s:LL} {k:Nat},Q0h N NP Li k s=true->k<=5:=by
      intro s;induction s with
      |nil=>exact fun h=>QlE h
      |cons a s ih=>
       intro k h;cases s with
       |nil=>exact QlE h
       |cons b s=>
        rw [Q0h] at h;split at h
        ·simp only [Qlx] at h;have:=ih h.2.2.2;revert this;cases decide (_<(0:Int)) <;> simp <;> omega
        ·cases h
     have:=ac e;revert this;cases decide (p<0) <;> simp <;> omega
    exact hq
   |succ i=>exact ih i (by simpa using hi)
  ·cases h
end
theorem MA {α:Type} {l:List α} {n:Nat} (h:l.length=n):Tc l n=some ():=by
 grind [Tc,Nat.beq,Nat.beq_refl]
def spn (f g:Nat->Int) (n:Nat):LL:=(List.range n).map fun i=>[Q4 0,Q4 (f i),Q4 (g i)]
theorem Q8V {f g:Nat->Int} {n:Nat}:(spn f g n).length=n:=by simp [spn]
theorem Qgj {f g:Nat->Int} {n i:Nat} (h:i<n):(spn f g n)[i]? = some [Q4 0,Q4 (f i),Q4 (g i)]:=by simp [spn,h]
theorem Q6I {f g:Nat->Int} {n:Nat}:spn f g n++[[Q4 0,Q4 (f n),Q4 (g n)]]=spn f g (n+1):=by simp [spn,List.range_succ]
theorem MH {St Pt Se Li:LL} (h:TU 400 St Pt Se Li=true):Pt.length<=48/\Se.length<=96:=by
 simp_all [TU,Qlx,QlE]
theorem QaS {l:List Occ}:FY [l.map enc]=some ():=by
 unfold FY;rw [show ([l.map enc].all A3)=true by simp [A3,enc,Q5I]];rfl
section
variable {St Pt Se Li s:LL} (h:RtF St Pt Se Li s) {nm:List UInt8} {tl sp ac br bf af:Int} (hk:StkN tl sp ac br) (hb0:0<=bf) (hb1:bf<=65536) (ha0:0<=af) (ha1:af<=65536)
include h hk
theorem Q1s {i j:Nat} (ak:i<=j) (hj:j<s.length):0<=fEN Se s (YV Se s nm tl sp ac br) i/\fEN Se s (YV Se s nm tl sp ac br) i<=fLV Se s (YV Se s nm tl sp ac br) j/\fLV Se s (YV Se s nm tl sp ac br) j<=7000000:=by
 have hX:=MB h (nm:=nm) hk;have a:=QdZ h (nm:=nm) hk hj;have h2:=Q9k (Se:=Se) (s:=s) (i:=i-1) (j:=j) (by omega);have c:=Q0Z h (nm:=nm) hk (b:=pos Se s (i-1)) (by omega);unfold fEN fLV;by_cases hm:j<s.length-1
 ·rw [Qli hm];exact ⟨c.1,Run.T_mono hX (by omega) (a.2 hm),(Q0Z h (nm:=nm) hk (a.2 hm)).2⟩
 ·rw [Qlk hm];exact ⟨c.1,Run.T_mono hX (by omega) (Qlq _),(Q0Z h (nm:=nm) hk (Qlq _)).2⟩
include hb0 hb1 ha0 ha1
theorem Qgc {i:Nat} (hi:i<s.length) : -70000<=fr Se s (YV Se s nm tl sp ac br) bf i/\fr Se s (YV Se s nm tl sp ac br) bf i<tu Se s (YV Se s nm tl sp ac br) af i/\tu Se s (YV Se s nm tl sp ac br) af i<=80000/\(1<=i->fr Se s (YV Se s nm tl sp ac br) bf i<tu Se s (YV Se s nm tl sp ac br) af (i-1)):=by
 have l2:=h.l2;have hr:=Mp h (nm:=nm) hk;have hN:=Q1s h (nm:=nm) hk (i:=i-1) (j:=s.length-1) (by omega) (by omega);have b:=Q1s h (nm:=nm) hk (i:=i-1) (j:=i) (by omega) hi;have c:=Q1s h (nm:=nm) hk (i:=i-1) (j:=i-1) (by omega) (by omega);have c1:=L9 (a:=fLV Se s (YV Se s nm tl sp ac br) i) (by omega) (show (1:Int)<=1000 by decide);have c0:=L9 (a:=fLV Se s (YV Se s nm tl sp ac br) (i-1)) (by omega) (show (1:Int)<=1000 by decide);have hl:fLV Se s (YV Se s nm tl sp ac br) (s.length-1)=(YV Se s nm tl sp ac br).T (YV Se s nm tl sp ac br).N:=by unfold fLV;rw [Qlk (by omega)]
 have cN:=L9 (a:=fLV Se s (YV Se s nm tl sp ac br) (s.length-1)) (by omega) (show (1:Int)<=1000 by decide);have aj:Q0F (YV Se s nm tl sp ac br)=cd (fLV Se s (YV Se s nm tl sp ac br) (s.length-1)) 1000:=by rw [hl];rfl
 unfold fr tu;omega
theorem QfH:Wj 400 St Pt Se Li s 0 nm tl sp ac br bf af Tu3=some ((Q5w St Pt Se Li s (YV Se s nm tl sp ac br) bf af).map enc,Q0F (YV Se s nm tl sp ac br),0):=by
 have l2:=h.l2;have l24:=h.l24;have a4:=Mp h (nm:=nm) hk;have aj:=fun i j (a7:i<=j) (hj:j<s.length)=>Q1s h (nm:=nm) hk (i:=i) (j:=j) a7 hj
 have aq:=fun i (hi:i<s.length)=>Qgc h (nm:=nm) hk hb0 hb1 ha0 ha1 hi
 have bb:=QeP h (nm:=nm) hk;have bl:=MH h.lay;unfold Wj;rw [Qe4 h.lay rfl h.l2 h.l24 h.rt h.st hk,Q0,Qa (by rfl),show decide (bf<0)=false by simpa using hb0,show decide (bf>65536)=false by simpa using hb1,show decide (af<0)=false by simpa using ha0,show decide (af>65536)=false by simpa using ha1];simp -implicitDefEqProofs only [Qlc];unfold ZY;rw [bb];revert a4 aj aq;generalize YV Se s nm tl sp ac br=X;intro a4 aj aq;have z:wJ (((s.length:Nat):Int)-1)=((s.length-1:Nat):Int):=Jy (by omega) (by omega);have aa:wJ (((s.length-1:Nat):Int)-1)=((s.length-1-1:Nat):Int):=Jy (by omega) (by omega);have ax:∀ i,i<s.length->Q1 (arr (fEN Se s X) s.length) (i:Int)=some [Q4 (fEN Se s X i)]:=fun i hi=>by rw [Q9];exact Gh hi
 have az:∀ i,i<s.length->Q1 (arr (fLV Se s X) s.length) (i:Int)=some [Q4 (fLV Se s X i)]:=fun i hi=>by rw [Q9];exact Gh hi
 have aw:∀ i,i<s.length->Vw 400 (fEN Se s X i) (some:Int->Option Int)=some (fEN Se s X i / 1000):=fun i hi=>Qha (aj i i (Qlq i) hi).1 (by have:=aj i i (Qlq i) hi;omega)
 have a3:∀ i,i<s.length->JZ 400 (fLV Se s X i) (some:Int->Option Int)=some (cd (fLV Se s X i) 1000):=fun i hi=>upA (by have:=aj i i (Qlq i) hi;omega) (by have:=aj i i (Qlq i) hi;omega)
 have ak:∀ (k:Nat) (r:List D),k<=30->Y6 (((spn (fr Se s X bf) (tu Se s X af) k).length+[r].length)*24)=some ():=fun k r hk=>Xr (by simp only [Q8V,Qlt,Qlw];omega)
 have f0:fr Se s X bf 0 = -bf:=rfl;have t0:tu Se s X af 0=cd (fLV Se s X 0) 1000+4:=by unfold tu;rw [Qli (by omega)]
 have q0:=aq 0 (by omega);rw [Q0,Qa (by rfl)];dsimp only;rw [show (0:Int)=((0:Nat):Int) from rfl,az 0 (by omega)];simp -implicitDefEqProofs only [Q0,List.getElem?_cons_zero,Q2,a3 0 (by omega),YZ,z];have ad:∀ k0:Int->Bool->LL->Option (LL × Int × Int),XM 400 (arr (fEN Se s X) s.length) (arr (fLV Se s X) s.length) ((s.length-1:Nat):Int) k0 400 1 (spn (fr Se s X bf) (tu Se s X af) 1)=k0 ((s.length-1:Nat):Int) false (spn (fr Se s X bf) (tu Se s X af) (s.length-1)):=by
  intro k0;refine Qm (r:=fun m i=>XM 400 (arr (fEN Se s X) s.length) (arr (fLV Se s X) s.length) ((s.length-1:Nat):Int) k0 m ((i.toNat+1:Nat):Int) (spn (fr Se s X bf) (tu Se s X af) (i.toNat+1))) (N:=s.length-1-1) (fun m i hi=>?_) (fun m=>?_) (s.length-1-1) 400 0 (by omega) (by omega)
  ·simp only [Int.toNat_natCast];have hf:fr Se s X bf (i+1)=fEN Se s X i / 1000-16:=by unfold fr;rw [Qlk (by omega)];rfl
   have ht:tu Se s X af (i+1)=cd (fLV Se s X (i+1)) 1000+4:=by unfold tu;rw [Qli (by omega)]
   have q:=aq (i+1) (by omega);rw [XM,Q8 (show i+1<s.length-1 by omega),Qle,Jy (show i+1<=1000 by omega) (by omega),Qlo,ax i (by omega)];simp -implicitDefEqProofs only [Q0,List.getElem?_cons_zero,Q2,aw i (by omega),az (i+1) (by omega),a3 (i+1) (by omega),wI hf.symm (by omega) (by omega),wI ht.symm (by omega) (by omega),ak (i+1) _ (by omega),Q6I,Ql (show i+1<=1000 by omega)]
  ·simp only [Int.toNat_natCast];rw [show s.length-1-1+1=s.length-1 by omega,XM,Qi,Qlc]
 rw [show ([[D.int .i64 ((0:Nat):Int),D.int .i64 (wJ (((0:Nat):Int)-bf)),D.int .i64 (wJ (cd (fLV Se s X 0) 1000+4))]]:LL)=spn (fr Se s X bf) (tu Se s X af) 1 by
  rw [wI (show ((0:Nat):Int)-bf=fr Se s X bf 0 by omega) (by omega) (by omega),wI t0.symm (by omega) (by omega)];rfl,ad]
 have a9:fr Se s X bf (s.length-1)=fEN Se s X (s.length-1-1) / 1000-16:=by unfold fr;rw [Qlk (by omega)]
 have bc:tu Se s X af (s.length-1)=Q0F X+af:=by unfold tu;rw [Qlk (by omega)]
 have qm:=aq (s.length-1) (by omega);have a5:Jj 400 St Pt Se Li (some:LL->Option LL)=some ((Tg Se.length Pt.length Li s (fr Se s X bf) (tu Se s X af) 0).map enc):=by
  unfold Jj;rw [wI (show ((Se.length:Nat):Int)+((Pt.length:Nat):Int)=((Se.length+Pt.length:Nat):Int) by omega) (by omega) (by omega),show (bif decide ((0:Int)<=((Se.length+Pt.length:Nat):Int))&&decide (((Se.length+Pt.length:Nat):Int)<=((Se.length+Pt.length:Nat):Int)) then some () else none)=some () by rw [QZ (by simp;omega)],Q0,Int.toNat_natCast,Xr (by omega),Q0,Tg,List.map_replicate];rfl
 rw [aa,ax (s.length-1-1) (by omega)];simp -implicitDefEqProofs only [Q0,List.getElem?_cons_zero,Q2,aw (s.length-1-1) (by omega),aw (s.length-1) (by omega),ax (s.length-1) (by omega),a5,show ((0:Nat):Int)=0 from rfl,wI a9.symm (by omega) (by omega),wI bc.symm (by omega) (by omega),ak (s.length-1) _ (by omega),Q6I];rw [show s.length-1+1=s.length by omega];have ae:∀ k0:Int->Bool->LL->LL->Option (LL × Int × Int),Qk 400 ((s.length-1:Nat):Int) s ((s.length:Nat):Int) St Pt Se Li s (wJ (fEN Se s X (s.length-1) / 1000-16)) (wJ (Q0F X+20)) k0 400 0 (spn (fr Se s X bf) (tu Se s X af) s.length) ((Tg Se.length Pt.length Li s (fr Se s X bf) (tu Se s X af) 0).map enc)=k0 ((s.length:Nat):Int) false (spn (fr Se s X bf) (tu Se s X af) s.length) ((Tg Se.length Pt.length Li s (fr Se s X bf) (tu Se s X af) s.length).map enc):=by
  intro k0;refine Qm (r:=fun m i=>Qk 400 ((s.length-1:Nat):Int) s ((s.length:Nat):Int) St Pt Se Li s (wJ (fEN Se s X (s.length-1) / 1000-16)) (wJ (Q0F X+20)) k0 m i (spn (fr Se s X bf) (tu Se s X af) s.length) ((Tg Se.length Pt.length Li s (fr Se s X bf) (tu Se s X af) i.toNat).map enc)) (N:=s.length) (fun m i hi=>?_) (fun m=>?_) s.length 400 0 (by omega) (by omega)
  ·simp only [Int.toNat_natCast];obtain ⟨x,d,bk,b,c,st,e,h1,a0,a1,hd⟩:=Ef h.st hi;have hx:=H8 h1;have al:0<=x/\x<Se.length:=by
    have h2:=hx.1;unfold inB at h2;by_cases hc:0<=x/\x<Se.length
    ·exact hc
    ·rw [show (decide (0<=x)&&decide (x<(Se.length:Int)))=false by simp;omega] at h2;cases h2
   have au:x=((sec s i:Nat):Int):=by
    unfold sec;rw [Qlj,e];show x=((x.toNat:Nat):Int);omega
   have hT:=T9 (N:=Se.length) (NP:=Pt.length) (Li:=Li) (s:=s) (f:=fr Se s X bf) (g:=tu Se s X af) (i:=i);have ha:=QfZ (n:=400) (T:=Tg Se.length Pt.length Li s (fr Se s X bf) (tu Se s X af) i) (r:=sec s i) (f:=fr Se s X bf i) (t:=tu Se s X af i) (by omega);have a2:∀ j,j<s.length->(spn (fr Se s X bf) (tu Se s X af) s.length)[j]? = some [Q4 0,Q4 (fr Se s X bf j),Q4 (tu Se s X af j)]:=fun j hj=>Qgj hj
   rw [Qk,Q8 hi,Q9,e];simp -implicitDefEqProofs only [Qle,Q0,List.getElem?_cons_zero,List.getElem?_cons_succ,show decide ((i:Int)>((s.length-1:Nat):Int))=false by simp;omega,Qlc,Q2,Q8V,Y0 (len:=s.length) (show (0:Int)<=(i:Int) by omega) (show (i:Int)<(s.length:Int) by omega),Int.toNat_natCast,a2 i hi,au,ha,Ql (show i<=1000 by omega),MA (l:=(Nq (Tg Se.length Pt.length Li s (fr Se s X bf) (tu Se s X af) i) (sec s i) (fr Se s X bf i) (tu Se s X af i)).map enc) (n:=((Tg Se.length Pt.length Li s (fr Se s X bf) (tu Se s X af) i).map enc).length) (by simp only [Qlp,Px])];by_cases ah:i=0
   ·subst ah;rw [show (((0:Nat):Int) == 0)=true from rfl,Qle];rfl
   ·obtain ⟨j,rfl⟩:∃ j,i=j+1:=⟨i-1,by omega⟩;obtain ⟨x',d',bh,b',c',st',e',bg,_,_,a6⟩:=Ef h.st (j:=j) (by omega);obtain ⟨p,a,am,an,ao⟩:=Q5B h.hops j hi;rw [Qlj,Qlj,e,e',Qlu,Qlu] at a;have ba:=H8 bg;have ar:0<=x'/\x'<Se.length:=by
     have h2:=ba.1;unfold inB at h2;by_cases hc:0<=x'/\x'<Se.length
     ·exact hc
     ·rw [show (decide (0<=x')&&decide (x'<(Se.length:Int)))=false by simp;omega] at h2;cases h2
    have a8:pt Li s (j+1)=p:=by
     unfold pt;rw [Qlj,Qlj,e,Qlo,e',Qlu,Qlu,a];rfl
    have ay:=(QcV h.lay ar.1 ar.2 a6 (y:=x) (e:=d)).trans a;rw [au] at ay;rw [show (((j+1:Nat):Int) == 0)=false by simp;omega,Qlc,Jy (show j+1<=1000 by omega) (by omega),Qlo,Q9,e'];simp -implicitDefEqProofs only [Q0,List.getElem?_cons_zero,List.getElem?_cons_succ,Q2,ay];rw [Q21,a8];by_cases hp:p<0
    ·rw [show decide (p<0)=true by simpa using hp,Qle,Qli hp]
    ·have ai:=QfZ (n:=400) (T:=Nq (Tg Se.length Pt.length Li s (fr Se s X bf) (tu Se s X af) (j+1)) (sec s (j+1)) (fr Se s X bf (j+1)) (tu Se s X af (j+1))) (r:=Se.length+p.toNat) (f:=fr Se s X bf (j+1)) (t:=tu Se s X af j) (by rw [Px];omega);rw [show decide (p<0)=false by simpa using hp,Qlc,Qlk hp,show decide (((j+1:Nat):Int)<=((s.length-1:Nat):Int))=true by simp;omega,Qle];simp -implicitDefEqProofs only [Y0 (len:=s.length) (show (0:Int)<=(j:Int) by omega) (show (j:Int)<(s.length:Int) by omega),Q0,List.getElem?_cons_zero,List.getElem?_cons_succ,Q2,a2 j (by omega),wI (show ((Se.length:Nat):Int)+p=((Se.length+p.toNat:Nat):Int) by omega) (by omega) (by omega),Int.toNat_natCast,ai,Qlo];rw [MA (by simp only [Qlp,Px]),Q0]
  ·simp only [Int.toNat_natCast];rw [Qk,Qi,Qlc]
 rw [ae,Qi6 (by rw [T9];omega),Q0,QaS,Q0];rfl
end
theorem Qgn {St Pt Se Li L:LL} {x d y e p:Int} (h:ptR [] [] L Li [Q4 x,Q4 d] [Q4 y,Q4 e]=some p):∃ a b c,G0 400 St Pt Se Li x d y e Tu5=some (a,b,Q4 p,c,true):=by
 rw [QiE (a':=[]) (b':=[]) (L':=L)];unfold ptR at h;dsimp only at h;split at h
 ·rename_i he;cases h;exact ⟨_,_,_,he⟩
 ·cases h
def QcI (T:List Occ):LL:=T.map fun q=>[D.bool (Pf q)]
section
variable {St Pt Se Li s:LL} (h:RtF St Pt Se Li s) {nm:List UInt8} {tl sp ac br bf af:Int} (hk:StkN tl sp ac br) (hb0:0<=bf) (hb1:bf<=65536) (ha0:0<=af) (ha1:af<=65536)
include h hk hb0 hb1 ha0 ha1
theorem Qfd:K8 400 St Pt Se Li s 0 nm tl sp ac br bf af Tu3=some ((Q5w St Pt Se Li s (YV Se s nm tl sp ac br) bf af).map enc,Q0F (YV Se s nm tl sp ac br),0):=by
 have l2:=h.l2;have l24:=h.l24;have a8:=Mp h (nm:=nm) hk;have aw:=fun i j (bh:i<=j) (hj:j<s.length)=>Q1s h (nm:=nm) hk (i:=i) (j:=j) bh hj
 have a2:=fun i (hi:i<s.length)=>Qgc h (nm:=nm) hk hb0 hb1 ha0 ha1 hi
 have bk:=Qhp h (nm:=nm) hk;have b4:=MH h.lay;unfold K8;rw [Q9X h hk,Q0,Qa (by rfl),Q4Q hb0 hb1,Q0,Q4Q ha0 ha1];simp -implicitDefEqProofs only [Q0,Qlg,Qlc,Qlf];rw [bk];revert a8 aw a2;generalize YV Se s nm tl sp ac br=X;intro a8 aw a2;have t:wJ (((s.length:Nat):Int)-1)=((s.length-1:Nat):Int):=Jy (by omega) (by omega);have a9:∀ i,i<s.length->Q1 (arr (fEN Se s X) s.length) (i:Int)=some [Q4 (fEN Se s X i)]:=fun i hi=>by rw [Q9];exact Gh hi
 have a3:∀ i,i<s.length->Q1 (arr (fLV Se s X) s.length) (i:Int)=some [Q4 (fLV Se s X i)]:=fun i hi=>by rw [Q9];exact Gh hi
 have a4:∀ i,i<s.length->VP 400 (fEN Se s X i) 1000 (some:Int->Option Int)=some (fEN Se s X i / 1000):=fun i hi=>Qgh (aw i i (Qlq i) hi).1 (by have:=aw i i (Qlq i) hi;omega)
 have a7:∀ i,i<s.length->JC 400 (fLV Se s X i) 1000 (some:Int->Option Int)=some (cd (fLV Se s X i) 1000):=fun i hi=>Qd6 (by have:=aw i i (Qlq i) hi;omega) (by decide) (by have:=aw i i (Qlq i) hi;omega)
 have bg:wJ (((Se.length:Nat):Int)+((Pt.length:Nat):Int))=((Se.length+Pt.length:Nat):Int):=wI (by omega) (by omega) (by omega);have hg:(bif decide ((0:Int)<=((Se.length+Pt.length:Nat):Int))&&decide (((Se.length+Pt.length:Nat):Int)<=((Se.length+Pt.length:Nat):Int)) then some () else none)=some ():=by rw [QZ (by simp;omega)]
 rw [Q0];dsimp only;simp -implicitDefEqProofs only [bg,hg,Q0,Int.toNat_natCast,Xr (show (Se.length+Pt.length)*1<=100000 by omega),Xr (show (Se.length+Pt.length)*24<=100000 by omega),YZ,t];let T:Nat->List Occ:=fun i=>Tg Se.length Pt.length Li s (fr Se s X bf) (tu Se s X af) i
 have u:∀ k0:Int->Int->Bool->LL->LL->Option (LL × Int × Int),Wp 400 bf af (arr (fEN Se s X) s.length) (arr (fLV Se s X) s.length) (Q0F X) ((s.length-1:Nat):Int) St Pt Se Li s k0 400 0 0 (QcI (T 0)) ((T 0).map enc)=k0 (tu Se s X af (s.length-1)) ((s.length:Nat):Int) false (QcI (T s.length)) ((T s.length).map enc):=by
  intro k0;refine Qm (r:=fun m i=>Wp 400 bf af (arr (fEN Se s X) s.length) (arr (fLV Se s X) s.length) (Q0F X) ((s.length-1:Nat):Int) St Pt Se Li s k0 m (if i.toNat=0 then 0 else tu Se s X af (i.toNat-1)) i (QcI (T i.toNat)) ((T i.toNat).map enc)) (N:=s.length) (fun m i hi=>?_) (fun m=>?_) s.length 400 0 (by omega) (by omega)
  ·simp only [Int.toNat_natCast];obtain ⟨x,d,bx,b,c,st,e,v,a0,a1,hd⟩:=Ef h.st hi;have hx:=H8 v;have ay:0<=x/\x<Se.length:=by
    have h2:=hx.1;unfold inB at h2;by_cases hc:0<=x/\x<Se.length
    ·exact hc
    ·rw [show (decide (0<=x)&&decide (x<(Se.length:Int)))=false by simp;omega] at h2;cases h2
   have az:x=((sec s i:Nat):Int):=by
    unfold sec;rw [Qlj,e];show x=((x.toNat:Nat):Int);omega
   have hT:(T i).length=Se.length+Pt.length:=T9;have q:=a2 i hi;have ha:YX 400 (QcI (T i)) ((T i).map enc) ((sec s i:Nat):Int) (fr Se s X bf i) (tu Se s X af i) Tu2=_:=Qij (by omega) q.2.1;rw [Wp,Q8 hi,Qle];have hz:∀ (J:Int->Int->Option (LL × Int × Int)),jn J (fun j=>bif ((i:Int) == (0:Int)) then
      gb true (Q1 (arr (fLV Se s X) s.length) (0:Int)) [] fun y=>gb true (y[0]?) oF fun z=>gb true (pIw z) 0 fun aa=>gb true (JC 400 aa (1000:Int) some) 0 fun ab=>j (wJ (0-bf)) (wJ (ab+(4:Int)))
     else bif (decide ((i:Int)<((s.length-1:Nat):Int))) then
      gb true (Q1 (arr (fEN Se s X) s.length) (wJ ((i:Int)-(1:Int)))) [] fun ad=>gb true (ad[0]?) oF fun ae=>gb true (pIw ae) 0 fun ag=>gb true (VP 400 ag (1000:Int) some) 0 fun ah=>
      gb true (Q1 (arr (fLV Se s X) s.length) (i:Int)) [] fun ai=>gb true (ai[0]?) oF fun aj=>gb true (pIw aj) 0 fun ak=>gb true (JC 400 ak (1000:Int) some) 0 fun al=>j (wJ (ah-(16:Int))) (wJ (al+(4:Int)))
     else bif ((i:Int) == ((s.length-1:Nat):Int)) then
      gb true (Q1 (arr (fEN Se s X) s.length) (wJ (((s.length-1:Nat):Int)-(1:Int)))) [] fun am=>gb true (am[0]?) oF fun an=>gb true (pIw an) 0 fun ao=>gb true (VP 400 ao (1000:Int) some) 0 fun ap=>j (wJ (ap-(16:Int))) (wJ (Q0F X+af))
     else
      gb true (Q1 (arr (fEN Se s X) s.length) ((s.length-1:Nat):Int)) [] fun aq=>gb true (aq[0]?) oF fun ar=>gb true (pIw ar) 0 fun au=>gb true (VP 400 au (1000:Int) some) 0 fun av=>j (wJ (av-(16:Int))) (wJ (Q0F X+(20:Int))))=J (fr Se s X bf i) (tu Se s X af i):=by
    intro J;dsimp only [jn];by_cases g:i=0
    ·subst g;have t0:tu Se s X af 0=cd (fLV Se s X 0) 1000+4:=by unfold tu;rw [Qli (by omega)]
     have f0:fr Se s X bf 0 = -bf:=rfl;rw [show (((0:Nat):Int) == 0)=true from rfl,Qle,show (0:Int)=((0:Nat):Int) from rfl,a3 0 hi];simp -implicitDefEqProofs only [Q0,List.getElem?_cons_zero,Q2,a7 0 hi,wI (show ((0:Nat):Int)-bf=fr Se s X bf 0 by omega) (by omega) (by omega),wI t0.symm (by omega) (by omega)]
    ·have hp:fr Se s X bf i=fEN Se s X (i-1) / 1000-16:=by unfold fr;rw [Qlk g]
     rw [show ((i:Int) == 0)=false by simp;omega,Qlc];by_cases a6:i<s.length-1
     ·have ht:tu Se s X af i=cd (fLV Se s X i) 1000+4:=by unfold tu;rw [Qli a6]
      rw [Q8 a6,Qle,Jy (by omega) (by omega),a9 (i-1) (by omega)];simp -implicitDefEqProofs only [Q0,List.getElem?_cons_zero,Q2,a4 (i-1) (by omega),a3 i hi,a7 i hi,wI hp.symm (by omega) (by omega),wI ht.symm (by omega) (by omega)]
     ·obtain rfl:i=s.length-1:=by omega
      have ht:tu Se s X af (s.length-1)=Q0F X+af:=by unfold tu;rw [Qlk (by omega)]
      rw [Qi,Qlc,show (((s.length-1:Nat):Int) == ((s.length-1:Nat):Int))=true by simp,Qle,Jy (by omega) (by omega),a9 (s.length-1-1) (by omega)];simp -implicitDefEqProofs only [Q0,List.getElem?_cons_zero,Q2,a4 (s.length-1-1) (by omega),wI hp.symm (by omega) (by omega),wI ht.symm (by omega) (by omega)]
   rw [hz,Q9,e];simp -implicitDefEqProofs only [Q0,List.getElem?_cons_zero,List.getElem?_cons_succ,Q2,az,ha,Ql (show i<=1000 by omega),Qlo,Nat.succ_ne_zero,if_false];by_cases g:i=0
   ·subst g;rw [show decide (((0:Nat):Int)>0)=false from rfl,Qlc];rfl
   ·obtain ⟨j,rfl⟩:∃ j,i=j+1:=⟨i-1,by omega⟩;obtain ⟨x',d',bl,b',c',st',e',b6,_,_,bv⟩:=Ef h.st (j:=j) (by omega);obtain ⟨p,l,k,ba,bb⟩:=Q5B h.hops j hi;rw [Qlj,Qlj,e,e',Qlu,Qlu] at l k;have bi:pt Li s (j+1)=p:=by
     unfold pt;rw [Qlj,Qlj,e,Qlo,e',Qlu,Qlu,l];rfl
    rw [az] at k;obtain ⟨u1,u2,u3,hj⟩:=Qgn (St:=St) (Pt:=Pt) (Se:=Se) k;rw [show decide (((j+1:Nat):Int)>0)=true from Qln (by omega),Qle,Jy (show j+1<=1000 by omega) (by omega),Qlo,Q9,e'];simp -implicitDefEqProofs only [Q0,List.getElem?_cons_zero,List.getElem?_cons_succ,Q2,hj];have bj:T (j+1+1)=if p<0 then Nq (T (j+1)) (sec s (j+1)) (fr Se s X bf (j+1)) (tu Se s X af (j+1)) else Nq (Nq (T (j+1)) (sec s (j+1)) (fr Se s X bf (j+1)) (tu Se s X af (j+1))) (Se.length+p.toNat) (fr Se s X bf (j+1)) (tu Se s X af j):=by
     show Tg _ _ _ _ _ _ (j+1+1)=_;rw [Q21,bi]
    rw [bj];by_cases hp:p<0
    ·rw [show decide (p>=0)=false by simp;omega,Qlc,Qli hp];rfl
    ·have ax:YX 400 (QcI (Nq (T (j+1)) (sec s (j+1)) (fr Se s X bf (j+1)) (tu Se s X af (j+1)))) ((Nq (T (j+1)) (sec s (j+1)) (fr Se s X bf (j+1)) (tu Se s X af (j+1))).map enc) ((Se.length+p.toNat:Nat):Int) (fr Se s X bf (j+1)) (tu Se s X af j) Tu2=_:=Qij (by rw [Px];omega) (q.2.2.2 (by omega));rw [show decide (p>=0)=true by simp;omega,Qle,Qlk hp,show decide (((j+1:Nat):Int)>((s.length-1:Nat):Int))=false by simp;omega,Qlc];have n:=ax;unfold QcI at n;simp -implicitDefEqProofs only [Q0,wI (show ((Se.length:Nat):Int)+p=((Se.length+p.toNat:Nat):Int) by omega) (by omega) (by omega),n,Qlo,Qlk (Nat.succ_ne_zero _)];rfl
  ·simp only [Int.toNat_natCast];rw [Wp,Qi,Qlc,Qlk (by omega)]
 have a5:T 0=List.replicate (Se.length+Pt.length) (0,0,0):=rfl;have e1:List.replicate (Se.length+Pt.length) [D.bool false]=QcI (T 0):=by rw [a5];unfold QcI;rw [List.map_replicate];rfl
 have e2:List.replicate (Se.length+Pt.length) [D.int .i64 (0:Int),D.int .i64 (0:Int),D.int .i64 (0:Int)]=(T 0).map enc:=by rw [a5,List.map_replicate];rfl
 rw [e1,e2,u];have hl:((Se.length+Pt.length:Nat):Int)=(((T s.length).length:Nat):Int):=by rw [show (T s.length).length=Se.length+Pt.length from T9]
 rw [hl];exact Qhl (by rw [show (T s.length).length=Se.length+Pt.length from T9];omega) _
end
def OL:Int->List Occ->Prop
 |_,[]=>True
 |l,(x,a,b)::r=>l<x /\ -1000<=a/\a<b/\b<=20000/\x<=1000/\OL x r
theorem OL.mono:∀ {l l':Int} {O:List Occ},l'<=l->OL l O->OL l' O
 |_,_,[],_,_=>trivial
 |_,_,(x,a,b)::r,h,⟨c,h2⟩=>⟨by omega,h2⟩
theorem OL.filter {p:Occ->Bool}:∀ {l:Int} {O:List Occ},OL l O->OL l (O.filter p)
 |_,[],_=>trivial
 |l,(x,a,b)::r,⟨d,h2,e,f,g,c⟩=>by
  rw [QlC];split
  ·exact ⟨d,h2,e,f,g,c.filter⟩
  ·exact (c.filter).mono (by omega)
theorem OL.mem:∀ {l:Int} {O:List Occ},OL l O->∀ q∈O,l<q.1 /\ -1000<=q.2.1/\q.2.1<q.2.2/\q.2.2<=20000/\q.1<=1000
 |_,[],_,_,h=>nomatch h
 |l,(x,a,b)::r,⟨c,h2,d,e,f,g⟩,q,h=>by
  cases h with
  |head=>exact ⟨c,h2,d,e,f⟩
  |tail _ h=>have:=g.mem q h;exact ⟨by omega,this.2⟩
def TI (T:List Occ):Prop:=∀ (r:Nat) (x a b:Int),T[r]? = some (x,a,b)->a<b->x=(r:Int) /\ -1000<=a/\b<=20000
theorem TI.add {T:List Occ} (h:TI T) {r:Nat} {f t:Int} (hf : -1000<=f) (ht:t<=20000):TI (Nq T r f t):=by
 unfold Nq;cases e:T[r]? with
 |none=>exact h
 |some q=>
  obtain ⟨x,a,b⟩:=q;dsimp only;have hr:=(Qlh.1 e).1;by_cases an:a<b
  ·have c:=h r x a b e an;rw [Qli an];intro r' x' a' b' e' aj;rw [List.getElem?_set] at e';by_cases ak:r=r'
   ·subst ak;rw [Qli rfl,Qli hr] at e';cases e';refine ⟨rfl,?_,?_⟩ <;> split <;> omega
   ·rw [Qlk ak] at e';exact h r' x' a' b' e' aj
  ·rw [Qlk an];intro r' x' a' b' e' aj;rw [List.getElem?_set] at e';by_cases ak:r=r'
   ·subst ak;rw [Qli rfl,Qli hr] at e';cases e';exact ⟨rfl,hf,ht⟩
   ·rw [Qlk ak] at e';exact h r' x' a' b' e' aj
theorem TI.ol:∀ {T:List Occ} {k:Nat},T.length+k<=1000->(∀ (r:Nat) (x a b:Int),T[r]? = some (x,a,b)->a<b->x=((r+k:Nat):Int) /\ -1000<=a/\b<=20000)->OL ((k:Int)-1) (T.filter Pf)
 |[],_,_,_=>trivial
 |(x,a,b)::T,k,hk,h=>by
  have ih:=TI.ol (T:=T) (k:=k+1) (by simp at hk;omega) fun r x a b e aj=>by
   have:=h (r+1) x a b e aj;rw [show r+1+k=r+(k+1) by omega] at this;exact this
  rw [show ((k+1:Nat):Int)-1=(k:Int) by omega] at ih;have c:=h 0 x a b rfl;rw [QlC];by_cases aj:a<b
  ·have c:=c aj;rw [show Pf (x,a,b)=true by simpa [Pf] using aj,Qli rfl];have hx:x=(k:Int):=by simpa using c.1
   refine ⟨by omega,c.2.1,aj,c.2.2,by simp at hk;omega,?_⟩;rw [hx];exact ih
  ·rw [show Pf (x,a,b)=false by simpa [Pf] using aj,Qlk (by simp)];exact ih.mono (by omega)
section
variable {St Pt Se Li s:LL} (h:RtF St Pt Se Li s) {nm:List UInt8} {tl sp ac br bf af:Int} (hk:StkN tl sp ac br) (hb0:0<=bf) (hb1:bf<=60) (ha0:0<=af) (ha1:af<=5000)
include h hk hb0 hb1 ha0 ha1
theorem QcS {i:Nat} (hi:i<s.length) : -1000<=fr Se s (YV Se s nm tl sp ac br) bf i/\tu Se s (YV Se s nm tl sp ac br) af i<=20000:=by
 have l2:=h.l2;have hr:=Mp h (nm:=nm) hk;have b:=Q1s h (nm:=nm) hk (i:=i-1) (j:=i) (by omega) hi;have c1:=L9 (a:=fLV Se s (YV Se s nm tl sp ac br) i) (by omega) (show (1:Int)<=1000 by decide);unfold fr tu;constructor
 ·split <;> omega
 ·split <;> omega
theorem Qas:OL (-1) (Q5w St Pt Se Li s (YV Se s nm tl sp ac br) bf af)/\(Q5w St Pt Se Li s (YV Se s nm tl sp ac br) bf af).length<=6:=by
 have an:=MH h.lay;have aj:=fun i (hi:i<s.length)=>QcS h (nm:=nm) hk hb0 hb1 ha0 ha1 hi
 have l2:=h.l2;unfold Q5w;generalize YV Se s nm tl sp ac br=X at aj;have hT:∀ i,i<=s.length->TI (Tg Se.length Pt.length Li s (fr Se s X bf) (tu Se s X af) i):=by
  intro i;induction i with
  |zero=>
   intro _ r x a b e ak;have:=Qlh.1 e;obtain ⟨d,h2⟩:=this;simp only [Tg,List.getElem_replicate] at h2;cases h2;omega
  |succ i ih=>
   intro hi;have ih:=ih (by omega);have q:=aj i (by omega);rw [Tg];split
   ·exact ih.add q.1 q.2
   ·have c:=aj (i-1) (by omega);split
    ·exact ih.add q.1 q.2
    ·exact (ih.add q.1 q.2).add q.1 c.2
 constructor
 ·have:=TI.ol (T:=Tg Se.length Pt.length Li s (fr Se s X bf) (tu Se s X af) s.length) (k:=0) (by rw [T9];omega) (fun r x a b e ak=>hT _ (Qlq _) r x a b e ak);exact this
 ·have hc:=Q7p h.hops (fun i=>((Tg Se.length Pt.length Li s (fr Se s X bf) (tu Se s X af) (i+1)).filter Pf).length-1) (fun i=>?_) ?_ (s.length-1) (by omega)
  ·rw [show s.length-1+1=s.length by omega] at hc;omega
  ·rw [Q21];have c1:=Q2U (T:=Tg Se.length Pt.length Li s (fr Se s X bf) (tu Se s X af) (i+1)) (r:=sec s (i+1)) (f:=fr Se s X bf (i+1)) (t:=tu Se s X af (i+1));split
   ·omega
   ·have g:=Q2U (T:=Nq (Tg Se.length Pt.length Li s (fr Se s X bf) (tu Se s X af) (i+1)) (sec s (i+1)) (fr Se s X bf (i+1)) (tu Se s X af (i+1))) (r:=Se.length+(pt Li s (i+1)).toNat) (f:=fr Se s X bf (i+1)) (t:=tu Se s X af i);omega
  ·have c1:=Q2U (T:=Tg Se.length Pt.length Li s (fr Se s X bf) (tu Se s X af) 0) (r:=sec s 0) (f:=fr Se s X bf 0) (t:=tu Se s X af 0);have c0:((Tg Se.length Pt.length Li s (fr Se s X bf) (tu Se s X af) 0).filter Pf).length=0:=by
    rw [Tg];simp [Pf]
   show ((Tg Se.length Pt.length Li s (fr Se s X bf) (tu Se s X af) 1).filter Pf).length-1<=0;rw [Tg,Qli rfl];omega
end
end Go.Vx
namespace Go.Vx
variable {R:Type} (n:Nat)
def Y7 (p:Int) (ad:LL) (q:Int) (f g h i:LL) (r:Int) (b c s t u v x:LL) (j y:D) (k0:Int->oP R) (k1:Int->Bool->LL->LL->oP R):Nat->Int->LL->LL->oP R
 | 0,_,_,_=>none
 | m+1,a,d,e=>bif decide (a<q) then QjA R ad a fun aj ak=>Qjl R aj[1]? fun al=>Qk1 R aj fun au=>Qjw R al au fun am an=>Qjk R (wJ (a+1)) fun k=>bif a==0 then Qjl R (pSl 4 y) fun av=>bif a==wJ ((av.length:Int)-1) then Qjl R (pIw al) fun aw=>Qjl R (Hh n r b c s t u v x p some) fun ax=>Qk8 R ak c fun az ba=>QjB R j b az ba fun bi bj bk bl bm bn bo=>Qjl R (Wj n f g h i bi bj bk bl bm bn bo 60 (wJ (aw+ax)) Tu3) fun z=>bif z.2.2 !=0 then k0 z.2.2 else QjT R ((d.length+[[D.sl 3 z.1]].length)*24) ((e.length+[[Q4 z.2.1]].length)*8) (Y7 p ad q f g h i r b c s t u v x j y k0 k1 m k (d++[[D.sl 3 z.1]]) (e++[[Q4 z.2.1]])) else Qk8 R ak c fun bq br=>QjB R j b bq br fun cb cc ce cf cg ch ci=>Qjl R (Wj n f g h i cb cc ce cf cg ch ci 60 (wJ (am+an)) Tu3) fun aa=>bif aa.2.2 !=0 then k0 aa.2.2 else QjT R ((d.length+[[D.sl 3 aa.1]].length)*24) ((e.length+[[Q4 aa.2.1]].length)*8) (Y7 p ad q f g h i r b c s t u v x j y k0 k1 m k (d++[[D.sl 3 aa.1]]) (e++[[Q4 aa.2.1]])) else Qjl R (pSl 4 y) fun cj=>bif a==wJ ((cj.length:Int)-1) then Qjl R (pIw al) fun ck=>Qjl R (Hh n r b c s t u v x p some) fun cm=>Qk8 R ak c fun co cp=>QjB R j b co cp fun cw cx cy cz da db dc=>Qjl R (Wj n f g h i cw cx cy cz da db dc 0 (wJ (ck+cm)) Tu3) fun ab=>bif ab.2.2 !=0 then k0 ab.2.2 else QjT R ((d.length+[[D.sl 3 ab.1]].length)*24) ((e.length+[[Q4 ab.2.1]].length)*8) (Y7 p ad q f g h i r b c s t u v x j y k0 k1 m k (d++[[D.sl 3 ab.1]]) (e++[[Q4 ab.2.1]])) else Qk8 R ak c fun de df=>QjB R j b de df fun dn dp dq dr ds dt du=>Qjl R (Wj n f g h i dn dp dq dr ds dt du 0 (wJ (am+an)) Tu3) fun ac=>bif ac.2.2 !=0 then k0 ac.2.2 else QjT R ((d.length+[[D.sl 3 ac.1]].length)*24) ((e.length+[[Q4 ac.2.1]].length)*8) (Y7 p ad q f g h i r b c s t u v x j y k0 k1 m k (d++[[D.sl 3 ac.1]]) (e++[[Q4 ac.2.1]])) else k1 a (decide (a<q)) d e
def ZR (h2:LL) (c:Int) (d e f g:LL) (h:Int) (i j k l o p q:LL) (k0:Int->oP R) (k1:Int->Bool->LL->LL->oP R):Nat->Int->LL->LL->oP R
 | 0,_,_,_=>none
 | m+1,a,r,s=>bif decide (a<c) then QjH R h2 a fun b v=>Qk1 R b fun t=>Qjl R (pSl 4 t) fun u=>Y7 n a u (u.length:Int) d e f g h i j k l o p q v t (fun x=>k0 x) (fun ac ad y z=>ZR h2 c d e f g h i j k l o p q k0 k1 m (wJ (a+1)) y z) n 0 r s else k1 a (decide (a<c)) r s
def Tk (b c d e:LL) (f:Int) (g h a i j k l:LL) (K:LL->LL->Int->oP R):oP R:=Qjl R (Vd n b c d e f g h a i j k l some) fun m=>bif m !=0 then K [] [] 1 else ZR n a (a.length:Int) b c d e f g h a i j k l (fun o=>K [] [] o) (fun r s p q=>K p q 0) n 0 [] []
end Go.Vx
namespace Go.Vx
def QaM {α:Type} (nr:Nat->Nat) (f:Nat->Nat->α):Nat->List α
 |0=>[]
 |i+1=>QaM nr f i++(List.range (nr i)).map (f i)
def base (nr:Nat->Nat):Nat->Nat
 |0=>0
 |i+1=>base nr i+nr i
theorem ZE {α:Type} {nr:Nat->Nat} {f:Nat->Nat->α}:∀ {i:Nat},(QaM nr f i).length=base nr i
 |0=>rfl
 |i+1=>by rw [QaM,List.length_append,ZE,base,Qlp,List.length_range]
theorem Su {nr:Nat->Nat} {i:Nat}:∀ {j:Nat},i<j->base nr i+nr i<=base nr j
 |0,h=>by omega
 |j+1,h=>by
  rw [base];by_cases ac:i=j
  ·subst ac;omega
  ·have:=Su (nr:=nr) (i:=i) (j:=j) (by omega);omega
theorem Lr {α:Type} {nr:Nat->Nat} {f:Nat->Nat->α} {i k:Nat} (hk:k<nr i):∀ {L:Nat},i<L->(QaM nr f L)[base nr i+k]? = some (f i k)
 |0,h=>by omega
 |L+1,h=>by
  rw [QaM];by_cases ac:i=L
  ·subst ac;rw [List.getElem?_append_right (by rw [ZE];omega),ZE,Nat.add_sub_cancel_left,Qls,List.getElem?_range hk];rfl
  ·have:=Su (nr:=nr) (i:=i) (j:=L) (by omega);rw [List.getElem?_append_left (by rw [ZE];omega)];exact Lr hk (by omega)
theorem Q71 {nr:Nat->Nat} {a:Nat}:∀ {L:Nat},a<base nr L->∃ i k,i<L/\k<nr i/\a=base nr i+k
 |0,h=>by simp [base] at h
 |L+1,h=>by
  rw [base] at h;by_cases ha:a<base nr L
  ·obtain ⟨i,k,c,h2,b⟩:=Q71 ha;exact ⟨i,k,by omega,h2,b⟩
  ·exact ⟨L,a-base nr L,by omega,by omega,by omega⟩
theorem TX {nr:Nat->Nat} {i k i' k':Nat} (h:k<nr i) (h':k'<nr i') (e:base nr i+k=base nr i'+k'):i=i'/\k=k':=by
 rcases Nat.lt_trichotomy i i' with hi | hi | hi
 ·have:=Su (nr:=nr) hi;omega
 ·simp_all
 ·have:=Su (nr:=nr) hi;omega
def Gr (Ls:LL) (i:Nat):LL:=match Ls[i]? with
 |some [_,_,_,.sl _ r]=>r
 |_=>[]
def wOf (Ls:LL) (i:Nat):Int:=match Ls[i]? with
 |some [_,_,.int _ w,_]=>w
 |_=>0
def rF (Ls:LL) (i k j:Nat):Int:=match ((Gr Ls i).getD k [])[j]? with
 |some (.int _ x)=>x
 |_=>0
def QhC (Ro:LL) (r:Int):LL:=match Ro[r.toNat]? with
 |some [.sl _ s,_]=>s
 |_=>[]
structure Cx where
 G:Geo
 Ro:LL
 Ls:LL
 T:List Tup
 nm:List UInt8
 tl:Int
 sp:Int
 ac:Int
 br:Int
namespace Cx
variable (X:Cx)
def nr (i:Nat):Nat:=(Gr X.Ls i).length
def w (i:Nat):Int:=wOf X.Ls i
def ex (i k:Nat):Int:=rF X.Ls i k 1
def mn (i k:Nat):Int:=rF X.Ls i k 2
def mx (i k:Nat):Int:=rF X.Ls i k 3
def st (i k:Nat):LL:=QhC X.Ro (rF X.Ls i k 0)
def rn (i k:Nat):Run:=YV X.G.Se (X.st i k) X.nm X.tl X.sp X.ac X.br
def tn (i:Nat):Option Tup:=X.T.find? fun t=>t.1 == i
def rest (i:Nat):Int:=match X.tn i with
 |some t=>if 60<t.2.2.2 then t.2.2.2 else 60
 |none=>60
def bf (k:Nat):Int:=if k=0 then 60 else 0
def af (i k:Nat):Int:=if k=X.nr i-1 then X.ex i k+X.rest i else X.ex i k+X.mx i k
def occ (i k:Nat):List Occ:=Q5w X.G.St X.G.Pt X.G.Se X.G.Li (X.st i k) (X.rn i k) (bf k) (X.af i k)
def run (i k:Nat):Int:=Q0F (X.rn i k)
def L:Nat:=X.Ls.length
structure OK:Prop where
 g:X.G.OK
 sk:StkN X.tl X.sp X.ac X.br
 gd:GoodP X.G X.Ro X.Ls
 l0:1<=X.Ls.length
 l1:X.Ls.length<=3
 tr:∀ t∈X.T,Q9W X.G X.Ro X.Ls t
 fd:(X.T.map (·.1)).Nodup
 td:(X.T.map (·.2.1)).Nodup
 tl:X.T.length<=20
structure RdOK (i k:Nat):Prop where
 row:(Gr X.Ls i)[k]? = some [Q4 (rF X.Ls i k 0),Q4 (X.ex i k),Q4 (X.mn i k),Q4 (X.mx i k)]
 ro:Q1 X.Ro (rF X.Ls i k 0)=some [D.sl 2 (X.st i k),Q4 0]
 rt:RtF X.G.St X.G.Pt X.G.Se X.G.Li (X.st i k)
 ex0:0<=X.ex i k
 ex1:X.ex i k<3
 mn0:0<=X.mn i k
 mn1:X.mn i k<=X.mx i k
 mn2:X.mx i k<=X.mn i k+3
 mn3:X.mn i k<=10
variable {X} (h:X.OK)
include h
theorem Jv {i:Nat} (hi:i<X.Ls.length):X.Ls[i]? = some [D.str (nmN i),Q4 0,Q4 (X.w i),D.sl 4 (Gr X.Ls i)]/\(X.nr i=1\/X.nr i=2)/\(0<=X.w i/\X.w i<4):=by
 obtain ⟨w,rides,b,h2,c,a⟩:=h.gd.ls i _ (Qld hi);have er:Gr X.Ls i=rides:=by grind [Gr]
 have ew:X.w i=w:=by grind [Cx.w,wOf]
 refine ⟨by simp_all,?_,by omega⟩;unfold nr;rw [er];rcases a with ⟨r,x,y,rfl,_⟩ | ⟨r,r',x,y,z,rfl,_,_⟩
 all_goals simp
theorem rd {i k:Nat} (hi:i<X.Ls.length) (hk:k<X.nr i):X.RdOK i k:=by
 obtain ⟨w,rides,j,h2,l,d⟩:=h.gd.ls i _ (Qld hi);have e:X.Ls[i]? = some [D.str (nmN i),Q4 0,Q4 w,D.sl 4 rides]:=by simp_all
 have er:Gr X.Ls i=rides:=by grind [Gr]
 have hr:∃ r x y b,rides[k]? = some r/\Pg X.G X.Ro r x y b:=by
  unfold nr at hk;rw [er] at hk;rcases d with ⟨r,x,y,rfl,h⟩ | ⟨r,r',x,y,z,rfl,h,h'⟩
  all_goals grind
 obtain ⟨r,x,y,b,hr,rt,ex,mn,mx,s,rfl,c,f,m,n,o⟩:=hr;have eg:(Gr X.Ls i).getD k []=[Q4 rt,Q4 ex,Q4 mn,Q4 mx]:=by simp_all
 have a:rF X.Ls i k 0=rt:=by grind [rF]
 have e1:X.ex i k=ex:=by grind [Cx.ex,rF]
 have e2:X.mn i k=mn:=by unfold Cx.mn rF;rw [eg];rfl
 have g:X.mx i k=mx:=by unfold Cx.mx rF;rw [eg];rfl
 have es:X.st i k=s:=by unfold st QhC;rw [a,Int.toNat_natCast,c]
 exact ⟨by rw [a,e1,e2,g,er,hr],by rw [a,es,Q9,c],by rw [es];exact f.f h.g,by omega,by omega,by omega,by omega,by omega,by omega⟩
theorem Q1H {i:Nat}:60<=X.rest i/\X.rest i<=60:=by
 unfold rest;cases e:X.tn i with
 |none=>simp_all
 |some t=>
  have:=h.tr t (List.mem_of_find?_eq_some e);have a:=this.2.2.2.1;have h2:=this.2.2.2.2.2.1
  grind
theorem QfY {i k:Nat} (hi:i<X.Ls.length) (hk:k<X.nr i):(0<=bf k/\bf k<=60)/\0<=X.af i k/\X.af i k<=5000:=by
 have r:=rd h hi hk;have:=Q1H h (i:=i);have:=r.ex0;have:=r.ex1;have:=r.mn0;have:=r.mn1;have:=r.mn2;have:=r.mn3
 grind [bf,af]
theorem QhU {i k:Nat} (hi:i<X.Ls.length) (hk:k<X.nr i):Wj 400 X.G.St X.G.Pt X.G.Se X.G.Li (X.st i k) 0 X.nm X.tl X.sp X.ac X.br (bf k) (X.af i k) Tu3=some ((X.occ i k).map enc,X.run i k,0):=by
 have b:=QfY h hi hk;exact QfH (rd h hi hk).rt h.sk b.1.1 (by omega) b.2.1 (by omega)
theorem Qhn {i k:Nat} (hi:i<X.Ls.length) (hk:k<X.nr i):K8 400 X.G.St X.G.Pt X.G.Se X.G.Li (X.st i k) 0 X.nm X.tl X.sp X.ac X.br (bf k) (X.af i k) Tu3=some ((X.occ i k).map enc,X.run i k,0):=by
 have b:=QfY h hi hk;exact Qfd (rd h hi hk).rt h.sk b.1.1 (by omega) b.2.1 (by omega)
theorem Q6L {i k:Nat} (hi:i<X.Ls.length) (hk:k<X.nr i):OL (-1) (X.occ i k)/\(X.occ i k).length<=6:=by
 have b:=QfY h hi hk;exact Qas (rd h hi hk).rt h.sk b.1.1 b.1.2 b.2.1 b.2.2
theorem PN {i k:Nat} (hi:i<X.Ls.length) (hk:k<X.nr i):0<=X.run i k/\X.run i k<=7001:=Mp (rd h hi hk).rt h.sk
theorem base_le:base X.nr X.L<=6:=by
 have a:=h.l1;have hb:∀ i,i<=X.Ls.length->base X.nr i<=2*i:=by
  intro i;induction i with
  |zero=>intro _;exact Qlq _
  |succ i ih=>
   intro hi;have:=(Jv h (i:=i) (by omega)).2.1
   grind [base]
 grind [L]
end Cx
theorem PlanR.cx {G:Geo} {per:Int} {Sk Ro Ls Ch Tu Sy De:LL} (h:PlanR G per Sk Ro Ls Ch Tu Sy De):∃ X:Cx,X.OK/\X.G=G/\X.Ro=Ro/\X.Ls=Ls/\Tu=X.T.map tuR/\Sk=[[D.str X.nm,Q4 X.tl,Q4 X.sp,Q4 X.ac,Q4 X.br]]:=by
 obtain ⟨T,hT,t1,t2,e,f⟩:=h.tu;obtain ⟨a,b,c,d,hS,hs⟩:=h.sk;exact ⟨⟨G,Ro,Ls,T,bs [88],a,b,c,d⟩,⟨h.ok,hs,h.good,h.l0,h.l1,t1,t2,e,f⟩,rfl,rfl,rfl,hT,hS⟩
def Kb (L:List (List Occ)):LL:=L.map fun o=>[D.sl 3 (o.map enc)]
theorem VH {L:List (List Occ)} {o:List Occ}:Kb L++[[D.sl 3 (o.map enc)]]=Kb (L++[o]):=by simp [Kb]
theorem VJ {L:List Int} {x:Int}:encI L++[[D.int .i64 x]]=encI (L++[x]):=by simp [encI]
theorem Jn {L:List (List Occ)}:(Kb L).length=L.length:=by simp [Kb]
theorem ZA {α:Type} {A:List α} {f:Nat->α} {k:Nat}:A++(List.range k).map f++[f k]=A++(List.range (k+1)).map f:=by simp [List.range_succ]
namespace Cx
variable {R:Type} {n:Nat} {X:Cx} (h:X.OK)
theorem Qah {T:List Tup} (hT:T.length<=1000) {i:Nat} {k0:Int->oP R} {k1:Int->Bool->oP R} {E:oP R} (hk:∀ a b,k1 a b=E):∀ (ac:List Tup) (j m:Nat),T.drop j=ac->ac.length<m->Ve n (i:Int) (T.map tuR) ((T.length:Nat):Int) k0 k1 m (j:Int)=(match ac.find? (fun t=>t.1 == i) with | some t=>k0 (if 60<t.2.2.2 then t.2.2.2 else 60) | none=>E)
 |[],j,m+1,hd,_=>by
  have:=U4 hd;rw [Ve,show decide ((j:Int)<((T.length:Nat):Int))=false by simpa using this,Qlc,hk];rfl
 |(a,b,lo,hi)::ac,j,m+1,hd,hm=>by
  obtain ⟨e,aj,hj⟩:=Yb hd;rw [Ve,Q8 hj,Qle,QJ e];simp -implicitDefEqProofs only [Q0,tuR,List.getElem?_cons_zero,List.getElem?_cons_succ,Q2,Ql (show j<=1000 by omega)];rw [List.find?_cons];by_cases ha:a=i
  ·subst ha;rw [show ((a:Int) == (a:Int))=true by simp,Qle,show ((a,b,lo,hi).1 == a)=true by simp]
  ·rw [show ((a:Int) == (i:Int))=false by simp;omega,Qlc,show ((a,b,lo,hi).1 == i)=false by simpa using ha];exact Qah hT hk ac (j+1) m aj (by simpa using hm)
theorem Qau {T:List Tup} (hT:T.length<=1000) {i:Nat} {k0:D->D->D->D->oP R} {k1:Int->Bool->oP R} {E:oP R} (hk:∀ a b,k1 a b=E):∀ (ac:List Tup) (j m:Nat),T.drop j=ac->ac.length<m->Jh n (i:Int) (T.map tuR) k0 k1 m (j:Int)=(match ac.find? (fun t=>t.1 == i) with | some t=>k0 (Q4 t.1) (Q4 t.2.1) (Q4 t.2.2.1) (Q4 t.2.2.2) | none=>E)
 |[],j,m+1,hd,_=>by
  have:=U4 hd;rw [Jh,Qlp,show decide ((j:Int)<((T.length:Nat):Int))=false by simpa using this,Qlc,hk];rfl
 |(a,b,lo,hi)::ac,j,m+1,hd,hm=>by
  obtain ⟨e,aj,hj⟩:=Yb hd;rw [Jh,Qlp,Q8 hj,Qle,QJ e];simp -implicitDefEqProofs only [Q0,tuR,List.getElem?_cons_zero,List.getElem?_cons_succ,Q2,Ql (show j<=1000 by omega)];rw [List.find?_cons];by_cases ha:a=i
  ·subst ha;rw [show ((a:Int) == (a:Int))=true by simp,Qle,show ((a,b,lo,hi).1 == a)=true by simp]
  ·rw [show ((a:Int) == (i:Int))=false by simp;omega,Qlc,show ((a,b,lo,hi).1 == i)=false by simpa using ha];exact Qau hT hk ac (j+1) m aj (by simpa using hm)
def skR (X:Cx):LL:=[[D.str X.nm,Q4 X.tl,Q4 X.sp,Q4 X.ac,Q4 X.br]]
include h
theorem Qia {per:Int} {Sk Ro Ls Ch Sy De:LL} {i:Nat}:Hh 400 per Sk Ro Ls Ch (X.T.map tuR) Sy De (i:Int) (some:Int->Option Int)=some (X.rest i):=by
 unfold Hh;rw [Qlp];have:=Qah (n:=400) (T:=X.T) (i:=i) (k0:=(some:Int->Option Int)) (k1:=fun _ _=>some 60) (by have:=h.tl;omega) (fun _ _=>rfl) X.T 0 400 rfl (by have:=h.tl;omega);refine this.trans ?_;unfold rest tn;cases X.T.find? fun t=>t.1 == i <;> rfl
theorem Qbl {i:Nat} (K:D->D->D->D->Bool->oP R):KL 400 (X.T.map tuR) (i:Int) K=(match X.tn i with | some t=>K (Q4 t.1) (Q4 t.2.1) (Q4 t.2.2.1) (Q4 t.2.2.2) true | none=>K (Q4 0) (Q4 0) (Q4 0) (Q4 0) false):=
 Qau (n:=400) (T:=X.T) (i:=i) (k0:=fun a b c d=>K a b c d true) (k1:=fun _ _=>K (Q4 0) (Q4 0) (Q4 0) (Q4 0) false) (by have:=h.tl;omega) (fun _ _=>rfl) X.T 0 400 rfl (by have:=h.tl;omega)
theorem Qd5 {per:Int} {Ch Sy De:LL} {i:Nat} (hi:i<X.Ls.length) {A:List (List Occ)} {B:List Int} (hA:A.length<=100) (hB:B.length<=100) {k0:Int->oP R} {K:LL->LL->oP R} {k1:Int->Bool->LL->LL->oP R} (hk:∀ a b u v,k1 a b u v=K u v) :
  Y7 400 (i:Int) (Gr X.Ls i) ((X.nr i:Nat):Int) X.G.St X.G.Pt X.G.Se X.G.Li per X.skR X.Ro X.Ls Ch (X.T.map tuR) Sy De (Q4 0) (D.sl 4 (Gr X.Ls i)) k0 k1 400 0 (Kb A) (encI B)=K (Kb (A++(List.range (X.nr i)).map (X.occ i))) (encI (B++(List.range (X.nr i)).map (X.run i))):=by
 have hl:=(Jv h hi).2.1;refine Qm (r:=fun m k=>Y7 400 (i:Int) (Gr X.Ls i) ((X.nr i:Nat):Int) X.G.St X.G.Pt X.G.Se X.G.Li per X.skR X.Ro X.Ls Ch (X.T.map tuR) Sy De (Q4 0) (D.sl 4 (Gr X.Ls i)) k0 k1 m k (Kb (A++(List.range k.toNat).map (X.occ i))) (encI (B++(List.range k.toNat).map (X.run i)))) (N:=X.nr i) (fun m k hk=>?_) (fun m=>?_) (X.nr i) 400 0 (by omega) (by omega) |> Eq.trans (by simp)
 ·simp only [Int.toNat_natCast];have r:=rd h hi hk;have rr:=Q1H h (i:=i);have l:=r.ex0;have e1:=r.ex1;have e2:=r.mn0;have n:=r.mn1;have o:=r.mn2;have p:=r.mn3;have hh:=QhU h hi hk;have an:Q1 (Gr X.Ls i) (k:Int)=some [Q4 (rF X.Ls i k 0),Q4 (X.ex i k),Q4 (X.mn i k),Q4 (X.mx i k)]:=by rw [Q9,r.row]
  have ao:Q1 X.skR 0=some [D.str X.nm,Q4 X.tl,Q4 X.sp,Q4 X.ac,Q4 X.br]:=rfl;have ar:=r.ro;have hw:wJ (((List.length (Gr X.Ls i):Nat):Int)-1)=((X.nr i-1:Nat):Int):=Jy (k:=X.nr i) (by omega) (by omega);have d:Y6 (((Kb (A++(List.range k).map (X.occ i))).length+List.length [[D.sl 3 ((X.occ i k).map enc)]])*24)=some ():=Xr (by simp [Jn];omega);have e:Y6 (((encI (B++(List.range k).map (X.run i))).length+List.length [[D.int .i64 (X.run i k)]])*8)=some ():=Xr (by simp [QN];omega);have ak:=Qia h (per:=per) (Sk:=X.skR) (Ro:=X.Ro) (Ls:=X.Ls) (Ch:=Ch) (Sy:=Sy) (De:=De) (i:=i);have aq:((k:Int) == ((X.nr i-1:Nat):Int))=decide (k=X.nr i-1):=by
   by_cases hc:k=X.nr i-1
   ·rw [Qln hc];simp;omega
   ·rw [Qlm hc];simp;omega
  have f:((k:Int) == 0)=decide (k=0):=by
   by_cases hc:k=0
   ·rw [Qln hc];simp;omega
   ·rw [Qlm hc];simp;omega
  have g:wJ (X.ex i k+X.rest i)=X.ex i k+X.rest i:=Q6 (by omega) (by omega);have j:wJ (X.ex i k+X.mx i k)=X.ex i k+X.mx i k:=Q6 (by omega) (by omega);rw [Y7,Q8 hk,Qle,an];simp -implicitDefEqProofs only [Q0,List.getElem?_cons_zero,List.getElem?_cons_succ,Q2,Qw,Xw,hw,aq,f,ak,ar,ao,g,j,Ql (show k<=1000 by omega)];unfold bf af at hh;by_cases c1:k=0 <;> by_cases c:k=X.nr i-1
  ·simp -implicitDefEqProofs only [Qli c1,Qli c] at hh;simp -implicitDefEqProofs only [Qln c1,Qln c,Qle,hh,Q0,show ((0:Int) != 0)=false from rfl,Qlc,d,e,VH,VJ,ZA]
  ·simp -implicitDefEqProofs only [Qli c1,Qlk c] at hh;simp -implicitDefEqProofs only [Qln c1,Qlm c,Qle,hh,Q0,show ((0:Int) != 0)=false from rfl,Qlc,d,e,VH,VJ,ZA]
  ·simp -implicitDefEqProofs only [Qlk c1,Qli c] at hh;simp -implicitDefEqProofs only [Qlm c1,Qln c,Qle,hh,Q0,show ((0:Int) != 0)=false from rfl,Qlc,d,e,VH,VJ,ZA]
  ·simp -implicitDefEqProofs only [Qlk c1,Qlk c] at hh;simp -implicitDefEqProofs only [Qlm c1,Qlm c,Qle,hh,Q0,show ((0:Int) != 0)=false from rfl,Qlc,d,e,VH,VJ,ZA]
 ·simp only [Int.toNat_natCast];rw [Y7,Qi,Qlc,hk]
end Cx
namespace Cx
variable {R:Type} {n:Nat} {X:Cx} (h:X.OK)
include h
theorem Q9w {per:Int} {Sk Ch Tu Sy De:LL} {i k:Nat} (hi:i<X.Ls.length) (hk:k<X.nr i) (K:D->D->oP R):XJ n per Sk X.Ro X.Ls Ch Tu Sy De (i:Int) (k:Int) K=K (D.sl 2 (X.st i k)) (Q4 0):=by
 have r:=rd h hi hk;unfold XJ;rw [Q9,(Jv h hi).1];simp -implicitDefEqProofs only [Q0,List.getElem?_cons_zero,List.getElem?_cons_succ,Q2,Qw,Q9,r.row,r.ro]
theorem Qek {per:Int} {Ch Sy De:LL} {i:Nat} (hi:i<X.Ls.length) {A:List (List Occ)} {B:List Int} (hA:A.length<=100) (hB:B.length<=100) {K:LL->LL->oP R} {k1:Int->Bool->LL->LL->oP R} (hk:∀ a b u v,k1 a b u v=K u v) :
  YG 400 (i:Int) X.G.St X.G.Pt X.G.Se X.G.Li per X.skR X.Ro X.Ls Ch (X.T.map tuR) Sy De (Q4 0) (D.sl 4 (Gr X.Ls i)) k1 400 0 (Kb A) (encI B)=K (Kb (A++(List.range (X.nr i)).map (X.occ i))) (encI (B++(List.range (X.nr i)).map (X.run i))):=by
 have hl:=(Jv h hi).2.1;refine Qm (r:=fun m k=>YG 400 (i:Int) X.G.St X.G.Pt X.G.Se X.G.Li per X.skR X.Ro X.Ls Ch (X.T.map tuR) Sy De (Q4 0) (D.sl 4 (Gr X.Ls i)) k1 m k (Kb (A++(List.range k.toNat).map (X.occ i))) (encI (B++(List.range k.toNat).map (X.run i)))) (N:=X.nr i) (fun m k hk=>?_) (fun m=>?_) (X.nr i) 400 0 (by omega) (by omega) |> Eq.trans (by simp)
 ·simp only [Int.toNat_natCast];have r:=rd h hi hk;have rr:=Q1H h (i:=i);have y:=r.ex0;have e1:=r.ex1;have e2:=r.mn0;have z:=r.mn1;have e4:=r.mn2;have e5:=r.mn3;have hh:=Qhn h hi hk;have ao:Q1 (Gr X.Ls i) (k:Int)=some [Q4 (rF X.Ls i k 0),Q4 (X.ex i k),Q4 (X.mn i k),Q4 (X.mx i k)]:=by rw [Q9,r.row]
  have aq:Q1 X.skR 0=some [D.str X.nm,Q4 X.tl,Q4 X.sp,Q4 X.ac,Q4 X.br]:=rfl;have hw:wJ (((List.length (Gr X.Ls i):Nat):Int)-1)=((X.nr i-1:Nat):Int):=Jy (k:=X.nr i) (by omega) (by omega);have d:Y6 (((Kb (A++(List.range k).map (X.occ i))).length+List.length [[D.sl 3 ((X.occ i k).map enc)]])*24)=some ():=Xr (by simp [Jn];omega);have f:Y6 (((encI (B++(List.range k).map (X.run i))).length+List.length [[D.int .i64 (X.run i k)]])*8)=some ():=Xr (by simp [QN];omega);have g:((k:Int) == 0)=decide (k=0):=by
   by_cases hc:k=0
   ·rw [Qln hc];simp;omega
   ·rw [Qlm hc];simp;omega
  have j:decide ((k:Int)<((X.nr i-1:Nat):Int)) = !decide (k=X.nr i-1):=by
   by_cases hc:k=X.nr i-1
   ·rw [Qln hc];exact Qlm (by omega)
   ·rw [Qlm hc];exact Qln (by omega)
  have o:wJ (X.ex i k+60)=X.ex i k+60:=Q6 (by omega) (by omega);have l:wJ (X.ex i k+X.mx i k)=X.ex i k+X.mx i k:=Q6 (by omega) (by omega);have p:∀ t,X.tn i=some t->wJ (X.ex i k+(if 60<t.2.2.2 then t.2.2.2 else 60))=X.ex i k+X.rest i:=fun t ht=>by
   have e:X.rest i=if 60<t.2.2.2 then t.2.2.2 else 60:=by unfold rest;rw [ht]
   rw [<- e];exact Q6 (by omega) (by omega)
  have q:X.tn i=none->wJ (X.ex i k+60)=X.ex i k+X.rest i:=fun ht=>by rw [o];unfold rest;rw [ht]
  have ar:∀ K':D->D->oP R,XJ 400 per X.skR X.Ro X.Ls Ch (X.T.map tuR) Sy De (i:Int) (k:Int) K'=K' (D.sl 2 (X.st i k)) (Q4 0):=fun K'=>Q9w h hi hk K'
  have an:=Q9w (n:=400) h (per:=per) (Sk:=X.skR) (Ch:=Ch) (Tu:=X.T.map tuR) (Sy:=Sy) (De:=De) hi hk Tu2;rw [YG,Qw,Q0,show ((Gr X.Ls i).length:Int)=((X.nr i:Nat):Int) from rfl,Q8 hk,Qle];unfold bf af at hh;cases ht:X.tn i with
  |some t=>
   simp -implicitDefEqProofs only [jn,Q0,List.getElem?_cons_zero,List.getElem?_cons_succ,Q2,Qw,Xw,ao,hw,g,j,Qbl h,ht,l,p t ht,aq,an,Qle,Ql (show k<=1000 by omega)];by_cases c1:k=0 <;> by_cases c:k=X.nr i-1
   ·simp -implicitDefEqProofs only [Qli c1,Qli c] at hh;simp -implicitDefEqProofs only [Qln c1,Qln c,Qlg,Qlc,Qle,hh,Q0,d,f,VH,VJ,ZA]
   ·simp -implicitDefEqProofs only [Qli c1,Qlk c] at hh;simp -implicitDefEqProofs only [Qln c1,Qlm c,Qlf,Qlc,Qle,hh,Q0,d,f,VH,VJ,ZA]
   ·simp -implicitDefEqProofs only [Qlk c1,Qli c] at hh;simp -implicitDefEqProofs only [Qlm c1,Qln c,Qlg,Qlc,Qle,hh,Q0,d,f,VH,VJ,ZA]
   ·simp -implicitDefEqProofs only [Qlk c1,Qlk c] at hh;simp -implicitDefEqProofs only [Qlm c1,Qlm c,Qlf,Qlc,Qle,hh,Q0,d,f,VH,VJ,ZA]
  |none=>
   simp -implicitDefEqProofs only [jn,Q0,List.getElem?_cons_zero,List.getElem?_cons_succ,Q2,Qw,Xw,ao,hw,g,j,Qbl h,ht,l,q ht,aq,an,Qlc,Ql (show k<=1000 by omega)];by_cases c1:k=0 <;> by_cases c:k=X.nr i-1
   ·simp -implicitDefEqProofs only [Qli c1,Qli c] at hh;simp -implicitDefEqProofs only [Qln c1,Qln c,Qlg,Qlc,Qle,hh,Q0,d,f,VH,VJ,ZA]
   ·simp -implicitDefEqProofs only [Qli c1,Qlk c] at hh;simp -implicitDefEqProofs only [Qln c1,Qlm c,Qlf,Qlc,Qle,hh,Q0,d,f,VH,VJ,ZA]
   ·simp -implicitDefEqProofs only [Qlk c1,Qli c] at hh;simp -implicitDefEqProofs only [Qlm c1,Qln c,Qlg,Qlc,Qle,hh,Q0,d,f,VH,VJ,ZA]
   ·simp -implicitDefEqProofs only [Qlk c1,Qlk c] at hh;simp -implicitDefEqProofs only [Qlm c1,Qlm c,Qlf,Qlc,Qle,hh,Q0,d,f,VH,VJ,ZA]
 ·simp only [Int.toNat_natCast];rw [YG,Qw,Q0,show ((Gr X.Ls i).length:Int)=((X.nr i:Nat):Int) from rfl,Qi,Qlc,hk]
omit h in
def occs (X:Cx) (i:Nat):List (List Occ):=QaM X.nr X.occ i
omit h in
def runs (X:Cx) (i:Nat):List Int:=QaM X.nr X.run i
theorem XS {i:Nat} (hi:i<=X.Ls.length):base X.nr i<=6:=by
 have a:=base_le h;by_cases hc:i=X.Ls.length
 ·rw [hc];exact a
 ·have:=Su (nr:=X.nr) (i:=i) (j:=X.Ls.length) (by omega);unfold L at a;omega
theorem QfV {per:Int} {Ch Sy De:LL} (hc:Vd 400 X.G.St X.G.Pt X.G.Se X.G.Li per X.skR X.Ro X.Ls Ch (X.T.map tuR) Sy De (some:Int->Option Int)=some 0):Tk 400 X.G.St X.G.Pt X.G.Se X.G.Li per X.skR X.Ro X.Ls Ch (X.T.map tuR) Sy De Tu3=some (Kb (X.occs X.L),encI (X.runs X.L),(0:Int)):=by
 have l1:=h.l1;unfold Tk;rw [hc,Q0,Qa (by rfl)];refine Qm (r:=fun m i=>ZR 400 X.Ls ((X.Ls.length:Nat):Int) X.G.St X.G.Pt X.G.Se X.G.Li per X.skR X.Ro X.Ls Ch (X.T.map tuR) Sy De (fun a=>some ([],[],a)) (fun g j b c=>some (b,c,(0:Int))) m i (Kb (X.occs i.toNat)) (encI (X.runs i.toNat))) (N:=X.Ls.length) (fun m i hi=>?_) (fun m=>?_) X.Ls.length 400 0 (by omega) (by omega)
 ·simp only [Int.toNat_natCast];have hb:=XS h (i:=i) (by omega);rw [ZR,Q8 hi,Qle,Q9,(Jv h hi).1];simp -implicitDefEqProofs only [Q0,List.getElem?_cons_zero,List.getElem?_cons_succ,Qw,Ql (show i<=1000 by omega)];exact Qd5 h hi (A:=X.occs i) (B:=X.runs i) (by unfold occs;rw [ZE];omega) (by unfold runs;rw [ZE];omega) (K:=fun u v=>ZR 400 X.Ls ((X.Ls.length:Nat):Int) X.G.St X.G.Pt X.G.Se X.G.Li per X.skR X.Ro X.Ls Ch (X.T.map tuR) Sy De (fun a=>some ([],[],a)) (fun g j b c=>some (b,c,(0:Int))) m ((i+1:Nat):Int) u v) (fun _ _ _ _=>rfl)
 ·simp only [Int.toNat_natCast];rw [ZR,Qi,Qlc];rfl
theorem QfL {per:Int} {Ch Sy De:LL} (hc:UC 400 X.G.St X.G.Pt X.G.Se X.G.Li per X.skR X.Ro X.Ls Ch (X.T.map tuR) Sy De (some:Int->Option Int)=some 0):Rq 400 X.G.St X.G.Pt X.G.Se X.G.Li per X.skR X.Ro X.Ls Ch (X.T.map tuR) Sy De Tu3=some (Kb (X.occs X.L),encI (X.runs X.L),(0:Int)):=by
 have l1:=h.l1;unfold Rq;rw [hc,Q0,Qa (by rfl)];refine Qm (r:=fun m i=>US 400 X.G.St X.G.Pt X.G.Se X.G.Li per X.skR X.Ro X.Ls Ch (X.T.map tuR) Sy De (fun f g a b=>some (a,b,(0:Int))) m i (Kb (X.occs i.toNat)) (encI (X.runs i.toNat))) (N:=X.Ls.length) (fun m i hi=>?_) (fun m=>?_) X.Ls.length 400 0 (by omega) (by omega)
 ·simp only [Int.toNat_natCast];have hb:=XS h (i:=i) (by omega);rw [US,Q8 hi,Qle,Q9,(Jv h hi).1];simp -implicitDefEqProofs only [Q0,List.getElem?_cons_zero,List.getElem?_cons_succ,Qw,Ql (show i<=1000 by omega)];exact Qek h hi (A:=X.occs i) (B:=X.runs i) (by unfold occs;rw [ZE];omega) (by unfold runs;rw [ZE];omega) (K:=fun u v=>US 400 X.G.St X.G.Pt X.G.Se X.G.Li per X.skR X.Ro X.Ls Ch (X.T.map tuR) Sy De (fun f g a b=>some (a,b,(0:Int))) m ((i+1:Nat):Int) u v) (fun _ _ _ _=>rfl)
 ·simp only [Int.toNat_natCast];rw [US,Qi,Qlc];rfl
end Cx
end Go.Vx
namespace Go.Vx
variable {R:Type} (n:Nat)
def Kf (k l m o:LL) (d:Int) (p q e i g j r:LL) (K:Int->LL->LL->Int->oP R):oP R:=Qjl R (Vd n k l m o d p q e i g j r some) fun a=>bif a !=0 then K 0 [] [] 1 else Qjl R (YC n e [] [] Tu2) fun b=>bif decide ((b.2.length:Int)>48) then K 0 [] [] 7 else gb true (Tk n k l m o d p q e i g j r Tu3) ([],[],0) fun c=>bif c.2.2 !=0 then K 0 [] [] c.2.2 else Qjl R (YH n e g b.1 c.2.1 [] some) fun s=>Qjl R (ZN n d c.1 s some) fun t=>bif !t then K 0 [] [] 13 else Qjl R (Ys n e i g j b.1 c.2.1 [] some) fun r6=>gb true (Yk n d c.1 s r6 Tu2) (0,[]) fun h=>bif h.1 !=0 then K 0 [] [] h.1 else bif decide ((h.2.length:Int)>512) then K 0 [] [] 7 else K d b.2 h.2 0
end Go.Vx
